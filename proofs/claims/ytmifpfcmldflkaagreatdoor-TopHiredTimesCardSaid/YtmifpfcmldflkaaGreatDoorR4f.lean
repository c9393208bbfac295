/- Several texts as one: Dkm Ax Hlb Mr Ss2 Sst Dkq Ek Zf Lo El Zb Ze Hlc Td Tt Te Tj Tk Tm Tu To Tq -/
import Derived.Test.YtmifpfcmldflkaaGreatDoorR4e
import Derived.Test.YtmifpfcmldflkaaGreatDoorR4c
import Derived.Test.YtmifpfcmldflkaaGreatDoorR4b
import Derived.Maps.RangeRun
import Derived.Test.YtmifpfcmldflkaaGreatDoorProg
import Derived.Ground.NamesProg
import Derived.Shelf.Sort.Plain
import Derived.Test.YtmifpfcmldflkaaGreatDoorR4a
import Derived.Shelf.Slices.In.SortNone
import Derived.Test.YtmifpfcmldflkaaGreatDoorR4d
set_option maxRecDepth 100000
set_option maxHeartbeats 4000000
namespace Go.Proofs.YtmifpfcmldflkaaGreatDoor
open Tryz
open Go.RowKit
structure nI (l:List Ny):Prop where
 fine:∀x∈l,cL4 x
 rise:∀(j:Nat) (x y:Ny),l[j]?=some x->l[j+1]?=some y->wD x y < 0
 once:∀(j k:Nat) (x y:Ny),j < k->l[j]?=some x->l[k]?=some y->¬(x.dk=y.dk/\x.no=y.no)
theorem bI8:nI []:=⟨(fun _ h=>by cases h),(fun _ _ _ h=>by simp at h),(fun _ _ _ _ _ h=>by simp at h)⟩
def rZ (e o:Ny):Bool:=o.dk.toList==e.dk.toList&&decide (o.no=e.no)
theorem dH6 {e o:Ny}:rZ e o=true↔o.dk=e.dk/\o.no=e.no:=by
 unfold rZ
 rw [Bool.and_eq_true,beq_iff_eq,decide_eq_true_eq]
 exact ⟨fun h=>⟨cR4 h.1,h.2⟩,fun h=>⟨by rw [h.1],h.2⟩⟩
theorem cP6 {α:Type} {l:List α} {i j:Nat} {x:α} (h:(l.take i)[j]?=some x):j < i/\l[j]?=some x:=by
 rw [List.getElem?_take] at h
 split at h
 ·rename_i hj;exact ⟨hj,h⟩
 ·cases h
theorem nI.snoc {l:List Ny} {i:Nat} {x:Ny} (h:nI (l.take i)) (hx:l[i]?=some x) (hf:cL4 x) (ho:∀p,0 < i->l[i - 1]?=some p->wD p x < 0) (hs:(l.take i).any (rZ x)=false):nI (l.take (i+1)):=by
 have hlt:=(List.getElem?_eq_some_iff.1 hx).1
 have hat:∀j y,(l.take (i+1))[j]?=some y->(j < i/\(l.take i)[j]?=some y)∨(j=i/\y=x):=fun j y hj=>by
  obtain ⟨h1,h2⟩:=cP6 hj
  rcases (show j < i∨j=i by omega) with h9|h9
  ·exact .inl ⟨h9,by rw [List.getElem?_take,if_pos h9];exact h2⟩
  ·subst h9;rw [hx] at h2;exact .inr ⟨rfl,by injection h2 with e;exact e.symm⟩
 refine ⟨fun y hy=>?_,fun j y z h1 h2=>?_,fun j k y z hjk h1 h2=>?_⟩
 ·rw [List.take_add_one,hx,Option.toList_some] at hy
  rcases List.mem_append.1 hy with hy|hy
  ·exact h.fine y hy
  ·rw [List.mem_singleton.1 hy];exact hf
 ·rcases hat _ _ h2 with ⟨h3,h4⟩|⟨h3,rfl⟩
  ·rcases hat _ _ h1 with ⟨_,h6⟩|⟨h5,_⟩
   ·exact h.rise j y z h6 h4
   ·omega
  ·have h5:=(cP6 h1).2
   exact ho y (by omega) (by rw [<-h3,Nat.add_sub_cancel];exact h5)
 ·rcases hat _ _ h2 with ⟨h3,h4⟩|⟨h3,rfl⟩
  ·rcases hat _ _ h1 with ⟨_,h6⟩|⟨h5,_⟩
   ·exact h.once j k y z hjk h6 h4
   ·omega
  ·rcases hat _ _ h1 with ⟨_,h6⟩|⟨h5,_⟩
   ·intro e
    rw [List.any_eq_false] at hs
    exact hs y (fK5 h6) (dH6.2 e)
   ·omega
theorem dI6 (o0:Int) (o1:ByteArray) (o2:Int) (o3:ByteArray) (e0:Int) (e1:ByteArray) (e2:Int) (e3:ByteArray) (gk:Nat) (w:World) (hk:Blk w gk 171 [.int .i64 e0,.string e1,.int .i64 e2,.string e3]):Calls prog 74 #[.agg #[.int .i64 o0,.string o1,.int .i64 o2,.string o3],.pointer (some ⟨gk,0,none⟩)] w (fun e w'=>e=.returned (.bool (rZ (⟨e0,e1,e2,e3⟩:Ny) (⟨o0,o1,o2,o3⟩:Ny)))/\w.grownBy w' none):=by
 refine cV ⟨16,w,none, []⟩ func74 U ntmps74 U (gR (X:= [fL w.heap.size none gk 171 [.int .i64 e0,.string e1,.int .i64 e2,.string e3]]) (cG hk.old cY) (cH fL.lasts cZ)) (bS (fG U U U fun g1=>bZ U (bR (bS (dW nZ U U (eI fE 0 U U U (dW nZ U U (bB (cN (v:= .string e1) fE U (fun _ hm=>(hm.fact 0 U).2) U) U (bB (eR U U) U (bP U ?_))))))))))
 rcases Bool.eq_false_or_eq_true (o1.toList==e1.toList) with hb2|hb2
 ·refine bL 9 U (fH5 hb2) ?_
  refine eG U (dW qE U U (eG U (eI fF 0 U U U (eG U (dW qE U U (eG U (bB (cN (v:= .int .i64 e2) fF U (fun _ hm=>(hm.fact 0 U).2) U) U (eG U (bB (eN U U) U (mQ U U (bZ U (bR (bM ?_)))))))))))))
  refine bK U U fun wx hm=>?_
  refine ⟨?_,hm.g⟩
  unfold rZ
  simp_all
 refine bL 9 U (fH5 hb2) (dY U (dY U (dY U (dY U (dY U (nS U U (bZ U (bR (bM ?_)))))))))
 refine bK U U fun wx hm=>?_
 refine ⟨?_,hm.g⟩
 unfold rZ
 simp_all
theorem dN1 (l:List Ny) (A:Option Addr) (n c0:Nat) (e0:Int) (e1:ByteArray) (e2:Int) (e3:ByteArray) (gk:Nat) (w:World) (hl:SlT eS 4 171 w A n l) (hn:n<=1000000) (hk:Blk w gk 171 [.int .i64 e0,.string e1,.int .i64 e2,.string e3]):Calls prog 124 #[.slice A n c0,.func (.func 74) #[] #[.pointer (some ⟨gk,0,none⟩)]] w (nC w (mH (rZ (⟨e0,e1,e2,e3⟩:Ny)) l 0)):=by
 refine cV ⟨19,w,none, []⟩ func124 U ntmps124 U (gR (X:= [bU eS 4 171 w.heap.size none A n l,fL w.heap.size none gk 171 [.int .i64 e0,.string e1,.int .i64 e2,.string e3]]) (cG hl.old (cG hk.old cY)) (cH bU.lasts (cH fL.lasts cZ))) (bS ?_)
 have hlen:=hl.len
 refine bZ U (bR (bH (bS (bP U (bB (dT vC U) U (bP U (bR (bO ?_))))))))
 refine dX (γ:=Nat) (fun (i:Nat)=>i<=n/\mH (rZ (⟨e0,e1,e2,e3⟩:Ny)) l 0=mH (rZ (⟨e0,e1,e2,e3⟩:Ny)) (l.drop i) i) (fun (i:Nat)=> [(0,.slice A n c0),(1,.func (.func 74) #[] #[.pointer (some ⟨gk,0,none⟩)]),(7,.int .i64 ((n:Nat):Int)),(8,.int .i64 ((i:Nat):Int))]) (fun (i:Nat)=>fun _=>True) (fun (i:Nat)=> []) (fun (i:Nat)=> []) (fun (i:Nat)=> [bU eS 4 171 w.heap.size none A n l,fL w.heap.size none gk 171 [.int .i64 e0,.string e1,.int .i64 e2,.string e3]]) (fun (i:Nat)=>n - i) 0 ⟨Nat.zero_le _,U⟩ ⟨U,U,U,U,trivial⟩ (fun _ hm=>hm.pick [] [] [0,1] U U) ?_
 intro i cC
 replace cC:i<=n/\mH (rZ (⟨e0,e1,e2,e3⟩:Ny)) l 0=mH (rZ (⟨e0,e1,e2,e3⟩:Ny)) (l.drop i) i:=cC
 refine bS (bB (dD U U) U (bR (bH ?_)))
 refine cE U (fun hi=>?_) (fun hi=>?_)
 ·refine bN (bD (bH (bO (bS ?_))))
  obtain ⟨b,off,hA,_,_⟩:=hl.get (by omega)
  subst hA
  obtain ⟨x,hx⟩:∃x,l[i]?=some x:=⟨_,fJ5 (by omega)⟩
  obtain ⟨o0,o1,o2,o3⟩:=x
  have hat:=bX0 (p:=rZ (⟨e0,e1,e2,e3⟩:Ny)) hx
  refine bP U (bZ U (bR (bS (bP U (bP U (bP U (bB (bT (j:=i) vC U U (by omega)) U (bB (dO (vs:= [.int .i64 o0,.string o1,.int .i64 o2,.string o3]) kM U (fun _ hm=>(hm.fact 0 U).1) hx U U) U (cL U fD4 U U (fun wx hm=>(dI6 o0 o1 o2 o3 e0 e1 e2 e3 gk wx (hm.fact 1 U).2)) (bR ?_))))))))))
  refine dC U (fun hh=>?_) (fun hh=>?_)
  ·have hq:(rZ (⟨e0,e1,e2,e3⟩:Ny) (⟨o0,o1,o2,o3⟩:Ny))=true:=by simpa using hh
   refine bS (bP U (bZ U (bR (bM (bC (bA (bA (bC (bA ?_)))))))))
   exact bK U U fun wx hm=>⟨bW (by rw [cC.2,hat,if_pos hq]),hm.g⟩
  have hq:(rZ (⟨e0,e1,e2,e3⟩:Ny) (⟨o0,o1,o2,o3⟩:Ny))=false:=by simpa using hh
  refine bN (bG (bD (bI (gN U U (bP U (bE ?_))))))
  exact cQ (i+1) ⟨by omega,by rw [cC.2,hat,if_neg (by rw [hq];decide)]⟩ (by omega) ⟨U,U,U,(cS (by omega)),trivial⟩ (fun _ hm=>hm.pick [] [] [0,1] U U)
 refine dE (bF (bF (bY (bD (bS (bZ U (bL 4 (v':= .int .i64 (-1)) U U (bR (bM ?_)))))))))
 exact bK U U fun wx hm=>⟨bW (by rw [cC.2,List.drop_eq_nil_of_le (by omega)];rfl),hm.g⟩
theorem cW3 (l:List Ny) (A:Option Addr) (n c0:Nat) (e0:Int) (e1:ByteArray) (e2:Int) (e3:ByteArray) (gk:Nat) (w:World) (hl:SlT eS 4 171 w A n l) (hn:n<=1000000) (hk:Blk w gk 171 [.int .i64 e0,.string e1,.int .i64 e2,.string e3]):Calls prog 73 #[.slice A n c0,.func (.func 74) #[] #[.pointer (some ⟨gk,0,none⟩)]] w (fun e w'=>e=.returned (.bool (l.any (rZ (⟨e0,e1,e2,e3⟩:Ny))))/\w.grownBy w' none):=by
 refine cV ⟨9,w,none, []⟩ func73 U ntmps73 U (gR (X:= [bU eS 4 171 w.heap.size none A n l,fL w.heap.size none gk 171 [.int .i64 e0,.string e1,.int .i64 e2,.string e3]]) (cG hl.old (cG hk.old cY)) (cH bU.lasts (cH fL.lasts cZ))) (bS (bZ U (bR (bS (bP U (bP U (cL U eU9 U U (fun wx hm=>(dN1 l A n c0 e0 e1 e2 e3 gk wx (hm.fact 0 U).1 hn (hm.fact 1 U).2)) (bB (mO U U) U (bZ U (bR (bM ?_)))))))))))
 exact bK U U fun wx hm=>⟨by rw [<-cO0],hm.g⟩
theorem bM6 (l:List Ny) (A:Option Addr) (n c0:Nat) (w:World) (hl:SlT eS 4 171 w A n l) (hn:n<=1000000) (hcap:n<=c0) (hsz:∀x∈l,uS x):Calls prog 29 #[.slice A n c0] w (fun e w'=>∃E,e=.returned (.int .i64 E)/\(E=0->l.length<=1000/\nI l)/\w.grownBy w' none):=by
 refine cV ⟨39,w,none, []⟩ func29 U ntmps29 U (gR (X:= [bU eS 4 171 w.heap.size none A n l]) (cG hl.old cY) (cH bU.lasts cZ)) (bS ?_)
 have hlen:=hl.len
 refine bZ U (bR (bH (bS (bP U (bB (dT vC U) U (bB (eJ U U) U (bR ?_)))))))
 refine cE U (fun hbig=>?_) (fun hbig=>?_)
 ·refine bS (bZ U (bR ?_))
  refine bM (bA ?_)
  exact bK U U fun wx hm=>⟨_,U,(fun h=>absurd h (by decide)),hm.g⟩
 refine bN (bD (bH (bS (bP U (bB (dT vC U) U (bP U (bR (bO ?_))))))))
 refine dX (γ:=Nat) (fun (i:Nat)=>i<=n/\nI (l.take i)) (fun (i:Nat)=> [(0,.slice A n c0),(9,.slice A n c0),(10,.int .i64 ((n:Nat):Int)),(11,.int .i64 ((i:Nat):Int))]) (fun (i:Nat)=>fun _=>True) (fun (i:Nat)=> []) (fun (i:Nat)=> []) (fun (i:Nat)=> [bU eS 4 171 w.heap.size none A n l]) (fun (i:Nat)=>n - i) 0 ⟨Nat.zero_le _,bI8⟩ ⟨U,U,U,U,trivial⟩ (fun _ hm=>hm.pick [] [] [0] U U) ?_
 intro i cC
 replace cC:i<=n/\nI (l.take i):=cC
 refine bS (bB (dD U U) U (bR (bH ?_)))
 refine cE U (fun hi=>?_) (fun hi=>?_)
 ·refine bN (bD (bH (bO (bS ?_))))
  obtain ⟨b,off,hA,_,_⟩:=hl.get (by omega)
  subst hA
  obtain ⟨x,hx⟩:∃x,l[i]?=some x:=⟨_,fJ5 (by omega)⟩
  obtain ⟨e0,e1,e2,e3⟩:=x
  have hez:=hsz _ (fK5 hx)
  refine bP U (bB (bT (j:=i) vC U U (by omega)) U (bB (dO (vs:= [.int .i64 e0,.string e1,.int .i64 e2,.string e3]) kM U (fun _ hm=>(hm.fact 0 U).1) hx U U) U (dH cI4 U fun g1=>bZ U (jX (cs':= [.int .i64 e0,.string e1,.int .i64 e2,.string e3]) 0 kM U U U U (bR (bH (bS (bB (cX kM U (fun _ hm=>hm.blkI 0 U) U U) U ?_))))))))
  refine jC (γ:=Int) (val:=(fun g=> .int .i64 g)) (φ:=(fun g=>g=0->cL4 (⟨e0,e1,e2,e3⟩:Ny))) (Y:=(fun g=>fun _=>True)) U fC4 U U (fun wx hm=>(cH2 e0 e1 e2 e3 wx hez).mono fun _ _ ⟨E,he,h1,hg⟩=>⟨E,he,h1,hg,trivial⟩) (fun _=>Lasts2.true_) ?_
  rintro E hfi
  refine bZ U (bR (bS (bP U (bB (gX U U) U (bR ?_)))))
  refine gI U (fun hE=>?_) (fun hE=>?_)
  ·refine bS (bP U (bZ U (bR ?_)))
   refine bM (bA (bC (bA (bA (bC (bA ?_))))))
   exact bK U U fun wx hm=>⟨_,U,(fun h=>by rw [h] at hE;simp at hE),hm.g⟩
  refine bN (bD (bH (bH ?_)))
  have hfine:=hfi (by simpa using hE)
  by_cases hi0:i=0
  ·have ho:∀p,0 < i->l[i - 1]?=some p->wD p (⟨e0,e1,e2,e3⟩:Ny) < 0:=fun _ h=>absurd h (by omega)
   refine gd (fun wz=>True) mixed (fun _ _=>trivial) fun z=>wq 0 U (bJ U) (wq 1 U (eJ U U) (dG 22 (v':= .bool false) U (fH5 (by simp;omega)) (wq 2 U (bJ U) (fC 3 U (fC 4 U (fC 5 U (fC 6 U (fC 7 U (eC 8 U (dY U (bE (nw 12 511 (fun _ _=>trivial) fun z=>fC 9 U (fC 10 U (wq 11 U (fN U U) (jH (bD (jU U (bN (bD (bS (bP U (bP U (bB (uN (hi:=i) vC U U U (by omega)) U (bB (pW U U) U (cL U fH1 U U (fun wx hm=>(cW3 (l.take i) _ i _ e0 e1 e2 e3 _ wx ((hm.fact 1 U).1.takeT (by omega)) (by omega) (hm.blkI 0 U))) (bR ?_))))))))))))))))))))))))))
   refine dC U (fun hh=>?_) (fun hh=>?_)
   ·have hs:((l.take i).any (rZ (⟨e0,e1,e2,e3⟩:Ny)))=true:=by simpa using hh
    refine bS (bZ U (bR (bM (bC (bA (bA (bC (bA ?_))))))))
    exact bK U U fun wx hm=>⟨_,U,(fun h=>absurd h (by decide)),hm.g⟩
   have hs:((l.take i).any (rZ (⟨e0,e1,e2,e3⟩:Ny)))=false:=by simpa using hh
   refine bN (bG (bD (bI (gN U U (bP U (bE ?_))))))
   exact cQ (i+1) ⟨by omega,cC.2.snoc hx hfine ho (by simpa using hs)⟩ (by omega) ⟨U,U,U,(cS (by omega)),trivial⟩ (fun _ hm=>hm.pick [] [] [1] U U)
  obtain ⟨pe,hpe⟩:∃x,l[i - 1]?=some x:=⟨_,fJ5 (by omega)⟩
  have hpz:=hsz _ (fK5 hpe)
  obtain ⟨p0,p1,p2,p3⟩:=pe
  refine gd (fun wz=>Blk wz g1 171 [.int .i64 e0,.string e1,.int .i64 e2,.string e3]/\(bU eS 4 171 w.heap.size none (some ⟨b,off,none⟩) n l) wz/\True) mixed (fun _ hm=>⟨hm.bl 0,hm.fa 1,trivial⟩) fun z=>wq 0 U (bJ U) (wq 1 U (eJ U U) (dG 22 (v':= .bool true) U (fH5 (by simp;omega)) (wq 2 U (bJ U) (fI 3 U (bJ U) (fI 4 U (bJ U) (fI 5 U (ov_sub U U (by omega) (by omega)) (dG 26 (v':= .int .i64 ((i - 1:Nat):Int)) U (fI5 (by omega)) (fI 6 U (bT (j:=i - 1) vC U U (by omega)) (fI 7 U (dO (vs:= [.int .i64 p0,.string p1,.int .i64 p2,.string p3]) kM U (fun _ hm=>(hm.2.1).1) hpe U U) (fI 8 U (cX kM U (fun _ hm=>hm.1) U U) (eC 9 U (eG U (cL U fG1 U U (fun wx hm=>(bI0 p0 p1 p2 p3 e0 e1 e2 e3 wx hpz hez)) (bE (nw 12 1023 (fun _ hm=>⟨hm.bl 0,hm.fa 1,trivial⟩) fun z=>fI 10 U (mO U U) (wq 11 U (fD U U) (jH (bD ?_))))))))))))))))))
  refine cE U (fun ho9=>?_) (fun ho9=>?_)
  ·refine bS (bZ U (bR ?_))
   refine bM (bA (bC (bA (bA (bC (bA ?_))))))
   exact bK U U fun wx hm=>⟨_,U,(fun h=>absurd h (by decide)),hm.g⟩
  refine bN (bD (bS ?_))
  have ho:∀p,0 < i->l[i - 1]?=some p->wD p (⟨e0,e1,e2,e3⟩:Ny) < 0:=fun p _ hp=>by
   rw [hpe] at hp;injection hp with e;rw [<-e]
   omega
  refine bP U (bP U (bB (uN (hi:=i) vC U U U (by omega)) U (bB (pW U U) U (cL U fH1 U U (fun wx hm=>(cW3 (l.take i) _ i _ e0 e1 e2 e3 _ wx ((hm.fact 1 U).1.takeT (by omega)) (by omega) (hm.blkI 0 U))) (bR ?_)))))
  refine dC U (fun hh=>?_) (fun hh=>?_)
  ·have hs:((l.take i).any (rZ (⟨e0,e1,e2,e3⟩:Ny)))=true:=by simpa using hh
   refine bS (bZ U (bR (bM (bC (bA (bA (bC (bA ?_))))))))
   exact bK U U fun wx hm=>⟨_,U,(fun h=>absurd h (by decide)),hm.g⟩
  have hs:((l.take i).any (rZ (⟨e0,e1,e2,e3⟩:Ny)))=false:=by simpa using hh
  refine bN (bG (bD (bI (gN U U (bP U (bE ?_))))))
  exact cQ (i+1) ⟨by omega,cC.2.snoc hx hfine ho (by simpa using hs)⟩ (by omega) ⟨U,U,U,(cS (by omega)),trivial⟩ (fun _ hm=>hm.pick [] [] [1] U U)
 refine dE (bF (bF (bY (bD (bS (bZ U (bR (bM ?_))))))))
 exact bK U U fun wx hm=>⟨_,U,(fun _=>⟨by omega,by have h9:=cC.2;rw [List.take_of_length_le (by omega)] at h9;exact h9⟩),hm.g⟩
def eC2:Int->List Sa->Prop
 |_, []=>True
 |lo,s::r=>lo<=s.since/\s.since<=5761440/\(0<=s.st/\s.st<=5)/\eC2 s.since r
theorem bL9 {ss:List St} {vs:List Vh} {v:ByteArray}:∀{l:List Ev} {s:Sa} {lo:Int},(∀x∈l,lo<=x.at_)->bY2 l->(∀x∈l,zZ ss vs x)->eC2 lo (pM v l s)
 | [],_,_,_,_,_=>trivial
 |x::r,s,lo,h0,hs,hf=>by
  have hx:=(hf x (List.mem_cons_self ..)).at_
  have hl:=h0 x (List.mem_cons_self ..)
  have hr:∀y∈r,x.at_<=y.at_:=fun y hy=>by
   have h:=vU.1 ((List.pairwise_cons.1 hs).1 y hy)
   omega
  have hr0:∀y∈r,lo<=y.at_:=fun y hy=>h0 y (List.mem_cons_of_mem _ hy)
  have hs2:bY2 r:=(List.pairwise_cons.1 hs).2
  have hf2:∀y∈r,zZ ss vs y:=fun y hy=>hf y (List.mem_cons_of_mem _ hy)
  unfold pM
  split
  ·split
   ·have hn:=cJ8 x
    refine ⟨by rw [rL];exact hl,by rw [rL];omega,⟨by omega,by omega⟩,?_⟩
    rw [rL]
    exact bL9 hr hs2 hf2
   ·exact bL9 hr0 hs2 hf2
  ·exact bL9 hr0 hs2 hf2
theorem dR6 {ss:List St} {vs:List Vh} {v:ByteArray} {el:List Ev} (hs:bY2 el) (hf:∀x∈el,zZ ss vs x):eC2 0 (wG el v):=
 ⟨Int.le_refl _,by decide,⟨by decide,by decide⟩,bL9 (fun x hx=>(hf x hx).at_.1) hs hf⟩
def hrT (a b:Int):List Tr->Int
 | []=>0
 |y::r=>max 0 (min b (if y.to_ < 0 then 5761440 else y.to_) - max a y.fr)+hrT a b r
theorem dF3 {a b:Int}:∀{l m:List Tr},hrT a b (l++m)=hrT a b l+hrT a b m
 | [],m=>by show _=0+_;rw [Int.zero_add];rfl
 |y::r,m=>by
  show _+hrT a b (r++m)=_+hrT a b r+_
  rw [dF3];omega
theorem cI3 {a b:Int}:∀{l:List Sa} {lo:Int} {p:ByteArray},0<=lo->eC2 lo l->hrT a b (trR p l)=stT a b 2 l
 | [],_,_,_,_=>rfl
 |s::r,lo,p,h0,h=>by
  have hs:0<=s.since:=by have:=h.1;omega
  have ih:=cI3 (a:=a) (b:=b) (p:=s.sta) hs h.2.2.2
  unfold trR stT
  rw [dF3,ih]
  congr 1
  by_cases h2:s.st=2
  ·rw [if_pos h2,if_pos h2]
   show max 0 (min b (if cS1 r < 0 then 5761440 else cS1 r) - max a s.since)+0=cmn a b s.since (dS2 r)
   have e:(if cS1 r < 0 then 5761440 else cS1 r)=dS2 r:=by
    cases r with
    |nil=>rfl
    |cons t u=>
     have ht:s.since<=t.since:=h.2.2.2.1
     show (if t.since < 0 then 5761440 else t.since)=t.since
     rw [if_neg (by omega)]
   rw [e,Int.add_zero];rfl
  ·rw [if_neg h2,if_neg h2];rfl
theorem dI9 {ss:List St} {vs:List Vh} {v:ByteArray} {el:List Ev} {a b:Int} (hs:bY2 el) (hf:∀x∈el,zZ ss vs x):hrT a b (dA2 el v)=spT a b el v 2:=
 cI3 (Int.le_refl 0) (dR6 hs hf)
theorem dH4 {k:ByteArray}:∀{l:List Vh} {f:ByteArray->Option ByteArray},((l.foldl (fun f v=>fP f v.key v.cls) f) k).isSome=true->(f k).isSome=true∨∃v∈l,v.key=k
 | [],_,h=> .inl h
 |v::r,f,h=>by
  rcases dH4 (l:=r) h with h|⟨u,hu,e⟩
  ·by_cases e:k=v.key
   ·exact .inr ⟨v,List.mem_cons_self ..,e.symm⟩
   ·dsimp only at h;rw [dB _ _ e] at h;exact .inl h
  ·exact .inr ⟨u,List.mem_cons_of_mem _ hu,e⟩
theorem cC4 {l:List Vh} {k:ByteArray} (h:(pY l k).isSome=true):∃v∈l,v.key=k:=(dH4 h).resolve_left fun h=>by cases h
theorem dC4 {k:ByteArray}:∀{l:List St} {f:ByteArray->Option Bool},((l.foldl (fun f v=>fP f v.key true) f) k).getD false=true->(f k).getD false=true∨∃v∈l,v.key=k
 | [],_,h=> .inl h
 |v::r,f,h=>by
  rcases dC4 (l:=r) h with h|⟨u,hu,e⟩
  ·by_cases e:k=v.key
   ·exact .inr ⟨v,List.mem_cons_self ..,e.symm⟩
   ·dsimp only at h;rw [dB _ _ e] at h;exact .inl h
  ·exact .inr ⟨u,List.mem_cons_of_mem _ hu,e⟩
theorem bH2 {l:List St} {k:ByteArray} (h:(qL l k).getD false=true):∃v∈l,v.key=k:=(dC4 h).resolve_left fun h=>by cases h
def EvG (V:ByteArray->Option ByteArray) (T:ByteArray->Option Bool) (x:Ev):Prop:=(V x.veh).isSome=true/\(T x.sta).getD false=true/\(1<=x.kd/\x.kd<=8)/\(x.kd=6->(T x.to_).getD false=true/\x.to_≠x.sta)/\(x.kd≠6->x.to_=⟨#[]⟩)
def LgG (V:ByteArray->Option ByteArray) (lg:List Ev) (g:Lg):Prop:=(V g.veh).isSome=true/\gO g.out.at_ g.veh g.out.st∈lg/\(g.inn.at_≠ -1->eQ g.inn.at_ g.veh g.inn.st∈lg)
theorem LgG.more {V:ByteArray->Option ByteArray} {lg lg':List Ev} {g:Lg} (h:LgG V lg g) (hs:∀x∈lg,x∈lg'):LgG V lg' g:=⟨h.1,hs _ h.2.1,fun e=>hs _ (h.2.2 e)⟩
theorem k2:1<=(2:Int)/\(2:Int)<=8:=⟨by decide,by decide⟩
theorem k3:1<=(3:Int)/\(3:Int)<=8:=⟨by decide,by decide⟩
structure LI (V:ByteArray->Option ByteArray) (T:ByteArray->Option Bool) (l:List Int) (σ:Os):Prop where
 lf:∀x∈σ.lg,EvG V T x/\x.at_∈l
 hv:∀k h,σ.fh k=some h->hireE (hrG h)=0/\dL4 h/\∀g∈h.legs,LgG V σ.lg g
 ps:σ.lg.Pairwise fun x y=>x.veh=y.veh->x.at_ < y.at_
section
variable {V:ByteArray->Option ByteArray} {T:ByteArray->Option Bool} {l:List Int} {σ:Os} {a:Int}
theorem LI.say {x:Ev} (h:LI V T l σ) (hk:uG σ) (ha:∀b∈l,b<=a) (hx:x.at_=a) (hg:EvG V T x) (hc:(σ.fa (x.veh,x.at_)).getD false=false):(∀y∈σ.lg++ [x],EvG V T y/\y.at_∈l++ [a])/\(σ.lg++ [x]).Pairwise fun x y=>x.veh=y.veh->x.at_ < y.at_:=by
 refine ⟨fun y hy=>?_,?_⟩
 ·rcases List.mem_append.1 hy with hy|hy
  ·exact ⟨(h.lf y hy).1,List.mem_append_left _ (h.lf y hy).2⟩
  ·rw [List.mem_singleton.1 hy];exact ⟨hg,List.mem_append_right _ (List.mem_singleton.2 hx)⟩
 ·refine List.pairwise_append.2 ⟨h.ps,List.pairwise_singleton ..,fun y hy z hz e=>?_⟩
  rw [List.mem_singleton.1 hz] at e ⊢
  have h1:=ha _ (h.lf y hy).2
  have h2:y.at_≠x.at_:=fun e2=>by
   have:=hk.on y hy
   rw [e,e2,hc] at this;cases this
  omega
theorem LI.grow (h:LI V T l σ):∀x∈σ.lg,EvG V T x/\x.at_∈l++ [a]:=fun x hx=>⟨(h.lf x hx).1,List.mem_append_left _ (h.lf x hx).2⟩
theorem LI.step {ck:Bk->Prop} {τ:Os} (h:LI V T l σ) (hk:uG σ) (ha:∀b∈l,b<=a) (hs:kU V T ck a σ τ):LI V T (l++ [a]) τ:=by
 have sub:∀{es:List Ev},∀x∈σ.lg,x∈σ.lg++es:=fun x hx=>List.mem_append_left _ hx
 cases hs with
 |same=>exact ⟨h.grow,h.hv,h.ps⟩
 |ev x hx _ hkd hv hst h6 h7 hc=>
  obtain ⟨h1,h2⟩:=h.say hk ha hx ⟨hv,hst,⟨by simp at hkd;omega,by simp at hkd;omega⟩,h6,h7⟩ hc.1
  exact ⟨h1,fun k y hy=>⟨(h.hv k y hy).1,(h.hv k y hy).2.1,fun g hg=>((h.hv k y hy).2.2 g hg).more sub⟩,h2⟩
 |book b=>exact ⟨h.grow,h.hv,h.ps⟩
 |cancel k=>exact ⟨h.grow,h.hv,h.ps⟩
 |start y v r hok he hl hr hn hv hst hc=>
  obtain ⟨h1,h2⟩:=h.say (x:=gO a v r.st) hk ha rfl ⟨hv,hst,k2,(fun e=>absurd e (by decide:¬(2:Int)=6)),fun _=>rfl⟩ hc.1
  refine ⟨h1,fun k z hz=>?_,h2⟩
  rcases eK hz with ⟨rfl,rfl⟩|hz
  ·refine ⟨he,hok,fun g hg=>?_⟩
   rw [hl] at hg
   rw [List.mem_singleton.1 hg]
   refine ⟨hv,?_,fun e=>absurd U e⟩
   show gO r.at_ v r.st∈σ.lg++ [gO a v r.st]
   rw [hr];exact List.mem_append_right _ (List.mem_cons_self ..)
  ·exact ⟨(h.hv k z hz).1,(h.hv k z hz).2.1,fun g hg=>((h.hv k z hz).2.2 g hg).more sub⟩
 |extend k0 y y' hy0 hok he hl=>
  refine ⟨h.grow,fun k z hz=>?_,h.ps⟩
  rcases eK hz with ⟨rfl,rfl⟩|hz
  ·exact ⟨he,hok,fun g hg=>(h.hv k y hy0).2.2 g (hl ▸ hg)⟩
  ·exact h.hv k z hz
 |close k0 y y' g r hy0 hok he ho hg hl _ hr hst hc=>
  obtain ⟨y1,y2,y3⟩:=h.hv k0 y hy0
  rw [<-y2.2.2.2] at hg
  obtain ⟨m,hm⟩:=yN hg
  have hgm:g∈y.legs:=by rw [hm];exact List.mem_append_right _ (List.mem_singleton.2 rfl)
  obtain ⟨h1,h2⟩:=h.say (x:=eQ a g.veh r.st) hk ha rfl ⟨(y3 g hgm).1,hst,k3,(fun e=>absurd e (by decide:¬(3:Int)=6)),fun _=>rfl⟩ hc.1
  refine ⟨h1,fun k z hz=>?_,h2⟩
  rcases eK hz with ⟨rfl,rfl⟩|hz
  ·refine ⟨he,hok,fun u hu=>?_⟩
   rw [hl,hm,bL1] at hu
   rcases List.mem_append.1 hu with hu|hu
   ·exact (y3 u (by rw [hm];exact List.mem_append_left _ hu)).more sub
   ·rw [List.mem_singleton.1 hu]
    refine ⟨(y3 g hgm).1,sub _ (y3 g hgm).2.1,fun _=>?_⟩
    show eQ r.at_ g.veh r.st∈σ.lg++ [eQ a g.veh r.st]
    rw [hr];exact List.mem_append_right _ (List.mem_cons_self ..)
  ·exact ⟨(h.hv k z hz).1,(h.hv k z hz).2.1,fun g hg=>((h.hv k z hz).2.2 g hg).more sub⟩
 |swap k0 y y' g r q v hy0 hok he ho hg hl _ hr hq hqr hst hv hc1 hc2=>
  obtain ⟨y1,y2,y3⟩:=h.hv k0 y hy0
  rw [<-y2.2.2.2] at hg
  obtain ⟨m,hm⟩:=yN hg
  have hgm:g∈y.legs:=by rw [hm];exact List.mem_append_right _ (List.mem_singleton.2 rfl)
  obtain ⟨h1,h2⟩:=h.say (x:=eQ a g.veh r.st) hk ha rfl ⟨(y3 g hgm).1,hst,k3,(fun e=>absurd e (by decide:¬(3:Int)=6)),fun _=>rfl⟩ hc1.1
  have hne:v≠g.veh:=fun e=>by
   have h1:=hc1.2
   have h2:=hc2.2
   have e:(gO a v r.st).veh=(eQ a g.veh r.st).veh:=e
   rw [e] at h2
   rcases cH3 h1 with q1|q1
   ·rcases cH3 h2 with q2|q2
    ·exact absurd q2.1 (by decide:¬(2:Int)=3)
    ·exact q2.2 q1.2
   ·exact absurd U q1.1
  have hin1:eQ a g.veh r.st∈(σ.lg++ [eQ a g.veh r.st])++ [gO a v r.st]:=List.mem_append_left _ (List.mem_append_right _ (List.mem_cons_self ..))
  have hin2:gO a v r.st∈(σ.lg++ [eQ a g.veh r.st])++ [gO a v r.st]:=List.mem_append_right _ (List.mem_cons_self ..)
  have sub2:∀x∈σ.lg,x∈(σ.lg++ [eQ a g.veh r.st])++ [gO a v r.st]:=fun x hx=>List.mem_append_left _ (List.mem_append_left _ hx)
  refine ⟨fun x hx=>?_,fun k z hz=>?_,?_⟩
  ·rcases List.mem_append.1 hx with hx|hx
   ·exact h1 x hx
   ·rw [List.mem_singleton.1 hx]
    exact ⟨⟨hv,hst,k2,(fun e=>absurd e (by decide:¬(2:Int)=6)),fun _=>U⟩,List.mem_append_right _ (List.mem_singleton.2 U)⟩
  ·rcases eK hz with ⟨rfl,rfl⟩|hz
   ·refine ⟨he,hok,fun u hu=>?_⟩
    unfold gZ at hl
    rw [hl,hm,bL1] at hu
    rcases List.mem_append.1 hu with hu|hu
    ·rcases List.mem_append.1 hu with hu|hu
     ·exact (y3 u (by rw [hm];exact List.mem_append_left _ hu)).more sub2
     ·rw [List.mem_singleton.1 hu]
      refine ⟨(y3 g hgm).1,sub2 _ (y3 g hgm).2.1,fun _=>?_⟩
      show eQ r.at_ g.veh r.st∈_
      rw [hr];exact hin1
    ·rw [List.mem_singleton.1 hu]
     refine ⟨hv,?_,fun e=>absurd U e⟩
     show gO q.at_ v q.st∈_
     rw [hq,hqr];exact hin2
   ·exact ⟨(h.hv k z hz).1,(h.hv k z hz).2.1,fun g hg=>((h.hv k z hz).2.2 g hg).more sub2⟩
  ·refine List.pairwise_append.2 ⟨h2,List.pairwise_singleton ..,fun x hx z hz e=>?_⟩
   rw [List.mem_singleton.1 hz] at e ⊢
   rcases List.mem_append.1 hx with hx|hx
   ·have q1:=ha _ (h.lf x hx).2
    have q2:x.at_≠a:=fun e2=>by
     have:=hk.on x hx
     have e:x.veh=v:=e
     rw [e,e2] at this
     have h9:(σ.fa (v,a)).getD false=false:=hc2.1
     rw [h9] at this;cases this
    show x.at_ < a
    omega
   ·rw [List.mem_singleton.1 hx] at e
    exact absurd e.symm hne
end
theorem pR.li {V:ByteArray->Option ByteArray} {T:ByteArray->Option Bool} {ck:Bk->Prop} {l:List Int} {σ:Os} (h:pR V T ck l σ) (hl:∀a∈l,0<=a) (hs:l.Pairwise (·<=·)):LI V T l σ:=by
 induction h with
 |nil=>exact ⟨(fun _ h=>by cases h),(fun _ _ h=>by cases h),List.Pairwise.nil⟩
 |snoc l a σ τ h1 h2 ih=>
  obtain ⟨s1,_,s3⟩:=List.pairwise_append.1 hs
  have hl1:∀a∈l,0<=a:=fun x hx=>hl x (List.mem_append_left _ hx)
  exact (ih hl1 s1).step h1.facts.2.1 (fun b hb=>s3 b hb a (List.mem_singleton.2 U)) h2
theorem eO5:∀{l m:List Ev},bY2 l->bY2 m->l.Perm m->l=m
 | [],m,_,_,h=>h.nil_eq
 |x::r, [],_,_,h=>by have:=h.length_eq;simp at this
 |x::r,y::s,h1,h2,h=>by
  obtain ⟨a1,a2⟩:=List.pairwise_cons.1 h1
  obtain ⟨b1,b2⟩:=List.pairwise_cons.1 h2
  have e:x=y:=by
   rcases List.mem_cons.1 (h.mem_iff.1 (List.mem_cons_self ..):x∈y::s) with e|hx
   ·exact e
   ·rcases List.mem_cons.1 (h.mem_iff.2 (List.mem_cons_self ..):y∈x::r) with e|hy
    ·exact e.symm
    ·exact absurd (uU (a1 y hy) (b1 x hx)) bQ4
  subst e
  rw [eO5 a2 b2 ((List.perm_cons x).1 h)]
theorem cN6 {l:List Ev} (h:l.Pairwise fun x y=>x.veh=y.veh->x.at_ < y.at_):bY2 (dR dU l):=by
 refine cL0 (R:=fun a b=>jQ a b < 0) (lt:=dU) (fun _ _ _ h1 h2=>uU h1 h2) (h.imp fun {y x} hp=>⟨fun e=>of_decide_eq_true e,fun e=>?_⟩)
 have h1:¬jQ x y < 0:=of_decide_eq_false e
 refine bL0 h1 fun h0=>?_
 rw [xX] at h0
 have:=hp h0.2.symm
 omega
theorem xT {v:ByteArray}:∀{l:List Ev} {s:Sa},pM v (l.filter fun x=>x.veh.toList==v.toList) s=pM v l s
 | [],_=>rfl
 |x::r,s=>by
  by_cases hv:(x.veh.toList==v.toList)=true
  ·rw [List.filter_cons_of_pos (p:=fun x:Ev=>x.veh.toList==v.toList) hv]
   unfold pM
   rw [if_pos hv,if_pos hv,xT,xT]
  ·rw [List.filter_cons_of_neg (p:=fun x:Ev=>x.veh.toList==v.toList) hv,xT]
   have e:pM v (x::r) s=(if (x.veh.toList==v.toList)=true then (if gB s x=true then jV x::pM v r (jV x) else pM v r s) else pM v r s):=rfl
   rw [e,if_neg hv]
theorem cW8 {l:List Ev} {v:ByteArray} (h:l.Pairwise fun x y=>x.veh=y.veh->x.at_ < y.at_):wG (dR dU l) v=wG l v:=by
 unfold wG
 rw [<-xT,<-xT (l:=l)]
 congr 1
 refine congrArg (fun z=>pM v z pH) (eO5 ((cN6 h).sublist List.filter_sublist) ?_ ((mM dU l).filter _))
 refine ((List.pairwise_filter).2 (h.imp fun {x y} hp=>fun hx hy=>?_))
 rw [vU]
 exact .inl (hp ((wZ.1 hx).trans (wZ.1 hy).symm))
theorem dA4 {ss:List St} {vs:List Vh}:∀{l:List Ev} {p:Option Ev},bY2 l->(∀x∈l,evO p x=false)->(∀x∈l,zH ss vs none x=0)->scanE (zH ss vs) p l=0
 | [],_,_,_,_=>rfl
 |x::r,p,hs,hp,hf=>by
  obtain ⟨h1,h2⟩:=List.pairwise_cons.1 hs
  have hx:=hf x (List.mem_cons_self ..)
  have e:zH ss vs p x=0:=by
   have h0:evO none x=false:=rfl
   unfold zH at hx ⊢
   rw [h0] at hx
   rw [hp x (List.mem_cons_self ..)];exact hx
  show (if zH ss vs p x=0 then scanE (zH ss vs) (some x) r else zH ss vs p x)=0
  rw [if_pos e]
  refine dA4 h2 (fun y hy=>?_) fun y hy=>hf y (List.mem_cons_of_mem _ hy)
  show decide (0<=jQ x y)=false
  have:=h1 y hy
  exact decide_eq_false (by omega)
theorem dJ8 {sl:List St} {vl:List Vh} {x:Ev} (h:EvG (pY vl) (qL sl) x) (ha:0<=x.at_/\x.at_<=5761439) (hs:∀s∈sl,s.key≠⟨#[]⟩):zH sl vl none x=0:=by
 obtain ⟨h1,h2,h3,h4,h5⟩:=h
 obtain ⟨u,hu,e1⟩:=cC4 h1
 obtain ⟨t,ht,e2⟩:=bH2 h2
 have g1:decide (mH (zY x.veh) vl 0 < 0)=false:=by
  refine decide_eq_false fun q=>?_
  rcases qQ (p:=zY x.veh) vl 0 with ⟨_,q2⟩|⟨j,y,q2,_⟩
  ·have:=q2 u hu
   unfold zY at this
   rw [e1] at this
   simp at this
  ·omega
 have any:∀{t:St} {k:ByteArray},t∈sl->t.key=k->sl.any (stP k)=true:=fun {t k} ht e=>List.any_eq_true.2 ⟨t,ht,by unfold stP;rw [e];exact beq_self_eq_true _⟩
 have g2:=any ht e2
 have g3:inB x.at_ 0 5761439=true:=mG.2 ha
 have g4:inB x.kd 1 8=true:=mG.2 h3
 have g5:x.to_≠x.sta:=by
  by_cases e:x.kd=6
  ·exact (h4 e).2
  ·rw [h5 e,<-e2];exact (hs t ht).symm
 have g6:(x.to_.toList==x.sta.toList)=false:=by
  cases hq:(x.to_.toList==x.sta.toList) with
  |false=>rfl
  |true=>exact absurd (wZ.1 hq) g5
 have g7:(!decide (x.kd=6)&& !(x.to_.toList==(⟨#[]⟩:ByteArray).toList))=false:=by
  by_cases e:x.kd=6
  ·rw [decide_eq_true e];rfl
  ·rw [h5 e];simp
 have g8:(decide (x.kd=6)&& !sl.any (stP x.to_))=false:=by
  by_cases e:x.kd=6
  ·obtain ⟨t2,ht2,e3⟩:=bH2 (h4 e).1
   rw [any ht2 e3];simp
  ·rw [decide_eq_false e];rfl
 unfold zH
 rw [g1,g2,g3,g4,g6,g7,g8]
 rfl
theorem eU3 {sl:List St} {vl:List Vh} {ck:Bk->Prop} {l:List Int} {σ:Os} (h:pR (pY vl) (qL sl) ck l σ) (hl:∀a∈l,0<=a/\a<=5761439) (hs:l.Pairwise (·<=·)) (hn:l.length<=1000) (hk:∀s∈sl,s.key≠⟨#[]⟩):uC sl vl (dR dU σ.lg)=0:=by
 have li:=h.li (fun a ha=>(hl a ha).1) hs
 unfold uC
 rw [if_neg (by have:=h.facts.2.2;rw [qG];omega)]
 exact dA4 (cN6 li.ps) (fun _ _=>U) fun x hx=>dJ8 (li.lf x (bG7.1 hx)).1 (hl _ (li.lf x (bG7.1 hx)).2) hk
def trT (φ:Int->Int->Int):List Tr->Int
 | []=>0
 |y::r=>φ y.fr y.to_+trT φ r
theorem dG4 {φ:Int->Int->Int}:∀{l m:List Tr},trT φ (l++m)=trT φ l+trT φ m
 | [],m=>by show _=0+_;rw [Int.zero_add];rfl
 |y::r,m=>by
  have ih:=dG4 (φ:=φ) (l:=r) (m:=m)
  show _+trT φ (r++m)=_+trT φ r+_
  rw [ih];omega
theorem eI1 {φ:Int->Int->Int}:∀{l:List Sa} {p:ByteArray},trT φ (trR p l)=trS φ l
 | [],_=>rfl
 |s::r,p=>by
  have ih:=eI1 (φ:=φ) (l:=r) (p:=s.sta)
  unfold trR trS
  rw [dG4,ih]
  by_cases h:s.st=2
  ·rw [if_pos h,if_pos h]
   show φ s.since (cS1 r)+0+_=_
   omega
  ·rw [if_neg h,if_neg h];rfl
theorem dG6 {V:ByteArray->Option ByteArray} {T:ByteArray->Option Bool} {ck:Bk->Prop} {l:List Int} {σ:Os} (h:pR V T ck l σ) (hl:∀a∈l,0<=a) (hs:l.Pairwise (·<=·)) (φ:Int->Int->Int) (v:ByteArray) {ks:List ByteArray} (hn:ks.Nodup) (hk:∀k,(σ.fh k).isSome=true->k∈ks):trT φ (dA2 (dR dU σ.lg) v)=kS φ v σ.fh ks:=by
 unfold dA2
 rw [eI1,cW8 (h.li hl hs).ps]
 exact (h.hi hl).sm φ v ks hn hk
theorem eJ1 {a b:Int}:∀{l:List Tr},hrT a b l=trT (fun fr to_=>max 0 (min b (if to_ < 0 then 5761440 else to_) - max a fr)) l
 | []=>rfl
 |y::r=>by
  have ih:=eJ1 (a:=a) (b:=b) (l:=r)
  show _+hrT a b r=_+trT _ r
  rw [ih]
open Go.RowKit Go.MapKept
open Go.ChangeMaps (setBlock)
section
variable {κ α:Type}
def zF (enc:α->Value) (ek:κ->Value) (N g r:Nat) (f:κ->Option α) (ks:List κ) (m:Nat) (w:World):Prop:=
 N<=r/\∃es ck since seen c0,w.heap[r]?=some (.mapIter (some g) since seen c0)/\w.heap[g]?=some (.map es ck)/\jW enc ek f es ck/\(∀x∈es.toList,x.born < since)/\since<=c0/\since<=ck/\(leftOf es seen).size=m/\ks.Nodup/\
  (∀k,k∈ks↔∃e∈es.toList,e.key=ek k/\seen.contains e.born=true)/\∀k,ks.getLast?=some k->∃e∈es.toList,∃(s0:Array Nat) (v:α),seen=s0.push e.born/\c0=ck/\e.key=ek k/\f k=some v/\e.val=enc v
theorem zF.kept {enc:α->Value} {ek:κ->Value} {N g r:Nat} {f:κ->Option α} {ks:List κ} {m:Nat} {w w':World} (h:zF enc ek N g r f ks m w) (h1:w'.heap[r]?=w.heap[r]?) (h2:w'.heap[g]?=w.heap[g]?):zF enc ek N g r f ks m w':=by
 obtain ⟨h0,es,ck,since,seen,c0,hr,hg,hx⟩:=h
 exact ⟨h0,es,ck,since,seen,c0,h1.trans hr,h2.trans hg,hx⟩
theorem zF.lasts2 {enc:α->Value} {ek:κ->Value} {N M g r:Nat} {row:Option Nat} {Tt:List TypeId} {f:κ->Option α} {ks:List κ} {m:Nat}:Lasts2 M row Tt (zF enc ek N g r f ks m):=
 ⟨fun w w' h hx=>by
  have hx':=hx
  obtain ⟨_,es,ck,since,seen,c0,hr,hg,_⟩:=hx
  exact hx'.kept (h.block r (Array.getElem?_eq_some_iff.1 hr).1 (by simp)) (h.block g (Array.getElem?_eq_some_iff.1 hg).1 (by simp)),
  fun w w' q T c h1 _ _ h3 hx=>by
   have hx':=hx
   obtain ⟨_,es,ck,since,seen,c0,hr,hg,_⟩:=hx
   refine hx'.kept (h3.block r (Array.getElem?_eq_some_iff.1 hr).1 (fun e=>?_)) (h3.block g (Array.getElem?_eq_some_iff.1 hg).1 (fun e=>?_))
   ·have e2:r=q:=by injection e
    subst e2
    rw [h1] at hr;cases hr
   ·have e2:g=q:=by injection e
    subst e2
    rw [h1] at hg;cases hg⟩
theorem cI0 {w:World} {r:Nat} {o:Obj} (h:w.heap[r]?=some o) (o':Obj):(setBlock w r o').heap[r]?=some o'/\∀i,i≠r->(setBlock w r o').heap[i]?=w.heap[i]?:=by
 have hlt:=(Array.getElem?_eq_some_iff.1 h).1
 refine ⟨?_,fun i hi=>?_⟩
 ·unfold setBlock
  dsimp only
  rw [Array.getElem?_setIfInBounds_self_of_lt hlt]
 ·unfold setBlock
  dsimp only
  rw [Array.getElem?_setIfInBounds_ne (fun e=>hi e.symm)]
theorem dE5 {w:World} {r:Nat} {o:Obj} (h:w.heap[r]?=some o) (o':Obj):w.grownBy (setBlock w r o') (some r):=
 ⟨rfl,rfl,rfl,by simp [setBlock],fun i _ hi=>(cI0 h o').2 i (fun e=>hi (by rw [e]))⟩
end
section
variable {P:Program} {c:Cx} {eU:Array Oper} {Q:Exit->Act->World->Prop} {rest:List Oper} {S:List (Nat×Value)} {K:World->Prop} {L:List (Nat×TypeId×List Value)} {O:List Own} {X X':List (World->Prop)} {Z:World->Prop} {nn:Nat}
variable {d:Nat} {ty:TypeId} {pos:String} {aft:Array Edge} {κ α:Type} {enc:α->Value} {ek:κ->Value} {f:κ->Option α}
theorem gM.itered {w:World} {r:Nat} {a:Option Nat} {b:Nat} {s:Array Nat} {q:Nat} {o':Obj} (h:gM c K L O X w) (hg:c.w0.heap.size<=r) (hb:w.heap[r]?=some (.mapIter a b s q)) (hX:∀A∈X',A (setBlock w r o')/\Lasts2 c.w0.heap.size c.row c.Tt A):gM c K L O X' (setBlock w r o'):=by
 have hgr:w.grownBy (setBlock w r o') (some r):=dE5 hb o'
 have hne:∀(k:Nat) (cs:Array Value) (T:TypeId) (fz:Nat×Nat),w.heap[k]?=some (.cells cs T fz)->k≠r:=fun k cs T fz hk e=>by
  subst e
  rw [hb] at hk;cases hk
 refine ⟨grow_own h.g hgr (fun k e=>by cases e;exact hg),h.kk.st _ _ _ hg hgr h.k,fun x hx=>⟨(h.b x hx).1,(h.b x hx).2.grown hgr (fun e=>hne _ _ _ _ (h.b x hx).2 (Option.some.inj e))⟩,h.nd,fun s hs=>?_,h.od,h.oo,fun A hA=>(hX A hA).1,h.kk,fun A hA=>(hX A hA).2,h.rs⟩
 refine (h.o s hs).kept hgr ?_
 cases hv:s.v.ownBlock with
 |none=>exact .inl rfl
 |some k=>
  refine .inr (fun e=>?_)
  have e2:k=r:=by injection e
  rcases (h.o s hs).2 with ⟨hn,_⟩|⟨g',eV,rC,hn,_,hh,_⟩
  ·rw [hn] at hv;cases hv
  ·rw [hn] at hv
   have e3:g'=k:=by injection hv
   exact hne _ _ _ _ hh (e3.trans e2)
theorem dX6 {t k e:TypeId} {x:Operand} {g N:Nat} (ht:bZ0 P t=some (k,e)) (hx:rd S x=some (.map (some g))) (hM:∀w,gM c K L O X w->bV enc ek N g f w) (hd:Nat.ble (d+1) c.n=true)
 (h:∀r m,WL P c eU Q rest ((d,.pointer (some ⟨r,0,none⟩))::S) K L O (zF enc ek c.w0.heap.size g r f [] m::X)):WL P c eU Q (⟨some d,.range t x,ty,pos,aft,none⟩::rest) S K L O X:=by
 intro a w ha hm
 refine wpList_plain U fun K' hK=>?_
 obtain ⟨_,es,ck,hb,he⟩:=hM w hm
 unfold Oper.wp
 have hr:=run_range_map (P:=P) w t k e g es ck (nL ht) hb
 have:(execOp a.eval ⟨some d,.range t x,ty,pos,aft,none⟩).run P w= .ok (.value (.pointer (some ⟨w.heap.size,0,none⟩))) (w.alloc (.mapIter (some g) ck #[] ck)):=by
  simp [execOp,ha.eval hx,hr,Result.andThen]
 rw [this]
 refine hK _ _ (h w.heap.size (leftOf es #[]).size _ _ (ha.put hd _) ((hm.grow (grow_alloc (World.grownBy.refl w none) _)).also zF.lasts2 ⟨hm.g.size,es,ck,ck,#[],ck,heap_alloc_new w _,?_,he,he.1.1,Nat.le_refl _,Nat.le_refl _,U,List.nodup_nil,fun k=>?_,fun k hk=>?_⟩))
 ·rw [heap_alloc_old w _ (Array.getElem?_eq_some_iff.1 hb).1];exact hb
 ·constructor
  ·intro hk;cases hk
  ·rintro ⟨e,_,_,hs⟩;simp at hs
 ·simp at hk
theorem eQ1 {x:Operand} {g r m:Nat} {ks:List κ} (i:Nat) (inj:∀{a b:κ},ek a=ek b->a=b) (hx:rd S x=some (.pointer (some ⟨r,0,none⟩))) (hi:X[i]?=some (zF enc ek c.w0.heap.size g r f ks m)) (hd:Nat.ble (d+1) c.n=true)
 (h0:(∀k v,f k=some v->k∈ks)->WL P c eU Q rest ((d,.tuple #[.bool false])::S) K L O X)
 (h1:∀k v m',m' < m->f k=some v->k∉ks->WL P c eU Q rest ((d,.tuple #[.bool true,ek k,enc v])::S) K L O [zF enc ek c.w0.heap.size g r f (ks++ [k]) m']):WL P c eU Q (⟨some d,.next x false,ty,pos,aft,none⟩::rest) S K L O X:=by
 intro a w ha hm
 refine wpList_plain U fun K' hK=>?_
 obtain ⟨hN,es,ck,since,seen,c0,hr,hb,he,zT,hsc,hck,hm0,hnd,hks,_⟩:=hm.fact i hi
 unfold Oper.wp
 rcases run_next_at (P:=P) w ty r g since c0 seen es ck hr hb zT hsc with ⟨hz,wB⟩|⟨e,hel,w1,hw1,wB⟩
 ·have:(execOp a.eval ⟨some d,.next x false,ty,pos,aft,none⟩).run P w= .ok (.value (.tuple #[.bool false])) w:=by
   simp [execOp,ha.eval hx,wB,Result.andThen]
  rw [this]
  refine hK _ _ (h0 (fun k v hv=>?_) _ _ (ha.put hd _) hm)
  obtain ⟨e,hes,hek,_⟩:=(he.2.2 k (enc v)).2 ⟨v,hv,rfl⟩
  refine (hks k).2 ⟨e,hes,hek,?_⟩
  cases hc:seen.contains e.born with
  |true=>rfl
  |false=>
   exfalso
   have hin:e∈leftOf es seen:=by
    unfold leftOf
    exact Array.mem_filter.2 ⟨Array.mem_toList_iff.1 hes,by rw [hc];rfl⟩
   rw [Array.eq_empty_of_size_eq_zero hz] at hin
   exact absurd hin (by simp)
 ·have:(execOp a.eval ⟨some d,.next x false,ty,pos,aft,none⟩).run P w= .ok (.value (.tuple #[.bool true,e.key,e.val])) (setBlock w1 r (.mapIter (some g) since (seen.push e.born) ck)):=by
   simp [execOp,ha.eval hx,wB,Result.andThen]
  rw [this]
  obtain ⟨hes,zJ⟩:=mem_left hel
  obtain ⟨k,hk⟩:=he.2.1 e hes
  obtain ⟨v,hv,hev⟩:=(he.2.2 k e.val).1 ⟨e,hes,hk,rfl⟩
  have hkn:k∉ks:=fun hin=>by
   obtain ⟨e2,he2,hk2,hs2⟩:=(hks k).1 hin
   have:e2=e:=by
    have hnk:=he.1.2.2
    obtain ⟨p,hp,rfl⟩:=List.mem_iff_getElem.1 he2
    obtain ⟨q,hq,rfl⟩:=List.mem_iff_getElem.1 hes
    have:p=q:=by
     have:=(List.getElem_inj (h₀:=by simpa using hp) (h₁:=by simpa using hq) hnk).1 (by rw [List.getElem_map,List.getElem_map,hk,hk2])
     exact this
    subst this;rfl
   rw [this,zJ] at hs2;cases hs2
  have pQ:gM c K L O X w1:=by
   rcases hw1 with rfl|rfl
   ·exact hm
   ·exact hm.grow (pI (World.grownBy.refl w none))
  have hr1:w1.heap[r]?=some (.mapIter (some g) since seen c0):=by rcases hw1 with rfl|rfl <;> exact hr
  have hb1:w1.heap[g]?=some (.map es ck):=by rcases hw1 with rfl|rfl <;> exact hb
  have hgr:g≠r:=fun e=>by subst e;rw [hr1] at hb1;cases hb1
  have hlt:=left_shrinks es seen e hel
  rw [hm0] at hlt
  rw [hk,hev]
  refine hK _ _ (h1 k v _ hlt hv hkn _ _ (ha.put hd _) (pQ.itered hN hr1 fun A hA=>?_))
  rw [List.mem_singleton.1 hA]
  refine ⟨⟨hN,es,ck,since,seen.push e.born,ck,(cI0 hr1 _).1,by rw [(cI0 hr1 _).2 g hgr];exact hb1,he,zT,hck,hck,rfl,?_,fun k2=>?_,fun k2 hk2=>?_⟩,zF.lasts2⟩
  ·exact List.nodup_append.2 ⟨hnd,by simp,fun a ha b hb e=>hkn (by rw [<-List.mem_singleton.1 hb,<-e];exact ha)⟩
  ·rw [List.mem_append,List.mem_singleton,hks k2]
   constructor
   ·rintro (⟨e2,h2,h3,h4⟩|rfl)
    ·exact ⟨e2,h2,h3,by rw [contains_push,h4];rfl⟩
    ·exact ⟨e,hes,hk,by rw [contains_push,beq_self_eq_true,Bool.or_true]⟩
   ·rintro ⟨e2,h2,h3,h4⟩
    rw [contains_push] at h4
    cases hc:seen.contains e2.born with
    |true=>exact .inl ⟨e2,h2,h3,hc⟩
    |false=>
     rw [hc,Bool.false_or,beq_iff_eq] at h4
     right
     have:e2=e:=by
      obtain ⟨p,hp,rfl⟩:=List.mem_iff_getElem.1 h2
      obtain ⟨q,hq,rfl⟩:=List.mem_iff_getElem.1 hes
      have:p=q:=(List.getElem_inj (h₀:=by simpa using hp) (h₁:=by simpa using hq) he.1.2.1).1 (by simpa using h4)
      subst this;rfl
     rw [this,hk] at h3
     exact (inj h3).symm
  ·rw [List.getLast?_append,List.getLast?_singleton] at hk2
   have xN:k=k2:=by simpa using hk2
   subst xN
   exact ⟨e,hes,seen,v,U,U,hk,hv,hev⟩
theorem dT5 {x:Operand} {g r m N:Nat} {ks:List κ} {k:κ} {v:α} (hx:rd S x=some (.pointer (some ⟨r,0,none⟩))) (hl:ks.getLast?=some k) (hv:f k=some v) (hm:∀w,Z w->zF enc ek N g r f ks m w):OV P nn S Z ⟨some d,.entry x,ty,pos,aft,none⟩ (.tuple #[ek k,enc v]):=fun a w ha hz=>by
 obtain ⟨_,es,ck,since,seen,c0,hr,hb,he,_,_,_,_,_,_,hlast⟩:=hm w hz
 obtain ⟨e,hes,s0,v2,rfl,rfl,hk,hv2,hev⟩:=hlast k hl
 have e2:v2=v:=by rw [hv] at hv2;injection hv2 with h;exact h.symm
 subst e2
 have:=run_entry_at (P:=P) w r g since s0 es c0 e hr hb hes he.1.2.1
 simp [execOp,ha.eval hx,this,hk,hev,Result.andThen]
end
end Go.Proofs.YtmifpfcmldflkaaGreatDoor
namespace Go.Proofs
open Go.Shelf
def Tryz.lays190_ren:Go.Shelf.Ren:=⟨fun|190=>79|125=>133|258=>132|128=>185|129=>186|302=>176|303=>177|304=>178|305=>179|306=>180|307=>181|308=>182|309=>183|310=>184|333=>217|329=>218|330=>219|334=>220|335=>221|336=>95|344=>246|n=>n,fun|31=>101|9=>9|3=>3|46=>229|0=>0|51=>289|53=>291|4=>4|183=>283|182=>282|131=>161|5=>5|218=>317|222=>233|228=>347|229=>152|n=>n,fun|n=>n⟩
theorem Tryz.lays190:Go.Proofs.Lays.n190 prog Tryz.lays190_ren:={
 mixed:=by kernel_rfl
 f125:=func133.trans (congrArg some (by kernel_rfl))
 f128:=func185.trans (congrArg some (by kernel_rfl))
 f129:=func186.trans (congrArg some (by kernel_rfl))
 f190:=func79.trans (congrArg some (by kernel_rfl))
 f258:=func132.trans (congrArg some (by kernel_rfl))
 f302:=func176.trans (congrArg some (by kernel_rfl))
 f303:=func177.trans (congrArg some (by kernel_rfl))
 f304:=func178.trans (congrArg some (by kernel_rfl))
 f305:=func179.trans (congrArg some (by kernel_rfl))
 f306:=func180.trans (congrArg some (by kernel_rfl))
 f307:=func181.trans (congrArg some (by kernel_rfl))
 f308:=func182.trans (congrArg some (by kernel_rfl))
 f309:=func183.trans (congrArg some (by kernel_rfl))
 f310:=func184.trans (congrArg some (by kernel_rfl))
 f329:=func218.trans (congrArg some (by kernel_rfl))
 f330:=func219.trans (congrArg some (by kernel_rfl))
 f333:=func217.trans (congrArg some (by kernel_rfl))
 f334:=func220.trans (congrArg some (by kernel_rfl))
 f335:=func221.trans (congrArg some (by kernel_rfl))
 f336:=func95.trans (congrArg some (by kernel_rfl))
 f344:=func246.trans (congrArg some (by kernel_rfl))
 t0:=Tryz.underlying0
 a0:=Tryz.isAgg0
 z0:=Tryz.sizeOf0
 v0:=Tryz.zeroValue0
 t3:=Tryz.underlying3
 a3:=Tryz.isAgg3
 z3:=Tryz.sizeOf3
 v3:=Tryz.zeroValue3
 t4:=Tryz.underlying4
 a4:=Tryz.isAgg4
 z4:=Tryz.sizeOf4
 v4:=Tryz.zeroValue4
 t5:=Tryz.underlying5
 a5:=Tryz.isAgg5
 z5:=Tryz.sizeOf5
 v5:=Tryz.zeroValue5
 t9:=Tryz.underlying9
 a9:=Tryz.isAgg9
 z9:=Tryz.sizeOf9
 v9:=Tryz.zeroValue9
 t31:=Tryz.underlying101
 a31:=Tryz.isAgg101
 z31:=Tryz.sizeOf101
 v31:=Tryz.zeroValue101
 t46:=Tryz.underlying229
 a46:=Tryz.isAgg229
 z46:=Tryz.sizeOf229
 v46:=Tryz.zeroValue229
 t51:=Tryz.underlying289
 a51:=Tryz.isAgg289
 z51:=Tryz.sizeOf289
 v51:=Tryz.zeroValue289
 t53:=Tryz.underlying291
 a53:=Tryz.isAgg291
 z53:=Tryz.sizeOf291
 v53:=Tryz.zeroValue291
 t131:=Tryz.underlying161
 a131:=Tryz.isAgg161
 z131:=Tryz.sizeOf161
 v131:=Tryz.zeroValue161
 t182:=Tryz.underlying282
 a182:=Tryz.isAgg282
 z182:=Tryz.sizeOf282
 v182:=Tryz.zeroValue282
 t183:=Tryz.underlying283
 a183:=Tryz.isAgg283
 z183:=Tryz.sizeOf283
 v183:=Tryz.zeroValue283
 t218:=Tryz.underlying317
 a218:=Tryz.isAgg317
 z218:=Tryz.sizeOf317
 v218:=Tryz.zeroValue317
 t222:=Tryz.underlying233
 a222:=Tryz.isAgg233
 z222:=Tryz.sizeOf233
 v222:=Tryz.zeroValue233
 t228:=Tryz.underlying347
 a228:=Tryz.isAgg347
 z228:=Tryz.sizeOf347
 v228:=Tryz.zeroValue347
 t229:=Tryz.underlying152
 a229:=Tryz.isAgg152
 z229:=Tryz.sizeOf152
 v229:=Tryz.zeroValue152 }
end Go.Proofs
namespace Go.Proofs.YtmifpfcmldflkaaGreatDoor
open Tryz
open Go.RowKit Go.Sort
theorem cM6:∀l:List ByteArray,l.flatMap fH=l.map Value.string
 | []=>rfl
 |x::r=>by rw [List.flatMap_cons,cM6 r];rfl
def baB (l:List UInt8):ByteArray:=⟨l.toArray⟩
def nQ (l:List ByteArray):List ByteArray:=((l.map fun b=>b.data.toList).mergeSort fun x y=>decide (x<=y)).map baB
theorem uP (l:List ByteArray):(nQ l).length=l.length:=by unfold nQ;simp
theorem bC4 (l:List ByteArray):(nQ l).Perm l:=by
 unfold nQ
 refine ((List.mergeSort_perm _ _).map baB).trans ?_
 rw [List.map_map]
 have:(baB∘fun b:ByteArray=>b.data.toList)=id:=rfl
 rw [this,List.map_id]
theorem dN6 (zs:List ByteArray) (g n eV base:Nat) (w:World) (h:w.ownsRow base 9 1 (.slice (some ⟨g,0,none⟩) n eV) n (zs.flatMap fH)) (hn:zs.length=n) (vE:n<=1000000):
 Calls prog 79 #[.slice (some ⟨g,0,none⟩) n eV] w (fun e w'=>e=.returned (.tuple #[])/\w'.ownsRow base 9 1 (.slice (some ⟨g,0,none⟩) n eV) n ((nQ zs).flatMap fH)/\w.grownBy w' (some g)):=by
 subst hn
 obtain ⟨h1,h2⟩:=h
 rcases h2 with ⟨h2,_⟩|⟨g',cap',rC,hv,hbase,hh,hle,hmax,hcs,htk⟩
 ·cases h2
 ·injection hv with hA _ hc
  have hgg:g'=g:=by injection hA with hA;injection hA with hA;exact hA.symm
  subst hgg hc
  rw [Nat.mul_one] at hcs htk
  obtain ⟨ss,hss⟩:∃ss,ss=zs.map fun b:ByteArray=>b.data.toList:=⟨_,rfl⟩
  have hsl:ss.length=zs.length:=by rw [hss,List.length_map]
  have hcell:∀j,j < ss.length->rC[j]?=some (encStr ss[j]!):=fun j hj=>by
   have h3:(rC.toList.take zs.length)[j]?=some (encStr ss[j]!):=by
    rw [htk,cM6,List.getElem?_map,fJ5 (by omega),Option.map_some]
    congr 1
    rw [getElem!_pos ss j hj]
    subst hss
    rw [List.getElem_map]
    first|done|rfl
   rw [List.getElem?_take,if_pos (by omega)] at h3
   simpa using h3
  have hH:Holds encStr w g' 0 ss.toArray:=fun j hj=>by
   have hj':j < ss.length:=by simpa using hj
   refine ⟨?_,?_⟩
   ·rw [Nat.zero_add,cell_of_row w g' j rC _ (0,0) hh,hcell j hj']
    simp [hj']
   ·exact frozen_of_row w g' (0+j) rC _ hh
  have hblk:g' < w.heap.size:=(Array.getElem?_eq_some_iff.1 hh).1
  have hcon:=Any.slices_Sort_string Tryz.lays190 g' 0 eV ss w hH hblk (by omega)
  rw [hsl] at hcon
  refine Calls.mono hcon ?_
  rintro e w' ⟨rfl,m,os,rfl⟩
  have hsz:(ss.mergeSort fun x y=>decide (x<=y)).toArray.size=zs.length:=by simp [hsl]
  have hnew:(grow (putRow encStr (Sort.ahead w m) g' 0 (ss.mergeSort fun x y=>decide (x<=y)).toArray) os).heap[g']?=some (.cells (putCells encStr 0 (ss.mergeSort fun x y=>decide (x<=y)).toArray rC) 9 (0,0)):=by
   unfold grow putRow mapBlock Sort.ahead
   simp only
   rw [Array.getElem?_append_left (by simpa using hblk),Array.getElem?_modify,if_pos rfl,hh];rfl
  refine ⟨U,⟨by rw [cM6,List.length_map,uP,Nat.mul_one],.inr ⟨g',eV,_,rfl,hbase,hnew,hle,hmax,by simp [putCells,hcs],?_⟩⟩,⟨U,U,U,by simp [grow,putRow,mapBlock],fun k hk hne=>?_⟩⟩
  ·rw [cM6,Nat.mul_one]
   refine List.ext_getElem? fun j=>?_
   rw [List.getElem?_take]
   by_cases hj:j < zs.length
   ·have hjc:j < rC.size:=by omega
    have hj2:j < (nQ zs).length:=by rw [uP];omega
    have hj3:j < (ss.mergeSort fun x y=>decide (x<=y)).length:=by simpa [hsl] using hj
    rw [if_pos hj,List.getElem?_map,fJ5 hj2]
    unfold putCells
    simp only [Array.getElem?_toList,Array.getElem?_mapIdx]
    rw [Array.getElem?_eq_getElem hjc]
    simp only [Option.map_some]
    rw [if_pos (by rw [hsz];omega)]
    congr 1
    simp only [Nat.sub_zero]
    rw [getElem!_pos _ j (by rw [hsz];omega)]
    subst hss
    have hget:(nQ zs)[j]=baB ((zs.map fun b=>b.data.toList).mergeSort fun x y=>decide (x<=y))[j]:=by simp only [nQ,List.getElem_map]
    rw [hget]
    rfl
   ·rw [if_neg hj,List.getElem?_eq_none (by rw [List.length_map,uP];omega)]
  ·unfold grow putRow mapBlock Sort.ahead
   simp only
   rw [Array.getElem?_append_left (by simpa using hk),Array.getElem?_modify,if_neg (fun e=>hne (by rw [e]))]
def bR0 (h:Hg):List Value:= [.string h.key,.string h.driver,.int .i64 h.fr,.int .i64 h.to_,.slice h.A h.n h.c]
theorem eA7 (h:Hg):(bR0 h).length=5:=rfl
theorem eN2 {a b:ByteArray} (h:dN a=dN b):a=b:=by unfold dN at h;injection h
open Classical in
theorem cP3 {α:Type}:∀{l m:List α},l.Nodup->(∀x∈l,x∈m)->l.length<=m.length
 | [],_,_,_=>Nat.zero_le _
 |x::r,m,hn,hs=>by
  have hx:=hs x (List.mem_cons_self ..)
  have h1:=cP3 (l:=r) (m:=m.erase x) (List.nodup_cons.1 hn).2 fun y hy=>(List.mem_erase_of_ne (fun e=>(List.nodup_cons.1 hn).1 (by rw [<-e];exact hy))).2 (hs y (List.mem_cons_of_mem _ hy))
  rw [List.length_erase_of_mem hx] at h1
  have:=List.length_pos_of_mem hx
  rw [List.length_cons];omega
theorem dM6:nQ []= []:=by unfold nQ;simp
theorem cB1 {w:World} {base e sz n:Nat} {v:Value} {xs:List Value} (h:w.ownsRow base e sz v n xs):(v= .slice none 0 0/\n=0)∨∃br cc,v= .slice (some ⟨br,0,none⟩) n cc:=by
 obtain ⟨_,h2⟩:=h
 rcases h2 with ⟨h2,h3⟩|⟨g',cap',rC,hv,_⟩
 ·exact .inl ⟨h2,h3⟩
 ·exact .inr ⟨g',cap',hv⟩
theorem cX8 (f:ByteArray->Option Hg) (gm N0:Nat) (KL:List ByteArray) (w:World) (hM:bV nH dN N0 gm f w) (hKL:∀k v,f k=some v->k∈KL) (hb:KL.length<=1000):
 Calls prog 32 #[.map (some gm)] w (fun e w'=>∃v n ks,e=.returned v/\w'.ownsRow w.heap.size 64 5 v n (((nQ ks).map fun k=>(f k).getD vV).flatMap bR0)/\ks.Nodup/\(∀k,k∈ks↔(f k).isSome=true)/\ks.length=n/\w.grownBy w' none):=by
 refine cV ⟨34,w,none, []⟩ func32 U ntmps32 U (gR (X:= []) cY cZ) (bS (bZ U (bR (bS (bZ U (bR (bH (bS (bP U ?_)))))))))
 refine dX6 (k:=9) (e:=64) (enc:=nH) (ek:=dN) (f:=f) (N:=N0) (by kernel_rfl) U (fun _ hm=>hM.kept hm.g (by simp)) U fun gr m=>?_
 refine rO 9 1 ?_
 refine bR (bO ?_)
 refine dX (γ:=List ByteArray×Nat×Value×Nat×List Value) (fun (gq:List ByteArray×Nat×Value×Nat×List Value)=>(∀k∈gq.1,∃v,f k=some v)/\gq.1.Nodup/\gq.1.length=gq.2.2.2.1/\gq.2.2.2.2=gq.1.flatMap fH) (fun (gq:List ByteArray×Nat×Value×Nat×List Value)=> [(0,.map (some gm)),(2,.slice none 0 0),(3,gq.2.2.1),(9,.pointer (some ⟨gr,0,none⟩))]) (fun (gq:List ByteArray×Nat×Value×Nat×List Value)=>fun _=>True) (fun (gq:List ByteArray×Nat×Value×Nat×List Value)=> []) (fun (gq:List ByteArray×Nat×Value×Nat×List Value)=> [⟨gq.2.2.1,9,1,gq.2.2.2.1,gq.2.2.2.2⟩]) (fun (gq:List ByteArray×Nat×Value×Nat×List Value)=> [zF nH dN w.heap.size gm gr f gq.1 gq.2.1]) (fun (gq:List ByteArray×Nat×Value×Nat×List Value)=>gq.2.1) (([]:List ByteArray),m,.slice none 0 0,0, []) ⟨(fun _ h=>by cases h),List.nodup_nil,U,U⟩ ⟨U,U,U,U,trivial⟩ (fun _ hm=>hm.pick [] [0] [0] U U) ?_
 rintro ⟨ks,q,va,nk,xk⟩ cC
 replace cC:(∀k∈ks,∃v,f k=some v)/\ks.Nodup/\ks.length=nk/\xk=ks.flatMap fH:=cC
 dsimp only
 refine bS ?_
 obtain ⟨hin1,hin2,rfl,rfl⟩:=cC
 have cC:=And.intro hin1 hin2
 have hkl:ks.length<=KL.length:=cP3 cC.2 fun k hk=>by obtain ⟨v,hv⟩:=cC.1 k hk;exact hKL k v hv
 refine eQ1 (enc:=nH) (ek:=dN) (f:=f) 0 eN2 U U U (fun bP0=>?_) (fun k v q2 hq2 hv hkn=>?_)
 ·have hks:∀k,k∈ks↔(f k).isSome=true:=fun k=>⟨fun hk=>by obtain ⟨v,hv⟩:=cC.1 k hk;rw [hv];rfl,fun hk=>by obtain ⟨v,hv⟩:=Option.isSome_iff_exists.1 hk;exact bP0 k v hv⟩
  have hnd:=cC.2
  refine bB (cR U U) U (bR (bH (jU U (dE (bF (bF (bY (bD (bS (bP U ?_))))))))))
  refine eD (R:=(va= .slice none 0 0/\ks.length=0)∨∃br cc,va= .slice (some ⟨br,0,none⟩) ks.length cc) (fun wx hm=>cB1 (hm.ownI 0 U)) ?_
  rintro (⟨rfl,uM⟩|⟨br,cc,rfl⟩)
  ·refine cL U fI1 U U (fun wx hm=>((Any.slices_Sort_string_none Tryz.lays190 none 0 wx).mono fun _ _ ⟨he,hw⟩=>⟨he,hw ▸ World.grownBy.refl _ _⟩)) ?_
   refine bR (bS (bZ U (bR (bH (bS (bP U (bB (dT jY U) U (bL 21 (v':= .int .i64 0) U U (bP U (bR (bO (eZ 1 (eB (bS (bB (dD U U) U (bL 23 (v':= .bool false) U (fH5 (by decide)) (bR (bH (jU U (dE (bF (bF (bY (bD (bS (bP U (bZ U (bR (bM ?_)))))))))))))))))))))))))))))
   refine bK U U fun wx hm=>?_
   refine ⟨_,0,ks,U,?_,hnd,hks,by omega,hm.g⟩
   rw [List.eq_nil_of_length_eq_zero uM,dM6]
   exact ⟨U,.inl ⟨U,U⟩⟩
  refine cT1 (v:= .tuple #[]) (xs':=(nQ ks).flatMap fH) 0 U U U fI1 U U (fun wx hm=>(dN6 ks br ks.length cc _ wx (hm.ownI 0 U) U (by omega))) ?_
  refine zE (γ:=Unit) (fun _=>bV nH dN N0 gm f) (fun w hm=>⟨(),hM.kept hm.g (by simp)⟩) (fun _=>bV.lasts2) fun _=>?_
  have hsl:(nQ ks).length=ks.length:=uP ks
  refine rO 64 5 ?_
  refine bR (bS (bZ U (bR (bH (bS (bP U (bB (dT jY U) U (bP U (bE (bD (bO ?_)))))))))))
  refine dX (γ:=Nat×Value) (fun (gz:Nat×Value)=>gz.1<=ks.length) (fun (gz:Nat×Value)=> [(0,.map (some gm)),(2,.slice none 0 0),(5,gz.2),(20,.slice (some ⟨br,0,none⟩) ks.length cc),(21,.int .i64 ((ks.length:Nat):Int)),(22,.int .i64 ((gz.1:Nat):Int))]) (fun (gz:Nat×Value)=>fun _=>True) (fun (gz:Nat×Value)=> []) (fun (gz:Nat×Value)=> [⟨.slice (some ⟨br,0,none⟩) ks.length cc,9,1,ks.length,(nQ ks).flatMap fH⟩,⟨gz.2,64,5,gz.1,(((nQ ks).take gz.1).map fun k=>(f k).getD vV).flatMap bR0⟩]) (fun (gz:Nat×Value)=> [bV nH dN N0 gm f]) (fun (gz:Nat×Value)=>ks.length - gz.1) (0,.slice none 0 0) (Nat.zero_le _) ⟨U,U,U,U,U,U,trivial⟩ (fun _ hm=>hm.pick [] [1,0] [0] U U) ?_
  rintro ⟨j,vo⟩ cC
  replace cC:j<=ks.length:=cC
  dsimp only
  refine bS (bB (dD U U) U (bR (bH ?_)))
  refine cE U (fun hj=>?_) (fun hj=>?_)
  ·refine bN (bD (bH (bO (bS ?_))))
   obtain ⟨k,hk⟩:∃x,(nQ ks)[j]?=some x:=⟨_,fJ5 (by omega)⟩
   have htk:(((nQ ks).take j).map fun k=>(f k).getD vV)++ [(f k).getD vV]=((nQ ks).take (j+1)).map fun k=>(f k).getD vV:=by rw [List.take_add_one,hk,Option.toList_some,List.map_append];rfl
   refine bB (bT (j:=j) jY U U (by omega)) U (bB (dL (k:=0) (v:= .string k) fE U (fun _ hm=>(SlT.ofOwn zC (hm.ownI 0 U) hsl)) hk U U) U (bZ U (bR (bI (bP U (bP U (bP U (bB (kV (enc:=nH) (ek:=dN) (s:=k) (e:=64) vV kB (by kernel_rfl) (by kernel_rfl) U U (fun _ hm=>(hm.fact 0 U))) U (jF 64 [.string ((((f) k).getD vV).key),.string ((((f) k).getD vV).driver),.int .i64 ((((f) k).getD vV).fr),.int .i64 ((((f) k).getD vV).to_),.slice (((f) k).getD vV).A ((((f) k).getD vV).n) ((((f) k).getD vV).c)] fun g2=>eF (news:= [.string ((((f) k).getD vV).key),.string ((((f) k).getD vV).driver),.int .i64 ((((f) k).getD vV).fr),.int .i64 ((((f) k).getD vV).to_),.slice (((f) k).getD vV).A ((((f) k).getD vV).n) ((((f) k).getD vV).c)]) 1 0 fI3 U U U U U U U (by omega) (by unfold maxLen;omega) U U fun vo2 hvo2=>?_)))))))))
   refine eD (R:=∃A cc,vo2= .slice A (j+1) cc) (fun wx hm=>dS (hm.ownI 1 U)) ?_
   rintro ⟨oA,oc,rfl⟩
   refine bZ U (bE (bG (bD (bI (gN U U (bP U (bE ?_)))))))
   have hx3:(((nQ ks).take j).map fun k=>(f k).getD vV).flatMap bR0++([.string ((((f) k).getD vV).key),.string ((((f) k).getD vV).driver),.int .i64 ((((f) k).getD vV).fr),.int .i64 ((((f) k).getD vV).to_),.slice (((f) k).getD vV).A ((((f) k).getD vV).n) ((((f) k).getD vV).c)]:List Value)=(((nQ ks).take (j+1)).map fun k=>(f k).getD vV).flatMap bR0:=by rw [<-htk,List.flatMap_append];rfl
   rw [hx3]
   exact cQ (j+1,(Value.slice oA (j+1) oc)) (by show _<=_;omega) (by dsimp only;omega) ⟨U,U,U,U,U,(cS (by dsimp only;omega)),trivial⟩ (fun _ hm=>hm.pick [] [0,1] [0] U U)
  refine dE (bF (bF (bY (bD (bS (bP U (bZ U (bR (bM ?_)))))))))
  refine bK U U fun wx hm=>?_
  refine ⟨vo,j,ks,U,?_,hnd,hks,by omega,hm.g⟩
  have h8:=(hm.ownI 1 rfl)
  rw [List.take_of_length_le (by omega)] at h8
  exact h8
 refine bB (cR U U) U (bR (bH (kQ U (bN (bD (bO (bS (bB (dT5 (enc:=nH) (ek:=dN) (ks:=ks++ [k]) (m:=q2) U (by simp) hv (fun _ hm=>hm.fact 0 U)) U (bB (cR U U) U (bZ U (bR (bI (bP U (bP U (jF 9 [.string k] fun g1=>eF (news:= [.string k]) 0 0 dF7 U U U U U U U (by omega) (by unfold maxLen;omega) U U fun va2 hva2=>?_)))))))))))))))
 refine eD (R:=∃A cc,va2= .slice A (ks.length+1) cc) (fun wx hm=>dS (hm.ownI 0 U)) ?_
 rintro ⟨kA,kc,rfl⟩
 refine bZ U (bE (bG ?_))
 exact cQ (ks++ [k],q2,(Value.slice kA (ks.length+1) kc),ks.length+1,ks.flatMap fH++([.string k]:List Value)) ⟨fun x hx=>by
  rcases List.mem_append.1 hx with hx|hx
  ·exact cC.1 x hx
  rw [List.mem_singleton.1 hx];exact ⟨v,hv⟩,List.nodup_append.2 ⟨cC.2,by simp,fun a ha b hb e=>hkn (by rw [<-List.mem_singleton.1 hb,<-e];exact ha)⟩,by simp,by simp [fH]⟩ hq2 ⟨rfl,rfl,rfl,rfl,trivial⟩ (fun _ hm=>hm.pick [] [0] [0] rfl rfl)
abbrev fF3:=ByteArray->Option Sa
def bV8 (x:Sa):Value:= .agg #[.int .i64 x.st,.string x.sta,.int .i64 x.since]
def zR:Option Nat->Value
 |none=> .pointer none
 |some g=> .pointer (some ⟨g,0,none⟩)
abbrev bA0:=ByteArray->Option (Option Nat)
def six (f:Int->Int):List Value:= [.int .i64 (f 0),.int .i64 (f 1),.int .i64 (f 2),.int .i64 (f 3),.int .i64 (f 4),.int .i64 (f 5)]
def Fam (T:TypeId) (N:Nat) (p:bA0) (G:ByteArray->Int->Int) (w:World):Prop:=∀k g,p k=some (some g)->N<=g/\Blk w g T (six (G k))
def Inj (p:bA0):Prop:=∀k j g,p k=some (some g)->p j=some (some g)->k=j
structure cZ2 (p:bA0) (m1 m2:Nat):Prop where
 inj:Inj p
 none_:∀k,p k≠some none
 ne1:∀k,p k≠some (some m1)
 ne2:∀k,p k≠some (some m2)
theorem dC5 {m1 m2:Nat}:cZ2 cC0 m1 m2:=⟨fun _ _ _ h=>(by cases h),fun _ h=>(by cases h),fun _ h=>(by cases h),fun _ h=>(by cases h)⟩
theorem cZ2.put {p:bA0} {m1 m2 g:Nat} {k:ByteArray} (h:cZ2 p m1 m2) (hf:∀j,p j≠some (some g)) (h1:g≠m1) (h2:g≠m2):cZ2 (yA p k (some g)) m1 m2:=by
 have hp:∀j x,yA p k (some g) j=some x->(j=k/\x=some g)∨p j=some x:=fun j x hj=>by
  by_cases e:j=k
  ·subst e
   rw [uJ] at hj
   exact .inl ⟨U,(Option.some.inj hj).symm⟩
  ·rw [pT _ _ e] at hj;exact .inr hj
 refine ⟨fun a b x ha hb=>?_,fun a ha=>?_,fun a ha=>?_,fun a ha=>?_⟩
 ·rcases hp a _ ha with ⟨rfl,e⟩|ha2 <;> rcases hp b _ hb with ⟨rfl,e'⟩|hb2
  ·rfl
  ·injection e with e;subst e;exact absurd hb2 (hf b)
  ·injection e' with e';subst e';exact absurd ha2 (hf a)
  ·exact h.inj a b x ha2 hb2
 ·rcases hp a _ ha with ⟨_,e⟩|ha2
  ·cases e
  ·exact h.none_ a ha2
 ·rcases hp a _ ha with ⟨_,e⟩|ha2
  ·injection e with e;exact h1 e.symm
  ·exact h.ne1 a ha2
 ·rcases hp a _ ha with ⟨_,e⟩|ha2
  ·injection e with e;exact h2 e.symm
  ·exact h.ne2 a ha2
theorem Fam.lasts2 {N M:Nat} {row:Option Nat} {Tt:List TypeId} {T:TypeId} {p:bA0} {G:ByteArray->Int->Int} (hT:Tt.contains T=true):Lasts2 N row Tt (Fam T M p G):=
 ⟨fun _ _ h hx k g hk=>⟨(hx k g hk).1,(hx k g hk).2.grown h (by simp)⟩,fun w _ r T2 cs h1 h2 _ h3 hx k g hk=>⟨(hx k g hk).1,(hx k g hk).2.grown h3 (fun e=>by
  have e2:g=r:=Option.some.inj e
  subst e2
  have hb:=(hx k g hk).2
  unfold Blk at hb
  rw [h1] at hb
  injection hb with hb
  injection hb with _ hb _
  exact h2 (by rw [hb];simpa using hT))⟩⟩
theorem Fam.far {T:TypeId} {M N m:Nat} {p:bA0} {G:ByteArray->Int->Int} (hne:∀k,p k≠some (some m)):∀w w':World,N<=m->w.grownBy w' (some m)->Fam T M p G w->Fam T M p G w':=fun _ _ _ hg hx k g hk=>⟨(hx k g hk).1,(hx k g hk).2.grown hg (fun e=>hne k (by rw [hk,Option.some.inj e]))⟩
theorem Fam.put {T:TypeId} {N g:Nat} {p:bA0} {G:ByteArray->Int->Int} {w:World} {k:ByteArray} (h:Fam T N p G w) (hN:N<=g) (hb:Blk w g T (six (G k))):Fam T N (yA p k (some g)) G w:=fun j x hj=>by
 by_cases e:j=k
 ·subst e
  rw [uJ] at hj
  injection hj with hj
  injection hj with hj
  subst hj
  exact ⟨hN,hb⟩
 ·rw [pT _ _ e] at hj;exact h j x hj
theorem Fam.added {T:TypeId} {N g:Nat} {p:bA0} {G:ByteArray->Int->Int} {w w':World} {k:ByteArray} {j n:Int} (h:Fam T N p G w) (hi:Inj p) (hk:p k=some (some g)) (hb:Blk w' g T (six (fun i=>if i=j then G k i+n else G k i))) (hg:w.grownBy w' (some g)):Fam T N p (bT3 G k j n) w':=fun u x hu=>by
 by_cases e:u=k
 ·subst e
  rw [hk] at hu
  injection hu with hu
  injection hu with hu
  subst hu
  refine ⟨(h u g hk).1,?_⟩
  rw [bV6];exact hb
 ·rw [yG e]
  exact ⟨(h u x hu).1,(h u x hu).2.grown hg (fun e2=>e (hi u k g (by rw [hu,Option.some.inj e2]) hk))⟩
theorem eL2 {p:bA0} {vl:List Vh} {i g:Nat} {y:Vh} (h:∀k x,vl[k]?=some x->k < i->∃g,p x.key=some (some g)) (hy:vl[i]?=some y):∀k x,vl[k]?=some x->k < i+1->∃g',yA p y.key (some g) x.key=some (some g'):=fun k x hx hk=>by
 by_cases e:x.key=y.key
 ·exact ⟨g,by rw [e,uJ]⟩
 ·rw [pT _ _ e]
  refine h k x hx ?_
  rcases Nat.lt_or_ge k i with h2|h2
  ·exact h2
  ·obtain rfl:k=i:=by omega
   rw [hx] at hy
   cases hy
   exact absurd U e
theorem eT6 {p:bA0} {vl:List Vh} {i g:Nat} {y:Vh} (h:∀k,p k≠none->∃x∈vl,x.key=k) (hy:vl[i]?=some y):∀k,yA p y.key (some g) k≠none->∃x∈vl,x.key=k:=fun k hk=>by
 by_cases e:k=y.key
 ·exact ⟨y,fK5 hy,e.symm⟩
 ·rw [pT _ _ e] at hk;exact h k hk
theorem eM2 {p:bA0} {vl:List Vh} {k:ByteArray} (h:∀i x,vl[i]?=some x->i < vl.length->∃g,p x.key=some (some g)) (hk:0<=mH (zY k) vl 0):∃g,p k=some (some g):=by
 obtain ⟨v,hv,hp⟩:=cX5 hk
 have e:v.key=k:=rI.1 hp
 rw [<-e]
 exact h _ v hv (List.getElem?_eq_some_iff.1 hv).1
def dK4 (F:ByteArray->Option Sa):Prop:=∀v,(0<=((F v).getD pH).st/\((F v).getD pH).st<=5)/\ -4000000000000000000<=((F v).getD pH).since/\((F v).getD pH).since<=4000000000000000000
theorem dY7:dK4 cC0:=fun _=>show (0<=pH.st/\pH.st<=5)/\ -4000000000000000000<=pH.since/\pH.since<=4000000000000000000 by decide
theorem dK4.put {F:ByteArray->Option Sa} (h:dK4 F) {x:Ev} {k:ByteArray} (hx:cJ4 x):dK4 (yA F k (jV x)):=fun v=>by
 by_cases e:v=k
 ·subst e
  rw [uJ]
  have h1:=cJ8 x
  have h2:=rL x
  have h3:=hx.1
  show (0<=(jV x).st/\(jV x).st<=5)/\ -4000000000000000000<=(jV x).since/\(jV x).since<=4000000000000000000
  rw [h2]
  exact ⟨⟨by omega,by omega⟩,h3⟩
 ·rw [pT _ _ e];exact h v
theorem eH6 {w:World} {g:Nat} {T:TypeId} {cs:List Value} (hb:Blk w g T cs) (hl:cs.length=6):w.ownsRow 0 T 1 (.slice (some ⟨g,0,none⟩) 6 6) 6 cs:=
 ⟨by omega,.inr ⟨g,6,cs.toArray,rfl,Nat.zero_le _,hb,Nat.le_refl _,by unfold maxLen;omega,by simp [hl],by simp [<-hl]⟩⟩
theorem vG {base:Nat} {T:TypeId} {g:Nat} {xs:List Value} {w:World} (h:gG base T 1 6 6 g xs w):Blk w g T xs:=by
 rcases h.2 with ⟨h1,_⟩|⟨g',eV,rC,hv,_,hh,_,_,hs,ht⟩
 ·cases h1
 ·injection hv with h1 _ h3
  injection h1 with h1
  injection h1 with h1 _ _
  subst h1 h3
  rw [List.take_of_length_le (by rw [Array.length_toList];omega)] at ht
  subst ht
  unfold Blk
  rw [Array.toArray_toList];exact hh
section
variable {P:Program} {c:Cx} {eU:Array Oper} {Q:Exit->Act->World->Prop} {rest:List Oper} {S:List (Nat×Value)} {K:World->Prop} {L:List (Nat×TypeId×List Value)} {O:List Own} {X X':List (World->Prop)} {w w':World}
variable {d:Nat} {ty:TypeId} {pos:String} {aft:Array Edge}
theorem gM.famed {g:Nat} {T:TypeId} {cs:List Value} (h:gM c K L O X w) (hg:c.w0.heap.size<=g) (hb:Blk w g T cs) (hgr:w.grownBy w' (some g)) (hL:L.all (fun x=>x.2.1 !=T)=true) (hO:O.all (fun r=>r.e !=T)=true) (hX:∀A∈X',A w'/\Lasts2 c.w0.heap.size c.row c.Tt A):gM c K L O X' w':=by
 have hne:∀(k:Nat) (cs:Array Value) (T2:TypeId),T2≠T->w.heap[k]?=some (.cells cs T2 (0,0))->k≠g:=fun k cs T2 h2 hk e=>by
  subst e
  unfold Blk at hb
  rw [hb] at hk
  injection hk with hk
  injection hk with _ hk _
  exact h2 hk.symm
 refine ⟨grow_own h.g hgr (fun k e=>by cases e;exact hg),h.kk.st _ _ _ hg hgr h.k,fun x hx=>⟨(h.b x hx).1,(h.b x hx).2.grown hgr (fun e=>hne _ _ _ (by have:=List.all_eq_true.1 hL x hx;simpa using this) (h.b x hx).2 (Option.some.inj e))⟩,h.nd,fun s hs=>?_,h.od,h.oo,fun A hA=>(hX A hA).1,h.kk,fun A hA=>(hX A hA).2,h.rs⟩
 refine (h.o s hs).kept hgr ?_
 cases hv:s.v.ownBlock with
 |none=>exact .inl rfl
 |some k=>
  refine .inr (fun e=>?_)
  have e2:k=g:=by injection e
  rcases (h.o s hs).2 with ⟨hn,_⟩|⟨g',eV,rC,hn,_,hh,_⟩
  ·rw [hn] at hv;cases hv
  ·rw [hn] at hv
   have e3:g'=k:=by injection hv
   exact hne _ _ _ (by have:=List.all_eq_true.1 hO s hs;simpa using this) hh (e3.trans e2)
theorem gM.gain {g:Nat} {T:TypeId} {cs:List Value} (h:gM c K L O X w) (hgr:w.grownBy w' none) (hN:w.heap.size<=g) (hb:Blk w' g T cs):gM c K ((g,T,cs)::L) O X w':=by
 have h2:=h.grow hgr
 refine ⟨h2.g,h2.k,fun x hx=>?_,List.Pairwise.cons (fun y hy e=>by have h3:=(h.b y hy).2.lt;have e2:g=y.1:=e;omega) h.nd,h2.o,fun r hr x hx=>?_,h.oo,h2.x,h.kk,h.l,h.rs⟩
 ·rcases List.mem_cons.1 hx with rfl|hx
  ·exact ⟨Nat.le_trans h.g.size hN,hb⟩
  ·exact h2.b x hx
 ·rcases List.mem_cons.1 hx with rfl|hx
  ·intro e
   have:=((h.o r hr).lt g e).2
   omega
  ·exact h.od r hr x hx
theorem cF4 {f:FuncId} {x:Operand} {ags:List Operand} {ats:Array TypeId} {vs fs cs:List Value} {T:TypeId} {p:bA0} {G:ByteArray->Int->Int} {k:ByteArray} {g:Nat} {j n:Int} (i:Nat) (hi:X[i]?=some (Fam T c.w0.heap.size p G)) (hp:p k=some (some g)) (hinj:Inj p) (hL:L.all (fun x=>x.2.1 !=T)=true) (hO:O.all (fun r=>r.e !=T)=true) (hT:c.Tt.contains T=true)
 (hx:rd S x=some (.func (.func f) fs.toArray cs.toArray)) (hf:cB P f=true) (ha:pS S ags=some vs) (hd:Nat.ble (d+1) c.n=true)
 (hC:∀w,gM c K L O X w->Blk w g T (six (G k))->Calls P f (fs++vs++cs).toArray w (fun e w'=>e=.returned (.tuple #[])/\Blk w' g T (six (fun i=>if i=j then G k i+n else G k i))/\w.grownBy w' (some g)))
 (hX:∀A∈X',(∀w w',c.w0.heap.size<=g->w.grownBy w' (some g)->A w->A w')/\A∈X)
 (h:WL P c eU Q rest ((d,.tuple #[])::S) K L O (Fam T c.w0.heap.size p (bT3 G k j n)::X')):
 WL P c eU Q (⟨some d,.call ⟨.value x,ags.toArray,ats⟩,ty,pos,aft,none⟩::rest) S K L O X:=
 fO (γ:=Unit) (val:=fun _=> .tuple #[]) (φ:=fun _=>True) (K':=fun _=>K) (L':=fun _=>L) (O':=fun _=>O) (X':=fun _=>Fam T c.w0.heap.size p (bT3 G k j n)::X') hx hf ha hd (fun w hm=>by
  have hfam:Fam T c.w0.heap.size p G w:=hm.fact i hi
  obtain ⟨hN,hb⟩:=hfam k g hp
  refine (hC w hm hb).mono fun e w' ⟨he,hb',hg⟩=>⟨(),he,trivial,hm.famed hN hb hg hL hO fun A hA=>?_⟩
  rcases List.mem_cons.1 hA with rfl|hA
  ·exact ⟨hfam.added hinj hp hb' hg,Fam.lasts2 hT⟩
  ·exact ⟨(hX A hA).1 _ _ hN hg (hm.x A (hX A hA).2),hm.l A (hX A hA).2⟩) (fun _ _=>h)
theorem eU4 {α β:Type} {enc1:α->Value} {enc2:β->Value} {f1:ByteArray->Option α} {f2:ByteArray->Option β} {m1 m2 M1 M2 M:Nat} {T:TypeId} {p:bA0} {G:ByteArray->Int->Int} {t:TypeId} {x:Operand} {v:Value} {cs:List Value} (i i1 i2:Nat) (hi:X[i]?=some (Fam T M p G)) (hi1:X[i1]?=some (kZ enc1 M1 m1 f1)) (vO:X[i2]?=some (kZ enc2 M2 m2 f2)) (hx:rd S x=some v) (hcs:v.cells=cs.toArray) (hd:Nat.ble (d+1) c.n=true)
 (h:∀g,(∀k,p k≠some (some g))->g≠m1->g≠m2->WL P c eU Q rest ((d,.pointer (some ⟨g,0,none⟩))::S) K ((g,t,cs)::L) O X):WL P c eU Q (⟨some d,.box t x,ty,pos,aft,none⟩::rest) S K L O X:=by
 intro a w ha hm
 refine wpList_plain U fun K' hK=>?_
 unfold Oper.wp
 have:(execOp a.eval ⟨some d,.box t x,ty,pos,aft,none⟩).run P w= .ok (.value (.pointer (some ⟨w.heap.size,0,none⟩))) (w.alloc (.cells cs.toArray t)):=by
  simp [execOp,ha.eval hx,Instr.box,newVar,newRow,hcs]
 rw [this]
 have h1:m1 < w.heap.size:=kZ.lt (hm.fact i1 hi1)
 have h2:m2 < w.heap.size:=kZ.lt (hm.fact i2 vO)
 have h3:Fam T M p G w:=hm.fact i hi
 exact hK _ _ (h w.heap.size (fun k e=>by have:=(h3 k _ e).2.lt;omega) (by omega) (by omega) _ _ (ha.put hd _) (hm.new t cs))
theorem eJ7 {e:Exit} {T:TypeId} {p:bA0} {G:ByteArray->Int->Int} {g:Nat} {k:ByteArray} (i j:Nat) (hi:L[i]?=some (g,T,six (G k))) (hj:X[j]?=some (Fam T c.w0.heap.size p G)) (hT:c.Tt.contains T=true) (h:Nx c Q e S K L O (Fam T c.w0.heap.size (yA p k (some g)) G::X)):Nx c Q e S K L O X:=fun a w ha hm=>
 h a w ha (hm.also (Fam.lasts2 hT) ((show Fam T c.w0.heap.size p G w from hm.fact j hj).put (hm.b _ (fK5 hi)).1 (hm.b _ (fK5 hi)).2))
theorem dG5 {code:Code} {T:TypeId} {G:ByteArray->Int->Int} (hT:c.Tt.contains T=true) (h:Gw P c Q code S K L O (Fam T c.w0.heap.size cC0 G::X)):Gw P c Q code S K L O X:=fun a w ha hm=>
 h a w ha (hm.also (Fam.lasts2 hT) (fun _ _ hk=>by cases hk))
end
theorem bF3 (a b c d:Int) (w:World) (ha: -6000000<=a/\a<=6000000) (hb: -6000000<=b/\b<=6000000) (hc: -4000000000000000000<=c/\c<=4000000000000000000) (hd: -4000000000000000000<=d/\d<=4000000000000000000):
 Calls prog 86 #[.agg #[.int .i64 a,.int .i64 b],.agg #[.int .i64 c,.int .i64 d]] w (nC w (cmn a b c d)):=by
 refine cV ⟨17,w,none, []⟩ func86 U ntmps86 U (gR (X:= []) cY cZ) (bS (fG U U U fun g1=>fG U U U fun g2=>bZ U (bR (bS (dW yE U U (eI fF 1 U U U (dW yE U U (eI fF 0 U U U (bB (dI1 U U) U (dW wT U U (eI fF 1 U U U (dW wT U U (eI fF 0 U U U (bB (cF6 U U) U (bB (ov_sub U U (by omega) (by omega)) U (bB (cF6 U U) U (bZ U (bR (bM ?_)))))))))))))))))))
 exact bK U U fun wx hm=>⟨bW (by unfold cmn;omega),hm.g⟩
theorem dH2 (gs:Nat) (f:Int->Int) (j n:Int) (w:World) (hb:Blk w gs 59 (six f)) (hj:0<=j/\j<=5) (hf:∀i,0<=f i/\f i<=1000000000000000) (hn:0<=n/\n<=6000000):
 Calls prog 85 #[.pointer (some ⟨gs,0,none⟩),.int .i64 j,.int .i64 n] w (fun e w'=>e=.returned (.tuple #[])/\Blk w' gs 59 (six (fun i=>if i=j then f i+n else f i))/\w.grownBy w' (some gs)):=by
 refine cV ⟨35,w,(some gs), []⟩ func85 U ntmps85 U (bV2 (X:= []) (eH6 hb U) cY cZ) (bH ?_)
 have hjc:j=0∨j=1∨j=2∨j=3∨j=4∨j=5:=by omega
 have hf0:=hf 0
 have hf1:=hf 1
 have hf2:=hf 2
 have hf3:=hf 3
 have hf4:=hf 4
 have hf5:=hf 5
 rcases hjc with hjc|hjc|hjc|hjc|hjc|hjc
 ·subst hjc
  refine gd (fun wz=>True) mixed (fun _ _=>trivial) fun z=>wq 0 U (bJ U) (wq 1 U (bX U) (wq 2 U (bQ bQ6 U U) (wq 3 U (bJ U) (wq 4 U (bX U) (wq 5 U (bQ bR6 U U) (wq 6 U (bJ U) (wq 7 U (bX U) (wq 8 U (bQ bS3 U U) (wq 9 U (bJ U) (wq 10 U (bX U) (wq 11 U (bQ bS6 U U) (wq 12 U (bJ U) (wq 13 U (bX U) (wq 14 U (bQ bT6 U U) (wq 15 U (bJ U) (wq 16 U (bX U) (wq 17 U (bQ bU6 U U) (wq 19 U (bJ U) (eC 18 U (jF 233 [.pointer (some ⟨gs,0,none⟩),.pointer (some ⟨gs,1,none⟩),.pointer (some ⟨gs,2,none⟩),.pointer (some ⟨gs,3,none⟩),.pointer (some ⟨gs,4,none⟩),.pointer (some ⟨gs,5,none⟩)] fun g1=>bE (nw 23 1048575 (fun _ _=>trivial) fun z=>wq 20 U (bT (j:=0) cC3 U U (by decide)) (eC 21 U (eI cY3 0 U U U (bE (nw 23 4194303 (fun _ _=>trivial) fun z=>wq 22 U (cU U) ?_)))))))))))))))))))))))))
  refine jH (bD (bI (bP U (bB (bX U) U (bB (cN (v:= .int .i64 (f 0)) fF U (fun _ hm=>(vG hm.k)) U) U (bP U (gN U U (bB (bX U) U (rP (l:= [f 0,f 1,f 2,f 3,f 4,f 5]) (j:=0) (r:=0) (el:=f 0) (el':=f 0+n) U fF U U U bV1 U U U (by decide) U U (bE ?_))))))))))
  refine jD U fun wx hm=>?_
  exact ⟨U,(by have h:=vG hm.k;simpa [six,bW3] using h),hm.g⟩
 ·subst hjc
  refine gd (fun wz=>True) mixed (fun _ _=>trivial) fun z=>wq 0 U (bJ U) (wq 1 U (bX U) (wq 2 U (bQ bQ6 U U) (wq 3 U (bJ U) (wq 4 U (bX U) (wq 5 U (bQ bR6 U U) (wq 6 U (bJ U) (wq 7 U (bX U) (wq 8 U (bQ bS3 U U) (wq 9 U (bJ U) (wq 10 U (bX U) (wq 11 U (bQ bS6 U U) (wq 12 U (bJ U) (wq 13 U (bX U) (wq 14 U (bQ bT6 U U) (wq 15 U (bJ U) (wq 16 U (bX U) (wq 17 U (bQ bU6 U U) (wq 19 U (bJ U) (eC 18 U (jF 233 [.pointer (some ⟨gs,0,none⟩),.pointer (some ⟨gs,1,none⟩),.pointer (some ⟨gs,2,none⟩),.pointer (some ⟨gs,3,none⟩),.pointer (some ⟨gs,4,none⟩),.pointer (some ⟨gs,5,none⟩)] fun g2=>bE (nw 23 1048575 (fun _ _=>trivial) fun z=>wq 20 U (bT (j:=1) cC3 U U (by decide)) (eC 21 U (eI cY3 0 U U U (bE (nw 23 4194303 (fun _ _=>trivial) fun z=>wq 22 U (cU U) ?_)))))))))))))))))))))))))
  refine jH (bD (bI (bP U (bB (bX U) U (bB (cN (v:= .int .i64 (f 1)) fF U (fun _ hm=>(vG hm.k)) U) U (bP U (gN U U (bB (bX U) U (rP (l:= [f 0,f 1,f 2,f 3,f 4,f 5]) (j:=1) (r:=0) (el:=f 1) (el':=f 1+n) U fF U U U bV1 U U U (by decide) U U (bE ?_))))))))))
  refine jD U fun wx hm=>?_
  exact ⟨U,(by have h:=vG hm.k;simpa [six,bW3] using h),hm.g⟩
 ·subst hjc
  refine gd (fun wz=>True) mixed (fun _ _=>trivial) fun z=>wq 0 U (bJ U) (wq 1 U (bX U) (wq 2 U (bQ bQ6 U U) (wq 3 U (bJ U) (wq 4 U (bX U) (wq 5 U (bQ bR6 U U) (wq 6 U (bJ U) (wq 7 U (bX U) (wq 8 U (bQ bS3 U U) (wq 9 U (bJ U) (wq 10 U (bX U) (wq 11 U (bQ bS6 U U) (wq 12 U (bJ U) (wq 13 U (bX U) (wq 14 U (bQ bT6 U U) (wq 15 U (bJ U) (wq 16 U (bX U) (wq 17 U (bQ bU6 U U) (wq 19 U (bJ U) (eC 18 U (jF 233 [.pointer (some ⟨gs,0,none⟩),.pointer (some ⟨gs,1,none⟩),.pointer (some ⟨gs,2,none⟩),.pointer (some ⟨gs,3,none⟩),.pointer (some ⟨gs,4,none⟩),.pointer (some ⟨gs,5,none⟩)] fun g3=>bE (nw 23 1048575 (fun _ _=>trivial) fun z=>wq 20 U (bT (j:=2) cC3 U U (by decide)) (eC 21 U (eI cY3 0 U U U (bE (nw 23 4194303 (fun _ _=>trivial) fun z=>wq 22 U (cU U) ?_)))))))))))))))))))))))))
  refine jH (bD (bI (bP U (bB (bX U) U (bB (cN (v:= .int .i64 (f 2)) fF U (fun _ hm=>(vG hm.k)) U) U (bP U (gN U U (bB (bX U) U (rP (l:= [f 0,f 1,f 2,f 3,f 4,f 5]) (j:=2) (r:=0) (el:=f 2) (el':=f 2+n) U fF U U U bV1 U U U (by decide) U U (bE ?_))))))))))
  refine jD U fun wx hm=>?_
  exact ⟨U,(by have h:=vG hm.k;simpa [six,bW3] using h),hm.g⟩
 ·subst hjc
  refine gd (fun wz=>True) mixed (fun _ _=>trivial) fun z=>wq 0 U (bJ U) (wq 1 U (bX U) (wq 2 U (bQ bQ6 U U) (wq 3 U (bJ U) (wq 4 U (bX U) (wq 5 U (bQ bR6 U U) (wq 6 U (bJ U) (wq 7 U (bX U) (wq 8 U (bQ bS3 U U) (wq 9 U (bJ U) (wq 10 U (bX U) (wq 11 U (bQ bS6 U U) (wq 12 U (bJ U) (wq 13 U (bX U) (wq 14 U (bQ bT6 U U) (wq 15 U (bJ U) (wq 16 U (bX U) (wq 17 U (bQ bU6 U U) (wq 19 U (bJ U) (eC 18 U (jF 233 [.pointer (some ⟨gs,0,none⟩),.pointer (some ⟨gs,1,none⟩),.pointer (some ⟨gs,2,none⟩),.pointer (some ⟨gs,3,none⟩),.pointer (some ⟨gs,4,none⟩),.pointer (some ⟨gs,5,none⟩)] fun g4=>bE (nw 23 1048575 (fun _ _=>trivial) fun z=>wq 20 U (bT (j:=3) cC3 U U (by decide)) (eC 21 U (eI cY3 0 U U U (bE (nw 23 4194303 (fun _ _=>trivial) fun z=>wq 22 U (cU U) ?_)))))))))))))))))))))))))
  refine jH (bD (bI (bP U (bB (bX U) U (bB (cN (v:= .int .i64 (f 3)) fF U (fun _ hm=>(vG hm.k)) U) U (bP U (gN U U (bB (bX U) U (rP (l:= [f 0,f 1,f 2,f 3,f 4,f 5]) (j:=3) (r:=0) (el:=f 3) (el':=f 3+n) U fF U U U bV1 U U U (by decide) U U (bE ?_))))))))))
  refine jD U fun wx hm=>?_
  exact ⟨U,(by have h:=vG hm.k;simpa [six,bW3] using h),hm.g⟩
 ·subst hjc
  refine gd (fun wz=>True) mixed (fun _ _=>trivial) fun z=>wq 0 U (bJ U) (wq 1 U (bX U) (wq 2 U (bQ bQ6 U U) (wq 3 U (bJ U) (wq 4 U (bX U) (wq 5 U (bQ bR6 U U) (wq 6 U (bJ U) (wq 7 U (bX U) (wq 8 U (bQ bS3 U U) (wq 9 U (bJ U) (wq 10 U (bX U) (wq 11 U (bQ bS6 U U) (wq 12 U (bJ U) (wq 13 U (bX U) (wq 14 U (bQ bT6 U U) (wq 15 U (bJ U) (wq 16 U (bX U) (wq 17 U (bQ bU6 U U) (wq 19 U (bJ U) (eC 18 U (jF 233 [.pointer (some ⟨gs,0,none⟩),.pointer (some ⟨gs,1,none⟩),.pointer (some ⟨gs,2,none⟩),.pointer (some ⟨gs,3,none⟩),.pointer (some ⟨gs,4,none⟩),.pointer (some ⟨gs,5,none⟩)] fun g5=>bE (nw 23 1048575 (fun _ _=>trivial) fun z=>wq 20 U (bT (j:=4) cC3 U U (by decide)) (eC 21 U (eI cY3 0 U U U (bE (nw 23 4194303 (fun _ _=>trivial) fun z=>wq 22 U (cU U) ?_)))))))))))))))))))))))))
  refine jH (bD (bI (bP U (bB (bX U) U (bB (cN (v:= .int .i64 (f 4)) fF U (fun _ hm=>(vG hm.k)) U) U (bP U (gN U U (bB (bX U) U (rP (l:= [f 0,f 1,f 2,f 3,f 4,f 5]) (j:=4) (r:=0) (el:=f 4) (el':=f 4+n) U fF U U U bV1 U U U (by decide) U U (bE ?_))))))))))
  refine jD U fun wx hm=>?_
  exact ⟨U,(by have h:=vG hm.k;simpa [six,bW3] using h),hm.g⟩
 subst hjc
 refine gd (fun wz=>True) mixed (fun _ _=>trivial) fun z=>wq 0 U (bJ U) (wq 1 U (bX U) (wq 2 U (bQ bQ6 U U) (wq 3 U (bJ U) (wq 4 U (bX U) (wq 5 U (bQ bR6 U U) (wq 6 U (bJ U) (wq 7 U (bX U) (wq 8 U (bQ bS3 U U) (wq 9 U (bJ U) (wq 10 U (bX U) (wq 11 U (bQ bS6 U U) (wq 12 U (bJ U) (wq 13 U (bX U) (wq 14 U (bQ bT6 U U) (wq 15 U (bJ U) (wq 16 U (bX U) (wq 17 U (bQ bU6 U U) (wq 19 U (bJ U) (eC 18 U (jF 233 [.pointer (some ⟨gs,0,none⟩),.pointer (some ⟨gs,1,none⟩),.pointer (some ⟨gs,2,none⟩),.pointer (some ⟨gs,3,none⟩),.pointer (some ⟨gs,4,none⟩),.pointer (some ⟨gs,5,none⟩)] fun g6=>bE (nw 23 1048575 (fun _ _=>trivial) fun z=>wq 20 U (bT (j:=5) cC3 U U (by decide)) (eC 21 U (eI cY3 0 U U U (bE (nw 23 4194303 (fun _ _=>trivial) fun z=>wq 22 U (cU U) ?_)))))))))))))))))))))))))
 refine jH (bD (bI (bP U (bB (bX U) U (bB (cN (v:= .int .i64 (f 5)) fF U (fun _ hm=>(vG hm.k)) U) U (bP U (gN U U (bB (bX U) U (rP (l:= [f 0,f 1,f 2,f 3,f 4,f 5]) (j:=5) (r:=0) (el:=f 5) (el':=f 5+n) U fF U U U bV1 U U U (by decide) U U (bE ?_))))))))))
 refine jD U fun wx hm=>?_
 exact ⟨U,(by have h:=vG hm.k;simpa [six,bW3] using h),hm.g⟩
theorem dO6 (vl:List Vh) (sA cA vA pA:Option Addr) (sn sc cn cc vn vc pn pc:Nat) (el:List Ev) (eA:Option Addr) (en ec:Nat) (a b:Int) (w:World) (hv:SlT fX 2 57 w vA vn vl) (hl:SlT dP 5 74 w eA en el) (vN:∀x∈el,cJ4 x) (hveh:∀x∈el,0<=mH (zY x.veh) vl 0) (bE3:bM3 vl) (ha0:0<=a) (hab:a<=b) (hb0:b<=5761440) (hen:en<=1000) (hvn:vn<=1000):
 Calls prog 38 #[.agg #[.slice sA sn sc,.slice cA cn cc,.slice vA vn vc,.slice pA pn pc],.slice eA en ec,.agg #[.int .i64 a,.int .i64 b]] w (fun e w'=>∃(m:Nat) (p:bA0) (H:ByteArray->Int->Int),e=.returned (.map (some m))/\kZ zR 0 m p w'/\Fam 59 w.heap.size p H w'/\(∀(k:Nat) (x:Vh),vl[k]?=some x->∃g,p x.key=some (some g))/\(∀k,p k≠none->∃x∈vl,x.key=k)/\(∀(k:Nat) (x:Vh),vl[k]?=some x->∀j,H x.key j=spT a b el x.key j)/\w.grownBy w' none):=by
 refine cV ⟨95,w,none, [59]⟩ func38 U ntmps38 U (gR (X:= [bU fX 2 57 w.heap.size none vA vn vl,bU dP 5 74 w.heap.size none eA en el]) (cG hv.old (cG hl.old cY)) (cH bU.lasts (cH bU.lasts cZ))) (bS ?_)
 have hlen:=hv.len
 have hell:=hl.len
 refine fG U U U fun g1=>fG U U U fun g2=>bZ U (bR (bS ?_))
 refine cI9 (enc:=zR) U fun g3=>?_
 refine bZ U (bR (bS ?_))
 refine cJ9 (enc:=bV8) 0 U U fun g4 hne_g4=>?_
 refine bZ U (bR (bH (bS (dW uK U U (eI bX2 1 U U U (bB (dT bQ3 U) U (bP U (bR (bO ?_)))))))))
 refine dG5 (T:=59) (G:=fun _ _=>0) U ?_
 refine dX (γ:=Nat×bA0) (fun gg=>gg.1<=vn/\cZ2 gg.2 g3 g4/\(∀(k:Nat) (x:Vh),vl[k]?=some x->k < gg.1->∃g,gg.2 x.key=some (some g))/\(∀k,gg.2 k≠none->∃x∈vl,x.key=k)) (fun gg=> [(1,.slice eA en ec),(3,.pointer (some ⟨g1,0,none⟩)),(5,.pointer (some ⟨g2,0,none⟩)),(6,.map none),(7,.map (some g3)),(8,.map (some g4)),(22,.slice vA vn vc),(23,.int .i64 ((vn:Nat):Int)),(24,.int .i64 ((gg.1:Nat):Int))]) (fun gg=>fun _=>True) (fun gg=> [(g2,55, [.int .i64 a,.int .i64 b]),(g1,31, [.slice sA sn sc,.slice cA cn cc,.slice vA vn vc,.slice pA pn pc])]) (fun gg=> []) (fun gg=> [Fam 59 w.heap.size gg.2 (fun _ _=>0),kZ bV8 w.heap.size g4 (cC0),kZ zR w.heap.size g3 (gg.2),bU fX 2 57 w.heap.size none vA vn vl,bU dP 5 74 w.heap.size none eA en el]) (fun gg=>vn - gg.1) (0,cC0) ⟨Nat.zero_le _,dC5,(fun _ _ _ h=>absurd h (Nat.not_lt_zero _)),(fun _ h=>absurd U h)⟩ ⟨U,U,U,U,U,U,U,U,U,trivial⟩ (fun _ hm=>hm.pick [0,1] [] [0,1,2,3,4] U U) ?_
 rintro ⟨i,p⟩ cC
 replace cC:i<=vn/\cZ2 p g3 g4/\(∀(k:Nat) (x:Vh),vl[k]?=some x->k < i->∃g,p x.key=some (some g))/\(∀k,p k≠none->∃x∈vl,x.key=k):=cC
 dsimp only
 refine bS ?_
 obtain ⟨hi0,hok,hdom,hdin⟩:=cC
 refine bB (dD U U) U (bR (bH ?_))
 refine cE U (fun hi=>?_) (fun hi=>?_)
 ·refine bN (bD (bH (bO (bS ?_))))
  obtain ⟨b0,off,hA,_,_⟩:=hv.get (by omega)
  subst hA
  obtain ⟨x,hx⟩:∃x,vl[i]?=some x:=⟨_,fJ5 (by omega)⟩
  obtain ⟨vk,zV⟩:=x
  refine bB (bT (j:=i) bQ3 U U (by omega)) U (bB (dO (vs:= [.string vk,.string zV]) bB9 U (fun _ hm=>(hm.fact 3 U).1) hx U U) U (dH eR1 U fun g5=>jX (cs':= [.string vk,.string zV]) 0 bB9 U U U U (bR (bI (bP U (dW wU U U (eI fE 0 U U U (bB (dJ (cs:= [.int .i64 0,.int .i64 0,.int .i64 0,.int .i64 0,.int .i64 0,.int .i64 0]) U (by kernel_rfl)) U ?_))))))))
  refine eU4 0 2 1 U U U U U U fun g6 hfr_g6 hf1_g6 hf2_g6=>?_
  refine cG4 (enc:=zR) (v:=(some g6)) (k:=9) (e:=126) (X':= [Fam 59 w.heap.size p (fun _ _=>0),kZ bV8 w.heap.size g4 (cC0),bU fX 2 57 w.heap.size none (some ⟨b0,off,none⟩) vn vl,bU dP 5 74 w.heap.size none eA en el]) 2 (by kernel_rfl) (by kernel_rfl) U U U U (mA (i:=0) (Fam.far hok.ne1) U (mA (i:=1) (kZ.far hne_g4.symm) U (mA (i:=3) bU.far U (mA (i:=4) bU.far U bD9)))) ?_
  refine bE (bG (bD (bI (gN U U (bP U (bE ?_))))))
  refine eJ7 (k:=vk) (g:=g6) (p:=p) (G:=fun _ _=>0) 0 1 U U U ?_
  exact cQ (i+1,yA (p) vk (some g6)) ⟨by dsimp only;omega,hok.put hfr_g6 hf1_g6 hf2_g6,eL2 hdom hx,eT6 hdin hx⟩ (by dsimp only;omega) ⟨U,U,U,U,U,U,U,U,(cS (by omega)),trivial⟩ (fun _ hm=>hm.pick [2,3] [] [0,3,1,4,5] U U)
 refine dE (bF (bF (bY (bD (bH (bS ?_))))))
 have hdom:(∀(k:Nat) (x:Vh),vl[k]?=some x->k < vl.length->∃g,p x.key=some (some g)):=fun k x hx hk=>hdom k x hx (by omega)
 refine bP U (bB (dT kE U) U (bP U (bR (bO ?_))))
 refine dX (γ:=Nat×fF3×(ByteArray->Int->Int)) (fun gg=>gg.1<=en/\bH4 a b el (el.drop gg.1) (fun v=>(gg.2.1 v).getD pH) gg.2.2/\(∀u t,0<=gg.2.2 u t/\gg.2.2 u t<=((gg.1:Nat):Int) *6000000)/\dK4 gg.2.1) (fun gg=> [(3,.pointer (some ⟨g1,0,none⟩)),(5,.pointer (some ⟨g2,0,none⟩)),(6,.map none),(7,.map (some g3)),(8,.map (some g4)),(34,.slice eA en ec),(35,.int .i64 ((en:Nat):Int)),(36,.int .i64 ((gg.1:Nat):Int))]) (fun gg=>fun _=>True) (fun gg=> [(g2,55, [.int .i64 a,.int .i64 b]),(g1,31, [.slice sA sn sc,.slice cA cn cc,.slice vA vn vc,.slice pA pn pc])]) (fun gg=> []) (fun gg=> [Fam 59 w.heap.size p gg.2.2,kZ bV8 w.heap.size g4 (gg.2.1),kZ zR w.heap.size g3 (p),bU fX 2 57 w.heap.size none vA vn vl,bU dP 5 74 w.heap.size none eA en el]) (fun gg=>en - gg.1) (0,cC0,(fun _ _=>0)) ⟨Nat.zero_le _,eY0,(fun _ _=>⟨Int.le_refl _,by dsimp only;omega⟩),dY7⟩ ⟨U,U,U,U,U,U,U,U,trivial⟩ (fun _ hm=>hm.pick [0,1] [] [0,1,2,3,4] U U) ?_
 rintro ⟨i,F,G⟩ cC
 replace cC:i<=en/\bH4 a b el (el.drop i) (fun v=>(F v).getD pH) G/\(∀u t,0<=G u t/\G u t<=((i:Nat):Int) *6000000)/\dK4 F:=cC
 dsimp only
 refine bS ?_
 obtain ⟨hi0,hsp,hGb,hcur⟩:=cC
 refine bB (dD U U) U (bR (bH ?_))
 refine cE U (fun hi=>?_) (fun hi=>?_)
 ·refine bN (bD (bH (bO (bS ?_))))
  obtain ⟨be,oe,hA,_,_⟩:=hl.get (by omega)
  subst hA
  obtain ⟨x,hx⟩:∃x,el[i]?=some x:=⟨_,fJ5 (by omega)⟩
  obtain ⟨e0,e1,e2,e3,e4⟩:=x
  have hex:=vN _ (fK5 hx)
  obtain ⟨gv,hgv⟩:=eM2 hdom (hveh _ (fK5 hx))
  have hgv:p e1=some (some gv):=hgv
  have he0: -4000000000000000000<=e0/\e0<=4000000000000000000:=hex.1
  have hrest:el.drop i=(⟨e0,e1,e2,e3,e4⟩:Ev)::el.drop (i+1):=by
   obtain ⟨h1,h2⟩:=List.getElem?_eq_some_iff.1 hx
   rw [<-h2];exact List.drop_eq_getElem_cons h1
  have hcr:=hcur e1
  obtain ⟨S0,hS0⟩:∃z,z=((F) e1).getD pH:=⟨_,rfl⟩
  obtain ⟨s0,s1,s2⟩:=S0
  obtain ⟨T0,hT0⟩:∃z,z=gU ⟨s0,s1,s2⟩ (⟨e0,e1,e2,e3,e4⟩:Ev):=⟨_,rfl⟩
  obtain ⟨t0,t1,t2⟩:=T0
  rw [<-hS0] at hcr
  dsimp only at hcr
  rw [hrest] at hsp
  have hFS:(F (⟨e0,e1,e2,e3,e4⟩:Ev).veh).getD pH=⟨s0,s1,s2⟩:=hS0.symm
  refine bB (bT (j:=i) kE U U (by omega)) U (bB (dO (vs:= [.int .i64 e0,.string e1,.string e2,.int .i64 e3,.string e4]) fR U (fun _ hm=>(hm.fact 4 U).1) hx U U) U (dH cW1 U fun g7=>jX (cs':= [.int .i64 e0,.string e1,.string e2,.int .i64 e3,.string e4]) 0 fR U U U U (bR (bS (bP U (dW rD U U (eI fE 0 U U U (bB (bA1 (enc:=bV8) (k:=9) (e:=138) pH (by kernel_rfl) (by kernel_rfl) (by kernel_rfl) U U (fun _ hm=>(hm.fact 1 U))) U (bL 43 (v':= .agg #[.int .i64 s0,.string s1,.int .i64 s2]) U (congrArg bV8 hS0.symm) (dH cH4 U fun g8=>jX (cs':= [.int .i64 s0,.string s1,.int .i64 s2]) 0 eM U U U U (bR (bS (bB (cX eM U (fun _ hm=>hm.blkI 0 U) U U) U (bB (cX fR U (fun _ hm=>hm.blkI 1 U) U U) U (cL (v:= .tuple #[.agg #[.int .i64 t0,.string t1,.int .i64 t2],.bool (gB ⟨s0,s1,s2⟩ (⟨e0,e1,e2,e3,e4⟩:Ev))]) U eG2 U U (fun wx hm=>(by have h:=yF s0 s1 s2 e0 e1 e2 e3 e4 wx;rw [<-hT0] at h;exact h)) (bP U (bB (cR U U) U (bB (cR U U) U (dH cH4 U fun g9=>jX (cs':= [.int .i64 t0,.string t1,.int .i64 t2]) 0 eM U U U U (bZ U (bR (bS (bP U (bR ?_))))))))))))))))))))))))
  refine dC U (fun hh=>?_) (fun hh=>?_)
  ·have hg:(gB ⟨s0,s1,s2⟩ (⟨e0,e1,e2,e3,e4⟩:Ev))=true:=by simpa using hh
   refine bH ?_
   have hcb:=dW7 (c:=s2) (d:=e0) hab
   have hsp2:=eY3 hsp (show gB ((F (⟨e0,e1,e2,e3,e4⟩:Ev).veh).getD pH) (⟨e0,e1,e2,e3,e4⟩:Ev)=true by rw [hFS];exact hg)
   rw [hFS] at hsp2
   dsimp only at hsp2
   have hT:jV (⟨e0,e1,e2,e3,e4⟩:Ev)=⟨t0,t1,t2⟩:=by
    have h:=hT0
    unfold gU at h
    rw [if_pos hg] at h;exact h.symm
   have hcu2:=hcur.put (k:=e1) hex
   rw [hT] at hsp2 hcu2
   have hgb2:=dE3 (v:=e1) (j:=s0) hGb hcb.1 (show cmn a b s2 e0<=6000000 by omega)
   refine gd (fun wz=>Blk wz g8 138 [.int .i64 s0,.string s1,.int .i64 s2]/\Blk wz g7 74 [.int .i64 e0,.string e1,.string e2,.int .i64 e3,.string e4]/\Blk wz g2 55 [.int .i64 a,.int .i64 b]/\(kZ zR w.heap.size g3 (p)) wz/\True) mixed (fun _ hm=>⟨hm.bl 1,hm.bl 2,hm.bl 3,hm.fa 2,trivial⟩) fun z=>wq 0 U (bJ U) (wq 1 U (bQ rD U U) (wq 2 U (cN fE U (fun _ hm=>hm.2.1) U) (wq 3 U (bA1 (enc:=zR) (k:=9) (e:=126) none (by kernel_rfl) (by kernel_rfl) (by kernel_rfl) U U (fun _ hm=>(hm.2.2.2.1))) (dG 54 (v':= .pointer (some ⟨gv,0,none⟩)) U ((show zR ((p e1).getD none)= .pointer (some ⟨gv,0,none⟩) by rw [hgv];rfl)) (wq 4 U (bQ rV U U) (wq 5 U (cN fF U (fun _ hm=>hm.1) U) (wq 6 U (cX cH1 U (fun _ hm=>hm.2.2.1) U U) (wq 7 U (bQ dA3 U U) (wq 8 U (cN fF U (fun _ hm=>hm.1) U) (wq 9 U (bQ nE U U) (wq 10 U (cN fF U (fun _ hm=>hm.2.1) U) (wq 11 U (dJ (cs:= [.int .i64 s2,.int .i64 e0]) U (by kernel_rfl)) (eC 12 U (cL U fM1 U U (fun wx hm=>(bF3 a b s2 e0 wx (by omega) (by omega) (by omega) (by omega))) (bE (nw 14 8191 (fun _ hm=>⟨hm.bl 1,hm.bl 2,hm.bl 3,hm.fa 2,trivial⟩) fun z=>eC 13 U ?_))))))))))))))))
   refine cF4 (T:=59) (p:=p) (G:=G) (k:=e1) (g:=gv) (j:=s0) (n:=(cmn a b s2 e0)) (X':= [kZ bV8 w.heap.size g4 (F),kZ zR w.heap.size g3 (p),bU fX 2 57 w.heap.size none vA vn vl,bU dP 5 74 w.heap.size none (some ⟨be,oe,none⟩) en el]) 0 U hgv hok.inj U U U U fL1 U U (fun wx hm hb=>dH2 gv (G e1) s0 (cmn a b s2 e0) wx hb (by omega) (fun t=>by have h:=hGb e1 t;omega) (by omega)) (mA (i:=1) (kZ.far (show g4≠gv from fun e=>hok.ne2 e1 (hgv.trans (by rw [e])))) U (mA (i:=2) (kZ.far (show g3≠gv from fun e=>hok.ne1 e1 (hgv.trans (by rw [e])))) U (mA (i:=3) bU.far U (mA (i:=4) bU.far U bD9)))) ?_
   refine bE (nw 14 16383 (fun _ hm=>⟨hm.bl 1,hm.bl 2,hm.bl 3,hm.fa 2,trivial⟩) fun z=>jH (bD (bI (bP U (dW rD U U (eI fE 2 U U U (bB (cX eM U (fun _ hm=>hm.blkI 0 U) U U) U ?_)))))))
   refine cG4 (enc:=bV8) (v:=(⟨t0,t1,t2⟩:Sa)) (k:=9) (e:=138) (X':= [Fam 59 w.heap.size p (bT3 G e1 s0 (cmn a b s2 e0)),kZ zR w.heap.size g3 (p),bU fX 2 57 w.heap.size none vA vn vl,bU dP 5 74 w.heap.size none (some ⟨be,oe,none⟩) en el]) 1 (by kernel_rfl) (by kernel_rfl) U U U U (mA (i:=0) (Fam.far hok.ne2) U (mA (i:=2) (kZ.far hne_g4) U (mA (i:=3) bU.far U (mA (i:=4) bU.far U bD9)))) ?_
   refine bE (bG (bD (bI (gN U U (bP U (bE ?_))))))
   exact cQ (i+1,yA (F) e1 (⟨t0,t1,t2⟩:Sa),bT3 G e1 s0 (cmn a b s2 e0)) ⟨by dsimp only;omega,hsp2,(fun u t=>by have h:=hgb2 u t;dsimp only;omega),hcu2⟩ (by dsimp only;omega) ⟨U,U,U,U,U,U,U,(cS (by omega)),trivial⟩ (fun _ hm=>hm.pick [3,4] [] [1,0,2,3,4] U U)
  have hg:(gB ⟨s0,s1,s2⟩ (⟨e0,e1,e2,e3,e4⟩:Ev))=false:=by simpa using hh
  refine bN (bG (bD (bI ?_)))
  have hsp2:=eB8 hsp (show ¬gB ((F (⟨e0,e1,e2,e3,e4⟩:Ev).veh).getD pH) (⟨e0,e1,e2,e3,e4⟩:Ev)=true by rw [hFS,hg];decide)
  refine gN U U (bP U (bE ?_))
  exact cQ (i+1,F,G) ⟨by dsimp only;omega,hsp2,(fun u t=>by have h:=hGb u t;dsimp only;omega),hcur⟩ (by dsimp only;omega) ⟨U,U,U,U,U,U,U,(cS (by omega)),trivial⟩ (fun _ hm=>hm.pick [3,4] [] [0,1,2,3,4] U U)
 refine dE (bF (bF (bY (bD (bH (bS ?_))))))
 have hse:=eA4 (vl:=vl) (show bH4 a b el [] (fun v=>(F v).getD pH) G by rw [List.drop_eq_nil_of_le (by omega)] at hsp;exact hsp)
 refine dW uK U U (eI bX2 1 U U U (bB (dT bQ3 U) U (bP U (bR (bO ?_)))))
 refine dX (γ:=Nat×(ByteArray->Int->Int)) (fun gg=>gg.1<=vn/\cA3 a b el vl gg.1 (fun v=>(F v).getD pH) gg.2/\(∀u t,0<=gg.2 u t/\gg.2 u t<=((1000+gg.1:Nat):Int) *6000000)) (fun gg=> [(5,.pointer (some ⟨g2,0,none⟩)),(6,.map none),(7,.map (some g3)),(8,.map (some g4)),(71,.slice vA vn vc),(72,.int .i64 ((vn:Nat):Int)),(73,.int .i64 ((gg.1:Nat):Int))]) (fun gg=>fun _=>True) (fun gg=> [(g2,55, [.int .i64 a,.int .i64 b]),(g1,31, [.slice sA sn sc,.slice cA cn cc,.slice vA vn vc,.slice pA pn pc])]) (fun gg=> []) (fun gg=> [Fam 59 w.heap.size p gg.2,kZ bV8 w.heap.size g4 (F),kZ zR w.heap.size g3 (p),bU fX 2 57 w.heap.size none vA vn vl,bU dP 5 74 w.heap.size none eA en el]) (fun gg=>vn - gg.1) (0,G) ⟨Nat.zero_le _,hse,(fun u t=>by have h:=hGb u t;dsimp only;omega)⟩ ⟨U,U,U,U,U,U,U,trivial⟩ (fun _ hm=>hm.pick [0,1] [] [0,1,2,3,4] U U) ?_
 rintro ⟨q,H⟩ cC
 replace cC:q<=vn/\cA3 a b el vl q (fun v=>(F v).getD pH) H/\(∀u t,0<=H u t/\H u t<=((1000+q:Nat):Int) *6000000):=cC
 dsimp only
 refine bS ?_
 obtain ⟨hq0,hse,hGb⟩:=cC
 refine bB (dD U U) U (bR (bH ?_))
 refine cE U (fun hq=>?_) (fun hq=>?_)
 ·refine bN (bD (bH (bO (bS ?_))))
  obtain ⟨b3,o3,hA,_,_⟩:=hv.get (by omega)
  subst hA
  obtain ⟨x,hx⟩:∃x,vl[q]?=some x:=⟨_,fJ5 (by omega)⟩
  obtain ⟨vk,zV⟩:=x
  obtain ⟨gv,hgv⟩:=hdom q _ hx (by omega)
  have hgv:p vk=some (some gv):=hgv
  have hcr:=hcur vk
  obtain ⟨S0,hS0⟩:∃z,z=(F vk).getD pH:=⟨_,rfl⟩
  obtain ⟨s0,s1,s2⟩:=S0
  rw [<-hS0] at hcr
  dsimp only at hcr
  have hcb:=dW7 (c:=s2) (d:=5761440) hab
  have hse2:=eZ3 hse bE3 hx
  dsimp only at hse2
  rw [<-hS0] at hse2
  dsimp only at hse2
  have hgb2:=dE3 (v:=vk) (j:=s0) hGb hcb.1 (show cmn a b s2 5761440<=6000000 by omega)
  refine bB (bT (j:=q) bQ3 U U (by omega)) U (bB (dO (vs:= [.string vk,.string zV]) bB9 U (fun _ hm=>(hm.fact 3 U).1) hx U U) U (dH eR1 U fun g10=>jX (cs':= [.string vk,.string zV]) 0 bB9 U U U U (bR (bS (bP U (dW wU U U (eI fE 0 U U U (bB (bA1 (enc:=bV8) (k:=9) (e:=138) pH (by kernel_rfl) (by kernel_rfl) (by kernel_rfl) U U (fun _ hm=>(hm.fact 1 U))) U (bL 80 (v':= .agg #[.int .i64 s0,.string s1,.int .i64 s2]) U (congrArg bV8 hS0.symm) (dH cH4 U fun g11=>jX (cs':= [.int .i64 s0,.string s1,.int .i64 s2]) 0 eM U U U U (bR (gd (fun wz=>Blk wz g11 138 [.int .i64 s0,.string s1,.int .i64 s2]/\Blk wz g10 57 [.string vk,.string zV]/\Blk wz g2 55 [.int .i64 a,.int .i64 b]/\(kZ zR w.heap.size g3 (p)) wz/\True) mixed (fun _ hm=>⟨hm.bl 0,hm.bl 1,hm.bl 2,hm.fa 2,trivial⟩) fun z=>wq 0 U (bJ U) (wq 1 U (bQ wU U U) (wq 2 U (cN fE U (fun _ hm=>hm.2.1) U) (wq 3 U (bA1 (enc:=zR) (k:=9) (e:=126) none (by kernel_rfl) (by kernel_rfl) (by kernel_rfl) U U (fun _ hm=>(hm.2.2.2.1))) (dG 84 (v':= .pointer (some ⟨gv,0,none⟩)) U ((show zR ((p vk).getD none)= .pointer (some ⟨gv,0,none⟩) by rw [hgv];rfl)) (wq 4 U (bQ rV U U) (wq 5 U (cN fF U (fun _ hm=>hm.1) U) (wq 6 U (cX cH1 U (fun _ hm=>hm.2.2.1) U U) (wq 7 U (bQ dA3 U U) (wq 8 U (cN fF U (fun _ hm=>hm.1) U) (wq 9 U (dJ (cs:= [.int .i64 s2,.int .i64 5761440]) U (by kernel_rfl)) (eC 10 U (cL U fM1 U U (fun wx hm=>(bF3 a b s2 5761440 wx (by omega) (by omega) (by omega) (by omega))) (bE (nw 12 2047 (fun _ hm=>⟨hm.bl 0,hm.bl 1,hm.bl 2,hm.fa 2,trivial⟩) fun z=>?_))))))))))))))))))))))))))
  refine eC 11 U ?_
  refine cF4 (T:=59) (p:=p) (G:=H) (k:=vk) (g:=gv) (j:=s0) (n:=(cmn a b s2 5761440)) (X':= [kZ bV8 w.heap.size g4 (F),kZ zR w.heap.size g3 (p),bU fX 2 57 w.heap.size none (some ⟨b3,o3,none⟩) vn vl,bU dP 5 74 w.heap.size none eA en el]) 0 U hgv hok.inj U U U U fL1 U U (fun wx hm hb=>dH2 gv (H vk) s0 (cmn a b s2 5761440) wx hb (by omega) (fun t=>by have h:=hGb vk t;omega) (by omega)) (mA (i:=1) (kZ.far (show g4≠gv from fun e=>hok.ne2 vk (hgv.trans (by rw [e])))) U (mA (i:=2) (kZ.far (show g3≠gv from fun e=>hok.ne1 vk (hgv.trans (by rw [e])))) U (mA (i:=3) bU.far U (mA (i:=4) bU.far U bD9)))) ?_
  refine bE (nw 12 4095 (fun _ hm=>⟨hm.bl 0,hm.bl 1,hm.bl 2,hm.fa 2,trivial⟩) fun z=>jH (bG (bD (bI (gN U U (bP U (bE ?_)))))))
  exact cQ (q+1,bT3 H vk s0 (cmn a b s2 5761440)) ⟨by dsimp only;omega,hse2,(fun u t=>by have h:=hgb2 u t;dsimp only;omega)⟩ (by dsimp only;omega) ⟨U,U,U,U,U,U,(cS (by omega)),trivial⟩ (fun _ hm=>hm.pick [2,3] [] [0,1,2,3,4] U U)
 refine dE (bF (bF (bY (bD (bS ?_)))))
 obtain rfl:q=vl.length:=by omega
 refine bP U (bZ U (bR (bM ?_)))
 exact bK U U fun wx hm=>⟨g3,p,H,U,((hm.fact 2 U)).lower (Nat.zero_le _),(hm.fact 0 U),(fun k x hx=>hdom k x hx (List.getElem?_eq_some_iff.1 hx).1),hdin,(fun k x hx j=>eX3 hse hx j),hm.g⟩
def siE (sl:List St) (cl:List Cs) (vl:List Vh) (pl:List Pl) (el:List Ev) (vk:ByteArray) (a b:Int):Int:=dI [cA5 sl cl vl pl el,dK (decide (mH (zY vk) vl 0 < 0)) 8,qZ a b]
theorem eD8 {vl:List Vh} {k:ByteArray} (h:0<=mH (zY k) vl 0):∃(i:Nat) (y:Vh),vl[i]?=some y/\y.key=k:=by
 obtain ⟨y,hy,hp⟩:=cX5 h
 exact ⟨_,y,hy,rI.1 hp⟩
theorem cY8 (sl:List St) (cl:List Cs) (vl:List Vh) (pl:List Pl) (sA cA vA pA:Option Addr) (sn sc cn cc vn vc pn pc:Nat) (el:List Ev) (eA:Option Addr) (en ec:Nat) (vk:ByteArray) (a b:Int) (w:World) (hs:SlT stEnc 15 99 w sA sn sl) (hc:SlT dV 2 84 w cA cn cl) (hv:SlT fX 2 57 w vA vn vl) (hp:SlT bH3 3 293 w pA pn pl) (uB:∀x∈sl,StOk x) (bZ6:∀x∈cl,uF x) (bS2:∀x∈vl,cS9 x) (hpok:∀x∈pl,eB2 x) (zJ:sn<=1000000) (hcn:cn<=1000000) (hvn:vn<=1000000) (hpn:pn<=1000000) (hl:SlT dP 5 74 w eA en el) (vN:∀x∈el,cJ4 x) (hen:en<=1000000) (hen2:en<=1000):
 Calls prog 11 #[.agg #[.slice sA sn sc,.slice cA cn cc,.slice vA vn vc,.slice pA pn pc],.slice eA en ec,.string vk,.agg #[.int .i64 a,.int .i64 b]] w (fun e w'=>(siE sl cl vl pl el vk a b=0->e=.returned (.tuple #[.agg #[.int .i64 (spT a b el vk 0),.int .i64 (spT a b el vk 1),.int .i64 (spT a b el vk 2),.int .i64 (spT a b el vk 3),.int .i64 (spT a b el vk 4),.int .i64 (spT a b el vk 5)],.int .i64 0]))/\(siE sl cl vl pl el vk a b≠0->e=.returned (.tuple #[.agg #[.int .i64 0,.int .i64 0,.int .i64 0,.int .i64 0,.int .i64 0,.int .i64 0],.int .i64 (siE sl cl vl pl el vk a b)]))/\w.grownBy w' none):=by
 refine cV ⟨40,w,none, []⟩ func11 U ntmps11 U (gR (X:= [bU stEnc 15 99 w.heap.size none sA sn sl,bU dV 2 84 w.heap.size none cA cn cl,bU fX 2 57 w.heap.size none vA vn vl,bU bH3 3 293 w.heap.size none pA pn pl,bU dP 5 74 w.heap.size none eA en el]) (cG hs.old (cG hc.old (cG hv.old (cG hp.old (cG hl.old cY))))) (cH bU.lasts (cH bU.lasts (cH bU.lasts (cH bU.lasts (cH bU.lasts cZ)))))) (bS ?_)
 obtain ⟨FE,hFE⟩:∃z,z=cA5 sl cl vl pl el:=⟨_,rfl⟩
 obtain ⟨TE,hTE⟩:∃z,z=siE sl cl vl pl el vk a b:=⟨_,rfl⟩
 rw [<-hTE]
 have hT0:TE=dI [FE,dK (decide (mH (zY vk) vl 0 < 0)) 8,qZ a b]:=by rw [hTE,hFE];rfl
 refine fG U U U fun g1=>fG U U U fun g2=>dH fW2 U fun g3=>bZ U (bR (bH (bS (bB (cX bP5 U (fun _ hm=>hm.blkI 2 U) U U) U (bP U (cL (v:= .int .i64 FE) U fU3 U U (fun wx hm=>(by rw [hFE];exact cX9 sl cl vl pl sA cA vA pA sn sc cn cc vn vc pn pc el eA en ec wx (hm.fact 0 rfl).1 (hm.fact 1 rfl).1 (hm.fact 2 rfl).1 (hm.fact 3 rfl).1 uB bZ6 bS2 hpok zJ hcn hvn hpn (hm.fact 4 rfl).1 vN (by omega))) (bZ U (bR (bS (bP U (bB (gX U U) U (bR ?_))))))))))))
 refine gI U (fun h1=>?_) (fun h1=>?_)
 ·refine bS ?_
  have h2:FE≠0:=by simpa using h1
  have h3:TE=FE:=by rw [hT0];exact dQ8 h2
  refine bB (dJ (cs:= [.int .i64 0,.int .i64 0,.int .i64 0,.int .i64 0,.int .i64 0,.int .i64 0]) U (by kernel_rfl)) U (bP U (jX (cs':= [.int .i64 0,.int .i64 0,.int .i64 0,.int .i64 0,.int .i64 0,.int .i64 0]) 0 cS8 U U U U (bZ U (bR (bM (bA ?_))))))
  refine eL 0 U cS8 U U U U fun wx hm=>?_
  exact ⟨fun h=>absurd h (by rw [h3];exact h2),fun _=>by rw [h3],hm.g⟩
 refine bN (bD (bH (bH ?_)))
 have h2:FE=0:=by simpa using h1
 obtain ⟨hf0,uM⟩:=eU6 (hFE.symm.trans h2)
 obtain ⟨_,hfine,_⟩:=dZ9 uM
 have bE3:bM3 vl:=cF0 hf0
 have hvn5:=hv.len
 have hv5:vl.length<=500:=by
  have h:=pU hf0 (bK3 cl vl) (by simp)
  unfold bK3 at h
  split at h
  ·cases h
  omega
 have hT1:TE=dI [dK (decide (mH (zY vk) vl 0 < 0)) 8,qZ a b]:=by rw [hT0,h2];exact eP5
 refine gd (fun wz=>Blk wz g2 55 [.int .i64 a,.int .i64 b]/\Blk wz g1 31 [.slice sA sn sc,.slice cA cn cc,.slice vA vn vc,.slice pA pn pc]/\True) mixed (fun _ hm=>⟨hm.bl 1,hm.bl 2,trivial⟩) fun z=>wq 0 U (cX bP5 U (fun _ hm=>hm.2.1) U U) (wq 1 U (bJ U) (wq 5 U (cX cH1 U (fun _ hm=>hm.1) U U) (eC 2 U (cL U fB1 U U (fun wx hm=>(bJ3 vl sA cA vA pA sn sc cn cc vn vc pn pc vk wx (hm.fact 2 U).1 (by omega) bE3)) (bE (nw 10 39 (fun _ hm=>⟨hm.bl 1,hm.bl 2,trivial⟩) fun z=>wq 3 U (dD U U) (eC 4 U (dA U qK U U (fun wx hm=>(eE _ _ wx)) (bE (nw 10 63 (fun _ hm=>⟨hm.bl 1,hm.bl 2,trivial⟩) fun z=>eC 6 U (cL U fV3 U U (fun wx hm=>(dE2 _ _ wx)) (bE (nw 10 127 (fun _ hm=>⟨hm.bl 1,hm.bl 2,trivial⟩) fun z=>eC 7 U (jF 48 [.int .i64 (dK (decide (mH (zY vk) vl 0 < 0)) 8),.int .i64 (qZ a b)] fun g4=>bE (nw 10 255 (fun _ hm=>⟨hm.bl 2,hm.bl 3,trivial⟩) fun z=>eC 8 U (dA U wJ U U (fun wx hm=>(fJ [dK (decide (mH (zY vk) vl 0 < 0)) 8,qZ a b] _ _ _ wx (hm.blkI 0 U) (by simp))) (bE (nw 10 511 (fun _ hm=>⟨hm.bl 2,hm.bl 3,trivial⟩) fun z=>wq 9 U (cU U) (jH ?_)))))))))))))))))))
 refine bD (bS (bP U (bB (gX U U) U (bR ?_))))
 refine gI U (fun h3=>?_) (fun h3=>?_)
 ·refine bS ?_
  have h4:TE≠0:=by rw [hT1];simpa using h3
  refine bB (dJ (cs:= [.int .i64 0,.int .i64 0,.int .i64 0,.int .i64 0,.int .i64 0,.int .i64 0]) U (by kernel_rfl)) U (bP U (jX (cs':= [.int .i64 0,.int .i64 0,.int .i64 0,.int .i64 0,.int .i64 0,.int .i64 0]) 1 cS8 U U U U (bZ U (bR (bM (bA ?_))))))
  refine eL 1 U cS8 U U U U fun wx hm=>?_
  exact ⟨fun h=>absurd h h4,fun _=>by rw [hT1],hm.g⟩
 refine bN (bD (bS ?_))
 have h4:TE=0:=by rw [hT1];simpa using h3
 have hfa:=pU (hT1.symm.trans h4)
 have hck:=hfa (dK (decide (mH (zY vk) vl 0 < 0)) 8) (by simp)
 have hix:0<=mH (zY vk) vl 0:=by
  by_cases h:mH (zY vk) vl 0 < 0
  ·rw [decide_eq_true h] at hck;cases hck
  omega
 obtain ⟨ha0,hab,hb0⟩:=dD2 (hfa (qZ a b) (by simp))
 obtain ⟨iv,yv,hyv,hyk⟩:=eD8 hix
 refine bB (cX bP5 U (fun _ hm=>hm.blkI 3 U) U U) U (bP U (bB (cX cH1 U (fun _ hm=>hm.blkI 2 U) U U) U ?_))
 refine fO (γ:=Nat×bA0×(ByteArray->Int->Int)×Nat) (val:=fun g=> .map (some g.1)) (φ:=fun g=>g.2.1 vk=some (some g.2.2.2)/\∀j,g.2.2.1 vk j=spT a b el vk j) (K':=fun _=>(fun _=>True)) (L':=fun g=>(g.2.2.2,59,six (g.2.2.1 vk)):: [(g4,48, [.int .i64 (dK (decide (mH (zY vk) vl 0 < 0)) 8),.int .i64 (qZ a b)]),(g3,59, [.int .i64 0,.int .i64 0,.int .i64 0,.int .i64 0,.int .i64 0,.int .i64 0]),(g2,55, [.int .i64 a,.int .i64 b]),(g1,31, [.slice sA sn sc,.slice cA cn cc,.slice vA vn vc,.slice pA pn pc])]) (O':=fun _=> []) (X':=fun g=>(kZ zR 0 g.1 g.2.1):: [bU stEnc 15 99 w.heap.size none sA sn sl,bU dV 2 84 w.heap.size none cA cn cl,bU fX 2 57 w.heap.size none vA vn vl,bU bH3 3 293 w.heap.size none pA pn pl,bU dP 5 74 w.heap.size none eA en el]) U fW3 U U (fun wx hm=>(dO6 vl sA cA vA pA sn sc cn cc vn vc pn pc el eA en ec a b wx (hm.fact 2 U).1 (hm.fact 4 U).1 vN (fun x hx=>(hfine x hx).veh) bE3 ha0 hab hb0 hen2 (by omega)).mono fun e w' ⟨m,p,H,he,hM,hF,hd,_,hs,hg⟩=>by
  obtain ⟨gv,hgv⟩:=hd iv yv hyv
  rw [hyk] at hgv
  have h1:=hF _ _ hgv
  exact ⟨(m,p,H,gv),he,⟨hgv,fun j=>by have h:=hs iv yv hyv j;rw [hyk] at h;exact h⟩,((hm.gain hg h1.1 h1.2).also kZ.lasts2 hM)⟩) ?_
 rintro ⟨m1,p,H,gv⟩ ⟨hgv,hHs⟩
 dsimp only at hgv hHs ⊢
 refine bP U (bB (bA1 (enc:=zR) (k:=9) (e:=126) none (by kernel_rfl) (by kernel_rfl) (by kernel_rfl) U U (fun _ hm=>(hm.fact 0 U))) U (bL 37 (v':= .pointer (some ⟨gv,0,none⟩)) U ((show zR ((p vk).getD none)= .pointer (some ⟨gv,0,none⟩) by rw [hgv];rfl)) (bB (bX U) U (bB (cX cS8 U (fun _ hm=>hm.blkI 0 U) U U) U (jX (cs':= [.int .i64 (H vk 0),.int .i64 (H vk 1),.int .i64 (H vk 2),.int .i64 (H vk 3),.int .i64 (H vk 4),.int .i64 (H vk 5)]) 2 cS8 U U U U (bZ U (bR (bM ?_))))))))
 refine eL 2 U cS8 U U U U fun wx hm=>?_
 exact ⟨fun _=>by rw [hHs 0,hHs 1,hHs 2,hHs 3,hHs 4,hHs 5],fun h=>absurd h4 h,hm.g⟩
theorem eJ0 {a b:Ny} (h:wD a b < 0):a.at_<=b.at_:=by
 unfold wD at h
 by_cases h0:pD a.at_ b.at_=0
 ·have:=rJ.1 h0;omega
 ·have e:dI [pD a.at_ b.at_,mX a.dk b.dk,pD a.no b.no]=pD a.at_ b.at_:=by
   simp only [dI,if_neg h0]
  rw [e] at h
  unfold pD at h
  split at h
  ·omega
  ·split at h <;> omega
theorem eK0 {el:List Ny} (h:nI el):(∀a∈el.map Ny.at_,0<=a/\a<=5761439)/\(el.map Ny.at_).Pairwise (·<=·):=by
 refine ⟨fun a ha=>?_,?_⟩
 ·obtain ⟨x,hx,rfl⟩:=List.mem_map.1 ha
  exact mG.1 (h.fine x hx).1
 ·rw [List.pairwise_map,List.pairwise_iff_getElem]
  intro i j hi hj hij
  have main:∀(d i:Nat) (hi:i+d < el.length),(el[i]'(by omega)).at_<=(el[i+d]'hi).at_:=by
   intro d
   induction d with
   |zero=>intro i hi;exact Int.le_refl _
   |succ d ih=>
    intro i hi
    have h1:=ih i (by omega)
    have h2:=eJ0 (h.rise (i+d) (el[i+d]'(by omega)) (el[i+d+1]'hi) (fJ5 _) (fJ5 _))
    exact Int.le_trans h1 h2
  have:=main (j - i) i (by omega)
  have e:i+(j - i)=j:=by omega
  simp only [e] at this
  exact this
theorem dY9 {φ:Int->Int->Int} {v:ByteArray} {l:List Lg} {i:Nat} {g:Lg} (h:l[i]?=some g):lgS φ v (l.take (i+1))=lgS φ v (l.take i)+(if (g.veh.toList==v.toList)=true then φ g.out.at_ g.inn.at_ else 0):=by
 rw [List.take_add_one,h,Option.toList_some,bG5]
 show _+(_+0)=_
 omega
theorem dQ9 {φ:Int->Int->Int} {v:ByteArray} {f:ByteArray->Option Hg}:∀{l m:List ByteArray},kS φ v f (l++m)=kS φ v f l+kS φ v f m
 | [],m=>by show _=0+_;rw [Int.zero_add];rfl
 |k::r,m=>by
  have ih:=dQ9 (φ:=φ) (v:=v) (f:=f) (l:=r) (m:=m)
  show _+kS φ v f (r++m)=_+kS φ v f r+_
  rw [ih];omega
theorem fD2 {φ:Int->Int->Int} {v:ByteArray} {f:ByteArray->Option Hg} {l:List ByteArray} {i:Nat} {k:ByteArray} (h:l[i]?=some k):kS φ v f (l.take (i+1))=kS φ v f (l.take i)+oS φ v (f k):=by
 rw [List.take_add_one,h,Option.toList_some,dQ9]
 show _+(_+0)=_
 omega
def cX7 (σ:Os) (ks:List ByteArray):List Hg:=(nQ ks).map fun k=>(σ.fh k).getD vV
theorem eB7 {σ:Os} {ks:List ByteArray} (hk:∀k,k∈ks↔(σ.fh k).isSome=true) {j:Nat} {y:Hg} (h:(cX7 σ ks)[j]?=some y):∃k,(nQ ks)[j]?=some k/\σ.fh k=some y:=by
 unfold cX7 at h
 rw [List.getElem?_map] at h
 cases e:(nQ ks)[j]? with
 |none=>rw [e] at h;cases h
 |some k=>
  rw [e] at h
  have hin:=(bC4 ks).mem_iff.1 (fK5 e)
  obtain ⟨z,hz⟩:=Option.isSome_iff_exists.1 ((hk k).1 hin)
  have h2:some ((σ.fh k).getD vV)=some y:=h
  rw [hz] at h2
  exact ⟨k,U,hz.trans h2⟩
def bE5 (i:Int):Int:=if i < 0 then 5761440 else i
def wnT (a b:Int):Int->Int->Int:=fun fr to_=>max 0 (min b (bE5 to_) - max a fr)
theorem eK8 {a b fr to_:Int} (h:a<=b):0<=wnT a b fr to_/\wnT a b fr to_<=b - a:=by unfold wnT;omega
structure vK (sl:List St) (cl:List Cs) (vl:List Vh) (l:List Int) (σ:Os):Prop where
 run:pR (pY vl) (qL sl) (fun b=>jR cl [b]=0) l σ
 tm:∀a∈l,0<=a/\a<=5761439
 up:l.Pairwise (·<=·)
 few:l.length<=20
 key:∀s∈sl,s.key≠⟨#[]⟩
section
variable {sl:List St} {cl:List Cs} {vl:List Vh} {l:List Int} {σ:Os}
theorem vK.li (h:vK sl cl vl l σ):LI (pY vl) (qL sl) l σ:=h.run.li (fun a ha=>(h.tm a ha).1) h.up
theorem vK.log (h:vK sl cl vl l σ):uC sl vl (dR dU σ.lg)=0:=eU3 h.run h.tm h.up (by have:=h.few;omega) h.key
theorem vK.len (h:vK sl cl vl l σ):(dR dU σ.lg).length<=40:=by
 have h1:=h.run.facts.2.2
 have h2:=h.few
 rw [qG];omega
theorem vK.ev (h:vK sl cl vl l σ):∀x∈dR dU σ.lg,zZ sl vl x:=(dZ9 h.log).2.1
theorem vK.bd (h:vK sl cl vl l σ) {k:ByteArray} {y:Hg} (hy:σ.fh k=some y):∀g∈y.legs,(0<=g.out.at_/\g.out.at_<=5761439)/\(g.inn.at_= -1∨(0<=g.inn.at_/\g.inn.at_<=5761439)):=by
 intro g hg
 obtain ⟨_,h1,h2⟩:=(h.li.hv k y hy).2.2 g hg
 refine ⟨h.tm _ (h.li.lf _ h1).2,?_⟩
 by_cases e:g.inn.at_= -1
 ·exact .inl e
 ·exact .inr (h.tm _ (h.li.lf _ (h2 e)).2)
theorem vK.hires (h:vK sl cl vl l σ) {ks:List ByteArray} (hn:ks.Nodup) (hk:∀k,k∈ks↔(σ.fh k).isSome=true):ks.length<=20:=by
 obtain ⟨KL,h1,h2⟩:=h.run.keysH
 have h3:=bX3 hn fun k hk2=>by
  obtain ⟨z,hz⟩:=Option.isSome_iff_exists.1 ((hk k).1 hk2)
  exact h1 k z hz
 have:=h.few
 omega
theorem vK.hired (h:vK sl cl vl l σ) (a b:Int) (v:ByteArray) {ks:List ByteArray} (hn:ks.Nodup) (hk:∀k,k∈ks↔(σ.fh k).isSome=true):spT a b (dR dU σ.lg) v 2=kS (wnT a b) v σ.fh (nQ ks):=by
 have h0:=fun x hx=>(h.tm x hx).1
 rw [<-dI9 (cN6 h.li.ps) h.ev,eJ1]
 exact dG6 h.run h0 h.up (wnT a b) v ((bC4 ks).nodup_iff.2 hn) fun k hk2=>(bC4 ks).mem_iff.2 ((hk k).2 hk2)
theorem vK.evs (h:vK sl cl vl l σ) (hf:mK sl cl vl []=0):cA5 sl cl vl [] (dR dU σ.lg)=0:=by
 unfold cA5
 rw [hf,h.log];rfl
theorem eE8 {vl:List Vh} {i:Nat} {x:Vh} (h:vl[i]?=some x):¬mH (zY x.key) vl 0 < 0:=by
 rcases qQ (p:=zY x.key) vl 0 with ⟨_,h2⟩|⟨j,y,h2,_⟩
 ·have:=h2 x (fK5 h)
  unfold zY at this
  simp at this
 ·omega
theorem vK.si (h:vK sl cl vl l σ) (hf:mK sl cl vl []=0) {i:Nat} {x:Vh} (hx:vl[i]?=some x) {a b:Int} (ha:0<=a) (hab:a<=b) (hb:b<=5761440):siE sl cl vl [] (dR dU σ.lg) x.key a b=0:=by
 unfold siE qZ
 rw [h.evs hf,decide_eq_false (eE8 hx),mG.2 ⟨ha,hab⟩,decide_eq_false (show ¬5761440 < b by omega)]
 rfl
theorem dC1 {a b:Int} {v:ByteArray} (hab:a<=b) (hw:b - a<=9000):∀{l:List Lg},0<=lgS (wnT a b) v l/\lgS (wnT a b) v l<=9000 *l.length
 | []=>⟨Int.le_refl _,by simp [lgS]⟩
 |g::r=>by
  have ih:=dC1 (v:=v) hab hw (l:=r)
  have h1:=eK8 (fr:=g.out.at_) (to_:=g.inn.at_) hab
  have e:lgS (wnT a b) v (g::r)=(if (g.veh.toList==v.toList)=true then wnT a b g.out.at_ g.inn.at_ else 0)+lgS (wnT a b) v r:=rfl
  rw [e,List.length_cons]
  split <;> omega
theorem vK.acc (h:vK sl cl vl l σ) {a b:Int} {v:ByteArray} (hab:a<=b) (hw:b - a<=9000):∀{ks:List ByteArray},0<=kS (wnT a b) v σ.fh ks/\kS (wnT a b) v σ.fh ks<=180000 *ks.length
 | []=>⟨Int.le_refl _,by simp [kS]⟩
 |k::r=>by
  have ih:=h.acc (v:=v) hab hw (ks:=r)
  have e:kS (wnT a b) v σ.fh (k::r)=oS (wnT a b) v (σ.fh k)+kS (wnT a b) v σ.fh r:=rfl
  have e3:0<=oS (wnT a b) v (σ.fh k)/\oS (wnT a b) v (σ.fh k)<=180000:=by
   cases hy:σ.fh k with
   |none=>exact ⟨Int.le_refl _,(by decide:(0:Int)<=180000)⟩
   |some y=>
    have h1:=dC1 (v:=v) hab hw (l:=y.legs)
    have h2:=(h.li.hv k y hy).2.1
    have h3:=h2.2.2.1
    have h4:=h2.2.2.2
    exact ⟨h1.1,Int.le_trans h1.2 (by omega)⟩
  rw [e,List.length_cons]
  omega
theorem vK.evOk (h:vK sl cl vl l σ) (hv:∀v∈vl,v.key.size<=1000000) (hs:∀s∈sl,s.key.size<=1000000):∀x∈dR dU σ.lg,cJ4 x:=by
 intro x hx
 obtain ⟨⟨h1,h2,h3,h4,h5⟩,h6⟩:=h.li.lf x (bG7.1 hx)
 have ht:=h.tm _ h6
 obtain ⟨u,hu,e1⟩:=cC4 h1
 obtain ⟨s,hs1,e2⟩:=bH2 h2
 refine ⟨by omega,by omega,e1 ▸ hv u hu,e2 ▸ hs s hs1,?_⟩
 by_cases e:x.kd=6
 ·obtain ⟨s2,hs2,e3⟩:=bH2 (h4 e).1
  exact e3 ▸ hs s2 hs2
 ·rw [h5 e];decide
end
def nU (x:Cd):List Value:= [.string x.key,.string x.cls,.int .i64 x.fr,.int .i64 x.to_,.int .i64 x.days,.int .i64 x.mille]
theorem bP3 (x:Cd):(nU x).length=6:=rfl
theorem cS3 {l:List Cd} {k:Nat} {b:Cd} (h:keyB b.key=true):leB b.key (yR l k)=cE8 (prevOf l k) b:=by
 unfold yR cE8
 cases prevOf l k with
 |none=>exact dJ3 h
 |some q=>rfl
theorem bS9 (l:List Cd) (A:Option Addr) (n c:Nat) (w:World) (hl:SlT nU 6 260 w A n l) (hok:∀b∈l,zQ b) (hn:n<=1000000):
 Calls prog 166 #[.slice A n c] w (nC w (uI l)):=by
 refine cV ⟨68,w,none, []⟩ func166 U ntmps166 U (gR (X:= [bU nU 6 260 w.heap.size none A n l]) (cG hl.old cY) (cH bU.lasts cZ)) (bS ?_)
 have hlen:=hl.len
 refine bZ U (bR (bH (bS (bP U (bB (dT cJ2 U) U (bB (eJ U U) U (bR ?_)))))))
 refine cE U (fun h1=>?_) (fun h1=>?_)
 ·refine bS (bZ U (bR ?_))
  refine bM (bA ?_)
  exact bK U U fun wx hm=>⟨bW (by unfold uI;rw [if_pos (by omega)]),hm.g⟩
 refine bN (bD (bH (bS (bP U (bB (dT cJ2 U) U (bP U (bR (bO ?_))))))))
 refine dX (γ:=Nat) (fun (k:Nat)=>k<=n/\uI l=scanE eY (prevOf l k) (l.drop k)) (fun (k:Nat)=> [(0,.slice A n c),(8,.slice A n c),(9,.int .i64 ((n:Nat):Int)),(10,.int .i64 ((k:Nat):Int))]) (fun (k:Nat)=>fun _=>True) (fun (k:Nat)=> []) (fun (k:Nat)=> []) (fun (k:Nat)=> [bU nU 6 260 w.heap.size none A n l]) (fun (k:Nat)=>n - k) 0 ⟨Nat.zero_le _,by unfold uI;rw [if_neg (by omega)];rfl⟩ ⟨U,U,U,U,trivial⟩ (fun _ hm=>hm.pick [] [] [0] U U) ?_
 intro k cC
 replace cC:k<=n/\uI l=scanE eY (prevOf l k) (l.drop k):=cC
 refine bS (bB (dD U U) U (bR (bH ?_)))
 refine cE U (fun hk=>?_) (fun hk=>?_)
 ·refine bN (bD (bH (bO (bS ?_))))
  obtain ⟨b,off,hA,_,_⟩:=hl.get (by omega)
  subst hA
  obtain ⟨x,hx⟩:∃x,l[k]?=some x:=⟨_,fJ5 (by omega)⟩
  obtain ⟨ke,cl,fr,tt,dy,mi⟩:=x
  have hat:=scanE_at eY l k _ hx
  have hk1:ke.size<=1000000:=(hok _ (fK5 hx)).1
  have hk2:cl.size<=1000000:=(hok _ (fK5 hx)).2
  refine bP U (bB (bT (j:=k) cJ2 U U (by omega)) U (bB (dO (vs:= [.string ke,.string cl,.int .i64 fr,.int .i64 tt,.int .i64 dy,.int .i64 mi]) dY3 U (fun _ hm=>(hm.fact 0 U).1) hx U U) U (dH eB6 U fun g1=>bZ U (jX (cs':= [.string ke,.string cl,.int .i64 fr,.int .i64 tt,.int .i64 dy,.int .i64 mi]) 0 dY3 U U U U (bR (bO (bS (dW vL U U (eI fE 0 U U U (dA U bP2 U U (fun wx hm=>(isKey_any _ wx (by omega))) (bB (cF U) U (bZ U (bR ?_)))))))))))))
  refine dC U (fun hh=>?_) (fun hh=>?_)
  ·have h2:(keyB ke)=false:=by simpa using hh
   refine bS (bZ U (bR (bM (bC (bC (bA (bA (bC (bA ?_)))))))))
   have hE:eY (prevOf l k) ⟨ke,cl,fr,tt,dy,mi⟩=5:=by unfold eY;simp [h2]
   exact bK U U fun wx hm=>⟨bW (by rw [cC.2,hat,if_neg (by rw [hE];decide),hE]),hm.g⟩
  have h2:(keyB ke)=true:=by simpa using hh
  refine bH ?_
  by_cases hk0:k=0
  ·have hO:cE8 (prevOf l k) ⟨ke,cl,fr,tt,dy,mi⟩=false:=by rw [mJ hk0];rfl
   refine gd (fun wz=>True) mixed (fun _ _=>trivial) fun z=>wq 0 U (bJ U) (wq 1 U (eJ U U) (dG 22 (v':= .bool false) U (fH5 (decide_eq_false (by omega))) (wq 2 U (bJ U) (fC 3 U (fC 4 U (fC 5 U (fC 6 U (fC 7 U (fC 8 U (fC 9 U (fC 10 U (fC 11 U (wq 12 U (fN U U) (wq 13 U (cU U) (jH (bD (jU U (bS (dW bP1 U U (eI fE 0 U U U (bB (vT U U) U (bP U ?_))))))))))))))))))))))
   rcases Bool.eq_false_or_eq_true (!(cl.toList==(⟨#[]⟩:ByteArray).toList)) with mY|mY
   ·refine bL 38 U (fH5 mY) ?_
    have mY:jI cl=false:=by unfold jI;simpa only [Bool.not_eq_true'] using mY
    refine eG U (dW bP1 U U (eG U (eI fE 0 U U U (eG U (dA U bP2 U U (fun wx hm=>(isKey_any _ wx (by omega))) (eG U (bB (cF U) U (mQ U U (bZ U (bR ?_))))))))))
    refine dC U (fun hh=>?_) (fun hh=>?_)
    ·have zW:(keyB cl)=false:=by simpa using hh
     refine bS (bZ U (bR (bM (bC (bC (bA (bA (bC (bA ?_)))))))))
     have hE:eY (prevOf l k) ⟨ke,cl,fr,tt,dy,mi⟩=5:=by unfold eY;simp [h2,hO,mY,zW]
     exact bK U U fun wx hm=>⟨bW (by rw [cC.2,hat,if_neg (by rw [hE];decide),hE]),hm.g⟩
    have zW:(keyB cl)=true:=by simpa using hh
    refine bS (dW bQ1 U U (eI fF 0 U U U (dW qY U U (eI fF 0 U U U (dA U qB U U (fun wx hm=>(in_any _ _ _ wx)) (bB (cF U) U (bP U ?_)))))))
    rcases Bool.eq_false_or_eq_true (!(inB fr 0 tt)) with h4|h4
    ·refine bL 51 U (fH5 h4) ?_
     refine dY U (dY U (dY U (mQ U U (bZ U (bR (kQ U (bS (bZ U (bR (bM (bC (bC (bA (bA (bC (bA ?_))))))))))))))))
     have hE:eY (prevOf l k) ⟨ke,cl,fr,tt,dy,mi⟩=1:=by unfold eY;simp [h2,hO,mY,zW,h4]
     exact bK U U fun wx hm=>⟨bW (by rw [cC.2,hat,if_neg (by rw [hE];decide),hE]),hm.g⟩
    refine bL 51 U (fH5 h4) (eG U (dW qY U U (eG U (eI fF 0 U U U (eG U (bB (eJ U U) U (nS U U (bZ U (bR ?_)))))))))
    refine cE U (fun h5=>?_) (fun h5=>?_)
    ·refine bS (bZ U (bR ?_))
     refine bM (bC (bC (bA (bA (bC (bA ?_))))))
     have hE:eY (prevOf l k) ⟨ke,cl,fr,tt,dy,mi⟩=1:=by unfold eY;simp [h2,hO,mY,zW,h4,h5]
     exact bK U U fun wx hm=>⟨bW (by rw [cC.2,hat,if_neg (by rw [hE];decide),hE]),hm.g⟩
    refine bS (dW yC U U (eI fF 0 U U U (dA U qB U U (fun wx hm=>(in_any _ _ _ wx)) (bB (cF U) U (bP U ?_)))))
    rcases Bool.eq_false_or_eq_true (!(inB dy 1 120)) with h6|h6
    ·refine bL 61 U (fH5 h6) ?_
     refine dY U (dY U (dY U (dY U (mQ U U (bZ U (bR (kQ U (bS (bZ U (bR (bM (bC (bC (bA (bA (bC (bA ?_)))))))))))))))))
     have hE:eY (prevOf l k) ⟨ke,cl,fr,tt,dy,mi⟩=1:=by unfold eY;simp [h2,hO,mY,zW,h4,h5,h6]
     exact bK U U fun wx hm=>⟨bW (by rw [cC.2,hat,if_neg (by rw [hE];decide),hE]),hm.g⟩
    refine bL 61 U (fH5 h6) (eG U (dW yD U U (eG U (eI fF 0 U U U (eG U (dA U qB U U (fun wx hm=>(in_any _ _ _ wx)) (eG U (bB (cF U) U (nS U U (bZ U (bR ?_)))))))))))
    refine dC U (fun hh=>?_) (fun hh=>?_)
    ·have h7:(inB mi 1 1000)=false:=by simpa using hh
     refine bS (bZ U (bR (bM (bC (bC (bA (bA (bC (bA ?_)))))))))
     have hE:eY (prevOf l k) ⟨ke,cl,fr,tt,dy,mi⟩=1:=by unfold eY;simp [h2,hO,mY,zW,h4,h5,h6,h7]
     exact bK U U fun wx hm=>⟨bW (by rw [cC.2,hat,if_neg (by rw [hE];decide),hE]),hm.g⟩
    have h7:(inB mi 1 1000)=true:=by simpa using hh
    refine bN (bG (bG (bD (bI ?_))))
    have hE:eY (prevOf l k) ⟨ke,cl,fr,tt,dy,mi⟩=0:=by unfold eY;simp [h2,hO,mY,zW,h4,h5,h6,h7]
    refine gN U U (bP U (bE ?_))
    exact cQ (k+1) ⟨by omega,by rw [cC.2,hat,if_pos hE]⟩ (by omega) ⟨U,U,U,(cS (by omega)),trivial⟩ (fun _ hm=>hm.pick [] [] [0] U U)
   refine bL 38 U (fH5 mY) ?_
   have mY:jI cl=true:=by unfold jI;simpa only [Bool.not_eq_false'] using mY
   refine dY U (dY U (dY U (dY U (nS U U (bZ U (bR (jU U (bS (dW bQ1 U U (eI fF 0 U U U (dW qY U U (eI fF 0 U U U (dA U qB U U (fun wx hm=>(in_any _ _ _ wx)) (bB (cF U) U (bP U ?_)))))))))))))))
   rcases Bool.eq_false_or_eq_true (!(inB fr 0 tt)) with h4|h4
   ·refine bL 51 U (fH5 h4) ?_
    refine dY U (dY U (dY U (mQ U U (bZ U (bR (kQ U (bS (bZ U (bR (bM (bC (bC (bA (bA (bC (bA ?_))))))))))))))))
    have hE:eY (prevOf l k) ⟨ke,cl,fr,tt,dy,mi⟩=1:=by unfold eY;simp [h2,hO,mY,h4]
    exact bK U U fun wx hm=>⟨bW (by rw [cC.2,hat,if_neg (by rw [hE];decide),hE]),hm.g⟩
   refine bL 51 U (fH5 h4) (eG U (dW qY U U (eG U (eI fF 0 U U U (eG U (bB (eJ U U) U (nS U U (bZ U (bR ?_)))))))))
   refine cE U (fun h5=>?_) (fun h5=>?_)
   ·refine bS (bZ U (bR ?_))
    refine bM (bC (bC (bA (bA (bC (bA ?_))))))
    have hE:eY (prevOf l k) ⟨ke,cl,fr,tt,dy,mi⟩=1:=by unfold eY;simp [h2,hO,mY,h4,h5]
    exact bK U U fun wx hm=>⟨bW (by rw [cC.2,hat,if_neg (by rw [hE];decide),hE]),hm.g⟩
   refine bS (dW yC U U (eI fF 0 U U U (dA U qB U U (fun wx hm=>(in_any _ _ _ wx)) (bB (cF U) U (bP U ?_)))))
   rcases Bool.eq_false_or_eq_true (!(inB dy 1 120)) with h6|h6
   ·refine bL 61 U (fH5 h6) ?_
    refine dY U (dY U (dY U (dY U (mQ U U (bZ U (bR (kQ U (bS (bZ U (bR (bM (bC (bC (bA (bA (bC (bA ?_)))))))))))))))))
    have hE:eY (prevOf l k) ⟨ke,cl,fr,tt,dy,mi⟩=1:=by unfold eY;simp [h2,hO,mY,h4,h5,h6]
    exact bK U U fun wx hm=>⟨bW (by rw [cC.2,hat,if_neg (by rw [hE];decide),hE]),hm.g⟩
   refine bL 61 U (fH5 h6) (eG U (dW yD U U (eG U (eI fF 0 U U U (eG U (dA U qB U U (fun wx hm=>(in_any _ _ _ wx)) (eG U (bB (cF U) U (nS U U (bZ U (bR ?_)))))))))))
   refine dC U (fun hh=>?_) (fun hh=>?_)
   ·have h7:(inB mi 1 1000)=false:=by simpa using hh
    refine bS (bZ U (bR (bM (bC (bC (bA (bA (bC (bA ?_)))))))))
    have hE:eY (prevOf l k) ⟨ke,cl,fr,tt,dy,mi⟩=1:=by unfold eY;simp [h2,hO,mY,h4,h5,h6,h7]
    exact bK U U fun wx hm=>⟨bW (by rw [cC.2,hat,if_neg (by rw [hE];decide),hE]),hm.g⟩
   have h7:(inB mi 1 1000)=true:=by simpa using hh
   refine bN (bG (bG (bD (bI ?_))))
   have hE:eY (prevOf l k) ⟨ke,cl,fr,tt,dy,mi⟩=0:=by unfold eY;simp [h2,hO,mY,h4,h5,h6,h7]
   refine gN U U (bP U (bE ?_))
   exact cQ (k+1) ⟨by omega,by rw [cC.2,hat,if_pos hE]⟩ (by omega) ⟨U,U,U,(cS (by omega)),trivial⟩ (fun _ hm=>hm.pick [] [] [0] U U)
  obtain ⟨y,hy⟩:∃x,l[k - 1]?=some x:=⟨_,fJ5 (by omega)⟩
  obtain ⟨p0,p1,p2,p3,p4,p5⟩:=y
  refine gd (fun wz=>Blk wz g1 260 [.string ke,.string cl,.int .i64 fr,.int .i64 tt,.int .i64 dy,.int .i64 mi]/\(bU nU 6 260 w.heap.size none (some ⟨b,off,none⟩) n l) wz/\True) mixed (fun _ hm=>⟨hm.bl 0,hm.fa 0,trivial⟩) fun z=>wq 0 U (bJ U) (wq 1 U (eJ U U) (dG 22 (v':= .bool true) U (fH5 (decide_eq_true (by omega))) (wq 2 U (bJ U) (fI 3 U (bQ vL U U) (fI 4 U (cN fE U (fun _ hm=>hm.1) U) (fI 5 U (bJ U) (fI 6 U (bJ U) (fI 7 U (ov_sub U U (by omega) (by omega)) (dG 28 (v':= .int .i64 ((k - 1:Nat):Int)) U (fI5 (by omega)) (fI 8 U (bT (j:=k - 1) cJ2 U U (by omega)) (fI 9 U (bQ vL U U) (fI 10 U (dL (k:=0) (v:= .string p0) fE U (fun _ hm=>(hm.2.1).1) hy U U) (fI 11 U (wS U U) (wq 12 U (fD U U) (wq 13 U (cU U) (jH (bD ?_)))))))))))))))))
  refine dC U (fun hh=>?_) (fun hh=>?_)
  ·have h9:(Op.bytesLess ke.toList p0.toList||ke.toList==p0.toList)=true:=by simpa using hh
   refine bS ?_
   have hO:cE8 (prevOf l k) ⟨ke,cl,fr,tt,dy,mi⟩=true:=by rw [jS hk0 hy];exact h9
   refine bZ U (bR (bM (bC (bC (bA (bA (bC (bA ?_))))))))
   have hE:eY (prevOf l k) ⟨ke,cl,fr,tt,dy,mi⟩=7:=by unfold eY;simp [h2,hO]
   exact bK U U fun wx hm=>⟨bW (by rw [cC.2,hat,if_neg (by rw [hE];decide),hE]),hm.g⟩
  have h9:(Op.bytesLess ke.toList p0.toList||ke.toList==p0.toList)=false:=by simpa using hh
  refine bS ?_
  have hO:cE8 (prevOf l k) ⟨ke,cl,fr,tt,dy,mi⟩=false:=by rw [jS hk0 hy];exact h9
  refine dW bP1 U U (eI fE 0 U U U (bB (vT U U) U (bP U ?_)))
  rcases Bool.eq_false_or_eq_true (!(cl.toList==(⟨#[]⟩:ByteArray).toList)) with mY|mY
  ·refine bL 38 U (fH5 mY) ?_
   have mY:jI cl=false:=by unfold jI;simpa only [Bool.not_eq_true'] using mY
   refine eG U (dW bP1 U U (eG U (eI fE 0 U U U (eG U (dA U bP2 U U (fun wx hm=>(isKey_any _ wx (by omega))) (eG U (bB (cF U) U (mQ U U (bZ U (bR ?_))))))))))
   refine dC U (fun hh=>?_) (fun hh=>?_)
   ·have zW:(keyB cl)=false:=by simpa using hh
    refine bS (bZ U (bR (bM (bC (bC (bA (bA (bC (bA ?_)))))))))
    have hE:eY (prevOf l k) ⟨ke,cl,fr,tt,dy,mi⟩=5:=by unfold eY;simp [h2,hO,mY,zW]
    exact bK U U fun wx hm=>⟨bW (by rw [cC.2,hat,if_neg (by rw [hE];decide),hE]),hm.g⟩
   have zW:(keyB cl)=true:=by simpa using hh
   refine bS (dW bQ1 U U (eI fF 0 U U U (dW qY U U (eI fF 0 U U U (dA U qB U U (fun wx hm=>(in_any _ _ _ wx)) (bB (cF U) U (bP U ?_)))))))
   rcases Bool.eq_false_or_eq_true (!(inB fr 0 tt)) with h4|h4
   ·refine bL 51 U (fH5 h4) ?_
    refine dY U (dY U (dY U (mQ U U (bZ U (bR (kQ U (bS (bZ U (bR (bM (bC (bC (bA (bA (bC (bA ?_))))))))))))))))
    have hE:eY (prevOf l k) ⟨ke,cl,fr,tt,dy,mi⟩=1:=by unfold eY;simp [h2,hO,mY,zW,h4]
    exact bK U U fun wx hm=>⟨bW (by rw [cC.2,hat,if_neg (by rw [hE];decide),hE]),hm.g⟩
   refine bL 51 U (fH5 h4) (eG U (dW qY U U (eG U (eI fF 0 U U U (eG U (bB (eJ U U) U (nS U U (bZ U (bR ?_)))))))))
   refine cE U (fun h5=>?_) (fun h5=>?_)
   ·refine bS (bZ U (bR ?_))
    refine bM (bC (bC (bA (bA (bC (bA ?_))))))
    have hE:eY (prevOf l k) ⟨ke,cl,fr,tt,dy,mi⟩=1:=by unfold eY;simp [h2,hO,mY,zW,h4,h5]
    exact bK U U fun wx hm=>⟨bW (by rw [cC.2,hat,if_neg (by rw [hE];decide),hE]),hm.g⟩
   refine bS (dW yC U U (eI fF 0 U U U (dA U qB U U (fun wx hm=>(in_any _ _ _ wx)) (bB (cF U) U (bP U ?_)))))
   rcases Bool.eq_false_or_eq_true (!(inB dy 1 120)) with h6|h6
   ·refine bL 61 U (fH5 h6) ?_
    refine dY U (dY U (dY U (dY U (mQ U U (bZ U (bR (kQ U (bS (bZ U (bR (bM (bC (bC (bA (bA (bC (bA ?_)))))))))))))))))
    have hE:eY (prevOf l k) ⟨ke,cl,fr,tt,dy,mi⟩=1:=by unfold eY;simp [h2,hO,mY,zW,h4,h5,h6]
    exact bK U U fun wx hm=>⟨bW (by rw [cC.2,hat,if_neg (by rw [hE];decide),hE]),hm.g⟩
   refine bL 61 U (fH5 h6) (eG U (dW yD U U (eG U (eI fF 0 U U U (eG U (dA U qB U U (fun wx hm=>(in_any _ _ _ wx)) (eG U (bB (cF U) U (nS U U (bZ U (bR ?_)))))))))))
   refine dC U (fun hh=>?_) (fun hh=>?_)
   ·have h7:(inB mi 1 1000)=false:=by simpa using hh
    refine bS (bZ U (bR (bM (bC (bC (bA (bA (bC (bA ?_)))))))))
    have hE:eY (prevOf l k) ⟨ke,cl,fr,tt,dy,mi⟩=1:=by unfold eY;simp [h2,hO,mY,zW,h4,h5,h6,h7]
    exact bK U U fun wx hm=>⟨bW (by rw [cC.2,hat,if_neg (by rw [hE];decide),hE]),hm.g⟩
   have h7:(inB mi 1 1000)=true:=by simpa using hh
   refine bN (bG (bG (bD (bI ?_))))
   have hE:eY (prevOf l k) ⟨ke,cl,fr,tt,dy,mi⟩=0:=by unfold eY;simp [h2,hO,mY,zW,h4,h5,h6,h7]
   refine gN U U (bP U (bE ?_))
   exact cQ (k+1) ⟨by omega,by rw [cC.2,hat,if_pos hE]⟩ (by omega) ⟨U,U,U,(cS (by omega)),trivial⟩ (fun _ hm=>hm.pick [] [] [0] U U)
  refine bL 38 U (fH5 mY) ?_
  have mY:jI cl=true:=by unfold jI;simpa only [Bool.not_eq_false'] using mY
  refine dY U (dY U (dY U (dY U (nS U U (bZ U (bR (jU U (bS (dW bQ1 U U (eI fF 0 U U U (dW qY U U (eI fF 0 U U U (dA U qB U U (fun wx hm=>(in_any _ _ _ wx)) (bB (cF U) U (bP U ?_)))))))))))))))
  rcases Bool.eq_false_or_eq_true (!(inB fr 0 tt)) with h4|h4
  ·refine bL 51 U (fH5 h4) ?_
   refine dY U (dY U (dY U (mQ U U (bZ U (bR (kQ U (bS (bZ U (bR (bM (bC (bC (bA (bA (bC (bA ?_))))))))))))))))
   have hE:eY (prevOf l k) ⟨ke,cl,fr,tt,dy,mi⟩=1:=by unfold eY;simp [h2,hO,mY,h4]
   exact bK U U fun wx hm=>⟨bW (by rw [cC.2,hat,if_neg (by rw [hE];decide),hE]),hm.g⟩
  refine bL 51 U (fH5 h4) (eG U (dW qY U U (eG U (eI fF 0 U U U (eG U (bB (eJ U U) U (nS U U (bZ U (bR ?_)))))))))
  refine cE U (fun h5=>?_) (fun h5=>?_)
  ·refine bS (bZ U (bR ?_))
   refine bM (bC (bC (bA (bA (bC (bA ?_))))))
   have hE:eY (prevOf l k) ⟨ke,cl,fr,tt,dy,mi⟩=1:=by unfold eY;simp [h2,hO,mY,h4,h5]
   exact bK U U fun wx hm=>⟨bW (by rw [cC.2,hat,if_neg (by rw [hE];decide),hE]),hm.g⟩
  refine bS (dW yC U U (eI fF 0 U U U (dA U qB U U (fun wx hm=>(in_any _ _ _ wx)) (bB (cF U) U (bP U ?_)))))
  rcases Bool.eq_false_or_eq_true (!(inB dy 1 120)) with h6|h6
  ·refine bL 61 U (fH5 h6) ?_
   refine dY U (dY U (dY U (dY U (mQ U U (bZ U (bR (kQ U (bS (bZ U (bR (bM (bC (bC (bA (bA (bC (bA ?_)))))))))))))))))
   have hE:eY (prevOf l k) ⟨ke,cl,fr,tt,dy,mi⟩=1:=by unfold eY;simp [h2,hO,mY,h4,h5,h6]
   exact bK U U fun wx hm=>⟨bW (by rw [cC.2,hat,if_neg (by rw [hE];decide),hE]),hm.g⟩
  refine bL 61 U (fH5 h6) (eG U (dW yD U U (eG U (eI fF 0 U U U (eG U (dA U qB U U (fun wx hm=>(in_any _ _ _ wx)) (eG U (bB (cF U) U (nS U U (bZ U (bR ?_)))))))))))
  refine dC U (fun hh=>?_) (fun hh=>?_)
  ·have h7:(inB mi 1 1000)=false:=by simpa using hh
   refine bS (bZ U (bR (bM (bC (bC (bA (bA (bC (bA ?_)))))))))
   have hE:eY (prevOf l k) ⟨ke,cl,fr,tt,dy,mi⟩=1:=by unfold eY;simp [h2,hO,mY,h4,h5,h6,h7]
   exact bK U U fun wx hm=>⟨bW (by rw [cC.2,hat,if_neg (by rw [hE];decide),hE]),hm.g⟩
  have h7:(inB mi 1 1000)=true:=by simpa using hh
  refine bN (bG (bG (bD (bI ?_))))
  have hE:eY (prevOf l k) ⟨ke,cl,fr,tt,dy,mi⟩=0:=by unfold eY;simp [h2,hO,mY,h4,h5,h6,h7]
  refine gN U U (bP U (bE ?_))
  exact cQ (k+1) ⟨by omega,by rw [cC.2,hat,if_pos hE]⟩ (by omega) ⟨U,U,U,(cS (by omega)),trivial⟩ (fun _ hm=>hm.pick [] [] [0] U U)
 refine dE (bF (bF (bY (bD (bS (bZ U (bR (bM ?_))))))))
 exact bK U U fun wx hm=>⟨bW (by rw [cC.2,scanE_end _ _ _ _ (by omega)]),hm.g⟩
theorem bX9 (l:List Cd) (A:Option Addr) (n c:Nat) (w:World) (hl:SlT nU 6 260 w A n l) (hok:∀b∈l,zQ b) (hn:n<=1000000):
 Calls prog 114 #[.slice A n c] w (nC w (uI l)):=by
 refine cV ⟨62,w,none, []⟩ func114 U ntmps114 U (gR (X:= [bU nU 6 260 w.heap.size none A n l]) (cG hl.old cY) (cH bU.lasts cZ)) (bS ?_)
 have hlen:=hl.len
 refine bZ U (bR (bH (bS (bP U (bB (dT cJ2 U) U (bB (eJ U U) U (bR ?_)))))))
 refine cE U (fun h1=>?_) (fun h1=>?_)
 ·refine bS (bZ U (bR ?_))
  refine bM (bA ?_)
  exact bK U U fun wx hm=>⟨bW (by unfold uI;rw [if_pos (by omega)]),hm.g⟩
 refine bN (bD (bS (bZ U (bR (bH (bS (bP U (bB (dT cJ2 U) U (bP U (bE (bD (bO ?_))))))))))))
 refine dX (γ:=Nat) (fun (k:Nat)=>k<=n/\uI l=scanE eY (prevOf l k) (l.drop k)) (fun (k:Nat)=> [(3,.string (yR l k)),(9,.slice A n c),(10,.int .i64 ((n:Nat):Int)),(11,.int .i64 ((k:Nat):Int))]) (fun (k:Nat)=>fun _=>True) (fun (k:Nat)=> []) (fun (k:Nat)=> []) (fun (k:Nat)=> [bU nU 6 260 w.heap.size none A n l]) (fun (k:Nat)=>n - k) 0 ⟨Nat.zero_le _,by unfold uI;rw [if_neg (by omega)];rfl⟩ ⟨U,U,U,U,trivial⟩ (fun _ hm=>hm.pick [] [] [0] U U) ?_
 intro k cC
 replace cC:k<=n/\uI l=scanE eY (prevOf l k) (l.drop k):=cC
 refine bS (bB (dD U U) U (bR (bH ?_)))
 refine cE U (fun hk=>?_) (fun hk=>?_)
 ·refine bN (bD (bH (bO (bS ?_))))
  obtain ⟨b,off,hA,_,_⟩:=hl.get (by omega)
  subst hA
  obtain ⟨x,hx⟩:∃x,l[k]?=some x:=⟨_,fJ5 (by omega)⟩
  obtain ⟨ke,cl,fr,tt,dy,mi⟩:=x
  have hat:=scanE_at eY l k _ hx
  have hk1:ke.size<=1000000:=(hok _ (fK5 hx)).1
  have hk2:cl.size<=1000000:=(hok _ (fK5 hx)).2
  refine bB (bT (j:=k) cJ2 U U (by omega)) U (bB (dO (vs:= [.string ke,.string cl,.int .i64 fr,.int .i64 tt,.int .i64 dy,.int .i64 mi]) dY3 U (fun _ hm=>(hm.fact 0 U).1) hx U U) U (dH eB6 U fun g1=>jX (cs':= [.string ke,.string cl,.int .i64 fr,.int .i64 tt,.int .i64 dy,.int .i64 mi]) 0 dY3 U U U U (bR (bH (bO (bS (dW vL U U (eI fE 0 U U U (cL U bW7 U U (fun wx hm=>(wQ _ wx (by omega))) (bB (cF U) U (bZ U (bR ?_))))))))))))
  refine dC U (fun hh=>?_) (fun hh=>?_)
  ·have h2:(keyB ke)=false:=by simpa using hh
   refine bS (bZ U (bR (bM (bC (bA (bC (bA (bA (bC (bA ?_))))))))))
   have hE:eY (prevOf l k) ⟨ke,cl,fr,tt,dy,mi⟩=5:=by unfold eY;simp [h2]
   exact bK U U fun wx hm=>⟨bW (by rw [cC.2,hat,if_neg (by rw [hE];decide),hE]),hm.g⟩
  have h2:(keyB ke)=true:=by simpa using hh
  refine bS (dW vL U U (eI fE 0 U U U (bP U (bB (wS U U) U (bZ U (bR ?_))))))
  refine dC U (fun hh=>?_) (fun hh=>?_)
  ·have h9:(Op.bytesLess ke.toList (yR l k).toList||ke.toList==(yR l k).toList)=true:=by simpa using hh
   refine bS ?_
   have hO:cE8 (prevOf l k) ⟨ke,cl,fr,tt,dy,mi⟩=true:=(cS3 (b:=⟨ke,cl,fr,tt,dy,mi⟩) (by simpa using h2)).symm.trans h9
   refine bZ U (bR (bM (bC (bA (bC (bA (bA (bC (bA ?_)))))))))
   have hE:eY (prevOf l k) ⟨ke,cl,fr,tt,dy,mi⟩=7:=by unfold eY;simp [h2,hO]
   exact bK U U fun wx hm=>⟨bW (by rw [cC.2,hat,if_neg (by rw [hE];decide),hE]),hm.g⟩
  have h9:(Op.bytesLess ke.toList (yR l k).toList||ke.toList==(yR l k).toList)=false:=by simpa using hh
  refine bS ?_
  have hO:cE8 (prevOf l k) ⟨ke,cl,fr,tt,dy,mi⟩=false:=(cS3 (b:=⟨ke,cl,fr,tt,dy,mi⟩) (by simpa using h2)).symm.trans h9
  refine dW bP1 U U (eI fE 0 U U U (bB (vT U U) U (bP U ?_)))
  rcases Bool.eq_false_or_eq_true (!(cl.toList==(⟨#[]⟩:ByteArray).toList)) with mY|mY
  ·refine bL 29 U (fH5 mY) ?_
   have mY:jI cl=false:=by unfold jI;simpa only [Bool.not_eq_true'] using mY
   refine eG U (dW bP1 U U (eG U (eI fE 0 U U U (eG U (cL U bW7 U U (fun wx hm=>(wQ _ wx (by omega))) (eG U (bB (cF U) U (mQ U U (bZ U (bR ?_))))))))))
   refine dC U (fun hh=>?_) (fun hh=>?_)
   ·have zW:(keyB cl)=false:=by simpa using hh
    refine bS (bZ U (bR (bM (bC (bA (bC (bA (bA (bC (bA ?_))))))))))
    have hE:eY (prevOf l k) ⟨ke,cl,fr,tt,dy,mi⟩=5:=by unfold eY;simp [h2,hO,mY,zW]
    exact bK U U fun wx hm=>⟨bW (by rw [cC.2,hat,if_neg (by rw [hE];decide),hE]),hm.g⟩
   have zW:(keyB cl)=true:=by simpa using hh
   refine bS (dW bQ1 U U (eI fF 0 U U U (dW qY U U (eI fF 0 U U U (dA U wL U U (fun wx hm=>(kH _ _ _ wx)) (bB (cF U) U (bP U ?_)))))))
   rcases Bool.eq_false_or_eq_true (!(inB fr 0 tt)) with h4|h4
   ·refine bL 42 U (fH5 h4) ?_
    refine dY U (dY U (dY U (mQ U U (bP U (dY U (dY U (dY U (dY U (mQ U U (bP U (dY U (dY U (dY U (dY U (mQ U U (bZ U (bR (kQ U (bS (bZ U (bR (bM (bC (bA (bC (bA (bA (bC (bA ?_)))))))))))))))))))))))))))))
    have hE:eY (prevOf l k) ⟨ke,cl,fr,tt,dy,mi⟩=1:=by unfold eY;simp [h2,hO,mY,zW,h4]
    exact bK U U fun wx hm=>⟨bW (by rw [cC.2,hat,if_neg (by rw [hE];decide),hE]),hm.g⟩
   refine bL 42 U (fH5 h4) (eG U (dW qY U U (eG U (eI fF 0 U U U (eG U (bB (eJ U U) U (nS U U (bP U ?_))))))))
   rcases Bool.eq_false_or_eq_true (decide (4001 < tt)) with h5|h5
   ·refine bL 47 U (fH5 h5) ?_
    replace h5:=of_decide_eq_true h5
    refine dY U (dY U (dY U (dY U (mQ U U (bP U (dY U (dY U (dY U (dY U (mQ U U (bZ U (bR (kQ U (bS (bZ U (bR (bM (bC (bA (bC (bA (bA (bC (bA ?_))))))))))))))))))))))))
    have hE:eY (prevOf l k) ⟨ke,cl,fr,tt,dy,mi⟩=1:=by unfold eY;simp [h2,hO,mY,zW,h4,h5]
    exact bK U U fun wx hm=>⟨bW (by rw [cC.2,hat,if_neg (by rw [hE];decide),hE]),hm.g⟩
   refine bL 47 U (fH5 h5) ?_
   replace h5:=of_decide_eq_false h5
   refine eG U (dW yC U U (eG U (eI fF 0 U U U (eG U (dA U wL U U (fun wx hm=>(kH _ _ _ wx)) (eG U (bB (cF U) U (nS U U (bP U ?_)))))))))
   rcases Bool.eq_false_or_eq_true (!(inB dy 1 120)) with h6|h6
   ·refine bL 53 U (fH5 h6) ?_
    refine dY U (dY U (dY U (dY U (mQ U U (bZ U (bR (kQ U (bS (bZ U (bR (bM (bC (bA (bC (bA (bA (bC (bA ?_))))))))))))))))))
    have hE:eY (prevOf l k) ⟨ke,cl,fr,tt,dy,mi⟩=1:=by unfold eY;simp [h2,hO,mY,zW,h4,h5,h6]
    exact bK U U fun wx hm=>⟨bW (by rw [cC.2,hat,if_neg (by rw [hE];decide),hE]),hm.g⟩
   refine bL 53 U (fH5 h6) (eG U (dW yD U U (eG U (eI fF 0 U U U (eG U (dA U wL U U (fun wx hm=>(kH _ _ _ wx)) (eG U (bB (cF U) U (nS U U (bZ U (bR ?_)))))))))))
   refine dC U (fun hh=>?_) (fun hh=>?_)
   ·have h7:(inB mi 1 1000)=false:=by simpa using hh
    refine bS (bZ U (bR (bM (bC (bA (bC (bA (bA (bC (bA ?_))))))))))
    have hE:eY (prevOf l k) ⟨ke,cl,fr,tt,dy,mi⟩=1:=by unfold eY;simp [h2,hO,mY,zW,h4,h5,h6,h7]
    exact bK U U fun wx hm=>⟨bW (by rw [cC.2,hat,if_neg (by rw [hE];decide),hE]),hm.g⟩
   have h7:(inB mi 1 1000)=true:=by simpa using hh
   refine bN (bG (bD (bI ?_)))
   have hE:eY (prevOf l k) ⟨ke,cl,fr,tt,dy,mi⟩=0:=by unfold eY;simp [h2,hO,mY,zW,h4,h5,h6,h7]
   refine dW vL U U (eI fE 0 U U U (bZ U (bE (bG (bD (bI (gN U U (bP U (bE ?_)))))))))
   exact cQ (k+1) ⟨by omega,by rw [cC.2,hat,if_pos hE]⟩ (by omega) ⟨(congrArg (fun z=>some (Value.string z)) (bJ8 hx).symm),U,U,(cS (by omega)),trivial⟩ (fun _ hm=>hm.pick [] [] [0] U U)
  refine bL 29 U (fH5 mY) ?_
  have mY:jI cl=true:=by unfold jI;simpa only [Bool.not_eq_false'] using mY
  refine dY U (dY U (dY U (dY U (nS U U (bZ U (bR (jU U (bS (dW bQ1 U U (eI fF 0 U U U (dW qY U U (eI fF 0 U U U (dA U wL U U (fun wx hm=>(kH _ _ _ wx)) (bB (cF U) U (bP U ?_)))))))))))))))
  rcases Bool.eq_false_or_eq_true (!(inB fr 0 tt)) with h4|h4
  ·refine bL 42 U (fH5 h4) ?_
   refine dY U (dY U (dY U (mQ U U (bP U (dY U (dY U (dY U (dY U (mQ U U (bP U (dY U (dY U (dY U (dY U (mQ U U (bZ U (bR (kQ U (bS (bZ U (bR (bM (bC (bA (bC (bA (bA (bC (bA ?_)))))))))))))))))))))))))))))
   have hE:eY (prevOf l k) ⟨ke,cl,fr,tt,dy,mi⟩=1:=by unfold eY;simp [h2,hO,mY,h4]
   exact bK U U fun wx hm=>⟨bW (by rw [cC.2,hat,if_neg (by rw [hE];decide),hE]),hm.g⟩
  refine bL 42 U (fH5 h4) (eG U (dW qY U U (eG U (eI fF 0 U U U (eG U (bB (eJ U U) U (nS U U (bP U ?_))))))))
  rcases Bool.eq_false_or_eq_true (decide (4001 < tt)) with h5|h5
  ·refine bL 47 U (fH5 h5) ?_
   replace h5:=of_decide_eq_true h5
   refine dY U (dY U (dY U (dY U (mQ U U (bP U (dY U (dY U (dY U (dY U (mQ U U (bZ U (bR (kQ U (bS (bZ U (bR (bM (bC (bA (bC (bA (bA (bC (bA ?_))))))))))))))))))))))))
   have hE:eY (prevOf l k) ⟨ke,cl,fr,tt,dy,mi⟩=1:=by unfold eY;simp [h2,hO,mY,h4,h5]
   exact bK U U fun wx hm=>⟨bW (by rw [cC.2,hat,if_neg (by rw [hE];decide),hE]),hm.g⟩
  refine bL 47 U (fH5 h5) ?_
  replace h5:=of_decide_eq_false h5
  refine eG U (dW yC U U (eG U (eI fF 0 U U U (eG U (dA U wL U U (fun wx hm=>(kH _ _ _ wx)) (eG U (bB (cF U) U (nS U U (bP U ?_)))))))))
  rcases Bool.eq_false_or_eq_true (!(inB dy 1 120)) with h6|h6
  ·refine bL 53 U (fH5 h6) ?_
   refine dY U (dY U (dY U (dY U (mQ U U (bZ U (bR (kQ U (bS (bZ U (bR (bM (bC (bA (bC (bA (bA (bC (bA ?_))))))))))))))))))
   have hE:eY (prevOf l k) ⟨ke,cl,fr,tt,dy,mi⟩=1:=by unfold eY;simp [h2,hO,mY,h4,h5,h6]
   exact bK U U fun wx hm=>⟨bW (by rw [cC.2,hat,if_neg (by rw [hE];decide),hE]),hm.g⟩
  refine bL 53 U (fH5 h6) (eG U (dW yD U U (eG U (eI fF 0 U U U (eG U (dA U wL U U (fun wx hm=>(kH _ _ _ wx)) (eG U (bB (cF U) U (nS U U (bZ U (bR ?_)))))))))))
  refine dC U (fun hh=>?_) (fun hh=>?_)
  ·have h7:(inB mi 1 1000)=false:=by simpa using hh
   refine bS (bZ U (bR (bM (bC (bA (bC (bA (bA (bC (bA ?_))))))))))
   have hE:eY (prevOf l k) ⟨ke,cl,fr,tt,dy,mi⟩=1:=by unfold eY;simp [h2,hO,mY,h4,h5,h6,h7]
   exact bK U U fun wx hm=>⟨bW (by rw [cC.2,hat,if_neg (by rw [hE];decide),hE]),hm.g⟩
  have h7:(inB mi 1 1000)=true:=by simpa using hh
  refine bN (bG (bD (bI ?_)))
  have hE:eY (prevOf l k) ⟨ke,cl,fr,tt,dy,mi⟩=0:=by unfold eY;simp [h2,hO,mY,h4,h5,h6,h7]
  refine dW vL U U (eI fE 0 U U U (bZ U (bE (bG (bD (bI (gN U U (bP U (bE ?_)))))))))
  exact cQ (k+1) ⟨by omega,by rw [cC.2,hat,if_pos hE]⟩ (by omega) ⟨(congrArg (fun z=>some (Value.string z)) (bJ8 hx).symm),U,U,(cS (by omega)),trivial⟩ (fun _ hm=>hm.pick [] [] [0] U U)
 refine dE (bF (bF (bY (bD (bS (bZ U (bR (bM ?_))))))))
 exact bK U U fun wx hm=>⟨bW (by rw [cC.2,scanE_end _ _ _ _ (by omega)]),hm.g⟩
theorem eH2 {l:List Cd} {x:Cd} (h:∀y∈l,zQ y) (h1:x.key.size<=1000000) (h2:x.cls.size<=1000000):∀y∈l++ [x],zQ y:=fun y hy=>by
 rcases List.mem_append.1 hy with hy|hy
 ·exact h y hy
 ·rw [List.mem_singleton.1 hy];exact ⟨h1,h2⟩
theorem cW9 {l:List Cd} {x:Cd} {j:Nat} (h:∀y∈l,zQ y) (h1:x.key.size<=1000000) (h2:x.cls.size<=1000000):∀y∈l.set j x,zQ y:=fun y hy=>by
 rcases List.mem_or_eq_of_mem_set hy with hy|rfl
 ·exact h y hy
 ·exact ⟨h1,h2⟩
theorem dK0 (w:World) (B sb m:Nat) (hS:eW 25 w B sb m) (hm:m<=100000000000):
 Calls prog 109 #[.pointer (some ⟨sb,0,none⟩)] w (fun e w'=>∃(A:Option Addr) (n c:Nat) (l:List Cd),e=.returned (.slice A n c)/\SlT nU 6 260 w' A n l/\(∀x∈l,zQ x)/\n<=3/\n<=c/\eW 25 w' B sb (m+50)/\w.grownBy w' (some sb)):=by
 refine cV ⟨74,w,(some sb), []⟩ func109 U ntmps109 U (bH5 (X:= []) hS cY cZ) (bS (bZ U (bR (bS (bZ U (bR (bH (bS (jF 9 [.string ⟨#[97,49,48]⟩,.string ⟨#[98,50,48]⟩,.string ⟨#[99,51,48]⟩] fun g1=>bB (dT jY U) U (bL 9 (v':= .int .i64 3) U U (bP U (bR (bO ?_)))))))))))))
 refine rK 260 6 ?_
 refine dX (γ:=Nat×Nat×Value×List Cd×List Value) (fun g=>g.1<=3/\g.2.1<=g.1/\g.2.2.2.1.length=g.2.1/\(∀x∈g.2.2.2.1,zQ x)/\g.2.2.2.2=g.2.2.2.1.flatMap nU) (fun g=> [(0,.pointer (some ⟨sb,0,none⟩)),(2,.slice none 0 0),(3,g.2.2.1),(8,.slice (some ⟨g1,0,none⟩) 3 3),(9,.int .i64 3),(10,.int .i64 ((g.1:Nat):Int))]) (fun g=>fun w=>eW 25 w B sb (m+10 *g.1)) (fun g=> [(g1,9, [.string ⟨#[97,49,48]⟩,.string ⟨#[98,50,48]⟩,.string ⟨#[99,51,48]⟩])]) (fun g=> [⟨g.2.2.1,260,6,g.2.1,g.2.2.2.2⟩]) (fun g=> []) (fun g=>3 - g.1) (0,0,.slice none 0 0, [], []) ⟨Nat.zero_le _,Nat.zero_le _,U,(fun _ h=>by cases h),U⟩ ⟨U,U,U,U,U,U,trivial⟩ (fun _ hm=>(hm.more U (by first|omega|(dsimp only;omega))).pick [0] [0] [] U U) ?_
 rintro ⟨k,n,v,l,xs⟩ cC
 replace cC:k<=3/\n<=k/\l.length=n/\(∀x∈l,zQ x)/\xs=l.flatMap nU:=cC
 dsimp only
 refine bS ?_
 obtain ⟨hi0,hi1,vO,hi3,rfl⟩:=cC
 refine bB (dD U U) U (bR (bH ?_))
 refine cE U (fun hk=>?_) (fun hk=>?_)
 ·refine bN (bD (bH (bO (bS ?_))))
  obtain ⟨nm,hx⟩:∃x,([⟨#[97,49,48]⟩,⟨#[98,50,48]⟩,⟨#[99,51,48]⟩]:List ByteArray)[k]?=some x:=⟨_,fJ5 (by simp;omega)⟩
  have hnm:nm.size<=100:=kG (fK5 hx) (by decide)
  refine bB (bT (j:=k) jY U U (by omega)) U (bB (dL (k:=0) (v:= .string nm) fE U (fun _ hm=>(SlT.ofBlk (l:= [⟨#[97,49,48]⟩,⟨#[98,50,48]⟩,⟨#[99,51,48]⟩]) zC (hm.blkI 0 U))) hx U U) U (bZ U (bR (bH (bS (bP U (dM (γ:=Bool) (val:=fun v=> .bool v) (φ:=fun v=>True) U xV U U U U (fun wx hm=>((jZ _ wx B sb _ hm.k (by omega) (by omega) (by omega)).mono fun _ _ ⟨v,he,hS,hg⟩=>⟨v,trivial,he,hS,hg⟩)) fun f2 _=>bR ?_)))))))
  refine dC U (fun hh=>?_) (fun hh=>?_)
  ·have hf:f2=true:=by simpa using hh
   refine dE (bF (bY (bD (bI (gN U U (bP U (bE ?_)))))))
   exact cQ (k+1,n,v,l,l.flatMap nU) ⟨by dsimp only;omega,by dsimp only;omega,vO,hi3,rfl⟩ (by dsimp only;omega) ⟨U,U,U,U,U,(cS (by omega)),trivial⟩ (fun _ hm=>(hm.more U (by first|omega|(dsimp only;omega))).pick [0] [0] [] U U)
  have hf:f2=false:=by simpa using hh
  refine bN (bD (bS (bP U (jF 3 [.int .i64 0,.int .i64 0,.int .i64 3] fun g3=>dM (γ:=Int) (val:=fun v=> .int .i64 v) (φ:=fun v=>v∈([0,0,3]:List Int)) U pP U U U U (fun wx hm=>(eT [0,0,3] _ _ _ wx B sb _ hm.k (by omega) (by simp) (by simp) (hm.blkI 0 U) (hm.neRow 0 U U))) fun v4 hv4=>?_))))
  have bv4:0<=v4/\v4<=3:=gQ hv4 (by decide)
  have bv40:=bv4.1
  have bv41:=bv4.2
  clear bv4
  refine bZ U (bR (bI (bP U (bP U (bP U (jF 9 [.string ⟨#[]⟩,.string ⟨#[]⟩,.string ⟨#[109,105,110,105]⟩] fun g5=>dM (γ:=ByteArray) (val:=fun v=> .string v) (φ:=fun v=>v∈([⟨#[]⟩,⟨#[]⟩,⟨#[109,105,110,105]⟩]:List ByteArray)) U rS U U U U (fun wx hm=>(gV [⟨#[]⟩,⟨#[]⟩,⟨#[109,105,110,105]⟩] _ _ _ wx B sb _ hm.k (by omega) (by simp) (by simp) (hm.blkI 0 U) (hm.neRow 0 U U))) fun s6 hs6=>?_))))))
  have zs6:s6.size<=100:=kG hs6 (by decide)
  refine bP U (bP U (bP U (jF 3 [.int .i64 0,.int .i64 1,.int .i64 10,.int .i64 3000] fun g7=>dM (γ:=Int) (val:=fun v=> .int .i64 v) (φ:=fun v=>v∈([0,1,10,3000]:List Int)) U pP U U U U (fun wx hm=>(eT [0,1,10,3000] _ _ _ wx B sb _ hm.k (by omega) (by simp) (by simp) (hm.blkI 0 U) (hm.neRow 0 U U))) fun v8 hv8=>?_)))
  have bv8:0<=v8/\v8<=3000:=gQ hv8 (by decide)
  have bv80:=bv8.1
  have bv81:=bv8.2
  clear bv8
  refine gN U U (bP U (jF 3 [.int .i64 1,.int .i64 1,.int .i64 2,.int .i64 5] fun g9=>dM (γ:=Int) (val:=fun v=> .int .i64 v) (φ:=fun v=>v∈([1,1,2,5]:List Int)) U pP U U U U (fun wx hm=>(eT [1,1,2,5] _ _ _ wx B sb _ hm.k (by omega) (by simp) (by simp) (hm.blkI 0 U) (hm.neRow 0 U U))) fun v10 hv10=>?_))
  have bv10:1<=v10/\v10<=5:=gQ hv10 (by decide)
  have bv100:=bv10.1
  have bv101:=bv10.2
  clear bv10
  refine bP U (jF 3 [.int .i64 1,.int .i64 100,.int .i64 100,.int .i64 250,.int .i64 1000] fun g11=>dM (γ:=Int) (val:=fun v=> .int .i64 v) (φ:=fun v=>v∈([1,100,100,250,1000]:List Int)) U pP U U U U (fun wx hm=>(eT [1,100,100,250,1000] _ _ _ wx B sb _ hm.k (by omega) (by simp) (by simp) (hm.blkI 0 U) (hm.neRow 0 U U))) fun v12 hv12=>?_)
  have bv12:1<=v12/\v12<=1000:=gQ hv12 (by decide)
  have bv120:=bv12.1
  have bv121:=bv12.2
  clear bv12
  refine bB (dJ (cs:= [.string nm,.string s6,.int .i64 v4,.int .i64 (v4+v8),.int .i64 v10,.int .i64 v12]) U (by kernel_rfl)) U (jF 260 [.string nm,.string s6,.int .i64 v4,.int .i64 (v4+v8),.int .i64 v10,.int .i64 v12] fun g13=>eF (news:= [.string nm,.string s6,.int .i64 v4,.int .i64 (v4+v8),.int .i64 v10,.int .i64 v12]) 0 0 fH3 U U U U U U U (by omega) (by unfold maxLen;omega) U U fun v2 hv2=>bZ U (bE (bG (bD (bI (gN U U (bP U (bE ?_))))))))
  exact cQ (k+1,n+1,v2,l++ [⟨nm,s6,v4,v4+v8,v10,v12⟩],l.flatMap nU++([.string nm,.string s6,.int .i64 v4,.int .i64 (v4+v8),.int .i64 v10,.int .i64 v12]:List Value)) ⟨by dsimp only;omega,by dsimp only;omega,by simp [vO],eH2 hi3 (show nm.size<=1000000 by omega) (show s6.size<=1000000 by omega),by simp [nU]⟩ (by dsimp only;omega) ⟨U,U,U,U,U,(cS (by omega)),trivial⟩ (fun _ hm=>(hm.more U (by first|omega|(dsimp only;omega))).pick [6] [0] [] U U)
 refine dE (bF (bF (bY (bD (bH (bS ?_))))))
 refine eD (R:=∃A cc,v= .slice A n cc) (fun wx hm=>dS (hm.ownI 0 U)) ?_
 rintro ⟨A,c,rfl⟩
 refine bP U (bB (dT cJ2 U) U (bB (eJ U U) U (bP U ?_)))
 rcases Bool.eq_false_or_eq_true (decide (0 < ((n:Nat):Int))) with hb|hb
 ·refine bL 43 U (fH5 hb) ?_
  have hk0:0 < n:=by simpa using hb
  refine eG U (bP U (eG U (dM (γ:=Bool) (val:=fun v=> .bool v) (φ:=fun v=>True) U xV U U U U (fun wx hm=>((jZ _ wx B sb _ hm.k (by omega) (by omega) (by omega)).mono fun _ _ ⟨v,he,hS,hg⟩=>⟨v,trivial,he,hS,hg⟩)) fun f14 _=>mQ U U (bR ?_))))
  refine dC U (fun hh=>?_) (fun hh=>?_)
  ·have hf:f14=true:=by simpa using hh
   refine bS ?_
   refine eD (R:=∃g,A=some ⟨g,0,none⟩) (fun wx hm=>bL5 (hm.ownI 0 U) hk0) ?_
   rintro ⟨bo,rfl⟩
   refine bP U (bP U (bP U (bB (dT cJ2 U) U (dM (γ:=Int) (val:=fun v=> .int .i64 v) (φ:=fun v=>mW ((n:Nat):Int) v) U bR9 U U U U (fun wx hm=>(mN _ wx B sb _ hm.k (by omega) (by omega) (by omega))) fun vj hvj=>?_))))
   have hj:=rE hvj (by omega)
   obtain ⟨i,rfl⟩:=Int.eq_ofNat_of_zero_le hj.1
   have hij:i < n:=by omega
   obtain ⟨y,hy⟩:∃y,l[i]?=some y:=⟨_,fJ5 (by omega)⟩
   obtain ⟨y0,y1,y2,y3,y4,y5⟩:=y
   obtain ⟨hy0,hy1⟩:=hi3 _ (fK5 hy)
   have hy0:y0.size<=1000000:=hy0
   have hy1:y1.size<=1000000:=hy1
   refine bB (bT (j:=i) cJ2 U U (by omega)) U (bZ U (bR (bI (bP U (bP U (bP U (bP U (bP U (bB (bX U) U (dW vL U U (bB (dL (k:=0) (v:= .string y0) fE U (fun _ hm=>(SlT.ofOwn bP3 (hm.ownI 0 U) vO)) hy U U) U (jF 9 [.string y0,.string ⟨#[]⟩,.string ⟨#[122,101,100]⟩,.string ⟨#[97,49,48]⟩] fun g15=>dM (γ:=ByteArray) (val:=fun v=> .string v) (φ:=fun v=>v∈([y0,⟨#[]⟩,⟨#[122,101,100]⟩,⟨#[97,49,48]⟩]:List ByteArray)) U rS U U U U (fun wx hm=>(gV [y0,⟨#[]⟩,⟨#[122,101,100]⟩,⟨#[97,49,48]⟩] _ _ _ wx B sb _ hm.k (by omega) (by simp) (by simp) (hm.blkI 0 U) (hm.neRow 0 U U))) fun sn zJ=>?_))))))))))))
   have zJ:sn.size<=1000000:=by
    simp at zJ
    rcases zJ with rfl|rfl|rfl|rfl
    ·exact hy0
    ·decide
    ·decide
    decide
   refine bP U (dM (γ:=Int) (val:=fun v=> .int .i64 v) (φ:=fun v=> -2000000000000000<=v/\v<=2000000000000000) U bO3 U U U U (fun wx hm=>(mI _ _ wx B sb _ hm.k (by omega) (by omega) (by omega) (by omega))) fun v16 hv16=>bP U (dM (γ:=Int) (val:=fun v=> .int .i64 v) (φ:=fun v=> -2000000000000000<=v/\v<=2000000000000000) U bO3 U U U U (fun wx hm=>(mI _ _ wx B sb _ hm.k (by omega) (by omega) (by omega) (by omega))) fun v17 hv17=>bB (bX U) U (dW vL U U (gK (l:=l) (j:=i) (r:=0) (el:=⟨y0,y1,y2,y3,y4,y5⟩) (el':=⟨sn,y1,y2,y3,y4,y5⟩) 0 fE U U U U bP3 U hy vO (show 0 < 6 by decide) U U (bB (bX U) U (dW yC U U ?_))))))
   refine gK (l:=(l.set i ⟨sn,y1,y2,y3,y4,y5⟩)) (j:=i) (r:=4) (el:=⟨sn,y1,y2,y3,y4,y5⟩) (el':=⟨sn,y1,y2,y3,v16,y5⟩) 0 fF U U U U bP3 U (List.getElem?_set_self (by first|omega|(simp;omega))) (by simp;exact vO) (show 4 < 6 by decide) U U ?_
   refine bB (bX U) U (dW yD U U ?_)
   refine gK (l:=((l.set i ⟨sn,y1,y2,y3,y4,y5⟩).set i ⟨sn,y1,y2,y3,v16,y5⟩)) (j:=i) (r:=5) (el:=⟨sn,y1,y2,y3,v16,y5⟩) (el':=⟨sn,y1,y2,y3,v16,v17⟩) 0 fF U U U U bP3 U (List.getElem?_set_self (by first|omega|(simp;omega))) (by simp;exact vO) (show 5 < 6 by decide) U U ?_
   refine bR (bS (bP U (bZ U (bR (bM ?_)))))
   exact bK U U fun wx hm=>⟨some ⟨bo,0,none⟩,n,c,(((l.set i ⟨sn,y1,y2,y3,y4,y5⟩).set i ⟨sn,y1,y2,y3,v16,y5⟩).set i ⟨sn,y1,y2,y3,v16,v17⟩),U,SlT.ofOwn bP3 (hm.ownI 0 U) (by simp;exact vO),cW9 (cW9 (cW9 (hi3) zJ hy1) zJ hy1) zJ hy1,by omega,jA (hm.ownI 0 rfl),hm.k.more (by omega),hm.g⟩
  have hf:f14=false:=by simpa using hh
  refine bN (bD (bS (bP U (bZ U (bR (bM ?_))))))
  exact bK U U fun wx hm=>⟨A,n,c,l,U,SlT.ofOwn bP3 (hm.ownI 0 U) vO,hi3,by omega,jA (hm.ownI 0 rfl),hm.k.more (by omega),hm.g⟩
 refine bL 43 U (fH5 hb) (dY U (dY U (nS U U (bR (jU U (bN (bD (bS (bP U (bZ U (bR (bM ?_))))))))))))
 exact bK U U fun wx hm=>⟨A,n,c,l,U,SlT.ofOwn bP3 (hm.ownI 0 U) vO,hi3,by omega,jA (hm.ownI 0 rfl),hm.k.more (by omega),hm.g⟩
def kF (z:Int):List Value:= [.int .i64 z]
theorem fM (z:Int):(kF z).length=1:=rfl
structure Ex where
 key:ByteArray
 once:Int
 day:Int
 most:Int
def qP (x:Ex):List Value:= [.string x.key,.int .i64 x.once,.int .i64 x.day,.int .i64 x.most]
def bF6 (x:Ex):Prop:=x.key.size<=1000000
def cF8 (p:Option Ex) (b:Ex):Bool:=match p with
 |none=>false
 |some q=>leB b.key q.key
def xZ (p:Option Ex) (b:Ex):Int:=if !keyB b.key then 5 else if cF8 p b then 7 else if !inB b.once 0 1000000 then 1 else if !inB b.day 0 1000000 then 1 else if !inB b.most (-1) 1000000 then 1 else 0
def qD (l:List Ex):Int:=if 30 < l.length then 2 else scanE xZ none l
def yS (l:List Ex) (k:Nat):ByteArray:=match prevOf l k with
 |none=>⟨#[]⟩
 |some q=>q.key
theorem cO8 {l:List Ex} {k:Nat} {x:Ex} (h:l[k]?=some x):yS l (k+1)=x.key:=by
 unfold yS prevOf;rw [if_neg (by omega),Nat.add_sub_cancel,h]
theorem cT3 {l:List Ex} {k:Nat} {b:Ex} (h:keyB b.key=true):leB b.key (yS l k)=cF8 (prevOf l k) b:=by
 unfold yS cF8
 cases prevOf l k with
 |none=>exact dJ3 h
 |some q=>rfl
theorem bS8 (l:List Ex) (A:Option Addr) (n c:Nat) (w:World) (hl:SlT qP 4 254 w A n l) (hok:∀b∈l,bF6 b) (hn:n<=1000000):
 Calls prog 164 #[.slice A n c] w (nC w (qD l)):=by
 refine cV ⟨52,w,none, []⟩ func164 U ntmps164 U (gR (X:= [bU qP 4 254 w.heap.size none A n l]) (cG hl.old cY) (cH bU.lasts cZ)) (bS ?_)
 have hlen:=hl.len
 refine bZ U (bR (bH (bS (bP U (bB (dT cI2 U) U (bB (eJ U U) U (bR ?_)))))))
 refine cE U (fun h1=>?_) (fun h1=>?_)
 ·refine bS (bZ U (bR ?_))
  refine bM (bA ?_)
  exact bK U U fun wx hm=>⟨bW (by unfold qD;rw [if_pos (by omega)]),hm.g⟩
 refine bN (bD (bH (bS (bP U (bB (dT cI2 U) U (bP U (bR (bO ?_))))))))
 refine dX (γ:=Nat) (fun (k:Nat)=>k<=n/\qD l=scanE xZ (prevOf l k) (l.drop k)) (fun (k:Nat)=> [(0,.slice A n c),(8,.slice A n c),(9,.int .i64 ((n:Nat):Int)),(10,.int .i64 ((k:Nat):Int))]) (fun (k:Nat)=>fun _=>True) (fun (k:Nat)=> []) (fun (k:Nat)=> []) (fun (k:Nat)=> [bU qP 4 254 w.heap.size none A n l]) (fun (k:Nat)=>n - k) 0 ⟨Nat.zero_le _,by unfold qD;rw [if_neg (by omega)];rfl⟩ ⟨U,U,U,U,trivial⟩ (fun _ hm=>hm.pick [] [] [0] U U) ?_
 intro k cC
 replace cC:k<=n/\qD l=scanE xZ (prevOf l k) (l.drop k):=cC
 refine bS (bB (dD U U) U (bR (bH ?_)))
 refine cE U (fun hk=>?_) (fun hk=>?_)
 ·refine bN (bD (bH (bO (bS ?_))))
  obtain ⟨b,off,hA,_,_⟩:=hl.get (by omega)
  subst hA
  obtain ⟨x,hx⟩:∃x,l[k]?=some x:=⟨_,fJ5 (by omega)⟩
  obtain ⟨ke,on,dy,mo⟩:=x
  have hat:=scanE_at xZ l k _ hx
  have hk1:ke.size<=1000000:=hok _ (fK5 hx)
  refine bP U (bB (bT (j:=k) cI2 U U (by omega)) U (bB (dO (vs:= [.string ke,.int .i64 on,.int .i64 dy,.int .i64 mo]) cR8 U (fun _ hm=>(hm.fact 0 U).1) hx U U) U (dH eZ5 U fun g1=>bZ U (jX (cs':= [.string ke,.int .i64 on,.int .i64 dy,.int .i64 mo]) 0 cR8 U U U U (bR (bO (bS (dW bO1 U U (eI fE 0 U U U (dA U bP2 U U (fun wx hm=>(isKey_any _ wx (by omega))) (bB (cF U) U (bZ U (bR ?_)))))))))))))
  refine dC U (fun hh=>?_) (fun hh=>?_)
  ·have h2:(keyB ke)=false:=by simpa using hh
   refine bS (bZ U (bR (bM (bC (bC (bA (bA (bC (bA ?_)))))))))
   have hE:xZ (prevOf l k) ⟨ke,on,dy,mo⟩=5:=by unfold xZ;simp [h2]
   exact bK U U fun wx hm=>⟨bW (by rw [cC.2,hat,if_neg (by rw [hE];decide),hE]),hm.g⟩
  have h2:(keyB ke)=true:=by simpa using hh
  refine bH ?_
  by_cases hk0:k=0
  ·have hO:cF8 (prevOf l k) ⟨ke,on,dy,mo⟩=false:=by rw [mJ hk0];rfl
   refine gd (fun wz=>True) mixed (fun _ _=>trivial) fun z=>wq 0 U (bJ U) (wq 1 U (eJ U U) (dG 22 (v':= .bool false) U (fH5 (decide_eq_false (by omega))) (wq 2 U (bJ U) (fC 3 U (fC 4 U (fC 5 U (fC 6 U (fC 7 U (fC 8 U (fC 9 U (fC 10 U (fC 11 U (wq 12 U (fN U U) (wq 13 U (cU U) (jH (bD (jU U (bS (dW cJ5 U U (eI fF 0 U U U (dA U qB U U (fun wx hm=>(in_any _ _ _ wx)) (bB (cF U) U (bP U ?_)))))))))))))))))))))))
   rcases Bool.eq_false_or_eq_true (!(inB on 0 1000000)) with h4|h4
   ·refine bL 39 U (fH5 h4) ?_
    refine dY U (dY U (dY U (dY U (mQ U U (bP U (dY U (dY U (dY U (dY U (mQ U U (bZ U (bR (kQ U (bS (bZ U (bR (bM (bC (bC (bA (bA (bC (bA ?_)))))))))))))))))))))))
    have hE:xZ (prevOf l k) ⟨ke,on,dy,mo⟩=1:=by unfold xZ;simp [h2,hO,h4]
    exact bK U U fun wx hm=>⟨bW (by rw [cC.2,hat,if_neg (by rw [hE];decide),hE]),hm.g⟩
   refine bL 39 U (fH5 h4) (eG U (dW cK5 U U (eG U (eI fF 0 U U U (eG U (dA U qB U U (fun wx hm=>(in_any _ _ _ wx)) (eG U (bB (cF U) U (nS U U (bP U ?_))))))))))
   rcases Bool.eq_false_or_eq_true (!(inB dy 0 1000000)) with h5|h5
   ·refine bL 45 U (fH5 h5) ?_
    refine dY U (dY U (dY U (dY U (mQ U U (bZ U (bR (kQ U (bS (bZ U (bR (bM (bC (bC (bA (bA (bC (bA ?_)))))))))))))))))
    have hE:xZ (prevOf l k) ⟨ke,on,dy,mo⟩=1:=by unfold xZ;simp [h2,hO,h4,h5]
    exact bK U U fun wx hm=>⟨bW (by rw [cC.2,hat,if_neg (by rw [hE];decide),hE]),hm.g⟩
   refine bL 45 U (fH5 h5) (eG U (dW cL5 U U (eG U (eI fF 0 U U U (eG U (dA U qB U U (fun wx hm=>(in_any _ _ _ wx)) (eG U (bB (cF U) U (nS U U (bZ U (bR ?_)))))))))))
   refine dC U (fun hh=>?_) (fun hh=>?_)
   ·have h6:(inB mo (-1) 1000000)=false:=by simpa using hh
    refine bS (bZ U (bR (bM (bC (bC (bA (bA (bC (bA ?_)))))))))
    have hE:xZ (prevOf l k) ⟨ke,on,dy,mo⟩=1:=by unfold xZ;simp [h2,hO,h4,h5,h6]
    exact bK U U fun wx hm=>⟨bW (by rw [cC.2,hat,if_neg (by rw [hE];decide),hE]),hm.g⟩
   have h6:(inB mo (-1) 1000000)=true:=by simpa using hh
   refine bN (bG (bG (bD (bI ?_))))
   have hE:xZ (prevOf l k) ⟨ke,on,dy,mo⟩=0:=by unfold xZ;simp [h2,hO,h4,h5,h6]
   refine gN U U (bP U (bE ?_))
   exact cQ (k+1) ⟨by omega,by rw [cC.2,hat,if_pos hE]⟩ (by omega) ⟨U,U,U,(cS (by omega)),trivial⟩ (fun _ hm=>hm.pick [] [] [0] U U)
  obtain ⟨y,hy⟩:∃x,l[k - 1]?=some x:=⟨_,fJ5 (by omega)⟩
  obtain ⟨p0,p1,p2,p3⟩:=y
  refine gd (fun wz=>Blk wz g1 254 [.string ke,.int .i64 on,.int .i64 dy,.int .i64 mo]/\(bU qP 4 254 w.heap.size none (some ⟨b,off,none⟩) n l) wz/\True) mixed (fun _ hm=>⟨hm.bl 0,hm.fa 0,trivial⟩) fun z=>wq 0 U (bJ U) (wq 1 U (eJ U U) (dG 22 (v':= .bool true) U (fH5 (decide_eq_true (by omega))) (wq 2 U (bJ U) (fI 3 U (bQ bO1 U U) (fI 4 U (cN fE U (fun _ hm=>hm.1) U) (fI 5 U (bJ U) (fI 6 U (bJ U) (fI 7 U (ov_sub U U (by omega) (by omega)) (dG 28 (v':= .int .i64 ((k - 1:Nat):Int)) U (fI5 (by omega)) (fI 8 U (bT (j:=k - 1) cI2 U U (by omega)) (fI 9 U (bQ bO1 U U) (fI 10 U (dL (k:=0) (v:= .string p0) fE U (fun _ hm=>(hm.2.1).1) hy U U) (fI 11 U (wS U U) (wq 12 U (fD U U) (wq 13 U (cU U) (jH (bD ?_)))))))))))))))))
  refine dC U (fun hh=>?_) (fun hh=>?_)
  ·have h9:(Op.bytesLess ke.toList p0.toList||ke.toList==p0.toList)=true:=by simpa using hh
   refine bS ?_
   have hO:cF8 (prevOf l k) ⟨ke,on,dy,mo⟩=true:=by rw [jS hk0 hy];exact h9
   refine bZ U (bR (bM (bC (bC (bA (bA (bC (bA ?_))))))))
   have hE:xZ (prevOf l k) ⟨ke,on,dy,mo⟩=7:=by unfold xZ;simp [h2,hO]
   exact bK U U fun wx hm=>⟨bW (by rw [cC.2,hat,if_neg (by rw [hE];decide),hE]),hm.g⟩
  have h9:(Op.bytesLess ke.toList p0.toList||ke.toList==p0.toList)=false:=by simpa using hh
  refine bS ?_
  have hO:cF8 (prevOf l k) ⟨ke,on,dy,mo⟩=false:=by rw [jS hk0 hy];exact h9
  refine dW cJ5 U U (eI fF 0 U U U (dA U qB U U (fun wx hm=>(in_any _ _ _ wx)) (bB (cF U) U (bP U ?_))))
  rcases Bool.eq_false_or_eq_true (!(inB on 0 1000000)) with h4|h4
  ·refine bL 39 U (fH5 h4) ?_
   refine dY U (dY U (dY U (dY U (mQ U U (bP U (dY U (dY U (dY U (dY U (mQ U U (bZ U (bR (kQ U (bS (bZ U (bR (bM (bC (bC (bA (bA (bC (bA ?_)))))))))))))))))))))))
   have hE:xZ (prevOf l k) ⟨ke,on,dy,mo⟩=1:=by unfold xZ;simp [h2,hO,h4]
   exact bK U U fun wx hm=>⟨bW (by rw [cC.2,hat,if_neg (by rw [hE];decide),hE]),hm.g⟩
  refine bL 39 U (fH5 h4) (eG U (dW cK5 U U (eG U (eI fF 0 U U U (eG U (dA U qB U U (fun wx hm=>(in_any _ _ _ wx)) (eG U (bB (cF U) U (nS U U (bP U ?_))))))))))
  rcases Bool.eq_false_or_eq_true (!(inB dy 0 1000000)) with h5|h5
  ·refine bL 45 U (fH5 h5) ?_
   refine dY U (dY U (dY U (dY U (mQ U U (bZ U (bR (kQ U (bS (bZ U (bR (bM (bC (bC (bA (bA (bC (bA ?_)))))))))))))))))
   have hE:xZ (prevOf l k) ⟨ke,on,dy,mo⟩=1:=by unfold xZ;simp [h2,hO,h4,h5]
   exact bK U U fun wx hm=>⟨bW (by rw [cC.2,hat,if_neg (by rw [hE];decide),hE]),hm.g⟩
  refine bL 45 U (fH5 h5) (eG U (dW cL5 U U (eG U (eI fF 0 U U U (eG U (dA U qB U U (fun wx hm=>(in_any _ _ _ wx)) (eG U (bB (cF U) U (nS U U (bZ U (bR ?_)))))))))))
  refine dC U (fun hh=>?_) (fun hh=>?_)
  ·have h6:(inB mo (-1) 1000000)=false:=by simpa using hh
   refine bS (bZ U (bR (bM (bC (bC (bA (bA (bC (bA ?_)))))))))
   have hE:xZ (prevOf l k) ⟨ke,on,dy,mo⟩=1:=by unfold xZ;simp [h2,hO,h4,h5,h6]
   exact bK U U fun wx hm=>⟨bW (by rw [cC.2,hat,if_neg (by rw [hE];decide),hE]),hm.g⟩
  have h6:(inB mo (-1) 1000000)=true:=by simpa using hh
  refine bN (bG (bG (bD (bI ?_))))
  have hE:xZ (prevOf l k) ⟨ke,on,dy,mo⟩=0:=by unfold xZ;simp [h2,hO,h4,h5,h6]
  refine gN U U (bP U (bE ?_))
  exact cQ (k+1) ⟨by omega,by rw [cC.2,hat,if_pos hE]⟩ (by omega) ⟨U,U,U,(cS (by omega)),trivial⟩ (fun _ hm=>hm.pick [] [] [0] U U)
 refine dE (bF (bF (bY (bD (bS (bZ U (bR (bM ?_))))))))
 exact bK U U fun wx hm=>⟨bW (by rw [cC.2,scanE_end _ _ _ _ (by omega)]),hm.g⟩
theorem bY8 (l:List Ex) (A:Option Addr) (n c:Nat) (w:World) (hl:SlT qP 4 254 w A n l) (hok:∀b∈l,bF6 b) (hn:n<=1000000):
 Calls prog 112 #[.slice A n c] w (nC w (qD l)):=by
 refine cV ⟨45,w,none, []⟩ func112 U ntmps112 U (gR (X:= [bU qP 4 254 w.heap.size none A n l]) (cG hl.old cY) (cH bU.lasts cZ)) (bS ?_)
 have hlen:=hl.len
 refine bZ U (bR (bH (bS (bP U (bB (dT cI2 U) U (bB (eJ U U) U (bR ?_)))))))
 refine cE U (fun h1=>?_) (fun h1=>?_)
 ·refine bS (bZ U (bR ?_))
  refine bM (bA ?_)
  exact bK U U fun wx hm=>⟨bW (by unfold qD;rw [if_pos (by omega)]),hm.g⟩
 refine bN (bD (bS (bZ U (bR (bH (bS (bP U (bB (dT cI2 U) U (bP U (bE (bD (bO ?_))))))))))))
 refine dX (γ:=Nat) (fun (k:Nat)=>k<=n/\qD l=scanE xZ (prevOf l k) (l.drop k)) (fun (k:Nat)=> [(3,.string (yS l k)),(9,.slice A n c),(10,.int .i64 ((n:Nat):Int)),(11,.int .i64 ((k:Nat):Int))]) (fun (k:Nat)=>fun _=>True) (fun (k:Nat)=> []) (fun (k:Nat)=> []) (fun (k:Nat)=> [bU qP 4 254 w.heap.size none A n l]) (fun (k:Nat)=>n - k) 0 ⟨Nat.zero_le _,by unfold qD;rw [if_neg (by omega)];rfl⟩ ⟨U,U,U,U,trivial⟩ (fun _ hm=>hm.pick [] [] [0] U U) ?_
 intro k cC
 replace cC:k<=n/\qD l=scanE xZ (prevOf l k) (l.drop k):=cC
 refine bS (bB (dD U U) U (bR (bH ?_)))
 refine cE U (fun hk=>?_) (fun hk=>?_)
 ·refine bN (bD (bH (bO (bS ?_))))
  obtain ⟨b,off,hA,_,_⟩:=hl.get (by omega)
  subst hA
  obtain ⟨x,hx⟩:∃x,l[k]?=some x:=⟨_,fJ5 (by omega)⟩
  obtain ⟨ke,on,dy,mo⟩:=x
  have hat:=scanE_at xZ l k _ hx
  have hk1:ke.size<=1000000:=hok _ (fK5 hx)
  refine bB (bT (j:=k) cI2 U U (by omega)) U (bB (dO (vs:= [.string ke,.int .i64 on,.int .i64 dy,.int .i64 mo]) cR8 U (fun _ hm=>(hm.fact 0 U).1) hx U U) U (dH eZ5 U fun g1=>jX (cs':= [.string ke,.int .i64 on,.int .i64 dy,.int .i64 mo]) 0 cR8 U U U U (bR (bH (bO (bS (dW bO1 U U (eI fE 0 U U U (cL U bW7 U U (fun wx hm=>(wQ _ wx (by omega))) (bB (cF U) U (bZ U (bR ?_))))))))))))
  refine dC U (fun hh=>?_) (fun hh=>?_)
  ·have h2:(keyB ke)=false:=by simpa using hh
   refine bS (bZ U (bR (bM (bC (bA (bC (bA (bA (bC (bA ?_))))))))))
   have hE:xZ (prevOf l k) ⟨ke,on,dy,mo⟩=5:=by unfold xZ;simp [h2]
   exact bK U U fun wx hm=>⟨bW (by rw [cC.2,hat,if_neg (by rw [hE];decide),hE]),hm.g⟩
  have h2:(keyB ke)=true:=by simpa using hh
  refine bS (dW bO1 U U (eI fE 0 U U U (bP U (bB (wS U U) U (bZ U (bR ?_))))))
  refine dC U (fun hh=>?_) (fun hh=>?_)
  ·have h9:(Op.bytesLess ke.toList (yS l k).toList||ke.toList==(yS l k).toList)=true:=by simpa using hh
   refine bS ?_
   have hO:cF8 (prevOf l k) ⟨ke,on,dy,mo⟩=true:=(cT3 (b:=⟨ke,on,dy,mo⟩) (by simpa using h2)).symm.trans h9
   refine bZ U (bR (bM (bC (bA (bC (bA (bA (bC (bA ?_)))))))))
   have hE:xZ (prevOf l k) ⟨ke,on,dy,mo⟩=7:=by unfold xZ;simp [h2,hO]
   exact bK U U fun wx hm=>⟨bW (by rw [cC.2,hat,if_neg (by rw [hE];decide),hE]),hm.g⟩
  have h9:(Op.bytesLess ke.toList (yS l k).toList||ke.toList==(yS l k).toList)=false:=by simpa using hh
  refine bS ?_
  have hO:cF8 (prevOf l k) ⟨ke,on,dy,mo⟩=false:=(cT3 (b:=⟨ke,on,dy,mo⟩) (by simpa using h2)).symm.trans h9
  refine dW cJ5 U U (eI fF 0 U U U (dA U wL U U (fun wx hm=>(kH _ _ _ wx)) (bB (cF U) U (bP U ?_))))
  rcases Bool.eq_false_or_eq_true (!(inB on 0 1000000)) with h4|h4
  ·refine bL 30 U (fH5 h4) ?_
   refine dY U (dY U (dY U (dY U (mQ U U (bP U (dY U (dY U (dY U (dY U (mQ U U (bZ U (bR (kQ U (bS (bZ U (bR (bM (bC (bA (bC (bA (bA (bC (bA ?_))))))))))))))))))))))))
   have hE:xZ (prevOf l k) ⟨ke,on,dy,mo⟩=1:=by unfold xZ;simp [h2,hO,h4]
   exact bK U U fun wx hm=>⟨bW (by rw [cC.2,hat,if_neg (by rw [hE];decide),hE]),hm.g⟩
  refine bL 30 U (fH5 h4) (eG U (dW cK5 U U (eG U (eI fF 0 U U U (eG U (dA U wL U U (fun wx hm=>(kH _ _ _ wx)) (eG U (bB (cF U) U (nS U U (bP U ?_))))))))))
  rcases Bool.eq_false_or_eq_true (!(inB dy 0 1000000)) with h5|h5
  ·refine bL 36 U (fH5 h5) ?_
   refine dY U (dY U (dY U (dY U (mQ U U (bZ U (bR (kQ U (bS (bZ U (bR (bM (bC (bA (bC (bA (bA (bC (bA ?_))))))))))))))))))
   have hE:xZ (prevOf l k) ⟨ke,on,dy,mo⟩=1:=by unfold xZ;simp [h2,hO,h4,h5]
   exact bK U U fun wx hm=>⟨bW (by rw [cC.2,hat,if_neg (by rw [hE];decide),hE]),hm.g⟩
  refine bL 36 U (fH5 h5) (eG U (dW cL5 U U (eG U (eI fF 0 U U U (eG U (dA U wL U U (fun wx hm=>(kH _ _ _ wx)) (eG U (bB (cF U) U (nS U U (bZ U (bR ?_)))))))))))
  refine dC U (fun hh=>?_) (fun hh=>?_)
  ·have h6:(inB mo (-1) 1000000)=false:=by simpa using hh
   refine bS (bZ U (bR (bM (bC (bA (bC (bA (bA (bC (bA ?_))))))))))
   have hE:xZ (prevOf l k) ⟨ke,on,dy,mo⟩=1:=by unfold xZ;simp [h2,hO,h4,h5,h6]
   exact bK U U fun wx hm=>⟨bW (by rw [cC.2,hat,if_neg (by rw [hE];decide),hE]),hm.g⟩
  have h6:(inB mo (-1) 1000000)=true:=by simpa using hh
  refine bN (bG (bD (bI ?_)))
  have hE:xZ (prevOf l k) ⟨ke,on,dy,mo⟩=0:=by unfold xZ;simp [h2,hO,h4,h5,h6]
  refine dW bO1 U U (eI fE 0 U U U (bZ U (bE (bG (bD (bI (gN U U (bP U (bE ?_)))))))))
  exact cQ (k+1) ⟨by omega,by rw [cC.2,hat,if_pos hE]⟩ (by omega) ⟨(congrArg (fun z=>some (Value.string z)) (cO8 hx).symm),U,U,(cS (by omega)),trivial⟩ (fun _ hm=>hm.pick [] [] [0] U U)
 refine dE (bF (bF (bY (bD (bS (bZ U (bR (bM ?_))))))))
 exact bK U U fun wx hm=>⟨bW (by rw [cC.2,scanE_end _ _ _ _ (by omega)]),hm.g⟩
theorem dN8 (x:Ex):(qP x).length=4:=rfl
theorem dO8 {a b:Ex} {q:Nat} (ha:a.key.size<=1000000) (hb:b.key.size<=1000000):∀x∈ [a,b].take q,bF6 x:=fun x hx=>by
 have h:=List.mem_of_mem_take hx
 rcases List.mem_cons.1 h with rfl|h
 ·exact ha
 ·rw [List.mem_singleton.1 h];exact hb
theorem cT7 (w:World) (B sb m:Nat) (hS:eW 25 w B sb m) (hm:m<=100000000000):
 Calls prog 107 #[.pointer (some ⟨sb,0,none⟩)] w (fun e w'=>∃(A:Option Addr) (n c:Nat) (l:List Ex),e=.returned (.slice A n c)/\SlT qP 4 254 w' A n l/\(∀x∈l,bF6 x)/\n<=2/\n<=c/\eW 25 w' B sb (m+30)/\w.grownBy w' (some sb)):=by
 refine cV ⟨42,w,(some sb), []⟩ func107 U ntmps107 U (bH5 (X:= []) hS cY cZ) (bS (bZ U (bR (bS (bP U (jF 3 [.int .i64 0,.int .i64 5,.int .i64 100] fun g1=>dM (γ:=Int) (val:=fun v=> .int .i64 v) (φ:=fun v=>v∈([0,5,100]:List Int)) U pP U U U U (fun wx hm=>(eT [0,5,100] _ _ _ wx B sb _ hm.k (by omega) (by simp) (by simp) (hm.blkI 0 U) (hm.neRow 0 U U))) fun v2 hv2=>?_))))))
 have bv2:0<=v2/\v2<=100:=gQ hv2 (by decide)
 have bv20:=bv2.1
 have bv21:=bv2.2
 clear bv2
 refine bP U (jF 3 [.int .i64 0,.int .i64 2] fun g3=>dM (γ:=Int) (val:=fun v=> .int .i64 v) (φ:=fun v=>v∈([0,2]:List Int)) U pP U U U U (fun wx hm=>(eT [0,2] _ _ _ wx B sb _ hm.k (by omega) (by simp) (by simp) (hm.blkI 0 U) (hm.neRow 0 U U))) fun v4 hv4=>?_)
 have bv4:0<=v4/\v4<=2:=gQ hv4 (by decide)
 have bv40:=bv4.1
 have bv41:=bv4.2
 clear bv4
 refine bP U (jF 3 [.int .i64 (-1),.int .i64 0,.int .i64 7] fun g5=>dM (γ:=Int) (val:=fun v=> .int .i64 v) (φ:=fun v=>v∈([-1,0,7]:List Int)) U pP U U U U (fun wx hm=>(eT [-1,0,7] _ _ _ wx B sb _ hm.k (by omega) (by simp) (by simp) (hm.blkI 0 U) (hm.neRow 0 U U))) fun v6 hv6=>?_)
 have bv6: -1<=v6/\v6<=7:=gQ hv6 (by decide)
 have bv60:=bv6.1
 have bv61:=bv6.2
 clear bv6
 refine bB (dJ (cs:= [.string ⟨#[109,97,112]⟩,.int .i64 v2,.int .i64 v4,.int .i64 v6]) U (by kernel_rfl)) U (bP U (jF 3 [.int .i64 0,.int .i64 10] fun g7=>dM (γ:=Int) (val:=fun v=> .int .i64 v) (φ:=fun v=>v∈([0,10]:List Int)) U pP U U U U (fun wx hm=>(eT [0,10] _ _ _ wx B sb _ hm.k (by omega) (by simp) (by simp) (hm.blkI 0 U) (hm.neRow 0 U U))) fun v8 hv8=>?_))
 have bv8:0<=v8/\v8<=10:=gQ hv8 (by decide)
 have bv80:=bv8.1
 have bv81:=bv8.2
 clear bv8
 refine bP U (jF 3 [.int .i64 0,.int .i64 3,.int .i64 50] fun g9=>dM (γ:=Int) (val:=fun v=> .int .i64 v) (φ:=fun v=>v∈([0,3,50]:List Int)) U pP U U U U (fun wx hm=>(eT [0,3,50] _ _ _ wx B sb _ hm.k (by omega) (by simp) (by simp) (hm.blkI 0 U) (hm.neRow 0 U U))) fun v10 hv10=>?_)
 have bv10:0<=v10/\v10<=50:=gQ hv10 (by decide)
 have bv100:=bv10.1
 have bv101:=bv10.2
 clear bv10
 refine bP U (jF 3 [.int .i64 (-1),.int .i64 (-1),.int .i64 20,.int .i64 1000] fun g11=>dM (γ:=Int) (val:=fun v=> .int .i64 v) (φ:=fun v=>v∈([-1, -1,20,1000]:List Int)) U pP U U U U (fun wx hm=>(eT [-1, -1,20,1000] _ _ _ wx B sb _ hm.k (by omega) (by simp) (by simp) (hm.blkI 0 U) (hm.neRow 0 U U))) fun v12 hv12=>?_)
 have bv12: -1<=v12/\v12<=1000:=gQ hv12 (by decide)
 have bv120:=bv12.1
 have bv121:=bv12.2
 clear bv12
 refine bB (dJ (cs:= [.string ⟨#[115,101,97,116]⟩,.int .i64 v8,.int .i64 v10,.int .i64 v12]) U (by kernel_rfl)) U (jF 254 [.string ⟨#[109,97,112]⟩,.int .i64 v2,.int .i64 v4,.int .i64 v6,.string ⟨#[115,101,97,116]⟩,.int .i64 v8,.int .i64 v10,.int .i64 v12] fun g13=>bZ U (bR (bH (bS (bP U (dM (γ:=Bool) (val:=fun v=> .bool v) (φ:=fun v=>True) U xV U U U U (fun wx hm=>((jZ _ wx B sb _ hm.k (by omega) (by omega) (by omega)).mono fun _ _ ⟨v,he,hS,hg⟩=>⟨v,trivial,he,hS,hg⟩)) fun f14 _=>bR ?_))))))
 refine dC U (fun hh=>?_) (fun hh=>?_)
 ·have hf:f14=true:=by simpa using hh
  refine bI (bP U (bP U (jF 9 [.string ⟨#[]⟩,.string ⟨#[65]⟩,.string ⟨#[109,97,112]⟩,.string ⟨#[115,101,97,116]⟩] fun g15=>dM (γ:=ByteArray) (val:=fun v=> .string v) (φ:=fun v=>v∈([⟨#[]⟩,⟨#[65]⟩,⟨#[109,97,112]⟩,⟨#[115,101,97,116]⟩]:List ByteArray)) U rS U U U U (fun wx hm=>(gV [⟨#[]⟩,⟨#[65]⟩,⟨#[109,97,112]⟩,⟨#[115,101,97,116]⟩] _ _ _ wx B sb _ hm.k (by omega) (by simp) (by simp) (hm.blkI 0 U) (hm.neRow 0 U U))) fun s16 hs16=>?_)))
  have zs16:s16.size<=100:=kG hs16 (by decide)
  refine bP U (dM (γ:=Int) (val:=fun v=> .int .i64 v) (φ:=fun v=> -2000000000000000<=v/\v<=2000000000000000) U bO3 U U U U (fun wx hm=>(mI _ _ wx B sb _ hm.k (by omega) (by omega) (by omega) (by omega))) fun v17 hv17=>bP U (dM (γ:=Int) (val:=fun v=> .int .i64 v) (φ:=fun v=> -2000000000000000<=v/\v<=2000000000000000) U bO3 U U U U (fun wx hm=>(mI _ _ wx B sb _ hm.k (by omega) (by omega) (by omega) (by omega))) fun v18 hv18=>bB (dJ (cs:= [.string s16,.int .i64 v17,.int .i64 0,.int .i64 v18]) U (by kernel_rfl)) U (bB (bT (j:=1) cI2 U U (by decide)) U (jX (cs':= [.string ⟨#[109,97,112]⟩,.int .i64 v2,.int .i64 v4,.int .i64 v6,.string s16,.int .i64 v17,.int .i64 0,.int .i64 v18]) 1 cR8 U U U U (bR (bS (bP U (bP U (jF 3 [.int .i64 0,.int .i64 1,.int .i64 2,.int .i64 2] fun g19=>dM (γ:=Int) (val:=fun v=> .int .i64 v) (φ:=fun v=>v∈([0,1,2,2]:List Int)) U pP U U U U (fun wx hm=>(eT [0,1,2,2] _ _ _ wx B sb _ hm.k (by omega) (by simp) (by simp) (hm.blkI 0 U) (hm.neRow 0 U U))) fun vp hvp=>?_)))))))))
  have bvp:0<=vp/\vp<=2:=gQ hvp (by decide)
  have bvp0:=bvp.1
  have bvp1:=bvp.2
  clear bvp
  obtain ⟨q,rfl⟩:=Int.eq_ofNat_of_zero_le bvp0
  have hq2:q<=2:=by omega
  refine bB (uN (hi:=q) cI2 U U U (by omega)) U (bZ U (bR (bM ?_)))
  refine bK U U fun wx hm=>?_
  have hS:=SlT.ofBlk (l:=([⟨⟨#[109,97,112]⟩,v2,v4,v6⟩,⟨s16,v17,0,v18⟩]:List Ex)) dN8 (hm.blkI 2 rfl)
  exact ⟨_,q,2,([⟨⟨#[109,97,112]⟩,v2,v4,v6⟩,⟨s16,v17,0,v18⟩]:List Ex).take q,U,hS.takeT hq2,dO8 (show (⟨#[109,97,112]⟩:ByteArray).size<=1000000 by decide) (show (s16:ByteArray).size<=1000000 by omega),hq2,hq2,hm.k.more (by omega),hm.g⟩
 have hf:f14=false:=by simpa using hh
 refine bN (bD (bS (bP U (bP U (jF 3 [.int .i64 0,.int .i64 1,.int .i64 2,.int .i64 2] fun g20=>dM (γ:=Int) (val:=fun v=> .int .i64 v) (φ:=fun v=>v∈([0,1,2,2]:List Int)) U pP U U U U (fun wx hm=>(eT [0,1,2,2] _ _ _ wx B sb _ hm.k (by omega) (by simp) (by simp) (hm.blkI 0 U) (hm.neRow 0 U U))) fun vp hvp=>?_)))))
 have bvp:0<=vp/\vp<=2:=gQ hvp (by decide)
 have bvp0:=bvp.1
 have bvp1:=bvp.2
 clear bvp
 obtain ⟨q,rfl⟩:=Int.eq_ofNat_of_zero_le bvp0
 have hq2:q<=2:=by omega
 refine bB (uN (hi:=q) cI2 U U U (by omega)) U (bZ U (bR (bM ?_)))
 refine bK U U fun wx hm=>?_
 have hS:=SlT.ofBlk (l:=([⟨⟨#[109,97,112]⟩,v2,v4,v6⟩,⟨⟨#[115,101,97,116]⟩,v8,v10,v12⟩]:List Ex)) dN8 (hm.blkI 1 rfl)
 exact ⟨_,q,2,([⟨⟨#[109,97,112]⟩,v2,v4,v6⟩,⟨⟨#[115,101,97,116]⟩,v8,v10,v12⟩]:List Ex).take q,U,hS.takeT hq2,dO8 (show (⟨#[109,97,112]⟩:ByteArray).size<=1000000 by decide) (show (⟨#[115,101,97,116]⟩:ByteArray).size<=1000000 by decide),hq2,hq2,hm.k.more (by omega),hm.g⟩
structure Fe where
 a:ByteArray
 b:ByteArray
 cents:Int
def nF (x:Fe):List Value:= [.string x.a,.string x.b,.int .i64 x.cents]
theorem dW2 (x:Fe):(nF x).length=3:=rfl
def bN2 (x:Fe):Prop:=x.a.size<=1000000/\x.b.size<=1000000
def bZ8 (q r:Fe):Bool:=ltS q.a r.a||(zS q.a r.a&&ltS q.b r.b)
def xP (p:Option Fe) (x:Fe):Bool:=match p with
 |none=>false
 |some q=> !bZ8 q x
def mS (p:Option Fe) (x:Fe):Int:=
 if keyB x.a=false then 5 else if keyB x.b=false then 5 else if (x.a.toList==x.b.toList)=true then 14 else
 if xP p x=true then 7 else if inB x.cents 0 1000000=false then 1 else 0
def xL (l:List Fe):Int:=if 500 < l.length then 2 else scanE mS none l
theorem dO2 {a b:ByteArray}:(0<=mX a b)↔ltS a b=false:=by
 unfold mX ltS
 cases h:Go.Op.bytesLess a.toList b.toList
 ·by_cases e:(a.toList==b.toList)=true
  ·rw [e];simp
  ·have e:(a.toList==b.toList)=false:=by simpa using e
   rw [e];simp
 ·simp
theorem eQ5 (q r:Fe):0<=dI [mX q.a r.a,mX q.b r.b]↔bZ8 q r=false:=by
 unfold bZ8 zS
 rw [uV]
 by_cases h:mX q.a r.a=0
 ·rw [if_pos h]
  obtain ⟨h1,h2⟩:=qC.1 h
  rw [dO2,h2]
  unfold ltS
  rw [h2,rH];simp
 ·rw [if_neg h,dO2]
  have hne:(q.a.toList==r.a.toList)=false∨ltS q.a r.a=true:=by
   cases h1:ltS q.a r.a
   ·left
    cases h2:(q.a.toList==r.a.toList)
    ·rfl
    ·exact absurd (qC.2 ⟨h1,by simpa using h2⟩) h
   ·exact .inr U
  rcases hne with h1|h1
  ·rw [h1];simp
  ·rw [h1];simp
theorem dL3 (q r:Fe):(Go.Op.bytesLess r.a.toList q.a.toList||(r.a.toList==q.a.toList&&(Go.Op.bytesLess r.b.toList q.b.toList||r.b.toList==q.b.toList)))= !bZ8 q r:=by
 have key:∀x y:ByteArray,(Go.Op.bytesLess x.toList y.toList||x.toList==y.toList)= !ltS y x:=fun x y=>by
  unfold ltS
  cases h1:Go.Op.bytesLess x.toList y.toList
  ·cases h2:Go.Op.bytesLess y.toList x.toList
   ·rw [bI6 h1 h2];simp
   ·have e:=bK4 h2
    have e2:(x.toList==y.toList)=false:=by simpa using fun h=>e h.symm
    rw [e2];rfl
  ·rw [bP9 h1];rfl
 unfold bZ8 zS
 rw [key r.b q.b]
 unfold ltS
 cases h1:Go.Op.bytesLess r.a.toList q.a.toList
 ·cases h2:Go.Op.bytesLess q.a.toList r.a.toList
  ·rw [bI6 h1 h2];simp
  ·have e:=bK4 h2
   have e2:(r.a.toList==q.a.toList)=false:=by simpa using fun h=>e h.symm
   rw [e2];simp
 ·have e:=bK4 h1
  have e2:(q.a.toList==r.a.toList)=false:=by simpa using fun h=>e h.symm
  rw [bP9 h1,e2];simp
theorem eY4:dH7 prog 255=some (2,1):=by kernel_rfl
theorem cE2 (l:List Fe) (A:Option Addr) (n c:Nat) (w:World) (hl:SlT nF 3 258 w A n l) (hok:∀b∈l,bN2 b) (hn:n<=1000000):
 Calls prog 165 #[.slice A n c] w (nC w (xL l)):=by
 refine cV ⟨64,w,none, []⟩ func165 U ntmps165 U (gR (X:= [bU nF 3 258 w.heap.size none A n l]) (cG hl.old cY) (cH bU.lasts cZ)) (bS ?_)
 have hlen:=hl.len
 refine bZ U (bR (bH (bS (bP U (bB (dT cB0 U) U (bB (eJ U U) U (bR ?_)))))))
 refine cE U (fun h1=>?_) (fun h1=>?_)
 ·refine bS (bZ U (bR ?_))
  refine bM (bA ?_)
  exact bK U U fun wx hm=>⟨bW (by unfold xL;rw [if_pos (by omega)]),hm.g⟩
 refine bN (bD (bH (bS (bP U (bB (dT cB0 U) U (bP U (bR (bO ?_))))))))
 refine dX (γ:=Nat) (fun (k:Nat)=>k<=n/\xL l=scanE mS (prevOf l k) (l.drop k)) (fun (k:Nat)=> [(0,.slice A n c),(8,.slice A n c),(9,.int .i64 ((n:Nat):Int)),(10,.int .i64 ((k:Nat):Int))]) (fun (k:Nat)=>fun _=>True) (fun (k:Nat)=> []) (fun (k:Nat)=> []) (fun (k:Nat)=> [bU nF 3 258 w.heap.size none A n l]) (fun (k:Nat)=>n - k) 0 ⟨Nat.zero_le _,by unfold xL;rw [if_neg (by omega)];rfl⟩ ⟨U,U,U,U,trivial⟩ (fun _ hm=>hm.pick [] [] [0] U U) ?_
 intro k cC
 replace cC:k<=n/\xL l=scanE mS (prevOf l k) (l.drop k):=cC
 refine bS (bB (dD U U) U (bR (bH ?_)))
 refine cE U (fun hk=>?_) (fun hk=>?_)
 ·refine bN (bD (bH (bO (bS ?_))))
  obtain ⟨b,off,hA,_,_⟩:=hl.get (by omega)
  subst hA
  obtain ⟨x,hx⟩:∃x,l[k]?=some x:=⟨_,fJ5 (by omega)⟩
  obtain ⟨ka,kb,ce⟩:=x
  have hat:=scanE_at mS l k _ hx
  obtain ⟨hs1,hs2⟩:=hok _ (fK5 hx)
  have hs1:ka.size<=1000000:=hs1
  have hs2:kb.size<=1000000:=hs2
  refine bP U (bB (bT (j:=k) cB0 U U (by omega)) U (bB (dO (vs:= [.string ka,.string kb,.int .i64 ce]) dX3 U (fun _ hm=>(hm.fact 0 U).1) hx U U) U (dH eA6 U fun g1=>bZ U (jX (cs':= [.string ka,.string kb,.int .i64 ce]) 0 dX3 U U U U (bR (bO (bS (dW uR U U (eI fE 0 U U U (dA U bP2 U U (fun wx hm=>(isKey_any _ wx (by omega))) (bB (cF U) U (bP U ?_))))))))))))
  rcases Bool.eq_false_or_eq_true (!(keyB ka)) with h2|h2
  ·refine bL 20 U (fH5 h2) ?_
   have h2:keyB ka=false:=by simpa using h2
   refine dY U (dY U (dY U (dY U (mQ U U (bZ U (bR (kQ U (bS (bZ U (bR (bM (bC (bC (bA (bA (bC (bA ?_)))))))))))))))))
   have hE:mS (prevOf l k) ⟨ka,kb,ce⟩=5:=by unfold mS xP;simp [h2]
   exact bK U U fun wx hm=>⟨bW (by rw [cC.2,hat,if_neg (by rw [hE];decide),hE]),hm.g⟩
  refine bL 20 U (fH5 h2) ?_
  have h2:keyB ka=true:=by simpa using h2
  refine eG U (dW wP U U (eG U (eI fE 0 U U U (eG U (dA U bP2 U U (fun wx hm=>(isKey_any _ wx (by omega))) (eG U (bB (cF U) U (nS U U (bZ U (bR ?_))))))))))
  refine dC U (fun hh=>?_) (fun hh=>?_)
  ·have h3:(keyB kb)=false:=by simpa using hh
   refine bS ?_
   have h3:keyB kb=false:=by simpa using h3
   refine bZ U (bR (bM (bC (bC (bA (bA (bC (bA ?_))))))))
   have hE:mS (prevOf l k) ⟨ka,kb,ce⟩=5:=by unfold mS xP;simp [h2,h3]
   exact bK U U fun wx hm=>⟨bW (by rw [cC.2,hat,if_neg (by rw [hE];decide),hE]),hm.g⟩
  have h3:(keyB kb)=true:=by simpa using hh
  refine bS ?_
  have h3:keyB kb=true:=by simpa using h3
  refine dW uR U U (eI fE 0 U U U (dW wP U U (eI fE 0 U U U (bB (eR U U) U (bZ U (bR ?_))))))
  refine dC U (fun hh=>?_) (fun hh=>?_)
  ·have h4:(ka.toList==kb.toList)=true:=by simpa using hh
   refine bS (bZ U (bR (bM (bC (bC (bA (bA (bC (bA ?_)))))))))
   have hE:mS (prevOf l k) ⟨ka,kb,ce⟩=14:=by unfold mS xP;simp [h2,h3,(beq_iff_eq.1 h4)]
   exact bK U U fun wx hm=>⟨bW (by rw [cC.2,hat,if_neg (by rw [hE];decide),hE]),hm.g⟩
  have h4:(ka.toList==kb.toList)=false:=by simpa using hh
  refine bH ?_
  have h4:¬ka.toList=kb.toList:=by simpa using h4
  by_cases hk0:k=0
  ·refine gd (fun wz=>True) mixed (fun _ _=>trivial) fun z=>?_
   refine wq 0 U (bJ U) (wq 1 U (eJ U U) (dG 34 (v':= .bool false) U (fH5 (decide_eq_false (by omega))) (wq 2 U (bJ U) (fC 3 U (fC 4 U (fC 5 U (fC 6 U (fC 7 U (fC 8 U (fC 9 U (fC 10 U (fC 11 U (fC 12 U (fC 13 U (fC 14 U (fC 15 U (fC 16 U (fC 17 U (fC 18 U (fC 19 U (fC 20 U (fC 21 U (fC 22 U (fC 23 U (wq 24 U (fN U U) (wq 25 U (cU U) (jH ?_)))))))))))))))))))))))))))
   refine bD (jU U (bS (dW bV4 U U (eI fF 0 U U U (dA U qB U U (fun wx hm=>(in_any _ _ _ wx)) (bB (cF U) U (bZ U (bR ?_))))))))
   refine dC U (fun hh=>?_) (fun hh=>?_)
   ·have h9:(inB ce 0 1000000)=false:=by simpa using hh
    refine bS (bZ U (bR (bM (bC (bC (bA (bA (bC (bA ?_)))))))))
    have hE:mS (prevOf l k) ⟨ka,kb,ce⟩=1:=by unfold mS xP;rw [bD2 hk0];simp [h2,h3,h4,h9]
    exact bK U U fun wx hm=>⟨bW (by rw [cC.2,hat,if_neg (by rw [hE];decide),hE]),hm.g⟩
   have h9:(inB ce 0 1000000)=true:=by simpa using hh
   refine bN (bG (bG (bD (bI ?_))))
   have hE:mS (prevOf l k) ⟨ka,kb,ce⟩=0:=by unfold mS xP;rw [bD2 hk0];simp [h2,h3,h4,h9]
   refine gN U U (bP U (bE ?_))
   exact cQ (k+1) ⟨by omega,by rw [cC.2,hat,if_pos hE]⟩ (by omega) ⟨U,U,U,(cS (by omega)),trivial⟩ (fun _ hm=>hm.pick [] [] [0] U U)
  obtain ⟨y,hy⟩:∃x,l[k - 1]?=some x:=⟨_,fJ5 (by omega)⟩
  obtain ⟨p0,p1,p2⟩:=y
  have hpv:=cH6 hk0 hy
  refine gd (fun wz=>Blk wz g1 258 [.string ka,.string kb,.int .i64 ce]/\(bU nF 3 258 w.heap.size none (some ⟨b,off,none⟩) n l) wz/\True) mixed (fun _ hm=>⟨hm.bl 0,hm.fa 0,trivial⟩) fun z=>wq 0 U (bJ U) (wq 1 U (eJ U U) (dG 34 (v':= .bool true) U (fH5 (decide_eq_true (by omega))) (wq 2 U (bJ U) (fI 3 U (bJ U) (fI 4 U (bJ U) (fI 5 U (ov_sub U U (by omega) (by omega)) (dG 38 (v':= .int .i64 ((k - 1:Nat):Int)) U (fI5 (by omega)) (fI 6 U (bT (j:=k - 1) cB0 U U (by omega)) (fI 7 U (bQ uR U U) (fI 8 U (dL (k:=0) (v:= .string p0) fE U (fun _ hm=>(hm.2.1).1) hy U U) (fI 9 U (bQ uR U U) (fI 10 U (cN fE U (fun _ hm=>hm.1) U) (fI 12 U (bJ U) (fI 13 U (bJ U) (fI 14 U (ov_sub U U (by omega) (by omega)) (dG 47 (v':= .int .i64 ((k - 1:Nat):Int)) U (fI5 (by omega)) (fI 15 U (bT (j:=k - 1) cB0 U U (by omega)) (fI 16 U (bQ wP U U) (fI 17 U (dL (k:=1) (v:= .string p1) fE U (fun _ hm=>(hm.2.1).1) hy U U) (fI 18 U (bQ wP U U) (fI 19 U (cN fE U (fun _ hm=>hm.1) U) (eC 11 U (eG U (cL U cV9 U U (fun wx hm=>(rB _ _ wx)) (bE (nw 26 1048575 (fun _ hm=>⟨hm.bl 0,hm.fa 0,trivial⟩) fun z=>eC 20 U (eG U ?_)))))))))))))))))))))))))))
  refine cL U cV9 U U (fun wx hm=>(rB _ _ wx)) (bE (nw 26 2097151 (fun _ hm=>⟨hm.bl 0,hm.fa 0,trivial⟩) fun z=>eC 21 U (eG U (jF 3 [.int .i64 (mX p0 ka),.int .i64 (mX p1 kb)] fun g2=>bE (nw 26 4194303 (fun _ hm=>⟨hm.bl 1,hm.fa 0,trivial⟩) fun z=>eC 22 U (eG U (cL U dS7 U U (fun wx hm=>(cE6 _ _ _ _ _ wx (hm.blkI 0 U))) (bE (nw 26 8388607 (fun _ hm=>⟨hm.bl 1,hm.fa 0,trivial⟩) fun z=>fI 23 U (mO U U) (wq 24 U (fD U U) (wq 25 U (cU U) (jH (bD ?_)))))))))))))
  refine cE U (fun h8=>?_) (fun h8=>?_)
  ·refine bS ?_
   have h8:bZ8 ⟨p0,p1,p2⟩ ⟨ka,kb,ce⟩=false:=(eQ5 ⟨p0,p1,p2⟩ ⟨ka,kb,ce⟩).1 h8
   refine bZ U (bR (bM (bC (bC (bA (bA (bC (bA ?_))))))))
   have hE:mS (prevOf l k) ⟨ka,kb,ce⟩=7:=by unfold mS xP;rw [hpv];simp [h2,h3,h4,h8]
   exact bK U U fun wx hm=>⟨bW (by rw [cC.2,hat,if_neg (by rw [hE];decide),hE]),hm.g⟩
  refine bS ?_
  have h8:bZ8 ⟨p0,p1,p2⟩ ⟨ka,kb,ce⟩=true:=by
   cases h:bZ8 ⟨p0,p1,p2⟩ ⟨ka,kb,ce⟩
   ·exact absurd ((eQ5 ⟨p0,p1,p2⟩ ⟨ka,kb,ce⟩).2 h) h8
   rfl
  refine dW bV4 U U (eI fF 1 U U U (dA U qB U U (fun wx hm=>(in_any _ _ _ wx)) (bB (cF U) U (bZ U (bR ?_)))))
  refine dC U (fun hh=>?_) (fun hh=>?_)
  ·have h9:(inB ce 0 1000000)=false:=by simpa using hh
   refine bS (bZ U (bR (bM (bC (bC (bA (bA (bC (bA ?_)))))))))
   have hE:mS (prevOf l k) ⟨ka,kb,ce⟩=1:=by unfold mS xP;rw [hpv];simp [h2,h3,h4,h8,h9]
   exact bK U U fun wx hm=>⟨bW (by rw [cC.2,hat,if_neg (by rw [hE];decide),hE]),hm.g⟩
  have h9:(inB ce 0 1000000)=true:=by simpa using hh
  refine bN (bG (bG (bD (bI ?_))))
  have hE:mS (prevOf l k) ⟨ka,kb,ce⟩=0:=by unfold mS xP;rw [hpv];simp [h2,h3,h4,h8,h9]
  refine gN U U (bP U (bE ?_))
  exact cQ (k+1) ⟨by omega,by rw [cC.2,hat,if_pos hE]⟩ (by omega) ⟨U,U,U,(cS (by omega)),trivial⟩ (fun _ hm=>hm.pick [] [] [0] U U)
 refine dE (bF (bF (bY (bD (bS (bZ U (bR (bM ?_))))))))
 exact bK U U fun wx hm=>⟨bW (by rw [cC.2,scanE_end _ _ _ _ (by omega)]),hm.g⟩
theorem cL2 (l:List Fe) (A:Option Addr) (n c:Nat) (w:World) (hl:SlT nF 3 258 w A n l) (hok:∀b∈l,bN2 b) (hn:n<=1000000):
 Calls prog 113 #[.slice A n c] w (nC w (xL l)):=by
 refine cV ⟨74,w,none, []⟩ func113 U ntmps113 U (gR (X:= [bU nF 3 258 w.heap.size none A n l]) (cG hl.old cY) (cH bU.lasts cZ)) (bS ?_)
 have hlen:=hl.len
 refine bZ U (bR (bH (bS (bP U (bB (dT cB0 U) U (bB (eJ U U) U (bR ?_)))))))
 refine cE U (fun h1=>?_) (fun h1=>?_)
 ·refine bS (bZ U (bR ?_))
  refine bM (bA ?_)
  exact bK U U fun wx hm=>⟨bW (by unfold xL;rw [if_pos (by omega)]),hm.g⟩
 refine bN (bD (bH (bS (bP U (bB (dT cB0 U) U (bP U (bR (bO ?_))))))))
 refine dX (γ:=Nat) (fun (k:Nat)=>k<=n/\xL l=scanE mS (prevOf l k) (l.drop k)) (fun (k:Nat)=> [(0,.slice A n c),(8,.slice A n c),(9,.int .i64 ((n:Nat):Int)),(10,.int .i64 ((k:Nat):Int))]) (fun (k:Nat)=>fun _=>True) (fun (k:Nat)=> []) (fun (k:Nat)=> []) (fun (k:Nat)=> [bU nF 3 258 w.heap.size none A n l]) (fun (k:Nat)=>n - k) 0 ⟨Nat.zero_le _,by unfold xL;rw [if_neg (by omega)];rfl⟩ ⟨U,U,U,U,trivial⟩ (fun _ hm=>hm.pick [] [] [0] U U) ?_
 intro k cC
 replace cC:k<=n/\xL l=scanE mS (prevOf l k) (l.drop k):=cC
 refine bS (bB (dD U U) U (bR (bH ?_)))
 refine cE U (fun hk=>?_) (fun hk=>?_)
 ·refine bN (bD (bH (bO (bS ?_))))
  obtain ⟨b,off,hA,_,_⟩:=hl.get (by omega)
  subst hA
  obtain ⟨x,hx⟩:∃x,l[k]?=some x:=⟨_,fJ5 (by omega)⟩
  obtain ⟨ka,kb,ce⟩:=x
  have hat:=scanE_at mS l k _ hx
  obtain ⟨hs1,hs2⟩:=hok _ (fK5 hx)
  have hs1:ka.size<=1000000:=hs1
  have hs2:kb.size<=1000000:=hs2
  refine bP U (bB (bT (j:=k) cB0 U U (by omega)) U (bB (dO (vs:= [.string ka,.string kb,.int .i64 ce]) dX3 U (fun _ hm=>(hm.fact 0 U).1) hx U U) U (dH eA6 U fun g1=>bZ U (jX (cs':= [.string ka,.string kb,.int .i64 ce]) 0 dX3 U U U U (bR (bO (bS (dW uR U U (eI fE 0 U U U (cL U bW7 U U (fun wx hm=>(wQ _ wx (by omega))) (bB (cF U) U (bP U ?_))))))))))))
  rcases Bool.eq_false_or_eq_true (!(keyB ka)) with h2|h2
  ·refine bL 20 U (fH5 h2) ?_
   have h2:keyB ka=false:=by simpa using h2
   refine dY U (dY U (dY U (dY U (mQ U U (bZ U (bR (kQ U (bS (bZ U (bR (bM (bC (bC (bA (bA (bC (bA ?_)))))))))))))))))
   have hE:mS (prevOf l k) ⟨ka,kb,ce⟩=5:=by unfold mS xP;simp [h2]
   exact bK U U fun wx hm=>⟨bW (by rw [cC.2,hat,if_neg (by rw [hE];decide),hE]),hm.g⟩
  refine bL 20 U (fH5 h2) ?_
  have h2:keyB ka=true:=by simpa using h2
  refine eG U (dW wP U U (eG U (eI fE 0 U U U (eG U (cL U bW7 U U (fun wx hm=>(wQ _ wx (by omega))) (eG U (bB (cF U) U (nS U U (bZ U (bR ?_))))))))))
  refine dC U (fun hh=>?_) (fun hh=>?_)
  ·have h3:(keyB kb)=false:=by simpa using hh
   refine bS ?_
   have h3:keyB kb=false:=by simpa using h3
   refine bZ U (bR (bM (bC (bC (bA (bA (bC (bA ?_))))))))
   have hE:mS (prevOf l k) ⟨ka,kb,ce⟩=5:=by unfold mS xP;simp [h2,h3]
   exact bK U U fun wx hm=>⟨bW (by rw [cC.2,hat,if_neg (by rw [hE];decide),hE]),hm.g⟩
  have h3:(keyB kb)=true:=by simpa using hh
  refine bS ?_
  have h3:keyB kb=true:=by simpa using h3
  refine dW uR U U (eI fE 0 U U U (dW wP U U (eI fE 0 U U U (bB (eR U U) U (bZ U (bR ?_))))))
  refine dC U (fun hh=>?_) (fun hh=>?_)
  ·have h4:(ka.toList==kb.toList)=true:=by simpa using hh
   refine bS (bZ U (bR (bM (bC (bC (bA (bA (bC (bA ?_)))))))))
   have hE:mS (prevOf l k) ⟨ka,kb,ce⟩=14:=by unfold mS xP;simp [h2,h3,(beq_iff_eq.1 h4)]
   exact bK U U fun wx hm=>⟨bW (by rw [cC.2,hat,if_neg (by rw [hE];decide),hE]),hm.g⟩
  have h4:(ka.toList==kb.toList)=false:=by simpa using hh
  refine bH ?_
  have h4:¬ka.toList=kb.toList:=by simpa using h4
  by_cases hk0:k=0
  ·refine gd (fun wz=>True) mixed (fun _ _=>trivial) fun z=>?_
   refine wq 0 U (bJ U) (wq 1 U (eJ U U) (dG 34 (v':= .bool false) U (fH5 (decide_eq_false (by omega))) (wq 2 U (bJ U) (fC 3 U (fC 4 U (fC 5 U (fC 6 U (fC 7 U (fC 8 U (fC 9 U (fC 10 U (fC 11 U (fC 12 U (rQ 13 U (rQ 14 U (rQ 15 U (rQ 16 U (rQ 17 U (rQ 18 U (rQ 19 U (rQ 20 U (rQ 21 U (rQ 22 U (rQ 23 U (rQ 24 U (rQ 25 U (rQ 26 U (rQ 27 U (rQ 28 U ?_)))))))))))))))))))))))))))))
   refine rQ 29 U (rQ 30 U (rQ 31 U (rQ 32 U (fC 33 U (wq 34 U (fN U U) (wq 35 U (cU U) (jH (bD (jU U (bS (dW bV4 U U (eI fF 0 U U U (dA U wL U U (fun wx hm=>(kH _ _ _ wx)) (bB (cF U) U (bZ U (bR ?_))))))))))))))))
   refine dC U (fun hh=>?_) (fun hh=>?_)
   ·have h9:(inB ce 0 1000000)=false:=by simpa using hh
    refine bS (bZ U (bR (bM (bC (bC (bA (bA (bC (bA ?_)))))))))
    have hE:mS (prevOf l k) ⟨ka,kb,ce⟩=1:=by unfold mS xP;rw [bD2 hk0];simp [h2,h3,h4,h9]
    exact bK U U fun wx hm=>⟨bW (by rw [cC.2,hat,if_neg (by rw [hE];decide),hE]),hm.g⟩
   have h9:(inB ce 0 1000000)=true:=by simpa using hh
   refine bN (bG (bG (bD (bI ?_))))
   have hE:mS (prevOf l k) ⟨ka,kb,ce⟩=0:=by unfold mS xP;rw [bD2 hk0];simp [h2,h3,h4,h9]
   refine gN U U (bP U (bE ?_))
   exact cQ (k+1) ⟨by omega,by rw [cC.2,hat,if_pos hE]⟩ (by omega) ⟨U,U,U,(cS (by omega)),trivial⟩ (fun _ hm=>hm.pick [] [] [0] U U)
  obtain ⟨y,hy⟩:∃x,l[k - 1]?=some x:=⟨_,fJ5 (by omega)⟩
  obtain ⟨p0,p1,p2⟩:=y
  have hpv:=cH6 hk0 hy
  refine gd (fun wz=>Blk wz g1 258 [.string ka,.string kb,.int .i64 ce]/\(bU nF 3 258 w.heap.size none (some ⟨b,off,none⟩) n l) wz/\True) mixed (fun _ hm=>⟨hm.bl 0,hm.fa 0,trivial⟩) fun z=>wq 0 U (bJ U) (wq 1 U (eJ U U) (dG 34 (v':= .bool true) U (fH5 (decide_eq_true (by omega))) (wq 2 U (bJ U) (fI 3 U (bQ uR U U) (fI 4 U (cN fE U (fun _ hm=>hm.1) U) (fI 5 U (bJ U) (fI 6 U (bJ U) (fI 7 U (ov_sub U U (by omega) (by omega)) (dG 40 (v':= .int .i64 ((k - 1:Nat):Int)) U (fI5 (by omega)) (fI 8 U (bT (j:=k - 1) cB0 U U (by omega)) (fI 9 U (bQ uR U U) (fI 10 U (dL (k:=0) (v:= .string p0) fE U (fun _ hm=>(hm.2.1).1) hy U U) (fI 11 U (cG6 U U) (fI 12 U (bJ U) ?_))))))))))))))
  rcases Bool.eq_false_or_eq_true (Op.bytesLess ka.toList p0.toList) with h5|h5
  ·refine dG 45 U (fH5 h5) ?_
   have h8:bZ8 ⟨p0,p1,p2⟩ ⟨ka,kb,ce⟩=false:=by have h:=dL3 ⟨p0,p1,p2⟩ ⟨ka,kb,ce⟩;simp only at h;rw [h5] at h;simpa using h.symm
   refine fC 13 U (fC 14 U (fC 15 U (fC 16 U (fC 17 U (fC 18 U (fC 19 U (fC 20 U (fC 21 U (fC 22 U (rQ 23 U (rQ 24 U (rQ 25 U (rQ 26 U (rQ 27 U (rQ 28 U (rQ 29 U (rQ 30 U (rQ 31 U (fC 32 U (fI 33 U (fD U U) (wq 34 U (fD U U) (wq 35 U (cU U) (jH (bD (kQ U (bS (bZ U (bR (bM ?_)))))))))))))))))))))))))))))
   refine bC (bC (bA (bA (bC (bA ?_)))))
   have hE:mS (prevOf l k) ⟨ka,kb,ce⟩=7:=by unfold mS xP;rw [hpv];simp [h2,h3,h4,h8]
   exact bK U U fun wx hm=>⟨bW (by rw [cC.2,hat,if_neg (by rw [hE];decide),hE]),hm.g⟩
  refine dG 45 U (fH5 h5) (fI 13 U (bQ uR U U) (fI 14 U (cN fE U (fun _ hm=>hm.1) U) (fI 15 U (bJ U) (fI 16 U (bJ U) (fI 17 U (ov_sub U U (by omega) (by omega)) (dG 50 (v':= .int .i64 ((k - 1:Nat):Int)) U (fI5 (by omega)) (fI 18 U (bT (j:=k - 1) cB0 U U (by omega)) (fI 19 U (bQ uR U U) (fI 20 U (dL (k:=0) (v:= .string p0) fE U (fun _ hm=>(hm.2.1).1) hy U U) (fI 21 U (eR U U) (fI 22 U (bJ U) ?_)))))))))))
  rcases Bool.eq_false_or_eq_true (ka.toList==p0.toList) with h6|h6
  ·refine dG 55 U (fH5 h6) ?_
   refine fI 23 U (bQ wP U U) (fI 24 U (cN fE U (fun _ hm=>hm.1) U) (fI 25 U (bJ U) (fI 26 U (bJ U) (fI 27 U (ov_sub U U (by omega) (by omega)) (dG 60 (v':= .int .i64 ((k - 1:Nat):Int)) U (fI5 (by omega)) (fI 28 U (bT (j:=k - 1) cB0 U U (by omega)) (fI 29 U (bQ wP U U) (fI 30 U (dL (k:=1) (v:= .string p1) fE U (fun _ hm=>(hm.2.1).1) hy U U) (fI 31 U (wS U U) (fI 32 U (fD U U) (fI 33 U (fN U U) (wq 34 U (fD U U) (wq 35 U (cU U) (jH (bD ?_)))))))))))))))
   refine dC U (fun hh=>?_) (fun hh=>?_)
   ·have h7:(Op.bytesLess kb.toList p1.toList||kb.toList==p1.toList)=true:=by simpa using hh
    refine bS ?_
    have h8:bZ8 ⟨p0,p1,p2⟩ ⟨ka,kb,ce⟩=false:=by have h:=dL3 ⟨p0,p1,p2⟩ ⟨ka,kb,ce⟩;simp only at h;rw [h5,h6,h7] at h;simpa using h.symm
    refine bZ U (bR (bM (bC (bC (bA (bA (bC (bA ?_))))))))
    have hE:mS (prevOf l k) ⟨ka,kb,ce⟩=7:=by unfold mS xP;rw [hpv];simp [h2,h3,h4,h8]
    exact bK U U fun wx hm=>⟨bW (by rw [cC.2,hat,if_neg (by rw [hE];decide),hE]),hm.g⟩
   have h7:(Op.bytesLess kb.toList p1.toList||kb.toList==p1.toList)=false:=by simpa using hh
   refine bS ?_
   have h8:bZ8 ⟨p0,p1,p2⟩ ⟨ka,kb,ce⟩=true:=by have h:=dL3 ⟨p0,p1,p2⟩ ⟨ka,kb,ce⟩;simp only at h;rw [h5,h6,h7] at h;simpa using h.symm
   refine dW bV4 U U (eI fF 0 U U U (dA U wL U U (fun wx hm=>(kH _ _ _ wx)) (bB (cF U) U (bZ U (bR ?_)))))
   refine dC U (fun hh=>?_) (fun hh=>?_)
   ·have h9:(inB ce 0 1000000)=false:=by simpa using hh
    refine bS (bZ U (bR (bM (bC (bC (bA (bA (bC (bA ?_)))))))))
    have hE:mS (prevOf l k) ⟨ka,kb,ce⟩=1:=by unfold mS xP;rw [hpv];simp [h2,h3,h4,h8,h9]
    exact bK U U fun wx hm=>⟨bW (by rw [cC.2,hat,if_neg (by rw [hE];decide),hE]),hm.g⟩
   have h9:(inB ce 0 1000000)=true:=by simpa using hh
   refine bN (bG (bG (bD (bI ?_))))
   have hE:mS (prevOf l k) ⟨ka,kb,ce⟩=0:=by unfold mS xP;rw [hpv];simp [h2,h3,h4,h8,h9]
   refine gN U U (bP U (bE ?_))
   exact cQ (k+1) ⟨by omega,by rw [cC.2,hat,if_pos hE]⟩ (by omega) ⟨U,U,U,(cS (by omega)),trivial⟩ (fun _ hm=>hm.pick [] [] [0] U U)
  refine dG 55 U (fH5 h6) ?_
  have h8:bZ8 ⟨p0,p1,p2⟩ ⟨ka,kb,ce⟩=true:=by have h:=dL3 ⟨p0,p1,p2⟩ ⟨ka,kb,ce⟩;simp only at h;rw [h5,h6] at h;simpa using h.symm
  refine fC 23 U (fC 24 U (fC 25 U (fC 26 U (fC 27 U (fC 28 U (fC 29 U (fC 30 U (fC 31 U (fI 32 U (fN U U) (fI 33 U (fN U U) (wq 34 U (fD U U) (wq 35 U (cU U) (jH (bD (jU U (bS (dW bV4 U U (eI fF 0 U U U (dA U wL U U (fun wx hm=>(kH _ _ _ wx)) (bB (cF U) U (bZ U (bR ?_))))))))))))))))))))))
  refine dC U (fun hh=>?_) (fun hh=>?_)
  ·have h9:(inB ce 0 1000000)=false:=by simpa using hh
   refine bS (bZ U (bR (bM (bC (bC (bA (bA (bC (bA ?_)))))))))
   have hE:mS (prevOf l k) ⟨ka,kb,ce⟩=1:=by unfold mS xP;rw [hpv];simp [h2,h3,h4,h8,h9]
   exact bK U U fun wx hm=>⟨bW (by rw [cC.2,hat,if_neg (by rw [hE];decide),hE]),hm.g⟩
  have h9:(inB ce 0 1000000)=true:=by simpa using hh
  refine bN (bG (bG (bD (bI ?_))))
  have hE:mS (prevOf l k) ⟨ka,kb,ce⟩=0:=by unfold mS xP;rw [hpv];simp [h2,h3,h4,h8,h9]
  refine gN U U (bP U (bE ?_))
  exact cQ (k+1) ⟨by omega,by rw [cC.2,hat,if_pos hE]⟩ (by omega) ⟨U,U,U,(cS (by omega)),trivial⟩ (fun _ hm=>hm.pick [] [] [0] U U)
 refine dE (bF (bF (bY (bD (bS (bZ U (bR (bM ?_))))))))
 exact bK U U fun wx hm=>⟨bW (by rw [cC.2,scanE_end _ _ _ _ (by omega)]),hm.g⟩
def fJ2 (x:ByteArray×ByteArray):List Value:= [.string x.1,.string x.2]
theorem eR7 (x:ByteArray×ByteArray):(fJ2 x).length=2:=rfl
theorem fK2 {x:ByteArray×ByteArray} (h:x∈([(⟨#[115,49]⟩,⟨#[115,50]⟩),(⟨#[115,49]⟩,⟨#[115,51]⟩),(⟨#[115,50]⟩,⟨#[115,49]⟩),(⟨#[115,51]⟩,⟨#[115,50]⟩)]:List (ByteArray×ByteArray))):x.1.size<=100/\x.2.size<=100:=by
 have key:∀y∈([(⟨#[115,49]⟩,⟨#[115,50]⟩),(⟨#[115,49]⟩,⟨#[115,51]⟩),(⟨#[115,50]⟩,⟨#[115,49]⟩),(⟨#[115,51]⟩,⟨#[115,50]⟩)]:List (ByteArray×ByteArray)),y.1.size<=100/\y.2.size<=100:=by decide
 exact key x h
theorem dV2 {l:List Fe} {x:Fe} (h:∀y∈l,bN2 y) (h1:x.a.size<=1000000) (h2:x.b.size<=1000000):∀y∈l++ [x],bN2 y:=fun y hy=>by
 rcases List.mem_append.1 hy with hy|hy
 ·exact h y hy
 ·rw [List.mem_singleton.1 hy];exact ⟨h1,h2⟩
theorem dD5 (w:World) (B sb m:Nat) (hS:eW 25 w B sb m) (hm:m<=100000000000):
 Calls prog 108 #[.pointer (some ⟨sb,0,none⟩)] w (fun e w'=>∃(A:Option Addr) (n c:Nat) (l:List Fe),e=.returned (.slice A n c)/\SlT nF 3 258 w' A n l/\(∀x∈l,bN2 x)/\n<=5/\n<=c/\eW 25 w' B sb (m+30)/\w.grownBy w' (some sb)):=by
 refine cV ⟨46,w,(some sb), []⟩ func108 U ntmps108 U (bH5 (X:= []) hS cY cZ) (bS (bZ U (bR (bS (bZ U (bR (bH (bS (bB (dJ (cs:= [.string ⟨#[115,49]⟩,.string ⟨#[115,50]⟩]) U (by kernel_rfl)) U (bB (dJ (cs:= [.string ⟨#[115,49]⟩,.string ⟨#[115,51]⟩]) U (by kernel_rfl)) U (bB (dJ (cs:= [.string ⟨#[115,50]⟩,.string ⟨#[115,49]⟩]) U (by kernel_rfl)) U (bB (dJ (cs:= [.string ⟨#[115,51]⟩,.string ⟨#[115,50]⟩]) U (by kernel_rfl)) U (jF 255 [.string ⟨#[115,49]⟩,.string ⟨#[115,50]⟩,.string ⟨#[115,49]⟩,.string ⟨#[115,51]⟩,.string ⟨#[115,50]⟩,.string ⟨#[115,49]⟩,.string ⟨#[115,51]⟩,.string ⟨#[115,50]⟩] fun g1=>bB (dT eN5 U) U (bL 11 (v':= .int .i64 4) U U (bP U (bR (bO ?_)))))))))))))))))
 refine rK 258 3 ?_
 refine dX (γ:=Nat×Nat×Value×List Fe×List Value) (fun g=>g.1<=4/\g.2.1<=g.1/\g.2.2.2.1.length=g.2.1/\(∀x∈g.2.2.2.1,bN2 x)/\g.2.2.2.2=g.2.2.2.1.flatMap nF) (fun g=> [(0,.pointer (some ⟨sb,0,none⟩)),(2,.slice none 0 0),(3,g.2.2.1),(10,.slice (some ⟨g1,0,none⟩) 4 4),(11,.int .i64 4),(12,.int .i64 ((g.1:Nat):Int))]) (fun g=>fun w=>eW 25 w B sb (m+2 *g.1)) (fun g=> [(g1,255, [.string ⟨#[115,49]⟩,.string ⟨#[115,50]⟩,.string ⟨#[115,49]⟩,.string ⟨#[115,51]⟩,.string ⟨#[115,50]⟩,.string ⟨#[115,49]⟩,.string ⟨#[115,51]⟩,.string ⟨#[115,50]⟩])]) (fun g=> [⟨g.2.2.1,258,3,g.2.1,g.2.2.2.2⟩]) (fun g=> []) (fun g=>4 - g.1) (0,0,.slice none 0 0, [], []) ⟨Nat.zero_le _,Nat.zero_le _,U,(fun _ h=>by cases h),U⟩ ⟨U,U,U,U,U,U,trivial⟩ (fun _ hm=>(hm.more U (by first|omega|(dsimp only;omega))).pick [0] [0] [] U U) ?_
 rintro ⟨k,n,v,l,xs⟩ cC
 replace cC:k<=4/\n<=k/\l.length=n/\(∀x∈l,bN2 x)/\xs=l.flatMap nF:=cC
 dsimp only
 refine bS ?_
 obtain ⟨hi0,hi1,vO,hi3,rfl⟩:=cC
 refine bB (dD U U) U (bR (bH ?_))
 refine cE U (fun hk=>?_) (fun hk=>?_)
 ·refine bN (bD (bH (bO (bS ?_))))
  obtain ⟨nm,hx⟩:∃x,([(⟨#[115,49]⟩,⟨#[115,50]⟩),(⟨#[115,49]⟩,⟨#[115,51]⟩),(⟨#[115,50]⟩,⟨#[115,49]⟩),(⟨#[115,51]⟩,⟨#[115,50]⟩)]:List (ByteArray×ByteArray))[k]?=some x:=⟨_,fJ5 (by simp;omega)⟩
  obtain ⟨na,nb⟩:=nm
  obtain ⟨hna,hnb⟩:=fK2 (fK5 hx)
  dsimp only at hna hnb
  refine bB (bT (j:=k) eN5 U U (by omega)) U (bB (dO (vs:= [.string na,.string nb]) eT5 U (fun _ hm=>(SlT.ofBlk (l:= [(⟨#[115,49]⟩,⟨#[115,50]⟩),(⟨#[115,49]⟩,⟨#[115,51]⟩),(⟨#[115,50]⟩,⟨#[115,49]⟩),(⟨#[115,51]⟩,⟨#[115,50]⟩)]) eR7 (hm.blkI 0 U))) hx U U) U (dH fU2 U fun g2=>jX (cs':= [.string na,.string nb]) 0 eT5 U U U U (bR (bS (bP U (dM (γ:=Bool) (val:=fun v=> .bool v) (φ:=fun v=>True) U xV U U U U (fun wx hm=>((jZ _ wx B sb _ hm.k (by omega) (by omega) (by omega)).mono fun _ _ ⟨v,he,hS,hg⟩=>⟨v,trivial,he,hS,hg⟩)) fun f3 _=>bB (cF U) U (bR ?_)))))))
  refine dC U (fun hh=>?_) (fun hh=>?_)
  ·have hf:f3=false:=by simpa using hh
   refine gd (fun wz=>Blk wz g2 255 [.string na,.string nb]/\True) mixed (fun _ hm=>⟨hm.bl 0,trivial⟩) fun z=>wq 0 U (bJ U) (wq 1 U (cQ3 (j:=0) eY4 U U (by decide) U) (wq 2 U (cN fE U (fun _ hm=>hm.1) U) (wq 3 U (cQ3 (j:=1) eY4 U U (by decide) U) (wq 4 U (cN fE U (fun _ hm=>hm.1) U) (wq 5 U (bJ U) (eC 6 U (jF 3 [.int .i64 0,.int .i64 40,.int .i64 700] fun g4=>bE (nw 12 127 (fun _ hm=>⟨hm.bl 1,trivial⟩) fun z=>eC 7 U (dM (γ:=Int) (val:=fun v=> .int .i64 v) (φ:=fun v=>v∈([0,40,700]:List Int)) U pP U U U U (fun wx hm=>(eT [0,40,700] _ _ _ wx B sb _ hm.k (by omega) (by simp) (by simp) (hm.blkI 0 U) (hm.neRow 0 U U))) fun v5 hv5=>?_)))))))))
   have bv5:0<=v5/\v5<=700:=gQ hv5 (by decide)
   have bv50:=bv5.1
   have bv51:=bv5.2
   clear bv5
   refine bE (nw 12 255 (fun _ hm=>⟨hm.bl 1,trivial⟩) fun z=>wq 8 U (dJ (cs:= [.string na,.string nb,.int .i64 v5]) U (by kernel_rfl)) (eC 9 U (jF 258 [.string na,.string nb,.int .i64 v5] fun g6=>bE (nw 12 1023 (fun _ hm=>⟨hm.bl 2,trivial⟩) fun z=>eC 10 U (eF (news:= [.string na,.string nb,.int .i64 v5]) 0 0 eB9 U U U U U U U (by omega) (by unfold maxLen;omega) U U fun v2 hv2=>bE (nw 12 2047 (fun _ hm=>⟨hm.bl 2,trivial⟩) fun z=>wq 11 U (cU U) (jH (bG (bD (bI (gN U U (bP U (bE ?_)))))))))))))
   exact cQ (k+1,n+1,v2,l++ [⟨na,nb,v5⟩],l.flatMap nF++([.string na,.string nb,.int .i64 v5]:List Value)) ⟨by dsimp only;omega,by dsimp only;omega,by simp [vO],dV2 hi3 (show na.size<=1000000 by omega) (show nb.size<=1000000 by omega),by simp [nF]⟩ (by dsimp only;omega) ⟨U,U,U,U,U,(cS (by omega)),trivial⟩ (fun _ hm=>(hm.more U (by first|omega|(dsimp only;omega))).pick [3] [0] [] U U)
  have hf:f3=true:=by simpa using hh
  refine bN (bG (bD (bI (gN U U (bP U (bE ?_))))))
  exact cQ (k+1,n,v,l,l.flatMap nF) ⟨by dsimp only;omega,by dsimp only;omega,vO,hi3,rfl⟩ (by dsimp only;omega) ⟨U,U,U,U,U,(cS (by omega)),trivial⟩ (fun _ hm=>(hm.more U (by first|omega|(dsimp only;omega))).pick [1] [0] [] U U)
 refine dE (bF (bF (bY (bD (bH (bS (bP U (dM (γ:=Bool) (val:=fun v=> .bool v) (φ:=fun v=>True) U xV U U U U (fun wx hm=>((jZ _ wx B sb _ hm.k (by omega) (by omega) (by omega)).mono fun _ _ ⟨v,he,hS,hg⟩=>⟨v,trivial,he,hS,hg⟩)) fun f7 _=>bR ?_))))))))
 refine dC U (fun hh=>?_) (fun hh=>?_)
 ·have hf:f7=true:=by simpa using hh
  refine bI (bP U (bP U (jF 9 [.string ⟨#[115,51]⟩,.string ⟨#[65]⟩,.string ⟨#[115,49]⟩] fun g8=>dM (γ:=ByteArray) (val:=fun v=> .string v) (φ:=fun v=>v∈([⟨#[115,51]⟩,⟨#[65]⟩,⟨#[115,49]⟩]:List ByteArray)) U rS U U U U (fun wx hm=>(gV [⟨#[115,51]⟩,⟨#[65]⟩,⟨#[115,49]⟩] _ _ _ wx B sb _ hm.k (by omega) (by simp) (by simp) (hm.blkI 0 U) (hm.neRow 0 U U))) fun s9 hs9=>?_)))
  have zs9:s9.size<=100:=kG hs9 (by decide)
  refine bP U (jF 9 [.string ⟨#[115,51]⟩,.string ⟨#[115,57]⟩,.string ⟨#[]⟩] fun g10=>dM (γ:=ByteArray) (val:=fun v=> .string v) (φ:=fun v=>v∈([⟨#[115,51]⟩,⟨#[115,57]⟩,⟨#[]⟩]:List ByteArray)) U rS U U U U (fun wx hm=>(gV [⟨#[115,51]⟩,⟨#[115,57]⟩,⟨#[]⟩] _ _ _ wx B sb _ hm.k (by omega) (by simp) (by simp) (hm.blkI 0 U) (hm.neRow 0 U U))) fun s11 hs11=>?_)
  have zs11:s11.size<=100:=kG hs11 (by decide)
  refine bP U (dM (γ:=Int) (val:=fun v=> .int .i64 v) (φ:=fun v=> -2000000000000000<=v/\v<=2000000000000000) U bO3 U U U U (fun wx hm=>(mI _ _ wx B sb _ hm.k (by omega) (by omega) (by omega) (by omega))) fun v12 hv12=>bB (dJ (cs:= [.string s9,.string s11,.int .i64 v12]) U (by kernel_rfl)) U (jF 258 [.string s9,.string s11,.int .i64 v12] fun g13=>eF (news:= [.string s9,.string s11,.int .i64 v12]) 0 0 eB9 U U U U U U U (by omega) (by unfold maxLen;omega) U U fun v2 hv2=>?_))
  refine eD (R:=∃A cc,v2= .slice A (n+1) cc) (fun wx hm=>dS (hm.ownI 0 U)) ?_
  rintro ⟨A,c,rfl⟩
  refine bZ U (bR (bS (bP U (bZ U (bR (bM ?_))))))
  exact bK U U fun wx hm=>⟨A,n+1,c,l++ [⟨s9,s11,v12⟩],U,SlT.ofOwn (l:=l++ [⟨s9,s11,v12⟩]) dW2 (by have h:=hm.ownI 0 rfl;simpa [nF] using h) (by simp [vO]),dV2 hi3 (show s9.size<=1000000 by omega) (show s11.size<=1000000 by omega),by omega,jA (hm.ownI 0 rfl),hm.k.more (by omega),hm.g⟩
 have hf:f7=false:=by simpa using hh
 refine bN (bD (bS ?_))
 refine eD (R:=∃A cc,v= .slice A n cc) (fun wx hm=>dS (hm.ownI 0 U)) ?_
 rintro ⟨A,c,rfl⟩
 refine bP U (bZ U (bR (bM ?_)))
 exact bK U U fun wx hm=>⟨A,n,c,l,U,SlT.ofOwn dW2 (hm.ownI 0 U) vO,hi3,by omega,jA (hm.ownI 0 rfl),hm.k.more (by omega),hm.g⟩
end Go.Proofs.YtmifpfcmldflkaaGreatDoor
