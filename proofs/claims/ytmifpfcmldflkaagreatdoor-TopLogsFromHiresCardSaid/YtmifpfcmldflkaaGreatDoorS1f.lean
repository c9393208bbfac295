/- Several texts as one: Dkm Ax Hlb Mr Ss2 Sst Dkq Ek Zf Lo El Zb Ze Hlc Alc Hev Zd Hld Td Tt Te Tj Tk Tm Tu To Tq -/
import Derived.Test.YtmifpfcmldflkaaGreatDoorS1e
import Derived.Test.YtmifpfcmldflkaaGreatDoorS1c
import Derived.Test.YtmifpfcmldflkaaGreatDoorS1b
import Derived.Maps.RangeRun
import Derived.Test.YtmifpfcmldflkaaGreatDoorProg
import Derived.Ground.NamesProg
import Derived.Shelf.Sort.Plain
import Derived.Test.YtmifpfcmldflkaaGreatDoorS1a
import Derived.Shelf.Slices.In.SortNone
import Derived.Test.YtmifpfcmldflkaaGreatDoorS1d
set_option maxRecDepth 100000
set_option maxHeartbeats 4000000
namespace Go.Proofs.YtmifpfcmldflkaaGreatDoor
open Tryz
open Go.RowKit
structure nH (l:List Ny):Prop where
 fine:∀x∈l,cZ2 x
 rise:∀(j:Nat) (x y:Ny),l[j]?=some x->l[j+1]?=some y->vR x y < 0
 once:∀(j k:Nat) (x y:Ny),j < k->l[j]?=some x->l[k]?=some y->¬(x.dk=y.dk/\x.no=y.no)
theorem bZ6:nH []:=⟨(fun _ h=>by cases h),(fun _ _ _ h=>by simp at h),(fun _ _ _ _ _ h=>by simp at h)⟩
def rQ (e o:Ny):Bool:=o.dk.toList==e.dk.toList&&decide (o.no=e.no)
theorem dY4 {e o:Ny}:rQ e o=true↔o.dk=e.dk/\o.no=e.no:=by
 unfold rQ
 rw [Bool.and_eq_true,beq_iff_eq,decide_eq_true_eq]
 exact ⟨fun h=>⟨cF3 h.1,h.2⟩,fun h=>⟨by rw [h.1],h.2⟩⟩
theorem cY4 {α:Type} {l:List α} {i j:Nat} {x:α} (h:(l.take i)[j]?=some x):j < i/\l[j]?=some x:=by
 rw [List.getElem?_take] at h
 split at h
 ·rename_i hj;exact ⟨hj,h⟩
 ·cases h
theorem nH.snoc {l:List Ny} {i:Nat} {x:Ny} (h:nH (l.take i)) (hx:l[i]?=some x) (hf:cZ2 x) (ho:∀p,0 < i->l[i - 1]?=some p->vR p x < 0) (hs:(l.take i).any (rQ x)=false):nH (l.take (i+1)):=by
 have hlt:=(List.getElem?_eq_some_iff.1 hx).1
 have hat:∀j y,(l.take (i+1))[j]?=some y->(j < i/\(l.take i)[j]?=some y)∨(j=i/\y=x):=fun j y hj=>by
  obtain ⟨h1,h2⟩:=cY4 hj
  rcases (show j < i∨j=i by omega) with h9|h9
  ·exact .inl ⟨h9,by rw [List.getElem?_take,if_pos h9];exact h2⟩
  ·subst h9;rw [hx] at h2;exact .inr ⟨rfl,by injection h2 with e;exact e.symm⟩
 refine ⟨fun y hy=>?_,fun j y z h1 h2=>?_,fun j k y z hjk h1 h2=>?_⟩
 ·rw [List.take_add_one,hx,Option.toList_some] at hy
  rcases List.mem_append.1 hy with hy|hy
  ·exact h.fine y hy
  ·rw [List.mem_singleton.1 hy];exact hf
 ·rcases hat _ _ h2 with ⟨h3,h4⟩|⟨h3,rfl⟩
  ·rcases hat _ _ h1 with ⟨_,h6⟩|⟨h5,_⟩
   ·exact h.rise j y z h6 h4
   ·omega
  ·have h5:=(cY4 h1).2
   exact ho y (by omega) (by rw [<-h3,Nat.add_sub_cancel];exact h5)
 ·rcases hat _ _ h2 with ⟨h3,h4⟩|⟨h3,rfl⟩
  ·rcases hat _ _ h1 with ⟨_,h6⟩|⟨h5,_⟩
   ·exact h.once j k y z hjk h6 h4
   ·omega
  ·rcases hat _ _ h1 with ⟨_,h6⟩|⟨h5,_⟩
   ·intro e
    rw [List.any_eq_false] at hs
    exact hs y (fX3 h6) (dY4.2 e)
   ·omega
theorem dZ4 (o0:Int) (o1:ByteArray) (o2:Int) (o3:ByteArray) (e0:Int) (e1:ByteArray) (e2:Int) (e3:ByteArray) (gk:Nat) (w:World) (hk:Blk w gk 171 [.int .i64 e0,.string e1,.int .i64 e2,.string e3]):Calls prog 74 #[.agg #[.int .i64 o0,.string o1,.int .i64 o2,.string o3],.pointer (some ⟨gk,0,none⟩)] w (fun e w'=>e=.returned (.bool (rQ (⟨e0,e1,e2,e3⟩:Ny) (⟨o0,o1,o2,o3⟩:Ny)))/\w.grownBy w' none):=by
 refine cS ⟨16,w,none, []⟩ func74 U ntmps74 U (gM (X:= [fL w.heap.size none gk 171 [.int .i64 e0,.string e1,.int .i64 e2,.string e3]]) (cF hk.old cX) (cG fL.lasts cY)) (bR (fG U U U fun g1=>bX U (bQ (bR (dY nY U U (eJ fC 0 U U U (dY nY U U (bB (cQ (v:= .string e1) fC U (fun _ hm=>(hm.fact 0 U).2) U) U (bB (eS U U) U (bP U ?_))))))))))
 rcases Bool.eq_false_or_eq_true (o1.toList==e1.toList) with hb2|hb2
 ·refine bK 9 U (fU3 hb2) ?_
  refine eE U (dY qD U U (eE U (eJ fP 0 U U U (eE U (dY qD U U (eE U (bB (cQ (v:= .int .i64 e2) fP U (fun _ hm=>(hm.fact 0 U).2) U) U (eE U (bB (eL U U) U (mN U U (bX U (bQ (bM ?_)))))))))))))
  refine bJ U U fun wx hm=>?_
  refine ⟨?_,hm.g⟩
  unfold rQ
  simp_all
 refine bK 9 U (fU3 hb2) (dZ U (dZ U (dZ U (dZ U (dZ U (nR U U (bX U (bQ (bM ?_)))))))))
 refine bJ U U fun wx hm=>?_
 refine ⟨?_,hm.g⟩
 unfold rQ
 simp_all
theorem dD0 (l:List Ny) (A:Option Addr) (n c0:Nat) (e0:Int) (e1:ByteArray) (e2:Int) (e3:ByteArray) (gk:Nat) (w:World) (hl:SlT eR 4 171 w A n l) (hn:n<=1000000) (hk:Blk w gk 171 [.int .i64 e0,.string e1,.int .i64 e2,.string e3]):Calls prog 124 #[.slice A n c0,.func (.func 74) #[] #[.pointer (some ⟨gk,0,none⟩)]] w (mP w (mI (rQ (⟨e0,e1,e2,e3⟩:Ny)) l 0)):=by
 refine cS ⟨19,w,none, []⟩ func124 U ntmps124 U (gM (X:= [bW eR 4 171 w.heap.size none A n l,fL w.heap.size none gk 171 [.int .i64 e0,.string e1,.int .i64 e2,.string e3]]) (cF hl.old (cF hk.old cX)) (cG bW.lasts (cG fL.lasts cY))) (bR ?_)
 have hlen:=hl.len
 refine bX U (bQ (bH (bR (bP U (bB (dT uO U) U (bP U (bQ (bO ?_))))))))
 refine dX (γ:=Nat) (fun (i:Nat)=>i<=n/\mI (rQ (⟨e0,e1,e2,e3⟩:Ny)) l 0=mI (rQ (⟨e0,e1,e2,e3⟩:Ny)) (l.drop i) i) (fun (i:Nat)=> [(0,.slice A n c0),(1,.func (.func 74) #[] #[.pointer (some ⟨gk,0,none⟩)]),(7,.int .i64 ((n:Nat):Int)),(8,.int .i64 ((i:Nat):Int))]) (fun (i:Nat)=>fun _=>True) (fun (i:Nat)=> []) (fun (i:Nat)=> []) (fun (i:Nat)=> [bW eR 4 171 w.heap.size none A n l,fL w.heap.size none gk 171 [.int .i64 e0,.string e1,.int .i64 e2,.string e3]]) (fun (i:Nat)=>n - i) 0 ⟨Nat.zero_le _,U⟩ ⟨U,U,U,U,trivial⟩ (fun _ hm=>hm.pick [] [] [0,1] U U) ?_
 intro i cB
 replace cB:i<=n/\mI (rQ (⟨e0,e1,e2,e3⟩:Ny)) l 0=mI (rQ (⟨e0,e1,e2,e3⟩:Ny)) (l.drop i) i:=cB
 refine bR (bB (dE U U) U (bQ (bH ?_)))
 refine cC U (fun hi=>?_) (fun hi=>?_)
 ·refine bN (bD (bH (bO (bR ?_))))
  obtain ⟨b,off,hA,_,_⟩:=hl.get (by omega)
  subst hA
  obtain ⟨x,hx⟩:∃x,l[i]?=some x:=⟨_,fW3 (by omega)⟩
  obtain ⟨o0,o1,o2,o3⟩:=x
  have hat:=yA (p:=rQ (⟨e0,e1,e2,e3⟩:Ny)) hx
  refine bP U (bX U (bQ (bR (bP U (bP U (bP U (bB (bV (j:=i) uO U U (by omega)) U (bB (dP (vs:= [.int .i64 o0,.string o1,.int .i64 o2,.string o3]) kM U (fun _ hm=>(hm.fact 0 U).1) hx U U) U (cH U fP2 U U (fun wx hm=>(dZ4 o0 o1 o2 o3 e0 e1 e2 e3 gk wx (hm.fact 1 U).2)) (bQ ?_))))))))))
  refine dC U (fun hh=>?_) (fun hh=>?_)
  ·have hq:(rQ (⟨e0,e1,e2,e3⟩:Ny) (⟨o0,o1,o2,o3⟩:Ny))=true:=by simpa using hh
   refine bR (bP U (bX U (bQ (bM (bC (bA (bA (bC (bA ?_)))))))))
   exact bJ U U fun wx hm=>⟨bT (by rw [cB.2,hat,if_pos hq]),hm.g⟩
  have hq:(rQ (⟨e0,e1,e2,e3⟩:Ny) (⟨o0,o1,o2,o3⟩:Ny))=false:=by simpa using hh
  refine bN (bG (bD (bI (gO U U (bP U (bE ?_))))))
  exact cN (i+1) ⟨by omega,by rw [cB.2,hat,if_neg (by rw [hq];decide)]⟩ (by omega) ⟨U,U,U,(cR (by omega)),trivial⟩ (fun _ hm=>hm.pick [] [] [0,1] U U)
 refine dD (bF (bF (bY (bD (bR (bX U (bK 4 (v':= .int .i64 (-1)) U U (bQ (bM ?_)))))))))
 exact bJ U U fun wx hm=>⟨bT (by rw [cB.2,List.drop_eq_nil_of_le (by omega)];rfl),hm.g⟩
theorem cQ2 (l:List Ny) (A:Option Addr) (n c0:Nat) (e0:Int) (e1:ByteArray) (e2:Int) (e3:ByteArray) (gk:Nat) (w:World) (hl:SlT eR 4 171 w A n l) (hn:n<=1000000) (hk:Blk w gk 171 [.int .i64 e0,.string e1,.int .i64 e2,.string e3]):Calls prog 73 #[.slice A n c0,.func (.func 74) #[] #[.pointer (some ⟨gk,0,none⟩)]] w (fun e w'=>e=.returned (.bool (l.any (rQ (⟨e0,e1,e2,e3⟩:Ny))))/\w.grownBy w' none):=by
 refine cS ⟨9,w,none, []⟩ func73 U ntmps73 U (gM (X:= [bW eR 4 171 w.heap.size none A n l,fL w.heap.size none gk 171 [.int .i64 e0,.string e1,.int .i64 e2,.string e3]]) (cF hl.old (cF hk.old cX)) (cG bW.lasts (cG fL.lasts cY))) (bR (bX U (bQ (bR (bP U (bP U (cH U eE8 U U (fun wx hm=>(dD0 l A n c0 e0 e1 e2 e3 gk wx (hm.fact 0 U).1 hn (hm.fact 1 U).2)) (bB (mG U U) U (bX U (bQ (bM ?_)))))))))))
 exact bJ U U fun wx hm=>⟨by rw [<-bQ9],hm.g⟩
theorem bL5 (l:List Ny) (A:Option Addr) (n c0:Nat) (w:World) (hl:SlT eR 4 171 w A n l) (hn:n<=1000000) (hcap:n<=c0) (hsz:∀x∈l,uH x):Calls prog 29 #[.slice A n c0] w (fun e w'=>∃E,e=.returned (.int .i64 E)/\(E=0->l.length<=1000/\nH l)/\w.grownBy w' none):=by
 refine cS ⟨39,w,none, []⟩ func29 U ntmps29 U (gM (X:= [bW eR 4 171 w.heap.size none A n l]) (cF hl.old cX) (cG bW.lasts cY)) (bR ?_)
 have hlen:=hl.len
 refine bX U (bQ (bH (bR (bP U (bB (dT uO U) U (bB (eK U U) U (bQ ?_)))))))
 refine cC U (fun hbig=>?_) (fun hbig=>?_)
 ·refine bR (bX U (bQ ?_))
  refine bM (bA ?_)
  exact bJ U U fun wx hm=>⟨_,U,(fun h=>absurd h (by decide)),hm.g⟩
 refine bN (bD (bH (bR (bP U (bB (dT uO U) U (bP U (bQ (bO ?_))))))))
 refine dX (γ:=Nat) (fun (i:Nat)=>i<=n/\nH (l.take i)) (fun (i:Nat)=> [(0,.slice A n c0),(9,.slice A n c0),(10,.int .i64 ((n:Nat):Int)),(11,.int .i64 ((i:Nat):Int))]) (fun (i:Nat)=>fun _=>True) (fun (i:Nat)=> []) (fun (i:Nat)=> []) (fun (i:Nat)=> [bW eR 4 171 w.heap.size none A n l]) (fun (i:Nat)=>n - i) 0 ⟨Nat.zero_le _,bZ6⟩ ⟨U,U,U,U,trivial⟩ (fun _ hm=>hm.pick [] [] [0] U U) ?_
 intro i cB
 replace cB:i<=n/\nH (l.take i):=cB
 refine bR (bB (dE U U) U (bQ (bH ?_)))
 refine cC U (fun hi=>?_) (fun hi=>?_)
 ·refine bN (bD (bH (bO (bR ?_))))
  obtain ⟨b,off,hA,_,_⟩:=hl.get (by omega)
  subst hA
  obtain ⟨x,hx⟩:∃x,l[i]?=some x:=⟨_,fW3 (by omega)⟩
  obtain ⟨e0,e1,e2,e3⟩:=x
  have hez:=hsz _ (fX3 hx)
  refine bP U (bB (bV (j:=i) uO U U (by omega)) U (bB (dP (vs:= [.int .i64 e0,.string e1,.int .i64 e2,.string e3]) kM U (fun _ hm=>(hm.fact 0 U).1) hx U U) U (dL cX2 U fun g1=>bX U (kE (cs':= [.int .i64 e0,.string e1,.int .i64 e2,.string e3]) 0 kM U U U U (bQ (bH (bR (bB (cU kM U (fun _ hm=>hm.blkI 0 U) U U) U ?_))))))))
  refine gY (γ:=Int) (val:=(fun g=> .int .i64 g)) (φ:=(fun g=>g=0->cZ2 (⟨e0,e1,e2,e3⟩:Ny))) (Y:=(fun g=>fun _=>True)) U fO2 U U (fun wx hm=>(cE1 e0 e1 e2 e3 wx hez).mono fun _ _ ⟨E,he,h1,hg⟩=>⟨E,he,h1,hg,trivial⟩) (fun _=>Lasts2.true_) ?_
  rintro E hfi
  refine bX U (bQ (bR (bP U (bB (gS U U) U (bQ ?_)))))
  refine gI U (fun hE=>?_) (fun hE=>?_)
  ·refine bR (bP U (bX U (bQ ?_)))
   refine bM (bA (bC (bA (bA (bC (bA ?_))))))
   exact bJ U U fun wx hm=>⟨_,U,(fun h=>by rw [h] at hE;simp at hE),hm.g⟩
  refine bN (bD (bH (bH ?_)))
  have hfine:=hfi (by simpa using hE)
  by_cases hi0:i=0
  ·have ho:∀p,0 < i->l[i - 1]?=some p->vR p (⟨e0,e1,e2,e3⟩:Ny) < 0:=fun _ h=>absurd h (by omega)
   refine gd (fun wz=>True) mixed (fun _ _=>trivial) fun z=>wq 0 U (bL U) (wq 1 U (eK U U) (dH 22 (v':= .bool false) U (fU3 (by simp;omega)) (wq 2 U (bL U) (fD 3 U (fD 4 U (fD 5 U (fD 6 U (fD 7 U (eG 8 U (dZ U (bE (nw 12 511 (fun _ _=>trivial) fun z=>fD 9 U (fD 10 U (wq 11 U (fO U U) (jO (bD (jQ U (bN (bD (bR (bP U (bP U (bB (uA (hi:=i) uO U U U (by omega)) U (bB (pU U U) U (cH U eR9 U U (fun wx hm=>(cQ2 (l.take i) _ i _ e0 e1 e2 e3 _ wx ((hm.fact 1 U).1.takeT (by omega)) (by omega) (hm.blkI 0 U))) (bQ ?_))))))))))))))))))))))))))
   refine dC U (fun hh=>?_) (fun hh=>?_)
   ·have hs:((l.take i).any (rQ (⟨e0,e1,e2,e3⟩:Ny)))=true:=by simpa using hh
    refine bR (bX U (bQ (bM (bC (bA (bA (bC (bA ?_))))))))
    exact bJ U U fun wx hm=>⟨_,U,(fun h=>absurd h (by decide)),hm.g⟩
   have hs:((l.take i).any (rQ (⟨e0,e1,e2,e3⟩:Ny)))=false:=by simpa using hh
   refine bN (bG (bD (bI (gO U U (bP U (bE ?_))))))
   exact cN (i+1) ⟨by omega,cB.2.snoc hx hfine ho (by simpa using hs)⟩ (by omega) ⟨U,U,U,(cR (by omega)),trivial⟩ (fun _ hm=>hm.pick [] [] [1] U U)
  obtain ⟨pe,hpe⟩:∃x,l[i - 1]?=some x:=⟨_,fW3 (by omega)⟩
  have hpz:=hsz _ (fX3 hpe)
  obtain ⟨p0,p1,p2,p3⟩:=pe
  refine gd (fun wz=>Blk wz g1 171 [.int .i64 e0,.string e1,.int .i64 e2,.string e3]/\(bW eR 4 171 w.heap.size none (some ⟨b,off,none⟩) n l) wz/\True) mixed (fun _ hm=>⟨hm.bl 0,hm.fa 1,trivial⟩) fun z=>wq 0 U (bL U) (wq 1 U (eK U U) (dH 22 (v':= .bool true) U (fU3 (by simp;omega)) (wq 2 U (bL U) (fI 3 U (bL U) (fI 4 U (bL U) (fI 5 U (ov_sub U U (by omega) (by omega)) (dH 26 (v':= .int .i64 ((i - 1:Nat):Int)) U (fV3 (by omega)) (fI 6 U (bV (j:=i - 1) uO U U (by omega)) (fI 7 U (dP (vs:= [.int .i64 p0,.string p1,.int .i64 p2,.string p3]) kM U (fun _ hm=>(hm.2.1).1) hpe U U) (fI 8 U (cU kM U (fun _ hm=>hm.1) U U) (eG 9 U (eE U (cH U eQ9 U U (fun wx hm=>(zU p0 p1 p2 p3 e0 e1 e2 e3 wx hpz hez)) (bE (nw 12 1023 (fun _ hm=>⟨hm.bl 0,hm.fa 1,trivial⟩) fun z=>fI 10 U (mG U U) (wq 11 U (fE U U) (jO (bD ?_))))))))))))))))))
  refine cC U (fun ho9=>?_) (fun ho9=>?_)
  ·refine bR (bX U (bQ ?_))
   refine bM (bA (bC (bA (bA (bC (bA ?_))))))
   exact bJ U U fun wx hm=>⟨_,U,(fun h=>absurd h (by decide)),hm.g⟩
  refine bN (bD (bR ?_))
  have ho:∀p,0 < i->l[i - 1]?=some p->vR p (⟨e0,e1,e2,e3⟩:Ny) < 0:=fun p _ hp=>by
   rw [hpe] at hp;injection hp with e;rw [<-e]
   omega
  refine bP U (bP U (bB (uA (hi:=i) uO U U U (by omega)) U (bB (pU U U) U (cH U eR9 U U (fun wx hm=>(cQ2 (l.take i) _ i _ e0 e1 e2 e3 _ wx ((hm.fact 1 U).1.takeT (by omega)) (by omega) (hm.blkI 0 U))) (bQ ?_)))))
  refine dC U (fun hh=>?_) (fun hh=>?_)
  ·have hs:((l.take i).any (rQ (⟨e0,e1,e2,e3⟩:Ny)))=true:=by simpa using hh
   refine bR (bX U (bQ (bM (bC (bA (bA (bC (bA ?_))))))))
   exact bJ U U fun wx hm=>⟨_,U,(fun h=>absurd h (by decide)),hm.g⟩
  have hs:((l.take i).any (rQ (⟨e0,e1,e2,e3⟩:Ny)))=false:=by simpa using hh
  refine bN (bG (bD (bI (gO U U (bP U (bE ?_))))))
  exact cN (i+1) ⟨by omega,cB.2.snoc hx hfine ho (by simpa using hs)⟩ (by omega) ⟨U,U,U,(cR (by omega)),trivial⟩ (fun _ hm=>hm.pick [] [] [1] U U)
 refine dD (bF (bF (bY (bD (bR (bX U (bQ (bM ?_))))))))
 exact bJ U U fun wx hm=>⟨_,U,(fun _=>⟨by omega,by have h9:=cB.2;rw [List.take_of_length_le (by omega)] at h9;exact h9⟩),hm.g⟩
theorem dS2 {k:ByteArray}:∀{l:List Vh} {f:ByteArray->Option ByteArray},((l.foldl (fun f v=>fQ f v.key v.cls) f) k).isSome=true->(f k).isSome=true∨∃v∈l,v.key=k
 | [],_,h=> .inl h
 |v::r,f,h=>by
  rcases dS2 (l:=r) h with h|⟨u,hu,e⟩
  ·by_cases e:k=v.key
   ·exact .inr ⟨v,List.mem_cons_self ..,e.symm⟩
   ·dsimp only at h;rw [dB _ _ e] at h;exact .inl h
  ·exact .inr ⟨u,List.mem_cons_of_mem _ hu,e⟩
theorem bL6 {l:List Vh} {k:ByteArray} (h:(pX l k).isSome=true):∃v∈l,v.key=k:=(dS2 h).resolve_left fun h=>by cases h
theorem dL2 {k:ByteArray}:∀{l:List St} {f:ByteArray->Option Bool},((l.foldl (fun f v=>fQ f v.key true) f) k).getD false=true->(f k).getD false=true∨∃v∈l,v.key=k
 | [],_,h=> .inl h
 |v::r,f,h=>by
  rcases dL2 (l:=r) h with h|⟨u,hu,e⟩
  ·by_cases e:k=v.key
   ·exact .inr ⟨v,List.mem_cons_self ..,e.symm⟩
   ·dsimp only at h;rw [dB _ _ e] at h;exact .inl h
  ·exact .inr ⟨u,List.mem_cons_of_mem _ hu,e⟩
theorem bL1 {l:List St} {k:ByteArray} (h:(qJ l k).getD false=true):∃v∈l,v.key=k:=(dL2 h).resolve_left fun h=>by cases h
def EvG (V:ByteArray->Option ByteArray) (T:ByteArray->Option Bool) (x:Ev):Prop:=(V x.veh).isSome=true/\(T x.sta).getD false=true/\(1<=x.kd/\x.kd<=8)/\(x.kd=6->(T x.to_).getD false=true/\x.to_≠x.sta)/\(x.kd≠6->x.to_=⟨#[]⟩)
def LgG (V:ByteArray->Option ByteArray) (lg:List Ev) (g:Lg):Prop:=(V g.veh).isSome=true/\gL g.out.at_ g.veh g.out.st∈lg/\(g.inn.at_≠ -1->eP g.inn.at_ g.veh g.inn.st∈lg)
theorem LgG.more {V:ByteArray->Option ByteArray} {lg lg':List Ev} {g:Lg} (h:LgG V lg g) (hs:∀x∈lg,x∈lg'):LgG V lg' g:=⟨h.1,hs _ h.2.1,fun e=>hs _ (h.2.2 e)⟩
theorem k2:1<=(2:Int)/\(2:Int)<=8:=⟨by decide,by decide⟩
theorem k3:1<=(3:Int)/\(3:Int)<=8:=⟨by decide,by decide⟩
structure LI (V:ByteArray->Option ByteArray) (T:ByteArray->Option Bool) (l:List Int) (σ:Os):Prop where
 lf:∀x∈σ.lg,EvG V T x/\x.at_∈l
 hv:∀k h,σ.fh k=some h->hireE (hrG h)=0/\dX2 h/\∀g∈h.legs,LgG V σ.lg g
 ps:σ.lg.Pairwise fun x y=>x.veh=y.veh->x.at_ < y.at_
section
variable {V:ByteArray->Option ByteArray} {T:ByteArray->Option Bool} {l:List Int} {σ:Os} {a:Int}
theorem LI.say {x:Ev} (h:LI V T l σ) (hk:rW σ) (ha:∀b∈l,b<=a) (hx:x.at_=a) (hg:EvG V T x) (hc:(σ.fa (x.veh,x.at_)).getD false=false):(∀y∈σ.lg++ [x],EvG V T y/\y.at_∈l++ [a])/\(σ.lg++ [x]).Pairwise fun x y=>x.veh=y.veh->x.at_ < y.at_:=by
 refine ⟨fun y hy=>?_,?_⟩
 ·rcases List.mem_append.1 hy with hy|hy
  ·exact ⟨(h.lf y hy).1,List.mem_append_left _ (h.lf y hy).2⟩
  ·rw [List.mem_singleton.1 hy];exact ⟨hg,List.mem_append_right _ (List.mem_singleton.2 hx)⟩
 ·refine List.pairwise_append.2 ⟨h.ps,List.pairwise_singleton ..,fun y hy z hz e=>?_⟩
  rw [List.mem_singleton.1 hz] at e ⊢
  have h1:=ha _ (h.lf y hy).2
  have h2:y.at_≠x.at_:=fun e2=>by
   have:=hk.on y hy
   rw [e,e2,hc] at this;cases this
  omega
theorem LI.grow (h:LI V T l σ):∀x∈σ.lg,EvG V T x/\x.at_∈l++ [a]:=fun x hx=>⟨(h.lf x hx).1,List.mem_append_left _ (h.lf x hx).2⟩
theorem LI.step {ck:Bk->Prop} {τ:Os} (h:LI V T l σ) (hk:rW σ) (ha:∀b∈l,b<=a) (hs:kR V T ck a σ τ):LI V T (l++ [a]) τ:=by
 have sub:∀{es:List Ev},∀x∈σ.lg,x∈σ.lg++es:=fun x hx=>List.mem_append_left _ hx
 cases hs with
 |same=>exact ⟨h.grow,h.hv,h.ps⟩
 |ev x hx _ hkd hv hst h6 h7 hc=>
  obtain ⟨h1,h2⟩:=h.say hk ha hx ⟨hv,hst,⟨by simp at hkd;omega,by simp at hkd;omega⟩,h6,h7⟩ hc.1
  exact ⟨h1,fun k y hy=>⟨(h.hv k y hy).1,(h.hv k y hy).2.1,fun g hg=>((h.hv k y hy).2.2 g hg).more sub⟩,h2⟩
 |book b=>exact ⟨h.grow,h.hv,h.ps⟩
 |cancel k=>exact ⟨h.grow,h.hv,h.ps⟩
 |start y v r hok he hl hr hn hv hst hc=>
  obtain ⟨h1,h2⟩:=h.say (x:=gL a v r.st) hk ha rfl ⟨hv,hst,k2,(fun e=>absurd e (by decide:¬(2:Int)=6)),fun _=>rfl⟩ hc.1
  refine ⟨h1,fun k z hz=>?_,h2⟩
  rcases eM hz with ⟨rfl,rfl⟩|hz
  ·refine ⟨he,hok,fun g hg=>?_⟩
   rw [hl] at hg
   rw [List.mem_singleton.1 hg]
   refine ⟨hv,?_,fun e=>absurd U e⟩
   show gL r.at_ v r.st∈σ.lg++ [gL a v r.st]
   rw [hr];exact List.mem_append_right _ (List.mem_cons_self ..)
  ·exact ⟨(h.hv k z hz).1,(h.hv k z hz).2.1,fun g hg=>((h.hv k z hz).2.2 g hg).more sub⟩
 |extend k0 y y' hy0 hok he hl=>
  refine ⟨h.grow,fun k z hz=>?_,h.ps⟩
  rcases eM hz with ⟨rfl,rfl⟩|hz
  ·exact ⟨he,hok,fun g hg=>(h.hv k y hy0).2.2 g (hl ▸ hg)⟩
  ·exact h.hv k z hz
 |close k0 y y' g r hy0 hok he ho hg hl _ hr hst hc=>
  obtain ⟨y1,y2,y3⟩:=h.hv k0 y hy0
  rw [<-y2.2.2.2] at hg
  obtain ⟨m,hm⟩:=yD hg
  have hgm:g∈y.legs:=by rw [hm];exact List.mem_append_right _ (List.mem_singleton.2 rfl)
  obtain ⟨h1,h2⟩:=h.say (x:=eP a g.veh r.st) hk ha rfl ⟨(y3 g hgm).1,hst,k3,(fun e=>absurd e (by decide:¬(3:Int)=6)),fun _=>rfl⟩ hc.1
  refine ⟨h1,fun k z hz=>?_,h2⟩
  rcases eM hz with ⟨rfl,rfl⟩|hz
  ·refine ⟨he,hok,fun u hu=>?_⟩
   rw [hl,hm,bR0] at hu
   rcases List.mem_append.1 hu with hu|hu
   ·exact (y3 u (by rw [hm];exact List.mem_append_left _ hu)).more sub
   ·rw [List.mem_singleton.1 hu]
    refine ⟨(y3 g hgm).1,sub _ (y3 g hgm).2.1,fun _=>?_⟩
    show eP r.at_ g.veh r.st∈σ.lg++ [eP a g.veh r.st]
    rw [hr];exact List.mem_append_right _ (List.mem_cons_self ..)
  ·exact ⟨(h.hv k z hz).1,(h.hv k z hz).2.1,fun g hg=>((h.hv k z hz).2.2 g hg).more sub⟩
 |swap k0 y y' g r q v hy0 hok he ho hg hl _ hr hq hqr hst hv hc1 hc2=>
  obtain ⟨y1,y2,y3⟩:=h.hv k0 y hy0
  rw [<-y2.2.2.2] at hg
  obtain ⟨m,hm⟩:=yD hg
  have hgm:g∈y.legs:=by rw [hm];exact List.mem_append_right _ (List.mem_singleton.2 rfl)
  obtain ⟨h1,h2⟩:=h.say (x:=eP a g.veh r.st) hk ha rfl ⟨(y3 g hgm).1,hst,k3,(fun e=>absurd e (by decide:¬(3:Int)=6)),fun _=>rfl⟩ hc1.1
  have hne:v≠g.veh:=fun e=>by
   have h1:=hc1.2
   have h2:=hc2.2
   have e:(gL a v r.st).veh=(eP a g.veh r.st).veh:=e
   rw [e] at h2
   rcases cZ1 h1 with q1|q1
   ·rcases cZ1 h2 with q2|q2
    ·exact absurd q2.1 (by decide:¬(2:Int)=3)
    ·exact q2.2 q1.2
   ·exact absurd U q1.1
  have hin1:eP a g.veh r.st∈(σ.lg++ [eP a g.veh r.st])++ [gL a v r.st]:=List.mem_append_left _ (List.mem_append_right _ (List.mem_cons_self ..))
  have hin2:gL a v r.st∈(σ.lg++ [eP a g.veh r.st])++ [gL a v r.st]:=List.mem_append_right _ (List.mem_cons_self ..)
  have sub2:∀x∈σ.lg,x∈(σ.lg++ [eP a g.veh r.st])++ [gL a v r.st]:=fun x hx=>List.mem_append_left _ (List.mem_append_left _ hx)
  refine ⟨fun x hx=>?_,fun k z hz=>?_,?_⟩
  ·rcases List.mem_append.1 hx with hx|hx
   ·exact h1 x hx
   ·rw [List.mem_singleton.1 hx]
    exact ⟨⟨hv,hst,k2,(fun e=>absurd e (by decide:¬(2:Int)=6)),fun _=>U⟩,List.mem_append_right _ (List.mem_singleton.2 U)⟩
  ·rcases eM hz with ⟨rfl,rfl⟩|hz
   ·refine ⟨he,hok,fun u hu=>?_⟩
    unfold gZ at hl
    rw [hl,hm,bR0] at hu
    rcases List.mem_append.1 hu with hu|hu
    ·rcases List.mem_append.1 hu with hu|hu
     ·exact (y3 u (by rw [hm];exact List.mem_append_left _ hu)).more sub2
     ·rw [List.mem_singleton.1 hu]
      refine ⟨(y3 g hgm).1,sub2 _ (y3 g hgm).2.1,fun _=>?_⟩
      show eP r.at_ g.veh r.st∈_
      rw [hr];exact hin1
    ·rw [List.mem_singleton.1 hu]
     refine ⟨hv,?_,fun e=>absurd U e⟩
     show gL q.at_ v q.st∈_
     rw [hq,hqr];exact hin2
   ·exact ⟨(h.hv k z hz).1,(h.hv k z hz).2.1,fun g hg=>((h.hv k z hz).2.2 g hg).more sub2⟩
  ·refine List.pairwise_append.2 ⟨h2,List.pairwise_singleton ..,fun x hx z hz e=>?_⟩
   rw [List.mem_singleton.1 hz] at e ⊢
   rcases List.mem_append.1 hx with hx|hx
   ·have q1:=ha _ (h.lf x hx).2
    have q2:x.at_≠a:=fun e2=>by
     have:=hk.on x hx
     have e:x.veh=v:=e
     rw [e,e2] at this
     have h9:(σ.fa (v,a)).getD false=false:=hc2.1
     rw [h9] at this;cases this
    show x.at_ < a
    omega
   ·rw [List.mem_singleton.1 hx] at e
    exact absurd e.symm hne
end
theorem pQ.li {V:ByteArray->Option ByteArray} {T:ByteArray->Option Bool} {ck:Bk->Prop} {l:List Int} {σ:Os} (h:pQ V T ck l σ) (hl:∀a∈l,0<=a) (hs:l.Pairwise (·<=·)):LI V T l σ:=by
 induction h with
 |nil=>exact ⟨(fun _ h=>by cases h),(fun _ _ h=>by cases h),List.Pairwise.nil⟩
 |snoc l a σ τ h1 h2 ih=>
  obtain ⟨s1,_,s3⟩:=List.pairwise_append.1 hs
  have hl1:∀a∈l,0<=a:=fun x hx=>hl x (List.mem_append_left _ hx)
  exact (ih hl1 s1).step h1.facts.2.1 (fun b hb=>s3 b hb a (List.mem_singleton.2 U)) h2
theorem eF4:∀{l m:List Ev},dT0 l->dT0 m->l.Perm m->l=m
 | [],m,_,_,h=>h.nil_eq
 |x::r, [],_,_,h=>by have:=h.length_eq;simp at this
 |x::r,y::s,h1,h2,h=>by
  obtain ⟨a1,a2⟩:=List.pairwise_cons.1 h1
  obtain ⟨b1,b2⟩:=List.pairwise_cons.1 h2
  have e:x=y:=by
   rcases List.mem_cons.1 (h.mem_iff.1 (List.mem_cons_self ..):x∈y::s) with e|hx
   ·exact e
   ·rcases List.mem_cons.1 (h.mem_iff.2 (List.mem_cons_self ..):y∈x::r) with e|hy
    ·exact e.symm
    ·exact absurd (wC (a1 y hy) (b1 x hx)) bO3
  subst e
  rw [eF4 a2 b2 ((List.perm_cons x).1 h)]
theorem dK2 {l:List Ev} (h:l.Pairwise fun x y=>x.veh=y.veh->x.at_ < y.at_):dT0 (dS dU l):=by
 refine bN9 (R:=fun a b=>jP a b < 0) (lt:=dU) (fun _ _ _ h1 h2=>wC h1 h2) (h.imp fun {y x} hp=>⟨fun e=>of_decide_eq_true e,fun e=>?_⟩)
 have h1:¬jP x y < 0:=of_decide_eq_false e
 refine zX h1 fun h0=>?_
 rw [vK] at h0
 have:=hp h0.2.symm
 omega
theorem xK {v:ByteArray}:∀{l:List Ev} {s:Sa},pW v (l.filter fun x=>x.veh.toList==v.toList) s=pW v l s
 | [],_=>rfl
 |x::r,s=>by
  by_cases hv:(x.veh.toList==v.toList)=true
  ·rw [List.filter_cons_of_pos (p:=fun x:Ev=>x.veh.toList==v.toList) hv]
   unfold pW
   rw [if_pos hv,if_pos hv,xK,xK]
  ·rw [List.filter_cons_of_neg (p:=fun x:Ev=>x.veh.toList==v.toList) hv,xK]
   have e:pW v (x::r) s=(if (x.veh.toList==v.toList)=true then (if fF s x=true then jS x::pW v r (jS x) else pW v r s) else pW v r s):=rfl
   rw [e,if_neg hv]
theorem cL7 {l:List Ev} {v:ByteArray} (h:l.Pairwise fun x y=>x.veh=y.veh->x.at_ < y.at_):uU (dS dU l) v=uU l v:=by
 unfold uU
 rw [<-xK,<-xK (l:=l)]
 congr 1
 refine congrArg (fun z=>pW v z wM) (eF4 ((dK2 h).sublist List.filter_sublist) ?_ ((mL dU l).filter _))
 refine ((List.pairwise_filter).2 (h.imp fun {x y} hp=>fun hx hy=>?_))
 rw [xB]
 exact .inl (hp ((uD.1 hx).trans (uD.1 hy).symm))
theorem dI2 {ss:List St} {vs:List Vh}:∀{l:List Ev} {p:Option Ev},dT0 l->(∀x∈l,evO p x=false)->(∀x∈l,evE ss vs none x=0)->scanE (evE ss vs) p l=0
 | [],_,_,_,_=>rfl
 |x::r,p,hs,hp,hf=>by
  obtain ⟨h1,h2⟩:=List.pairwise_cons.1 hs
  have hx:=hf x (List.mem_cons_self ..)
  have e:evE ss vs p x=0:=by
   have h0:evO none x=false:=rfl
   unfold evE at hx ⊢
   rw [h0] at hx
   rw [hp x (List.mem_cons_self ..)];exact hx
  show (if evE ss vs p x=0 then scanE (evE ss vs) (some x) r else evE ss vs p x)=0
  rw [if_pos e]
  refine dI2 h2 (fun y hy=>?_) fun y hy=>hf y (List.mem_cons_of_mem _ hy)
  show decide (0<=jP x y)=false
  have:=h1 y hy
  exact decide_eq_false (by omega)
theorem dY6 {sl:List St} {vl:List Vh} {x:Ev} (h:EvG (pX vl) (qJ sl) x) (ha:0<=x.at_/\x.at_<=5761439) (hs:∀s∈sl,s.key≠⟨#[]⟩):evE sl vl none x=0:=by
 obtain ⟨h1,h2,h3,h4,h5⟩:=h
 obtain ⟨u,hu,e1⟩:=bL6 h1
 obtain ⟨t,ht,e2⟩:=bL1 h2
 have g1:decide (mI (vhP x.veh) vl 0 < 0)=false:=by
  refine decide_eq_false fun q=>?_
  rcases pT (p:=vhP x.veh) vl 0 with ⟨_,q2⟩|⟨j,y,q2,_⟩
  ·have:=q2 u hu
   unfold vhP at this
   rw [e1] at this
   simp at this
  ·omega
 have any:∀{t:St} {k:ByteArray},t∈sl->t.key=k->sl.any (stP k)=true:=fun {t k} ht e=>List.any_eq_true.2 ⟨t,ht,by unfold stP;rw [e];exact beq_self_eq_true _⟩
 have g2:=any ht e2
 have g3:inB x.at_ 0 5761439=true:=pC.2 ha
 have g4:inB x.kd 1 8=true:=pC.2 h3
 have g5:x.to_≠x.sta:=by
  by_cases e:x.kd=6
  ·exact (h4 e).2
  ·rw [h5 e,<-e2];exact (hs t ht).symm
 have g6:(x.to_.toList==x.sta.toList)=false:=by
  cases hq:(x.to_.toList==x.sta.toList) with
  |false=>rfl
  |true=>exact absurd (uD.1 hq) g5
 have g7:(!decide (x.kd=6)&& !(x.to_.toList==(⟨#[]⟩:ByteArray).toList))=false:=by
  by_cases e:x.kd=6
  ·rw [decide_eq_true e];rfl
  ·rw [h5 e];simp
 have g8:(decide (x.kd=6)&& !sl.any (stP x.to_))=false:=by
  by_cases e:x.kd=6
  ·obtain ⟨t2,ht2,e3⟩:=bL1 (h4 e).1
   rw [any ht2 e3];simp
  ·rw [decide_eq_false e];rfl
 unfold evE
 rw [g1,g2,g3,g4,g6,g7,g8]
 rfl
theorem eO2 {sl:List St} {vl:List Vh} {ck:Bk->Prop} {l:List Int} {σ:Os} (h:pQ (pX vl) (qJ sl) ck l σ) (hl:∀a∈l,0<=a/\a<=5761439) (hs:l.Pairwise (·<=·)) (hn:l.length<=1000) (hk:∀s∈sl,s.key≠⟨#[]⟩):uK sl vl (dS dU σ.lg)=0:=by
 have li:=h.li (fun a ha=>(hl a ha).1) hs
 unfold uK
 rw [if_neg (by have:=h.facts.2.2;rw [pH];omega)]
 exact dI2 (dK2 li.ps) (fun _ _=>U) fun x hx=>dY6 (li.lf x (xD.1 hx)).1 (hl _ (li.lf x (xD.1 hx)).2) hk
def trT (φ:Int->Int->Int):List Tr->Int
 | []=>0
 |y::r=>φ y.fr y.to_+trT φ r
theorem dQ2 {φ:Int->Int->Int}:∀{l m:List Tr},trT φ (l++m)=trT φ l+trT φ m
 | [],m=>by show _=0+_;rw [Int.zero_add];rfl
 |y::r,m=>by
  have ih:=dQ2 (φ:=φ) (l:=r) (m:=m)
  show _+trT φ (r++m)=_+trT φ r+_
  rw [ih];omega
theorem dY9 {φ:Int->Int->Int}:∀{l:List Sa} {p:ByteArray},trT φ (trR p l)=trS φ l
 | [],_=>rfl
 |s::r,p=>by
  have ih:=dY9 (φ:=φ) (l:=r) (p:=s.sta)
  unfold trR trS
  rw [dQ2,ih]
  by_cases h:s.st=2
  ·rw [if_pos h,if_pos h]
   show φ s.since (cR7 r)+0+_=_
   omega
  ·rw [if_neg h,if_neg h];rfl
theorem dX4 {V:ByteArray->Option ByteArray} {T:ByteArray->Option Bool} {ck:Bk->Prop} {l:List Int} {σ:Os} (h:pQ V T ck l σ) (hl:∀a∈l,0<=a) (hs:l.Pairwise (·<=·)) (φ:Int->Int->Int) (v:ByteArray) {ks:List ByteArray} (hn:ks.Nodup) (hk:∀k,(σ.fh k).isSome=true->k∈ks):trT φ (uW (dS dU σ.lg) v)=kS φ v σ.fh ks:=by
 unfold uW
 rw [dY9,cL7 (h.li hl hs).ps]
 exact (h.hi hl).sm φ v ks hn hk
theorem dR2:∀{l:List Tr},trT (fun _ _=>1) l=(l.length:Int)
 | []=>rfl
 |y::r=>by
  have ih:=dR2 (l:=r)
  show 1+trT (fun _ _=>1) r=((r.length+1:Nat):Int)
  rw [ih];omega
open Go.RowKit Go.MapKept
open Go.ChangeMaps (setBlock)
section
variable {κ α:Type}
def yU (enc:α->Value) (ek:κ->Value) (N g r:Nat) (f:κ->Option α) (ks:List κ) (m:Nat) (w:World):Prop:=
 N<=r/\∃es ck since seen c0,w.heap[r]?=some (.mapIter (some g) since seen c0)/\w.heap[g]?=some (.map es ck)/\jV enc ek f es ck/\(∀x∈es.toList,x.born < since)/\since<=c0/\since<=ck/\(leftOf es seen).size=m/\ks.Nodup/\
  (∀k,k∈ks↔∃e∈es.toList,e.key=ek k/\seen.contains e.born=true)/\∀k,ks.getLast?=some k->∃e∈es.toList,∃(s0:Array Nat) (v:α),seen=s0.push e.born/\c0=ck/\e.key=ek k/\f k=some v/\e.val=enc v
theorem yU.kept {enc:α->Value} {ek:κ->Value} {N g r:Nat} {f:κ->Option α} {ks:List κ} {m:Nat} {w w':World} (h:yU enc ek N g r f ks m w) (h1:w'.heap[r]?=w.heap[r]?) (h2:w'.heap[g]?=w.heap[g]?):yU enc ek N g r f ks m w':=by
 obtain ⟨h0,es,ck,since,seen,c0,hr,hg,hx⟩:=h
 exact ⟨h0,es,ck,since,seen,c0,h1.trans hr,h2.trans hg,hx⟩
theorem yU.lasts2 {enc:α->Value} {ek:κ->Value} {N M g r:Nat} {row:Option Nat} {Tt:List TypeId} {f:κ->Option α} {ks:List κ} {m:Nat}:Lasts2 M row Tt (yU enc ek N g r f ks m):=
 ⟨fun w w' h hx=>by
  have hx':=hx
  obtain ⟨_,es,ck,since,seen,c0,hr,hg,_⟩:=hx
  exact hx'.kept (h.block r (Array.getElem?_eq_some_iff.1 hr).1 (by simp)) (h.block g (Array.getElem?_eq_some_iff.1 hg).1 (by simp)),
  fun w w' q T c h1 _ _ h3 hx=>by
   have hx':=hx
   obtain ⟨_,es,ck,since,seen,c0,hr,hg,_⟩:=hx
   refine hx'.kept (h3.block r (Array.getElem?_eq_some_iff.1 hr).1 (fun e=>?_)) (h3.block g (Array.getElem?_eq_some_iff.1 hg).1 (fun e=>?_))
   ·have e2:r=q:=by injection e
    subst e2
    rw [h1] at hr;cases hr
   ·have e2:g=q:=by injection e
    subst e2
    rw [h1] at hg;cases hg⟩
theorem bJ9 {w:World} {r:Nat} {o:Obj} (h:w.heap[r]?=some o) (o':Obj):(setBlock w r o').heap[r]?=some o'/\∀i,i≠r->(setBlock w r o').heap[i]?=w.heap[i]?:=by
 have hlt:=(Array.getElem?_eq_some_iff.1 h).1
 refine ⟨?_,fun i hi=>?_⟩
 ·unfold setBlock
  dsimp only
  rw [Array.getElem?_setIfInBounds_self_of_lt hlt]
 ·unfold setBlock
  dsimp only
  rw [Array.getElem?_setIfInBounds_ne (fun e=>hi e.symm)]
theorem dT3 {w:World} {r:Nat} {o:Obj} (h:w.heap[r]?=some o) (o':Obj):w.grownBy (setBlock w r o') (some r):=
 ⟨rfl,rfl,rfl,by simp [setBlock],fun i _ hi=>(bJ9 h o').2 i (fun e=>hi (by rw [e]))⟩
end
section
variable {P:Program} {c:Cx} {eZ:Array Oper} {Q:Exit->Act->World->Prop} {rest:List Oper} {S:List (Nat×Value)} {K:World->Prop} {L:List (Nat×TypeId×List Value)} {O:List Own} {X X':List (World->Prop)} {Z:World->Prop} {nn:Nat}
variable {d:Nat} {ty:TypeId} {pos:String} {aft:Array Edge} {κ α:Type} {enc:α->Value} {ek:κ->Value} {f:κ->Option α}
theorem gV.itered {w:World} {r:Nat} {a:Option Nat} {b:Nat} {s:Array Nat} {q:Nat} {o':Obj} (h:gV c K L O X w) (hg:c.w0.heap.size<=r) (hb:w.heap[r]?=some (.mapIter a b s q)) (hX:∀A∈X',A (setBlock w r o')/\Lasts2 c.w0.heap.size c.row c.Tt A):gV c K L O X' (setBlock w r o'):=by
 have hgr:w.grownBy (setBlock w r o') (some r):=dT3 hb o'
 have hne:∀(k:Nat) (cs:Array Value) (T:TypeId) (fz:Nat×Nat),w.heap[k]?=some (.cells cs T fz)->k≠r:=fun k cs T fz hk e=>by
  subst e
  rw [hb] at hk;cases hk
 refine ⟨grow_own h.g hgr (fun k e=>by cases e;exact hg),h.kk.st _ _ _ hg hgr h.k,fun x hx=>⟨(h.b x hx).1,(h.b x hx).2.grown hgr (fun e=>hne _ _ _ _ (h.b x hx).2 (Option.some.inj e))⟩,h.nd,fun s hs=>?_,h.od,h.oo,fun A hA=>(hX A hA).1,h.kk,fun A hA=>(hX A hA).2,h.rs⟩
 refine (h.o s hs).kept hgr ?_
 cases hv:s.v.ownBlock with
 |none=>exact .inl rfl
 |some k=>
  refine .inr (fun e=>?_)
  have e2:k=r:=by injection e
  rcases (h.o s hs).2 with ⟨hn,_⟩|⟨g',eW,wZ,hn,_,hh,_⟩
  ·rw [hn] at hv;cases hv
  ·rw [hn] at hv
   have e3:g'=k:=by injection hv
   exact hne _ _ _ _ hh (e3.trans e2)
theorem dP5 {t k e:TypeId} {x:Operand} {g N:Nat} (ht:bE4 P t=some (k,e)) (hx:rd S x=some (.map (some g))) (hM:∀w,gV c K L O X w->bU enc ek N g f w) (hd:Nat.ble (d+1) c.n=true)
 (h:∀r m,WL P c eZ Q rest ((d,.pointer (some ⟨r,0,none⟩))::S) K L O (yU enc ek c.w0.heap.size g r f [] m::X)):WL P c eZ Q (⟨some d,.range t x,ty,pos,aft,none⟩::rest) S K L O X:=by
 intro a w ha hm
 refine wpList_plain U fun K' hK=>?_
 obtain ⟨_,es,ck,hb,he⟩:=hM w hm
 unfold Oper.wp
 have hr:=run_range_map (P:=P) w t k e g es ck (qX ht) hb
 have:(execOp a.eval ⟨some d,.range t x,ty,pos,aft,none⟩).run P w= .ok (.value (.pointer (some ⟨w.heap.size,0,none⟩))) (w.alloc (.mapIter (some g) ck #[] ck)):=by
  simp [execOp,ha.eval hx,hr,Result.andThen]
 rw [this]
 refine hK _ _ (h w.heap.size (leftOf es #[]).size _ _ (ha.put hd _) ((hm.grow (grow_alloc (World.grownBy.refl w none) _)).also yU.lasts2 ⟨hm.g.size,es,ck,ck,#[],ck,heap_alloc_new w _,?_,he,he.1.1,Nat.le_refl _,Nat.le_refl _,U,List.nodup_nil,fun k=>?_,fun k hk=>?_⟩))
 ·rw [heap_alloc_old w _ (Array.getElem?_eq_some_iff.1 hb).1];exact hb
 ·constructor
  ·intro hk;cases hk
  ·rintro ⟨e,_,_,hs⟩;simp at hs
 ·simp at hk
theorem eG0 {x:Operand} {g r m:Nat} {ks:List κ} (i:Nat) (inj:∀{a b:κ},ek a=ek b->a=b) (hx:rd S x=some (.pointer (some ⟨r,0,none⟩))) (hi:X[i]?=some (yU enc ek c.w0.heap.size g r f ks m)) (hd:Nat.ble (d+1) c.n=true)
 (h0:(∀k v,f k=some v->k∈ks)->WL P c eZ Q rest ((d,.tuple #[.bool false])::S) K L O X)
 (h1:∀k v m',m' < m->f k=some v->k∉ks->WL P c eZ Q rest ((d,.tuple #[.bool true,ek k,enc v])::S) K L O [yU enc ek c.w0.heap.size g r f (ks++ [k]) m']):WL P c eZ Q (⟨some d,.next x false,ty,pos,aft,none⟩::rest) S K L O X:=by
 intro a w ha hm
 refine wpList_plain U fun K' hK=>?_
 obtain ⟨hN,es,ck,since,seen,c0,hr,hb,he,zI,hsc,hck,hm0,hnd,hks,_⟩:=hm.fact i hi
 unfold Oper.wp
 rcases run_next_at (P:=P) w ty r g since c0 seen es ck hr hb zI hsc with ⟨hz,vP⟩|⟨e,hel,w1,hw1,vP⟩
 ·have:(execOp a.eval ⟨some d,.next x false,ty,pos,aft,none⟩).run P w= .ok (.value (.tuple #[.bool false])) w:=by
   simp [execOp,ha.eval hx,vP,Result.andThen]
  rw [this]
  refine hK _ _ (h0 (fun k v hv=>?_) _ _ (ha.put hd _) hm)
  obtain ⟨e,hes,hek,_⟩:=(he.2.2 k (enc v)).2 ⟨v,hv,rfl⟩
  refine (hks k).2 ⟨e,hes,hek,?_⟩
  cases hc:seen.contains e.born with
  |true=>rfl
  |false=>
   exfalso
   have hin:e∈leftOf es seen:=by
    unfold leftOf
    exact Array.mem_filter.2 ⟨Array.mem_toList_iff.1 hes,by rw [hc];rfl⟩
   rw [Array.eq_empty_of_size_eq_zero hz] at hin
   exact absurd hin (by simp)
 ·have:(execOp a.eval ⟨some d,.next x false,ty,pos,aft,none⟩).run P w= .ok (.value (.tuple #[.bool true,e.key,e.val])) (setBlock w1 r (.mapIter (some g) since (seen.push e.born) ck)):=by
   simp [execOp,ha.eval hx,vP,Result.andThen]
  rw [this]
  obtain ⟨hes,yY⟩:=mem_left hel
  obtain ⟨k,hk⟩:=he.2.1 e hes
  obtain ⟨v,hv,hev⟩:=(he.2.2 k e.val).1 ⟨e,hes,hk,rfl⟩
  have hkn:k∉ks:=fun hin=>by
   obtain ⟨e2,he2,hk2,hs2⟩:=(hks k).1 hin
   have:e2=e:=by
    have hnk:=he.1.2.2
    obtain ⟨p,hp,rfl⟩:=List.mem_iff_getElem.1 he2
    obtain ⟨q,hq,rfl⟩:=List.mem_iff_getElem.1 hes
    have:p=q:=by
     have:=(List.getElem_inj (h₀:=by simpa using hp) (h₁:=by simpa using hq) hnk).1 (by rw [List.getElem_map,List.getElem_map,hk,hk2])
     exact this
    subst this;rfl
   rw [this,yY] at hs2;cases hs2
  have pP:gV c K L O X w1:=by
   rcases hw1 with rfl|rfl
   ·exact hm
   ·exact hm.grow (pG (World.grownBy.refl w none))
  have hr1:w1.heap[r]?=some (.mapIter (some g) since seen c0):=by rcases hw1 with rfl|rfl <;> exact hr
  have hb1:w1.heap[g]?=some (.map es ck):=by rcases hw1 with rfl|rfl <;> exact hb
  have hgr:g≠r:=fun e=>by subst e;rw [hr1] at hb1;cases hb1
  have hlt:=left_shrinks es seen e hel
  rw [hm0] at hlt
  rw [hk,hev]
  refine hK _ _ (h1 k v _ hlt hv hkn _ _ (ha.put hd _) (pP.itered hN hr1 fun A hA=>?_))
  rw [List.mem_singleton.1 hA]
  refine ⟨⟨hN,es,ck,since,seen.push e.born,ck,(bJ9 hr1 _).1,by rw [(bJ9 hr1 _).2 g hgr];exact hb1,he,zI,hck,hck,rfl,?_,fun k2=>?_,fun k2 hk2=>?_⟩,yU.lasts2⟩
  ·exact List.nodup_append.2 ⟨hnd,by simp,fun a ha b hb e=>hkn (by rw [<-List.mem_singleton.1 hb,<-e];exact ha)⟩
  ·rw [List.mem_append,List.mem_singleton,hks k2]
   constructor
   ·rintro (⟨e2,h2,h3,h4⟩|rfl)
    ·exact ⟨e2,h2,h3,by rw [contains_push,h4];rfl⟩
    ·exact ⟨e,hes,hk,by rw [contains_push,beq_self_eq_true,Bool.or_true]⟩
   ·rintro ⟨e2,h2,h3,h4⟩
    rw [contains_push] at h4
    cases hc:seen.contains e2.born with
    |true=>exact .inl ⟨e2,h2,h3,hc⟩
    |false=>
     rw [hc,Bool.false_or,beq_iff_eq] at h4
     right
     have:e2=e:=by
      obtain ⟨p,hp,rfl⟩:=List.mem_iff_getElem.1 h2
      obtain ⟨q,hq,rfl⟩:=List.mem_iff_getElem.1 hes
      have:p=q:=(List.getElem_inj (h₀:=by simpa using hp) (h₁:=by simpa using hq) he.1.2.1).1 (by simpa using h4)
      subst this;rfl
     rw [this,hk] at h3
     exact (inj h3).symm
  ·rw [List.getLast?_append,List.getLast?_singleton] at hk2
   have yX:k=k2:=by simpa using hk2
   subst yX
   exact ⟨e,hes,seen,v,U,U,hk,hv,hev⟩
theorem dK4 {x:Operand} {g r m N:Nat} {ks:List κ} {k:κ} {v:α} (hx:rd S x=some (.pointer (some ⟨r,0,none⟩))) (hl:ks.getLast?=some k) (hv:f k=some v) (hm:∀w,Z w->yU enc ek N g r f ks m w):OV P nn S Z ⟨some d,.entry x,ty,pos,aft,none⟩ (.tuple #[ek k,enc v]):=fun a w ha hz=>by
 obtain ⟨_,es,ck,since,seen,c0,hr,hb,he,_,_,_,_,_,_,hlast⟩:=hm w hz
 obtain ⟨e,hes,s0,v2,rfl,rfl,hk,zJ,hev⟩:=hlast k hl
 have e2:v2=v:=by rw [hv] at zJ;injection zJ with h;exact h.symm
 subst e2
 have:=run_entry_at (P:=P) w r g since s0 es c0 e hr hb hes he.1.2.1
 simp [execOp,ha.eval hx,this,hk,hev,Result.andThen]
end
end Go.Proofs.YtmifpfcmldflkaaGreatDoor
namespace Go.Proofs
open Go.Shelf
def Tryz.lays190_ren:Go.Shelf.Ren:=⟨fun|190=>79|125=>133|258=>132|128=>185|129=>186|302=>176|303=>177|304=>178|305=>179|306=>180|307=>181|308=>182|309=>183|310=>184|333=>217|329=>218|330=>219|334=>220|335=>221|336=>95|344=>246|n=>n,fun|31=>101|9=>9|3=>3|46=>229|0=>0|51=>289|53=>291|4=>4|183=>283|182=>282|131=>161|5=>5|218=>317|222=>233|228=>347|229=>152|n=>n,fun|n=>n⟩
theorem Tryz.lays190:Go.Proofs.Lays.n190 prog Tryz.lays190_ren:={
 mixed:=by kernel_rfl
 f125:=func133.trans (congrArg some (by kernel_rfl))
 f128:=func185.trans (congrArg some (by kernel_rfl))
 f129:=func186.trans (congrArg some (by kernel_rfl))
 f190:=func79.trans (congrArg some (by kernel_rfl))
 f258:=func132.trans (congrArg some (by kernel_rfl))
 f302:=func176.trans (congrArg some (by kernel_rfl))
 f303:=func177.trans (congrArg some (by kernel_rfl))
 f304:=func178.trans (congrArg some (by kernel_rfl))
 f305:=func179.trans (congrArg some (by kernel_rfl))
 f306:=func180.trans (congrArg some (by kernel_rfl))
 f307:=func181.trans (congrArg some (by kernel_rfl))
 f308:=func182.trans (congrArg some (by kernel_rfl))
 f309:=func183.trans (congrArg some (by kernel_rfl))
 f310:=func184.trans (congrArg some (by kernel_rfl))
 f329:=func218.trans (congrArg some (by kernel_rfl))
 f330:=func219.trans (congrArg some (by kernel_rfl))
 f333:=func217.trans (congrArg some (by kernel_rfl))
 f334:=func220.trans (congrArg some (by kernel_rfl))
 f335:=func221.trans (congrArg some (by kernel_rfl))
 f336:=func95.trans (congrArg some (by kernel_rfl))
 f344:=func246.trans (congrArg some (by kernel_rfl))
 t0:=Tryz.underlying0
 a0:=Tryz.isAgg0
 z0:=Tryz.sizeOf0
 v0:=Tryz.zeroValue0
 t3:=Tryz.underlying3
 a3:=Tryz.isAgg3
 z3:=Tryz.sizeOf3
 v3:=Tryz.zeroValue3
 t4:=Tryz.underlying4
 a4:=Tryz.isAgg4
 z4:=Tryz.sizeOf4
 v4:=Tryz.zeroValue4
 t5:=Tryz.underlying5
 a5:=Tryz.isAgg5
 z5:=Tryz.sizeOf5
 v5:=Tryz.zeroValue5
 t9:=Tryz.underlying9
 a9:=Tryz.isAgg9
 z9:=Tryz.sizeOf9
 v9:=Tryz.zeroValue9
 t31:=Tryz.underlying101
 a31:=Tryz.isAgg101
 z31:=Tryz.sizeOf101
 v31:=Tryz.zeroValue101
 t46:=Tryz.underlying229
 a46:=Tryz.isAgg229
 z46:=Tryz.sizeOf229
 v46:=Tryz.zeroValue229
 t51:=Tryz.underlying289
 a51:=Tryz.isAgg289
 z51:=Tryz.sizeOf289
 v51:=Tryz.zeroValue289
 t53:=Tryz.underlying291
 a53:=Tryz.isAgg291
 z53:=Tryz.sizeOf291
 v53:=Tryz.zeroValue291
 t131:=Tryz.underlying161
 a131:=Tryz.isAgg161
 z131:=Tryz.sizeOf161
 v131:=Tryz.zeroValue161
 t182:=Tryz.underlying282
 a182:=Tryz.isAgg282
 z182:=Tryz.sizeOf282
 v182:=Tryz.zeroValue282
 t183:=Tryz.underlying283
 a183:=Tryz.isAgg283
 z183:=Tryz.sizeOf283
 v183:=Tryz.zeroValue283
 t218:=Tryz.underlying317
 a218:=Tryz.isAgg317
 z218:=Tryz.sizeOf317
 v218:=Tryz.zeroValue317
 t222:=Tryz.underlying233
 a222:=Tryz.isAgg233
 z222:=Tryz.sizeOf233
 v222:=Tryz.zeroValue233
 t228:=Tryz.underlying347
 a228:=Tryz.isAgg347
 z228:=Tryz.sizeOf347
 v228:=Tryz.zeroValue347
 t229:=Tryz.underlying152
 a229:=Tryz.isAgg152
 z229:=Tryz.sizeOf152
 v229:=Tryz.zeroValue152 }
end Go.Proofs
namespace Go.Proofs.YtmifpfcmldflkaaGreatDoor
open Tryz
open Go.RowKit Go.Sort
theorem cW4:∀l:List ByteArray,l.flatMap fH=l.map Value.string
 | []=>rfl
 |x::r=>by rw [List.flatMap_cons,cW4 r];rfl
def baB (l:List UInt8):ByteArray:=⟨l.toArray⟩
def nP (l:List ByteArray):List ByteArray:=((l.map fun b=>b.data.toList).mergeSort fun x y=>decide (x<=y)).map baB
theorem uC (l:List ByteArray):(nP l).length=l.length:=by unfold nP;simp
theorem bC3 (l:List ByteArray):(nP l).Perm l:=by
 unfold nP
 refine ((List.mergeSort_perm _ _).map baB).trans ?_
 rw [List.map_map]
 have:(baB∘fun b:ByteArray=>b.data.toList)=id:=rfl
 rw [this,List.map_id]
theorem dE5 (zs:List ByteArray) (g n eW base:Nat) (w:World) (h:w.ownsRow base 9 1 (.slice (some ⟨g,0,none⟩) n eW) n (zs.flatMap fH)) (hn:zs.length=n) (uQ:n<=1000000):
 Calls prog 79 #[.slice (some ⟨g,0,none⟩) n eW] w (fun e w'=>e=.returned (.tuple #[])/\w'.ownsRow base 9 1 (.slice (some ⟨g,0,none⟩) n eW) n ((nP zs).flatMap fH)/\w.grownBy w' (some g)):=by
 subst hn
 obtain ⟨h1,h2⟩:=h
 rcases h2 with ⟨h2,_⟩|⟨g',cap',wZ,hv,hbase,hh,hle,hmax,hcs,htk⟩
 ·cases h2
 ·injection hv with hA _ hc
  have hgg:g'=g:=by injection hA with hA;injection hA with hA;exact hA.symm
  subst hgg hc
  rw [Nat.mul_one] at hcs htk
  obtain ⟨ss,hss⟩:∃ss,ss=zs.map fun b:ByteArray=>b.data.toList:=⟨_,rfl⟩
  have hsl:ss.length=zs.length:=by rw [hss,List.length_map]
  have hcell:∀j,j < ss.length->wZ[j]?=some (encStr ss[j]!):=fun j hj=>by
   have h3:(wZ.toList.take zs.length)[j]?=some (encStr ss[j]!):=by
    rw [htk,cW4,List.getElem?_map,fW3 (by omega),Option.map_some]
    congr 1
    rw [getElem!_pos ss j hj]
    subst hss
    rw [List.getElem_map]
    first|done|rfl
   rw [List.getElem?_take,if_pos (by omega)] at h3
   simpa using h3
  have hH:Holds encStr w g' 0 ss.toArray:=fun j hj=>by
   have hj':j < ss.length:=by simpa using hj
   refine ⟨?_,?_⟩
   ·rw [Nat.zero_add,cell_of_row w g' j wZ _ (0,0) hh,hcell j hj']
    simp [hj']
   ·exact frozen_of_row w g' (0+j) wZ _ hh
  have hblk:g' < w.heap.size:=(Array.getElem?_eq_some_iff.1 hh).1
  have hcon:=Any.slices_Sort_string Tryz.lays190 g' 0 eW ss w hH hblk (by omega)
  rw [hsl] at hcon
  refine Calls.mono hcon ?_
  rintro e w' ⟨rfl,m,os,rfl⟩
  have hsz:(ss.mergeSort fun x y=>decide (x<=y)).toArray.size=zs.length:=by simp [hsl]
  have hnew:(grow (putRow encStr (Sort.ahead w m) g' 0 (ss.mergeSort fun x y=>decide (x<=y)).toArray) os).heap[g']?=some (.cells (putCells encStr 0 (ss.mergeSort fun x y=>decide (x<=y)).toArray wZ) 9 (0,0)):=by
   unfold grow putRow mapBlock Sort.ahead
   simp only
   rw [Array.getElem?_append_left (by simpa using hblk),Array.getElem?_modify,if_pos rfl,hh];rfl
  refine ⟨U,⟨by rw [cW4,List.length_map,uC,Nat.mul_one],.inr ⟨g',eW,_,rfl,hbase,hnew,hle,hmax,by simp [putCells,hcs],?_⟩⟩,⟨U,U,U,by simp [grow,putRow,mapBlock],fun k hk hne=>?_⟩⟩
  ·rw [cW4,Nat.mul_one]
   refine List.ext_getElem? fun j=>?_
   rw [List.getElem?_take]
   by_cases hj:j < zs.length
   ·have hjc:j < wZ.size:=by omega
    have hj2:j < (nP zs).length:=by rw [uC];omega
    have hj3:j < (ss.mergeSort fun x y=>decide (x<=y)).length:=by simpa [hsl] using hj
    rw [if_pos hj,List.getElem?_map,fW3 hj2]
    unfold putCells
    simp only [Array.getElem?_toList,Array.getElem?_mapIdx]
    rw [Array.getElem?_eq_getElem hjc]
    simp only [Option.map_some]
    rw [if_pos (by rw [hsz];omega)]
    congr 1
    simp only [Nat.sub_zero]
    rw [getElem!_pos _ j (by rw [hsz];omega)]
    subst hss
    have hget:(nP zs)[j]=baB ((zs.map fun b=>b.data.toList).mergeSort fun x y=>decide (x<=y))[j]:=by simp only [nP,List.getElem_map]
    rw [hget]
    rfl
   ·rw [if_neg hj,List.getElem?_eq_none (by rw [List.length_map,uC];omega)]
  ·unfold grow putRow mapBlock Sort.ahead
   simp only
   rw [Array.getElem?_append_left (by simpa using hk),Array.getElem?_modify,if_neg (fun e=>hne (by rw [e]))]
def bA0 (h:Hg):List Value:= [.string h.key,.string h.driver,.int .i64 h.fr,.int .i64 h.to_,.slice h.A h.n h.c]
theorem eP5 (h:Hg):(bA0 h).length=5:=rfl
theorem eB1 {a b:ByteArray} (h:dM a=dM b):a=b:=by unfold dM at h;injection h
open Classical in
theorem cI2 {α:Type}:∀{l m:List α},l.Nodup->(∀x∈l,x∈m)->l.length<=m.length
 | [],_,_,_=>Nat.zero_le _
 |x::r,m,hn,hs=>by
  have hx:=hs x (List.mem_cons_self ..)
  have h1:=cI2 (l:=r) (m:=m.erase x) (List.nodup_cons.1 hn).2 fun y hy=>(List.mem_erase_of_ne (fun e=>(List.nodup_cons.1 hn).1 (by rw [<-e];exact hy))).2 (hs y (List.mem_cons_of_mem _ hy))
  rw [List.length_erase_of_mem hx] at h1
  have:=List.length_pos_of_mem hx
  rw [List.length_cons];omega
theorem dD5:nP []= []:=by unfold nP;simp
theorem cD0 {w:World} {base e sz n:Nat} {v:Value} {xs:List Value} (h:w.ownsRow base e sz v n xs):(v= .slice none 0 0/\n=0)∨∃br cc,v= .slice (some ⟨br,0,none⟩) n cc:=by
 obtain ⟨_,h2⟩:=h
 rcases h2 with ⟨h2,h3⟩|⟨g',cap',wZ,hv,_⟩
 ·exact .inl ⟨h2,h3⟩
 ·exact .inr ⟨g',cap',hv⟩
theorem cM7 (f:ByteArray->Option Hg) (gm N0:Nat) (KL:List ByteArray) (w:World) (hM:bU nG dM N0 gm f w) (hKL:∀k v,f k=some v->k∈KL) (hb:KL.length<=1000):
 Calls prog 32 #[.map (some gm)] w (fun e w'=>∃v n ks,e=.returned v/\w'.ownsRow w.heap.size 64 5 v n (((nP ks).map fun k=>(f k).getD vF).flatMap bA0)/\ks.Nodup/\(∀k,k∈ks↔(f k).isSome=true)/\ks.length=n/\w.grownBy w' none):=by
 refine cS ⟨34,w,none, []⟩ func32 U ntmps32 U (gM (X:= []) cX cY) (bR (bX U (bQ (bR (bX U (bQ (bH (bR (bP U ?_)))))))))
 refine dP5 (k:=9) (e:=64) (enc:=nG) (ek:=dM) (f:=f) (N:=N0) (by kernel_rfl) U (fun _ hm=>hM.kept hm.g (by simp)) U fun gr m=>?_
 refine pJ 9 1 ?_
 refine bQ (bO ?_)
 refine dX (γ:=List ByteArray×Nat×Value×Nat×List Value) (fun (gq:List ByteArray×Nat×Value×Nat×List Value)=>(∀k∈gq.1,∃v,f k=some v)/\gq.1.Nodup/\gq.1.length=gq.2.2.2.1/\gq.2.2.2.2=gq.1.flatMap fH) (fun (gq:List ByteArray×Nat×Value×Nat×List Value)=> [(0,.map (some gm)),(2,.slice none 0 0),(3,gq.2.2.1),(9,.pointer (some ⟨gr,0,none⟩))]) (fun (gq:List ByteArray×Nat×Value×Nat×List Value)=>fun _=>True) (fun (gq:List ByteArray×Nat×Value×Nat×List Value)=> []) (fun (gq:List ByteArray×Nat×Value×Nat×List Value)=> [⟨gq.2.2.1,9,1,gq.2.2.2.1,gq.2.2.2.2⟩]) (fun (gq:List ByteArray×Nat×Value×Nat×List Value)=> [yU nG dM w.heap.size gm gr f gq.1 gq.2.1]) (fun (gq:List ByteArray×Nat×Value×Nat×List Value)=>gq.2.1) (([]:List ByteArray),m,.slice none 0 0,0, []) ⟨(fun _ h=>by cases h),List.nodup_nil,U,U⟩ ⟨U,U,U,U,trivial⟩ (fun _ hm=>hm.pick [] [0] [0] U U) ?_
 rintro ⟨ks,q,va,nk,xk⟩ cB
 replace cB:(∀k∈ks,∃v,f k=some v)/\ks.Nodup/\ks.length=nk/\xk=ks.flatMap fH:=cB
 dsimp only
 refine bR ?_
 obtain ⟨hin1,hin2,rfl,rfl⟩:=cB
 have cB:=And.intro hin1 hin2
 have hkl:ks.length<=KL.length:=cI2 cB.2 fun k hk=>by obtain ⟨v,hv⟩:=cB.1 k hk;exact hKL k v hv
 refine eG0 (enc:=nG) (ek:=dM) (f:=f) 0 eB1 U U U (fun xV=>?_) (fun k v q2 hq2 hv hkn=>?_)
 ·have hks:∀k,k∈ks↔(f k).isSome=true:=fun k=>⟨fun hk=>by obtain ⟨v,hv⟩:=cB.1 k hk;rw [hv];rfl,fun hk=>by obtain ⟨v,hv⟩:=Option.isSome_iff_exists.1 hk;exact xV k v hv⟩
  have hnd:=cB.2
  refine bB (cP U U) U (bQ (bH (jQ U (dD (bF (bF (bY (bD (bR (bP U ?_))))))))))
  refine dV (R:=(va= .slice none 0 0/\ks.length=0)∨∃br cc,va= .slice (some ⟨br,0,none⟩) ks.length cc) (fun wx hm=>cD0 (hm.ownI 0 U)) ?_
  rintro (⟨rfl,uJ⟩|⟨br,cc,rfl⟩)
  ·refine cH U eS9 U U (fun wx hm=>((Any.slices_Sort_string_none Tryz.lays190 none 0 wx).mono fun _ _ ⟨he,hw⟩=>⟨he,hw ▸ World.grownBy.refl _ _⟩)) ?_
   refine bQ (bR (bX U (bQ (bH (bR (bP U (bB (dT jX U) U (bK 21 (v':= .int .i64 0) U U (bP U (bQ (bO (eY 1 (eD (bR (bB (dE U U) U (bK 23 (v':= .bool false) U (fU3 (by decide)) (bQ (bH (jQ U (dD (bF (bF (bY (bD (bR (bP U (bX U (bQ (bM ?_)))))))))))))))))))))))))))))
   refine bJ U U fun wx hm=>?_
   refine ⟨_,0,ks,U,?_,hnd,hks,by omega,hm.g⟩
   rw [List.eq_nil_of_length_eq_zero uJ,dD5]
   exact ⟨U,.inl ⟨U,U⟩⟩
  refine bX4 (v:= .tuple #[]) (xs':=(nP ks).flatMap fH) 0 U U U eS9 U U (fun wx hm=>(dE5 ks br ks.length cc _ wx (hm.ownI 0 U) U (by omega))) ?_
  refine yT (γ:=Unit) (fun _=>bU nG dM N0 gm f) (fun w hm=>⟨(),hM.kept hm.g (by simp)⟩) (fun _=>bU.lasts2) fun _=>?_
  have hsl:(nP ks).length=ks.length:=uC ks
  refine pJ 64 5 ?_
  refine bQ (bR (bX U (bQ (bH (bR (bP U (bB (dT jX U) U (bP U (bE (bD (bO ?_)))))))))))
  refine dX (γ:=Nat×Value) (fun (gz:Nat×Value)=>gz.1<=ks.length) (fun (gz:Nat×Value)=> [(0,.map (some gm)),(2,.slice none 0 0),(5,gz.2),(20,.slice (some ⟨br,0,none⟩) ks.length cc),(21,.int .i64 ((ks.length:Nat):Int)),(22,.int .i64 ((gz.1:Nat):Int))]) (fun (gz:Nat×Value)=>fun _=>True) (fun (gz:Nat×Value)=> []) (fun (gz:Nat×Value)=> [⟨.slice (some ⟨br,0,none⟩) ks.length cc,9,1,ks.length,(nP ks).flatMap fH⟩,⟨gz.2,64,5,gz.1,(((nP ks).take gz.1).map fun k=>(f k).getD vF).flatMap bA0⟩]) (fun (gz:Nat×Value)=> [bU nG dM N0 gm f]) (fun (gz:Nat×Value)=>ks.length - gz.1) (0,.slice none 0 0) (Nat.zero_le _) ⟨U,U,U,U,U,U,trivial⟩ (fun _ hm=>hm.pick [] [1,0] [0] U U) ?_
  rintro ⟨j,vo⟩ cB
  replace cB:j<=ks.length:=cB
  dsimp only
  refine bR (bB (dE U U) U (bQ (bH ?_)))
  refine cC U (fun hj=>?_) (fun hj=>?_)
  ·refine bN (bD (bH (bO (bR ?_))))
   obtain ⟨k,hk⟩:∃x,(nP ks)[j]?=some x:=⟨_,fW3 (by omega)⟩
   have htk:(((nP ks).take j).map fun k=>(f k).getD vF)++ [(f k).getD vF]=((nP ks).take (j+1)).map fun k=>(f k).getD vF:=by rw [List.take_add_one,hk,Option.toList_some,List.map_append];rfl
   refine bB (bV (j:=j) jX U U (by omega)) U (bB (dK (k:=0) (v:= .string k) fC U (fun _ hm=>(SlT.ofOwn yR (hm.ownI 0 U) hsl)) hk U U) U (bX U (bQ (bI (bP U (bP U (bP U (bB (kT (enc:=nG) (ek:=dM) (s:=k) (e:=64) vF jZ (by kernel_rfl) (by kernel_rfl) U U (fun _ hm=>(hm.fact 0 U))) U (jE 64 [.string ((((f) k).getD vF).key),.string ((((f) k).getD vF).driver),.int .i64 ((((f) k).getD vF).fr),.int .i64 ((((f) k).getD vF).to_),.slice (((f) k).getD vF).A ((((f) k).getD vF).n) ((((f) k).getD vF).c)] fun g2=>eB (news:= [.string ((((f) k).getD vF).key),.string ((((f) k).getD vF).driver),.int .i64 ((((f) k).getD vF).fr),.int .i64 ((((f) k).getD vF).to_),.slice (((f) k).getD vF).A ((((f) k).getD vF).n) ((((f) k).getD vF).c)]) 1 0 fR1 U U U U U U U (by omega) (by unfold maxLen;omega) U U fun vo2 hvo2=>?_)))))))))
   refine dV (R:=∃A cc,vo2= .slice A (j+1) cc) (fun wx hm=>dR (hm.ownI 1 U)) ?_
   rintro ⟨oA,oc,rfl⟩
   refine bX U (bE (bG (bD (bI (gO U U (bP U (bE ?_)))))))
   have hx3:(((nP ks).take j).map fun k=>(f k).getD vF).flatMap bA0++([.string ((((f) k).getD vF).key),.string ((((f) k).getD vF).driver),.int .i64 ((((f) k).getD vF).fr),.int .i64 ((((f) k).getD vF).to_),.slice (((f) k).getD vF).A ((((f) k).getD vF).n) ((((f) k).getD vF).c)]:List Value)=(((nP ks).take (j+1)).map fun k=>(f k).getD vF).flatMap bA0:=by rw [<-htk,List.flatMap_append];rfl
   rw [hx3]
   exact cN (j+1,(Value.slice oA (j+1) oc)) (by show _<=_;omega) (by dsimp only;omega) ⟨U,U,U,U,U,(cR (by dsimp only;omega)),trivial⟩ (fun _ hm=>hm.pick [] [0,1] [0] U U)
  refine dD (bF (bF (bY (bD (bR (bP U (bX U (bQ (bM ?_)))))))))
  refine bJ U U fun wx hm=>?_
  refine ⟨vo,j,ks,U,?_,hnd,hks,by omega,hm.g⟩
  have h8:=(hm.ownI 1 rfl)
  rw [List.take_of_length_le (by omega)] at h8
  exact h8
 refine bB (cP U U) U (bQ (bH (kP U (bN (bD (bO (bR (bB (dK4 (enc:=nG) (ek:=dM) (ks:=ks++ [k]) (m:=q2) U (by simp) hv (fun _ hm=>hm.fact 0 U)) U (bB (cP U U) U (bX U (bQ (bI (bP U (bP U (jE 9 [.string k] fun g1=>eB (news:= [.string k]) 0 0 dY5 U U U U U U U (by omega) (by unfold maxLen;omega) U U fun va2 hva2=>?_)))))))))))))))
 refine dV (R:=∃A cc,va2= .slice A (ks.length+1) cc) (fun wx hm=>dR (hm.ownI 0 U)) ?_
 rintro ⟨kA,kc,rfl⟩
 refine bX U (bE (bG ?_))
 exact cN (ks++ [k],q2,(Value.slice kA (ks.length+1) kc),ks.length+1,ks.flatMap fH++([.string k]:List Value)) ⟨fun x hx=>by
  rcases List.mem_append.1 hx with hx|hx
  ·exact cB.1 x hx
  rw [List.mem_singleton.1 hx];exact ⟨v,hv⟩,List.nodup_append.2 ⟨cB.2,by simp,fun a ha b hb e=>hkn (by rw [<-List.mem_singleton.1 hb,<-e];exact ha)⟩,by simp,by simp [fH]⟩ hq2 ⟨rfl,rfl,rfl,rfl,trivial⟩ (fun _ hm=>hm.pick [] [0] [0] rfl rfl)
theorem dX8 {a b:Ny} (h:vR a b < 0):a.at_<=b.at_:=by
 unfold vR at h
 by_cases h0:nV a.at_ b.at_=0
 ·have:=rF.1 h0;omega
 ·have e:dG [nV a.at_ b.at_,mR a.dk b.dk,nV a.no b.no]=nV a.at_ b.at_:=by
   simp only [dG,if_neg h0]
  rw [e] at h
  unfold nV at h
  split at h
  ·omega
  ·split at h <;> omega
theorem dY8 {el:List Ny} (h:nH el):(∀a∈el.map Ny.at_,0<=a/\a<=5761439)/\(el.map Ny.at_).Pairwise (·<=·):=by
 refine ⟨fun a ha=>?_,?_⟩
 ·obtain ⟨x,hx,rfl⟩:=List.mem_map.1 ha
  exact pC.1 (h.fine x hx).1
 ·rw [List.pairwise_map,List.pairwise_iff_getElem]
  intro i j hi hj hij
  have main:∀(d i:Nat) (hi:i+d < el.length),(el[i]'(by omega)).at_<=(el[i+d]'hi).at_:=by
   intro d
   induction d with
   |zero=>intro i hi;exact Int.le_refl _
   |succ d ih=>
    intro i hi
    have h1:=ih i (by omega)
    have h2:=dX8 (h.rise (i+d) (el[i+d]'(by omega)) (el[i+d+1]'hi) (fW3 _) (fW3 _))
    exact Int.le_trans h1 h2
  have:=main (j - i) i (by omega)
  have e:i+(j - i)=j:=by omega
  simp only [e] at this
  exact this
def cM6 (σ:Os) (ks:List ByteArray):List Hg:=(nP ks).map fun k=>(σ.fh k).getD vF
theorem eQ5 {σ:Os} {ks:List ByteArray} (hk:∀k,k∈ks↔(σ.fh k).isSome=true) {j:Nat} {y:Hg} (h:(cM6 σ ks)[j]?=some y):∃k,(nP ks)[j]?=some k/\σ.fh k=some y:=by
 unfold cM6 at h
 rw [List.getElem?_map] at h
 cases e:(nP ks)[j]? with
 |none=>rw [e] at h;cases h
 |some k=>
  rw [e] at h
  have hin:=(bC3 ks).mem_iff.1 (fX3 e)
  obtain ⟨z,hz⟩:=Option.isSome_iff_exists.1 ((hk k).1 hin)
  have h2:some ((σ.fh k).getD vF)=some y:=h
  rw [hz] at h2
  exact ⟨k,U,hz.trans h2⟩
structure uX (sl:List St) (cl:List Cs) (vl:List Vh) (l:List Int) (σ:Os):Prop where
 run:pQ (pX vl) (qJ sl) (fun b=>jR cl [b]=0) l σ
 tm:∀a∈l,0<=a/\a<=5761439
 up:l.Pairwise (·<=·)
 few:l.length<=20
 key:∀s∈sl,s.key≠⟨#[]⟩
section
variable {sl:List St} {cl:List Cs} {vl:List Vh} {l:List Int} {σ:Os}
theorem uX.li (h:uX sl cl vl l σ):LI (pX vl) (qJ sl) l σ:=h.run.li (fun a ha=>(h.tm a ha).1) h.up
theorem uX.log (h:uX sl cl vl l σ):uK sl vl (dS dU σ.lg)=0:=eO2 h.run h.tm h.up (by have:=h.few;omega) h.key
theorem uX.len (h:uX sl cl vl l σ):(dS dU σ.lg).length<=40:=by
 have h1:=h.run.facts.2.2
 have h2:=h.few
 rw [pH];omega
theorem uX.hires (h:uX sl cl vl l σ) {ks:List ByteArray} (hn:ks.Nodup) (hk:∀k,k∈ks↔(σ.fh k).isSome=true):ks.length<=20:=by
 obtain ⟨KL,h1,h2⟩:=h.run.keysH
 have h3:=bW2 hn fun k hk2=>by
  obtain ⟨z,hz⟩:=Option.isSome_iff_exists.1 ((hk k).1 hk2)
  exact h1 k z hz
 have:=h.few
 omega
theorem uX.evs (h:uX sl cl vl l σ) (hf:mJ sl cl vl []=0):cN3 sl cl vl [] (dS dU σ.lg)=0:=by
 unfold cN3
 rw [hf,h.log];rfl
theorem eR6 {vl:List Vh} {i:Nat} {x:Vh} (h:vl[i]?=some x):¬mI (vhP x.key) vl 0 < 0:=by
 rcases pT (p:=vhP x.key) vl 0 with ⟨_,h2⟩|⟨j,y,h2,_⟩
 ·have:=h2 x (fX3 h)
  unfold vhP at this
  simp at this
 ·omega
theorem uX.evOk (h:uX sl cl vl l σ) (hv:∀v∈vl,v.key.size<=1000000) (hs:∀s∈sl,s.key.size<=1000000):∀x∈dS dU σ.lg,cE8 x:=by
 intro x hx
 obtain ⟨⟨h1,h2,h3,h4,h5⟩,h6⟩:=h.li.lf x (xD.1 hx)
 have ht:=h.tm _ h6
 obtain ⟨u,hu,e1⟩:=bL6 h1
 obtain ⟨s,hs1,e2⟩:=bL1 h2
 refine ⟨by omega,by omega,e1 ▸ hv u hu,e2 ▸ hs s hs1,?_⟩
 by_cases e:x.kd=6
 ·obtain ⟨s2,hs2,e3⟩:=bL1 (h4 e).1
  exact e3 ▸ hs s2 hs2
 ·rw [h5 e];decide
end
theorem gV.gainA {c:Cx} {K:World->Prop} {L:List (Nat×TypeId×List Value)} {O:List Own} {X:List (World->Prop)} {w w':World} {g:Nat} {T:TypeId} {cs:List Value} (h:gV c K L O X w) (hgr:w.grownBy w' none) (hN:w.heap.size<=g) (hb:Blk w' g T cs):gV c K ((g,T,cs)::L) O X w':=by
 have h2:=h.grow hgr
 refine ⟨h2.g,h2.k,fun x hx=>?_,List.Pairwise.cons (fun y hy e=>by have h3:=(h.b y hy).2.lt;have e2:g=y.1:=e;omega) h.nd,h2.o,fun r hr x hx=>?_,h.oo,h2.x,h.kk,h.l,h.rs⟩
 ·rcases List.mem_cons.1 hx with rfl|hx
  ·exact ⟨Nat.le_trans h.g.size hN,hb⟩
  ·exact h2.b x hx
 ·rcases List.mem_cons.1 hx with rfl|hx
  ·intro e
   have:=((h.o r hr).lt g e).2
   omega
  ·exact h.od r hr x hx
section
variable {P:Program} {c:Cx} {eZ:Array Oper} {Q:Exit->Act->World->Prop} {rest:List Oper} {S:List (Nat×Value)} {K:World->Prop} {L:List (Nat×TypeId×List Value)} {O:List Own} {X:List (World->Prop)} {d:Nat} {ty:TypeId} {pos:String} {aft:Array Edge} {ty2:TypeId} {pos2:String} {aft2:Array Edge}
theorem bR1 {t:TypeId} {y:Operand} {n:Nat} {cs vs cs':List Value} (hz:kY P t=some cs) (hd:Nat.ble (d+1) c.n=true) (hs:kX P t=some n) (hy:∀g,rd ((d,.pointer (some ⟨g,0,none⟩))::S) y=some (.agg vs.toArray)) (hx:∀g,rd ((d,.pointer (some ⟨g,0,none⟩))::S) (.tmp d)=some (.pointer (some ⟨g,0,none⟩))) (h1:vs.all (·.oneCell')=true) (hn:vs.length=n) (ho:Nat.ble (0+n) cs.length=true) (hcs:kD cs 0 vs=cs')
 (h:∀g,WL P c eZ Q rest ((d,.pointer (some ⟨g,0,none⟩))::S) K ((g,t,cs')::L) O X):WL P c eZ Q (⟨some d,.alloc t,ty,pos,aft,none⟩::⟨none,.store t (.tmp d) y,ty2,pos2,aft2,none⟩::rest) S K L O X:=by
 intro a w ha hm
 refine wpList_plain U fun K' hK=>?_
 unfold kY at hz
 cases hi:P.info? t with
 |none=>simp [hi] at hz
 |some inf=>
  cases hzz:inf.zero with
  |none=>simp [hi,hzz] at hz
  |some z=>
   simp only [hi,hzz,Option.bind_some,Option.map_some,Option.some.injEq] at hz
   unfold Oper.wp
   have:(execOp a.eval ⟨some d,.alloc t,ty,pos,aft,none⟩).run P w= .ok (.value (.pointer (some ⟨w.heap.size,0,none⟩))) (w.alloc (.cells cs.toArray t)):=by
    subst hz
    simp [execOp,Instr.alloc,zeroValue,typeInfo,hi,hzz,newVar,newRow]
   rw [this]
   refine hK _ _ ?_
   have ha2:=ha.put hd (.pointer (some ⟨w.heap.size,0,none⟩))
   have hb:=Blk.at_ w rfl t cs
   obtain ⟨dd,hu,hr,hi⟩:=yO hs
   subst hcs
   refine wpList_store_blk U t (.tmp d) y U w.heap.size 0 t cs vs hb (ha2.eval (hx _)) (ha2.eval (hy _)) n hi hn (Nat.le_of_ble_eq_true ho) (by simpa using h1) fun w' hb' hg=>?_
   exact h _ _ _ ⟨ha2.size,ha2.val,ha2.df⟩ (hm.gainA (grow_own (grow_alloc (World.grownBy.refl w none) _) hg (fun k e=>by cases e;exact Nat.le_refl _)) (Nat.le_refl _) hb')
end
def bV9 (g:Lg):List Ev:=⟨g.out.at_,g.veh,g.out.st,2,⟨#[]⟩⟩::(if g.inn.at_= -1 then [] else [⟨g.inn.at_,g.veh,g.inn.st,3,⟨#[]⟩⟩])
def nC (l:List Lg):List Ev:=l.flatMap bV9
theorem dX3 {l:List Lg} {i:Nat} {x:Lg} (h:l[i]?=some x):nC (l.take (i+1))=nC (l.take i)++bV9 x:=by
 unfold nC
 rw [List.take_add_one,h,Option.toList_some,List.flatMap_append];simp
theorem dK8 {g:Lg} (h:g.inn.at_= -1):bV9 g= [⟨g.out.at_,g.veh,g.out.st,2,⟨#[]⟩⟩]:=by unfold bV9;rw [if_pos h]
theorem dJ8 {g:Lg} (h:¬g.inn.at_= -1):bV9 g= [⟨g.out.at_,g.veh,g.out.st,2,⟨#[]⟩⟩,⟨g.inn.at_,g.veh,g.inn.st,3,⟨#[]⟩⟩]:=by unfold bV9;rw [if_neg h]
theorem dV3 (p0:Int) (p1 p2:ByteArray) (p3:Int) (p4:ByteArray) (e0:Int) (e1 e2:ByteArray) (e3:Int) (e4:ByteArray) (w:World):Calls prog 42 #[.agg #[.int .i64 p0,.string p1,.string p2,.int .i64 p3,.string p4],.agg #[.int .i64 e0,.string e1,.string e2,.int .i64 e3,.string e4]] w (mP w (jP ⟨p0,p1,p2,p3,p4⟩ ⟨e0,e1,e2,e3,e4⟩)):=by
 refine cS ⟨17,w,none, []⟩ func42 U ntmps42 U (gM (X:= []) cX cY) (bR (fG U U U fun g1=>fG U U U fun g2=>bX U (bQ (bH (gd (fun wz=>Blk wz g2 74 [.int .i64 e0,.string e1,.string e2,.int .i64 e3,.string e4]/\Blk wz g1 74 [.int .i64 p0,.string p1,.string p2,.int .i64 p3,.string p4]/\True) mixed (fun _ hm=>⟨hm.bl 0,hm.bl 1,trivial⟩) fun z=>wq 0 U (bS mD U U) (wq 1 U (cQ fP U (fun _ hm=>hm.2.1) U) (wq 2 U (bS mD U U) (wq 3 U (cQ fP U (fun _ hm=>hm.1) U) (wq 5 U (bS qZ U U) (wq 6 U (cQ fC U (fun _ hm=>hm.2.1) U) (wq 7 U (bS qZ U U) (wq 8 U (cQ fC U (fun _ hm=>hm.1) U) (eG 4 U (cH U dF3 U U (fun wx hm=>(bQ0 _ _ wx)) (bE (nw 13 511 (fun _ hm=>⟨hm.bl 0,hm.bl 1,trivial⟩) fun z=>eG 9 U (cH U cM5 U U (fun wx hm=>(pR _ _ wx)) (bE (nw 13 1023 (fun _ hm=>⟨hm.bl 0,hm.bl 1,trivial⟩) fun z=>eG 10 U (jE 3 [.int .i64 (nV p0 e0),.int .i64 (mR p1 e1)] fun g3=>bE (nw 13 2047 (fun _ hm=>⟨hm.bl 1,hm.bl 2,trivial⟩) fun z=>eG 11 U (cH U dE3 U U (fun wx hm=>(cA0 _ _ _ _ _ wx (hm.blkI 0 U))) ?_))))))))))))))))))))))
 refine bE (nw 13 4095 (fun _ hm=>⟨hm.bl 1,hm.bl 2,trivial⟩) fun z=>wq 12 U (cV U) (jO (bD (bM ?_))))
 exact bJ U U fun wx hm=>⟨bT (by unfold jP;rfl),hm.g⟩
theorem eF2:bJ8 42:=⟨fI2,dV3⟩
theorem cK6 (k d:ByteArray) (f t2:Int) (ls:List Lg) (A:Option Addr) (n c:Nat) (w:World) (hl:SlT lgEnc 9 68 w A n ls) (hok:HrOk k d ls) (hn:n<=20) (h0:hireE (⟨k,d,f,t2,ls⟩:Hr)=0) (ht:bL8 (nC ls)):
 Calls prog 14 #[.agg #[.string k,.string d,.int .i64 f,.int .i64 t2,.slice A n c]] w (fun e w'=>∃E q ec,e=.returned (.tuple #[.slice E q ec,.int .i64 0])/\SlT dO 5 74 w' E q (dS dU (nC ls))/\q<=40/\w.grownBy w' none):=by
 refine cS ⟨52,w,none, []⟩ func14 U ntmps14 U (gM (X:= [bW lgEnc 9 68 w.heap.size none A n ls]) (cF hl.old cX) (cG bW.lasts cY)) (bR ?_)
 have hlen:=hl.len
 refine fG U U U fun g1=>bX U (bX U (bQ (bH (bR (bB (cU nF U (fun _ hm=>hm.blkI 0 U) U U) U (cH (v:= .int .i64 0) U fH2 U U (fun wx hm=>(by have h:=hcheck_any k d f t2 ls A n c wx (hm.fact 0 rfl).1 hok (by omega);rw [h0] at h;exact h)) ?_))))))
 refine pJ 74 5 ?_
 refine bX U (bQ (bR (bP U (bB (gS U U) U (bK 11 (v':= .bool false) U (fU3 (by decide)) (bQ (jQ U (bN (bD (bR (bX U (bQ (bH (bR (dY uP U U (eJ bV7 0 U U U (bB (dT bB9 U) U (bP U (bQ (bO ?_))))))))))))))))))))
 refine dX (γ:=Nat×Nat×Value) (fun g=>g.1<=n/\(nC (ls.take g.1)).length=g.2.1/\g.2.1<=2 *g.1) (fun g=> [(2,.slice none 0 0),(3,.int .i64 0),(5,g.2.2),(14,.slice A n c),(15,.int .i64 ((n:Nat):Int)),(16,.int .i64 ((g.1:Nat):Int))]) (fun g=>fun _=>True) (fun g=> [(g1,64, [.string k,.string d,.int .i64 f,.int .i64 t2,.slice A n c])]) (fun g=> [⟨g.2.2,74,5,g.2.1,(nC (ls.take g.1)).flatMap dO⟩]) (fun g=> [bW lgEnc 9 68 w.heap.size none A n ls]) (fun g=>n - g.1) (0,0,.slice none 0 0) ⟨Nat.zero_le _,U,Nat.le_refl _⟩ ⟨U,U,U,U,U,U,trivial⟩ (fun _ hm=>hm.pick [0] [0] [0] U U) ?_
 rintro ⟨iv,q,v⟩ cB
 replace cB:iv<=n/\(nC (ls.take iv)).length=q/\q<=2 *iv:=cB
 dsimp only
 refine bR ?_
 obtain ⟨hi0,hql,hq2⟩:=cB
 refine bB (dE U U) U (bQ (bH ?_))
 refine cC U (fun hi=>?_) (fun hi=>?_)
 ·refine bN (bD (bH (bO (bR ?_))))
  obtain ⟨b,off,hA,_,_⟩:=hl.get (by omega)
  subst hA
  obtain ⟨x,hx⟩:∃x,ls[iv]?=some x:=⟨_,fW3 (by omega)⟩
  obtain ⟨xv,⟨oa,os,om,of_⟩,⟨ia,is_,im,if_⟩⟩:=x
  have hat:=dX3 hx
  refine dV (R:=∃A cc,v= .slice A q cc) (fun wx hm=>dR (hm.ownI 0 U)) ?_
  rintro ⟨E,ec,rfl⟩
  refine bB (bV (j:=iv) bB9 U U (by omega)) U (bB (dP (vs:= [.string xv,.int .i64 oa,.string os,.int .i64 om,.int .i64 of_,.int .i64 ia,.string is_,.int .i64 im,.int .i64 if_]) fZ0 U (fun _ hm=>(hm.fact 0 U).1) hx U U) U (bR1 (vs:= [.string xv,.int .i64 oa,.string os,.int .i64 om,.int .i64 of_,.int .i64 ia,.string is_,.int .i64 im,.int .i64 if_]) (cs':= [.string xv,.int .i64 oa,.string os,.int .i64 om,.int .i64 of_,.int .i64 ia,.string is_,.int .i64 im,.int .i64 if_]) fC3 U fZ0 (fun _=>U) (fun _=>U) U U U U fun g2=>bQ (bR (bP U (dY dN7 U U (dY cW8 U U (eJ fP 0 U U U (dY bG9 U U (eJ fC 0 U U U (dY dN7 U U (dY dM7 U U (eJ fC 0 U U U (bB (dJ (cs:= [.int .i64 oa,.string xv,.string os,.int .i64 2,.string ⟨#[]⟩]) U (by kernel_rfl)) U (jE 74 [.int .i64 oa,.string xv,.string os,.int .i64 2,.string ⟨#[]⟩] fun g3=>eB (news:= [.int .i64 oa,.string xv,.string os,.int .i64 2,.string ⟨#[]⟩]) 0 0 eS0 U U U U U U U (by omega) (by unfold maxLen;omega) U U fun v2 zJ=>bX U (bQ (bR (dY cA4 U U (dY cW8 U U (eJ fP 1 U U U (bB (gS U U) U (bQ ?_)))))))))))))))))))))
  refine gI U (fun h6=>?_) (fun h6=>?_)
  ·refine bI ?_
   rw [dJ8 (g:=(⟨xv,⟨oa,os,om,of_⟩,⟨ia,is_,im,if_⟩⟩:Lg)) h6] at hat
   refine dV (R:=∃A cc,v2= .slice A (q+1) cc) (fun wx hm=>dR (hm.ownI 0 U)) ?_
   rintro ⟨E2,ec2,rfl⟩
   refine bP U (dY cA4 U U (dY cW8 U U (eJ fP 1 U U U (dY bG9 U U (eJ fC 1 U U U (dY cA4 U U (dY dM7 U U (eJ fC 1 U U U (bB (dJ (cs:= [.int .i64 ia,.string xv,.string is_,.int .i64 3,.string ⟨#[]⟩]) U (by kernel_rfl)) U (jE 74 [.int .i64 ia,.string xv,.string is_,.int .i64 3,.string ⟨#[]⟩] fun g4=>eB (news:= [.int .i64 ia,.string xv,.string is_,.int .i64 3,.string ⟨#[]⟩]) 0 0 eS0 U U U U U U U (by omega) (by unfold maxLen;omega) U U fun v3 hv3=>bX U (bE (bG (bD (bI (gO U U (bP U (bE ?_)))))))))))))))))
   rw [show (nC (ls.take iv)).flatMap dO++([.int .i64 oa,.string xv,.string os,.int .i64 2,.string ⟨#[]⟩]:List Value)++([.int .i64 ia,.string xv,.string is_,.int .i64 3,.string ⟨#[]⟩]:List Value)=(nC (ls.take (iv+1))).flatMap dO from by rw [hat];simp [dO]]
   exact cN (iv+1,q+1+1,v3) ⟨by dsimp only;omega,by dsimp only;rw [hat];simp [hql],by dsimp only;omega⟩ (by dsimp only;omega) ⟨U,U,U,U,U,(cR (by omega)),trivial⟩ (fun _ hm=>hm.pick [3] [0] [0] U U)
  refine bN (bG (bD (bI ?_)))
  rw [dK8 (g:=(⟨xv,⟨oa,os,om,of_⟩,⟨ia,is_,im,if_⟩⟩:Lg)) h6] at hat
  refine gO U U (bP U (bE ?_))
  rw [show (nC (ls.take iv)).flatMap dO++([.int .i64 oa,.string xv,.string os,.int .i64 2,.string ⟨#[]⟩]:List Value)=(nC (ls.take (iv+1))).flatMap dO from by rw [hat];simp [dO]]
  exact cN (iv+1,q+1,v2) ⟨by dsimp only;omega,by dsimp only;rw [hat];simp [hql],by dsimp only;omega⟩ (by dsimp only;omega) ⟨U,U,U,U,U,(cR (by omega)),trivial⟩ (fun _ hm=>hm.pick [2] [0] [0] U U)
 refine dD (bF (bF (bY (bD (bR ?_)))))
 have hlt:ls.take iv=ls:=List.take_of_length_le (by omega)
 rw [hlt] at hql ⊢
 refine dV (R:=∃A cc,v= .slice A q cc) (fun wx hm=>dR (hm.ownI 0 U)) ?_
 rintro ⟨E,ec,rfl⟩
 refine bP U ?_
 by_cases hq0:q=0
 ·subst hq0
  have hnil:nC ls= []:=List.length_eq_zero_iff.1 hql
  refine cH U eU0 U U (fun wx hm=>(cN0 _ E ec wx)) (bQ (bR (bP U (bX U (bX U (bQ (bM ?_)))))))
  refine pN U U U fun wx hm=>?_
  exact ⟨E,0,ec,U,by rw [hnil];exact SlT.nil_ _ _,by omega,hm.g⟩
 refine dV (R:=∃g,E=some ⟨g,0,none⟩) (fun wx hm=>xH (hm.ownI 0 U) (by omega)) ?_
 rintro ⟨g5,rfl⟩
 refine bX4 (v:= .tuple #[]) (xs':=(dS dU (nC ls)).flatMap dO) 0 U U U eU0 U U (fun wx hm=>(bF7 _ eF2 (nC ls) g5 q ec _ wx (hm.ownI 0 U) hql (by omega) (fun _=>ht))) ?_
 refine bQ (bR (bP U (bX U (bX U (bQ (bM ?_))))))
 refine pN U U U fun wx hm=>?_
 exact ⟨_,q,ec,U,SlT.ofOwn fB (hm.ownI 0 U) (by rw [pH];exact hql),by omega,hm.g⟩
theorem dZ7 (el:List Ev) (A:Option Addr) (n c:Nat) (x0:Int) (x1 x2:ByteArray) (x3:Int) (x4:ByteArray) (w:World) (hl:SlT dO 5 74 w A n el) (hn:n<=1000000):
 Calls prog 46 #[.slice A n c,.agg #[.int .i64 x0,.string x1,.string x2,.int .i64 x3,.string x4]] w (mP w (mI (evQ ⟨x0,x1,x2,x3,x4⟩) el 0)):=by
 refine cS ⟨19,w,none, []⟩ func46 U ntmps46 U (gM (X:= [bW dO 5 74 w.heap.size none A n el]) (cF hl.old cX) (cG bW.lasts cY)) (bR ?_)
 have hlen:=hl.len
 refine fG U U U fun g1=>bX U (bQ (bH (bR (bP U (bB (dT jW U) U (bP U (bQ (bO ?_))))))))
 refine dX (γ:=Nat) (fun (iv:Nat)=>iv<=n/\mI (evQ ⟨x0,x1,x2,x3,x4⟩) el 0=mI (evQ ⟨x0,x1,x2,x3,x4⟩) (el.drop iv) iv) (fun (iv:Nat)=> [(0,.slice A n c),(3,.pointer (some ⟨g1,0,none⟩)),(7,.int .i64 ((n:Nat):Int)),(8,.int .i64 ((iv:Nat):Int))]) (fun (iv:Nat)=>fun _=>True) (fun (iv:Nat)=> [(g1,74, [.int .i64 x0,.string x1,.string x2,.int .i64 x3,.string x4])]) (fun (iv:Nat)=> []) (fun (iv:Nat)=> [bW dO 5 74 w.heap.size none A n el]) (fun (iv:Nat)=>n - iv) 0 ⟨Nat.zero_le _,U⟩ ⟨U,U,U,U,trivial⟩ (fun _ hm=>hm.pick [0] [] [0] U U) ?_
 intro iv cB
 replace cB:iv<=n/\mI (evQ ⟨x0,x1,x2,x3,x4⟩) el 0=mI (evQ ⟨x0,x1,x2,x3,x4⟩) (el.drop iv) iv:=cB
 refine bR (bB (dE U U) U (bQ (bH ?_)))
 refine cC U (fun hi=>?_) (fun hi=>?_)
 ·refine bN (bD (bH (bO (bR ?_))))
  obtain ⟨b,off,hA,_,_⟩:=hl.get (by omega)
  subst hA
  obtain ⟨x,hx⟩:∃x,el[iv]?=some x:=⟨_,fW3 (by omega)⟩
  obtain ⟨y0,y1,y2,y3,y4⟩:=x
  have hat:=yA (p:=(evQ ⟨x0,x1,x2,x3,x4⟩)) hx
  refine bP U (bX U (bQ (bH (gd (fun wz=>Blk wz g1 74 [.int .i64 x0,.string x1,.string x2,.int .i64 x3,.string x4]/\(bW dO 5 74 w.heap.size none (some ⟨b,off,none⟩) n el) wz/\True) mixed (fun _ hm=>⟨hm.bl 0,hm.fa 0,trivial⟩) fun z=>wq 0 U (cU fJ U (fun _ hm=>hm.1) U U) (wq 1 U (bL U) (wq 2 U (bL U) (wq 3 U (bV (j:=iv) jW U U (by omega)) (wq 4 U (dP (vs:= [.int .i64 y0,.string y1,.string y2,.int .i64 y3,.string y4]) fJ U (fun _ hm=>(hm.2.1).1) hx U U) (wq 5 U (ov_bin U U (eY0 cH6 (fun wx=>eI5 x0 x1 x2 x3 x4 y0 y1 y2 y3 y4 wx))) (jO (bD ?_)))))))))))
  refine dC U (fun hh=>?_) (fun hh=>?_)
  ·have hq:(evQ ⟨x0,x1,x2,x3,x4⟩ ⟨y0,y1,y2,y3,y4⟩)=true:=by simpa using hh
   refine bR (bP U (bX U (bQ (bM (bC (bA (bA (bC (bA ?_)))))))))
   exact bJ U U fun wx hm=>⟨bT (by rw [cB.2,hat,if_pos hq]),hm.g⟩
  have hq:(evQ ⟨x0,x1,x2,x3,x4⟩ ⟨y0,y1,y2,y3,y4⟩)=false:=by simpa using hh
  refine bN (bG (bD (bI (gO U U (bP U (bE ?_))))))
  exact cN (iv+1) ⟨by omega,by rw [cB.2,hat,if_neg (by rw [hq];decide)]⟩ (by omega) ⟨U,U,U,(cR (by omega)),trivial⟩ (fun _ hm=>hm.pick [0] [] [0] U U)
 refine dD (bF (bF (bY (bD (bR (bX U (bK 4 (v':= .int .i64 (-1)) U U (bQ (bM ?_)))))))))
 exact bJ U U fun wx hm=>⟨bT (by rw [cB.2,List.drop_eq_nil_of_le (by omega)];rfl),hm.g⟩
theorem fL0 {x:Ev} {el:List Ev} (h:x∈el):decide (0<=mI (evQ x) el 0)=true:=by
 rcases pT (p:=evQ x) el 0 with ⟨_,h2⟩|⟨j,y,h2,_⟩
 ·have:=h2 x h
  rw [eD1.2 rfl] at this;cases this
 ·exact decide_eq_true (by omega)
theorem cR5 (el:List Ev) (A:Option Addr) (n c:Nat) (x0:Int) (x1 x2:ByteArray) (x3:Int) (x4:ByteArray) (w:World) (hl:SlT dO 5 74 w A n el) (hn:n<=1000000) (h:(⟨x0,x1,x2,x3,x4⟩:Ev)∈el):
 Calls prog 15 #[.slice A n c,.agg #[.int .i64 x0,.string x1,.string x2,.int .i64 x3,.string x4]] w (fun e w'=>e=.returned (.bool true)/\w.grownBy w' none):=by
 refine cS ⟨9,w,none, []⟩ func15 U ntmps15 U (gM (X:= [bW dO 5 74 w.heap.size none A n el]) (cF hl.old cX) (cG bW.lasts cY)) (bR (fG U U U fun g1=>bX U (bQ (bR (bP U (bB (cU fJ U (fun _ hm=>hm.blkI 0 U) U U) U (cH U fJ2 U U (fun wx hm=>(dZ7 el A n c x0 x1 x2 x3 x4 wx (hm.fact 0 U).1 hn)) (bB (mG U U) U (bX U (bQ (bM ?_)))))))))))
 exact bJ U U fun wx hm=>⟨congrArg (fun b=>Ending.returned (.bool b)) (fL0 h),hm.g⟩
def tpE (sl:List St) (cl:List Cs) (vl:List Vh) (pl:List Pl) (el:List Ev) (vk:ByteArray):Int:=dG [cN3 sl cl vl pl el,dI (decide (mI (vhP vk) vl 0 < 0)) 8]
theorem dK5 (sl:List St) (cl:List Cs) (vl:List Vh) (pl:List Pl) (sA cA vA pA:Option Addr) (sn sc cn cc vn vc pn pc:Nat) (el:List Ev) (eA:Option Addr) (en ec:Nat) (vk:ByteArray) (w:World) (hs:SlT stEnc 15 99 w sA sn sl) (hc:SlT dW 2 84 w cA cn cl) (hv:SlT gW 2 57 w vA vn vl) (hp:SlT bI2 3 293 w pA pn pl) (rS:∀x∈sl,StOk x) (bS5:∀x∈cl,rV x) (bZ1:∀x∈vl,cJ8 x) (hpok:∀x∈pl,eP0 x) (yY:sn<=1000000) (hcn:cn<=1000000) (hvn:vn<=1000000) (hpn:pn<=1000000) (hl:SlT dO 5 74 w eA en el) (wJ:∀x∈el,cE8 x) (hen:en<=1000000) (hen2:en<=1000):
 Calls prog 16 #[.agg #[.slice sA sn sc,.slice cA cn cc,.slice vA vn vc,.slice pA pn pc],.slice eA en ec,.string vk] w (fun e w'=>∃(A:Option Addr) (k c:Nat),e=.returned (.tuple #[.slice A k c,.int .i64 (tpE sl cl vl pl el vk)])/\(tpE sl cl vl pl el vk=0->SlT bG7 4 142 w' A k (uW el vk))/\(tpE sl cl vl pl el vk≠0->A=none/\k=0/\c=0)/\w.grownBy w' none):=by
 refine cS ⟨79,w,none, []⟩ func16 U ntmps16 U (gM (X:= [bW stEnc 15 99 w.heap.size none sA sn sl,bW dW 2 84 w.heap.size none cA cn cl,bW gW 2 57 w.heap.size none vA vn vl,bW bI2 3 293 w.heap.size none pA pn pl,bW dO 5 74 w.heap.size none eA en el]) (cF hs.old (cF hc.old (cF hv.old (cF hp.old (cF hl.old cX))))) (cG bW.lasts (cG bW.lasts (cG bW.lasts (cG bW.lasts (cG bW.lasts cY)))))) (bR ?_)
 have hell:=hl.len
 obtain ⟨FE,hFE⟩:∃z,z=cN3 sl cl vl pl el:=⟨_,rfl⟩
 obtain ⟨TE,hTE⟩:∃z,z=tpE sl cl vl pl el vk:=⟨_,rfl⟩
 rw [<-hTE]
 have hT0:TE=dG [FE,dI (decide (mI (vhP vk) vl 0 < 0)) 8]:=by rw [hTE,hFE];rfl
 obtain ⟨R,hR⟩:∃z,z=uW el vk:=⟨_,rfl⟩
 rw [<-hR]
 have hR0:zE vk el wM []=R:=by rw [hR];exact eA0 el
 refine fG U U U fun g1=>bX U (bX U (bQ (bH (bR (bB (cU bF6 U (fun _ hm=>hm.blkI 0 U) U U) U (bP U (cH (v:= .int .i64 FE) U fF2 U U (fun wx hm=>(by rw [hFE];exact cN8 sl cl vl pl sA cA vA pA sn sc cn cc vn vc pn pc el eA en ec wx (hm.fact 0 rfl).1 (hm.fact 1 rfl).1 (hm.fact 2 rfl).1 (hm.fact 3 rfl).1 rS bS5 bZ1 hpok yY hcn hvn hpn (hm.fact 4 rfl).1 wJ (by omega))) (bX U (bQ (bR (bP U (bB (gS U U) U (bQ ?_)))))))))))))
 refine gI U (fun h1=>?_) (fun h1=>?_)
 ·refine bR ?_
  have h2:FE≠0:=by simpa using h1
  have h3:TE=FE:=by rw [hT0];exact dE7 h2
  refine bP U (bX U (bX U (bQ (bM (bA ?_)))))
  refine pN U U U fun wx hm=>?_
  exact ⟨none,0,0,by rw [h3],fun h=>absurd h (by rw [h3];exact h2),fun _=>⟨rfl,rfl,rfl⟩,hm.g⟩
 refine bN (bD (bH (bR ?_)))
 have h2:FE=0:=by simpa using h1
 have bK9:bE5 vl:=bE9 (eJ5 (hFE.symm.trans h2)).1
 have hT1:TE=dI (decide (mI (vhP vk) vl 0 < 0)) 8:=by rw [hT0,h2];exact cY5
 refine bB (cU bF6 U (fun _ hm=>hm.blkI 0 U) U U) U (bP U (cH U eM9 U U (fun wx hm=>(bJ2 vl sA cA vA pA sn sc cn cc vn vc pn pc vk wx (hm.fact 2 U).1 (by omega) bK9)) (bB (dE U U) U (bQ ?_))))
 refine cC U (fun h3=>?_) (fun h3=>?_)
 ·refine bR ?_
  have h4:TE=8:=by rw [hT1,decide_eq_true (show mI (vhP vk) vl 0 < 0 by omega)];rfl
  refine bX U (bX U (bQ (bM (bA ?_))))
  refine pN U U U fun wx hm=>?_
  exact ⟨none,0,0,by rw [h4],fun h=>absurd h (by rw [h4];decide),fun _=>⟨rfl,rfl,rfl⟩,hm.g⟩
 refine bN (bD (bR ?_))
 have h4:TE=0:=by rw [hT1,decide_eq_false (show ¬mI (vhP vk) vl 0 < 0 by omega)];rfl
 refine pJ 142 4 ?_
 refine bX U (bQ (bR (dL cZ7 U fun g2=>bQ (bH (bR (bP U (bB (dT jW U) U (bP U (bQ (bO ?_))))))))))
 refine dX (γ:=Nat×Int×ByteArray×Int×Nat×Option Addr×Nat×List Tr) (fun gg=>gg.1<=en/\gg.2.2.2.2.1<=gg.1/\gg.2.2.2.2.2.2.2.length=gg.2.2.2.2.1/\zE vk (el.drop gg.1) ⟨gg.2.1,gg.2.2.1,gg.2.2.2.1⟩ gg.2.2.2.2.2.2.2=R/\(gg.2.1=2->1<=gg.2.2.2.2.1)) (fun gg=> [(2,.string vk),(6,.slice none 0 0),(7,.int .i64 0),(9,.slice gg.2.2.2.2.2.1 gg.2.2.2.2.1 gg.2.2.2.2.2.2.1),(10,.pointer (some ⟨g2,0,none⟩)),(26,.slice eA en ec),(27,.int .i64 ((en:Nat):Int)),(28,.int .i64 ((gg.1:Nat):Int))]) (fun gg=>fun _=>True) (fun gg=> [(g2,138, [.int .i64 gg.2.1,.string gg.2.2.1,.int .i64 gg.2.2.2.1]),(g1,31, [.slice sA sn sc,.slice cA cn cc,.slice vA vn vc,.slice pA pn pc])]) (fun gg=> [⟨.slice gg.2.2.2.2.2.1 gg.2.2.2.2.1 gg.2.2.2.2.2.2.1,142,4,gg.2.2.2.2.1,gg.2.2.2.2.2.2.2.flatMap bG7⟩]) (fun gg=> [bW stEnc 15 99 w.heap.size none sA sn sl,bW dW 2 84 w.heap.size none cA cn cl,bW gW 2 57 w.heap.size none vA vn vl,bW bI2 3 293 w.heap.size none pA pn pl,bW dO 5 74 w.heap.size none eA en el]) (fun gg=>en - gg.1) (0,0,⟨#[]⟩,0,0,none,0, []) ⟨Nat.zero_le _,Nat.le_refl _,U,hR0,(fun h=>by cases h)⟩ ⟨U,U,U,U,U,U,U,U,trivial⟩ (fun _ hm=>hm.pick [0,1] [0] [0,1,2,3,4] U U) ?_
 rintro ⟨i,q0,q1,q2,k,oA,oc,ol⟩ cB
 replace cB:i<=en/\k<=i/\ol.length=k/\zE vk (el.drop i) ⟨q0,q1,q2⟩ ol=R/\(q0=2->1<=k):=cB
 dsimp only
 refine bR ?_
 obtain ⟨hi0,hki,hol,hRR,hq2⟩:=cB
 refine bB (dE U U) U (bQ (bH ?_))
 refine cC U (fun hi=>?_) (fun hi=>?_)
 ·refine bN (bD (bH (bO (bR ?_))))
  obtain ⟨be,oe,hA,_,_⟩:=hl.get (by omega)
  subst hA
  obtain ⟨x,hx⟩:∃x,el[i]?=some x:=⟨_,fW3 (by omega)⟩
  obtain ⟨e0,e1,e2,e3,e4⟩:=x
  rw [eQ6 hx] at hRR
  refine bB (bV (j:=i) jW U U (by omega)) U (bB (dP (vs:= [.int .i64 e0,.string e1,.string e2,.int .i64 e3,.string e4]) fJ U (fun _ hm=>(hm.fact 4 U).1) hx U U) U (dL bX7 U fun g3=>kE (cs':= [.int .i64 e0,.string e1,.string e2,.int .i64 e3,.string e4]) 0 fJ U U U U (bQ (bH (bR (dY qZ U U (eJ fC 0 U U U (bP U (bB (uG U U) U (bQ ?_))))))))))
  refine dC U (fun hh=>?_) (fun hh=>?_)
  ·have hv:(e1.toList==vk.toList)=false:=by simpa using hh
   refine dD (bF (bY (bD (bI ?_))))
   rw [dW9 hv] at hRR
   refine gO U U (bP U (bE ?_))
   exact cN (i+1,q0,q1,q2,k,oA,oc,ol) ⟨by dsimp only;omega,by dsimp only;omega,hol,hRR,hq2⟩ (by dsimp only;omega) ⟨U,U,U,U,U,U,U,(cR (by omega)),trivial⟩ (fun _ hm=>hm.pick [1,2] [0] [0,1,2,3,4] U U)
  have hv:(e1.toList==vk.toList)=true:=by simpa using hh
  refine bN (bD (bR ?_))
  obtain ⟨T0,hT0⟩:∃z,z=fW ⟨q0,q1,q2⟩ (⟨e0,e1,e2,e3,e4⟩:Ev):=⟨_,rfl⟩
  obtain ⟨t0,t1,t2⟩:=T0
  refine bB (cU eI U (fun _ hm=>hm.blkI 1 U) U U) U (bB (cU fJ U (fun _ hm=>hm.blkI 0 U) U U) U (cH (v:= .tuple #[.agg #[.int .i64 t0,.string t1,.int .i64 t2],.bool (fF ⟨q0,q1,q2⟩ (⟨e0,e1,e2,e3,e4⟩:Ev))]) U eV0 U U (fun wx hm=>(by have h:=xU q0 q1 q2 e0 e1 e2 e3 e4 wx;rw [<-hT0] at h;exact h)) (bP U (bB (cP U U) U (bB (cP U U) U (dL cZ7 U fun g4=>kE (cs':= [.int .i64 t0,.string t1,.int .i64 t2]) 0 eI U U U U (bX U (bQ (bH (bO (bR (bP U (bB (cE U) U (bX U (bQ ?_)))))))))))))))
  refine dC U (fun hh=>?_) (fun hh=>?_)
  ·have hg:(fF ⟨q0,q1,q2⟩ (⟨e0,e1,e2,e3,e4⟩:Ev))=false:=by simpa using hh
   refine bN (bG (bD (bI ?_)))
   rw [eB3 hv hg,<-hT0] at hRR
   have hqq:t0=2->1<=k:=fun e=>hq2 (by have h:=hT0;unfold fW at h;rw [if_neg (by rw [hg];decide)] at h;injection h with h _ _;omega)
   refine bB (cU eI U (fun _ hm=>hm.blkI 0 U) U U) U (kE (cs':= [.int .i64 t0,.string t1,.int .i64 t2]) 2 eI U U U U (bE (bG (bD (bI (gO U U (bP U (bE ?_))))))))
   exact cN (i+1,t0,t1,t2,k,oA,oc,ol) ⟨by dsimp only;omega,by dsimp only;omega,hol,hRR,hqq⟩ (by dsimp only;omega) ⟨U,U,U,U,U,U,U,(cR (by omega)),trivial⟩ (fun _ hm=>hm.pick [2,3] [0] [0,1,2,3,4] U U)
  have hg:(fF ⟨q0,q1,q2⟩ (⟨e0,e1,e2,e3,e4⟩:Ev))=true:=by simpa using hh
  refine bR (dY bR2 U U (eJ fP 1 U U U (bB (eL U U) U (bX U (bQ ?_)))))
  refine cC U (fun hk2=>?_) (fun hk2=>?_)
  ·refine bI ?_
   rw [eC3 hv hg (show e3=2 by omega),<-hT0] at hRR
   dsimp only at hRR
   refine bP U (dY mD U U (eJ fP 1 U U U (dY rN U U (eJ fC 1 U U U (bB (dJ (cs:= [.int .i64 e0,.int .i64 (-1),.string e2,.string ⟨#[]⟩]) U (by kernel_rfl)) U (jE 142 [.int .i64 e0,.int .i64 (-1),.string e2,.string ⟨#[]⟩] fun g5=>eB (news:= [.int .i64 e0,.int .i64 (-1),.string e2,.string ⟨#[]⟩]) 0 0 fT1 U U U U U U U (by omega) (by unfold maxLen;omega) U U fun v2 zJ=>?_))))))
   refine dV (R:=∃A cc,v2= .slice A (k+1) cc) (fun wx hm=>dR (hm.ownI 0 U)) ?_
   rintro ⟨A3,c3,rfl⟩
   have xM:ol.flatMap bG7++([.int .i64 e0,.int .i64 (-1),.string e2,.string ⟨#[]⟩]:List Value)=(ol++ [(⟨e0, -1,e2,⟨#[]⟩⟩:Tr)]).flatMap bG7:=by simp [bG7]
   rw [xM]
   refine bX U (bE (bG (bD (bI (bB (cU eI U (fun _ hm=>hm.blkI 1 U) U U) U (kE (cs':= [.int .i64 t0,.string t1,.int .i64 t2]) 3 eI U U U U (bE (bG (bD (bI (gO U U (bP U (bE ?_)))))))))))))
   exact cN (i+1,t0,t1,t2,k+1,A3,c3,ol++ [(⟨e0, -1,e2,⟨#[]⟩⟩:Tr)]) ⟨by dsimp only;omega,by dsimp only;omega,by simp [hol],hRR,(fun _=>by dsimp only;omega)⟩ (by dsimp only;omega) ⟨U,U,U,U,U,U,U,(cR (by omega)),trivial⟩ (fun _ hm=>hm.pick [3,4] [0] [0,1,2,3,4] U U)
  refine bR (dY bR2 U U (eJ fP 1 U U U (bB (eL U U) U (bX U (bQ ?_)))))
  refine cC U (fun hk3=>?_) (fun hk3=>?_)
  ·refine bR ?_
   have hk1:1<=k:=hq2 (bH9 hg (show e3=3 by omega)).1
   obtain ⟨rr,hlast⟩:∃z,ol[k - 1]?=some z:=⟨_,fW3 (by omega)⟩
   obtain ⟨r0,r1,r2,r3⟩:=rr
   rw [dJ5 hv hg (show e3=3 by omega) (by rw [hol];exact hlast),<-hT0,hol] at hRR
   dsimp only at hRR
   have hk2:k - 1 < k:=by omega
   refine dV (R:=∃g,oA=some ⟨g,0,none⟩) (fun wx hm=>xH (hm.ownI 0 U) (by omega)) ?_
   rintro ⟨bo,rfl⟩
   refine bP U (bP U (bB (dT eH5 U) U (bB (ov_sub U U (by omega) (by omega)) U (bK 64 (v':= .int .i64 (((k - 1):Nat):Int)) U (fV3 (by omega)) (bB (bV (j:=(k - 1)) eH5 U U (by omega)) U (bX U (bQ (gd (fun wz=>Blk wz g3 74 [.int .i64 e0,.string e1,.string e2,.int .i64 e3,.string e4]/\True) mixed (fun _ hm=>⟨hm.bl 1,trivial⟩) fun z=>wq 0 U (bL U) (wq 1 U (bL U) (wq 2 U (bS mD U U) (wq 3 U (cQ fP U (fun _ hm=>hm.1) U) (wq 4 U (bS rN U U) (wq 5 U (cQ fC U (fun _ hm=>hm.1) U) (wq 6 U (dA U) (wq 7 U (bS eL1 U U) (eG 8 U (fY (l:=ol) (j:=(k - 1)) (r:=1) (el:=⟨r0,r1,r2,r3⟩) (el':=⟨r0,e0,r2,r3⟩) 0 fP U U U U dO0 U hlast hol (show 1 < 4 by decide) U U (bE (nw 12 511 (fun _ hm=>⟨hm.bl 1,trivial⟩) fun z=>wq 9 U (dA U) (wq 10 U (bS eM1 U U) (eG 11 U ?_)))))))))))))))))))))
   refine fY (l:=(ol.set (k - 1) ⟨r0,e0,r2,r3⟩)) (j:=(k - 1)) (r:=3) (el:=⟨r0,e0,r2,r3⟩) (el':=⟨r0,e0,r2,e2⟩) 0 fC U U U U dO0 U (by rw [List.getElem?_set_self (by omega)]) (by rw [List.length_set];exact hol) (show 3 < 4 by decide) U U ?_
   refine bE (nw 12 4095 (fun _ hm=>⟨hm.bl 1,trivial⟩) fun z=>jO (bG (bD (bI (bB (cU eI U (fun _ hm=>hm.blkI 0 U) U U) U (kE (cs':= [.int .i64 t0,.string t1,.int .i64 t2]) 2 eI U U U U (bE (bG (bD (bI (gO U U (bP U (bE ?_)))))))))))))
   have hss:((ol.set (k - 1) ⟨r0,e0,r2,r3⟩).set (k - 1) ⟨r0,e0,r2,e2⟩).flatMap bG7=(ol.set (k - 1) ⟨r0,e0,r2,e2⟩).flatMap bG7:=by rw [List.set_set]
   rw [hss]
   exact cN (i+1,t0,t1,t2,k,some ⟨bo,0,none⟩,oc,ol.set (k - 1) ⟨r0,e0,r2,e2⟩) ⟨by dsimp only;omega,by dsimp only;omega,by simp [hol],hRR,fun _=>hk1⟩ (by dsimp only;omega) ⟨U,U,U,U,U,U,U,(cR (by omega)),trivial⟩ (fun _ hm=>hm.pick [2,3] [0] [0,1,2,3,4] U U)
  refine bN (bG (bD (bI ?_)))
  rw [dV9 hv hg (show e3≠2 by omega) (show e3≠3 by omega),<-hT0] at hRR
  have hqq:t0=2->1<=k:=fun e=>by
   have h:=(cA2 hg (show e3≠2 by omega) (show e3≠3 by omega)).2
   rw [<-bM1 hg,<-hT0] at h
   exact absurd e h
  refine bB (cU eI U (fun _ hm=>hm.blkI 0 U) U U) U (kE (cs':= [.int .i64 t0,.string t1,.int .i64 t2]) 2 eI U U U U (bE (bG (bD (bI (gO U U (bP U (bE ?_))))))))
  exact cN (i+1,t0,t1,t2,k,oA,oc,ol) ⟨by dsimp only;omega,by dsimp only;omega,hol,hRR,hqq⟩ (by dsimp only;omega) ⟨U,U,U,U,U,U,U,(cR (by omega)),trivial⟩ (fun _ hm=>hm.pick [2,3] [0] [0,1,2,3,4] U U)
 refine dD (bF (bF (bY (bD (bR ?_)))))
 have xV:ol=R:=by rw [List.drop_eq_nil_of_le (by omega)] at hRR;exact hRR
 refine bP U (bX U (bX U (bQ (bM ?_))))
 refine pN U U U fun wx hm=>?_
 exact ⟨oA,k,oc,by rw [h4],fun _=>by rw [<-xV];exact SlT.ofOwn dO0 (hm.ownI 0 rfl) hol,fun h=>absurd h4 h,hm.g⟩
section
variable {sl:List St} {cl:List Cs} {vl:List Vh} {l:List Int} {σ:Os}
theorem uX.inlog (h:uX sl cl vl l σ) {k:ByteArray} {y:Hg} (hy:σ.fh k=some y):∀x∈nC y.legs,x∈σ.lg:=by
 intro x hx
 obtain ⟨g,hg,hx⟩:=List.mem_flatMap.1 hx
 obtain ⟨_,h1,h2⟩:=(h.li.hv k y hy).2.2 g hg
 unfold bV9 at hx
 rcases List.mem_cons.1 hx with rfl|hx
 ·exact h1
 ·by_cases e:g.inn.at_= -1
  ·rw [if_pos e] at hx;cases hx
  ·rw [if_neg e] at hx
   rw [List.mem_singleton.1 hx];exact h2 e
theorem uX.tie (h:uX sl cl vl l σ) {k:ByteArray} {y:Hg} (hy:σ.fh k=some y):bL8 (nC y.legs):=by
 intro u hu v hv h0
 rw [vK] at h0
 exact h.run.facts.2.1.one u (h.inlog hy u hu) v (h.inlog hy v hv) h0.1 h0.2
def vhS (F:ByteArray->Int):List Vh->Int
 | []=>0
 |v::r=>F v.key+vhS F r
theorem cD5 {F G:ByteArray->Int}:∀{l:List Vh},vhS (fun v=>F v+G v) l=vhS F l+vhS G l
 | []=>rfl
 |v::r=>by
  have ih:=cD5 (F:=F) (G:=G) (l:=r)
  show F v.key+G v.key+vhS (fun v=>F v+G v) r=F v.key+vhS F r+(G v.key+vhS G r)
  rw [ih];omega
theorem bW4:∀{l:List Vh},vhS (fun _=>0) l=0
 | []=>rfl
 |v::r=>by
  have ih:=bW4 (l:=r)
  show 0+vhS (fun _=>0) r=0
  rw [ih];rfl
theorem dT2 {F:ByteArray->Int}:∀{l m:List Vh},vhS F (l++m)=vhS F l+vhS F m
 | [],m=>by show _=0+_;rw [Int.zero_add];rfl
 |v::r,m=>by
  have ih:=dT2 (F:=F) (l:=r) (m:=m)
  show _+vhS F (r++m)=_+vhS F r+_
  rw [ih];omega
theorem eT6 {F:ByteArray->Int} {l:List Vh} {i:Nat} {v:Vh} (h:l[i]?=some v):vhS F (l.take (i+1))=vhS F (l.take i)+F v.key:=by
 rw [List.take_add_one,h,Option.toList_some,dT2]
 show _+(_+0)=_
 omega
theorem cW7 {b:ByteArray}:∀{l:List Vh},(¬∃v∈l,v.key=b)->vhS (fun v=>if (b.toList==v.toList)=true then 1 else 0) l=0
 | [],_=>rfl
 |v::r,h=>by
  have ih:=cW7 (b:=b) (l:=r) fun ⟨u,hu,e⟩=>h ⟨u,List.mem_cons_of_mem _ hu,e⟩
  show (if (b.toList==v.key.toList)=true then (1:Int) else 0)+vhS _ r=0
  rw [if_neg (fun q=>h ⟨v,List.mem_cons_self ..,(uD.1 q).symm⟩),ih];rfl
theorem dU2 {b:ByteArray}:∀{l:List Vh},(l.map Vh.key).Nodup->(∃v∈l,v.key=b)->vhS (fun v=>if (b.toList==v.toList)=true then 1 else 0) l=1
 | [],_,⟨_,h,_⟩=>by cases h
 |v::r,hn,⟨u,hu,e⟩=>by
  rw [List.map_cons,List.nodup_cons] at hn
  show (if (b.toList==v.key.toList)=true then (1:Int) else 0)+vhS _ r=1
  by_cases hb:(b.toList==v.key.toList)=true
  ·rw [if_pos hb,cW7 fun ⟨u2,hu2,e2⟩=>hn.1 (List.mem_map.2 ⟨u2,hu2,e2.trans (uD.1 hb)⟩)];rfl
  ·rw [if_neg hb,dU2 hn.2 ⟨u,(List.mem_cons.1 hu).resolve_left fun q=>hb (uD.2 (by rw [<-e,q])),e⟩];rfl
theorem cV7 (hn:(vl.map Vh.key).Nodup):∀{l:List Lg},(∀g∈l,∃v∈vl,v.key=g.veh)->vhS (fun v=>lgS (fun _ _=>1) v l) vl=(l.length:Int)
 | [],_=>bW4
 |g::r,h=>by
  have ih:=cV7 hn (l:=r) fun x hx=>h x (List.mem_cons_of_mem _ hx)
  have e:vhS (fun v=>lgS (fun _ _=>1) v (g::r)) vl=vhS (fun v=>if (g.veh.toList==v.toList)=true then 1 else 0) vl+vhS (fun v=>lgS (fun _ _=>1) v r) vl:=cD5
  rw [e,ih,dU2 hn (h g (List.mem_cons_self ..)),List.length_cons];omega
def nK (f:ByteArray->Option Hg):List ByteArray->Int
 | []=>0
 |k::r=>((f k).elim 0 fun y=>(y.legs.length:Int))+nK f r
theorem dR8 {f:ByteArray->Option Hg}:∀{l m:List ByteArray},nK f (l++m)=nK f l+nK f m
 | [],m=>by show _=0+_;rw [Int.zero_add];rfl
 |k::r,m=>by
  have ih:=dR8 (f:=f) (l:=r) (m:=m)
  show _+nK f (r++m)=_+nK f r+_
  rw [ih];omega
theorem fQ0 {f:ByteArray->Option Hg} {l:List ByteArray} {i:Nat} {k:ByteArray} {y:Hg} (h:l[i]?=some k) (hy:f k=some y):nK f (l.take (i+1))=nK f (l.take i)+(y.legs.length:Int):=by
 rw [List.take_add_one,h,Option.toList_some,dR8]
 show _+(((f k).elim 0 fun y=>(y.legs.length:Int))+0)=_
 rw [hy]
 show _+((y.legs.length:Int)+0)=_
 omega
theorem uX.vhS_kS (h:uX sl cl vl l σ) (hn:(vl.map Vh.key).Nodup):∀{ks:List ByteArray},vhS (fun v=>kS (fun _ _=>1) v σ.fh ks) vl=nK σ.fh ks
 | []=>bW4
 |k::r=>by
  have ih:=h.vhS_kS hn (ks:=r)
  have e:vhS (fun v=>kS (fun _ _=>1) v σ.fh (k::r)) vl=vhS (fun v=>oS (fun _ _=>1) v (σ.fh k)) vl+vhS (fun v=>kS (fun _ _=>1) v σ.fh r) vl:=cD5
  rw [e,ih]
  show _=((σ.fh k).elim 0 fun y=>(y.legs.length:Int))+_
  cases hy:σ.fh k with
  |none=>rw [show vhS (fun v=>oS (fun _ _=>1) v none) vl=0 from bW4];rfl
  |some y=>
   have e2:vhS (fun v=>oS (fun _ _=>1) v (some y)) vl=(y.legs.length:Int):=cV7 hn fun g hg=>bL6 ((h.li.hv k y hy).2.2 g hg).1
   rw [e2];rfl
theorem uX.count (h:uX sl cl vl l σ) (hv:(vl.map Vh.key).Nodup) {ks:List ByteArray} (hn:ks.Nodup) (hk:∀k,k∈ks↔(σ.fh k).isSome=true):vhS (fun v=>((uW (dS dU σ.lg) v).length:Int)) vl=nK σ.fh (nP ks):=by
 rw [<-h.vhS_kS hv]
 refine congrArg (fun F=>vhS F vl) (funext fun v=>?_)
 rw [<-dR2]
 exact dX4 h.run (fun a ha=>(h.tm a ha).1) h.up _ v ((bC3 ks).nodup_iff.2 hn) fun k hk2=>(bC3 ks).mem_iff.2 ((hk k).2 hk2)
theorem uX.tp (h:uX sl cl vl l σ) (hf:mJ sl cl vl []=0) {i:Nat} {x:Vh} (hx:vl[i]?=some x):tpE sl cl vl [] (dS dU σ.lg) x.key=0:=by
 unfold tpE
 rw [h.evs hf,decide_eq_false (eR6 hx)]
 rfl
theorem dL5 {el:List Ev} {v:ByteArray}:(uW el v).length<=el.length+1:=by
 have h1:=dP2 (uU el v) ⟨#[]⟩
 have h2:=bR4 (v:=v) (l:=el) (s:=wM)
 unfold uU at h1
 rw [List.length_cons] at h1
 unfold uW uU
 omega
end
def nS (x:Cd):List Value:= [.string x.key,.string x.cls,.int .i64 x.fr,.int .i64 x.to_,.int .i64 x.days,.int .i64 x.mille]
theorem bP2 (x:Cd):(nS x).length=6:=rfl
theorem cL2 {l:List Cd} {k:Nat} {b:Cd} (h:keyB b.key=true):leB b.key (yH l k)=cT6 (prevOf l k) b:=by
 unfold yH cT6
 cases prevOf l k with
 |none=>exact dR1 h
 |some q=>rfl
theorem bQ8 (l:List Cd) (A:Option Addr) (n c:Nat) (w:World) (hl:SlT nS 6 260 w A n l) (hok:∀b∈l,zG b) (hn:n<=1000000):
 Calls prog 166 #[.slice A n c] w (mP w (rY l)):=by
 refine cS ⟨68,w,none, []⟩ func166 U ntmps166 U (gM (X:= [bW nS 6 260 w.heap.size none A n l]) (cF hl.old cX) (cG bW.lasts cY)) (bR ?_)
 have hlen:=hl.len
 refine bX U (bQ (bH (bR (bP U (bB (dT cG1 U) U (bB (eK U U) U (bQ ?_)))))))
 refine cC U (fun h1=>?_) (fun h1=>?_)
 ·refine bR (bX U (bQ ?_))
  refine bM (bA ?_)
  exact bJ U U fun wx hm=>⟨bT (by unfold rY;rw [if_pos (by omega)]),hm.g⟩
 refine bN (bD (bH (bR (bP U (bB (dT cG1 U) U (bP U (bQ (bO ?_))))))))
 refine dX (γ:=Nat) (fun (k:Nat)=>k<=n/\rY l=scanE eX (prevOf l k) (l.drop k)) (fun (k:Nat)=> [(0,.slice A n c),(8,.slice A n c),(9,.int .i64 ((n:Nat):Int)),(10,.int .i64 ((k:Nat):Int))]) (fun (k:Nat)=>fun _=>True) (fun (k:Nat)=> []) (fun (k:Nat)=> []) (fun (k:Nat)=> [bW nS 6 260 w.heap.size none A n l]) (fun (k:Nat)=>n - k) 0 ⟨Nat.zero_le _,by unfold rY;rw [if_neg (by omega)];rfl⟩ ⟨U,U,U,U,trivial⟩ (fun _ hm=>hm.pick [] [] [0] U U) ?_
 intro k cB
 replace cB:k<=n/\rY l=scanE eX (prevOf l k) (l.drop k):=cB
 refine bR (bB (dE U U) U (bQ (bH ?_)))
 refine cC U (fun hk=>?_) (fun hk=>?_)
 ·refine bN (bD (bH (bO (bR ?_))))
  obtain ⟨b,off,hA,_,_⟩:=hl.get (by omega)
  subst hA
  obtain ⟨x,hx⟩:∃x,l[k]?=some x:=⟨_,fW3 (by omega)⟩
  obtain ⟨ke,cl,fr,tt,dy,mi⟩:=x
  have hat:=scanE_at eX l k _ hx
  have hk1:ke.size<=1000000:=(hok _ (fX3 hx)).1
  have hk2:cl.size<=1000000:=(hok _ (fX3 hx)).2
  refine bP U (bB (bV (j:=k) cG1 U U (by omega)) U (bB (dP (vs:= [.string ke,.string cl,.int .i64 fr,.int .i64 tt,.int .i64 dy,.int .i64 mi]) dG2 U (fun _ hm=>(hm.fact 0 U).1) hx U U) U (dL eQ4 U fun g1=>bX U (kE (cs':= [.string ke,.string cl,.int .i64 fr,.int .i64 tt,.int .i64 dy,.int .i64 mi]) 0 dG2 U U U U (bQ (bO (bR (dY uZ U U (eJ fC 0 U U U (cZ U bW1 U U (fun wx hm=>(isKey_any _ wx (by omega))) (bB (cE U) U (bX U (bQ ?_)))))))))))))
  refine dC U (fun hh=>?_) (fun hh=>?_)
  ·have h2:(keyB ke)=false:=by simpa using hh
   refine bR (bX U (bQ (bM (bC (bC (bA (bA (bC (bA ?_)))))))))
   have hE:eX (prevOf l k) ⟨ke,cl,fr,tt,dy,mi⟩=5:=by unfold eX;simp [h2]
   exact bJ U U fun wx hm=>⟨bT (by rw [cB.2,hat,if_neg (by rw [hE];decide),hE]),hm.g⟩
  have h2:(keyB ke)=true:=by simpa using hh
  refine bH ?_
  by_cases hk0:k=0
  ·have hO:cT6 (prevOf l k) ⟨ke,cl,fr,tt,dy,mi⟩=false:=by rw [mH hk0];rfl
   refine gd (fun wz=>True) mixed (fun _ _=>trivial) fun z=>wq 0 U (bL U) (wq 1 U (eK U U) (dH 22 (v':= .bool false) U (fU3 (decide_eq_false (by omega))) (wq 2 U (bL U) (fD 3 U (fD 4 U (fD 5 U (fD 6 U (fD 7 U (fD 8 U (fD 9 U (fD 10 U (fD 11 U (wq 12 U (fO U U) (wq 13 U (cV U) (jO (bD (jQ U (bR (dY bW0 U U (eJ fC 0 U U U (bB (uG U U) U (bP U ?_))))))))))))))))))))))
   rcases Bool.eq_false_or_eq_true (!(cl.toList==(⟨#[]⟩:ByteArray).toList)) with mX|mX
   ·refine bK 38 U (fU3 mX) ?_
    have mX:jG cl=false:=by unfold jG;simpa only [Bool.not_eq_true'] using mX
    refine eE U (dY bW0 U U (eE U (eJ fC 0 U U U (eE U (cZ U bW1 U U (fun wx hm=>(isKey_any _ wx (by omega))) (eE U (bB (cE U) U (mN U U (bX U (bQ ?_))))))))))
    refine dC U (fun hh=>?_) (fun hh=>?_)
    ·have zL:(keyB cl)=false:=by simpa using hh
     refine bR (bX U (bQ (bM (bC (bC (bA (bA (bC (bA ?_)))))))))
     have hE:eX (prevOf l k) ⟨ke,cl,fr,tt,dy,mi⟩=5:=by unfold eX;simp [h2,hO,mX,zL]
     exact bJ U U fun wx hm=>⟨bT (by rw [cB.2,hat,if_neg (by rw [hE];decide),hE]),hm.g⟩
    have zL:(keyB cl)=true:=by simpa using hh
    refine bR (dY bX0 U U (eJ fP 0 U U U (dY qW U U (eJ fP 0 U U U (cZ U qA U U (fun wx hm=>(in_any _ _ _ wx)) (bB (cE U) U (bP U ?_)))))))
    rcases Bool.eq_false_or_eq_true (!(inB fr 0 tt)) with h4|h4
    ·refine bK 51 U (fU3 h4) ?_
     refine dZ U (dZ U (dZ U (mN U U (bX U (bQ (kP U (bR (bX U (bQ (bM (bC (bC (bA (bA (bC (bA ?_))))))))))))))))
     have hE:eX (prevOf l k) ⟨ke,cl,fr,tt,dy,mi⟩=1:=by unfold eX;simp [h2,hO,mX,zL,h4]
     exact bJ U U fun wx hm=>⟨bT (by rw [cB.2,hat,if_neg (by rw [hE];decide),hE]),hm.g⟩
    refine bK 51 U (fU3 h4) (eE U (dY qW U U (eE U (eJ fP 0 U U U (eE U (bB (eK U U) U (nR U U (bX U (bQ ?_)))))))))
    refine cC U (fun h5=>?_) (fun h5=>?_)
    ·refine bR (bX U (bQ ?_))
     refine bM (bC (bC (bA (bA (bC (bA ?_))))))
     have hE:eX (prevOf l k) ⟨ke,cl,fr,tt,dy,mi⟩=1:=by unfold eX;simp [h2,hO,mX,zL,h4,h5]
     exact bJ U U fun wx hm=>⟨bT (by rw [cB.2,hat,if_neg (by rw [hE];decide),hE]),hm.g⟩
    refine bR (dY xS U U (eJ fP 0 U U U (cZ U qA U U (fun wx hm=>(in_any _ _ _ wx)) (bB (cE U) U (bP U ?_)))))
    rcases Bool.eq_false_or_eq_true (!(inB dy 1 120)) with h6|h6
    ·refine bK 61 U (fU3 h6) ?_
     refine dZ U (dZ U (dZ U (dZ U (mN U U (bX U (bQ (kP U (bR (bX U (bQ (bM (bC (bC (bA (bA (bC (bA ?_)))))))))))))))))
     have hE:eX (prevOf l k) ⟨ke,cl,fr,tt,dy,mi⟩=1:=by unfold eX;simp [h2,hO,mX,zL,h4,h5,h6]
     exact bJ U U fun wx hm=>⟨bT (by rw [cB.2,hat,if_neg (by rw [hE];decide),hE]),hm.g⟩
    refine bK 61 U (fU3 h6) (eE U (dY xT U U (eE U (eJ fP 0 U U U (eE U (cZ U qA U U (fun wx hm=>(in_any _ _ _ wx)) (eE U (bB (cE U) U (nR U U (bX U (bQ ?_)))))))))))
    refine dC U (fun hh=>?_) (fun hh=>?_)
    ·have h7:(inB mi 1 1000)=false:=by simpa using hh
     refine bR (bX U (bQ (bM (bC (bC (bA (bA (bC (bA ?_)))))))))
     have hE:eX (prevOf l k) ⟨ke,cl,fr,tt,dy,mi⟩=1:=by unfold eX;simp [h2,hO,mX,zL,h4,h5,h6,h7]
     exact bJ U U fun wx hm=>⟨bT (by rw [cB.2,hat,if_neg (by rw [hE];decide),hE]),hm.g⟩
    have h7:(inB mi 1 1000)=true:=by simpa using hh
    refine bN (bG (bG (bD (bI ?_))))
    have hE:eX (prevOf l k) ⟨ke,cl,fr,tt,dy,mi⟩=0:=by unfold eX;simp [h2,hO,mX,zL,h4,h5,h6,h7]
    refine gO U U (bP U (bE ?_))
    exact cN (k+1) ⟨by omega,by rw [cB.2,hat,if_pos hE]⟩ (by omega) ⟨U,U,U,(cR (by omega)),trivial⟩ (fun _ hm=>hm.pick [] [] [0] U U)
   refine bK 38 U (fU3 mX) ?_
   have mX:jG cl=true:=by unfold jG;simpa only [Bool.not_eq_false'] using mX
   refine dZ U (dZ U (dZ U (dZ U (nR U U (bX U (bQ (jQ U (bR (dY bX0 U U (eJ fP 0 U U U (dY qW U U (eJ fP 0 U U U (cZ U qA U U (fun wx hm=>(in_any _ _ _ wx)) (bB (cE U) U (bP U ?_)))))))))))))))
   rcases Bool.eq_false_or_eq_true (!(inB fr 0 tt)) with h4|h4
   ·refine bK 51 U (fU3 h4) ?_
    refine dZ U (dZ U (dZ U (mN U U (bX U (bQ (kP U (bR (bX U (bQ (bM (bC (bC (bA (bA (bC (bA ?_))))))))))))))))
    have hE:eX (prevOf l k) ⟨ke,cl,fr,tt,dy,mi⟩=1:=by unfold eX;simp [h2,hO,mX,h4]
    exact bJ U U fun wx hm=>⟨bT (by rw [cB.2,hat,if_neg (by rw [hE];decide),hE]),hm.g⟩
   refine bK 51 U (fU3 h4) (eE U (dY qW U U (eE U (eJ fP 0 U U U (eE U (bB (eK U U) U (nR U U (bX U (bQ ?_)))))))))
   refine cC U (fun h5=>?_) (fun h5=>?_)
   ·refine bR (bX U (bQ ?_))
    refine bM (bC (bC (bA (bA (bC (bA ?_))))))
    have hE:eX (prevOf l k) ⟨ke,cl,fr,tt,dy,mi⟩=1:=by unfold eX;simp [h2,hO,mX,h4,h5]
    exact bJ U U fun wx hm=>⟨bT (by rw [cB.2,hat,if_neg (by rw [hE];decide),hE]),hm.g⟩
   refine bR (dY xS U U (eJ fP 0 U U U (cZ U qA U U (fun wx hm=>(in_any _ _ _ wx)) (bB (cE U) U (bP U ?_)))))
   rcases Bool.eq_false_or_eq_true (!(inB dy 1 120)) with h6|h6
   ·refine bK 61 U (fU3 h6) ?_
    refine dZ U (dZ U (dZ U (dZ U (mN U U (bX U (bQ (kP U (bR (bX U (bQ (bM (bC (bC (bA (bA (bC (bA ?_)))))))))))))))))
    have hE:eX (prevOf l k) ⟨ke,cl,fr,tt,dy,mi⟩=1:=by unfold eX;simp [h2,hO,mX,h4,h5,h6]
    exact bJ U U fun wx hm=>⟨bT (by rw [cB.2,hat,if_neg (by rw [hE];decide),hE]),hm.g⟩
   refine bK 61 U (fU3 h6) (eE U (dY xT U U (eE U (eJ fP 0 U U U (eE U (cZ U qA U U (fun wx hm=>(in_any _ _ _ wx)) (eE U (bB (cE U) U (nR U U (bX U (bQ ?_)))))))))))
   refine dC U (fun hh=>?_) (fun hh=>?_)
   ·have h7:(inB mi 1 1000)=false:=by simpa using hh
    refine bR (bX U (bQ (bM (bC (bC (bA (bA (bC (bA ?_)))))))))
    have hE:eX (prevOf l k) ⟨ke,cl,fr,tt,dy,mi⟩=1:=by unfold eX;simp [h2,hO,mX,h4,h5,h6,h7]
    exact bJ U U fun wx hm=>⟨bT (by rw [cB.2,hat,if_neg (by rw [hE];decide),hE]),hm.g⟩
   have h7:(inB mi 1 1000)=true:=by simpa using hh
   refine bN (bG (bG (bD (bI ?_))))
   have hE:eX (prevOf l k) ⟨ke,cl,fr,tt,dy,mi⟩=0:=by unfold eX;simp [h2,hO,mX,h4,h5,h6,h7]
   refine gO U U (bP U (bE ?_))
   exact cN (k+1) ⟨by omega,by rw [cB.2,hat,if_pos hE]⟩ (by omega) ⟨U,U,U,(cR (by omega)),trivial⟩ (fun _ hm=>hm.pick [] [] [0] U U)
  obtain ⟨y,hy⟩:∃x,l[k - 1]?=some x:=⟨_,fW3 (by omega)⟩
  obtain ⟨p0,p1,p2,p3,p4,p5⟩:=y
  refine gd (fun wz=>Blk wz g1 260 [.string ke,.string cl,.int .i64 fr,.int .i64 tt,.int .i64 dy,.int .i64 mi]/\(bW nS 6 260 w.heap.size none (some ⟨b,off,none⟩) n l) wz/\True) mixed (fun _ hm=>⟨hm.bl 0,hm.fa 0,trivial⟩) fun z=>wq 0 U (bL U) (wq 1 U (eK U U) (dH 22 (v':= .bool true) U (fU3 (decide_eq_true (by omega))) (wq 2 U (bL U) (fI 3 U (bS uZ U U) (fI 4 U (cQ fC U (fun _ hm=>hm.1) U) (fI 5 U (bL U) (fI 6 U (bL U) (fI 7 U (ov_sub U U (by omega) (by omega)) (dH 28 (v':= .int .i64 ((k - 1:Nat):Int)) U (fV3 (by omega)) (fI 8 U (bV (j:=k - 1) cG1 U U (by omega)) (fI 9 U (bS uZ U U) (fI 10 U (dK (k:=0) (v:= .string p0) fC U (fun _ hm=>(hm.2.1).1) hy U U) (fI 11 U (wG U U) (wq 12 U (fE U U) (wq 13 U (cV U) (jO (bD ?_)))))))))))))))))
  refine dC U (fun hh=>?_) (fun hh=>?_)
  ·have h9:(Op.bytesLess ke.toList p0.toList||ke.toList==p0.toList)=true:=by simpa using hh
   refine bR ?_
   have hO:cT6 (prevOf l k) ⟨ke,cl,fr,tt,dy,mi⟩=true:=by rw [jT hk0 hy];exact h9
   refine bX U (bQ (bM (bC (bC (bA (bA (bC (bA ?_))))))))
   have hE:eX (prevOf l k) ⟨ke,cl,fr,tt,dy,mi⟩=7:=by unfold eX;simp [h2,hO]
   exact bJ U U fun wx hm=>⟨bT (by rw [cB.2,hat,if_neg (by rw [hE];decide),hE]),hm.g⟩
  have h9:(Op.bytesLess ke.toList p0.toList||ke.toList==p0.toList)=false:=by simpa using hh
  refine bR ?_
  have hO:cT6 (prevOf l k) ⟨ke,cl,fr,tt,dy,mi⟩=false:=by rw [jT hk0 hy];exact h9
  refine dY bW0 U U (eJ fC 0 U U U (bB (uG U U) U (bP U ?_)))
  rcases Bool.eq_false_or_eq_true (!(cl.toList==(⟨#[]⟩:ByteArray).toList)) with mX|mX
  ·refine bK 38 U (fU3 mX) ?_
   have mX:jG cl=false:=by unfold jG;simpa only [Bool.not_eq_true'] using mX
   refine eE U (dY bW0 U U (eE U (eJ fC 0 U U U (eE U (cZ U bW1 U U (fun wx hm=>(isKey_any _ wx (by omega))) (eE U (bB (cE U) U (mN U U (bX U (bQ ?_))))))))))
   refine dC U (fun hh=>?_) (fun hh=>?_)
   ·have zL:(keyB cl)=false:=by simpa using hh
    refine bR (bX U (bQ (bM (bC (bC (bA (bA (bC (bA ?_)))))))))
    have hE:eX (prevOf l k) ⟨ke,cl,fr,tt,dy,mi⟩=5:=by unfold eX;simp [h2,hO,mX,zL]
    exact bJ U U fun wx hm=>⟨bT (by rw [cB.2,hat,if_neg (by rw [hE];decide),hE]),hm.g⟩
   have zL:(keyB cl)=true:=by simpa using hh
   refine bR (dY bX0 U U (eJ fP 0 U U U (dY qW U U (eJ fP 0 U U U (cZ U qA U U (fun wx hm=>(in_any _ _ _ wx)) (bB (cE U) U (bP U ?_)))))))
   rcases Bool.eq_false_or_eq_true (!(inB fr 0 tt)) with h4|h4
   ·refine bK 51 U (fU3 h4) ?_
    refine dZ U (dZ U (dZ U (mN U U (bX U (bQ (kP U (bR (bX U (bQ (bM (bC (bC (bA (bA (bC (bA ?_))))))))))))))))
    have hE:eX (prevOf l k) ⟨ke,cl,fr,tt,dy,mi⟩=1:=by unfold eX;simp [h2,hO,mX,zL,h4]
    exact bJ U U fun wx hm=>⟨bT (by rw [cB.2,hat,if_neg (by rw [hE];decide),hE]),hm.g⟩
   refine bK 51 U (fU3 h4) (eE U (dY qW U U (eE U (eJ fP 0 U U U (eE U (bB (eK U U) U (nR U U (bX U (bQ ?_)))))))))
   refine cC U (fun h5=>?_) (fun h5=>?_)
   ·refine bR (bX U (bQ ?_))
    refine bM (bC (bC (bA (bA (bC (bA ?_))))))
    have hE:eX (prevOf l k) ⟨ke,cl,fr,tt,dy,mi⟩=1:=by unfold eX;simp [h2,hO,mX,zL,h4,h5]
    exact bJ U U fun wx hm=>⟨bT (by rw [cB.2,hat,if_neg (by rw [hE];decide),hE]),hm.g⟩
   refine bR (dY xS U U (eJ fP 0 U U U (cZ U qA U U (fun wx hm=>(in_any _ _ _ wx)) (bB (cE U) U (bP U ?_)))))
   rcases Bool.eq_false_or_eq_true (!(inB dy 1 120)) with h6|h6
   ·refine bK 61 U (fU3 h6) ?_
    refine dZ U (dZ U (dZ U (dZ U (mN U U (bX U (bQ (kP U (bR (bX U (bQ (bM (bC (bC (bA (bA (bC (bA ?_)))))))))))))))))
    have hE:eX (prevOf l k) ⟨ke,cl,fr,tt,dy,mi⟩=1:=by unfold eX;simp [h2,hO,mX,zL,h4,h5,h6]
    exact bJ U U fun wx hm=>⟨bT (by rw [cB.2,hat,if_neg (by rw [hE];decide),hE]),hm.g⟩
   refine bK 61 U (fU3 h6) (eE U (dY xT U U (eE U (eJ fP 0 U U U (eE U (cZ U qA U U (fun wx hm=>(in_any _ _ _ wx)) (eE U (bB (cE U) U (nR U U (bX U (bQ ?_)))))))))))
   refine dC U (fun hh=>?_) (fun hh=>?_)
   ·have h7:(inB mi 1 1000)=false:=by simpa using hh
    refine bR (bX U (bQ (bM (bC (bC (bA (bA (bC (bA ?_)))))))))
    have hE:eX (prevOf l k) ⟨ke,cl,fr,tt,dy,mi⟩=1:=by unfold eX;simp [h2,hO,mX,zL,h4,h5,h6,h7]
    exact bJ U U fun wx hm=>⟨bT (by rw [cB.2,hat,if_neg (by rw [hE];decide),hE]),hm.g⟩
   have h7:(inB mi 1 1000)=true:=by simpa using hh
   refine bN (bG (bG (bD (bI ?_))))
   have hE:eX (prevOf l k) ⟨ke,cl,fr,tt,dy,mi⟩=0:=by unfold eX;simp [h2,hO,mX,zL,h4,h5,h6,h7]
   refine gO U U (bP U (bE ?_))
   exact cN (k+1) ⟨by omega,by rw [cB.2,hat,if_pos hE]⟩ (by omega) ⟨U,U,U,(cR (by omega)),trivial⟩ (fun _ hm=>hm.pick [] [] [0] U U)
  refine bK 38 U (fU3 mX) ?_
  have mX:jG cl=true:=by unfold jG;simpa only [Bool.not_eq_false'] using mX
  refine dZ U (dZ U (dZ U (dZ U (nR U U (bX U (bQ (jQ U (bR (dY bX0 U U (eJ fP 0 U U U (dY qW U U (eJ fP 0 U U U (cZ U qA U U (fun wx hm=>(in_any _ _ _ wx)) (bB (cE U) U (bP U ?_)))))))))))))))
  rcases Bool.eq_false_or_eq_true (!(inB fr 0 tt)) with h4|h4
  ·refine bK 51 U (fU3 h4) ?_
   refine dZ U (dZ U (dZ U (mN U U (bX U (bQ (kP U (bR (bX U (bQ (bM (bC (bC (bA (bA (bC (bA ?_))))))))))))))))
   have hE:eX (prevOf l k) ⟨ke,cl,fr,tt,dy,mi⟩=1:=by unfold eX;simp [h2,hO,mX,h4]
   exact bJ U U fun wx hm=>⟨bT (by rw [cB.2,hat,if_neg (by rw [hE];decide),hE]),hm.g⟩
  refine bK 51 U (fU3 h4) (eE U (dY qW U U (eE U (eJ fP 0 U U U (eE U (bB (eK U U) U (nR U U (bX U (bQ ?_)))))))))
  refine cC U (fun h5=>?_) (fun h5=>?_)
  ·refine bR (bX U (bQ ?_))
   refine bM (bC (bC (bA (bA (bC (bA ?_))))))
   have hE:eX (prevOf l k) ⟨ke,cl,fr,tt,dy,mi⟩=1:=by unfold eX;simp [h2,hO,mX,h4,h5]
   exact bJ U U fun wx hm=>⟨bT (by rw [cB.2,hat,if_neg (by rw [hE];decide),hE]),hm.g⟩
  refine bR (dY xS U U (eJ fP 0 U U U (cZ U qA U U (fun wx hm=>(in_any _ _ _ wx)) (bB (cE U) U (bP U ?_)))))
  rcases Bool.eq_false_or_eq_true (!(inB dy 1 120)) with h6|h6
  ·refine bK 61 U (fU3 h6) ?_
   refine dZ U (dZ U (dZ U (dZ U (mN U U (bX U (bQ (kP U (bR (bX U (bQ (bM (bC (bC (bA (bA (bC (bA ?_)))))))))))))))))
   have hE:eX (prevOf l k) ⟨ke,cl,fr,tt,dy,mi⟩=1:=by unfold eX;simp [h2,hO,mX,h4,h5,h6]
   exact bJ U U fun wx hm=>⟨bT (by rw [cB.2,hat,if_neg (by rw [hE];decide),hE]),hm.g⟩
  refine bK 61 U (fU3 h6) (eE U (dY xT U U (eE U (eJ fP 0 U U U (eE U (cZ U qA U U (fun wx hm=>(in_any _ _ _ wx)) (eE U (bB (cE U) U (nR U U (bX U (bQ ?_)))))))))))
  refine dC U (fun hh=>?_) (fun hh=>?_)
  ·have h7:(inB mi 1 1000)=false:=by simpa using hh
   refine bR (bX U (bQ (bM (bC (bC (bA (bA (bC (bA ?_)))))))))
   have hE:eX (prevOf l k) ⟨ke,cl,fr,tt,dy,mi⟩=1:=by unfold eX;simp [h2,hO,mX,h4,h5,h6,h7]
   exact bJ U U fun wx hm=>⟨bT (by rw [cB.2,hat,if_neg (by rw [hE];decide),hE]),hm.g⟩
  have h7:(inB mi 1 1000)=true:=by simpa using hh
  refine bN (bG (bG (bD (bI ?_))))
  have hE:eX (prevOf l k) ⟨ke,cl,fr,tt,dy,mi⟩=0:=by unfold eX;simp [h2,hO,mX,h4,h5,h6,h7]
  refine gO U U (bP U (bE ?_))
  exact cN (k+1) ⟨by omega,by rw [cB.2,hat,if_pos hE]⟩ (by omega) ⟨U,U,U,(cR (by omega)),trivial⟩ (fun _ hm=>hm.pick [] [] [0] U U)
 refine dD (bF (bF (bY (bD (bR (bX U (bQ (bM ?_))))))))
 exact bJ U U fun wx hm=>⟨bT (by rw [cB.2,scanE_end _ _ _ _ (by omega)]),hm.g⟩
theorem bV8 (l:List Cd) (A:Option Addr) (n c:Nat) (w:World) (hl:SlT nS 6 260 w A n l) (hok:∀b∈l,zG b) (hn:n<=1000000):
 Calls prog 114 #[.slice A n c] w (mP w (rY l)):=by
 refine cS ⟨62,w,none, []⟩ func114 U ntmps114 U (gM (X:= [bW nS 6 260 w.heap.size none A n l]) (cF hl.old cX) (cG bW.lasts cY)) (bR ?_)
 have hlen:=hl.len
 refine bX U (bQ (bH (bR (bP U (bB (dT cG1 U) U (bB (eK U U) U (bQ ?_)))))))
 refine cC U (fun h1=>?_) (fun h1=>?_)
 ·refine bR (bX U (bQ ?_))
  refine bM (bA ?_)
  exact bJ U U fun wx hm=>⟨bT (by unfold rY;rw [if_pos (by omega)]),hm.g⟩
 refine bN (bD (bR (bX U (bQ (bH (bR (bP U (bB (dT cG1 U) U (bP U (bE (bD (bO ?_))))))))))))
 refine dX (γ:=Nat) (fun (k:Nat)=>k<=n/\rY l=scanE eX (prevOf l k) (l.drop k)) (fun (k:Nat)=> [(3,.string (yH l k)),(9,.slice A n c),(10,.int .i64 ((n:Nat):Int)),(11,.int .i64 ((k:Nat):Int))]) (fun (k:Nat)=>fun _=>True) (fun (k:Nat)=> []) (fun (k:Nat)=> []) (fun (k:Nat)=> [bW nS 6 260 w.heap.size none A n l]) (fun (k:Nat)=>n - k) 0 ⟨Nat.zero_le _,by unfold rY;rw [if_neg (by omega)];rfl⟩ ⟨U,U,U,U,trivial⟩ (fun _ hm=>hm.pick [] [] [0] U U) ?_
 intro k cB
 replace cB:k<=n/\rY l=scanE eX (prevOf l k) (l.drop k):=cB
 refine bR (bB (dE U U) U (bQ (bH ?_)))
 refine cC U (fun hk=>?_) (fun hk=>?_)
 ·refine bN (bD (bH (bO (bR ?_))))
  obtain ⟨b,off,hA,_,_⟩:=hl.get (by omega)
  subst hA
  obtain ⟨x,hx⟩:∃x,l[k]?=some x:=⟨_,fW3 (by omega)⟩
  obtain ⟨ke,cl,fr,tt,dy,mi⟩:=x
  have hat:=scanE_at eX l k _ hx
  have hk1:ke.size<=1000000:=(hok _ (fX3 hx)).1
  have hk2:cl.size<=1000000:=(hok _ (fX3 hx)).2
  refine bB (bV (j:=k) cG1 U U (by omega)) U (bB (dP (vs:= [.string ke,.string cl,.int .i64 fr,.int .i64 tt,.int .i64 dy,.int .i64 mi]) dG2 U (fun _ hm=>(hm.fact 0 U).1) hx U U) U (dL eQ4 U fun g1=>kE (cs':= [.string ke,.string cl,.int .i64 fr,.int .i64 tt,.int .i64 dy,.int .i64 mi]) 0 dG2 U U U U (bQ (bH (bO (bR (dY uZ U U (eJ fC 0 U U U (cH U bN6 U U (fun wx hm=>(wE _ wx (by omega))) (bB (cE U) U (bX U (bQ ?_))))))))))))
  refine dC U (fun hh=>?_) (fun hh=>?_)
  ·have h2:(keyB ke)=false:=by simpa using hh
   refine bR (bX U (bQ (bM (bC (bA (bC (bA (bA (bC (bA ?_))))))))))
   have hE:eX (prevOf l k) ⟨ke,cl,fr,tt,dy,mi⟩=5:=by unfold eX;simp [h2]
   exact bJ U U fun wx hm=>⟨bT (by rw [cB.2,hat,if_neg (by rw [hE];decide),hE]),hm.g⟩
  have h2:(keyB ke)=true:=by simpa using hh
  refine bR (dY uZ U U (eJ fC 0 U U U (bP U (bB (wG U U) U (bX U (bQ ?_))))))
  refine dC U (fun hh=>?_) (fun hh=>?_)
  ·have h9:(Op.bytesLess ke.toList (yH l k).toList||ke.toList==(yH l k).toList)=true:=by simpa using hh
   refine bR ?_
   have hO:cT6 (prevOf l k) ⟨ke,cl,fr,tt,dy,mi⟩=true:=(cL2 (b:=⟨ke,cl,fr,tt,dy,mi⟩) (by simpa using h2)).symm.trans h9
   refine bX U (bQ (bM (bC (bA (bC (bA (bA (bC (bA ?_)))))))))
   have hE:eX (prevOf l k) ⟨ke,cl,fr,tt,dy,mi⟩=7:=by unfold eX;simp [h2,hO]
   exact bJ U U fun wx hm=>⟨bT (by rw [cB.2,hat,if_neg (by rw [hE];decide),hE]),hm.g⟩
  have h9:(Op.bytesLess ke.toList (yH l k).toList||ke.toList==(yH l k).toList)=false:=by simpa using hh
  refine bR ?_
  have hO:cT6 (prevOf l k) ⟨ke,cl,fr,tt,dy,mi⟩=false:=(cL2 (b:=⟨ke,cl,fr,tt,dy,mi⟩) (by simpa using h2)).symm.trans h9
  refine dY bW0 U U (eJ fC 0 U U U (bB (uG U U) U (bP U ?_)))
  rcases Bool.eq_false_or_eq_true (!(cl.toList==(⟨#[]⟩:ByteArray).toList)) with mX|mX
  ·refine bK 29 U (fU3 mX) ?_
   have mX:jG cl=false:=by unfold jG;simpa only [Bool.not_eq_true'] using mX
   refine eE U (dY bW0 U U (eE U (eJ fC 0 U U U (eE U (cH U bN6 U U (fun wx hm=>(wE _ wx (by omega))) (eE U (bB (cE U) U (mN U U (bX U (bQ ?_))))))))))
   refine dC U (fun hh=>?_) (fun hh=>?_)
   ·have zL:(keyB cl)=false:=by simpa using hh
    refine bR (bX U (bQ (bM (bC (bA (bC (bA (bA (bC (bA ?_))))))))))
    have hE:eX (prevOf l k) ⟨ke,cl,fr,tt,dy,mi⟩=5:=by unfold eX;simp [h2,hO,mX,zL]
    exact bJ U U fun wx hm=>⟨bT (by rw [cB.2,hat,if_neg (by rw [hE];decide),hE]),hm.g⟩
   have zL:(keyB cl)=true:=by simpa using hh
   refine bR (dY bX0 U U (eJ fP 0 U U U (dY qW U U (eJ fP 0 U U U (cZ U vY U U (fun wx hm=>(kH _ _ _ wx)) (bB (cE U) U (bP U ?_)))))))
   rcases Bool.eq_false_or_eq_true (!(inB fr 0 tt)) with h4|h4
   ·refine bK 42 U (fU3 h4) ?_
    refine dZ U (dZ U (dZ U (mN U U (bP U (dZ U (dZ U (dZ U (dZ U (mN U U (bP U (dZ U (dZ U (dZ U (dZ U (mN U U (bX U (bQ (kP U (bR (bX U (bQ (bM (bC (bA (bC (bA (bA (bC (bA ?_)))))))))))))))))))))))))))))
    have hE:eX (prevOf l k) ⟨ke,cl,fr,tt,dy,mi⟩=1:=by unfold eX;simp [h2,hO,mX,zL,h4]
    exact bJ U U fun wx hm=>⟨bT (by rw [cB.2,hat,if_neg (by rw [hE];decide),hE]),hm.g⟩
   refine bK 42 U (fU3 h4) (eE U (dY qW U U (eE U (eJ fP 0 U U U (eE U (bB (eK U U) U (nR U U (bP U ?_))))))))
   rcases Bool.eq_false_or_eq_true (decide (4001 < tt)) with h5|h5
   ·refine bK 47 U (fU3 h5) ?_
    replace h5:=of_decide_eq_true h5
    refine dZ U (dZ U (dZ U (dZ U (mN U U (bP U (dZ U (dZ U (dZ U (dZ U (mN U U (bX U (bQ (kP U (bR (bX U (bQ (bM (bC (bA (bC (bA (bA (bC (bA ?_))))))))))))))))))))))))
    have hE:eX (prevOf l k) ⟨ke,cl,fr,tt,dy,mi⟩=1:=by unfold eX;simp [h2,hO,mX,zL,h4,h5]
    exact bJ U U fun wx hm=>⟨bT (by rw [cB.2,hat,if_neg (by rw [hE];decide),hE]),hm.g⟩
   refine bK 47 U (fU3 h5) ?_
   replace h5:=of_decide_eq_false h5
   refine eE U (dY xS U U (eE U (eJ fP 0 U U U (eE U (cZ U vY U U (fun wx hm=>(kH _ _ _ wx)) (eE U (bB (cE U) U (nR U U (bP U ?_)))))))))
   rcases Bool.eq_false_or_eq_true (!(inB dy 1 120)) with h6|h6
   ·refine bK 53 U (fU3 h6) ?_
    refine dZ U (dZ U (dZ U (dZ U (mN U U (bX U (bQ (kP U (bR (bX U (bQ (bM (bC (bA (bC (bA (bA (bC (bA ?_))))))))))))))))))
    have hE:eX (prevOf l k) ⟨ke,cl,fr,tt,dy,mi⟩=1:=by unfold eX;simp [h2,hO,mX,zL,h4,h5,h6]
    exact bJ U U fun wx hm=>⟨bT (by rw [cB.2,hat,if_neg (by rw [hE];decide),hE]),hm.g⟩
   refine bK 53 U (fU3 h6) (eE U (dY xT U U (eE U (eJ fP 0 U U U (eE U (cZ U vY U U (fun wx hm=>(kH _ _ _ wx)) (eE U (bB (cE U) U (nR U U (bX U (bQ ?_)))))))))))
   refine dC U (fun hh=>?_) (fun hh=>?_)
   ·have h7:(inB mi 1 1000)=false:=by simpa using hh
    refine bR (bX U (bQ (bM (bC (bA (bC (bA (bA (bC (bA ?_))))))))))
    have hE:eX (prevOf l k) ⟨ke,cl,fr,tt,dy,mi⟩=1:=by unfold eX;simp [h2,hO,mX,zL,h4,h5,h6,h7]
    exact bJ U U fun wx hm=>⟨bT (by rw [cB.2,hat,if_neg (by rw [hE];decide),hE]),hm.g⟩
   have h7:(inB mi 1 1000)=true:=by simpa using hh
   refine bN (bG (bD (bI ?_)))
   have hE:eX (prevOf l k) ⟨ke,cl,fr,tt,dy,mi⟩=0:=by unfold eX;simp [h2,hO,mX,zL,h4,h5,h6,h7]
   refine dY uZ U U (eJ fC 0 U U U (bX U (bE (bG (bD (bI (gO U U (bP U (bE ?_)))))))))
   exact cN (k+1) ⟨by omega,by rw [cB.2,hat,if_pos hE]⟩ (by omega) ⟨(congrArg (fun z=>some (Value.string z)) (bA7 hx).symm),U,U,(cR (by omega)),trivial⟩ (fun _ hm=>hm.pick [] [] [0] U U)
  refine bK 29 U (fU3 mX) ?_
  have mX:jG cl=true:=by unfold jG;simpa only [Bool.not_eq_false'] using mX
  refine dZ U (dZ U (dZ U (dZ U (nR U U (bX U (bQ (jQ U (bR (dY bX0 U U (eJ fP 0 U U U (dY qW U U (eJ fP 0 U U U (cZ U vY U U (fun wx hm=>(kH _ _ _ wx)) (bB (cE U) U (bP U ?_)))))))))))))))
  rcases Bool.eq_false_or_eq_true (!(inB fr 0 tt)) with h4|h4
  ·refine bK 42 U (fU3 h4) ?_
   refine dZ U (dZ U (dZ U (mN U U (bP U (dZ U (dZ U (dZ U (dZ U (mN U U (bP U (dZ U (dZ U (dZ U (dZ U (mN U U (bX U (bQ (kP U (bR (bX U (bQ (bM (bC (bA (bC (bA (bA (bC (bA ?_)))))))))))))))))))))))))))))
   have hE:eX (prevOf l k) ⟨ke,cl,fr,tt,dy,mi⟩=1:=by unfold eX;simp [h2,hO,mX,h4]
   exact bJ U U fun wx hm=>⟨bT (by rw [cB.2,hat,if_neg (by rw [hE];decide),hE]),hm.g⟩
  refine bK 42 U (fU3 h4) (eE U (dY qW U U (eE U (eJ fP 0 U U U (eE U (bB (eK U U) U (nR U U (bP U ?_))))))))
  rcases Bool.eq_false_or_eq_true (decide (4001 < tt)) with h5|h5
  ·refine bK 47 U (fU3 h5) ?_
   replace h5:=of_decide_eq_true h5
   refine dZ U (dZ U (dZ U (dZ U (mN U U (bP U (dZ U (dZ U (dZ U (dZ U (mN U U (bX U (bQ (kP U (bR (bX U (bQ (bM (bC (bA (bC (bA (bA (bC (bA ?_))))))))))))))))))))))))
   have hE:eX (prevOf l k) ⟨ke,cl,fr,tt,dy,mi⟩=1:=by unfold eX;simp [h2,hO,mX,h4,h5]
   exact bJ U U fun wx hm=>⟨bT (by rw [cB.2,hat,if_neg (by rw [hE];decide),hE]),hm.g⟩
  refine bK 47 U (fU3 h5) ?_
  replace h5:=of_decide_eq_false h5
  refine eE U (dY xS U U (eE U (eJ fP 0 U U U (eE U (cZ U vY U U (fun wx hm=>(kH _ _ _ wx)) (eE U (bB (cE U) U (nR U U (bP U ?_)))))))))
  rcases Bool.eq_false_or_eq_true (!(inB dy 1 120)) with h6|h6
  ·refine bK 53 U (fU3 h6) ?_
   refine dZ U (dZ U (dZ U (dZ U (mN U U (bX U (bQ (kP U (bR (bX U (bQ (bM (bC (bA (bC (bA (bA (bC (bA ?_))))))))))))))))))
   have hE:eX (prevOf l k) ⟨ke,cl,fr,tt,dy,mi⟩=1:=by unfold eX;simp [h2,hO,mX,h4,h5,h6]
   exact bJ U U fun wx hm=>⟨bT (by rw [cB.2,hat,if_neg (by rw [hE];decide),hE]),hm.g⟩
  refine bK 53 U (fU3 h6) (eE U (dY xT U U (eE U (eJ fP 0 U U U (eE U (cZ U vY U U (fun wx hm=>(kH _ _ _ wx)) (eE U (bB (cE U) U (nR U U (bX U (bQ ?_)))))))))))
  refine dC U (fun hh=>?_) (fun hh=>?_)
  ·have h7:(inB mi 1 1000)=false:=by simpa using hh
   refine bR (bX U (bQ (bM (bC (bA (bC (bA (bA (bC (bA ?_))))))))))
   have hE:eX (prevOf l k) ⟨ke,cl,fr,tt,dy,mi⟩=1:=by unfold eX;simp [h2,hO,mX,h4,h5,h6,h7]
   exact bJ U U fun wx hm=>⟨bT (by rw [cB.2,hat,if_neg (by rw [hE];decide),hE]),hm.g⟩
  have h7:(inB mi 1 1000)=true:=by simpa using hh
  refine bN (bG (bD (bI ?_)))
  have hE:eX (prevOf l k) ⟨ke,cl,fr,tt,dy,mi⟩=0:=by unfold eX;simp [h2,hO,mX,h4,h5,h6,h7]
  refine dY uZ U U (eJ fC 0 U U U (bX U (bE (bG (bD (bI (gO U U (bP U (bE ?_)))))))))
  exact cN (k+1) ⟨by omega,by rw [cB.2,hat,if_pos hE]⟩ (by omega) ⟨(congrArg (fun z=>some (Value.string z)) (bA7 hx).symm),U,U,(cR (by omega)),trivial⟩ (fun _ hm=>hm.pick [] [] [0] U U)
 refine dD (bF (bF (bY (bD (bR (bX U (bQ (bM ?_))))))))
 exact bJ U U fun wx hm=>⟨bT (by rw [cB.2,scanE_end _ _ _ _ (by omega)]),hm.g⟩
theorem eW0 {l:List Cd} {x:Cd} (h:∀y∈l,zG y) (h1:x.key.size<=1000000) (h2:x.cls.size<=1000000):∀y∈l++ [x],zG y:=fun y hy=>by
 rcases List.mem_append.1 hy with hy|hy
 ·exact h y hy
 ·rw [List.mem_singleton.1 hy];exact ⟨h1,h2⟩
theorem cM8 {l:List Cd} {x:Cd} {j:Nat} (h:∀y∈l,zG y) (h1:x.key.size<=1000000) (h2:x.cls.size<=1000000):∀y∈l.set j x,zG y:=fun y hy=>by
 rcases List.mem_or_eq_of_mem_set hy with hy|rfl
 ·exact h y hy
 ·exact ⟨h1,h2⟩
theorem cA9 (w:World) (B sb m:Nat) (hS:eU 25 w B sb m) (hm:m<=100000000000):
 Calls prog 109 #[.pointer (some ⟨sb,0,none⟩)] w (fun e w'=>∃(A:Option Addr) (n c:Nat) (l:List Cd),e=.returned (.slice A n c)/\SlT nS 6 260 w' A n l/\(∀x∈l,zG x)/\n<=3/\n<=c/\eU 25 w' B sb (m+50)/\w.grownBy w' (some sb)):=by
 refine cS ⟨74,w,(some sb), []⟩ func109 U ntmps109 U (bF4 (X:= []) hS cX cY) (bR (bX U (bQ (bR (bX U (bQ (bH (bR (jE 9 [.string ⟨#[97,49,48]⟩,.string ⟨#[98,50,48]⟩,.string ⟨#[99,51,48]⟩] fun g1=>bB (dT jX U) U (bK 9 (v':= .int .i64 3) U U (bP U (bQ (bO ?_)))))))))))))
 refine rG 260 6 ?_
 refine dX (γ:=Nat×Nat×Value×List Cd×List Value) (fun g=>g.1<=3/\g.2.1<=g.1/\g.2.2.2.1.length=g.2.1/\(∀x∈g.2.2.2.1,zG x)/\g.2.2.2.2=g.2.2.2.1.flatMap nS) (fun g=> [(0,.pointer (some ⟨sb,0,none⟩)),(2,.slice none 0 0),(3,g.2.2.1),(8,.slice (some ⟨g1,0,none⟩) 3 3),(9,.int .i64 3),(10,.int .i64 ((g.1:Nat):Int))]) (fun g=>fun w=>eU 25 w B sb (m+10 *g.1)) (fun g=> [(g1,9, [.string ⟨#[97,49,48]⟩,.string ⟨#[98,50,48]⟩,.string ⟨#[99,51,48]⟩])]) (fun g=> [⟨g.2.2.1,260,6,g.2.1,g.2.2.2.2⟩]) (fun g=> []) (fun g=>3 - g.1) (0,0,.slice none 0 0, [], []) ⟨Nat.zero_le _,Nat.zero_le _,U,(fun _ h=>by cases h),U⟩ ⟨U,U,U,U,U,U,trivial⟩ (fun _ hm=>(hm.more U (by first|omega|(dsimp only;omega))).pick [0] [0] [] U U) ?_
 rintro ⟨k,n,v,l,xs⟩ cB
 replace cB:k<=3/\n<=k/\l.length=n/\(∀x∈l,zG x)/\xs=l.flatMap nS:=cB
 dsimp only
 refine bR ?_
 obtain ⟨hi0,hi1,vN,hi3,rfl⟩:=cB
 refine bB (dE U U) U (bQ (bH ?_))
 refine cC U (fun hk=>?_) (fun hk=>?_)
 ·refine bN (bD (bH (bO (bR ?_))))
  obtain ⟨nm,hx⟩:∃x,([⟨#[97,49,48]⟩,⟨#[98,50,48]⟩,⟨#[99,51,48]⟩]:List ByteArray)[k]?=some x:=⟨_,fW3 (by simp;omega)⟩
  have hnm:nm.size<=100:=kG (fX3 hx) (by decide)
  refine bB (bV (j:=k) jX U U (by omega)) U (bB (dK (k:=0) (v:= .string nm) fC U (fun _ hm=>(SlT.ofBlk (l:= [⟨#[97,49,48]⟩,⟨#[98,50,48]⟩,⟨#[99,51,48]⟩]) yR (hm.blkI 0 U))) hx U U) U (bX U (bQ (bH (bR (bP U (dN (γ:=Bool) (val:=fun v=> .bool v) (φ:=fun v=>True) U xN U U U U (fun wx hm=>((jY _ wx B sb _ hm.k (by omega) (by omega) (by omega)).mono fun _ _ ⟨v,he,hS,hg⟩=>⟨v,trivial,he,hS,hg⟩)) fun f2 _=>bQ ?_)))))))
  refine dC U (fun hh=>?_) (fun hh=>?_)
  ·have hf:f2=true:=by simpa using hh
   refine dD (bF (bY (bD (bI (gO U U (bP U (bE ?_)))))))
   exact cN (k+1,n,v,l,l.flatMap nS) ⟨by dsimp only;omega,by dsimp only;omega,vN,hi3,rfl⟩ (by dsimp only;omega) ⟨U,U,U,U,U,(cR (by omega)),trivial⟩ (fun _ hm=>(hm.more U (by first|omega|(dsimp only;omega))).pick [0] [0] [] U U)
  have hf:f2=false:=by simpa using hh
  refine bN (bD (bR (bP U (jE 3 [.int .i64 0,.int .i64 0,.int .i64 3] fun g3=>dN (γ:=Int) (val:=fun v=> .int .i64 v) (φ:=fun v=>v∈([0,0,3]:List Int)) U pO U U U U (fun wx hm=>(eT [0,0,3] _ _ _ wx B sb _ hm.k (by omega) (by simp) (by simp) (hm.blkI 0 U) (hm.neRow 0 U U))) fun v4 hv4=>?_))))
  have bv4:0<=v4/\v4<=3:=gP hv4 (by decide)
  have bv40:=bv4.1
  have bv41:=bv4.2
  clear bv4
  refine bX U (bQ (bI (bP U (bP U (bP U (jE 9 [.string ⟨#[]⟩,.string ⟨#[]⟩,.string ⟨#[109,105,110,105]⟩] fun g5=>dN (γ:=ByteArray) (val:=fun v=> .string v) (φ:=fun v=>v∈([⟨#[]⟩,⟨#[]⟩,⟨#[109,105,110,105]⟩]:List ByteArray)) U rK U U U U (fun wx hm=>(gU [⟨#[]⟩,⟨#[]⟩,⟨#[109,105,110,105]⟩] _ _ _ wx B sb _ hm.k (by omega) (by simp) (by simp) (hm.blkI 0 U) (hm.neRow 0 U U))) fun s6 hs6=>?_))))))
  have zs6:s6.size<=100:=kG hs6 (by decide)
  refine bP U (bP U (bP U (jE 3 [.int .i64 0,.int .i64 1,.int .i64 10,.int .i64 3000] fun g7=>dN (γ:=Int) (val:=fun v=> .int .i64 v) (φ:=fun v=>v∈([0,1,10,3000]:List Int)) U pO U U U U (fun wx hm=>(eT [0,1,10,3000] _ _ _ wx B sb _ hm.k (by omega) (by simp) (by simp) (hm.blkI 0 U) (hm.neRow 0 U U))) fun v8 hv8=>?_)))
  have bv8:0<=v8/\v8<=3000:=gP hv8 (by decide)
  have bv80:=bv8.1
  have bv81:=bv8.2
  clear bv8
  refine gO U U (bP U (jE 3 [.int .i64 1,.int .i64 1,.int .i64 2,.int .i64 5] fun g9=>dN (γ:=Int) (val:=fun v=> .int .i64 v) (φ:=fun v=>v∈([1,1,2,5]:List Int)) U pO U U U U (fun wx hm=>(eT [1,1,2,5] _ _ _ wx B sb _ hm.k (by omega) (by simp) (by simp) (hm.blkI 0 U) (hm.neRow 0 U U))) fun v10 hv10=>?_))
  have bv10:1<=v10/\v10<=5:=gP hv10 (by decide)
  have bv100:=bv10.1
  have bv101:=bv10.2
  clear bv10
  refine bP U (jE 3 [.int .i64 1,.int .i64 100,.int .i64 100,.int .i64 250,.int .i64 1000] fun g11=>dN (γ:=Int) (val:=fun v=> .int .i64 v) (φ:=fun v=>v∈([1,100,100,250,1000]:List Int)) U pO U U U U (fun wx hm=>(eT [1,100,100,250,1000] _ _ _ wx B sb _ hm.k (by omega) (by simp) (by simp) (hm.blkI 0 U) (hm.neRow 0 U U))) fun v12 hv12=>?_)
  have bv12:1<=v12/\v12<=1000:=gP hv12 (by decide)
  have bv120:=bv12.1
  have bv121:=bv12.2
  clear bv12
  refine bB (dJ (cs:= [.string nm,.string s6,.int .i64 v4,.int .i64 (v4+v8),.int .i64 v10,.int .i64 v12]) U (by kernel_rfl)) U (jE 260 [.string nm,.string s6,.int .i64 v4,.int .i64 (v4+v8),.int .i64 v10,.int .i64 v12] fun g13=>eB (news:= [.string nm,.string s6,.int .i64 v4,.int .i64 (v4+v8),.int .i64 v10,.int .i64 v12]) 0 0 fQ1 U U U U U U U (by omega) (by unfold maxLen;omega) U U fun v2 zJ=>bX U (bE (bG (bD (bI (gO U U (bP U (bE ?_))))))))
  exact cN (k+1,n+1,v2,l++ [⟨nm,s6,v4,v4+v8,v10,v12⟩],l.flatMap nS++([.string nm,.string s6,.int .i64 v4,.int .i64 (v4+v8),.int .i64 v10,.int .i64 v12]:List Value)) ⟨by dsimp only;omega,by dsimp only;omega,by simp [vN],eW0 hi3 (show nm.size<=1000000 by omega) (show s6.size<=1000000 by omega),by simp [nS]⟩ (by dsimp only;omega) ⟨U,U,U,U,U,(cR (by omega)),trivial⟩ (fun _ hm=>(hm.more U (by first|omega|(dsimp only;omega))).pick [6] [0] [] U U)
 refine dD (bF (bF (bY (bD (bH (bR ?_))))))
 refine dV (R:=∃A cc,v= .slice A n cc) (fun wx hm=>dR (hm.ownI 0 U)) ?_
 rintro ⟨A,c,rfl⟩
 refine bP U (bB (dT cG1 U) U (bB (eK U U) U (bP U ?_)))
 rcases Bool.eq_false_or_eq_true (decide (0 < ((n:Nat):Int))) with hb|hb
 ·refine bK 43 U (fU3 hb) ?_
  have hk0:0 < n:=by simpa using hb
  refine eE U (bP U (eE U (dN (γ:=Bool) (val:=fun v=> .bool v) (φ:=fun v=>True) U xN U U U U (fun wx hm=>((jY _ wx B sb _ hm.k (by omega) (by omega) (by omega)).mono fun _ _ ⟨v,he,hS,hg⟩=>⟨v,trivial,he,hS,hg⟩)) fun f14 _=>mN U U (bQ ?_))))
  refine dC U (fun hh=>?_) (fun hh=>?_)
  ·have hf:f14=true:=by simpa using hh
   refine bR ?_
   refine dV (R:=∃g,A=some ⟨g,0,none⟩) (fun wx hm=>xH (hm.ownI 0 U) hk0) ?_
   rintro ⟨bo,rfl⟩
   refine bP U (bP U (bP U (bB (dT cG1 U) U (dN (γ:=Int) (val:=fun v=> .int .i64 v) (φ:=fun v=>mW ((n:Nat):Int) v) U bP8 U U U U (fun wx hm=>(mM _ wx B sb _ hm.k (by omega) (by omega) (by omega))) fun vj hvj=>?_))))
   have hj:=rB hvj (by omega)
   obtain ⟨i,rfl⟩:=Int.eq_ofNat_of_zero_le hj.1
   have hij:i < n:=by omega
   obtain ⟨y,hy⟩:∃y,l[i]?=some y:=⟨_,fW3 (by omega)⟩
   obtain ⟨y0,y1,y2,y3,y4,y5⟩:=y
   obtain ⟨hy0,hy1⟩:=hi3 _ (fX3 hy)
   have hy0:y0.size<=1000000:=hy0
   have hy1:y1.size<=1000000:=hy1
   refine bB (bV (j:=i) cG1 U U (by omega)) U (bX U (bQ (bI (bP U (bP U (bP U (bP U (bP U (bB (dA U) U (dY uZ U U (bB (dK (k:=0) (v:= .string y0) fC U (fun _ hm=>(SlT.ofOwn bP2 (hm.ownI 0 U) vN)) hy U U) U (jE 9 [.string y0,.string ⟨#[]⟩,.string ⟨#[122,101,100]⟩,.string ⟨#[97,49,48]⟩] fun g15=>dN (γ:=ByteArray) (val:=fun v=> .string v) (φ:=fun v=>v∈([y0,⟨#[]⟩,⟨#[122,101,100]⟩,⟨#[97,49,48]⟩]:List ByteArray)) U rK U U U U (fun wx hm=>(gU [y0,⟨#[]⟩,⟨#[122,101,100]⟩,⟨#[97,49,48]⟩] _ _ _ wx B sb _ hm.k (by omega) (by simp) (by simp) (hm.blkI 0 U) (hm.neRow 0 U U))) fun sn yY=>?_))))))))))))
   have yY:sn.size<=1000000:=by
    simp at yY
    rcases yY with rfl|rfl|rfl|rfl
    ·exact hy0
    ·decide
    ·decide
    decide
   refine bP U (dN (γ:=Int) (val:=fun v=> .int .i64 v) (φ:=fun v=> -2000000000000000<=v/\v<=2000000000000000) U bO2 U U U U (fun wx hm=>(mF _ _ wx B sb _ hm.k (by omega) (by omega) (by omega) (by omega))) fun v16 hv16=>bP U (dN (γ:=Int) (val:=fun v=> .int .i64 v) (φ:=fun v=> -2000000000000000<=v/\v<=2000000000000000) U bO2 U U U U (fun wx hm=>(mF _ _ wx B sb _ hm.k (by omega) (by omega) (by omega) (by omega))) fun v17 hv17=>bB (dA U) U (dY uZ U U (fY (l:=l) (j:=i) (r:=0) (el:=⟨y0,y1,y2,y3,y4,y5⟩) (el':=⟨sn,y1,y2,y3,y4,y5⟩) 0 fC U U U U bP2 U hy vN (show 0 < 6 by decide) U U (bB (dA U) U (dY xS U U ?_))))))
   refine fY (l:=(l.set i ⟨sn,y1,y2,y3,y4,y5⟩)) (j:=i) (r:=4) (el:=⟨sn,y1,y2,y3,y4,y5⟩) (el':=⟨sn,y1,y2,y3,v16,y5⟩) 0 fP U U U U bP2 U (List.getElem?_set_self (by first|omega|(simp;omega))) (by simp;exact vN) (show 4 < 6 by decide) U U ?_
   refine bB (dA U) U (dY xT U U ?_)
   refine fY (l:=((l.set i ⟨sn,y1,y2,y3,y4,y5⟩).set i ⟨sn,y1,y2,y3,v16,y5⟩)) (j:=i) (r:=5) (el:=⟨sn,y1,y2,y3,v16,y5⟩) (el':=⟨sn,y1,y2,y3,v16,v17⟩) 0 fP U U U U bP2 U (List.getElem?_set_self (by first|omega|(simp;omega))) (by simp;exact vN) (show 5 < 6 by decide) U U ?_
   refine bQ (bR (bP U (bX U (bQ (bM ?_)))))
   exact bJ U U fun wx hm=>⟨some ⟨bo,0,none⟩,n,c,(((l.set i ⟨sn,y1,y2,y3,y4,y5⟩).set i ⟨sn,y1,y2,y3,v16,y5⟩).set i ⟨sn,y1,y2,y3,v16,v17⟩),U,SlT.ofOwn bP2 (hm.ownI 0 U) (by simp;exact vN),cM8 (cM8 (cM8 (hi3) yY hy1) yY hy1) yY hy1,by omega,jA (hm.ownI 0 rfl),hm.k.more (by omega),hm.g⟩
  have hf:f14=false:=by simpa using hh
  refine bN (bD (bR (bP U (bX U (bQ (bM ?_))))))
  exact bJ U U fun wx hm=>⟨A,n,c,l,U,SlT.ofOwn bP2 (hm.ownI 0 U) vN,hi3,by omega,jA (hm.ownI 0 rfl),hm.k.more (by omega),hm.g⟩
 refine bK 43 U (fU3 hb) (dZ U (dZ U (nR U U (bQ (jQ U (bN (bD (bR (bP U (bX U (bQ (bM ?_))))))))))))
 exact bJ U U fun wx hm=>⟨A,n,c,l,U,SlT.ofOwn bP2 (hm.ownI 0 U) vN,hi3,by omega,jA (hm.ownI 0 rfl),hm.k.more (by omega),hm.g⟩
def kF (z:Int):List Value:= [.int .i64 z]
theorem fM (z:Int):(kF z).length=1:=rfl
structure Ex where
 key:ByteArray
 once:Int
 day:Int
 most:Int
def qO (x:Ex):List Value:= [.string x.key,.int .i64 x.once,.int .i64 x.day,.int .i64 x.most]
def bD5 (x:Ex):Prop:=x.key.size<=1000000
def cU6 (p:Option Ex) (b:Ex):Bool:=match p with
 |none=>false
 |some q=>leB b.key q.key
def xQ (p:Option Ex) (b:Ex):Int:=if !keyB b.key then 5 else if cU6 p b then 7 else if !inB b.once 0 1000000 then 1 else if !inB b.day 0 1000000 then 1 else if !inB b.most (-1) 1000000 then 1 else 0
def qC (l:List Ex):Int:=if 30 < l.length then 2 else scanE xQ none l
def yI (l:List Ex) (k:Nat):ByteArray:=match prevOf l k with
 |none=>⟨#[]⟩
 |some q=>q.key
theorem cD7 {l:List Ex} {k:Nat} {x:Ex} (h:l[k]?=some x):yI l (k+1)=x.key:=by
 unfold yI prevOf;rw [if_neg (by omega),Nat.add_sub_cancel,h]
theorem cM2 {l:List Ex} {k:Nat} {b:Ex} (h:keyB b.key=true):leB b.key (yI l k)=cU6 (prevOf l k) b:=by
 unfold yI cU6
 cases prevOf l k with
 |none=>exact dR1 h
 |some q=>rfl
theorem bM7 (l:List Ex) (A:Option Addr) (n c:Nat) (w:World) (hl:SlT qO 4 254 w A n l) (hok:∀b∈l,bD5 b) (hn:n<=1000000):
 Calls prog 164 #[.slice A n c] w (mP w (qC l)):=by
 refine cS ⟨52,w,none, []⟩ func164 U ntmps164 U (gM (X:= [bW qO 4 254 w.heap.size none A n l]) (cF hl.old cX) (cG bW.lasts cY)) (bR ?_)
 have hlen:=hl.len
 refine bX U (bQ (bH (bR (bP U (bB (dT cF1 U) U (bB (eK U U) U (bQ ?_)))))))
 refine cC U (fun h1=>?_) (fun h1=>?_)
 ·refine bR (bX U (bQ ?_))
  refine bM (bA ?_)
  exact bJ U U fun wx hm=>⟨bT (by unfold qC;rw [if_pos (by omega)]),hm.g⟩
 refine bN (bD (bH (bR (bP U (bB (dT cF1 U) U (bP U (bQ (bO ?_))))))))
 refine dX (γ:=Nat) (fun (k:Nat)=>k<=n/\qC l=scanE xQ (prevOf l k) (l.drop k)) (fun (k:Nat)=> [(0,.slice A n c),(8,.slice A n c),(9,.int .i64 ((n:Nat):Int)),(10,.int .i64 ((k:Nat):Int))]) (fun (k:Nat)=>fun _=>True) (fun (k:Nat)=> []) (fun (k:Nat)=> []) (fun (k:Nat)=> [bW qO 4 254 w.heap.size none A n l]) (fun (k:Nat)=>n - k) 0 ⟨Nat.zero_le _,by unfold qC;rw [if_neg (by omega)];rfl⟩ ⟨U,U,U,U,trivial⟩ (fun _ hm=>hm.pick [] [] [0] U U) ?_
 intro k cB
 replace cB:k<=n/\qC l=scanE xQ (prevOf l k) (l.drop k):=cB
 refine bR (bB (dE U U) U (bQ (bH ?_)))
 refine cC U (fun hk=>?_) (fun hk=>?_)
 ·refine bN (bD (bH (bO (bR ?_))))
  obtain ⟨b,off,hA,_,_⟩:=hl.get (by omega)
  subst hA
  obtain ⟨x,hx⟩:∃x,l[k]?=some x:=⟨_,fW3 (by omega)⟩
  obtain ⟨ke,on,dy,mo⟩:=x
  have hat:=scanE_at xQ l k _ hx
  have hk1:ke.size<=1000000:=hok _ (fX3 hx)
  refine bP U (bB (bV (j:=k) cF1 U U (by omega)) U (bB (dP (vs:= [.string ke,.int .i64 on,.int .i64 dy,.int .i64 mo]) cG7 U (fun _ hm=>(hm.fact 0 U).1) hx U U) U (dL eO4 U fun g1=>bX U (kE (cs':= [.string ke,.int .i64 on,.int .i64 dy,.int .i64 mo]) 0 cG7 U U U U (bQ (bO (bR (dY bV0 U U (eJ fC 0 U U U (cZ U bW1 U U (fun wx hm=>(isKey_any _ wx (by omega))) (bB (cE U) U (bX U (bQ ?_)))))))))))))
  refine dC U (fun hh=>?_) (fun hh=>?_)
  ·have h2:(keyB ke)=false:=by simpa using hh
   refine bR (bX U (bQ (bM (bC (bC (bA (bA (bC (bA ?_)))))))))
   have hE:xQ (prevOf l k) ⟨ke,on,dy,mo⟩=5:=by unfold xQ;simp [h2]
   exact bJ U U fun wx hm=>⟨bT (by rw [cB.2,hat,if_neg (by rw [hE];decide),hE]),hm.g⟩
  have h2:(keyB ke)=true:=by simpa using hh
  refine bH ?_
  by_cases hk0:k=0
  ·have hO:cU6 (prevOf l k) ⟨ke,on,dy,mo⟩=false:=by rw [mH hk0];rfl
   refine gd (fun wz=>True) mixed (fun _ _=>trivial) fun z=>wq 0 U (bL U) (wq 1 U (eK U U) (dH 22 (v':= .bool false) U (fU3 (decide_eq_false (by omega))) (wq 2 U (bL U) (fD 3 U (fD 4 U (fD 5 U (fD 6 U (fD 7 U (fD 8 U (fD 9 U (fD 10 U (fD 11 U (wq 12 U (fO U U) (wq 13 U (cV U) (jO (bD (jQ U (bR (dY cW3 U U (eJ fP 0 U U U (cZ U qA U U (fun wx hm=>(in_any _ _ _ wx)) (bB (cE U) U (bP U ?_)))))))))))))))))))))))
   rcases Bool.eq_false_or_eq_true (!(inB on 0 1000000)) with h4|h4
   ·refine bK 39 U (fU3 h4) ?_
    refine dZ U (dZ U (dZ U (dZ U (mN U U (bP U (dZ U (dZ U (dZ U (dZ U (mN U U (bX U (bQ (kP U (bR (bX U (bQ (bM (bC (bC (bA (bA (bC (bA ?_)))))))))))))))))))))))
    have hE:xQ (prevOf l k) ⟨ke,on,dy,mo⟩=1:=by unfold xQ;simp [h2,hO,h4]
    exact bJ U U fun wx hm=>⟨bT (by rw [cB.2,hat,if_neg (by rw [hE];decide),hE]),hm.g⟩
   refine bK 39 U (fU3 h4) (eE U (dY cX3 U U (eE U (eJ fP 0 U U U (eE U (cZ U qA U U (fun wx hm=>(in_any _ _ _ wx)) (eE U (bB (cE U) U (nR U U (bP U ?_))))))))))
   rcases Bool.eq_false_or_eq_true (!(inB dy 0 1000000)) with h5|h5
   ·refine bK 45 U (fU3 h5) ?_
    refine dZ U (dZ U (dZ U (dZ U (mN U U (bX U (bQ (kP U (bR (bX U (bQ (bM (bC (bC (bA (bA (bC (bA ?_)))))))))))))))))
    have hE:xQ (prevOf l k) ⟨ke,on,dy,mo⟩=1:=by unfold xQ;simp [h2,hO,h4,h5]
    exact bJ U U fun wx hm=>⟨bT (by rw [cB.2,hat,if_neg (by rw [hE];decide),hE]),hm.g⟩
   refine bK 45 U (fU3 h5) (eE U (dY cY3 U U (eE U (eJ fP 0 U U U (eE U (cZ U qA U U (fun wx hm=>(in_any _ _ _ wx)) (eE U (bB (cE U) U (nR U U (bX U (bQ ?_)))))))))))
   refine dC U (fun hh=>?_) (fun hh=>?_)
   ·have h6:(inB mo (-1) 1000000)=false:=by simpa using hh
    refine bR (bX U (bQ (bM (bC (bC (bA (bA (bC (bA ?_)))))))))
    have hE:xQ (prevOf l k) ⟨ke,on,dy,mo⟩=1:=by unfold xQ;simp [h2,hO,h4,h5,h6]
    exact bJ U U fun wx hm=>⟨bT (by rw [cB.2,hat,if_neg (by rw [hE];decide),hE]),hm.g⟩
   have h6:(inB mo (-1) 1000000)=true:=by simpa using hh
   refine bN (bG (bG (bD (bI ?_))))
   have hE:xQ (prevOf l k) ⟨ke,on,dy,mo⟩=0:=by unfold xQ;simp [h2,hO,h4,h5,h6]
   refine gO U U (bP U (bE ?_))
   exact cN (k+1) ⟨by omega,by rw [cB.2,hat,if_pos hE]⟩ (by omega) ⟨U,U,U,(cR (by omega)),trivial⟩ (fun _ hm=>hm.pick [] [] [0] U U)
  obtain ⟨y,hy⟩:∃x,l[k - 1]?=some x:=⟨_,fW3 (by omega)⟩
  obtain ⟨p0,p1,p2,p3⟩:=y
  refine gd (fun wz=>Blk wz g1 254 [.string ke,.int .i64 on,.int .i64 dy,.int .i64 mo]/\(bW qO 4 254 w.heap.size none (some ⟨b,off,none⟩) n l) wz/\True) mixed (fun _ hm=>⟨hm.bl 0,hm.fa 0,trivial⟩) fun z=>wq 0 U (bL U) (wq 1 U (eK U U) (dH 22 (v':= .bool true) U (fU3 (decide_eq_true (by omega))) (wq 2 U (bL U) (fI 3 U (bS bV0 U U) (fI 4 U (cQ fC U (fun _ hm=>hm.1) U) (fI 5 U (bL U) (fI 6 U (bL U) (fI 7 U (ov_sub U U (by omega) (by omega)) (dH 28 (v':= .int .i64 ((k - 1:Nat):Int)) U (fV3 (by omega)) (fI 8 U (bV (j:=k - 1) cF1 U U (by omega)) (fI 9 U (bS bV0 U U) (fI 10 U (dK (k:=0) (v:= .string p0) fC U (fun _ hm=>(hm.2.1).1) hy U U) (fI 11 U (wG U U) (wq 12 U (fE U U) (wq 13 U (cV U) (jO (bD ?_)))))))))))))))))
  refine dC U (fun hh=>?_) (fun hh=>?_)
  ·have h9:(Op.bytesLess ke.toList p0.toList||ke.toList==p0.toList)=true:=by simpa using hh
   refine bR ?_
   have hO:cU6 (prevOf l k) ⟨ke,on,dy,mo⟩=true:=by rw [jT hk0 hy];exact h9
   refine bX U (bQ (bM (bC (bC (bA (bA (bC (bA ?_))))))))
   have hE:xQ (prevOf l k) ⟨ke,on,dy,mo⟩=7:=by unfold xQ;simp [h2,hO]
   exact bJ U U fun wx hm=>⟨bT (by rw [cB.2,hat,if_neg (by rw [hE];decide),hE]),hm.g⟩
  have h9:(Op.bytesLess ke.toList p0.toList||ke.toList==p0.toList)=false:=by simpa using hh
  refine bR ?_
  have hO:cU6 (prevOf l k) ⟨ke,on,dy,mo⟩=false:=by rw [jT hk0 hy];exact h9
  refine dY cW3 U U (eJ fP 0 U U U (cZ U qA U U (fun wx hm=>(in_any _ _ _ wx)) (bB (cE U) U (bP U ?_))))
  rcases Bool.eq_false_or_eq_true (!(inB on 0 1000000)) with h4|h4
  ·refine bK 39 U (fU3 h4) ?_
   refine dZ U (dZ U (dZ U (dZ U (mN U U (bP U (dZ U (dZ U (dZ U (dZ U (mN U U (bX U (bQ (kP U (bR (bX U (bQ (bM (bC (bC (bA (bA (bC (bA ?_)))))))))))))))))))))))
   have hE:xQ (prevOf l k) ⟨ke,on,dy,mo⟩=1:=by unfold xQ;simp [h2,hO,h4]
   exact bJ U U fun wx hm=>⟨bT (by rw [cB.2,hat,if_neg (by rw [hE];decide),hE]),hm.g⟩
  refine bK 39 U (fU3 h4) (eE U (dY cX3 U U (eE U (eJ fP 0 U U U (eE U (cZ U qA U U (fun wx hm=>(in_any _ _ _ wx)) (eE U (bB (cE U) U (nR U U (bP U ?_))))))))))
  rcases Bool.eq_false_or_eq_true (!(inB dy 0 1000000)) with h5|h5
  ·refine bK 45 U (fU3 h5) ?_
   refine dZ U (dZ U (dZ U (dZ U (mN U U (bX U (bQ (kP U (bR (bX U (bQ (bM (bC (bC (bA (bA (bC (bA ?_)))))))))))))))))
   have hE:xQ (prevOf l k) ⟨ke,on,dy,mo⟩=1:=by unfold xQ;simp [h2,hO,h4,h5]
   exact bJ U U fun wx hm=>⟨bT (by rw [cB.2,hat,if_neg (by rw [hE];decide),hE]),hm.g⟩
  refine bK 45 U (fU3 h5) (eE U (dY cY3 U U (eE U (eJ fP 0 U U U (eE U (cZ U qA U U (fun wx hm=>(in_any _ _ _ wx)) (eE U (bB (cE U) U (nR U U (bX U (bQ ?_)))))))))))
  refine dC U (fun hh=>?_) (fun hh=>?_)
  ·have h6:(inB mo (-1) 1000000)=false:=by simpa using hh
   refine bR (bX U (bQ (bM (bC (bC (bA (bA (bC (bA ?_)))))))))
   have hE:xQ (prevOf l k) ⟨ke,on,dy,mo⟩=1:=by unfold xQ;simp [h2,hO,h4,h5,h6]
   exact bJ U U fun wx hm=>⟨bT (by rw [cB.2,hat,if_neg (by rw [hE];decide),hE]),hm.g⟩
  have h6:(inB mo (-1) 1000000)=true:=by simpa using hh
  refine bN (bG (bG (bD (bI ?_))))
  have hE:xQ (prevOf l k) ⟨ke,on,dy,mo⟩=0:=by unfold xQ;simp [h2,hO,h4,h5,h6]
  refine gO U U (bP U (bE ?_))
  exact cN (k+1) ⟨by omega,by rw [cB.2,hat,if_pos hE]⟩ (by omega) ⟨U,U,U,(cR (by omega)),trivial⟩ (fun _ hm=>hm.pick [] [] [0] U U)
 refine dD (bF (bF (bY (bD (bR (bX U (bQ (bM ?_))))))))
 exact bJ U U fun wx hm=>⟨bT (by rw [cB.2,scanE_end _ _ _ _ (by omega)]),hm.g⟩
theorem bR7 (l:List Ex) (A:Option Addr) (n c:Nat) (w:World) (hl:SlT qO 4 254 w A n l) (hok:∀b∈l,bD5 b) (hn:n<=1000000):
 Calls prog 112 #[.slice A n c] w (mP w (qC l)):=by
 refine cS ⟨45,w,none, []⟩ func112 U ntmps112 U (gM (X:= [bW qO 4 254 w.heap.size none A n l]) (cF hl.old cX) (cG bW.lasts cY)) (bR ?_)
 have hlen:=hl.len
 refine bX U (bQ (bH (bR (bP U (bB (dT cF1 U) U (bB (eK U U) U (bQ ?_)))))))
 refine cC U (fun h1=>?_) (fun h1=>?_)
 ·refine bR (bX U (bQ ?_))
  refine bM (bA ?_)
  exact bJ U U fun wx hm=>⟨bT (by unfold qC;rw [if_pos (by omega)]),hm.g⟩
 refine bN (bD (bR (bX U (bQ (bH (bR (bP U (bB (dT cF1 U) U (bP U (bE (bD (bO ?_))))))))))))
 refine dX (γ:=Nat) (fun (k:Nat)=>k<=n/\qC l=scanE xQ (prevOf l k) (l.drop k)) (fun (k:Nat)=> [(3,.string (yI l k)),(9,.slice A n c),(10,.int .i64 ((n:Nat):Int)),(11,.int .i64 ((k:Nat):Int))]) (fun (k:Nat)=>fun _=>True) (fun (k:Nat)=> []) (fun (k:Nat)=> []) (fun (k:Nat)=> [bW qO 4 254 w.heap.size none A n l]) (fun (k:Nat)=>n - k) 0 ⟨Nat.zero_le _,by unfold qC;rw [if_neg (by omega)];rfl⟩ ⟨U,U,U,U,trivial⟩ (fun _ hm=>hm.pick [] [] [0] U U) ?_
 intro k cB
 replace cB:k<=n/\qC l=scanE xQ (prevOf l k) (l.drop k):=cB
 refine bR (bB (dE U U) U (bQ (bH ?_)))
 refine cC U (fun hk=>?_) (fun hk=>?_)
 ·refine bN (bD (bH (bO (bR ?_))))
  obtain ⟨b,off,hA,_,_⟩:=hl.get (by omega)
  subst hA
  obtain ⟨x,hx⟩:∃x,l[k]?=some x:=⟨_,fW3 (by omega)⟩
  obtain ⟨ke,on,dy,mo⟩:=x
  have hat:=scanE_at xQ l k _ hx
  have hk1:ke.size<=1000000:=hok _ (fX3 hx)
  refine bB (bV (j:=k) cF1 U U (by omega)) U (bB (dP (vs:= [.string ke,.int .i64 on,.int .i64 dy,.int .i64 mo]) cG7 U (fun _ hm=>(hm.fact 0 U).1) hx U U) U (dL eO4 U fun g1=>kE (cs':= [.string ke,.int .i64 on,.int .i64 dy,.int .i64 mo]) 0 cG7 U U U U (bQ (bH (bO (bR (dY bV0 U U (eJ fC 0 U U U (cH U bN6 U U (fun wx hm=>(wE _ wx (by omega))) (bB (cE U) U (bX U (bQ ?_))))))))))))
  refine dC U (fun hh=>?_) (fun hh=>?_)
  ·have h2:(keyB ke)=false:=by simpa using hh
   refine bR (bX U (bQ (bM (bC (bA (bC (bA (bA (bC (bA ?_))))))))))
   have hE:xQ (prevOf l k) ⟨ke,on,dy,mo⟩=5:=by unfold xQ;simp [h2]
   exact bJ U U fun wx hm=>⟨bT (by rw [cB.2,hat,if_neg (by rw [hE];decide),hE]),hm.g⟩
  have h2:(keyB ke)=true:=by simpa using hh
  refine bR (dY bV0 U U (eJ fC 0 U U U (bP U (bB (wG U U) U (bX U (bQ ?_))))))
  refine dC U (fun hh=>?_) (fun hh=>?_)
  ·have h9:(Op.bytesLess ke.toList (yI l k).toList||ke.toList==(yI l k).toList)=true:=by simpa using hh
   refine bR ?_
   have hO:cU6 (prevOf l k) ⟨ke,on,dy,mo⟩=true:=(cM2 (b:=⟨ke,on,dy,mo⟩) (by simpa using h2)).symm.trans h9
   refine bX U (bQ (bM (bC (bA (bC (bA (bA (bC (bA ?_)))))))))
   have hE:xQ (prevOf l k) ⟨ke,on,dy,mo⟩=7:=by unfold xQ;simp [h2,hO]
   exact bJ U U fun wx hm=>⟨bT (by rw [cB.2,hat,if_neg (by rw [hE];decide),hE]),hm.g⟩
  have h9:(Op.bytesLess ke.toList (yI l k).toList||ke.toList==(yI l k).toList)=false:=by simpa using hh
  refine bR ?_
  have hO:cU6 (prevOf l k) ⟨ke,on,dy,mo⟩=false:=(cM2 (b:=⟨ke,on,dy,mo⟩) (by simpa using h2)).symm.trans h9
  refine dY cW3 U U (eJ fP 0 U U U (cZ U vY U U (fun wx hm=>(kH _ _ _ wx)) (bB (cE U) U (bP U ?_))))
  rcases Bool.eq_false_or_eq_true (!(inB on 0 1000000)) with h4|h4
  ·refine bK 30 U (fU3 h4) ?_
   refine dZ U (dZ U (dZ U (dZ U (mN U U (bP U (dZ U (dZ U (dZ U (dZ U (mN U U (bX U (bQ (kP U (bR (bX U (bQ (bM (bC (bA (bC (bA (bA (bC (bA ?_))))))))))))))))))))))))
   have hE:xQ (prevOf l k) ⟨ke,on,dy,mo⟩=1:=by unfold xQ;simp [h2,hO,h4]
   exact bJ U U fun wx hm=>⟨bT (by rw [cB.2,hat,if_neg (by rw [hE];decide),hE]),hm.g⟩
  refine bK 30 U (fU3 h4) (eE U (dY cX3 U U (eE U (eJ fP 0 U U U (eE U (cZ U vY U U (fun wx hm=>(kH _ _ _ wx)) (eE U (bB (cE U) U (nR U U (bP U ?_))))))))))
  rcases Bool.eq_false_or_eq_true (!(inB dy 0 1000000)) with h5|h5
  ·refine bK 36 U (fU3 h5) ?_
   refine dZ U (dZ U (dZ U (dZ U (mN U U (bX U (bQ (kP U (bR (bX U (bQ (bM (bC (bA (bC (bA (bA (bC (bA ?_))))))))))))))))))
   have hE:xQ (prevOf l k) ⟨ke,on,dy,mo⟩=1:=by unfold xQ;simp [h2,hO,h4,h5]
   exact bJ U U fun wx hm=>⟨bT (by rw [cB.2,hat,if_neg (by rw [hE];decide),hE]),hm.g⟩
  refine bK 36 U (fU3 h5) (eE U (dY cY3 U U (eE U (eJ fP 0 U U U (eE U (cZ U vY U U (fun wx hm=>(kH _ _ _ wx)) (eE U (bB (cE U) U (nR U U (bX U (bQ ?_)))))))))))
  refine dC U (fun hh=>?_) (fun hh=>?_)
  ·have h6:(inB mo (-1) 1000000)=false:=by simpa using hh
   refine bR (bX U (bQ (bM (bC (bA (bC (bA (bA (bC (bA ?_))))))))))
   have hE:xQ (prevOf l k) ⟨ke,on,dy,mo⟩=1:=by unfold xQ;simp [h2,hO,h4,h5,h6]
   exact bJ U U fun wx hm=>⟨bT (by rw [cB.2,hat,if_neg (by rw [hE];decide),hE]),hm.g⟩
  have h6:(inB mo (-1) 1000000)=true:=by simpa using hh
  refine bN (bG (bD (bI ?_)))
  have hE:xQ (prevOf l k) ⟨ke,on,dy,mo⟩=0:=by unfold xQ;simp [h2,hO,h4,h5,h6]
  refine dY bV0 U U (eJ fC 0 U U U (bX U (bE (bG (bD (bI (gO U U (bP U (bE ?_)))))))))
  exact cN (k+1) ⟨by omega,by rw [cB.2,hat,if_pos hE]⟩ (by omega) ⟨(congrArg (fun z=>some (Value.string z)) (cD7 hx).symm),U,U,(cR (by omega)),trivial⟩ (fun _ hm=>hm.pick [] [] [0] U U)
 refine dD (bF (bF (bY (bD (bR (bX U (bQ (bM ?_))))))))
 exact bJ U U fun wx hm=>⟨bT (by rw [cB.2,scanE_end _ _ _ _ (by omega)]),hm.g⟩
theorem dB7 (x:Ex):(qO x).length=4:=rfl
theorem dC7 {a b:Ex} {q:Nat} (ha:a.key.size<=1000000) (hb:b.key.size<=1000000):∀x∈ [a,b].take q,bD5 x:=fun x hx=>by
 have h:=List.mem_of_mem_take hx
 rcases List.mem_cons.1 h with rfl|h
 ·exact ha
 ·rw [List.mem_singleton.1 h];exact hb
theorem cF6 (w:World) (B sb m:Nat) (hS:eU 25 w B sb m) (hm:m<=100000000000):
 Calls prog 107 #[.pointer (some ⟨sb,0,none⟩)] w (fun e w'=>∃(A:Option Addr) (n c:Nat) (l:List Ex),e=.returned (.slice A n c)/\SlT qO 4 254 w' A n l/\(∀x∈l,bD5 x)/\n<=2/\n<=c/\eU 25 w' B sb (m+30)/\w.grownBy w' (some sb)):=by
 refine cS ⟨42,w,(some sb), []⟩ func107 U ntmps107 U (bF4 (X:= []) hS cX cY) (bR (bX U (bQ (bR (bP U (jE 3 [.int .i64 0,.int .i64 5,.int .i64 100] fun g1=>dN (γ:=Int) (val:=fun v=> .int .i64 v) (φ:=fun v=>v∈([0,5,100]:List Int)) U pO U U U U (fun wx hm=>(eT [0,5,100] _ _ _ wx B sb _ hm.k (by omega) (by simp) (by simp) (hm.blkI 0 U) (hm.neRow 0 U U))) fun v2 zJ=>?_))))))
 have bv2:0<=v2/\v2<=100:=gP zJ (by decide)
 have bv20:=bv2.1
 have bv21:=bv2.2
 clear bv2
 refine bP U (jE 3 [.int .i64 0,.int .i64 2] fun g3=>dN (γ:=Int) (val:=fun v=> .int .i64 v) (φ:=fun v=>v∈([0,2]:List Int)) U pO U U U U (fun wx hm=>(eT [0,2] _ _ _ wx B sb _ hm.k (by omega) (by simp) (by simp) (hm.blkI 0 U) (hm.neRow 0 U U))) fun v4 hv4=>?_)
 have bv4:0<=v4/\v4<=2:=gP hv4 (by decide)
 have bv40:=bv4.1
 have bv41:=bv4.2
 clear bv4
 refine bP U (jE 3 [.int .i64 (-1),.int .i64 0,.int .i64 7] fun g5=>dN (γ:=Int) (val:=fun v=> .int .i64 v) (φ:=fun v=>v∈([-1,0,7]:List Int)) U pO U U U U (fun wx hm=>(eT [-1,0,7] _ _ _ wx B sb _ hm.k (by omega) (by simp) (by simp) (hm.blkI 0 U) (hm.neRow 0 U U))) fun v6 hv6=>?_)
 have bv6: -1<=v6/\v6<=7:=gP hv6 (by decide)
 have bv60:=bv6.1
 have bv61:=bv6.2
 clear bv6
 refine bB (dJ (cs:= [.string ⟨#[109,97,112]⟩,.int .i64 v2,.int .i64 v4,.int .i64 v6]) U (by kernel_rfl)) U (bP U (jE 3 [.int .i64 0,.int .i64 10] fun g7=>dN (γ:=Int) (val:=fun v=> .int .i64 v) (φ:=fun v=>v∈([0,10]:List Int)) U pO U U U U (fun wx hm=>(eT [0,10] _ _ _ wx B sb _ hm.k (by omega) (by simp) (by simp) (hm.blkI 0 U) (hm.neRow 0 U U))) fun v8 hv8=>?_))
 have bv8:0<=v8/\v8<=10:=gP hv8 (by decide)
 have bv80:=bv8.1
 have bv81:=bv8.2
 clear bv8
 refine bP U (jE 3 [.int .i64 0,.int .i64 3,.int .i64 50] fun g9=>dN (γ:=Int) (val:=fun v=> .int .i64 v) (φ:=fun v=>v∈([0,3,50]:List Int)) U pO U U U U (fun wx hm=>(eT [0,3,50] _ _ _ wx B sb _ hm.k (by omega) (by simp) (by simp) (hm.blkI 0 U) (hm.neRow 0 U U))) fun v10 hv10=>?_)
 have bv10:0<=v10/\v10<=50:=gP hv10 (by decide)
 have bv100:=bv10.1
 have bv101:=bv10.2
 clear bv10
 refine bP U (jE 3 [.int .i64 (-1),.int .i64 (-1),.int .i64 20,.int .i64 1000] fun g11=>dN (γ:=Int) (val:=fun v=> .int .i64 v) (φ:=fun v=>v∈([-1, -1,20,1000]:List Int)) U pO U U U U (fun wx hm=>(eT [-1, -1,20,1000] _ _ _ wx B sb _ hm.k (by omega) (by simp) (by simp) (hm.blkI 0 U) (hm.neRow 0 U U))) fun v12 hv12=>?_)
 have bv12: -1<=v12/\v12<=1000:=gP hv12 (by decide)
 have bv120:=bv12.1
 have bv121:=bv12.2
 clear bv12
 refine bB (dJ (cs:= [.string ⟨#[115,101,97,116]⟩,.int .i64 v8,.int .i64 v10,.int .i64 v12]) U (by kernel_rfl)) U (jE 254 [.string ⟨#[109,97,112]⟩,.int .i64 v2,.int .i64 v4,.int .i64 v6,.string ⟨#[115,101,97,116]⟩,.int .i64 v8,.int .i64 v10,.int .i64 v12] fun g13=>bX U (bQ (bH (bR (bP U (dN (γ:=Bool) (val:=fun v=> .bool v) (φ:=fun v=>True) U xN U U U U (fun wx hm=>((jY _ wx B sb _ hm.k (by omega) (by omega) (by omega)).mono fun _ _ ⟨v,he,hS,hg⟩=>⟨v,trivial,he,hS,hg⟩)) fun f14 _=>bQ ?_))))))
 refine dC U (fun hh=>?_) (fun hh=>?_)
 ·have hf:f14=true:=by simpa using hh
  refine bI (bP U (bP U (jE 9 [.string ⟨#[]⟩,.string ⟨#[65]⟩,.string ⟨#[109,97,112]⟩,.string ⟨#[115,101,97,116]⟩] fun g15=>dN (γ:=ByteArray) (val:=fun v=> .string v) (φ:=fun v=>v∈([⟨#[]⟩,⟨#[65]⟩,⟨#[109,97,112]⟩,⟨#[115,101,97,116]⟩]:List ByteArray)) U rK U U U U (fun wx hm=>(gU [⟨#[]⟩,⟨#[65]⟩,⟨#[109,97,112]⟩,⟨#[115,101,97,116]⟩] _ _ _ wx B sb _ hm.k (by omega) (by simp) (by simp) (hm.blkI 0 U) (hm.neRow 0 U U))) fun s16 hs16=>?_)))
  have zs16:s16.size<=100:=kG hs16 (by decide)
  refine bP U (dN (γ:=Int) (val:=fun v=> .int .i64 v) (φ:=fun v=> -2000000000000000<=v/\v<=2000000000000000) U bO2 U U U U (fun wx hm=>(mF _ _ wx B sb _ hm.k (by omega) (by omega) (by omega) (by omega))) fun v17 hv17=>bP U (dN (γ:=Int) (val:=fun v=> .int .i64 v) (φ:=fun v=> -2000000000000000<=v/\v<=2000000000000000) U bO2 U U U U (fun wx hm=>(mF _ _ wx B sb _ hm.k (by omega) (by omega) (by omega) (by omega))) fun v18 hv18=>bB (dJ (cs:= [.string s16,.int .i64 v17,.int .i64 0,.int .i64 v18]) U (by kernel_rfl)) U (bB (bV (j:=1) cF1 U U (by decide)) U (kE (cs':= [.string ⟨#[109,97,112]⟩,.int .i64 v2,.int .i64 v4,.int .i64 v6,.string s16,.int .i64 v17,.int .i64 0,.int .i64 v18]) 1 cG7 U U U U (bQ (bR (bP U (bP U (jE 3 [.int .i64 0,.int .i64 1,.int .i64 2,.int .i64 2] fun g19=>dN (γ:=Int) (val:=fun v=> .int .i64 v) (φ:=fun v=>v∈([0,1,2,2]:List Int)) U pO U U U U (fun wx hm=>(eT [0,1,2,2] _ _ _ wx B sb _ hm.k (by omega) (by simp) (by simp) (hm.blkI 0 U) (hm.neRow 0 U U))) fun vp hvp=>?_)))))))))
  have bvp:0<=vp/\vp<=2:=gP hvp (by decide)
  have bvp0:=bvp.1
  have bvp1:=bvp.2
  clear bvp
  obtain ⟨q,rfl⟩:=Int.eq_ofNat_of_zero_le bvp0
  have hq2:q<=2:=by omega
  refine bB (uA (hi:=q) cF1 U U U (by omega)) U (bX U (bQ (bM ?_)))
  refine bJ U U fun wx hm=>?_
  have hS:=SlT.ofBlk (l:=([⟨⟨#[109,97,112]⟩,v2,v4,v6⟩,⟨s16,v17,0,v18⟩]:List Ex)) dB7 (hm.blkI 2 rfl)
  exact ⟨_,q,2,([⟨⟨#[109,97,112]⟩,v2,v4,v6⟩,⟨s16,v17,0,v18⟩]:List Ex).take q,U,hS.takeT hq2,dC7 (show (⟨#[109,97,112]⟩:ByteArray).size<=1000000 by decide) (show (s16:ByteArray).size<=1000000 by omega),hq2,hq2,hm.k.more (by omega),hm.g⟩
 have hf:f14=false:=by simpa using hh
 refine bN (bD (bR (bP U (bP U (jE 3 [.int .i64 0,.int .i64 1,.int .i64 2,.int .i64 2] fun g20=>dN (γ:=Int) (val:=fun v=> .int .i64 v) (φ:=fun v=>v∈([0,1,2,2]:List Int)) U pO U U U U (fun wx hm=>(eT [0,1,2,2] _ _ _ wx B sb _ hm.k (by omega) (by simp) (by simp) (hm.blkI 0 U) (hm.neRow 0 U U))) fun vp hvp=>?_)))))
 have bvp:0<=vp/\vp<=2:=gP hvp (by decide)
 have bvp0:=bvp.1
 have bvp1:=bvp.2
 clear bvp
 obtain ⟨q,rfl⟩:=Int.eq_ofNat_of_zero_le bvp0
 have hq2:q<=2:=by omega
 refine bB (uA (hi:=q) cF1 U U U (by omega)) U (bX U (bQ (bM ?_)))
 refine bJ U U fun wx hm=>?_
 have hS:=SlT.ofBlk (l:=([⟨⟨#[109,97,112]⟩,v2,v4,v6⟩,⟨⟨#[115,101,97,116]⟩,v8,v10,v12⟩]:List Ex)) dB7 (hm.blkI 1 rfl)
 exact ⟨_,q,2,([⟨⟨#[109,97,112]⟩,v2,v4,v6⟩,⟨⟨#[115,101,97,116]⟩,v8,v10,v12⟩]:List Ex).take q,U,hS.takeT hq2,dC7 (show (⟨#[109,97,112]⟩:ByteArray).size<=1000000 by decide) (show (⟨#[115,101,97,116]⟩:ByteArray).size<=1000000 by decide),hq2,hq2,hm.k.more (by omega),hm.g⟩
structure Fe where
 a:ByteArray
 b:ByteArray
 cents:Int
def nD (x:Fe):List Value:= [.string x.a,.string x.b,.int .i64 x.cents]
theorem dH1 (x:Fe):(nD x).length=3:=rfl
def bU1 (x:Fe):Prop:=x.a.size<=1000000/\x.b.size<=1000000
def bS7 (q r:Fe):Bool:=ltS q.a r.a||(zH q.a r.a&&ltS q.b r.b)
def xF (p:Option Fe) (x:Fe):Bool:=match p with
 |none=>false
 |some q=> !bS7 q x
def mS (p:Option Fe) (x:Fe):Int:=
 if keyB x.a=false then 5 else if keyB x.b=false then 5 else if (x.a.toList==x.b.toList)=true then 14 else
 if xF p x=true then 7 else if inB x.cents 0 1000000=false then 1 else 0
def xC (l:List Fe):Int:=if 500 < l.length then 2 else scanE mS none l
theorem dA1 {a b:ByteArray}:(0<=mR a b)↔ltS a b=false:=by
 unfold mR ltS
 cases h:Go.Op.bytesLess a.toList b.toList
 ·by_cases e:(a.toList==b.toList)=true
  ·rw [e];simp
  ·have e:(a.toList==b.toList)=false:=by simpa using e
   rw [e];simp
 ·simp
theorem eG4 (q r:Fe):0<=dG [mR q.a r.a,mR q.b r.b]↔bS7 q r=false:=by
 unfold bS7 zH
 rw [uI]
 by_cases h:mR q.a r.a=0
 ·rw [if_pos h]
  obtain ⟨h1,h2⟩:=qB.1 h
  rw [dA1,h2]
  unfold ltS
  rw [h2,rE];simp
 ·rw [if_neg h,dA1]
  have hne:(q.a.toList==r.a.toList)=false∨ltS q.a r.a=true:=by
   cases h1:ltS q.a r.a
   ·left
    cases h2:(q.a.toList==r.a.toList)
    ·rfl
    ·exact absurd (qB.2 ⟨h1,by simpa using h2⟩) h
   ·exact .inr U
  rcases hne with h1|h1
  ·rw [h1];simp
  ·rw [h1];simp
theorem dT1 (q r:Fe):(Go.Op.bytesLess r.a.toList q.a.toList||(r.a.toList==q.a.toList&&(Go.Op.bytesLess r.b.toList q.b.toList||r.b.toList==q.b.toList)))= !bS7 q r:=by
 have key:∀x y:ByteArray,(Go.Op.bytesLess x.toList y.toList||x.toList==y.toList)= !ltS y x:=fun x y=>by
  unfold ltS
  cases h1:Go.Op.bytesLess x.toList y.toList
  ·cases h2:Go.Op.bytesLess y.toList x.toList
   ·rw [bH5 h1 h2];simp
   ·have e:=bN8 h2
    have e2:(x.toList==y.toList)=false:=by simpa using fun h=>e h.symm
    rw [e2];rfl
  ·rw [bM8 h1];rfl
 unfold bS7 zH
 rw [key r.b q.b]
 unfold ltS
 cases h1:Go.Op.bytesLess r.a.toList q.a.toList
 ·cases h2:Go.Op.bytesLess q.a.toList r.a.toList
  ·rw [bH5 h1 h2];simp
  ·have e:=bN8 h2
   have e2:(r.a.toList==q.a.toList)=false:=by simpa using fun h=>e h.symm
   rw [e2];simp
 ·have e:=bN8 h1
  have e2:(q.a.toList==r.a.toList)=false:=by simpa using fun h=>e h.symm
  rw [bM8 h1,e2];simp
theorem eP3:dA6 prog 255=some (2,1):=by kernel_rfl
theorem cB1 (l:List Fe) (A:Option Addr) (n c:Nat) (w:World) (hl:SlT nD 3 258 w A n l) (hok:∀b∈l,bU1 b) (hn:n<=1000000):
 Calls prog 165 #[.slice A n c] w (mP w (xC l)):=by
 refine cS ⟨64,w,none, []⟩ func165 U ntmps165 U (gM (X:= [bW nD 3 258 w.heap.size none A n l]) (cF hl.old cX) (cG bW.lasts cY)) (bR ?_)
 have hlen:=hl.len
 refine bX U (bQ (bH (bR (bP U (bB (dT bA9 U) U (bB (eK U U) U (bQ ?_)))))))
 refine cC U (fun h1=>?_) (fun h1=>?_)
 ·refine bR (bX U (bQ ?_))
  refine bM (bA ?_)
  exact bJ U U fun wx hm=>⟨bT (by unfold xC;rw [if_pos (by omega)]),hm.g⟩
 refine bN (bD (bH (bR (bP U (bB (dT bA9 U) U (bP U (bQ (bO ?_))))))))
 refine dX (γ:=Nat) (fun (k:Nat)=>k<=n/\xC l=scanE mS (prevOf l k) (l.drop k)) (fun (k:Nat)=> [(0,.slice A n c),(8,.slice A n c),(9,.int .i64 ((n:Nat):Int)),(10,.int .i64 ((k:Nat):Int))]) (fun (k:Nat)=>fun _=>True) (fun (k:Nat)=> []) (fun (k:Nat)=> []) (fun (k:Nat)=> [bW nD 3 258 w.heap.size none A n l]) (fun (k:Nat)=>n - k) 0 ⟨Nat.zero_le _,by unfold xC;rw [if_neg (by omega)];rfl⟩ ⟨U,U,U,U,trivial⟩ (fun _ hm=>hm.pick [] [] [0] U U) ?_
 intro k cB
 replace cB:k<=n/\xC l=scanE mS (prevOf l k) (l.drop k):=cB
 refine bR (bB (dE U U) U (bQ (bH ?_)))
 refine cC U (fun hk=>?_) (fun hk=>?_)
 ·refine bN (bD (bH (bO (bR ?_))))
  obtain ⟨b,off,hA,_,_⟩:=hl.get (by omega)
  subst hA
  obtain ⟨x,hx⟩:∃x,l[k]?=some x:=⟨_,fW3 (by omega)⟩
  obtain ⟨ka,kb,ce⟩:=x
  have hat:=scanE_at mS l k _ hx
  obtain ⟨hs1,hs2⟩:=hok _ (fX3 hx)
  have hs1:ka.size<=1000000:=hs1
  have hs2:kb.size<=1000000:=hs2
  refine bP U (bB (bV (j:=k) bA9 U U (by omega)) U (bB (dP (vs:= [.string ka,.string kb,.int .i64 ce]) dF2 U (fun _ hm=>(hm.fact 0 U).1) hx U U) U (dL eP4 U fun g1=>bX U (kE (cs':= [.string ka,.string kb,.int .i64 ce]) 0 dF2 U U U U (bQ (bO (bR (dY uF U U (eJ fC 0 U U U (cZ U bW1 U U (fun wx hm=>(isKey_any _ wx (by omega))) (bB (cE U) U (bP U ?_))))))))))))
  rcases Bool.eq_false_or_eq_true (!(keyB ka)) with h2|h2
  ·refine bK 20 U (fU3 h2) ?_
   have h2:keyB ka=false:=by simpa using h2
   refine dZ U (dZ U (dZ U (dZ U (mN U U (bX U (bQ (kP U (bR (bX U (bQ (bM (bC (bC (bA (bA (bC (bA ?_)))))))))))))))))
   have hE:mS (prevOf l k) ⟨ka,kb,ce⟩=5:=by unfold mS xF;simp [h2]
   exact bJ U U fun wx hm=>⟨bT (by rw [cB.2,hat,if_neg (by rw [hE];decide),hE]),hm.g⟩
  refine bK 20 U (fU3 h2) ?_
  have h2:keyB ka=true:=by simpa using h2
  refine eE U (dY wD U U (eE U (eJ fC 0 U U U (eE U (cZ U bW1 U U (fun wx hm=>(isKey_any _ wx (by omega))) (eE U (bB (cE U) U (nR U U (bX U (bQ ?_))))))))))
  refine dC U (fun hh=>?_) (fun hh=>?_)
  ·have h3:(keyB kb)=false:=by simpa using hh
   refine bR ?_
   have h3:keyB kb=false:=by simpa using h3
   refine bX U (bQ (bM (bC (bC (bA (bA (bC (bA ?_))))))))
   have hE:mS (prevOf l k) ⟨ka,kb,ce⟩=5:=by unfold mS xF;simp [h2,h3]
   exact bJ U U fun wx hm=>⟨bT (by rw [cB.2,hat,if_neg (by rw [hE];decide),hE]),hm.g⟩
  have h3:(keyB kb)=true:=by simpa using hh
  refine bR ?_
  have h3:keyB kb=true:=by simpa using h3
  refine dY uF U U (eJ fC 0 U U U (dY wD U U (eJ fC 0 U U U (bB (eS U U) U (bX U (bQ ?_))))))
  refine dC U (fun hh=>?_) (fun hh=>?_)
  ·have h4:(ka.toList==kb.toList)=true:=by simpa using hh
   refine bR (bX U (bQ (bM (bC (bC (bA (bA (bC (bA ?_)))))))))
   have hE:mS (prevOf l k) ⟨ka,kb,ce⟩=14:=by unfold mS xF;simp [h2,h3,(beq_iff_eq.1 h4)]
   exact bJ U U fun wx hm=>⟨bT (by rw [cB.2,hat,if_neg (by rw [hE];decide),hE]),hm.g⟩
  have h4:(ka.toList==kb.toList)=false:=by simpa using hh
  refine bH ?_
  have h4:¬ka.toList=kb.toList:=by simpa using h4
  by_cases hk0:k=0
  ·refine gd (fun wz=>True) mixed (fun _ _=>trivial) fun z=>?_
   refine wq 0 U (bL U) (wq 1 U (eK U U) (dH 34 (v':= .bool false) U (fU3 (decide_eq_false (by omega))) (wq 2 U (bL U) (fD 3 U (fD 4 U (fD 5 U (fD 6 U (fD 7 U (fD 8 U (fD 9 U (fD 10 U (fD 11 U (fD 12 U (fD 13 U (fD 14 U (fD 15 U (fD 16 U (fD 17 U (fD 18 U (fD 19 U (fD 20 U (fD 21 U (fD 22 U (fD 23 U (wq 24 U (fO U U) (wq 25 U (cV U) (jO ?_)))))))))))))))))))))))))))
   refine bD (jQ U (bR (dY bT3 U U (eJ fP 0 U U U (cZ U qA U U (fun wx hm=>(in_any _ _ _ wx)) (bB (cE U) U (bX U (bQ ?_))))))))
   refine dC U (fun hh=>?_) (fun hh=>?_)
   ·have h9:(inB ce 0 1000000)=false:=by simpa using hh
    refine bR (bX U (bQ (bM (bC (bC (bA (bA (bC (bA ?_)))))))))
    have hE:mS (prevOf l k) ⟨ka,kb,ce⟩=1:=by unfold mS xF;rw [bI1 hk0];simp [h2,h3,h4,h9]
    exact bJ U U fun wx hm=>⟨bT (by rw [cB.2,hat,if_neg (by rw [hE];decide),hE]),hm.g⟩
   have h9:(inB ce 0 1000000)=true:=by simpa using hh
   refine bN (bG (bG (bD (bI ?_))))
   have hE:mS (prevOf l k) ⟨ka,kb,ce⟩=0:=by unfold mS xF;rw [bI1 hk0];simp [h2,h3,h4,h9]
   refine gO U U (bP U (bE ?_))
   exact cN (k+1) ⟨by omega,by rw [cB.2,hat,if_pos hE]⟩ (by omega) ⟨U,U,U,(cR (by omega)),trivial⟩ (fun _ hm=>hm.pick [] [] [0] U U)
  obtain ⟨y,hy⟩:∃x,l[k - 1]?=some x:=⟨_,fW3 (by omega)⟩
  obtain ⟨p0,p1,p2⟩:=y
  have hpv:=cQ4 hk0 hy
  refine gd (fun wz=>Blk wz g1 258 [.string ka,.string kb,.int .i64 ce]/\(bW nD 3 258 w.heap.size none (some ⟨b,off,none⟩) n l) wz/\True) mixed (fun _ hm=>⟨hm.bl 0,hm.fa 0,trivial⟩) fun z=>wq 0 U (bL U) (wq 1 U (eK U U) (dH 34 (v':= .bool true) U (fU3 (decide_eq_true (by omega))) (wq 2 U (bL U) (fI 3 U (bL U) (fI 4 U (bL U) (fI 5 U (ov_sub U U (by omega) (by omega)) (dH 38 (v':= .int .i64 ((k - 1:Nat):Int)) U (fV3 (by omega)) (fI 6 U (bV (j:=k - 1) bA9 U U (by omega)) (fI 7 U (bS uF U U) (fI 8 U (dK (k:=0) (v:= .string p0) fC U (fun _ hm=>(hm.2.1).1) hy U U) (fI 9 U (bS uF U U) (fI 10 U (cQ fC U (fun _ hm=>hm.1) U) (fI 12 U (bL U) (fI 13 U (bL U) (fI 14 U (ov_sub U U (by omega) (by omega)) (dH 47 (v':= .int .i64 ((k - 1:Nat):Int)) U (fV3 (by omega)) (fI 15 U (bV (j:=k - 1) bA9 U U (by omega)) (fI 16 U (bS wD U U) (fI 17 U (dK (k:=1) (v:= .string p1) fC U (fun _ hm=>(hm.2.1).1) hy U U) (fI 18 U (bS wD U U) (fI 19 U (cQ fC U (fun _ hm=>hm.1) U) (eG 11 U (eE U (cH U cM5 U U (fun wx hm=>(pR _ _ wx)) (bE (nw 26 1048575 (fun _ hm=>⟨hm.bl 0,hm.fa 0,trivial⟩) fun z=>eG 20 U (eE U ?_)))))))))))))))))))))))))))
  refine cH U cM5 U U (fun wx hm=>(pR _ _ wx)) (bE (nw 26 2097151 (fun _ hm=>⟨hm.bl 0,hm.fa 0,trivial⟩) fun z=>eG 21 U (eE U (jE 3 [.int .i64 (mR p0 ka),.int .i64 (mR p1 kb)] fun g2=>bE (nw 26 4194303 (fun _ hm=>⟨hm.bl 1,hm.fa 0,trivial⟩) fun z=>eG 22 U (eE U (cH U dE3 U U (fun wx hm=>(cA0 _ _ _ _ _ wx (hm.blkI 0 U))) (bE (nw 26 8388607 (fun _ hm=>⟨hm.bl 1,hm.fa 0,trivial⟩) fun z=>fI 23 U (mG U U) (wq 24 U (fE U U) (wq 25 U (cV U) (jO (bD ?_)))))))))))))
  refine cC U (fun h8=>?_) (fun h8=>?_)
  ·refine bR ?_
   have h8:bS7 ⟨p0,p1,p2⟩ ⟨ka,kb,ce⟩=false:=(eG4 ⟨p0,p1,p2⟩ ⟨ka,kb,ce⟩).1 h8
   refine bX U (bQ (bM (bC (bC (bA (bA (bC (bA ?_))))))))
   have hE:mS (prevOf l k) ⟨ka,kb,ce⟩=7:=by unfold mS xF;rw [hpv];simp [h2,h3,h4,h8]
   exact bJ U U fun wx hm=>⟨bT (by rw [cB.2,hat,if_neg (by rw [hE];decide),hE]),hm.g⟩
  refine bR ?_
  have h8:bS7 ⟨p0,p1,p2⟩ ⟨ka,kb,ce⟩=true:=by
   cases h:bS7 ⟨p0,p1,p2⟩ ⟨ka,kb,ce⟩
   ·exact absurd ((eG4 ⟨p0,p1,p2⟩ ⟨ka,kb,ce⟩).2 h) h8
   rfl
  refine dY bT3 U U (eJ fP 1 U U U (cZ U qA U U (fun wx hm=>(in_any _ _ _ wx)) (bB (cE U) U (bX U (bQ ?_)))))
  refine dC U (fun hh=>?_) (fun hh=>?_)
  ·have h9:(inB ce 0 1000000)=false:=by simpa using hh
   refine bR (bX U (bQ (bM (bC (bC (bA (bA (bC (bA ?_)))))))))
   have hE:mS (prevOf l k) ⟨ka,kb,ce⟩=1:=by unfold mS xF;rw [hpv];simp [h2,h3,h4,h8,h9]
   exact bJ U U fun wx hm=>⟨bT (by rw [cB.2,hat,if_neg (by rw [hE];decide),hE]),hm.g⟩
  have h9:(inB ce 0 1000000)=true:=by simpa using hh
  refine bN (bG (bG (bD (bI ?_))))
  have hE:mS (prevOf l k) ⟨ka,kb,ce⟩=0:=by unfold mS xF;rw [hpv];simp [h2,h3,h4,h8,h9]
  refine gO U U (bP U (bE ?_))
  exact cN (k+1) ⟨by omega,by rw [cB.2,hat,if_pos hE]⟩ (by omega) ⟨U,U,U,(cR (by omega)),trivial⟩ (fun _ hm=>hm.pick [] [] [0] U U)
 refine dD (bF (bF (bY (bD (bR (bX U (bQ (bM ?_))))))))
 exact bJ U U fun wx hm=>⟨bT (by rw [cB.2,scanE_end _ _ _ _ (by omega)]),hm.g⟩
theorem cH1 (l:List Fe) (A:Option Addr) (n c:Nat) (w:World) (hl:SlT nD 3 258 w A n l) (hok:∀b∈l,bU1 b) (hn:n<=1000000):
 Calls prog 113 #[.slice A n c] w (mP w (xC l)):=by
 refine cS ⟨74,w,none, []⟩ func113 U ntmps113 U (gM (X:= [bW nD 3 258 w.heap.size none A n l]) (cF hl.old cX) (cG bW.lasts cY)) (bR ?_)
 have hlen:=hl.len
 refine bX U (bQ (bH (bR (bP U (bB (dT bA9 U) U (bB (eK U U) U (bQ ?_)))))))
 refine cC U (fun h1=>?_) (fun h1=>?_)
 ·refine bR (bX U (bQ ?_))
  refine bM (bA ?_)
  exact bJ U U fun wx hm=>⟨bT (by unfold xC;rw [if_pos (by omega)]),hm.g⟩
 refine bN (bD (bH (bR (bP U (bB (dT bA9 U) U (bP U (bQ (bO ?_))))))))
 refine dX (γ:=Nat) (fun (k:Nat)=>k<=n/\xC l=scanE mS (prevOf l k) (l.drop k)) (fun (k:Nat)=> [(0,.slice A n c),(8,.slice A n c),(9,.int .i64 ((n:Nat):Int)),(10,.int .i64 ((k:Nat):Int))]) (fun (k:Nat)=>fun _=>True) (fun (k:Nat)=> []) (fun (k:Nat)=> []) (fun (k:Nat)=> [bW nD 3 258 w.heap.size none A n l]) (fun (k:Nat)=>n - k) 0 ⟨Nat.zero_le _,by unfold xC;rw [if_neg (by omega)];rfl⟩ ⟨U,U,U,U,trivial⟩ (fun _ hm=>hm.pick [] [] [0] U U) ?_
 intro k cB
 replace cB:k<=n/\xC l=scanE mS (prevOf l k) (l.drop k):=cB
 refine bR (bB (dE U U) U (bQ (bH ?_)))
 refine cC U (fun hk=>?_) (fun hk=>?_)
 ·refine bN (bD (bH (bO (bR ?_))))
  obtain ⟨b,off,hA,_,_⟩:=hl.get (by omega)
  subst hA
  obtain ⟨x,hx⟩:∃x,l[k]?=some x:=⟨_,fW3 (by omega)⟩
  obtain ⟨ka,kb,ce⟩:=x
  have hat:=scanE_at mS l k _ hx
  obtain ⟨hs1,hs2⟩:=hok _ (fX3 hx)
  have hs1:ka.size<=1000000:=hs1
  have hs2:kb.size<=1000000:=hs2
  refine bP U (bB (bV (j:=k) bA9 U U (by omega)) U (bB (dP (vs:= [.string ka,.string kb,.int .i64 ce]) dF2 U (fun _ hm=>(hm.fact 0 U).1) hx U U) U (dL eP4 U fun g1=>bX U (kE (cs':= [.string ka,.string kb,.int .i64 ce]) 0 dF2 U U U U (bQ (bO (bR (dY uF U U (eJ fC 0 U U U (cH U bN6 U U (fun wx hm=>(wE _ wx (by omega))) (bB (cE U) U (bP U ?_))))))))))))
  rcases Bool.eq_false_or_eq_true (!(keyB ka)) with h2|h2
  ·refine bK 20 U (fU3 h2) ?_
   have h2:keyB ka=false:=by simpa using h2
   refine dZ U (dZ U (dZ U (dZ U (mN U U (bX U (bQ (kP U (bR (bX U (bQ (bM (bC (bC (bA (bA (bC (bA ?_)))))))))))))))))
   have hE:mS (prevOf l k) ⟨ka,kb,ce⟩=5:=by unfold mS xF;simp [h2]
   exact bJ U U fun wx hm=>⟨bT (by rw [cB.2,hat,if_neg (by rw [hE];decide),hE]),hm.g⟩
  refine bK 20 U (fU3 h2) ?_
  have h2:keyB ka=true:=by simpa using h2
  refine eE U (dY wD U U (eE U (eJ fC 0 U U U (eE U (cH U bN6 U U (fun wx hm=>(wE _ wx (by omega))) (eE U (bB (cE U) U (nR U U (bX U (bQ ?_))))))))))
  refine dC U (fun hh=>?_) (fun hh=>?_)
  ·have h3:(keyB kb)=false:=by simpa using hh
   refine bR ?_
   have h3:keyB kb=false:=by simpa using h3
   refine bX U (bQ (bM (bC (bC (bA (bA (bC (bA ?_))))))))
   have hE:mS (prevOf l k) ⟨ka,kb,ce⟩=5:=by unfold mS xF;simp [h2,h3]
   exact bJ U U fun wx hm=>⟨bT (by rw [cB.2,hat,if_neg (by rw [hE];decide),hE]),hm.g⟩
  have h3:(keyB kb)=true:=by simpa using hh
  refine bR ?_
  have h3:keyB kb=true:=by simpa using h3
  refine dY uF U U (eJ fC 0 U U U (dY wD U U (eJ fC 0 U U U (bB (eS U U) U (bX U (bQ ?_))))))
  refine dC U (fun hh=>?_) (fun hh=>?_)
  ·have h4:(ka.toList==kb.toList)=true:=by simpa using hh
   refine bR (bX U (bQ (bM (bC (bC (bA (bA (bC (bA ?_)))))))))
   have hE:mS (prevOf l k) ⟨ka,kb,ce⟩=14:=by unfold mS xF;simp [h2,h3,(beq_iff_eq.1 h4)]
   exact bJ U U fun wx hm=>⟨bT (by rw [cB.2,hat,if_neg (by rw [hE];decide),hE]),hm.g⟩
  have h4:(ka.toList==kb.toList)=false:=by simpa using hh
  refine bH ?_
  have h4:¬ka.toList=kb.toList:=by simpa using h4
  by_cases hk0:k=0
  ·refine gd (fun wz=>True) mixed (fun _ _=>trivial) fun z=>?_
   refine wq 0 U (bL U) (wq 1 U (eK U U) (dH 34 (v':= .bool false) U (fU3 (decide_eq_false (by omega))) (wq 2 U (bL U) (fD 3 U (fD 4 U (fD 5 U (fD 6 U (fD 7 U (fD 8 U (fD 9 U (fD 10 U (fD 11 U (fD 12 U (rI 13 U (rI 14 U (rI 15 U (rI 16 U (rI 17 U (rI 18 U (rI 19 U (rI 20 U (rI 21 U (rI 22 U (rI 23 U (rI 24 U (rI 25 U (rI 26 U (rI 27 U (rI 28 U ?_)))))))))))))))))))))))))))))
   refine rI 29 U (rI 30 U (rI 31 U (rI 32 U (fD 33 U (wq 34 U (fO U U) (wq 35 U (cV U) (jO (bD (jQ U (bR (dY bT3 U U (eJ fP 0 U U U (cZ U vY U U (fun wx hm=>(kH _ _ _ wx)) (bB (cE U) U (bX U (bQ ?_))))))))))))))))
   refine dC U (fun hh=>?_) (fun hh=>?_)
   ·have h9:(inB ce 0 1000000)=false:=by simpa using hh
    refine bR (bX U (bQ (bM (bC (bC (bA (bA (bC (bA ?_)))))))))
    have hE:mS (prevOf l k) ⟨ka,kb,ce⟩=1:=by unfold mS xF;rw [bI1 hk0];simp [h2,h3,h4,h9]
    exact bJ U U fun wx hm=>⟨bT (by rw [cB.2,hat,if_neg (by rw [hE];decide),hE]),hm.g⟩
   have h9:(inB ce 0 1000000)=true:=by simpa using hh
   refine bN (bG (bG (bD (bI ?_))))
   have hE:mS (prevOf l k) ⟨ka,kb,ce⟩=0:=by unfold mS xF;rw [bI1 hk0];simp [h2,h3,h4,h9]
   refine gO U U (bP U (bE ?_))
   exact cN (k+1) ⟨by omega,by rw [cB.2,hat,if_pos hE]⟩ (by omega) ⟨U,U,U,(cR (by omega)),trivial⟩ (fun _ hm=>hm.pick [] [] [0] U U)
  obtain ⟨y,hy⟩:∃x,l[k - 1]?=some x:=⟨_,fW3 (by omega)⟩
  obtain ⟨p0,p1,p2⟩:=y
  have hpv:=cQ4 hk0 hy
  refine gd (fun wz=>Blk wz g1 258 [.string ka,.string kb,.int .i64 ce]/\(bW nD 3 258 w.heap.size none (some ⟨b,off,none⟩) n l) wz/\True) mixed (fun _ hm=>⟨hm.bl 0,hm.fa 0,trivial⟩) fun z=>wq 0 U (bL U) (wq 1 U (eK U U) (dH 34 (v':= .bool true) U (fU3 (decide_eq_true (by omega))) (wq 2 U (bL U) (fI 3 U (bS uF U U) (fI 4 U (cQ fC U (fun _ hm=>hm.1) U) (fI 5 U (bL U) (fI 6 U (bL U) (fI 7 U (ov_sub U U (by omega) (by omega)) (dH 40 (v':= .int .i64 ((k - 1:Nat):Int)) U (fV3 (by omega)) (fI 8 U (bV (j:=k - 1) bA9 U U (by omega)) (fI 9 U (bS uF U U) (fI 10 U (dK (k:=0) (v:= .string p0) fC U (fun _ hm=>(hm.2.1).1) hy U U) (fI 11 U (cP4 U U) (fI 12 U (bL U) ?_))))))))))))))
  rcases Bool.eq_false_or_eq_true (Op.bytesLess ka.toList p0.toList) with h5|h5
  ·refine dH 45 U (fU3 h5) ?_
   have h8:bS7 ⟨p0,p1,p2⟩ ⟨ka,kb,ce⟩=false:=by have h:=dT1 ⟨p0,p1,p2⟩ ⟨ka,kb,ce⟩;simp only at h;rw [h5] at h;simpa using h.symm
   refine fD 13 U (fD 14 U (fD 15 U (fD 16 U (fD 17 U (fD 18 U (fD 19 U (fD 20 U (fD 21 U (fD 22 U (rI 23 U (rI 24 U (rI 25 U (rI 26 U (rI 27 U (rI 28 U (rI 29 U (rI 30 U (rI 31 U (fD 32 U (fI 33 U (fE U U) (wq 34 U (fE U U) (wq 35 U (cV U) (jO (bD (kP U (bR (bX U (bQ (bM ?_)))))))))))))))))))))))))))))
   refine bC (bC (bA (bA (bC (bA ?_)))))
   have hE:mS (prevOf l k) ⟨ka,kb,ce⟩=7:=by unfold mS xF;rw [hpv];simp [h2,h3,h4,h8]
   exact bJ U U fun wx hm=>⟨bT (by rw [cB.2,hat,if_neg (by rw [hE];decide),hE]),hm.g⟩
  refine dH 45 U (fU3 h5) (fI 13 U (bS uF U U) (fI 14 U (cQ fC U (fun _ hm=>hm.1) U) (fI 15 U (bL U) (fI 16 U (bL U) (fI 17 U (ov_sub U U (by omega) (by omega)) (dH 50 (v':= .int .i64 ((k - 1:Nat):Int)) U (fV3 (by omega)) (fI 18 U (bV (j:=k - 1) bA9 U U (by omega)) (fI 19 U (bS uF U U) (fI 20 U (dK (k:=0) (v:= .string p0) fC U (fun _ hm=>(hm.2.1).1) hy U U) (fI 21 U (eS U U) (fI 22 U (bL U) ?_)))))))))))
  rcases Bool.eq_false_or_eq_true (ka.toList==p0.toList) with h6|h6
  ·refine dH 55 U (fU3 h6) ?_
   refine fI 23 U (bS wD U U) (fI 24 U (cQ fC U (fun _ hm=>hm.1) U) (fI 25 U (bL U) (fI 26 U (bL U) (fI 27 U (ov_sub U U (by omega) (by omega)) (dH 60 (v':= .int .i64 ((k - 1:Nat):Int)) U (fV3 (by omega)) (fI 28 U (bV (j:=k - 1) bA9 U U (by omega)) (fI 29 U (bS wD U U) (fI 30 U (dK (k:=1) (v:= .string p1) fC U (fun _ hm=>(hm.2.1).1) hy U U) (fI 31 U (wG U U) (fI 32 U (fE U U) (fI 33 U (fO U U) (wq 34 U (fE U U) (wq 35 U (cV U) (jO (bD ?_)))))))))))))))
   refine dC U (fun hh=>?_) (fun hh=>?_)
   ·have h7:(Op.bytesLess kb.toList p1.toList||kb.toList==p1.toList)=true:=by simpa using hh
    refine bR ?_
    have h8:bS7 ⟨p0,p1,p2⟩ ⟨ka,kb,ce⟩=false:=by have h:=dT1 ⟨p0,p1,p2⟩ ⟨ka,kb,ce⟩;simp only at h;rw [h5,h6,h7] at h;simpa using h.symm
    refine bX U (bQ (bM (bC (bC (bA (bA (bC (bA ?_))))))))
    have hE:mS (prevOf l k) ⟨ka,kb,ce⟩=7:=by unfold mS xF;rw [hpv];simp [h2,h3,h4,h8]
    exact bJ U U fun wx hm=>⟨bT (by rw [cB.2,hat,if_neg (by rw [hE];decide),hE]),hm.g⟩
   have h7:(Op.bytesLess kb.toList p1.toList||kb.toList==p1.toList)=false:=by simpa using hh
   refine bR ?_
   have h8:bS7 ⟨p0,p1,p2⟩ ⟨ka,kb,ce⟩=true:=by have h:=dT1 ⟨p0,p1,p2⟩ ⟨ka,kb,ce⟩;simp only at h;rw [h5,h6,h7] at h;simpa using h.symm
   refine dY bT3 U U (eJ fP 0 U U U (cZ U vY U U (fun wx hm=>(kH _ _ _ wx)) (bB (cE U) U (bX U (bQ ?_)))))
   refine dC U (fun hh=>?_) (fun hh=>?_)
   ·have h9:(inB ce 0 1000000)=false:=by simpa using hh
    refine bR (bX U (bQ (bM (bC (bC (bA (bA (bC (bA ?_)))))))))
    have hE:mS (prevOf l k) ⟨ka,kb,ce⟩=1:=by unfold mS xF;rw [hpv];simp [h2,h3,h4,h8,h9]
    exact bJ U U fun wx hm=>⟨bT (by rw [cB.2,hat,if_neg (by rw [hE];decide),hE]),hm.g⟩
   have h9:(inB ce 0 1000000)=true:=by simpa using hh
   refine bN (bG (bG (bD (bI ?_))))
   have hE:mS (prevOf l k) ⟨ka,kb,ce⟩=0:=by unfold mS xF;rw [hpv];simp [h2,h3,h4,h8,h9]
   refine gO U U (bP U (bE ?_))
   exact cN (k+1) ⟨by omega,by rw [cB.2,hat,if_pos hE]⟩ (by omega) ⟨U,U,U,(cR (by omega)),trivial⟩ (fun _ hm=>hm.pick [] [] [0] U U)
  refine dH 55 U (fU3 h6) ?_
  have h8:bS7 ⟨p0,p1,p2⟩ ⟨ka,kb,ce⟩=true:=by have h:=dT1 ⟨p0,p1,p2⟩ ⟨ka,kb,ce⟩;simp only at h;rw [h5,h6] at h;simpa using h.symm
  refine fD 23 U (fD 24 U (fD 25 U (fD 26 U (fD 27 U (fD 28 U (fD 29 U (fD 30 U (fD 31 U (fI 32 U (fO U U) (fI 33 U (fO U U) (wq 34 U (fE U U) (wq 35 U (cV U) (jO (bD (jQ U (bR (dY bT3 U U (eJ fP 0 U U U (cZ U vY U U (fun wx hm=>(kH _ _ _ wx)) (bB (cE U) U (bX U (bQ ?_))))))))))))))))))))))
  refine dC U (fun hh=>?_) (fun hh=>?_)
  ·have h9:(inB ce 0 1000000)=false:=by simpa using hh
   refine bR (bX U (bQ (bM (bC (bC (bA (bA (bC (bA ?_)))))))))
   have hE:mS (prevOf l k) ⟨ka,kb,ce⟩=1:=by unfold mS xF;rw [hpv];simp [h2,h3,h4,h8,h9]
   exact bJ U U fun wx hm=>⟨bT (by rw [cB.2,hat,if_neg (by rw [hE];decide),hE]),hm.g⟩
  have h9:(inB ce 0 1000000)=true:=by simpa using hh
  refine bN (bG (bG (bD (bI ?_))))
  have hE:mS (prevOf l k) ⟨ka,kb,ce⟩=0:=by unfold mS xF;rw [hpv];simp [h2,h3,h4,h8,h9]
  refine gO U U (bP U (bE ?_))
  exact cN (k+1) ⟨by omega,by rw [cB.2,hat,if_pos hE]⟩ (by omega) ⟨U,U,U,(cR (by omega)),trivial⟩ (fun _ hm=>hm.pick [] [] [0] U U)
 refine dD (bF (bF (bY (bD (bR (bX U (bQ (bM ?_))))))))
 exact bJ U U fun wx hm=>⟨bT (by rw [cB.2,scanE_end _ _ _ _ (by omega)]),hm.g⟩
def fU0 (x:ByteArray×ByteArray):List Value:= [.string x.1,.string x.2]
theorem eG6 (x:ByteArray×ByteArray):(fU0 x).length=2:=rfl
theorem fV0 {x:ByteArray×ByteArray} (h:x∈([(⟨#[115,49]⟩,⟨#[115,50]⟩),(⟨#[115,49]⟩,⟨#[115,51]⟩),(⟨#[115,50]⟩,⟨#[115,49]⟩),(⟨#[115,51]⟩,⟨#[115,50]⟩)]:List (ByteArray×ByteArray))):x.1.size<=100/\x.2.size<=100:=by
 have key:∀y∈([(⟨#[115,49]⟩,⟨#[115,50]⟩),(⟨#[115,49]⟩,⟨#[115,51]⟩),(⟨#[115,50]⟩,⟨#[115,49]⟩),(⟨#[115,51]⟩,⟨#[115,50]⟩)]:List (ByteArray×ByteArray)),y.1.size<=100/\y.2.size<=100:=by decide
 exact key x h
theorem dG1 {l:List Fe} {x:Fe} (h:∀y∈l,bU1 y) (h1:x.a.size<=1000000) (h2:x.b.size<=1000000):∀y∈l++ [x],bU1 y:=fun y hy=>by
 rcases List.mem_append.1 hy with hy|hy
 ·exact h y hy
 ·rw [List.mem_singleton.1 hy];exact ⟨h1,h2⟩
theorem dS3 (w:World) (B sb m:Nat) (hS:eU 25 w B sb m) (hm:m<=100000000000):
 Calls prog 108 #[.pointer (some ⟨sb,0,none⟩)] w (fun e w'=>∃(A:Option Addr) (n c:Nat) (l:List Fe),e=.returned (.slice A n c)/\SlT nD 3 258 w' A n l/\(∀x∈l,bU1 x)/\n<=5/\n<=c/\eU 25 w' B sb (m+30)/\w.grownBy w' (some sb)):=by
 refine cS ⟨46,w,(some sb), []⟩ func108 U ntmps108 U (bF4 (X:= []) hS cX cY) (bR (bX U (bQ (bR (bX U (bQ (bH (bR (bB (dJ (cs:= [.string ⟨#[115,49]⟩,.string ⟨#[115,50]⟩]) U (by kernel_rfl)) U (bB (dJ (cs:= [.string ⟨#[115,49]⟩,.string ⟨#[115,51]⟩]) U (by kernel_rfl)) U (bB (dJ (cs:= [.string ⟨#[115,50]⟩,.string ⟨#[115,49]⟩]) U (by kernel_rfl)) U (bB (dJ (cs:= [.string ⟨#[115,51]⟩,.string ⟨#[115,50]⟩]) U (by kernel_rfl)) U (jE 255 [.string ⟨#[115,49]⟩,.string ⟨#[115,50]⟩,.string ⟨#[115,49]⟩,.string ⟨#[115,51]⟩,.string ⟨#[115,50]⟩,.string ⟨#[115,49]⟩,.string ⟨#[115,51]⟩,.string ⟨#[115,50]⟩] fun g1=>bB (dT eE4 U) U (bK 11 (v':= .int .i64 4) U U (bP U (bQ (bO ?_)))))))))))))))))
 refine rG 258 3 ?_
 refine dX (γ:=Nat×Nat×Value×List Fe×List Value) (fun g=>g.1<=4/\g.2.1<=g.1/\g.2.2.2.1.length=g.2.1/\(∀x∈g.2.2.2.1,bU1 x)/\g.2.2.2.2=g.2.2.2.1.flatMap nD) (fun g=> [(0,.pointer (some ⟨sb,0,none⟩)),(2,.slice none 0 0),(3,g.2.2.1),(10,.slice (some ⟨g1,0,none⟩) 4 4),(11,.int .i64 4),(12,.int .i64 ((g.1:Nat):Int))]) (fun g=>fun w=>eU 25 w B sb (m+2 *g.1)) (fun g=> [(g1,255, [.string ⟨#[115,49]⟩,.string ⟨#[115,50]⟩,.string ⟨#[115,49]⟩,.string ⟨#[115,51]⟩,.string ⟨#[115,50]⟩,.string ⟨#[115,49]⟩,.string ⟨#[115,51]⟩,.string ⟨#[115,50]⟩])]) (fun g=> [⟨g.2.2.1,258,3,g.2.1,g.2.2.2.2⟩]) (fun g=> []) (fun g=>4 - g.1) (0,0,.slice none 0 0, [], []) ⟨Nat.zero_le _,Nat.zero_le _,U,(fun _ h=>by cases h),U⟩ ⟨U,U,U,U,U,U,trivial⟩ (fun _ hm=>(hm.more U (by first|omega|(dsimp only;omega))).pick [0] [0] [] U U) ?_
 rintro ⟨k,n,v,l,xs⟩ cB
 replace cB:k<=4/\n<=k/\l.length=n/\(∀x∈l,bU1 x)/\xs=l.flatMap nD:=cB
 dsimp only
 refine bR ?_
 obtain ⟨hi0,hi1,vN,hi3,rfl⟩:=cB
 refine bB (dE U U) U (bQ (bH ?_))
 refine cC U (fun hk=>?_) (fun hk=>?_)
 ·refine bN (bD (bH (bO (bR ?_))))
  obtain ⟨nm,hx⟩:∃x,([(⟨#[115,49]⟩,⟨#[115,50]⟩),(⟨#[115,49]⟩,⟨#[115,51]⟩),(⟨#[115,50]⟩,⟨#[115,49]⟩),(⟨#[115,51]⟩,⟨#[115,50]⟩)]:List (ByteArray×ByteArray))[k]?=some x:=⟨_,fW3 (by simp;omega)⟩
  obtain ⟨na,nb⟩:=nm
  obtain ⟨hna,hnb⟩:=fV0 (fX3 hx)
  dsimp only at hna hnb
  refine bB (bV (j:=k) eE4 U U (by omega)) U (bB (dP (vs:= [.string na,.string nb]) eJ4 U (fun _ hm=>(SlT.ofBlk (l:= [(⟨#[115,49]⟩,⟨#[115,50]⟩),(⟨#[115,49]⟩,⟨#[115,51]⟩),(⟨#[115,50]⟩,⟨#[115,49]⟩),(⟨#[115,51]⟩,⟨#[115,50]⟩)]) eG6 (hm.blkI 0 U))) hx U U) U (dL fG1 U fun g2=>kE (cs':= [.string na,.string nb]) 0 eJ4 U U U U (bQ (bR (bP U (dN (γ:=Bool) (val:=fun v=> .bool v) (φ:=fun v=>True) U xN U U U U (fun wx hm=>((jY _ wx B sb _ hm.k (by omega) (by omega) (by omega)).mono fun _ _ ⟨v,he,hS,hg⟩=>⟨v,trivial,he,hS,hg⟩)) fun f3 _=>bB (cE U) U (bQ ?_)))))))
  refine dC U (fun hh=>?_) (fun hh=>?_)
  ·have hf:f3=false:=by simpa using hh
   refine gd (fun wz=>Blk wz g2 255 [.string na,.string nb]/\True) mixed (fun _ hm=>⟨hm.bl 0,trivial⟩) fun z=>wq 0 U (bL U) (wq 1 U (cJ2 (j:=0) eP3 U U (by decide) U) (wq 2 U (cQ fC U (fun _ hm=>hm.1) U) (wq 3 U (cJ2 (j:=1) eP3 U U (by decide) U) (wq 4 U (cQ fC U (fun _ hm=>hm.1) U) (wq 5 U (bL U) (eG 6 U (jE 3 [.int .i64 0,.int .i64 40,.int .i64 700] fun g4=>bE (nw 12 127 (fun _ hm=>⟨hm.bl 1,trivial⟩) fun z=>eG 7 U (dN (γ:=Int) (val:=fun v=> .int .i64 v) (φ:=fun v=>v∈([0,40,700]:List Int)) U pO U U U U (fun wx hm=>(eT [0,40,700] _ _ _ wx B sb _ hm.k (by omega) (by simp) (by simp) (hm.blkI 0 U) (hm.neRow 0 U U))) fun v5 hv5=>?_)))))))))
   have bv5:0<=v5/\v5<=700:=gP hv5 (by decide)
   have bv50:=bv5.1
   have bv51:=bv5.2
   clear bv5
   refine bE (nw 12 255 (fun _ hm=>⟨hm.bl 1,trivial⟩) fun z=>wq 8 U (dJ (cs:= [.string na,.string nb,.int .i64 v5]) U (by kernel_rfl)) (eG 9 U (jE 258 [.string na,.string nb,.int .i64 v5] fun g6=>bE (nw 12 1023 (fun _ hm=>⟨hm.bl 2,trivial⟩) fun z=>eG 10 U (eB (news:= [.string na,.string nb,.int .i64 v5]) 0 0 eM7 U U U U U U U (by omega) (by unfold maxLen;omega) U U fun v2 zJ=>bE (nw 12 2047 (fun _ hm=>⟨hm.bl 2,trivial⟩) fun z=>wq 11 U (cV U) (jO (bG (bD (bI (gO U U (bP U (bE ?_)))))))))))))
   exact cN (k+1,n+1,v2,l++ [⟨na,nb,v5⟩],l.flatMap nD++([.string na,.string nb,.int .i64 v5]:List Value)) ⟨by dsimp only;omega,by dsimp only;omega,by simp [vN],dG1 hi3 (show na.size<=1000000 by omega) (show nb.size<=1000000 by omega),by simp [nD]⟩ (by dsimp only;omega) ⟨U,U,U,U,U,(cR (by omega)),trivial⟩ (fun _ hm=>(hm.more U (by first|omega|(dsimp only;omega))).pick [3] [0] [] U U)
  have hf:f3=true:=by simpa using hh
  refine bN (bG (bD (bI (gO U U (bP U (bE ?_))))))
  exact cN (k+1,n,v,l,l.flatMap nD) ⟨by dsimp only;omega,by dsimp only;omega,vN,hi3,rfl⟩ (by dsimp only;omega) ⟨U,U,U,U,U,(cR (by omega)),trivial⟩ (fun _ hm=>(hm.more U (by first|omega|(dsimp only;omega))).pick [1] [0] [] U U)
 refine dD (bF (bF (bY (bD (bH (bR (bP U (dN (γ:=Bool) (val:=fun v=> .bool v) (φ:=fun v=>True) U xN U U U U (fun wx hm=>((jY _ wx B sb _ hm.k (by omega) (by omega) (by omega)).mono fun _ _ ⟨v,he,hS,hg⟩=>⟨v,trivial,he,hS,hg⟩)) fun f7 _=>bQ ?_))))))))
 refine dC U (fun hh=>?_) (fun hh=>?_)
 ·have hf:f7=true:=by simpa using hh
  refine bI (bP U (bP U (jE 9 [.string ⟨#[115,51]⟩,.string ⟨#[65]⟩,.string ⟨#[115,49]⟩] fun g8=>dN (γ:=ByteArray) (val:=fun v=> .string v) (φ:=fun v=>v∈([⟨#[115,51]⟩,⟨#[65]⟩,⟨#[115,49]⟩]:List ByteArray)) U rK U U U U (fun wx hm=>(gU [⟨#[115,51]⟩,⟨#[65]⟩,⟨#[115,49]⟩] _ _ _ wx B sb _ hm.k (by omega) (by simp) (by simp) (hm.blkI 0 U) (hm.neRow 0 U U))) fun s9 hs9=>?_)))
  have zs9:s9.size<=100:=kG hs9 (by decide)
  refine bP U (jE 9 [.string ⟨#[115,51]⟩,.string ⟨#[115,57]⟩,.string ⟨#[]⟩] fun g10=>dN (γ:=ByteArray) (val:=fun v=> .string v) (φ:=fun v=>v∈([⟨#[115,51]⟩,⟨#[115,57]⟩,⟨#[]⟩]:List ByteArray)) U rK U U U U (fun wx hm=>(gU [⟨#[115,51]⟩,⟨#[115,57]⟩,⟨#[]⟩] _ _ _ wx B sb _ hm.k (by omega) (by simp) (by simp) (hm.blkI 0 U) (hm.neRow 0 U U))) fun s11 hs11=>?_)
  have zs11:s11.size<=100:=kG hs11 (by decide)
  refine bP U (dN (γ:=Int) (val:=fun v=> .int .i64 v) (φ:=fun v=> -2000000000000000<=v/\v<=2000000000000000) U bO2 U U U U (fun wx hm=>(mF _ _ wx B sb _ hm.k (by omega) (by omega) (by omega) (by omega))) fun v12 hv12=>bB (dJ (cs:= [.string s9,.string s11,.int .i64 v12]) U (by kernel_rfl)) U (jE 258 [.string s9,.string s11,.int .i64 v12] fun g13=>eB (news:= [.string s9,.string s11,.int .i64 v12]) 0 0 eM7 U U U U U U U (by omega) (by unfold maxLen;omega) U U fun v2 zJ=>?_))
  refine dV (R:=∃A cc,v2= .slice A (n+1) cc) (fun wx hm=>dR (hm.ownI 0 U)) ?_
  rintro ⟨A,c,rfl⟩
  refine bX U (bQ (bR (bP U (bX U (bQ (bM ?_))))))
  exact bJ U U fun wx hm=>⟨A,n+1,c,l++ [⟨s9,s11,v12⟩],U,SlT.ofOwn (l:=l++ [⟨s9,s11,v12⟩]) dH1 (by have h:=hm.ownI 0 rfl;simpa [nD] using h) (by simp [vN]),dG1 hi3 (show s9.size<=1000000 by omega) (show s11.size<=1000000 by omega),by omega,jA (hm.ownI 0 rfl),hm.k.more (by omega),hm.g⟩
 have hf:f7=false:=by simpa using hh
 refine bN (bD (bR ?_))
 refine dV (R:=∃A cc,v= .slice A n cc) (fun wx hm=>dR (hm.ownI 0 U)) ?_
 rintro ⟨A,c,rfl⟩
 refine bP U (bX U (bQ (bM ?_)))
 exact bJ U U fun wx hm=>⟨A,n,c,l,U,SlT.ofOwn dH1 (hm.ownI 0 U) vN,hi3,by omega,jA (hm.ownI 0 rfl),hm.k.more (by omega),hm.g⟩
end Go.Proofs.YtmifpfcmldflkaaGreatDoor
