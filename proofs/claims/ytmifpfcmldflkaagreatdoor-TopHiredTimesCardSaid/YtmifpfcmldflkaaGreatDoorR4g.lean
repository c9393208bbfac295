/- Several texts as one: Va Hk Ln Tot Gt Lf Vc Ua Tbq Tb Tn Ub Tx Uc Fy Qa Qb Qc Qd Vb Qe Rtf Gd Ge Hou Dks -/
import Derived.Test.YtmifpfcmldflkaaGreatDoorR4f
import Derived.Test.YtmifpfcmldflkaaGreatDoorR4c
import Derived.Test.YtmifpfcmldflkaaGreatDoorR4b
import Derived.Test.YtmifpfcmldflkaaGreatDoorR4a
import Derived.IntWalk
import Derived.Test.YtmifpfcmldflkaaGreatDoorR4d
import Derived.OneCell
import Derived.Test.YtmifpfcmldflkaaGreatDoorR4e
set_option maxRecDepth 100000
set_option maxHeartbeats 4000000
namespace Go.Proofs.YtmifpfcmldflkaaGreatDoor
open Tryz
open Go.RowKit
structure Tx where
 key:ByteArray
 mille:Int
 A:Option Addr
 n:Nat
 c:Nat
 on:List Int
 over:Bool
def jT (x:Tx):List Value:= [.string x.key,.int .i64 x.mille,.slice x.A x.n x.c,.bool x.over]
theorem fW (x:Tx):(jT x).length=4:=rfl
def jG (x:Tx):Prop:=x.key.size<=1000000/\x.n<=1000
def Ons (l:List Tx) (w:World):Prop:=∀x∈l,SlT kF 1 3 w x.A x.n x.on
def mR (N:Nat) (row:Option Nat) (l:List Tx) (w:World):Prop:=∀x∈l,bU kF 1 3 N row x.A x.n x.on w
theorem mR.lasts {N:Nat} {row:Option Nat} {Tt:List TypeId} {l:List Tx}:Lasts2 N row Tt (mR N row l):=cN3 fun _ _=>bU.lasts
theorem Ons.lasts {N:Nat} {row:Option Nat} {Tt:List TypeId} {l:List Tx} (hT:Tt.contains 3=true):Lasts2 N row Tt (Ons l):=cN3 fun _ _=>SlT.lasts2 hT
theorem Ons.old {l:List Tx} {w:World} (h:Ons l w):mR w.heap.size none l w:=fun x hx=>(h x hx).old
theorem mR.ons {N:Nat} {row:Option Nat} {l:List Tx} {w:World} (h:mR N row l w):Ons l w:=fun x hx=>(h x hx).1
def onB (p:Option Int) (k:Int):Bool:=match p with
 |none=>false
 |some q=>decide (k<=q)
def onE (p:Option Int) (k:Int):Int:=if decide (k=5)|| !inB k 1 6 then 4 else if onB p k then 7 else 0
def bL7 (l:List Int):Int:=scanE onE none l
def vJ (k:ByteArray) (x:Tx):Bool:=x.key.toList==k.toList
def wK (pre:List Tx) (x:Tx):Int:=if !keyB x.key then 5 else if pre.any (vJ x.key) then 6 else if !inB x.mille 0 1000 then 1 else bL7 x.on
def cR6:List Tx->List Tx->Int
 |_, []=>0
 |pre,x::r=>if wK pre x=0 then cR6 (pre++ [x]) r else wK pre x
theorem dF4 {l:List Tx} {i:Nat} {x:Tx} (h:l[i]?=some x):cR6 (l.take i) (l.drop i)=if wK (l.take i) x=0 then cR6 (l.take (i+1)) (l.drop (i+1)) else wK (l.take i) x:=by
 obtain ⟨hi,rfl⟩:=List.getElem?_eq_some_iff.1 h
 rw [List.drop_eq_getElem_cons hi,List.take_add_one,fJ5 hi]
 rfl
theorem cC9 {l:List Tx} {i:Nat} (h:l.length<=i):cR6 (l.take i) (l.drop i)=0:=by rw [List.drop_eq_nil_of_le h];rfl
def wH (l:List Tx):Int:=if 10 < l.length then 2 else cR6 [] l
theorem dX5 (key:ByteArray) (mi:Int) (At:Option Addr) (nt ct:Nat) (on:List Int) (ov:Bool) (gk:Nat) (k0:ByteArray) (k1:Int) (k2:Option Addr) (k3 k4:Nat) (k5:Bool) (w:World) (hk:Blk w gk 263 [.string k0,.int .i64 k1,.slice k2 k3 k4,.bool k5]):
 Calls prog 208 #[.agg #[.string key,.int .i64 mi,.slice At nt ct,.bool ov],.pointer (some ⟨gk,0,none⟩)] w (fun e w'=>e=.returned (.bool (vJ k0 ⟨key,mi,At,nt,ct,on,ov⟩))/\w.grownBy w' none):=by
 refine cV ⟨9,w,none, []⟩ func208 U ntmps208 U (gR (X:= [fL w.heap.size none gk 263 [.string k0,.int .i64 k1,.slice k2 k3 k4,.bool k5]]) (cG hk.old cY) (cH fL.lasts cZ)) (bS (fG U U U fun g1=>bZ U (bR (bS (dW vM U U (eI fE 0 U U U (dW vM U U (bB (cN (v:= .string k0) fE U (fun _ hm=>(hm.fact 0 U).2) U) U (bB (eR U U) U (bZ U (bR (bM ?_))))))))))))
 exact bK U U fun wx hm=>⟨U,hm.g⟩
theorem dP0 (l:List Tx) (A:Option Addr) (n c0:Nat) (gk:Nat) (k0:ByteArray) (k1:Int) (k2:Option Addr) (k3 k4:Nat) (k5:Bool) (w:World) (hl:SlT jT 4 263 w A n l) (hn:n<=1000000) (hk:Blk w gk 263 [.string k0,.int .i64 k1,.slice k2 k3 k4,.bool k5]):
 Calls prog 203 #[.slice A n c0,.func (.func 208) #[] #[.pointer (some ⟨gk,0,none⟩)]] w (nC w (mH (vJ k0) l 0)):=by
 refine cV ⟨19,w,none, []⟩ func203 U ntmps203 U (gR (X:= [bU jT 4 263 w.heap.size none A n l,fL w.heap.size none gk 263 [.string k0,.int .i64 k1,.slice k2 k3 k4,.bool k5]]) (cG hl.old (cG hk.old cY)) (cH bU.lasts (cH fL.lasts cZ))) (bS ?_)
 have hlen:=hl.len
 refine bZ U (bR (bH (bS (bP U (bB (dT bK0 U) U (bP U (bR (bO ?_))))))))
 refine dX (γ:=Nat) (fun (i:Nat)=>i<=n/\mH (vJ k0) l 0=mH (vJ k0) (l.drop i) i) (fun (i:Nat)=> [(0,.slice A n c0),(1,.func (.func 208) #[] #[.pointer (some ⟨gk,0,none⟩)]),(7,.int .i64 ((n:Nat):Int)),(8,.int .i64 ((i:Nat):Int))]) (fun (i:Nat)=>fun _=>True) (fun (i:Nat)=> []) (fun (i:Nat)=> []) (fun (i:Nat)=> [bU jT 4 263 w.heap.size none A n l,fL w.heap.size none gk 263 [.string k0,.int .i64 k1,.slice k2 k3 k4,.bool k5]]) (fun (i:Nat)=>n - i) 0 ⟨Nat.zero_le _,U⟩ ⟨U,U,U,U,trivial⟩ (fun _ hm=>hm.pick [] [] [0,1] U U) ?_
 intro i cC
 replace cC:i<=n/\mH (vJ k0) l 0=mH (vJ k0) (l.drop i) i:=cC
 refine bS (bB (dD U U) U (bR (bH ?_)))
 refine cE U (fun hi=>?_) (fun hi=>?_)
 ·refine bN (bD (bH (bO (bS ?_))))
  obtain ⟨b,off,hA,_,_⟩:=hl.get (by omega)
  subst hA
  obtain ⟨x,hx⟩:∃x,l[i]?=some x:=⟨_,fJ5 (by omega)⟩
  obtain ⟨key,mi,At,nt,ct,on,ov⟩:=x
  have hat:=bX0 (p:=vJ k0) hx
  refine bP U (bZ U (bR (bS (bP U (bP U (bP U (bB (bT (j:=i) bK0 U U (by omega)) U (bB (dO (vs:= [.string key,.int .i64 mi,.slice At nt ct,.bool ov]) zM U (fun _ hm=>(hm.fact 0 U).1) hx U U) U (cL U fQ0 U U (fun wx hm=>(dX5 key mi At nt ct on ov gk k0 k1 k2 k3 k4 k5 wx (hm.fact 1 U).2)) (bR ?_))))))))))
  refine dC U (fun hh=>?_) (fun hh=>?_)
  ·have hq:(vJ k0 ⟨key,mi,At,nt,ct,on,ov⟩)=true:=by simpa using hh
   refine bS (bP U (bZ U (bR (bM (bC (bA (bA (bC (bA ?_)))))))))
   exact bK U U fun wx hm=>⟨bW (by rw [cC.2,hat,if_pos hq]),hm.g⟩
  have hq:(vJ k0 ⟨key,mi,At,nt,ct,on,ov⟩)=false:=by simpa using hh
  refine bN (bG (bD (bI (gN U U (bP U (bE ?_))))))
  exact cQ (i+1) ⟨by omega,by rw [cC.2,hat,if_neg (by rw [hq];decide)]⟩ (by omega) ⟨U,U,U,(cS (by omega)),trivial⟩ (fun _ hm=>hm.pick [] [] [0,1] U U)
 refine dE (bF (bF (bY (bD (bS (bZ U (bL 4 (v':= .int .i64 (-1)) U U (bR (bM ?_)))))))))
 exact bK U U fun wx hm=>⟨bW (by rw [cC.2,List.drop_eq_nil_of_le (by omega)];rfl),hm.g⟩
theorem dG9 (l:List Tx) (A:Option Addr) (n c0:Nat) (gk:Nat) (k0:ByteArray) (k1:Int) (k2:Option Addr) (k3 k4:Nat) (k5:Bool) (w:World) (hl:SlT jT 4 263 w A n l) (hn:n<=1000000) (hk:Blk w gk 263 [.string k0,.int .i64 k1,.slice k2 k3 k4,.bool k5]):
 Calls prog 156 #[.slice A n c0,.func (.func 208) #[] #[.pointer (some ⟨gk,0,none⟩)]] w (fun e w'=>e=.returned (.bool (l.any (vJ k0)))/\w.grownBy w' none):=by
 refine cV ⟨9,w,none, []⟩ func156 U ntmps156 U (gR (X:= [bU jT 4 263 w.heap.size none A n l,fL w.heap.size none gk 263 [.string k0,.int .i64 k1,.slice k2 k3 k4,.bool k5]]) (cG hl.old (cG hk.old cY)) (cH bU.lasts (cH fL.lasts cZ))) (bS (bZ U (bR (bS (bP U (bP U (cL U eK5 U U (fun wx hm=>(dP0 l A n c0 gk k0 k1 k2 k3 k4 k5 wx (hm.fact 0 U).1 hn (hm.fact 1 U).2)) (bB (mO U U) U (bZ U (bR (bM ?_)))))))))))
 exact bK U U fun wx hm=>⟨by rw [<-cO0],hm.g⟩
theorem bV9 (l:List Tx) (A:Option Addr) (n c0:Nat) (w:World) (hl:SlT jT 4 263 w A n l) (hg:Ons l w) (hok:∀x∈l,jG x) (hn:n<=1000000) (hc:n<=c0):
 Calls prog 167 #[.slice A n c0] w (nC w (wH l)):=by
 refine cV ⟨64,w,none, []⟩ func167 U ntmps167 U (gR (X:= [bU jT 4 263 w.heap.size none A n l,mR w.heap.size none l]) (cG hl.old (cG hg.old cY)) (cH bU.lasts (cH mR.lasts cZ))) (bS ?_)
 have hlen:=hl.len
 refine bZ U (bR (bH (bS (bP U (bB (dT bK0 U) U (bB (eJ U U) U (bR ?_)))))))
 refine cE U (fun h1=>?_) (fun h1=>?_)
 ·refine bS (bZ U (bR ?_))
  refine bM (bA ?_)
  exact bK U U fun wx hm=>⟨bW (by unfold wH;rw [if_pos (by omega)]),hm.g⟩
 refine bN (bD (bH (bS (bP U (bB (dT bK0 U) U (bP U (bR (bO ?_))))))))
 obtain ⟨TE,hTE⟩:∃E,E=wH l:=⟨_,rfl⟩
 rw [<-hTE]
 refine dX (γ:=Nat) (fun (k:Nat)=>k<=n/\TE=cR6 (l.take k) (l.drop k)) (fun (k:Nat)=> [(0,.slice A n c0),(10,.slice A n c0),(11,.int .i64 ((n:Nat):Int)),(12,.int .i64 ((k:Nat):Int))]) (fun (k:Nat)=>fun _=>True) (fun (k:Nat)=> []) (fun (k:Nat)=> []) (fun (k:Nat)=> [bU jT 4 263 w.heap.size none A n l,mR w.heap.size none l]) (fun (k:Nat)=>n - k) 0 ⟨Nat.zero_le _,by rw [hTE];unfold wH;rw [if_neg (by omega)];rfl⟩ ⟨U,U,U,U,trivial⟩ (fun _ hm=>hm.pick [] [] [0,1] U U) ?_
 intro k cC
 replace cC:k<=n/\TE=cR6 (l.take k) (l.drop k):=cC
 refine bS (bB (dD U U) U (bR (bH ?_)))
 refine cE U (fun hk=>?_) (fun hk=>?_)
 ·refine bN (bD (bH (bO (bS ?_))))
  obtain ⟨b,off,hA,_,_⟩:=hl.get (by omega)
  subst hA
  obtain ⟨x,hx⟩:∃x,l[k]?=some x:=⟨_,fJ5 (by omega)⟩
  obtain ⟨key,mi,At,nt,ct,on,ov⟩:=x
  have hat:=dF4 hx
  obtain ⟨hk1,hnt⟩:=hok _ (fK5 hx)
  have hk1:key.size<=1000000:=hk1
  have hnt:nt<=1000:=hnt
  have hout:=cC
  refine bP U (bB (bT (j:=k) bK0 U U (by omega)) U (bB (dO (vs:= [.string key,.int .i64 mi,.slice At nt ct,.bool ov]) zM U (fun _ hm=>(hm.fact 0 U).1) hx U U) U (dH cL9 U fun g1=>bZ U (jX (cs':= [.string key,.int .i64 mi,.slice At nt ct,.bool ov]) 0 zM U U U U (bR (bH (bO (bS (dW vM U U (eI fE 0 U U U (dA U bP2 U U (fun wx hm=>(isKey_any _ wx (by omega))) (bB (cF U) U (bZ U (bR ?_))))))))))))))
  refine dC U (fun hh=>?_) (fun hh=>?_)
  ·have h2:(keyB key)=false:=by simpa using hh
   refine bS (bZ U (bR (bM (bC (bA (bC (bA (bA (bC (bA ?_))))))))))
   have hE:wK (l.take k) ⟨key,mi,At,nt,ct,on,ov⟩=5:=by unfold wK;simp [h2]
   exact bK U U fun wx hm=>⟨bW (by rw [hout.2,hat,if_neg (by rw [hE];decide),hE]),hm.g⟩
  have h2:(keyB key)=true:=by simpa using hh
  refine bS (bP U (bP U (bB (uN (hi:=k) bK0 U U U (by omega)) U (bB (pW U U) U (cL U eG5 U U (fun wx hm=>(dG9 (l.take k) _ k c0 _ _ _ _ _ _ _ wx (SlT.takeT (hm.fact 0 U).1 (by omega)) (by omega) (hm.blkI 0 U))) (bZ U (bR ?_)))))))
  refine dC U (fun hh=>?_) (fun hh=>?_)
  ·have h3:((l.take k).any (vJ key))=true:=by simpa using hh
   refine bS (bZ U (bR (bM (bC (bA (bC (bA (bA (bC (bA ?_))))))))))
   have hE:wK (l.take k) ⟨key,mi,At,nt,ct,on,ov⟩=6:=by unfold wK;simp [h2,h3]
   exact bK U U fun wx hm=>⟨bW (by rw [hout.2,hat,if_neg (by rw [hE];decide),hE]),hm.g⟩
  have h3:((l.take k).any (vJ key))=false:=by simpa using hh
  refine bS (dW bW4 U U (eI fF 0 U U U (dA U qB U U (fun wx hm=>(in_any _ _ _ wx)) (bB (cF U) U (bZ U (bR ?_))))))
  refine dC U (fun hh=>?_) (fun hh=>?_)
  ·have h4:(inB mi 0 1000)=false:=by simpa using hh
   refine bS (bZ U (bR (bM (bC (bA (bC (bA (bA (bC (bA ?_))))))))))
   have hE:wK (l.take k) ⟨key,mi,At,nt,ct,on,ov⟩=1:=by unfold wK;simp [h2,h3,h4]
   exact bK U U fun wx hm=>⟨bW (by rw [hout.2,hat,if_neg (by rw [hE];decide),hE]),hm.g⟩
  have h4:(inB mi 0 1000)=true:=by simpa using hh
  refine bN (bG (bD (bS ?_)))
  have hEo:wK (l.take k) ⟨key,mi,At,nt,ct,on,ov⟩=bL7 on:=by unfold wK;simp [h2,h3,h4]
  refine bM9 (Y:=bU kF 1 3 w.heap.size none At nt on) (bU.lasts) (fun wx hm=>(hm.fact 1 U) _ (fK5 hx)) ?_
  refine eD (R:=on.length=nt) (fun wx hm=>((hm.fact 0 U)).1.len) ?_
  intro hol
  refine dW kC U U (eI mB 0 U U U (bB (dT pE U) U (bP U (bR (bO ?_)))))
  refine dX (γ:=Nat) (fun (q:Nat)=>q<=nt/\bL7 on=scanE onE (prevOf on q) (on.drop q)) (fun (q:Nat)=> [(0,.slice (some ⟨b,off,none⟩) n c0),(4,.pointer (some ⟨g1,0,none⟩)),(10,.slice (some ⟨b,off,none⟩) n c0),(11,.int .i64 ((n:Nat):Int)),(12,.int .i64 ((k:Nat):Int)),(34,.slice At nt ct),(35,.int .i64 ((nt:Nat):Int)),(36,.int .i64 ((q:Nat):Int))]) (fun (q:Nat)=>fun _=>True) (fun (q:Nat)=> [(g1,263, [.string key,.int .i64 mi,.slice At nt ct,.bool ov])]) (fun (q:Nat)=> []) (fun (q:Nat)=> [bU kF 1 3 w.heap.size none At nt on,bU jT 4 263 w.heap.size none (some ⟨b,off,none⟩) n l,mR w.heap.size none l]) (fun (q:Nat)=>nt - q) 0 ⟨Nat.zero_le _,U⟩ ⟨U,U,U,U,U,U,U,U,trivial⟩ (fun _ hm=>hm.pick [0] [] [0,1,2] U U) ?_
  intro q cC
  replace cC:q<=nt/\bL7 on=scanE onE (prevOf on q) (on.drop q):=cC
  refine bS ?_
  have hin:=cC
  refine bB (dD U U) U (bR (bH ?_))
  refine cE U (fun hq=>?_) (fun hq=>?_)
  ·refine bN (bD (bH (bO (bS ?_))))
   refine eD (R:=SlT kF 1 3 w At nt on) (fun wx hm=>hg _ (fK5 hx)) ?_
   intro hso
   obtain ⟨b2,o2,hA,_,_⟩:=hso.get (by omega)
   subst hA
   obtain ⟨z0,hy⟩:∃x,on[q]?=some x:=⟨_,fJ5 (by omega)⟩
   have han:=scanE_at onE on q _ hy
   refine bP U (bB (bT (j:=q) pE U U (by omega)) U (bB (dL (k:=0) (v:= .int .i64 z0) fF U (fun _ hm=>(hm.fact 0 U).1) hy U U) U (bZ U (bZ U (bR (bO (bS (bP U (bB (eN U U) U (bP U ?_))))))))))
   rcases Bool.eq_false_or_eq_true (decide (z0=5)) with h5|h5
   ·refine bL 44 U (fH5 h5) ?_
    replace h5:z0=5:=of_decide_eq_true h5
    refine dY U (dY U (dY U (mQ U U (bZ U (bR (kQ U (bS (bZ U (bR (bM (bC (bC (bA (bA (bC (bC (bA (bA (bC (bA ?_))))))))))))))))))))
    have hE:onE (prevOf on q) z0=4:=by unfold onE;simp [h5]
    have hE2:bL7 on=4:=by rw [hin.2,han,if_neg (by rw [hE];decide),hE]
    exact bK U U fun wx hm=>⟨bW (by rw [hout.2,hat,if_neg (by rw [hEo,hE2];decide),hEo,hE2]),hm.g⟩
   refine bL 44 U (fH5 h5) ?_
   replace h5:¬z0=5:=of_decide_eq_false h5
   refine eG U (bP U (eG U (dA U qB U U (fun wx hm=>(in_any _ _ _ wx)) (eG U (bB (cF U) U (nS U U (bZ U (bR ?_))))))))
   refine dC U (fun hh=>?_) (fun hh=>?_)
   ·have h6:(inB z0 1 6)=false:=by simpa using hh
    refine bS (bZ U (bR (bM (bC (bC (bA (bA (bC (bC (bA (bA (bC (bA ?_)))))))))))))
    have hE:onE (prevOf on q) z0=4:=by unfold onE;simp [h5,h6]
    have hE2:bL7 on=4:=by rw [hin.2,han,if_neg (by rw [hE];decide),hE]
    exact bK U U fun wx hm=>⟨bW (by rw [hout.2,hat,if_neg (by rw [hEo,hE2];decide),hEo,hE2]),hm.g⟩
   have h6:(inB z0 1 6)=true:=by simpa using hh
   refine bS ?_
   by_cases hq0:q=0
   ·have hO:onB (prevOf on q) z0=false:=by rw [mJ hq0];rfl
    refine bP U (bB (eJ U U) U (bL 51 (v':= .bool false) U (fH5 (decide_eq_false (by omega))) (bP U (dY U (dY U (dY U (dY U (dY U (dY U (dY U (dY U (nS U U (bZ U (bR (jU U (bN (bG (bG (bD (bI (gN U U (bP U (bE ?_)))))))))))))))))))))))
    have hE:onE (prevOf on q) z0=0:=by unfold onE;simp [h5,h6,hO]
    exact cQ (q+1) ⟨by omega,by rw [hin.2,han,if_pos hE]⟩ (by omega) ⟨U,U,U,U,U,U,U,(cS (by omega)),trivial⟩ (fun _ hm=>hm.pick [0] [] [0,1,2] U U)
   obtain ⟨z1,hz⟩:∃x,on[q - 1]?=some x:=⟨_,fJ5 (by omega)⟩
   refine bP U (bB (eJ U U) U (bL 51 (v':= .bool true) U (fH5 (decide_eq_true (by omega))) (bP U (eG U (bP U (eG U (dW kC U U (eG U (eI mB 0 U U U (eG U (bP U (eG U (bB (ov_sub U U (by omega) (by omega)) U (bL 57 (v':= .int .i64 ((q - 1:Nat):Int)) U (fI5 (by omega)) (eG U (bB (bT (j:=q - 1) pE U U (by omega)) U (eG U (bB (dL (k:=0) (v:= .int .i64 z1) fF U (fun _ hm=>(hm.fact 0 U).1) hz U U) U (eG U (bB (mV U U) U (mQ U U (bZ U (bR ?_)))))))))))))))))))))))
   refine cE U (fun h7=>?_) (fun h7=>?_)
   ·refine bS ?_
    have hO:onB (prevOf on q) z0=true:=by rw [jS hq0 hz];exact decide_eq_true h7
    refine bZ U (bR (bM (bC (bC (bA (bA (bC (bC (bA (bA (bC (bA ?_))))))))))))
    have hE:onE (prevOf on q) z0=7:=by unfold onE;simp [h5,h6,hO]
    have hE2:bL7 on=7:=by rw [hin.2,han,if_neg (by rw [hE];decide),hE]
    exact bK U U fun wx hm=>⟨bW (by rw [hout.2,hat,if_neg (by rw [hEo,hE2];decide),hEo,hE2]),hm.g⟩
   refine bN (bG (bG (bD (bI ?_))))
   have hO:onB (prevOf on q) z0=false:=by rw [jS hq0 hz];exact decide_eq_false h7
   refine gN U U (bP U (bE ?_))
   have hE:onE (prevOf on q) z0=0:=by unfold onE;simp [h5,h6,hO]
   exact cQ (q+1) ⟨by omega,by rw [hin.2,han,if_pos hE]⟩ (by omega) ⟨U,U,U,U,U,U,U,(cS (by omega)),trivial⟩ (fun _ hm=>hm.pick [0] [] [0,1,2] U U)
  refine dE (bF (bF (bY (bG (bD (bI (gN U U (bP U (bE ?_)))))))))
  have hE:wK (l.take k) ⟨key,mi,At,nt,ct,on,ov⟩=0:=by rw [hEo,hin.2,scanE_end _ _ _ _ (by omega)]
  exact cQ (k+1) ⟨by omega,by rw [hout.2,hat,if_pos hE]⟩ (by omega) ⟨U,U,U,(cS (by omega)),trivial⟩ (fun _ hm=>hm.pick [] [] [1,2] U U)
 refine dE (bF (bF (bY (bD (bS (bZ U (bR (bM ?_))))))))
 exact bK U U fun wx hm=>⟨bW (by rw [cC.2,cC9 (by omega)]),hm.g⟩
theorem dY5 (key:ByteArray) (mi:Int) (At:Option Addr) (nt ct:Nat) (on:List Int) (ov:Bool) (gk:Nat) (k0:ByteArray) (k1:Int) (k2:Option Addr) (k3 k4:Nat) (k5:Bool) (w:World) (hk:Blk w gk 263 [.string k0,.int .i64 k1,.slice k2 k3 k4,.bool k5]):
 Calls prog 157 #[.agg #[.string key,.int .i64 mi,.slice At nt ct,.bool ov],.pointer (some ⟨gk,0,none⟩)] w (fun e w'=>e=.returned (.bool (vJ k0 ⟨key,mi,At,nt,ct,on,ov⟩))/\w.grownBy w' none):=by
 refine cV ⟨9,w,none, []⟩ func157 U ntmps157 U (gR (X:= [fL w.heap.size none gk 263 [.string k0,.int .i64 k1,.slice k2 k3 k4,.bool k5]]) (cG hk.old cY) (cH fL.lasts cZ)) (bS (fG U U U fun g1=>bZ U (bR (bS (dW vM U U (eI fE 0 U U U (dW vM U U (bB (cN (v:= .string k0) fE U (fun _ hm=>(hm.fact 0 U).2) U) U (bB (eR U U) U (bZ U (bR (bM ?_))))))))))))
 exact bK U U fun wx hm=>⟨U,hm.g⟩
theorem dQ0 (l:List Tx) (A:Option Addr) (n c0:Nat) (gk:Nat) (k0:ByteArray) (k1:Int) (k2:Option Addr) (k3 k4:Nat) (k5:Bool) (w:World) (hl:SlT jT 4 263 w A n l) (hn:n<=1000000) (hk:Blk w gk 263 [.string k0,.int .i64 k1,.slice k2 k3 k4,.bool k5]):
 Calls prog 203 #[.slice A n c0,.func (.func 157) #[] #[.pointer (some ⟨gk,0,none⟩)]] w (nC w (mH (vJ k0) l 0)):=by
 refine cV ⟨19,w,none, []⟩ func203 U ntmps203 U (gR (X:= [bU jT 4 263 w.heap.size none A n l,fL w.heap.size none gk 263 [.string k0,.int .i64 k1,.slice k2 k3 k4,.bool k5]]) (cG hl.old (cG hk.old cY)) (cH bU.lasts (cH fL.lasts cZ))) (bS ?_)
 have hlen:=hl.len
 refine bZ U (bR (bH (bS (bP U (bB (dT bK0 U) U (bP U (bR (bO ?_))))))))
 refine dX (γ:=Nat) (fun (i:Nat)=>i<=n/\mH (vJ k0) l 0=mH (vJ k0) (l.drop i) i) (fun (i:Nat)=> [(0,.slice A n c0),(1,.func (.func 157) #[] #[.pointer (some ⟨gk,0,none⟩)]),(7,.int .i64 ((n:Nat):Int)),(8,.int .i64 ((i:Nat):Int))]) (fun (i:Nat)=>fun _=>True) (fun (i:Nat)=> []) (fun (i:Nat)=> []) (fun (i:Nat)=> [bU jT 4 263 w.heap.size none A n l,fL w.heap.size none gk 263 [.string k0,.int .i64 k1,.slice k2 k3 k4,.bool k5]]) (fun (i:Nat)=>n - i) 0 ⟨Nat.zero_le _,U⟩ ⟨U,U,U,U,trivial⟩ (fun _ hm=>hm.pick [] [] [0,1] U U) ?_
 intro i cC
 replace cC:i<=n/\mH (vJ k0) l 0=mH (vJ k0) (l.drop i) i:=cC
 refine bS (bB (dD U U) U (bR (bH ?_)))
 refine cE U (fun hi=>?_) (fun hi=>?_)
 ·refine bN (bD (bH (bO (bS ?_))))
  obtain ⟨b,off,hA,_,_⟩:=hl.get (by omega)
  subst hA
  obtain ⟨x,hx⟩:∃x,l[i]?=some x:=⟨_,fJ5 (by omega)⟩
  obtain ⟨key,mi,At,nt,ct,on,ov⟩:=x
  have hat:=bX0 (p:=vJ k0) hx
  refine bP U (bZ U (bR (bS (bP U (bP U (bP U (bB (bT (j:=i) bK0 U U (by omega)) U (bB (dO (vs:= [.string key,.int .i64 mi,.slice At nt ct,.bool ov]) zM U (fun _ hm=>(hm.fact 0 U).1) hx U U) U (cL U fD0 U U (fun wx hm=>(dY5 key mi At nt ct on ov gk k0 k1 k2 k3 k4 k5 wx (hm.fact 1 U).2)) (bR ?_))))))))))
  refine dC U (fun hh=>?_) (fun hh=>?_)
  ·have hq:(vJ k0 ⟨key,mi,At,nt,ct,on,ov⟩)=true:=by simpa using hh
   refine bS (bP U (bZ U (bR (bM (bC (bA (bA (bC (bA ?_)))))))))
   exact bK U U fun wx hm=>⟨bW (by rw [cC.2,hat,if_pos hq]),hm.g⟩
  have hq:(vJ k0 ⟨key,mi,At,nt,ct,on,ov⟩)=false:=by simpa using hh
  refine bN (bG (bD (bI (gN U U (bP U (bE ?_))))))
  exact cQ (i+1) ⟨by omega,by rw [cC.2,hat,if_neg (by rw [hq];decide)]⟩ (by omega) ⟨U,U,U,(cS (by omega)),trivial⟩ (fun _ hm=>hm.pick [] [] [0,1] U U)
 refine dE (bF (bF (bY (bD (bS (bZ U (bL 4 (v':= .int .i64 (-1)) U U (bR (bM ?_)))))))))
 exact bK U U fun wx hm=>⟨bW (by rw [cC.2,List.drop_eq_nil_of_le (by omega)];rfl),hm.g⟩
theorem dH9 (l:List Tx) (A:Option Addr) (n c0:Nat) (gk:Nat) (k0:ByteArray) (k1:Int) (k2:Option Addr) (k3 k4:Nat) (k5:Bool) (w:World) (hl:SlT jT 4 263 w A n l) (hn:n<=1000000) (hk:Blk w gk 263 [.string k0,.int .i64 k1,.slice k2 k3 k4,.bool k5]):
 Calls prog 156 #[.slice A n c0,.func (.func 157) #[] #[.pointer (some ⟨gk,0,none⟩)]] w (fun e w'=>e=.returned (.bool (l.any (vJ k0)))/\w.grownBy w' none):=by
 refine cV ⟨9,w,none, []⟩ func156 U ntmps156 U (gR (X:= [bU jT 4 263 w.heap.size none A n l,fL w.heap.size none gk 263 [.string k0,.int .i64 k1,.slice k2 k3 k4,.bool k5]]) (cG hl.old (cG hk.old cY)) (cH bU.lasts (cH fL.lasts cZ))) (bS (bZ U (bR (bS (bP U (bP U (cL U eK5 U U (fun wx hm=>(dQ0 l A n c0 gk k0 k1 k2 k3 k4 k5 wx (hm.fact 0 U).1 hn (hm.fact 1 U).2)) (bB (mO U U) U (bZ U (bR (bM ?_)))))))))))
 exact bK U U fun wx hm=>⟨by rw [<-cO0],hm.g⟩
theorem cQ1 (l:List Tx) (A:Option Addr) (n c0:Nat) (w:World) (hl:SlT jT 4 263 w A n l) (hg:Ons l w) (hok:∀x∈l,jG x) (hn:n<=1000000) (hc:n<=c0):
 Calls prog 115 #[.slice A n c0] w (nC w (wH l)):=by
 refine cV ⟨62,w,none, []⟩ func115 U ntmps115 U (gR (X:= [bU jT 4 263 w.heap.size none A n l,mR w.heap.size none l]) (cG hl.old (cG hg.old cY)) (cH bU.lasts (cH mR.lasts cZ))) (bS ?_)
 have hlen:=hl.len
 refine bZ U (bR (bH (bS (bP U (bB (dT bK0 U) U (bB (eJ U U) U (bR ?_)))))))
 refine cE U (fun h1=>?_) (fun h1=>?_)
 ·refine bS (bZ U (bR ?_))
  refine bM (bA ?_)
  exact bK U U fun wx hm=>⟨bW (by unfold wH;rw [if_pos (by omega)]),hm.g⟩
 refine bN (bD (bH (bS (bP U (bB (dT bK0 U) U (bP U (bR (bO ?_))))))))
 obtain ⟨TE,hTE⟩:∃E,E=wH l:=⟨_,rfl⟩
 rw [<-hTE]
 refine dX (γ:=Nat) (fun (k:Nat)=>k<=n/\TE=cR6 (l.take k) (l.drop k)) (fun (k:Nat)=> [(0,.slice A n c0),(10,.slice A n c0),(11,.int .i64 ((n:Nat):Int)),(12,.int .i64 ((k:Nat):Int))]) (fun (k:Nat)=>fun _=>True) (fun (k:Nat)=> []) (fun (k:Nat)=> []) (fun (k:Nat)=> [bU jT 4 263 w.heap.size none A n l,mR w.heap.size none l]) (fun (k:Nat)=>n - k) 0 ⟨Nat.zero_le _,by rw [hTE];unfold wH;rw [if_neg (by omega)];rfl⟩ ⟨U,U,U,U,trivial⟩ (fun _ hm=>hm.pick [] [] [0,1] U U) ?_
 intro k cC
 replace cC:k<=n/\TE=cR6 (l.take k) (l.drop k):=cC
 refine bS (bB (dD U U) U (bR (bH ?_)))
 refine cE U (fun hk=>?_) (fun hk=>?_)
 ·refine bN (bD (bH (bO (bS ?_))))
  obtain ⟨b,off,hA,_,_⟩:=hl.get (by omega)
  subst hA
  obtain ⟨x,hx⟩:∃x,l[k]?=some x:=⟨_,fJ5 (by omega)⟩
  obtain ⟨key,mi,At,nt,ct,on,ov⟩:=x
  have hat:=dF4 hx
  obtain ⟨hk1,hnt⟩:=hok _ (fK5 hx)
  have hk1:key.size<=1000000:=hk1
  have hnt:nt<=1000:=hnt
  have hout:=cC
  refine bP U (bB (bT (j:=k) bK0 U U (by omega)) U (bB (dO (vs:= [.string key,.int .i64 mi,.slice At nt ct,.bool ov]) zM U (fun _ hm=>(hm.fact 0 U).1) hx U U) U (dH cL9 U fun g1=>bZ U (jX (cs':= [.string key,.int .i64 mi,.slice At nt ct,.bool ov]) 0 zM U U U U (bR (bH (bO (bS (dW vM U U (eI fE 0 U U U (cL U bW7 U U (fun wx hm=>(wQ _ wx (by omega))) (bB (cF U) U (bZ U (bR ?_))))))))))))))
  refine dC U (fun hh=>?_) (fun hh=>?_)
  ·have h2:(keyB key)=false:=by simpa using hh
   refine bS (bZ U (bR (bM (bC (bA (bC (bA (bA (bC (bA ?_))))))))))
   have hE:wK (l.take k) ⟨key,mi,At,nt,ct,on,ov⟩=5:=by unfold wK;simp [h2]
   exact bK U U fun wx hm=>⟨bW (by rw [hout.2,hat,if_neg (by rw [hE];decide),hE]),hm.g⟩
  have h2:(keyB key)=true:=by simpa using hh
  refine bS (bP U (bP U (bB (uN (hi:=k) bK0 U U U (by omega)) U (bB (pW U U) U (cL U eG5 U U (fun wx hm=>(dH9 (l.take k) _ k c0 _ _ _ _ _ _ _ wx (SlT.takeT (hm.fact 0 U).1 (by omega)) (by omega) (hm.blkI 0 U))) (bZ U (bR ?_)))))))
  refine dC U (fun hh=>?_) (fun hh=>?_)
  ·have h3:((l.take k).any (vJ key))=true:=by simpa using hh
   refine bS (bZ U (bR (bM (bC (bA (bC (bA (bA (bC (bA ?_))))))))))
   have hE:wK (l.take k) ⟨key,mi,At,nt,ct,on,ov⟩=6:=by unfold wK;simp [h2,h3]
   exact bK U U fun wx hm=>⟨bW (by rw [hout.2,hat,if_neg (by rw [hE];decide),hE]),hm.g⟩
  have h3:((l.take k).any (vJ key))=false:=by simpa using hh
  refine bS (dW bW4 U U (eI fF 0 U U U (dA U wL U U (fun wx hm=>(kH _ _ _ wx)) (bB (cF U) U (bZ U (bR ?_))))))
  refine dC U (fun hh=>?_) (fun hh=>?_)
  ·have h4:(inB mi 0 1000)=false:=by simpa using hh
   refine bS (bZ U (bR (bM (bC (bA (bC (bA (bA (bC (bA ?_))))))))))
   have hE:wK (l.take k) ⟨key,mi,At,nt,ct,on,ov⟩=1:=by unfold wK;simp [h2,h3,h4]
   exact bK U U fun wx hm=>⟨bW (by rw [hout.2,hat,if_neg (by rw [hE];decide),hE]),hm.g⟩
  have h4:(inB mi 0 1000)=true:=by simpa using hh
  refine bN (bG (bD (bS ?_)))
  have hEo:wK (l.take k) ⟨key,mi,At,nt,ct,on,ov⟩=bL7 on:=by unfold wK;simp [h2,h3,h4]
  refine bM9 (Y:=bU kF 1 3 w.heap.size none At nt on) (bU.lasts) (fun wx hm=>(hm.fact 1 U) _ (fK5 hx)) ?_
  refine eD (R:=on.length=nt) (fun wx hm=>((hm.fact 0 U)).1.len) ?_
  intro hol
  refine dW kC U U (eI mB 0 U U U (bB (dT pE U) U (bP U (bR (bO ?_)))))
  refine dX (γ:=Nat) (fun (q:Nat)=>q<=nt/\bL7 on=scanE onE (prevOf on q) (on.drop q)) (fun (q:Nat)=> [(0,.slice (some ⟨b,off,none⟩) n c0),(4,.pointer (some ⟨g1,0,none⟩)),(10,.slice (some ⟨b,off,none⟩) n c0),(11,.int .i64 ((n:Nat):Int)),(12,.int .i64 ((k:Nat):Int)),(34,.slice At nt ct),(35,.int .i64 ((nt:Nat):Int)),(36,.int .i64 ((q:Nat):Int))]) (fun (q:Nat)=>fun _=>True) (fun (q:Nat)=> [(g1,263, [.string key,.int .i64 mi,.slice At nt ct,.bool ov])]) (fun (q:Nat)=> []) (fun (q:Nat)=> [bU kF 1 3 w.heap.size none At nt on,bU jT 4 263 w.heap.size none (some ⟨b,off,none⟩) n l,mR w.heap.size none l]) (fun (q:Nat)=>nt - q) 0 ⟨Nat.zero_le _,U⟩ ⟨U,U,U,U,U,U,U,U,trivial⟩ (fun _ hm=>hm.pick [0] [] [0,1,2] U U) ?_
  intro q cC
  replace cC:q<=nt/\bL7 on=scanE onE (prevOf on q) (on.drop q):=cC
  refine bS ?_
  have hin:=cC
  refine bB (dD U U) U (bR (bH ?_))
  refine cE U (fun hq=>?_) (fun hq=>?_)
  ·refine bN (bD (bH (bO (bS ?_))))
   refine eD (R:=SlT kF 1 3 w At nt on) (fun wx hm=>hg _ (fK5 hx)) ?_
   intro hso
   obtain ⟨b2,o2,hA,_,_⟩:=hso.get (by omega)
   subst hA
   obtain ⟨z0,hy⟩:∃x,on[q]?=some x:=⟨_,fJ5 (by omega)⟩
   have han:=scanE_at onE on q _ hy
   refine bP U (bB (bT (j:=q) pE U U (by omega)) U (bB (dL (k:=0) (v:= .int .i64 z0) fF U (fun _ hm=>(hm.fact 0 U).1) hy U U) U (bZ U (bZ U (bR (bH (bS (bP U (dA U wL U U (fun wx hm=>(kH _ _ _ wx)) (bB (cF U) U (bP U ?_)))))))))))
   rcases Bool.eq_false_or_eq_true (!(inB z0 1 6)) with h5|h5
   ·refine bL 44 U (fH5 h5) ?_
    refine dY U (dY U (mQ U U (bR (kQ U (bS (bZ U (bR (bM (bA (bC (bA (bA (bC (bC (bA (bA (bC (bA ?_))))))))))))))))))
    have hE:onE (prevOf on q) z0=4:=by unfold onE;simp [h5]
    have hE2:bL7 on=4:=by rw [hin.2,han,if_neg (by rw [hE];decide),hE]
    exact bK U U fun wx hm=>⟨bW (by rw [hout.2,hat,if_neg (by rw [hEo,hE2];decide),hEo,hE2]),hm.g⟩
   refine bL 44 U (fH5 h5) (eG U (bP U (eG U (bB (eN U U) U (nS U U (bR ?_))))))
   refine cE U (fun h6=>?_) (fun h6=>?_)
   ·refine bS (bZ U (bR ?_))
    refine bM (bA (bC (bA (bA (bC (bC (bA (bA (bC (bA ?_))))))))))
    have hE:onE (prevOf on q) z0=4:=by unfold onE;simp [h6]
    have hE2:bL7 on=4:=by rw [hin.2,han,if_neg (by rw [hE];decide),hE]
    exact bK U U fun wx hm=>⟨bW (by rw [hout.2,hat,if_neg (by rw [hEo,hE2];decide),hEo,hE2]),hm.g⟩
   refine bN (bD (bS ?_))
   by_cases hq0:q=0
   ·have hO:onB (prevOf on q) z0=false:=by rw [mJ hq0];rfl
    refine bP U (bB (eJ U U) U (bL 49 (v':= .bool false) U (fH5 (decide_eq_false (by omega))) (bP U (dY U (dY U (dY U (dY U (dY U (dY U (dY U (dY U (nS U U (bR (jU U (bN (bG (bD (bI (gN U U (bP U (bE ?_)))))))))))))))))))))
    have hE:onE (prevOf on q) z0=0:=by unfold onE;simp [h5,h6,hO]
    exact cQ (q+1) ⟨by omega,by rw [hin.2,han,if_pos hE]⟩ (by omega) ⟨U,U,U,U,U,U,U,(cS (by omega)),trivial⟩ (fun _ hm=>hm.pick [0] [] [0,1,2] U U)
   obtain ⟨z1,hz⟩:∃x,on[q - 1]?=some x:=⟨_,fJ5 (by omega)⟩
   refine bP U (bB (eJ U U) U (bL 49 (v':= .bool true) U (fH5 (decide_eq_true (by omega))) (bP U (eG U (bP U (eG U (dW kC U U (eG U (eI mB 0 U U U (eG U (bP U (eG U (bB (ov_sub U U (by omega) (by omega)) U (bL 55 (v':= .int .i64 ((q - 1:Nat):Int)) U (fI5 (by omega)) (eG U (bB (bT (j:=q - 1) pE U U (by omega)) U (eG U (bB (dL (k:=0) (v:= .int .i64 z1) fF U (fun _ hm=>(hm.fact 0 U).1) hz U U) U (eG U (bB (mV U U) U (mQ U U (bR ?_))))))))))))))))))))))
   refine cE U (fun h7=>?_) (fun h7=>?_)
   ·refine bS ?_
    have hO:onB (prevOf on q) z0=true:=by rw [jS hq0 hz];exact decide_eq_true h7
    refine bZ U (bR (bM (bC (bA (bA (bC (bC (bA (bA (bC (bA ?_)))))))))))
    have hE:onE (prevOf on q) z0=7:=by unfold onE;simp [h5,h6,hO]
    have hE2:bL7 on=7:=by rw [hin.2,han,if_neg (by rw [hE];decide),hE]
    exact bK U U fun wx hm=>⟨bW (by rw [hout.2,hat,if_neg (by rw [hEo,hE2];decide),hEo,hE2]),hm.g⟩
   refine bN (bG (bD (bI ?_)))
   have hO:onB (prevOf on q) z0=false:=by rw [jS hq0 hz];exact decide_eq_false h7
   refine gN U U (bP U (bE ?_))
   have hE:onE (prevOf on q) z0=0:=by unfold onE;simp [h5,h6,hO]
   exact cQ (q+1) ⟨by omega,by rw [hin.2,han,if_pos hE]⟩ (by omega) ⟨U,U,U,U,U,U,U,(cS (by omega)),trivial⟩ (fun _ hm=>hm.pick [0] [] [0,1,2] U U)
  refine dE (bF (bF (bY (bG (bD (bI (gN U U (bP U (bE ?_)))))))))
  have hE:wK (l.take k) ⟨key,mi,At,nt,ct,on,ov⟩=0:=by rw [hEo,hin.2,scanE_end _ _ _ _ (by omega)]
  exact cQ (k+1) ⟨by omega,by rw [hout.2,hat,if_pos hE]⟩ (by omega) ⟨U,U,U,(cS (by omega)),trivial⟩ (fun _ hm=>hm.pick [] [] [1,2] U U)
 refine dE (bF (bF (bY (bD (bS (bZ U (bR (bM ?_))))))))
 exact bK U U fun wx hm=>⟨bW (by rw [cC.2,cC9 (by omega)]),hm.g⟩
def N3r:List ByteArray:= [⟨#[109,97,120,105]⟩,⟨#[109,105,100,105]⟩,⟨#[109,105,110,105]⟩]
theorem eK3:((List.range 3).all fun i=>N3r[i]?.elim true fun k=>keyB k&&(N3r.take i).all fun a=>ltS a k&& !zS a k)=true:=by decide+kernel
theorem eH7 {i:Nat} {k:ByteArray} (hk:N3r[i]?=some k):keyB k=true/\∀a∈N3r.take i,ltS a k=true/\zS a k=false:=by
 have hi:i < 3:=(List.getElem?_eq_some_iff.1 hk).1
 have h1:=(List.all_eq_true.1 eK3) i (List.mem_range.2 hi)
 rw [hk] at h1
 have h2:(keyB k&&(N3r.take i).all fun a=>ltS a k&& !zS a k)=true:=h1
 rw [Bool.and_eq_true] at h2
 refine ⟨h2.1,fun a ha=>?_⟩
 have h3:=(List.all_eq_true.1 h2.2) a ha
 rw [Bool.and_eq_true] at h3
 exact ⟨h3.1,by simpa using h3.2⟩
def RrG (k:Nat) (l:List Rt):Prop:=scanE fV none l=0/\∀x∈l,x.cls∈N3r.take k
def RrI (k:Nat) (nm:ByteArray) (fr:Int) (l:List Rt):Prop:=scanE fV none l=0/\∀x∈l,x.cls∈N3r.take k∨(x.cls=nm/\x.fr < fr/\x.to_<=fr)
theorem eS3 {k:Nat}:RrG k []:=⟨rfl,fun _ h=>by cases h⟩
theorem dD6 {k:Nat} {nm:ByteArray} {fr:Int} {l:List Rt} (h:RrG k l):RrI k nm fr l:=⟨h.1,fun x hx=> .inl (h.2 x hx)⟩
theorem dU3 {k:Nat} {nm:ByteArray} {fr:Int} {l:List Rt} (h:RrI k nm fr l) (hk:N3r[k]?=some nm):RrG (k+1) l:=⟨h.1,fun x hx=>by
 rcases h.2 x hx with h|⟨h,_⟩
 ·exact bG3 h
 ·rw [h];exact bH8 hk⟩
theorem cW5 {v a b:Int} (h1:a<=v) (h2:v<=b):¬inB v a b=false:=by
 rw [Bool.not_eq_false,mG];exact ⟨h1,h2⟩
theorem cD1 {p:Option Rt} {r:Rt} (h1:keyB r.cls=true) (h2:0<=r.fr/\r.fr < r.to_/\r.to_<=4001) (h3: -1<=r.hr/\r.hr<=1000000) (h4: -1<=r.dy/\r.dy<=1000000) (h5: -1<=r.we/\r.we<=1000000) (h6: -1<=r.wk/\r.wk<=1000000) (hp:∀q,p=some q->bW2 q r=true/\(zS q.cls r.cls&&decide (r.fr < q.to_))=false):fV p r=0:=by
 unfold fV
 rw [if_neg (by rw [h1];decide),if_neg (by omega),if_neg (fun h=>by
  rcases h with h|h|h|h
  ·exact cW5 h3.1 h3.2 h
  ·exact cW5 h4.1 h4.2 h
  ·exact cW5 h5.1 h5.2 h
  ·exact cW5 h6.1 h6.2 h)]
 cases p with
 |none=>rfl
 |some q=>
  obtain ⟨g1,g2⟩:=hp q rfl
  show (if bW2 q r=false then 7 else if (zS q.cls r.cls&&decide (r.fr < q.to_))=true then 13 else 0)=0
  rw [if_neg (by rw [g1];decide),if_neg (by rw [g2];decide)]
theorem eT0 {k:Nat} {nm:ByteArray} {fr fr2 tq a b c d:Int} {l:List Rt} (h:RrI k nm fr l) (hk:N3r[k]?=some nm) (h2:0<=fr/\fr < tq/\tq<=4001) (h3: -1<=a/\a<=1000000) (h4: -1<=b/\b<=1000000) (h5: -1<=c/\c<=1000000) (h6: -1<=d/\d<=1000000) (hf:tq<=fr2):RrI k nm fr2 (l++ [⟨nm,fr,tq,a,b,c,d⟩]):=by
 obtain ⟨g1,g2⟩:=eH7 hk
 refine ⟨bA4 h.1 (cD1 g1 h2 h3 h4 h5 h6 (fun q e=>by cases e)) (fun y hy=>cD1 g1 h2 h3 h4 h5 h6 (fun q e=>?_)),fun x hx=>?_⟩
 ·injection e with e
  subst e
  rcases h.2 y hy with e|⟨e1,e2,e3⟩
  ·obtain ⟨q1,q2⟩:=g2 _ e
   unfold bW2
   dsimp only
   rw [q1,q2];exact ⟨rfl,rfl⟩
  ·unfold bW2
   dsimp only
   have q1:decide (y.fr < fr)=true:=decide_eq_true e2
   have q2:decide (fr < y.to_)=false:=decide_eq_false (by omega)
   have q3:zS y.cls nm=true:=by rw [e1];unfold zS;simp
   rw [q1,q2,q3]
   exact ⟨by simp,rfl⟩
 ·rcases List.mem_append.1 hx with hx|hx
  ·rcases h.2 x hx with e|⟨e1,e2,e3⟩
   ·exact .inl e
   ·exact .inr ⟨e1,by omega,by omega⟩
  ·rw [List.mem_singleton.1 hx];exact .inr ⟨rfl,by dsimp only;omega,hf⟩
theorem dC6 {k:Nat} {l:List Rt} (h:RrG k l) (hl:l.length<=200):pL l=0:=by
 unfold pL
 rw [if_neg (by omega)];exact h.1
def eT7 (x:ByteArray):List Value:= [.string x]
theorem eT3 (x:ByteArray):(eT7 x).length=1:=rfl
def RtG (x:Rt):Prop:=x.cls.size<=1000000/\x.hr<=10
theorem fN2 {l:List Rt} (h:∀y∈l,RtG y):∀y∈l,cZ1 y:=fun y hy=>(h y hy).1
def RtB (x:Rt):Prop:=x.cls.size<=100/\(-2000000000000000<=x.fr/\x.fr<=2000000000000000)/\(-2000000000000000<=x.to_/\x.to_<=2000000000000000)/\(-2000000000000000<=x.hr/\x.hr<=2000000000000000)/\(-2000000000000000<=x.dy/\x.dy<=2000000000000000)/\(-2000000000000000<=x.we/\x.we<=2000000000000000)/\(-2000000000000000<=x.wk/\x.wk<=2000000000000000)
def RtH (x:Rt):Prop:=x.hr<=10/\RtB x
theorem eU7 {x:Rt} (h:RtB x):cZ1 x:=by
 have h1:=h.1
 show x.cls.size<=1000000
 omega
theorem eS5 {l:List Rt} (h:∀y∈l,RtH y):∀y∈l,RtG y:=fun y hy=>⟨eU7 (h y hy).2,(h y hy).1⟩
theorem dV3 {l:List Rt} {x:Rt} (h:∀y∈l,RtH y) (hx:RtH x):∀y∈l++ [x],RtH y:=fun y hy=>by
 rcases List.mem_append.1 hy with hy|hy
 ·exact h y hy
 ·rw [List.mem_singleton.1 hy];exact hx
theorem cK6 {l:List Rt} {x:Rt} {j:Nat} (h:∀y∈l,RtH y) (hx:RtH x):∀y∈l.set j x,RtH y:=fun y hy=>by
 rcases List.mem_or_eq_of_mem_set hy with hy|rfl
 ·exact h y hy
 ·exact hx
theorem bC3 (w:World) (B sb m:Nat) (hS:eW 25 w B sb m) (hm:m<=100000000000):
 Calls prog 64 #[.pointer (some ⟨sb,0,none⟩)] w (fun e w'=>∃(A:Option Addr) (n c:Nat) (l:List Rt),e=.returned (.slice A n c)/\w'.ownsRow w.heap.size 219 7 (.slice A n c) n (l.flatMap kW)/\(∀x∈l,RtH x)/\l.length=n/\n<=9/\pL l=0/\eW 25 w' B sb (m+120)/\w.grownBy w' (some sb)):=by
 refine cV ⟨64,w,(some sb), []⟩ func64 U ntmps64 U (bH5 (X:= []) hS cY cZ) (bS (bZ U (bR (bS (bZ U (bR (bH (bS (jF 9 [.string ⟨#[109,97,120,105]⟩,.string ⟨#[109,105,100,105]⟩,.string ⟨#[109,105,110,105]⟩] fun g1=>bB (dT jY U) U (bL 9 (v':= .int .i64 3) U U (bP U (bR (bO ?_)))))))))))))
 refine rK 219 7 ?_
 refine dX (γ:=Nat×Nat×Value×List Rt×List Value) (fun g=>g.1<=3/\g.2.1<=3 *g.1/\g.2.2.2.1.length=g.2.1/\(∀x∈g.2.2.2.1,RtH x)/\RrG g.1 g.2.2.2.1/\g.2.2.2.2=g.2.2.2.1.flatMap kW) (fun g=> [(0,.pointer (some ⟨sb,0,none⟩)),(2,.slice none 0 0),(3,g.2.2.1),(8,.slice (some ⟨g1,0,none⟩) 3 3),(9,.int .i64 3),(10,.int .i64 ((g.1:Nat):Int))]) (fun g=>fun w=>eW 25 w B sb (m+40 *g.1)) (fun g=> [(g1,9, [.string ⟨#[109,97,120,105]⟩,.string ⟨#[109,105,100,105]⟩,.string ⟨#[109,105,110,105]⟩])]) (fun g=> [⟨g.2.2.1,219,7,g.2.1,g.2.2.2.2⟩]) (fun g=> []) (fun g=>3 - g.1) (0,0,.slice none 0 0, [], []) ⟨Nat.zero_le _,Nat.zero_le _,U,(fun _ h=>by cases h),eS3,U⟩ ⟨U,U,U,U,U,U,trivial⟩ (fun _ hm=>(hm.more U (by first|omega|(dsimp only;omega))).pick [0] [0] [] U U) ?_
 rintro ⟨k,n,v,l,xs⟩ cC
 replace cC:k<=3/\n<=3 *k/\l.length=n/\(∀x∈l,RtH x)/\RrG k l/\xs=l.flatMap kW:=cC
 dsimp only
 refine bS ?_
 obtain ⟨hi0,hi1,vO,hi3,hrr,rfl⟩:=cC
 refine bB (dD U U) U (bR (bH ?_))
 refine cE U (fun hk=>?_) (fun hk=>?_)
 ·refine bN (bD (bH (bO (bS ?_))))
  obtain ⟨nm,hx⟩:∃x,([⟨#[109,97,120,105]⟩,⟨#[109,105,100,105]⟩,⟨#[109,105,110,105]⟩]:List ByteArray)[k]?=some x:=⟨_,fJ5 (by simp;omega)⟩
  have hnm:nm.size<=100:=kG (fK5 hx) (by decide)
  refine bB (bT (j:=k) jY U U (by omega)) U (bB (dL (k:=0) (v:= .string nm) fE U (fun _ hm=>(SlT.ofBlk (l:= [⟨#[109,97,120,105]⟩,⟨#[109,105,100,105]⟩,⟨#[109,105,110,105]⟩]) eT3 (hm.blkI 0 U))) hx U U) U (bZ U (bR (bS (bP U (jF 3 [.int .i64 0,.int .i64 0,.int .i64 0,.int .i64 3] fun g2=>dM (γ:=Int) (val:=fun v=> .int .i64 v) (φ:=fun v=>v∈([0,0,0,3]:List Int)) U pP U U U U (fun wx hm=>(eT [0,0,0,3] _ _ _ wx B sb _ hm.k (by omega) (by simp) (by simp) (hm.blkI 0 U) (hm.neRow 0 U U))) fun v3 hv3=>?_))))))
  have bv3:0<=v3/\v3<=3:=gQ hv3 (by decide)
  have bv30:=bv3.1
  have bv31:=bv3.2
  clear bv3
  refine bZ U (bR (bS (bP U (jF 3 [.int .i64 0,.int .i64 1,.int .i64 1,.int .i64 2,.int .i64 3] fun g4=>dM (γ:=Int) (val:=fun v=> .int .i64 v) (φ:=fun v=>v∈([0,1,1,2,3]:List Int)) U pP U U U U (fun wx hm=>(eT [0,1,1,2,3] _ _ _ wx B sb _ hm.k (by omega) (by simp) (by simp) (hm.blkI 0 U) (hm.neRow 0 U U))) fun v5 hv5=>?_))))
  have bv5:0<=v5/\v5<=3:=gQ hv5 (by decide)
  have bv50:=bv5.1
  have bv51:=bv5.2
  clear bv5
  refine bP U (bR (bO ?_))
  refine dX (γ:=Nat×Int×Nat×Value×List Rt×List Value) (fun (g9:Nat×Int×Nat×Value×List Rt×List Value)=>(g9.1:Int)<=v5/\(0<=g9.2.1/\g9.2.1<=5000)/\g9.2.2.1<=3 *k+g9.1/\g9.2.2.2.2.1.length=g9.2.2.1/\(∀x∈g9.2.2.2.2.1,RtH x)/\RrI k nm g9.2.1 g9.2.2.2.2.1/\g9.2.2.2.2.2=g9.2.2.2.2.1.flatMap kW) (fun (g9:Nat×Int×Nat×Value×List Rt×List Value)=> [(0,.pointer (some ⟨sb,0,none⟩)),(2,.slice none 0 0),(3,g9.2.2.2.1),(5,.string nm),(6,.int .i64 g9.2.1),(8,.slice (some ⟨g1,0,none⟩) 3 3),(9,.int .i64 3),(10,.int .i64 ((k:Nat):Int)),(19,.int .i64 v5),(20,.int .i64 ((g9.1:Nat):Int))]) (fun (g9:Nat×Int×Nat×Value×List Rt×List Value)=>fun w=>eW 25 w B sb (m+40 *k+1+1+8 *g9.1)) (fun (g9:Nat×Int×Nat×Value×List Rt×List Value)=> [(g1,9, [.string ⟨#[109,97,120,105]⟩,.string ⟨#[109,105,100,105]⟩,.string ⟨#[109,105,110,105]⟩])]) (fun (g9:Nat×Int×Nat×Value×List Rt×List Value)=> [⟨g9.2.2.2.1,219,7,g9.2.2.1,g9.2.2.2.2.2⟩]) (fun (g9:Nat×Int×Nat×Value×List Rt×List Value)=> []) (fun (g9:Nat×Int×Nat×Value×List Rt×List Value)=>(v5 - ((g9.1:Nat):Int)).toNat) (0,v3,n,v,l,l.flatMap kW) ⟨by dsimp only;omega,⟨by dsimp only;omega,by dsimp only;omega⟩,by dsimp only;omega,vO,hi3,dD6 hrr,rfl⟩ ⟨U,U,U,U,U,U,U,U,U,U,trivial⟩ (fun _ hm=>(hm.more U (by first|omega|(dsimp only;omega))).pick [2] [0] [] U U) ?_
  rintro ⟨j,fr,n,v,l,xs⟩ cC
  replace cC:(j:Int)<=v5/\(0<=fr/\fr<=5000)/\n<=3 *k+j/\l.length=n/\(∀x∈l,RtH x)/\RrI k nm fr l/\xs=l.flatMap kW:=cC
  dsimp only
  refine bS ?_
  obtain ⟨hj0,hj1,hj2,hj3,hj4,hjr,rfl⟩:=cC
  refine bB (dD U U) U (bR (bH ?_))
  refine cE U (fun hj=>?_) (fun hj=>?_)
  ·refine bN (bD (bH (bO (bS (bP U (bP U (bP U (bP U ?_))))))))
   refine jF 3 [.int .i64 1,.int .i64 5,.int .i64 20,.int .i64 4000] fun g6=>dM (γ:=Int) (val:=fun v=> .int .i64 v) (φ:=fun v=>v∈([1,5,20,4000]:List Int)) U pP U U U U (fun wx hm=>(eT [1,5,20,4000] _ _ _ wx B sb _ hm.k (by omega) (by simp) (by simp) (hm.blkI 0 U) (hm.neRow 0 U U))) fun v7 hv7=>?_
   have bv7:1<=v7/\v7<=4000:=gQ hv7 (by decide)
   have bv70:=bv7.1
   have bv71:=bv7.2
   clear bv7
   refine gN U U (bP U (jF 3 [.int .i64 (-1),.int .i64 5,.int .i64 10,.int .i64 10,.int .i64 0] fun g8=>dM (γ:=Int) (val:=fun v=> .int .i64 v) (φ:=fun v=>v∈([-1,5,10,10,0]:List Int)) U pP U U U U (fun wx hm=>(eT [-1,5,10,10,0] _ _ _ wx B sb _ hm.k (by omega) (by simp) (by simp) (hm.blkI 0 U) (hm.neRow 0 U U))) fun v9 hv9=>?_))
   have bv9: -1<=v9/\v9<=10:=gQ hv9 (by decide)
   have bv90:=bv9.1
   have bv91:=bv9.2
   clear bv9
   refine bP U (jF 3 [.int .i64 (-1),.int .i64 50,.int .i64 50,.int .i64 70,.int .i64 40] fun g10=>dM (γ:=Int) (val:=fun v=> .int .i64 v) (φ:=fun v=>v∈([-1,50,50,70,40]:List Int)) U pP U U U U (fun wx hm=>(eT [-1,50,50,70,40] _ _ _ wx B sb _ hm.k (by omega) (by simp) (by simp) (hm.blkI 0 U) (hm.neRow 0 U U))) fun v11 hv11=>?_)
   have bv11: -1<=v11/\v11<=70:=gQ hv11 (by decide)
   have bv110:=bv11.1
   have bv111:=bv11.2
   clear bv11
   refine bP U (jF 3 [.int .i64 (-1),.int .i64 70,.int .i64 90,.int .i64 100] fun g12=>dM (γ:=Int) (val:=fun v=> .int .i64 v) (φ:=fun v=>v∈([-1,70,90,100]:List Int)) U pP U U U U (fun wx hm=>(eT [-1,70,90,100] _ _ _ wx B sb _ hm.k (by omega) (by simp) (by simp) (hm.blkI 0 U) (hm.neRow 0 U U))) fun v13 hv13=>?_)
   have bv13: -1<=v13/\v13<=100:=gQ hv13 (by decide)
   have bv130:=bv13.1
   have bv131:=bv13.2
   clear bv13
   refine bP U (jF 3 [.int .i64 (-1),.int .i64 200,.int .i64 250,.int .i64 300] fun g14=>dM (γ:=Int) (val:=fun v=> .int .i64 v) (φ:=fun v=>v∈([-1,200,250,300]:List Int)) U pP U U U U (fun wx hm=>(eT [-1,200,250,300] _ _ _ wx B sb _ hm.k (by omega) (by simp) (by simp) (hm.blkI 0 U) (hm.neRow 0 U U))) fun v15 hv15=>?_)
   have bv15: -1<=v15/\v15<=300:=gQ hv15 (by decide)
   have bv150:=bv15.1
   have bv151:=bv15.2
   clear bv15
   refine bB (dJ (cs:= [.string nm,.int .i64 fr,.int .i64 (fr+v7),.int .i64 v9,.int .i64 v11,.int .i64 v13,.int .i64 v15]) U (by kernel_rfl)) U (dH cK9 U fun g16=>jX (cs':= [.string nm,.int .i64 fr,.int .i64 (fr+v7),.int .i64 v9,.int .i64 v11,.int .i64 v13,.int .i64 v15]) 0 bI1 U U U U (bR (bS (dW qX U U (eI fF 0 U U U (bB (dI1 U U) U (dW qX U U (jJ 0 fF U U U U U U (bR (bH (bS (dW qF U U (eI fF 0 U U U (dW qX U U (eI fF 0 U U U (bB (mO U U) U (bR ?_)))))))))))))))))
   refine cE U (fun hb=>?_) (fun hb=>?_)
   ·refine dE ?_
    refine bF (bJ7 U (bF (bF (bY (bG (bD (bI (gN U U (bP U (bE ?_))))))))))
    exact cQ (k+1,n,v,l,l.flatMap kW) ⟨by dsimp only;omega,by dsimp only;omega,hj3,hj4,dU3 hjr hx,rfl⟩ (by dsimp only;omega) ⟨U,U,U,U,U,(cS (by omega)),trivial⟩ (fun _ hm=>(hm.more U (by first|omega|(dsimp only;omega))).pick [6] [0] [] U U)
   refine bN (bD (bS (bP U (bB (cX bI1 U (fun _ hm=>hm.blkI 0 U) U U) U (jF 219 [.string nm,.int .i64 fr,.int .i64 (min (fr+v7) 4001),.int .i64 v9,.int .i64 v11,.int .i64 v13,.int .i64 v15] fun g17=>eF (news:= [.string nm,.int .i64 fr,.int .i64 (min (fr+v7) 4001),.int .i64 v9,.int .i64 v11,.int .i64 v13,.int .i64 v15]) 0 0 eA9 U U U U U U U (by omega) (by unfold maxLen;omega) U U fun v2 hv2=>bZ U (bR (gd (fun wz=>Blk wz g16 219 [.string nm,.int .i64 fr,.int .i64 (min (fr+v7) 4001),.int .i64 v9,.int .i64 v11,.int .i64 v13,.int .i64 v15]/\True) mixed (fun _ hm=>⟨hm.bl 1,trivial⟩) fun z=>wq 0 U (bQ qX U U) (wq 1 U (cN fF U (fun _ hm=>hm.1) U) (wq 2 U (bJ U) (eC 3 U (jF 3 [.int .i64 0,.int .i64 0,.int .i64 0,.int .i64 2] fun g18=>bE (nw 7 15 (fun _ hm=>⟨hm.bl 2,trivial⟩) fun z=>eC 4 U (dM (γ:=Int) (val:=fun v=> .int .i64 v) (φ:=fun v=>v∈([0,0,0,2]:List Int)) U pP U U U U (fun wx hm=>(eT [0,0,0,2] _ _ _ wx B sb _ hm.k (by omega) (by simp) (by simp) (hm.blkI 0 U) (hm.neRow 0 U U))) fun v19 hv19=>?_)))))))))))))
   have bv19:0<=v19/\v19<=2:=gQ hv19 (by decide)
   have bv190:=bv19.1
   have bv191:=bv19.2
   clear bv19
   refine bE (nw 7 31 (fun _ hm=>⟨hm.bl 2,trivial⟩) fun z=>wq 5 U (ov_add U U (by omega) (by omega)) (wq 6 U (cU U) (jH (bG (bD (bI (gN U U (bP U (bE ?_)))))))))
   exact cQ (j+1,(min (fr+v7) 4001)+v19,n+1,v2,l++ [⟨nm,fr,min (fr+v7) 4001,v9,v11,v13,v15⟩],l.flatMap kW++([.string nm,.int .i64 fr,.int .i64 (min (fr+v7) 4001),.int .i64 v9,.int .i64 v11,.int .i64 v13,.int .i64 v15]:List Value)) ⟨by dsimp only;omega,⟨by dsimp only;omega,by dsimp only;omega⟩,by dsimp only;omega,by simp [hj3],dV3 hj4 ⟨by dsimp only;omega,by dsimp only;omega,⟨by dsimp only;omega,by dsimp only;omega⟩,⟨by dsimp only;omega,by dsimp only;omega⟩,⟨by dsimp only;omega,by dsimp only;omega⟩,⟨by dsimp only;omega,by dsimp only;omega⟩,⟨by dsimp only;omega,by dsimp only;omega⟩,⟨by dsimp only;omega,by dsimp only;omega⟩⟩,eT0 hjr hx (by omega) (by omega) (by omega) (by omega) (by omega) (by dsimp only;omega),by simp [kW]⟩ (by dsimp only;omega) ⟨U,U,U,U,U,U,U,U,U,(cS (by omega)),trivial⟩ (fun _ hm=>(hm.more U (by first|omega|(dsimp only;omega))).pick [8] [0] [] U U)
  refine dE (bF (bF (bY (bG (bD (bI (gN U U (bP U (bE ?_)))))))))
  exact cQ (k+1,n,v,l,l.flatMap kW) ⟨by dsimp only;omega,by dsimp only;omega,hj3,hj4,dU3 hjr hx,rfl⟩ (by dsimp only;omega) ⟨U,U,U,U,U,(cS (by omega)),trivial⟩ (fun _ hm=>(hm.more U (by first|omega|(dsimp only;omega))).pick [0] [0] [] U U)
 refine dE (bF (bF (bY (bD (bS (bP U (bZ U (bR (bM ?_)))))))))
 refine eL3 (R:=∃A cc,v= .slice A n cc) (fun wx hm=>dS (hm.ownI 0 U)) ?_
 rintro ⟨A,c,rfl⟩
 exact bK U U fun wx hm=>⟨A,n,c,l,U,hm.ownI 0 U,hi3,vO,by omega,dC6 hrr (by omega),hm.k.more (by omega),hm.g⟩
theorem cN2 (w:World) (B sb m:Nat) (hS:eW 25 w B sb m) (hm:m<=100000000000):
 Calls prog 64 #[.pointer (some ⟨sb,0,none⟩)] w (fun e w'=>∃(A:Option Addr) (n c:Nat) (l:List Rt),e=.returned (.slice A n c)/\w'.ownsRow w.heap.size 219 7 (.slice A n c) n (l.flatMap kW)/\(∀x∈l,RtH x)/\l.length=n/\n<=9/\eW 25 w' B sb (m+120)/\w.grownBy w' (some sb)):=(bC3 w B sb m hS hm).mono fun _ _ ⟨A,n,c,l,he,ho,h1,h2,h3,_,h⟩=>⟨A,n,c,l,he,ho,h1,h2,h3,h⟩
theorem dD9 (w:World) (B sb m:Nat) (hS:eW 25 w B sb m) (hm:m<=100000000000):
 Calls prog 106 #[.pointer (some ⟨sb,0,none⟩)] w (fun e w'=>∃(A:Option Addr) (n c:Nat) (l:List Rt),e=.returned (.slice A n c)/\SlT kW 7 219 w' A n l/\(∀x∈l,RtH x)/\n<=10/\n<=c/\eW 25 w' B sb (m+200)/\w.grownBy w' (some sb)):=by
 refine cV ⟨56,w,(some sb), []⟩ func106 U ntmps106 U (bH5 (X:= []) hS cY cZ) (bS (bZ U (bR (bS (bP U ?_)))))
 refine dW6 (γ:=Option Addr×Nat×Nat×List Rt) (val:=(fun g=> .slice g.1 g.2.1 g.2.2.1)) (φ:=(fun g=>(∀x∈g.2.2.2,RtH x)/\g.2.2.2.length=g.2.1/\g.2.1<=9)) (m':=m+120) (fun g=>⟨.slice g.1 g.2.1 g.2.2.1,219,7,g.2.1,g.2.2.2.flatMap kW⟩) U fD1 U U U U (fun wx hm=>(cN2 wx B sb _ hm.k (by omega)).mono fun _ _ ⟨A,n,c,l,he,ho,hok,hl,hn,hS,hg⟩=>⟨(A,n,c,l),he,⟨hok,hl,hn⟩,hS,hg,ho⟩) ?_
 rintro ⟨A,n,c,l⟩ mT
 dsimp only at mT ⊢
 obtain ⟨hi3,vO,hn⟩:=mT
 refine bZ U (bR (bH (bS (bP U (bB (dT bW8 U) U (bB (eJ U U) U (bP U ?_)))))))
 rcases Bool.eq_false_or_eq_true (decide (0 < ((n:Nat):Int))) with hb|hb
 ·refine bL 10 U (fH5 hb) ?_
  have hk0:0 < n:=by simpa using hb
  refine eG U (bP U (eG U (dM (γ:=Bool) (val:=fun v=> .bool v) (φ:=fun v=>True) U xV U U U U (fun wx hm=>((jZ _ wx B sb _ hm.k (by omega) (by omega) (by omega)).mono fun _ _ ⟨v,he,hS,hg⟩=>⟨v,trivial,he,hS,hg⟩)) fun f1 _=>mQ U U (bR ?_))))
  refine dC U (fun hh=>?_) (fun hh=>?_)
  ·have hf:f1=true:=by simpa using hh
   refine bS ?_
   refine eD (R:=∃g,A=some ⟨g,0,none⟩) (fun wx hm=>bL5 (hm.ownI 0 U) hk0) ?_
   rintro ⟨bo,rfl⟩
   refine bP U (bP U (bP U (bB (dT bW8 U) U (dM (γ:=Int) (val:=fun v=> .int .i64 v) (φ:=fun v=>mW ((n:Nat):Int) v) U bR9 U U U U (fun wx hm=>(mN _ wx B sb _ hm.k (by omega) (by omega) (by omega))) fun vj hvj=>?_))))
   have hj:=rE hvj (by omega)
   obtain ⟨i,rfl⟩:=Int.eq_ofNat_of_zero_le hj.1
   have hij:i < n:=by omega
   obtain ⟨y,hy⟩:∃y,l[i]?=some y:=⟨_,fJ5 (by omega)⟩
   obtain ⟨y0,y1,y2,y3,y4,y5,y6⟩:=y
   obtain ⟨hy3,hy0,hy1,hy2,hy4,hy5,hy6,hy7⟩:=hi3 _ (fK5 hy)
   dsimp only at hy3 hy0 hy1 hy2 hy4 hy5 hy6 hy7
   obtain ⟨z,hz⟩:∃z,l[0]?=some z:=⟨_,fJ5 (by omega)⟩
   obtain ⟨z0,z1,z2,z3,z4,z5,z6⟩:=z
   have hz0:=hi3 _ (fK5 hz)
   refine bB (bT (j:=i) bW8 U U (by omega)) U (bZ U (bR (bS (bP U (dM (γ:=Int) (val:=fun v=> .int .i64 v) (φ:=fun v=>mW 4 v) U bR9 U U U U (fun wx hm=>(mN _ wx B sb _ hm.k (by omega) (by omega) (by omega))) fun vk hvk=>bR (bO (bS (bB (eN U U) U (bZ U (bR ?_))))))))))
   refine cE U (fun hc0=>?_) (fun hc0=>?_)
   ·refine bI (bP U (bP U ?_))
    refine jF 9 [.string ⟨#[]⟩,.string ⟨#[65]⟩,.string ⟨#[109,105,110,105]⟩,.string ⟨#[122,101,100]⟩] fun g2=>dM (γ:=ByteArray) (val:=fun v=> .string v) (φ:=fun v=>v∈([⟨#[]⟩,⟨#[65]⟩,⟨#[109,105,110,105]⟩,⟨#[122,101,100]⟩]:List ByteArray)) U rS U U U U (fun wx hm=>(gV [⟨#[]⟩,⟨#[65]⟩,⟨#[109,105,110,105]⟩,⟨#[122,101,100]⟩] _ _ _ wx B sb _ hm.k (by omega) (by simp) (by simp) (hm.blkI 0 U) (hm.neRow 0 U U))) fun s3 hs3=>?_
    have zs3:s3.size<=100:=kG hs3 (by decide)
    refine bB (bX U) U (dW pB U U (gK (l:=l) (j:=i) (r:=0) (el:=⟨y0,y1,y2,y3,y4,y5,y6⟩) (el':=⟨s3,y1,y2,y3,y4,y5,y6⟩) 0 fE U U U U vH U hy vO (show 0 < 7 by decide) U U (bE (bG (bD (bS (bP U (bZ U (bR (bM ?_))))))))))
    exact bK U U fun wx hm=>⟨some ⟨bo,0,none⟩,n,c,(l.set i ⟨s3,y1,y2,y3,y4,y5,y6⟩),U,SlT.ofOwn vH (hm.ownI 0 U) (by simp;exact vO),cK6 (hi3) ⟨by dsimp only;omega,by dsimp only;omega,⟨by dsimp only;omega,by dsimp only;omega⟩,⟨by dsimp only;omega,by dsimp only;omega⟩,⟨by dsimp only;omega,by dsimp only;omega⟩,⟨by dsimp only;omega,by dsimp only;omega⟩,⟨by dsimp only;omega,by dsimp only;omega⟩,⟨by dsimp only;omega,by dsimp only;omega⟩⟩,by omega,jA (hm.ownI 0 rfl),hm.k.more (by omega),hm.g⟩
   refine bS (bB (eN U U) U (bZ U (bR ?_)))
   refine cE U (fun hc1=>?_) (fun hc1=>?_)
   ·refine bI (bP U (bP U (bP U ?_)))
    refine dM (γ:=Int) (val:=fun v=> .int .i64 v) (φ:=fun v=> -2000000000000000<=v/\v<=2000000000000000) U bO3 U U U U (fun wx hm=>(mI _ _ wx B sb _ hm.k (by omega) (by omega) (by omega) (by omega))) fun v4 hv4=>bP U (dM (γ:=Int) (val:=fun v=> .int .i64 v) (φ:=fun v=> -2000000000000000<=v/\v<=2000000000000000) U bO3 U U U U (fun wx hm=>(mI _ _ wx B sb _ hm.k (by omega) (by omega) (by omega) (by omega))) fun v5 hv5=>bB (bX U) U (dW qF U U (gK (l:=l) (j:=i) (r:=1) (el:=⟨y0,y1,y2,y3,y4,y5,y6⟩) (el':=⟨y0,v4,y2,y3,y4,y5,y6⟩) 0 fF U U U U vH U hy vO (show 1 < 7 by decide) U U (bB (bX U) U (dW qX U U ?_)))))
    refine gK (l:=(l.set i ⟨y0,v4,y2,y3,y4,y5,y6⟩)) (j:=i) (r:=2) (el:=⟨y0,v4,y2,y3,y4,y5,y6⟩) (el':=⟨y0,v4,v5,y3,y4,y5,y6⟩) 0 fF U U U U vH U (List.getElem?_set_self (by first|omega|(simp;omega))) (by simp;exact vO) (show 2 < 7 by decide) U U ?_
    refine bE (bG (bD (bS (bP U (bZ U (bR (bM ?_)))))))
    exact bK U U fun wx hm=>⟨some ⟨bo,0,none⟩,n,c,((l.set i ⟨y0,v4,y2,y3,y4,y5,y6⟩).set i ⟨y0,v4,v5,y3,y4,y5,y6⟩),U,SlT.ofOwn vH (hm.ownI 0 U) (by simp;exact vO),cK6 (cK6 (hi3) ⟨by dsimp only;omega,by dsimp only;omega,⟨by dsimp only;omega,by dsimp only;omega⟩,⟨by dsimp only;omega,by dsimp only;omega⟩,⟨by dsimp only;omega,by dsimp only;omega⟩,⟨by dsimp only;omega,by dsimp only;omega⟩,⟨by dsimp only;omega,by dsimp only;omega⟩,⟨by dsimp only;omega,by dsimp only;omega⟩⟩) ⟨by dsimp only;omega,by dsimp only;omega,⟨by dsimp only;omega,by dsimp only;omega⟩,⟨by dsimp only;omega,by dsimp only;omega⟩,⟨by dsimp only;omega,by dsimp only;omega⟩,⟨by dsimp only;omega,by dsimp only;omega⟩,⟨by dsimp only;omega,by dsimp only;omega⟩,⟨by dsimp only;omega,by dsimp only;omega⟩⟩,by omega,jA (hm.ownI 0 rfl),hm.k.more (by omega),hm.g⟩
   refine bS (bB (eN U U) U (bZ U (bR ?_)))
   refine cE U (fun hc2=>?_) (fun hc2=>?_)
   ·refine bI (bP U (bP U ?_))
    refine dM (γ:=Int) (val:=fun v=> .int .i64 v) (φ:=fun v=> -2000000000000000<=v/\v<=2000000000000000) U bO3 U U U U (fun wx hm=>(mI _ _ wx B sb _ hm.k (by omega) (by omega) (by omega) (by omega))) fun v6 hv6=>bB (bX U) U (dW bG9 U U (gK (l:=l) (j:=i) (r:=4) (el:=⟨y0,y1,y2,y3,y4,y5,y6⟩) (el':=⟨y0,y1,y2,y3,v6,y5,y6⟩) 0 fF U U U U vH U hy vO (show 4 < 7 by decide) U U (bE (bG (bD (bS (bP U (bZ U (bR (bM ?_))))))))))
    exact bK U U fun wx hm=>⟨some ⟨bo,0,none⟩,n,c,(l.set i ⟨y0,y1,y2,y3,v6,y5,y6⟩),U,SlT.ofOwn vH (hm.ownI 0 U) (by simp;exact vO),cK6 (hi3) ⟨by dsimp only;omega,by dsimp only;omega,⟨by dsimp only;omega,by dsimp only;omega⟩,⟨by dsimp only;omega,by dsimp only;omega⟩,⟨by dsimp only;omega,by dsimp only;omega⟩,⟨by dsimp only;omega,by dsimp only;omega⟩,⟨by dsimp only;omega,by dsimp only;omega⟩,⟨by dsimp only;omega,by dsimp only;omega⟩⟩,by omega,jA (hm.ownI 0 rfl),hm.k.more (by omega),hm.g⟩
   refine bI (bP U (bP U (bB (bT (j:=0) bW8 U U hk0) U (bB (dO (vs:= [.string z0,.int .i64 z1,.int .i64 z2,.int .i64 z3,.int .i64 z4,.int .i64 z5,.int .i64 z6]) bI1 U (fun _ hm=>(SlT.ofOwn vH (hm.ownI 0 U) vO)) (show l[0]?=some _ from hz) U U) U (jF 219 [.string z0,.int .i64 z1,.int .i64 z2,.int .i64 z3,.int .i64 z4,.int .i64 z5,.int .i64 z6] fun g7=>eF (news:= [.string z0,.int .i64 z1,.int .i64 z2,.int .i64 z3,.int .i64 z4,.int .i64 z5,.int .i64 z6]) 0 0 eA9 U U U U U U U (by omega) (by unfold maxLen;omega) U U fun v2 hv2=>?_)))))
   refine eD (R:=∃A cc,v2= .slice A (n+1) cc) (fun wx hm=>dS (hm.ownI 0 U)) ?_
   rintro ⟨A2,c2,rfl⟩
   refine bZ U (bE (bG (bD (bS (bP U (bZ U (bR (bM ?_))))))))
   exact bK U U fun wx hm=>⟨A2,n+1,c2,l++ [⟨z0,z1,z2,z3,z4,z5,z6⟩],U,SlT.ofOwn (l:=l++ [⟨z0,z1,z2,z3,z4,z5,z6⟩]) vH (by have h:=hm.ownI 0 rfl;simpa [kW] using h) (by simp [vO]),dV3 hi3 hz0,by omega,jA (hm.ownI 0 rfl),hm.k.more (by omega),hm.g⟩
  have hf:f1=false:=by simpa using hh
  refine bN (bD (bS (bP U (bZ U (bR (bM ?_))))))
  exact bK U U fun wx hm=>⟨A,n,c,l,U,SlT.ofOwn vH (hm.ownI 0 U) vO,hi3,by omega,jA (hm.ownI 0 rfl),hm.k.more (by omega),hm.g⟩
 refine bL 10 U (fH5 hb) (dY U (dY U (nS U U (bR (jU U (bN (bD (bS (bP U (bZ U (bR (bM ?_))))))))))))
 exact bK U U fun wx hm=>⟨A,n,c,l,U,SlT.ofOwn vH (hm.ownI 0 U) vO,hi3,by omega,jA (hm.ownI 0 rfl),hm.k.more (by omega),hm.g⟩
theorem dC9 (w:World) (B sb m:Nat) (hS:eW 25 w B sb m) (hm:m<=100000000000):
 Calls prog 106 #[.pointer (some ⟨sb,0,none⟩)] w (fun e w'=>∃(A:Option Addr) (n c:Nat) (l:List Rt),e=.returned (.slice A n c)/\SlT kW 7 219 w' A n l/\(∀x∈l,RtG x)/\n<=10/\n<=c/\eW 25 w' B sb (m+200)/\w.grownBy w' (some sb)):=(dD9 w B sb m hS hm).mono fun _ _ ⟨A,n,c,l,he,hs,ho,h⟩=>⟨A,n,c,l,he,hs,eS5 ho,h⟩
def uA (rl:List Rt) (el:List Ex) (fl:List Fe) (cl:List Cd) (tl:List Tx):Int:=dI [pL rl,qD el,xL fl,uI cl,wH tl]
theorem dY1 (rl:List Rt) (rA:Option Addr) (rn rc:Nat) (el:List Ex) (eA:Option Addr) (en ec:Nat) (fl:List Fe) (fA:Option Addr) (fn fc:Nat) (cl:List Cd) (cA:Option Addr) (cn cc:Nat) (tl:List Tx) (tA:Option Addr) (tn tc:Nat) (w:World) (hr:SlT kW 7 219 w rA rn rl) (he:SlT qP 4 254 w eA en el) (hf:SlT nF 3 258 w fA fn fl) (hc:SlT nU 6 260 w cA cn cl) (ht:SlT jT 4 263 w tA tn tl) (hons:Ons tl w) (hro:∀x∈rl,cZ1 x) (heo:∀x∈el,bF6 x) (hfo:∀x∈fl,bN2 x) (hco:∀x∈cl,zQ x) (hto:∀x∈tl,jG x) (hrn:rn<=1000) (hen:en<=1000) (hfn:fn<=1000) (hcn:cn<=1000) (htn:tn<=3) (htc:tn<=tc):
 Calls prog 125 #[.agg #[.slice rA rn rc,.slice eA en ec,.slice fA fn fc,.slice cA cn cc,.slice tA tn tc]] w (nC w (uA rl el fl cl tl)):=by
 refine cV ⟨20,w,none, []⟩ func125 U ntmps125 U (gR (X:= [bU kW 7 219 w.heap.size none rA rn rl,bU qP 4 254 w.heap.size none eA en el,bU nF 3 258 w.heap.size none fA fn fl,bU nU 6 260 w.heap.size none cA cn cl,bU jT 4 263 w.heap.size none tA tn tl,mR w.heap.size none tl]) (cG hr.old (cG he.old (cG hf.old (cG hc.old (cG ht.old (cG hons.old cY)))))) (cH bU.lasts (cH bU.lasts (cH bU.lasts (cH bU.lasts (cH bU.lasts (cH mR.lasts cZ))))))) (bS ?_)
 obtain ⟨RE,hRE⟩:∃E,E=pL rl:=⟨_,rfl⟩
 obtain ⟨XE,hXE⟩:∃E,E=qD el:=⟨_,rfl⟩
 obtain ⟨FE,hFE⟩:∃E,E=xL fl:=⟨_,rfl⟩
 obtain ⟨CE,hCE⟩:∃E,E=uI cl:=⟨_,rfl⟩
 obtain ⟨TE,hTE⟩:∃E,E=wH tl:=⟨_,rfl⟩
 have hTE5:uA rl el fl cl tl=dI [RE,XE,FE,CE,TE]:=by rw [hRE,hXE,hFE,hCE,hTE];rfl
 refine fG U U U fun g1=>bZ U (bR (bH (gd (fun wz=>Blk wz g1 38 [.slice rA rn rc,.slice eA en ec,.slice fA fn fc,.slice cA cn cc,.slice tA tn tc]/\True) mixed (fun _ hm=>⟨hm.bl 0,trivial⟩) fun z=>wq 0 U (bQ dU8 U U) (wq 1 U (cN fP2 U (fun _ hm=>hm.1) U) (wq 3 U (bQ dV8 U U) (wq 4 U (cN fQ2 U (fun _ hm=>hm.1) U) (wq 6 U (bQ dW8 U U) (wq 7 U (cN fR2 U (fun _ hm=>hm.1) U) (wq 9 U (bQ dX8 U U) (wq 10 U (cN fS2 U (fun _ hm=>hm.1) U) (wq 12 U (bQ dY8 U U) (wq 13 U (cN fT2 U (fun _ hm=>hm.1) U) (eC 2 U (cL (v:= .int .i64 RE) U fE0 U U (fun wx hm=>(by rw [hRE];exact bU9 rl rA rn rc wx (hm.fact 0 rfl).1 hro (by omega))) (bE (nw 18 14047 (fun _ hm=>⟨hm.bl 0,trivial⟩) fun z=>eC 5 U (cL (v:= .int .i64 XE) U fF0 U U (fun wx hm=>(by rw [hXE];exact bS8 el eA en ec wx (hm.fact 1 rfl).1 heo (by omega))) (bE (nw 18 14079 (fun _ hm=>⟨hm.bl 0,trivial⟩) fun z=>eC 8 U (cL (v:= .int .i64 FE) U fG0 U U (fun wx hm=>(by rw [hFE];exact cE2 fl fA fn fc wx (hm.fact 2 rfl).1 hfo (by omega))) (bE (nw 18 14335 (fun _ hm=>⟨hm.bl 0,trivial⟩) fun z=>eC 11 U (cL (v:= .int .i64 CE) U fH0 U U (fun wx hm=>(by rw [hCE];exact bS9 cl cA cn cc wx (hm.fact 3 rfl).1 hco (by omega))) (bE ?_))))))))))))))))))))))))
 refine nw 18 16383 (fun _ hm=>⟨hm.bl 0,trivial⟩) fun z=>eC 14 U (cL (v:= .int .i64 TE) U fI0 U U (fun wx hm=>(by rw [hTE];exact bV9 tl tA tn tc wx (hm.fact 4 rfl).1 (mR.ons (hm.fact 5 rfl)) hto (by omega) htc)) (bE (nw 18 32767 (fun _ hm=>⟨hm.bl 0,trivial⟩) fun z=>eC 15 U (jF 48 [.int .i64 RE,.int .i64 XE,.int .i64 FE,.int .i64 CE,.int .i64 TE] fun g2=>bE (nw 18 65535 (fun _ hm=>⟨hm.bl 1,trivial⟩) fun z=>eC 16 U (dA U wJ U U (fun wx hm=>(fJ [RE,XE,FE,CE,TE] _ _ _ wx (hm.blkI 0 U) (by simp))) (bE (nw 18 131071 (fun _ hm=>⟨hm.bl 1,trivial⟩) fun z=>wq 17 U (cU U) (jH (bD (bM ?_)))))))))))
 exact bK U U fun wx hm=>⟨bW hTE5.symm,hm.g⟩
theorem bC9 (rl:List Rt) (rA:Option Addr) (rn rc:Nat) (el:List Ex) (eA:Option Addr) (en ec:Nat) (fl:List Fe) (fA:Option Addr) (fn fc:Nat) (cl:List Cd) (cA:Option Addr) (cn cc:Nat) (tl:List Tx) (tA:Option Addr) (tn tc:Nat) (w:World) (hr:SlT kW 7 219 w rA rn rl) (he:SlT qP 4 254 w eA en el) (hf:SlT nF 3 258 w fA fn fl) (hc:SlT nU 6 260 w cA cn cl) (ht:SlT jT 4 263 w tA tn tl) (hons:Ons tl w) (hro:∀x∈rl,cZ1 x) (heo:∀x∈el,bF6 x) (hfo:∀x∈fl,bN2 x) (hco:∀x∈cl,zQ x) (hto:∀x∈tl,jG x) (hrn:rn<=1000) (hen:en<=1000) (hfn:fn<=1000) (hcn:cn<=1000) (htn:tn<=3) (htc:tn<=tc):
 Calls prog 63 #[.agg #[.slice rA rn rc,.slice eA en ec,.slice fA fn fc,.slice cA cn cc,.slice tA tn tc]] w (nC w (uA rl el fl cl tl)):=by
 refine cV ⟨30,w,none, []⟩ func63 U ntmps63 U (gR (X:= [bU kW 7 219 w.heap.size none rA rn rl,bU qP 4 254 w.heap.size none eA en el,bU nF 3 258 w.heap.size none fA fn fl,bU nU 6 260 w.heap.size none cA cn cl,bU jT 4 263 w.heap.size none tA tn tl,mR w.heap.size none tl]) (cG hr.old (cG he.old (cG hf.old (cG hc.old (cG ht.old (cG hons.old cY)))))) (cH bU.lasts (cH bU.lasts (cH bU.lasts (cH bU.lasts (cH bU.lasts (cH mR.lasts cZ))))))) (bS ?_)
 obtain ⟨RE,hRE⟩:∃E,E=pL rl:=⟨_,rfl⟩
 obtain ⟨XE,hXE⟩:∃E,E=qD el:=⟨_,rfl⟩
 obtain ⟨FE,hFE⟩:∃E,E=xL fl:=⟨_,rfl⟩
 obtain ⟨CE,hCE⟩:∃E,E=uI cl:=⟨_,rfl⟩
 obtain ⟨TE,hTE⟩:∃E,E=wH tl:=⟨_,rfl⟩
 have hTE5:uA rl el fl cl tl=dI [RE,XE,FE,CE,TE]:=by rw [hRE,hXE,hFE,hCE,hTE];rfl
 rw [hTE5]
 refine fG U U U fun g1=>bZ U (bR (bH (bH (gd (fun wz=>Blk wz g1 38 [.slice rA rn rc,.slice eA en ec,.slice fA fn fc,.slice cA cn cc,.slice tA tn tc]/\True) mixed (fun _ hm=>⟨hm.bl 0,trivial⟩) fun z=>wq 0 U (bQ dU8 U U) (wq 1 U (cN fP2 U (fun _ hm=>hm.1) U) (wq 3 U (bQ dV8 U U) (wq 4 U (cN fQ2 U (fun _ hm=>hm.1) U) (wq 6 U (bQ dW8 U U) (wq 7 U (cN fR2 U (fun _ hm=>hm.1) U) (wq 9 U (bQ dX8 U U) (wq 10 U (cN fS2 U (fun _ hm=>hm.1) U) (wq 12 U (bQ dY8 U U) (wq 13 U (cN fT2 U (fun _ hm=>hm.1) U) (wq 17 U (bJ U) (eC 2 U (cL (v:= .int .i64 RE) U eN9 U U (fun wx hm=>(by rw [hRE];exact cE1 rl rA rn rc wx (hm.fact 0 rfl).1 hro (by omega))) (bE (nw 18 145119 (fun _ hm=>⟨hm.bl 0,trivial⟩) fun z=>eC 5 U (cL (v:= .int .i64 XE) U eO9 U U (fun wx hm=>(by rw [hXE];exact bY8 el eA en ec wx (hm.fact 1 rfl).1 heo (by omega))) (bE (nw 18 145151 (fun _ hm=>⟨hm.bl 0,trivial⟩) fun z=>eC 8 U (cL (v:= .int .i64 FE) U eP9 U U (fun wx hm=>(by rw [hFE];exact cL2 fl fA fn fc wx (hm.fact 2 rfl).1 hfo (by omega))) (bE (nw 18 145407 (fun _ hm=>⟨hm.bl 0,trivial⟩) fun z=>eC 11 U ?_))))))))))))))))))))))))
 refine cL (v:= .int .i64 CE) U eQ9 U U (fun wx hm=>(by rw [hCE];exact bX9 cl cA cn cc wx (hm.fact 3 rfl).1 hco (by omega))) (bE (nw 18 147455 (fun _ hm=>⟨hm.bl 0,trivial⟩) fun z=>eC 14 U (cL (v:= .int .i64 TE) U eR9 U U (fun wx hm=>(by rw [hTE];exact cQ1 tl tA tn tc wx (hm.fact 4 rfl).1 (mR.ons (hm.fact 5 rfl)) hto (by omega) htc)) (bE (nw 18 163839 (fun _ hm=>⟨hm.bl 0,trivial⟩) fun z=>eC 15 U (jF 48 [.int .i64 RE,.int .i64 XE,.int .i64 FE,.int .i64 CE,.int .i64 TE] fun g2=>bE (nw 18 196607 (fun _ hm=>⟨hm.bl 1,trivial⟩) fun z=>wq 16 U (dT cB3 U) (dG 21 (v':= .int .i64 5) U U (jH (bD (bO (eZ 6 (eB (bS (bB (dD U U) U (bL 23 (v':= .bool true) U (fH5 (by decide)) (bR (bH (kQ U (bN (bD (bH (bO (bS (bB (bT (j:=0) cB3 U U (by decide)) U ?_)))))))))))))))))))))))))
 refine eI eX0 0 U U U (bZ U (bR (bS (bP U (bB (gX U U) U (bR ?_))))))
 refine gI U (fun g0=>?_) (fun g0=>?_)
 ·refine bS (bP U (bZ U (bR ?_)))
  refine bM (bC (bA (bA (bC (bA ?_)))))
  exact bK U U fun wx hm=>⟨bW (by simp [dI,g0]),hm.g⟩
 refine bN (bG (bD (bI (gN U U (bL 29 (v':= .int .i64 1) U U (bP U (bE (hW (eB (bS (bB (dD U U) U (bL 23 (v':= .bool true) U (fH5 (by decide)) (bR (bH (kQ U (bN (bD (bH (bO (bS (bB (bT (j:=1) cB3 U U (by decide)) U (eI eX0 0 U U U (bZ U (bR (bS (bP U (bB (gX U U) U (bR ?_))))))))))))))))))))))))))))
 refine gI U (fun g1=>?_) (fun g1=>?_)
 ·refine bS (bP U (bZ U (bR ?_)))
  refine bM (bC (bA (bA (bC (bA ?_)))))
  exact bK U U fun wx hm=>⟨bW (by simp [dI,g0,g1]),hm.g⟩
 refine bN (bG (bD (bI (gN U U (bL 29 (v':= .int .i64 2) U U (bP U (bE (hW (eB (bS (bB (dD U U) U (bL 23 (v':= .bool true) U (fH5 (by decide)) (bR (bH (kQ U (bN (bD (bH (bO (bS (bB (bT (j:=2) cB3 U U (by decide)) U (eI eX0 0 U U U (bZ U (bR (bS (bP U (bB (gX U U) U (bR ?_))))))))))))))))))))))))))))
 refine gI U (fun g2=>?_) (fun g2=>?_)
 ·refine bS (bP U (bZ U (bR ?_)))
  refine bM (bC (bA (bA (bC (bA ?_)))))
  exact bK U U fun wx hm=>⟨bW (by simp [dI,g0,g1,g2]),hm.g⟩
 refine bN (bG (bD (bI (gN U U (bL 29 (v':= .int .i64 3) U U (bP U (bE (hW (eB (bS (bB (dD U U) U (bL 23 (v':= .bool true) U (fH5 (by decide)) (bR (bH (kQ U (bN (bD (bH (bO (bS (bB (bT (j:=3) cB3 U U (by decide)) U (eI eX0 0 U U U (bZ U (bR (bS (bP U (bB (gX U U) U (bR ?_))))))))))))))))))))))))))))
 refine gI U (fun g3=>?_) (fun g3=>?_)
 ·refine bS (bP U (bZ U (bR ?_)))
  refine bM (bC (bA (bA (bC (bA ?_)))))
  exact bK U U fun wx hm=>⟨bW (by simp [dI,g0,g1,g2,g3]),hm.g⟩
 refine bN (bG (bD (bI (gN U U (bL 29 (v':= .int .i64 4) U U (bP U (bE (hW (eB (bS (bB (dD U U) U (bL 23 (v':= .bool true) U (fH5 (by decide)) (bR (bH (kQ U (bN (bD (bH (bO (bS (bB (bT (j:=4) cB3 U U (by decide)) U (eI eX0 0 U U U (bZ U (bR (bS (bP U (bB (gX U U) U (bR ?_))))))))))))))))))))))))))))
 refine gI U (fun g4=>?_) (fun g4=>?_)
 ·refine bS (bP U (bZ U (bR ?_)))
  refine bM (bC (bA (bA (bC (bA ?_)))))
  exact bK U U fun wx hm=>⟨bW (by simp [dI,g0,g1,g2,g3,g4]),hm.g⟩
 refine bN (bG (bD (bI (gN U U (bL 29 (v':= .int .i64 5) U U (bP U (bE (hW (eB (bS (bB (dD U U) U (bL 23 (v':= .bool false) U (fH5 (by decide)) (bR (bH (jU U (dE (bF (bF (bY (bD (bS (bZ U (bR (bM ?_))))))))))))))))))))))))
 exact bK U U fun wx hm=>⟨bW (by simp [dI,g0,g1,g2,g3,g4]),hm.g⟩
def ap (l:List Tx) (b:Bool) (x:Tx):List Tx:=bif b then l++ [x] else l
theorem eD9 {b1 b2 b3:Bool} {x1 x2 x3 y:Tx} {j:Nat} (h:(ap (ap (ap [] b1 x1) b2 x2) b3 x3)[j]?=some y):
 (y=x1/\∀z,∀x∈(ap (ap (ap [] b1 x1) b2 x2) b3 x3).set j z,x=z∨x=x2∨x=x3)∨(y=x2/\∀z,∀x∈(ap (ap (ap [] b1 x1) b2 x2) b3 x3).set j z,x=x1∨x=z∨x=x3)∨(y=x3/\∀z,∀x∈(ap (ap (ap [] b1 x1) b2 x2) b3 x3).set j z,x=x1∨x=x2∨x=z):=by
 match j with
 |0=>cases b1 <;> cases b2 <;> cases b3 <;> simp only [ap,cond_true,cond_false,List.nil_append,List.cons_append,List.getElem?_cons_zero,List.getElem?_nil,Option.some.injEq,reduceCtorEq] at h <;> subst h <;> first
  |exact .inl ⟨rfl,fun z x hx=>by simp [ap] at hx;first|exact hx|(rcases hx with hx|hx <;> simp [hx])|simp [hx]⟩
  |exact .inr (.inl ⟨rfl,fun z x hx=>by simp [ap] at hx;first|exact hx|(rcases hx with hx|hx <;> simp [hx])|simp [hx]⟩)
  |exact .inr (.inr ⟨rfl,fun z x hx=>by simp [ap] at hx;first|exact hx|(rcases hx with hx|hx <;> simp [hx])|simp [hx]⟩)
 |1=>cases b1 <;> cases b2 <;> cases b3 <;> simp only [ap,cond_true,cond_false,List.nil_append,List.cons_append,List.getElem?_cons_succ,List.getElem?_cons_zero,List.getElem?_nil,Option.some.injEq,reduceCtorEq] at h <;> subst h <;> first
  |exact .inr (.inl ⟨rfl,fun z x hx=>by simp [ap] at hx;first|exact hx|(rcases hx with hx|hx <;> simp [hx])|simp [hx]⟩)
  |exact .inr (.inr ⟨rfl,fun z x hx=>by simp [ap] at hx;first|exact hx|(rcases hx with hx|hx <;> simp [hx])|simp [hx]⟩)
 |2=>cases b1 <;> cases b2 <;> cases b3 <;> simp only [ap,cond_true,cond_false,List.nil_append,List.cons_append,List.getElem?_cons_succ,List.getElem?_cons_zero,List.getElem?_nil,Option.some.injEq,reduceCtorEq] at h <;> subst h <;> exact .inr (.inr ⟨rfl,fun z x hx=>by simp [ap] at hx;exact hx⟩)
 |n+3=>cases b1 <;> cases b2 <;> cases b3 <;> simp [ap] at h
theorem cQ4 {b1 b2 b3:Bool} {x1 x2 x3:Tx}:∀x∈ap (ap (ap [] b1 x1) b2 x2) b3 x3,x=x1∨x=x2∨x=x3:=by
 intro x h
 cases b1 <;> cases b2 <;> cases b3 <;> simp [ap] at h <;> first|exact h|exact .inl h|exact .inr (.inl h)|exact .inr (.inr h)|exact h.imp id .inl|exact h.imp id .inr|exact .inr h
theorem dG7 {l:List Tx} {n:Nat} {x:Tx} (h:n=l.length):n+1=(ap l true x).length:=by simp [ap,h]
theorem dI2 (l:List Tx) (ke:ByteArray) (mi:Int) (A:Option Addr) (n c:Nat) (on:List Int) (ov:Bool):l.flatMap jT++([.string ke,.int .i64 mi,.slice A n c,.bool ov]:List Value)=(ap l true ⟨ke,mi,A,n,c,on,ov⟩).flatMap jT:=by simp [ap,jT]
theorem nO {l:List Tx} {x1 x2 x3:Tx} {w:World} (h:∀x∈l,x=x1∨x=x2∨x=x3) (h1:SlT kF 1 3 w x1.A x1.n x1.on) (h2:SlT kF 1 3 w x2.A x2.n x2.on) (h3:SlT kF 1 3 w x3.A x3.n x3.on):Ons l w:=fun x hx=>by
 rcases h x hx with rfl|rfl|rfl
 ·exact h1
 ·exact h2
 ·exact h3
theorem rN {l:List Tx} {x1 x2 x3:Tx} (h:∀x∈l,x=x1∨x=x2∨x=x3) (h1:jG x1) (h2:jG x2) (h3:jG x3):∀x∈l,jG x:=fun x hx=>by
 rcases h x hx with rfl|rfl|rfl
 ·exact h1
 ·exact h2
 ·exact h3
theorem pG {w:World} {N n c:Nat} {A:Option Addr} {l:List Int} {v:Int} (h:w.ownsRow N 3 1 (.slice A (n+1) c) (n+1) (l.flatMap kF++([.int .i64 v]:List Value))) (hl:l.length=n):SlT kF 1 3 w A (n+1) (l++ [v]):=
 SlT.ofOwn fM (by rw [show (l++ [v]).flatMap kF=l.flatMap kF++([.int .i64 v]:List Value) by simp [kF]];exact h) (by simp [hl])
theorem dL0 (w:World) (B sb m:Nat) (hS:eW 25 w B sb m) (hm:m<=100000000000):
 Calls prog 110 #[.pointer (some ⟨sb,0,none⟩)] w (fun e w'=>∃(A:Option Addr) (n c:Nat) (l:List Tx),e=.returned (.slice A n c)/\SlT jT 4 263 w' A n l/\Ons l w'/\(∀x∈l,jG x)/\n<=3/\n<=c/\eW 25 w' B sb (m+400)/\w.grownBy w' (some sb)):=by
 refine cV ⟨88,w,(some sb), []⟩ func110 U ntmps110 U (bH5 (X:= []) hS cY cZ) (bS (bZ U (bR (bS (bZ U (bR (bH (bS (jF 9 [.string ⟨#[99,105,116,121]⟩,.string ⟨#[115,116,97,116,101]⟩,.string ⟨#[118,97,116]⟩] fun g1=>bB (dT jY U) U (bL 11 (v':= .int .i64 3) U U (bP U (bR (bO ?_)))))))))))))
 refine rK 263 4 ?_
 refine eZ 4 (eB (bS (bB (dD U U) U (bL 13 (v':= .bool true) U (fH5 (by decide)) (bR (bH (kQ U (bN (bD ?_)))))))))
 refine pC (γ:=Bool×Value×Nat×List Value×ByteArray×Int×Option Addr×Nat×Nat×List Int×Bool) (I:=(fun g=>g.2.2.1=(ap [] g.1 ⟨g.2.2.2.2.1,g.2.2.2.2.2.1,g.2.2.2.2.2.2.1,g.2.2.2.2.2.2.2.1,g.2.2.2.2.2.2.2.2.1,g.2.2.2.2.2.2.2.2.2.1,g.2.2.2.2.2.2.2.2.2.2⟩).length/\g.2.2.2.1=(ap [] g.1 ⟨g.2.2.2.2.1,g.2.2.2.2.2.1,g.2.2.2.2.2.2.1,g.2.2.2.2.2.2.2.1,g.2.2.2.2.2.2.2.2.1,g.2.2.2.2.2.2.2.2.2.1,g.2.2.2.2.2.2.2.2.2.2⟩).flatMap jT/\g.2.2.2.2.1.size<=100/\g.2.2.2.2.2.2.2.2.2.1.length=g.2.2.2.2.2.2.2.1/\g.2.2.2.2.2.2.2.1<=5/\g.2.2.1<=1)) (S':=(fun g=> [(0,.pointer (some ⟨sb,0,none⟩)),(2,.slice none 0 0),(3,g.2.1),(10,.slice (some ⟨g1,0,none⟩) 3 3),(11,.int .i64 3),(12,.int .i64 0)])) (K':=(fun g=>fun w=>eW 25 w B sb (m+100))) (L':=(fun g=> [(g1,9, [.string ⟨#[99,105,116,121]⟩,.string ⟨#[115,116,97,116,101]⟩,.string ⟨#[118,97,116]⟩])])) (O':=(fun g=> [⟨g.2.1,263,4,g.2.2.1,g.2.2.2.1⟩,⟨.slice g.2.2.2.2.2.2.1 g.2.2.2.2.2.2.2.1 g.2.2.2.2.2.2.2.2.1,3,1,g.2.2.2.2.2.2.2.1,g.2.2.2.2.2.2.2.2.2.1.flatMap kF⟩])) (X':=(fun g=> [])) ?_ ?_
 ·refine bO (bS ?_)
  refine bB (bT (j:=0) jY U U (by decide)) U (eI fE 0 U U U (bZ U (bR (bH (bS (bP U (dM (γ:=Bool) (val:=fun v=> .bool v) (φ:=fun v=>True) U xV U U U U (fun wx hm=>((jZ _ wx B sb _ hm.k (by omega) (by omega) (by omega)).mono fun _ _ ⟨v,he,hS,hg⟩=>⟨v,trivial,he,hS,hg⟩)) fun f2 _=>bR ?_)))))))
  refine rK 3 1 ?_
  refine dC U (fun hh=>?_) (fun hh=>?_)
  ·have hz:f2=true:=by simpa using hh
   refine dE (bF (bY ?_))
   exact fK (false,.slice none 0 0,0, [],⟨#[]⟩,0,none,0,0, [],false) ⟨U,U,by dsimp only;decide,rfl,by dsimp only;omega,by dsimp only;omega⟩ ⟨U,U,U,U,U,U,trivial⟩ (fun _ hm=>(hm.more U (by first|omega|(dsimp only;omega))).pick [0] [1,0] [] U U)
  have hz:f2=false:=by simpa using hh
  refine bN (bD (bS (bP U (bP U (jF 3 [.int .i64 0,.int .i64 50,.int .i64 75,.int .i64 200,.int .i64 1000] fun g3=>dM (γ:=Int) (val:=fun v=> .int .i64 v) (φ:=fun v=>v∈([0,50,75,200,1000]:List Int)) U pP U U U U (fun wx hm=>(eT [0,50,75,200,1000] _ _ _ wx B sb _ hm.k (by omega) (by simp) (by simp) (hm.blkI 0 U) (hm.neRow 0 U U))) fun v4 hv4=>?_)))))
  have bv4:0<=v4/\v4<=1000:=gQ hv4 (by decide)
  have bv40:=bv4.1
  have bv41:=bv4.2
  clear bv4
  refine bP U (dM (γ:=Bool) (val:=fun v=> .bool v) (φ:=fun v=>True) U xV U U U U (fun wx hm=>((jZ _ wx B sb _ hm.k (by omega) (by omega) (by omega)).mono fun _ _ ⟨v,he,hS,hg⟩=>⟨v,trivial,he,hS,hg⟩)) fun f5 _=>bB (dJ (cs:= [.string ⟨#[99,105,116,121]⟩,.int .i64 v4,.slice none 0 0,.bool f5]) U (by kernel_rfl)) U (dH cL9 U fun g6=>jX (cs':= [.string ⟨#[99,105,116,121]⟩,.int .i64 v4,.slice none 0 0,.bool f5]) 0 zM U U U U (bR (bH (bS (jF 3 [.int .i64 1,.int .i64 2,.int .i64 3,.int .i64 4,.int .i64 6] fun g7=>bB (dT pE U) U (bL 26 (v':= .int .i64 5) U U (bP U (bR (bO ?_))))))))))
  refine dX (γ:=Nat×Nat×Value×List Int×List Value) (fun g=>g.1<=5/\g.2.1<=g.1/\g.2.2.2.1.length=g.2.1/\g.2.2.2.2=g.2.2.2.1.flatMap kF) (fun g=> [(0,.pointer (some ⟨sb,0,none⟩)),(2,.slice none 0 0),(3,.slice none 0 0),(6,.pointer (some ⟨g6,0,none⟩)),(10,.slice (some ⟨g1,0,none⟩) 3 3),(11,.int .i64 3),(12,.int .i64 0),(25,.slice (some ⟨g7,0,none⟩) 5 5),(26,.int .i64 5),(27,.int .i64 ((g.1:Nat):Int))]) (fun g=>fun w=>eW 25 w B sb (m+1+1+1+5 *g.1)) (fun g=> [(g7,3, [.int .i64 1,.int .i64 2,.int .i64 3,.int .i64 4,.int .i64 6]),(g6,263, [.string ⟨#[99,105,116,121]⟩,.int .i64 v4,g.2.2.1,.bool f5]),(g3,3, [.int .i64 0,.int .i64 50,.int .i64 75,.int .i64 200,.int .i64 1000]),(g1,9, [.string ⟨#[99,105,116,121]⟩,.string ⟨#[115,116,97,116,101]⟩,.string ⟨#[118,97,116]⟩])]) (fun g=> [⟨g.2.2.1,3,1,g.2.1,g.2.2.2.2⟩,⟨.slice none 0 0,263,4,0, []⟩]) (fun g=> []) (fun g=>5 - g.1) (0,0,.slice none 0 0, [], []) ⟨Nat.zero_le _,Nat.zero_le _,U,U⟩ ⟨U,U,U,U,U,U,U,U,U,U,trivial⟩ (fun _ hm=>(hm.more U (by first|omega|(dsimp only;omega))).pick [0,1,2,3] [0,1] [] U U) ?_
  rintro ⟨k,n,v,l,xs⟩ cC
  replace cC:k<=5/\n<=k/\l.length=n/\xs=l.flatMap kF:=cC
  dsimp only
  refine bS ?_
  obtain ⟨hi0,hi1,vO,rfl⟩:=cC
  refine bB (dD U U) U (bR (bH ?_))
  refine cE U (fun hk=>?_) (fun hk=>?_)
  ·refine bN (bD (bH (bO (bS ?_))))
   obtain ⟨kd,hx⟩:∃x,([1,2,3,4,6]:List Int)[k]?=some x:=⟨_,fJ5 (by simp;omega)⟩
   refine bB (bT (j:=k) pE U U (by omega)) U (bB (dL (k:=0) (v:= .int .i64 kd) fF U (fun _ hm=>(SlT.ofBlk (l:= [1,2,3,4,6]) fM (hm.blkI 0 U))) hx U U) U (bZ U (bR (bS (bP U (dM (γ:=Bool) (val:=fun v=> .bool v) (φ:=fun v=>True) U xV U U U U (fun wx hm=>((jZ _ wx B sb _ hm.k (by omega) (by omega) (by omega)).mono fun _ _ ⟨v,he,hS,hg⟩=>⟨v,trivial,he,hS,hg⟩)) fun f8 _=>bR ?_))))))
   refine dC U (fun hh=>?_) (fun hh=>?_)
   ·have hf:f8=true:=by simpa using hh
    refine bI (dW kC U U (eI mB 1 U U U (bP U (jF 3 [.int .i64 kd] fun g9=>eF (news:= [.int .i64 kd]) 0 0 bO2 U U U U U U U (by omega) (by unfold maxLen;omega) U U fun vb hvb=>?_))))
    refine eD (R:=∃A cc,vb= .slice A (n+1) cc) (fun wx hm=>dS (hm.ownI 0 U)) ?_
    rintro ⟨Ab,cb,rfl⟩
    refine dW kC U U (jJ 2 mB U U U U U U (bE (bG (bD (bI (gN U U (bP U (bE ?_))))))))
    exact cQ (k+1,n+1,.slice Ab (n+1) cb,l++ [kd],l.flatMap kF++([.int .i64 kd]:List Value)) ⟨by dsimp only;omega,by dsimp only;omega,by simp [vO],by simp [kF]⟩ (by dsimp only;omega) ⟨U,U,U,U,U,U,U,U,U,(cS (by omega)),trivial⟩ (fun _ hm=>(hm.more U (by first|omega|(dsimp only;omega))).pick [1,2,3,4] [0,1] [] U U)
   have hf:f8=false:=by simpa using hh
   refine bN (bG (bD (bI (gN U U (bP U (bE ?_))))))
   exact cQ (k+1,n,v,l,l.flatMap kF) ⟨by dsimp only;omega,by dsimp only;omega,vO,rfl⟩ (by dsimp only;omega) ⟨U,U,U,U,U,U,U,U,U,(cS (by omega)),trivial⟩ (fun _ hm=>(hm.more U (by first|omega|(dsimp only;omega))).pick [0,1,2,3] [0,1] [] U U)
  refine dE (bF (bF (bY (bD (bI ?_)))))
  refine eD (R:=∃A cc,v= .slice A n cc) (fun wx hm=>dS (hm.ownI 0 U)) ?_
  rintro ⟨Ad,cd,rfl⟩
  refine bP U (bB (cX zM U (fun _ hm=>hm.blkI 1 U) U U) U (jF 263 [.string ⟨#[99,105,116,121]⟩,.int .i64 v4,.slice Ad n cd,.bool f5] fun g10=>eF (news:= [.string ⟨#[99,105,116,121]⟩,.int .i64 v4,.slice Ad n cd,.bool f5]) 1 0 eF6 U U U U U U U (by omega) (by unfold maxLen;omega) U U fun vc hvc=>bZ U (bE (bG ?_))))
  exact fK (true,vc,0+1, []++([.string ⟨#[99,105,116,121]⟩,.int .i64 v4,.slice Ad n cd,.bool f5]:List Value),⟨#[99,105,116,121]⟩,v4,Ad,n,cd,l,f5) ⟨U,U,by dsimp only;decide,vO,by dsimp only;omega,by dsimp only;omega⟩ ⟨U,U,U,U,U,U,trivial⟩ (fun _ hm=>(hm.more U (by first|omega|(dsimp only;omega))).pick [4] [1,0] [] U U)
 rintro ⟨b1,v1,nn1,xs1,mU,mi1,A1,n1,c1,on1,ov1⟩ cC
 replace cC:nn1=(ap [] b1 ⟨mU,mi1,A1,n1,c1,on1,ov1⟩).length/\xs1=(ap [] b1 ⟨mU,mi1,A1,n1,c1,on1,ov1⟩).flatMap jT/\mU.size<=100/\on1.length=n1/\n1<=5/\nn1<=1:=cC
 dsimp only
 refine bI ?_
 obtain ⟨hT1,rfl,hk1,ho1,pQ,hb1⟩:=cC
 refine gN U U (bL 44 (v':= .int .i64 1) U U (bP U (bE (hW (eB (bS (bB (dD U U) U (bL 13 (v':= .bool true) U (fH5 (by decide)) (bR (bH (kQ U (bN (bD ?_)))))))))))))
 refine pC (γ:=Bool×Value×Nat×List Value×ByteArray×Int×Option Addr×Nat×Nat×List Int×Bool) (I:=(fun g=>g.2.2.1=(ap (ap [] b1 ⟨mU,mi1,A1,n1,c1,on1,ov1⟩) g.1 ⟨g.2.2.2.2.1,g.2.2.2.2.2.1,g.2.2.2.2.2.2.1,g.2.2.2.2.2.2.2.1,g.2.2.2.2.2.2.2.2.1,g.2.2.2.2.2.2.2.2.2.1,g.2.2.2.2.2.2.2.2.2.2⟩).length/\g.2.2.2.1=(ap (ap [] b1 ⟨mU,mi1,A1,n1,c1,on1,ov1⟩) g.1 ⟨g.2.2.2.2.1,g.2.2.2.2.2.1,g.2.2.2.2.2.2.1,g.2.2.2.2.2.2.2.1,g.2.2.2.2.2.2.2.2.1,g.2.2.2.2.2.2.2.2.2.1,g.2.2.2.2.2.2.2.2.2.2⟩).flatMap jT/\g.2.2.2.2.1.size<=100/\g.2.2.2.2.2.2.2.2.2.1.length=g.2.2.2.2.2.2.2.1/\g.2.2.2.2.2.2.2.1<=5/\g.2.2.1<=2)) (S':=(fun g=> [(0,.pointer (some ⟨sb,0,none⟩)),(2,.slice none 0 0),(3,g.2.1),(10,.slice (some ⟨g1,0,none⟩) 3 3),(11,.int .i64 3),(12,.int .i64 1)])) (K':=(fun g=>fun w=>eW 25 w B sb (m+200))) (L':=(fun g=> [(g1,9, [.string ⟨#[99,105,116,121]⟩,.string ⟨#[115,116,97,116,101]⟩,.string ⟨#[118,97,116]⟩])])) (O':=(fun g=> [⟨g.2.1,263,4,g.2.2.1,g.2.2.2.1⟩,⟨.slice g.2.2.2.2.2.2.1 g.2.2.2.2.2.2.2.1 g.2.2.2.2.2.2.2.2.1,3,1,g.2.2.2.2.2.2.2.1,g.2.2.2.2.2.2.2.2.2.1.flatMap kF⟩,⟨.slice A1 n1 c1,3,1,n1,on1.flatMap kF⟩])) (X':=(fun g=> [])) ?_ ?_
 ·refine bO (bS ?_)
  refine bB (bT (j:=1) jY U U (by decide)) U (eI fE 0 U U U (bZ U (bR (bH (bS (bP U (dM (γ:=Bool) (val:=fun v=> .bool v) (φ:=fun v=>True) U xV U U U U (fun wx hm=>((jZ _ wx B sb _ hm.k (by omega) (by omega) (by omega)).mono fun _ _ ⟨v,he,hS,hg⟩=>⟨v,trivial,he,hS,hg⟩)) fun f11 _=>bR ?_)))))))
  refine rK 3 1 ?_
  refine dC U (fun hh=>?_) (fun hh=>?_)
  ·have hz:f11=true:=by simpa using hh
   refine dE (bF (bY ?_))
   exact fK (false,v1,nn1,(ap [] b1 ⟨mU,mi1,A1,n1,c1,on1,ov1⟩).flatMap jT,⟨#[]⟩,0,none,0,0, [],false) ⟨hT1,U,by dsimp only;decide,rfl,by dsimp only;omega,by dsimp only;omega⟩ ⟨U,U,U,U,U,U,trivial⟩ (fun _ hm=>(hm.more U (by first|omega|(dsimp only;omega))).pick [0] [1,0,2] [] U U)
  have hz:f11=false:=by simpa using hh
  refine bN (bD (bS (bP U (bP U (jF 3 [.int .i64 0,.int .i64 50,.int .i64 75,.int .i64 200,.int .i64 1000] fun g12=>dM (γ:=Int) (val:=fun v=> .int .i64 v) (φ:=fun v=>v∈([0,50,75,200,1000]:List Int)) U pP U U U U (fun wx hm=>(eT [0,50,75,200,1000] _ _ _ wx B sb _ hm.k (by omega) (by simp) (by simp) (hm.blkI 0 U) (hm.neRow 0 U U))) fun v13 hv13=>?_)))))
  have bv13:0<=v13/\v13<=1000:=gQ hv13 (by decide)
  have bv130:=bv13.1
  have bv131:=bv13.2
  clear bv13
  refine bP U (dM (γ:=Bool) (val:=fun v=> .bool v) (φ:=fun v=>True) U xV U U U U (fun wx hm=>((jZ _ wx B sb _ hm.k (by omega) (by omega) (by omega)).mono fun _ _ ⟨v,he,hS,hg⟩=>⟨v,trivial,he,hS,hg⟩)) fun f14 _=>bB (dJ (cs:= [.string ⟨#[115,116,97,116,101]⟩,.int .i64 v13,.slice none 0 0,.bool f14]) U (by kernel_rfl)) U (dH cL9 U fun g15=>jX (cs':= [.string ⟨#[115,116,97,116,101]⟩,.int .i64 v13,.slice none 0 0,.bool f14]) 0 zM U U U U (bR (bH (bS (jF 3 [.int .i64 1,.int .i64 2,.int .i64 3,.int .i64 4,.int .i64 6] fun g16=>bB (dT pE U) U (bL 26 (v':= .int .i64 5) U U (bP U (bR (bO ?_))))))))))
  refine dX (γ:=Nat×Nat×Value×List Int×List Value) (fun g=>g.1<=5/\g.2.1<=g.1/\g.2.2.2.1.length=g.2.1/\g.2.2.2.2=g.2.2.2.1.flatMap kF) (fun g=> [(0,.pointer (some ⟨sb,0,none⟩)),(2,.slice none 0 0),(3,v1),(6,.pointer (some ⟨g15,0,none⟩)),(10,.slice (some ⟨g1,0,none⟩) 3 3),(11,.int .i64 3),(12,.int .i64 1),(25,.slice (some ⟨g16,0,none⟩) 5 5),(26,.int .i64 5),(27,.int .i64 ((g.1:Nat):Int))]) (fun g=>fun w=>eW 25 w B sb (m+100+1+1+1+5 *g.1)) (fun g=> [(g16,3, [.int .i64 1,.int .i64 2,.int .i64 3,.int .i64 4,.int .i64 6]),(g15,263, [.string ⟨#[115,116,97,116,101]⟩,.int .i64 v13,g.2.2.1,.bool f14]),(g12,3, [.int .i64 0,.int .i64 50,.int .i64 75,.int .i64 200,.int .i64 1000]),(g1,9, [.string ⟨#[99,105,116,121]⟩,.string ⟨#[115,116,97,116,101]⟩,.string ⟨#[118,97,116]⟩])]) (fun g=> [⟨g.2.2.1,3,1,g.2.1,g.2.2.2.2⟩,⟨v1,263,4,nn1,(ap [] b1 ⟨mU,mi1,A1,n1,c1,on1,ov1⟩).flatMap jT⟩,⟨.slice A1 n1 c1,3,1,n1,on1.flatMap kF⟩]) (fun g=> []) (fun g=>5 - g.1) (0,0,.slice none 0 0, [], []) ⟨Nat.zero_le _,Nat.zero_le _,U,U⟩ ⟨U,U,U,U,U,U,U,U,U,U,trivial⟩ (fun _ hm=>(hm.more U (by first|omega|(dsimp only;omega))).pick [0,1,2,3] [0,1,2] [] U U) ?_
  rintro ⟨k,n,v,l,xs⟩ cC
  replace cC:k<=5/\n<=k/\l.length=n/\xs=l.flatMap kF:=cC
  dsimp only
  refine bS ?_
  obtain ⟨hi0,hi1,vO,rfl⟩:=cC
  refine bB (dD U U) U (bR (bH ?_))
  refine cE U (fun hk=>?_) (fun hk=>?_)
  ·refine bN (bD (bH (bO (bS ?_))))
   obtain ⟨kd,hx⟩:∃x,([1,2,3,4,6]:List Int)[k]?=some x:=⟨_,fJ5 (by simp;omega)⟩
   refine bB (bT (j:=k) pE U U (by omega)) U (bB (dL (k:=0) (v:= .int .i64 kd) fF U (fun _ hm=>(SlT.ofBlk (l:= [1,2,3,4,6]) fM (hm.blkI 0 U))) hx U U) U (bZ U (bR (bS (bP U (dM (γ:=Bool) (val:=fun v=> .bool v) (φ:=fun v=>True) U xV U U U U (fun wx hm=>((jZ _ wx B sb _ hm.k (by omega) (by omega) (by omega)).mono fun _ _ ⟨v,he,hS,hg⟩=>⟨v,trivial,he,hS,hg⟩)) fun f17 _=>bR ?_))))))
   refine dC U (fun hh=>?_) (fun hh=>?_)
   ·have hf:f17=true:=by simpa using hh
    refine bI (dW kC U U (eI mB 1 U U U (bP U (jF 3 [.int .i64 kd] fun g18=>eF (news:= [.int .i64 kd]) 0 0 bO2 U U U U U U U (by omega) (by unfold maxLen;omega) U U fun vb hvb=>?_))))
    refine eD (R:=∃A cc,vb= .slice A (n+1) cc) (fun wx hm=>dS (hm.ownI 0 U)) ?_
    rintro ⟨Ab,cb,rfl⟩
    refine dW kC U U (jJ 2 mB U U U U U U (bE (bG (bD (bI (gN U U (bP U (bE ?_))))))))
    exact cQ (k+1,n+1,.slice Ab (n+1) cb,l++ [kd],l.flatMap kF++([.int .i64 kd]:List Value)) ⟨by dsimp only;omega,by dsimp only;omega,by simp [vO],by simp [kF]⟩ (by dsimp only;omega) ⟨U,U,U,U,U,U,U,U,U,(cS (by omega)),trivial⟩ (fun _ hm=>(hm.more U (by first|omega|(dsimp only;omega))).pick [1,2,3,4] [0,1,2] [] U U)
   have hf:f17=false:=by simpa using hh
   refine bN (bG (bD (bI (gN U U (bP U (bE ?_))))))
   exact cQ (k+1,n,v,l,l.flatMap kF) ⟨by dsimp only;omega,by dsimp only;omega,vO,rfl⟩ (by dsimp only;omega) ⟨U,U,U,U,U,U,U,U,U,(cS (by omega)),trivial⟩ (fun _ hm=>(hm.more U (by first|omega|(dsimp only;omega))).pick [0,1,2,3] [0,1,2] [] U U)
  refine dE (bF (bF (bY (bD (bI ?_)))))
  refine eD (R:=∃A cc,v= .slice A n cc) (fun wx hm=>dS (hm.ownI 0 U)) ?_
  rintro ⟨Ad,cd,rfl⟩
  refine bP U (bB (cX zM U (fun _ hm=>hm.blkI 1 U) U U) U (jF 263 [.string ⟨#[115,116,97,116,101]⟩,.int .i64 v13,.slice Ad n cd,.bool f14] fun g19=>eF (news:= [.string ⟨#[115,116,97,116,101]⟩,.int .i64 v13,.slice Ad n cd,.bool f14]) 1 0 eF6 U U U U U U U (by omega) (by unfold maxLen;omega) U U fun vc hvc=>bZ U (bE (bG ?_))))
  exact fK (true,vc,nn1+1,(ap [] b1 ⟨mU,mi1,A1,n1,c1,on1,ov1⟩).flatMap jT++([.string ⟨#[115,116,97,116,101]⟩,.int .i64 v13,.slice Ad n cd,.bool f14]:List Value),⟨#[115,116,97,116,101]⟩,v13,Ad,n,cd,l,f14) ⟨dG7 hT1,dI2 _ _ _ _ _ _ _ _,by dsimp only;decide,vO,by dsimp only;omega,by dsimp only;omega⟩ ⟨U,U,U,U,U,U,trivial⟩ (fun _ hm=>(hm.more U (by first|omega|(dsimp only;omega))).pick [4] [1,0,2] [] U U)
 rintro ⟨b2,v2,nn2,xs2,nK,mi2,A2,n2,c2,on2,ov2⟩ cC
 replace cC:nn2=(ap (ap [] b1 ⟨mU,mi1,A1,n1,c1,on1,ov1⟩) b2 ⟨nK,mi2,A2,n2,c2,on2,ov2⟩).length/\xs2=(ap (ap [] b1 ⟨mU,mi1,A1,n1,c1,on1,ov1⟩) b2 ⟨nK,mi2,A2,n2,c2,on2,ov2⟩).flatMap jT/\nK.size<=100/\on2.length=n2/\n2<=5/\nn2<=2:=cC
 dsimp only
 refine bI ?_
 obtain ⟨hT2,rfl,hk2,ho2,hm2,hb2⟩:=cC
 refine gN U U (bL 44 (v':= .int .i64 2) U U (bP U (bE (hW (eB (bS (bB (dD U U) U (bL 13 (v':= .bool true) U (fH5 (by decide)) (bR (bH (kQ U (bN (bD ?_)))))))))))))
 refine pC (γ:=Bool×Value×Nat×List Value×ByteArray×Int×Option Addr×Nat×Nat×List Int×Bool) (I:=(fun g=>g.2.2.1=(ap (ap (ap [] b1 ⟨mU,mi1,A1,n1,c1,on1,ov1⟩) b2 ⟨nK,mi2,A2,n2,c2,on2,ov2⟩) g.1 ⟨g.2.2.2.2.1,g.2.2.2.2.2.1,g.2.2.2.2.2.2.1,g.2.2.2.2.2.2.2.1,g.2.2.2.2.2.2.2.2.1,g.2.2.2.2.2.2.2.2.2.1,g.2.2.2.2.2.2.2.2.2.2⟩).length/\g.2.2.2.1=(ap (ap (ap [] b1 ⟨mU,mi1,A1,n1,c1,on1,ov1⟩) b2 ⟨nK,mi2,A2,n2,c2,on2,ov2⟩) g.1 ⟨g.2.2.2.2.1,g.2.2.2.2.2.1,g.2.2.2.2.2.2.1,g.2.2.2.2.2.2.2.1,g.2.2.2.2.2.2.2.2.1,g.2.2.2.2.2.2.2.2.2.1,g.2.2.2.2.2.2.2.2.2.2⟩).flatMap jT/\g.2.2.2.2.1.size<=100/\g.2.2.2.2.2.2.2.2.2.1.length=g.2.2.2.2.2.2.2.1/\g.2.2.2.2.2.2.2.1<=5/\g.2.2.1<=3)) (S':=(fun g=> [(0,.pointer (some ⟨sb,0,none⟩)),(2,.slice none 0 0),(3,g.2.1),(10,.slice (some ⟨g1,0,none⟩) 3 3),(11,.int .i64 3),(12,.int .i64 2)])) (K':=(fun g=>fun w=>eW 25 w B sb (m+300))) (L':=(fun g=> [(g1,9, [.string ⟨#[99,105,116,121]⟩,.string ⟨#[115,116,97,116,101]⟩,.string ⟨#[118,97,116]⟩])])) (O':=(fun g=> [⟨g.2.1,263,4,g.2.2.1,g.2.2.2.1⟩,⟨.slice g.2.2.2.2.2.2.1 g.2.2.2.2.2.2.2.1 g.2.2.2.2.2.2.2.2.1,3,1,g.2.2.2.2.2.2.2.1,g.2.2.2.2.2.2.2.2.2.1.flatMap kF⟩,⟨.slice A2 n2 c2,3,1,n2,on2.flatMap kF⟩,⟨.slice A1 n1 c1,3,1,n1,on1.flatMap kF⟩])) (X':=(fun g=> [])) ?_ ?_
 ·refine bO (bS ?_)
  refine bB (bT (j:=2) jY U U (by decide)) U (eI fE 0 U U U (bZ U (bR (bH (bS (bP U (dM (γ:=Bool) (val:=fun v=> .bool v) (φ:=fun v=>True) U xV U U U U (fun wx hm=>((jZ _ wx B sb _ hm.k (by omega) (by omega) (by omega)).mono fun _ _ ⟨v,he,hS,hg⟩=>⟨v,trivial,he,hS,hg⟩)) fun f20 _=>bR ?_)))))))
  refine rK 3 1 ?_
  refine dC U (fun hh=>?_) (fun hh=>?_)
  ·have hz:f20=true:=by simpa using hh
   refine dE (bF (bY ?_))
   exact fK (false,v2,nn2,(ap (ap [] b1 ⟨mU,mi1,A1,n1,c1,on1,ov1⟩) b2 ⟨nK,mi2,A2,n2,c2,on2,ov2⟩).flatMap jT,⟨#[]⟩,0,none,0,0, [],false) ⟨hT2,U,by dsimp only;decide,rfl,by dsimp only;omega,by dsimp only;omega⟩ ⟨U,U,U,U,U,U,trivial⟩ (fun _ hm=>(hm.more U (by first|omega|(dsimp only;omega))).pick [0] [1,0,2,3] [] U U)
  have hz:f20=false:=by simpa using hh
  refine bN (bD (bS (bP U (bP U (jF 3 [.int .i64 0,.int .i64 50,.int .i64 75,.int .i64 200,.int .i64 1000] fun g21=>dM (γ:=Int) (val:=fun v=> .int .i64 v) (φ:=fun v=>v∈([0,50,75,200,1000]:List Int)) U pP U U U U (fun wx hm=>(eT [0,50,75,200,1000] _ _ _ wx B sb _ hm.k (by omega) (by simp) (by simp) (hm.blkI 0 U) (hm.neRow 0 U U))) fun v22 hv22=>?_)))))
  have bv22:0<=v22/\v22<=1000:=gQ hv22 (by decide)
  have bv220:=bv22.1
  have bv221:=bv22.2
  clear bv22
  refine bP U (dM (γ:=Bool) (val:=fun v=> .bool v) (φ:=fun v=>True) U xV U U U U (fun wx hm=>((jZ _ wx B sb _ hm.k (by omega) (by omega) (by omega)).mono fun _ _ ⟨v,he,hS,hg⟩=>⟨v,trivial,he,hS,hg⟩)) fun f23 _=>bB (dJ (cs:= [.string ⟨#[118,97,116]⟩,.int .i64 v22,.slice none 0 0,.bool f23]) U (by kernel_rfl)) U (dH cL9 U fun g24=>jX (cs':= [.string ⟨#[118,97,116]⟩,.int .i64 v22,.slice none 0 0,.bool f23]) 0 zM U U U U (bR (bH (bS (jF 3 [.int .i64 1,.int .i64 2,.int .i64 3,.int .i64 4,.int .i64 6] fun g25=>bB (dT pE U) U (bL 26 (v':= .int .i64 5) U U (bP U (bR (bO ?_))))))))))
  refine dX (γ:=Nat×Nat×Value×List Int×List Value) (fun g=>g.1<=5/\g.2.1<=g.1/\g.2.2.2.1.length=g.2.1/\g.2.2.2.2=g.2.2.2.1.flatMap kF) (fun g=> [(0,.pointer (some ⟨sb,0,none⟩)),(2,.slice none 0 0),(3,v2),(6,.pointer (some ⟨g24,0,none⟩)),(10,.slice (some ⟨g1,0,none⟩) 3 3),(11,.int .i64 3),(12,.int .i64 2),(25,.slice (some ⟨g25,0,none⟩) 5 5),(26,.int .i64 5),(27,.int .i64 ((g.1:Nat):Int))]) (fun g=>fun w=>eW 25 w B sb (m+200+1+1+1+5 *g.1)) (fun g=> [(g25,3, [.int .i64 1,.int .i64 2,.int .i64 3,.int .i64 4,.int .i64 6]),(g24,263, [.string ⟨#[118,97,116]⟩,.int .i64 v22,g.2.2.1,.bool f23]),(g21,3, [.int .i64 0,.int .i64 50,.int .i64 75,.int .i64 200,.int .i64 1000]),(g1,9, [.string ⟨#[99,105,116,121]⟩,.string ⟨#[115,116,97,116,101]⟩,.string ⟨#[118,97,116]⟩])]) (fun g=> [⟨g.2.2.1,3,1,g.2.1,g.2.2.2.2⟩,⟨v2,263,4,nn2,(ap (ap [] b1 ⟨mU,mi1,A1,n1,c1,on1,ov1⟩) b2 ⟨nK,mi2,A2,n2,c2,on2,ov2⟩).flatMap jT⟩,⟨.slice A2 n2 c2,3,1,n2,on2.flatMap kF⟩,⟨.slice A1 n1 c1,3,1,n1,on1.flatMap kF⟩]) (fun g=> []) (fun g=>5 - g.1) (0,0,.slice none 0 0, [], []) ⟨Nat.zero_le _,Nat.zero_le _,U,U⟩ ⟨U,U,U,U,U,U,U,U,U,U,trivial⟩ (fun _ hm=>(hm.more U (by first|omega|(dsimp only;omega))).pick [0,1,2,3] [0,1,2,3] [] U U) ?_
  rintro ⟨k,n,v,l,xs⟩ cC
  replace cC:k<=5/\n<=k/\l.length=n/\xs=l.flatMap kF:=cC
  dsimp only
  refine bS ?_
  obtain ⟨hi0,hi1,vO,rfl⟩:=cC
  refine bB (dD U U) U (bR (bH ?_))
  refine cE U (fun hk=>?_) (fun hk=>?_)
  ·refine bN (bD (bH (bO (bS ?_))))
   obtain ⟨kd,hx⟩:∃x,([1,2,3,4,6]:List Int)[k]?=some x:=⟨_,fJ5 (by simp;omega)⟩
   refine bB (bT (j:=k) pE U U (by omega)) U (bB (dL (k:=0) (v:= .int .i64 kd) fF U (fun _ hm=>(SlT.ofBlk (l:= [1,2,3,4,6]) fM (hm.blkI 0 U))) hx U U) U (bZ U (bR (bS (bP U (dM (γ:=Bool) (val:=fun v=> .bool v) (φ:=fun v=>True) U xV U U U U (fun wx hm=>((jZ _ wx B sb _ hm.k (by omega) (by omega) (by omega)).mono fun _ _ ⟨v,he,hS,hg⟩=>⟨v,trivial,he,hS,hg⟩)) fun f26 _=>bR ?_))))))
   refine dC U (fun hh=>?_) (fun hh=>?_)
   ·have hf:f26=true:=by simpa using hh
    refine bI (dW kC U U (eI mB 1 U U U (bP U (jF 3 [.int .i64 kd] fun g27=>eF (news:= [.int .i64 kd]) 0 0 bO2 U U U U U U U (by omega) (by unfold maxLen;omega) U U fun vb hvb=>?_))))
    refine eD (R:=∃A cc,vb= .slice A (n+1) cc) (fun wx hm=>dS (hm.ownI 0 U)) ?_
    rintro ⟨Ab,cb,rfl⟩
    refine dW kC U U (jJ 2 mB U U U U U U (bE (bG (bD (bI (gN U U (bP U (bE ?_))))))))
    exact cQ (k+1,n+1,.slice Ab (n+1) cb,l++ [kd],l.flatMap kF++([.int .i64 kd]:List Value)) ⟨by dsimp only;omega,by dsimp only;omega,by simp [vO],by simp [kF]⟩ (by dsimp only;omega) ⟨U,U,U,U,U,U,U,U,U,(cS (by omega)),trivial⟩ (fun _ hm=>(hm.more U (by first|omega|(dsimp only;omega))).pick [1,2,3,4] [0,1,2,3] [] U U)
   have hf:f26=false:=by simpa using hh
   refine bN (bG (bD (bI (gN U U (bP U (bE ?_))))))
   exact cQ (k+1,n,v,l,l.flatMap kF) ⟨by dsimp only;omega,by dsimp only;omega,vO,rfl⟩ (by dsimp only;omega) ⟨U,U,U,U,U,U,U,U,U,(cS (by omega)),trivial⟩ (fun _ hm=>(hm.more U (by first|omega|(dsimp only;omega))).pick [0,1,2,3] [0,1,2,3] [] U U)
  refine dE (bF (bF (bY (bD (bI ?_)))))
  refine eD (R:=∃A cc,v= .slice A n cc) (fun wx hm=>dS (hm.ownI 0 U)) ?_
  rintro ⟨Ad,cd,rfl⟩
  refine bP U (bB (cX zM U (fun _ hm=>hm.blkI 1 U) U U) U (jF 263 [.string ⟨#[118,97,116]⟩,.int .i64 v22,.slice Ad n cd,.bool f23] fun g28=>eF (news:= [.string ⟨#[118,97,116]⟩,.int .i64 v22,.slice Ad n cd,.bool f23]) 1 0 eF6 U U U U U U U (by omega) (by unfold maxLen;omega) U U fun vc hvc=>bZ U (bE (bG ?_))))
  exact fK (true,vc,nn2+1,(ap (ap [] b1 ⟨mU,mi1,A1,n1,c1,on1,ov1⟩) b2 ⟨nK,mi2,A2,n2,c2,on2,ov2⟩).flatMap jT++([.string ⟨#[118,97,116]⟩,.int .i64 v22,.slice Ad n cd,.bool f23]:List Value),⟨#[118,97,116]⟩,v22,Ad,n,cd,l,f23) ⟨dG7 hT2,dI2 _ _ _ _ _ _ _ _,by dsimp only;decide,vO,by dsimp only;omega,by dsimp only;omega⟩ ⟨U,U,U,U,U,U,trivial⟩ (fun _ hm=>(hm.more U (by first|omega|(dsimp only;omega))).pick [4] [1,0,2,3] [] U U)
 rintro ⟨b3,v3,nn3,xs3,pF,mi3,A3,n3,c3,on3,ov3⟩ cC
 replace cC:nn3=(ap (ap (ap [] b1 ⟨mU,mi1,A1,n1,c1,on1,ov1⟩) b2 ⟨nK,mi2,A2,n2,c2,on2,ov2⟩) b3 ⟨pF,mi3,A3,n3,c3,on3,ov3⟩).length/\xs3=(ap (ap (ap [] b1 ⟨mU,mi1,A1,n1,c1,on1,ov1⟩) b2 ⟨nK,mi2,A2,n2,c2,on2,ov2⟩) b3 ⟨pF,mi3,A3,n3,c3,on3,ov3⟩).flatMap jT/\pF.size<=100/\on3.length=n3/\n3<=5/\nn3<=3:=cC
 dsimp only
 refine bI ?_
 obtain ⟨hT3,rfl,hk3,ho3,hm3,hb3⟩:=cC
 refine eD (R:=∃A cc,v3= .slice A nn3 cc) (fun wx hm=>dS (hm.ownI 0 U)) ?_
 rintro ⟨A,c,rfl⟩
 refine gN U U (bL 44 (v':= .int .i64 3) U U (bP U (bE (hW (eB (bS (bB (dD U U) U (bL 13 (v':= .bool false) U (fH5 (by decide)) (bR (bH (jU U (dE (bF (bF (bY (bD (bH (bS (bP U (bB (dT bK0 U) U (bB (eJ U U) U (bP U ?_))))))))))))))))))))))
 rcases Bool.eq_false_or_eq_true (decide (0 < ((nn3:Nat):Int))) with hb|hb
 ·refine bL 48 U (fH5 hb) ?_
  have hk0:0 < nn3:=by simpa using hb
  refine eG U (bP U (eG U (dM (γ:=Bool) (val:=fun v=> .bool v) (φ:=fun v=>True) U xV U U U U (fun wx hm=>((jZ _ wx B sb _ hm.k (by omega) (by omega) (by omega)).mono fun _ _ ⟨v,he,hS,hg⟩=>⟨v,trivial,he,hS,hg⟩)) fun f29 _=>mQ U U (bR ?_))))
  refine dC U (fun hh=>?_) (fun hh=>?_)
  ·have hf:f29=true:=by simpa using hh
   refine bS ?_
   refine eD (R:=∃g,A=some ⟨g,0,none⟩) (fun wx hm=>bL5 (hm.ownI 0 U) hk0) ?_
   rintro ⟨bo,rfl⟩
   refine bP U (bP U (bP U (bB (dT bK0 U) U (dM (γ:=Int) (val:=fun v=> .int .i64 v) (φ:=fun v=>mW ((nn3:Nat):Int) v) U bR9 U U U U (fun wx hm=>(mN _ wx B sb _ hm.k (by omega) (by omega) (by omega))) fun vj hvj=>?_))))
   have hj:=rE hvj (by omega)
   obtain ⟨j,rfl⟩:=Int.eq_ofNat_of_zero_le hj.1
   have hjn:j < nn3:=by omega
   obtain ⟨y,hy⟩:∃y,(ap (ap (ap [] b1 ⟨mU,mi1,A1,n1,c1,on1,ov1⟩) b2 ⟨nK,mi2,A2,n2,c2,on2,ov2⟩) b3 ⟨pF,mi3,A3,n3,c3,on3,ov3⟩)[j]?=some y:=⟨_,fJ5 (by omega)⟩
   rcases eD9 hy with ⟨rfl,hz⟩|⟨rfl,hz⟩|⟨rfl,hz⟩
   ·refine bB (bT (j:=j) bK0 U U (by omega)) U ?_
    refine bZ U (bR (bS (bP U (dM (γ:=Int) (val:=fun v=> .int .i64 v) (φ:=fun v=>mW 3 v) U bR9 U U U U (fun wx hm=>(mN _ wx B sb _ hm.k (by omega) (by omega) (by omega))) fun vs hvs=>bR (bO (bS (bB (eN U U) U (bZ U (bR ?_)))))))))
    refine cE U (fun h0=>?_) (fun h0=>?_)
    ·refine bI (bP U (bP U ?_))
     refine jF 9 [.string ⟨#[]⟩,.string ⟨#[99,105,116,121]⟩,.string ⟨#[65]⟩] fun g30=>dM (γ:=ByteArray) (val:=fun v=> .string v) (φ:=fun v=>v∈([⟨#[]⟩,⟨#[99,105,116,121]⟩,⟨#[65]⟩]:List ByteArray)) U rS U U U U (fun wx hm=>(gV [⟨#[]⟩,⟨#[99,105,116,121]⟩,⟨#[65]⟩] _ _ _ wx B sb _ hm.k (by omega) (by simp) (by simp) (hm.blkI 0 U) (hm.neRow 0 U U))) fun sn zJ=>?_
     have zsn:sn.size<=100:=kG zJ (by decide)
     refine bB (bX U) U (dW vM U U (gK (l:=(ap (ap (ap [] b1 ⟨mU,mi1,A1,n1,c1,on1,ov1⟩) b2 ⟨nK,mi2,A2,n2,c2,on2,ov2⟩) b3 ⟨pF,mi3,A3,n3,c3,on3,ov3⟩)) (j:=j) (r:=0) (el:=⟨mU,mi1,A1,n1,c1,on1,ov1⟩) (el':=⟨sn,mi1,A1,n1,c1,on1,ov1⟩) 0 fE U U U U fW U hy hT3.symm (show 0 < 4 by decide) U U (bE (bG (bD (bS (bP U (bZ U (bR (bM ?_))))))))))
     exact bK U U fun wx hm=>⟨some ⟨bo,0,none⟩,nn3,c,((ap (ap (ap [] b1 ⟨mU,mi1,A1,n1,c1,on1,ov1⟩) b2 ⟨nK,mi2,A2,n2,c2,on2,ov2⟩) b3 ⟨pF,mi3,A3,n3,c3,on3,ov3⟩).set j ⟨sn,mi1,A1,n1,c1,on1,ov1⟩),U,SlT.ofOwn fW (hm.ownI 0 U) (by simpa using hT3.symm),nO (hz _) (SlT.ofOwn fM (hm.ownI 3 U) ho1) (SlT.ofOwn fM (hm.ownI 2 U) ho2) (SlT.ofOwn fM (hm.ownI 1 U) ho3),rN (hz _) (show jG _ from ⟨(by omega:(sn:ByteArray).size<=1000000),(by omega:n1<=1000)⟩) (show jG _ from ⟨(by omega:(nK:ByteArray).size<=1000000),(by omega:n2<=1000)⟩) (show jG _ from ⟨(by omega:(pF:ByteArray).size<=1000000),(by omega:n3<=1000)⟩),by omega,jA (hm.ownI 0 rfl),hm.k.more (by omega),hm.g⟩
    refine bS (bB (eN U U) U (bZ U (bR ?_)))
    refine cE U (fun h1=>?_) (fun h1=>?_)
    ·refine bI (bP U (bP U ?_))
     refine dM (γ:=Int) (val:=fun v=> .int .i64 v) (φ:=fun v=> -2000000000000000<=v/\v<=2000000000000000) U bO3 U U U U (fun wx hm=>(mI _ _ wx B sb _ hm.k (by omega) (by omega) (by omega) (by omega))) fun v31 hv31=>bB (bX U) U (dW bW4 U U (gK (l:=(ap (ap (ap [] b1 ⟨mU,mi1,A1,n1,c1,on1,ov1⟩) b2 ⟨nK,mi2,A2,n2,c2,on2,ov2⟩) b3 ⟨pF,mi3,A3,n3,c3,on3,ov3⟩)) (j:=j) (r:=1) (el:=⟨mU,mi1,A1,n1,c1,on1,ov1⟩) (el':=⟨mU,v31,A1,n1,c1,on1,ov1⟩) 0 fF U U U U fW U hy hT3.symm (show 1 < 4 by decide) U U (bE (bG (bD (bS (bP U (bZ U (bR (bM ?_))))))))))
     exact bK U U fun wx hm=>⟨some ⟨bo,0,none⟩,nn3,c,((ap (ap (ap [] b1 ⟨mU,mi1,A1,n1,c1,on1,ov1⟩) b2 ⟨nK,mi2,A2,n2,c2,on2,ov2⟩) b3 ⟨pF,mi3,A3,n3,c3,on3,ov3⟩).set j ⟨mU,v31,A1,n1,c1,on1,ov1⟩),U,SlT.ofOwn fW (hm.ownI 0 U) (by simpa using hT3.symm),nO (hz _) (SlT.ofOwn fM (hm.ownI 3 U) ho1) (SlT.ofOwn fM (hm.ownI 2 U) ho2) (SlT.ofOwn fM (hm.ownI 1 U) ho3),rN (hz _) (show jG _ from ⟨(by omega:(mU:ByteArray).size<=1000000),(by omega:n1<=1000)⟩) (show jG _ from ⟨(by omega:(nK:ByteArray).size<=1000000),(by omega:n2<=1000)⟩) (show jG _ from ⟨(by omega:(pF:ByteArray).size<=1000000),(by omega:n3<=1000)⟩),by omega,jA (hm.ownI 0 rfl),hm.k.more (by omega),hm.g⟩
    refine gd (fun wz=>True) mixed (fun _ _=>trivial) fun z=>wq 0 U (bJ U) (wq 1 U (bJ U) (wq 2 U (bX U) (wq 3 U (bQ kC U U) (wq 5 U (bJ U) ?_))))
    refine kK [4,6] (by kernel_rfl) U ⟨⟨_,U,?_⟩,⟨_,U,?_⟩,trivial⟩
    ·refine bB (dL (k:=2) (v:= .slice A1 n1 c1) mB U (fun _ hm=>(SlT.ofOwn fW (hm.ownI 0 U) hT3.symm)) hy U U) U ?_
     refine bE (nw 13 63 (fun _ _=>trivial) fun z=>eC 6 U (jF 3 [.int .i64 0,.int .i64 5,.int .i64 6,.int .i64 7,.int .i64 1] fun g32=>bE (nw 13 127 (fun _ _=>trivial) fun z=>eC 7 U (dM (γ:=Int) (val:=fun v=> .int .i64 v) (φ:=fun v=>v∈([0,5,6,7,1]:List Int)) U pP U U U U (fun wx hm=>(eT [0,5,6,7,1] _ _ _ wx B sb _ hm.k (by omega) (by simp) (by simp) (hm.blkI 0 U) (hm.neRow 0 U U))) fun v33 hv33=>?_))))
     have bv33:0<=v33/\v33<=7:=gQ hv33 (by decide)
     have bv330:=bv33.1
     have bv331:=bv33.2
     clear bv33
     refine bE (nw 13 255 (fun _ _=>trivial) fun z=>eC 8 U (jF 3 [.int .i64 v33] fun g34=>bE (nw 13 511 (fun _ _=>trivial) fun z=>eC 9 U (eF (news:= [.int .i64 v33]) 3 0 bO2 U U U U U U U (by omega) (by unfold maxLen;omega) U U fun va hva=>?_))))
     refine eD (R:=∃A cc,va= .slice A (n1+1) cc) (fun wx hm=>dS (hm.ownI 3 U)) ?_
     rintro ⟨Aa,ca,rfl⟩
     refine bE (nw 13 1023 (fun _ _=>trivial) fun z=>wq 10 U (bX U) (wq 11 U (bQ kC U U) (eC 12 U (gK (l:=(ap (ap (ap [] b1 ⟨mU,mi1,A1,n1,c1,on1,ov1⟩) b2 ⟨nK,mi2,A2,n2,c2,on2,ov2⟩) b3 ⟨pF,mi3,A3,n3,c3,on3,ov3⟩)) (j:=j) (r:=2) (el:=⟨mU,mi1,A1,n1,c1,on1,ov1⟩) (el':=⟨mU,mi1,Aa,n1+1,ca,on1++ [v33],ov1⟩) 0 mB U U U U fW U hy hT3.symm (show 2 < 4 by decide) U U (bE (nw 13 8191 (fun _ _=>trivial) fun z=>jH (bG (bD (bS (bP U (bZ U (bR (bM ?_)))))))))))))
     exact bK U U fun wx hm=>⟨some ⟨bo,0,none⟩,nn3,c,((ap (ap (ap [] b1 ⟨mU,mi1,A1,n1,c1,on1,ov1⟩) b2 ⟨nK,mi2,A2,n2,c2,on2,ov2⟩) b3 ⟨pF,mi3,A3,n3,c3,on3,ov3⟩).set j ⟨mU,mi1,Aa,n1+1,ca,on1++ [v33],ov1⟩),U,SlT.ofOwn fW (hm.ownI 0 U) (by simpa using hT3.symm),nO (hz _) (pG (hm.ownI 3 U) ho1) (SlT.ofOwn fM (hm.ownI 2 U) ho2) (SlT.ofOwn fM (hm.ownI 1 U) ho3),rN (hz _) (show jG _ from ⟨(by omega:(mU:ByteArray).size<=1000000),(by omega:n1+1<=1000)⟩) (show jG _ from ⟨(by omega:(nK:ByteArray).size<=1000000),(by omega:n2<=1000)⟩) (show jG _ from ⟨(by omega:(pF:ByteArray).size<=1000000),(by omega:n3<=1000)⟩),by omega,jA (hm.ownI 0 rfl),hm.k.more (by omega),hm.g⟩
    refine jF 3 [.int .i64 0,.int .i64 5,.int .i64 6,.int .i64 7,.int .i64 1] fun g35=>bE (nw 13 111 (fun _ _=>trivial) fun z=>?_)
    refine kK [4,7] (by kernel_rfl) U ⟨⟨_,U,?_⟩,⟨_,U,?_⟩,trivial⟩
    ·refine bB (dL (k:=2) (v:= .slice A1 n1 c1) mB U (fun _ hm=>(SlT.ofOwn fW (hm.ownI 0 U) hT3.symm)) hy U U) U ?_
     refine bE (nw 13 127 (fun _ _=>trivial) fun z=>eC 7 U (dM (γ:=Int) (val:=fun v=> .int .i64 v) (φ:=fun v=>v∈([0,5,6,7,1]:List Int)) U pP U U U U (fun wx hm=>(eT [0,5,6,7,1] _ _ _ wx B sb _ hm.k (by omega) (by simp) (by simp) (hm.blkI 0 U) (hm.neRow 0 U U))) fun v36 hv36=>?_))
     have bv36:0<=v36/\v36<=7:=gQ hv36 (by decide)
     have bv360:=bv36.1
     have bv361:=bv36.2
     clear bv36
     refine bE (nw 13 255 (fun _ _=>trivial) fun z=>eC 8 U (jF 3 [.int .i64 v36] fun g37=>bE (nw 13 511 (fun _ _=>trivial) fun z=>eC 9 U (eF (news:= [.int .i64 v36]) 3 0 bO2 U U U U U U U (by omega) (by unfold maxLen;omega) U U fun va hva=>?_))))
     refine eD (R:=∃A cc,va= .slice A (n1+1) cc) (fun wx hm=>dS (hm.ownI 3 U)) ?_
     rintro ⟨Aa,ca,rfl⟩
     refine bE (nw 13 1023 (fun _ _=>trivial) fun z=>wq 10 U (bX U) (wq 11 U (bQ kC U U) (eC 12 U (gK (l:=(ap (ap (ap [] b1 ⟨mU,mi1,A1,n1,c1,on1,ov1⟩) b2 ⟨nK,mi2,A2,n2,c2,on2,ov2⟩) b3 ⟨pF,mi3,A3,n3,c3,on3,ov3⟩)) (j:=j) (r:=2) (el:=⟨mU,mi1,A1,n1,c1,on1,ov1⟩) (el':=⟨mU,mi1,Aa,n1+1,ca,on1++ [v36],ov1⟩) 0 mB U U U U fW U hy hT3.symm (show 2 < 4 by decide) U U (bE (nw 13 8191 (fun _ _=>trivial) fun z=>jH (bG (bD (bS (bP U (bZ U (bR (bM ?_)))))))))))))
     exact bK U U fun wx hm=>⟨some ⟨bo,0,none⟩,nn3,c,((ap (ap (ap [] b1 ⟨mU,mi1,A1,n1,c1,on1,ov1⟩) b2 ⟨nK,mi2,A2,n2,c2,on2,ov2⟩) b3 ⟨pF,mi3,A3,n3,c3,on3,ov3⟩).set j ⟨mU,mi1,Aa,n1+1,ca,on1++ [v36],ov1⟩),U,SlT.ofOwn fW (hm.ownI 0 U) (by simpa using hT3.symm),nO (hz _) (pG (hm.ownI 3 U) ho1) (SlT.ofOwn fM (hm.ownI 2 U) ho2) (SlT.ofOwn fM (hm.ownI 1 U) ho3),rN (hz _) (show jG _ from ⟨(by omega:(mU:ByteArray).size<=1000000),(by omega:n1+1<=1000)⟩) (show jG _ from ⟨(by omega:(nK:ByteArray).size<=1000000),(by omega:n2<=1000)⟩) (show jG _ from ⟨(by omega:(pF:ByteArray).size<=1000000),(by omega:n3<=1000)⟩),by omega,jA (hm.ownI 0 rfl),hm.k.more (by omega),hm.g⟩
    refine dM (γ:=Int) (val:=fun v=> .int .i64 v) (φ:=fun v=>v∈([0,5,6,7,1]:List Int)) U pP U U U U (fun wx hm=>(eT [0,5,6,7,1] _ _ _ wx B sb _ hm.k (by omega) (by simp) (by simp) (hm.blkI 0 U) (hm.neRow 0 U U))) fun v38 hv38=>?_
    have bv38:0<=v38/\v38<=7:=gQ hv38 (by decide)
    have bv380:=bv38.1
    have bv381:=bv38.2
    clear bv38
    refine bE (nw 13 239 (fun _ _=>trivial) fun z=>?_)
    refine kK [4,8] (by kernel_rfl) U ⟨⟨_,U,?_⟩,⟨_,U,?_⟩,trivial⟩
    ·refine bB (dL (k:=2) (v:= .slice A1 n1 c1) mB U (fun _ hm=>(SlT.ofOwn fW (hm.ownI 0 U) hT3.symm)) hy U U) U ?_
     refine bE (nw 13 255 (fun _ _=>trivial) fun z=>eC 8 U (jF 3 [.int .i64 v38] fun g39=>bE (nw 13 511 (fun _ _=>trivial) fun z=>eC 9 U (eF (news:= [.int .i64 v38]) 3 0 bO2 U U U U U U U (by omega) (by unfold maxLen;omega) U U fun va hva=>?_))))
     refine eD (R:=∃A cc,va= .slice A (n1+1) cc) (fun wx hm=>dS (hm.ownI 3 U)) ?_
     rintro ⟨Aa,ca,rfl⟩
     refine bE (nw 13 1023 (fun _ _=>trivial) fun z=>wq 10 U (bX U) (wq 11 U (bQ kC U U) (eC 12 U (gK (l:=(ap (ap (ap [] b1 ⟨mU,mi1,A1,n1,c1,on1,ov1⟩) b2 ⟨nK,mi2,A2,n2,c2,on2,ov2⟩) b3 ⟨pF,mi3,A3,n3,c3,on3,ov3⟩)) (j:=j) (r:=2) (el:=⟨mU,mi1,A1,n1,c1,on1,ov1⟩) (el':=⟨mU,mi1,Aa,n1+1,ca,on1++ [v38],ov1⟩) 0 mB U U U U fW U hy hT3.symm (show 2 < 4 by decide) U U (bE (nw 13 8191 (fun _ _=>trivial) fun z=>jH (bG (bD (bS (bP U (bZ U (bR (bM ?_)))))))))))))
     exact bK U U fun wx hm=>⟨some ⟨bo,0,none⟩,nn3,c,((ap (ap (ap [] b1 ⟨mU,mi1,A1,n1,c1,on1,ov1⟩) b2 ⟨nK,mi2,A2,n2,c2,on2,ov2⟩) b3 ⟨pF,mi3,A3,n3,c3,on3,ov3⟩).set j ⟨mU,mi1,Aa,n1+1,ca,on1++ [v38],ov1⟩),U,SlT.ofOwn fW (hm.ownI 0 U) (by simpa using hT3.symm),nO (hz _) (pG (hm.ownI 3 U) ho1) (SlT.ofOwn fM (hm.ownI 2 U) ho2) (SlT.ofOwn fM (hm.ownI 1 U) ho3),rN (hz _) (show jG _ from ⟨(by omega:(mU:ByteArray).size<=1000000),(by omega:n1+1<=1000)⟩) (show jG _ from ⟨(by omega:(nK:ByteArray).size<=1000000),(by omega:n2<=1000)⟩) (show jG _ from ⟨(by omega:(pF:ByteArray).size<=1000000),(by omega:n3<=1000)⟩),by omega,jA (hm.ownI 0 rfl),hm.k.more (by omega),hm.g⟩
    refine jF 3 [.int .i64 v38] fun g40=>bE (nw 13 495 (fun _ _=>trivial) fun z=>eC 4 U (bB (dL (k:=2) (v:= .slice A1 n1 c1) mB U (fun _ hm=>(SlT.ofOwn fW (hm.ownI 0 U) hT3.symm)) hy U U) U (bE (nw 13 511 (fun _ _=>trivial) fun z=>eC 9 U (eF (news:= [.int .i64 v38]) 3 0 bO2 U U U U U U U (by omega) (by unfold maxLen;omega) U U fun va hva=>?_)))))
    refine eD (R:=∃A cc,va= .slice A (n1+1) cc) (fun wx hm=>dS (hm.ownI 3 U)) ?_
    rintro ⟨Aa,ca,rfl⟩
    refine bE (nw 13 1023 (fun _ _=>trivial) fun z=>wq 10 U (bX U) (wq 11 U (bQ kC U U) (eC 12 U (gK (l:=(ap (ap (ap [] b1 ⟨mU,mi1,A1,n1,c1,on1,ov1⟩) b2 ⟨nK,mi2,A2,n2,c2,on2,ov2⟩) b3 ⟨pF,mi3,A3,n3,c3,on3,ov3⟩)) (j:=j) (r:=2) (el:=⟨mU,mi1,A1,n1,c1,on1,ov1⟩) (el':=⟨mU,mi1,Aa,n1+1,ca,on1++ [v38],ov1⟩) 0 mB U U U U fW U hy hT3.symm (show 2 < 4 by decide) U U (bE (nw 13 8191 (fun _ _=>trivial) fun z=>jH (bG (bD (bS (bP U (bZ U (bR (bM ?_)))))))))))))
    exact bK U U fun wx hm=>⟨some ⟨bo,0,none⟩,nn3,c,((ap (ap (ap [] b1 ⟨mU,mi1,A1,n1,c1,on1,ov1⟩) b2 ⟨nK,mi2,A2,n2,c2,on2,ov2⟩) b3 ⟨pF,mi3,A3,n3,c3,on3,ov3⟩).set j ⟨mU,mi1,Aa,n1+1,ca,on1++ [v38],ov1⟩),U,SlT.ofOwn fW (hm.ownI 0 U) (by simpa using hT3.symm),nO (hz _) (pG (hm.ownI 3 U) ho1) (SlT.ofOwn fM (hm.ownI 2 U) ho2) (SlT.ofOwn fM (hm.ownI 1 U) ho3),rN (hz _) (show jG _ from ⟨(by omega:(mU:ByteArray).size<=1000000),(by omega:n1+1<=1000)⟩) (show jG _ from ⟨(by omega:(nK:ByteArray).size<=1000000),(by omega:n2<=1000)⟩) (show jG _ from ⟨(by omega:(pF:ByteArray).size<=1000000),(by omega:n3<=1000)⟩),by omega,jA (hm.ownI 0 rfl),hm.k.more (by omega),hm.g⟩
   ·refine bB (bT (j:=j) bK0 U U (by omega)) U ?_
    refine bZ U (bR (bS (bP U (dM (γ:=Int) (val:=fun v=> .int .i64 v) (φ:=fun v=>mW 3 v) U bR9 U U U U (fun wx hm=>(mN _ wx B sb _ hm.k (by omega) (by omega) (by omega))) fun vs hvs=>bR (bO (bS (bB (eN U U) U (bZ U (bR ?_)))))))))
    refine cE U (fun h0=>?_) (fun h0=>?_)
    ·refine bI (bP U (bP U ?_))
     refine jF 9 [.string ⟨#[]⟩,.string ⟨#[99,105,116,121]⟩,.string ⟨#[65]⟩] fun g41=>dM (γ:=ByteArray) (val:=fun v=> .string v) (φ:=fun v=>v∈([⟨#[]⟩,⟨#[99,105,116,121]⟩,⟨#[65]⟩]:List ByteArray)) U rS U U U U (fun wx hm=>(gV [⟨#[]⟩,⟨#[99,105,116,121]⟩,⟨#[65]⟩] _ _ _ wx B sb _ hm.k (by omega) (by simp) (by simp) (hm.blkI 0 U) (hm.neRow 0 U U))) fun sn zJ=>?_
     have zsn:sn.size<=100:=kG zJ (by decide)
     refine bB (bX U) U (dW vM U U (gK (l:=(ap (ap (ap [] b1 ⟨mU,mi1,A1,n1,c1,on1,ov1⟩) b2 ⟨nK,mi2,A2,n2,c2,on2,ov2⟩) b3 ⟨pF,mi3,A3,n3,c3,on3,ov3⟩)) (j:=j) (r:=0) (el:=⟨nK,mi2,A2,n2,c2,on2,ov2⟩) (el':=⟨sn,mi2,A2,n2,c2,on2,ov2⟩) 0 fE U U U U fW U hy hT3.symm (show 0 < 4 by decide) U U (bE (bG (bD (bS (bP U (bZ U (bR (bM ?_))))))))))
     exact bK U U fun wx hm=>⟨some ⟨bo,0,none⟩,nn3,c,((ap (ap (ap [] b1 ⟨mU,mi1,A1,n1,c1,on1,ov1⟩) b2 ⟨nK,mi2,A2,n2,c2,on2,ov2⟩) b3 ⟨pF,mi3,A3,n3,c3,on3,ov3⟩).set j ⟨sn,mi2,A2,n2,c2,on2,ov2⟩),U,SlT.ofOwn fW (hm.ownI 0 U) (by simpa using hT3.symm),nO (hz _) (SlT.ofOwn fM (hm.ownI 3 U) ho1) (SlT.ofOwn fM (hm.ownI 2 U) ho2) (SlT.ofOwn fM (hm.ownI 1 U) ho3),rN (hz _) (show jG _ from ⟨(by omega:(mU:ByteArray).size<=1000000),(by omega:n1<=1000)⟩) (show jG _ from ⟨(by omega:(sn:ByteArray).size<=1000000),(by omega:n2<=1000)⟩) (show jG _ from ⟨(by omega:(pF:ByteArray).size<=1000000),(by omega:n3<=1000)⟩),by omega,jA (hm.ownI 0 rfl),hm.k.more (by omega),hm.g⟩
    refine bS (bB (eN U U) U (bZ U (bR ?_)))
    refine cE U (fun h1=>?_) (fun h1=>?_)
    ·refine bI (bP U (bP U ?_))
     refine dM (γ:=Int) (val:=fun v=> .int .i64 v) (φ:=fun v=> -2000000000000000<=v/\v<=2000000000000000) U bO3 U U U U (fun wx hm=>(mI _ _ wx B sb _ hm.k (by omega) (by omega) (by omega) (by omega))) fun v42 hv42=>bB (bX U) U (dW bW4 U U (gK (l:=(ap (ap (ap [] b1 ⟨mU,mi1,A1,n1,c1,on1,ov1⟩) b2 ⟨nK,mi2,A2,n2,c2,on2,ov2⟩) b3 ⟨pF,mi3,A3,n3,c3,on3,ov3⟩)) (j:=j) (r:=1) (el:=⟨nK,mi2,A2,n2,c2,on2,ov2⟩) (el':=⟨nK,v42,A2,n2,c2,on2,ov2⟩) 0 fF U U U U fW U hy hT3.symm (show 1 < 4 by decide) U U (bE (bG (bD (bS (bP U (bZ U (bR (bM ?_))))))))))
     exact bK U U fun wx hm=>⟨some ⟨bo,0,none⟩,nn3,c,((ap (ap (ap [] b1 ⟨mU,mi1,A1,n1,c1,on1,ov1⟩) b2 ⟨nK,mi2,A2,n2,c2,on2,ov2⟩) b3 ⟨pF,mi3,A3,n3,c3,on3,ov3⟩).set j ⟨nK,v42,A2,n2,c2,on2,ov2⟩),U,SlT.ofOwn fW (hm.ownI 0 U) (by simpa using hT3.symm),nO (hz _) (SlT.ofOwn fM (hm.ownI 3 U) ho1) (SlT.ofOwn fM (hm.ownI 2 U) ho2) (SlT.ofOwn fM (hm.ownI 1 U) ho3),rN (hz _) (show jG _ from ⟨(by omega:(mU:ByteArray).size<=1000000),(by omega:n1<=1000)⟩) (show jG _ from ⟨(by omega:(nK:ByteArray).size<=1000000),(by omega:n2<=1000)⟩) (show jG _ from ⟨(by omega:(pF:ByteArray).size<=1000000),(by omega:n3<=1000)⟩),by omega,jA (hm.ownI 0 rfl),hm.k.more (by omega),hm.g⟩
    refine gd (fun wz=>True) mixed (fun _ _=>trivial) fun z=>wq 0 U (bJ U) (wq 1 U (bJ U) (wq 2 U (bX U) (wq 3 U (bQ kC U U) (wq 5 U (bJ U) ?_))))
    refine kK [4,6] (by kernel_rfl) U ⟨⟨_,U,?_⟩,⟨_,U,?_⟩,trivial⟩
    ·refine bB (dL (k:=2) (v:= .slice A2 n2 c2) mB U (fun _ hm=>(SlT.ofOwn fW (hm.ownI 0 U) hT3.symm)) hy U U) U ?_
     refine bE (nw 13 63 (fun _ _=>trivial) fun z=>eC 6 U (jF 3 [.int .i64 0,.int .i64 5,.int .i64 6,.int .i64 7,.int .i64 1] fun g43=>bE (nw 13 127 (fun _ _=>trivial) fun z=>eC 7 U (dM (γ:=Int) (val:=fun v=> .int .i64 v) (φ:=fun v=>v∈([0,5,6,7,1]:List Int)) U pP U U U U (fun wx hm=>(eT [0,5,6,7,1] _ _ _ wx B sb _ hm.k (by omega) (by simp) (by simp) (hm.blkI 0 U) (hm.neRow 0 U U))) fun v44 hv44=>?_))))
     have bv44:0<=v44/\v44<=7:=gQ hv44 (by decide)
     have bv440:=bv44.1
     have bv441:=bv44.2
     clear bv44
     refine bE (nw 13 255 (fun _ _=>trivial) fun z=>eC 8 U (jF 3 [.int .i64 v44] fun g45=>bE (nw 13 511 (fun _ _=>trivial) fun z=>eC 9 U (eF (news:= [.int .i64 v44]) 2 0 bO2 U U U U U U U (by omega) (by unfold maxLen;omega) U U fun va hva=>?_))))
     refine eD (R:=∃A cc,va= .slice A (n2+1) cc) (fun wx hm=>dS (hm.ownI 2 U)) ?_
     rintro ⟨Aa,ca,rfl⟩
     refine bE (nw 13 1023 (fun _ _=>trivial) fun z=>wq 10 U (bX U) (wq 11 U (bQ kC U U) (eC 12 U (gK (l:=(ap (ap (ap [] b1 ⟨mU,mi1,A1,n1,c1,on1,ov1⟩) b2 ⟨nK,mi2,A2,n2,c2,on2,ov2⟩) b3 ⟨pF,mi3,A3,n3,c3,on3,ov3⟩)) (j:=j) (r:=2) (el:=⟨nK,mi2,A2,n2,c2,on2,ov2⟩) (el':=⟨nK,mi2,Aa,n2+1,ca,on2++ [v44],ov2⟩) 0 mB U U U U fW U hy hT3.symm (show 2 < 4 by decide) U U (bE (nw 13 8191 (fun _ _=>trivial) fun z=>jH (bG (bD (bS (bP U (bZ U (bR (bM ?_)))))))))))))
     exact bK U U fun wx hm=>⟨some ⟨bo,0,none⟩,nn3,c,((ap (ap (ap [] b1 ⟨mU,mi1,A1,n1,c1,on1,ov1⟩) b2 ⟨nK,mi2,A2,n2,c2,on2,ov2⟩) b3 ⟨pF,mi3,A3,n3,c3,on3,ov3⟩).set j ⟨nK,mi2,Aa,n2+1,ca,on2++ [v44],ov2⟩),U,SlT.ofOwn fW (hm.ownI 0 U) (by simpa using hT3.symm),nO (hz _) (SlT.ofOwn fM (hm.ownI 3 U) ho1) (pG (hm.ownI 2 U) ho2) (SlT.ofOwn fM (hm.ownI 1 U) ho3),rN (hz _) (show jG _ from ⟨(by omega:(mU:ByteArray).size<=1000000),(by omega:n1<=1000)⟩) (show jG _ from ⟨(by omega:(nK:ByteArray).size<=1000000),(by omega:n2+1<=1000)⟩) (show jG _ from ⟨(by omega:(pF:ByteArray).size<=1000000),(by omega:n3<=1000)⟩),by omega,jA (hm.ownI 0 rfl),hm.k.more (by omega),hm.g⟩
    refine jF 3 [.int .i64 0,.int .i64 5,.int .i64 6,.int .i64 7,.int .i64 1] fun g46=>bE (nw 13 111 (fun _ _=>trivial) fun z=>?_)
    refine kK [4,7] (by kernel_rfl) U ⟨⟨_,U,?_⟩,⟨_,U,?_⟩,trivial⟩
    ·refine bB (dL (k:=2) (v:= .slice A2 n2 c2) mB U (fun _ hm=>(SlT.ofOwn fW (hm.ownI 0 U) hT3.symm)) hy U U) U ?_
     refine bE (nw 13 127 (fun _ _=>trivial) fun z=>eC 7 U (dM (γ:=Int) (val:=fun v=> .int .i64 v) (φ:=fun v=>v∈([0,5,6,7,1]:List Int)) U pP U U U U (fun wx hm=>(eT [0,5,6,7,1] _ _ _ wx B sb _ hm.k (by omega) (by simp) (by simp) (hm.blkI 0 U) (hm.neRow 0 U U))) fun v47 hv47=>?_))
     have bv47:0<=v47/\v47<=7:=gQ hv47 (by decide)
     have bv470:=bv47.1
     have bv471:=bv47.2
     clear bv47
     refine bE (nw 13 255 (fun _ _=>trivial) fun z=>eC 8 U (jF 3 [.int .i64 v47] fun g48=>bE (nw 13 511 (fun _ _=>trivial) fun z=>eC 9 U (eF (news:= [.int .i64 v47]) 2 0 bO2 U U U U U U U (by omega) (by unfold maxLen;omega) U U fun va hva=>?_))))
     refine eD (R:=∃A cc,va= .slice A (n2+1) cc) (fun wx hm=>dS (hm.ownI 2 U)) ?_
     rintro ⟨Aa,ca,rfl⟩
     refine bE (nw 13 1023 (fun _ _=>trivial) fun z=>wq 10 U (bX U) (wq 11 U (bQ kC U U) (eC 12 U (gK (l:=(ap (ap (ap [] b1 ⟨mU,mi1,A1,n1,c1,on1,ov1⟩) b2 ⟨nK,mi2,A2,n2,c2,on2,ov2⟩) b3 ⟨pF,mi3,A3,n3,c3,on3,ov3⟩)) (j:=j) (r:=2) (el:=⟨nK,mi2,A2,n2,c2,on2,ov2⟩) (el':=⟨nK,mi2,Aa,n2+1,ca,on2++ [v47],ov2⟩) 0 mB U U U U fW U hy hT3.symm (show 2 < 4 by decide) U U (bE (nw 13 8191 (fun _ _=>trivial) fun z=>jH (bG (bD (bS (bP U (bZ U (bR (bM ?_)))))))))))))
     exact bK U U fun wx hm=>⟨some ⟨bo,0,none⟩,nn3,c,((ap (ap (ap [] b1 ⟨mU,mi1,A1,n1,c1,on1,ov1⟩) b2 ⟨nK,mi2,A2,n2,c2,on2,ov2⟩) b3 ⟨pF,mi3,A3,n3,c3,on3,ov3⟩).set j ⟨nK,mi2,Aa,n2+1,ca,on2++ [v47],ov2⟩),U,SlT.ofOwn fW (hm.ownI 0 U) (by simpa using hT3.symm),nO (hz _) (SlT.ofOwn fM (hm.ownI 3 U) ho1) (pG (hm.ownI 2 U) ho2) (SlT.ofOwn fM (hm.ownI 1 U) ho3),rN (hz _) (show jG _ from ⟨(by omega:(mU:ByteArray).size<=1000000),(by omega:n1<=1000)⟩) (show jG _ from ⟨(by omega:(nK:ByteArray).size<=1000000),(by omega:n2+1<=1000)⟩) (show jG _ from ⟨(by omega:(pF:ByteArray).size<=1000000),(by omega:n3<=1000)⟩),by omega,jA (hm.ownI 0 rfl),hm.k.more (by omega),hm.g⟩
    refine dM (γ:=Int) (val:=fun v=> .int .i64 v) (φ:=fun v=>v∈([0,5,6,7,1]:List Int)) U pP U U U U (fun wx hm=>(eT [0,5,6,7,1] _ _ _ wx B sb _ hm.k (by omega) (by simp) (by simp) (hm.blkI 0 U) (hm.neRow 0 U U))) fun v49 hv49=>?_
    have bv49:0<=v49/\v49<=7:=gQ hv49 (by decide)
    have bv490:=bv49.1
    have bv491:=bv49.2
    clear bv49
    refine bE (nw 13 239 (fun _ _=>trivial) fun z=>?_)
    refine kK [4,8] (by kernel_rfl) U ⟨⟨_,U,?_⟩,⟨_,U,?_⟩,trivial⟩
    ·refine bB (dL (k:=2) (v:= .slice A2 n2 c2) mB U (fun _ hm=>(SlT.ofOwn fW (hm.ownI 0 U) hT3.symm)) hy U U) U ?_
     refine bE (nw 13 255 (fun _ _=>trivial) fun z=>eC 8 U (jF 3 [.int .i64 v49] fun g50=>bE (nw 13 511 (fun _ _=>trivial) fun z=>eC 9 U (eF (news:= [.int .i64 v49]) 2 0 bO2 U U U U U U U (by omega) (by unfold maxLen;omega) U U fun va hva=>?_))))
     refine eD (R:=∃A cc,va= .slice A (n2+1) cc) (fun wx hm=>dS (hm.ownI 2 U)) ?_
     rintro ⟨Aa,ca,rfl⟩
     refine bE (nw 13 1023 (fun _ _=>trivial) fun z=>wq 10 U (bX U) (wq 11 U (bQ kC U U) (eC 12 U (gK (l:=(ap (ap (ap [] b1 ⟨mU,mi1,A1,n1,c1,on1,ov1⟩) b2 ⟨nK,mi2,A2,n2,c2,on2,ov2⟩) b3 ⟨pF,mi3,A3,n3,c3,on3,ov3⟩)) (j:=j) (r:=2) (el:=⟨nK,mi2,A2,n2,c2,on2,ov2⟩) (el':=⟨nK,mi2,Aa,n2+1,ca,on2++ [v49],ov2⟩) 0 mB U U U U fW U hy hT3.symm (show 2 < 4 by decide) U U (bE (nw 13 8191 (fun _ _=>trivial) fun z=>jH (bG (bD (bS (bP U (bZ U (bR (bM ?_)))))))))))))
     exact bK U U fun wx hm=>⟨some ⟨bo,0,none⟩,nn3,c,((ap (ap (ap [] b1 ⟨mU,mi1,A1,n1,c1,on1,ov1⟩) b2 ⟨nK,mi2,A2,n2,c2,on2,ov2⟩) b3 ⟨pF,mi3,A3,n3,c3,on3,ov3⟩).set j ⟨nK,mi2,Aa,n2+1,ca,on2++ [v49],ov2⟩),U,SlT.ofOwn fW (hm.ownI 0 U) (by simpa using hT3.symm),nO (hz _) (SlT.ofOwn fM (hm.ownI 3 U) ho1) (pG (hm.ownI 2 U) ho2) (SlT.ofOwn fM (hm.ownI 1 U) ho3),rN (hz _) (show jG _ from ⟨(by omega:(mU:ByteArray).size<=1000000),(by omega:n1<=1000)⟩) (show jG _ from ⟨(by omega:(nK:ByteArray).size<=1000000),(by omega:n2+1<=1000)⟩) (show jG _ from ⟨(by omega:(pF:ByteArray).size<=1000000),(by omega:n3<=1000)⟩),by omega,jA (hm.ownI 0 rfl),hm.k.more (by omega),hm.g⟩
    refine jF 3 [.int .i64 v49] fun g51=>bE (nw 13 495 (fun _ _=>trivial) fun z=>eC 4 U (bB (dL (k:=2) (v:= .slice A2 n2 c2) mB U (fun _ hm=>(SlT.ofOwn fW (hm.ownI 0 U) hT3.symm)) hy U U) U (bE (nw 13 511 (fun _ _=>trivial) fun z=>eC 9 U (eF (news:= [.int .i64 v49]) 2 0 bO2 U U U U U U U (by omega) (by unfold maxLen;omega) U U fun va hva=>?_)))))
    refine eD (R:=∃A cc,va= .slice A (n2+1) cc) (fun wx hm=>dS (hm.ownI 2 U)) ?_
    rintro ⟨Aa,ca,rfl⟩
    refine bE (nw 13 1023 (fun _ _=>trivial) fun z=>wq 10 U (bX U) (wq 11 U (bQ kC U U) (eC 12 U (gK (l:=(ap (ap (ap [] b1 ⟨mU,mi1,A1,n1,c1,on1,ov1⟩) b2 ⟨nK,mi2,A2,n2,c2,on2,ov2⟩) b3 ⟨pF,mi3,A3,n3,c3,on3,ov3⟩)) (j:=j) (r:=2) (el:=⟨nK,mi2,A2,n2,c2,on2,ov2⟩) (el':=⟨nK,mi2,Aa,n2+1,ca,on2++ [v49],ov2⟩) 0 mB U U U U fW U hy hT3.symm (show 2 < 4 by decide) U U (bE (nw 13 8191 (fun _ _=>trivial) fun z=>jH (bG (bD (bS (bP U (bZ U (bR (bM ?_)))))))))))))
    exact bK U U fun wx hm=>⟨some ⟨bo,0,none⟩,nn3,c,((ap (ap (ap [] b1 ⟨mU,mi1,A1,n1,c1,on1,ov1⟩) b2 ⟨nK,mi2,A2,n2,c2,on2,ov2⟩) b3 ⟨pF,mi3,A3,n3,c3,on3,ov3⟩).set j ⟨nK,mi2,Aa,n2+1,ca,on2++ [v49],ov2⟩),U,SlT.ofOwn fW (hm.ownI 0 U) (by simpa using hT3.symm),nO (hz _) (SlT.ofOwn fM (hm.ownI 3 U) ho1) (pG (hm.ownI 2 U) ho2) (SlT.ofOwn fM (hm.ownI 1 U) ho3),rN (hz _) (show jG _ from ⟨(by omega:(mU:ByteArray).size<=1000000),(by omega:n1<=1000)⟩) (show jG _ from ⟨(by omega:(nK:ByteArray).size<=1000000),(by omega:n2+1<=1000)⟩) (show jG _ from ⟨(by omega:(pF:ByteArray).size<=1000000),(by omega:n3<=1000)⟩),by omega,jA (hm.ownI 0 rfl),hm.k.more (by omega),hm.g⟩
   refine bB (bT (j:=j) bK0 U U (by omega)) U (bZ U (bR (bS (bP U (dM (γ:=Int) (val:=fun v=> .int .i64 v) (φ:=fun v=>mW 3 v) U bR9 U U U U (fun wx hm=>(mN _ wx B sb _ hm.k (by omega) (by omega) (by omega))) fun vs hvs=>bR (bO (bS (bB (eN U U) U (bZ U (bR ?_))))))))))
   refine cE U (fun h0=>?_) (fun h0=>?_)
   ·refine bI (bP U (bP U ?_))
    refine jF 9 [.string ⟨#[]⟩,.string ⟨#[99,105,116,121]⟩,.string ⟨#[65]⟩] fun g52=>dM (γ:=ByteArray) (val:=fun v=> .string v) (φ:=fun v=>v∈([⟨#[]⟩,⟨#[99,105,116,121]⟩,⟨#[65]⟩]:List ByteArray)) U rS U U U U (fun wx hm=>(gV [⟨#[]⟩,⟨#[99,105,116,121]⟩,⟨#[65]⟩] _ _ _ wx B sb _ hm.k (by omega) (by simp) (by simp) (hm.blkI 0 U) (hm.neRow 0 U U))) fun sn zJ=>?_
    have zsn:sn.size<=100:=kG zJ (by decide)
    refine bB (bX U) U (dW vM U U (gK (l:=(ap (ap (ap [] b1 ⟨mU,mi1,A1,n1,c1,on1,ov1⟩) b2 ⟨nK,mi2,A2,n2,c2,on2,ov2⟩) b3 ⟨pF,mi3,A3,n3,c3,on3,ov3⟩)) (j:=j) (r:=0) (el:=⟨pF,mi3,A3,n3,c3,on3,ov3⟩) (el':=⟨sn,mi3,A3,n3,c3,on3,ov3⟩) 0 fE U U U U fW U hy hT3.symm (show 0 < 4 by decide) U U (bE (bG (bD (bS (bP U (bZ U (bR (bM ?_))))))))))
    exact bK U U fun wx hm=>⟨some ⟨bo,0,none⟩,nn3,c,((ap (ap (ap [] b1 ⟨mU,mi1,A1,n1,c1,on1,ov1⟩) b2 ⟨nK,mi2,A2,n2,c2,on2,ov2⟩) b3 ⟨pF,mi3,A3,n3,c3,on3,ov3⟩).set j ⟨sn,mi3,A3,n3,c3,on3,ov3⟩),U,SlT.ofOwn fW (hm.ownI 0 U) (by simpa using hT3.symm),nO (hz _) (SlT.ofOwn fM (hm.ownI 3 U) ho1) (SlT.ofOwn fM (hm.ownI 2 U) ho2) (SlT.ofOwn fM (hm.ownI 1 U) ho3),rN (hz _) (show jG _ from ⟨(by omega:(mU:ByteArray).size<=1000000),(by omega:n1<=1000)⟩) (show jG _ from ⟨(by omega:(nK:ByteArray).size<=1000000),(by omega:n2<=1000)⟩) (show jG _ from ⟨(by omega:(sn:ByteArray).size<=1000000),(by omega:n3<=1000)⟩),by omega,jA (hm.ownI 0 rfl),hm.k.more (by omega),hm.g⟩
   refine bS (bB (eN U U) U (bZ U (bR ?_)))
   refine cE U (fun h1=>?_) (fun h1=>?_)
   ·refine bI (bP U (bP U ?_))
    refine dM (γ:=Int) (val:=fun v=> .int .i64 v) (φ:=fun v=> -2000000000000000<=v/\v<=2000000000000000) U bO3 U U U U (fun wx hm=>(mI _ _ wx B sb _ hm.k (by omega) (by omega) (by omega) (by omega))) fun v53 hv53=>bB (bX U) U (dW bW4 U U (gK (l:=(ap (ap (ap [] b1 ⟨mU,mi1,A1,n1,c1,on1,ov1⟩) b2 ⟨nK,mi2,A2,n2,c2,on2,ov2⟩) b3 ⟨pF,mi3,A3,n3,c3,on3,ov3⟩)) (j:=j) (r:=1) (el:=⟨pF,mi3,A3,n3,c3,on3,ov3⟩) (el':=⟨pF,v53,A3,n3,c3,on3,ov3⟩) 0 fF U U U U fW U hy hT3.symm (show 1 < 4 by decide) U U (bE (bG (bD (bS (bP U (bZ U (bR (bM ?_))))))))))
    exact bK U U fun wx hm=>⟨some ⟨bo,0,none⟩,nn3,c,((ap (ap (ap [] b1 ⟨mU,mi1,A1,n1,c1,on1,ov1⟩) b2 ⟨nK,mi2,A2,n2,c2,on2,ov2⟩) b3 ⟨pF,mi3,A3,n3,c3,on3,ov3⟩).set j ⟨pF,v53,A3,n3,c3,on3,ov3⟩),U,SlT.ofOwn fW (hm.ownI 0 U) (by simpa using hT3.symm),nO (hz _) (SlT.ofOwn fM (hm.ownI 3 U) ho1) (SlT.ofOwn fM (hm.ownI 2 U) ho2) (SlT.ofOwn fM (hm.ownI 1 U) ho3),rN (hz _) (show jG _ from ⟨(by omega:(mU:ByteArray).size<=1000000),(by omega:n1<=1000)⟩) (show jG _ from ⟨(by omega:(nK:ByteArray).size<=1000000),(by omega:n2<=1000)⟩) (show jG _ from ⟨(by omega:(pF:ByteArray).size<=1000000),(by omega:n3<=1000)⟩),by omega,jA (hm.ownI 0 rfl),hm.k.more (by omega),hm.g⟩
   refine gd (fun wz=>True) mixed (fun _ _=>trivial) fun z=>wq 0 U (bJ U) (wq 1 U (bJ U) (wq 2 U (bX U) (wq 3 U (bQ kC U U) (wq 5 U (bJ U) ?_))))
   refine kK [4,6] (by kernel_rfl) U ⟨⟨_,U,?_⟩,⟨_,U,?_⟩,trivial⟩
   ·refine bB (dL (k:=2) (v:= .slice A3 n3 c3) mB U (fun _ hm=>(SlT.ofOwn fW (hm.ownI 0 U) hT3.symm)) hy U U) U ?_
    refine bE (nw 13 63 (fun _ _=>trivial) fun z=>eC 6 U (jF 3 [.int .i64 0,.int .i64 5,.int .i64 6,.int .i64 7,.int .i64 1] fun g54=>bE (nw 13 127 (fun _ _=>trivial) fun z=>eC 7 U (dM (γ:=Int) (val:=fun v=> .int .i64 v) (φ:=fun v=>v∈([0,5,6,7,1]:List Int)) U pP U U U U (fun wx hm=>(eT [0,5,6,7,1] _ _ _ wx B sb _ hm.k (by omega) (by simp) (by simp) (hm.blkI 0 U) (hm.neRow 0 U U))) fun v55 hv55=>?_))))
    have bv55:0<=v55/\v55<=7:=gQ hv55 (by decide)
    have bv550:=bv55.1
    have bv551:=bv55.2
    clear bv55
    refine bE (nw 13 255 (fun _ _=>trivial) fun z=>eC 8 U (jF 3 [.int .i64 v55] fun g56=>bE (nw 13 511 (fun _ _=>trivial) fun z=>eC 9 U (eF (news:= [.int .i64 v55]) 1 0 bO2 U U U U U U U (by omega) (by unfold maxLen;omega) U U fun va hva=>?_))))
    refine eD (R:=∃A cc,va= .slice A (n3+1) cc) (fun wx hm=>dS (hm.ownI 1 U)) ?_
    rintro ⟨Aa,ca,rfl⟩
    refine bE (nw 13 1023 (fun _ _=>trivial) fun z=>wq 10 U (bX U) (wq 11 U (bQ kC U U) (eC 12 U (gK (l:=(ap (ap (ap [] b1 ⟨mU,mi1,A1,n1,c1,on1,ov1⟩) b2 ⟨nK,mi2,A2,n2,c2,on2,ov2⟩) b3 ⟨pF,mi3,A3,n3,c3,on3,ov3⟩)) (j:=j) (r:=2) (el:=⟨pF,mi3,A3,n3,c3,on3,ov3⟩) (el':=⟨pF,mi3,Aa,n3+1,ca,on3++ [v55],ov3⟩) 0 mB U U U U fW U hy hT3.symm (show 2 < 4 by decide) U U (bE (nw 13 8191 (fun _ _=>trivial) fun z=>jH (bG (bD (bS (bP U (bZ U (bR (bM ?_)))))))))))))
    exact bK U U fun wx hm=>⟨some ⟨bo,0,none⟩,nn3,c,((ap (ap (ap [] b1 ⟨mU,mi1,A1,n1,c1,on1,ov1⟩) b2 ⟨nK,mi2,A2,n2,c2,on2,ov2⟩) b3 ⟨pF,mi3,A3,n3,c3,on3,ov3⟩).set j ⟨pF,mi3,Aa,n3+1,ca,on3++ [v55],ov3⟩),U,SlT.ofOwn fW (hm.ownI 0 U) (by simpa using hT3.symm),nO (hz _) (SlT.ofOwn fM (hm.ownI 3 U) ho1) (SlT.ofOwn fM (hm.ownI 2 U) ho2) (pG (hm.ownI 1 U) ho3),rN (hz _) (show jG _ from ⟨(by omega:(mU:ByteArray).size<=1000000),(by omega:n1<=1000)⟩) (show jG _ from ⟨(by omega:(nK:ByteArray).size<=1000000),(by omega:n2<=1000)⟩) (show jG _ from ⟨(by omega:(pF:ByteArray).size<=1000000),(by omega:n3+1<=1000)⟩),by omega,jA (hm.ownI 0 rfl),hm.k.more (by omega),hm.g⟩
   refine jF 3 [.int .i64 0,.int .i64 5,.int .i64 6,.int .i64 7,.int .i64 1] fun g57=>bE (nw 13 111 (fun _ _=>trivial) fun z=>?_)
   refine kK [4,7] (by kernel_rfl) U ⟨⟨_,U,?_⟩,⟨_,U,?_⟩,trivial⟩
   ·refine bB (dL (k:=2) (v:= .slice A3 n3 c3) mB U (fun _ hm=>(SlT.ofOwn fW (hm.ownI 0 U) hT3.symm)) hy U U) U ?_
    refine bE (nw 13 127 (fun _ _=>trivial) fun z=>eC 7 U (dM (γ:=Int) (val:=fun v=> .int .i64 v) (φ:=fun v=>v∈([0,5,6,7,1]:List Int)) U pP U U U U (fun wx hm=>(eT [0,5,6,7,1] _ _ _ wx B sb _ hm.k (by omega) (by simp) (by simp) (hm.blkI 0 U) (hm.neRow 0 U U))) fun v58 hv58=>?_))
    have bv58:0<=v58/\v58<=7:=gQ hv58 (by decide)
    have bv580:=bv58.1
    have bv581:=bv58.2
    clear bv58
    refine bE (nw 13 255 (fun _ _=>trivial) fun z=>eC 8 U (jF 3 [.int .i64 v58] fun g59=>bE (nw 13 511 (fun _ _=>trivial) fun z=>eC 9 U (eF (news:= [.int .i64 v58]) 1 0 bO2 U U U U U U U (by omega) (by unfold maxLen;omega) U U fun va hva=>?_))))
    refine eD (R:=∃A cc,va= .slice A (n3+1) cc) (fun wx hm=>dS (hm.ownI 1 U)) ?_
    rintro ⟨Aa,ca,rfl⟩
    refine bE (nw 13 1023 (fun _ _=>trivial) fun z=>wq 10 U (bX U) (wq 11 U (bQ kC U U) (eC 12 U (gK (l:=(ap (ap (ap [] b1 ⟨mU,mi1,A1,n1,c1,on1,ov1⟩) b2 ⟨nK,mi2,A2,n2,c2,on2,ov2⟩) b3 ⟨pF,mi3,A3,n3,c3,on3,ov3⟩)) (j:=j) (r:=2) (el:=⟨pF,mi3,A3,n3,c3,on3,ov3⟩) (el':=⟨pF,mi3,Aa,n3+1,ca,on3++ [v58],ov3⟩) 0 mB U U U U fW U hy hT3.symm (show 2 < 4 by decide) U U (bE (nw 13 8191 (fun _ _=>trivial) fun z=>jH (bG (bD (bS (bP U (bZ U (bR (bM ?_)))))))))))))
    exact bK U U fun wx hm=>⟨some ⟨bo,0,none⟩,nn3,c,((ap (ap (ap [] b1 ⟨mU,mi1,A1,n1,c1,on1,ov1⟩) b2 ⟨nK,mi2,A2,n2,c2,on2,ov2⟩) b3 ⟨pF,mi3,A3,n3,c3,on3,ov3⟩).set j ⟨pF,mi3,Aa,n3+1,ca,on3++ [v58],ov3⟩),U,SlT.ofOwn fW (hm.ownI 0 U) (by simpa using hT3.symm),nO (hz _) (SlT.ofOwn fM (hm.ownI 3 U) ho1) (SlT.ofOwn fM (hm.ownI 2 U) ho2) (pG (hm.ownI 1 U) ho3),rN (hz _) (show jG _ from ⟨(by omega:(mU:ByteArray).size<=1000000),(by omega:n1<=1000)⟩) (show jG _ from ⟨(by omega:(nK:ByteArray).size<=1000000),(by omega:n2<=1000)⟩) (show jG _ from ⟨(by omega:(pF:ByteArray).size<=1000000),(by omega:n3+1<=1000)⟩),by omega,jA (hm.ownI 0 rfl),hm.k.more (by omega),hm.g⟩
   refine dM (γ:=Int) (val:=fun v=> .int .i64 v) (φ:=fun v=>v∈([0,5,6,7,1]:List Int)) U pP U U U U (fun wx hm=>(eT [0,5,6,7,1] _ _ _ wx B sb _ hm.k (by omega) (by simp) (by simp) (hm.blkI 0 U) (hm.neRow 0 U U))) fun v60 hv60=>?_
   have bv60:0<=v60/\v60<=7:=gQ hv60 (by decide)
   have bv600:=bv60.1
   have bv601:=bv60.2
   clear bv60
   refine bE (nw 13 239 (fun _ _=>trivial) fun z=>?_)
   refine kK [4,8] (by kernel_rfl) U ⟨⟨_,U,?_⟩,⟨_,U,?_⟩,trivial⟩
   ·refine bB (dL (k:=2) (v:= .slice A3 n3 c3) mB U (fun _ hm=>(SlT.ofOwn fW (hm.ownI 0 U) hT3.symm)) hy U U) U ?_
    refine bE (nw 13 255 (fun _ _=>trivial) fun z=>eC 8 U (jF 3 [.int .i64 v60] fun g61=>bE (nw 13 511 (fun _ _=>trivial) fun z=>eC 9 U (eF (news:= [.int .i64 v60]) 1 0 bO2 U U U U U U U (by omega) (by unfold maxLen;omega) U U fun va hva=>?_))))
    refine eD (R:=∃A cc,va= .slice A (n3+1) cc) (fun wx hm=>dS (hm.ownI 1 U)) ?_
    rintro ⟨Aa,ca,rfl⟩
    refine bE (nw 13 1023 (fun _ _=>trivial) fun z=>wq 10 U (bX U) (wq 11 U (bQ kC U U) (eC 12 U (gK (l:=(ap (ap (ap [] b1 ⟨mU,mi1,A1,n1,c1,on1,ov1⟩) b2 ⟨nK,mi2,A2,n2,c2,on2,ov2⟩) b3 ⟨pF,mi3,A3,n3,c3,on3,ov3⟩)) (j:=j) (r:=2) (el:=⟨pF,mi3,A3,n3,c3,on3,ov3⟩) (el':=⟨pF,mi3,Aa,n3+1,ca,on3++ [v60],ov3⟩) 0 mB U U U U fW U hy hT3.symm (show 2 < 4 by decide) U U (bE (nw 13 8191 (fun _ _=>trivial) fun z=>jH (bG (bD (bS (bP U (bZ U (bR (bM ?_)))))))))))))
    exact bK U U fun wx hm=>⟨some ⟨bo,0,none⟩,nn3,c,((ap (ap (ap [] b1 ⟨mU,mi1,A1,n1,c1,on1,ov1⟩) b2 ⟨nK,mi2,A2,n2,c2,on2,ov2⟩) b3 ⟨pF,mi3,A3,n3,c3,on3,ov3⟩).set j ⟨pF,mi3,Aa,n3+1,ca,on3++ [v60],ov3⟩),U,SlT.ofOwn fW (hm.ownI 0 U) (by simpa using hT3.symm),nO (hz _) (SlT.ofOwn fM (hm.ownI 3 U) ho1) (SlT.ofOwn fM (hm.ownI 2 U) ho2) (pG (hm.ownI 1 U) ho3),rN (hz _) (show jG _ from ⟨(by omega:(mU:ByteArray).size<=1000000),(by omega:n1<=1000)⟩) (show jG _ from ⟨(by omega:(nK:ByteArray).size<=1000000),(by omega:n2<=1000)⟩) (show jG _ from ⟨(by omega:(pF:ByteArray).size<=1000000),(by omega:n3+1<=1000)⟩),by omega,jA (hm.ownI 0 rfl),hm.k.more (by omega),hm.g⟩
   refine jF 3 [.int .i64 v60] fun g62=>bE (nw 13 495 (fun _ _=>trivial) fun z=>eC 4 U (bB (dL (k:=2) (v:= .slice A3 n3 c3) mB U (fun _ hm=>(SlT.ofOwn fW (hm.ownI 0 U) hT3.symm)) hy U U) U (bE (nw 13 511 (fun _ _=>trivial) fun z=>eC 9 U (eF (news:= [.int .i64 v60]) 1 0 bO2 U U U U U U U (by omega) (by unfold maxLen;omega) U U fun va hva=>?_)))))
   refine eD (R:=∃A cc,va= .slice A (n3+1) cc) (fun wx hm=>dS (hm.ownI 1 U)) ?_
   rintro ⟨Aa,ca,rfl⟩
   refine bE (nw 13 1023 (fun _ _=>trivial) fun z=>wq 10 U (bX U) (wq 11 U (bQ kC U U) (eC 12 U (gK (l:=(ap (ap (ap [] b1 ⟨mU,mi1,A1,n1,c1,on1,ov1⟩) b2 ⟨nK,mi2,A2,n2,c2,on2,ov2⟩) b3 ⟨pF,mi3,A3,n3,c3,on3,ov3⟩)) (j:=j) (r:=2) (el:=⟨pF,mi3,A3,n3,c3,on3,ov3⟩) (el':=⟨pF,mi3,Aa,n3+1,ca,on3++ [v60],ov3⟩) 0 mB U U U U fW U hy hT3.symm (show 2 < 4 by decide) U U (bE (nw 13 8191 (fun _ _=>trivial) fun z=>jH (bG (bD (bS (bP U (bZ U (bR (bM ?_)))))))))))))
   exact bK U U fun wx hm=>⟨some ⟨bo,0,none⟩,nn3,c,((ap (ap (ap [] b1 ⟨mU,mi1,A1,n1,c1,on1,ov1⟩) b2 ⟨nK,mi2,A2,n2,c2,on2,ov2⟩) b3 ⟨pF,mi3,A3,n3,c3,on3,ov3⟩).set j ⟨pF,mi3,Aa,n3+1,ca,on3++ [v60],ov3⟩),U,SlT.ofOwn fW (hm.ownI 0 U) (by simpa using hT3.symm),nO (hz _) (SlT.ofOwn fM (hm.ownI 3 U) ho1) (SlT.ofOwn fM (hm.ownI 2 U) ho2) (pG (hm.ownI 1 U) ho3),rN (hz _) (show jG _ from ⟨(by omega:(mU:ByteArray).size<=1000000),(by omega:n1<=1000)⟩) (show jG _ from ⟨(by omega:(nK:ByteArray).size<=1000000),(by omega:n2<=1000)⟩) (show jG _ from ⟨(by omega:(pF:ByteArray).size<=1000000),(by omega:n3+1<=1000)⟩),by omega,jA (hm.ownI 0 rfl),hm.k.more (by omega),hm.g⟩
  have hf:f29=false:=by simpa using hh
  refine bN (bD (bS (bP U (bZ U (bR (bM ?_))))))
  exact bK U U fun wx hm=>⟨A,nn3,c,(ap (ap (ap [] b1 ⟨mU,mi1,A1,n1,c1,on1,ov1⟩) b2 ⟨nK,mi2,A2,n2,c2,on2,ov2⟩) b3 ⟨pF,mi3,A3,n3,c3,on3,ov3⟩),U,SlT.ofOwn fW (hm.ownI 0 U) hT3.symm,nO cQ4 (SlT.ofOwn fM (hm.ownI 3 U) ho1) (SlT.ofOwn fM (hm.ownI 2 U) ho2) (SlT.ofOwn fM (hm.ownI 1 U) ho3),rN cQ4 (show jG _ from ⟨(by omega:(mU:ByteArray).size<=1000000),(by omega:n1<=1000)⟩) (show jG _ from ⟨(by omega:(nK:ByteArray).size<=1000000),(by omega:n2<=1000)⟩) (show jG _ from ⟨(by omega:(pF:ByteArray).size<=1000000),(by omega:n3<=1000)⟩),by omega,jA (hm.ownI 0 rfl),hm.k.more (by omega),hm.g⟩
 refine bL 48 U (fH5 hb) (dY U (dY U (nS U U (bR (jU U (bN (bD (bS (bP U (bZ U (bR (bM ?_))))))))))))
 exact bK U U fun wx hm=>⟨A,nn3,c,(ap (ap (ap [] b1 ⟨mU,mi1,A1,n1,c1,on1,ov1⟩) b2 ⟨nK,mi2,A2,n2,c2,on2,ov2⟩) b3 ⟨pF,mi3,A3,n3,c3,on3,ov3⟩),U,SlT.ofOwn fW (hm.ownI 0 U) hT3.symm,nO cQ4 (SlT.ofOwn fM (hm.ownI 3 U) ho1) (SlT.ofOwn fM (hm.ownI 2 U) ho2) (SlT.ofOwn fM (hm.ownI 1 U) ho3),rN cQ4 (show jG _ from ⟨(by omega:(mU:ByteArray).size<=1000000),(by omega:n1<=1000)⟩) (show jG _ from ⟨(by omega:(nK:ByteArray).size<=1000000),(by omega:n2<=1000)⟩) (show jG _ from ⟨(by omega:(pF:ByteArray).size<=1000000),(by omega:n3<=1000)⟩),by omega,jA (hm.ownI 0 rfl),hm.k.more (by omega),hm.g⟩
theorem cU7 (w:World) (B sb m:Nat) (hS:eW 25 w B sb m) (hm:m<=10000000000):
 Calls prog 62 #[.pointer (some ⟨sb,0,none⟩)] w (fun e w'=>∃(rA:Option Addr) (rn rc:Nat) (rl:List Rt) (eA:Option Addr) (en ec:Nat) (el:List Ex) (fA:Option Addr) (fn fc:Nat) (fl:List Fe) (cA:Option Addr) (cn cc:Nat) (cl:List Cd) (tA:Option Addr) (tn tc:Nat) (tl:List Tx),e=.returned (.agg #[.slice rA rn rc,.slice eA en ec,.slice fA fn fc,.slice cA cn cc,.slice tA tn tc])/\(((∀x∈rl,RtG x)/\rn<=10/\rn<=rc)/\((∀x∈el,bF6 x)/\en<=2/\en<=ec)/\((∀x∈fl,bN2 x)/\fn<=5/\fn<=fc)/\((∀x∈cl,zQ x)/\cn<=3/\cn<=cc)/\((∀x∈tl,jG x)/\tn<=3/\tn<=tc))/\(SlT kW 7 219 w' rA rn rl/\SlT qP 4 254 w' eA en el/\SlT nF 3 258 w' fA fn fl/\SlT nU 6 260 w' cA cn cl/\SlT jT 4 263 w' tA tn tl/\Ons tl w')/\eW 25 w' B sb (m+710)/\w.grownBy w' (some sb)):=by
 refine cV ⟨14,w,(some sb), [219,254,258,260,263,3]⟩ func62 U ntmps62 U (bH5 (X:= []) hS cY cZ) (bS (dH eL8 U fun g1=>bR (bS (bP U ?_))))
 refine nR (γ:=Option Addr×Nat×Nat×List Rt) (val:=(fun g=> .slice g.1 g.2.1 g.2.2.1)) (φ:=(fun g=>(∀x∈g.2.2.2,RtG x)/\g.2.1<=10/\g.2.1<=g.2.2.1)) (Y:=(fun g=>fun wy=>SlT kW 7 219 wy g.1 g.2.1 g.2.2.2)) (m':=m+200) U eI9 U U U U (fun wx hm=>(dC9 wx B sb _ hm.k (by omega)).mono fun _ _ ⟨A,n,c,l,he,hs,hok,hn,hnc,hS,hg⟩=>⟨(A,n,c,l),he,⟨hok,hn,hnc⟩,hS,hg,hs⟩) (fun _=>SlT.lasts2 U) ?_
 rintro ⟨rA,rn,rc,rl⟩ hr
 dsimp only at hr ⊢
 refine bP U ?_
 refine nR (γ:=Option Addr×Nat×Nat×List Ex) (val:=(fun g=> .slice g.1 g.2.1 g.2.2.1)) (φ:=(fun g=>(∀x∈g.2.2.2,bF6 x)/\g.2.1<=2/\g.2.1<=g.2.2.1)) (Y:=(fun g=>fun wy=>SlT qP 4 254 wy g.1 g.2.1 g.2.2.2)) (m':=m+200+30) U eJ9 U U U U (fun wx hm=>(cT7 wx B sb _ hm.k (by omega)).mono fun _ _ ⟨A,n,c,l,he,hs,hok,hn,hnc,hS,hg⟩=>⟨(A,n,c,l),he,⟨hok,hn,hnc⟩,hS,hg,hs⟩) (fun _=>SlT.lasts2 U) ?_
 rintro ⟨eA,en,ec,el⟩ he
 dsimp only at he ⊢
 refine bP U ?_
 refine nR (γ:=Option Addr×Nat×Nat×List Fe) (val:=(fun g=> .slice g.1 g.2.1 g.2.2.1)) (φ:=(fun g=>(∀x∈g.2.2.2,bN2 x)/\g.2.1<=5/\g.2.1<=g.2.2.1)) (Y:=(fun g=>fun wy=>SlT nF 3 258 wy g.1 g.2.1 g.2.2.2)) (m':=m+200+30+30) U eK9 U U U U (fun wx hm=>(dD5 wx B sb _ hm.k (by omega)).mono fun _ _ ⟨A,n,c,l,he,hs,hok,hn,hnc,hS,hg⟩=>⟨(A,n,c,l),he,⟨hok,hn,hnc⟩,hS,hg,hs⟩) (fun _=>SlT.lasts2 U) ?_
 rintro ⟨fA,fn,fc,fl⟩ hf
 dsimp only at hf ⊢
 refine bP U ?_
 refine nR (γ:=Option Addr×Nat×Nat×List Cd) (val:=(fun g=> .slice g.1 g.2.1 g.2.2.1)) (φ:=(fun g=>(∀x∈g.2.2.2,zQ x)/\g.2.1<=3/\g.2.1<=g.2.2.1)) (Y:=(fun g=>fun wy=>SlT nU 6 260 wy g.1 g.2.1 g.2.2.2)) (m':=m+200+30+30+50) U eL9 U U U U (fun wx hm=>(dK0 wx B sb _ hm.k (by omega)).mono fun _ _ ⟨A,n,c,l,he,hs,hok,hn,hnc,hS,hg⟩=>⟨(A,n,c,l),he,⟨hok,hn,hnc⟩,hS,hg,hs⟩) (fun _=>SlT.lasts2 U) ?_
 rintro ⟨cA,cn,cc,cl⟩ hc
 dsimp only at hc ⊢
 refine bP U ?_
 refine nR (γ:=Option Addr×Nat×Nat×List Tx) (val:=(fun g=> .slice g.1 g.2.1 g.2.2.1)) (φ:=(fun g=>(∀x∈g.2.2.2,jG x)/\g.2.1<=3/\g.2.1<=g.2.2.1)) (Y:=(fun g=>fun wy=>SlT jT 4 263 wy g.1 g.2.1 g.2.2.2/\Ons g.2.2.2 wy)) (m':=m+200+30+30+50+400) U eM9 U U U U (fun wx hm=>(dL0 wx B sb _ hm.k (by omega)).mono fun _ _ ⟨A,n,c,l,he,hs,hons,hok,hn,hnc,hS,hg⟩=>⟨(A,n,c,l),he,⟨hok,hn,hnc⟩,hS,hg,⟨hs,hons⟩⟩) (fun _=>(SlT.lasts2 U).and_ (Ons.lasts U)) ?_
 rintro ⟨tA,tn,tc,tl⟩ ht
 dsimp only at ht ⊢
 refine bB (dJ (cs:= [.slice rA rn rc,.slice eA en ec,.slice fA fn fc,.slice cA cn cc,.slice tA tn tc]) U (by kernel_rfl)) U (jX (cs':= [.slice rA rn rc,.slice eA en ec,.slice fA fn fc,.slice cA cn cc,.slice tA tn tc]) 0 cR2 U U U U (bR (bM ?_)))
 refine bY1 0 U cR2 U U U fun wx hm=>?_
 exact ⟨rA,rn,rc,rl,eA,en,ec,el,fA,fn,fc,fl,cA,cn,cc,cl,tA,tn,tc,tl,U,⟨hr,he,hf,hc,ht⟩,⟨(hm.fact 4 U),(hm.fact 3 U),(hm.fact 2 U),(hm.fact 1 U),(hm.fact 0 U).1,(hm.fact 0 U).2⟩,hm.k.more (by omega),hm.g⟩
theorem cQ6 {rl:List Rt} (h:pL rl=0):uA rl [] [] [] []=0:=by
 unfold uA
 rw [h];rfl
theorem cH0 (w:World) (B sb m:Nat) (hS:eW 25 w B sb m) (hm:m<=1000000000):
 Calls prog 26 #[.pointer (some ⟨sb,0,none⟩)] w (fun e w'=>∃(rA:Option Addr) (rn rc:Nat) (rl:List Rt) (eA:Option Addr) (en ec:Nat) (el:List Ex) (fA:Option Addr) (fn fc:Nat) (fl:List Fe) (cA:Option Addr) (cn cc:Nat) (cl:List Cd) (tA:Option Addr) (tn tc:Nat) (tl:List Tx),e=.returned (.agg #[.slice rA rn rc,.slice eA en ec,.slice fA fn fc,.slice cA cn cc,.slice tA tn tc])/\((((∀x∈rl,RtG x)/\rn<=10/\rn<=rc)/\((∀x∈el,bF6 x)/\en<=2/\en<=ec)/\((∀x∈fl,bN2 x)/\fn<=5/\fn<=fc)/\((∀x∈cl,zQ x)/\cn<=3/\cn<=cc)/\((∀x∈tl,jG x)/\tn<=3/\tn<=tc))/\uA rl el fl cl tl=0)/\(SlT kW 7 219 w' rA rn rl/\SlT qP 4 254 w' eA en el/\SlT nF 3 258 w' fA fn fl/\SlT nU 6 260 w' cA cn cl/\SlT jT 4 263 w' tA tn tl/\Ons tl w')/\eW 25 w' B sb (m+6000)/\w.grownBy w' (some sb)):=by
 refine cV ⟨16,w,(some sb), [219,254,258,260,263,3]⟩ func26 U ntmps26 U (bH5 (X:= []) hS cY cZ) (bS (dH eL8 U fun g1=>bR (bH (bS (bP U (bR (bO ?_)))))))
 refine dX (γ:=Nat) (fun (i:Nat)=>i<=8) (fun (i:Nat)=> [(0,.pointer (some ⟨sb,0,none⟩)),(2,.pointer (some ⟨g1,0,none⟩)),(4,.int .i64 ((i:Nat):Int))]) (fun (i:Nat)=>fun w=>eW 25 w B sb (m+710 *i)) (fun (i:Nat)=> [(g1,38, [.slice none 0 0,.slice none 0 0,.slice none 0 0,.slice none 0 0,.slice none 0 0])]) (fun (i:Nat)=> []) (fun (i:Nat)=> []) (fun (i:Nat)=>8 - i) 0 (Nat.zero_le _) ⟨U,U,U,trivial⟩ (fun _ hm=>(hm.more U (by first|omega|(dsimp only;omega))).pick [0] [] [] U U) ?_
 intro i cC
 replace cC:i<=8:=cC
 refine bS (bB (dD U U) U (bR (bH ?_)))
 refine cE U (fun hi=>?_) (fun hi=>?_)
 ·refine bN (bD (bH (bO (bS (bP U ?_)))))
  refine nR (γ:=List Rt×Option Addr×Nat×Nat×List Ex×Option Addr×Nat×Nat×List Fe×Option Addr×Nat×Nat×List Cd×Option Addr×Nat×Nat×List Tx×Option Addr×Nat×Nat) (val:=(fun g=> .agg #[.slice g.2.1 g.2.2.1 g.2.2.2.1,.slice g.2.2.2.2.2.1 g.2.2.2.2.2.2.1 g.2.2.2.2.2.2.2.1,.slice g.2.2.2.2.2.2.2.2.2.1 g.2.2.2.2.2.2.2.2.2.2.1 g.2.2.2.2.2.2.2.2.2.2.2.1,.slice g.2.2.2.2.2.2.2.2.2.2.2.2.2.1 g.2.2.2.2.2.2.2.2.2.2.2.2.2.2.1 g.2.2.2.2.2.2.2.2.2.2.2.2.2.2.2.1,.slice g.2.2.2.2.2.2.2.2.2.2.2.2.2.2.2.2.2.1 g.2.2.2.2.2.2.2.2.2.2.2.2.2.2.2.2.2.2.1 g.2.2.2.2.2.2.2.2.2.2.2.2.2.2.2.2.2.2.2])) (φ:=(fun g=>((∀x∈g.1,RtG x)/\g.2.2.1<=10/\g.2.2.1<=g.2.2.2.1)/\((∀x∈g.2.2.2.2.1,bF6 x)/\g.2.2.2.2.2.2.1<=2/\g.2.2.2.2.2.2.1<=g.2.2.2.2.2.2.2.1)/\((∀x∈g.2.2.2.2.2.2.2.2.1,bN2 x)/\g.2.2.2.2.2.2.2.2.2.2.1<=5/\g.2.2.2.2.2.2.2.2.2.2.1<=g.2.2.2.2.2.2.2.2.2.2.2.1)/\((∀x∈g.2.2.2.2.2.2.2.2.2.2.2.2.1,zQ x)/\g.2.2.2.2.2.2.2.2.2.2.2.2.2.2.1<=3/\g.2.2.2.2.2.2.2.2.2.2.2.2.2.2.1<=g.2.2.2.2.2.2.2.2.2.2.2.2.2.2.2.1)/\((∀x∈g.2.2.2.2.2.2.2.2.2.2.2.2.2.2.2.2.1,jG x)/\g.2.2.2.2.2.2.2.2.2.2.2.2.2.2.2.2.2.2.1<=3/\g.2.2.2.2.2.2.2.2.2.2.2.2.2.2.2.2.2.2.1<=g.2.2.2.2.2.2.2.2.2.2.2.2.2.2.2.2.2.2.2))) (Y:=(fun g=>fun wy=>SlT kW 7 219 wy g.2.1 g.2.2.1 g.1/\SlT qP 4 254 wy g.2.2.2.2.2.1 g.2.2.2.2.2.2.1 g.2.2.2.2.1/\SlT nF 3 258 wy g.2.2.2.2.2.2.2.2.2.1 g.2.2.2.2.2.2.2.2.2.2.1 g.2.2.2.2.2.2.2.2.1/\SlT nU 6 260 wy g.2.2.2.2.2.2.2.2.2.2.2.2.2.1 g.2.2.2.2.2.2.2.2.2.2.2.2.2.2.1 g.2.2.2.2.2.2.2.2.2.2.2.2.1/\SlT jT 4 263 wy g.2.2.2.2.2.2.2.2.2.2.2.2.2.2.2.2.2.1 g.2.2.2.2.2.2.2.2.2.2.2.2.2.2.2.2.2.2.1 g.2.2.2.2.2.2.2.2.2.2.2.2.2.2.2.2.1/\Ons g.2.2.2.2.2.2.2.2.2.2.2.2.2.2.2.2.1 wy)) (m':=m+710 *i+710) U fA4 U U U U (fun wx hm=>(cU7 wx B sb _ hm.k (by omega)).mono fun _ _ ⟨rA,rn,rc,rl,eA,en,ec,el,fA,fn,fc,fl,cA,cn,cc,cl,tA,tn,tc,tl,he,hq,hs,hS,hg⟩=>⟨(rl,rA,rn,rc,el,eA,en,ec,fl,fA,fn,fc,cl,cA,cn,cc,tl,tA,tn,tc),he,hq,hS,hg,hs⟩) (fun _=>(SlT.lasts2 U).and_ ((SlT.lasts2 U).and_ ((SlT.lasts2 U).and_ ((SlT.lasts2 U).and_ ((SlT.lasts2 U).and_ (Ons.lasts U)))))) ?_
  rintro ⟨rl,rA,rn,rc,el,eA,en,ec,fl,fA,fn,fc,cl,cA,cn,cc,tl,tA,tn,tc⟩ hT
  dsimp only at hT ⊢
  have hT0:=hT
  obtain ⟨⟨hrg,hrn0,hrc⟩,⟨heo,hen0,hec⟩,⟨hfo,hfn0,hfc⟩,⟨hco,hcn0,hcc⟩,⟨hto,htn,htc⟩⟩:=hT
  have hro:∀x∈rl,cZ1 x:=fN2 hrg
  obtain ⟨TE,hTE⟩:∃E,E=uA rl el fl cl tl:=⟨_,rfl⟩
  refine dH eL8 U fun g2=>jX (cs':= [.slice rA rn rc,.slice eA en ec,.slice fA fn fc,.slice cA cn cc,.slice tA tn tc]) 0 cR2 U U U U (bR (bS (bB (cX cR2 U (fun _ hm=>hm.blkI 0 U) U U) U (cL (v:= .int .i64 TE) U fB4 U U (fun wx hm=>(by rw [hTE];exact bC9 rl rA rn rc el eA en ec fl fA fn fc cl cA cn cc tl tA tn tc wx (hm.fact 0 rfl).1 (hm.fact 0 rfl).2.1 (hm.fact 0 rfl).2.2.1 (hm.fact 0 rfl).2.2.2.1 (hm.fact 0 rfl).2.2.2.2.1 (hm.fact 0 rfl).2.2.2.2.2 hro heo hfo hco hto (by omega) (by omega) (by omega) (by omega) htn htc)) (bB (eN U U) U (bR ?_))))))
  refine cE U (fun h0=>?_) (fun h0=>?_)
  ·refine bS ?_
   refine bB (cX cR2 U (fun _ hm=>hm.blkI 0 U) U U) U (jX (cs':= [.slice rA rn rc,.slice eA en ec,.slice fA fn fc,.slice cA cn cc,.slice tA tn tc]) 1 cR2 U U U U (bR (bM (bC (bA (bA (bC (bA ?_))))))))
   refine bY1 1 U cR2 U U U fun wx hm=>?_
   exact ⟨rA,rn,rc,rl,eA,en,ec,el,fA,fn,fc,fl,cA,cn,cc,cl,tA,tn,tc,tl,U,⟨hT0,hTE.symm.trans (by simpa using h0)⟩,(hm.fact 0 U),hm.k.more (by omega),hm.g⟩
  refine bN (bG (bD (bI (gN U U (bP U (bE ?_))))))
  exact cQ (i+1) (by omega) (by omega) ⟨U,U,(cS (by omega)),trivial⟩ (fun _ hm=>(hm.more U (by first|omega|(dsimp only;omega))).pick [1] [] [] U U)
 refine dE (bF (bF (bY (bD (bS (bP U ?_))))))
 refine nR (γ:=Option Addr×Nat×Nat×List Rt) (val:=(fun g=> .slice g.1 g.2.1 g.2.2.1)) (φ:=(fun g=>(∀x∈g.2.2.2,RtG x)/\g.2.1<=9/\g.2.1<=g.2.2.1/\pL g.2.2.2=0)) (Y:=(fun g=>fun wy=>SlT kW 7 219 wy g.1 g.2.1 g.2.2.2)) (m':=m+710 *i+120) U fD1 U U U U (fun wx hm=>(bC3 wx B sb _ hm.k (by omega)).mono fun _ _ ⟨A,n,c0,l,he,ho,hok,hl,hn,hrz,hS,hg⟩=>⟨(A,n,c0,l),he,⟨eS5 hok,hn,jA ho,hrz⟩,hS,hg,SlT.ofOwn vH ho hl⟩) (fun _=>SlT.lasts2 U) ?_
 rintro ⟨rA,rn,rc,rl⟩ hR
 dsimp only at hR ⊢
 obtain ⟨hrg,hrn,hrc,hrz⟩:=hR
 refine bB (dJ (cs:= [.slice rA rn rc,.slice none 0 0,.slice none 0 0,.slice none 0 0,.slice none 0 0]) U (by kernel_rfl)) U (jX (cs':= [.slice rA rn rc,.slice none 0 0,.slice none 0 0,.slice none 0 0,.slice none 0 0]) 0 cR2 U U U U (bR (bM ?_)))
 refine bY1 0 U cR2 U U U fun wx hm=>?_
 exact ⟨rA,rn,rc,rl,none,0,0, [],none,0,0, [],none,0,0, [],none,0,0, [],U,⟨⟨⟨hrg,by omega,hrc⟩,⟨(fun _ h=>by cases h),Nat.zero_le _,Nat.zero_le _⟩,⟨(fun _ h=>by cases h),Nat.zero_le _,Nat.zero_le _⟩,⟨(fun _ h=>by cases h),Nat.zero_le _,Nat.zero_le _⟩,⟨(fun _ h=>by cases h),Nat.zero_le _,Nat.zero_le _⟩⟩,cQ6 hrz⟩,⟨(hm.fact 0 U),SlT.nil_ _ _,SlT.nil_ _ _,SlT.nil_ _ _,SlT.nil_ _ _,(fun _ h=>by cases h)⟩,hm.k.more (by omega),hm.g⟩
theorem nM:(prog.info? 40).map (·.size)=some 7:=by kernel_rfl
theorem dB8 (w:World) (B sb m:Nat) (hS:eW 25 w B sb m) (hm:m<=100000000000):
 Calls prog 65 #[.pointer (some ⟨sb,0,none⟩)] w (fun e w'=>∃d:Dl,e=.returned (.agg (wO d).toArray)/\eW 25 w' B sb (m+40)/\w.grownBy w' (some sb)):=by
 have hlt:=hS.lt
 go_enter func65,ntmps65
 go_wp2_with fail
 have hS0:=hS.alloc (.cells #[.int .i64 0,.int .i64 0,.int .i64 0,.int .i64 0,.int .i64 0,.int .i64 0,.int .i64 0] 40)
 have hb0:Blk (w.alloc (.cells #[.int .i64 0,.int .i64 0,.int .i64 0,.int .i64 0,.int .i64 0,.int .i64 0,.int .i64 0] 40)) w.heap.size 40 [.int .i64 0,.int .i64 0,.int .i64 0,.int .i64 0,.int .i64 0,.int .i64 0,.int .i64 0]:=Blk.at_ w rfl _ _
 have vV:w.grownBy (w.alloc (.cells #[.int .i64 0,.int .i64 0,.int .i64 0,.int .i64 0,.int .i64 0,.int .i64 0,.int .i64 0] 40)) (some sb):=grow_alloc (World.grownBy.refl _ _) _
 have hne:some w.heap.size≠some sb:=fun h=>absurd (Option.some.inj h) (by omega)
 have hs1:=hS0.lt
 refine (eT [0,100,200,10000] _ _ _ _ B sb _ (hS0.alloc _) (by omega) (by simp) (by simp) (Blk.at_ _ (by simp) _ _) (by omega)).mono ?_
 rintro e w1 ⟨v1,hv1,rfl,hS1,hg1'⟩
 have hb1:=(hb0.alloc _).grown hg1' hne
 have hg1:=grow_trans (grow_alloc vV _) hg1'
 clear hS0 hb0 vV hg1' hs1 hv1
 go_wp2_with fail
 have hs2:=hS1.lt
 refine (eT [0,2,30] _ _ _ _ B sb _ (hS1.alloc _) (by omega) (by simp) (by simp) (Blk.at_ _ U _ _) (by omega)).mono ?_
 rintro e w2 ⟨v2,hv2,rfl,hS2,hg2'⟩
 have hb2:=(hb1.alloc _).grown hg2' hne
 have hg2:=grow_trans (grow_alloc hg1 _) hg2'
 clear hS1 hb1 hg1 hg2' hs2 hv2
 go_wp2_with fail
 have hs3:=hS2.lt
 refine (eT [0,300,1000] _ _ _ _ B sb _ (hS2.alloc _) (by omega) (by simp) (by simp) (Blk.at_ _ U _ _) (by omega)).mono ?_
 rintro e w3 ⟨v3,hv3,rfl,hS3,hg3'⟩
 have hb3:=(hb2.alloc _).grown hg3' hne
 have hg3:=grow_trans (grow_alloc hg2 _) hg3'
 clear hS2 hb2 hg2 hg3' hs3 hv3
 go_wp2_with fail
 have hs4:=hS3.lt
 refine (eT [0,29,30,59,60] _ _ _ _ B sb _ (hS3.alloc _) (by omega) (by simp) (by simp) (Blk.at_ _ U _ _) (by omega)).mono ?_
 rintro e w4 ⟨v4,hv4,rfl,hS4,hg4'⟩
 have hb4:=(hb3.alloc _).grown hg4' hne
 have hg4:=grow_trans (grow_alloc hg3 _) hg4'
 clear hS3 hb3 hg3 hg4' hs4 hv4
 go_wp2_with fail
 have hs5:=hS4.lt
 refine (eT [0,500,1000,2000] _ _ _ _ B sb _ (hS4.alloc _) (by omega) (by simp) (by simp) (Blk.at_ _ U _ _) (by omega)).mono ?_
 rintro e w5 ⟨v5,hv5,rfl,hS5,hg5'⟩
 have hb5:=(hb4.alloc _).grown hg5' hne
 have hg5:=grow_trans (grow_alloc hg4 _) hg5'
 clear hS4 hb4 hg4 hg5' hs5 hv5
 go_wp2_with fail
 have hs6:=hS5.lt
 refine (eT [0,4000,5000,9000] _ _ _ _ B sb _ (hS5.alloc _) (by omega) (by simp) (by simp) (Blk.at_ _ U _ _) (by omega)).mono ?_
 rintro e w6 ⟨v6,hv6,rfl,hS6,hg6'⟩
 have hb6:=(hb5.alloc _).grown hg6' hne
 have hg6:=grow_trans (grow_alloc hg5 _) hg6'
 clear hS5 hb5 hg5 hg6' hs6 hv6
 go_wp2_with fail
 have hs7:=hS6.lt
 refine (eT [0,10000,1000000] _ _ _ _ B sb _ (hS6.alloc _) (by omega) (by simp) (by simp) (Blk.at_ _ U _ _) (by omega)).mono ?_
 rintro e w7 ⟨v7,hv7,rfl,hS7,hg7'⟩
 have hb7:=(hb6.alloc _).grown hg7' hne
 have hg7:=grow_trans (grow_alloc hg6 _) hg7'
 clear hS6 hb6 hg6 hg7' hs7 hv7
 go_wp2_with fail
 have hs8:=hS7.lt
 have hbD:=Blk.at_ w7 rfl 40 [.int .i64 v1,.int .i64 v2,.int .i64 v3,.int .i64 v4,.int .i64 v5,.int .i64 v6,.int .i64 v7]
 have hbR:=hb7.alloc (.cells #[.int .i64 v1,.int .i64 v2,.int .i64 v3,.int .i64 v4,.int .i64 v5,.int .i64 v6,.int .i64 v7] 40)
 have hS7':=hS7.alloc (.cells #[.int .i64 v1,.int .i64 v2,.int .i64 v3,.int .i64 v4,.int .i64 v5,.int .i64 v6,.int .i64 v7] 40)
 have hg7':=grow_alloc hg7 (.cells #[.int .i64 v1,.int .i64 v2,.int .i64 v3,.int .i64 v4,.int .i64 v5,.int .i64 v6,.int .i64 v7] 40)
 refine (jZ 15 _ B sb _ hS7' (by omega) (by omega) (by omega)).mono ?_
 rintro e w8 ⟨fl,rfl,hS8,hg8⟩
 have hneD:some w7.heap.size≠some sb:=fun h=>absurd (Option.some.inj h) (by omega)
 have hD8:=hbD.grown hg8 hneD
 have hR8:=hbR.grown hg8 hne
 have hw8:=grow_trans hg7' hg8
 have hsz:w.heap.size < w7.heap.size:=hb7.lt
 clear hS7 hS7' hbD hbR hb7 hg7 hg7' hg8
 cases fl
 ·go_wp2_with (first
   |(with_reducible refine wpList_load_all rfl 40 (.tmp 3) rfl w7.heap.size _ _ _ hD8 rfl Tryz.underlying40 rfl 7 nM rfl ?_)
   |(with_reducible refine wpList_store_all rfl 40 (.tmp 2) (.tmp 40) rfl w.heap.size _ _ [.int .i64 v1,.int .i64 v2,.int .i64 v3,.int .i64 v4,.int .i64 v5,.int .i64 v6,.int .i64 v7] hR8 rfl rfl 7 nM rfl rfl (by simp [Value.oneCell']) ?_;intro w9 hR9 hg9))
  refine bN5 (p:=2) (ty:=40) U w.heap.size _ _ _ hR9 U Tryz.underlying40 U 7 nM U U ?_
  exact ⟨⟨v1,v2,v3,v4,v5,v6,v7⟩,U,(hS8.grown hg9 (fun k h=>by cases h;omega)).more (by omega),grow_own hw8 hg9 (fun k h=>by cases h;omega)⟩
 ·go_wp2_with fail
  refine (mI 0 10000 _ B sb _ hS8 (by omega) (by omega) (by omega) (by omega)).mono ?_
  rintro e w9 ⟨o1,ho1,rfl,hS9,hg9⟩
  go_wp2_with fail
  refine (mI 0 1440 _ B sb _ hS9 (by omega) (by omega) (by omega) (by omega)).mono ?_
  rintro e w10 ⟨o2,ho2,rfl,hS10,hg10⟩
  go_wp2_with fail
  refine (mI 0 1000000 _ B sb _ hS10 (by omega) (by omega) (by omega) (by omega)).mono ?_
  rintro e w11 ⟨o3,ho3,rfl,hS11,hg11⟩
  go_wp2_with fail
  refine (mI 0 1000000 _ B sb _ hS11 (by omega) (by omega) (by omega) (by omega)).mono ?_
  rintro e w12 ⟨o4,ho4,rfl,hS12,hg12⟩
  have hga:=grow_trans (grow_trans (grow_trans hg9 hg10) hg11) hg12
  have hD12:=hD8.grown hga hneD
  have hR12:=hR8.grown hga hne
  have hw12:=grow_trans hw8 hga
  have c0:=hD12.cell_of (i:=0) (v:= .int .i64 v1) rfl
  have c3:=hD12.cell_of (i:=3) (v:= .int .i64 v4) rfl
  have c4:=hD12.cell_of (i:=4) (v:= .int .i64 v5) rfl
  have c6:=hD12.cell_of (i:=6) (v:= .int .i64 v7) rfl
  have f0:=hD12.frozen 0
  have f3:=hD12.frozen 3
  have f4:=hD12.frozen 4
  have f6:=hD12.frozen 6
  have hDS:Blk ((((w12.setCell ⟨w7.heap.size,0,none⟩ (.int .i64 o1)).setCell ⟨w7.heap.size,3,none⟩ (.int .i64 o2)).setCell ⟨w7.heap.size,4,none⟩ (.int .i64 o3)).setCell ⟨w7.heap.size,6,none⟩ (.int .i64 o4)) w7.heap.size 40 [.int .i64 o1,.int .i64 v2,.int .i64 v3,.int .i64 o2,.int .i64 o3,.int .i64 v6,.int .i64 o4]:=(((hD12.set_ 0 _).set_ 3 _).set_ 4 _).set_ 6 _
  have hRS:Blk ((((w12.setCell ⟨w7.heap.size,0,none⟩ (.int .i64 o1)).setCell ⟨w7.heap.size,3,none⟩ (.int .i64 o2)).setCell ⟨w7.heap.size,4,none⟩ (.int .i64 o3)).setCell ⟨w7.heap.size,6,none⟩ (.int .i64 o4)) w.heap.size 40 [.int .i64 0,.int .i64 0,.int .i64 0,.int .i64 0,.int .i64 0,.int .i64 0,.int .i64 0]:=(((hR12.far (by simp;omega) _).far (by simp;omega) _).far (by simp;omega) _).far (by simp;omega) _
  have hSS:eW 25 ((((w12.setCell ⟨w7.heap.size,0,none⟩ (.int .i64 o1)).setCell ⟨w7.heap.size,3,none⟩ (.int .i64 o2)).setCell ⟨w7.heap.size,4,none⟩ (.int .i64 o3)).setCell ⟨w7.heap.size,6,none⟩ (.int .i64 o4)) B sb _:=(((hS12.setCell (by simp;omega) _).setCell (by simp;omega) _).setCell (by simp;omega) _).setCell (by simp;omega) _
  have hwS:w.grownBy ((((w12.setCell ⟨w7.heap.size,0,none⟩ (.int .i64 o1)).setCell ⟨w7.heap.size,3,none⟩ (.int .i64 o2)).setCell ⟨w7.heap.size,4,none⟩ (.int .i64 o3)).setCell ⟨w7.heap.size,6,none⟩ (.int .i64 o4)) (some sb):=grow_setCell (grow_setCell (grow_setCell (grow_setCell hw12 (.inr (by simp;omega)) _) (.inr (by simp;omega)) _) (.inr (by simp;omega)) _) (.inr (by simp;omega)) _
  clear hD8 hR8 hw8 hS8 hS9 hS10 hS11 hS12 hg9 hg10 hg11 hg12 hga hR12 hw12 ho1 ho2 ho3 ho4
  go_wp2_with (first
   |(with_reducible refine wpList_load_all rfl 40 (.tmp 3) rfl w7.heap.size _ _ _ hDS rfl Tryz.underlying40 rfl 7 nM rfl ?_)
   |(with_reducible refine wpList_store_all rfl 40 (.tmp 2) (.tmp 40) rfl w.heap.size _ _ [.int .i64 o1,.int .i64 v2,.int .i64 v3,.int .i64 o2,.int .i64 o3,.int .i64 v6,.int .i64 o4] hRS rfl rfl 7 nM rfl rfl (by simp [Value.oneCell']) ?_;intro w9 hR9 hg9))
  refine bN5 (p:=2) (ty:=40) U w.heap.size _ _ _ hR9 U Tryz.underlying40 U 7 nM U U ?_
  exact ⟨⟨o1,v2,v3,o2,o3,v6,o4⟩,U,(hSS.grown hg9 (fun k h=>by cases h;omega)).more (by omega),grow_own hwS hg9 (fun k h=>by cases h;omega)⟩
theorem cA0 (d:Dl):(wO d).length=7:=rfl
theorem dE8 (d:Dl):∀v∈wO d,v.oneCell'=true:=cZ7 _
theorem cQ2 (w:World) (B sb m:Nat) (hS:eW 25 w B sb m) (hm:m<=10000000000):
 Calls prog 27 #[.pointer (some ⟨sb,0,none⟩)] w (fun e w'=>∃d:Dl,wN d=0/\e=.returned (.agg (wO d).toArray)/\eW 25 w' B sb (m+400)/\w.grownBy w' (some sb)):=by
 have hlt:=hS.lt
 go_enter func27,ntmps27
 go_wp2_with fail
 go_loopw [4] (fun i wr=>∃k:Nat,k<=8/\i= .int .i64 k/\eW 25 wr B sb (m+40 *k)/\w.grownBy wr (some sb)/\Blk wr w.heap.size 40 [.int .i64 0,.int .i64 0,.int .i64 0,.int .i64 0,.int .i64 0,.int .i64 0,.int .i64 0]) (fun i _=>8 - (intOf i).toNat)
 case atStart=>exact ⟨0,by omega,rfl,hS.alloc _,grow_alloc (World.grownBy.refl _ _) _,Blk.at_ w rfl _ _⟩
 case round=>
  obtain ⟨k,hk,rfl,hSr,hgr,hbr⟩:=hrel
  have hne:some w.heap.size≠some sb:=fun h=>absurd (Option.some.inj h) (by omega)
  clear hS
  by_cases hk8:k < 8
  ·go_wp2_with fail
   refine (dB8 _ B sb _ hSr (by omega)).mono ?_
   rintro e w1 ⟨d,rfl,hS1,hg1⟩
   have hb1:=hbr.grown hg1 hne
   have hw1:=grow_trans hgr hg1
   have hl1:=hS1.lt
   have hsz:=hb1.lt
   clear hSr hbr hgr hg1
   have hnew:Blk (w1.alloc (.cells #[.int .i64 0,.int .i64 0,.int .i64 0,.int .i64 0,.int .i64 0,.int .i64 0,.int .i64 0] 40)) w1.heap.size 40 [.int .i64 0,.int .i64 0,.int .i64 0,.int .i64 0,.int .i64 0,.int .i64 0,.int .i64 0]:=Blk.at_ w1 rfl _ _
   go_wp2_with (first
    |(with_reducible refine wpList_store_all rfl 40 (.tmp 3) (.tmp 7) rfl w1.heap.size _ _ (wO d) hnew rfl rfl 7 nM (cA0 d) rfl (dE8 d) ?_;intro w2 hb2 hg2)
    |(with_reducible refine wpList_load_all rfl 40 (.tmp 3) rfl w1.heap.size _ _ _ hb2 rfl Tryz.underlying40 rfl 7 nM (cA0 d) ?_))
   have hS2:=(hS1.alloc (.cells #[.int .i64 0,.int .i64 0,.int .i64 0,.int .i64 0,.int .i64 0,.int .i64 0,.int .i64 0] 40)).grown hg2 (fun k h=>by cases h;omega)
   have hw2:w.grownBy w2 (some sb):=grow_own (grow_alloc hw1 _) hg2 (fun k h=>by cases h;omega)
   have hbr2:=(hb1.alloc (.cells #[.int .i64 0,.int .i64 0,.int .i64 0,.int .i64 0,.int .i64 0,.int .i64 0,.int .i64 0] 40)).grown hg2 (fun h=>absurd (Option.some.inj h) (by omega))
   refine (cF2 d w2).mono ?_
   rintro e w3 ⟨rfl,hg3⟩
   have hS3:=hS2.grown hg3 (fun k h=>by cases h)
   have hw3:=grow_trans hw2 (bW6 hg3)
   have hbr3:=hbr2.grown hg3 (by simp)
   have hb3:=hb2.grown hg3 (by simp)
   clear hS1 hS2 hw1 hw2 hb1 hb2 hbr2 hnew hg2 hg3
   obtain ⟨E,hE⟩:∃E,E=wN d:=⟨_,rfl⟩
   rw [<-hE]
   have HE:=Lib.hid hE
   clear hE
   by_cases h0:E=0
   ·have H0:=Lib.hid (HE.out.symm.trans h0)
    subst h0
    go_wp2_with (first
     |(with_reducible refine wpList_load_all rfl 40 (.tmp 3) rfl w1.heap.size _ _ _ hb3 rfl Tryz.underlying40 rfl 7 nM (cA0 d) ?_)
     |(with_reducible refine wpList_store_all rfl 40 (.tmp 2) (.tmp 11) rfl w.heap.size _ _ (wO d) hbr3 rfl rfl 7 nM (cA0 d) rfl (dE8 d) ?_;intro w4 hb4 hg4))
    refine bN5 (p:=2) (ty:=40) U w.heap.size _ _ _ hb4 U Tryz.underlying40 U 7 nM (cA0 d) U ?_
    exact ⟨d,H0.out,U,(hS3.grown hg4 (fun k h=>by cases h;omega)).more (by omega),grow_own hw3 hg4 (fun k h=>by cases h;omega)⟩
   ·have hq:(E==0)=false:=by simpa using h0
    clear h0
    go_wp2_with fail
    go_roundw
    case rel=>exact ⟨k+1,by omega,by go_num,hS3.more (by omega),hw3,hbr3⟩
    case measure=>simp [intOf];omega
  ·go_wp2_with (with_reducible refine wpList_store_all rfl 40 (.tmp 2) (.tmp 13) rfl w.heap.size _ _ [.int .i64 0,.int .i64 0,.int .i64 0,.int .i64 0,.int .i64 0,.int .i64 0,.int .i64 0] hbr rfl rfl 7 nM rfl rfl (by simp [Value.oneCell']) ?_;intro w4 hb4 hg4)
   refine bN5 (p:=2) (ty:=40) U w.heap.size _ _ _ hb4 U Tryz.underlying40 U 7 nM U U ?_
   exact ⟨⟨0,0,0,0,0,0,0⟩,by kernel_rfl,rfl,(hSr.grown hg4 (fun k h=>by cases h;omega)).more (by omega),grow_own hgr hg4 (fun k h=>by cases h;omega)⟩
theorem Lasts2.ex {N:Nat} {row:Option Nat} {Tt:List TypeId} {γ:Type} {Y:γ->World->Prop} (h:∀g,Lasts2 N row Tt (Y g)):Lasts2 N row Tt (fun w=>∃g,Y g w):=
 ⟨fun w w' a ⟨g,x⟩=>⟨g,(h g).gr w w' a x⟩,fun w w' r T c a b d e ⟨g,x⟩=>⟨g,(h g).st w w' r T c a b d e x⟩⟩
theorem Lasts2.pure {N:Nat} {row:Option Nat} {Tt:List TypeId} {P:Prop}:Lasts2 N row Tt (fun _=>P):=⟨fun _ _ _ h=>h,fun _ _ _ _ _ _ _ _ _ h=>h⟩
def bO8 (u4 u5 u6 u7 u8 u9 jK jL jM jN jO jP:Value) (w:World):Prop:=∃(yT:Option Addr) (ran rac:Nat) (ral:List Rt) (yU:Option Addr) (xA rbc:Nat) (rbl:List Ex) (yV:Option Addr) (xB rcc:Nat) (rcl:List Fe) (yW:Option Addr) (xC rdc:Nat) (rdl:List Cd) (yX:Option Addr) (ren rec:Nat) (rel:List Tx) (da db dc dd de df dg:Int),(u4= .slice yT ran rac/\u5= .slice yU xA rbc/\u6= .slice yV xB rcc/\u7= .slice yW xC rdc/\u8= .slice yX ren rec/\u9= .int .i64 da/\jK= .int .i64 db/\jL= .int .i64 dc/\jM= .int .i64 dd/\jN= .int .i64 de/\jO= .int .i64 df/\jP= .int .i64 dg)/\(((∀x∈ral,cZ1 x)/\ran<=1000)/\((∀x∈rbl,bF6 x)/\xA<=1000)/\((∀x∈rcl,bN2 x)/\xB<=1000)/\((∀x∈rdl,zQ x)/\xC<=1000)/\((∀x∈rel,jG x)/\ren<=3)/\ren<=rec)/\(uA ral rbl rcl rdl rel=0/\wN ⟨da,db,dc,dd,de,df,dg⟩=0)/\SlT kW 7 219 w yT ran ral/\SlT qP 4 254 w yU xA rbl/\SlT nF 3 258 w yV xB rcl/\SlT nU 6 260 w yW xC rdl/\SlT jT 4 263 w yX ren rel/\Ons rel w
theorem bO8.lasts2 {N:Nat} {row:Option Nat} {Tt:List TypeId} {u4 u5 u6 u7 u8 u9 jK jL jM jN jO jP:Value} (hra:Tt.contains 219=true) (hrb:Tt.contains 254=true) (hrc:Tt.contains 258=true) (hrd:Tt.contains 260=true) (hre:Tt.contains 263=true) (hi:Tt.contains 3=true):Lasts2 N row Tt (bO8 u4 u5 u6 u7 u8 u9 jK jL jM jN jO jP):=
 Lasts2.ex fun _=>Lasts2.ex fun _=>Lasts2.ex fun _=>Lasts2.ex fun _=>Lasts2.ex fun _=>Lasts2.ex fun _=>Lasts2.ex fun _=>Lasts2.ex fun _=>Lasts2.ex fun _=>Lasts2.ex fun _=>Lasts2.ex fun _=>Lasts2.ex fun _=>Lasts2.ex fun _=>Lasts2.ex fun _=>Lasts2.ex fun _=>Lasts2.ex fun _=>Lasts2.ex fun _=>Lasts2.ex fun _=>Lasts2.ex fun _=>Lasts2.ex fun _=>Lasts2.ex fun _=>Lasts2.ex fun _=>Lasts2.ex fun _=>Lasts2.ex fun _=>Lasts2.ex fun _=>Lasts2.ex fun _=>Lasts2.ex fun _=>Lasts2.pure.and_ (Lasts2.pure.and_ (Lasts2.pure.and_ ((SlT.lasts2 hra).and_ ((SlT.lasts2 hrb).and_ ((SlT.lasts2 hrc).and_ ((SlT.lasts2 hrd).and_ ((SlT.lasts2 hre).and_ ((Ons.lasts hi)))))))))
theorem cE7 (sA cA vA:Option Addr) (sn sc cn cc vn vc:Nat) (sl:List St) (cl:List Cs) (vl:List Vh) (yT:Option Addr) (ran rac:Nat) (ral:List Rt) (yU:Option Addr) (xA rbc:Nat) (rbl:List Ex) (yV:Option Addr) (xB rcc:Nat) (rcl:List Fe) (yW:Option Addr) (xC rdc:Nat) (rdl:List Cd) (yX:Option Addr) (ren rec:Nat) (rel:List Tx) (da db dc dd de df dg:Int) (w:World) (hs:SlT stEnc 15 99 w sA sn sl) (hc:SlT dV 2 84 w cA cn cl) (hv:SlT fX 2 57 w vA vn vl) (uB:∀x∈sl,StOk x) (bZ6:∀x∈cl,uF x) (bS2:∀x∈vl,cS9 x) (zJ:sn<=1000000) (hcn:cn<=1000000) (hvn:vn<=1000000) (hfz:mK sl cl vl []=0) (hra:SlT kW 7 219 w yT ran ral) (hrb:SlT qP 4 254 w yU xA rbl) (hrc:SlT nF 3 258 w yV xB rcl) (hrd:SlT nU 6 260 w yW xC rdl) (hre:SlT jT 4 263 w yX ren rel) (hons:Ons rel w) (hra1:∀x∈ral,cZ1 x) (hrb1:∀x∈rbl,bF6 x) (hrc1:∀x∈rcl,bN2 x) (hrd1:∀x∈rdl,zQ x) (hre1:∀x∈rel,jG x) (hra2:ran<=1000) (hrb2:xA<=1000) (hrc2:xB<=1000) (hrd2:xC<=1000) (hre2:ren<=3) (hre3:ren<=rec) (htz:uA ral rbl rcl rdl rel=0) (hdz:wN ⟨da,db,dc,dd,de,df,dg⟩=0):
 Calls prog 76 #[.agg #[.slice sA sn sc,.slice cA cn cc,.slice vA vn vc,.slice none 0 0,.slice yT ran rac,.slice yU xA rbc,.slice yV xB rcc,.slice yW xC rdc,.slice yX ren rec,.int .i64 da,.int .i64 db,.int .i64 dc,.int .i64 dd,.int .i64 de,.int .i64 df,.int .i64 dg]] w (fun e w'=>e=.returned (.int .i64 0)/\w.grownBy w' none):=by
 refine cV ⟨14,w,none, []⟩ func76 U ntmps76 U (gR (X:= [bU stEnc 15 99 w.heap.size none sA sn sl,bU dV 2 84 w.heap.size none cA cn cl,bU fX 2 57 w.heap.size none vA vn vl,bU kW 7 219 w.heap.size none yT ran ral,bU qP 4 254 w.heap.size none yU xA rbl,bU nF 3 258 w.heap.size none yV xB rcl,bU nU 6 260 w.heap.size none yW xC rdl,bU jT 4 263 w.heap.size none yX ren rel,mR w.heap.size none rel]) (cG hs.old (cG hc.old (cG hv.old (cG hra.old (cG hrb.old (cG hrc.old (cG hrd.old (cG hre.old (cG hons.old cY))))))))) (cH bU.lasts (cH bU.lasts (cH bU.lasts (cH bU.lasts (cH bU.lasts (cH bU.lasts (cH bU.lasts (cH bU.lasts (cH mR.lasts cZ)))))))))) (bS (fG U U U fun g1=>bZ U (bR (bH (gd (fun wz=>Blk wz g1 42 [.slice sA sn sc,.slice cA cn cc,.slice vA vn vc,.slice none 0 0,.slice yT ran rac,.slice yU xA rbc,.slice yV xB rcc,.slice yW xC rdc,.slice yX ren rec,.int .i64 da,.int .i64 db,.int .i64 dc,.int .i64 dd,.int .i64 de,.int .i64 df,.int .i64 dg]/\True) mixed (fun _ hm=>⟨hm.bl 0,trivial⟩) fun z=>wq 0 U (bQ bP6 U U) (wq 1 U (cX bP5 U (fun _ hm=>hm.1) U U) (wq 3 U (bQ eV6 U U) (wq 4 U (cX cR2 U (fun _ hm=>hm.1) U U) (wq 6 U (bQ eW6 U U) (wq 7 U (cX fP4 U (fun _ hm=>hm.1) U U) (eC 2 U (cL (v:= .int .i64 0) U fJ1 U U (fun wx hm=>(by have h:=bF0 sl cl vl [] sA cA vA none sn sc cn cc vn vc 0 0 wx (hm.fact 0 rfl).1 (hm.fact 1 rfl).1 (hm.fact 2 rfl).1 (SlT.nil_ _ _) uB bZ6 bS2 (fun _ h=>by cases h) zJ hcn hvn (by decide);rw [hfz] at h;exact h)) (bE (nw 12 223 (fun _ hm=>⟨hm.bl 0,trivial⟩) fun z=>eC 5 U (cL (v:= .int .i64 0) U eV9 U U (fun wx hm=>(by have h:=dY1 ral yT ran rac rbl yU xA rbc rcl yV xB rcc rdl yW xC rdc rel yX ren rec wx (hm.fact 3 rfl).1 (hm.fact 4 rfl).1 (hm.fact 5 rfl).1 (hm.fact 6 rfl).1 (hm.fact 7 rfl).1 (mR.ons (hm.fact 8 rfl)) hra1 hrb1 hrc1 hrd1 hre1 hra2 hrb2 hrc2 hrd2 hre2 hre3;rw [htz] at h;exact h)) (bE (nw 12 255 (fun _ hm=>⟨hm.bl 0,trivial⟩) fun z=>eC 8 U (cL (v:= .int .i64 0) U eW9 U U (fun wx hm=>(by have h:=cD2 ⟨da,db,dc,dd,de,df,dg⟩ wx;rw [hdz] at h;exact h)) (bE (nw 12 511 (fun _ hm=>⟨hm.bl 0,trivial⟩) fun z=>eC 9 U (jF 48 [.int .i64 0,.int .i64 0,.int .i64 0] fun g2=>bE (nw 12 1023 (fun _ hm=>⟨hm.bl 1,trivial⟩) fun z=>eC 10 U ?_))))))))))))))))))))))
 refine dA U wJ U U (fun wx hm=>(fJ [0,0,0] _ _ _ wx (hm.blkI 0 U) (by simp))) (bE (nw 12 2047 (fun _ hm=>⟨hm.bl 1,trivial⟩) fun z=>wq 11 U (cU U) (jH (bD (bM ?_)))))
 exact bK U U fun wx hm=>⟨U,hm.g⟩
theorem bT9 (sA cA vA:Option Addr) (sn sc cn cc vn vc:Nat) (sl:List St) (cl:List Cs) (vl:List Vh) (u4 u5 u6 u7 u8 u9 jK jL jM jN jO jP:Value) (w:World) (hs:SlT stEnc 15 99 w sA sn sl) (hc:SlT dV 2 84 w cA cn cl) (hv:SlT fX 2 57 w vA vn vl) (uB:∀x∈sl,StOk x) (bZ6:∀x∈cl,uF x) (bS2:∀x∈vl,cS9 x) (zJ:sn<=1000000) (hcn:cn<=1000000) (hvn:vn<=1000000) (hfz:mK sl cl vl []=0) (hT:bO8 u4 u5 u6 u7 u8 u9 jK jL jM jN jO jP w):
 Calls prog 76 #[.agg #[.slice sA sn sc,.slice cA cn cc,.slice vA vn vc,.slice none 0 0,u4,u5,u6,u7,u8,u9,jK,jL,jM,jN,jO,jP]] w (fun e w'=>e=.returned (.int .i64 0)/\w.grownBy w' none):=by
 obtain ⟨yT,ran,rac,ral,yU,xA,rbc,rbl,yV,xB,rcc,rcl,yW,xC,rdc,rdl,yX,ren,rec,rel,da,db,dc,dd,de,df,dg,⟨rfl,rfl,rfl,rfl,rfl,rfl,rfl,rfl,rfl,rfl,rfl,rfl⟩,⟨⟨hra1,hra2⟩,⟨hrb1,hrb2⟩,⟨hrc1,hrc2⟩,⟨hrd1,hrd2⟩,⟨hre1,hre2⟩,hre3⟩,⟨htz,hdz⟩,hra,hrb,hrc,hrd,hre,hons⟩:=hT
 exact cE7 sA cA vA sn sc cn cc vn vc sl cl vl yT ran rac ral yU xA rbc rbl yV xB rcc rcl yW xC rdc rdl yX ren rec rel da db dc dd de df dg w hs hc hv uB bZ6 bS2 zJ hcn hvn hfz hra hrb hrc hrd hre hons hra1 hrb1 hrc1 hrd1 hre1 hra2 hrb2 hrc2 hrd2 hre2 hre3 htz hdz
theorem bG0 (sA cA vA:Option Addr) (sn sc cn cc vn vc:Nat) (sl:List St) (cl:List Cs) (vl:List Vh) (u4 u5 u6 u7 u8 u9 jK jL jM jN jO jP:Value) (w:World) (hs:SlT stEnc 15 99 w sA sn sl) (hc:SlT dV 2 84 w cA cn cl) (hv:SlT fX 2 57 w vA vn vl) (uB:∀x∈sl,StOk x) (bZ6:∀x∈cl,uF x) (bS2:∀x∈vl,cS9 x) (zJ:sn<=1000000) (hcn:cn<=1000000) (hvn:vn<=1000000) (hfz:mK sl cl vl []=0) (hT:bO8 u4 u5 u6 u7 u8 u9 jK jL jM jN jO jP w):∀wx,w.grownBy wx none->
 Calls prog 76 #[.agg #[.slice sA sn sc,.slice cA cn cc,.slice vA vn vc,.slice none 0 0,u4,u5,u6,u7,u8,u9,jK,jL,jM,jN,jO,jP]] wx (fun e w'=>e=.returned (.int .i64 0)/\wx.grownBy w' none):=fun wx hg=>
 bT9 sA cA vA sn sc cn cc vn vc sl cl vl u4 u5 u6 u7 u8 u9 jK jL jM jN jO jP wx ((SlT.lasts2 (N:=0) (row:=none) (Tt:= [99]) rfl).gr w wx hg hs) ((SlT.lasts2 (N:=0) (row:=none) (Tt:= [84]) rfl).gr w wx hg hc) ((SlT.lasts2 (N:=0) (row:=none) (Tt:= [57]) rfl).gr w wx hg hv) uB bZ6 bS2 zJ hcn hvn hfz ((bO8.lasts2 (N:=0) (row:=none) (Tt:= [219,254,258,260,263,3]) rfl rfl rfl rfl rfl rfl).gr w wx hg hT)
def K3v:List ByteArray:= [⟨#[118,49]⟩,⟨#[118,50]⟩,⟨#[118,51]⟩]
def cY2:List Int:= [0,0,0,0,0,0,0,0,0,0,0,0,0,0]
def sl2:List St:= [⟨⟨#[115,49]⟩,cY2⟩,⟨⟨#[115,50]⟩,cY2⟩]
theorem bR7:∀x∈sl2,StOk x:=by
 intro x hx
 unfold sl2 cY2 at hx
 simp only [List.mem_cons,List.not_mem_nil,or_false] at hx
 rcases hx with rfl|rfl <;> exact ⟨rfl,by decide,by decide⟩
theorem dK6:stationsE sl2=0:=by decide+kernel
theorem eZ7 {w:World} {g:Nat} (h:Blk w g 99 (sl2.flatMap stEnc)):SlT stEnc 15 99 w (some ⟨g,0,none⟩) 2 sl2:=
 ⟨rfl,fun _=>⟨g,0,_,_,rfl,h,fun i x hx j v hv=>by
  have h15:(stEnc ⟨⟨#[115,49]⟩,cY2⟩).length=15:=rfl
  match i with
  |0=>
   have hx:some (⟨⟨#[115,49]⟩,cY2⟩:St)=some x:=hx
   injection hx with hx
   subst hx
   have hj:=(List.getElem?_eq_some_iff.1 hv).1
   have e:((stEnc ⟨⟨#[115,49]⟩,cY2⟩)++stEnc ⟨⟨#[115,50]⟩,cY2⟩)[j]?=some v:=by rw [List.getElem?_append_left hj];exact hv
   simpa [sl2] using e
  |1=>
   have hx:some (⟨⟨#[115,50]⟩,cY2⟩:St)=some x:=hx
   injection hx with hx
   subst hx
   have e:((stEnc ⟨⟨#[115,49]⟩,cY2⟩)++stEnc ⟨⟨#[115,50]⟩,cY2⟩)[15+j]?=some v:=by rw [List.getElem?_append_right (by rw [h15];omega),h15,Nat.add_sub_cancel_left];exact hv
   simpa [sl2] using e
  |i+2=>cases hx⟩⟩
theorem cV4 {l:List Cs} {c:ByteArray} (h:ClG l) (hc:c∈([⟨#[109,105,110,105]⟩,⟨#[109,105,110,105]⟩,⟨#[109,105,100,105]⟩]:List ByteArray)):∃(j:Nat) (q:ByteArray),l[j]?=some (⟨c,q⟩:Cs):=by
 obtain ⟨u1,u2,u3,_,_,_,rfl⟩:=h
 simp only [List.mem_cons,List.not_mem_nil,or_false] at hc
 rcases hc with rfl|rfl|rfl
 ·exact ⟨3,u3,U⟩
 ·exact ⟨3,u3,U⟩
 ·exact ⟨2,u2,U⟩
theorem fB2 {i:Nat} (h:i < 3):∃k,K3v[i]?=some k/\K4[i]?=some k/\k.size<=100:=by
 rcases (show i=0∨i=1∨i=2 by omega) with rfl|rfl|rfl
 ·exact ⟨_,U,U,by decide⟩
 ·exact ⟨_,U,U,by decide⟩
 ·exact ⟨_,U,U,by decide⟩
def Vh3 (cl:List Cs) (i:Nat) (vl:List Vh):Prop:=vl.length=i/\vl.map Vh.key=K3v.take i/\(∀x∈vl,x.key.size<=100/\x.cls.size<=100)/\VhG cl i vl
theorem eO4 {cl:List Cs}:Vh3 cl 0 []:=⟨rfl,rfl,(fun _ h=>by cases h),eR4⟩
theorem bY5 {cl:List Cs} {i:Nat} {vl:List Vh} {k c:ByteArray} (h:Vh3 cl i vl) (hk:K3v[i]?=some k) (hk4:K4[i]?=some k) (hz:k.size<=100) (hcz:c.size<=100) (hc:∃(j:Nat) (q:ByteArray),cl[j]?=some (⟨c,q⟩:Cs)):Vh3 cl (i+1) (vl++ [⟨k,c⟩]):=by
 obtain ⟨h1,h2,h3,h4⟩:=h
 obtain ⟨j,q,hq⟩:=hc
 refine ⟨by simp [h1],?_,fun x hx=>?_,eO1 h4 hk4 hq⟩
 ·rw [List.map_append,h2,List.take_add_one,hk];rfl
 ·rcases List.mem_append.1 hx with hx|hx
  ·exact h3 x hx
  ·rw [List.mem_singleton.1 hx];exact ⟨hz,hcz⟩
theorem eF8 {cl:List Cs} {i:Nat} {vl:List Vh} (h:Vh3 cl i vl):∀x∈vl,cS9 x:=fun x hx=>⟨by have:=(h.2.2.1 x hx).1;omega,by have:=(h.2.2.1 x hx).2;omega⟩
theorem dV6 {cl:List Cs} {vl:List Vh} (hc:jB cl=0) (h:Vh3 cl 3 vl):mK sl2 cl vl []=0:=cP7 dK6 hc h.2.2.2 (by have:=h.1;omega)
def dM4 (u4 u5 u6 u7 u8:Value) (w:World):Prop:=∃(yT:Option Addr) (ran rac:Nat) (ral:List Rt) (yU:Option Addr) (xA rbc:Nat) (rbl:List Ex) (yV:Option Addr) (xB rcc:Nat) (rcl:List Fe) (yW:Option Addr) (xC rdc:Nat) (rdl:List Cd) (yX:Option Addr) (ren rec:Nat) (rel:List Tx),(u4= .slice yT ran rac/\u5= .slice yU xA rbc/\u6= .slice yV xB rcc/\u7= .slice yW xC rdc/\u8= .slice yX ren rec)/\(((∀x∈ral,cZ1 x)/\ran<=1000)/\((∀x∈rbl,bF6 x)/\xA<=1000)/\((∀x∈rcl,bN2 x)/\xB<=1000)/\((∀x∈rdl,zQ x)/\xC<=1000)/\((∀x∈rel,jG x)/\ren<=3)/\ren<=rec)/\uA ral rbl rcl rdl rel=0/\SlT kW 7 219 w yT ran ral/\SlT qP 4 254 w yU xA rbl/\SlT nF 3 258 w yV xB rcl/\SlT nU 6 260 w yW xC rdl/\SlT jT 4 263 w yX ren rel/\Ons rel w
theorem dM4.lasts2 {N:Nat} {row:Option Nat} {Tt:List TypeId} {u4 u5 u6 u7 u8:Value} (hra:Tt.contains 219=true) (hrb:Tt.contains 254=true) (hrc:Tt.contains 258=true) (hrd:Tt.contains 260=true) (hre:Tt.contains 263=true) (hi:Tt.contains 3=true):Lasts2 N row Tt (dM4 u4 u5 u6 u7 u8):=
 Lasts2.ex fun _=>Lasts2.ex fun _=>Lasts2.ex fun _=>Lasts2.ex fun _=>Lasts2.ex fun _=>Lasts2.ex fun _=>Lasts2.ex fun _=>Lasts2.ex fun _=>Lasts2.ex fun _=>Lasts2.ex fun _=>Lasts2.ex fun _=>Lasts2.ex fun _=>Lasts2.ex fun _=>Lasts2.ex fun _=>Lasts2.ex fun _=>Lasts2.ex fun _=>Lasts2.ex fun _=>Lasts2.ex fun _=>Lasts2.ex fun _=>Lasts2.ex fun _=>Lasts2.pure.and_ (Lasts2.pure.and_ (Lasts2.pure.and_ ((SlT.lasts2 hra).and_ ((SlT.lasts2 hrb).and_ ((SlT.lasts2 hrc).and_ ((SlT.lasts2 hrd).and_ ((SlT.lasts2 hre).and_ ((Ons.lasts hi)))))))))
theorem eB3 {u4 u5 u6 u7 u8:Value} {da db dc dd de df dg:Int} {w:World} (hd:wN ⟨da,db,dc,dd,de,df,dg⟩=0) (h:dM4 u4 u5 u6 u7 u8 w):bO8 u4 u5 u6 u7 u8 (.int .i64 da) (.int .i64 db) (.int .i64 dc) (.int .i64 dd) (.int .i64 de) (.int .i64 df) (.int .i64 dg) w:=by
 obtain ⟨yT,ran,rac,ral,yU,xA,rbc,rbl,yV,xB,rcc,rcl,yW,xC,rdc,rdl,yX,ren,rec,rel,h1,h2,h3,h4⟩:=h
 exact ⟨yT,ran,rac,ral,yU,xA,rbc,rbl,yV,xB,rcc,rcl,yW,xC,rdc,rdl,yX,ren,rec,rel,da,db,dc,dd,de,df,dg,⟨h1.1,h1.2.1,h1.2.2.1,h1.2.2.2.1,h1.2.2.2.2,U,U,U,U,U,U,U⟩,h2,⟨h3,hd⟩,h4⟩
theorem fW1 (w:World) (B sb m:Nat) (hS:eW 25 w B sb m) (hm:m<=1000000000):
 Calls prog 26 #[.pointer (some ⟨sb,0,none⟩)] w (fun e w'=>∃g:Option Addr×Option Addr×Option Addr×Option Addr×Option Addr×Nat×Nat×Nat×Nat×Nat×Nat×Nat×Nat×Nat×Nat,e=.returned (.agg #[.slice g.1 g.2.2.2.2.2.1 g.2.2.2.2.2.2.1,.slice g.2.1 g.2.2.2.2.2.2.2.1 g.2.2.2.2.2.2.2.2.1,.slice g.2.2.1 g.2.2.2.2.2.2.2.2.2.1 g.2.2.2.2.2.2.2.2.2.2.1,.slice g.2.2.2.1 g.2.2.2.2.2.2.2.2.2.2.2.1 g.2.2.2.2.2.2.2.2.2.2.2.2.1,.slice g.2.2.2.2.1 g.2.2.2.2.2.2.2.2.2.2.2.2.2.1 g.2.2.2.2.2.2.2.2.2.2.2.2.2.2])/\True/\eW 25 w' B sb (m+6000)/\w.grownBy w' (some sb)/\dM4 (.slice g.1 g.2.2.2.2.2.1 g.2.2.2.2.2.2.1) (.slice g.2.1 g.2.2.2.2.2.2.2.1 g.2.2.2.2.2.2.2.2.1) (.slice g.2.2.1 g.2.2.2.2.2.2.2.2.2.1 g.2.2.2.2.2.2.2.2.2.2.1) (.slice g.2.2.2.1 g.2.2.2.2.2.2.2.2.2.2.2.1 g.2.2.2.2.2.2.2.2.2.2.2.2.1) (.slice g.2.2.2.2.1 g.2.2.2.2.2.2.2.2.2.2.2.2.2.1 g.2.2.2.2.2.2.2.2.2.2.2.2.2.2) w'):=
 (cH0 w B sb m hS hm).mono fun _ _ ⟨yT,ran,rac,ral,yU,xA,rbc,rbl,yV,xB,rcc,rcl,yW,xC,rdc,rdl,yX,ren,rec,rel,he,⟨⟨⟨hrag,hran,hrac⟩,⟨hrbg,hrbn,hrbc⟩,⟨hrcg,hrcn,hrcc⟩,⟨hrdg,hrdn,hrdc⟩,⟨hreg,hren,hrec⟩⟩,htz⟩,hs,hS,hg⟩=>⟨(yT,yU,yV,yW,yX,ran,rac,xA,rbc,xB,rcc,xC,rdc,ren,rec),he,trivial,hS,hg,yT,ran,rac,ral,yU,xA,rbc,rbl,yV,xB,rcc,rcl,yW,xC,rdc,rdl,yX,ren,rec,rel,⟨rfl,rfl,rfl,rfl,rfl⟩,⟨⟨fN2 hrag,by omega⟩,⟨hrbg,by omega⟩,⟨hrcg,by omega⟩,⟨hrdg,by omega⟩,⟨hreg,by omega⟩,hrec⟩,htz,hs⟩
theorem cG1 (w:World) (B sb m:Nat) (hS:eW 25 w B sb m) (hm:m<=100000000):
 Calls prog 6 #[.pointer (some ⟨sb,0,none⟩)] w (fun e w'=>∃(sA cA vA:Option Addr) (sc cc vc:Nat) (cl:List Cs) (vl:List Vh) (yT yU yV yW yX:Option Addr) (ran rac xA rbc xB rcc xC rdc ren rec:Nat) (da db dc dd de df dg:Int),e=.returned (.agg #[.slice sA 2 sc,.slice cA 4 cc,.slice vA 3 vc,.slice none 0 0,.slice yT ran rac,.slice yU xA rbc,.slice yV xB rcc,.slice yW xC rdc,.slice yX ren rec,.int .i64 da,.int .i64 db,.int .i64 dc,.int .i64 dd,.int .i64 de,.int .i64 df,.int .i64 dg])/\(cl.length=4/\(∀x∈cl,uF x)/\jB cl=0/\Vh3 cl 3 vl)/\SlT stEnc 15 99 w' sA 2 sl2/\SlT dV 2 84 w' cA 4 cl/\SlT fX 2 57 w' vA 3 vl/\bO8 (.slice yT ran rac) (.slice yU xA rbc) (.slice yV xB rcc) (.slice yW xC rdc) (.slice yX ren rec) (.int .i64 da) (.int .i64 db) (.int .i64 dc) (.int .i64 dd) (.int .i64 de) (.int .i64 df) (.int .i64 dg) w'/\eW 25 w' B sb (m+7000)/\w.grownBy w' (some sb)):=by
 refine cV ⟨35,w,(some sb), [3,84,219,254,258,260,263]⟩ func6 U ntmps6 U (bH5 (X:= []) hS cY cZ) (bS (dH fV2 U fun g1=>bR (bS (bB (dJ (cs:= [.string ⟨#[115,49]⟩,.int .i64 0,.int .i64 0,.int .i64 0,.int .i64 0,.int .i64 0,.int .i64 0,.int .i64 0,.int .i64 0,.int .i64 0,.int .i64 0,.int .i64 0,.int .i64 0,.int .i64 0,.int .i64 0]) U (by kernel_rfl)) U (bB (dJ (cs:= [.string ⟨#[115,50]⟩,.int .i64 0,.int .i64 0,.int .i64 0,.int .i64 0,.int .i64 0,.int .i64 0,.int .i64 0,.int .i64 0,.int .i64 0,.int .i64 0,.int .i64 0,.int .i64 0,.int .i64 0,.int .i64 0]) U (by kernel_rfl)) U (jF 99 [.string ⟨#[115,49]⟩,.int .i64 0,.int .i64 0,.int .i64 0,.int .i64 0,.int .i64 0,.int .i64 0,.int .i64 0,.int .i64 0,.int .i64 0,.int .i64 0,.int .i64 0,.int .i64 0,.int .i64 0,.int .i64 0,.string ⟨#[115,50]⟩,.int .i64 0,.int .i64 0,.int .i64 0,.int .i64 0,.int .i64 0,.int .i64 0,.int .i64 0,.int .i64 0,.int .i64 0,.int .i64 0,.int .i64 0,.int .i64 0,.int .i64 0,.int .i64 0] fun g2=>bP U ?_))))))
 refine nR (γ:=Option Addr×Nat×List Cs) (val:=(fun g=> .slice g.1 4 g.2.1)) (φ:=(fun g=>g.2.2.length=4/\(∀x∈g.2.2,uF x)/\ClG g.2.2)) (Y:=(fun g=>fun wy=>SlT dV 2 84 wy g.1 4 g.2.2)) (m':=m+20) U fO3 U U U U (fun wx hm=>(cM2 wx B sb _ hm.k (by omega)).mono fun _ _ ⟨A,c,l,he,ho,⟨hl,hz⟩,hok,hS,hg⟩=>⟨(A,c,l),he,⟨hl,hok,hz⟩,hS,hg,SlT.ofOwn dA0 ho hl⟩) (fun _=>SlT.lasts2 U) ?_
 rintro ⟨cA,cc,cl⟩ mT
 dsimp only at mT ⊢
 obtain ⟨hcl4,bZ6,hcg⟩:=mT
 refine rO 57 2 ?_
 refine bB (dJ (cs:= [.slice (some ⟨g2,0,none⟩) 2 2,.slice cA 4 cc,.slice none 0 0,.slice none 0 0]) U (by kernel_rfl)) U (dH fQ4 U fun g3=>jX (cs':= [.slice (some ⟨g2,0,none⟩) 2 2,.slice cA 4 cc,.slice none 0 0,.slice none 0 0]) 0 bP5 U U U U (bR (bH (bS (jF 9 [.string ⟨#[118,49]⟩,.string ⟨#[118,50]⟩,.string ⟨#[118,51]⟩] fun g4=>bB (dT jY U) U (bL 13 (v':= .int .i64 3) U U (bP U (bR (bO ?_)))))))))
 refine dX (γ:=Nat×Option Addr×Nat×List Vh) (fun g=>g.1<=3/\Vh3 cl g.1 g.2.2.2) (fun g=> [(0,.pointer (some ⟨sb,0,none⟩)),(2,.pointer (some ⟨g1,0,none⟩)),(3,.pointer (some ⟨g3,0,none⟩)),(12,.slice (some ⟨g4,0,none⟩) 3 3),(13,.int .i64 3),(14,.int .i64 ((g.1:Nat):Int))]) (fun g=>fun w=>eW 25 w B sb (m+20+g.1)) (fun g=> [(g4,9, [.string ⟨#[118,49]⟩,.string ⟨#[118,50]⟩,.string ⟨#[118,51]⟩]),(g3,31, [.slice (some ⟨g2,0,none⟩) 2 2,.slice cA 4 cc,.slice g.2.1 g.1 g.2.2.1,.slice none 0 0]),(g2,99, [.string ⟨#[115,49]⟩,.int .i64 0,.int .i64 0,.int .i64 0,.int .i64 0,.int .i64 0,.int .i64 0,.int .i64 0,.int .i64 0,.int .i64 0,.int .i64 0,.int .i64 0,.int .i64 0,.int .i64 0,.int .i64 0,.string ⟨#[115,50]⟩,.int .i64 0,.int .i64 0,.int .i64 0,.int .i64 0,.int .i64 0,.int .i64 0,.int .i64 0,.int .i64 0,.int .i64 0,.int .i64 0,.int .i64 0,.int .i64 0,.int .i64 0,.int .i64 0]),(g1,42, [.slice none 0 0,.slice none 0 0,.slice none 0 0,.slice none 0 0,.slice none 0 0,.slice none 0 0,.slice none 0 0,.slice none 0 0,.slice none 0 0,.int .i64 0,.int .i64 0,.int .i64 0,.int .i64 0,.int .i64 0,.int .i64 0,.int .i64 0])]) (fun g=> [⟨.slice g.2.1 g.1 g.2.2.1,57,2,g.1,g.2.2.2.flatMap fX⟩]) (fun g=> [fun wy=>SlT dV 2 84 wy cA 4 cl]) (fun g=>3 - g.1) (0,none,0, []) ⟨Nat.zero_le _,eO4⟩ ⟨U,U,U,U,U,U,trivial⟩ (fun _ hm=>(hm.more U (by first|omega|(dsimp only;omega))).pick [0,1,2,3] [0] [0] U U) ?_
 rintro ⟨iv,vA,vc,vl⟩ cC
 replace cC:iv<=3/\Vh3 cl iv vl:=cC
 dsimp only
 refine bS ?_
 obtain ⟨hi0,hv3⟩:=cC
 refine bB (dD U U) U (bR (bH ?_))
 refine cE U (fun hi=>?_) (fun hi=>?_)
 ·refine bN (bD (bH (bO (bS ?_))))
  obtain ⟨nm,hx,hx4,hnz⟩:=fB2 (show iv < 3 by omega)
  refine bB (bT (j:=iv) jY U U (by omega)) U (bB (dL (k:=0) (v:= .string nm) fE U (fun _ hm=>(SlT.ofBlk (l:=K3v) zC (hm.blkI 0 U))) hx U U) U (bZ U (bR (gd (fun wz=>True) mixed (fun _ _=>trivial) fun z=>wq 0 U (bQ uK U U) (wq 2 U (bJ U) (wq 3 U (bJ U) ?_))))))
  refine kK [1,4] (by kernel_rfl) U ⟨⟨_,U,?_⟩,⟨_,U,?_⟩,trivial⟩
  ·refine eI bX2 1 U U U (bE ?_)
   refine nw 11 15 (fun _ _=>trivial) fun z=>eC 4 U (jF 9 [.string ⟨#[109,105,110,105]⟩,.string ⟨#[109,105,110,105]⟩,.string ⟨#[109,105,100,105]⟩] fun g5=>bE (nw 11 31 (fun _ _=>trivial) fun z=>eC 5 U (dM (γ:=ByteArray) (val:=fun v=> .string v) (φ:=fun v=>v∈([⟨#[109,105,110,105]⟩,⟨#[109,105,110,105]⟩,⟨#[109,105,100,105]⟩]:List ByteArray)) U rS U U U U (fun wx hm=>(gV [⟨#[109,105,110,105]⟩,⟨#[109,105,110,105]⟩,⟨#[109,105,100,105]⟩] _ _ _ wx B sb _ hm.k (by omega) (by simp) (by simp) (hm.blkI 0 U) (hm.neRow 0 U U))) fun s6 hs6=>?_)))
   have zs6:s6.size<=100:=kG hs6 (by decide)
   refine bE (nw 11 63 (fun _ _=>trivial) fun z=>wq 6 U (dJ (cs:= [.string nm,.string s6]) U (by kernel_rfl)) (eC 7 U (jF 57 [.string nm,.string s6] fun g7=>bE (nw 11 255 (fun _ _=>trivial) fun z=>eC 8 U (eF (news:= [.string nm,.string s6]) 0 0 eE2 U U U U U U U (by omega) (by unfold maxLen;omega) U U fun v2 hv2=>?_)))))
   refine eD (R:=∃A cc,v2= .slice A (iv+1) cc) (fun wx hm=>dS (hm.ownI 0 U)) ?_
   rintro ⟨vA2,zV,rfl⟩
   refine bE (nw 11 511 (fun _ _=>trivial) fun z=>wq 9 U (bQ uK U U) (eC 10 U (jJ 3 bX2 U U U U U U (bE (nw 11 2047 (fun _ _=>trivial) fun z=>jH (bG (bD (bI (gN U U (bP U (bE ?_)))))))))))
   have hxs:vl.flatMap fX++([.string nm,.string s6]:List Value)=(vl++ [(⟨nm,s6⟩:Vh)]).flatMap fX:=by simp [fX]
   rw [hxs]
   exact cQ (iv+1,vA2,zV,vl++ [(⟨nm,s6⟩:Vh)]) ⟨by dsimp only;omega,bY5 hv3 hx hx4 hnz zs6 (cV4 hcg hs6)⟩ (by dsimp only;omega) ⟨U,U,U,U,U,(cS (by omega)),trivial⟩ (fun _ hm=>(hm.more U (by first|omega|(dsimp only;omega))).pick [2,3,4,5] [0] [0] U U)
  refine jF 9 [.string ⟨#[109,105,110,105]⟩,.string ⟨#[109,105,110,105]⟩,.string ⟨#[109,105,100,105]⟩] fun g8=>bE (nw 11 29 (fun _ _=>trivial) fun z=>?_)
  refine kK [1,5] (by kernel_rfl) U ⟨⟨_,U,?_⟩,⟨_,U,?_⟩,trivial⟩
  ·refine eI bX2 2 U U U (bE ?_)
   refine nw 11 31 (fun _ _=>trivial) fun z=>eC 5 U (dM (γ:=ByteArray) (val:=fun v=> .string v) (φ:=fun v=>v∈([⟨#[109,105,110,105]⟩,⟨#[109,105,110,105]⟩,⟨#[109,105,100,105]⟩]:List ByteArray)) U rS U U U U (fun wx hm=>(gV [⟨#[109,105,110,105]⟩,⟨#[109,105,110,105]⟩,⟨#[109,105,100,105]⟩] _ _ _ wx B sb _ hm.k (by omega) (by simp) (by simp) (hm.blkI 0 U) (hm.neRow 0 U U))) fun s9 hs9=>?_)
   have zs9:s9.size<=100:=kG hs9 (by decide)
   refine bE (nw 11 63 (fun _ _=>trivial) fun z=>wq 6 U (dJ (cs:= [.string nm,.string s9]) U (by kernel_rfl)) (eC 7 U (jF 57 [.string nm,.string s9] fun g10=>bE (nw 11 255 (fun _ _=>trivial) fun z=>eC 8 U (eF (news:= [.string nm,.string s9]) 0 0 eE2 U U U U U U U (by omega) (by unfold maxLen;omega) U U fun v2 hv2=>?_)))))
   refine eD (R:=∃A cc,v2= .slice A (iv+1) cc) (fun wx hm=>dS (hm.ownI 0 U)) ?_
   rintro ⟨vA2,zV,rfl⟩
   refine bE (nw 11 511 (fun _ _=>trivial) fun z=>wq 9 U (bQ uK U U) (eC 10 U (jJ 3 bX2 U U U U U U (bE (nw 11 2047 (fun _ _=>trivial) fun z=>jH (bG (bD (bI (gN U U (bP U (bE ?_)))))))))))
   have hxs:vl.flatMap fX++([.string nm,.string s9]:List Value)=(vl++ [(⟨nm,s9⟩:Vh)]).flatMap fX:=by simp [fX]
   rw [hxs]
   exact cQ (iv+1,vA2,zV,vl++ [(⟨nm,s9⟩:Vh)]) ⟨by dsimp only;omega,bY5 hv3 hx hx4 hnz zs9 (cV4 hcg hs9)⟩ (by dsimp only;omega) ⟨U,U,U,U,U,(cS (by omega)),trivial⟩ (fun _ hm=>(hm.more U (by first|omega|(dsimp only;omega))).pick [2,3,4,5] [0] [0] U U)
  refine dM (γ:=ByteArray) (val:=fun v=> .string v) (φ:=fun v=>v∈([⟨#[109,105,110,105]⟩,⟨#[109,105,110,105]⟩,⟨#[109,105,100,105]⟩]:List ByteArray)) U rS U U U U (fun wx hm=>(gV [⟨#[109,105,110,105]⟩,⟨#[109,105,110,105]⟩,⟨#[109,105,100,105]⟩] _ _ _ wx B sb _ hm.k (by omega) (by simp) (by simp) (hm.blkI 0 U) (hm.neRow 0 U U))) fun s11 hs11=>?_
  have zs11:s11.size<=100:=kG hs11 (by decide)
  refine bE (nw 11 61 (fun _ _=>trivial) fun z=>wq 6 U (dJ (cs:= [.string nm,.string s11]) U (by kernel_rfl)) ?_)
  refine kK [1,7] (by kernel_rfl) U ⟨⟨_,U,?_⟩,⟨_,U,?_⟩,trivial⟩
  ·refine eI bX2 2 U U U (bE ?_)
   refine nw 11 127 (fun _ _=>trivial) fun z=>eC 7 U (jF 57 [.string nm,.string s11] fun g12=>bE (nw 11 255 (fun _ _=>trivial) fun z=>eC 8 U (eF (news:= [.string nm,.string s11]) 0 0 eE2 U U U U U U U (by omega) (by unfold maxLen;omega) U U fun v2 hv2=>?_)))
   refine eD (R:=∃A cc,v2= .slice A (iv+1) cc) (fun wx hm=>dS (hm.ownI 0 U)) ?_
   rintro ⟨vA2,zV,rfl⟩
   refine bE (nw 11 511 (fun _ _=>trivial) fun z=>wq 9 U (bQ uK U U) (eC 10 U (jJ 3 bX2 U U U U U U (bE (nw 11 2047 (fun _ _=>trivial) fun z=>jH (bG (bD (bI (gN U U (bP U (bE ?_)))))))))))
   have hxs:vl.flatMap fX++([.string nm,.string s11]:List Value)=(vl++ [(⟨nm,s11⟩:Vh)]).flatMap fX:=by simp [fX]
   rw [hxs]
   exact cQ (iv+1,vA2,zV,vl++ [(⟨nm,s11⟩:Vh)]) ⟨by dsimp only;omega,bY5 hv3 hx hx4 hnz zs11 (cV4 hcg hs11)⟩ (by dsimp only;omega) ⟨U,U,U,U,U,(cS (by omega)),trivial⟩ (fun _ hm=>(hm.more U (by first|omega|(dsimp only;omega))).pick [2,3,4,5] [0] [0] U U)
  refine jF 57 [.string nm,.string s11] fun g13=>bE (nw 11 253 (fun _ _=>trivial) fun z=>eC 1 U (eI bX2 3 U U U (bE (nw 11 255 (fun _ _=>trivial) fun z=>eC 8 U (eF (news:= [.string nm,.string s11]) 0 0 eE2 U U U U U U U (by omega) (by unfold maxLen;omega) U U fun v2 hv2=>?_)))))
  refine eD (R:=∃A cc,v2= .slice A (iv+1) cc) (fun wx hm=>dS (hm.ownI 0 U)) ?_
  rintro ⟨vA2,zV,rfl⟩
  refine bE (nw 11 511 (fun _ _=>trivial) fun z=>wq 9 U (bQ uK U U) (eC 10 U (jJ 3 bX2 U U U U U U (bE (nw 11 2047 (fun _ _=>trivial) fun z=>jH (bG (bD (bI (gN U U (bP U (bE ?_)))))))))))
  have hxs:vl.flatMap fX++([.string nm,.string s11]:List Value)=(vl++ [(⟨nm,s11⟩:Vh)]).flatMap fX:=by simp [fX]
  rw [hxs]
  exact cQ (iv+1,vA2,zV,vl++ [(⟨nm,s11⟩:Vh)]) ⟨by dsimp only;omega,bY5 hv3 hx hx4 hnz zs11 (cV4 hcg hs11)⟩ (by dsimp only;omega) ⟨U,U,U,U,U,(cS (by omega)),trivial⟩ (fun _ hm=>(hm.more U (by first|omega|(dsimp only;omega))).pick [2,3,4,5] [0] [0] U U)
 refine dE (bF (bF (bY (bD (bH ?_)))))
 have hi3:iv=3:=by omega
 subst hi3
 refine gd (fun wz=>Blk wz g3 31 [.slice (some ⟨g2,0,none⟩) 2 2,.slice cA 4 cc,.slice vA 3 vc,.slice none 0 0]/\True) mixed (fun _ hm=>⟨hm.bl 1,trivial⟩) fun z=>wq 0 U (cX bP5 U (fun _ hm=>hm.1) U U) (wq 1 U (bJ U) (wq 3 U (bJ U) (eC 2 U ?_)))
 refine nR (γ:=Option Addr×Option Addr×Option Addr×Option Addr×Option Addr×Nat×Nat×Nat×Nat×Nat×Nat×Nat×Nat×Nat×Nat) (val:=(fun g=> .agg #[.slice g.1 g.2.2.2.2.2.1 g.2.2.2.2.2.2.1,.slice g.2.1 g.2.2.2.2.2.2.2.1 g.2.2.2.2.2.2.2.2.1,.slice g.2.2.1 g.2.2.2.2.2.2.2.2.2.1 g.2.2.2.2.2.2.2.2.2.2.1,.slice g.2.2.2.1 g.2.2.2.2.2.2.2.2.2.2.2.1 g.2.2.2.2.2.2.2.2.2.2.2.2.1,.slice g.2.2.2.2.1 g.2.2.2.2.2.2.2.2.2.2.2.2.2.1 g.2.2.2.2.2.2.2.2.2.2.2.2.2.2])) (φ:=(fun g=>True)) (Y:=(fun g=>fun wy=>dM4 (.slice g.1 g.2.2.2.2.2.1 g.2.2.2.2.2.2.1) (.slice g.2.1 g.2.2.2.2.2.2.2.1 g.2.2.2.2.2.2.2.2.1) (.slice g.2.2.1 g.2.2.2.2.2.2.2.2.2.1 g.2.2.2.2.2.2.2.2.2.2.1) (.slice g.2.2.2.1 g.2.2.2.2.2.2.2.2.2.2.2.1 g.2.2.2.2.2.2.2.2.2.2.2.2.1) (.slice g.2.2.2.2.1 g.2.2.2.2.2.2.2.2.2.2.2.2.2.1 g.2.2.2.2.2.2.2.2.2.2.2.2.2.2) wy)) (m':=m+23+6000) U fP3 U U U U (fun wx hm=>(fW1 wx B sb _ hm.k (by omega))) (fun _=>dM4.lasts2 U U U U U U) ?_
 rintro ⟨yT,yU,yV,yW,yX,ran,rac,xA,rbc,xB,rcc,xC,rdc,ren,rec⟩ mT
 dsimp only
 clear mT
 refine bE (nw 7 15 (fun _ hm=>⟨hm.bl 1,trivial⟩) fun z=>eC 4 U ?_)
 refine nR (γ:=Int×Int×Int×Int×Int×Int×Int) (val:=(fun g=> .agg #[.int .i64 g.1,.int .i64 g.2.1,.int .i64 g.2.2.1,.int .i64 g.2.2.2.1,.int .i64 g.2.2.2.2.1,.int .i64 g.2.2.2.2.2.1,.int .i64 g.2.2.2.2.2.2])) (φ:=(fun g=>wN ⟨g.1,g.2.1,g.2.2.1,g.2.2.2.1,g.2.2.2.2.1,g.2.2.2.2.2.1,g.2.2.2.2.2.2⟩=0)) (Y:=(fun g=>fun _=>True)) (m':=m+23+6000+400) U fQ3 U U U U (fun wx hm=>(cQ2 wx B sb _ hm.k (by omega)).mono fun _ _ ⟨d,hd,he,hS,hg⟩=>⟨(d.free,d.km,d.eighth,d.grace,d.hour,d.day,d.deposit),he,hd,hS,hg,trivial⟩) (fun _=>Lasts2.true_) ?_
 rintro ⟨da,db,dc,dd,de,df,dg⟩ hdz
 dsimp only at hdz ⊢
 refine bE (nw 7 31 (fun _ hm=>⟨hm.bl 1,trivial⟩) fun z=>wq 5 U (dJ (cs:= [.slice (some ⟨g2,0,none⟩) 2 2,.slice cA 4 cc,.slice vA 3 vc,.slice none 0 0,.slice yT ran rac,.slice yU xA rbc,.slice yV xB rcc,.slice yW xC rdc,.slice yX ren rec,.int .i64 da,.int .i64 db,.int .i64 dc,.int .i64 dd,.int .i64 de,.int .i64 df,.int .i64 dg]) U (by kernel_rfl)) (eC 6 U (jX (cs':= [.slice (some ⟨g2,0,none⟩) 2 2,.slice cA 4 cc,.slice vA 3 vc,.slice none 0 0,.slice yT ran rac,.slice yU xA rbc,.slice yV xB rcc,.slice yW xC rdc,.slice yX ren rec,.int .i64 da,.int .i64 db,.int .i64 dc,.int .i64 dd,.int .i64 de,.int .i64 df,.int .i64 dg]) 3 cS2 U U U U (bE (nw 7 127 (fun _ hm=>⟨hm.bl 1,trivial⟩) fun z=>jH (bD (bM ?_)))))))
 refine bY1 3 U cS2 U U U fun wx hm=>?_
 exact ⟨_,cA,vA,2,cc,vc,cl,vl,yT,yU,yV,yW,yX,ran,rac,xA,rbc,xB,rcc,xC,rdc,ren,rec,da,db,dc,dd,de,df,dg,U,⟨hcl4,bZ6,dT4 hcg,hv3⟩,eZ7 (hm.blkI 2 U),(hm.fact 2 U),SlT.ofOwn eG8 (hm.ownI 0 U) hv3.1,eB3 hdz (hm.fact 1 U),hm.k.more (by omega),hm.g⟩
def wW (x y:Ny):Bool:=decide (wD x y < 0)
theorem dN9  (l0:List Ny) (br n eV base:Nat) (w:World) (h:w.ownsRow base 171 4 (.slice (some ⟨br,0,none⟩) n eV) n (l0.flatMap eS)) (uM:l0.length=n) (hn:n<=1000000) (bP0:∀x∈l0,uS x):
 Calls prog 159 #[.slice (some ⟨br,0,none⟩) n eV,.int .i64 0,.int .i64 ((n:Nat):Int),.func (.func 71) #[] #[]] w (fun e w'=>e=.returned (.tuple #[])/\w'.ownsRow base 171 4 (.slice (some ⟨br,0,none⟩) n eV) n ((dR (wW) l0).flatMap eS)/\w.grownBy w' (some br)):=by
 obtain ⟨R,hR⟩:∃z,z=dR (wW) l0:=⟨_,rfl⟩
 rw [<-hR]
 refine cV ⟨53,w,(some br), []⟩ func159 U ntmps159 U (bV2 (X:= []) h cY cZ) (bS (bP U (gN U U (bL 11 (v':= .int .i64 1) U U (bZ U (bR (bO ?_)))))))
 refine dX (γ:=Nat×List Ny) (fun gg=>(1<=gg.1/\gg.1<=n+1)/\gg.2.length=n/\pV (wW) (n - gg.1) gg.1 gg.2=R) (fun gg=> [(0,.slice (some ⟨br,0,none⟩) n eV),(1,.int .i64 0),(2,.int .i64 ((n:Nat):Int)),(3,.func (.func 71) #[] #[]),(8,.int .i64 ((gg.1:Nat):Int))]) (fun gg=>gG base 171 4 n eV br ((gg.2).flatMap eS)) (fun gg=> []) (fun gg=> []) (fun gg=> []) (fun gg=>n+1 - gg.1) (1,l0) ⟨⟨Nat.le_refl _,by omega⟩,uM,by rw [hR];unfold dR;rw [uM]⟩ ⟨U,U,U,U,(cS (by omega)),trivial⟩ (fun _ hm=>hm.pick [] [] [] U U) ?_
 rintro ⟨i,l⟩ cC
 replace cC:(1<=i/\i<=n+1)/\l.length=n/\pV (wW) (n - i) i l=R:=cC
 dsimp only
 refine bH (bS ?_)
 obtain ⟨⟨hi1,vO⟩,hl1,hR1⟩:=cC
 refine bP U (bP U (bB (dD U U) U (bR ?_)))
 refine cE U (fun hi=>?_) (fun hi=>?_)
 ·refine bN (bD (bH (bO (bS ?_))))
  have hRi:pV (wW) (n - (i+1)) (i+1) (uO (wW) i l)=R:=by rw [<-hR1,show n - i=(n - (i+1))+1 by omega];rfl
  obtain ⟨S,hS⟩:∃z,z=uO (wW) i l:=⟨_,rfl⟩
  rw [<-hS] at hRi
  have hSl:S.length=n:=by rw [hS,xR];exact hl1
  refine bP U (bZ U (bR (bO ?_)))
  refine dX (γ:=Nat×List Ny) (fun gg=>(gg.1<=i)/\gg.2.length=n/\uO (wW) gg.1 gg.2=S) (fun gg=> [(0,.slice (some ⟨br,0,none⟩) n eV),(1,.int .i64 0),(2,.int .i64 ((n:Nat):Int)),(3,.func (.func 71) #[] #[]),(8,.int .i64 ((i:Nat):Int)),(9,.int .i64 ((gg.1:Nat):Int))]) (fun gg=>gG base 171 4 n eV br ((gg.2).flatMap eS)) (fun gg=> []) (fun gg=> []) (fun gg=> []) (fun gg=>gg.1) (i,l) ⟨Nat.le_refl _,hl1,hS.symm⟩ ⟨U,U,U,U,U,U,trivial⟩ (fun _ hm=>hm.pick [] [] [] U U) ?_
  rintro ⟨jj,m⟩ cC
  replace cC:(jj<=i)/\m.length=n/\uO (wW) jj m=S:=cC
  dsimp only
  refine bH (bH ?_)
  obtain ⟨hj1,pQ,hS1⟩:=cC
  rcases jj with _|j
  ·refine gd (fun wz=>True) mixed (fun _ _=>trivial) fun z=>?_
   refine wq 0 U (bJ U) (dG 18 (v':= .int .i64 0) U U (wq 1 U (bJ U) (wq 2 U (eJ U U) (dG 20 (v':= .bool false) U (fH5 (by decide)) (wq 3 U (bJ U) (fC 4 U (fC 5 U (fC 6 U (fC 7 U (fC 8 U (fC 9 U (fC 10 U (fC 11 U (fC 12 U (fC 13 U (fC 14 U (fC 15 U (wq 16 U (fN U U) (jH (bD (jU U (dE (bF (bF (bY ?_)))))))))))))))))))))))))
   refine bG (bD (bI (bP U (gN U U (bZ U (bE ?_))))))
   have hm2:m=S:=hS1
   exact cQ (i+1,m) ⟨⟨by dsimp only;omega,by dsimp only;omega⟩,by rw [hm2];exact hSl,by rw [hm2];exact hRi⟩ (by dsimp only;omega) ⟨U,U,U,U,(cS (by omega)),trivial⟩ (fun _ hm=>hm.pick [] [] [] U U)
  have hj2:j+1 < n:=by omega
  have hin:∀z∈m,z∈l0:=fun z hz=>eG7 hR hRi hS1 hz
  obtain ⟨xx,hx⟩:∃x,m[j+1]?=some x:=⟨_,fJ5 (by omega)⟩
  obtain ⟨x0,x1,x2,x3⟩:=xx
  obtain ⟨yy,hy⟩:∃x,m[j]?=some x:=⟨_,fJ5 (by omega)⟩
  obtain ⟨y0,y1,y2,y3⟩:=yy
  refine gd (fun wz=>(gG base 171 4 n eV br ((m).flatMap eS)) wz/\True) mixed (fun _ hm=>⟨hm.k,trivial⟩) fun z=>wq 0 U (bJ U) (wq 1 U (bJ U) (wq 2 U (eJ U U) (dG 20 (v':= .bool true) U (fH5 (decide_eq_true (by omega))) (wq 3 U (bJ U) (fI 4 U (bJ U) (fI 5 U (bJ U) (fI 6 U (bJ U) (fI 7 U (bT (j:=(j+1)) vC U U (by omega)) (fI 8 U (dO (vs:= [.int .i64 x0,.string x1,.int .i64 x2,.string x3]) kM U (fun _ hm=>(gG.get (hm.1) wE pQ)) hx U U) (fI 9 U (bJ U) (fI 10 U (bJ U) (fI 11 U (ov_sub U U (by omega) (by omega)) (dG 29 (v':= .int .i64 ((j:Nat):Int)) U (fI5 (by omega)) (fI 12 U (bT (j:=j) vC U U (by omega)) (fI 13 U (dO (vs:= [.int .i64 y0,.string y1,.int .i64 y2,.string y3]) kM U (fun _ hm=>(gG.get (hm.1) wE pQ)) hy U U) (eC 14 U (eG U (cL U fG1 U U (fun wx hm=>(bI0 x0 x1 x2 x3 y0 y1 y2 y3 wx (bP0 _ (hin _ (fK5 hx))) (bP0 _ (hin _ (fK5 hy))))) (bE (nw 17 32767 (fun _ hm=>⟨hm.k,trivial⟩) fun z=>fI 15 U (dD U U) (wq 16 U (fD U U) (jH (bD ?_)))))))))))))))))))))))
  refine cE U (fun hlt=>?_) (fun hlt=>?_)
  ·refine bN (bD (bH (bO ?_)))
   have hlt2:(wW) ⟨x0,x1,x2,x3⟩ ⟨y0,y1,y2,y3⟩=true:=decide_eq_true (show wD ⟨x0,x1,x2,x3⟩ ⟨y0,y1,y2,y3⟩ < 0 from hlt)
   have hS2:=(bR5 hx hy hlt2).symm.trans hS1
   refine gd (fun wz=>True) mixed (fun _ _=>trivial) fun z=>wq 0 U (bJ U) (wq 1 U (bJ U) (wq 2 U (bJ U) (wq 3 U (bJ U) (wq 4 U (ov_sub U U (by omega) (by omega)) (dG 41 (v':= .int .i64 ((j:Nat):Int)) U (fI5 (by omega)) (wq 5 U (bJ U) (wq 6 U (bJ U) (wq 7 U (ov_sub U U (by omega) (by omega)) (dG 44 (v':= .int .i64 ((j:Nat):Int)) U (fI5 (by omega)) (wq 8 U (bT (j:=j) vC U U (by omega)) (wq 10 U (bJ U) (wq 11 U (bJ U) (wq 12 U (bT (j:=(j+1)) vC U U (by omega)) ?_)))))))))))))
   refine kK [9,13] (by kernel_rfl) U ⟨⟨_,U,?_⟩,⟨_,U,?_⟩,trivial⟩
   ·refine bB (dO (vs:= [.int .i64 y0,.string y1,.int .i64 y2,.string y3]) kM U (fun _ hm=>(gG.get hm.k wE pQ)) hy U U) U ?_
    refine bE (nw 18 8191 (fun _ _=>trivial) fun z=>eC 13 U (bB (dO (vs:= [.int .i64 x0,.string x1,.int .i64 x2,.string x3]) kM U (fun _ hm=>(gG.get hm.k wE pQ)) hx U U) U (bE (nw 18 16383 (fun _ _=>trivial) fun z=>wq 14 U (bT (j:=(j+1)) vC U U (by omega)) (eC 15 U (eX (l:=m) (j:=j+1) (r:=0) (el:=⟨x0,x1,x2,x3⟩) (el':=⟨y0,y1,y2,y3⟩) U kM U U U U wE U hx pQ (by decide) U U (bE (nw 18 65535 (fun _ _=>trivial) fun z=>wq 16 U (bT (j:=j) vC U U (by omega)) (eC 17 U ?_)))))))))
    refine eX (l:=m.set (j+1) ⟨y0,y1,y2,y3⟩) (j:=j) (r:=0) (el:=⟨y0,y1,y2,y3⟩) (el':=⟨x0,x1,x2,x3⟩) U kM U U U U wE U (by rw [List.getElem?_set_ne (by omega)];exact hy) (by rw [List.length_set];exact pQ) (by decide) U U ?_
    refine bE (nw 18 262143 (fun _ _=>trivial) fun z=>jH (bG (bD (bI (bP U (bB (ov_sub U U (by omega) (by omega)) U (bL 36 (v':= .int .i64 ((j:Nat):Int)) U (fI5 (by omega)) (bZ U (bE ?_)))))))))
    exact cQ (j,(m.set (j+1) ⟨y0,y1,y2,y3⟩).set j ⟨x0,x1,x2,x3⟩) ⟨by dsimp only;omega,by simp [pQ],hS2⟩ (by dsimp only;omega) ⟨U,U,U,U,U,(cS (by omega)),trivial⟩ (fun _ hm=>hm.pick [] [] [] U U)
   refine bB (dO (vs:= [.int .i64 x0,.string x1,.int .i64 x2,.string x3]) kM U (fun _ hm=>(gG.get hm.k wE pQ)) hx U U) U (bE (nw 18 15871 (fun _ _=>trivial) fun z=>eC 9 U (bB (dO (vs:= [.int .i64 y0,.string y1,.int .i64 y2,.string y3]) kM U (fun _ hm=>(gG.get hm.k wE pQ)) hy U U) U (bE (nw 18 16383 (fun _ _=>trivial) fun z=>wq 14 U (bT (j:=(j+1)) vC U U (by omega)) (eC 15 U (eX (l:=m) (j:=j+1) (r:=0) (el:=⟨x0,x1,x2,x3⟩) (el':=⟨y0,y1,y2,y3⟩) U kM U U U U wE U hx pQ (by decide) U U (bE (nw 18 65535 (fun _ _=>trivial) fun z=>wq 16 U (bT (j:=j) vC U U (by omega)) (eC 17 U ?_))))))))))
   refine eX (l:=m.set (j+1) ⟨y0,y1,y2,y3⟩) (j:=j) (r:=0) (el:=⟨y0,y1,y2,y3⟩) (el':=⟨x0,x1,x2,x3⟩) U kM U U U U wE U (by rw [List.getElem?_set_ne (by omega)];exact hy) (by rw [List.length_set];exact pQ) (by decide) U U ?_
   refine bE (nw 18 262143 (fun _ _=>trivial) fun z=>jH (bG (bD (bI (bP U (bB (ov_sub U U (by omega) (by omega)) U (bL 36 (v':= .int .i64 ((j:Nat):Int)) U (fI5 (by omega)) (bZ U (bE ?_)))))))))
   exact cQ (j,(m.set (j+1) ⟨y0,y1,y2,y3⟩).set j ⟨x0,x1,x2,x3⟩) ⟨by dsimp only;omega,by simp [pQ],hS2⟩ (by dsimp only;omega) ⟨U,U,U,U,U,(cS (by omega)),trivial⟩ (fun _ hm=>hm.pick [] [] [] U U)
  refine dE (bF (bF (bY (bG (bD (bI ?_))))))
  have hlt2:(wW) ⟨x0,x1,x2,x3⟩ ⟨y0,y1,y2,y3⟩=false:=decide_eq_false (show ¬wD ⟨x0,x1,x2,x3⟩ ⟨y0,y1,y2,y3⟩ < 0 from hlt)
  have hS2:=(bK9 hx hy hlt2).symm.trans hS1
  refine bP U (gN U U (bZ U (bE ?_)))
  have hm2:m=S:=hS2
  exact cQ (i+1,m) ⟨⟨by dsimp only;omega,by dsimp only;omega⟩,by rw [hm2];exact hSl,by rw [hm2];exact hRi⟩ (by dsimp only;omega) ⟨U,U,U,U,(cS (by omega)),trivial⟩ (fun _ hm=>hm.pick [] [] [] U U)
 refine dE (bF (bF (bY ?_)))
 obtain rfl:l=R:=by rw [<-hR1,show n - i=0 by omega];rfl
 refine jD U fun wx hm=>?_
 exact ⟨U,mD hm.k hm.g⟩
theorem dS0 (l0:List Ny) (br n eV base:Nat) (w:World) (h:w.ownsRow base 171 4 (.slice (some ⟨br,0,none⟩) n eV) n (l0.flatMap eS)) (hn:n<=1000000):Calls prog 159 #[.slice (some ⟨br,0,none⟩) n eV,.int .i64 ((n:Nat):Int),.int .i64 ((n:Nat):Int),.func (.func 71) #[] #[]] w (fun e w'=>e=.returned (.tuple #[])/\w'.ownsRow base 171 4 (.slice (some ⟨br,0,none⟩) n eV) n ((l0).flatMap eS)/\w.grownBy w' (some br)):=by
 refine cV ⟨53,w,(some br), []⟩ func159 U ntmps159 U (bV2 (X:= []) h cY cZ) (bS (bP U (gN U U (bZ U (bR (bO (eZ 1 (eB (bH (bS (bP U (bP U (bB (dD U U) U (bR (gJ 14 (v':= .bool false) U (fH5 (decide_eq_false (by omega))) (jU U (dE (bF (bF (bY ?_))))))))))))))))))))
 refine jD U fun wx hm=>?_
 exact ⟨U,mD hm.k hm.g⟩
theorem eE4 (l0:List Ny) (br n eV base:Nat) (w:World) (h:w.ownsRow base 171 4 (.slice (some ⟨br,0,none⟩) n eV) n (l0.flatMap eS)) (uM:l0.length=n) (hn:n<=19) (bP0:∀x∈l0,uS x):Calls prog 118 #[.slice (some ⟨br,0,none⟩) n eV,.int .i64 ((n:Nat):Int),.func (.func 71) #[] #[]] w (fun e w'=>e=.returned (.tuple #[])/\w'.ownsRow base 171 4 (.slice (some ⟨br,0,none⟩) n eV) n ((dR wW l0).flatMap eS)/\w.grownBy w' (some br)):=by
 refine cV ⟨63,w,(some br), []⟩ func118 U ntmps118 U (bV2 (X:= []) h cY cZ) (bS (bZ U (bR (bS (bP U (bZ U (bZ U (bR (bH (bO (eZ 1 (eB (bH (bS (bP U (bP U (bB (mV U U) U (bL 13 (v':= .bool false) U (fH5 (decide_eq_false (by omega))) (bR (jU U (dE (bF (bF (bY ?_))))))))))))))))))))))))
 refine bD (bS (bP U (bP U (bP U (bP U ?_)))))
 refine mC U U U dL2 U U (fun wx hm=>(dN9 l0 br n eV base wx hm.k uM (by omega) bP0)) ?_
 refine bR (bO (eZ 1 (eB (bH (bS (bP U (bP U (bB (dD U U) U (bL 30 (v':= .bool false) U (fH5 (decide_eq_false (by omega))) (bR (jU U (dE (bF (bF (bY ?_)))))))))))))))
 refine jD U fun wx hm=>?_
 exact ⟨U,mD hm.k hm.g⟩
theorem eG4 (l0:List Ny) (br n eV base:Nat) (w:World) (h:w.ownsRow base 171 4 (.slice (some ⟨br,0,none⟩) n eV) n (l0.flatMap eS)) (uM:l0.length=n) (hn:n=20) (bP0:∀x∈l0,uS x):Calls prog 118 #[.slice (some ⟨br,0,none⟩) n eV,.int .i64 ((n:Nat):Int),.func (.func 71) #[] #[]] w (fun e w'=>e=.returned (.tuple #[])/\w'.ownsRow base 171 4 (.slice (some ⟨br,0,none⟩) n eV) n ((dR wW l0).flatMap eS)/\w.grownBy w' (some br)):=by
 refine cV ⟨63,w,(some br), []⟩ func118 U ntmps118 U (bV2 (X:= []) h cY cZ) (bS (bZ U (bR (bS (bP U (bZ U (bZ U (bR (bH (bO (eZ 3 (eB (bH (bS (bP U (bP U (bB (mV U U) U (bR (gJ 13 (v':= .bool true) U (fH5 (decide_eq_true (by omega))) (kQ U (bN (bD (bO (bS (bP U (bP U (bP U (bP U ?_))))))))))))))))))))))))))))
 refine mC (xs':=(dR wW l0).flatMap eS) U U U dL2 U U (fun wx hm=>(by have h:=dN9 l0 br n eV base wx hm.k uM (by omega) bP0;rw [hn] at h ⊢;exact h)) ?_
 refine bR (bS (bP U (bZ U (bR (bI (bP U (bP U (gN U U (bL 22 (v':= .int .i64 40) U U (bZ U (bE (bG (hW (eB (bH (bS (bP U (bP U (bB (mV U U) U (bR (gJ 13 (v':= .bool false) U (fH5 (decide_eq_false (by omega))) (jU U (dE (bF (bF (bY ?_))))))))))))))))))))))))))
 refine bD (bS (bP U (bP U (bP U (bP U ?_)))))
 refine mC (xs':=(dR wW l0).flatMap eS) U U U dL2 U U (fun wx hm=>(by have h:=dS0 (dR wW l0) br n eV base wx hm.k (by omega);rw [hn] at h ⊢;exact h)) ?_
 refine bR (bO (eZ 3 (eB (bH (bS (bP U (bP U (bB (dD U U) U (bR (gJ 30 (v':= .bool false) U (fH5 (decide_eq_false (by omega))) (jU U (dE (bF (bF (bY ?_)))))))))))))))
 refine jD U fun wx hm=>?_
 exact ⟨U,mD hm.k hm.g⟩
theorem dQ6 (l0:List Ny) (br n eV base:Nat) (w:World) (h:w.ownsRow base 171 4 (.slice (some ⟨br,0,none⟩) n eV) n (l0.flatMap eS)) (uM:l0.length=n) (hn:n<=20) (bP0:∀x∈l0,uS x):Calls prog 70 #[.slice (some ⟨br,0,none⟩) n eV,.func (.func 71) #[] #[]] w (fun e w'=>e=.returned (.tuple #[])/\w'.ownsRow base 171 4 (.slice (some ⟨br,0,none⟩) n eV) n ((dR wW l0).flatMap eS)/\w.grownBy w' (some br)):=by
 refine cV ⟨9,w,(some br), []⟩ func70 U ntmps70 U (bV2 (X:= []) h cY cZ) (bI (bP U (bP U (bB (dT vC U) U (bP U ?_)))))
 refine mC (xs':=(dR wW l0).flatMap eS) U U U eB5 U U (fun wx hm=>(by
  rcases (show n<=19∨n=20 by omega) with h9|h9
  ·exact eE4 l0 br n eV base wx hm.k uM h9 bP0
  exact eG4 l0 br n eV base wx hm.k uM h9 bP0)) ?_
 refine bE ?_
 refine jD U fun wx hm=>?_
 exact ⟨U,mD hm.k hm.g⟩
theorem eD3 (A:Option Addr) (eV:Nat) (w:World):Calls prog 159 #[.slice A 0 eV,.int .i64 0,.int .i64 0,.func (.func 71) #[] #[]] w (fun e w'=>e=.returned (.tuple #[])/\w.grownBy w' none):=by
 refine cV ⟨53,w,none, []⟩ func159 U ntmps159 U (gR (X:= []) cY cZ) (bS (bP U (gN U U (bL 11 (v':= .int .i64 1) U U (bZ U (bR (bO (eZ 1 (eB (bH (bS (bP U (bP U (bB (dD U U) U (bL 14 (v':= .bool false) U (fH5 (by decide)) (bR (jU U (dE (bF (bF (bY ?_)))))))))))))))))))))
 refine jD U fun wx hm=>?_
 exact ⟨U,hm.g⟩
theorem eC4 (A:Option Addr) (eV:Nat) (w:World):Calls prog 118 #[.slice A 0 eV,.int .i64 0,.func (.func 71) #[] #[]] w (fun e w'=>e=.returned (.tuple #[])/\w.grownBy w' none):=by
 refine cV ⟨63,w,none, []⟩ func118 U ntmps118 U (gR (X:= []) cY cZ) (bS (bZ U (bR (bS (bP U (bZ U (bZ U (bR (bH (bO (eZ 1 (eB (bH (bS (bP U (bP U (bB (mV U U) U (bL 13 (v':= .bool false) U (fH5 (by decide)) (bR (jU U (dE (bF (bF (bY ?_))))))))))))))))))))))))
 refine bD (bS (bP U (bP U (bP U (bP U (cL U dL2 U U (fun wx hm=>(eD3 A eV wx)) (bR (bO (eZ 1 (eB (bH (bS (bP U (bP U (bB (dD U U) U (bL 30 (v':= .bool false) U (fH5 (by decide)) (bR (jU U (dE (bF (bF (bY ?_))))))))))))))))))))))
 refine jD U fun wx hm=>?_
 exact ⟨U,hm.g⟩
theorem dR1 (A:Option Addr) (eV:Nat) (w:World):Calls prog 70 #[.slice A 0 eV,.func (.func 71) #[] #[]] w (fun e w'=>e=.returned (.tuple #[])/\w.grownBy w' none):=by
 refine cV ⟨9,w,none, []⟩ func70 U ntmps70 U (gR (X:= []) cY cZ) (bI (bB (bJ U) U (bB (bJ U) U (bB (dT vC U) U (bL 6 (v':= .int .i64 0) U U (bB (bJ U) U (cL U eB5 U U (fun wx hm=>(eC4 A eV wx)) (bE ?_))))))))
 refine jD U fun wx hm=>?_
 exact ⟨U,hm.g⟩
end Go.Proofs.YtmifpfcmldflkaaGreatDoor
