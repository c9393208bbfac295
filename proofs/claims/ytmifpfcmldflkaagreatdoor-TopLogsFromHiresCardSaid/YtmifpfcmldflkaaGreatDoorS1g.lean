/- Several texts as one: Va Hk Ln Tot Gt Lf Vc Ua Tbq Tb Tn Ub Tx Uc Fy Qa Qb Qc Qd Vb Qe Rtf Gd Ge Hou Dks -/
import Derived.Test.YtmifpfcmldflkaaGreatDoorS1f
import Derived.Test.YtmifpfcmldflkaaGreatDoorS1c
import Derived.Test.YtmifpfcmldflkaaGreatDoorS1b
import Derived.Test.YtmifpfcmldflkaaGreatDoorS1a
import Derived.IntWalk
import Derived.Test.YtmifpfcmldflkaaGreatDoorS1d
import Derived.OneCell
import Derived.Test.YtmifpfcmldflkaaGreatDoorS1e
set_option maxRecDepth 100000
set_option maxHeartbeats 4000000
namespace Go.Proofs.YtmifpfcmldflkaaGreatDoor
open Tryz
open Go.RowKit
structure Tx where
 key:ByteArray
 mille:Int
 A:Option Addr
 n:Nat
 c:Nat
 on:List Int
 over:Bool
def jU (x:Tx):List Value:= [.string x.key,.int .i64 x.mille,.slice x.A x.n x.c,.bool x.over]
theorem fX (x:Tx):(jU x).length=4:=rfl
def jF (x:Tx):Prop:=x.key.size<=1000000/\x.n<=1000
def Ons (l:List Tx) (w:World):Prop:=∀x∈l,SlT kF 1 3 w x.A x.n x.on
def mQ (N:Nat) (row:Option Nat) (l:List Tx) (w:World):Prop:=∀x∈l,bW kF 1 3 N row x.A x.n x.on w
theorem mQ.lasts {N:Nat} {row:Option Nat} {Tt:List TypeId} {l:List Tx}:Lasts2 N row Tt (mQ N row l):=cG2 fun _ _=>bW.lasts
theorem Ons.lasts {N:Nat} {row:Option Nat} {Tt:List TypeId} {l:List Tx} (hT:Tt.contains 3=true):Lasts2 N row Tt (Ons l):=cG2 fun _ _=>SlT.lasts2 hT
theorem Ons.old {l:List Tx} {w:World} (h:Ons l w):mQ w.heap.size none l w:=fun x hx=>(h x hx).old
theorem mQ.ons {N:Nat} {row:Option Nat} {l:List Tx} {w:World} (h:mQ N row l w):Ons l w:=fun x hx=>(h x hx).1
def onB (p:Option Int) (k:Int):Bool:=match p with
 |none=>false
 |some q=>decide (k<=q)
def onE (p:Option Int) (k:Int):Int:=if decide (k=5)|| !inB k 1 6 then 4 else if onB p k then 7 else 0
def bA6 (l:List Int):Int:=scanE onE none l
def uV (k:ByteArray) (x:Tx):Bool:=x.key.toList==k.toList
def vX (pre:List Tx) (x:Tx):Int:=if !keyB x.key then 5 else if pre.any (uV x.key) then 6 else if !inB x.mille 0 1000 then 1 else bA6 x.on
def cA5:List Tx->List Tx->Int
 |_, []=>0
 |pre,x::r=>if vX pre x=0 then cA5 (pre++ [x]) r else vX pre x
theorem dO2 {l:List Tx} {i:Nat} {x:Tx} (h:l[i]?=some x):cA5 (l.take i) (l.drop i)=if vX (l.take i) x=0 then cA5 (l.take (i+1)) (l.drop (i+1)) else vX (l.take i) x:=by
 obtain ⟨hi,rfl⟩:=List.getElem?_eq_some_iff.1 h
 rw [List.drop_eq_getElem_cons hi,List.take_add_one,fW3 hi]
 rfl
theorem cQ7 {l:List Tx} {i:Nat} (h:l.length<=i):cA5 (l.take i) (l.drop i)=0:=by rw [List.drop_eq_nil_of_le h];rfl
def vV (l:List Tx):Int:=if 10 < l.length then 2 else cA5 [] l
theorem dO4 (key:ByteArray) (mi:Int) (At:Option Addr) (nt ct:Nat) (on:List Int) (ov:Bool) (gk:Nat) (k0:ByteArray) (k1:Int) (k2:Option Addr) (k3 k4:Nat) (k5:Bool) (w:World) (hk:Blk w gk 263 [.string k0,.int .i64 k1,.slice k2 k3 k4,.bool k5]):
 Calls prog 208 #[.agg #[.string key,.int .i64 mi,.slice At nt ct,.bool ov],.pointer (some ⟨gk,0,none⟩)] w (fun e w'=>e=.returned (.bool (uV k0 ⟨key,mi,At,nt,ct,on,ov⟩))/\w.grownBy w' none):=by
 refine cS ⟨9,w,none, []⟩ func208 U ntmps208 U (gM (X:= [fL w.heap.size none gk 263 [.string k0,.int .i64 k1,.slice k2 k3 k4,.bool k5]]) (cF hk.old cX) (cG fL.lasts cY)) (bR (fG U U U fun g1=>bX U (bQ (bR (dY vC U U (eJ fC 0 U U U (dY vC U U (bB (cQ (v:= .string k0) fC U (fun _ hm=>(hm.fact 0 U).2) U) U (bB (eS U U) U (bX U (bQ (bM ?_))))))))))))
 exact bJ U U fun wx hm=>⟨U,hm.g⟩
theorem cF9 (l:List Tx) (A:Option Addr) (n c0:Nat) (gk:Nat) (k0:ByteArray) (k1:Int) (k2:Option Addr) (k3 k4:Nat) (k5:Bool) (w:World) (hl:SlT jU 4 263 w A n l) (hn:n<=1000000) (hk:Blk w gk 263 [.string k0,.int .i64 k1,.slice k2 k3 k4,.bool k5]):
 Calls prog 203 #[.slice A n c0,.func (.func 208) #[] #[.pointer (some ⟨gk,0,none⟩)]] w (mP w (mI (uV k0) l 0)):=by
 refine cS ⟨19,w,none, []⟩ func203 U ntmps203 U (gM (X:= [bW jU 4 263 w.heap.size none A n l,fL w.heap.size none gk 263 [.string k0,.int .i64 k1,.slice k2 k3 k4,.bool k5]]) (cF hl.old (cF hk.old cX)) (cG bW.lasts (cG fL.lasts cY))) (bR ?_)
 have hlen:=hl.len
 refine bX U (bQ (bH (bR (bP U (bB (dT zW U) U (bP U (bQ (bO ?_))))))))
 refine dX (γ:=Nat) (fun (i:Nat)=>i<=n/\mI (uV k0) l 0=mI (uV k0) (l.drop i) i) (fun (i:Nat)=> [(0,.slice A n c0),(1,.func (.func 208) #[] #[.pointer (some ⟨gk,0,none⟩)]),(7,.int .i64 ((n:Nat):Int)),(8,.int .i64 ((i:Nat):Int))]) (fun (i:Nat)=>fun _=>True) (fun (i:Nat)=> []) (fun (i:Nat)=> []) (fun (i:Nat)=> [bW jU 4 263 w.heap.size none A n l,fL w.heap.size none gk 263 [.string k0,.int .i64 k1,.slice k2 k3 k4,.bool k5]]) (fun (i:Nat)=>n - i) 0 ⟨Nat.zero_le _,U⟩ ⟨U,U,U,U,trivial⟩ (fun _ hm=>hm.pick [] [] [0,1] U U) ?_
 intro i cB
 replace cB:i<=n/\mI (uV k0) l 0=mI (uV k0) (l.drop i) i:=cB
 refine bR (bB (dE U U) U (bQ (bH ?_)))
 refine cC U (fun hi=>?_) (fun hi=>?_)
 ·refine bN (bD (bH (bO (bR ?_))))
  obtain ⟨b,off,hA,_,_⟩:=hl.get (by omega)
  subst hA
  obtain ⟨x,hx⟩:∃x,l[i]?=some x:=⟨_,fW3 (by omega)⟩
  obtain ⟨key,mi,At,nt,ct,on,ov⟩:=x
  have hat:=yA (p:=uV k0) hx
  refine bP U (bX U (bQ (bR (bP U (bP U (bP U (bB (bV (j:=i) zW U U (by omega)) U (bB (dP (vs:= [.string key,.int .i64 mi,.slice At nt ct,.bool ov]) zB U (fun _ hm=>(hm.fact 0 U).1) hx U U) U (cH U eB9 U U (fun wx hm=>(dO4 key mi At nt ct on ov gk k0 k1 k2 k3 k4 k5 wx (hm.fact 1 U).2)) (bQ ?_))))))))))
  refine dC U (fun hh=>?_) (fun hh=>?_)
  ·have hq:(uV k0 ⟨key,mi,At,nt,ct,on,ov⟩)=true:=by simpa using hh
   refine bR (bP U (bX U (bQ (bM (bC (bA (bA (bC (bA ?_)))))))))
   exact bJ U U fun wx hm=>⟨bT (by rw [cB.2,hat,if_pos hq]),hm.g⟩
  have hq:(uV k0 ⟨key,mi,At,nt,ct,on,ov⟩)=false:=by simpa using hh
  refine bN (bG (bD (bI (gO U U (bP U (bE ?_))))))
  exact cN (i+1) ⟨by omega,by rw [cB.2,hat,if_neg (by rw [hq];decide)]⟩ (by omega) ⟨U,U,U,(cR (by omega)),trivial⟩ (fun _ hm=>hm.pick [] [] [0,1] U U)
 refine dD (bF (bF (bY (bD (bR (bX U (bK 4 (v':= .int .i64 (-1)) U U (bQ (bM ?_)))))))))
 exact bJ U U fun wx hm=>⟨bT (by rw [cB.2,List.drop_eq_nil_of_le (by omega)];rfl),hm.g⟩
theorem dV7 (l:List Tx) (A:Option Addr) (n c0:Nat) (gk:Nat) (k0:ByteArray) (k1:Int) (k2:Option Addr) (k3 k4:Nat) (k5:Bool) (w:World) (hl:SlT jU 4 263 w A n l) (hn:n<=1000000) (hk:Blk w gk 263 [.string k0,.int .i64 k1,.slice k2 k3 k4,.bool k5]):
 Calls prog 156 #[.slice A n c0,.func (.func 208) #[] #[.pointer (some ⟨gk,0,none⟩)]] w (fun e w'=>e=.returned (.bool (l.any (uV k0)))/\w.grownBy w' none):=by
 refine cS ⟨9,w,none, []⟩ func156 U ntmps156 U (gM (X:= [bW jU 4 263 w.heap.size none A n l,fL w.heap.size none gk 263 [.string k0,.int .i64 k1,.slice k2 k3 k4,.bool k5]]) (cF hl.old (cF hk.old cX)) (cG bW.lasts (cG fL.lasts cY))) (bR (bX U (bQ (bR (bP U (bP U (cH U eB4 U U (fun wx hm=>(cF9 l A n c0 gk k0 k1 k2 k3 k4 k5 wx (hm.fact 0 U).1 hn (hm.fact 1 U).2)) (bB (mG U U) U (bX U (bQ (bM ?_)))))))))))
 exact bJ U U fun wx hm=>⟨by rw [<-bQ9],hm.g⟩
theorem bT8 (l:List Tx) (A:Option Addr) (n c0:Nat) (w:World) (hl:SlT jU 4 263 w A n l) (hg:Ons l w) (hok:∀x∈l,jF x) (hn:n<=1000000) (hc:n<=c0):
 Calls prog 167 #[.slice A n c0] w (mP w (vV l)):=by
 refine cS ⟨64,w,none, []⟩ func167 U ntmps167 U (gM (X:= [bW jU 4 263 w.heap.size none A n l,mQ w.heap.size none l]) (cF hl.old (cF hg.old cX)) (cG bW.lasts (cG mQ.lasts cY))) (bR ?_)
 have hlen:=hl.len
 refine bX U (bQ (bH (bR (bP U (bB (dT zW U) U (bB (eK U U) U (bQ ?_)))))))
 refine cC U (fun h1=>?_) (fun h1=>?_)
 ·refine bR (bX U (bQ ?_))
  refine bM (bA ?_)
  exact bJ U U fun wx hm=>⟨bT (by unfold vV;rw [if_pos (by omega)]),hm.g⟩
 refine bN (bD (bH (bR (bP U (bB (dT zW U) U (bP U (bQ (bO ?_))))))))
 obtain ⟨TE,hTE⟩:∃E,E=vV l:=⟨_,rfl⟩
 rw [<-hTE]
 refine dX (γ:=Nat) (fun (k:Nat)=>k<=n/\TE=cA5 (l.take k) (l.drop k)) (fun (k:Nat)=> [(0,.slice A n c0),(10,.slice A n c0),(11,.int .i64 ((n:Nat):Int)),(12,.int .i64 ((k:Nat):Int))]) (fun (k:Nat)=>fun _=>True) (fun (k:Nat)=> []) (fun (k:Nat)=> []) (fun (k:Nat)=> [bW jU 4 263 w.heap.size none A n l,mQ w.heap.size none l]) (fun (k:Nat)=>n - k) 0 ⟨Nat.zero_le _,by rw [hTE];unfold vV;rw [if_neg (by omega)];rfl⟩ ⟨U,U,U,U,trivial⟩ (fun _ hm=>hm.pick [] [] [0,1] U U) ?_
 intro k cB
 replace cB:k<=n/\TE=cA5 (l.take k) (l.drop k):=cB
 refine bR (bB (dE U U) U (bQ (bH ?_)))
 refine cC U (fun hk=>?_) (fun hk=>?_)
 ·refine bN (bD (bH (bO (bR ?_))))
  obtain ⟨b,off,hA,_,_⟩:=hl.get (by omega)
  subst hA
  obtain ⟨x,hx⟩:∃x,l[k]?=some x:=⟨_,fW3 (by omega)⟩
  obtain ⟨key,mi,At,nt,ct,on,ov⟩:=x
  have hat:=dO2 hx
  obtain ⟨hk1,hnt⟩:=hok _ (fX3 hx)
  have hk1:key.size<=1000000:=hk1
  have hnt:nt<=1000:=hnt
  have hout:=cB
  refine bP U (bB (bV (j:=k) zW U U (by omega)) U (bB (dP (vs:= [.string key,.int .i64 mi,.slice At nt ct,.bool ov]) zB U (fun _ hm=>(hm.fact 0 U).1) hx U U) U (dL cB8 U fun g1=>bX U (kE (cs':= [.string key,.int .i64 mi,.slice At nt ct,.bool ov]) 0 zB U U U U (bQ (bH (bO (bR (dY vC U U (eJ fC 0 U U U (cZ U bW1 U U (fun wx hm=>(isKey_any _ wx (by omega))) (bB (cE U) U (bX U (bQ ?_))))))))))))))
  refine dC U (fun hh=>?_) (fun hh=>?_)
  ·have h2:(keyB key)=false:=by simpa using hh
   refine bR (bX U (bQ (bM (bC (bA (bC (bA (bA (bC (bA ?_))))))))))
   have hE:vX (l.take k) ⟨key,mi,At,nt,ct,on,ov⟩=5:=by unfold vX;simp [h2]
   exact bJ U U fun wx hm=>⟨bT (by rw [hout.2,hat,if_neg (by rw [hE];decide),hE]),hm.g⟩
  have h2:(keyB key)=true:=by simpa using hh
  refine bR (bP U (bP U (bB (uA (hi:=k) zW U U U (by omega)) U (bB (pU U U) U (cH U eX3 U U (fun wx hm=>(dV7 (l.take k) _ k c0 _ _ _ _ _ _ _ wx (SlT.takeT (hm.fact 0 U).1 (by omega)) (by omega) (hm.blkI 0 U))) (bX U (bQ ?_)))))))
  refine dC U (fun hh=>?_) (fun hh=>?_)
  ·have h3:((l.take k).any (uV key))=true:=by simpa using hh
   refine bR (bX U (bQ (bM (bC (bA (bC (bA (bA (bC (bA ?_))))))))))
   have hE:vX (l.take k) ⟨key,mi,At,nt,ct,on,ov⟩=6:=by unfold vX;simp [h2,h3]
   exact bJ U U fun wx hm=>⟨bT (by rw [hout.2,hat,if_neg (by rw [hE];decide),hE]),hm.g⟩
  have h3:((l.take k).any (uV key))=false:=by simpa using hh
  refine bR (dY bU3 U U (eJ fP 0 U U U (cZ U qA U U (fun wx hm=>(in_any _ _ _ wx)) (bB (cE U) U (bX U (bQ ?_))))))
  refine dC U (fun hh=>?_) (fun hh=>?_)
  ·have h4:(inB mi 0 1000)=false:=by simpa using hh
   refine bR (bX U (bQ (bM (bC (bA (bC (bA (bA (bC (bA ?_))))))))))
   have hE:vX (l.take k) ⟨key,mi,At,nt,ct,on,ov⟩=1:=by unfold vX;simp [h2,h3,h4]
   exact bJ U U fun wx hm=>⟨bT (by rw [hout.2,hat,if_neg (by rw [hE];decide),hE]),hm.g⟩
  have h4:(inB mi 0 1000)=true:=by simpa using hh
  refine bN (bG (bD (bR ?_)))
  have hEo:vX (l.take k) ⟨key,mi,At,nt,ct,on,ov⟩=bA6 on:=by unfold vX;simp [h2,h3,h4]
  refine bH8 (Y:=bW kF 1 3 w.heap.size none At nt on) (bW.lasts) (fun wx hm=>(hm.fact 1 U) _ (fX3 hx)) ?_
  refine dV (R:=on.length=nt) (fun wx hm=>((hm.fact 0 U)).1.len) ?_
  intro hol
  refine dY kB U U (eJ kZ 0 U U U (bB (dT pD U) U (bP U (bQ (bO ?_)))))
  refine dX (γ:=Nat) (fun (q:Nat)=>q<=nt/\bA6 on=scanE onE (prevOf on q) (on.drop q)) (fun (q:Nat)=> [(0,.slice (some ⟨b,off,none⟩) n c0),(4,.pointer (some ⟨g1,0,none⟩)),(10,.slice (some ⟨b,off,none⟩) n c0),(11,.int .i64 ((n:Nat):Int)),(12,.int .i64 ((k:Nat):Int)),(34,.slice At nt ct),(35,.int .i64 ((nt:Nat):Int)),(36,.int .i64 ((q:Nat):Int))]) (fun (q:Nat)=>fun _=>True) (fun (q:Nat)=> [(g1,263, [.string key,.int .i64 mi,.slice At nt ct,.bool ov])]) (fun (q:Nat)=> []) (fun (q:Nat)=> [bW kF 1 3 w.heap.size none At nt on,bW jU 4 263 w.heap.size none (some ⟨b,off,none⟩) n l,mQ w.heap.size none l]) (fun (q:Nat)=>nt - q) 0 ⟨Nat.zero_le _,U⟩ ⟨U,U,U,U,U,U,U,U,trivial⟩ (fun _ hm=>hm.pick [0] [] [0,1,2] U U) ?_
  intro q cB
  replace cB:q<=nt/\bA6 on=scanE onE (prevOf on q) (on.drop q):=cB
  refine bR ?_
  have hin:=cB
  refine bB (dE U U) U (bQ (bH ?_))
  refine cC U (fun hq=>?_) (fun hq=>?_)
  ·refine bN (bD (bH (bO (bR ?_))))
   refine dV (R:=SlT kF 1 3 w At nt on) (fun wx hm=>hg _ (fX3 hx)) ?_
   intro hso
   obtain ⟨b2,o2,hA,_,_⟩:=hso.get (by omega)
   subst hA
   obtain ⟨z0,hy⟩:∃x,on[q]?=some x:=⟨_,fW3 (by omega)⟩
   have han:=scanE_at onE on q _ hy
   refine bP U (bB (bV (j:=q) pD U U (by omega)) U (bB (dK (k:=0) (v:= .int .i64 z0) fP U (fun _ hm=>(hm.fact 0 U).1) hy U U) U (bX U (bX U (bQ (bO (bR (bP U (bB (eL U U) U (bP U ?_))))))))))
   rcases Bool.eq_false_or_eq_true (decide (z0=5)) with h5|h5
   ·refine bK 44 U (fU3 h5) ?_
    replace h5:z0=5:=of_decide_eq_true h5
    refine dZ U (dZ U (dZ U (mN U U (bX U (bQ (kP U (bR (bX U (bQ (bM (bC (bC (bA (bA (bC (bC (bA (bA (bC (bA ?_))))))))))))))))))))
    have hE:onE (prevOf on q) z0=4:=by unfold onE;simp [h5]
    have hE2:bA6 on=4:=by rw [hin.2,han,if_neg (by rw [hE];decide),hE]
    exact bJ U U fun wx hm=>⟨bT (by rw [hout.2,hat,if_neg (by rw [hEo,hE2];decide),hEo,hE2]),hm.g⟩
   refine bK 44 U (fU3 h5) ?_
   replace h5:¬z0=5:=of_decide_eq_false h5
   refine eE U (bP U (eE U (cZ U qA U U (fun wx hm=>(in_any _ _ _ wx)) (eE U (bB (cE U) U (nR U U (bX U (bQ ?_))))))))
   refine dC U (fun hh=>?_) (fun hh=>?_)
   ·have h6:(inB z0 1 6)=false:=by simpa using hh
    refine bR (bX U (bQ (bM (bC (bC (bA (bA (bC (bC (bA (bA (bC (bA ?_)))))))))))))
    have hE:onE (prevOf on q) z0=4:=by unfold onE;simp [h5,h6]
    have hE2:bA6 on=4:=by rw [hin.2,han,if_neg (by rw [hE];decide),hE]
    exact bJ U U fun wx hm=>⟨bT (by rw [hout.2,hat,if_neg (by rw [hEo,hE2];decide),hEo,hE2]),hm.g⟩
   have h6:(inB z0 1 6)=true:=by simpa using hh
   refine bR ?_
   by_cases hq0:q=0
   ·have hO:onB (prevOf on q) z0=false:=by rw [mH hq0];rfl
    refine bP U (bB (eK U U) U (bK 51 (v':= .bool false) U (fU3 (decide_eq_false (by omega))) (bP U (dZ U (dZ U (dZ U (dZ U (dZ U (dZ U (dZ U (dZ U (nR U U (bX U (bQ (jQ U (bN (bG (bG (bD (bI (gO U U (bP U (bE ?_)))))))))))))))))))))))
    have hE:onE (prevOf on q) z0=0:=by unfold onE;simp [h5,h6,hO]
    exact cN (q+1) ⟨by omega,by rw [hin.2,han,if_pos hE]⟩ (by omega) ⟨U,U,U,U,U,U,U,(cR (by omega)),trivial⟩ (fun _ hm=>hm.pick [0] [] [0,1,2] U U)
   obtain ⟨z1,hz⟩:∃x,on[q - 1]?=some x:=⟨_,fW3 (by omega)⟩
   refine bP U (bB (eK U U) U (bK 51 (v':= .bool true) U (fU3 (decide_eq_true (by omega))) (bP U (eE U (bP U (eE U (dY kB U U (eE U (eJ kZ 0 U U U (eE U (bP U (eE U (bB (ov_sub U U (by omega) (by omega)) U (bK 57 (v':= .int .i64 ((q - 1:Nat):Int)) U (fV3 (by omega)) (eE U (bB (bV (j:=q - 1) pD U U (by omega)) U (eE U (bB (dK (k:=0) (v:= .int .i64 z1) fP U (fun _ hm=>(hm.fact 0 U).1) hz U U) U (eE U (bB (mV U U) U (mN U U (bX U (bQ ?_)))))))))))))))))))))))
   refine cC U (fun h7=>?_) (fun h7=>?_)
   ·refine bR ?_
    have hO:onB (prevOf on q) z0=true:=by rw [jT hq0 hz];exact decide_eq_true h7
    refine bX U (bQ (bM (bC (bC (bA (bA (bC (bC (bA (bA (bC (bA ?_))))))))))))
    have hE:onE (prevOf on q) z0=7:=by unfold onE;simp [h5,h6,hO]
    have hE2:bA6 on=7:=by rw [hin.2,han,if_neg (by rw [hE];decide),hE]
    exact bJ U U fun wx hm=>⟨bT (by rw [hout.2,hat,if_neg (by rw [hEo,hE2];decide),hEo,hE2]),hm.g⟩
   refine bN (bG (bG (bD (bI ?_))))
   have hO:onB (prevOf on q) z0=false:=by rw [jT hq0 hz];exact decide_eq_false h7
   refine gO U U (bP U (bE ?_))
   have hE:onE (prevOf on q) z0=0:=by unfold onE;simp [h5,h6,hO]
   exact cN (q+1) ⟨by omega,by rw [hin.2,han,if_pos hE]⟩ (by omega) ⟨U,U,U,U,U,U,U,(cR (by omega)),trivial⟩ (fun _ hm=>hm.pick [0] [] [0,1,2] U U)
  refine dD (bF (bF (bY (bG (bD (bI (gO U U (bP U (bE ?_)))))))))
  have hE:vX (l.take k) ⟨key,mi,At,nt,ct,on,ov⟩=0:=by rw [hEo,hin.2,scanE_end _ _ _ _ (by omega)]
  exact cN (k+1) ⟨by omega,by rw [hout.2,hat,if_pos hE]⟩ (by omega) ⟨U,U,U,(cR (by omega)),trivial⟩ (fun _ hm=>hm.pick [] [] [1,2] U U)
 refine dD (bF (bF (bY (bD (bR (bX U (bQ (bM ?_))))))))
 exact bJ U U fun wx hm=>⟨bT (by rw [cB.2,cQ7 (by omega)]),hm.g⟩
theorem dP4 (key:ByteArray) (mi:Int) (At:Option Addr) (nt ct:Nat) (on:List Int) (ov:Bool) (gk:Nat) (k0:ByteArray) (k1:Int) (k2:Option Addr) (k3 k4:Nat) (k5:Bool) (w:World) (hk:Blk w gk 263 [.string k0,.int .i64 k1,.slice k2 k3 k4,.bool k5]):
 Calls prog 157 #[.agg #[.string key,.int .i64 mi,.slice At nt ct,.bool ov],.pointer (some ⟨gk,0,none⟩)] w (fun e w'=>e=.returned (.bool (uV k0 ⟨key,mi,At,nt,ct,on,ov⟩))/\w.grownBy w' none):=by
 refine cS ⟨9,w,none, []⟩ func157 U ntmps157 U (gM (X:= [fL w.heap.size none gk 263 [.string k0,.int .i64 k1,.slice k2 k3 k4,.bool k5]]) (cF hk.old cX) (cG fL.lasts cY)) (bR (fG U U U fun g1=>bX U (bQ (bR (dY vC U U (eJ fC 0 U U U (dY vC U U (bB (cQ (v:= .string k0) fC U (fun _ hm=>(hm.fact 0 U).2) U) U (bB (eS U U) U (bX U (bQ (bM ?_))))))))))))
 exact bJ U U fun wx hm=>⟨U,hm.g⟩
theorem cG9 (l:List Tx) (A:Option Addr) (n c0:Nat) (gk:Nat) (k0:ByteArray) (k1:Int) (k2:Option Addr) (k3 k4:Nat) (k5:Bool) (w:World) (hl:SlT jU 4 263 w A n l) (hn:n<=1000000) (hk:Blk w gk 263 [.string k0,.int .i64 k1,.slice k2 k3 k4,.bool k5]):
 Calls prog 203 #[.slice A n c0,.func (.func 157) #[] #[.pointer (some ⟨gk,0,none⟩)]] w (mP w (mI (uV k0) l 0)):=by
 refine cS ⟨19,w,none, []⟩ func203 U ntmps203 U (gM (X:= [bW jU 4 263 w.heap.size none A n l,fL w.heap.size none gk 263 [.string k0,.int .i64 k1,.slice k2 k3 k4,.bool k5]]) (cF hl.old (cF hk.old cX)) (cG bW.lasts (cG fL.lasts cY))) (bR ?_)
 have hlen:=hl.len
 refine bX U (bQ (bH (bR (bP U (bB (dT zW U) U (bP U (bQ (bO ?_))))))))
 refine dX (γ:=Nat) (fun (i:Nat)=>i<=n/\mI (uV k0) l 0=mI (uV k0) (l.drop i) i) (fun (i:Nat)=> [(0,.slice A n c0),(1,.func (.func 157) #[] #[.pointer (some ⟨gk,0,none⟩)]),(7,.int .i64 ((n:Nat):Int)),(8,.int .i64 ((i:Nat):Int))]) (fun (i:Nat)=>fun _=>True) (fun (i:Nat)=> []) (fun (i:Nat)=> []) (fun (i:Nat)=> [bW jU 4 263 w.heap.size none A n l,fL w.heap.size none gk 263 [.string k0,.int .i64 k1,.slice k2 k3 k4,.bool k5]]) (fun (i:Nat)=>n - i) 0 ⟨Nat.zero_le _,U⟩ ⟨U,U,U,U,trivial⟩ (fun _ hm=>hm.pick [] [] [0,1] U U) ?_
 intro i cB
 replace cB:i<=n/\mI (uV k0) l 0=mI (uV k0) (l.drop i) i:=cB
 refine bR (bB (dE U U) U (bQ (bH ?_)))
 refine cC U (fun hi=>?_) (fun hi=>?_)
 ·refine bN (bD (bH (bO (bR ?_))))
  obtain ⟨b,off,hA,_,_⟩:=hl.get (by omega)
  subst hA
  obtain ⟨x,hx⟩:∃x,l[i]?=some x:=⟨_,fW3 (by omega)⟩
  obtain ⟨key,mi,At,nt,ct,on,ov⟩:=x
  have hat:=yA (p:=uV k0) hx
  refine bP U (bX U (bQ (bR (bP U (bP U (bP U (bB (bV (j:=i) zW U U (by omega)) U (bB (dP (vs:= [.string key,.int .i64 mi,.slice At nt ct,.bool ov]) zB U (fun _ hm=>(hm.fact 0 U).1) hx U U) U (cH U eO8 U U (fun wx hm=>(dP4 key mi At nt ct on ov gk k0 k1 k2 k3 k4 k5 wx (hm.fact 1 U).2)) (bQ ?_))))))))))
  refine dC U (fun hh=>?_) (fun hh=>?_)
  ·have hq:(uV k0 ⟨key,mi,At,nt,ct,on,ov⟩)=true:=by simpa using hh
   refine bR (bP U (bX U (bQ (bM (bC (bA (bA (bC (bA ?_)))))))))
   exact bJ U U fun wx hm=>⟨bT (by rw [cB.2,hat,if_pos hq]),hm.g⟩
  have hq:(uV k0 ⟨key,mi,At,nt,ct,on,ov⟩)=false:=by simpa using hh
  refine bN (bG (bD (bI (gO U U (bP U (bE ?_))))))
  exact cN (i+1) ⟨by omega,by rw [cB.2,hat,if_neg (by rw [hq];decide)]⟩ (by omega) ⟨U,U,U,(cR (by omega)),trivial⟩ (fun _ hm=>hm.pick [] [] [0,1] U U)
 refine dD (bF (bF (bY (bD (bR (bX U (bK 4 (v':= .int .i64 (-1)) U U (bQ (bM ?_)))))))))
 exact bJ U U fun wx hm=>⟨bT (by rw [cB.2,List.drop_eq_nil_of_le (by omega)];rfl),hm.g⟩
theorem dW7 (l:List Tx) (A:Option Addr) (n c0:Nat) (gk:Nat) (k0:ByteArray) (k1:Int) (k2:Option Addr) (k3 k4:Nat) (k5:Bool) (w:World) (hl:SlT jU 4 263 w A n l) (hn:n<=1000000) (hk:Blk w gk 263 [.string k0,.int .i64 k1,.slice k2 k3 k4,.bool k5]):
 Calls prog 156 #[.slice A n c0,.func (.func 157) #[] #[.pointer (some ⟨gk,0,none⟩)]] w (fun e w'=>e=.returned (.bool (l.any (uV k0)))/\w.grownBy w' none):=by
 refine cS ⟨9,w,none, []⟩ func156 U ntmps156 U (gM (X:= [bW jU 4 263 w.heap.size none A n l,fL w.heap.size none gk 263 [.string k0,.int .i64 k1,.slice k2 k3 k4,.bool k5]]) (cF hl.old (cF hk.old cX)) (cG bW.lasts (cG fL.lasts cY))) (bR (bX U (bQ (bR (bP U (bP U (cH U eB4 U U (fun wx hm=>(cG9 l A n c0 gk k0 k1 k2 k3 k4 k5 wx (hm.fact 0 U).1 hn (hm.fact 1 U).2)) (bB (mG U U) U (bX U (bQ (bM ?_)))))))))))
 exact bJ U U fun wx hm=>⟨by rw [<-bQ9],hm.g⟩
theorem cQ0 (l:List Tx) (A:Option Addr) (n c0:Nat) (w:World) (hl:SlT jU 4 263 w A n l) (hg:Ons l w) (hok:∀x∈l,jF x) (hn:n<=1000000) (hc:n<=c0):
 Calls prog 115 #[.slice A n c0] w (mP w (vV l)):=by
 refine cS ⟨62,w,none, []⟩ func115 U ntmps115 U (gM (X:= [bW jU 4 263 w.heap.size none A n l,mQ w.heap.size none l]) (cF hl.old (cF hg.old cX)) (cG bW.lasts (cG mQ.lasts cY))) (bR ?_)
 have hlen:=hl.len
 refine bX U (bQ (bH (bR (bP U (bB (dT zW U) U (bB (eK U U) U (bQ ?_)))))))
 refine cC U (fun h1=>?_) (fun h1=>?_)
 ·refine bR (bX U (bQ ?_))
  refine bM (bA ?_)
  exact bJ U U fun wx hm=>⟨bT (by unfold vV;rw [if_pos (by omega)]),hm.g⟩
 refine bN (bD (bH (bR (bP U (bB (dT zW U) U (bP U (bQ (bO ?_))))))))
 obtain ⟨TE,hTE⟩:∃E,E=vV l:=⟨_,rfl⟩
 rw [<-hTE]
 refine dX (γ:=Nat) (fun (k:Nat)=>k<=n/\TE=cA5 (l.take k) (l.drop k)) (fun (k:Nat)=> [(0,.slice A n c0),(10,.slice A n c0),(11,.int .i64 ((n:Nat):Int)),(12,.int .i64 ((k:Nat):Int))]) (fun (k:Nat)=>fun _=>True) (fun (k:Nat)=> []) (fun (k:Nat)=> []) (fun (k:Nat)=> [bW jU 4 263 w.heap.size none A n l,mQ w.heap.size none l]) (fun (k:Nat)=>n - k) 0 ⟨Nat.zero_le _,by rw [hTE];unfold vV;rw [if_neg (by omega)];rfl⟩ ⟨U,U,U,U,trivial⟩ (fun _ hm=>hm.pick [] [] [0,1] U U) ?_
 intro k cB
 replace cB:k<=n/\TE=cA5 (l.take k) (l.drop k):=cB
 refine bR (bB (dE U U) U (bQ (bH ?_)))
 refine cC U (fun hk=>?_) (fun hk=>?_)
 ·refine bN (bD (bH (bO (bR ?_))))
  obtain ⟨b,off,hA,_,_⟩:=hl.get (by omega)
  subst hA
  obtain ⟨x,hx⟩:∃x,l[k]?=some x:=⟨_,fW3 (by omega)⟩
  obtain ⟨key,mi,At,nt,ct,on,ov⟩:=x
  have hat:=dO2 hx
  obtain ⟨hk1,hnt⟩:=hok _ (fX3 hx)
  have hk1:key.size<=1000000:=hk1
  have hnt:nt<=1000:=hnt
  have hout:=cB
  refine bP U (bB (bV (j:=k) zW U U (by omega)) U (bB (dP (vs:= [.string key,.int .i64 mi,.slice At nt ct,.bool ov]) zB U (fun _ hm=>(hm.fact 0 U).1) hx U U) U (dL cB8 U fun g1=>bX U (kE (cs':= [.string key,.int .i64 mi,.slice At nt ct,.bool ov]) 0 zB U U U U (bQ (bH (bO (bR (dY vC U U (eJ fC 0 U U U (cH U bN6 U U (fun wx hm=>(wE _ wx (by omega))) (bB (cE U) U (bX U (bQ ?_))))))))))))))
  refine dC U (fun hh=>?_) (fun hh=>?_)
  ·have h2:(keyB key)=false:=by simpa using hh
   refine bR (bX U (bQ (bM (bC (bA (bC (bA (bA (bC (bA ?_))))))))))
   have hE:vX (l.take k) ⟨key,mi,At,nt,ct,on,ov⟩=5:=by unfold vX;simp [h2]
   exact bJ U U fun wx hm=>⟨bT (by rw [hout.2,hat,if_neg (by rw [hE];decide),hE]),hm.g⟩
  have h2:(keyB key)=true:=by simpa using hh
  refine bR (bP U (bP U (bB (uA (hi:=k) zW U U U (by omega)) U (bB (pU U U) U (cH U eX3 U U (fun wx hm=>(dW7 (l.take k) _ k c0 _ _ _ _ _ _ _ wx (SlT.takeT (hm.fact 0 U).1 (by omega)) (by omega) (hm.blkI 0 U))) (bX U (bQ ?_)))))))
  refine dC U (fun hh=>?_) (fun hh=>?_)
  ·have h3:((l.take k).any (uV key))=true:=by simpa using hh
   refine bR (bX U (bQ (bM (bC (bA (bC (bA (bA (bC (bA ?_))))))))))
   have hE:vX (l.take k) ⟨key,mi,At,nt,ct,on,ov⟩=6:=by unfold vX;simp [h2,h3]
   exact bJ U U fun wx hm=>⟨bT (by rw [hout.2,hat,if_neg (by rw [hE];decide),hE]),hm.g⟩
  have h3:((l.take k).any (uV key))=false:=by simpa using hh
  refine bR (dY bU3 U U (eJ fP 0 U U U (cZ U vY U U (fun wx hm=>(kH _ _ _ wx)) (bB (cE U) U (bX U (bQ ?_))))))
  refine dC U (fun hh=>?_) (fun hh=>?_)
  ·have h4:(inB mi 0 1000)=false:=by simpa using hh
   refine bR (bX U (bQ (bM (bC (bA (bC (bA (bA (bC (bA ?_))))))))))
   have hE:vX (l.take k) ⟨key,mi,At,nt,ct,on,ov⟩=1:=by unfold vX;simp [h2,h3,h4]
   exact bJ U U fun wx hm=>⟨bT (by rw [hout.2,hat,if_neg (by rw [hE];decide),hE]),hm.g⟩
  have h4:(inB mi 0 1000)=true:=by simpa using hh
  refine bN (bG (bD (bR ?_)))
  have hEo:vX (l.take k) ⟨key,mi,At,nt,ct,on,ov⟩=bA6 on:=by unfold vX;simp [h2,h3,h4]
  refine bH8 (Y:=bW kF 1 3 w.heap.size none At nt on) (bW.lasts) (fun wx hm=>(hm.fact 1 U) _ (fX3 hx)) ?_
  refine dV (R:=on.length=nt) (fun wx hm=>((hm.fact 0 U)).1.len) ?_
  intro hol
  refine dY kB U U (eJ kZ 0 U U U (bB (dT pD U) U (bP U (bQ (bO ?_)))))
  refine dX (γ:=Nat) (fun (q:Nat)=>q<=nt/\bA6 on=scanE onE (prevOf on q) (on.drop q)) (fun (q:Nat)=> [(0,.slice (some ⟨b,off,none⟩) n c0),(4,.pointer (some ⟨g1,0,none⟩)),(10,.slice (some ⟨b,off,none⟩) n c0),(11,.int .i64 ((n:Nat):Int)),(12,.int .i64 ((k:Nat):Int)),(34,.slice At nt ct),(35,.int .i64 ((nt:Nat):Int)),(36,.int .i64 ((q:Nat):Int))]) (fun (q:Nat)=>fun _=>True) (fun (q:Nat)=> [(g1,263, [.string key,.int .i64 mi,.slice At nt ct,.bool ov])]) (fun (q:Nat)=> []) (fun (q:Nat)=> [bW kF 1 3 w.heap.size none At nt on,bW jU 4 263 w.heap.size none (some ⟨b,off,none⟩) n l,mQ w.heap.size none l]) (fun (q:Nat)=>nt - q) 0 ⟨Nat.zero_le _,U⟩ ⟨U,U,U,U,U,U,U,U,trivial⟩ (fun _ hm=>hm.pick [0] [] [0,1,2] U U) ?_
  intro q cB
  replace cB:q<=nt/\bA6 on=scanE onE (prevOf on q) (on.drop q):=cB
  refine bR ?_
  have hin:=cB
  refine bB (dE U U) U (bQ (bH ?_))
  refine cC U (fun hq=>?_) (fun hq=>?_)
  ·refine bN (bD (bH (bO (bR ?_))))
   refine dV (R:=SlT kF 1 3 w At nt on) (fun wx hm=>hg _ (fX3 hx)) ?_
   intro hso
   obtain ⟨b2,o2,hA,_,_⟩:=hso.get (by omega)
   subst hA
   obtain ⟨z0,hy⟩:∃x,on[q]?=some x:=⟨_,fW3 (by omega)⟩
   have han:=scanE_at onE on q _ hy
   refine bP U (bB (bV (j:=q) pD U U (by omega)) U (bB (dK (k:=0) (v:= .int .i64 z0) fP U (fun _ hm=>(hm.fact 0 U).1) hy U U) U (bX U (bX U (bQ (bH (bR (bP U (cZ U vY U U (fun wx hm=>(kH _ _ _ wx)) (bB (cE U) U (bP U ?_)))))))))))
   rcases Bool.eq_false_or_eq_true (!(inB z0 1 6)) with h5|h5
   ·refine bK 44 U (fU3 h5) ?_
    refine dZ U (dZ U (mN U U (bQ (kP U (bR (bX U (bQ (bM (bA (bC (bA (bA (bC (bC (bA (bA (bC (bA ?_))))))))))))))))))
    have hE:onE (prevOf on q) z0=4:=by unfold onE;simp [h5]
    have hE2:bA6 on=4:=by rw [hin.2,han,if_neg (by rw [hE];decide),hE]
    exact bJ U U fun wx hm=>⟨bT (by rw [hout.2,hat,if_neg (by rw [hEo,hE2];decide),hEo,hE2]),hm.g⟩
   refine bK 44 U (fU3 h5) (eE U (bP U (eE U (bB (eL U U) U (nR U U (bQ ?_))))))
   refine cC U (fun h6=>?_) (fun h6=>?_)
   ·refine bR (bX U (bQ ?_))
    refine bM (bA (bC (bA (bA (bC (bC (bA (bA (bC (bA ?_))))))))))
    have hE:onE (prevOf on q) z0=4:=by unfold onE;simp [h6]
    have hE2:bA6 on=4:=by rw [hin.2,han,if_neg (by rw [hE];decide),hE]
    exact bJ U U fun wx hm=>⟨bT (by rw [hout.2,hat,if_neg (by rw [hEo,hE2];decide),hEo,hE2]),hm.g⟩
   refine bN (bD (bR ?_))
   by_cases hq0:q=0
   ·have hO:onB (prevOf on q) z0=false:=by rw [mH hq0];rfl
    refine bP U (bB (eK U U) U (bK 49 (v':= .bool false) U (fU3 (decide_eq_false (by omega))) (bP U (dZ U (dZ U (dZ U (dZ U (dZ U (dZ U (dZ U (dZ U (nR U U (bQ (jQ U (bN (bG (bD (bI (gO U U (bP U (bE ?_)))))))))))))))))))))
    have hE:onE (prevOf on q) z0=0:=by unfold onE;simp [h5,h6,hO]
    exact cN (q+1) ⟨by omega,by rw [hin.2,han,if_pos hE]⟩ (by omega) ⟨U,U,U,U,U,U,U,(cR (by omega)),trivial⟩ (fun _ hm=>hm.pick [0] [] [0,1,2] U U)
   obtain ⟨z1,hz⟩:∃x,on[q - 1]?=some x:=⟨_,fW3 (by omega)⟩
   refine bP U (bB (eK U U) U (bK 49 (v':= .bool true) U (fU3 (decide_eq_true (by omega))) (bP U (eE U (bP U (eE U (dY kB U U (eE U (eJ kZ 0 U U U (eE U (bP U (eE U (bB (ov_sub U U (by omega) (by omega)) U (bK 55 (v':= .int .i64 ((q - 1:Nat):Int)) U (fV3 (by omega)) (eE U (bB (bV (j:=q - 1) pD U U (by omega)) U (eE U (bB (dK (k:=0) (v:= .int .i64 z1) fP U (fun _ hm=>(hm.fact 0 U).1) hz U U) U (eE U (bB (mV U U) U (mN U U (bQ ?_))))))))))))))))))))))
   refine cC U (fun h7=>?_) (fun h7=>?_)
   ·refine bR ?_
    have hO:onB (prevOf on q) z0=true:=by rw [jT hq0 hz];exact decide_eq_true h7
    refine bX U (bQ (bM (bC (bA (bA (bC (bC (bA (bA (bC (bA ?_)))))))))))
    have hE:onE (prevOf on q) z0=7:=by unfold onE;simp [h5,h6,hO]
    have hE2:bA6 on=7:=by rw [hin.2,han,if_neg (by rw [hE];decide),hE]
    exact bJ U U fun wx hm=>⟨bT (by rw [hout.2,hat,if_neg (by rw [hEo,hE2];decide),hEo,hE2]),hm.g⟩
   refine bN (bG (bD (bI ?_)))
   have hO:onB (prevOf on q) z0=false:=by rw [jT hq0 hz];exact decide_eq_false h7
   refine gO U U (bP U (bE ?_))
   have hE:onE (prevOf on q) z0=0:=by unfold onE;simp [h5,h6,hO]
   exact cN (q+1) ⟨by omega,by rw [hin.2,han,if_pos hE]⟩ (by omega) ⟨U,U,U,U,U,U,U,(cR (by omega)),trivial⟩ (fun _ hm=>hm.pick [0] [] [0,1,2] U U)
  refine dD (bF (bF (bY (bG (bD (bI (gO U U (bP U (bE ?_)))))))))
  have hE:vX (l.take k) ⟨key,mi,At,nt,ct,on,ov⟩=0:=by rw [hEo,hin.2,scanE_end _ _ _ _ (by omega)]
  exact cN (k+1) ⟨by omega,by rw [hout.2,hat,if_pos hE]⟩ (by omega) ⟨U,U,U,(cR (by omega)),trivial⟩ (fun _ hm=>hm.pick [] [] [1,2] U U)
 refine dD (bF (bF (bY (bD (bR (bX U (bQ (bM ?_))))))))
 exact bJ U U fun wx hm=>⟨bT (by rw [cB.2,cQ7 (by omega)]),hm.g⟩
def N3r:List ByteArray:= [⟨#[109,97,120,105]⟩,⟨#[109,105,100,105]⟩,⟨#[109,105,110,105]⟩]
theorem eC2:((List.range 3).all fun i=>N3r[i]?.elim true fun k=>keyB k&&(N3r.take i).all fun a=>ltS a k&& !zH a k)=true:=by decide+kernel
theorem eW5 {i:Nat} {k:ByteArray} (hk:N3r[i]?=some k):keyB k=true/\∀a∈N3r.take i,ltS a k=true/\zH a k=false:=by
 have hi:i < 3:=(List.getElem?_eq_some_iff.1 hk).1
 have h1:=(List.all_eq_true.1 eC2) i (List.mem_range.2 hi)
 rw [hk] at h1
 have h2:(keyB k&&(N3r.take i).all fun a=>ltS a k&& !zH a k)=true:=h1
 rw [Bool.and_eq_true] at h2
 refine ⟨h2.1,fun a ha=>?_⟩
 have h3:=(List.all_eq_true.1 h2.2) a ha
 rw [Bool.and_eq_true] at h3
 exact ⟨h3.1,by simpa using h3.2⟩
def RrG (k:Nat) (l:List Rt):Prop:=scanE fV none l=0/\∀x∈l,x.cls∈N3r.take k
def RrI (k:Nat) (nm:ByteArray) (fr:Int) (l:List Rt):Prop:=scanE fV none l=0/\∀x∈l,x.cls∈N3r.take k∨(x.cls=nm/\x.fr < fr/\x.to_<=fr)
theorem eM2 {k:Nat}:RrG k []:=⟨rfl,fun _ h=>by cases h⟩
theorem dU4 {k:Nat} {nm:ByteArray} {fr:Int} {l:List Rt} (h:RrG k l):RrI k nm fr l:=⟨h.1,fun x hx=> .inl (h.2 x hx)⟩
theorem dC2 {k:Nat} {nm:ByteArray} {fr:Int} {l:List Rt} (h:RrI k nm fr l) (hk:N3r[k]?=some nm):RrG (k+1) l:=⟨h.1,fun x hx=>by
 rcases h.2 x hx with h|⟨h,_⟩
 ·exact bH2 h
 ·rw [h];exact bY6 hk⟩
theorem cI4 {v a b:Int} (h1:a<=v) (h2:v<=b):¬inB v a b=false:=by
 rw [Bool.not_eq_false,pC];exact ⟨h1,h2⟩
theorem cF0 {p:Option Rt} {r:Rt} (h1:keyB r.cls=true) (h2:0<=r.fr/\r.fr < r.to_/\r.to_<=4001) (h3: -1<=r.hr/\r.hr<=1000000) (h4: -1<=r.dy/\r.dy<=1000000) (h5: -1<=r.we/\r.we<=1000000) (h6: -1<=r.wk/\r.wk<=1000000) (hp:∀q,p=some q->bC2 q r=true/\(zH q.cls r.cls&&decide (r.fr < q.to_))=false):fV p r=0:=by
 unfold fV
 rw [if_neg (by rw [h1];decide),if_neg (by omega),if_neg (fun h=>by
  rcases h with h|h|h|h
  ·exact cI4 h3.1 h3.2 h
  ·exact cI4 h4.1 h4.2 h
  ·exact cI4 h5.1 h5.2 h
  ·exact cI4 h6.1 h6.2 h)]
 cases p with
 |none=>rfl
 |some q=>
  obtain ⟨g1,g2⟩:=hp q rfl
  show (if bC2 q r=false then 7 else if (zH q.cls r.cls&&decide (r.fr < q.to_))=true then 13 else 0)=0
  rw [if_neg (by rw [g1];decide),if_neg (by rw [g2];decide)]
theorem dH9 {k:Nat} {nm:ByteArray} {fr fr2 tq a b c d:Int} {l:List Rt} (h:RrI k nm fr l) (hk:N3r[k]?=some nm) (h2:0<=fr/\fr < tq/\tq<=4001) (h3: -1<=a/\a<=1000000) (h4: -1<=b/\b<=1000000) (h5: -1<=c/\c<=1000000) (h6: -1<=d/\d<=1000000) (hf:tq<=fr2):RrI k nm fr2 (l++ [⟨nm,fr,tq,a,b,c,d⟩]):=by
 obtain ⟨g1,g2⟩:=eW5 hk
 refine ⟨bA3 h.1 (cF0 g1 h2 h3 h4 h5 h6 (fun q e=>by cases e)) (fun y hy=>cF0 g1 h2 h3 h4 h5 h6 (fun q e=>?_)),fun x hx=>?_⟩
 ·injection e with e
  subst e
  rcases h.2 y hy with e|⟨e1,e2,e3⟩
  ·obtain ⟨q1,q2⟩:=g2 _ e
   unfold bC2
   dsimp only
   rw [q1,q2];exact ⟨rfl,rfl⟩
  ·unfold bC2
   dsimp only
   have q1:decide (y.fr < fr)=true:=decide_eq_true e2
   have q2:decide (fr < y.to_)=false:=decide_eq_false (by omega)
   have q3:zH y.cls nm=true:=by rw [e1];unfold zH;simp
   rw [q1,q2,q3]
   exact ⟨by simp,rfl⟩
 ·rcases List.mem_append.1 hx with hx|hx
  ·rcases h.2 x hx with e|⟨e1,e2,e3⟩
   ·exact .inl e
   ·exact .inr ⟨e1,by omega,by omega⟩
  ·rw [List.mem_singleton.1 hx];exact .inr ⟨rfl,by dsimp only;omega,hf⟩
theorem dT4 {k:Nat} {l:List Rt} (h:RrG k l) (hl:l.length<=200):pL l=0:=by
 unfold pL
 rw [if_neg (by omega)];exact h.1
def eI6 (x:ByteArray):List Value:= [.string x]
theorem eN2 (x:ByteArray):(eI6 x).length=1:=rfl
def RtG (x:Rt):Prop:=x.cls.size<=1000000/\x.hr<=10
theorem fY0 {l:List Rt} (h:∀y∈l,RtG y):∀y∈l,cW0 y:=fun y hy=>(h y hy).1
def RtB (x:Rt):Prop:=x.cls.size<=100/\(-2000000000000000<=x.fr/\x.fr<=2000000000000000)/\(-2000000000000000<=x.to_/\x.to_<=2000000000000000)/\(-2000000000000000<=x.hr/\x.hr<=2000000000000000)/\(-2000000000000000<=x.dy/\x.dy<=2000000000000000)/\(-2000000000000000<=x.we/\x.we<=2000000000000000)/\(-2000000000000000<=x.wk/\x.wk<=2000000000000000)
def RtH (x:Rt):Prop:=x.hr<=10/\RtB x
theorem eJ6 {x:Rt} (h:RtB x):cW0 x:=by
 have h1:=h.1
 show x.cls.size<=1000000
 omega
theorem eI4 {l:List Rt} (h:∀y∈l,RtH y):∀y∈l,RtG y:=fun y hy=>⟨eJ6 (h y hy).2,(h y hy).1⟩
theorem dD2 {l:List Rt} {x:Rt} (h:∀y∈l,RtH y) (hx:RtH x):∀y∈l++ [x],RtH y:=fun y hy=>by
 rcases List.mem_append.1 hy with hy|hy
 ·exact h y hy
 ·rw [List.mem_singleton.1 hy];exact hx
theorem cU4 {l:List Rt} {x:Rt} {j:Nat} (h:∀y∈l,RtH y) (hx:RtH x):∀y∈l.set j x,RtH y:=fun y hy=>by
 rcases List.mem_or_eq_of_mem_set hy with hy|rfl
 ·exact h y hy
 ·exact hx
theorem bF2 (w:World) (B sb m:Nat) (hS:eU 25 w B sb m) (hm:m<=100000000000):
 Calls prog 64 #[.pointer (some ⟨sb,0,none⟩)] w (fun e w'=>∃(A:Option Addr) (n c:Nat) (l:List Rt),e=.returned (.slice A n c)/\w'.ownsRow w.heap.size 219 7 (.slice A n c) n (l.flatMap kU)/\(∀x∈l,RtH x)/\l.length=n/\n<=9/\pL l=0/\eU 25 w' B sb (m+120)/\w.grownBy w' (some sb)):=by
 refine cS ⟨64,w,(some sb), []⟩ func64 U ntmps64 U (bF4 (X:= []) hS cX cY) (bR (bX U (bQ (bR (bX U (bQ (bH (bR (jE 9 [.string ⟨#[109,97,120,105]⟩,.string ⟨#[109,105,100,105]⟩,.string ⟨#[109,105,110,105]⟩] fun g1=>bB (dT jX U) U (bK 9 (v':= .int .i64 3) U U (bP U (bQ (bO ?_)))))))))))))
 refine rG 219 7 ?_
 refine dX (γ:=Nat×Nat×Value×List Rt×List Value) (fun g=>g.1<=3/\g.2.1<=3 *g.1/\g.2.2.2.1.length=g.2.1/\(∀x∈g.2.2.2.1,RtH x)/\RrG g.1 g.2.2.2.1/\g.2.2.2.2=g.2.2.2.1.flatMap kU) (fun g=> [(0,.pointer (some ⟨sb,0,none⟩)),(2,.slice none 0 0),(3,g.2.2.1),(8,.slice (some ⟨g1,0,none⟩) 3 3),(9,.int .i64 3),(10,.int .i64 ((g.1:Nat):Int))]) (fun g=>fun w=>eU 25 w B sb (m+40 *g.1)) (fun g=> [(g1,9, [.string ⟨#[109,97,120,105]⟩,.string ⟨#[109,105,100,105]⟩,.string ⟨#[109,105,110,105]⟩])]) (fun g=> [⟨g.2.2.1,219,7,g.2.1,g.2.2.2.2⟩]) (fun g=> []) (fun g=>3 - g.1) (0,0,.slice none 0 0, [], []) ⟨Nat.zero_le _,Nat.zero_le _,U,(fun _ h=>by cases h),eM2,U⟩ ⟨U,U,U,U,U,U,trivial⟩ (fun _ hm=>(hm.more U (by first|omega|(dsimp only;omega))).pick [0] [0] [] U U) ?_
 rintro ⟨k,n,v,l,xs⟩ cB
 replace cB:k<=3/\n<=3 *k/\l.length=n/\(∀x∈l,RtH x)/\RrG k l/\xs=l.flatMap kU:=cB
 dsimp only
 refine bR ?_
 obtain ⟨hi0,hi1,vN,hi3,hrr,rfl⟩:=cB
 refine bB (dE U U) U (bQ (bH ?_))
 refine cC U (fun hk=>?_) (fun hk=>?_)
 ·refine bN (bD (bH (bO (bR ?_))))
  obtain ⟨nm,hx⟩:∃x,([⟨#[109,97,120,105]⟩,⟨#[109,105,100,105]⟩,⟨#[109,105,110,105]⟩]:List ByteArray)[k]?=some x:=⟨_,fW3 (by simp;omega)⟩
  have hnm:nm.size<=100:=kG (fX3 hx) (by decide)
  refine bB (bV (j:=k) jX U U (by omega)) U (bB (dK (k:=0) (v:= .string nm) fC U (fun _ hm=>(SlT.ofBlk (l:= [⟨#[109,97,120,105]⟩,⟨#[109,105,100,105]⟩,⟨#[109,105,110,105]⟩]) eN2 (hm.blkI 0 U))) hx U U) U (bX U (bQ (bR (bP U (jE 3 [.int .i64 0,.int .i64 0,.int .i64 0,.int .i64 3] fun g2=>dN (γ:=Int) (val:=fun v=> .int .i64 v) (φ:=fun v=>v∈([0,0,0,3]:List Int)) U pO U U U U (fun wx hm=>(eT [0,0,0,3] _ _ _ wx B sb _ hm.k (by omega) (by simp) (by simp) (hm.blkI 0 U) (hm.neRow 0 U U))) fun v3 hv3=>?_))))))
  have bv3:0<=v3/\v3<=3:=gP hv3 (by decide)
  have bv30:=bv3.1
  have bv31:=bv3.2
  clear bv3
  refine bX U (bQ (bR (bP U (jE 3 [.int .i64 0,.int .i64 1,.int .i64 1,.int .i64 2,.int .i64 3] fun g4=>dN (γ:=Int) (val:=fun v=> .int .i64 v) (φ:=fun v=>v∈([0,1,1,2,3]:List Int)) U pO U U U U (fun wx hm=>(eT [0,1,1,2,3] _ _ _ wx B sb _ hm.k (by omega) (by simp) (by simp) (hm.blkI 0 U) (hm.neRow 0 U U))) fun v5 hv5=>?_))))
  have bv5:0<=v5/\v5<=3:=gP hv5 (by decide)
  have bv50:=bv5.1
  have bv51:=bv5.2
  clear bv5
  refine bP U (bQ (bO ?_))
  refine dX (γ:=Nat×Int×Nat×Value×List Rt×List Value) (fun (g9:Nat×Int×Nat×Value×List Rt×List Value)=>(g9.1:Int)<=v5/\(0<=g9.2.1/\g9.2.1<=5000)/\g9.2.2.1<=3 *k+g9.1/\g9.2.2.2.2.1.length=g9.2.2.1/\(∀x∈g9.2.2.2.2.1,RtH x)/\RrI k nm g9.2.1 g9.2.2.2.2.1/\g9.2.2.2.2.2=g9.2.2.2.2.1.flatMap kU) (fun (g9:Nat×Int×Nat×Value×List Rt×List Value)=> [(0,.pointer (some ⟨sb,0,none⟩)),(2,.slice none 0 0),(3,g9.2.2.2.1),(5,.string nm),(6,.int .i64 g9.2.1),(8,.slice (some ⟨g1,0,none⟩) 3 3),(9,.int .i64 3),(10,.int .i64 ((k:Nat):Int)),(19,.int .i64 v5),(20,.int .i64 ((g9.1:Nat):Int))]) (fun (g9:Nat×Int×Nat×Value×List Rt×List Value)=>fun w=>eU 25 w B sb (m+40 *k+1+1+8 *g9.1)) (fun (g9:Nat×Int×Nat×Value×List Rt×List Value)=> [(g1,9, [.string ⟨#[109,97,120,105]⟩,.string ⟨#[109,105,100,105]⟩,.string ⟨#[109,105,110,105]⟩])]) (fun (g9:Nat×Int×Nat×Value×List Rt×List Value)=> [⟨g9.2.2.2.1,219,7,g9.2.2.1,g9.2.2.2.2.2⟩]) (fun (g9:Nat×Int×Nat×Value×List Rt×List Value)=> []) (fun (g9:Nat×Int×Nat×Value×List Rt×List Value)=>(v5 - ((g9.1:Nat):Int)).toNat) (0,v3,n,v,l,l.flatMap kU) ⟨by dsimp only;omega,⟨by dsimp only;omega,by dsimp only;omega⟩,by dsimp only;omega,vN,hi3,dU4 hrr,rfl⟩ ⟨U,U,U,U,U,U,U,U,U,U,trivial⟩ (fun _ hm=>(hm.more U (by first|omega|(dsimp only;omega))).pick [2] [0] [] U U) ?_
  rintro ⟨j,fr,n,v,l,xs⟩ cB
  replace cB:(j:Int)<=v5/\(0<=fr/\fr<=5000)/\n<=3 *k+j/\l.length=n/\(∀x∈l,RtH x)/\RrI k nm fr l/\xs=l.flatMap kU:=cB
  dsimp only
  refine bR ?_
  obtain ⟨hj0,hj1,hj2,hj3,hj4,hjr,rfl⟩:=cB
  refine bB (dE U U) U (bQ (bH ?_))
  refine cC U (fun hj=>?_) (fun hj=>?_)
  ·refine bN (bD (bH (bO (bR (bP U (bP U (bP U (bP U ?_))))))))
   refine jE 3 [.int .i64 1,.int .i64 5,.int .i64 20,.int .i64 4000] fun g6=>dN (γ:=Int) (val:=fun v=> .int .i64 v) (φ:=fun v=>v∈([1,5,20,4000]:List Int)) U pO U U U U (fun wx hm=>(eT [1,5,20,4000] _ _ _ wx B sb _ hm.k (by omega) (by simp) (by simp) (hm.blkI 0 U) (hm.neRow 0 U U))) fun v7 hv7=>?_
   have bv7:1<=v7/\v7<=4000:=gP hv7 (by decide)
   have bv70:=bv7.1
   have bv71:=bv7.2
   clear bv7
   refine gO U U (bP U (jE 3 [.int .i64 (-1),.int .i64 5,.int .i64 10,.int .i64 10,.int .i64 0] fun g8=>dN (γ:=Int) (val:=fun v=> .int .i64 v) (φ:=fun v=>v∈([-1,5,10,10,0]:List Int)) U pO U U U U (fun wx hm=>(eT [-1,5,10,10,0] _ _ _ wx B sb _ hm.k (by omega) (by simp) (by simp) (hm.blkI 0 U) (hm.neRow 0 U U))) fun v9 hv9=>?_))
   have bv9: -1<=v9/\v9<=10:=gP hv9 (by decide)
   have bv90:=bv9.1
   have bv91:=bv9.2
   clear bv9
   refine bP U (jE 3 [.int .i64 (-1),.int .i64 50,.int .i64 50,.int .i64 70,.int .i64 40] fun g10=>dN (γ:=Int) (val:=fun v=> .int .i64 v) (φ:=fun v=>v∈([-1,50,50,70,40]:List Int)) U pO U U U U (fun wx hm=>(eT [-1,50,50,70,40] _ _ _ wx B sb _ hm.k (by omega) (by simp) (by simp) (hm.blkI 0 U) (hm.neRow 0 U U))) fun v11 hv11=>?_)
   have bv11: -1<=v11/\v11<=70:=gP hv11 (by decide)
   have bv110:=bv11.1
   have bv111:=bv11.2
   clear bv11
   refine bP U (jE 3 [.int .i64 (-1),.int .i64 70,.int .i64 90,.int .i64 100] fun g12=>dN (γ:=Int) (val:=fun v=> .int .i64 v) (φ:=fun v=>v∈([-1,70,90,100]:List Int)) U pO U U U U (fun wx hm=>(eT [-1,70,90,100] _ _ _ wx B sb _ hm.k (by omega) (by simp) (by simp) (hm.blkI 0 U) (hm.neRow 0 U U))) fun v13 hv13=>?_)
   have bv13: -1<=v13/\v13<=100:=gP hv13 (by decide)
   have bv130:=bv13.1
   have bv131:=bv13.2
   clear bv13
   refine bP U (jE 3 [.int .i64 (-1),.int .i64 200,.int .i64 250,.int .i64 300] fun g14=>dN (γ:=Int) (val:=fun v=> .int .i64 v) (φ:=fun v=>v∈([-1,200,250,300]:List Int)) U pO U U U U (fun wx hm=>(eT [-1,200,250,300] _ _ _ wx B sb _ hm.k (by omega) (by simp) (by simp) (hm.blkI 0 U) (hm.neRow 0 U U))) fun v15 hv15=>?_)
   have bv15: -1<=v15/\v15<=300:=gP hv15 (by decide)
   have bv150:=bv15.1
   have bv151:=bv15.2
   clear bv15
   refine bB (dJ (cs:= [.string nm,.int .i64 fr,.int .i64 (fr+v7),.int .i64 v9,.int .i64 v11,.int .i64 v13,.int .i64 v15]) U (by kernel_rfl)) U (dL cA8 U fun g16=>kE (cs':= [.string nm,.int .i64 fr,.int .i64 (fr+v7),.int .i64 v9,.int .i64 v11,.int .i64 v13,.int .i64 v15]) 0 bM0 U U U U (bQ (bR (dY qV U U (eJ fP 0 U U U (bB (eC6 U U) U (dY qV U U (jH 0 fP U U U U U U (bQ (bH (bR (dY qE U U (eJ fP 0 U U U (dY qV U U (eJ fP 0 U U U (bB (mG U U) U (bQ ?_)))))))))))))))))
   refine cC U (fun hb=>?_) (fun hb=>?_)
   ·refine dD ?_
    refine bF (bY5 U (bF (bF (bY (bG (bD (bI (gO U U (bP U (bE ?_))))))))))
    exact cN (k+1,n,v,l,l.flatMap kU) ⟨by dsimp only;omega,by dsimp only;omega,hj3,hj4,dC2 hjr hx,rfl⟩ (by dsimp only;omega) ⟨U,U,U,U,U,(cR (by omega)),trivial⟩ (fun _ hm=>(hm.more U (by first|omega|(dsimp only;omega))).pick [6] [0] [] U U)
   refine bN (bD (bR (bP U (bB (cU bM0 U (fun _ hm=>hm.blkI 0 U) U U) U (jE 219 [.string nm,.int .i64 fr,.int .i64 (min (fr+v7) 4001),.int .i64 v9,.int .i64 v11,.int .i64 v13,.int .i64 v15] fun g17=>eB (news:= [.string nm,.int .i64 fr,.int .i64 (min (fr+v7) 4001),.int .i64 v9,.int .i64 v11,.int .i64 v13,.int .i64 v15]) 0 0 eL7 U U U U U U U (by omega) (by unfold maxLen;omega) U U fun v2 zJ=>bX U (bQ (gd (fun wz=>Blk wz g16 219 [.string nm,.int .i64 fr,.int .i64 (min (fr+v7) 4001),.int .i64 v9,.int .i64 v11,.int .i64 v13,.int .i64 v15]/\True) mixed (fun _ hm=>⟨hm.bl 1,trivial⟩) fun z=>wq 0 U (bS qV U U) (wq 1 U (cQ fP U (fun _ hm=>hm.1) U) (wq 2 U (bL U) (eG 3 U (jE 3 [.int .i64 0,.int .i64 0,.int .i64 0,.int .i64 2] fun g18=>bE (nw 7 15 (fun _ hm=>⟨hm.bl 2,trivial⟩) fun z=>eG 4 U (dN (γ:=Int) (val:=fun v=> .int .i64 v) (φ:=fun v=>v∈([0,0,0,2]:List Int)) U pO U U U U (fun wx hm=>(eT [0,0,0,2] _ _ _ wx B sb _ hm.k (by omega) (by simp) (by simp) (hm.blkI 0 U) (hm.neRow 0 U U))) fun v19 hv19=>?_)))))))))))))
   have bv19:0<=v19/\v19<=2:=gP hv19 (by decide)
   have bv190:=bv19.1
   have bv191:=bv19.2
   clear bv19
   refine bE (nw 7 31 (fun _ hm=>⟨hm.bl 2,trivial⟩) fun z=>wq 5 U (ov_add U U (by omega) (by omega)) (wq 6 U (cV U) (jO (bG (bD (bI (gO U U (bP U (bE ?_)))))))))
   exact cN (j+1,(min (fr+v7) 4001)+v19,n+1,v2,l++ [⟨nm,fr,min (fr+v7) 4001,v9,v11,v13,v15⟩],l.flatMap kU++([.string nm,.int .i64 fr,.int .i64 (min (fr+v7) 4001),.int .i64 v9,.int .i64 v11,.int .i64 v13,.int .i64 v15]:List Value)) ⟨by dsimp only;omega,⟨by dsimp only;omega,by dsimp only;omega⟩,by dsimp only;omega,by simp [hj3],dD2 hj4 ⟨by dsimp only;omega,by dsimp only;omega,⟨by dsimp only;omega,by dsimp only;omega⟩,⟨by dsimp only;omega,by dsimp only;omega⟩,⟨by dsimp only;omega,by dsimp only;omega⟩,⟨by dsimp only;omega,by dsimp only;omega⟩,⟨by dsimp only;omega,by dsimp only;omega⟩,⟨by dsimp only;omega,by dsimp only;omega⟩⟩,dH9 hjr hx (by omega) (by omega) (by omega) (by omega) (by omega) (by dsimp only;omega),by simp [kU]⟩ (by dsimp only;omega) ⟨U,U,U,U,U,U,U,U,U,(cR (by omega)),trivial⟩ (fun _ hm=>(hm.more U (by first|omega|(dsimp only;omega))).pick [8] [0] [] U U)
  refine dD (bF (bF (bY (bG (bD (bI (gO U U (bP U (bE ?_)))))))))
  exact cN (k+1,n,v,l,l.flatMap kU) ⟨by dsimp only;omega,by dsimp only;omega,hj3,hj4,dC2 hjr hx,rfl⟩ (by dsimp only;omega) ⟨U,U,U,U,U,(cR (by omega)),trivial⟩ (fun _ hm=>(hm.more U (by first|omega|(dsimp only;omega))).pick [0] [0] [] U U)
 refine dD (bF (bF (bY (bD (bR (bP U (bX U (bQ (bM ?_)))))))))
 refine eD2 (R:=∃A cc,v= .slice A n cc) (fun wx hm=>dR (hm.ownI 0 U)) ?_
 rintro ⟨A,c,rfl⟩
 exact bJ U U fun wx hm=>⟨A,n,c,l,U,hm.ownI 0 U,hi3,vN,by omega,dT4 hrr (by omega),hm.k.more (by omega),hm.g⟩
theorem cJ1 (w:World) (B sb m:Nat) (hS:eU 25 w B sb m) (hm:m<=100000000000):
 Calls prog 64 #[.pointer (some ⟨sb,0,none⟩)] w (fun e w'=>∃(A:Option Addr) (n c:Nat) (l:List Rt),e=.returned (.slice A n c)/\w'.ownsRow w.heap.size 219 7 (.slice A n c) n (l.flatMap kU)/\(∀x∈l,RtH x)/\l.length=n/\n<=9/\eU 25 w' B sb (m+120)/\w.grownBy w' (some sb)):=(bF2 w B sb m hS hm).mono fun _ _ ⟨A,n,c,l,he,ho,h1,h2,h3,_,h⟩=>⟨A,n,c,l,he,ho,h1,h2,h3,h⟩
theorem dS7 (w:World) (B sb m:Nat) (hS:eU 25 w B sb m) (hm:m<=100000000000):
 Calls prog 106 #[.pointer (some ⟨sb,0,none⟩)] w (fun e w'=>∃(A:Option Addr) (n c:Nat) (l:List Rt),e=.returned (.slice A n c)/\SlT kU 7 219 w' A n l/\(∀x∈l,RtH x)/\n<=10/\n<=c/\eU 25 w' B sb (m+200)/\w.grownBy w' (some sb)):=by
 refine cS ⟨56,w,(some sb), []⟩ func106 U ntmps106 U (bF4 (X:= []) hS cX cY) (bR (bX U (bQ (bR (bP U ?_)))))
 refine dO5 (γ:=Option Addr×Nat×Nat×List Rt) (val:=(fun g=> .slice g.1 g.2.1 g.2.2.1)) (φ:=(fun g=>(∀x∈g.2.2.2,RtH x)/\g.2.2.2.length=g.2.1/\g.2.1<=9)) (m':=m+120) (fun g=>⟨.slice g.1 g.2.1 g.2.2.1,219,7,g.2.1,g.2.2.2.flatMap kU⟩) U eN9 U U U U (fun wx hm=>(cJ1 wx B sb _ hm.k (by omega)).mono fun _ _ ⟨A,n,c,l,he,ho,hok,hl,hn,hS,hg⟩=>⟨(A,n,c,l),he,⟨hok,hl,hn⟩,hS,hg,ho⟩) ?_
 rintro ⟨A,n,c,l⟩ mT
 dsimp only at mT ⊢
 obtain ⟨hi3,vN,hn⟩:=mT
 refine bX U (bQ (bH (bR (bP U (bB (dT bP7 U) U (bB (eK U U) U (bP U ?_)))))))
 rcases Bool.eq_false_or_eq_true (decide (0 < ((n:Nat):Int))) with hb|hb
 ·refine bK 10 U (fU3 hb) ?_
  have hk0:0 < n:=by simpa using hb
  refine eE U (bP U (eE U (dN (γ:=Bool) (val:=fun v=> .bool v) (φ:=fun v=>True) U xN U U U U (fun wx hm=>((jY _ wx B sb _ hm.k (by omega) (by omega) (by omega)).mono fun _ _ ⟨v,he,hS,hg⟩=>⟨v,trivial,he,hS,hg⟩)) fun f1 _=>mN U U (bQ ?_))))
  refine dC U (fun hh=>?_) (fun hh=>?_)
  ·have hf:f1=true:=by simpa using hh
   refine bR ?_
   refine dV (R:=∃g,A=some ⟨g,0,none⟩) (fun wx hm=>xH (hm.ownI 0 U) hk0) ?_
   rintro ⟨bo,rfl⟩
   refine bP U (bP U (bP U (bB (dT bP7 U) U (dN (γ:=Int) (val:=fun v=> .int .i64 v) (φ:=fun v=>mW ((n:Nat):Int) v) U bP8 U U U U (fun wx hm=>(mM _ wx B sb _ hm.k (by omega) (by omega) (by omega))) fun vj hvj=>?_))))
   have hj:=rB hvj (by omega)
   obtain ⟨i,rfl⟩:=Int.eq_ofNat_of_zero_le hj.1
   have hij:i < n:=by omega
   obtain ⟨y,hy⟩:∃y,l[i]?=some y:=⟨_,fW3 (by omega)⟩
   obtain ⟨y0,y1,y2,y3,y4,y5,y6⟩:=y
   obtain ⟨hy3,hy0,hy1,hy2,hy4,hy5,hy6,hy7⟩:=hi3 _ (fX3 hy)
   dsimp only at hy3 hy0 hy1 hy2 hy4 hy5 hy6 hy7
   obtain ⟨z,hz⟩:∃z,l[0]?=some z:=⟨_,fW3 (by omega)⟩
   obtain ⟨z0,z1,z2,z3,z4,z5,z6⟩:=z
   have hz0:=hi3 _ (fX3 hz)
   refine bB (bV (j:=i) bP7 U U (by omega)) U (bX U (bQ (bR (bP U (dN (γ:=Int) (val:=fun v=> .int .i64 v) (φ:=fun v=>mW 4 v) U bP8 U U U U (fun wx hm=>(mM _ wx B sb _ hm.k (by omega) (by omega) (by omega))) fun vk hvk=>bQ (bO (bR (bB (eL U U) U (bX U (bQ ?_))))))))))
   refine cC U (fun hc0=>?_) (fun hc0=>?_)
   ·refine bI (bP U (bP U ?_))
    refine jE 9 [.string ⟨#[]⟩,.string ⟨#[65]⟩,.string ⟨#[109,105,110,105]⟩,.string ⟨#[122,101,100]⟩] fun g2=>dN (γ:=ByteArray) (val:=fun v=> .string v) (φ:=fun v=>v∈([⟨#[]⟩,⟨#[65]⟩,⟨#[109,105,110,105]⟩,⟨#[122,101,100]⟩]:List ByteArray)) U rK U U U U (fun wx hm=>(gU [⟨#[]⟩,⟨#[65]⟩,⟨#[109,105,110,105]⟩,⟨#[122,101,100]⟩] _ _ _ wx B sb _ hm.k (by omega) (by simp) (by simp) (hm.blkI 0 U) (hm.neRow 0 U U))) fun s3 hs3=>?_
    have zs3:s3.size<=100:=kG hs3 (by decide)
    refine bB (dA U) U (dY nZ U U (fY (l:=l) (j:=i) (r:=0) (el:=⟨y0,y1,y2,y3,y4,y5,y6⟩) (el':=⟨s3,y1,y2,y3,y4,y5,y6⟩) 0 fC U U U U uT U hy vN (show 0 < 7 by decide) U U (bE (bG (bD (bR (bP U (bX U (bQ (bM ?_))))))))))
    exact bJ U U fun wx hm=>⟨some ⟨bo,0,none⟩,n,c,(l.set i ⟨s3,y1,y2,y3,y4,y5,y6⟩),U,SlT.ofOwn uT (hm.ownI 0 U) (by simp;exact vN),cU4 (hi3) ⟨by dsimp only;omega,by dsimp only;omega,⟨by dsimp only;omega,by dsimp only;omega⟩,⟨by dsimp only;omega,by dsimp only;omega⟩,⟨by dsimp only;omega,by dsimp only;omega⟩,⟨by dsimp only;omega,by dsimp only;omega⟩,⟨by dsimp only;omega,by dsimp only;omega⟩,⟨by dsimp only;omega,by dsimp only;omega⟩⟩,by omega,jA (hm.ownI 0 rfl),hm.k.more (by omega),hm.g⟩
   refine bR (bB (eL U U) U (bX U (bQ ?_)))
   refine cC U (fun hc1=>?_) (fun hc1=>?_)
   ·refine bI (bP U (bP U (bP U ?_)))
    refine dN (γ:=Int) (val:=fun v=> .int .i64 v) (φ:=fun v=> -2000000000000000<=v/\v<=2000000000000000) U bO2 U U U U (fun wx hm=>(mF _ _ wx B sb _ hm.k (by omega) (by omega) (by omega) (by omega))) fun v4 hv4=>bP U (dN (γ:=Int) (val:=fun v=> .int .i64 v) (φ:=fun v=> -2000000000000000<=v/\v<=2000000000000000) U bO2 U U U U (fun wx hm=>(mF _ _ wx B sb _ hm.k (by omega) (by omega) (by omega) (by omega))) fun v5 hv5=>bB (dA U) U (dY qE U U (fY (l:=l) (j:=i) (r:=1) (el:=⟨y0,y1,y2,y3,y4,y5,y6⟩) (el':=⟨y0,v4,y2,y3,y4,y5,y6⟩) 0 fP U U U U uT U hy vN (show 1 < 7 by decide) U U (bB (dA U) U (dY qV U U ?_)))))
    refine fY (l:=(l.set i ⟨y0,v4,y2,y3,y4,y5,y6⟩)) (j:=i) (r:=2) (el:=⟨y0,v4,y2,y3,y4,y5,y6⟩) (el':=⟨y0,v4,v5,y3,y4,y5,y6⟩) 0 fP U U U U uT U (List.getElem?_set_self (by first|omega|(simp;omega))) (by simp;exact vN) (show 2 < 7 by decide) U U ?_
    refine bE (bG (bD (bR (bP U (bX U (bQ (bM ?_)))))))
    exact bJ U U fun wx hm=>⟨some ⟨bo,0,none⟩,n,c,((l.set i ⟨y0,v4,y2,y3,y4,y5,y6⟩).set i ⟨y0,v4,v5,y3,y4,y5,y6⟩),U,SlT.ofOwn uT (hm.ownI 0 U) (by simp;exact vN),cU4 (cU4 (hi3) ⟨by dsimp only;omega,by dsimp only;omega,⟨by dsimp only;omega,by dsimp only;omega⟩,⟨by dsimp only;omega,by dsimp only;omega⟩,⟨by dsimp only;omega,by dsimp only;omega⟩,⟨by dsimp only;omega,by dsimp only;omega⟩,⟨by dsimp only;omega,by dsimp only;omega⟩,⟨by dsimp only;omega,by dsimp only;omega⟩⟩) ⟨by dsimp only;omega,by dsimp only;omega,⟨by dsimp only;omega,by dsimp only;omega⟩,⟨by dsimp only;omega,by dsimp only;omega⟩,⟨by dsimp only;omega,by dsimp only;omega⟩,⟨by dsimp only;omega,by dsimp only;omega⟩,⟨by dsimp only;omega,by dsimp only;omega⟩,⟨by dsimp only;omega,by dsimp only;omega⟩⟩,by omega,jA (hm.ownI 0 rfl),hm.k.more (by omega),hm.g⟩
   refine bR (bB (eL U U) U (bX U (bQ ?_)))
   refine cC U (fun hc2=>?_) (fun hc2=>?_)
   ·refine bI (bP U (bP U ?_))
    refine dN (γ:=Int) (val:=fun v=> .int .i64 v) (φ:=fun v=> -2000000000000000<=v/\v<=2000000000000000) U bO2 U U U U (fun wx hm=>(mF _ _ wx B sb _ hm.k (by omega) (by omega) (by omega) (by omega))) fun v6 hv6=>bB (dA U) U (dY bA8 U U (fY (l:=l) (j:=i) (r:=4) (el:=⟨y0,y1,y2,y3,y4,y5,y6⟩) (el':=⟨y0,y1,y2,y3,v6,y5,y6⟩) 0 fP U U U U uT U hy vN (show 4 < 7 by decide) U U (bE (bG (bD (bR (bP U (bX U (bQ (bM ?_))))))))))
    exact bJ U U fun wx hm=>⟨some ⟨bo,0,none⟩,n,c,(l.set i ⟨y0,y1,y2,y3,v6,y5,y6⟩),U,SlT.ofOwn uT (hm.ownI 0 U) (by simp;exact vN),cU4 (hi3) ⟨by dsimp only;omega,by dsimp only;omega,⟨by dsimp only;omega,by dsimp only;omega⟩,⟨by dsimp only;omega,by dsimp only;omega⟩,⟨by dsimp only;omega,by dsimp only;omega⟩,⟨by dsimp only;omega,by dsimp only;omega⟩,⟨by dsimp only;omega,by dsimp only;omega⟩,⟨by dsimp only;omega,by dsimp only;omega⟩⟩,by omega,jA (hm.ownI 0 rfl),hm.k.more (by omega),hm.g⟩
   refine bI (bP U (bP U (bB (bV (j:=0) bP7 U U hk0) U (bB (dP (vs:= [.string z0,.int .i64 z1,.int .i64 z2,.int .i64 z3,.int .i64 z4,.int .i64 z5,.int .i64 z6]) bM0 U (fun _ hm=>(SlT.ofOwn uT (hm.ownI 0 U) vN)) (show l[0]?=some _ from hz) U U) U (jE 219 [.string z0,.int .i64 z1,.int .i64 z2,.int .i64 z3,.int .i64 z4,.int .i64 z5,.int .i64 z6] fun g7=>eB (news:= [.string z0,.int .i64 z1,.int .i64 z2,.int .i64 z3,.int .i64 z4,.int .i64 z5,.int .i64 z6]) 0 0 eL7 U U U U U U U (by omega) (by unfold maxLen;omega) U U fun v2 zJ=>?_)))))
   refine dV (R:=∃A cc,v2= .slice A (n+1) cc) (fun wx hm=>dR (hm.ownI 0 U)) ?_
   rintro ⟨A2,c2,rfl⟩
   refine bX U (bE (bG (bD (bR (bP U (bX U (bQ (bM ?_))))))))
   exact bJ U U fun wx hm=>⟨A2,n+1,c2,l++ [⟨z0,z1,z2,z3,z4,z5,z6⟩],U,SlT.ofOwn (l:=l++ [⟨z0,z1,z2,z3,z4,z5,z6⟩]) uT (by have h:=hm.ownI 0 rfl;simpa [kU] using h) (by simp [vN]),dD2 hi3 hz0,by omega,jA (hm.ownI 0 rfl),hm.k.more (by omega),hm.g⟩
  have hf:f1=false:=by simpa using hh
  refine bN (bD (bR (bP U (bX U (bQ (bM ?_))))))
  exact bJ U U fun wx hm=>⟨A,n,c,l,U,SlT.ofOwn uT (hm.ownI 0 U) vN,hi3,by omega,jA (hm.ownI 0 rfl),hm.k.more (by omega),hm.g⟩
 refine bK 10 U (fU3 hb) (dZ U (dZ U (nR U U (bQ (jQ U (bN (bD (bR (bP U (bX U (bQ (bM ?_))))))))))))
 exact bJ U U fun wx hm=>⟨A,n,c,l,U,SlT.ofOwn uT (hm.ownI 0 U) vN,hi3,by omega,jA (hm.ownI 0 rfl),hm.k.more (by omega),hm.g⟩
theorem dR7 (w:World) (B sb m:Nat) (hS:eU 25 w B sb m) (hm:m<=100000000000):
 Calls prog 106 #[.pointer (some ⟨sb,0,none⟩)] w (fun e w'=>∃(A:Option Addr) (n c:Nat) (l:List Rt),e=.returned (.slice A n c)/\SlT kU 7 219 w' A n l/\(∀x∈l,RtG x)/\n<=10/\n<=c/\eU 25 w' B sb (m+200)/\w.grownBy w' (some sb)):=(dS7 w B sb m hS hm).mono fun _ _ ⟨A,n,c,l,he,hs,ho,h⟩=>⟨A,n,c,l,he,hs,eI4 ho,h⟩
def rR (rl:List Rt) (el:List Ex) (fl:List Fe) (cl:List Cd) (tl:List Tx):Int:=dG [pL rl,qC el,xC fl,rY cl,vV tl]
theorem dM0 (rl:List Rt) (rA:Option Addr) (rn rc:Nat) (el:List Ex) (eA:Option Addr) (en ec:Nat) (fl:List Fe) (fA:Option Addr) (fn fc:Nat) (cl:List Cd) (cA:Option Addr) (cn cc:Nat) (tl:List Tx) (tA:Option Addr) (tn tc:Nat) (w:World) (hr:SlT kU 7 219 w rA rn rl) (he:SlT qO 4 254 w eA en el) (hf:SlT nD 3 258 w fA fn fl) (hc:SlT nS 6 260 w cA cn cl) (ht:SlT jU 4 263 w tA tn tl) (hons:Ons tl w) (hro:∀x∈rl,cW0 x) (heo:∀x∈el,bD5 x) (hfo:∀x∈fl,bU1 x) (hco:∀x∈cl,zG x) (hto:∀x∈tl,jF x) (hrn:rn<=1000) (hen:en<=1000) (hfn:fn<=1000) (hcn:cn<=1000) (htn:tn<=3) (htc:tn<=tc):
 Calls prog 125 #[.agg #[.slice rA rn rc,.slice eA en ec,.slice fA fn fc,.slice cA cn cc,.slice tA tn tc]] w (mP w (rR rl el fl cl tl)):=by
 refine cS ⟨20,w,none, []⟩ func125 U ntmps125 U (gM (X:= [bW kU 7 219 w.heap.size none rA rn rl,bW qO 4 254 w.heap.size none eA en el,bW nD 3 258 w.heap.size none fA fn fl,bW nS 6 260 w.heap.size none cA cn cl,bW jU 4 263 w.heap.size none tA tn tl,mQ w.heap.size none tl]) (cF hr.old (cF he.old (cF hf.old (cF hc.old (cF ht.old (cF hons.old cX)))))) (cG bW.lasts (cG bW.lasts (cG bW.lasts (cG bW.lasts (cG bW.lasts (cG mQ.lasts cY))))))) (bR ?_)
 obtain ⟨RE,hRE⟩:∃E,E=pL rl:=⟨_,rfl⟩
 obtain ⟨XE,hXE⟩:∃E,E=qC el:=⟨_,rfl⟩
 obtain ⟨FE,hFE⟩:∃E,E=xC fl:=⟨_,rfl⟩
 obtain ⟨CE,hCE⟩:∃E,E=rY cl:=⟨_,rfl⟩
 obtain ⟨TE,hTE⟩:∃E,E=vV tl:=⟨_,rfl⟩
 have hTE5:rR rl el fl cl tl=dG [RE,XE,FE,CE,TE]:=by rw [hRE,hXE,hFE,hCE,hTE];rfl
 refine fG U U U fun g1=>bX U (bQ (bH (gd (fun wz=>Blk wz g1 38 [.slice rA rn rc,.slice eA en ec,.slice fA fn fc,.slice cA cn cc,.slice tA tn tc]/\True) mixed (fun _ hm=>⟨hm.bl 0,trivial⟩) fun z=>wq 0 U (bS dH7 U U) (wq 1 U (cQ fB1 U (fun _ hm=>hm.1) U) (wq 3 U (bS dI7 U U) (wq 4 U (cQ fC1 U (fun _ hm=>hm.1) U) (wq 6 U (bS dJ7 U U) (wq 7 U (cQ fD1 U (fun _ hm=>hm.1) U) (wq 9 U (bS dK7 U U) (wq 10 U (cQ fE1 U (fun _ hm=>hm.1) U) (wq 12 U (bS dL7 U U) (wq 13 U (cQ fF1 U (fun _ hm=>hm.1) U) (eG 2 U (cH (v:= .int .i64 RE) U eP8 U U (fun wx hm=>(by rw [hRE];exact bS8 rl rA rn rc wx (hm.fact 0 rfl).1 hro (by omega))) (bE (nw 18 14047 (fun _ hm=>⟨hm.bl 0,trivial⟩) fun z=>eG 5 U (cH (v:= .int .i64 XE) U eQ8 U U (fun wx hm=>(by rw [hXE];exact bM7 el eA en ec wx (hm.fact 1 rfl).1 heo (by omega))) (bE (nw 18 14079 (fun _ hm=>⟨hm.bl 0,trivial⟩) fun z=>eG 8 U (cH (v:= .int .i64 FE) U eR8 U U (fun wx hm=>(by rw [hFE];exact cB1 fl fA fn fc wx (hm.fact 2 rfl).1 hfo (by omega))) (bE (nw 18 14335 (fun _ hm=>⟨hm.bl 0,trivial⟩) fun z=>eG 11 U (cH (v:= .int .i64 CE) U eS8 U U (fun wx hm=>(by rw [hCE];exact bQ8 cl cA cn cc wx (hm.fact 3 rfl).1 hco (by omega))) (bE ?_))))))))))))))))))))))))
 refine nw 18 16383 (fun _ hm=>⟨hm.bl 0,trivial⟩) fun z=>eG 14 U (cH (v:= .int .i64 TE) U eT8 U U (fun wx hm=>(by rw [hTE];exact bT8 tl tA tn tc wx (hm.fact 4 rfl).1 (mQ.ons (hm.fact 5 rfl)) hto (by omega) htc)) (bE (nw 18 32767 (fun _ hm=>⟨hm.bl 0,trivial⟩) fun z=>eG 15 U (jE 48 [.int .i64 RE,.int .i64 XE,.int .i64 FE,.int .i64 CE,.int .i64 TE] fun g2=>bE (nw 18 65535 (fun _ hm=>⟨hm.bl 1,trivial⟩) fun z=>eG 16 U (cZ U wH U U (fun wx hm=>(fN [RE,XE,FE,CE,TE] _ _ _ wx (hm.blkI 0 U) (by simp))) (bE (nw 18 131071 (fun _ hm=>⟨hm.bl 1,trivial⟩) fun z=>wq 17 U (cV U) (jO (bD (bM ?_)))))))))))
 exact bJ U U fun wx hm=>⟨bT hTE5.symm,hm.g⟩
theorem bW7 (rl:List Rt) (rA:Option Addr) (rn rc:Nat) (el:List Ex) (eA:Option Addr) (en ec:Nat) (fl:List Fe) (fA:Option Addr) (fn fc:Nat) (cl:List Cd) (cA:Option Addr) (cn cc:Nat) (tl:List Tx) (tA:Option Addr) (tn tc:Nat) (w:World) (hr:SlT kU 7 219 w rA rn rl) (he:SlT qO 4 254 w eA en el) (hf:SlT nD 3 258 w fA fn fl) (hc:SlT nS 6 260 w cA cn cl) (ht:SlT jU 4 263 w tA tn tl) (hons:Ons tl w) (hro:∀x∈rl,cW0 x) (heo:∀x∈el,bD5 x) (hfo:∀x∈fl,bU1 x) (hco:∀x∈cl,zG x) (hto:∀x∈tl,jF x) (hrn:rn<=1000) (hen:en<=1000) (hfn:fn<=1000) (hcn:cn<=1000) (htn:tn<=3) (htc:tn<=tc):
 Calls prog 63 #[.agg #[.slice rA rn rc,.slice eA en ec,.slice fA fn fc,.slice cA cn cc,.slice tA tn tc]] w (mP w (rR rl el fl cl tl)):=by
 refine cS ⟨30,w,none, []⟩ func63 U ntmps63 U (gM (X:= [bW kU 7 219 w.heap.size none rA rn rl,bW qO 4 254 w.heap.size none eA en el,bW nD 3 258 w.heap.size none fA fn fl,bW nS 6 260 w.heap.size none cA cn cl,bW jU 4 263 w.heap.size none tA tn tl,mQ w.heap.size none tl]) (cF hr.old (cF he.old (cF hf.old (cF hc.old (cF ht.old (cF hons.old cX)))))) (cG bW.lasts (cG bW.lasts (cG bW.lasts (cG bW.lasts (cG bW.lasts (cG mQ.lasts cY))))))) (bR ?_)
 obtain ⟨RE,hRE⟩:∃E,E=pL rl:=⟨_,rfl⟩
 obtain ⟨XE,hXE⟩:∃E,E=qC el:=⟨_,rfl⟩
 obtain ⟨FE,hFE⟩:∃E,E=xC fl:=⟨_,rfl⟩
 obtain ⟨CE,hCE⟩:∃E,E=rY cl:=⟨_,rfl⟩
 obtain ⟨TE,hTE⟩:∃E,E=vV tl:=⟨_,rfl⟩
 have hTE5:rR rl el fl cl tl=dG [RE,XE,FE,CE,TE]:=by rw [hRE,hXE,hFE,hCE,hTE];rfl
 rw [hTE5]
 refine fG U U U fun g1=>bX U (bQ (bH (bH (gd (fun wz=>Blk wz g1 38 [.slice rA rn rc,.slice eA en ec,.slice fA fn fc,.slice cA cn cc,.slice tA tn tc]/\True) mixed (fun _ hm=>⟨hm.bl 0,trivial⟩) fun z=>wq 0 U (bS dH7 U U) (wq 1 U (cQ fB1 U (fun _ hm=>hm.1) U) (wq 3 U (bS dI7 U U) (wq 4 U (cQ fC1 U (fun _ hm=>hm.1) U) (wq 6 U (bS dJ7 U U) (wq 7 U (cQ fD1 U (fun _ hm=>hm.1) U) (wq 9 U (bS dK7 U U) (wq 10 U (cQ fE1 U (fun _ hm=>hm.1) U) (wq 12 U (bS dL7 U U) (wq 13 U (cQ fF1 U (fun _ hm=>hm.1) U) (wq 17 U (bL U) (eG 2 U (cH (v:= .int .i64 RE) U eX7 U U (fun wx hm=>(by rw [hRE];exact cG0 rl rA rn rc wx (hm.fact 0 rfl).1 hro (by omega))) (bE (nw 18 145119 (fun _ hm=>⟨hm.bl 0,trivial⟩) fun z=>eG 5 U (cH (v:= .int .i64 XE) U eY7 U U (fun wx hm=>(by rw [hXE];exact bR7 el eA en ec wx (hm.fact 1 rfl).1 heo (by omega))) (bE (nw 18 145151 (fun _ hm=>⟨hm.bl 0,trivial⟩) fun z=>eG 8 U (cH (v:= .int .i64 FE) U eZ7 U U (fun wx hm=>(by rw [hFE];exact cH1 fl fA fn fc wx (hm.fact 2 rfl).1 hfo (by omega))) (bE (nw 18 145407 (fun _ hm=>⟨hm.bl 0,trivial⟩) fun z=>eG 11 U ?_))))))))))))))))))))))))
 refine cH (v:= .int .i64 CE) U eA8 U U (fun wx hm=>(by rw [hCE];exact bV8 cl cA cn cc wx (hm.fact 3 rfl).1 hco (by omega))) (bE (nw 18 147455 (fun _ hm=>⟨hm.bl 0,trivial⟩) fun z=>eG 14 U (cH (v:= .int .i64 TE) U eB8 U U (fun wx hm=>(by rw [hTE];exact cQ0 tl tA tn tc wx (hm.fact 4 rfl).1 (mQ.ons (hm.fact 5 rfl)) hto (by omega) htc)) (bE (nw 18 163839 (fun _ hm=>⟨hm.bl 0,trivial⟩) fun z=>eG 15 U (jE 48 [.int .i64 RE,.int .i64 XE,.int .i64 FE,.int .i64 CE,.int .i64 TE] fun g2=>bE (nw 18 196607 (fun _ hm=>⟨hm.bl 1,trivial⟩) fun z=>wq 16 U (dT cT1 U) (dH 21 (v':= .int .i64 5) U U (jO (bD (bO (eY 6 (eD (bR (bB (dE U U) U (bK 23 (v':= .bool true) U (fU3 (by decide)) (bQ (bH (kP U (bN (bD (bH (bO (bR (bB (bV (j:=0) cT1 U U (by decide)) U ?_)))))))))))))))))))))))))
 refine eJ dL9 0 U U U (bX U (bQ (bR (bP U (bB (gS U U) U (bQ ?_))))))
 refine gI U (fun g0=>?_) (fun g0=>?_)
 ·refine bR (bP U (bX U (bQ ?_)))
  refine bM (bC (bA (bA (bC (bA ?_)))))
  exact bJ U U fun wx hm=>⟨bT (by simp [dG,g0]),hm.g⟩
 refine bN (bG (bD (bI (gO U U (bK 29 (v':= .int .i64 1) U U (bP U (bE (hW (eD (bR (bB (dE U U) U (bK 23 (v':= .bool true) U (fU3 (by decide)) (bQ (bH (kP U (bN (bD (bH (bO (bR (bB (bV (j:=1) cT1 U U (by decide)) U (eJ dL9 0 U U U (bX U (bQ (bR (bP U (bB (gS U U) U (bQ ?_))))))))))))))))))))))))))))
 refine gI U (fun g1=>?_) (fun g1=>?_)
 ·refine bR (bP U (bX U (bQ ?_)))
  refine bM (bC (bA (bA (bC (bA ?_)))))
  exact bJ U U fun wx hm=>⟨bT (by simp [dG,g0,g1]),hm.g⟩
 refine bN (bG (bD (bI (gO U U (bK 29 (v':= .int .i64 2) U U (bP U (bE (hW (eD (bR (bB (dE U U) U (bK 23 (v':= .bool true) U (fU3 (by decide)) (bQ (bH (kP U (bN (bD (bH (bO (bR (bB (bV (j:=2) cT1 U U (by decide)) U (eJ dL9 0 U U U (bX U (bQ (bR (bP U (bB (gS U U) U (bQ ?_))))))))))))))))))))))))))))
 refine gI U (fun g2=>?_) (fun g2=>?_)
 ·refine bR (bP U (bX U (bQ ?_)))
  refine bM (bC (bA (bA (bC (bA ?_)))))
  exact bJ U U fun wx hm=>⟨bT (by simp [dG,g0,g1,g2]),hm.g⟩
 refine bN (bG (bD (bI (gO U U (bK 29 (v':= .int .i64 3) U U (bP U (bE (hW (eD (bR (bB (dE U U) U (bK 23 (v':= .bool true) U (fU3 (by decide)) (bQ (bH (kP U (bN (bD (bH (bO (bR (bB (bV (j:=3) cT1 U U (by decide)) U (eJ dL9 0 U U U (bX U (bQ (bR (bP U (bB (gS U U) U (bQ ?_))))))))))))))))))))))))))))
 refine gI U (fun g3=>?_) (fun g3=>?_)
 ·refine bR (bP U (bX U (bQ ?_)))
  refine bM (bC (bA (bA (bC (bA ?_)))))
  exact bJ U U fun wx hm=>⟨bT (by simp [dG,g0,g1,g2,g3]),hm.g⟩
 refine bN (bG (bD (bI (gO U U (bK 29 (v':= .int .i64 4) U U (bP U (bE (hW (eD (bR (bB (dE U U) U (bK 23 (v':= .bool true) U (fU3 (by decide)) (bQ (bH (kP U (bN (bD (bH (bO (bR (bB (bV (j:=4) cT1 U U (by decide)) U (eJ dL9 0 U U U (bX U (bQ (bR (bP U (bB (gS U U) U (bQ ?_))))))))))))))))))))))))))))
 refine gI U (fun g4=>?_) (fun g4=>?_)
 ·refine bR (bP U (bX U (bQ ?_)))
  refine bM (bC (bA (bA (bC (bA ?_)))))
  exact bJ U U fun wx hm=>⟨bT (by simp [dG,g0,g1,g2,g3,g4]),hm.g⟩
 refine bN (bG (bD (bI (gO U U (bK 29 (v':= .int .i64 5) U U (bP U (bE (hW (eD (bR (bB (dE U U) U (bK 23 (v':= .bool false) U (fU3 (by decide)) (bQ (bH (jQ U (dD (bF (bF (bY (bD (bR (bX U (bQ (bM ?_))))))))))))))))))))))))
 exact bJ U U fun wx hm=>⟨bT (by simp [dG,g0,g1,g2,g3,g4]),hm.g⟩
def ap (l:List Tx) (b:Bool) (x:Tx):List Tx:=bif b then l++ [x] else l
theorem eN7 {b1 b2 b3:Bool} {x1 x2 x3 y:Tx} {j:Nat} (h:(ap (ap (ap [] b1 x1) b2 x2) b3 x3)[j]?=some y):
 (y=x1/\∀z,∀x∈(ap (ap (ap [] b1 x1) b2 x2) b3 x3).set j z,x=z∨x=x2∨x=x3)∨(y=x2/\∀z,∀x∈(ap (ap (ap [] b1 x1) b2 x2) b3 x3).set j z,x=x1∨x=z∨x=x3)∨(y=x3/\∀z,∀x∈(ap (ap (ap [] b1 x1) b2 x2) b3 x3).set j z,x=x1∨x=x2∨x=z):=by
 match j with
 |0=>cases b1 <;> cases b2 <;> cases b3 <;> simp only [ap,cond_true,cond_false,List.nil_append,List.cons_append,List.getElem?_cons_zero,List.getElem?_nil,Option.some.injEq,reduceCtorEq] at h <;> subst h <;> first
  |exact .inl ⟨rfl,fun z x hx=>by simp [ap] at hx;first|exact hx|(rcases hx with hx|hx <;> simp [hx])|simp [hx]⟩
  |exact .inr (.inl ⟨rfl,fun z x hx=>by simp [ap] at hx;first|exact hx|(rcases hx with hx|hx <;> simp [hx])|simp [hx]⟩)
  |exact .inr (.inr ⟨rfl,fun z x hx=>by simp [ap] at hx;first|exact hx|(rcases hx with hx|hx <;> simp [hx])|simp [hx]⟩)
 |1=>cases b1 <;> cases b2 <;> cases b3 <;> simp only [ap,cond_true,cond_false,List.nil_append,List.cons_append,List.getElem?_cons_succ,List.getElem?_cons_zero,List.getElem?_nil,Option.some.injEq,reduceCtorEq] at h <;> subst h <;> first
  |exact .inr (.inl ⟨rfl,fun z x hx=>by simp [ap] at hx;first|exact hx|(rcases hx with hx|hx <;> simp [hx])|simp [hx]⟩)
  |exact .inr (.inr ⟨rfl,fun z x hx=>by simp [ap] at hx;first|exact hx|(rcases hx with hx|hx <;> simp [hx])|simp [hx]⟩)
 |2=>cases b1 <;> cases b2 <;> cases b3 <;> simp only [ap,cond_true,cond_false,List.nil_append,List.cons_append,List.getElem?_cons_succ,List.getElem?_cons_zero,List.getElem?_nil,Option.some.injEq,reduceCtorEq] at h <;> subst h <;> exact .inr (.inr ⟨rfl,fun z x hx=>by simp [ap] at hx;exact hx⟩)
 |n+3=>cases b1 <;> cases b2 <;> cases b3 <;> simp [ap] at h
theorem cE3 {b1 b2 b3:Bool} {x1 x2 x3:Tx}:∀x∈ap (ap (ap [] b1 x1) b2 x2) b3 x3,x=x1∨x=x2∨x=x3:=by
 intro x h
 cases b1 <;> cases b2 <;> cases b3 <;> simp [ap] at h <;> first|exact h|exact .inl h|exact .inr (.inl h)|exact .inr (.inr h)|exact h.imp id .inl|exact h.imp id .inr|exact .inr h
theorem dZ5 {l:List Tx} {n:Nat} {x:Tx} (h:n=l.length):n+1=(ap l true x).length:=by simp [ap,h]
theorem dU0 (l:List Tx) (ke:ByteArray) (mi:Int) (A:Option Addr) (n c:Nat) (on:List Int) (ov:Bool):l.flatMap jU++([.string ke,.int .i64 mi,.slice A n c,.bool ov]:List Value)=(ap l true ⟨ke,mi,A,n,c,on,ov⟩).flatMap jU:=by simp [ap,jU]
theorem nN {l:List Tx} {x1 x2 x3:Tx} {w:World} (h:∀x∈l,x=x1∨x=x2∨x=x3) (h1:SlT kF 1 3 w x1.A x1.n x1.on) (h2:SlT kF 1 3 w x2.A x2.n x2.on) (h3:SlT kF 1 3 w x3.A x3.n x3.on):Ons l w:=fun x hx=>by
 rcases h x hx with rfl|rfl|rfl
 ·exact h1
 ·exact h2
 ·exact h3
theorem rH {l:List Tx} {x1 x2 x3:Tx} (h:∀x∈l,x=x1∨x=x2∨x=x3) (h1:jF x1) (h2:jF x2) (h3:jF x3):∀x∈l,jF x:=fun x hx=>by
 rcases h x hx with rfl|rfl|rfl
 ·exact h1
 ·exact h2
 ·exact h3
theorem pF {w:World} {N n c:Nat} {A:Option Addr} {l:List Int} {v:Int} (h:w.ownsRow N 3 1 (.slice A (n+1) c) (n+1) (l.flatMap kF++([.int .i64 v]:List Value))) (hl:l.length=n):SlT kF 1 3 w A (n+1) (l++ [v]):=
 SlT.ofOwn fM (by rw [show (l++ [v]).flatMap kF=l.flatMap kF++([.int .i64 v]:List Value) by simp [kF]];exact h) (by simp [hl])
theorem cB9 (w:World) (B sb m:Nat) (hS:eU 25 w B sb m) (hm:m<=100000000000):
 Calls prog 110 #[.pointer (some ⟨sb,0,none⟩)] w (fun e w'=>∃(A:Option Addr) (n c:Nat) (l:List Tx),e=.returned (.slice A n c)/\SlT jU 4 263 w' A n l/\Ons l w'/\(∀x∈l,jF x)/\n<=3/\n<=c/\eU 25 w' B sb (m+400)/\w.grownBy w' (some sb)):=by
 refine cS ⟨88,w,(some sb), []⟩ func110 U ntmps110 U (bF4 (X:= []) hS cX cY) (bR (bX U (bQ (bR (bX U (bQ (bH (bR (jE 9 [.string ⟨#[99,105,116,121]⟩,.string ⟨#[115,116,97,116,101]⟩,.string ⟨#[118,97,116]⟩] fun g1=>bB (dT jX U) U (bK 11 (v':= .int .i64 3) U U (bP U (bQ (bO ?_)))))))))))))
 refine rG 263 4 ?_
 refine eY 4 (eD (bR (bB (dE U U) U (bK 13 (v':= .bool true) U (fU3 (by decide)) (bQ (bH (kP U (bN (bD ?_)))))))))
 refine pB (γ:=Bool×Value×Nat×List Value×ByteArray×Int×Option Addr×Nat×Nat×List Int×Bool) (I:=(fun g=>g.2.2.1=(ap [] g.1 ⟨g.2.2.2.2.1,g.2.2.2.2.2.1,g.2.2.2.2.2.2.1,g.2.2.2.2.2.2.2.1,g.2.2.2.2.2.2.2.2.1,g.2.2.2.2.2.2.2.2.2.1,g.2.2.2.2.2.2.2.2.2.2⟩).length/\g.2.2.2.1=(ap [] g.1 ⟨g.2.2.2.2.1,g.2.2.2.2.2.1,g.2.2.2.2.2.2.1,g.2.2.2.2.2.2.2.1,g.2.2.2.2.2.2.2.2.1,g.2.2.2.2.2.2.2.2.2.1,g.2.2.2.2.2.2.2.2.2.2⟩).flatMap jU/\g.2.2.2.2.1.size<=100/\g.2.2.2.2.2.2.2.2.2.1.length=g.2.2.2.2.2.2.2.1/\g.2.2.2.2.2.2.2.1<=5/\g.2.2.1<=1)) (S':=(fun g=> [(0,.pointer (some ⟨sb,0,none⟩)),(2,.slice none 0 0),(3,g.2.1),(10,.slice (some ⟨g1,0,none⟩) 3 3),(11,.int .i64 3),(12,.int .i64 0)])) (K':=(fun g=>fun w=>eU 25 w B sb (m+100))) (L':=(fun g=> [(g1,9, [.string ⟨#[99,105,116,121]⟩,.string ⟨#[115,116,97,116,101]⟩,.string ⟨#[118,97,116]⟩])])) (O':=(fun g=> [⟨g.2.1,263,4,g.2.2.1,g.2.2.2.1⟩,⟨.slice g.2.2.2.2.2.2.1 g.2.2.2.2.2.2.2.1 g.2.2.2.2.2.2.2.2.1,3,1,g.2.2.2.2.2.2.2.1,g.2.2.2.2.2.2.2.2.2.1.flatMap kF⟩])) (X':=(fun g=> [])) ?_ ?_
 ·refine bO (bR ?_)
  refine bB (bV (j:=0) jX U U (by decide)) U (eJ fC 0 U U U (bX U (bQ (bH (bR (bP U (dN (γ:=Bool) (val:=fun v=> .bool v) (φ:=fun v=>True) U xN U U U U (fun wx hm=>((jY _ wx B sb _ hm.k (by omega) (by omega) (by omega)).mono fun _ _ ⟨v,he,hS,hg⟩=>⟨v,trivial,he,hS,hg⟩)) fun f2 _=>bQ ?_)))))))
  refine rG 3 1 ?_
  refine dC U (fun hh=>?_) (fun hh=>?_)
  ·have hz:f2=true:=by simpa using hh
   refine dD (bF (bY ?_))
   exact fK (false,.slice none 0 0,0, [],⟨#[]⟩,0,none,0,0, [],false) ⟨U,U,by dsimp only;decide,rfl,by dsimp only;omega,by dsimp only;omega⟩ ⟨U,U,U,U,U,U,trivial⟩ (fun _ hm=>(hm.more U (by first|omega|(dsimp only;omega))).pick [0] [1,0] [] U U)
  have hz:f2=false:=by simpa using hh
  refine bN (bD (bR (bP U (bP U (jE 3 [.int .i64 0,.int .i64 50,.int .i64 75,.int .i64 200,.int .i64 1000] fun g3=>dN (γ:=Int) (val:=fun v=> .int .i64 v) (φ:=fun v=>v∈([0,50,75,200,1000]:List Int)) U pO U U U U (fun wx hm=>(eT [0,50,75,200,1000] _ _ _ wx B sb _ hm.k (by omega) (by simp) (by simp) (hm.blkI 0 U) (hm.neRow 0 U U))) fun v4 hv4=>?_)))))
  have bv4:0<=v4/\v4<=1000:=gP hv4 (by decide)
  have bv40:=bv4.1
  have bv41:=bv4.2
  clear bv4
  refine bP U (dN (γ:=Bool) (val:=fun v=> .bool v) (φ:=fun v=>True) U xN U U U U (fun wx hm=>((jY _ wx B sb _ hm.k (by omega) (by omega) (by omega)).mono fun _ _ ⟨v,he,hS,hg⟩=>⟨v,trivial,he,hS,hg⟩)) fun f5 _=>bB (dJ (cs:= [.string ⟨#[99,105,116,121]⟩,.int .i64 v4,.slice none 0 0,.bool f5]) U (by kernel_rfl)) U (dL cB8 U fun g6=>kE (cs':= [.string ⟨#[99,105,116,121]⟩,.int .i64 v4,.slice none 0 0,.bool f5]) 0 zB U U U U (bQ (bH (bR (jE 3 [.int .i64 1,.int .i64 2,.int .i64 3,.int .i64 4,.int .i64 6] fun g7=>bB (dT pD U) U (bK 26 (v':= .int .i64 5) U U (bP U (bQ (bO ?_))))))))))
  refine dX (γ:=Nat×Nat×Value×List Int×List Value) (fun g=>g.1<=5/\g.2.1<=g.1/\g.2.2.2.1.length=g.2.1/\g.2.2.2.2=g.2.2.2.1.flatMap kF) (fun g=> [(0,.pointer (some ⟨sb,0,none⟩)),(2,.slice none 0 0),(3,.slice none 0 0),(6,.pointer (some ⟨g6,0,none⟩)),(10,.slice (some ⟨g1,0,none⟩) 3 3),(11,.int .i64 3),(12,.int .i64 0),(25,.slice (some ⟨g7,0,none⟩) 5 5),(26,.int .i64 5),(27,.int .i64 ((g.1:Nat):Int))]) (fun g=>fun w=>eU 25 w B sb (m+1+1+1+5 *g.1)) (fun g=> [(g7,3, [.int .i64 1,.int .i64 2,.int .i64 3,.int .i64 4,.int .i64 6]),(g6,263, [.string ⟨#[99,105,116,121]⟩,.int .i64 v4,g.2.2.1,.bool f5]),(g3,3, [.int .i64 0,.int .i64 50,.int .i64 75,.int .i64 200,.int .i64 1000]),(g1,9, [.string ⟨#[99,105,116,121]⟩,.string ⟨#[115,116,97,116,101]⟩,.string ⟨#[118,97,116]⟩])]) (fun g=> [⟨g.2.2.1,3,1,g.2.1,g.2.2.2.2⟩,⟨.slice none 0 0,263,4,0, []⟩]) (fun g=> []) (fun g=>5 - g.1) (0,0,.slice none 0 0, [], []) ⟨Nat.zero_le _,Nat.zero_le _,U,U⟩ ⟨U,U,U,U,U,U,U,U,U,U,trivial⟩ (fun _ hm=>(hm.more U (by first|omega|(dsimp only;omega))).pick [0,1,2,3] [0,1] [] U U) ?_
  rintro ⟨k,n,v,l,xs⟩ cB
  replace cB:k<=5/\n<=k/\l.length=n/\xs=l.flatMap kF:=cB
  dsimp only
  refine bR ?_
  obtain ⟨hi0,hi1,vN,rfl⟩:=cB
  refine bB (dE U U) U (bQ (bH ?_))
  refine cC U (fun hk=>?_) (fun hk=>?_)
  ·refine bN (bD (bH (bO (bR ?_))))
   obtain ⟨kd,hx⟩:∃x,([1,2,3,4,6]:List Int)[k]?=some x:=⟨_,fW3 (by simp;omega)⟩
   refine bB (bV (j:=k) pD U U (by omega)) U (bB (dK (k:=0) (v:= .int .i64 kd) fP U (fun _ hm=>(SlT.ofBlk (l:= [1,2,3,4,6]) fM (hm.blkI 0 U))) hx U U) U (bX U (bQ (bR (bP U (dN (γ:=Bool) (val:=fun v=> .bool v) (φ:=fun v=>True) U xN U U U U (fun wx hm=>((jY _ wx B sb _ hm.k (by omega) (by omega) (by omega)).mono fun _ _ ⟨v,he,hS,hg⟩=>⟨v,trivial,he,hS,hg⟩)) fun f8 _=>bQ ?_))))))
   refine dC U (fun hh=>?_) (fun hh=>?_)
   ·have hf:f8=true:=by simpa using hh
    refine bI (dY kB U U (eJ kZ 1 U U U (bP U (jE 3 [.int .i64 kd] fun g9=>eB (news:= [.int .i64 kd]) 0 0 bV1 U U U U U U U (by omega) (by unfold maxLen;omega) U U fun vb hvb=>?_))))
    refine dV (R:=∃A cc,vb= .slice A (n+1) cc) (fun wx hm=>dR (hm.ownI 0 U)) ?_
    rintro ⟨Ab,cb,rfl⟩
    refine dY kB U U (jH 2 kZ U U U U U U (bE (bG (bD (bI (gO U U (bP U (bE ?_))))))))
    exact cN (k+1,n+1,.slice Ab (n+1) cb,l++ [kd],l.flatMap kF++([.int .i64 kd]:List Value)) ⟨by dsimp only;omega,by dsimp only;omega,by simp [vN],by simp [kF]⟩ (by dsimp only;omega) ⟨U,U,U,U,U,U,U,U,U,(cR (by omega)),trivial⟩ (fun _ hm=>(hm.more U (by first|omega|(dsimp only;omega))).pick [1,2,3,4] [0,1] [] U U)
   have hf:f8=false:=by simpa using hh
   refine bN (bG (bD (bI (gO U U (bP U (bE ?_))))))
   exact cN (k+1,n,v,l,l.flatMap kF) ⟨by dsimp only;omega,by dsimp only;omega,vN,rfl⟩ (by dsimp only;omega) ⟨U,U,U,U,U,U,U,U,U,(cR (by omega)),trivial⟩ (fun _ hm=>(hm.more U (by first|omega|(dsimp only;omega))).pick [0,1,2,3] [0,1] [] U U)
  refine dD (bF (bF (bY (bD (bI ?_)))))
  refine dV (R:=∃A cc,v= .slice A n cc) (fun wx hm=>dR (hm.ownI 0 U)) ?_
  rintro ⟨Ad,cd,rfl⟩
  refine bP U (bB (cU zB U (fun _ hm=>hm.blkI 1 U) U U) U (jE 263 [.string ⟨#[99,105,116,121]⟩,.int .i64 v4,.slice Ad n cd,.bool f5] fun g10=>eB (news:= [.string ⟨#[99,105,116,121]⟩,.int .i64 v4,.slice Ad n cd,.bool f5]) 1 0 eU4 U U U U U U U (by omega) (by unfold maxLen;omega) U U fun vc hvc=>bX U (bE (bG ?_))))
  exact fK (true,vc,0+1, []++([.string ⟨#[99,105,116,121]⟩,.int .i64 v4,.slice Ad n cd,.bool f5]:List Value),⟨#[99,105,116,121]⟩,v4,Ad,n,cd,l,f5) ⟨U,U,by dsimp only;decide,vN,by dsimp only;omega,by dsimp only;omega⟩ ⟨U,U,U,U,U,U,trivial⟩ (fun _ hm=>(hm.more U (by first|omega|(dsimp only;omega))).pick [4] [1,0] [] U U)
 rintro ⟨b1,v1,nn1,xs1,mU,mi1,A1,n1,c1,on1,ov1⟩ cB
 replace cB:nn1=(ap [] b1 ⟨mU,mi1,A1,n1,c1,on1,ov1⟩).length/\xs1=(ap [] b1 ⟨mU,mi1,A1,n1,c1,on1,ov1⟩).flatMap jU/\mU.size<=100/\on1.length=n1/\n1<=5/\nn1<=1:=cB
 dsimp only
 refine bI ?_
 obtain ⟨hT1,rfl,hk1,ho1,pP,hb1⟩:=cB
 refine gO U U (bK 44 (v':= .int .i64 1) U U (bP U (bE (hW (eD (bR (bB (dE U U) U (bK 13 (v':= .bool true) U (fU3 (by decide)) (bQ (bH (kP U (bN (bD ?_)))))))))))))
 refine pB (γ:=Bool×Value×Nat×List Value×ByteArray×Int×Option Addr×Nat×Nat×List Int×Bool) (I:=(fun g=>g.2.2.1=(ap (ap [] b1 ⟨mU,mi1,A1,n1,c1,on1,ov1⟩) g.1 ⟨g.2.2.2.2.1,g.2.2.2.2.2.1,g.2.2.2.2.2.2.1,g.2.2.2.2.2.2.2.1,g.2.2.2.2.2.2.2.2.1,g.2.2.2.2.2.2.2.2.2.1,g.2.2.2.2.2.2.2.2.2.2⟩).length/\g.2.2.2.1=(ap (ap [] b1 ⟨mU,mi1,A1,n1,c1,on1,ov1⟩) g.1 ⟨g.2.2.2.2.1,g.2.2.2.2.2.1,g.2.2.2.2.2.2.1,g.2.2.2.2.2.2.2.1,g.2.2.2.2.2.2.2.2.1,g.2.2.2.2.2.2.2.2.2.1,g.2.2.2.2.2.2.2.2.2.2⟩).flatMap jU/\g.2.2.2.2.1.size<=100/\g.2.2.2.2.2.2.2.2.2.1.length=g.2.2.2.2.2.2.2.1/\g.2.2.2.2.2.2.2.1<=5/\g.2.2.1<=2)) (S':=(fun g=> [(0,.pointer (some ⟨sb,0,none⟩)),(2,.slice none 0 0),(3,g.2.1),(10,.slice (some ⟨g1,0,none⟩) 3 3),(11,.int .i64 3),(12,.int .i64 1)])) (K':=(fun g=>fun w=>eU 25 w B sb (m+200))) (L':=(fun g=> [(g1,9, [.string ⟨#[99,105,116,121]⟩,.string ⟨#[115,116,97,116,101]⟩,.string ⟨#[118,97,116]⟩])])) (O':=(fun g=> [⟨g.2.1,263,4,g.2.2.1,g.2.2.2.1⟩,⟨.slice g.2.2.2.2.2.2.1 g.2.2.2.2.2.2.2.1 g.2.2.2.2.2.2.2.2.1,3,1,g.2.2.2.2.2.2.2.1,g.2.2.2.2.2.2.2.2.2.1.flatMap kF⟩,⟨.slice A1 n1 c1,3,1,n1,on1.flatMap kF⟩])) (X':=(fun g=> [])) ?_ ?_
 ·refine bO (bR ?_)
  refine bB (bV (j:=1) jX U U (by decide)) U (eJ fC 0 U U U (bX U (bQ (bH (bR (bP U (dN (γ:=Bool) (val:=fun v=> .bool v) (φ:=fun v=>True) U xN U U U U (fun wx hm=>((jY _ wx B sb _ hm.k (by omega) (by omega) (by omega)).mono fun _ _ ⟨v,he,hS,hg⟩=>⟨v,trivial,he,hS,hg⟩)) fun f11 _=>bQ ?_)))))))
  refine rG 3 1 ?_
  refine dC U (fun hh=>?_) (fun hh=>?_)
  ·have hz:f11=true:=by simpa using hh
   refine dD (bF (bY ?_))
   exact fK (false,v1,nn1,(ap [] b1 ⟨mU,mi1,A1,n1,c1,on1,ov1⟩).flatMap jU,⟨#[]⟩,0,none,0,0, [],false) ⟨hT1,U,by dsimp only;decide,rfl,by dsimp only;omega,by dsimp only;omega⟩ ⟨U,U,U,U,U,U,trivial⟩ (fun _ hm=>(hm.more U (by first|omega|(dsimp only;omega))).pick [0] [1,0,2] [] U U)
  have hz:f11=false:=by simpa using hh
  refine bN (bD (bR (bP U (bP U (jE 3 [.int .i64 0,.int .i64 50,.int .i64 75,.int .i64 200,.int .i64 1000] fun g12=>dN (γ:=Int) (val:=fun v=> .int .i64 v) (φ:=fun v=>v∈([0,50,75,200,1000]:List Int)) U pO U U U U (fun wx hm=>(eT [0,50,75,200,1000] _ _ _ wx B sb _ hm.k (by omega) (by simp) (by simp) (hm.blkI 0 U) (hm.neRow 0 U U))) fun v13 hv13=>?_)))))
  have bv13:0<=v13/\v13<=1000:=gP hv13 (by decide)
  have bv130:=bv13.1
  have bv131:=bv13.2
  clear bv13
  refine bP U (dN (γ:=Bool) (val:=fun v=> .bool v) (φ:=fun v=>True) U xN U U U U (fun wx hm=>((jY _ wx B sb _ hm.k (by omega) (by omega) (by omega)).mono fun _ _ ⟨v,he,hS,hg⟩=>⟨v,trivial,he,hS,hg⟩)) fun f14 _=>bB (dJ (cs:= [.string ⟨#[115,116,97,116,101]⟩,.int .i64 v13,.slice none 0 0,.bool f14]) U (by kernel_rfl)) U (dL cB8 U fun g15=>kE (cs':= [.string ⟨#[115,116,97,116,101]⟩,.int .i64 v13,.slice none 0 0,.bool f14]) 0 zB U U U U (bQ (bH (bR (jE 3 [.int .i64 1,.int .i64 2,.int .i64 3,.int .i64 4,.int .i64 6] fun g16=>bB (dT pD U) U (bK 26 (v':= .int .i64 5) U U (bP U (bQ (bO ?_))))))))))
  refine dX (γ:=Nat×Nat×Value×List Int×List Value) (fun g=>g.1<=5/\g.2.1<=g.1/\g.2.2.2.1.length=g.2.1/\g.2.2.2.2=g.2.2.2.1.flatMap kF) (fun g=> [(0,.pointer (some ⟨sb,0,none⟩)),(2,.slice none 0 0),(3,v1),(6,.pointer (some ⟨g15,0,none⟩)),(10,.slice (some ⟨g1,0,none⟩) 3 3),(11,.int .i64 3),(12,.int .i64 1),(25,.slice (some ⟨g16,0,none⟩) 5 5),(26,.int .i64 5),(27,.int .i64 ((g.1:Nat):Int))]) (fun g=>fun w=>eU 25 w B sb (m+100+1+1+1+5 *g.1)) (fun g=> [(g16,3, [.int .i64 1,.int .i64 2,.int .i64 3,.int .i64 4,.int .i64 6]),(g15,263, [.string ⟨#[115,116,97,116,101]⟩,.int .i64 v13,g.2.2.1,.bool f14]),(g12,3, [.int .i64 0,.int .i64 50,.int .i64 75,.int .i64 200,.int .i64 1000]),(g1,9, [.string ⟨#[99,105,116,121]⟩,.string ⟨#[115,116,97,116,101]⟩,.string ⟨#[118,97,116]⟩])]) (fun g=> [⟨g.2.2.1,3,1,g.2.1,g.2.2.2.2⟩,⟨v1,263,4,nn1,(ap [] b1 ⟨mU,mi1,A1,n1,c1,on1,ov1⟩).flatMap jU⟩,⟨.slice A1 n1 c1,3,1,n1,on1.flatMap kF⟩]) (fun g=> []) (fun g=>5 - g.1) (0,0,.slice none 0 0, [], []) ⟨Nat.zero_le _,Nat.zero_le _,U,U⟩ ⟨U,U,U,U,U,U,U,U,U,U,trivial⟩ (fun _ hm=>(hm.more U (by first|omega|(dsimp only;omega))).pick [0,1,2,3] [0,1,2] [] U U) ?_
  rintro ⟨k,n,v,l,xs⟩ cB
  replace cB:k<=5/\n<=k/\l.length=n/\xs=l.flatMap kF:=cB
  dsimp only
  refine bR ?_
  obtain ⟨hi0,hi1,vN,rfl⟩:=cB
  refine bB (dE U U) U (bQ (bH ?_))
  refine cC U (fun hk=>?_) (fun hk=>?_)
  ·refine bN (bD (bH (bO (bR ?_))))
   obtain ⟨kd,hx⟩:∃x,([1,2,3,4,6]:List Int)[k]?=some x:=⟨_,fW3 (by simp;omega)⟩
   refine bB (bV (j:=k) pD U U (by omega)) U (bB (dK (k:=0) (v:= .int .i64 kd) fP U (fun _ hm=>(SlT.ofBlk (l:= [1,2,3,4,6]) fM (hm.blkI 0 U))) hx U U) U (bX U (bQ (bR (bP U (dN (γ:=Bool) (val:=fun v=> .bool v) (φ:=fun v=>True) U xN U U U U (fun wx hm=>((jY _ wx B sb _ hm.k (by omega) (by omega) (by omega)).mono fun _ _ ⟨v,he,hS,hg⟩=>⟨v,trivial,he,hS,hg⟩)) fun f17 _=>bQ ?_))))))
   refine dC U (fun hh=>?_) (fun hh=>?_)
   ·have hf:f17=true:=by simpa using hh
    refine bI (dY kB U U (eJ kZ 1 U U U (bP U (jE 3 [.int .i64 kd] fun g18=>eB (news:= [.int .i64 kd]) 0 0 bV1 U U U U U U U (by omega) (by unfold maxLen;omega) U U fun vb hvb=>?_))))
    refine dV (R:=∃A cc,vb= .slice A (n+1) cc) (fun wx hm=>dR (hm.ownI 0 U)) ?_
    rintro ⟨Ab,cb,rfl⟩
    refine dY kB U U (jH 2 kZ U U U U U U (bE (bG (bD (bI (gO U U (bP U (bE ?_))))))))
    exact cN (k+1,n+1,.slice Ab (n+1) cb,l++ [kd],l.flatMap kF++([.int .i64 kd]:List Value)) ⟨by dsimp only;omega,by dsimp only;omega,by simp [vN],by simp [kF]⟩ (by dsimp only;omega) ⟨U,U,U,U,U,U,U,U,U,(cR (by omega)),trivial⟩ (fun _ hm=>(hm.more U (by first|omega|(dsimp only;omega))).pick [1,2,3,4] [0,1,2] [] U U)
   have hf:f17=false:=by simpa using hh
   refine bN (bG (bD (bI (gO U U (bP U (bE ?_))))))
   exact cN (k+1,n,v,l,l.flatMap kF) ⟨by dsimp only;omega,by dsimp only;omega,vN,rfl⟩ (by dsimp only;omega) ⟨U,U,U,U,U,U,U,U,U,(cR (by omega)),trivial⟩ (fun _ hm=>(hm.more U (by first|omega|(dsimp only;omega))).pick [0,1,2,3] [0,1,2] [] U U)
  refine dD (bF (bF (bY (bD (bI ?_)))))
  refine dV (R:=∃A cc,v= .slice A n cc) (fun wx hm=>dR (hm.ownI 0 U)) ?_
  rintro ⟨Ad,cd,rfl⟩
  refine bP U (bB (cU zB U (fun _ hm=>hm.blkI 1 U) U U) U (jE 263 [.string ⟨#[115,116,97,116,101]⟩,.int .i64 v13,.slice Ad n cd,.bool f14] fun g19=>eB (news:= [.string ⟨#[115,116,97,116,101]⟩,.int .i64 v13,.slice Ad n cd,.bool f14]) 1 0 eU4 U U U U U U U (by omega) (by unfold maxLen;omega) U U fun vc hvc=>bX U (bE (bG ?_))))
  exact fK (true,vc,nn1+1,(ap [] b1 ⟨mU,mi1,A1,n1,c1,on1,ov1⟩).flatMap jU++([.string ⟨#[115,116,97,116,101]⟩,.int .i64 v13,.slice Ad n cd,.bool f14]:List Value),⟨#[115,116,97,116,101]⟩,v13,Ad,n,cd,l,f14) ⟨dZ5 hT1,dU0 _ _ _ _ _ _ _ _,by dsimp only;decide,vN,by dsimp only;omega,by dsimp only;omega⟩ ⟨U,U,U,U,U,U,trivial⟩ (fun _ hm=>(hm.more U (by first|omega|(dsimp only;omega))).pick [4] [1,0,2] [] U U)
 rintro ⟨b2,v2,nn2,xs2,nJ,mi2,A2,n2,c2,on2,ov2⟩ cB
 replace cB:nn2=(ap (ap [] b1 ⟨mU,mi1,A1,n1,c1,on1,ov1⟩) b2 ⟨nJ,mi2,A2,n2,c2,on2,ov2⟩).length/\xs2=(ap (ap [] b1 ⟨mU,mi1,A1,n1,c1,on1,ov1⟩) b2 ⟨nJ,mi2,A2,n2,c2,on2,ov2⟩).flatMap jU/\nJ.size<=100/\on2.length=n2/\n2<=5/\nn2<=2:=cB
 dsimp only
 refine bI ?_
 obtain ⟨hT2,rfl,hk2,ho2,hm2,hb2⟩:=cB
 refine gO U U (bK 44 (v':= .int .i64 2) U U (bP U (bE (hW (eD (bR (bB (dE U U) U (bK 13 (v':= .bool true) U (fU3 (by decide)) (bQ (bH (kP U (bN (bD ?_)))))))))))))
 refine pB (γ:=Bool×Value×Nat×List Value×ByteArray×Int×Option Addr×Nat×Nat×List Int×Bool) (I:=(fun g=>g.2.2.1=(ap (ap (ap [] b1 ⟨mU,mi1,A1,n1,c1,on1,ov1⟩) b2 ⟨nJ,mi2,A2,n2,c2,on2,ov2⟩) g.1 ⟨g.2.2.2.2.1,g.2.2.2.2.2.1,g.2.2.2.2.2.2.1,g.2.2.2.2.2.2.2.1,g.2.2.2.2.2.2.2.2.1,g.2.2.2.2.2.2.2.2.2.1,g.2.2.2.2.2.2.2.2.2.2⟩).length/\g.2.2.2.1=(ap (ap (ap [] b1 ⟨mU,mi1,A1,n1,c1,on1,ov1⟩) b2 ⟨nJ,mi2,A2,n2,c2,on2,ov2⟩) g.1 ⟨g.2.2.2.2.1,g.2.2.2.2.2.1,g.2.2.2.2.2.2.1,g.2.2.2.2.2.2.2.1,g.2.2.2.2.2.2.2.2.1,g.2.2.2.2.2.2.2.2.2.1,g.2.2.2.2.2.2.2.2.2.2⟩).flatMap jU/\g.2.2.2.2.1.size<=100/\g.2.2.2.2.2.2.2.2.2.1.length=g.2.2.2.2.2.2.2.1/\g.2.2.2.2.2.2.2.1<=5/\g.2.2.1<=3)) (S':=(fun g=> [(0,.pointer (some ⟨sb,0,none⟩)),(2,.slice none 0 0),(3,g.2.1),(10,.slice (some ⟨g1,0,none⟩) 3 3),(11,.int .i64 3),(12,.int .i64 2)])) (K':=(fun g=>fun w=>eU 25 w B sb (m+300))) (L':=(fun g=> [(g1,9, [.string ⟨#[99,105,116,121]⟩,.string ⟨#[115,116,97,116,101]⟩,.string ⟨#[118,97,116]⟩])])) (O':=(fun g=> [⟨g.2.1,263,4,g.2.2.1,g.2.2.2.1⟩,⟨.slice g.2.2.2.2.2.2.1 g.2.2.2.2.2.2.2.1 g.2.2.2.2.2.2.2.2.1,3,1,g.2.2.2.2.2.2.2.1,g.2.2.2.2.2.2.2.2.2.1.flatMap kF⟩,⟨.slice A2 n2 c2,3,1,n2,on2.flatMap kF⟩,⟨.slice A1 n1 c1,3,1,n1,on1.flatMap kF⟩])) (X':=(fun g=> [])) ?_ ?_
 ·refine bO (bR ?_)
  refine bB (bV (j:=2) jX U U (by decide)) U (eJ fC 0 U U U (bX U (bQ (bH (bR (bP U (dN (γ:=Bool) (val:=fun v=> .bool v) (φ:=fun v=>True) U xN U U U U (fun wx hm=>((jY _ wx B sb _ hm.k (by omega) (by omega) (by omega)).mono fun _ _ ⟨v,he,hS,hg⟩=>⟨v,trivial,he,hS,hg⟩)) fun f20 _=>bQ ?_)))))))
  refine rG 3 1 ?_
  refine dC U (fun hh=>?_) (fun hh=>?_)
  ·have hz:f20=true:=by simpa using hh
   refine dD (bF (bY ?_))
   exact fK (false,v2,nn2,(ap (ap [] b1 ⟨mU,mi1,A1,n1,c1,on1,ov1⟩) b2 ⟨nJ,mi2,A2,n2,c2,on2,ov2⟩).flatMap jU,⟨#[]⟩,0,none,0,0, [],false) ⟨hT2,U,by dsimp only;decide,rfl,by dsimp only;omega,by dsimp only;omega⟩ ⟨U,U,U,U,U,U,trivial⟩ (fun _ hm=>(hm.more U (by first|omega|(dsimp only;omega))).pick [0] [1,0,2,3] [] U U)
  have hz:f20=false:=by simpa using hh
  refine bN (bD (bR (bP U (bP U (jE 3 [.int .i64 0,.int .i64 50,.int .i64 75,.int .i64 200,.int .i64 1000] fun g21=>dN (γ:=Int) (val:=fun v=> .int .i64 v) (φ:=fun v=>v∈([0,50,75,200,1000]:List Int)) U pO U U U U (fun wx hm=>(eT [0,50,75,200,1000] _ _ _ wx B sb _ hm.k (by omega) (by simp) (by simp) (hm.blkI 0 U) (hm.neRow 0 U U))) fun v22 hv22=>?_)))))
  have bv22:0<=v22/\v22<=1000:=gP hv22 (by decide)
  have bv220:=bv22.1
  have bv221:=bv22.2
  clear bv22
  refine bP U (dN (γ:=Bool) (val:=fun v=> .bool v) (φ:=fun v=>True) U xN U U U U (fun wx hm=>((jY _ wx B sb _ hm.k (by omega) (by omega) (by omega)).mono fun _ _ ⟨v,he,hS,hg⟩=>⟨v,trivial,he,hS,hg⟩)) fun f23 _=>bB (dJ (cs:= [.string ⟨#[118,97,116]⟩,.int .i64 v22,.slice none 0 0,.bool f23]) U (by kernel_rfl)) U (dL cB8 U fun g24=>kE (cs':= [.string ⟨#[118,97,116]⟩,.int .i64 v22,.slice none 0 0,.bool f23]) 0 zB U U U U (bQ (bH (bR (jE 3 [.int .i64 1,.int .i64 2,.int .i64 3,.int .i64 4,.int .i64 6] fun g25=>bB (dT pD U) U (bK 26 (v':= .int .i64 5) U U (bP U (bQ (bO ?_))))))))))
  refine dX (γ:=Nat×Nat×Value×List Int×List Value) (fun g=>g.1<=5/\g.2.1<=g.1/\g.2.2.2.1.length=g.2.1/\g.2.2.2.2=g.2.2.2.1.flatMap kF) (fun g=> [(0,.pointer (some ⟨sb,0,none⟩)),(2,.slice none 0 0),(3,v2),(6,.pointer (some ⟨g24,0,none⟩)),(10,.slice (some ⟨g1,0,none⟩) 3 3),(11,.int .i64 3),(12,.int .i64 2),(25,.slice (some ⟨g25,0,none⟩) 5 5),(26,.int .i64 5),(27,.int .i64 ((g.1:Nat):Int))]) (fun g=>fun w=>eU 25 w B sb (m+200+1+1+1+5 *g.1)) (fun g=> [(g25,3, [.int .i64 1,.int .i64 2,.int .i64 3,.int .i64 4,.int .i64 6]),(g24,263, [.string ⟨#[118,97,116]⟩,.int .i64 v22,g.2.2.1,.bool f23]),(g21,3, [.int .i64 0,.int .i64 50,.int .i64 75,.int .i64 200,.int .i64 1000]),(g1,9, [.string ⟨#[99,105,116,121]⟩,.string ⟨#[115,116,97,116,101]⟩,.string ⟨#[118,97,116]⟩])]) (fun g=> [⟨g.2.2.1,3,1,g.2.1,g.2.2.2.2⟩,⟨v2,263,4,nn2,(ap (ap [] b1 ⟨mU,mi1,A1,n1,c1,on1,ov1⟩) b2 ⟨nJ,mi2,A2,n2,c2,on2,ov2⟩).flatMap jU⟩,⟨.slice A2 n2 c2,3,1,n2,on2.flatMap kF⟩,⟨.slice A1 n1 c1,3,1,n1,on1.flatMap kF⟩]) (fun g=> []) (fun g=>5 - g.1) (0,0,.slice none 0 0, [], []) ⟨Nat.zero_le _,Nat.zero_le _,U,U⟩ ⟨U,U,U,U,U,U,U,U,U,U,trivial⟩ (fun _ hm=>(hm.more U (by first|omega|(dsimp only;omega))).pick [0,1,2,3] [0,1,2,3] [] U U) ?_
  rintro ⟨k,n,v,l,xs⟩ cB
  replace cB:k<=5/\n<=k/\l.length=n/\xs=l.flatMap kF:=cB
  dsimp only
  refine bR ?_
  obtain ⟨hi0,hi1,vN,rfl⟩:=cB
  refine bB (dE U U) U (bQ (bH ?_))
  refine cC U (fun hk=>?_) (fun hk=>?_)
  ·refine bN (bD (bH (bO (bR ?_))))
   obtain ⟨kd,hx⟩:∃x,([1,2,3,4,6]:List Int)[k]?=some x:=⟨_,fW3 (by simp;omega)⟩
   refine bB (bV (j:=k) pD U U (by omega)) U (bB (dK (k:=0) (v:= .int .i64 kd) fP U (fun _ hm=>(SlT.ofBlk (l:= [1,2,3,4,6]) fM (hm.blkI 0 U))) hx U U) U (bX U (bQ (bR (bP U (dN (γ:=Bool) (val:=fun v=> .bool v) (φ:=fun v=>True) U xN U U U U (fun wx hm=>((jY _ wx B sb _ hm.k (by omega) (by omega) (by omega)).mono fun _ _ ⟨v,he,hS,hg⟩=>⟨v,trivial,he,hS,hg⟩)) fun f26 _=>bQ ?_))))))
   refine dC U (fun hh=>?_) (fun hh=>?_)
   ·have hf:f26=true:=by simpa using hh
    refine bI (dY kB U U (eJ kZ 1 U U U (bP U (jE 3 [.int .i64 kd] fun g27=>eB (news:= [.int .i64 kd]) 0 0 bV1 U U U U U U U (by omega) (by unfold maxLen;omega) U U fun vb hvb=>?_))))
    refine dV (R:=∃A cc,vb= .slice A (n+1) cc) (fun wx hm=>dR (hm.ownI 0 U)) ?_
    rintro ⟨Ab,cb,rfl⟩
    refine dY kB U U (jH 2 kZ U U U U U U (bE (bG (bD (bI (gO U U (bP U (bE ?_))))))))
    exact cN (k+1,n+1,.slice Ab (n+1) cb,l++ [kd],l.flatMap kF++([.int .i64 kd]:List Value)) ⟨by dsimp only;omega,by dsimp only;omega,by simp [vN],by simp [kF]⟩ (by dsimp only;omega) ⟨U,U,U,U,U,U,U,U,U,(cR (by omega)),trivial⟩ (fun _ hm=>(hm.more U (by first|omega|(dsimp only;omega))).pick [1,2,3,4] [0,1,2,3] [] U U)
   have hf:f26=false:=by simpa using hh
   refine bN (bG (bD (bI (gO U U (bP U (bE ?_))))))
   exact cN (k+1,n,v,l,l.flatMap kF) ⟨by dsimp only;omega,by dsimp only;omega,vN,rfl⟩ (by dsimp only;omega) ⟨U,U,U,U,U,U,U,U,U,(cR (by omega)),trivial⟩ (fun _ hm=>(hm.more U (by first|omega|(dsimp only;omega))).pick [0,1,2,3] [0,1,2,3] [] U U)
  refine dD (bF (bF (bY (bD (bI ?_)))))
  refine dV (R:=∃A cc,v= .slice A n cc) (fun wx hm=>dR (hm.ownI 0 U)) ?_
  rintro ⟨Ad,cd,rfl⟩
  refine bP U (bB (cU zB U (fun _ hm=>hm.blkI 1 U) U U) U (jE 263 [.string ⟨#[118,97,116]⟩,.int .i64 v22,.slice Ad n cd,.bool f23] fun g28=>eB (news:= [.string ⟨#[118,97,116]⟩,.int .i64 v22,.slice Ad n cd,.bool f23]) 1 0 eU4 U U U U U U U (by omega) (by unfold maxLen;omega) U U fun vc hvc=>bX U (bE (bG ?_))))
  exact fK (true,vc,nn2+1,(ap (ap [] b1 ⟨mU,mi1,A1,n1,c1,on1,ov1⟩) b2 ⟨nJ,mi2,A2,n2,c2,on2,ov2⟩).flatMap jU++([.string ⟨#[118,97,116]⟩,.int .i64 v22,.slice Ad n cd,.bool f23]:List Value),⟨#[118,97,116]⟩,v22,Ad,n,cd,l,f23) ⟨dZ5 hT2,dU0 _ _ _ _ _ _ _ _,by dsimp only;decide,vN,by dsimp only;omega,by dsimp only;omega⟩ ⟨U,U,U,U,U,U,trivial⟩ (fun _ hm=>(hm.more U (by first|omega|(dsimp only;omega))).pick [4] [1,0,2,3] [] U U)
 rintro ⟨b3,v3,nn3,xs3,pE,mi3,A3,n3,c3,on3,ov3⟩ cB
 replace cB:nn3=(ap (ap (ap [] b1 ⟨mU,mi1,A1,n1,c1,on1,ov1⟩) b2 ⟨nJ,mi2,A2,n2,c2,on2,ov2⟩) b3 ⟨pE,mi3,A3,n3,c3,on3,ov3⟩).length/\xs3=(ap (ap (ap [] b1 ⟨mU,mi1,A1,n1,c1,on1,ov1⟩) b2 ⟨nJ,mi2,A2,n2,c2,on2,ov2⟩) b3 ⟨pE,mi3,A3,n3,c3,on3,ov3⟩).flatMap jU/\pE.size<=100/\on3.length=n3/\n3<=5/\nn3<=3:=cB
 dsimp only
 refine bI ?_
 obtain ⟨hT3,rfl,hk3,ho3,hm3,hb3⟩:=cB
 refine dV (R:=∃A cc,v3= .slice A nn3 cc) (fun wx hm=>dR (hm.ownI 0 U)) ?_
 rintro ⟨A,c,rfl⟩
 refine gO U U (bK 44 (v':= .int .i64 3) U U (bP U (bE (hW (eD (bR (bB (dE U U) U (bK 13 (v':= .bool false) U (fU3 (by decide)) (bQ (bH (jQ U (dD (bF (bF (bY (bD (bH (bR (bP U (bB (dT zW U) U (bB (eK U U) U (bP U ?_))))))))))))))))))))))
 rcases Bool.eq_false_or_eq_true (decide (0 < ((nn3:Nat):Int))) with hb|hb
 ·refine bK 48 U (fU3 hb) ?_
  have hk0:0 < nn3:=by simpa using hb
  refine eE U (bP U (eE U (dN (γ:=Bool) (val:=fun v=> .bool v) (φ:=fun v=>True) U xN U U U U (fun wx hm=>((jY _ wx B sb _ hm.k (by omega) (by omega) (by omega)).mono fun _ _ ⟨v,he,hS,hg⟩=>⟨v,trivial,he,hS,hg⟩)) fun f29 _=>mN U U (bQ ?_))))
  refine dC U (fun hh=>?_) (fun hh=>?_)
  ·have hf:f29=true:=by simpa using hh
   refine bR ?_
   refine dV (R:=∃g,A=some ⟨g,0,none⟩) (fun wx hm=>xH (hm.ownI 0 U) hk0) ?_
   rintro ⟨bo,rfl⟩
   refine bP U (bP U (bP U (bB (dT zW U) U (dN (γ:=Int) (val:=fun v=> .int .i64 v) (φ:=fun v=>mW ((nn3:Nat):Int) v) U bP8 U U U U (fun wx hm=>(mM _ wx B sb _ hm.k (by omega) (by omega) (by omega))) fun vj hvj=>?_))))
   have hj:=rB hvj (by omega)
   obtain ⟨j,rfl⟩:=Int.eq_ofNat_of_zero_le hj.1
   have hjn:j < nn3:=by omega
   obtain ⟨y,hy⟩:∃y,(ap (ap (ap [] b1 ⟨mU,mi1,A1,n1,c1,on1,ov1⟩) b2 ⟨nJ,mi2,A2,n2,c2,on2,ov2⟩) b3 ⟨pE,mi3,A3,n3,c3,on3,ov3⟩)[j]?=some y:=⟨_,fW3 (by omega)⟩
   rcases eN7 hy with ⟨rfl,hz⟩|⟨rfl,hz⟩|⟨rfl,hz⟩
   ·refine bB (bV (j:=j) zW U U (by omega)) U ?_
    refine bX U (bQ (bR (bP U (dN (γ:=Int) (val:=fun v=> .int .i64 v) (φ:=fun v=>mW 3 v) U bP8 U U U U (fun wx hm=>(mM _ wx B sb _ hm.k (by omega) (by omega) (by omega))) fun vs hvs=>bQ (bO (bR (bB (eL U U) U (bX U (bQ ?_)))))))))
    refine cC U (fun h0=>?_) (fun h0=>?_)
    ·refine bI (bP U (bP U ?_))
     refine jE 9 [.string ⟨#[]⟩,.string ⟨#[99,105,116,121]⟩,.string ⟨#[65]⟩] fun g30=>dN (γ:=ByteArray) (val:=fun v=> .string v) (φ:=fun v=>v∈([⟨#[]⟩,⟨#[99,105,116,121]⟩,⟨#[65]⟩]:List ByteArray)) U rK U U U U (fun wx hm=>(gU [⟨#[]⟩,⟨#[99,105,116,121]⟩,⟨#[65]⟩] _ _ _ wx B sb _ hm.k (by omega) (by simp) (by simp) (hm.blkI 0 U) (hm.neRow 0 U U))) fun sn yY=>?_
     have zsn:sn.size<=100:=kG yY (by decide)
     refine bB (dA U) U (dY vC U U (fY (l:=(ap (ap (ap [] b1 ⟨mU,mi1,A1,n1,c1,on1,ov1⟩) b2 ⟨nJ,mi2,A2,n2,c2,on2,ov2⟩) b3 ⟨pE,mi3,A3,n3,c3,on3,ov3⟩)) (j:=j) (r:=0) (el:=⟨mU,mi1,A1,n1,c1,on1,ov1⟩) (el':=⟨sn,mi1,A1,n1,c1,on1,ov1⟩) 0 fC U U U U fX U hy hT3.symm (show 0 < 4 by decide) U U (bE (bG (bD (bR (bP U (bX U (bQ (bM ?_))))))))))
     exact bJ U U fun wx hm=>⟨some ⟨bo,0,none⟩,nn3,c,((ap (ap (ap [] b1 ⟨mU,mi1,A1,n1,c1,on1,ov1⟩) b2 ⟨nJ,mi2,A2,n2,c2,on2,ov2⟩) b3 ⟨pE,mi3,A3,n3,c3,on3,ov3⟩).set j ⟨sn,mi1,A1,n1,c1,on1,ov1⟩),U,SlT.ofOwn fX (hm.ownI 0 U) (by simpa using hT3.symm),nN (hz _) (SlT.ofOwn fM (hm.ownI 3 U) ho1) (SlT.ofOwn fM (hm.ownI 2 U) ho2) (SlT.ofOwn fM (hm.ownI 1 U) ho3),rH (hz _) (show jF _ from ⟨(by omega:(sn:ByteArray).size<=1000000),(by omega:n1<=1000)⟩) (show jF _ from ⟨(by omega:(nJ:ByteArray).size<=1000000),(by omega:n2<=1000)⟩) (show jF _ from ⟨(by omega:(pE:ByteArray).size<=1000000),(by omega:n3<=1000)⟩),by omega,jA (hm.ownI 0 rfl),hm.k.more (by omega),hm.g⟩
    refine bR (bB (eL U U) U (bX U (bQ ?_)))
    refine cC U (fun h1=>?_) (fun h1=>?_)
    ·refine bI (bP U (bP U ?_))
     refine dN (γ:=Int) (val:=fun v=> .int .i64 v) (φ:=fun v=> -2000000000000000<=v/\v<=2000000000000000) U bO2 U U U U (fun wx hm=>(mF _ _ wx B sb _ hm.k (by omega) (by omega) (by omega) (by omega))) fun v31 hv31=>bB (dA U) U (dY bU3 U U (fY (l:=(ap (ap (ap [] b1 ⟨mU,mi1,A1,n1,c1,on1,ov1⟩) b2 ⟨nJ,mi2,A2,n2,c2,on2,ov2⟩) b3 ⟨pE,mi3,A3,n3,c3,on3,ov3⟩)) (j:=j) (r:=1) (el:=⟨mU,mi1,A1,n1,c1,on1,ov1⟩) (el':=⟨mU,v31,A1,n1,c1,on1,ov1⟩) 0 fP U U U U fX U hy hT3.symm (show 1 < 4 by decide) U U (bE (bG (bD (bR (bP U (bX U (bQ (bM ?_))))))))))
     exact bJ U U fun wx hm=>⟨some ⟨bo,0,none⟩,nn3,c,((ap (ap (ap [] b1 ⟨mU,mi1,A1,n1,c1,on1,ov1⟩) b2 ⟨nJ,mi2,A2,n2,c2,on2,ov2⟩) b3 ⟨pE,mi3,A3,n3,c3,on3,ov3⟩).set j ⟨mU,v31,A1,n1,c1,on1,ov1⟩),U,SlT.ofOwn fX (hm.ownI 0 U) (by simpa using hT3.symm),nN (hz _) (SlT.ofOwn fM (hm.ownI 3 U) ho1) (SlT.ofOwn fM (hm.ownI 2 U) ho2) (SlT.ofOwn fM (hm.ownI 1 U) ho3),rH (hz _) (show jF _ from ⟨(by omega:(mU:ByteArray).size<=1000000),(by omega:n1<=1000)⟩) (show jF _ from ⟨(by omega:(nJ:ByteArray).size<=1000000),(by omega:n2<=1000)⟩) (show jF _ from ⟨(by omega:(pE:ByteArray).size<=1000000),(by omega:n3<=1000)⟩),by omega,jA (hm.ownI 0 rfl),hm.k.more (by omega),hm.g⟩
    refine gd (fun wz=>True) mixed (fun _ _=>trivial) fun z=>wq 0 U (bL U) (wq 1 U (bL U) (wq 2 U (dA U) (wq 3 U (bS kB U U) (wq 5 U (bL U) ?_))))
    refine kK [4,6] (by kernel_rfl) U ⟨⟨_,U,?_⟩,⟨_,U,?_⟩,trivial⟩
    ·refine bB (dK (k:=2) (v:= .slice A1 n1 c1) kZ U (fun _ hm=>(SlT.ofOwn fX (hm.ownI 0 U) hT3.symm)) hy U U) U ?_
     refine bE (nw 13 63 (fun _ _=>trivial) fun z=>eG 6 U (jE 3 [.int .i64 0,.int .i64 5,.int .i64 6,.int .i64 7,.int .i64 1] fun g32=>bE (nw 13 127 (fun _ _=>trivial) fun z=>eG 7 U (dN (γ:=Int) (val:=fun v=> .int .i64 v) (φ:=fun v=>v∈([0,5,6,7,1]:List Int)) U pO U U U U (fun wx hm=>(eT [0,5,6,7,1] _ _ _ wx B sb _ hm.k (by omega) (by simp) (by simp) (hm.blkI 0 U) (hm.neRow 0 U U))) fun v33 hv33=>?_))))
     have bv33:0<=v33/\v33<=7:=gP hv33 (by decide)
     have bv330:=bv33.1
     have bv331:=bv33.2
     clear bv33
     refine bE (nw 13 255 (fun _ _=>trivial) fun z=>eG 8 U (jE 3 [.int .i64 v33] fun g34=>bE (nw 13 511 (fun _ _=>trivial) fun z=>eG 9 U (eB (news:= [.int .i64 v33]) 3 0 bV1 U U U U U U U (by omega) (by unfold maxLen;omega) U U fun va hva=>?_))))
     refine dV (R:=∃A cc,va= .slice A (n1+1) cc) (fun wx hm=>dR (hm.ownI 3 U)) ?_
     rintro ⟨Aa,ca,rfl⟩
     refine bE (nw 13 1023 (fun _ _=>trivial) fun z=>wq 10 U (dA U) (wq 11 U (bS kB U U) (eG 12 U (fY (l:=(ap (ap (ap [] b1 ⟨mU,mi1,A1,n1,c1,on1,ov1⟩) b2 ⟨nJ,mi2,A2,n2,c2,on2,ov2⟩) b3 ⟨pE,mi3,A3,n3,c3,on3,ov3⟩)) (j:=j) (r:=2) (el:=⟨mU,mi1,A1,n1,c1,on1,ov1⟩) (el':=⟨mU,mi1,Aa,n1+1,ca,on1++ [v33],ov1⟩) 0 kZ U U U U fX U hy hT3.symm (show 2 < 4 by decide) U U (bE (nw 13 8191 (fun _ _=>trivial) fun z=>jO (bG (bD (bR (bP U (bX U (bQ (bM ?_)))))))))))))
     exact bJ U U fun wx hm=>⟨some ⟨bo,0,none⟩,nn3,c,((ap (ap (ap [] b1 ⟨mU,mi1,A1,n1,c1,on1,ov1⟩) b2 ⟨nJ,mi2,A2,n2,c2,on2,ov2⟩) b3 ⟨pE,mi3,A3,n3,c3,on3,ov3⟩).set j ⟨mU,mi1,Aa,n1+1,ca,on1++ [v33],ov1⟩),U,SlT.ofOwn fX (hm.ownI 0 U) (by simpa using hT3.symm),nN (hz _) (pF (hm.ownI 3 U) ho1) (SlT.ofOwn fM (hm.ownI 2 U) ho2) (SlT.ofOwn fM (hm.ownI 1 U) ho3),rH (hz _) (show jF _ from ⟨(by omega:(mU:ByteArray).size<=1000000),(by omega:n1+1<=1000)⟩) (show jF _ from ⟨(by omega:(nJ:ByteArray).size<=1000000),(by omega:n2<=1000)⟩) (show jF _ from ⟨(by omega:(pE:ByteArray).size<=1000000),(by omega:n3<=1000)⟩),by omega,jA (hm.ownI 0 rfl),hm.k.more (by omega),hm.g⟩
    refine jE 3 [.int .i64 0,.int .i64 5,.int .i64 6,.int .i64 7,.int .i64 1] fun g35=>bE (nw 13 111 (fun _ _=>trivial) fun z=>?_)
    refine kK [4,7] (by kernel_rfl) U ⟨⟨_,U,?_⟩,⟨_,U,?_⟩,trivial⟩
    ·refine bB (dK (k:=2) (v:= .slice A1 n1 c1) kZ U (fun _ hm=>(SlT.ofOwn fX (hm.ownI 0 U) hT3.symm)) hy U U) U ?_
     refine bE (nw 13 127 (fun _ _=>trivial) fun z=>eG 7 U (dN (γ:=Int) (val:=fun v=> .int .i64 v) (φ:=fun v=>v∈([0,5,6,7,1]:List Int)) U pO U U U U (fun wx hm=>(eT [0,5,6,7,1] _ _ _ wx B sb _ hm.k (by omega) (by simp) (by simp) (hm.blkI 0 U) (hm.neRow 0 U U))) fun v36 hv36=>?_))
     have bv36:0<=v36/\v36<=7:=gP hv36 (by decide)
     have bv360:=bv36.1
     have bv361:=bv36.2
     clear bv36
     refine bE (nw 13 255 (fun _ _=>trivial) fun z=>eG 8 U (jE 3 [.int .i64 v36] fun g37=>bE (nw 13 511 (fun _ _=>trivial) fun z=>eG 9 U (eB (news:= [.int .i64 v36]) 3 0 bV1 U U U U U U U (by omega) (by unfold maxLen;omega) U U fun va hva=>?_))))
     refine dV (R:=∃A cc,va= .slice A (n1+1) cc) (fun wx hm=>dR (hm.ownI 3 U)) ?_
     rintro ⟨Aa,ca,rfl⟩
     refine bE (nw 13 1023 (fun _ _=>trivial) fun z=>wq 10 U (dA U) (wq 11 U (bS kB U U) (eG 12 U (fY (l:=(ap (ap (ap [] b1 ⟨mU,mi1,A1,n1,c1,on1,ov1⟩) b2 ⟨nJ,mi2,A2,n2,c2,on2,ov2⟩) b3 ⟨pE,mi3,A3,n3,c3,on3,ov3⟩)) (j:=j) (r:=2) (el:=⟨mU,mi1,A1,n1,c1,on1,ov1⟩) (el':=⟨mU,mi1,Aa,n1+1,ca,on1++ [v36],ov1⟩) 0 kZ U U U U fX U hy hT3.symm (show 2 < 4 by decide) U U (bE (nw 13 8191 (fun _ _=>trivial) fun z=>jO (bG (bD (bR (bP U (bX U (bQ (bM ?_)))))))))))))
     exact bJ U U fun wx hm=>⟨some ⟨bo,0,none⟩,nn3,c,((ap (ap (ap [] b1 ⟨mU,mi1,A1,n1,c1,on1,ov1⟩) b2 ⟨nJ,mi2,A2,n2,c2,on2,ov2⟩) b3 ⟨pE,mi3,A3,n3,c3,on3,ov3⟩).set j ⟨mU,mi1,Aa,n1+1,ca,on1++ [v36],ov1⟩),U,SlT.ofOwn fX (hm.ownI 0 U) (by simpa using hT3.symm),nN (hz _) (pF (hm.ownI 3 U) ho1) (SlT.ofOwn fM (hm.ownI 2 U) ho2) (SlT.ofOwn fM (hm.ownI 1 U) ho3),rH (hz _) (show jF _ from ⟨(by omega:(mU:ByteArray).size<=1000000),(by omega:n1+1<=1000)⟩) (show jF _ from ⟨(by omega:(nJ:ByteArray).size<=1000000),(by omega:n2<=1000)⟩) (show jF _ from ⟨(by omega:(pE:ByteArray).size<=1000000),(by omega:n3<=1000)⟩),by omega,jA (hm.ownI 0 rfl),hm.k.more (by omega),hm.g⟩
    refine dN (γ:=Int) (val:=fun v=> .int .i64 v) (φ:=fun v=>v∈([0,5,6,7,1]:List Int)) U pO U U U U (fun wx hm=>(eT [0,5,6,7,1] _ _ _ wx B sb _ hm.k (by omega) (by simp) (by simp) (hm.blkI 0 U) (hm.neRow 0 U U))) fun v38 hv38=>?_
    have bv38:0<=v38/\v38<=7:=gP hv38 (by decide)
    have bv380:=bv38.1
    have bv381:=bv38.2
    clear bv38
    refine bE (nw 13 239 (fun _ _=>trivial) fun z=>?_)
    refine kK [4,8] (by kernel_rfl) U ⟨⟨_,U,?_⟩,⟨_,U,?_⟩,trivial⟩
    ·refine bB (dK (k:=2) (v:= .slice A1 n1 c1) kZ U (fun _ hm=>(SlT.ofOwn fX (hm.ownI 0 U) hT3.symm)) hy U U) U ?_
     refine bE (nw 13 255 (fun _ _=>trivial) fun z=>eG 8 U (jE 3 [.int .i64 v38] fun g39=>bE (nw 13 511 (fun _ _=>trivial) fun z=>eG 9 U (eB (news:= [.int .i64 v38]) 3 0 bV1 U U U U U U U (by omega) (by unfold maxLen;omega) U U fun va hva=>?_))))
     refine dV (R:=∃A cc,va= .slice A (n1+1) cc) (fun wx hm=>dR (hm.ownI 3 U)) ?_
     rintro ⟨Aa,ca,rfl⟩
     refine bE (nw 13 1023 (fun _ _=>trivial) fun z=>wq 10 U (dA U) (wq 11 U (bS kB U U) (eG 12 U (fY (l:=(ap (ap (ap [] b1 ⟨mU,mi1,A1,n1,c1,on1,ov1⟩) b2 ⟨nJ,mi2,A2,n2,c2,on2,ov2⟩) b3 ⟨pE,mi3,A3,n3,c3,on3,ov3⟩)) (j:=j) (r:=2) (el:=⟨mU,mi1,A1,n1,c1,on1,ov1⟩) (el':=⟨mU,mi1,Aa,n1+1,ca,on1++ [v38],ov1⟩) 0 kZ U U U U fX U hy hT3.symm (show 2 < 4 by decide) U U (bE (nw 13 8191 (fun _ _=>trivial) fun z=>jO (bG (bD (bR (bP U (bX U (bQ (bM ?_)))))))))))))
     exact bJ U U fun wx hm=>⟨some ⟨bo,0,none⟩,nn3,c,((ap (ap (ap [] b1 ⟨mU,mi1,A1,n1,c1,on1,ov1⟩) b2 ⟨nJ,mi2,A2,n2,c2,on2,ov2⟩) b3 ⟨pE,mi3,A3,n3,c3,on3,ov3⟩).set j ⟨mU,mi1,Aa,n1+1,ca,on1++ [v38],ov1⟩),U,SlT.ofOwn fX (hm.ownI 0 U) (by simpa using hT3.symm),nN (hz _) (pF (hm.ownI 3 U) ho1) (SlT.ofOwn fM (hm.ownI 2 U) ho2) (SlT.ofOwn fM (hm.ownI 1 U) ho3),rH (hz _) (show jF _ from ⟨(by omega:(mU:ByteArray).size<=1000000),(by omega:n1+1<=1000)⟩) (show jF _ from ⟨(by omega:(nJ:ByteArray).size<=1000000),(by omega:n2<=1000)⟩) (show jF _ from ⟨(by omega:(pE:ByteArray).size<=1000000),(by omega:n3<=1000)⟩),by omega,jA (hm.ownI 0 rfl),hm.k.more (by omega),hm.g⟩
    refine jE 3 [.int .i64 v38] fun g40=>bE (nw 13 495 (fun _ _=>trivial) fun z=>eG 4 U (bB (dK (k:=2) (v:= .slice A1 n1 c1) kZ U (fun _ hm=>(SlT.ofOwn fX (hm.ownI 0 U) hT3.symm)) hy U U) U (bE (nw 13 511 (fun _ _=>trivial) fun z=>eG 9 U (eB (news:= [.int .i64 v38]) 3 0 bV1 U U U U U U U (by omega) (by unfold maxLen;omega) U U fun va hva=>?_)))))
    refine dV (R:=∃A cc,va= .slice A (n1+1) cc) (fun wx hm=>dR (hm.ownI 3 U)) ?_
    rintro ⟨Aa,ca,rfl⟩
    refine bE (nw 13 1023 (fun _ _=>trivial) fun z=>wq 10 U (dA U) (wq 11 U (bS kB U U) (eG 12 U (fY (l:=(ap (ap (ap [] b1 ⟨mU,mi1,A1,n1,c1,on1,ov1⟩) b2 ⟨nJ,mi2,A2,n2,c2,on2,ov2⟩) b3 ⟨pE,mi3,A3,n3,c3,on3,ov3⟩)) (j:=j) (r:=2) (el:=⟨mU,mi1,A1,n1,c1,on1,ov1⟩) (el':=⟨mU,mi1,Aa,n1+1,ca,on1++ [v38],ov1⟩) 0 kZ U U U U fX U hy hT3.symm (show 2 < 4 by decide) U U (bE (nw 13 8191 (fun _ _=>trivial) fun z=>jO (bG (bD (bR (bP U (bX U (bQ (bM ?_)))))))))))))
    exact bJ U U fun wx hm=>⟨some ⟨bo,0,none⟩,nn3,c,((ap (ap (ap [] b1 ⟨mU,mi1,A1,n1,c1,on1,ov1⟩) b2 ⟨nJ,mi2,A2,n2,c2,on2,ov2⟩) b3 ⟨pE,mi3,A3,n3,c3,on3,ov3⟩).set j ⟨mU,mi1,Aa,n1+1,ca,on1++ [v38],ov1⟩),U,SlT.ofOwn fX (hm.ownI 0 U) (by simpa using hT3.symm),nN (hz _) (pF (hm.ownI 3 U) ho1) (SlT.ofOwn fM (hm.ownI 2 U) ho2) (SlT.ofOwn fM (hm.ownI 1 U) ho3),rH (hz _) (show jF _ from ⟨(by omega:(mU:ByteArray).size<=1000000),(by omega:n1+1<=1000)⟩) (show jF _ from ⟨(by omega:(nJ:ByteArray).size<=1000000),(by omega:n2<=1000)⟩) (show jF _ from ⟨(by omega:(pE:ByteArray).size<=1000000),(by omega:n3<=1000)⟩),by omega,jA (hm.ownI 0 rfl),hm.k.more (by omega),hm.g⟩
   ·refine bB (bV (j:=j) zW U U (by omega)) U ?_
    refine bX U (bQ (bR (bP U (dN (γ:=Int) (val:=fun v=> .int .i64 v) (φ:=fun v=>mW 3 v) U bP8 U U U U (fun wx hm=>(mM _ wx B sb _ hm.k (by omega) (by omega) (by omega))) fun vs hvs=>bQ (bO (bR (bB (eL U U) U (bX U (bQ ?_)))))))))
    refine cC U (fun h0=>?_) (fun h0=>?_)
    ·refine bI (bP U (bP U ?_))
     refine jE 9 [.string ⟨#[]⟩,.string ⟨#[99,105,116,121]⟩,.string ⟨#[65]⟩] fun g41=>dN (γ:=ByteArray) (val:=fun v=> .string v) (φ:=fun v=>v∈([⟨#[]⟩,⟨#[99,105,116,121]⟩,⟨#[65]⟩]:List ByteArray)) U rK U U U U (fun wx hm=>(gU [⟨#[]⟩,⟨#[99,105,116,121]⟩,⟨#[65]⟩] _ _ _ wx B sb _ hm.k (by omega) (by simp) (by simp) (hm.blkI 0 U) (hm.neRow 0 U U))) fun sn yY=>?_
     have zsn:sn.size<=100:=kG yY (by decide)
     refine bB (dA U) U (dY vC U U (fY (l:=(ap (ap (ap [] b1 ⟨mU,mi1,A1,n1,c1,on1,ov1⟩) b2 ⟨nJ,mi2,A2,n2,c2,on2,ov2⟩) b3 ⟨pE,mi3,A3,n3,c3,on3,ov3⟩)) (j:=j) (r:=0) (el:=⟨nJ,mi2,A2,n2,c2,on2,ov2⟩) (el':=⟨sn,mi2,A2,n2,c2,on2,ov2⟩) 0 fC U U U U fX U hy hT3.symm (show 0 < 4 by decide) U U (bE (bG (bD (bR (bP U (bX U (bQ (bM ?_))))))))))
     exact bJ U U fun wx hm=>⟨some ⟨bo,0,none⟩,nn3,c,((ap (ap (ap [] b1 ⟨mU,mi1,A1,n1,c1,on1,ov1⟩) b2 ⟨nJ,mi2,A2,n2,c2,on2,ov2⟩) b3 ⟨pE,mi3,A3,n3,c3,on3,ov3⟩).set j ⟨sn,mi2,A2,n2,c2,on2,ov2⟩),U,SlT.ofOwn fX (hm.ownI 0 U) (by simpa using hT3.symm),nN (hz _) (SlT.ofOwn fM (hm.ownI 3 U) ho1) (SlT.ofOwn fM (hm.ownI 2 U) ho2) (SlT.ofOwn fM (hm.ownI 1 U) ho3),rH (hz _) (show jF _ from ⟨(by omega:(mU:ByteArray).size<=1000000),(by omega:n1<=1000)⟩) (show jF _ from ⟨(by omega:(sn:ByteArray).size<=1000000),(by omega:n2<=1000)⟩) (show jF _ from ⟨(by omega:(pE:ByteArray).size<=1000000),(by omega:n3<=1000)⟩),by omega,jA (hm.ownI 0 rfl),hm.k.more (by omega),hm.g⟩
    refine bR (bB (eL U U) U (bX U (bQ ?_)))
    refine cC U (fun h1=>?_) (fun h1=>?_)
    ·refine bI (bP U (bP U ?_))
     refine dN (γ:=Int) (val:=fun v=> .int .i64 v) (φ:=fun v=> -2000000000000000<=v/\v<=2000000000000000) U bO2 U U U U (fun wx hm=>(mF _ _ wx B sb _ hm.k (by omega) (by omega) (by omega) (by omega))) fun v42 hv42=>bB (dA U) U (dY bU3 U U (fY (l:=(ap (ap (ap [] b1 ⟨mU,mi1,A1,n1,c1,on1,ov1⟩) b2 ⟨nJ,mi2,A2,n2,c2,on2,ov2⟩) b3 ⟨pE,mi3,A3,n3,c3,on3,ov3⟩)) (j:=j) (r:=1) (el:=⟨nJ,mi2,A2,n2,c2,on2,ov2⟩) (el':=⟨nJ,v42,A2,n2,c2,on2,ov2⟩) 0 fP U U U U fX U hy hT3.symm (show 1 < 4 by decide) U U (bE (bG (bD (bR (bP U (bX U (bQ (bM ?_))))))))))
     exact bJ U U fun wx hm=>⟨some ⟨bo,0,none⟩,nn3,c,((ap (ap (ap [] b1 ⟨mU,mi1,A1,n1,c1,on1,ov1⟩) b2 ⟨nJ,mi2,A2,n2,c2,on2,ov2⟩) b3 ⟨pE,mi3,A3,n3,c3,on3,ov3⟩).set j ⟨nJ,v42,A2,n2,c2,on2,ov2⟩),U,SlT.ofOwn fX (hm.ownI 0 U) (by simpa using hT3.symm),nN (hz _) (SlT.ofOwn fM (hm.ownI 3 U) ho1) (SlT.ofOwn fM (hm.ownI 2 U) ho2) (SlT.ofOwn fM (hm.ownI 1 U) ho3),rH (hz _) (show jF _ from ⟨(by omega:(mU:ByteArray).size<=1000000),(by omega:n1<=1000)⟩) (show jF _ from ⟨(by omega:(nJ:ByteArray).size<=1000000),(by omega:n2<=1000)⟩) (show jF _ from ⟨(by omega:(pE:ByteArray).size<=1000000),(by omega:n3<=1000)⟩),by omega,jA (hm.ownI 0 rfl),hm.k.more (by omega),hm.g⟩
    refine gd (fun wz=>True) mixed (fun _ _=>trivial) fun z=>wq 0 U (bL U) (wq 1 U (bL U) (wq 2 U (dA U) (wq 3 U (bS kB U U) (wq 5 U (bL U) ?_))))
    refine kK [4,6] (by kernel_rfl) U ⟨⟨_,U,?_⟩,⟨_,U,?_⟩,trivial⟩
    ·refine bB (dK (k:=2) (v:= .slice A2 n2 c2) kZ U (fun _ hm=>(SlT.ofOwn fX (hm.ownI 0 U) hT3.symm)) hy U U) U ?_
     refine bE (nw 13 63 (fun _ _=>trivial) fun z=>eG 6 U (jE 3 [.int .i64 0,.int .i64 5,.int .i64 6,.int .i64 7,.int .i64 1] fun g43=>bE (nw 13 127 (fun _ _=>trivial) fun z=>eG 7 U (dN (γ:=Int) (val:=fun v=> .int .i64 v) (φ:=fun v=>v∈([0,5,6,7,1]:List Int)) U pO U U U U (fun wx hm=>(eT [0,5,6,7,1] _ _ _ wx B sb _ hm.k (by omega) (by simp) (by simp) (hm.blkI 0 U) (hm.neRow 0 U U))) fun v44 hv44=>?_))))
     have bv44:0<=v44/\v44<=7:=gP hv44 (by decide)
     have bv440:=bv44.1
     have bv441:=bv44.2
     clear bv44
     refine bE (nw 13 255 (fun _ _=>trivial) fun z=>eG 8 U (jE 3 [.int .i64 v44] fun g45=>bE (nw 13 511 (fun _ _=>trivial) fun z=>eG 9 U (eB (news:= [.int .i64 v44]) 2 0 bV1 U U U U U U U (by omega) (by unfold maxLen;omega) U U fun va hva=>?_))))
     refine dV (R:=∃A cc,va= .slice A (n2+1) cc) (fun wx hm=>dR (hm.ownI 2 U)) ?_
     rintro ⟨Aa,ca,rfl⟩
     refine bE (nw 13 1023 (fun _ _=>trivial) fun z=>wq 10 U (dA U) (wq 11 U (bS kB U U) (eG 12 U (fY (l:=(ap (ap (ap [] b1 ⟨mU,mi1,A1,n1,c1,on1,ov1⟩) b2 ⟨nJ,mi2,A2,n2,c2,on2,ov2⟩) b3 ⟨pE,mi3,A3,n3,c3,on3,ov3⟩)) (j:=j) (r:=2) (el:=⟨nJ,mi2,A2,n2,c2,on2,ov2⟩) (el':=⟨nJ,mi2,Aa,n2+1,ca,on2++ [v44],ov2⟩) 0 kZ U U U U fX U hy hT3.symm (show 2 < 4 by decide) U U (bE (nw 13 8191 (fun _ _=>trivial) fun z=>jO (bG (bD (bR (bP U (bX U (bQ (bM ?_)))))))))))))
     exact bJ U U fun wx hm=>⟨some ⟨bo,0,none⟩,nn3,c,((ap (ap (ap [] b1 ⟨mU,mi1,A1,n1,c1,on1,ov1⟩) b2 ⟨nJ,mi2,A2,n2,c2,on2,ov2⟩) b3 ⟨pE,mi3,A3,n3,c3,on3,ov3⟩).set j ⟨nJ,mi2,Aa,n2+1,ca,on2++ [v44],ov2⟩),U,SlT.ofOwn fX (hm.ownI 0 U) (by simpa using hT3.symm),nN (hz _) (SlT.ofOwn fM (hm.ownI 3 U) ho1) (pF (hm.ownI 2 U) ho2) (SlT.ofOwn fM (hm.ownI 1 U) ho3),rH (hz _) (show jF _ from ⟨(by omega:(mU:ByteArray).size<=1000000),(by omega:n1<=1000)⟩) (show jF _ from ⟨(by omega:(nJ:ByteArray).size<=1000000),(by omega:n2+1<=1000)⟩) (show jF _ from ⟨(by omega:(pE:ByteArray).size<=1000000),(by omega:n3<=1000)⟩),by omega,jA (hm.ownI 0 rfl),hm.k.more (by omega),hm.g⟩
    refine jE 3 [.int .i64 0,.int .i64 5,.int .i64 6,.int .i64 7,.int .i64 1] fun g46=>bE (nw 13 111 (fun _ _=>trivial) fun z=>?_)
    refine kK [4,7] (by kernel_rfl) U ⟨⟨_,U,?_⟩,⟨_,U,?_⟩,trivial⟩
    ·refine bB (dK (k:=2) (v:= .slice A2 n2 c2) kZ U (fun _ hm=>(SlT.ofOwn fX (hm.ownI 0 U) hT3.symm)) hy U U) U ?_
     refine bE (nw 13 127 (fun _ _=>trivial) fun z=>eG 7 U (dN (γ:=Int) (val:=fun v=> .int .i64 v) (φ:=fun v=>v∈([0,5,6,7,1]:List Int)) U pO U U U U (fun wx hm=>(eT [0,5,6,7,1] _ _ _ wx B sb _ hm.k (by omega) (by simp) (by simp) (hm.blkI 0 U) (hm.neRow 0 U U))) fun v47 hv47=>?_))
     have bv47:0<=v47/\v47<=7:=gP hv47 (by decide)
     have bv470:=bv47.1
     have bv471:=bv47.2
     clear bv47
     refine bE (nw 13 255 (fun _ _=>trivial) fun z=>eG 8 U (jE 3 [.int .i64 v47] fun g48=>bE (nw 13 511 (fun _ _=>trivial) fun z=>eG 9 U (eB (news:= [.int .i64 v47]) 2 0 bV1 U U U U U U U (by omega) (by unfold maxLen;omega) U U fun va hva=>?_))))
     refine dV (R:=∃A cc,va= .slice A (n2+1) cc) (fun wx hm=>dR (hm.ownI 2 U)) ?_
     rintro ⟨Aa,ca,rfl⟩
     refine bE (nw 13 1023 (fun _ _=>trivial) fun z=>wq 10 U (dA U) (wq 11 U (bS kB U U) (eG 12 U (fY (l:=(ap (ap (ap [] b1 ⟨mU,mi1,A1,n1,c1,on1,ov1⟩) b2 ⟨nJ,mi2,A2,n2,c2,on2,ov2⟩) b3 ⟨pE,mi3,A3,n3,c3,on3,ov3⟩)) (j:=j) (r:=2) (el:=⟨nJ,mi2,A2,n2,c2,on2,ov2⟩) (el':=⟨nJ,mi2,Aa,n2+1,ca,on2++ [v47],ov2⟩) 0 kZ U U U U fX U hy hT3.symm (show 2 < 4 by decide) U U (bE (nw 13 8191 (fun _ _=>trivial) fun z=>jO (bG (bD (bR (bP U (bX U (bQ (bM ?_)))))))))))))
     exact bJ U U fun wx hm=>⟨some ⟨bo,0,none⟩,nn3,c,((ap (ap (ap [] b1 ⟨mU,mi1,A1,n1,c1,on1,ov1⟩) b2 ⟨nJ,mi2,A2,n2,c2,on2,ov2⟩) b3 ⟨pE,mi3,A3,n3,c3,on3,ov3⟩).set j ⟨nJ,mi2,Aa,n2+1,ca,on2++ [v47],ov2⟩),U,SlT.ofOwn fX (hm.ownI 0 U) (by simpa using hT3.symm),nN (hz _) (SlT.ofOwn fM (hm.ownI 3 U) ho1) (pF (hm.ownI 2 U) ho2) (SlT.ofOwn fM (hm.ownI 1 U) ho3),rH (hz _) (show jF _ from ⟨(by omega:(mU:ByteArray).size<=1000000),(by omega:n1<=1000)⟩) (show jF _ from ⟨(by omega:(nJ:ByteArray).size<=1000000),(by omega:n2+1<=1000)⟩) (show jF _ from ⟨(by omega:(pE:ByteArray).size<=1000000),(by omega:n3<=1000)⟩),by omega,jA (hm.ownI 0 rfl),hm.k.more (by omega),hm.g⟩
    refine dN (γ:=Int) (val:=fun v=> .int .i64 v) (φ:=fun v=>v∈([0,5,6,7,1]:List Int)) U pO U U U U (fun wx hm=>(eT [0,5,6,7,1] _ _ _ wx B sb _ hm.k (by omega) (by simp) (by simp) (hm.blkI 0 U) (hm.neRow 0 U U))) fun v49 hv49=>?_
    have bv49:0<=v49/\v49<=7:=gP hv49 (by decide)
    have bv490:=bv49.1
    have bv491:=bv49.2
    clear bv49
    refine bE (nw 13 239 (fun _ _=>trivial) fun z=>?_)
    refine kK [4,8] (by kernel_rfl) U ⟨⟨_,U,?_⟩,⟨_,U,?_⟩,trivial⟩
    ·refine bB (dK (k:=2) (v:= .slice A2 n2 c2) kZ U (fun _ hm=>(SlT.ofOwn fX (hm.ownI 0 U) hT3.symm)) hy U U) U ?_
     refine bE (nw 13 255 (fun _ _=>trivial) fun z=>eG 8 U (jE 3 [.int .i64 v49] fun g50=>bE (nw 13 511 (fun _ _=>trivial) fun z=>eG 9 U (eB (news:= [.int .i64 v49]) 2 0 bV1 U U U U U U U (by omega) (by unfold maxLen;omega) U U fun va hva=>?_))))
     refine dV (R:=∃A cc,va= .slice A (n2+1) cc) (fun wx hm=>dR (hm.ownI 2 U)) ?_
     rintro ⟨Aa,ca,rfl⟩
     refine bE (nw 13 1023 (fun _ _=>trivial) fun z=>wq 10 U (dA U) (wq 11 U (bS kB U U) (eG 12 U (fY (l:=(ap (ap (ap [] b1 ⟨mU,mi1,A1,n1,c1,on1,ov1⟩) b2 ⟨nJ,mi2,A2,n2,c2,on2,ov2⟩) b3 ⟨pE,mi3,A3,n3,c3,on3,ov3⟩)) (j:=j) (r:=2) (el:=⟨nJ,mi2,A2,n2,c2,on2,ov2⟩) (el':=⟨nJ,mi2,Aa,n2+1,ca,on2++ [v49],ov2⟩) 0 kZ U U U U fX U hy hT3.symm (show 2 < 4 by decide) U U (bE (nw 13 8191 (fun _ _=>trivial) fun z=>jO (bG (bD (bR (bP U (bX U (bQ (bM ?_)))))))))))))
     exact bJ U U fun wx hm=>⟨some ⟨bo,0,none⟩,nn3,c,((ap (ap (ap [] b1 ⟨mU,mi1,A1,n1,c1,on1,ov1⟩) b2 ⟨nJ,mi2,A2,n2,c2,on2,ov2⟩) b3 ⟨pE,mi3,A3,n3,c3,on3,ov3⟩).set j ⟨nJ,mi2,Aa,n2+1,ca,on2++ [v49],ov2⟩),U,SlT.ofOwn fX (hm.ownI 0 U) (by simpa using hT3.symm),nN (hz _) (SlT.ofOwn fM (hm.ownI 3 U) ho1) (pF (hm.ownI 2 U) ho2) (SlT.ofOwn fM (hm.ownI 1 U) ho3),rH (hz _) (show jF _ from ⟨(by omega:(mU:ByteArray).size<=1000000),(by omega:n1<=1000)⟩) (show jF _ from ⟨(by omega:(nJ:ByteArray).size<=1000000),(by omega:n2+1<=1000)⟩) (show jF _ from ⟨(by omega:(pE:ByteArray).size<=1000000),(by omega:n3<=1000)⟩),by omega,jA (hm.ownI 0 rfl),hm.k.more (by omega),hm.g⟩
    refine jE 3 [.int .i64 v49] fun g51=>bE (nw 13 495 (fun _ _=>trivial) fun z=>eG 4 U (bB (dK (k:=2) (v:= .slice A2 n2 c2) kZ U (fun _ hm=>(SlT.ofOwn fX (hm.ownI 0 U) hT3.symm)) hy U U) U (bE (nw 13 511 (fun _ _=>trivial) fun z=>eG 9 U (eB (news:= [.int .i64 v49]) 2 0 bV1 U U U U U U U (by omega) (by unfold maxLen;omega) U U fun va hva=>?_)))))
    refine dV (R:=∃A cc,va= .slice A (n2+1) cc) (fun wx hm=>dR (hm.ownI 2 U)) ?_
    rintro ⟨Aa,ca,rfl⟩
    refine bE (nw 13 1023 (fun _ _=>trivial) fun z=>wq 10 U (dA U) (wq 11 U (bS kB U U) (eG 12 U (fY (l:=(ap (ap (ap [] b1 ⟨mU,mi1,A1,n1,c1,on1,ov1⟩) b2 ⟨nJ,mi2,A2,n2,c2,on2,ov2⟩) b3 ⟨pE,mi3,A3,n3,c3,on3,ov3⟩)) (j:=j) (r:=2) (el:=⟨nJ,mi2,A2,n2,c2,on2,ov2⟩) (el':=⟨nJ,mi2,Aa,n2+1,ca,on2++ [v49],ov2⟩) 0 kZ U U U U fX U hy hT3.symm (show 2 < 4 by decide) U U (bE (nw 13 8191 (fun _ _=>trivial) fun z=>jO (bG (bD (bR (bP U (bX U (bQ (bM ?_)))))))))))))
    exact bJ U U fun wx hm=>⟨some ⟨bo,0,none⟩,nn3,c,((ap (ap (ap [] b1 ⟨mU,mi1,A1,n1,c1,on1,ov1⟩) b2 ⟨nJ,mi2,A2,n2,c2,on2,ov2⟩) b3 ⟨pE,mi3,A3,n3,c3,on3,ov3⟩).set j ⟨nJ,mi2,Aa,n2+1,ca,on2++ [v49],ov2⟩),U,SlT.ofOwn fX (hm.ownI 0 U) (by simpa using hT3.symm),nN (hz _) (SlT.ofOwn fM (hm.ownI 3 U) ho1) (pF (hm.ownI 2 U) ho2) (SlT.ofOwn fM (hm.ownI 1 U) ho3),rH (hz _) (show jF _ from ⟨(by omega:(mU:ByteArray).size<=1000000),(by omega:n1<=1000)⟩) (show jF _ from ⟨(by omega:(nJ:ByteArray).size<=1000000),(by omega:n2+1<=1000)⟩) (show jF _ from ⟨(by omega:(pE:ByteArray).size<=1000000),(by omega:n3<=1000)⟩),by omega,jA (hm.ownI 0 rfl),hm.k.more (by omega),hm.g⟩
   refine bB (bV (j:=j) zW U U (by omega)) U (bX U (bQ (bR (bP U (dN (γ:=Int) (val:=fun v=> .int .i64 v) (φ:=fun v=>mW 3 v) U bP8 U U U U (fun wx hm=>(mM _ wx B sb _ hm.k (by omega) (by omega) (by omega))) fun vs hvs=>bQ (bO (bR (bB (eL U U) U (bX U (bQ ?_))))))))))
   refine cC U (fun h0=>?_) (fun h0=>?_)
   ·refine bI (bP U (bP U ?_))
    refine jE 9 [.string ⟨#[]⟩,.string ⟨#[99,105,116,121]⟩,.string ⟨#[65]⟩] fun g52=>dN (γ:=ByteArray) (val:=fun v=> .string v) (φ:=fun v=>v∈([⟨#[]⟩,⟨#[99,105,116,121]⟩,⟨#[65]⟩]:List ByteArray)) U rK U U U U (fun wx hm=>(gU [⟨#[]⟩,⟨#[99,105,116,121]⟩,⟨#[65]⟩] _ _ _ wx B sb _ hm.k (by omega) (by simp) (by simp) (hm.blkI 0 U) (hm.neRow 0 U U))) fun sn yY=>?_
    have zsn:sn.size<=100:=kG yY (by decide)
    refine bB (dA U) U (dY vC U U (fY (l:=(ap (ap (ap [] b1 ⟨mU,mi1,A1,n1,c1,on1,ov1⟩) b2 ⟨nJ,mi2,A2,n2,c2,on2,ov2⟩) b3 ⟨pE,mi3,A3,n3,c3,on3,ov3⟩)) (j:=j) (r:=0) (el:=⟨pE,mi3,A3,n3,c3,on3,ov3⟩) (el':=⟨sn,mi3,A3,n3,c3,on3,ov3⟩) 0 fC U U U U fX U hy hT3.symm (show 0 < 4 by decide) U U (bE (bG (bD (bR (bP U (bX U (bQ (bM ?_))))))))))
    exact bJ U U fun wx hm=>⟨some ⟨bo,0,none⟩,nn3,c,((ap (ap (ap [] b1 ⟨mU,mi1,A1,n1,c1,on1,ov1⟩) b2 ⟨nJ,mi2,A2,n2,c2,on2,ov2⟩) b3 ⟨pE,mi3,A3,n3,c3,on3,ov3⟩).set j ⟨sn,mi3,A3,n3,c3,on3,ov3⟩),U,SlT.ofOwn fX (hm.ownI 0 U) (by simpa using hT3.symm),nN (hz _) (SlT.ofOwn fM (hm.ownI 3 U) ho1) (SlT.ofOwn fM (hm.ownI 2 U) ho2) (SlT.ofOwn fM (hm.ownI 1 U) ho3),rH (hz _) (show jF _ from ⟨(by omega:(mU:ByteArray).size<=1000000),(by omega:n1<=1000)⟩) (show jF _ from ⟨(by omega:(nJ:ByteArray).size<=1000000),(by omega:n2<=1000)⟩) (show jF _ from ⟨(by omega:(sn:ByteArray).size<=1000000),(by omega:n3<=1000)⟩),by omega,jA (hm.ownI 0 rfl),hm.k.more (by omega),hm.g⟩
   refine bR (bB (eL U U) U (bX U (bQ ?_)))
   refine cC U (fun h1=>?_) (fun h1=>?_)
   ·refine bI (bP U (bP U ?_))
    refine dN (γ:=Int) (val:=fun v=> .int .i64 v) (φ:=fun v=> -2000000000000000<=v/\v<=2000000000000000) U bO2 U U U U (fun wx hm=>(mF _ _ wx B sb _ hm.k (by omega) (by omega) (by omega) (by omega))) fun v53 hv53=>bB (dA U) U (dY bU3 U U (fY (l:=(ap (ap (ap [] b1 ⟨mU,mi1,A1,n1,c1,on1,ov1⟩) b2 ⟨nJ,mi2,A2,n2,c2,on2,ov2⟩) b3 ⟨pE,mi3,A3,n3,c3,on3,ov3⟩)) (j:=j) (r:=1) (el:=⟨pE,mi3,A3,n3,c3,on3,ov3⟩) (el':=⟨pE,v53,A3,n3,c3,on3,ov3⟩) 0 fP U U U U fX U hy hT3.symm (show 1 < 4 by decide) U U (bE (bG (bD (bR (bP U (bX U (bQ (bM ?_))))))))))
    exact bJ U U fun wx hm=>⟨some ⟨bo,0,none⟩,nn3,c,((ap (ap (ap [] b1 ⟨mU,mi1,A1,n1,c1,on1,ov1⟩) b2 ⟨nJ,mi2,A2,n2,c2,on2,ov2⟩) b3 ⟨pE,mi3,A3,n3,c3,on3,ov3⟩).set j ⟨pE,v53,A3,n3,c3,on3,ov3⟩),U,SlT.ofOwn fX (hm.ownI 0 U) (by simpa using hT3.symm),nN (hz _) (SlT.ofOwn fM (hm.ownI 3 U) ho1) (SlT.ofOwn fM (hm.ownI 2 U) ho2) (SlT.ofOwn fM (hm.ownI 1 U) ho3),rH (hz _) (show jF _ from ⟨(by omega:(mU:ByteArray).size<=1000000),(by omega:n1<=1000)⟩) (show jF _ from ⟨(by omega:(nJ:ByteArray).size<=1000000),(by omega:n2<=1000)⟩) (show jF _ from ⟨(by omega:(pE:ByteArray).size<=1000000),(by omega:n3<=1000)⟩),by omega,jA (hm.ownI 0 rfl),hm.k.more (by omega),hm.g⟩
   refine gd (fun wz=>True) mixed (fun _ _=>trivial) fun z=>wq 0 U (bL U) (wq 1 U (bL U) (wq 2 U (dA U) (wq 3 U (bS kB U U) (wq 5 U (bL U) ?_))))
   refine kK [4,6] (by kernel_rfl) U ⟨⟨_,U,?_⟩,⟨_,U,?_⟩,trivial⟩
   ·refine bB (dK (k:=2) (v:= .slice A3 n3 c3) kZ U (fun _ hm=>(SlT.ofOwn fX (hm.ownI 0 U) hT3.symm)) hy U U) U ?_
    refine bE (nw 13 63 (fun _ _=>trivial) fun z=>eG 6 U (jE 3 [.int .i64 0,.int .i64 5,.int .i64 6,.int .i64 7,.int .i64 1] fun g54=>bE (nw 13 127 (fun _ _=>trivial) fun z=>eG 7 U (dN (γ:=Int) (val:=fun v=> .int .i64 v) (φ:=fun v=>v∈([0,5,6,7,1]:List Int)) U pO U U U U (fun wx hm=>(eT [0,5,6,7,1] _ _ _ wx B sb _ hm.k (by omega) (by simp) (by simp) (hm.blkI 0 U) (hm.neRow 0 U U))) fun v55 hv55=>?_))))
    have bv55:0<=v55/\v55<=7:=gP hv55 (by decide)
    have bv550:=bv55.1
    have bv551:=bv55.2
    clear bv55
    refine bE (nw 13 255 (fun _ _=>trivial) fun z=>eG 8 U (jE 3 [.int .i64 v55] fun g56=>bE (nw 13 511 (fun _ _=>trivial) fun z=>eG 9 U (eB (news:= [.int .i64 v55]) 1 0 bV1 U U U U U U U (by omega) (by unfold maxLen;omega) U U fun va hva=>?_))))
    refine dV (R:=∃A cc,va= .slice A (n3+1) cc) (fun wx hm=>dR (hm.ownI 1 U)) ?_
    rintro ⟨Aa,ca,rfl⟩
    refine bE (nw 13 1023 (fun _ _=>trivial) fun z=>wq 10 U (dA U) (wq 11 U (bS kB U U) (eG 12 U (fY (l:=(ap (ap (ap [] b1 ⟨mU,mi1,A1,n1,c1,on1,ov1⟩) b2 ⟨nJ,mi2,A2,n2,c2,on2,ov2⟩) b3 ⟨pE,mi3,A3,n3,c3,on3,ov3⟩)) (j:=j) (r:=2) (el:=⟨pE,mi3,A3,n3,c3,on3,ov3⟩) (el':=⟨pE,mi3,Aa,n3+1,ca,on3++ [v55],ov3⟩) 0 kZ U U U U fX U hy hT3.symm (show 2 < 4 by decide) U U (bE (nw 13 8191 (fun _ _=>trivial) fun z=>jO (bG (bD (bR (bP U (bX U (bQ (bM ?_)))))))))))))
    exact bJ U U fun wx hm=>⟨some ⟨bo,0,none⟩,nn3,c,((ap (ap (ap [] b1 ⟨mU,mi1,A1,n1,c1,on1,ov1⟩) b2 ⟨nJ,mi2,A2,n2,c2,on2,ov2⟩) b3 ⟨pE,mi3,A3,n3,c3,on3,ov3⟩).set j ⟨pE,mi3,Aa,n3+1,ca,on3++ [v55],ov3⟩),U,SlT.ofOwn fX (hm.ownI 0 U) (by simpa using hT3.symm),nN (hz _) (SlT.ofOwn fM (hm.ownI 3 U) ho1) (SlT.ofOwn fM (hm.ownI 2 U) ho2) (pF (hm.ownI 1 U) ho3),rH (hz _) (show jF _ from ⟨(by omega:(mU:ByteArray).size<=1000000),(by omega:n1<=1000)⟩) (show jF _ from ⟨(by omega:(nJ:ByteArray).size<=1000000),(by omega:n2<=1000)⟩) (show jF _ from ⟨(by omega:(pE:ByteArray).size<=1000000),(by omega:n3+1<=1000)⟩),by omega,jA (hm.ownI 0 rfl),hm.k.more (by omega),hm.g⟩
   refine jE 3 [.int .i64 0,.int .i64 5,.int .i64 6,.int .i64 7,.int .i64 1] fun g57=>bE (nw 13 111 (fun _ _=>trivial) fun z=>?_)
   refine kK [4,7] (by kernel_rfl) U ⟨⟨_,U,?_⟩,⟨_,U,?_⟩,trivial⟩
   ·refine bB (dK (k:=2) (v:= .slice A3 n3 c3) kZ U (fun _ hm=>(SlT.ofOwn fX (hm.ownI 0 U) hT3.symm)) hy U U) U ?_
    refine bE (nw 13 127 (fun _ _=>trivial) fun z=>eG 7 U (dN (γ:=Int) (val:=fun v=> .int .i64 v) (φ:=fun v=>v∈([0,5,6,7,1]:List Int)) U pO U U U U (fun wx hm=>(eT [0,5,6,7,1] _ _ _ wx B sb _ hm.k (by omega) (by simp) (by simp) (hm.blkI 0 U) (hm.neRow 0 U U))) fun v58 hv58=>?_))
    have bv58:0<=v58/\v58<=7:=gP hv58 (by decide)
    have bv580:=bv58.1
    have bv581:=bv58.2
    clear bv58
    refine bE (nw 13 255 (fun _ _=>trivial) fun z=>eG 8 U (jE 3 [.int .i64 v58] fun g59=>bE (nw 13 511 (fun _ _=>trivial) fun z=>eG 9 U (eB (news:= [.int .i64 v58]) 1 0 bV1 U U U U U U U (by omega) (by unfold maxLen;omega) U U fun va hva=>?_))))
    refine dV (R:=∃A cc,va= .slice A (n3+1) cc) (fun wx hm=>dR (hm.ownI 1 U)) ?_
    rintro ⟨Aa,ca,rfl⟩
    refine bE (nw 13 1023 (fun _ _=>trivial) fun z=>wq 10 U (dA U) (wq 11 U (bS kB U U) (eG 12 U (fY (l:=(ap (ap (ap [] b1 ⟨mU,mi1,A1,n1,c1,on1,ov1⟩) b2 ⟨nJ,mi2,A2,n2,c2,on2,ov2⟩) b3 ⟨pE,mi3,A3,n3,c3,on3,ov3⟩)) (j:=j) (r:=2) (el:=⟨pE,mi3,A3,n3,c3,on3,ov3⟩) (el':=⟨pE,mi3,Aa,n3+1,ca,on3++ [v58],ov3⟩) 0 kZ U U U U fX U hy hT3.symm (show 2 < 4 by decide) U U (bE (nw 13 8191 (fun _ _=>trivial) fun z=>jO (bG (bD (bR (bP U (bX U (bQ (bM ?_)))))))))))))
    exact bJ U U fun wx hm=>⟨some ⟨bo,0,none⟩,nn3,c,((ap (ap (ap [] b1 ⟨mU,mi1,A1,n1,c1,on1,ov1⟩) b2 ⟨nJ,mi2,A2,n2,c2,on2,ov2⟩) b3 ⟨pE,mi3,A3,n3,c3,on3,ov3⟩).set j ⟨pE,mi3,Aa,n3+1,ca,on3++ [v58],ov3⟩),U,SlT.ofOwn fX (hm.ownI 0 U) (by simpa using hT3.symm),nN (hz _) (SlT.ofOwn fM (hm.ownI 3 U) ho1) (SlT.ofOwn fM (hm.ownI 2 U) ho2) (pF (hm.ownI 1 U) ho3),rH (hz _) (show jF _ from ⟨(by omega:(mU:ByteArray).size<=1000000),(by omega:n1<=1000)⟩) (show jF _ from ⟨(by omega:(nJ:ByteArray).size<=1000000),(by omega:n2<=1000)⟩) (show jF _ from ⟨(by omega:(pE:ByteArray).size<=1000000),(by omega:n3+1<=1000)⟩),by omega,jA (hm.ownI 0 rfl),hm.k.more (by omega),hm.g⟩
   refine dN (γ:=Int) (val:=fun v=> .int .i64 v) (φ:=fun v=>v∈([0,5,6,7,1]:List Int)) U pO U U U U (fun wx hm=>(eT [0,5,6,7,1] _ _ _ wx B sb _ hm.k (by omega) (by simp) (by simp) (hm.blkI 0 U) (hm.neRow 0 U U))) fun v60 hv60=>?_
   have bv60:0<=v60/\v60<=7:=gP hv60 (by decide)
   have bv600:=bv60.1
   have bv601:=bv60.2
   clear bv60
   refine bE (nw 13 239 (fun _ _=>trivial) fun z=>?_)
   refine kK [4,8] (by kernel_rfl) U ⟨⟨_,U,?_⟩,⟨_,U,?_⟩,trivial⟩
   ·refine bB (dK (k:=2) (v:= .slice A3 n3 c3) kZ U (fun _ hm=>(SlT.ofOwn fX (hm.ownI 0 U) hT3.symm)) hy U U) U ?_
    refine bE (nw 13 255 (fun _ _=>trivial) fun z=>eG 8 U (jE 3 [.int .i64 v60] fun g61=>bE (nw 13 511 (fun _ _=>trivial) fun z=>eG 9 U (eB (news:= [.int .i64 v60]) 1 0 bV1 U U U U U U U (by omega) (by unfold maxLen;omega) U U fun va hva=>?_))))
    refine dV (R:=∃A cc,va= .slice A (n3+1) cc) (fun wx hm=>dR (hm.ownI 1 U)) ?_
    rintro ⟨Aa,ca,rfl⟩
    refine bE (nw 13 1023 (fun _ _=>trivial) fun z=>wq 10 U (dA U) (wq 11 U (bS kB U U) (eG 12 U (fY (l:=(ap (ap (ap [] b1 ⟨mU,mi1,A1,n1,c1,on1,ov1⟩) b2 ⟨nJ,mi2,A2,n2,c2,on2,ov2⟩) b3 ⟨pE,mi3,A3,n3,c3,on3,ov3⟩)) (j:=j) (r:=2) (el:=⟨pE,mi3,A3,n3,c3,on3,ov3⟩) (el':=⟨pE,mi3,Aa,n3+1,ca,on3++ [v60],ov3⟩) 0 kZ U U U U fX U hy hT3.symm (show 2 < 4 by decide) U U (bE (nw 13 8191 (fun _ _=>trivial) fun z=>jO (bG (bD (bR (bP U (bX U (bQ (bM ?_)))))))))))))
    exact bJ U U fun wx hm=>⟨some ⟨bo,0,none⟩,nn3,c,((ap (ap (ap [] b1 ⟨mU,mi1,A1,n1,c1,on1,ov1⟩) b2 ⟨nJ,mi2,A2,n2,c2,on2,ov2⟩) b3 ⟨pE,mi3,A3,n3,c3,on3,ov3⟩).set j ⟨pE,mi3,Aa,n3+1,ca,on3++ [v60],ov3⟩),U,SlT.ofOwn fX (hm.ownI 0 U) (by simpa using hT3.symm),nN (hz _) (SlT.ofOwn fM (hm.ownI 3 U) ho1) (SlT.ofOwn fM (hm.ownI 2 U) ho2) (pF (hm.ownI 1 U) ho3),rH (hz _) (show jF _ from ⟨(by omega:(mU:ByteArray).size<=1000000),(by omega:n1<=1000)⟩) (show jF _ from ⟨(by omega:(nJ:ByteArray).size<=1000000),(by omega:n2<=1000)⟩) (show jF _ from ⟨(by omega:(pE:ByteArray).size<=1000000),(by omega:n3+1<=1000)⟩),by omega,jA (hm.ownI 0 rfl),hm.k.more (by omega),hm.g⟩
   refine jE 3 [.int .i64 v60] fun g62=>bE (nw 13 495 (fun _ _=>trivial) fun z=>eG 4 U (bB (dK (k:=2) (v:= .slice A3 n3 c3) kZ U (fun _ hm=>(SlT.ofOwn fX (hm.ownI 0 U) hT3.symm)) hy U U) U (bE (nw 13 511 (fun _ _=>trivial) fun z=>eG 9 U (eB (news:= [.int .i64 v60]) 1 0 bV1 U U U U U U U (by omega) (by unfold maxLen;omega) U U fun va hva=>?_)))))
   refine dV (R:=∃A cc,va= .slice A (n3+1) cc) (fun wx hm=>dR (hm.ownI 1 U)) ?_
   rintro ⟨Aa,ca,rfl⟩
   refine bE (nw 13 1023 (fun _ _=>trivial) fun z=>wq 10 U (dA U) (wq 11 U (bS kB U U) (eG 12 U (fY (l:=(ap (ap (ap [] b1 ⟨mU,mi1,A1,n1,c1,on1,ov1⟩) b2 ⟨nJ,mi2,A2,n2,c2,on2,ov2⟩) b3 ⟨pE,mi3,A3,n3,c3,on3,ov3⟩)) (j:=j) (r:=2) (el:=⟨pE,mi3,A3,n3,c3,on3,ov3⟩) (el':=⟨pE,mi3,Aa,n3+1,ca,on3++ [v60],ov3⟩) 0 kZ U U U U fX U hy hT3.symm (show 2 < 4 by decide) U U (bE (nw 13 8191 (fun _ _=>trivial) fun z=>jO (bG (bD (bR (bP U (bX U (bQ (bM ?_)))))))))))))
   exact bJ U U fun wx hm=>⟨some ⟨bo,0,none⟩,nn3,c,((ap (ap (ap [] b1 ⟨mU,mi1,A1,n1,c1,on1,ov1⟩) b2 ⟨nJ,mi2,A2,n2,c2,on2,ov2⟩) b3 ⟨pE,mi3,A3,n3,c3,on3,ov3⟩).set j ⟨pE,mi3,Aa,n3+1,ca,on3++ [v60],ov3⟩),U,SlT.ofOwn fX (hm.ownI 0 U) (by simpa using hT3.symm),nN (hz _) (SlT.ofOwn fM (hm.ownI 3 U) ho1) (SlT.ofOwn fM (hm.ownI 2 U) ho2) (pF (hm.ownI 1 U) ho3),rH (hz _) (show jF _ from ⟨(by omega:(mU:ByteArray).size<=1000000),(by omega:n1<=1000)⟩) (show jF _ from ⟨(by omega:(nJ:ByteArray).size<=1000000),(by omega:n2<=1000)⟩) (show jF _ from ⟨(by omega:(pE:ByteArray).size<=1000000),(by omega:n3+1<=1000)⟩),by omega,jA (hm.ownI 0 rfl),hm.k.more (by omega),hm.g⟩
  have hf:f29=false:=by simpa using hh
  refine bN (bD (bR (bP U (bX U (bQ (bM ?_))))))
  exact bJ U U fun wx hm=>⟨A,nn3,c,(ap (ap (ap [] b1 ⟨mU,mi1,A1,n1,c1,on1,ov1⟩) b2 ⟨nJ,mi2,A2,n2,c2,on2,ov2⟩) b3 ⟨pE,mi3,A3,n3,c3,on3,ov3⟩),U,SlT.ofOwn fX (hm.ownI 0 U) hT3.symm,nN cE3 (SlT.ofOwn fM (hm.ownI 3 U) ho1) (SlT.ofOwn fM (hm.ownI 2 U) ho2) (SlT.ofOwn fM (hm.ownI 1 U) ho3),rH cE3 (show jF _ from ⟨(by omega:(mU:ByteArray).size<=1000000),(by omega:n1<=1000)⟩) (show jF _ from ⟨(by omega:(nJ:ByteArray).size<=1000000),(by omega:n2<=1000)⟩) (show jF _ from ⟨(by omega:(pE:ByteArray).size<=1000000),(by omega:n3<=1000)⟩),by omega,jA (hm.ownI 0 rfl),hm.k.more (by omega),hm.g⟩
 refine bK 48 U (fU3 hb) (dZ U (dZ U (nR U U (bQ (jQ U (bN (bD (bR (bP U (bX U (bQ (bM ?_))))))))))))
 exact bJ U U fun wx hm=>⟨A,nn3,c,(ap (ap (ap [] b1 ⟨mU,mi1,A1,n1,c1,on1,ov1⟩) b2 ⟨nJ,mi2,A2,n2,c2,on2,ov2⟩) b3 ⟨pE,mi3,A3,n3,c3,on3,ov3⟩),U,SlT.ofOwn fX (hm.ownI 0 U) hT3.symm,nN cE3 (SlT.ofOwn fM (hm.ownI 3 U) ho1) (SlT.ofOwn fM (hm.ownI 2 U) ho2) (SlT.ofOwn fM (hm.ownI 1 U) ho3),rH cE3 (show jF _ from ⟨(by omega:(mU:ByteArray).size<=1000000),(by omega:n1<=1000)⟩) (show jF _ from ⟨(by omega:(nJ:ByteArray).size<=1000000),(by omega:n2<=1000)⟩) (show jF _ from ⟨(by omega:(pE:ByteArray).size<=1000000),(by omega:n3<=1000)⟩),by omega,jA (hm.ownI 0 rfl),hm.k.more (by omega),hm.g⟩
theorem cG6 (w:World) (B sb m:Nat) (hS:eU 25 w B sb m) (hm:m<=10000000000):
 Calls prog 62 #[.pointer (some ⟨sb,0,none⟩)] w (fun e w'=>∃(rA:Option Addr) (rn rc:Nat) (rl:List Rt) (eA:Option Addr) (en ec:Nat) (el:List Ex) (fA:Option Addr) (fn fc:Nat) (fl:List Fe) (cA:Option Addr) (cn cc:Nat) (cl:List Cd) (tA:Option Addr) (tn tc:Nat) (tl:List Tx),e=.returned (.agg #[.slice rA rn rc,.slice eA en ec,.slice fA fn fc,.slice cA cn cc,.slice tA tn tc])/\(((∀x∈rl,RtG x)/\rn<=10/\rn<=rc)/\((∀x∈el,bD5 x)/\en<=2/\en<=ec)/\((∀x∈fl,bU1 x)/\fn<=5/\fn<=fc)/\((∀x∈cl,zG x)/\cn<=3/\cn<=cc)/\((∀x∈tl,jF x)/\tn<=3/\tn<=tc))/\(SlT kU 7 219 w' rA rn rl/\SlT qO 4 254 w' eA en el/\SlT nD 3 258 w' fA fn fl/\SlT nS 6 260 w' cA cn cl/\SlT jU 4 263 w' tA tn tl/\Ons tl w')/\eU 25 w' B sb (m+710)/\w.grownBy w' (some sb)):=by
 refine cS ⟨14,w,(some sb), [219,254,258,260,263,3]⟩ func62 U ntmps62 U (bF4 (X:= []) hS cX cY) (bR (dL eY6 U fun g1=>bQ (bR (bP U ?_))))
 refine nQ (γ:=Option Addr×Nat×Nat×List Rt) (val:=(fun g=> .slice g.1 g.2.1 g.2.2.1)) (φ:=(fun g=>(∀x∈g.2.2.2,RtG x)/\g.2.1<=10/\g.2.1<=g.2.2.1)) (Y:=(fun g=>fun wy=>SlT kU 7 219 wy g.1 g.2.1 g.2.2.2)) (m':=m+200) U eS7 U U U U (fun wx hm=>(dR7 wx B sb _ hm.k (by omega)).mono fun _ _ ⟨A,n,c,l,he,hs,hok,hn,hnc,hS,hg⟩=>⟨(A,n,c,l),he,⟨hok,hn,hnc⟩,hS,hg,hs⟩) (fun _=>SlT.lasts2 U) ?_
 rintro ⟨rA,rn,rc,rl⟩ hr
 dsimp only at hr ⊢
 refine bP U ?_
 refine nQ (γ:=Option Addr×Nat×Nat×List Ex) (val:=(fun g=> .slice g.1 g.2.1 g.2.2.1)) (φ:=(fun g=>(∀x∈g.2.2.2,bD5 x)/\g.2.1<=2/\g.2.1<=g.2.2.1)) (Y:=(fun g=>fun wy=>SlT qO 4 254 wy g.1 g.2.1 g.2.2.2)) (m':=m+200+30) U eT7 U U U U (fun wx hm=>(cF6 wx B sb _ hm.k (by omega)).mono fun _ _ ⟨A,n,c,l,he,hs,hok,hn,hnc,hS,hg⟩=>⟨(A,n,c,l),he,⟨hok,hn,hnc⟩,hS,hg,hs⟩) (fun _=>SlT.lasts2 U) ?_
 rintro ⟨eA,en,ec,el⟩ he
 dsimp only at he ⊢
 refine bP U ?_
 refine nQ (γ:=Option Addr×Nat×Nat×List Fe) (val:=(fun g=> .slice g.1 g.2.1 g.2.2.1)) (φ:=(fun g=>(∀x∈g.2.2.2,bU1 x)/\g.2.1<=5/\g.2.1<=g.2.2.1)) (Y:=(fun g=>fun wy=>SlT nD 3 258 wy g.1 g.2.1 g.2.2.2)) (m':=m+200+30+30) U eU7 U U U U (fun wx hm=>(dS3 wx B sb _ hm.k (by omega)).mono fun _ _ ⟨A,n,c,l,he,hs,hok,hn,hnc,hS,hg⟩=>⟨(A,n,c,l),he,⟨hok,hn,hnc⟩,hS,hg,hs⟩) (fun _=>SlT.lasts2 U) ?_
 rintro ⟨fA,fn,fc,fl⟩ hf
 dsimp only at hf ⊢
 refine bP U ?_
 refine nQ (γ:=Option Addr×Nat×Nat×List Cd) (val:=(fun g=> .slice g.1 g.2.1 g.2.2.1)) (φ:=(fun g=>(∀x∈g.2.2.2,zG x)/\g.2.1<=3/\g.2.1<=g.2.2.1)) (Y:=(fun g=>fun wy=>SlT nS 6 260 wy g.1 g.2.1 g.2.2.2)) (m':=m+200+30+30+50) U eV7 U U U U (fun wx hm=>(cA9 wx B sb _ hm.k (by omega)).mono fun _ _ ⟨A,n,c,l,he,hs,hok,hn,hnc,hS,hg⟩=>⟨(A,n,c,l),he,⟨hok,hn,hnc⟩,hS,hg,hs⟩) (fun _=>SlT.lasts2 U) ?_
 rintro ⟨cA,cn,cc,cl⟩ hc
 dsimp only at hc ⊢
 refine bP U ?_
 refine nQ (γ:=Option Addr×Nat×Nat×List Tx) (val:=(fun g=> .slice g.1 g.2.1 g.2.2.1)) (φ:=(fun g=>(∀x∈g.2.2.2,jF x)/\g.2.1<=3/\g.2.1<=g.2.2.1)) (Y:=(fun g=>fun wy=>SlT jU 4 263 wy g.1 g.2.1 g.2.2.2/\Ons g.2.2.2 wy)) (m':=m+200+30+30+50+400) U eW7 U U U U (fun wx hm=>(cB9 wx B sb _ hm.k (by omega)).mono fun _ _ ⟨A,n,c,l,he,hs,hons,hok,hn,hnc,hS,hg⟩=>⟨(A,n,c,l),he,⟨hok,hn,hnc⟩,hS,hg,⟨hs,hons⟩⟩) (fun _=>(SlT.lasts2 U).and_ (Ons.lasts U)) ?_
 rintro ⟨tA,tn,tc,tl⟩ ht
 dsimp only at ht ⊢
 refine bB (dJ (cs:= [.slice rA rn rc,.slice eA en ec,.slice fA fn fc,.slice cA cn cc,.slice tA tn tc]) U (by kernel_rfl)) U (kE (cs':= [.slice rA rn rc,.slice eA en ec,.slice fA fn fc,.slice cA cn cc,.slice tA tn tc]) 0 cM1 U U U U (bQ (bM ?_)))
 refine bE8 0 U cM1 U U U fun wx hm=>?_
 exact ⟨rA,rn,rc,rl,eA,en,ec,el,fA,fn,fc,fl,cA,cn,cc,cl,tA,tn,tc,tl,U,⟨hr,he,hf,hc,ht⟩,⟨(hm.fact 4 U),(hm.fact 3 U),(hm.fact 2 U),(hm.fact 1 U),(hm.fact 0 U).1,(hm.fact 0 U).2⟩,hm.k.more (by omega),hm.g⟩
theorem cZ4 {rl:List Rt} (h:pL rl=0):rR rl [] [] [] []=0:=by
 unfold rR
 rw [h];rfl
theorem bI9 (w:World) (B sb m:Nat) (hS:eU 25 w B sb m) (hm:m<=1000000000):
 Calls prog 26 #[.pointer (some ⟨sb,0,none⟩)] w (fun e w'=>∃(rA:Option Addr) (rn rc:Nat) (rl:List Rt) (eA:Option Addr) (en ec:Nat) (el:List Ex) (fA:Option Addr) (fn fc:Nat) (fl:List Fe) (cA:Option Addr) (cn cc:Nat) (cl:List Cd) (tA:Option Addr) (tn tc:Nat) (tl:List Tx),e=.returned (.agg #[.slice rA rn rc,.slice eA en ec,.slice fA fn fc,.slice cA cn cc,.slice tA tn tc])/\((((∀x∈rl,RtG x)/\rn<=10/\rn<=rc)/\((∀x∈el,bD5 x)/\en<=2/\en<=ec)/\((∀x∈fl,bU1 x)/\fn<=5/\fn<=fc)/\((∀x∈cl,zG x)/\cn<=3/\cn<=cc)/\((∀x∈tl,jF x)/\tn<=3/\tn<=tc))/\rR rl el fl cl tl=0)/\(SlT kU 7 219 w' rA rn rl/\SlT qO 4 254 w' eA en el/\SlT nD 3 258 w' fA fn fl/\SlT nS 6 260 w' cA cn cl/\SlT jU 4 263 w' tA tn tl/\Ons tl w')/\eU 25 w' B sb (m+6000)/\w.grownBy w' (some sb)):=by
 refine cS ⟨16,w,(some sb), [219,254,258,260,263,3]⟩ func26 U ntmps26 U (bF4 (X:= []) hS cX cY) (bR (dL eY6 U fun g1=>bQ (bH (bR (bP U (bQ (bO ?_)))))))
 refine dX (γ:=Nat) (fun (i:Nat)=>i<=8) (fun (i:Nat)=> [(0,.pointer (some ⟨sb,0,none⟩)),(2,.pointer (some ⟨g1,0,none⟩)),(4,.int .i64 ((i:Nat):Int))]) (fun (i:Nat)=>fun w=>eU 25 w B sb (m+710 *i)) (fun (i:Nat)=> [(g1,38, [.slice none 0 0,.slice none 0 0,.slice none 0 0,.slice none 0 0,.slice none 0 0])]) (fun (i:Nat)=> []) (fun (i:Nat)=> []) (fun (i:Nat)=>8 - i) 0 (Nat.zero_le _) ⟨U,U,U,trivial⟩ (fun _ hm=>(hm.more U (by first|omega|(dsimp only;omega))).pick [0] [] [] U U) ?_
 intro i cB
 replace cB:i<=8:=cB
 refine bR (bB (dE U U) U (bQ (bH ?_)))
 refine cC U (fun hi=>?_) (fun hi=>?_)
 ·refine bN (bD (bH (bO (bR (bP U ?_)))))
  refine nQ (γ:=List Rt×Option Addr×Nat×Nat×List Ex×Option Addr×Nat×Nat×List Fe×Option Addr×Nat×Nat×List Cd×Option Addr×Nat×Nat×List Tx×Option Addr×Nat×Nat) (val:=(fun g=> .agg #[.slice g.2.1 g.2.2.1 g.2.2.2.1,.slice g.2.2.2.2.2.1 g.2.2.2.2.2.2.1 g.2.2.2.2.2.2.2.1,.slice g.2.2.2.2.2.2.2.2.2.1 g.2.2.2.2.2.2.2.2.2.2.1 g.2.2.2.2.2.2.2.2.2.2.2.1,.slice g.2.2.2.2.2.2.2.2.2.2.2.2.2.1 g.2.2.2.2.2.2.2.2.2.2.2.2.2.2.1 g.2.2.2.2.2.2.2.2.2.2.2.2.2.2.2.1,.slice g.2.2.2.2.2.2.2.2.2.2.2.2.2.2.2.2.2.1 g.2.2.2.2.2.2.2.2.2.2.2.2.2.2.2.2.2.2.1 g.2.2.2.2.2.2.2.2.2.2.2.2.2.2.2.2.2.2.2])) (φ:=(fun g=>((∀x∈g.1,RtG x)/\g.2.2.1<=10/\g.2.2.1<=g.2.2.2.1)/\((∀x∈g.2.2.2.2.1,bD5 x)/\g.2.2.2.2.2.2.1<=2/\g.2.2.2.2.2.2.1<=g.2.2.2.2.2.2.2.1)/\((∀x∈g.2.2.2.2.2.2.2.2.1,bU1 x)/\g.2.2.2.2.2.2.2.2.2.2.1<=5/\g.2.2.2.2.2.2.2.2.2.2.1<=g.2.2.2.2.2.2.2.2.2.2.2.1)/\((∀x∈g.2.2.2.2.2.2.2.2.2.2.2.2.1,zG x)/\g.2.2.2.2.2.2.2.2.2.2.2.2.2.2.1<=3/\g.2.2.2.2.2.2.2.2.2.2.2.2.2.2.1<=g.2.2.2.2.2.2.2.2.2.2.2.2.2.2.2.1)/\((∀x∈g.2.2.2.2.2.2.2.2.2.2.2.2.2.2.2.2.1,jF x)/\g.2.2.2.2.2.2.2.2.2.2.2.2.2.2.2.2.2.2.1<=3/\g.2.2.2.2.2.2.2.2.2.2.2.2.2.2.2.2.2.2.1<=g.2.2.2.2.2.2.2.2.2.2.2.2.2.2.2.2.2.2.2))) (Y:=(fun g=>fun wy=>SlT kU 7 219 wy g.2.1 g.2.2.1 g.1/\SlT qO 4 254 wy g.2.2.2.2.2.1 g.2.2.2.2.2.2.1 g.2.2.2.2.1/\SlT nD 3 258 wy g.2.2.2.2.2.2.2.2.2.1 g.2.2.2.2.2.2.2.2.2.2.1 g.2.2.2.2.2.2.2.2.1/\SlT nS 6 260 wy g.2.2.2.2.2.2.2.2.2.2.2.2.2.1 g.2.2.2.2.2.2.2.2.2.2.2.2.2.2.1 g.2.2.2.2.2.2.2.2.2.2.2.2.1/\SlT jU 4 263 wy g.2.2.2.2.2.2.2.2.2.2.2.2.2.2.2.2.2.1 g.2.2.2.2.2.2.2.2.2.2.2.2.2.2.2.2.2.2.1 g.2.2.2.2.2.2.2.2.2.2.2.2.2.2.2.2.1/\Ons g.2.2.2.2.2.2.2.2.2.2.2.2.2.2.2.2.1 wy)) (m':=m+710 *i+710) U fM2 U U U U (fun wx hm=>(cG6 wx B sb _ hm.k (by omega)).mono fun _ _ ⟨rA,rn,rc,rl,eA,en,ec,el,fA,fn,fc,fl,cA,cn,cc,cl,tA,tn,tc,tl,he,hq,hs,hS,hg⟩=>⟨(rl,rA,rn,rc,el,eA,en,ec,fl,fA,fn,fc,cl,cA,cn,cc,tl,tA,tn,tc),he,hq,hS,hg,hs⟩) (fun _=>(SlT.lasts2 U).and_ ((SlT.lasts2 U).and_ ((SlT.lasts2 U).and_ ((SlT.lasts2 U).and_ ((SlT.lasts2 U).and_ (Ons.lasts U)))))) ?_
  rintro ⟨rl,rA,rn,rc,el,eA,en,ec,fl,fA,fn,fc,cl,cA,cn,cc,tl,tA,tn,tc⟩ hT
  dsimp only at hT ⊢
  have hT0:=hT
  obtain ⟨⟨hrg,hrn0,hrc⟩,⟨heo,hen0,hec⟩,⟨hfo,hfn0,hfc⟩,⟨hco,hcn0,hcc⟩,⟨hto,htn,htc⟩⟩:=hT
  have hro:∀x∈rl,cW0 x:=fY0 hrg
  obtain ⟨TE,hTE⟩:∃E,E=rR rl el fl cl tl:=⟨_,rfl⟩
  refine dL eY6 U fun g2=>kE (cs':= [.slice rA rn rc,.slice eA en ec,.slice fA fn fc,.slice cA cn cc,.slice tA tn tc]) 0 cM1 U U U U (bQ (bR (bB (cU cM1 U (fun _ hm=>hm.blkI 0 U) U U) U (cH (v:= .int .i64 TE) U fN2 U U (fun wx hm=>(by rw [hTE];exact bW7 rl rA rn rc el eA en ec fl fA fn fc cl cA cn cc tl tA tn tc wx (hm.fact 0 rfl).1 (hm.fact 0 rfl).2.1 (hm.fact 0 rfl).2.2.1 (hm.fact 0 rfl).2.2.2.1 (hm.fact 0 rfl).2.2.2.2.1 (hm.fact 0 rfl).2.2.2.2.2 hro heo hfo hco hto (by omega) (by omega) (by omega) (by omega) htn htc)) (bB (eL U U) U (bQ ?_))))))
  refine cC U (fun h0=>?_) (fun h0=>?_)
  ·refine bR ?_
   refine bB (cU cM1 U (fun _ hm=>hm.blkI 0 U) U U) U (kE (cs':= [.slice rA rn rc,.slice eA en ec,.slice fA fn fc,.slice cA cn cc,.slice tA tn tc]) 1 cM1 U U U U (bQ (bM (bC (bA (bA (bC (bA ?_))))))))
   refine bE8 1 U cM1 U U U fun wx hm=>?_
   exact ⟨rA,rn,rc,rl,eA,en,ec,el,fA,fn,fc,fl,cA,cn,cc,cl,tA,tn,tc,tl,U,⟨hT0,hTE.symm.trans (by simpa using h0)⟩,(hm.fact 0 U),hm.k.more (by omega),hm.g⟩
  refine bN (bG (bD (bI (gO U U (bP U (bE ?_))))))
  exact cN (i+1) (by omega) (by omega) ⟨U,U,(cR (by omega)),trivial⟩ (fun _ hm=>(hm.more U (by first|omega|(dsimp only;omega))).pick [1] [] [] U U)
 refine dD (bF (bF (bY (bD (bR (bP U ?_))))))
 refine nQ (γ:=Option Addr×Nat×Nat×List Rt) (val:=(fun g=> .slice g.1 g.2.1 g.2.2.1)) (φ:=(fun g=>(∀x∈g.2.2.2,RtG x)/\g.2.1<=9/\g.2.1<=g.2.2.1/\pL g.2.2.2=0)) (Y:=(fun g=>fun wy=>SlT kU 7 219 wy g.1 g.2.1 g.2.2.2)) (m':=m+710 *i+120) U eN9 U U U U (fun wx hm=>(bF2 wx B sb _ hm.k (by omega)).mono fun _ _ ⟨A,n,c0,l,he,ho,hok,hl,hn,hrz,hS,hg⟩=>⟨(A,n,c0,l),he,⟨eI4 hok,hn,jA ho,hrz⟩,hS,hg,SlT.ofOwn uT ho hl⟩) (fun _=>SlT.lasts2 U) ?_
 rintro ⟨rA,rn,rc,rl⟩ hR
 dsimp only at hR ⊢
 obtain ⟨hrg,hrn,hrc,hrz⟩:=hR
 refine bB (dJ (cs:= [.slice rA rn rc,.slice none 0 0,.slice none 0 0,.slice none 0 0,.slice none 0 0]) U (by kernel_rfl)) U (kE (cs':= [.slice rA rn rc,.slice none 0 0,.slice none 0 0,.slice none 0 0,.slice none 0 0]) 0 cM1 U U U U (bQ (bM ?_)))
 refine bE8 0 U cM1 U U U fun wx hm=>?_
 exact ⟨rA,rn,rc,rl,none,0,0, [],none,0,0, [],none,0,0, [],none,0,0, [],U,⟨⟨⟨hrg,by omega,hrc⟩,⟨(fun _ h=>by cases h),Nat.zero_le _,Nat.zero_le _⟩,⟨(fun _ h=>by cases h),Nat.zero_le _,Nat.zero_le _⟩,⟨(fun _ h=>by cases h),Nat.zero_le _,Nat.zero_le _⟩,⟨(fun _ h=>by cases h),Nat.zero_le _,Nat.zero_le _⟩⟩,cZ4 hrz⟩,⟨(hm.fact 0 U),SlT.nil_ _ _,SlT.nil_ _ _,SlT.nil_ _ _,SlT.nil_ _ _,(fun _ h=>by cases h)⟩,hm.k.more (by omega),hm.g⟩
theorem nL:(prog.info? 40).map (·.size)=some 7:=by kernel_rfl
theorem dQ6 (w:World) (B sb m:Nat) (hS:eU 25 w B sb m) (hm:m<=100000000000):
 Calls prog 65 #[.pointer (some ⟨sb,0,none⟩)] w (fun e w'=>∃d:Dl,e=.returned (.agg (wB d).toArray)/\eU 25 w' B sb (m+40)/\w.grownBy w' (some sb)):=by
 have hlt:=hS.lt
 go_enter func65,ntmps65
 go_wp2_with fail
 have hS0:=hS.alloc (.cells #[.int .i64 0,.int .i64 0,.int .i64 0,.int .i64 0,.int .i64 0,.int .i64 0,.int .i64 0] 40)
 have hb0:Blk (w.alloc (.cells #[.int .i64 0,.int .i64 0,.int .i64 0,.int .i64 0,.int .i64 0,.int .i64 0,.int .i64 0] 40)) w.heap.size 40 [.int .i64 0,.int .i64 0,.int .i64 0,.int .i64 0,.int .i64 0,.int .i64 0,.int .i64 0]:=Blk.at_ w rfl _ _
 have vF:w.grownBy (w.alloc (.cells #[.int .i64 0,.int .i64 0,.int .i64 0,.int .i64 0,.int .i64 0,.int .i64 0,.int .i64 0] 40)) (some sb):=grow_alloc (World.grownBy.refl _ _) _
 have hne:some w.heap.size≠some sb:=fun h=>absurd (Option.some.inj h) (by omega)
 have hs1:=hS0.lt
 refine (eT [0,100,200,10000] _ _ _ _ B sb _ (hS0.alloc _) (by omega) (by simp) (by simp) (Blk.at_ _ (by simp) _ _) (by omega)).mono ?_
 rintro e w1 ⟨v1,hv1,rfl,hS1,hg1'⟩
 have hb1:=(hb0.alloc _).grown hg1' hne
 have hg1:=grow_trans (grow_alloc vF _) hg1'
 clear hS0 hb0 vF hg1' hs1 hv1
 go_wp2_with fail
 have hs2:=hS1.lt
 refine (eT [0,2,30] _ _ _ _ B sb _ (hS1.alloc _) (by omega) (by simp) (by simp) (Blk.at_ _ U _ _) (by omega)).mono ?_
 rintro e w2 ⟨v2,zJ,rfl,hS2,hg2'⟩
 have hb2:=(hb1.alloc _).grown hg2' hne
 have hg2:=grow_trans (grow_alloc hg1 _) hg2'
 clear hS1 hb1 hg1 hg2' hs2 zJ
 go_wp2_with fail
 have hs3:=hS2.lt
 refine (eT [0,300,1000] _ _ _ _ B sb _ (hS2.alloc _) (by omega) (by simp) (by simp) (Blk.at_ _ U _ _) (by omega)).mono ?_
 rintro e w3 ⟨v3,hv3,rfl,hS3,hg3'⟩
 have hb3:=(hb2.alloc _).grown hg3' hne
 have hg3:=grow_trans (grow_alloc hg2 _) hg3'
 clear hS2 hb2 hg2 hg3' hs3 hv3
 go_wp2_with fail
 have hs4:=hS3.lt
 refine (eT [0,29,30,59,60] _ _ _ _ B sb _ (hS3.alloc _) (by omega) (by simp) (by simp) (Blk.at_ _ U _ _) (by omega)).mono ?_
 rintro e w4 ⟨v4,hv4,rfl,hS4,hg4'⟩
 have hb4:=(hb3.alloc _).grown hg4' hne
 have hg4:=grow_trans (grow_alloc hg3 _) hg4'
 clear hS3 hb3 hg3 hg4' hs4 hv4
 go_wp2_with fail
 have hs5:=hS4.lt
 refine (eT [0,500,1000,2000] _ _ _ _ B sb _ (hS4.alloc _) (by omega) (by simp) (by simp) (Blk.at_ _ U _ _) (by omega)).mono ?_
 rintro e w5 ⟨v5,hv5,rfl,hS5,hg5'⟩
 have hb5:=(hb4.alloc _).grown hg5' hne
 have hg5:=grow_trans (grow_alloc hg4 _) hg5'
 clear hS4 hb4 hg4 hg5' hs5 hv5
 go_wp2_with fail
 have hs6:=hS5.lt
 refine (eT [0,4000,5000,9000] _ _ _ _ B sb _ (hS5.alloc _) (by omega) (by simp) (by simp) (Blk.at_ _ U _ _) (by omega)).mono ?_
 rintro e w6 ⟨v6,hv6,rfl,hS6,hg6'⟩
 have hb6:=(hb5.alloc _).grown hg6' hne
 have hg6:=grow_trans (grow_alloc hg5 _) hg6'
 clear hS5 hb5 hg5 hg6' hs6 hv6
 go_wp2_with fail
 have hs7:=hS6.lt
 refine (eT [0,10000,1000000] _ _ _ _ B sb _ (hS6.alloc _) (by omega) (by simp) (by simp) (Blk.at_ _ U _ _) (by omega)).mono ?_
 rintro e w7 ⟨v7,hv7,rfl,hS7,hg7'⟩
 have hb7:=(hb6.alloc _).grown hg7' hne
 have hg7:=grow_trans (grow_alloc hg6 _) hg7'
 clear hS6 hb6 hg6 hg7' hs7 hv7
 go_wp2_with fail
 have hs8:=hS7.lt
 have hbD:=Blk.at_ w7 rfl 40 [.int .i64 v1,.int .i64 v2,.int .i64 v3,.int .i64 v4,.int .i64 v5,.int .i64 v6,.int .i64 v7]
 have hbR:=hb7.alloc (.cells #[.int .i64 v1,.int .i64 v2,.int .i64 v3,.int .i64 v4,.int .i64 v5,.int .i64 v6,.int .i64 v7] 40)
 have hS7':=hS7.alloc (.cells #[.int .i64 v1,.int .i64 v2,.int .i64 v3,.int .i64 v4,.int .i64 v5,.int .i64 v6,.int .i64 v7] 40)
 have hg7':=grow_alloc hg7 (.cells #[.int .i64 v1,.int .i64 v2,.int .i64 v3,.int .i64 v4,.int .i64 v5,.int .i64 v6,.int .i64 v7] 40)
 refine (jY 15 _ B sb _ hS7' (by omega) (by omega) (by omega)).mono ?_
 rintro e w8 ⟨fl,rfl,hS8,hg8⟩
 have hneD:some w7.heap.size≠some sb:=fun h=>absurd (Option.some.inj h) (by omega)
 have hD8:=hbD.grown hg8 hneD
 have hR8:=hbR.grown hg8 hne
 have hw8:=grow_trans hg7' hg8
 have hsz:w.heap.size < w7.heap.size:=hb7.lt
 clear hS7 hS7' hbD hbR hb7 hg7 hg7' hg8
 cases fl
 ·go_wp2_with (first
   |(with_reducible refine wpList_load_all rfl 40 (.tmp 3) rfl w7.heap.size _ _ _ hD8 rfl Tryz.underlying40 rfl 7 nL rfl ?_)
   |(with_reducible refine wpList_store_all rfl 40 (.tmp 2) (.tmp 40) rfl w.heap.size _ _ [.int .i64 v1,.int .i64 v2,.int .i64 v3,.int .i64 v4,.int .i64 v5,.int .i64 v6,.int .i64 v7] hR8 rfl rfl 7 nL rfl rfl (by simp [Value.oneCell']) ?_;intro w9 hR9 hg9))
  refine bK4 (p:=2) (ty:=40) U w.heap.size _ _ _ hR9 U Tryz.underlying40 U 7 nL U U ?_
  exact ⟨⟨v1,v2,v3,v4,v5,v6,v7⟩,U,(hS8.grown hg9 (fun k h=>by cases h;omega)).more (by omega),grow_own hw8 hg9 (fun k h=>by cases h;omega)⟩
 ·go_wp2_with fail
  refine (mF 0 10000 _ B sb _ hS8 (by omega) (by omega) (by omega) (by omega)).mono ?_
  rintro e w9 ⟨o1,ho1,rfl,hS9,hg9⟩
  go_wp2_with fail
  refine (mF 0 1440 _ B sb _ hS9 (by omega) (by omega) (by omega) (by omega)).mono ?_
  rintro e w10 ⟨o2,ho2,rfl,hS10,hg10⟩
  go_wp2_with fail
  refine (mF 0 1000000 _ B sb _ hS10 (by omega) (by omega) (by omega) (by omega)).mono ?_
  rintro e w11 ⟨o3,ho3,rfl,hS11,hg11⟩
  go_wp2_with fail
  refine (mF 0 1000000 _ B sb _ hS11 (by omega) (by omega) (by omega) (by omega)).mono ?_
  rintro e w12 ⟨o4,ho4,rfl,hS12,hg12⟩
  have hga:=grow_trans (grow_trans (grow_trans hg9 hg10) hg11) hg12
  have hD12:=hD8.grown hga hneD
  have hR12:=hR8.grown hga hne
  have hw12:=grow_trans hw8 hga
  have c0:=hD12.cell_of (i:=0) (v:= .int .i64 v1) rfl
  have c3:=hD12.cell_of (i:=3) (v:= .int .i64 v4) rfl
  have c4:=hD12.cell_of (i:=4) (v:= .int .i64 v5) rfl
  have c6:=hD12.cell_of (i:=6) (v:= .int .i64 v7) rfl
  have f0:=hD12.frozen 0
  have f3:=hD12.frozen 3
  have f4:=hD12.frozen 4
  have f6:=hD12.frozen 6
  have hDS:Blk ((((w12.setCell ⟨w7.heap.size,0,none⟩ (.int .i64 o1)).setCell ⟨w7.heap.size,3,none⟩ (.int .i64 o2)).setCell ⟨w7.heap.size,4,none⟩ (.int .i64 o3)).setCell ⟨w7.heap.size,6,none⟩ (.int .i64 o4)) w7.heap.size 40 [.int .i64 o1,.int .i64 v2,.int .i64 v3,.int .i64 o2,.int .i64 o3,.int .i64 v6,.int .i64 o4]:=(((hD12.set_ 0 _).set_ 3 _).set_ 4 _).set_ 6 _
  have hRS:Blk ((((w12.setCell ⟨w7.heap.size,0,none⟩ (.int .i64 o1)).setCell ⟨w7.heap.size,3,none⟩ (.int .i64 o2)).setCell ⟨w7.heap.size,4,none⟩ (.int .i64 o3)).setCell ⟨w7.heap.size,6,none⟩ (.int .i64 o4)) w.heap.size 40 [.int .i64 0,.int .i64 0,.int .i64 0,.int .i64 0,.int .i64 0,.int .i64 0,.int .i64 0]:=(((hR12.far (by simp;omega) _).far (by simp;omega) _).far (by simp;omega) _).far (by simp;omega) _
  have hSS:eU 25 ((((w12.setCell ⟨w7.heap.size,0,none⟩ (.int .i64 o1)).setCell ⟨w7.heap.size,3,none⟩ (.int .i64 o2)).setCell ⟨w7.heap.size,4,none⟩ (.int .i64 o3)).setCell ⟨w7.heap.size,6,none⟩ (.int .i64 o4)) B sb _:=(((hS12.setCell (by simp;omega) _).setCell (by simp;omega) _).setCell (by simp;omega) _).setCell (by simp;omega) _
  have hwS:w.grownBy ((((w12.setCell ⟨w7.heap.size,0,none⟩ (.int .i64 o1)).setCell ⟨w7.heap.size,3,none⟩ (.int .i64 o2)).setCell ⟨w7.heap.size,4,none⟩ (.int .i64 o3)).setCell ⟨w7.heap.size,6,none⟩ (.int .i64 o4)) (some sb):=grow_setCell (grow_setCell (grow_setCell (grow_setCell hw12 (.inr (by simp;omega)) _) (.inr (by simp;omega)) _) (.inr (by simp;omega)) _) (.inr (by simp;omega)) _
  clear hD8 hR8 hw8 hS8 hS9 hS10 hS11 hS12 hg9 hg10 hg11 hg12 hga hR12 hw12 ho1 ho2 ho3 ho4
  go_wp2_with (first
   |(with_reducible refine wpList_load_all rfl 40 (.tmp 3) rfl w7.heap.size _ _ _ hDS rfl Tryz.underlying40 rfl 7 nL rfl ?_)
   |(with_reducible refine wpList_store_all rfl 40 (.tmp 2) (.tmp 40) rfl w.heap.size _ _ [.int .i64 o1,.int .i64 v2,.int .i64 v3,.int .i64 o2,.int .i64 o3,.int .i64 v6,.int .i64 o4] hRS rfl rfl 7 nL rfl rfl (by simp [Value.oneCell']) ?_;intro w9 hR9 hg9))
  refine bK4 (p:=2) (ty:=40) U w.heap.size _ _ _ hR9 U Tryz.underlying40 U 7 nL U U ?_
  exact ⟨⟨o1,v2,v3,o2,o3,v6,o4⟩,U,(hSS.grown hg9 (fun k h=>by cases h;omega)).more (by omega),grow_own hwS hg9 (fun k h=>by cases h;omega)⟩
theorem bY8 (d:Dl):(wB d).length=7:=rfl
theorem dT6 (d:Dl):∀v∈wB d,v.oneCell'=true:=cO6 _
theorem cL1 (w:World) (B sb m:Nat) (hS:eU 25 w B sb m) (hm:m<=10000000000):
 Calls prog 27 #[.pointer (some ⟨sb,0,none⟩)] w (fun e w'=>∃d:Dl,wA d=0/\e=.returned (.agg (wB d).toArray)/\eU 25 w' B sb (m+400)/\w.grownBy w' (some sb)):=by
 have hlt:=hS.lt
 go_enter func27,ntmps27
 go_wp2_with fail
 go_loopw [4] (fun i wr=>∃k:Nat,k<=8/\i= .int .i64 k/\eU 25 wr B sb (m+40 *k)/\w.grownBy wr (some sb)/\Blk wr w.heap.size 40 [.int .i64 0,.int .i64 0,.int .i64 0,.int .i64 0,.int .i64 0,.int .i64 0,.int .i64 0]) (fun i _=>8 - (intOf i).toNat)
 case atStart=>exact ⟨0,by omega,rfl,hS.alloc _,grow_alloc (World.grownBy.refl _ _) _,Blk.at_ w rfl _ _⟩
 case round=>
  obtain ⟨k,hk,rfl,hSr,hgr,hbr⟩:=hrel
  have hne:some w.heap.size≠some sb:=fun h=>absurd (Option.some.inj h) (by omega)
  clear hS
  by_cases hk8:k < 8
  ·go_wp2_with fail
   refine (dQ6 _ B sb _ hSr (by omega)).mono ?_
   rintro e w1 ⟨d,rfl,hS1,hg1⟩
   have hb1:=hbr.grown hg1 hne
   have hw1:=grow_trans hgr hg1
   have hl1:=hS1.lt
   have hsz:=hb1.lt
   clear hSr hbr hgr hg1
   have hnew:Blk (w1.alloc (.cells #[.int .i64 0,.int .i64 0,.int .i64 0,.int .i64 0,.int .i64 0,.int .i64 0,.int .i64 0] 40)) w1.heap.size 40 [.int .i64 0,.int .i64 0,.int .i64 0,.int .i64 0,.int .i64 0,.int .i64 0,.int .i64 0]:=Blk.at_ w1 rfl _ _
   go_wp2_with (first
    |(with_reducible refine wpList_store_all rfl 40 (.tmp 3) (.tmp 7) rfl w1.heap.size _ _ (wB d) hnew rfl rfl 7 nL (bY8 d) rfl (dT6 d) ?_;intro w2 hb2 hg2)
    |(with_reducible refine wpList_load_all rfl 40 (.tmp 3) rfl w1.heap.size _ _ _ hb2 rfl Tryz.underlying40 rfl 7 nL (bY8 d) ?_))
   have hS2:=(hS1.alloc (.cells #[.int .i64 0,.int .i64 0,.int .i64 0,.int .i64 0,.int .i64 0,.int .i64 0,.int .i64 0] 40)).grown hg2 (fun k h=>by cases h;omega)
   have hw2:w.grownBy w2 (some sb):=grow_own (grow_alloc hw1 _) hg2 (fun k h=>by cases h;omega)
   have hbr2:=(hb1.alloc (.cells #[.int .i64 0,.int .i64 0,.int .i64 0,.int .i64 0,.int .i64 0,.int .i64 0,.int .i64 0] 40)).grown hg2 (fun h=>absurd (Option.some.inj h) (by omega))
   refine (cC1 d w2).mono ?_
   rintro e w3 ⟨rfl,hg3⟩
   have hS3:=hS2.grown hg3 (fun k h=>by cases h)
   have hw3:=grow_trans hw2 (bQ5 hg3)
   have hbr3:=hbr2.grown hg3 (by simp)
   have hb3:=hb2.grown hg3 (by simp)
   clear hS1 hS2 hw1 hw2 hb1 hb2 hbr2 hnew hg2 hg3
   obtain ⟨E,hE⟩:∃E,E=wA d:=⟨_,rfl⟩
   rw [<-hE]
   have HE:=Lib.hid hE
   clear hE
   by_cases h0:E=0
   ·have H0:=Lib.hid (HE.out.symm.trans h0)
    subst h0
    go_wp2_with (first
     |(with_reducible refine wpList_load_all rfl 40 (.tmp 3) rfl w1.heap.size _ _ _ hb3 rfl Tryz.underlying40 rfl 7 nL (bY8 d) ?_)
     |(with_reducible refine wpList_store_all rfl 40 (.tmp 2) (.tmp 11) rfl w.heap.size _ _ (wB d) hbr3 rfl rfl 7 nL (bY8 d) rfl (dT6 d) ?_;intro w4 hb4 hg4))
    refine bK4 (p:=2) (ty:=40) U w.heap.size _ _ _ hb4 U Tryz.underlying40 U 7 nL (bY8 d) U ?_
    exact ⟨d,H0.out,U,(hS3.grown hg4 (fun k h=>by cases h;omega)).more (by omega),grow_own hw3 hg4 (fun k h=>by cases h;omega)⟩
   ·have hq:(E==0)=false:=by simpa using h0
    clear h0
    go_wp2_with fail
    go_roundw
    case rel=>exact ⟨k+1,by omega,by go_num,hS3.more (by omega),hw3,hbr3⟩
    case measure=>simp [intOf];omega
  ·go_wp2_with (with_reducible refine wpList_store_all rfl 40 (.tmp 2) (.tmp 13) rfl w.heap.size _ _ [.int .i64 0,.int .i64 0,.int .i64 0,.int .i64 0,.int .i64 0,.int .i64 0,.int .i64 0] hbr rfl rfl 7 nL rfl rfl (by simp [Value.oneCell']) ?_;intro w4 hb4 hg4)
   refine bK4 (p:=2) (ty:=40) U w.heap.size _ _ _ hb4 U Tryz.underlying40 U 7 nL U U ?_
   exact ⟨⟨0,0,0,0,0,0,0⟩,by kernel_rfl,rfl,(hSr.grown hg4 (fun k h=>by cases h;omega)).more (by omega),grow_own hgr hg4 (fun k h=>by cases h;omega)⟩
theorem Lasts2.ex {N:Nat} {row:Option Nat} {Tt:List TypeId} {γ:Type} {Y:γ->World->Prop} (h:∀g,Lasts2 N row Tt (Y g)):Lasts2 N row Tt (fun w=>∃g,Y g w):=
 ⟨fun w w' a ⟨g,x⟩=>⟨g,(h g).gr w w' a x⟩,fun w w' r T c a b d e ⟨g,x⟩=>⟨g,(h g).st w w' r T c a b d e x⟩⟩
theorem Lasts2.pure {N:Nat} {row:Option Nat} {Tt:List TypeId} {P:Prop}:Lasts2 N row Tt (fun _=>P):=⟨fun _ _ _ h=>h,fun _ _ _ _ _ _ _ _ _ h=>h⟩
def bI7 (u4 u5 u6 u7 u8 u9 jI jJ jK jL jM jN:Value) (w:World):Prop:=∃(yJ:Option Addr) (ran rac:Nat) (ral:List Rt) (yK:Option Addr) (wP rbc:Nat) (rbl:List Ex) (yL:Option Addr) (wQ rcc:Nat) (rcl:List Fe) (yM:Option Addr) (wR rdc:Nat) (rdl:List Cd) (yN:Option Addr) (ren rec:Nat) (rel:List Tx) (da db dc dd de df dg:Int),(u4= .slice yJ ran rac/\u5= .slice yK wP rbc/\u6= .slice yL wQ rcc/\u7= .slice yM wR rdc/\u8= .slice yN ren rec/\u9= .int .i64 da/\jI= .int .i64 db/\jJ= .int .i64 dc/\jK= .int .i64 dd/\jL= .int .i64 de/\jM= .int .i64 df/\jN= .int .i64 dg)/\(((∀x∈ral,cW0 x)/\ran<=1000)/\((∀x∈rbl,bD5 x)/\wP<=1000)/\((∀x∈rcl,bU1 x)/\wQ<=1000)/\((∀x∈rdl,zG x)/\wR<=1000)/\((∀x∈rel,jF x)/\ren<=3)/\ren<=rec)/\(rR ral rbl rcl rdl rel=0/\wA ⟨da,db,dc,dd,de,df,dg⟩=0)/\SlT kU 7 219 w yJ ran ral/\SlT qO 4 254 w yK wP rbl/\SlT nD 3 258 w yL wQ rcl/\SlT nS 6 260 w yM wR rdl/\SlT jU 4 263 w yN ren rel/\Ons rel w
theorem bI7.lasts2 {N:Nat} {row:Option Nat} {Tt:List TypeId} {u4 u5 u6 u7 u8 u9 jI jJ jK jL jM jN:Value} (hra:Tt.contains 219=true) (hrb:Tt.contains 254=true) (hrc:Tt.contains 258=true) (hrd:Tt.contains 260=true) (hre:Tt.contains 263=true) (hi:Tt.contains 3=true):Lasts2 N row Tt (bI7 u4 u5 u6 u7 u8 u9 jI jJ jK jL jM jN):=
 Lasts2.ex fun _=>Lasts2.ex fun _=>Lasts2.ex fun _=>Lasts2.ex fun _=>Lasts2.ex fun _=>Lasts2.ex fun _=>Lasts2.ex fun _=>Lasts2.ex fun _=>Lasts2.ex fun _=>Lasts2.ex fun _=>Lasts2.ex fun _=>Lasts2.ex fun _=>Lasts2.ex fun _=>Lasts2.ex fun _=>Lasts2.ex fun _=>Lasts2.ex fun _=>Lasts2.ex fun _=>Lasts2.ex fun _=>Lasts2.ex fun _=>Lasts2.ex fun _=>Lasts2.ex fun _=>Lasts2.ex fun _=>Lasts2.ex fun _=>Lasts2.ex fun _=>Lasts2.ex fun _=>Lasts2.ex fun _=>Lasts2.ex fun _=>Lasts2.pure.and_ (Lasts2.pure.and_ (Lasts2.pure.and_ ((SlT.lasts2 hra).and_ ((SlT.lasts2 hrb).and_ ((SlT.lasts2 hrc).and_ ((SlT.lasts2 hrd).and_ ((SlT.lasts2 hre).and_ ((Ons.lasts hi)))))))))
theorem cN5 (sA cA vA:Option Addr) (sn sc cn cc vn vc:Nat) (sl:List St) (cl:List Cs) (vl:List Vh) (yJ:Option Addr) (ran rac:Nat) (ral:List Rt) (yK:Option Addr) (wP rbc:Nat) (rbl:List Ex) (yL:Option Addr) (wQ rcc:Nat) (rcl:List Fe) (yM:Option Addr) (wR rdc:Nat) (rdl:List Cd) (yN:Option Addr) (ren rec:Nat) (rel:List Tx) (da db dc dd de df dg:Int) (w:World) (hs:SlT stEnc 15 99 w sA sn sl) (hc:SlT dW 2 84 w cA cn cl) (hv:SlT gW 2 57 w vA vn vl) (rS:∀x∈sl,StOk x) (bS5:∀x∈cl,rV x) (bZ1:∀x∈vl,cJ8 x) (yY:sn<=1000000) (hcn:cn<=1000000) (hvn:vn<=1000000) (hfz:mJ sl cl vl []=0) (hra:SlT kU 7 219 w yJ ran ral) (hrb:SlT qO 4 254 w yK wP rbl) (hrc:SlT nD 3 258 w yL wQ rcl) (hrd:SlT nS 6 260 w yM wR rdl) (hre:SlT jU 4 263 w yN ren rel) (hons:Ons rel w) (hra1:∀x∈ral,cW0 x) (hrb1:∀x∈rbl,bD5 x) (hrc1:∀x∈rcl,bU1 x) (hrd1:∀x∈rdl,zG x) (hre1:∀x∈rel,jF x) (hra2:ran<=1000) (hrb2:wP<=1000) (hrc2:wQ<=1000) (hrd2:wR<=1000) (hre2:ren<=3) (hre3:ren<=rec) (htz:rR ral rbl rcl rdl rel=0) (hdz:wA ⟨da,db,dc,dd,de,df,dg⟩=0):
 Calls prog 76 #[.agg #[.slice sA sn sc,.slice cA cn cc,.slice vA vn vc,.slice none 0 0,.slice yJ ran rac,.slice yK wP rbc,.slice yL wQ rcc,.slice yM wR rdc,.slice yN ren rec,.int .i64 da,.int .i64 db,.int .i64 dc,.int .i64 dd,.int .i64 de,.int .i64 df,.int .i64 dg]] w (fun e w'=>e=.returned (.int .i64 0)/\w.grownBy w' none):=by
 refine cS ⟨14,w,none, []⟩ func76 U ntmps76 U (gM (X:= [bW stEnc 15 99 w.heap.size none sA sn sl,bW dW 2 84 w.heap.size none cA cn cl,bW gW 2 57 w.heap.size none vA vn vl,bW kU 7 219 w.heap.size none yJ ran ral,bW qO 4 254 w.heap.size none yK wP rbl,bW nD 3 258 w.heap.size none yL wQ rcl,bW nS 6 260 w.heap.size none yM wR rdl,bW jU 4 263 w.heap.size none yN ren rel,mQ w.heap.size none rel]) (cF hs.old (cF hc.old (cF hv.old (cF hra.old (cF hrb.old (cF hrc.old (cF hrd.old (cF hre.old (cF hons.old cX))))))))) (cG bW.lasts (cG bW.lasts (cG bW.lasts (cG bW.lasts (cG bW.lasts (cG bW.lasts (cG bW.lasts (cG bW.lasts (cG mQ.lasts cY)))))))))) (bR (fG U U U fun g1=>bX U (bQ (bH (gd (fun wz=>Blk wz g1 42 [.slice sA sn sc,.slice cA cn cc,.slice vA vn vc,.slice none 0 0,.slice yJ ran rac,.slice yK wP rbc,.slice yL wQ rcc,.slice yM wR rdc,.slice yN ren rec,.int .i64 da,.int .i64 db,.int .i64 dc,.int .i64 dd,.int .i64 de,.int .i64 df,.int .i64 dg]/\True) mixed (fun _ hm=>⟨hm.bl 0,trivial⟩) fun z=>wq 0 U (bS bN5 U U) (wq 1 U (cU bF6 U (fun _ hm=>hm.1) U U) (wq 3 U (bS eK5 U U) (wq 4 U (cU cM1 U (fun _ hm=>hm.1) U U) (wq 6 U (bS eL5 U U) (wq 7 U (cU fA3 U (fun _ hm=>hm.1) U U) (eG 2 U (cH (v:= .int .i64 0) U eT9 U U (fun wx hm=>(by have h:=zR sl cl vl [] sA cA vA none sn sc cn cc vn vc 0 0 wx (hm.fact 0 rfl).1 (hm.fact 1 rfl).1 (hm.fact 2 rfl).1 (SlT.nil_ _ _) rS bS5 bZ1 (fun _ h=>by cases h) yY hcn hvn (by decide);rw [hfz] at h;exact h)) (bE (nw 12 223 (fun _ hm=>⟨hm.bl 0,trivial⟩) fun z=>eG 5 U (cH (v:= .int .i64 0) U eF8 U U (fun wx hm=>(by have h:=dM0 ral yJ ran rac rbl yK wP rbc rcl yL wQ rcc rdl yM wR rdc rel yN ren rec wx (hm.fact 3 rfl).1 (hm.fact 4 rfl).1 (hm.fact 5 rfl).1 (hm.fact 6 rfl).1 (hm.fact 7 rfl).1 (mQ.ons (hm.fact 8 rfl)) hra1 hrb1 hrc1 hrd1 hre1 hra2 hrb2 hrc2 hrd2 hre2 hre3;rw [htz] at h;exact h)) (bE (nw 12 255 (fun _ hm=>⟨hm.bl 0,trivial⟩) fun z=>eG 8 U (cH (v:= .int .i64 0) U eG8 U U (fun wx hm=>(by have h:=cA1 ⟨da,db,dc,dd,de,df,dg⟩ wx;rw [hdz] at h;exact h)) (bE (nw 12 511 (fun _ hm=>⟨hm.bl 0,trivial⟩) fun z=>eG 9 U (jE 48 [.int .i64 0,.int .i64 0,.int .i64 0] fun g2=>bE (nw 12 1023 (fun _ hm=>⟨hm.bl 1,trivial⟩) fun z=>eG 10 U ?_))))))))))))))))))))))
 refine cZ U wH U U (fun wx hm=>(fN [0,0,0] _ _ _ wx (hm.blkI 0 U) (by simp))) (bE (nw 12 2047 (fun _ hm=>⟨hm.bl 1,trivial⟩) fun z=>wq 11 U (cV U) (jO (bD (bM ?_)))))
 exact bJ U U fun wx hm=>⟨U,hm.g⟩
theorem bR8 (sA cA vA:Option Addr) (sn sc cn cc vn vc:Nat) (sl:List St) (cl:List Cs) (vl:List Vh) (u4 u5 u6 u7 u8 u9 jI jJ jK jL jM jN:Value) (w:World) (hs:SlT stEnc 15 99 w sA sn sl) (hc:SlT dW 2 84 w cA cn cl) (hv:SlT gW 2 57 w vA vn vl) (rS:∀x∈sl,StOk x) (bS5:∀x∈cl,rV x) (bZ1:∀x∈vl,cJ8 x) (yY:sn<=1000000) (hcn:cn<=1000000) (hvn:vn<=1000000) (hfz:mJ sl cl vl []=0) (hT:bI7 u4 u5 u6 u7 u8 u9 jI jJ jK jL jM jN w):
 Calls prog 76 #[.agg #[.slice sA sn sc,.slice cA cn cc,.slice vA vn vc,.slice none 0 0,u4,u5,u6,u7,u8,u9,jI,jJ,jK,jL,jM,jN]] w (fun e w'=>e=.returned (.int .i64 0)/\w.grownBy w' none):=by
 obtain ⟨yJ,ran,rac,ral,yK,wP,rbc,rbl,yL,wQ,rcc,rcl,yM,wR,rdc,rdl,yN,ren,rec,rel,da,db,dc,dd,de,df,dg,⟨rfl,rfl,rfl,rfl,rfl,rfl,rfl,rfl,rfl,rfl,rfl,rfl⟩,⟨⟨hra1,hra2⟩,⟨hrb1,hrb2⟩,⟨hrc1,hrc2⟩,⟨hrd1,hrd2⟩,⟨hre1,hre2⟩,hre3⟩,⟨htz,hdz⟩,hra,hrb,hrc,hrd,hre,hons⟩:=hT
 exact cN5 sA cA vA sn sc cn cc vn vc sl cl vl yJ ran rac ral yK wP rbc rbl yL wQ rcc rcl yM wR rdc rdl yN ren rec rel da db dc dd de df dg w hs hc hv rS bS5 bZ1 yY hcn hvn hfz hra hrb hrc hrd hre hons hra1 hrb1 hrc1 hrd1 hre1 hra2 hrb2 hrc2 hrd2 hre2 hre3 htz hdz
theorem zS (sA cA vA:Option Addr) (sn sc cn cc vn vc:Nat) (sl:List St) (cl:List Cs) (vl:List Vh) (u4 u5 u6 u7 u8 u9 jI jJ jK jL jM jN:Value) (w:World) (hs:SlT stEnc 15 99 w sA sn sl) (hc:SlT dW 2 84 w cA cn cl) (hv:SlT gW 2 57 w vA vn vl) (rS:∀x∈sl,StOk x) (bS5:∀x∈cl,rV x) (bZ1:∀x∈vl,cJ8 x) (yY:sn<=1000000) (hcn:cn<=1000000) (hvn:vn<=1000000) (hfz:mJ sl cl vl []=0) (hT:bI7 u4 u5 u6 u7 u8 u9 jI jJ jK jL jM jN w):∀wx,w.grownBy wx none->
 Calls prog 76 #[.agg #[.slice sA sn sc,.slice cA cn cc,.slice vA vn vc,.slice none 0 0,u4,u5,u6,u7,u8,u9,jI,jJ,jK,jL,jM,jN]] wx (fun e w'=>e=.returned (.int .i64 0)/\wx.grownBy w' none):=fun wx hg=>
 bR8 sA cA vA sn sc cn cc vn vc sl cl vl u4 u5 u6 u7 u8 u9 jI jJ jK jL jM jN wx ((SlT.lasts2 (N:=0) (row:=none) (Tt:= [99]) rfl).gr w wx hg hs) ((SlT.lasts2 (N:=0) (row:=none) (Tt:= [84]) rfl).gr w wx hg hc) ((SlT.lasts2 (N:=0) (row:=none) (Tt:= [57]) rfl).gr w wx hg hv) rS bS5 bZ1 yY hcn hvn hfz ((bI7.lasts2 (N:=0) (row:=none) (Tt:= [219,254,258,260,263,3]) rfl rfl rfl rfl rfl rfl).gr w wx hg hT)
def K3v:List ByteArray:= [⟨#[118,49]⟩,⟨#[118,50]⟩,⟨#[118,51]⟩]
def cS1:List Int:= [0,0,0,0,0,0,0,0,0,0,0,0,0,0]
def sl2:List St:= [⟨⟨#[115,49]⟩,cS1⟩,⟨⟨#[115,50]⟩,cS1⟩]
theorem bH6:∀x∈sl2,StOk x:=by
 intro x hx
 unfold sl2 cS1 at hx
 simp only [List.mem_cons,List.not_mem_nil,or_false] at hx
 rcases hx with rfl|rfl <;> exact ⟨rfl,by decide,by decide⟩
theorem dB5:stationsE sl2=0:=by decide+kernel
theorem eM6 {w:World} {g:Nat} (h:Blk w g 99 (sl2.flatMap stEnc)):SlT stEnc 15 99 w (some ⟨g,0,none⟩) 2 sl2:=
 ⟨rfl,fun _=>⟨g,0,_,_,rfl,h,fun i x hx j v hv=>by
  have h15:(stEnc ⟨⟨#[115,49]⟩,cS1⟩).length=15:=rfl
  match i with
  |0=>
   have hx:some (⟨⟨#[115,49]⟩,cS1⟩:St)=some x:=hx
   injection hx with hx
   subst hx
   have hj:=(List.getElem?_eq_some_iff.1 hv).1
   have e:((stEnc ⟨⟨#[115,49]⟩,cS1⟩)++stEnc ⟨⟨#[115,50]⟩,cS1⟩)[j]?=some v:=by rw [List.getElem?_append_left hj];exact hv
   simpa [sl2] using e
  |1=>
   have hx:some (⟨⟨#[115,50]⟩,cS1⟩:St)=some x:=hx
   injection hx with hx
   subst hx
   have e:((stEnc ⟨⟨#[115,49]⟩,cS1⟩)++stEnc ⟨⟨#[115,50]⟩,cS1⟩)[15+j]?=some v:=by rw [List.getElem?_append_right (by rw [h15];omega),h15,Nat.add_sub_cancel_left];exact hv
   simpa [sl2] using e
  |i+2=>cases hx⟩⟩
theorem cJ3 {l:List Cs} {c:ByteArray} (h:ClG l) (hc:c∈([⟨#[109,105,110,105]⟩,⟨#[109,105,110,105]⟩,⟨#[109,105,100,105]⟩]:List ByteArray)):∃(j:Nat) (q:ByteArray),l[j]?=some (⟨c,q⟩:Cs):=by
 obtain ⟨u1,u2,u3,_,_,_,rfl⟩:=h
 simp only [List.mem_cons,List.not_mem_nil,or_false] at hc
 rcases hc with rfl|rfl|rfl
 ·exact ⟨3,u3,U⟩
 ·exact ⟨3,u3,U⟩
 ·exact ⟨2,u2,U⟩
theorem fM0 {i:Nat} (h:i < 3):∃k,K3v[i]?=some k/\K4[i]?=some k/\k.size<=100:=by
 rcases (show i=0∨i=1∨i=2 by omega) with rfl|rfl|rfl
 ·exact ⟨_,U,U,by decide⟩
 ·exact ⟨_,U,U,by decide⟩
 ·exact ⟨_,U,U,by decide⟩
def Vh3 (cl:List Cs) (i:Nat) (vl:List Vh):Prop:=vl.length=i/\vl.map Vh.key=K3v.take i/\(∀x∈vl,x.key.size<=100/\x.cls.size<=100)/\VhG cl i vl
theorem eG3 {cl:List Cs}:Vh3 cl 0 []:=⟨rfl,rfl,(fun _ h=>by cases h),eJ3⟩
theorem bV4 {cl:List Cs} {i:Nat} {vl:List Vh} {k c:ByteArray} (h:Vh3 cl i vl) (hk:K3v[i]?=some k) (hk4:K4[i]?=some k) (hz:k.size<=100) (hcz:c.size<=100) (hc:∃(j:Nat) (q:ByteArray),cl[j]?=some (⟨c,q⟩:Cs)):Vh3 cl (i+1) (vl++ [⟨k,c⟩]):=by
 obtain ⟨h1,h2,h3,h4⟩:=h
 obtain ⟨j,q,hq⟩:=hc
 refine ⟨by simp [h1],?_,fun x hx=>?_,eE0 h4 hk4 hq⟩
 ·rw [List.map_append,h2,List.take_add_one,hk];rfl
 ·rcases List.mem_append.1 hx with hx|hx
  ·exact h3 x hx
  ·rw [List.mem_singleton.1 hx];exact ⟨hz,hcz⟩
theorem eS6 {cl:List Cs} {i:Nat} {vl:List Vh} (h:Vh3 cl i vl):∀x∈vl,cJ8 x:=fun x hx=>⟨by have:=(h.2.2.1 x hx).1;omega,by have:=(h.2.2.1 x hx).2;omega⟩
theorem dN5 {cl:List Cs} {vl:List Vh} (hc:jC cl=0) (h:Vh3 cl 3 vl):mJ sl2 cl vl []=0:=cB6 dB5 hc h.2.2.2 (by have:=h.1;omega)
def dY2 (u4 u5 u6 u7 u8:Value) (w:World):Prop:=∃(yJ:Option Addr) (ran rac:Nat) (ral:List Rt) (yK:Option Addr) (wP rbc:Nat) (rbl:List Ex) (yL:Option Addr) (wQ rcc:Nat) (rcl:List Fe) (yM:Option Addr) (wR rdc:Nat) (rdl:List Cd) (yN:Option Addr) (ren rec:Nat) (rel:List Tx),(u4= .slice yJ ran rac/\u5= .slice yK wP rbc/\u6= .slice yL wQ rcc/\u7= .slice yM wR rdc/\u8= .slice yN ren rec)/\(((∀x∈ral,cW0 x)/\ran<=1000)/\((∀x∈rbl,bD5 x)/\wP<=1000)/\((∀x∈rcl,bU1 x)/\wQ<=1000)/\((∀x∈rdl,zG x)/\wR<=1000)/\((∀x∈rel,jF x)/\ren<=3)/\ren<=rec)/\rR ral rbl rcl rdl rel=0/\SlT kU 7 219 w yJ ran ral/\SlT qO 4 254 w yK wP rbl/\SlT nD 3 258 w yL wQ rcl/\SlT nS 6 260 w yM wR rdl/\SlT jU 4 263 w yN ren rel/\Ons rel w
theorem dY2.lasts2 {N:Nat} {row:Option Nat} {Tt:List TypeId} {u4 u5 u6 u7 u8:Value} (hra:Tt.contains 219=true) (hrb:Tt.contains 254=true) (hrc:Tt.contains 258=true) (hrd:Tt.contains 260=true) (hre:Tt.contains 263=true) (hi:Tt.contains 3=true):Lasts2 N row Tt (dY2 u4 u5 u6 u7 u8):=
 Lasts2.ex fun _=>Lasts2.ex fun _=>Lasts2.ex fun _=>Lasts2.ex fun _=>Lasts2.ex fun _=>Lasts2.ex fun _=>Lasts2.ex fun _=>Lasts2.ex fun _=>Lasts2.ex fun _=>Lasts2.ex fun _=>Lasts2.ex fun _=>Lasts2.ex fun _=>Lasts2.ex fun _=>Lasts2.ex fun _=>Lasts2.ex fun _=>Lasts2.ex fun _=>Lasts2.ex fun _=>Lasts2.ex fun _=>Lasts2.ex fun _=>Lasts2.ex fun _=>Lasts2.pure.and_ (Lasts2.pure.and_ (Lasts2.pure.and_ ((SlT.lasts2 hra).and_ ((SlT.lasts2 hrb).and_ ((SlT.lasts2 hrc).and_ ((SlT.lasts2 hrd).and_ ((SlT.lasts2 hre).and_ ((Ons.lasts hi)))))))))
theorem eS1 {u4 u5 u6 u7 u8:Value} {da db dc dd de df dg:Int} {w:World} (hd:wA ⟨da,db,dc,dd,de,df,dg⟩=0) (h:dY2 u4 u5 u6 u7 u8 w):bI7 u4 u5 u6 u7 u8 (.int .i64 da) (.int .i64 db) (.int .i64 dc) (.int .i64 dd) (.int .i64 de) (.int .i64 df) (.int .i64 dg) w:=by
 obtain ⟨yJ,ran,rac,ral,yK,wP,rbc,rbl,yL,wQ,rcc,rcl,yM,wR,rdc,rdl,yN,ren,rec,rel,h1,h2,h3,h4⟩:=h
 exact ⟨yJ,ran,rac,ral,yK,wP,rbc,rbl,yL,wQ,rcc,rcl,yM,wR,rdc,rdl,yN,ren,rec,rel,da,db,dc,dd,de,df,dg,⟨h1.1,h1.2.1,h1.2.2.1,h1.2.2.2.1,h1.2.2.2.2,U,U,U,U,U,U,U⟩,h2,⟨h3,hd⟩,h4⟩
theorem fF0 (w:World) (B sb m:Nat) (hS:eU 25 w B sb m) (hm:m<=1000000000):
 Calls prog 26 #[.pointer (some ⟨sb,0,none⟩)] w (fun e w'=>∃g:Option Addr×Option Addr×Option Addr×Option Addr×Option Addr×Nat×Nat×Nat×Nat×Nat×Nat×Nat×Nat×Nat×Nat,e=.returned (.agg #[.slice g.1 g.2.2.2.2.2.1 g.2.2.2.2.2.2.1,.slice g.2.1 g.2.2.2.2.2.2.2.1 g.2.2.2.2.2.2.2.2.1,.slice g.2.2.1 g.2.2.2.2.2.2.2.2.2.1 g.2.2.2.2.2.2.2.2.2.2.1,.slice g.2.2.2.1 g.2.2.2.2.2.2.2.2.2.2.2.1 g.2.2.2.2.2.2.2.2.2.2.2.2.1,.slice g.2.2.2.2.1 g.2.2.2.2.2.2.2.2.2.2.2.2.2.1 g.2.2.2.2.2.2.2.2.2.2.2.2.2.2])/\True/\eU 25 w' B sb (m+6000)/\w.grownBy w' (some sb)/\dY2 (.slice g.1 g.2.2.2.2.2.1 g.2.2.2.2.2.2.1) (.slice g.2.1 g.2.2.2.2.2.2.2.1 g.2.2.2.2.2.2.2.2.1) (.slice g.2.2.1 g.2.2.2.2.2.2.2.2.2.1 g.2.2.2.2.2.2.2.2.2.2.1) (.slice g.2.2.2.1 g.2.2.2.2.2.2.2.2.2.2.2.1 g.2.2.2.2.2.2.2.2.2.2.2.2.1) (.slice g.2.2.2.2.1 g.2.2.2.2.2.2.2.2.2.2.2.2.2.1 g.2.2.2.2.2.2.2.2.2.2.2.2.2.2) w'):=
 (bI9 w B sb m hS hm).mono fun _ _ ⟨yJ,ran,rac,ral,yK,wP,rbc,rbl,yL,wQ,rcc,rcl,yM,wR,rdc,rdl,yN,ren,rec,rel,he,⟨⟨⟨hrag,hran,hrac⟩,⟨hrbg,hrbn,hrbc⟩,⟨hrcg,hrcn,hrcc⟩,⟨hrdg,hrdn,hrdc⟩,⟨hreg,hren,hrec⟩⟩,htz⟩,hs,hS,hg⟩=>⟨(yJ,yK,yL,yM,yN,ran,rac,wP,rbc,wQ,rcc,wR,rdc,ren,rec),he,trivial,hS,hg,yJ,ran,rac,ral,yK,wP,rbc,rbl,yL,wQ,rcc,rcl,yM,wR,rdc,rdl,yN,ren,rec,rel,⟨rfl,rfl,rfl,rfl,rfl⟩,⟨⟨fY0 hrag,by omega⟩,⟨hrbg,by omega⟩,⟨hrcg,by omega⟩,⟨hrdg,by omega⟩,⟨hreg,by omega⟩,hrec⟩,htz,hs⟩
theorem cI0 (w:World) (B sb m:Nat) (hS:eU 25 w B sb m) (hm:m<=100000000):
 Calls prog 6 #[.pointer (some ⟨sb,0,none⟩)] w (fun e w'=>∃(sA cA vA:Option Addr) (sc cc vc:Nat) (cl:List Cs) (vl:List Vh) (yJ yK yL yM yN:Option Addr) (ran rac wP rbc wQ rcc wR rdc ren rec:Nat) (da db dc dd de df dg:Int),e=.returned (.agg #[.slice sA 2 sc,.slice cA 4 cc,.slice vA 3 vc,.slice none 0 0,.slice yJ ran rac,.slice yK wP rbc,.slice yL wQ rcc,.slice yM wR rdc,.slice yN ren rec,.int .i64 da,.int .i64 db,.int .i64 dc,.int .i64 dd,.int .i64 de,.int .i64 df,.int .i64 dg])/\(cl.length=4/\(∀x∈cl,rV x)/\jC cl=0/\Vh3 cl 3 vl)/\SlT stEnc 15 99 w' sA 2 sl2/\SlT dW 2 84 w' cA 4 cl/\SlT gW 2 57 w' vA 3 vl/\bI7 (.slice yJ ran rac) (.slice yK wP rbc) (.slice yL wQ rcc) (.slice yM wR rdc) (.slice yN ren rec) (.int .i64 da) (.int .i64 db) (.int .i64 dc) (.int .i64 dd) (.int .i64 de) (.int .i64 df) (.int .i64 dg) w'/\eU 25 w' B sb (m+7000)/\w.grownBy w' (some sb)):=by
 refine cS ⟨35,w,(some sb), [3,84,219,254,258,260,263]⟩ func6 U ntmps6 U (bF4 (X:= []) hS cX cY) (bR (dL fH1 U fun g1=>bQ (bR (bB (dJ (cs:= [.string ⟨#[115,49]⟩,.int .i64 0,.int .i64 0,.int .i64 0,.int .i64 0,.int .i64 0,.int .i64 0,.int .i64 0,.int .i64 0,.int .i64 0,.int .i64 0,.int .i64 0,.int .i64 0,.int .i64 0,.int .i64 0]) U (by kernel_rfl)) U (bB (dJ (cs:= [.string ⟨#[115,50]⟩,.int .i64 0,.int .i64 0,.int .i64 0,.int .i64 0,.int .i64 0,.int .i64 0,.int .i64 0,.int .i64 0,.int .i64 0,.int .i64 0,.int .i64 0,.int .i64 0,.int .i64 0,.int .i64 0]) U (by kernel_rfl)) U (jE 99 [.string ⟨#[115,49]⟩,.int .i64 0,.int .i64 0,.int .i64 0,.int .i64 0,.int .i64 0,.int .i64 0,.int .i64 0,.int .i64 0,.int .i64 0,.int .i64 0,.int .i64 0,.int .i64 0,.int .i64 0,.int .i64 0,.string ⟨#[115,50]⟩,.int .i64 0,.int .i64 0,.int .i64 0,.int .i64 0,.int .i64 0,.int .i64 0,.int .i64 0,.int .i64 0,.int .i64 0,.int .i64 0,.int .i64 0,.int .i64 0,.int .i64 0,.int .i64 0] fun g2=>bP U ?_))))))
 refine nQ (γ:=Option Addr×Nat×List Cs) (val:=(fun g=> .slice g.1 4 g.2.1)) (φ:=(fun g=>g.2.2.length=4/\(∀x∈g.2.2,rV x)/\ClG g.2.2)) (Y:=(fun g=>fun wy=>SlT dW 2 84 wy g.1 4 g.2.2)) (m':=m+20) U fZ1 U U U U (fun wx hm=>(cI1 wx B sb _ hm.k (by omega)).mono fun _ _ ⟨A,c,l,he,ho,⟨hl,hz⟩,hok,hS,hg⟩=>⟨(A,c,l),he,⟨hl,hok,hz⟩,hS,hg,SlT.ofOwn cQ8 ho hl⟩) (fun _=>SlT.lasts2 U) ?_
 rintro ⟨cA,cc,cl⟩ mT
 dsimp only at mT ⊢
 obtain ⟨hcl4,bS5,hcg⟩:=mT
 refine pJ 57 2 ?_
 refine bB (dJ (cs:= [.slice (some ⟨g2,0,none⟩) 2 2,.slice cA 4 cc,.slice none 0 0,.slice none 0 0]) U (by kernel_rfl)) U (dL fB3 U fun g3=>kE (cs':= [.slice (some ⟨g2,0,none⟩) 2 2,.slice cA 4 cc,.slice none 0 0,.slice none 0 0]) 0 bF6 U U U U (bQ (bH (bR (jE 9 [.string ⟨#[118,49]⟩,.string ⟨#[118,50]⟩,.string ⟨#[118,51]⟩] fun g4=>bB (dT jX U) U (bK 13 (v':= .int .i64 3) U U (bP U (bQ (bO ?_)))))))))
 refine dX (γ:=Nat×Option Addr×Nat×List Vh) (fun g=>g.1<=3/\Vh3 cl g.1 g.2.2.2) (fun g=> [(0,.pointer (some ⟨sb,0,none⟩)),(2,.pointer (some ⟨g1,0,none⟩)),(3,.pointer (some ⟨g3,0,none⟩)),(12,.slice (some ⟨g4,0,none⟩) 3 3),(13,.int .i64 3),(14,.int .i64 ((g.1:Nat):Int))]) (fun g=>fun w=>eU 25 w B sb (m+20+g.1)) (fun g=> [(g4,9, [.string ⟨#[118,49]⟩,.string ⟨#[118,50]⟩,.string ⟨#[118,51]⟩]),(g3,31, [.slice (some ⟨g2,0,none⟩) 2 2,.slice cA 4 cc,.slice g.2.1 g.1 g.2.2.1,.slice none 0 0]),(g2,99, [.string ⟨#[115,49]⟩,.int .i64 0,.int .i64 0,.int .i64 0,.int .i64 0,.int .i64 0,.int .i64 0,.int .i64 0,.int .i64 0,.int .i64 0,.int .i64 0,.int .i64 0,.int .i64 0,.int .i64 0,.int .i64 0,.string ⟨#[115,50]⟩,.int .i64 0,.int .i64 0,.int .i64 0,.int .i64 0,.int .i64 0,.int .i64 0,.int .i64 0,.int .i64 0,.int .i64 0,.int .i64 0,.int .i64 0,.int .i64 0,.int .i64 0,.int .i64 0]),(g1,42, [.slice none 0 0,.slice none 0 0,.slice none 0 0,.slice none 0 0,.slice none 0 0,.slice none 0 0,.slice none 0 0,.slice none 0 0,.slice none 0 0,.int .i64 0,.int .i64 0,.int .i64 0,.int .i64 0,.int .i64 0,.int .i64 0,.int .i64 0])]) (fun g=> [⟨.slice g.2.1 g.1 g.2.2.1,57,2,g.1,g.2.2.2.flatMap gW⟩]) (fun g=> [fun wy=>SlT dW 2 84 wy cA 4 cl]) (fun g=>3 - g.1) (0,none,0, []) ⟨Nat.zero_le _,eG3⟩ ⟨U,U,U,U,U,U,trivial⟩ (fun _ hm=>(hm.more U (by first|omega|(dsimp only;omega))).pick [0,1,2,3] [0] [0] U U) ?_
 rintro ⟨iv,vA,vc,vl⟩ cB
 replace cB:iv<=3/\Vh3 cl iv vl:=cB
 dsimp only
 refine bR ?_
 obtain ⟨hi0,hv3⟩:=cB
 refine bB (dE U U) U (bQ (bH ?_))
 refine cC U (fun hi=>?_) (fun hi=>?_)
 ·refine bN (bD (bH (bO (bR ?_))))
  obtain ⟨nm,hx,hx4,hnz⟩:=fM0 (show iv < 3 by omega)
  refine bB (bV (j:=iv) jX U U (by omega)) U (bB (dK (k:=0) (v:= .string nm) fC U (fun _ hm=>(SlT.ofBlk (l:=K3v) yR (hm.blkI 0 U))) hx U U) U (bX U (bQ (gd (fun wz=>True) mixed (fun _ _=>trivial) fun z=>wq 0 U (bS vL U U) (wq 2 U (bL U) (wq 3 U (bL U) ?_))))))
  refine kK [1,4] (by kernel_rfl) U ⟨⟨_,U,?_⟩,⟨_,U,?_⟩,trivial⟩
  ·refine eJ bM4 1 U U U (bE ?_)
   refine nw 11 15 (fun _ _=>trivial) fun z=>eG 4 U (jE 9 [.string ⟨#[109,105,110,105]⟩,.string ⟨#[109,105,110,105]⟩,.string ⟨#[109,105,100,105]⟩] fun g5=>bE (nw 11 31 (fun _ _=>trivial) fun z=>eG 5 U (dN (γ:=ByteArray) (val:=fun v=> .string v) (φ:=fun v=>v∈([⟨#[109,105,110,105]⟩,⟨#[109,105,110,105]⟩,⟨#[109,105,100,105]⟩]:List ByteArray)) U rK U U U U (fun wx hm=>(gU [⟨#[109,105,110,105]⟩,⟨#[109,105,110,105]⟩,⟨#[109,105,100,105]⟩] _ _ _ wx B sb _ hm.k (by omega) (by simp) (by simp) (hm.blkI 0 U) (hm.neRow 0 U U))) fun s6 hs6=>?_)))
   have zs6:s6.size<=100:=kG hs6 (by decide)
   refine bE (nw 11 63 (fun _ _=>trivial) fun z=>wq 6 U (dJ (cs:= [.string nm,.string s6]) U (by kernel_rfl)) (eG 7 U (jE 57 [.string nm,.string s6] fun g7=>bE (nw 11 255 (fun _ _=>trivial) fun z=>eG 8 U (eB (news:= [.string nm,.string s6]) 0 0 eR0 U U U U U U U (by omega) (by unfold maxLen;omega) U U fun v2 zJ=>?_)))))
   refine dV (R:=∃A cc,v2= .slice A (iv+1) cc) (fun wx hm=>dR (hm.ownI 0 U)) ?_
   rintro ⟨vA2,vc2,rfl⟩
   refine bE (nw 11 511 (fun _ _=>trivial) fun z=>wq 9 U (bS vL U U) (eG 10 U (jH 3 bM4 U U U U U U (bE (nw 11 2047 (fun _ _=>trivial) fun z=>jO (bG (bD (bI (gO U U (bP U (bE ?_)))))))))))
   have xM:vl.flatMap gW++([.string nm,.string s6]:List Value)=(vl++ [(⟨nm,s6⟩:Vh)]).flatMap gW:=by simp [gW]
   rw [xM]
   exact cN (iv+1,vA2,vc2,vl++ [(⟨nm,s6⟩:Vh)]) ⟨by dsimp only;omega,bV4 hv3 hx hx4 hnz zs6 (cJ3 hcg hs6)⟩ (by dsimp only;omega) ⟨U,U,U,U,U,(cR (by omega)),trivial⟩ (fun _ hm=>(hm.more U (by first|omega|(dsimp only;omega))).pick [2,3,4,5] [0] [0] U U)
  refine jE 9 [.string ⟨#[109,105,110,105]⟩,.string ⟨#[109,105,110,105]⟩,.string ⟨#[109,105,100,105]⟩] fun g8=>bE (nw 11 29 (fun _ _=>trivial) fun z=>?_)
  refine kK [1,5] (by kernel_rfl) U ⟨⟨_,U,?_⟩,⟨_,U,?_⟩,trivial⟩
  ·refine eJ bM4 2 U U U (bE ?_)
   refine nw 11 31 (fun _ _=>trivial) fun z=>eG 5 U (dN (γ:=ByteArray) (val:=fun v=> .string v) (φ:=fun v=>v∈([⟨#[109,105,110,105]⟩,⟨#[109,105,110,105]⟩,⟨#[109,105,100,105]⟩]:List ByteArray)) U rK U U U U (fun wx hm=>(gU [⟨#[109,105,110,105]⟩,⟨#[109,105,110,105]⟩,⟨#[109,105,100,105]⟩] _ _ _ wx B sb _ hm.k (by omega) (by simp) (by simp) (hm.blkI 0 U) (hm.neRow 0 U U))) fun s9 hs9=>?_)
   have zs9:s9.size<=100:=kG hs9 (by decide)
   refine bE (nw 11 63 (fun _ _=>trivial) fun z=>wq 6 U (dJ (cs:= [.string nm,.string s9]) U (by kernel_rfl)) (eG 7 U (jE 57 [.string nm,.string s9] fun g10=>bE (nw 11 255 (fun _ _=>trivial) fun z=>eG 8 U (eB (news:= [.string nm,.string s9]) 0 0 eR0 U U U U U U U (by omega) (by unfold maxLen;omega) U U fun v2 zJ=>?_)))))
   refine dV (R:=∃A cc,v2= .slice A (iv+1) cc) (fun wx hm=>dR (hm.ownI 0 U)) ?_
   rintro ⟨vA2,vc2,rfl⟩
   refine bE (nw 11 511 (fun _ _=>trivial) fun z=>wq 9 U (bS vL U U) (eG 10 U (jH 3 bM4 U U U U U U (bE (nw 11 2047 (fun _ _=>trivial) fun z=>jO (bG (bD (bI (gO U U (bP U (bE ?_)))))))))))
   have xM:vl.flatMap gW++([.string nm,.string s9]:List Value)=(vl++ [(⟨nm,s9⟩:Vh)]).flatMap gW:=by simp [gW]
   rw [xM]
   exact cN (iv+1,vA2,vc2,vl++ [(⟨nm,s9⟩:Vh)]) ⟨by dsimp only;omega,bV4 hv3 hx hx4 hnz zs9 (cJ3 hcg hs9)⟩ (by dsimp only;omega) ⟨U,U,U,U,U,(cR (by omega)),trivial⟩ (fun _ hm=>(hm.more U (by first|omega|(dsimp only;omega))).pick [2,3,4,5] [0] [0] U U)
  refine dN (γ:=ByteArray) (val:=fun v=> .string v) (φ:=fun v=>v∈([⟨#[109,105,110,105]⟩,⟨#[109,105,110,105]⟩,⟨#[109,105,100,105]⟩]:List ByteArray)) U rK U U U U (fun wx hm=>(gU [⟨#[109,105,110,105]⟩,⟨#[109,105,110,105]⟩,⟨#[109,105,100,105]⟩] _ _ _ wx B sb _ hm.k (by omega) (by simp) (by simp) (hm.blkI 0 U) (hm.neRow 0 U U))) fun s11 hs11=>?_
  have zs11:s11.size<=100:=kG hs11 (by decide)
  refine bE (nw 11 61 (fun _ _=>trivial) fun z=>wq 6 U (dJ (cs:= [.string nm,.string s11]) U (by kernel_rfl)) ?_)
  refine kK [1,7] (by kernel_rfl) U ⟨⟨_,U,?_⟩,⟨_,U,?_⟩,trivial⟩
  ·refine eJ bM4 2 U U U (bE ?_)
   refine nw 11 127 (fun _ _=>trivial) fun z=>eG 7 U (jE 57 [.string nm,.string s11] fun g12=>bE (nw 11 255 (fun _ _=>trivial) fun z=>eG 8 U (eB (news:= [.string nm,.string s11]) 0 0 eR0 U U U U U U U (by omega) (by unfold maxLen;omega) U U fun v2 zJ=>?_)))
   refine dV (R:=∃A cc,v2= .slice A (iv+1) cc) (fun wx hm=>dR (hm.ownI 0 U)) ?_
   rintro ⟨vA2,vc2,rfl⟩
   refine bE (nw 11 511 (fun _ _=>trivial) fun z=>wq 9 U (bS vL U U) (eG 10 U (jH 3 bM4 U U U U U U (bE (nw 11 2047 (fun _ _=>trivial) fun z=>jO (bG (bD (bI (gO U U (bP U (bE ?_)))))))))))
   have xM:vl.flatMap gW++([.string nm,.string s11]:List Value)=(vl++ [(⟨nm,s11⟩:Vh)]).flatMap gW:=by simp [gW]
   rw [xM]
   exact cN (iv+1,vA2,vc2,vl++ [(⟨nm,s11⟩:Vh)]) ⟨by dsimp only;omega,bV4 hv3 hx hx4 hnz zs11 (cJ3 hcg hs11)⟩ (by dsimp only;omega) ⟨U,U,U,U,U,(cR (by omega)),trivial⟩ (fun _ hm=>(hm.more U (by first|omega|(dsimp only;omega))).pick [2,3,4,5] [0] [0] U U)
  refine jE 57 [.string nm,.string s11] fun g13=>bE (nw 11 253 (fun _ _=>trivial) fun z=>eG 1 U (eJ bM4 3 U U U (bE (nw 11 255 (fun _ _=>trivial) fun z=>eG 8 U (eB (news:= [.string nm,.string s11]) 0 0 eR0 U U U U U U U (by omega) (by unfold maxLen;omega) U U fun v2 zJ=>?_)))))
  refine dV (R:=∃A cc,v2= .slice A (iv+1) cc) (fun wx hm=>dR (hm.ownI 0 U)) ?_
  rintro ⟨vA2,vc2,rfl⟩
  refine bE (nw 11 511 (fun _ _=>trivial) fun z=>wq 9 U (bS vL U U) (eG 10 U (jH 3 bM4 U U U U U U (bE (nw 11 2047 (fun _ _=>trivial) fun z=>jO (bG (bD (bI (gO U U (bP U (bE ?_)))))))))))
  have xM:vl.flatMap gW++([.string nm,.string s11]:List Value)=(vl++ [(⟨nm,s11⟩:Vh)]).flatMap gW:=by simp [gW]
  rw [xM]
  exact cN (iv+1,vA2,vc2,vl++ [(⟨nm,s11⟩:Vh)]) ⟨by dsimp only;omega,bV4 hv3 hx hx4 hnz zs11 (cJ3 hcg hs11)⟩ (by dsimp only;omega) ⟨U,U,U,U,U,(cR (by omega)),trivial⟩ (fun _ hm=>(hm.more U (by first|omega|(dsimp only;omega))).pick [2,3,4,5] [0] [0] U U)
 refine dD (bF (bF (bY (bD (bH ?_)))))
 have hi3:iv=3:=by omega
 subst hi3
 refine gd (fun wz=>Blk wz g3 31 [.slice (some ⟨g2,0,none⟩) 2 2,.slice cA 4 cc,.slice vA 3 vc,.slice none 0 0]/\True) mixed (fun _ hm=>⟨hm.bl 1,trivial⟩) fun z=>wq 0 U (cU bF6 U (fun _ hm=>hm.1) U U) (wq 1 U (bL U) (wq 3 U (bL U) (eG 2 U ?_)))
 refine nQ (γ:=Option Addr×Option Addr×Option Addr×Option Addr×Option Addr×Nat×Nat×Nat×Nat×Nat×Nat×Nat×Nat×Nat×Nat) (val:=(fun g=> .agg #[.slice g.1 g.2.2.2.2.2.1 g.2.2.2.2.2.2.1,.slice g.2.1 g.2.2.2.2.2.2.2.1 g.2.2.2.2.2.2.2.2.1,.slice g.2.2.1 g.2.2.2.2.2.2.2.2.2.1 g.2.2.2.2.2.2.2.2.2.2.1,.slice g.2.2.2.1 g.2.2.2.2.2.2.2.2.2.2.2.1 g.2.2.2.2.2.2.2.2.2.2.2.2.1,.slice g.2.2.2.2.1 g.2.2.2.2.2.2.2.2.2.2.2.2.2.1 g.2.2.2.2.2.2.2.2.2.2.2.2.2.2])) (φ:=(fun g=>True)) (Y:=(fun g=>fun wy=>dY2 (.slice g.1 g.2.2.2.2.2.1 g.2.2.2.2.2.2.1) (.slice g.2.1 g.2.2.2.2.2.2.2.1 g.2.2.2.2.2.2.2.2.1) (.slice g.2.2.1 g.2.2.2.2.2.2.2.2.2.1 g.2.2.2.2.2.2.2.2.2.2.1) (.slice g.2.2.2.1 g.2.2.2.2.2.2.2.2.2.2.2.1 g.2.2.2.2.2.2.2.2.2.2.2.2.1) (.slice g.2.2.2.2.1 g.2.2.2.2.2.2.2.2.2.2.2.2.2.1 g.2.2.2.2.2.2.2.2.2.2.2.2.2.2) wy)) (m':=m+23+6000) U fA2 U U U U (fun wx hm=>(fF0 wx B sb _ hm.k (by omega))) (fun _=>dY2.lasts2 U U U U U U) ?_
 rintro ⟨yJ,yK,yL,yM,yN,ran,rac,wP,rbc,wQ,rcc,wR,rdc,ren,rec⟩ mT
 dsimp only
 clear mT
 refine bE (nw 7 15 (fun _ hm=>⟨hm.bl 1,trivial⟩) fun z=>eG 4 U ?_)
 refine nQ (γ:=Int×Int×Int×Int×Int×Int×Int) (val:=(fun g=> .agg #[.int .i64 g.1,.int .i64 g.2.1,.int .i64 g.2.2.1,.int .i64 g.2.2.2.1,.int .i64 g.2.2.2.2.1,.int .i64 g.2.2.2.2.2.1,.int .i64 g.2.2.2.2.2.2])) (φ:=(fun g=>wA ⟨g.1,g.2.1,g.2.2.1,g.2.2.2.1,g.2.2.2.2.1,g.2.2.2.2.2.1,g.2.2.2.2.2.2⟩=0)) (Y:=(fun g=>fun _=>True)) (m':=m+23+6000+400) U fB2 U U U U (fun wx hm=>(cL1 wx B sb _ hm.k (by omega)).mono fun _ _ ⟨d,hd,he,hS,hg⟩=>⟨(d.free,d.km,d.eighth,d.grace,d.hour,d.day,d.deposit),he,hd,hS,hg,trivial⟩) (fun _=>Lasts2.true_) ?_
 rintro ⟨da,db,dc,dd,de,df,dg⟩ hdz
 dsimp only at hdz ⊢
 refine bE (nw 7 31 (fun _ hm=>⟨hm.bl 1,trivial⟩) fun z=>wq 5 U (dJ (cs:= [.slice (some ⟨g2,0,none⟩) 2 2,.slice cA 4 cc,.slice vA 3 vc,.slice none 0 0,.slice yJ ran rac,.slice yK wP rbc,.slice yL wQ rcc,.slice yM wR rdc,.slice yN ren rec,.int .i64 da,.int .i64 db,.int .i64 dc,.int .i64 dd,.int .i64 de,.int .i64 df,.int .i64 dg]) U (by kernel_rfl)) (eG 6 U (kE (cs':= [.slice (some ⟨g2,0,none⟩) 2 2,.slice cA 4 cc,.slice vA 3 vc,.slice none 0 0,.slice yJ ran rac,.slice yK wP rbc,.slice yL wQ rcc,.slice yM wR rdc,.slice yN ren rec,.int .i64 da,.int .i64 db,.int .i64 dc,.int .i64 dd,.int .i64 de,.int .i64 df,.int .i64 dg]) 3 cN1 U U U U (bE (nw 7 127 (fun _ hm=>⟨hm.bl 1,trivial⟩) fun z=>jO (bD (bM ?_)))))))
 refine bE8 3 U cN1 U U U fun wx hm=>?_
 exact ⟨_,cA,vA,2,cc,vc,cl,vl,yJ,yK,yL,yM,yN,ran,rac,wP,rbc,wQ,rcc,wR,rdc,ren,rec,da,db,dc,dd,de,df,dg,U,⟨hcl4,bS5,dI3 hcg,hv3⟩,eM6 (hm.blkI 2 U),(hm.fact 2 U),SlT.ofOwn eU6 (hm.ownI 0 U) hv3.1,eS1 hdz (hm.fact 1 U),hm.k.more (by omega),hm.g⟩
def wL (x y:Ny):Bool:=decide (vR x y < 0)
theorem dB8  (l0:List Ny) (br n eW base:Nat) (w:World) (h:w.ownsRow base 171 4 (.slice (some ⟨br,0,none⟩) n eW) n (l0.flatMap eR)) (uJ:l0.length=n) (hn:n<=1000000) (xV:∀x∈l0,uH x):
 Calls prog 159 #[.slice (some ⟨br,0,none⟩) n eW,.int .i64 0,.int .i64 ((n:Nat):Int),.func (.func 71) #[] #[]] w (fun e w'=>e=.returned (.tuple #[])/\w'.ownsRow base 171 4 (.slice (some ⟨br,0,none⟩) n eW) n ((dS (wL) l0).flatMap eR)/\w.grownBy w' (some br)):=by
 obtain ⟨R,hR⟩:∃z,z=dS (wL) l0:=⟨_,rfl⟩
 rw [<-hR]
 refine cS ⟨53,w,(some br), []⟩ func159 U ntmps159 U (bV2 (X:= []) h cX cY) (bR (bP U (gO U U (bK 11 (v':= .int .i64 1) U U (bX U (bQ (bO ?_)))))))
 refine dX (γ:=Nat×List Ny) (fun gg=>(1<=gg.1/\gg.1<=n+1)/\gg.2.length=n/\pS (wL) (n - gg.1) gg.1 gg.2=R) (fun gg=> [(0,.slice (some ⟨br,0,none⟩) n eW),(1,.int .i64 0),(2,.int .i64 ((n:Nat):Int)),(3,.func (.func 71) #[] #[]),(8,.int .i64 ((gg.1:Nat):Int))]) (fun gg=>gQ base 171 4 n eW br ((gg.2).flatMap eR)) (fun gg=> []) (fun gg=> []) (fun gg=> []) (fun gg=>n+1 - gg.1) (1,l0) ⟨⟨Nat.le_refl _,by omega⟩,uJ,by rw [hR];unfold dS;rw [uJ]⟩ ⟨U,U,U,U,(cR (by omega)),trivial⟩ (fun _ hm=>hm.pick [] [] [] U U) ?_
 rintro ⟨i,l⟩ cB
 replace cB:(1<=i/\i<=n+1)/\l.length=n/\pS (wL) (n - i) i l=R:=cB
 dsimp only
 refine bH (bR ?_)
 obtain ⟨⟨hi1,vN⟩,hl1,hR1⟩:=cB
 refine bP U (bP U (bB (dE U U) U (bQ ?_)))
 refine cC U (fun hi=>?_) (fun hi=>?_)
 ·refine bN (bD (bH (bO (bR ?_))))
  have hRi:pS (wL) (n - (i+1)) (i+1) (uB (wL) i l)=R:=by rw [<-hR1,show n - i=(n - (i+1))+1 by omega];rfl
  obtain ⟨S,hS⟩:∃z,z=uB (wL) i l:=⟨_,rfl⟩
  rw [<-hS] at hRi
  have hSl:S.length=n:=by rw [hS,xI];exact hl1
  refine bP U (bX U (bQ (bO ?_)))
  refine dX (γ:=Nat×List Ny) (fun gg=>(gg.1<=i)/\gg.2.length=n/\uB (wL) gg.1 gg.2=S) (fun gg=> [(0,.slice (some ⟨br,0,none⟩) n eW),(1,.int .i64 0),(2,.int .i64 ((n:Nat):Int)),(3,.func (.func 71) #[] #[]),(8,.int .i64 ((i:Nat):Int)),(9,.int .i64 ((gg.1:Nat):Int))]) (fun gg=>gQ base 171 4 n eW br ((gg.2).flatMap eR)) (fun gg=> []) (fun gg=> []) (fun gg=> []) (fun gg=>gg.1) (i,l) ⟨Nat.le_refl _,hl1,hS.symm⟩ ⟨U,U,U,U,U,U,trivial⟩ (fun _ hm=>hm.pick [] [] [] U U) ?_
  rintro ⟨jj,m⟩ cB
  replace cB:(jj<=i)/\m.length=n/\uB (wL) jj m=S:=cB
  dsimp only
  refine bH (bH ?_)
  obtain ⟨hj1,pP,hS1⟩:=cB
  rcases jj with _|j
  ·refine gd (fun wz=>True) mixed (fun _ _=>trivial) fun z=>?_
   refine wq 0 U (bL U) (dH 18 (v':= .int .i64 0) U U (wq 1 U (bL U) (wq 2 U (eK U U) (dH 20 (v':= .bool false) U (fU3 (by decide)) (wq 3 U (bL U) (fD 4 U (fD 5 U (fD 6 U (fD 7 U (fD 8 U (fD 9 U (fD 10 U (fD 11 U (fD 12 U (fD 13 U (fD 14 U (fD 15 U (wq 16 U (fO U U) (jO (bD (jQ U (dD (bF (bF (bY ?_)))))))))))))))))))))))))
   refine bG (bD (bI (bP U (gO U U (bX U (bE ?_))))))
   have hm2:m=S:=hS1
   exact cN (i+1,m) ⟨⟨by dsimp only;omega,by dsimp only;omega⟩,by rw [hm2];exact hSl,by rw [hm2];exact hRi⟩ (by dsimp only;omega) ⟨U,U,U,U,(cR (by omega)),trivial⟩ (fun _ hm=>hm.pick [] [] [] U U)
  have hj2:j+1 < n:=by omega
  have hin:∀z∈m,z∈l0:=fun z hz=>eV5 hR hRi hS1 hz
  obtain ⟨xx,hx⟩:∃x,m[j+1]?=some x:=⟨_,fW3 (by omega)⟩
  obtain ⟨x0,x1,x2,x3⟩:=xx
  obtain ⟨yy,hy⟩:∃x,m[j]?=some x:=⟨_,fW3 (by omega)⟩
  obtain ⟨y0,y1,y2,y3⟩:=yy
  refine gd (fun wz=>(gQ base 171 4 n eW br ((m).flatMap eR)) wz/\True) mixed (fun _ hm=>⟨hm.k,trivial⟩) fun z=>wq 0 U (bL U) (wq 1 U (bL U) (wq 2 U (eK U U) (dH 20 (v':= .bool true) U (fU3 (decide_eq_true (by omega))) (wq 3 U (bL U) (fI 4 U (bL U) (fI 5 U (bL U) (fI 6 U (bL U) (fI 7 U (bV (j:=(j+1)) uO U U (by omega)) (fI 8 U (dP (vs:= [.int .i64 x0,.string x1,.int .i64 x2,.string x3]) kM U (fun _ hm=>(gQ.get (hm.1) vT pP)) hx U U) (fI 9 U (bL U) (fI 10 U (bL U) (fI 11 U (ov_sub U U (by omega) (by omega)) (dH 29 (v':= .int .i64 ((j:Nat):Int)) U (fV3 (by omega)) (fI 12 U (bV (j:=j) uO U U (by omega)) (fI 13 U (dP (vs:= [.int .i64 y0,.string y1,.int .i64 y2,.string y3]) kM U (fun _ hm=>(gQ.get (hm.1) vT pP)) hy U U) (eG 14 U (eE U (cH U eQ9 U U (fun wx hm=>(zU x0 x1 x2 x3 y0 y1 y2 y3 wx (xV _ (hin _ (fX3 hx))) (xV _ (hin _ (fX3 hy))))) (bE (nw 17 32767 (fun _ hm=>⟨hm.k,trivial⟩) fun z=>fI 15 U (dE U U) (wq 16 U (fE U U) (jO (bD ?_)))))))))))))))))))))))
  refine cC U (fun hlt=>?_) (fun hlt=>?_)
  ·refine bN (bD (bH (bO ?_)))
   have hlt2:(wL) ⟨x0,x1,x2,x3⟩ ⟨y0,y1,y2,y3⟩=true:=decide_eq_true (show vR ⟨x0,x1,x2,x3⟩ ⟨y0,y1,y2,y3⟩ < 0 from hlt)
   have hS2:=(bN4 hx hy hlt2).symm.trans hS1
   refine gd (fun wz=>True) mixed (fun _ _=>trivial) fun z=>wq 0 U (bL U) (wq 1 U (bL U) (wq 2 U (bL U) (wq 3 U (bL U) (wq 4 U (ov_sub U U (by omega) (by omega)) (dH 41 (v':= .int .i64 ((j:Nat):Int)) U (fV3 (by omega)) (wq 5 U (bL U) (wq 6 U (bL U) (wq 7 U (ov_sub U U (by omega) (by omega)) (dH 44 (v':= .int .i64 ((j:Nat):Int)) U (fV3 (by omega)) (wq 8 U (bV (j:=j) uO U U (by omega)) (wq 10 U (bL U) (wq 11 U (bL U) (wq 12 U (bV (j:=(j+1)) uO U U (by omega)) ?_)))))))))))))
   refine kK [9,13] (by kernel_rfl) U ⟨⟨_,U,?_⟩,⟨_,U,?_⟩,trivial⟩
   ·refine bB (dP (vs:= [.int .i64 y0,.string y1,.int .i64 y2,.string y3]) kM U (fun _ hm=>(gQ.get hm.k vT pP)) hy U U) U ?_
    refine bE (nw 18 8191 (fun _ _=>trivial) fun z=>eG 13 U (bB (dP (vs:= [.int .i64 x0,.string x1,.int .i64 x2,.string x3]) kM U (fun _ hm=>(gQ.get hm.k vT pP)) hx U U) U (bE (nw 18 16383 (fun _ _=>trivial) fun z=>wq 14 U (bV (j:=(j+1)) uO U U (by omega)) (eG 15 U (eV (l:=m) (j:=j+1) (r:=0) (el:=⟨x0,x1,x2,x3⟩) (el':=⟨y0,y1,y2,y3⟩) U kM U U U U vT U hx pP (by decide) U U (bE (nw 18 65535 (fun _ _=>trivial) fun z=>wq 16 U (bV (j:=j) uO U U (by omega)) (eG 17 U ?_)))))))))
    refine eV (l:=m.set (j+1) ⟨y0,y1,y2,y3⟩) (j:=j) (r:=0) (el:=⟨y0,y1,y2,y3⟩) (el':=⟨x0,x1,x2,x3⟩) U kM U U U U vT U (by rw [List.getElem?_set_ne (by omega)];exact hy) (by rw [List.length_set];exact pP) (by decide) U U ?_
    refine bE (nw 18 262143 (fun _ _=>trivial) fun z=>jO (bG (bD (bI (bP U (bB (ov_sub U U (by omega) (by omega)) U (bK 36 (v':= .int .i64 ((j:Nat):Int)) U (fV3 (by omega)) (bX U (bE ?_)))))))))
    exact cN (j,(m.set (j+1) ⟨y0,y1,y2,y3⟩).set j ⟨x0,x1,x2,x3⟩) ⟨by dsimp only;omega,by simp [pP],hS2⟩ (by dsimp only;omega) ⟨U,U,U,U,U,(cR (by omega)),trivial⟩ (fun _ hm=>hm.pick [] [] [] U U)
   refine bB (dP (vs:= [.int .i64 x0,.string x1,.int .i64 x2,.string x3]) kM U (fun _ hm=>(gQ.get hm.k vT pP)) hx U U) U (bE (nw 18 15871 (fun _ _=>trivial) fun z=>eG 9 U (bB (dP (vs:= [.int .i64 y0,.string y1,.int .i64 y2,.string y3]) kM U (fun _ hm=>(gQ.get hm.k vT pP)) hy U U) U (bE (nw 18 16383 (fun _ _=>trivial) fun z=>wq 14 U (bV (j:=(j+1)) uO U U (by omega)) (eG 15 U (eV (l:=m) (j:=j+1) (r:=0) (el:=⟨x0,x1,x2,x3⟩) (el':=⟨y0,y1,y2,y3⟩) U kM U U U U vT U hx pP (by decide) U U (bE (nw 18 65535 (fun _ _=>trivial) fun z=>wq 16 U (bV (j:=j) uO U U (by omega)) (eG 17 U ?_))))))))))
   refine eV (l:=m.set (j+1) ⟨y0,y1,y2,y3⟩) (j:=j) (r:=0) (el:=⟨y0,y1,y2,y3⟩) (el':=⟨x0,x1,x2,x3⟩) U kM U U U U vT U (by rw [List.getElem?_set_ne (by omega)];exact hy) (by rw [List.length_set];exact pP) (by decide) U U ?_
   refine bE (nw 18 262143 (fun _ _=>trivial) fun z=>jO (bG (bD (bI (bP U (bB (ov_sub U U (by omega) (by omega)) U (bK 36 (v':= .int .i64 ((j:Nat):Int)) U (fV3 (by omega)) (bX U (bE ?_)))))))))
   exact cN (j,(m.set (j+1) ⟨y0,y1,y2,y3⟩).set j ⟨x0,x1,x2,x3⟩) ⟨by dsimp only;omega,by simp [pP],hS2⟩ (by dsimp only;omega) ⟨U,U,U,U,U,(cR (by omega)),trivial⟩ (fun _ hm=>hm.pick [] [] [] U U)
  refine dD (bF (bF (bY (bG (bD (bI ?_))))))
  have hlt2:(wL) ⟨x0,x1,x2,x3⟩ ⟨y0,y1,y2,y3⟩=false:=decide_eq_false (show ¬vR ⟨x0,x1,x2,x3⟩ ⟨y0,y1,y2,y3⟩ < 0 from hlt)
  have hS2:=(bG8 hx hy hlt2).symm.trans hS1
  refine bP U (gO U U (bX U (bE ?_)))
  have hm2:m=S:=hS2
  exact cN (i+1,m) ⟨⟨by dsimp only;omega,by dsimp only;omega⟩,by rw [hm2];exact hSl,by rw [hm2];exact hRi⟩ (by dsimp only;omega) ⟨U,U,U,U,(cR (by omega)),trivial⟩ (fun _ hm=>hm.pick [] [] [] U U)
 refine dD (bF (bF (bY ?_)))
 obtain rfl:l=R:=by rw [<-hR1,show n - i=0 by omega];rfl
 refine kC U fun wx hm=>?_
 exact ⟨U,mB hm.k hm.g⟩
theorem cI9 (l0:List Ny) (br n eW base:Nat) (w:World) (h:w.ownsRow base 171 4 (.slice (some ⟨br,0,none⟩) n eW) n (l0.flatMap eR)) (hn:n<=1000000):Calls prog 159 #[.slice (some ⟨br,0,none⟩) n eW,.int .i64 ((n:Nat):Int),.int .i64 ((n:Nat):Int),.func (.func 71) #[] #[]] w (fun e w'=>e=.returned (.tuple #[])/\w'.ownsRow base 171 4 (.slice (some ⟨br,0,none⟩) n eW) n ((l0).flatMap eR)/\w.grownBy w' (some br)):=by
 refine cS ⟨53,w,(some br), []⟩ func159 U ntmps159 U (bV2 (X:= []) h cX cY) (bR (bP U (gO U U (bX U (bQ (bO (eY 1 (eD (bH (bR (bP U (bP U (bB (dE U U) U (bQ (gJ 14 (v':= .bool false) U (fU3 (decide_eq_false (by omega))) (jQ U (dD (bF (bF (bY ?_))))))))))))))))))))
 refine kC U fun wx hm=>?_
 exact ⟨U,mB hm.k hm.g⟩
theorem eU2 (l0:List Ny) (br n eW base:Nat) (w:World) (h:w.ownsRow base 171 4 (.slice (some ⟨br,0,none⟩) n eW) n (l0.flatMap eR)) (uJ:l0.length=n) (hn:n<=19) (xV:∀x∈l0,uH x):Calls prog 118 #[.slice (some ⟨br,0,none⟩) n eW,.int .i64 ((n:Nat):Int),.func (.func 71) #[] #[]] w (fun e w'=>e=.returned (.tuple #[])/\w'.ownsRow base 171 4 (.slice (some ⟨br,0,none⟩) n eW) n ((dS wL l0).flatMap eR)/\w.grownBy w' (some br)):=by
 refine cS ⟨63,w,(some br), []⟩ func118 U ntmps118 U (bV2 (X:= []) h cX cY) (bR (bX U (bQ (bR (bP U (bX U (bX U (bQ (bH (bO (eY 1 (eD (bH (bR (bP U (bP U (bB (mV U U) U (bK 13 (v':= .bool false) U (fU3 (decide_eq_false (by omega))) (bQ (jQ U (dD (bF (bF (bY ?_))))))))))))))))))))))))
 refine bD (bR (bP U (bP U (bP U (bP U ?_)))))
 refine mA U U U dX0 U U (fun wx hm=>(dB8 l0 br n eW base wx hm.k uJ (by omega) xV)) ?_
 refine bQ (bO (eY 1 (eD (bH (bR (bP U (bP U (bB (dE U U) U (bK 30 (v':= .bool false) U (fU3 (decide_eq_false (by omega))) (bQ (jQ U (dD (bF (bF (bY ?_)))))))))))))))
 refine kC U fun wx hm=>?_
 exact ⟨U,mB hm.k hm.g⟩
theorem eW2 (l0:List Ny) (br n eW base:Nat) (w:World) (h:w.ownsRow base 171 4 (.slice (some ⟨br,0,none⟩) n eW) n (l0.flatMap eR)) (uJ:l0.length=n) (hn:n=20) (xV:∀x∈l0,uH x):Calls prog 118 #[.slice (some ⟨br,0,none⟩) n eW,.int .i64 ((n:Nat):Int),.func (.func 71) #[] #[]] w (fun e w'=>e=.returned (.tuple #[])/\w'.ownsRow base 171 4 (.slice (some ⟨br,0,none⟩) n eW) n ((dS wL l0).flatMap eR)/\w.grownBy w' (some br)):=by
 refine cS ⟨63,w,(some br), []⟩ func118 U ntmps118 U (bV2 (X:= []) h cX cY) (bR (bX U (bQ (bR (bP U (bX U (bX U (bQ (bH (bO (eY 3 (eD (bH (bR (bP U (bP U (bB (mV U U) U (bQ (gJ 13 (v':= .bool true) U (fU3 (decide_eq_true (by omega))) (kP U (bN (bD (bO (bR (bP U (bP U (bP U (bP U ?_))))))))))))))))))))))))))))
 refine mA (xs':=(dS wL l0).flatMap eR) U U U dX0 U U (fun wx hm=>(by have h:=dB8 l0 br n eW base wx hm.k uJ (by omega) xV;rw [hn] at h ⊢;exact h)) ?_
 refine bQ (bR (bP U (bX U (bQ (bI (bP U (bP U (gO U U (bK 22 (v':= .int .i64 40) U U (bX U (bE (bG (hW (eD (bH (bR (bP U (bP U (bB (mV U U) U (bQ (gJ 13 (v':= .bool false) U (fU3 (decide_eq_false (by omega))) (jQ U (dD (bF (bF (bY ?_))))))))))))))))))))))))))
 refine bD (bR (bP U (bP U (bP U (bP U ?_)))))
 refine mA (xs':=(dS wL l0).flatMap eR) U U U dX0 U U (fun wx hm=>(by have h:=cI9 (dS wL l0) br n eW base wx hm.k (by omega);rw [hn] at h ⊢;exact h)) ?_
 refine bQ (bO (eY 3 (eD (bH (bR (bP U (bP U (bB (dE U U) U (bQ (gJ 30 (v':= .bool false) U (fU3 (decide_eq_false (by omega))) (jQ U (dD (bF (bF (bY ?_)))))))))))))))
 refine kC U fun wx hm=>?_
 exact ⟨U,mB hm.k hm.g⟩
theorem dG5 (l0:List Ny) (br n eW base:Nat) (w:World) (h:w.ownsRow base 171 4 (.slice (some ⟨br,0,none⟩) n eW) n (l0.flatMap eR)) (uJ:l0.length=n) (hn:n<=20) (xV:∀x∈l0,uH x):Calls prog 70 #[.slice (some ⟨br,0,none⟩) n eW,.func (.func 71) #[] #[]] w (fun e w'=>e=.returned (.tuple #[])/\w'.ownsRow base 171 4 (.slice (some ⟨br,0,none⟩) n eW) n ((dS wL l0).flatMap eR)/\w.grownBy w' (some br)):=by
 refine cS ⟨9,w,(some br), []⟩ func70 U ntmps70 U (bV2 (X:= []) h cX cY) (bI (bP U (bP U (bB (dT uO U) U (bP U ?_)))))
 refine mA (xs':=(dS wL l0).flatMap eR) U U U eS3 U U (fun wx hm=>(by
  rcases (show n<=19∨n=20 by omega) with h9|h9
  ·exact eU2 l0 br n eW base wx hm.k uJ h9 xV
  exact eW2 l0 br n eW base wx hm.k uJ h9 xV)) ?_
 refine bE ?_
 refine kC U fun wx hm=>?_
 exact ⟨U,mB hm.k hm.g⟩
theorem eU1 (A:Option Addr) (eW:Nat) (w:World):Calls prog 159 #[.slice A 0 eW,.int .i64 0,.int .i64 0,.func (.func 71) #[] #[]] w (fun e w'=>e=.returned (.tuple #[])/\w.grownBy w' none):=by
 refine cS ⟨53,w,none, []⟩ func159 U ntmps159 U (gM (X:= []) cX cY) (bR (bP U (gO U U (bK 11 (v':= .int .i64 1) U U (bX U (bQ (bO (eY 1 (eD (bH (bR (bP U (bP U (bB (dE U U) U (bK 14 (v':= .bool false) U (fU3 (by decide)) (bQ (jQ U (dD (bF (bF (bY ?_)))))))))))))))))))))
 refine kC U fun wx hm=>?_
 exact ⟨U,hm.g⟩
theorem eS2 (A:Option Addr) (eW:Nat) (w:World):Calls prog 118 #[.slice A 0 eW,.int .i64 0,.func (.func 71) #[] #[]] w (fun e w'=>e=.returned (.tuple #[])/\w.grownBy w' none):=by
 refine cS ⟨63,w,none, []⟩ func118 U ntmps118 U (gM (X:= []) cX cY) (bR (bX U (bQ (bR (bP U (bX U (bX U (bQ (bH (bO (eY 1 (eD (bH (bR (bP U (bP U (bB (mV U U) U (bK 13 (v':= .bool false) U (fU3 (by decide)) (bQ (jQ U (dD (bF (bF (bY ?_))))))))))))))))))))))))
 refine bD (bR (bP U (bP U (bP U (bP U (cH U dX0 U U (fun wx hm=>(eU1 A eW wx)) (bQ (bO (eY 1 (eD (bH (bR (bP U (bP U (bB (dE U U) U (bK 30 (v':= .bool false) U (fU3 (by decide)) (bQ (jQ U (dD (bF (bF (bY ?_))))))))))))))))))))))
 refine kC U fun wx hm=>?_
 exact ⟨U,hm.g⟩
theorem dG0 (A:Option Addr) (eW:Nat) (w:World):Calls prog 70 #[.slice A 0 eW,.func (.func 71) #[] #[]] w (fun e w'=>e=.returned (.tuple #[])/\w.grownBy w' none):=by
 refine cS ⟨9,w,none, []⟩ func70 U ntmps70 U (gM (X:= []) cX cY) (bI (bB (bL U) U (bB (bL U) U (bB (dT uO U) U (bK 6 (v':= .int .i64 0) U U (bB (bL U) U (cH U eS3 U U (fun wx hm=>(eS2 A eW wx)) (bE ?_))))))))
 refine kC U fun wx hm=>?_
 exact ⟨U,hm.g⟩
end Go.Proofs.YtmifpfcmldflkaaGreatDoor
