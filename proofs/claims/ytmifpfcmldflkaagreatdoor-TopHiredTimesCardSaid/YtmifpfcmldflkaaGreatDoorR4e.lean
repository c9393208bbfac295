/- Several texts as one: Eg Ba Cv Gm Gw Gx Gy Srt Clr Cq Gz Wo Rw Rx Gs Eh Gp Ej Az Em En Yp Smp Dki Dkj Zp Hla Dkl -/
import Derived.Test.YtmifpfcmldflkaaGreatDoorR4a
import Derived.Test.YtmifpfcmldflkaaGreatDoorR4d
import Derived.Test.YtmifpfcmldflkaaGreatDoorR4b
import Derived.Test.YtmifpfcmldflkaaGreatDoorR4c
import Derived.RangeFuncNested
import Derived.RangeFuncBound
import Derived.RangeFuncCalls
import Derived.RangeFuncLeaves
import Derived.Shelf.Abstract
import Derived.Shelf.RegionOpen
import Derived.WalkKit
import Derived.OwnWalkIn
import Derived.TacticsInMore
import Derived.LoopNIn
import Derived.LoopIn
import Derived.OneCell
import Derived.Lib.AppendZeros
set_option maxRecDepth 100000
set_option maxHeartbeats 4000000
namespace Go.Proofs.YtmifpfcmldflkaaGreatDoor
open Tryz
open Go.RowKit
def evC (c1 c2 c3 c4 c5 c6 c7:Bool):Int:=if c1=true then 1 else if c2=true then 8 else if c3=true then 4 else if c4=true then 3 else if c5=true then 8 else if c6=true then 14 else if c7=true then 7 else 0
theorem nY {ss:List St} {vs:List Vh} {p:Option Ev} {e0:Int} {e1 e2:ByteArray} {e3:Int} {e4:ByteArray}:zH ss vs p ⟨e0,e1,e2,e3,e4⟩=evC (!inB e0 0 5761439) (decide (mH (zY e1) vs 0 < 0)|| !ss.any (stP e2)) (!inB e3 1 8) (!decide (e3=6)&& !(e4.toList==(⟨#[]⟩:ByteArray).toList)) (decide (e3=6)&& !ss.any (stP e4)) (e4.toList==e2.toList) (evO p ⟨e0,e1,e2,e3,e4⟩):=by
 unfold zH evC
 cases inB e0 0 5761439 <;> cases inB e3 1 8 <;> rfl
theorem dQ1 (key:ByteArray) (h0 h1 h2 h3 h4 h5 h6 h7 h8 h9 h10 h11 h12 h13:Int) (gk:Nat) (k:ByteArray) (w:World) (hk:Blk w gk 9 [.string k]):
 Calls prog 190 #[.agg #[.string key,.int .i64 h0,.int .i64 h1,.int .i64 h2,.int .i64 h3,.int .i64 h4,.int .i64 h5,.int .i64 h6,.int .i64 h7,.int .i64 h8,.int .i64 h9,.int .i64 h10,.int .i64 h11,.int .i64 h12,.int .i64 h13],.pointer (some ⟨gk,0,none⟩)] w (fun e w'=>e=.returned (.bool (stP k ⟨key, [h0,h1,h2,h3,h4,h5,h6,h7,h8,h9,h10,h11,h12,h13]⟩))/\w.grownBy w' none):=by
 refine cV ⟨8,w,none, []⟩ func190 U ntmps190 U (gR (X:= [fL w.heap.size none gk 9 [.string k]]) (cG hk.old cY) (cH fL.lasts cZ)) (bS (fG U U U fun g1=>bZ U (bR (bS (dW dA9 U U (eI fE 0 U U U (bB (cN (v:= .string k) fE U (fun _ hm=>(hm.fact 0 U).2) U) U (bB (eR U U) U (bZ U (bR (bM ?_)))))))))))
 exact bK U U fun wx hm=>⟨U,hm.g⟩
theorem eA1 (l:List St) (A:Option Addr) (n c0:Nat) (gk:Nat) (k:ByteArray) (w:World) (hl:SlT stEnc 15 99 w A n l) (hok:∀x∈l,StOk x) (hn:n<=1000000) (hk:Blk w gk 9 [.string k]):
 Calls prog 222 #[.slice A n c0,.func (.func 190) #[] #[.pointer (some ⟨gk,0,none⟩)]] w (nC w (mH (stP k) l 0)):=by
 refine cV ⟨19,w,none, []⟩ func222 U ntmps222 U (gR (X:= [bU stEnc 15 99 w.heap.size none A n l,fL w.heap.size none gk 9 [.string k]]) (cG hl.old (cG hk.old cY)) (cH bU.lasts (cH fL.lasts cZ))) (bS ?_)
 have hlen:=hl.len
 refine bZ U (bR (bH (bS (bP U (bB (dT eO2 U) U (bP U (bR (bO ?_))))))))
 refine dX (γ:=Nat) (fun (i:Nat)=>i<=n/\mH (stP k) l 0=mH (stP k) (l.drop i) i) (fun (i:Nat)=> [(0,.slice A n c0),(1,.func (.func 190) #[] #[.pointer (some ⟨gk,0,none⟩)]),(7,.int .i64 ((n:Nat):Int)),(8,.int .i64 ((i:Nat):Int))]) (fun (i:Nat)=>fun _=>True) (fun (i:Nat)=> []) (fun (i:Nat)=> []) (fun (i:Nat)=> [bU stEnc 15 99 w.heap.size none A n l,fL w.heap.size none gk 9 [.string k]]) (fun (i:Nat)=>n - i) 0 ⟨Nat.zero_le _,U⟩ ⟨U,U,U,U,trivial⟩ (fun _ hm=>hm.pick [] [] [0,1] U U) ?_
 intro i cC
 replace cC:i<=n/\mH (stP k) l 0=mH (stP k) (l.drop i) i:=cC
 refine bS (bB (dD U U) U (bR (bH ?_)))
 refine cE U (fun hi=>?_) (fun hi=>?_)
 ·refine bN (bD (bH (bO (bS ?_))))
  obtain ⟨b,off,hA,_,_⟩:=hl.get (by omega)
  subst hA
  obtain ⟨x,hx⟩:∃x,l[i]?=some x:=⟨_,fJ5 (by omega)⟩
  have hat:=bX0 (p:=stP k) hx
  have hso:=hok _ (fK5 hx)
  obtain ⟨key,hs⟩:=x
  obtain ⟨h0,h1,h2,h3,h4,h5,h6,h7,h8,h9,h10,h11,h12,h13,rfl⟩:=cB6 hs hso.1
  refine bP U (bZ U (bR (bS (bP U (bP U (bP U (bB (bT (j:=i) eO2 U U (by omega)) U (bB (dO (vs:= [.string key,.int .i64 h0,.int .i64 h1,.int .i64 h2,.int .i64 h3,.int .i64 h4,.int .i64 h5,.int .i64 h6,.int .i64 h7,.int .i64 h8,.int .i64 h9,.int .i64 h10,.int .i64 h11,.int .i64 h12,.int .i64 h13]) eW7 U (fun _ hm=>(hm.fact 0 U).1) hx U U) U (cL U fO0 U U (fun wx hm=>(dQ1 key h0 h1 h2 h3 h4 h5 h6 h7 h8 h9 h10 h11 h12 h13 gk k wx (hm.fact 1 U).2)) (bR ?_))))))))))
  refine dC U (fun hh=>?_) (fun hh=>?_)
  ·have hq:(stP k ⟨key, [h0,h1,h2,h3,h4,h5,h6,h7,h8,h9,h10,h11,h12,h13]⟩)=true:=by simpa using hh
   refine bS (bP U (bZ U (bR (bM (bC (bA (bA (bC (bA ?_)))))))))
   exact bK U U fun wx hm=>⟨bW (by rw [cC.2,hat,if_pos hq]),hm.g⟩
  have hq:(stP k ⟨key, [h0,h1,h2,h3,h4,h5,h6,h7,h8,h9,h10,h11,h12,h13]⟩)=false:=by simpa using hh
  refine bN (bG (bD (bI (gN U U (bP U (bE ?_))))))
  exact cQ (i+1) ⟨by omega,by rw [cC.2,hat,if_neg (by rw [hq];decide)]⟩ (by omega) ⟨U,U,U,(cS (by omega)),trivial⟩ (fun _ hm=>hm.pick [] [] [0,1] U U)
 refine dE (bF (bF (bY (bD (bS (bZ U (bL 4 (v':= .int .i64 (-1)) U U (bR (bM ?_)))))))))
 exact bK U U fun wx hm=>⟨bW (by rw [cC.2,List.drop_eq_nil_of_le (by omega)];rfl),hm.g⟩
theorem eZ0 (l:List St) (A:Option Addr) (n c0:Nat) (gk:Nat) (k:ByteArray) (w:World) (hl:SlT stEnc 15 99 w A n l) (hok:∀x∈l,StOk x) (hn:n<=1000000) (hk:Blk w gk 9 [.string k]):
 Calls prog 189 #[.slice A n c0,.func (.func 190) #[] #[.pointer (some ⟨gk,0,none⟩)]] w (fun e w'=>e=.returned (.bool (l.any (stP k)))/\w.grownBy w' none):=by
 refine cV ⟨9,w,none, []⟩ func189 U ntmps189 U (gR (X:= [bU stEnc 15 99 w.heap.size none A n l,fL w.heap.size none gk 9 [.string k]]) (cG hl.old (cG hk.old cY)) (cH bU.lasts (cH fL.lasts cZ))) (bS (bZ U (bR (bS (bP U (bP U (cL U fW0 U U (fun wx hm=>(eA1 l A n c0 gk k wx (hm.fact 0 U).1 hok hn (hm.fact 1 U).2)) (bB (mO U U) U (bZ U (bR (bM ?_)))))))))))
 exact bK U U fun wx hm=>⟨by rw [<-cO0],hm.g⟩
theorem vZ (sl:List St) (sA cA vA pA:Option Addr) (sn sc cn cc vn vc pn pc:Nat) (k:ByteArray) (w:World) (hs:SlT stEnc 15 99 w sA sn sl) (uB:∀x∈sl,StOk x) (zJ:sn<=1000000):
 Calls prog 137 #[.agg #[.slice sA sn sc,.slice cA cn cc,.slice vA vn vc,.slice pA pn pc],.string k] w (fun e w'=>e=.returned (.bool (sl.any (stP k)))/\w.grownBy w' none):=by
 refine cV ⟨9,w,none, []⟩ func137 U ntmps137 U (gR (X:= [bU stEnc 15 99 w.heap.size none sA sn sl]) (cG hs.old cY) (cH bU.lasts cZ)) (bS (fG U U U fun g1=>fG U U U fun g2=>bZ U (bR (bS (dW dE0 U U (eI eX7 1 U U U (bB (pW U U) U (cL U fN0 U U (fun wx hm=>(eZ0 sl sA sn sc _ k wx (hm.fact 0 U).1 uB zJ (hm.blkI 0 U))) (bZ U (bR (bM ?_)))))))))))
 exact bK U U fun wx hm=>⟨U,hm.g⟩
theorem bN3 (p0:Int) (p1 p2:ByteArray) (p3:Int) (p4:ByteArray) (e0:Int) (e1 e2:ByteArray) (e3:Int) (e4:ByteArray) (w:World):Calls prog 138 #[.agg #[.int .i64 p0,.string p1,.string p2,.int .i64 p3,.string p4],.agg #[.int .i64 e0,.string e1,.string e2,.int .i64 e3,.string e4]] w (nC w (jQ (⟨p0,p1,p2,p3,p4⟩:Ev) (⟨e0,e1,e2,e3,e4⟩:Ev))):=by
 refine cV ⟨17,w,none, []⟩ func138 U ntmps138 U (gR (X:= []) cY cZ) (bS (fG U U U fun g1=>fG U U U fun g2=>bZ U (bR (bH (gd (fun wz=>Blk wz g2 74 [.int .i64 e0,.string e1,.string e2,.int .i64 e3,.string e4]/\Blk wz g1 74 [.int .i64 p0,.string p1,.string p2,.int .i64 p3,.string p4]/\True) mixed (fun _ hm=>⟨hm.bl 0,hm.bl 1,trivial⟩) fun z=>wq 0 U (bQ nE U U) (wq 1 U (cN fF U (fun _ hm=>hm.2.1) U) (wq 2 U (bQ nE U U) (wq 3 U (cN fF U (fun _ hm=>hm.1) U) (wq 5 U (bQ rD U U) (wq 6 U (cN fE U (fun _ hm=>hm.2.1) U) (wq 7 U (bQ rD U U) (wq 8 U (cN fE U (fun _ hm=>hm.1) U) (eC 4 U (cL U dT7 U U (fun wx hm=>(bO4 _ _ wx)) (bE (nw 13 511 (fun _ hm=>⟨hm.bl 0,hm.bl 1,trivial⟩) fun z=>eC 9 U (cL U cV9 U U (fun wx hm=>(rB _ _ wx)) (bE (nw 13 1023 (fun _ hm=>⟨hm.bl 0,hm.bl 1,trivial⟩) fun z=>eC 10 U (jF 3 [.int .i64 (pD p0 e0),.int .i64 (mX p1 e1)] fun g3=>bE (nw 13 2047 (fun _ hm=>⟨hm.bl 1,hm.bl 2,trivial⟩) fun z=>eC 11 U (cL U dS7 U U (fun wx hm=>(cE6 _ _ _ _ _ wx (hm.blkI 0 U))) ?_))))))))))))))))))))))
 refine bE (nw 13 4095 (fun _ hm=>⟨hm.bl 1,hm.bl 2,trivial⟩) fun z=>wq 12 U (cU U) (jH (bD (bM ?_))))
 exact bK U U fun wx hm=>⟨bW (by unfold jQ;rfl),hm.g⟩
theorem dS4 (sl:List St) (vl:List Vh) (sA cA vA pA:Option Addr) (sn sc cn cc vn vc pn pc:Nat) (el:List Ev) (eA:Option Addr) (en ec:Nat) (w:World) (hs:SlT stEnc 15 99 w sA sn sl) (hv:SlT fX 2 57 w vA vn vl) (uB:∀x∈sl,StOk x) (zJ:sn<=1000000) (hvn:vn<=1000000) (hl:SlT dP 5 74 w eA en el) (vN:∀x∈el,cJ4 x) (hen:en<=1000000) (bE3:bM3 vl):
 Calls prog 81 #[.agg #[.slice sA sn sc,.slice cA cn cc,.slice vA vn vc,.slice pA pn pc],.slice eA en ec] w (nC w (uC sl vl el)):=by
 refine cV ⟨81,w,none, []⟩ func81 U ntmps81 U (gR (X:= [bU stEnc 15 99 w.heap.size none sA sn sl,bU fX 2 57 w.heap.size none vA vn vl,bU dP 5 74 w.heap.size none eA en el]) (cG hs.old (cG hv.old (cG hl.old cY))) (cH bU.lasts (cH bU.lasts (cH bU.lasts cZ)))) (bS ?_)
 have hlen:=hl.len
 refine fG U U U fun g1=>bZ U (bR (bH (bS (bP U (bB (dT kE U) U (bB (eJ U U) U (bR ?_)))))))
 refine cE U (fun h1=>?_) (fun h1=>?_)
 ·refine bS (bZ U (bR ?_))
  refine bM (bA ?_)
  exact bK U U fun wx hm=>⟨bW (by unfold uC;rw [if_pos (by omega)]),hm.g⟩
 refine bN (bD (bH (bS (bP U (bB (dT kE U) U (bP U (bR (bO ?_))))))))
 refine dX (γ:=Nat) (fun (i:Nat)=>i<=en/\uC sl vl el=scanE (zH sl vl) (prevOf el i) (el.drop i)) (fun (i:Nat)=> [(1,.slice eA en ec),(2,.pointer (some ⟨g1,0,none⟩)),(11,.slice eA en ec),(12,.int .i64 ((en:Nat):Int)),(13,.int .i64 ((i:Nat):Int))]) (fun (i:Nat)=>fun _=>True) (fun (i:Nat)=> [(g1,31, [.slice sA sn sc,.slice cA cn cc,.slice vA vn vc,.slice pA pn pc])]) (fun (i:Nat)=> []) (fun (i:Nat)=> [bU stEnc 15 99 w.heap.size none sA sn sl,bU fX 2 57 w.heap.size none vA vn vl,bU dP 5 74 w.heap.size none eA en el]) (fun (i:Nat)=>en - i) 0 ⟨Nat.zero_le _,by unfold uC;rw [if_neg (by omega)];rfl⟩ ⟨U,U,U,U,U,trivial⟩ (fun _ hm=>hm.pick [0] [] [0,1,2] U U) ?_
 intro i cC
 replace cC:i<=en/\uC sl vl el=scanE (zH sl vl) (prevOf el i) (el.drop i):=cC
 refine bS ?_
 obtain ⟨hi0,hsc⟩:=cC
 refine bB (dD U U) U (bR (bH ?_))
 refine cE U (fun hi=>?_) (fun hi=>?_)
 ·refine bN (bD (bH (bO (bS ?_))))
  obtain ⟨b,off,hA,_,_⟩:=hl.get (by omega)
  subst hA
  obtain ⟨x,hx⟩:∃x,el[i]?=some x:=⟨_,fJ5 (by omega)⟩
  obtain ⟨e0,e1,e2,e3,e4⟩:=x
  have hat:=scanE_at (zH sl vl) el i _ hx
  obtain ⟨he0,he3,hz1,hz2,hz4⟩:=vN _ (fK5 hx)
  have he0: -4000000000000000000<=e0/\e0<=4000000000000000000:=he0
  have hz1:e1.size<=1000000:=hz1
  refine bP U (bB (bT (j:=i) kE U U (by omega)) U (bB (dO (vs:= [.int .i64 e0,.string e1,.string e2,.int .i64 e3,.string e4]) fR U (fun _ hm=>(hm.fact 2 U).1) hx U U) U (dH cW1 U fun g2=>bZ U (jX (cs':= [.int .i64 e0,.string e1,.string e2,.int .i64 e3,.string e4]) 0 fR U U U U (bR (bS (dW cG0 U U (eI fF 0 U U U (bB (eN U U) U (bZ U (bR (bO (bS (dW nE U U (eI fF 0 U U U (cL U dM7 U U (fun wx hm=>((vQ _ wx).mono fun _ _ ⟨he,hw⟩=>⟨he,hw ▸ World.grownBy.refl _ _⟩)) (bB (cF U) U (bZ U (bR ?_)))))))))))))))))))
  rcases Bool.eq_false_or_eq_true (!(inB e0 0 5761439)) with h2|h2
  ·refine gJ 21 U (fH5 h2) ?_
   have h2':(inB e0 0 5761439)=false:=by simpa only [Bool.not_eq_true',Bool.not_eq_false'] using h2
   refine kQ U (bS (bZ U (bR (bM (bC (bC (bA (bA (bC (bA ?_))))))))))
   have hE:zH sl vl (prevOf el i) (⟨e0,e1,e2,e3,e4⟩:Ev)=1:=by rw [nY,h2'];rfl
   have hF:uC sl vl el=1:=by rw [hsc,hat,if_neg (by rw [hE];decide),hE]
   exact bK U U fun wx hm=>⟨bW (by rw [hF]),hm.g⟩
  refine gJ 21 U (fH5 h2) ?_
  have h2':(inB e0 0 5761439)=true:=by simpa only [Bool.not_eq_true',Bool.not_eq_false'] using h2
  refine jU U (bS (bB (cX bP5 U (fun _ hm=>hm.blkI 1 U) U U) U (dW rD U U (eI fE 0 U U U (cL U fB1 U U (fun wx hm=>(bJ3 vl sA cA vA pA sn sc cn cc vn vc pn pc e1 wx (hm.fact 1 U).1 (by omega) bE3)) (bB (dD U U) U (bP U ?_)))))))
  rcases Bool.eq_false_or_eq_true (decide (mH (zY e1) vl 0 < 0)) with h3|h3
  ·refine bL 32 U (fH5 h3) ?_
   refine dY U (dY U (dY U (dY U (dY U (mQ U U (bZ U (bR (kQ U (bS (bZ U (bR (bM (bC (bC (bA (bA (bC (bA ?_))))))))))))))))))
   have hE:zH sl vl (prevOf el i) (⟨e0,e1,e2,e3,e4⟩:Ev)=8:=by rw [nY,h2',h3];rfl
   have hF:uC sl vl el=8:=by rw [hsc,hat,if_neg (by rw [hE];decide),hE]
   exact bK U U fun wx hm=>⟨bW (by rw [hF]),hm.g⟩
  refine bL 32 U (fH5 h3) (eG U (bB (cX bP5 U (fun _ hm=>hm.blkI 1 U) U U) U (eG U (dW vD U U (eG U (eI fE 0 U U U (eG U (cL U dN7 U U (fun wx hm=>(vZ sl sA cA vA pA sn sc cn cc vn vc pn pc e2 wx (hm.fact 0 U).1 uB (by omega))) (eG U (bB (cF U) U (nS U U (bZ U (bR ?_)))))))))))))
  rcases Bool.eq_false_or_eq_true (!(sl.any (stP e2))) with h4|h4
  ·refine gJ 26 U (fH5 h4) ?_
   have h4':(sl.any (stP e2))=false:=by simpa only [Bool.not_eq_true',Bool.not_eq_false'] using h4
   refine kQ U (bS (bZ U (bR (bM (bC (bC (bA (bA (bC (bA ?_))))))))))
   have hE:zH sl vl (prevOf el i) (⟨e0,e1,e2,e3,e4⟩:Ev)=8:=by rw [nY,h2',h3,h4'];rfl
   have hF:uC sl vl el=8:=by rw [hsc,hat,if_neg (by rw [hE];decide),hE]
   exact bK U U fun wx hm=>⟨bW (by rw [hF]),hm.g⟩
  refine gJ 26 U (fH5 h4) ?_
  have h4':(sl.any (stP e2))=true:=by simpa only [Bool.not_eq_true',Bool.not_eq_false'] using h4
  refine jU U (bS (dW cG0 U U (eI fF 0 U U U (dA U qB U U (fun wx hm=>(in_any _ _ _ wx)) (bB (cF U) U (bZ U (bR ?_)))))))
  rcases Bool.eq_false_or_eq_true (!(inB e3 1 8)) with h5|h5
  ·refine gJ 39 U (fH5 h5) ?_
   have h5':(inB e3 1 8)=false:=by simpa only [Bool.not_eq_true',Bool.not_eq_false'] using h5
   refine kQ U (bS (bZ U (bR (bM (bC (bC (bA (bA (bC (bA ?_))))))))))
   have hE:zH sl vl (prevOf el i) (⟨e0,e1,e2,e3,e4⟩:Ev)=4:=by rw [nY,h2',h3,h4',h5'];rfl
   have hF:uC sl vl el=4:=by rw [hsc,hat,if_neg (by rw [hE];decide),hE]
   exact bK U U fun wx hm=>⟨bW (by rw [hF]),hm.g⟩
  refine gJ 39 U (fH5 h5) ?_
  have h5':(inB e3 1 8)=true:=by simpa only [Bool.not_eq_true',Bool.not_eq_false'] using h5
  refine jU U (bS (dW uL U U (eI fE 0 U U U (bB (vT U U) U (bP U ?_)))))
  rcases Bool.eq_false_or_eq_true (!(e4.toList==(⟨#[]⟩:ByteArray).toList)) with h6|h6
  ·refine bL 48 U (fH5 h6) ?_
   have h6':(e4.toList==(⟨#[]⟩:ByteArray).toList)=false:=by simpa only [Bool.not_eq_true',Bool.not_eq_false'] using h6
   refine eG U (bP U (eG U (bB (cF U) U (mQ U U (bZ U (bR ?_))))))
   rcases Bool.eq_false_or_eq_true (!(decide (e3=6))) with h7|h7
   ·refine gJ 44 U (fH5 h7) ?_
    have h7':(decide (e3=6))=false:=by simpa only [Bool.not_eq_true',Bool.not_eq_false'] using h7
    refine kQ U (bS (bZ U (bR (bM (bC (bC (bA (bA (bC (bA ?_))))))))))
    have hE:zH sl vl (prevOf el i) (⟨e0,e1,e2,e3,e4⟩:Ev)=3:=by rw [nY,h2',h3,h4',h5',h6',h7'];rfl
    have hF:uC sl vl el=3:=by rw [hsc,hat,if_neg (by rw [hE];decide),hE]
    exact bK U U fun wx hm=>⟨bW (by rw [hF]),hm.g⟩
   refine gJ 44 U (fH5 h7) ?_
   have h7':(decide (e3=6))=true:=by simpa only [Bool.not_eq_true',Bool.not_eq_false'] using h7
   refine jU U (bS (bP U (bP U (bL 54 U (fH5 (show (decide (e3=6))=true from h7')) (eG U (bB (cX bP5 U (fun _ hm=>hm.blkI 1 U) U U) U (eG U (dW uL U U (eG U (eI fE 0 U U U (eG U (cL U dN7 U U (fun wx hm=>(vZ sl sA cA vA pA sn sc cn cc vn vc pn pc e4 wx (hm.fact 0 U).1 uB (by omega))) (eG U (bB (cF U) U (mQ U U (bZ U (bR ?_)))))))))))))))))
   rcases Bool.eq_false_or_eq_true (!(sl.any (stP e4))) with h8|h8
   ·refine gJ 52 U (fH5 h8) ?_
    have h8':(sl.any (stP e4))=false:=by simpa only [Bool.not_eq_true',Bool.not_eq_false'] using h8
    refine kQ U (bS (bZ U (bR (bM (bC (bC (bA (bA (bC (bA ?_))))))))))
    have hE:zH sl vl (prevOf el i) (⟨e0,e1,e2,e3,e4⟩:Ev)=8:=by rw [nY,h2',h3,h4',h5',h6',h7',h8'];rfl
    have hF:uC sl vl el=8:=by rw [hsc,hat,if_neg (by rw [hE];decide),hE]
    exact bK U U fun wx hm=>⟨bW (by rw [hF]),hm.g⟩
   refine gJ 52 U (fH5 h8) ?_
   have h8':(sl.any (stP e4))=true:=by simpa only [Bool.not_eq_true',Bool.not_eq_false'] using h8
   refine jU U (bS (dW uL U U (eI fE 0 U U U (dW vD U U (eI fE 0 U U U (bB (eR U U) U (bZ U (bR ?_))))))))
   rcases Bool.eq_false_or_eq_true (e4.toList==e2.toList) with h9|h9
   ·refine gJ 61 U (fH5 h9) ?_
    refine kQ U (bS (bZ U (bR (bM (bC (bC (bA (bA (bC (bA ?_))))))))))
    have hE:zH sl vl (prevOf el i) (⟨e0,e1,e2,e3,e4⟩:Ev)=14:=by rw [nY,h2',h3,h4',h5',h6',h7',h8',h9];rfl
    have hF:uC sl vl el=14:=by rw [hsc,hat,if_neg (by rw [hE];decide),hE]
    exact bK U U fun wx hm=>⟨bW (by rw [hF]),hm.g⟩
   refine gJ 61 U (fH5 h9) (jU U (bH (gd (fun wz=>Blk wz g2 74 [.int .i64 e0,.string e1,.string e2,.int .i64 e3,.string e4]/\(bU dP 5 74 w.heap.size none (some ⟨b,off,none⟩) en el) wz/\True) mixed (fun _ hm=>⟨hm.bl 0,hm.fa 2,trivial⟩) fun z=>wq 0 U (bJ U) (wq 1 U (eJ U U) (wq 2 U (bJ U) ?_)))))
   by_cases h0:i=0
   ·refine dG 70 U (fH5 (decide_eq_false (by omega))) ?_
    refine dG 69 U (fH5 (decide_eq_false (by omega))) ?_
    have hO:evO (prevOf el i) (⟨e0,e1,e2,e3,e4⟩:Ev)=false:=by rw [mJ h0];rfl
    refine fC 3 U (fC 4 U (fC 5 U (fC 6 U (fC 7 U (fC 8 U (fC 9 U (fC 10 U (wq 11 U (fN U U) (wq 12 U (cU U) (jH (bD (jU U (bN (bG (bG (bD (bI (gN U U (bP U (bE ?_))))))))))))))))))))
    have hE:zH sl vl (prevOf el i) (⟨e0,e1,e2,e3,e4⟩:Ev)=0:=by rw [nY,h2',h3,h4',h5',h6',h7',h8',h9,hO];rfl
    exact cQ (i+1) ⟨by omega,by rw [hsc,hat,if_pos hE]⟩ (by omega) ⟨U,U,U,U,(cS (by omega)),trivial⟩ (fun _ hm=>hm.pick [1] [] [0,1,2] U U)
   refine dG 70 U (fH5 (decide_eq_true (by omega))) (dG 69 U (fH5 (decide_eq_true (by omega))) ?_)
   obtain ⟨yy,hy⟩:∃x,el[i - 1]?=some x:=⟨_,fJ5 (by omega)⟩
   obtain ⟨p0,p1,p2,p3,p4⟩:=yy
   obtain ⟨hp0,_,_,_,_⟩:=vN _ (fK5 hy)
   have hp0: -4000000000000000000<=p0/\p0<=4000000000000000000:=hp0
   have hpo:=jS h0 hy
   refine fI 3 U (bJ U) (fI 4 U (bJ U) (fI 5 U (ov_sub U U (by omega) (by omega)) (dG 73 (v':= .int .i64 (((i - 1):Nat):Int)) U (fI5 (by omega)) (fI 6 U (bT (j:=(i - 1)) kE U U (by omega)) (fI 7 U (dO (vs:= [.int .i64 p0,.string p1,.string p2,.int .i64 p3,.string p4]) fR U (fun _ hm=>(hm.2.1).1) hy U U) (fI 8 U (cX fR U (fun _ hm=>hm.1) U U) (eC 9 U (eG U (cL (v:= .int .i64 (jQ (⟨p0,p1,p2,p3,p4⟩:Ev) (⟨e0,e1,e2,e3,e4⟩:Ev))) U dO7 U U (fun wx hm=>(bN3 p0 p1 p2 p3 p4 e0 e1 e2 e3 e4 wx)) (bE (nw 13 1023 (fun _ hm=>⟨hm.bl 0,hm.fa 2,trivial⟩) fun z=>fI 10 U (mO U U) (wq 11 U (fD U U) (wq 12 U (cU U) (jH (bD ?_)))))))))))))))
   rcases Bool.eq_false_or_eq_true (decide (0<=jQ (⟨p0,p1,p2,p3,p4⟩:Ev) (⟨e0,e1,e2,e3,e4⟩:Ev))) with h10|h10
   ·refine gJ 67 U (fH5 h10) ?_
    have hO:evO (prevOf el i) (⟨e0,e1,e2,e3,e4⟩:Ev)=true:=by rw [hpo];exact h10
    refine kQ U (bS (bZ U (bR (bM (bC (bC (bA (bA (bC (bA ?_))))))))))
    have hE:zH sl vl (prevOf el i) (⟨e0,e1,e2,e3,e4⟩:Ev)=7:=by rw [nY,h2',h3,h4',h5',h6',h7',h8',h9,hO];rfl
    have hF:uC sl vl el=7:=by rw [hsc,hat,if_neg (by rw [hE];decide),hE]
    exact bK U U fun wx hm=>⟨bW (by rw [hF]),hm.g⟩
   refine gJ 67 U (fH5 h10) ?_
   have hO:evO (prevOf el i) (⟨e0,e1,e2,e3,e4⟩:Ev)=false:=by rw [hpo];exact h10
   refine jU U (bN (bG (bG (bD (bI (gN U U (bP U (bE ?_))))))))
   have hE:zH sl vl (prevOf el i) (⟨e0,e1,e2,e3,e4⟩:Ev)=0:=by rw [nY,h2',h3,h4',h5',h6',h7',h8',h9,hO];rfl
   exact cQ (i+1) ⟨by omega,by rw [hsc,hat,if_pos hE]⟩ (by omega) ⟨U,U,U,U,(cS (by omega)),trivial⟩ (fun _ hm=>hm.pick [1] [] [0,1,2] U U)
  refine bL 48 U (fH5 h6) ?_
  have h6':(e4.toList==(⟨#[]⟩:ByteArray).toList)=true:=by simpa only [Bool.not_eq_true',Bool.not_eq_false'] using h6
  refine dY U (dY U (nS U U (bZ U (bR (jU U (bS (bP U (bP U ?_))))))))
  rcases Bool.eq_false_or_eq_true (decide (e3=6)) with h7|h7
  ·refine bL 54 U (fH5 h7) ?_
   refine eG U (bB (cX bP5 U (fun _ hm=>hm.blkI 1 U) U U) U (eG U (dW uL U U (eG U (eI fE 0 U U U (eG U (cL U dN7 U U (fun wx hm=>(vZ sl sA cA vA pA sn sc cn cc vn vc pn pc e4 wx (hm.fact 0 U).1 uB (by omega))) (eG U (bB (cF U) U (mQ U U (bZ U (bR ?_))))))))))))
   rcases Bool.eq_false_or_eq_true (!(sl.any (stP e4))) with h8|h8
   ·refine gJ 52 U (fH5 h8) ?_
    have h8':(sl.any (stP e4))=false:=by simpa only [Bool.not_eq_true',Bool.not_eq_false'] using h8
    refine kQ U (bS (bZ U (bR (bM (bC (bC (bA (bA (bC (bA ?_))))))))))
    have hE:zH sl vl (prevOf el i) (⟨e0,e1,e2,e3,e4⟩:Ev)=8:=by rw [nY,h2',h3,h4',h5',h6',h7,h8'];rfl
    have hF:uC sl vl el=8:=by rw [hsc,hat,if_neg (by rw [hE];decide),hE]
    exact bK U U fun wx hm=>⟨bW (by rw [hF]),hm.g⟩
   refine gJ 52 U (fH5 h8) ?_
   have h8':(sl.any (stP e4))=true:=by simpa only [Bool.not_eq_true',Bool.not_eq_false'] using h8
   refine jU U (bS (dW uL U U (eI fE 0 U U U (dW vD U U (eI fE 0 U U U (bB (eR U U) U (bZ U (bR ?_))))))))
   rcases Bool.eq_false_or_eq_true (e4.toList==e2.toList) with h9|h9
   ·refine gJ 61 U (fH5 h9) ?_
    refine kQ U (bS (bZ U (bR (bM (bC (bC (bA (bA (bC (bA ?_))))))))))
    have hE:zH sl vl (prevOf el i) (⟨e0,e1,e2,e3,e4⟩:Ev)=14:=by rw [nY,h2',h3,h4',h5',h6',h7,h8',h9];rfl
    have hF:uC sl vl el=14:=by rw [hsc,hat,if_neg (by rw [hE];decide),hE]
    exact bK U U fun wx hm=>⟨bW (by rw [hF]),hm.g⟩
   refine gJ 61 U (fH5 h9) (jU U (bH (gd (fun wz=>Blk wz g2 74 [.int .i64 e0,.string e1,.string e2,.int .i64 e3,.string e4]/\(bU dP 5 74 w.heap.size none (some ⟨b,off,none⟩) en el) wz/\True) mixed (fun _ hm=>⟨hm.bl 0,hm.fa 2,trivial⟩) fun z=>wq 0 U (bJ U) (wq 1 U (eJ U U) (wq 2 U (bJ U) ?_)))))
   by_cases h0:i=0
   ·refine dG 70 U (fH5 (decide_eq_false (by omega))) ?_
    refine dG 69 U (fH5 (decide_eq_false (by omega))) ?_
    have hO:evO (prevOf el i) (⟨e0,e1,e2,e3,e4⟩:Ev)=false:=by rw [mJ h0];rfl
    refine fC 3 U (fC 4 U (fC 5 U (fC 6 U (fC 7 U (fC 8 U (fC 9 U (fC 10 U (wq 11 U (fN U U) (wq 12 U (cU U) (jH (bD (jU U (bN (bG (bG (bD (bI (gN U U (bP U (bE ?_))))))))))))))))))))
    have hE:zH sl vl (prevOf el i) (⟨e0,e1,e2,e3,e4⟩:Ev)=0:=by rw [nY,h2',h3,h4',h5',h6',h7,h8',h9,hO];rfl
    exact cQ (i+1) ⟨by omega,by rw [hsc,hat,if_pos hE]⟩ (by omega) ⟨U,U,U,U,(cS (by omega)),trivial⟩ (fun _ hm=>hm.pick [1] [] [0,1,2] U U)
   refine dG 70 U (fH5 (decide_eq_true (by omega))) (dG 69 U (fH5 (decide_eq_true (by omega))) ?_)
   obtain ⟨yy,hy⟩:∃x,el[i - 1]?=some x:=⟨_,fJ5 (by omega)⟩
   obtain ⟨p0,p1,p2,p3,p4⟩:=yy
   obtain ⟨hp0,_,_,_,_⟩:=vN _ (fK5 hy)
   have hp0: -4000000000000000000<=p0/\p0<=4000000000000000000:=hp0
   have hpo:=jS h0 hy
   refine fI 3 U (bJ U) (fI 4 U (bJ U) (fI 5 U (ov_sub U U (by omega) (by omega)) (dG 73 (v':= .int .i64 (((i - 1):Nat):Int)) U (fI5 (by omega)) (fI 6 U (bT (j:=(i - 1)) kE U U (by omega)) (fI 7 U (dO (vs:= [.int .i64 p0,.string p1,.string p2,.int .i64 p3,.string p4]) fR U (fun _ hm=>(hm.2.1).1) hy U U) (fI 8 U (cX fR U (fun _ hm=>hm.1) U U) (eC 9 U (eG U (cL (v:= .int .i64 (jQ (⟨p0,p1,p2,p3,p4⟩:Ev) (⟨e0,e1,e2,e3,e4⟩:Ev))) U dO7 U U (fun wx hm=>(bN3 p0 p1 p2 p3 p4 e0 e1 e2 e3 e4 wx)) (bE (nw 13 1023 (fun _ hm=>⟨hm.bl 0,hm.fa 2,trivial⟩) fun z=>fI 10 U (mO U U) (wq 11 U (fD U U) (wq 12 U (cU U) (jH (bD ?_)))))))))))))))
   rcases Bool.eq_false_or_eq_true (decide (0<=jQ (⟨p0,p1,p2,p3,p4⟩:Ev) (⟨e0,e1,e2,e3,e4⟩:Ev))) with h10|h10
   ·refine gJ 67 U (fH5 h10) ?_
    have hO:evO (prevOf el i) (⟨e0,e1,e2,e3,e4⟩:Ev)=true:=by rw [hpo];exact h10
    refine kQ U (bS (bZ U (bR (bM (bC (bC (bA (bA (bC (bA ?_))))))))))
    have hE:zH sl vl (prevOf el i) (⟨e0,e1,e2,e3,e4⟩:Ev)=7:=by rw [nY,h2',h3,h4',h5',h6',h7,h8',h9,hO];rfl
    have hF:uC sl vl el=7:=by rw [hsc,hat,if_neg (by rw [hE];decide),hE]
    exact bK U U fun wx hm=>⟨bW (by rw [hF]),hm.g⟩
   refine gJ 67 U (fH5 h10) ?_
   have hO:evO (prevOf el i) (⟨e0,e1,e2,e3,e4⟩:Ev)=false:=by rw [hpo];exact h10
   refine jU U (bN (bG (bG (bD (bI (gN U U (bP U (bE ?_))))))))
   have hE:zH sl vl (prevOf el i) (⟨e0,e1,e2,e3,e4⟩:Ev)=0:=by rw [nY,h2',h3,h4',h5',h6',h7,h8',h9,hO];rfl
   exact cQ (i+1) ⟨by omega,by rw [hsc,hat,if_pos hE]⟩ (by omega) ⟨U,U,U,U,(cS (by omega)),trivial⟩ (fun _ hm=>hm.pick [1] [] [0,1,2] U U)
  refine bL 54 U (fH5 h7) (dY U (dY U (dY U (dY U (dY U (nS U U (bZ U (bR (jU U (bS (dW uL U U (eI fE 0 U U U (dW vD U U (eI fE 0 U U U (bB (eR U U) U (bZ U (bE (bD ?_))))))))))))))))))
  rcases Bool.eq_false_or_eq_true (e4.toList==e2.toList) with h8|h8
  ·refine gJ 61 U (fH5 h8) ?_
   refine kQ U (bS (bZ U (bR (bM (bC (bC (bA (bA (bC (bA ?_))))))))))
   have hE:zH sl vl (prevOf el i) (⟨e0,e1,e2,e3,e4⟩:Ev)=14:=by rw [nY,h2',h3,h4',h5',h6',h7,h8];rfl
   have hF:uC sl vl el=14:=by rw [hsc,hat,if_neg (by rw [hE];decide),hE]
   exact bK U U fun wx hm=>⟨bW (by rw [hF]),hm.g⟩
  refine gJ 61 U (fH5 h8) (jU U (bH (gd (fun wz=>Blk wz g2 74 [.int .i64 e0,.string e1,.string e2,.int .i64 e3,.string e4]/\(bU dP 5 74 w.heap.size none (some ⟨b,off,none⟩) en el) wz/\True) mixed (fun _ hm=>⟨hm.bl 0,hm.fa 2,trivial⟩) fun z=>wq 0 U (bJ U) (wq 1 U (eJ U U) (wq 2 U (bJ U) ?_)))))
  by_cases h0:i=0
  ·refine dG 70 U (fH5 (decide_eq_false (by omega))) ?_
   refine dG 69 U (fH5 (decide_eq_false (by omega))) ?_
   have hO:evO (prevOf el i) (⟨e0,e1,e2,e3,e4⟩:Ev)=false:=by rw [mJ h0];rfl
   refine fC 3 U (fC 4 U (fC 5 U (fC 6 U (fC 7 U (fC 8 U (fC 9 U (fC 10 U (wq 11 U (fN U U) (wq 12 U (cU U) (jH (bD (jU U (bN (bG (bG (bD (bI (gN U U (bP U (bE ?_))))))))))))))))))))
   have hE:zH sl vl (prevOf el i) (⟨e0,e1,e2,e3,e4⟩:Ev)=0:=by rw [nY,h2',h3,h4',h5',h6',h7,h8,hO];rfl
   exact cQ (i+1) ⟨by omega,by rw [hsc,hat,if_pos hE]⟩ (by omega) ⟨U,U,U,U,(cS (by omega)),trivial⟩ (fun _ hm=>hm.pick [1] [] [0,1,2] U U)
  refine dG 70 U (fH5 (decide_eq_true (by omega))) (dG 69 U (fH5 (decide_eq_true (by omega))) ?_)
  obtain ⟨yy,hy⟩:∃x,el[i - 1]?=some x:=⟨_,fJ5 (by omega)⟩
  obtain ⟨p0,p1,p2,p3,p4⟩:=yy
  obtain ⟨hp0,_,_,_,_⟩:=vN _ (fK5 hy)
  have hp0: -4000000000000000000<=p0/\p0<=4000000000000000000:=hp0
  have hpo:=jS h0 hy
  refine fI 3 U (bJ U) (fI 4 U (bJ U) (fI 5 U (ov_sub U U (by omega) (by omega)) (dG 73 (v':= .int .i64 (((i - 1):Nat):Int)) U (fI5 (by omega)) (fI 6 U (bT (j:=(i - 1)) kE U U (by omega)) (fI 7 U (dO (vs:= [.int .i64 p0,.string p1,.string p2,.int .i64 p3,.string p4]) fR U (fun _ hm=>(hm.2.1).1) hy U U) (fI 8 U (cX fR U (fun _ hm=>hm.1) U U) (eC 9 U (eG U (cL (v:= .int .i64 (jQ (⟨p0,p1,p2,p3,p4⟩:Ev) (⟨e0,e1,e2,e3,e4⟩:Ev))) U dO7 U U (fun wx hm=>(bN3 p0 p1 p2 p3 p4 e0 e1 e2 e3 e4 wx)) (bE (nw 13 1023 (fun _ hm=>⟨hm.bl 0,hm.fa 2,trivial⟩) fun z=>fI 10 U (mO U U) (wq 11 U (fD U U) (wq 12 U (cU U) (jH (bD ?_)))))))))))))))
  rcases Bool.eq_false_or_eq_true (decide (0<=jQ (⟨p0,p1,p2,p3,p4⟩:Ev) (⟨e0,e1,e2,e3,e4⟩:Ev))) with h9|h9
  ·refine gJ 67 U (fH5 h9) ?_
   have hO:evO (prevOf el i) (⟨e0,e1,e2,e3,e4⟩:Ev)=true:=by rw [hpo];exact h9
   refine kQ U (bS (bZ U (bR (bM (bC (bC (bA (bA (bC (bA ?_))))))))))
   have hE:zH sl vl (prevOf el i) (⟨e0,e1,e2,e3,e4⟩:Ev)=7:=by rw [nY,h2',h3,h4',h5',h6',h7,h8,hO];rfl
   have hF:uC sl vl el=7:=by rw [hsc,hat,if_neg (by rw [hE];decide),hE]
   exact bK U U fun wx hm=>⟨bW (by rw [hF]),hm.g⟩
  refine gJ 67 U (fH5 h9) ?_
  have hO:evO (prevOf el i) (⟨e0,e1,e2,e3,e4⟩:Ev)=false:=by rw [hpo];exact h9
  refine jU U (bN (bG (bG (bD (bI (gN U U (bP U (bE ?_))))))))
  have hE:zH sl vl (prevOf el i) (⟨e0,e1,e2,e3,e4⟩:Ev)=0:=by rw [nY,h2',h3,h4',h5',h6',h7,h8,hO];rfl
  exact cQ (i+1) ⟨by omega,by rw [hsc,hat,if_pos hE]⟩ (by omega) ⟨U,U,U,U,(cS (by omega)),trivial⟩ (fun _ hm=>hm.pick [1] [] [0,1,2] U U)
 refine dE (bF (bF (bY (bD (bS (bZ U (bR (bM ?_))))))))
 exact bK U U fun wx hm=>⟨bW (by rw [hsc,scanE_end _ _ _ _ (by omega)]),hm.g⟩
section
variable {α:Type}
def uO (lt:α->α->Bool):Nat->List α->List α
 |0,l=>l
 |j+1,l=>match l[j+1]?,l[j]? with
  |some x,some y=>if lt x y then uO lt j ((l.set (j+1) y).set j x) else l
  |_,_=>l
def pV (lt:α->α->Bool):Nat->Nat->List α->List α
 |0,_,l=>l
 |f+1,i,l=>pV lt f (i+1) (uO lt i l)
def dR (lt:α->α->Bool) (l:List α):List α:=pV lt (l.length - 1) 1 l
theorem bR5 {lt:α->α->Bool} {j:Nat} {l:List α} {x y:α} (hx:l[j+1]?=some x) (hy:l[j]?=some y) (h:lt x y=true):uO lt (j+1) l=uO lt j ((l.set (j+1) y).set j x):=by
 simp only [uO,hx,hy,h,if_true]
theorem bK9 {lt:α->α->Bool} {j:Nat} {l:List α} {x y:α} (hx:l[j+1]?=some x) (hy:l[j]?=some y) (h:lt x y=false):uO lt (j+1) l=l:=by
 simp only [uO,hx,hy,h,Bool.false_eq_true,if_false]
theorem xR (lt:α->α->Bool):∀(j:Nat) (l:List α),(uO lt j l).length=l.length
 |0,_=>rfl
 |j+1,l=>by
  unfold uO
  split
  ·split
   ·rw [xR lt j];simp
   ·rfl
  ·rfl
theorem cK0 (lt:α->α->Bool):∀(f i:Nat) (l:List α),(pV lt f i l).length=l.length
 |0,_,_=>rfl
 |f+1,i,l=>by
  unfold pV
  rw [cK0 lt f,xR]
theorem qG (lt:α->α->Bool) (l:List α):(dR lt l).length=l.length:=cK0 lt _ _ _
theorem dT6 {l:List α} {j:Nat} {x y:α} (hx:l[j+1]?=some x) (hy:l[j]?=some y):((l.set (j+1) y).set j x).Perm l:=by
 obtain ⟨h1,rfl⟩:=List.getElem?_eq_some_iff.1 hx
 obtain ⟨h2,rfl⟩:=List.getElem?_eq_some_iff.1 hy
 have e:l=l.take j++l[j]::l[j+1]::l.drop (j+2):=by
  conv=>lhs;rw [<-List.take_append_drop j l,List.drop_eq_getElem_cons h2,List.drop_eq_getElem_cons h1]
 have hl:(l.take j).length=j:=by simp;omega
 have e2:(l.set (j+1) l[j]).set j l[j+1]=l.take j++l[j+1]::l[j]::l.drop (j+2):=by
  refine List.ext_getElem? fun k=>?_
  rw [List.getElem?_set,List.length_set,List.getElem?_set]
  rcases Nat.lt_trichotomy k j with hk|rfl|hk
  ·rw [if_neg (by omega),if_neg (by omega),List.getElem?_append_left (by rw [hl];exact hk),List.getElem?_take,if_pos hk]
  ·rw [if_pos rfl,if_pos h2,List.getElem?_append_right (by omega),hl,Nat.sub_self];rfl
  ·rw [if_neg (by omega),List.getElem?_append_right (by omega),hl]
   rcases Nat.lt_trichotomy k (j+1) with h3|rfl|h3
   ·omega
   ·rw [if_pos rfl,if_pos h1,show j+1 - j=1 by omega];rfl
   ·rw [if_neg (by omega),show k - j=(k - (j+2))+2 by omega]
    simp only [List.getElem?_cons_succ,List.getElem?_drop]
    congr 1;omega
 rw [e2]
 conv=>rhs;rw [e]
 exact List.Perm.append_left _ (List.Perm.swap _ _ _)
theorem bQ7 (lt:α->α->Bool):∀(j:Nat) (l:List α),(uO lt j l).Perm l
 |0,_=>List.Perm.refl _
 |j+1,l=>by
  unfold uO
  split
  ·rename_i x y hx hy
   split
   ·exact (bQ7 lt j _).trans (dT6 hx hy)
   ·exact List.Perm.refl _
  ·exact List.Perm.refl _
theorem bW0 (lt:α->α->Bool):∀(f i:Nat) (l:List α),(pV lt f i l).Perm l
 |0,_,_=>List.Perm.refl _
 |f+1,i,l=>(bW0 lt f (i+1) _).trans (bQ7 lt i l)
theorem mM (lt:α->α->Bool) (l:List α):(dR lt l).Perm l:=bW0 lt _ _ _
theorem eG7 {lt:α->α->Bool} {l0 R S m:List α} {f i j:Nat} (hR:R=dR lt l0) (hF:pV lt f i S=R) (hS:uO lt j m=S) {z:α} (hz:z∈m):z∈l0:=by
 have h1:z∈S:=by rw [<-hS];exact (bQ7 lt j m).mem_iff.2 hz
 have h2:z∈R:=by rw [<-hF];exact (bW0 lt f i S).mem_iff.2 h1
 rw [hR] at h2
 exact (mM lt l0).mem_iff.1 h2
theorem bG7 {lt:α->α->Bool} {l:List α} {x:α}:x∈dR lt l↔x∈l:=(mM lt l).mem_iff
end
section
variable {P:Program} {c:Cx} {eU:Array Oper} {Q:Exit->Act->World->Prop} {rest:List Oper} {S:List (Nat×Value)} {K:World->Prop} {L:List (Nat×TypeId×List Value)} {O:List Own} {X:List (World->Prop)} {d:Nat} {ty:TypeId} {pos:String} {aft:Array Edge}
theorem bV2 {n0:Nat} {Tt:List TypeId} {w:World} {base:Nat} {e:TypeId} {sz n eV g:Nat} {xs:List Value} (hS:w.ownsRow base e sz (.slice (some ⟨g,0,none⟩) n eV) n xs) (hX:∀A∈X,A w) (hl:∀A∈X,Lasts2 w.heap.size (some g) Tt A):gM ⟨n0,w,some g,Tt⟩ (gG base e sz n eV g xs) [] [] X w:=
 have hS2:gG base e sz n eV g xs w:=hS
 ⟨World.grownBy.refl _ _,hS2,(fun _ hx=>by cases hx),List.Pairwise.nil,(fun _ hx=>by cases hx),(fun _ hx=>by cases hx),List.Pairwise.nil,hX,gG.keeps hS2.lt.2,hl,(fun _ hr=>by cases hr;exact hS2.lt.2)⟩
theorem gM.turned {base g n eV sz:Nat} {e:TypeId} {xs xs':List Value} {w w':World} (h:gM c (gG base e sz n eV g xs) L O X w) (rW:c.row=some g) (hT:c.Tt.contains e=false) (hown:w'.ownsRow base e sz (.slice (some ⟨g,0,none⟩) n eV) n xs') (hg:w.grownBy w' (some g)):gM c (gG base e sz n eV g xs') L O X w':=by
 have hlt0:=h.rs g rW
 have hk:w.ownsRow base e sz (.slice (some ⟨g,0,none⟩) n eV) n xs:=h.k
 obtain ⟨cells,hcells⟩:∃cells,w.heap[g]?=some (.cells cells e (0,0)):=by
  rcases hk.2 with ⟨h1,_⟩|⟨g',cap',rC,h1,_,h2,_⟩
  ·cases h1
  ·injection h1 with h1 _ _
   injection h1 with h1
   injection h1 with h1 _ _
   subst h1
   exact ⟨_,h2⟩
 refine ⟨grow_trans h.g (rW ▸ hg),hown,fun x hx=>⟨(h.b x hx).1,(h.b x hx).2.grown hg (fun e=>?_)⟩,h.nd,fun r hr=>(h.o r hr).kept hg ?_,h.od,h.oo,fun A hA=>?_,gG.keeps hlt0,h.l,h.rs⟩
 ·have:=(h.b x hx).1;injection e with e;omega
 ·cases hv:r.v.ownBlock with
  |none=>exact .inl rfl
  |some g'=>exact .inr (fun e=>by have:=((h.o r hr).lt g' hv).1;injection e with e;omega)
 ·exact (h.l A hA).st w _ g e cells hcells (fun e=>by simp [e] at hT) (.inr rW) hg (h.x A hA)
theorem eX {α:Type} {enc:α->List Value} {t:TypeId} {x y:Operand} {base g n eV sz o j r m:Nat} {e:TypeId} {vs:List Value} {l:List α} {el el':α} (rW:c.row=some g) (hs:kR P t=some m) (hx:rd S x=some (.pointer (some ⟨g,o,none⟩))) (hy:rd S y=some (.agg vs.toArray)) (h1:vs.all (·.oneCell')=true) (hn:vs.length=m)
 (hk:∀x,(enc x).length=sz) (ho:0+j *sz+r=o) (hj:l[j]?=some el) (hl:l.length=n) (hr:r+m<=sz) (he:kD (enc el) r vs=enc el') (hT:c.Tt.contains e=false)
 (h:WL P c eU Q rest S (gG base e sz n eV g ((l.set j el').flatMap enc)) L O X):WL P c eU Q (⟨none,.store t x y,ty,pos,aft,none⟩::rest) S (gG base e sz n eV g (l.flatMap enc)) L O X:=by
 intro a w ha hm
 have hown:w.ownsRow base e sz (.slice (some ⟨g,0,none⟩) n eV) n (l.flatMap enc):=hm.k
 have hjl:=(List.getElem?_eq_some_iff.1 hj).1
 have hlt:o+m<=n *sz:=by
  have:(j+1) *sz<=n *sz:=Nat.mul_le_mul_right sz (by omega)
  rw [Nat.add_mul] at this
  omega
 obtain ⟨dd,hu,_,hi⟩:=yY hs
 rcases hown.2 with ⟨h',_⟩|⟨g',cap',rC,h',hb,hg,hnc,hcm,hcs,htake⟩
 ·simp at h'
 ·simp only [Value.slice.injEq,Option.some.injEq,Addr.mk.injEq,and_true,true_and] at h'
  obtain ⟨rfl,rfl⟩:=h'
  have hbk:Blk w g e rC.toList:=by unfold Blk;rw [Array.toArray_toList];exact hg
  have hcl:n *sz<=rC.toList.length:=by
   have:=Nat.mul_le_mul_right sz hnc
   simp [hcs];exact this
  refine wpList_store_blk U t x y U g o e rC.toList vs hbk (ha.eval hx) (ha.eval hy) m hi hn (by omega) (by simpa using h1) fun w' hb' hgr=>?_
  have hsl:=wY rC.toList o vs (by omega)
  have hfl:=bT4 enc sz hk (l.set j el')
  rw [List.length_set,hl] at hfl
  refine h _ _ ⟨ha.size,ha.val,ha.df⟩ (hm.turned rW hT ⟨hfl,.inr ⟨g,eV,(kD rC.toList o vs).toArray,U,hb,hb',hnc,hcm,by simpa [hsl] using hcs,?_⟩⟩ hgr)
  rw [List.toList_toArray,zL hcl (by omega),htake,<-ho,Nat.zero_add,vF enc sz hk hj he (by omega)]
theorem mC {f:FuncId} {x:Operand} {ags:List Operand} {ats:Array TypeId} {vs fs cs:List Value} {v:Value} {base g n eV sz:Nat} {e:TypeId} {xs xs':List Value} (rW:c.row=some g) (hT:c.Tt.contains e=false) (hx:rd S x=some (.func (.func f) fs.toArray cs.toArray)) (hf:cB P f=true) (ha:pS S ags=some vs) (hd:Nat.ble (d+1) c.n=true)
 (hC:∀w,gM c (gG base e sz n eV g xs) L O X w->Calls P f (fs++vs++cs).toArray w (fun e1 w'=>e1= .returned v/\w'.ownsRow base e sz (.slice (some ⟨g,0,none⟩) n eV) n xs'/\w.grownBy w' (some g))) (h:WL P c eU Q rest ((d,v)::S) (gG base e sz n eV g xs') L O X):
 WL P c eU Q (⟨some d,.call ⟨.value x,ags.toArray,ats⟩,ty,pos,aft,none⟩::rest) S (gG base e sz n eV g xs) L O X:=
 fO (γ:=Unit) (val:=fun _=>v) (φ:=fun _=>True) (K':=fun _=>gG base e sz n eV g xs') (L':=fun _=>L) (O':=fun _=>O) (X':=fun _=>X) hx hf ha hd (fun w hm=>(hC w hm).mono fun _ _ ⟨he,ho,hg⟩=>⟨(),he,trivial,hm.turned rW hT ho hg⟩) (fun _ _=>h)
end
theorem mD {base:Nat} {e:TypeId} {sz n eV g:Nat} {xs:List Value} {w0 w:World} (hk:gG base e sz n eV g xs w) (hg:w0.grownBy w (some g)):w.ownsRow base e sz (.slice (some ⟨g,0,none⟩) n eV) n xs/\w0.grownBy w (some g):=⟨hk,hg⟩
theorem cF0 {sl:List St} {cl:List Cs} {vl:List Vh} {pl:List Pl} (h:mK sl cl vl pl=0):bM3 vl:=by
 unfold mK at h
 exact (dU6 (pU h (bK3 cl vl) (by simp))).2
theorem dQ8 {a:Int} {r:List Int} (h:a≠0):dI (a::r)=a:=by simp [dI,h]
theorem eP5 {r:List Int}:dI (0::r)=dI r:=by simp [dI]
def cA5 (sl:List St) (cl:List Cs) (vl:List Vh) (pl:List Pl) (el:List Ev):Int:=dI [mK sl cl vl pl,uC sl vl el]
theorem eP2 {sl:List St} {cl:List Cs} {vl:List Vh} {pl:List Pl} {el:List Ev} (h:mK sl cl vl pl≠0):cA5 sl cl vl pl el=mK sl cl vl pl:=dQ8 h
theorem eQ2 {sl:List St} {cl:List Cs} {vl:List Vh} {pl:List Pl} {el:List Ev} (h:mK sl cl vl pl=0):cA5 sl cl vl pl el=uC sl vl el:=by
 unfold cA5;rw [h,eP5]
 by_cases h2:uC sl vl el=0
 ·rw [h2];rfl
 ·exact dQ8 h2
theorem eU6 {sl:List St} {cl:List Cs} {vl:List Vh} {pl:List Pl} {el:List Ev} (h:cA5 sl cl vl pl el=0):mK sl cl vl pl=0/\uC sl vl el=0:=⟨pU h _ (by simp),pU h _ (by simp)⟩
theorem dZ9 {sl:List St} {vl:List Vh} {el:List Ev} (h:uC sl vl el=0):bY2 el/\(∀x∈el,zZ sl vl x)/\el.length<=3000:=by
 unfold uC at h
 split at h
 ·cases h
 ·obtain ⟨h1,_,h3⟩:=cG8 h
  exact ⟨h1,h3,by omega⟩
theorem cX9 (sl:List St) (cl:List Cs) (vl:List Vh) (pl:List Pl) (sA cA vA pA:Option Addr) (sn sc cn cc vn vc pn pc:Nat) (el:List Ev) (eA:Option Addr) (en ec:Nat) (w:World) (hs:SlT stEnc 15 99 w sA sn sl) (hc:SlT dV 2 84 w cA cn cl) (hv:SlT fX 2 57 w vA vn vl) (hp:SlT bH3 3 293 w pA pn pl) (uB:∀x∈sl,StOk x) (bZ6:∀x∈cl,uF x) (bS2:∀x∈vl,cS9 x) (hpok:∀x∈pl,eB2 x) (zJ:sn<=1000000) (hcn:cn<=1000000) (hvn:vn<=1000000) (hpn:pn<=1000000) (hl:SlT dP 5 74 w eA en el) (vN:∀x∈el,cJ4 x) (hen:en<=1000000):
 Calls prog 33 #[.agg #[.slice sA sn sc,.slice cA cn cc,.slice vA vn vc,.slice pA pn pc],.slice eA en ec] w (nC w (cA5 sl cl vl pl el)):=by
 refine cV ⟨14,w,none, []⟩ func33 U ntmps33 U (gR (X:= [bU stEnc 15 99 w.heap.size none sA sn sl,bU dV 2 84 w.heap.size none cA cn cl,bU fX 2 57 w.heap.size none vA vn vl,bU bH3 3 293 w.heap.size none pA pn pl,bU dP 5 74 w.heap.size none eA en el]) (cG hs.old (cG hc.old (cG hv.old (cG hp.old (cG hl.old cY))))) (cH bU.lasts (cH bU.lasts (cH bU.lasts (cH bU.lasts (cH bU.lasts cZ)))))) (bS ?_)
 obtain ⟨FE,hFE⟩:∃z,z=mK sl cl vl pl:=⟨_,rfl⟩
 obtain ⟨LE,hLE⟩:∃z,z=uC sl vl el:=⟨_,rfl⟩
 refine fG U U U fun g1=>bZ U (bR (bH (bS (bB (cX bP5 U (fun _ hm=>hm.blkI 0 U) U U) U (cL (v:= .int .i64 FE) U fJ1 U U (fun wx hm=>(by rw [hFE];exact bF0 sl cl vl pl sA cA vA pA sn sc cn cc vn vc pn pc wx (hm.fact 0 rfl).1 (hm.fact 1 rfl).1 (hm.fact 2 rfl).1 (hm.fact 3 rfl).1 uB bZ6 bS2 hpok zJ hcn hvn hpn)) (bZ U (bR (bS (bP U (bB (gX U U) U (bR ?_)))))))))))
 refine gI U (fun h1=>?_) (fun h1=>?_)
 ·refine bS (bP U (bZ U (bR ?_)))
  refine bM (bA ?_)
  exact bK U U fun wx hm=>⟨bW (by rw [eP2 (by rw [<-hFE];simpa using h1)];exact hFE),hm.g⟩
 refine bN (bD (bS ?_))
 have h0:mK sl cl vl pl=0:=by rw [<-hFE];simpa using h1
 have bE3:=cF0 h0
 refine bB (cX bP5 U (fun _ hm=>hm.blkI 0 U) U U) U (bP U (cL (v:= .int .i64 LE) U fI4 U U (fun wx hm=>(by rw [hLE];exact dS4 sl vl sA cA vA pA sn sc cn cc vn vc pn pc el eA en ec wx (hm.fact 0 rfl).1 (hm.fact 2 rfl).1 uB zJ hvn (hm.fact 4 rfl).1 vN hen bE3)) (bZ U (bR (bM ?_)))))
 exact bK U U fun wx hm=>⟨bW (by rw [eQ2 h0];exact hLE),hm.g⟩
def dU (x y:Ev):Bool:=decide (jQ x y < 0)
section
variable {α:Type}
def bU2 (lt:α->α->Bool) (x:α):List α->List α
 | []=> [x]
 |y::r=>if lt x y=true then y::bU2 lt x r else x::y::r
theorem cJ0 {lt:α->α->Bool} {x z:α}:∀{l:List α},z∈bU2 lt x l->z=x∨z∈l
 | [],h=> .inl (List.mem_singleton.1 h)
 |y::r,h=>by
  unfold bU2 at h
  split at h
  ·rcases List.mem_cons.1 h with rfl|h
   ·exact .inr (List.mem_cons_self ..)
   ·rcases cJ0 h with h|h
    ·exact .inl h
    ·exact .inr (List.mem_cons_of_mem _ h)
  ·rcases List.mem_cons.1 h with h|h
   ·exact .inl h
   ·exact .inr h
theorem cY7 {lt:α->α->Bool} {x:α}:∀{l:List α},(bU2 lt x l).length=l.length+1
 | []=>rfl
 |y::r=>by
  have:=cY7 (lt:=lt) (x:=x) (l:=r)
  unfold bU2
  split
  ·rw [List.length_cons,this,List.length_cons]
  ·rw [List.length_cons]
theorem cU8 {lt:α->α->Bool}:∀{j:Nat} {l:List α} {x:α},l[j]?=some x->uO lt j l=(bU2 lt x (l.take j).reverse).reverse++l.drop (j+1)
 |0,l,x,h=>by
  obtain ⟨h1,rfl⟩:=List.getElem?_eq_some_iff.1 h
  show l= [l[0]]++l.drop 1
  rw [List.singleton_append,<-List.drop_eq_getElem_cons h1,List.drop_zero]
 |j+1,l,x,h=>by
  obtain ⟨h1,hx⟩:=List.getElem?_eq_some_iff.1 h
  obtain ⟨y,hy⟩:∃y,l[j]?=some y:=⟨_,fJ5 (by omega)⟩
  have ht:(l.take (j+1)).reverse=y::(l.take j).reverse:=by
   rw [List.take_add_one,hy];simp
  rw [ht]
  by_cases hl:lt x y=true
  ·have hs:((l.set (j+1) y).set j x)[j]?=some x:=List.getElem?_set_self (by rw [List.length_set];omega)
   rw [bR5 h hy hl,cU8 hs]
   have e1:((l.set (j+1) y).set j x).take j=l.take j:=by
    rw [List.take_set_of_le (by omega),List.take_set_of_le (by omega)]
   have e2:((l.set (j+1) y).set j x).drop (j+1)=y::l.drop (j+2):=by
    rw [List.drop_set_of_lt (by omega),List.drop_eq_getElem_cons (by rw [List.length_set];omega),List.getElem_set_self,List.drop_set_of_lt (by omega)]
   rw [e1,e2]
   unfold bU2
   rw [if_pos hl];simp
   cases (l.take j).reverse <;> rfl
  ·have hl2:lt x y=false:=by simpa using hl
   rw [bK9 h hy hl2]
   unfold bU2
   rw [if_neg hl]
   obtain ⟨h2,hy2⟩:=List.getElem?_eq_some_iff.1 hy
   conv=>lhs;rw [<-List.take_append_drop j l,List.drop_eq_getElem_cons h2,List.drop_eq_getElem_cons h1,hx,hy2]
   simp
theorem bB8 {lt:α->α->Bool}:∀(f i:Nat) (l:List α),i+f=l.length->pV lt f i l=((l.drop i).foldl (fun a x=>bU2 lt x a) (l.take i).reverse).reverse
 |0,i,l,h=>by
  rw [List.drop_eq_nil_of_le (by omega),List.take_of_length_le (by omega)]
  show l=l.reverse.reverse
  rw [List.reverse_reverse]
 |f+1,i,l,h=>by
  obtain ⟨x,hx⟩:∃x,l[i]?=some x:=⟨_,fJ5 (by omega)⟩
  obtain ⟨h1,hx1⟩:=List.getElem?_eq_some_iff.1 hx
  have hlen:(bU2 lt x (l.take i).reverse).reverse.length=i+1:=by
   rw [List.length_reverse,cY7,List.length_reverse,List.length_take];omega
  show pV lt f (i+1) (uO lt i l)=_
  rw [bB8 f (i+1) (uO lt i l) (by rw [xR];omega),cU8 hx]
  rw [show i+1=(bU2 lt x (l.take i).reverse).reverse.length from hlen.symm,List.drop_left,List.take_left,List.reverse_reverse,hlen,List.drop_eq_getElem_cons h1,hx1]
  rfl
theorem dT0 {lt:α->α->Bool} (l:List α):dR lt l=(l.foldl (fun a x=>bU2 lt x a) []).reverse:=by
 cases l with
 |nil=>rfl
 |cons x r=>
  unfold dR
  rw [bB8 _ _ _ (by rw [List.length_cons];omega)]
  rfl
theorem cK3 {lt:α->α->Bool} {R:α->α->Prop} (tr:∀a b c,R a b->R b c->R a c) {x:α}:∀{l:List α},l.Pairwise (fun a b=>R b a)->(∀y∈l,(lt x y=true->R x y)/\(lt x y=false->R y x))->(bU2 lt x l).Pairwise (fun a b=>R b a)
 | [],_,_=>List.pairwise_singleton _ _
 |y::r,hp,hc=>by
  obtain ⟨hp1,hp2⟩:=List.pairwise_cons.1 hp
  have hy:=hc y (List.mem_cons_self ..)
  unfold bU2
  split
  ·rename_i h
   refine List.pairwise_cons.2 ⟨fun z hz=>?_,cK3 (R:=R) tr hp2 fun z hz=>hc z (List.mem_cons_of_mem _ hz)⟩
   rcases cJ0 hz with rfl|hz
   ·exact hy.1 h
   ·exact hp1 z hz
  ·rename_i h
   have h2:=hy.2 (by simpa using h)
   refine List.pairwise_cons.2 ⟨fun z hz=>?_,hp⟩
   rcases List.mem_cons.1 hz with rfl|hz
   ·exact h2
   ·exact tr _ _ _ (hp1 z hz) h2
theorem cF3 {lt:α->α->Bool} {R:α->α->Prop} (tr:∀a b c,R a b->R b c->R a c):∀{l acc:List α},acc.Pairwise (fun a b=>R b a)->(∀y∈acc,∀x∈l,(lt x y=true->R x y)/\(lt x y=false->R y x))->l.Pairwise (fun y x=>(lt x y=true->R x y)/\(lt x y=false->R y x))->(l.foldl (fun a x=>bU2 lt x a) acc).Pairwise (fun a b=>R b a)
 | [],_,h,_,_=>h
 |x::r,acc,h,hc,hp=>by
  obtain ⟨hp1,hp2⟩:=List.pairwise_cons.1 hp
  refine cF3 (R:=R) tr (l:=r) (acc:=bU2 lt x acc) (cK3 (R:=R) tr h fun y hy=>hc y hy x (List.mem_cons_self ..)) (fun y hy z hz=>?_) hp2
  rcases cJ0 hy with rfl|hy
  ·exact hp1 z hz
  ·exact hc y hy z (List.mem_cons_of_mem _ hz)
theorem cL0 {lt:α->α->Bool} {R:α->α->Prop} (tr:∀a b c,R a b->R b c->R a c) {l:List α} (hp:l.Pairwise (fun y x=>(lt x y=true->R x y)/\(lt x y=false->R y x))):(dR lt l).Pairwise R:=by
 rw [dT0,List.pairwise_reverse]
 exact cF3 (R:=R) tr List.Pairwise.nil (fun _ h=>by cases h) hp
end
theorem dL8 {x y:Ev}:dU x y=true↔jQ x y < 0:=by unfold dU;exact decide_eq_true_iff
theorem cZ4 {x y:Ev}:dU x y=false↔¬jQ x y < 0:=by unfold dU;exact decide_eq_false_iff_not
theorem vX:cY1 dU:=⟨fun {x y z} h1 h2=>by
 rw [cZ4] at *
 intro h
 by_cases h3:jQ x y < 0
 ·exact h2 (uU h h3)
 ·by_cases h0:jQ y x=0
  ·rw [xX] at h0
   refine h2 ?_
   rw [vU] at h ⊢
   rw [h0.1,h0.2];exact h
  ·exact h3 (bL0 h1 h0),fun {x y} h=>by
 rw [dL8] at h
 rw [cZ4]
 exact fun h2=>bQ4 (uU h h2)⟩
def cW6 (l:List Ev):Prop:=∀x∈l,∀y∈l,jQ x y=0->x=y
theorem dP1:∀{l m:List Ev},xD dU l->xD dU m->l.Perm m->cW6 l->l=m
 | [],m,_,_,h,_=>(List.nil_perm.1 h).symm
 |x::r,m,hl,hm,h,ht=>by
  cases m with
  |nil=>exact absurd h.length_eq (by simp)
  |cons y t=>
   have hxy:x=y:=by
    have hx:x∈y::t:=h.mem_iff.1 (List.mem_cons_self ..)
    have hy:y∈x::r:=h.mem_iff.2 (List.mem_cons_self ..)
    rcases List.mem_cons.1 hx with rfl|hx
    ·rfl
    ·rcases List.mem_cons.1 hy with rfl|hy
     ·rfl
     ·have h1:=(List.pairwise_cons.1 hl).1 y hy
      have h2:=(List.pairwise_cons.1 hm).1 x hx
      rw [cZ4] at h1 h2
      refine ht x (List.mem_cons_self ..) y (List.mem_cons_of_mem _ hy) ?_
      by_cases h0:jQ x y=0
      ·exact h0
      ·exact absurd (bL0 h2 h0) h1
   subst hxy
   rw [dP1 (List.pairwise_cons.1 hl).2 (List.pairwise_cons.1 hm).2 (List.Perm.cons_inv h) fun u hu v hv=>ht u (List.mem_cons_of_mem _ hu) v (List.mem_cons_of_mem _ hv)]
theorem vW (l:List Ev):xD dU (dR dU l):=
 cL0 (R:=fun x y=>dU y x=false) (fun _ _ _ h1 h2=>vX.tr h1 h2) (List.pairwise_iff_getElem.2 fun _ _ _ _ _=>⟨fun h=>vX.asy h,fun h=>h⟩)
theorem rM (p0:Int) (p1 p2:ByteArray) (p3:Int) (p4:ByteArray) (e0:Int) (e1 e2:ByteArray) (e3:Int) (e4:ByteArray) (w:World):Calls prog 131 #[.agg #[.int .i64 p0,.string p1,.string p2,.int .i64 p3,.string p4],.agg #[.int .i64 e0,.string e1,.string e2,.int .i64 e3,.string e4]] w (nC w (jQ ⟨p0,p1,p2,p3,p4⟩ ⟨e0,e1,e2,e3,e4⟩)):=by
 refine cV ⟨17,w,none, []⟩ func131 U ntmps131 U (gR (X:= []) cY cZ) (bS (fG U U U fun g1=>fG U U U fun g2=>bZ U (bR (bH (gd (fun wz=>Blk wz g2 74 [.int .i64 e0,.string e1,.string e2,.int .i64 e3,.string e4]/\Blk wz g1 74 [.int .i64 p0,.string p1,.string p2,.int .i64 p3,.string p4]/\True) mixed (fun _ hm=>⟨hm.bl 0,hm.bl 1,trivial⟩) fun z=>wq 0 U (bQ nE U U) (wq 1 U (cN fF U (fun _ hm=>hm.2.1) U) (wq 2 U (bQ nE U U) (wq 3 U (cN fF U (fun _ hm=>hm.1) U) (wq 5 U (bQ rD U U) (wq 6 U (cN fE U (fun _ hm=>hm.2.1) U) (wq 7 U (bQ rD U U) (wq 8 U (cN fE U (fun _ hm=>hm.1) U) (eC 4 U (cL U dT7 U U (fun wx hm=>(bO4 _ _ wx)) (bE (nw 13 511 (fun _ hm=>⟨hm.bl 0,hm.bl 1,trivial⟩) fun z=>eC 9 U (cL U cV9 U U (fun wx hm=>(rB _ _ wx)) (bE (nw 13 1023 (fun _ hm=>⟨hm.bl 0,hm.bl 1,trivial⟩) fun z=>eC 10 U (jF 3 [.int .i64 (pD p0 e0),.int .i64 (mX p1 e1)] fun g3=>bE (nw 13 2047 (fun _ hm=>⟨hm.bl 1,hm.bl 2,trivial⟩) fun z=>eC 11 U (cL U dS7 U U (fun wx hm=>(cE6 _ _ _ _ _ wx (hm.blkI 0 U))) ?_))))))))))))))))))))))
 refine bE (nw 13 4095 (fun _ hm=>⟨hm.bl 1,hm.bl 2,trivial⟩) fun z=>wq 12 U (cU U) (jH (bD (bM ?_))))
 exact bK U U fun wx hm=>⟨bW (by unfold jQ;rfl),hm.g⟩
theorem eC7  (l0:List Ev) (br n eV base:Nat) (w:World) (h:w.ownsRow base 74 5 (.slice (some ⟨br,0,none⟩) n eV) n (l0.flatMap dP)) (uM:l0.length=n) (hn:n<=1000000) :
 Calls prog 141 #[.slice (some ⟨br,0,none⟩) n eV,.int .i64 0,.int .i64 ((n:Nat):Int),.func (.func 131) #[] #[]] w (fun e w'=>e=.returned (.tuple #[])/\w'.ownsRow base 74 5 (.slice (some ⟨br,0,none⟩) n eV) n ((dR (dU) l0).flatMap dP)/\w.grownBy w' (some br)):=by
 obtain ⟨R,hR⟩:∃z,z=dR (dU) l0:=⟨_,rfl⟩
 rw [<-hR]
 refine cV ⟨53,w,(some br), []⟩ func141 U ntmps141 U (bV2 (X:= []) h cY cZ) (bS (bP U (gN U U (bL 11 (v':= .int .i64 1) U U (bZ U (bR (bO ?_)))))))
 refine dX (γ:=Nat×List Ev) (fun gg=>(1<=gg.1/\gg.1<=n+1)/\gg.2.length=n/\pV (dU) (n - gg.1) gg.1 gg.2=R) (fun gg=> [(0,.slice (some ⟨br,0,none⟩) n eV),(1,.int .i64 0),(2,.int .i64 ((n:Nat):Int)),(3,.func (.func 131) #[] #[]),(8,.int .i64 ((gg.1:Nat):Int))]) (fun gg=>gG base 74 5 n eV br ((gg.2).flatMap dP)) (fun gg=> []) (fun gg=> []) (fun gg=> []) (fun gg=>n+1 - gg.1) (1,l0) ⟨⟨Nat.le_refl _,by omega⟩,uM,by rw [hR];unfold dR;rw [uM]⟩ ⟨U,U,U,U,(cS (by omega)),trivial⟩ (fun _ hm=>hm.pick [] [] [] U U) ?_
 rintro ⟨i,l⟩ cC
 replace cC:(1<=i/\i<=n+1)/\l.length=n/\pV (dU) (n - i) i l=R:=cC
 dsimp only
 refine bH (bS ?_)
 obtain ⟨⟨hi1,vO⟩,hl1,hR1⟩:=cC
 refine bP U (bP U (bB (dD U U) U (bR ?_)))
 refine cE U (fun hi=>?_) (fun hi=>?_)
 ·refine bN (bD (bH (bO (bS ?_))))
  have hRi:pV (dU) (n - (i+1)) (i+1) (uO (dU) i l)=R:=by rw [<-hR1,show n - i=(n - (i+1))+1 by omega];rfl
  obtain ⟨S,hS⟩:∃z,z=uO (dU) i l:=⟨_,rfl⟩
  rw [<-hS] at hRi
  have hSl:S.length=n:=by rw [hS,xR];exact hl1
  refine bP U (bZ U (bR (bO ?_)))
  refine dX (γ:=Nat×List Ev) (fun gg=>(gg.1<=i)/\gg.2.length=n/\uO (dU) gg.1 gg.2=S) (fun gg=> [(0,.slice (some ⟨br,0,none⟩) n eV),(1,.int .i64 0),(2,.int .i64 ((n:Nat):Int)),(3,.func (.func 131) #[] #[]),(8,.int .i64 ((i:Nat):Int)),(9,.int .i64 ((gg.1:Nat):Int))]) (fun gg=>gG base 74 5 n eV br ((gg.2).flatMap dP)) (fun gg=> []) (fun gg=> []) (fun gg=> []) (fun gg=>gg.1) (i,l) ⟨Nat.le_refl _,hl1,hS.symm⟩ ⟨U,U,U,U,U,U,trivial⟩ (fun _ hm=>hm.pick [] [] [] U U) ?_
  rintro ⟨jj,m⟩ cC
  replace cC:(jj<=i)/\m.length=n/\uO (dU) jj m=S:=cC
  dsimp only
  refine bH (bH ?_)
  obtain ⟨hj1,pQ,hS1⟩:=cC
  rcases jj with _|j
  ·refine gd (fun wz=>True) mixed (fun _ _=>trivial) fun z=>?_
   refine wq 0 U (bJ U) (dG 18 (v':= .int .i64 0) U U (wq 1 U (bJ U) (wq 2 U (eJ U U) (dG 20 (v':= .bool false) U (fH5 (by decide)) (wq 3 U (bJ U) (fC 4 U (fC 5 U (fC 6 U (fC 7 U (fC 8 U (fC 9 U (fC 10 U (fC 11 U (fC 12 U (fC 13 U (fC 14 U (fC 15 U (wq 16 U (fN U U) (jH (bD (jU U (dE (bF (bF (bY ?_)))))))))))))))))))))))))
   refine bG (bD (bI (bP U (gN U U (bZ U (bE ?_))))))
   have hm2:m=S:=hS1
   exact cQ (i+1,m) ⟨⟨by dsimp only;omega,by dsimp only;omega⟩,by rw [hm2];exact hSl,by rw [hm2];exact hRi⟩ (by dsimp only;omega) ⟨U,U,U,U,(cS (by omega)),trivial⟩ (fun _ hm=>hm.pick [] [] [] U U)
  have hj2:j+1 < n:=by omega
  obtain ⟨xx,hx⟩:∃x,m[j+1]?=some x:=⟨_,fJ5 (by omega)⟩
  obtain ⟨x0,x1,x2,x3,x4⟩:=xx
  obtain ⟨yy,hy⟩:∃x,m[j]?=some x:=⟨_,fJ5 (by omega)⟩
  obtain ⟨y0,y1,y2,y3,y4⟩:=yy
  refine gd (fun wz=>(gG base 74 5 n eV br ((m).flatMap dP)) wz/\True) mixed (fun _ hm=>⟨hm.k,trivial⟩) fun z=>wq 0 U (bJ U) (wq 1 U (bJ U) (wq 2 U (eJ U U) (dG 20 (v':= .bool true) U (fH5 (decide_eq_true (by omega))) (wq 3 U (bJ U) (fI 4 U (bJ U) (fI 5 U (bJ U) (fI 6 U (bJ U) (fI 7 U (bT (j:=(j+1)) kE U U (by omega)) (fI 8 U (dO (vs:= [.int .i64 x0,.string x1,.string x2,.int .i64 x3,.string x4]) fR U (fun _ hm=>(gG.get (hm.1) fB pQ)) hx U U) (fI 9 U (bJ U) (fI 10 U (bJ U) (fI 11 U (ov_sub U U (by omega) (by omega)) (dG 29 (v':= .int .i64 ((j:Nat):Int)) U (fI5 (by omega)) (fI 12 U (bT (j:=j) kE U U (by omega)) (fI 13 U (dO (vs:= [.int .i64 y0,.string y1,.string y2,.int .i64 y3,.string y4]) fR U (fun _ hm=>(gG.get (hm.1) fB pQ)) hy U U) (eC 14 U (eG U (cL U bX7 U U (fun wx hm=>(rM x0 x1 x2 x3 x4 y0 y1 y2 y3 y4 wx)) (bE (nw 17 32767 (fun _ hm=>⟨hm.k,trivial⟩) fun z=>fI 15 U (dD U U) (wq 16 U (fD U U) (jH (bD ?_)))))))))))))))))))))))
  refine cE U (fun hlt=>?_) (fun hlt=>?_)
  ·refine bN (bD (bH (bO ?_)))
   have hlt2:(dU) ⟨x0,x1,x2,x3,x4⟩ ⟨y0,y1,y2,y3,y4⟩=true:=decide_eq_true (show jQ ⟨x0,x1,x2,x3,x4⟩ ⟨y0,y1,y2,y3,y4⟩ < 0 from hlt)
   have hS2:=(bR5 hx hy hlt2).symm.trans hS1
   refine gd (fun wz=>True) mixed (fun _ _=>trivial) fun z=>wq 0 U (bJ U) (wq 1 U (bJ U) (wq 2 U (bJ U) (wq 3 U (bJ U) (wq 4 U (ov_sub U U (by omega) (by omega)) (dG 41 (v':= .int .i64 ((j:Nat):Int)) U (fI5 (by omega)) (wq 5 U (bJ U) (wq 6 U (bJ U) (wq 7 U (ov_sub U U (by omega) (by omega)) (dG 44 (v':= .int .i64 ((j:Nat):Int)) U (fI5 (by omega)) (wq 8 U (bT (j:=j) kE U U (by omega)) (wq 10 U (bJ U) (wq 11 U (bJ U) (wq 12 U (bT (j:=(j+1)) kE U U (by omega)) ?_)))))))))))))
   refine kK [9,13] (by kernel_rfl) U ⟨⟨_,U,?_⟩,⟨_,U,?_⟩,trivial⟩
   ·refine bB (dO (vs:= [.int .i64 y0,.string y1,.string y2,.int .i64 y3,.string y4]) fR U (fun _ hm=>(gG.get hm.k fB pQ)) hy U U) U ?_
    refine bE (nw 18 8191 (fun _ _=>trivial) fun z=>eC 13 U (bB (dO (vs:= [.int .i64 x0,.string x1,.string x2,.int .i64 x3,.string x4]) fR U (fun _ hm=>(gG.get hm.k fB pQ)) hx U U) U (bE (nw 18 16383 (fun _ _=>trivial) fun z=>wq 14 U (bT (j:=(j+1)) kE U U (by omega)) (eC 15 U (eX (l:=m) (j:=j+1) (r:=0) (el:=⟨x0,x1,x2,x3,x4⟩) (el':=⟨y0,y1,y2,y3,y4⟩) U fR U U U U fB U hx pQ (by decide) U U (bE (nw 18 65535 (fun _ _=>trivial) fun z=>wq 16 U (bT (j:=j) kE U U (by omega)) (eC 17 U ?_)))))))))
    refine eX (l:=m.set (j+1) ⟨y0,y1,y2,y3,y4⟩) (j:=j) (r:=0) (el:=⟨y0,y1,y2,y3,y4⟩) (el':=⟨x0,x1,x2,x3,x4⟩) U fR U U U U fB U (by rw [List.getElem?_set_ne (by omega)];exact hy) (by rw [List.length_set];exact pQ) (by decide) U U ?_
    refine bE (nw 18 262143 (fun _ _=>trivial) fun z=>jH (bG (bD (bI (bP U (bB (ov_sub U U (by omega) (by omega)) U (bL 36 (v':= .int .i64 ((j:Nat):Int)) U (fI5 (by omega)) (bZ U (bE ?_)))))))))
    exact cQ (j,(m.set (j+1) ⟨y0,y1,y2,y3,y4⟩).set j ⟨x0,x1,x2,x3,x4⟩) ⟨by dsimp only;omega,by simp [pQ],hS2⟩ (by dsimp only;omega) ⟨U,U,U,U,U,(cS (by omega)),trivial⟩ (fun _ hm=>hm.pick [] [] [] U U)
   refine bB (dO (vs:= [.int .i64 x0,.string x1,.string x2,.int .i64 x3,.string x4]) fR U (fun _ hm=>(gG.get hm.k fB pQ)) hx U U) U (bE (nw 18 15871 (fun _ _=>trivial) fun z=>eC 9 U (bB (dO (vs:= [.int .i64 y0,.string y1,.string y2,.int .i64 y3,.string y4]) fR U (fun _ hm=>(gG.get hm.k fB pQ)) hy U U) U (bE (nw 18 16383 (fun _ _=>trivial) fun z=>wq 14 U (bT (j:=(j+1)) kE U U (by omega)) (eC 15 U (eX (l:=m) (j:=j+1) (r:=0) (el:=⟨x0,x1,x2,x3,x4⟩) (el':=⟨y0,y1,y2,y3,y4⟩) U fR U U U U fB U hx pQ (by decide) U U (bE (nw 18 65535 (fun _ _=>trivial) fun z=>wq 16 U (bT (j:=j) kE U U (by omega)) (eC 17 U ?_))))))))))
   refine eX (l:=m.set (j+1) ⟨y0,y1,y2,y3,y4⟩) (j:=j) (r:=0) (el:=⟨y0,y1,y2,y3,y4⟩) (el':=⟨x0,x1,x2,x3,x4⟩) U fR U U U U fB U (by rw [List.getElem?_set_ne (by omega)];exact hy) (by rw [List.length_set];exact pQ) (by decide) U U ?_
   refine bE (nw 18 262143 (fun _ _=>trivial) fun z=>jH (bG (bD (bI (bP U (bB (ov_sub U U (by omega) (by omega)) U (bL 36 (v':= .int .i64 ((j:Nat):Int)) U (fI5 (by omega)) (bZ U (bE ?_)))))))))
   exact cQ (j,(m.set (j+1) ⟨y0,y1,y2,y3,y4⟩).set j ⟨x0,x1,x2,x3,x4⟩) ⟨by dsimp only;omega,by simp [pQ],hS2⟩ (by dsimp only;omega) ⟨U,U,U,U,U,(cS (by omega)),trivial⟩ (fun _ hm=>hm.pick [] [] [] U U)
  refine dE (bF (bF (bY (bG (bD (bI ?_))))))
  have hlt2:(dU) ⟨x0,x1,x2,x3,x4⟩ ⟨y0,y1,y2,y3,y4⟩=false:=decide_eq_false (show ¬jQ ⟨x0,x1,x2,x3,x4⟩ ⟨y0,y1,y2,y3,y4⟩ < 0 from hlt)
  have hS2:=(bK9 hx hy hlt2).symm.trans hS1
  refine bP U (gN U U (bZ U (bE ?_)))
  have hm2:m=S:=hS2
  exact cQ (i+1,m) ⟨⟨by dsimp only;omega,by dsimp only;omega⟩,by rw [hm2];exact hSl,by rw [hm2];exact hRi⟩ (by dsimp only;omega) ⟨U,U,U,U,(cS (by omega)),trivial⟩ (fun _ hm=>hm.pick [] [] [] U U)
 refine dE (bF (bF (bY ?_)))
 obtain rfl:l=R:=by rw [<-hR1,show n - i=0 by omega];rfl
 refine jD U fun wx hm=>?_
 exact ⟨U,mD hm.k hm.g⟩
theorem eC8 (l0:List Ev) (br n eV base:Nat) (w:World) (h:w.ownsRow base 74 5 (.slice (some ⟨br,0,none⟩) n eV) n (l0.flatMap dP)) (uM:l0.length=n) (hn:n<=19):
 Calls prog 93 #[.slice (some ⟨br,0,none⟩) n eV,.int .i64 ((n:Nat):Int),.func (.func 131) #[] #[]] w (fun e w'=>e=.returned (.tuple #[])/\w'.ownsRow base 74 5 (.slice (some ⟨br,0,none⟩) n eV) n ((dR dU l0).flatMap dP)/\w.grownBy w' (some br)):=by
 refine cV ⟨63,w,(some br), []⟩ func93 U ntmps93 U (bV2 (X:= []) h cY cZ) (bS (bZ U (bR (bS (bP U (bZ U (bZ U (bR (bH (bO (eZ 1 (eB (bH (bS (bP U (bP U (bB (mV U U) U (bL 13 (v':= .bool false) U (fH5 (decide_eq_false (by omega))) (bR (jU U (dE (bF (bF (bY ?_))))))))))))))))))))))))
 refine bD (bS (bP U (bP U (bP U (bP U ?_)))))
 refine mC U U U bL4 U U (fun wx hm=>(eC7 l0 br n eV base wx hm.k uM (by omega))) ?_
 refine bR (bO (eZ 1 (eB (bH (bS (bP U (bP U (bB (dD U U) U (bL 30 (v':= .bool false) U (fH5 (decide_eq_false (by omega))) (bR (jU U (dE (bF (bF (bY ?_)))))))))))))))
 refine jD U fun wx hm=>?_
 exact ⟨U,mD hm.k hm.g⟩
theorem eE3 (A:Option Addr) (eV:Nat) (w:World):Calls prog 141 #[.slice A 0 eV,.int .i64 0,.int .i64 0,.func (.func 131) #[] #[]] w (fun e w'=>e=.returned (.tuple #[])/\w.grownBy w' none):=by
 refine cV ⟨53,w,none, []⟩ func141 U ntmps141 U (gR (X:= []) cY cZ) (bS (bP U (gN U U (bL 11 (v':= .int .i64 1) U U (bZ U (bR (bO (eZ 1 (eB (bH (bS (bP U (bP U (bB (dD U U) U (bL 14 (v':= .bool false) U (fH5 (by decide)) (bR (jU U (dE (bF (bF (bY ?_)))))))))))))))))))))
 refine jD U fun wx hm=>?_
 exact ⟨U,hm.g⟩
theorem eD4 (A:Option Addr) (eV:Nat) (w:World):Calls prog 93 #[.slice A 0 eV,.int .i64 0,.func (.func 131) #[] #[]] w (fun e w'=>e=.returned (.tuple #[])/\w.grownBy w' none):=by
 refine cV ⟨63,w,none, []⟩ func93 U ntmps93 U (gR (X:= []) cY cZ) (bS (bZ U (bR (bS (bP U (bZ U (bZ U (bR (bH (bO (eZ 1 (eB (bH (bS (bP U (bP U (bB (mV U U) U (bL 13 (v':= .bool false) U (fH5 (by decide)) (bR (jU U (dE (bF (bF (bY ?_))))))))))))))))))))))))
 refine bD (bS (bP U (bP U (bP U (bP U (cL U bL4 U U (fun wx hm=>(eE3 A eV wx)) (bR (bO (eZ 1 (eB (bH (bS (bP U (bP U (bB (dD U U) U (bL 30 (v':= .bool false) U (fH5 (by decide)) (bR (jU U (dE (bF (bF (bY ?_))))))))))))))))))))))
 refine jD U fun wx hm=>?_
 exact ⟨U,hm.g⟩
theorem dS1 (A:Option Addr) (eV:Nat) (w:World):Calls prog 41 #[.slice A 0 eV,.func (.func 131) #[] #[]] w (fun e w'=>e=.returned (.tuple #[])/\w.grownBy w' none):=by
 refine cV ⟨9,w,none, []⟩ func41 U ntmps41 U (gR (X:= []) cY cZ) (bI (bB (bJ U) U (bB (bJ U) U (bB (dT kE U) U (bL 6 (v':= .int .i64 0) U U (bB (bJ U) U (cL U fN1 U U (fun wx hm=>(eD4 A eV wx)) (bE ?_))))))))
 refine jD U fun wx hm=>?_
 exact ⟨U,hm.g⟩
theorem cO6 (l0:List Ev) (br n eV base a b q:Nat) (w:World) (h:w.ownsRow base 74 5 (.slice (some ⟨br,0,none⟩) n eV) n (l0.flatMap dP)) (uM:l0.length=n) (hn:n<=1000000) (hab:a < b) (hb:b+q<=n):
 Calls prog 223 #[.slice (some ⟨br,0,none⟩) n eV,.int .i64 ((a:Nat):Int),.int .i64 ((b:Nat):Int),.int .i64 ((q:Nat):Int),.func (.func 131) #[] #[]] w (fun e w'=>e=.returned (.tuple #[])/\w'.ownsRow base 74 5 (.slice (some ⟨br,0,none⟩) n eV) n ((uX l0 a b q).flatMap dP)/\w.grownBy w' (some br)):=by
 refine cV ⟨38,w,(some br), []⟩ func223 U ntmps223 U (bV2 (X:= []) h cY cZ) (bS (bZ U (bR (bO ?_))))
 refine dX (γ:=Nat×List Ev) (fun g=>g.1<=q/\g.2.length=n/\g.2=uX l0 a b g.1) (fun g=> [(0,.slice (some ⟨br,0,none⟩) n eV),(1,.int .i64 ((a:Nat):Int)),(2,.int .i64 ((b:Nat):Int)),(3,.int .i64 ((q:Nat):Int)),(10,.int .i64 ((g.1:Nat):Int))]) (fun g=>gG base 74 5 n eV br ((g.2).flatMap dP)) (fun g=> []) (fun g=> []) (fun g=> []) (fun g=>q - g.1) (0,l0) ⟨Nat.zero_le _,uM,U⟩ ⟨U,U,U,U,U,trivial⟩ (fun _ hm=>hm.pick [] [] [] U U) ?_
 rintro ⟨k,m⟩ cC
 replace cC:k<=q/\m.length=n/\m=uX l0 a b k:=cC
 dsimp only
 refine bH (bS ?_)
 obtain ⟨hk0,pQ,hmk⟩:=cC
 refine bP U (bP U (bB (dD U U) U (bR ?_)))
 refine cE U (fun hk=>?_) (fun hk=>?_)
 ·refine bN (bD (bH (bO ?_)))
  obtain ⟨xx,hx⟩:∃x,m[(a+k)]?=some x:=⟨_,fJ5 (by omega)⟩
  obtain ⟨x0,x1,x2,x3,x4⟩:=xx
  obtain ⟨yy,hy⟩:∃x,m[(b+k)]?=some x:=⟨_,fJ5 (by omega)⟩
  obtain ⟨y0,y1,y2,y3,y4⟩:=yy
  have hst:uX l0 a b (k+1)=(m.set (a+k) ⟨y0,y1,y2,y3,y4⟩).set (b+k) ⟨x0,x1,x2,x3,x4⟩:=by
   rw [hmk] at hx hy ⊢
   exact bJ2 hx hy
  refine gd (fun wz=>True) mixed (fun _ _=>trivial) fun z=>wq 0 U (bJ U) (wq 1 U (bJ U) (wq 2 U (bJ U) (wq 3 U (ov_add U U (by omega) (by omega)) (dG 19 (v':= .int .i64 (((a+k):Nat):Int)) U (fI5 (by omega)) (wq 4 U (bJ U) (wq 5 U (bJ U) (wq 6 U (bJ U) (wq 7 U (ov_add U U (by omega) (by omega)) (dG 23 (v':= .int .i64 (((b+k):Nat):Int)) U (fI5 (by omega)) (wq 8 U (bJ U) (wq 9 U (bJ U) (wq 10 U (bJ U) (wq 11 U (ov_add U U (by omega) (by omega)) (dG 27 (v':= .int .i64 (((b+k):Nat):Int)) U (fI5 (by omega)) (wq 12 U (bT (j:=(b+k)) kE U U (by omega)) (wq 14 U (bJ U) (wq 15 U (bJ U) (wq 16 U (bJ U) (wq 17 U (ov_add U U (by omega) (by omega)) (dG 33 (v':= .int .i64 (((a+k):Nat):Int)) U (fI5 (by omega)) (wq 18 U (bT (j:=(a+k)) kE U U (by omega)) ?_)))))))))))))))))))))
  refine kK [13,19] (by kernel_rfl) U ⟨⟨_,U,?_⟩,⟨_,U,?_⟩,trivial⟩
  ·refine bB (dO (vs:= [.int .i64 y0,.string y1,.string y2,.int .i64 y3,.string y4]) fR U (fun _ hm=>(gG.get hm.k fB pQ)) hy U U) U ?_
   refine bE (nw 24 524287 (fun _ _=>trivial) fun z=>eC 19 U (bB (dO (vs:= [.int .i64 x0,.string x1,.string x2,.int .i64 x3,.string x4]) fR U (fun _ hm=>(gG.get hm.k fB pQ)) hx U U) U (bE (nw 24 1048575 (fun _ _=>trivial) fun z=>wq 20 U (bT (j:=(a+k)) kE U U (by omega)) (eC 21 U (eX (l:=m) (j:=(a+k)) (r:=0) (el:=⟨x0,x1,x2,x3,x4⟩) (el':=⟨y0,y1,y2,y3,y4⟩) U fR U U U U fB U hx pQ (by decide) U U (bE (nw 24 4194303 (fun _ _=>trivial) fun z=>wq 22 U (bT (j:=(b+k)) kE U U (by omega)) (eC 23 U ?_)))))))))
   refine eX (l:=m.set (a+k) ⟨y0,y1,y2,y3,y4⟩) (j:=(b+k)) (r:=0) (el:=⟨y0,y1,y2,y3,y4⟩) (el':=⟨x0,x1,x2,x3,x4⟩) U fR U U U U fB U (by rw [List.getElem?_set_ne (by omega)];exact hy) (by rw [List.length_set];exact pQ) (by decide) U U ?_
   refine bE (nw 24 16777215 (fun _ _=>trivial) fun z=>jH (bG (bD (bI (bP U (gN U U (bZ U (bE ?_))))))))
   exact cQ (k+1,(m.set (a+k) ⟨y0,y1,y2,y3,y4⟩).set (b+k) ⟨x0,x1,x2,x3,x4⟩) ⟨by dsimp only;omega,by simp [pQ],hst.symm⟩ (by dsimp only;omega) ⟨U,U,U,U,(cS (by omega)),trivial⟩ (fun _ hm=>hm.pick [] [] [] U U)
  refine bB (dO (vs:= [.int .i64 x0,.string x1,.string x2,.int .i64 x3,.string x4]) fR U (fun _ hm=>(gG.get hm.k fB pQ)) hx U U) U (bE (nw 24 1040383 (fun _ _=>trivial) fun z=>eC 13 U (bB (dO (vs:= [.int .i64 y0,.string y1,.string y2,.int .i64 y3,.string y4]) fR U (fun _ hm=>(gG.get hm.k fB pQ)) hy U U) U (bE (nw 24 1048575 (fun _ _=>trivial) fun z=>wq 20 U (bT (j:=(a+k)) kE U U (by omega)) (eC 21 U (eX (l:=m) (j:=(a+k)) (r:=0) (el:=⟨x0,x1,x2,x3,x4⟩) (el':=⟨y0,y1,y2,y3,y4⟩) U fR U U U U fB U hx pQ (by decide) U U (bE (nw 24 4194303 (fun _ _=>trivial) fun z=>wq 22 U (bT (j:=(b+k)) kE U U (by omega)) (eC 23 U ?_))))))))))
  refine eX (l:=m.set (a+k) ⟨y0,y1,y2,y3,y4⟩) (j:=(b+k)) (r:=0) (el:=⟨y0,y1,y2,y3,y4⟩) (el':=⟨x0,x1,x2,x3,x4⟩) U fR U U U U fB U (by rw [List.getElem?_set_ne (by omega)];exact hy) (by rw [List.length_set];exact pQ) (by decide) U U ?_
  refine bE (nw 24 16777215 (fun _ _=>trivial) fun z=>jH (bG (bD (bI (bP U (gN U U (bZ U (bE ?_))))))))
  exact cQ (k+1,(m.set (a+k) ⟨y0,y1,y2,y3,y4⟩).set (b+k) ⟨x0,x1,x2,x3,x4⟩) ⟨by dsimp only;omega,by simp [pQ],hst.symm⟩ (by dsimp only;omega) ⟨U,U,U,U,(cS (by omega)),trivial⟩ (fun _ hm=>hm.pick [] [] [] U U)
 refine dE (bF (bF (bY ?_)))
 obtain rfl:k=q:=by omega
 subst hmk
 refine jD U fun wx hm=>?_
 exact ⟨U,mD hm.k hm.g⟩
theorem dB6 (l0:List Ev) (br n eV base a mm b:Nat) (w:World) (h:w.ownsRow base 74 5 (.slice (some ⟨br,0,none⟩) n eV) n (l0.flatMap dP)) (uM:l0.length=n) (hn:n<=1000000) (ham:a < mm) (hmb:mm < b) (hbn:b<=n):
 Calls prog 191 #[.slice (some ⟨br,0,none⟩) n eV,.int .i64 ((a:Nat):Int),.int .i64 ((mm:Nat):Int),.int .i64 ((b:Nat):Int),.func (.func 131) #[] #[]] w (fun e w'=>∃R:List Ev,(R.length=n/\∀x,R[x]?=kI l0 a mm b x)/\e=.returned (.tuple #[])/\w'.ownsRow base 74 5 (.slice (some ⟨br,0,none⟩) n eV) n ((R).flatMap dP)/\w.grownBy w' (some br)):=by
 refine cV ⟨58,w,(some br), []⟩ func191 U ntmps191 U (bV2 (X:= []) h cY cZ) (bS (bP U (bP U (bB (ov_sub U U (by omega) (by omega)) U (bL 14 (v':= .int .i64 (((mm - a):Nat):Int)) U (fI5 (by omega)) (bZ U (bR (bS (bP U (bP U (bB (ov_sub U U (by omega) (by omega)) U (bL 17 (v':= .int .i64 (((b - mm):Nat):Int)) U (fI5 (by omega)) (bZ U (bR (bH (bO ?_))))))))))))))))
 refine dX (γ:=Nat×Nat×List Ev) (fun g=>(1<=g.1/\1<=g.2.1/\g.1<=mm/\mm+g.2.1<=n)/\g.2.2.length=n/\∀x,kI g.2.2 (mm - g.1) mm (mm+g.2.1) x=kI l0 a mm b x) (fun g=> [(0,.slice (some ⟨br,0,none⟩) n eV),(2,.int .i64 ((mm:Nat):Int)),(4,.func (.func 131) #[] #[]),(10,.int .i64 ((g.1:Nat):Int)),(11,.int .i64 ((g.2.1:Nat):Int))]) (fun g=>gG base 74 5 n eV br ((g.2.2).flatMap dP)) (fun g=> []) (fun g=> []) (fun g=> []) (fun g=>g.1+g.2.1) ((mm - a),(b - mm),l0) ⟨⟨by dsimp only;omega,by dsimp only;omega,by dsimp only;omega,by dsimp only;omega⟩,uM,fun x=>by dsimp only;rw [show mm - (mm - a)=a by omega,show mm+(b - mm)=b by omega]⟩ ⟨U,U,U,U,U,trivial⟩ (fun _ hm=>hm.pick [] [] [] U U) ?_
 rintro ⟨i,j,m⟩ cC
 replace cC:(1<=i/\1<=j/\i<=mm/\mm+j<=n)/\m.length=n/\∀x,kI m (mm - i) mm (mm+j) x=kI l0 a mm b x:=cC
 dsimp only
 refine bH (bS ?_)
 obtain ⟨⟨hi1,hj1,him,hjn⟩,pQ,hrot⟩:=cC
 refine bP U (bP U (bB (gX U U) U (bR ?_)))
 refine gI U (fun hij=>?_) (fun hij=>?_)
 ·refine bN (bD (bO (bS (bP U (bP U ?_)))))
  refine bB (eJ U U) U (bR ?_)
  refine cE U (fun hgt=>?_) (fun hgt=>?_)
  ·refine bS (bP U (bP U (bP U ?_)))
   refine bB (ov_sub U U (by omega) (by omega)) U (bL 27 (v':= .int .i64 (((mm - i):Nat):Int)) U (fI5 (by omega)) (bP U (bP U (bP U ?_))))
   refine mC U U U dR7 U U (fun wx hm=>(cO6 m br n eV base (mm - i) mm j wx hm.k pQ hn (by omega) (by omega))) ?_
   refine bR (bI (bP U (bP U (bB (ov_sub U U (by omega) (by omega)) U (bL 34 (v':= .int .i64 (((i - j):Nat):Int)) U (fI5 (by omega)) (bZ U (bE (bG ?_))))))))
   exact cQ ((i - j),j,(uX m (mm - i) mm j)) ⟨⟨by dsimp only;omega,by dsimp only;omega,by dsimp only;omega,by dsimp only;omega⟩,by dsimp only;rw [uY];exact pQ,fun x=>by dsimp only;rw [<-hrot x];exact (dA6 (by omega) (by omega) (by omega) x).symm⟩ (by dsimp only;omega) ⟨U,U,U,U,U,trivial⟩ (fun _ hm=>hm.pick [] [] [] U U)
  refine bS (bP U (bP U (bP U (bB (ov_sub U U (by omega) (by omega)) U (bL 38 (v':= .int .i64 (((mm - i):Nat):Int)) U (fI5 (by omega)) (bP U (bP U (gN U U (bP U (bB (ov_sub U U (by omega) (by omega)) U (bL 43 (v':= .int .i64 (((mm+j - i):Nat):Int)) U (fI5 (by omega)) (bP U (bP U ?_)))))))))))))
  refine mC U U U dR7 U U (fun wx hm=>(cO6 m br n eV base (mm - i) (mm+j - i) i wx hm.k pQ hn (by omega) (by omega))) ?_
  refine bR (bI (bP U (bP U (bB (ov_sub U U (by omega) (by omega)) U (bL 49 (v':= .int .i64 (((j - i):Nat):Int)) U (fI5 (by omega)) (bZ U (bE (bG ?_))))))))
  exact cQ (i,(j - i),(uX m (mm - i) (mm+j - i) i)) ⟨⟨by dsimp only;omega,by dsimp only;omega,by dsimp only;omega,by dsimp only;omega⟩,by dsimp only;rw [uY];exact pQ,fun x=>by dsimp only;rw [<-hrot x];exact (eR0 (by omega) (by omega) (by omega) x).symm⟩ (by dsimp only;omega) ⟨U,U,U,U,U,trivial⟩ (fun _ hm=>hm.pick [] [] [] U U)
 refine dE (bF (bF (bY (bD (bI ?_)))))
 obtain rfl:i=j:=by omega
 refine bP U (bP U (bP U (bB (ov_sub U U (by omega) (by omega)) U (bL 53 (v':= .int .i64 (((mm - i):Nat):Int)) U (fI5 (by omega)) (bP U (bP U (bP U ?_)))))))
 refine mC U U U dR7 U U (fun wx hm=>(cO6 m br n eV base (mm - i) mm i wx hm.k pQ hn (by omega) (by omega))) ?_
 refine bE ?_
 refine jD U fun wx hm=>?_
 have hf:=mD hm.k hm.g
 exact ⟨uX m (mm - i) mm i,⟨by rw [uY];exact pQ,fun x=>by rw [<-hrot x,eR3 (by omega) (by omega)]⟩,U,hf.1,hf.2⟩
def bO9 (br n eV base a mm b:Nat):Prop:=∀(l0:List Ev) (w:World),w.ownsRow base 74 5 (.slice (some ⟨br,0,none⟩) n eV) n (l0.flatMap dP)->l0.length=n->n<=1000000->a < mm->mm < b->b<=n->xD dU (eO l0 a mm)->xD dU (eO l0 mm b)->
 Calls prog 142 #[.slice (some ⟨br,0,none⟩) n eV,.int .i64 ((a:Nat):Int),.int .i64 ((mm:Nat):Int),.int .i64 ((b:Nat):Int),.func (.func 131) #[] #[]] w (fun e w'=>∃R:List Ev,xE dU l0 R a b/\e=.returned (.tuple #[])/\w'.ownsRow base 74 5 (.slice (some ⟨br,0,none⟩) n eV) n ((R).flatMap dP)/\w.grownBy w' (some br))
theorem dW1 (br n eV base a mm b:Nat) (ih:∀a' m' b',b' - a' < b - a->bO9 br n eV base a' m' b'):bO9 br n eV base a mm b:=by
 intro l0 w h uM hn ham hmb hbn hsA hsB
 refine cV ⟨220,w,(some br), []⟩ func142 U ntmps142 U (bV2 (X:= []) h cY cZ) (bH (bS (bP U (bP U (bB (ov_sub U U (by omega) (by omega)) U (bL 27 (v':= .int .i64 (((mm - a):Nat):Int)) U (fI5 (by omega)) (bB (eN U U) U (bR ?_))))))))
 refine cE U (fun h1=>?_) (fun h1=>?_)
 ·refine bS ?_
  obtain ⟨xa,hxa⟩:∃z,l0[a]?=some z:=⟨_,fJ5 (by omega)⟩
  obtain ⟨y0,y1,y2,y3,y4⟩:=xa
  refine bP U (bZ U (bR (bS (bP U (bZ U (bR (bH (bO ?_))))))))
  refine dX (γ:=Nat×Nat) (fun g=>mm<=g.1/\g.1<=g.2/\g.2<=b/\(g.1=mm∨∃q,l0[g.1 - 1]?=some q/\dU q ⟨y0,y1,y2,y3,y4⟩=true)/\(g.2=b∨∃q,l0[g.2]?=some q/\dU q ⟨y0,y1,y2,y3,y4⟩=false)) (fun g=> [(0,.slice (some ⟨br,0,none⟩) n eV),(1,.int .i64 ((a:Nat):Int)),(2,.int .i64 ((mm:Nat):Int)),(3,.int .i64 ((b:Nat):Int)),(4,.func (.func 131) #[] #[]),(10,.int .i64 ((g.1:Nat):Int)),(11,.int .i64 ((g.2:Nat):Int))]) (fun g=>gG base 74 5 n eV br ((l0).flatMap dP)) (fun g=> []) (fun g=> []) (fun g=> []) (fun g=>g.2 - g.1) (mm,b) ⟨Nat.le_refl _,by dsimp only;omega,Nat.le_refl _,.inl rfl,.inl rfl⟩ ⟨U,U,U,U,U,U,U,trivial⟩ (fun _ hm=>hm.pick [] [] [] U U) ?_
  rintro ⟨i,j⟩ cC
  replace cC:mm<=i/\i<=j/\j<=b/\(i=mm∨∃q,l0[i - 1]?=some q/\dU q ⟨y0,y1,y2,y3,y4⟩=true)/\(j=b∨∃q,l0[j]?=some q/\dU q ⟨y0,y1,y2,y3,y4⟩=false):=cC
  dsimp only
  refine bH (bS ?_)
  obtain ⟨hi1,hij,hjb,hL,hR⟩:=cC
  refine bP U (bP U (bB (dD U U) U (bR ?_)))
  refine cE U (fun hlt=>?_) (fun hlt=>?_)
  ·refine bN (bD (bO (bS ?_)))
   obtain ⟨hh,hhd⟩:∃z,z=(i+j) / 2:=⟨_,rfl⟩
   have hh1:i<=hh:=by omega
   have hh2:hh < j:=by omega
   obtain ⟨xx,hx⟩:∃x,l0[hh]?=some x:=⟨_,fJ5 (by omega)⟩
   obtain ⟨x0,x1,x2,x3,x4⟩:=xx
   refine bP U (bP U (gN U U (bL 36 (v':= .int .i64 (((i+j):Nat):Int)) U (fI5 (by omega)) (bB (cA1 (a:=(i+j)) (by kernel_rfl) (by kernel_rfl) U (by omega)) U (bB (bB1 (a:=(i+j)) U U) U (bB (bM7 (a:=(i+j) / 2) (by kernel_rfl) (by kernel_rfl) U (by omega)) U (bL 39 (v':= .int .i64 ((hh:Nat):Int)) U (fI5 (by omega)) (bZ U (bR (bH (gd (fun wz=>True) mixed (fun _ _=>trivial) fun z=>wq 0 U (bJ U) (wq 1 U (bJ U) (wq 2 U (bJ U) (wq 3 U (bT (j:=hh) kE U U (by omega)) (wq 5 U (bJ U) (wq 6 U (bJ U) (wq 7 U (bT (j:=a) kE U U (by omega)) ?_)))))))))))))))))
   refine kK [4,8] (by kernel_rfl) U ⟨⟨_,U,?_⟩,⟨_,U,?_⟩,trivial⟩
   ·refine bB (dO (vs:= [.int .i64 x0,.string x1,.string x2,.int .i64 x3,.string x4]) fR U (fun _ hm=>(gG.get hm.k fB uM)) hx U U) U ?_
    refine bE (nw 11 255 (fun _ _=>trivial) fun z=>eC 8 U (bB (dO (vs:= [.int .i64 y0,.string y1,.string y2,.int .i64 y3,.string y4]) fR U (fun _ hm=>(gG.get hm.k fB uM)) hxa U U) U (bE (nw 11 511 (fun _ _=>trivial) fun z=>eC 9 U (cL U bX7 U U (fun wx hm=>(rM x0 x1 x2 x3 x4 y0 y1 y2 y3 y4 wx)) (bE (nw 11 1023 (fun _ _=>trivial) fun z=>wq 10 U (dD U U) (jH (bD ?_)))))))))
    refine cE U (fun hq=>?_) (fun hq=>?_)
    ·refine bI ?_
     have wA:dU ⟨x0,x1,x2,x3,x4⟩ ⟨y0,y1,y2,y3,y4⟩=true:=decide_eq_true hq
     refine bP U (gN U U (bZ U (bE (bG ?_))))
     exact cQ ((hh+1),j) ⟨by dsimp only;omega,by dsimp only;omega,hjb,.inr ⟨_,by dsimp only;rw [show hh+1 - 1=hh by omega];exact hx,wA⟩,hR⟩ (by dsimp only;omega) ⟨U,U,U,U,U,(cS (by dsimp only;omega)),U,trivial⟩ (fun _ hm=>hm.pick [] [] [] U U)
    refine bI ?_
    have wA:dU ⟨x0,x1,x2,x3,x4⟩ ⟨y0,y1,y2,y3,y4⟩=false:=decide_eq_false hq
    refine bP U (bZ U (bE (bG ?_)))
    exact cQ (i,hh) ⟨hi1,by dsimp only;omega,by dsimp only;omega,hL,.inr ⟨_,hx,wA⟩⟩ (by dsimp only;omega) ⟨U,U,U,U,U,U,U,trivial⟩ (fun _ hm=>hm.pick [] [] [] U U)
   refine bB (dO (vs:= [.int .i64 y0,.string y1,.string y2,.int .i64 y3,.string y4]) fR U (fun _ hm=>(gG.get hm.k fB uM)) hxa U U) U (bE (nw 11 495 (fun _ _=>trivial) fun z=>eC 4 U (bB (dO (vs:= [.int .i64 x0,.string x1,.string x2,.int .i64 x3,.string x4]) fR U (fun _ hm=>(gG.get hm.k fB uM)) hx U U) U (bE (nw 11 511 (fun _ _=>trivial) fun z=>eC 9 U (cL U bX7 U U (fun wx hm=>(rM x0 x1 x2 x3 x4 y0 y1 y2 y3 y4 wx)) (bE (nw 11 1023 (fun _ _=>trivial) fun z=>wq 10 U (dD U U) (jH (bD ?_))))))))))
   refine cE U (fun hq=>?_) (fun hq=>?_)
   ·refine bI ?_
    have wA:dU ⟨x0,x1,x2,x3,x4⟩ ⟨y0,y1,y2,y3,y4⟩=true:=decide_eq_true hq
    refine bP U (gN U U (bZ U (bE (bG ?_))))
    exact cQ ((hh+1),j) ⟨by dsimp only;omega,by dsimp only;omega,hjb,.inr ⟨_,by dsimp only;rw [show hh+1 - 1=hh by omega];exact hx,wA⟩,hR⟩ (by dsimp only;omega) ⟨U,U,U,U,U,(cS (by dsimp only;omega)),U,trivial⟩ (fun _ hm=>hm.pick [] [] [] U U)
   refine bI ?_
   have wA:dU ⟨x0,x1,x2,x3,x4⟩ ⟨y0,y1,y2,y3,y4⟩=false:=decide_eq_false hq
   refine bP U (bZ U (bE (bG ?_)))
   exact cQ (i,hh) ⟨hi1,by dsimp only;omega,by dsimp only;omega,hL,.inr ⟨_,hx,wA⟩⟩ (by dsimp only;omega) ⟨U,U,U,U,U,U,U,trivial⟩ (fun _ hm=>hm.pick [] [] [] U U)
  refine dE (bF (bF (bY (bD (bH (bS ?_))))))
  obtain rfl:i=j:=by omega
  refine bP U (bZ U (bR (bO ?_)))
  refine dX (γ:=Nat×List Ev) (fun g=>(a<=g.1/\g.1<=i - 1)/\g.2.length=n/\g.2=bR8 l0 a (g.1 - a)) (fun g=> [(0,.slice (some ⟨br,0,none⟩) n eV),(1,.int .i64 ((a:Nat):Int)),(2,.int .i64 ((mm:Nat):Int)),(3,.int .i64 ((b:Nat):Int)),(4,.func (.func 131) #[] #[]),(10,.int .i64 ((i:Nat):Int)),(13,.int .i64 ((g.1:Nat):Int))]) (fun g=>gG base 74 5 n eV br ((g.2).flatMap dP)) (fun g=> []) (fun g=> []) (fun g=> []) (fun g=>i - 1 - g.1) (a,l0) ⟨⟨Nat.le_refl _,by dsimp only;omega⟩,uM,by dsimp only;rw [Nat.sub_self];rfl⟩ ⟨U,U,U,U,U,U,U,trivial⟩ (fun _ hm=>hm.pick [] [] [] U U) ?_
  rintro ⟨k,m⟩ cC
  replace cC:(a<=k/\k<=i - 1)/\m.length=n/\m=bR8 l0 a (k - a):=cC
  dsimp only
  refine bH (bS ?_)
  obtain ⟨⟨hka,hki⟩,pQ,hmk⟩:=cC
  refine bP U (bP U (bB (ov_sub U U (by omega) (by omega)) U (bB (dD U U) U (bR ?_))))
  refine cE U (fun hk=>?_) (fun hk=>?_)
  ·refine bN (bD (bH (bO ?_)))
   have hk2:k+1 < n:=by omega
   obtain ⟨xx,hx⟩:∃x,m[k]?=some x:=⟨_,fJ5 (by omega)⟩
   obtain ⟨x0,x1,x2,x3,x4⟩:=xx
   obtain ⟨yy,hy⟩:∃x,m[(k+1)]?=some x:=⟨_,fJ5 (by omega)⟩
   obtain ⟨u0,u1,u2,u3,u4⟩:=yy
   refine gd (fun wz=>True) mixed (fun _ _=>trivial) fun z=>wq 0 U (bJ U) (wq 1 U (bJ U) (wq 2 U (bJ U) (wq 3 U (bJ U) (wq 4 U (ov_add U U (by omega) (by omega)) (dG 65 (v':= .int .i64 (((k+1):Nat):Int)) U (fI5 (by omega)) (wq 5 U (bJ U) (wq 6 U (bJ U) (wq 7 U (ov_add U U (by omega) (by omega)) (dG 68 (v':= .int .i64 (((k+1):Nat):Int)) U (fI5 (by omega)) (wq 8 U (bT (j:=(k+1)) kE U U (by omega)) (wq 10 U (bJ U) (wq 11 U (bJ U) (wq 12 U (bT (j:=k) kE U U (by omega)) ?_)))))))))))))
   refine kK [9,13] (by kernel_rfl) U ⟨⟨_,U,?_⟩,⟨_,U,?_⟩,trivial⟩
   ·refine bB (dO (vs:= [.int .i64 u0,.string u1,.string u2,.int .i64 u3,.string u4]) fR U (fun _ hm=>(gG.get hm.k fB pQ)) hy U U) U ?_
    refine bE (nw 18 8191 (fun _ _=>trivial) fun z=>eC 13 U (bB (dO (vs:= [.int .i64 x0,.string x1,.string x2,.int .i64 x3,.string x4]) fR U (fun _ hm=>(gG.get hm.k fB pQ)) hx U U) U (bE (nw 18 16383 (fun _ _=>trivial) fun z=>wq 14 U (bT (j:=k) kE U U (by omega)) (eC 15 U (eX (l:=m) (j:=k) (r:=0) (el:=⟨x0,x1,x2,x3,x4⟩) (el':=⟨u0,u1,u2,u3,u4⟩) U fR U U U U fB U hx pQ (by decide) U U (bE (nw 18 65535 (fun _ _=>trivial) fun z=>wq 16 U (bT (j:=(k+1)) kE U U (by omega)) (eC 17 U ?_)))))))))
    refine eX (l:=m.set k ⟨u0,u1,u2,u3,u4⟩) (j:=(k+1)) (r:=0) (el:=⟨u0,u1,u2,u3,u4⟩) (el':=⟨x0,x1,x2,x3,x4⟩) U fR U U U U fB U (by rw [List.getElem?_set_ne (by omega)];exact hy) (by rw [List.length_set];exact pQ) (by decide) U U ?_
    refine bE (nw 18 262143 (fun _ _=>trivial) fun z=>jH (bG (bD (bI (bP U (gN U U (bZ U (bE ?_))))))))
    have hst:bR8 l0 a (k+1 - a)=(m.set k ⟨u0,u1,u2,u3,u4⟩).set (k+1) ⟨x0,x1,x2,x3,x4⟩:=by
     rw [show k+1 - a=(k - a)+1 by omega]
     unfold bR8
     rw [<-hmk,show a+(k - a)=k by omega]
     exact bJ2 (l:=m) (a:=k) (b:=k+1) (k:=0) hx hy
    exact cQ ((k+1),(m.set k ⟨u0,u1,u2,u3,u4⟩).set (k+1) ⟨x0,x1,x2,x3,x4⟩) ⟨⟨by dsimp only;omega,by dsimp only;omega⟩,by simp [pQ],hst.symm⟩ (by dsimp only;omega) ⟨U,U,U,U,U,U,(cS (by dsimp only;omega)),trivial⟩ (fun _ hm=>hm.pick [] [] [] U U)
   refine bB (dO (vs:= [.int .i64 x0,.string x1,.string x2,.int .i64 x3,.string x4]) fR U (fun _ hm=>(gG.get hm.k fB pQ)) hx U U) U (bE (nw 18 15871 (fun _ _=>trivial) fun z=>eC 9 U (bB (dO (vs:= [.int .i64 u0,.string u1,.string u2,.int .i64 u3,.string u4]) fR U (fun _ hm=>(gG.get hm.k fB pQ)) hy U U) U (bE (nw 18 16383 (fun _ _=>trivial) fun z=>wq 14 U (bT (j:=k) kE U U (by omega)) (eC 15 U (eX (l:=m) (j:=k) (r:=0) (el:=⟨x0,x1,x2,x3,x4⟩) (el':=⟨u0,u1,u2,u3,u4⟩) U fR U U U U fB U hx pQ (by decide) U U (bE (nw 18 65535 (fun _ _=>trivial) fun z=>wq 16 U (bT (j:=(k+1)) kE U U (by omega)) (eC 17 U ?_))))))))))
   refine eX (l:=m.set k ⟨u0,u1,u2,u3,u4⟩) (j:=(k+1)) (r:=0) (el:=⟨u0,u1,u2,u3,u4⟩) (el':=⟨x0,x1,x2,x3,x4⟩) U fR U U U U fB U (by rw [List.getElem?_set_ne (by omega)];exact hy) (by rw [List.length_set];exact pQ) (by decide) U U ?_
   refine bE (nw 18 262143 (fun _ _=>trivial) fun z=>jH (bG (bD (bI (bP U (gN U U (bZ U (bE ?_))))))))
   have hst:bR8 l0 a (k+1 - a)=(m.set k ⟨u0,u1,u2,u3,u4⟩).set (k+1) ⟨x0,x1,x2,x3,x4⟩:=by
    rw [show k+1 - a=(k - a)+1 by omega]
    unfold bR8
    rw [<-hmk,show a+(k - a)=k by omega]
    exact bJ2 (l:=m) (a:=k) (b:=k+1) (k:=0) hx hy
   exact cQ ((k+1),(m.set k ⟨u0,u1,u2,u3,u4⟩).set (k+1) ⟨x0,x1,x2,x3,x4⟩) ⟨⟨by dsimp only;omega,by dsimp only;omega⟩,by simp [pQ],hst.symm⟩ (by dsimp only;omega) ⟨U,U,U,U,U,U,(cS (by dsimp only;omega)),trivial⟩ (fun _ hm=>hm.pick [] [] [] U U)
  refine dE (bF (bF (bY (bD (bM (bA ?_))))))
  obtain rfl:k=i - 1:=by omega
  obtain rfl:mm=a+1:=by omega
  refine cL8 U fun wx hm=>?_
  have hf:=mD hm.k hm.g
  exact ⟨m,eF1 vX (by omega) hxa hsB hi1 (by omega) hL hR (by rw [pQ,uM]) (fun x=>by rw [hmk,cB7 (by omega),show a+(i - 1 - a)+1=i by omega]),U,hf.1,hf.2⟩
 refine bN (bD (bH (bS (bP U (bP U (bB (ov_sub U U (by omega) (by omega)) U (bL 79 (v':= .int .i64 (((b - mm):Nat):Int)) U (fI5 (by omega)) (bB (eN U U) U (bR ?_)))))))))
 refine cE U (fun h2=>?_) (fun h2=>?_)
 ·refine bS ?_
  obtain ⟨xa,hxa⟩:∃z,l0[mm]?=some z:=⟨_,fJ5 (by omega)⟩
  obtain ⟨y0,y1,y2,y3,y4⟩:=xa
  refine bP U (bZ U (bR (bS (bP U (bZ U (bR (bH (bO ?_))))))))
  refine dX (γ:=Nat×Nat) (fun g=>a<=g.1/\g.1<=g.2/\g.2<=mm/\(g.1=a∨∃q,l0[g.1 - 1]?=some q/\dU ⟨y0,y1,y2,y3,y4⟩ q=false)/\(g.2=mm∨∃q,l0[g.2]?=some q/\dU ⟨y0,y1,y2,y3,y4⟩ q=true)) (fun g=> [(0,.slice (some ⟨br,0,none⟩) n eV),(1,.int .i64 ((a:Nat):Int)),(2,.int .i64 ((mm:Nat):Int)),(3,.int .i64 ((b:Nat):Int)),(4,.func (.func 131) #[] #[]),(14,.int .i64 ((g.1:Nat):Int)),(15,.int .i64 ((g.2:Nat):Int))]) (fun g=>gG base 74 5 n eV br ((l0).flatMap dP)) (fun g=> []) (fun g=> []) (fun g=> []) (fun g=>g.2 - g.1) (a,mm) ⟨Nat.le_refl _,by dsimp only;omega,Nat.le_refl _,.inl rfl,.inl rfl⟩ ⟨U,U,U,U,U,U,U,trivial⟩ (fun _ hm=>hm.pick [] [] [] U U) ?_
  rintro ⟨i,j⟩ cC
  replace cC:a<=i/\i<=j/\j<=mm/\(i=a∨∃q,l0[i - 1]?=some q/\dU ⟨y0,y1,y2,y3,y4⟩ q=false)/\(j=mm∨∃q,l0[j]?=some q/\dU ⟨y0,y1,y2,y3,y4⟩ q=true):=cC
  dsimp only
  refine bH (bS ?_)
  obtain ⟨hi1,hij,hjb,hL,hR⟩:=cC
  refine bP U (bP U (bB (dD U U) U (bR ?_)))
  refine cE U (fun hlt=>?_) (fun hlt=>?_)
  ·refine bN (bD (bO (bS ?_)))
   obtain ⟨hh,hhd⟩:∃z,z=(i+j) / 2:=⟨_,rfl⟩
   have hh1:i<=hh:=by omega
   have hh2:hh < j:=by omega
   obtain ⟨xx,hx⟩:∃x,l0[hh]?=some x:=⟨_,fJ5 (by omega)⟩
   obtain ⟨x0,x1,x2,x3,x4⟩:=xx
   refine bP U (bP U (gN U U (bL 88 (v':= .int .i64 (((i+j):Nat):Int)) U (fI5 (by omega)) (bB (cA1 (a:=(i+j)) (by kernel_rfl) (by kernel_rfl) U (by omega)) U (bB (bB1 (a:=(i+j)) U U) U (bB (bM7 (a:=(i+j) / 2) (by kernel_rfl) (by kernel_rfl) U (by omega)) U (bL 91 (v':= .int .i64 ((hh:Nat):Int)) U (fI5 (by omega)) (bZ U (bR (bH (gd (fun wz=>True) mixed (fun _ _=>trivial) fun z=>wq 0 U (bJ U) (wq 1 U (bJ U) (wq 2 U (bJ U) (wq 3 U (bT (j:=mm) kE U U (by omega)) (wq 5 U (bJ U) (wq 6 U (bJ U) (wq 7 U (bT (j:=hh) kE U U (by omega)) ?_)))))))))))))))))
   refine kK [4,8] (by kernel_rfl) U ⟨⟨_,U,?_⟩,⟨_,U,?_⟩,trivial⟩
   ·refine bB (dO (vs:= [.int .i64 y0,.string y1,.string y2,.int .i64 y3,.string y4]) fR U (fun _ hm=>(gG.get hm.k fB uM)) hxa U U) U ?_
    refine bE (nw 12 255 (fun _ _=>trivial) fun z=>eC 8 U (bB (dO (vs:= [.int .i64 x0,.string x1,.string x2,.int .i64 x3,.string x4]) fR U (fun _ hm=>(gG.get hm.k fB uM)) hx U U) U (bE (nw 12 511 (fun _ _=>trivial) fun z=>eC 9 U (cL U bX7 U U (fun wx hm=>(rM y0 y1 y2 y3 y4 x0 x1 x2 x3 x4 wx)) (bE (nw 12 1023 (fun _ _=>trivial) fun z=>wq 10 U (dD U U) (wq 11 U (cF U) (jH (bD ?_))))))))))
    refine dC U (fun hh=>?_) (fun hh=>?_)
    ·have hq:(decide (jQ ⟨y0,y1,y2,y3,y4⟩ ⟨x0,x1,x2,x3,x4⟩ < 0))=false:=by simpa using hh
     clear hh
     refine bI ?_
     have wA:dU ⟨y0,y1,y2,y3,y4⟩ ⟨x0,x1,x2,x3,x4⟩=false:=decide_eq_false (by first|exact hq|simpa using hq)
     refine bP U (gN U U (bZ U (bE (bG ?_))))
     exact cQ ((hh+1),j) ⟨by dsimp only;omega,by dsimp only;omega,hjb,.inr ⟨_,by dsimp only;rw [show hh+1 - 1=hh by omega];exact hx,wA⟩,hR⟩ (by dsimp only;omega) ⟨U,U,U,U,U,(cS (by dsimp only;omega)),U,trivial⟩ (fun _ hm=>hm.pick [] [] [] U U)
    have hq:(decide (jQ ⟨y0,y1,y2,y3,y4⟩ ⟨x0,x1,x2,x3,x4⟩ < 0))=true:=by simpa using hh
    clear hh
    refine bI ?_
    have wA:dU ⟨y0,y1,y2,y3,y4⟩ ⟨x0,x1,x2,x3,x4⟩=true:=decide_eq_true (by first|exact hq|simpa using hq)
    refine bP U (bZ U (bE (bG ?_)))
    exact cQ (i,hh) ⟨hi1,by dsimp only;omega,by dsimp only;omega,hL,.inr ⟨_,hx,wA⟩⟩ (by dsimp only;omega) ⟨U,U,U,U,U,U,U,trivial⟩ (fun _ hm=>hm.pick [] [] [] U U)
   refine bB (dO (vs:= [.int .i64 x0,.string x1,.string x2,.int .i64 x3,.string x4]) fR U (fun _ hm=>(gG.get hm.k fB uM)) hx U U) U (bE (nw 12 495 (fun _ _=>trivial) fun z=>eC 4 U (bB (dO (vs:= [.int .i64 y0,.string y1,.string y2,.int .i64 y3,.string y4]) fR U (fun _ hm=>(gG.get hm.k fB uM)) hxa U U) U (bE (nw 12 511 (fun _ _=>trivial) fun z=>eC 9 U (cL U bX7 U U (fun wx hm=>(rM y0 y1 y2 y3 y4 x0 x1 x2 x3 x4 wx)) (bE (nw 12 1023 (fun _ _=>trivial) fun z=>wq 10 U (dD U U) (wq 11 U (cF U) (jH (bD ?_)))))))))))
   refine dC U (fun hh=>?_) (fun hh=>?_)
   ·have hq:(decide (jQ ⟨y0,y1,y2,y3,y4⟩ ⟨x0,x1,x2,x3,x4⟩ < 0))=false:=by simpa using hh
    clear hh
    refine bI ?_
    have wA:dU ⟨y0,y1,y2,y3,y4⟩ ⟨x0,x1,x2,x3,x4⟩=false:=decide_eq_false (by first|exact hq|simpa using hq)
    refine bP U (gN U U (bZ U (bE (bG ?_))))
    exact cQ ((hh+1),j) ⟨by dsimp only;omega,by dsimp only;omega,hjb,.inr ⟨_,by dsimp only;rw [show hh+1 - 1=hh by omega];exact hx,wA⟩,hR⟩ (by dsimp only;omega) ⟨U,U,U,U,U,(cS (by dsimp only;omega)),U,trivial⟩ (fun _ hm=>hm.pick [] [] [] U U)
   have hq:(decide (jQ ⟨y0,y1,y2,y3,y4⟩ ⟨x0,x1,x2,x3,x4⟩ < 0))=true:=by simpa using hh
   clear hh
   refine bI ?_
   have wA:dU ⟨y0,y1,y2,y3,y4⟩ ⟨x0,x1,x2,x3,x4⟩=true:=decide_eq_true (by first|exact hq|simpa using hq)
   refine bP U (bZ U (bE (bG ?_)))
   exact cQ (i,hh) ⟨hi1,by dsimp only;omega,by dsimp only;omega,hL,.inr ⟨_,hx,wA⟩⟩ (by dsimp only;omega) ⟨U,U,U,U,U,U,U,trivial⟩ (fun _ hm=>hm.pick [] [] [] U U)
  refine dE (bF (bF (bY (bD (bH (bS ?_))))))
  obtain rfl:i=j:=by omega
  refine bP U (bZ U (bR (bO ?_)))
  refine dX (γ:=Nat×List Ev) (fun g=>(i<=g.1/\g.1<=mm)/\g.2.length=n/\g.2=bQ8 l0 mm (mm - g.1)) (fun g=> [(0,.slice (some ⟨br,0,none⟩) n eV),(1,.int .i64 ((a:Nat):Int)),(2,.int .i64 ((mm:Nat):Int)),(3,.int .i64 ((b:Nat):Int)),(4,.func (.func 131) #[] #[]),(14,.int .i64 ((i:Nat):Int)),(17,.int .i64 ((g.1:Nat):Int))]) (fun g=>gG base 74 5 n eV br ((g.2).flatMap dP)) (fun g=> []) (fun g=> []) (fun g=> []) (fun g=>g.1 - i) (mm,l0) ⟨⟨hjb,Nat.le_refl _⟩,uM,by dsimp only;rw [Nat.sub_self];rfl⟩ ⟨U,U,U,U,U,U,U,trivial⟩ (fun _ hm=>hm.pick [] [] [] U U) ?_
  rintro ⟨k,m⟩ cC
  replace cC:(i<=k/\k<=mm)/\m.length=n/\m=bQ8 l0 mm (mm - k):=cC
  dsimp only
  refine bH (bS ?_)
  obtain ⟨⟨hka,hki⟩,pQ,hmk⟩:=cC
  refine bP U (bP U (bB (eJ U U) U (bR ?_)))
  refine cE U (fun hk=>?_) (fun hk=>?_)
  ·refine bN (bD (bH (bO ?_)))
   obtain ⟨k,rfl⟩:∃q,k=q+1:=⟨k - 1,by omega⟩
   have hk2:k+1 < n:=by omega
   obtain ⟨xx,hx⟩:∃x,m[k]?=some x:=⟨_,fJ5 (by omega)⟩
   obtain ⟨x0,x1,x2,x3,x4⟩:=xx
   obtain ⟨yy,hy⟩:∃x,m[(k+1)]?=some x:=⟨_,fJ5 (by omega)⟩
   obtain ⟨u0,u1,u2,u3,u4⟩:=yy
   refine gd (fun wz=>True) mixed (fun _ _=>trivial) fun z=>wq 0 U (bJ U) (wq 1 U (bJ U) (wq 2 U (bJ U) (wq 3 U (bJ U) (wq 4 U (ov_sub U U (by omega) (by omega)) (dG 117 (v':= .int .i64 ((k:Nat):Int)) U (fI5 (by omega)) (wq 5 U (bJ U) (wq 6 U (bJ U) (wq 7 U (ov_sub U U (by omega) (by omega)) (dG 120 (v':= .int .i64 ((k:Nat):Int)) U (fI5 (by omega)) (wq 8 U (bT (j:=k) kE U U (by omega)) (wq 10 U (bJ U) (wq 11 U (bJ U) (wq 12 U (bT (j:=(k+1)) kE U U (by omega)) ?_)))))))))))))
   refine kK [9,13] (by kernel_rfl) U ⟨⟨_,U,?_⟩,⟨_,U,?_⟩,trivial⟩
   ·refine bB (dO (vs:= [.int .i64 x0,.string x1,.string x2,.int .i64 x3,.string x4]) fR U (fun _ hm=>(gG.get hm.k fB pQ)) hx U U) U ?_
    refine bE (nw 18 8191 (fun _ _=>trivial) fun z=>eC 13 U (bB (dO (vs:= [.int .i64 u0,.string u1,.string u2,.int .i64 u3,.string u4]) fR U (fun _ hm=>(gG.get hm.k fB pQ)) hy U U) U (bE (nw 18 16383 (fun _ _=>trivial) fun z=>wq 14 U (bT (j:=(k+1)) kE U U (by omega)) (eC 15 U (eX (l:=m) (j:=(k+1)) (r:=0) (el:=⟨u0,u1,u2,u3,u4⟩) (el':=⟨x0,x1,x2,x3,x4⟩) U fR U U U U fB U hy pQ (by decide) U U (bE (nw 18 65535 (fun _ _=>trivial) fun z=>wq 16 U (bT (j:=k) kE U U (by omega)) (eC 17 U ?_)))))))))
    refine eX (l:=m.set (k+1) ⟨x0,x1,x2,x3,x4⟩) (j:=k) (r:=0) (el:=⟨x0,x1,x2,x3,x4⟩) (el':=⟨u0,u1,u2,u3,u4⟩) U fR U U U U fB U (by rw [List.getElem?_set_ne (by omega)];exact hx) (by rw [List.length_set];exact pQ) (by decide) U U ?_
    refine bE (nw 18 262143 (fun _ _=>trivial) fun z=>jH (bG (bD (bI (bP U (bB (ov_sub U U (by omega) (by omega)) U (bL 112 (v':= .int .i64 ((k:Nat):Int)) U (fI5 (by omega)) (bZ U (bE ?_)))))))))
    have hcm:(m.set (k+1) ⟨x0,x1,x2,x3,x4⟩).set k ⟨u0,u1,u2,u3,u4⟩=(m.set k ⟨u0,u1,u2,u3,u4⟩).set (k+1) ⟨x0,x1,x2,x3,x4⟩:=List.set_comm _ _ (by omega)
    rw [hcm]
    have hst:bQ8 l0 mm (mm - k)=(m.set k ⟨u0,u1,u2,u3,u4⟩).set (k+1) ⟨x0,x1,x2,x3,x4⟩:=by
     rw [show mm - k=(mm - (k+1))+1 by omega]
     unfold bQ8
     rw [<-hmk,show mm - (mm - (k+1)) - 1=k by omega,show mm - (mm - (k+1))=k+1 by omega]
     exact bJ2 (l:=m) (a:=k) (b:=k+1) (k:=0) hx hy
    exact cQ (k,(m.set k ⟨u0,u1,u2,u3,u4⟩).set (k+1) ⟨x0,x1,x2,x3,x4⟩) ⟨⟨by dsimp only;omega,by dsimp only;omega⟩,by simp [pQ],hst.symm⟩ (by dsimp only;omega) ⟨U,U,U,U,U,U,U,trivial⟩ (fun _ hm=>hm.pick [] [] [] U U)
   refine bB (dO (vs:= [.int .i64 u0,.string u1,.string u2,.int .i64 u3,.string u4]) fR U (fun _ hm=>(gG.get hm.k fB pQ)) hy U U) U (bE (nw 18 15871 (fun _ _=>trivial) fun z=>eC 9 U (bB (dO (vs:= [.int .i64 x0,.string x1,.string x2,.int .i64 x3,.string x4]) fR U (fun _ hm=>(gG.get hm.k fB pQ)) hx U U) U (bE (nw 18 16383 (fun _ _=>trivial) fun z=>wq 14 U (bT (j:=(k+1)) kE U U (by omega)) (eC 15 U (eX (l:=m) (j:=(k+1)) (r:=0) (el:=⟨u0,u1,u2,u3,u4⟩) (el':=⟨x0,x1,x2,x3,x4⟩) U fR U U U U fB U hy pQ (by decide) U U (bE (nw 18 65535 (fun _ _=>trivial) fun z=>wq 16 U (bT (j:=k) kE U U (by omega)) (eC 17 U ?_))))))))))
   refine eX (l:=m.set (k+1) ⟨x0,x1,x2,x3,x4⟩) (j:=k) (r:=0) (el:=⟨x0,x1,x2,x3,x4⟩) (el':=⟨u0,u1,u2,u3,u4⟩) U fR U U U U fB U (by rw [List.getElem?_set_ne (by omega)];exact hx) (by rw [List.length_set];exact pQ) (by decide) U U ?_
   refine bE (nw 18 262143 (fun _ _=>trivial) fun z=>jH (bG (bD (bI (bP U (bB (ov_sub U U (by omega) (by omega)) U (bL 112 (v':= .int .i64 ((k:Nat):Int)) U (fI5 (by omega)) (bZ U (bE ?_)))))))))
   have hcm:(m.set (k+1) ⟨x0,x1,x2,x3,x4⟩).set k ⟨u0,u1,u2,u3,u4⟩=(m.set k ⟨u0,u1,u2,u3,u4⟩).set (k+1) ⟨x0,x1,x2,x3,x4⟩:=List.set_comm _ _ (by omega)
   rw [hcm]
   have hst:bQ8 l0 mm (mm - k)=(m.set k ⟨u0,u1,u2,u3,u4⟩).set (k+1) ⟨x0,x1,x2,x3,x4⟩:=by
    rw [show mm - k=(mm - (k+1))+1 by omega]
    unfold bQ8
    rw [<-hmk,show mm - (mm - (k+1)) - 1=k by omega,show mm - (mm - (k+1))=k+1 by omega]
    exact bJ2 (l:=m) (a:=k) (b:=k+1) (k:=0) hx hy
   exact cQ (k,(m.set k ⟨u0,u1,u2,u3,u4⟩).set (k+1) ⟨x0,x1,x2,x3,x4⟩) ⟨⟨by dsimp only;omega,by dsimp only;omega⟩,by simp [pQ],hst.symm⟩ (by dsimp only;omega) ⟨U,U,U,U,U,U,U,trivial⟩ (fun _ hm=>hm.pick [] [] [] U U)
  refine dE (bF (bF (bY (bD (bM (bA ?_))))))
  obtain rfl:k=i:=by omega
  obtain rfl:b=mm+1:=by omega
  refine cL8 U fun wx hm=>?_
  have hf:=mD hm.k hm.g
  exact ⟨m,eG1 vX (by omega) hxa hsA hi1 hki hL hR (by rw [pQ,uM]) (fun x=>by rw [hmk,cZ6 (by omega) (by omega),show mm - (mm - k)=k by omega]),U,hf.1,hf.2⟩
 refine bN (bD (bS ?_))
 obtain ⟨qI,hmid⟩:∃z,z=(a+b) / 2:=⟨_,rfl⟩
 refine bP U (bP U (gN U U (bL 131 (v':= .int .i64 (((a+b):Nat):Int)) U (fI5 (by omega)) (bB (cA1 (a:=(a+b)) (by kernel_rfl) (by kernel_rfl) U (by omega)) U (bB (bB1 (a:=(a+b)) U U) U (bB (bM7 (a:=(a+b) / 2) (by kernel_rfl) (by kernel_rfl) U (by omega)) U (bL 134 (v':= .int .i64 ((qI:Nat):Int)) U (fI5 (by omega)) (bZ U (bR (bS (bP U (bP U (gN U U (bL 137 (v':= .int .i64 (((qI+mm):Nat):Int)) U (fI5 (by omega)) (bZ U (bR (bS (bZ U (bZ U (bR ?_))))))))))))))))))))
 refine pC (γ:=Nat×Nat) (I:=(fun g=>(a<=g.1/\g.1<=g.2)/\(g.2<=mm/\g.2<=qI)/\(qI+mm - b<=g.1)/\(g.1=a∨(g.1=qI+mm - b/\b<=qI+mm))/\(g.2=mm∨g.2=qI))) (S':=(fun g=> [(0,.slice (some ⟨br,0,none⟩) n eV),(1,.int .i64 ((a:Nat):Int)),(2,.int .i64 ((mm:Nat):Int)),(3,.int .i64 ((b:Nat):Int)),(4,.func (.func 131) #[] #[]),(18,.int .i64 ((qI:Nat):Int)),(19,.int .i64 (((qI+mm):Nat):Int)),(20,.int .i64 ((g.1:Nat):Int)),(21,.int .i64 ((g.2:Nat):Int))])) (K':=(fun g=>gG base 74 5 n eV br ((l0).flatMap dP))) (L':=(fun g=> [])) (O':=(fun g=> [])) (X':=(fun g=> [])) ?_ ?_
 ·refine bS (bP U (bP U ?_))
  refine bB (eJ U U) U (bR ?_)
  refine cE U (fun hgt=>?_) (fun hgt=>?_)
  ·refine bS (bP U (bP U ?_))
   refine bB (ov_sub U U (by omega) (by omega)) U (bL 143 (v':= .int .i64 (((qI+mm - b):Nat):Int)) U (fI5 (by omega)) (bZ U (bR (bI (bP U (bZ U (bE ?_)))))))
   exact fK ((qI+mm - b),qI) ⟨⟨by dsimp only;omega,by dsimp only;omega⟩,⟨by dsimp only;omega,Nat.le_refl _⟩,Nat.le_refl _,.inr ⟨U,by omega⟩,.inr U⟩ ⟨U,U,U,U,U,U,U,U,U,trivial⟩ (fun _ hm=>hm.pick [] [] [] U U)
  refine bS (bP U (bZ U (bR (bI (bP U (bZ U (bE ?_)))))))
  exact fK (a,mm) ⟨⟨Nat.le_refl _,by dsimp only;omega⟩,⟨Nat.le_refl _,by dsimp only;omega⟩,by dsimp only;omega,.inl rfl,.inl rfl⟩ ⟨U,U,U,U,U,U,U,U,U,trivial⟩ (fun _ hm=>hm.pick [] [] [] U U)
 rintro ⟨lo,hi⟩ cC
 replace cC:(a<=lo/\lo<=hi)/\(hi<=mm/\hi<=qI)/\(qI+mm - b<=lo)/\(lo=a∨(lo=qI+mm - b/\b<=qI+mm))/\(hi=mm∨hi=qI):=cC
 dsimp only
 refine bS ?_
 obtain ⟨⟨q1,q2⟩,⟨q3,q4⟩,q5,q6,q7⟩:=cC
 refine bP U (bB (ov_sub U U (by omega) (by omega)) U (bL 148 (v':= .int .i64 (((qI+mm - 1):Nat):Int)) U (fI5 (by omega)) (bZ U (bR (bH (bO ?_))))))
 refine dX (γ:=Nat×Nat) (fun g=>lo<=g.1/\g.1<=g.2/\g.2<=hi/\(g.1=lo∨∃u v,l0[g.1 - 1]?=some u/\l0[qI+mm - g.1]?=some v/\dU v u=false)/\(g.2=hi∨∃u v,l0[g.2]?=some u/\l0[qI+mm - 1 - g.2]?=some v/\dU v u=true)) (fun g=> [(0,.slice (some ⟨br,0,none⟩) n eV),(1,.int .i64 ((a:Nat):Int)),(2,.int .i64 ((mm:Nat):Int)),(3,.int .i64 ((b:Nat):Int)),(4,.func (.func 131) #[] #[]),(18,.int .i64 ((qI:Nat):Int)),(19,.int .i64 (((qI+mm):Nat):Int)),(20,.int .i64 ((g.1:Nat):Int)),(21,.int .i64 ((g.2:Nat):Int)),(22,.int .i64 (((qI+mm - 1):Nat):Int))]) (fun g=>gG base 74 5 n eV br ((l0).flatMap dP)) (fun g=> []) (fun g=> []) (fun g=> []) (fun g=>g.2 - g.1) (lo,hi) ⟨Nat.le_refl _,q2,Nat.le_refl _,.inl U,.inl U⟩ ⟨U,U,U,U,U,U,U,U,U,U,trivial⟩ (fun _ hm=>hm.pick [] [] [] U U) ?_
 rintro ⟨i,j⟩ cC
 replace cC:lo<=i/\i<=j/\j<=hi/\(i=lo∨∃u v,l0[i - 1]?=some u/\l0[qI+mm - i]?=some v/\dU v u=false)/\(j=hi∨∃u v,l0[j]?=some u/\l0[qI+mm - 1 - j]?=some v/\dU v u=true):=cC
 dsimp only
 refine bH (bS ?_)
 obtain ⟨hi1,hij,hjb,hL,hR⟩:=cC
 refine bP U (bP U (bB (dD U U) U (bR ?_)))
 refine cE U (fun hlt=>?_) (fun hlt=>?_)
 ·refine bN (bD (bO (bS ?_)))
  obtain ⟨hh,hhd⟩:∃z,z=(i+j) / 2:=⟨_,rfl⟩
  have hh1:i<=hh:=by omega
  have hh2:hh < j:=by omega
  obtain ⟨xx,hx⟩:∃x,l0[(qI+mm - 1 - hh)]?=some x:=⟨_,fJ5 (by omega)⟩
  obtain ⟨x0,x1,x2,x3,x4⟩:=xx
  obtain ⟨yy,hy⟩:∃x,l0[hh]?=some x:=⟨_,fJ5 (by omega)⟩
  obtain ⟨y0,y1,y2,y3,y4⟩:=yy
  refine bP U (bP U (gN U U (bL 154 (v':= .int .i64 (((i+j):Nat):Int)) U (fI5 (by omega)) (bB (cA1 (a:=(i+j)) (by kernel_rfl) (by kernel_rfl) U (by omega)) U (bB (bB1 (a:=(i+j)) U U) U (bB (bM7 (a:=(i+j) / 2) (by kernel_rfl) (by kernel_rfl) U (by omega)) U (bL 157 (v':= .int .i64 ((hh:Nat):Int)) U (fI5 (by omega)) (bZ U (bR (bH (gd (fun wz=>True) mixed (fun _ _=>trivial) fun z=>wq 0 U (bJ U) (wq 1 U (bJ U) (wq 2 U (bJ U) (wq 3 U (bJ U) (wq 4 U (ov_sub U U (by omega) (by omega)) (dG 162 (v':= .int .i64 (((qI+mm - 1 - hh):Nat):Int)) U (fI5 (by omega)) (wq 5 U (bT (j:=(qI+mm - 1 - hh)) kE U U (by omega)) (wq 7 U (bJ U) (wq 8 U (bJ U) (wq 9 U (bT (j:=hh) kE U U (by omega)) ?_))))))))))))))))))))
  refine kK [6,10] (by kernel_rfl) U ⟨⟨_,U,?_⟩,⟨_,U,?_⟩,trivial⟩
  ·refine bB (dO (vs:= [.int .i64 x0,.string x1,.string x2,.int .i64 x3,.string x4]) fR U (fun _ hm=>(gG.get hm.k fB uM)) hx U U) U ?_
   refine bE (nw 14 1023 (fun _ _=>trivial) fun z=>eC 10 U (bB (dO (vs:= [.int .i64 y0,.string y1,.string y2,.int .i64 y3,.string y4]) fR U (fun _ hm=>(gG.get hm.k fB uM)) hy U U) U (bE (nw 14 2047 (fun _ _=>trivial) fun z=>eC 11 U (cL U bX7 U U (fun wx hm=>(rM x0 x1 x2 x3 x4 y0 y1 y2 y3 y4 wx)) (bE (nw 14 4095 (fun _ _=>trivial) fun z=>wq 12 U (dD U U) (wq 13 U (cF U) (jH (bD ?_))))))))))
   refine dC U (fun hh=>?_) (fun hh=>?_)
   ·have hq:(decide (jQ ⟨x0,x1,x2,x3,x4⟩ ⟨y0,y1,y2,y3,y4⟩ < 0))=false:=by simpa using hh
    clear hh
    refine bI ?_
    have wA:dU ⟨x0,x1,x2,x3,x4⟩ ⟨y0,y1,y2,y3,y4⟩=false:=decide_eq_false (by first|exact hq|simpa using hq)
    refine bP U (gN U U (bZ U (bE (bG ?_))))
    exact cQ ((hh+1),j) ⟨by dsimp only;omega,by dsimp only;omega,hjb,.inr ⟨_,_,by dsimp only;rw [show hh+1 - 1=hh by omega];exact hy,by dsimp only;rw [show qI+mm - (hh+1)=qI+mm - 1 - hh by omega];exact hx,wA⟩,hR⟩ (by dsimp only;omega) ⟨U,U,U,U,U,U,U,(cS (by dsimp only;omega)),U,U,trivial⟩ (fun _ hm=>hm.pick [] [] [] U U)
   have hq:(decide (jQ ⟨x0,x1,x2,x3,x4⟩ ⟨y0,y1,y2,y3,y4⟩ < 0))=true:=by simpa using hh
   clear hh
   refine bI ?_
   have wA:dU ⟨x0,x1,x2,x3,x4⟩ ⟨y0,y1,y2,y3,y4⟩=true:=decide_eq_true (by first|exact hq|simpa using hq)
   refine bP U (bZ U (bE (bG ?_)))
   exact cQ (i,hh) ⟨hi1,by dsimp only;omega,by dsimp only;omega,hL,.inr ⟨_,_,hy,hx,wA⟩⟩ (by dsimp only;omega) ⟨U,U,U,U,U,U,U,U,U,U,trivial⟩ (fun _ hm=>hm.pick [] [] [] U U)
  refine bB (dO (vs:= [.int .i64 y0,.string y1,.string y2,.int .i64 y3,.string y4]) fR U (fun _ hm=>(gG.get hm.k fB uM)) hy U U) U (bE (nw 14 1983 (fun _ _=>trivial) fun z=>eC 6 U (bB (dO (vs:= [.int .i64 x0,.string x1,.string x2,.int .i64 x3,.string x4]) fR U (fun _ hm=>(gG.get hm.k fB uM)) hx U U) U (bE (nw 14 2047 (fun _ _=>trivial) fun z=>eC 11 U (cL U bX7 U U (fun wx hm=>(rM x0 x1 x2 x3 x4 y0 y1 y2 y3 y4 wx)) (bE (nw 14 4095 (fun _ _=>trivial) fun z=>wq 12 U (dD U U) (wq 13 U (cF U) (jH (bD ?_)))))))))))
  refine dC U (fun hh=>?_) (fun hh=>?_)
  ·have hq:(decide (jQ ⟨x0,x1,x2,x3,x4⟩ ⟨y0,y1,y2,y3,y4⟩ < 0))=false:=by simpa using hh
   clear hh
   refine bI ?_
   have wA:dU ⟨x0,x1,x2,x3,x4⟩ ⟨y0,y1,y2,y3,y4⟩=false:=decide_eq_false (by first|exact hq|simpa using hq)
   refine bP U (gN U U (bZ U (bE (bG ?_))))
   exact cQ ((hh+1),j) ⟨by dsimp only;omega,by dsimp only;omega,hjb,.inr ⟨_,_,by dsimp only;rw [show hh+1 - 1=hh by omega];exact hy,by dsimp only;rw [show qI+mm - (hh+1)=qI+mm - 1 - hh by omega];exact hx,wA⟩,hR⟩ (by dsimp only;omega) ⟨U,U,U,U,U,U,U,(cS (by dsimp only;omega)),U,U,trivial⟩ (fun _ hm=>hm.pick [] [] [] U U)
  have hq:(decide (jQ ⟨x0,x1,x2,x3,x4⟩ ⟨y0,y1,y2,y3,y4⟩ < 0))=true:=by simpa using hh
  clear hh
  refine bI ?_
  have wA:dU ⟨x0,x1,x2,x3,x4⟩ ⟨y0,y1,y2,y3,y4⟩=true:=decide_eq_true (by first|exact hq|simpa using hq)
  refine bP U (bZ U (bE (bG ?_)))
  exact cQ (i,hh) ⟨hi1,by dsimp only;omega,by dsimp only;omega,hL,.inr ⟨_,_,hy,hx,wA⟩⟩ (by dsimp only;omega) ⟨U,U,U,U,U,U,U,U,U,U,trivial⟩ (fun _ hm=>hm.pick [] [] [] U U)
 refine dE (bF (bF (bY (bD (bS ?_)))))
 obtain rfl:i=j:=by omega
 obtain ⟨e,he⟩:∃z,z=qI+mm - i:=⟨_,rfl⟩
 have e1:a<=i:=by omega
 have e2:i<=mm:=by omega
 have e3:mm<=e:=by omega
 have e4:e<=b:=by omega
 have e5:qI=i+(e - mm):=by omega
 have w1:i=a∨e=b∨∃x y,l0[i - 1]?=some x/\l0[e]?=some y/\dU y x=false:=by
  rcases hL with h3|⟨u,v,h3,h4,h5⟩
  ·rcases q6 with h4|h4
   ·exact .inl (by omega)
   exact .inr (.inl (by omega))
  exact .inr (.inr ⟨u,v,h3,by rw [he];exact h4,h5⟩)
 have w2:e=mm∨i=mm∨∃x y,l0[i]?=some x/\l0[e - 1]?=some y/\dU y x=true:=by
  rcases hR with h3|⟨u,v,h3,h4,h5⟩
  ·rcases q7 with h4|h4
   ·exact .inr (.inl (by omega))
   exact .inl (by omega)
  exact .inr (.inr ⟨u,v,h3,by rw [show e - 1=qI+mm - 1 - i by omega];exact h4,h5⟩)
 refine bP U (bP U (bB (ov_sub U U (by omega) (by omega)) U (bL 177 (v':= .int .i64 ((e:Nat):Int)) U (fI5 (by omega)) (bZ U (bR ?_)))))
 refine pC (γ:=List Ev) (I:=(fun (l1:List Ev)=>l1.length=n/\∀x,l1[x]?=kI l0 i mm e x)) (S':=(fun (l1:List Ev)=> [(0,.slice (some ⟨br,0,none⟩) n eV),(1,.int .i64 ((a:Nat):Int)),(3,.int .i64 ((b:Nat):Int)),(4,.func (.func 131) #[] #[]),(18,.int .i64 ((qI:Nat):Int)),(20,.int .i64 ((i:Nat):Int)),(24,.int .i64 ((e:Nat):Int))])) (K':=(fun (l1:List Ev)=>gG base 74 5 n eV br ((l1).flatMap dP))) (L':=(fun (l1:List Ev)=> [])) (O':=(fun (l1:List Ev)=> [])) (X':=(fun (l1:List Ev)=> [])) ?_ ?_
 ·refine bS (bP U (bP U (bB (dD U U) U (bP U ?_))))
  rcases Bool.eq_false_or_eq_true (decide (((i:Nat):Int) < ((mm:Nat):Int))) with hb|hb
  ·refine bL 181 U (fH5 hb) ?_
   replace hb:=of_decide_eq_true hb
   refine eG U (bP U (eG U (bP U (eG U (bB (dD U U) U (mQ U U (bR ?_)))))))
   refine cE U (fun hb2=>?_) (fun hb2=>?_)
   ·refine bI (bP U (bP U (bP U (bP U (bP U ?_)))))
    refine fO (γ:=List Ev) (val:=fun _=> .tuple #[]) (φ:=fun R=>R.length=n/\∀x,R[x]?=kI l0 i mm e x) (K':=fun R=>gG base 74 5 n eV br ((R).flatMap dP)) (L':=fun _=> []) (O':=fun _=> []) (X':=fun _=> []) U fP0 U U (fun wx hm=>((dB6 l0 br n eV base i mm e wx hm.k uM hn (by omega) (by omega) (by omega))).mono fun _ _ ⟨R_,h1,he,ho,hg⟩=>⟨R_,he,h1,hm.turned U U ho hg⟩) ?_
    intro R hR
    refine bE ?_
    exact fK R hR ⟨U,U,U,U,U,U,U,trivial⟩ (fun _ hm=>hm.pick [] [] [] U U)
   refine bN ?_
   exact fK l0 ⟨uM,fun x=>cQ8 (by omega) e2 e3 x⟩ ⟨U,U,U,U,U,U,U,trivial⟩ (fun _ hm=>hm.pick [] [] [] U U)
  refine bL 181 U (fH5 hb) ?_
  replace hb:=of_decide_eq_false hb
  refine dY U (dY U (dY U (nS U U (bR (jU U (bN ?_))))))
  exact fK l0 ⟨uM,fun x=>cQ8 (by omega) e2 e3 x⟩ ⟨U,U,U,U,U,U,U,trivial⟩ (fun _ hm=>hm.pick [] [] [] U U)
 intro l1 cC
 replace cC:l1.length=n/\∀x,l1[x]?=kI l0 i mm e x:=cC
 obtain ⟨hl1,hrot⟩:=cC
 obtain ⟨p1,p2,p3,p4⟩:=cU3 (a:=a) (b:=b) hrot e2 e3 e5
 have s1:xD dU (eO l1 a i):=by rw [p1,<-show a+(i - a)=i by omega,<-bC2 (m:=mm) (by omega)];exact bT5 hsA _
 have s2:xD dU (eO l1 i qI):=by rw [p2,<-show mm+(e - mm)=e by omega,<-bC2 (m:=b) (by omega)];exact bT5 hsB _
 have s3:xD dU (eO l1 qI e):=by rw [p3,show i=a+(i - a) by omega,<-bA2];exact bS5 hsA _
 have s4:xD dU (eO l1 e b):=by rw [p4,show e=mm+(e - mm) by omega,<-bA2];exact bS5 hsB _
 refine pC (γ:=List Ev) (I:=(fun (R1:List Ev)=>R1.length=n/\xE dU l1 R1 a qI)) (S':=(fun (R1:List Ev)=> [(0,.slice (some ⟨br,0,none⟩) n eV),(3,.int .i64 ((b:Nat):Int)),(4,.func (.func 131) #[] #[]),(18,.int .i64 ((qI:Nat):Int)),(24,.int .i64 ((e:Nat):Int))])) (K':=(fun (R1:List Ev)=>gG base 74 5 n eV br ((R1).flatMap dP))) (L':=(fun (R1:List Ev)=> [])) (O':=(fun (R1:List Ev)=> [])) (X':=(fun (R1:List Ev)=> [])) ?_ ?_
 ·refine bS (bP U (bP U (bB (dD U U) U (bP U ?_))))
  rcases Bool.eq_false_or_eq_true (decide (((a:Nat):Int) < ((i:Nat):Int))) with hb|hb
  ·refine bL 195 U (fH5 hb) ?_
   replace hb:=of_decide_eq_true hb
   refine eG U (bP U (eG U (bP U (eG U (bB (dD U U) U (mQ U U (bR ?_)))))))
   refine cE U (fun hb2=>?_) (fun hb2=>?_)
   ·refine bI (bP U (bP U (bP U (bP U (bP U ?_)))))
    refine fO (γ:=List Ev) (val:=fun _=> .tuple #[]) (φ:=fun R=>R.length=n/\xE dU l1 R a qI) (K':=fun R=>gG base 74 5 n eV br ((R).flatMap dP)) (L':=fun _=> []) (O':=fun _=> []) (X':=fun _=> []) U dK2 U U (fun wx hm=>(ih a i qI (by omega) l1 wx hm.k hl1 hn (by omega) (by omega) (by omega) s1 s2).mono fun _ _ ⟨R_,h1,he,ho,hg⟩=>⟨R_,he,⟨by rw [h1.len];exact hl1,h1⟩,hm.turned U U ho hg⟩) ?_
    intro R hR
    refine bE ?_
    exact fK R hR ⟨U,U,U,U,U,trivial⟩ (fun _ hm=>hm.pick [] [] [] U U)
   refine bN ?_
   exact fK l1 ⟨hl1,bW5 (by rcases (show i=a∨i=qI by omega) with h9|h9 <;> (subst h9;assumption))⟩ ⟨U,U,U,U,U,trivial⟩ (fun _ hm=>hm.pick [] [] [] U U)
  refine bL 195 U (fH5 hb) ?_
  replace hb:=of_decide_eq_false hb
  refine dY U (dY U (dY U (nS U U (bR (jU U (bN ?_))))))
  exact fK l1 ⟨hl1,bW5 (by rcases (show i=a∨i=qI by omega) with h9|h9 <;> (subst h9;assumption))⟩ ⟨U,U,U,U,U,trivial⟩ (fun _ hm=>hm.pick [] [] [] U U)
 intro R1 cC
 replace cC:R1.length=n/\xE dU l1 R1 a qI:=cC
 refine bS ?_
 obtain ⟨hl2,k1⟩:=cC
 have s5:xD dU (eO R1 qI e):=by rw [bO7 k1.back (Nat.le_refl _)];exact s3
 have s6:xD dU (eO R1 e b):=by rw [bO7 k1.back (by omega)];exact s4
 refine bP U (bP U (bB (dD U U) U (bP U ?_)))
 rcases Bool.eq_false_or_eq_true (decide (((qI:Nat):Int) < ((e:Nat):Int))) with hb|hb
 ·refine bL 209 U (fH5 hb) ?_
  replace hb:=of_decide_eq_true hb
  refine eG U (bP U (eG U (bP U (eG U (bB (dD U U) U (mQ U U (bR ?_)))))))
  refine cE U (fun hb2=>?_) (fun hb2=>?_)
  ·refine bI (bP U (bP U (bP U (bP U (bP U ?_)))))
   refine fO (γ:=List Ev) (val:=fun _=> .tuple #[]) (φ:=fun R=>xE dU R1 R qI b) (K':=fun R=>gG base 74 5 n eV br ((R).flatMap dP)) (L':=fun _=> []) (O':=fun _=> []) (X':=fun _=> []) U dK2 U U (fun wx hm=>((ih qI e b (by omega) R1 wx hm.k hl2 hn (by omega) (by omega) (by omega) s5 s6)).mono fun _ _ ⟨R_,h1,he,ho,hg⟩=>⟨R_,he,h1,hm.turned U U ho hg⟩) ?_
   intro R hR
   refine bE ?_
   refine jD U fun wx hm=>?_
   have hf:=mD hm.k hm.g
   exact ⟨R,bT7 vX (by omega) hsA hsB e1 e2 e3 e4 e5 w1 w2 (by rw [hl1,uM]) hrot k1 hR,U,hf.1,hf.2⟩
  refine bN ?_
  refine jD U fun wx hm=>?_
  have hf:=mD hm.k hm.g
  exact ⟨R1,bT7 vX (by omega) hsA hsB e1 e2 e3 e4 e5 w1 w2 (by rw [hl1,uM]) hrot k1 (bW5 (by rcases (show e=qI∨e=b by omega) with h9|h9 <;> (subst h9;assumption))),U,hf.1,hf.2⟩
 refine bL 209 U (fH5 hb) ?_
 replace hb:=of_decide_eq_false hb
 refine dY U (dY U (dY U (nS U U (bR (jU U (bN ?_))))))
 refine jD U fun wx hm=>?_
 have hf:=mD hm.k hm.g
 exact ⟨R1,bT7 vX (by omega) hsA hsB e1 e2 e3 e4 e5 w1 w2 (by rw [hl1,uM]) hrot k1 (bW5 (by rcases (show e=qI∨e=b by omega) with h9|h9 <;> (subst h9;assumption))),U,hf.1,hf.2⟩
theorem eE1 (br n eV base:Nat):∀(k a mm b:Nat),b - a=k->bO9 br n eV base a mm b:=by
 intro k
 induction k using Nat.strongRecOn with
 |_ k ih=>exact fun a mm b hk=>dW1 br n eV base a mm b fun a' m' b' h=>ih (b' - a') (by omega) a' m' b' rfl
theorem dP3 {pre m post:List Ev} {a j:Nat} (hp:pre.length=a) (hj:j < m.length):(pre++(m++post))[a+j]?=m[j]?:=by
 rw [List.getElem?_append_right (by omega),List.getElem?_append_left (by omega)]
 congr 1;omega
theorem bI9 {pre m post:List Ev} {a j:Nat} {x:Ev} (hp:pre.length=a) (hj:j < m.length):(pre++(m++post)).set (a+j) x=pre++(m.set j x++post):=by
 rw [List.set_append_right _ _ (by omega),List.set_append_left _ _ (by omega),show a+j - pre.length=j by omega]
theorem yJ (pre m0 post:List Ev) (br n eV base a b:Nat) (w:World) (h:w.ownsRow base 74 5 (.slice (some ⟨br,0,none⟩) n eV) n ((pre++(m0++post)).flatMap dP)) (hpre:pre.length=a) (hab:a+m0.length=b) (hbn:b+post.length=n) (hn:n<=1000000):
 Calls prog 141 #[.slice (some ⟨br,0,none⟩) n eV,.int .i64 ((a:Nat):Int),.int .i64 ((b:Nat):Int),.func (.func 131) #[] #[]] w (fun e w'=>e=.returned (.tuple #[])/\w'.ownsRow base 74 5 (.slice (some ⟨br,0,none⟩) n eV) n ((pre++(dR dU m0++post)).flatMap dP)/\w.grownBy w' (some br)):=by
 obtain ⟨q,hq⟩:∃z,z=m0.length:=⟨_,rfl⟩
 obtain ⟨R,hR⟩:∃z,z=dR dU m0:=⟨_,rfl⟩
 rw [<-hR]
 unfold dR at hR
 rw [<-hq] at hR
 refine cV ⟨53,w,(some br), []⟩ func141 U ntmps141 U (bV2 (X:= []) h cY cZ) (bS (bP U (gN U U (bZ U (bR (bO ?_))))))
 refine dX (γ:=Nat×List Ev) (fun gg=>(1<=gg.1/\gg.1<=q+1)/\gg.2.length=q/\pV dU (q - gg.1) gg.1 gg.2=R) (fun gg=> [(0,.slice (some ⟨br,0,none⟩) n eV),(1,.int .i64 ((a:Nat):Int)),(2,.int .i64 ((b:Nat):Int)),(3,.func (.func 131) #[] #[]),(8,.int .i64 (((a+gg.1):Nat):Int))]) (fun gg=>gG base 74 5 n eV br (((pre++(gg.2++post))).flatMap dP)) (fun gg=> []) (fun gg=> []) (fun gg=> []) (fun gg=>q+1 - gg.1) (1,m0) ⟨⟨Nat.le_refl _,by omega⟩,hq.symm,by rw [hR]⟩ ⟨U,U,U,U,(cS (by omega)),trivial⟩ (fun _ hm=>hm.pick [] [] [] U U) ?_
 rintro ⟨i,l⟩ cC
 replace cC:(1<=i/\i<=q+1)/\l.length=q/\pV dU (q - i) i l=R:=cC
 dsimp only
 refine bH (bS ?_)
 obtain ⟨⟨hi1,vO⟩,hl1,hR1⟩:=cC
 refine bP U (bP U (bB (dD U U) U (bR ?_)))
 refine cE U (fun hi=>?_) (fun hi=>?_)
 ·refine bN (bD (bH (bO (bS ?_))))
  have hRi:pV dU (q - (i+1)) (i+1) (uO dU i l)=R:=by rw [<-hR1,show q - i=(q - (i+1))+1 by omega];rfl
  obtain ⟨S,hS⟩:∃z,z=uO dU i l:=⟨_,rfl⟩
  rw [<-hS] at hRi
  have hSl:S.length=q:=by rw [hS,xR];exact hl1
  refine bP U (bZ U (bR (bO ?_)))
  refine dX (γ:=Nat×List Ev) (fun gg=>(gg.1<=i)/\gg.2.length=q/\uO dU gg.1 gg.2=S) (fun gg=> [(0,.slice (some ⟨br,0,none⟩) n eV),(1,.int .i64 ((a:Nat):Int)),(2,.int .i64 ((b:Nat):Int)),(3,.func (.func 131) #[] #[]),(8,.int .i64 (((a+i):Nat):Int)),(9,.int .i64 (((a+gg.1):Nat):Int))]) (fun gg=>gG base 74 5 n eV br (((pre++(gg.2++post))).flatMap dP)) (fun gg=> []) (fun gg=> []) (fun gg=> []) (fun gg=>gg.1) (i,l) ⟨Nat.le_refl _,hl1,hS.symm⟩ ⟨U,U,U,U,U,U,trivial⟩ (fun _ hm=>hm.pick [] [] [] U U) ?_
  rintro ⟨jj,m⟩ cC
  replace cC:(jj<=i)/\m.length=q/\uO dU jj m=S:=cC
  dsimp only
  refine bH (bH ?_)
  obtain ⟨hj1,pQ,hS1⟩:=cC
  rcases jj with _|j
  ·refine gd (fun wz=>True) mixed (fun _ _=>trivial) fun z=>?_
   refine wq 0 U (bJ U) (wq 1 U (bJ U) (wq 2 U (eJ U U) (dG 20 (v':= .bool false) U (fH5 (decide_eq_false (by omega))) (wq 3 U (bJ U) (fC 4 U (fC 5 U (fC 6 U (fC 7 U (fC 8 U (fC 9 U (fC 10 U (fC 11 U (fC 12 U (fC 13 U (fC 14 U (fC 15 U (wq 16 U (fN U U) (jH (bD (jU U (dE (bF (bF (bY ?_))))))))))))))))))))))))
   refine bG (bD (bI (bP U (gN U U (bZ U (bE ?_))))))
   have hm2:m=S:=hS1
   exact cQ (i+1,m) ⟨⟨by dsimp only;omega,by dsimp only;omega⟩,by rw [hm2];exact hSl,by rw [hm2];exact hRi⟩ (by dsimp only;omega) ⟨U,U,U,U,(cS (by dsimp only;omega)),trivial⟩ (fun _ hm=>hm.pick [] [] [] U U)
  have hj2:j+1 < q:=by omega
  obtain ⟨xx,hxm⟩:∃z,m[j]?=some z:=⟨_,fJ5 (by omega)⟩
  obtain ⟨yy,hym⟩:∃z,m[j+1]?=some z:=⟨_,fJ5 (by omega)⟩
  obtain ⟨x0,x1,x2,x3,x4⟩:=xx
  obtain ⟨y0,y1,y2,y3,y4⟩:=yy
  have hwl:(pre++(m++post)).length=n:=by simp only [List.length_append];omega
  have hx:=(dP3 (post:=post) hpre (show j < m.length by omega)).trans hxm
  have hy:=(dP3 (post:=post) hpre (show j+1 < m.length by omega)).trans hym
  refine gd (fun wz=>(gG base 74 5 n eV br (((pre++(m++post))).flatMap dP)) wz/\True) mixed (fun _ hm=>⟨hm.k,trivial⟩) fun z=>wq 0 U (bJ U) (wq 1 U (bJ U) (wq 2 U (eJ U U) (dG 20 (v':= .bool true) U (fH5 (decide_eq_true (by omega))) (wq 3 U (bJ U) (fI 4 U (bJ U) (fI 5 U (bJ U) (fI 6 U (bJ U) (fI 7 U (bT (j:=(a+(j+1))) kE U U (by omega)) (fI 8 U (dO (vs:= [.int .i64 y0,.string y1,.string y2,.int .i64 y3,.string y4]) fR U (fun _ hm=>(gG.get (hm.1) fB hwl)) hy U U) (fI 9 U (bJ U) (fI 10 U (bJ U) (fI 11 U (ov_sub U U (by omega) (by omega)) (dG 29 (v':= .int .i64 (((a+j):Nat):Int)) U (fI5 (by omega)) (fI 12 U (bT (j:=(a+j)) kE U U (by omega)) (fI 13 U (dO (vs:= [.int .i64 x0,.string x1,.string x2,.int .i64 x3,.string x4]) fR U (fun _ hm=>(gG.get (hm.1) fB hwl)) hx U U) (eC 14 U (eG U (cL U bX7 U U (fun wx hm=>(rM y0 y1 y2 y3 y4 x0 x1 x2 x3 x4 wx)) (bE (nw 17 32767 (fun _ hm=>⟨hm.k,trivial⟩) fun z=>fI 15 U (dD U U) (wq 16 U (fD U U) (jH (bD ?_)))))))))))))))))))))))
  refine cE U (fun hlt=>?_) (fun hlt=>?_)
  ·refine bN (bD (bH (bO ?_)))
   have hlt2:dU ⟨y0,y1,y2,y3,y4⟩ ⟨x0,x1,x2,x3,x4⟩=true:=decide_eq_true (show jQ ⟨y0,y1,y2,y3,y4⟩ ⟨x0,x1,x2,x3,x4⟩ < 0 from hlt)
   have hS2:=(bR5 hym hxm hlt2).symm.trans hS1
   refine gd (fun wz=>True) mixed (fun _ _=>trivial) fun z=>wq 0 U (bJ U) (wq 1 U (bJ U) (wq 2 U (bJ U) (wq 3 U (bJ U) (wq 4 U (ov_sub U U (by omega) (by omega)) (dG 41 (v':= .int .i64 (((a+j):Nat):Int)) U (fI5 (by omega)) (wq 5 U (bJ U) (wq 6 U (bJ U) (wq 7 U (ov_sub U U (by omega) (by omega)) (dG 44 (v':= .int .i64 (((a+j):Nat):Int)) U (fI5 (by omega)) (wq 8 U (bT (j:=(a+j)) kE U U (by omega)) (wq 10 U (bJ U) (wq 11 U (bJ U) (wq 12 U (bT (j:=(a+(j+1))) kE U U (by omega)) ?_)))))))))))))
   refine kK [9,13] (by kernel_rfl) U ⟨⟨_,U,?_⟩,⟨_,U,?_⟩,trivial⟩
   ·refine bB (dO (vs:= [.int .i64 x0,.string x1,.string x2,.int .i64 x3,.string x4]) fR U (fun _ hm=>(gG.get hm.k fB hwl)) hx U U) U ?_
    refine bE (nw 18 8191 (fun _ _=>trivial) fun z=>eC 13 U (bB (dO (vs:= [.int .i64 y0,.string y1,.string y2,.int .i64 y3,.string y4]) fR U (fun _ hm=>(gG.get hm.k fB hwl)) hy U U) U (bE (nw 18 16383 (fun _ _=>trivial) fun z=>wq 14 U (bT (j:=(a+(j+1))) kE U U (by omega)) (eC 15 U (eX (l:=(pre++(m++post))) (j:=(a+(j+1))) (r:=0) (el:=⟨y0,y1,y2,y3,y4⟩) (el':=⟨x0,x1,x2,x3,x4⟩) U fR U U U U fB U hy hwl (by decide) U U (bE (nw 18 65535 (fun _ _=>trivial) fun z=>wq 16 U (bT (j:=(a+j)) kE U U (by omega)) (eC 17 U ?_)))))))))
    refine eX (l:=(pre++(m++post)).set (a+(j+1)) ⟨x0,x1,x2,x3,x4⟩) (j:=(a+j)) (r:=0) (el:=⟨x0,x1,x2,x3,x4⟩) (el':=⟨y0,y1,y2,y3,y4⟩) U fR U U U U fB U (by rw [List.getElem?_set_ne (by omega)];exact hx) (by rw [List.length_set];exact hwl) (by decide) U U ?_
    refine bE (nw 18 262143 (fun _ _=>trivial) fun z=>jH (bG (bD (bI (bP U (bB (ov_sub U U (by omega) (by omega)) U (bL 36 (v':= .int .i64 (((a+j):Nat):Int)) U (fI5 (by omega)) (bZ U (bE ?_)))))))))
    have hcm:((pre++(m++post)).set (a+(j+1)) ⟨x0,x1,x2,x3,x4⟩).set (a+j) ⟨y0,y1,y2,y3,y4⟩=((pre++(m++post)).set (a+j) ⟨y0,y1,y2,y3,y4⟩).set (a+(j+1)) ⟨x0,x1,x2,x3,x4⟩:=List.set_comm _ _ (by omega)
    rw [hcm]
    have hnew:((pre++(m++post)).set (a+j) ⟨y0,y1,y2,y3,y4⟩).set (a+(j+1)) ⟨x0,x1,x2,x3,x4⟩=pre++(((m.set (j+1) ⟨x0,x1,x2,x3,x4⟩).set j ⟨y0,y1,y2,y3,y4⟩)++post):=by rw [bI9 hpre (by omega),bI9 hpre (by rw [List.length_set];omega),List.set_comm _ _ (by omega)]
    rw [hnew]
    exact cQ (j,((m.set (j+1) ⟨x0,x1,x2,x3,x4⟩).set j ⟨y0,y1,y2,y3,y4⟩)) ⟨by dsimp only;omega,by simp [pQ],hS2⟩ (by dsimp only;omega) ⟨U,U,U,U,U,U,trivial⟩ (fun _ hm=>hm.pick [] [] [] U U)
   refine bB (dO (vs:= [.int .i64 y0,.string y1,.string y2,.int .i64 y3,.string y4]) fR U (fun _ hm=>(gG.get hm.k fB hwl)) hy U U) U (bE (nw 18 15871 (fun _ _=>trivial) fun z=>eC 9 U (bB (dO (vs:= [.int .i64 x0,.string x1,.string x2,.int .i64 x3,.string x4]) fR U (fun _ hm=>(gG.get hm.k fB hwl)) hx U U) U (bE (nw 18 16383 (fun _ _=>trivial) fun z=>wq 14 U (bT (j:=(a+(j+1))) kE U U (by omega)) (eC 15 U (eX (l:=(pre++(m++post))) (j:=(a+(j+1))) (r:=0) (el:=⟨y0,y1,y2,y3,y4⟩) (el':=⟨x0,x1,x2,x3,x4⟩) U fR U U U U fB U hy hwl (by decide) U U (bE (nw 18 65535 (fun _ _=>trivial) fun z=>wq 16 U (bT (j:=(a+j)) kE U U (by omega)) (eC 17 U ?_))))))))))
   refine eX (l:=(pre++(m++post)).set (a+(j+1)) ⟨x0,x1,x2,x3,x4⟩) (j:=(a+j)) (r:=0) (el:=⟨x0,x1,x2,x3,x4⟩) (el':=⟨y0,y1,y2,y3,y4⟩) U fR U U U U fB U (by rw [List.getElem?_set_ne (by omega)];exact hx) (by rw [List.length_set];exact hwl) (by decide) U U ?_
   refine bE (nw 18 262143 (fun _ _=>trivial) fun z=>jH (bG (bD (bI (bP U (bB (ov_sub U U (by omega) (by omega)) U (bL 36 (v':= .int .i64 (((a+j):Nat):Int)) U (fI5 (by omega)) (bZ U (bE ?_)))))))))
   have hcm:((pre++(m++post)).set (a+(j+1)) ⟨x0,x1,x2,x3,x4⟩).set (a+j) ⟨y0,y1,y2,y3,y4⟩=((pre++(m++post)).set (a+j) ⟨y0,y1,y2,y3,y4⟩).set (a+(j+1)) ⟨x0,x1,x2,x3,x4⟩:=List.set_comm _ _ (by omega)
   rw [hcm]
   have hnew:((pre++(m++post)).set (a+j) ⟨y0,y1,y2,y3,y4⟩).set (a+(j+1)) ⟨x0,x1,x2,x3,x4⟩=pre++(((m.set (j+1) ⟨x0,x1,x2,x3,x4⟩).set j ⟨y0,y1,y2,y3,y4⟩)++post):=by rw [bI9 hpre (by omega),bI9 hpre (by rw [List.length_set];omega),List.set_comm _ _ (by omega)]
   rw [hnew]
   exact cQ (j,((m.set (j+1) ⟨x0,x1,x2,x3,x4⟩).set j ⟨y0,y1,y2,y3,y4⟩)) ⟨by dsimp only;omega,by simp [pQ],hS2⟩ (by dsimp only;omega) ⟨U,U,U,U,U,U,trivial⟩ (fun _ hm=>hm.pick [] [] [] U U)
  refine dE (bF (bF (bY (bG (bD (bI ?_))))))
  have hlt2:dU ⟨y0,y1,y2,y3,y4⟩ ⟨x0,x1,x2,x3,x4⟩=false:=decide_eq_false (show ¬jQ ⟨y0,y1,y2,y3,y4⟩ ⟨x0,x1,x2,x3,x4⟩ < 0 from hlt)
  have hS2:=(bK9 hym hxm hlt2).symm.trans hS1
  refine bP U (gN U U (bZ U (bE ?_)))
  have hm2:m=S:=hS2
  exact cQ (i+1,m) ⟨⟨by dsimp only;omega,by dsimp only;omega⟩,by rw [hm2];exact hSl,by rw [hm2];exact hRi⟩ (by dsimp only;omega) ⟨U,U,U,U,(cS (by dsimp only;omega)),trivial⟩ (fun _ hm=>hm.pick [] [] [] U U)
 refine dE (bF (bF (bY ?_)))
 obtain rfl:l=R:=by rw [<-hR1,show q - i=0 by omega];rfl
 refine jD U fun wx hm=>?_
 exact ⟨U,mD hm.k hm.g⟩
theorem eF4 (l0:List Ev) (br n eV base:Nat) (w:World) (h:w.ownsRow base 74 5 (.slice (some ⟨br,0,none⟩) n eV) n (l0.flatMap dP)) (uM:l0.length=n) (hn:n<=1000000) (hn2:n=20):
 Calls prog 93 #[.slice (some ⟨br,0,none⟩) n eV,.int .i64 ((n:Nat):Int),.func (.func 131) #[] #[]] w (fun e w'=>e=.returned (.tuple #[])/\w'.ownsRow base 74 5 (.slice (some ⟨br,0,none⟩) n eV) n ((dR dU l0).flatMap dP)/\w.grownBy w' (some br)):=by
 refine cV ⟨63,w,(some br), []⟩ func93 U ntmps93 U (bV2 (X:= []) h cY cZ) (bS ?_)
 have ht20:(l0.take 20).length=20:=by rw [List.length_take];omega
 have hd20:(l0.drop 20).length=n - 20:=by rw [List.length_drop];omega
 have hi20:(dR dU (l0.take 20)).length=20:=by rw [qG];exact ht20
 have hid:(dR dU (l0.drop 20)).length=n - 20:=by rw [qG];exact hd20
 have hk0:∀wx,(gG base 74 5 n eV br ((l0).flatMap dP)) wx->(gG base 74 5 n eV br ((([]++(l0.take 20++l0.drop 20))).flatMap dP)) wx:=fun wx hk=>by rw [List.nil_append,List.take_append_drop];exact hk
 refine bZ U (bR (bS (bP U (bZ U (bZ U (bR (bH (bO (eZ 3 (eB (bH (bS (bP U (bP U (bB (mV U U) U (bR (gJ 13 (v':= .bool true) U (fH5 (decide_eq_true (by omega))) (kQ U (bN (bD (bO (bS (bP U (bP U (bP U (bP U ?_))))))))))))))))))))))))))
 refine mC (xs':=((dR dU (l0.take 20))++(l0.drop 20)).flatMap dP) U U U bL4 U U (fun wx hm=>(by have h:=yJ [] (l0.take 20) (l0.drop 20) br n eV base 0 20 wx (hk0 wx hm.k) rfl (by rw [ht20]) (by rw [hd20];omega) (by omega);rw [List.nil_append] at h;exact h)) ?_
 refine bR (bS (bP U (bZ U (bR (bI (bP U (bP U (gN U U (bL 22 (v':= .int .i64 40) U U (bZ U (bE (bG (hW (eB (bH (bS (bP U (bP U (bB (mV U U) U (bR (gJ 13 (v':= .bool false) U (fH5 (decide_eq_false (by omega))) (jU U (dE (bF (bF (bY ?_))))))))))))))))))))))))))
 refine bD (bS (bP U (bP U (bP U (bP U ?_)))))
 refine mC (xs':=((dR dU (l0.take 20))++dR dU (l0.drop 20)).flatMap dP) U U U bL4 U U (fun wx hm=>(by have h:=yJ (dR dU (l0.take 20)) (l0.drop 20) [] br n eV base 20 n wx ((by rw [List.append_nil];exact hm.k)) hi20 (by rw [hd20];omega) (by rw [List.length_nil];omega) (by omega);rw [List.append_nil] at h;exact h)) ?_
 refine bR (bO (eZ 3 (eB (bH (bS (bP U (bP U (bB (dD U U) U (bR (gJ 30 (v':= .bool false) U (fH5 (decide_eq_false (by omega))) (jU U (dE (bF (bF (bY ?_)))))))))))))))
 have hf:(dR dU (l0.take 20))++dR dU (l0.drop 20)=dR dU l0:=by rw [List.take_of_length_le (by omega),List.drop_of_length_le (by omega),show dR dU ([]:List Ev)= [] from rfl,List.append_nil]
 refine jD U fun wx hm=>?_
 rw [<-hf]
 exact ⟨U,mD hm.k hm.g⟩
theorem eH4 (l0:List Ev) (br n eV base:Nat) (w:World) (h:w.ownsRow base 74 5 (.slice (some ⟨br,0,none⟩) n eV) n (l0.flatMap dP)) (uM:l0.length=n) (hn:n<=1000000) (hn2:20 < n/\n < 40) (ht:cW6 l0):
 Calls prog 93 #[.slice (some ⟨br,0,none⟩) n eV,.int .i64 ((n:Nat):Int),.func (.func 131) #[] #[]] w (fun e w'=>e=.returned (.tuple #[])/\w'.ownsRow base 74 5 (.slice (some ⟨br,0,none⟩) n eV) n ((dR dU l0).flatMap dP)/\w.grownBy w' (some br)):=by
 refine cV ⟨63,w,(some br), []⟩ func93 U ntmps93 U (bV2 (X:= []) h cY cZ) (bS ?_)
 have ht20:(l0.take 20).length=20:=by rw [List.length_take];omega
 have hd20:(l0.drop 20).length=n - 20:=by rw [List.length_drop];omega
 have hi20:(dR dU (l0.take 20)).length=20:=by rw [qG];exact ht20
 have hid:(dR dU (l0.drop 20)).length=n - 20:=by rw [qG];exact hd20
 have hk0:∀wx,(gG base 74 5 n eV br ((l0).flatMap dP)) wx->(gG base 74 5 n eV br ((([]++(l0.take 20++l0.drop 20))).flatMap dP)) wx:=fun wx hk=>by rw [List.nil_append,List.take_append_drop];exact hk
 refine bZ U (bR (bS (bP U (bZ U (bZ U (bR (bH (bO (eZ 3 (eB (bH (bS (bP U (bP U (bB (mV U U) U (bR (gJ 13 (v':= .bool true) U (fH5 (decide_eq_true (by omega))) (kQ U (bN (bD (bO (bS (bP U (bP U (bP U (bP U ?_))))))))))))))))))))))))))
 refine mC (xs':=((dR dU (l0.take 20))++(l0.drop 20)).flatMap dP) U U U bL4 U U (fun wx hm=>(by have h:=yJ [] (l0.take 20) (l0.drop 20) br n eV base 0 20 wx (hk0 wx hm.k) rfl (by rw [ht20]) (by rw [hd20];omega) (by omega);rw [List.nil_append] at h;exact h)) ?_
 refine bR (bS (bP U (bZ U (bR (bI (bP U (bP U (gN U U (bL 22 (v':= .int .i64 40) U U (bZ U (bE (bG (hW (eB (bH (bS (bP U (bP U (bB (mV U U) U (bR (gJ 13 (v':= .bool false) U (fH5 (decide_eq_false (by omega))) (jU U (dE (bF (bF (bY ?_))))))))))))))))))))))))))
 refine bD (bS (bP U (bP U (bP U (bP U ?_)))))
 refine mC (xs':=((dR dU (l0.take 20))++dR dU (l0.drop 20)).flatMap dP) U U U bL4 U U (fun wx hm=>(by have h:=yJ (dR dU (l0.take 20)) (l0.drop 20) [] br n eV base 20 n wx ((by rw [List.append_nil];exact hm.k)) hi20 (by rw [hd20];omega) (by rw [List.length_nil];omega) (by omega);rw [List.append_nil] at h;exact h)) ?_
 refine bR (bO (eZ 3 (eB (bH (bS (bP U (bP U (bB (dD U U) U (bR (gJ 30 (v':= .bool true) U (fH5 (decide_eq_true (by omega))) (kQ U (bN (bD (bO (bS (bP U (bB (ov_mul U U (by omega) (by omega)) U (bL 32 (v':= .int .i64 40) U U (bZ U (bZ U (bR (bH (bO (eZ 3 (eB ?_)))))))))))))))))))))))))
 refine bH (bS (bP U (bP U (bB (mV U U) U (bR (gJ 35 (v':= .bool false) U (fH5 (decide_eq_false (by omega))) (jU U (dE (bF (bF (bY (bD (bH (bS (bP U (bP U (gN U U (bL 51 (v':= .int .i64 20) U U (bZ U (bR (bS (bP U (bP U (bB (dD U U) U (bR (gJ 54 (v':= .bool true) U (fH5 (decide_eq_true (by omega))) ?_))))))))))))))))))))))))))
 refine kQ U (bI (bP U (bP U (bP U (bP U (bP U ?_))))))
 have hL2:((dR dU (l0.take 20))++dR dU (l0.drop 20)).length=n:=by rw [List.length_append,hi20,hid];omega
 have hA:eO ((dR dU (l0.take 20))++dR dU (l0.drop 20)) 0 20=(dR dU (l0.take 20)):=by unfold eO;rw [List.drop_zero,List.take_append_of_le_length (by omega),List.take_of_length_le (by omega)]
 have hB:eO ((dR dU (l0.take 20))++dR dU (l0.drop 20)) 20 n=dR dU (l0.drop 20):=by unfold eO;rw [List.take_of_length_le (by omega),List.drop_append_of_le_length (by omega),List.drop_of_length_le (by omega),List.nil_append]
 refine fO (γ:=List Ev) (val:=fun _=> .tuple #[]) (φ:=fun R=>xE dU ((dR dU (l0.take 20))++dR dU (l0.drop 20)) R 0 n) (K':=fun R=>gG base 74 5 n eV br ((R).flatMap dP)) (L':=fun _=> []) (O':=fun _=> []) (X':=fun _=> []) U dK2 U U (fun wx hm=>(eE1 br n eV base _ 0 20 n U ((dR dU (l0.take 20))++dR dU (l0.drop 20)) wx hm.k hL2 hn (by omega) (by omega) (by omega) (by rw [hA];exact vW _) (by rw [show eO ((dR dU (l0.take 20))++dR dU (l0.drop 20)) 20 n=dR dU (l0.drop 20) from hB];exact vW _)).mono fun _ _ ⟨R_,h1,he,ho,hg⟩=>⟨R_,he,h1,hm.turned U U ho hg⟩) ?_
 intro R hR
 refine bR (bI (bP U (bB (ov_mul U U (by omega) (by omega)) U (bL 62 (v':= .int .i64 40) U U (bZ U (bE (bG (hW (eB (bH (bS (bP U (bP U (bB (dD U U) U (bR (gJ 30 (v':= .bool false) U (fH5 (decide_eq_false (by omega))) (jU U (dE (bF (bF (bY ?_)))))))))))))))))))))
 have hR0:R.length=n:=by rw [hR.len];exact hL2
 have hRp:eO R 0 n=R:=by unfold eO;rw [List.drop_zero,List.take_of_length_le (by omega)]
 have hLp:eO ((dR dU (l0.take 20))++dR dU (l0.drop 20)) 0 n=(dR dU (l0.take 20))++dR dU (l0.drop 20):=by unfold eO;rw [List.drop_zero,List.take_of_length_le (by omega)]
 have hs:=hR.srt
 have hpm:=hR.perm
 rw [hRp] at hs hpm
 rw [hLp] at hpm
 have hp0:((dR dU (l0.take 20))++dR dU (l0.drop 20)).Perm l0:=by
  have h5:=(mM dU (l0.take 20)).append (mM dU (l0.drop 20))
  rw [List.take_append_drop] at h5
  exact h5
 have hp1:R.Perm l0:=hpm.trans hp0
 have hf:R=dR dU l0:=dP1 hs (vW l0) (hp1.trans (mM dU l0).symm) fun x hx y hy=>ht x (hp1.mem_iff.1 hx) y (hp1.mem_iff.1 hy)
 refine jD U fun wx hm=>?_
 rw [<-hf]
 exact ⟨U,mD hm.k hm.g⟩
theorem eI4 (l0:List Ev) (br n eV base:Nat) (w:World) (h:w.ownsRow base 74 5 (.slice (some ⟨br,0,none⟩) n eV) n (l0.flatMap dP)) (uM:l0.length=n) (hn:n<=1000000) (hn2:n=40) (ht:cW6 l0):
 Calls prog 93 #[.slice (some ⟨br,0,none⟩) n eV,.int .i64 ((n:Nat):Int),.func (.func 131) #[] #[]] w (fun e w'=>e=.returned (.tuple #[])/\w'.ownsRow base 74 5 (.slice (some ⟨br,0,none⟩) n eV) n ((dR dU l0).flatMap dP)/\w.grownBy w' (some br)):=by
 refine cV ⟨63,w,(some br), []⟩ func93 U ntmps93 U (bV2 (X:= []) h cY cZ) (bS ?_)
 have ht20:(l0.take 20).length=20:=by rw [List.length_take];omega
 have hd20:(l0.drop 20).length=n - 20:=by rw [List.length_drop];omega
 have hi20:(dR dU (l0.take 20)).length=20:=by rw [qG];exact ht20
 have hid:(dR dU (l0.drop 20)).length=n - 20:=by rw [qG];exact hd20
 have hk0:∀wx,(gG base 74 5 n eV br ((l0).flatMap dP)) wx->(gG base 74 5 n eV br ((([]++(l0.take 20++l0.drop 20))).flatMap dP)) wx:=fun wx hk=>by rw [List.nil_append,List.take_append_drop];exact hk
 refine bZ U (bR (bS (bP U (bZ U (bZ U (bR (bH (bO (eZ 3 (eB (bH (bS (bP U (bP U (bB (mV U U) U (bR (gJ 13 (v':= .bool true) U (fH5 (decide_eq_true (by omega))) (kQ U (bN (bD (bO (bS (bP U (bP U (bP U (bP U ?_))))))))))))))))))))))))))
 refine mC (xs':=((dR dU (l0.take 20))++(l0.drop 20)).flatMap dP) U U U bL4 U U (fun wx hm=>(by have h:=yJ [] (l0.take 20) (l0.drop 20) br n eV base 0 20 wx (hk0 wx hm.k) rfl (by rw [ht20]) (by rw [hd20];omega) (by omega);rw [List.nil_append] at h;exact h)) ?_
 refine bR (bS (bP U (bZ U (bR (bI (bP U (bP U (gN U U (bL 22 (v':= .int .i64 40) U U (bZ U (bE (bG (hW (eB (bH (bS (bP U (bP U (bB (mV U U) U (bR (gJ 13 (v':= .bool true) U (fH5 (decide_eq_true (by omega))) ?_)))))))))))))))))))))
 refine kQ U (bN (bD (bO (bS (bP U (bP U (bP U (bP U ?_))))))))
 refine mC (xs':=((dR dU (l0.take 20))++dR dU (l0.drop 20)).flatMap dP) U U U bL4 U U (fun wx hm=>(by have h:=yJ (dR dU (l0.take 20)) (l0.drop 20) [] br n eV base 20 40 wx ((by rw [List.append_nil];exact hm.k)) hi20 (by rw [hd20];omega) (by rw [List.length_nil];omega) (by omega);rw [List.append_nil] at h;exact h)) ?_
 refine bR (bS (bP U (bZ U (bR (bI (bP U (bP U (gN U U (bL 22 (v':= .int .i64 60) U U (bZ U (bE (bG (hW (eB (bH (bS (bP U (bP U (bB (mV U U) U (bR (gJ 13 (v':= .bool false) U (fH5 (decide_eq_false (by omega))) (jU U (dE (bF (bF (bY ?_))))))))))))))))))))))))))
 refine bD (bS (bP U (bP U (bP U (bP U ?_)))))
 refine mC (xs':=((dR dU (l0.take 20))++dR dU (l0.drop 20)).flatMap dP) U U U bL4 U U (fun wx hm=>(by have h:=yJ ((dR dU (l0.take 20))++dR dU (l0.drop 20)) [] [] br n eV base 40 n wx ((by rw [List.append_nil,List.append_nil];exact hm.k)) (by rw [List.length_append,hi20,hid];omega) (by rw [List.length_nil];omega) (by rw [List.length_nil];omega) (by omega);rw [show ((dR dU (l0.take 20))++dR dU (l0.drop 20))++(dR dU []++ [])=(dR dU (l0.take 20))++dR dU (l0.drop 20) from by rw [show dR dU ([]:List Ev)= [] from rfl,List.append_nil,List.append_nil]] at h;exact h)) ?_
 refine bR (bO (eZ 3 (eB (bH (bS (bP U (bP U (bB (dD U U) U (bR (gJ 30 (v':= .bool true) U (fH5 (decide_eq_true (by omega))) (kQ U (bN (bD (bO (bS (bP U (bB (ov_mul U U (by omega) (by omega)) U (bL 32 (v':= .int .i64 40) U U (bZ U (bZ U (bR (bH (bO (eZ 3 (eB ?_)))))))))))))))))))))))))
 refine bH (bS (bP U (bP U (bB (mV U U) U (bR (gJ 35 (v':= .bool true) U (fH5 (decide_eq_true (by omega))) (kQ U (bN (bD (bO (bS (bP U (bP U (bP U (bP U (gN U U (bL 40 (v':= .int .i64 20) U U (bP U (bP U ?_)))))))))))))))))))
 have hL2:((dR dU (l0.take 20))++dR dU (l0.drop 20)).length=n:=by rw [List.length_append,hi20,hid];omega
 have hA:eO ((dR dU (l0.take 20))++dR dU (l0.drop 20)) 0 20=(dR dU (l0.take 20)):=by unfold eO;rw [List.drop_zero,List.take_append_of_le_length (by omega),List.take_of_length_le (by omega)]
 have hB:eO ((dR dU (l0.take 20))++dR dU (l0.drop 20)) 20 n=dR dU (l0.drop 20):=by unfold eO;rw [List.take_of_length_le (by omega),List.drop_append_of_le_length (by omega),List.drop_of_length_le (by omega),List.nil_append]
 refine fO (γ:=List Ev) (val:=fun _=> .tuple #[]) (φ:=fun R=>xE dU ((dR dU (l0.take 20))++dR dU (l0.drop 20)) R 0 40) (K':=fun R=>gG base 74 5 n eV br ((R).flatMap dP)) (L':=fun _=> []) (O':=fun _=> []) (X':=fun _=> []) U dK2 U U (fun wx hm=>(eE1 br n eV base _ 0 20 40 U ((dR dU (l0.take 20))++dR dU (l0.drop 20)) wx hm.k hL2 hn (by omega) (by omega) (by omega) (by rw [hA];exact vW _) (by rw [show eO ((dR dU (l0.take 20))++dR dU (l0.drop 20)) 20 40=dR dU (l0.drop 20) from (by have h9:=hB;rw [hn2] at h9;exact h9)];exact vW _)).mono fun _ _ ⟨R_,h1,he,ho,hg⟩=>⟨R_,he,h1,hm.turned U U ho hg⟩) ?_
 intro R hR
 refine bR (bS (bP U (bZ U (bR (bI (bP U (bP U (bB (ov_mul U U (by omega) (by omega)) U (bL 47 (v':= .int .i64 40) U U (gN U U (bL 48 (v':= .int .i64 80) U U (bZ U (bE (bG (hW (eB (bH (bS (bP U (bP U (bB (mV U U) U (bR (gJ 35 (v':= .bool false) U (fH5 (decide_eq_false (by omega))) (jU U (dE (bF (bF (bY ?_))))))))))))))))))))))))))))
 refine bD (bH (bS (bP U (bP U (gN U U (bL 51 (v':= .int .i64 60) U U (bZ U (bR (bS (bP U (bP U (bB (dD U U) U (bR (gJ 54 (v':= .bool false) U (fH5 (decide_eq_false (by omega))) (jU U (bN (bD (bI (bP U (bB (ov_mul U U (by omega) (by omega)) U (bL 62 (v':= .int .i64 40) U U (bZ U (bE (bG (hW (eB ?_))))))))))))))))))))))))))
 refine bH (bS (bP U (bP U (bB (dD U U) U (bR (gJ 30 (v':= .bool false) U (fH5 (decide_eq_false (by omega))) (jU U (dE (bF (bF (bY ?_)))))))))))
 have hR0:R.length=n:=by rw [hR.len];exact hL2
 have hRp:eO R 0 40=R:=by unfold eO;rw [List.drop_zero,List.take_of_length_le (by omega)]
 have hLp:eO ((dR dU (l0.take 20))++dR dU (l0.drop 20)) 0 40=(dR dU (l0.take 20))++dR dU (l0.drop 20):=by unfold eO;rw [List.drop_zero,List.take_of_length_le (by omega)]
 have hs:=hR.srt
 have hpm:=hR.perm
 rw [hRp] at hs hpm
 rw [hLp] at hpm
 have hp0:((dR dU (l0.take 20))++dR dU (l0.drop 20)).Perm l0:=by
  have h5:=(mM dU (l0.take 20)).append (mM dU (l0.drop 20))
  rw [List.take_append_drop] at h5
  exact h5
 have hp1:R.Perm l0:=hpm.trans hp0
 have hf:R=dR dU l0:=dP1 hs (vW l0) (hp1.trans (mM dU l0).symm) fun x hx y hy=>ht x (hp1.mem_iff.1 hx) y (hp1.mem_iff.1 hy)
 refine jD U fun wx hm=>?_
 rw [<-hf]
 exact ⟨U,mD hm.k hm.g⟩
theorem cA9 (l0:List Ev) (br n eV base:Nat) (w:World) (h:w.ownsRow base 74 5 (.slice (some ⟨br,0,none⟩) n eV) n (l0.flatMap dP)) (uM:l0.length=n) (hn:n<=40) (ht:20<=n->cW6 l0):
 Calls prog 41 #[.slice (some ⟨br,0,none⟩) n eV,.func (.func 131) #[] #[]] w (fun e w'=>e=.returned (.tuple #[])/\w'.ownsRow base 74 5 (.slice (some ⟨br,0,none⟩) n eV) n ((dR dU l0).flatMap dP)/\w.grownBy w' (some br)):=by
 refine cV ⟨9,w,(some br), []⟩ func41 U ntmps41 U (bV2 (X:= []) h cY cZ) (bI (bP U (bP U (bB (dT kE U) U (bP U ?_)))))
 refine mC U U U fN1 U U (fun wx hm=>(by
  rcases (show n<=19∨n=20∨(20 < n/\n < 40)∨n=40 by omega) with h9|h9|h9|h9
  ·exact eC8 l0 br n eV base wx hm.k uM h9
  ·exact eF4 l0 br n eV base wx hm.k uM (by omega) h9
  ·exact eH4 l0 br n eV base wx hm.k uM (by omega) h9 (ht (by omega))
  exact eI4 l0 br n eV base wx hm.k uM (by omega) h9 (ht (by omega)))) ?_
 refine bE ?_
 refine jD U fun wx hm=>?_
 exact ⟨U,mD hm.k hm.g⟩
structure Ny where
 at_:Int
 dk:ByteArray
 no:Int
 ws:ByteArray
def eS (x:Ny):List Value:= [.int .i64 x.at_,.string x.dk,.int .i64 x.no,.string x.ws]
theorem wE (x:Ny):(eS x).length=4:=rfl
def cP9 (x:Ny):Prop:=(-4000000000000000000<=x.at_/\x.at_<=4000000000000000000)/\x.ws.size<=1000
noncomputable def pY (l:List Vh):ByteArray->Option ByteArray:=l.foldl (fun f v=>fP f v.key v.cls) mZ
noncomputable def qL (l:List St):ByteArray->Option Bool:=l.foldl (fun f v=>fP f v.key true) mZ
theorem eN4 {l:List Vh} {i:Nat} {x:Vh} (h:l[i]?=some x):fP (pY (l.take i)) x.key x.cls=pY (l.take (i+1)):=by
 unfold pY
 rw [List.take_add_one,h,Option.toList_some,List.foldl_append];rfl
theorem eB4 {l:List St} {i:Nat} {x:St} (h:l[i]?=some x):fP (qL (l.take i)) x.key true=qL (l.take (i+1)):=by
 unfold qL
 rw [List.take_add_one,h,Option.toList_some,List.foldl_append];rfl
inductive pR (V:ByteArray->Option ByteArray) (T:ByteArray->Option Bool) (ck:Bk->Prop):List Int->Os->Prop
 |nil:pR V T ck [] os0
 |snoc (l:List Int) (a:Int) (σ τ:Os):pR V T ck l σ->kU V T ck a σ τ->pR V T ck (l++ [a]) τ
theorem pR.next {V:ByteArray->Option ByteArray} {T:ByteArray->Option Bool} {ck:Bk->Prop} {l:List Ny} {i:Nat} {x:Ny} {σ τ:Os} (h:pR V T ck ((l.take i).map Ny.at_) σ) (hx:l[i]?=some x) (hs:kU V T ck x.at_ σ τ):pR V T ck ((l.take (i+1)).map Ny.at_) τ:=by
 rw [List.take_add_one,hx,Option.toList_some,List.map_append]
 exact .snoc _ _ _ _ h hs
structure uG (σ:Os):Prop where
 on:∀x∈σ.lg,(σ.fa (x.veh,x.at_)).getD false=true
 one:∀x∈σ.lg,∀y∈σ.lg,x.at_=y.at_->x.veh=y.veh->x=y
theorem uG.say {σ:Os} {x:Ev} (h:uG σ) (hc:(σ.fa (x.veh,x.at_)).getD false=false):uG (gL σ x):=by
 refine ⟨fun y hy=>?_,fun y hy z hz e1 e2=>?_⟩
 ·show ((fP σ.fa (x.veh,x.at_) true) (y.veh,y.at_)).getD false=true
  by_cases e:(y.veh,y.at_)=(x.veh,x.at_)
  ·rw [e,hU];rfl
  ·rw [dB _ _ e]
   rcases List.mem_append.1 hy with hy|hy
   ·exact h.on y hy
   ·rw [List.mem_singleton.1 hy] at e;exact absurd rfl e
 ·rcases List.mem_append.1 hy with hy|hy <;> rcases List.mem_append.1 hz with hz|hz
  ·exact h.one y hy z hz e1 e2
  ·rw [List.mem_singleton.1 hz] at e1 e2
   have:=h.on y hy
   rw [e1,e2,hc] at this;cases this
  ·rw [List.mem_singleton.1 hy] at e1 e2
   have:=h.on z hz
   rw [<-e1,<-e2,hc] at this;cases this
  ·rw [List.mem_singleton.1 hy,List.mem_singleton.1 hz]
theorem uG.same {σ τ:Os} (h:uG σ) (h1:τ.lg=σ.lg) (h2:τ.fa=σ.fa):uG τ:=⟨by rw [h1,h2];exact h.on,by rw [h1];exact h.one⟩
theorem kU.keys {V:ByteArray->Option ByteArray} {T:ByteArray->Option Bool} {ck:Bk->Prop} {a:Int} {σ τ:Os} (h:kU V T ck a σ τ) (hk:uG σ):uG τ:=by
 cases h with
 |same=>exact hk
 |ev x _ _ _ _ _ _ _ hc=>exact hk.say hc.1
 |book b=>exact hk.same rfl rfl
 |cancel k=>exact hk.same rfl rfl
 |start h v r _ _ _ _ _ _ _ hc=>exact (hk.say hc.1).same rfl rfl
 |extend k h h'=>exact hk.same rfl rfl
 |close k h h' g r _ _ _ _ _ _ _ _ _ hc=>exact (hk.say hc.1).same rfl rfl
 |swap k h h' g r q v _ _ _ _ _ _ _ _ _ _ _ _ hc1 hc2=>
  have hne:v≠g.veh:=fun e=>by
   have h1:=hc1.2
   have h2:=hc2.2
   unfold gB eQ at h1
   unfold gB gO at h2
   rw [e] at h2
   simp at h1 h2
   omega
  refine ((hk.say hc1.1).say ?_).same U U
  show ((fP σ.fa (g.veh,a) true) (v,a)).getD false=false
  rw [dB _ _ (fun e=>hne (congrArg Prod.fst e))]
  exact hc2.1
theorem pR.facts {V:ByteArray->Option ByteArray} {T:ByteArray->Option Bool} {ck:Bk->Prop} {l:List Int} {σ:Os} (h:pR V T ck l σ):cM4 σ/\uG σ/\σ.lg.length<=2 *l.length:=by
 induction h with
 |nil=>exact ⟨eN7,⟨(fun _ h=>by cases h),(fun _ h=>by cases h)⟩,Nat.le_refl _⟩
 |snoc l a σ τ _ h2 ih=>
  refine ⟨h2.ok ih.1,h2.keys ih.2.1,?_⟩
  have:=h2.len
  rw [List.length_append,List.length_singleton]
  omega
theorem pR.keysB {V:ByteArray->Option ByteArray} {T:ByteArray->Option Bool} {ck:Bk->Prop} {l:List Int} {σ:Os} (h:pR V T ck l σ):∃KL:List ByteArray,(∀k v,σ.fb k=some v->k∈KL)/\KL.length<=l.length:=by
 induction h with
 |nil=>exact ⟨[],(fun _ _ h=>by cases h),Nat.le_refl _⟩
 |snoc l a σ τ _ h2 ih=>
  obtain ⟨KL,h3,h4⟩:=ih
  have keep:(∀k v,τ.fb k=some v->σ.fb k=some v)->∃KL:List ByteArray,(∀k v,τ.fb k=some v->k∈KL)/\KL.length<=(l++ [a]).length:=fun h=>⟨KL,fun k v hv=>h3 k v (h k v hv),by rw [List.length_append];omega⟩
  cases h2 with
  |same=>exact keep fun _ _ h=>h
  |ev=>exact keep fun _ _ h=>h
  |book b=>exact ⟨b.key::KL,fun k v hv=>by
   rcases eK hv with ⟨e,_⟩|hv
   ·rw [e];exact List.mem_cons_self ..
   ·exact List.mem_cons_of_mem _ (h3 k v hv),by rw [List.length_append,List.length_cons,List.length_singleton];omega⟩
  |cancel k0=>exact keep fun _ _ h=>(cP0 h).2
  |start=>exact keep fun _ _ h=>(cP0 h).2
  |extend=>exact keep fun _ _ h=>h
  |close=>exact keep fun _ _ h=>h
  |swap=>exact keep fun _ _ h=>h
theorem pR.keysH {V:ByteArray->Option ByteArray} {T:ByteArray->Option Bool} {ck:Bk->Prop} {l:List Int} {σ:Os} (h:pR V T ck l σ):∃KL:List ByteArray,(∀k v,σ.fh k=some v->k∈KL)/\KL.length<=l.length:=by
 induction h with
 |nil=>exact ⟨[],(fun _ _ h=>by cases h),Nat.le_refl _⟩
 |snoc l a σ τ _ h2 ih=>
  obtain ⟨KL,h3,h4⟩:=ih
  have keep:(∀k v,τ.fh k=some v->(σ.fh k).isSome=true)->∃KL:List ByteArray,(∀k v,τ.fh k=some v->k∈KL)/\KL.length<=(l++ [a]).length:=fun h=>⟨KL,fun k v hv=>by
   obtain ⟨v2,hv2⟩:=Option.isSome_iff_exists.1 (h k v hv)
   exact h3 k v2 hv2,by rw [List.length_append];omega⟩
  have old:∀{k0:ByteArray} {h0 h':Hg},σ.fh k0=some h0->∀k v,fP σ.fh k0 h' k=some v->(σ.fh k).isSome=true:=fun he k v hv=>by
   rcases eK hv with ⟨e,_⟩|hv
   ·rw [e,he];rfl
   ·rw [hv];rfl
  cases h2 with
  |same=>exact keep fun _ _ h=>by rw [h];rfl
  |ev=>exact keep fun k v h=>by rw [show σ.fh k=some v from h];rfl
  |book b=>exact keep fun k v h=>by rw [show σ.fh k=some v from h];rfl
  |cancel k0=>exact keep fun k v h=>by rw [show σ.fh k=some v from h];rfl
  |start h v r=>exact ⟨h.key::KL,fun k v hv=>by
   rcases eK hv with ⟨e,_⟩|hv
   ·rw [e];exact List.mem_cons_self ..
   ·exact List.mem_cons_of_mem _ (h3 k v hv),by rw [List.length_append,List.length_cons,List.length_singleton];omega⟩
  |extend k h h' he=>exact keep (old he)
  |close k h h' g r he=>exact keep (old he)
  |swap k h h' g r q v he=>exact keep (old he)
noncomputable def bZ3 (V:ByteArray->Option ByteArray) (T:ByteArray->Option Bool) (cl:List Cs) (l:List Ny):As:=l.foldl (fun s x=>mF V T cl x.at_ x.ws s) as0
theorem dW3 {V:ByteArray->Option ByteArray} {T:ByteArray->Option Bool} {cl:List Cs} {l:List Ny} {i:Nat} {x:Ny} (h:l[i]?=some x):bZ3 V T cl (l.take (i+1))=mF V T cl x.at_ x.ws (bZ3 V T cl (l.take i)):=by
 unfold bZ3
 rw [List.take_add_one,h,Option.toList_some,List.foldl_append];rfl
theorem pR.fewB {V:ByteArray->Option ByteArray} {T:ByteArray->Option Bool} {ck:Bk->Prop} {l:List Int} {σ:Os} (h:pR V T ck l σ) (hl:l.length<=499):Few σ.fb 499:=by
 obtain ⟨KL,h1,h2⟩:=h.keysB
 exact ⟨KL,h1,by omega⟩
theorem pR.fewH {V:ByteArray->Option ByteArray} {T:ByteArray->Option Bool} {ck:Bk->Prop} {l:List Int} {σ:Os} (h:pR V T ck l σ) (hl:l.length<=499):Few σ.fh 499:=by
 obtain ⟨KL,h1,h2⟩:=h.keysH
 exact ⟨KL,h1,by omega⟩
theorem uG.tie {σ:Os} (h:uG σ):cW6 σ.lg:=fun x hx y hy e=>by
 obtain ⟨h1,h2⟩:=xX.1 e
 exact h.one x hx y hy h1 h2
theorem nd7 {a b c d e f g:Nat} (h1:a≠b) (h2:a≠c) (h3:a≠d) (h4:a≠e) (h5:a≠f) (h6:a≠g) (h7:b≠c) (h8:b≠d) (h9:b≠e) (k1:b≠f) (k2:b≠g) (k3:c≠d) (k4:c≠e) (k5:c≠f) (k6:c≠g) (k7:d≠e) (k8:d≠f) (k9:d≠g) (m1:e≠f) (m2:e≠g) (m3:f≠g): [a,b,c,d,e,f,g].Nodup:=by
 simp [List.nodup_cons,h1,h2,h3,h4,h5,h6,h7,h8,h9,k1,k2,k3,k4,k5,k6,k7,k8,k9,m1,m2,m3]
theorem dU5 {w:World} {base e sz n:Nat} {v:Value} {xs:List Value} (h:w.ownsRow base e sz v n xs):(v= .slice none 0 0/\n=0)∨∃br cc,v= .slice (some ⟨br,0,none⟩) n cc:=by
 obtain ⟨_,h2⟩:=h
 rcases h2 with ⟨h2,h3⟩|⟨g',cap',rC,hv,_⟩
 ·exact .inl ⟨h2,h3⟩
 ·exact .inr ⟨g',cap',hv⟩
theorem cC6 (w0:World) (sA cA vA eA:Option Addr) (sn sc cn cc vn vc en ec:Nat) (u3 u4 u5 u6 u7 u8 u9 jK jL jM jN jO jP:Value) (sl:List St) (cl:List Cs) (vl:List Vh) (el:List Ny) (hs:SlT stEnc 15 99 w0 sA sn sl) (hc:SlT dV 2 84 w0 cA cn cl) (hv:SlT fX 2 57 w0 vA vn vl) (he:SlT eS 4 171 w0 eA en el) (ht:qN w0) (uB:∀x∈sl,StOk x) (hco:∀x∈cl,uF x) (hcn:cn<=1000) (vN:∀x∈el,cP9 x) (hen:en<=20) (zJ:sn<=1000000) (hvn:vn<=1000000):
 Calls prog 78 #[.agg #[.slice sA sn sc,.slice cA cn cc,.slice vA vn vc,u3,u4,u5,u6,u7,u8,u9,jK,jL,jM,jN,jO,jP],.slice eA en ec] w0 (fun e w'=>∃go gv gs fT fQ fS fU gC lv rv rn rx σ fp,e=.returned (.pointer (some ⟨go,0,none⟩))/\(pR (pY vl) (qL sl) (fun b=>jR cl [b]=0) (el.map Ny.at_) σ/\fY σ=bZ3 (pY vl) (qL sl) cl el)/\gM ⟨0,w0,none, [68,9,3]⟩ (fun _=>True) [(go,119, [.slice sA sn sc,.slice cA cn cc,.slice vA vn vc,u3,u4,u5,u6,u7,u8,u9,jK,jL,jM,jN,jO,jP,.map (some gv),.map (some gs),.map (some fT),lv,.map (some fQ),.map (some fS),.map (some fU),.map (some gC),rv])] [⟨lv,74,5,σ.lg.length,(dR dU σ.lg).flatMap dP⟩,⟨rv,226,2,rn,rx⟩] [bV vS dN w0.heap.size gv ((pY vl)),bV vB dN w0.heap.size gs ((qL sl)),bV qU dN w0.heap.size fT (σ.fs),bV vB nD w0.heap.size fQ (σ.fa),bV qA dN w0.heap.size fS (σ.fb),bV nH dN w0.heap.size fU (σ.fh),bV vI dN w0.heap.size gC (fp),gD 68 σ.fh,bU dV 2 84 w0.heap.size none cA cn cl,TxtO w0.heap.size none] w'):=by
 refine cV ⟨86,w0,none, [68,9,3]⟩ func78 U ntmps78 U (gR (X:= [bU stEnc 15 99 w0.heap.size none sA sn sl,bU fX 2 57 w0.heap.size none vA vn vl,bU dV 2 84 w0.heap.size none cA cn cl,bU eS 4 171 w0.heap.size none eA en el,TxtO w0.heap.size none]) (cG hs.old (cG hv.old (cG hc.old (cG he.old (cG ht.old cY))))) (cH bU.lasts (cH bU.lasts (cH bU.lasts (cH bU.lasts (cH TxtO.lasts cZ)))))) (bS (fG U U U fun gH=>bZ U (bR (bS (bB (cX cS2 U (fun _ hm=>hm.blkI 0 U) U U) U (kX (enc:=vS) (ek:=dN) (fun g=>True) (fun _ hm=>trivial) U fun gv hne_gv=>kX (enc:=vB) (ek:=dN) (fun g=>gv≠g/\True) (fun _ hm=>⟨Nat.ne_of_lt (bV.lt (hm.fact 0 U)),trivial⟩) U fun gs hne_gs=>kX (enc:=qU) (ek:=dN) (fun g=>gs≠g/\gv≠g/\True) (fun _ hm=>⟨Nat.ne_of_lt (bV.lt (hm.fact 0 U)),Nat.ne_of_lt (bV.lt (hm.fact 1 U)),trivial⟩) U fun fT hne_gst=>kX (enc:=vB) (ek:=nD) (fun g=>fT≠g/\gs≠g/\gv≠g/\True) (fun _ hm=>⟨Nat.ne_of_lt (bV.lt (hm.fact 0 U)),Nat.ne_of_lt (bV.lt (hm.fact 1 U)),Nat.ne_of_lt (bV.lt (hm.fact 2 U)),trivial⟩) U fun fQ hne_gat=>kX (enc:=qA) (ek:=dN) (fun g=>fQ≠g/\fT≠g/\gs≠g/\gv≠g/\True) (fun _ hm=>⟨Nat.ne_of_lt (bV.lt (hm.fact 0 U)),Nat.ne_of_lt (bV.lt (hm.fact 1 U)),Nat.ne_of_lt (bV.lt (hm.fact 2 U)),Nat.ne_of_lt (bV.lt (hm.fact 3 U)),trivial⟩) U fun fS hne_gbk=>kX (enc:=nH) (ek:=dN) (fun g=>fS≠g/\fQ≠g/\fT≠g/\gs≠g/\gv≠g/\True) (fun _ hm=>⟨Nat.ne_of_lt (bV.lt (hm.fact 0 U)),Nat.ne_of_lt (bV.lt (hm.fact 1 U)),Nat.ne_of_lt (bV.lt (hm.fact 2 U)),Nat.ne_of_lt (bV.lt (hm.fact 3 U)),Nat.ne_of_lt (bV.lt (hm.fact 4 U)),trivial⟩) U fun fU hne_ghi=>kX (enc:=vI) (ek:=dN) (fun g=>fU≠g/\fS≠g/\fQ≠g/\fT≠g/\gs≠g/\gv≠g/\True) (fun _ hm=>⟨Nat.ne_of_lt (bV.lt (hm.fact 0 U)),Nat.ne_of_lt (bV.lt (hm.fact 1 U)),Nat.ne_of_lt (bV.lt (hm.fact 2 U)),Nat.ne_of_lt (bV.lt (hm.fact 3 U)),Nat.ne_of_lt (bV.lt (hm.fact 4 U)),Nat.ne_of_lt (bV.lt (hm.fact 5 U)),trivial⟩) U fun gC hne_gpd=>bB (dJ (cs:= [.slice sA sn sc,.slice cA cn cc,.slice vA vn vc,u3,u4,u5,u6,u7,u8,u9,jK,jL,jM,jN,jO,jP,.map (some gv),.map (some gs),.map (some fT),.slice none 0 0,.map (some fQ),.map (some fS),.map (some fU),.map (some gC),.slice none 0 0]) U (by kernel_rfl)) U (fG U U U fun go=>bZ U (bR (bH (bS (dW bP6 U U (dW uK U U (eI bX2 1 U U U (bB (dT bQ3 U) U (bP U (bR (bO ?_)))))))))))))))))
 have hvl:=hv.len
 have hsl:=hs.len
 have hel:=he.len
 refine dX (γ:=Nat) (fun (i:Nat)=>i<=vn) (fun (i:Nat)=> [(1,.slice eA en ec),(2,.pointer (some ⟨gH,0,none⟩)),(4,.pointer none),(5,.pointer (some ⟨go,0,none⟩)),(25,.slice vA vn vc),(26,.int .i64 ((vn:Nat):Int)),(27,.int .i64 ((i:Nat):Int))]) (fun (i:Nat)=>fun _=>True) (fun (i:Nat)=> [(go,119, [.slice sA sn sc,.slice cA cn cc,.slice vA vn vc,u3,u4,u5,u6,u7,u8,u9,jK,jL,jM,jN,jO,jP,.map (some gv),.map (some gs),.map (some fT),.slice none 0 0,.map (some fQ),.map (some fS),.map (some fU),.map (some gC),.slice none 0 0]),(gH,42, [.slice sA sn sc,.slice cA cn cc,.slice vA vn vc,u3,u4,u5,u6,u7,u8,u9,jK,jL,jM,jN,jO,jP])]) (fun (i:Nat)=> []) (fun (i:Nat)=> [bV vI dN w0.heap.size gC (mZ),bV nH dN w0.heap.size fU (mZ),bV qA dN w0.heap.size fS (mZ),bV vB nD w0.heap.size fQ (mZ),bV qU dN w0.heap.size fT (mZ),bV vB dN w0.heap.size gs (mZ),bV vS dN w0.heap.size gv (pY (vl.take i)),bU stEnc 15 99 w0.heap.size none sA sn sl,bU fX 2 57 w0.heap.size none vA vn vl,bU dV 2 84 w0.heap.size none cA cn cl,bU eS 4 171 w0.heap.size none eA en el,TxtO w0.heap.size none]) (fun (i:Nat)=>vn - i) 0 (Nat.zero_le _) ⟨U,U,U,U,U,U,U,trivial⟩ (fun _ hm=>hm.pick [0,1] [] [0,1,2,3,4,5,6,7,8,9,10,11] U U) ?_
 intro i cC
 replace cC:i<=vn:=cC
 refine bS (bB (dD U U) U (bR (bH ?_)))
 refine cE U (fun hi=>?_) (fun hi=>?_)
 ·refine bN (bD (bH (bO (bS ?_))))
  obtain ⟨vb,vof,hvA,_,_⟩:=hv.get (by omega)
  subst hvA
  obtain ⟨x,hx⟩:∃x,vl[i]?=some x:=⟨_,fJ5 (by omega)⟩
  obtain ⟨vk,vcl⟩:=x
  refine bB (bT (j:=i) bQ3 U U (by omega)) U (bB (dO (vs:= [.string vk,.string vcl]) bB9 U (fun _ hm=>(hm.fact 8 U).1) hx U U) U (dH eR1 U fun g1=>jX (cs':= [.string vk,.string vcl]) 0 bB9 U U U U (bR (gd (fun wz=>Blk wz g1 57 [.string vk,.string vcl]/\Blk wz go 119 [.slice sA sn sc,.slice cA cn cc,.slice (some ⟨vb,vof,none⟩) vn vc,u3,u4,u5,u6,u7,u8,u9,jK,jL,jM,jN,jO,jP,.map (some gv),.map (some gs),.map (some fT),.slice none 0 0,.map (some fQ),.map (some fS),.map (some fU),.map (some gC),.slice none 0 0]/\True) mixed (fun _ hm=>⟨hm.bl 0,hm.bl 1,trivial⟩) fun z=>wq 0 U (bJ U) (wq 1 U (bX U) (wq 2 U (bQ bF9 U U) (wq 3 U (cN dZ3 U (fun _ hm=>hm.2.1) U) (wq 4 U (bQ wU U U) (wq 5 U (cN fE U (fun _ hm=>hm.1) U) (wq 6 U (bQ dF0 U U) (wq 7 U (cN fE U (fun _ hm=>hm.1) U) (eC 8 U (kO (enc:=vS) (ek:=dN) (s:=vk) (v:=vcl) (e:=9) (X':= [bV vI dN w0.heap.size gC (mZ),bV nH dN w0.heap.size fU (mZ),bV qA dN w0.heap.size fS (mZ),bV vB nD w0.heap.size fQ (mZ),bV qU dN w0.heap.size fT (mZ),bV vB dN w0.heap.size gs (mZ),bU stEnc 15 99 w0.heap.size none sA sn sl,bU fX 2 57 w0.heap.size none (some ⟨vb,vof,none⟩) vn vl,bU dV 2 84 w0.heap.size none cA cn cl,bU eS 4 171 w0.heap.size none eA en el,TxtO w0.heap.size none]) 6 kB (by kernel_rfl) U U U U (cP (i:=0) (bV.farK hne_gpd.2.2.2.2.2.1.symm) U (cP (i:=1) (bV.farK hne_ghi.2.2.2.2.1.symm) U (cP (i:=2) (bV.farK hne_gbk.2.2.2.1.symm) U (cP (i:=3) (bV.farK hne_gat.2.2.1.symm) U (cP (i:=4) (bV.farK hne_gst.2.1.symm) U (cP (i:=5) (bV.farK hne_gs.1.symm) U (cP (i:=7) bU.mfar.far U (cP (i:=8) bU.mfar.far U (cP (i:=9) (bU.mfar).far U (cP (i:=10) bU.mfar.far U (cP (i:=11) (TxtO.mfar).far U fZ))))))))))) (bE (nw 9 511 (fun _ hm=>⟨hm.bl 0,hm.bl 1,trivial⟩) fun z=>jH (bG (bD (bI (gN U U (bP U (bE ?_)))))))))))))))))))))
  rw [show fP (pY (vl.take i)) vk vcl=pY (vl.take (i+1)) from eN4 hx]
  exact cQ (i+1) (by show _<=_;omega) (by omega) ⟨U,U,U,U,U,U,(cS (by omega)),trivial⟩ (fun _ hm=>hm.pick [1,2] [] [1,2,3,4,5,6,0,7,8,9,10,11] U U)
 refine dE (bF (bF (bY (bD (bH (bS ?_))))))
 have hie:vl.take i=vl:=List.take_of_length_le (by omega)
 rw [hie]
 clear hie
 refine dW bP6 U U (dW dE0 U U (eI eX7 1 U U U (bB (dT eO2 U) U (bP U (bR (bO ?_))))))
 refine dX (γ:=Nat) (fun (j:Nat)=>j<=sn) (fun (j:Nat)=> [(1,.slice eA en ec),(4,.pointer none),(5,.pointer (some ⟨go,0,none⟩)),(42,.slice sA sn sc),(43,.int .i64 ((sn:Nat):Int)),(44,.int .i64 ((j:Nat):Int))]) (fun (j:Nat)=>fun _=>True) (fun (j:Nat)=> [(go,119, [.slice sA sn sc,.slice cA cn cc,.slice vA vn vc,u3,u4,u5,u6,u7,u8,u9,jK,jL,jM,jN,jO,jP,.map (some gv),.map (some gs),.map (some fT),.slice none 0 0,.map (some fQ),.map (some fS),.map (some fU),.map (some gC),.slice none 0 0]),(gH,42, [.slice sA sn sc,.slice cA cn cc,.slice vA vn vc,u3,u4,u5,u6,u7,u8,u9,jK,jL,jM,jN,jO,jP])]) (fun (j:Nat)=> []) (fun (j:Nat)=> [bV vI dN w0.heap.size gC (mZ),bV nH dN w0.heap.size fU (mZ),bV qA dN w0.heap.size fS (mZ),bV vB nD w0.heap.size fQ (mZ),bV qU dN w0.heap.size fT (mZ),bV vB dN w0.heap.size gs (qL (sl.take j)),bV vS dN w0.heap.size gv (pY vl),bU stEnc 15 99 w0.heap.size none sA sn sl,bU fX 2 57 w0.heap.size none vA vn vl,bU dV 2 84 w0.heap.size none cA cn cl,bU eS 4 171 w0.heap.size none eA en el,TxtO w0.heap.size none]) (fun (j:Nat)=>sn - j) 0 (Nat.zero_le _) ⟨U,U,U,U,U,U,trivial⟩ (fun _ hm=>hm.pick [0,1] [] [0,1,2,3,4,5,6,7,8,9,10,11] U U) ?_
 intro j cC
 replace cC:j<=sn:=cC
 refine bS (bB (dD U U) U (bR (bH ?_)))
 refine cE U (fun hj=>?_) (fun hj=>?_)
 ·refine bN (bD (bH (bO (bS ?_))))
  obtain ⟨tb,uE,hsA,_,_⟩:=hs.get (by omega)
  subst hsA
  obtain ⟨x,hx⟩:∃x,sl[j]?=some x:=⟨_,fJ5 (by omega)⟩
  have hso:=uB _ (fK5 hx)
  obtain ⟨key,hs9⟩:=x
  obtain ⟨h0,h1,h2,h3,h4,h5,h6,h7,h8,h9,h10,h11,h12,h13,rfl⟩:=cB6 hs9 hso.1
  refine bB (bT (j:=j) eO2 U U (by omega)) U (bB (dO (vs:= [.string key,.int .i64 h0,.int .i64 h1,.int .i64 h2,.int .i64 h3,.int .i64 h4,.int .i64 h5,.int .i64 h6,.int .i64 h7,.int .i64 h8,.int .i64 h9,.int .i64 h10,.int .i64 h11,.int .i64 h12,.int .i64 h13]) eW7 U (fun _ hm=>(hm.fact 7 U).1) hx U U) U (dH fS4 U fun g2=>jX (cs':= [.string key,.int .i64 h0,.int .i64 h1,.int .i64 h2,.int .i64 h3,.int .i64 h4,.int .i64 h5,.int .i64 h6,.int .i64 h7,.int .i64 h8,.int .i64 h9,.int .i64 h10,.int .i64 h11,.int .i64 h12,.int .i64 h13]) 0 eW7 U U U U (bR (gd (fun wz=>Blk wz g2 99 [.string key,.int .i64 h0,.int .i64 h1,.int .i64 h2,.int .i64 h3,.int .i64 h4,.int .i64 h5,.int .i64 h6,.int .i64 h7,.int .i64 h8,.int .i64 h9,.int .i64 h10,.int .i64 h11,.int .i64 h12,.int .i64 h13]/\Blk wz go 119 [.slice (some ⟨tb,uE,none⟩) sn sc,.slice cA cn cc,.slice vA vn vc,u3,u4,u5,u6,u7,u8,u9,jK,jL,jM,jN,jO,jP,.map (some gv),.map (some gs),.map (some fT),.slice none 0 0,.map (some fQ),.map (some fS),.map (some fU),.map (some gC),.slice none 0 0]/\True) mixed (fun _ hm=>⟨hm.bl 0,hm.bl 1,trivial⟩) fun z=>wq 0 U (bJ U) (wq 1 U (bX U) (wq 2 U (bQ yB U U) (wq 3 U (cN cI1 U (fun _ hm=>hm.2.1) U) (wq 4 U (bQ dA9 U U) (wq 5 U (cN fE U (fun _ hm=>hm.1) U) (eC 6 U (kO (enc:=vB) (ek:=dN) (s:=key) (v:=true) (e:=4) (X':= [bV vI dN w0.heap.size gC (mZ),bV nH dN w0.heap.size fU (mZ),bV qA dN w0.heap.size fS (mZ),bV vB nD w0.heap.size fQ (mZ),bV qU dN w0.heap.size fT (mZ),bV vS dN w0.heap.size gv (pY vl),bU stEnc 15 99 w0.heap.size none (some ⟨tb,uE,none⟩) sn sl,bU fX 2 57 w0.heap.size none vA vn vl,bU dV 2 84 w0.heap.size none cA cn cl,bU eS 4 171 w0.heap.size none eA en el,TxtO w0.heap.size none]) 5 kB (by kernel_rfl) U U U U (cP (i:=0) (bV.farK hne_gpd.2.2.2.2.1.symm) U (cP (i:=1) (bV.farK hne_ghi.2.2.2.1.symm) U (cP (i:=2) (bV.farK hne_gbk.2.2.1.symm) U (cP (i:=3) (bV.farK hne_gat.2.1.symm) U (cP (i:=4) (bV.farK hne_gst.1.symm) U (cP (i:=6) (bV.farK hne_gs.1) U (cP (i:=7) bU.mfar.far U (cP (i:=8) bU.mfar.far U (cP (i:=9) (bU.mfar).far U (cP (i:=10) bU.mfar.far U (cP (i:=11) (TxtO.mfar).far U fZ))))))))))) (bE (nw 7 127 (fun _ hm=>⟨hm.bl 0,hm.bl 1,trivial⟩) fun z=>jH (bG (bD (bI (gN U U (bP U (bE ?_)))))))))))))))))))
  rw [show fP (qL (sl.take j)) key true=qL (sl.take (j+1)) from eB4 hx]
  exact cQ (j+1) (by show _<=_;omega) (by omega) ⟨U,U,U,U,U,(cS (by omega)),trivial⟩ (fun _ hm=>hm.pick [1,2] [] [1,2,3,4,5,0,6,7,8,9,10,11] U U)
 refine dE (bF (bF (bY (bD (bH (bS ?_))))))
 have hje:sl.take j=sl:=List.take_of_length_le (by omega)
 rw [hje]
 clear hje
 have hd: [gv,gs,fT,fQ,fS,fU,gC].Nodup:=nd7 hne_gs.1 hne_gst.2.1 hne_gat.2.2.1 hne_gbk.2.2.2.1 hne_ghi.2.2.2.2.1 hne_gpd.2.2.2.2.2.1 hne_gst.1 hne_gat.2.1 hne_gbk.2.2.1 hne_ghi.2.2.2.1 hne_gpd.2.2.2.2.1 hne_gat.1 hne_gbk.2.1 hne_ghi.2.2.1 hne_gpd.2.2.2.1 hne_gbk.1 hne_ghi.2.1 hne_gpd.2.2.1 hne_ghi.1 hne_gpd.2.1 hne_gpd.1
 refine rO 74 5 ?_
 refine rO 226 2 ?_
 refine bP U (bB (dT vC U) U (bP U (bR (bO ?_))))
 refine cR5 (γ:=Unit) (fun _=>gD 68 (mZ:ByteArray->Option Hg)) (fun w hm=>⟨(),fun _ _ h=>by cases h⟩) (fun _=>gD.lasts2 U) fun _=>?_
 obtain ⟨V,hV⟩:∃z,z=pY vl:=⟨_,rfl⟩
 obtain ⟨T,hT⟩:∃z,z=qL sl:=⟨_,rfl⟩
 rw [<-hV,<-hT]
 refine dX (γ:=Nat×Value×Value×Nat×List Value×Os×(ByteArray->Option Int)) (fun (gq:Nat×Value×Value×Nat×List Value×Os×(ByteArray->Option Int))=>gq.1<=en/\(pR V T (fun b=>jR cl [b]=0) ((el.take gq.1).map Ny.at_) gq.2.2.2.2.2.1/\fY gq.2.2.2.2.2.1=bZ3 V T cl (el.take gq.1))/\bB0 gq.2.2.2.2.2.2/\gq.2.2.2.1<=gq.1) (fun (gq:Nat×Value×Value×Nat×List Value×Os×(ByteArray->Option Int))=> [(4,.pointer none),(5,.pointer (some ⟨go,0,none⟩)),(55,.slice eA en ec),(56,.int .i64 ((en:Nat):Int)),(57,.int .i64 ((gq.1:Nat):Int))]) (fun (gq:Nat×Value×Value×Nat×List Value×Os×(ByteArray->Option Int))=>fun _=>True) (fun (gq:Nat×Value×Value×Nat×List Value×Os×(ByteArray->Option Int))=> [(go,119, [.slice sA sn sc,.slice cA cn cc,.slice vA vn vc,u3,u4,u5,u6,u7,u8,u9,jK,jL,jM,jN,jO,jP,.map (some gv),.map (some gs),.map (some fT),gq.2.1,.map (some fQ),.map (some fS),.map (some fU),.map (some gC),gq.2.2.1])]) (fun (gq:Nat×Value×Value×Nat×List Value×Os×(ByteArray->Option Int))=> [⟨gq.2.1,74,5,gq.2.2.2.2.2.1.lg.length,gq.2.2.2.2.2.1.lg.flatMap dP⟩,⟨gq.2.2.1,226,2,gq.2.2.2.1,gq.2.2.2.2.1⟩]) (fun (gq:Nat×Value×Value×Nat×List Value×Os×(ByteArray->Option Int))=> [bV vS dN w0.heap.size gv (V),bV vB dN w0.heap.size gs (T),bV qU dN w0.heap.size fT (gq.2.2.2.2.2.1.fs),bV vB nD w0.heap.size fQ (gq.2.2.2.2.2.1.fa),bV qA dN w0.heap.size fS (gq.2.2.2.2.2.1.fb),bV nH dN w0.heap.size fU (gq.2.2.2.2.2.1.fh),bV vI dN w0.heap.size gC (gq.2.2.2.2.2.2),gD 68 gq.2.2.2.2.2.1.fh,bU dV 2 84 w0.heap.size none cA cn cl,TxtO w0.heap.size none,bU eS 4 171 w0.heap.size none eA en el]) (fun (gq:Nat×Value×Value×Nat×List Value×Os×(ByteArray->Option Int))=>en - gq.1) (0,.slice none 0 0,.slice none 0 0,0, [],os0,mZ) ⟨Nat.zero_le _,⟨.nil,U⟩,eO7,Nat.le_refl _⟩ ⟨U,U,U,U,U,trivial⟩ (fun _ hm=>hm.pick [0] [1,0] [7,6,5,4,3,2,1,0,10,12,11] U U) ?_
 rintro ⟨i,lv,rv,rn,rx,σ,fp⟩ cC
 replace cC:i<=en/\(pR V T (fun b=>jR cl [b]=0) ((el.take i).map Ny.at_) σ/\fY σ=bZ3 V T cl (el.take i))/\bB0 fp/\rn<=i:=cC
 dsimp only
 refine bS ?_
 obtain ⟨hi9,⟨wB,habs⟩,hpo,hrn⟩:=cC
 obtain ⟨hso,hky,hlg⟩:=wB.facts
 rw [List.length_map,List.length_take] at hlg
 refine bB (dD U U) U (bR (bH ?_))
 refine cE U (fun hi=>?_) (fun hi=>?_)
 ·refine bN (bD (bH (bO (bS ?_))))
  obtain ⟨eb,eof,heA,_,_⟩:=he.get (by omega)
  subst heA
  obtain ⟨x,hx⟩:∃x,el[i]?=some x:=⟨_,fJ5 (by omega)⟩
  have hny:=vN _ (fK5 hx)
  obtain ⟨at_,dk,no,ws⟩:=x
  dsimp only [cP9] at hny
  refine bP U (bB (bT (j:=i) vC U U (by omega)) U (bB (dO (vs:= [.int .i64 at_,.string dk,.int .i64 no,.string ws]) kM U (fun _ hm=>(hm.fact 10 U).1) hx U U) U (dH cI4 U fun g3=>bZ U (jX (cs':= [.int .i64 at_,.string dk,.int .i64 no,.string ws]) 0 kM U U U U (bR (bS (bP U (bB (cX kM U (fun _ hm=>hm.blkI 0 U) U U) U ?_))))))))
  refine fO (γ:=Value×Os×(ByteArray->Option Int)×Int) (val:=fun q=> .int .i64 q.2.2.2) (φ:=(fun (q:Value×Os×(ByteArray->Option Int)×Int)=>(kU V T (fun b=>jR cl [b]=0) at_ σ q.2.1/\fY q.2.1=mF V T cl at_ ws (fY σ))/\bB0 q.2.2.1)) (K':=fun _=>fun _=>True) (L':=(fun (q:Value×Os×(ByteArray->Option Int)×Int)=> [(go,119, [.slice sA sn sc,.slice cA cn cc,.slice vA vn vc,u3,u4,u5,u6,u7,u8,u9,jK,jL,jM,jN,jO,jP,.map (some gv),.map (some gs),.map (some fT),q.1,.map (some fQ),.map (some fS),.map (some fU),.map (some gC),rv])])) (O':=(fun (q:Value×Os×(ByteArray->Option Int)×Int)=> [⟨q.1,74,5,q.2.1.lg.length,q.2.1.lg.flatMap dP⟩,⟨rv,226,2,rn,rx⟩])) (X':=(fun (q:Value×Os×(ByteArray->Option Int)×Int)=> [bV vS dN w0.heap.size gv (V),bV vB dN w0.heap.size gs (T),bV qU dN w0.heap.size fT (q.2.1.fs),bV vB nD w0.heap.size fQ (q.2.1.fa),bV qA dN w0.heap.size fS (q.2.1.fb),bV nH dN w0.heap.size fU (q.2.1.fh),bV vI dN w0.heap.size gC (q.2.2.1),gD 68 q.2.1.fh,bU dV 2 84 w0.heap.size none cA cn cl,TxtO w0.heap.size none])) U eY9 U U (fun wx hm=>(cR7 w0 (.slice sA sn sc) (.slice vA vn vc) u3 u4 u5 u6 u7 u8 u9 jK jL jM jN jO jP go gv gs fT fQ fS fU gC cA cn cc cl V T rv rn rx hd fp σ lv at_ dk no ws wx hny.1 hny.2 hco hcn (by omega) hso (wB.fewB (by rw [List.length_map,List.length_take];omega)) (wB.fewH (by rw [List.length_map,List.length_take];omega)) hpo (hm.pick [1] [0,1] [0,1,2,3,4,5,6,7,8,9] U U).cy).mono fun _ _ ⟨qM,σ2,fp2,E,he,h1,h2,vP⟩=>⟨(qM,σ2,fp2,E),he,⟨h1,h2⟩,vP.cy⟩) ?_
  rintro ⟨qM,σ2,fp2,E2⟩ hst
  dsimp only at hst ⊢
  refine zE (γ:=Unit) (fun _=>bU eS 4 171 w0.heap.size none (some ⟨eb,eof,none⟩) en el) (fun w hm=>⟨(),(bU.lasts (Tt:= [])).gr w0 w hm.g he.old⟩) (fun _=>bU.lasts) fun _=>?_
  refine bZ U (bR (bS (bP U (bB (gX U U) U (bR ?_)))))
  refine gI U (fun hE=>?_) (fun hE=>?_)
  ·refine bI (bP U (bP U (bB (bX U) U (dW dZ2 U U (eI eV5 0 U U U (bP U (bP U ?_)))))))
   refine bB (dJ (cs:= [.int .i64 ((i:Nat):Int),.int .i64 E2]) U (by kernel_rfl)) U (jF 226 [.int .i64 ((i:Nat):Int),.int .i64 E2] fun g4=>eF (news:= [.int .i64 ((i:Nat):Int),.int .i64 E2]) 1 0 eZ8 U U U U U U U (by omega) (by unfold maxLen;omega) U U fun rv2 hrv2=>?_)
   refine eD (R:=∃A cc,rv2= .slice A (rn+1) cc) (fun wx hm=>dS (hm.ownI 1 U)) ?_
   rintro ⟨rA,rc,rfl⟩
   refine bB (bX U) U (dW dZ2 U U (jJ 1 eV5 U U U U U U (bE (bG (bD (bI (gN U U (bP U (bE ?_)))))))))
   exact cQ (i+1,qM,(Value.slice rA (rn+1) rc),rn+1,rx++([.int .i64 ((i:Nat):Int),.int .i64 E2]:List Value),σ2,fp2) ⟨by dsimp only;omega,⟨wB.next hx hst.1.1,by rw [dW3 hx,hst.1.2,habs]⟩,hst.2,by dsimp only;omega⟩ (by dsimp only;omega) ⟨U,U,U,U,(cS (by dsimp only;omega)),trivial⟩ (fun _ hm=>hm.pick [1] [0,1] [1,2,3,4,5,6,7,8,9,10,0] U U)
  refine bN (bG (bD (bI (gN U U (bP U (bE ?_))))))
  exact cQ (i+1,qM,rv,rn,rx,σ2,fp2) ⟨by dsimp only;omega,⟨wB.next hx hst.1.1,by rw [dW3 hx,hst.1.2,habs]⟩,hst.2,by dsimp only;omega⟩ (by dsimp only;omega) ⟨U,U,U,U,(cS (by dsimp only;omega)),trivial⟩ (fun _ hm=>hm.pick [0] [0,1] [1,2,3,4,5,6,7,8,9,10,0] U U)
 refine dE (bF (bF (bY (bD (bS ?_)))))
 have hie:i=en:=by omega
 have hte:el.take i=el:=List.take_of_length_le (by omega)
 rw [hte] at wB habs
 refine bP U (bB (bX U) U (dW bU4 U U (eI dJ6 0 U U U ?_)))
 refine eD (R:=(lv= .slice none 0 0/\σ.lg.length=0)∨∃br cc,lv= .slice (some ⟨br,0,none⟩) σ.lg.length cc) (fun wx hm=>dU5 (hm.ownI 0 U)) ?_
 rintro (⟨rfl,uM⟩|⟨br,cc,rfl⟩)
 ·have hiso:dR dU σ.lg=σ.lg:=by rw [List.eq_nil_of_length_eq_zero uM];rfl
  refine cL U fC1 U U (fun wx hm=>(dS1 none 0 wx)) (bR (bS (bP U (bZ U (bR (bM ?_))))))
  refine bK U U fun wx hm=>?_
  refine ⟨go,gv,gs,fT,fQ,fS,fU,gC,.slice none 0 0,rv,rn,rx,σ,fp,U,⟨wB,by rw [habs,hV,hT]⟩,?_⟩
  rw [hiso]
  exact (hm.pick [0] [0,1] [0,1,2,3,4,5,6,7,8,9] U U).cy
 refine cT1 (v:= .tuple #[]) (xs':=(dR dU σ.lg).flatMap dP) 0 U U U fC1 U U (fun wx hm=>(cA9 σ.lg br σ.lg.length cc _ wx (hm.ownI 0 U) U (by omega) (fun _=>hky.tie))) ?_
 refine bR (bS (bP U (bZ U (bR (bM ?_)))))
 refine bK U U fun wx hm=>?_
 refine ⟨go,gv,gs,fT,fQ,fS,fU,gC,.slice (some ⟨br,0,none⟩) σ.lg.length cc,rv,rn,rx,σ,fp,U,⟨wB,by rw [habs,hV,hT]⟩,?_⟩
 exact (hm.pick [0] [0,1] [0,1,2,3,4,5,6,7,8,9] U U).cy
def cmn (a b c d:Int):Int:=max 0 (min b d - max a c)
theorem dW7 {a b c d:Int} (h:a<=b):0<=cmn a b c d/\cmn a b c d<=b - a:=by unfold cmn;omega
def dS2:List Sa->Int
 | []=>5761440
 |t::_=>t.since
def stT (a b j:Int):List Sa->Int
 | []=>0
 |s::r=>(if s.st=j then cmn a b s.since (dS2 r) else 0)+stT a b j r
def spT (a b:Int) (el:List Ev) (v:ByteArray) (j:Int):Int:=stT a b j (wG el v)
def bH4 (a b:Int) (el rest:List Ev) (rC:ByteArray->Sa) (G:ByteArray->Int->Int):Prop:=∀v j,G v j+stT a b j (rC v::pM v rest (rC v))=spT a b el v j
theorem eY0 {a b:Int} {el:List Ev}:bH4 a b el el (fun _=>pH) (fun _ _=>0):=fun _ _=>by
 rw [Int.zero_add];rfl
def bT3 (G:ByteArray->Int->Int) (v:ByteArray) (j n:Int):ByteArray->Int->Int:=fun u i=>if (v.toList==u.toList)=true then (if i=j then G u i+n else G u i) else G u i
theorem bV6 {G:ByteArray->Int->Int} {v:ByteArray} {j n:Int}:bT3 G v j n v=fun i=>if i=j then G v i+n else G v i:=by
 unfold bT3;simp
theorem yG {G:ByteArray->Int->Int} {v u:ByteArray} {j n:Int} (h:u≠v):bT3 G v j n u=G u:=by
 unfold bT3
 funext i
 rw [if_neg (fun e=>h (rI.1 e).symm)]
theorem eY3 {a b:Int} {el r:List Ev} {x:Ev} {F:ByteArray->Option Sa} {G:ByteArray->Int->Int} (h:bH4 a b el (x::r) (fun v=>(F v).getD pH) G) (hg:gB ((F x.veh).getD pH) x=true):
 bH4 a b el r (fun v=>((yA F x.veh (jV x)) v).getD pH) (bT3 G x.veh ((F x.veh).getD pH).st (cmn a b ((F x.veh).getD pH).since x.at_)):=fun v j=>by
 have hv:=h v j
 dsimp only at hv ⊢
 by_cases e:x.veh=v
 ·subst e
  rw [uJ,bV6]
  have h2:pM x.veh (x::r) ((F x.veh).getD pH)=jV x::pM x.veh r (jV x):=by
   conv=>lhs;unfold pM
   rw [if_pos (beq_self_eq_true _),if_pos hg]
  rw [h2] at hv
  show (if j=((F x.veh).getD pH).st then G x.veh j+_ else G x.veh j)+stT a b j (jV x::pM x.veh r (jV x))=_
  rw [<-hv]
  conv=>rhs;unfold stT
  rw [show dS2 (jV x::pM x.veh r (jV x))=x.at_ from rL x]
  by_cases hj:((F x.veh).getD pH).st=j
  ·rw [if_pos hj.symm,if_pos hj];omega
  ·rw [if_neg (fun e=>hj e.symm),if_neg hj];omega
 ·rw [pT _ _ (fun e2=>e e2.symm),yG (fun e2=>e e2.symm),<-hv]
  have h2:pM v (x::r) ((F v).getD pH)=pM v r ((F v).getD pH):=by
   conv=>lhs;unfold pM
   rw [if_neg (fun e2=>e (rI.1 e2))]
  rw [h2]
theorem eB8 {a b:Int} {el r:List Ev} {x:Ev} {F:ByteArray->Option Sa} {G:ByteArray->Int->Int} (h:bH4 a b el (x::r) (fun v=>(F v).getD pH) G) (hg:¬gB ((F x.veh).getD pH) x=true):bH4 a b el r (fun v=>(F v).getD pH) G:=fun v j=>by
 have hv:=h v j
 dsimp only at hv ⊢
 by_cases e:x.veh=v
 ·subst e
  have h2:pM x.veh (x::r) ((F x.veh).getD pH)=pM x.veh r ((F x.veh).getD pH):=by
   conv=>lhs;unfold pM
   rw [if_pos (beq_self_eq_true _),if_neg hg]
  rw [h2] at hv;exact hv
 ·have h2:pM v (x::r) ((F v).getD pH)=pM v r ((F v).getD pH):=by
   conv=>lhs;unfold pM
   rw [if_neg (fun e2=>e (rI.1 e2))]
  rw [h2] at hv;exact hv
def cA3 (a b:Int) (el:List Ev) (vl:List Vh) (i:Nat) (rC:ByteArray->Sa) (G:ByteArray->Int->Int):Prop:=∀k x,vl[k]?=some x->∀j,G x.key j+(if i<=k then stT a b j [rC x.key] else 0)=spT a b el x.key j
theorem eA4 {a b:Int} {el:List Ev} {vl:List Vh} {rC:ByteArray->Sa} {G:ByteArray->Int->Int} (h:bH4 a b el [] rC G):cA3 a b el vl 0 rC G:=fun k x _ j=>by
 rw [if_pos (Nat.zero_le _)];exact h x.key j
theorem eZ3 {a b:Int} {el:List Ev} {vl:List Vh} {rC:ByteArray->Sa} {G:ByteArray->Int->Int} {i:Nat} {x:Vh} (h:cA3 a b el vl i rC G) (hr:bM3 vl) (hx:vl[i]?=some x):cA3 a b el vl (i+1) rC (bT3 G x.key (rC x.key).st (cmn a b (rC x.key).since 5761440)):=fun k y hy j=>by
 have h2:=h k y hy j
 rcases Nat.lt_trichotomy k i with hk|rfl|hk
 ·rw [if_neg (by omega)] at h2 ⊢
  rw [yG (fun e=>bK4 (bO5 hr hk hy hx) (by rw [e]))];exact h2
 ·rw [hx] at hy;cases hy
  rw [if_pos (Nat.le_refl _)] at h2
  rw [if_neg (by omega),bV6,<-h2]
  show (if j=(rC x.key).st then G x.key j+_ else G x.key j)+0=G x.key j+((if (rC x.key).st=j then cmn a b (rC x.key).since 5761440 else 0)+0)
  by_cases hj:(rC x.key).st=j
  ·rw [if_pos hj.symm,if_pos hj];omega
  ·rw [if_neg (fun e=>hj e.symm),if_neg hj];omega
 ·rw [if_pos (by omega)] at h2
  rw [if_pos (by omega),yG (fun e=>bK4 (bO5 hr hk hx hy) (by rw [e]))];exact h2
theorem eX3 {a b:Int} {el:List Ev} {vl:List Vh} {rC:ByteArray->Sa} {G:ByteArray->Int->Int} (h:cA3 a b el vl vl.length rC G) {k:Nat} {x:Vh} (hx:vl[k]?=some x) (j:Int):G x.key j=spT a b el x.key j:=by
 have h2:=h k x hx j
 have:=(List.getElem?_eq_some_iff.1 hx).1
 rw [if_neg (by omega),Int.add_zero] at h2;exact h2
theorem dE3 {G:ByteArray->Int->Int} {v:ByteArray} {j n M D:Int} (h:∀u i,0<=G u i/\G u i<=M) (h0:0<=n) (h1:n<=D):∀u i,0<=bT3 G v j n u i/\bT3 G v j n u i<=M+D:=fun u i=>by
 have:=h u i
 unfold bT3
 split
 ·split <;> omega
 ·omega
structure Tr where
 fr:Int
 to_:Int
 a:ByteArray
 b:ByteArray
def cS1:List Sa->Int
 | []=> -1
 |t::_=>t.since
def bOf:List Sa->ByteArray
 | []=>⟨#[]⟩
 |t::_=>t.sta
def trR:ByteArray->List Sa->List Tr
 |_, []=> []
 |p,s::r=>(if s.st=2 then [⟨s.since,cS1 r,p,bOf r⟩] else [])++trR s.sta r
def dA2 (el:List Ev) (v:ByteArray):List Tr:=trR ⟨#[]⟩ (wG el v)
theorem wZ {a b:ByteArray}:(a.toList==b.toList)=true↔a=b:=⟨fun h=>cR4 (beq_iff_eq.1 h),fun h=>by rw [h];exact beq_self_eq_true _⟩
section
variable (φ:Int->Int->Int)
def trS:List Sa->Int
 | []=>0
 |s::r=>(if s.st=2 then φ s.since (cS1 r) else 0)+trS r
theorem cD9 (s t:Sa):∀l:List Sa,trS φ (l++ [s,t])=trS φ (l++ [s])+(if s.st=2 then φ s.since t.since - φ s.since (-1) else 0)+(if t.st=2 then φ t.since (-1) else 0)
 | []=>by
  show (if s.st=2 then φ s.since t.since else 0)+((if t.st=2 then φ t.since (-1) else 0)+0)=(if s.st=2 then φ s.since (-1) else 0)+0+_+_
  split <;> omega
 |y::l=>by
  have e:cS1 (l++ [s,t])=cS1 (l++ [s]):=by cases l <;> rfl
  have ih:=cD9 s t l
  show (if y.st=2 then φ y.since (cS1 (l++ [s,t])) else 0)+trS φ (l++ [s,t])=(if y.st=2 then φ y.since (cS1 (l++ [s])) else 0)+trS φ (l++ [s])+_+_
  rw [e,ih];omega
def lgS (v:ByteArray):List Lg->Int
 | []=>0
 |g::r=>(if (g.veh.toList==v.toList)=true then φ g.out.at_ g.inn.at_ else 0)+lgS v r
theorem bG5 {v:ByteArray}:∀{l m:List Lg},lgS φ v (l++m)=lgS φ v l+lgS φ v m
 | [],m=>by show _=0+_;rw [Int.zero_add];rfl
 |g::r,m=>by
  have ih:=bG5 (v:=v) (l:=r) (m:=m)
  show _+lgS φ v (r++m)=_+lgS φ v r+_
  rw [ih];omega
def oS (v:ByteArray):Option Hg->Int
 |none=>0
 |some h=>lgS φ v h.legs
def kS (v:ByteArray) (f:ByteArray->Option Hg):List ByteArray->Int
 | []=>0
 |k::r=>oS φ v (f k)+kS v f r
theorem dI3 {v:ByteArray} {f g:ByteArray->Option Hg}:∀{ks:List ByteArray},(∀k∈ks,f k=g k)->kS φ v f ks=kS φ v g ks
 | [],_=>rfl
 |k::r,h=>by
  show oS φ v (f k)+kS φ v f r=oS φ v (g k)+kS φ v g r
  rw [h k (List.mem_cons_self ..),dI3 fun j hj=>h j (List.mem_cons_of_mem _ hj)]
theorem cY5 {v k:ByteArray} {f:ByteArray->Option Hg} {h:Hg}:∀{ks:List ByteArray},ks.Nodup->k∈ks->kS φ v (fP f k h) ks=kS φ v f ks - oS φ v (f k)+lgS φ v h.legs
 | [],_,hk=>by cases hk
 |j::r,hn,hk=>by
  obtain ⟨h1,h2⟩:=List.nodup_cons.1 hn
  show oS φ v (fP f k h j)+kS φ v (fP f k h) r=oS φ v (f j)+kS φ v f r - _+_
  by_cases e:j=k
  ·subst e
   rw [hU,dI3 φ (g:=f) (fun i hi=>dB _ _ (fun (q:i=j)=>h1 (q ▸ hi)))]
   show lgS φ v h.legs+_=_
   omega
  ·rw [dB _ _ e,cY5 h2 ((List.mem_cons.1 hk).resolve_left fun e2=>e e2.symm)]
   omega
end
theorem bX1 {v:ByteArray} {x:Ev}:∀{l:List Ev} {s:Sa},nV v (l++ [x]) s=if (x.veh.toList==v.toList)=true then gU (nV v l s) x else nV v l s
 | [],_=>rfl
 |_::r,_=>bX1 (l:=r)
theorem bI2 {v:ByteArray}:∀(l:List Ev) (s:Sa),∃m,s::pM v l s=m++ [nV v l s]
 | [],s=>⟨[],rfl⟩
 |x::r,s=>by
  unfold pM nV
  by_cases hv:(x.veh.toList==v.toList)=true
  ·rw [if_pos hv,if_pos hv]
   unfold gU
   by_cases hg:gB s x=true
   ·rw [if_pos hg,if_pos hg]
    obtain ⟨m,h⟩:=bI2 r (jV x)
    exact ⟨s::m,by rw [h];rfl⟩
   ·rw [if_neg hg,if_neg hg]
    exact bI2 r s
  ·rw [if_neg hv,if_neg hv]
   exact bI2 r s
theorem bU5 {v:ByteArray} {x:Ev}:∀{l:List Ev} {s:Sa},pM v (l++ [x]) s=pM v l s++(if (x.veh.toList==v.toList)=true then (if gB (nV v l s) x=true then [jV x] else []) else [])
 | [],s=>by
  show pM v [x] s=_
  unfold pM
  show (if _ then (if _ then jV x:: [] else []) else [])= []++_
  rfl
 |y::r,s=>by
  show pM v (y::(r++ [x])) s=_
  unfold pM nV
  by_cases hv:(y.veh.toList==v.toList)=true
  ·simp only [if_pos hv]
   unfold gU
   by_cases hg:gB s y=true
   ·simp only [if_pos hg]
    rw [bU5];rfl
   ·simp only [if_neg hg]
    rw [bU5]
  ·simp only [if_neg hv]
   rw [bU5]
def cu (σ:Os) (v:ByteArray):Sa:=nV v σ.lg pH
theorem dP2 {σ:Os} {x:Ev} (h:gB (cu σ x.veh) x=true):cu (gL σ x) x.veh=jV x:=by
 show nV _ (σ.lg++ [x]) pH=_
 rw [bX1,if_pos (wZ.2 rfl)]
 unfold gU
 exact if_pos h
theorem bY9 {σ:Os} {x:Ev} {v:ByteArray} (h:v≠x.veh):cu (gL σ x) v=cu σ v:=by
 show nV _ (σ.lg++ [x]) pH=_
 rw [bX1,if_neg (fun e=>h (wZ.1 e).symm)];rfl
theorem cT6 {φ:Int->Int->Int} {lg:List Ev} {x:Ev} {v:ByteArray}:trS φ (wG (lg++ [x]) v)=trS φ (wG lg v)+(if (x.veh.toList==v.toList)=true then (if gB (nV v lg pH) x=true then (if (nV v lg pH).st=2 then φ (nV v lg pH).since x.at_ - φ (nV v lg pH).since (-1) else 0)+(if (jV x).st=2 then φ x.at_ (-1) else 0) else 0) else 0):=by
 unfold wG
 rw [bU5]
 by_cases hv:(x.veh.toList==v.toList)=true
 ·rw [if_pos hv,if_pos hv]
  by_cases hg:gB (nV v lg pH) x=true
  ·rw [if_pos hg,if_pos hg]
   obtain ⟨m,h⟩:=bI2 (v:=v) lg pH
   rw [<-List.cons_append,h,List.append_assoc]
   have h2:=cD9 φ (nV v lg pH) (jV x) m
   rw [rL] at h2
   show trS φ (m++ [nV v lg pH,jV x])=_
   rw [h2];omega
  ·rw [if_neg hg,if_neg hg,List.append_nil,Int.add_zero]
 ·rw [if_neg hv,if_neg hv,List.append_nil,Int.add_zero]
theorem yN {l:List Lg} {g:Lg} (h:l[l.length - 1]?=some g):∃m,l=m++ [g]:=by
 rcases List.eq_nil_or_concat l with rfl|⟨m,x,rfl⟩
 ·cases h
 ·simp at h
  exact ⟨m,by rw [h];simp⟩
theorem dK3 {m:List Lg} {g:Lg}:(m++ [g])[(m++ [g]).length - 1]?=some g:=by simp
theorem bL1 {m:List Lg} {g:Lg} {r:Rd}:endLegs (m++ [g]) r=m++ [⟨g.veh,g.out,r⟩]:=by
 unfold endLegs
 rw [dK3]
 simp
theorem cY0 {m:List Lg} {g:Lg}:openB (m++ [g])=true↔g.inn.at_= -1:=by
 unfold openB
 rw [dK3]
 exact beq_iff_eq
theorem cV8 {α:Type} {m m':List α} {g g':α} (h:m++ [g]=m'++ [g']):m=m'/\g=g':=by
 have:=List.append_inj' h rfl
 exact ⟨this.1,by have h2:=this.2;injection h2⟩
structure HI (σ:Os):Prop where
 fs:∀v,(σ.fs v).getD pH=cu σ v
 op:∀k h m g,σ.fh k=some h->h.legs=m++ [g]->g.inn.at_= -1->(cu σ g.veh).st=2/\(cu σ g.veh).since=g.out.at_
 un:∀k k' h h' m m' g g',σ.fh k=some h->σ.fh k'=some h'->h.legs=m++ [g]->h'.legs=m'++ [g']->g.inn.at_= -1->g'.inn.at_= -1->g.veh=g'.veh->k=k'
 sm:∀(φ:Int->Int->Int) v ks,ks.Nodup->(∀k,(σ.fh k).isSome=true->k∈ks)->trS φ (wG σ.lg v)=kS φ v σ.fh ks
theorem dR9 {φ:Int->Int->Int} {v:ByteArray}:∀{ks:List ByteArray},kS φ v mZ ks=0
 | []=>rfl
 |k::r=>by
  show 0+kS φ v mZ r=0
  rw [dR9,Int.add_zero]
theorem HI.start:HI os0:=⟨fun _=>rfl,(fun _ _ _ _ h=>by cases h),(fun _ _ _ _ _ _ _ _ h=>by cases h),fun φ v ks _ _=>by
 rw [show (os0).fh=mZ from rfl,dR9];rfl⟩
theorem dJ0 {σ:Os} {x:Ev} (h:∀v,(σ.fs v).getD pH=cu σ v) (v:ByteArray):((gL σ x).fs v).getD pH=cu (gL σ x) v:=by
 show (fP σ.fs x.veh (gU ((σ.fs x.veh).getD pH) x) v).getD pH=nV v (σ.lg++ [x]) pH
 rw [bX1]
 by_cases e:v=x.veh
 ·subst e
  rw [hU,if_pos (wZ.2 rfl),Option.getD_some,h];rfl
 ·rw [dB _ _ e,if_neg (fun q=>e (wZ.1 q).symm),h];rfl
theorem cH3 {s:Sa} {x:Ev} (h:gB s x=true):(x.kd=3/\s.st=2)∨(x.kd≠3/\s.st≠2):=by
 unfold gB at h
 split at h
 ·rename_i e
  exact .inr ⟨by omega,by have:=of_decide_eq_true h;omega⟩
 ·split at h
  ·rename_i e
   exact .inl ⟨e,of_decide_eq_true h⟩
  ·rename_i e
   refine .inr ⟨e,?_⟩
   split at h
   ·rw [Bool.and_eq_true] at h;have:=of_decide_eq_true h.1;omega
   ·split at h
    ·rw [Bool.and_eq_true] at h;have:=of_decide_eq_true h.1;omega
    ·split at h
     ·rw [Bool.and_eq_true] at h;have:=of_decide_eq_true h.1;omega
     ·cases h
theorem eG0 {x:Ev}:(jV x).st=2↔x.kd=2:=by
 unfold jV
 split
 ·rename_i e;exact ⟨fun _=>e,fun _=>rfl⟩
 ·rename_i e
  refine ⟨fun h=>?_,fun h=>absurd h e⟩
  repeat' split at h
  all_goals exact absurd h (by simp)
theorem HI.say {σ:Os} {x:Ev} (h:HI σ) (hc:bM2 σ x) (h2:x.kd≠2) (h3:x.kd≠3):HI (gL σ x):=by
 have hg:=hc.2
 rw [h.fs] at hg
 have hs:=(cH3 hg).resolve_left fun q=>h3 q.1
 have ho:∀v,(cu σ v).st=2->cu (gL σ x) v=cu σ v:=fun v hv=>bY9 fun e=>hs.2 (e ▸ hv)
 refine ⟨dJ0 h.fs,fun k y m g e1 e2 e3=>?_,h.un,fun φ v ks hn hk=>?_⟩
 ·have h1:=h.op k y m g e1 e2 e3
  rw [ho _ h1.1];exact h1
 ·show trS φ (wG (σ.lg++ [x]) v)=kS φ v σ.fh ks
  rw [cT6,h.sm φ v ks hn hk]
  by_cases hv:(x.veh.toList==v.toList)=true
  ·rw [if_pos hv]
   rw [wZ] at hv
   subst hv
   have hg2:gB (nV x.veh σ.lg pH) x=true:=hg
   rw [if_pos hg2,if_neg (show ¬(nV x.veh σ.lg pH).st=2 from hs.2),if_neg (fun q=>h2 (eG0.1 q))];omega
  ·rw [if_neg hv,Int.add_zero]
theorem bV3 {α:Type} {f:ByteArray->Option α} {k j:ByteArray} {x:α} (h:(f j).isSome=true):(fP f k x j).isSome=true:=by
 by_cases e:j=k
 ·subst e;rw [hU];rfl
 ·rw [dB _ _ e];exact h
theorem HI.keep {σ τ:Os} {k:ByteArray} {y y':Hg} (h:HI σ) (hk:σ.fh k=some y) (hl:y'.legs=y.legs) (e1:τ.fs=σ.fs) (e2:τ.lg=σ.lg) (e3:τ.fh=fP σ.fh k y'):HI τ:=by
 have hcu:∀v,cu τ v=cu σ v:=fun v=>by unfold cu;rw [e2]
 have zT:∀j z m g,τ.fh j=some z->z.legs=m++ [g]->∃z2,σ.fh j=some z2/\z2.legs=m++ [g]:=fun j z m g hz hm=>by
  rw [e3] at hz
  rcases eK hz with ⟨rfl,rfl⟩|hz
  ·exact ⟨y,hk,hl ▸ hm⟩
  ·exact ⟨z,hz,hm⟩
 refine ⟨fun v=>by rw [hcu,e1];exact h.fs v,fun j z m g a1 a2 a3=>?_,fun j j' z z' m m' g g' a1 a2 a3 a4 a5 a6 a7=>?_,fun φ v ks hn hks=>?_⟩
 ·obtain ⟨z2,b1,b2⟩:=zT j z m g a1 a2
  rw [hcu];exact h.op j z2 m g b1 b2 a3
 ·obtain ⟨z2,b1,b2⟩:=zT j z m g a1 a3
  obtain ⟨z3,b3,b4⟩:=zT j' z' m' g' a2 a4
  exact h.un j j' z2 z3 m m' g g' b1 b3 b2 b4 a5 a6 a7
 ·have hd:∀j,(σ.fh j).isSome=true->j∈ks:=fun j hj=>hks j (by rw [e3];exact bV3 hj)
  rw [e2,h.sm φ v ks hn hd,e3,cY5 φ hn (hd k (by rw [hk];rfl)),hk,hl]
  show _=_ - lgS φ v y.legs+_
  omega
theorem HI.back {σ τ:Os} {k st:ByteArray} {y y':Hg} {m:List Lg} {g:Lg} {r:Rd} {a:Int} (h:HI σ) (hk:σ.fh k=some y) (hl:y.legs=m++ [g]) (ho:g.inn.at_= -1) (hc:bM2 σ (eQ a g.veh st)) (hr:r.at_=a) (ha:0<=a) (hl2:y'.legs=m++ [⟨g.veh,g.out,r⟩]) (e1:τ.fs=(gL σ (eQ a g.veh st)).fs) (e2:τ.lg=σ.lg++ [eQ a g.veh st]) (e3:τ.fh=fP σ.fh k y'):HI τ:=by
 have hg:=hc.2
 rw [h.fs] at hg
 have hop:=h.op k y m g hk hl ho
 have hcs:cu τ g.veh=jV (eQ a g.veh st):=by
  have:=dP2 (σ:=σ) (x:=eQ a g.veh st) hg
  unfold cu at this ⊢
  rw [e2];exact this
 have hco:∀v,v≠g.veh->cu τ v=cu σ v:=fun v hv=>by
  have:=bY9 (σ:=σ) (x:=eQ a g.veh st) hv
  unfold cu at this ⊢
  rw [e2];exact this
 have zT:∀j z m2 g2,τ.fh j=some z->z.legs=m2++ [g2]->g2.inn.at_= -1->j≠k/\σ.fh j=some z:=fun j z m2 g2 hz hm hi=>by
  rw [e3] at hz
  by_cases e:j=k
  ·subst e
   rw [hU] at hz
   injection hz with hz
   subst hz
   rw [hl2] at hm
   have:=(cV8 hm).2
   subst this
   have h9:r.at_= -1:=hi
   omega
  ·rw [dB _ _ e] at hz
   exact ⟨e,hz⟩
 refine ⟨fun v=>?_,fun j z m2 g2 a1 a2 a3=>?_,fun j j' z z' m2 m' g2 g' a1 a2 a3 a4 a5 a6 a7=>?_,fun φ v ks hn hks=>?_⟩
 ·have:=dJ0 (x:=eQ a g.veh st) h.fs v
  rw [e1,this]
  unfold cu
  rw [e2];rfl
 ·obtain ⟨b1,b2⟩:=zT j z m2 g2 a1 a2 a3
  have hne:g2.veh≠g.veh:=fun e=>b1 (h.un j k z y m2 m g2 g b2 hk a2 hl a3 ho e)
  rw [hco _ hne];exact h.op j z m2 g2 b2 a2 a3
 ·exact h.un j j' z z' m2 m' g2 g' (zT j z m2 g2 a1 a3 a5).2 (zT j' z' m' g' a2 a4 a6).2 a3 a4 a5 a6 a7
 ·have hd:∀j,(σ.fh j).isSome=true->j∈ks:=fun j hj=>hks j (by rw [e3];exact bV3 hj)
  rw [e2,cT6,h.sm φ v ks hn hd,e3,cY5 φ hn (hd k (by rw [hk];rfl)),hk,hl2,bG5]
  show _=_ - lgS φ v y.legs+_
  rw [hl,bG5]
  have hx:(eQ a g.veh st).veh=g.veh:=rfl
  rw [hx]
  show _=_ - (_+((if (g.veh.toList==v.toList)=true then φ g.out.at_ g.inn.at_ else 0)+0))+(_+((if (g.veh.toList==v.toList)=true then φ g.out.at_ r.at_ else 0)+0))
  by_cases hv:(g.veh.toList==v.toList)=true
  ·rw [if_pos hv,if_pos hv,if_pos hv]
   rw [wZ] at hv
   subst hv
   have hg2:gB (nV g.veh σ.lg pH) (eQ a g.veh st)=true:=hg
   have hs1:(nV g.veh σ.lg pH).st=2:=hop.1
   have hs2:(nV g.veh σ.lg pH).since=g.out.at_:=hop.2
   rw [if_pos hg2,if_pos hs1,if_neg (fun q=>absurd (eG0.1 q) (by decide:¬(3:Int)=2)),hs2,ho,hr]
   show _+(φ g.out.at_ a - φ g.out.at_ (-1)+0)=_
   omega
  ·rw [if_neg hv,if_neg hv,if_neg hv];omega
theorem HI.out {σ τ:Os} {k st v0:ByteArray} {y':Hg} {m:List Lg} {q:Rd} {a:Int} (h:HI σ) (hm:σ.fh k=none/\m= []∨∃y m2 g,σ.fh k=some y/\y.legs=m2++ [g]/\g.inn.at_≠ -1/\m=m2++ [g]) (hc:bM2 σ (gO a v0 st)) (hq:q.at_=a) (hl2:y'.legs=m++ [startLeg v0 q]) (e1:τ.fs=(gL σ (gO a v0 st)).fs) (e2:τ.lg=σ.lg++ [gO a v0 st]) (e3:τ.fh=fP σ.fh k y'):HI τ:=by
 have hg:=hc.2
 rw [h.fs] at hg
 have hs:=(cH3 hg).resolve_left fun q=>absurd q.1 (by decide:¬(2:Int)=3)
 have hcs:cu τ v0=jV (gO a v0 st):=by
  have:=dP2 (σ:=σ) (x:=gO a v0 st) hg
  unfold cu at this ⊢
  rw [e2];exact this
 have hco:∀v,v≠v0->cu τ v=cu σ v:=fun v hv=>by
  have:=bY9 (σ:=σ) (x:=gO a v0 st) hv
  unfold cu at this ⊢
  rw [e2];exact this
 have zT:∀j z m2 g2,τ.fh j=some z->z.legs=m2++ [g2]->g2.inn.at_= -1->(j=k/\g2=startLeg v0 q)∨(j≠k/\σ.fh j=some z/\g2.veh≠v0):=fun j z m2 g2 hz hm2 hi=>by
  rw [e3] at hz
  by_cases e:j=k
  ·subst e
   rw [hU] at hz
   injection hz with hz
   subst hz
   rw [hl2] at hm2
   exact .inl ⟨U,(cV8 hm2).2.symm⟩
  ·rw [dB _ _ e] at hz
   exact .inr ⟨e,hz,fun e4=>hs.2 (e4 ▸ (h.op j z m2 g2 hz hm2 hi).1)⟩
 have hlg:∀(φ:Int->Int->Int) v,oS φ v (σ.fh k)=lgS φ v m:=fun φ v=>by
  rcases hm with ⟨e4,rfl⟩|⟨y,m2,g,e4,e5,_,rfl⟩
  ·rw [e4];rfl
  ·rw [e4,<-e5];rfl
 refine ⟨fun v=>?_,fun j z m2 g2 a1 a2 a3=>?_,fun j j' z z' m2 m' g2 g' a1 a2 a3 a4 a5 a6 a7=>?_,fun φ v ks hn hks=>?_⟩
 ·have:=dJ0 (x:=gO a v0 st) h.fs v
  rw [e1,this]
  unfold cu
  rw [e2];rfl
 ·rcases zT j z m2 g2 a1 a2 a3 with ⟨_,rfl⟩|⟨_,b2,b3⟩
  ·show (cu τ v0).st=2/\(cu τ v0).since=q.at_
   rw [hcs,hq];exact ⟨rfl,rfl⟩
  ·rw [hco _ b3];exact h.op j z m2 g2 b2 a2 a3
 ·rcases zT j z m2 g2 a1 a3 a5 with ⟨rfl,rfl⟩|⟨_,b2,b3⟩ <;> rcases zT j' z' m' g' a2 a4 a6 with ⟨rfl,rfl⟩|⟨_,b4,b5⟩
  ·rfl
  ·exact absurd a7.symm b5
  ·exact absurd a7 b3
  ·exact h.un j j' z z' m2 m' g2 g' b2 b4 a3 a4 a5 a6 a7
 ·have hd:∀j,(σ.fh j).isSome=true->j∈ks:=fun j hj=>hks j (by rw [e3];exact bV3 hj)
  rw [e2,cT6,h.sm φ v ks hn hd,e3,cY5 φ hn (hks k (by rw [e3,hU];rfl)),hlg,hl2,bG5]
  have hx:(gO a v0 st).veh=v0:=rfl
  rw [hx]
  show _=_ - _+(_+((if (v0.toList==v.toList)=true then φ q.at_ (-1) else 0)+0))
  by_cases hv:(v0.toList==v.toList)=true
  ·rw [if_pos hv,if_pos hv]
   rw [wZ] at hv
   subst hv
   have hg2:gB (nV v0 σ.lg pH) (gO a v0 st)=true:=hg
   rw [if_pos hg2,if_neg (show ¬(nV v0 σ.lg pH).st=2 from hs.2),if_pos (eG0.2 rfl),hq]
   show _+(0+φ a (-1))=_
   omega
  ·rw [if_neg hv,if_neg hv];omega
theorem dV9 {α:Type} {f:ByteArray->Option α} {k:ByteArray} {x y:α}:fP (fP f k x) k y=fP f k y:=by
 funext j
 by_cases e:j=k
 ·subst e;rw [hU,hU]
 ·rw [dB _ _ e,dB _ _ e,dB _ _ e]
theorem HI.step {V:ByteArray->Option ByteArray} {T:ByteArray->Option Bool} {ck:Bk->Prop} {a:Int} {σ τ:Os} (h:HI σ) (hok:cM4 σ) (ha:0<=a) (hs:kU V T ck a σ τ):HI τ:=by
 cases hs with
 |same=>exact h
 |ev x _ _ hkd _ _ _ _ hc=>
  refine h.say hc (fun e=>?_) (fun e=>?_)
  ·rw [e] at hkd;exact absurd hkd (by decide)
  ·rw [e] at hkd;exact absurd hkd (by decide)
 |book b=>exact ⟨h.fs,h.op,h.un,h.sm⟩
 |cancel k=>exact ⟨h.fs,h.op,h.un,h.sm⟩
 |start y v r _ _ hl hr hn _ _ hc=>
  have e0:σ.fh y.key=none:=by
   cases e:σ.fh y.key with
   |none=>rfl
   |some z=>rw [e] at hn;cases hn
  exact h.out (m:= []) (k:=y.key) (q:=r) (.inl ⟨e0,U⟩) hc hr hl U U U
 |extend k y y' hk _ _ hl=>exact h.keep hk hl rfl rfl rfl
 |close k y y' g r hk _ _ ho hg hl _ hr _ hc=>
  have hy:=hok.hi k y hk
  rw [<-hy.2.2.2] at hg
  obtain ⟨m,hm⟩:=yN hg
  rw [hm] at ho
  rw [hm,bL1] at hl
  exact h.back hk hm (cY0.1 ho) hc hr ha hl U U U
 |swap k y y' g r q v hk _ _ ho hg hl _ hr hq _ _ _ hc1 hc2=>
  have hy:=hok.hi k y hk
  rw [<-hy.2.2.2] at hg
  obtain ⟨m,hm⟩:=yN hg
  rw [hm] at ho
  unfold gZ at hl
  rw [hm,bL1] at hl
  have hne:v≠g.veh:=fun e=>by
   have h1:=hc1.2
   have h2:=hc2.2
   rw [h.fs] at h1 h2
   have e:(gO a v r.st).veh=(eQ a g.veh r.st).veh:=e
   rw [e] at h2
   rcases cH3 h1 with q1|q1
   ·rcases cH3 h2 with q2|q2
    ·exact absurd q2.1 (by decide:¬(2:Int)=3)
    ·exact q2.2 q1.2
   ·exact absurd U q1.1
  obtain ⟨z,hz⟩:∃z:Hg,z.legs=m++ [⟨g.veh,g.out,r⟩]:=⟨⟨⟨#[]⟩,⟨#[]⟩,0,0,none,0,0,_⟩,rfl⟩
  have h1:=h.back (τ:={ gL σ (eQ a g.veh r.st) with fh:=fP σ.fh k z }) hk hm (cY0.1 ho) hc1 hr ha hz rfl rfl rfl
  refine h1.out (k:=k) (m:=m++ [⟨g.veh,g.out,r⟩]) (q:=q) (st:=r.st) (v0:=v) (a:=a) (.inr ⟨z,m,_,hU _ _ _,hz,?_,U⟩) ⟨?_,?_⟩ hq hl U U (dV9.symm)
  ·show r.at_≠ -1
   omega
  ·show ((fP σ.fa (g.veh,a) true) (v,a)).getD false=false
   rw [dB _ _ (fun e=>hne (congrArg Prod.fst e))]
   exact hc2.1
  ·show gB (((fP σ.fs g.veh (gU ((σ.fs g.veh).getD pH) (eQ a g.veh r.st))) v).getD pH) _=true
   rw [dB _ _ hne]
   exact hc2.2
theorem pR.hi {V:ByteArray->Option ByteArray} {T:ByteArray->Option Bool} {ck:Bk->Prop} {l:List Int} {σ:Os} (h:pR V T ck l σ) (hl:∀a∈l,0<=a):HI σ:=by
 induction h with
 |nil=>exact HI.start
 |snoc l a σ τ h1 h2 ih=>exact (ih fun x hx=>hl x (List.mem_append_left _ hx)).step h1.facts.1 (hl a (List.mem_append_right _ (List.mem_singleton.2 rfl))) h2
def eW8 (x:ByteArray):Prop:=∀i:Nat,i < x.size->32<=pK x ((i:Nat):Int)/\pK x ((i:Nat):Int)<=126
def cL4 (x:Ny):Prop:=inB x.at_ 0 5761439=true/\keyB x.dk=true/\inB x.no 1 1000000=true/\(1<=x.ws.size/\x.ws.size<=200)/\eW8 x.ws
def uS (x:Ny):Prop:=(-2000000000000000000<=x.at_/\x.at_<=2000000000000000000)/\x.dk.size<=1000000/\(-2000000000000000000<=x.no/\x.no<=2000000000000000000)/\x.ws.size<=1000000
def wD (a b:Ny):Int:=dI [pD a.at_ b.at_,mX a.dk b.dk,pD a.no b.no]
def sg2 (n:Int):Int:=if n < 0 then -1 else if 0 < n then 1 else 0
theorem dB4 (a b:Int):sg2 (a - b)=pD a b:=by
 unfold sg2 pD
 split <;> split <;> (try split) <;> (try split) <;> omega
theorem eE9 (x:ByteArray) (j:Int):∃b:Nat,pK x j=((b:Nat):Int)/\b<=255:=by
 have:=dR4 x j
 exact ⟨(pK x j).toNat,by omega,by omega⟩
theorem fO4 (a b d:Int) (g T c:Nat) (w:World) (h:Blk w g T [.int .i64 a,.int .i64 b,.int .i64 d]):Calls prog 43 #[.slice (some ⟨g,0,none⟩) 3 c] w (fun e w'=>e=.returned (.int .i64 (dI [a,b,d]))/\w.grownBy w' none):=by
 refine cV ⟨18,w,none, []⟩ func43 U ntmps43 U (gR (X:= [fL w.heap.size none g T [.int .i64 a,.int .i64 b,.int .i64 d] ]) (cG h.old cY) (cH fL.lasts cZ)) (bS (bZ U (bR (bS (bZ U (bR (bH (bS (bP U (bB (dT pE U) U (bL 7 (v':= .int .i64 3) U U (bP U (bR (bO (eZ 4 (eB (bS (bB (dD U U) U (bL 9 (v':= .bool true) U (fH5 (by decide)) (bR (bH (kQ U (bN (bD (bH (bO (bS (bB (bT (j:=0) pE U U (by decide)) U (bB (cN (v:= .int .i64 a) fF U (fun _ hm=>(hm.fact 0 U).2) U) U ?_)))))))))))))))))))))))))))))
 refine bZ U (bR (bS (bP U (bP U (bB (gX U U) U (bR ?_))))))
 refine gI U (fun h1=>?_) (fun h1=>?_)
 ·refine bS (bP U (bZ U (bR ?_)))
  refine bM (bC (bA (bA (bC (bA ?_)))))
  exact bK U U fun wx hm=>⟨by simp only [dI,if_false,h1],hm.g⟩
 refine bN (bG (bD (bI (gN U U (bL 16 (v':= .int .i64 1) U U (bP U (bE (hW (eB (bS (bB (dD U U) U (bL 9 (v':= .bool true) U (fH5 (by decide)) (bR (bH (kQ U (bN (bD (bH (bO (bS (bB (bT (j:=1) pE U U (by decide)) U (bB (cN (v:= .int .i64 b) fF U (fun _ hm=>(hm.fact 0 U).2) U) U (bZ U (bR (bS (bP U (bP U (bB (gX U U) U (bR ?_)))))))))))))))))))))))))))))
 refine gI U (fun h2=>?_) (fun h2=>?_)
 ·refine bS (bP U (bZ U (bR ?_)))
  refine bM (bC (bA (bA (bC (bA ?_)))))
  exact bK U U fun wx hm=>⟨by simp only [dI,if_true,if_false,h1,h2],hm.g⟩
 refine bN (bG (bD (bI (gN U U (bL 16 (v':= .int .i64 2) U U (bP U (bE (hW (eB (bS (bB (dD U U) U (bL 9 (v':= .bool true) U (fH5 (by decide)) (bR (bH (kQ U (bN (bD (bH (bO (bS (bB (bT (j:=2) pE U U (by decide)) U (bB (cN (v:= .int .i64 d) fF U (fun _ hm=>(hm.fact 0 U).2) U) U (bZ U (bR (bS (bP U (bP U (bB (gX U U) U (bR ?_)))))))))))))))))))))))))))))
 refine gI U (fun h3=>?_) (fun h3=>?_)
 ·refine bS (bP U (bZ U (bR ?_)))
  refine bM (bC (bA (bA (bC (bA ?_)))))
  exact bK U U fun wx hm=>⟨by simp only [dI,if_true,if_false,h1,h2,h3],hm.g⟩
 refine bN (bG (bD (bI (gN U U (bL 16 (v':= .int .i64 3) U U (bP U (bE (hW (eB (bS (bB (dD U U) U (bL 9 (v':= .bool false) U (fH5 (by decide)) (bR (bH (jU U (dE (bF (bF (bY (bD (bS (bP U (bZ U (bR (bM ?_)))))))))))))))))))))))))
 exact bK U U fun wx hm=>⟨by simp only [dI,if_true,h1,h2,h3],hm.g⟩
theorem dS5 (p0:Int) (p1:ByteArray) (p2:Int) (p3:ByteArray) (e0:Int) (e1:ByteArray) (e2:Int) (e3:ByteArray) (w:World):Calls prog 129 #[.agg #[.int .i64 p0,.string p1,.int .i64 p2,.string p3],.agg #[.int .i64 e0,.string e1,.int .i64 e2,.string e3]] w (nC w (wD (⟨p0,p1,p2,p3⟩:Ny) (⟨e0,e1,e2,e3⟩:Ny))):=by
 refine cV ⟨22,w,none, []⟩ func129 U ntmps129 U (gR (X:= []) cY cZ) (bS (fG U U U fun g1=>fG U U U fun g2=>bZ U (bR (bH (gd (fun wz=>Blk wz g2 171 [.int .i64 e0,.string e1,.int .i64 e2,.string e3]/\Blk wz g1 171 [.int .i64 p0,.string p1,.int .i64 p2,.string p3]/\True) mixed (fun _ hm=>⟨hm.bl 0,hm.bl 1,trivial⟩) fun z=>wq 0 U (bQ mP U U) (wq 1 U (cN fF U (fun _ hm=>hm.2.1) U) (wq 2 U (bQ mP U U) (wq 3 U (cN fF U (fun _ hm=>hm.1) U) (wq 5 U (bQ nZ U U) (wq 6 U (cN fE U (fun _ hm=>hm.2.1) U) (wq 7 U (bQ nZ U U) (wq 8 U (cN fE U (fun _ hm=>hm.1) U) (wq 10 U (bQ qE U U) (wq 11 U (cN fF U (fun _ hm=>hm.2.1) U) (wq 12 U (bQ qE U U) (wq 13 U (cN fF U (fun _ hm=>hm.1) U) (eC 4 U (cL U dT7 U U (fun wx hm=>(bO4 _ _ wx)) (bE (nw 18 15871 (fun _ hm=>⟨hm.bl 0,hm.bl 1,trivial⟩) fun z=>eC 9 U (cL U cV9 U U (fun wx hm=>(rB _ _ wx)) (bE (nw 18 16383 (fun _ hm=>⟨hm.bl 0,hm.bl 1,trivial⟩) fun z=>eC 14 U (cL U dT7 U U (fun wx hm=>(bO4 _ _ wx)) ?_))))))))))))))))))))))))
 refine bE (nw 18 32767 (fun _ hm=>⟨hm.bl 0,hm.bl 1,trivial⟩) fun z=>eC 15 U (jF 3 [.int .i64 (pD p0 e0),.int .i64 (mX p1 e1),.int .i64 (pD p2 e2)] fun g3=>bE (nw 18 65535 (fun _ hm=>⟨hm.bl 1,hm.bl 2,trivial⟩) fun z=>eC 16 U (cL U dS7 U U (fun wx hm=>(fO4 _ _ _ _ _ _ wx (hm.blkI 0 U))) (bE (nw 18 131071 (fun _ hm=>⟨hm.bl 1,hm.bl 2,trivial⟩) fun z=>wq 17 U (cU U) (jH (bD (bM ?_)))))))))
 exact bK U U fun wx hm=>⟨bW U,hm.g⟩
theorem cZ3 (n:Int) (w:World):Calls prog 119 #[.int .i64 n] w (nC w (sg2 n)):=by
 refine cV ⟨9,w,none, []⟩ func119 U ntmps119 U (gR (X:= []) cY cZ) (bS (bZ U (bR (bH (bO (bS (bP U (bB (dD U U) U (bZ U (bR ?_))))))))))
 refine cE U (fun h1=>?_) (fun h1=>?_)
 ·refine bS (bZ U ?_)
  refine bL 2 (v':= .int .i64 (-1)) U U (bR (bM (bC (bA ?_))))
  exact bK U U fun wx hm=>⟨bW (by unfold sg2;rw [if_pos h1]),hm.g⟩
 refine bS (bP U (bB (eJ U U) U (bZ U (bR ?_))))
 refine cE U (fun h2=>?_) (fun h2=>?_)
 ·refine bS (bZ U (bR ?_))
  refine bM (bC (bA ?_))
  exact bK U U fun wx hm=>⟨bW (by unfold sg2;rw [if_neg h1,if_pos h2]),hm.g⟩
 refine bN (bG (bD (bS (bZ U (bR (bM ?_))))))
 exact bK U U fun wx hm=>⟨bW (by unfold sg2;rw [if_neg h1,if_neg h2]),hm.g⟩
theorem bI0 (p0:Int) (p1:ByteArray) (p2:Int) (p3:ByteArray) (e0:Int) (e1:ByteArray) (e2:Int) (e3:ByteArray) (w:World) (hp:uS (⟨p0,p1,p2,p3⟩:Ny)) (he:uS (⟨e0,e1,e2,e3⟩:Ny)):Calls prog 71 #[.agg #[.int .i64 p0,.string p1,.int .i64 p2,.string p3],.agg #[.int .i64 e0,.string e1,.int .i64 e2,.string e3]] w (nC w (wD (⟨p0,p1,p2,p3⟩:Ny) (⟨e0,e1,e2,e3⟩:Ny))):=by
 dsimp only [uS] at hp he
 refine cV ⟨34,w,none, []⟩ func71 U ntmps71 U (gR (X:= []) cY cZ) (bS (fG U U U fun g1=>fG U U U fun g2=>bZ U (bR (bH (bO (bS (dW mP U U (eI fF 1 U U U (dW mP U U (eI fF 0 U U U (bB (gX U U) U (bZ U (bE (bD ?_))))))))))))))
 refine gI U (fun h1=>?_) (fun h1=>?_)
 ·refine bS (dW mP U U (eI fF 1 U U U (dW mP U U (eI fF 0 U U U ?_))))
  refine bB (ov_sub U U (by omega) (by omega)) U (cL U eC5 U U (fun wx hm=>(cZ3 _ wx)) (bZ U (bR (bM (bC (bA ?_))))))
  refine bK U U fun wx hm=>?_
  exact ⟨bW (by
   have h2:pD p0 e0≠0:=fun e=>h1 (rJ.1 e)
   rw [dB4]
   simp [wD,dI,h2]),hm.g⟩
 refine bS (dW nZ U U (eI fE 1 U U U (dW nZ U U (eI fE 0 U U U (bB (vT U U) U (bZ U (bR ?_)))))))
 refine dC U (fun hh=>?_) (fun hh=>?_)
 ·have h2:(p1.toList==e1.toList)=false:=by simpa using hh
  refine bS (dW nZ U U (eI fE 1 U U U (dW nZ U U (eI fE 0 U U U (cL U eS9 U U (fun wx hm=>(cN1 _ _ wx)) (bZ U (bR (bM (bC (bA ?_))))))))))
  refine bK U U fun wx hm=>?_
  exact ⟨bW (by
   have h3:pD p0 e0=0:=rJ.2 h1
   have h4:mX p1 e1≠0:=fun e=>by have:=(qC.1 e).2;rw [this] at h2;simp at h2
   simp only [wD,dI,h3,if_true,if_neg h4]),hm.g⟩
 have h2:(p1.toList==e1.toList)=true:=by simpa using hh
 refine bN (bG (bD (bS (dW qE U U (eI fF 1 U U U (dW qE U U (eI fF 0 U U U (bB (ov_sub U U (by omega) (by omega)) U (cL U eC5 U U (fun wx hm=>(cZ3 _ wx)) (bZ U (bR (bM ?_))))))))))))
 refine bK U U fun wx hm=>?_
 exact ⟨bW (by
  have h3:pD p0 e0=0:=rJ.2 h1
  have h5:p1.toList=e1.toList:=by simpa using h2
  have h4:mX p1 e1=0:=qC.2 ⟨by rw [h5];exact rH _,h5⟩
  rw [dB4]
  by_cases h6:pD p2 e2=0
  ·simp [wD,dI,h3,h4,h6]
  simp only [wD,dI,h3,h4,if_true,if_neg h6]),hm.g⟩
theorem bK8 (x:ByteArray) (w:World) (hz:x.size<=1000000) (hp:eW8 x):Calls prog 128 #[.string x] w (fun e w'=>e=.returned (.bool true)/\w.grownBy w' none):=by
 refine cV ⟨20,w,none, []⟩ func128 U ntmps128 U (gR (X:= []) cY cZ) (bS (bZ U (bR (bH (bS (bP U (bB (yP us9 U) U (bP U (bR (bO ?_))))))))))
 refine dX (γ:=Nat) (fun (i:Nat)=>i<=x.size) (fun (i:Nat)=> [(0,.string x),(5,.int .i64 ((x).size:Int)),(6,.int .i64 ((i:Nat):Int))]) (fun (i:Nat)=>fun _=>True) (fun (i:Nat)=> []) (fun (i:Nat)=> []) (fun (i:Nat)=> []) (fun (i:Nat)=>x.size - i) 0 (Nat.zero_le _) ⟨U,U,U,trivial⟩ (fun _ hm=>hm.pick [] [] [] U U) ?_
 intro i cC
 replace cC:i<=x.size:=cC
 refine bS (bB (dD U U) U (bR (bH ?_)))
 refine cE U (fun hi=>?_) (fun hi=>?_)
 ·refine bN (bD (bH (bO (bS ?_))))
  have hb:=hp i (by omega)
  refine bP U (bZ U (bR (bS (bP U (bP U (bB (bK5 us9 U U (by omega) (by omega)) U (bB (dD U U) U (bL 12 (v':= .bool false) U (fH5 (decide_eq_false (by omega))) (bP U (eG U (bP U (eG U (bP U (eG U (bB (bK5 us9 U U (by omega) (by omega)) U (eG U (bB (eJ U U) U (bL 17 (v':= .bool false) U (fH5 (decide_eq_false (by omega))) (nS U U (bR (jU U (bN (bG (bD (bI (gN U U (bP U (bE ?_))))))))))))))))))))))))))))
  exact cQ (i+1) (by show _<=_;omega) (by omega) ⟨U,U,(cS (by omega)),trivial⟩ (fun _ hm=>hm.pick [] [] [] U U)
 refine dE (bF (bF (bY (bD (bS (bZ U (bR (bM ?_))))))))
 exact bK U U fun wx hm=>⟨U,hm.g⟩
theorem cV5 (n lo hi:Int) (w:World):Calls prog 123 #[.int .i64 n,.int .i64 lo,.int .i64 hi] w (fun e w'=>e=.returned (.bool (inB n lo hi))/\w.grownBy w' none):=by
 refine cV ⟨15,w,none, []⟩ func123 U ntmps123 U (gR (X:= []) cY cZ) (bS (bZ U (bR (bS (bP U (bP U (bB (mV U U) U (bP U ?_))))))))
 rcases Bool.eq_false_or_eq_true (decide (lo<=n)) with hb1|hb1
 ·refine bL 10 U (fH5 hb1) ?_
  refine eG U (bP U (eG U (bP U (eG U (bB (mV U U) U (mQ U U (bZ U (bR (bM ?_)))))))))
  refine bK U U fun wx hm=>?_
  refine ⟨?_,hm.g⟩
  unfold inB
  simp_all <;> omega
 refine bL 10 U (fH5 hb1) (dY U (dY U (dY U (nS U U (bZ U (bR (bM ?_)))))))
 refine bK U U fun wx hm=>?_
 refine ⟨?_,hm.g⟩
 unfold inB
 simp_all <;> omega
theorem cH2 (e0:Int) (e1:ByteArray) (e2:Int) (e3:ByteArray) (w:World) (hz:uS (⟨e0,e1,e2,e3⟩:Ny)):Calls prog 72 #[.agg #[.int .i64 e0,.string e1,.int .i64 e2,.string e3]] w (fun e w'=>∃E,e=.returned (.int .i64 E)/\(E=0->cL4 (⟨e0,e1,e2,e3⟩:Ny))/\w.grownBy w' none):=by
 dsimp only [uS] at hz
 refine cV ⟨39,w,none, []⟩ func72 U ntmps72 U (gR (X:= []) cY cZ) (bS (fG U U U fun g1=>bZ U (bR (bH (bO (bS (dW mP U U (eI fF 0 U U U (dA U eT9 U U (fun wx hm=>(cP8 _ wx)) (bB (cF U) U (bZ U (bR ?_))))))))))))
 refine dC U (fun hh=>?_) (fun hh=>?_)
 ·have h0:(inB e0 0 5761439)=false:=by simpa using hh
  refine bS (bZ U (bR (bM (bC (bA ?_)))))
  exact bK U U fun wx hm=>⟨_,U,(fun h=>absurd h (by decide)),hm.g⟩
 have h0:(inB e0 0 5761439)=true:=by simpa using hh
 refine bS (dW nZ U U (eI fE 0 U U U (cL U bW7 U U (fun wx hm=>(wQ _ wx (by omega))) (bB (cF U) U (bZ U (bR ?_))))))
 refine dC U (fun hh=>?_) (fun hh=>?_)
 ·have h1:(keyB e1)=false:=by simpa using hh
  refine bS (bZ U (bR (bM (bC (bA ?_)))))
  exact bK U U fun wx hm=>⟨_,U,(fun h=>absurd h (by decide)),hm.g⟩
 have h1:(keyB e1)=true:=by simpa using hh
 refine bS (dW qE U U (eI fF 0 U U U (cL U dL7 U U (fun wx hm=>(cV5 _ _ _ wx)) (bB (cF U) U (bZ U (bR ?_))))))
 refine dC U (fun hh=>?_) (fun hh=>?_)
 ·have h2:(inB e2 1 1000000)=false:=by simpa using hh
  refine bS (bZ U (bR (bM (bC (bA ?_)))))
  exact bK U U fun wx hm=>⟨_,U,(fun h=>absurd h (by decide)),hm.g⟩
 have h2:(inB e2 1 1000000)=true:=by simpa using hh
 refine bS (dW qW U U (eI fE 0 U U U (bB (yP us9 U) U (cL U dL7 U U (fun wx hm=>(cV5 _ _ _ wx)) (bB (cF U) U (bZ U (bR ?_)))))))
 refine dC U (fun hh=>?_) (fun hh=>?_)
 ·have h3:(inB ((e3).size:Int) 1 200)=false:=by simpa using hh
  refine bS (bZ U (bR (bM (bC (bA ?_)))))
  exact bK U U fun wx hm=>⟨_,U,(fun h=>absurd h (by decide)),hm.g⟩
 have h3:(inB ((e3).size:Int) 1 200)=true:=by simpa using hh
 refine bN (bG (bD (bH (bS ?_))))
 have w0f:inB e0 0 5761439=true:=by simpa using h0
 have w1f:keyB e1=true:=by simpa using h1
 have w2f:inB e2 1 1000000=true:=by simpa using h2
 have w3f:=mG.1 (show inB ((e3.size:Nat):Int) 1 200=true by simpa using h3)
 refine dW qW U U (eI fE 0 U U U (bB (yP us9 U) U (bP U (bR (bO ?_)))))
 refine dX (γ:=Nat) (fun (i:Nat)=>i<=e3.size/\∀j,j < i->32<=pK e3 ((j:Nat):Int)/\pK e3 ((j:Nat):Int)<=126) (fun (i:Nat)=> [(1,.pointer (some ⟨g1,0,none⟩)),(27,.int .i64 ((e3).size:Int)),(28,.int .i64 ((i:Nat):Int))]) (fun (i:Nat)=>fun _=>True) (fun (i:Nat)=> [(g1,171, [.int .i64 e0,.string e1,.int .i64 e2,.string e3])]) (fun (i:Nat)=> []) (fun (i:Nat)=> []) (fun (i:Nat)=>e3.size - i) 0 ⟨Nat.zero_le _,fun _ h=>absurd h (Nat.not_lt_zero _)⟩ ⟨U,U,U,trivial⟩ (fun _ hm=>hm.pick [0] [] [] U U) ?_
 intro i cC
 replace cC:i<=e3.size/\∀j,j < i->32<=pK e3 ((j:Nat):Int)/\pK e3 ((j:Nat):Int)<=126:=cC
 refine bS (bB (dD U U) U (bR (bH ?_)))
 refine cE U (fun hi=>?_) (fun hi=>?_)
 ·refine bN (bD (bH (bO (bS ?_))))
  obtain ⟨bt,hbt,hbz⟩:=eE9 e3 ((i:Nat):Int)
  refine bP U (bZ U (bR (bS (dW qW U U (eI fE 0 U U U (bP U (bB (bK5 us9 U U (by omega) (by omega)) U (bL 34 (v':= .int .u8 ((bt:Nat):Int)) U (congrArg (Value.int .u8) hbt) (bB (bM7 (a:=bt) (by kernel_rfl) (by kernel_rfl) U (by omega)) U (cL U dL7 U U (fun wx hm=>(cV5 _ _ _ wx)) (bB (cF U) U (bR ?_))))))))))))
  refine dC U (fun hh=>?_) (fun hh=>?_)
  ·have hj:(inB ((bt:Nat):Int) 32 126)=false:=by simpa using hh
   refine bS (bZ U (bR (bM (bC (bA (bA (bC (bA ?_))))))))
   exact bK U U fun wx hm=>⟨_,U,(fun h=>absurd h (by decide)),hm.g⟩
  have hj:(inB ((bt:Nat):Int) 32 126)=true:=by simpa using hh
  refine bN (bG (bD (bI (gN U U (bP U (bE ?_))))))
  have hj1:=mG.1 (show inB ((bt:Nat):Int) 32 126=true by simpa using hj)
  exact cQ (i+1) ⟨by omega,fun j h=>by
   rcases (show j < i∨j=i by omega) with h9|h9
   ·exact cC.2 j h9
   rw [h9,hbt];exact hj1⟩ (by omega) ⟨rfl,rfl,(cS (by omega)),trivial⟩ (fun _ hm=>hm.pick [0] [] [] rfl rfl)
 refine dE (bF (bF (bY (bD (bS (bZ U (bR (bM ?_))))))))
 exact bK U U fun wx hm=>⟨_,U,(fun _=>⟨w0f,w1f,w2f,by dsimp only;omega,fun j h=>cC.2 j (by have h9:j < e3.size:=h;omega)⟩),hm.g⟩
end Go.Proofs.YtmifpfcmldflkaaGreatDoor
