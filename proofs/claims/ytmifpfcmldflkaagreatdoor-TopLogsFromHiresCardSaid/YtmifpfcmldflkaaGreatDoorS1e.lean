/- Several texts as one: Eg Ba Cv Gm Gw Gx Gy Srt Clr Cq Gz Wo Rw Rx Gs Eh Gp Ej Az Em En Yp Smp Dki Dkj Zp Hla Dkl -/
import Derived.Test.YtmifpfcmldflkaaGreatDoorS1a
import Derived.Test.YtmifpfcmldflkaaGreatDoorS1d
import Derived.Test.YtmifpfcmldflkaaGreatDoorS1b
import Derived.Test.YtmifpfcmldflkaaGreatDoorS1c
import Derived.RangeFuncNested
import Derived.RangeFuncBound
import Derived.RangeFuncCalls
import Derived.RangeFuncLeaves
import Derived.Shelf.Abstract
import Derived.Shelf.RegionOpen
import Derived.WalkKit
import Derived.OwnWalkIn
import Derived.TacticsInMore
import Derived.LoopNIn
import Derived.LoopIn
import Derived.OneCell
import Derived.Lib.AppendZeros
set_option maxRecDepth 100000
set_option maxHeartbeats 4000000
namespace Go.Proofs.YtmifpfcmldflkaaGreatDoor
open Tryz
open Go.RowKit
def evC (c1 c2 c3 c4 c5 c6 c7:Bool):Int:=if c1=true then 1 else if c2=true then 8 else if c3=true then 4 else if c4=true then 3 else if c5=true then 8 else if c6=true then 14 else if c7=true then 7 else 0
theorem nX {ss:List St} {vs:List Vh} {p:Option Ev} {e0:Int} {e1 e2:ByteArray} {e3:Int} {e4:ByteArray}:evE ss vs p ⟨e0,e1,e2,e3,e4⟩=evC (!inB e0 0 5761439) (decide (mI (vhP e1) vs 0 < 0)|| !ss.any (stP e2)) (!inB e3 1 8) (!decide (e3=6)&& !(e4.toList==(⟨#[]⟩:ByteArray).toList)) (decide (e3=6)&& !ss.any (stP e4)) (e4.toList==e2.toList) (evO p ⟨e0,e1,e2,e3,e4⟩):=by
 unfold evE evC
 cases inB e0 0 5761439 <;> cases inB e3 1 8 <;> rfl
theorem dF0 (key:ByteArray) (h0 h1 h2 h3 h4 h5 h6 h7 h8 h9 h10 h11 h12 h13:Int) (gk:Nat) (k:ByteArray) (w:World) (hk:Blk w gk 9 [.string k]):
 Calls prog 190 #[.agg #[.string key,.int .i64 h0,.int .i64 h1,.int .i64 h2,.int .i64 h3,.int .i64 h4,.int .i64 h5,.int .i64 h6,.int .i64 h7,.int .i64 h8,.int .i64 h9,.int .i64 h10,.int .i64 h11,.int .i64 h12,.int .i64 h13],.pointer (some ⟨gk,0,none⟩)] w (fun e w'=>e=.returned (.bool (stP k ⟨key, [h0,h1,h2,h3,h4,h5,h6,h7,h8,h9,h10,h11,h12,h13]⟩))/\w.grownBy w' none):=by
 refine cS ⟨8,w,none, []⟩ func190 U ntmps190 U (gM (X:= [fL w.heap.size none gk 9 [.string k]]) (cF hk.old cX) (cG fL.lasts cY)) (bR (fG U U U fun g1=>bX U (bQ (bR (dY dO7 U U (eJ fC 0 U U U (bB (cQ (v:= .string k) fC U (fun _ hm=>(hm.fact 0 U).2) U) U (bB (eS U U) U (bX U (bQ (bM ?_)))))))))))
 exact bJ U U fun wx hm=>⟨U,hm.g⟩
theorem dN9 (l:List St) (A:Option Addr) (n c0:Nat) (gk:Nat) (k:ByteArray) (w:World) (hl:SlT stEnc 15 99 w A n l) (hok:∀x∈l,StOk x) (hn:n<=1000000) (hk:Blk w gk 9 [.string k]):
 Calls prog 222 #[.slice A n c0,.func (.func 190) #[] #[.pointer (some ⟨gk,0,none⟩)]] w (mP w (mI (stP k) l 0)):=by
 refine cS ⟨19,w,none, []⟩ func222 U ntmps222 U (gM (X:= [bW stEnc 15 99 w.heap.size none A n l,fL w.heap.size none gk 9 [.string k]]) (cF hl.old (cF hk.old cX)) (cG bW.lasts (cG fL.lasts cY))) (bR ?_)
 have hlen:=hl.len
 refine bX U (bQ (bH (bR (bP U (bB (dT eC1 U) U (bP U (bQ (bO ?_))))))))
 refine dX (γ:=Nat) (fun (i:Nat)=>i<=n/\mI (stP k) l 0=mI (stP k) (l.drop i) i) (fun (i:Nat)=> [(0,.slice A n c0),(1,.func (.func 190) #[] #[.pointer (some ⟨gk,0,none⟩)]),(7,.int .i64 ((n:Nat):Int)),(8,.int .i64 ((i:Nat):Int))]) (fun (i:Nat)=>fun _=>True) (fun (i:Nat)=> []) (fun (i:Nat)=> []) (fun (i:Nat)=> [bW stEnc 15 99 w.heap.size none A n l,fL w.heap.size none gk 9 [.string k]]) (fun (i:Nat)=>n - i) 0 ⟨Nat.zero_le _,U⟩ ⟨U,U,U,U,trivial⟩ (fun _ hm=>hm.pick [] [] [0,1] U U) ?_
 intro i cB
 replace cB:i<=n/\mI (stP k) l 0=mI (stP k) (l.drop i) i:=cB
 refine bR (bB (dE U U) U (bQ (bH ?_)))
 refine cC U (fun hi=>?_) (fun hi=>?_)
 ·refine bN (bD (bH (bO (bR ?_))))
  obtain ⟨b,off,hA,_,_⟩:=hl.get (by omega)
  subst hA
  obtain ⟨x,hx⟩:∃x,l[i]?=some x:=⟨_,fW3 (by omega)⟩
  have hat:=yA (p:=stP k) hx
  have hso:=hok _ (fX3 hx)
  obtain ⟨key,hs⟩:=x
  obtain ⟨h0,h1,h2,h3,h4,h5,h6,h7,h8,h9,h10,h11,h12,h13,rfl⟩:=cM4 hs hso.1
  refine bP U (bX U (bQ (bR (bP U (bP U (bP U (bB (bV (j:=i) eC1 U U (by omega)) U (bB (dP (vs:= [.string key,.int .i64 h0,.int .i64 h1,.int .i64 h2,.int .i64 h3,.int .i64 h4,.int .i64 h5,.int .i64 h6,.int .i64 h7,.int .i64 h8,.int .i64 h9,.int .i64 h10,.int .i64 h11,.int .i64 h12,.int .i64 h13]) eK6 U (fun _ hm=>(hm.fact 0 U).1) hx U U) U (cH U eZ8 U U (fun wx hm=>(dF0 key h0 h1 h2 h3 h4 h5 h6 h7 h8 h9 h10 h11 h12 h13 gk k wx (hm.fact 1 U).2)) (bQ ?_))))))))))
  refine dC U (fun hh=>?_) (fun hh=>?_)
  ·have hq:(stP k ⟨key, [h0,h1,h2,h3,h4,h5,h6,h7,h8,h9,h10,h11,h12,h13]⟩)=true:=by simpa using hh
   refine bR (bP U (bX U (bQ (bM (bC (bA (bA (bC (bA ?_)))))))))
   exact bJ U U fun wx hm=>⟨bT (by rw [cB.2,hat,if_pos hq]),hm.g⟩
  have hq:(stP k ⟨key, [h0,h1,h2,h3,h4,h5,h6,h7,h8,h9,h10,h11,h12,h13]⟩)=false:=by simpa using hh
  refine bN (bG (bD (bI (gO U U (bP U (bE ?_))))))
  exact cN (i+1) ⟨by omega,by rw [cB.2,hat,if_neg (by rw [hq];decide)]⟩ (by omega) ⟨U,U,U,(cR (by omega)),trivial⟩ (fun _ hm=>hm.pick [] [] [0,1] U U)
 refine dD (bF (bF (bY (bD (bR (bX U (bK 4 (v':= .int .i64 (-1)) U U (bQ (bM ?_)))))))))
 exact bJ U U fun wx hm=>⟨bT (by rw [cB.2,List.drop_eq_nil_of_le (by omega)];rfl),hm.g⟩
theorem dM9 (l:List St) (A:Option Addr) (n c0:Nat) (gk:Nat) (k:ByteArray) (w:World) (hl:SlT stEnc 15 99 w A n l) (hok:∀x∈l,StOk x) (hn:n<=1000000) (hk:Blk w gk 9 [.string k]):
 Calls prog 189 #[.slice A n c0,.func (.func 190) #[] #[.pointer (some ⟨gk,0,none⟩)]] w (fun e w'=>e=.returned (.bool (l.any (stP k)))/\w.grownBy w' none):=by
 refine cS ⟨9,w,none, []⟩ func189 U ntmps189 U (gM (X:= [bW stEnc 15 99 w.heap.size none A n l,fL w.heap.size none gk 9 [.string k]]) (cF hl.old (cF hk.old cX)) (cG bW.lasts (cG fL.lasts cY))) (bR (bX U (bQ (bR (bP U (bP U (cH U eH9 U U (fun wx hm=>(dN9 l A n c0 gk k wx (hm.fact 0 U).1 hok hn (hm.fact 1 U).2)) (bB (mG U U) U (bX U (bQ (bM ?_)))))))))))
 exact bJ U U fun wx hm=>⟨by rw [<-bQ9],hm.g⟩
theorem vM (sl:List St) (sA cA vA pA:Option Addr) (sn sc cn cc vn vc pn pc:Nat) (k:ByteArray) (w:World) (hs:SlT stEnc 15 99 w sA sn sl) (rS:∀x∈sl,StOk x) (yY:sn<=1000000):
 Calls prog 137 #[.agg #[.slice sA sn sc,.slice cA cn cc,.slice vA vn vc,.slice pA pn pc],.string k] w (fun e w'=>e=.returned (.bool (sl.any (stP k)))/\w.grownBy w' none):=by
 refine cS ⟨9,w,none, []⟩ func137 U ntmps137 U (gM (X:= [bW stEnc 15 99 w.heap.size none sA sn sl]) (cF hs.old cX) (cG bW.lasts cY)) (bR (fG U U U fun g1=>fG U U U fun g2=>bX U (bQ (bR (dY cU8 U U (eJ eL6 1 U U U (bB (pU U U) U (cH U eY8 U U (fun wx hm=>(dM9 sl sA sn sc _ k wx (hm.fact 0 U).1 rS yY (hm.blkI 0 U))) (bX U (bQ (bM ?_)))))))))))
 exact bJ U U fun wx hm=>⟨U,hm.g⟩
theorem bN2 (p0:Int) (p1 p2:ByteArray) (p3:Int) (p4:ByteArray) (e0:Int) (e1 e2:ByteArray) (e3:Int) (e4:ByteArray) (w:World):Calls prog 138 #[.agg #[.int .i64 p0,.string p1,.string p2,.int .i64 p3,.string p4],.agg #[.int .i64 e0,.string e1,.string e2,.int .i64 e3,.string e4]] w (mP w (jP (⟨p0,p1,p2,p3,p4⟩:Ev) (⟨e0,e1,e2,e3,e4⟩:Ev))):=by
 refine cS ⟨17,w,none, []⟩ func138 U ntmps138 U (gM (X:= []) cX cY) (bR (fG U U U fun g1=>fG U U U fun g2=>bX U (bQ (bH (gd (fun wz=>Blk wz g2 74 [.int .i64 e0,.string e1,.string e2,.int .i64 e3,.string e4]/\Blk wz g1 74 [.int .i64 p0,.string p1,.string p2,.int .i64 p3,.string p4]/\True) mixed (fun _ hm=>⟨hm.bl 0,hm.bl 1,trivial⟩) fun z=>wq 0 U (bS mD U U) (wq 1 U (cQ fP U (fun _ hm=>hm.2.1) U) (wq 2 U (bS mD U U) (wq 3 U (cQ fP U (fun _ hm=>hm.1) U) (wq 5 U (bS qZ U U) (wq 6 U (cQ fC U (fun _ hm=>hm.2.1) U) (wq 7 U (bS qZ U U) (wq 8 U (cQ fC U (fun _ hm=>hm.1) U) (eG 4 U (cH U dF3 U U (fun wx hm=>(bQ0 _ _ wx)) (bE (nw 13 511 (fun _ hm=>⟨hm.bl 0,hm.bl 1,trivial⟩) fun z=>eG 9 U (cH U cM5 U U (fun wx hm=>(pR _ _ wx)) (bE (nw 13 1023 (fun _ hm=>⟨hm.bl 0,hm.bl 1,trivial⟩) fun z=>eG 10 U (jE 3 [.int .i64 (nV p0 e0),.int .i64 (mR p1 e1)] fun g3=>bE (nw 13 2047 (fun _ hm=>⟨hm.bl 1,hm.bl 2,trivial⟩) fun z=>eG 11 U (cH U dE3 U U (fun wx hm=>(cA0 _ _ _ _ _ wx (hm.blkI 0 U))) ?_))))))))))))))))))))))
 refine bE (nw 13 4095 (fun _ hm=>⟨hm.bl 1,hm.bl 2,trivial⟩) fun z=>wq 12 U (cV U) (jO (bD (bM ?_))))
 exact bJ U U fun wx hm=>⟨bT (by unfold jP;rfl),hm.g⟩
theorem dG3 (sl:List St) (vl:List Vh) (sA cA vA pA:Option Addr) (sn sc cn cc vn vc pn pc:Nat) (el:List Ev) (eA:Option Addr) (en ec:Nat) (w:World) (hs:SlT stEnc 15 99 w sA sn sl) (hv:SlT gW 2 57 w vA vn vl) (rS:∀x∈sl,StOk x) (yY:sn<=1000000) (hvn:vn<=1000000) (hl:SlT dO 5 74 w eA en el) (wJ:∀x∈el,cE8 x) (hen:en<=1000000) (bK9:bE5 vl):
 Calls prog 81 #[.agg #[.slice sA sn sc,.slice cA cn cc,.slice vA vn vc,.slice pA pn pc],.slice eA en ec] w (mP w (uK sl vl el)):=by
 refine cS ⟨81,w,none, []⟩ func81 U ntmps81 U (gM (X:= [bW stEnc 15 99 w.heap.size none sA sn sl,bW gW 2 57 w.heap.size none vA vn vl,bW dO 5 74 w.heap.size none eA en el]) (cF hs.old (cF hv.old (cF hl.old cX))) (cG bW.lasts (cG bW.lasts (cG bW.lasts cY)))) (bR ?_)
 have hlen:=hl.len
 refine fG U U U fun g1=>bX U (bQ (bH (bR (bP U (bB (dT jW U) U (bB (eK U U) U (bQ ?_)))))))
 refine cC U (fun h1=>?_) (fun h1=>?_)
 ·refine bR (bX U (bQ ?_))
  refine bM (bA ?_)
  exact bJ U U fun wx hm=>⟨bT (by unfold uK;rw [if_pos (by omega)]),hm.g⟩
 refine bN (bD (bH (bR (bP U (bB (dT jW U) U (bP U (bQ (bO ?_))))))))
 refine dX (γ:=Nat) (fun (i:Nat)=>i<=en/\uK sl vl el=scanE (evE sl vl) (prevOf el i) (el.drop i)) (fun (i:Nat)=> [(1,.slice eA en ec),(2,.pointer (some ⟨g1,0,none⟩)),(11,.slice eA en ec),(12,.int .i64 ((en:Nat):Int)),(13,.int .i64 ((i:Nat):Int))]) (fun (i:Nat)=>fun _=>True) (fun (i:Nat)=> [(g1,31, [.slice sA sn sc,.slice cA cn cc,.slice vA vn vc,.slice pA pn pc])]) (fun (i:Nat)=> []) (fun (i:Nat)=> [bW stEnc 15 99 w.heap.size none sA sn sl,bW gW 2 57 w.heap.size none vA vn vl,bW dO 5 74 w.heap.size none eA en el]) (fun (i:Nat)=>en - i) 0 ⟨Nat.zero_le _,by unfold uK;rw [if_neg (by omega)];rfl⟩ ⟨U,U,U,U,U,trivial⟩ (fun _ hm=>hm.pick [0] [] [0,1,2] U U) ?_
 intro i cB
 replace cB:i<=en/\uK sl vl el=scanE (evE sl vl) (prevOf el i) (el.drop i):=cB
 refine bR ?_
 obtain ⟨hi0,hsc⟩:=cB
 refine bB (dE U U) U (bQ (bH ?_))
 refine cC U (fun hi=>?_) (fun hi=>?_)
 ·refine bN (bD (bH (bO (bR ?_))))
  obtain ⟨b,off,hA,_,_⟩:=hl.get (by omega)
  subst hA
  obtain ⟨x,hx⟩:∃x,el[i]?=some x:=⟨_,fW3 (by omega)⟩
  obtain ⟨e0,e1,e2,e3,e4⟩:=x
  have hat:=scanE_at (evE sl vl) el i _ hx
  obtain ⟨he0,he3,hz1,hz2,hz4⟩:=wJ _ (fX3 hx)
  have he0: -4000000000000000000<=e0/\e0<=4000000000000000000:=he0
  have hz1:e1.size<=1000000:=hz1
  refine bP U (bB (bV (j:=i) jW U U (by omega)) U (bB (dP (vs:= [.int .i64 e0,.string e1,.string e2,.int .i64 e3,.string e4]) fJ U (fun _ hm=>(hm.fact 2 U).1) hx U U) U (dL bX7 U fun g2=>bX U (kE (cs':= [.int .i64 e0,.string e1,.string e2,.int .i64 e3,.string e4]) 0 fJ U U U U (bQ (bR (dY bR2 U U (eJ fP 0 U U U (bB (eL U U) U (bX U (bQ (bO (bR (dY mD U U (eJ fP 0 U U U (cH U dF6 U U (fun wx hm=>((vE _ wx).mono fun _ _ ⟨he,hw⟩=>⟨he,hw ▸ World.grownBy.refl _ _⟩)) (bB (cE U) U (bX U (bQ ?_)))))))))))))))))))
  rcases Bool.eq_false_or_eq_true (!(inB e0 0 5761439)) with h2|h2
  ·refine gJ 21 U (fU3 h2) ?_
   have h2':(inB e0 0 5761439)=false:=by simpa only [Bool.not_eq_true',Bool.not_eq_false'] using h2
   refine kP U (bR (bX U (bQ (bM (bC (bC (bA (bA (bC (bA ?_))))))))))
   have hE:evE sl vl (prevOf el i) (⟨e0,e1,e2,e3,e4⟩:Ev)=1:=by rw [nX,h2'];rfl
   have hF:uK sl vl el=1:=by rw [hsc,hat,if_neg (by rw [hE];decide),hE]
   exact bJ U U fun wx hm=>⟨bT (by rw [hF]),hm.g⟩
  refine gJ 21 U (fU3 h2) ?_
  have h2':(inB e0 0 5761439)=true:=by simpa only [Bool.not_eq_true',Bool.not_eq_false'] using h2
  refine jQ U (bR (bB (cU bF6 U (fun _ hm=>hm.blkI 1 U) U U) U (dY qZ U U (eJ fC 0 U U U (cH U eM9 U U (fun wx hm=>(bJ2 vl sA cA vA pA sn sc cn cc vn vc pn pc e1 wx (hm.fact 1 U).1 (by omega) bK9)) (bB (dE U U) U (bP U ?_)))))))
  rcases Bool.eq_false_or_eq_true (decide (mI (vhP e1) vl 0 < 0)) with h3|h3
  ·refine bK 32 U (fU3 h3) ?_
   refine dZ U (dZ U (dZ U (dZ U (dZ U (mN U U (bX U (bQ (kP U (bR (bX U (bQ (bM (bC (bC (bA (bA (bC (bA ?_))))))))))))))))))
   have hE:evE sl vl (prevOf el i) (⟨e0,e1,e2,e3,e4⟩:Ev)=8:=by rw [nX,h2',h3];rfl
   have hF:uK sl vl el=8:=by rw [hsc,hat,if_neg (by rw [hE];decide),hE]
   exact bJ U U fun wx hm=>⟨bT (by rw [hF]),hm.g⟩
  refine bK 32 U (fU3 h3) (eE U (bB (cU bF6 U (fun _ hm=>hm.blkI 1 U) U U) U (eE U (dY rN U U (eE U (eJ fC 0 U U U (eE U (cH U dG6 U U (fun wx hm=>(vM sl sA cA vA pA sn sc cn cc vn vc pn pc e2 wx (hm.fact 0 U).1 rS (by omega))) (eE U (bB (cE U) U (nR U U (bX U (bQ ?_)))))))))))))
  rcases Bool.eq_false_or_eq_true (!(sl.any (stP e2))) with h4|h4
  ·refine gJ 26 U (fU3 h4) ?_
   have h4':(sl.any (stP e2))=false:=by simpa only [Bool.not_eq_true',Bool.not_eq_false'] using h4
   refine kP U (bR (bX U (bQ (bM (bC (bC (bA (bA (bC (bA ?_))))))))))
   have hE:evE sl vl (prevOf el i) (⟨e0,e1,e2,e3,e4⟩:Ev)=8:=by rw [nX,h2',h3,h4'];rfl
   have hF:uK sl vl el=8:=by rw [hsc,hat,if_neg (by rw [hE];decide),hE]
   exact bJ U U fun wx hm=>⟨bT (by rw [hF]),hm.g⟩
  refine gJ 26 U (fU3 h4) ?_
  have h4':(sl.any (stP e2))=true:=by simpa only [Bool.not_eq_true',Bool.not_eq_false'] using h4
  refine jQ U (bR (dY bR2 U U (eJ fP 0 U U U (cZ U qA U U (fun wx hm=>(in_any _ _ _ wx)) (bB (cE U) U (bX U (bQ ?_)))))))
  rcases Bool.eq_false_or_eq_true (!(inB e3 1 8)) with h5|h5
  ·refine gJ 39 U (fU3 h5) ?_
   have h5':(inB e3 1 8)=false:=by simpa only [Bool.not_eq_true',Bool.not_eq_false'] using h5
   refine kP U (bR (bX U (bQ (bM (bC (bC (bA (bA (bC (bA ?_))))))))))
   have hE:evE sl vl (prevOf el i) (⟨e0,e1,e2,e3,e4⟩:Ev)=4:=by rw [nX,h2',h3,h4',h5'];rfl
   have hF:uK sl vl el=4:=by rw [hsc,hat,if_neg (by rw [hE];decide),hE]
   exact bJ U U fun wx hm=>⟨bT (by rw [hF]),hm.g⟩
  refine gJ 39 U (fU3 h5) ?_
  have h5':(inB e3 1 8)=true:=by simpa only [Bool.not_eq_true',Bool.not_eq_false'] using h5
  refine jQ U (bR (dY rZ U U (eJ fC 0 U U U (bB (uG U U) U (bP U ?_)))))
  rcases Bool.eq_false_or_eq_true (!(e4.toList==(⟨#[]⟩:ByteArray).toList)) with h6|h6
  ·refine bK 48 U (fU3 h6) ?_
   have h6':(e4.toList==(⟨#[]⟩:ByteArray).toList)=false:=by simpa only [Bool.not_eq_true',Bool.not_eq_false'] using h6
   refine eE U (bP U (eE U (bB (cE U) U (mN U U (bX U (bQ ?_))))))
   rcases Bool.eq_false_or_eq_true (!(decide (e3=6))) with h7|h7
   ·refine gJ 44 U (fU3 h7) ?_
    have h7':(decide (e3=6))=false:=by simpa only [Bool.not_eq_true',Bool.not_eq_false'] using h7
    refine kP U (bR (bX U (bQ (bM (bC (bC (bA (bA (bC (bA ?_))))))))))
    have hE:evE sl vl (prevOf el i) (⟨e0,e1,e2,e3,e4⟩:Ev)=3:=by rw [nX,h2',h3,h4',h5',h6',h7'];rfl
    have hF:uK sl vl el=3:=by rw [hsc,hat,if_neg (by rw [hE];decide),hE]
    exact bJ U U fun wx hm=>⟨bT (by rw [hF]),hm.g⟩
   refine gJ 44 U (fU3 h7) ?_
   have h7':(decide (e3=6))=true:=by simpa only [Bool.not_eq_true',Bool.not_eq_false'] using h7
   refine jQ U (bR (bP U (bP U (bK 54 U (fU3 (show (decide (e3=6))=true from h7')) (eE U (bB (cU bF6 U (fun _ hm=>hm.blkI 1 U) U U) U (eE U (dY rZ U U (eE U (eJ fC 0 U U U (eE U (cH U dG6 U U (fun wx hm=>(vM sl sA cA vA pA sn sc cn cc vn vc pn pc e4 wx (hm.fact 0 U).1 rS (by omega))) (eE U (bB (cE U) U (mN U U (bX U (bQ ?_)))))))))))))))))
   rcases Bool.eq_false_or_eq_true (!(sl.any (stP e4))) with h8|h8
   ·refine gJ 52 U (fU3 h8) ?_
    have h8':(sl.any (stP e4))=false:=by simpa only [Bool.not_eq_true',Bool.not_eq_false'] using h8
    refine kP U (bR (bX U (bQ (bM (bC (bC (bA (bA (bC (bA ?_))))))))))
    have hE:evE sl vl (prevOf el i) (⟨e0,e1,e2,e3,e4⟩:Ev)=8:=by rw [nX,h2',h3,h4',h5',h6',h7',h8'];rfl
    have hF:uK sl vl el=8:=by rw [hsc,hat,if_neg (by rw [hE];decide),hE]
    exact bJ U U fun wx hm=>⟨bT (by rw [hF]),hm.g⟩
   refine gJ 52 U (fU3 h8) ?_
   have h8':(sl.any (stP e4))=true:=by simpa only [Bool.not_eq_true',Bool.not_eq_false'] using h8
   refine jQ U (bR (dY rZ U U (eJ fC 0 U U U (dY rN U U (eJ fC 0 U U U (bB (eS U U) U (bX U (bQ ?_))))))))
   rcases Bool.eq_false_or_eq_true (e4.toList==e2.toList) with h9|h9
   ·refine gJ 61 U (fU3 h9) ?_
    refine kP U (bR (bX U (bQ (bM (bC (bC (bA (bA (bC (bA ?_))))))))))
    have hE:evE sl vl (prevOf el i) (⟨e0,e1,e2,e3,e4⟩:Ev)=14:=by rw [nX,h2',h3,h4',h5',h6',h7',h8',h9];rfl
    have hF:uK sl vl el=14:=by rw [hsc,hat,if_neg (by rw [hE];decide),hE]
    exact bJ U U fun wx hm=>⟨bT (by rw [hF]),hm.g⟩
   refine gJ 61 U (fU3 h9) (jQ U (bH (gd (fun wz=>Blk wz g2 74 [.int .i64 e0,.string e1,.string e2,.int .i64 e3,.string e4]/\(bW dO 5 74 w.heap.size none (some ⟨b,off,none⟩) en el) wz/\True) mixed (fun _ hm=>⟨hm.bl 0,hm.fa 2,trivial⟩) fun z=>wq 0 U (bL U) (wq 1 U (eK U U) (wq 2 U (bL U) ?_)))))
   by_cases h0:i=0
   ·refine dH 70 U (fU3 (decide_eq_false (by omega))) ?_
    refine dH 69 U (fU3 (decide_eq_false (by omega))) ?_
    have hO:evO (prevOf el i) (⟨e0,e1,e2,e3,e4⟩:Ev)=false:=by rw [mH h0];rfl
    refine fD 3 U (fD 4 U (fD 5 U (fD 6 U (fD 7 U (fD 8 U (fD 9 U (fD 10 U (wq 11 U (fO U U) (wq 12 U (cV U) (jO (bD (jQ U (bN (bG (bG (bD (bI (gO U U (bP U (bE ?_))))))))))))))))))))
    have hE:evE sl vl (prevOf el i) (⟨e0,e1,e2,e3,e4⟩:Ev)=0:=by rw [nX,h2',h3,h4',h5',h6',h7',h8',h9,hO];rfl
    exact cN (i+1) ⟨by omega,by rw [hsc,hat,if_pos hE]⟩ (by omega) ⟨U,U,U,U,(cR (by omega)),trivial⟩ (fun _ hm=>hm.pick [1] [] [0,1,2] U U)
   refine dH 70 U (fU3 (decide_eq_true (by omega))) (dH 69 U (fU3 (decide_eq_true (by omega))) ?_)
   obtain ⟨yy,hy⟩:∃x,el[i - 1]?=some x:=⟨_,fW3 (by omega)⟩
   obtain ⟨p0,p1,p2,p3,p4⟩:=yy
   obtain ⟨hp0,_,_,_,_⟩:=wJ _ (fX3 hy)
   have hp0: -4000000000000000000<=p0/\p0<=4000000000000000000:=hp0
   have hpo:=jT h0 hy
   refine fI 3 U (bL U) (fI 4 U (bL U) (fI 5 U (ov_sub U U (by omega) (by omega)) (dH 73 (v':= .int .i64 (((i - 1):Nat):Int)) U (fV3 (by omega)) (fI 6 U (bV (j:=(i - 1)) jW U U (by omega)) (fI 7 U (dP (vs:= [.int .i64 p0,.string p1,.string p2,.int .i64 p3,.string p4]) fJ U (fun _ hm=>(hm.2.1).1) hy U U) (fI 8 U (cU fJ U (fun _ hm=>hm.1) U U) (eG 9 U (eE U (cH (v:= .int .i64 (jP (⟨p0,p1,p2,p3,p4⟩:Ev) (⟨e0,e1,e2,e3,e4⟩:Ev))) U dH6 U U (fun wx hm=>(bN2 p0 p1 p2 p3 p4 e0 e1 e2 e3 e4 wx)) (bE (nw 13 1023 (fun _ hm=>⟨hm.bl 0,hm.fa 2,trivial⟩) fun z=>fI 10 U (mG U U) (wq 11 U (fE U U) (wq 12 U (cV U) (jO (bD ?_)))))))))))))))
   rcases Bool.eq_false_or_eq_true (decide (0<=jP (⟨p0,p1,p2,p3,p4⟩:Ev) (⟨e0,e1,e2,e3,e4⟩:Ev))) with h10|h10
   ·refine gJ 67 U (fU3 h10) ?_
    have hO:evO (prevOf el i) (⟨e0,e1,e2,e3,e4⟩:Ev)=true:=by rw [hpo];exact h10
    refine kP U (bR (bX U (bQ (bM (bC (bC (bA (bA (bC (bA ?_))))))))))
    have hE:evE sl vl (prevOf el i) (⟨e0,e1,e2,e3,e4⟩:Ev)=7:=by rw [nX,h2',h3,h4',h5',h6',h7',h8',h9,hO];rfl
    have hF:uK sl vl el=7:=by rw [hsc,hat,if_neg (by rw [hE];decide),hE]
    exact bJ U U fun wx hm=>⟨bT (by rw [hF]),hm.g⟩
   refine gJ 67 U (fU3 h10) ?_
   have hO:evO (prevOf el i) (⟨e0,e1,e2,e3,e4⟩:Ev)=false:=by rw [hpo];exact h10
   refine jQ U (bN (bG (bG (bD (bI (gO U U (bP U (bE ?_))))))))
   have hE:evE sl vl (prevOf el i) (⟨e0,e1,e2,e3,e4⟩:Ev)=0:=by rw [nX,h2',h3,h4',h5',h6',h7',h8',h9,hO];rfl
   exact cN (i+1) ⟨by omega,by rw [hsc,hat,if_pos hE]⟩ (by omega) ⟨U,U,U,U,(cR (by omega)),trivial⟩ (fun _ hm=>hm.pick [1] [] [0,1,2] U U)
  refine bK 48 U (fU3 h6) ?_
  have h6':(e4.toList==(⟨#[]⟩:ByteArray).toList)=true:=by simpa only [Bool.not_eq_true',Bool.not_eq_false'] using h6
  refine dZ U (dZ U (nR U U (bX U (bQ (jQ U (bR (bP U (bP U ?_))))))))
  rcases Bool.eq_false_or_eq_true (decide (e3=6)) with h7|h7
  ·refine bK 54 U (fU3 h7) ?_
   refine eE U (bB (cU bF6 U (fun _ hm=>hm.blkI 1 U) U U) U (eE U (dY rZ U U (eE U (eJ fC 0 U U U (eE U (cH U dG6 U U (fun wx hm=>(vM sl sA cA vA pA sn sc cn cc vn vc pn pc e4 wx (hm.fact 0 U).1 rS (by omega))) (eE U (bB (cE U) U (mN U U (bX U (bQ ?_))))))))))))
   rcases Bool.eq_false_or_eq_true (!(sl.any (stP e4))) with h8|h8
   ·refine gJ 52 U (fU3 h8) ?_
    have h8':(sl.any (stP e4))=false:=by simpa only [Bool.not_eq_true',Bool.not_eq_false'] using h8
    refine kP U (bR (bX U (bQ (bM (bC (bC (bA (bA (bC (bA ?_))))))))))
    have hE:evE sl vl (prevOf el i) (⟨e0,e1,e2,e3,e4⟩:Ev)=8:=by rw [nX,h2',h3,h4',h5',h6',h7,h8'];rfl
    have hF:uK sl vl el=8:=by rw [hsc,hat,if_neg (by rw [hE];decide),hE]
    exact bJ U U fun wx hm=>⟨bT (by rw [hF]),hm.g⟩
   refine gJ 52 U (fU3 h8) ?_
   have h8':(sl.any (stP e4))=true:=by simpa only [Bool.not_eq_true',Bool.not_eq_false'] using h8
   refine jQ U (bR (dY rZ U U (eJ fC 0 U U U (dY rN U U (eJ fC 0 U U U (bB (eS U U) U (bX U (bQ ?_))))))))
   rcases Bool.eq_false_or_eq_true (e4.toList==e2.toList) with h9|h9
   ·refine gJ 61 U (fU3 h9) ?_
    refine kP U (bR (bX U (bQ (bM (bC (bC (bA (bA (bC (bA ?_))))))))))
    have hE:evE sl vl (prevOf el i) (⟨e0,e1,e2,e3,e4⟩:Ev)=14:=by rw [nX,h2',h3,h4',h5',h6',h7,h8',h9];rfl
    have hF:uK sl vl el=14:=by rw [hsc,hat,if_neg (by rw [hE];decide),hE]
    exact bJ U U fun wx hm=>⟨bT (by rw [hF]),hm.g⟩
   refine gJ 61 U (fU3 h9) (jQ U (bH (gd (fun wz=>Blk wz g2 74 [.int .i64 e0,.string e1,.string e2,.int .i64 e3,.string e4]/\(bW dO 5 74 w.heap.size none (some ⟨b,off,none⟩) en el) wz/\True) mixed (fun _ hm=>⟨hm.bl 0,hm.fa 2,trivial⟩) fun z=>wq 0 U (bL U) (wq 1 U (eK U U) (wq 2 U (bL U) ?_)))))
   by_cases h0:i=0
   ·refine dH 70 U (fU3 (decide_eq_false (by omega))) ?_
    refine dH 69 U (fU3 (decide_eq_false (by omega))) ?_
    have hO:evO (prevOf el i) (⟨e0,e1,e2,e3,e4⟩:Ev)=false:=by rw [mH h0];rfl
    refine fD 3 U (fD 4 U (fD 5 U (fD 6 U (fD 7 U (fD 8 U (fD 9 U (fD 10 U (wq 11 U (fO U U) (wq 12 U (cV U) (jO (bD (jQ U (bN (bG (bG (bD (bI (gO U U (bP U (bE ?_))))))))))))))))))))
    have hE:evE sl vl (prevOf el i) (⟨e0,e1,e2,e3,e4⟩:Ev)=0:=by rw [nX,h2',h3,h4',h5',h6',h7,h8',h9,hO];rfl
    exact cN (i+1) ⟨by omega,by rw [hsc,hat,if_pos hE]⟩ (by omega) ⟨U,U,U,U,(cR (by omega)),trivial⟩ (fun _ hm=>hm.pick [1] [] [0,1,2] U U)
   refine dH 70 U (fU3 (decide_eq_true (by omega))) (dH 69 U (fU3 (decide_eq_true (by omega))) ?_)
   obtain ⟨yy,hy⟩:∃x,el[i - 1]?=some x:=⟨_,fW3 (by omega)⟩
   obtain ⟨p0,p1,p2,p3,p4⟩:=yy
   obtain ⟨hp0,_,_,_,_⟩:=wJ _ (fX3 hy)
   have hp0: -4000000000000000000<=p0/\p0<=4000000000000000000:=hp0
   have hpo:=jT h0 hy
   refine fI 3 U (bL U) (fI 4 U (bL U) (fI 5 U (ov_sub U U (by omega) (by omega)) (dH 73 (v':= .int .i64 (((i - 1):Nat):Int)) U (fV3 (by omega)) (fI 6 U (bV (j:=(i - 1)) jW U U (by omega)) (fI 7 U (dP (vs:= [.int .i64 p0,.string p1,.string p2,.int .i64 p3,.string p4]) fJ U (fun _ hm=>(hm.2.1).1) hy U U) (fI 8 U (cU fJ U (fun _ hm=>hm.1) U U) (eG 9 U (eE U (cH (v:= .int .i64 (jP (⟨p0,p1,p2,p3,p4⟩:Ev) (⟨e0,e1,e2,e3,e4⟩:Ev))) U dH6 U U (fun wx hm=>(bN2 p0 p1 p2 p3 p4 e0 e1 e2 e3 e4 wx)) (bE (nw 13 1023 (fun _ hm=>⟨hm.bl 0,hm.fa 2,trivial⟩) fun z=>fI 10 U (mG U U) (wq 11 U (fE U U) (wq 12 U (cV U) (jO (bD ?_)))))))))))))))
   rcases Bool.eq_false_or_eq_true (decide (0<=jP (⟨p0,p1,p2,p3,p4⟩:Ev) (⟨e0,e1,e2,e3,e4⟩:Ev))) with h10|h10
   ·refine gJ 67 U (fU3 h10) ?_
    have hO:evO (prevOf el i) (⟨e0,e1,e2,e3,e4⟩:Ev)=true:=by rw [hpo];exact h10
    refine kP U (bR (bX U (bQ (bM (bC (bC (bA (bA (bC (bA ?_))))))))))
    have hE:evE sl vl (prevOf el i) (⟨e0,e1,e2,e3,e4⟩:Ev)=7:=by rw [nX,h2',h3,h4',h5',h6',h7,h8',h9,hO];rfl
    have hF:uK sl vl el=7:=by rw [hsc,hat,if_neg (by rw [hE];decide),hE]
    exact bJ U U fun wx hm=>⟨bT (by rw [hF]),hm.g⟩
   refine gJ 67 U (fU3 h10) ?_
   have hO:evO (prevOf el i) (⟨e0,e1,e2,e3,e4⟩:Ev)=false:=by rw [hpo];exact h10
   refine jQ U (bN (bG (bG (bD (bI (gO U U (bP U (bE ?_))))))))
   have hE:evE sl vl (prevOf el i) (⟨e0,e1,e2,e3,e4⟩:Ev)=0:=by rw [nX,h2',h3,h4',h5',h6',h7,h8',h9,hO];rfl
   exact cN (i+1) ⟨by omega,by rw [hsc,hat,if_pos hE]⟩ (by omega) ⟨U,U,U,U,(cR (by omega)),trivial⟩ (fun _ hm=>hm.pick [1] [] [0,1,2] U U)
  refine bK 54 U (fU3 h7) (dZ U (dZ U (dZ U (dZ U (dZ U (nR U U (bX U (bQ (jQ U (bR (dY rZ U U (eJ fC 0 U U U (dY rN U U (eJ fC 0 U U U (bB (eS U U) U (bX U (bE (bD ?_))))))))))))))))))
  rcases Bool.eq_false_or_eq_true (e4.toList==e2.toList) with h8|h8
  ·refine gJ 61 U (fU3 h8) ?_
   refine kP U (bR (bX U (bQ (bM (bC (bC (bA (bA (bC (bA ?_))))))))))
   have hE:evE sl vl (prevOf el i) (⟨e0,e1,e2,e3,e4⟩:Ev)=14:=by rw [nX,h2',h3,h4',h5',h6',h7,h8];rfl
   have hF:uK sl vl el=14:=by rw [hsc,hat,if_neg (by rw [hE];decide),hE]
   exact bJ U U fun wx hm=>⟨bT (by rw [hF]),hm.g⟩
  refine gJ 61 U (fU3 h8) (jQ U (bH (gd (fun wz=>Blk wz g2 74 [.int .i64 e0,.string e1,.string e2,.int .i64 e3,.string e4]/\(bW dO 5 74 w.heap.size none (some ⟨b,off,none⟩) en el) wz/\True) mixed (fun _ hm=>⟨hm.bl 0,hm.fa 2,trivial⟩) fun z=>wq 0 U (bL U) (wq 1 U (eK U U) (wq 2 U (bL U) ?_)))))
  by_cases h0:i=0
  ·refine dH 70 U (fU3 (decide_eq_false (by omega))) ?_
   refine dH 69 U (fU3 (decide_eq_false (by omega))) ?_
   have hO:evO (prevOf el i) (⟨e0,e1,e2,e3,e4⟩:Ev)=false:=by rw [mH h0];rfl
   refine fD 3 U (fD 4 U (fD 5 U (fD 6 U (fD 7 U (fD 8 U (fD 9 U (fD 10 U (wq 11 U (fO U U) (wq 12 U (cV U) (jO (bD (jQ U (bN (bG (bG (bD (bI (gO U U (bP U (bE ?_))))))))))))))))))))
   have hE:evE sl vl (prevOf el i) (⟨e0,e1,e2,e3,e4⟩:Ev)=0:=by rw [nX,h2',h3,h4',h5',h6',h7,h8,hO];rfl
   exact cN (i+1) ⟨by omega,by rw [hsc,hat,if_pos hE]⟩ (by omega) ⟨U,U,U,U,(cR (by omega)),trivial⟩ (fun _ hm=>hm.pick [1] [] [0,1,2] U U)
  refine dH 70 U (fU3 (decide_eq_true (by omega))) (dH 69 U (fU3 (decide_eq_true (by omega))) ?_)
  obtain ⟨yy,hy⟩:∃x,el[i - 1]?=some x:=⟨_,fW3 (by omega)⟩
  obtain ⟨p0,p1,p2,p3,p4⟩:=yy
  obtain ⟨hp0,_,_,_,_⟩:=wJ _ (fX3 hy)
  have hp0: -4000000000000000000<=p0/\p0<=4000000000000000000:=hp0
  have hpo:=jT h0 hy
  refine fI 3 U (bL U) (fI 4 U (bL U) (fI 5 U (ov_sub U U (by omega) (by omega)) (dH 73 (v':= .int .i64 (((i - 1):Nat):Int)) U (fV3 (by omega)) (fI 6 U (bV (j:=(i - 1)) jW U U (by omega)) (fI 7 U (dP (vs:= [.int .i64 p0,.string p1,.string p2,.int .i64 p3,.string p4]) fJ U (fun _ hm=>(hm.2.1).1) hy U U) (fI 8 U (cU fJ U (fun _ hm=>hm.1) U U) (eG 9 U (eE U (cH (v:= .int .i64 (jP (⟨p0,p1,p2,p3,p4⟩:Ev) (⟨e0,e1,e2,e3,e4⟩:Ev))) U dH6 U U (fun wx hm=>(bN2 p0 p1 p2 p3 p4 e0 e1 e2 e3 e4 wx)) (bE (nw 13 1023 (fun _ hm=>⟨hm.bl 0,hm.fa 2,trivial⟩) fun z=>fI 10 U (mG U U) (wq 11 U (fE U U) (wq 12 U (cV U) (jO (bD ?_)))))))))))))))
  rcases Bool.eq_false_or_eq_true (decide (0<=jP (⟨p0,p1,p2,p3,p4⟩:Ev) (⟨e0,e1,e2,e3,e4⟩:Ev))) with h9|h9
  ·refine gJ 67 U (fU3 h9) ?_
   have hO:evO (prevOf el i) (⟨e0,e1,e2,e3,e4⟩:Ev)=true:=by rw [hpo];exact h9
   refine kP U (bR (bX U (bQ (bM (bC (bC (bA (bA (bC (bA ?_))))))))))
   have hE:evE sl vl (prevOf el i) (⟨e0,e1,e2,e3,e4⟩:Ev)=7:=by rw [nX,h2',h3,h4',h5',h6',h7,h8,hO];rfl
   have hF:uK sl vl el=7:=by rw [hsc,hat,if_neg (by rw [hE];decide),hE]
   exact bJ U U fun wx hm=>⟨bT (by rw [hF]),hm.g⟩
  refine gJ 67 U (fU3 h9) ?_
  have hO:evO (prevOf el i) (⟨e0,e1,e2,e3,e4⟩:Ev)=false:=by rw [hpo];exact h9
  refine jQ U (bN (bG (bG (bD (bI (gO U U (bP U (bE ?_))))))))
  have hE:evE sl vl (prevOf el i) (⟨e0,e1,e2,e3,e4⟩:Ev)=0:=by rw [nX,h2',h3,h4',h5',h6',h7,h8,hO];rfl
  exact cN (i+1) ⟨by omega,by rw [hsc,hat,if_pos hE]⟩ (by omega) ⟨U,U,U,U,(cR (by omega)),trivial⟩ (fun _ hm=>hm.pick [1] [] [0,1,2] U U)
 refine dD (bF (bF (bY (bD (bR (bX U (bQ (bM ?_))))))))
 exact bJ U U fun wx hm=>⟨bT (by rw [hsc,scanE_end _ _ _ _ (by omega)]),hm.g⟩
section
variable {α:Type}
def uB (lt:α->α->Bool):Nat->List α->List α
 |0,l=>l
 |j+1,l=>match l[j+1]?,l[j]? with
  |some x,some y=>if lt x y then uB lt j ((l.set (j+1) y).set j x) else l
  |_,_=>l
def pS (lt:α->α->Bool):Nat->Nat->List α->List α
 |0,_,l=>l
 |f+1,i,l=>pS lt f (i+1) (uB lt i l)
def dS (lt:α->α->Bool) (l:List α):List α:=pS lt (l.length - 1) 1 l
theorem bN4 {lt:α->α->Bool} {j:Nat} {l:List α} {x y:α} (hx:l[j+1]?=some x) (hy:l[j]?=some y) (h:lt x y=true):uB lt (j+1) l=uB lt j ((l.set (j+1) y).set j x):=by
 simp only [uB,hx,hy,h,if_true]
theorem bG8 {lt:α->α->Bool} {j:Nat} {l:List α} {x y:α} (hx:l[j+1]?=some x) (hy:l[j]?=some y) (h:lt x y=false):uB lt (j+1) l=l:=by
 simp only [uB,hx,hy,h,Bool.false_eq_true,if_false]
theorem xI (lt:α->α->Bool):∀(j:Nat) (l:List α),(uB lt j l).length=l.length
 |0,_=>rfl
 |j+1,l=>by
  unfold uB
  split
  ·split
   ·rw [xI lt j];simp
   ·rfl
  ·rfl
theorem bM9 (lt:α->α->Bool):∀(f i:Nat) (l:List α),(pS lt f i l).length=l.length
 |0,_,_=>rfl
 |f+1,i,l=>by
  unfold pS
  rw [bM9 lt f,xI]
theorem pH (lt:α->α->Bool) (l:List α):(dS lt l).length=l.length:=bM9 lt _ _ _
theorem dI5 {l:List α} {j:Nat} {x y:α} (hx:l[j+1]?=some x) (hy:l[j]?=some y):((l.set (j+1) y).set j x).Perm l:=by
 obtain ⟨h1,rfl⟩:=List.getElem?_eq_some_iff.1 hx
 obtain ⟨h2,rfl⟩:=List.getElem?_eq_some_iff.1 hy
 have e:l=l.take j++l[j]::l[j+1]::l.drop (j+2):=by
  conv=>lhs;rw [<-List.take_append_drop j l,List.drop_eq_getElem_cons h2,List.drop_eq_getElem_cons h1]
 have hl:(l.take j).length=j:=by simp;omega
 have e2:(l.set (j+1) l[j]).set j l[j+1]=l.take j++l[j+1]::l[j]::l.drop (j+2):=by
  refine List.ext_getElem? fun k=>?_
  rw [List.getElem?_set,List.length_set,List.getElem?_set]
  rcases Nat.lt_trichotomy k j with hk|rfl|hk
  ·rw [if_neg (by omega),if_neg (by omega),List.getElem?_append_left (by rw [hl];exact hk),List.getElem?_take,if_pos hk]
  ·rw [if_pos rfl,if_pos h2,List.getElem?_append_right (by omega),hl,Nat.sub_self];rfl
  ·rw [if_neg (by omega),List.getElem?_append_right (by omega),hl]
   rcases Nat.lt_trichotomy k (j+1) with h3|rfl|h3
   ·omega
   ·rw [if_pos rfl,if_pos h1,show j+1 - j=1 by omega];rfl
   ·rw [if_neg (by omega),show k - j=(k - (j+2))+2 by omega]
    simp only [List.getElem?_cons_succ,List.getElem?_drop]
    congr 1;omega
 rw [e2]
 conv=>rhs;rw [e]
 exact List.Perm.append_left _ (List.Perm.swap _ _ _)
theorem bG6 (lt:α->α->Bool):∀(j:Nat) (l:List α),(uB lt j l).Perm l
 |0,_=>List.Perm.refl _
 |j+1,l=>by
  unfold uB
  split
  ·rename_i x y hx hy
   split
   ·exact (bG6 lt j _).trans (dI5 hx hy)
   ·exact List.Perm.refl _
  ·exact List.Perm.refl _
theorem bD0 (lt:α->α->Bool):∀(f i:Nat) (l:List α),(pS lt f i l).Perm l
 |0,_,_=>List.Perm.refl _
 |f+1,i,l=>(bD0 lt f (i+1) _).trans (bG6 lt i l)
theorem mL (lt:α->α->Bool) (l:List α):(dS lt l).Perm l:=bD0 lt _ _ _
theorem eV5 {lt:α->α->Bool} {l0 R S m:List α} {f i j:Nat} (hR:R=dS lt l0) (hF:pS lt f i S=R) (hS:uB lt j m=S) {z:α} (hz:z∈m):z∈l0:=by
 have h1:z∈S:=by rw [<-hS];exact (bG6 lt j m).mem_iff.2 hz
 have h2:z∈R:=by rw [<-hF];exact (bD0 lt f i S).mem_iff.2 h1
 rw [hR] at h2
 exact (mL lt l0).mem_iff.1 h2
theorem xD {lt:α->α->Bool} {l:List α} {x:α}:x∈dS lt l↔x∈l:=(mL lt l).mem_iff
end
section
variable {P:Program} {c:Cx} {eZ:Array Oper} {Q:Exit->Act->World->Prop} {rest:List Oper} {S:List (Nat×Value)} {K:World->Prop} {L:List (Nat×TypeId×List Value)} {O:List Own} {X:List (World->Prop)} {d:Nat} {ty:TypeId} {pos:String} {aft:Array Edge}
theorem bV2 {n0:Nat} {Tt:List TypeId} {w:World} {base:Nat} {e:TypeId} {sz n eW g:Nat} {xs:List Value} (hS:w.ownsRow base e sz (.slice (some ⟨g,0,none⟩) n eW) n xs) (hX:∀A∈X,A w) (hl:∀A∈X,Lasts2 w.heap.size (some g) Tt A):gV ⟨n0,w,some g,Tt⟩ (gQ base e sz n eW g xs) [] [] X w:=
 have hS2:gQ base e sz n eW g xs w:=hS
 ⟨World.grownBy.refl _ _,hS2,(fun _ hx=>by cases hx),List.Pairwise.nil,(fun _ hx=>by cases hx),(fun _ hx=>by cases hx),List.Pairwise.nil,hX,gQ.keeps hS2.lt.2,hl,(fun _ hr=>by cases hr;exact hS2.lt.2)⟩
theorem gV.turned {base g n eW sz:Nat} {e:TypeId} {xs xs':List Value} {w w':World} (h:gV c (gQ base e sz n eW g xs) L O X w) (uR:c.row=some g) (hT:c.Tt.contains e=false) (hown:w'.ownsRow base e sz (.slice (some ⟨g,0,none⟩) n eW) n xs') (hg:w.grownBy w' (some g)):gV c (gQ base e sz n eW g xs') L O X w':=by
 have hlt0:=h.rs g uR
 have hk:w.ownsRow base e sz (.slice (some ⟨g,0,none⟩) n eW) n xs:=h.k
 obtain ⟨cells,hcells⟩:∃cells,w.heap[g]?=some (.cells cells e (0,0)):=by
  rcases hk.2 with ⟨h1,_⟩|⟨g',cap',wZ,h1,_,h2,_⟩
  ·cases h1
  ·injection h1 with h1 _ _
   injection h1 with h1
   injection h1 with h1 _ _
   subst h1
   exact ⟨_,h2⟩
 refine ⟨grow_trans h.g (uR ▸ hg),hown,fun x hx=>⟨(h.b x hx).1,(h.b x hx).2.grown hg (fun e=>?_)⟩,h.nd,fun r hr=>(h.o r hr).kept hg ?_,h.od,h.oo,fun A hA=>?_,gQ.keeps hlt0,h.l,h.rs⟩
 ·have:=(h.b x hx).1;injection e with e;omega
 ·cases hv:r.v.ownBlock with
  |none=>exact .inl rfl
  |some g'=>exact .inr (fun e=>by have:=((h.o r hr).lt g' hv).1;injection e with e;omega)
 ·exact (h.l A hA).st w _ g e cells hcells (fun e=>by simp [e] at hT) (.inr uR) hg (h.x A hA)
theorem eV {α:Type} {enc:α->List Value} {t:TypeId} {x y:Operand} {base g n eW sz o j r m:Nat} {e:TypeId} {vs:List Value} {l:List α} {el el':α} (uR:c.row=some g) (hs:kX P t=some m) (hx:rd S x=some (.pointer (some ⟨g,o,none⟩))) (hy:rd S y=some (.agg vs.toArray)) (h1:vs.all (·.oneCell')=true) (hn:vs.length=m)
 (hk:∀x,(enc x).length=sz) (ho:0+j *sz+r=o) (hj:l[j]?=some el) (hl:l.length=n) (hr:r+m<=sz) (he:kD (enc el) r vs=enc el') (hT:c.Tt.contains e=false)
 (h:WL P c eZ Q rest S (gQ base e sz n eW g ((l.set j el').flatMap enc)) L O X):WL P c eZ Q (⟨none,.store t x y,ty,pos,aft,none⟩::rest) S (gQ base e sz n eW g (l.flatMap enc)) L O X:=by
 intro a w ha hm
 have hown:w.ownsRow base e sz (.slice (some ⟨g,0,none⟩) n eW) n (l.flatMap enc):=hm.k
 have hjl:=(List.getElem?_eq_some_iff.1 hj).1
 have hlt:o+m<=n *sz:=by
  have:(j+1) *sz<=n *sz:=Nat.mul_le_mul_right sz (by omega)
  rw [Nat.add_mul] at this
  omega
 obtain ⟨dd,hu,_,hi⟩:=yO hs
 rcases hown.2 with ⟨h',_⟩|⟨g',cap',wZ,h',hb,hg,hnc,hcm,hcs,htake⟩
 ·simp at h'
 ·simp only [Value.slice.injEq,Option.some.injEq,Addr.mk.injEq,and_true,true_and] at h'
  obtain ⟨rfl,rfl⟩:=h'
  have hbk:Blk w g e wZ.toList:=by unfold Blk;rw [Array.toArray_toList];exact hg
  have hcl:n *sz<=wZ.toList.length:=by
   have:=Nat.mul_le_mul_right sz hnc
   simp [hcs];exact this
  refine wpList_store_blk U t x y U g o e wZ.toList vs hbk (ha.eval hx) (ha.eval hy) m hi hn (by omega) (by simpa using h1) fun w' hb' hgr=>?_
  have hsl:=wO wZ.toList o vs (by omega)
  have hfl:=bR3 enc sz hk (l.set j el')
  rw [List.length_set,hl] at hfl
  refine h _ _ ⟨ha.size,ha.val,ha.df⟩ (hm.turned uR hT ⟨hfl,.inr ⟨g,eW,(kD wZ.toList o vs).toArray,U,hb,hb',hnc,hcm,by simpa [hsl] using hcs,?_⟩⟩ hgr)
  rw [List.toList_toArray,zA hcl (by omega),htake,<-ho,Nat.zero_add,uS enc sz hk hj he (by omega)]
theorem mA {f:FuncId} {x:Operand} {ags:List Operand} {ats:Array TypeId} {vs fs cs:List Value} {v:Value} {base g n eW sz:Nat} {e:TypeId} {xs xs':List Value} (uR:c.row=some g) (hT:c.Tt.contains e=false) (hx:rd S x=some (.func (.func f) fs.toArray cs.toArray)) (hf:bZ P f=true) (ha:qI S ags=some vs) (hd:Nat.ble (d+1) c.n=true)
 (hC:∀w,gV c (gQ base e sz n eW g xs) L O X w->Calls P f (fs++vs++cs).toArray w (fun e1 w'=>e1= .returned v/\w'.ownsRow base e sz (.slice (some ⟨g,0,none⟩) n eW) n xs'/\w.grownBy w' (some g))) (h:WL P c eZ Q rest ((d,v)::S) (gQ base e sz n eW g xs') L O X):
 WL P c eZ Q (⟨some d,.call ⟨.value x,ags.toArray,ats⟩,ty,pos,aft,none⟩::rest) S (gQ base e sz n eW g xs) L O X:=
 gD (γ:=Unit) (val:=fun _=>v) (φ:=fun _=>True) (K':=fun _=>gQ base e sz n eW g xs') (L':=fun _=>L) (O':=fun _=>O) (X':=fun _=>X) hx hf ha hd (fun w hm=>(hC w hm).mono fun _ _ ⟨he,ho,hg⟩=>⟨(),he,trivial,hm.turned uR hT ho hg⟩) (fun _ _=>h)
end
theorem mB {base:Nat} {e:TypeId} {sz n eW g:Nat} {xs:List Value} {w0 w:World} (hk:gQ base e sz n eW g xs w) (hg:w0.grownBy w (some g)):w.ownsRow base e sz (.slice (some ⟨g,0,none⟩) n eW) n xs/\w0.grownBy w (some g):=⟨hk,hg⟩
theorem bE9 {sl:List St} {cl:List Cs} {vl:List Vh} {pl:List Pl} (h:mJ sl cl vl pl=0):bE5 vl:=by
 unfold mJ at h
 exact (dM5 (qY h (bH7 cl vl) (by simp))).2
theorem dE7 {a:Int} {r:List Int} (h:a≠0):dG (a::r)=a:=by simp [dG,h]
theorem fD0 {r:List Int}:dG (0::r)=dG r:=by simp [dG]
def cN3 (sl:List St) (cl:List Cs) (vl:List Vh) (pl:List Pl) (el:List Ev):Int:=dG [mJ sl cl vl pl,uK sl vl el]
theorem eE1 {sl:List St} {cl:List Cs} {vl:List Vh} {pl:List Pl} {el:List Ev} (h:mJ sl cl vl pl≠0):cN3 sl cl vl pl el=mJ sl cl vl pl:=dE7 h
theorem eF1 {sl:List St} {cl:List Cs} {vl:List Vh} {pl:List Pl} {el:List Ev} (h:mJ sl cl vl pl=0):cN3 sl cl vl pl el=uK sl vl el:=by
 unfold cN3;rw [h,fD0]
 by_cases h2:uK sl vl el=0
 ·rw [h2];rfl
 ·exact dE7 h2
theorem eJ5 {sl:List St} {cl:List Cs} {vl:List Vh} {pl:List Pl} {el:List Ev} (h:cN3 sl cl vl pl el=0):mJ sl cl vl pl=0/\uK sl vl el=0:=⟨qY h _ (by simp),qY h _ (by simp)⟩
theorem cN8 (sl:List St) (cl:List Cs) (vl:List Vh) (pl:List Pl) (sA cA vA pA:Option Addr) (sn sc cn cc vn vc pn pc:Nat) (el:List Ev) (eA:Option Addr) (en ec:Nat) (w:World) (hs:SlT stEnc 15 99 w sA sn sl) (hc:SlT dW 2 84 w cA cn cl) (hv:SlT gW 2 57 w vA vn vl) (hp:SlT bI2 3 293 w pA pn pl) (rS:∀x∈sl,StOk x) (bS5:∀x∈cl,rV x) (bZ1:∀x∈vl,cJ8 x) (hpok:∀x∈pl,eP0 x) (yY:sn<=1000000) (hcn:cn<=1000000) (hvn:vn<=1000000) (hpn:pn<=1000000) (hl:SlT dO 5 74 w eA en el) (wJ:∀x∈el,cE8 x) (hen:en<=1000000):
 Calls prog 33 #[.agg #[.slice sA sn sc,.slice cA cn cc,.slice vA vn vc,.slice pA pn pc],.slice eA en ec] w (mP w (cN3 sl cl vl pl el)):=by
 refine cS ⟨14,w,none, []⟩ func33 U ntmps33 U (gM (X:= [bW stEnc 15 99 w.heap.size none sA sn sl,bW dW 2 84 w.heap.size none cA cn cl,bW gW 2 57 w.heap.size none vA vn vl,bW bI2 3 293 w.heap.size none pA pn pl,bW dO 5 74 w.heap.size none eA en el]) (cF hs.old (cF hc.old (cF hv.old (cF hp.old (cF hl.old cX))))) (cG bW.lasts (cG bW.lasts (cG bW.lasts (cG bW.lasts (cG bW.lasts cY)))))) (bR ?_)
 obtain ⟨FE,hFE⟩:∃z,z=mJ sl cl vl pl:=⟨_,rfl⟩
 obtain ⟨LE,hLE⟩:∃z,z=uK sl vl el:=⟨_,rfl⟩
 refine fG U U U fun g1=>bX U (bQ (bH (bR (bB (cU bF6 U (fun _ hm=>hm.blkI 0 U) U U) U (cH (v:= .int .i64 FE) U eT9 U U (fun wx hm=>(by rw [hFE];exact zR sl cl vl pl sA cA vA pA sn sc cn cc vn vc pn pc wx (hm.fact 0 rfl).1 (hm.fact 1 rfl).1 (hm.fact 2 rfl).1 (hm.fact 3 rfl).1 rS bS5 bZ1 hpok yY hcn hvn hpn)) (bX U (bQ (bR (bP U (bB (gS U U) U (bQ ?_)))))))))))
 refine gI U (fun h1=>?_) (fun h1=>?_)
 ·refine bR (bP U (bX U (bQ ?_)))
  refine bM (bA ?_)
  exact bJ U U fun wx hm=>⟨bT (by rw [eE1 (by rw [<-hFE];simpa using h1)];exact hFE),hm.g⟩
 refine bN (bD (bR ?_))
 have h0:mJ sl cl vl pl=0:=by rw [<-hFE];simpa using h1
 have bK9:=bE9 h0
 refine bB (cU bF6 U (fun _ hm=>hm.blkI 0 U) U U) U (bP U (cH (v:= .int .i64 LE) U fT2 U U (fun wx hm=>(by rw [hLE];exact dG3 sl vl sA cA vA pA sn sc cn cc vn vc pn pc el eA en ec wx (hm.fact 0 rfl).1 (hm.fact 2 rfl).1 rS yY hvn (hm.fact 4 rfl).1 wJ hen bK9)) (bX U (bQ (bM ?_)))))
 exact bJ U U fun wx hm=>⟨bT (by rw [eF1 h0];exact hLE),hm.g⟩
def dU (x y:Ev):Bool:=decide (jP x y < 0)
def evQ (x y:Ev):Bool:=decide (x.at_=y.at_)&&(x.veh.toList==y.veh.toList&&(x.sta.toList==y.sta.toList&&(decide (x.kd=y.kd)&&x.to_.toList==y.to_.toList)))
theorem eD1 {x y:Ev}:evQ x y=true↔x=y:=by
 obtain ⟨x0,x1,x2,x3,x4⟩:=x
 obtain ⟨y0,y1,y2,y3,y4⟩:=y
 unfold evQ
 simp only [Bool.and_eq_true,decide_eq_true_eq,bP0,Ev.mk.injEq]
theorem eI5 (x0:Int) (x1 x2:ByteArray) (x3:Int) (x4:ByteArray) (y0:Int) (y1 y2:ByteArray) (y3:Int) (y4:ByteArray) (w:World):(binOp .eql 74 (.agg #[.int .i64 x0,.string x1,.string x2,.int .i64 x3,.string x4]) (.agg #[.int .i64 y0,.string y1,.string y2,.int .i64 y3,.string y4])).run prog w= .ok (.bool (evQ ⟨x0,x1,x2,x3,x4⟩ ⟨y0,y1,y2,y3,y4⟩)) w:=by
 have hS:prog.underlying 74=some (.struct (prog.fieldsOf 74)):=by kernel_rfl
 have hp:prog.stoodInHeld 74=false:=by kernel_rfl
 rw [run_eql_struct,show (10000:Nat)=9999+1 from rfl,run_equalIn_agg w 9999 74 _ _ hS hp]
 simp only [Program.fieldsOf,Tryz.underlying74]
 have u3:=Tryz.underlying3
 have u9:=Tryz.underlying9
 clear hS hp
 go_simp
 unfold evQ
 dsimp only
 repeat' split
 all_goals simp_all
theorem cH6:prog.eqGuardType prog.depth 74=false:=by kernel_rfl
section
variable {α:Type}
def bB2 (lt:α->α->Bool) (x:α):List α->List α
 | []=> [x]
 |y::r=>if lt x y=true then y::bB2 lt x r else x::y::r
theorem bL9 {lt:α->α->Bool} {x z:α}:∀{l:List α},z∈bB2 lt x l->z=x∨z∈l
 | [],h=> .inl (List.mem_singleton.1 h)
 |y::r,h=>by
  unfold bB2 at h
  split at h
  ·rcases List.mem_cons.1 h with rfl|h
   ·exact .inr (List.mem_cons_self ..)
   ·rcases bL9 h with h|h
    ·exact .inl h
    ·exact .inr (List.mem_cons_of_mem _ h)
  ·rcases List.mem_cons.1 h with h|h
   ·exact .inl h
   ·exact .inr h
theorem cN6 {lt:α->α->Bool} {x:α}:∀{l:List α},(bB2 lt x l).length=l.length+1
 | []=>rfl
 |y::r=>by
  have:=cN6 (lt:=lt) (x:=x) (l:=r)
  unfold bB2
  split
  ·rw [List.length_cons,this,List.length_cons]
  ·rw [List.length_cons]
theorem cJ7 {lt:α->α->Bool}:∀{j:Nat} {l:List α} {x:α},l[j]?=some x->uB lt j l=(bB2 lt x (l.take j).reverse).reverse++l.drop (j+1)
 |0,l,x,h=>by
  obtain ⟨h1,rfl⟩:=List.getElem?_eq_some_iff.1 h
  show l= [l[0]]++l.drop 1
  rw [List.singleton_append,<-List.drop_eq_getElem_cons h1,List.drop_zero]
 |j+1,l,x,h=>by
  obtain ⟨h1,hx⟩:=List.getElem?_eq_some_iff.1 h
  obtain ⟨y,hy⟩:∃y,l[j]?=some y:=⟨_,fW3 (by omega)⟩
  have ht:(l.take (j+1)).reverse=y::(l.take j).reverse:=by
   rw [List.take_add_one,hy];simp
  rw [ht]
  by_cases hl:lt x y=true
  ·have hs:((l.set (j+1) y).set j x)[j]?=some x:=List.getElem?_set_self (by rw [List.length_set];omega)
   rw [bN4 h hy hl,cJ7 hs]
   have e1:((l.set (j+1) y).set j x).take j=l.take j:=by
    rw [List.take_set_of_le (by omega),List.take_set_of_le (by omega)]
   have e2:((l.set (j+1) y).set j x).drop (j+1)=y::l.drop (j+2):=by
    rw [List.drop_set_of_lt (by omega),List.drop_eq_getElem_cons (by rw [List.length_set];omega),List.getElem_set_self,List.drop_set_of_lt (by omega)]
   rw [e1,e2]
   unfold bB2
   rw [if_pos hl];simp
   cases (l.take j).reverse <;> rfl
  ·have hl2:lt x y=false:=by simpa using hl
   rw [bG8 h hy hl2]
   unfold bB2
   rw [if_neg hl]
   obtain ⟨h2,hy2⟩:=List.getElem?_eq_some_iff.1 hy
   conv=>lhs;rw [<-List.take_append_drop j l,List.drop_eq_getElem_cons h2,List.drop_eq_getElem_cons h1,hx,hy2]
   simp
theorem bS6 {lt:α->α->Bool}:∀(f i:Nat) (l:List α),i+f=l.length->pS lt f i l=((l.drop i).foldl (fun a x=>bB2 lt x a) (l.take i).reverse).reverse
 |0,i,l,h=>by
  rw [List.drop_eq_nil_of_le (by omega),List.take_of_length_le (by omega)]
  show l=l.reverse.reverse
  rw [List.reverse_reverse]
 |f+1,i,l,h=>by
  obtain ⟨x,hx⟩:∃x,l[i]?=some x:=⟨_,fW3 (by omega)⟩
  obtain ⟨h1,hx1⟩:=List.getElem?_eq_some_iff.1 hx
  have hlen:(bB2 lt x (l.take i).reverse).reverse.length=i+1:=by
   rw [List.length_reverse,cN6,List.length_reverse,List.length_take];omega
  show pS lt f (i+1) (uB lt i l)=_
  rw [bS6 f (i+1) (uB lt i l) (by rw [xI];omega),cJ7 hx]
  rw [show i+1=(bB2 lt x (l.take i).reverse).reverse.length from hlen.symm,List.drop_left,List.take_left,List.reverse_reverse,hlen,List.drop_eq_getElem_cons h1,hx1]
  rfl
theorem cJ9 {lt:α->α->Bool} (l:List α):dS lt l=(l.foldl (fun a x=>bB2 lt x a) []).reverse:=by
 cases l with
 |nil=>rfl
 |cons x r=>
  unfold dS
  rw [bS6 _ _ _ (by rw [List.length_cons];omega)]
  rfl
theorem cD2 {lt:α->α->Bool} {R:α->α->Prop} (tr:∀a b c,R a b->R b c->R a c) {x:α}:∀{l:List α},l.Pairwise (fun a b=>R b a)->(∀y∈l,(lt x y=true->R x y)/\(lt x y=false->R y x))->(bB2 lt x l).Pairwise (fun a b=>R b a)
 | [],_,_=>List.pairwise_singleton _ _
 |y::r,hp,hc=>by
  obtain ⟨hp1,hp2⟩:=List.pairwise_cons.1 hp
  have hy:=hc y (List.mem_cons_self ..)
  unfold bB2
  split
  ·rename_i h
   refine List.pairwise_cons.2 ⟨fun z hz=>?_,cD2 (R:=R) tr hp2 fun z hz=>hc z (List.mem_cons_of_mem _ hz)⟩
   rcases bL9 hz with rfl|hz
   ·exact hy.1 h
   ·exact hp1 z hz
  ·rename_i h
   have h2:=hy.2 (by simpa using h)
   refine List.pairwise_cons.2 ⟨fun z hz=>?_,hp⟩
   rcases List.mem_cons.1 hz with rfl|hz
   ·exact h2
   ·exact tr _ _ _ (hp1 z hz) h2
theorem cX1 {lt:α->α->Bool} {R:α->α->Prop} (tr:∀a b c,R a b->R b c->R a c):∀{l acc:List α},acc.Pairwise (fun a b=>R b a)->(∀y∈acc,∀x∈l,(lt x y=true->R x y)/\(lt x y=false->R y x))->l.Pairwise (fun y x=>(lt x y=true->R x y)/\(lt x y=false->R y x))->(l.foldl (fun a x=>bB2 lt x a) acc).Pairwise (fun a b=>R b a)
 | [],_,h,_,_=>h
 |x::r,acc,h,hc,hp=>by
  obtain ⟨hp1,hp2⟩:=List.pairwise_cons.1 hp
  refine cX1 (R:=R) tr (l:=r) (acc:=bB2 lt x acc) (cD2 (R:=R) tr h fun y hy=>hc y hy x (List.mem_cons_self ..)) (fun y hy z hz=>?_) hp2
  rcases bL9 hy with rfl|hy
  ·exact hp1 z hz
  ·exact hc y hy z (List.mem_cons_of_mem _ hz)
theorem bN9 {lt:α->α->Bool} {R:α->α->Prop} (tr:∀a b c,R a b->R b c->R a c) {l:List α} (hp:l.Pairwise (fun y x=>(lt x y=true->R x y)/\(lt x y=false->R y x))):(dS lt l).Pairwise R:=by
 rw [cJ9,List.pairwise_reverse]
 exact cX1 (R:=R) tr List.Pairwise.nil (fun _ h=>by cases h) hp
end
theorem dZ6 {x y:Ev}:dU x y=true↔jP x y < 0:=by unfold dU;exact decide_eq_true_iff
theorem cM3 {x y:Ev}:dU x y=false↔¬jP x y < 0:=by unfold dU;exact decide_eq_false_iff_not
theorem vJ:cV0 dU:=⟨fun {x y z} h1 h2=>by
 rw [cM3] at *
 intro h
 by_cases h3:jP x y < 0
 ·exact h2 (wC h h3)
 ·by_cases h0:jP y x=0
  ·rw [vK] at h0
   refine h2 ?_
   rw [xB] at h ⊢
   rw [h0.1,h0.2];exact h
  ·exact h3 (zX h1 h0),fun {x y} h=>by
 rw [dZ6] at h
 rw [cM3]
 exact fun h2=>bO3 (wC h h2)⟩
def bL8 (l:List Ev):Prop:=∀x∈l,∀y∈l,jP x y=0->x=y
theorem dE0:∀{l m:List Ev},wS dU l->wS dU m->l.Perm m->bL8 l->l=m
 | [],m,_,_,h,_=>(List.nil_perm.1 h).symm
 |x::r,m,hl,hm,h,ht=>by
  cases m with
  |nil=>exact absurd h.length_eq (by simp)
  |cons y t=>
   have hxy:x=y:=by
    have hx:x∈y::t:=h.mem_iff.1 (List.mem_cons_self ..)
    have hy:y∈x::r:=h.mem_iff.2 (List.mem_cons_self ..)
    rcases List.mem_cons.1 hx with rfl|hx
    ·rfl
    ·rcases List.mem_cons.1 hy with rfl|hy
     ·rfl
     ·have h1:=(List.pairwise_cons.1 hl).1 y hy
      have h2:=(List.pairwise_cons.1 hm).1 x hx
      rw [cM3] at h1 h2
      refine ht x (List.mem_cons_self ..) y (List.mem_cons_of_mem _ hy) ?_
      by_cases h0:jP x y=0
      ·exact h0
      ·exact absurd (zX h2 h0) h1
   subst hxy
   rw [dE0 (List.pairwise_cons.1 hl).2 (List.pairwise_cons.1 hm).2 (List.Perm.cons_inv h) fun u hu v hv=>ht u (List.mem_cons_of_mem _ hu) v (List.mem_cons_of_mem _ hv)]
theorem vG (l:List Ev):wS dU (dS dU l):=
 bN9 (R:=fun x y=>dU y x=false) (fun _ _ _ h1 h2=>vJ.tr h1 h2) (List.pairwise_iff_getElem.2 fun _ _ _ _ _=>⟨fun h=>vJ.asy h,fun h=>h⟩)
theorem dH4 (p0:Int) (p1 p2:ByteArray) (p3:Int) (p4:ByteArray) (e0:Int) (e1 e2:ByteArray) (e3:Int) (e4:ByteArray) (w:World):Calls prog 131 #[.agg #[.int .i64 p0,.string p1,.string p2,.int .i64 p3,.string p4],.agg #[.int .i64 e0,.string e1,.string e2,.int .i64 e3,.string e4]] w (mP w (jP ⟨p0,p1,p2,p3,p4⟩ ⟨e0,e1,e2,e3,e4⟩)):=by
 refine cS ⟨17,w,none, []⟩ func131 U ntmps131 U (gM (X:= []) cX cY) (bR (fG U U U fun g1=>fG U U U fun g2=>bX U (bQ (bH (gd (fun wz=>Blk wz g2 74 [.int .i64 e0,.string e1,.string e2,.int .i64 e3,.string e4]/\Blk wz g1 74 [.int .i64 p0,.string p1,.string p2,.int .i64 p3,.string p4]/\True) mixed (fun _ hm=>⟨hm.bl 0,hm.bl 1,trivial⟩) fun z=>wq 0 U (bS mD U U) (wq 1 U (cQ fP U (fun _ hm=>hm.2.1) U) (wq 2 U (bS mD U U) (wq 3 U (cQ fP U (fun _ hm=>hm.1) U) (wq 5 U (bS qZ U U) (wq 6 U (cQ fC U (fun _ hm=>hm.2.1) U) (wq 7 U (bS qZ U U) (wq 8 U (cQ fC U (fun _ hm=>hm.1) U) (eG 4 U (cH U dF3 U U (fun wx hm=>(bQ0 _ _ wx)) (bE (nw 13 511 (fun _ hm=>⟨hm.bl 0,hm.bl 1,trivial⟩) fun z=>eG 9 U (cH U cM5 U U (fun wx hm=>(pR _ _ wx)) (bE (nw 13 1023 (fun _ hm=>⟨hm.bl 0,hm.bl 1,trivial⟩) fun z=>eG 10 U (jE 3 [.int .i64 (nV p0 e0),.int .i64 (mR p1 e1)] fun g3=>bE (nw 13 2047 (fun _ hm=>⟨hm.bl 1,hm.bl 2,trivial⟩) fun z=>eG 11 U (cH U dE3 U U (fun wx hm=>(cA0 _ _ _ _ _ wx (hm.blkI 0 U))) ?_))))))))))))))))))))))
 refine bE (nw 13 4095 (fun _ hm=>⟨hm.bl 1,hm.bl 2,trivial⟩) fun z=>wq 12 U (cV U) (jO (bD (bM ?_))))
 exact bJ U U fun wx hm=>⟨bT (by unfold jP;rfl),hm.g⟩
def bJ8 (fx:FuncId):Prop:=bZ prog fx=true/\∀(p0:Int) (p1 p2:ByteArray) (p3:Int) (p4:ByteArray) (e0:Int) (e1 e2:ByteArray) (e3:Int) (e4:ByteArray) (w:World),Calls prog fx #[.agg #[.int .i64 p0,.string p1,.string p2,.int .i64 p3,.string p4],.agg #[.int .i64 e0,.string e1,.string e2,.int .i64 e3,.string e4]] w (mP w (jP ⟨p0,p1,p2,p3,p4⟩ ⟨e0,e1,e2,e3,e4⟩))
theorem eR5 (fx:FuncId) (hF:bJ8 fx)  (l0:List Ev) (br n eW base:Nat) (w:World) (h:w.ownsRow base 74 5 (.slice (some ⟨br,0,none⟩) n eW) n (l0.flatMap dO)) (uJ:l0.length=n) (hn:n<=1000000) :
 Calls prog 141 #[.slice (some ⟨br,0,none⟩) n eW,.int .i64 0,.int .i64 ((n:Nat):Int),.func (.func fx) #[] #[]] w (fun e w'=>e=.returned (.tuple #[])/\w'.ownsRow base 74 5 (.slice (some ⟨br,0,none⟩) n eW) n ((dS (dU) l0).flatMap dO)/\w.grownBy w' (some br)):=by
 obtain ⟨R,hR⟩:∃z,z=dS (dU) l0:=⟨_,rfl⟩
 rw [<-hR]
 refine cS ⟨53,w,(some br), []⟩ func141 U ntmps141 U (bV2 (X:= []) h cX cY) (bR (bP U (gO U U (bK 11 (v':= .int .i64 1) U U (bX U (bQ (bO ?_)))))))
 refine dX (γ:=Nat×List Ev) (fun gg=>(1<=gg.1/\gg.1<=n+1)/\gg.2.length=n/\pS (dU) (n - gg.1) gg.1 gg.2=R) (fun gg=> [(0,.slice (some ⟨br,0,none⟩) n eW),(1,.int .i64 0),(2,.int .i64 ((n:Nat):Int)),(3,.func (.func fx) #[] #[]),(8,.int .i64 ((gg.1:Nat):Int))]) (fun gg=>gQ base 74 5 n eW br ((gg.2).flatMap dO)) (fun gg=> []) (fun gg=> []) (fun gg=> []) (fun gg=>n+1 - gg.1) (1,l0) ⟨⟨Nat.le_refl _,by omega⟩,uJ,by rw [hR];unfold dS;rw [uJ]⟩ ⟨U,U,U,U,(cR (by omega)),trivial⟩ (fun _ hm=>hm.pick [] [] [] U U) ?_
 rintro ⟨i,l⟩ cB
 replace cB:(1<=i/\i<=n+1)/\l.length=n/\pS (dU) (n - i) i l=R:=cB
 dsimp only
 refine bH (bR ?_)
 obtain ⟨⟨hi1,vN⟩,hl1,hR1⟩:=cB
 refine bP U (bP U (bB (dE U U) U (bQ ?_)))
 refine cC U (fun hi=>?_) (fun hi=>?_)
 ·refine bN (bD (bH (bO (bR ?_))))
  have hRi:pS (dU) (n - (i+1)) (i+1) (uB (dU) i l)=R:=by rw [<-hR1,show n - i=(n - (i+1))+1 by omega];rfl
  obtain ⟨S,hS⟩:∃z,z=uB (dU) i l:=⟨_,rfl⟩
  rw [<-hS] at hRi
  have hSl:S.length=n:=by rw [hS,xI];exact hl1
  refine bP U (bX U (bQ (bO ?_)))
  refine dX (γ:=Nat×List Ev) (fun gg=>(gg.1<=i)/\gg.2.length=n/\uB (dU) gg.1 gg.2=S) (fun gg=> [(0,.slice (some ⟨br,0,none⟩) n eW),(1,.int .i64 0),(2,.int .i64 ((n:Nat):Int)),(3,.func (.func fx) #[] #[]),(8,.int .i64 ((i:Nat):Int)),(9,.int .i64 ((gg.1:Nat):Int))]) (fun gg=>gQ base 74 5 n eW br ((gg.2).flatMap dO)) (fun gg=> []) (fun gg=> []) (fun gg=> []) (fun gg=>gg.1) (i,l) ⟨Nat.le_refl _,hl1,hS.symm⟩ ⟨U,U,U,U,U,U,trivial⟩ (fun _ hm=>hm.pick [] [] [] U U) ?_
  rintro ⟨jj,m⟩ cB
  replace cB:(jj<=i)/\m.length=n/\uB (dU) jj m=S:=cB
  dsimp only
  refine bH (bH ?_)
  obtain ⟨hj1,pP,hS1⟩:=cB
  rcases jj with _|j
  ·refine gd (fun wz=>True) mixed (fun _ _=>trivial) fun z=>?_
   refine wq 0 U (bL U) (dH 18 (v':= .int .i64 0) U U (wq 1 U (bL U) (wq 2 U (eK U U) (dH 20 (v':= .bool false) U (fU3 (by decide)) (wq 3 U (bL U) (fD 4 U (fD 5 U (fD 6 U (fD 7 U (fD 8 U (fD 9 U (fD 10 U (fD 11 U (fD 12 U (fD 13 U (fD 14 U (fD 15 U (wq 16 U (fO U U) (jO (bD (jQ U (dD (bF (bF (bY ?_)))))))))))))))))))))))))
   refine bG (bD (bI (bP U (gO U U (bX U (bE ?_))))))
   have hm2:m=S:=hS1
   exact cN (i+1,m) ⟨⟨by dsimp only;omega,by dsimp only;omega⟩,by rw [hm2];exact hSl,by rw [hm2];exact hRi⟩ (by dsimp only;omega) ⟨U,U,U,U,(cR (by omega)),trivial⟩ (fun _ hm=>hm.pick [] [] [] U U)
  have hj2:j+1 < n:=by omega
  obtain ⟨xx,hx⟩:∃x,m[j+1]?=some x:=⟨_,fW3 (by omega)⟩
  obtain ⟨x0,x1,x2,x3,x4⟩:=xx
  obtain ⟨yy,hy⟩:∃x,m[j]?=some x:=⟨_,fW3 (by omega)⟩
  obtain ⟨y0,y1,y2,y3,y4⟩:=yy
  refine gd (fun wz=>(gQ base 74 5 n eW br ((m).flatMap dO)) wz/\True) mixed (fun _ hm=>⟨hm.k,trivial⟩) fun z=>wq 0 U (bL U) (wq 1 U (bL U) (wq 2 U (eK U U) (dH 20 (v':= .bool true) U (fU3 (decide_eq_true (by omega))) (wq 3 U (bL U) (fI 4 U (bL U) (fI 5 U (bL U) (fI 6 U (bL U) (fI 7 U (bV (j:=(j+1)) jW U U (by omega)) (fI 8 U (dP (vs:= [.int .i64 x0,.string x1,.string x2,.int .i64 x3,.string x4]) fJ U (fun _ hm=>(gQ.get (hm.1) fB pP)) hx U U) (fI 9 U (bL U) (fI 10 U (bL U) (fI 11 U (ov_sub U U (by omega) (by omega)) (dH 29 (v':= .int .i64 ((j:Nat):Int)) U (fV3 (by omega)) (fI 12 U (bV (j:=j) jW U U (by omega)) (fI 13 U (dP (vs:= [.int .i64 y0,.string y1,.string y2,.int .i64 y3,.string y4]) fJ U (fun _ hm=>(gQ.get (hm.1) fB pP)) hy U U) (eG 14 U (eE U (cH U hF.1 U U (fun wx hm=>(hF.2 x0 x1 x2 x3 x4 y0 y1 y2 y3 y4 wx)) (bE (nw 17 32767 (fun _ hm=>⟨hm.k,trivial⟩) fun z=>fI 15 U (dE U U) (wq 16 U (fE U U) (jO (bD ?_)))))))))))))))))))))))
  refine cC U (fun hlt=>?_) (fun hlt=>?_)
  ·refine bN (bD (bH (bO ?_)))
   have hlt2:(dU) ⟨x0,x1,x2,x3,x4⟩ ⟨y0,y1,y2,y3,y4⟩=true:=decide_eq_true (show jP ⟨x0,x1,x2,x3,x4⟩ ⟨y0,y1,y2,y3,y4⟩ < 0 from hlt)
   have hS2:=(bN4 hx hy hlt2).symm.trans hS1
   refine gd (fun wz=>True) mixed (fun _ _=>trivial) fun z=>wq 0 U (bL U) (wq 1 U (bL U) (wq 2 U (bL U) (wq 3 U (bL U) (wq 4 U (ov_sub U U (by omega) (by omega)) (dH 41 (v':= .int .i64 ((j:Nat):Int)) U (fV3 (by omega)) (wq 5 U (bL U) (wq 6 U (bL U) (wq 7 U (ov_sub U U (by omega) (by omega)) (dH 44 (v':= .int .i64 ((j:Nat):Int)) U (fV3 (by omega)) (wq 8 U (bV (j:=j) jW U U (by omega)) (wq 10 U (bL U) (wq 11 U (bL U) (wq 12 U (bV (j:=(j+1)) jW U U (by omega)) ?_)))))))))))))
   refine kK [9,13] (by kernel_rfl) U ⟨⟨_,U,?_⟩,⟨_,U,?_⟩,trivial⟩
   ·refine bB (dP (vs:= [.int .i64 y0,.string y1,.string y2,.int .i64 y3,.string y4]) fJ U (fun _ hm=>(gQ.get hm.k fB pP)) hy U U) U ?_
    refine bE (nw 18 8191 (fun _ _=>trivial) fun z=>eG 13 U (bB (dP (vs:= [.int .i64 x0,.string x1,.string x2,.int .i64 x3,.string x4]) fJ U (fun _ hm=>(gQ.get hm.k fB pP)) hx U U) U (bE (nw 18 16383 (fun _ _=>trivial) fun z=>wq 14 U (bV (j:=(j+1)) jW U U (by omega)) (eG 15 U (eV (l:=m) (j:=j+1) (r:=0) (el:=⟨x0,x1,x2,x3,x4⟩) (el':=⟨y0,y1,y2,y3,y4⟩) U fJ U U U U fB U hx pP (by decide) U U (bE (nw 18 65535 (fun _ _=>trivial) fun z=>wq 16 U (bV (j:=j) jW U U (by omega)) (eG 17 U ?_)))))))))
    refine eV (l:=m.set (j+1) ⟨y0,y1,y2,y3,y4⟩) (j:=j) (r:=0) (el:=⟨y0,y1,y2,y3,y4⟩) (el':=⟨x0,x1,x2,x3,x4⟩) U fJ U U U U fB U (by rw [List.getElem?_set_ne (by omega)];exact hy) (by rw [List.length_set];exact pP) (by decide) U U ?_
    refine bE (nw 18 262143 (fun _ _=>trivial) fun z=>jO (bG (bD (bI (bP U (bB (ov_sub U U (by omega) (by omega)) U (bK 36 (v':= .int .i64 ((j:Nat):Int)) U (fV3 (by omega)) (bX U (bE ?_)))))))))
    exact cN (j,(m.set (j+1) ⟨y0,y1,y2,y3,y4⟩).set j ⟨x0,x1,x2,x3,x4⟩) ⟨by dsimp only;omega,by simp [pP],hS2⟩ (by dsimp only;omega) ⟨U,U,U,U,U,(cR (by omega)),trivial⟩ (fun _ hm=>hm.pick [] [] [] U U)
   refine bB (dP (vs:= [.int .i64 x0,.string x1,.string x2,.int .i64 x3,.string x4]) fJ U (fun _ hm=>(gQ.get hm.k fB pP)) hx U U) U (bE (nw 18 15871 (fun _ _=>trivial) fun z=>eG 9 U (bB (dP (vs:= [.int .i64 y0,.string y1,.string y2,.int .i64 y3,.string y4]) fJ U (fun _ hm=>(gQ.get hm.k fB pP)) hy U U) U (bE (nw 18 16383 (fun _ _=>trivial) fun z=>wq 14 U (bV (j:=(j+1)) jW U U (by omega)) (eG 15 U (eV (l:=m) (j:=j+1) (r:=0) (el:=⟨x0,x1,x2,x3,x4⟩) (el':=⟨y0,y1,y2,y3,y4⟩) U fJ U U U U fB U hx pP (by decide) U U (bE (nw 18 65535 (fun _ _=>trivial) fun z=>wq 16 U (bV (j:=j) jW U U (by omega)) (eG 17 U ?_))))))))))
   refine eV (l:=m.set (j+1) ⟨y0,y1,y2,y3,y4⟩) (j:=j) (r:=0) (el:=⟨y0,y1,y2,y3,y4⟩) (el':=⟨x0,x1,x2,x3,x4⟩) U fJ U U U U fB U (by rw [List.getElem?_set_ne (by omega)];exact hy) (by rw [List.length_set];exact pP) (by decide) U U ?_
   refine bE (nw 18 262143 (fun _ _=>trivial) fun z=>jO (bG (bD (bI (bP U (bB (ov_sub U U (by omega) (by omega)) U (bK 36 (v':= .int .i64 ((j:Nat):Int)) U (fV3 (by omega)) (bX U (bE ?_)))))))))
   exact cN (j,(m.set (j+1) ⟨y0,y1,y2,y3,y4⟩).set j ⟨x0,x1,x2,x3,x4⟩) ⟨by dsimp only;omega,by simp [pP],hS2⟩ (by dsimp only;omega) ⟨U,U,U,U,U,(cR (by omega)),trivial⟩ (fun _ hm=>hm.pick [] [] [] U U)
  refine dD (bF (bF (bY (bG (bD (bI ?_))))))
  have hlt2:(dU) ⟨x0,x1,x2,x3,x4⟩ ⟨y0,y1,y2,y3,y4⟩=false:=decide_eq_false (show ¬jP ⟨x0,x1,x2,x3,x4⟩ ⟨y0,y1,y2,y3,y4⟩ < 0 from hlt)
  have hS2:=(bG8 hx hy hlt2).symm.trans hS1
  refine bP U (gO U U (bX U (bE ?_)))
  have hm2:m=S:=hS2
  exact cN (i+1,m) ⟨⟨by dsimp only;omega,by dsimp only;omega⟩,by rw [hm2];exact hSl,by rw [hm2];exact hRi⟩ (by dsimp only;omega) ⟨U,U,U,U,(cR (by omega)),trivial⟩ (fun _ hm=>hm.pick [] [] [] U U)
 refine dD (bF (bF (bY ?_)))
 obtain rfl:l=R:=by rw [<-hR1,show n - i=0 by omega];rfl
 refine kC U fun wx hm=>?_
 exact ⟨U,mB hm.k hm.g⟩
theorem eO6 (fx:FuncId) (hF:bJ8 fx) (l0:List Ev) (br n eW base:Nat) (w:World) (h:w.ownsRow base 74 5 (.slice (some ⟨br,0,none⟩) n eW) n (l0.flatMap dO)) (uJ:l0.length=n) (hn:n<=19):
 Calls prog 93 #[.slice (some ⟨br,0,none⟩) n eW,.int .i64 ((n:Nat):Int),.func (.func fx) #[] #[]] w (fun e w'=>e=.returned (.tuple #[])/\w'.ownsRow base 74 5 (.slice (some ⟨br,0,none⟩) n eW) n ((dS dU l0).flatMap dO)/\w.grownBy w' (some br)):=by
 refine cS ⟨63,w,(some br), []⟩ func93 U ntmps93 U (bV2 (X:= []) h cX cY) (bR (bX U (bQ (bR (bP U (bX U (bX U (bQ (bH (bO (eY 1 (eD (bH (bR (bP U (bP U (bB (mV U U) U (bK 13 (v':= .bool false) U (fU3 (decide_eq_false (by omega))) (bQ (jQ U (dD (bF (bF (bY ?_))))))))))))))))))))))))
 refine bD (bR (bP U (bP U (bP U (bP U ?_)))))
 refine mA U U U bK3 U U (fun wx hm=>(eR5 fx hF l0 br n eW base wx hm.k uJ (by omega))) ?_
 refine bQ (bO (eY 1 (eD (bH (bR (bP U (bP U (bB (dE U U) U (bK 30 (v':= .bool false) U (fU3 (decide_eq_false (by omega))) (bQ (jQ U (dD (bF (bF (bY ?_)))))))))))))))
 refine kC U fun wx hm=>?_
 exact ⟨U,mB hm.k hm.g⟩
theorem eV1 (fx:FuncId) (A:Option Addr) (eW:Nat) (w:World):Calls prog 141 #[.slice A 0 eW,.int .i64 0,.int .i64 0,.func (.func fx) #[] #[]] w (fun e w'=>e=.returned (.tuple #[])/\w.grownBy w' none):=by
 refine cS ⟨53,w,none, []⟩ func141 U ntmps141 U (gM (X:= []) cX cY) (bR (bP U (gO U U (bK 11 (v':= .int .i64 1) U U (bX U (bQ (bO (eY 1 (eD (bH (bR (bP U (bP U (bB (dE U U) U (bK 14 (v':= .bool false) U (fU3 (by decide)) (bQ (jQ U (dD (bF (bF (bY ?_)))))))))))))))))))))
 refine kC U fun wx hm=>?_
 exact ⟨U,hm.g⟩
theorem eT2 (fx:FuncId) (A:Option Addr) (eW:Nat) (w:World):Calls prog 93 #[.slice A 0 eW,.int .i64 0,.func (.func fx) #[] #[]] w (fun e w'=>e=.returned (.tuple #[])/\w.grownBy w' none):=by
 refine cS ⟨63,w,none, []⟩ func93 U ntmps93 U (gM (X:= []) cX cY) (bR (bX U (bQ (bR (bP U (bX U (bX U (bQ (bH (bO (eY 1 (eD (bH (bR (bP U (bP U (bB (mV U U) U (bK 13 (v':= .bool false) U (fU3 (by decide)) (bQ (jQ U (dD (bF (bF (bY ?_))))))))))))))))))))))))
 refine bD (bR (bP U (bP U (bP U (bP U (cH U bK3 U U (fun wx hm=>(eV1 fx A eW wx)) (bQ (bO (eY 1 (eD (bH (bR (bP U (bP U (bB (dE U U) U (bK 30 (v':= .bool false) U (fU3 (by decide)) (bQ (jQ U (dD (bF (bF (bY ?_))))))))))))))))))))))
 refine kC U fun wx hm=>?_
 exact ⟨U,hm.g⟩
theorem cN0 (fx:FuncId) (A:Option Addr) (eW:Nat) (w:World):Calls prog 41 #[.slice A 0 eW,.func (.func fx) #[] #[]] w (fun e w'=>e=.returned (.tuple #[])/\w.grownBy w' none):=by
 refine cS ⟨9,w,none, []⟩ func41 U ntmps41 U (gM (X:= []) cX cY) (bI (bB (bL U) U (bB (bL U) U (bB (dT jW U) U (bK 6 (v':= .int .i64 0) U U (bB (bL U) U (cH U eV9 U U (fun wx hm=>(eT2 fx A eW wx)) (bE ?_))))))))
 refine kC U fun wx hm=>?_
 exact ⟨U,hm.g⟩
theorem cX4 (fx:FuncId) (l0:List Ev) (br n eW base a b q:Nat) (w:World) (h:w.ownsRow base 74 5 (.slice (some ⟨br,0,none⟩) n eW) n (l0.flatMap dO)) (uJ:l0.length=n) (hn:n<=1000000) (hab:a < b) (hb:b+q<=n):
 Calls prog 223 #[.slice (some ⟨br,0,none⟩) n eW,.int .i64 ((a:Nat):Int),.int .i64 ((b:Nat):Int),.int .i64 ((q:Nat):Int),.func (.func fx) #[] #[]] w (fun e w'=>e=.returned (.tuple #[])/\w'.ownsRow base 74 5 (.slice (some ⟨br,0,none⟩) n eW) n ((uL l0 a b q).flatMap dO)/\w.grownBy w' (some br)):=by
 refine cS ⟨38,w,(some br), []⟩ func223 U ntmps223 U (bV2 (X:= []) h cX cY) (bR (bX U (bQ (bO ?_))))
 refine dX (γ:=Nat×List Ev) (fun g=>g.1<=q/\g.2.length=n/\g.2=uL l0 a b g.1) (fun g=> [(0,.slice (some ⟨br,0,none⟩) n eW),(1,.int .i64 ((a:Nat):Int)),(2,.int .i64 ((b:Nat):Int)),(3,.int .i64 ((q:Nat):Int)),(10,.int .i64 ((g.1:Nat):Int))]) (fun g=>gQ base 74 5 n eW br ((g.2).flatMap dO)) (fun g=> []) (fun g=> []) (fun g=> []) (fun g=>q - g.1) (0,l0) ⟨Nat.zero_le _,uJ,U⟩ ⟨U,U,U,U,U,trivial⟩ (fun _ hm=>hm.pick [] [] [] U U) ?_
 rintro ⟨k,m⟩ cB
 replace cB:k<=q/\m.length=n/\m=uL l0 a b k:=cB
 dsimp only
 refine bH (bR ?_)
 obtain ⟨hk0,pP,hmk⟩:=cB
 refine bP U (bP U (bB (dE U U) U (bQ ?_)))
 refine cC U (fun hk=>?_) (fun hk=>?_)
 ·refine bN (bD (bH (bO ?_)))
  obtain ⟨xx,hx⟩:∃x,m[(a+k)]?=some x:=⟨_,fW3 (by omega)⟩
  obtain ⟨x0,x1,x2,x3,x4⟩:=xx
  obtain ⟨yy,hy⟩:∃x,m[(b+k)]?=some x:=⟨_,fW3 (by omega)⟩
  obtain ⟨y0,y1,y2,y3,y4⟩:=yy
  have hst:uL l0 a b (k+1)=(m.set (a+k) ⟨y0,y1,y2,y3,y4⟩).set (b+k) ⟨x0,x1,x2,x3,x4⟩:=by
   rw [hmk] at hx hy ⊢
   exact bO1 hx hy
  refine gd (fun wz=>True) mixed (fun _ _=>trivial) fun z=>wq 0 U (bL U) (wq 1 U (bL U) (wq 2 U (bL U) (wq 3 U (ov_add U U (by omega) (by omega)) (dH 19 (v':= .int .i64 (((a+k):Nat):Int)) U (fV3 (by omega)) (wq 4 U (bL U) (wq 5 U (bL U) (wq 6 U (bL U) (wq 7 U (ov_add U U (by omega) (by omega)) (dH 23 (v':= .int .i64 (((b+k):Nat):Int)) U (fV3 (by omega)) (wq 8 U (bL U) (wq 9 U (bL U) (wq 10 U (bL U) (wq 11 U (ov_add U U (by omega) (by omega)) (dH 27 (v':= .int .i64 (((b+k):Nat):Int)) U (fV3 (by omega)) (wq 12 U (bV (j:=(b+k)) jW U U (by omega)) (wq 14 U (bL U) (wq 15 U (bL U) (wq 16 U (bL U) (wq 17 U (ov_add U U (by omega) (by omega)) (dH 33 (v':= .int .i64 (((a+k):Nat):Int)) U (fV3 (by omega)) (wq 18 U (bV (j:=(a+k)) jW U U (by omega)) ?_)))))))))))))))))))))
  refine kK [13,19] (by kernel_rfl) U ⟨⟨_,U,?_⟩,⟨_,U,?_⟩,trivial⟩
  ·refine bB (dP (vs:= [.int .i64 y0,.string y1,.string y2,.int .i64 y3,.string y4]) fJ U (fun _ hm=>(gQ.get hm.k fB pP)) hy U U) U ?_
   refine bE (nw 24 524287 (fun _ _=>trivial) fun z=>eG 19 U (bB (dP (vs:= [.int .i64 x0,.string x1,.string x2,.int .i64 x3,.string x4]) fJ U (fun _ hm=>(gQ.get hm.k fB pP)) hx U U) U (bE (nw 24 1048575 (fun _ _=>trivial) fun z=>wq 20 U (bV (j:=(a+k)) jW U U (by omega)) (eG 21 U (eV (l:=m) (j:=(a+k)) (r:=0) (el:=⟨x0,x1,x2,x3,x4⟩) (el':=⟨y0,y1,y2,y3,y4⟩) U fJ U U U U fB U hx pP (by decide) U U (bE (nw 24 4194303 (fun _ _=>trivial) fun z=>wq 22 U (bV (j:=(b+k)) jW U U (by omega)) (eG 23 U ?_)))))))))
   refine eV (l:=m.set (a+k) ⟨y0,y1,y2,y3,y4⟩) (j:=(b+k)) (r:=0) (el:=⟨y0,y1,y2,y3,y4⟩) (el':=⟨x0,x1,x2,x3,x4⟩) U fJ U U U U fB U (by rw [List.getElem?_set_ne (by omega)];exact hy) (by rw [List.length_set];exact pP) (by decide) U U ?_
   refine bE (nw 24 16777215 (fun _ _=>trivial) fun z=>jO (bG (bD (bI (bP U (gO U U (bX U (bE ?_))))))))
   exact cN (k+1,(m.set (a+k) ⟨y0,y1,y2,y3,y4⟩).set (b+k) ⟨x0,x1,x2,x3,x4⟩) ⟨by dsimp only;omega,by simp [pP],hst.symm⟩ (by dsimp only;omega) ⟨U,U,U,U,(cR (by omega)),trivial⟩ (fun _ hm=>hm.pick [] [] [] U U)
  refine bB (dP (vs:= [.int .i64 x0,.string x1,.string x2,.int .i64 x3,.string x4]) fJ U (fun _ hm=>(gQ.get hm.k fB pP)) hx U U) U (bE (nw 24 1040383 (fun _ _=>trivial) fun z=>eG 13 U (bB (dP (vs:= [.int .i64 y0,.string y1,.string y2,.int .i64 y3,.string y4]) fJ U (fun _ hm=>(gQ.get hm.k fB pP)) hy U U) U (bE (nw 24 1048575 (fun _ _=>trivial) fun z=>wq 20 U (bV (j:=(a+k)) jW U U (by omega)) (eG 21 U (eV (l:=m) (j:=(a+k)) (r:=0) (el:=⟨x0,x1,x2,x3,x4⟩) (el':=⟨y0,y1,y2,y3,y4⟩) U fJ U U U U fB U hx pP (by decide) U U (bE (nw 24 4194303 (fun _ _=>trivial) fun z=>wq 22 U (bV (j:=(b+k)) jW U U (by omega)) (eG 23 U ?_))))))))))
  refine eV (l:=m.set (a+k) ⟨y0,y1,y2,y3,y4⟩) (j:=(b+k)) (r:=0) (el:=⟨y0,y1,y2,y3,y4⟩) (el':=⟨x0,x1,x2,x3,x4⟩) U fJ U U U U fB U (by rw [List.getElem?_set_ne (by omega)];exact hy) (by rw [List.length_set];exact pP) (by decide) U U ?_
  refine bE (nw 24 16777215 (fun _ _=>trivial) fun z=>jO (bG (bD (bI (bP U (gO U U (bX U (bE ?_))))))))
  exact cN (k+1,(m.set (a+k) ⟨y0,y1,y2,y3,y4⟩).set (b+k) ⟨x0,x1,x2,x3,x4⟩) ⟨by dsimp only;omega,by simp [pP],hst.symm⟩ (by dsimp only;omega) ⟨U,U,U,U,(cR (by omega)),trivial⟩ (fun _ hm=>hm.pick [] [] [] U U)
 refine dD (bF (bF (bY ?_)))
 obtain rfl:k=q:=by omega
 subst hmk
 refine kC U fun wx hm=>?_
 exact ⟨U,mB hm.k hm.g⟩
theorem dS4 (fx:FuncId) (l0:List Ev) (br n eW base a mm b:Nat) (w:World) (h:w.ownsRow base 74 5 (.slice (some ⟨br,0,none⟩) n eW) n (l0.flatMap dO)) (uJ:l0.length=n) (hn:n<=1000000) (ham:a < mm) (hmb:mm < b) (hbn:b<=n):
 Calls prog 191 #[.slice (some ⟨br,0,none⟩) n eW,.int .i64 ((a:Nat):Int),.int .i64 ((mm:Nat):Int),.int .i64 ((b:Nat):Int),.func (.func fx) #[] #[]] w (fun e w'=>∃R:List Ev,(R.length=n/\∀x,R[x]?=kI l0 a mm b x)/\e=.returned (.tuple #[])/\w'.ownsRow base 74 5 (.slice (some ⟨br,0,none⟩) n eW) n ((R).flatMap dO)/\w.grownBy w' (some br)):=by
 refine cS ⟨58,w,(some br), []⟩ func191 U ntmps191 U (bV2 (X:= []) h cX cY) (bR (bP U (bP U (bB (ov_sub U U (by omega) (by omega)) U (bK 14 (v':= .int .i64 (((mm - a):Nat):Int)) U (fV3 (by omega)) (bX U (bQ (bR (bP U (bP U (bB (ov_sub U U (by omega) (by omega)) U (bK 17 (v':= .int .i64 (((b - mm):Nat):Int)) U (fV3 (by omega)) (bX U (bQ (bH (bO ?_))))))))))))))))
 refine dX (γ:=Nat×Nat×List Ev) (fun g=>(1<=g.1/\1<=g.2.1/\g.1<=mm/\mm+g.2.1<=n)/\g.2.2.length=n/\∀x,kI g.2.2 (mm - g.1) mm (mm+g.2.1) x=kI l0 a mm b x) (fun g=> [(0,.slice (some ⟨br,0,none⟩) n eW),(2,.int .i64 ((mm:Nat):Int)),(4,.func (.func fx) #[] #[]),(10,.int .i64 ((g.1:Nat):Int)),(11,.int .i64 ((g.2.1:Nat):Int))]) (fun g=>gQ base 74 5 n eW br ((g.2.2).flatMap dO)) (fun g=> []) (fun g=> []) (fun g=> []) (fun g=>g.1+g.2.1) ((mm - a),(b - mm),l0) ⟨⟨by dsimp only;omega,by dsimp only;omega,by dsimp only;omega,by dsimp only;omega⟩,uJ,fun x=>by dsimp only;rw [show mm - (mm - a)=a by omega,show mm+(b - mm)=b by omega]⟩ ⟨U,U,U,U,U,trivial⟩ (fun _ hm=>hm.pick [] [] [] U U) ?_
 rintro ⟨i,j,m⟩ cB
 replace cB:(1<=i/\1<=j/\i<=mm/\mm+j<=n)/\m.length=n/\∀x,kI m (mm - i) mm (mm+j) x=kI l0 a mm b x:=cB
 dsimp only
 refine bH (bR ?_)
 obtain ⟨⟨hi1,hj1,him,hjn⟩,pP,hrot⟩:=cB
 refine bP U (bP U (bB (gS U U) U (bQ ?_)))
 refine gI U (fun hij=>?_) (fun hij=>?_)
 ·refine bN (bD (bO (bR (bP U (bP U ?_)))))
  refine bB (eK U U) U (bQ ?_)
  refine cC U (fun hgt=>?_) (fun hgt=>?_)
  ·refine bR (bP U (bP U (bP U ?_)))
   refine bB (ov_sub U U (by omega) (by omega)) U (bK 27 (v':= .int .i64 (((mm - i):Nat):Int)) U (fV3 (by omega)) (bP U (bP U (bP U ?_))))
   refine mA U U U dK6 U U (fun wx hm=>(cX4 fx m br n eW base (mm - i) mm j wx hm.k pP hn (by omega) (by omega))) ?_
   refine bQ (bI (bP U (bP U (bB (ov_sub U U (by omega) (by omega)) U (bK 34 (v':= .int .i64 (((i - j):Nat):Int)) U (fV3 (by omega)) (bX U (bE (bG ?_))))))))
   exact cN ((i - j),j,(uL m (mm - i) mm j)) ⟨⟨by dsimp only;omega,by dsimp only;omega,by dsimp only;omega,by dsimp only;omega⟩,by dsimp only;rw [uM];exact pP,fun x=>by dsimp only;rw [<-hrot x];exact (dR4 (by omega) (by omega) (by omega) x).symm⟩ (by dsimp only;omega) ⟨U,U,U,U,U,trivial⟩ (fun _ hm=>hm.pick [] [] [] U U)
  refine bR (bP U (bP U (bP U (bB (ov_sub U U (by omega) (by omega)) U (bK 38 (v':= .int .i64 (((mm - i):Nat):Int)) U (fV3 (by omega)) (bP U (bP U (gO U U (bP U (bB (ov_sub U U (by omega) (by omega)) U (bK 43 (v':= .int .i64 (((mm+j - i):Nat):Int)) U (fV3 (by omega)) (bP U (bP U ?_)))))))))))))
  refine mA U U U dK6 U U (fun wx hm=>(cX4 fx m br n eW base (mm - i) (mm+j - i) i wx hm.k pP hn (by omega) (by omega))) ?_
  refine bQ (bI (bP U (bP U (bB (ov_sub U U (by omega) (by omega)) U (bK 49 (v':= .int .i64 (((j - i):Nat):Int)) U (fV3 (by omega)) (bX U (bE (bG ?_))))))))
  exact cN (i,(j - i),(uL m (mm - i) (mm+j - i) i)) ⟨⟨by dsimp only;omega,by dsimp only;omega,by dsimp only;omega,by dsimp only;omega⟩,by dsimp only;rw [uM];exact pP,fun x=>by dsimp only;rw [<-hrot x];exact (dF9 (by omega) (by omega) (by omega) x).symm⟩ (by dsimp only;omega) ⟨U,U,U,U,U,trivial⟩ (fun _ hm=>hm.pick [] [] [] U U)
 refine dD (bF (bF (bY (bD (bI ?_)))))
 obtain rfl:i=j:=by omega
 refine bP U (bP U (bP U (bB (ov_sub U U (by omega) (by omega)) U (bK 53 (v':= .int .i64 (((mm - i):Nat):Int)) U (fV3 (by omega)) (bP U (bP U (bP U ?_)))))))
 refine mA U U U dK6 U U (fun wx hm=>(cX4 fx m br n eW base (mm - i) mm i wx hm.k pP hn (by omega) (by omega))) ?_
 refine bE ?_
 refine kC U fun wx hm=>?_
 have hf:=mB hm.k hm.g
 exact ⟨uL m (mm - i) mm i,⟨by rw [uM];exact pP,fun x=>by rw [<-hrot x,eL2 (by omega) (by omega)]⟩,U,hf.1,hf.2⟩
def bK8 (fx:FuncId) (br n eW base a mm b:Nat):Prop:=∀(l0:List Ev) (w:World),w.ownsRow base 74 5 (.slice (some ⟨br,0,none⟩) n eW) n (l0.flatMap dO)->l0.length=n->n<=1000000->a < mm->mm < b->b<=n->wS dU (eN l0 a mm)->wS dU (eN l0 mm b)->
 Calls prog 142 #[.slice (some ⟨br,0,none⟩) n eW,.int .i64 ((a:Nat):Int),.int .i64 ((mm:Nat):Int),.int .i64 ((b:Nat):Int),.func (.func fx) #[] #[]] w (fun e w'=>∃R:List Ev,wT dU l0 R a b/\e=.returned (.tuple #[])/\w'.ownsRow base 74 5 (.slice (some ⟨br,0,none⟩) n eW) n ((R).flatMap dO)/\w.grownBy w' (some br))
theorem dK0 (fx:FuncId) (hF:bJ8 fx) (br n eW base a mm b:Nat) (ih:∀a' m' b',b' - a' < b - a->bK8 fx br n eW base a' m' b'):bK8 fx br n eW base a mm b:=by
 intro l0 w h uJ hn ham hmb hbn hsA hsB
 refine cS ⟨220,w,(some br), []⟩ func142 U ntmps142 U (bV2 (X:= []) h cX cY) (bH (bR (bP U (bP U (bB (ov_sub U U (by omega) (by omega)) U (bK 27 (v':= .int .i64 (((mm - a):Nat):Int)) U (fV3 (by omega)) (bB (eL U U) U (bQ ?_))))))))
 refine cC U (fun h1=>?_) (fun h1=>?_)
 ·refine bR ?_
  obtain ⟨xa,hxa⟩:∃z,l0[a]?=some z:=⟨_,fW3 (by omega)⟩
  obtain ⟨y0,y1,y2,y3,y4⟩:=xa
  refine bP U (bX U (bQ (bR (bP U (bX U (bQ (bH (bO ?_))))))))
  refine dX (γ:=Nat×Nat) (fun g=>mm<=g.1/\g.1<=g.2/\g.2<=b/\(g.1=mm∨∃q,l0[g.1 - 1]?=some q/\dU q ⟨y0,y1,y2,y3,y4⟩=true)/\(g.2=b∨∃q,l0[g.2]?=some q/\dU q ⟨y0,y1,y2,y3,y4⟩=false)) (fun g=> [(0,.slice (some ⟨br,0,none⟩) n eW),(1,.int .i64 ((a:Nat):Int)),(2,.int .i64 ((mm:Nat):Int)),(3,.int .i64 ((b:Nat):Int)),(4,.func (.func fx) #[] #[]),(10,.int .i64 ((g.1:Nat):Int)),(11,.int .i64 ((g.2:Nat):Int))]) (fun g=>gQ base 74 5 n eW br ((l0).flatMap dO)) (fun g=> []) (fun g=> []) (fun g=> []) (fun g=>g.2 - g.1) (mm,b) ⟨Nat.le_refl _,by dsimp only;omega,Nat.le_refl _,.inl rfl,.inl rfl⟩ ⟨U,U,U,U,U,U,U,trivial⟩ (fun _ hm=>hm.pick [] [] [] U U) ?_
  rintro ⟨i,j⟩ cB
  replace cB:mm<=i/\i<=j/\j<=b/\(i=mm∨∃q,l0[i - 1]?=some q/\dU q ⟨y0,y1,y2,y3,y4⟩=true)/\(j=b∨∃q,l0[j]?=some q/\dU q ⟨y0,y1,y2,y3,y4⟩=false):=cB
  dsimp only
  refine bH (bR ?_)
  obtain ⟨hi1,hij,hjb,hL,hR⟩:=cB
  refine bP U (bP U (bB (dE U U) U (bQ ?_)))
  refine cC U (fun hlt=>?_) (fun hlt=>?_)
  ·refine bN (bD (bO (bR ?_)))
   obtain ⟨hh,hhd⟩:∃z,z=(i+j) / 2:=⟨_,rfl⟩
   have hh1:i<=hh:=by omega
   have hh2:hh < j:=by omega
   obtain ⟨xx,hx⟩:∃x,l0[hh]?=some x:=⟨_,fW3 (by omega)⟩
   obtain ⟨x0,x1,x2,x3,x4⟩:=xx
   refine bP U (bP U (gO U U (bK 36 (v':= .int .i64 (((i+j):Nat):Int)) U (fV3 (by omega)) (bB (cC0 (a:=(i+j)) (by kernel_rfl) (by kernel_rfl) U (by omega)) U (bB (bF0 (a:=(i+j)) U U) U (bB (bB6 (a:=(i+j) / 2) (by kernel_rfl) (by kernel_rfl) U (by omega)) U (bK 39 (v':= .int .i64 ((hh:Nat):Int)) U (fV3 (by omega)) (bX U (bQ (bH (gd (fun wz=>True) mixed (fun _ _=>trivial) fun z=>wq 0 U (bL U) (wq 1 U (bL U) (wq 2 U (bL U) (wq 3 U (bV (j:=hh) jW U U (by omega)) (wq 5 U (bL U) (wq 6 U (bL U) (wq 7 U (bV (j:=a) jW U U (by omega)) ?_)))))))))))))))))
   refine kK [4,8] (by kernel_rfl) U ⟨⟨_,U,?_⟩,⟨_,U,?_⟩,trivial⟩
   ·refine bB (dP (vs:= [.int .i64 x0,.string x1,.string x2,.int .i64 x3,.string x4]) fJ U (fun _ hm=>(gQ.get hm.k fB uJ)) hx U U) U ?_
    refine bE (nw 11 255 (fun _ _=>trivial) fun z=>eG 8 U (bB (dP (vs:= [.int .i64 y0,.string y1,.string y2,.int .i64 y3,.string y4]) fJ U (fun _ hm=>(gQ.get hm.k fB uJ)) hxa U U) U (bE (nw 11 511 (fun _ _=>trivial) fun z=>eG 9 U (cH U hF.1 U U (fun wx hm=>(hF.2 x0 x1 x2 x3 x4 y0 y1 y2 y3 y4 wx)) (bE (nw 11 1023 (fun _ _=>trivial) fun z=>wq 10 U (dE U U) (jO (bD ?_)))))))))
    refine cC U (fun hq=>?_) (fun hq=>?_)
    ·refine bI ?_
     have vO:dU ⟨x0,x1,x2,x3,x4⟩ ⟨y0,y1,y2,y3,y4⟩=true:=decide_eq_true hq
     refine bP U (gO U U (bX U (bE (bG ?_))))
     exact cN ((hh+1),j) ⟨by dsimp only;omega,by dsimp only;omega,hjb,.inr ⟨_,by dsimp only;rw [show hh+1 - 1=hh by omega];exact hx,vO⟩,hR⟩ (by dsimp only;omega) ⟨U,U,U,U,U,(cR (by dsimp only;omega)),U,trivial⟩ (fun _ hm=>hm.pick [] [] [] U U)
    refine bI ?_
    have vO:dU ⟨x0,x1,x2,x3,x4⟩ ⟨y0,y1,y2,y3,y4⟩=false:=decide_eq_false hq
    refine bP U (bX U (bE (bG ?_)))
    exact cN (i,hh) ⟨hi1,by dsimp only;omega,by dsimp only;omega,hL,.inr ⟨_,hx,vO⟩⟩ (by dsimp only;omega) ⟨U,U,U,U,U,U,U,trivial⟩ (fun _ hm=>hm.pick [] [] [] U U)
   refine bB (dP (vs:= [.int .i64 y0,.string y1,.string y2,.int .i64 y3,.string y4]) fJ U (fun _ hm=>(gQ.get hm.k fB uJ)) hxa U U) U (bE (nw 11 495 (fun _ _=>trivial) fun z=>eG 4 U (bB (dP (vs:= [.int .i64 x0,.string x1,.string x2,.int .i64 x3,.string x4]) fJ U (fun _ hm=>(gQ.get hm.k fB uJ)) hx U U) U (bE (nw 11 511 (fun _ _=>trivial) fun z=>eG 9 U (cH U hF.1 U U (fun wx hm=>(hF.2 x0 x1 x2 x3 x4 y0 y1 y2 y3 y4 wx)) (bE (nw 11 1023 (fun _ _=>trivial) fun z=>wq 10 U (dE U U) (jO (bD ?_))))))))))
   refine cC U (fun hq=>?_) (fun hq=>?_)
   ·refine bI ?_
    have vO:dU ⟨x0,x1,x2,x3,x4⟩ ⟨y0,y1,y2,y3,y4⟩=true:=decide_eq_true hq
    refine bP U (gO U U (bX U (bE (bG ?_))))
    exact cN ((hh+1),j) ⟨by dsimp only;omega,by dsimp only;omega,hjb,.inr ⟨_,by dsimp only;rw [show hh+1 - 1=hh by omega];exact hx,vO⟩,hR⟩ (by dsimp only;omega) ⟨U,U,U,U,U,(cR (by dsimp only;omega)),U,trivial⟩ (fun _ hm=>hm.pick [] [] [] U U)
   refine bI ?_
   have vO:dU ⟨x0,x1,x2,x3,x4⟩ ⟨y0,y1,y2,y3,y4⟩=false:=decide_eq_false hq
   refine bP U (bX U (bE (bG ?_)))
   exact cN (i,hh) ⟨hi1,by dsimp only;omega,by dsimp only;omega,hL,.inr ⟨_,hx,vO⟩⟩ (by dsimp only;omega) ⟨U,U,U,U,U,U,U,trivial⟩ (fun _ hm=>hm.pick [] [] [] U U)
  refine dD (bF (bF (bY (bD (bH (bR ?_))))))
  obtain rfl:i=j:=by omega
  refine bP U (bX U (bQ (bO ?_)))
  refine dX (γ:=Nat×List Ev) (fun g=>(a<=g.1/\g.1<=i - 1)/\g.2.length=n/\g.2=bL7 l0 a (g.1 - a)) (fun g=> [(0,.slice (some ⟨br,0,none⟩) n eW),(1,.int .i64 ((a:Nat):Int)),(2,.int .i64 ((mm:Nat):Int)),(3,.int .i64 ((b:Nat):Int)),(4,.func (.func fx) #[] #[]),(10,.int .i64 ((i:Nat):Int)),(13,.int .i64 ((g.1:Nat):Int))]) (fun g=>gQ base 74 5 n eW br ((g.2).flatMap dO)) (fun g=> []) (fun g=> []) (fun g=> []) (fun g=>i - 1 - g.1) (a,l0) ⟨⟨Nat.le_refl _,by dsimp only;omega⟩,uJ,by dsimp only;rw [Nat.sub_self];rfl⟩ ⟨U,U,U,U,U,U,U,trivial⟩ (fun _ hm=>hm.pick [] [] [] U U) ?_
  rintro ⟨k,m⟩ cB
  replace cB:(a<=k/\k<=i - 1)/\m.length=n/\m=bL7 l0 a (k - a):=cB
  dsimp only
  refine bH (bR ?_)
  obtain ⟨⟨hka,hki⟩,pP,hmk⟩:=cB
  refine bP U (bP U (bB (ov_sub U U (by omega) (by omega)) U (bB (dE U U) U (bQ ?_))))
  refine cC U (fun hk=>?_) (fun hk=>?_)
  ·refine bN (bD (bH (bO ?_)))
   have hk2:k+1 < n:=by omega
   obtain ⟨xx,hx⟩:∃x,m[k]?=some x:=⟨_,fW3 (by omega)⟩
   obtain ⟨x0,x1,x2,x3,x4⟩:=xx
   obtain ⟨yy,hy⟩:∃x,m[(k+1)]?=some x:=⟨_,fW3 (by omega)⟩
   obtain ⟨u0,u1,u2,u3,u4⟩:=yy
   refine gd (fun wz=>True) mixed (fun _ _=>trivial) fun z=>wq 0 U (bL U) (wq 1 U (bL U) (wq 2 U (bL U) (wq 3 U (bL U) (wq 4 U (ov_add U U (by omega) (by omega)) (dH 65 (v':= .int .i64 (((k+1):Nat):Int)) U (fV3 (by omega)) (wq 5 U (bL U) (wq 6 U (bL U) (wq 7 U (ov_add U U (by omega) (by omega)) (dH 68 (v':= .int .i64 (((k+1):Nat):Int)) U (fV3 (by omega)) (wq 8 U (bV (j:=(k+1)) jW U U (by omega)) (wq 10 U (bL U) (wq 11 U (bL U) (wq 12 U (bV (j:=k) jW U U (by omega)) ?_)))))))))))))
   refine kK [9,13] (by kernel_rfl) U ⟨⟨_,U,?_⟩,⟨_,U,?_⟩,trivial⟩
   ·refine bB (dP (vs:= [.int .i64 u0,.string u1,.string u2,.int .i64 u3,.string u4]) fJ U (fun _ hm=>(gQ.get hm.k fB pP)) hy U U) U ?_
    refine bE (nw 18 8191 (fun _ _=>trivial) fun z=>eG 13 U (bB (dP (vs:= [.int .i64 x0,.string x1,.string x2,.int .i64 x3,.string x4]) fJ U (fun _ hm=>(gQ.get hm.k fB pP)) hx U U) U (bE (nw 18 16383 (fun _ _=>trivial) fun z=>wq 14 U (bV (j:=k) jW U U (by omega)) (eG 15 U (eV (l:=m) (j:=k) (r:=0) (el:=⟨x0,x1,x2,x3,x4⟩) (el':=⟨u0,u1,u2,u3,u4⟩) U fJ U U U U fB U hx pP (by decide) U U (bE (nw 18 65535 (fun _ _=>trivial) fun z=>wq 16 U (bV (j:=(k+1)) jW U U (by omega)) (eG 17 U ?_)))))))))
    refine eV (l:=m.set k ⟨u0,u1,u2,u3,u4⟩) (j:=(k+1)) (r:=0) (el:=⟨u0,u1,u2,u3,u4⟩) (el':=⟨x0,x1,x2,x3,x4⟩) U fJ U U U U fB U (by rw [List.getElem?_set_ne (by omega)];exact hy) (by rw [List.length_set];exact pP) (by decide) U U ?_
    refine bE (nw 18 262143 (fun _ _=>trivial) fun z=>jO (bG (bD (bI (bP U (gO U U (bX U (bE ?_))))))))
    have hst:bL7 l0 a (k+1 - a)=(m.set k ⟨u0,u1,u2,u3,u4⟩).set (k+1) ⟨x0,x1,x2,x3,x4⟩:=by
     rw [show k+1 - a=(k - a)+1 by omega]
     unfold bL7
     rw [<-hmk,show a+(k - a)=k by omega]
     exact bO1 (l:=m) (a:=k) (b:=k+1) (k:=0) hx hy
    exact cN ((k+1),(m.set k ⟨u0,u1,u2,u3,u4⟩).set (k+1) ⟨x0,x1,x2,x3,x4⟩) ⟨⟨by dsimp only;omega,by dsimp only;omega⟩,by simp [pP],hst.symm⟩ (by dsimp only;omega) ⟨U,U,U,U,U,U,(cR (by dsimp only;omega)),trivial⟩ (fun _ hm=>hm.pick [] [] [] U U)
   refine bB (dP (vs:= [.int .i64 x0,.string x1,.string x2,.int .i64 x3,.string x4]) fJ U (fun _ hm=>(gQ.get hm.k fB pP)) hx U U) U (bE (nw 18 15871 (fun _ _=>trivial) fun z=>eG 9 U (bB (dP (vs:= [.int .i64 u0,.string u1,.string u2,.int .i64 u3,.string u4]) fJ U (fun _ hm=>(gQ.get hm.k fB pP)) hy U U) U (bE (nw 18 16383 (fun _ _=>trivial) fun z=>wq 14 U (bV (j:=k) jW U U (by omega)) (eG 15 U (eV (l:=m) (j:=k) (r:=0) (el:=⟨x0,x1,x2,x3,x4⟩) (el':=⟨u0,u1,u2,u3,u4⟩) U fJ U U U U fB U hx pP (by decide) U U (bE (nw 18 65535 (fun _ _=>trivial) fun z=>wq 16 U (bV (j:=(k+1)) jW U U (by omega)) (eG 17 U ?_))))))))))
   refine eV (l:=m.set k ⟨u0,u1,u2,u3,u4⟩) (j:=(k+1)) (r:=0) (el:=⟨u0,u1,u2,u3,u4⟩) (el':=⟨x0,x1,x2,x3,x4⟩) U fJ U U U U fB U (by rw [List.getElem?_set_ne (by omega)];exact hy) (by rw [List.length_set];exact pP) (by decide) U U ?_
   refine bE (nw 18 262143 (fun _ _=>trivial) fun z=>jO (bG (bD (bI (bP U (gO U U (bX U (bE ?_))))))))
   have hst:bL7 l0 a (k+1 - a)=(m.set k ⟨u0,u1,u2,u3,u4⟩).set (k+1) ⟨x0,x1,x2,x3,x4⟩:=by
    rw [show k+1 - a=(k - a)+1 by omega]
    unfold bL7
    rw [<-hmk,show a+(k - a)=k by omega]
    exact bO1 (l:=m) (a:=k) (b:=k+1) (k:=0) hx hy
   exact cN ((k+1),(m.set k ⟨u0,u1,u2,u3,u4⟩).set (k+1) ⟨x0,x1,x2,x3,x4⟩) ⟨⟨by dsimp only;omega,by dsimp only;omega⟩,by simp [pP],hst.symm⟩ (by dsimp only;omega) ⟨U,U,U,U,U,U,(cR (by dsimp only;omega)),trivial⟩ (fun _ hm=>hm.pick [] [] [] U U)
  refine dD (bF (bF (bY (bD (bM (bA ?_))))))
  obtain rfl:k=i - 1:=by omega
  obtain rfl:mm=a+1:=by omega
  refine cA7 U fun wx hm=>?_
  have hf:=mB hm.k hm.g
  exact ⟨m,dS9 vJ (by omega) hxa hsB hi1 (by omega) hL hR (by rw [pP,uJ]) (fun x=>by rw [hmk,cJ5 (by omega),show a+(i - 1 - a)+1=i by omega]),U,hf.1,hf.2⟩
 refine bN (bD (bH (bR (bP U (bP U (bB (ov_sub U U (by omega) (by omega)) U (bK 79 (v':= .int .i64 (((b - mm):Nat):Int)) U (fV3 (by omega)) (bB (eL U U) U (bQ ?_)))))))))
 refine cC U (fun h2=>?_) (fun h2=>?_)
 ·refine bR ?_
  obtain ⟨xa,hxa⟩:∃z,l0[mm]?=some z:=⟨_,fW3 (by omega)⟩
  obtain ⟨y0,y1,y2,y3,y4⟩:=xa
  refine bP U (bX U (bQ (bR (bP U (bX U (bQ (bH (bO ?_))))))))
  refine dX (γ:=Nat×Nat) (fun g=>a<=g.1/\g.1<=g.2/\g.2<=mm/\(g.1=a∨∃q,l0[g.1 - 1]?=some q/\dU ⟨y0,y1,y2,y3,y4⟩ q=false)/\(g.2=mm∨∃q,l0[g.2]?=some q/\dU ⟨y0,y1,y2,y3,y4⟩ q=true)) (fun g=> [(0,.slice (some ⟨br,0,none⟩) n eW),(1,.int .i64 ((a:Nat):Int)),(2,.int .i64 ((mm:Nat):Int)),(3,.int .i64 ((b:Nat):Int)),(4,.func (.func fx) #[] #[]),(14,.int .i64 ((g.1:Nat):Int)),(15,.int .i64 ((g.2:Nat):Int))]) (fun g=>gQ base 74 5 n eW br ((l0).flatMap dO)) (fun g=> []) (fun g=> []) (fun g=> []) (fun g=>g.2 - g.1) (a,mm) ⟨Nat.le_refl _,by dsimp only;omega,Nat.le_refl _,.inl rfl,.inl rfl⟩ ⟨U,U,U,U,U,U,U,trivial⟩ (fun _ hm=>hm.pick [] [] [] U U) ?_
  rintro ⟨i,j⟩ cB
  replace cB:a<=i/\i<=j/\j<=mm/\(i=a∨∃q,l0[i - 1]?=some q/\dU ⟨y0,y1,y2,y3,y4⟩ q=false)/\(j=mm∨∃q,l0[j]?=some q/\dU ⟨y0,y1,y2,y3,y4⟩ q=true):=cB
  dsimp only
  refine bH (bR ?_)
  obtain ⟨hi1,hij,hjb,hL,hR⟩:=cB
  refine bP U (bP U (bB (dE U U) U (bQ ?_)))
  refine cC U (fun hlt=>?_) (fun hlt=>?_)
  ·refine bN (bD (bO (bR ?_)))
   obtain ⟨hh,hhd⟩:∃z,z=(i+j) / 2:=⟨_,rfl⟩
   have hh1:i<=hh:=by omega
   have hh2:hh < j:=by omega
   obtain ⟨xx,hx⟩:∃x,l0[hh]?=some x:=⟨_,fW3 (by omega)⟩
   obtain ⟨x0,x1,x2,x3,x4⟩:=xx
   refine bP U (bP U (gO U U (bK 88 (v':= .int .i64 (((i+j):Nat):Int)) U (fV3 (by omega)) (bB (cC0 (a:=(i+j)) (by kernel_rfl) (by kernel_rfl) U (by omega)) U (bB (bF0 (a:=(i+j)) U U) U (bB (bB6 (a:=(i+j) / 2) (by kernel_rfl) (by kernel_rfl) U (by omega)) U (bK 91 (v':= .int .i64 ((hh:Nat):Int)) U (fV3 (by omega)) (bX U (bQ (bH (gd (fun wz=>True) mixed (fun _ _=>trivial) fun z=>wq 0 U (bL U) (wq 1 U (bL U) (wq 2 U (bL U) (wq 3 U (bV (j:=mm) jW U U (by omega)) (wq 5 U (bL U) (wq 6 U (bL U) (wq 7 U (bV (j:=hh) jW U U (by omega)) ?_)))))))))))))))))
   refine kK [4,8] (by kernel_rfl) U ⟨⟨_,U,?_⟩,⟨_,U,?_⟩,trivial⟩
   ·refine bB (dP (vs:= [.int .i64 y0,.string y1,.string y2,.int .i64 y3,.string y4]) fJ U (fun _ hm=>(gQ.get hm.k fB uJ)) hxa U U) U ?_
    refine bE (nw 12 255 (fun _ _=>trivial) fun z=>eG 8 U (bB (dP (vs:= [.int .i64 x0,.string x1,.string x2,.int .i64 x3,.string x4]) fJ U (fun _ hm=>(gQ.get hm.k fB uJ)) hx U U) U (bE (nw 12 511 (fun _ _=>trivial) fun z=>eG 9 U (cH U hF.1 U U (fun wx hm=>(hF.2 y0 y1 y2 y3 y4 x0 x1 x2 x3 x4 wx)) (bE (nw 12 1023 (fun _ _=>trivial) fun z=>wq 10 U (dE U U) (wq 11 U (cE U) (jO (bD ?_))))))))))
    refine dC U (fun hh=>?_) (fun hh=>?_)
    ·have hq:(decide (jP ⟨y0,y1,y2,y3,y4⟩ ⟨x0,x1,x2,x3,x4⟩ < 0))=false:=by simpa using hh
     clear hh
     refine bI ?_
     have vO:dU ⟨y0,y1,y2,y3,y4⟩ ⟨x0,x1,x2,x3,x4⟩=false:=decide_eq_false (by first|exact hq|simpa using hq)
     refine bP U (gO U U (bX U (bE (bG ?_))))
     exact cN ((hh+1),j) ⟨by dsimp only;omega,by dsimp only;omega,hjb,.inr ⟨_,by dsimp only;rw [show hh+1 - 1=hh by omega];exact hx,vO⟩,hR⟩ (by dsimp only;omega) ⟨U,U,U,U,U,(cR (by dsimp only;omega)),U,trivial⟩ (fun _ hm=>hm.pick [] [] [] U U)
    have hq:(decide (jP ⟨y0,y1,y2,y3,y4⟩ ⟨x0,x1,x2,x3,x4⟩ < 0))=true:=by simpa using hh
    clear hh
    refine bI ?_
    have vO:dU ⟨y0,y1,y2,y3,y4⟩ ⟨x0,x1,x2,x3,x4⟩=true:=decide_eq_true (by first|exact hq|simpa using hq)
    refine bP U (bX U (bE (bG ?_)))
    exact cN (i,hh) ⟨hi1,by dsimp only;omega,by dsimp only;omega,hL,.inr ⟨_,hx,vO⟩⟩ (by dsimp only;omega) ⟨U,U,U,U,U,U,U,trivial⟩ (fun _ hm=>hm.pick [] [] [] U U)
   refine bB (dP (vs:= [.int .i64 x0,.string x1,.string x2,.int .i64 x3,.string x4]) fJ U (fun _ hm=>(gQ.get hm.k fB uJ)) hx U U) U (bE (nw 12 495 (fun _ _=>trivial) fun z=>eG 4 U (bB (dP (vs:= [.int .i64 y0,.string y1,.string y2,.int .i64 y3,.string y4]) fJ U (fun _ hm=>(gQ.get hm.k fB uJ)) hxa U U) U (bE (nw 12 511 (fun _ _=>trivial) fun z=>eG 9 U (cH U hF.1 U U (fun wx hm=>(hF.2 y0 y1 y2 y3 y4 x0 x1 x2 x3 x4 wx)) (bE (nw 12 1023 (fun _ _=>trivial) fun z=>wq 10 U (dE U U) (wq 11 U (cE U) (jO (bD ?_)))))))))))
   refine dC U (fun hh=>?_) (fun hh=>?_)
   ·have hq:(decide (jP ⟨y0,y1,y2,y3,y4⟩ ⟨x0,x1,x2,x3,x4⟩ < 0))=false:=by simpa using hh
    clear hh
    refine bI ?_
    have vO:dU ⟨y0,y1,y2,y3,y4⟩ ⟨x0,x1,x2,x3,x4⟩=false:=decide_eq_false (by first|exact hq|simpa using hq)
    refine bP U (gO U U (bX U (bE (bG ?_))))
    exact cN ((hh+1),j) ⟨by dsimp only;omega,by dsimp only;omega,hjb,.inr ⟨_,by dsimp only;rw [show hh+1 - 1=hh by omega];exact hx,vO⟩,hR⟩ (by dsimp only;omega) ⟨U,U,U,U,U,(cR (by dsimp only;omega)),U,trivial⟩ (fun _ hm=>hm.pick [] [] [] U U)
   have hq:(decide (jP ⟨y0,y1,y2,y3,y4⟩ ⟨x0,x1,x2,x3,x4⟩ < 0))=true:=by simpa using hh
   clear hh
   refine bI ?_
   have vO:dU ⟨y0,y1,y2,y3,y4⟩ ⟨x0,x1,x2,x3,x4⟩=true:=decide_eq_true (by first|exact hq|simpa using hq)
   refine bP U (bX U (bE (bG ?_)))
   exact cN (i,hh) ⟨hi1,by dsimp only;omega,by dsimp only;omega,hL,.inr ⟨_,hx,vO⟩⟩ (by dsimp only;omega) ⟨U,U,U,U,U,U,U,trivial⟩ (fun _ hm=>hm.pick [] [] [] U U)
  refine dD (bF (bF (bY (bD (bH (bR ?_))))))
  obtain rfl:i=j:=by omega
  refine bP U (bX U (bQ (bO ?_)))
  refine dX (γ:=Nat×List Ev) (fun g=>(i<=g.1/\g.1<=mm)/\g.2.length=n/\g.2=bK7 l0 mm (mm - g.1)) (fun g=> [(0,.slice (some ⟨br,0,none⟩) n eW),(1,.int .i64 ((a:Nat):Int)),(2,.int .i64 ((mm:Nat):Int)),(3,.int .i64 ((b:Nat):Int)),(4,.func (.func fx) #[] #[]),(14,.int .i64 ((i:Nat):Int)),(17,.int .i64 ((g.1:Nat):Int))]) (fun g=>gQ base 74 5 n eW br ((g.2).flatMap dO)) (fun g=> []) (fun g=> []) (fun g=> []) (fun g=>g.1 - i) (mm,l0) ⟨⟨hjb,Nat.le_refl _⟩,uJ,by dsimp only;rw [Nat.sub_self];rfl⟩ ⟨U,U,U,U,U,U,U,trivial⟩ (fun _ hm=>hm.pick [] [] [] U U) ?_
  rintro ⟨k,m⟩ cB
  replace cB:(i<=k/\k<=mm)/\m.length=n/\m=bK7 l0 mm (mm - k):=cB
  dsimp only
  refine bH (bR ?_)
  obtain ⟨⟨hka,hki⟩,pP,hmk⟩:=cB
  refine bP U (bP U (bB (eK U U) U (bQ ?_)))
  refine cC U (fun hk=>?_) (fun hk=>?_)
  ·refine bN (bD (bH (bO ?_)))
   obtain ⟨k,rfl⟩:∃q,k=q+1:=⟨k - 1,by omega⟩
   have hk2:k+1 < n:=by omega
   obtain ⟨xx,hx⟩:∃x,m[k]?=some x:=⟨_,fW3 (by omega)⟩
   obtain ⟨x0,x1,x2,x3,x4⟩:=xx
   obtain ⟨yy,hy⟩:∃x,m[(k+1)]?=some x:=⟨_,fW3 (by omega)⟩
   obtain ⟨u0,u1,u2,u3,u4⟩:=yy
   refine gd (fun wz=>True) mixed (fun _ _=>trivial) fun z=>wq 0 U (bL U) (wq 1 U (bL U) (wq 2 U (bL U) (wq 3 U (bL U) (wq 4 U (ov_sub U U (by omega) (by omega)) (dH 117 (v':= .int .i64 ((k:Nat):Int)) U (fV3 (by omega)) (wq 5 U (bL U) (wq 6 U (bL U) (wq 7 U (ov_sub U U (by omega) (by omega)) (dH 120 (v':= .int .i64 ((k:Nat):Int)) U (fV3 (by omega)) (wq 8 U (bV (j:=k) jW U U (by omega)) (wq 10 U (bL U) (wq 11 U (bL U) (wq 12 U (bV (j:=(k+1)) jW U U (by omega)) ?_)))))))))))))
   refine kK [9,13] (by kernel_rfl) U ⟨⟨_,U,?_⟩,⟨_,U,?_⟩,trivial⟩
   ·refine bB (dP (vs:= [.int .i64 x0,.string x1,.string x2,.int .i64 x3,.string x4]) fJ U (fun _ hm=>(gQ.get hm.k fB pP)) hx U U) U ?_
    refine bE (nw 18 8191 (fun _ _=>trivial) fun z=>eG 13 U (bB (dP (vs:= [.int .i64 u0,.string u1,.string u2,.int .i64 u3,.string u4]) fJ U (fun _ hm=>(gQ.get hm.k fB pP)) hy U U) U (bE (nw 18 16383 (fun _ _=>trivial) fun z=>wq 14 U (bV (j:=(k+1)) jW U U (by omega)) (eG 15 U (eV (l:=m) (j:=(k+1)) (r:=0) (el:=⟨u0,u1,u2,u3,u4⟩) (el':=⟨x0,x1,x2,x3,x4⟩) U fJ U U U U fB U hy pP (by decide) U U (bE (nw 18 65535 (fun _ _=>trivial) fun z=>wq 16 U (bV (j:=k) jW U U (by omega)) (eG 17 U ?_)))))))))
    refine eV (l:=m.set (k+1) ⟨x0,x1,x2,x3,x4⟩) (j:=k) (r:=0) (el:=⟨x0,x1,x2,x3,x4⟩) (el':=⟨u0,u1,u2,u3,u4⟩) U fJ U U U U fB U (by rw [List.getElem?_set_ne (by omega)];exact hx) (by rw [List.length_set];exact pP) (by decide) U U ?_
    refine bE (nw 18 262143 (fun _ _=>trivial) fun z=>jO (bG (bD (bI (bP U (bB (ov_sub U U (by omega) (by omega)) U (bK 112 (v':= .int .i64 ((k:Nat):Int)) U (fV3 (by omega)) (bX U (bE ?_)))))))))
    have hcm:(m.set (k+1) ⟨x0,x1,x2,x3,x4⟩).set k ⟨u0,u1,u2,u3,u4⟩=(m.set k ⟨u0,u1,u2,u3,u4⟩).set (k+1) ⟨x0,x1,x2,x3,x4⟩:=List.set_comm _ _ (by omega)
    rw [hcm]
    have hst:bK7 l0 mm (mm - k)=(m.set k ⟨u0,u1,u2,u3,u4⟩).set (k+1) ⟨x0,x1,x2,x3,x4⟩:=by
     rw [show mm - k=(mm - (k+1))+1 by omega]
     unfold bK7
     rw [<-hmk,show mm - (mm - (k+1)) - 1=k by omega,show mm - (mm - (k+1))=k+1 by omega]
     exact bO1 (l:=m) (a:=k) (b:=k+1) (k:=0) hx hy
    exact cN (k,(m.set k ⟨u0,u1,u2,u3,u4⟩).set (k+1) ⟨x0,x1,x2,x3,x4⟩) ⟨⟨by dsimp only;omega,by dsimp only;omega⟩,by simp [pP],hst.symm⟩ (by dsimp only;omega) ⟨U,U,U,U,U,U,U,trivial⟩ (fun _ hm=>hm.pick [] [] [] U U)
   refine bB (dP (vs:= [.int .i64 u0,.string u1,.string u2,.int .i64 u3,.string u4]) fJ U (fun _ hm=>(gQ.get hm.k fB pP)) hy U U) U (bE (nw 18 15871 (fun _ _=>trivial) fun z=>eG 9 U (bB (dP (vs:= [.int .i64 x0,.string x1,.string x2,.int .i64 x3,.string x4]) fJ U (fun _ hm=>(gQ.get hm.k fB pP)) hx U U) U (bE (nw 18 16383 (fun _ _=>trivial) fun z=>wq 14 U (bV (j:=(k+1)) jW U U (by omega)) (eG 15 U (eV (l:=m) (j:=(k+1)) (r:=0) (el:=⟨u0,u1,u2,u3,u4⟩) (el':=⟨x0,x1,x2,x3,x4⟩) U fJ U U U U fB U hy pP (by decide) U U (bE (nw 18 65535 (fun _ _=>trivial) fun z=>wq 16 U (bV (j:=k) jW U U (by omega)) (eG 17 U ?_))))))))))
   refine eV (l:=m.set (k+1) ⟨x0,x1,x2,x3,x4⟩) (j:=k) (r:=0) (el:=⟨x0,x1,x2,x3,x4⟩) (el':=⟨u0,u1,u2,u3,u4⟩) U fJ U U U U fB U (by rw [List.getElem?_set_ne (by omega)];exact hx) (by rw [List.length_set];exact pP) (by decide) U U ?_
   refine bE (nw 18 262143 (fun _ _=>trivial) fun z=>jO (bG (bD (bI (bP U (bB (ov_sub U U (by omega) (by omega)) U (bK 112 (v':= .int .i64 ((k:Nat):Int)) U (fV3 (by omega)) (bX U (bE ?_)))))))))
   have hcm:(m.set (k+1) ⟨x0,x1,x2,x3,x4⟩).set k ⟨u0,u1,u2,u3,u4⟩=(m.set k ⟨u0,u1,u2,u3,u4⟩).set (k+1) ⟨x0,x1,x2,x3,x4⟩:=List.set_comm _ _ (by omega)
   rw [hcm]
   have hst:bK7 l0 mm (mm - k)=(m.set k ⟨u0,u1,u2,u3,u4⟩).set (k+1) ⟨x0,x1,x2,x3,x4⟩:=by
    rw [show mm - k=(mm - (k+1))+1 by omega]
    unfold bK7
    rw [<-hmk,show mm - (mm - (k+1)) - 1=k by omega,show mm - (mm - (k+1))=k+1 by omega]
    exact bO1 (l:=m) (a:=k) (b:=k+1) (k:=0) hx hy
   exact cN (k,(m.set k ⟨u0,u1,u2,u3,u4⟩).set (k+1) ⟨x0,x1,x2,x3,x4⟩) ⟨⟨by dsimp only;omega,by dsimp only;omega⟩,by simp [pP],hst.symm⟩ (by dsimp only;omega) ⟨U,U,U,U,U,U,U,trivial⟩ (fun _ hm=>hm.pick [] [] [] U U)
  refine dD (bF (bF (bY (bD (bM (bA ?_))))))
  obtain rfl:k=i:=by omega
  obtain rfl:b=mm+1:=by omega
  refine cA7 U fun wx hm=>?_
  have hf:=mB hm.k hm.g
  exact ⟨m,dT9 vJ (by omega) hxa hsA hi1 hki hL hR (by rw [pP,uJ]) (fun x=>by rw [hmk,cH5 (by omega) (by omega),show mm - (mm - k)=k by omega]),U,hf.1,hf.2⟩
 refine bN (bD (bR ?_))
 obtain ⟨qG,hmid⟩:∃z,z=(a+b) / 2:=⟨_,rfl⟩
 refine bP U (bP U (gO U U (bK 131 (v':= .int .i64 (((a+b):Nat):Int)) U (fV3 (by omega)) (bB (cC0 (a:=(a+b)) (by kernel_rfl) (by kernel_rfl) U (by omega)) U (bB (bF0 (a:=(a+b)) U U) U (bB (bB6 (a:=(a+b) / 2) (by kernel_rfl) (by kernel_rfl) U (by omega)) U (bK 134 (v':= .int .i64 ((qG:Nat):Int)) U (fV3 (by omega)) (bX U (bQ (bR (bP U (bP U (gO U U (bK 137 (v':= .int .i64 (((qG+mm):Nat):Int)) U (fV3 (by omega)) (bX U (bQ (bR (bX U (bX U (bQ ?_))))))))))))))))))))
 refine pB (γ:=Nat×Nat) (I:=(fun g=>(a<=g.1/\g.1<=g.2)/\(g.2<=mm/\g.2<=qG)/\(qG+mm - b<=g.1)/\(g.1=a∨(g.1=qG+mm - b/\b<=qG+mm))/\(g.2=mm∨g.2=qG))) (S':=(fun g=> [(0,.slice (some ⟨br,0,none⟩) n eW),(1,.int .i64 ((a:Nat):Int)),(2,.int .i64 ((mm:Nat):Int)),(3,.int .i64 ((b:Nat):Int)),(4,.func (.func fx) #[] #[]),(18,.int .i64 ((qG:Nat):Int)),(19,.int .i64 (((qG+mm):Nat):Int)),(20,.int .i64 ((g.1:Nat):Int)),(21,.int .i64 ((g.2:Nat):Int))])) (K':=(fun g=>gQ base 74 5 n eW br ((l0).flatMap dO))) (L':=(fun g=> [])) (O':=(fun g=> [])) (X':=(fun g=> [])) ?_ ?_
 ·refine bR (bP U (bP U ?_))
  refine bB (eK U U) U (bQ ?_)
  refine cC U (fun hgt=>?_) (fun hgt=>?_)
  ·refine bR (bP U (bP U ?_))
   refine bB (ov_sub U U (by omega) (by omega)) U (bK 143 (v':= .int .i64 (((qG+mm - b):Nat):Int)) U (fV3 (by omega)) (bX U (bQ (bI (bP U (bX U (bE ?_)))))))
   exact fK ((qG+mm - b),qG) ⟨⟨by dsimp only;omega,by dsimp only;omega⟩,⟨by dsimp only;omega,Nat.le_refl _⟩,Nat.le_refl _,.inr ⟨U,by omega⟩,.inr U⟩ ⟨U,U,U,U,U,U,U,U,U,trivial⟩ (fun _ hm=>hm.pick [] [] [] U U)
  refine bR (bP U (bX U (bQ (bI (bP U (bX U (bE ?_)))))))
  exact fK (a,mm) ⟨⟨Nat.le_refl _,by dsimp only;omega⟩,⟨Nat.le_refl _,by dsimp only;omega⟩,by dsimp only;omega,.inl rfl,.inl rfl⟩ ⟨U,U,U,U,U,U,U,U,U,trivial⟩ (fun _ hm=>hm.pick [] [] [] U U)
 rintro ⟨lo,hi⟩ cB
 replace cB:(a<=lo/\lo<=hi)/\(hi<=mm/\hi<=qG)/\(qG+mm - b<=lo)/\(lo=a∨(lo=qG+mm - b/\b<=qG+mm))/\(hi=mm∨hi=qG):=cB
 dsimp only
 refine bR ?_
 obtain ⟨⟨q1,q2⟩,⟨q3,q4⟩,q5,q6,q7⟩:=cB
 refine bP U (bB (ov_sub U U (by omega) (by omega)) U (bK 148 (v':= .int .i64 (((qG+mm - 1):Nat):Int)) U (fV3 (by omega)) (bX U (bQ (bH (bO ?_))))))
 refine dX (γ:=Nat×Nat) (fun g=>lo<=g.1/\g.1<=g.2/\g.2<=hi/\(g.1=lo∨∃u v,l0[g.1 - 1]?=some u/\l0[qG+mm - g.1]?=some v/\dU v u=false)/\(g.2=hi∨∃u v,l0[g.2]?=some u/\l0[qG+mm - 1 - g.2]?=some v/\dU v u=true)) (fun g=> [(0,.slice (some ⟨br,0,none⟩) n eW),(1,.int .i64 ((a:Nat):Int)),(2,.int .i64 ((mm:Nat):Int)),(3,.int .i64 ((b:Nat):Int)),(4,.func (.func fx) #[] #[]),(18,.int .i64 ((qG:Nat):Int)),(19,.int .i64 (((qG+mm):Nat):Int)),(20,.int .i64 ((g.1:Nat):Int)),(21,.int .i64 ((g.2:Nat):Int)),(22,.int .i64 (((qG+mm - 1):Nat):Int))]) (fun g=>gQ base 74 5 n eW br ((l0).flatMap dO)) (fun g=> []) (fun g=> []) (fun g=> []) (fun g=>g.2 - g.1) (lo,hi) ⟨Nat.le_refl _,q2,Nat.le_refl _,.inl U,.inl U⟩ ⟨U,U,U,U,U,U,U,U,U,U,trivial⟩ (fun _ hm=>hm.pick [] [] [] U U) ?_
 rintro ⟨i,j⟩ cB
 replace cB:lo<=i/\i<=j/\j<=hi/\(i=lo∨∃u v,l0[i - 1]?=some u/\l0[qG+mm - i]?=some v/\dU v u=false)/\(j=hi∨∃u v,l0[j]?=some u/\l0[qG+mm - 1 - j]?=some v/\dU v u=true):=cB
 dsimp only
 refine bH (bR ?_)
 obtain ⟨hi1,hij,hjb,hL,hR⟩:=cB
 refine bP U (bP U (bB (dE U U) U (bQ ?_)))
 refine cC U (fun hlt=>?_) (fun hlt=>?_)
 ·refine bN (bD (bO (bR ?_)))
  obtain ⟨hh,hhd⟩:∃z,z=(i+j) / 2:=⟨_,rfl⟩
  have hh1:i<=hh:=by omega
  have hh2:hh < j:=by omega
  obtain ⟨xx,hx⟩:∃x,l0[(qG+mm - 1 - hh)]?=some x:=⟨_,fW3 (by omega)⟩
  obtain ⟨x0,x1,x2,x3,x4⟩:=xx
  obtain ⟨yy,hy⟩:∃x,l0[hh]?=some x:=⟨_,fW3 (by omega)⟩
  obtain ⟨y0,y1,y2,y3,y4⟩:=yy
  refine bP U (bP U (gO U U (bK 154 (v':= .int .i64 (((i+j):Nat):Int)) U (fV3 (by omega)) (bB (cC0 (a:=(i+j)) (by kernel_rfl) (by kernel_rfl) U (by omega)) U (bB (bF0 (a:=(i+j)) U U) U (bB (bB6 (a:=(i+j) / 2) (by kernel_rfl) (by kernel_rfl) U (by omega)) U (bK 157 (v':= .int .i64 ((hh:Nat):Int)) U (fV3 (by omega)) (bX U (bQ (bH (gd (fun wz=>True) mixed (fun _ _=>trivial) fun z=>wq 0 U (bL U) (wq 1 U (bL U) (wq 2 U (bL U) (wq 3 U (bL U) (wq 4 U (ov_sub U U (by omega) (by omega)) (dH 162 (v':= .int .i64 (((qG+mm - 1 - hh):Nat):Int)) U (fV3 (by omega)) (wq 5 U (bV (j:=(qG+mm - 1 - hh)) jW U U (by omega)) (wq 7 U (bL U) (wq 8 U (bL U) (wq 9 U (bV (j:=hh) jW U U (by omega)) ?_))))))))))))))))))))
  refine kK [6,10] (by kernel_rfl) U ⟨⟨_,U,?_⟩,⟨_,U,?_⟩,trivial⟩
  ·refine bB (dP (vs:= [.int .i64 x0,.string x1,.string x2,.int .i64 x3,.string x4]) fJ U (fun _ hm=>(gQ.get hm.k fB uJ)) hx U U) U ?_
   refine bE (nw 14 1023 (fun _ _=>trivial) fun z=>eG 10 U (bB (dP (vs:= [.int .i64 y0,.string y1,.string y2,.int .i64 y3,.string y4]) fJ U (fun _ hm=>(gQ.get hm.k fB uJ)) hy U U) U (bE (nw 14 2047 (fun _ _=>trivial) fun z=>eG 11 U (cH U hF.1 U U (fun wx hm=>(hF.2 x0 x1 x2 x3 x4 y0 y1 y2 y3 y4 wx)) (bE (nw 14 4095 (fun _ _=>trivial) fun z=>wq 12 U (dE U U) (wq 13 U (cE U) (jO (bD ?_))))))))))
   refine dC U (fun hh=>?_) (fun hh=>?_)
   ·have hq:(decide (jP ⟨x0,x1,x2,x3,x4⟩ ⟨y0,y1,y2,y3,y4⟩ < 0))=false:=by simpa using hh
    clear hh
    refine bI ?_
    have vO:dU ⟨x0,x1,x2,x3,x4⟩ ⟨y0,y1,y2,y3,y4⟩=false:=decide_eq_false (by first|exact hq|simpa using hq)
    refine bP U (gO U U (bX U (bE (bG ?_))))
    exact cN ((hh+1),j) ⟨by dsimp only;omega,by dsimp only;omega,hjb,.inr ⟨_,_,by dsimp only;rw [show hh+1 - 1=hh by omega];exact hy,by dsimp only;rw [show qG+mm - (hh+1)=qG+mm - 1 - hh by omega];exact hx,vO⟩,hR⟩ (by dsimp only;omega) ⟨U,U,U,U,U,U,U,(cR (by dsimp only;omega)),U,U,trivial⟩ (fun _ hm=>hm.pick [] [] [] U U)
   have hq:(decide (jP ⟨x0,x1,x2,x3,x4⟩ ⟨y0,y1,y2,y3,y4⟩ < 0))=true:=by simpa using hh
   clear hh
   refine bI ?_
   have vO:dU ⟨x0,x1,x2,x3,x4⟩ ⟨y0,y1,y2,y3,y4⟩=true:=decide_eq_true (by first|exact hq|simpa using hq)
   refine bP U (bX U (bE (bG ?_)))
   exact cN (i,hh) ⟨hi1,by dsimp only;omega,by dsimp only;omega,hL,.inr ⟨_,_,hy,hx,vO⟩⟩ (by dsimp only;omega) ⟨U,U,U,U,U,U,U,U,U,U,trivial⟩ (fun _ hm=>hm.pick [] [] [] U U)
  refine bB (dP (vs:= [.int .i64 y0,.string y1,.string y2,.int .i64 y3,.string y4]) fJ U (fun _ hm=>(gQ.get hm.k fB uJ)) hy U U) U (bE (nw 14 1983 (fun _ _=>trivial) fun z=>eG 6 U (bB (dP (vs:= [.int .i64 x0,.string x1,.string x2,.int .i64 x3,.string x4]) fJ U (fun _ hm=>(gQ.get hm.k fB uJ)) hx U U) U (bE (nw 14 2047 (fun _ _=>trivial) fun z=>eG 11 U (cH U hF.1 U U (fun wx hm=>(hF.2 x0 x1 x2 x3 x4 y0 y1 y2 y3 y4 wx)) (bE (nw 14 4095 (fun _ _=>trivial) fun z=>wq 12 U (dE U U) (wq 13 U (cE U) (jO (bD ?_)))))))))))
  refine dC U (fun hh=>?_) (fun hh=>?_)
  ·have hq:(decide (jP ⟨x0,x1,x2,x3,x4⟩ ⟨y0,y1,y2,y3,y4⟩ < 0))=false:=by simpa using hh
   clear hh
   refine bI ?_
   have vO:dU ⟨x0,x1,x2,x3,x4⟩ ⟨y0,y1,y2,y3,y4⟩=false:=decide_eq_false (by first|exact hq|simpa using hq)
   refine bP U (gO U U (bX U (bE (bG ?_))))
   exact cN ((hh+1),j) ⟨by dsimp only;omega,by dsimp only;omega,hjb,.inr ⟨_,_,by dsimp only;rw [show hh+1 - 1=hh by omega];exact hy,by dsimp only;rw [show qG+mm - (hh+1)=qG+mm - 1 - hh by omega];exact hx,vO⟩,hR⟩ (by dsimp only;omega) ⟨U,U,U,U,U,U,U,(cR (by dsimp only;omega)),U,U,trivial⟩ (fun _ hm=>hm.pick [] [] [] U U)
  have hq:(decide (jP ⟨x0,x1,x2,x3,x4⟩ ⟨y0,y1,y2,y3,y4⟩ < 0))=true:=by simpa using hh
  clear hh
  refine bI ?_
  have vO:dU ⟨x0,x1,x2,x3,x4⟩ ⟨y0,y1,y2,y3,y4⟩=true:=decide_eq_true (by first|exact hq|simpa using hq)
  refine bP U (bX U (bE (bG ?_)))
  exact cN (i,hh) ⟨hi1,by dsimp only;omega,by dsimp only;omega,hL,.inr ⟨_,_,hy,hx,vO⟩⟩ (by dsimp only;omega) ⟨U,U,U,U,U,U,U,U,U,U,trivial⟩ (fun _ hm=>hm.pick [] [] [] U U)
 refine dD (bF (bF (bY (bD (bR ?_)))))
 obtain rfl:i=j:=by omega
 obtain ⟨e,he⟩:∃z,z=qG+mm - i:=⟨_,rfl⟩
 have e1:a<=i:=by omega
 have e2:i<=mm:=by omega
 have e3:mm<=e:=by omega
 have e4:e<=b:=by omega
 have e5:qG=i+(e - mm):=by omega
 have w1:i=a∨e=b∨∃x y,l0[i - 1]?=some x/\l0[e]?=some y/\dU y x=false:=by
  rcases hL with h3|⟨u,v,h3,h4,h5⟩
  ·rcases q6 with h4|h4
   ·exact .inl (by omega)
   exact .inr (.inl (by omega))
  exact .inr (.inr ⟨u,v,h3,by rw [he];exact h4,h5⟩)
 have w2:e=mm∨i=mm∨∃x y,l0[i]?=some x/\l0[e - 1]?=some y/\dU y x=true:=by
  rcases hR with h3|⟨u,v,h3,h4,h5⟩
  ·rcases q7 with h4|h4
   ·exact .inr (.inl (by omega))
   exact .inl (by omega)
  exact .inr (.inr ⟨u,v,h3,by rw [show e - 1=qG+mm - 1 - i by omega];exact h4,h5⟩)
 refine bP U (bP U (bB (ov_sub U U (by omega) (by omega)) U (bK 177 (v':= .int .i64 ((e:Nat):Int)) U (fV3 (by omega)) (bX U (bQ ?_)))))
 refine pB (γ:=List Ev) (I:=(fun (l1:List Ev)=>l1.length=n/\∀x,l1[x]?=kI l0 i mm e x)) (S':=(fun (l1:List Ev)=> [(0,.slice (some ⟨br,0,none⟩) n eW),(1,.int .i64 ((a:Nat):Int)),(3,.int .i64 ((b:Nat):Int)),(4,.func (.func fx) #[] #[]),(18,.int .i64 ((qG:Nat):Int)),(20,.int .i64 ((i:Nat):Int)),(24,.int .i64 ((e:Nat):Int))])) (K':=(fun (l1:List Ev)=>gQ base 74 5 n eW br ((l1).flatMap dO))) (L':=(fun (l1:List Ev)=> [])) (O':=(fun (l1:List Ev)=> [])) (X':=(fun (l1:List Ev)=> [])) ?_ ?_
 ·refine bR (bP U (bP U (bB (dE U U) U (bP U ?_))))
  rcases Bool.eq_false_or_eq_true (decide (((i:Nat):Int) < ((mm:Nat):Int))) with hb|hb
  ·refine bK 181 U (fU3 hb) ?_
   replace hb:=of_decide_eq_true hb
   refine eE U (bP U (eE U (bP U (eE U (bB (dE U U) U (mN U U (bQ ?_)))))))
   refine cC U (fun hb2=>?_) (fun hb2=>?_)
   ·refine bI (bP U (bP U (bP U (bP U (bP U ?_)))))
    refine gD (γ:=List Ev) (val:=fun _=> .tuple #[]) (φ:=fun R=>R.length=n/\∀x,R[x]?=kI l0 i mm e x) (K':=fun R=>gQ base 74 5 n eW br ((R).flatMap dO)) (L':=fun _=> []) (O':=fun _=> []) (X':=fun _=> []) U eA9 U U (fun wx hm=>((dS4 fx l0 br n eW base i mm e wx hm.k uJ hn (by omega) (by omega) (by omega))).mono fun _ _ ⟨R_,h1,he,ho,hg⟩=>⟨R_,he,h1,hm.turned U U ho hg⟩) ?_
    intro R hR
    refine bE ?_
    exact fK R hR ⟨U,U,U,U,U,U,U,trivial⟩ (fun _ hm=>hm.pick [] [] [] U U)
   refine bN ?_
   exact fK l0 ⟨uJ,fun x=>cF7 (by omega) e2 e3 x⟩ ⟨U,U,U,U,U,U,U,trivial⟩ (fun _ hm=>hm.pick [] [] [] U U)
  refine bK 181 U (fU3 hb) ?_
  replace hb:=of_decide_eq_false hb
  refine dZ U (dZ U (dZ U (nR U U (bQ (jQ U (bN ?_))))))
  exact fK l0 ⟨uJ,fun x=>cF7 (by omega) e2 e3 x⟩ ⟨U,U,U,U,U,U,U,trivial⟩ (fun _ hm=>hm.pick [] [] [] U U)
 intro l1 cB
 replace cB:l1.length=n/\∀x,l1[x]?=kI l0 i mm e x:=cB
 obtain ⟨hl1,hrot⟩:=cB
 obtain ⟨p1,p2,p3,p4⟩:=cO2 (a:=a) (b:=b) hrot e2 e3 e5
 have s1:wS dU (eN l1 a i):=by rw [p1,<-show a+(i - a)=i by omega,<-bH1 (m:=mm) (by omega)];exact bP4 hsA _
 have s2:wS dU (eN l1 i qG):=by rw [p2,<-show mm+(e - mm)=e by omega,<-bH1 (m:=b) (by omega)];exact bP4 hsB _
 have s3:wS dU (eN l1 qG e):=by rw [p3,show i=a+(i - a) by omega,<-bF1];exact bO4 hsA _
 have s4:wS dU (eN l1 e b):=by rw [p4,show e=mm+(e - mm) by omega,<-bF1];exact bO4 hsB _
 refine pB (γ:=List Ev) (I:=(fun (R1:List Ev)=>R1.length=n/\wT dU l1 R1 a qG)) (S':=(fun (R1:List Ev)=> [(0,.slice (some ⟨br,0,none⟩) n eW),(3,.int .i64 ((b:Nat):Int)),(4,.func (.func fx) #[] #[]),(18,.int .i64 ((qG:Nat):Int)),(24,.int .i64 ((e:Nat):Int))])) (K':=(fun (R1:List Ev)=>gQ base 74 5 n eW br ((R1).flatMap dO))) (L':=(fun (R1:List Ev)=> [])) (O':=(fun (R1:List Ev)=> [])) (X':=(fun (R1:List Ev)=> [])) ?_ ?_
 ·refine bR (bP U (bP U (bB (dE U U) U (bP U ?_))))
  rcases Bool.eq_false_or_eq_true (decide (((a:Nat):Int) < ((i:Nat):Int))) with hb|hb
  ·refine bK 195 U (fU3 hb) ?_
   replace hb:=of_decide_eq_true hb
   refine eE U (bP U (eE U (bP U (eE U (bB (dE U U) U (mN U U (bQ ?_)))))))
   refine cC U (fun hb2=>?_) (fun hb2=>?_)
   ·refine bI (bP U (bP U (bP U (bP U (bP U ?_)))))
    refine gD (γ:=List Ev) (val:=fun _=> .tuple #[]) (φ:=fun R=>R.length=n/\wT dU l1 R a qG) (K':=fun R=>gQ base 74 5 n eW br ((R).flatMap dO)) (L':=fun _=> []) (O':=fun _=> []) (X':=fun _=> []) U dW0 U U (fun wx hm=>(ih a i qG (by omega) l1 wx hm.k hl1 hn (by omega) (by omega) (by omega) s1 s2).mono fun _ _ ⟨R_,h1,he,ho,hg⟩=>⟨R_,he,⟨by rw [h1.len];exact hl1,h1⟩,hm.turned U U ho hg⟩) ?_
    intro R hR
    refine bE ?_
    exact fK R hR ⟨U,U,U,U,U,trivial⟩ (fun _ hm=>hm.pick [] [] [] U U)
   refine bN ?_
   exact fK l1 ⟨hl1,bT4 (by rcases (show i=a∨i=qG by omega) with h9|h9 <;> (subst h9;assumption))⟩ ⟨U,U,U,U,U,trivial⟩ (fun _ hm=>hm.pick [] [] [] U U)
  refine bK 195 U (fU3 hb) ?_
  replace hb:=of_decide_eq_false hb
  refine dZ U (dZ U (dZ U (nR U U (bQ (jQ U (bN ?_))))))
  exact fK l1 ⟨hl1,bT4 (by rcases (show i=a∨i=qG by omega) with h9|h9 <;> (subst h9;assumption))⟩ ⟨U,U,U,U,U,trivial⟩ (fun _ hm=>hm.pick [] [] [] U U)
 intro R1 cB
 replace cB:R1.length=n/\wT dU l1 R1 a qG:=cB
 refine bR ?_
 obtain ⟨hl2,k1⟩:=cB
 have s5:wS dU (eN R1 qG e):=by rw [bD6 k1.back (Nat.le_refl _)];exact s3
 have s6:wS dU (eN R1 e b):=by rw [bD6 k1.back (by omega)];exact s4
 refine bP U (bP U (bB (dE U U) U (bP U ?_)))
 rcases Bool.eq_false_or_eq_true (decide (((qG:Nat):Int) < ((e:Nat):Int))) with hb|hb
 ·refine bK 209 U (fU3 hb) ?_
  replace hb:=of_decide_eq_true hb
  refine eE U (bP U (eE U (bP U (eE U (bB (dE U U) U (mN U U (bQ ?_)))))))
  refine cC U (fun hb2=>?_) (fun hb2=>?_)
  ·refine bI (bP U (bP U (bP U (bP U (bP U ?_)))))
   refine gD (γ:=List Ev) (val:=fun _=> .tuple #[]) (φ:=fun R=>wT dU R1 R qG b) (K':=fun R=>gQ base 74 5 n eW br ((R).flatMap dO)) (L':=fun _=> []) (O':=fun _=> []) (X':=fun _=> []) U dW0 U U (fun wx hm=>((ih qG e b (by omega) R1 wx hm.k hl2 hn (by omega) (by omega) (by omega) s5 s6)).mono fun _ _ ⟨R_,h1,he,ho,hg⟩=>⟨R_,he,h1,hm.turned U U ho hg⟩) ?_
   intro R hR
   refine bE ?_
   refine kC U fun wx hm=>?_
   have hf:=mB hm.k hm.g
   exact ⟨R,bK6 vJ (by omega) hsA hsB e1 e2 e3 e4 e5 w1 w2 (by rw [hl1,uJ]) hrot k1 hR,U,hf.1,hf.2⟩
  refine bN ?_
  refine kC U fun wx hm=>?_
  have hf:=mB hm.k hm.g
  exact ⟨R1,bK6 vJ (by omega) hsA hsB e1 e2 e3 e4 e5 w1 w2 (by rw [hl1,uJ]) hrot k1 (bT4 (by rcases (show e=qG∨e=b by omega) with h9|h9 <;> (subst h9;assumption))),U,hf.1,hf.2⟩
 refine bK 209 U (fU3 hb) ?_
 replace hb:=of_decide_eq_false hb
 refine dZ U (dZ U (dZ U (nR U U (bQ (jQ U (bN ?_))))))
 refine kC U fun wx hm=>?_
 have hf:=mB hm.k hm.g
 exact ⟨R1,bK6 vJ (by omega) hsA hsB e1 e2 e3 e4 e5 w1 w2 (by rw [hl1,uJ]) hrot k1 (bT4 (by rcases (show e=qG∨e=b by omega) with h9|h9 <;> (subst h9;assumption))),U,hf.1,hf.2⟩
theorem dR9 (fx:FuncId) (hF:bJ8 fx) (br n eW base:Nat):∀(k a mm b:Nat),b - a=k->bK8 fx br n eW base a mm b:=by
 intro k
 induction k using Nat.strongRecOn with
 |_ k ih=>exact fun a mm b hk=>dK0 fx hF br n eW base a mm b fun a' m' b' h=>ih (b' - a') (by omega) a' m' b' rfl
theorem dX1 {pre m post:List Ev} {a j:Nat} (hp:pre.length=a) (hj:j < m.length):(pre++(m++post))[a+j]?=m[j]?:=by
 rw [List.getElem?_append_right (by omega),List.getElem?_append_left (by omega)]
 congr 1;omega
theorem bD8 {pre m post:List Ev} {a j:Nat} {x:Ev} (hp:pre.length=a) (hj:j < m.length):(pre++(m++post)).set (a+j) x=pre++(m.set j x++post):=by
 rw [List.set_append_right _ _ (by omega),List.set_append_left _ _ (by omega),show a+j - pre.length=j by omega]
theorem xY (fx:FuncId) (hF:bJ8 fx) (pre m0 post:List Ev) (br n eW base a b:Nat) (w:World) (h:w.ownsRow base 74 5 (.slice (some ⟨br,0,none⟩) n eW) n ((pre++(m0++post)).flatMap dO)) (hpre:pre.length=a) (hab:a+m0.length=b) (hbn:b+post.length=n) (hn:n<=1000000):
 Calls prog 141 #[.slice (some ⟨br,0,none⟩) n eW,.int .i64 ((a:Nat):Int),.int .i64 ((b:Nat):Int),.func (.func fx) #[] #[]] w (fun e w'=>e=.returned (.tuple #[])/\w'.ownsRow base 74 5 (.slice (some ⟨br,0,none⟩) n eW) n ((pre++(dS dU m0++post)).flatMap dO)/\w.grownBy w' (some br)):=by
 obtain ⟨q,hq⟩:∃z,z=m0.length:=⟨_,rfl⟩
 obtain ⟨R,hR⟩:∃z,z=dS dU m0:=⟨_,rfl⟩
 rw [<-hR]
 unfold dS at hR
 rw [<-hq] at hR
 refine cS ⟨53,w,(some br), []⟩ func141 U ntmps141 U (bV2 (X:= []) h cX cY) (bR (bP U (gO U U (bX U (bQ (bO ?_))))))
 refine dX (γ:=Nat×List Ev) (fun gg=>(1<=gg.1/\gg.1<=q+1)/\gg.2.length=q/\pS dU (q - gg.1) gg.1 gg.2=R) (fun gg=> [(0,.slice (some ⟨br,0,none⟩) n eW),(1,.int .i64 ((a:Nat):Int)),(2,.int .i64 ((b:Nat):Int)),(3,.func (.func fx) #[] #[]),(8,.int .i64 (((a+gg.1):Nat):Int))]) (fun gg=>gQ base 74 5 n eW br (((pre++(gg.2++post))).flatMap dO)) (fun gg=> []) (fun gg=> []) (fun gg=> []) (fun gg=>q+1 - gg.1) (1,m0) ⟨⟨Nat.le_refl _,by omega⟩,hq.symm,by rw [hR]⟩ ⟨U,U,U,U,(cR (by omega)),trivial⟩ (fun _ hm=>hm.pick [] [] [] U U) ?_
 rintro ⟨i,l⟩ cB
 replace cB:(1<=i/\i<=q+1)/\l.length=q/\pS dU (q - i) i l=R:=cB
 dsimp only
 refine bH (bR ?_)
 obtain ⟨⟨hi1,vN⟩,hl1,hR1⟩:=cB
 refine bP U (bP U (bB (dE U U) U (bQ ?_)))
 refine cC U (fun hi=>?_) (fun hi=>?_)
 ·refine bN (bD (bH (bO (bR ?_))))
  have hRi:pS dU (q - (i+1)) (i+1) (uB dU i l)=R:=by rw [<-hR1,show q - i=(q - (i+1))+1 by omega];rfl
  obtain ⟨S,hS⟩:∃z,z=uB dU i l:=⟨_,rfl⟩
  rw [<-hS] at hRi
  have hSl:S.length=q:=by rw [hS,xI];exact hl1
  refine bP U (bX U (bQ (bO ?_)))
  refine dX (γ:=Nat×List Ev) (fun gg=>(gg.1<=i)/\gg.2.length=q/\uB dU gg.1 gg.2=S) (fun gg=> [(0,.slice (some ⟨br,0,none⟩) n eW),(1,.int .i64 ((a:Nat):Int)),(2,.int .i64 ((b:Nat):Int)),(3,.func (.func fx) #[] #[]),(8,.int .i64 (((a+i):Nat):Int)),(9,.int .i64 (((a+gg.1):Nat):Int))]) (fun gg=>gQ base 74 5 n eW br (((pre++(gg.2++post))).flatMap dO)) (fun gg=> []) (fun gg=> []) (fun gg=> []) (fun gg=>gg.1) (i,l) ⟨Nat.le_refl _,hl1,hS.symm⟩ ⟨U,U,U,U,U,U,trivial⟩ (fun _ hm=>hm.pick [] [] [] U U) ?_
  rintro ⟨jj,m⟩ cB
  replace cB:(jj<=i)/\m.length=q/\uB dU jj m=S:=cB
  dsimp only
  refine bH (bH ?_)
  obtain ⟨hj1,pP,hS1⟩:=cB
  rcases jj with _|j
  ·refine gd (fun wz=>True) mixed (fun _ _=>trivial) fun z=>?_
   refine wq 0 U (bL U) (wq 1 U (bL U) (wq 2 U (eK U U) (dH 20 (v':= .bool false) U (fU3 (decide_eq_false (by omega))) (wq 3 U (bL U) (fD 4 U (fD 5 U (fD 6 U (fD 7 U (fD 8 U (fD 9 U (fD 10 U (fD 11 U (fD 12 U (fD 13 U (fD 14 U (fD 15 U (wq 16 U (fO U U) (jO (bD (jQ U (dD (bF (bF (bY ?_))))))))))))))))))))))))
   refine bG (bD (bI (bP U (gO U U (bX U (bE ?_))))))
   have hm2:m=S:=hS1
   exact cN (i+1,m) ⟨⟨by dsimp only;omega,by dsimp only;omega⟩,by rw [hm2];exact hSl,by rw [hm2];exact hRi⟩ (by dsimp only;omega) ⟨U,U,U,U,(cR (by dsimp only;omega)),trivial⟩ (fun _ hm=>hm.pick [] [] [] U U)
  have hj2:j+1 < q:=by omega
  obtain ⟨xx,hxm⟩:∃z,m[j]?=some z:=⟨_,fW3 (by omega)⟩
  obtain ⟨yy,hym⟩:∃z,m[j+1]?=some z:=⟨_,fW3 (by omega)⟩
  obtain ⟨x0,x1,x2,x3,x4⟩:=xx
  obtain ⟨y0,y1,y2,y3,y4⟩:=yy
  have hwl:(pre++(m++post)).length=n:=by simp only [List.length_append];omega
  have hx:=(dX1 (post:=post) hpre (show j < m.length by omega)).trans hxm
  have hy:=(dX1 (post:=post) hpre (show j+1 < m.length by omega)).trans hym
  refine gd (fun wz=>(gQ base 74 5 n eW br (((pre++(m++post))).flatMap dO)) wz/\True) mixed (fun _ hm=>⟨hm.k,trivial⟩) fun z=>wq 0 U (bL U) (wq 1 U (bL U) (wq 2 U (eK U U) (dH 20 (v':= .bool true) U (fU3 (decide_eq_true (by omega))) (wq 3 U (bL U) (fI 4 U (bL U) (fI 5 U (bL U) (fI 6 U (bL U) (fI 7 U (bV (j:=(a+(j+1))) jW U U (by omega)) (fI 8 U (dP (vs:= [.int .i64 y0,.string y1,.string y2,.int .i64 y3,.string y4]) fJ U (fun _ hm=>(gQ.get (hm.1) fB hwl)) hy U U) (fI 9 U (bL U) (fI 10 U (bL U) (fI 11 U (ov_sub U U (by omega) (by omega)) (dH 29 (v':= .int .i64 (((a+j):Nat):Int)) U (fV3 (by omega)) (fI 12 U (bV (j:=(a+j)) jW U U (by omega)) (fI 13 U (dP (vs:= [.int .i64 x0,.string x1,.string x2,.int .i64 x3,.string x4]) fJ U (fun _ hm=>(gQ.get (hm.1) fB hwl)) hx U U) (eG 14 U (eE U (cH U hF.1 U U (fun wx hm=>(hF.2 y0 y1 y2 y3 y4 x0 x1 x2 x3 x4 wx)) (bE (nw 17 32767 (fun _ hm=>⟨hm.k,trivial⟩) fun z=>fI 15 U (dE U U) (wq 16 U (fE U U) (jO (bD ?_)))))))))))))))))))))))
  refine cC U (fun hlt=>?_) (fun hlt=>?_)
  ·refine bN (bD (bH (bO ?_)))
   have hlt2:dU ⟨y0,y1,y2,y3,y4⟩ ⟨x0,x1,x2,x3,x4⟩=true:=decide_eq_true (show jP ⟨y0,y1,y2,y3,y4⟩ ⟨x0,x1,x2,x3,x4⟩ < 0 from hlt)
   have hS2:=(bN4 hym hxm hlt2).symm.trans hS1
   refine gd (fun wz=>True) mixed (fun _ _=>trivial) fun z=>wq 0 U (bL U) (wq 1 U (bL U) (wq 2 U (bL U) (wq 3 U (bL U) (wq 4 U (ov_sub U U (by omega) (by omega)) (dH 41 (v':= .int .i64 (((a+j):Nat):Int)) U (fV3 (by omega)) (wq 5 U (bL U) (wq 6 U (bL U) (wq 7 U (ov_sub U U (by omega) (by omega)) (dH 44 (v':= .int .i64 (((a+j):Nat):Int)) U (fV3 (by omega)) (wq 8 U (bV (j:=(a+j)) jW U U (by omega)) (wq 10 U (bL U) (wq 11 U (bL U) (wq 12 U (bV (j:=(a+(j+1))) jW U U (by omega)) ?_)))))))))))))
   refine kK [9,13] (by kernel_rfl) U ⟨⟨_,U,?_⟩,⟨_,U,?_⟩,trivial⟩
   ·refine bB (dP (vs:= [.int .i64 x0,.string x1,.string x2,.int .i64 x3,.string x4]) fJ U (fun _ hm=>(gQ.get hm.k fB hwl)) hx U U) U ?_
    refine bE (nw 18 8191 (fun _ _=>trivial) fun z=>eG 13 U (bB (dP (vs:= [.int .i64 y0,.string y1,.string y2,.int .i64 y3,.string y4]) fJ U (fun _ hm=>(gQ.get hm.k fB hwl)) hy U U) U (bE (nw 18 16383 (fun _ _=>trivial) fun z=>wq 14 U (bV (j:=(a+(j+1))) jW U U (by omega)) (eG 15 U (eV (l:=(pre++(m++post))) (j:=(a+(j+1))) (r:=0) (el:=⟨y0,y1,y2,y3,y4⟩) (el':=⟨x0,x1,x2,x3,x4⟩) U fJ U U U U fB U hy hwl (by decide) U U (bE (nw 18 65535 (fun _ _=>trivial) fun z=>wq 16 U (bV (j:=(a+j)) jW U U (by omega)) (eG 17 U ?_)))))))))
    refine eV (l:=(pre++(m++post)).set (a+(j+1)) ⟨x0,x1,x2,x3,x4⟩) (j:=(a+j)) (r:=0) (el:=⟨x0,x1,x2,x3,x4⟩) (el':=⟨y0,y1,y2,y3,y4⟩) U fJ U U U U fB U (by rw [List.getElem?_set_ne (by omega)];exact hx) (by rw [List.length_set];exact hwl) (by decide) U U ?_
    refine bE (nw 18 262143 (fun _ _=>trivial) fun z=>jO (bG (bD (bI (bP U (bB (ov_sub U U (by omega) (by omega)) U (bK 36 (v':= .int .i64 (((a+j):Nat):Int)) U (fV3 (by omega)) (bX U (bE ?_)))))))))
    have hcm:((pre++(m++post)).set (a+(j+1)) ⟨x0,x1,x2,x3,x4⟩).set (a+j) ⟨y0,y1,y2,y3,y4⟩=((pre++(m++post)).set (a+j) ⟨y0,y1,y2,y3,y4⟩).set (a+(j+1)) ⟨x0,x1,x2,x3,x4⟩:=List.set_comm _ _ (by omega)
    rw [hcm]
    have hnew:((pre++(m++post)).set (a+j) ⟨y0,y1,y2,y3,y4⟩).set (a+(j+1)) ⟨x0,x1,x2,x3,x4⟩=pre++(((m.set (j+1) ⟨x0,x1,x2,x3,x4⟩).set j ⟨y0,y1,y2,y3,y4⟩)++post):=by rw [bD8 hpre (by omega),bD8 hpre (by rw [List.length_set];omega),List.set_comm _ _ (by omega)]
    rw [hnew]
    exact cN (j,((m.set (j+1) ⟨x0,x1,x2,x3,x4⟩).set j ⟨y0,y1,y2,y3,y4⟩)) ⟨by dsimp only;omega,by simp [pP],hS2⟩ (by dsimp only;omega) ⟨U,U,U,U,U,U,trivial⟩ (fun _ hm=>hm.pick [] [] [] U U)
   refine bB (dP (vs:= [.int .i64 y0,.string y1,.string y2,.int .i64 y3,.string y4]) fJ U (fun _ hm=>(gQ.get hm.k fB hwl)) hy U U) U (bE (nw 18 15871 (fun _ _=>trivial) fun z=>eG 9 U (bB (dP (vs:= [.int .i64 x0,.string x1,.string x2,.int .i64 x3,.string x4]) fJ U (fun _ hm=>(gQ.get hm.k fB hwl)) hx U U) U (bE (nw 18 16383 (fun _ _=>trivial) fun z=>wq 14 U (bV (j:=(a+(j+1))) jW U U (by omega)) (eG 15 U (eV (l:=(pre++(m++post))) (j:=(a+(j+1))) (r:=0) (el:=⟨y0,y1,y2,y3,y4⟩) (el':=⟨x0,x1,x2,x3,x4⟩) U fJ U U U U fB U hy hwl (by decide) U U (bE (nw 18 65535 (fun _ _=>trivial) fun z=>wq 16 U (bV (j:=(a+j)) jW U U (by omega)) (eG 17 U ?_))))))))))
   refine eV (l:=(pre++(m++post)).set (a+(j+1)) ⟨x0,x1,x2,x3,x4⟩) (j:=(a+j)) (r:=0) (el:=⟨x0,x1,x2,x3,x4⟩) (el':=⟨y0,y1,y2,y3,y4⟩) U fJ U U U U fB U (by rw [List.getElem?_set_ne (by omega)];exact hx) (by rw [List.length_set];exact hwl) (by decide) U U ?_
   refine bE (nw 18 262143 (fun _ _=>trivial) fun z=>jO (bG (bD (bI (bP U (bB (ov_sub U U (by omega) (by omega)) U (bK 36 (v':= .int .i64 (((a+j):Nat):Int)) U (fV3 (by omega)) (bX U (bE ?_)))))))))
   have hcm:((pre++(m++post)).set (a+(j+1)) ⟨x0,x1,x2,x3,x4⟩).set (a+j) ⟨y0,y1,y2,y3,y4⟩=((pre++(m++post)).set (a+j) ⟨y0,y1,y2,y3,y4⟩).set (a+(j+1)) ⟨x0,x1,x2,x3,x4⟩:=List.set_comm _ _ (by omega)
   rw [hcm]
   have hnew:((pre++(m++post)).set (a+j) ⟨y0,y1,y2,y3,y4⟩).set (a+(j+1)) ⟨x0,x1,x2,x3,x4⟩=pre++(((m.set (j+1) ⟨x0,x1,x2,x3,x4⟩).set j ⟨y0,y1,y2,y3,y4⟩)++post):=by rw [bD8 hpre (by omega),bD8 hpre (by rw [List.length_set];omega),List.set_comm _ _ (by omega)]
   rw [hnew]
   exact cN (j,((m.set (j+1) ⟨x0,x1,x2,x3,x4⟩).set j ⟨y0,y1,y2,y3,y4⟩)) ⟨by dsimp only;omega,by simp [pP],hS2⟩ (by dsimp only;omega) ⟨U,U,U,U,U,U,trivial⟩ (fun _ hm=>hm.pick [] [] [] U U)
  refine dD (bF (bF (bY (bG (bD (bI ?_))))))
  have hlt2:dU ⟨y0,y1,y2,y3,y4⟩ ⟨x0,x1,x2,x3,x4⟩=false:=decide_eq_false (show ¬jP ⟨y0,y1,y2,y3,y4⟩ ⟨x0,x1,x2,x3,x4⟩ < 0 from hlt)
  have hS2:=(bG8 hym hxm hlt2).symm.trans hS1
  refine bP U (gO U U (bX U (bE ?_)))
  have hm2:m=S:=hS2
  exact cN (i+1,m) ⟨⟨by dsimp only;omega,by dsimp only;omega⟩,by rw [hm2];exact hSl,by rw [hm2];exact hRi⟩ (by dsimp only;omega) ⟨U,U,U,U,(cR (by dsimp only;omega)),trivial⟩ (fun _ hm=>hm.pick [] [] [] U U)
 refine dD (bF (bF (bY ?_)))
 obtain rfl:l=R:=by rw [<-hR1,show q - i=0 by omega];rfl
 refine kC U fun wx hm=>?_
 exact ⟨U,mB hm.k hm.g⟩
theorem eV2 (fx:FuncId) (hF:bJ8 fx) (l0:List Ev) (br n eW base:Nat) (w:World) (h:w.ownsRow base 74 5 (.slice (some ⟨br,0,none⟩) n eW) n (l0.flatMap dO)) (uJ:l0.length=n) (hn:n<=1000000) (hn2:n=20):
 Calls prog 93 #[.slice (some ⟨br,0,none⟩) n eW,.int .i64 ((n:Nat):Int),.func (.func fx) #[] #[]] w (fun e w'=>e=.returned (.tuple #[])/\w'.ownsRow base 74 5 (.slice (some ⟨br,0,none⟩) n eW) n ((dS dU l0).flatMap dO)/\w.grownBy w' (some br)):=by
 refine cS ⟨63,w,(some br), []⟩ func93 U ntmps93 U (bV2 (X:= []) h cX cY) (bR ?_)
 have ht20:(l0.take 20).length=20:=by rw [List.length_take];omega
 have hd20:(l0.drop 20).length=n - 20:=by rw [List.length_drop];omega
 have hi20:(dS dU (l0.take 20)).length=20:=by rw [pH];exact ht20
 have hid:(dS dU (l0.drop 20)).length=n - 20:=by rw [pH];exact hd20
 have hk0:∀wx,(gQ base 74 5 n eW br ((l0).flatMap dO)) wx->(gQ base 74 5 n eW br ((([]++(l0.take 20++l0.drop 20))).flatMap dO)) wx:=fun wx hk=>by rw [List.nil_append,List.take_append_drop];exact hk
 refine bX U (bQ (bR (bP U (bX U (bX U (bQ (bH (bO (eY 3 (eD (bH (bR (bP U (bP U (bB (mV U U) U (bQ (gJ 13 (v':= .bool true) U (fU3 (decide_eq_true (by omega))) (kP U (bN (bD (bO (bR (bP U (bP U (bP U (bP U ?_))))))))))))))))))))))))))
 refine mA (xs':=((dS dU (l0.take 20))++(l0.drop 20)).flatMap dO) U U U bK3 U U (fun wx hm=>(by have h:=xY fx hF [] (l0.take 20) (l0.drop 20) br n eW base 0 20 wx (hk0 wx hm.k) rfl (by rw [ht20]) (by rw [hd20];omega) (by omega);rw [List.nil_append] at h;exact h)) ?_
 refine bQ (bR (bP U (bX U (bQ (bI (bP U (bP U (gO U U (bK 22 (v':= .int .i64 40) U U (bX U (bE (bG (hW (eD (bH (bR (bP U (bP U (bB (mV U U) U (bQ (gJ 13 (v':= .bool false) U (fU3 (decide_eq_false (by omega))) (jQ U (dD (bF (bF (bY ?_))))))))))))))))))))))))))
 refine bD (bR (bP U (bP U (bP U (bP U ?_)))))
 refine mA (xs':=((dS dU (l0.take 20))++dS dU (l0.drop 20)).flatMap dO) U U U bK3 U U (fun wx hm=>(by have h:=xY fx hF (dS dU (l0.take 20)) (l0.drop 20) [] br n eW base 20 n wx ((by rw [List.append_nil];exact hm.k)) hi20 (by rw [hd20];omega) (by rw [List.length_nil];omega) (by omega);rw [List.append_nil] at h;exact h)) ?_
 refine bQ (bO (eY 3 (eD (bH (bR (bP U (bP U (bB (dE U U) U (bQ (gJ 30 (v':= .bool false) U (fU3 (decide_eq_false (by omega))) (jQ U (dD (bF (bF (bY ?_)))))))))))))))
 have hf:(dS dU (l0.take 20))++dS dU (l0.drop 20)=dS dU l0:=by rw [List.take_of_length_le (by omega),List.drop_of_length_le (by omega),show dS dU ([]:List Ev)= [] from rfl,List.append_nil]
 refine kC U fun wx hm=>?_
 rw [<-hf]
 exact ⟨U,mB hm.k hm.g⟩
theorem eX2 (fx:FuncId) (hF:bJ8 fx) (l0:List Ev) (br n eW base:Nat) (w:World) (h:w.ownsRow base 74 5 (.slice (some ⟨br,0,none⟩) n eW) n (l0.flatMap dO)) (uJ:l0.length=n) (hn:n<=1000000) (hn2:20 < n/\n < 40) (ht:bL8 l0):
 Calls prog 93 #[.slice (some ⟨br,0,none⟩) n eW,.int .i64 ((n:Nat):Int),.func (.func fx) #[] #[]] w (fun e w'=>e=.returned (.tuple #[])/\w'.ownsRow base 74 5 (.slice (some ⟨br,0,none⟩) n eW) n ((dS dU l0).flatMap dO)/\w.grownBy w' (some br)):=by
 refine cS ⟨63,w,(some br), []⟩ func93 U ntmps93 U (bV2 (X:= []) h cX cY) (bR ?_)
 have ht20:(l0.take 20).length=20:=by rw [List.length_take];omega
 have hd20:(l0.drop 20).length=n - 20:=by rw [List.length_drop];omega
 have hi20:(dS dU (l0.take 20)).length=20:=by rw [pH];exact ht20
 have hid:(dS dU (l0.drop 20)).length=n - 20:=by rw [pH];exact hd20
 have hk0:∀wx,(gQ base 74 5 n eW br ((l0).flatMap dO)) wx->(gQ base 74 5 n eW br ((([]++(l0.take 20++l0.drop 20))).flatMap dO)) wx:=fun wx hk=>by rw [List.nil_append,List.take_append_drop];exact hk
 refine bX U (bQ (bR (bP U (bX U (bX U (bQ (bH (bO (eY 3 (eD (bH (bR (bP U (bP U (bB (mV U U) U (bQ (gJ 13 (v':= .bool true) U (fU3 (decide_eq_true (by omega))) (kP U (bN (bD (bO (bR (bP U (bP U (bP U (bP U ?_))))))))))))))))))))))))))
 refine mA (xs':=((dS dU (l0.take 20))++(l0.drop 20)).flatMap dO) U U U bK3 U U (fun wx hm=>(by have h:=xY fx hF [] (l0.take 20) (l0.drop 20) br n eW base 0 20 wx (hk0 wx hm.k) rfl (by rw [ht20]) (by rw [hd20];omega) (by omega);rw [List.nil_append] at h;exact h)) ?_
 refine bQ (bR (bP U (bX U (bQ (bI (bP U (bP U (gO U U (bK 22 (v':= .int .i64 40) U U (bX U (bE (bG (hW (eD (bH (bR (bP U (bP U (bB (mV U U) U (bQ (gJ 13 (v':= .bool false) U (fU3 (decide_eq_false (by omega))) (jQ U (dD (bF (bF (bY ?_))))))))))))))))))))))))))
 refine bD (bR (bP U (bP U (bP U (bP U ?_)))))
 refine mA (xs':=((dS dU (l0.take 20))++dS dU (l0.drop 20)).flatMap dO) U U U bK3 U U (fun wx hm=>(by have h:=xY fx hF (dS dU (l0.take 20)) (l0.drop 20) [] br n eW base 20 n wx ((by rw [List.append_nil];exact hm.k)) hi20 (by rw [hd20];omega) (by rw [List.length_nil];omega) (by omega);rw [List.append_nil] at h;exact h)) ?_
 refine bQ (bO (eY 3 (eD (bH (bR (bP U (bP U (bB (dE U U) U (bQ (gJ 30 (v':= .bool true) U (fU3 (decide_eq_true (by omega))) (kP U (bN (bD (bO (bR (bP U (bB (ov_mul U U (by omega) (by omega)) U (bK 32 (v':= .int .i64 40) U U (bX U (bX U (bQ (bH (bO (eY 3 (eD ?_)))))))))))))))))))))))))
 refine bH (bR (bP U (bP U (bB (mV U U) U (bQ (gJ 35 (v':= .bool false) U (fU3 (decide_eq_false (by omega))) (jQ U (dD (bF (bF (bY (bD (bH (bR (bP U (bP U (gO U U (bK 51 (v':= .int .i64 20) U U (bX U (bQ (bR (bP U (bP U (bB (dE U U) U (bQ (gJ 54 (v':= .bool true) U (fU3 (decide_eq_true (by omega))) ?_))))))))))))))))))))))))))
 refine kP U (bI (bP U (bP U (bP U (bP U (bP U ?_))))))
 have hL2:((dS dU (l0.take 20))++dS dU (l0.drop 20)).length=n:=by rw [List.length_append,hi20,hid];omega
 have hA:eN ((dS dU (l0.take 20))++dS dU (l0.drop 20)) 0 20=(dS dU (l0.take 20)):=by unfold eN;rw [List.drop_zero,List.take_append_of_le_length (by omega),List.take_of_length_le (by omega)]
 have hB:eN ((dS dU (l0.take 20))++dS dU (l0.drop 20)) 20 n=dS dU (l0.drop 20):=by unfold eN;rw [List.take_of_length_le (by omega),List.drop_append_of_le_length (by omega),List.drop_of_length_le (by omega),List.nil_append]
 refine gD (γ:=List Ev) (val:=fun _=> .tuple #[]) (φ:=fun R=>wT dU ((dS dU (l0.take 20))++dS dU (l0.drop 20)) R 0 n) (K':=fun R=>gQ base 74 5 n eW br ((R).flatMap dO)) (L':=fun _=> []) (O':=fun _=> []) (X':=fun _=> []) U dW0 U U (fun wx hm=>(dR9 fx hF br n eW base _ 0 20 n U ((dS dU (l0.take 20))++dS dU (l0.drop 20)) wx hm.k hL2 hn (by omega) (by omega) (by omega) (by rw [hA];exact vG _) (by rw [show eN ((dS dU (l0.take 20))++dS dU (l0.drop 20)) 20 n=dS dU (l0.drop 20) from hB];exact vG _)).mono fun _ _ ⟨R_,h1,he,ho,hg⟩=>⟨R_,he,h1,hm.turned U U ho hg⟩) ?_
 intro R hR
 refine bQ (bI (bP U (bB (ov_mul U U (by omega) (by omega)) U (bK 62 (v':= .int .i64 40) U U (bX U (bE (bG (hW (eD (bH (bR (bP U (bP U (bB (dE U U) U (bQ (gJ 30 (v':= .bool false) U (fU3 (decide_eq_false (by omega))) (jQ U (dD (bF (bF (bY ?_)))))))))))))))))))))
 have hR0:R.length=n:=by rw [hR.len];exact hL2
 have hRp:eN R 0 n=R:=by unfold eN;rw [List.drop_zero,List.take_of_length_le (by omega)]
 have hLp:eN ((dS dU (l0.take 20))++dS dU (l0.drop 20)) 0 n=(dS dU (l0.take 20))++dS dU (l0.drop 20):=by unfold eN;rw [List.drop_zero,List.take_of_length_le (by omega)]
 have hs:=hR.srt
 have hpm:=hR.perm
 rw [hRp] at hs hpm
 rw [hLp] at hpm
 have hp0:((dS dU (l0.take 20))++dS dU (l0.drop 20)).Perm l0:=by
  have h5:=(mL dU (l0.take 20)).append (mL dU (l0.drop 20))
  rw [List.take_append_drop] at h5
  exact h5
 have hp1:R.Perm l0:=hpm.trans hp0
 have hf:R=dS dU l0:=dE0 hs (vG l0) (hp1.trans (mL dU l0).symm) fun x hx y hy=>ht x (hp1.mem_iff.1 hx) y (hp1.mem_iff.1 hy)
 refine kC U fun wx hm=>?_
 rw [<-hf]
 exact ⟨U,mB hm.k hm.g⟩
theorem eY2 (fx:FuncId) (hF:bJ8 fx) (l0:List Ev) (br n eW base:Nat) (w:World) (h:w.ownsRow base 74 5 (.slice (some ⟨br,0,none⟩) n eW) n (l0.flatMap dO)) (uJ:l0.length=n) (hn:n<=1000000) (hn2:n=40) (ht:bL8 l0):
 Calls prog 93 #[.slice (some ⟨br,0,none⟩) n eW,.int .i64 ((n:Nat):Int),.func (.func fx) #[] #[]] w (fun e w'=>e=.returned (.tuple #[])/\w'.ownsRow base 74 5 (.slice (some ⟨br,0,none⟩) n eW) n ((dS dU l0).flatMap dO)/\w.grownBy w' (some br)):=by
 refine cS ⟨63,w,(some br), []⟩ func93 U ntmps93 U (bV2 (X:= []) h cX cY) (bR ?_)
 have ht20:(l0.take 20).length=20:=by rw [List.length_take];omega
 have hd20:(l0.drop 20).length=n - 20:=by rw [List.length_drop];omega
 have hi20:(dS dU (l0.take 20)).length=20:=by rw [pH];exact ht20
 have hid:(dS dU (l0.drop 20)).length=n - 20:=by rw [pH];exact hd20
 have hk0:∀wx,(gQ base 74 5 n eW br ((l0).flatMap dO)) wx->(gQ base 74 5 n eW br ((([]++(l0.take 20++l0.drop 20))).flatMap dO)) wx:=fun wx hk=>by rw [List.nil_append,List.take_append_drop];exact hk
 refine bX U (bQ (bR (bP U (bX U (bX U (bQ (bH (bO (eY 3 (eD (bH (bR (bP U (bP U (bB (mV U U) U (bQ (gJ 13 (v':= .bool true) U (fU3 (decide_eq_true (by omega))) (kP U (bN (bD (bO (bR (bP U (bP U (bP U (bP U ?_))))))))))))))))))))))))))
 refine mA (xs':=((dS dU (l0.take 20))++(l0.drop 20)).flatMap dO) U U U bK3 U U (fun wx hm=>(by have h:=xY fx hF [] (l0.take 20) (l0.drop 20) br n eW base 0 20 wx (hk0 wx hm.k) rfl (by rw [ht20]) (by rw [hd20];omega) (by omega);rw [List.nil_append] at h;exact h)) ?_
 refine bQ (bR (bP U (bX U (bQ (bI (bP U (bP U (gO U U (bK 22 (v':= .int .i64 40) U U (bX U (bE (bG (hW (eD (bH (bR (bP U (bP U (bB (mV U U) U (bQ (gJ 13 (v':= .bool true) U (fU3 (decide_eq_true (by omega))) ?_)))))))))))))))))))))
 refine kP U (bN (bD (bO (bR (bP U (bP U (bP U (bP U ?_))))))))
 refine mA (xs':=((dS dU (l0.take 20))++dS dU (l0.drop 20)).flatMap dO) U U U bK3 U U (fun wx hm=>(by have h:=xY fx hF (dS dU (l0.take 20)) (l0.drop 20) [] br n eW base 20 40 wx ((by rw [List.append_nil];exact hm.k)) hi20 (by rw [hd20];omega) (by rw [List.length_nil];omega) (by omega);rw [List.append_nil] at h;exact h)) ?_
 refine bQ (bR (bP U (bX U (bQ (bI (bP U (bP U (gO U U (bK 22 (v':= .int .i64 60) U U (bX U (bE (bG (hW (eD (bH (bR (bP U (bP U (bB (mV U U) U (bQ (gJ 13 (v':= .bool false) U (fU3 (decide_eq_false (by omega))) (jQ U (dD (bF (bF (bY ?_))))))))))))))))))))))))))
 refine bD (bR (bP U (bP U (bP U (bP U ?_)))))
 refine mA (xs':=((dS dU (l0.take 20))++dS dU (l0.drop 20)).flatMap dO) U U U bK3 U U (fun wx hm=>(by have h:=xY fx hF ((dS dU (l0.take 20))++dS dU (l0.drop 20)) [] [] br n eW base 40 n wx ((by rw [List.append_nil,List.append_nil];exact hm.k)) (by rw [List.length_append,hi20,hid];omega) (by rw [List.length_nil];omega) (by rw [List.length_nil];omega) (by omega);rw [show ((dS dU (l0.take 20))++dS dU (l0.drop 20))++(dS dU []++ [])=(dS dU (l0.take 20))++dS dU (l0.drop 20) from by rw [show dS dU ([]:List Ev)= [] from rfl,List.append_nil,List.append_nil]] at h;exact h)) ?_
 refine bQ (bO (eY 3 (eD (bH (bR (bP U (bP U (bB (dE U U) U (bQ (gJ 30 (v':= .bool true) U (fU3 (decide_eq_true (by omega))) (kP U (bN (bD (bO (bR (bP U (bB (ov_mul U U (by omega) (by omega)) U (bK 32 (v':= .int .i64 40) U U (bX U (bX U (bQ (bH (bO (eY 3 (eD ?_)))))))))))))))))))))))))
 refine bH (bR (bP U (bP U (bB (mV U U) U (bQ (gJ 35 (v':= .bool true) U (fU3 (decide_eq_true (by omega))) (kP U (bN (bD (bO (bR (bP U (bP U (bP U (bP U (gO U U (bK 40 (v':= .int .i64 20) U U (bP U (bP U ?_)))))))))))))))))))
 have hL2:((dS dU (l0.take 20))++dS dU (l0.drop 20)).length=n:=by rw [List.length_append,hi20,hid];omega
 have hA:eN ((dS dU (l0.take 20))++dS dU (l0.drop 20)) 0 20=(dS dU (l0.take 20)):=by unfold eN;rw [List.drop_zero,List.take_append_of_le_length (by omega),List.take_of_length_le (by omega)]
 have hB:eN ((dS dU (l0.take 20))++dS dU (l0.drop 20)) 20 n=dS dU (l0.drop 20):=by unfold eN;rw [List.take_of_length_le (by omega),List.drop_append_of_le_length (by omega),List.drop_of_length_le (by omega),List.nil_append]
 refine gD (γ:=List Ev) (val:=fun _=> .tuple #[]) (φ:=fun R=>wT dU ((dS dU (l0.take 20))++dS dU (l0.drop 20)) R 0 40) (K':=fun R=>gQ base 74 5 n eW br ((R).flatMap dO)) (L':=fun _=> []) (O':=fun _=> []) (X':=fun _=> []) U dW0 U U (fun wx hm=>(dR9 fx hF br n eW base _ 0 20 40 U ((dS dU (l0.take 20))++dS dU (l0.drop 20)) wx hm.k hL2 hn (by omega) (by omega) (by omega) (by rw [hA];exact vG _) (by rw [show eN ((dS dU (l0.take 20))++dS dU (l0.drop 20)) 20 40=dS dU (l0.drop 20) from (by have h9:=hB;rw [hn2] at h9;exact h9)];exact vG _)).mono fun _ _ ⟨R_,h1,he,ho,hg⟩=>⟨R_,he,h1,hm.turned U U ho hg⟩) ?_
 intro R hR
 refine bQ (bR (bP U (bX U (bQ (bI (bP U (bP U (bB (ov_mul U U (by omega) (by omega)) U (bK 47 (v':= .int .i64 40) U U (gO U U (bK 48 (v':= .int .i64 80) U U (bX U (bE (bG (hW (eD (bH (bR (bP U (bP U (bB (mV U U) U (bQ (gJ 35 (v':= .bool false) U (fU3 (decide_eq_false (by omega))) (jQ U (dD (bF (bF (bY ?_))))))))))))))))))))))))))))
 refine bD (bH (bR (bP U (bP U (gO U U (bK 51 (v':= .int .i64 60) U U (bX U (bQ (bR (bP U (bP U (bB (dE U U) U (bQ (gJ 54 (v':= .bool false) U (fU3 (decide_eq_false (by omega))) (jQ U (bN (bD (bI (bP U (bB (ov_mul U U (by omega) (by omega)) U (bK 62 (v':= .int .i64 40) U U (bX U (bE (bG (hW (eD ?_))))))))))))))))))))))))))
 refine bH (bR (bP U (bP U (bB (dE U U) U (bQ (gJ 30 (v':= .bool false) U (fU3 (decide_eq_false (by omega))) (jQ U (dD (bF (bF (bY ?_)))))))))))
 have hR0:R.length=n:=by rw [hR.len];exact hL2
 have hRp:eN R 0 40=R:=by unfold eN;rw [List.drop_zero,List.take_of_length_le (by omega)]
 have hLp:eN ((dS dU (l0.take 20))++dS dU (l0.drop 20)) 0 40=(dS dU (l0.take 20))++dS dU (l0.drop 20):=by unfold eN;rw [List.drop_zero,List.take_of_length_le (by omega)]
 have hs:=hR.srt
 have hpm:=hR.perm
 rw [hRp] at hs hpm
 rw [hLp] at hpm
 have hp0:((dS dU (l0.take 20))++dS dU (l0.drop 20)).Perm l0:=by
  have h5:=(mL dU (l0.take 20)).append (mL dU (l0.drop 20))
  rw [List.take_append_drop] at h5
  exact h5
 have hp1:R.Perm l0:=hpm.trans hp0
 have hf:R=dS dU l0:=dE0 hs (vG l0) (hp1.trans (mL dU l0).symm) fun x hx y hy=>ht x (hp1.mem_iff.1 hx) y (hp1.mem_iff.1 hy)
 refine kC U fun wx hm=>?_
 rw [<-hf]
 exact ⟨U,mB hm.k hm.g⟩
theorem bF7 (fx:FuncId) (hF:bJ8 fx) (l0:List Ev) (br n eW base:Nat) (w:World) (h:w.ownsRow base 74 5 (.slice (some ⟨br,0,none⟩) n eW) n (l0.flatMap dO)) (uJ:l0.length=n) (hn:n<=40) (ht:20<=n->bL8 l0):
 Calls prog 41 #[.slice (some ⟨br,0,none⟩) n eW,.func (.func fx) #[] #[]] w (fun e w'=>e=.returned (.tuple #[])/\w'.ownsRow base 74 5 (.slice (some ⟨br,0,none⟩) n eW) n ((dS dU l0).flatMap dO)/\w.grownBy w' (some br)):=by
 refine cS ⟨9,w,(some br), []⟩ func41 U ntmps41 U (bV2 (X:= []) h cX cY) (bI (bP U (bP U (bB (dT jW U) U (bP U ?_)))))
 refine mA U U U eV9 U U (fun wx hm=>(by
  rcases (show n<=19∨n=20∨(20 < n/\n < 40)∨n=40 by omega) with h9|h9|h9|h9
  ·exact eO6 fx hF l0 br n eW base wx hm.k uJ h9
  ·exact eV2 fx hF l0 br n eW base wx hm.k uJ (by omega) h9
  ·exact eX2 fx hF l0 br n eW base wx hm.k uJ (by omega) h9 (ht (by omega))
  exact eY2 fx hF l0 br n eW base wx hm.k uJ (by omega) h9 (ht (by omega)))) ?_
 refine bE ?_
 refine kC U fun wx hm=>?_
 exact ⟨U,mB hm.k hm.g⟩
theorem eG2:bJ8 131:=⟨eJ8,dH4⟩
structure Ny where
 at_:Int
 dk:ByteArray
 no:Int
 ws:ByteArray
def eR (x:Ny):List Value:= [.int .i64 x.at_,.string x.dk,.int .i64 x.no,.string x.ws]
theorem vT (x:Ny):(eR x).length=4:=rfl
def cG8 (x:Ny):Prop:=(-4000000000000000000<=x.at_/\x.at_<=4000000000000000000)/\x.ws.size<=1000
noncomputable def pX (l:List Vh):ByteArray->Option ByteArray:=l.foldl (fun f v=>fQ f v.key v.cls) mY
noncomputable def qJ (l:List St):ByteArray->Option Bool:=l.foldl (fun f v=>fQ f v.key true) mY
theorem eF3 {l:List Vh} {i:Nat} {x:Vh} (h:l[i]?=some x):fQ (pX (l.take i)) x.key x.cls=pX (l.take (i+1)):=by
 unfold pX
 rw [List.take_add_one,h,Option.toList_some,List.foldl_append];rfl
theorem eR2 {l:List St} {i:Nat} {x:St} (h:l[i]?=some x):fQ (qJ (l.take i)) x.key true=qJ (l.take (i+1)):=by
 unfold qJ
 rw [List.take_add_one,h,Option.toList_some,List.foldl_append];rfl
inductive pQ (V:ByteArray->Option ByteArray) (T:ByteArray->Option Bool) (ck:Bk->Prop):List Int->Os->Prop
 |nil:pQ V T ck [] os0
 |snoc (l:List Int) (a:Int) (σ τ:Os):pQ V T ck l σ->kR V T ck a σ τ->pQ V T ck (l++ [a]) τ
theorem pQ.next {V:ByteArray->Option ByteArray} {T:ByteArray->Option Bool} {ck:Bk->Prop} {l:List Ny} {i:Nat} {x:Ny} {σ τ:Os} (h:pQ V T ck ((l.take i).map Ny.at_) σ) (hx:l[i]?=some x) (hs:kR V T ck x.at_ σ τ):pQ V T ck ((l.take (i+1)).map Ny.at_) τ:=by
 rw [List.take_add_one,hx,Option.toList_some,List.map_append]
 exact .snoc _ _ _ _ h hs
structure rW (σ:Os):Prop where
 on:∀x∈σ.lg,(σ.fa (x.veh,x.at_)).getD false=true
 one:∀x∈σ.lg,∀y∈σ.lg,x.at_=y.at_->x.veh=y.veh->x=y
theorem rW.say {σ:Os} {x:Ev} (h:rW σ) (hc:(σ.fa (x.veh,x.at_)).getD false=false):rW (gK σ x):=by
 refine ⟨fun y hy=>?_,fun y hy z hz e1 e2=>?_⟩
 ·show ((fQ σ.fa (x.veh,x.at_) true) (y.veh,y.at_)).getD false=true
  by_cases e:(y.veh,y.at_)=(x.veh,x.at_)
  ·rw [e,hU];rfl
  ·rw [dB _ _ e]
   rcases List.mem_append.1 hy with hy|hy
   ·exact h.on y hy
   ·rw [List.mem_singleton.1 hy] at e;exact absurd rfl e
 ·rcases List.mem_append.1 hy with hy|hy <;> rcases List.mem_append.1 hz with hz|hz
  ·exact h.one y hy z hz e1 e2
  ·rw [List.mem_singleton.1 hz] at e1 e2
   have:=h.on y hy
   rw [e1,e2,hc] at this;cases this
  ·rw [List.mem_singleton.1 hy] at e1 e2
   have:=h.on z hz
   rw [<-e1,<-e2,hc] at this;cases this
  ·rw [List.mem_singleton.1 hy,List.mem_singleton.1 hz]
theorem rW.same {σ τ:Os} (h:rW σ) (h1:τ.lg=σ.lg) (h2:τ.fa=σ.fa):rW τ:=⟨by rw [h1,h2];exact h.on,by rw [h1];exact h.one⟩
theorem kR.keys {V:ByteArray->Option ByteArray} {T:ByteArray->Option Bool} {ck:Bk->Prop} {a:Int} {σ τ:Os} (h:kR V T ck a σ τ) (hk:rW σ):rW τ:=by
 cases h with
 |same=>exact hk
 |ev x _ _ _ _ _ _ _ hc=>exact hk.say hc.1
 |book b=>exact hk.same rfl rfl
 |cancel k=>exact hk.same rfl rfl
 |start h v r _ _ _ _ _ _ _ hc=>exact (hk.say hc.1).same rfl rfl
 |extend k h h'=>exact hk.same rfl rfl
 |close k h h' g r _ _ _ _ _ _ _ _ _ hc=>exact (hk.say hc.1).same rfl rfl
 |swap k h h' g r q v _ _ _ _ _ _ _ _ _ _ _ _ hc1 hc2=>
  have hne:v≠g.veh:=fun e=>by
   have h1:=hc1.2
   have h2:=hc2.2
   unfold fF eP at h1
   unfold fF gL at h2
   rw [e] at h2
   simp at h1 h2
   omega
  refine ((hk.say hc1.1).say ?_).same U U
  show ((fQ σ.fa (g.veh,a) true) (v,a)).getD false=false
  rw [dB _ _ (fun e=>hne (congrArg Prod.fst e))]
  exact hc2.1
theorem pQ.facts {V:ByteArray->Option ByteArray} {T:ByteArray->Option Bool} {ck:Bk->Prop} {l:List Int} {σ:Os} (h:pQ V T ck l σ):cA3 σ/\rW σ/\σ.lg.length<=2 *l.length:=by
 induction h with
 |nil=>exact ⟨eB6,⟨(fun _ h=>by cases h),(fun _ h=>by cases h)⟩,Nat.le_refl _⟩
 |snoc l a σ τ _ h2 ih=>
  refine ⟨h2.ok ih.1,h2.keys ih.2.1,?_⟩
  have:=h2.len
  rw [List.length_append,List.length_singleton]
  omega
theorem pQ.keysB {V:ByteArray->Option ByteArray} {T:ByteArray->Option Bool} {ck:Bk->Prop} {l:List Int} {σ:Os} (h:pQ V T ck l σ):∃KL:List ByteArray,(∀k v,σ.fb k=some v->k∈KL)/\KL.length<=l.length:=by
 induction h with
 |nil=>exact ⟨[],(fun _ _ h=>by cases h),Nat.le_refl _⟩
 |snoc l a σ τ _ h2 ih=>
  obtain ⟨KL,h3,h4⟩:=ih
  have keep:(∀k v,τ.fb k=some v->σ.fb k=some v)->∃KL:List ByteArray,(∀k v,τ.fb k=some v->k∈KL)/\KL.length<=(l++ [a]).length:=fun h=>⟨KL,fun k v hv=>h3 k v (h k v hv),by rw [List.length_append];omega⟩
  cases h2 with
  |same=>exact keep fun _ _ h=>h
  |ev=>exact keep fun _ _ h=>h
  |book b=>exact ⟨b.key::KL,fun k v hv=>by
   rcases eM hv with ⟨e,_⟩|hv
   ·rw [e];exact List.mem_cons_self ..
   ·exact List.mem_cons_of_mem _ (h3 k v hv),by rw [List.length_append,List.length_cons,List.length_singleton];omega⟩
  |cancel k0=>exact keep fun _ _ h=>(bR9 h).2
  |start=>exact keep fun _ _ h=>(bR9 h).2
  |extend=>exact keep fun _ _ h=>h
  |close=>exact keep fun _ _ h=>h
  |swap=>exact keep fun _ _ h=>h
theorem pQ.keysH {V:ByteArray->Option ByteArray} {T:ByteArray->Option Bool} {ck:Bk->Prop} {l:List Int} {σ:Os} (h:pQ V T ck l σ):∃KL:List ByteArray,(∀k v,σ.fh k=some v->k∈KL)/\KL.length<=l.length:=by
 induction h with
 |nil=>exact ⟨[],(fun _ _ h=>by cases h),Nat.le_refl _⟩
 |snoc l a σ τ _ h2 ih=>
  obtain ⟨KL,h3,h4⟩:=ih
  have keep:(∀k v,τ.fh k=some v->(σ.fh k).isSome=true)->∃KL:List ByteArray,(∀k v,τ.fh k=some v->k∈KL)/\KL.length<=(l++ [a]).length:=fun h=>⟨KL,fun k v hv=>by
   obtain ⟨v2,zJ⟩:=Option.isSome_iff_exists.1 (h k v hv)
   exact h3 k v2 zJ,by rw [List.length_append];omega⟩
  have old:∀{k0:ByteArray} {h0 h':Hg},σ.fh k0=some h0->∀k v,fQ σ.fh k0 h' k=some v->(σ.fh k).isSome=true:=fun he k v hv=>by
   rcases eM hv with ⟨e,_⟩|hv
   ·rw [e,he];rfl
   ·rw [hv];rfl
  cases h2 with
  |same=>exact keep fun _ _ h=>by rw [h];rfl
  |ev=>exact keep fun k v h=>by rw [show σ.fh k=some v from h];rfl
  |book b=>exact keep fun k v h=>by rw [show σ.fh k=some v from h];rfl
  |cancel k0=>exact keep fun k v h=>by rw [show σ.fh k=some v from h];rfl
  |start h v r=>exact ⟨h.key::KL,fun k v hv=>by
   rcases eM hv with ⟨e,_⟩|hv
   ·rw [e];exact List.mem_cons_self ..
   ·exact List.mem_cons_of_mem _ (h3 k v hv),by rw [List.length_append,List.length_cons,List.length_singleton];omega⟩
  |extend k h h' he=>exact keep (old he)
  |close k h h' g r he=>exact keep (old he)
  |swap k h h' g r q v he=>exact keep (old he)
noncomputable def bY2 (V:ByteArray->Option ByteArray) (T:ByteArray->Option Bool) (cl:List Cs) (l:List Ny):As:=l.foldl (fun s x=>mE V T cl x.at_ x.ws s) as0
theorem dE2 {V:ByteArray->Option ByteArray} {T:ByteArray->Option Bool} {cl:List Cs} {l:List Ny} {i:Nat} {x:Ny} (h:l[i]?=some x):bY2 V T cl (l.take (i+1))=mE V T cl x.at_ x.ws (bY2 V T cl (l.take i)):=by
 unfold bY2
 rw [List.take_add_one,h,Option.toList_some,List.foldl_append];rfl
theorem pQ.fewB {V:ByteArray->Option ByteArray} {T:ByteArray->Option Bool} {ck:Bk->Prop} {l:List Int} {σ:Os} (h:pQ V T ck l σ) (hl:l.length<=499):Few σ.fb 499:=by
 obtain ⟨KL,h1,h2⟩:=h.keysB
 exact ⟨KL,h1,by omega⟩
theorem pQ.fewH {V:ByteArray->Option ByteArray} {T:ByteArray->Option Bool} {ck:Bk->Prop} {l:List Int} {σ:Os} (h:pQ V T ck l σ) (hl:l.length<=499):Few σ.fh 499:=by
 obtain ⟨KL,h1,h2⟩:=h.keysH
 exact ⟨KL,h1,by omega⟩
theorem rW.tie {σ:Os} (h:rW σ):bL8 σ.lg:=fun x hx y hy e=>by
 obtain ⟨h1,h2⟩:=vK.1 e
 exact h.one x hx y hy h1 h2
theorem nd7 {a b c d e f g:Nat} (h1:a≠b) (h2:a≠c) (h3:a≠d) (h4:a≠e) (h5:a≠f) (h6:a≠g) (h7:b≠c) (h8:b≠d) (h9:b≠e) (k1:b≠f) (k2:b≠g) (k3:c≠d) (k4:c≠e) (k5:c≠f) (k6:c≠g) (k7:d≠e) (k8:d≠f) (k9:d≠g) (m1:e≠f) (m2:e≠g) (m3:f≠g): [a,b,c,d,e,f,g].Nodup:=by
 simp [List.nodup_cons,h1,h2,h3,h4,h5,h6,h7,h8,h9,k1,k2,k3,k4,k5,k6,k7,k8,k9,m1,m2,m3]
theorem dL4 {w:World} {base e sz n:Nat} {v:Value} {xs:List Value} (h:w.ownsRow base e sz v n xs):(v= .slice none 0 0/\n=0)∨∃br cc,v= .slice (some ⟨br,0,none⟩) n cc:=by
 obtain ⟨_,h2⟩:=h
 rcases h2 with ⟨h2,h3⟩|⟨g',cap',wZ,hv,_⟩
 ·exact .inl ⟨h2,h3⟩
 ·exact .inr ⟨g',cap',hv⟩
theorem cN4 (w0:World) (sA cA vA eA:Option Addr) (sn sc cn cc vn vc en ec:Nat) (u3 u4 u5 u6 u7 u8 u9 jI jJ jK jL jM jN:Value) (sl:List St) (cl:List Cs) (vl:List Vh) (el:List Ny) (hs:SlT stEnc 15 99 w0 sA sn sl) (hc:SlT dW 2 84 w0 cA cn cl) (hv:SlT gW 2 57 w0 vA vn vl) (he:SlT eR 4 171 w0 eA en el) (ht:qL w0) (rS:∀x∈sl,StOk x) (hco:∀x∈cl,rV x) (hcn:cn<=1000) (wJ:∀x∈el,cG8 x) (hen:en<=20) (yY:sn<=1000000) (hvn:vn<=1000000):
 Calls prog 78 #[.agg #[.slice sA sn sc,.slice cA cn cc,.slice vA vn vc,u3,u4,u5,u6,u7,u8,u9,jI,jJ,jK,jL,jM,jN],.slice eA en ec] w0 (fun e w'=>∃go gv gs fT fR fS fU gC lv rv rn rx σ fp,e=.returned (.pointer (some ⟨go,0,none⟩))/\(pQ (pX vl) (qJ sl) (fun b=>jR cl [b]=0) (el.map Ny.at_) σ/\fZ σ=bY2 (pX vl) (qJ sl) cl el)/\gV ⟨0,w0,none, [68,9,3]⟩ (fun _=>True) [(go,119, [.slice sA sn sc,.slice cA cn cc,.slice vA vn vc,u3,u4,u5,u6,u7,u8,u9,jI,jJ,jK,jL,jM,jN,.map (some gv),.map (some gs),.map (some fT),lv,.map (some fR),.map (some fS),.map (some fU),.map (some gC),rv])] [⟨lv,74,5,σ.lg.length,(dS dU σ.lg).flatMap dO⟩,⟨rv,226,2,rn,rx⟩] [bU vS dM w0.heap.size gv ((pX vl)),bU vB dM w0.heap.size gs ((qJ sl)),bU qS dM w0.heap.size fT (σ.fs),bU vB nB w0.heap.size fR (σ.fa),bU pZ dM w0.heap.size fS (σ.fb),bU nG dM w0.heap.size fU (σ.fh),bU vI dM w0.heap.size gC (fp),gF 68 σ.fh,bW dW 2 84 w0.heap.size none cA cn cl,TxtO w0.heap.size none] w'):=by
 refine cS ⟨86,w0,none, [68,9,3]⟩ func78 U ntmps78 U (gM (X:= [bW stEnc 15 99 w0.heap.size none sA sn sl,bW gW 2 57 w0.heap.size none vA vn vl,bW dW 2 84 w0.heap.size none cA cn cl,bW eR 4 171 w0.heap.size none eA en el,TxtO w0.heap.size none]) (cF hs.old (cF hv.old (cF hc.old (cF he.old (cF ht.old cX))))) (cG bW.lasts (cG bW.lasts (cG bW.lasts (cG bW.lasts (cG TxtO.lasts cY)))))) (bR (fG U U U fun gH=>bX U (bQ (bR (bB (cU cN1 U (fun _ hm=>hm.blkI 0 U) U U) U (kV (enc:=vS) (ek:=dM) (fun g=>True) (fun _ hm=>trivial) U fun gv hne_gv=>kV (enc:=vB) (ek:=dM) (fun g=>gv≠g/\True) (fun _ hm=>⟨Nat.ne_of_lt (bU.lt (hm.fact 0 U)),trivial⟩) U fun gs hne_gs=>kV (enc:=qS) (ek:=dM) (fun g=>gs≠g/\gv≠g/\True) (fun _ hm=>⟨Nat.ne_of_lt (bU.lt (hm.fact 0 U)),Nat.ne_of_lt (bU.lt (hm.fact 1 U)),trivial⟩) U fun fT hne_gst=>kV (enc:=vB) (ek:=nB) (fun g=>fT≠g/\gs≠g/\gv≠g/\True) (fun _ hm=>⟨Nat.ne_of_lt (bU.lt (hm.fact 0 U)),Nat.ne_of_lt (bU.lt (hm.fact 1 U)),Nat.ne_of_lt (bU.lt (hm.fact 2 U)),trivial⟩) U fun fR hne_gat=>kV (enc:=pZ) (ek:=dM) (fun g=>fR≠g/\fT≠g/\gs≠g/\gv≠g/\True) (fun _ hm=>⟨Nat.ne_of_lt (bU.lt (hm.fact 0 U)),Nat.ne_of_lt (bU.lt (hm.fact 1 U)),Nat.ne_of_lt (bU.lt (hm.fact 2 U)),Nat.ne_of_lt (bU.lt (hm.fact 3 U)),trivial⟩) U fun fS hne_gbk=>kV (enc:=nG) (ek:=dM) (fun g=>fS≠g/\fR≠g/\fT≠g/\gs≠g/\gv≠g/\True) (fun _ hm=>⟨Nat.ne_of_lt (bU.lt (hm.fact 0 U)),Nat.ne_of_lt (bU.lt (hm.fact 1 U)),Nat.ne_of_lt (bU.lt (hm.fact 2 U)),Nat.ne_of_lt (bU.lt (hm.fact 3 U)),Nat.ne_of_lt (bU.lt (hm.fact 4 U)),trivial⟩) U fun fU hne_ghi=>kV (enc:=vI) (ek:=dM) (fun g=>fU≠g/\fS≠g/\fR≠g/\fT≠g/\gs≠g/\gv≠g/\True) (fun _ hm=>⟨Nat.ne_of_lt (bU.lt (hm.fact 0 U)),Nat.ne_of_lt (bU.lt (hm.fact 1 U)),Nat.ne_of_lt (bU.lt (hm.fact 2 U)),Nat.ne_of_lt (bU.lt (hm.fact 3 U)),Nat.ne_of_lt (bU.lt (hm.fact 4 U)),Nat.ne_of_lt (bU.lt (hm.fact 5 U)),trivial⟩) U fun gC hne_gpd=>bB (dJ (cs:= [.slice sA sn sc,.slice cA cn cc,.slice vA vn vc,u3,u4,u5,u6,u7,u8,u9,jI,jJ,jK,jL,jM,jN,.map (some gv),.map (some gs),.map (some fT),.slice none 0 0,.map (some fR),.map (some fS),.map (some fU),.map (some gC),.slice none 0 0]) U (by kernel_rfl)) U (fG U U U fun go=>bX U (bQ (bH (bR (dY bN5 U U (dY vL U U (eJ bM4 1 U U U (bB (dT bZ8 U) U (bP U (bQ (bO ?_)))))))))))))))))
 have hvl:=hv.len
 have hsl:=hs.len
 have hel:=he.len
 refine dX (γ:=Nat) (fun (i:Nat)=>i<=vn) (fun (i:Nat)=> [(1,.slice eA en ec),(2,.pointer (some ⟨gH,0,none⟩)),(4,.pointer none),(5,.pointer (some ⟨go,0,none⟩)),(25,.slice vA vn vc),(26,.int .i64 ((vn:Nat):Int)),(27,.int .i64 ((i:Nat):Int))]) (fun (i:Nat)=>fun _=>True) (fun (i:Nat)=> [(go,119, [.slice sA sn sc,.slice cA cn cc,.slice vA vn vc,u3,u4,u5,u6,u7,u8,u9,jI,jJ,jK,jL,jM,jN,.map (some gv),.map (some gs),.map (some fT),.slice none 0 0,.map (some fR),.map (some fS),.map (some fU),.map (some gC),.slice none 0 0]),(gH,42, [.slice sA sn sc,.slice cA cn cc,.slice vA vn vc,u3,u4,u5,u6,u7,u8,u9,jI,jJ,jK,jL,jM,jN])]) (fun (i:Nat)=> []) (fun (i:Nat)=> [bU vI dM w0.heap.size gC (mY),bU nG dM w0.heap.size fU (mY),bU pZ dM w0.heap.size fS (mY),bU vB nB w0.heap.size fR (mY),bU qS dM w0.heap.size fT (mY),bU vB dM w0.heap.size gs (mY),bU vS dM w0.heap.size gv (pX (vl.take i)),bW stEnc 15 99 w0.heap.size none sA sn sl,bW gW 2 57 w0.heap.size none vA vn vl,bW dW 2 84 w0.heap.size none cA cn cl,bW eR 4 171 w0.heap.size none eA en el,TxtO w0.heap.size none]) (fun (i:Nat)=>vn - i) 0 (Nat.zero_le _) ⟨U,U,U,U,U,U,U,trivial⟩ (fun _ hm=>hm.pick [0,1] [] [0,1,2,3,4,5,6,7,8,9,10,11] U U) ?_
 intro i cB
 replace cB:i<=vn:=cB
 refine bR (bB (dE U U) U (bQ (bH ?_)))
 refine cC U (fun hi=>?_) (fun hi=>?_)
 ·refine bN (bD (bH (bO (bR ?_))))
  obtain ⟨vb,vof,hvA,_,_⟩:=hv.get (by omega)
  subst hvA
  obtain ⟨x,hx⟩:∃x,vl[i]?=some x:=⟨_,fW3 (by omega)⟩
  obtain ⟨vk,vcl⟩:=x
  refine bB (bV (j:=i) bZ8 U U (by omega)) U (bB (dP (vs:= [.string vk,.string vcl]) cH7 U (fun _ hm=>(hm.fact 8 U).1) hx U U) U (dL eZ6 U fun g1=>kE (cs':= [.string vk,.string vcl]) 0 cH7 U U U U (bQ (gd (fun wz=>Blk wz g1 57 [.string vk,.string vcl]/\Blk wz go 119 [.slice sA sn sc,.slice cA cn cc,.slice (some ⟨vb,vof,none⟩) vn vc,u3,u4,u5,u6,u7,u8,u9,jI,jJ,jK,jL,jM,jN,.map (some gv),.map (some gs),.map (some fT),.slice none 0 0,.map (some fR),.map (some fS),.map (some fU),.map (some gC),.slice none 0 0]/\True) mixed (fun _ hm=>⟨hm.bl 0,hm.bl 1,trivial⟩) fun z=>wq 0 U (bL U) (wq 1 U (dA U) (wq 2 U (bS bZ7 U U) (wq 3 U (cQ dH2 U (fun _ hm=>hm.2.1) U) (wq 4 U (bS bP5 U U) (wq 5 U (cQ fC U (fun _ hm=>hm.1) U) (wq 6 U (bS cV8 U U) (wq 7 U (cQ fC U (fun _ hm=>hm.1) U) (eG 8 U (kO (enc:=vS) (ek:=dM) (s:=vk) (v:=vcl) (e:=9) (X':= [bU vI dM w0.heap.size gC (mY),bU nG dM w0.heap.size fU (mY),bU pZ dM w0.heap.size fS (mY),bU vB nB w0.heap.size fR (mY),bU qS dM w0.heap.size fT (mY),bU vB dM w0.heap.size gs (mY),bW stEnc 15 99 w0.heap.size none sA sn sl,bW gW 2 57 w0.heap.size none (some ⟨vb,vof,none⟩) vn vl,bW dW 2 84 w0.heap.size none cA cn cl,bW eR 4 171 w0.heap.size none eA en el,TxtO w0.heap.size none]) 6 jZ (by kernel_rfl) U U U U (cL (i:=0) (bU.farK hne_gpd.2.2.2.2.2.1.symm) U (cL (i:=1) (bU.farK hne_ghi.2.2.2.2.1.symm) U (cL (i:=2) (bU.farK hne_gbk.2.2.2.1.symm) U (cL (i:=3) (bU.farK hne_gat.2.2.1.symm) U (cL (i:=4) (bU.farK hne_gst.2.1.symm) U (cL (i:=5) (bU.farK hne_gs.1.symm) U (cL (i:=7) bW.mfar.far U (cL (i:=8) bW.mfar.far U (cL (i:=9) (bW.mfar).far U (cL (i:=10) bW.mfar.far U (cL (i:=11) (TxtO.mfar).far U gB))))))))))) (bE (nw 9 511 (fun _ hm=>⟨hm.bl 0,hm.bl 1,trivial⟩) fun z=>jO (bG (bD (bI (gO U U (bP U (bE ?_)))))))))))))))))))))
  rw [show fQ (pX (vl.take i)) vk vcl=pX (vl.take (i+1)) from eF3 hx]
  exact cN (i+1) (by show _<=_;omega) (by omega) ⟨U,U,U,U,U,U,(cR (by omega)),trivial⟩ (fun _ hm=>hm.pick [1,2] [] [1,2,3,4,5,6,0,7,8,9,10,11] U U)
 refine dD (bF (bF (bY (bD (bH (bR ?_))))))
 have hie:vl.take i=vl:=List.take_of_length_le (by omega)
 rw [hie]
 clear hie
 refine dY bN5 U U (dY cU8 U U (eJ eL6 1 U U U (bB (dT eC1 U) U (bP U (bQ (bO ?_))))))
 refine dX (γ:=Nat) (fun (j:Nat)=>j<=sn) (fun (j:Nat)=> [(1,.slice eA en ec),(4,.pointer none),(5,.pointer (some ⟨go,0,none⟩)),(42,.slice sA sn sc),(43,.int .i64 ((sn:Nat):Int)),(44,.int .i64 ((j:Nat):Int))]) (fun (j:Nat)=>fun _=>True) (fun (j:Nat)=> [(go,119, [.slice sA sn sc,.slice cA cn cc,.slice vA vn vc,u3,u4,u5,u6,u7,u8,u9,jI,jJ,jK,jL,jM,jN,.map (some gv),.map (some gs),.map (some fT),.slice none 0 0,.map (some fR),.map (some fS),.map (some fU),.map (some gC),.slice none 0 0]),(gH,42, [.slice sA sn sc,.slice cA cn cc,.slice vA vn vc,u3,u4,u5,u6,u7,u8,u9,jI,jJ,jK,jL,jM,jN])]) (fun (j:Nat)=> []) (fun (j:Nat)=> [bU vI dM w0.heap.size gC (mY),bU nG dM w0.heap.size fU (mY),bU pZ dM w0.heap.size fS (mY),bU vB nB w0.heap.size fR (mY),bU qS dM w0.heap.size fT (mY),bU vB dM w0.heap.size gs (qJ (sl.take j)),bU vS dM w0.heap.size gv (pX vl),bW stEnc 15 99 w0.heap.size none sA sn sl,bW gW 2 57 w0.heap.size none vA vn vl,bW dW 2 84 w0.heap.size none cA cn cl,bW eR 4 171 w0.heap.size none eA en el,TxtO w0.heap.size none]) (fun (j:Nat)=>sn - j) 0 (Nat.zero_le _) ⟨U,U,U,U,U,U,trivial⟩ (fun _ hm=>hm.pick [0,1] [] [0,1,2,3,4,5,6,7,8,9,10,11] U U) ?_
 intro j cB
 replace cB:j<=sn:=cB
 refine bR (bB (dE U U) U (bQ (bH ?_)))
 refine cC U (fun hj=>?_) (fun hj=>?_)
 ·refine bN (bD (bH (bO (bR ?_))))
  obtain ⟨tb,rU,hsA,_,_⟩:=hs.get (by omega)
  subst hsA
  obtain ⟨x,hx⟩:∃x,sl[j]?=some x:=⟨_,fW3 (by omega)⟩
  have hso:=rS _ (fX3 hx)
  obtain ⟨key,hs9⟩:=x
  obtain ⟨h0,h1,h2,h3,h4,h5,h6,h7,h8,h9,h10,h11,h12,h13,rfl⟩:=cM4 hs9 hso.1
  refine bB (bV (j:=j) eC1 U U (by omega)) U (bB (dP (vs:= [.string key,.int .i64 h0,.int .i64 h1,.int .i64 h2,.int .i64 h3,.int .i64 h4,.int .i64 h5,.int .i64 h6,.int .i64 h7,.int .i64 h8,.int .i64 h9,.int .i64 h10,.int .i64 h11,.int .i64 h12,.int .i64 h13]) eK6 U (fun _ hm=>(hm.fact 7 U).1) hx U U) U (dL fD3 U fun g2=>kE (cs':= [.string key,.int .i64 h0,.int .i64 h1,.int .i64 h2,.int .i64 h3,.int .i64 h4,.int .i64 h5,.int .i64 h6,.int .i64 h7,.int .i64 h8,.int .i64 h9,.int .i64 h10,.int .i64 h11,.int .i64 h12,.int .i64 h13]) 0 eK6 U U U U (bQ (gd (fun wz=>Blk wz g2 99 [.string key,.int .i64 h0,.int .i64 h1,.int .i64 h2,.int .i64 h3,.int .i64 h4,.int .i64 h5,.int .i64 h6,.int .i64 h7,.int .i64 h8,.int .i64 h9,.int .i64 h10,.int .i64 h11,.int .i64 h12,.int .i64 h13]/\Blk wz go 119 [.slice (some ⟨tb,rU,none⟩) sn sc,.slice cA cn cc,.slice vA vn vc,u3,u4,u5,u6,u7,u8,u9,jI,jJ,jK,jL,jM,jN,.map (some gv),.map (some gs),.map (some fT),.slice none 0 0,.map (some fR),.map (some fS),.map (some fU),.map (some gC),.slice none 0 0]/\True) mixed (fun _ hm=>⟨hm.bl 0,hm.bl 1,trivial⟩) fun z=>wq 0 U (bL U) (wq 1 U (dA U) (wq 2 U (bS xR U U) (wq 3 U (cQ cJ0 U (fun _ hm=>hm.2.1) U) (wq 4 U (bS dO7 U U) (wq 5 U (cQ fC U (fun _ hm=>hm.1) U) (eG 6 U (kO (enc:=vB) (ek:=dM) (s:=key) (v:=true) (e:=4) (X':= [bU vI dM w0.heap.size gC (mY),bU nG dM w0.heap.size fU (mY),bU pZ dM w0.heap.size fS (mY),bU vB nB w0.heap.size fR (mY),bU qS dM w0.heap.size fT (mY),bU vS dM w0.heap.size gv (pX vl),bW stEnc 15 99 w0.heap.size none (some ⟨tb,rU,none⟩) sn sl,bW gW 2 57 w0.heap.size none vA vn vl,bW dW 2 84 w0.heap.size none cA cn cl,bW eR 4 171 w0.heap.size none eA en el,TxtO w0.heap.size none]) 5 jZ (by kernel_rfl) U U U U (cL (i:=0) (bU.farK hne_gpd.2.2.2.2.1.symm) U (cL (i:=1) (bU.farK hne_ghi.2.2.2.1.symm) U (cL (i:=2) (bU.farK hne_gbk.2.2.1.symm) U (cL (i:=3) (bU.farK hne_gat.2.1.symm) U (cL (i:=4) (bU.farK hne_gst.1.symm) U (cL (i:=6) (bU.farK hne_gs.1) U (cL (i:=7) bW.mfar.far U (cL (i:=8) bW.mfar.far U (cL (i:=9) (bW.mfar).far U (cL (i:=10) bW.mfar.far U (cL (i:=11) (TxtO.mfar).far U gB))))))))))) (bE (nw 7 127 (fun _ hm=>⟨hm.bl 0,hm.bl 1,trivial⟩) fun z=>jO (bG (bD (bI (gO U U (bP U (bE ?_)))))))))))))))))))
  rw [show fQ (qJ (sl.take j)) key true=qJ (sl.take (j+1)) from eR2 hx]
  exact cN (j+1) (by show _<=_;omega) (by omega) ⟨U,U,U,U,U,(cR (by omega)),trivial⟩ (fun _ hm=>hm.pick [1,2] [] [1,2,3,4,5,0,6,7,8,9,10,11] U U)
 refine dD (bF (bF (bY (bD (bH (bR ?_))))))
 have hje:sl.take j=sl:=List.take_of_length_le (by omega)
 rw [hje]
 clear hje
 have hd: [gv,gs,fT,fR,fS,fU,gC].Nodup:=nd7 hne_gs.1 hne_gst.2.1 hne_gat.2.2.1 hne_gbk.2.2.2.1 hne_ghi.2.2.2.2.1 hne_gpd.2.2.2.2.2.1 hne_gst.1 hne_gat.2.1 hne_gbk.2.2.1 hne_ghi.2.2.2.1 hne_gpd.2.2.2.2.1 hne_gat.1 hne_gbk.2.1 hne_ghi.2.2.1 hne_gpd.2.2.2.1 hne_gbk.1 hne_ghi.2.1 hne_gpd.2.2.1 hne_ghi.1 hne_gpd.2.1 hne_gpd.1
 refine pJ 74 5 ?_
 refine pJ 226 2 ?_
 refine bP U (bB (dT uO U) U (bP U (bQ (bO ?_))))
 refine cD4 (γ:=Unit) (fun _=>gF 68 (mY:ByteArray->Option Hg)) (fun w hm=>⟨(),fun _ _ h=>by cases h⟩) (fun _=>gF.lasts2 U) fun _=>?_
 obtain ⟨V,hV⟩:∃z,z=pX vl:=⟨_,rfl⟩
 obtain ⟨T,hT⟩:∃z,z=qJ sl:=⟨_,rfl⟩
 rw [<-hV,<-hT]
 refine dX (γ:=Nat×Value×Value×Nat×List Value×Os×(ByteArray->Option Int)) (fun (gq:Nat×Value×Value×Nat×List Value×Os×(ByteArray->Option Int))=>gq.1<=en/\(pQ V T (fun b=>jR cl [b]=0) ((el.take gq.1).map Ny.at_) gq.2.2.2.2.2.1/\fZ gq.2.2.2.2.2.1=bY2 V T cl (el.take gq.1))/\zN gq.2.2.2.2.2.2/\gq.2.2.2.1<=gq.1) (fun (gq:Nat×Value×Value×Nat×List Value×Os×(ByteArray->Option Int))=> [(4,.pointer none),(5,.pointer (some ⟨go,0,none⟩)),(55,.slice eA en ec),(56,.int .i64 ((en:Nat):Int)),(57,.int .i64 ((gq.1:Nat):Int))]) (fun (gq:Nat×Value×Value×Nat×List Value×Os×(ByteArray->Option Int))=>fun _=>True) (fun (gq:Nat×Value×Value×Nat×List Value×Os×(ByteArray->Option Int))=> [(go,119, [.slice sA sn sc,.slice cA cn cc,.slice vA vn vc,u3,u4,u5,u6,u7,u8,u9,jI,jJ,jK,jL,jM,jN,.map (some gv),.map (some gs),.map (some fT),gq.2.1,.map (some fR),.map (some fS),.map (some fU),.map (some gC),gq.2.2.1])]) (fun (gq:Nat×Value×Value×Nat×List Value×Os×(ByteArray->Option Int))=> [⟨gq.2.1,74,5,gq.2.2.2.2.2.1.lg.length,gq.2.2.2.2.2.1.lg.flatMap dO⟩,⟨gq.2.2.1,226,2,gq.2.2.2.1,gq.2.2.2.2.1⟩]) (fun (gq:Nat×Value×Value×Nat×List Value×Os×(ByteArray->Option Int))=> [bU vS dM w0.heap.size gv (V),bU vB dM w0.heap.size gs (T),bU qS dM w0.heap.size fT (gq.2.2.2.2.2.1.fs),bU vB nB w0.heap.size fR (gq.2.2.2.2.2.1.fa),bU pZ dM w0.heap.size fS (gq.2.2.2.2.2.1.fb),bU nG dM w0.heap.size fU (gq.2.2.2.2.2.1.fh),bU vI dM w0.heap.size gC (gq.2.2.2.2.2.2),gF 68 gq.2.2.2.2.2.1.fh,bW dW 2 84 w0.heap.size none cA cn cl,TxtO w0.heap.size none,bW eR 4 171 w0.heap.size none eA en el]) (fun (gq:Nat×Value×Value×Nat×List Value×Os×(ByteArray->Option Int))=>en - gq.1) (0,.slice none 0 0,.slice none 0 0,0, [],os0,mY) ⟨Nat.zero_le _,⟨.nil,U⟩,eD6,Nat.le_refl _⟩ ⟨U,U,U,U,U,trivial⟩ (fun _ hm=>hm.pick [0] [1,0] [7,6,5,4,3,2,1,0,10,12,11] U U) ?_
 rintro ⟨i,lv,rv,rn,rx,σ,fp⟩ cB
 replace cB:i<=en/\(pQ V T (fun b=>jR cl [b]=0) ((el.take i).map Ny.at_) σ/\fZ σ=bY2 V T cl (el.take i))/\zN fp/\rn<=i:=cB
 dsimp only
 refine bR ?_
 obtain ⟨hi9,⟨vP,habs⟩,hpo,hrn⟩:=cB
 obtain ⟨hso,hky,hlg⟩:=vP.facts
 rw [List.length_map,List.length_take] at hlg
 refine bB (dE U U) U (bQ (bH ?_))
 refine cC U (fun hi=>?_) (fun hi=>?_)
 ·refine bN (bD (bH (bO (bR ?_))))
  obtain ⟨eb,eof,heA,_,_⟩:=he.get (by omega)
  subst heA
  obtain ⟨x,hx⟩:∃x,el[i]?=some x:=⟨_,fW3 (by omega)⟩
  have hny:=wJ _ (fX3 hx)
  obtain ⟨at_,dk,no,ws⟩:=x
  dsimp only [cG8] at hny
  refine bP U (bB (bV (j:=i) uO U U (by omega)) U (bB (dP (vs:= [.int .i64 at_,.string dk,.int .i64 no,.string ws]) kM U (fun _ hm=>(hm.fact 10 U).1) hx U U) U (dL cX2 U fun g3=>bX U (kE (cs':= [.int .i64 at_,.string dk,.int .i64 no,.string ws]) 0 kM U U U U (bQ (bR (bP U (bB (cU kM U (fun _ hm=>hm.blkI 0 U) U U) U ?_))))))))
  refine gD (γ:=Value×Os×(ByteArray->Option Int)×Int) (val:=fun q=> .int .i64 q.2.2.2) (φ:=(fun (q:Value×Os×(ByteArray->Option Int)×Int)=>(kR V T (fun b=>jR cl [b]=0) at_ σ q.2.1/\fZ q.2.1=mE V T cl at_ ws (fZ σ))/\zN q.2.2.1)) (K':=fun _=>fun _=>True) (L':=(fun (q:Value×Os×(ByteArray->Option Int)×Int)=> [(go,119, [.slice sA sn sc,.slice cA cn cc,.slice vA vn vc,u3,u4,u5,u6,u7,u8,u9,jI,jJ,jK,jL,jM,jN,.map (some gv),.map (some gs),.map (some fT),q.1,.map (some fR),.map (some fS),.map (some fU),.map (some gC),rv])])) (O':=(fun (q:Value×Os×(ByteArray->Option Int)×Int)=> [⟨q.1,74,5,q.2.1.lg.length,q.2.1.lg.flatMap dO⟩,⟨rv,226,2,rn,rx⟩])) (X':=(fun (q:Value×Os×(ByteArray->Option Int)×Int)=> [bU vS dM w0.heap.size gv (V),bU vB dM w0.heap.size gs (T),bU qS dM w0.heap.size fT (q.2.1.fs),bU vB nB w0.heap.size fR (q.2.1.fa),bU pZ dM w0.heap.size fS (q.2.1.fb),bU nG dM w0.heap.size fU (q.2.1.fh),bU vI dM w0.heap.size gC (q.2.2.1),gF 68 q.2.1.fh,bW dW 2 84 w0.heap.size none cA cn cl,TxtO w0.heap.size none])) U eI8 U U (fun wx hm=>(cD6 w0 (.slice sA sn sc) (.slice vA vn vc) u3 u4 u5 u6 u7 u8 u9 jI jJ jK jL jM jN go gv gs fT fR fS fU gC cA cn cc cl V T rv rn rx hd fp σ lv at_ dk no ws wx hny.1 hny.2 hco hcn (by omega) hso (vP.fewB (by rw [List.length_map,List.length_take];omega)) (vP.fewH (by rw [List.length_map,List.length_take];omega)) hpo (hm.pick [1] [0,1] [0,1,2,3,4,5,6,7,8,9] U U).cy).mono fun _ _ ⟨qK,σ2,fp2,E,he,h1,h2,vD⟩=>⟨(qK,σ2,fp2,E),he,⟨h1,h2⟩,vD.cy⟩) ?_
  rintro ⟨qK,σ2,fp2,E2⟩ hst
  dsimp only at hst ⊢
  refine yT (γ:=Unit) (fun _=>bW eR 4 171 w0.heap.size none (some ⟨eb,eof,none⟩) en el) (fun w hm=>⟨(),(bW.lasts (Tt:= [])).gr w0 w hm.g he.old⟩) (fun _=>bW.lasts) fun _=>?_
  refine bX U (bQ (bR (bP U (bB (gS U U) U (bQ ?_)))))
  refine gI U (fun hE=>?_) (fun hE=>?_)
  ·refine bI (bP U (bP U (bB (dA U) U (dY dK1 U U (eJ eL4 0 U U U (bP U (bP U ?_)))))))
   refine bB (dJ (cs:= [.int .i64 ((i:Nat):Int),.int .i64 E2]) U (by kernel_rfl)) U (jE 226 [.int .i64 ((i:Nat):Int),.int .i64 E2] fun g4=>eB (news:= [.int .i64 ((i:Nat):Int),.int .i64 E2]) 1 0 eK7 U U U U U U U (by omega) (by unfold maxLen;omega) U U fun rv2 hrv2=>?_)
   refine dV (R:=∃A cc,rv2= .slice A (rn+1) cc) (fun wx hm=>dR (hm.ownI 1 U)) ?_
   rintro ⟨rA,rc,rfl⟩
   refine bB (dA U) U (dY dK1 U U (jH 1 eL4 U U U U U U (bE (bG (bD (bI (gO U U (bP U (bE ?_)))))))))
   exact cN (i+1,qK,(Value.slice rA (rn+1) rc),rn+1,rx++([.int .i64 ((i:Nat):Int),.int .i64 E2]:List Value),σ2,fp2) ⟨by dsimp only;omega,⟨vP.next hx hst.1.1,by rw [dE2 hx,hst.1.2,habs]⟩,hst.2,by dsimp only;omega⟩ (by dsimp only;omega) ⟨U,U,U,U,(cR (by dsimp only;omega)),trivial⟩ (fun _ hm=>hm.pick [1] [0,1] [1,2,3,4,5,6,7,8,9,10,0] U U)
  refine bN (bG (bD (bI (gO U U (bP U (bE ?_))))))
  exact cN (i+1,qK,rv,rn,rx,σ2,fp2) ⟨by dsimp only;omega,⟨vP.next hx hst.1.1,by rw [dE2 hx,hst.1.2,habs]⟩,hst.2,by dsimp only;omega⟩ (by dsimp only;omega) ⟨U,U,U,U,(cR (by dsimp only;omega)),trivial⟩ (fun _ hm=>hm.pick [0] [0,1] [1,2,3,4,5,6,7,8,9,10,0] U U)
 refine dD (bF (bF (bY (bD (bR ?_)))))
 have hie:i=en:=by omega
 have hte:el.take i=el:=List.take_of_length_le (by omega)
 rw [hte] at vP habs
 refine bP U (bB (dA U) U (dY bS3 U U (eJ dA5 0 U U U ?_)))
 refine dV (R:=(lv= .slice none 0 0/\σ.lg.length=0)∨∃br cc,lv= .slice (some ⟨br,0,none⟩) σ.lg.length cc) (fun wx hm=>dL4 (hm.ownI 0 U)) ?_
 rintro (⟨rfl,uJ⟩|⟨br,cc,rfl⟩)
 ·have hiso:dS dU σ.lg=σ.lg:=by rw [List.eq_nil_of_length_eq_zero uJ];rfl
  refine cH U eU0 U U (fun wx hm=>(cN0 _ none 0 wx)) (bQ (bR (bP U (bX U (bQ (bM ?_))))))
  refine bJ U U fun wx hm=>?_
  refine ⟨go,gv,gs,fT,fR,fS,fU,gC,.slice none 0 0,rv,rn,rx,σ,fp,U,⟨vP,by rw [habs,hV,hT]⟩,?_⟩
  rw [hiso]
  exact (hm.pick [0] [0,1] [0,1,2,3,4,5,6,7,8,9] U U).cy
 refine bX4 (v:= .tuple #[]) (xs':=(dS dU σ.lg).flatMap dO) 0 U U U eU0 U U (fun wx hm=>(bF7 _ eG2 σ.lg br σ.lg.length cc _ wx (hm.ownI 0 U) U (by omega) (fun _=>hky.tie))) ?_
 refine bQ (bR (bP U (bX U (bQ (bM ?_)))))
 refine bJ U U fun wx hm=>?_
 refine ⟨go,gv,gs,fT,fR,fS,fU,gC,.slice (some ⟨br,0,none⟩) σ.lg.length cc,rv,rn,rx,σ,fp,U,⟨vP,by rw [habs,hV,hT]⟩,?_⟩
 exact (hm.pick [0] [0,1] [0,1,2,3,4,5,6,7,8,9] U U).cy
structure Tr where
 fr:Int
 to_:Int
 a:ByteArray
 b:ByteArray
def bG7 (x:Tr):List Value:= [.int .i64 x.fr,.int .i64 x.to_,.string x.a,.string x.b]
theorem dO0 (x:Tr):(bG7 x).length=4:=rfl
def cR7:List Sa->Int
 | []=> -1
 |t::_=>t.since
def bOf:List Sa->ByteArray
 | []=>⟨#[]⟩
 |t::_=>t.sta
def trR:ByteArray->List Sa->List Tr
 |_, []=> []
 |p,s::r=>(if s.st=2 then [⟨s.since,cR7 r,p,bOf r⟩] else [])++trR s.sta r
def uW (el:List Ev) (v:ByteArray):List Tr:=trR ⟨#[]⟩ (uU el v)
theorem dP2:∀(l:List Sa) (p:ByteArray),(trR p l).length<=l.length
 | [],_=>Nat.le_refl _
 |s::r,p=>by
  have:=dP2 r s.sta
  unfold trR
  rw [List.length_append,List.length_cons]
  split
  ·rw [List.length_singleton];omega
  ·rw [List.length_nil];omega
def zE (v:ByteArray):List Ev->Sa->List Tr->List Tr
 | [],_,acc=>acc
 |x::r,s,acc=>if (x.veh.toList==v.toList)=true then (if fF s x=true then
  (if x.kd=2 then zE v r (jS x) (acc++ [⟨x.at_, -1,x.sta,⟨#[]⟩⟩])
   else if x.kd=3 then zE v r (jS x) (acc.set (acc.length - 1) ⟨(acc[acc.length - 1]?.getD ⟨0,0,⟨#[]⟩,⟨#[]⟩⟩).fr,x.at_,(acc[acc.length - 1]?.getD ⟨0,0,⟨#[]⟩,⟨#[]⟩⟩).a,x.sta⟩)
   else zE v r (jS x) acc) else zE v r s acc) else zE v r s acc
theorem dQ7 {s:Sa} {x:Ev} (h:fF s x=true) (hk:x.kd=2):s.st=1/\s.sta=x.sta/\jS x=⟨2,⟨#[]⟩,x.at_⟩:=by
 unfold fF at h
 rw [if_neg (by omega),if_neg (by omega),if_neg (by omega),if_neg (by omega),if_pos (.inl hk),Bool.and_eq_true,decide_eq_true_eq] at h
 refine ⟨h.1,bP0.1 h.2,?_⟩
 unfold jS
 rw [if_pos hk]
theorem bH9 {s:Sa} {x:Ev} (h:fF s x=true) (hk:x.kd=3):s.st=2/\jS x=⟨1,x.sta,x.at_⟩:=by
 unfold fF at h
 rw [if_neg (by omega),if_pos hk,decide_eq_true_eq] at h
 refine ⟨h,?_⟩
 unfold jS
 rw [if_neg (by omega),if_neg (by omega),if_neg (by omega),if_neg (by omega)]
theorem cA2 {s:Sa} {x:Ev} (h:fF s x=true) (h2:x.kd≠2) (h3:x.kd≠3):s.st≠2/\(jS x).st≠2:=by
 constructor
 ·intro e
  unfold fF at h
  rw [e] at h
  rw [if_neg h3] at h
  repeat' split at h
  all_goals simp at h
 ·unfold jS
  rw [if_neg h2]
  repeat' split
  all_goals simp
theorem bO0 {v:ByteArray}:∀(l:List Ev) (s:Sa) (acc:List Tr),
 (s.st≠2->zE v l s acc=acc++trR s.sta (pW v l s))/\
 (∀a,s.st=2->zE v l s (acc++ [⟨s.since, -1,a,⟨#[]⟩⟩])=acc++(⟨s.since,cR7 (pW v l s),a,bOf (pW v l s)⟩::trR s.sta (pW v l s)))
 | [],s,acc=>⟨fun _=>(List.append_nil _).symm,fun a _=>rfl⟩
 |x::r,s,acc=>by
  by_cases hv:(x.veh.toList==v.toList)=true
  ·by_cases hg:fF s x=true
   ·have hst:pW v (x::r) s=jS x::pW v r (jS x):=by
     conv=>lhs;unfold pW
     rw [if_pos hv,if_pos hg]
    rw [hst]
    by_cases h2:x.kd=2
    ·obtain ⟨g1,g2,g3⟩:=dQ7 hg h2
     refine ⟨fun _=>?_,fun _ e=>by omega⟩
     unfold zE
     rw [if_pos hv,if_pos hg,if_pos h2]
     have ih:=(bO0 (v:=v) r (jS x) acc).2 x.sta (by rw [g3])
     rw [g3] at ih ⊢
     rw [ih]
     conv=>rhs;unfold trR
     rw [if_pos rfl,g2];rfl
    ·by_cases h3:x.kd=3
     ·obtain ⟨g1,g3⟩:=bH9 hg h3
      refine ⟨fun e=>absurd g1 e,fun a _=>?_⟩
      unfold zE
      rw [if_pos hv,if_pos hg,if_neg h2,if_pos h3]
      have e1:(acc++ [(⟨s.since, -1,a,⟨#[]⟩⟩:Tr)]).length - 1=acc.length:=by rw [List.length_append,List.length_singleton];omega
      have e2:(acc++ [(⟨s.since, -1,a,⟨#[]⟩⟩:Tr)])[acc.length]?=some ⟨s.since, -1,a,⟨#[]⟩⟩:=by rw [List.getElem?_append_right (Nat.le_refl _),Nat.sub_self];rfl
      rw [e1,e2]
      have e3:(acc++ [(⟨s.since, -1,a,⟨#[]⟩⟩:Tr)]).set acc.length ⟨s.since,x.at_,a,x.sta⟩=acc++ [⟨s.since,x.at_,a,x.sta⟩]:=by
       rw [List.set_append_right _ _ (Nat.le_refl _),Nat.sub_self];rfl
      show zE v r (jS x) ((acc++ [(⟨s.since, -1,a,⟨#[]⟩⟩:Tr)]).set acc.length ⟨s.since,x.at_,a,x.sta⟩)=_
      rw [e3]
      have ih:=(bO0 (v:=v) r (jS x) (acc++ [⟨s.since,x.at_,a,x.sta⟩])).1 (by rw [g3];simp)
      rw [ih,g3,List.append_assoc]
      conv=>rhs;unfold trR
      rfl
     ·obtain ⟨g1,g2⟩:=cA2 hg h2 h3
      refine ⟨fun _=>?_,fun _ e=>absurd e g1⟩
      unfold zE
      rw [if_pos hv,if_pos hg,if_neg h2,if_neg h3,(bO0 (v:=v) r (jS x) acc).1 g2]
      conv=>rhs;unfold trR
      rw [if_neg g2];rfl
   ·have hst:pW v (x::r) s=pW v r s:=by
     conv=>lhs;unfold pW
     rw [if_pos hv,if_neg hg]
    rw [hst]
    have hP:∀acc,zE v (x::r) s acc=zE v r s acc:=fun acc=>by
     conv=>lhs;unfold zE
     rw [if_pos hv,if_neg hg]
    refine ⟨fun e=>?_,fun a e=>?_⟩
    ·rw [hP];exact (bO0 (v:=v) r s acc).1 e
    ·rw [hP];exact (bO0 (v:=v) r s acc).2 a e
  ·have hst:pW v (x::r) s=pW v r s:=by
    conv=>lhs;unfold pW
    rw [if_neg hv]
   rw [hst]
   have hP:∀acc,zE v (x::r) s acc=zE v r s acc:=fun acc=>by
    conv=>lhs;unfold zE
    rw [if_neg hv]
   refine ⟨fun e=>?_,fun a e=>?_⟩
   ·rw [hP];exact (bO0 (v:=v) r s acc).1 e
   ·rw [hP];exact (bO0 (v:=v) r s acc).2 a e
theorem eA0 {v:ByteArray} (el:List Ev):zE v el wM []=uW el v:=by
 rw [(bO0 el wM []).1 (by decide)];rfl
theorem eQ6 {v:ByteArray} {l:List Ev} {i:Nat} {x:Ev} {s:Sa} {acc:List Tr} (h:l[i]?=some x):zE v (l.drop i) s acc=zE v (x::l.drop (i+1)) s acc:=by
 obtain ⟨hi,rfl⟩:=List.getElem?_eq_some_iff.1 h
 rw [List.drop_eq_getElem_cons hi]
section
variable {v:ByteArray} {r:List Ev} {x:Ev} {s:Sa} {acc:List Tr}
theorem dW9 (hv:(x.veh.toList==v.toList)=false):zE v (x::r) s acc=zE v r s acc:=by
 conv=>lhs;unfold zE
 rw [if_neg (by rw [hv];decide)]
theorem eB3 (hv:(x.veh.toList==v.toList)=true) (hg:fF s x=false):zE v (x::r) s acc=zE v r (fW s x) acc:=by
 conv=>lhs;unfold zE
 rw [if_pos hv,if_neg (by rw [hg];decide)]
 unfold fW
 rw [if_neg (by rw [hg];decide)]
theorem bM1 (hg:fF s x=true):fW s x=jS x:=by unfold fW;rw [if_pos hg]
theorem eC3 (hv:(x.veh.toList==v.toList)=true) (hg:fF s x=true) (h2:x.kd=2):zE v (x::r) s acc=zE v r (fW s x) (acc++ [⟨x.at_, -1,x.sta,⟨#[]⟩⟩]):=by
 conv=>lhs;unfold zE
 rw [if_pos hv,if_pos hg,if_pos h2,bM1 hg]
theorem dJ5 {e:Tr} (hv:(x.veh.toList==v.toList)=true) (hg:fF s x=true) (h3:x.kd=3) (he:acc[acc.length - 1]?=some e):zE v (x::r) s acc=zE v r (fW s x) (acc.set (acc.length - 1) ⟨e.fr,x.at_,e.a,x.sta⟩):=by
 conv=>lhs;unfold zE
 rw [if_pos hv,if_pos hg,if_neg (by omega),if_pos h3,he,bM1 hg];rfl
theorem dV9 (hv:(x.veh.toList==v.toList)=true) (hg:fF s x=true) (h2:x.kd≠2) (h3:x.kd≠3):zE v (x::r) s acc=zE v r (fW s x) acc:=by
 conv=>lhs;unfold zE
 rw [if_pos hv,if_pos hg,if_neg h2,if_neg h3,bM1 hg]
end
theorem uD {a b:ByteArray}:(a.toList==b.toList)=true↔a=b:=⟨fun h=>cF3 (beq_iff_eq.1 h),fun h=>by rw [h];exact beq_self_eq_true _⟩
section
variable (φ:Int->Int->Int)
def trS:List Sa->Int
 | []=>0
 |s::r=>(if s.st=2 then φ s.since (cR7 r) else 0)+trS r
theorem cS7 (s t:Sa):∀l:List Sa,trS φ (l++ [s,t])=trS φ (l++ [s])+(if s.st=2 then φ s.since t.since - φ s.since (-1) else 0)+(if t.st=2 then φ t.since (-1) else 0)
 | []=>by
  show (if s.st=2 then φ s.since t.since else 0)+((if t.st=2 then φ t.since (-1) else 0)+0)=(if s.st=2 then φ s.since (-1) else 0)+0+_+_
  split <;> omega
 |y::l=>by
  have e:cR7 (l++ [s,t])=cR7 (l++ [s]):=by cases l <;> rfl
  have ih:=cS7 s t l
  show (if y.st=2 then φ y.since (cR7 (l++ [s,t])) else 0)+trS φ (l++ [s,t])=(if y.st=2 then φ y.since (cR7 (l++ [s])) else 0)+trS φ (l++ [s])+_+_
  rw [e,ih];omega
def lgS (v:ByteArray):List Lg->Int
 | []=>0
 |g::r=>(if (g.veh.toList==v.toList)=true then φ g.out.at_ g.inn.at_ else 0)+lgS v r
theorem bC8 {v:ByteArray}:∀{l m:List Lg},lgS φ v (l++m)=lgS φ v l+lgS φ v m
 | [],m=>by show _=0+_;rw [Int.zero_add];rfl
 |g::r,m=>by
  have ih:=bC8 (v:=v) (l:=r) (m:=m)
  show _+lgS φ v (r++m)=_+lgS φ v r+_
  rw [ih];omega
def oS (v:ByteArray):Option Hg->Int
 |none=>0
 |some h=>lgS φ v h.legs
def kS (v:ByteArray) (f:ByteArray->Option Hg):List ByteArray->Int
 | []=>0
 |k::r=>oS φ v (f k)+kS v f r
theorem dQ1 {v:ByteArray} {f g:ByteArray->Option Hg}:∀{ks:List ByteArray},(∀k∈ks,f k=g k)->kS φ v f ks=kS φ v g ks
 | [],_=>rfl
 |k::r,h=>by
  show oS φ v (f k)+kS φ v f r=oS φ v (g k)+kS φ v g r
  rw [h k (List.mem_cons_self ..),dQ1 fun j hj=>h j (List.mem_cons_of_mem _ hj)]
theorem cJ4 {v k:ByteArray} {f:ByteArray->Option Hg} {h:Hg}:∀{ks:List ByteArray},ks.Nodup->k∈ks->kS φ v (fQ f k h) ks=kS φ v f ks - oS φ v (f k)+lgS φ v h.legs
 | [],_,hk=>by cases hk
 |j::r,hn,hk=>by
  obtain ⟨h1,h2⟩:=List.nodup_cons.1 hn
  show oS φ v (fQ f k h j)+kS φ v (fQ f k h) r=oS φ v (f j)+kS φ v f r - _+_
  by_cases e:j=k
  ·subst e
   rw [hU,dQ1 φ (g:=f) (fun i hi=>dB _ _ (fun (q:i=j)=>h1 (q ▸ hi)))]
   show lgS φ v h.legs+_=_
   omega
  ·rw [dB _ _ e,cJ4 h2 ((List.mem_cons.1 hk).resolve_left fun e2=>e e2.symm)]
   omega
end
theorem bD1 {v:ByteArray} {x:Ev}:∀{l:List Ev} {s:Sa},nT v (l++ [x]) s=if (x.veh.toList==v.toList)=true then fW (nT v l s) x else nT v l s
 | [],_=>rfl
 |_::r,_=>bD1 (l:=r)
theorem bN1 {v:ByteArray}:∀(l:List Ev) (s:Sa),∃m,s::pW v l s=m++ [nT v l s]
 | [],s=>⟨[],rfl⟩
 |x::r,s=>by
  unfold pW nT
  by_cases hv:(x.veh.toList==v.toList)=true
  ·rw [if_pos hv,if_pos hv]
   unfold fW
   by_cases hg:fF s x=true
   ·rw [if_pos hg,if_pos hg]
    obtain ⟨m,h⟩:=bN1 r (jS x)
    exact ⟨s::m,by rw [h];rfl⟩
   ·rw [if_neg hg,if_neg hg]
    exact bN1 r s
  ·rw [if_neg hv,if_neg hv]
   exact bN1 r s
theorem bQ4 {v:ByteArray} {x:Ev}:∀{l:List Ev} {s:Sa},pW v (l++ [x]) s=pW v l s++(if (x.veh.toList==v.toList)=true then (if fF (nT v l s) x=true then [jS x] else []) else [])
 | [],s=>by
  show pW v [x] s=_
  unfold pW
  show (if _ then (if _ then jS x:: [] else []) else [])= []++_
  rfl
 |y::r,s=>by
  show pW v (y::(r++ [x])) s=_
  unfold pW nT
  by_cases hv:(y.veh.toList==v.toList)=true
  ·simp only [if_pos hv]
   unfold fW
   by_cases hg:fF s y=true
   ·simp only [if_pos hg]
    rw [bQ4];rfl
   ·simp only [if_neg hg]
    rw [bQ4]
  ·simp only [if_neg hv]
   rw [bQ4]
def cu (σ:Os) (v:ByteArray):Sa:=nT v σ.lg wM
theorem dB1 {σ:Os} {x:Ev} (h:fF (cu σ x.veh) x=true):cu (gK σ x) x.veh=jS x:=by
 show nT _ (σ.lg++ [x]) wM=_
 rw [bD1,if_pos (uD.2 rfl)]
 unfold fW
 exact if_pos h
theorem bW8 {σ:Os} {x:Ev} {v:ByteArray} (h:v≠x.veh):cu (gK σ x) v=cu σ v:=by
 show nT _ (σ.lg++ [x]) wM=_
 rw [bD1,if_neg (fun e=>h (uD.1 e).symm)];rfl
theorem cC5 {φ:Int->Int->Int} {lg:List Ev} {x:Ev} {v:ByteArray}:trS φ (uU (lg++ [x]) v)=trS φ (uU lg v)+(if (x.veh.toList==v.toList)=true then (if fF (nT v lg wM) x=true then (if (nT v lg wM).st=2 then φ (nT v lg wM).since x.at_ - φ (nT v lg wM).since (-1) else 0)+(if (jS x).st=2 then φ x.at_ (-1) else 0) else 0) else 0):=by
 unfold uU
 rw [bQ4]
 by_cases hv:(x.veh.toList==v.toList)=true
 ·rw [if_pos hv,if_pos hv]
  by_cases hg:fF (nT v lg wM) x=true
  ·rw [if_pos hg,if_pos hg]
   obtain ⟨m,h⟩:=bN1 (v:=v) lg wM
   rw [<-List.cons_append,h,List.append_assoc]
   have h2:=cS7 φ (nT v lg wM) (jS x) m
   rw [cX6] at h2
   show trS φ (m++ [nT v lg wM,jS x])=_
   rw [h2];omega
  ·rw [if_neg hg,if_neg hg,List.append_nil,Int.add_zero]
 ·rw [if_neg hv,if_neg hv,List.append_nil,Int.add_zero]
theorem yD {l:List Lg} {g:Lg} (h:l[l.length - 1]?=some g):∃m,l=m++ [g]:=by
 rcases List.eq_nil_or_concat l with rfl|⟨m,x,rfl⟩
 ·cases h
 ·simp at h
  exact ⟨m,by rw [h];simp⟩
theorem dS1 {m:List Lg} {g:Lg}:(m++ [g])[(m++ [g]).length - 1]?=some g:=by simp
theorem bR0 {m:List Lg} {g:Lg} {r:Rd}:endLegs (m++ [g]) r=m++ [⟨g.veh,g.out,r⟩]:=by
 unfold endLegs
 rw [dS1]
 simp
theorem bZ9 {m:List Lg} {g:Lg}:openB (m++ [g])=true↔g.inn.at_= -1:=by
 unfold openB
 rw [dS1]
 exact beq_iff_eq
theorem cK7 {α:Type} {m m':List α} {g g':α} (h:m++ [g]=m'++ [g']):m=m'/\g=g':=by
 have:=List.append_inj' h rfl
 exact ⟨this.1,by have h2:=this.2;injection h2⟩
structure HI (σ:Os):Prop where
 fs:∀v,(σ.fs v).getD wM=cu σ v
 op:∀k h m g,σ.fh k=some h->h.legs=m++ [g]->g.inn.at_= -1->(cu σ g.veh).st=2/\(cu σ g.veh).since=g.out.at_
 un:∀k k' h h' m m' g g',σ.fh k=some h->σ.fh k'=some h'->h.legs=m++ [g]->h'.legs=m'++ [g']->g.inn.at_= -1->g'.inn.at_= -1->g.veh=g'.veh->k=k'
 sm:∀(φ:Int->Int->Int) v ks,ks.Nodup->(∀k,(σ.fh k).isSome=true->k∈ks)->trS φ (uU σ.lg v)=kS φ v σ.fh ks
theorem dE8 {φ:Int->Int->Int} {v:ByteArray}:∀{ks:List ByteArray},kS φ v mY ks=0
 | []=>rfl
 |k::r=>by
  show 0+kS φ v mY r=0
  rw [dE8,Int.add_zero]
theorem HI.start:HI os0:=⟨fun _=>rfl,(fun _ _ _ _ h=>by cases h),(fun _ _ _ _ _ _ _ _ h=>by cases h),fun φ v ks _ _=>by
 rw [show (os0).fh=mY from rfl,dE8];rfl⟩
theorem cZ8 {σ:Os} {x:Ev} (h:∀v,(σ.fs v).getD wM=cu σ v) (v:ByteArray):((gK σ x).fs v).getD wM=cu (gK σ x) v:=by
 show (fQ σ.fs x.veh (fW ((σ.fs x.veh).getD wM) x) v).getD wM=nT v (σ.lg++ [x]) wM
 rw [bD1]
 by_cases e:v=x.veh
 ·subst e
  rw [hU,if_pos (uD.2 rfl),Option.getD_some,h];rfl
 ·rw [dB _ _ e,if_neg (fun q=>e (uD.1 q).symm),h];rfl
theorem cZ1 {s:Sa} {x:Ev} (h:fF s x=true):(x.kd=3/\s.st=2)∨(x.kd≠3/\s.st≠2):=by
 unfold fF at h
 split at h
 ·rename_i e
  exact .inr ⟨by omega,by have:=of_decide_eq_true h;omega⟩
 ·split at h
  ·rename_i e
   exact .inl ⟨e,of_decide_eq_true h⟩
  ·rename_i e
   refine .inr ⟨e,?_⟩
   split at h
   ·rw [Bool.and_eq_true] at h;have:=of_decide_eq_true h.1;omega
   ·split at h
    ·rw [Bool.and_eq_true] at h;have:=of_decide_eq_true h.1;omega
    ·split at h
     ·rw [Bool.and_eq_true] at h;have:=of_decide_eq_true h.1;omega
     ·cases h
theorem dU8 {x:Ev}:(jS x).st=2↔x.kd=2:=by
 unfold jS
 split
 ·rename_i e;exact ⟨fun _=>e,fun _=>rfl⟩
 ·rename_i e
  refine ⟨fun h=>?_,fun h=>absurd h e⟩
  repeat' split at h
  all_goals exact absurd h (by simp)
theorem HI.say {σ:Os} {x:Ev} (h:HI σ) (hc:bT1 σ x) (h2:x.kd≠2) (h3:x.kd≠3):HI (gK σ x):=by
 have hg:=hc.2
 rw [h.fs] at hg
 have hs:=(cZ1 hg).resolve_left fun q=>h3 q.1
 have ho:∀v,(cu σ v).st=2->cu (gK σ x) v=cu σ v:=fun v hv=>bW8 fun e=>hs.2 (e ▸ hv)
 refine ⟨cZ8 h.fs,fun k y m g e1 e2 e3=>?_,h.un,fun φ v ks hn hk=>?_⟩
 ·have h1:=h.op k y m g e1 e2 e3
  rw [ho _ h1.1];exact h1
 ·show trS φ (uU (σ.lg++ [x]) v)=kS φ v σ.fh ks
  rw [cC5,h.sm φ v ks hn hk]
  by_cases hv:(x.veh.toList==v.toList)=true
  ·rw [if_pos hv]
   rw [uD] at hv
   subst hv
   have hg2:fF (nT x.veh σ.lg wM) x=true:=hg
   rw [if_pos hg2,if_neg (show ¬(nT x.veh σ.lg wM).st=2 from hs.2),if_neg (fun q=>h2 (dU8.1 q))];omega
  ·rw [if_neg hv,Int.add_zero]
theorem bT2 {α:Type} {f:ByteArray->Option α} {k j:ByteArray} {x:α} (h:(f j).isSome=true):(fQ f k x j).isSome=true:=by
 by_cases e:j=k
 ·subst e;rw [hU];rfl
 ·rw [dB _ _ e];exact h
theorem HI.keep {σ τ:Os} {k:ByteArray} {y y':Hg} (h:HI σ) (hk:σ.fh k=some y) (hl:y'.legs=y.legs) (e1:τ.fs=σ.fs) (e2:τ.lg=σ.lg) (e3:τ.fh=fQ σ.fh k y'):HI τ:=by
 have hcu:∀v,cu τ v=cu σ v:=fun v=>by unfold cu;rw [e2]
 have zI:∀j z m g,τ.fh j=some z->z.legs=m++ [g]->∃z2,σ.fh j=some z2/\z2.legs=m++ [g]:=fun j z m g hz hm=>by
  rw [e3] at hz
  rcases eM hz with ⟨rfl,rfl⟩|hz
  ·exact ⟨y,hk,hl ▸ hm⟩
  ·exact ⟨z,hz,hm⟩
 refine ⟨fun v=>by rw [hcu,e1];exact h.fs v,fun j z m g a1 a2 a3=>?_,fun j j' z z' m m' g g' a1 a2 a3 a4 a5 a6 a7=>?_,fun φ v ks hn hks=>?_⟩
 ·obtain ⟨z2,b1,b2⟩:=zI j z m g a1 a2
  rw [hcu];exact h.op j z2 m g b1 b2 a3
 ·obtain ⟨z2,b1,b2⟩:=zI j z m g a1 a3
  obtain ⟨z3,b3,b4⟩:=zI j' z' m' g' a2 a4
  exact h.un j j' z2 z3 m m' g g' b1 b3 b2 b4 a5 a6 a7
 ·have hd:∀j,(σ.fh j).isSome=true->j∈ks:=fun j hj=>hks j (by rw [e3];exact bT2 hj)
  rw [e2,h.sm φ v ks hn hd,e3,cJ4 φ hn (hd k (by rw [hk];rfl)),hk,hl]
  show _=_ - lgS φ v y.legs+_
  omega
theorem HI.back {σ τ:Os} {k st:ByteArray} {y y':Hg} {m:List Lg} {g:Lg} {r:Rd} {a:Int} (h:HI σ) (hk:σ.fh k=some y) (hl:y.legs=m++ [g]) (ho:g.inn.at_= -1) (hc:bT1 σ (eP a g.veh st)) (hr:r.at_=a) (ha:0<=a) (hl2:y'.legs=m++ [⟨g.veh,g.out,r⟩]) (e1:τ.fs=(gK σ (eP a g.veh st)).fs) (e2:τ.lg=σ.lg++ [eP a g.veh st]) (e3:τ.fh=fQ σ.fh k y'):HI τ:=by
 have hg:=hc.2
 rw [h.fs] at hg
 have hop:=h.op k y m g hk hl ho
 have hcs:cu τ g.veh=jS (eP a g.veh st):=by
  have:=dB1 (σ:=σ) (x:=eP a g.veh st) hg
  unfold cu at this ⊢
  rw [e2];exact this
 have hco:∀v,v≠g.veh->cu τ v=cu σ v:=fun v hv=>by
  have:=bW8 (σ:=σ) (x:=eP a g.veh st) hv
  unfold cu at this ⊢
  rw [e2];exact this
 have zI:∀j z m2 g2,τ.fh j=some z->z.legs=m2++ [g2]->g2.inn.at_= -1->j≠k/\σ.fh j=some z:=fun j z m2 g2 hz hm hi=>by
  rw [e3] at hz
  by_cases e:j=k
  ·subst e
   rw [hU] at hz
   injection hz with hz
   subst hz
   rw [hl2] at hm
   have:=(cK7 hm).2
   subst this
   have h9:r.at_= -1:=hi
   omega
  ·rw [dB _ _ e] at hz
   exact ⟨e,hz⟩
 refine ⟨fun v=>?_,fun j z m2 g2 a1 a2 a3=>?_,fun j j' z z' m2 m' g2 g' a1 a2 a3 a4 a5 a6 a7=>?_,fun φ v ks hn hks=>?_⟩
 ·have:=cZ8 (x:=eP a g.veh st) h.fs v
  rw [e1,this]
  unfold cu
  rw [e2];rfl
 ·obtain ⟨b1,b2⟩:=zI j z m2 g2 a1 a2 a3
  have hne:g2.veh≠g.veh:=fun e=>b1 (h.un j k z y m2 m g2 g b2 hk a2 hl a3 ho e)
  rw [hco _ hne];exact h.op j z m2 g2 b2 a2 a3
 ·exact h.un j j' z z' m2 m' g2 g' (zI j z m2 g2 a1 a3 a5).2 (zI j' z' m' g' a2 a4 a6).2 a3 a4 a5 a6 a7
 ·have hd:∀j,(σ.fh j).isSome=true->j∈ks:=fun j hj=>hks j (by rw [e3];exact bT2 hj)
  rw [e2,cC5,h.sm φ v ks hn hd,e3,cJ4 φ hn (hd k (by rw [hk];rfl)),hk,hl2,bC8]
  show _=_ - lgS φ v y.legs+_
  rw [hl,bC8]
  have hx:(eP a g.veh st).veh=g.veh:=rfl
  rw [hx]
  show _=_ - (_+((if (g.veh.toList==v.toList)=true then φ g.out.at_ g.inn.at_ else 0)+0))+(_+((if (g.veh.toList==v.toList)=true then φ g.out.at_ r.at_ else 0)+0))
  by_cases hv:(g.veh.toList==v.toList)=true
  ·rw [if_pos hv,if_pos hv,if_pos hv]
   rw [uD] at hv
   subst hv
   have hg2:fF (nT g.veh σ.lg wM) (eP a g.veh st)=true:=hg
   have hs1:(nT g.veh σ.lg wM).st=2:=hop.1
   have hs2:(nT g.veh σ.lg wM).since=g.out.at_:=hop.2
   rw [if_pos hg2,if_pos hs1,if_neg (fun q=>absurd (dU8.1 q) (by decide:¬(3:Int)=2)),hs2,ho,hr]
   show _+(φ g.out.at_ a - φ g.out.at_ (-1)+0)=_
   omega
  ·rw [if_neg hv,if_neg hv,if_neg hv];omega
theorem HI.out {σ τ:Os} {k st v0:ByteArray} {y':Hg} {m:List Lg} {q:Rd} {a:Int} (h:HI σ) (hm:σ.fh k=none/\m= []∨∃y m2 g,σ.fh k=some y/\y.legs=m2++ [g]/\g.inn.at_≠ -1/\m=m2++ [g]) (hc:bT1 σ (gL a v0 st)) (hq:q.at_=a) (hl2:y'.legs=m++ [startLeg v0 q]) (e1:τ.fs=(gK σ (gL a v0 st)).fs) (e2:τ.lg=σ.lg++ [gL a v0 st]) (e3:τ.fh=fQ σ.fh k y'):HI τ:=by
 have hg:=hc.2
 rw [h.fs] at hg
 have hs:=(cZ1 hg).resolve_left fun q=>absurd q.1 (by decide:¬(2:Int)=3)
 have hcs:cu τ v0=jS (gL a v0 st):=by
  have:=dB1 (σ:=σ) (x:=gL a v0 st) hg
  unfold cu at this ⊢
  rw [e2];exact this
 have hco:∀v,v≠v0->cu τ v=cu σ v:=fun v hv=>by
  have:=bW8 (σ:=σ) (x:=gL a v0 st) hv
  unfold cu at this ⊢
  rw [e2];exact this
 have zI:∀j z m2 g2,τ.fh j=some z->z.legs=m2++ [g2]->g2.inn.at_= -1->(j=k/\g2=startLeg v0 q)∨(j≠k/\σ.fh j=some z/\g2.veh≠v0):=fun j z m2 g2 hz hm2 hi=>by
  rw [e3] at hz
  by_cases e:j=k
  ·subst e
   rw [hU] at hz
   injection hz with hz
   subst hz
   rw [hl2] at hm2
   exact .inl ⟨U,(cK7 hm2).2.symm⟩
  ·rw [dB _ _ e] at hz
   exact .inr ⟨e,hz,fun e4=>hs.2 (e4 ▸ (h.op j z m2 g2 hz hm2 hi).1)⟩
 have hlg:∀(φ:Int->Int->Int) v,oS φ v (σ.fh k)=lgS φ v m:=fun φ v=>by
  rcases hm with ⟨e4,rfl⟩|⟨y,m2,g,e4,e5,_,rfl⟩
  ·rw [e4];rfl
  ·rw [e4,<-e5];rfl
 refine ⟨fun v=>?_,fun j z m2 g2 a1 a2 a3=>?_,fun j j' z z' m2 m' g2 g' a1 a2 a3 a4 a5 a6 a7=>?_,fun φ v ks hn hks=>?_⟩
 ·have:=cZ8 (x:=gL a v0 st) h.fs v
  rw [e1,this]
  unfold cu
  rw [e2];rfl
 ·rcases zI j z m2 g2 a1 a2 a3 with ⟨_,rfl⟩|⟨_,b2,b3⟩
  ·show (cu τ v0).st=2/\(cu τ v0).since=q.at_
   rw [hcs,hq];exact ⟨rfl,rfl⟩
  ·rw [hco _ b3];exact h.op j z m2 g2 b2 a2 a3
 ·rcases zI j z m2 g2 a1 a3 a5 with ⟨rfl,rfl⟩|⟨_,b2,b3⟩ <;> rcases zI j' z' m' g' a2 a4 a6 with ⟨rfl,rfl⟩|⟨_,b4,b5⟩
  ·rfl
  ·exact absurd a7.symm b5
  ·exact absurd a7 b3
  ·exact h.un j j' z z' m2 m' g2 g' b2 b4 a3 a4 a5 a6 a7
 ·have hd:∀j,(σ.fh j).isSome=true->j∈ks:=fun j hj=>hks j (by rw [e3];exact bT2 hj)
  rw [e2,cC5,h.sm φ v ks hn hd,e3,cJ4 φ hn (hks k (by rw [e3,hU];rfl)),hlg,hl2,bC8]
  have hx:(gL a v0 st).veh=v0:=rfl
  rw [hx]
  show _=_ - _+(_+((if (v0.toList==v.toList)=true then φ q.at_ (-1) else 0)+0))
  by_cases hv:(v0.toList==v.toList)=true
  ·rw [if_pos hv,if_pos hv]
   rw [uD] at hv
   subst hv
   have hg2:fF (nT v0 σ.lg wM) (gL a v0 st)=true:=hg
   rw [if_pos hg2,if_neg (show ¬(nT v0 σ.lg wM).st=2 from hs.2),if_pos (dU8.2 rfl),hq]
   show _+(0+φ a (-1))=_
   omega
  ·rw [if_neg hv,if_neg hv];omega
theorem dI8 {α:Type} {f:ByteArray->Option α} {k:ByteArray} {x y:α}:fQ (fQ f k x) k y=fQ f k y:=by
 funext j
 by_cases e:j=k
 ·subst e;rw [hU,hU]
 ·rw [dB _ _ e,dB _ _ e,dB _ _ e]
theorem HI.step {V:ByteArray->Option ByteArray} {T:ByteArray->Option Bool} {ck:Bk->Prop} {a:Int} {σ τ:Os} (h:HI σ) (hok:cA3 σ) (ha:0<=a) (hs:kR V T ck a σ τ):HI τ:=by
 cases hs with
 |same=>exact h
 |ev x _ _ hkd _ _ _ _ hc=>
  refine h.say hc (fun e=>?_) (fun e=>?_)
  ·rw [e] at hkd;exact absurd hkd (by decide)
  ·rw [e] at hkd;exact absurd hkd (by decide)
 |book b=>exact ⟨h.fs,h.op,h.un,h.sm⟩
 |cancel k=>exact ⟨h.fs,h.op,h.un,h.sm⟩
 |start y v r _ _ hl hr hn _ _ hc=>
  have e0:σ.fh y.key=none:=by
   cases e:σ.fh y.key with
   |none=>rfl
   |some z=>rw [e] at hn;cases hn
  exact h.out (m:= []) (k:=y.key) (q:=r) (.inl ⟨e0,U⟩) hc hr hl U U U
 |extend k y y' hk _ _ hl=>exact h.keep hk hl rfl rfl rfl
 |close k y y' g r hk _ _ ho hg hl _ hr _ hc=>
  have hy:=hok.hi k y hk
  rw [<-hy.2.2.2] at hg
  obtain ⟨m,hm⟩:=yD hg
  rw [hm] at ho
  rw [hm,bR0] at hl
  exact h.back hk hm (bZ9.1 ho) hc hr ha hl U U U
 |swap k y y' g r q v hk _ _ ho hg hl _ hr hq _ _ _ hc1 hc2=>
  have hy:=hok.hi k y hk
  rw [<-hy.2.2.2] at hg
  obtain ⟨m,hm⟩:=yD hg
  rw [hm] at ho
  unfold gZ at hl
  rw [hm,bR0] at hl
  have hne:v≠g.veh:=fun e=>by
   have h1:=hc1.2
   have h2:=hc2.2
   rw [h.fs] at h1 h2
   have e:(gL a v r.st).veh=(eP a g.veh r.st).veh:=e
   rw [e] at h2
   rcases cZ1 h1 with q1|q1
   ·rcases cZ1 h2 with q2|q2
    ·exact absurd q2.1 (by decide:¬(2:Int)=3)
    ·exact q2.2 q1.2
   ·exact absurd U q1.1
  obtain ⟨z,hz⟩:∃z:Hg,z.legs=m++ [⟨g.veh,g.out,r⟩]:=⟨⟨⟨#[]⟩,⟨#[]⟩,0,0,none,0,0,_⟩,rfl⟩
  have h1:=h.back (τ:={ gK σ (eP a g.veh r.st) with fh:=fQ σ.fh k z }) hk hm (bZ9.1 ho) hc1 hr ha hz rfl rfl rfl
  refine h1.out (k:=k) (m:=m++ [⟨g.veh,g.out,r⟩]) (q:=q) (st:=r.st) (v0:=v) (a:=a) (.inr ⟨z,m,_,hU _ _ _,hz,?_,U⟩) ⟨?_,?_⟩ hq hl U U (dI8.symm)
  ·show r.at_≠ -1
   omega
  ·show ((fQ σ.fa (g.veh,a) true) (v,a)).getD false=false
   rw [dB _ _ (fun e=>hne (congrArg Prod.fst e))]
   exact hc2.1
  ·show fF (((fQ σ.fs g.veh (fW ((σ.fs g.veh).getD wM) (eP a g.veh r.st))) v).getD wM) _=true
   rw [dB _ _ hne]
   exact hc2.2
theorem pQ.hi {V:ByteArray->Option ByteArray} {T:ByteArray->Option Bool} {ck:Bk->Prop} {l:List Int} {σ:Os} (h:pQ V T ck l σ) (hl:∀a∈l,0<=a):HI σ:=by
 induction h with
 |nil=>exact HI.start
 |snoc l a σ τ h1 h2 ih=>exact (ih fun x hx=>hl x (List.mem_append_left _ hx)).step h1.facts.1 (hl a (List.mem_append_right _ (List.mem_singleton.2 rfl))) h2
def eH7 (x:ByteArray):Prop:=∀i:Nat,i < x.size->32<=pK x ((i:Nat):Int)/\pK x ((i:Nat):Int)<=126
def cZ2 (x:Ny):Prop:=inB x.at_ 0 5761439=true/\keyB x.dk=true/\inB x.no 1 1000000=true/\(1<=x.ws.size/\x.ws.size<=200)/\eH7 x.ws
def uH (x:Ny):Prop:=(-2000000000000000000<=x.at_/\x.at_<=2000000000000000000)/\x.dk.size<=1000000/\(-2000000000000000000<=x.no/\x.no<=2000000000000000000)/\x.ws.size<=1000000
def vR (a b:Ny):Int:=dG [nV a.at_ b.at_,mR a.dk b.dk,nV a.no b.no]
def sg2 (n:Int):Int:=if n < 0 then -1 else if 0 < n then 1 else 0
theorem dJ2 (a b:Int):sg2 (a - b)=nV a b:=by
 unfold sg2 nV
 split <;> split <;> (try split) <;> (try split) <;> omega
theorem eO7 (x:ByteArray) (j:Int):∃b:Nat,pK x j=((b:Nat):Int)/\b<=255:=by
 have:=dD3 x j
 exact ⟨(pK x j).toNat,by omega,by omega⟩
theorem fZ2 (a b d:Int) (g T c:Nat) (w:World) (h:Blk w g T [.int .i64 a,.int .i64 b,.int .i64 d]):Calls prog 43 #[.slice (some ⟨g,0,none⟩) 3 c] w (fun e w'=>e=.returned (.int .i64 (dG [a,b,d]))/\w.grownBy w' none):=by
 refine cS ⟨18,w,none, []⟩ func43 U ntmps43 U (gM (X:= [fL w.heap.size none g T [.int .i64 a,.int .i64 b,.int .i64 d] ]) (cF h.old cX) (cG fL.lasts cY)) (bR (bX U (bQ (bR (bX U (bQ (bH (bR (bP U (bB (dT pD U) U (bK 7 (v':= .int .i64 3) U U (bP U (bQ (bO (eY 4 (eD (bR (bB (dE U U) U (bK 9 (v':= .bool true) U (fU3 (by decide)) (bQ (bH (kP U (bN (bD (bH (bO (bR (bB (bV (j:=0) pD U U (by decide)) U (bB (cQ (v:= .int .i64 a) fP U (fun _ hm=>(hm.fact 0 U).2) U) U ?_)))))))))))))))))))))))))))))
 refine bX U (bQ (bR (bP U (bP U (bB (gS U U) U (bQ ?_))))))
 refine gI U (fun h1=>?_) (fun h1=>?_)
 ·refine bR (bP U (bX U (bQ ?_)))
  refine bM (bC (bA (bA (bC (bA ?_)))))
  exact bJ U U fun wx hm=>⟨by simp only [dG,if_false,h1],hm.g⟩
 refine bN (bG (bD (bI (gO U U (bK 16 (v':= .int .i64 1) U U (bP U (bE (hW (eD (bR (bB (dE U U) U (bK 9 (v':= .bool true) U (fU3 (by decide)) (bQ (bH (kP U (bN (bD (bH (bO (bR (bB (bV (j:=1) pD U U (by decide)) U (bB (cQ (v:= .int .i64 b) fP U (fun _ hm=>(hm.fact 0 U).2) U) U (bX U (bQ (bR (bP U (bP U (bB (gS U U) U (bQ ?_)))))))))))))))))))))))))))))
 refine gI U (fun h2=>?_) (fun h2=>?_)
 ·refine bR (bP U (bX U (bQ ?_)))
  refine bM (bC (bA (bA (bC (bA ?_)))))
  exact bJ U U fun wx hm=>⟨by simp only [dG,if_true,if_false,h1,h2],hm.g⟩
 refine bN (bG (bD (bI (gO U U (bK 16 (v':= .int .i64 2) U U (bP U (bE (hW (eD (bR (bB (dE U U) U (bK 9 (v':= .bool true) U (fU3 (by decide)) (bQ (bH (kP U (bN (bD (bH (bO (bR (bB (bV (j:=2) pD U U (by decide)) U (bB (cQ (v:= .int .i64 d) fP U (fun _ hm=>(hm.fact 0 U).2) U) U (bX U (bQ (bR (bP U (bP U (bB (gS U U) U (bQ ?_)))))))))))))))))))))))))))))
 refine gI U (fun h3=>?_) (fun h3=>?_)
 ·refine bR (bP U (bX U (bQ ?_)))
  refine bM (bC (bA (bA (bC (bA ?_)))))
  exact bJ U U fun wx hm=>⟨by simp only [dG,if_true,if_false,h1,h2,h3],hm.g⟩
 refine bN (bG (bD (bI (gO U U (bK 16 (v':= .int .i64 3) U U (bP U (bE (hW (eD (bR (bB (dE U U) U (bK 9 (v':= .bool false) U (fU3 (by decide)) (bQ (bH (jQ U (dD (bF (bF (bY (bD (bR (bP U (bX U (bQ (bM ?_)))))))))))))))))))))))))
 exact bJ U U fun wx hm=>⟨by simp only [dG,if_true,h1,h2,h3],hm.g⟩
theorem dJ4 (p0:Int) (p1:ByteArray) (p2:Int) (p3:ByteArray) (e0:Int) (e1:ByteArray) (e2:Int) (e3:ByteArray) (w:World):Calls prog 129 #[.agg #[.int .i64 p0,.string p1,.int .i64 p2,.string p3],.agg #[.int .i64 e0,.string e1,.int .i64 e2,.string e3]] w (mP w (vR (⟨p0,p1,p2,p3⟩:Ny) (⟨e0,e1,e2,e3⟩:Ny))):=by
 refine cS ⟨22,w,none, []⟩ func129 U ntmps129 U (gM (X:= []) cX cY) (bR (fG U U U fun g1=>fG U U U fun g2=>bX U (bQ (bH (gd (fun wz=>Blk wz g2 171 [.int .i64 e0,.string e1,.int .i64 e2,.string e3]/\Blk wz g1 171 [.int .i64 p0,.string p1,.int .i64 p2,.string p3]/\True) mixed (fun _ hm=>⟨hm.bl 0,hm.bl 1,trivial⟩) fun z=>wq 0 U (bS mO U U) (wq 1 U (cQ fP U (fun _ hm=>hm.2.1) U) (wq 2 U (bS mO U U) (wq 3 U (cQ fP U (fun _ hm=>hm.1) U) (wq 5 U (bS nY U U) (wq 6 U (cQ fC U (fun _ hm=>hm.2.1) U) (wq 7 U (bS nY U U) (wq 8 U (cQ fC U (fun _ hm=>hm.1) U) (wq 10 U (bS qD U U) (wq 11 U (cQ fP U (fun _ hm=>hm.2.1) U) (wq 12 U (bS qD U U) (wq 13 U (cQ fP U (fun _ hm=>hm.1) U) (eG 4 U (cH U dF3 U U (fun wx hm=>(bQ0 _ _ wx)) (bE (nw 18 15871 (fun _ hm=>⟨hm.bl 0,hm.bl 1,trivial⟩) fun z=>eG 9 U (cH U cM5 U U (fun wx hm=>(pR _ _ wx)) (bE (nw 18 16383 (fun _ hm=>⟨hm.bl 0,hm.bl 1,trivial⟩) fun z=>eG 14 U (cH U dF3 U U (fun wx hm=>(bQ0 _ _ wx)) ?_))))))))))))))))))))))))
 refine bE (nw 18 32767 (fun _ hm=>⟨hm.bl 0,hm.bl 1,trivial⟩) fun z=>eG 15 U (jE 3 [.int .i64 (nV p0 e0),.int .i64 (mR p1 e1),.int .i64 (nV p2 e2)] fun g3=>bE (nw 18 65535 (fun _ hm=>⟨hm.bl 1,hm.bl 2,trivial⟩) fun z=>eG 16 U (cH U dE3 U U (fun wx hm=>(fZ2 _ _ _ _ _ _ wx (hm.blkI 0 U))) (bE (nw 18 131071 (fun _ hm=>⟨hm.bl 1,hm.bl 2,trivial⟩) fun z=>wq 17 U (cV U) (jO (bD (bM ?_)))))))))
 exact bJ U U fun wx hm=>⟨bT U,hm.g⟩
theorem cS2 (n:Int) (w:World):Calls prog 119 #[.int .i64 n] w (mP w (sg2 n)):=by
 refine cS ⟨9,w,none, []⟩ func119 U ntmps119 U (gM (X:= []) cX cY) (bR (bX U (bQ (bH (bO (bR (bP U (bB (dE U U) U (bX U (bQ ?_))))))))))
 refine cC U (fun h1=>?_) (fun h1=>?_)
 ·refine bR (bX U ?_)
  refine bK 2 (v':= .int .i64 (-1)) U U (bQ (bM (bC (bA ?_))))
  exact bJ U U fun wx hm=>⟨bT (by unfold sg2;rw [if_pos h1]),hm.g⟩
 refine bR (bP U (bB (eK U U) U (bX U (bQ ?_))))
 refine cC U (fun h2=>?_) (fun h2=>?_)
 ·refine bR (bX U (bQ ?_))
  refine bM (bC (bA ?_))
  exact bJ U U fun wx hm=>⟨bT (by unfold sg2;rw [if_neg h1,if_pos h2]),hm.g⟩
 refine bN (bG (bD (bR (bX U (bQ (bM ?_))))))
 exact bJ U U fun wx hm=>⟨bT (by unfold sg2;rw [if_neg h1,if_neg h2]),hm.g⟩
theorem zU (p0:Int) (p1:ByteArray) (p2:Int) (p3:ByteArray) (e0:Int) (e1:ByteArray) (e2:Int) (e3:ByteArray) (w:World) (hp:uH (⟨p0,p1,p2,p3⟩:Ny)) (he:uH (⟨e0,e1,e2,e3⟩:Ny)):Calls prog 71 #[.agg #[.int .i64 p0,.string p1,.int .i64 p2,.string p3],.agg #[.int .i64 e0,.string e1,.int .i64 e2,.string e3]] w (mP w (vR (⟨p0,p1,p2,p3⟩:Ny) (⟨e0,e1,e2,e3⟩:Ny))):=by
 dsimp only [uH] at hp he
 refine cS ⟨34,w,none, []⟩ func71 U ntmps71 U (gM (X:= []) cX cY) (bR (fG U U U fun g1=>fG U U U fun g2=>bX U (bQ (bH (bO (bR (dY mO U U (eJ fP 1 U U U (dY mO U U (eJ fP 0 U U U (bB (gS U U) U (bX U (bE (bD ?_))))))))))))))
 refine gI U (fun h1=>?_) (fun h1=>?_)
 ·refine bR (dY mO U U (eJ fP 1 U U U (dY mO U U (eJ fP 0 U U U ?_))))
  refine bB (ov_sub U U (by omega) (by omega)) U (cH U eT3 U U (fun wx hm=>(cS2 _ wx)) (bX U (bQ (bM (bC (bA ?_))))))
  refine bJ U U fun wx hm=>?_
  exact ⟨bT (by
   have h2:nV p0 e0≠0:=fun e=>h1 (rF.1 e)
   rw [dJ2]
   simp [vR,dG,h2]),hm.g⟩
 refine bR (dY nY U U (eJ fC 1 U U U (dY nY U U (eJ fC 0 U U U (bB (uG U U) U (bX U (bQ ?_)))))))
 refine dC U (fun hh=>?_) (fun hh=>?_)
 ·have h2:(p1.toList==e1.toList)=false:=by simpa using hh
  refine bR (dY nY U U (eJ fC 1 U U U (dY nY U U (eJ fC 0 U U U (cH U eC8 U U (fun wx hm=>(cO0 _ _ wx)) (bX U (bQ (bM (bC (bA ?_))))))))))
  refine bJ U U fun wx hm=>?_
  exact ⟨bT (by
   have h3:nV p0 e0=0:=rF.2 h1
   have h4:mR p1 e1≠0:=fun e=>by have:=(qB.1 e).2;rw [this] at h2;simp at h2
   simp only [vR,dG,h3,if_true,if_neg h4]),hm.g⟩
 have h2:(p1.toList==e1.toList)=true:=by simpa using hh
 refine bN (bG (bD (bR (dY qD U U (eJ fP 1 U U U (dY qD U U (eJ fP 0 U U U (bB (ov_sub U U (by omega) (by omega)) U (cH U eT3 U U (fun wx hm=>(cS2 _ wx)) (bX U (bQ (bM ?_))))))))))))
 refine bJ U U fun wx hm=>?_
 exact ⟨bT (by
  have h3:nV p0 e0=0:=rF.2 h1
  have h5:p1.toList=e1.toList:=by simpa using h2
  have h4:mR p1 e1=0:=qB.2 ⟨by rw [h5];exact rE _,h5⟩
  rw [dJ2]
  by_cases h6:nV p2 e2=0
  ·simp [vR,dG,h3,h4,h6]
  simp only [vR,dG,h3,h4,if_true,if_neg h6]),hm.g⟩
theorem bB7 (x:ByteArray) (w:World) (hz:x.size<=1000000) (hp:eH7 x):Calls prog 128 #[.string x] w (fun e w'=>e=.returned (.bool true)/\w.grownBy w' none):=by
 refine cS ⟨20,w,none, []⟩ func128 U ntmps128 U (gM (X:= []) cX cY) (bR (bX U (bQ (bH (bR (bP U (bB (yF us9 U) U (bP U (bQ (bO ?_))))))))))
 refine dX (γ:=Nat) (fun (i:Nat)=>i<=x.size) (fun (i:Nat)=> [(0,.string x),(5,.int .i64 ((x).size:Int)),(6,.int .i64 ((i:Nat):Int))]) (fun (i:Nat)=>fun _=>True) (fun (i:Nat)=> []) (fun (i:Nat)=> []) (fun (i:Nat)=> []) (fun (i:Nat)=>x.size - i) 0 (Nat.zero_le _) ⟨U,U,U,trivial⟩ (fun _ hm=>hm.pick [] [] [] U U) ?_
 intro i cB
 replace cB:i<=x.size:=cB
 refine bR (bB (dE U U) U (bQ (bH ?_)))
 refine cC U (fun hi=>?_) (fun hi=>?_)
 ·refine bN (bD (bH (bO (bR ?_))))
  have hb:=hp i (by omega)
  refine bP U (bX U (bQ (bR (bP U (bP U (bB (bI4 us9 U U (by omega) (by omega)) U (bB (dE U U) U (bK 12 (v':= .bool false) U (fU3 (decide_eq_false (by omega))) (bP U (eE U (bP U (eE U (bP U (eE U (bB (bI4 us9 U U (by omega) (by omega)) U (eE U (bB (eK U U) U (bK 17 (v':= .bool false) U (fU3 (decide_eq_false (by omega))) (nR U U (bQ (jQ U (bN (bG (bD (bI (gO U U (bP U (bE ?_))))))))))))))))))))))))))))
  exact cN (i+1) (by show _<=_;omega) (by omega) ⟨U,U,(cR (by omega)),trivial⟩ (fun _ hm=>hm.pick [] [] [] U U)
 refine dD (bF (bF (bY (bD (bR (bX U (bQ (bM ?_))))))))
 exact bJ U U fun wx hm=>⟨U,hm.g⟩
theorem cH4 (n lo hi:Int) (w:World):Calls prog 123 #[.int .i64 n,.int .i64 lo,.int .i64 hi] w (fun e w'=>e=.returned (.bool (inB n lo hi))/\w.grownBy w' none):=by
 refine cS ⟨15,w,none, []⟩ func123 U ntmps123 U (gM (X:= []) cX cY) (bR (bX U (bQ (bR (bP U (bP U (bB (mV U U) U (bP U ?_))))))))
 rcases Bool.eq_false_or_eq_true (decide (lo<=n)) with hb1|hb1
 ·refine bK 10 U (fU3 hb1) ?_
  refine eE U (bP U (eE U (bP U (eE U (bB (mV U U) U (mN U U (bX U (bQ (bM ?_)))))))))
  refine bJ U U fun wx hm=>?_
  refine ⟨?_,hm.g⟩
  unfold inB
  simp_all <;> omega
 refine bK 10 U (fU3 hb1) (dZ U (dZ U (dZ U (nR U U (bX U (bQ (bM ?_)))))))
 refine bJ U U fun wx hm=>?_
 refine ⟨?_,hm.g⟩
 unfold inB
 simp_all <;> omega
theorem cE1 (e0:Int) (e1:ByteArray) (e2:Int) (e3:ByteArray) (w:World) (hz:uH (⟨e0,e1,e2,e3⟩:Ny)):Calls prog 72 #[.agg #[.int .i64 e0,.string e1,.int .i64 e2,.string e3]] w (fun e w'=>∃E,e=.returned (.int .i64 E)/\(E=0->cZ2 (⟨e0,e1,e2,e3⟩:Ny))/\w.grownBy w' none):=by
 dsimp only [uH] at hz
 refine cS ⟨39,w,none, []⟩ func72 U ntmps72 U (gM (X:= []) cX cY) (bR (fG U U U fun g1=>bX U (bQ (bH (bO (bR (dY mO U U (eJ fP 0 U U U (cZ U eD8 U U (fun wx hm=>(cE7 _ wx)) (bB (cE U) U (bX U (bQ ?_))))))))))))
 refine dC U (fun hh=>?_) (fun hh=>?_)
 ·have h0:(inB e0 0 5761439)=false:=by simpa using hh
  refine bR (bX U (bQ (bM (bC (bA ?_)))))
  exact bJ U U fun wx hm=>⟨_,U,(fun h=>absurd h (by decide)),hm.g⟩
 have h0:(inB e0 0 5761439)=true:=by simpa using hh
 refine bR (dY nY U U (eJ fC 0 U U U (cH U bN6 U U (fun wx hm=>(wE _ wx (by omega))) (bB (cE U) U (bX U (bQ ?_))))))
 refine dC U (fun hh=>?_) (fun hh=>?_)
 ·have h1:(keyB e1)=false:=by simpa using hh
  refine bR (bX U (bQ (bM (bC (bA ?_)))))
  exact bJ U U fun wx hm=>⟨_,U,(fun h=>absurd h (by decide)),hm.g⟩
 have h1:(keyB e1)=true:=by simpa using hh
 refine bR (dY qD U U (eJ fP 0 U U U (cH U dE6 U U (fun wx hm=>(cH4 _ _ _ wx)) (bB (cE U) U (bX U (bQ ?_))))))
 refine dC U (fun hh=>?_) (fun hh=>?_)
 ·have h2:(inB e2 1 1000000)=false:=by simpa using hh
  refine bR (bX U (bQ (bM (bC (bA ?_)))))
  exact bJ U U fun wx hm=>⟨_,U,(fun h=>absurd h (by decide)),hm.g⟩
 have h2:(inB e2 1 1000000)=true:=by simpa using hh
 refine bR (dY qU U U (eJ fC 0 U U U (bB (yF us9 U) U (cH U dE6 U U (fun wx hm=>(cH4 _ _ _ wx)) (bB (cE U) U (bX U (bQ ?_)))))))
 refine dC U (fun hh=>?_) (fun hh=>?_)
 ·have h3:(inB ((e3).size:Int) 1 200)=false:=by simpa using hh
  refine bR (bX U (bQ (bM (bC (bA ?_)))))
  exact bJ U U fun wx hm=>⟨_,U,(fun h=>absurd h (by decide)),hm.g⟩
 have h3:(inB ((e3).size:Int) 1 200)=true:=by simpa using hh
 refine bN (bG (bD (bH (bR ?_))))
 have w0f:inB e0 0 5761439=true:=by simpa using h0
 have w1f:keyB e1=true:=by simpa using h1
 have w2f:inB e2 1 1000000=true:=by simpa using h2
 have w3f:=pC.1 (show inB ((e3.size:Nat):Int) 1 200=true by simpa using h3)
 refine dY qU U U (eJ fC 0 U U U (bB (yF us9 U) U (bP U (bQ (bO ?_)))))
 refine dX (γ:=Nat) (fun (i:Nat)=>i<=e3.size/\∀j,j < i->32<=pK e3 ((j:Nat):Int)/\pK e3 ((j:Nat):Int)<=126) (fun (i:Nat)=> [(1,.pointer (some ⟨g1,0,none⟩)),(27,.int .i64 ((e3).size:Int)),(28,.int .i64 ((i:Nat):Int))]) (fun (i:Nat)=>fun _=>True) (fun (i:Nat)=> [(g1,171, [.int .i64 e0,.string e1,.int .i64 e2,.string e3])]) (fun (i:Nat)=> []) (fun (i:Nat)=> []) (fun (i:Nat)=>e3.size - i) 0 ⟨Nat.zero_le _,fun _ h=>absurd h (Nat.not_lt_zero _)⟩ ⟨U,U,U,trivial⟩ (fun _ hm=>hm.pick [0] [] [] U U) ?_
 intro i cB
 replace cB:i<=e3.size/\∀j,j < i->32<=pK e3 ((j:Nat):Int)/\pK e3 ((j:Nat):Int)<=126:=cB
 refine bR (bB (dE U U) U (bQ (bH ?_)))
 refine cC U (fun hi=>?_) (fun hi=>?_)
 ·refine bN (bD (bH (bO (bR ?_))))
  obtain ⟨bt,hbt,hbz⟩:=eO7 e3 ((i:Nat):Int)
  refine bP U (bX U (bQ (bR (dY qU U U (eJ fC 0 U U U (bP U (bB (bI4 us9 U U (by omega) (by omega)) U (bK 34 (v':= .int .u8 ((bt:Nat):Int)) U (congrArg (Value.int .u8) hbt) (bB (bB6 (a:=bt) (by kernel_rfl) (by kernel_rfl) U (by omega)) U (cH U dE6 U U (fun wx hm=>(cH4 _ _ _ wx)) (bB (cE U) U (bQ ?_))))))))))))
  refine dC U (fun hh=>?_) (fun hh=>?_)
  ·have hj:(inB ((bt:Nat):Int) 32 126)=false:=by simpa using hh
   refine bR (bX U (bQ (bM (bC (bA (bA (bC (bA ?_))))))))
   exact bJ U U fun wx hm=>⟨_,U,(fun h=>absurd h (by decide)),hm.g⟩
  have hj:(inB ((bt:Nat):Int) 32 126)=true:=by simpa using hh
  refine bN (bG (bD (bI (gO U U (bP U (bE ?_))))))
  have hj1:=pC.1 (show inB ((bt:Nat):Int) 32 126=true by simpa using hj)
  exact cN (i+1) ⟨by omega,fun j h=>by
   rcases (show j < i∨j=i by omega) with h9|h9
   ·exact cB.2 j h9
   rw [h9,hbt];exact hj1⟩ (by omega) ⟨rfl,rfl,(cR (by omega)),trivial⟩ (fun _ hm=>hm.pick [0] [] [] rfl rfl)
 refine dD (bF (bF (bY (bD (bR (bX U (bQ (bM ?_))))))))
 exact bJ U U fun wx hm=>⟨_,U,(fun _=>⟨w0f,w1f,w2f,by dsimp only;omega,fun j h=>cB.2 j (by have h9:j < e3.size:=h;omega)⟩),hm.g⟩
end Go.Proofs.YtmifpfcmldflkaaGreatDoor
