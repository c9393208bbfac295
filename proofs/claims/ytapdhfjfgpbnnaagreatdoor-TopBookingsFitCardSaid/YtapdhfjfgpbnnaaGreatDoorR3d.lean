/- Several texts as one: Dkg Dkh Sym Swn Bub Syo Syt Sl Sk Stc Ta Fw Fx Fz Gf Gst Lop LopA LopB Win LopC Sq Sn Ix Sr Gg Eg Ba Cv Gm Gw Gx Gy Srt Clr Cq Gz Wo Rw Rx Gs Eh Gp Ej Az Em En -/
import Derived.Test.YtapdhfjfgpbnnaaGreatDoorR3c
import Derived.Test.YtapdhfjfgpbnnaaGreatDoorR3a
import Derived.Test.YtapdhfjfgpbnnaaGreatDoorProg
import Derived.Ground.NamesProg
import Derived.Shelf.Small.Bits
import Derived.Shelf.Small.Strs
import Derived.Test.YtapdhfjfgpbnnaaGreatDoorR3b
import Derived.Deep.LoopGhost
import Derived.StillTailTactics
import Derived.RangeFuncNested
import Derived.RangeFuncBound
import Derived.RangeFuncCalls
import Derived.RangeFuncLeaves
import Derived.Shelf.Abstract
import Derived.Shelf.RegionOpen
import Derived.WalkKit
import Derived.OwnWalkIn
import Derived.TacticsInMore
import Derived.LoopNIn
import Derived.LoopIn
import Derived.OneCell
import Derived.Lib.AppendZeros
set_option maxRecDepth 100000
set_option maxHeartbeats 4000000
namespace Go.Proofs.YtapdhfjfgpbnnaaGreatDoor
open Tryz
open Go.RowKit
theorem cR0{a b:Int}(h:dK [a,b]=0):a=0/\b=0:=
 ⟨Classical.byContradiction fun hc=>hc (uD h a (by simp)),Classical.byContradiction fun hc=>hc (uD h b (by simp))⟩
theorem bK7{α:Type}{o:Option α}{x z:α}(h:o.isSome=true)(hx:x=o.getD z):o=some x:=by
 cases o with
 |none=>cases h
 |some y=>rw [hx];rfl
theorem nM(a b:M):(a.toList==b.toList)=decide (a=b):=by
 rw [Bool.eq_iff_iff,beq_iff_eq,decide_eq_true_eq]
 exact ⟨yW,fun h=>by rw [h]⟩
theorem cC1{g x:Int}(h:(if g=0 then x else g)=0):g=0/\x=0:=by
 by_cases h0:g=0
 ·rw [if_pos h0] at h;exact ⟨h0,h⟩
 ·rw [if_neg h0] at h;exact absurd h h0
theorem cD9(w0:World)(u0 u2 u3 u4 u5 u6 u7 u8 u9 jR jS jT jU jV jW:Value)(go gv gs gI gF gG gJ gO:Nat)(cA:Option Addr)(cn cc:Nat)(cl:List Cs)(V:M->Option M)(T:M->Option Bool)(rv:Value)(rn:Nat)(rx:List Value)(hd: [gv,gs,gI,gF,gG,gJ,gO].Nodup)(ck:Bk->Prop)(fp:M->Option Int)(σ:Os)(lv:Value)(at_:Int)(k:M)(n0:Int)(tA nA:Option Addr)(tc nc:Nat)(w:World)(_hlg:σ.lg.length<=99990)(hso:cA8 σ)(ht:SlT dU 1 9 w tA 1 [k])(hn:SlT kV 1 3 w nA 1 [n0])(hm:gB ⟨0,w0,none, [269,9,3]⟩ (fun _=>True) [(go,98, [u0,H cA cn cc,u2,u3,u4,u5,u6,u7,u8,u9,jR,jS,jT,jU,jV,jW,.map (some gv),.map (some gs),.map (some gI),lv,.map (some gF),.map (some gG),.map (some gJ),.map (some gO),rv])] [⟨lv,181,5,σ.lg.length,σ.lg.flatMap eF⟩,⟨rv,178,2,rn,rx⟩] [cB vS dT w0.heap.size gv (V),cB vB dT w0.heap.size gs (T),cB rJ dT w0.heap.size gI (σ.fs),cB vB nN w0.heap.size gF (σ.fa),cB pX dT w0.heap.size gG (σ.fb),cB pZ dT w0.heap.size gJ (σ.fh),cB vI dT w0.heap.size gO (fp),gX 269 σ.fh,bT dQ 2 53 w0.heap.size none cA cn cl,TxtO w0.heap.size none,fun wy=>SlT dU 1 9 wy tA 1 [k],fun wy=>SlT kV 1 3 wy nA 1 [n0]] w):
 Calls prog 141 #[.pointer (some ⟨go,0,none⟩),J at_,.agg #[U ⟨#[101,120,116,101,110,100]⟩,H tA 1 tc,H nA 1 nc]] w (fun e w'=>∃lv' σ' E,e=.returned (J E)/\(mK V T ck at_ σ σ'/\gR σ'=uC (gR σ) k n0)/\gB ⟨0,w0,none, [269,9,3]⟩ (fun _=>True) [(go,98, [u0,H cA cn cc,u2,u3,u4,u5,u6,u7,u8,u9,jR,jS,jT,jU,jV,jW,.map (some gv),.map (some gs),.map (some gI),lv',.map (some gF),.map (some gG),.map (some gJ),.map (some gO),rv])] [⟨lv',181,5,σ'.lg.length,σ'.lg.flatMap eF⟩,⟨rv,178,2,rn,rx⟩] [cB vS dT w0.heap.size gv (V),cB vB dT w0.heap.size gs (T),cB rJ dT w0.heap.size gI (σ'.fs),cB vB nN w0.heap.size gF (σ'.fa),cB pX dT w0.heap.size gG (σ'.fb),cB pZ dT w0.heap.size gJ (σ'.fh),cB vI dT w0.heap.size gO (fp),gX 269 σ'.fh,bT dQ 2 53 w0.heap.size none cA cn cl,TxtO w0.heap.size none] w'):=by
 refine cY ⟨201,w0,none, [269,9,3]⟩ func141 D ntmps141 D hm.cy (bX ?_)
 obtain ⟨tb,uQ,htA,_,_⟩:=ht.get bD
 subst htA
 obtain ⟨nb,yM,hnA,_,_⟩:=hn.get bD
 subst hnA
 obtain ⟨ish,bP1⟩:∃z,z=(σ.fh k).isSome:=⟨_,rfl⟩
 obtain ⟨xh,hxh⟩:∃z,z=(σ.fh k).getD hg0:=⟨_,rfl⟩
 obtain ⟨h0,h1,h2,h3,hA,qV,hc,hl⟩:=xh
 have hol:∀h,σ.fh k=some h->SlT lgEnc 9 269 w h.A h.n h.legs:=fun h=>hm.fact 7 rfl k h
 refine fS D D D fun g1=>cG D (bU (bX (dZ kT D D (eO rX 0 D D D (W (bV (j:=0) mD D D G) D (W (dH (k:=0) (v:=U k) fR D (fun _ hm=>(hm.fact 10 D)) (D: [k][0]?=some k) D D) D (cG D (bU (bX (bS D (W (cU D) D (dZ wU D D (eO cA2 1 D D D (bS D (W (hU (enc:=pZ) (ek:=dT) (s:=k) (e:=262) hg0 kC bC bC D D (fun _ hm=>(hm.fact 5 D))) D (bS D (W (cV D D) D (bO 39 (v':= .agg #[U h0,U h1,J h2,J h3,H hA qV hc]) D (congrArg pZ hxh.symm) (W (cV D D) D (bO 40 (v':= .bool ish) D (fW9 bP1.symm) (dM yS D fun g2=>kE (cs':= [U h0,U h1,J h2,J h3,H hA qV hc]) 0 kQ D D D D ?_)))))))))))))))))))))
 refine cG D (bU (bJ (bX (bS D (W (cS D) D (bU ?_))))))
 refine dE D (fun hh=>?_) (fun hh=>?_)
 ·have hz:ish=false:=by simpa using hh
  refine bX (cG D (bU (bR (F ?_))))
  have hsm:gR σ=uC (gR σ) k n0:=(cA6 (cS6 (bP1.symm.trans (by simpa using hz)))).symm
  refine bQ D D fun wx hm=>?_
  refine ⟨lv,σ,_,D,⟨.same σ,hsm⟩,?_⟩
  exact (hm.pick [2] [0,1] [0,1,2,3,4,5,6,7,8,9] D D).cy
 have hz:ish=true:=by simpa using hh
 refine bN (bG (bX ?_))
 have hz1:ish=true:=by simpa using hz
 have hfk:=bK7 (bP1.symm.trans hz1) hxh
 obtain ⟨hrk,hnp,hn20,hll⟩:=hso.hi k _ hfk
 dsimp only at hrk hnp hn20 hll
 have hot:=hol _ hfk
 dsimp only at hot
 obtain ⟨hb,hof,hA1,_,_⟩:=hot.get hnp
 subst hA1
 obtain ⟨qP,hg⟩:∃z,hl[qV - 1]?=some z:=⟨_,fY9 G⟩
 have hlv:bU1 hl=qP.veh:=by unfold bU1;rw [hll,hg];rfl
 have hAB:uC (gR σ) k n0=cC6 (gR σ) k (⟨h0,h1,h2,h3,hl⟩:Hr) n0:=cB6 (cT6 hfk) hlv
 refine bG0 (γ:=Unit) (fun _ wy=>SlT lgEnc 9 269 wy (some ⟨hb,hof,none⟩) qV hl) (fun w hm=>⟨(),(hm.fact 7 D:gX 269 σ.fh w) k _ hfk⟩) (fun _=>SlT.lasts2 D) fun _=>?_
 obtain ⟨HE,hHE⟩:∃z,z=bA5 (⟨h0,h1,h2,h3,hl⟩:Hr) n0:=⟨_,rfl⟩
 obtain ⟨xq,hxq⟩:∃z,z=bZ3 HE ⟨h0,h1,h2,n0,hl⟩:=⟨_,rfl⟩
 obtain ⟨k5,d5,f5,t5,l5⟩:=xq
 refine dM yS D fun g3=>bU (bX (cG D (bU (bX (cG D (bU (bX (cG D (bU ?_)))))))))
 refine pB (γ:=Option Addr×Nat×Nat) (I':=(fun (gq:Option Addr×Nat×Nat)=>l5.length=gq.2.1)) (S':=(fun (gq:Option Addr×Nat×Nat)=> [(0,.pointer (some ⟨go,0,none⟩)),(6,J 0),(7,U k),(10,.pointer (some ⟨g3,0,none⟩)),(11,J HE),(12,H none 0 0),(13,.bool true)])) (K':=(fun (gq:Option Addr×Nat×Nat)=>fun _=>True)) (L':=(fun (gq:Option Addr×Nat×Nat)=> [(g3,262, [U k5,U d5,J f5,J t5,H gq.1 gq.2.1 gq.2.2]),(go,98, [u0,H cA cn cc,u2,u3,u4,u5,u6,u7,u8,u9,jR,jS,jT,jU,jV,jW,.map (some gv),.map (some gs),.map (some gI),lv,.map (some gF),.map (some gG),.map (some gJ),.map (some gO),rv])])) (O':=(fun (gq:Option Addr×Nat×Nat)=> [⟨lv,181,5,σ.lg.length,σ.lg.flatMap eF⟩,⟨rv,178,2,rn,rx⟩])) (X':=(fun (gq:Option Addr×Nat×Nat)=> [fun wy=>SlT lgEnc 9 269 wy gq.1 gq.2.1 l5,fun wy=>SlT lgEnc 9 269 wy (some ⟨hb,hof,none⟩) qV hl,cB vS dT w0.heap.size gv (V),cB vB dT w0.heap.size gs (T),cB rJ dT w0.heap.size gI (σ.fs),cB vB nN w0.heap.size gF (σ.fa),cB pX dT w0.heap.size gG (σ.fb),cB pZ dT w0.heap.size gJ (σ.fh),cB vI dT w0.heap.size gO (fp),gX 269 σ.fh,bT dQ 2 53 w0.heap.size none cA cn cl,TxtO w0.heap.size none,fun wy=>SlT dU 1 9 wy (some ⟨tb,uQ,none⟩) 1 [k],fun wy=>SlT kV 1 3 wy (some ⟨nb,yM,none⟩) 1 [n0]])) ?_ ?_
 ·refine bX (dZ vM D D (eO bL3 1 D D D (dZ vM D D (eO bL3 1 D D D (W (dP bB8 D) D ?_)))))
  refine W (ov_sub D D G G) D (bO 48 (v':=I (qV - 1)) D (fX9 G) (W (bV (j:=qV - 1) bB8 D D G) D (dZ cM6 D D (W (dH (k:=0) (v:=U qP.veh) fR D (fun _ hm=>(hm.fact 0 D)) hg D D) D (cG D (bU (bX (dZ mM D D (eO fR 2 D D D (bU (bP (bX (W (eS D D) D (bO 120 (v':= .bool true) D (fW9 (by rw [nM];decide)) (cG D (bU (mT D (gd (fun wz=>Blk wz g2 262 [U h0,U h1,J h2,J h3,H (some ⟨hb,hof,none⟩) qV hc]/\Blk wz g1 220 [U ⟨#[101,120,116,101,110,100]⟩,H (some ⟨tb,uQ,none⟩) 1 tc,H (some ⟨nb,yM,none⟩) 1 nc]/\(fun wy=>SlT kV 1 3 wy (some ⟨nb,yM,none⟩) 1 [n0]) wz/\True) mixed (fun _ hm=>⟨hm.bl 1,hm.bl 2,hm.fa 12,bB⟩) fun z=>wq 0 D (dG kQ D (fun _ hm=>hm.1) D D) (wq 1 D (bW nT D D) (wq 2 D (cH kY D (fun _ hm=>hm.2.1) D) (wq 3 D (bV (j:=0) kF D D G) (wq 4 D (dH (k:=0) (v:=J n0) fM D (fun _ hm=>(hm.2.2.1)) (D: [n0][0]?=some n0) D D) (eD 5 D ?_)))))))))))))))))))))))
  refine fK (γ:=Option Addr×Nat×Nat) (val:=(fun g=> .tuple #[.agg #[U k5,U d5,J f5,J t5,H g.1 g.2.1 g.2.2],J HE])) (φ:=(fun g=>l5.length=g.2.1)) (Y:=(fun g=>fun wy=>SlT lgEnc 9 269 wy g.1 g.2.1 l5)) D fB4 D D (fun wx hm=>(eP5 h0 h1 h2 h3 hl (some ⟨hb,hof,none⟩) qV hc n0 wx (hm.fact 0 D) hrk G).mono fun _ _ ⟨A,n,c,he,hg,hs⟩=>⟨(A,n,c),by rw [<-hHE,<-hxq] at he;exact he,by rw [<-hHE,<-hxq] at hs;exact hs.len,hg,by rw [<-hHE,<-hxq] at hs;exact hs⟩) (fun _=>SlT.lasts2 D) ?_
  rintro ⟨A5,n5,c5⟩ hln
  dsimp only at hln ⊢
  refine bH (nw 11 63 (fun _ hm=>⟨hm.bl 1,hm.bl 2,hm.fa 13,bB⟩) fun z=>wq 6 D (bL D) (wq 7 D (cV D D) (wq 8 D (cV D D) (eD 9 D (kE (cs':= [U k5,U d5,J f5,J t5,H A5 n5 c5]) 0 kQ D D D D (bH (nw 11 1023 (fun _ hm=>⟨hm.bl 1,hm.bl 2,hm.fa 13,bB⟩) fun z=>wq 10 D (dB D) (gY (bK ?_)))))))))
  exact fH (A5,n5,c5) hln ⟨D,D,D,D,D,D,D,bB⟩ (fun _ hm=>hm.pick [0,3] [0,1] [0,1,2,3,4,5,6,7,8,9,10,11,12,13] D D)
 rintro ⟨A5,n5,c5⟩ bZ
 replace bZ:l5.length=n5:=bZ
 dsimp only
 refine bJ (bX (bS D (bS D (W (cS D) D (bO 165 (v':= .bool false) D (fW9 bD) (dC D qB D D (fun wx hm=>(eH _ _ wx)) (jN 48 [J HE,J (dO false 8)] fun g4=>dC D vO D D (fun wx hm=>(fP [HE,dO false 8] _ _ _ wx (hm.blkI 0 D) (by simp))) (cG D (bU (bX (bS D (W (gN D D) D (bU ?_)))))))))))))
 refine gL D (fun hy=>?_) (fun hy=>?_)
 ·refine bX (bS D (cG D (bU ?_)))
  refine bR (F ?_)
  have hyx:¬dK [HE,dO (!true) 8]=0:=by simpa using hy
  have hsm:gR σ=uC (gR σ) k n0:=by
   rw [hAB]
   exact (qI fun q1=>hyx (by rw [hHE.trans q1];rfl)).symm
  refine bQ D D fun wx hm=>?_
  refine ⟨lv,σ,_,D,⟨.same σ,hsm⟩,?_⟩
  exact (hm.pick [2] [0,1] [2,3,4,5,6,7,8,9,10,11] D D).cy
 refine bN (bG (bJ (bX ?_)))
 have hy0:dK [HE,dO (!true) 8]=0:=by simpa using hy
 obtain ⟨hz0,hz9⟩:=cR0 hy0
 have hq0:bZ3 HE ⟨h0,h1,h2,n0,hl⟩=⟨h0,h1,h2,n0,hl⟩:=bQ1 hz0
 have hx9:=hq0.symm.trans hxq.symm
 injection hx9 with q1 q2 q3 q4 q5
 subst q1 q2 q3 q4 q5
 have hEz:=hHE.symm.trans hz0
 rw [hHE] at hz0
 obtain ⟨hgo,hE5⟩:=cC1 hz0
 have hle:=hireE_legs hE5
 dsimp only at hle
 refine bS D (W (dP mC D) D (bO 173 (v':=J 0) D D (bS D (bU (bP (fF 1 (eK (bX (W (dF D D) D (bO 175 (v':= .bool false) D (fW9 bD) (bU (bJ (jK D (dD (bI (bI (bY (bG (bJ (bX (bS D (W (dP mC D) D (bO 186 (v':=J 0) D D (bS D (bU (bP (fF 1 (eK ?_))))))))))))))))))))))))))))
 refine bX (W (dF D D) D (bO 188 (v':= .bool false) D (fW9 bD) (bU (bJ (jK D (dD (bI (bI (bY (bG (bJ (gd (fun wz=>Blk wz g3 262 [U h0,U h1,J h2,J n0,H A5 n5 c5]/\Blk wz go 98 [u0,H cA cn cc,u2,u3,u4,u5,u6,u7,u8,u9,jR,jS,jT,jU,jV,jW,.map (some gv),.map (some gs),.map (some gI),lv,.map (some gF),.map (some gG),.map (some gJ),.map (some gO),rv]/\True) mixed (fun _ hm=>⟨hm.bl 1,hm.bl 2,bB⟩) fun z=>wq 0 D (bL D) (wq 1 D (cU D) (wq 2 D (bW wU D D) (wq 3 D (cH cA2 D (fun _ hm=>hm.2.1) D) (wq 4 D (bL D) (wq 5 D (dG kQ D (fun _ hm=>hm.1) D D) (eD 6 D (kZ (enc:=pZ) (ek:=dT) (s:=k) (v:=(⟨h0,h1,h2,n0,A5,n5,c5,hl⟩:Hg)) (e:=262) (X':= [fun wy=>SlT lgEnc 9 269 wy A5 n5 hl,fun wy=>SlT lgEnc 9 269 wy (some ⟨hb,hof,none⟩) qV hl,cB vS dT w0.heap.size gv (V),cB vB dT w0.heap.size gs (T),cB rJ dT w0.heap.size gI (σ.fs),cB vB nN w0.heap.size gF (σ.fa),cB pX dT w0.heap.size gG (σ.fb),cB vI dT w0.heap.size gO (fp),gX 269 σ.fh,bT dQ 2 53 w0.heap.size none cA cn cl,TxtO w0.heap.size none,fun wy=>SlT dU 1 9 wy (some ⟨tb,uQ,none⟩) 1 [k],fun wy=>SlT kV 1 3 wy (some ⟨nb,yM,none⟩) 1 [n0]]) 7 kC bC D D D D (cX (i:=0) (SlT.mfar).far D (cX (i:=1) (SlT.mfar).far D (cX (i:=2) (cB.farK (gW hd (i:=0) (j:=5) D D bD)) D (cX (i:=3) (cB.farK (gW hd (i:=1) (j:=5) D D bD)) D (cX (i:=4) (cB.farK (gW hd (i:=2) (j:=5) D D bD)) D (cX (i:=5) (cB.farK (gW hd (i:=3) (j:=5) D D bD)) D (cX (i:=6) (cB.farK (gW hd (i:=4) (j:=5) D D bD)) D (cX (i:=8) (cB.farK (gW hd (i:=6) (j:=5) D D bD)) D (cX (i:=9) (gX.mfar).far D (cX (i:=10) (bT.mfar).far D (cX (i:=11) (TxtO.mfar).far D (cX (i:=12) SlT.mfar.far D (cX (i:=13) SlT.mfar.far D gK))))))))))))) (bH (nw 7 127 (fun _ hm=>⟨hm.bl 1,hm.bl 2,bB⟩) fun z=>gY (bG (bX (cG D (bU (bR ?_))))))))))))))))))))))))))
 have hab:gR ({ σ with fh:=gZ σ.fh k (⟨h0,h1,h2,n0,A5,n5,c5,hl⟩:Hg) }:Os)=uC (gR σ) k n0:=by
  rw [hAB]
  refine Eq.trans ?_ (zN hEz).symm
  show (⟨_,_,_,fun j=>(gZ σ.fh k (⟨h0,h1,h2,n0,A5,n5,c5,hl⟩:Hg) j).map hrG,_⟩:As)=_
  rw [cM5];rfl
 refine bQ D D fun wx hm=>?_
 refine ⟨lv,_,0,D,⟨.extend σ k (⟨h0,h1,h2,h3,(some ⟨hb,hof,none⟩),qV,hc,hl⟩:Hg) (⟨h0,h1,h2,n0,A5,n5,c5,hl⟩:Hg) hfk ⟨⟨hrk.1,hrk.2.1,hrk.2.2⟩,bE,bE,bE⟩ hE5 D D,hab⟩,?_⟩
 have hput:=gX.put (k:=k) (h:=(⟨h0,h1,h2,n0,A5,n5,c5,hl⟩:Hg)) (hm.fact 9 rfl) (hm.fact 1 rfl)
 have hm:=hm.also (gX.lasts2 rfl) hput
 exact (hm.pick [2] [0,1] [4,5,6,7,8,1,9,0,11,12] D D).cy
theorem dY1(w0:World)(u0 u2 u3 u4 u5 u6 u7 u8 u9 jR jS jT jU jV jW:Value)(go gv gs gI gF gG gJ gO:Nat)(cA:Option Addr)(cn cc:Nat)(cl:List Cs)(V:M->Option M)(T:M->Option Bool)(rv:Value)(rn:Nat)(rx:List Value)(hd: [gv,gs,gI,gF,gG,gJ,gO].Nodup)(ck:Bk->Prop)(fp:M->Option Int)(σ:Os)(lv:Value)(at_:Int)(k st:M)(n0 n1:Int)(tA nA:Option Addr)(tc nc:Nat)(w:World)(hs:st.size<=1000000)(hlg0:σ.lg.length<=99990)(hso:cA8 σ)(ht:SlT dU 1 9 w tA 2 [k,st])(hn:SlT kV 1 3 w nA 2 [n0,n1])(hm:gB ⟨0,w0,none, [269,9,3]⟩ (fun _=>True) [(go,98, [u0,H cA cn cc,u2,u3,u4,u5,u6,u7,u8,u9,jR,jS,jT,jU,jV,jW,.map (some gv),.map (some gs),.map (some gI),lv,.map (some gF),.map (some gG),.map (some gJ),.map (some gO),rv])] [⟨lv,181,5,σ.lg.length,σ.lg.flatMap eF⟩,⟨rv,178,2,rn,rx⟩] [cB vS dT w0.heap.size gv (V),cB vB dT w0.heap.size gs (T),cB rJ dT w0.heap.size gI (σ.fs),cB vB nN w0.heap.size gF (σ.fa),cB pX dT w0.heap.size gG (σ.fb),cB pZ dT w0.heap.size gJ (σ.fh),cB vI dT w0.heap.size gO (fp),gX 269 σ.fh,bT dQ 2 53 w0.heap.size none cA cn cl,TxtO w0.heap.size none,fun wy=>SlT dU 1 9 wy tA 2 [k,st],fun wy=>SlT kV 1 3 wy nA 2 [n0,n1]] w):
 Calls prog 141 #[.pointer (some ⟨go,0,none⟩),J at_,.agg #[U ⟨#[99,108,111,115,101]⟩,H tA 2 tc,H nA 2 nc]] w (fun e w'=>∃lv' σ' E,e=.returned (J E)/\(mK V T ck at_ σ σ'/\gR σ'=vW T at_ (gR σ) k st n0 n1)/\gB ⟨0,w0,none, [269,9,3]⟩ (fun _=>True) [(go,98, [u0,H cA cn cc,u2,u3,u4,u5,u6,u7,u8,u9,jR,jS,jT,jU,jV,jW,.map (some gv),.map (some gs),.map (some gI),lv',.map (some gF),.map (some gG),.map (some gJ),.map (some gO),rv])] [⟨lv',181,5,σ'.lg.length,σ'.lg.flatMap eF⟩,⟨rv,178,2,rn,rx⟩] [cB vS dT w0.heap.size gv (V),cB vB dT w0.heap.size gs (T),cB rJ dT w0.heap.size gI (σ'.fs),cB vB nN w0.heap.size gF (σ'.fa),cB pX dT w0.heap.size gG (σ'.fb),cB pZ dT w0.heap.size gJ (σ'.fh),cB vI dT w0.heap.size gO (fp),gX 269 σ'.fh,bT dQ 2 53 w0.heap.size none cA cn cl,TxtO w0.heap.size none] w'):=by
 have hlg:σ.lg.length<=100000:=G
 refine cY ⟨201,w0,none, [269,9,3]⟩ func141 D ntmps141 D hm.cy (bX ?_)
 obtain ⟨tb,uQ,htA,_,_⟩:=ht.get bD
 subst htA
 obtain ⟨nb,yM,hnA,_,_⟩:=hn.get bD
 subst hnA
 obtain ⟨ish,bP1⟩:∃z,z=(σ.fh k).isSome:=⟨_,rfl⟩
 obtain ⟨xh,hxh⟩:∃z,z=(σ.fh k).getD hg0:=⟨_,rfl⟩
 obtain ⟨h0,h1,h2,h3,hA,qV,hc,hl⟩:=xh
 have hol:∀h,σ.fh k=some h->SlT lgEnc 9 269 w h.A h.n h.legs:=fun h=>hm.fact 7 rfl k h
 refine fS D D D fun g1=>cG D (bU (bX (dZ kT D D (eO rX 0 D D D (W (bV (j:=0) mD D D G) D (W (dH (k:=0) (v:=U k) fR D (fun _ hm=>(hm.fact 10 D)) (D: [k,st][0]?=some k) D D) D (cG D (bU (bX (bS D (W (cU D) D (dZ wU D D (eO cA2 1 D D D (bS D (W (hU (enc:=pZ) (ek:=dT) (s:=k) (e:=262) hg0 kC bC bC D D (fun _ hm=>(hm.fact 5 D))) D (bS D (W (cV D D) D (bO 39 (v':= .agg #[U h0,U h1,J h2,J h3,H hA qV hc]) D (congrArg pZ hxh.symm) (W (cV D D) D (bO 40 (v':= .bool ish) D (fW9 bP1.symm) (dM yS D fun g2=>kE (cs':= [U h0,U h1,J h2,J h3,H hA qV hc]) 0 kQ D D D D ?_)))))))))))))))))))))
 refine cG D (bU (bJ (bX (bS D (W (cS D) D (bU ?_))))))
 refine dE D (fun hh=>?_) (fun hh=>?_)
 ·have hz:ish=false:=by simpa using hh
  refine bX (cG D (bU (bR (F ?_))))
  have hsm:gR σ=vW T at_ (gR σ) k st n0 n1:=(cV8 (cS6 (bP1.symm.trans (by simpa using hz)))).symm
  refine bQ D D fun wx hm=>?_
  refine ⟨lv,σ,_,D,⟨.same σ,hsm⟩,?_⟩
  exact (hm.pick [2] [0,1] [0,1,2,3,4,5,6,7,8,9] D D).cy
 have hz:ish=true:=by simpa using hh
 refine bN (bG (bX ?_))
 have hz1:ish=true:=by simpa using hz
 have hfk:=bK7 (bP1.symm.trans hz1) hxh
 obtain ⟨hrk,hnp,hn20,hll⟩:=hso.hi k _ hfk
 dsimp only at hrk hnp hn20 hll
 have hot:=hol _ hfk
 dsimp only at hot
 obtain ⟨hb,hof,hA1,_,_⟩:=hot.get hnp
 subst hA1
 obtain ⟨qP,hg⟩:∃z,hl[qV - 1]?=some z:=⟨_,fY9 G⟩
 have hlv:bU1 hl=qP.veh:=by unfold bU1;rw [hll,hg];rfl
 have hAB:vW T at_ (gR σ) k st n0 n1=dX1 T at_ (gR σ) k (⟨h0,h1,h2,h3,hl⟩:Hr) qP.veh st n0 n1:=cW8 (cT6 hfk) hlv
 refine bG0 (γ:=Unit) (fun _ wy=>SlT lgEnc 9 269 wy (some ⟨hb,hof,none⟩) qV hl) (fun w hm=>⟨(),(hm.fact 7 D:gX 269 σ.fh w) k _ hfk⟩) (fun _=>SlT.lasts2 D) fun _=>?_
 obtain ⟨HE,hHE⟩:∃z,z=closeE (⟨h0,h1,h2,h3,hl⟩:Hr) (⟨at_,st,n0,n1⟩:Rd):=⟨_,rfl⟩
 obtain ⟨xq,hxq⟩:∃z,z=bZ3 HE ⟨h0,h1,h2,h3,endLegs hl (⟨at_,st,n0,n1⟩:Rd)⟩:=⟨_,rfl⟩
 obtain ⟨k5,d5,f5,t5,l5⟩:=xq
 obtain ⟨ist,bX2⟩:∃z,z=(T st).getD false:=⟨_,rfl⟩
 obtain ⟨C0,hC0⟩:∃z,z=cQ5 σ (gV at_ qP.veh st):=⟨_,rfl⟩
 refine dM yS D fun g3=>bU (bX (cG D (bU (bX (cG D (bU (bX (cG D (bU ?_)))))))))
 refine pB (γ:=Option Addr×Nat×Nat×Nat) (I':=(fun (gq:Option Addr×Nat×Nat×Nat)=>l5.length=gq.2.1)) (S':=(fun (gq:Option Addr×Nat×Nat×Nat)=> [(0,.pointer (some ⟨go,0,none⟩)),(6,J 0),(7,U k),(10,.pointer (some ⟨g3,0,none⟩)),(11,J HE),(12,H (some ⟨gq.2.2.2,0,none⟩) 1 1),(13,.bool ist)])) (K':=(fun (gq:Option Addr×Nat×Nat×Nat)=>fun _=>True)) (L':=(fun (gq:Option Addr×Nat×Nat×Nat)=> [(g3,262, [U k5,U d5,J f5,J t5,H gq.1 gq.2.1 gq.2.2.1]),(gq.2.2.2,181, [J at_,U qP.veh,U st,J 3,U ⟨#[]⟩]),(go,98, [u0,H cA cn cc,u2,u3,u4,u5,u6,u7,u8,u9,jR,jS,jT,jU,jV,jW,.map (some gv),.map (some gs),.map (some gI),lv,.map (some gF),.map (some gG),.map (some gJ),.map (some gO),rv])])) (O':=(fun (gq:Option Addr×Nat×Nat×Nat)=> [⟨lv,181,5,σ.lg.length,σ.lg.flatMap eF⟩,⟨rv,178,2,rn,rx⟩])) (X':=(fun (gq:Option Addr×Nat×Nat×Nat)=> [fun wy=>SlT lgEnc 9 269 wy gq.1 gq.2.1 l5,fun wy=>SlT lgEnc 9 269 wy (some ⟨hb,hof,none⟩) qV hl,cB vS dT w0.heap.size gv (V),cB vB dT w0.heap.size gs (T),cB rJ dT w0.heap.size gI (σ.fs),cB vB nN w0.heap.size gF (σ.fa),cB pX dT w0.heap.size gG (σ.fb),cB pZ dT w0.heap.size gJ (σ.fh),cB vI dT w0.heap.size gO (fp),gX 269 σ.fh,bT dQ 2 53 w0.heap.size none cA cn cl,TxtO w0.heap.size none,fun wy=>SlT dU 1 9 wy (some ⟨tb,uQ,none⟩) 2 [k,st],fun wy=>SlT kV 1 3 wy (some ⟨nb,yM,none⟩) 2 [n0,n1]])) ?_ ?_
 ·refine bX (dZ vM D D (eO bL3 1 D D D (dZ vM D D (eO bL3 1 D D D (W (dP bB8 D) D ?_)))))
  refine W (ov_sub D D G G) D (bO 48 (v':=I (qV - 1)) D (fX9 G) (W (bV (j:=qV - 1) bB8 D D G) D (dZ cM6 D D (W (dH (k:=0) (v:=U qP.veh) fR D (fun _ hm=>(hm.fact 0 D)) hg D D) D (cG D (bU (bX (dZ mM D D (eO fR 2 D D D (bU (bP (bX (W (eS D D) D (bO 120 (v':= .bool false) D (fW9 (by rw [nM];decide)) (cG D (bU (jK D (bX (W (eS D D) D (bO 131 (v':= .bool true) D (fW9 (by rw [nM];decide)) (cG D (bU (mT D (bX (dZ kT D D (eO rX 2 D D D (W (bV (j:=1) mD D D G) D (W (dH (k:=0) (v:=U st) fR D (fun _ hm=>(hm.fact 11 D)) (D: [k,st][1]?=some st) D D) D ?_))))))))))))))))))))))))))))
  refine cG D (bU (bJ (gd (fun wz=>Blk wz g2 262 [U h0,U h1,J h2,J h3,H (some ⟨hb,hof,none⟩) qV hc]/\Blk wz g1 220 [U ⟨#[99,108,111,115,101]⟩,H (some ⟨tb,uQ,none⟩) 2 tc,H (some ⟨nb,yM,none⟩) 2 nc]/\(fun wy=>SlT kV 1 3 wy (some ⟨nb,yM,none⟩) 2 [n0,n1]) wz/\True) mixed (fun _ hm=>⟨hm.bl 1,hm.bl 2,hm.fa 12,bB⟩) fun z=>wq 0 D (dG kQ D (fun _ hm=>hm.1) D D) (wq 1 D (bL D) (wq 2 D (bL D) (wq 3 D (bW nT D D) (wq 4 D (cH kY D (fun _ hm=>hm.2.1) D) (wq 5 D (bV (j:=0) kF D D G) (wq 6 D (dH (k:=0) (v:=J n0) fM D (fun _ hm=>(hm.2.2.1)) (D: [n0,n1][0]?=some n0) D D) (wq 7 D (bW nT D D) (wq 8 D (cH kY D (fun _ hm=>hm.2.1) D) (wq 9 D (bV (j:=1) kF D D G) (wq 10 D (dH (k:=0) (v:=J n1) fM D (fun _ hm=>(hm.2.2.1)) (D: [n0,n1][1]?=some n1) D D) (wq 11 D (dL (cs:= [J at_,U st,J n0,J n1]) D bC) (eD 12 D ?_)))))))))))))))
  refine fK (γ:=Option Addr×Nat×Nat) (val:=(fun g=> .tuple #[.agg #[U k5,U d5,J f5,J t5,H g.1 g.2.1 g.2.2],J HE])) (φ:=(fun g=>l5.length=g.2.1)) (Y:=(fun g=>fun wy=>SlT lgEnc 9 269 wy g.1 g.2.1 l5)) D fC4 D D (fun wx hm=>(fG0 h0 h1 h2 h3 hl (some ⟨hb,hof,none⟩) qV hc (⟨at_,st,n0,n1⟩:Rd) wx (hm.fact 0 D) hrk hs G).mono fun _ _ ⟨A,n,c,he,hg,hs⟩=>⟨(A,n,c),by rw [<-hHE,<-hxq] at he;exact he,by rw [<-hHE,<-hxq] at hs;exact hs.len,hg,by rw [<-hHE,<-hxq] at hs;exact hs⟩) (fun _=>SlT.lasts2 D) ?_
  rintro ⟨A5,n5,c5⟩ hln
  dsimp only at hln ⊢
  refine bH (nw 18 8191 (fun _ hm=>⟨hm.bl 1,hm.bl 2,hm.fa 13,bB⟩) fun z=>wq 13 D (bL D) (wq 14 D (cV D D) (wq 15 D (cV D D) (eD 16 D (kE (cs':= [U k5,U d5,J f5,J t5,H A5 n5 c5]) 0 kQ D D D D (bH (nw 18 131071 (fun _ hm=>⟨hm.bl 1,hm.bl 2,hm.fa 13,bB⟩) fun z=>wq 17 D (dB D) (gY (bG (bX (bS D (W (cU D) D (dZ bV3 D D (eO dS3 3 D D D (bS D (W (mF (enc:=vB) (ek:=dT) (s:=st) (e:=4) false kC bC bC D D (fun _ hm=>(hm.fact 3 D))) D (bO 157 (v':= .bool ist) D (fW9 bX2.symm) (cG D (bU (bM (bS D (bS D (bS D (W (dL (cs:= [J at_,U qP.veh,U st,J 3,U ⟨#[]⟩]) D bC) D (jN 181 [J at_,U qP.veh,U st,J 3,U ⟨#[]⟩] fun g4=>?_)))))))))))))))))))))))))
  refine cG D (bH (bK ?_))
  exact fH (A5,n5,c5,g4) hln ⟨D,D,D,D,D,D,D,bB⟩ (fun _ hm=>hm.pick [1,0,4] [0,1] [0,1,2,3,4,5,6,7,8,9,10,11,12,13] D D)
 rintro ⟨A5,n5,c5,gE⟩ bZ
 replace bZ:l5.length=n5:=bZ
 dsimp only
 refine bJ (bX (bS D (bS D (W (cS D) D (dC D qB D D (fun wx hm=>(eH _ _ wx)) (jN 48 [J HE,J (dO (!ist) 8)] fun g5=>dC D vO D D (fun wx hm=>(fP [HE,dO (!ist) 8] _ _ _ wx (hm.blkI 0 D) (by simp))) (cG D (bU (bX (bS D (W (gN D D) D (bU ?_))))))))))))
 refine gL D (fun hy=>?_) (fun hy=>?_)
 ·refine bX (bS D (cG D (bU ?_)))
  refine bR (F ?_)
  have hyx:¬dK [HE,dO (!ist) 8]=0:=by simpa using hy
  have hsm:gR σ=vW T at_ (gR σ) k st n0 n1:=by
   rw [hAB]
   exact (qI fun ⟨q1,q2,_⟩=>hyx (by rw [hHE.trans q1,bX2.trans q2];rfl)).symm
  refine bQ D D fun wx hm=>?_
  refine ⟨lv,σ,_,D,⟨.same σ,hsm⟩,?_⟩
  exact (hm.pick [3] [0,1] [2,3,4,5,6,7,8,9,10,11] D D).cy
 refine bN (bG (bJ (bX ?_)))
 have hy0:dK [HE,dO (!ist) 8]=0:=by simpa using hy
 obtain ⟨hz0,hz9⟩:=cR0 hy0
 have hq0:bZ3 HE ⟨h0,h1,h2,h3,endLegs hl (⟨at_,st,n0,n1⟩:Rd)⟩=⟨h0,h1,h2,h3,endLegs hl (⟨at_,st,n0,n1⟩:Rd)⟩:=bQ1 hz0
 have hx9:=hq0.symm.trans hxq.symm
 injection hx9 with q1 q2 q3 q4 q5
 subst q1 q2 q3 q4 q5
 have hEz:=hHE.symm.trans hz0
 rw [hHE] at hz0
 obtain ⟨hgo,hE5⟩:=cC1 hz0
 have hle:=hireE_legs hE5
 dsimp only at hle
 have hT:(T st).getD false=true:=by
  have:=rT bD hz9
  rw [<-bX2];simpa using this
 have hopen:=(goingE_ok hgo).2
 refine bS D (W (dP mC D) D (bO 173 (v':=J 1) D D (bS D (bU (bP (fF 2 (eK (bX (W (dF D D) D (bO 175 (v':= .bool true) D (fW9 bD) (bU (bJ (mT D (bN (bG (bJ (bP (bX (W (bV (j:=0) mC D D bD) D (W (dG fE D (fun _ hm=>hm.blkI 2 D) D D) D (dM bO6 D fun g6=>kE (cs':= [J at_,U qP.veh,U st,J 3,U ⟨#[]⟩]) 0 fE D D D D (bU (bX (bS D (W (dG fE D (fun _ hm=>hm.blkI 0 D) D D) D (cR (v:=J C0) D bK1 D D (fun wx hm=>(by rw [hC0];exact (uA σ u0 u2 u3 u4 u5 u6 u7 u8 u9 jR jS jT jU jV jW go gv gs gI gF gG gJ gO cA cn cc lv rv at_ qP.veh st 3 ⟨#[]⟩ _ wx (hm.blkI 4 rfl) (hm.fact 4 rfl) (hm.fact 5 rfl)))) ?_))))))))))))))))))))))))))
 refine cG D (bU (bX (bS D (W (gN D D) D (bU ?_)))))
 refine gL D (fun hc0=>?_) (fun hc0=>?_)
 ·refine bX (bS D (cG D (bU ?_)))
  refine bR (C (F (F (C (F ?_)))))
  have hcx:¬C0=0:=by simpa using hc0
  have hsm:gR σ=vW T at_ (gR σ) k st n0 n1:=by
   rw [hAB]
   exact (qI fun ⟨_,_,qq⟩=>hcx (hC0.trans (rD.2 (bJ1.1 qq)))).symm
  refine bQ D D fun wx hm=>?_
  refine ⟨lv,σ,_,D,⟨.same σ,hsm⟩,?_⟩
  exact (hm.pick [4] [0,1] [2,3,4,5,6,7,8,9,10,11] D D).cy
 refine bN (bK (bG (bM ?_)))
 have hcan0:bQ6 σ (gV at_ qP.veh st):=rD.1 (hC0.symm.trans (by simpa using hc0))
 refine fY D D (bO 184 (v':=J 1) D D (bS D (bH (jL (eK (bX (W (dF D D) D (bO 175 (v':= .bool false) D (fW9 bD) (bU (bJ (jK D (dD (bI (bI (bY (bG (bJ (bX (bS D (W (dP mC D) D (bO 186 (v':=J 1) D D (bS D (bU (bP (fF 2 (eK (bX (W (dF D D) D (bO 188 (v':= .bool true) D (fW9 bD) ?_)))))))))))))))))))))))))))))
 refine bU (bJ (mT D (bN (bG (bJ (bP (bX (W (bV (j:=0) mC D D bD) D (W (dG fE D (fun _ hm=>hm.blkI 3 D) D D) D (dM bO6 D fun g7=>kE (cs':= [J at_,U qP.veh,U st,J 3,U ⟨#[]⟩]) 0 fE D D D D (bU (bM (bS D (W (dG fE D (fun _ hm=>hm.blkI 0 D) D D) D ?_))))))))))))))
 refine fW (γ:=Value) (val:=fun _=> .tuple #[]) (φ:=fun _=>True) (K':=fun _=>fun _=>True) (L':=fun rC=> [(go,98, [u0,H cA cn cc,u2,u3,u4,u5,u6,u7,u8,u9,jR,jS,jT,jU,jV,jW,.map (some gv),.map (some gs),.map (some gI),rC,.map (some gF),.map (some gG),.map (some gJ),.map (some gO),rv]),(g3,262, [U h0,U h1,J h2,J h3,H A5 n5 c5]),(gE,181, [J at_,U qP.veh,U st,J 3,U ⟨#[]⟩])]) (O':=fun rC=> [⟨rC,181,5,(jD σ (gV at_ qP.veh st)).lg.length,(jD σ (gV at_ qP.veh st)).lg.flatMap eF⟩,⟨rv,178,2,rn,rx⟩]) (X':=fun _=> [cB vS dT w0.heap.size gv (V),cB vB dT w0.heap.size gs (T),cB rJ dT w0.heap.size gI ((jD σ (gV at_ qP.veh st)).fs),cB vB nN w0.heap.size gF ((jD σ (gV at_ qP.veh st)).fa),cB pX dT w0.heap.size gG ((jD σ (gV at_ qP.veh st)).fb),cB pZ dT w0.heap.size gJ ((jD σ (gV at_ qP.veh st)).fh),cB vI dT w0.heap.size gO (fp),gX 269 (jD σ (gV at_ qP.veh st)).fh,bT dQ 2 53 w0.heap.size none cA cn cl,TxtO w0.heap.size none,fun wy=>SlT lgEnc 9 269 wy A5 n5 (endLegs hl (⟨at_,st,n0,n1⟩:Rd))]) D cP8 D D (fun wx hm=>(bE6 w0 u0 u2 u3 u4 u5 u6 u7 u8 u9 jR jS jT jU jV jW go gv gs gI gF gG gJ gO cA cn cc cl V T rv rn rx hd fp σ lv at_ qP.veh st 3 ⟨#[]⟩ [(g3,262, [U h0,U h1,J h2,J h3,H A5 n5 c5]),(gE,181, [J at_,U qP.veh,U st,J 3,U ⟨#[]⟩])] [fun wy=>SlT lgEnc 9 269 wy A5 n5 (endLegs hl (⟨at_,st,n0,n1⟩:Rd))] (dO5 SlT.mfar) wx hlg (hm.pick [5,3,4] [0,1] [2,3,4,5,6,7,8,9,10,11,0] D D).cy).mono fun _ _ ⟨lv_,he,wG⟩=>⟨lv_,he,bB,wG.cy⟩) ?_
 intro rC _
 refine bH (bK (bG (bM (fY D D (bO 194 (v':=J 1) D D (bS D (bH (jL (eK (bX (W (dF D D) D (bO 188 (v':= .bool false) D (fW9 bD) (bU (bJ (jK D (dD (bI (bI (bY (bG (bJ (gd (fun wz=>Blk wz go 98 [u0,H cA cn cc,u2,u3,u4,u5,u6,u7,u8,u9,jR,jS,jT,jU,jV,jW,.map (some gv),.map (some gs),.map (some gI),rC,.map (some gF),.map (some gG),.map (some gJ),.map (some gO),rv]/\Blk wz g3 262 [U h0,U h1,J h2,J h3,H A5 n5 c5]/\True) mixed (fun _ hm=>⟨hm.bl 0,hm.bl 1,bB⟩) fun z=>wq 0 D (bL D) (wq 1 D (cU D) (wq 2 D (bW wU D D) (wq 3 D (cH cA2 D (fun _ hm=>hm.1) D) (wq 4 D (bL D) (wq 5 D (dG kQ D (fun _ hm=>hm.2.1) D D) (eD 6 D ?_))))))))))))))))))))))))))))
 refine kZ (enc:=pZ) (ek:=dT) (s:=k) (v:=(⟨h0,h1,h2,h3,A5,n5,c5,endLegs hl (⟨at_,st,n0,n1⟩:Rd)⟩:Hg)) (e:=262) (X':= [cB vS dT w0.heap.size gv (V),cB vB dT w0.heap.size gs (T),cB rJ dT w0.heap.size gI ((jD σ (gV at_ qP.veh st)).fs),cB vB nN w0.heap.size gF ((jD σ (gV at_ qP.veh st)).fa),cB pX dT w0.heap.size gG ((jD σ (gV at_ qP.veh st)).fb),cB vI dT w0.heap.size gO (fp),gX 269 (jD σ (gV at_ qP.veh st)).fh,bT dQ 2 53 w0.heap.size none cA cn cl,TxtO w0.heap.size none,fun wy=>SlT lgEnc 9 269 wy A5 n5 (endLegs hl (⟨at_,st,n0,n1⟩:Rd))]) 5 kC bC D D D D (cX (i:=0) (cB.farK (gW hd (i:=0) (j:=5) D D bD)) D (cX (i:=1) (cB.farK (gW hd (i:=1) (j:=5) D D bD)) D (cX (i:=2) (cB.farK (gW hd (i:=2) (j:=5) D D bD)) D (cX (i:=3) (cB.farK (gW hd (i:=3) (j:=5) D D bD)) D (cX (i:=4) (cB.farK (gW hd (i:=4) (j:=5) D D bD)) D (cX (i:=6) (cB.farK (gW hd (i:=6) (j:=5) D D bD)) D (cX (i:=7) (gX.mfar).far D (cX (i:=8) (bT.mfar).far D (cX (i:=9) (TxtO.mfar).far D (cX (i:=10) (SlT.mfar).far D gK)))))))))) (bH (nw 7 127 (fun _ hm=>⟨hm.bl 0,hm.bl 1,bB⟩) fun z=>gY (bG (bX (cG D (bU (bR ?_)))))))
 have hab:gR ({ jD σ (gV at_ qP.veh st) with fh:=gZ σ.fh k (⟨h0,h1,h2,h3,A5,n5,c5,endLegs hl (⟨at_,st,n0,n1⟩:Rd)⟩:Hg) }:Os)=vW T at_ (gR σ) k st n0 n1:=by
  rw [hAB]
  refine Eq.trans ?_ (zN ⟨hEz,hT,hcan0⟩).symm
  show (⟨_,_,_,fun j=>(gZ σ.fh k (⟨h0,h1,h2,h3,A5,n5,c5,endLegs hl (⟨at_,st,n0,n1⟩:Rd)⟩:Hg) j).map hrG,_⟩:As)=_
  rw [cM5];rfl
 refine bQ D D fun wx hm=>?_
 refine ⟨rC,_,0,D,⟨.close σ k (⟨h0,h1,h2,h3,(some ⟨hb,hof,none⟩),qV,hc,hl⟩:Hg) (⟨h0,h1,h2,h3,A5,n5,c5,endLegs hl (⟨at_,st,n0,n1⟩:Rd)⟩:Hg) qP (⟨at_,st,n0,n1⟩:Rd) hfk ⟨⟨hrk.1,hrk.2.1,end_ok hrk.2.2 hs⟩,bE,bE,bE⟩ hE5 hopen hg D D D hT hcan0,hab⟩,?_⟩
 have hput:=gX.put (k:=k) (h:=(⟨h0,h1,h2,h3,A5,n5,c5,endLegs hl (⟨at_,st,n0,n1⟩:Rd)⟩:Hg)) (hm.fact 7 rfl) (hm.fact 10 rfl)
 have hm:=hm.also (gX.lasts2 rfl) hput
 exact (hm.pick [0] [0,1] [2,3,4,5,6,1,7,0,9,10] D D).cy
theorem dE9(w0:World)(u0 u2 u3 u4 u5 u6 u7 u8 u9 jR jS jT jU jV jW:Value)(go gv gs gI gF gG gJ gO:Nat)(cA:Option Addr)(cn cc:Nat)(cl:List Cs)(V:M->Option M)(T:M->Option Bool)(rv:Value)(rn:Nat)(rx:List Value)(hd: [gv,gs,gI,gF,gG,gJ,gO].Nodup)(ck:Bk->Prop)(fp:M->Option Int)(σ:Os)(lv:Value)(at_:Int)(k st v:M)(n0 n1 n2 n3:Int)(tA nA:Option Addr)(tc nc:Nat)(w:World)(hs:st.size<=1000000)(hv:v.size<=1000000)(hlg0:σ.lg.length<=99990)(hso:cA8 σ)(ht:SlT dU 1 9 w tA 3 [k,st,v])(hn:SlT kV 1 3 w nA 4 [n0,n1,n2,n3])(hm:gB ⟨0,w0,none, [269,9,3]⟩ (fun _=>True) [(go,98, [u0,H cA cn cc,u2,u3,u4,u5,u6,u7,u8,u9,jR,jS,jT,jU,jV,jW,.map (some gv),.map (some gs),.map (some gI),lv,.map (some gF),.map (some gG),.map (some gJ),.map (some gO),rv])] [⟨lv,181,5,σ.lg.length,σ.lg.flatMap eF⟩,⟨rv,178,2,rn,rx⟩] [cB vS dT w0.heap.size gv (V),cB vB dT w0.heap.size gs (T),cB rJ dT w0.heap.size gI (σ.fs),cB vB nN w0.heap.size gF (σ.fa),cB pX dT w0.heap.size gG (σ.fb),cB pZ dT w0.heap.size gJ (σ.fh),cB vI dT w0.heap.size gO (fp),gX 269 σ.fh,bT dQ 2 53 w0.heap.size none cA cn cl,TxtO w0.heap.size none,fun wy=>SlT dU 1 9 wy tA 3 [k,st,v],fun wy=>SlT kV 1 3 wy nA 4 [n0,n1,n2,n3]] w):
 Calls prog 141 #[.pointer (some ⟨go,0,none⟩),J at_,.agg #[U ⟨#[115,119,97,112]⟩,H tA 3 tc,H nA 4 nc]] w (fun e w'=>∃lv' σ' E,e=.returned (J E)/\(mK V T ck at_ σ σ'/\gR σ'=yQ V T at_ (gR σ) k st v n0 n1 n2 n3)/\gB ⟨0,w0,none, [269,9,3]⟩ (fun _=>True) [(go,98, [u0,H cA cn cc,u2,u3,u4,u5,u6,u7,u8,u9,jR,jS,jT,jU,jV,jW,.map (some gv),.map (some gs),.map (some gI),lv',.map (some gF),.map (some gG),.map (some gJ),.map (some gO),rv])] [⟨lv',181,5,σ'.lg.length,σ'.lg.flatMap eF⟩,⟨rv,178,2,rn,rx⟩] [cB vS dT w0.heap.size gv (V),cB vB dT w0.heap.size gs (T),cB rJ dT w0.heap.size gI (σ'.fs),cB vB nN w0.heap.size gF (σ'.fa),cB pX dT w0.heap.size gG (σ'.fb),cB pZ dT w0.heap.size gJ (σ'.fh),cB vI dT w0.heap.size gO (fp),gX 269 σ'.fh,bT dQ 2 53 w0.heap.size none cA cn cl,TxtO w0.heap.size none] w'):=by
 have hlg:σ.lg.length<=100000:=G
 refine cY ⟨201,w0,none, [269,9,3]⟩ func141 D ntmps141 D hm.cy (bX ?_)
 obtain ⟨tb,uQ,htA,_,_⟩:=ht.get bD
 subst htA
 obtain ⟨nb,yM,hnA,_,_⟩:=hn.get bD
 subst hnA
 obtain ⟨ish,bP1⟩:∃z,z=(σ.fh k).isSome:=⟨_,rfl⟩
 obtain ⟨xh,hxh⟩:∃z,z=(σ.fh k).getD hg0:=⟨_,rfl⟩
 obtain ⟨h0,h1,h2,h3,hA,qV,hc,hl⟩:=xh
 have hol:∀h,σ.fh k=some h->SlT lgEnc 9 269 w h.A h.n h.legs:=fun h=>hm.fact 7 rfl k h
 refine fS D D D fun g1=>cG D (bU (bX (dZ kT D D (eO rX 0 D D D (W (bV (j:=0) mD D D G) D (W (dH (k:=0) (v:=U k) fR D (fun _ hm=>(hm.fact 10 D)) (D: [k,st,v][0]?=some k) D D) D (cG D (bU (bX (bS D (W (cU D) D (dZ wU D D (eO cA2 1 D D D (bS D (W (hU (enc:=pZ) (ek:=dT) (s:=k) (e:=262) hg0 kC bC bC D D (fun _ hm=>(hm.fact 5 D))) D (bS D (W (cV D D) D (bO 39 (v':= .agg #[U h0,U h1,J h2,J h3,H hA qV hc]) D (congrArg pZ hxh.symm) (W (cV D D) D (bO 40 (v':= .bool ish) D (fW9 bP1.symm) (dM yS D fun g2=>kE (cs':= [U h0,U h1,J h2,J h3,H hA qV hc]) 0 kQ D D D D ?_)))))))))))))))))))))
 refine cG D (bU (bJ (bX (bS D (W (cS D) D (bU ?_))))))
 refine dE D (fun hh=>?_) (fun hh=>?_)
 ·have hz:ish=false:=by simpa using hh
  refine bX (cG D (bU (bR (F ?_))))
  have hsm:gR σ=yQ V T at_ (gR σ) k st v n0 n1 n2 n3:=(dD4 (cS6 (bP1.symm.trans (by simpa using hz)))).symm
  refine bQ D D fun wx hm=>?_
  refine ⟨lv,σ,_,D,⟨.same σ,hsm⟩,?_⟩
  exact (hm.pick [2] [0,1] [0,1,2,3,4,5,6,7,8,9] D D).cy
 have hz:ish=true:=by simpa using hh
 refine bN (bG (bX ?_))
 have hz1:ish=true:=by simpa using hz
 have hfk:=bK7 (bP1.symm.trans hz1) hxh
 obtain ⟨hrk,hnp,hn20,hll⟩:=hso.hi k _ hfk
 dsimp only at hrk hnp hn20 hll
 have hot:=hol _ hfk
 dsimp only at hot
 obtain ⟨hb,hof,hA1,_,_⟩:=hot.get hnp
 subst hA1
 obtain ⟨qP,hg⟩:∃z,hl[qV - 1]?=some z:=⟨_,fY9 G⟩
 have hlv:bU1 hl=qP.veh:=by unfold bU1;rw [hll,hg];rfl
 have hAB:yQ V T at_ (gR σ) k st v n0 n1 n2 n3=eO3 V T at_ (gR σ) k (⟨h0,h1,h2,h3,hl⟩:Hr) qP.veh st v n0 n1 n2 n3:=dE4 (cT6 hfk) hlv
 refine bG0 (γ:=Unit) (fun _ wy=>SlT lgEnc 9 269 wy (some ⟨hb,hof,none⟩) qV hl) (fun w hm=>⟨(),(hm.fact 7 D:gX 269 σ.fh w) k _ hfk⟩) (fun _=>SlT.lasts2 D) fun _=>?_
 obtain ⟨HE,hHE⟩:∃z,z=cC9 (⟨h0,h1,h2,h3,hl⟩:Hr) (⟨at_,st,n0,n1⟩:Rd) v (⟨at_,st,n2,n3⟩:Rd):=⟨_,rfl⟩
 obtain ⟨xq,hxq⟩:∃z,z=bZ3 HE ⟨h0,h1,h2,h3,jI hl (⟨at_,st,n0,n1⟩:Rd) v (⟨at_,st,n2,n3⟩:Rd)⟩:=⟨_,rfl⟩
 obtain ⟨k5,d5,f5,t5,l5⟩:=xq
 obtain ⟨ist,bX2⟩:∃z,z=(T st).getD false:=⟨_,rfl⟩
 obtain ⟨iv,hiv⟩:∃z,z=(V v).isSome:=⟨_,rfl⟩
 obtain ⟨vc,hvc⟩:∃z,z=(V v).getD (⟨#[]⟩:M):=⟨_,rfl⟩
 obtain ⟨C0,hC0⟩:∃z,z=cQ5 σ (gV at_ qP.veh st):=⟨_,rfl⟩
 obtain ⟨C1,hC1⟩:∃z,z=cQ5 σ (kJ at_ v st):=⟨_,rfl⟩
 refine dM yS D fun g3=>bU (bX (cG D (bU (bX (cG D (bU (bX (cG D (bU ?_)))))))))
 refine pB (γ:=Option Addr×Nat×Nat×Nat×Bool) (I':=(fun (gq:Option Addr×Nat×Nat×Nat×Bool)=>l5.length=gq.2.1/\gq.2.2.2.2=(ist&&iv))) (S':=(fun (gq:Option Addr×Nat×Nat×Nat×Bool)=> [(0,.pointer (some ⟨go,0,none⟩)),(6,J 0),(7,U k),(10,.pointer (some ⟨g3,0,none⟩)),(11,J HE),(12,H (some ⟨gq.2.2.2.1,0,none⟩) 2 2),(13,.bool gq.2.2.2.2)])) (K':=(fun (gq:Option Addr×Nat×Nat×Nat×Bool)=>fun _=>True)) (L':=(fun (gq:Option Addr×Nat×Nat×Nat×Bool)=> [(g3,262, [U k5,U d5,J f5,J t5,H gq.1 gq.2.1 gq.2.2.1]),(gq.2.2.2.1,181, [J at_,U qP.veh,U st,J 3,U ⟨#[]⟩,J at_,U v,U st,J 2,U ⟨#[]⟩]),(go,98, [u0,H cA cn cc,u2,u3,u4,u5,u6,u7,u8,u9,jR,jS,jT,jU,jV,jW,.map (some gv),.map (some gs),.map (some gI),lv,.map (some gF),.map (some gG),.map (some gJ),.map (some gO),rv])])) (O':=(fun (gq:Option Addr×Nat×Nat×Nat×Bool)=> [⟨lv,181,5,σ.lg.length,σ.lg.flatMap eF⟩,⟨rv,178,2,rn,rx⟩])) (X':=(fun (gq:Option Addr×Nat×Nat×Nat×Bool)=> [fun wy=>SlT lgEnc 9 269 wy gq.1 gq.2.1 l5,fun wy=>SlT lgEnc 9 269 wy (some ⟨hb,hof,none⟩) qV hl,cB vS dT w0.heap.size gv (V),cB vB dT w0.heap.size gs (T),cB rJ dT w0.heap.size gI (σ.fs),cB vB nN w0.heap.size gF (σ.fa),cB pX dT w0.heap.size gG (σ.fb),cB pZ dT w0.heap.size gJ (σ.fh),cB vI dT w0.heap.size gO (fp),gX 269 σ.fh,bT dQ 2 53 w0.heap.size none cA cn cl,TxtO w0.heap.size none,fun wy=>SlT dU 1 9 wy (some ⟨tb,uQ,none⟩) 3 [k,st,v],fun wy=>SlT kV 1 3 wy (some ⟨nb,yM,none⟩) 4 [n0,n1,n2,n3]])) ?_ ?_
 ·refine bX (dZ vM D D (eO bL3 1 D D D (dZ vM D D (eO bL3 1 D D D (W (dP bB8 D) D ?_)))))
  refine W (ov_sub D D G G) D (bO 48 (v':=I (qV - 1)) D (fX9 G) (W (bV (j:=qV - 1) bB8 D D G) D (dZ cM6 D D (W (dH (k:=0) (v:=U qP.veh) fR D (fun _ hm=>(hm.fact 0 D)) hg D D) D (cG D (bU (bX (dZ mM D D (eO fR 2 D D D (bU (bP (bX (W (eS D D) D (bO 120 (v':= .bool false) D (fW9 (by rw [nM];decide)) (cG D (bU (jK D (bX (W (eS D D) D (bO 131 (v':= .bool false) D (fW9 (by rw [nM];decide)) (cG D (bU (jK D (bJ (gd (fun wz=>Blk wz g1 220 [U ⟨#[115,119,97,112]⟩,H (some ⟨tb,uQ,none⟩) 3 tc,H (some ⟨nb,yM,none⟩) 4 nc]/\(fun wy=>SlT dU 1 9 wy (some ⟨tb,uQ,none⟩) 3 [k,st,v]) wz/\True) mixed (fun _ hm=>⟨hm.bl 2,hm.fa 11,bB⟩) fun z=>wq 0 D (bW kT D D) (wq 1 D (cH rX D (fun _ hm=>hm.1) D) (wq 2 D (bV (j:=1) mD D D G) (wq 3 D (dH (k:=0) (v:=U st) fR D (fun _ hm=>(hm.2.1)) (D: [k,st,v][1]?=some st) D D) ?_))))))))))))))))))))))))))))
  refine wq 4 D (bW kT D D) (wq 5 D (cH rX D (fun _ hm=>hm.1) D) (wq 6 D (bV (j:=2) mD D D G) (wq 7 D (dH (k:=0) (v:=U v) fR D (fun _ hm=>(hm.2.1)) (D: [k,st,v][2]?=some v) D D) (wq 8 D (dB D) (wq 9 D (dB D) (gY (bG (bJ (gd (fun wz=>Blk wz g1 220 [U ⟨#[115,119,97,112]⟩,H (some ⟨tb,uQ,none⟩) 3 tc,H (some ⟨nb,yM,none⟩) 4 nc]/\(fun wy=>SlT kV 1 3 wy (some ⟨nb,yM,none⟩) 4 [n0,n1,n2,n3]) wz/\True) mixed (fun _ hm=>⟨hm.bl 2,hm.fa 12,bB⟩) fun z=>wq 0 D (bL D) (wq 1 D (bL D) (wq 2 D (bW nT D D) (wq 3 D (cH kY D (fun _ hm=>hm.1) D) (wq 4 D (bV (j:=0) kF D D G) (wq 5 D (dH (k:=0) (v:=J n0) fM D (fun _ hm=>(hm.2.1)) (D: [n0,n1,n2,n3][0]?=some n0) D D) (wq 6 D (bW nT D D) (wq 7 D (cH kY D (fun _ hm=>hm.1) D) (wq 8 D (bV (j:=1) kF D D G) (wq 9 D (dH (k:=0) (v:=J n1) fM D (fun _ hm=>(hm.2.1)) (D: [n0,n1,n2,n3][1]?=some n1) D D) (wq 10 D (dL (cs:= [J at_,U st,J n0,J n1]) D bC) (eD 11 D (dM eO9 D fun g4=>bH (nw 13 4095 (fun _ hm=>⟨hm.bl 3,hm.fa 12,bB⟩) fun z=>eD 12 D (kE (cs':= [J at_,U st,J n0,J n1]) 0 cX1 D D D D (bH (nw 13 8191 (fun _ hm=>⟨hm.bl 3,hm.fa 12,bB⟩) fun z=>gY ?_)))))))))))))))))))))))))
  refine bG (bJ (gd (fun wz=>Blk wz g1 220 [U ⟨#[115,119,97,112]⟩,H (some ⟨tb,uQ,none⟩) 3 tc,H (some ⟨nb,yM,none⟩) 4 nc]/\(fun wy=>SlT kV 1 3 wy (some ⟨nb,yM,none⟩) 4 [n0,n1,n2,n3]) wz/\True) mixed (fun _ hm=>⟨hm.bl 3,hm.fa 12,bB⟩) fun z=>wq 0 D (bL D) (wq 1 D (bL D) (wq 2 D (bW nT D D) (wq 3 D (cH kY D (fun _ hm=>hm.1) D) (wq 4 D (bV (j:=2) kF D D G) (wq 5 D (dH (k:=0) (v:=J n2) fM D (fun _ hm=>(hm.2.1)) (D: [n0,n1,n2,n3][2]?=some n2) D D) (wq 6 D (bW nT D D) (wq 7 D (cH kY D (fun _ hm=>hm.1) D) (wq 8 D (bV (j:=3) kF D D G) (wq 9 D (dH (k:=0) (v:=J n3) fM D (fun _ hm=>(hm.2.1)) (D: [n0,n1,n2,n3][3]?=some n3) D D) (wq 10 D (dL (cs:= [J at_,U st,J n2,J n3]) D bC) (eD 11 D (dM eO9 D fun g5=>bH (nw 13 4095 (fun _ hm=>⟨hm.bl 4,hm.fa 12,bB⟩) fun z=>eD 12 D (kE (cs':= [J at_,U st,J n2,J n3]) 0 cX1 D D D D (bH (nw 13 8191 (fun _ hm=>⟨hm.bl 4,hm.fa 12,bB⟩) fun z=>gY (bG (bX (W (dG kQ D (fun _ hm=>hm.blkI 3 D) D D) D (W (dG cX1 D (fun _ hm=>hm.blkI 1 D) D D) D (bS D (W (dG cX1 D (fun _ hm=>hm.blkI 0 D) D D) D ?_))))))))))))))))))))))))
  refine fK (γ:=Option Addr×Nat×Nat) (val:=(fun g=> .tuple #[.agg #[U k5,U d5,J f5,J t5,H g.1 g.2.1 g.2.2],J HE])) (φ:=(fun g=>l5.length=g.2.1)) (Y:=(fun g=>fun wy=>SlT lgEnc 9 269 wy g.1 g.2.1 l5)) D fD4 D D (fun wx hm=>(dE7 h0 h1 h2 h3 hl (some ⟨hb,hof,none⟩) qV hc v at_ st n0 n1 at_ st n2 n3 wx (hm.fact 0 D) hrk G hv hs hs).mono fun _ _ ⟨A,n,c,he,hg,hs⟩=>⟨(A,n,c),by rw [<-hHE,<-hxq] at he;exact he,by rw [<-hHE,<-hxq] at hs;exact hs.len,hg,by rw [<-hHE,<-hxq] at hs;exact hs⟩) (fun _=>SlT.lasts2 D) ?_
  rintro ⟨A5,n5,c5⟩ hln
  dsimp only at hln ⊢
  refine bS D (W (cV D D) D (W (cV D D) D (kE (cs':= [U k5,U d5,J f5,J t5,H A5 n5 c5]) 2 kQ D D D D (cG D (bU (bX (bS D (W (cU D) D (dZ cQ6 D D (eO eA7 5 D D D (bS D (W (hU (enc:=vS) (ek:=dT) (s:=v) (e:=9) (⟨#[]⟩:M) kC bC bC D D (fun _ hm=>(hm.fact 2 D))) D (bS D (W (cV D D) D (bO 99 (v':=U vc) D (congrArg U hvc.symm) (W (cV D D) D (bO 100 (v':= .bool iv) D (fW9 hiv.symm) (cG D (cG D (bU (bX (bS D (W (cU D) D (dZ bV3 D D (eO dS3 5 D D D (bS D (W (mF (enc:=vB) (ek:=dT) (s:=st) (e:=4) false kC bC bC D D (fun _ hm=>(hm.fact 3 D))) D (bO 106 (v':= .bool ist) D (fW9 bX2.symm) (bS D ?_)))))))))))))))))))))))))))))
  rcases Bool.eq_false_or_eq_true ist with hb6|hb6
  ·refine bO 107 D (fW9 hb6) ?_
   refine eN D (bS D (mS D D (cG D (bU (bM (bS D (bS D (bS D (W (dL (cs:= [J at_,U qP.veh,U st,J 3,U ⟨#[]⟩]) D bC) D (bS D (bS D (bS D (W (dL (cs:= [J at_,U v,U st,J 2,U ⟨#[]⟩]) D bC) D (jN 181 [J at_,U qP.veh,U st,J 3,U ⟨#[]⟩,J at_,U v,U st,J 2,U ⟨#[]⟩] fun g7=>cG D (bH (bK ?_))))))))))))))))
   exact fH (A5,n5,c5,g7,iv) ⟨hln,by rw [hb6];rfl⟩ ⟨D,D,D,D,D,D,D,bB⟩ (fun _ hm=>hm.pick [3,0,6] [0,1] [0,1,2,3,4,5,6,7,8,9,10,11,12,13] D D)
  refine bO 107 D (fW9 hb6) (eE D (nV D D (cG D (bU (bM (bS D (bS D (bS D (W (dL (cs:= [J at_,U qP.veh,U st,J 3,U ⟨#[]⟩]) D bC) D (bS D (bS D (bS D (W (dL (cs:= [J at_,U v,U st,J 2,U ⟨#[]⟩]) D bC) D (jN 181 [J at_,U qP.veh,U st,J 3,U ⟨#[]⟩,J at_,U v,U st,J 2,U ⟨#[]⟩] fun g8=>cG D (bH (bK ?_))))))))))))))))
  exact fH (A5,n5,c5,g8,false) ⟨hln,by rw [hb6];rfl⟩ ⟨D,D,D,D,D,D,D,bB⟩ (fun _ hm=>hm.pick [3,0,6] [0,1] [0,1,2,3,4,5,6,7,8,9,10,11,12,13] D D)
 rintro ⟨A5,n5,c5,gE,kn⟩ bZ
 replace bZ:l5.length=n5/\kn=(ist&&iv):=bZ
 dsimp only
 refine bJ (bX ?_)
 obtain ⟨bZ,hkn⟩:=bZ
 refine bS D (bS D (W (cS D) D (dC D qB D D (fun wx hm=>(eH _ _ wx)) (jN 48 [J HE,J (dO (!kn) 8)] fun g9=>dC D vO D D (fun wx hm=>(fP [HE,dO (!kn) 8] _ _ _ wx (hm.blkI 0 D) (by simp))) (cG D (bU (bX (bS D (W (gN D D) D (bU ?_))))))))))
 refine gL D (fun hy=>?_) (fun hy=>?_)
 ·refine bX (bS D (cG D (bU ?_)))
  refine bR (F ?_)
  have hyx:¬dK [HE,dO (!kn) 8]=0:=by simpa using hy
  have hsm:gR σ=yQ V T at_ (gR σ) k st v n0 n1 n2 n3:=by
   rw [hAB]
   exact (qI fun ⟨q1,⟨q2,q3⟩,_⟩=>hyx (by rw [hHE.trans q1,hkn,bX2.trans q2,hiv.trans q3];rfl)).symm
  refine bQ D D fun wx hm=>?_
  refine ⟨lv,σ,_,D,⟨.same σ,hsm⟩,?_⟩
  exact (hm.pick [3] [0,1] [2,3,4,5,6,7,8,9,10,11] D D).cy
 refine bN (bG (bJ (bX ?_)))
 have hy0:dK [HE,dO (!kn) 8]=0:=by simpa using hy
 obtain ⟨hz0,hz9⟩:=cR0 hy0
 have hq0:bZ3 HE ⟨h0,h1,h2,h3,jI hl (⟨at_,st,n0,n1⟩:Rd) v (⟨at_,st,n2,n3⟩:Rd)⟩=⟨h0,h1,h2,h3,jI hl (⟨at_,st,n0,n1⟩:Rd) v (⟨at_,st,n2,n3⟩:Rd)⟩:=bQ1 hz0
 have hx9:=hq0.symm.trans hxq.symm
 injection hx9 with q1 q2 q3 q4 q5
 subst q1 q2 q3 q4 q5
 have hEz:=hHE.symm.trans hz0
 rw [hHE] at hz0
 obtain ⟨hgo,hE5⟩:=cC1 hz0
 have hle:=hireE_legs hE5
 dsimp only at hle
 have h99:ist=true/\iv=true:=by
  have:=rT bD hz9
  rw [hkn] at this
  simpa using this
 have hT:(T st).getD false=true:=by rw [<-bX2];exact h99.1
 have hV:(V v).isSome=true:=by rw [<-hiv];exact h99.2
 have hopen:=(goingE_ok hgo).2
 refine bS D (W (dP mC D) D (bO 173 (v':=J 2) D D (bS D (bU (bP (fF 3 (eK (bX (W (dF D D) D (bO 175 (v':= .bool true) D (fW9 bD) (bU (bJ (mT D (bN (bG (bJ (bP (bX (W (bV (j:=0) mC D D bD) D (W (dG fE D (fun _ hm=>hm.blkI 2 D) D D) D (dM bO6 D fun g10=>kE (cs':= [J at_,U qP.veh,U st,J 3,U ⟨#[]⟩]) 0 fE D D D D (bU (bX (bS D (W (dG fE D (fun _ hm=>hm.blkI 0 D) D D) D (cR (v:=J C0) D bK1 D D (fun wx hm=>(by rw [hC0];exact (uA σ u0 u2 u3 u4 u5 u6 u7 u8 u9 jR jS jT jU jV jW go gv gs gI gF gG gJ gO cA cn cc lv rv at_ qP.veh st 3 ⟨#[]⟩ _ wx (hm.blkI 4 rfl) (hm.fact 4 rfl) (hm.fact 5 rfl)))) ?_))))))))))))))))))))))))))
 refine cG D (bU (bX (bS D (W (gN D D) D (bU ?_)))))
 refine gL D (fun hc0=>?_) (fun hc0=>?_)
 ·refine bX (bS D (cG D (bU ?_)))
  refine bR (C (F (F (C (F ?_)))))
  have hcx:¬C0=0:=by simpa using hc0
  have hsm:gR σ=yQ V T at_ (gR σ) k st v n0 n1 n2 n3:=by
   rw [hAB]
   exact (qI fun ⟨_,_,qq,_⟩=>hcx (hC0.trans (rD.2 (bJ1.1 qq)))).symm
  refine bQ D D fun wx hm=>?_
  refine ⟨lv,σ,_,D,⟨.same σ,hsm⟩,?_⟩
  exact (hm.pick [4] [0,1] [2,3,4,5,6,7,8,9,10,11] D D).cy
 refine bN (bK (bG (bM ?_)))
 have hcan0:bQ6 σ (gV at_ qP.veh st):=rD.1 (hC0.symm.trans (by simpa using hc0))
 refine fY D D (bO 184 (v':=J 1) D D (bS D (bH (jL (eK (bX (W (dF D D) D (bO 175 (v':= .bool true) D (fW9 bD) (bU (bJ (mT D (bN (bG (bJ (bP (bX (W (bV (j:=1) mC D D bD) D (W (dG fE D (fun _ hm=>hm.blkI 3 D) D D) D (dM bO6 D fun g11=>kE (cs':= [J at_,U v,U st,J 2,U ⟨#[]⟩]) 0 fE D D D D (bU (bX (bS D (W (dG fE D (fun _ hm=>hm.blkI 0 D) D D) D (cR (v:=J C1) D bK1 D D (fun wx hm=>(by rw [hC1];exact (uA σ u0 u2 u3 u4 u5 u6 u7 u8 u9 jR jS jT jU jV jW go gv gs gI gF gG gJ gO cA cn cc lv rv at_ v st 2 ⟨#[]⟩ _ wx (hm.blkI 5 rfl) (hm.fact 4 rfl) (hm.fact 5 rfl)))) ?_))))))))))))))))))))))))
 refine cG D (bU (bX (bS D (W (gN D D) D (bU ?_)))))
 refine gL D (fun hc1=>?_) (fun hc1=>?_)
 ·refine bX (bS D (cG D (bU ?_)))
  refine bR (C (F (F (C (F ?_)))))
  have hcx:¬C1=0:=by simpa using hc1
  have hsm:gR σ=yQ V T at_ (gR σ) k st v n0 n1 n2 n3:=by
   rw [hAB]
   exact (qI fun ⟨_,_,_,qq⟩=>hcx (hC1.trans (rD.2 (bJ1.1 qq)))).symm
  refine bQ D D fun wx hm=>?_
  refine ⟨lv,σ,_,D,⟨.same σ,hsm⟩,?_⟩
  exact (hm.pick [5] [0,1] [2,3,4,5,6,7,8,9,10,11] D D).cy
 refine bN (bK (bG (bM ?_)))
 have hcan1:bQ6 σ (kJ at_ v st):=rD.1 (hC1.symm.trans (by simpa using hc1))
 refine fY D D (bO 184 (v':=J 2) D D (bS D (bH (jL (eK (bX (W (dF D D) D (bO 175 (v':= .bool false) D (fW9 bD) (bU (bJ (jK D (dD (bI (bI (bY (bG (bJ (bX (bS D (W (dP mC D) D (bO 186 (v':=J 2) D D (bS D (bU (bP (fF 3 (eK (bX (W (dF D D) D (bO 188 (v':= .bool true) D (fW9 bD) ?_)))))))))))))))))))))))))))))
 refine bU (bJ (mT D (bN (bG (bJ (bP (bX (W (bV (j:=0) mC D D bD) D (W (dG fE D (fun _ hm=>hm.blkI 4 D) D D) D (dM bO6 D fun g12=>kE (cs':= [J at_,U qP.veh,U st,J 3,U ⟨#[]⟩]) 0 fE D D D D (bU (bM (bS D (W (dG fE D (fun _ hm=>hm.blkI 0 D) D D) D ?_))))))))))))))
 refine fW (γ:=Value) (val:=fun _=> .tuple #[]) (φ:=fun _=>True) (K':=fun _=>fun _=>True) (L':=fun rC=> [(go,98, [u0,H cA cn cc,u2,u3,u4,u5,u6,u7,u8,u9,jR,jS,jT,jU,jV,jW,.map (some gv),.map (some gs),.map (some gI),rC,.map (some gF),.map (some gG),.map (some gJ),.map (some gO),rv]),(g3,262, [U h0,U h1,J h2,J h3,H A5 n5 c5]),(gE,181, [J at_,U qP.veh,U st,J 3,U ⟨#[]⟩,J at_,U v,U st,J 2,U ⟨#[]⟩])]) (O':=fun rC=> [⟨rC,181,5,(jD σ (gV at_ qP.veh st)).lg.length,(jD σ (gV at_ qP.veh st)).lg.flatMap eF⟩,⟨rv,178,2,rn,rx⟩]) (X':=fun _=> [cB vS dT w0.heap.size gv (V),cB vB dT w0.heap.size gs (T),cB rJ dT w0.heap.size gI ((jD σ (gV at_ qP.veh st)).fs),cB vB nN w0.heap.size gF ((jD σ (gV at_ qP.veh st)).fa),cB pX dT w0.heap.size gG ((jD σ (gV at_ qP.veh st)).fb),cB pZ dT w0.heap.size gJ ((jD σ (gV at_ qP.veh st)).fh),cB vI dT w0.heap.size gO (fp),gX 269 (jD σ (gV at_ qP.veh st)).fh,bT dQ 2 53 w0.heap.size none cA cn cl,TxtO w0.heap.size none,fun wy=>SlT lgEnc 9 269 wy A5 n5 (jI hl (⟨at_,st,n0,n1⟩:Rd) v (⟨at_,st,n2,n3⟩:Rd))]) D cP8 D D (fun wx hm=>(bE6 w0 u0 u2 u3 u4 u5 u6 u7 u8 u9 jR jS jT jU jV jW go gv gs gI gF gG gJ gO cA cn cc cl V T rv rn rx hd fp σ lv at_ qP.veh st 3 ⟨#[]⟩ [(g3,262, [U h0,U h1,J h2,J h3,H A5 n5 c5]),(gE,181, [J at_,U qP.veh,U st,J 3,U ⟨#[]⟩,J at_,U v,U st,J 2,U ⟨#[]⟩])] [fun wy=>SlT lgEnc 9 269 wy A5 n5 (jI hl (⟨at_,st,n0,n1⟩:Rd) v (⟨at_,st,n2,n3⟩:Rd))] (dO5 SlT.mfar) wx hlg (hm.pick [6,4,5] [0,1] [2,3,4,5,6,7,8,9,10,11,0] D D).cy).mono fun _ _ ⟨lv_,he,wG⟩=>⟨lv_,he,bB,wG.cy⟩) ?_
 intro rC _
 refine bH (bK (bG (bM (fY D D (bO 194 (v':=J 1) D D (bS D (bH (jL (eK (bX (W (dF D D) D (bO 188 (v':= .bool true) D (fW9 bD) (bU (bJ (mT D (bN (bG (bJ (bP (bX (W (bV (j:=1) mC D D bD) D (W (dG fE D (fun _ hm=>hm.blkI 2 D) D D) D (dM bO6 D fun g13=>kE (cs':= [J at_,U v,U st,J 2,U ⟨#[]⟩]) 0 fE D D D D (bU (bM (bS D (W (dG fE D (fun _ hm=>hm.blkI 0 D) D D) D ?_)))))))))))))))))))))))))))
 refine fW (γ:=Value) (val:=fun _=> .tuple #[]) (φ:=fun _=>True) (K':=fun _=>fun _=>True) (L':=fun lv3=> [(go,98, [u0,H cA cn cc,u2,u3,u4,u5,u6,u7,u8,u9,jR,jS,jT,jU,jV,jW,.map (some gv),.map (some gs),.map (some gI),lv3,.map (some gF),.map (some gG),.map (some gJ),.map (some gO),rv]),(g3,262, [U h0,U h1,J h2,J h3,H A5 n5 c5]),(gE,181, [J at_,U qP.veh,U st,J 3,U ⟨#[]⟩,J at_,U v,U st,J 2,U ⟨#[]⟩])]) (O':=fun lv3=> [⟨lv3,181,5,(jD (jD σ (gV at_ qP.veh st)) (kJ at_ v st)).lg.length,(jD (jD σ (gV at_ qP.veh st)) (kJ at_ v st)).lg.flatMap eF⟩,⟨rv,178,2,rn,rx⟩]) (X':=fun _=> [cB vS dT w0.heap.size gv (V),cB vB dT w0.heap.size gs (T),cB rJ dT w0.heap.size gI ((jD (jD σ (gV at_ qP.veh st)) (kJ at_ v st)).fs),cB vB nN w0.heap.size gF ((jD (jD σ (gV at_ qP.veh st)) (kJ at_ v st)).fa),cB pX dT w0.heap.size gG ((jD (jD σ (gV at_ qP.veh st)) (kJ at_ v st)).fb),cB pZ dT w0.heap.size gJ ((jD (jD σ (gV at_ qP.veh st)) (kJ at_ v st)).fh),cB vI dT w0.heap.size gO (fp),gX 269 (jD (jD σ (gV at_ qP.veh st)) (kJ at_ v st)).fh,bT dQ 2 53 w0.heap.size none cA cn cl,TxtO w0.heap.size none,fun wy=>SlT lgEnc 9 269 wy A5 n5 (jI hl (⟨at_,st,n0,n1⟩:Rd) v (⟨at_,st,n2,n3⟩:Rd))]) D cP8 D D (fun wx hm=>(bE6 w0 u0 u2 u3 u4 u5 u6 u7 u8 u9 jR jS jT jU jV jW go gv gs gI gF gG gJ gO cA cn cc cl V T rv rn rx hd fp (jD σ (gV at_ qP.veh st)) rC at_ v st 2 ⟨#[]⟩ [(g3,262, [U h0,U h1,J h2,J h3,H A5 n5 c5]),(gE,181, [J at_,U qP.veh,U st,J 3,U ⟨#[]⟩,J at_,U v,U st,J 2,U ⟨#[]⟩])] [fun wy=>SlT lgEnc 9 269 wy A5 n5 (jI hl (⟨at_,st,n0,n1⟩:Rd) v (⟨at_,st,n2,n3⟩:Rd))] (dO5 SlT.mfar) wx (by show (_++ [_]).length<=_;rw [List.length_append,List.length_singleton];omega) (hm.pick [1,2,3] [0,1] [0,1,2,3,4,5,6,7,8,9,10] D D).cy).mono fun _ _ ⟨lv_,he,wG⟩=>⟨lv_,he,bB,wG.cy⟩) ?_
 intro lv3 _
 refine bH (bK (bG (bM (fY D D (bO 194 (v':=J 2) D D (bS D (bH (jL (eK (bX (W (dF D D) D (bO 188 (v':= .bool false) D (fW9 bD) (bU (bJ (jK D (dD (bI (bI (bY (bG (bJ (gd (fun wz=>Blk wz go 98 [u0,H cA cn cc,u2,u3,u4,u5,u6,u7,u8,u9,jR,jS,jT,jU,jV,jW,.map (some gv),.map (some gs),.map (some gI),lv3,.map (some gF),.map (some gG),.map (some gJ),.map (some gO),rv]/\Blk wz g3 262 [U h0,U h1,J h2,J h3,H A5 n5 c5]/\True) mixed (fun _ hm=>⟨hm.bl 0,hm.bl 1,bB⟩) fun z=>wq 0 D (bL D) (wq 1 D (cU D) (wq 2 D (bW wU D D) (wq 3 D (cH cA2 D (fun _ hm=>hm.1) D) (wq 4 D (bL D) (wq 5 D (dG kQ D (fun _ hm=>hm.2.1) D D) (eD 6 D ?_))))))))))))))))))))))))))))
 refine kZ (enc:=pZ) (ek:=dT) (s:=k) (v:=(⟨h0,h1,h2,h3,A5,n5,c5,jI hl (⟨at_,st,n0,n1⟩:Rd) v (⟨at_,st,n2,n3⟩:Rd)⟩:Hg)) (e:=262) (X':= [cB vS dT w0.heap.size gv (V),cB vB dT w0.heap.size gs (T),cB rJ dT w0.heap.size gI ((jD (jD σ (gV at_ qP.veh st)) (kJ at_ v st)).fs),cB vB nN w0.heap.size gF ((jD (jD σ (gV at_ qP.veh st)) (kJ at_ v st)).fa),cB pX dT w0.heap.size gG ((jD (jD σ (gV at_ qP.veh st)) (kJ at_ v st)).fb),cB vI dT w0.heap.size gO (fp),gX 269 (jD (jD σ (gV at_ qP.veh st)) (kJ at_ v st)).fh,bT dQ 2 53 w0.heap.size none cA cn cl,TxtO w0.heap.size none,fun wy=>SlT lgEnc 9 269 wy A5 n5 (jI hl (⟨at_,st,n0,n1⟩:Rd) v (⟨at_,st,n2,n3⟩:Rd))]) 5 kC bC D D D D (cX (i:=0) (cB.farK (gW hd (i:=0) (j:=5) D D bD)) D (cX (i:=1) (cB.farK (gW hd (i:=1) (j:=5) D D bD)) D (cX (i:=2) (cB.farK (gW hd (i:=2) (j:=5) D D bD)) D (cX (i:=3) (cB.farK (gW hd (i:=3) (j:=5) D D bD)) D (cX (i:=4) (cB.farK (gW hd (i:=4) (j:=5) D D bD)) D (cX (i:=6) (cB.farK (gW hd (i:=6) (j:=5) D D bD)) D (cX (i:=7) (gX.mfar).far D (cX (i:=8) (bT.mfar).far D (cX (i:=9) (TxtO.mfar).far D (cX (i:=10) (SlT.mfar).far D gK)))))))))) (bH (nw 7 127 (fun _ hm=>⟨hm.bl 0,hm.bl 1,bB⟩) fun z=>gY (bG (bX (cG D (bU (bR ?_)))))))
 have hab:gR ({ jD (jD σ (gV at_ qP.veh st)) (kJ at_ v st) with fh:=gZ σ.fh k (⟨h0,h1,h2,h3,A5,n5,c5,jI hl (⟨at_,st,n0,n1⟩:Rd) v (⟨at_,st,n2,n3⟩:Rd)⟩:Hg) }:Os)=yQ V T at_ (gR σ) k st v n0 n1 n2 n3:=by
  rw [hAB]
  refine Eq.trans ?_ (zN ⟨hEz,⟨hT,hV⟩,hcan0,hcan1⟩).symm
  show (⟨_,_,_,fun j=>(gZ σ.fh k (⟨h0,h1,h2,h3,A5,n5,c5,jI hl (⟨at_,st,n0,n1⟩:Rd) v (⟨at_,st,n2,n3⟩:Rd)⟩:Hg) j).map hrG,_⟩:As)=_
  rw [cM5];rfl
 refine bQ D D fun wx hm=>?_
 refine ⟨lv3,_,0,D,⟨.swap σ k (⟨h0,h1,h2,h3,(some ⟨hb,hof,none⟩),qV,hc,hl⟩:Hg) (⟨h0,h1,h2,h3,A5,n5,c5,jI hl (⟨at_,st,n0,n1⟩:Rd) v (⟨at_,st,n2,n3⟩:Rd)⟩:Hg) qP (⟨at_,st,n0,n1⟩:Rd) (⟨at_,st,n2,n3⟩:Rd) v hfk ⟨⟨hrk.1,hrk.2.1,dA5 hrk.2.2 hs hv hs⟩,bE,bE,bE⟩ hE5 hopen hg D D D D D hT hV hcan0 hcan1,hab⟩,?_⟩
 have hput:=gX.put (k:=k) (h:=(⟨h0,h1,h2,h3,A5,n5,c5,jI hl (⟨at_,st,n0,n1⟩:Rd) v (⟨at_,st,n2,n3⟩:Rd)⟩:Hg)) (hm.fact 7 rfl) (hm.fact 10 rfl)
 have hm:=hm.also (gX.lasts2 rfl) hput
 exact (hm.pick [0] [0,1] [2,3,4,5,6,1,7,0,9,10] D D).cy
theorem dI4{wd fm:M}{tn nn:Nat}(h:mV wd=some fm)(h1:tn=cW fm fm.size)(h2:tn+nn=fm.size):(∃kd,kd∈([1,4,5,7,8]:List Int)/\gM wd=some kd/\tn=2/\nn=0)∨(gM wd=some 6/\tn=3/\nn=0)∨(wd=⟨#[98,111,111,107]⟩/\gM wd=none/\tn=2/\nn=3)∨(wd=⟨#[99,97,110,99,101,108]⟩/\gM wd=none/\tn=1/\nn=0)∨(wd=⟨#[115,116,97,114,116]⟩/\gM wd=none/\tn=4/\nn=3)∨(wd=⟨#[115,119,97,112]⟩/\gM wd=none/\tn=3/\nn=4)∨(wd=⟨#[101,120,116,101,110,100]⟩/\gM wd=none/\tn=1/\nn=1)∨(wd=⟨#[99,108,111,115,101]⟩/\gM wd=none/\tn=2/\nn=2)∨(wd=⟨#[112,97,121]⟩/\gM wd=none/\tn=1/\nn=1):=by
 rcases bE8 h with ⟨rfl,rfl⟩|⟨rfl,rfl⟩|⟨rfl,rfl⟩|⟨rfl,rfl⟩|⟨rfl,rfl⟩|⟨rfl,rfl⟩|⟨rfl,rfl⟩|⟨rfl,rfl⟩|⟨rfl,rfl⟩|⟨rfl,rfl⟩|⟨rfl,rfl⟩|⟨rfl,rfl⟩|⟨rfl,rfl⟩
 ·have hc:cW ⟨#[119,110]⟩ (⟨#[119,110]⟩:M).size=1:=bC
  have hz:(⟨#[119,110]⟩:M).size=2:=rfl
  rw [hc] at h1;rw [hz] at h2
  exact .inr (.inr (.inr (.inr (.inr (.inr (.inr (.inr (⟨D,cN4,h1,G⟩))))))))
 ·have hc:cW ⟨#[119,119,110,110]⟩ (⟨#[119,119,110,110]⟩:M).size=2:=bC
  have hz:(⟨#[119,119,110,110]⟩:M).size=4:=rfl
  rw [hc] at h1;rw [hz] at h2
  exact .inr (.inr (.inr (.inr (.inr (.inr (.inr (.inl ⟨D,bM8,h1,G⟩)))))))
 ·have hc:cW ⟨#[119,110]⟩ (⟨#[119,110]⟩:M).size=1:=bC
  have hz:(⟨#[119,110]⟩:M).size=2:=rfl
  rw [hc] at h1;rw [hz] at h2
  exact .inr (.inr (.inr (.inr (.inr (.inr (.inl ⟨D,bQ5,h1,G⟩))))))
 ·have hc:cW ⟨#[119,119,110,110,119,110,110]⟩ (⟨#[119,119,110,110,119,110,110]⟩:M).size=3:=bC
  have hz:(⟨#[119,119,110,110,119,110,110]⟩:M).size=7:=rfl
  rw [hc] at h1;rw [hz] at h2
  exact .inr (.inr (.inr (.inr (.inr (.inl ⟨D,cF1,h1,G⟩)))))
 ·have hc:cW ⟨#[119,119,110,119,119,110,110]⟩ (⟨#[119,119,110,119,119,110,110]⟩:M).size=4:=bC
  have hz:(⟨#[119,119,110,119,119,110,110]⟩:M).size=7:=rfl
  rw [hc] at h1;rw [hz] at h2
  exact .inr (.inr (.inr (.inr (.inl ⟨D,bN8,h1,G⟩))))
 ·have hc:cW ⟨#[119]⟩ (⟨#[119]⟩:M).size=1:=bC
  have hz:(⟨#[119]⟩:M).size=1:=rfl
  rw [hc] at h1;rw [hz] at h2
  exact .inr (.inr (.inr (.inl ⟨D,bP5,h1,G⟩)))
 ·have hc:cW ⟨#[119,119,110,110,110]⟩ (⟨#[119,119,110,110,110]⟩:M).size=2:=bC
  have hz:(⟨#[119,119,110,110,110]⟩:M).size=5:=rfl
  rw [hc] at h1;rw [hz] at h2
  exact .inr (.inr (.inl ⟨D,cE1,h1,G⟩))
 ·have hc:cW ⟨#[119,119,119]⟩ (⟨#[119,119,119]⟩:M).size=3:=bC
  have hz:(⟨#[119,119,119]⟩:M).size=3:=rfl
  rw [hc] at h1;rw [hz] at h2
  exact .inr (.inl ⟨cU9,h1,G⟩)
 ·have hc:cW ⟨#[119,119]⟩ (⟨#[119,119]⟩:M).size=2:=bC
  have hz:(⟨#[119,119]⟩:M).size=2:=rfl
  rw [hc] at h1;rw [hz] at h2
  exact .inl ⟨8,bD,dZ2,h1,G⟩
 ·have hc:cW ⟨#[119,119]⟩ (⟨#[119,119]⟩:M).size=2:=bC
  have hz:(⟨#[119,119]⟩:M).size=2:=rfl
  rw [hc] at h1;rw [hz] at h2
  exact .inl ⟨7,bD,dX2,h1,G⟩
 ·have hc:cW ⟨#[119,119]⟩ (⟨#[119,119]⟩:M).size=2:=bC
  have hz:(⟨#[119,119]⟩:M).size=2:=rfl
  rw [hc] at h1;rw [hz] at h2
  exact .inl ⟨5,bD,dY2,h1,G⟩
 ·have hc:cW ⟨#[119,119]⟩ (⟨#[119,119]⟩:M).size=2:=bC
  have hz:(⟨#[119,119]⟩:M).size=2:=rfl
  rw [hc] at h1;rw [hz] at h2
  exact .inl ⟨4,bD,dA3,h1,G⟩
 ·have hc:cW ⟨#[119,119]⟩ (⟨#[119,119]⟩:M).size=2:=bC
  have hz:(⟨#[119,119]⟩:M).size=2:=rfl
  rw [hc] at h1;rw [hz] at h2
  exact .inl ⟨1,bD,cT9,h1,G⟩
theorem eG2{α:Type}{l:List α}(h:l.length=1):∃a,l= [a]:=by
 match l,h with
 | [a],_=>exact ⟨a,rfl⟩
theorem eK6{α:Type}{l:List α}(h:l.length=2):∃a b,l= [a,b]:=by
 match l,h with
 | [a,b],_=>exact ⟨a,b,rfl⟩
theorem eL6{α:Type}{l:List α}(h:l.length=3):∃a b c,l= [a,b,c]:=by
 match l,h with
 | [a,b,c],_=>exact ⟨a,b,c,rfl⟩
theorem fK5{α:Type}{l:List α}(h:l.length=4):∃a b c d,l= [a,b,c,d]:=by
 match l,h with
 | [a,b,c,d],_=>exact ⟨a,b,c,d,rfl⟩
theorem yO{α:Type}{enc:α->List Value}{k:Nat}{T:TypeId}{w:World}{A:Option Addr}{n:Nat}{l:List α}(h:SlT enc k T w A n l):0 < n->∃b o,A=some ⟨b,o,none⟩:=fun hn=>by
 obtain ⟨b,o,hA,_⟩:=h.get hn
 exact ⟨b,o,hA⟩
noncomputable def doA(V:M->Option M)(T:M->Option Bool)(cl:List Cs)(at_:Int)(s:As)(wd:M)(tl:List M)(nl:List Int):As:=match gM wd with
 |some kd=>bD7 V T s ⟨at_,tAt tl 0,tAt tl 1,kd,if kd=6 then tAt tl 2 else ⟨#[]⟩⟩
 |none=>if wd=⟨#[98,111,111,107]⟩ then cE8 cl s ⟨tAt tl 0,tAt tl 1,nAt nl 0,nAt nl 1,at_,nAt nl 2⟩ else if wd=⟨#[99,97,110,99,101,108]⟩ then { s with fb:=zO s.fb (tAt tl 0) }
  else if wd=⟨#[115,116,97,114,116]⟩ then bX7 V T at_ s (tAt tl 0) (tAt tl 1) (tAt tl 2) (tAt tl 3) (nAt nl 0) (nAt nl 1) (nAt nl 2) else if wd=⟨#[112,97,121]⟩ then s else if wd=⟨#[101,120,116,101,110,100]⟩ then uC s (tAt tl 0) (nAt nl 0)
  else if wd=⟨#[99,108,111,115,101]⟩ then vW T at_ s (tAt tl 0) (tAt tl 1) (nAt nl 0) (nAt nl 1) else yQ V T at_ s (tAt tl 0) (tAt tl 1) (tAt tl 2) (nAt nl 0) (nAt nl 1) (nAt nl 2) (nAt nl 3)
noncomputable def mN(V:M->Option M)(T:M->Option Bool)(cl:List Cs)(at_:Int)(ws:M)(s:As):As:=match rI ws with
 |none=>s
 |some (wd,tl,nl)=>doA V T cl at_ s wd tl nl
section
variable {V:M->Option M} {T:M->Option Bool} {cl:List Cs} {at_:Int} {s:As} {ws wd:M}
theorem dH2(h:rI ws=none):mN V T cl at_ ws s=s:=by unfold mN;rw [h]
theorem cJ9{tl:List M}{nl:List Int}(h:rI ws=some (wd,tl,nl)):mN V T cl at_ ws s=doA V T cl at_ s wd tl nl:=by unfold mN;rw [h]
theorem fV4{kd:Int}{x0 x1:M}{nl:List Int}(h:gM wd=some kd)(h6:kd≠6):doA V T cl at_ s wd [x0,x1] nl=bD7 V T s ⟨at_,x0,x1,kd,⟨#[]⟩⟩:=by
 unfold doA
 rw [h]
 show bD7 V T s ⟨at_,x0,x1,kd,if kd=6 then _ else ⟨#[]⟩⟩=_
 rw [if_neg h6]
theorem eV0{x0 x1 x2:M}{nl:List Int}(h:gM wd=some 6):doA V T cl at_ s wd [x0,x1,x2] nl=bD7 V T s ⟨at_,x0,x1,6,x2⟩:=by
 unfold doA
 rw [h];rfl
theorem eL5{x0 x1:M}{y0 y1 y2:Int}:doA V T cl at_ s ⟨#[98,111,111,107]⟩ [x0,x1] [y0,y1,y2]=cE8 cl s ⟨x0,x1,y0,y1,at_,y2⟩:=by
 unfold doA
 rw [cE1]
 dsimp only
 rw [if_pos rfl];rfl
theorem dA7{x0:M}{nl:List Int}:doA V T cl at_ s ⟨#[99,97,110,99,101,108]⟩ [x0] nl={ s with fb:=zO s.fb x0 }:=by
 unfold doA
 rw [bP5]
 dsimp only
 rw [if_neg bD,if_pos rfl];rfl
theorem eW0{x0 x1 x2 x3:M}{y0 y1 y2:Int}:doA V T cl at_ s ⟨#[115,116,97,114,116]⟩ [x0,x1,x2,x3] [y0,y1,y2]=bX7 V T at_ s x0 x1 x2 x3 y0 y1 y2:=by
 unfold doA
 rw [bN8]
 dsimp only
 rw [if_neg bD,if_neg bD,if_pos rfl];rfl
theorem fL0{x0:M}{y0:Int}:doA V T cl at_ s ⟨#[112,97,121]⟩ [x0] [y0]=s:=by
 unfold doA
 rw [cN4]
 dsimp only
 rw [if_neg bD,if_neg bD,if_neg bD,if_pos rfl]
theorem dB7{x0:M}{y0:Int}:doA V T cl at_ s ⟨#[101,120,116,101,110,100]⟩ [x0] [y0]=uC s x0 y0:=by
 unfold doA
 rw [bQ5]
 dsimp only
 rw [if_neg bD,if_neg bD,if_neg bD,if_neg bD,if_pos rfl];rfl
theorem eU0{x0 x1:M}{y0 y1:Int}:doA V T cl at_ s ⟨#[99,108,111,115,101]⟩ [x0,x1] [y0,y1]=vW T at_ s x0 x1 y0 y1:=by
 unfold doA
 rw [bM8]
 dsimp only
 rw [if_neg bD,if_neg bD,if_neg bD,if_neg bD,if_neg bD,if_pos rfl];rfl
theorem eM5{x0 x1 x2:M}{y0 y1 y2 y3:Int}:doA V T cl at_ s ⟨#[115,119,97,112]⟩ [x0,x1,x2] [y0,y1,y2,y3]=yQ V T at_ s x0 x1 x2 y0 y1 y2 y3:=by
 unfold doA
 rw [cF1]
 dsimp only
 rw [if_neg bD,if_neg bD,if_neg bD,if_neg bD,if_neg bD,if_neg bD];rfl
end
theorem cK9(w0:World)(u0 u2 u3 u4 u5 u6 u7 u8 u9 jR jS jT jU jV jW:Value)(go gv gs gI gF gG gJ gO:Nat)(cA:Option Addr)(cn cc:Nat)(cl:List Cs)(V:M->Option M)(T:M->Option Bool)(rv:Value)(rn:Nat)(rx:List Value)(hd: [gv,gs,gI,gF,gG,gJ,gO].Nodup)(fp:M->Option Int)(σ:Os)(lv:Value)(at_:Int)(dk:M)(no:Int)(ws:M)(w:World)(hat: -4000000000000000000<=at_/\at_<=4000000000000000000)(hws:ws.size<=1000)(pI:∀x∈cl,pR x)(yC:cn<=1000)(hlg:σ.lg.length<=99990)(hso:cA8 σ)(hfb:Few σ.fb 499)(hfh:Few σ.fh 499)(hpo:bH1 fp)(hm:gB ⟨0,w0,none, [269,9,3]⟩ (fun _=>True) [(go,98, [u0,H cA cn cc,u2,u3,u4,u5,u6,u7,u8,u9,jR,jS,jT,jU,jV,jW,.map (some gv),.map (some gs),.map (some gI),lv,.map (some gF),.map (some gG),.map (some gJ),.map (some gO),rv])] [⟨lv,181,5,σ.lg.length,σ.lg.flatMap eF⟩,⟨rv,178,2,rn,rx⟩] [cB vS dT w0.heap.size gv (V),cB vB dT w0.heap.size gs (T),cB rJ dT w0.heap.size gI (σ.fs),cB vB nN w0.heap.size gF (σ.fa),cB pX dT w0.heap.size gG (σ.fb),cB pZ dT w0.heap.size gJ (σ.fh),cB vI dT w0.heap.size gO (fp),gX 269 σ.fh,bT dQ 2 53 w0.heap.size none cA cn cl,TxtO w0.heap.size none] w):
 Calls prog 98 #[.pointer (some ⟨go,0,none⟩),.agg #[J at_,U dk,J no,U ws]] w (fun e w'=>∃lv' σ' fp' E,e=.returned (J E)/\(mK V T (fun b=>gC cl [b]=0) at_ σ σ'/\gR σ'=mN V T cl at_ ws (gR σ))/\bH1 fp'/\gB ⟨0,w0,none, [269,9,3]⟩ (fun _=>True) [(go,98, [u0,H cA cn cc,u2,u3,u4,u5,u6,u7,u8,u9,jR,jS,jT,jU,jV,jW,.map (some gv),.map (some gs),.map (some gI),lv',.map (some gF),.map (some gG),.map (some gJ),.map (some gO),rv])] [⟨lv',181,5,σ'.lg.length,σ'.lg.flatMap eF⟩,⟨rv,178,2,rn,rx⟩] [cB vS dT w0.heap.size gv (V),cB vB dT w0.heap.size gs (T),cB rJ dT w0.heap.size gI (σ'.fs),cB vB nN w0.heap.size gF (σ'.fa),cB pX dT w0.heap.size gG (σ'.fb),cB pZ dT w0.heap.size gJ (σ'.fh),cB vI dT w0.heap.size gO (fp'),gX 269 σ'.fh,bT dQ 2 53 w0.heap.size none cA cn cl,TxtO w0.heap.size none] w'):=by
 refine cY ⟨129,w0,none, [269,9,3]⟩ func98 D ntmps98 D hm.cy (bX (fS D D D fun g1=>cG D (bU ?_)))
 refine pB (γ:=Nat×M×Option Addr×Nat×Nat×Option Addr×Nat×Nat×Bool×List M×List Int) (I':=(fun (gq:Nat×M×Option Addr×Nat×Nat×Option Addr×Nat×Nat×Bool×List M×List Int)=>((gq.2.2.2.2.2.2.2.2.1=true->(∃fm,mV gq.2.1=some fm/\gq.2.2.2.1=cW fm fm.size/\gq.2.2.2.1+gq.2.2.2.2.2.2.1=fm.size)/\rI ws=some (gq.2.1,gq.2.2.2.2.2.2.2.2.2.1,gq.2.2.2.2.2.2.2.2.2.2))/\(gq.2.2.2.2.2.2.2.2.1=false->rI ws=none))/\((∀x∈gq.2.2.2.2.2.2.2.2.2.1,x.size<=1000)/\∀x∈gq.2.2.2.2.2.2.2.2.2.2, -1000000000<=x/\x<=1000000000)/\(gq.2.2.2.2.2.2.2.2.2.1.length=gq.2.2.2.1/\gq.2.2.2.2.2.2.2.2.2.2.length=gq.2.2.2.2.2.2.1)/\(0 < gq.2.2.2.1->∃b o,gq.2.2.1=some ⟨b,o,none⟩)/\(0 < gq.2.2.2.2.2.2.1->∃b o,gq.2.2.2.2.2.1=some ⟨b,o,none⟩))) (S':=(fun (gq:Nat×M×Option Addr×Nat×Nat×Option Addr×Nat×Nat×Bool×List M×List Int)=> [(0,.pointer (some ⟨go,0,none⟩)),(3,.pointer (some ⟨g1,0,none⟩)),(4,J 0),(5,.pointer (some ⟨gq.1,0,none⟩)),(6,.bool gq.2.2.2.2.2.2.2.2.1)])) (K':=(fun (gq:Nat×M×Option Addr×Nat×Nat×Option Addr×Nat×Nat×Bool×List M×List Int)=>fun _=>True)) (L':=(fun (gq:Nat×M×Option Addr×Nat×Nat×Option Addr×Nat×Nat×Bool×List M×List Int)=> [(gq.1,220, [U gq.2.1,H gq.2.2.1 gq.2.2.2.1 gq.2.2.2.2.1,H gq.2.2.2.2.2.1 gq.2.2.2.2.2.2.1 gq.2.2.2.2.2.2.2.1]),(g1,128, [J at_,U dk,J no,U ws]),(go,98, [u0,H cA cn cc,u2,u3,u4,u5,u6,u7,u8,u9,jR,jS,jT,jU,jV,jW,.map (some gv),.map (some gs),.map (some gI),lv,.map (some gF),.map (some gG),.map (some gJ),.map (some gO),rv])])) (O':=(fun (gq:Nat×M×Option Addr×Nat×Nat×Option Addr×Nat×Nat×Bool×List M×List Int)=> [⟨lv,181,5,σ.lg.length,σ.lg.flatMap eF⟩,⟨rv,178,2,rn,rx⟩])) (X':=(fun (gq:Nat×M×Option Addr×Nat×Nat×Option Addr×Nat×Nat×Bool×List M×List Int)=> [fun wy=>SlT dU 1 9 wy gq.2.2.1 gq.2.2.2.1 gq.2.2.2.2.2.2.2.2.2.1/\SlT kV 1 3 wy gq.2.2.2.2.2.1 gq.2.2.2.2.2.2.1 gq.2.2.2.2.2.2.2.2.2.2,cB vS dT w0.heap.size gv (V),cB vB dT w0.heap.size gs (T),cB rJ dT w0.heap.size gI (σ.fs),cB vB nN w0.heap.size gF (σ.fa),cB pX dT w0.heap.size gG (σ.fb),cB pZ dT w0.heap.size gJ (σ.fh),cB vI dT w0.heap.size gO (fp),gX 269 σ.fh,bT dQ 2 53 w0.heap.size none cA cn cl,TxtO w0.heap.size none])) ?_ ?_
 ·refine gd (fun wz=>Blk wz g1 128 [J at_,U dk,J no,U ws]/\True) mixed (fun _ hm=>⟨hm.bl 0,bB⟩) fun z=>?_
  refine wq 0 D (bW rK D D) (wq 1 D (cH fR D (fun _ hm=>hm.1) D) ?_)
  refine jC [2,7] bC D ⟨⟨_,D,?_⟩,⟨_,D,?_⟩,bB⟩
  ·refine fK (γ:=Nat) (val:=(fun g=> .map (some g))) (φ:=(fun g=>True)) (Y:=(fun g=>fun wy=>cB vS dT w0.heap.size g mV wy)) D eP8 D D (fun wx hm=>(cD4 wx).mono fun _ _ ⟨g,he,wG,hg⟩=>⟨g,he,bB,hg,wG.lower hm.g.size⟩) (fun _=>cB.lasts2) ?_
   rintro gf mO
   clear mO
   refine bH (nw 10 7 (fun _ hm=>⟨hm.bl 0,bB⟩) fun z=>?_)
   refine jC [3,7] bC D ⟨⟨_,D,?_⟩,⟨_,D,?_⟩,bB⟩
   ·refine fK (γ:=M×Option Addr×Nat×Nat×Option Addr×Nat×Nat×Bool×List M×List Int) (val:=(fun g=> .tuple #[.agg #[U g.1,H g.2.1 g.2.2.1 g.2.2.2.1,H g.2.2.2.2.1 g.2.2.2.2.2.1 g.2.2.2.2.2.2.1],.bool g.2.2.2.2.2.2.2.1])) (φ:=(fun g=>((g.2.2.2.2.2.2.2.1=true->(∃fm,mV g.1=some fm/\g.2.2.1=cW fm fm.size/\g.2.2.1+g.2.2.2.2.2.1=fm.size)/\rI ws=some (g.1,g.2.2.2.2.2.2.2.2.1,g.2.2.2.2.2.2.2.2.2))/\(g.2.2.2.2.2.2.2.1=false->rI ws=none))/\((∀x∈g.2.2.2.2.2.2.2.2.1,x.size<=1000)/\∀x∈g.2.2.2.2.2.2.2.2.2, -1000000000<=x/\x<=1000000000)/\(g.2.2.2.2.2.2.2.2.1.length=g.2.2.1/\g.2.2.2.2.2.2.2.2.2.length=g.2.2.2.2.2.1)/\(0 < g.2.2.1->∃b o,g.2.1=some ⟨b,o,none⟩)/\(0 < g.2.2.2.2.2.1->∃b o,g.2.2.2.2.1=some ⟨b,o,none⟩))) (Y:=(fun g=>fun wy=>SlT dU 1 9 wy g.2.1 g.2.2.1 g.2.2.2.2.2.2.2.2.1/\SlT kV 1 3 wy g.2.2.2.2.1 g.2.2.2.2.2.1 g.2.2.2.2.2.2.2.2.2)) D eD0 D D (fun wx hm=>(cK2 ws gf _ wx ((hm.fact 0 D)) (hm.fact 10 D).1 hws).mono fun _ _ ⟨wd,A,n1,c1,A2,n2,c2,ok,tl,nl,he,h1,h2,h3,hg⟩=>⟨(wd,A,n1,c1,A2,n2,c2,ok,tl,nl),he,⟨h1,h3,⟨h2.1.len,h2.2.len⟩,yO h2.1,yO h2.2⟩,hg,h2⟩) (fun _=>(Lasts2.and_ (SlT.lasts2 D) (SlT.lasts2 D))) ?_
    rintro ⟨wd,tA,tn,tc,nA,nn,nc,ok,tl,nl⟩ hph
    dsimp only at hph ⊢
    refine bH (nw 10 15 (fun _ hm=>⟨hm.bl 0,bB⟩) fun z=>wq 4 D (bL D) (wq 5 D (cV D D) (wq 6 D (cV D D) (eD 7 D (dM dL1 D fun g2=>bH (nw 10 255 (fun _ hm=>⟨hm.bl 1,bB⟩) fun z=>eD 8 D (kE (cs':= [U wd,H tA tn tc,H nA nn nc]) 0 uK D D D D (bH (nw 10 511 (fun _ hm=>⟨hm.bl 1,bB⟩) fun z=>wq 9 D (dB D) (gY ?_))))))))))
    exact fH (g2,wd,tA,tn,tc,nA,nn,nc,ok,tl,nl) hph ⟨D,D,D,D,D,bB⟩ (fun _ hm=>hm.pick [0,1,2] [0,1] [0,2,3,4,5,6,7,8,9,10,11] D D)
   refine dM dL1 D fun g3=>bH (nw 10 135 (fun _ hm=>⟨hm.bl 1,bB⟩) fun z=>eD 3 D ?_)
   refine fK (γ:=M×Option Addr×Nat×Nat×Option Addr×Nat×Nat×Bool×List M×List Int) (val:=(fun g=> .tuple #[.agg #[U g.1,H g.2.1 g.2.2.1 g.2.2.2.1,H g.2.2.2.2.1 g.2.2.2.2.2.1 g.2.2.2.2.2.2.1],.bool g.2.2.2.2.2.2.2.1])) (φ:=(fun g=>((g.2.2.2.2.2.2.2.1=true->(∃fm,mV g.1=some fm/\g.2.2.1=cW fm fm.size/\g.2.2.1+g.2.2.2.2.2.1=fm.size)/\rI ws=some (g.1,g.2.2.2.2.2.2.2.2.1,g.2.2.2.2.2.2.2.2.2))/\(g.2.2.2.2.2.2.2.1=false->rI ws=none))/\((∀x∈g.2.2.2.2.2.2.2.2.1,x.size<=1000)/\∀x∈g.2.2.2.2.2.2.2.2.2, -1000000000<=x/\x<=1000000000)/\(g.2.2.2.2.2.2.2.2.1.length=g.2.2.1/\g.2.2.2.2.2.2.2.2.2.length=g.2.2.2.2.2.1)/\(0 < g.2.2.1->∃b o,g.2.1=some ⟨b,o,none⟩)/\(0 < g.2.2.2.2.2.1->∃b o,g.2.2.2.2.1=some ⟨b,o,none⟩))) (Y:=(fun g=>fun wy=>SlT dU 1 9 wy g.2.1 g.2.2.1 g.2.2.2.2.2.2.2.2.1/\SlT kV 1 3 wy g.2.2.2.2.1 g.2.2.2.2.2.1 g.2.2.2.2.2.2.2.2.2)) D eD0 D D (fun wx hm=>(cK2 ws gf _ wx ((hm.fact 0 D)) (hm.fact 10 D).1 hws).mono fun _ _ ⟨wd,A,n1,c1,A2,n2,c2,ok,tl,nl,he,h1,h2,h3,hg⟩=>⟨(wd,A,n1,c1,A2,n2,c2,ok,tl,nl),he,⟨h1,h3,⟨h2.1.len,h2.2.len⟩,yO h2.1,yO h2.2⟩,hg,h2⟩) (fun _=>(Lasts2.and_ (SlT.lasts2 D) (SlT.lasts2 D))) ?_
   rintro ⟨wd,tA,tn,tc,nA,nn,nc,ok,tl,nl⟩ hph
   dsimp only at hph ⊢
   refine bH (nw 10 143 (fun _ hm=>⟨hm.bl 1,bB⟩) fun z=>wq 4 D (bL D) (wq 5 D (cV D D) (wq 6 D (cV D D) (eD 8 D (kE (cs':= [U wd,H tA tn tc,H nA nn nc]) 0 uK D D D D (bH (nw 10 511 (fun _ hm=>⟨hm.bl 1,bB⟩) fun z=>wq 9 D (dB D) (gY ?_))))))))
   exact fH (g3,wd,tA,tn,tc,nA,nn,nc,ok,tl,nl) hph ⟨D,D,D,D,D,bB⟩ (fun _ hm=>hm.pick [0,1,2] [0,1] [0,2,3,4,5,6,7,8,9,10,11] D D)
  refine dM dL1 D fun g4=>bH (nw 10 131 (fun _ hm=>⟨hm.bl 1,bB⟩) fun z=>eD 2 D ?_)
  refine fK (γ:=Nat) (val:=(fun g=> .map (some g))) (φ:=(fun g=>True)) (Y:=(fun g=>fun wy=>cB vS dT w0.heap.size g mV wy)) D eP8 D D (fun wx hm=>(cD4 wx).mono fun _ _ ⟨g,he,wG,hg⟩=>⟨g,he,bB,hg,wG.lower hm.g.size⟩) (fun _=>cB.lasts2) ?_
  rintro gf mO
  clear mO
  refine bH (nw 10 135 (fun _ hm=>⟨hm.bl 1,bB⟩) fun z=>eD 3 D ?_)
  refine fK (γ:=M×Option Addr×Nat×Nat×Option Addr×Nat×Nat×Bool×List M×List Int) (val:=(fun g=> .tuple #[.agg #[U g.1,H g.2.1 g.2.2.1 g.2.2.2.1,H g.2.2.2.2.1 g.2.2.2.2.2.1 g.2.2.2.2.2.2.1],.bool g.2.2.2.2.2.2.2.1])) (φ:=(fun g=>((g.2.2.2.2.2.2.2.1=true->(∃fm,mV g.1=some fm/\g.2.2.1=cW fm fm.size/\g.2.2.1+g.2.2.2.2.2.1=fm.size)/\rI ws=some (g.1,g.2.2.2.2.2.2.2.2.1,g.2.2.2.2.2.2.2.2.2))/\(g.2.2.2.2.2.2.2.1=false->rI ws=none))/\((∀x∈g.2.2.2.2.2.2.2.2.1,x.size<=1000)/\∀x∈g.2.2.2.2.2.2.2.2.2, -1000000000<=x/\x<=1000000000)/\(g.2.2.2.2.2.2.2.2.1.length=g.2.2.1/\g.2.2.2.2.2.2.2.2.2.length=g.2.2.2.2.2.1)/\(0 < g.2.2.1->∃b o,g.2.1=some ⟨b,o,none⟩)/\(0 < g.2.2.2.2.2.1->∃b o,g.2.2.2.2.1=some ⟨b,o,none⟩))) (Y:=(fun g=>fun wy=>SlT dU 1 9 wy g.2.1 g.2.2.1 g.2.2.2.2.2.2.2.2.1/\SlT kV 1 3 wy g.2.2.2.2.1 g.2.2.2.2.2.1 g.2.2.2.2.2.2.2.2.2)) D eD0 D D (fun wx hm=>(cK2 ws gf _ wx ((hm.fact 0 D)) (hm.fact 10 D).1 hws).mono fun _ _ ⟨wd,A,n1,c1,A2,n2,c2,ok,tl,nl,he,h1,h2,h3,hg⟩=>⟨(wd,A,n1,c1,A2,n2,c2,ok,tl,nl),he,⟨h1,h3,⟨h2.1.len,h2.2.len⟩,yO h2.1,yO h2.2⟩,hg,h2⟩) (fun _=>(Lasts2.and_ (SlT.lasts2 D) (SlT.lasts2 D))) ?_
  rintro ⟨wd,tA,tn,tc,nA,nn,nc,ok,tl,nl⟩ hph
  dsimp only at hph ⊢
  refine bH (nw 10 143 (fun _ hm=>⟨hm.bl 1,bB⟩) fun z=>wq 4 D (bL D) (wq 5 D (cV D D) (wq 6 D (cV D D) (eD 8 D (kE (cs':= [U wd,H tA tn tc,H nA nn nc]) 0 uK D D D D (bH (nw 10 511 (fun _ hm=>⟨hm.bl 1,bB⟩) fun z=>wq 9 D (dB D) (gY ?_))))))))
  exact fH (g4,wd,tA,tn,tc,nA,nn,nc,ok,tl,nl) hph ⟨D,D,D,D,D,bB⟩ (fun _ hm=>hm.pick [0,1,2] [0,1] [0,2,3,4,5,6,7,8,9,10,11] D D)
 rintro ⟨gT,wd,tA,tn,tc,nA,nn,nc,ok,tl,nl⟩ bZ
 replace bZ:((ok=true->(∃fm,mV wd=some fm/\tn=cW fm fm.size/\tn+nn=fm.size)/\rI ws=some (wd,tl,nl))/\(ok=false->rI ws=none))/\((∀x∈tl,x.size<=1000)/\∀x∈nl, -1000000000<=x/\x<=1000000000)/\(tl.length=tn/\nl.length=nn)/\(0 < tn->∃b o,tA=some ⟨b,o,none⟩)/\(0 < nn->∃b o,nA=some ⟨b,o,none⟩):=bZ
 dsimp only
 refine bJ (bX ?_)
 obtain ⟨hfo,⟨htz,hnz⟩,⟨htl,hnl⟩,hta,hna⟩:=bZ
 refine bS D (W (cS D) D (bU ?_))
 refine dE D (fun hh=>?_) (fun hh=>?_)
 ·have hz:ok=false:=by simpa using hh
  refine bX (cG D (bU (bR (F ?_))))
  have hsm:gR σ=mN V T cl at_ ws (gR σ):=(dH2 (hfo.2 (by simpa using hz))).symm
  exact bQ D D fun wx hm=>⟨lv,σ,fp,_,D,⟨.same σ,hsm⟩,hpo,(hm.pick [2] [0,1] [1,2,3,4,5,6,7,8,9,10] D D).cy⟩
 have hz:ok=true:=by simpa using hh
 refine bN (bG (bJ (bJ ?_)))
 have hok1:ok=true:=by simpa using hz
 obtain ⟨⟨fm,hf1,hf2,hf3⟩,hts⟩:=hfo.1 hok1
 have hfw:mN V T cl at_ ws (gR σ)=doA V T cl at_ (gR σ) wd tl nl:=cJ9 hts
 clear hts hfo
 refine cU6 (γ:=Unit) (fun _=>fun wy=>SlT dU 1 9 wy tA tn tl) (fun w hm=>⟨(),(hm.fact 0 D:(fun wy=>SlT dU 1 9 wy tA tn tl/\SlT kV 1 3 wy nA nn nl) w).1⟩) (fun _=>SlT.lasts2 D) fun _=>?_
 refine cU6 (γ:=Unit) (fun _=>fun wy=>SlT kV 1 3 wy nA nn nl) (fun w hm=>⟨(),(hm.fact 1 D:(fun wy=>SlT dU 1 9 wy tA tn tl/\SlT kV 1 3 wy nA nn nl) w).2⟩) (fun _=>SlT.lasts2 D) fun _=>?_
 rcases dI4 hf1 hf2 hf3 with ⟨kd,hkd,hkk,rfl,rfl⟩|⟨hkk,rfl,rfl⟩|⟨rfl,hkk,rfl,rfl⟩|⟨rfl,hkk,rfl,rfl⟩|⟨rfl,hkk,rfl,rfl⟩|⟨rfl,hkk,rfl,rfl⟩|⟨rfl,hkk,rfl,rfl⟩|⟨rfl,hkk,rfl,rfl⟩|⟨rfl,hkk,rfl,rfl⟩
 ·obtain ⟨x0,x1,rfl⟩:=eK6 htl
  obtain ⟨tb,uQ,htA⟩:=hta bD
  subst htA
  have hz0:x0.size<=1000:=htz _ (by simp)
  have hz1:x1.size<=1000:=htz _ (by simp)
  have hkb:1<=kd/\kd<=8/\kd≠6:=by simp at hkd;omega
  have hke:kd∈([1,4,5,6,7,8]:List Int):=by simp at hkd ⊢;omega
  have hdo:=hfw.trans (fV4 hkk hkb.2.2)
  refine gd (fun wz=>Blk wz gT 220 [U wd,H (some ⟨tb,uQ,none⟩) 2 tc,H nA 0 nc]/\True) mixed (fun _ hm=>⟨hm.bl 0,bB⟩) fun z=>wq 1 D (bW mM D D) (wq 2 D (cH fR D (fun _ hm=>hm.1) D) (eD 0 D ?_))
  refine fK (γ:=Nat) (val:=(fun g=> .map (some g))) (φ:=(fun g=>True)) (Y:=(fun g=>fun wy=>cB vI dT w0.heap.size g gM wy)) D bR4 D D (fun wx hm=>(qW wx).mono fun _ _ ⟨g,he,wG,hg⟩=>⟨g,he,bB,hg,wG.lower hm.g.size⟩) (fun _=>cB.lasts2) ?_
  rintro gk mO
  clear mO
  refine bH (nw 9 7 (fun _ hm=>⟨hm.bl 0,bB⟩) fun z=>eD 3 D (W (hU (enc:=vI) (ek:=dT) (s:=wd) (e:=3) (0:Int) kC bC bC D D (fun _ hm=>(hm.fact 0 D))) D (bH (nw 9 15 (fun _ hm=>⟨hm.bl 0,bB⟩) fun z=>wq 4 D (bL D) (wq 5 D (cV D D) (dI 26 (v':=J kd) D (congrArg vI (by rw [hkk];rfl)) (wq 6 D (cV D D) (dI 27 (v':= .bool true) D (fW9 (by rw [hkk];rfl)) (wq 7 D (dB D) (wq 8 D (dB D) (gY (bG (bX (bS D (bU (mT D (bJ (gd (fun wz=>Blk wz gT 220 [U wd,H (some ⟨tb,uQ,none⟩) 2 tc,H nA 0 nc]/\Blk wz g1 128 [J at_,U dk,J no,U ws]/\(fun wy=>SlT dU 1 9 wy (some ⟨tb,uQ,none⟩) 2 [x0,x1]) wz/\True) mixed (fun _ hm=>⟨hm.bl 0,hm.bl 1,hm.fa 2,bB⟩) fun z=>wq 0 D (bW mZ D D) (wq 1 D (cH fM D (fun _ hm=>hm.2.1) D) (wq 2 D (bW kT D D) (wq 3 D (cH rX D (fun _ hm=>hm.1) D) (wq 4 D (bV (j:=0) mD D D G) (wq 5 D (dH (k:=0) (v:=U x0) fR D (fun _ hm=>(hm.2.2.1)) (D: [x0,x1][0]?=some x0) D D) (wq 6 D (bW kT D D) (wq 7 D (cH rX D (fun _ hm=>hm.1) D) (wq 8 D (bV (j:=1) mD D D G) ?_))))))))))))))))))))))))))
  refine wq 9 D (dH (k:=0) (v:=U x1) fR D (fun _ hm=>(hm.2.2.1)) (D: [x0,x1][1]?=some x1) D D) (wq 10 D (bL D) (wq 11 D (dL (cs:= [J at_,U x0,U x1,J kd,U ⟨#[]⟩]) D bC) (eD 12 D (dM bO6 D fun g5=>bH (nw 14 8191 (fun _ hm=>⟨hm.bl 1,hm.bl 2,hm.fa 2,bB⟩) fun z=>eD 13 D (kE (cs':= [J at_,U x0,U x1,J kd,U ⟨#[]⟩]) 0 fE D D D D (bH (nw 14 16383 (fun _ hm=>⟨hm.bl 1,hm.bl 2,hm.fa 2,bB⟩) fun z=>gY (bG (bJ (bX (bS D (W (eT D D) D (bO 42 (v':= .bool false) D (fW9 (decide_eq_false hkb.2.2)) (bU (jK D (bN (bG (bX (bS D (W (dG fE D (fun _ hm=>hm.blkI 0 D) D D) D ?_)))))))))))))))))))))
  refine fW (γ:=Value×Os×(M->Option Int)×Int) (val:=fun q=>J q.2.2.2) (φ:=(fun (q:Value×Os×(M->Option Int)×Int)=>(mK V T (fun b=>gC cl [b]=0) at_ σ q.2.1/\gR q.2.1=mN V T cl at_ ws (gR σ))/\bH1 q.2.2.1)) (K':=fun _=>fun _=>True) (L':=(fun (q:Value×Os×(M->Option Int)×Int)=> [(go,98, [u0,H cA cn cc,u2,u3,u4,u5,u6,u7,u8,u9,jR,jS,jT,jU,jV,jW,.map (some gv),.map (some gs),.map (some gI),q.1,.map (some gF),.map (some gG),.map (some gJ),.map (some gO),rv])])) (O':=(fun (q:Value×Os×(M->Option Int)×Int)=> [⟨q.1,181,5,q.2.1.lg.length,q.2.1.lg.flatMap eF⟩,⟨rv,178,2,rn,rx⟩])) (X':=(fun (q:Value×Os×(M->Option Int)×Int)=> [cB vS dT w0.heap.size gv (V),cB vB dT w0.heap.size gs (T),cB rJ dT w0.heap.size gI (q.2.1.fs),cB vB nN w0.heap.size gF (q.2.1.fa),cB pX dT w0.heap.size gG (q.2.1.fb),cB pZ dT w0.heap.size gJ (q.2.1.fh),cB vI dT w0.heap.size gO (q.2.2.1),gX 269 q.2.1.fh,bT dQ 2 53 w0.heap.size none cA cn cl,TxtO w0.heap.size none])) D eQ8 D D (fun wx hm=>(cA4 w0 u0 u2 u3 u4 u5 u6 u7 u8 u9 jR jS jT jU jV jW go gv gs gI gF gG gJ gO cA cn cc cl V T rv rn rx hd (fun b=>gC cl [b]=0) fp σ lv at_ x0 x1 kd ⟨#[]⟩ wx G ⟨hat,⟨bE,bE⟩,bE,bE,by show (⟨#[]⟩:M).size<=1000000;decide⟩ hke (fun _=>D) (hm.pick [3] [0,1] [4,5,6,7,8,9,10,11,12,13] D D).cy).mono fun _ _ ⟨rC,σ2,E,he,h1,wG⟩=>⟨(rC,σ2,fp,E),he,⟨⟨h1.1,h1.2.trans hdo.symm⟩,hpo⟩,wG.cy⟩) ?_
  rintro ⟨rC,σ2,fp2,E2⟩ hst
  dsimp only at hst ⊢
  refine cG D (bU (bR (F ?_)))
  exact bQ D D fun wx hm=>⟨rC,σ2,fp2,E2,D,hst.1,hst.2,(hm.pick [0] [0,1] [0,1,2,3,4,5,6,7,8,9] D D).cy⟩
 ·obtain ⟨x0,x1,x2,rfl⟩:=eL6 htl
  obtain ⟨tb,uQ,htA⟩:=hta bD
  subst htA
  have hz0:x0.size<=1000:=htz _ (by simp)
  have hz1:x1.size<=1000:=htz _ (by simp)
  have hz2:x2.size<=1000:=htz _ (by simp)
  have hdo:=hfw.trans (eV0 hkk)
  refine gd (fun wz=>Blk wz gT 220 [U wd,H (some ⟨tb,uQ,none⟩) 3 tc,H nA 0 nc]/\True) mixed (fun _ hm=>⟨hm.bl 0,bB⟩) fun z=>wq 1 D (bW mM D D) (wq 2 D (cH fR D (fun _ hm=>hm.1) D) (eD 0 D ?_))
  refine fK (γ:=Nat) (val:=(fun g=> .map (some g))) (φ:=(fun g=>True)) (Y:=(fun g=>fun wy=>cB vI dT w0.heap.size g gM wy)) D bR4 D D (fun wx hm=>(qW wx).mono fun _ _ ⟨g,he,wG,hg⟩=>⟨g,he,bB,hg,wG.lower hm.g.size⟩) (fun _=>cB.lasts2) ?_
  rintro gk mO
  clear mO
  refine bH (nw 9 7 (fun _ hm=>⟨hm.bl 0,bB⟩) fun z=>eD 3 D (W (hU (enc:=vI) (ek:=dT) (s:=wd) (e:=3) (0:Int) kC bC bC D D (fun _ hm=>(hm.fact 0 D))) D (bH (nw 9 15 (fun _ hm=>⟨hm.bl 0,bB⟩) fun z=>wq 4 D (bL D) (wq 5 D (cV D D) (dI 26 (v':=J 6) D (congrArg vI (by rw [hkk];rfl)) (wq 6 D (cV D D) (dI 27 (v':= .bool true) D (fW9 (by rw [hkk];rfl)) (wq 7 D (dB D) (wq 8 D (dB D) (gY (bG (bX (bS D (bU (mT D (bJ (gd (fun wz=>Blk wz gT 220 [U wd,H (some ⟨tb,uQ,none⟩) 3 tc,H nA 0 nc]/\Blk wz g1 128 [J at_,U dk,J no,U ws]/\(fun wy=>SlT dU 1 9 wy (some ⟨tb,uQ,none⟩) 3 [x0,x1,x2]) wz/\True) mixed (fun _ hm=>⟨hm.bl 0,hm.bl 1,hm.fa 2,bB⟩) fun z=>wq 0 D (bW mZ D D) (wq 1 D (cH fM D (fun _ hm=>hm.2.1) D) (wq 2 D (bW kT D D) (wq 3 D (cH rX D (fun _ hm=>hm.1) D) (wq 4 D (bV (j:=0) mD D D G) (wq 5 D (dH (k:=0) (v:=U x0) fR D (fun _ hm=>(hm.2.2.1)) (D: [x0,x1,x2][0]?=some x0) D D) (wq 6 D (bW kT D D) (wq 7 D (cH rX D (fun _ hm=>hm.1) D) (wq 8 D (bV (j:=1) mD D D G) ?_))))))))))))))))))))))))))
  refine wq 9 D (dH (k:=0) (v:=U x1) fR D (fun _ hm=>(hm.2.2.1)) (D: [x0,x1,x2][1]?=some x1) D D) (wq 10 D (bL D) (wq 11 D (dL (cs:= [J at_,U x0,U x1,J 6,U ⟨#[]⟩]) D bC) (eD 12 D (dM bO6 D fun g6=>bH (nw 14 8191 (fun _ hm=>⟨hm.bl 1,hm.bl 2,hm.fa 2,bB⟩) fun z=>eD 13 D (kE (cs':= [J at_,U x0,U x1,J 6,U ⟨#[]⟩]) 0 fE D D D D (bH (nw 14 16383 (fun _ hm=>⟨hm.bl 1,hm.bl 2,hm.fa 2,bB⟩) fun z=>gY (bG (bJ (bX (bS D (W (eT D D) D (bO 42 (v':= .bool true) D (D) (bU (mT D (bM (dZ kT D D (eO rX 1 D D D (W (bV (j:=2) mD D D G) D (W (dH (k:=0) (v:=U x2) fR D (fun _ hm=>(hm.fact 2 D)) (D: [x0,x1,x2][2]?=some x2) D D) D (dZ zD D D (fX 0 fR D D D D D D (bU (bX (bS D ?_))))))))))))))))))))))))))
  refine W (dG fE D (fun _ hm=>hm.blkI 0 D) D D) D ?_
  refine fW (γ:=Value×Os×(M->Option Int)×Int) (val:=fun q=>J q.2.2.2) (φ:=(fun (q:Value×Os×(M->Option Int)×Int)=>(mK V T (fun b=>gC cl [b]=0) at_ σ q.2.1/\gR q.2.1=mN V T cl at_ ws (gR σ))/\bH1 q.2.2.1)) (K':=fun _=>fun _=>True) (L':=(fun (q:Value×Os×(M->Option Int)×Int)=> [(go,98, [u0,H cA cn cc,u2,u3,u4,u5,u6,u7,u8,u9,jR,jS,jT,jU,jV,jW,.map (some gv),.map (some gs),.map (some gI),q.1,.map (some gF),.map (some gG),.map (some gJ),.map (some gO),rv])])) (O':=(fun (q:Value×Os×(M->Option Int)×Int)=> [⟨q.1,181,5,q.2.1.lg.length,q.2.1.lg.flatMap eF⟩,⟨rv,178,2,rn,rx⟩])) (X':=(fun (q:Value×Os×(M->Option Int)×Int)=> [cB vS dT w0.heap.size gv (V),cB vB dT w0.heap.size gs (T),cB rJ dT w0.heap.size gI (q.2.1.fs),cB vB nN w0.heap.size gF (q.2.1.fa),cB pX dT w0.heap.size gG (q.2.1.fb),cB pZ dT w0.heap.size gJ (q.2.1.fh),cB vI dT w0.heap.size gO (q.2.2.1),gX 269 q.2.1.fh,bT dQ 2 53 w0.heap.size none cA cn cl,TxtO w0.heap.size none])) D eQ8 D D (fun wx hm=>(cA4 w0 u0 u2 u3 u4 u5 u6 u7 u8 u9 jR jS jT jU jV jW go gv gs gI gF gG gJ gO cA cn cc cl V T rv rn rx hd (fun b=>gC cl [b]=0) fp σ lv at_ x0 x1 6 x2 wx G ⟨hat,⟨bE,bE⟩,bE,bE,bE⟩ bD (fun h=>absurd D h) (hm.pick [3] [0,1] [4,5,6,7,8,9,10,11,12,13] D D).cy).mono fun _ _ ⟨rC,σ2,E,he,h1,wG⟩=>⟨(rC,σ2,fp,E),he,⟨⟨h1.1,h1.2.trans hdo.symm⟩,hpo⟩,wG.cy⟩) ?_
  rintro ⟨rC,σ2,fp2,E2⟩ hst
  dsimp only at hst ⊢
  refine cG D (bU (bR (F ?_)))
  exact bQ D D fun wx hm=>⟨rC,σ2,fp2,E2,D,hst.1,hst.2,(hm.pick [0] [0,1] [0,1,2,3,4,5,6,7,8,9] D D).cy⟩
 ·obtain ⟨x0,x1,rfl⟩:=eK6 htl
  obtain ⟨tb,uQ,htA⟩:=hta bD
  subst htA
  obtain ⟨y0,y1,y2,rfl⟩:=eL6 hnl
  obtain ⟨nb,yM,hnA⟩:=hna bD
  subst hnA
  have hz0:x0.size<=1000:=htz _ (by simp)
  have hz1:x1.size<=1000:=htz _ (by simp)
  have hdo:=hfw.trans eL5
  refine gd (fun wz=>Blk wz gT 220 [U ⟨#[98,111,111,107]⟩,H (some ⟨tb,uQ,none⟩) 2 tc,H (some ⟨nb,yM,none⟩) 3 nc]/\True) mixed (fun _ hm=>⟨hm.bl 0,bB⟩) fun z=>wq 1 D (bW mM D D) (wq 2 D (cH fR D (fun _ hm=>hm.1) D) (eD 0 D ?_))
  refine fK (γ:=Nat) (val:=(fun g=> .map (some g))) (φ:=(fun g=>True)) (Y:=(fun g=>fun wy=>cB vI dT w0.heap.size g gM wy)) D bR4 D D (fun wx hm=>(qW wx).mono fun _ _ ⟨g,he,wG,hg⟩=>⟨g,he,bB,hg,wG.lower hm.g.size⟩) (fun _=>cB.lasts2) ?_
  rintro gk mO
  clear mO
  refine bH (nw 9 7 (fun _ hm=>⟨hm.bl 0,bB⟩) fun z=>eD 3 D (W (hU (enc:=vI) (ek:=dT) (s:=⟨#[98,111,111,107]⟩) (e:=3) (0:Int) kC bC bC D D (fun _ hm=>(hm.fact 0 D))) D (bH (nw 9 15 (fun _ hm=>⟨hm.bl 0,bB⟩) fun z=>wq 4 D (bL D) (wq 5 D (cV D D) (dI 26 (v':=J 0) D (congrArg vI (by rw [hkk];rfl)) (wq 6 D (cV D D) (dI 27 (v':= .bool false) D (fW9 (by rw [hkk];rfl)) (wq 7 D (dB D) (wq 8 D (dB D) (gY (bG (bX (bS D (bU (jK D (bN (bG (bJ (bX (dZ mM D D (eO fR 0 D D D (bU (bP (bX (W (eS D D) D (bO 54 (v':= .bool true) D (fW9 (by rw [nM];decide)) ?_)))))))))))))))))))))))))))
  refine cG D (bU (mT D (bJ (gd (fun wz=>Blk wz gT 220 [U ⟨#[98,111,111,107]⟩,H (some ⟨tb,uQ,none⟩) 2 tc,H (some ⟨nb,yM,none⟩) 3 nc]/\Blk wz g1 128 [J at_,U dk,J no,U ws]/\(fun wy=>SlT kV 1 3 wy (some ⟨nb,yM,none⟩) 3 [y0,y1,y2]) wz/\(fun wy=>SlT dU 1 9 wy (some ⟨tb,uQ,none⟩) 2 [x0,x1]) wz/\True) mixed (fun _ hm=>⟨hm.bl 0,hm.bl 1,hm.fa 1,hm.fa 2,bB⟩) fun z=>wq 0 D (bL D) (wq 1 D (bW kT D D) (wq 2 D (cH rX D (fun _ hm=>hm.1) D) (wq 3 D (bV (j:=0) mD D D G) (wq 4 D (dH (k:=0) (v:=U x0) fR D (fun _ hm=>(hm.2.2.2.1)) (D: [x0,x1][0]?=some x0) D D) (wq 5 D (bW kT D D) (wq 6 D (cH rX D (fun _ hm=>hm.1) D) (wq 7 D (bV (j:=1) mD D D G) (wq 8 D (dH (k:=0) (v:=U x1) fR D (fun _ hm=>(hm.2.2.2.1)) (D: [x0,x1][1]?=some x1) D D) (wq 9 D (bW nT D D) (wq 10 D (cH kY D (fun _ hm=>hm.1) D) (wq 11 D (bV (j:=0) kF D D G) (wq 12 D (dH (k:=0) (v:=J y0) fM D (fun _ hm=>(hm.2.2.1)) (D: [y0,y1,y2][0]?=some y0) D D) (wq 13 D (bW nT D D) (wq 14 D (cH kY D (fun _ hm=>hm.1) D) (wq 15 D (bV (j:=1) kF D D G) (wq 16 D (dH (k:=0) (v:=J y1) fM D (fun _ hm=>(hm.2.2.1)) (D: [y0,y1,y2][1]?=some y1) D D) (wq 17 D (dL (cs:= [J y0,J y1]) D bC) (wq 18 D (bW mZ D D) (wq 19 D (cH fM D (fun _ hm=>hm.2.1) D) (wq 20 D (bW nT D D) (wq 21 D (cH kY D (fun _ hm=>hm.1) D) (wq 22 D (bV (j:=2) kF D D G) (wq 23 D (dH (k:=0) (v:=J y2) fM D (fun _ hm=>(hm.2.2.1)) (D: [y0,y1,y2][2]?=some y2) D D) (wq 24 D (dL (cs:= [U x0,U x1,J y0,J y1,J at_,J y2]) D bC) ?_))))))))))))))))))))))))))))
  refine eD 25 D ?_
  refine fW (γ:=Value×Os×(M->Option Int)×Int) (val:=fun q=>J q.2.2.2) (φ:=(fun (q:Value×Os×(M->Option Int)×Int)=>(mK V T (fun b=>gC cl [b]=0) at_ σ q.2.1/\gR q.2.1=mN V T cl at_ ws (gR σ))/\bH1 q.2.2.1)) (K':=fun _=>fun _=>True) (L':=(fun (q:Value×Os×(M->Option Int)×Int)=> [(go,98, [u0,H cA cn cc,u2,u3,u4,u5,u6,u7,u8,u9,jR,jS,jT,jU,jV,jW,.map (some gv),.map (some gs),.map (some gI),q.1,.map (some gF),.map (some gG),.map (some gJ),.map (some gO),rv]),(gT,220, [U ⟨#[98,111,111,107]⟩,H (some ⟨tb,uQ,none⟩) 2 tc,H (some ⟨nb,yM,none⟩) 3 nc]),(g1,128, [J at_,U dk,J no,U ws])])) (O':=(fun (q:Value×Os×(M->Option Int)×Int)=> [⟨q.1,181,5,q.2.1.lg.length,q.2.1.lg.flatMap eF⟩,⟨rv,178,2,rn,rx⟩])) (X':=(fun (q:Value×Os×(M->Option Int)×Int)=> [cB vS dT w0.heap.size gv (V),cB vB dT w0.heap.size gs (T),cB rJ dT w0.heap.size gI (q.2.1.fs),cB vB nN w0.heap.size gF (q.2.1.fa),cB pX dT w0.heap.size gG (q.2.1.fb),cB pZ dT w0.heap.size gJ (q.2.1.fh),cB vI dT w0.heap.size gO (q.2.2.1),gX 269 q.2.1.fh,bT dQ 2 53 w0.heap.size none cA cn cl,TxtO w0.heap.size none,fun wy=>SlT dU 1 9 wy (some ⟨tb,uQ,none⟩) 2 [x0,x1],fun wy=>SlT kV 1 3 wy (some ⟨nb,yM,none⟩) 3 [y0,y1,y2]])) D fU3 D D (fun wx hm=>(dZ9 w0 u0 u2 u3 u4 u5 u6 u7 u8 u9 jR jS jT jU jV jW go gv gs gI gF gG gJ gO cA cn cc cl V T rv rn rx hd gT g1 _ _ _ _ SlT.mfar SlT.mfar fp σ lv at_ x0 x1 y0 y1 at_ y2 wx ⟨bE,bE⟩ pI yC hfb (hm.pick [2,0,1] [0,1] [4,5,6,7,8,9,10,11,12,13,2,1] D D).cy).mono fun _ _ ⟨rC,σ2,E,he,h1,wG⟩=>⟨(rC,σ2,fp,E),he,⟨⟨h1.1,h1.2.trans hdo.symm⟩,hpo⟩,wG.cy⟩) ?_
  rintro ⟨rC,σ2,fp2,E2⟩ hst
  dsimp only at hst ⊢
  refine bH (nw 27 67108863 (fun _ hm=>⟨hm.bl 1,hm.bl 2,hm.fa 11,hm.fa 10,bB⟩) fun z=>wq 26 D (dB D) (gY (bG (bR (C (F ?_))))))
  exact bQ D D fun wx hm=>⟨rC,σ2,fp2,E2,D,hst.1,hst.2,(hm.pick [0] [0,1] [0,1,2,3,4,5,6,7,8,9] D D).cy⟩
 ·obtain ⟨x0,rfl⟩:=eG2 htl
  obtain ⟨tb,uQ,htA⟩:=hta bD
  subst htA
  have hz0:x0.size<=1000:=htz _ (by simp)
  have hdo:=hfw.trans dA7
  obtain ⟨isb,hisb⟩:∃z,z=(σ.fb x0).isSome:=⟨_,rfl⟩
  obtain ⟨xb,hxb⟩:∃z,z=(σ.fb x0).getD bk0:=⟨_,rfl⟩
  obtain ⟨c0,c1,c2,c3,c4,c5⟩:=xb
  refine gd (fun wz=>Blk wz gT 220 [U ⟨#[99,97,110,99,101,108]⟩,H (some ⟨tb,uQ,none⟩) 1 tc,H nA 0 nc]/\True) mixed (fun _ hm=>⟨hm.bl 0,bB⟩) fun z=>wq 1 D (bW mM D D) (wq 2 D (cH fR D (fun _ hm=>hm.1) D) (eD 0 D ?_))
  refine fK (γ:=Nat) (val:=(fun g=> .map (some g))) (φ:=(fun g=>True)) (Y:=(fun g=>fun wy=>cB vI dT w0.heap.size g gM wy)) D bR4 D D (fun wx hm=>(qW wx).mono fun _ _ ⟨g,he,wG,hg⟩=>⟨g,he,bB,hg,wG.lower hm.g.size⟩) (fun _=>cB.lasts2) ?_
  rintro gk mO
  clear mO
  refine bH (nw 9 7 (fun _ hm=>⟨hm.bl 0,bB⟩) fun z=>eD 3 D (W (hU (enc:=vI) (ek:=dT) (s:=⟨#[99,97,110,99,101,108]⟩) (e:=3) (0:Int) kC bC bC D D (fun _ hm=>(hm.fact 0 D))) D (bH (nw 9 15 (fun _ hm=>⟨hm.bl 0,bB⟩) fun z=>wq 4 D (bL D) (wq 5 D (cV D D) (dI 26 (v':=J 0) D (congrArg vI (by rw [hkk];rfl)) (wq 6 D (cV D D) (dI 27 (v':= .bool false) D (fW9 (by rw [hkk];rfl)) (wq 7 D (dB D) (wq 8 D (dB D) (gY (bG (bX (bS D (bU (jK D (bN (bG (bJ (bX (dZ mM D D (eO fR 0 D D D (bU (bP (bX (W (eS D D) D (bO 54 (v':= .bool false) D (fW9 (by rw [nM];decide)) ?_)))))))))))))))))))))))))))
  refine cG D (bU (jK D (bX (W (eS D D) D (bO 82 (v':= .bool true) D (fW9 (by rw [nM];decide)) (cG D (bU (mT D (bJ (bJ (gd (fun wz=>Blk wz gT 220 [U ⟨#[99,97,110,99,101,108]⟩,H (some ⟨tb,uQ,none⟩) 1 tc,H nA 0 nc]/\Blk wz go 98 [u0,H cA cn cc,u2,u3,u4,u5,u6,u7,u8,u9,jR,jS,jT,jU,jV,jW,.map (some gv),.map (some gs),.map (some gI),lv,.map (some gF),.map (some gG),.map (some gJ),.map (some gO),rv]/\(fun wy=>SlT dU 1 9 wy (some ⟨tb,uQ,none⟩) 1 [x0]) wz/\(cB pX dT w0.heap.size gG (σ.fb)) wz/\True) mixed (fun _ hm=>⟨hm.bl 0,hm.bl 2,hm.fa 2,hm.fa 8,bB⟩) fun z=>wq 0 D (bL D) (wq 1 D (cU D) (wq 2 D (bW bW3 D D) (wq 3 D (cH dT3 D (fun _ hm=>hm.2.1) D) (wq 4 D (bW kT D D) (wq 5 D (cH rX D (fun _ hm=>hm.1) D) (wq 6 D (bV (j:=0) mD D D G) (wq 7 D (dH (k:=0) (v:=U x0) fR D (fun _ hm=>(hm.2.2.1)) (D: [x0][0]?=some x0) D D) (wq 8 D (hU (enc:=pX) (ek:=dT) (s:=x0) (e:=87) bk0 kC bC bC D D (fun _ hm=>(hm.2.2.2.1))) (wq 9 D (bL D) (wq 10 D (cV D D) (dI 93 (v':= .agg #[U c0,U c1,J c2,J c3,J c4,J c5]) D (congrArg pX hxb.symm) (wq 11 D (cV D D) (dI 94 (v':= .bool isb) D (fW9 hisb.symm) (eD 12 D (dM dM1 D fun g7=>bH (nw 15 8191 (fun _ hm=>⟨hm.bl 1,hm.bl 3,hm.fa 2,hm.fa 8,bB⟩) fun z=>?_)))))))))))))))))))))))))))
  refine eD 13 D (kE (cs':= [U c0,U c1,J c2,J c3,J c4,J c5]) 0 bZ1 D D D D (bH (nw 15 16383 (fun _ hm=>⟨hm.bl 1,hm.bl 3,hm.fa 2,hm.fa 8,bB⟩) fun z=>wq 14 D (dB D) (gY (bG (bX (bS D (W (cS D) D (bU ?_)))))))))
  refine dE D (fun hh=>?_) (fun hh=>?_)
  ·have hq:isb=false:=by simpa using hh
   refine bX (cG D (bU (bR (F (C (F ?_))))))
   have hnb:σ.fb x0=none:=by
    have h9:isb=false:=by simpa using hq
    rw [h9] at hisb
    cases hf9:σ.fb x0 with
    |none=>rfl
    |some y=>rw [hf9] at hisb;cases hisb
   have hsm:gR σ=mN V T cl at_ ws (gR σ):=by
    rw [hdo]
    show gR σ=(⟨_,_,zO σ.fb x0,_,_⟩:As)
    rw [dP7 hnb];rfl
   exact bQ D D fun wx hm=>⟨lv,σ,fp,_,D,⟨.same σ,hsm⟩,hpo,(hm.pick [3] [0,1] [4,5,6,7,8,9,10,11,12,13] D D).cy⟩
  have hq:isb=true:=by simpa using hh
  refine bN (bG (bJ (gd (fun wz=>Blk wz gT 220 [U ⟨#[99,97,110,99,101,108]⟩,H (some ⟨tb,uQ,none⟩) 1 tc,H nA 0 nc]/\Blk wz go 98 [u0,H cA cn cc,u2,u3,u4,u5,u6,u7,u8,u9,jR,jS,jT,jU,jV,jW,.map (some gv),.map (some gs),.map (some gI),lv,.map (some gF),.map (some gG),.map (some gJ),.map (some gO),rv]/\(fun wy=>SlT dU 1 9 wy (some ⟨tb,uQ,none⟩) 1 [x0]) wz/\True) mixed (fun _ hm=>⟨hm.bl 1,hm.bl 3,hm.fa 2,bB⟩) fun z=>wq 0 D (bL D) (wq 1 D (cU D) (wq 2 D (bW bW3 D D) (wq 3 D (cH dT3 D (fun _ hm=>hm.2.1) D) (wq 4 D (bW kT D D) (wq 5 D (cH rX D (fun _ hm=>hm.1) D) (wq 6 D (bV (j:=0) mD D D G) (wq 7 D (dH (k:=0) (v:=U x0) fR D (fun _ hm=>(hm.2.2.1)) (D: [x0][0]?=some x0) D D) (eD 8 D ?_)))))))))))
  refine cP2 (enc:=pX) (ek:=dT) (s:=x0) (e:=87) (X':= [fun wy=>SlT kV 1 3 wy nA 0 nl,fun wy=>SlT dU 1 9 wy (some ⟨tb,uQ,none⟩) 1 [x0],cB vS dT w0.heap.size gv (V),cB vB dT w0.heap.size gs (T),cB rJ dT w0.heap.size gI (σ.fs),cB vB nN w0.heap.size gF (σ.fa),cB pZ dT w0.heap.size gJ (σ.fh),cB vI dT w0.heap.size gO (fp),gX 269 σ.fh,bT dQ 2 53 w0.heap.size none cA cn cl,TxtO w0.heap.size none]) 8 kC bC D D D D (cX (i:=1) SlT.mfar.far D (cX (i:=2) SlT.mfar.far D (cX (i:=4) (cB.farK (gW hd (i:=0) (j:=4) D D bD)) D (cX (i:=5) (cB.farK (gW hd (i:=1) (j:=4) D D bD)) D (cX (i:=6) (cB.farK (gW hd (i:=2) (j:=4) D D bD)) D (cX (i:=7) (cB.farK (gW hd (i:=3) (j:=4) D D bD)) D (cX (i:=9) (cB.farK (gW hd (i:=5) (j:=4) D D bD)) D (cX (i:=10) (cB.farK (gW hd (i:=6) (j:=4) D D bD)) D (cX (i:=11) (gX.mfar).far D (cX (i:=12) (bT.mfar).far D (cX (i:=13) (TxtO.mfar).far D gK))))))))))) ?_
  refine bH (nw 9 511 (fun _ hm=>⟨hm.bl 1,hm.bl 3,hm.fa 2,bB⟩) fun z=>gY (bG (bX (cG D (bU (bR (C (F ?_))))))))
  exact bQ D D fun wx hm=>⟨lv,_,fp,_,D,⟨.cancel σ x0,hdo.symm⟩,hpo,(hm.pick [3] [0,1] [3,4,5,6,0,7,8,9,10,11] D D).cy⟩
 ·obtain ⟨x0,x1,x2,x3,rfl⟩:=fK5 htl
  obtain ⟨tb,uQ,htA⟩:=hta bD
  subst htA
  obtain ⟨y0,y1,y2,rfl⟩:=eL6 hnl
  obtain ⟨nb,yM,hnA⟩:=hna bD
  subst hnA
  have hz0:x0.size<=1000:=htz _ (by simp)
  have hz1:x1.size<=1000:=htz _ (by simp)
  have hz2:x2.size<=1000:=htz _ (by simp)
  have hz3:x3.size<=1000:=htz _ (by simp)
  have hdo:=hfw.trans eW0
  refine gd (fun wz=>Blk wz gT 220 [U ⟨#[115,116,97,114,116]⟩,H (some ⟨tb,uQ,none⟩) 4 tc,H (some ⟨nb,yM,none⟩) 3 nc]/\True) mixed (fun _ hm=>⟨hm.bl 0,bB⟩) fun z=>wq 1 D (bW mM D D) (wq 2 D (cH fR D (fun _ hm=>hm.1) D) (eD 0 D ?_))
  refine fK (γ:=Nat) (val:=(fun g=> .map (some g))) (φ:=(fun g=>True)) (Y:=(fun g=>fun wy=>cB vI dT w0.heap.size g gM wy)) D bR4 D D (fun wx hm=>(qW wx).mono fun _ _ ⟨g,he,wG,hg⟩=>⟨g,he,bB,hg,wG.lower hm.g.size⟩) (fun _=>cB.lasts2) ?_
  rintro gk mO
  clear mO
  refine bH (nw 9 7 (fun _ hm=>⟨hm.bl 0,bB⟩) fun z=>eD 3 D (W (hU (enc:=vI) (ek:=dT) (s:=⟨#[115,116,97,114,116]⟩) (e:=3) (0:Int) kC bC bC D D (fun _ hm=>(hm.fact 0 D))) D (bH (nw 9 15 (fun _ hm=>⟨hm.bl 0,bB⟩) fun z=>wq 4 D (bL D) (wq 5 D (cV D D) (dI 26 (v':=J 0) D (congrArg vI (by rw [hkk];rfl)) (wq 6 D (cV D D) (dI 27 (v':= .bool false) D (fW9 (by rw [hkk];rfl)) (wq 7 D (dB D) (wq 8 D (dB D) (gY (bG (bX (bS D (bU (jK D (bN (bG (bJ (bX (dZ mM D D (eO fR 0 D D D (bU (bP (bX (W (eS D D) D (bO 54 (v':= .bool false) D (fW9 (by rw [nM];decide)) ?_)))))))))))))))))))))))))))
  refine cG D (bU (jK D (bX (W (eS D D) D (bO 82 (v':= .bool false) D (fW9 (by rw [nM];decide)) (cG D (bU (jK D (bX (W (eS D D) D (bO 106 (v':= .bool true) D (fW9 (by rw [nM];decide)) (cG D (bU (mT D (bX (bS D (dZ mZ D D (eO fM 1 D D D (W (dG uK D (fun _ hm=>hm.blkI 0 D) D D) D ?_)))))))))))))))))))
  refine fW (γ:=Value×Os×(M->Option Int)×Int) (val:=fun q=>J q.2.2.2) (φ:=(fun (q:Value×Os×(M->Option Int)×Int)=>(mK V T (fun b=>gC cl [b]=0) at_ σ q.2.1/\gR q.2.1=mN V T cl at_ ws (gR σ))/\bH1 q.2.2.1)) (K':=fun _=>fun _=>True) (L':=(fun (q:Value×Os×(M->Option Int)×Int)=> [(go,98, [u0,H cA cn cc,u2,u3,u4,u5,u6,u7,u8,u9,jR,jS,jT,jU,jV,jW,.map (some gv),.map (some gs),.map (some gI),q.1,.map (some gF),.map (some gG),.map (some gJ),.map (some gO),rv])])) (O':=(fun (q:Value×Os×(M->Option Int)×Int)=> [⟨q.1,181,5,q.2.1.lg.length,q.2.1.lg.flatMap eF⟩,⟨rv,178,2,rn,rx⟩])) (X':=(fun (q:Value×Os×(M->Option Int)×Int)=> [cB vS dT w0.heap.size gv (V),cB vB dT w0.heap.size gs (T),cB rJ dT w0.heap.size gI (q.2.1.fs),cB vB nN w0.heap.size gF (q.2.1.fa),cB pX dT w0.heap.size gG (q.2.1.fb),cB pZ dT w0.heap.size gJ (q.2.1.fh),cB vI dT w0.heap.size gO (q.2.2.1),gX 269 q.2.1.fh,bT dQ 2 53 w0.heap.size none cA cn cl,TxtO w0.heap.size none])) D fV3 D D (fun wx hm=>(dA4 w0 u0 u2 u3 u4 u5 u6 u7 u8 u9 jR jS jT jU jV jW go gv gs gI gF gG gJ gO cA cn cc cl V T rv rn rx hd (fun b=>gC cl [b]=0) fp σ lv at_ _ x0 x1 x2 x3 y0 y1 y2 _ _ tc nc wx G G G G G hfh (hm.fact 2 D) (hm.fact 1 D) (hm.pick [2] [0,1] [4,5,6,7,8,9,10,11,12,13,2,1] D D).cy).mono fun _ _ ⟨rC,σ2,E,he,h1,wG⟩=>⟨(rC,σ2,fp,E),he,⟨⟨h1.1,h1.2.trans hdo.symm⟩,hpo⟩,wG.cy⟩) ?_
  rintro ⟨rC,σ2,fp2,E2⟩ hst
  dsimp only at hst ⊢
  refine cG D (bU (bR (C (F ?_))))
  exact bQ D D fun wx hm=>⟨rC,σ2,fp2,E2,D,hst.1,hst.2,(hm.pick [0] [0,1] [0,1,2,3,4,5,6,7,8,9] D D).cy⟩
 ·obtain ⟨x0,x1,x2,rfl⟩:=eL6 htl
  obtain ⟨tb,uQ,htA⟩:=hta bD
  subst htA
  obtain ⟨y0,y1,y2,y3,rfl⟩:=fK5 hnl
  obtain ⟨nb,yM,hnA⟩:=hna bD
  subst hnA
  have hz0:x0.size<=1000:=htz _ (by simp)
  have hz1:x1.size<=1000:=htz _ (by simp)
  have hz2:x2.size<=1000:=htz _ (by simp)
  have hdo:=hfw.trans eM5
  refine gd (fun wz=>Blk wz gT 220 [U ⟨#[115,119,97,112]⟩,H (some ⟨tb,uQ,none⟩) 3 tc,H (some ⟨nb,yM,none⟩) 4 nc]/\True) mixed (fun _ hm=>⟨hm.bl 0,bB⟩) fun z=>wq 1 D (bW mM D D) (wq 2 D (cH fR D (fun _ hm=>hm.1) D) (eD 0 D ?_))
  refine fK (γ:=Nat) (val:=(fun g=> .map (some g))) (φ:=(fun g=>True)) (Y:=(fun g=>fun wy=>cB vI dT w0.heap.size g gM wy)) D bR4 D D (fun wx hm=>(qW wx).mono fun _ _ ⟨g,he,wG,hg⟩=>⟨g,he,bB,hg,wG.lower hm.g.size⟩) (fun _=>cB.lasts2) ?_
  rintro gk mO
  clear mO
  refine bH (nw 9 7 (fun _ hm=>⟨hm.bl 0,bB⟩) fun z=>eD 3 D (W (hU (enc:=vI) (ek:=dT) (s:=⟨#[115,119,97,112]⟩) (e:=3) (0:Int) kC bC bC D D (fun _ hm=>(hm.fact 0 D))) D (bH (nw 9 15 (fun _ hm=>⟨hm.bl 0,bB⟩) fun z=>wq 4 D (bL D) (wq 5 D (cV D D) (dI 26 (v':=J 0) D (congrArg vI (by rw [hkk];rfl)) (wq 6 D (cV D D) (dI 27 (v':= .bool false) D (fW9 (by rw [hkk];rfl)) (wq 7 D (dB D) (wq 8 D (dB D) (gY (bG (bX (bS D (bU (jK D (bN (bG (bJ (bX (dZ mM D D (eO fR 0 D D D (bU (bP (bX (W (eS D D) D (bO 54 (v':= .bool false) D (fW9 (by rw [nM];decide)) ?_)))))))))))))))))))))))))))
  refine cG D (bU (jK D (bX (W (eS D D) D (bO 82 (v':= .bool false) D (fW9 (by rw [nM];decide)) (cG D (bU (jK D (bX (W (eS D D) D (bO 106 (v':= .bool false) D (fW9 (by rw [nM];decide)) (cG D (bU (jK D (bX (W (eS D D) D (bO 113 (v':= .bool false) D (fW9 (by rw [nM];decide)) (cG D (bU (jK D (bN (bK (bG (bX (bS D (dZ mZ D D (eO fM 1 D D D (W (dG uK D (fun _ hm=>hm.blkI 0 D) D D) D ?_))))))))))))))))))))))))))))
  refine fW (γ:=Value×Os×(M->Option Int)×Int) (val:=fun q=>J q.2.2.2) (φ:=(fun (q:Value×Os×(M->Option Int)×Int)=>(mK V T (fun b=>gC cl [b]=0) at_ σ q.2.1/\gR q.2.1=mN V T cl at_ ws (gR σ))/\bH1 q.2.2.1)) (K':=fun _=>fun _=>True) (L':=(fun (q:Value×Os×(M->Option Int)×Int)=> [(go,98, [u0,H cA cn cc,u2,u3,u4,u5,u6,u7,u8,u9,jR,jS,jT,jU,jV,jW,.map (some gv),.map (some gs),.map (some gI),q.1,.map (some gF),.map (some gG),.map (some gJ),.map (some gO),rv])])) (O':=(fun (q:Value×Os×(M->Option Int)×Int)=> [⟨q.1,181,5,q.2.1.lg.length,q.2.1.lg.flatMap eF⟩,⟨rv,178,2,rn,rx⟩])) (X':=(fun (q:Value×Os×(M->Option Int)×Int)=> [cB vS dT w0.heap.size gv (V),cB vB dT w0.heap.size gs (T),cB rJ dT w0.heap.size gI (q.2.1.fs),cB vB nN w0.heap.size gF (q.2.1.fa),cB pX dT w0.heap.size gG (q.2.1.fb),cB pZ dT w0.heap.size gJ (q.2.1.fh),cB vI dT w0.heap.size gO (q.2.2.1),gX 269 q.2.1.fh,bT dQ 2 53 w0.heap.size none cA cn cl,TxtO w0.heap.size none])) D eE0 D D (fun wx hm=>(dE9 w0 u0 u2 u3 u4 u5 u6 u7 u8 u9 jR jS jT jU jV jW go gv gs gI gF gG gJ gO cA cn cc cl V T rv rn rx hd (fun b=>gC cl [b]=0) fp σ lv at_ x0 x1 x2 y0 y1 y2 y3 _ _ tc nc wx G G hlg hso (hm.fact 2 D) (hm.fact 1 D) (hm.pick [2] [0,1] [4,5,6,7,8,9,10,11,12,13,2,1] D D).cy).mono fun _ _ ⟨rC,σ2,E,he,h1,wG⟩=>⟨(rC,σ2,fp,E),he,⟨⟨h1.1,h1.2.trans hdo.symm⟩,hpo⟩,wG.cy⟩) ?_
  rintro ⟨rC,σ2,fp2,E2⟩ hst
  dsimp only at hst ⊢
  refine cG D (bU (bR ?_))
  exact bQ D D fun wx hm=>⟨rC,σ2,fp2,E2,D,hst.1,hst.2,(hm.pick [0] [0,1] [0,1,2,3,4,5,6,7,8,9] D D).cy⟩
 ·obtain ⟨x0,rfl⟩:=eG2 htl
  obtain ⟨tb,uQ,htA⟩:=hta bD
  subst htA
  obtain ⟨y0,rfl⟩:=eG2 hnl
  obtain ⟨nb,yM,hnA⟩:=hna bD
  subst hnA
  have hz0:x0.size<=1000:=htz _ (by simp)
  have hdo:=hfw.trans dB7
  refine gd (fun wz=>Blk wz gT 220 [U ⟨#[101,120,116,101,110,100]⟩,H (some ⟨tb,uQ,none⟩) 1 tc,H (some ⟨nb,yM,none⟩) 1 nc]/\True) mixed (fun _ hm=>⟨hm.bl 0,bB⟩) fun z=>wq 1 D (bW mM D D) (wq 2 D (cH fR D (fun _ hm=>hm.1) D) (eD 0 D ?_))
  refine fK (γ:=Nat) (val:=(fun g=> .map (some g))) (φ:=(fun g=>True)) (Y:=(fun g=>fun wy=>cB vI dT w0.heap.size g gM wy)) D bR4 D D (fun wx hm=>(qW wx).mono fun _ _ ⟨g,he,wG,hg⟩=>⟨g,he,bB,hg,wG.lower hm.g.size⟩) (fun _=>cB.lasts2) ?_
  rintro gk mO
  clear mO
  refine bH (nw 9 7 (fun _ hm=>⟨hm.bl 0,bB⟩) fun z=>eD 3 D (W (hU (enc:=vI) (ek:=dT) (s:=⟨#[101,120,116,101,110,100]⟩) (e:=3) (0:Int) kC bC bC D D (fun _ hm=>(hm.fact 0 D))) D (bH (nw 9 15 (fun _ hm=>⟨hm.bl 0,bB⟩) fun z=>wq 4 D (bL D) (wq 5 D (cV D D) (dI 26 (v':=J 0) D (congrArg vI (by rw [hkk];rfl)) (wq 6 D (cV D D) (dI 27 (v':= .bool false) D (fW9 (by rw [hkk];rfl)) (wq 7 D (dB D) (wq 8 D (dB D) (gY (bG (bX (bS D (bU (jK D (bN (bG (bJ (bX (dZ mM D D (eO fR 0 D D D (bU (bP (bX (W (eS D D) D (bO 54 (v':= .bool false) D (fW9 (by rw [nM];decide)) ?_)))))))))))))))))))))))))))
  refine cG D (bU (jK D (bX (W (eS D D) D (bO 82 (v':= .bool false) D (fW9 (by rw [nM];decide)) (cG D (bU (jK D (bX (W (eS D D) D (bO 106 (v':= .bool false) D (fW9 (by rw [nM];decide)) (cG D (bU (jK D (bX (W (eS D D) D (bO 113 (v':= .bool false) D (fW9 (by rw [nM];decide)) (cG D (bU (jK D (bN (bK (bG (bX (bS D (dZ mZ D D (eO fM 1 D D D (W (dG uK D (fun _ hm=>hm.blkI 0 D) D D) D ?_))))))))))))))))))))))))))))
  refine fW (γ:=Value×Os×(M->Option Int)×Int) (val:=fun q=>J q.2.2.2) (φ:=(fun (q:Value×Os×(M->Option Int)×Int)=>(mK V T (fun b=>gC cl [b]=0) at_ σ q.2.1/\gR q.2.1=mN V T cl at_ ws (gR σ))/\bH1 q.2.2.1)) (K':=fun _=>fun _=>True) (L':=(fun (q:Value×Os×(M->Option Int)×Int)=> [(go,98, [u0,H cA cn cc,u2,u3,u4,u5,u6,u7,u8,u9,jR,jS,jT,jU,jV,jW,.map (some gv),.map (some gs),.map (some gI),q.1,.map (some gF),.map (some gG),.map (some gJ),.map (some gO),rv])])) (O':=(fun (q:Value×Os×(M->Option Int)×Int)=> [⟨q.1,181,5,q.2.1.lg.length,q.2.1.lg.flatMap eF⟩,⟨rv,178,2,rn,rx⟩])) (X':=(fun (q:Value×Os×(M->Option Int)×Int)=> [cB vS dT w0.heap.size gv (V),cB vB dT w0.heap.size gs (T),cB rJ dT w0.heap.size gI (q.2.1.fs),cB vB nN w0.heap.size gF (q.2.1.fa),cB pX dT w0.heap.size gG (q.2.1.fb),cB pZ dT w0.heap.size gJ (q.2.1.fh),cB vI dT w0.heap.size gO (q.2.2.1),gX 269 q.2.1.fh,bT dQ 2 53 w0.heap.size none cA cn cl,TxtO w0.heap.size none])) D eE0 D D (fun wx hm=>(cD9 w0 u0 u2 u3 u4 u5 u6 u7 u8 u9 jR jS jT jU jV jW go gv gs gI gF gG gJ gO cA cn cc cl V T rv rn rx hd (fun b=>gC cl [b]=0) fp σ lv at_ x0 y0 _ _ tc nc wx hlg hso (hm.fact 2 D) (hm.fact 1 D) (hm.pick [2] [0,1] [4,5,6,7,8,9,10,11,12,13,2,1] D D).cy).mono fun _ _ ⟨rC,σ2,E,he,h1,wG⟩=>⟨(rC,σ2,fp,E),he,⟨⟨h1.1,h1.2.trans hdo.symm⟩,hpo⟩,wG.cy⟩) ?_
  rintro ⟨rC,σ2,fp2,E2⟩ hst
  dsimp only at hst ⊢
  refine cG D (bU (bR ?_))
  exact bQ D D fun wx hm=>⟨rC,σ2,fp2,E2,D,hst.1,hst.2,(hm.pick [0] [0,1] [0,1,2,3,4,5,6,7,8,9] D D).cy⟩
 ·obtain ⟨x0,x1,rfl⟩:=eK6 htl
  obtain ⟨tb,uQ,htA⟩:=hta bD
  subst htA
  obtain ⟨y0,y1,rfl⟩:=eK6 hnl
  obtain ⟨nb,yM,hnA⟩:=hna bD
  subst hnA
  have hz0:x0.size<=1000:=htz _ (by simp)
  have hz1:x1.size<=1000:=htz _ (by simp)
  have hdo:=hfw.trans eU0
  refine gd (fun wz=>Blk wz gT 220 [U ⟨#[99,108,111,115,101]⟩,H (some ⟨tb,uQ,none⟩) 2 tc,H (some ⟨nb,yM,none⟩) 2 nc]/\True) mixed (fun _ hm=>⟨hm.bl 0,bB⟩) fun z=>wq 1 D (bW mM D D) (wq 2 D (cH fR D (fun _ hm=>hm.1) D) (eD 0 D ?_))
  refine fK (γ:=Nat) (val:=(fun g=> .map (some g))) (φ:=(fun g=>True)) (Y:=(fun g=>fun wy=>cB vI dT w0.heap.size g gM wy)) D bR4 D D (fun wx hm=>(qW wx).mono fun _ _ ⟨g,he,wG,hg⟩=>⟨g,he,bB,hg,wG.lower hm.g.size⟩) (fun _=>cB.lasts2) ?_
  rintro gk mO
  clear mO
  refine bH (nw 9 7 (fun _ hm=>⟨hm.bl 0,bB⟩) fun z=>eD 3 D (W (hU (enc:=vI) (ek:=dT) (s:=⟨#[99,108,111,115,101]⟩) (e:=3) (0:Int) kC bC bC D D (fun _ hm=>(hm.fact 0 D))) D (bH (nw 9 15 (fun _ hm=>⟨hm.bl 0,bB⟩) fun z=>wq 4 D (bL D) (wq 5 D (cV D D) (dI 26 (v':=J 0) D (congrArg vI (by rw [hkk];rfl)) (wq 6 D (cV D D) (dI 27 (v':= .bool false) D (fW9 (by rw [hkk];rfl)) (wq 7 D (dB D) (wq 8 D (dB D) (gY (bG (bX (bS D (bU (jK D (bN (bG (bJ (bX (dZ mM D D (eO fR 0 D D D (bU (bP (bX (W (eS D D) D (bO 54 (v':= .bool false) D (fW9 (by rw [nM];decide)) ?_)))))))))))))))))))))))))))
  refine cG D (bU (jK D (bX (W (eS D D) D (bO 82 (v':= .bool false) D (fW9 (by rw [nM];decide)) (cG D (bU (jK D (bX (W (eS D D) D (bO 106 (v':= .bool false) D (fW9 (by rw [nM];decide)) (cG D (bU (jK D (bX (W (eS D D) D (bO 113 (v':= .bool false) D (fW9 (by rw [nM];decide)) (cG D (bU (jK D (bN (bK (bG (bX (bS D (dZ mZ D D (eO fM 1 D D D (W (dG uK D (fun _ hm=>hm.blkI 0 D) D D) D ?_))))))))))))))))))))))))))))
  refine fW (γ:=Value×Os×(M->Option Int)×Int) (val:=fun q=>J q.2.2.2) (φ:=(fun (q:Value×Os×(M->Option Int)×Int)=>(mK V T (fun b=>gC cl [b]=0) at_ σ q.2.1/\gR q.2.1=mN V T cl at_ ws (gR σ))/\bH1 q.2.2.1)) (K':=fun _=>fun _=>True) (L':=(fun (q:Value×Os×(M->Option Int)×Int)=> [(go,98, [u0,H cA cn cc,u2,u3,u4,u5,u6,u7,u8,u9,jR,jS,jT,jU,jV,jW,.map (some gv),.map (some gs),.map (some gI),q.1,.map (some gF),.map (some gG),.map (some gJ),.map (some gO),rv])])) (O':=(fun (q:Value×Os×(M->Option Int)×Int)=> [⟨q.1,181,5,q.2.1.lg.length,q.2.1.lg.flatMap eF⟩,⟨rv,178,2,rn,rx⟩])) (X':=(fun (q:Value×Os×(M->Option Int)×Int)=> [cB vS dT w0.heap.size gv (V),cB vB dT w0.heap.size gs (T),cB rJ dT w0.heap.size gI (q.2.1.fs),cB vB nN w0.heap.size gF (q.2.1.fa),cB pX dT w0.heap.size gG (q.2.1.fb),cB pZ dT w0.heap.size gJ (q.2.1.fh),cB vI dT w0.heap.size gO (q.2.2.1),gX 269 q.2.1.fh,bT dQ 2 53 w0.heap.size none cA cn cl,TxtO w0.heap.size none])) D eE0 D D (fun wx hm=>(dY1 w0 u0 u2 u3 u4 u5 u6 u7 u8 u9 jR jS jT jU jV jW go gv gs gI gF gG gJ gO cA cn cc cl V T rv rn rx hd (fun b=>gC cl [b]=0) fp σ lv at_ x0 x1 y0 y1 _ _ tc nc wx G hlg hso (hm.fact 2 D) (hm.fact 1 D) (hm.pick [2] [0,1] [4,5,6,7,8,9,10,11,12,13,2,1] D D).cy).mono fun _ _ ⟨rC,σ2,E,he,h1,wG⟩=>⟨(rC,σ2,fp,E),he,⟨⟨h1.1,h1.2.trans hdo.symm⟩,hpo⟩,wG.cy⟩) ?_
  rintro ⟨rC,σ2,fp2,E2⟩ hst
  dsimp only at hst ⊢
  refine cG D (bU (bR ?_))
  exact bQ D D fun wx hm=>⟨rC,σ2,fp2,E2,D,hst.1,hst.2,(hm.pick [0] [0,1] [0,1,2,3,4,5,6,7,8,9] D D).cy⟩
 obtain ⟨x0,rfl⟩:=eG2 htl
 obtain ⟨tb,uQ,htA⟩:=hta bD
 subst htA
 obtain ⟨y0,rfl⟩:=eG2 hnl
 obtain ⟨nb,yM,hnA⟩:=hna bD
 subst hnA
 have hz0:x0.size<=1000:=htz _ (by simp)
 have hdo:=hfw.trans fL0
 refine gd (fun wz=>Blk wz gT 220 [U ⟨#[112,97,121]⟩,H (some ⟨tb,uQ,none⟩) 1 tc,H (some ⟨nb,yM,none⟩) 1 nc]/\True) mixed (fun _ hm=>⟨hm.bl 0,bB⟩) fun z=>wq 1 D (bW mM D D) (wq 2 D (cH fR D (fun _ hm=>hm.1) D) (eD 0 D ?_))
 refine fK (γ:=Nat) (val:=(fun g=> .map (some g))) (φ:=(fun g=>True)) (Y:=(fun g=>fun wy=>cB vI dT w0.heap.size g gM wy)) D bR4 D D (fun wx hm=>(qW wx).mono fun _ _ ⟨g,he,wG,hg⟩=>⟨g,he,bB,hg,wG.lower hm.g.size⟩) (fun _=>cB.lasts2) ?_
 rintro gk mO
 clear mO
 refine bH (nw 9 7 (fun _ hm=>⟨hm.bl 0,bB⟩) fun z=>eD 3 D (W (hU (enc:=vI) (ek:=dT) (s:=⟨#[112,97,121]⟩) (e:=3) (0:Int) kC bC bC D D (fun _ hm=>(hm.fact 0 D))) D (bH (nw 9 15 (fun _ hm=>⟨hm.bl 0,bB⟩) fun z=>wq 4 D (bL D) (wq 5 D (cV D D) (dI 26 (v':=J 0) D (congrArg vI (by rw [hkk];rfl)) (wq 6 D (cV D D) (dI 27 (v':= .bool false) D (fW9 (by rw [hkk];rfl)) (wq 7 D (dB D) (wq 8 D (dB D) (gY (bG (bX (bS D (bU (jK D (bN (bG (bJ (bX (dZ mM D D (eO fR 0 D D D (bU (bP (bX (W (eS D D) D (bO 54 (v':= .bool false) D (fW9 (by rw [nM];decide)) ?_)))))))))))))))))))))))))))
 refine cG D (bU (jK D (bX (W (eS D D) D (bO 82 (v':= .bool false) D (fW9 (by rw [nM];decide)) (cG D (bU (jK D (bX (W (eS D D) D (bO 106 (v':= .bool false) D (fW9 (by rw [nM];decide)) (cG D (bU (jK D (bX (W (eS D D) D (bO 113 (v':= .bool true) D (fW9 (by rw [nM];decide)) (cG D (bU (mT D (bJ (gd (fun wz=>Blk wz gT 220 [U ⟨#[112,97,121]⟩,H (some ⟨tb,uQ,none⟩) 1 tc,H (some ⟨nb,yM,none⟩) 1 nc]/\(fun wy=>SlT kV 1 3 wy (some ⟨nb,yM,none⟩) 1 [y0]) wz/\(fun wy=>SlT dU 1 9 wy (some ⟨tb,uQ,none⟩) 1 [x0]) wz/\True) mixed (fun _ hm=>⟨hm.bl 0,hm.fa 1,hm.fa 2,bB⟩) fun z=>wq 0 D (bL D) (wq 1 D (bW kT D D) (wq 2 D (cH rX D (fun _ hm=>hm.1) D) (wq 3 D (bV (j:=0) mD D D G) (wq 4 D (dH (k:=0) (v:=U x0) fR D (fun _ hm=>(hm.2.2.1)) (D: [x0][0]?=some x0) D D) (wq 5 D (bW nT D D) (wq 6 D (cH kY D (fun _ hm=>hm.1) D) ?_))))))))))))))))))))))))))))
 refine wq 7 D (bV (j:=0) kF D D G) (wq 8 D (dH (k:=0) (v:=J y0) fM D (fun _ hm=>(hm.2.1)) (D: [y0][0]?=some y0) D D) (eD 9 D ?_))
 refine fW (γ:=Value×Os×(M->Option Int)×Int) (val:=fun q=>J q.2.2.2) (φ:=(fun (q:Value×Os×(M->Option Int)×Int)=>(mK V T (fun b=>gC cl [b]=0) at_ σ q.2.1/\gR q.2.1=mN V T cl at_ ws (gR σ))/\bH1 q.2.2.1)) (K':=fun _=>fun _=>True) (L':=(fun (q:Value×Os×(M->Option Int)×Int)=> [(go,98, [u0,H cA cn cc,u2,u3,u4,u5,u6,u7,u8,u9,jR,jS,jT,jU,jV,jW,.map (some gv),.map (some gs),.map (some gI),q.1,.map (some gF),.map (some gG),.map (some gJ),.map (some gO),rv]),(gT,220, [U ⟨#[112,97,121]⟩,H (some ⟨tb,uQ,none⟩) 1 tc,H (some ⟨nb,yM,none⟩) 1 nc]),(g1,128, [J at_,U dk,J no,U ws])])) (O':=(fun (q:Value×Os×(M->Option Int)×Int)=> [⟨q.1,181,5,q.2.1.lg.length,q.2.1.lg.flatMap eF⟩,⟨rv,178,2,rn,rx⟩])) (X':=(fun (q:Value×Os×(M->Option Int)×Int)=> [cB vS dT w0.heap.size gv (V),cB vB dT w0.heap.size gs (T),cB rJ dT w0.heap.size gI (q.2.1.fs),cB vB nN w0.heap.size gF (q.2.1.fa),cB pX dT w0.heap.size gG (q.2.1.fb),cB pZ dT w0.heap.size gJ (q.2.1.fh),cB vI dT w0.heap.size gO (q.2.2.1),gX 269 q.2.1.fh,bT dQ 2 53 w0.heap.size none cA cn cl,TxtO w0.heap.size none,fun wy=>SlT dU 1 9 wy (some ⟨tb,uQ,none⟩) 1 [x0],fun wy=>SlT kV 1 3 wy (some ⟨nb,yM,none⟩) 1 [y0]])) D fW3 D D (fun wx hm=>(eV6 w0 u0 u2 u3 u4 u5 u6 u7 u8 u9 jR jS jT jU jV jW go gv gs gI gF gG gJ gO cA cn cc cl V T rv rn rx hd gT g1 _ _ _ _ SlT.mfar SlT.mfar fp σ lv x0 y0 wx (hnz _ (by simp)) hpo (hm.pick [2,0,1] [0,1] [4,5,6,7,8,9,10,11,12,13,2,1] D D).cy).mono fun _ _ ⟨fp2,E,he,h1,wG⟩=>⟨(lv,σ,fp2,E),he,⟨⟨.same σ,hdo.symm⟩,h1⟩,wG.cy⟩) ?_
 rintro ⟨rC,σ2,fp2,E2⟩ hst
 dsimp only at hst ⊢
 refine bH (nw 11 1023 (fun _ hm=>⟨hm.bl 1,hm.fa 11,hm.fa 10,bB⟩) fun z=>wq 10 D (dB D) (gY (bG (bR (C (F ?_))))))
 exact bQ D D fun wx hm=>⟨rC,σ2,fp2,E2,D,hst.1,hst.2,(hm.pick [0] [0,1] [0,1,2,3,4,5,6,7,8,9] D D).cy⟩
section
variable {α:Type} {lt:α->α->Bool}
def yD(lt:α->α->Bool)(l:List α):Prop:=l.Pairwise fun x y=>lt y x=false
structure cU2 (lt:α->α->Bool):Prop where
 tr:∀{x y z:α},lt y x=false->lt z y=false->lt z x=false
 asy:∀{x y:α},lt x y=true->lt y x=false
theorem bR2{a b:List α}:yD lt (a++b)↔yD lt a/\yD lt b/\∀x∈a,∀y∈b,lt y x=false:=List.pairwise_append
theorem bH6{a:List α}(h:yD lt a)(i:Nat):yD lt (a.take i):=(bR2.1 (by rw [List.take_append_drop];exact h:yD lt (a.take i++a.drop i))).1
theorem bG6{a:List α}(h:yD lt a)(i:Nat):yD lt (a.drop i):=(bR2.1 (by rw [List.take_append_drop];exact h:yD lt (a.take i++a.drop i))).2.1
theorem bS2{a:List α}(h:yD lt a)(i:Nat):∀x∈a.take i,∀y∈a.drop i,lt y x=false:=(bR2.1 (by rw [List.take_append_drop];exact h:yD lt (a.take i++a.drop i))).2.2
theorem dP0(ho:cU2 lt)(x:α):lt x x=false:=by
 cases h:lt x x with
 |false=>rfl
 |true=>rw [<-h];exact ho.asy h
theorem bU2(ho:cU2 lt){a:List α}(h:yD lt a){i:Nat}{x:α}(hi:0 < i)(hx:a[i - 1]?=some x):∀y∈a.take i,lt x y=false:=fun y hy=>by
 obtain ⟨j,hj⟩:=List.getElem?_of_mem hy
 rw [List.getElem?_take] at hj
 split at hj
 ·obtain ⟨h1,rfl⟩:=List.getElem?_eq_some_iff.1 hj
  obtain ⟨h2,rfl⟩:=List.getElem?_eq_some_iff.1 hx
  rcases Nat.lt_or_ge j (i - 1) with h3|h3
  ·exact List.pairwise_iff_getElem.1 h j (i - 1) h1 h2 h3
  ·have:j=i - 1:=G
   subst this
   exact dP0 ho _
 ·cases hj
theorem yY(ho:cU2 lt){a:List α}(h:yD lt a){i:Nat}{x:α}(hx:a[i]?=some x):∀y∈a.drop i,lt y x=false:=fun y hy=>by
 obtain ⟨j,hj⟩:=List.getElem?_of_mem hy
 rw [List.getElem?_drop] at hj
 obtain ⟨h1,rfl⟩:=List.getElem?_eq_some_iff.1 hj
 obtain ⟨h2,rfl⟩:=List.getElem?_eq_some_iff.1 hx
 rcases Nat.eq_zero_or_pos j with h3|h3
 ·subst h3
  exact dP0 ho _
 ·exact List.pairwise_iff_getElem.1 h i (i+j) h2 h1 G
theorem eK7(ho:cU2 lt){A B:List α}(hA:yD lt A)(hB:yD lt B){i j:Nat}
 (h1:i=0∨B.length<=j∨∃x y,A[i - 1]?=some x/\B[j]?=some y/\lt y x=false)
 (h2:j=0∨A.length<=i∨∃x y,A[i]?=some x/\B[j - 1]?=some y/\lt y x=true):
 (∀x∈A.take i,∀y∈B.drop j,lt y x=false)/\(∀x∈B.take j,∀y∈A.drop i,lt y x=false):=by
 constructor
 ·intro x hx y hy
  rcases h1 with rfl|h1|⟨u,v,hu,hv,huv⟩
  ·rw [List.take_zero] at hx;cases hx
  ·rw [List.drop_eq_nil_of_le h1] at hy;cases hy
  ·rcases Nat.eq_zero_or_pos i with rfl|hi
   ·rw [List.take_zero] at hx;cases hx
   ·exact ho.tr (bU2 ho hA hi hu x hx) (ho.tr huv (yY ho hB hv y hy))
 ·intro x hx y hy
  rcases h2 with rfl|h2|⟨u,v,hu,hv,huv⟩
  ·rw [List.take_zero] at hx;cases hx
  ·rw [List.drop_eq_nil_of_le h2] at hy;cases hy
  ·rcases Nat.eq_zero_or_pos j with rfl|hj
   ·rw [List.take_zero] at hx;cases hx
   ·exact ho.tr (bU2 ho hB hj hv x hx) (ho.tr (ho.asy huv) (yY ho hA hu y hy))
theorem eP3{A B M1 M2:List α}(hA:yD lt A)(hB:yD lt B){i j:Nat}(p1:M1.Perm (A.take i++B.take j))(s1:yD lt M1)(p2:M2.Perm (A.drop i++B.drop j))(s2:yD lt M2)
 (hc:(∀x∈A.take i,∀y∈B.drop j,lt y x=false)/\(∀x∈B.take j,∀y∈A.drop i,lt y x=false)):yD lt (M1++M2)/\(M1++M2).Perm (A++B):=by
 refine ⟨bR2.2 ⟨s1,s2,fun x hx y hy=>?_⟩,?_⟩
 ·rcases List.mem_append.1 (p1.mem_iff.1 hx) with hx|hx <;> rcases List.mem_append.1 (p2.mem_iff.1 hy) with hy|hy
  ·exact bS2 hA i x hx y hy
  ·exact hc.1 x hx y hy
  ·exact hc.2 x hx y hy
  ·exact bS2 hB j x hx y hy
 ·have h:((A.take i++B.take j)++(A.drop i++B.drop j)).Perm ((A.take i++A.drop i)++(B.take j++B.drop j)):=by
   rw [List.append_assoc,List.append_assoc]
   refine List.Perm.append_left _ ?_
   rw [<-List.append_assoc,<-List.append_assoc]
   exact List.Perm.append_right _ List.perm_append_comm
  rw [List.take_append_drop,List.take_append_drop] at h
  exact (p1.append p2).trans h
theorem dN7(ho:cU2 lt){B:List α}(hB:yD lt B){x:α}{i:Nat}(h1:i=0∨∃y,B[i - 1]?=some y/\lt y x=true)(h2:B.length<=i∨∃y,B[i]?=some y/\lt y x=false):
 yD lt (B.take i++x::B.drop i)/\(B.take i++x::B.drop i).Perm (x::B):=by
 refine ⟨bR2.2 ⟨bH6 hB i,List.pairwise_cons.2 ⟨fun y hy=>?_,bG6 hB i⟩,fun y hy z hz=>?_⟩,?_⟩
 ·rcases h2 with h2|⟨u,hu,hux⟩
  ·rw [List.drop_eq_nil_of_le h2] at hy;cases hy
  ·exact ho.tr hux (yY ho hB hu y hy)
 ·rcases List.mem_cons.1 hz with rfl|hz
  ·rcases h1 with rfl|⟨u,hu,hux⟩
   ·rw [List.take_zero] at hy;cases hy
   ·rcases Nat.eq_zero_or_pos i with rfl|hi
    ·rw [List.take_zero] at hy;cases hy
    ·exact ho.tr (bU2 ho hB hi hu y hy) (ho.asy hux)
  ·exact bS2 hB i y hy z hz
 ·have h:=List.perm_middle (a:=x) (l₁:=B.take i) (l₂:=B.drop i)
  rw [List.take_append_drop] at h
  exact h
theorem eY1(ho:cU2 lt){B:List α}(hB:yD lt B){x:α}{i:Nat}(h1:i=0∨∃y,B[i - 1]?=some y/\lt x y=false)(h2:B.length<=i∨∃y,B[i]?=some y/\lt x y=true):
 yD lt (B.take i++x::B.drop i)/\(B.take i++x::B.drop i).Perm (x::B):=by
 refine ⟨bR2.2 ⟨bH6 hB i,List.pairwise_cons.2 ⟨fun y hy=>?_,bG6 hB i⟩,fun y hy z hz=>?_⟩,?_⟩
 ·rcases h2 with h2|⟨u,hu,hux⟩
  ·rw [List.drop_eq_nil_of_le h2] at hy;cases hy
  ·exact ho.tr (ho.asy hux) (yY ho hB hu y hy)
 ·rcases List.mem_cons.1 hz with rfl|hz
  ·rcases h1 with rfl|⟨u,hu,hux⟩
   ·rw [List.take_zero] at hy;cases hy
   ·rcases Nat.eq_zero_or_pos i with rfl|hi
    ·rw [List.take_zero] at hy;cases hy
    ·exact ho.tr (bU2 ho hB hi hu y hy) hux
  ·exact bS2 hB i y hy z hz
 ·have h:=List.perm_middle (a:=x) (l₁:=B.take i) (l₂:=B.drop i)
  rw [List.take_append_drop] at h
  exact h
end
def vU{α:Type}(l:List α)(a b:Nat):Nat->List α
 |0=>l
 |k+1=>match (vU l a b k)[a+k]?,(vU l a b k)[b+k]? with
  |some x,some y=>((vU l a b k).set (a+k) y).set (b+k) x
  |_,_=>vU l a b k
theorem vV{α:Type}(l:List α)(a b:Nat):∀k,(vU l a b k).length=l.length
 |0=>rfl
 |k+1=>by
  unfold vU
  split
  ·rw [List.length_set,List.length_set];exact vV l a b k
  ·exact vV l a b k
theorem bT2{α:Type}{l:List α}{a b k:Nat}{x y:α}(hx:(vU l a b k)[a+k]?=some x)(hy:(vU l a b k)[b+k]?=some y):vU l a b (k+1)=((vU l a b k).set (a+k) y).set (b+k) x:=by
 conv=>lhs;unfold vU
 rw [hx,hy]
theorem rH{α:Type}{l:List α}{a b:Nat}:∀{q:Nat},a+q<=b->b+q<=l.length->∀i,(vU l a b q)[i]?=if a<=i/\i < a+q then l[b+(i - a)]? else if b<=i/\i < b+q then l[a+(i - b)]? else l[i]?
 |0,_,_,i=>by
  rw [if_neg G,if_neg G];rfl
 |k+1,h1,h2,i=>by
  have ih:=rH (l:=l) (a:=a) (b:=b) (q:=k) G G
  have hl:=vV l a b k
  obtain ⟨x,hx⟩:∃x,(vU l a b k)[a+k]?=some x:=⟨_,fY9 G⟩
  obtain ⟨y,hy⟩:∃y,(vU l a b k)[b+k]?=some y:=⟨_,fY9 G⟩
  rw [bT2 hx hy]
  rw [ih,if_neg G,if_neg G] at hx hy
  rcases Nat.lt_trichotomy i (b+k) with h|rfl|h
  ·rw [List.getElem?_set_ne G]
   rcases Nat.lt_trichotomy i (a+k) with h3|rfl|h3
   ·rw [List.getElem?_set_ne G,ih]
    repeat' split
    all_goals first|rfl|omega|(congr 1 <;> omega)
   ·rw [List.getElem?_set_self G,if_pos G,show b+(a+k - a)=b+k by omega,hy]
   ·rw [List.getElem?_set_ne G,ih]
    repeat' split
    all_goals first|rfl|omega|(congr 1 <;> omega)
  ·rw [List.getElem?_set_self (by rw [List.length_set];omega),if_neg G,if_pos G,show a+(b+k - b)=a+k by omega,hx]
  ·rw [List.getElem?_set_ne G,List.getElem?_set_ne G,ih]
   repeat' split
   all_goals first|rfl|omega|(congr 1 <;> omega)
def kO{α:Type}(l:List α)(a m b i:Nat):Option α:=if a<=i/\i < a+(b - m) then l[i - a+m]? else if a+(b - m)<=i/\i < b then l[i - (a+(b - m))+a]? else l[i]?
theorem dJ8{α:Type}{l:List α}{m i j:Nat}(h1:j < i)(h2:i<=m)(h3:m+j<=l.length)(x:Nat):kO l (m - i) m (m+j) x=kO (vU l (m - i) m j) (m - (i - j)) m (m+j) x:=by
 unfold kO
 rw [rH G G,rH G G,rH G G]
 repeat' split
 all_goals first|rfl|omega|(congr 1 <;> omega)
theorem eA3{α:Type}{l:List α}{m i j:Nat}(h1:i < j)(h2:i<=m)(h3:m+j<=l.length)(x:Nat):kO l (m - i) m (m+j) x=kO (vU l (m - i) (m+j - i) i) (m - i) m (m+(j - i)) x:=by
 unfold kO
 rw [rH G G,rH G G,rH G G]
 repeat' split
 all_goals first|rfl|omega|(congr 1 <;> omega)
theorem eW6{α:Type}{l:List α}{m i:Nat}(h2:i<=m)(h3:m+i<=l.length)(x:Nat):kO l (m - i) m (m+i) x=(vU l (m - i) m i)[x]?:=by
 unfold kO
 rw [rH G G]
 repeat' split
 all_goals first|rfl|omega|(congr 1 <;> omega)
def bA9{α:Type}(l:List α)(a:Nat):Nat->List α
 |0=>l
 |k+1=>vU (bA9 l a k) (a+k) (a+k+1) 1
theorem cK8{α:Type}(l:List α)(a:Nat):∀k,(bA9 l a k).length=l.length
 |0=>rfl
 |k+1=>by
  unfold bA9
  rw [vV];exact cK8 l a k
theorem cJ8{α:Type}{l:List α}{a:Nat}:∀{k:Nat},a+k < l.length->∀x,(bA9 l a k)[x]?=kO l a (a+1) (a+k+1) x
 |0,_,x=>by
  unfold kO bA9
  repeat' split
  all_goals first|rfl|omega|(congr 1 <;> omega)
 |k+1,h,x=>by
  have ih:=cJ8 (l:=l) (a:=a) (k:=k) G
  have hl:=cK8 l a k
  unfold bA9
  rw [rH G G,ih,ih,ih]
  unfold kO
  repeat' split
  all_goals first|rfl|omega|(congr 1 <;> omega)
def bZ8{α:Type}(l:List α)(m:Nat):Nat->List α
 |0=>l
 |k+1=>vU (bZ8 l m k) (m - k - 1) (m - k) 1
theorem cI8{α:Type}(l:List α)(m:Nat):∀k,(bZ8 l m k).length=l.length
 |0=>rfl
 |k+1=>by
  unfold bZ8
  rw [vV];exact cI8 l m k
theorem cH8{α:Type}{l:List α}{m:Nat}:∀{k:Nat},m < l.length->k<=m->∀x,(bZ8 l m k)[x]?=kO l (m - k) m (m+1) x
 |0,h,_,x=>by
  unfold kO bZ8
  repeat' split
  all_goals first|rfl|omega|(congr 1 <;> omega)
 |k+1,h,hk,x=>by
  have ih:=cH8 (l:=l) (m:=m) (k:=k) h G
  have hl:=cI8 l m k
  unfold bZ8
  rw [rH G G,ih,ih,ih]
  unfold kO
  repeat' split
  all_goals first|rfl|omega|(congr 1 <;> omega)
def eY{α:Type}(l:List α)(a b:Nat):List α:=(l.take b).drop a
structure yE {α:Type} (lt:α->α->Bool) (l R:List α) (a b:Nat):Prop where
 len:R.length=l.length
 front:R.take a=l.take a
 back:R.drop b=l.drop b
 srt:yD lt (eY R a b)
 perm:(eY R a b).Perm (eY l a b)
theorem gU{α:Type}{l:List α}{a b i:Nat}:(eY l a b)[i]?=if a+i < b then l[a+i]? else none:=by
 unfold eY
 rw [List.getElem?_drop,List.getElem?_take]
theorem bW1{α:Type}{l:List α}{a b:Nat}(h:b<=l.length):(eY l a b).length=b - a:=by
 unfold eY
 rw [List.length_drop,List.length_take]
 omega
theorem eR3{α:Type}{lt:α->α->Bool}(ho:cU2 lt){l R:List α}{a b i:Nat}{x:α}(hb:b<=l.length)(hx:l[a]?=some x)(hS:yD lt (eY l (a+1) b))(hi:a+1<=i)(hib:i<=b)(h1:i=a+1∨∃y,l[i - 1]?=some y/\lt y x=true)(h2:i=b∨∃y,l[i]?=some y/\lt y x=false)(hl:R.length=l.length)(hR:∀z,R[z]?=kO l a (a+1) i z):yE lt l R a b:=by
 have hB:=bW1 (l:=l) (a:=a+1) (b:=b) hb
 have hk:(i - (a+1)=0∨∃y,(eY l (a+1) b)[i - (a+1) - 1]?=some y/\lt y x=true):=by
  rcases h1 with h1|⟨y,hy,hyx⟩
  ·exact .inl G
  ·rcases Nat.eq_zero_or_pos (i - (a+1)) with h3|h3
   ·exact .inl h3
   ·exact .inr ⟨y,by rw [gU,if_pos G,show a+1+(i - (a+1) - 1)=i - 1 by omega];exact hy,hyx⟩
 have hk2:((eY l (a+1) b).length<=i - (a+1)∨∃y,(eY l (a+1) b)[i - (a+1)]?=some y/\lt y x=false):=by
  rcases h2 with h2|⟨y,hy,hyx⟩
  ·exact .inl G
  ·rcases Nat.lt_or_ge i b with h3|h3
   ·exact .inr ⟨y,by rw [gU,if_pos G,show a+1+(i - (a+1))=i by omega];exact hy,hyx⟩
   ·exact .inl G
 obtain ⟨s1,s2⟩:=dN7 ho hS hk hk2
 have hP:eY R a b=(eY l (a+1) b).take (i - (a+1))++x::(eY l (a+1) b).drop (i - (a+1)):=by
  refine List.ext_getElem? fun z=>?_
  rw [gU,hR,List.getElem?_append,List.length_take,hB]
  unfold kO
  rcases Nat.lt_trichotomy z (i - (a+1)) with h3|h3|h3
  ·rw [if_pos G,if_pos G,if_pos G,List.getElem?_take,if_pos G,gU,if_pos G]
   congr 1;omega
  ·rw [if_pos G,if_neg G,if_pos G,if_neg G,show z - min (i - (a+1)) (b - (a+1))=0 by omega,List.getElem?_cons_zero,<-hx]
   congr 1;omega
  ·obtain ⟨q,hq⟩:∃q,z - min (i - (a+1)) (b - (a+1))=q+1:=⟨z - min (i - (a+1)) (b - (a+1)) - 1,G⟩
   rw [if_neg (show ¬z < min (i - (a+1)) (b - (a+1)) by omega),hq,List.getElem?_cons_succ,List.getElem?_drop,gU]
   repeat' split
   all_goals first|rfl|omega|(congr 1 <;> omega)
 have hQ:eY l a b=x::eY l (a+1) b:=by
  refine List.ext_getElem? fun z=>?_
  cases z with
  |zero=>rw [gU,if_pos (by omega),List.getElem?_cons_zero];exact hx
  |succ z=>
   rw [List.getElem?_cons_succ,gU,gU,show a+(z+1)=a+1+z by omega]
 refine ⟨hl,?_,?_,by rw [hP];exact s1,by rw [hP,hQ];exact s2⟩
 ·refine List.ext_getElem? fun z=>?_
  rw [List.getElem?_take,List.getElem?_take]
  split
  ·rw [hR];unfold kO
   rw [if_neg G,if_neg G]
  ·rfl
 ·refine List.ext_getElem? fun z=>?_
  rw [List.getElem?_drop,List.getElem?_drop,hR]
  unfold kO
  rw [if_neg G,if_neg G]
theorem eS3{α:Type}{lt:α->α->Bool}(ho:cU2 lt){l R:List α}{a m i:Nat}{x:α}(hb:m+1<=l.length)(hx:l[m]?=some x)(hS:yD lt (eY l a m))(hi:a<=i)(hib:i<=m)(h1:i=a∨∃y,l[i - 1]?=some y/\lt x y=false)(h2:i=m∨∃y,l[i]?=some y/\lt x y=true)(hl:R.length=l.length)(hR:∀z,R[z]?=kO l i m (m+1) z):yE lt l R a (m+1):=by
 have hB:=bW1 (l:=l) (a:=a) (b:=m) G
 have hk:(i - a=0∨∃y,(eY l a m)[i - a - 1]?=some y/\lt x y=false):=by
  rcases h1 with h1|⟨y,hy,hyx⟩
  ·exact .inl G
  ·rcases Nat.eq_zero_or_pos (i - a) with h3|h3
   ·exact .inl h3
   ·exact .inr ⟨y,by rw [gU,if_pos G,show a+(i - a - 1)=i - 1 by omega];exact hy,hyx⟩
 have hk2:((eY l a m).length<=i - a∨∃y,(eY l a m)[i - a]?=some y/\lt x y=true):=by
  rcases h2 with h2|⟨y,hy,hyx⟩
  ·exact .inl G
  ·rcases Nat.lt_or_ge i m with h3|h3
   ·exact .inr ⟨y,by rw [gU,if_pos G,show a+(i - a)=i by omega];exact hy,hyx⟩
   ·exact .inl G
 obtain ⟨s1,s2⟩:=eY1 ho hS hk hk2
 have hP:eY R a (m+1)=(eY l a m).take (i - a)++x::(eY l a m).drop (i - a):=by
  refine List.ext_getElem? fun z=>?_
  rw [gU,hR,List.getElem?_append,List.length_take,hB]
  unfold kO
  rcases Nat.lt_trichotomy z (i - a) with h3|h3|h3
  ·rw [if_pos G,if_neg G,if_neg G,if_pos G,List.getElem?_take,if_pos G,gU,if_pos G]
  ·rw [if_pos G,if_pos G,if_neg G,show z - min (i - a) (m - a)=0 by omega,List.getElem?_cons_zero,<-hx]
   congr 1;omega
  ·obtain ⟨q,hq⟩:∃q,z - min (i - a) (m - a)=q+1:=⟨z - min (i - a) (m - a) - 1,G⟩
   rw [if_neg (show ¬z < min (i - a) (m - a) by omega),hq,List.getElem?_cons_succ,List.getElem?_drop,gU]
   repeat' split
   all_goals first|rfl|omega|(congr 1 <;> omega)
 have hQ:eY l a (m+1)=eY l a m++ [x]:=by
  refine List.ext_getElem? fun z=>?_
  rw [gU,List.getElem?_append,hB,gU]
  rcases Nat.lt_trichotomy z (m - a) with h3|h3|h3
  ·rw [if_pos G,if_pos G,if_pos G]
  ·rw [if_pos G,if_neg G,show z - (m - a)=0 by omega,List.getElem?_cons_zero,<-hx]
   congr 1;omega
  ·rw [if_neg G,if_neg G,List.getElem?_eq_none (by simp;omega)]
 refine ⟨hl,?_,?_,by rw [hP];exact s1,by rw [hP,hQ];exact s2.trans (List.perm_append_comm (l₁:= [x]))⟩
 ·refine List.ext_getElem? fun z=>?_
  rw [List.getElem?_take,List.getElem?_take]
  split
  ·rw [hR];unfold kO
   rw [if_neg G,if_neg G]
  ·rfl
 ·refine List.ext_getElem? fun z=>?_
  rw [List.getElem?_drop,List.getElem?_drop,hR]
  unfold kO
  rw [if_neg G,if_neg G]
section
variable {α:Type} {lt:α->α->Bool}
theorem bN2{l:List α}{a m b:Nat}(h1:a<=m)(h2:m<=b)(h3:b<=l.length):eY l a b=eY l a m++eY l m b:=by
 refine List.ext_getElem? fun z=>?_
 rw [gU,List.getElem?_append,bW1 G,gU,gU]
 repeat' split
 all_goals first|rfl|omega|(congr 1 <;> omega)
theorem bO2{l:List α}{a m i:Nat}(h1:a+i<=m):(eY l a m).take i=eY l a (a+i):=by
 refine List.ext_getElem? fun z=>?_
 rw [List.getElem?_take,gU,gU]
 repeat' split
 all_goals first|rfl|omega
theorem bM2{l:List α}{a m i:Nat}:(eY l a m).drop i=eY l (a+i) m:=by
 refine List.ext_getElem? fun z=>?_
 rw [List.getElem?_drop,gU,gU]
 repeat' split
 all_goals first|rfl|omega|(congr 1 <;> omega)
theorem bJ6{l:List α}{a b:Nat}(h:yD lt (eY l a b)):yE lt l l a b:=⟨rfl,rfl,rfl,h,List.Perm.refl _⟩
theorem dN3{l R:List α}{a b m:Nat}(h:R.take m=l.take m)(hb:b<=m):eY R a b=eY l a b:=by
 unfold eY
 have e:∀x:List α,x.take b=(x.take m).take b:=fun x=>by rw [List.take_take,Nat.min_eq_left hb]
 rw [e R,e l,h]
theorem bS7{l R:List α}{a b m:Nat}(h:R.drop m=l.drop m)(hm:m<=a):eY R a b=eY l a b:=by
 refine List.ext_getElem? fun z=>?_
 rw [gU,gU]
 split
 ·have e:=congrArg (fun q=>q[a+z - m]?) h
  simp only [List.getElem?_drop] at e
  rw [show m+(a+z - m)=a+z by omega] at e
  exact e
 ·rfl
theorem dI0{l:List α}{s m e:Nat}(h:s=m∨e=m)(h1:s<=m)(h2:m<=e)(x:Nat):l[x]?=kO l s m e x:=by
 unfold kO
 repeat' split
 all_goals first|rfl|omega|(congr 1 <;> omega)
theorem cV4{l l1:List α}{a s m e b qY:Nat}(hR:∀x,l1[x]?=kO l s m e x)(hsm:s<=m)(hme:m<=e)(hmid:qY=s+(e - m)):
 eY l1 a s=eY l a s/\eY l1 s qY=eY l m e/\eY l1 qY e=eY l s m/\eY l1 e b=eY l e b:=by
 subst hmid
 refine ⟨?_,?_,?_,?_⟩ <;>
 ·refine List.ext_getElem? fun z=>?_
  rw [gU,gU,hR]
  unfold kO
  repeat' split
  all_goals first|rfl|omega|(congr 1 <;> omega)
theorem eB3{l l1:List α}{a s m e b:Nat}(hR:∀x,l1[x]?=kO l s m e x)(has:a<=s)(hsm:s<=m)(hme:m<=e)(heb:e<=b):l1.take a=l.take a/\l1.drop b=l.drop b:=by
 constructor
 ·refine List.ext_getElem? fun z=>?_
  rw [List.getElem?_take,List.getElem?_take]
  split
  ·rw [hR];unfold kO
   rw [if_neg G,if_neg G]
  ·rfl
 ·refine List.ext_getElem? fun z=>?_
  rw [List.getElem?_drop,List.getElem?_drop,hR]
  unfold kO
  rw [if_neg G,if_neg G]
theorem bY7(ho:cU2 lt){l l1 R1 R2:List α}{a m b s e qY:Nat}(hb:b<=l.length)(hsA:yD lt (eY l a m))(hsB:yD lt (eY l m b))
 (has:a<=s) (hsm:s<=m) (hme:m<=e) (heb:e<=b) (hmid:qY=s+(e - m))
 (h1:s=a∨e=b∨∃x y,l[s - 1]?=some x/\l[e]?=some y/\lt y x=false) (h2:e=m∨s=m∨∃x y,l[s]?=some x/\l[e - 1]?=some y/\lt y x=true)
 (hl1:l1.length=l.length) (hR:∀x,l1[x]?=kO l s m e x) (k1:yE lt l1 R1 a qY) (k2:yE lt R1 R2 qY b):yE lt l R2 a b:=by
 obtain ⟨p1,p2,p3,p4⟩:=cV4 (a:=a) (b:=b) hR hsm hme hmid
 obtain ⟨f1,f2⟩:=eB3 (b:=b) hR has hsm hme heb
 have hA:(eY l a m).length=m - a:=bW1 G
 have hB:(eY l m b).length=b - m:=bW1 hb
 have t1:(eY l a m).take (s - a)=eY l a s:=by rw [bO2 G,show a+(s - a)=s by omega]
 have t2:(eY l m b).take (e - m)=eY l m e:=by rw [bO2 G,show m+(e - m)=e by omega]
 have t3:(eY l a m).drop (s - a)=eY l s m:=by rw [bM2,show a+(s - a)=s by omega]
 have t4:(eY l m b).drop (e - m)=eY l e b:=by rw [bM2,show m+(e - m)=e by omega]
 have q1:(eY R1 a qY).Perm ((eY l a m).take (s - a)++(eY l m b).take (e - m)):=by
  refine k1.perm.trans ?_
  rw [bN2 (m:=s) has G G,p1,p2,t1,t2]
 have q2:(eY R2 qY b).Perm ((eY l a m).drop (s - a)++(eY l m b).drop (e - m)):=by
  refine k2.perm.trans ?_
  rw [bS7 k1.back (Nat.le_refl _),bN2 (m:=e) G heb G,p3,p4,t3,t4]
 have hc:=eK7 ho hsA hsB (i:=s - a) (j:=e - m) (by
  rcases h1 with h1|h1|⟨x,y,hx,hy,hxy⟩
  ·exact .inl G
  ·exact .inr (.inl G)
  ·rcases Nat.eq_zero_or_pos (s - a) with h0|h0
   ·exact .inl h0
   ·rcases Nat.lt_or_ge e b with h3|h3
    ·refine .inr (.inr ⟨x,y,?_,?_,hxy⟩)
     ·rw [gU,if_pos G,show a+(s - a - 1)=s - 1 by omega];exact hx
     ·rw [gU,if_pos G,show m+(e - m)=e by omega];exact hy
    ·exact .inr (.inl G)) (by
  rcases h2 with h2|h2|⟨x,y,hx,hy,hxy⟩
  ·exact .inl G
  ·exact .inr (.inl G)
  ·rcases Nat.eq_zero_or_pos (e - m) with h0|h0
   ·exact .inl h0
   ·rcases Nat.lt_or_ge s m with h3|h3
    ·refine .inr (.inr ⟨x,y,?_,?_,hxy⟩)
     ·rw [gU,if_pos G,show a+(s - a)=s by omega];exact hx
     ·rw [gU,if_pos G,show m+(e - m - 1)=e - 1 by omega];exact hy
    ·exact .inr (.inl G))
 obtain ⟨j1,j2⟩:=eP3 hsA hsB q1 k1.srt q2 k2.srt hc
 have hl2:R2.length=l.length:=by rw [k2.len,k1.len,hl1]
 have e1:eY R2 a b=eY R1 a qY++eY R2 qY b:=by
  rw [bN2 (m:=qY) G G G,dN3 (m:=qY) k2.front (Nat.le_refl _)]
 refine ⟨hl2,?_,?_,by rw [e1];exact j1,?_⟩
 ·have e2:R2.take a=R1.take a:=by
   have h:=congrArg (List.take a) k2.front
   rw [List.take_take,List.take_take,Nat.min_eq_left G] at h
   exact h
  rw [e2,k1.front,f1]
 ·have e2:R1.drop b=l1.drop b:=by
   have h:=congrArg (List.drop (b - qY)) k1.back
   rw [List.drop_drop,List.drop_drop,show qY+(b - qY)=b by omega] at h
   exact h
  rw [k2.back,e2,f2]
 ·rw [e1,bN2 (l:=l) (a:=a) (m:=m) (b:=b) G G hb]
  exact j2
end
end Go.Proofs.YtapdhfjfgpbnnaaGreatDoor
namespace Go.Proofs
open Go.Shelf
def Tryz.lays106_ren:Go.Shelf.Ren:=⟨fun|106=>86|213=>126|265=>171|n=>n,fun|9=>9|3=>3|n=>n,fun|n=>n⟩
theorem Tryz.lays106:Go.Proofs.Lays.n106 prog Tryz.lays106_ren:={
 mixed:=by kernel_rfl
 f106:=func86.trans (congrArg some (by kernel_rfl))
 f213:=func126.trans (congrArg some (by kernel_rfl))
 f265:=func171.trans (congrArg some (by kernel_rfl))
 t3:=Tryz.underlying3
 a3:=Tryz.isAgg3
 z3:=Tryz.sizeOf3
 v3:=Tryz.zeroValue3
 t9:=Tryz.underlying9
 a9:=Tryz.isAgg9
 z9:=Tryz.sizeOf9
 v9:=Tryz.zeroValue9 }
end Go.Proofs
namespace Go.Proofs.YtapdhfjfgpbnnaaGreatDoor
open Tryz
open Go.RowKit
theorem dV4:∀a b:List UInt8,Lib.compareBytes a b=if Go.Op.bytesLess a b=true then -1 else if (Go.Op.bytesLess a b||a==b)=false then 1 else 0
 | [], []=>rfl
 | [],b::y=>by simp [Lib.compareBytes,Go.Op.bytesLess]
 |a::x, []=>by simp [Lib.compareBytes,Go.Op.bytesLess]
 |a::x,b::y=>by
  have ih:=dV4 x y
  unfold Lib.compareBytes Go.Op.bytesLess
  by_cases h1:a < b
  ·simp [h1]
  ·by_cases h2:b < a
   ·have h3:¬a=b:=fun e=>by subst e;exact h1 h2
    simp [h1,h2,h3]
   ·have h3:a=b:=by
     rcases Decidable.em (a=b) with h|h
     ·exact h
     ·rcases UInt8.lt_or_lt_of_ne h with h|h
      ·exact absurd h h1
      ·exact absurd h h2
    subst h3
    simp only [h1,if_false,ih,decide_false,Bool.false_or,beq_self_eq_true,Bool.true_and,List.cons_beq_cons]
theorem cH2(a b:M)(w:World):Calls prog 86 #[U a,U b] w (fun e w'=>e=.returned (J (qC a b))/\w.grownBy w' none):=by
 have hcon:=Any.strings_Compare Tryz.lays106 a b w
 refine Calls.mono hcon ?_
 rintro e w' ⟨rfl,rfl⟩
 refine ⟨?_,World.grownBy.refl _ _⟩
 unfold qC
 rw [dV4,ByteArray.toList_eq,ByteArray.toList_eq]
def mG(r:Rt):List Value:= [U r.cls,J r.fr,J r.to_,J r.hr,J r.dy,J r.we,J r.wk]
theorem wA(r:Rt):(mG r).length=7:=rfl
theorem dQ6(a:M):(!(a.toList==a.toList))=false:=by simp
theorem dL7(a:Int):(!decide (a=a))=false:=by simp
theorem cL1(a:M)(w:World):Calls prog 144 #[U a] w (fun e w'=>e=.returned (.bool false)/\w.grownBy w' none):=by
 refine cY ⟨6,w,none, []⟩ func144 D ntmps144 D (fZ (X:= []) cZ dA) (bX (cG D (bU (bX (bS D (bS D (W (xO D D) D (bO 5 (v':= .bool false) D (fW9 (dQ6 a)) (cG D (bU (bR ?_)))))))))))
 exact bQ D D fun wx hm=>⟨D,hm.g⟩
theorem wQ(a b:M)(w:World):Calls prog 103 #[U a,U b] w (fun e w'=>e=.returned (J (qC a b))/\w.grownBy w' none):=by
 refine cY ⟨20,w,none, []⟩ func103 D ntmps103 D (fZ (X:= []) cZ dA) (bX (cG D (bU (bX (bS D (cR D eT8 D D (fun wx hm=>(cL1 _ wx)) (cG D (bU (bX (bS D (cR D eT8 D D (fun wx hm=>(cL1 _ wx)) (cG D (bU (bJ (bX (bS D (bU (jK D (bN (bG (bJ (bJ ?_))))))))))))))))))))))
 refine bM (bS D (bU (jK D (bN (bG (bJ (bX (bS D (bS D (W (cI7 D D) D (bU ?_)))))))))))
 refine dE D (fun hh=>?_) (fun hh=>?_)
 ·have h1:(Op.bytesLess a.toList b.toList)=true:=by simpa using hh
  refine bX (cG D (bO 4 (v':=J (-1)) D D (bU (bR (F ?_)))))
  refine bQ D D fun wx hm=>?_
  refine ⟨?_,hm.g⟩
  unfold qC;rw [if_pos h1]
 have h1:(Op.bytesLess a.toList b.toList)=false:=by simpa using hh
 refine bN (bG (bJ (bX (bS D (bS D (W (eU6 D D) D (bU ?_)))))))
 refine dE D (fun hh=>?_) (fun hh=>?_)
 ·have h2:(Op.bytesLess a.toList b.toList||a.toList==b.toList)=false:=by simpa only [Bool.not_eq_true',Bool.not_eq_false'] using hh
  refine bX (cG D (bU (bR (F ?_))))
  refine bQ D D fun wx hm=>?_
  refine ⟨?_,hm.g⟩
  unfold qC;rw [if_neg (by rw [h1];decide),if_pos h2]
 have h2:(Op.bytesLess a.toList b.toList||a.toList==b.toList)=true:=by simpa only [Bool.not_eq_true',Bool.not_eq_false'] using hh
 refine bN (bG (bX (cG D (bU (bR ?_)))))
 refine bQ D D fun wx hm=>?_
 refine ⟨?_,hm.g⟩
 unfold qC;rw [if_neg (by rw [h1];decide),if_neg (by rw [h2];decide)]
theorem dR5(a:Int)(w:World):Calls prog 143 #[J a] w (fun e w'=>e=.returned (.bool false)/\w.grownBy w' none):=by
 refine cY ⟨6,w,none, []⟩ func143 D ntmps143 D (fZ (X:= []) cZ dA) (bX (cG D (bU (bX (bS D (bS D (W (gN D D) D (bO 5 (v':= .bool false) D (fW9 (dL7 a)) (cG D (bU (bR ?_)))))))))))
 exact bQ D D fun wx hm=>⟨D,hm.g⟩
theorem bV4(a b:Int)(w:World):Calls prog 102 #[J a,J b] w (fun e w'=>e=.returned (J (pT a b))/\w.grownBy w' none):=by
 refine cY ⟨20,w,none, []⟩ func102 D ntmps102 D (fZ (X:= []) cZ dA) (bX (cG D (bU (bX (bS D (cR D eS8 D D (fun wx hm=>(dR5 _ wx)) (cG D (bU (bX (bS D (cR D eS8 D D (fun wx hm=>(dR5 _ wx)) (cG D (bU (bJ (bX (bS D (bU (jK D (bN (bG (bJ (bJ ?_))))))))))))))))))))))
 refine bM (bS D (bU (jK D (bN (bG (bJ (bX (bS D (bS D (W (dF D D) D (bH (bG ?_))))))))))))
 refine cN D (fun h1=>?_) (fun h1=>?_)
 ·refine bX (cG D ?_)
  refine bO 4 (v':=J (-1)) D D (bU (bR (F ?_)))
  refine bQ D D fun wx hm=>?_
  refine ⟨?_,hm.g⟩
  unfold pT;rw [if_pos h1]
 refine bN (bG (bJ (bX (bS D (bS D (W (eM D D) D (bU ?_)))))))
 refine cN D (fun h2=>?_) (fun h2=>?_)
 ·refine bX (cG D (bU ?_))
  refine bR (F ?_)
  refine bQ D D fun wx hm=>?_
  refine ⟨?_,hm.g⟩
  unfold pT;rw [if_neg h1,if_pos h2]
 refine bN (bG (bX (cG D (bU (bR ?_)))))
 refine bQ D D fun wx hm=>?_
 refine ⟨?_,hm.g⟩
 unfold pT;rw [if_neg h1,if_neg h2]
theorem dL3(a b:Int)(g T c:Nat)(w:World)(h:Blk w g T [J a,J b]):Calls prog 101 #[H (some ⟨g,0,none⟩) 2 c] w (fun e w'=>e=.returned (J (dK [a,b]))/\w.grownBy w' none):=by
 refine cY ⟨18,w,none, []⟩ func101 D ntmps101 D (fZ (X:= [eC w.heap.size none g T [J a,J b] ]) (cC h.old cZ) (cE eC.lasts dA)) (bX (cG D (bU (bX (cG D (bU (bJ (bX (bS D (W (dP kF D) D (bO 7 (v':=J 2) D D (bS D (bU (bP (fF 3 (eK (bX (W (dF D D) D (bO 9 (v':= .bool true) D (fW9 bD) (bU (bJ (mT D (bN (bG (bJ (bP (bX (W (bV (j:=0) kF D D bD) D (W (cH (v:=J a) fM D (fun _ hm=>(hm.fact 0 D).2) D) D ?_)))))))))))))))))))))))))))))
 refine cG D (bU (bX (bS D (bS D (W (gN D D) D (bU ?_))))))
 refine gL D (fun h1=>?_) (fun h1=>?_)
 ·refine bX (bS D (cG D (bU ?_)))
  refine bR (C (F (F (C (F ?_)))))
  refine bQ D D fun wx hm=>?_
  refine ⟨?_,hm.g⟩
  rw [vQ,if_neg h1]
 refine bN (bK (bG (bM (fY D D (bO 16 (v':=J 1) D D (bS D (bH (jL (eK (bX (W (dF D D) D (bO 9 (v':= .bool true) D (fW9 bD) (bU (bJ (mT D (bN (bG (bJ (bP (bX (W (bV (j:=1) kF D D bD) D (W (cH (v:=J b) fM D (fun _ hm=>(hm.fact 0 D).2) D) D (cG D (bU (bX (bS D (bS D (W (gN D D) D (bU ?_)))))))))))))))))))))))))))))
 refine gL D (fun h2=>?_) (fun h2=>?_)
 ·refine bX (bS D (cG D (bU ?_)))
  refine bR (C (F (F (C (F ?_)))))
  refine bQ D D fun wx hm=>?_
  refine ⟨?_,hm.g⟩
  rw [vQ,if_pos h1]
 refine bN (bK (bG (bM (fY D D (bO 16 (v':=J 2) D D (bS D (bH (jL (eK (bX (W (dF D D) D (bO 9 (v':= .bool false) D (fW9 bD) (bU (bJ (jK D (dD (bI (bI (bY (bG (bX (bS D (cG D (bU (bR ?_)))))))))))))))))))))))))
 refine bQ D D fun wx hm=>?_
 refine ⟨?_,hm.g⟩
 rw [vQ,if_pos h1,h2]
theorem cK0(l:List Rt)(A:Option Addr)(n c:Nat)(w:World)(hl:SlT mG 7 168 w A n l)(hok:∀b∈l,cV2 b)(hn:n<=1000000):
 Calls prog 129 #[H A n c] w (nG w (qE l)):=by
 refine cY ⟨90,w,none, []⟩ func129 D ntmps129 D (fZ (X:= [bT mG 7 168 w.heap.size none A n l]) (cC hl.old cZ) (cE bT.lasts dA)) (bX ?_)
 have hlen:=hl.len
 refine cG D (bU (bJ (bX (bS D (W (dP bF9 D) D (W (eM D D) D (bU ?_)))))))
 refine cN D (fun h1=>?_) (fun h1=>?_)
 ·refine bX (cG D (bU ?_))
  refine bR (F ?_)
  exact bQ D D fun wx hm=>⟨cL (by unfold qE;rw [if_pos G]),hm.g⟩
 refine bN (bG (bJ (bX (bS D (W (dP bF9 D) D (bS D (bU (bP ?_))))))))
 refine dS (γ:=Nat) (fun (k:Nat)=>k<=n/\qE l=scanE gD (prevOf l k) (l.drop k)) (fun (k:Nat)=> [(0,H A n c),(11,H A n c),(12,I n),(13,I k)]) (fun (k:Nat)=>fun _=>True) (fun (k:Nat)=> []) (fun (k:Nat)=> []) (fun (k:Nat)=> [bT mG 7 168 w.heap.size none A n l]) (fun (k:Nat)=>n - k) 0 ⟨Nat.zero_le _,by unfold qE;rw [if_neg G];rfl⟩ ⟨D,D,D,D,bB⟩ (fun _ hm=>hm.pick [] [] [0] D D) ?_
 intro k bZ
 replace bZ:k<=n/\qE l=scanE gD (prevOf l k) (l.drop k):=bZ
 refine bX (W (dF D D) D (bU (bJ ?_)))
 refine cN D (fun hk=>?_) (fun hk=>?_)
 ·refine bN (bG (bJ (bP (bX ?_))))
  obtain ⟨b,off,hA,_,_⟩:=hl.get G
  subst hA
  obtain ⟨x,hx⟩:∃x,l[k]?=some x:=⟨_,fY9 G⟩
  obtain ⟨cl,fr,tt,ho,dd,we,wk⟩:=x
  have hat:=scanE_at gD l k _ hx
  have hcl:cl.size<=1000000:=hok _ (fZ9 hx)
  refine bS D (W (bV (j:=k) bF9 D D G) D (W (dR (vs:= [U cl,J fr,J tt,J ho,J dd,J we,J wk]) bY1 D (fun _ hm=>(hm.fact 0 D).1) hx D D) D (dM dK1 D fun g1=>cG D (kE (cs':= [U cl,J fr,J tt,J ho,J dd,J we,J wk]) 0 bY1 D D D D (bU (bJ (bP (bX (dZ pP D D (eO fR 0 D D D (dC D bW2 D D (fun wx hm=>(isKey_any _ wx G)) (W (cS D) D (cG D (bU ?_))))))))))))))
  refine dE D (fun hh=>?_) (fun hh=>?_)
  ·have h2:(keyB cl)=false:=by simpa using hh
   refine bX (cG D (bU (bR (C (F (C (F (F (C (F ?_))))))))))
   have hE:gD (prevOf l k) ⟨cl,fr,tt,ho,dd,we,wk⟩=5:=by unfold gD;simp [h2]
   exact bQ D D fun wx hm=>⟨cL (by rw [bZ.2,hat,if_neg (by rw [hE];decide),hE]),hm.g⟩
  have h2:(keyB cl)=true:=by simpa using hh
  refine bX (dZ qT D D (eO fM 0 D D D (W (dF D D) D (bS D ?_))))
  rcases Bool.eq_false_or_eq_true (decide (fr < 0)) with h3|h3
  ·refine bO 27 D (fW9 h3) ?_
   replace h3:=of_decide_eq_true h3
   refine eE D (eE D (eE D (eE D (eE D (mS D D (bS D (eE D (eE D (eE D (mS D D (cG D (bU (mT D (bX (cG D (bU (bR (C (F (C (F (F (C (F ?_))))))))))))))))))))))))
   have hE:gD (prevOf l k) ⟨cl,fr,tt,ho,dd,we,wk⟩=1:=by unfold gD;simp [h2,h3]
   exact bQ D D fun wx hm=>⟨cL (by rw [bZ.2,hat,if_neg (by rw [hE];decide),hE]),hm.g⟩
  refine bO 27 D (fW9 h3) ?_
  replace h3:=of_decide_eq_false h3
  refine eN D (dZ qT D D (eN D (eO fM 0 D D D (eN D (dZ rL D D (eN D (eO fM 0 D D D (eN D (W (mE D D) D (nV D D (bS D ?_)))))))))))
  rcases Bool.eq_false_or_eq_true (decide (tt<=fr)) with h4|h4
  ·refine bO 34 D (fW9 h4) ?_
   replace h4:=of_decide_eq_true h4
   refine eE D (eE D (eE D (mS D D (cG D (bU (mT D (bX (cG D (bU (bR (C (F (C (F (F (C (F ?_)))))))))))))))))
   have hE:gD (prevOf l k) ⟨cl,fr,tt,ho,dd,we,wk⟩=1:=by unfold gD;simp [h2,h3,h4]
   exact bQ D D fun wx hm=>⟨cL (by rw [bZ.2,hat,if_neg (by rw [hE];decide),hE]),hm.g⟩
  refine bO 34 D (fW9 h4) ?_
  replace h4:=of_decide_eq_false h4
  refine eN D (dZ rL D D (eN D (eO fM 0 D D D (eN D (W (eM D D) D (nV D D (cG D (bU ?_))))))))
  refine cN D (fun h5=>?_) (fun h5=>?_)
  ·refine bX (cG D (bU ?_))
   refine bR (C (F (C (F (F (C (F ?_)))))))
   have hE:gD (prevOf l k) ⟨cl,fr,tt,ho,dd,we,wk⟩=1:=by unfold gD;simp [h2,h3,h4,h5]
   exact bQ D D fun wx hm=>⟨cL (by rw [bZ.2,hat,if_neg (by rw [hE];decide),hE]),hm.g⟩
  refine bN (bK (bG (bJ (bX (dZ cE6 D D (eO fM 0 D D D (dZ bQ9 D D (eO fM 0 D D D (dZ cF6 D D (eO fM 0 D D D (dZ cG6 D D (eO fM 0 D D D (jN 3 [J ho,J dd,J we,J wk] fun g2=>W (dP kF D) D (bO 48 (v':=J 4) D D (bS D (bU (bP (fF 5 (eK (bX (W (dF D D) D (bO 50 (v':= .bool true) D (fW9 bD) ?_))))))))))))))))))))))
  refine bU (bJ (mT D (bN (bG (bJ (bP (bX (W (bV (j:=0) kF D D bD) D (eO fM 0 D D D (cG D (bU (bX (bS D (dC D pS D D (fun wx hm=>(in_any _ _ _ wx)) (W (cS D) D (bU ?_))))))))))))))))
  refine dE D (fun hh=>?_) (fun hh=>?_)
  ·have i1:(inB ho (-1) 1000000)=false:=by simpa using hh
   refine bX (cG D (bU (bR (C (F (F (C (F (C (F (F (C (F ?_)))))))))))))
   have hE:gD (prevOf l k) ⟨cl,fr,tt,ho,dd,we,wk⟩=1:=by unfold gD;simp [h2,h3,h4,h5,i1]
   exact bQ D D fun wx hm=>⟨cL (by rw [bZ.2,hat,if_neg (by rw [hE];decide),hE]),hm.g⟩
  have i1:(inB ho (-1) 1000000)=true:=by simpa using hh
  refine bN (bK (bG (bM (fY D D (bO 56 (v':=J 1) D D (bS D (bH (jL (eK (bX (W (dF D D) D (bO 50 (v':= .bool true) D (fW9 bD) (bU (bJ (mT D (bN (bG (bJ (bP (bX (W (bV (j:=1) kF D D bD) D (eO fM 0 D D D (cG D (bU (bX (bS D (dC D pS D D (fun wx hm=>(in_any _ _ _ wx)) (W (cS D) D (bU ?_)))))))))))))))))))))))))))))
  refine dE D (fun hh=>?_) (fun hh=>?_)
  ·have i2:(inB dd (-1) 1000000)=false:=by simpa using hh
   refine bX (cG D (bU (bR (C (F (F (C (F (C (F (F (C (F ?_)))))))))))))
   have hE:gD (prevOf l k) ⟨cl,fr,tt,ho,dd,we,wk⟩=1:=by unfold gD;simp [h2,h3,h4,h5,i1,i2]
   exact bQ D D fun wx hm=>⟨cL (by rw [bZ.2,hat,if_neg (by rw [hE];decide),hE]),hm.g⟩
  have i2:(inB dd (-1) 1000000)=true:=by simpa using hh
  refine bN (bK (bG (bM (fY D D (bO 56 (v':=J 2) D D (bS D (bH (jL (eK (bX (W (dF D D) D (bO 50 (v':= .bool true) D (fW9 bD) (bU (bJ (mT D (bN (bG (bJ (bP (bX (W (bV (j:=2) kF D D bD) D (eO fM 0 D D D (cG D (bU (bX (bS D (dC D pS D D (fun wx hm=>(in_any _ _ _ wx)) (W (cS D) D (bU ?_)))))))))))))))))))))))))))))
  refine dE D (fun hh=>?_) (fun hh=>?_)
  ·have i3:(inB we (-1) 1000000)=false:=by simpa using hh
   refine bX (cG D (bU (bR (C (F (F (C (F (C (F (F (C (F ?_)))))))))))))
   have hE:gD (prevOf l k) ⟨cl,fr,tt,ho,dd,we,wk⟩=1:=by unfold gD;simp [h2,h3,h4,h5,i1,i2,i3]
   exact bQ D D fun wx hm=>⟨cL (by rw [bZ.2,hat,if_neg (by rw [hE];decide),hE]),hm.g⟩
  have i3:(inB we (-1) 1000000)=true:=by simpa using hh
  refine bN (bK (bG (bM (fY D D (bO 56 (v':=J 3) D D (bS D (bH (jL (eK (bX (W (dF D D) D (bO 50 (v':= .bool true) D (fW9 bD) (bU (bJ (mT D (bN (bG (bJ (bP (bX (W (bV (j:=3) kF D D bD) D (eO fM 0 D D D (cG D (bU (bX (bS D (dC D pS D D (fun wx hm=>(in_any _ _ _ wx)) (W (cS D) D (bU ?_)))))))))))))))))))))))))))))
  refine dE D (fun hh=>?_) (fun hh=>?_)
  ·have i4:(inB wk (-1) 1000000)=false:=by simpa using hh
   refine bX (cG D (bU (bR (C (F (F (C (F (C (F (F (C (F ?_)))))))))))))
   have hE:gD (prevOf l k) ⟨cl,fr,tt,ho,dd,we,wk⟩=1:=by unfold gD;simp [h2,h3,h4,h5,i1,i2,i3,i4]
   exact bQ D D fun wx hm=>⟨cL (by rw [bZ.2,hat,if_neg (by rw [hE];decide),hE]),hm.g⟩
  have i4:(inB wk (-1) 1000000)=true:=by simpa using hh
  refine bN (bK (bG (bM ?_)))
  by_cases hk0:k=0
  ·have hE:gD (prevOf l k) ⟨cl,fr,tt,ho,dd,we,wk⟩=0:=by unfold gD;rw [bP2 hk0];simp [h2,h3,h4,h5,i1,i2,i3,i4]
   refine fY D D (bO 56 (v':=J 4) D D (bS D (bH (jL (eK (bX (W (dF D D) D (bO 50 (v':= .bool false) D (fW9 bD) (bU (bJ (jK D (dD (bI (bI (bY (bG (bJ (bX (bS D (W (eT D D) D (bO 58 (v':= .bool true) D (fW9 (decide_eq_true G)) (bU (mT D (dD (bI (bY ?_))))))))))))))))))))))))))
   refine bG (bM (fY D D (bS D (bH ?_))))
   exact cQ (k+1) ⟨G,by rw [bZ.2,hat,if_pos hE]⟩ G ⟨D,D,D,(cP G),bB⟩ (fun _ hm=>hm.pick [] [] [0] D D)
  obtain ⟨y,hy⟩:∃x,l[k - 1]?=some x:=⟨_,fY9 G⟩
  obtain ⟨p0,p1,p2,p3,p4,p5,p6⟩:=y
  have hpv:=cK7 hk0 hy
  refine fY D D (bO 56 (v':=J 4) D D (bS D (bH (jL (eK (bX (W (dF D D) D (bO 50 (v':= .bool false) D (fW9 bD) (bU (bJ (jK D (dD (bI (bI (bY (bG (bJ (bX (bS D (W (eT D D) D (bO 58 (v':= .bool false) D (fW9 (decide_eq_false G)) (bU (jK D (bN (bG (bX (bS D (bS D (W (ov_sub D D G G) D ?_)))))))))))))))))))))))))))))
  refine bO 61 (v':=I (k - 1)) D (fX9 G) (W (bV (j:=k - 1) bF9 D D G) D (W (dR (vs:= [U p0,J p1,J p2,J p3,J p4,J p5,J p6]) bY1 D (fun _ hm=>(hm.fact 0 D).1) hy D D) D (dM dK1 D fun g3=>kE (cs':= [U p0,J p1,J p2,J p3,J p4,J p5,J p6]) 0 bY1 D D D D (bU (bJ (bJ (gd (fun wz=>Blk wz g3 168 [U p0,J p1,J p2,J p3,J p4,J p5,J p6]/\Blk wz g1 168 [U cl,J fr,J tt,J ho,J dd,J we,J wk]/\True) mixed (fun _ hm=>⟨hm.bl 0,hm.bl 2,bB⟩) fun z=>wq 0 D (bW pP D D) (wq 1 D (cH fR D (fun _ hm=>hm.1) D) (wq 2 D (bW pP D D) (wq 3 D (cH fR D (fun _ hm=>hm.2.1) D) (wq 5 D (bW qT D D) (wq 6 D (cH fM D (fun _ hm=>hm.1) D) (wq 7 D (bW qT D D) (wq 8 D (cH fM D (fun _ hm=>hm.2.1) D) (eD 4 D (cR D cN8 D D (fun wx hm=>(wQ _ _ wx)) (bH (nw 13 511 (fun _ hm=>⟨hm.bl 0,hm.bl 2,bB⟩) fun z=>eD 9 D (cR D cM8 D D (fun wx hm=>(bV4 _ _ wx)) (bH (nw 13 1023 (fun _ hm=>⟨hm.bl 0,hm.bl 2,bB⟩) fun z=>eD 10 D (jN 3 [J (qC p0 cl),J (pT p1 fr)] fun g4=>bH (nw 13 2047 (fun _ hm=>⟨hm.bl 1,hm.bl 3,bB⟩) fun z=>eD 11 D ?_)))))))))))))))))))))))
  refine cR D dR4 D D (fun wx hm=>(dL3 _ _ _ _ _ wx (hm.blkI 0 D))) (bH (nw 13 4095 (fun _ hm=>⟨hm.bl 1,hm.bl 3,bB⟩) fun z=>wq 12 D (mE D D) (gY (bG ?_))))
  refine cN D (fun h8=>?_) (fun h8=>?_)
  ·refine bX ?_
   have h9:bE3 ⟨p0,p1,p2,p3,p4,p5,p6⟩ ⟨cl,fr,tt,ho,dd,we,wk⟩=false:=(eU2 ⟨p0,p1,p2,p3,p4,p5,p6⟩ ⟨cl,fr,tt,ho,dd,we,wk⟩).1 h8
   refine cG D (bU (bR (F (C (F (F (C (F ?_))))))))
   have hE:gD (prevOf l k) ⟨cl,fr,tt,ho,dd,we,wk⟩=7:=by unfold gD;rw [hpv];simp [h2,h3,h4,h5,i1,i2,i3,i4,h9]
   exact bQ D D fun wx hm=>⟨cL (by rw [bZ.2,hat,if_neg (by rw [hE];decide),hE]),hm.g⟩
  refine bN (bG (bX ?_))
  have h9:bE3 ⟨p0,p1,p2,p3,p4,p5,p6⟩ ⟨cl,fr,tt,ho,dd,we,wk⟩=true:=by
   cases h:bE3 ⟨p0,p1,p2,p3,p4,p5,p6⟩ ⟨cl,fr,tt,ho,dd,we,wk⟩
   ·exact absurd ((eU2 ⟨p0,p1,p2,p3,p4,p5,p6⟩ ⟨cl,fr,tt,ho,dd,we,wk⟩).2 h) h8
   rfl
  refine dZ pP D D (eO fR 1 D D D (dZ pP D D (eO fR 3 D D D (W (eS D D) D (bS D ?_)))))
  rcases Bool.eq_false_or_eq_true (p0.toList==cl.toList) with h12|h12
  ·refine bO 82 D (fW9 h12) ?_
   have h13:eqS p0 cl=true:=h12
   refine eN D (dZ rL D D (eN D (eO fM 1 D D D (eN D (dZ qT D D (eN D (eO fM 3 D D D (eN D (W (eM D D) D (mS D D (bU ?_)))))))))))
   refine cN D (fun h14=>?_) (fun h14=>?_)
   ·refine bX (cG D (bU ?_))
    refine bR (C (F (F (C (F ?_)))))
    have hE:gD (prevOf l k) ⟨cl,fr,tt,ho,dd,we,wk⟩=13:=by unfold gD;rw [hpv];simp [h2,h3,h4,h5,i1,i2,i3,i4,h9,h13,h14]
    exact bQ D D fun wx hm=>⟨cL (by rw [bZ.2,hat,if_neg (by rw [hE];decide),hE]),hm.g⟩
   refine bN (bK (bG (bM ?_)))
   have hE:gD (prevOf l k) ⟨cl,fr,tt,ho,dd,we,wk⟩=0:=by unfold gD;rw [hpv];simp [h2,h3,h4,h5,i1,i2,i3,i4,h9,h13,h14]
   refine fY D D (bS D (bH ?_))
   exact cQ (k+1) ⟨G,by rw [bZ.2,hat,if_pos hE]⟩ G ⟨D,D,D,(cP G),bB⟩ (fun _ hm=>hm.pick [] [] [0] D D)
  refine bO 82 D (fW9 h12) ?_
  have h13:eqS p0 cl=false:=h12
  have hE:gD (prevOf l k) ⟨cl,fr,tt,ho,dd,we,wk⟩=0:=by unfold gD;rw [hpv];simp [h2,h3,h4,h5,i1,i2,i3,i4,h9,h13]
  refine eE D (eE D (eE D (eE D (eE D (nV D D (bU (jK D (bN (bK (bG (bM (fY D D (bS D (bH ?_))))))))))))))
  exact cQ (k+1) ⟨G,by rw [bZ.2,hat,if_pos hE]⟩ G ⟨D,D,D,(cP G),bB⟩ (fun _ hm=>hm.pick [] [] [0] D D)
 refine dD (bI (bI (bY (bG (bX (cG D (bU (bR ?_))))))))
 exact bQ D D fun wx hm=>⟨cL (by rw [bZ.2,scanE_end _ _ _ _ G]),hm.g⟩
theorem cT1(l:List Rt)(A:Option Addr)(n c:Nat)(w:World)(hl:SlT mG 7 168 w A n l)(hok:∀b∈l,cV2 b)(hn:n<=1000000):
 Calls prog 77 #[H A n c] w (nG w (qE l)):=by
 refine cY ⟨107,w,none, []⟩ func77 D ntmps77 D (fZ (X:= [bT mG 7 168 w.heap.size none A n l]) (cC hl.old cZ) (cE bT.lasts dA)) (bX ?_)
 have hlen:=hl.len
 refine cG D (bU (bJ (bX (bS D (W (dP bF9 D) D (W (eM D D) D (bU ?_)))))))
 refine cN D (fun h1=>?_) (fun h1=>?_)
 ·refine bX (cG D (bU ?_))
  refine bR (F ?_)
  exact bQ D D fun wx hm=>⟨cL (by unfold qE;rw [if_pos G]),hm.g⟩
 refine bN (bG (bJ (bX (bS D (W (dP bF9 D) D (bS D (bU (bP ?_))))))))
 refine dS (γ:=Nat) (fun (k:Nat)=>k<=n/\qE l=scanE gD (prevOf l k) (l.drop k)) (fun (k:Nat)=> [(0,H A n c),(11,H A n c),(12,I n),(13,I k)]) (fun (k:Nat)=>fun _=>True) (fun (k:Nat)=> []) (fun (k:Nat)=> []) (fun (k:Nat)=> [bT mG 7 168 w.heap.size none A n l]) (fun (k:Nat)=>n - k) 0 ⟨Nat.zero_le _,by unfold qE;rw [if_neg G];rfl⟩ ⟨D,D,D,D,bB⟩ (fun _ hm=>hm.pick [] [] [0] D D) ?_
 intro k bZ
 replace bZ:k<=n/\qE l=scanE gD (prevOf l k) (l.drop k):=bZ
 refine bX (W (dF D D) D (bU (bJ ?_)))
 refine cN D (fun hk=>?_) (fun hk=>?_)
 ·refine bN (bG (bJ (bP (bX ?_))))
  obtain ⟨b,off,hA,_,_⟩:=hl.get G
  subst hA
  obtain ⟨x,hx⟩:∃x,l[k]?=some x:=⟨_,fY9 G⟩
  obtain ⟨cl,fr,tt,ho,dd,we,wk⟩:=x
  have hat:=scanE_at gD l k _ hx
  have hcl:cl.size<=1000000:=hok _ (fZ9 hx)
  refine bS D (W (bV (j:=k) bF9 D D G) D (W (dR (vs:= [U cl,J fr,J tt,J ho,J dd,J we,J wk]) bY1 D (fun _ hm=>(hm.fact 0 D).1) hx D D) D (dM dK1 D fun g1=>cG D (kE (cs':= [U cl,J fr,J tt,J ho,J dd,J we,J wk]) 0 bY1 D D D D (bU (bJ (gd (fun wz=>Blk wz g1 168 [U cl,J fr,J tt,J ho,J dd,J we,J wk]/\True) mixed (fun _ hm=>⟨hm.bl 0,bB⟩) fun z=>wq 0 D (bW cE6 D D) (wq 1 D (cH fM D (fun _ hm=>hm.1) D) (wq 2 D (bW bQ9 D D) (wq 3 D (cH fM D (fun _ hm=>hm.1) D) (wq 4 D (bW cF6 D D) (wq 5 D (cH fM D (fun _ hm=>hm.1) D) (wq 6 D (bW cG6 D D) (wq 7 D (cH fM D (fun _ hm=>hm.1) D) (wq 8 D (eT6 D D D D) (wq 9 D (bW cE6 D D) (wq 10 D (cH fM D (fun _ hm=>hm.1) D) (wq 11 D (bW bQ9 D D) (wq 12 D (cH fM D (fun _ hm=>hm.1) D) (wq 13 D (bW cF6 D D) (wq 14 D (cH fM D (fun _ hm=>hm.1) D) (wq 15 D (bW cG6 D D) (wq 16 D (cH fM D (fun _ hm=>hm.1) D) (wq 17 D (eS6 D D D D) (wq 18 D (dB D) (wq 19 D (dB D) (gY ?_)))))))))))))))))))))))))))
  refine bG (bJ (bP (bX (dZ pP D D (eO fR 0 D D D (cR D cQ8 D D (fun wx hm=>(xM _ wx G)) (W (cS D) D (cG D (bU ?_)))))))))
  refine dE D (fun hh=>?_) (fun hh=>?_)
  ·have h2:(keyB cl)=false:=by simpa using hh
   refine bX (cG D (bU (bR (C (F (C (F (F (C (F ?_))))))))))
   have hE:gD (prevOf l k) ⟨cl,fr,tt,ho,dd,we,wk⟩=5:=by unfold gD;simp [h2]
   exact bQ D D fun wx hm=>⟨cL (by rw [bZ.2,hat,if_neg (by rw [hE];decide),hE]),hm.g⟩
  have h2:(keyB cl)=true:=by simpa using hh
  refine bX (dZ qT D D (eO fM 0 D D D (W (dF D D) D (bS D ?_))))
  rcases Bool.eq_false_or_eq_true (decide (fr < 0)) with h3|h3
  ·refine bO 45 D (fW9 h3) ?_
   replace h3:=of_decide_eq_true h3
   refine eE D (eE D (eE D (eE D (eE D (mS D D (bS D (eE D (eE D (eE D (mS D D (bS D (eE D (eE D (mS D D (bS D (eE D (eE D (mS D D (cG D (bU (mT D (bX (cG D (bU (bR ?_)))))))))))))))))))))))))
   refine C (F (C (F (F (C (F ?_))))))
   have hE:gD (prevOf l k) ⟨cl,fr,tt,ho,dd,we,wk⟩=1:=by unfold gD;simp [h2,h3]
   exact bQ D D fun wx hm=>⟨cL (by rw [bZ.2,hat,if_neg (by rw [hE];decide),hE]),hm.g⟩
  refine bO 45 D (fW9 h3) ?_
  replace h3:=of_decide_eq_false h3
  refine eN D (dZ qT D D (eN D (eO fM 0 D D D (eN D (dZ rL D D (eN D (eO fM 0 D D D (eN D (W (mE D D) D (nV D D (bS D ?_)))))))))))
  rcases Bool.eq_false_or_eq_true (decide (tt<=fr)) with h4|h4
  ·refine bO 52 D (fW9 h4) ?_
   replace h4:=of_decide_eq_true h4
   refine eE D (eE D (eE D (mS D D (bS D (eE D (eE D (mS D D (bS D (eE D (eE D (mS D D (cG D (bU (mT D (bX (cG D (bU (bR (C (F (C (F (F (C (F ?_)))))))))))))))))))))))))
   have hE:gD (prevOf l k) ⟨cl,fr,tt,ho,dd,we,wk⟩=1:=by unfold gD;simp [h2,h3,h4]
   exact bQ D D fun wx hm=>⟨cL (by rw [bZ.2,hat,if_neg (by rw [hE];decide),hE]),hm.g⟩
  refine bO 52 D (fW9 h4) ?_
  replace h4:=of_decide_eq_false h4
  refine eN D (dZ rL D D (eN D (eO fM 0 D D D (eN D (W (eM D D) D (nV D D (bS D ?_)))))))
  rcases Bool.eq_false_or_eq_true (decide (4001 < tt)) with h5|h5
  ·refine bO 57 D (fW9 h5) ?_
   replace h5:=of_decide_eq_true h5
   refine eE D (eE D (mS D D (bS D (eE D (eE D (mS D D (cG D (bU (mT D (bX (cG D (bU (bR (C (F (C (F (F (C (F ?_))))))))))))))))))))
   have hE:gD (prevOf l k) ⟨cl,fr,tt,ho,dd,we,wk⟩=1:=by unfold gD;simp [h2,h3,h4,h5]
   exact bQ D D fun wx hm=>⟨cL (by rw [bZ.2,hat,if_neg (by rw [hE];decide),hE]),hm.g⟩
  refine bO 57 D (fW9 h5) ?_
  replace h5:=of_decide_eq_false h5
  refine eN D (bS D (eN D (W (dF D D) D (nV D D (bS D ?_)))))
  rcases Bool.eq_false_or_eq_true (decide (min (min (min ho dd) we) wk < -1)) with h6|h6
  ·refine bO 61 D (fW9 h6) ?_
   replace h6:=of_decide_eq_true h6
   have hi:inB ho (-1) 1000000=false∨inB dd (-1) 1000000=false∨inB we (-1) 1000000=false∨inB wk (-1) 1000000=false:=by simp only [cH4];omega
   refine eE D (eE D (mS D D (cG D (bU (mT D (bX (cG D (bU (bR (C (F (C (F (F (C (F ?_))))))))))))))))
   have hE:gD (prevOf l k) ⟨cl,fr,tt,ho,dd,we,wk⟩=1:=by unfold gD;simp [h2,h3,h4,h5,hi]
   exact bQ D D fun wx hm=>⟨cL (by rw [bZ.2,hat,if_neg (by rw [hE];decide),hE]),hm.g⟩
  refine bO 61 D (fW9 h6) ?_
  replace h6:=of_decide_eq_false h6
  refine eN D (bS D (eN D (W (eM D D) D (nV D D (cG D (bU ?_))))))
  refine cN D (fun h7=>?_) (fun h7=>?_)
  ·refine bX ?_
   have hi:inB ho (-1) 1000000=false∨inB dd (-1) 1000000=false∨inB we (-1) 1000000=false∨inB wk (-1) 1000000=false:=by simp only [cH4];omega
   refine cG D (bU (bR (C (F (C (F (F (C (F ?_)))))))))
   have hE:gD (prevOf l k) ⟨cl,fr,tt,ho,dd,we,wk⟩=1:=by unfold gD;simp [h2,h3,h4,h5,hi]
   exact bQ D D fun wx hm=>⟨cL (by rw [bZ.2,hat,if_neg (by rw [hE];decide),hE]),hm.g⟩
  refine bX ?_
  have i1:inB ho (-1) 1000000=true:=nK.2 G
  have i2:inB dd (-1) 1000000=true:=nK.2 G
  have i3:inB we (-1) 1000000=true:=nK.2 G
  have i4:inB wk (-1) 1000000=true:=nK.2 G
  by_cases hk0:k=0
  ·have hE:gD (prevOf l k) ⟨cl,fr,tt,ho,dd,we,wk⟩=0:=by unfold gD;rw [bP2 hk0];simp [h2,h3,h4,h5,i1,i2,i3,i4]
   refine bS D (W (eT D D) D (bO 67 (v':= .bool true) D (fW9 (decide_eq_true G)) (cG D (bU (mT D (dD (bO7 D (bI (bY (bG (bM (fY D D (bS D (bH ?_))))))))))))))
   exact cQ (k+1) ⟨G,by rw [bZ.2,hat,if_pos hE]⟩ G ⟨D,D,D,(cP G),bB⟩ (fun _ hm=>hm.pick [] [] [0] D D)
  obtain ⟨y,hy⟩:∃x,l[k - 1]?=some x:=⟨_,fY9 G⟩
  obtain ⟨p0,p1,p2,p3,p4,p5,p6⟩:=y
  have hpv:=cK7 hk0 hy
  refine bS D (W (eT D D) D (bO 67 (v':= .bool false) D (fW9 (decide_eq_false G)) (cG D (bU (jK D (bN (bK (bG (bX (bS D (bS D (W (ov_sub D D G G) D (bO 70 (v':=I (k - 1)) D (fX9 G) (W (bV (j:=k - 1) bF9 D D G) D (W (dR (vs:= [U p0,J p1,J p2,J p3,J p4,J p5,J p6]) bY1 D (fun _ hm=>(hm.fact 0 D).1) hy D D) D (dM dK1 D fun g2=>kE (cs':= [U p0,J p1,J p2,J p3,J p4,J p5,J p6]) 0 bY1 D D D D (bU (bP (bX (dZ pP D D (eO fR 1 D D D (dZ pP D D (eO fR 0 D D D (W (cI7 D D) D (bS D ?_)))))))))))))))))))))))))
  rcases Bool.eq_false_or_eq_true (Op.bytesLess cl.toList p0.toList) with h8|h8
  ·refine bO 79 D (fW9 h8) ?_
   have h9:bE3 ⟨p0,p1,p2,p3,p4,p5,p6⟩ ⟨cl,fr,tt,ho,dd,we,wk⟩=false:=by have h:=dM5 ⟨p0,p1,p2,p3,p4,p5,p6⟩ ⟨cl,fr,tt,ho,dd,we,wk⟩;simp only at h;rw [h8] at h;simpa using h.symm
   refine eE D (eE D (eE D (eE D (eE D (eE D (gnd D D D (gnd D D D (gnd D D D (gnd D D D (gnd D D D (eE D (mS D D (cG D (bU (mT D (bX (cG D (bU (bR (C (C (F (F (C (F ?_)))))))))))))))))))))))))
   have hE:gD (prevOf l k) ⟨cl,fr,tt,ho,dd,we,wk⟩=7:=by unfold gD;rw [hpv];simp [h2,h3,h4,h5,i1,i2,i3,i4,h9]
   exact bQ D D fun wx hm=>⟨cL (by rw [bZ.2,hat,if_neg (by rw [hE];decide),hE]),hm.g⟩
  refine bO 79 D (fW9 h8) (eN D (dZ pP D D (eN D (eO fR 1 D D D (eN D (dZ pP D D (eN D (eO fR 0 D D D (eN D (W (eS D D) D (eN D (bS D ?_))))))))))))
  rcases Bool.eq_false_or_eq_true (cl.toList==p0.toList) with h10|h10
  ·refine bO 85 D (fW9 h10) ?_
   refine eN D (dZ qT D D (eN D (eO fM 1 D D D (eN D (dZ qT D D (eN D (eO fM 0 D D D (eN D (W (mJ D D) D (eN D (mS D D (nV D D (cG D (bU ?_))))))))))))))
   refine cN D (fun h11=>?_) (fun h11=>?_)
   ·refine bX ?_
    have h9:bE3 ⟨p0,p1,p2,p3,p4,p5,p6⟩ ⟨cl,fr,tt,ho,dd,we,wk⟩=false:=by have h:=dM5 ⟨p0,p1,p2,p3,p4,p5,p6⟩ ⟨cl,fr,tt,ho,dd,we,wk⟩;simp only at h;rw [h8,h10,decide_eq_true h11] at h;simpa using h.symm
    refine cG D (bU (bR (C (C (F (F (C (F ?_))))))))
    have hE:gD (prevOf l k) ⟨cl,fr,tt,ho,dd,we,wk⟩=7:=by unfold gD;rw [hpv];simp [h2,h3,h4,h5,i1,i2,i3,i4,h9]
    exact bQ D D fun wx hm=>⟨cL (by rw [bZ.2,hat,if_neg (by rw [hE];decide),hE]),hm.g⟩
   refine bX ?_
   have h9:bE3 ⟨p0,p1,p2,p3,p4,p5,p6⟩ ⟨cl,fr,tt,ho,dd,we,wk⟩=true:=by have h:=dM5 ⟨p0,p1,p2,p3,p4,p5,p6⟩ ⟨cl,fr,tt,ho,dd,we,wk⟩;simp only at h;rw [h8,h10,decide_eq_false h11] at h;simpa using h.symm
   refine dZ pP D D (eO fR 1 D D D (dZ pP D D (eO fR 0 D D D (W (eS D D) D (bS D ?_)))))
   rcases Bool.eq_false_or_eq_true (cl.toList==p0.toList) with h12|h12
   ·refine bO 99 D (fW9 h12) ?_
    have h13:eqS p0 cl=true:=(by have h:=h12;unfold eqS;simp only [beq_iff_eq] at h ⊢;exact h.symm)
    refine eN D (dZ rL D D (eN D (eO fM 0 D D D (eN D (dZ qT D D (eN D (eO fM 1 D D D (eN D (W (eM D D) D (mS D D (cG D (bU ?_))))))))))))
    refine cN D (fun h14=>?_) (fun h14=>?_)
    ·refine bX (cG D (bU ?_))
     refine bR (C (C (F (F (C (F ?_))))))
     have hE:gD (prevOf l k) ⟨cl,fr,tt,ho,dd,we,wk⟩=13:=by unfold gD;rw [hpv];simp [h2,h3,h4,h5,i1,i2,i3,i4,h9,h13,h14]
     exact bQ D D fun wx hm=>⟨cL (by rw [bZ.2,hat,if_neg (by rw [hE];decide),hE]),hm.g⟩
    refine bN (bK (bK (bG (bM ?_))))
    have hE:gD (prevOf l k) ⟨cl,fr,tt,ho,dd,we,wk⟩=0:=by unfold gD;rw [hpv];simp [h2,h3,h4,h5,i1,i2,i3,i4,h9,h13,h14]
    refine fY D D (bS D (bH ?_))
    exact cQ (k+1) ⟨G,by rw [bZ.2,hat,if_pos hE]⟩ G ⟨D,D,D,(cP G),bB⟩ (fun _ hm=>hm.pick [] [] [0] D D)
   refine bO 99 D (fW9 h12) ?_
   have h13:eqS p0 cl=false:=(by have h:=h12;unfold eqS;simp only [beq_eq_false_iff_ne,ne_eq] at h ⊢;exact fun e=>h e.symm)
   have hE:gD (prevOf l k) ⟨cl,fr,tt,ho,dd,we,wk⟩=0:=by unfold gD;rw [hpv];simp [h2,h3,h4,h5,i1,i2,i3,i4,h9,h13]
   refine eE D (eE D (eE D (eE D (eE D (nV D D (cG D (bU (jK D (bN (bK (bK (bG (bM (fY D D (bS D (bH ?_))))))))))))))))
   exact cQ (k+1) ⟨G,by rw [bZ.2,hat,if_pos hE]⟩ G ⟨D,D,D,(cP G),bB⟩ (fun _ hm=>hm.pick [] [] [0] D D)
  refine bO 85 D (fW9 h10) ?_
  have h9:bE3 ⟨p0,p1,p2,p3,p4,p5,p6⟩ ⟨cl,fr,tt,ho,dd,we,wk⟩=true:=by have h:=dM5 ⟨p0,p1,p2,p3,p4,p5,p6⟩ ⟨cl,fr,tt,ho,dd,we,wk⟩;simp only at h;rw [h8,h10] at h;simpa using h.symm
  refine eE D (eE D (eE D (eE D (eE D (eN D (nV D D (nV D D (cG D (bU (jK D (bX (dZ pP D D (eO fR 1 D D D (dZ pP D D (eO fR 0 D D D (W (eS D D) D (bS D ?_)))))))))))))))))
  rcases Bool.eq_false_or_eq_true (cl.toList==p0.toList) with h12|h12
  ·refine bO 99 D (fW9 h12) ?_
   have h13:eqS p0 cl=true:=(by have h:=h12;unfold eqS;simp only [beq_iff_eq] at h ⊢;exact h.symm)
   refine eN D (dZ rL D D (eN D (eO fM 0 D D D (eN D (dZ qT D D (eN D (eO fM 1 D D D (eN D (W (eM D D) D (mS D D (cG D (bU ?_))))))))))))
   refine cN D (fun h14=>?_) (fun h14=>?_)
   ·refine bX (cG D (bU ?_))
    refine bR (C (C (F (F (C (F ?_))))))
    have hE:gD (prevOf l k) ⟨cl,fr,tt,ho,dd,we,wk⟩=13:=by unfold gD;rw [hpv];simp [h2,h3,h4,h5,i1,i2,i3,i4,h9,h13,h14]
    exact bQ D D fun wx hm=>⟨cL (by rw [bZ.2,hat,if_neg (by rw [hE];decide),hE]),hm.g⟩
   refine bN (bK (bK (bG (bM ?_))))
   have hE:gD (prevOf l k) ⟨cl,fr,tt,ho,dd,we,wk⟩=0:=by unfold gD;rw [hpv];simp [h2,h3,h4,h5,i1,i2,i3,i4,h9,h13,h14]
   refine fY D D (bS D (bH ?_))
   exact cQ (k+1) ⟨G,by rw [bZ.2,hat,if_pos hE]⟩ G ⟨D,D,D,(cP G),bB⟩ (fun _ hm=>hm.pick [] [] [0] D D)
  refine bO 99 D (fW9 h12) ?_
  have h13:eqS p0 cl=false:=(by have h:=h12;unfold eqS;simp only [beq_eq_false_iff_ne,ne_eq] at h ⊢;exact fun e=>h e.symm)
  have hE:gD (prevOf l k) ⟨cl,fr,tt,ho,dd,we,wk⟩=0:=by unfold gD;rw [hpv];simp [h2,h3,h4,h5,i1,i2,i3,i4,h9,h13]
  refine eE D (eE D (eE D (eE D (eE D (nV D D (cG D (bU (jK D (bN (bK (bK (bG (bM (fY D D (bS D (bH ?_))))))))))))))))
  exact cQ (k+1) ⟨G,by rw [bZ.2,hat,if_pos hE]⟩ G ⟨D,D,D,(cP G),bB⟩ (fun _ hm=>hm.pick [] [] [0] D D)
 refine dD (bI (bI (bY (bG (bX (cG D (bU (bR ?_))))))))
 exact bQ D D fun wx hm=>⟨cL (by rw [bZ.2,scanE_end _ _ _ _ G]),hm.g⟩
theorem bC9(vl:List Vh)(pl:List Pl)(sA cA vA pA:Option Addr)(sn sc cn cc vn vc pn pc:Nat)(w:World)(_:SlT kG 2 55 w vA vn vl)(hp:SlT dF0 3 253 w pA pn pl)(_:vn<=1000000)(_:pn<=1000000)(_:eR9 vl)(hpok:∀x∈pl,fT2 x):
 Calls prog 128 #[.agg #[H sA sn sc,H cA cn cc,H vA vn vc,H pA pn pc]] w (nG w (bV9 vl pl)):=by
 refine cY ⟨97,w,none, []⟩ func128 D ntmps128 D (fZ (X:= []) cZ dA) (bX ?_)
 have e0:pl= []:=by
  cases pl with
  |nil=>rfl
  |cons x r=>exact absurd (hpok x (List.mem_cons_self ..)) (fun h=>h)
 subst e0
 have hpn0:pn=0:=hp.len.symm
 subst hpn0
 refine fS D D D fun g1=>cG D (bU (bJ (bX (dZ eF1 D D (eO fU5 0 D D D (W (dP fZ4 D) D (bO 10 (v':=J 0) D D (W (eM D D) D (bO 11 (v':= .bool false) D (fW9 bD) (bU (jK D (bN (bG (bJ (bX (dZ eF1 D D (eO fU5 0 D D D (W (dP fZ4 D) D (bO 14 (v':=J 0) D D (bS D (bU (bP (fF 1 (eK (bX (W (dF D D) D (bO 16 (v':= .bool false) D (fW9 bD) ?_)))))))))))))))))))))))))))
 refine bU (bJ (jK D (dD (bI (bI (bY (bG (bX (cG D (bU (bR ?_)))))))))))
 exact bQ D D fun wx hm=>⟨D,hm.g⟩
theorem dD2{sl:List St}{cl:List Cs}{vl:List Vh}{pl:List Pl}{vn:Nat}(hl:vl.length=vn)(h:dK [stationsE sl,eR cl,dO (decide ((500:Int) < ((vn:Nat):Int))) 2]≠0):vY sl cl vl pl=dK [stationsE sl,eR cl,dO (decide ((500:Int) < ((vn:Nat):Int))) 2]:=by
 unfold vY
 by_cases h1:stationsE sl=0
 ·by_cases h2:eR cl=0
  ·by_cases h3:(500:Int) < ((vn:Nat):Int)
   ·have h4:dY0 cl vl=2:=by unfold dY0;rw [if_pos G]
    rw [h1,h2,h4,decide_eq_true h3];rfl
   ·rw [h1,h2,decide_eq_false h3] at h
    exact absurd D h
  ·simp [dK,h1,h2]
 ·simp [dK,h1]
theorem dE2{sl:List St}{cl:List Cs}{vl:List Vh}{pl:List Pl}{vn:Nat}(hl:vl.length=vn)(h:dK [stationsE sl,eR cl,dO (decide ((500:Int) < ((vn:Nat):Int))) 2]=0):stationsE sl=0/\eR cl=0/\vn<=500/\vY sl cl vl pl=dK [scanE (vhE cl) none vl,bV9 vl pl]:=by
 have hz:=uD h
 have h1:=hz (stationsE sl) (by simp)
 have h2:=hz (eR cl) (by simp)
 have h3:=hz (dO (decide ((500:Int) < ((vn:Nat):Int))) 2) (by simp)
 have h4:¬(500:Int) < ((vn:Nat):Int):=fun h=>by rw [decide_eq_true h] at h3;cases h3
 refine ⟨h1,h2,G,?_⟩
 unfold vY dY0
 rw [h1,h2,if_neg G];rfl
theorem bP9{a b:Int}(h:a≠0):dK [a,b]=a:=by simp [dK,h]
theorem eD1{b:Int}:dK [0,b]=b:=by
 by_cases h:b=0
 ·subst h;rfl
 ·simp [dK,h]
theorem eW7{cl:List Cs}{p:Option Vh}{b:Vh}(h:keyB b.key=false):vhE cl p b=5:=by unfold vhE;rw [h];rfl
theorem eX7{cl:List Cs}{p:Option Vh}{b:Vh}(h:keyB b.key=true)(h2:cF7 p b=true):vhE cl p b=7:=by unfold vhE;rw [h,h2];rfl
theorem cD5{cl:List Cs}{p:Option Vh}{b:Vh}(h:keyB b.key=true)(h2:cF7 p b=false):vhE cl p b=if kL (nS b.cls) cl 0 < 0 then 8 else 0:=by unfold vhE;rw [h,h2];rfl
theorem cH0(sl:List St)(cl:List Cs)(vl:List Vh)(pl:List Pl)(sA cA vA pA:Option Addr)(sn sc cn cc vn vc pn pc:Nat)(w:World)(hs:SlT stEnc 15 74 w sA sn sl)(hc:SlT dQ 2 53 w cA cn cl)(hv:SlT kG 2 55 w vA vn vl)(hp:SlT dF0 3 253 w pA pn pl)(bA4:∀x∈sl,StOk x)(cV6:∀x∈cl,pR x)(cX6:∀x∈vl,dT9 x)(hpok:∀x∈pl,fT2 x)(hsn:sn<=1000000)(yC:cn<=1000000)(hvn:vn<=1000000)(hpn:pn<=1000000):
 Calls prog 91 #[.agg #[H sA sn sc,H cA cn cc,H vA vn vc,H pA pn pc]] w (nG w (vY sl cl vl pl)):=by
 refine cY ⟨60,w,none, []⟩ func91 D ntmps91 D (fZ (X:= [bT stEnc 15 74 w.heap.size none sA sn sl,bT dQ 2 53 w.heap.size none cA cn cl,bT kG 2 55 w.heap.size none vA vn vl,bT dF0 3 253 w.heap.size none pA pn pl]) (cC hs.old (cC hc.old (cC hv.old (cC hp.old cZ)))) (cE bT.lasts (cE bT.lasts (cE bT.lasts (cE bT.lasts dA))))) (bX ?_)
 have hlen:=hv.len
 obtain ⟨SE,hSE⟩:∃z,z=stationsE sl:=⟨_,rfl⟩
 obtain ⟨CE,hCE⟩:∃z,z=eR cl:=⟨_,rfl⟩
 obtain ⟨FE,hFE⟩:∃z,z=dK [stationsE sl,eR cl,dO (decide ((500:Int) < ((vn:Nat):Int))) 2]:=⟨_,rfl⟩
 have hFE2:FE=dK [SE,CE,dO (decide ((500:Int) < ((vn:Nat):Int))) 2]:=by rw [hFE,hSE,hCE]
 refine fS D D D fun g1=>cG D (bU (bJ ?_))
 refine pB (γ:=Unit) (I':=(fun (uu:Unit)=>True)) (S':=(fun (uu:Unit)=> [(1,.pointer (some ⟨g1,0,none⟩)),(2,J 0),(3,J FE)])) (K':=(fun (uu:Unit)=>fun _=>True)) (L':=(fun (uu:Unit)=> [(g1,31, [H sA sn sc,H cA cn cc,H vA vn vc,H pA pn pc])])) (O':=(fun (uu:Unit)=> [])) (X':=(fun (uu:Unit)=> [bT stEnc 15 74 w.heap.size none sA sn sl,bT dQ 2 53 w.heap.size none cA cn cl,bT kG 2 55 w.heap.size none vA vn vl,bT dF0 3 253 w.heap.size none pA pn pl])) ?_ ?_
 ·refine gd (fun wz=>Blk wz g1 31 [H sA sn sc,H cA cn cc,H vA vn vc,H pA pn pc]/\True) mixed (fun _ hm=>⟨hm.bl 0,bB⟩) fun z=>?_
  refine wq 0 D (bW eE1 D D) (wq 1 D (cH fT5 D (fun _ hm=>hm.1) D) (wq 3 D (bW xT D D) (wq 4 D (cH cO3 D (fun _ hm=>hm.1) D) (wq 6 D (bW xU D D) (wq 7 D (cH bU7 D (fun _ hm=>hm.1) D) (wq 8 D (dP cB9 D) (wq 9 D (eM D D) (eD 2 D (cR (v:=J SE) D fK3 D D (fun wx hm=>(by rw [hSE];exact checkStations_any sl sA sn sc wx (hm.fact 0 rfl).1 bA4 G)) (bH (nw 14 991 (fun _ hm=>⟨hm.bl 0,bB⟩) fun z=>eD 5 D (cR (v:=J CE) D eB5 D D (fun wx hm=>(by rw [hCE];exact qQ cl cA cn cc wx (hm.fact 1 rfl).1 cV6 G)) (bH (nw 14 1023 (fun _ hm=>⟨hm.bl 0,bB⟩) fun z=>eD 10 D (dC D qB D D (fun wx hm=>(eH _ _ wx)) (bH (nw 14 2047 (fun _ hm=>⟨hm.bl 0,bB⟩) fun z=>eD 11 D (jN 48 [J SE,J CE,J (dO (decide (500 < ((vn:Nat):Int))) 2)] fun g2=>bH (nw 14 4095 (fun _ hm=>⟨hm.bl 1,bB⟩) fun z=>eD 12 D (dC D vO D D (fun wx hm=>(fP [SE,CE,dO (decide (500 < ((vn:Nat):Int))) 2] _ _ _ wx (hm.blkI 0 D) (by simp))) (bH (nw 14 8191 (fun _ hm=>⟨hm.bl 1,bB⟩) fun z=>wq 13 D (dB D) (gY ?_)))))))))))))))))))))))
  exact fH () bB ⟨D,D,(cP hFE2.symm),bB⟩ (fun _ hm=>hm.pick [1] [] [0,1,2,3] D D)
 intro uu bZ
 replace bZ:True:=bZ
 refine bX (bS D (W (gN D D) D (bU ?_)))
 refine gL D (fun h1=>?_) (fun h1=>?_)
 ·refine bX ?_
  have h2:FE≠0:=by simpa using h1
  have h3:vY sl cl vl pl=FE:=by rw [hFE];exact dD2 hlen (by rw [<-hFE];exact h2)
  refine bS D (cG D (bU (bR (F ?_))))
  exact bQ D D fun wx hm=>⟨cL (by rw [h3]),hm.g⟩
 refine bN (bG (bJ (bX ?_)))
 have h2:FE=0:=by simpa using h1
 obtain ⟨_,hcz,hv5,hfl⟩:=dE2 (sl:=sl) (cl:=cl) (pl:=pl) hlen (hFE.symm.trans h2)
 refine dZ xU D D (eO bU7 0 D D D (W (dP cB9 D) D (bS D (bU (bP ?_)))))
 refine dS (γ:=Nat) (fun (i:Nat)=>i<=vn/\scanE (vhE cl) none vl=scanE (vhE cl) (prevOf vl i) (vl.drop i)) (fun (i:Nat)=> [(1,.pointer (some ⟨g1,0,none⟩)),(23,H vA vn vc),(24,I vn),(25,I i)]) (fun (i:Nat)=>fun _=>True) (fun (i:Nat)=> [(g1,31, [H sA sn sc,H cA cn cc,H vA vn vc,H pA pn pc])]) (fun (i:Nat)=> []) (fun (i:Nat)=> [bT stEnc 15 74 w.heap.size none sA sn sl,bT dQ 2 53 w.heap.size none cA cn cl,bT kG 2 55 w.heap.size none vA vn vl,bT dF0 3 253 w.heap.size none pA pn pl]) (fun (i:Nat)=>vn - i) 0 ⟨Nat.zero_le _,D⟩ ⟨D,D,D,D,bB⟩ (fun _ hm=>hm.pick [0] [] [0,1,2,3] D D) ?_
 intro i bZ
 replace bZ:i<=vn/\scanE (vhE cl) none vl=scanE (vhE cl) (prevOf vl i) (vl.drop i):=bZ
 refine bX ?_
 obtain ⟨hi0,hsc⟩:=bZ
 refine W (dF D D) D (bU (bJ ?_))
 refine cN D (fun hi=>?_) (fun hi=>?_)
 ·refine bN (bG (bJ (bP (bX ?_))))
  obtain ⟨bv,ov,hA,_,_⟩:=hv.get G
  subst hA
  obtain ⟨x,hx⟩:∃x,vl[i]?=some x:=⟨_,fY9 G⟩
  obtain ⟨vk,vc2⟩:=x
  have hat:=scanE_at (vhE cl) vl i _ hx
  obtain ⟨hvk,hvc2⟩:=cX6 _ (fZ9 hx)
  have hvk:vk.size<=1000000:=hvk
  refine bS D (W (bV (j:=i) cB9 D D G) D (W (dR (vs:= [U vk,U vc2]) dP8 D (fun _ hm=>(hm.fact 2 D).1) hx D D) D (dM fL2 D fun g3=>cG D (kE (cs':= [U vk,U vc2]) 0 dP8 D D D D (bU (bP (bX (dZ cN6 D D (eO fR 0 D D D (dC D bW2 D D (fun wx hm=>(isKey_any _ wx G)) (W (cS D) D (cG D (bU ?_)))))))))))))
  refine dE D (fun hh=>?_) (fun hh=>?_)
  ·have h3:(keyB vk)=false:=by simpa using hh
   refine bX (cG D (bU (bR (C (C (F (F (C (F ?_)))))))))
   have hE:vhE cl (prevOf vl i) ⟨vk,vc2⟩=5:=eW7 (by simpa using h3)
   have hF:scanE (vhE cl) none vl=5:=by rw [hsc,hat,if_neg (by rw [hE];decide),hE]
   exact bQ D D fun wx hm=>⟨cL (by rw [hfl,hF,bP9 bD]),hm.g⟩
  have h3:(keyB vk)=true:=by simpa using hh
  refine bJ ?_
  by_cases h0:i=0
  ·have hle:cF7 (prevOf vl i) ⟨vk,vc2⟩=false:=by rw [pM h0];rfl
   have h8:=cD5 (cl:=cl) (b:=⟨vk,vc2⟩) (by simpa using h3) hle
   refine gd (fun wz=>True) mixed (fun _ _=>bB) fun z=>wq 0 D (bL D) (wq 1 D (eM D D) (dI 37 (v':= .bool false) D (fW9 (decide_eq_false G)) (wq 2 D (bL D) (eL 3 D (eL 4 D (eL 5 D (eL 6 D (eL 7 D (eL 8 D (eL 9 D (eL 10 D (eL 11 D (eL 12 D (wq 13 D (eZ D D) (wq 14 D (dB D) (gY (bG (jK D (bX (dZ xT D D (eO cO3 1 D D D (dZ cO6 D D (eO fR 0 D D D (cR D cO8 D D (fun wx hm=>(vP cl cA cn cc vc2 wx (hm.fact 1 D).1 G)) (W (dF D D) D (cG D (bU ?_)))))))))))))))))))))))))))
   refine cN D (fun h5=>?_) (fun h5=>?_)
   ·refine bX (cG D (bU ?_))
    refine bR (C (C (F (F (C (F ?_))))))
    have hE:vhE cl (prevOf vl i) ⟨vk,vc2⟩=8:=by rw [h8,if_pos h5]
    have hF:scanE (vhE cl) none vl=8:=by rw [hsc,hat,if_neg (by rw [hE];decide),hE]
    exact bQ D D fun wx hm=>⟨cL (by rw [hfl,hF,bP9 bD]),hm.g⟩
   refine bN (bK (bK (bG (bM ?_))))
   have hE:vhE cl (prevOf vl i) ⟨vk,vc2⟩=0:=by rw [h8,if_neg h5]
   refine fY D D (bS D (bH ?_))
   exact cQ (i+1) ⟨G,by rw [hsc,hat,if_pos hE]⟩ G ⟨D,D,D,(cP G),bB⟩ (fun _ hm=>hm.pick [1] [] [0,1,2,3] D D)
  obtain ⟨yy,hy⟩:∃x,vl[i - 1]?=some x:=⟨_,fY9 G⟩
  obtain ⟨uk,uc⟩:=yy
  refine gd (fun wz=>Blk wz g3 55 [U vk,U vc2]/\Blk wz g1 31 [H sA sn sc,H cA cn cc,H (some ⟨bv,ov,none⟩) vn vc,H pA pn pc]/\(bT kG 2 55 w.heap.size none (some ⟨bv,ov,none⟩) vn vl) wz/\True) mixed (fun _ hm=>⟨hm.bl 0,hm.bl 1,hm.fa 2,bB⟩) fun z=>wq 0 D (bL D) (wq 1 D (eM D D) (dI 37 (v':= .bool true) D (fW9 (decide_eq_true G)) (wq 2 D (bL D) (eU 3 D (bW cN6 D D) (eU 4 D (cH fR D (fun _ hm=>hm.1) D) (eU 5 D (bW xU D D) (eU 6 D (cH bU7 D (fun _ hm=>hm.2.1) D) (eU 7 D (bL D) (eU 8 D (ov_sub D D G G) (dI 44 (v':=I ((i - 1))) D (fX9 G) (eU 9 D (bV (j:=(i - 1)) cB9 D D G) (eU 10 D (bW cN6 D D) (eU 11 D (dH (k:=0) (v:=U uk) fR D (fun _ hm=>(hm.2.2.1).1) hy D D) (eU 12 D (wH D D) (wq 13 D (fG D D) (wq 14 D (dB D) (gY (bG ?_))))))))))))))))))
  refine dE D (fun hh=>?_) (fun hh=>?_)
  ·have h4:(Op.bytesLess vk.toList uk.toList||vk.toList==uk.toList)=true:=by simpa using hh
   refine bX ?_
   have hle:cF7 (prevOf vl i) ⟨vk,vc2⟩=true:=by rw [jZ h0 hy];exact h4
   refine cG D (bU (bR (C (C (F (F (C (F ?_))))))))
   have hE:vhE cl (prevOf vl i) ⟨vk,vc2⟩=7:=eX7 (by simpa using h3) hle
   have hF:scanE (vhE cl) none vl=7:=by rw [hsc,hat,if_neg (by rw [hE];decide),hE]
   exact bQ D D fun wx hm=>⟨cL (by rw [hfl,hF,bP9 bD]),hm.g⟩
  have h4:(Op.bytesLess vk.toList uk.toList||vk.toList==uk.toList)=false:=by simpa using hh
  refine bX ?_
  have hle:cF7 (prevOf vl i) ⟨vk,vc2⟩=false:=by rw [jZ h0 hy];exact h4
  have h8:=cD5 (cl:=cl) (b:=⟨vk,vc2⟩) (by simpa using h3) hle
  refine dZ xT D D (eO cO3 1 D D D (dZ cO6 D D (eO fR 0 D D D (cR D cO8 D D (fun wx hm=>(vP cl cA cn cc vc2 wx (hm.fact 1 D).1 G)) (W (dF D D) D (cG D (bU ?_)))))))
  refine cN D (fun h5=>?_) (fun h5=>?_)
  ·refine bX (cG D (bU ?_))
   refine bR (C (C (F (F (C (F ?_))))))
   have hE:vhE cl (prevOf vl i) ⟨vk,vc2⟩=8:=by rw [h8,if_pos h5]
   have hF:scanE (vhE cl) none vl=8:=by rw [hsc,hat,if_neg (by rw [hE];decide),hE]
   exact bQ D D fun wx hm=>⟨cL (by rw [hfl,hF,bP9 bD]),hm.g⟩
  refine bN (bK (bK (bG (bM ?_))))
  have hE:vhE cl (prevOf vl i) ⟨vk,vc2⟩=0:=by rw [h8,if_neg h5]
  refine fY D D (bS D (bH ?_))
  exact cQ (i+1) ⟨G,by rw [hsc,hat,if_pos hE]⟩ G ⟨D,D,D,(cP G),bB⟩ (fun _ hm=>hm.pick [1] [] [0,1,2,3] D D)
 refine dD (bI (bI (bY (bG (bX ?_)))))
 have hz:scanE (vhE cl) none vl=0:=by rw [hsc,List.drop_eq_nil_of_le G];rfl
 have fE5:eR9 vl:=(dV5 hz).1
 obtain ⟨PE,hPE⟩:∃z,z=bV9 vl pl:=⟨_,rfl⟩
 refine W (dG eZ6 D (fun _ hm=>hm.blkI 0 D) D D) D (cR (v:=J PE) D fO3 D D (fun wx hm=>(by rw [hPE];exact bC9 vl pl sA cA vA pA sn sc cn cc vn vc pn pc wx (hm.fact 2 rfl).1 (hm.fact 3 rfl).1 G G fE5 hpok)) (cG D (bU (bR ?_))))
 exact bQ D D fun wx hm=>⟨cL (by rw [hfl,hz,eD1,hPE]),hm.g⟩
theorem dD3(hs:List Int)(h:hs.length=14):∃a0 a1 a2 a3 a4 a5 a6 a7 a8 a9 a10 a11 a12 a13,hs= [a0,a1,a2,a3,a4,a5,a6,a7,a8,a9,a10,a11,a12,a13]:=by
 match hs,h with
 | [a0,a1,a2,a3,a4,a5,a6,a7,a8,a9,a10,a11,a12,a13],_=>exact ⟨a0,a1,a2,a3,a4,a5,a6,a7,a8,a9,a10,a11,a12,a13,rfl⟩
def bH7(hs:List Int)(d:Int):Int:=d *1440+frAt hs (d % 7).toNat
def bI7(hs:List Int)(d:Int):Int:=d *1440+toAt hs (d % 7).toNat
def eQ9(w:World)(a b:Int)(e:Ending)(w':World):Prop:=e=.returned (.agg #[J a,J b])/\w.grownBy w' none
theorem dK7(key:M)(hs:List Int)(d:Int)(w:World)(hl:hs.length=14)(hd0:0<=d)(hd1:d<=1000000000)(hb:∀h∈hs, -1000000000000000000<=h/\h<=1000000000000000000):
 Calls prog 65 #[.agg (stCells key hs).toArray,J d] w (eQ9 w (bH7 hs d) (bI7 hs d)):=by
 obtain ⟨j,hj⟩:∃j:Nat,(j:Int)=d % 7:=⟨(d % 7).toNat,G⟩
 have hj7:j < 7:=G
 have hF:bH7 hs d=d *1440+frAt hs j:=by unfold bH7;rw [<-hj];simp
 have hT:bI7 hs d=d *1440+toAt hs j:=by unfold bI7;rw [<-hj];simp
 have hf: -1000000000000000000<=frAt hs j/\frAt hs j<=1000000000000000000:=by
  unfold frAt;rw [List.getD_eq_getElem?_getD,fY9 G];exact hb _ (List.getElem_mem _)
 have ht: -1000000000000000000<=toAt hs j/\toAt hs j<=1000000000000000000:=by
  unfold toAt;rw [List.getD_eq_getElem?_getD,fY9 G];exact hb _ (List.getElem_mem _)
 rw [hF,hT]
 have hvs:((hs.map (Value.int .i64)).drop (j *2)).take 2= [J (frAt hs j),J (toAt hs j)]:=hrs_pair hs j G
 generalize frAt hs j=f at *
 generalize toAt hs j=t at *
 have hvv:∀i v, [J f,J t][i]?=some v->(stCells key hs)[1+j *2+i]?=some v:=fun i v hv=>by
  rw [<-hvs,List.getElem?_take] at hv
  split at hv
  ·rw [List.getElem?_drop] at hv
   rw [show 1+j *2+i=(j *2+i)+1 by omega]
   exact hv
  ·cases hv
 have Hvv:=Lib.hid hvv
 have hj':d % 7=(j:Int):=hj.symm
 have hbox:Blk ((w.alloc (.cells (stCells key hs).toArray 74)).alloc (.cells #[J 0,J 0] 67)) w.heap.size 74 (stCells key hs):=(Blk.at_ w rfl _ _).alloc _
 clear hvv hvs hF hT hj
 go_enter func65,ntmps65
 go_wp2_with (with_reducible refine wpList_load_blk rfl 67 (.tmp 9) rfl w.heap.size (1+j *2) _ (stCells key hs) [J f,J t] _ hbox rfl Tryz.underlying67 rfl 2 info_win (by simp) Hvv.out ?_)
 refine bodyPost_ret (v:= .agg #[J (d *1440+f),J (d *1440+t)]) (by simp [results,Tryz.results65,go_sem]) D ⟨D,?_⟩
 exact grow_alloc (grow_alloc (grow_alloc (World.grownBy.refl _ _) _) _) _
theorem fV1{key:M}{hs:List Int}{w:World}{g:Nat}(h:Blk w g 74 (stCells key hs)):SlT stEnc 15 74 w (some ⟨g,0,none⟩) 1 [⟨key,hs⟩]:=
 ⟨rfl,fun _=>⟨g,0,_,_,rfl,h,fun i x hx j v hv=>by
  match i,hx with
  |0,hx=>
   simp at hx;subst hx
   simpa [stEnc] using hv⟩⟩
theorem bB7(key:M)(hs:List Int)(f:Int)(w:World)(hok:StOk ⟨key,hs⟩):
 Calls prog 63 #[.agg (stCells key hs).toArray,J f] w fun e w'=>e=.returned (J (dK [stationsE [⟨key,hs⟩],f]))/\w.grownBy w' none:=by
 have hsl:=fun (wz:World) (hz:wz.heap.size=w.heap.size+1)=>fV1 (Blk.at_ wz hz 74 (stCells key hs))
 have Hsl:=Lib.hid hsl
 have Hok:=Lib.hid hok
 clear hsl
 obtain ⟨a0,a1,a2,a3,a4,a5,a6,a7,a8,a9,a10,a11,a12,a13,rfl⟩:=dD3 hs hok.1
 clear hok
 show Calls prog 63 #[.agg #[U key,J a0,J a1,J a2,J a3,J a4,J a5,J a6,J a7,J a8,J a9,J a10,J a11,J a12,J a13],J f] w _
 go_enter func63,ntmps63
 go_wp2_with fail
 refine (checkStations_any [⟨key, [a0,a1,a2,a3,a4,a5,a6,a7,a8,a9,a10,a11,a12,a13]⟩] _ _ _ _ (Hsl.out (w.alloc (.cells #[U key,J a0,J a1,J a2,J a3,J a4,J a5,J a6,J a7,J a8,J a9,J a10,J a11,J a12,J a13] 74)) (by simp)) (by intro s hs;simp at hs;subst hs;exact Hok.out) G).mono ?_
 rintro e w1 ⟨rfl,hg1⟩
 have hg1':w.grownBy w1 none:=grow_trans (grow_alloc (grow_alloc (World.grownBy.refl _ _) _) _) hg1
 obtain ⟨E,hE⟩:∃E,E=stationsE [⟨key, [a0,a1,a2,a3,a4,a5,a6,a7,a8,a9,a10,a11,a12,a13]⟩]:=⟨_,rfl⟩
 rw [<-hE]
 have HE:=Lib.hid hE;clear hE
 go_wp2_with fail
 refine (fP [E,f] _ _ _ _ (Blk.at_ _ D _ _) (by simp)).mono ?_
 rintro e w2 ⟨rfl,rfl⟩
 go_wp2_with fail
 go_ret
 exact ⟨by rw [<-HE.out];rfl,grow_alloc hg1' _⟩
def bR9(s:St)(at_:Int):Int:=dK [stationsE [s],zS at_]
def bJ2(s:St)(at_:Int):Bool:=bR9 s at_==0&&decide (bH7 s.hs (at_ / 1440)<=at_)&&decide (at_ < bI7 s.hs (at_ / 1440))
theorem cX9(key:M)(hs:List Int)(at_:Int)(w:World)(hok:StOk ⟨key,hs⟩)(hb:∀h∈hs, -1000000000000000000<=h/\h<=1000000000000000000):
 Calls prog 28 #[.agg (stCells key hs).toArray,J at_] w (eD8 w (bJ2 ⟨key,hs⟩ at_) (bR9 ⟨key,hs⟩ at_)):=by
 have Hok:=Lib.hid hok
 have Hb:=Lib.hid hb
 clear hb
 obtain ⟨a0,a1,a2,a3,a4,a5,a6,a7,a8,a9,a10,a11,a12,a13,rfl⟩:=dD3 hs hok.1
 clear hok
 show Calls prog 28 #[.agg #[U key,J a0,J a1,J a2,J a3,J a4,J a5,J a6,J a7,J a8,J a9,J a10,J a11,J a12,J a13],J at_] w _
 go_enter func28,ntmps28
 go_wp2_with fail
 refine wp_region_still_tail 3 bC bC ?_
 change wpStill _ _ (World.drew _) _ _ _
 simp only [List.take_succ_cons,List.take_zero,List.drop_succ_cons,List.drop_zero]
 still_step
 still_step
 still_call ((cK1 at_ _).mono fun _ _ h=>⟨h.1,h.2.symm⟩)
 refine wpStill_nil ?_
 change wpList _ _ _ _ _ (World.drew _)
 go_wp2_with fail
 refine (bB7 key [a0,a1,a2,a3,a4,a5,a6,a7,a8,a9,a10,a11,a12,a13] _ _ Hok.out).mono ?_
 rintro e w1 ⟨rfl,hg1⟩
 obtain ⟨E,hE⟩:∃E,E=bR9 ⟨key, [a0,a1,a2,a3,a4,a5,a6,a7,a8,a9,a10,a11,a12,a13]⟩ at_:=⟨_,rfl⟩
 rw [show dK [stationsE [⟨key, [a0,a1,a2,a3,a4,a5,a6,a7,a8,a9,a10,a11,a12,a13]⟩],zS at_]=E from hE.symm]
 have HE:=Lib.hid hE;clear hE
 have hbox:Blk w1 w.heap.size 74 (stCells key [a0,a1,a2,a3,a4,a5,a6,a7,a8,a9,a10,a11,a12,a13]):=((Blk.at_ w rfl _ _).drewN 1).grown hg1 (by simp)
 have hgw:w.grownBy w1 none:=grow_trans (pY (grow_alloc (World.grownBy.refl _ _) _)) hg1
 clear hg1
 by_cases h0:E=0
 ·have hm:=dF3 (uZ (HE.out.symm.trans h0)).2
  have hdv:at_.tdiv 1440=at_ / 1440:=Int.tdiv_eq_ediv_of_nonneg hm.1
  have hd0:0<=at_ / 1440:=G
  have hd1:at_ / 1440<=1000000000:=G
  obtain ⟨d,hd⟩:∃d,d=at_ / 1440:=⟨_,rfl⟩
  have hV:bJ2 ⟨key, [a0,a1,a2,a3,a4,a5,a6,a7,a8,a9,a10,a11,a12,a13]⟩ at_=(decide (bH7 [a0,a1,a2,a3,a4,a5,a6,a7,a8,a9,a10,a11,a12,a13] d<=at_)&&decide (at_ < bI7 [a0,a1,a2,a3,a4,a5,a6,a7,a8,a9,a10,a11,a12,a13] d)):=by
   unfold bJ2
   rw [<-HE.out,h0,<-hd];rfl
  rw [<-hd] at hdv hd0 hd1
  have hd':at_ / 1440=d:=hd.symm
  have HV:=Lib.hid hV
  subst h0
  clear hV hd
  go_wp2_with (with_reducible refine wpList_load_all rfl 74 (.tmp 2) rfl w.heap.size _ (stCells key [a0,a1,a2,a3,a4,a5,a6,a7,a8,a9,a10,a11,a12,a13]) _ hbox rfl Tryz.underlying74 rfl 15 info_st rfl ?_)
  refine (dK7 key [a0,a1,a2,a3,a4,a5,a6,a7,a8,a9,a10,a11,a12,a13] _ _ D hd0 hd1 Hb.out).mono ?_
  rintro e w2 ⟨rfl,hg2⟩
  have hgw2:=grow_trans hgw hg2
  obtain ⟨F',hF⟩:∃F',F'=bH7 [a0,a1,a2,a3,a4,a5,a6,a7,a8,a9,a10,a11,a12,a13] d:=⟨_,rfl⟩
  obtain ⟨T,hT⟩:∃T,T=bI7 [a0,a1,a2,a3,a4,a5,a6,a7,a8,a9,a10,a11,a12,a13] d:=⟨_,rfl⟩
  rw [<-hF,<-hT] at HV ⊢
  clear hF hT hbox hgw hg2
  go_wp2_with fail
  all_goals
   go_ret2
   exact ⟨eY2 (by rw [HV.out];simp [*] <;> (intros;omega)) HE.out,grow_alloc hgw2 _⟩
 ·have hne:(E !=0)=true:=by simpa using h0
  have hV:bJ2 ⟨key, [a0,a1,a2,a3,a4,a5,a6,a7,a8,a9,a10,a11,a12,a13]⟩ at_=false:=by
   unfold bJ2
   rw [<-HE.out];simp [h0]
  have HV:=Lib.hid hV
  clear hV h0
  go_wp2_with fail
  go_ret2
  exact ⟨eY2 HV.out.symm HE.out,hgw⟩
section
variable {α:Type}
def qL(lt:α->α->Bool):Nat->List α->List α
 |0,l=>l
 |j+1,l=>match l[j+1]?,l[j]? with
  |some x,some y=>if lt x y then qL lt j ((l.set (j+1) y).set j x) else l
  |_,_=>l
def mP(lt:α->α->Bool):Nat->Nat->List α->List α
 |0,_,l=>l
 |f+1,i,l=>mP lt f (i+1) (qL lt i l)
def dY(lt:α->α->Bool)(l:List α):List α:=mP lt (l.length - 1) 1 l
theorem xA{lt:α->α->Bool}{j:Nat}{l:List α}{x y:α}(hx:l[j+1]?=some x)(hy:l[j]?=some y)(h:lt x y=true):qL lt (j+1) l=qL lt j ((l.set (j+1) y).set j x):=by
 simp only [qL,hx,hy,h,if_true]
theorem bD0{lt:α->α->Bool}{j:Nat}{l:List α}{x y:α}(hx:l[j+1]?=some x)(hy:l[j]?=some y)(h:lt x y=false):qL lt (j+1) l=l:=by
 simp only [qL,hx,hy,h,Bool.false_eq_true,if_false]
theorem wZ(lt:α->α->Bool):∀(j:Nat) (l:List α),(qL lt j l).length=l.length
 |0,_=>rfl
 |j+1,l=>by
  unfold qL
  split
  ·split
   ·rw [wZ lt j];simp
   ·rfl
  ·rfl
theorem cA1(lt:α->α->Bool):∀(f i:Nat) (l:List α),(mP lt f i l).length=l.length
 |0,_,_=>rfl
 |f+1,i,l=>by
  unfold mP
  rw [cA1 lt f,wZ]
theorem vF(lt:α->α->Bool)(l:List α):(dY lt l).length=l.length:=cA1 lt _ _ _
theorem dF9{l:List α}{j:Nat}{x y:α}(hx:l[j+1]?=some x)(hy:l[j]?=some y):((l.set (j+1) y).set j x).Perm l:=by
 obtain ⟨h1,rfl⟩:=List.getElem?_eq_some_iff.1 hx
 obtain ⟨h2,rfl⟩:=List.getElem?_eq_some_iff.1 hy
 have e:l=l.take j++l[j]::l[j+1]::l.drop (j+2):=by
  conv=>lhs;rw [<-List.take_append_drop j l,List.drop_eq_getElem_cons h2,List.drop_eq_getElem_cons h1]
 have hl:(l.take j).length=j:=by simp;omega
 have e2:(l.set (j+1) l[j]).set j l[j+1]=l.take j++l[j+1]::l[j]::l.drop (j+2):=by
  refine List.ext_getElem? fun k=>?_
  rw [List.getElem?_set,List.length_set,List.getElem?_set]
  rcases Nat.lt_trichotomy k j with hk|rfl|hk
  ·rw [if_neg G,if_neg G,List.getElem?_append_left (by rw [hl];exact hk),List.getElem?_take,if_pos hk]
  ·rw [if_pos rfl,if_pos h2,List.getElem?_append_right G,hl,Nat.sub_self];rfl
  ·rw [if_neg G,List.getElem?_append_right G,hl]
   rcases Nat.lt_trichotomy k (j+1) with h3|rfl|h3
   ·omega
   ·rw [if_pos rfl,if_pos h1,show j+1 - j=1 by omega];rfl
   ·rw [if_neg G,show k - j=(k - (j+2))+2 by omega]
    simp only [List.getElem?_cons_succ,List.getElem?_drop]
    congr 1;omega
 rw [e2]
 conv=>rhs;rw [e]
 exact List.Perm.append_left _ (List.Perm.swap _ _ _)
theorem bV7(lt:α->α->Bool):∀(j:Nat) (l:List α),(qL lt j l).Perm l
 |0,_=>List.Perm.refl _
 |j+1,l=>by
  unfold qL
  split
  ·rename_i x y hx hy
   split
   ·exact (bV7 lt j _).trans (dF9 hx hy)
   ·exact List.Perm.refl _
  ·exact List.Perm.refl _
theorem bR1(lt:α->α->Bool):∀(f i:Nat) (l:List α),(mP lt f i l).Perm l
 |0,_,_=>List.Perm.refl _
 |f+1,i,l=>(bR1 lt f (i+1) _).trans (bV7 lt i l)
theorem nO(lt:α->α->Bool)(l:List α):(dY lt l).Perm l:=bR1 lt _ _ _
theorem eJ2{lt:α->α->Bool}{l0 R S m:List α}{f i j:Nat}(hR:R=dY lt l0)(hF:mP lt f i S=R)(hS:qL lt j m=S){z:α}(hz:z∈m):z∈l0:=by
 have h1:z∈S:=by rw [<-hS];exact (bV7 lt j m).mem_iff.2 hz
 have h2:z∈R:=by rw [<-hF];exact (bR1 lt f i S).mem_iff.2 h1
 rw [hR] at h2
 exact (nO lt l0).mem_iff.1 h2
end
section
variable {P:Program} {c:Cx} {fL:Array Oper} {Q:Exit->Act->World->Prop} {rest:List Oper} {S:List (Nat×Value)} {K:World->Prop} {L:List (Nat×TypeId×List Value)} {O:List Own} {X:List (World->Prop)} {d:Nat} {ty:TypeId} {pos:String} {aft:Array Edge}
theorem bX0{n0:Nat}{Tt:List TypeId}{w:World}{base:Nat}{e:TypeId}{sz n eX g:Nat}{xs:List Value}(hS:w.ownsRow base e sz (H (some ⟨g,0,none⟩) n eX) n xs)(hX:∀A∈X,A w)(hl:∀A∈X,Lasts2 w.heap.size (some g) Tt A):gB ⟨n0,w,some g,Tt⟩ (gA base e sz n eX g xs) [] [] X w:=
 have hS2:gA base e sz n eX g xs w:=hS
 ⟨World.grownBy.refl _ _,hS2,(fun _ hx=>by cases hx),List.Pairwise.nil,(fun _ hx=>by cases hx),(fun _ hx=>by cases hx),List.Pairwise.nil,hX,gA.keeps hS2.lt.2,hl,(fun _ hr=>by cases hr;exact hS2.lt.2)⟩
theorem gB.turned{base g n eX sz:Nat}{e:TypeId}{xs xs':List Value}{w w':World}(h:gB c (gA base e sz n eX g xs) L O X w)(uG:c.row=some g)(hT:c.Tt.contains e=false)(hown:w'.ownsRow base e sz (H (some ⟨g,0,none⟩) n eX) n xs')(hg:w.grownBy w' (some g)):gB c (gA base e sz n eX g xs') L O X w':=by
 have hlt0:=h.rs g uG
 have hk:w.ownsRow base e sz (H (some ⟨g,0,none⟩) n eX) n xs:=h.k
 obtain ⟨cells,hcells⟩:∃cells,w.heap[g]?=some (.cells cells e (0,0)):=by
  rcases hk.2 with ⟨h1,_⟩|⟨g',cap',uY,h1,_,h2,_⟩
  ·cases h1
  ·injection h1 with h1 _ _
   injection h1 with h1
   injection h1 with h1 _ _
   subst h1
   exact ⟨_,h2⟩
 refine ⟨grow_trans h.g (uG ▸ hg),hown,fun x hx=>⟨(h.b x hx).1,(h.b x hx).2.grown hg (fun e=>?_)⟩,h.nd,fun r hr=>(h.o r hr).kept hg ?_,h.od,h.oo,fun A hA=>?_,gA.keeps hlt0,h.l,h.rs⟩
 ·have:=(h.b x hx).1;injection e with e;omega
 ·cases hv:r.v.ownBlock with
  |none=>exact .inl rfl
  |some g'=>exact .inr (fun e=>by have:=((h.o r hr).lt g' hv).1;injection e with e;omega)
 ·exact (h.l A hA).st w _ g e cells hcells (fun e=>by simp [e] at hT) (.inr uG) hg (h.x A hA)
theorem fN{α:Type}{enc:α->List Value}{t:TypeId}{x y:Operand}{base g n eX sz o j r m:Nat}{e:TypeId}{vs:List Value}{l:List α}{el el':α}(uG:c.row=some g)(hs:kP P t=some m)(hx:rd S x=some (.pointer (some ⟨g,o,none⟩)))(hy:rd S y=some (.agg vs.toArray))(h1:vs.all (·.oneCell')=true)(hn:vs.length=m)
 (hk:∀x,(enc x).length=sz) (ho:0+j *sz+r=o) (hj:l[j]?=some el) (hl:l.length=n) (hr:r+m<=sz) (he:kI (enc el) r vs=enc el') (hT:c.Tt.contains e=false)
 (h:WL P c fL Q rest S (gA base e sz n eX g ((l.set j el').flatMap enc)) L O X):WL P c fL Q (⟨none,.store t x y,ty,pos,aft,none⟩::rest) S (gA base e sz n eX g (l.flatMap enc)) L O X:=by
 intro a w ha hm
 have hown:w.ownsRow base e sz (H (some ⟨g,0,none⟩) n eX) n (l.flatMap enc):=hm.k
 have hjl:=(List.getElem?_eq_some_iff.1 hj).1
 have hlt:o+m<=n *sz:=by
  have:(j+1) *sz<=n *sz:=Nat.mul_le_mul_right sz G
  rw [Nat.add_mul] at this
  omega
 obtain ⟨dd,hu,_,hi⟩:=zZ hs
 rcases hown.2 with ⟨h',_⟩|⟨g',cap',uY,h',hb,hg,hnc,hcm,hcs,htake⟩
 ·simp at h'
 ·simp only [Value.slice.injEq,Option.some.injEq,Addr.mk.injEq,and_true,true_and] at h'
  obtain ⟨rfl,rfl⟩:=h'
  have hbk:Blk w g e uY.toList:=by unfold Blk;rw [Array.toArray_toList];exact hg
  have hcl:n *sz<=uY.toList.length:=by
   have:=Nat.mul_le_mul_right sz hnc
   simp [hcs];exact this
  refine wpList_store_blk D t x y D g o e uY.toList vs hbk (ha.eval hx) (ha.eval hy) m hi hn G (by simpa using h1) fun w' hb' hgr=>?_
  have hsl:=yA uY.toList o vs G
  have hfl:=bC5 enc sz hk (l.set j el')
  rw [List.length_set,hl] at hfl
  refine h _ _ ⟨ha.size,ha.val,ha.df⟩ (hm.turned uG hT ⟨hfl,.inr ⟨g,eX,(kI uY.toList o vs).toArray,D,hb,hb',hnc,hcm,by simpa [hsl] using hcs,?_⟩⟩ hgr)
  rw [List.toList_toArray,bM0 hcl G,htake,<-ho,Nat.zero_add,vZ enc sz hk hj he G]
theorem kW{f:FuncId}{x:Operand}{ags:List Operand}{ats:Array TypeId}{vs fs cs:List Value}{v:Value}{base g n eX sz:Nat}{e:TypeId}{xs xs':List Value}(uG:c.row=some g)(hT:c.Tt.contains e=false)(hx:rd S x=some (.func (.func f) fs.toArray cs.toArray))(hf:cF P f=true)(ha:rB S ags=some vs)(hd:Nat.ble (d+1) c.n=true)
 (hC:∀w,gB c (gA base e sz n eX g xs) L O X w->Calls P f (fs++vs++cs).toArray w (fun e1 w'=>e1= .returned v/\w'.ownsRow base e sz (H (some ⟨g,0,none⟩) n eX) n xs'/\w.grownBy w' (some g))) (h:WL P c fL Q rest ((d,v)::S) (gA base e sz n eX g xs') L O X):
 WL P c fL Q (⟨some d,.call ⟨.value x,ags.toArray,ats⟩,ty,pos,aft,none⟩::rest) S (gA base e sz n eX g xs) L O X:=
 fW (γ:=Unit) (val:=fun _=>v) (φ:=fun _=>True) (K':=fun _=>gA base e sz n eX g xs') (L':=fun _=>L) (O':=fun _=>O) (X':=fun _=>X) hx hf ha hd (fun w hm=>(hC w hm).mono fun _ _ ⟨he,ho,hg⟩=>⟨(),he,bB,hm.turned uG hT ho hg⟩) (fun _ _=>h)
end
theorem kS{base:Nat}{e:TypeId}{sz n eX g:Nat}{xs:List Value}{w0 w:World}(hk:gA base e sz n eX g xs w)(hg:w0.grownBy w (some g)):w.ownsRow base e sz (H (some ⟨g,0,none⟩) n eX) n xs/\w0.grownBy w (some g):=⟨hk,hg⟩
def eJ(x y:Ev):Bool:=decide (mL x y < 0)
end Go.Proofs.YtapdhfjfgpbnnaaGreatDoor
