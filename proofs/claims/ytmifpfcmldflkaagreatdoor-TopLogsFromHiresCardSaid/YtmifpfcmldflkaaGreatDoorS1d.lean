/- Several texts as one: Dkg Dkh Sym Swn Bub Syo Syt Sl Sk Stc Ta Fw Fx Fz Gf Gst Lop LopA LopB Win LopC Sq Sn Ix Sr Gg -/
import Derived.Test.YtmifpfcmldflkaaGreatDoorS1c
import Derived.Test.YtmifpfcmldflkaaGreatDoorS1a
import Derived.Test.YtmifpfcmldflkaaGreatDoorProg
import Derived.Ground.NamesProg
import Derived.Shelf.Small.Bits
import Derived.Shelf.Small.Strs
import Derived.Test.YtmifpfcmldflkaaGreatDoorS1b
import Derived.Deep.LoopGhost
import Derived.StillTailTactics
set_option maxRecDepth 100000
set_option maxHeartbeats 4000000
namespace Go.Proofs.YtmifpfcmldflkaaGreatDoor
open Tryz
open Go.RowKit
theorem bC9 {a b:Int} (h:dG [a,b]=0):a=0/\b=0:=
 ⟨Classical.byContradiction fun hc=>hc (qY h a (by simp)),Classical.byContradiction fun hc=>hc (qY h b (by simp))⟩
theorem bV5 {α:Type} {o:Option α} {x z:α} (h:o.isSome=true) (hx:x=o.getD z):o=some x:=by
 cases o with
 |none=>cases h
 |some y=>rw [hx];rfl
theorem mZ (a b:ByteArray):(a.toList==b.toList)=decide (a=b):=by
 rw [Bool.eq_iff_iff,beq_iff_eq,decide_eq_true_eq]
 exact ⟨cF3,fun h=>by rw [h]⟩
theorem bO9 {g x:Int} (h:(if g=0 then x else g)=0):g=0/\x=0:=by
 by_cases h0:g=0
 ·rw [if_pos h0] at h;exact ⟨h0,h⟩
 ·rw [if_neg h0] at h;exact absurd h h0
theorem cW5 (w0:World) (u0 u2 u3 u4 u5 u6 u7 u8 u9 jI jJ jK jL jM jN:Value) (go gv gs fT fR fS fU gC:Nat) (cA:Option Addr) (cn cc:Nat) (cl:List Cs) (V:ByteArray->Option ByteArray) (T:ByteArray->Option Bool) (rv:Value) (rn:Nat) (rx:List Value) (hd: [gv,gs,fT,fR,fS,fU,gC].Nodup) (ck:Bk->Prop) (fp:ByteArray->Option Int) (σ:Os) (lv:Value) (at_:Int) (k:ByteArray) (n0:Int) (tA nA:Option Addr) (tc nc:Nat) (w:World)  (_hlg:σ.lg.length<=99990) (hso:cA3 σ) (ht:SlT fH 1 9 w tA 1 [k]) (hn:SlT kN 1 3 w nA 1 [n0]) (hm:gV ⟨0,w0,none, [68,9,3]⟩ (fun _=>True) [(go,119, [u0,.slice cA cn cc,u2,u3,u4,u5,u6,u7,u8,u9,jI,jJ,jK,jL,jM,jN,.map (some gv),.map (some gs),.map (some fT),lv,.map (some fR),.map (some fS),.map (some fU),.map (some gC),rv])] [⟨lv,74,5,σ.lg.length,σ.lg.flatMap dO⟩,⟨rv,226,2,rn,rx⟩] [bU vS dM w0.heap.size gv (V),bU vB dM w0.heap.size gs (T),bU qS dM w0.heap.size fT (σ.fs),bU vB nB w0.heap.size fR (σ.fa),bU pZ dM w0.heap.size fS (σ.fb),bU nG dM w0.heap.size fU (σ.fh),bU vI dM w0.heap.size gC (fp),gF 68 σ.fh,bW dW 2 84 w0.heap.size none cA cn cl,TxtO w0.heap.size none,fun wy=>SlT fH 1 9 wy tA 1 [k],fun wy=>SlT kN 1 3 wy nA 1 [n0]] w):
 Calls prog 175 #[.pointer (some ⟨go,0,none⟩),.int .i64 at_,.agg #[.string ⟨#[101,120,116,101,110,100]⟩,.slice tA 1 tc,.slice nA 1 nc]] w (fun e w'=>∃lv' σ' E,e=.returned (.int .i64 E)/\(kR V T ck at_ σ σ'/\fZ σ'=rM (fZ σ) k n0)/\gV ⟨0,w0,none, [68,9,3]⟩ (fun _=>True) [(go,119, [u0,.slice cA cn cc,u2,u3,u4,u5,u6,u7,u8,u9,jI,jJ,jK,jL,jM,jN,.map (some gv),.map (some gs),.map (some fT),lv',.map (some fR),.map (some fS),.map (some fU),.map (some gC),rv])] [⟨lv',74,5,σ'.lg.length,σ'.lg.flatMap dO⟩,⟨rv,226,2,rn,rx⟩] [bU vS dM w0.heap.size gv (V),bU vB dM w0.heap.size gs (T),bU qS dM w0.heap.size fT (σ'.fs),bU vB nB w0.heap.size fR (σ'.fa),bU pZ dM w0.heap.size fS (σ'.fb),bU nG dM w0.heap.size fU (σ'.fh),bU vI dM w0.heap.size gC (fp),gF 68 σ'.fh,bW dW 2 84 w0.heap.size none cA cn cl,TxtO w0.heap.size none] w'):=by
 refine cS ⟨201,w0,none, [68,9,3]⟩ func175 U ntmps175 U hm.cy (bR ?_)
 obtain ⟨tb,rU,htA,_,_⟩:=ht.get (by decide)
 subst htA
 obtain ⟨nb,xG,hnA,_,_⟩:=hn.get (by decide)
 subst hnA
 obtain ⟨ish,bB0⟩:∃z,z=(σ.fh k).isSome:=⟨_,rfl⟩
 obtain ⟨xh,hxh⟩:∃z,z=(σ.fh k).getD vF:=⟨_,rfl⟩
 obtain ⟨h0,h1,h2,h3,hA,uQ,hc,hl⟩:=xh
 have hol:∀h,σ.fh k=some h->SlT lgEnc 9 68 w h.A h.n h.legs:=fun h=>hm.fact 7 rfl k h
 refine fG U U U fun g1=>bX U (bQ (bR (dY kL U U (eJ qH 0 U U U (bB (bV (j:=0) jX U U (by omega)) U (bB (dK (k:=0) (v:= .string k) fC U (fun _ hm=>(hm.fact 10 U)) (U: [k][0]?=some k) U U) U (bX U (bQ (bR (bP U (bB (dA U) U (dY qT U U (eJ zC 1 U U U (bP U (bB (gX (enc:=nG) (ek:=dM) (s:=k) (e:=64) vF jZ (by kernel_rfl) (by kernel_rfl) U U (fun _ hm=>(hm.fact 5 U))) U (bP U (bB (cP U U) U (bK 39 (v':= .agg #[.string h0,.string h1,.int .i64 h2,.int .i64 h3,.slice hA uQ hc]) U (congrArg nG hxh.symm) (bB (cP U U) U (bK 40 (v':= .bool ish) U (fU3 bB0.symm) (dL bZ4 U fun g2=>kE (cs':= [.string h0,.string h1,.int .i64 h2,.int .i64 h3,.slice hA uQ hc]) 0 nF U U U U ?_)))))))))))))))))))))
 refine bX U (bQ (bH (bR (bP U (bB (cE U) U (bQ ?_))))))
 refine dC U (fun hh=>?_) (fun hh=>?_)
 ·have hz:ish=false:=by simpa using hh
  refine bR (bX U (bQ (bM (bA ?_))))
  have hsm:fZ σ=rM (fZ σ) k n0:=(cO3 (cB4 (bB0.symm.trans (by simpa using hz)))).symm
  refine bJ U U fun wx hm=>?_
  refine ⟨lv,σ,_,U,⟨.same σ,hsm⟩,?_⟩
  exact (hm.pick [2] [0,1] [0,1,2,3,4,5,6,7,8,9] U U).cy
 have hz:ish=true:=by simpa using hh
 refine bN (bD (bR ?_))
 have hz1:ish=true:=by simpa using hz
 have hfk:=bV5 (bB0.symm.trans hz1) hxh
 obtain ⟨hrk,hnp,hn20,hll⟩:=hso.hi k _ hfk
 dsimp only at hrk hnp hn20 hll
 have hot:=hol _ hfk
 dsimp only at hot
 obtain ⟨hb,hof,hA1,_,_⟩:=hot.get hnp
 subst hA1
 obtain ⟨pY,hg⟩:∃z,hl[uQ - 1]?=some z:=⟨_,fW3 (by omega)⟩
 have hlv:bE0 hl=pY.veh:=by unfold bE0;rw [hll,hg];rfl
 have hAB:rM (fZ σ) k n0=cQ3 (fZ σ) k (⟨h0,h1,h2,h3,hl⟩:Hr) n0:=cP3 (cC4 hfk) hlv
 refine yT (γ:=Unit) (fun _ wy=>SlT lgEnc 9 68 wy (some ⟨hb,hof,none⟩) uQ hl) (fun w hm=>⟨(),(hm.fact 7 U:gF 68 σ.fh w) k _ hfk⟩) (fun _=>SlT.lasts2 U) fun _=>?_
 obtain ⟨HE,hHE⟩:∃z,z=bP3 (⟨h0,h1,h2,h3,hl⟩:Hr) n0:=⟨_,rfl⟩
 obtain ⟨xq,hxq⟩:∃z,z=bS2 HE ⟨h0,h1,h2,n0,hl⟩:=⟨_,rfl⟩
 obtain ⟨k5,d5,f5,t5,l5⟩:=xq
 refine dL bZ4 U fun g3=>bQ (bR (bX U (bQ (bR (bX U (bQ (bR (bX U (bQ ?_)))))))))
 refine pB (γ:=Option Addr×Nat×Nat) (I:=(fun (gq:Option Addr×Nat×Nat)=>l5.length=gq.2.1)) (S':=(fun (gq:Option Addr×Nat×Nat)=> [(0,.pointer (some ⟨go,0,none⟩)),(6,.int .i64 0),(7,.string k),(10,.pointer (some ⟨g3,0,none⟩)),(11,.int .i64 HE),(12,.slice none 0 0),(13,.bool true)])) (K':=(fun (gq:Option Addr×Nat×Nat)=>fun _=>True)) (L':=(fun (gq:Option Addr×Nat×Nat)=> [(g3,64, [.string k5,.string d5,.int .i64 f5,.int .i64 t5,.slice gq.1 gq.2.1 gq.2.2]),(go,119, [u0,.slice cA cn cc,u2,u3,u4,u5,u6,u7,u8,u9,jI,jJ,jK,jL,jM,jN,.map (some gv),.map (some gs),.map (some fT),lv,.map (some fR),.map (some fS),.map (some fU),.map (some gC),rv])])) (O':=(fun (gq:Option Addr×Nat×Nat)=> [⟨lv,74,5,σ.lg.length,σ.lg.flatMap dO⟩,⟨rv,226,2,rn,rx⟩])) (X':=(fun (gq:Option Addr×Nat×Nat)=> [fun wy=>SlT lgEnc 9 68 wy gq.1 gq.2.1 l5,fun wy=>SlT lgEnc 9 68 wy (some ⟨hb,hof,none⟩) uQ hl,bU vS dM w0.heap.size gv (V),bU vB dM w0.heap.size gs (T),bU qS dM w0.heap.size fT (σ.fs),bU vB nB w0.heap.size fR (σ.fa),bU pZ dM w0.heap.size fS (σ.fb),bU nG dM w0.heap.size fU (σ.fh),bU vI dM w0.heap.size gC (fp),gF 68 σ.fh,bW dW 2 84 w0.heap.size none cA cn cl,TxtO w0.heap.size none,fun wy=>SlT fH 1 9 wy (some ⟨tb,rU,none⟩) 1 [k],fun wy=>SlT kN 1 3 wy (some ⟨nb,xG,none⟩) 1 [n0]])) ?_ ?_
 ·refine bR (dY uP U U (eJ bV7 1 U U U (dY uP U U (eJ bV7 1 U U U (bB (dT bB9 U) U ?_)))))
  refine bB (ov_sub U U (by omega) (by omega)) U (bK 48 (v':= .int .i64 ((uQ - 1:Nat):Int)) U (fV3 (by omega)) (bB (bV (j:=uQ - 1) bB9 U U (by omega)) U (dY bG9 U U (bB (dK (k:=0) (v:= .string pY.veh) fC U (fun _ hm=>(hm.fact 0 U)) hg U U) U (bX U (bQ (bR (dY mC U U (eJ fC 2 U U U (bQ (bO (bR (bB (eS U U) U (bK 120 (v':= .bool true) U (fU3 (by rw [mZ];decide)) (bX U (bQ (kP U (gd (fun wz=>Blk wz g2 64 [.string h0,.string h1,.int .i64 h2,.int .i64 h3,.slice (some ⟨hb,hof,none⟩) uQ hc]/\Blk wz g1 271 [.string ⟨#[101,120,116,101,110,100]⟩,.slice (some ⟨tb,rU,none⟩) 1 tc,.slice (some ⟨nb,xG,none⟩) 1 nc]/\(fun wy=>SlT kN 1 3 wy (some ⟨nb,xG,none⟩) 1 [n0]) wz/\True) mixed (fun _ hm=>⟨hm.bl 1,hm.bl 2,hm.fa 12,trivial⟩) fun z=>wq 0 U (cU nF U (fun _ hm=>hm.1) U U) (wq 1 U (bS nI U U) (wq 2 U (cQ kZ U (fun _ hm=>hm.2.1) U) (wq 3 U (bV (j:=0) pD U U (by omega)) (wq 4 U (dK (k:=0) (v:= .int .i64 n0) fP U (fun _ hm=>(hm.2.2.1)) (U: [n0][0]?=some n0) U U) (eG 5 U ?_)))))))))))))))))))))))
  refine gY (γ:=Option Addr×Nat×Nat) (val:=(fun g=> .tuple #[.agg #[.string k5,.string d5,.int .i64 f5,.int .i64 t5,.slice g.1 g.2.1 g.2.2],.int .i64 HE])) (φ:=(fun g=>l5.length=g.2.1)) (Y:=(fun g=>fun wy=>SlT lgEnc 9 68 wy g.1 g.2.1 l5)) U eE9 U U (fun wx hm=>(eH1 h0 h1 h2 h3 hl (some ⟨hb,hof,none⟩) uQ hc n0 wx (hm.fact 0 U) hrk (by omega)).mono fun _ _ ⟨A,n,c,he,hg,hs⟩=>⟨(A,n,c),by rw [<-hHE,<-hxq] at he;exact he,by rw [<-hHE,<-hxq] at hs;exact hs.len,hg,by rw [<-hHE,<-hxq] at hs;exact hs⟩) (fun _=>SlT.lasts2 U) ?_
  rintro ⟨A5,n5,c5⟩ hln
  dsimp only at hln ⊢
  refine bE (nw 11 63 (fun _ hm=>⟨hm.bl 1,hm.bl 2,hm.fa 13,trivial⟩) fun z=>wq 6 U (bL U) (wq 7 U (cP U U) (wq 8 U (cP U U) (eG 9 U (kE (cs':= [.string k5,.string d5,.int .i64 f5,.int .i64 t5,.slice A5 n5 c5]) 0 nF U U U U (bE (nw 11 1023 (fun _ hm=>⟨hm.bl 1,hm.bl 2,hm.fa 13,trivial⟩) fun z=>wq 10 U (cV U) (jO (bG ?_)))))))))
  exact fK (A5,n5,c5) hln ⟨U,U,U,U,U,U,U,trivial⟩ (fun _ hm=>hm.pick [0,3] [0,1] [0,1,2,3,4,5,6,7,8,9,10,11,12,13] U U)
 rintro ⟨A5,n5,c5⟩ cB
 replace cB:l5.length=n5:=cB
 dsimp only
 refine bH (bR (bP U (bP U (bB (cE U) U (bK 165 (v':= .bool false) U (fU3 (by decide)) (cZ U qN U U (fun wx hm=>(eH _ _ wx)) (jE 48 [.int .i64 HE,.int .i64 (dI false 8)] fun g4=>cZ U wH U U (fun wx hm=>(fN [HE,dI false 8] _ _ _ wx (hm.blkI 0 U) (by simp))) (bX U (bQ (bR (bP U (bB (gS U U) U (bQ ?_)))))))))))))
 refine gI U (fun hy=>?_) (fun hy=>?_)
 ·refine bR (bP U (bX U (bQ ?_)))
  refine bM (bA ?_)
  have hyx:¬dG [HE,dI (!true) 8]=0:=by simpa using hy
  have hsm:fZ σ=rM (fZ σ) k n0:=by
   rw [hAB]
   exact (pM fun q1=>hyx (by rw [hHE.trans q1];rfl)).symm
  refine bJ U U fun wx hm=>?_
  refine ⟨lv,σ,_,U,⟨.same σ,hsm⟩,?_⟩
  exact (hm.pick [2] [0,1] [2,3,4,5,6,7,8,9,10,11] U U).cy
 refine bN (bD (bH (bR ?_)))
 have hy0:dG [HE,dI (!true) 8]=0:=by simpa using hy
 obtain ⟨hz0,hz9⟩:=bC9 hy0
 have hq0:bS2 HE ⟨h0,h1,h2,n0,hl⟩=⟨h0,h1,h2,n0,hl⟩:=bC0 hz0
 have hx9:=hq0.symm.trans hxq.symm
 injection hx9 with q1 q2 q3 q4 q5
 subst q1 q2 q3 q4 q5
 have hEz:=hHE.symm.trans hz0
 rw [hHE] at hz0
 obtain ⟨hgo,hE5⟩:=bO9 hz0
 have hle:=hireE_legs hE5
 dsimp only at hle
 refine bP U (bB (dT jW U) U (bK 173 (v':= .int .i64 0) U U (bP U (bQ (bO (eY 1 (eD (bR (bB (dE U U) U (bK 175 (v':= .bool false) U (fU3 (by decide)) (bQ (bH (jQ U (dD (bF (bF (bY (bD (bH (bR (bP U (bB (dT jW U) U (bK 186 (v':= .int .i64 0) U U (bP U (bQ (bO (eY 1 (eD ?_))))))))))))))))))))))))))))
 refine bR (bB (dE U U) U (bK 188 (v':= .bool false) U (fU3 (by decide)) (bQ (bH (jQ U (dD (bF (bF (bY (bD (bH (gd (fun wz=>Blk wz g3 64 [.string h0,.string h1,.int .i64 h2,.int .i64 n0,.slice A5 n5 c5]/\Blk wz go 119 [u0,.slice cA cn cc,u2,u3,u4,u5,u6,u7,u8,u9,jI,jJ,jK,jL,jM,jN,.map (some gv),.map (some gs),.map (some fT),lv,.map (some fR),.map (some fS),.map (some fU),.map (some gC),rv]/\True) mixed (fun _ hm=>⟨hm.bl 1,hm.bl 2,trivial⟩) fun z=>wq 0 U (bL U) (wq 1 U (dA U) (wq 2 U (bS qT U U) (wq 3 U (cQ zC U (fun _ hm=>hm.2.1) U) (wq 4 U (bL U) (wq 5 U (cU nF U (fun _ hm=>hm.1) U U) (eG 6 U (kO (enc:=nG) (ek:=dM) (s:=k) (v:=(⟨h0,h1,h2,n0,A5,n5,c5,hl⟩:Hg)) (e:=64) (X':= [fun wy=>SlT lgEnc 9 68 wy A5 n5 hl,fun wy=>SlT lgEnc 9 68 wy (some ⟨hb,hof,none⟩) uQ hl,bU vS dM w0.heap.size gv (V),bU vB dM w0.heap.size gs (T),bU qS dM w0.heap.size fT (σ.fs),bU vB nB w0.heap.size fR (σ.fa),bU pZ dM w0.heap.size fS (σ.fb),bU vI dM w0.heap.size gC (fp),gF 68 σ.fh,bW dW 2 84 w0.heap.size none cA cn cl,TxtO w0.heap.size none,fun wy=>SlT fH 1 9 wy (some ⟨tb,rU,none⟩) 1 [k],fun wy=>SlT kN 1 3 wy (some ⟨nb,xG,none⟩) 1 [n0]]) 7 jZ (by kernel_rfl) U U U U (cL (i:=0) (SlT.mfar).far U (cL (i:=1) (SlT.mfar).far U (cL (i:=2) (bU.farK (gR hd (i:=0) (j:=5) U U (by decide))) U (cL (i:=3) (bU.farK (gR hd (i:=1) (j:=5) U U (by decide))) U (cL (i:=4) (bU.farK (gR hd (i:=2) (j:=5) U U (by decide))) U (cL (i:=5) (bU.farK (gR hd (i:=3) (j:=5) U U (by decide))) U (cL (i:=6) (bU.farK (gR hd (i:=4) (j:=5) U U (by decide))) U (cL (i:=8) (bU.farK (gR hd (i:=6) (j:=5) U U (by decide))) U (cL (i:=9) (gF.mfar).far U (cL (i:=10) (bW.mfar).far U (cL (i:=11) (TxtO.mfar).far U (cL (i:=12) SlT.mfar.far U (cL (i:=13) SlT.mfar.far U gB))))))))))))) (bE (nw 7 127 (fun _ hm=>⟨hm.bl 1,hm.bl 2,trivial⟩) fun z=>jO (bD (bR (bX U (bQ (bM ?_))))))))))))))))))))))))))
 have hab:fZ ({ σ with fh:=fQ σ.fh k (⟨h0,h1,h2,n0,A5,n5,c5,hl⟩:Hg) }:Os)=rM (fZ σ) k n0:=by
  rw [hAB]
  refine Eq.trans ?_ (xZ hEz).symm
  show (⟨_,_,_,fun j=>(fQ σ.fh k (⟨h0,h1,h2,n0,A5,n5,c5,hl⟩:Hg) j).map hrG,_⟩:As)=_
  rw [cB3];rfl
 refine bJ U U fun wx hm=>?_
 refine ⟨lv,_,0,U,⟨.extend σ k (⟨h0,h1,h2,h3,(some ⟨hb,hof,none⟩),uQ,hc,hl⟩:Hg) (⟨h0,h1,h2,n0,A5,n5,c5,hl⟩:Hg) hfk ⟨⟨hrk.1,hrk.2.1,hrk.2.2⟩,by dsimp only;omega,by dsimp only;omega,by dsimp only;omega⟩ hE5 U U,hab⟩,?_⟩
 have hput:=gF.put (k:=k) (h:=(⟨h0,h1,h2,n0,A5,n5,c5,hl⟩:Hg)) (hm.fact 9 rfl) (hm.fact 1 rfl)
 have hm:=hm.also (gF.lasts2 rfl) hput
 exact (hm.pick [2] [0,1] [4,5,6,7,8,1,9,0,11,12] U U).cy
theorem cP8 (w0:World) (u0 u2 u3 u4 u5 u6 u7 u8 u9 jI jJ jK jL jM jN:Value) (go gv gs fT fR fS fU gC:Nat) (cA:Option Addr) (cn cc:Nat) (cl:List Cs) (V:ByteArray->Option ByteArray) (T:ByteArray->Option Bool) (rv:Value) (rn:Nat) (rx:List Value) (hd: [gv,gs,fT,fR,fS,fU,gC].Nodup) (ck:Bk->Prop) (fp:ByteArray->Option Int) (σ:Os) (lv:Value) (at_:Int) (k st:ByteArray) (n0 n1:Int) (tA nA:Option Addr) (tc nc:Nat) (w:World) (hs:st.size<=1000000) (hlg0:σ.lg.length<=99990) (hso:cA3 σ) (ht:SlT fH 1 9 w tA 2 [k,st]) (hn:SlT kN 1 3 w nA 2 [n0,n1]) (hm:gV ⟨0,w0,none, [68,9,3]⟩ (fun _=>True) [(go,119, [u0,.slice cA cn cc,u2,u3,u4,u5,u6,u7,u8,u9,jI,jJ,jK,jL,jM,jN,.map (some gv),.map (some gs),.map (some fT),lv,.map (some fR),.map (some fS),.map (some fU),.map (some gC),rv])] [⟨lv,74,5,σ.lg.length,σ.lg.flatMap dO⟩,⟨rv,226,2,rn,rx⟩] [bU vS dM w0.heap.size gv (V),bU vB dM w0.heap.size gs (T),bU qS dM w0.heap.size fT (σ.fs),bU vB nB w0.heap.size fR (σ.fa),bU pZ dM w0.heap.size fS (σ.fb),bU nG dM w0.heap.size fU (σ.fh),bU vI dM w0.heap.size gC (fp),gF 68 σ.fh,bW dW 2 84 w0.heap.size none cA cn cl,TxtO w0.heap.size none,fun wy=>SlT fH 1 9 wy tA 2 [k,st],fun wy=>SlT kN 1 3 wy nA 2 [n0,n1]] w):
 Calls prog 175 #[.pointer (some ⟨go,0,none⟩),.int .i64 at_,.agg #[.string ⟨#[99,108,111,115,101]⟩,.slice tA 2 tc,.slice nA 2 nc]] w (fun e w'=>∃lv' σ' E,e=.returned (.int .i64 E)/\(kR V T ck at_ σ σ'/\fZ σ'=uN T at_ (fZ σ) k st n0 n1)/\gV ⟨0,w0,none, [68,9,3]⟩ (fun _=>True) [(go,119, [u0,.slice cA cn cc,u2,u3,u4,u5,u6,u7,u8,u9,jI,jJ,jK,jL,jM,jN,.map (some gv),.map (some gs),.map (some fT),lv',.map (some fR),.map (some fS),.map (some fU),.map (some gC),rv])] [⟨lv',74,5,σ'.lg.length,σ'.lg.flatMap dO⟩,⟨rv,226,2,rn,rx⟩] [bU vS dM w0.heap.size gv (V),bU vB dM w0.heap.size gs (T),bU qS dM w0.heap.size fT (σ'.fs),bU vB nB w0.heap.size fR (σ'.fa),bU pZ dM w0.heap.size fS (σ'.fb),bU nG dM w0.heap.size fU (σ'.fh),bU vI dM w0.heap.size gC (fp),gF 68 σ'.fh,bW dW 2 84 w0.heap.size none cA cn cl,TxtO w0.heap.size none] w'):=by
 have hlg:σ.lg.length<=100000:=by omega
 refine cS ⟨201,w0,none, [68,9,3]⟩ func175 U ntmps175 U hm.cy (bR ?_)
 obtain ⟨tb,rU,htA,_,_⟩:=ht.get (by decide)
 subst htA
 obtain ⟨nb,xG,hnA,_,_⟩:=hn.get (by decide)
 subst hnA
 obtain ⟨ish,bB0⟩:∃z,z=(σ.fh k).isSome:=⟨_,rfl⟩
 obtain ⟨xh,hxh⟩:∃z,z=(σ.fh k).getD vF:=⟨_,rfl⟩
 obtain ⟨h0,h1,h2,h3,hA,uQ,hc,hl⟩:=xh
 have hol:∀h,σ.fh k=some h->SlT lgEnc 9 68 w h.A h.n h.legs:=fun h=>hm.fact 7 rfl k h
 refine fG U U U fun g1=>bX U (bQ (bR (dY kL U U (eJ qH 0 U U U (bB (bV (j:=0) jX U U (by omega)) U (bB (dK (k:=0) (v:= .string k) fC U (fun _ hm=>(hm.fact 10 U)) (U: [k,st][0]?=some k) U U) U (bX U (bQ (bR (bP U (bB (dA U) U (dY qT U U (eJ zC 1 U U U (bP U (bB (gX (enc:=nG) (ek:=dM) (s:=k) (e:=64) vF jZ (by kernel_rfl) (by kernel_rfl) U U (fun _ hm=>(hm.fact 5 U))) U (bP U (bB (cP U U) U (bK 39 (v':= .agg #[.string h0,.string h1,.int .i64 h2,.int .i64 h3,.slice hA uQ hc]) U (congrArg nG hxh.symm) (bB (cP U U) U (bK 40 (v':= .bool ish) U (fU3 bB0.symm) (dL bZ4 U fun g2=>kE (cs':= [.string h0,.string h1,.int .i64 h2,.int .i64 h3,.slice hA uQ hc]) 0 nF U U U U ?_)))))))))))))))))))))
 refine bX U (bQ (bH (bR (bP U (bB (cE U) U (bQ ?_))))))
 refine dC U (fun hh=>?_) (fun hh=>?_)
 ·have hz:ish=false:=by simpa using hh
  refine bR (bX U (bQ (bM (bA ?_))))
  have hsm:fZ σ=uN T at_ (fZ σ) k st n0 n1:=(cP5 (cB4 (bB0.symm.trans (by simpa using hz)))).symm
  refine bJ U U fun wx hm=>?_
  refine ⟨lv,σ,_,U,⟨.same σ,hsm⟩,?_⟩
  exact (hm.pick [2] [0,1] [0,1,2,3,4,5,6,7,8,9] U U).cy
 have hz:ish=true:=by simpa using hh
 refine bN (bD (bR ?_))
 have hz1:ish=true:=by simpa using hz
 have hfk:=bV5 (bB0.symm.trans hz1) hxh
 obtain ⟨hrk,hnp,hn20,hll⟩:=hso.hi k _ hfk
 dsimp only at hrk hnp hn20 hll
 have hot:=hol _ hfk
 dsimp only at hot
 obtain ⟨hb,hof,hA1,_,_⟩:=hot.get hnp
 subst hA1
 obtain ⟨pY,hg⟩:∃z,hl[uQ - 1]?=some z:=⟨_,fW3 (by omega)⟩
 have hlv:bE0 hl=pY.veh:=by unfold bE0;rw [hll,hg];rfl
 have hAB:uN T at_ (fZ σ) k st n0 n1=cO8 T at_ (fZ σ) k (⟨h0,h1,h2,h3,hl⟩:Hr) pY.veh st n0 n1:=cQ5 (cC4 hfk) hlv
 refine yT (γ:=Unit) (fun _ wy=>SlT lgEnc 9 68 wy (some ⟨hb,hof,none⟩) uQ hl) (fun w hm=>⟨(),(hm.fact 7 U:gF 68 σ.fh w) k _ hfk⟩) (fun _=>SlT.lasts2 U) fun _=>?_
 obtain ⟨HE,hHE⟩:∃z,z=closeE (⟨h0,h1,h2,h3,hl⟩:Hr) (⟨at_,st,n0,n1⟩:Rd):=⟨_,rfl⟩
 obtain ⟨xq,hxq⟩:∃z,z=bS2 HE ⟨h0,h1,h2,h3,endLegs hl (⟨at_,st,n0,n1⟩:Rd)⟩:=⟨_,rfl⟩
 obtain ⟨k5,d5,f5,t5,l5⟩:=xq
 obtain ⟨ist,bX1⟩:∃z,z=(T st).getD false:=⟨_,rfl⟩
 obtain ⟨C0,hC0⟩:∃z,z=cH3 σ (eP at_ pY.veh st):=⟨_,rfl⟩
 refine dL bZ4 U fun g3=>bQ (bR (bX U (bQ (bR (bX U (bQ (bR (bX U (bQ ?_)))))))))
 refine pB (γ:=Option Addr×Nat×Nat×Nat) (I:=(fun (gq:Option Addr×Nat×Nat×Nat)=>l5.length=gq.2.1)) (S':=(fun (gq:Option Addr×Nat×Nat×Nat)=> [(0,.pointer (some ⟨go,0,none⟩)),(6,.int .i64 0),(7,.string k),(10,.pointer (some ⟨g3,0,none⟩)),(11,.int .i64 HE),(12,.slice (some ⟨gq.2.2.2,0,none⟩) 1 1),(13,.bool ist)])) (K':=(fun (gq:Option Addr×Nat×Nat×Nat)=>fun _=>True)) (L':=(fun (gq:Option Addr×Nat×Nat×Nat)=> [(g3,64, [.string k5,.string d5,.int .i64 f5,.int .i64 t5,.slice gq.1 gq.2.1 gq.2.2.1]),(gq.2.2.2,74, [.int .i64 at_,.string pY.veh,.string st,.int .i64 3,.string ⟨#[]⟩]),(go,119, [u0,.slice cA cn cc,u2,u3,u4,u5,u6,u7,u8,u9,jI,jJ,jK,jL,jM,jN,.map (some gv),.map (some gs),.map (some fT),lv,.map (some fR),.map (some fS),.map (some fU),.map (some gC),rv])])) (O':=(fun (gq:Option Addr×Nat×Nat×Nat)=> [⟨lv,74,5,σ.lg.length,σ.lg.flatMap dO⟩,⟨rv,226,2,rn,rx⟩])) (X':=(fun (gq:Option Addr×Nat×Nat×Nat)=> [fun wy=>SlT lgEnc 9 68 wy gq.1 gq.2.1 l5,fun wy=>SlT lgEnc 9 68 wy (some ⟨hb,hof,none⟩) uQ hl,bU vS dM w0.heap.size gv (V),bU vB dM w0.heap.size gs (T),bU qS dM w0.heap.size fT (σ.fs),bU vB nB w0.heap.size fR (σ.fa),bU pZ dM w0.heap.size fS (σ.fb),bU nG dM w0.heap.size fU (σ.fh),bU vI dM w0.heap.size gC (fp),gF 68 σ.fh,bW dW 2 84 w0.heap.size none cA cn cl,TxtO w0.heap.size none,fun wy=>SlT fH 1 9 wy (some ⟨tb,rU,none⟩) 2 [k,st],fun wy=>SlT kN 1 3 wy (some ⟨nb,xG,none⟩) 2 [n0,n1]])) ?_ ?_
 ·refine bR (dY uP U U (eJ bV7 1 U U U (dY uP U U (eJ bV7 1 U U U (bB (dT bB9 U) U ?_)))))
  refine bB (ov_sub U U (by omega) (by omega)) U (bK 48 (v':= .int .i64 ((uQ - 1:Nat):Int)) U (fV3 (by omega)) (bB (bV (j:=uQ - 1) bB9 U U (by omega)) U (dY bG9 U U (bB (dK (k:=0) (v:= .string pY.veh) fC U (fun _ hm=>(hm.fact 0 U)) hg U U) U (bX U (bQ (bR (dY mC U U (eJ fC 2 U U U (bQ (bO (bR (bB (eS U U) U (bK 120 (v':= .bool false) U (fU3 (by rw [mZ];decide)) (bX U (bQ (jQ U (bR (bB (eS U U) U (bK 131 (v':= .bool true) U (fU3 (by rw [mZ];decide)) (bX U (bQ (kP U (bR (dY kL U U (eJ qH 2 U U U (bB (bV (j:=1) jX U U (by omega)) U (bB (dK (k:=0) (v:= .string st) fC U (fun _ hm=>(hm.fact 11 U)) (U: [k,st][1]?=some st) U U) U ?_))))))))))))))))))))))))))))
  refine bX U (bQ (bH (gd (fun wz=>Blk wz g2 64 [.string h0,.string h1,.int .i64 h2,.int .i64 h3,.slice (some ⟨hb,hof,none⟩) uQ hc]/\Blk wz g1 271 [.string ⟨#[99,108,111,115,101]⟩,.slice (some ⟨tb,rU,none⟩) 2 tc,.slice (some ⟨nb,xG,none⟩) 2 nc]/\(fun wy=>SlT kN 1 3 wy (some ⟨nb,xG,none⟩) 2 [n0,n1]) wz/\True) mixed (fun _ hm=>⟨hm.bl 1,hm.bl 2,hm.fa 12,trivial⟩) fun z=>wq 0 U (cU nF U (fun _ hm=>hm.1) U U) (wq 1 U (bL U) (wq 2 U (bL U) (wq 3 U (bS nI U U) (wq 4 U (cQ kZ U (fun _ hm=>hm.2.1) U) (wq 5 U (bV (j:=0) pD U U (by omega)) (wq 6 U (dK (k:=0) (v:= .int .i64 n0) fP U (fun _ hm=>(hm.2.2.1)) (U: [n0,n1][0]?=some n0) U U) (wq 7 U (bS nI U U) (wq 8 U (cQ kZ U (fun _ hm=>hm.2.1) U) (wq 9 U (bV (j:=1) pD U U (by omega)) (wq 10 U (dK (k:=0) (v:= .int .i64 n1) fP U (fun _ hm=>(hm.2.2.1)) (U: [n0,n1][1]?=some n1) U U) (wq 11 U (dJ (cs:= [.int .i64 at_,.string st,.int .i64 n0,.int .i64 n1]) U (by kernel_rfl)) (eG 12 U ?_)))))))))))))))
  refine gY (γ:=Option Addr×Nat×Nat) (val:=(fun g=> .tuple #[.agg #[.string k5,.string d5,.int .i64 f5,.int .i64 t5,.slice g.1 g.2.1 g.2.2],.int .i64 HE])) (φ:=(fun g=>l5.length=g.2.1)) (Y:=(fun g=>fun wy=>SlT lgEnc 9 68 wy g.1 g.2.1 l5)) U eF9 U U (fun wx hm=>(eB5 h0 h1 h2 h3 hl (some ⟨hb,hof,none⟩) uQ hc (⟨at_,st,n0,n1⟩:Rd) wx (hm.fact 0 U) hrk hs (by omega)).mono fun _ _ ⟨A,n,c,he,hg,hs⟩=>⟨(A,n,c),by rw [<-hHE,<-hxq] at he;exact he,by rw [<-hHE,<-hxq] at hs;exact hs.len,hg,by rw [<-hHE,<-hxq] at hs;exact hs⟩) (fun _=>SlT.lasts2 U) ?_
  rintro ⟨A5,n5,c5⟩ hln
  dsimp only at hln ⊢
  refine bE (nw 18 8191 (fun _ hm=>⟨hm.bl 1,hm.bl 2,hm.fa 13,trivial⟩) fun z=>wq 13 U (bL U) (wq 14 U (cP U U) (wq 15 U (cP U U) (eG 16 U (kE (cs':= [.string k5,.string d5,.int .i64 f5,.int .i64 t5,.slice A5 n5 c5]) 0 nF U U U U (bE (nw 18 131071 (fun _ hm=>⟨hm.bl 1,hm.bl 2,hm.fa 13,trivial⟩) fun z=>wq 17 U (cV U) (jO (bD (bR (bP U (bB (dA U) U (dY xR U U (eJ cJ0 3 U U U (bP U (bB (kT (enc:=vB) (ek:=dM) (s:=st) (e:=4) false jZ (by kernel_rfl) (by kernel_rfl) U U (fun _ hm=>(hm.fact 3 U))) U (bK 157 (v':= .bool ist) U (fU3 bX1.symm) (bX U (bQ (bI (bP U (bP U (bP U (bB (dJ (cs:= [.int .i64 at_,.string pY.veh,.string st,.int .i64 3,.string ⟨#[]⟩]) U (by kernel_rfl)) U (jE 74 [.int .i64 at_,.string pY.veh,.string st,.int .i64 3,.string ⟨#[]⟩] fun g4=>?_)))))))))))))))))))))))))
  refine bX U (bE (bG ?_))
  exact fK (A5,n5,c5,g4) hln ⟨U,U,U,U,U,U,U,trivial⟩ (fun _ hm=>hm.pick [1,0,4] [0,1] [0,1,2,3,4,5,6,7,8,9,10,11,12,13] U U)
 rintro ⟨A5,n5,c5,gE⟩ cB
 replace cB:l5.length=n5:=cB
 dsimp only
 refine bH (bR (bP U (bP U (bB (cE U) U (cZ U qN U U (fun wx hm=>(eH _ _ wx)) (jE 48 [.int .i64 HE,.int .i64 (dI (!ist) 8)] fun g5=>cZ U wH U U (fun wx hm=>(fN [HE,dI (!ist) 8] _ _ _ wx (hm.blkI 0 U) (by simp))) (bX U (bQ (bR (bP U (bB (gS U U) U (bQ ?_))))))))))))
 refine gI U (fun hy=>?_) (fun hy=>?_)
 ·refine bR (bP U (bX U (bQ ?_)))
  refine bM (bA ?_)
  have hyx:¬dG [HE,dI (!ist) 8]=0:=by simpa using hy
  have hsm:fZ σ=uN T at_ (fZ σ) k st n0 n1:=by
   rw [hAB]
   exact (pM fun ⟨q1,q2,_⟩=>hyx (by rw [hHE.trans q1,bX1.trans q2];rfl)).symm
  refine bJ U U fun wx hm=>?_
  refine ⟨lv,σ,_,U,⟨.same σ,hsm⟩,?_⟩
  exact (hm.pick [3] [0,1] [2,3,4,5,6,7,8,9,10,11] U U).cy
 refine bN (bD (bH (bR ?_)))
 have hy0:dG [HE,dI (!ist) 8]=0:=by simpa using hy
 obtain ⟨hz0,hz9⟩:=bC9 hy0
 have hq0:bS2 HE ⟨h0,h1,h2,h3,endLegs hl (⟨at_,st,n0,n1⟩:Rd)⟩=⟨h0,h1,h2,h3,endLegs hl (⟨at_,st,n0,n1⟩:Rd)⟩:=bC0 hz0
 have hx9:=hq0.symm.trans hxq.symm
 injection hx9 with q1 q2 q3 q4 q5
 subst q1 q2 q3 q4 q5
 have hEz:=hHE.symm.trans hz0
 rw [hHE] at hz0
 obtain ⟨hgo,hE5⟩:=bO9 hz0
 have hle:=hireE_legs hE5
 dsimp only at hle
 have hT:(T st).getD false=true:=by
  have:=rD (by decide) hz9
  rw [<-bX1];simpa using this
 have hopen:=(goingE_ok hgo).2
 refine bP U (bB (dT jW U) U (bK 173 (v':= .int .i64 1) U U (bP U (bQ (bO (eY 2 (eD (bR (bB (dE U U) U (bK 175 (v':= .bool true) U (fU3 (by decide)) (bQ (bH (kP U (bN (bD (bH (bO (bR (bB (bV (j:=0) jW U U (by decide)) U (bB (cU fJ U (fun _ hm=>hm.blkI 2 U) U U) U (dL bX7 U fun g6=>kE (cs':= [.int .i64 at_,.string pY.veh,.string st,.int .i64 3,.string ⟨#[]⟩]) 0 fJ U U U U (bQ (bR (bP U (bB (cU fJ U (fun _ hm=>hm.blkI 0 U) U U) U (cH (v:= .int .i64 C0) U zQ U U (fun wx hm=>(by rw [hC0];exact (rJ σ u0 u2 u3 u4 u5 u6 u7 u8 u9 jI jJ jK jL jM jN go gv gs fT fR fS fU gC cA cn cc lv rv at_ pY.veh st 3 ⟨#[]⟩ _ wx (hm.blkI 4 rfl) (hm.fact 4 rfl) (hm.fact 5 rfl)))) ?_))))))))))))))))))))))))))
 refine bX U (bQ (bR (bP U (bB (gS U U) U (bQ ?_)))))
 refine gI U (fun hc0=>?_) (fun hc0=>?_)
 ·refine bR (bP U (bX U (bQ ?_)))
  refine bM (bC (bA (bA (bC (bA ?_)))))
  have hcx:¬C0=0:=by simpa using hc0
  have hsm:fZ σ=uN T at_ (fZ σ) k st n0 n1:=by
   rw [hAB]
   exact (pM fun ⟨_,_,qq⟩=>hcx (hC0.trans (qM.2 (zP.1 qq)))).symm
  refine bJ U U fun wx hm=>?_
  refine ⟨lv,σ,_,U,⟨.same σ,hsm⟩,?_⟩
  exact (hm.pick [4] [0,1] [2,3,4,5,6,7,8,9,10,11] U U).cy
 refine bN (bG (bD (bI ?_)))
 have hcan0:bT1 σ (eP at_ pY.veh st):=qM.1 (hC0.symm.trans (by simpa using hc0))
 refine gO U U (bK 184 (v':= .int .i64 1) U U (bP U (bE (hW (eD (bR (bB (dE U U) U (bK 175 (v':= .bool false) U (fU3 (by decide)) (bQ (bH (jQ U (dD (bF (bF (bY (bD (bH (bR (bP U (bB (dT jW U) U (bK 186 (v':= .int .i64 1) U U (bP U (bQ (bO (eY 2 (eD (bR (bB (dE U U) U (bK 188 (v':= .bool true) U (fU3 (by decide)) ?_)))))))))))))))))))))))))))))
 refine bQ (bH (kP U (bN (bD (bH (bO (bR (bB (bV (j:=0) jW U U (by decide)) U (bB (cU fJ U (fun _ hm=>hm.blkI 3 U) U U) U (dL bX7 U fun g7=>kE (cs':= [.int .i64 at_,.string pY.veh,.string st,.int .i64 3,.string ⟨#[]⟩]) 0 fJ U U U U (bQ (bI (bP U (bB (cU fJ U (fun _ hm=>hm.blkI 0 U) U U) U ?_))))))))))))))
 refine gD (γ:=Value) (val:=fun _=> .tuple #[]) (φ:=fun _=>True) (K':=fun _=>fun _=>True) (L':=fun qK=> [(go,119, [u0,.slice cA cn cc,u2,u3,u4,u5,u6,u7,u8,u9,jI,jJ,jK,jL,jM,jN,.map (some gv),.map (some gs),.map (some fT),qK,.map (some fR),.map (some fS),.map (some fU),.map (some gC),rv]),(g3,64, [.string h0,.string h1,.int .i64 h2,.int .i64 h3,.slice A5 n5 c5]),(gE,74, [.int .i64 at_,.string pY.veh,.string st,.int .i64 3,.string ⟨#[]⟩])]) (O':=fun qK=> [⟨qK,74,5,(gK σ (eP at_ pY.veh st)).lg.length,(gK σ (eP at_ pY.veh st)).lg.flatMap dO⟩,⟨rv,226,2,rn,rx⟩]) (X':=fun _=> [bU vS dM w0.heap.size gv (V),bU vB dM w0.heap.size gs (T),bU qS dM w0.heap.size fT ((gK σ (eP at_ pY.veh st)).fs),bU vB nB w0.heap.size fR ((gK σ (eP at_ pY.veh st)).fa),bU pZ dM w0.heap.size fS ((gK σ (eP at_ pY.veh st)).fb),bU nG dM w0.heap.size fU ((gK σ (eP at_ pY.veh st)).fh),bU vI dM w0.heap.size gC (fp),gF 68 (gK σ (eP at_ pY.veh st)).fh,bW dW 2 84 w0.heap.size none cA cn cl,TxtO w0.heap.size none,fun wy=>SlT lgEnc 9 68 wy A5 n5 (endLegs hl (⟨at_,st,n0,n1⟩:Rd))]) U cL5 U U (fun wx hm=>(bL4 w0 u0 u2 u3 u4 u5 u6 u7 u8 u9 jI jJ jK jL jM jN go gv gs fT fR fS fU gC cA cn cc cl V T rv rn rx hd fp σ lv at_ pY.veh st 3 ⟨#[]⟩ [(g3,64, [.string h0,.string h1,.int .i64 h2,.int .i64 h3,.slice A5 n5 c5]),(gE,74, [.int .i64 at_,.string pY.veh,.string st,.int .i64 3,.string ⟨#[]⟩])] [fun wy=>SlT lgEnc 9 68 wy A5 n5 (endLegs hl (⟨at_,st,n0,n1⟩:Rd))] (dW1 SlT.mfar) wx hlg (hm.pick [5,3,4] [0,1] [2,3,4,5,6,7,8,9,10,11,0] U U).cy).mono fun _ _ ⟨lv_,he,vD⟩=>⟨lv_,he,trivial,vD.cy⟩) ?_
 intro qK _
 refine bE (bG (bD (bI (gO U U (bK 194 (v':= .int .i64 1) U U (bP U (bE (hW (eD (bR (bB (dE U U) U (bK 188 (v':= .bool false) U (fU3 (by decide)) (bQ (bH (jQ U (dD (bF (bF (bY (bD (bH (gd (fun wz=>Blk wz go 119 [u0,.slice cA cn cc,u2,u3,u4,u5,u6,u7,u8,u9,jI,jJ,jK,jL,jM,jN,.map (some gv),.map (some gs),.map (some fT),qK,.map (some fR),.map (some fS),.map (some fU),.map (some gC),rv]/\Blk wz g3 64 [.string h0,.string h1,.int .i64 h2,.int .i64 h3,.slice A5 n5 c5]/\True) mixed (fun _ hm=>⟨hm.bl 0,hm.bl 1,trivial⟩) fun z=>wq 0 U (bL U) (wq 1 U (dA U) (wq 2 U (bS qT U U) (wq 3 U (cQ zC U (fun _ hm=>hm.1) U) (wq 4 U (bL U) (wq 5 U (cU nF U (fun _ hm=>hm.2.1) U U) (eG 6 U ?_))))))))))))))))))))))))))))
 refine kO (enc:=nG) (ek:=dM) (s:=k) (v:=(⟨h0,h1,h2,h3,A5,n5,c5,endLegs hl (⟨at_,st,n0,n1⟩:Rd)⟩:Hg)) (e:=64) (X':= [bU vS dM w0.heap.size gv (V),bU vB dM w0.heap.size gs (T),bU qS dM w0.heap.size fT ((gK σ (eP at_ pY.veh st)).fs),bU vB nB w0.heap.size fR ((gK σ (eP at_ pY.veh st)).fa),bU pZ dM w0.heap.size fS ((gK σ (eP at_ pY.veh st)).fb),bU vI dM w0.heap.size gC (fp),gF 68 (gK σ (eP at_ pY.veh st)).fh,bW dW 2 84 w0.heap.size none cA cn cl,TxtO w0.heap.size none,fun wy=>SlT lgEnc 9 68 wy A5 n5 (endLegs hl (⟨at_,st,n0,n1⟩:Rd))]) 5 jZ (by kernel_rfl) U U U U (cL (i:=0) (bU.farK (gR hd (i:=0) (j:=5) U U (by decide))) U (cL (i:=1) (bU.farK (gR hd (i:=1) (j:=5) U U (by decide))) U (cL (i:=2) (bU.farK (gR hd (i:=2) (j:=5) U U (by decide))) U (cL (i:=3) (bU.farK (gR hd (i:=3) (j:=5) U U (by decide))) U (cL (i:=4) (bU.farK (gR hd (i:=4) (j:=5) U U (by decide))) U (cL (i:=6) (bU.farK (gR hd (i:=6) (j:=5) U U (by decide))) U (cL (i:=7) (gF.mfar).far U (cL (i:=8) (bW.mfar).far U (cL (i:=9) (TxtO.mfar).far U (cL (i:=10) (SlT.mfar).far U gB)))))))))) (bE (nw 7 127 (fun _ hm=>⟨hm.bl 0,hm.bl 1,trivial⟩) fun z=>jO (bD (bR (bX U (bQ (bM ?_)))))))
 have hab:fZ ({ gK σ (eP at_ pY.veh st) with fh:=fQ σ.fh k (⟨h0,h1,h2,h3,A5,n5,c5,endLegs hl (⟨at_,st,n0,n1⟩:Rd)⟩:Hg) }:Os)=uN T at_ (fZ σ) k st n0 n1:=by
  rw [hAB]
  refine Eq.trans ?_ (xZ ⟨hEz,hT,hcan0⟩).symm
  show (⟨_,_,_,fun j=>(fQ σ.fh k (⟨h0,h1,h2,h3,A5,n5,c5,endLegs hl (⟨at_,st,n0,n1⟩:Rd)⟩:Hg) j).map hrG,_⟩:As)=_
  rw [cB3];rfl
 refine bJ U U fun wx hm=>?_
 refine ⟨qK,_,0,U,⟨.close σ k (⟨h0,h1,h2,h3,(some ⟨hb,hof,none⟩),uQ,hc,hl⟩:Hg) (⟨h0,h1,h2,h3,A5,n5,c5,endLegs hl (⟨at_,st,n0,n1⟩:Rd)⟩:Hg) pY (⟨at_,st,n0,n1⟩:Rd) hfk ⟨⟨hrk.1,hrk.2.1,end_ok hrk.2.2 hs⟩,by dsimp only;omega,by dsimp only;omega,by dsimp only;omega⟩ hE5 hopen hg U U U hT hcan0,hab⟩,?_⟩
 have hput:=gF.put (k:=k) (h:=(⟨h0,h1,h2,h3,A5,n5,c5,endLegs hl (⟨at_,st,n0,n1⟩:Rd)⟩:Hg)) (hm.fact 7 rfl) (hm.fact 10 rfl)
 have hm:=hm.also (gF.lasts2 rfl) hput
 exact (hm.pick [0] [0,1] [2,3,4,5,6,1,7,0,9,10] U U).cy
theorem dH5 (w0:World) (u0 u2 u3 u4 u5 u6 u7 u8 u9 jI jJ jK jL jM jN:Value) (go gv gs fT fR fS fU gC:Nat) (cA:Option Addr) (cn cc:Nat) (cl:List Cs) (V:ByteArray->Option ByteArray) (T:ByteArray->Option Bool) (rv:Value) (rn:Nat) (rx:List Value) (hd: [gv,gs,fT,fR,fS,fU,gC].Nodup) (ck:Bk->Prop) (fp:ByteArray->Option Int) (σ:Os) (lv:Value) (at_:Int) (k st v:ByteArray) (n0 n1 n2 n3:Int) (tA nA:Option Addr) (tc nc:Nat) (w:World) (hs:st.size<=1000000) (hv:v.size<=1000000) (hlg0:σ.lg.length<=99990) (hso:cA3 σ) (ht:SlT fH 1 9 w tA 3 [k,st,v]) (hn:SlT kN 1 3 w nA 4 [n0,n1,n2,n3]) (hm:gV ⟨0,w0,none, [68,9,3]⟩ (fun _=>True) [(go,119, [u0,.slice cA cn cc,u2,u3,u4,u5,u6,u7,u8,u9,jI,jJ,jK,jL,jM,jN,.map (some gv),.map (some gs),.map (some fT),lv,.map (some fR),.map (some fS),.map (some fU),.map (some gC),rv])] [⟨lv,74,5,σ.lg.length,σ.lg.flatMap dO⟩,⟨rv,226,2,rn,rx⟩] [bU vS dM w0.heap.size gv (V),bU vB dM w0.heap.size gs (T),bU qS dM w0.heap.size fT (σ.fs),bU vB nB w0.heap.size fR (σ.fa),bU pZ dM w0.heap.size fS (σ.fb),bU nG dM w0.heap.size fU (σ.fh),bU vI dM w0.heap.size gC (fp),gF 68 σ.fh,bW dW 2 84 w0.heap.size none cA cn cl,TxtO w0.heap.size none,fun wy=>SlT fH 1 9 wy tA 3 [k,st,v],fun wy=>SlT kN 1 3 wy nA 4 [n0,n1,n2,n3]] w):
 Calls prog 175 #[.pointer (some ⟨go,0,none⟩),.int .i64 at_,.agg #[.string ⟨#[115,119,97,112]⟩,.slice tA 3 tc,.slice nA 4 nc]] w (fun e w'=>∃lv' σ' E,e=.returned (.int .i64 E)/\(kR V T ck at_ σ σ'/\fZ σ'=xL V T at_ (fZ σ) k st v n0 n1 n2 n3)/\gV ⟨0,w0,none, [68,9,3]⟩ (fun _=>True) [(go,119, [u0,.slice cA cn cc,u2,u3,u4,u5,u6,u7,u8,u9,jI,jJ,jK,jL,jM,jN,.map (some gv),.map (some gs),.map (some fT),lv',.map (some fR),.map (some fS),.map (some fU),.map (some gC),rv])] [⟨lv',74,5,σ'.lg.length,σ'.lg.flatMap dO⟩,⟨rv,226,2,rn,rx⟩] [bU vS dM w0.heap.size gv (V),bU vB dM w0.heap.size gs (T),bU qS dM w0.heap.size fT (σ'.fs),bU vB nB w0.heap.size fR (σ'.fa),bU pZ dM w0.heap.size fS (σ'.fb),bU nG dM w0.heap.size fU (σ'.fh),bU vI dM w0.heap.size gC (fp),gF 68 σ'.fh,bW dW 2 84 w0.heap.size none cA cn cl,TxtO w0.heap.size none] w'):=by
 have hlg:σ.lg.length<=100000:=by omega
 refine cS ⟨201,w0,none, [68,9,3]⟩ func175 U ntmps175 U hm.cy (bR ?_)
 obtain ⟨tb,rU,htA,_,_⟩:=ht.get (by decide)
 subst htA
 obtain ⟨nb,xG,hnA,_,_⟩:=hn.get (by decide)
 subst hnA
 obtain ⟨ish,bB0⟩:∃z,z=(σ.fh k).isSome:=⟨_,rfl⟩
 obtain ⟨xh,hxh⟩:∃z,z=(σ.fh k).getD vF:=⟨_,rfl⟩
 obtain ⟨h0,h1,h2,h3,hA,uQ,hc,hl⟩:=xh
 have hol:∀h,σ.fh k=some h->SlT lgEnc 9 68 w h.A h.n h.legs:=fun h=>hm.fact 7 rfl k h
 refine fG U U U fun g1=>bX U (bQ (bR (dY kL U U (eJ qH 0 U U U (bB (bV (j:=0) jX U U (by omega)) U (bB (dK (k:=0) (v:= .string k) fC U (fun _ hm=>(hm.fact 10 U)) (U: [k,st,v][0]?=some k) U U) U (bX U (bQ (bR (bP U (bB (dA U) U (dY qT U U (eJ zC 1 U U U (bP U (bB (gX (enc:=nG) (ek:=dM) (s:=k) (e:=64) vF jZ (by kernel_rfl) (by kernel_rfl) U U (fun _ hm=>(hm.fact 5 U))) U (bP U (bB (cP U U) U (bK 39 (v':= .agg #[.string h0,.string h1,.int .i64 h2,.int .i64 h3,.slice hA uQ hc]) U (congrArg nG hxh.symm) (bB (cP U U) U (bK 40 (v':= .bool ish) U (fU3 bB0.symm) (dL bZ4 U fun g2=>kE (cs':= [.string h0,.string h1,.int .i64 h2,.int .i64 h3,.slice hA uQ hc]) 0 nF U U U U ?_)))))))))))))))))))))
 refine bX U (bQ (bH (bR (bP U (bB (cE U) U (bQ ?_))))))
 refine dC U (fun hh=>?_) (fun hh=>?_)
 ·have hz:ish=false:=by simpa using hh
  refine bR (bX U (bQ (bM (bA ?_))))
  have hsm:fZ σ=xL V T at_ (fZ σ) k st v n0 n1 n2 n3:=(dI0 (cB4 (bB0.symm.trans (by simpa using hz)))).symm
  refine bJ U U fun wx hm=>?_
  refine ⟨lv,σ,_,U,⟨.same σ,hsm⟩,?_⟩
  exact (hm.pick [2] [0,1] [0,1,2,3,4,5,6,7,8,9] U U).cy
 have hz:ish=true:=by simpa using hh
 refine bN (bD (bR ?_))
 have hz1:ish=true:=by simpa using hz
 have hfk:=bV5 (bB0.symm.trans hz1) hxh
 obtain ⟨hrk,hnp,hn20,hll⟩:=hso.hi k _ hfk
 dsimp only at hrk hnp hn20 hll
 have hot:=hol _ hfk
 dsimp only at hot
 obtain ⟨hb,hof,hA1,_,_⟩:=hot.get hnp
 subst hA1
 obtain ⟨pY,hg⟩:∃z,hl[uQ - 1]?=some z:=⟨_,fW3 (by omega)⟩
 have hlv:bE0 hl=pY.veh:=by unfold bE0;rw [hll,hg];rfl
 have hAB:xL V T at_ (fZ σ) k st v n0 n1 n2 n3=dP9 V T at_ (fZ σ) k (⟨h0,h1,h2,h3,hl⟩:Hr) pY.veh st v n0 n1 n2 n3:=dJ0 (cC4 hfk) hlv
 refine yT (γ:=Unit) (fun _ wy=>SlT lgEnc 9 68 wy (some ⟨hb,hof,none⟩) uQ hl) (fun w hm=>⟨(),(hm.fact 7 U:gF 68 σ.fh w) k _ hfk⟩) (fun _=>SlT.lasts2 U) fun _=>?_
 obtain ⟨HE,hHE⟩:∃z,z=cV5 (⟨h0,h1,h2,h3,hl⟩:Hr) (⟨at_,st,n0,n1⟩:Rd) v (⟨at_,st,n2,n3⟩:Rd):=⟨_,rfl⟩
 obtain ⟨xq,hxq⟩:∃z,z=bS2 HE ⟨h0,h1,h2,h3,gZ hl (⟨at_,st,n0,n1⟩:Rd) v (⟨at_,st,n2,n3⟩:Rd)⟩:=⟨_,rfl⟩
 obtain ⟨k5,d5,f5,t5,l5⟩:=xq
 obtain ⟨ist,bX1⟩:∃z,z=(T st).getD false:=⟨_,rfl⟩
 obtain ⟨iv,hiv⟩:∃z,z=(V v).isSome:=⟨_,rfl⟩
 obtain ⟨vc,hvc⟩:∃z,z=(V v).getD (⟨#[]⟩:ByteArray):=⟨_,rfl⟩
 obtain ⟨C0,hC0⟩:∃z,z=cH3 σ (eP at_ pY.veh st):=⟨_,rfl⟩
 obtain ⟨C1,hC1⟩:∃z,z=cH3 σ (gL at_ v st):=⟨_,rfl⟩
 refine dL bZ4 U fun g3=>bQ (bR (bX U (bQ (bR (bX U (bQ (bR (bX U (bQ ?_)))))))))
 refine pB (γ:=Option Addr×Nat×Nat×Nat×Bool) (I:=(fun (gq:Option Addr×Nat×Nat×Nat×Bool)=>l5.length=gq.2.1/\gq.2.2.2.2=(ist&&iv))) (S':=(fun (gq:Option Addr×Nat×Nat×Nat×Bool)=> [(0,.pointer (some ⟨go,0,none⟩)),(6,.int .i64 0),(7,.string k),(10,.pointer (some ⟨g3,0,none⟩)),(11,.int .i64 HE),(12,.slice (some ⟨gq.2.2.2.1,0,none⟩) 2 2),(13,.bool gq.2.2.2.2)])) (K':=(fun (gq:Option Addr×Nat×Nat×Nat×Bool)=>fun _=>True)) (L':=(fun (gq:Option Addr×Nat×Nat×Nat×Bool)=> [(g3,64, [.string k5,.string d5,.int .i64 f5,.int .i64 t5,.slice gq.1 gq.2.1 gq.2.2.1]),(gq.2.2.2.1,74, [.int .i64 at_,.string pY.veh,.string st,.int .i64 3,.string ⟨#[]⟩,.int .i64 at_,.string v,.string st,.int .i64 2,.string ⟨#[]⟩]),(go,119, [u0,.slice cA cn cc,u2,u3,u4,u5,u6,u7,u8,u9,jI,jJ,jK,jL,jM,jN,.map (some gv),.map (some gs),.map (some fT),lv,.map (some fR),.map (some fS),.map (some fU),.map (some gC),rv])])) (O':=(fun (gq:Option Addr×Nat×Nat×Nat×Bool)=> [⟨lv,74,5,σ.lg.length,σ.lg.flatMap dO⟩,⟨rv,226,2,rn,rx⟩])) (X':=(fun (gq:Option Addr×Nat×Nat×Nat×Bool)=> [fun wy=>SlT lgEnc 9 68 wy gq.1 gq.2.1 l5,fun wy=>SlT lgEnc 9 68 wy (some ⟨hb,hof,none⟩) uQ hl,bU vS dM w0.heap.size gv (V),bU vB dM w0.heap.size gs (T),bU qS dM w0.heap.size fT (σ.fs),bU vB nB w0.heap.size fR (σ.fa),bU pZ dM w0.heap.size fS (σ.fb),bU nG dM w0.heap.size fU (σ.fh),bU vI dM w0.heap.size gC (fp),gF 68 σ.fh,bW dW 2 84 w0.heap.size none cA cn cl,TxtO w0.heap.size none,fun wy=>SlT fH 1 9 wy (some ⟨tb,rU,none⟩) 3 [k,st,v],fun wy=>SlT kN 1 3 wy (some ⟨nb,xG,none⟩) 4 [n0,n1,n2,n3]])) ?_ ?_
 ·refine bR (dY uP U U (eJ bV7 1 U U U (dY uP U U (eJ bV7 1 U U U (bB (dT bB9 U) U ?_)))))
  refine bB (ov_sub U U (by omega) (by omega)) U (bK 48 (v':= .int .i64 ((uQ - 1:Nat):Int)) U (fV3 (by omega)) (bB (bV (j:=uQ - 1) bB9 U U (by omega)) U (dY bG9 U U (bB (dK (k:=0) (v:= .string pY.veh) fC U (fun _ hm=>(hm.fact 0 U)) hg U U) U (bX U (bQ (bR (dY mC U U (eJ fC 2 U U U (bQ (bO (bR (bB (eS U U) U (bK 120 (v':= .bool false) U (fU3 (by rw [mZ];decide)) (bX U (bQ (jQ U (bR (bB (eS U U) U (bK 131 (v':= .bool false) U (fU3 (by rw [mZ];decide)) (bX U (bQ (jQ U (bH (gd (fun wz=>Blk wz g1 271 [.string ⟨#[115,119,97,112]⟩,.slice (some ⟨tb,rU,none⟩) 3 tc,.slice (some ⟨nb,xG,none⟩) 4 nc]/\(fun wy=>SlT fH 1 9 wy (some ⟨tb,rU,none⟩) 3 [k,st,v]) wz/\True) mixed (fun _ hm=>⟨hm.bl 2,hm.fa 11,trivial⟩) fun z=>wq 0 U (bS kL U U) (wq 1 U (cQ qH U (fun _ hm=>hm.1) U) (wq 2 U (bV (j:=1) jX U U (by omega)) (wq 3 U (dK (k:=0) (v:= .string st) fC U (fun _ hm=>(hm.2.1)) (U: [k,st,v][1]?=some st) U U) ?_))))))))))))))))))))))))))))
  refine wq 4 U (bS kL U U) (wq 5 U (cQ qH U (fun _ hm=>hm.1) U) (wq 6 U (bV (j:=2) jX U U (by omega)) (wq 7 U (dK (k:=0) (v:= .string v) fC U (fun _ hm=>(hm.2.1)) (U: [k,st,v][2]?=some v) U U) (wq 8 U (cV U) (wq 9 U (cV U) (jO (bD (bH (gd (fun wz=>Blk wz g1 271 [.string ⟨#[115,119,97,112]⟩,.slice (some ⟨tb,rU,none⟩) 3 tc,.slice (some ⟨nb,xG,none⟩) 4 nc]/\(fun wy=>SlT kN 1 3 wy (some ⟨nb,xG,none⟩) 4 [n0,n1,n2,n3]) wz/\True) mixed (fun _ hm=>⟨hm.bl 2,hm.fa 12,trivial⟩) fun z=>wq 0 U (bL U) (wq 1 U (bL U) (wq 2 U (bS nI U U) (wq 3 U (cQ kZ U (fun _ hm=>hm.1) U) (wq 4 U (bV (j:=0) pD U U (by omega)) (wq 5 U (dK (k:=0) (v:= .int .i64 n0) fP U (fun _ hm=>(hm.2.1)) (U: [n0,n1,n2,n3][0]?=some n0) U U) (wq 6 U (bS nI U U) (wq 7 U (cQ kZ U (fun _ hm=>hm.1) U) (wq 8 U (bV (j:=1) pD U U (by omega)) (wq 9 U (dK (k:=0) (v:= .int .i64 n1) fP U (fun _ hm=>(hm.2.1)) (U: [n0,n1,n2,n3][1]?=some n1) U U) (wq 10 U (dJ (cs:= [.int .i64 at_,.string st,.int .i64 n0,.int .i64 n1]) U (by kernel_rfl)) (eG 11 U (dL fI1 U fun g4=>bE (nw 13 4095 (fun _ hm=>⟨hm.bl 3,hm.fa 12,trivial⟩) fun z=>eG 12 U (kE (cs':= [.int .i64 at_,.string st,.int .i64 n0,.int .i64 n1]) 0 dC0 U U U U (bE (nw 13 8191 (fun _ hm=>⟨hm.bl 3,hm.fa 12,trivial⟩) fun z=>jO ?_)))))))))))))))))))))))))
  refine bD (bH (gd (fun wz=>Blk wz g1 271 [.string ⟨#[115,119,97,112]⟩,.slice (some ⟨tb,rU,none⟩) 3 tc,.slice (some ⟨nb,xG,none⟩) 4 nc]/\(fun wy=>SlT kN 1 3 wy (some ⟨nb,xG,none⟩) 4 [n0,n1,n2,n3]) wz/\True) mixed (fun _ hm=>⟨hm.bl 3,hm.fa 12,trivial⟩) fun z=>wq 0 U (bL U) (wq 1 U (bL U) (wq 2 U (bS nI U U) (wq 3 U (cQ kZ U (fun _ hm=>hm.1) U) (wq 4 U (bV (j:=2) pD U U (by omega)) (wq 5 U (dK (k:=0) (v:= .int .i64 n2) fP U (fun _ hm=>(hm.2.1)) (U: [n0,n1,n2,n3][2]?=some n2) U U) (wq 6 U (bS nI U U) (wq 7 U (cQ kZ U (fun _ hm=>hm.1) U) (wq 8 U (bV (j:=3) pD U U (by omega)) (wq 9 U (dK (k:=0) (v:= .int .i64 n3) fP U (fun _ hm=>(hm.2.1)) (U: [n0,n1,n2,n3][3]?=some n3) U U) (wq 10 U (dJ (cs:= [.int .i64 at_,.string st,.int .i64 n2,.int .i64 n3]) U (by kernel_rfl)) (eG 11 U (dL fI1 U fun g5=>bE (nw 13 4095 (fun _ hm=>⟨hm.bl 4,hm.fa 12,trivial⟩) fun z=>eG 12 U (kE (cs':= [.int .i64 at_,.string st,.int .i64 n2,.int .i64 n3]) 0 dC0 U U U U (bE (nw 13 8191 (fun _ hm=>⟨hm.bl 4,hm.fa 12,trivial⟩) fun z=>jO (bD (bR (bB (cU nF U (fun _ hm=>hm.blkI 3 U) U U) U (bB (cU dC0 U (fun _ hm=>hm.blkI 1 U) U U) U (bP U (bB (cU dC0 U (fun _ hm=>hm.blkI 0 U) U U) U ?_))))))))))))))))))))))))
  refine gY (γ:=Option Addr×Nat×Nat) (val:=(fun g=> .tuple #[.agg #[.string k5,.string d5,.int .i64 f5,.int .i64 t5,.slice g.1 g.2.1 g.2.2],.int .i64 HE])) (φ:=(fun g=>l5.length=g.2.1)) (Y:=(fun g=>fun wy=>SlT lgEnc 9 68 wy g.1 g.2.1 l5)) U eG9 U U (fun wx hm=>(dR3 h0 h1 h2 h3 hl (some ⟨hb,hof,none⟩) uQ hc v at_ st n0 n1 at_ st n2 n3 wx (hm.fact 0 U) hrk (by omega) hv hs hs).mono fun _ _ ⟨A,n,c,he,hg,hs⟩=>⟨(A,n,c),by rw [<-hHE,<-hxq] at he;exact he,by rw [<-hHE,<-hxq] at hs;exact hs.len,hg,by rw [<-hHE,<-hxq] at hs;exact hs⟩) (fun _=>SlT.lasts2 U) ?_
  rintro ⟨A5,n5,c5⟩ hln
  dsimp only at hln ⊢
  refine bP U (bB (cP U U) U (bB (cP U U) U (kE (cs':= [.string k5,.string d5,.int .i64 f5,.int .i64 t5,.slice A5 n5 c5]) 2 nF U U U U (bX U (bQ (bR (bP U (bB (dA U) U (dY bZ7 U U (eJ dH2 5 U U U (bP U (bB (gX (enc:=vS) (ek:=dM) (s:=v) (e:=9) (⟨#[]⟩:ByteArray) jZ (by kernel_rfl) (by kernel_rfl) U U (fun _ hm=>(hm.fact 2 U))) U (bP U (bB (cP U U) U (bK 99 (v':= .string vc) U (congrArg Value.string hvc.symm) (bB (cP U U) U (bK 100 (v':= .bool iv) U (fU3 hiv.symm) (bX U (bX U (bQ (bR (bP U (bB (dA U) U (dY xR U U (eJ cJ0 5 U U U (bP U (bB (kT (enc:=vB) (ek:=dM) (s:=st) (e:=4) false jZ (by kernel_rfl) (by kernel_rfl) U U (fun _ hm=>(hm.fact 3 U))) U (bK 106 (v':= .bool ist) U (fU3 bX1.symm) (bP U ?_)))))))))))))))))))))))))))))
  rcases Bool.eq_false_or_eq_true ist with hb6|hb6
  ·refine bK 107 U (fU3 hb6) ?_
   refine eE U (bP U (mN U U (bX U (bQ (bI (bP U (bP U (bP U (bB (dJ (cs:= [.int .i64 at_,.string pY.veh,.string st,.int .i64 3,.string ⟨#[]⟩]) U (by kernel_rfl)) U (bP U (bP U (bP U (bB (dJ (cs:= [.int .i64 at_,.string v,.string st,.int .i64 2,.string ⟨#[]⟩]) U (by kernel_rfl)) U (jE 74 [.int .i64 at_,.string pY.veh,.string st,.int .i64 3,.string ⟨#[]⟩,.int .i64 at_,.string v,.string st,.int .i64 2,.string ⟨#[]⟩] fun g7=>bX U (bE (bG ?_))))))))))))))))
   exact fK (A5,n5,c5,g7,iv) ⟨hln,by rw [hb6];rfl⟩ ⟨U,U,U,U,U,U,U,trivial⟩ (fun _ hm=>hm.pick [3,0,6] [0,1] [0,1,2,3,4,5,6,7,8,9,10,11,12,13] U U)
  refine bK 107 U (fU3 hb6) (dZ U (nR U U (bX U (bQ (bI (bP U (bP U (bP U (bB (dJ (cs:= [.int .i64 at_,.string pY.veh,.string st,.int .i64 3,.string ⟨#[]⟩]) U (by kernel_rfl)) U (bP U (bP U (bP U (bB (dJ (cs:= [.int .i64 at_,.string v,.string st,.int .i64 2,.string ⟨#[]⟩]) U (by kernel_rfl)) U (jE 74 [.int .i64 at_,.string pY.veh,.string st,.int .i64 3,.string ⟨#[]⟩,.int .i64 at_,.string v,.string st,.int .i64 2,.string ⟨#[]⟩] fun g8=>bX U (bE (bG ?_))))))))))))))))
  exact fK (A5,n5,c5,g8,false) ⟨hln,by rw [hb6];rfl⟩ ⟨U,U,U,U,U,U,U,trivial⟩ (fun _ hm=>hm.pick [3,0,6] [0,1] [0,1,2,3,4,5,6,7,8,9,10,11,12,13] U U)
 rintro ⟨A5,n5,c5,gE,kn⟩ cB
 replace cB:l5.length=n5/\kn=(ist&&iv):=cB
 dsimp only
 refine bH (bR ?_)
 obtain ⟨cB,hkn⟩:=cB
 refine bP U (bP U (bB (cE U) U (cZ U qN U U (fun wx hm=>(eH _ _ wx)) (jE 48 [.int .i64 HE,.int .i64 (dI (!kn) 8)] fun g9=>cZ U wH U U (fun wx hm=>(fN [HE,dI (!kn) 8] _ _ _ wx (hm.blkI 0 U) (by simp))) (bX U (bQ (bR (bP U (bB (gS U U) U (bQ ?_))))))))))
 refine gI U (fun hy=>?_) (fun hy=>?_)
 ·refine bR (bP U (bX U (bQ ?_)))
  refine bM (bA ?_)
  have hyx:¬dG [HE,dI (!kn) 8]=0:=by simpa using hy
  have hsm:fZ σ=xL V T at_ (fZ σ) k st v n0 n1 n2 n3:=by
   rw [hAB]
   exact (pM fun ⟨q1,⟨q2,q3⟩,_⟩=>hyx (by rw [hHE.trans q1,hkn,bX1.trans q2,hiv.trans q3];rfl)).symm
  refine bJ U U fun wx hm=>?_
  refine ⟨lv,σ,_,U,⟨.same σ,hsm⟩,?_⟩
  exact (hm.pick [3] [0,1] [2,3,4,5,6,7,8,9,10,11] U U).cy
 refine bN (bD (bH (bR ?_)))
 have hy0:dG [HE,dI (!kn) 8]=0:=by simpa using hy
 obtain ⟨hz0,hz9⟩:=bC9 hy0
 have hq0:bS2 HE ⟨h0,h1,h2,h3,gZ hl (⟨at_,st,n0,n1⟩:Rd) v (⟨at_,st,n2,n3⟩:Rd)⟩=⟨h0,h1,h2,h3,gZ hl (⟨at_,st,n0,n1⟩:Rd) v (⟨at_,st,n2,n3⟩:Rd)⟩:=bC0 hz0
 have hx9:=hq0.symm.trans hxq.symm
 injection hx9 with q1 q2 q3 q4 q5
 subst q1 q2 q3 q4 q5
 have hEz:=hHE.symm.trans hz0
 rw [hHE] at hz0
 obtain ⟨hgo,hE5⟩:=bO9 hz0
 have hle:=hireE_legs hE5
 dsimp only at hle
 have h99:ist=true/\iv=true:=by
  have:=rD (by decide) hz9
  rw [hkn] at this
  simpa using this
 have hT:(T st).getD false=true:=by rw [<-bX1];exact h99.1
 have hV:(V v).isSome=true:=by rw [<-hiv];exact h99.2
 have hopen:=(goingE_ok hgo).2
 refine bP U (bB (dT jW U) U (bK 173 (v':= .int .i64 2) U U (bP U (bQ (bO (eY 3 (eD (bR (bB (dE U U) U (bK 175 (v':= .bool true) U (fU3 (by decide)) (bQ (bH (kP U (bN (bD (bH (bO (bR (bB (bV (j:=0) jW U U (by decide)) U (bB (cU fJ U (fun _ hm=>hm.blkI 2 U) U U) U (dL bX7 U fun g10=>kE (cs':= [.int .i64 at_,.string pY.veh,.string st,.int .i64 3,.string ⟨#[]⟩]) 0 fJ U U U U (bQ (bR (bP U (bB (cU fJ U (fun _ hm=>hm.blkI 0 U) U U) U (cH (v:= .int .i64 C0) U zQ U U (fun wx hm=>(by rw [hC0];exact (rJ σ u0 u2 u3 u4 u5 u6 u7 u8 u9 jI jJ jK jL jM jN go gv gs fT fR fS fU gC cA cn cc lv rv at_ pY.veh st 3 ⟨#[]⟩ _ wx (hm.blkI 4 rfl) (hm.fact 4 rfl) (hm.fact 5 rfl)))) ?_))))))))))))))))))))))))))
 refine bX U (bQ (bR (bP U (bB (gS U U) U (bQ ?_)))))
 refine gI U (fun hc0=>?_) (fun hc0=>?_)
 ·refine bR (bP U (bX U (bQ ?_)))
  refine bM (bC (bA (bA (bC (bA ?_)))))
  have hcx:¬C0=0:=by simpa using hc0
  have hsm:fZ σ=xL V T at_ (fZ σ) k st v n0 n1 n2 n3:=by
   rw [hAB]
   exact (pM fun ⟨_,_,qq,_⟩=>hcx (hC0.trans (qM.2 (zP.1 qq)))).symm
  refine bJ U U fun wx hm=>?_
  refine ⟨lv,σ,_,U,⟨.same σ,hsm⟩,?_⟩
  exact (hm.pick [4] [0,1] [2,3,4,5,6,7,8,9,10,11] U U).cy
 refine bN (bG (bD (bI ?_)))
 have hcan0:bT1 σ (eP at_ pY.veh st):=qM.1 (hC0.symm.trans (by simpa using hc0))
 refine gO U U (bK 184 (v':= .int .i64 1) U U (bP U (bE (hW (eD (bR (bB (dE U U) U (bK 175 (v':= .bool true) U (fU3 (by decide)) (bQ (bH (kP U (bN (bD (bH (bO (bR (bB (bV (j:=1) jW U U (by decide)) U (bB (cU fJ U (fun _ hm=>hm.blkI 3 U) U U) U (dL bX7 U fun g11=>kE (cs':= [.int .i64 at_,.string v,.string st,.int .i64 2,.string ⟨#[]⟩]) 0 fJ U U U U (bQ (bR (bP U (bB (cU fJ U (fun _ hm=>hm.blkI 0 U) U U) U (cH (v:= .int .i64 C1) U zQ U U (fun wx hm=>(by rw [hC1];exact (rJ σ u0 u2 u3 u4 u5 u6 u7 u8 u9 jI jJ jK jL jM jN go gv gs fT fR fS fU gC cA cn cc lv rv at_ v st 2 ⟨#[]⟩ _ wx (hm.blkI 5 rfl) (hm.fact 4 rfl) (hm.fact 5 rfl)))) ?_))))))))))))))))))))))))
 refine bX U (bQ (bR (bP U (bB (gS U U) U (bQ ?_)))))
 refine gI U (fun hc1=>?_) (fun hc1=>?_)
 ·refine bR (bP U (bX U (bQ ?_)))
  refine bM (bC (bA (bA (bC (bA ?_)))))
  have hcx:¬C1=0:=by simpa using hc1
  have hsm:fZ σ=xL V T at_ (fZ σ) k st v n0 n1 n2 n3:=by
   rw [hAB]
   exact (pM fun ⟨_,_,_,qq⟩=>hcx (hC1.trans (qM.2 (zP.1 qq)))).symm
  refine bJ U U fun wx hm=>?_
  refine ⟨lv,σ,_,U,⟨.same σ,hsm⟩,?_⟩
  exact (hm.pick [5] [0,1] [2,3,4,5,6,7,8,9,10,11] U U).cy
 refine bN (bG (bD (bI ?_)))
 have hcan1:bT1 σ (gL at_ v st):=qM.1 (hC1.symm.trans (by simpa using hc1))
 refine gO U U (bK 184 (v':= .int .i64 2) U U (bP U (bE (hW (eD (bR (bB (dE U U) U (bK 175 (v':= .bool false) U (fU3 (by decide)) (bQ (bH (jQ U (dD (bF (bF (bY (bD (bH (bR (bP U (bB (dT jW U) U (bK 186 (v':= .int .i64 2) U U (bP U (bQ (bO (eY 3 (eD (bR (bB (dE U U) U (bK 188 (v':= .bool true) U (fU3 (by decide)) ?_)))))))))))))))))))))))))))))
 refine bQ (bH (kP U (bN (bD (bH (bO (bR (bB (bV (j:=0) jW U U (by decide)) U (bB (cU fJ U (fun _ hm=>hm.blkI 4 U) U U) U (dL bX7 U fun g12=>kE (cs':= [.int .i64 at_,.string pY.veh,.string st,.int .i64 3,.string ⟨#[]⟩]) 0 fJ U U U U (bQ (bI (bP U (bB (cU fJ U (fun _ hm=>hm.blkI 0 U) U U) U ?_))))))))))))))
 refine gD (γ:=Value) (val:=fun _=> .tuple #[]) (φ:=fun _=>True) (K':=fun _=>fun _=>True) (L':=fun qK=> [(go,119, [u0,.slice cA cn cc,u2,u3,u4,u5,u6,u7,u8,u9,jI,jJ,jK,jL,jM,jN,.map (some gv),.map (some gs),.map (some fT),qK,.map (some fR),.map (some fS),.map (some fU),.map (some gC),rv]),(g3,64, [.string h0,.string h1,.int .i64 h2,.int .i64 h3,.slice A5 n5 c5]),(gE,74, [.int .i64 at_,.string pY.veh,.string st,.int .i64 3,.string ⟨#[]⟩,.int .i64 at_,.string v,.string st,.int .i64 2,.string ⟨#[]⟩])]) (O':=fun qK=> [⟨qK,74,5,(gK σ (eP at_ pY.veh st)).lg.length,(gK σ (eP at_ pY.veh st)).lg.flatMap dO⟩,⟨rv,226,2,rn,rx⟩]) (X':=fun _=> [bU vS dM w0.heap.size gv (V),bU vB dM w0.heap.size gs (T),bU qS dM w0.heap.size fT ((gK σ (eP at_ pY.veh st)).fs),bU vB nB w0.heap.size fR ((gK σ (eP at_ pY.veh st)).fa),bU pZ dM w0.heap.size fS ((gK σ (eP at_ pY.veh st)).fb),bU nG dM w0.heap.size fU ((gK σ (eP at_ pY.veh st)).fh),bU vI dM w0.heap.size gC (fp),gF 68 (gK σ (eP at_ pY.veh st)).fh,bW dW 2 84 w0.heap.size none cA cn cl,TxtO w0.heap.size none,fun wy=>SlT lgEnc 9 68 wy A5 n5 (gZ hl (⟨at_,st,n0,n1⟩:Rd) v (⟨at_,st,n2,n3⟩:Rd))]) U cL5 U U (fun wx hm=>(bL4 w0 u0 u2 u3 u4 u5 u6 u7 u8 u9 jI jJ jK jL jM jN go gv gs fT fR fS fU gC cA cn cc cl V T rv rn rx hd fp σ lv at_ pY.veh st 3 ⟨#[]⟩ [(g3,64, [.string h0,.string h1,.int .i64 h2,.int .i64 h3,.slice A5 n5 c5]),(gE,74, [.int .i64 at_,.string pY.veh,.string st,.int .i64 3,.string ⟨#[]⟩,.int .i64 at_,.string v,.string st,.int .i64 2,.string ⟨#[]⟩])] [fun wy=>SlT lgEnc 9 68 wy A5 n5 (gZ hl (⟨at_,st,n0,n1⟩:Rd) v (⟨at_,st,n2,n3⟩:Rd))] (dW1 SlT.mfar) wx hlg (hm.pick [6,4,5] [0,1] [2,3,4,5,6,7,8,9,10,11,0] U U).cy).mono fun _ _ ⟨lv_,he,vD⟩=>⟨lv_,he,trivial,vD.cy⟩) ?_
 intro qK _
 refine bE (bG (bD (bI (gO U U (bK 194 (v':= .int .i64 1) U U (bP U (bE (hW (eD (bR (bB (dE U U) U (bK 188 (v':= .bool true) U (fU3 (by decide)) (bQ (bH (kP U (bN (bD (bH (bO (bR (bB (bV (j:=1) jW U U (by decide)) U (bB (cU fJ U (fun _ hm=>hm.blkI 2 U) U U) U (dL bX7 U fun g13=>kE (cs':= [.int .i64 at_,.string v,.string st,.int .i64 2,.string ⟨#[]⟩]) 0 fJ U U U U (bQ (bI (bP U (bB (cU fJ U (fun _ hm=>hm.blkI 0 U) U U) U ?_)))))))))))))))))))))))))))
 refine gD (γ:=Value) (val:=fun _=> .tuple #[]) (φ:=fun _=>True) (K':=fun _=>fun _=>True) (L':=fun lv3=> [(go,119, [u0,.slice cA cn cc,u2,u3,u4,u5,u6,u7,u8,u9,jI,jJ,jK,jL,jM,jN,.map (some gv),.map (some gs),.map (some fT),lv3,.map (some fR),.map (some fS),.map (some fU),.map (some gC),rv]),(g3,64, [.string h0,.string h1,.int .i64 h2,.int .i64 h3,.slice A5 n5 c5]),(gE,74, [.int .i64 at_,.string pY.veh,.string st,.int .i64 3,.string ⟨#[]⟩,.int .i64 at_,.string v,.string st,.int .i64 2,.string ⟨#[]⟩])]) (O':=fun lv3=> [⟨lv3,74,5,(gK (gK σ (eP at_ pY.veh st)) (gL at_ v st)).lg.length,(gK (gK σ (eP at_ pY.veh st)) (gL at_ v st)).lg.flatMap dO⟩,⟨rv,226,2,rn,rx⟩]) (X':=fun _=> [bU vS dM w0.heap.size gv (V),bU vB dM w0.heap.size gs (T),bU qS dM w0.heap.size fT ((gK (gK σ (eP at_ pY.veh st)) (gL at_ v st)).fs),bU vB nB w0.heap.size fR ((gK (gK σ (eP at_ pY.veh st)) (gL at_ v st)).fa),bU pZ dM w0.heap.size fS ((gK (gK σ (eP at_ pY.veh st)) (gL at_ v st)).fb),bU nG dM w0.heap.size fU ((gK (gK σ (eP at_ pY.veh st)) (gL at_ v st)).fh),bU vI dM w0.heap.size gC (fp),gF 68 (gK (gK σ (eP at_ pY.veh st)) (gL at_ v st)).fh,bW dW 2 84 w0.heap.size none cA cn cl,TxtO w0.heap.size none,fun wy=>SlT lgEnc 9 68 wy A5 n5 (gZ hl (⟨at_,st,n0,n1⟩:Rd) v (⟨at_,st,n2,n3⟩:Rd))]) U cL5 U U (fun wx hm=>(bL4 w0 u0 u2 u3 u4 u5 u6 u7 u8 u9 jI jJ jK jL jM jN go gv gs fT fR fS fU gC cA cn cc cl V T rv rn rx hd fp (gK σ (eP at_ pY.veh st)) qK at_ v st 2 ⟨#[]⟩ [(g3,64, [.string h0,.string h1,.int .i64 h2,.int .i64 h3,.slice A5 n5 c5]),(gE,74, [.int .i64 at_,.string pY.veh,.string st,.int .i64 3,.string ⟨#[]⟩,.int .i64 at_,.string v,.string st,.int .i64 2,.string ⟨#[]⟩])] [fun wy=>SlT lgEnc 9 68 wy A5 n5 (gZ hl (⟨at_,st,n0,n1⟩:Rd) v (⟨at_,st,n2,n3⟩:Rd))] (dW1 SlT.mfar) wx (by show (_++ [_]).length<=_;rw [List.length_append,List.length_singleton];omega) (hm.pick [1,2,3] [0,1] [0,1,2,3,4,5,6,7,8,9,10] U U).cy).mono fun _ _ ⟨lv_,he,vD⟩=>⟨lv_,he,trivial,vD.cy⟩) ?_
 intro lv3 _
 refine bE (bG (bD (bI (gO U U (bK 194 (v':= .int .i64 2) U U (bP U (bE (hW (eD (bR (bB (dE U U) U (bK 188 (v':= .bool false) U (fU3 (by decide)) (bQ (bH (jQ U (dD (bF (bF (bY (bD (bH (gd (fun wz=>Blk wz go 119 [u0,.slice cA cn cc,u2,u3,u4,u5,u6,u7,u8,u9,jI,jJ,jK,jL,jM,jN,.map (some gv),.map (some gs),.map (some fT),lv3,.map (some fR),.map (some fS),.map (some fU),.map (some gC),rv]/\Blk wz g3 64 [.string h0,.string h1,.int .i64 h2,.int .i64 h3,.slice A5 n5 c5]/\True) mixed (fun _ hm=>⟨hm.bl 0,hm.bl 1,trivial⟩) fun z=>wq 0 U (bL U) (wq 1 U (dA U) (wq 2 U (bS qT U U) (wq 3 U (cQ zC U (fun _ hm=>hm.1) U) (wq 4 U (bL U) (wq 5 U (cU nF U (fun _ hm=>hm.2.1) U U) (eG 6 U ?_))))))))))))))))))))))))))))
 refine kO (enc:=nG) (ek:=dM) (s:=k) (v:=(⟨h0,h1,h2,h3,A5,n5,c5,gZ hl (⟨at_,st,n0,n1⟩:Rd) v (⟨at_,st,n2,n3⟩:Rd)⟩:Hg)) (e:=64) (X':= [bU vS dM w0.heap.size gv (V),bU vB dM w0.heap.size gs (T),bU qS dM w0.heap.size fT ((gK (gK σ (eP at_ pY.veh st)) (gL at_ v st)).fs),bU vB nB w0.heap.size fR ((gK (gK σ (eP at_ pY.veh st)) (gL at_ v st)).fa),bU pZ dM w0.heap.size fS ((gK (gK σ (eP at_ pY.veh st)) (gL at_ v st)).fb),bU vI dM w0.heap.size gC (fp),gF 68 (gK (gK σ (eP at_ pY.veh st)) (gL at_ v st)).fh,bW dW 2 84 w0.heap.size none cA cn cl,TxtO w0.heap.size none,fun wy=>SlT lgEnc 9 68 wy A5 n5 (gZ hl (⟨at_,st,n0,n1⟩:Rd) v (⟨at_,st,n2,n3⟩:Rd))]) 5 jZ (by kernel_rfl) U U U U (cL (i:=0) (bU.farK (gR hd (i:=0) (j:=5) U U (by decide))) U (cL (i:=1) (bU.farK (gR hd (i:=1) (j:=5) U U (by decide))) U (cL (i:=2) (bU.farK (gR hd (i:=2) (j:=5) U U (by decide))) U (cL (i:=3) (bU.farK (gR hd (i:=3) (j:=5) U U (by decide))) U (cL (i:=4) (bU.farK (gR hd (i:=4) (j:=5) U U (by decide))) U (cL (i:=6) (bU.farK (gR hd (i:=6) (j:=5) U U (by decide))) U (cL (i:=7) (gF.mfar).far U (cL (i:=8) (bW.mfar).far U (cL (i:=9) (TxtO.mfar).far U (cL (i:=10) (SlT.mfar).far U gB)))))))))) (bE (nw 7 127 (fun _ hm=>⟨hm.bl 0,hm.bl 1,trivial⟩) fun z=>jO (bD (bR (bX U (bQ (bM ?_)))))))
 have hab:fZ ({ gK (gK σ (eP at_ pY.veh st)) (gL at_ v st) with fh:=fQ σ.fh k (⟨h0,h1,h2,h3,A5,n5,c5,gZ hl (⟨at_,st,n0,n1⟩:Rd) v (⟨at_,st,n2,n3⟩:Rd)⟩:Hg) }:Os)=xL V T at_ (fZ σ) k st v n0 n1 n2 n3:=by
  rw [hAB]
  refine Eq.trans ?_ (xZ ⟨hEz,⟨hT,hV⟩,hcan0,hcan1⟩).symm
  show (⟨_,_,_,fun j=>(fQ σ.fh k (⟨h0,h1,h2,h3,A5,n5,c5,gZ hl (⟨at_,st,n0,n1⟩:Rd) v (⟨at_,st,n2,n3⟩:Rd)⟩:Hg) j).map hrG,_⟩:As)=_
  rw [cB3];rfl
 refine bJ U U fun wx hm=>?_
 refine ⟨lv3,_,0,U,⟨.swap σ k (⟨h0,h1,h2,h3,(some ⟨hb,hof,none⟩),uQ,hc,hl⟩:Hg) (⟨h0,h1,h2,h3,A5,n5,c5,gZ hl (⟨at_,st,n0,n1⟩:Rd) v (⟨at_,st,n2,n3⟩:Rd)⟩:Hg) pY (⟨at_,st,n0,n1⟩:Rd) (⟨at_,st,n2,n3⟩:Rd) v hfk ⟨⟨hrk.1,hrk.2.1,dF1 hrk.2.2 hs hv hs⟩,by dsimp only;omega,by dsimp only;omega,by dsimp only;omega⟩ hE5 hopen hg U U U U U hT hV hcan0 hcan1,hab⟩,?_⟩
 have hput:=gF.put (k:=k) (h:=(⟨h0,h1,h2,h3,A5,n5,c5,gZ hl (⟨at_,st,n0,n1⟩:Rd) v (⟨at_,st,n2,n3⟩:Rd)⟩:Hg)) (hm.fact 7 rfl) (hm.fact 10 rfl)
 have hm:=hm.also (gF.lasts2 rfl) hput
 exact (hm.pick [0] [0,1] [2,3,4,5,6,1,7,0,9,10] U U).cy
theorem dN0 {wd fm:ByteArray} {tn nn:Nat} (h:mK wd=some fm) (h1:tn=cW fm fm.size) (h2:tn+nn=fm.size):(∃kd,kd∈([1,4,5,7,8]:List Int)/\gG wd=some kd/\tn=2/\nn=0)∨(gG wd=some 6/\tn=3/\nn=0)∨(wd=⟨#[98,111,111,107]⟩/\gG wd=none/\tn=2/\nn=3)∨(wd=⟨#[99,97,110,99,101,108]⟩/\gG wd=none/\tn=1/\nn=0)∨(wd=⟨#[115,116,97,114,116]⟩/\gG wd=none/\tn=4/\nn=3)∨(wd=⟨#[115,119,97,112]⟩/\gG wd=none/\tn=3/\nn=4)∨(wd=⟨#[101,120,116,101,110,100]⟩/\gG wd=none/\tn=1/\nn=1)∨(wd=⟨#[99,108,111,115,101]⟩/\gG wd=none/\tn=2/\nn=2)∨(wd=⟨#[112,97,121]⟩/\gG wd=none/\tn=1/\nn=1):=by
 rcases bQ6 h with ⟨rfl,rfl⟩|⟨rfl,rfl⟩|⟨rfl,rfl⟩|⟨rfl,rfl⟩|⟨rfl,rfl⟩|⟨rfl,rfl⟩|⟨rfl,rfl⟩|⟨rfl,rfl⟩|⟨rfl,rfl⟩|⟨rfl,rfl⟩|⟨rfl,rfl⟩|⟨rfl,rfl⟩|⟨rfl,rfl⟩
 ·have hc:cW ⟨#[119,110]⟩ (⟨#[119,110]⟩:ByteArray).size=1:=by kernel_rfl
  have hz:(⟨#[119,110]⟩:ByteArray).size=2:=rfl
  rw [hc] at h1;rw [hz] at h2
  exact .inr (.inr (.inr (.inr (.inr (.inr (.inr (.inr (⟨U,cF2,h1,by omega⟩))))))))
 ·have hc:cW ⟨#[119,119,110,110]⟩ (⟨#[119,119,110,110]⟩:ByteArray).size=2:=by kernel_rfl
  have hz:(⟨#[119,119,110,110]⟩:ByteArray).size=4:=rfl
  rw [hc] at h1;rw [hz] at h2
  exact .inr (.inr (.inr (.inr (.inr (.inr (.inr (.inl ⟨U,bW6,h1,by omega⟩)))))))
 ·have hc:cW ⟨#[119,110]⟩ (⟨#[119,110]⟩:ByteArray).size=1:=by kernel_rfl
  have hz:(⟨#[119,110]⟩:ByteArray).size=2:=rfl
  rw [hc] at h1;rw [hz] at h2
  exact .inr (.inr (.inr (.inr (.inr (.inr (.inl ⟨U,bC4,h1,by omega⟩))))))
 ·have hc:cW ⟨#[119,119,110,110,119,110,110]⟩ (⟨#[119,119,110,110,119,110,110]⟩:ByteArray).size=3:=by kernel_rfl
  have hz:(⟨#[119,119,110,110,119,110,110]⟩:ByteArray).size=7:=rfl
  rw [hc] at h1;rw [hz] at h2
  exact .inr (.inr (.inr (.inr (.inr (.inl ⟨U,bT9,h1,by omega⟩)))))
 ·have hc:cW ⟨#[119,119,110,119,119,110,110]⟩ (⟨#[119,119,110,119,119,110,110]⟩:ByteArray).size=4:=by kernel_rfl
  have hz:(⟨#[119,119,110,119,119,110,110]⟩:ByteArray).size=7:=rfl
  rw [hc] at h1;rw [hz] at h2
  exact .inr (.inr (.inr (.inr (.inl ⟨U,bX6,h1,by omega⟩))))
 ·have hc:cW ⟨#[119]⟩ (⟨#[119]⟩:ByteArray).size=1:=by kernel_rfl
  have hz:(⟨#[119]⟩:ByteArray).size=1:=rfl
  rw [hc] at h1;rw [hz] at h2
  exact .inr (.inr (.inr (.inl ⟨U,bB4,h1,by omega⟩)))
 ·have hc:cW ⟨#[119,119,110,110,110]⟩ (⟨#[119,119,110,110,110]⟩:ByteArray).size=2:=by kernel_rfl
  have hz:(⟨#[119,119,110,110,110]⟩:ByteArray).size=5:=rfl
  rw [hc] at h1;rw [hz] at h2
  exact .inr (.inr (.inl ⟨U,bS9,h1,by omega⟩))
 ·have hc:cW ⟨#[119,119,119]⟩ (⟨#[119,119,119]⟩:ByteArray).size=3:=by kernel_rfl
  have hz:(⟨#[119,119,119]⟩:ByteArray).size=3:=rfl
  rw [hc] at h1;rw [hz] at h2
  exact .inr (.inl ⟨cS6,h1,by omega⟩)
 ·have hc:cW ⟨#[119,119]⟩ (⟨#[119,119]⟩:ByteArray).size=2:=by kernel_rfl
  have hz:(⟨#[119,119]⟩:ByteArray).size=2:=rfl
  rw [hc] at h1;rw [hz] at h2
  exact .inl ⟨8,by decide,cO9,h1,by omega⟩
 ·have hc:cW ⟨#[119,119]⟩ (⟨#[119,119]⟩:ByteArray).size=2:=by kernel_rfl
  have hz:(⟨#[119,119]⟩:ByteArray).size=2:=rfl
  rw [hc] at h1;rw [hz] at h2
  exact .inl ⟨7,by decide,cM9,h1,by omega⟩
 ·have hc:cW ⟨#[119,119]⟩ (⟨#[119,119]⟩:ByteArray).size=2:=by kernel_rfl
  have hz:(⟨#[119,119]⟩:ByteArray).size=2:=rfl
  rw [hc] at h1;rw [hz] at h2
  exact .inl ⟨5,by decide,cN9,h1,by omega⟩
 ·have hc:cW ⟨#[119,119]⟩ (⟨#[119,119]⟩:ByteArray).size=2:=by kernel_rfl
  have hz:(⟨#[119,119]⟩:ByteArray).size=2:=rfl
  rw [hc] at h1;rw [hz] at h2
  exact .inl ⟨4,by decide,cP9,h1,by omega⟩
 ·have hc:cW ⟨#[119,119]⟩ (⟨#[119,119]⟩:ByteArray).size=2:=by kernel_rfl
  have hz:(⟨#[119,119]⟩:ByteArray).size=2:=rfl
  rw [hc] at h1;rw [hz] at h2
  exact .inl ⟨1,by decide,cR6,h1,by omega⟩
theorem dM8 {α:Type} {l:List α} (h:l.length=1):∃a,l= [a]:=by
 match l,h with
 | [a],_=>exact ⟨a,rfl⟩
theorem eA2 {α:Type} {l:List α} (h:l.length=2):∃a b,l= [a,b]:=by
 match l,h with
 | [a,b],_=>exact ⟨a,b,rfl⟩
theorem eB2 {α:Type} {l:List α} (h:l.length=3):∃a b c,l= [a,b,c]:=by
 match l,h with
 | [a,b,c],_=>exact ⟨a,b,c,rfl⟩
theorem fO0 {α:Type} {l:List α} (h:l.length=4):∃a b c d,l= [a,b,c,d]:=by
 match l,h with
 | [a,b,c,d],_=>exact ⟨a,b,c,d,rfl⟩
theorem xJ {α:Type} {enc:α->List Value} {k:Nat} {T:TypeId} {w:World} {A:Option Addr} {n:Nat} {l:List α} (h:SlT enc k T w A n l):0 < n->∃b o,A=some ⟨b,o,none⟩:=fun hn=>by
 obtain ⟨b,o,hA,_⟩:=h.get hn
 exact ⟨b,o,hA⟩
noncomputable def doA (V:ByteArray->Option ByteArray) (T:ByteArray->Option Bool) (cl:List Cs) (at_:Int) (s:As) (wd:ByteArray) (tl:List ByteArray) (nl:List Int):As:=match gG wd with
 |some kd=>bM5 V T s ⟨at_,tAt tl 0,tAt tl 1,kd,if kd=6 then tAt tl 2 else ⟨#[]⟩⟩
 |none=>if wd=⟨#[98,111,111,107]⟩ then cF5 cl s ⟨tAt tl 0,tAt tl 1,nAt nl 0,nAt nl 1,at_,nAt nl 2⟩ else if wd=⟨#[99,97,110,99,101,108]⟩ then { s with fb:=yB s.fb (tAt tl 0) }
  else if wd=⟨#[115,116,97,114,116]⟩ then bJ6 V T at_ s (tAt tl 0) (tAt tl 1) (tAt tl 2) (tAt tl 3) (nAt nl 0) (nAt nl 1) (nAt nl 2) else if wd=⟨#[112,97,121]⟩ then s else if wd=⟨#[101,120,116,101,110,100]⟩ then rM s (tAt tl 0) (nAt nl 0)
  else if wd=⟨#[99,108,111,115,101]⟩ then uN T at_ s (tAt tl 0) (tAt tl 1) (nAt nl 0) (nAt nl 1) else xL V T at_ s (tAt tl 0) (tAt tl 1) (tAt tl 2) (nAt nl 0) (nAt nl 1) (nAt nl 2) (nAt nl 3)
noncomputable def mE (V:ByteArray->Option ByteArray) (T:ByteArray->Option Bool) (cl:List Cs) (at_:Int) (ws:ByteArray) (s:As):As:=match qR ws with
 |none=>s
 |some (wd,tl,nl)=>doA V T cl at_ s wd tl nl
section
variable {V:ByteArray->Option ByteArray} {T:ByteArray->Option Bool} {cl:List Cs} {at_:Int} {s:As} {ws wd:ByteArray}
theorem cX8 (h:qR ws=none):mE V T cl at_ ws s=s:=by unfold mE;rw [h]
theorem cC6 {tl:List ByteArray} {nl:List Int} (h:qR ws=some (wd,tl,nl)):mE V T cl at_ ws s=doA V T cl at_ s wd tl nl:=by unfold mE;rw [h]
theorem eY9 {kd:Int} {x0 x1:ByteArray} {nl:List Int} (h:gG wd=some kd) (h6:kd≠6):doA V T cl at_ s wd [x0,x1] nl=bM5 V T s ⟨at_,x0,x1,kd,⟨#[]⟩⟩:=by
 unfold doA
 rw [h]
 show bM5 V T s ⟨at_,x0,x1,kd,if kd=6 then _ else ⟨#[]⟩⟩=_
 rw [if_neg h6]
theorem dV6 {x0 x1 x2:ByteArray} {nl:List Int} (h:gG wd=some 6):doA V T cl at_ s wd [x0,x1,x2] nl=bM5 V T s ⟨at_,x0,x1,6,x2⟩:=by
 unfold doA
 rw [h];rfl
theorem eZ0 {x0 x1:ByteArray} {y0 y1 y2:Int}:doA V T cl at_ s ⟨#[98,111,111,107]⟩ [x0,x1] [y0,y1,y2]=cF5 cl s ⟨x0,x1,y0,y1,at_,y2⟩:=by
 unfold doA
 rw [bS9]
 dsimp only
 rw [if_pos rfl];rfl
theorem dL3 {x0:ByteArray} {nl:List Int}:doA V T cl at_ s ⟨#[99,97,110,99,101,108]⟩ [x0] nl={ s with fb:=yB s.fb x0 }:=by
 unfold doA
 rw [bB4]
 dsimp only
 rw [if_neg (by decide),if_pos rfl];rfl
theorem dW6 {x0 x1 x2 x3:ByteArray} {y0 y1 y2:Int}:doA V T cl at_ s ⟨#[115,116,97,114,116]⟩ [x0,x1,x2,x3] [y0,y1,y2]=bJ6 V T at_ s x0 x1 x2 x3 y0 y1 y2:=by
 unfold doA
 rw [bX6]
 dsimp only
 rw [if_neg (by decide),if_neg (by decide),if_pos rfl];rfl
theorem eG5 {x0:ByteArray} {y0:Int}:doA V T cl at_ s ⟨#[112,97,121]⟩ [x0] [y0]=s:=by
 unfold doA
 rw [cF2]
 dsimp only
 rw [if_neg (by decide),if_neg (by decide),if_neg (by decide),if_pos rfl]
theorem dM3 {x0:ByteArray} {y0:Int}:doA V T cl at_ s ⟨#[101,120,116,101,110,100]⟩ [x0] [y0]=rM s x0 y0:=by
 unfold doA
 rw [bC4]
 dsimp only
 rw [if_neg (by decide),if_neg (by decide),if_neg (by decide),if_neg (by decide),if_pos rfl];rfl
theorem dU6 {x0 x1:ByteArray} {y0 y1:Int}:doA V T cl at_ s ⟨#[99,108,111,115,101]⟩ [x0,x1] [y0,y1]=uN T at_ s x0 x1 y0 y1:=by
 unfold doA
 rw [bW6]
 dsimp only
 rw [if_neg (by decide),if_neg (by decide),if_neg (by decide),if_neg (by decide),if_neg (by decide),if_pos rfl];rfl
theorem eA1 {x0 x1 x2:ByteArray} {y0 y1 y2 y3:Int}:doA V T cl at_ s ⟨#[115,119,97,112]⟩ [x0,x1,x2] [y0,y1,y2,y3]=xL V T at_ s x0 x1 x2 y0 y1 y2 y3:=by
 unfold doA
 rw [bT9]
 dsimp only
 rw [if_neg (by decide),if_neg (by decide),if_neg (by decide),if_neg (by decide),if_neg (by decide),if_neg (by decide)];rfl
end
theorem cD6 (w0:World) (u0 u2 u3 u4 u5 u6 u7 u8 u9 jI jJ jK jL jM jN:Value) (go gv gs fT fR fS fU gC:Nat) (cA:Option Addr) (cn cc:Nat) (cl:List Cs) (V:ByteArray->Option ByteArray) (T:ByteArray->Option Bool) (rv:Value) (rn:Nat) (rx:List Value) (hd: [gv,gs,fT,fR,fS,fU,gC].Nodup) (fp:ByteArray->Option Int) (σ:Os) (lv:Value) (at_:Int) (dk:ByteArray) (no:Int) (ws:ByteArray) (w:World) (hat: -4000000000000000000<=at_/\at_<=4000000000000000000) (hws:ws.size<=1000) (hco:∀x∈cl,rV x) (hcn:cn<=1000) (hlg:σ.lg.length<=99990) (hso:cA3 σ) (hfb:Few σ.fb 499) (hfh:Few σ.fh 499) (hpo:zN fp) (hm:gV ⟨0,w0,none, [68,9,3]⟩ (fun _=>True) [(go,119, [u0,.slice cA cn cc,u2,u3,u4,u5,u6,u7,u8,u9,jI,jJ,jK,jL,jM,jN,.map (some gv),.map (some gs),.map (some fT),lv,.map (some fR),.map (some fS),.map (some fU),.map (some gC),rv])] [⟨lv,74,5,σ.lg.length,σ.lg.flatMap dO⟩,⟨rv,226,2,rn,rx⟩] [bU vS dM w0.heap.size gv (V),bU vB dM w0.heap.size gs (T),bU qS dM w0.heap.size fT (σ.fs),bU vB nB w0.heap.size fR (σ.fa),bU pZ dM w0.heap.size fS (σ.fb),bU nG dM w0.heap.size fU (σ.fh),bU vI dM w0.heap.size gC (fp),gF 68 σ.fh,bW dW 2 84 w0.heap.size none cA cn cl,TxtO w0.heap.size none] w):
 Calls prog 130 #[.pointer (some ⟨go,0,none⟩),.agg #[.int .i64 at_,.string dk,.int .i64 no,.string ws]] w (fun e w'=>∃lv' σ' fp' E,e=.returned (.int .i64 E)/\(kR V T (fun b=>jR cl [b]=0) at_ σ σ'/\fZ σ'=mE V T cl at_ ws (fZ σ))/\zN fp'/\gV ⟨0,w0,none, [68,9,3]⟩ (fun _=>True) [(go,119, [u0,.slice cA cn cc,u2,u3,u4,u5,u6,u7,u8,u9,jI,jJ,jK,jL,jM,jN,.map (some gv),.map (some gs),.map (some fT),lv',.map (some fR),.map (some fS),.map (some fU),.map (some gC),rv])] [⟨lv',74,5,σ'.lg.length,σ'.lg.flatMap dO⟩,⟨rv,226,2,rn,rx⟩] [bU vS dM w0.heap.size gv (V),bU vB dM w0.heap.size gs (T),bU qS dM w0.heap.size fT (σ'.fs),bU vB nB w0.heap.size fR (σ'.fa),bU pZ dM w0.heap.size fS (σ'.fb),bU nG dM w0.heap.size fU (σ'.fh),bU vI dM w0.heap.size gC (fp'),gF 68 σ'.fh,bW dW 2 84 w0.heap.size none cA cn cl,TxtO w0.heap.size none] w'):=by
 refine cS ⟨129,w0,none, [68,9,3]⟩ func130 U ntmps130 U hm.cy (bR (fG U U U fun g1=>bX U (bQ ?_)))
 refine pB (γ:=Nat×ByteArray×Option Addr×Nat×Nat×Option Addr×Nat×Nat×Bool×List ByteArray×List Int) (I:=(fun (gq:Nat×ByteArray×Option Addr×Nat×Nat×Option Addr×Nat×Nat×Bool×List ByteArray×List Int)=>((gq.2.2.2.2.2.2.2.2.1=true->(∃fm,mK gq.2.1=some fm/\gq.2.2.2.1=cW fm fm.size/\gq.2.2.2.1+gq.2.2.2.2.2.2.1=fm.size)/\qR ws=some (gq.2.1,gq.2.2.2.2.2.2.2.2.2.1,gq.2.2.2.2.2.2.2.2.2.2))/\(gq.2.2.2.2.2.2.2.2.1=false->qR ws=none))/\((∀x∈gq.2.2.2.2.2.2.2.2.2.1,x.size<=1000)/\∀x∈gq.2.2.2.2.2.2.2.2.2.2, -1000000000<=x/\x<=1000000000)/\(gq.2.2.2.2.2.2.2.2.2.1.length=gq.2.2.2.1/\gq.2.2.2.2.2.2.2.2.2.2.length=gq.2.2.2.2.2.2.1)/\(0 < gq.2.2.2.1->∃b o,gq.2.2.1=some ⟨b,o,none⟩)/\(0 < gq.2.2.2.2.2.2.1->∃b o,gq.2.2.2.2.2.1=some ⟨b,o,none⟩))) (S':=(fun (gq:Nat×ByteArray×Option Addr×Nat×Nat×Option Addr×Nat×Nat×Bool×List ByteArray×List Int)=> [(0,.pointer (some ⟨go,0,none⟩)),(3,.pointer (some ⟨g1,0,none⟩)),(4,.int .i64 0),(5,.pointer (some ⟨gq.1,0,none⟩)),(6,.bool gq.2.2.2.2.2.2.2.2.1)])) (K':=(fun (gq:Nat×ByteArray×Option Addr×Nat×Nat×Option Addr×Nat×Nat×Bool×List ByteArray×List Int)=>fun _=>True)) (L':=(fun (gq:Nat×ByteArray×Option Addr×Nat×Nat×Option Addr×Nat×Nat×Bool×List ByteArray×List Int)=> [(gq.1,271, [.string gq.2.1,.slice gq.2.2.1 gq.2.2.2.1 gq.2.2.2.2.1,.slice gq.2.2.2.2.2.1 gq.2.2.2.2.2.2.1 gq.2.2.2.2.2.2.2.1]),(g1,171, [.int .i64 at_,.string dk,.int .i64 no,.string ws]),(go,119, [u0,.slice cA cn cc,u2,u3,u4,u5,u6,u7,u8,u9,jI,jJ,jK,jL,jM,jN,.map (some gv),.map (some gs),.map (some fT),lv,.map (some fR),.map (some fS),.map (some fU),.map (some gC),rv])])) (O':=(fun (gq:Nat×ByteArray×Option Addr×Nat×Nat×Option Addr×Nat×Nat×Bool×List ByteArray×List Int)=> [⟨lv,74,5,σ.lg.length,σ.lg.flatMap dO⟩,⟨rv,226,2,rn,rx⟩])) (X':=(fun (gq:Nat×ByteArray×Option Addr×Nat×Nat×Option Addr×Nat×Nat×Bool×List ByteArray×List Int)=> [fun wy=>SlT fH 1 9 wy gq.2.2.1 gq.2.2.2.1 gq.2.2.2.2.2.2.2.2.2.1/\SlT kN 1 3 wy gq.2.2.2.2.2.1 gq.2.2.2.2.2.2.1 gq.2.2.2.2.2.2.2.2.2.2,bU vS dM w0.heap.size gv (V),bU vB dM w0.heap.size gs (T),bU qS dM w0.heap.size fT (σ.fs),bU vB nB w0.heap.size fR (σ.fa),bU pZ dM w0.heap.size fS (σ.fb),bU nG dM w0.heap.size fU (σ.fh),bU vI dM w0.heap.size gC (fp),gF 68 σ.fh,bW dW 2 84 w0.heap.size none cA cn cl,TxtO w0.heap.size none])) ?_ ?_
 ·refine gd (fun wz=>Blk wz g1 171 [.int .i64 at_,.string dk,.int .i64 no,.string ws]/\True) mixed (fun _ hm=>⟨hm.bl 0,trivial⟩) fun z=>?_
  refine wq 0 U (bS qU U U) (wq 1 U (cQ fC U (fun _ hm=>hm.1) U) ?_)
  refine kK [2,7] (by kernel_rfl) U ⟨⟨_,U,?_⟩,⟨_,U,?_⟩,trivial⟩
  ·refine gY (γ:=Nat) (val:=(fun g=> .map (some g))) (φ:=(fun g=>True)) (Y:=(fun g=>fun wy=>bU vS dM w0.heap.size g mK wy)) U eY3 U U (fun wx hm=>(cY1 wx).mono fun _ _ ⟨g,he,vD,hg⟩=>⟨g,he,trivial,hg,vD.lower hm.g.size⟩) (fun _=>bU.lasts2) ?_
   rintro gf mT
   clear mT
   refine bE (nw 10 7 (fun _ hm=>⟨hm.bl 0,trivial⟩) fun z=>?_)
   refine kK [3,7] (by kernel_rfl) U ⟨⟨_,U,?_⟩,⟨_,U,?_⟩,trivial⟩
   ·refine gY (γ:=ByteArray×Option Addr×Nat×Nat×Option Addr×Nat×Nat×Bool×List ByteArray×List Int) (val:=(fun g=> .tuple #[.agg #[.string g.1,.slice g.2.1 g.2.2.1 g.2.2.2.1,.slice g.2.2.2.2.1 g.2.2.2.2.2.1 g.2.2.2.2.2.2.1],.bool g.2.2.2.2.2.2.2.1])) (φ:=(fun g=>((g.2.2.2.2.2.2.2.1=true->(∃fm,mK g.1=some fm/\g.2.2.1=cW fm fm.size/\g.2.2.1+g.2.2.2.2.2.1=fm.size)/\qR ws=some (g.1,g.2.2.2.2.2.2.2.2.1,g.2.2.2.2.2.2.2.2.2))/\(g.2.2.2.2.2.2.2.1=false->qR ws=none))/\((∀x∈g.2.2.2.2.2.2.2.2.1,x.size<=1000)/\∀x∈g.2.2.2.2.2.2.2.2.2, -1000000000<=x/\x<=1000000000)/\(g.2.2.2.2.2.2.2.2.1.length=g.2.2.1/\g.2.2.2.2.2.2.2.2.2.length=g.2.2.2.2.2.1)/\(0 < g.2.2.1->∃b o,g.2.1=some ⟨b,o,none⟩)/\(0 < g.2.2.2.2.2.1->∃b o,g.2.2.2.2.1=some ⟨b,o,none⟩))) (Y:=(fun g=>fun wy=>SlT fH 1 9 wy g.2.1 g.2.2.1 g.2.2.2.2.2.2.2.2.1/\SlT kN 1 3 wy g.2.2.2.2.1 g.2.2.2.2.2.1 g.2.2.2.2.2.2.2.2.2)) U dI6 U U (fun wx hm=>(cR0 ws gf _ wx ((hm.fact 0 U)) (hm.fact 10 U).1 hws).mono fun _ _ ⟨wd,A,n1,c1,A2,n2,c2,ok,tl,nl,he,h1,h2,h3,hg⟩=>⟨(wd,A,n1,c1,A2,n2,c2,ok,tl,nl),he,⟨h1,h3,⟨h2.1.len,h2.2.len⟩,xJ h2.1,xJ h2.2⟩,hg,h2⟩) (fun _=>(Lasts2.and_ (SlT.lasts2 U) (SlT.lasts2 U))) ?_
    rintro ⟨wd,tA,tn,tc,nA,nn,nc,ok,tl,nl⟩ hph
    dsimp only at hph ⊢
    refine bE (nw 10 15 (fun _ hm=>⟨hm.bl 0,trivial⟩) fun z=>wq 4 U (bL U) (wq 5 U (cP U U) (wq 6 U (cP U U) (eG 7 U (dL cC8 U fun g2=>bE (nw 10 255 (fun _ hm=>⟨hm.bl 1,trivial⟩) fun z=>eG 8 U (kE (cs':= [.string wd,.slice tA tn tc,.slice nA nn nc]) 0 rP U U U U (bE (nw 10 511 (fun _ hm=>⟨hm.bl 1,trivial⟩) fun z=>wq 9 U (cV U) (jO ?_))))))))))
    exact fK (g2,wd,tA,tn,tc,nA,nn,nc,ok,tl,nl) hph ⟨U,U,U,U,U,trivial⟩ (fun _ hm=>hm.pick [0,1,2] [0,1] [0,2,3,4,5,6,7,8,9,10,11] U U)
   refine dL cC8 U fun g3=>bE (nw 10 135 (fun _ hm=>⟨hm.bl 1,trivial⟩) fun z=>eG 3 U ?_)
   refine gY (γ:=ByteArray×Option Addr×Nat×Nat×Option Addr×Nat×Nat×Bool×List ByteArray×List Int) (val:=(fun g=> .tuple #[.agg #[.string g.1,.slice g.2.1 g.2.2.1 g.2.2.2.1,.slice g.2.2.2.2.1 g.2.2.2.2.2.1 g.2.2.2.2.2.2.1],.bool g.2.2.2.2.2.2.2.1])) (φ:=(fun g=>((g.2.2.2.2.2.2.2.1=true->(∃fm,mK g.1=some fm/\g.2.2.1=cW fm fm.size/\g.2.2.1+g.2.2.2.2.2.1=fm.size)/\qR ws=some (g.1,g.2.2.2.2.2.2.2.2.1,g.2.2.2.2.2.2.2.2.2))/\(g.2.2.2.2.2.2.2.1=false->qR ws=none))/\((∀x∈g.2.2.2.2.2.2.2.2.1,x.size<=1000)/\∀x∈g.2.2.2.2.2.2.2.2.2, -1000000000<=x/\x<=1000000000)/\(g.2.2.2.2.2.2.2.2.1.length=g.2.2.1/\g.2.2.2.2.2.2.2.2.2.length=g.2.2.2.2.2.1)/\(0 < g.2.2.1->∃b o,g.2.1=some ⟨b,o,none⟩)/\(0 < g.2.2.2.2.2.1->∃b o,g.2.2.2.2.1=some ⟨b,o,none⟩))) (Y:=(fun g=>fun wy=>SlT fH 1 9 wy g.2.1 g.2.2.1 g.2.2.2.2.2.2.2.2.1/\SlT kN 1 3 wy g.2.2.2.2.1 g.2.2.2.2.2.1 g.2.2.2.2.2.2.2.2.2)) U dI6 U U (fun wx hm=>(cR0 ws gf _ wx ((hm.fact 0 U)) (hm.fact 10 U).1 hws).mono fun _ _ ⟨wd,A,n1,c1,A2,n2,c2,ok,tl,nl,he,h1,h2,h3,hg⟩=>⟨(wd,A,n1,c1,A2,n2,c2,ok,tl,nl),he,⟨h1,h3,⟨h2.1.len,h2.2.len⟩,xJ h2.1,xJ h2.2⟩,hg,h2⟩) (fun _=>(Lasts2.and_ (SlT.lasts2 U) (SlT.lasts2 U))) ?_
   rintro ⟨wd,tA,tn,tc,nA,nn,nc,ok,tl,nl⟩ hph
   dsimp only at hph ⊢
   refine bE (nw 10 143 (fun _ hm=>⟨hm.bl 1,trivial⟩) fun z=>wq 4 U (bL U) (wq 5 U (cP U U) (wq 6 U (cP U U) (eG 8 U (kE (cs':= [.string wd,.slice tA tn tc,.slice nA nn nc]) 0 rP U U U U (bE (nw 10 511 (fun _ hm=>⟨hm.bl 1,trivial⟩) fun z=>wq 9 U (cV U) (jO ?_))))))))
   exact fK (g3,wd,tA,tn,tc,nA,nn,nc,ok,tl,nl) hph ⟨U,U,U,U,U,trivial⟩ (fun _ hm=>hm.pick [0,1,2] [0,1] [0,2,3,4,5,6,7,8,9,10,11] U U)
  refine dL cC8 U fun g4=>bE (nw 10 131 (fun _ hm=>⟨hm.bl 1,trivial⟩) fun z=>eG 2 U ?_)
  refine gY (γ:=Nat) (val:=(fun g=> .map (some g))) (φ:=(fun g=>True)) (Y:=(fun g=>fun wy=>bU vS dM w0.heap.size g mK wy)) U eY3 U U (fun wx hm=>(cY1 wx).mono fun _ _ ⟨g,he,vD,hg⟩=>⟨g,he,trivial,hg,vD.lower hm.g.size⟩) (fun _=>bU.lasts2) ?_
  rintro gf mT
  clear mT
  refine bE (nw 10 135 (fun _ hm=>⟨hm.bl 1,trivial⟩) fun z=>eG 3 U ?_)
  refine gY (γ:=ByteArray×Option Addr×Nat×Nat×Option Addr×Nat×Nat×Bool×List ByteArray×List Int) (val:=(fun g=> .tuple #[.agg #[.string g.1,.slice g.2.1 g.2.2.1 g.2.2.2.1,.slice g.2.2.2.2.1 g.2.2.2.2.2.1 g.2.2.2.2.2.2.1],.bool g.2.2.2.2.2.2.2.1])) (φ:=(fun g=>((g.2.2.2.2.2.2.2.1=true->(∃fm,mK g.1=some fm/\g.2.2.1=cW fm fm.size/\g.2.2.1+g.2.2.2.2.2.1=fm.size)/\qR ws=some (g.1,g.2.2.2.2.2.2.2.2.1,g.2.2.2.2.2.2.2.2.2))/\(g.2.2.2.2.2.2.2.1=false->qR ws=none))/\((∀x∈g.2.2.2.2.2.2.2.2.1,x.size<=1000)/\∀x∈g.2.2.2.2.2.2.2.2.2, -1000000000<=x/\x<=1000000000)/\(g.2.2.2.2.2.2.2.2.1.length=g.2.2.1/\g.2.2.2.2.2.2.2.2.2.length=g.2.2.2.2.2.1)/\(0 < g.2.2.1->∃b o,g.2.1=some ⟨b,o,none⟩)/\(0 < g.2.2.2.2.2.1->∃b o,g.2.2.2.2.1=some ⟨b,o,none⟩))) (Y:=(fun g=>fun wy=>SlT fH 1 9 wy g.2.1 g.2.2.1 g.2.2.2.2.2.2.2.2.1/\SlT kN 1 3 wy g.2.2.2.2.1 g.2.2.2.2.2.1 g.2.2.2.2.2.2.2.2.2)) U dI6 U U (fun wx hm=>(cR0 ws gf _ wx ((hm.fact 0 U)) (hm.fact 10 U).1 hws).mono fun _ _ ⟨wd,A,n1,c1,A2,n2,c2,ok,tl,nl,he,h1,h2,h3,hg⟩=>⟨(wd,A,n1,c1,A2,n2,c2,ok,tl,nl),he,⟨h1,h3,⟨h2.1.len,h2.2.len⟩,xJ h2.1,xJ h2.2⟩,hg,h2⟩) (fun _=>(Lasts2.and_ (SlT.lasts2 U) (SlT.lasts2 U))) ?_
  rintro ⟨wd,tA,tn,tc,nA,nn,nc,ok,tl,nl⟩ hph
  dsimp only at hph ⊢
  refine bE (nw 10 143 (fun _ hm=>⟨hm.bl 1,trivial⟩) fun z=>wq 4 U (bL U) (wq 5 U (cP U U) (wq 6 U (cP U U) (eG 8 U (kE (cs':= [.string wd,.slice tA tn tc,.slice nA nn nc]) 0 rP U U U U (bE (nw 10 511 (fun _ hm=>⟨hm.bl 1,trivial⟩) fun z=>wq 9 U (cV U) (jO ?_))))))))
  exact fK (g4,wd,tA,tn,tc,nA,nn,nc,ok,tl,nl) hph ⟨U,U,U,U,U,trivial⟩ (fun _ hm=>hm.pick [0,1,2] [0,1] [0,2,3,4,5,6,7,8,9,10,11] U U)
 rintro ⟨gT,wd,tA,tn,tc,nA,nn,nc,ok,tl,nl⟩ cB
 replace cB:((ok=true->(∃fm,mK wd=some fm/\tn=cW fm fm.size/\tn+nn=fm.size)/\qR ws=some (wd,tl,nl))/\(ok=false->qR ws=none))/\((∀x∈tl,x.size<=1000)/\∀x∈nl, -1000000000<=x/\x<=1000000000)/\(tl.length=tn/\nl.length=nn)/\(0 < tn->∃b o,tA=some ⟨b,o,none⟩)/\(0 < nn->∃b o,nA=some ⟨b,o,none⟩):=cB
 dsimp only
 refine bH (bR ?_)
 obtain ⟨hfo,⟨htz,hnz⟩,⟨htl,hnl⟩,hta,hna⟩:=cB
 refine bP U (bB (cE U) U (bQ ?_))
 refine dC U (fun hh=>?_) (fun hh=>?_)
 ·have hz:ok=false:=by simpa using hh
  refine bR (bX U (bQ (bM (bA ?_))))
  have hsm:fZ σ=mE V T cl at_ ws (fZ σ):=(cX8 (hfo.2 (by simpa using hz))).symm
  exact bJ U U fun wx hm=>⟨lv,σ,fp,_,U,⟨.same σ,hsm⟩,hpo,(hm.pick [2] [0,1] [1,2,3,4,5,6,7,8,9,10] U U).cy⟩
 have hz:ok=true:=by simpa using hh
 refine bN (bD (bH (bH ?_)))
 have hok1:ok=true:=by simpa using hz
 obtain ⟨⟨fm,hf1,hf2,hf3⟩,hts⟩:=hfo.1 hok1
 have hfw:mE V T cl at_ ws (fZ σ)=doA V T cl at_ (fZ σ) wd tl nl:=cC6 hts
 clear hts hfo
 refine cD4 (γ:=Unit) (fun _=>fun wy=>SlT fH 1 9 wy tA tn tl) (fun w hm=>⟨(),(hm.fact 0 U:(fun wy=>SlT fH 1 9 wy tA tn tl/\SlT kN 1 3 wy nA nn nl) w).1⟩) (fun _=>SlT.lasts2 U) fun _=>?_
 refine cD4 (γ:=Unit) (fun _=>fun wy=>SlT kN 1 3 wy nA nn nl) (fun w hm=>⟨(),(hm.fact 1 U:(fun wy=>SlT fH 1 9 wy tA tn tl/\SlT kN 1 3 wy nA nn nl) w).2⟩) (fun _=>SlT.lasts2 U) fun _=>?_
 rcases dN0 hf1 hf2 hf3 with ⟨kd,hkd,yX,rfl,rfl⟩|⟨yX,rfl,rfl⟩|⟨rfl,yX,rfl,rfl⟩|⟨rfl,yX,rfl,rfl⟩|⟨rfl,yX,rfl,rfl⟩|⟨rfl,yX,rfl,rfl⟩|⟨rfl,yX,rfl,rfl⟩|⟨rfl,yX,rfl,rfl⟩|⟨rfl,yX,rfl,rfl⟩
 ·obtain ⟨x0,x1,rfl⟩:=eA2 htl
  obtain ⟨tb,rU,htA⟩:=hta (by decide)
  subst htA
  have hz0:x0.size<=1000:=htz _ (by simp)
  have hz1:x1.size<=1000:=htz _ (by simp)
  have hkb:1<=kd/\kd<=8/\kd≠6:=by simp at hkd;omega
  have hke:kd∈([1,4,5,6,7,8]:List Int):=by simp at hkd ⊢;omega
  have hdo:=hfw.trans (eY9 yX hkb.2.2)
  refine gd (fun wz=>Blk wz gT 271 [.string wd,.slice (some ⟨tb,rU,none⟩) 2 tc,.slice nA 0 nc]/\True) mixed (fun _ hm=>⟨hm.bl 0,trivial⟩) fun z=>wq 1 U (bS mC U U) (wq 2 U (cQ fC U (fun _ hm=>hm.1) U) (eG 0 U ?_))
  refine gY (γ:=Nat) (val:=(fun g=> .map (some g))) (φ:=(fun g=>True)) (Y:=(fun g=>fun wy=>bU vI dM w0.heap.size g gG wy)) U bL3 U U (fun wx hm=>(qF wx).mono fun _ _ ⟨g,he,vD,hg⟩=>⟨g,he,trivial,hg,vD.lower hm.g.size⟩) (fun _=>bU.lasts2) ?_
  rintro gk mT
  clear mT
  refine bE (nw 9 7 (fun _ hm=>⟨hm.bl 0,trivial⟩) fun z=>eG 3 U (bB (gX (enc:=vI) (ek:=dM) (s:=wd) (e:=3) (0:Int) jZ (by kernel_rfl) (by kernel_rfl) U U (fun _ hm=>(hm.fact 0 U))) U (bE (nw 9 15 (fun _ hm=>⟨hm.bl 0,trivial⟩) fun z=>wq 4 U (bL U) (wq 5 U (cP U U) (dH 26 (v':= .int .i64 kd) U (congrArg vI (by rw [yX];rfl)) (wq 6 U (cP U U) (dH 27 (v':= .bool true) U (fU3 (by rw [yX];rfl)) (wq 7 U (cV U) (wq 8 U (cV U) (jO (bD (bR (bP U (bQ (kP U (bH (gd (fun wz=>Blk wz gT 271 [.string wd,.slice (some ⟨tb,rU,none⟩) 2 tc,.slice nA 0 nc]/\Blk wz g1 171 [.int .i64 at_,.string dk,.int .i64 no,.string ws]/\(fun wy=>SlT fH 1 9 wy (some ⟨tb,rU,none⟩) 2 [x0,x1]) wz/\True) mixed (fun _ hm=>⟨hm.bl 0,hm.bl 1,hm.fa 2,trivial⟩) fun z=>wq 0 U (bS mO U U) (wq 1 U (cQ fP U (fun _ hm=>hm.2.1) U) (wq 2 U (bS kL U U) (wq 3 U (cQ qH U (fun _ hm=>hm.1) U) (wq 4 U (bV (j:=0) jX U U (by omega)) (wq 5 U (dK (k:=0) (v:= .string x0) fC U (fun _ hm=>(hm.2.2.1)) (U: [x0,x1][0]?=some x0) U U) (wq 6 U (bS kL U U) (wq 7 U (cQ qH U (fun _ hm=>hm.1) U) (wq 8 U (bV (j:=1) jX U U (by omega)) ?_))))))))))))))))))))))))))
  refine wq 9 U (dK (k:=0) (v:= .string x1) fC U (fun _ hm=>(hm.2.2.1)) (U: [x0,x1][1]?=some x1) U U) (wq 10 U (bL U) (wq 11 U (dJ (cs:= [.int .i64 at_,.string x0,.string x1,.int .i64 kd,.string ⟨#[]⟩]) U (by kernel_rfl)) (eG 12 U (dL bX7 U fun g5=>bE (nw 14 8191 (fun _ hm=>⟨hm.bl 1,hm.bl 2,hm.fa 2,trivial⟩) fun z=>eG 13 U (kE (cs':= [.int .i64 at_,.string x0,.string x1,.int .i64 kd,.string ⟨#[]⟩]) 0 fJ U U U U (bE (nw 14 16383 (fun _ hm=>⟨hm.bl 1,hm.bl 2,hm.fa 2,trivial⟩) fun z=>jO (bD (bH (bR (bP U (bB (eL U U) U (bK 42 (v':= .bool false) U (fU3 (decide_eq_false hkb.2.2)) (bQ (jQ U (bN (bD (bR (bP U (bB (cU fJ U (fun _ hm=>hm.blkI 0 U) U U) U ?_)))))))))))))))))))))
  refine gD (γ:=Value×Os×(ByteArray->Option Int)×Int) (val:=fun q=> .int .i64 q.2.2.2) (φ:=(fun (q:Value×Os×(ByteArray->Option Int)×Int)=>(kR V T (fun b=>jR cl [b]=0) at_ σ q.2.1/\fZ q.2.1=mE V T cl at_ ws (fZ σ))/\zN q.2.2.1)) (K':=fun _=>fun _=>True) (L':=(fun (q:Value×Os×(ByteArray->Option Int)×Int)=> [(go,119, [u0,.slice cA cn cc,u2,u3,u4,u5,u6,u7,u8,u9,jI,jJ,jK,jL,jM,jN,.map (some gv),.map (some gs),.map (some fT),q.1,.map (some fR),.map (some fS),.map (some fU),.map (some gC),rv])])) (O':=(fun (q:Value×Os×(ByteArray->Option Int)×Int)=> [⟨q.1,74,5,q.2.1.lg.length,q.2.1.lg.flatMap dO⟩,⟨rv,226,2,rn,rx⟩])) (X':=(fun (q:Value×Os×(ByteArray->Option Int)×Int)=> [bU vS dM w0.heap.size gv (V),bU vB dM w0.heap.size gs (T),bU qS dM w0.heap.size fT (q.2.1.fs),bU vB nB w0.heap.size fR (q.2.1.fa),bU pZ dM w0.heap.size fS (q.2.1.fb),bU nG dM w0.heap.size fU (q.2.1.fh),bU vI dM w0.heap.size gC (q.2.2.1),gF 68 q.2.1.fh,bW dW 2 84 w0.heap.size none cA cn cl,TxtO w0.heap.size none])) U eZ3 U U (fun wx hm=>(cU1 w0 u0 u2 u3 u4 u5 u6 u7 u8 u9 jI jJ jK jL jM jN go gv gs fT fR fS fU gC cA cn cc cl V T rv rn rx hd (fun b=>jR cl [b]=0) fp σ lv at_ x0 x1 kd ⟨#[]⟩ wx (by omega) ⟨hat,⟨by dsimp only;omega,by dsimp only;omega⟩,by dsimp only;omega,by dsimp only;omega,by show (⟨#[]⟩:ByteArray).size<=1000000;decide⟩ hke (fun _=>U) (hm.pick [3] [0,1] [4,5,6,7,8,9,10,11,12,13] U U).cy).mono fun _ _ ⟨qK,σ2,E,he,h1,vD⟩=>⟨(qK,σ2,fp,E),he,⟨⟨h1.1,h1.2.trans hdo.symm⟩,hpo⟩,vD.cy⟩) ?_
  rintro ⟨qK,σ2,fp2,E2⟩ hst
  dsimp only at hst ⊢
  refine bX U (bQ (bM (bA ?_)))
  exact bJ U U fun wx hm=>⟨qK,σ2,fp2,E2,U,hst.1,hst.2,(hm.pick [0] [0,1] [0,1,2,3,4,5,6,7,8,9] U U).cy⟩
 ·obtain ⟨x0,x1,x2,rfl⟩:=eB2 htl
  obtain ⟨tb,rU,htA⟩:=hta (by decide)
  subst htA
  have hz0:x0.size<=1000:=htz _ (by simp)
  have hz1:x1.size<=1000:=htz _ (by simp)
  have hz2:x2.size<=1000:=htz _ (by simp)
  have hdo:=hfw.trans (dV6 yX)
  refine gd (fun wz=>Blk wz gT 271 [.string wd,.slice (some ⟨tb,rU,none⟩) 3 tc,.slice nA 0 nc]/\True) mixed (fun _ hm=>⟨hm.bl 0,trivial⟩) fun z=>wq 1 U (bS mC U U) (wq 2 U (cQ fC U (fun _ hm=>hm.1) U) (eG 0 U ?_))
  refine gY (γ:=Nat) (val:=(fun g=> .map (some g))) (φ:=(fun g=>True)) (Y:=(fun g=>fun wy=>bU vI dM w0.heap.size g gG wy)) U bL3 U U (fun wx hm=>(qF wx).mono fun _ _ ⟨g,he,vD,hg⟩=>⟨g,he,trivial,hg,vD.lower hm.g.size⟩) (fun _=>bU.lasts2) ?_
  rintro gk mT
  clear mT
  refine bE (nw 9 7 (fun _ hm=>⟨hm.bl 0,trivial⟩) fun z=>eG 3 U (bB (gX (enc:=vI) (ek:=dM) (s:=wd) (e:=3) (0:Int) jZ (by kernel_rfl) (by kernel_rfl) U U (fun _ hm=>(hm.fact 0 U))) U (bE (nw 9 15 (fun _ hm=>⟨hm.bl 0,trivial⟩) fun z=>wq 4 U (bL U) (wq 5 U (cP U U) (dH 26 (v':= .int .i64 6) U (congrArg vI (by rw [yX];rfl)) (wq 6 U (cP U U) (dH 27 (v':= .bool true) U (fU3 (by rw [yX];rfl)) (wq 7 U (cV U) (wq 8 U (cV U) (jO (bD (bR (bP U (bQ (kP U (bH (gd (fun wz=>Blk wz gT 271 [.string wd,.slice (some ⟨tb,rU,none⟩) 3 tc,.slice nA 0 nc]/\Blk wz g1 171 [.int .i64 at_,.string dk,.int .i64 no,.string ws]/\(fun wy=>SlT fH 1 9 wy (some ⟨tb,rU,none⟩) 3 [x0,x1,x2]) wz/\True) mixed (fun _ hm=>⟨hm.bl 0,hm.bl 1,hm.fa 2,trivial⟩) fun z=>wq 0 U (bS mO U U) (wq 1 U (cQ fP U (fun _ hm=>hm.2.1) U) (wq 2 U (bS kL U U) (wq 3 U (cQ qH U (fun _ hm=>hm.1) U) (wq 4 U (bV (j:=0) jX U U (by omega)) (wq 5 U (dK (k:=0) (v:= .string x0) fC U (fun _ hm=>(hm.2.2.1)) (U: [x0,x1,x2][0]?=some x0) U U) (wq 6 U (bS kL U U) (wq 7 U (cQ qH U (fun _ hm=>hm.1) U) (wq 8 U (bV (j:=1) jX U U (by omega)) ?_))))))))))))))))))))))))))
  refine wq 9 U (dK (k:=0) (v:= .string x1) fC U (fun _ hm=>(hm.2.2.1)) (U: [x0,x1,x2][1]?=some x1) U U) (wq 10 U (bL U) (wq 11 U (dJ (cs:= [.int .i64 at_,.string x0,.string x1,.int .i64 6,.string ⟨#[]⟩]) U (by kernel_rfl)) (eG 12 U (dL bX7 U fun g6=>bE (nw 14 8191 (fun _ hm=>⟨hm.bl 1,hm.bl 2,hm.fa 2,trivial⟩) fun z=>eG 13 U (kE (cs':= [.int .i64 at_,.string x0,.string x1,.int .i64 6,.string ⟨#[]⟩]) 0 fJ U U U U (bE (nw 14 16383 (fun _ hm=>⟨hm.bl 1,hm.bl 2,hm.fa 2,trivial⟩) fun z=>jO (bD (bH (bR (bP U (bB (eL U U) U (bK 42 (v':= .bool true) U (U) (bQ (kP U (bI (dY kL U U (eJ qH 1 U U U (bB (bV (j:=2) jX U U (by omega)) U (bB (dK (k:=0) (v:= .string x2) fC U (fun _ hm=>(hm.fact 2 U)) (U: [x0,x1,x2][2]?=some x2) U U) U (dY rZ U U (jH 0 fC U U U U U U (bQ (bR (bP U ?_))))))))))))))))))))))))))
  refine bB (cU fJ U (fun _ hm=>hm.blkI 0 U) U U) U ?_
  refine gD (γ:=Value×Os×(ByteArray->Option Int)×Int) (val:=fun q=> .int .i64 q.2.2.2) (φ:=(fun (q:Value×Os×(ByteArray->Option Int)×Int)=>(kR V T (fun b=>jR cl [b]=0) at_ σ q.2.1/\fZ q.2.1=mE V T cl at_ ws (fZ σ))/\zN q.2.2.1)) (K':=fun _=>fun _=>True) (L':=(fun (q:Value×Os×(ByteArray->Option Int)×Int)=> [(go,119, [u0,.slice cA cn cc,u2,u3,u4,u5,u6,u7,u8,u9,jI,jJ,jK,jL,jM,jN,.map (some gv),.map (some gs),.map (some fT),q.1,.map (some fR),.map (some fS),.map (some fU),.map (some gC),rv])])) (O':=(fun (q:Value×Os×(ByteArray->Option Int)×Int)=> [⟨q.1,74,5,q.2.1.lg.length,q.2.1.lg.flatMap dO⟩,⟨rv,226,2,rn,rx⟩])) (X':=(fun (q:Value×Os×(ByteArray->Option Int)×Int)=> [bU vS dM w0.heap.size gv (V),bU vB dM w0.heap.size gs (T),bU qS dM w0.heap.size fT (q.2.1.fs),bU vB nB w0.heap.size fR (q.2.1.fa),bU pZ dM w0.heap.size fS (q.2.1.fb),bU nG dM w0.heap.size fU (q.2.1.fh),bU vI dM w0.heap.size gC (q.2.2.1),gF 68 q.2.1.fh,bW dW 2 84 w0.heap.size none cA cn cl,TxtO w0.heap.size none])) U eZ3 U U (fun wx hm=>(cU1 w0 u0 u2 u3 u4 u5 u6 u7 u8 u9 jI jJ jK jL jM jN go gv gs fT fR fS fU gC cA cn cc cl V T rv rn rx hd (fun b=>jR cl [b]=0) fp σ lv at_ x0 x1 6 x2 wx (by omega) ⟨hat,⟨by dsimp only;omega,by dsimp only;omega⟩,by dsimp only;omega,by dsimp only;omega,by dsimp only;omega⟩ (by decide) (fun h=>absurd U h) (hm.pick [3] [0,1] [4,5,6,7,8,9,10,11,12,13] U U).cy).mono fun _ _ ⟨qK,σ2,E,he,h1,vD⟩=>⟨(qK,σ2,fp,E),he,⟨⟨h1.1,h1.2.trans hdo.symm⟩,hpo⟩,vD.cy⟩) ?_
  rintro ⟨qK,σ2,fp2,E2⟩ hst
  dsimp only at hst ⊢
  refine bX U (bQ (bM (bA ?_)))
  exact bJ U U fun wx hm=>⟨qK,σ2,fp2,E2,U,hst.1,hst.2,(hm.pick [0] [0,1] [0,1,2,3,4,5,6,7,8,9] U U).cy⟩
 ·obtain ⟨x0,x1,rfl⟩:=eA2 htl
  obtain ⟨tb,rU,htA⟩:=hta (by decide)
  subst htA
  obtain ⟨y0,y1,y2,rfl⟩:=eB2 hnl
  obtain ⟨nb,xG,hnA⟩:=hna (by decide)
  subst hnA
  have hz0:x0.size<=1000:=htz _ (by simp)
  have hz1:x1.size<=1000:=htz _ (by simp)
  have hdo:=hfw.trans eZ0
  refine gd (fun wz=>Blk wz gT 271 [.string ⟨#[98,111,111,107]⟩,.slice (some ⟨tb,rU,none⟩) 2 tc,.slice (some ⟨nb,xG,none⟩) 3 nc]/\True) mixed (fun _ hm=>⟨hm.bl 0,trivial⟩) fun z=>wq 1 U (bS mC U U) (wq 2 U (cQ fC U (fun _ hm=>hm.1) U) (eG 0 U ?_))
  refine gY (γ:=Nat) (val:=(fun g=> .map (some g))) (φ:=(fun g=>True)) (Y:=(fun g=>fun wy=>bU vI dM w0.heap.size g gG wy)) U bL3 U U (fun wx hm=>(qF wx).mono fun _ _ ⟨g,he,vD,hg⟩=>⟨g,he,trivial,hg,vD.lower hm.g.size⟩) (fun _=>bU.lasts2) ?_
  rintro gk mT
  clear mT
  refine bE (nw 9 7 (fun _ hm=>⟨hm.bl 0,trivial⟩) fun z=>eG 3 U (bB (gX (enc:=vI) (ek:=dM) (s:=⟨#[98,111,111,107]⟩) (e:=3) (0:Int) jZ (by kernel_rfl) (by kernel_rfl) U U (fun _ hm=>(hm.fact 0 U))) U (bE (nw 9 15 (fun _ hm=>⟨hm.bl 0,trivial⟩) fun z=>wq 4 U (bL U) (wq 5 U (cP U U) (dH 26 (v':= .int .i64 0) U (congrArg vI (by rw [yX];rfl)) (wq 6 U (cP U U) (dH 27 (v':= .bool false) U (fU3 (by rw [yX];rfl)) (wq 7 U (cV U) (wq 8 U (cV U) (jO (bD (bR (bP U (bQ (jQ U (bN (bD (bH (bR (dY mC U U (eJ fC 0 U U U (bQ (bO (bR (bB (eS U U) U (bK 54 (v':= .bool true) U (fU3 (by rw [mZ];decide)) ?_)))))))))))))))))))))))))))
  refine bX U (bQ (kP U (bH (gd (fun wz=>Blk wz gT 271 [.string ⟨#[98,111,111,107]⟩,.slice (some ⟨tb,rU,none⟩) 2 tc,.slice (some ⟨nb,xG,none⟩) 3 nc]/\Blk wz g1 171 [.int .i64 at_,.string dk,.int .i64 no,.string ws]/\(fun wy=>SlT kN 1 3 wy (some ⟨nb,xG,none⟩) 3 [y0,y1,y2]) wz/\(fun wy=>SlT fH 1 9 wy (some ⟨tb,rU,none⟩) 2 [x0,x1]) wz/\True) mixed (fun _ hm=>⟨hm.bl 0,hm.bl 1,hm.fa 1,hm.fa 2,trivial⟩) fun z=>wq 0 U (bL U) (wq 1 U (bS kL U U) (wq 2 U (cQ qH U (fun _ hm=>hm.1) U) (wq 3 U (bV (j:=0) jX U U (by omega)) (wq 4 U (dK (k:=0) (v:= .string x0) fC U (fun _ hm=>(hm.2.2.2.1)) (U: [x0,x1][0]?=some x0) U U) (wq 5 U (bS kL U U) (wq 6 U (cQ qH U (fun _ hm=>hm.1) U) (wq 7 U (bV (j:=1) jX U U (by omega)) (wq 8 U (dK (k:=0) (v:= .string x1) fC U (fun _ hm=>(hm.2.2.2.1)) (U: [x0,x1][1]?=some x1) U U) (wq 9 U (bS nI U U) (wq 10 U (cQ kZ U (fun _ hm=>hm.1) U) (wq 11 U (bV (j:=0) pD U U (by omega)) (wq 12 U (dK (k:=0) (v:= .int .i64 y0) fP U (fun _ hm=>(hm.2.2.1)) (U: [y0,y1,y2][0]?=some y0) U U) (wq 13 U (bS nI U U) (wq 14 U (cQ kZ U (fun _ hm=>hm.1) U) (wq 15 U (bV (j:=1) pD U U (by omega)) (wq 16 U (dK (k:=0) (v:= .int .i64 y1) fP U (fun _ hm=>(hm.2.2.1)) (U: [y0,y1,y2][1]?=some y1) U U) (wq 17 U (dJ (cs:= [.int .i64 y0,.int .i64 y1]) U (by kernel_rfl)) (wq 18 U (bS mO U U) (wq 19 U (cQ fP U (fun _ hm=>hm.2.1) U) (wq 20 U (bS nI U U) (wq 21 U (cQ kZ U (fun _ hm=>hm.1) U) (wq 22 U (bV (j:=2) pD U U (by omega)) (wq 23 U (dK (k:=0) (v:= .int .i64 y2) fP U (fun _ hm=>(hm.2.2.1)) (U: [y0,y1,y2][2]?=some y2) U U) (wq 24 U (dJ (cs:= [.string x0,.string x1,.int .i64 y0,.int .i64 y1,.int .i64 at_,.int .i64 y2]) U (by kernel_rfl)) ?_))))))))))))))))))))))))))))
  refine eG 25 U ?_
  refine gD (γ:=Value×Os×(ByteArray->Option Int)×Int) (val:=fun q=> .int .i64 q.2.2.2) (φ:=(fun (q:Value×Os×(ByteArray->Option Int)×Int)=>(kR V T (fun b=>jR cl [b]=0) at_ σ q.2.1/\fZ q.2.1=mE V T cl at_ ws (fZ σ))/\zN q.2.2.1)) (K':=fun _=>fun _=>True) (L':=(fun (q:Value×Os×(ByteArray->Option Int)×Int)=> [(go,119, [u0,.slice cA cn cc,u2,u3,u4,u5,u6,u7,u8,u9,jI,jJ,jK,jL,jM,jN,.map (some gv),.map (some gs),.map (some fT),q.1,.map (some fR),.map (some fS),.map (some fU),.map (some gC),rv]),(gT,271, [.string ⟨#[98,111,111,107]⟩,.slice (some ⟨tb,rU,none⟩) 2 tc,.slice (some ⟨nb,xG,none⟩) 3 nc]),(g1,171, [.int .i64 at_,.string dk,.int .i64 no,.string ws])])) (O':=(fun (q:Value×Os×(ByteArray->Option Int)×Int)=> [⟨q.1,74,5,q.2.1.lg.length,q.2.1.lg.flatMap dO⟩,⟨rv,226,2,rn,rx⟩])) (X':=(fun (q:Value×Os×(ByteArray->Option Int)×Int)=> [bU vS dM w0.heap.size gv (V),bU vB dM w0.heap.size gs (T),bU qS dM w0.heap.size fT (q.2.1.fs),bU vB nB w0.heap.size fR (q.2.1.fa),bU pZ dM w0.heap.size fS (q.2.1.fb),bU nG dM w0.heap.size fU (q.2.1.fh),bU vI dM w0.heap.size gC (q.2.2.1),gF 68 q.2.1.fh,bW dW 2 84 w0.heap.size none cA cn cl,TxtO w0.heap.size none,fun wy=>SlT fH 1 9 wy (some ⟨tb,rU,none⟩) 2 [x0,x1],fun wy=>SlT kN 1 3 wy (some ⟨nb,xG,none⟩) 3 [y0,y1,y2]])) U eU8 U U (fun wx hm=>(dC6 w0 u0 u2 u3 u4 u5 u6 u7 u8 u9 jI jJ jK jL jM jN go gv gs fT fR fS fU gC cA cn cc cl V T rv rn rx hd gT g1 _ _ _ _ SlT.mfar SlT.mfar fp σ lv at_ x0 x1 y0 y1 at_ y2 wx ⟨by dsimp only;omega,by dsimp only;omega⟩ hco hcn hfb (hm.pick [2,0,1] [0,1] [4,5,6,7,8,9,10,11,12,13,2,1] U U).cy).mono fun _ _ ⟨qK,σ2,E,he,h1,vD⟩=>⟨(qK,σ2,fp,E),he,⟨⟨h1.1,h1.2.trans hdo.symm⟩,hpo⟩,vD.cy⟩) ?_
  rintro ⟨qK,σ2,fp2,E2⟩ hst
  dsimp only at hst ⊢
  refine bE (nw 27 67108863 (fun _ hm=>⟨hm.bl 1,hm.bl 2,hm.fa 11,hm.fa 10,trivial⟩) fun z=>wq 26 U (cV U) (jO (bD (bM (bC (bA ?_))))))
  exact bJ U U fun wx hm=>⟨qK,σ2,fp2,E2,U,hst.1,hst.2,(hm.pick [0] [0,1] [0,1,2,3,4,5,6,7,8,9] U U).cy⟩
 ·obtain ⟨x0,rfl⟩:=dM8 htl
  obtain ⟨tb,rU,htA⟩:=hta (by decide)
  subst htA
  have hz0:x0.size<=1000:=htz _ (by simp)
  have hdo:=hfw.trans dL3
  obtain ⟨isb,hisb⟩:∃z,z=(σ.fb x0).isSome:=⟨_,rfl⟩
  obtain ⟨xb,hxb⟩:∃z,z=(σ.fb x0).getD bk0:=⟨_,rfl⟩
  obtain ⟨c0,c1,c2,c3,c4,c5⟩:=xb
  refine gd (fun wz=>Blk wz gT 271 [.string ⟨#[99,97,110,99,101,108]⟩,.slice (some ⟨tb,rU,none⟩) 1 tc,.slice nA 0 nc]/\True) mixed (fun _ hm=>⟨hm.bl 0,trivial⟩) fun z=>wq 1 U (bS mC U U) (wq 2 U (cQ fC U (fun _ hm=>hm.1) U) (eG 0 U ?_))
  refine gY (γ:=Nat) (val:=(fun g=> .map (some g))) (φ:=(fun g=>True)) (Y:=(fun g=>fun wy=>bU vI dM w0.heap.size g gG wy)) U bL3 U U (fun wx hm=>(qF wx).mono fun _ _ ⟨g,he,vD,hg⟩=>⟨g,he,trivial,hg,vD.lower hm.g.size⟩) (fun _=>bU.lasts2) ?_
  rintro gk mT
  clear mT
  refine bE (nw 9 7 (fun _ hm=>⟨hm.bl 0,trivial⟩) fun z=>eG 3 U (bB (gX (enc:=vI) (ek:=dM) (s:=⟨#[99,97,110,99,101,108]⟩) (e:=3) (0:Int) jZ (by kernel_rfl) (by kernel_rfl) U U (fun _ hm=>(hm.fact 0 U))) U (bE (nw 9 15 (fun _ hm=>⟨hm.bl 0,trivial⟩) fun z=>wq 4 U (bL U) (wq 5 U (cP U U) (dH 26 (v':= .int .i64 0) U (congrArg vI (by rw [yX];rfl)) (wq 6 U (cP U U) (dH 27 (v':= .bool false) U (fU3 (by rw [yX];rfl)) (wq 7 U (cV U) (wq 8 U (cV U) (jO (bD (bR (bP U (bQ (jQ U (bN (bD (bH (bR (dY mC U U (eJ fC 0 U U U (bQ (bO (bR (bB (eS U U) U (bK 54 (v':= .bool false) U (fU3 (by rw [mZ];decide)) ?_)))))))))))))))))))))))))))
  refine bX U (bQ (jQ U (bR (bB (eS U U) U (bK 82 (v':= .bool true) U (fU3 (by rw [mZ];decide)) (bX U (bQ (kP U (bH (bH (gd (fun wz=>Blk wz gT 271 [.string ⟨#[99,97,110,99,101,108]⟩,.slice (some ⟨tb,rU,none⟩) 1 tc,.slice nA 0 nc]/\Blk wz go 119 [u0,.slice cA cn cc,u2,u3,u4,u5,u6,u7,u8,u9,jI,jJ,jK,jL,jM,jN,.map (some gv),.map (some gs),.map (some fT),lv,.map (some fR),.map (some fS),.map (some fU),.map (some gC),rv]/\(fun wy=>SlT fH 1 9 wy (some ⟨tb,rU,none⟩) 1 [x0]) wz/\(bU pZ dM w0.heap.size fS (σ.fb)) wz/\True) mixed (fun _ hm=>⟨hm.bl 0,hm.bl 2,hm.fa 2,hm.fa 8,trivial⟩) fun z=>wq 0 U (bL U) (wq 1 U (dA U) (wq 2 U (bS bT0 U U) (wq 3 U (cQ cR2 U (fun _ hm=>hm.2.1) U) (wq 4 U (bS kL U U) (wq 5 U (cQ qH U (fun _ hm=>hm.1) U) (wq 6 U (bV (j:=0) jX U U (by omega)) (wq 7 U (dK (k:=0) (v:= .string x0) fC U (fun _ hm=>(hm.2.2.1)) (U: [x0][0]?=some x0) U U) (wq 8 U (gX (enc:=pZ) (ek:=dM) (s:=x0) (e:=146) bk0 jZ (by kernel_rfl) (by kernel_rfl) U U (fun _ hm=>(hm.2.2.2.1))) (wq 9 U (bL U) (wq 10 U (cP U U) (dH 93 (v':= .agg #[.string c0,.string c1,.int .i64 c2,.int .i64 c3,.int .i64 c4,.int .i64 c5]) U (congrArg pZ hxb.symm) (wq 11 U (cP U U) (dH 94 (v':= .bool isb) U (fU3 hisb.symm) (eG 12 U (dL dV2 U fun g7=>bE (nw 15 8191 (fun _ hm=>⟨hm.bl 1,hm.bl 3,hm.fa 2,hm.fa 8,trivial⟩) fun z=>?_)))))))))))))))))))))))))))
  refine eG 13 U (kE (cs':= [.string c0,.string c1,.int .i64 c2,.int .i64 c3,.int .i64 c4,.int .i64 c5]) 0 bC7 U U U U (bE (nw 15 16383 (fun _ hm=>⟨hm.bl 1,hm.bl 3,hm.fa 2,hm.fa 8,trivial⟩) fun z=>wq 14 U (cV U) (jO (bD (bR (bP U (bB (cE U) U (bQ ?_)))))))))
  refine dC U (fun hh=>?_) (fun hh=>?_)
  ·have hq:isb=false:=by simpa using hh
   refine bR (bX U (bQ (bM (bA (bC (bA ?_))))))
   have hnb:σ.fb x0=none:=by
    have h9:isb=false:=by simpa using hq
    rw [h9] at hisb
    cases hf9:σ.fb x0 with
    |none=>rfl
    |some y=>rw [hf9] at hisb;cases hisb
   have hsm:fZ σ=mE V T cl at_ ws (fZ σ):=by
    rw [hdo]
    show fZ σ=(⟨_,_,yB σ.fb x0,_,_⟩:As)
    rw [dD4 hnb];rfl
   exact bJ U U fun wx hm=>⟨lv,σ,fp,_,U,⟨.same σ,hsm⟩,hpo,(hm.pick [3] [0,1] [4,5,6,7,8,9,10,11,12,13] U U).cy⟩
  have hq:isb=true:=by simpa using hh
  refine bN (bD (bH (gd (fun wz=>Blk wz gT 271 [.string ⟨#[99,97,110,99,101,108]⟩,.slice (some ⟨tb,rU,none⟩) 1 tc,.slice nA 0 nc]/\Blk wz go 119 [u0,.slice cA cn cc,u2,u3,u4,u5,u6,u7,u8,u9,jI,jJ,jK,jL,jM,jN,.map (some gv),.map (some gs),.map (some fT),lv,.map (some fR),.map (some fS),.map (some fU),.map (some gC),rv]/\(fun wy=>SlT fH 1 9 wy (some ⟨tb,rU,none⟩) 1 [x0]) wz/\True) mixed (fun _ hm=>⟨hm.bl 1,hm.bl 3,hm.fa 2,trivial⟩) fun z=>wq 0 U (bL U) (wq 1 U (dA U) (wq 2 U (bS bT0 U U) (wq 3 U (cQ cR2 U (fun _ hm=>hm.2.1) U) (wq 4 U (bS kL U U) (wq 5 U (cQ qH U (fun _ hm=>hm.1) U) (wq 6 U (bV (j:=0) jX U U (by omega)) (wq 7 U (dK (k:=0) (v:= .string x0) fC U (fun _ hm=>(hm.2.2.1)) (U: [x0][0]?=some x0) U U) (eG 8 U ?_)))))))))))
  refine cT0 (enc:=pZ) (ek:=dM) (s:=x0) (e:=146) (X':= [fun wy=>SlT kN 1 3 wy nA 0 nl,fun wy=>SlT fH 1 9 wy (some ⟨tb,rU,none⟩) 1 [x0],bU vS dM w0.heap.size gv (V),bU vB dM w0.heap.size gs (T),bU qS dM w0.heap.size fT (σ.fs),bU vB nB w0.heap.size fR (σ.fa),bU nG dM w0.heap.size fU (σ.fh),bU vI dM w0.heap.size gC (fp),gF 68 σ.fh,bW dW 2 84 w0.heap.size none cA cn cl,TxtO w0.heap.size none]) 8 jZ (by kernel_rfl) U U U U (cL (i:=1) SlT.mfar.far U (cL (i:=2) SlT.mfar.far U (cL (i:=4) (bU.farK (gR hd (i:=0) (j:=4) U U (by decide))) U (cL (i:=5) (bU.farK (gR hd (i:=1) (j:=4) U U (by decide))) U (cL (i:=6) (bU.farK (gR hd (i:=2) (j:=4) U U (by decide))) U (cL (i:=7) (bU.farK (gR hd (i:=3) (j:=4) U U (by decide))) U (cL (i:=9) (bU.farK (gR hd (i:=5) (j:=4) U U (by decide))) U (cL (i:=10) (bU.farK (gR hd (i:=6) (j:=4) U U (by decide))) U (cL (i:=11) (gF.mfar).far U (cL (i:=12) (bW.mfar).far U (cL (i:=13) (TxtO.mfar).far U gB))))))))))) ?_
  refine bE (nw 9 511 (fun _ hm=>⟨hm.bl 1,hm.bl 3,hm.fa 2,trivial⟩) fun z=>jO (bD (bR (bX U (bQ (bM (bC (bA ?_))))))))
  exact bJ U U fun wx hm=>⟨lv,_,fp,_,U,⟨.cancel σ x0,hdo.symm⟩,hpo,(hm.pick [3] [0,1] [3,4,5,6,0,7,8,9,10,11] U U).cy⟩
 ·obtain ⟨x0,x1,x2,x3,rfl⟩:=fO0 htl
  obtain ⟨tb,rU,htA⟩:=hta (by decide)
  subst htA
  obtain ⟨y0,y1,y2,rfl⟩:=eB2 hnl
  obtain ⟨nb,xG,hnA⟩:=hna (by decide)
  subst hnA
  have hz0:x0.size<=1000:=htz _ (by simp)
  have hz1:x1.size<=1000:=htz _ (by simp)
  have hz2:x2.size<=1000:=htz _ (by simp)
  have hz3:x3.size<=1000:=htz _ (by simp)
  have hdo:=hfw.trans dW6
  refine gd (fun wz=>Blk wz gT 271 [.string ⟨#[115,116,97,114,116]⟩,.slice (some ⟨tb,rU,none⟩) 4 tc,.slice (some ⟨nb,xG,none⟩) 3 nc]/\True) mixed (fun _ hm=>⟨hm.bl 0,trivial⟩) fun z=>wq 1 U (bS mC U U) (wq 2 U (cQ fC U (fun _ hm=>hm.1) U) (eG 0 U ?_))
  refine gY (γ:=Nat) (val:=(fun g=> .map (some g))) (φ:=(fun g=>True)) (Y:=(fun g=>fun wy=>bU vI dM w0.heap.size g gG wy)) U bL3 U U (fun wx hm=>(qF wx).mono fun _ _ ⟨g,he,vD,hg⟩=>⟨g,he,trivial,hg,vD.lower hm.g.size⟩) (fun _=>bU.lasts2) ?_
  rintro gk mT
  clear mT
  refine bE (nw 9 7 (fun _ hm=>⟨hm.bl 0,trivial⟩) fun z=>eG 3 U (bB (gX (enc:=vI) (ek:=dM) (s:=⟨#[115,116,97,114,116]⟩) (e:=3) (0:Int) jZ (by kernel_rfl) (by kernel_rfl) U U (fun _ hm=>(hm.fact 0 U))) U (bE (nw 9 15 (fun _ hm=>⟨hm.bl 0,trivial⟩) fun z=>wq 4 U (bL U) (wq 5 U (cP U U) (dH 26 (v':= .int .i64 0) U (congrArg vI (by rw [yX];rfl)) (wq 6 U (cP U U) (dH 27 (v':= .bool false) U (fU3 (by rw [yX];rfl)) (wq 7 U (cV U) (wq 8 U (cV U) (jO (bD (bR (bP U (bQ (jQ U (bN (bD (bH (bR (dY mC U U (eJ fC 0 U U U (bQ (bO (bR (bB (eS U U) U (bK 54 (v':= .bool false) U (fU3 (by rw [mZ];decide)) ?_)))))))))))))))))))))))))))
  refine bX U (bQ (jQ U (bR (bB (eS U U) U (bK 82 (v':= .bool false) U (fU3 (by rw [mZ];decide)) (bX U (bQ (jQ U (bR (bB (eS U U) U (bK 106 (v':= .bool true) U (fU3 (by rw [mZ];decide)) (bX U (bQ (kP U (bR (bP U (dY mO U U (eJ fP 1 U U U (bB (cU rP U (fun _ hm=>hm.blkI 0 U) U U) U ?_)))))))))))))))))))
  refine gD (γ:=Value×Os×(ByteArray->Option Int)×Int) (val:=fun q=> .int .i64 q.2.2.2) (φ:=(fun (q:Value×Os×(ByteArray->Option Int)×Int)=>(kR V T (fun b=>jR cl [b]=0) at_ σ q.2.1/\fZ q.2.1=mE V T cl at_ ws (fZ σ))/\zN q.2.2.1)) (K':=fun _=>fun _=>True) (L':=(fun (q:Value×Os×(ByteArray->Option Int)×Int)=> [(go,119, [u0,.slice cA cn cc,u2,u3,u4,u5,u6,u7,u8,u9,jI,jJ,jK,jL,jM,jN,.map (some gv),.map (some gs),.map (some fT),q.1,.map (some fR),.map (some fS),.map (some fU),.map (some gC),rv])])) (O':=(fun (q:Value×Os×(ByteArray->Option Int)×Int)=> [⟨q.1,74,5,q.2.1.lg.length,q.2.1.lg.flatMap dO⟩,⟨rv,226,2,rn,rx⟩])) (X':=(fun (q:Value×Os×(ByteArray->Option Int)×Int)=> [bU vS dM w0.heap.size gv (V),bU vB dM w0.heap.size gs (T),bU qS dM w0.heap.size fT (q.2.1.fs),bU vB nB w0.heap.size fR (q.2.1.fa),bU pZ dM w0.heap.size fS (q.2.1.fb),bU nG dM w0.heap.size fU (q.2.1.fh),bU vI dM w0.heap.size gC (q.2.2.1),gF 68 q.2.1.fh,bW dW 2 84 w0.heap.size none cA cn cl,TxtO w0.heap.size none])) U eV8 U U (fun wx hm=>(dH0 w0 u0 u2 u3 u4 u5 u6 u7 u8 u9 jI jJ jK jL jM jN go gv gs fT fR fS fU gC cA cn cc cl V T rv rn rx hd (fun b=>jR cl [b]=0) fp σ lv at_ _ x0 x1 x2 x3 y0 y1 y2 _ _ tc nc wx (by omega) (by omega) (by omega) (by omega) (by omega) hfh (hm.fact 2 U) (hm.fact 1 U) (hm.pick [2] [0,1] [4,5,6,7,8,9,10,11,12,13,2,1] U U).cy).mono fun _ _ ⟨qK,σ2,E,he,h1,vD⟩=>⟨(qK,σ2,fp,E),he,⟨⟨h1.1,h1.2.trans hdo.symm⟩,hpo⟩,vD.cy⟩) ?_
  rintro ⟨qK,σ2,fp2,E2⟩ hst
  dsimp only at hst ⊢
  refine bX U (bQ (bM (bC (bA ?_))))
  exact bJ U U fun wx hm=>⟨qK,σ2,fp2,E2,U,hst.1,hst.2,(hm.pick [0] [0,1] [0,1,2,3,4,5,6,7,8,9] U U).cy⟩
 ·obtain ⟨x0,x1,x2,rfl⟩:=eB2 htl
  obtain ⟨tb,rU,htA⟩:=hta (by decide)
  subst htA
  obtain ⟨y0,y1,y2,y3,rfl⟩:=fO0 hnl
  obtain ⟨nb,xG,hnA⟩:=hna (by decide)
  subst hnA
  have hz0:x0.size<=1000:=htz _ (by simp)
  have hz1:x1.size<=1000:=htz _ (by simp)
  have hz2:x2.size<=1000:=htz _ (by simp)
  have hdo:=hfw.trans eA1
  refine gd (fun wz=>Blk wz gT 271 [.string ⟨#[115,119,97,112]⟩,.slice (some ⟨tb,rU,none⟩) 3 tc,.slice (some ⟨nb,xG,none⟩) 4 nc]/\True) mixed (fun _ hm=>⟨hm.bl 0,trivial⟩) fun z=>wq 1 U (bS mC U U) (wq 2 U (cQ fC U (fun _ hm=>hm.1) U) (eG 0 U ?_))
  refine gY (γ:=Nat) (val:=(fun g=> .map (some g))) (φ:=(fun g=>True)) (Y:=(fun g=>fun wy=>bU vI dM w0.heap.size g gG wy)) U bL3 U U (fun wx hm=>(qF wx).mono fun _ _ ⟨g,he,vD,hg⟩=>⟨g,he,trivial,hg,vD.lower hm.g.size⟩) (fun _=>bU.lasts2) ?_
  rintro gk mT
  clear mT
  refine bE (nw 9 7 (fun _ hm=>⟨hm.bl 0,trivial⟩) fun z=>eG 3 U (bB (gX (enc:=vI) (ek:=dM) (s:=⟨#[115,119,97,112]⟩) (e:=3) (0:Int) jZ (by kernel_rfl) (by kernel_rfl) U U (fun _ hm=>(hm.fact 0 U))) U (bE (nw 9 15 (fun _ hm=>⟨hm.bl 0,trivial⟩) fun z=>wq 4 U (bL U) (wq 5 U (cP U U) (dH 26 (v':= .int .i64 0) U (congrArg vI (by rw [yX];rfl)) (wq 6 U (cP U U) (dH 27 (v':= .bool false) U (fU3 (by rw [yX];rfl)) (wq 7 U (cV U) (wq 8 U (cV U) (jO (bD (bR (bP U (bQ (jQ U (bN (bD (bH (bR (dY mC U U (eJ fC 0 U U U (bQ (bO (bR (bB (eS U U) U (bK 54 (v':= .bool false) U (fU3 (by rw [mZ];decide)) ?_)))))))))))))))))))))))))))
  refine bX U (bQ (jQ U (bR (bB (eS U U) U (bK 82 (v':= .bool false) U (fU3 (by rw [mZ];decide)) (bX U (bQ (jQ U (bR (bB (eS U U) U (bK 106 (v':= .bool false) U (fU3 (by rw [mZ];decide)) (bX U (bQ (jQ U (bR (bB (eS U U) U (bK 113 (v':= .bool false) U (fU3 (by rw [mZ];decide)) (bX U (bQ (jQ U (bN (bG (bD (bR (bP U (dY mO U U (eJ fP 1 U U U (bB (cU rP U (fun _ hm=>hm.blkI 0 U) U U) U ?_))))))))))))))))))))))))))))
  refine gD (γ:=Value×Os×(ByteArray->Option Int)×Int) (val:=fun q=> .int .i64 q.2.2.2) (φ:=(fun (q:Value×Os×(ByteArray->Option Int)×Int)=>(kR V T (fun b=>jR cl [b]=0) at_ σ q.2.1/\fZ q.2.1=mE V T cl at_ ws (fZ σ))/\zN q.2.2.1)) (K':=fun _=>fun _=>True) (L':=(fun (q:Value×Os×(ByteArray->Option Int)×Int)=> [(go,119, [u0,.slice cA cn cc,u2,u3,u4,u5,u6,u7,u8,u9,jI,jJ,jK,jL,jM,jN,.map (some gv),.map (some gs),.map (some fT),q.1,.map (some fR),.map (some fS),.map (some fU),.map (some gC),rv])])) (O':=(fun (q:Value×Os×(ByteArray->Option Int)×Int)=> [⟨q.1,74,5,q.2.1.lg.length,q.2.1.lg.flatMap dO⟩,⟨rv,226,2,rn,rx⟩])) (X':=(fun (q:Value×Os×(ByteArray->Option Int)×Int)=> [bU vS dM w0.heap.size gv (V),bU vB dM w0.heap.size gs (T),bU qS dM w0.heap.size fT (q.2.1.fs),bU vB nB w0.heap.size fR (q.2.1.fa),bU pZ dM w0.heap.size fS (q.2.1.fb),bU nG dM w0.heap.size fU (q.2.1.fh),bU vI dM w0.heap.size gC (q.2.2.1),gF 68 q.2.1.fh,bW dW 2 84 w0.heap.size none cA cn cl,TxtO w0.heap.size none])) U dJ6 U U (fun wx hm=>(dH5 w0 u0 u2 u3 u4 u5 u6 u7 u8 u9 jI jJ jK jL jM jN go gv gs fT fR fS fU gC cA cn cc cl V T rv rn rx hd (fun b=>jR cl [b]=0) fp σ lv at_ x0 x1 x2 y0 y1 y2 y3 _ _ tc nc wx (by omega) (by omega) hlg hso (hm.fact 2 U) (hm.fact 1 U) (hm.pick [2] [0,1] [4,5,6,7,8,9,10,11,12,13,2,1] U U).cy).mono fun _ _ ⟨qK,σ2,E,he,h1,vD⟩=>⟨(qK,σ2,fp,E),he,⟨⟨h1.1,h1.2.trans hdo.symm⟩,hpo⟩,vD.cy⟩) ?_
  rintro ⟨qK,σ2,fp2,E2⟩ hst
  dsimp only at hst ⊢
  refine bX U (bQ (bM ?_))
  exact bJ U U fun wx hm=>⟨qK,σ2,fp2,E2,U,hst.1,hst.2,(hm.pick [0] [0,1] [0,1,2,3,4,5,6,7,8,9] U U).cy⟩
 ·obtain ⟨x0,rfl⟩:=dM8 htl
  obtain ⟨tb,rU,htA⟩:=hta (by decide)
  subst htA
  obtain ⟨y0,rfl⟩:=dM8 hnl
  obtain ⟨nb,xG,hnA⟩:=hna (by decide)
  subst hnA
  have hz0:x0.size<=1000:=htz _ (by simp)
  have hdo:=hfw.trans dM3
  refine gd (fun wz=>Blk wz gT 271 [.string ⟨#[101,120,116,101,110,100]⟩,.slice (some ⟨tb,rU,none⟩) 1 tc,.slice (some ⟨nb,xG,none⟩) 1 nc]/\True) mixed (fun _ hm=>⟨hm.bl 0,trivial⟩) fun z=>wq 1 U (bS mC U U) (wq 2 U (cQ fC U (fun _ hm=>hm.1) U) (eG 0 U ?_))
  refine gY (γ:=Nat) (val:=(fun g=> .map (some g))) (φ:=(fun g=>True)) (Y:=(fun g=>fun wy=>bU vI dM w0.heap.size g gG wy)) U bL3 U U (fun wx hm=>(qF wx).mono fun _ _ ⟨g,he,vD,hg⟩=>⟨g,he,trivial,hg,vD.lower hm.g.size⟩) (fun _=>bU.lasts2) ?_
  rintro gk mT
  clear mT
  refine bE (nw 9 7 (fun _ hm=>⟨hm.bl 0,trivial⟩) fun z=>eG 3 U (bB (gX (enc:=vI) (ek:=dM) (s:=⟨#[101,120,116,101,110,100]⟩) (e:=3) (0:Int) jZ (by kernel_rfl) (by kernel_rfl) U U (fun _ hm=>(hm.fact 0 U))) U (bE (nw 9 15 (fun _ hm=>⟨hm.bl 0,trivial⟩) fun z=>wq 4 U (bL U) (wq 5 U (cP U U) (dH 26 (v':= .int .i64 0) U (congrArg vI (by rw [yX];rfl)) (wq 6 U (cP U U) (dH 27 (v':= .bool false) U (fU3 (by rw [yX];rfl)) (wq 7 U (cV U) (wq 8 U (cV U) (jO (bD (bR (bP U (bQ (jQ U (bN (bD (bH (bR (dY mC U U (eJ fC 0 U U U (bQ (bO (bR (bB (eS U U) U (bK 54 (v':= .bool false) U (fU3 (by rw [mZ];decide)) ?_)))))))))))))))))))))))))))
  refine bX U (bQ (jQ U (bR (bB (eS U U) U (bK 82 (v':= .bool false) U (fU3 (by rw [mZ];decide)) (bX U (bQ (jQ U (bR (bB (eS U U) U (bK 106 (v':= .bool false) U (fU3 (by rw [mZ];decide)) (bX U (bQ (jQ U (bR (bB (eS U U) U (bK 113 (v':= .bool false) U (fU3 (by rw [mZ];decide)) (bX U (bQ (jQ U (bN (bG (bD (bR (bP U (dY mO U U (eJ fP 1 U U U (bB (cU rP U (fun _ hm=>hm.blkI 0 U) U U) U ?_))))))))))))))))))))))))))))
  refine gD (γ:=Value×Os×(ByteArray->Option Int)×Int) (val:=fun q=> .int .i64 q.2.2.2) (φ:=(fun (q:Value×Os×(ByteArray->Option Int)×Int)=>(kR V T (fun b=>jR cl [b]=0) at_ σ q.2.1/\fZ q.2.1=mE V T cl at_ ws (fZ σ))/\zN q.2.2.1)) (K':=fun _=>fun _=>True) (L':=(fun (q:Value×Os×(ByteArray->Option Int)×Int)=> [(go,119, [u0,.slice cA cn cc,u2,u3,u4,u5,u6,u7,u8,u9,jI,jJ,jK,jL,jM,jN,.map (some gv),.map (some gs),.map (some fT),q.1,.map (some fR),.map (some fS),.map (some fU),.map (some gC),rv])])) (O':=(fun (q:Value×Os×(ByteArray->Option Int)×Int)=> [⟨q.1,74,5,q.2.1.lg.length,q.2.1.lg.flatMap dO⟩,⟨rv,226,2,rn,rx⟩])) (X':=(fun (q:Value×Os×(ByteArray->Option Int)×Int)=> [bU vS dM w0.heap.size gv (V),bU vB dM w0.heap.size gs (T),bU qS dM w0.heap.size fT (q.2.1.fs),bU vB nB w0.heap.size fR (q.2.1.fa),bU pZ dM w0.heap.size fS (q.2.1.fb),bU nG dM w0.heap.size fU (q.2.1.fh),bU vI dM w0.heap.size gC (q.2.2.1),gF 68 q.2.1.fh,bW dW 2 84 w0.heap.size none cA cn cl,TxtO w0.heap.size none])) U dJ6 U U (fun wx hm=>(cW5 w0 u0 u2 u3 u4 u5 u6 u7 u8 u9 jI jJ jK jL jM jN go gv gs fT fR fS fU gC cA cn cc cl V T rv rn rx hd (fun b=>jR cl [b]=0) fp σ lv at_ x0 y0 _ _ tc nc wx hlg hso (hm.fact 2 U) (hm.fact 1 U) (hm.pick [2] [0,1] [4,5,6,7,8,9,10,11,12,13,2,1] U U).cy).mono fun _ _ ⟨qK,σ2,E,he,h1,vD⟩=>⟨(qK,σ2,fp,E),he,⟨⟨h1.1,h1.2.trans hdo.symm⟩,hpo⟩,vD.cy⟩) ?_
  rintro ⟨qK,σ2,fp2,E2⟩ hst
  dsimp only at hst ⊢
  refine bX U (bQ (bM ?_))
  exact bJ U U fun wx hm=>⟨qK,σ2,fp2,E2,U,hst.1,hst.2,(hm.pick [0] [0,1] [0,1,2,3,4,5,6,7,8,9] U U).cy⟩
 ·obtain ⟨x0,x1,rfl⟩:=eA2 htl
  obtain ⟨tb,rU,htA⟩:=hta (by decide)
  subst htA
  obtain ⟨y0,y1,rfl⟩:=eA2 hnl
  obtain ⟨nb,xG,hnA⟩:=hna (by decide)
  subst hnA
  have hz0:x0.size<=1000:=htz _ (by simp)
  have hz1:x1.size<=1000:=htz _ (by simp)
  have hdo:=hfw.trans dU6
  refine gd (fun wz=>Blk wz gT 271 [.string ⟨#[99,108,111,115,101]⟩,.slice (some ⟨tb,rU,none⟩) 2 tc,.slice (some ⟨nb,xG,none⟩) 2 nc]/\True) mixed (fun _ hm=>⟨hm.bl 0,trivial⟩) fun z=>wq 1 U (bS mC U U) (wq 2 U (cQ fC U (fun _ hm=>hm.1) U) (eG 0 U ?_))
  refine gY (γ:=Nat) (val:=(fun g=> .map (some g))) (φ:=(fun g=>True)) (Y:=(fun g=>fun wy=>bU vI dM w0.heap.size g gG wy)) U bL3 U U (fun wx hm=>(qF wx).mono fun _ _ ⟨g,he,vD,hg⟩=>⟨g,he,trivial,hg,vD.lower hm.g.size⟩) (fun _=>bU.lasts2) ?_
  rintro gk mT
  clear mT
  refine bE (nw 9 7 (fun _ hm=>⟨hm.bl 0,trivial⟩) fun z=>eG 3 U (bB (gX (enc:=vI) (ek:=dM) (s:=⟨#[99,108,111,115,101]⟩) (e:=3) (0:Int) jZ (by kernel_rfl) (by kernel_rfl) U U (fun _ hm=>(hm.fact 0 U))) U (bE (nw 9 15 (fun _ hm=>⟨hm.bl 0,trivial⟩) fun z=>wq 4 U (bL U) (wq 5 U (cP U U) (dH 26 (v':= .int .i64 0) U (congrArg vI (by rw [yX];rfl)) (wq 6 U (cP U U) (dH 27 (v':= .bool false) U (fU3 (by rw [yX];rfl)) (wq 7 U (cV U) (wq 8 U (cV U) (jO (bD (bR (bP U (bQ (jQ U (bN (bD (bH (bR (dY mC U U (eJ fC 0 U U U (bQ (bO (bR (bB (eS U U) U (bK 54 (v':= .bool false) U (fU3 (by rw [mZ];decide)) ?_)))))))))))))))))))))))))))
  refine bX U (bQ (jQ U (bR (bB (eS U U) U (bK 82 (v':= .bool false) U (fU3 (by rw [mZ];decide)) (bX U (bQ (jQ U (bR (bB (eS U U) U (bK 106 (v':= .bool false) U (fU3 (by rw [mZ];decide)) (bX U (bQ (jQ U (bR (bB (eS U U) U (bK 113 (v':= .bool false) U (fU3 (by rw [mZ];decide)) (bX U (bQ (jQ U (bN (bG (bD (bR (bP U (dY mO U U (eJ fP 1 U U U (bB (cU rP U (fun _ hm=>hm.blkI 0 U) U U) U ?_))))))))))))))))))))))))))))
  refine gD (γ:=Value×Os×(ByteArray->Option Int)×Int) (val:=fun q=> .int .i64 q.2.2.2) (φ:=(fun (q:Value×Os×(ByteArray->Option Int)×Int)=>(kR V T (fun b=>jR cl [b]=0) at_ σ q.2.1/\fZ q.2.1=mE V T cl at_ ws (fZ σ))/\zN q.2.2.1)) (K':=fun _=>fun _=>True) (L':=(fun (q:Value×Os×(ByteArray->Option Int)×Int)=> [(go,119, [u0,.slice cA cn cc,u2,u3,u4,u5,u6,u7,u8,u9,jI,jJ,jK,jL,jM,jN,.map (some gv),.map (some gs),.map (some fT),q.1,.map (some fR),.map (some fS),.map (some fU),.map (some gC),rv])])) (O':=(fun (q:Value×Os×(ByteArray->Option Int)×Int)=> [⟨q.1,74,5,q.2.1.lg.length,q.2.1.lg.flatMap dO⟩,⟨rv,226,2,rn,rx⟩])) (X':=(fun (q:Value×Os×(ByteArray->Option Int)×Int)=> [bU vS dM w0.heap.size gv (V),bU vB dM w0.heap.size gs (T),bU qS dM w0.heap.size fT (q.2.1.fs),bU vB nB w0.heap.size fR (q.2.1.fa),bU pZ dM w0.heap.size fS (q.2.1.fb),bU nG dM w0.heap.size fU (q.2.1.fh),bU vI dM w0.heap.size gC (q.2.2.1),gF 68 q.2.1.fh,bW dW 2 84 w0.heap.size none cA cn cl,TxtO w0.heap.size none])) U dJ6 U U (fun wx hm=>(cP8 w0 u0 u2 u3 u4 u5 u6 u7 u8 u9 jI jJ jK jL jM jN go gv gs fT fR fS fU gC cA cn cc cl V T rv rn rx hd (fun b=>jR cl [b]=0) fp σ lv at_ x0 x1 y0 y1 _ _ tc nc wx (by omega) hlg hso (hm.fact 2 U) (hm.fact 1 U) (hm.pick [2] [0,1] [4,5,6,7,8,9,10,11,12,13,2,1] U U).cy).mono fun _ _ ⟨qK,σ2,E,he,h1,vD⟩=>⟨(qK,σ2,fp,E),he,⟨⟨h1.1,h1.2.trans hdo.symm⟩,hpo⟩,vD.cy⟩) ?_
  rintro ⟨qK,σ2,fp2,E2⟩ hst
  dsimp only at hst ⊢
  refine bX U (bQ (bM ?_))
  exact bJ U U fun wx hm=>⟨qK,σ2,fp2,E2,U,hst.1,hst.2,(hm.pick [0] [0,1] [0,1,2,3,4,5,6,7,8,9] U U).cy⟩
 obtain ⟨x0,rfl⟩:=dM8 htl
 obtain ⟨tb,rU,htA⟩:=hta (by decide)
 subst htA
 obtain ⟨y0,rfl⟩:=dM8 hnl
 obtain ⟨nb,xG,hnA⟩:=hna (by decide)
 subst hnA
 have hz0:x0.size<=1000:=htz _ (by simp)
 have hdo:=hfw.trans eG5
 refine gd (fun wz=>Blk wz gT 271 [.string ⟨#[112,97,121]⟩,.slice (some ⟨tb,rU,none⟩) 1 tc,.slice (some ⟨nb,xG,none⟩) 1 nc]/\True) mixed (fun _ hm=>⟨hm.bl 0,trivial⟩) fun z=>wq 1 U (bS mC U U) (wq 2 U (cQ fC U (fun _ hm=>hm.1) U) (eG 0 U ?_))
 refine gY (γ:=Nat) (val:=(fun g=> .map (some g))) (φ:=(fun g=>True)) (Y:=(fun g=>fun wy=>bU vI dM w0.heap.size g gG wy)) U bL3 U U (fun wx hm=>(qF wx).mono fun _ _ ⟨g,he,vD,hg⟩=>⟨g,he,trivial,hg,vD.lower hm.g.size⟩) (fun _=>bU.lasts2) ?_
 rintro gk mT
 clear mT
 refine bE (nw 9 7 (fun _ hm=>⟨hm.bl 0,trivial⟩) fun z=>eG 3 U (bB (gX (enc:=vI) (ek:=dM) (s:=⟨#[112,97,121]⟩) (e:=3) (0:Int) jZ (by kernel_rfl) (by kernel_rfl) U U (fun _ hm=>(hm.fact 0 U))) U (bE (nw 9 15 (fun _ hm=>⟨hm.bl 0,trivial⟩) fun z=>wq 4 U (bL U) (wq 5 U (cP U U) (dH 26 (v':= .int .i64 0) U (congrArg vI (by rw [yX];rfl)) (wq 6 U (cP U U) (dH 27 (v':= .bool false) U (fU3 (by rw [yX];rfl)) (wq 7 U (cV U) (wq 8 U (cV U) (jO (bD (bR (bP U (bQ (jQ U (bN (bD (bH (bR (dY mC U U (eJ fC 0 U U U (bQ (bO (bR (bB (eS U U) U (bK 54 (v':= .bool false) U (fU3 (by rw [mZ];decide)) ?_)))))))))))))))))))))))))))
 refine bX U (bQ (jQ U (bR (bB (eS U U) U (bK 82 (v':= .bool false) U (fU3 (by rw [mZ];decide)) (bX U (bQ (jQ U (bR (bB (eS U U) U (bK 106 (v':= .bool false) U (fU3 (by rw [mZ];decide)) (bX U (bQ (jQ U (bR (bB (eS U U) U (bK 113 (v':= .bool true) U (fU3 (by rw [mZ];decide)) (bX U (bQ (kP U (bH (gd (fun wz=>Blk wz gT 271 [.string ⟨#[112,97,121]⟩,.slice (some ⟨tb,rU,none⟩) 1 tc,.slice (some ⟨nb,xG,none⟩) 1 nc]/\(fun wy=>SlT kN 1 3 wy (some ⟨nb,xG,none⟩) 1 [y0]) wz/\(fun wy=>SlT fH 1 9 wy (some ⟨tb,rU,none⟩) 1 [x0]) wz/\True) mixed (fun _ hm=>⟨hm.bl 0,hm.fa 1,hm.fa 2,trivial⟩) fun z=>wq 0 U (bL U) (wq 1 U (bS kL U U) (wq 2 U (cQ qH U (fun _ hm=>hm.1) U) (wq 3 U (bV (j:=0) jX U U (by omega)) (wq 4 U (dK (k:=0) (v:= .string x0) fC U (fun _ hm=>(hm.2.2.1)) (U: [x0][0]?=some x0) U U) (wq 5 U (bS nI U U) (wq 6 U (cQ kZ U (fun _ hm=>hm.1) U) ?_))))))))))))))))))))))))))))
 refine wq 7 U (bV (j:=0) pD U U (by omega)) (wq 8 U (dK (k:=0) (v:= .int .i64 y0) fP U (fun _ hm=>(hm.2.1)) (U: [y0][0]?=some y0) U U) (eG 9 U ?_))
 refine gD (γ:=Value×Os×(ByteArray->Option Int)×Int) (val:=fun q=> .int .i64 q.2.2.2) (φ:=(fun (q:Value×Os×(ByteArray->Option Int)×Int)=>(kR V T (fun b=>jR cl [b]=0) at_ σ q.2.1/\fZ q.2.1=mE V T cl at_ ws (fZ σ))/\zN q.2.2.1)) (K':=fun _=>fun _=>True) (L':=(fun (q:Value×Os×(ByteArray->Option Int)×Int)=> [(go,119, [u0,.slice cA cn cc,u2,u3,u4,u5,u6,u7,u8,u9,jI,jJ,jK,jL,jM,jN,.map (some gv),.map (some gs),.map (some fT),q.1,.map (some fR),.map (some fS),.map (some fU),.map (some gC),rv]),(gT,271, [.string ⟨#[112,97,121]⟩,.slice (some ⟨tb,rU,none⟩) 1 tc,.slice (some ⟨nb,xG,none⟩) 1 nc]),(g1,171, [.int .i64 at_,.string dk,.int .i64 no,.string ws])])) (O':=(fun (q:Value×Os×(ByteArray->Option Int)×Int)=> [⟨q.1,74,5,q.2.1.lg.length,q.2.1.lg.flatMap dO⟩,⟨rv,226,2,rn,rx⟩])) (X':=(fun (q:Value×Os×(ByteArray->Option Int)×Int)=> [bU vS dM w0.heap.size gv (V),bU vB dM w0.heap.size gs (T),bU qS dM w0.heap.size fT (q.2.1.fs),bU vB nB w0.heap.size fR (q.2.1.fa),bU pZ dM w0.heap.size fS (q.2.1.fb),bU nG dM w0.heap.size fU (q.2.1.fh),bU vI dM w0.heap.size gC (q.2.2.1),gF 68 q.2.1.fh,bW dW 2 84 w0.heap.size none cA cn cl,TxtO w0.heap.size none,fun wy=>SlT fH 1 9 wy (some ⟨tb,rU,none⟩) 1 [x0],fun wy=>SlT kN 1 3 wy (some ⟨nb,xG,none⟩) 1 [y0]])) U eW8 U U (fun wx hm=>(eK2 w0 u0 u2 u3 u4 u5 u6 u7 u8 u9 jI jJ jK jL jM jN go gv gs fT fR fS fU gC cA cn cc cl V T rv rn rx hd gT g1 _ _ _ _ SlT.mfar SlT.mfar fp σ lv x0 y0 wx (hnz _ (by simp)) hpo (hm.pick [2,0,1] [0,1] [4,5,6,7,8,9,10,11,12,13,2,1] U U).cy).mono fun _ _ ⟨fp2,E,he,h1,vD⟩=>⟨(lv,σ,fp2,E),he,⟨⟨.same σ,hdo.symm⟩,h1⟩,vD.cy⟩) ?_
 rintro ⟨qK,σ2,fp2,E2⟩ hst
 dsimp only at hst ⊢
 refine bE (nw 11 1023 (fun _ hm=>⟨hm.bl 1,hm.fa 11,hm.fa 10,trivial⟩) fun z=>wq 10 U (cV U) (jO (bD (bM (bC (bA ?_))))))
 exact bJ U U fun wx hm=>⟨qK,σ2,fp2,E2,U,hst.1,hst.2,(hm.pick [0] [0,1] [0,1,2,3,4,5,6,7,8,9] U U).cy⟩
section
variable {α:Type} {lt:α->α->Bool}
def wS (lt:α->α->Bool) (l:List α):Prop:=l.Pairwise fun x y=>lt y x=false
structure cV0 (lt:α->α->Bool):Prop where
 tr:∀{x y z:α},lt y x=false->lt z y=false->lt z x=false
 asy:∀{x y:α},lt x y=true->lt y x=false
theorem bJ1 {a b:List α}:wS lt (a++b)↔wS lt a/\wS lt b/\∀x∈a,∀y∈b,lt y x=false:=List.pairwise_append
theorem bP4 {a:List α} (h:wS lt a) (i:Nat):wS lt (a.take i):=(bJ1.1 (by rw [List.take_append_drop];exact h:wS lt (a.take i++a.drop i))).1
theorem bO4 {a:List α} (h:wS lt a) (i:Nat):wS lt (a.drop i):=(bJ1.1 (by rw [List.take_append_drop];exact h:wS lt (a.take i++a.drop i))).2.1
theorem bK1 {a:List α} (h:wS lt a) (i:Nat):∀x∈a.take i,∀y∈a.drop i,lt y x=false:=(bJ1.1 (by rw [List.take_append_drop];exact h:wS lt (a.take i++a.drop i))).2.2
theorem cN7 (ho:cV0 lt) (x:α):lt x x=false:=by
 cases h:lt x x with
 |false=>rfl
 |true=>rw [<-h];exact ho.asy h
theorem bP1 (ho:cV0 lt) {a:List α} (h:wS lt a) {i:Nat} {x:α} (hi:0 < i) (hx:a[i - 1]?=some x):∀y∈a.take i,lt x y=false:=fun y hy=>by
 obtain ⟨j,hj⟩:=List.getElem?_of_mem hy
 rw [List.getElem?_take] at hj
 split at hj
 ·obtain ⟨h1,rfl⟩:=List.getElem?_eq_some_iff.1 hj
  obtain ⟨h2,rfl⟩:=List.getElem?_eq_some_iff.1 hx
  rcases Nat.lt_or_ge j (i - 1) with h3|h3
  ·exact List.pairwise_iff_getElem.1 h j (i - 1) h1 h2 h3
  ·have:j=i - 1:=by omega
   subst this
   exact cN7 ho _
 ·cases hj
theorem xO (ho:cV0 lt) {a:List α} (h:wS lt a) {i:Nat} {x:α} (hx:a[i]?=some x):∀y∈a.drop i,lt y x=false:=fun y hy=>by
 obtain ⟨j,hj⟩:=List.getElem?_of_mem hy
 rw [List.getElem?_drop] at hj
 obtain ⟨h1,rfl⟩:=List.getElem?_eq_some_iff.1 hj
 obtain ⟨h2,rfl⟩:=List.getElem?_eq_some_iff.1 hx
 rcases Nat.eq_zero_or_pos j with h3|h3
 ·subst h3
  exact cN7 ho _
 ·exact List.pairwise_iff_getElem.1 h i (i+j) h2 h1 (by omega)
theorem eZ2 (ho:cV0 lt) {A B:List α} (hA:wS lt A) (hB:wS lt B) {i j:Nat}
 (h1:i=0∨B.length<=j∨∃x y,A[i - 1]?=some x/\B[j]?=some y/\lt y x=false)
 (h2:j=0∨A.length<=i∨∃x y,A[i]?=some x/\B[j - 1]?=some y/\lt y x=true):
 (∀x∈A.take i,∀y∈B.drop j,lt y x=false)/\(∀x∈B.take j,∀y∈A.drop i,lt y x=false):=by
 constructor
 ·intro x hx y hy
  rcases h1 with rfl|h1|⟨u,v,hu,hv,huv⟩
  ·rw [List.take_zero] at hx;cases hx
  ·rw [List.drop_eq_nil_of_le h1] at hy;cases hy
  ·rcases Nat.eq_zero_or_pos i with rfl|hi
   ·rw [List.take_zero] at hx;cases hx
   ·exact ho.tr (bP1 ho hA hi hu x hx) (ho.tr huv (xO ho hB hv y hy))
 ·intro x hx y hy
  rcases h2 with rfl|h2|⟨u,v,hu,hv,huv⟩
  ·rw [List.take_zero] at hx;cases hx
  ·rw [List.drop_eq_nil_of_le h2] at hy;cases hy
  ·rcases Nat.eq_zero_or_pos j with rfl|hj
   ·rw [List.take_zero] at hx;cases hx
   ·exact ho.tr (bP1 ho hB hj hv x hx) (ho.tr (ho.asy huv) (xO ho hA hu y hy))
theorem dQ9 {A B M1 M2:List α} (hA:wS lt A) (hB:wS lt B) {i j:Nat} (p1:M1.Perm (A.take i++B.take j)) (s1:wS lt M1) (p2:M2.Perm (A.drop i++B.drop j)) (s2:wS lt M2)
 (hc:(∀x∈A.take i,∀y∈B.drop j,lt y x=false)/\(∀x∈B.take j,∀y∈A.drop i,lt y x=false)):wS lt (M1++M2)/\(M1++M2).Perm (A++B):=by
 refine ⟨bJ1.2 ⟨s1,s2,fun x hx y hy=>?_⟩,?_⟩
 ·rcases List.mem_append.1 (p1.mem_iff.1 hx) with hx|hx <;> rcases List.mem_append.1 (p2.mem_iff.1 hy) with hy|hy
  ·exact bK1 hA i x hx y hy
  ·exact hc.1 x hx y hy
  ·exact hc.2 x hx y hy
  ·exact bK1 hB j x hx y hy
 ·have h:((A.take i++B.take j)++(A.drop i++B.drop j)).Perm ((A.take i++A.drop i)++(B.take j++B.drop j)):=by
   rw [List.append_assoc,List.append_assoc]
   refine List.Perm.append_left _ ?_
   rw [<-List.append_assoc,<-List.append_assoc]
   exact List.Perm.append_right _ List.perm_append_comm
  rw [List.take_append_drop,List.take_append_drop] at h
  exact (p1.append p2).trans h
theorem dC4 (ho:cV0 lt) {B:List α} (hB:wS lt B) {x:α} {i:Nat} (h1:i=0∨∃y,B[i - 1]?=some y/\lt y x=true) (h2:B.length<=i∨∃y,B[i]?=some y/\lt y x=false):
 wS lt (B.take i++x::B.drop i)/\(B.take i++x::B.drop i).Perm (x::B):=by
 refine ⟨bJ1.2 ⟨bP4 hB i,List.pairwise_cons.2 ⟨fun y hy=>?_,bO4 hB i⟩,fun y hy z hz=>?_⟩,?_⟩
 ·rcases h2 with h2|⟨u,hu,hux⟩
  ·rw [List.drop_eq_nil_of_le h2] at hy;cases hy
  ·exact ho.tr hux (xO ho hB hu y hy)
 ·rcases List.mem_cons.1 hz with rfl|hz
  ·rcases h1 with rfl|⟨u,hu,hux⟩
   ·rw [List.take_zero] at hy;cases hy
   ·rcases Nat.eq_zero_or_pos i with rfl|hi
    ·rw [List.take_zero] at hy;cases hy
    ·exact ho.tr (bP1 ho hB hi hu y hy) (ho.asy hux)
  ·exact bK1 hB i y hy z hz
 ·have h:=List.perm_middle (a:=x) (l₁:=B.take i) (l₂:=B.drop i)
  rw [List.take_append_drop] at h
  exact h
theorem dA8 (ho:cV0 lt) {B:List α} (hB:wS lt B) {x:α} {i:Nat} (h1:i=0∨∃y,B[i - 1]?=some y/\lt x y=false) (h2:B.length<=i∨∃y,B[i]?=some y/\lt x y=true):
 wS lt (B.take i++x::B.drop i)/\(B.take i++x::B.drop i).Perm (x::B):=by
 refine ⟨bJ1.2 ⟨bP4 hB i,List.pairwise_cons.2 ⟨fun y hy=>?_,bO4 hB i⟩,fun y hy z hz=>?_⟩,?_⟩
 ·rcases h2 with h2|⟨u,hu,hux⟩
  ·rw [List.drop_eq_nil_of_le h2] at hy;cases hy
  ·exact ho.tr (ho.asy hux) (xO ho hB hu y hy)
 ·rcases List.mem_cons.1 hz with rfl|hz
  ·rcases h1 with rfl|⟨u,hu,hux⟩
   ·rw [List.take_zero] at hy;cases hy
   ·rcases Nat.eq_zero_or_pos i with rfl|hi
    ·rw [List.take_zero] at hy;cases hy
    ·exact ho.tr (bP1 ho hB hi hu y hy) hux
  ·exact bK1 hB i y hy z hz
 ·have h:=List.perm_middle (a:=x) (l₁:=B.take i) (l₂:=B.drop i)
  rw [List.take_append_drop] at h
  exact h
end
def uL {α:Type} (l:List α) (a b:Nat):Nat->List α
 |0=>l
 |k+1=>match (uL l a b k)[a+k]?,(uL l a b k)[b+k]? with
  |some x,some y=>((uL l a b k).set (a+k) y).set (b+k) x
  |_,_=>uL l a b k
theorem uM {α:Type} (l:List α) (a b:Nat):∀k,(uL l a b k).length=l.length
 |0=>rfl
 |k+1=>by
  unfold uL
  split
  ·rw [List.length_set,List.length_set];exact uM l a b k
  ·exact uM l a b k
theorem bO1 {α:Type} {l:List α} {a b k:Nat} {x y:α} (hx:(uL l a b k)[a+k]?=some x) (hy:(uL l a b k)[b+k]?=some y):uL l a b (k+1)=((uL l a b k).set (a+k) y).set (b+k) x:=by
 conv=>lhs;unfold uL
 rw [hx,hy]
theorem qQ {α:Type} {l:List α} {a b:Nat}:∀{q:Nat},a+q<=b->b+q<=l.length->∀i,(uL l a b q)[i]?=if a<=i/\i < a+q then l[b+(i - a)]? else if b<=i/\i < b+q then l[a+(i - b)]? else l[i]?
 |0,_,_,i=>by
  rw [if_neg (by omega),if_neg (by omega)];rfl
 |k+1,h1,h2,i=>by
  have ih:=qQ (l:=l) (a:=a) (b:=b) (q:=k) (by omega) (by omega)
  have hl:=uM l a b k
  obtain ⟨x,hx⟩:∃x,(uL l a b k)[a+k]?=some x:=⟨_,fW3 (by omega)⟩
  obtain ⟨y,hy⟩:∃y,(uL l a b k)[b+k]?=some y:=⟨_,fW3 (by omega)⟩
  rw [bO1 hx hy]
  rw [ih,if_neg (by omega),if_neg (by omega)] at hx hy
  rcases Nat.lt_trichotomy i (b+k) with h|rfl|h
  ·rw [List.getElem?_set_ne (by omega)]
   rcases Nat.lt_trichotomy i (a+k) with h3|rfl|h3
   ·rw [List.getElem?_set_ne (by omega),ih]
    repeat' split
    all_goals first|rfl|omega|(congr 1 <;> omega)
   ·rw [List.getElem?_set_self (by omega),if_pos (by omega),show b+(a+k - a)=b+k by omega,hy]
   ·rw [List.getElem?_set_ne (by omega),ih]
    repeat' split
    all_goals first|rfl|omega|(congr 1 <;> omega)
  ·rw [List.getElem?_set_self (by rw [List.length_set];omega),if_neg (by omega),if_pos (by omega),show a+(b+k - b)=a+k by omega,hx]
  ·rw [List.getElem?_set_ne (by omega),List.getElem?_set_ne (by omega),ih]
   repeat' split
   all_goals first|rfl|omega|(congr 1 <;> omega)
def kI {α:Type} (l:List α) (a m b i:Nat):Option α:=if a<=i/\i < a+(b - m) then l[i - a+m]? else if a+(b - m)<=i/\i < b then l[i - (a+(b - m))+a]? else l[i]?
theorem dR4 {α:Type} {l:List α} {m i j:Nat} (h1:j < i) (h2:i<=m) (h3:m+j<=l.length) (x:Nat):kI l (m - i) m (m+j) x=kI (uL l (m - i) m j) (m - (i - j)) m (m+j) x:=by
 unfold kI
 rw [qQ (by omega) (by omega),qQ (by omega) (by omega),qQ (by omega) (by omega)]
 repeat' split
 all_goals first|rfl|omega|(congr 1 <;> omega)
theorem dF9 {α:Type} {l:List α} {m i j:Nat} (h1:i < j) (h2:i<=m) (h3:m+j<=l.length) (x:Nat):kI l (m - i) m (m+j) x=kI (uL l (m - i) (m+j - i) i) (m - i) m (m+(j - i)) x:=by
 unfold kI
 rw [qQ (by omega) (by omega),qQ (by omega) (by omega),qQ (by omega) (by omega)]
 repeat' split
 all_goals first|rfl|omega|(congr 1 <;> omega)
theorem eL2 {α:Type} {l:List α} {m i:Nat} (h2:i<=m) (h3:m+i<=l.length) (x:Nat):kI l (m - i) m (m+i) x=(uL l (m - i) m i)[x]?:=by
 unfold kI
 rw [qQ (by omega) (by omega)]
 repeat' split
 all_goals first|rfl|omega|(congr 1 <;> omega)
def bL7 {α:Type} (l:List α) (a:Nat):Nat->List α
 |0=>l
 |k+1=>uL (bL7 l a k) (a+k) (a+k+1) 1
theorem cK5 {α:Type} (l:List α) (a:Nat):∀k,(bL7 l a k).length=l.length
 |0=>rfl
 |k+1=>by
  unfold bL7
  rw [uM];exact cK5 l a k
theorem cJ5 {α:Type} {l:List α} {a:Nat}:∀{k:Nat},a+k < l.length->∀x,(bL7 l a k)[x]?=kI l a (a+1) (a+k+1) x
 |0,_,x=>by
  unfold kI bL7
  repeat' split
  all_goals first|rfl|omega|(congr 1 <;> omega)
 |k+1,h,x=>by
  have ih:=cJ5 (l:=l) (a:=a) (k:=k) (by omega)
  have hl:=cK5 l a k
  unfold bL7
  rw [qQ (by omega) (by omega),ih,ih,ih]
  unfold kI
  repeat' split
  all_goals first|rfl|omega|(congr 1 <;> omega)
def bK7 {α:Type} (l:List α) (m:Nat):Nat->List α
 |0=>l
 |k+1=>uL (bK7 l m k) (m - k - 1) (m - k) 1
theorem cI5 {α:Type} (l:List α) (m:Nat):∀k,(bK7 l m k).length=l.length
 |0=>rfl
 |k+1=>by
  unfold bK7
  rw [uM];exact cI5 l m k
theorem cH5 {α:Type} {l:List α} {m:Nat}:∀{k:Nat},m < l.length->k<=m->∀x,(bK7 l m k)[x]?=kI l (m - k) m (m+1) x
 |0,h,_,x=>by
  unfold kI bK7
  repeat' split
  all_goals first|rfl|omega|(congr 1 <;> omega)
 |k+1,h,hk,x=>by
  have ih:=cH5 (l:=l) (m:=m) (k:=k) h (by omega)
  have hl:=cI5 l m k
  unfold bK7
  rw [qQ (by omega) (by omega),ih,ih,ih]
  unfold kI
  repeat' split
  all_goals first|rfl|omega|(congr 1 <;> omega)
def eN {α:Type} (l:List α) (a b:Nat):List α:=(l.take b).drop a
structure wT {α:Type} (lt:α->α->Bool) (l R:List α) (a b:Nat):Prop where
 len:R.length=l.length
 front:R.take a=l.take a
 back:R.drop b=l.drop b
 srt:wS lt (eN R a b)
 perm:(eN R a b).Perm (eN l a b)
theorem gN {α:Type} {l:List α} {a b i:Nat}:(eN l a b)[i]?=if a+i < b then l[a+i]? else none:=by
 unfold eN
 rw [List.getElem?_drop,List.getElem?_take]
theorem bG0 {α:Type} {l:List α} {a b:Nat} (h:b<=l.length):(eN l a b).length=b - a:=by
 unfold eN
 rw [List.length_drop,List.length_take]
 omega
theorem dS9 {α:Type} {lt:α->α->Bool} (ho:cV0 lt) {l R:List α} {a b i:Nat} {x:α} (hb:b<=l.length) (hx:l[a]?=some x) (hS:wS lt (eN l (a+1) b)) (hi:a+1<=i) (hib:i<=b) (h1:i=a+1∨∃y,l[i - 1]?=some y/\lt y x=true) (h2:i=b∨∃y,l[i]?=some y/\lt y x=false) (hl:R.length=l.length) (hR:∀z,R[z]?=kI l a (a+1) i z):wT lt l R a b:=by
 have hB:=bG0 (l:=l) (a:=a+1) (b:=b) hb
 have hk:(i - (a+1)=0∨∃y,(eN l (a+1) b)[i - (a+1) - 1]?=some y/\lt y x=true):=by
  rcases h1 with h1|⟨y,hy,hyx⟩
  ·exact .inl (by omega)
  ·rcases Nat.eq_zero_or_pos (i - (a+1)) with h3|h3
   ·exact .inl h3
   ·exact .inr ⟨y,by rw [gN,if_pos (by omega),show a+1+(i - (a+1) - 1)=i - 1 by omega];exact hy,hyx⟩
 have hk2:((eN l (a+1) b).length<=i - (a+1)∨∃y,(eN l (a+1) b)[i - (a+1)]?=some y/\lt y x=false):=by
  rcases h2 with h2|⟨y,hy,hyx⟩
  ·exact .inl (by omega)
  ·rcases Nat.lt_or_ge i b with h3|h3
   ·exact .inr ⟨y,by rw [gN,if_pos (by omega),show a+1+(i - (a+1))=i by omega];exact hy,hyx⟩
   ·exact .inl (by omega)
 obtain ⟨s1,s2⟩:=dC4 ho hS hk hk2
 have hP:eN R a b=(eN l (a+1) b).take (i - (a+1))++x::(eN l (a+1) b).drop (i - (a+1)):=by
  refine List.ext_getElem? fun z=>?_
  rw [gN,hR,List.getElem?_append,List.length_take,hB]
  unfold kI
  rcases Nat.lt_trichotomy z (i - (a+1)) with h3|h3|h3
  ·rw [if_pos (by omega),if_pos (by omega),if_pos (by omega),List.getElem?_take,if_pos (by omega),gN,if_pos (by omega)]
   congr 1;omega
  ·rw [if_pos (by omega),if_neg (by omega),if_pos (by omega),if_neg (by omega),show z - min (i - (a+1)) (b - (a+1))=0 by omega,List.getElem?_cons_zero,<-hx]
   congr 1;omega
  ·obtain ⟨q,hq⟩:∃q,z - min (i - (a+1)) (b - (a+1))=q+1:=⟨z - min (i - (a+1)) (b - (a+1)) - 1,by omega⟩
   rw [if_neg (show ¬z < min (i - (a+1)) (b - (a+1)) by omega),hq,List.getElem?_cons_succ,List.getElem?_drop,gN]
   repeat' split
   all_goals first|rfl|omega|(congr 1 <;> omega)
 have hQ:eN l a b=x::eN l (a+1) b:=by
  refine List.ext_getElem? fun z=>?_
  cases z with
  |zero=>rw [gN,if_pos (by omega),List.getElem?_cons_zero];exact hx
  |succ z=>
   rw [List.getElem?_cons_succ,gN,gN,show a+(z+1)=a+1+z by omega]
 refine ⟨hl,?_,?_,by rw [hP];exact s1,by rw [hP,hQ];exact s2⟩
 ·refine List.ext_getElem? fun z=>?_
  rw [List.getElem?_take,List.getElem?_take]
  split
  ·rw [hR];unfold kI
   rw [if_neg (by omega),if_neg (by omega)]
  ·rfl
 ·refine List.ext_getElem? fun z=>?_
  rw [List.getElem?_drop,List.getElem?_drop,hR]
  unfold kI
  rw [if_neg (by omega),if_neg (by omega)]
theorem dT9 {α:Type} {lt:α->α->Bool} (ho:cV0 lt) {l R:List α} {a m i:Nat} {x:α} (hb:m+1<=l.length) (hx:l[m]?=some x) (hS:wS lt (eN l a m)) (hi:a<=i) (hib:i<=m) (h1:i=a∨∃y,l[i - 1]?=some y/\lt x y=false) (h2:i=m∨∃y,l[i]?=some y/\lt x y=true) (hl:R.length=l.length) (hR:∀z,R[z]?=kI l i m (m+1) z):wT lt l R a (m+1):=by
 have hB:=bG0 (l:=l) (a:=a) (b:=m) (by omega)
 have hk:(i - a=0∨∃y,(eN l a m)[i - a - 1]?=some y/\lt x y=false):=by
  rcases h1 with h1|⟨y,hy,hyx⟩
  ·exact .inl (by omega)
  ·rcases Nat.eq_zero_or_pos (i - a) with h3|h3
   ·exact .inl h3
   ·exact .inr ⟨y,by rw [gN,if_pos (by omega),show a+(i - a - 1)=i - 1 by omega];exact hy,hyx⟩
 have hk2:((eN l a m).length<=i - a∨∃y,(eN l a m)[i - a]?=some y/\lt x y=true):=by
  rcases h2 with h2|⟨y,hy,hyx⟩
  ·exact .inl (by omega)
  ·rcases Nat.lt_or_ge i m with h3|h3
   ·exact .inr ⟨y,by rw [gN,if_pos (by omega),show a+(i - a)=i by omega];exact hy,hyx⟩
   ·exact .inl (by omega)
 obtain ⟨s1,s2⟩:=dA8 ho hS hk hk2
 have hP:eN R a (m+1)=(eN l a m).take (i - a)++x::(eN l a m).drop (i - a):=by
  refine List.ext_getElem? fun z=>?_
  rw [gN,hR,List.getElem?_append,List.length_take,hB]
  unfold kI
  rcases Nat.lt_trichotomy z (i - a) with h3|h3|h3
  ·rw [if_pos (by omega),if_neg (by omega),if_neg (by omega),if_pos (by omega),List.getElem?_take,if_pos (by omega),gN,if_pos (by omega)]
  ·rw [if_pos (by omega),if_pos (by omega),if_neg (by omega),show z - min (i - a) (m - a)=0 by omega,List.getElem?_cons_zero,<-hx]
   congr 1;omega
  ·obtain ⟨q,hq⟩:∃q,z - min (i - a) (m - a)=q+1:=⟨z - min (i - a) (m - a) - 1,by omega⟩
   rw [if_neg (show ¬z < min (i - a) (m - a) by omega),hq,List.getElem?_cons_succ,List.getElem?_drop,gN]
   repeat' split
   all_goals first|rfl|omega|(congr 1 <;> omega)
 have hQ:eN l a (m+1)=eN l a m++ [x]:=by
  refine List.ext_getElem? fun z=>?_
  rw [gN,List.getElem?_append,hB,gN]
  rcases Nat.lt_trichotomy z (m - a) with h3|h3|h3
  ·rw [if_pos (by omega),if_pos (by omega),if_pos (by omega)]
  ·rw [if_pos (by omega),if_neg (by omega),show z - (m - a)=0 by omega,List.getElem?_cons_zero,<-hx]
   congr 1;omega
  ·rw [if_neg (by omega),if_neg (by omega),List.getElem?_eq_none (by simp;omega)]
 refine ⟨hl,?_,?_,by rw [hP];exact s1,by rw [hP,hQ];exact s2.trans (List.perm_append_comm (l₁:= [x]))⟩
 ·refine List.ext_getElem? fun z=>?_
  rw [List.getElem?_take,List.getElem?_take]
  split
  ·rw [hR];unfold kI
   rw [if_neg (by omega),if_neg (by omega)]
  ·rfl
 ·refine List.ext_getElem? fun z=>?_
  rw [List.getElem?_drop,List.getElem?_drop,hR]
  unfold kI
  rw [if_neg (by omega),if_neg (by omega)]
section
variable {α:Type} {lt:α->α->Bool}
theorem bG1 {l:List α} {a m b:Nat} (h1:a<=m) (h2:m<=b) (h3:b<=l.length):eN l a b=eN l a m++eN l m b:=by
 refine List.ext_getElem? fun z=>?_
 rw [gN,List.getElem?_append,bG0 (by omega),gN,gN]
 repeat' split
 all_goals first|rfl|omega|(congr 1 <;> omega)
theorem bH1 {l:List α} {a m i:Nat} (h1:a+i<=m):(eN l a m).take i=eN l a (a+i):=by
 refine List.ext_getElem? fun z=>?_
 rw [List.getElem?_take,gN,gN]
 repeat' split
 all_goals first|rfl|omega
theorem bF1 {l:List α} {a m i:Nat}:(eN l a m).drop i=eN l (a+i) m:=by
 refine List.ext_getElem? fun z=>?_
 rw [List.getElem?_drop,gN,gN]
 repeat' split
 all_goals first|rfl|omega|(congr 1 <;> omega)
theorem bT4 {l:List α} {a b:Nat} (h:wS lt (eN l a b)):wT lt l l a b:=⟨rfl,rfl,rfl,h,List.Perm.refl _⟩
theorem dA0 {l R:List α} {a b m:Nat} (h:R.take m=l.take m) (hb:b<=m):eN R a b=eN l a b:=by
 unfold eN
 have e:∀x:List α,x.take b=(x.take m).take b:=fun x=>by rw [List.take_take,Nat.min_eq_left hb]
 rw [e R,e l,h]
theorem bD6 {l R:List α} {a b m:Nat} (h:R.drop m=l.drop m) (hm:m<=a):eN R a b=eN l a b:=by
 refine List.ext_getElem? fun z=>?_
 rw [gN,gN]
 split
 ·have e:=congrArg (fun q=>q[a+z - m]?) h
  simp only [List.getElem?_drop] at e
  rw [show m+(a+z - m)=a+z by omega] at e
  exact e
 ·rfl
theorem cF7 {l:List α} {s m e:Nat} (h:s=m∨e=m) (h1:s<=m) (h2:m<=e) (x:Nat):l[x]?=kI l s m e x:=by
 unfold kI
 repeat' split
 all_goals first|rfl|omega|(congr 1 <;> omega)
theorem cO2 {l l1:List α} {a s m e b qG:Nat} (hR:∀x,l1[x]?=kI l s m e x) (hsm:s<=m) (hme:m<=e) (hmid:qG=s+(e - m)):
 eN l1 a s=eN l a s/\eN l1 s qG=eN l m e/\eN l1 qG e=eN l s m/\eN l1 e b=eN l e b:=by
 subst hmid
 refine ⟨?_,?_,?_,?_⟩ <;>
 ·refine List.ext_getElem? fun z=>?_
  rw [gN,gN,hR]
  unfold kI
  repeat' split
  all_goals first|rfl|omega|(congr 1 <;> omega)
theorem dG9 {l l1:List α} {a s m e b:Nat} (hR:∀x,l1[x]?=kI l s m e x) (has:a<=s) (hsm:s<=m) (hme:m<=e) (heb:e<=b):l1.take a=l.take a/\l1.drop b=l.drop b:=by
 constructor
 ·refine List.ext_getElem? fun z=>?_
  rw [List.getElem?_take,List.getElem?_take]
  split
  ·rw [hR];unfold kI
   rw [if_neg (by omega),if_neg (by omega)]
  ·rfl
 ·refine List.ext_getElem? fun z=>?_
  rw [List.getElem?_drop,List.getElem?_drop,hR]
  unfold kI
  rw [if_neg (by omega),if_neg (by omega)]
theorem bK6 (ho:cV0 lt) {l l1 R1 R2:List α} {a m b s e qG:Nat} (hb:b<=l.length) (hsA:wS lt (eN l a m)) (hsB:wS lt (eN l m b))
 (has:a<=s) (hsm:s<=m) (hme:m<=e) (heb:e<=b) (hmid:qG=s+(e - m))
 (h1:s=a∨e=b∨∃x y,l[s - 1]?=some x/\l[e]?=some y/\lt y x=false) (h2:e=m∨s=m∨∃x y,l[s]?=some x/\l[e - 1]?=some y/\lt y x=true)
 (hl1:l1.length=l.length) (hR:∀x,l1[x]?=kI l s m e x) (k1:wT lt l1 R1 a qG) (k2:wT lt R1 R2 qG b):wT lt l R2 a b:=by
 obtain ⟨p1,p2,p3,p4⟩:=cO2 (a:=a) (b:=b) hR hsm hme hmid
 obtain ⟨f1,f2⟩:=dG9 (b:=b) hR has hsm hme heb
 have hA:(eN l a m).length=m - a:=bG0 (by omega)
 have hB:(eN l m b).length=b - m:=bG0 hb
 have t1:(eN l a m).take (s - a)=eN l a s:=by rw [bH1 (by omega),show a+(s - a)=s by omega]
 have t2:(eN l m b).take (e - m)=eN l m e:=by rw [bH1 (by omega),show m+(e - m)=e by omega]
 have t3:(eN l a m).drop (s - a)=eN l s m:=by rw [bF1,show a+(s - a)=s by omega]
 have t4:(eN l m b).drop (e - m)=eN l e b:=by rw [bF1,show m+(e - m)=e by omega]
 have q1:(eN R1 a qG).Perm ((eN l a m).take (s - a)++(eN l m b).take (e - m)):=by
  refine k1.perm.trans ?_
  rw [bG1 (m:=s) has (by omega) (by omega),p1,p2,t1,t2]
 have q2:(eN R2 qG b).Perm ((eN l a m).drop (s - a)++(eN l m b).drop (e - m)):=by
  refine k2.perm.trans ?_
  rw [bD6 k1.back (Nat.le_refl _),bG1 (m:=e) (by omega) heb (by omega),p3,p4,t3,t4]
 have hc:=eZ2 ho hsA hsB (i:=s - a) (j:=e - m) (by
  rcases h1 with h1|h1|⟨x,y,hx,hy,hxy⟩
  ·exact .inl (by omega)
  ·exact .inr (.inl (by omega))
  ·rcases Nat.eq_zero_or_pos (s - a) with h0|h0
   ·exact .inl h0
   ·rcases Nat.lt_or_ge e b with h3|h3
    ·refine .inr (.inr ⟨x,y,?_,?_,hxy⟩)
     ·rw [gN,if_pos (by omega),show a+(s - a - 1)=s - 1 by omega];exact hx
     ·rw [gN,if_pos (by omega),show m+(e - m)=e by omega];exact hy
    ·exact .inr (.inl (by omega))) (by
  rcases h2 with h2|h2|⟨x,y,hx,hy,hxy⟩
  ·exact .inl (by omega)
  ·exact .inr (.inl (by omega))
  ·rcases Nat.eq_zero_or_pos (e - m) with h0|h0
   ·exact .inl h0
   ·rcases Nat.lt_or_ge s m with h3|h3
    ·refine .inr (.inr ⟨x,y,?_,?_,hxy⟩)
     ·rw [gN,if_pos (by omega),show a+(s - a)=s by omega];exact hx
     ·rw [gN,if_pos (by omega),show m+(e - m - 1)=e - 1 by omega];exact hy
    ·exact .inr (.inl (by omega)))
 obtain ⟨j1,j2⟩:=dQ9 hsA hsB q1 k1.srt q2 k2.srt hc
 have hl2:R2.length=l.length:=by rw [k2.len,k1.len,hl1]
 have e1:eN R2 a b=eN R1 a qG++eN R2 qG b:=by
  rw [bG1 (m:=qG) (by omega) (by omega) (by omega),dA0 (m:=qG) k2.front (Nat.le_refl _)]
 refine ⟨hl2,?_,?_,by rw [e1];exact j1,?_⟩
 ·have e2:R2.take a=R1.take a:=by
   have h:=congrArg (List.take a) k2.front
   rw [List.take_take,List.take_take,Nat.min_eq_left (by omega)] at h
   exact h
  rw [e2,k1.front,f1]
 ·have e2:R1.drop b=l1.drop b:=by
   have h:=congrArg (List.drop (b - qG)) k1.back
   rw [List.drop_drop,List.drop_drop,show qG+(b - qG)=b by omega] at h
   exact h
  rw [k2.back,e2,f2]
 ·rw [e1,bG1 (l:=l) (a:=a) (m:=m) (b:=b) (by omega) (by omega) hb]
  exact j2
end
end Go.Proofs.YtmifpfcmldflkaaGreatDoor
namespace Go.Proofs
open Go.Shelf
def Tryz.lays106_ren:Go.Shelf.Ren:=⟨fun|106=>120|213=>161|265=>206|n=>n,fun|9=>9|3=>3|n=>n,fun|n=>n⟩
theorem Tryz.lays106:Go.Proofs.Lays.n106 prog Tryz.lays106_ren:={
 mixed:=by kernel_rfl
 f106:=func120.trans (congrArg some (by kernel_rfl))
 f213:=func161.trans (congrArg some (by kernel_rfl))
 f265:=func206.trans (congrArg some (by kernel_rfl))
 t3:=Tryz.underlying3
 a3:=Tryz.isAgg3
 z3:=Tryz.sizeOf3
 v3:=Tryz.zeroValue3
 t9:=Tryz.underlying9
 a9:=Tryz.isAgg9
 z9:=Tryz.sizeOf9
 v9:=Tryz.zeroValue9 }
end Go.Proofs
namespace Go.Proofs.YtmifpfcmldflkaaGreatDoor
open Tryz
open Go.RowKit
theorem dZ0:∀a b:List UInt8,Lib.compareBytes a b=if Go.Op.bytesLess a b=true then -1 else if (Go.Op.bytesLess a b||a==b)=false then 1 else 0
 | [], []=>rfl
 | [],b::y=>by simp [Lib.compareBytes,Go.Op.bytesLess]
 |a::x, []=>by simp [Lib.compareBytes,Go.Op.bytesLess]
 |a::x,b::y=>by
  have ih:=dZ0 x y
  unfold Lib.compareBytes Go.Op.bytesLess
  by_cases h1:a < b
  ·simp [h1]
  ·by_cases h2:b < a
   ·have h3:¬a=b:=fun e=>by subst e;exact h1 h2
    simp [h1,h2,h3]
   ·have h3:a=b:=by
     rcases Decidable.em (a=b) with h|h
     ·exact h
     ·rcases UInt8.lt_or_lt_of_ne h with h|h
      ·exact absurd h h1
      ·exact absurd h h2
    subst h3
    simp only [h1,if_false,ih,decide_false,Bool.false_or,beq_self_eq_true,Bool.true_and,List.cons_beq_cons]
theorem cO0 (a b:ByteArray) (w:World):Calls prog 120 #[.string a,.string b] w (fun e w'=>e=.returned (.int .i64 (mR a b))/\w.grownBy w' none):=by
 have hcon:=Any.strings_Compare Tryz.lays106 a b w
 refine Calls.mono hcon ?_
 rintro e w' ⟨rfl,rfl⟩
 refine ⟨?_,World.grownBy.refl _ _⟩
 unfold mR
 rw [dZ0,ByteArray.toList_eq,ByteArray.toList_eq]
def kU (r:Rt):List Value:= [.string r.cls,.int .i64 r.fr,.int .i64 r.to_,.int .i64 r.hr,.int .i64 r.dy,.int .i64 r.we,.int .i64 r.wk]
theorem uT (r:Rt):(kU r).length=7:=rfl
theorem dA3 (a:ByteArray):(!(a.toList==a.toList))=false:=by simp
theorem dA4 (a:Int):(!decide (a=a))=false:=by simp
theorem bY9 (a:ByteArray) (w:World):Calls prog 95 #[.string a] w (fun e w'=>e=.returned (.bool false)/\w.grownBy w' none):=by
 refine cS ⟨6,w,none, []⟩ func95 U ntmps95 U (gM (X:= []) cX cY) (bR (bX U (bQ (bR (bP U (bP U (bB (uG U U) U (bK 5 (v':= .bool false) U (fU3 (dA3 a)) (bX U (bQ (bM ?_)))))))))))
 exact bJ U U fun wx hm=>⟨U,hm.g⟩
theorem pR (a b:ByteArray) (w:World):Calls prog 45 #[.string a,.string b] w (fun e w'=>e=.returned (.int .i64 (mR a b))/\w.grownBy w' none):=by
 refine cS ⟨20,w,none, []⟩ func45 U ntmps45 U (gM (X:= []) cX cY) (bR (bX U (bQ (bR (bP U (cH U eX9 U U (fun wx hm=>(bY9 _ wx)) (bX U (bQ (bR (bP U (cH U eX9 U U (fun wx hm=>(bY9 _ wx)) (bX U (bQ (bH (bR (bP U (bQ (jQ U (bN (bD (bH (bH ?_))))))))))))))))))))))
 refine bI (bP U (bQ (jQ U (bN (bD (bH (bR (bP U (bP U (bB (cP4 U U) U (bQ ?_)))))))))))
 refine dC U (fun hh=>?_) (fun hh=>?_)
 ·have h1:(Op.bytesLess a.toList b.toList)=true:=by simpa using hh
  refine bR (bX U (bK 4 (v':= .int .i64 (-1)) U U (bQ (bM (bA ?_)))))
  refine bJ U U fun wx hm=>?_
  refine ⟨?_,hm.g⟩
  unfold mR;rw [if_pos h1]
 have h1:(Op.bytesLess a.toList b.toList)=false:=by simpa using hh
 refine bN (bD (bH (bR (bP U (bP U (bB (eJ2 U U) U (bQ ?_)))))))
 refine dC U (fun hh=>?_) (fun hh=>?_)
 ·have h2:(Op.bytesLess a.toList b.toList||a.toList==b.toList)=false:=by simpa only [Bool.not_eq_true',Bool.not_eq_false'] using hh
  refine bR (bX U (bQ (bM (bA ?_))))
  refine bJ U U fun wx hm=>?_
  refine ⟨?_,hm.g⟩
  unfold mR;rw [if_neg (by rw [h1];decide),if_pos h2]
 have h2:(Op.bytesLess a.toList b.toList||a.toList==b.toList)=true:=by simpa only [Bool.not_eq_true',Bool.not_eq_false'] using hh
 refine bN (bD (bR (bX U (bQ (bM ?_)))))
 refine bJ U U fun wx hm=>?_
 refine ⟨?_,hm.g⟩
 unfold mR;rw [if_neg (by rw [h1];decide),if_neg (by rw [h2];decide)]
theorem dY1 (a:Int) (w:World):Calls prog 94 #[.int .i64 a] w (fun e w'=>e=.returned (.bool false)/\w.grownBy w' none):=by
 refine cS ⟨6,w,none, []⟩ func94 U ntmps94 U (gM (X:= []) cX cY) (bR (bX U (bQ (bR (bP U (bP U (bB (gS U U) U (bK 5 (v':= .bool false) U (fU3 (dA4 a)) (bX U (bQ (bM ?_)))))))))))
 exact bJ U U fun wx hm=>⟨U,hm.g⟩
theorem bQ0 (a b:Int) (w:World):Calls prog 44 #[.int .i64 a,.int .i64 b] w (fun e w'=>e=.returned (.int .i64 (nV a b))/\w.grownBy w' none):=by
 refine cS ⟨20,w,none, []⟩ func44 U ntmps44 U (gM (X:= []) cX cY) (bR (bX U (bQ (bR (bP U (cH U eW9 U U (fun wx hm=>(dY1 _ wx)) (bX U (bQ (bR (bP U (cH U eW9 U U (fun wx hm=>(dY1 _ wx)) (bX U (bQ (bH (bR (bP U (bQ (jQ U (bN (bD (bH (bH ?_))))))))))))))))))))))
 refine bI (bP U (bQ (jQ U (bN (bD (bH (bR (bP U (bP U (bB (dE U U) U (bE (bD ?_))))))))))))
 refine cC U (fun h1=>?_) (fun h1=>?_)
 ·refine bR (bX U ?_)
  refine bK 4 (v':= .int .i64 (-1)) U U (bQ (bM (bA ?_)))
  refine bJ U U fun wx hm=>?_
  refine ⟨?_,hm.g⟩
  unfold nV;rw [if_pos h1]
 refine bN (bD (bH (bR (bP U (bP U (bB (eK U U) U (bQ ?_)))))))
 refine cC U (fun h2=>?_) (fun h2=>?_)
 ·refine bR (bX U (bQ ?_))
  refine bM (bA ?_)
  refine bJ U U fun wx hm=>?_
  refine ⟨?_,hm.g⟩
  unfold nV;rw [if_neg h1,if_pos h2]
 refine bN (bD (bR (bX U (bQ (bM ?_)))))
 refine bJ U U fun wx hm=>?_
 refine ⟨?_,hm.g⟩
 unfold nV;rw [if_neg h1,if_neg h2]
theorem cA0 (a b:Int) (g T c:Nat) (w:World) (h:Blk w g T [.int .i64 a,.int .i64 b]):Calls prog 43 #[.slice (some ⟨g,0,none⟩) 2 c] w (fun e w'=>e=.returned (.int .i64 (dG [a,b]))/\w.grownBy w' none):=by
 refine cS ⟨18,w,none, []⟩ func43 U ntmps43 U (gM (X:= [fL w.heap.size none g T [.int .i64 a,.int .i64 b] ]) (cF h.old cX) (cG fL.lasts cY)) (bR (bX U (bQ (bR (bX U (bQ (bH (bR (bP U (bB (dT pD U) U (bK 7 (v':= .int .i64 2) U U (bP U (bQ (bO (eY 3 (eD (bR (bB (dE U U) U (bK 9 (v':= .bool true) U (fU3 (by decide)) (bQ (bH (kP U (bN (bD (bH (bO (bR (bB (bV (j:=0) pD U U (by decide)) U (bB (cQ (v:= .int .i64 a) fP U (fun _ hm=>(hm.fact 0 U).2) U) U ?_)))))))))))))))))))))))))))))
 refine bX U (bQ (bR (bP U (bP U (bB (gS U U) U (bQ ?_))))))
 refine gI U (fun h1=>?_) (fun h1=>?_)
 ·refine bR (bP U (bX U (bQ ?_)))
  refine bM (bC (bA (bA (bC (bA ?_)))))
  refine bJ U U fun wx hm=>?_
  refine ⟨?_,hm.g⟩
  rw [uI,if_neg h1]
 refine bN (bG (bD (bI (gO U U (bK 16 (v':= .int .i64 1) U U (bP U (bE (hW (eD (bR (bB (dE U U) U (bK 9 (v':= .bool true) U (fU3 (by decide)) (bQ (bH (kP U (bN (bD (bH (bO (bR (bB (bV (j:=1) pD U U (by decide)) U (bB (cQ (v:= .int .i64 b) fP U (fun _ hm=>(hm.fact 0 U).2) U) U (bX U (bQ (bR (bP U (bP U (bB (gS U U) U (bQ ?_)))))))))))))))))))))))))))))
 refine gI U (fun h2=>?_) (fun h2=>?_)
 ·refine bR (bP U (bX U (bQ ?_)))
  refine bM (bC (bA (bA (bC (bA ?_)))))
  refine bJ U U fun wx hm=>?_
  refine ⟨?_,hm.g⟩
  rw [uI,if_pos h1]
 refine bN (bG (bD (bI (gO U U (bK 16 (v':= .int .i64 2) U U (bP U (bE (hW (eD (bR (bB (dE U U) U (bK 9 (v':= .bool false) U (fU3 (by decide)) (bQ (bH (jQ U (dD (bF (bF (bY (bD (bR (bP U (bX U (bQ (bM ?_)))))))))))))))))))))))))
 refine bJ U U fun wx hm=>?_
 refine ⟨?_,hm.g⟩
 rw [uI,if_pos h1,h2]
theorem bS8 (l:List Rt) (A:Option Addr) (n c:Nat) (w:World) (hl:SlT kU 7 219 w A n l) (hok:∀b∈l,cW0 b) (hn:n<=1000000):
 Calls prog 163 #[.slice A n c] w (mP w (pL l)):=by
 refine cS ⟨90,w,none, []⟩ func163 U ntmps163 U (gM (X:= [bW kU 7 219 w.heap.size none A n l]) (cF hl.old cX) (cG bW.lasts cY)) (bR ?_)
 have hlen:=hl.len
 refine bX U (bQ (bH (bR (bP U (bB (dT bP7 U) U (bB (eK U U) U (bQ ?_)))))))
 refine cC U (fun h1=>?_) (fun h1=>?_)
 ·refine bR (bX U (bQ ?_))
  refine bM (bA ?_)
  exact bJ U U fun wx hm=>⟨bT (by unfold pL;rw [if_pos (by omega)]),hm.g⟩
 refine bN (bD (bH (bR (bP U (bB (dT bP7 U) U (bP U (bQ (bO ?_))))))))
 refine dX (γ:=Nat) (fun (k:Nat)=>k<=n/\pL l=scanE fV (prevOf l k) (l.drop k)) (fun (k:Nat)=> [(0,.slice A n c),(11,.slice A n c),(12,.int .i64 ((n:Nat):Int)),(13,.int .i64 ((k:Nat):Int))]) (fun (k:Nat)=>fun _=>True) (fun (k:Nat)=> []) (fun (k:Nat)=> []) (fun (k:Nat)=> [bW kU 7 219 w.heap.size none A n l]) (fun (k:Nat)=>n - k) 0 ⟨Nat.zero_le _,by unfold pL;rw [if_neg (by omega)];rfl⟩ ⟨U,U,U,U,trivial⟩ (fun _ hm=>hm.pick [] [] [0] U U) ?_
 intro k cB
 replace cB:k<=n/\pL l=scanE fV (prevOf l k) (l.drop k):=cB
 refine bR (bB (dE U U) U (bQ (bH ?_)))
 refine cC U (fun hk=>?_) (fun hk=>?_)
 ·refine bN (bD (bH (bO (bR ?_))))
  obtain ⟨b,off,hA,_,_⟩:=hl.get (by omega)
  subst hA
  obtain ⟨x,hx⟩:∃x,l[k]?=some x:=⟨_,fW3 (by omega)⟩
  obtain ⟨cl,fr,tt,ho,dd,we,wk⟩:=x
  have hat:=scanE_at fV l k _ hx
  have hcl:cl.size<=1000000:=hok _ (fX3 hx)
  refine bP U (bB (bV (j:=k) bP7 U U (by omega)) U (bB (dP (vs:= [.string cl,.int .i64 fr,.int .i64 tt,.int .i64 ho,.int .i64 dd,.int .i64 we,.int .i64 wk]) bM0 U (fun _ hm=>(hm.fact 0 U).1) hx U U) U (dL cA8 U fun g1=>bX U (kE (cs':= [.string cl,.int .i64 fr,.int .i64 tt,.int .i64 ho,.int .i64 dd,.int .i64 we,.int .i64 wk]) 0 bM0 U U U U (bQ (bH (bO (bR (dY nZ U U (eJ fC 0 U U U (cZ U bW1 U U (fun wx hm=>(isKey_any _ wx (by omega))) (bB (cE U) U (bX U (bQ ?_))))))))))))))
  refine dC U (fun hh=>?_) (fun hh=>?_)
  ·have h2:(keyB cl)=false:=by simpa using hh
   refine bR (bX U (bQ (bM (bC (bA (bC (bA (bA (bC (bA ?_))))))))))
   have hE:fV (prevOf l k) ⟨cl,fr,tt,ho,dd,we,wk⟩=5:=by unfold fV;simp [h2]
   exact bJ U U fun wx hm=>⟨bT (by rw [cB.2,hat,if_neg (by rw [hE];decide),hE]),hm.g⟩
  have h2:(keyB cl)=true:=by simpa using hh
  refine bR (dY qE U U (eJ fP 0 U U U (bB (dE U U) U (bP U ?_))))
  rcases Bool.eq_false_or_eq_true (decide (fr < 0)) with h3|h3
  ·refine bK 27 U (fU3 h3) ?_
   replace h3:=of_decide_eq_true h3
   refine dZ U (dZ U (dZ U (dZ U (dZ U (mN U U (bP U (dZ U (dZ U (dZ U (mN U U (bX U (bQ (kP U (bR (bX U (bQ (bM (bC (bA (bC (bA (bA (bC (bA ?_))))))))))))))))))))))))
   have hE:fV (prevOf l k) ⟨cl,fr,tt,ho,dd,we,wk⟩=1:=by unfold fV;simp [h2,h3]
   exact bJ U U fun wx hm=>⟨bT (by rw [cB.2,hat,if_neg (by rw [hE];decide),hE]),hm.g⟩
  refine bK 27 U (fU3 h3) ?_
  replace h3:=of_decide_eq_false h3
  refine eE U (dY qE U U (eE U (eJ fP 0 U U U (eE U (dY qV U U (eE U (eJ fP 0 U U U (eE U (bB (mG U U) U (nR U U (bP U ?_)))))))))))
  rcases Bool.eq_false_or_eq_true (decide (tt<=fr)) with h4|h4
  ·refine bK 34 U (fU3 h4) ?_
   replace h4:=of_decide_eq_true h4
   refine dZ U (dZ U (dZ U (mN U U (bX U (bQ (kP U (bR (bX U (bQ (bM (bC (bA (bC (bA (bA (bC (bA ?_)))))))))))))))))
   have hE:fV (prevOf l k) ⟨cl,fr,tt,ho,dd,we,wk⟩=1:=by unfold fV;simp [h2,h3,h4]
   exact bJ U U fun wx hm=>⟨bT (by rw [cB.2,hat,if_neg (by rw [hE];decide),hE]),hm.g⟩
  refine bK 34 U (fU3 h4) ?_
  replace h4:=of_decide_eq_false h4
  refine eE U (dY qV U U (eE U (eJ fP 0 U U U (eE U (bB (eK U U) U (nR U U (bX U (bQ ?_))))))))
  refine cC U (fun h5=>?_) (fun h5=>?_)
  ·refine bR (bX U (bQ ?_))
   refine bM (bC (bA (bC (bA (bA (bC (bA ?_)))))))
   have hE:fV (prevOf l k) ⟨cl,fr,tt,ho,dd,we,wk⟩=1:=by unfold fV;simp [h2,h3,h4,h5]
   exact bJ U U fun wx hm=>⟨bT (by rw [cB.2,hat,if_neg (by rw [hE];decide),hE]),hm.g⟩
  refine bN (bG (bD (bH (bR (dY cT3 U U (eJ fP 0 U U U (dY bA8 U U (eJ fP 0 U U U (dY cU3 U U (eJ fP 0 U U U (dY cV3 U U (eJ fP 0 U U U (jE 3 [.int .i64 ho,.int .i64 dd,.int .i64 we,.int .i64 wk] fun g2=>bB (dT pD U) U (bK 48 (v':= .int .i64 4) U U (bP U (bQ (bO (eY 5 (eD (bR (bB (dE U U) U (bK 50 (v':= .bool true) U (fU3 (by decide)) ?_))))))))))))))))))))))
  refine bQ (bH (kP U (bN (bD (bH (bO (bR (bB (bV (j:=0) pD U U (by decide)) U (eJ fP 0 U U U (bX U (bQ (bR (bP U (cZ U qA U U (fun wx hm=>(in_any _ _ _ wx)) (bB (cE U) U (bQ ?_))))))))))))))))
  refine dC U (fun hh=>?_) (fun hh=>?_)
  ·have i1:(inB ho (-1) 1000000)=false:=by simpa using hh
   refine bR (bX U (bQ (bM (bC (bA (bA (bC (bA (bC (bA (bA (bC (bA ?_)))))))))))))
   have hE:fV (prevOf l k) ⟨cl,fr,tt,ho,dd,we,wk⟩=1:=by unfold fV;simp [h2,h3,h4,h5,i1]
   exact bJ U U fun wx hm=>⟨bT (by rw [cB.2,hat,if_neg (by rw [hE];decide),hE]),hm.g⟩
  have i1:(inB ho (-1) 1000000)=true:=by simpa using hh
  refine bN (bG (bD (bI (gO U U (bK 56 (v':= .int .i64 1) U U (bP U (bE (hW (eD (bR (bB (dE U U) U (bK 50 (v':= .bool true) U (fU3 (by decide)) (bQ (bH (kP U (bN (bD (bH (bO (bR (bB (bV (j:=1) pD U U (by decide)) U (eJ fP 0 U U U (bX U (bQ (bR (bP U (cZ U qA U U (fun wx hm=>(in_any _ _ _ wx)) (bB (cE U) U (bQ ?_)))))))))))))))))))))))))))))
  refine dC U (fun hh=>?_) (fun hh=>?_)
  ·have i2:(inB dd (-1) 1000000)=false:=by simpa using hh
   refine bR (bX U (bQ (bM (bC (bA (bA (bC (bA (bC (bA (bA (bC (bA ?_)))))))))))))
   have hE:fV (prevOf l k) ⟨cl,fr,tt,ho,dd,we,wk⟩=1:=by unfold fV;simp [h2,h3,h4,h5,i1,i2]
   exact bJ U U fun wx hm=>⟨bT (by rw [cB.2,hat,if_neg (by rw [hE];decide),hE]),hm.g⟩
  have i2:(inB dd (-1) 1000000)=true:=by simpa using hh
  refine bN (bG (bD (bI (gO U U (bK 56 (v':= .int .i64 2) U U (bP U (bE (hW (eD (bR (bB (dE U U) U (bK 50 (v':= .bool true) U (fU3 (by decide)) (bQ (bH (kP U (bN (bD (bH (bO (bR (bB (bV (j:=2) pD U U (by decide)) U (eJ fP 0 U U U (bX U (bQ (bR (bP U (cZ U qA U U (fun wx hm=>(in_any _ _ _ wx)) (bB (cE U) U (bQ ?_)))))))))))))))))))))))))))))
  refine dC U (fun hh=>?_) (fun hh=>?_)
  ·have i3:(inB we (-1) 1000000)=false:=by simpa using hh
   refine bR (bX U (bQ (bM (bC (bA (bA (bC (bA (bC (bA (bA (bC (bA ?_)))))))))))))
   have hE:fV (prevOf l k) ⟨cl,fr,tt,ho,dd,we,wk⟩=1:=by unfold fV;simp [h2,h3,h4,h5,i1,i2,i3]
   exact bJ U U fun wx hm=>⟨bT (by rw [cB.2,hat,if_neg (by rw [hE];decide),hE]),hm.g⟩
  have i3:(inB we (-1) 1000000)=true:=by simpa using hh
  refine bN (bG (bD (bI (gO U U (bK 56 (v':= .int .i64 3) U U (bP U (bE (hW (eD (bR (bB (dE U U) U (bK 50 (v':= .bool true) U (fU3 (by decide)) (bQ (bH (kP U (bN (bD (bH (bO (bR (bB (bV (j:=3) pD U U (by decide)) U (eJ fP 0 U U U (bX U (bQ (bR (bP U (cZ U qA U U (fun wx hm=>(in_any _ _ _ wx)) (bB (cE U) U (bQ ?_)))))))))))))))))))))))))))))
  refine dC U (fun hh=>?_) (fun hh=>?_)
  ·have i4:(inB wk (-1) 1000000)=false:=by simpa using hh
   refine bR (bX U (bQ (bM (bC (bA (bA (bC (bA (bC (bA (bA (bC (bA ?_)))))))))))))
   have hE:fV (prevOf l k) ⟨cl,fr,tt,ho,dd,we,wk⟩=1:=by unfold fV;simp [h2,h3,h4,h5,i1,i2,i3,i4]
   exact bJ U U fun wx hm=>⟨bT (by rw [cB.2,hat,if_neg (by rw [hE];decide),hE]),hm.g⟩
  have i4:(inB wk (-1) 1000000)=true:=by simpa using hh
  refine bN (bG (bD (bI ?_)))
  by_cases hk0:k=0
  ·have hE:fV (prevOf l k) ⟨cl,fr,tt,ho,dd,we,wk⟩=0:=by unfold fV;rw [bI1 hk0];simp [h2,h3,h4,h5,i1,i2,i3,i4]
   refine gO U U (bK 56 (v':= .int .i64 4) U U (bP U (bE (hW (eD (bR (bB (dE U U) U (bK 50 (v':= .bool false) U (fU3 (by decide)) (bQ (bH (jQ U (dD (bF (bF (bY (bD (bH (bR (bP U (bB (eL U U) U (bK 58 (v':= .bool true) U (fU3 (decide_eq_true (by omega))) (bQ (kP U (dD (bF (bY ?_))))))))))))))))))))))))))
   refine bD (bI (gO U U (bP U (bE ?_))))
   exact cN (k+1) ⟨by omega,by rw [cB.2,hat,if_pos hE]⟩ (by omega) ⟨U,U,U,(cR (by omega)),trivial⟩ (fun _ hm=>hm.pick [] [] [0] U U)
  obtain ⟨y,hy⟩:∃x,l[k - 1]?=some x:=⟨_,fW3 (by omega)⟩
  obtain ⟨p0,p1,p2,p3,p4,p5,p6⟩:=y
  have hpv:=cQ4 hk0 hy
  refine gO U U (bK 56 (v':= .int .i64 4) U U (bP U (bE (hW (eD (bR (bB (dE U U) U (bK 50 (v':= .bool false) U (fU3 (by decide)) (bQ (bH (jQ U (dD (bF (bF (bY (bD (bH (bR (bP U (bB (eL U U) U (bK 58 (v':= .bool false) U (fU3 (decide_eq_false (by omega))) (bQ (jQ U (bN (bD (bR (bP U (bP U (bB (ov_sub U U (by omega) (by omega)) U ?_)))))))))))))))))))))))))))))
  refine bK 61 (v':= .int .i64 ((k - 1:Nat):Int)) U (fV3 (by omega)) (bB (bV (j:=k - 1) bP7 U U (by omega)) U (bB (dP (vs:= [.string p0,.int .i64 p1,.int .i64 p2,.int .i64 p3,.int .i64 p4,.int .i64 p5,.int .i64 p6]) bM0 U (fun _ hm=>(hm.fact 0 U).1) hy U U) U (dL cA8 U fun g3=>kE (cs':= [.string p0,.int .i64 p1,.int .i64 p2,.int .i64 p3,.int .i64 p4,.int .i64 p5,.int .i64 p6]) 0 bM0 U U U U (bQ (bH (bH (gd (fun wz=>Blk wz g3 219 [.string p0,.int .i64 p1,.int .i64 p2,.int .i64 p3,.int .i64 p4,.int .i64 p5,.int .i64 p6]/\Blk wz g1 219 [.string cl,.int .i64 fr,.int .i64 tt,.int .i64 ho,.int .i64 dd,.int .i64 we,.int .i64 wk]/\True) mixed (fun _ hm=>⟨hm.bl 0,hm.bl 2,trivial⟩) fun z=>wq 0 U (bS nZ U U) (wq 1 U (cQ fC U (fun _ hm=>hm.1) U) (wq 2 U (bS nZ U U) (wq 3 U (cQ fC U (fun _ hm=>hm.2.1) U) (wq 5 U (bS qE U U) (wq 6 U (cQ fP U (fun _ hm=>hm.1) U) (wq 7 U (bS qE U U) (wq 8 U (cQ fP U (fun _ hm=>hm.2.1) U) (eG 4 U (cH U cM5 U U (fun wx hm=>(pR _ _ wx)) (bE (nw 13 511 (fun _ hm=>⟨hm.bl 0,hm.bl 2,trivial⟩) fun z=>eG 9 U (cH U dF3 U U (fun wx hm=>(bQ0 _ _ wx)) (bE (nw 13 1023 (fun _ hm=>⟨hm.bl 0,hm.bl 2,trivial⟩) fun z=>eG 10 U (jE 3 [.int .i64 (mR p0 cl),.int .i64 (nV p1 fr)] fun g4=>bE (nw 13 2047 (fun _ hm=>⟨hm.bl 1,hm.bl 3,trivial⟩) fun z=>eG 11 U ?_)))))))))))))))))))))))
  refine cH U dE3 U U (fun wx hm=>(cA0 _ _ _ _ _ wx (hm.blkI 0 U))) (bE (nw 13 4095 (fun _ hm=>⟨hm.bl 1,hm.bl 3,trivial⟩) fun z=>wq 12 U (mG U U) (jO (bD ?_))))
  refine cC U (fun h8=>?_) (fun h8=>?_)
  ·refine bR ?_
   have h9:bC2 ⟨p0,p1,p2,p3,p4,p5,p6⟩ ⟨cl,fr,tt,ho,dd,we,wk⟩=false:=(dB9 ⟨p0,p1,p2,p3,p4,p5,p6⟩ ⟨cl,fr,tt,ho,dd,we,wk⟩).1 h8
   refine bX U (bQ (bM (bA (bC (bA (bA (bC (bA ?_))))))))
   have hE:fV (prevOf l k) ⟨cl,fr,tt,ho,dd,we,wk⟩=7:=by unfold fV;rw [hpv];simp [h2,h3,h4,h5,i1,i2,i3,i4,h9]
   exact bJ U U fun wx hm=>⟨bT (by rw [cB.2,hat,if_neg (by rw [hE];decide),hE]),hm.g⟩
  refine bN (bD (bR ?_))
  have h9:bC2 ⟨p0,p1,p2,p3,p4,p5,p6⟩ ⟨cl,fr,tt,ho,dd,we,wk⟩=true:=by
   cases h:bC2 ⟨p0,p1,p2,p3,p4,p5,p6⟩ ⟨cl,fr,tt,ho,dd,we,wk⟩
   ·exact absurd ((dB9 ⟨p0,p1,p2,p3,p4,p5,p6⟩ ⟨cl,fr,tt,ho,dd,we,wk⟩).2 h) h8
   rfl
  refine dY nZ U U (eJ fC 1 U U U (dY nZ U U (eJ fC 3 U U U (bB (eS U U) U (bP U ?_)))))
  rcases Bool.eq_false_or_eq_true (p0.toList==cl.toList) with h12|h12
  ·refine bK 82 U (fU3 h12) ?_
   have h13:zH p0 cl=true:=h12
   refine eE U (dY qV U U (eE U (eJ fP 1 U U U (eE U (dY qE U U (eE U (eJ fP 3 U U U (eE U (bB (eK U U) U (mN U U (bQ ?_)))))))))))
   refine cC U (fun h14=>?_) (fun h14=>?_)
   ·refine bR (bX U (bQ ?_))
    refine bM (bC (bA (bA (bC (bA ?_)))))
    have hE:fV (prevOf l k) ⟨cl,fr,tt,ho,dd,we,wk⟩=13:=by unfold fV;rw [hpv];simp [h2,h3,h4,h5,i1,i2,i3,i4,h9,h13,h14]
    exact bJ U U fun wx hm=>⟨bT (by rw [cB.2,hat,if_neg (by rw [hE];decide),hE]),hm.g⟩
   refine bN (bG (bD (bI ?_)))
   have hE:fV (prevOf l k) ⟨cl,fr,tt,ho,dd,we,wk⟩=0:=by unfold fV;rw [hpv];simp [h2,h3,h4,h5,i1,i2,i3,i4,h9,h13,h14]
   refine gO U U (bP U (bE ?_))
   exact cN (k+1) ⟨by omega,by rw [cB.2,hat,if_pos hE]⟩ (by omega) ⟨U,U,U,(cR (by omega)),trivial⟩ (fun _ hm=>hm.pick [] [] [0] U U)
  refine bK 82 U (fU3 h12) ?_
  have h13:zH p0 cl=false:=h12
  have hE:fV (prevOf l k) ⟨cl,fr,tt,ho,dd,we,wk⟩=0:=by unfold fV;rw [hpv];simp [h2,h3,h4,h5,i1,i2,i3,i4,h9,h13]
  refine dZ U (dZ U (dZ U (dZ U (dZ U (nR U U (bQ (jQ U (bN (bG (bD (bI (gO U U (bP U (bE ?_))))))))))))))
  exact cN (k+1) ⟨by omega,by rw [cB.2,hat,if_pos hE]⟩ (by omega) ⟨U,U,U,(cR (by omega)),trivial⟩ (fun _ hm=>hm.pick [] [] [0] U U)
 refine dD (bF (bF (bY (bD (bR (bX U (bQ (bM ?_))))))))
 exact bJ U U fun wx hm=>⟨bT (by rw [cB.2,scanE_end _ _ _ _ (by omega)]),hm.g⟩
theorem cG0 (l:List Rt) (A:Option Addr) (n c:Nat) (w:World) (hl:SlT kU 7 219 w A n l) (hok:∀b∈l,cW0 b) (hn:n<=1000000):
 Calls prog 111 #[.slice A n c] w (mP w (pL l)):=by
 refine cS ⟨107,w,none, []⟩ func111 U ntmps111 U (gM (X:= [bW kU 7 219 w.heap.size none A n l]) (cF hl.old cX) (cG bW.lasts cY)) (bR ?_)
 have hlen:=hl.len
 refine bX U (bQ (bH (bR (bP U (bB (dT bP7 U) U (bB (eK U U) U (bQ ?_)))))))
 refine cC U (fun h1=>?_) (fun h1=>?_)
 ·refine bR (bX U (bQ ?_))
  refine bM (bA ?_)
  exact bJ U U fun wx hm=>⟨bT (by unfold pL;rw [if_pos (by omega)]),hm.g⟩
 refine bN (bD (bH (bR (bP U (bB (dT bP7 U) U (bP U (bQ (bO ?_))))))))
 refine dX (γ:=Nat) (fun (k:Nat)=>k<=n/\pL l=scanE fV (prevOf l k) (l.drop k)) (fun (k:Nat)=> [(0,.slice A n c),(11,.slice A n c),(12,.int .i64 ((n:Nat):Int)),(13,.int .i64 ((k:Nat):Int))]) (fun (k:Nat)=>fun _=>True) (fun (k:Nat)=> []) (fun (k:Nat)=> []) (fun (k:Nat)=> [bW kU 7 219 w.heap.size none A n l]) (fun (k:Nat)=>n - k) 0 ⟨Nat.zero_le _,by unfold pL;rw [if_neg (by omega)];rfl⟩ ⟨U,U,U,U,trivial⟩ (fun _ hm=>hm.pick [] [] [0] U U) ?_
 intro k cB
 replace cB:k<=n/\pL l=scanE fV (prevOf l k) (l.drop k):=cB
 refine bR (bB (dE U U) U (bQ (bH ?_)))
 refine cC U (fun hk=>?_) (fun hk=>?_)
 ·refine bN (bD (bH (bO (bR ?_))))
  obtain ⟨b,off,hA,_,_⟩:=hl.get (by omega)
  subst hA
  obtain ⟨x,hx⟩:∃x,l[k]?=some x:=⟨_,fW3 (by omega)⟩
  obtain ⟨cl,fr,tt,ho,dd,we,wk⟩:=x
  have hat:=scanE_at fV l k _ hx
  have hcl:cl.size<=1000000:=hok _ (fX3 hx)
  refine bP U (bB (bV (j:=k) bP7 U U (by omega)) U (bB (dP (vs:= [.string cl,.int .i64 fr,.int .i64 tt,.int .i64 ho,.int .i64 dd,.int .i64 we,.int .i64 wk]) bM0 U (fun _ hm=>(hm.fact 0 U).1) hx U U) U (dL cA8 U fun g1=>bX U (kE (cs':= [.string cl,.int .i64 fr,.int .i64 tt,.int .i64 ho,.int .i64 dd,.int .i64 we,.int .i64 wk]) 0 bM0 U U U U (bQ (bH (gd (fun wz=>Blk wz g1 219 [.string cl,.int .i64 fr,.int .i64 tt,.int .i64 ho,.int .i64 dd,.int .i64 we,.int .i64 wk]/\True) mixed (fun _ hm=>⟨hm.bl 0,trivial⟩) fun z=>wq 0 U (bS cT3 U U) (wq 1 U (cQ fP U (fun _ hm=>hm.1) U) (wq 2 U (bS bA8 U U) (wq 3 U (cQ fP U (fun _ hm=>hm.1) U) (wq 4 U (bS cU3 U U) (wq 5 U (cQ fP U (fun _ hm=>hm.1) U) (wq 6 U (bS cV3 U U) (wq 7 U (cQ fP U (fun _ hm=>hm.1) U) (wq 8 U (eI2 U U U U) (wq 9 U (bS cT3 U U) (wq 10 U (cQ fP U (fun _ hm=>hm.1) U) (wq 11 U (bS bA8 U U) (wq 12 U (cQ fP U (fun _ hm=>hm.1) U) (wq 13 U (bS cU3 U U) (wq 14 U (cQ fP U (fun _ hm=>hm.1) U) (wq 15 U (bS cV3 U U) (wq 16 U (cQ fP U (fun _ hm=>hm.1) U) (wq 17 U (eH2 U U U U) (wq 18 U (cV U) (wq 19 U (cV U) (jO ?_)))))))))))))))))))))))))))
  refine bD (bH (bO (bR (dY nZ U U (eJ fC 0 U U U (cH U bN6 U U (fun wx hm=>(wE _ wx (by omega))) (bB (cE U) U (bX U (bQ ?_)))))))))
  refine dC U (fun hh=>?_) (fun hh=>?_)
  ·have h2:(keyB cl)=false:=by simpa using hh
   refine bR (bX U (bQ (bM (bC (bA (bC (bA (bA (bC (bA ?_))))))))))
   have hE:fV (prevOf l k) ⟨cl,fr,tt,ho,dd,we,wk⟩=5:=by unfold fV;simp [h2]
   exact bJ U U fun wx hm=>⟨bT (by rw [cB.2,hat,if_neg (by rw [hE];decide),hE]),hm.g⟩
  have h2:(keyB cl)=true:=by simpa using hh
  refine bR (dY qE U U (eJ fP 0 U U U (bB (dE U U) U (bP U ?_))))
  rcases Bool.eq_false_or_eq_true (decide (fr < 0)) with h3|h3
  ·refine bK 45 U (fU3 h3) ?_
   replace h3:=of_decide_eq_true h3
   refine dZ U (dZ U (dZ U (dZ U (dZ U (mN U U (bP U (dZ U (dZ U (dZ U (mN U U (bP U (dZ U (dZ U (mN U U (bP U (dZ U (dZ U (mN U U (bX U (bQ (kP U (bR (bX U (bQ (bM ?_)))))))))))))))))))))))))
   refine bC (bA (bC (bA (bA (bC (bA ?_))))))
   have hE:fV (prevOf l k) ⟨cl,fr,tt,ho,dd,we,wk⟩=1:=by unfold fV;simp [h2,h3]
   exact bJ U U fun wx hm=>⟨bT (by rw [cB.2,hat,if_neg (by rw [hE];decide),hE]),hm.g⟩
  refine bK 45 U (fU3 h3) ?_
  replace h3:=of_decide_eq_false h3
  refine eE U (dY qE U U (eE U (eJ fP 0 U U U (eE U (dY qV U U (eE U (eJ fP 0 U U U (eE U (bB (mG U U) U (nR U U (bP U ?_)))))))))))
  rcases Bool.eq_false_or_eq_true (decide (tt<=fr)) with h4|h4
  ·refine bK 52 U (fU3 h4) ?_
   replace h4:=of_decide_eq_true h4
   refine dZ U (dZ U (dZ U (mN U U (bP U (dZ U (dZ U (mN U U (bP U (dZ U (dZ U (mN U U (bX U (bQ (kP U (bR (bX U (bQ (bM (bC (bA (bC (bA (bA (bC (bA ?_)))))))))))))))))))))))))
   have hE:fV (prevOf l k) ⟨cl,fr,tt,ho,dd,we,wk⟩=1:=by unfold fV;simp [h2,h3,h4]
   exact bJ U U fun wx hm=>⟨bT (by rw [cB.2,hat,if_neg (by rw [hE];decide),hE]),hm.g⟩
  refine bK 52 U (fU3 h4) ?_
  replace h4:=of_decide_eq_false h4
  refine eE U (dY qV U U (eE U (eJ fP 0 U U U (eE U (bB (eK U U) U (nR U U (bP U ?_)))))))
  rcases Bool.eq_false_or_eq_true (decide (4001 < tt)) with h5|h5
  ·refine bK 57 U (fU3 h5) ?_
   replace h5:=of_decide_eq_true h5
   refine dZ U (dZ U (mN U U (bP U (dZ U (dZ U (mN U U (bX U (bQ (kP U (bR (bX U (bQ (bM (bC (bA (bC (bA (bA (bC (bA ?_))))))))))))))))))))
   have hE:fV (prevOf l k) ⟨cl,fr,tt,ho,dd,we,wk⟩=1:=by unfold fV;simp [h2,h3,h4,h5]
   exact bJ U U fun wx hm=>⟨bT (by rw [cB.2,hat,if_neg (by rw [hE];decide),hE]),hm.g⟩
  refine bK 57 U (fU3 h5) ?_
  replace h5:=of_decide_eq_false h5
  refine eE U (bP U (eE U (bB (dE U U) U (nR U U (bP U ?_)))))
  rcases Bool.eq_false_or_eq_true (decide (min (min (min ho dd) we) wk < -1)) with h6|h6
  ·refine bK 61 U (fU3 h6) ?_
   replace h6:=of_decide_eq_true h6
   have hi:inB ho (-1) 1000000=false∨inB dd (-1) 1000000=false∨inB we (-1) 1000000=false∨inB wk (-1) 1000000=false:=by simp only [cC2];omega
   refine dZ U (dZ U (mN U U (bX U (bQ (kP U (bR (bX U (bQ (bM (bC (bA (bC (bA (bA (bC (bA ?_))))))))))))))))
   have hE:fV (prevOf l k) ⟨cl,fr,tt,ho,dd,we,wk⟩=1:=by unfold fV;simp [h2,h3,h4,h5,hi]
   exact bJ U U fun wx hm=>⟨bT (by rw [cB.2,hat,if_neg (by rw [hE];decide),hE]),hm.g⟩
  refine bK 61 U (fU3 h6) ?_
  replace h6:=of_decide_eq_false h6
  refine eE U (bP U (eE U (bB (eK U U) U (nR U U (bX U (bQ ?_))))))
  refine cC U (fun h7=>?_) (fun h7=>?_)
  ·refine bR ?_
   have hi:inB ho (-1) 1000000=false∨inB dd (-1) 1000000=false∨inB we (-1) 1000000=false∨inB wk (-1) 1000000=false:=by simp only [cC2];omega
   refine bX U (bQ (bM (bC (bA (bC (bA (bA (bC (bA ?_)))))))))
   have hE:fV (prevOf l k) ⟨cl,fr,tt,ho,dd,we,wk⟩=1:=by unfold fV;simp [h2,h3,h4,h5,hi]
   exact bJ U U fun wx hm=>⟨bT (by rw [cB.2,hat,if_neg (by rw [hE];decide),hE]),hm.g⟩
  refine bR ?_
  have i1:inB ho (-1) 1000000=true:=pC.2 (by omega)
  have i2:inB dd (-1) 1000000=true:=pC.2 (by omega)
  have i3:inB we (-1) 1000000=true:=pC.2 (by omega)
  have i4:inB wk (-1) 1000000=true:=pC.2 (by omega)
  by_cases hk0:k=0
  ·have hE:fV (prevOf l k) ⟨cl,fr,tt,ho,dd,we,wk⟩=0:=by unfold fV;rw [bI1 hk0];simp [h2,h3,h4,h5,i1,i2,i3,i4]
   refine bP U (bB (eL U U) U (bK 67 (v':= .bool true) U (fU3 (decide_eq_true (by omega))) (bX U (bQ (kP U (dD (bY5 U (bF (bY (bD (bI (gO U U (bP U (bE ?_))))))))))))))
   exact cN (k+1) ⟨by omega,by rw [cB.2,hat,if_pos hE]⟩ (by omega) ⟨U,U,U,(cR (by omega)),trivial⟩ (fun _ hm=>hm.pick [] [] [0] U U)
  obtain ⟨y,hy⟩:∃x,l[k - 1]?=some x:=⟨_,fW3 (by omega)⟩
  obtain ⟨p0,p1,p2,p3,p4,p5,p6⟩:=y
  have hpv:=cQ4 hk0 hy
  refine bP U (bB (eL U U) U (bK 67 (v':= .bool false) U (fU3 (decide_eq_false (by omega))) (bX U (bQ (jQ U (bN (bG (bD (bR (bP U (bP U (bB (ov_sub U U (by omega) (by omega)) U (bK 70 (v':= .int .i64 ((k - 1:Nat):Int)) U (fV3 (by omega)) (bB (bV (j:=k - 1) bP7 U U (by omega)) U (bB (dP (vs:= [.string p0,.int .i64 p1,.int .i64 p2,.int .i64 p3,.int .i64 p4,.int .i64 p5,.int .i64 p6]) bM0 U (fun _ hm=>(hm.fact 0 U).1) hy U U) U (dL cA8 U fun g2=>kE (cs':= [.string p0,.int .i64 p1,.int .i64 p2,.int .i64 p3,.int .i64 p4,.int .i64 p5,.int .i64 p6]) 0 bM0 U U U U (bQ (bO (bR (dY nZ U U (eJ fC 1 U U U (dY nZ U U (eJ fC 0 U U U (bB (cP4 U U) U (bP U ?_)))))))))))))))))))))))))
  rcases Bool.eq_false_or_eq_true (Op.bytesLess cl.toList p0.toList) with h8|h8
  ·refine bK 79 U (fU3 h8) ?_
   have h9:bC2 ⟨p0,p1,p2,p3,p4,p5,p6⟩ ⟨cl,fr,tt,ho,dd,we,wk⟩=false:=by have h:=dU1 ⟨p0,p1,p2,p3,p4,p5,p6⟩ ⟨cl,fr,tt,ho,dd,we,wk⟩;simp only at h;rw [h8] at h;simpa using h.symm
   refine dZ U (dZ U (dZ U (dZ U (dZ U (dZ U (gnd U U U (gnd U U U (gnd U U U (gnd U U U (gnd U U U (dZ U (mN U U (bX U (bQ (kP U (bR (bX U (bQ (bM (bC (bC (bA (bA (bC (bA ?_)))))))))))))))))))))))))
   have hE:fV (prevOf l k) ⟨cl,fr,tt,ho,dd,we,wk⟩=7:=by unfold fV;rw [hpv];simp [h2,h3,h4,h5,i1,i2,i3,i4,h9]
   exact bJ U U fun wx hm=>⟨bT (by rw [cB.2,hat,if_neg (by rw [hE];decide),hE]),hm.g⟩
  refine bK 79 U (fU3 h8) (eE U (dY nZ U U (eE U (eJ fC 1 U U U (eE U (dY nZ U U (eE U (eJ fC 0 U U U (eE U (bB (eS U U) U (eE U (bP U ?_))))))))))))
  rcases Bool.eq_false_or_eq_true (cl.toList==p0.toList) with h10|h10
  ·refine bK 85 U (fU3 h10) ?_
   refine eE U (dY qE U U (eE U (eJ fP 1 U U U (eE U (dY qE U U (eE U (eJ fP 0 U U U (eE U (bB (mV U U) U (eE U (mN U U (nR U U (bX U (bQ ?_))))))))))))))
   refine cC U (fun h11=>?_) (fun h11=>?_)
   ·refine bR ?_
    have h9:bC2 ⟨p0,p1,p2,p3,p4,p5,p6⟩ ⟨cl,fr,tt,ho,dd,we,wk⟩=false:=by have h:=dU1 ⟨p0,p1,p2,p3,p4,p5,p6⟩ ⟨cl,fr,tt,ho,dd,we,wk⟩;simp only at h;rw [h8,h10,decide_eq_true h11] at h;simpa using h.symm
    refine bX U (bQ (bM (bC (bC (bA (bA (bC (bA ?_))))))))
    have hE:fV (prevOf l k) ⟨cl,fr,tt,ho,dd,we,wk⟩=7:=by unfold fV;rw [hpv];simp [h2,h3,h4,h5,i1,i2,i3,i4,h9]
    exact bJ U U fun wx hm=>⟨bT (by rw [cB.2,hat,if_neg (by rw [hE];decide),hE]),hm.g⟩
   refine bR ?_
   have h9:bC2 ⟨p0,p1,p2,p3,p4,p5,p6⟩ ⟨cl,fr,tt,ho,dd,we,wk⟩=true:=by have h:=dU1 ⟨p0,p1,p2,p3,p4,p5,p6⟩ ⟨cl,fr,tt,ho,dd,we,wk⟩;simp only at h;rw [h8,h10,decide_eq_false h11] at h;simpa using h.symm
   refine dY nZ U U (eJ fC 1 U U U (dY nZ U U (eJ fC 0 U U U (bB (eS U U) U (bP U ?_)))))
   rcases Bool.eq_false_or_eq_true (cl.toList==p0.toList) with h12|h12
   ·refine bK 99 U (fU3 h12) ?_
    have h13:zH p0 cl=true:=(by have h:=h12;unfold zH;simp only [beq_iff_eq] at h ⊢;exact h.symm)
    refine eE U (dY qV U U (eE U (eJ fP 0 U U U (eE U (dY qE U U (eE U (eJ fP 1 U U U (eE U (bB (eK U U) U (mN U U (bX U (bQ ?_))))))))))))
    refine cC U (fun h14=>?_) (fun h14=>?_)
    ·refine bR (bX U (bQ ?_))
     refine bM (bC (bC (bA (bA (bC (bA ?_))))))
     have hE:fV (prevOf l k) ⟨cl,fr,tt,ho,dd,we,wk⟩=13:=by unfold fV;rw [hpv];simp [h2,h3,h4,h5,i1,i2,i3,i4,h9,h13,h14]
     exact bJ U U fun wx hm=>⟨bT (by rw [cB.2,hat,if_neg (by rw [hE];decide),hE]),hm.g⟩
    refine bN (bG (bG (bD (bI ?_))))
    have hE:fV (prevOf l k) ⟨cl,fr,tt,ho,dd,we,wk⟩=0:=by unfold fV;rw [hpv];simp [h2,h3,h4,h5,i1,i2,i3,i4,h9,h13,h14]
    refine gO U U (bP U (bE ?_))
    exact cN (k+1) ⟨by omega,by rw [cB.2,hat,if_pos hE]⟩ (by omega) ⟨U,U,U,(cR (by omega)),trivial⟩ (fun _ hm=>hm.pick [] [] [0] U U)
   refine bK 99 U (fU3 h12) ?_
   have h13:zH p0 cl=false:=(by have h:=h12;unfold zH;simp only [beq_eq_false_iff_ne,ne_eq] at h ⊢;exact fun e=>h e.symm)
   have hE:fV (prevOf l k) ⟨cl,fr,tt,ho,dd,we,wk⟩=0:=by unfold fV;rw [hpv];simp [h2,h3,h4,h5,i1,i2,i3,i4,h9,h13]
   refine dZ U (dZ U (dZ U (dZ U (dZ U (nR U U (bX U (bQ (jQ U (bN (bG (bG (bD (bI (gO U U (bP U (bE ?_))))))))))))))))
   exact cN (k+1) ⟨by omega,by rw [cB.2,hat,if_pos hE]⟩ (by omega) ⟨U,U,U,(cR (by omega)),trivial⟩ (fun _ hm=>hm.pick [] [] [0] U U)
  refine bK 85 U (fU3 h10) ?_
  have h9:bC2 ⟨p0,p1,p2,p3,p4,p5,p6⟩ ⟨cl,fr,tt,ho,dd,we,wk⟩=true:=by have h:=dU1 ⟨p0,p1,p2,p3,p4,p5,p6⟩ ⟨cl,fr,tt,ho,dd,we,wk⟩;simp only at h;rw [h8,h10] at h;simpa using h.symm
  refine dZ U (dZ U (dZ U (dZ U (dZ U (eE U (nR U U (nR U U (bX U (bQ (jQ U (bR (dY nZ U U (eJ fC 1 U U U (dY nZ U U (eJ fC 0 U U U (bB (eS U U) U (bP U ?_)))))))))))))))))
  rcases Bool.eq_false_or_eq_true (cl.toList==p0.toList) with h12|h12
  ·refine bK 99 U (fU3 h12) ?_
   have h13:zH p0 cl=true:=(by have h:=h12;unfold zH;simp only [beq_iff_eq] at h ⊢;exact h.symm)
   refine eE U (dY qV U U (eE U (eJ fP 0 U U U (eE U (dY qE U U (eE U (eJ fP 1 U U U (eE U (bB (eK U U) U (mN U U (bX U (bQ ?_))))))))))))
   refine cC U (fun h14=>?_) (fun h14=>?_)
   ·refine bR (bX U (bQ ?_))
    refine bM (bC (bC (bA (bA (bC (bA ?_))))))
    have hE:fV (prevOf l k) ⟨cl,fr,tt,ho,dd,we,wk⟩=13:=by unfold fV;rw [hpv];simp [h2,h3,h4,h5,i1,i2,i3,i4,h9,h13,h14]
    exact bJ U U fun wx hm=>⟨bT (by rw [cB.2,hat,if_neg (by rw [hE];decide),hE]),hm.g⟩
   refine bN (bG (bG (bD (bI ?_))))
   have hE:fV (prevOf l k) ⟨cl,fr,tt,ho,dd,we,wk⟩=0:=by unfold fV;rw [hpv];simp [h2,h3,h4,h5,i1,i2,i3,i4,h9,h13,h14]
   refine gO U U (bP U (bE ?_))
   exact cN (k+1) ⟨by omega,by rw [cB.2,hat,if_pos hE]⟩ (by omega) ⟨U,U,U,(cR (by omega)),trivial⟩ (fun _ hm=>hm.pick [] [] [0] U U)
  refine bK 99 U (fU3 h12) ?_
  have h13:zH p0 cl=false:=(by have h:=h12;unfold zH;simp only [beq_eq_false_iff_ne,ne_eq] at h ⊢;exact fun e=>h e.symm)
  have hE:fV (prevOf l k) ⟨cl,fr,tt,ho,dd,we,wk⟩=0:=by unfold fV;rw [hpv];simp [h2,h3,h4,h5,i1,i2,i3,i4,h9,h13]
  refine dZ U (dZ U (dZ U (dZ U (dZ U (nR U U (bX U (bQ (jQ U (bN (bG (bG (bD (bI (gO U U (bP U (bE ?_))))))))))))))))
  exact cN (k+1) ⟨by omega,by rw [cB.2,hat,if_pos hE]⟩ (by omega) ⟨U,U,U,(cR (by omega)),trivial⟩ (fun _ hm=>hm.pick [] [] [0] U U)
 refine dD (bF (bF (bY (bD (bR (bX U (bQ (bM ?_))))))))
 exact bJ U U fun wx hm=>⟨bT (by rw [cB.2,scanE_end _ _ _ _ (by omega)]),hm.g⟩
theorem eD0 (vk vc k:ByteArray) (w:World):Calls prog 84 #[.agg #[.string vk,.string vc],.string k] w (fun e w'=>e=.returned (.int .i64 (mR vk k))/\w.grownBy w' none):=by
 refine cS ⟨9,w,none, []⟩ func84 U ntmps84 U (gM (X:= []) cX cY) (bR (fG U U U fun g1=>bX U (bQ (bR (dY bP5 U U (eJ fC 0 U U U (bP U (cH U cM5 U U (fun wx hm=>(pR _ _ wx)) (bX U (bQ (bM ?_)))))))))))
 exact bJ U U fun wx hm=>⟨U,hm.g⟩
theorem cG5 (vl:List Vh) (vA:Option Addr) (vn vc:Nat) (k:ByteArray) (w:World) (hv:SlT gW 2 57 w vA vn vl) (hn:vn<=1000000) (hr:bE5 vl):
 Calls prog 83 #[.slice vA vn vc,.string k,.func (.func 84) #[] #[]] w (fun e w'=>∃(i:Nat) (f:Bool),e=.returned (.tuple #[.int .i64 ((i:Nat):Int),.bool f])/\(f=true->mI (vhP k) vl 0=(i:Int))/\(f=false->mI (vhP k) vl 0= -1)/\w.grownBy w' none):=by
 refine cS ⟨49,w,none, []⟩ func83 U ntmps83 U (gM (X:= [bW gW 2 57 w.heap.size none vA vn vl]) (cF hv.old cX) (cG bW.lasts cY)) (bR ?_)
 have hlen:=hv.len
 refine bX U (bX U (bQ (bR (bP U (bB (dT bZ8 U) U (bX U (bQ (bR (bP U (bX U (bX U (bQ (bH (bO ?_))))))))))))))
 refine dX (γ:=Nat×Nat) (fun g=>(g.1<=g.2/\g.2<=vn)/\Low vl k g.1/\eN0 vl k g.2) (fun g=> [(0,.slice vA vn vc),(1,.string k),(2,.func (.func 84) #[] #[]),(6,.int .i64 0),(7,.bool false),(8,.int .i64 ((vn:Nat):Int)),(9,.int .i64 ((g.1:Nat):Int)),(10,.int .i64 ((g.2:Nat):Int))]) (fun g=>fun _=>True) (fun g=> []) (fun g=> []) (fun g=> [bW gW 2 57 w.heap.size none vA vn vl]) (fun g=>g.2 - g.1) (0,vn) ⟨⟨Nat.zero_le _,Nat.le_refl _⟩,(fun i h=>by omega),fun i h x hx=>by have:=(List.getElem?_eq_some_iff.1 hx).1;omega⟩ ⟨U,U,U,U,U,U,(cR (by omega)),U,trivial⟩ (fun _ hm=>hm.pick [] [] [0] U U) ?_
 rintro ⟨a,b⟩ cB
 replace cB:(a<=b/\b<=vn)/\Low vl k a/\eN0 vl k b:=cB
 dsimp only
 refine bH (bR ?_)
 obtain ⟨⟨hab,hbn⟩,hlow,hhigh⟩:=cB
 refine bP U (bP U (bB (dE U U) U (bQ ?_)))
 refine cC U (fun hc=>?_) (fun hc=>?_)
 ·refine bN (bD (bO (bR ?_)))
  obtain ⟨h,hh⟩:∃h,h=(a+b) / 2:=⟨_,rfl⟩
  have hha:a<=h:=by omega
  have hhb:h < b:=by omega
  obtain ⟨x,hx⟩:∃x,vl[h]?=some x:=⟨_,fW3 (by omega)⟩
  obtain ⟨vk,vc2⟩:=x
  obtain ⟨bv,ov,hA,_,_⟩:=hv.get (by omega)
  subst hA
  refine bP U (bP U (gO U U (bK 20 (v':= .int .i64 (((a+b):Nat):Int)) U (fV3 (by omega)) (bB (cC0 (a:=(a+b)) (by kernel_rfl) (by kernel_rfl) U (by omega)) U (bB (bF0 (a:=(a+b)) U U) U (bB (bB6 (a:=(a+b) / 2) (by kernel_rfl) (by kernel_rfl) U (by omega)) U (bK 23 (v':= .int .i64 ((h:Nat):Int)) U (fV3 (by omega)) (bX U (bQ (bR (bP U (bP U (bP U (bB (bV (j:=h) bZ8 U U (by omega)) U (bB (dP (vs:= [.string vk,.string vc2]) cH7 U (fun _ hm=>(hm.fact 0 U).1) hx U U) U (bP U (cH U eU9 U U (fun wx hm=>(eD0 vk vc2 k wx)) (bB (dE U U) U (bQ ?_)))))))))))))))))))
  refine cC U (fun hl=>?_) (fun hl=>?_)
  ·refine bI (bP U (gO U U (bX U (bE (bG ?_)))))
   exact cN (h+1,b) ⟨⟨by dsimp only;omega,hbn⟩,dO8 hr hx hl,hhigh⟩ (by dsimp only;omega) ⟨U,U,U,U,U,U,(cR (by omega)),U,trivial⟩ (fun _ hm=>hm.pick [] [] [0] U U)
  refine bI (bP U (bX U (bE (bG ?_))))
  exact cN (a,h) ⟨⟨by dsimp only;omega,by dsimp only;omega⟩,hlow,dW3 hr hx hl⟩ (by dsimp only;omega) ⟨U,U,U,U,U,U,U,(cR (by omega)),trivial⟩ (fun _ hm=>hm.pick [] [] [0] U U)
 refine dD (bF (bF (bY (bD (bR ?_)))))
 obtain rfl:b=a:=by omega
 by_cases hbv:b < vn
 ·obtain ⟨x,hx⟩:∃x,vl[b]?=some x:=⟨_,fW3 (by omega)⟩
  obtain ⟨vk,vc2⟩:=x
  obtain ⟨bv,ov,hA,_,_⟩:=hv.get (by omega)
  subst hA
  refine bP U (bP U (bP U (bB (dE U U) U (bK 38 (v':= .bool true) U (fU3 (decide_eq_true (by omega))) (bP U (eE U (bP U (eE U (bP U (eE U (bP U (eE U (bB (bV (j:=b) bZ8 U U (by omega)) U (eE U (bB (dP (vs:= [.string vk,.string vc2]) cH7 U (fun _ hm=>(hm.fact 0 U).1) hx U U) U (eE U (bP U (eE U (cH U eU9 U U (fun wx hm=>(eD0 vk vc2 k wx)) (eE U (bB (eL U U) U (mN U U (bX U (bX U (bQ (bM ?_))))))))))))))))))))))))))
  refine pN U U U fun wx hm=>?_
  exact ⟨_,_,U,fun h=>eW4 hlow hx (of_decide_eq_true h),fun h=>eQ3 hr hlow hhigh (fun y hy=>by rw [hx] at hy;cases hy;exact of_decide_eq_false h),hm.g⟩
 refine bP U (bP U (bP U (bB (dE U U) U (bK 38 (v':= .bool false) U (fU3 (decide_eq_false (by omega))) (bP U (dZ U (dZ U (dZ U (dZ U (dZ U (dZ U (dZ U (dZ U (nR U U (bX U (bX U (bQ (bM ?_))))))))))))))))))
 refine pN U U U fun wx hm=>?_
 exact ⟨_,_,U,(fun h=>by cases h),fun _=>eQ3 hr hlow hhigh (fun y hy=>by have:=(List.getElem?_eq_some_iff.1 hy).1;omega),hm.g⟩
theorem bJ2 (vl:List Vh) (sA cA vA pA:Option Addr) (sn sc cn cc vn vc pn pc:Nat) (k:ByteArray) (w:World) (hv:SlT gW 2 57 w vA vn vl) (hn:vn<=1000000) (hr:bE5 vl):
 Calls prog 36 #[.agg #[.slice sA sn sc,.slice cA cn cc,.slice vA vn vc,.slice pA pn pc],.string k] w (mP w (mI (vhP k) vl 0)):=by
 refine cS ⟨17,w,none, []⟩ func36 U ntmps36 U (gM (X:= [bW gW 2 57 w.heap.size none vA vn vl]) (cF hv.old cX) (cG bW.lasts cY)) (bR (fG U U U fun g1=>bX U (bQ (bR (dY vL U U (eJ bM4 0 U U U (bP U ?_)))))))
 refine gY (γ:=Nat×Bool) (val:=(fun g=> .tuple #[.int .i64 ((g.1:Nat):Int),.bool g.2])) (φ:=(fun g=>(g.2=true->mI (vhP k) vl 0=(g.1:Int))/\(g.2=false->mI (vhP k) vl 0= -1))) (Y:=(fun g=>fun _=>True)) U fU2 U U (fun wx hm=>(cG5 vl vA vn vc k wx (hm.fact 0 U).1 hn hr).mono fun _ _ ⟨i,f,he,h1,h2,hg⟩=>⟨(i,f),he,⟨h1,h2⟩,hg,trivial⟩) (fun _=>Lasts2.true_) ?_
 rintro ⟨i,f⟩ hif
 dsimp only at hif ⊢
 refine bP U (bB (cP U U) U (bB (cP U U) U (bX U (bX U (bQ (bH (bR (bP U (bB (cE U) U (bQ ?_))))))))))
 refine dC U (fun hh=>?_) (fun hh=>?_)
 ·have hf:f=false:=by simpa using hh
  refine bR (bX U (bK 4 (v':= .int .i64 (-1)) U U (bQ (bM (bA ?_)))))
  exact bJ U U fun wx hm=>⟨bT (by rw [hif.2 hf]),hm.g⟩
 have hf:f=true:=by simpa using hh
 refine bN (bD (bR (bP U (bX U (bQ (bM ?_))))))
 exact bJ U U fun wx hm=>⟨bT (by rw [hif.1 hf]),hm.g⟩
theorem bN7 (vl:List Vh) (pl:List Pl) (sA cA vA pA:Option Addr) (sn sc cn cc vn vc pn pc:Nat) (w:World) (_:SlT gW 2 57 w vA vn vl) (hp:SlT bI2 3 293 w pA pn pl) (_:vn<=1000000) (_:pn<=1000000) (_:bE5 vl) (hpok:∀x∈pl,eP0 x):
 Calls prog 136 #[.agg #[.slice sA sn sc,.slice cA cn cc,.slice vA vn vc,.slice pA pn pc]] w (mP w (bF8 vl pl)):=by
 refine cS ⟨97,w,none, []⟩ func136 U ntmps136 U (gM (X:= []) cX cY) (bR ?_)
 have e0:pl= []:=by
  cases pl with
  |nil=>rfl
  |cons x r=>exact absurd (hpok x (List.mem_cons_self ..)) (fun h=>h)
 subst e0
 have hpn0:pn=0:=hp.len.symm
 subst hpn0
 refine fG U U U fun g1=>bX U (bQ (bH (bR (dY dG7 U U (eJ fA1 0 U U U (bB (dT fB0 U) U (bK 10 (v':= .int .i64 0) U U (bB (eK U U) U (bK 11 (v':= .bool false) U (fU3 (by decide)) (bQ (jQ U (bN (bD (bH (bR (dY dG7 U U (eJ fA1 0 U U U (bB (dT fB0 U) U (bK 14 (v':= .int .i64 0) U U (bP U (bQ (bO (eY 1 (eD (bR (bB (dE U U) U (bK 16 (v':= .bool false) U (fU3 (by decide)) ?_)))))))))))))))))))))))))))
 refine bQ (bH (jQ U (dD (bF (bF (bY (bD (bR (bX U (bQ (bM ?_)))))))))))
 exact bJ U U fun wx hm=>⟨U,hm.g⟩
theorem cS8 {sl:List St} {cl:List Cs} {vl:List Vh} {pl:List Pl} {vn:Nat} (hl:vl.length=vn) (h:dG [stationsE sl,jC cl,dI (decide ((500:Int) < ((vn:Nat):Int))) 2]≠0):mJ sl cl vl pl=dG [stationsE sl,jC cl,dI (decide ((500:Int) < ((vn:Nat):Int))) 2]:=by
 unfold mJ
 by_cases h1:stationsE sl=0
 ·by_cases h2:jC cl=0
  ·by_cases h3:(500:Int) < ((vn:Nat):Int)
   ·have h4:bH7 cl vl=2:=by unfold bH7;rw [if_pos (by omega)]
    rw [h1,h2,h4,decide_eq_true h3];rfl
   ·rw [h1,h2,decide_eq_false h3] at h
    exact absurd U h
  ·simp [dG,h1,h2]
 ·simp [dG,h1]
theorem cT8 {sl:List St} {cl:List Cs} {vl:List Vh} {pl:List Pl} {vn:Nat} (hl:vl.length=vn) (h:dG [stationsE sl,jC cl,dI (decide ((500:Int) < ((vn:Nat):Int))) 2]=0):stationsE sl=0/\jC cl=0/\vn<=500/\mJ sl cl vl pl=dG [scanE (vhE cl) none vl,bF8 vl pl]:=by
 have hz:=qY h
 have h1:=hz (stationsE sl) (by simp)
 have h2:=hz (jC cl) (by simp)
 have h3:=hz (dI (decide ((500:Int) < ((vn:Nat):Int))) 2) (by simp)
 have h4:¬(500:Int) < ((vn:Nat):Int):=fun h=>by rw [decide_eq_true h] at h3;cases h3
 refine ⟨h1,h2,by omega,?_⟩
 unfold mJ bH7
 rw [h1,h2,if_neg (by omega)];rfl
theorem bY7 {a b:Int} (h:a≠0):dG [a,b]=a:=by simp [dG,h]
theorem cY5 {b:Int}:dG [0,b]=b:=by
 by_cases h:b=0
 ·subst h;rfl
 ·simp [dG,h]
theorem eH3 {cl:List Cs} {p:Option Vh} {b:Vh} (h:keyB b.key=false):vhE cl p b=5:=by unfold vhE;rw [h];rfl
theorem eI3 {cl:List Cs} {p:Option Vh} {b:Vh} (h:keyB b.key=true) (h2:cL4 p b=true):vhE cl p b=7:=by unfold vhE;rw [h,h2];rfl
theorem cV2 {cl:List Cs} {p:Option Vh} {b:Vh} (h:keyB b.key=true) (h2:cL4 p b=false):vhE cl p b=if mI (vW b.cls) cl 0 < 0 then 8 else 0:=by unfold vhE;rw [h,h2];rfl
theorem zR (sl:List St) (cl:List Cs) (vl:List Vh) (pl:List Pl) (sA cA vA pA:Option Addr) (sn sc cn cc vn vc pn pc:Nat) (w:World) (hs:SlT stEnc 15 99 w sA sn sl) (hc:SlT dW 2 84 w cA cn cl) (hv:SlT gW 2 57 w vA vn vl) (hp:SlT bI2 3 293 w pA pn pl) (rS:∀x∈sl,StOk x) (bS5:∀x∈cl,rV x) (bZ1:∀x∈vl,cJ8 x) (hpok:∀x∈pl,eP0 x) (yY:sn<=1000000) (hcn:cn<=1000000) (hvn:vn<=1000000) (hpn:pn<=1000000):
 Calls prog 80 #[.agg #[.slice sA sn sc,.slice cA cn cc,.slice vA vn vc,.slice pA pn pc]] w (mP w (mJ sl cl vl pl)):=by
 refine cS ⟨60,w,none, []⟩ func80 U ntmps80 U (gM (X:= [bW stEnc 15 99 w.heap.size none sA sn sl,bW dW 2 84 w.heap.size none cA cn cl,bW gW 2 57 w.heap.size none vA vn vl,bW bI2 3 293 w.heap.size none pA pn pl]) (cF hs.old (cF hc.old (cF hv.old (cF hp.old cX)))) (cG bW.lasts (cG bW.lasts (cG bW.lasts (cG bW.lasts cY))))) (bR ?_)
 have hlen:=hv.len
 obtain ⟨SE,hSE⟩:∃z,z=stationsE sl:=⟨_,rfl⟩
 obtain ⟨CE,hCE⟩:∃z,z=jC cl:=⟨_,rfl⟩
 obtain ⟨FE,hFE⟩:∃z,z=dG [stationsE sl,jC cl,dI (decide ((500:Int) < ((vn:Nat):Int))) 2]:=⟨_,rfl⟩
 have hFE2:FE=dG [SE,CE,dI (decide ((500:Int) < ((vn:Nat):Int))) 2]:=by rw [hFE,hSE,hCE]
 refine fG U U U fun g1=>bX U (bQ (bH ?_))
 refine pB (γ:=Unit) (I:=(fun (uu:Unit)=>True)) (S':=(fun (uu:Unit)=> [(1,.pointer (some ⟨g1,0,none⟩)),(2,.int .i64 0),(3,.int .i64 FE)])) (K':=(fun (uu:Unit)=>fun _=>True)) (L':=(fun (uu:Unit)=> [(g1,31, [.slice sA sn sc,.slice cA cn cc,.slice vA vn vc,.slice pA pn pc])])) (O':=(fun (uu:Unit)=> [])) (X':=(fun (uu:Unit)=> [bW stEnc 15 99 w.heap.size none sA sn sl,bW dW 2 84 w.heap.size none cA cn cl,bW gW 2 57 w.heap.size none vA vn vl,bW bI2 3 293 w.heap.size none pA pn pl])) ?_ ?_
 ·refine gd (fun wz=>Blk wz g1 31 [.slice sA sn sc,.slice cA cn cc,.slice vA vn vc,.slice pA pn pc]/\True) mixed (fun _ hm=>⟨hm.bl 0,trivial⟩) fun z=>?_
  refine wq 0 U (bS cU8 U U) (wq 1 U (cQ eL6 U (fun _ hm=>hm.1) U) (wq 3 U (bS cZ3 U U) (wq 4 U (cQ eP2 U (fun _ hm=>hm.1) U) (wq 6 U (bS vL U U) (wq 7 U (cQ bM4 U (fun _ hm=>hm.1) U) (wq 8 U (dT bZ8 U) (wq 9 U (eK U U) (eG 2 U (cH (v:= .int .i64 SE) U eK8 U U (fun wx hm=>(by rw [hSE];exact checkStations_any sl sA sn sc wx (hm.fact 0 rfl).1 rS (by omega))) (bE (nw 14 991 (fun _ hm=>⟨hm.bl 0,trivial⟩) fun z=>eG 5 U (cH (v:= .int .i64 CE) U eR3 U U (fun wx hm=>(by rw [hCE];exact wW cl cA cn cc wx (hm.fact 1 rfl).1 bS5 (by omega))) (bE (nw 14 1023 (fun _ hm=>⟨hm.bl 0,trivial⟩) fun z=>eG 10 U (cZ U qN U U (fun wx hm=>(eH _ _ wx)) (bE (nw 14 2047 (fun _ hm=>⟨hm.bl 0,trivial⟩) fun z=>eG 11 U (jE 48 [.int .i64 SE,.int .i64 CE,.int .i64 (dI (decide (500 < ((vn:Nat):Int))) 2)] fun g2=>bE (nw 14 4095 (fun _ hm=>⟨hm.bl 1,trivial⟩) fun z=>eG 12 U (cZ U wH U U (fun wx hm=>(fN [SE,CE,dI (decide (500 < ((vn:Nat):Int))) 2] _ _ _ wx (hm.blkI 0 U) (by simp))) (bE (nw 14 8191 (fun _ hm=>⟨hm.bl 1,trivial⟩) fun z=>wq 13 U (cV U) (jO ?_)))))))))))))))))))))))
  exact fK () trivial ⟨U,U,(cR hFE2.symm),trivial⟩ (fun _ hm=>hm.pick [1] [] [0,1,2,3] U U)
 intro uu cB
 replace cB:True:=cB
 refine bR (bP U (bB (gS U U) U (bQ ?_)))
 refine gI U (fun h1=>?_) (fun h1=>?_)
 ·refine bR ?_
  have h2:FE≠0:=by simpa using h1
  have h3:mJ sl cl vl pl=FE:=by rw [hFE];exact cS8 hlen (by rw [<-hFE];exact h2)
  refine bP U (bX U (bQ (bM (bA ?_))))
  exact bJ U U fun wx hm=>⟨bT (by rw [h3]),hm.g⟩
 refine bN (bD (bH (bR ?_)))
 have h2:FE=0:=by simpa using h1
 obtain ⟨_,hcz,hv5,hfl⟩:=cT8 (sl:=sl) (cl:=cl) (pl:=pl) hlen (hFE.symm.trans h2)
 refine dY vL U U (eJ bM4 0 U U U (bB (dT bZ8 U) U (bP U (bQ (bO ?_)))))
 refine dX (γ:=Nat) (fun (i:Nat)=>i<=vn/\scanE (vhE cl) none vl=scanE (vhE cl) (prevOf vl i) (vl.drop i)) (fun (i:Nat)=> [(1,.pointer (some ⟨g1,0,none⟩)),(23,.slice vA vn vc),(24,.int .i64 ((vn:Nat):Int)),(25,.int .i64 ((i:Nat):Int))]) (fun (i:Nat)=>fun _=>True) (fun (i:Nat)=> [(g1,31, [.slice sA sn sc,.slice cA cn cc,.slice vA vn vc,.slice pA pn pc])]) (fun (i:Nat)=> []) (fun (i:Nat)=> [bW stEnc 15 99 w.heap.size none sA sn sl,bW dW 2 84 w.heap.size none cA cn cl,bW gW 2 57 w.heap.size none vA vn vl,bW bI2 3 293 w.heap.size none pA pn pl]) (fun (i:Nat)=>vn - i) 0 ⟨Nat.zero_le _,U⟩ ⟨U,U,U,U,trivial⟩ (fun _ hm=>hm.pick [0] [] [0,1,2,3] U U) ?_
 intro i cB
 replace cB:i<=vn/\scanE (vhE cl) none vl=scanE (vhE cl) (prevOf vl i) (vl.drop i):=cB
 refine bR ?_
 obtain ⟨hi0,hsc⟩:=cB
 refine bB (dE U U) U (bQ (bH ?_))
 refine cC U (fun hi=>?_) (fun hi=>?_)
 ·refine bN (bD (bH (bO (bR ?_))))
  obtain ⟨bv,ov,hA,_,_⟩:=hv.get (by omega)
  subst hA
  obtain ⟨x,hx⟩:∃x,vl[i]?=some x:=⟨_,fW3 (by omega)⟩
  obtain ⟨vk,vc2⟩:=x
  have hat:=scanE_at (vhE cl) vl i _ hx
  obtain ⟨hvk,hvc2⟩:=bZ1 _ (fX3 hx)
  have hvk:vk.size<=1000000:=hvk
  refine bP U (bB (bV (j:=i) bZ8 U U (by omega)) U (bB (dP (vs:= [.string vk,.string vc2]) cH7 U (fun _ hm=>(hm.fact 2 U).1) hx U U) U (dL eZ6 U fun g3=>bX U (kE (cs':= [.string vk,.string vc2]) 0 cH7 U U U U (bQ (bO (bR (dY bP5 U U (eJ fC 0 U U U (cZ U bW1 U U (fun wx hm=>(isKey_any _ wx (by omega))) (bB (cE U) U (bX U (bQ ?_)))))))))))))
  refine dC U (fun hh=>?_) (fun hh=>?_)
  ·have h3:(keyB vk)=false:=by simpa using hh
   refine bR (bX U (bQ (bM (bC (bC (bA (bA (bC (bA ?_)))))))))
   have hE:vhE cl (prevOf vl i) ⟨vk,vc2⟩=5:=eH3 (by simpa using h3)
   have hF:scanE (vhE cl) none vl=5:=by rw [hsc,hat,if_neg (by rw [hE];decide),hE]
   exact bJ U U fun wx hm=>⟨bT (by rw [hfl,hF,bY7 (by decide)]),hm.g⟩
  have h3:(keyB vk)=true:=by simpa using hh
  refine bH ?_
  by_cases h0:i=0
  ·have hle:cL4 (prevOf vl i) ⟨vk,vc2⟩=false:=by rw [mH h0];rfl
   have h8:=cV2 (cl:=cl) (b:=⟨vk,vc2⟩) (by simpa using h3) hle
   refine gd (fun wz=>True) mixed (fun _ _=>trivial) fun z=>wq 0 U (bL U) (wq 1 U (eK U U) (dH 37 (v':= .bool false) U (fU3 (decide_eq_false (by omega))) (wq 2 U (bL U) (fD 3 U (fD 4 U (fD 5 U (fD 6 U (fD 7 U (fD 8 U (fD 9 U (fD 10 U (fD 11 U (fD 12 U (wq 13 U (fO U U) (wq 14 U (cV U) (jO (bD (jQ U (bR (dY cZ3 U U (eJ eP2 1 U U U (dY cV8 U U (eJ fC 0 U U U (cH U dV0 U U (fun wx hm=>(vZ cl cA cn cc vc2 wx (hm.fact 1 U).1 (by omega))) (bB (dE U U) U (bX U (bQ ?_)))))))))))))))))))))))))))
   refine cC U (fun h5=>?_) (fun h5=>?_)
   ·refine bR (bX U (bQ ?_))
    refine bM (bC (bC (bA (bA (bC (bA ?_))))))
    have hE:vhE cl (prevOf vl i) ⟨vk,vc2⟩=8:=by rw [h8,if_pos h5]
    have hF:scanE (vhE cl) none vl=8:=by rw [hsc,hat,if_neg (by rw [hE];decide),hE]
    exact bJ U U fun wx hm=>⟨bT (by rw [hfl,hF,bY7 (by decide)]),hm.g⟩
   refine bN (bG (bG (bD (bI ?_))))
   have hE:vhE cl (prevOf vl i) ⟨vk,vc2⟩=0:=by rw [h8,if_neg h5]
   refine gO U U (bP U (bE ?_))
   exact cN (i+1) ⟨by omega,by rw [hsc,hat,if_pos hE]⟩ (by omega) ⟨U,U,U,(cR (by omega)),trivial⟩ (fun _ hm=>hm.pick [1] [] [0,1,2,3] U U)
  obtain ⟨yy,hy⟩:∃x,vl[i - 1]?=some x:=⟨_,fW3 (by omega)⟩
  obtain ⟨uk,uc⟩:=yy
  refine gd (fun wz=>Blk wz g3 57 [.string vk,.string vc2]/\Blk wz g1 31 [.slice sA sn sc,.slice cA cn cc,.slice (some ⟨bv,ov,none⟩) vn vc,.slice pA pn pc]/\(bW gW 2 57 w.heap.size none (some ⟨bv,ov,none⟩) vn vl) wz/\True) mixed (fun _ hm=>⟨hm.bl 0,hm.bl 1,hm.fa 2,trivial⟩) fun z=>wq 0 U (bL U) (wq 1 U (eK U U) (dH 37 (v':= .bool true) U (fU3 (decide_eq_true (by omega))) (wq 2 U (bL U) (fI 3 U (bS bP5 U U) (fI 4 U (cQ fC U (fun _ hm=>hm.1) U) (fI 5 U (bS vL U U) (fI 6 U (cQ bM4 U (fun _ hm=>hm.2.1) U) (fI 7 U (bL U) (fI 8 U (ov_sub U U (by omega) (by omega)) (dH 44 (v':= .int .i64 (((i - 1):Nat):Int)) U (fV3 (by omega)) (fI 9 U (bV (j:=(i - 1)) bZ8 U U (by omega)) (fI 10 U (bS bP5 U U) (fI 11 U (dK (k:=0) (v:= .string uk) fC U (fun _ hm=>(hm.2.2.1).1) hy U U) (fI 12 U (wG U U) (wq 13 U (fE U U) (wq 14 U (cV U) (jO (bD ?_))))))))))))))))))
  refine dC U (fun hh=>?_) (fun hh=>?_)
  ·have h4:(Op.bytesLess vk.toList uk.toList||vk.toList==uk.toList)=true:=by simpa using hh
   refine bR ?_
   have hle:cL4 (prevOf vl i) ⟨vk,vc2⟩=true:=by rw [jT h0 hy];exact h4
   refine bX U (bQ (bM (bC (bC (bA (bA (bC (bA ?_))))))))
   have hE:vhE cl (prevOf vl i) ⟨vk,vc2⟩=7:=eI3 (by simpa using h3) hle
   have hF:scanE (vhE cl) none vl=7:=by rw [hsc,hat,if_neg (by rw [hE];decide),hE]
   exact bJ U U fun wx hm=>⟨bT (by rw [hfl,hF,bY7 (by decide)]),hm.g⟩
  have h4:(Op.bytesLess vk.toList uk.toList||vk.toList==uk.toList)=false:=by simpa using hh
  refine bR ?_
  have hle:cL4 (prevOf vl i) ⟨vk,vc2⟩=false:=by rw [jT h0 hy];exact h4
  have h8:=cV2 (cl:=cl) (b:=⟨vk,vc2⟩) (by simpa using h3) hle
  refine dY cZ3 U U (eJ eP2 1 U U U (dY cV8 U U (eJ fC 0 U U U (cH U dV0 U U (fun wx hm=>(vZ cl cA cn cc vc2 wx (hm.fact 1 U).1 (by omega))) (bB (dE U U) U (bX U (bQ ?_)))))))
  refine cC U (fun h5=>?_) (fun h5=>?_)
  ·refine bR (bX U (bQ ?_))
   refine bM (bC (bC (bA (bA (bC (bA ?_))))))
   have hE:vhE cl (prevOf vl i) ⟨vk,vc2⟩=8:=by rw [h8,if_pos h5]
   have hF:scanE (vhE cl) none vl=8:=by rw [hsc,hat,if_neg (by rw [hE];decide),hE]
   exact bJ U U fun wx hm=>⟨bT (by rw [hfl,hF,bY7 (by decide)]),hm.g⟩
  refine bN (bG (bG (bD (bI ?_))))
  have hE:vhE cl (prevOf vl i) ⟨vk,vc2⟩=0:=by rw [h8,if_neg h5]
  refine gO U U (bP U (bE ?_))
  exact cN (i+1) ⟨by omega,by rw [hsc,hat,if_pos hE]⟩ (by omega) ⟨U,U,U,(cR (by omega)),trivial⟩ (fun _ hm=>hm.pick [1] [] [0,1,2,3] U U)
 refine dD (bF (bF (bY (bD (bR ?_)))))
 have hz:scanE (vhE cl) none vl=0:=by rw [hsc,List.drop_eq_nil_of_le (by omega)];rfl
 have bK9:bE5 vl:=(cT4 hz).1
 obtain ⟨PE,hPE⟩:∃z,z=bF8 vl pl:=⟨_,rfl⟩
 refine bB (cU bF6 U (fun _ hm=>hm.blkI 0 U) U U) U (cH (v:= .int .i64 PE) U eL8 U U (fun wx hm=>(by rw [hPE];exact bN7 vl pl sA cA vA pA sn sc cn cc vn vc pn pc wx (hm.fact 2 rfl).1 (hm.fact 3 rfl).1 (by omega) (by omega) bK9 hpok)) (bX U (bQ (bM ?_))))
 exact bJ U U fun wx hm=>⟨bT (by rw [hfl,hz,cY5,hPE]),hm.g⟩
theorem cM4 (hs:List Int) (h:hs.length=14):∃a0 a1 a2 a3 a4 a5 a6 a7 a8 a9 a10 a11 a12 a13,hs= [a0,a1,a2,a3,a4,a5,a6,a7,a8,a9,a10,a11,a12,a13]:=by
 match hs,h with
 | [a0,a1,a2,a3,a4,a5,a6,a7,a8,a9,a10,a11,a12,a13],_=>exact ⟨a0,a1,a2,a3,a4,a5,a6,a7,a8,a9,a10,a11,a12,a13,rfl⟩
def bT5 (hs:List Int) (d:Int):Int:=d *1440+frAt hs (d % 7).toNat
def bU5 (hs:List Int) (d:Int):Int:=d *1440+toAt hs (d % 7).toNat
def eS4 (w:World) (a b:Int) (e:Ending) (w':World):Prop:=e=.returned (.agg #[.int .i64 a,.int .i64 b])/\w.grownBy w' none
theorem dY3 (key:ByteArray) (hs:List Int) (d:Int) (w:World) (hl:hs.length=14) (hd0:0<=d) (hd1:d<=1000000000) (hb:∀h∈hs, -1000000000000000000<=h/\h<=1000000000000000000):
 Calls prog 89 #[.agg (stCells key hs).toArray,.int .i64 d] w (eS4 w (bT5 hs d) (bU5 hs d)):=by
 obtain ⟨j,hj⟩:∃j:Nat,(j:Int)=d % 7:=⟨(d % 7).toNat,by omega⟩
 have hj7:j < 7:=by omega
 have hF:bT5 hs d=d *1440+frAt hs j:=by unfold bT5;rw [<-hj];simp
 have hT:bU5 hs d=d *1440+toAt hs j:=by unfold bU5;rw [<-hj];simp
 have hf: -1000000000000000000<=frAt hs j/\frAt hs j<=1000000000000000000:=by
  unfold frAt;rw [List.getD_eq_getElem?_getD,fW3 (by omega)];exact hb _ (List.getElem_mem _)
 have ht: -1000000000000000000<=toAt hs j/\toAt hs j<=1000000000000000000:=by
  unfold toAt;rw [List.getD_eq_getElem?_getD,fW3 (by omega)];exact hb _ (List.getElem_mem _)
 rw [hF,hT]
 have hvs:((hs.map (Value.int .i64)).drop (j *2)).take 2= [.int .i64 (frAt hs j),.int .i64 (toAt hs j)]:=hrs_pair hs j (by omega)
 generalize frAt hs j=f at *
 generalize toAt hs j=t at *
 have hvv:∀i v, [Value.int .i64 f,Value.int .i64 t][i]?=some v->(stCells key hs)[1+j *2+i]?=some v:=fun i v hv=>by
  rw [<-hvs,List.getElem?_take] at hv
  split at hv
  ·rw [List.getElem?_drop] at hv
   rw [show 1+j *2+i=(j *2+i)+1 by omega]
   exact hv
  ·cases hv
 have Hvv:=Lib.hid hvv
 have hj':d % 7=(j:Int):=hj.symm
 have hbox:Blk ((w.alloc (.cells (stCells key hs).toArray 99)).alloc (.cells #[.int .i64 0,.int .i64 0] 55)) w.heap.size 99 (stCells key hs):=(Blk.at_ w rfl _ _).alloc _
 clear hvv hvs hF hT hj
 go_enter func89,ntmps89
 go_wp2_with (with_reducible refine wpList_load_blk rfl 55 (.tmp 9) rfl w.heap.size (1+j *2) _ (stCells key hs) [.int .i64 f,.int .i64 t] _ hbox rfl Tryz.underlying55 rfl 2 info_win (by simp) Hvv.out ?_)
 refine bodyPost_ret (v:= .agg #[.int .i64 (d *1440+f),.int .i64 (d *1440+t)]) (by simp [results,Tryz.results89,go_sem]) U ⟨U,?_⟩
 exact grow_alloc (grow_alloc (grow_alloc (World.grownBy.refl _ _) _) _) _
theorem eN6 {key:ByteArray} {hs:List Int} {w:World} {g:Nat} (h:Blk w g 99 (stCells key hs)):SlT stEnc 15 99 w (some ⟨g,0,none⟩) 1 [⟨key,hs⟩]:=
 ⟨rfl,fun _=>⟨g,0,_,_,rfl,h,fun i x hx j v hv=>by
  match i,hx with
  |0,hx=>
   simp at hx;subst hx
   simpa [stEnc] using hv⟩⟩
theorem bJ5 (key:ByteArray) (hs:List Int) (f:Int) (w:World) (hok:StOk ⟨key,hs⟩):
 Calls prog 87 #[.agg (stCells key hs).toArray,.int .i64 f] w fun e w'=>e=.returned (.int .i64 (dG [stationsE [⟨key,hs⟩],f]))/\w.grownBy w' none:=by
 have hsl:=fun (wz:World) (hz:wz.heap.size=w.heap.size+1)=>eN6 (Blk.at_ wz hz 99 (stCells key hs))
 have Hsl:=Lib.hid hsl
 have Hok:=Lib.hid hok
 clear hsl
 obtain ⟨a0,a1,a2,a3,a4,a5,a6,a7,a8,a9,a10,a11,a12,a13,rfl⟩:=cM4 hs hok.1
 clear hok
 show Calls prog 87 #[.agg #[.string key,.int .i64 a0,.int .i64 a1,.int .i64 a2,.int .i64 a3,.int .i64 a4,.int .i64 a5,.int .i64 a6,.int .i64 a7,.int .i64 a8,.int .i64 a9,.int .i64 a10,.int .i64 a11,.int .i64 a12,.int .i64 a13],.int .i64 f] w _
 go_enter func87,ntmps87
 go_wp2_with fail
 refine (checkStations_any [⟨key, [a0,a1,a2,a3,a4,a5,a6,a7,a8,a9,a10,a11,a12,a13]⟩] _ _ _ _ (Hsl.out (w.alloc (.cells #[.string key,.int .i64 a0,.int .i64 a1,.int .i64 a2,.int .i64 a3,.int .i64 a4,.int .i64 a5,.int .i64 a6,.int .i64 a7,.int .i64 a8,.int .i64 a9,.int .i64 a10,.int .i64 a11,.int .i64 a12,.int .i64 a13] 99)) (by simp)) (by intro s hs;simp at hs;subst hs;exact Hok.out) (by omega)).mono ?_
 rintro e w1 ⟨rfl,hg1⟩
 have hg1':w.grownBy w1 none:=grow_trans (grow_alloc (grow_alloc (World.grownBy.refl _ _) _) _) hg1
 obtain ⟨E,hE⟩:∃E,E=stationsE [⟨key, [a0,a1,a2,a3,a4,a5,a6,a7,a8,a9,a10,a11,a12,a13]⟩]:=⟨_,rfl⟩
 rw [<-hE]
 have HE:=Lib.hid hE;clear hE
 go_wp2_with fail
 refine (fN [E,f] _ _ _ _ (Blk.at_ _ U _ _) (by simp)).mono ?_
 rintro e w2 ⟨rfl,rfl⟩
 go_wp2_with fail
 go_ret
 exact ⟨by rw [<-HE.out];rfl,grow_alloc hg1' _⟩
def bB8 (s:St) (at_:Int):Int:=dG [stationsE [s],yE at_]
def bB1 (s:St) (at_:Int):Bool:=bB8 s at_==0&&decide (bT5 s.hs (at_ / 1440)<=at_)&&decide (at_ < bU5 s.hs (at_ / 1440))
theorem cV6 (key:ByteArray) (hs:List Int) (at_:Int) (w:World) (hok:StOk ⟨key,hs⟩) (hb:∀h∈hs, -1000000000000000000<=h/\h<=1000000000000000000):
 Calls prog 39 #[.agg (stCells key hs).toArray,.int .i64 at_] w (eN3 w (bB1 ⟨key,hs⟩ at_) (bB8 ⟨key,hs⟩ at_)):=by
 have Hok:=Lib.hid hok
 have Hb:=Lib.hid hb
 clear hb
 obtain ⟨a0,a1,a2,a3,a4,a5,a6,a7,a8,a9,a10,a11,a12,a13,rfl⟩:=cM4 hs hok.1
 clear hok
 show Calls prog 39 #[.agg #[.string key,.int .i64 a0,.int .i64 a1,.int .i64 a2,.int .i64 a3,.int .i64 a4,.int .i64 a5,.int .i64 a6,.int .i64 a7,.int .i64 a8,.int .i64 a9,.int .i64 a10,.int .i64 a11,.int .i64 a12,.int .i64 a13],.int .i64 at_] w _
 go_enter func39,ntmps39
 go_wp2_with fail
 refine wp_region_still_tail 3 (by kernel_rfl) (by kernel_rfl) ?_
 change wpStill _ _ (World.drew _) _ _ _
 simp only [List.take_succ_cons,List.take_zero,List.drop_succ_cons,List.drop_zero]
 still_step
 still_step
 still_call ((bX9 at_ _).mono fun _ _ h=>⟨h.1,h.2.symm⟩)
 refine wpStill_nil ?_
 change wpList _ _ _ _ _ (World.drew _)
 go_wp2_with fail
 refine (bJ5 key [a0,a1,a2,a3,a4,a5,a6,a7,a8,a9,a10,a11,a12,a13] _ _ Hok.out).mono ?_
 rintro e w1 ⟨rfl,hg1⟩
 obtain ⟨E,hE⟩:∃E,E=bB8 ⟨key, [a0,a1,a2,a3,a4,a5,a6,a7,a8,a9,a10,a11,a12,a13]⟩ at_:=⟨_,rfl⟩
 rw [show dG [stationsE [⟨key, [a0,a1,a2,a3,a4,a5,a6,a7,a8,a9,a10,a11,a12,a13]⟩],yE at_]=E from hE.symm]
 have HE:=Lib.hid hE;clear hE
 have hbox:Blk w1 w.heap.size 99 (stCells key [a0,a1,a2,a3,a4,a5,a6,a7,a8,a9,a10,a11,a12,a13]):=((Blk.at_ w rfl _ _).drewN 1).grown hg1 (by simp)
 have hgw:w.grownBy w1 none:=grow_trans (pG (grow_alloc (World.grownBy.refl _ _) _)) hg1
 clear hg1
 by_cases h0:E=0
 ·have hm:=cU9 (bQ2 (HE.out.symm.trans h0)).2
  have hdv:at_.tdiv 1440=at_ / 1440:=Int.tdiv_eq_ediv_of_nonneg hm.1
  have hd0:0<=at_ / 1440:=by omega
  have hd1:at_ / 1440<=1000000000:=by omega
  obtain ⟨d,hd⟩:∃d,d=at_ / 1440:=⟨_,rfl⟩
  have hV:bB1 ⟨key, [a0,a1,a2,a3,a4,a5,a6,a7,a8,a9,a10,a11,a12,a13]⟩ at_=(decide (bT5 [a0,a1,a2,a3,a4,a5,a6,a7,a8,a9,a10,a11,a12,a13] d<=at_)&&decide (at_ < bU5 [a0,a1,a2,a3,a4,a5,a6,a7,a8,a9,a10,a11,a12,a13] d)):=by
   unfold bB1
   rw [<-HE.out,h0,<-hd];rfl
  rw [<-hd] at hdv hd0 hd1
  have hd':at_ / 1440=d:=hd.symm
  have HV:=Lib.hid hV
  subst h0
  clear hV hd
  go_wp2_with (with_reducible refine wpList_load_all rfl 99 (.tmp 2) rfl w.heap.size _ (stCells key [a0,a1,a2,a3,a4,a5,a6,a7,a8,a9,a10,a11,a12,a13]) _ hbox rfl Tryz.underlying99 rfl 15 info_st rfl ?_)
  refine (dY3 key [a0,a1,a2,a3,a4,a5,a6,a7,a8,a9,a10,a11,a12,a13] _ _ U hd0 hd1 Hb.out).mono ?_
  rintro e w2 ⟨rfl,hg2⟩
  have hgw2:=grow_trans hgw hg2
  obtain ⟨F,hF⟩:∃F,F=bT5 [a0,a1,a2,a3,a4,a5,a6,a7,a8,a9,a10,a11,a12,a13] d:=⟨_,rfl⟩
  obtain ⟨T,hT⟩:∃T,T=bU5 [a0,a1,a2,a3,a4,a5,a6,a7,a8,a9,a10,a11,a12,a13] d:=⟨_,rfl⟩
  rw [<-hF,<-hT] at HV ⊢
  clear hF hT hbox hgw hg2
  go_wp2_with fail
  all_goals
   go_ret2
   exact ⟨dD9 (by rw [HV.out];simp [*] <;> (intros;omega)) HE.out,grow_alloc hgw2 _⟩
 ·have hne:(E !=0)=true:=by simpa using h0
  have hV:bB1 ⟨key, [a0,a1,a2,a3,a4,a5,a6,a7,a8,a9,a10,a11,a12,a13]⟩ at_=false:=by
   unfold bB1
   rw [<-HE.out];simp [h0]
  have HV:=Lib.hid hV
  clear hV h0
  go_wp2_with fail
  go_ret2
  exact ⟨dD9 HV.out.symm HE.out,hgw⟩
end Go.Proofs.YtmifpfcmldflkaaGreatDoor
