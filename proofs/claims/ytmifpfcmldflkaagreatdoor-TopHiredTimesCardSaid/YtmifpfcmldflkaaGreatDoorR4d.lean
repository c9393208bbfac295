/- Several texts as one: Dkg Dkh Sym Swn Bub Syo Syt Sl Sk Stc Ta Fw Fx Fz Gf Gst Lop LopA LopB Win LopC Sq Sn Ix Sr Gg -/
import Derived.Test.YtmifpfcmldflkaaGreatDoorR4c
import Derived.Test.YtmifpfcmldflkaaGreatDoorR4a
import Derived.Test.YtmifpfcmldflkaaGreatDoorProg
import Derived.Ground.NamesProg
import Derived.Shelf.Small.Bits
import Derived.Shelf.Small.Strs
import Derived.Test.YtmifpfcmldflkaaGreatDoorR4b
import Derived.Deep.LoopGhost
import Derived.StillTailTactics
set_option maxRecDepth 100000
set_option maxHeartbeats 4000000
namespace Go.Proofs.YtmifpfcmldflkaaGreatDoor
open Tryz
open Go.RowKit
theorem cD0 {a b:Int} (h:dI [a,b]=0):a=0/\b=0:=
 ⟨Classical.byContradiction fun hc=>hc (pU h a (by simp)),Classical.byContradiction fun hc=>hc (pU h b (by simp))⟩
theorem bF7 {α:Type} {o:Option α} {x z:α} (h:o.isSome=true) (hx:x=o.getD z):o=some x:=by
 cases o with
 |none=>cases h
 |some y=>rw [hx];rfl
theorem nB (a b:ByteArray):(a.toList==b.toList)=decide (a=b):=by
 rw [Bool.eq_iff_iff,beq_iff_eq,decide_eq_true_eq]
 exact ⟨cR4,fun h=>by rw [h]⟩
theorem cM0 {g x:Int} (h:(if g=0 then x else g)=0):g=0/\x=0:=by
 by_cases h0:g=0
 ·rw [if_pos h0] at h;exact ⟨h0,h⟩
 ·rw [if_neg h0] at h;exact absurd h h0
theorem cM7 (w0:World) (u0 u2 u3 u4 u5 u6 u7 u8 u9 jK jL jM jN jO jP:Value) (go gv gs fT fQ fS fU gC:Nat) (cA:Option Addr) (cn cc:Nat) (cl:List Cs) (V:ByteArray->Option ByteArray) (T:ByteArray->Option Bool) (rv:Value) (rn:Nat) (rx:List Value) (hd: [gv,gs,fT,fQ,fS,fU,gC].Nodup) (ck:Bk->Prop) (fp:ByteArray->Option Int) (σ:Os) (lv:Value) (at_:Int) (k:ByteArray) (n0:Int) (tA nA:Option Addr) (tc nc:Nat) (w:World)  (_hlg:σ.lg.length<=99990) (hso:cM4 σ) (ht:SlT fH 1 9 w tA 1 [k]) (hn:SlT kN 1 3 w nA 1 [n0]) (hm:gM ⟨0,w0,none, [68,9,3]⟩ (fun _=>True) [(go,119, [u0,.slice cA cn cc,u2,u3,u4,u5,u6,u7,u8,u9,jK,jL,jM,jN,jO,jP,.map (some gv),.map (some gs),.map (some fT),lv,.map (some fQ),.map (some fS),.map (some fU),.map (some gC),rv])] [⟨lv,74,5,σ.lg.length,σ.lg.flatMap dP⟩,⟨rv,226,2,rn,rx⟩] [bV vS dN w0.heap.size gv (V),bV vB dN w0.heap.size gs (T),bV qU dN w0.heap.size fT (σ.fs),bV vB nD w0.heap.size fQ (σ.fa),bV qA dN w0.heap.size fS (σ.fb),bV nH dN w0.heap.size fU (σ.fh),bV vI dN w0.heap.size gC (fp),gD 68 σ.fh,bU dV 2 84 w0.heap.size none cA cn cl,TxtO w0.heap.size none,fun wy=>SlT fH 1 9 wy tA 1 [k],fun wy=>SlT kN 1 3 wy nA 1 [n0]] w):
 Calls prog 175 #[.pointer (some ⟨go,0,none⟩),.int .i64 at_,.agg #[.string ⟨#[101,120,116,101,110,100]⟩,.slice tA 1 tc,.slice nA 1 nc]] w (fun e w'=>∃lv' σ' E,e=.returned (.int .i64 E)/\(kU V T ck at_ σ σ'/\fY σ'=rU (fY σ) k n0)/\gM ⟨0,w0,none, [68,9,3]⟩ (fun _=>True) [(go,119, [u0,.slice cA cn cc,u2,u3,u4,u5,u6,u7,u8,u9,jK,jL,jM,jN,jO,jP,.map (some gv),.map (some gs),.map (some fT),lv',.map (some fQ),.map (some fS),.map (some fU),.map (some gC),rv])] [⟨lv',74,5,σ'.lg.length,σ'.lg.flatMap dP⟩,⟨rv,226,2,rn,rx⟩] [bV vS dN w0.heap.size gv (V),bV vB dN w0.heap.size gs (T),bV qU dN w0.heap.size fT (σ'.fs),bV vB nD w0.heap.size fQ (σ'.fa),bV qA dN w0.heap.size fS (σ'.fb),bV nH dN w0.heap.size fU (σ'.fh),bV vI dN w0.heap.size gC (fp),gD 68 σ'.fh,bU dV 2 84 w0.heap.size none cA cn cl,TxtO w0.heap.size none] w'):=by
 refine cV ⟨201,w0,none, [68,9,3]⟩ func175 U ntmps175 U hm.cy (bS ?_)
 obtain ⟨tb,uE,htA,_,_⟩:=ht.get (by decide)
 subst htA
 obtain ⟨nb,xQ,hnA,_,_⟩:=hn.get (by decide)
 subst hnA
 obtain ⟨ish,bS0⟩:∃z,z=(σ.fh k).isSome:=⟨_,rfl⟩
 obtain ⟨xh,hxh⟩:∃z,z=(σ.fh k).getD vV:=⟨_,rfl⟩
 obtain ⟨h0,h1,h2,h3,hA,vE,hc,hl⟩:=xh
 have hol:∀h,σ.fh k=some h->SlT lgEnc 9 68 w h.A h.n h.legs:=fun h=>hm.fact 7 rfl k h
 refine fG U U U fun g1=>bZ U (bR (bS (dW kL U U (eI qJ 0 U U U (bB (bT (j:=0) jY U U (by omega)) U (bB (dL (k:=0) (v:= .string k) fE U (fun _ hm=>(hm.fact 10 U)) (U: [k][0]?=some k) U U) U (bZ U (bR (bS (bP U (bB (bX U) U (dW qV U U (eI zN 1 U U U (bP U (bB (gW (enc:=nH) (ek:=dN) (s:=k) (e:=64) vV kB (by kernel_rfl) (by kernel_rfl) U U (fun _ hm=>(hm.fact 5 U))) U (bP U (bB (cR U U) U (bL 39 (v':= .agg #[.string h0,.string h1,.int .i64 h2,.int .i64 h3,.slice hA vE hc]) U (congrArg nH hxh.symm) (bB (cR U U) U (bL 40 (v':= .bool ish) U (fH5 bS0.symm) (dH bA6 U fun g2=>jX (cs':= [.string h0,.string h1,.int .i64 h2,.int .i64 h3,.slice hA vE hc]) 0 nT U U U U ?_)))))))))))))))))))))
 refine bZ U (bR (bH (bS (bP U (bB (cF U) U (bR ?_))))))
 refine dC U (fun hh=>?_) (fun hh=>?_)
 ·have hz:ish=false:=by simpa using hh
  refine bS (bZ U (bR (bM (bA ?_))))
  have hsm:fY σ=rU (fY σ) k n0:=(cB5 (cP5 (bS0.symm.trans (by simpa using hz)))).symm
  refine bK U U fun wx hm=>?_
  refine ⟨lv,σ,_,U,⟨.same σ,hsm⟩,?_⟩
  exact (hm.pick [2] [0,1] [0,1,2,3,4,5,6,7,8,9] U U).cy
 have hz:ish=true:=by simpa using hh
 refine bN (bD (bS ?_))
 have hz1:ish=true:=by simpa using hz
 have hfk:=bF7 (bS0.symm.trans hz1) hxh
 obtain ⟨hrk,hnp,hn20,hll⟩:=hso.hi k _ hfk
 dsimp only at hrk hnp hn20 hll
 have hot:=hol _ hfk
 dsimp only at hot
 obtain ⟨hb,hof,hA1,_,_⟩:=hot.get hnp
 subst hA1
 obtain ⟨pZ,hg⟩:∃z,hl[vE - 1]?=some z:=⟨_,fJ5 (by omega)⟩
 have hlv:bY0 hl=pZ.veh:=by unfold bY0;rw [hll,hg];rfl
 have hAB:rU (fY σ) k n0=cD5 (fY σ) k (⟨h0,h1,h2,h3,hl⟩:Hr) n0:=cC5 (cQ5 hfk) hlv
 refine zE (γ:=Unit) (fun _ wy=>SlT lgEnc 9 68 wy (some ⟨hb,hof,none⟩) vE hl) (fun w hm=>⟨(),(hm.fact 7 U:gD 68 σ.fh w) k _ hfk⟩) (fun _=>SlT.lasts2 U) fun _=>?_
 obtain ⟨HE,hHE⟩:∃z,z=bR4 (⟨h0,h1,h2,h3,hl⟩:Hr) n0:=⟨_,rfl⟩
 obtain ⟨xq,hxq⟩:∃z,z=bU3 HE ⟨h0,h1,h2,n0,hl⟩:=⟨_,rfl⟩
 obtain ⟨k5,d5,f5,t5,l5⟩:=xq
 refine dH bA6 U fun g3=>bR (bS (bZ U (bR (bS (bZ U (bR (bS (bZ U (bR ?_)))))))))
 refine pC (γ:=Option Addr×Nat×Nat) (I:=(fun (gq:Option Addr×Nat×Nat)=>l5.length=gq.2.1)) (S':=(fun (gq:Option Addr×Nat×Nat)=> [(0,.pointer (some ⟨go,0,none⟩)),(6,.int .i64 0),(7,.string k),(10,.pointer (some ⟨g3,0,none⟩)),(11,.int .i64 HE),(12,.slice none 0 0),(13,.bool true)])) (K':=(fun (gq:Option Addr×Nat×Nat)=>fun _=>True)) (L':=(fun (gq:Option Addr×Nat×Nat)=> [(g3,64, [.string k5,.string d5,.int .i64 f5,.int .i64 t5,.slice gq.1 gq.2.1 gq.2.2]),(go,119, [u0,.slice cA cn cc,u2,u3,u4,u5,u6,u7,u8,u9,jK,jL,jM,jN,jO,jP,.map (some gv),.map (some gs),.map (some fT),lv,.map (some fQ),.map (some fS),.map (some fU),.map (some gC),rv])])) (O':=(fun (gq:Option Addr×Nat×Nat)=> [⟨lv,74,5,σ.lg.length,σ.lg.flatMap dP⟩,⟨rv,226,2,rn,rx⟩])) (X':=(fun (gq:Option Addr×Nat×Nat)=> [fun wy=>SlT lgEnc 9 68 wy gq.1 gq.2.1 l5,fun wy=>SlT lgEnc 9 68 wy (some ⟨hb,hof,none⟩) vE hl,bV vS dN w0.heap.size gv (V),bV vB dN w0.heap.size gs (T),bV qU dN w0.heap.size fT (σ.fs),bV vB nD w0.heap.size fQ (σ.fa),bV qA dN w0.heap.size fS (σ.fb),bV nH dN w0.heap.size fU (σ.fh),bV vI dN w0.heap.size gC (fp),gD 68 σ.fh,bU dV 2 84 w0.heap.size none cA cn cl,TxtO w0.heap.size none,fun wy=>SlT fH 1 9 wy (some ⟨tb,uE,none⟩) 1 [k],fun wy=>SlT kN 1 3 wy (some ⟨nb,xQ,none⟩) 1 [n0]])) ?_ ?_
 ·refine bS (dW vY U U (eI cJ1 1 U U U (dW vY U U (eI cJ1 1 U U U (bB (dT cK2 U) U ?_)))))
  refine bB (ov_sub U U (by omega) (by omega)) U (bL 48 (v':= .int .i64 ((vE - 1:Nat):Int)) U (fI5 (by omega)) (bB (bT (j:=vE - 1) cK2 U U (by omega)) U (dW cO5 U U (bB (dL (k:=0) (v:= .string pZ.veh) fE U (fun _ hm=>(hm.fact 0 U)) hg U U) U (bZ U (bR (bS (dW mE U U (eI fE 2 U U U (bR (bO (bS (bB (eR U U) U (bL 120 (v':= .bool true) U (fH5 (by rw [nB];decide)) (bZ U (bR (kQ U (gd (fun wz=>Blk wz g2 64 [.string h0,.string h1,.int .i64 h2,.int .i64 h3,.slice (some ⟨hb,hof,none⟩) vE hc]/\Blk wz g1 271 [.string ⟨#[101,120,116,101,110,100]⟩,.slice (some ⟨tb,uE,none⟩) 1 tc,.slice (some ⟨nb,xQ,none⟩) 1 nc]/\(fun wy=>SlT kN 1 3 wy (some ⟨nb,xQ,none⟩) 1 [n0]) wz/\True) mixed (fun _ hm=>⟨hm.bl 1,hm.bl 2,hm.fa 12,trivial⟩) fun z=>wq 0 U (cX nT U (fun _ hm=>hm.1) U U) (wq 1 U (bQ nJ U U) (wq 2 U (cN mB U (fun _ hm=>hm.2.1) U) (wq 3 U (bT (j:=0) pE U U (by omega)) (wq 4 U (dL (k:=0) (v:= .int .i64 n0) fF U (fun _ hm=>(hm.2.2.1)) (U: [n0][0]?=some n0) U U) (eC 5 U ?_)))))))))))))))))))))))
  refine jC (γ:=Option Addr×Nat×Nat) (val:=(fun g=> .tuple #[.agg #[.string k5,.string d5,.int .i64 f5,.int .i64 t5,.slice g.1 g.2.1 g.2.2],.int .i64 HE])) (φ:=(fun g=>l5.length=g.2.1)) (Y:=(fun g=>fun wy=>SlT lgEnc 9 68 wy g.1 g.2.1 l5)) U fT0 U U (fun wx hm=>(eS2 h0 h1 h2 h3 hl (some ⟨hb,hof,none⟩) vE hc n0 wx (hm.fact 0 U) hrk (by omega)).mono fun _ _ ⟨A,n,c,he,hg,hs⟩=>⟨(A,n,c),by rw [<-hHE,<-hxq] at he;exact he,by rw [<-hHE,<-hxq] at hs;exact hs.len,hg,by rw [<-hHE,<-hxq] at hs;exact hs⟩) (fun _=>SlT.lasts2 U) ?_
  rintro ⟨A5,n5,c5⟩ hln
  dsimp only at hln ⊢
  refine bE (nw 11 63 (fun _ hm=>⟨hm.bl 1,hm.bl 2,hm.fa 13,trivial⟩) fun z=>wq 6 U (bJ U) (wq 7 U (cR U U) (wq 8 U (cR U U) (eC 9 U (jX (cs':= [.string k5,.string d5,.int .i64 f5,.int .i64 t5,.slice A5 n5 c5]) 0 nT U U U U (bE (nw 11 1023 (fun _ hm=>⟨hm.bl 1,hm.bl 2,hm.fa 13,trivial⟩) fun z=>wq 10 U (cU U) (jH (bG ?_)))))))))
  exact fK (A5,n5,c5) hln ⟨U,U,U,U,U,U,U,trivial⟩ (fun _ hm=>hm.pick [0,3] [0,1] [0,1,2,3,4,5,6,7,8,9,10,11,12,13] U U)
 rintro ⟨A5,n5,c5⟩ cC
 replace cC:l5.length=n5:=cC
 dsimp only
 refine bH (bS (bP U (bP U (bB (cF U) U (bL 165 (v':= .bool false) U (fH5 (by decide)) (dA U qK U U (fun wx hm=>(eE _ _ wx)) (jF 48 [.int .i64 HE,.int .i64 (dK false 8)] fun g4=>dA U wJ U U (fun wx hm=>(fJ [HE,dK false 8] _ _ _ wx (hm.blkI 0 U) (by simp))) (bZ U (bR (bS (bP U (bB (gX U U) U (bR ?_)))))))))))))
 refine gI U (fun hy=>?_) (fun hy=>?_)
 ·refine bS (bP U (bZ U (bR ?_)))
  refine bM (bA ?_)
  have hyx:¬dI [HE,dK (!true) 8]=0:=by simpa using hy
  have hsm:fY σ=rU (fY σ) k n0:=by
   rw [hAB]
   exact (pO fun q1=>hyx (by rw [hHE.trans q1];rfl)).symm
  refine bK U U fun wx hm=>?_
  refine ⟨lv,σ,_,U,⟨.same σ,hsm⟩,?_⟩
  exact (hm.pick [2] [0,1] [2,3,4,5,6,7,8,9,10,11] U U).cy
 refine bN (bD (bH (bS ?_)))
 have hy0:dI [HE,dK (!true) 8]=0:=by simpa using hy
 obtain ⟨hz0,hz9⟩:=cD0 hy0
 have hq0:bU3 HE ⟨h0,h1,h2,n0,hl⟩=⟨h0,h1,h2,n0,hl⟩:=bT0 hz0
 have hx9:=hq0.symm.trans hxq.symm
 injection hx9 with q1 q2 q3 q4 q5
 subst q1 q2 q3 q4 q5
 have hEz:=hHE.symm.trans hz0
 rw [hHE] at hz0
 obtain ⟨hgo,hE5⟩:=cM0 hz0
 have hle:=hireE_legs hE5
 dsimp only at hle
 refine bP U (bB (dT kE U) U (bL 173 (v':= .int .i64 0) U U (bP U (bR (bO (eZ 1 (eB (bS (bB (dD U U) U (bL 175 (v':= .bool false) U (fH5 (by decide)) (bR (bH (jU U (dE (bF (bF (bY (bD (bH (bS (bP U (bB (dT kE U) U (bL 186 (v':= .int .i64 0) U U (bP U (bR (bO (eZ 1 (eB ?_))))))))))))))))))))))))))))
 refine bS (bB (dD U U) U (bL 188 (v':= .bool false) U (fH5 (by decide)) (bR (bH (jU U (dE (bF (bF (bY (bD (bH (gd (fun wz=>Blk wz g3 64 [.string h0,.string h1,.int .i64 h2,.int .i64 n0,.slice A5 n5 c5]/\Blk wz go 119 [u0,.slice cA cn cc,u2,u3,u4,u5,u6,u7,u8,u9,jK,jL,jM,jN,jO,jP,.map (some gv),.map (some gs),.map (some fT),lv,.map (some fQ),.map (some fS),.map (some fU),.map (some gC),rv]/\True) mixed (fun _ hm=>⟨hm.bl 1,hm.bl 2,trivial⟩) fun z=>wq 0 U (bJ U) (wq 1 U (bX U) (wq 2 U (bQ qV U U) (wq 3 U (cN zN U (fun _ hm=>hm.2.1) U) (wq 4 U (bJ U) (wq 5 U (cX nT U (fun _ hm=>hm.1) U U) (eC 6 U (kO (enc:=nH) (ek:=dN) (s:=k) (v:=(⟨h0,h1,h2,n0,A5,n5,c5,hl⟩:Hg)) (e:=64) (X':= [fun wy=>SlT lgEnc 9 68 wy A5 n5 hl,fun wy=>SlT lgEnc 9 68 wy (some ⟨hb,hof,none⟩) vE hl,bV vS dN w0.heap.size gv (V),bV vB dN w0.heap.size gs (T),bV qU dN w0.heap.size fT (σ.fs),bV vB nD w0.heap.size fQ (σ.fa),bV qA dN w0.heap.size fS (σ.fb),bV vI dN w0.heap.size gC (fp),gD 68 σ.fh,bU dV 2 84 w0.heap.size none cA cn cl,TxtO w0.heap.size none,fun wy=>SlT fH 1 9 wy (some ⟨tb,uE,none⟩) 1 [k],fun wy=>SlT kN 1 3 wy (some ⟨nb,xQ,none⟩) 1 [n0]]) 7 kB (by kernel_rfl) U U U U (cP (i:=0) (SlT.mfar).far U (cP (i:=1) (SlT.mfar).far U (cP (i:=2) (bV.farK (gS hd (i:=0) (j:=5) U U (by decide))) U (cP (i:=3) (bV.farK (gS hd (i:=1) (j:=5) U U (by decide))) U (cP (i:=4) (bV.farK (gS hd (i:=2) (j:=5) U U (by decide))) U (cP (i:=5) (bV.farK (gS hd (i:=3) (j:=5) U U (by decide))) U (cP (i:=6) (bV.farK (gS hd (i:=4) (j:=5) U U (by decide))) U (cP (i:=8) (bV.farK (gS hd (i:=6) (j:=5) U U (by decide))) U (cP (i:=9) (gD.mfar).far U (cP (i:=10) (bU.mfar).far U (cP (i:=11) (TxtO.mfar).far U (cP (i:=12) SlT.mfar.far U (cP (i:=13) SlT.mfar.far U fZ))))))))))))) (bE (nw 7 127 (fun _ hm=>⟨hm.bl 1,hm.bl 2,trivial⟩) fun z=>jH (bD (bS (bZ U (bR (bM ?_))))))))))))))))))))))))))
 have hab:fY ({ σ with fh:=fP σ.fh k (⟨h0,h1,h2,n0,A5,n5,c5,hl⟩:Hg) }:Os)=rU (fY σ) k n0:=by
  rw [hAB]
  refine Eq.trans ?_ (yK hEz).symm
  show (⟨_,_,_,fun j=>(fP σ.fh k (⟨h0,h1,h2,n0,A5,n5,c5,hl⟩:Hg) j).map hrG,_⟩:As)=_
  rw [cN4];rfl
 refine bK U U fun wx hm=>?_
 refine ⟨lv,_,0,U,⟨.extend σ k (⟨h0,h1,h2,h3,(some ⟨hb,hof,none⟩),vE,hc,hl⟩:Hg) (⟨h0,h1,h2,n0,A5,n5,c5,hl⟩:Hg) hfk ⟨⟨hrk.1,hrk.2.1,hrk.2.2⟩,by dsimp only;omega,by dsimp only;omega,by dsimp only;omega⟩ hE5 U U,hab⟩,?_⟩
 have hput:=gD.put (k:=k) (h:=(⟨h0,h1,h2,n0,A5,n5,c5,hl⟩:Hg)) (hm.fact 9 rfl) (hm.fact 1 rfl)
 have hm:=hm.also (gD.lasts2 rfl) hput
 exact (hm.pick [2] [0,1] [4,5,6,7,8,1,9,0,11,12] U U).cy
theorem cZ9 (w0:World) (u0 u2 u3 u4 u5 u6 u7 u8 u9 jK jL jM jN jO jP:Value) (go gv gs fT fQ fS fU gC:Nat) (cA:Option Addr) (cn cc:Nat) (cl:List Cs) (V:ByteArray->Option ByteArray) (T:ByteArray->Option Bool) (rv:Value) (rn:Nat) (rx:List Value) (hd: [gv,gs,fT,fQ,fS,fU,gC].Nodup) (ck:Bk->Prop) (fp:ByteArray->Option Int) (σ:Os) (lv:Value) (at_:Int) (k st:ByteArray) (n0 n1:Int) (tA nA:Option Addr) (tc nc:Nat) (w:World) (hs:st.size<=1000000) (hlg0:σ.lg.length<=99990) (hso:cM4 σ) (ht:SlT fH 1 9 w tA 2 [k,st]) (hn:SlT kN 1 3 w nA 2 [n0,n1]) (hm:gM ⟨0,w0,none, [68,9,3]⟩ (fun _=>True) [(go,119, [u0,.slice cA cn cc,u2,u3,u4,u5,u6,u7,u8,u9,jK,jL,jM,jN,jO,jP,.map (some gv),.map (some gs),.map (some fT),lv,.map (some fQ),.map (some fS),.map (some fU),.map (some gC),rv])] [⟨lv,74,5,σ.lg.length,σ.lg.flatMap dP⟩,⟨rv,226,2,rn,rx⟩] [bV vS dN w0.heap.size gv (V),bV vB dN w0.heap.size gs (T),bV qU dN w0.heap.size fT (σ.fs),bV vB nD w0.heap.size fQ (σ.fa),bV qA dN w0.heap.size fS (σ.fb),bV nH dN w0.heap.size fU (σ.fh),bV vI dN w0.heap.size gC (fp),gD 68 σ.fh,bU dV 2 84 w0.heap.size none cA cn cl,TxtO w0.heap.size none,fun wy=>SlT fH 1 9 wy tA 2 [k,st],fun wy=>SlT kN 1 3 wy nA 2 [n0,n1]] w):
 Calls prog 175 #[.pointer (some ⟨go,0,none⟩),.int .i64 at_,.agg #[.string ⟨#[99,108,111,115,101]⟩,.slice tA 2 tc,.slice nA 2 nc]] w (fun e w'=>∃lv' σ' E,e=.returned (.int .i64 E)/\(kU V T ck at_ σ σ'/\fY σ'=uZ T at_ (fY σ) k st n0 n1)/\gM ⟨0,w0,none, [68,9,3]⟩ (fun _=>True) [(go,119, [u0,.slice cA cn cc,u2,u3,u4,u5,u6,u7,u8,u9,jK,jL,jM,jN,jO,jP,.map (some gv),.map (some gs),.map (some fT),lv',.map (some fQ),.map (some fS),.map (some fU),.map (some gC),rv])] [⟨lv',74,5,σ'.lg.length,σ'.lg.flatMap dP⟩,⟨rv,226,2,rn,rx⟩] [bV vS dN w0.heap.size gv (V),bV vB dN w0.heap.size gs (T),bV qU dN w0.heap.size fT (σ'.fs),bV vB nD w0.heap.size fQ (σ'.fa),bV qA dN w0.heap.size fS (σ'.fb),bV nH dN w0.heap.size fU (σ'.fh),bV vI dN w0.heap.size gC (fp),gD 68 σ'.fh,bU dV 2 84 w0.heap.size none cA cn cl,TxtO w0.heap.size none] w'):=by
 have hlg:σ.lg.length<=100000:=by omega
 refine cV ⟨201,w0,none, [68,9,3]⟩ func175 U ntmps175 U hm.cy (bS ?_)
 obtain ⟨tb,uE,htA,_,_⟩:=ht.get (by decide)
 subst htA
 obtain ⟨nb,xQ,hnA,_,_⟩:=hn.get (by decide)
 subst hnA
 obtain ⟨ish,bS0⟩:∃z,z=(σ.fh k).isSome:=⟨_,rfl⟩
 obtain ⟨xh,hxh⟩:∃z,z=(σ.fh k).getD vV:=⟨_,rfl⟩
 obtain ⟨h0,h1,h2,h3,hA,vE,hc,hl⟩:=xh
 have hol:∀h,σ.fh k=some h->SlT lgEnc 9 68 w h.A h.n h.legs:=fun h=>hm.fact 7 rfl k h
 refine fG U U U fun g1=>bZ U (bR (bS (dW kL U U (eI qJ 0 U U U (bB (bT (j:=0) jY U U (by omega)) U (bB (dL (k:=0) (v:= .string k) fE U (fun _ hm=>(hm.fact 10 U)) (U: [k,st][0]?=some k) U U) U (bZ U (bR (bS (bP U (bB (bX U) U (dW qV U U (eI zN 1 U U U (bP U (bB (gW (enc:=nH) (ek:=dN) (s:=k) (e:=64) vV kB (by kernel_rfl) (by kernel_rfl) U U (fun _ hm=>(hm.fact 5 U))) U (bP U (bB (cR U U) U (bL 39 (v':= .agg #[.string h0,.string h1,.int .i64 h2,.int .i64 h3,.slice hA vE hc]) U (congrArg nH hxh.symm) (bB (cR U U) U (bL 40 (v':= .bool ish) U (fH5 bS0.symm) (dH bA6 U fun g2=>jX (cs':= [.string h0,.string h1,.int .i64 h2,.int .i64 h3,.slice hA vE hc]) 0 nT U U U U ?_)))))))))))))))))))))
 refine bZ U (bR (bH (bS (bP U (bB (cF U) U (bR ?_))))))
 refine dC U (fun hh=>?_) (fun hh=>?_)
 ·have hz:ish=false:=by simpa using hh
  refine bS (bZ U (bR (bM (bA ?_))))
  have hsm:fY σ=uZ T at_ (fY σ) k st n0 n1:=(cG7 (cP5 (bS0.symm.trans (by simpa using hz)))).symm
  refine bK U U fun wx hm=>?_
  refine ⟨lv,σ,_,U,⟨.same σ,hsm⟩,?_⟩
  exact (hm.pick [2] [0,1] [0,1,2,3,4,5,6,7,8,9] U U).cy
 have hz:ish=true:=by simpa using hh
 refine bN (bD (bS ?_))
 have hz1:ish=true:=by simpa using hz
 have hfk:=bF7 (bS0.symm.trans hz1) hxh
 obtain ⟨hrk,hnp,hn20,hll⟩:=hso.hi k _ hfk
 dsimp only at hrk hnp hn20 hll
 have hot:=hol _ hfk
 dsimp only at hot
 obtain ⟨hb,hof,hA1,_,_⟩:=hot.get hnp
 subst hA1
 obtain ⟨pZ,hg⟩:∃z,hl[vE - 1]?=some z:=⟨_,fJ5 (by omega)⟩
 have hlv:bY0 hl=pZ.veh:=by unfold bY0;rw [hll,hg];rfl
 have hAB:uZ T at_ (fY σ) k st n0 n1=cY9 T at_ (fY σ) k (⟨h0,h1,h2,h3,hl⟩:Hr) pZ.veh st n0 n1:=cH7 (cQ5 hfk) hlv
 refine zE (γ:=Unit) (fun _ wy=>SlT lgEnc 9 68 wy (some ⟨hb,hof,none⟩) vE hl) (fun w hm=>⟨(),(hm.fact 7 U:gD 68 σ.fh w) k _ hfk⟩) (fun _=>SlT.lasts2 U) fun _=>?_
 obtain ⟨HE,hHE⟩:∃z,z=closeE (⟨h0,h1,h2,h3,hl⟩:Hr) (⟨at_,st,n0,n1⟩:Rd):=⟨_,rfl⟩
 obtain ⟨xq,hxq⟩:∃z,z=bU3 HE ⟨h0,h1,h2,h3,endLegs hl (⟨at_,st,n0,n1⟩:Rd)⟩:=⟨_,rfl⟩
 obtain ⟨k5,d5,f5,t5,l5⟩:=xq
 obtain ⟨ist,bQ2⟩:∃z,z=(T st).getD false:=⟨_,rfl⟩
 obtain ⟨C0,hC0⟩:∃z,z=cT4 σ (eQ at_ pZ.veh st):=⟨_,rfl⟩
 refine dH bA6 U fun g3=>bR (bS (bZ U (bR (bS (bZ U (bR (bS (bZ U (bR ?_)))))))))
 refine pC (γ:=Option Addr×Nat×Nat×Nat) (I:=(fun (gq:Option Addr×Nat×Nat×Nat)=>l5.length=gq.2.1)) (S':=(fun (gq:Option Addr×Nat×Nat×Nat)=> [(0,.pointer (some ⟨go,0,none⟩)),(6,.int .i64 0),(7,.string k),(10,.pointer (some ⟨g3,0,none⟩)),(11,.int .i64 HE),(12,.slice (some ⟨gq.2.2.2,0,none⟩) 1 1),(13,.bool ist)])) (K':=(fun (gq:Option Addr×Nat×Nat×Nat)=>fun _=>True)) (L':=(fun (gq:Option Addr×Nat×Nat×Nat)=> [(g3,64, [.string k5,.string d5,.int .i64 f5,.int .i64 t5,.slice gq.1 gq.2.1 gq.2.2.1]),(gq.2.2.2,74, [.int .i64 at_,.string pZ.veh,.string st,.int .i64 3,.string ⟨#[]⟩]),(go,119, [u0,.slice cA cn cc,u2,u3,u4,u5,u6,u7,u8,u9,jK,jL,jM,jN,jO,jP,.map (some gv),.map (some gs),.map (some fT),lv,.map (some fQ),.map (some fS),.map (some fU),.map (some gC),rv])])) (O':=(fun (gq:Option Addr×Nat×Nat×Nat)=> [⟨lv,74,5,σ.lg.length,σ.lg.flatMap dP⟩,⟨rv,226,2,rn,rx⟩])) (X':=(fun (gq:Option Addr×Nat×Nat×Nat)=> [fun wy=>SlT lgEnc 9 68 wy gq.1 gq.2.1 l5,fun wy=>SlT lgEnc 9 68 wy (some ⟨hb,hof,none⟩) vE hl,bV vS dN w0.heap.size gv (V),bV vB dN w0.heap.size gs (T),bV qU dN w0.heap.size fT (σ.fs),bV vB nD w0.heap.size fQ (σ.fa),bV qA dN w0.heap.size fS (σ.fb),bV nH dN w0.heap.size fU (σ.fh),bV vI dN w0.heap.size gC (fp),gD 68 σ.fh,bU dV 2 84 w0.heap.size none cA cn cl,TxtO w0.heap.size none,fun wy=>SlT fH 1 9 wy (some ⟨tb,uE,none⟩) 2 [k,st],fun wy=>SlT kN 1 3 wy (some ⟨nb,xQ,none⟩) 2 [n0,n1]])) ?_ ?_
 ·refine bS (dW vY U U (eI cJ1 1 U U U (dW vY U U (eI cJ1 1 U U U (bB (dT cK2 U) U ?_)))))
  refine bB (ov_sub U U (by omega) (by omega)) U (bL 48 (v':= .int .i64 ((vE - 1:Nat):Int)) U (fI5 (by omega)) (bB (bT (j:=vE - 1) cK2 U U (by omega)) U (dW cO5 U U (bB (dL (k:=0) (v:= .string pZ.veh) fE U (fun _ hm=>(hm.fact 0 U)) hg U U) U (bZ U (bR (bS (dW mE U U (eI fE 2 U U U (bR (bO (bS (bB (eR U U) U (bL 120 (v':= .bool false) U (fH5 (by rw [nB];decide)) (bZ U (bR (jU U (bS (bB (eR U U) U (bL 131 (v':= .bool true) U (fH5 (by rw [nB];decide)) (bZ U (bR (kQ U (bS (dW kL U U (eI qJ 2 U U U (bB (bT (j:=1) jY U U (by omega)) U (bB (dL (k:=0) (v:= .string st) fE U (fun _ hm=>(hm.fact 11 U)) (U: [k,st][1]?=some st) U U) U ?_))))))))))))))))))))))))))))
  refine bZ U (bR (bH (gd (fun wz=>Blk wz g2 64 [.string h0,.string h1,.int .i64 h2,.int .i64 h3,.slice (some ⟨hb,hof,none⟩) vE hc]/\Blk wz g1 271 [.string ⟨#[99,108,111,115,101]⟩,.slice (some ⟨tb,uE,none⟩) 2 tc,.slice (some ⟨nb,xQ,none⟩) 2 nc]/\(fun wy=>SlT kN 1 3 wy (some ⟨nb,xQ,none⟩) 2 [n0,n1]) wz/\True) mixed (fun _ hm=>⟨hm.bl 1,hm.bl 2,hm.fa 12,trivial⟩) fun z=>wq 0 U (cX nT U (fun _ hm=>hm.1) U U) (wq 1 U (bJ U) (wq 2 U (bJ U) (wq 3 U (bQ nJ U U) (wq 4 U (cN mB U (fun _ hm=>hm.2.1) U) (wq 5 U (bT (j:=0) pE U U (by omega)) (wq 6 U (dL (k:=0) (v:= .int .i64 n0) fF U (fun _ hm=>(hm.2.2.1)) (U: [n0,n1][0]?=some n0) U U) (wq 7 U (bQ nJ U U) (wq 8 U (cN mB U (fun _ hm=>hm.2.1) U) (wq 9 U (bT (j:=1) pE U U (by omega)) (wq 10 U (dL (k:=0) (v:= .int .i64 n1) fF U (fun _ hm=>(hm.2.2.1)) (U: [n0,n1][1]?=some n1) U U) (wq 11 U (dJ (cs:= [.int .i64 at_,.string st,.int .i64 n0,.int .i64 n1]) U (by kernel_rfl)) (eC 12 U ?_)))))))))))))))
  refine jC (γ:=Option Addr×Nat×Nat) (val:=(fun g=> .tuple #[.agg #[.string k5,.string d5,.int .i64 f5,.int .i64 t5,.slice g.1 g.2.1 g.2.2],.int .i64 HE])) (φ:=(fun g=>l5.length=g.2.1)) (Y:=(fun g=>fun wy=>SlT lgEnc 9 68 wy g.1 g.2.1 l5)) U fU0 U U (fun wx hm=>(eN6 h0 h1 h2 h3 hl (some ⟨hb,hof,none⟩) vE hc (⟨at_,st,n0,n1⟩:Rd) wx (hm.fact 0 U) hrk hs (by omega)).mono fun _ _ ⟨A,n,c,he,hg,hs⟩=>⟨(A,n,c),by rw [<-hHE,<-hxq] at he;exact he,by rw [<-hHE,<-hxq] at hs;exact hs.len,hg,by rw [<-hHE,<-hxq] at hs;exact hs⟩) (fun _=>SlT.lasts2 U) ?_
  rintro ⟨A5,n5,c5⟩ hln
  dsimp only at hln ⊢
  refine bE (nw 18 8191 (fun _ hm=>⟨hm.bl 1,hm.bl 2,hm.fa 13,trivial⟩) fun z=>wq 13 U (bJ U) (wq 14 U (cR U U) (wq 15 U (cR U U) (eC 16 U (jX (cs':= [.string k5,.string d5,.int .i64 f5,.int .i64 t5,.slice A5 n5 c5]) 0 nT U U U U (bE (nw 18 131071 (fun _ hm=>⟨hm.bl 1,hm.bl 2,hm.fa 13,trivial⟩) fun z=>wq 17 U (cU U) (jH (bD (bS (bP U (bB (bX U) U (dW yB U U (eI cI1 3 U U U (bP U (bB (kV (enc:=vB) (ek:=dN) (s:=st) (e:=4) false kB (by kernel_rfl) (by kernel_rfl) U U (fun _ hm=>(hm.fact 3 U))) U (bL 157 (v':= .bool ist) U (fH5 bQ2.symm) (bZ U (bR (bI (bP U (bP U (bP U (bB (dJ (cs:= [.int .i64 at_,.string pZ.veh,.string st,.int .i64 3,.string ⟨#[]⟩]) U (by kernel_rfl)) U (jF 74 [.int .i64 at_,.string pZ.veh,.string st,.int .i64 3,.string ⟨#[]⟩] fun g4=>?_)))))))))))))))))))))))))
  refine bZ U (bE (bG ?_))
  exact fK (A5,n5,c5,g4) hln ⟨U,U,U,U,U,U,U,trivial⟩ (fun _ hm=>hm.pick [1,0,4] [0,1] [0,1,2,3,4,5,6,7,8,9,10,11,12,13] U U)
 rintro ⟨A5,n5,c5,gE⟩ cC
 replace cC:l5.length=n5:=cC
 dsimp only
 refine bH (bS (bP U (bP U (bB (cF U) U (dA U qK U U (fun wx hm=>(eE _ _ wx)) (jF 48 [.int .i64 HE,.int .i64 (dK (!ist) 8)] fun g5=>dA U wJ U U (fun wx hm=>(fJ [HE,dK (!ist) 8] _ _ _ wx (hm.blkI 0 U) (by simp))) (bZ U (bR (bS (bP U (bB (gX U U) U (bR ?_))))))))))))
 refine gI U (fun hy=>?_) (fun hy=>?_)
 ·refine bS (bP U (bZ U (bR ?_)))
  refine bM (bA ?_)
  have hyx:¬dI [HE,dK (!ist) 8]=0:=by simpa using hy
  have hsm:fY σ=uZ T at_ (fY σ) k st n0 n1:=by
   rw [hAB]
   exact (pO fun ⟨q1,q2,_⟩=>hyx (by rw [hHE.trans q1,bQ2.trans q2];rfl)).symm
  refine bK U U fun wx hm=>?_
  refine ⟨lv,σ,_,U,⟨.same σ,hsm⟩,?_⟩
  exact (hm.pick [3] [0,1] [2,3,4,5,6,7,8,9,10,11] U U).cy
 refine bN (bD (bH (bS ?_)))
 have hy0:dI [HE,dK (!ist) 8]=0:=by simpa using hy
 obtain ⟨hz0,hz9⟩:=cD0 hy0
 have hq0:bU3 HE ⟨h0,h1,h2,h3,endLegs hl (⟨at_,st,n0,n1⟩:Rd)⟩=⟨h0,h1,h2,h3,endLegs hl (⟨at_,st,n0,n1⟩:Rd)⟩:=bT0 hz0
 have hx9:=hq0.symm.trans hxq.symm
 injection hx9 with q1 q2 q3 q4 q5
 subst q1 q2 q3 q4 q5
 have hEz:=hHE.symm.trans hz0
 rw [hHE] at hz0
 obtain ⟨hgo,hE5⟩:=cM0 hz0
 have hle:=hireE_legs hE5
 dsimp only at hle
 have hT:(T st).getD false=true:=by
  have:=rG (by decide) hz9
  rw [<-bQ2];simpa using this
 have hopen:=(goingE_ok hgo).2
 refine bP U (bB (dT kE U) U (bL 173 (v':= .int .i64 1) U U (bP U (bR (bO (eZ 2 (eB (bS (bB (dD U U) U (bL 175 (v':= .bool true) U (fH5 (by decide)) (bR (bH (kQ U (bN (bD (bH (bO (bS (bB (bT (j:=0) kE U U (by decide)) U (bB (cX fR U (fun _ hm=>hm.blkI 2 U) U U) U (dH cW1 U fun g6=>jX (cs':= [.int .i64 at_,.string pZ.veh,.string st,.int .i64 3,.string ⟨#[]⟩]) 0 fR U U U U (bR (bS (bP U (bB (cX fR U (fun _ hm=>hm.blkI 0 U) U U) U (cL (v:= .int .i64 C0) U bE0 U U (fun wx hm=>(by rw [hC0];exact (rR σ u0 u2 u3 u4 u5 u6 u7 u8 u9 jK jL jM jN jO jP go gv gs fT fQ fS fU gC cA cn cc lv rv at_ pZ.veh st 3 ⟨#[]⟩ _ wx (hm.blkI 4 rfl) (hm.fact 4 rfl) (hm.fact 5 rfl)))) ?_))))))))))))))))))))))))))
 refine bZ U (bR (bS (bP U (bB (gX U U) U (bR ?_)))))
 refine gI U (fun hc0=>?_) (fun hc0=>?_)
 ·refine bS (bP U (bZ U (bR ?_)))
  refine bM (bC (bA (bA (bC (bA ?_)))))
  have hcx:¬C0=0:=by simpa using hc0
  have hsm:fY σ=uZ T at_ (fY σ) k st n0 n1:=by
   rw [hAB]
   exact (pO fun ⟨_,_,qq⟩=>hcx (hC0.trans (qO.2 (bD0.1 qq)))).symm
  refine bK U U fun wx hm=>?_
  refine ⟨lv,σ,_,U,⟨.same σ,hsm⟩,?_⟩
  exact (hm.pick [4] [0,1] [2,3,4,5,6,7,8,9,10,11] U U).cy
 refine bN (bG (bD (bI ?_)))
 have hcan0:bM2 σ (eQ at_ pZ.veh st):=qO.1 (hC0.symm.trans (by simpa using hc0))
 refine gN U U (bL 184 (v':= .int .i64 1) U U (bP U (bE (hW (eB (bS (bB (dD U U) U (bL 175 (v':= .bool false) U (fH5 (by decide)) (bR (bH (jU U (dE (bF (bF (bY (bD (bH (bS (bP U (bB (dT kE U) U (bL 186 (v':= .int .i64 1) U U (bP U (bR (bO (eZ 2 (eB (bS (bB (dD U U) U (bL 188 (v':= .bool true) U (fH5 (by decide)) ?_)))))))))))))))))))))))))))))
 refine bR (bH (kQ U (bN (bD (bH (bO (bS (bB (bT (j:=0) kE U U (by decide)) U (bB (cX fR U (fun _ hm=>hm.blkI 3 U) U U) U (dH cW1 U fun g7=>jX (cs':= [.int .i64 at_,.string pZ.veh,.string st,.int .i64 3,.string ⟨#[]⟩]) 0 fR U U U U (bR (bI (bP U (bB (cX fR U (fun _ hm=>hm.blkI 0 U) U U) U ?_))))))))))))))
 refine fO (γ:=Value) (val:=fun _=> .tuple #[]) (φ:=fun _=>True) (K':=fun _=>fun _=>True) (L':=fun qM=> [(go,119, [u0,.slice cA cn cc,u2,u3,u4,u5,u6,u7,u8,u9,jK,jL,jM,jN,jO,jP,.map (some gv),.map (some gs),.map (some fT),qM,.map (some fQ),.map (some fS),.map (some fU),.map (some gC),rv]),(g3,64, [.string h0,.string h1,.int .i64 h2,.int .i64 h3,.slice A5 n5 c5]),(gE,74, [.int .i64 at_,.string pZ.veh,.string st,.int .i64 3,.string ⟨#[]⟩])]) (O':=fun qM=> [⟨qM,74,5,(gL σ (eQ at_ pZ.veh st)).lg.length,(gL σ (eQ at_ pZ.veh st)).lg.flatMap dP⟩,⟨rv,226,2,rn,rx⟩]) (X':=fun _=> [bV vS dN w0.heap.size gv (V),bV vB dN w0.heap.size gs (T),bV qU dN w0.heap.size fT ((gL σ (eQ at_ pZ.veh st)).fs),bV vB nD w0.heap.size fQ ((gL σ (eQ at_ pZ.veh st)).fa),bV qA dN w0.heap.size fS ((gL σ (eQ at_ pZ.veh st)).fb),bV nH dN w0.heap.size fU ((gL σ (eQ at_ pZ.veh st)).fh),bV vI dN w0.heap.size gC (fp),gD 68 (gL σ (eQ at_ pZ.veh st)).fh,bU dV 2 84 w0.heap.size none cA cn cl,TxtO w0.heap.size none,fun wy=>SlT lgEnc 9 68 wy A5 n5 (endLegs hl (⟨at_,st,n0,n1⟩:Rd))]) U cD7 U U (fun wx hm=>(bQ5 w0 u0 u2 u3 u4 u5 u6 u7 u8 u9 jK jL jM jN jO jP go gv gs fT fQ fS fU gC cA cn cc cl V T rv rn rx hd fp σ lv at_ pZ.veh st 3 ⟨#[]⟩ [(g3,64, [.string h0,.string h1,.int .i64 h2,.int .i64 h3,.slice A5 n5 c5]),(gE,74, [.int .i64 at_,.string pZ.veh,.string st,.int .i64 3,.string ⟨#[]⟩])] [fun wy=>SlT lgEnc 9 68 wy A5 n5 (endLegs hl (⟨at_,st,n0,n1⟩:Rd))] (dO3 SlT.mfar) wx hlg (hm.pick [5,3,4] [0,1] [2,3,4,5,6,7,8,9,10,11,0] U U).cy).mono fun _ _ ⟨lv_,he,vP⟩=>⟨lv_,he,trivial,vP.cy⟩) ?_
 intro qM _
 refine bE (bG (bD (bI (gN U U (bL 194 (v':= .int .i64 1) U U (bP U (bE (hW (eB (bS (bB (dD U U) U (bL 188 (v':= .bool false) U (fH5 (by decide)) (bR (bH (jU U (dE (bF (bF (bY (bD (bH (gd (fun wz=>Blk wz go 119 [u0,.slice cA cn cc,u2,u3,u4,u5,u6,u7,u8,u9,jK,jL,jM,jN,jO,jP,.map (some gv),.map (some gs),.map (some fT),qM,.map (some fQ),.map (some fS),.map (some fU),.map (some gC),rv]/\Blk wz g3 64 [.string h0,.string h1,.int .i64 h2,.int .i64 h3,.slice A5 n5 c5]/\True) mixed (fun _ hm=>⟨hm.bl 0,hm.bl 1,trivial⟩) fun z=>wq 0 U (bJ U) (wq 1 U (bX U) (wq 2 U (bQ qV U U) (wq 3 U (cN zN U (fun _ hm=>hm.1) U) (wq 4 U (bJ U) (wq 5 U (cX nT U (fun _ hm=>hm.2.1) U U) (eC 6 U ?_))))))))))))))))))))))))))))
 refine kO (enc:=nH) (ek:=dN) (s:=k) (v:=(⟨h0,h1,h2,h3,A5,n5,c5,endLegs hl (⟨at_,st,n0,n1⟩:Rd)⟩:Hg)) (e:=64) (X':= [bV vS dN w0.heap.size gv (V),bV vB dN w0.heap.size gs (T),bV qU dN w0.heap.size fT ((gL σ (eQ at_ pZ.veh st)).fs),bV vB nD w0.heap.size fQ ((gL σ (eQ at_ pZ.veh st)).fa),bV qA dN w0.heap.size fS ((gL σ (eQ at_ pZ.veh st)).fb),bV vI dN w0.heap.size gC (fp),gD 68 (gL σ (eQ at_ pZ.veh st)).fh,bU dV 2 84 w0.heap.size none cA cn cl,TxtO w0.heap.size none,fun wy=>SlT lgEnc 9 68 wy A5 n5 (endLegs hl (⟨at_,st,n0,n1⟩:Rd))]) 5 kB (by kernel_rfl) U U U U (cP (i:=0) (bV.farK (gS hd (i:=0) (j:=5) U U (by decide))) U (cP (i:=1) (bV.farK (gS hd (i:=1) (j:=5) U U (by decide))) U (cP (i:=2) (bV.farK (gS hd (i:=2) (j:=5) U U (by decide))) U (cP (i:=3) (bV.farK (gS hd (i:=3) (j:=5) U U (by decide))) U (cP (i:=4) (bV.farK (gS hd (i:=4) (j:=5) U U (by decide))) U (cP (i:=6) (bV.farK (gS hd (i:=6) (j:=5) U U (by decide))) U (cP (i:=7) (gD.mfar).far U (cP (i:=8) (bU.mfar).far U (cP (i:=9) (TxtO.mfar).far U (cP (i:=10) (SlT.mfar).far U fZ)))))))))) (bE (nw 7 127 (fun _ hm=>⟨hm.bl 0,hm.bl 1,trivial⟩) fun z=>jH (bD (bS (bZ U (bR (bM ?_)))))))
 have hab:fY ({ gL σ (eQ at_ pZ.veh st) with fh:=fP σ.fh k (⟨h0,h1,h2,h3,A5,n5,c5,endLegs hl (⟨at_,st,n0,n1⟩:Rd)⟩:Hg) }:Os)=uZ T at_ (fY σ) k st n0 n1:=by
  rw [hAB]
  refine Eq.trans ?_ (yK ⟨hEz,hT,hcan0⟩).symm
  show (⟨_,_,_,fun j=>(fP σ.fh k (⟨h0,h1,h2,h3,A5,n5,c5,endLegs hl (⟨at_,st,n0,n1⟩:Rd)⟩:Hg) j).map hrG,_⟩:As)=_
  rw [cN4];rfl
 refine bK U U fun wx hm=>?_
 refine ⟨qM,_,0,U,⟨.close σ k (⟨h0,h1,h2,h3,(some ⟨hb,hof,none⟩),vE,hc,hl⟩:Hg) (⟨h0,h1,h2,h3,A5,n5,c5,endLegs hl (⟨at_,st,n0,n1⟩:Rd)⟩:Hg) pZ (⟨at_,st,n0,n1⟩:Rd) hfk ⟨⟨hrk.1,hrk.2.1,end_ok hrk.2.2 hs⟩,by dsimp only;omega,by dsimp only;omega,by dsimp only;omega⟩ hE5 hopen hg U U U hT hcan0,hab⟩,?_⟩
 have hput:=gD.put (k:=k) (h:=(⟨h0,h1,h2,h3,A5,n5,c5,endLegs hl (⟨at_,st,n0,n1⟩:Rd)⟩:Hg)) (hm.fact 7 rfl) (hm.fact 10 rfl)
 have hm:=hm.also (gD.lasts2 rfl) hput
 exact (hm.pick [0] [0,1] [2,3,4,5,6,1,7,0,9,10] U U).cy
theorem dS6 (w0:World) (u0 u2 u3 u4 u5 u6 u7 u8 u9 jK jL jM jN jO jP:Value) (go gv gs fT fQ fS fU gC:Nat) (cA:Option Addr) (cn cc:Nat) (cl:List Cs) (V:ByteArray->Option ByteArray) (T:ByteArray->Option Bool) (rv:Value) (rn:Nat) (rx:List Value) (hd: [gv,gs,fT,fQ,fS,fU,gC].Nodup) (ck:Bk->Prop) (fp:ByteArray->Option Int) (σ:Os) (lv:Value) (at_:Int) (k st v:ByteArray) (n0 n1 n2 n3:Int) (tA nA:Option Addr) (tc nc:Nat) (w:World) (hs:st.size<=1000000) (hv:v.size<=1000000) (hlg0:σ.lg.length<=99990) (hso:cM4 σ) (ht:SlT fH 1 9 w tA 3 [k,st,v]) (hn:SlT kN 1 3 w nA 4 [n0,n1,n2,n3]) (hm:gM ⟨0,w0,none, [68,9,3]⟩ (fun _=>True) [(go,119, [u0,.slice cA cn cc,u2,u3,u4,u5,u6,u7,u8,u9,jK,jL,jM,jN,jO,jP,.map (some gv),.map (some gs),.map (some fT),lv,.map (some fQ),.map (some fS),.map (some fU),.map (some gC),rv])] [⟨lv,74,5,σ.lg.length,σ.lg.flatMap dP⟩,⟨rv,226,2,rn,rx⟩] [bV vS dN w0.heap.size gv (V),bV vB dN w0.heap.size gs (T),bV qU dN w0.heap.size fT (σ.fs),bV vB nD w0.heap.size fQ (σ.fa),bV qA dN w0.heap.size fS (σ.fb),bV nH dN w0.heap.size fU (σ.fh),bV vI dN w0.heap.size gC (fp),gD 68 σ.fh,bU dV 2 84 w0.heap.size none cA cn cl,TxtO w0.heap.size none,fun wy=>SlT fH 1 9 wy tA 3 [k,st,v],fun wy=>SlT kN 1 3 wy nA 4 [n0,n1,n2,n3]] w):
 Calls prog 175 #[.pointer (some ⟨go,0,none⟩),.int .i64 at_,.agg #[.string ⟨#[115,119,97,112]⟩,.slice tA 3 tc,.slice nA 4 nc]] w (fun e w'=>∃lv' σ' E,e=.returned (.int .i64 E)/\(kU V T ck at_ σ σ'/\fY σ'=xU V T at_ (fY σ) k st v n0 n1 n2 n3)/\gM ⟨0,w0,none, [68,9,3]⟩ (fun _=>True) [(go,119, [u0,.slice cA cn cc,u2,u3,u4,u5,u6,u7,u8,u9,jK,jL,jM,jN,jO,jP,.map (some gv),.map (some gs),.map (some fT),lv',.map (some fQ),.map (some fS),.map (some fU),.map (some gC),rv])] [⟨lv',74,5,σ'.lg.length,σ'.lg.flatMap dP⟩,⟨rv,226,2,rn,rx⟩] [bV vS dN w0.heap.size gv (V),bV vB dN w0.heap.size gs (T),bV qU dN w0.heap.size fT (σ'.fs),bV vB nD w0.heap.size fQ (σ'.fa),bV qA dN w0.heap.size fS (σ'.fb),bV nH dN w0.heap.size fU (σ'.fh),bV vI dN w0.heap.size gC (fp),gD 68 σ'.fh,bU dV 2 84 w0.heap.size none cA cn cl,TxtO w0.heap.size none] w'):=by
 have hlg:σ.lg.length<=100000:=by omega
 refine cV ⟨201,w0,none, [68,9,3]⟩ func175 U ntmps175 U hm.cy (bS ?_)
 obtain ⟨tb,uE,htA,_,_⟩:=ht.get (by decide)
 subst htA
 obtain ⟨nb,xQ,hnA,_,_⟩:=hn.get (by decide)
 subst hnA
 obtain ⟨ish,bS0⟩:∃z,z=(σ.fh k).isSome:=⟨_,rfl⟩
 obtain ⟨xh,hxh⟩:∃z,z=(σ.fh k).getD vV:=⟨_,rfl⟩
 obtain ⟨h0,h1,h2,h3,hA,vE,hc,hl⟩:=xh
 have hol:∀h,σ.fh k=some h->SlT lgEnc 9 68 w h.A h.n h.legs:=fun h=>hm.fact 7 rfl k h
 refine fG U U U fun g1=>bZ U (bR (bS (dW kL U U (eI qJ 0 U U U (bB (bT (j:=0) jY U U (by omega)) U (bB (dL (k:=0) (v:= .string k) fE U (fun _ hm=>(hm.fact 10 U)) (U: [k,st,v][0]?=some k) U U) U (bZ U (bR (bS (bP U (bB (bX U) U (dW qV U U (eI zN 1 U U U (bP U (bB (gW (enc:=nH) (ek:=dN) (s:=k) (e:=64) vV kB (by kernel_rfl) (by kernel_rfl) U U (fun _ hm=>(hm.fact 5 U))) U (bP U (bB (cR U U) U (bL 39 (v':= .agg #[.string h0,.string h1,.int .i64 h2,.int .i64 h3,.slice hA vE hc]) U (congrArg nH hxh.symm) (bB (cR U U) U (bL 40 (v':= .bool ish) U (fH5 bS0.symm) (dH bA6 U fun g2=>jX (cs':= [.string h0,.string h1,.int .i64 h2,.int .i64 h3,.slice hA vE hc]) 0 nT U U U U ?_)))))))))))))))))))))
 refine bZ U (bR (bH (bS (bP U (bB (cF U) U (bR ?_))))))
 refine dC U (fun hh=>?_) (fun hh=>?_)
 ·have hz:ish=false:=by simpa using hh
  refine bS (bZ U (bR (bM (bA ?_))))
  have hsm:fY σ=xU V T at_ (fY σ) k st v n0 n1 n2 n3:=(dU1 (cP5 (bS0.symm.trans (by simpa using hz)))).symm
  refine bK U U fun wx hm=>?_
  refine ⟨lv,σ,_,U,⟨.same σ,hsm⟩,?_⟩
  exact (hm.pick [2] [0,1] [0,1,2,3,4,5,6,7,8,9] U U).cy
 have hz:ish=true:=by simpa using hh
 refine bN (bD (bS ?_))
 have hz1:ish=true:=by simpa using hz
 have hfk:=bF7 (bS0.symm.trans hz1) hxh
 obtain ⟨hrk,hnp,hn20,hll⟩:=hso.hi k _ hfk
 dsimp only at hrk hnp hn20 hll
 have hot:=hol _ hfk
 dsimp only at hot
 obtain ⟨hb,hof,hA1,_,_⟩:=hot.get hnp
 subst hA1
 obtain ⟨pZ,hg⟩:∃z,hl[vE - 1]?=some z:=⟨_,fJ5 (by omega)⟩
 have hlv:bY0 hl=pZ.veh:=by unfold bY0;rw [hll,hg];rfl
 have hAB:xU V T at_ (fY σ) k st v n0 n1 n2 n3=eC1 V T at_ (fY σ) k (⟨h0,h1,h2,h3,hl⟩:Hr) pZ.veh st v n0 n1 n2 n3:=dV1 (cQ5 hfk) hlv
 refine zE (γ:=Unit) (fun _ wy=>SlT lgEnc 9 68 wy (some ⟨hb,hof,none⟩) vE hl) (fun w hm=>⟨(),(hm.fact 7 U:gD 68 σ.fh w) k _ hfk⟩) (fun _=>SlT.lasts2 U) fun _=>?_
 obtain ⟨HE,hHE⟩:∃z,z=cL7 (⟨h0,h1,h2,h3,hl⟩:Hr) (⟨at_,st,n0,n1⟩:Rd) v (⟨at_,st,n2,n3⟩:Rd):=⟨_,rfl⟩
 obtain ⟨xq,hxq⟩:∃z,z=bU3 HE ⟨h0,h1,h2,h3,gZ hl (⟨at_,st,n0,n1⟩:Rd) v (⟨at_,st,n2,n3⟩:Rd)⟩:=⟨_,rfl⟩
 obtain ⟨k5,d5,f5,t5,l5⟩:=xq
 obtain ⟨ist,bQ2⟩:∃z,z=(T st).getD false:=⟨_,rfl⟩
 obtain ⟨iv,hiv⟩:∃z,z=(V v).isSome:=⟨_,rfl⟩
 obtain ⟨vc,hvc⟩:∃z,z=(V v).getD (⟨#[]⟩:ByteArray):=⟨_,rfl⟩
 obtain ⟨C0,hC0⟩:∃z,z=cT4 σ (eQ at_ pZ.veh st):=⟨_,rfl⟩
 obtain ⟨C1,hC1⟩:∃z,z=cT4 σ (gO at_ v st):=⟨_,rfl⟩
 refine dH bA6 U fun g3=>bR (bS (bZ U (bR (bS (bZ U (bR (bS (bZ U (bR ?_)))))))))
 refine pC (γ:=Option Addr×Nat×Nat×Nat×Bool) (I:=(fun (gq:Option Addr×Nat×Nat×Nat×Bool)=>l5.length=gq.2.1/\gq.2.2.2.2=(ist&&iv))) (S':=(fun (gq:Option Addr×Nat×Nat×Nat×Bool)=> [(0,.pointer (some ⟨go,0,none⟩)),(6,.int .i64 0),(7,.string k),(10,.pointer (some ⟨g3,0,none⟩)),(11,.int .i64 HE),(12,.slice (some ⟨gq.2.2.2.1,0,none⟩) 2 2),(13,.bool gq.2.2.2.2)])) (K':=(fun (gq:Option Addr×Nat×Nat×Nat×Bool)=>fun _=>True)) (L':=(fun (gq:Option Addr×Nat×Nat×Nat×Bool)=> [(g3,64, [.string k5,.string d5,.int .i64 f5,.int .i64 t5,.slice gq.1 gq.2.1 gq.2.2.1]),(gq.2.2.2.1,74, [.int .i64 at_,.string pZ.veh,.string st,.int .i64 3,.string ⟨#[]⟩,.int .i64 at_,.string v,.string st,.int .i64 2,.string ⟨#[]⟩]),(go,119, [u0,.slice cA cn cc,u2,u3,u4,u5,u6,u7,u8,u9,jK,jL,jM,jN,jO,jP,.map (some gv),.map (some gs),.map (some fT),lv,.map (some fQ),.map (some fS),.map (some fU),.map (some gC),rv])])) (O':=(fun (gq:Option Addr×Nat×Nat×Nat×Bool)=> [⟨lv,74,5,σ.lg.length,σ.lg.flatMap dP⟩,⟨rv,226,2,rn,rx⟩])) (X':=(fun (gq:Option Addr×Nat×Nat×Nat×Bool)=> [fun wy=>SlT lgEnc 9 68 wy gq.1 gq.2.1 l5,fun wy=>SlT lgEnc 9 68 wy (some ⟨hb,hof,none⟩) vE hl,bV vS dN w0.heap.size gv (V),bV vB dN w0.heap.size gs (T),bV qU dN w0.heap.size fT (σ.fs),bV vB nD w0.heap.size fQ (σ.fa),bV qA dN w0.heap.size fS (σ.fb),bV nH dN w0.heap.size fU (σ.fh),bV vI dN w0.heap.size gC (fp),gD 68 σ.fh,bU dV 2 84 w0.heap.size none cA cn cl,TxtO w0.heap.size none,fun wy=>SlT fH 1 9 wy (some ⟨tb,uE,none⟩) 3 [k,st,v],fun wy=>SlT kN 1 3 wy (some ⟨nb,xQ,none⟩) 4 [n0,n1,n2,n3]])) ?_ ?_
 ·refine bS (dW vY U U (eI cJ1 1 U U U (dW vY U U (eI cJ1 1 U U U (bB (dT cK2 U) U ?_)))))
  refine bB (ov_sub U U (by omega) (by omega)) U (bL 48 (v':= .int .i64 ((vE - 1:Nat):Int)) U (fI5 (by omega)) (bB (bT (j:=vE - 1) cK2 U U (by omega)) U (dW cO5 U U (bB (dL (k:=0) (v:= .string pZ.veh) fE U (fun _ hm=>(hm.fact 0 U)) hg U U) U (bZ U (bR (bS (dW mE U U (eI fE 2 U U U (bR (bO (bS (bB (eR U U) U (bL 120 (v':= .bool false) U (fH5 (by rw [nB];decide)) (bZ U (bR (jU U (bS (bB (eR U U) U (bL 131 (v':= .bool false) U (fH5 (by rw [nB];decide)) (bZ U (bR (jU U (bH (gd (fun wz=>Blk wz g1 271 [.string ⟨#[115,119,97,112]⟩,.slice (some ⟨tb,uE,none⟩) 3 tc,.slice (some ⟨nb,xQ,none⟩) 4 nc]/\(fun wy=>SlT fH 1 9 wy (some ⟨tb,uE,none⟩) 3 [k,st,v]) wz/\True) mixed (fun _ hm=>⟨hm.bl 2,hm.fa 11,trivial⟩) fun z=>wq 0 U (bQ kL U U) (wq 1 U (cN qJ U (fun _ hm=>hm.1) U) (wq 2 U (bT (j:=1) jY U U (by omega)) (wq 3 U (dL (k:=0) (v:= .string st) fE U (fun _ hm=>(hm.2.1)) (U: [k,st,v][1]?=some st) U U) ?_))))))))))))))))))))))))))))
  refine wq 4 U (bQ kL U U) (wq 5 U (cN qJ U (fun _ hm=>hm.1) U) (wq 6 U (bT (j:=2) jY U U (by omega)) (wq 7 U (dL (k:=0) (v:= .string v) fE U (fun _ hm=>(hm.2.1)) (U: [k,st,v][2]?=some v) U U) (wq 8 U (cU U) (wq 9 U (cU U) (jH (bD (bH (gd (fun wz=>Blk wz g1 271 [.string ⟨#[115,119,97,112]⟩,.slice (some ⟨tb,uE,none⟩) 3 tc,.slice (some ⟨nb,xQ,none⟩) 4 nc]/\(fun wy=>SlT kN 1 3 wy (some ⟨nb,xQ,none⟩) 4 [n0,n1,n2,n3]) wz/\True) mixed (fun _ hm=>⟨hm.bl 2,hm.fa 12,trivial⟩) fun z=>wq 0 U (bJ U) (wq 1 U (bJ U) (wq 2 U (bQ nJ U U) (wq 3 U (cN mB U (fun _ hm=>hm.1) U) (wq 4 U (bT (j:=0) pE U U (by omega)) (wq 5 U (dL (k:=0) (v:= .int .i64 n0) fF U (fun _ hm=>(hm.2.1)) (U: [n0,n1,n2,n3][0]?=some n0) U U) (wq 6 U (bQ nJ U U) (wq 7 U (cN mB U (fun _ hm=>hm.1) U) (wq 8 U (bT (j:=1) pE U U (by omega)) (wq 9 U (dL (k:=0) (v:= .int .i64 n1) fF U (fun _ hm=>(hm.2.1)) (U: [n0,n1,n2,n3][1]?=some n1) U U) (wq 10 U (dJ (cs:= [.int .i64 at_,.string st,.int .i64 n0,.int .i64 n1]) U (by kernel_rfl)) (eC 11 U (dH fX2 U fun g4=>bE (nw 13 4095 (fun _ hm=>⟨hm.bl 3,hm.fa 12,trivial⟩) fun z=>eC 12 U (jX (cs':= [.int .i64 at_,.string st,.int .i64 n0,.int .i64 n1]) 0 dM1 U U U U (bE (nw 13 8191 (fun _ hm=>⟨hm.bl 3,hm.fa 12,trivial⟩) fun z=>jH ?_)))))))))))))))))))))))))
  refine bD (bH (gd (fun wz=>Blk wz g1 271 [.string ⟨#[115,119,97,112]⟩,.slice (some ⟨tb,uE,none⟩) 3 tc,.slice (some ⟨nb,xQ,none⟩) 4 nc]/\(fun wy=>SlT kN 1 3 wy (some ⟨nb,xQ,none⟩) 4 [n0,n1,n2,n3]) wz/\True) mixed (fun _ hm=>⟨hm.bl 3,hm.fa 12,trivial⟩) fun z=>wq 0 U (bJ U) (wq 1 U (bJ U) (wq 2 U (bQ nJ U U) (wq 3 U (cN mB U (fun _ hm=>hm.1) U) (wq 4 U (bT (j:=2) pE U U (by omega)) (wq 5 U (dL (k:=0) (v:= .int .i64 n2) fF U (fun _ hm=>(hm.2.1)) (U: [n0,n1,n2,n3][2]?=some n2) U U) (wq 6 U (bQ nJ U U) (wq 7 U (cN mB U (fun _ hm=>hm.1) U) (wq 8 U (bT (j:=3) pE U U (by omega)) (wq 9 U (dL (k:=0) (v:= .int .i64 n3) fF U (fun _ hm=>(hm.2.1)) (U: [n0,n1,n2,n3][3]?=some n3) U U) (wq 10 U (dJ (cs:= [.int .i64 at_,.string st,.int .i64 n2,.int .i64 n3]) U (by kernel_rfl)) (eC 11 U (dH fX2 U fun g5=>bE (nw 13 4095 (fun _ hm=>⟨hm.bl 4,hm.fa 12,trivial⟩) fun z=>eC 12 U (jX (cs':= [.int .i64 at_,.string st,.int .i64 n2,.int .i64 n3]) 0 dM1 U U U U (bE (nw 13 8191 (fun _ hm=>⟨hm.bl 4,hm.fa 12,trivial⟩) fun z=>jH (bD (bS (bB (cX nT U (fun _ hm=>hm.blkI 3 U) U U) U (bB (cX dM1 U (fun _ hm=>hm.blkI 1 U) U U) U (bP U (bB (cX dM1 U (fun _ hm=>hm.blkI 0 U) U U) U ?_))))))))))))))))))))))))
  refine jC (γ:=Option Addr×Nat×Nat) (val:=(fun g=> .tuple #[.agg #[.string k5,.string d5,.int .i64 f5,.int .i64 t5,.slice g.1 g.2.1 g.2.2],.int .i64 HE])) (φ:=(fun g=>l5.length=g.2.1)) (Y:=(fun g=>fun wy=>SlT lgEnc 9 68 wy g.1 g.2.1 l5)) U fV0 U U (fun wx hm=>(dB5 h0 h1 h2 h3 hl (some ⟨hb,hof,none⟩) vE hc v at_ st n0 n1 at_ st n2 n3 wx (hm.fact 0 U) hrk (by omega) hv hs hs).mono fun _ _ ⟨A,n,c,he,hg,hs⟩=>⟨(A,n,c),by rw [<-hHE,<-hxq] at he;exact he,by rw [<-hHE,<-hxq] at hs;exact hs.len,hg,by rw [<-hHE,<-hxq] at hs;exact hs⟩) (fun _=>SlT.lasts2 U) ?_
  rintro ⟨A5,n5,c5⟩ hln
  dsimp only at hln ⊢
  refine bP U (bB (cR U U) U (bB (cR U U) U (jX (cs':= [.string k5,.string d5,.int .i64 f5,.int .i64 t5,.slice A5 n5 c5]) 2 nT U U U U (bZ U (bR (bS (bP U (bB (bX U) U (dW bF9 U U (eI dZ3 5 U U U (bP U (bB (gW (enc:=vS) (ek:=dN) (s:=v) (e:=9) (⟨#[]⟩:ByteArray) kB (by kernel_rfl) (by kernel_rfl) U U (fun _ hm=>(hm.fact 2 U))) U (bP U (bB (cR U U) U (bL 99 (v':= .string vc) U (congrArg Value.string hvc.symm) (bB (cR U U) U (bL 100 (v':= .bool iv) U (fH5 hiv.symm) (bZ U (bZ U (bR (bS (bP U (bB (bX U) U (dW yB U U (eI cI1 5 U U U (bP U (bB (kV (enc:=vB) (ek:=dN) (s:=st) (e:=4) false kB (by kernel_rfl) (by kernel_rfl) U U (fun _ hm=>(hm.fact 3 U))) U (bL 106 (v':= .bool ist) U (fH5 bQ2.symm) (bP U ?_)))))))))))))))))))))))))))))
  rcases Bool.eq_false_or_eq_true ist with hb6|hb6
  ·refine bL 107 U (fH5 hb6) ?_
   refine eG U (bP U (mQ U U (bZ U (bR (bI (bP U (bP U (bP U (bB (dJ (cs:= [.int .i64 at_,.string pZ.veh,.string st,.int .i64 3,.string ⟨#[]⟩]) U (by kernel_rfl)) U (bP U (bP U (bP U (bB (dJ (cs:= [.int .i64 at_,.string v,.string st,.int .i64 2,.string ⟨#[]⟩]) U (by kernel_rfl)) U (jF 74 [.int .i64 at_,.string pZ.veh,.string st,.int .i64 3,.string ⟨#[]⟩,.int .i64 at_,.string v,.string st,.int .i64 2,.string ⟨#[]⟩] fun g7=>bZ U (bE (bG ?_))))))))))))))))
   exact fK (A5,n5,c5,g7,iv) ⟨hln,by rw [hb6];rfl⟩ ⟨U,U,U,U,U,U,U,trivial⟩ (fun _ hm=>hm.pick [3,0,6] [0,1] [0,1,2,3,4,5,6,7,8,9,10,11,12,13] U U)
  refine bL 107 U (fH5 hb6) (dY U (nS U U (bZ U (bR (bI (bP U (bP U (bP U (bB (dJ (cs:= [.int .i64 at_,.string pZ.veh,.string st,.int .i64 3,.string ⟨#[]⟩]) U (by kernel_rfl)) U (bP U (bP U (bP U (bB (dJ (cs:= [.int .i64 at_,.string v,.string st,.int .i64 2,.string ⟨#[]⟩]) U (by kernel_rfl)) U (jF 74 [.int .i64 at_,.string pZ.veh,.string st,.int .i64 3,.string ⟨#[]⟩,.int .i64 at_,.string v,.string st,.int .i64 2,.string ⟨#[]⟩] fun g8=>bZ U (bE (bG ?_))))))))))))))))
  exact fK (A5,n5,c5,g8,false) ⟨hln,by rw [hb6];rfl⟩ ⟨U,U,U,U,U,U,U,trivial⟩ (fun _ hm=>hm.pick [3,0,6] [0,1] [0,1,2,3,4,5,6,7,8,9,10,11,12,13] U U)
 rintro ⟨A5,n5,c5,gE,kn⟩ cC
 replace cC:l5.length=n5/\kn=(ist&&iv):=cC
 dsimp only
 refine bH (bS ?_)
 obtain ⟨cC,hkn⟩:=cC
 refine bP U (bP U (bB (cF U) U (dA U qK U U (fun wx hm=>(eE _ _ wx)) (jF 48 [.int .i64 HE,.int .i64 (dK (!kn) 8)] fun g9=>dA U wJ U U (fun wx hm=>(fJ [HE,dK (!kn) 8] _ _ _ wx (hm.blkI 0 U) (by simp))) (bZ U (bR (bS (bP U (bB (gX U U) U (bR ?_))))))))))
 refine gI U (fun hy=>?_) (fun hy=>?_)
 ·refine bS (bP U (bZ U (bR ?_)))
  refine bM (bA ?_)
  have hyx:¬dI [HE,dK (!kn) 8]=0:=by simpa using hy
  have hsm:fY σ=xU V T at_ (fY σ) k st v n0 n1 n2 n3:=by
   rw [hAB]
   exact (pO fun ⟨q1,⟨q2,q3⟩,_⟩=>hyx (by rw [hHE.trans q1,hkn,bQ2.trans q2,hiv.trans q3];rfl)).symm
  refine bK U U fun wx hm=>?_
  refine ⟨lv,σ,_,U,⟨.same σ,hsm⟩,?_⟩
  exact (hm.pick [3] [0,1] [2,3,4,5,6,7,8,9,10,11] U U).cy
 refine bN (bD (bH (bS ?_)))
 have hy0:dI [HE,dK (!kn) 8]=0:=by simpa using hy
 obtain ⟨hz0,hz9⟩:=cD0 hy0
 have hq0:bU3 HE ⟨h0,h1,h2,h3,gZ hl (⟨at_,st,n0,n1⟩:Rd) v (⟨at_,st,n2,n3⟩:Rd)⟩=⟨h0,h1,h2,h3,gZ hl (⟨at_,st,n0,n1⟩:Rd) v (⟨at_,st,n2,n3⟩:Rd)⟩:=bT0 hz0
 have hx9:=hq0.symm.trans hxq.symm
 injection hx9 with q1 q2 q3 q4 q5
 subst q1 q2 q3 q4 q5
 have hEz:=hHE.symm.trans hz0
 rw [hHE] at hz0
 obtain ⟨hgo,hE5⟩:=cM0 hz0
 have hle:=hireE_legs hE5
 dsimp only at hle
 have h99:ist=true/\iv=true:=by
  have:=rG (by decide) hz9
  rw [hkn] at this
  simpa using this
 have hT:(T st).getD false=true:=by rw [<-bQ2];exact h99.1
 have hV:(V v).isSome=true:=by rw [<-hiv];exact h99.2
 have hopen:=(goingE_ok hgo).2
 refine bP U (bB (dT kE U) U (bL 173 (v':= .int .i64 2) U U (bP U (bR (bO (eZ 3 (eB (bS (bB (dD U U) U (bL 175 (v':= .bool true) U (fH5 (by decide)) (bR (bH (kQ U (bN (bD (bH (bO (bS (bB (bT (j:=0) kE U U (by decide)) U (bB (cX fR U (fun _ hm=>hm.blkI 2 U) U U) U (dH cW1 U fun g10=>jX (cs':= [.int .i64 at_,.string pZ.veh,.string st,.int .i64 3,.string ⟨#[]⟩]) 0 fR U U U U (bR (bS (bP U (bB (cX fR U (fun _ hm=>hm.blkI 0 U) U U) U (cL (v:= .int .i64 C0) U bE0 U U (fun wx hm=>(by rw [hC0];exact (rR σ u0 u2 u3 u4 u5 u6 u7 u8 u9 jK jL jM jN jO jP go gv gs fT fQ fS fU gC cA cn cc lv rv at_ pZ.veh st 3 ⟨#[]⟩ _ wx (hm.blkI 4 rfl) (hm.fact 4 rfl) (hm.fact 5 rfl)))) ?_))))))))))))))))))))))))))
 refine bZ U (bR (bS (bP U (bB (gX U U) U (bR ?_)))))
 refine gI U (fun hc0=>?_) (fun hc0=>?_)
 ·refine bS (bP U (bZ U (bR ?_)))
  refine bM (bC (bA (bA (bC (bA ?_)))))
  have hcx:¬C0=0:=by simpa using hc0
  have hsm:fY σ=xU V T at_ (fY σ) k st v n0 n1 n2 n3:=by
   rw [hAB]
   exact (pO fun ⟨_,_,qq,_⟩=>hcx (hC0.trans (qO.2 (bD0.1 qq)))).symm
  refine bK U U fun wx hm=>?_
  refine ⟨lv,σ,_,U,⟨.same σ,hsm⟩,?_⟩
  exact (hm.pick [4] [0,1] [2,3,4,5,6,7,8,9,10,11] U U).cy
 refine bN (bG (bD (bI ?_)))
 have hcan0:bM2 σ (eQ at_ pZ.veh st):=qO.1 (hC0.symm.trans (by simpa using hc0))
 refine gN U U (bL 184 (v':= .int .i64 1) U U (bP U (bE (hW (eB (bS (bB (dD U U) U (bL 175 (v':= .bool true) U (fH5 (by decide)) (bR (bH (kQ U (bN (bD (bH (bO (bS (bB (bT (j:=1) kE U U (by decide)) U (bB (cX fR U (fun _ hm=>hm.blkI 3 U) U U) U (dH cW1 U fun g11=>jX (cs':= [.int .i64 at_,.string v,.string st,.int .i64 2,.string ⟨#[]⟩]) 0 fR U U U U (bR (bS (bP U (bB (cX fR U (fun _ hm=>hm.blkI 0 U) U U) U (cL (v:= .int .i64 C1) U bE0 U U (fun wx hm=>(by rw [hC1];exact (rR σ u0 u2 u3 u4 u5 u6 u7 u8 u9 jK jL jM jN jO jP go gv gs fT fQ fS fU gC cA cn cc lv rv at_ v st 2 ⟨#[]⟩ _ wx (hm.blkI 5 rfl) (hm.fact 4 rfl) (hm.fact 5 rfl)))) ?_))))))))))))))))))))))))
 refine bZ U (bR (bS (bP U (bB (gX U U) U (bR ?_)))))
 refine gI U (fun hc1=>?_) (fun hc1=>?_)
 ·refine bS (bP U (bZ U (bR ?_)))
  refine bM (bC (bA (bA (bC (bA ?_)))))
  have hcx:¬C1=0:=by simpa using hc1
  have hsm:fY σ=xU V T at_ (fY σ) k st v n0 n1 n2 n3:=by
   rw [hAB]
   exact (pO fun ⟨_,_,_,qq⟩=>hcx (hC1.trans (qO.2 (bD0.1 qq)))).symm
  refine bK U U fun wx hm=>?_
  refine ⟨lv,σ,_,U,⟨.same σ,hsm⟩,?_⟩
  exact (hm.pick [5] [0,1] [2,3,4,5,6,7,8,9,10,11] U U).cy
 refine bN (bG (bD (bI ?_)))
 have hcan1:bM2 σ (gO at_ v st):=qO.1 (hC1.symm.trans (by simpa using hc1))
 refine gN U U (bL 184 (v':= .int .i64 2) U U (bP U (bE (hW (eB (bS (bB (dD U U) U (bL 175 (v':= .bool false) U (fH5 (by decide)) (bR (bH (jU U (dE (bF (bF (bY (bD (bH (bS (bP U (bB (dT kE U) U (bL 186 (v':= .int .i64 2) U U (bP U (bR (bO (eZ 3 (eB (bS (bB (dD U U) U (bL 188 (v':= .bool true) U (fH5 (by decide)) ?_)))))))))))))))))))))))))))))
 refine bR (bH (kQ U (bN (bD (bH (bO (bS (bB (bT (j:=0) kE U U (by decide)) U (bB (cX fR U (fun _ hm=>hm.blkI 4 U) U U) U (dH cW1 U fun g12=>jX (cs':= [.int .i64 at_,.string pZ.veh,.string st,.int .i64 3,.string ⟨#[]⟩]) 0 fR U U U U (bR (bI (bP U (bB (cX fR U (fun _ hm=>hm.blkI 0 U) U U) U ?_))))))))))))))
 refine fO (γ:=Value) (val:=fun _=> .tuple #[]) (φ:=fun _=>True) (K':=fun _=>fun _=>True) (L':=fun qM=> [(go,119, [u0,.slice cA cn cc,u2,u3,u4,u5,u6,u7,u8,u9,jK,jL,jM,jN,jO,jP,.map (some gv),.map (some gs),.map (some fT),qM,.map (some fQ),.map (some fS),.map (some fU),.map (some gC),rv]),(g3,64, [.string h0,.string h1,.int .i64 h2,.int .i64 h3,.slice A5 n5 c5]),(gE,74, [.int .i64 at_,.string pZ.veh,.string st,.int .i64 3,.string ⟨#[]⟩,.int .i64 at_,.string v,.string st,.int .i64 2,.string ⟨#[]⟩])]) (O':=fun qM=> [⟨qM,74,5,(gL σ (eQ at_ pZ.veh st)).lg.length,(gL σ (eQ at_ pZ.veh st)).lg.flatMap dP⟩,⟨rv,226,2,rn,rx⟩]) (X':=fun _=> [bV vS dN w0.heap.size gv (V),bV vB dN w0.heap.size gs (T),bV qU dN w0.heap.size fT ((gL σ (eQ at_ pZ.veh st)).fs),bV vB nD w0.heap.size fQ ((gL σ (eQ at_ pZ.veh st)).fa),bV qA dN w0.heap.size fS ((gL σ (eQ at_ pZ.veh st)).fb),bV nH dN w0.heap.size fU ((gL σ (eQ at_ pZ.veh st)).fh),bV vI dN w0.heap.size gC (fp),gD 68 (gL σ (eQ at_ pZ.veh st)).fh,bU dV 2 84 w0.heap.size none cA cn cl,TxtO w0.heap.size none,fun wy=>SlT lgEnc 9 68 wy A5 n5 (gZ hl (⟨at_,st,n0,n1⟩:Rd) v (⟨at_,st,n2,n3⟩:Rd))]) U cD7 U U (fun wx hm=>(bQ5 w0 u0 u2 u3 u4 u5 u6 u7 u8 u9 jK jL jM jN jO jP go gv gs fT fQ fS fU gC cA cn cc cl V T rv rn rx hd fp σ lv at_ pZ.veh st 3 ⟨#[]⟩ [(g3,64, [.string h0,.string h1,.int .i64 h2,.int .i64 h3,.slice A5 n5 c5]),(gE,74, [.int .i64 at_,.string pZ.veh,.string st,.int .i64 3,.string ⟨#[]⟩,.int .i64 at_,.string v,.string st,.int .i64 2,.string ⟨#[]⟩])] [fun wy=>SlT lgEnc 9 68 wy A5 n5 (gZ hl (⟨at_,st,n0,n1⟩:Rd) v (⟨at_,st,n2,n3⟩:Rd))] (dO3 SlT.mfar) wx hlg (hm.pick [6,4,5] [0,1] [2,3,4,5,6,7,8,9,10,11,0] U U).cy).mono fun _ _ ⟨lv_,he,vP⟩=>⟨lv_,he,trivial,vP.cy⟩) ?_
 intro qM _
 refine bE (bG (bD (bI (gN U U (bL 194 (v':= .int .i64 1) U U (bP U (bE (hW (eB (bS (bB (dD U U) U (bL 188 (v':= .bool true) U (fH5 (by decide)) (bR (bH (kQ U (bN (bD (bH (bO (bS (bB (bT (j:=1) kE U U (by decide)) U (bB (cX fR U (fun _ hm=>hm.blkI 2 U) U U) U (dH cW1 U fun g13=>jX (cs':= [.int .i64 at_,.string v,.string st,.int .i64 2,.string ⟨#[]⟩]) 0 fR U U U U (bR (bI (bP U (bB (cX fR U (fun _ hm=>hm.blkI 0 U) U U) U ?_)))))))))))))))))))))))))))
 refine fO (γ:=Value) (val:=fun _=> .tuple #[]) (φ:=fun _=>True) (K':=fun _=>fun _=>True) (L':=fun lv3=> [(go,119, [u0,.slice cA cn cc,u2,u3,u4,u5,u6,u7,u8,u9,jK,jL,jM,jN,jO,jP,.map (some gv),.map (some gs),.map (some fT),lv3,.map (some fQ),.map (some fS),.map (some fU),.map (some gC),rv]),(g3,64, [.string h0,.string h1,.int .i64 h2,.int .i64 h3,.slice A5 n5 c5]),(gE,74, [.int .i64 at_,.string pZ.veh,.string st,.int .i64 3,.string ⟨#[]⟩,.int .i64 at_,.string v,.string st,.int .i64 2,.string ⟨#[]⟩])]) (O':=fun lv3=> [⟨lv3,74,5,(gL (gL σ (eQ at_ pZ.veh st)) (gO at_ v st)).lg.length,(gL (gL σ (eQ at_ pZ.veh st)) (gO at_ v st)).lg.flatMap dP⟩,⟨rv,226,2,rn,rx⟩]) (X':=fun _=> [bV vS dN w0.heap.size gv (V),bV vB dN w0.heap.size gs (T),bV qU dN w0.heap.size fT ((gL (gL σ (eQ at_ pZ.veh st)) (gO at_ v st)).fs),bV vB nD w0.heap.size fQ ((gL (gL σ (eQ at_ pZ.veh st)) (gO at_ v st)).fa),bV qA dN w0.heap.size fS ((gL (gL σ (eQ at_ pZ.veh st)) (gO at_ v st)).fb),bV nH dN w0.heap.size fU ((gL (gL σ (eQ at_ pZ.veh st)) (gO at_ v st)).fh),bV vI dN w0.heap.size gC (fp),gD 68 (gL (gL σ (eQ at_ pZ.veh st)) (gO at_ v st)).fh,bU dV 2 84 w0.heap.size none cA cn cl,TxtO w0.heap.size none,fun wy=>SlT lgEnc 9 68 wy A5 n5 (gZ hl (⟨at_,st,n0,n1⟩:Rd) v (⟨at_,st,n2,n3⟩:Rd))]) U cD7 U U (fun wx hm=>(bQ5 w0 u0 u2 u3 u4 u5 u6 u7 u8 u9 jK jL jM jN jO jP go gv gs fT fQ fS fU gC cA cn cc cl V T rv rn rx hd fp (gL σ (eQ at_ pZ.veh st)) qM at_ v st 2 ⟨#[]⟩ [(g3,64, [.string h0,.string h1,.int .i64 h2,.int .i64 h3,.slice A5 n5 c5]),(gE,74, [.int .i64 at_,.string pZ.veh,.string st,.int .i64 3,.string ⟨#[]⟩,.int .i64 at_,.string v,.string st,.int .i64 2,.string ⟨#[]⟩])] [fun wy=>SlT lgEnc 9 68 wy A5 n5 (gZ hl (⟨at_,st,n0,n1⟩:Rd) v (⟨at_,st,n2,n3⟩:Rd))] (dO3 SlT.mfar) wx (by show (_++ [_]).length<=_;rw [List.length_append,List.length_singleton];omega) (hm.pick [1,2,3] [0,1] [0,1,2,3,4,5,6,7,8,9,10] U U).cy).mono fun _ _ ⟨lv_,he,vP⟩=>⟨lv_,he,trivial,vP.cy⟩) ?_
 intro lv3 _
 refine bE (bG (bD (bI (gN U U (bL 194 (v':= .int .i64 2) U U (bP U (bE (hW (eB (bS (bB (dD U U) U (bL 188 (v':= .bool false) U (fH5 (by decide)) (bR (bH (jU U (dE (bF (bF (bY (bD (bH (gd (fun wz=>Blk wz go 119 [u0,.slice cA cn cc,u2,u3,u4,u5,u6,u7,u8,u9,jK,jL,jM,jN,jO,jP,.map (some gv),.map (some gs),.map (some fT),lv3,.map (some fQ),.map (some fS),.map (some fU),.map (some gC),rv]/\Blk wz g3 64 [.string h0,.string h1,.int .i64 h2,.int .i64 h3,.slice A5 n5 c5]/\True) mixed (fun _ hm=>⟨hm.bl 0,hm.bl 1,trivial⟩) fun z=>wq 0 U (bJ U) (wq 1 U (bX U) (wq 2 U (bQ qV U U) (wq 3 U (cN zN U (fun _ hm=>hm.1) U) (wq 4 U (bJ U) (wq 5 U (cX nT U (fun _ hm=>hm.2.1) U U) (eC 6 U ?_))))))))))))))))))))))))))))
 refine kO (enc:=nH) (ek:=dN) (s:=k) (v:=(⟨h0,h1,h2,h3,A5,n5,c5,gZ hl (⟨at_,st,n0,n1⟩:Rd) v (⟨at_,st,n2,n3⟩:Rd)⟩:Hg)) (e:=64) (X':= [bV vS dN w0.heap.size gv (V),bV vB dN w0.heap.size gs (T),bV qU dN w0.heap.size fT ((gL (gL σ (eQ at_ pZ.veh st)) (gO at_ v st)).fs),bV vB nD w0.heap.size fQ ((gL (gL σ (eQ at_ pZ.veh st)) (gO at_ v st)).fa),bV qA dN w0.heap.size fS ((gL (gL σ (eQ at_ pZ.veh st)) (gO at_ v st)).fb),bV vI dN w0.heap.size gC (fp),gD 68 (gL (gL σ (eQ at_ pZ.veh st)) (gO at_ v st)).fh,bU dV 2 84 w0.heap.size none cA cn cl,TxtO w0.heap.size none,fun wy=>SlT lgEnc 9 68 wy A5 n5 (gZ hl (⟨at_,st,n0,n1⟩:Rd) v (⟨at_,st,n2,n3⟩:Rd))]) 5 kB (by kernel_rfl) U U U U (cP (i:=0) (bV.farK (gS hd (i:=0) (j:=5) U U (by decide))) U (cP (i:=1) (bV.farK (gS hd (i:=1) (j:=5) U U (by decide))) U (cP (i:=2) (bV.farK (gS hd (i:=2) (j:=5) U U (by decide))) U (cP (i:=3) (bV.farK (gS hd (i:=3) (j:=5) U U (by decide))) U (cP (i:=4) (bV.farK (gS hd (i:=4) (j:=5) U U (by decide))) U (cP (i:=6) (bV.farK (gS hd (i:=6) (j:=5) U U (by decide))) U (cP (i:=7) (gD.mfar).far U (cP (i:=8) (bU.mfar).far U (cP (i:=9) (TxtO.mfar).far U (cP (i:=10) (SlT.mfar).far U fZ)))))))))) (bE (nw 7 127 (fun _ hm=>⟨hm.bl 0,hm.bl 1,trivial⟩) fun z=>jH (bD (bS (bZ U (bR (bM ?_)))))))
 have hab:fY ({ gL (gL σ (eQ at_ pZ.veh st)) (gO at_ v st) with fh:=fP σ.fh k (⟨h0,h1,h2,h3,A5,n5,c5,gZ hl (⟨at_,st,n0,n1⟩:Rd) v (⟨at_,st,n2,n3⟩:Rd)⟩:Hg) }:Os)=xU V T at_ (fY σ) k st v n0 n1 n2 n3:=by
  rw [hAB]
  refine Eq.trans ?_ (yK ⟨hEz,⟨hT,hV⟩,hcan0,hcan1⟩).symm
  show (⟨_,_,_,fun j=>(fP σ.fh k (⟨h0,h1,h2,h3,A5,n5,c5,gZ hl (⟨at_,st,n0,n1⟩:Rd) v (⟨at_,st,n2,n3⟩:Rd)⟩:Hg) j).map hrG,_⟩:As)=_
  rw [cN4];rfl
 refine bK U U fun wx hm=>?_
 refine ⟨lv3,_,0,U,⟨.swap σ k (⟨h0,h1,h2,h3,(some ⟨hb,hof,none⟩),vE,hc,hl⟩:Hg) (⟨h0,h1,h2,h3,A5,n5,c5,gZ hl (⟨at_,st,n0,n1⟩:Rd) v (⟨at_,st,n2,n3⟩:Rd)⟩:Hg) pZ (⟨at_,st,n0,n1⟩:Rd) (⟨at_,st,n2,n3⟩:Rd) v hfk ⟨⟨hrk.1,hrk.2.1,dU2 hrk.2.2 hs hv hs⟩,by dsimp only;omega,by dsimp only;omega,by dsimp only;omega⟩ hE5 hopen hg U U U U U hT hV hcan0 hcan1,hab⟩,?_⟩
 have hput:=gD.put (k:=k) (h:=(⟨h0,h1,h2,h3,A5,n5,c5,gZ hl (⟨at_,st,n0,n1⟩:Rd) v (⟨at_,st,n2,n3⟩:Rd)⟩:Hg)) (hm.fact 7 rfl) (hm.fact 10 rfl)
 have hm:=hm.also (gD.lasts2 rfl) hput
 exact (hm.pick [0] [0,1] [2,3,4,5,6,1,7,0,9,10] U U).cy
theorem dZ1 {wd fm:ByteArray} {tn nn:Nat} (h:mL wd=some fm) (h1:tn=cW fm fm.size) (h2:tn+nn=fm.size):(∃kd,kd∈([1,4,5,7,8]:List Int)/\gF wd=some kd/\tn=2/\nn=0)∨(gF wd=some 6/\tn=3/\nn=0)∨(wd=⟨#[98,111,111,107]⟩/\gF wd=none/\tn=2/\nn=3)∨(wd=⟨#[99,97,110,99,101,108]⟩/\gF wd=none/\tn=1/\nn=0)∨(wd=⟨#[115,116,97,114,116]⟩/\gF wd=none/\tn=4/\nn=3)∨(wd=⟨#[115,119,97,112]⟩/\gF wd=none/\tn=3/\nn=4)∨(wd=⟨#[101,120,116,101,110,100]⟩/\gF wd=none/\tn=1/\nn=1)∨(wd=⟨#[99,108,111,115,101]⟩/\gF wd=none/\tn=2/\nn=2)∨(wd=⟨#[112,97,121]⟩/\gF wd=none/\tn=1/\nn=1):=by
 rcases bA8 h with ⟨rfl,rfl⟩|⟨rfl,rfl⟩|⟨rfl,rfl⟩|⟨rfl,rfl⟩|⟨rfl,rfl⟩|⟨rfl,rfl⟩|⟨rfl,rfl⟩|⟨rfl,rfl⟩|⟨rfl,rfl⟩|⟨rfl,rfl⟩|⟨rfl,rfl⟩|⟨rfl,rfl⟩|⟨rfl,rfl⟩
 ·have hc:cW ⟨#[119,110]⟩ (⟨#[119,110]⟩:ByteArray).size=1:=by kernel_rfl
  have hz:(⟨#[119,110]⟩:ByteArray).size=2:=rfl
  rw [hc] at h1;rw [hz] at h2
  exact .inr (.inr (.inr (.inr (.inr (.inr (.inr (.inr (⟨U,cM3,h1,by omega⟩))))))))
 ·have hc:cW ⟨#[119,119,110,110]⟩ (⟨#[119,119,110,110]⟩:ByteArray).size=2:=by kernel_rfl
  have hz:(⟨#[119,119,110,110]⟩:ByteArray).size=4:=rfl
  rw [hc] at h1;rw [hz] at h2
  exact .inr (.inr (.inr (.inr (.inr (.inr (.inr (.inl ⟨U,bF8,h1,by omega⟩)))))))
 ·have hc:cW ⟨#[119,110]⟩ (⟨#[119,110]⟩:ByteArray).size=1:=by kernel_rfl
  have hz:(⟨#[119,110]⟩:ByteArray).size=2:=rfl
  rw [hc] at h1;rw [hz] at h2
  exact .inr (.inr (.inr (.inr (.inr (.inr (.inl ⟨U,bD5,h1,by omega⟩))))))
 ·have hc:cW ⟨#[119,119,110,110,119,110,110]⟩ (⟨#[119,119,110,110,119,110,110]⟩:ByteArray).size=3:=by kernel_rfl
  have hz:(⟨#[119,119,110,110,119,110,110]⟩:ByteArray).size=7:=rfl
  rw [hc] at h1;rw [hz] at h2
  exact .inr (.inr (.inr (.inr (.inr (.inl ⟨U,cR0,h1,by omega⟩)))))
 ·have hc:cW ⟨#[119,119,110,119,119,110,110]⟩ (⟨#[119,119,110,119,119,110,110]⟩:ByteArray).size=4:=by kernel_rfl
  have hz:(⟨#[119,119,110,119,119,110,110]⟩:ByteArray).size=7:=rfl
  rw [hc] at h1;rw [hz] at h2
  exact .inr (.inr (.inr (.inr (.inl ⟨U,bG8,h1,by omega⟩))))
 ·have hc:cW ⟨#[119]⟩ (⟨#[119]⟩:ByteArray).size=1:=by kernel_rfl
  have hz:(⟨#[119]⟩:ByteArray).size=1:=rfl
  rw [hc] at h1;rw [hz] at h2
  exact .inr (.inr (.inr (.inl ⟨U,bC5,h1,by omega⟩)))
 ·have hc:cW ⟨#[119,119,110,110,110]⟩ (⟨#[119,119,110,110,110]⟩:ByteArray).size=2:=by kernel_rfl
  have hz:(⟨#[119,119,110,110,110]⟩:ByteArray).size=5:=rfl
  rw [hc] at h1;rw [hz] at h2
  exact .inr (.inr (.inl ⟨U,cQ0,h1,by omega⟩))
 ·have hc:cW ⟨#[119,119,119]⟩ (⟨#[119,119,119]⟩:ByteArray).size=3:=by kernel_rfl
  have hz:(⟨#[119,119,119]⟩:ByteArray).size=3:=rfl
  rw [hc] at h1;rw [hz] at h2
  exact .inr (.inl ⟨cD8,h1,by omega⟩)
 ·have hc:cW ⟨#[119,119]⟩ (⟨#[119,119]⟩:ByteArray).size=2:=by kernel_rfl
  have hz:(⟨#[119,119]⟩:ByteArray).size=2:=rfl
  rw [hc] at h1;rw [hz] at h2
  exact .inl ⟨8,by decide,dY0,h1,by omega⟩
 ·have hc:cW ⟨#[119,119]⟩ (⟨#[119,119]⟩:ByteArray).size=2:=by kernel_rfl
  have hz:(⟨#[119,119]⟩:ByteArray).size=2:=rfl
  rw [hc] at h1;rw [hz] at h2
  exact .inl ⟨7,by decide,dW0,h1,by omega⟩
 ·have hc:cW ⟨#[119,119]⟩ (⟨#[119,119]⟩:ByteArray).size=2:=by kernel_rfl
  have hz:(⟨#[119,119]⟩:ByteArray).size=2:=rfl
  rw [hc] at h1;rw [hz] at h2
  exact .inl ⟨5,by decide,dX0,h1,by omega⟩
 ·have hc:cW ⟨#[119,119]⟩ (⟨#[119,119]⟩:ByteArray).size=2:=by kernel_rfl
  have hz:(⟨#[119,119]⟩:ByteArray).size=2:=rfl
  rw [hc] at h1;rw [hz] at h2
  exact .inl ⟨4,by decide,dZ0,h1,by omega⟩
 ·have hc:cW ⟨#[119,119]⟩ (⟨#[119,119]⟩:ByteArray).size=2:=by kernel_rfl
  have hz:(⟨#[119,119]⟩:ByteArray).size=2:=rfl
  rw [hc] at h1;rw [hz] at h2
  exact .inl ⟨1,by decide,cC8,h1,by omega⟩
theorem dX9 {α:Type} {l:List α} (h:l.length=1):∃a,l= [a]:=by
 match l,h with
 | [a],_=>exact ⟨a,rfl⟩
theorem eI3 {α:Type} {l:List α} (h:l.length=2):∃a b,l= [a,b]:=by
 match l,h with
 | [a,b],_=>exact ⟨a,b,rfl⟩
theorem eJ3 {α:Type} {l:List α} (h:l.length=3):∃a b c,l= [a,b,c]:=by
 match l,h with
 | [a,b,c],_=>exact ⟨a,b,c,rfl⟩
theorem fE2 {α:Type} {l:List α} (h:l.length=4):∃a b c d,l= [a,b,c,d]:=by
 match l,h with
 | [a,b,c,d],_=>exact ⟨a,b,c,d,rfl⟩
theorem xS {α:Type} {enc:α->List Value} {k:Nat} {T:TypeId} {w:World} {A:Option Addr} {n:Nat} {l:List α} (h:SlT enc k T w A n l):0 < n->∃b o,A=some ⟨b,o,none⟩:=fun hn=>by
 obtain ⟨b,o,hA,_⟩:=h.get hn
 exact ⟨b,o,hA⟩
noncomputable def doA (V:ByteArray->Option ByteArray) (T:ByteArray->Option Bool) (cl:List Cs) (at_:Int) (s:As) (wd:ByteArray) (tl:List ByteArray) (nl:List Int):As:=match gF wd with
 |some kd=>bN6 V T s ⟨at_,tAt tl 0,tAt tl 1,kd,if kd=6 then tAt tl 2 else ⟨#[]⟩⟩
 |none=>if wd=⟨#[98,111,111,107]⟩ then cX6 cl s ⟨tAt tl 0,tAt tl 1,nAt nl 0,nAt nl 1,at_,nAt nl 2⟩ else if wd=⟨#[99,97,110,99,101,108]⟩ then { s with fb:=yL s.fb (tAt tl 0) }
  else if wd=⟨#[115,116,97,114,116]⟩ then bS7 V T at_ s (tAt tl 0) (tAt tl 1) (tAt tl 2) (tAt tl 3) (nAt nl 0) (nAt nl 1) (nAt nl 2) else if wd=⟨#[112,97,121]⟩ then s else if wd=⟨#[101,120,116,101,110,100]⟩ then rU s (tAt tl 0) (nAt nl 0)
  else if wd=⟨#[99,108,111,115,101]⟩ then uZ T at_ s (tAt tl 0) (tAt tl 1) (nAt nl 0) (nAt nl 1) else xU V T at_ s (tAt tl 0) (tAt tl 1) (tAt tl 2) (nAt nl 0) (nAt nl 1) (nAt nl 2) (nAt nl 3)
noncomputable def mF (V:ByteArray->Option ByteArray) (T:ByteArray->Option Bool) (cl:List Cs) (at_:Int) (ws:ByteArray) (s:As):As:=match qT ws with
 |none=>s
 |some (wd,tl,nl)=>doA V T cl at_ s wd tl nl
section
variable {V:ByteArray->Option ByteArray} {T:ByteArray->Option Bool} {cl:List Cs} {at_:Int} {s:As} {ws wd:ByteArray}
theorem dH0 (h:qT ws=none):mF V T cl at_ ws s=s:=by unfold mF;rw [h]
theorem cQ7 {tl:List ByteArray} {nl:List Int} (h:qT ws=some (wd,tl,nl)):mF V T cl at_ ws s=doA V T cl at_ s wd tl nl:=by unfold mF;rw [h]
theorem fQ1 {kd:Int} {x0 x1:ByteArray} {nl:List Int} (h:gF wd=some kd) (h6:kd≠6):doA V T cl at_ s wd [x0,x1] nl=bN6 V T s ⟨at_,x0,x1,kd,⟨#[]⟩⟩:=by
 unfold doA
 rw [h]
 show bN6 V T s ⟨at_,x0,x1,kd,if kd=6 then _ else ⟨#[]⟩⟩=_
 rw [if_neg h6]
theorem dG8 {x0 x1 x2:ByteArray} {nl:List Int} (h:gF wd=some 6):doA V T cl at_ s wd [x0,x1,x2] nl=bN6 V T s ⟨at_,x0,x1,6,x2⟩:=by
 unfold doA
 rw [h];rfl
theorem eJ2 {x0 x1:ByteArray} {y0 y1 y2:Int}:doA V T cl at_ s ⟨#[98,111,111,107]⟩ [x0,x1] [y0,y1,y2]=cX6 cl s ⟨x0,x1,y0,y1,at_,y2⟩:=by
 unfold doA
 rw [cQ0]
 dsimp only
 rw [if_pos rfl];rfl
theorem dW4 {x0:ByteArray} {nl:List Int}:doA V T cl at_ s ⟨#[99,97,110,99,101,108]⟩ [x0] nl={ s with fb:=yL s.fb x0 }:=by
 unfold doA
 rw [bC5]
 dsimp only
 rw [if_neg (by decide),if_pos rfl];rfl
theorem dH8 {x0 x1 x2 x3:ByteArray} {y0 y1 y2:Int}:doA V T cl at_ s ⟨#[115,116,97,114,116]⟩ [x0,x1,x2,x3] [y0,y1,y2]=bS7 V T at_ s x0 x1 x2 x3 y0 y1 y2:=by
 unfold doA
 rw [bG8]
 dsimp only
 rw [if_neg (by decide),if_neg (by decide),if_pos rfl];rfl
theorem eS6 {x0:ByteArray} {y0:Int}:doA V T cl at_ s ⟨#[112,97,121]⟩ [x0] [y0]=s:=by
 unfold doA
 rw [cM3]
 dsimp only
 rw [if_neg (by decide),if_neg (by decide),if_neg (by decide),if_pos rfl]
theorem dX4 {x0:ByteArray} {y0:Int}:doA V T cl at_ s ⟨#[101,120,116,101,110,100]⟩ [x0] [y0]=rU s x0 y0:=by
 unfold doA
 rw [bD5]
 dsimp only
 rw [if_neg (by decide),if_neg (by decide),if_neg (by decide),if_neg (by decide),if_pos rfl];rfl
theorem dF8 {x0 x1:ByteArray} {y0 y1:Int}:doA V T cl at_ s ⟨#[99,108,111,115,101]⟩ [x0,x1] [y0,y1]=uZ T at_ s x0 x1 y0 y1:=by
 unfold doA
 rw [bF8]
 dsimp only
 rw [if_neg (by decide),if_neg (by decide),if_neg (by decide),if_neg (by decide),if_neg (by decide),if_pos rfl];rfl
theorem eK2 {x0 x1 x2:ByteArray} {y0 y1 y2 y3:Int}:doA V T cl at_ s ⟨#[115,119,97,112]⟩ [x0,x1,x2] [y0,y1,y2,y3]=xU V T at_ s x0 x1 x2 y0 y1 y2 y3:=by
 unfold doA
 rw [cR0]
 dsimp only
 rw [if_neg (by decide),if_neg (by decide),if_neg (by decide),if_neg (by decide),if_neg (by decide),if_neg (by decide)];rfl
end
theorem cR7 (w0:World) (u0 u2 u3 u4 u5 u6 u7 u8 u9 jK jL jM jN jO jP:Value) (go gv gs fT fQ fS fU gC:Nat) (cA:Option Addr) (cn cc:Nat) (cl:List Cs) (V:ByteArray->Option ByteArray) (T:ByteArray->Option Bool) (rv:Value) (rn:Nat) (rx:List Value) (hd: [gv,gs,fT,fQ,fS,fU,gC].Nodup) (fp:ByteArray->Option Int) (σ:Os) (lv:Value) (at_:Int) (dk:ByteArray) (no:Int) (ws:ByteArray) (w:World) (hat: -4000000000000000000<=at_/\at_<=4000000000000000000) (hws:ws.size<=1000) (hco:∀x∈cl,uF x) (hcn:cn<=1000) (hlg:σ.lg.length<=99990) (hso:cM4 σ) (hfb:Few σ.fb 499) (hfh:Few σ.fh 499) (hpo:bB0 fp) (hm:gM ⟨0,w0,none, [68,9,3]⟩ (fun _=>True) [(go,119, [u0,.slice cA cn cc,u2,u3,u4,u5,u6,u7,u8,u9,jK,jL,jM,jN,jO,jP,.map (some gv),.map (some gs),.map (some fT),lv,.map (some fQ),.map (some fS),.map (some fU),.map (some gC),rv])] [⟨lv,74,5,σ.lg.length,σ.lg.flatMap dP⟩,⟨rv,226,2,rn,rx⟩] [bV vS dN w0.heap.size gv (V),bV vB dN w0.heap.size gs (T),bV qU dN w0.heap.size fT (σ.fs),bV vB nD w0.heap.size fQ (σ.fa),bV qA dN w0.heap.size fS (σ.fb),bV nH dN w0.heap.size fU (σ.fh),bV vI dN w0.heap.size gC (fp),gD 68 σ.fh,bU dV 2 84 w0.heap.size none cA cn cl,TxtO w0.heap.size none] w):
 Calls prog 130 #[.pointer (some ⟨go,0,none⟩),.agg #[.int .i64 at_,.string dk,.int .i64 no,.string ws]] w (fun e w'=>∃lv' σ' fp' E,e=.returned (.int .i64 E)/\(kU V T (fun b=>jR cl [b]=0) at_ σ σ'/\fY σ'=mF V T cl at_ ws (fY σ))/\bB0 fp'/\gM ⟨0,w0,none, [68,9,3]⟩ (fun _=>True) [(go,119, [u0,.slice cA cn cc,u2,u3,u4,u5,u6,u7,u8,u9,jK,jL,jM,jN,jO,jP,.map (some gv),.map (some gs),.map (some fT),lv',.map (some fQ),.map (some fS),.map (some fU),.map (some gC),rv])] [⟨lv',74,5,σ'.lg.length,σ'.lg.flatMap dP⟩,⟨rv,226,2,rn,rx⟩] [bV vS dN w0.heap.size gv (V),bV vB dN w0.heap.size gs (T),bV qU dN w0.heap.size fT (σ'.fs),bV vB nD w0.heap.size fQ (σ'.fa),bV qA dN w0.heap.size fS (σ'.fb),bV nH dN w0.heap.size fU (σ'.fh),bV vI dN w0.heap.size gC (fp'),gD 68 σ'.fh,bU dV 2 84 w0.heap.size none cA cn cl,TxtO w0.heap.size none] w'):=by
 refine cV ⟨129,w0,none, [68,9,3]⟩ func130 U ntmps130 U hm.cy (bS (fG U U U fun g1=>bZ U (bR ?_)))
 refine pC (γ:=Nat×ByteArray×Option Addr×Nat×Nat×Option Addr×Nat×Nat×Bool×List ByteArray×List Int) (I:=(fun (gq:Nat×ByteArray×Option Addr×Nat×Nat×Option Addr×Nat×Nat×Bool×List ByteArray×List Int)=>((gq.2.2.2.2.2.2.2.2.1=true->(∃fm,mL gq.2.1=some fm/\gq.2.2.2.1=cW fm fm.size/\gq.2.2.2.1+gq.2.2.2.2.2.2.1=fm.size)/\qT ws=some (gq.2.1,gq.2.2.2.2.2.2.2.2.2.1,gq.2.2.2.2.2.2.2.2.2.2))/\(gq.2.2.2.2.2.2.2.2.1=false->qT ws=none))/\((∀x∈gq.2.2.2.2.2.2.2.2.2.1,x.size<=1000)/\∀x∈gq.2.2.2.2.2.2.2.2.2.2, -1000000000<=x/\x<=1000000000)/\(gq.2.2.2.2.2.2.2.2.2.1.length=gq.2.2.2.1/\gq.2.2.2.2.2.2.2.2.2.2.length=gq.2.2.2.2.2.2.1)/\(0 < gq.2.2.2.1->∃b o,gq.2.2.1=some ⟨b,o,none⟩)/\(0 < gq.2.2.2.2.2.2.1->∃b o,gq.2.2.2.2.2.1=some ⟨b,o,none⟩))) (S':=(fun (gq:Nat×ByteArray×Option Addr×Nat×Nat×Option Addr×Nat×Nat×Bool×List ByteArray×List Int)=> [(0,.pointer (some ⟨go,0,none⟩)),(3,.pointer (some ⟨g1,0,none⟩)),(4,.int .i64 0),(5,.pointer (some ⟨gq.1,0,none⟩)),(6,.bool gq.2.2.2.2.2.2.2.2.1)])) (K':=(fun (gq:Nat×ByteArray×Option Addr×Nat×Nat×Option Addr×Nat×Nat×Bool×List ByteArray×List Int)=>fun _=>True)) (L':=(fun (gq:Nat×ByteArray×Option Addr×Nat×Nat×Option Addr×Nat×Nat×Bool×List ByteArray×List Int)=> [(gq.1,271, [.string gq.2.1,.slice gq.2.2.1 gq.2.2.2.1 gq.2.2.2.2.1,.slice gq.2.2.2.2.2.1 gq.2.2.2.2.2.2.1 gq.2.2.2.2.2.2.2.1]),(g1,171, [.int .i64 at_,.string dk,.int .i64 no,.string ws]),(go,119, [u0,.slice cA cn cc,u2,u3,u4,u5,u6,u7,u8,u9,jK,jL,jM,jN,jO,jP,.map (some gv),.map (some gs),.map (some fT),lv,.map (some fQ),.map (some fS),.map (some fU),.map (some gC),rv])])) (O':=(fun (gq:Nat×ByteArray×Option Addr×Nat×Nat×Option Addr×Nat×Nat×Bool×List ByteArray×List Int)=> [⟨lv,74,5,σ.lg.length,σ.lg.flatMap dP⟩,⟨rv,226,2,rn,rx⟩])) (X':=(fun (gq:Nat×ByteArray×Option Addr×Nat×Nat×Option Addr×Nat×Nat×Bool×List ByteArray×List Int)=> [fun wy=>SlT fH 1 9 wy gq.2.2.1 gq.2.2.2.1 gq.2.2.2.2.2.2.2.2.2.1/\SlT kN 1 3 wy gq.2.2.2.2.2.1 gq.2.2.2.2.2.2.1 gq.2.2.2.2.2.2.2.2.2.2,bV vS dN w0.heap.size gv (V),bV vB dN w0.heap.size gs (T),bV qU dN w0.heap.size fT (σ.fs),bV vB nD w0.heap.size fQ (σ.fa),bV qA dN w0.heap.size fS (σ.fb),bV nH dN w0.heap.size fU (σ.fh),bV vI dN w0.heap.size gC (fp),gD 68 σ.fh,bU dV 2 84 w0.heap.size none cA cn cl,TxtO w0.heap.size none])) ?_ ?_
 ·refine gd (fun wz=>Blk wz g1 171 [.int .i64 at_,.string dk,.int .i64 no,.string ws]/\True) mixed (fun _ hm=>⟨hm.bl 0,trivial⟩) fun z=>?_
  refine wq 0 U (bQ qW U U) (wq 1 U (cN fE U (fun _ hm=>hm.1) U) ?_)
  refine kK [2,7] (by kernel_rfl) U ⟨⟨_,U,?_⟩,⟨_,U,?_⟩,trivial⟩
  ·refine jC (γ:=Nat) (val:=(fun g=> .map (some g))) (φ:=(fun g=>True)) (Y:=(fun g=>fun wy=>bV vS dN w0.heap.size g mL wy)) U eH5 U U (fun wx hm=>(cG3 wx).mono fun _ _ ⟨g,he,vP,hg⟩=>⟨g,he,trivial,hg,vP.lower hm.g.size⟩) (fun _=>bV.lasts2) ?_
   rintro gf mT
   clear mT
   refine bE (nw 10 7 (fun _ hm=>⟨hm.bl 0,trivial⟩) fun z=>?_)
   refine kK [3,7] (by kernel_rfl) U ⟨⟨_,U,?_⟩,⟨_,U,?_⟩,trivial⟩
   ·refine jC (γ:=ByteArray×Option Addr×Nat×Nat×Option Addr×Nat×Nat×Bool×List ByteArray×List Int) (val:=(fun g=> .tuple #[.agg #[.string g.1,.slice g.2.1 g.2.2.1 g.2.2.2.1,.slice g.2.2.2.2.1 g.2.2.2.2.2.1 g.2.2.2.2.2.2.1],.bool g.2.2.2.2.2.2.2.1])) (φ:=(fun g=>((g.2.2.2.2.2.2.2.1=true->(∃fm,mL g.1=some fm/\g.2.2.1=cW fm fm.size/\g.2.2.1+g.2.2.2.2.2.1=fm.size)/\qT ws=some (g.1,g.2.2.2.2.2.2.2.2.1,g.2.2.2.2.2.2.2.2.2))/\(g.2.2.2.2.2.2.2.1=false->qT ws=none))/\((∀x∈g.2.2.2.2.2.2.2.2.1,x.size<=1000)/\∀x∈g.2.2.2.2.2.2.2.2.2, -1000000000<=x/\x<=1000000000)/\(g.2.2.2.2.2.2.2.2.1.length=g.2.2.1/\g.2.2.2.2.2.2.2.2.2.length=g.2.2.2.2.2.1)/\(0 < g.2.2.1->∃b o,g.2.1=some ⟨b,o,none⟩)/\(0 < g.2.2.2.2.2.1->∃b o,g.2.2.2.2.1=some ⟨b,o,none⟩))) (Y:=(fun g=>fun wy=>SlT fH 1 9 wy g.2.1 g.2.2.1 g.2.2.2.2.2.2.2.2.1/\SlT kN 1 3 wy g.2.2.2.2.1 g.2.2.2.2.2.1 g.2.2.2.2.2.2.2.2.2)) U dP7 U U (fun wx hm=>(cR1 ws gf _ wx ((hm.fact 0 U)) (hm.fact 10 U).1 hws).mono fun _ _ ⟨wd,A,n1,c1,A2,n2,c2,ok,tl,nl,he,h1,h2,h3,hg⟩=>⟨(wd,A,n1,c1,A2,n2,c2,ok,tl,nl),he,⟨h1,h3,⟨h2.1.len,h2.2.len⟩,xS h2.1,xS h2.2⟩,hg,h2⟩) (fun _=>(Lasts2.and_ (SlT.lasts2 U) (SlT.lasts2 U))) ?_
    rintro ⟨wd,tA,tn,tc,nA,nn,nc,ok,tl,nl⟩ hph
    dsimp only at hph ⊢
    refine bE (nw 10 15 (fun _ hm=>⟨hm.bl 0,trivial⟩) fun z=>wq 4 U (bJ U) (wq 5 U (cR U U) (wq 6 U (cR U U) (eC 7 U (dH cM9 U fun g2=>bE (nw 10 255 (fun _ hm=>⟨hm.bl 1,trivial⟩) fun z=>eC 8 U (jX (cs':= [.string wd,.slice tA tn tc,.slice nA nn nc]) 0 rY U U U U (bE (nw 10 511 (fun _ hm=>⟨hm.bl 1,trivial⟩) fun z=>wq 9 U (cU U) (jH ?_))))))))))
    exact fK (g2,wd,tA,tn,tc,nA,nn,nc,ok,tl,nl) hph ⟨U,U,U,U,U,trivial⟩ (fun _ hm=>hm.pick [0,1,2] [0,1] [0,2,3,4,5,6,7,8,9,10,11] U U)
   refine dH cM9 U fun g3=>bE (nw 10 135 (fun _ hm=>⟨hm.bl 1,trivial⟩) fun z=>eC 3 U ?_)
   refine jC (γ:=ByteArray×Option Addr×Nat×Nat×Option Addr×Nat×Nat×Bool×List ByteArray×List Int) (val:=(fun g=> .tuple #[.agg #[.string g.1,.slice g.2.1 g.2.2.1 g.2.2.2.1,.slice g.2.2.2.2.1 g.2.2.2.2.2.1 g.2.2.2.2.2.2.1],.bool g.2.2.2.2.2.2.2.1])) (φ:=(fun g=>((g.2.2.2.2.2.2.2.1=true->(∃fm,mL g.1=some fm/\g.2.2.1=cW fm fm.size/\g.2.2.1+g.2.2.2.2.2.1=fm.size)/\qT ws=some (g.1,g.2.2.2.2.2.2.2.2.1,g.2.2.2.2.2.2.2.2.2))/\(g.2.2.2.2.2.2.2.1=false->qT ws=none))/\((∀x∈g.2.2.2.2.2.2.2.2.1,x.size<=1000)/\∀x∈g.2.2.2.2.2.2.2.2.2, -1000000000<=x/\x<=1000000000)/\(g.2.2.2.2.2.2.2.2.1.length=g.2.2.1/\g.2.2.2.2.2.2.2.2.2.length=g.2.2.2.2.2.1)/\(0 < g.2.2.1->∃b o,g.2.1=some ⟨b,o,none⟩)/\(0 < g.2.2.2.2.2.1->∃b o,g.2.2.2.2.1=some ⟨b,o,none⟩))) (Y:=(fun g=>fun wy=>SlT fH 1 9 wy g.2.1 g.2.2.1 g.2.2.2.2.2.2.2.2.1/\SlT kN 1 3 wy g.2.2.2.2.1 g.2.2.2.2.2.1 g.2.2.2.2.2.2.2.2.2)) U dP7 U U (fun wx hm=>(cR1 ws gf _ wx ((hm.fact 0 U)) (hm.fact 10 U).1 hws).mono fun _ _ ⟨wd,A,n1,c1,A2,n2,c2,ok,tl,nl,he,h1,h2,h3,hg⟩=>⟨(wd,A,n1,c1,A2,n2,c2,ok,tl,nl),he,⟨h1,h3,⟨h2.1.len,h2.2.len⟩,xS h2.1,xS h2.2⟩,hg,h2⟩) (fun _=>(Lasts2.and_ (SlT.lasts2 U) (SlT.lasts2 U))) ?_
   rintro ⟨wd,tA,tn,tc,nA,nn,nc,ok,tl,nl⟩ hph
   dsimp only at hph ⊢
   refine bE (nw 10 143 (fun _ hm=>⟨hm.bl 1,trivial⟩) fun z=>wq 4 U (bJ U) (wq 5 U (cR U U) (wq 6 U (cR U U) (eC 8 U (jX (cs':= [.string wd,.slice tA tn tc,.slice nA nn nc]) 0 rY U U U U (bE (nw 10 511 (fun _ hm=>⟨hm.bl 1,trivial⟩) fun z=>wq 9 U (cU U) (jH ?_))))))))
   exact fK (g3,wd,tA,tn,tc,nA,nn,nc,ok,tl,nl) hph ⟨U,U,U,U,U,trivial⟩ (fun _ hm=>hm.pick [0,1,2] [0,1] [0,2,3,4,5,6,7,8,9,10,11] U U)
  refine dH cM9 U fun g4=>bE (nw 10 131 (fun _ hm=>⟨hm.bl 1,trivial⟩) fun z=>eC 2 U ?_)
  refine jC (γ:=Nat) (val:=(fun g=> .map (some g))) (φ:=(fun g=>True)) (Y:=(fun g=>fun wy=>bV vS dN w0.heap.size g mL wy)) U eH5 U U (fun wx hm=>(cG3 wx).mono fun _ _ ⟨g,he,vP,hg⟩=>⟨g,he,trivial,hg,vP.lower hm.g.size⟩) (fun _=>bV.lasts2) ?_
  rintro gf mT
  clear mT
  refine bE (nw 10 135 (fun _ hm=>⟨hm.bl 1,trivial⟩) fun z=>eC 3 U ?_)
  refine jC (γ:=ByteArray×Option Addr×Nat×Nat×Option Addr×Nat×Nat×Bool×List ByteArray×List Int) (val:=(fun g=> .tuple #[.agg #[.string g.1,.slice g.2.1 g.2.2.1 g.2.2.2.1,.slice g.2.2.2.2.1 g.2.2.2.2.2.1 g.2.2.2.2.2.2.1],.bool g.2.2.2.2.2.2.2.1])) (φ:=(fun g=>((g.2.2.2.2.2.2.2.1=true->(∃fm,mL g.1=some fm/\g.2.2.1=cW fm fm.size/\g.2.2.1+g.2.2.2.2.2.1=fm.size)/\qT ws=some (g.1,g.2.2.2.2.2.2.2.2.1,g.2.2.2.2.2.2.2.2.2))/\(g.2.2.2.2.2.2.2.1=false->qT ws=none))/\((∀x∈g.2.2.2.2.2.2.2.2.1,x.size<=1000)/\∀x∈g.2.2.2.2.2.2.2.2.2, -1000000000<=x/\x<=1000000000)/\(g.2.2.2.2.2.2.2.2.1.length=g.2.2.1/\g.2.2.2.2.2.2.2.2.2.length=g.2.2.2.2.2.1)/\(0 < g.2.2.1->∃b o,g.2.1=some ⟨b,o,none⟩)/\(0 < g.2.2.2.2.2.1->∃b o,g.2.2.2.2.1=some ⟨b,o,none⟩))) (Y:=(fun g=>fun wy=>SlT fH 1 9 wy g.2.1 g.2.2.1 g.2.2.2.2.2.2.2.2.1/\SlT kN 1 3 wy g.2.2.2.2.1 g.2.2.2.2.2.1 g.2.2.2.2.2.2.2.2.2)) U dP7 U U (fun wx hm=>(cR1 ws gf _ wx ((hm.fact 0 U)) (hm.fact 10 U).1 hws).mono fun _ _ ⟨wd,A,n1,c1,A2,n2,c2,ok,tl,nl,he,h1,h2,h3,hg⟩=>⟨(wd,A,n1,c1,A2,n2,c2,ok,tl,nl),he,⟨h1,h3,⟨h2.1.len,h2.2.len⟩,xS h2.1,xS h2.2⟩,hg,h2⟩) (fun _=>(Lasts2.and_ (SlT.lasts2 U) (SlT.lasts2 U))) ?_
  rintro ⟨wd,tA,tn,tc,nA,nn,nc,ok,tl,nl⟩ hph
  dsimp only at hph ⊢
  refine bE (nw 10 143 (fun _ hm=>⟨hm.bl 1,trivial⟩) fun z=>wq 4 U (bJ U) (wq 5 U (cR U U) (wq 6 U (cR U U) (eC 8 U (jX (cs':= [.string wd,.slice tA tn tc,.slice nA nn nc]) 0 rY U U U U (bE (nw 10 511 (fun _ hm=>⟨hm.bl 1,trivial⟩) fun z=>wq 9 U (cU U) (jH ?_))))))))
  exact fK (g4,wd,tA,tn,tc,nA,nn,nc,ok,tl,nl) hph ⟨U,U,U,U,U,trivial⟩ (fun _ hm=>hm.pick [0,1,2] [0,1] [0,2,3,4,5,6,7,8,9,10,11] U U)
 rintro ⟨gT,wd,tA,tn,tc,nA,nn,nc,ok,tl,nl⟩ cC
 replace cC:((ok=true->(∃fm,mL wd=some fm/\tn=cW fm fm.size/\tn+nn=fm.size)/\qT ws=some (wd,tl,nl))/\(ok=false->qT ws=none))/\((∀x∈tl,x.size<=1000)/\∀x∈nl, -1000000000<=x/\x<=1000000000)/\(tl.length=tn/\nl.length=nn)/\(0 < tn->∃b o,tA=some ⟨b,o,none⟩)/\(0 < nn->∃b o,nA=some ⟨b,o,none⟩):=cC
 dsimp only
 refine bH (bS ?_)
 obtain ⟨hfo,⟨htz,hnz⟩,⟨htl,hnl⟩,hta,hna⟩:=cC
 refine bP U (bB (cF U) U (bR ?_))
 refine dC U (fun hh=>?_) (fun hh=>?_)
 ·have hz:ok=false:=by simpa using hh
  refine bS (bZ U (bR (bM (bA ?_))))
  have hsm:fY σ=mF V T cl at_ ws (fY σ):=(dH0 (hfo.2 (by simpa using hz))).symm
  exact bK U U fun wx hm=>⟨lv,σ,fp,_,U,⟨.same σ,hsm⟩,hpo,(hm.pick [2] [0,1] [1,2,3,4,5,6,7,8,9,10] U U).cy⟩
 have hz:ok=true:=by simpa using hh
 refine bN (bD (bH (bH ?_)))
 have hok1:ok=true:=by simpa using hz
 obtain ⟨⟨fm,hf1,hf2,hf3⟩,hts⟩:=hfo.1 hok1
 have hfw:mF V T cl at_ ws (fY σ)=doA V T cl at_ (fY σ) wd tl nl:=cQ7 hts
 clear hts hfo
 refine cR5 (γ:=Unit) (fun _=>fun wy=>SlT fH 1 9 wy tA tn tl) (fun w hm=>⟨(),(hm.fact 0 U:(fun wy=>SlT fH 1 9 wy tA tn tl/\SlT kN 1 3 wy nA nn nl) w).1⟩) (fun _=>SlT.lasts2 U) fun _=>?_
 refine cR5 (γ:=Unit) (fun _=>fun wy=>SlT kN 1 3 wy nA nn nl) (fun w hm=>⟨(),(hm.fact 1 U:(fun wy=>SlT fH 1 9 wy tA tn tl/\SlT kN 1 3 wy nA nn nl) w).2⟩) (fun _=>SlT.lasts2 U) fun _=>?_
 rcases dZ1 hf1 hf2 hf3 with ⟨kd,hkd,xN,rfl,rfl⟩|⟨xN,rfl,rfl⟩|⟨rfl,xN,rfl,rfl⟩|⟨rfl,xN,rfl,rfl⟩|⟨rfl,xN,rfl,rfl⟩|⟨rfl,xN,rfl,rfl⟩|⟨rfl,xN,rfl,rfl⟩|⟨rfl,xN,rfl,rfl⟩|⟨rfl,xN,rfl,rfl⟩
 ·obtain ⟨x0,x1,rfl⟩:=eI3 htl
  obtain ⟨tb,uE,htA⟩:=hta (by decide)
  subst htA
  have hz0:x0.size<=1000:=htz _ (by simp)
  have hz1:x1.size<=1000:=htz _ (by simp)
  have hkb:1<=kd/\kd<=8/\kd≠6:=by simp at hkd;omega
  have hke:kd∈([1,4,5,6,7,8]:List Int):=by simp at hkd ⊢;omega
  have hdo:=hfw.trans (fQ1 xN hkb.2.2)
  refine gd (fun wz=>Blk wz gT 271 [.string wd,.slice (some ⟨tb,uE,none⟩) 2 tc,.slice nA 0 nc]/\True) mixed (fun _ hm=>⟨hm.bl 0,trivial⟩) fun z=>wq 1 U (bQ mE U U) (wq 2 U (cN fE U (fun _ hm=>hm.1) U) (eC 0 U ?_))
  refine jC (γ:=Nat) (val:=(fun g=> .map (some g))) (φ:=(fun g=>True)) (Y:=(fun g=>fun wy=>bV vI dN w0.heap.size g gF wy)) U bM4 U U (fun wx hm=>(qH wx).mono fun _ _ ⟨g,he,vP,hg⟩=>⟨g,he,trivial,hg,vP.lower hm.g.size⟩) (fun _=>bV.lasts2) ?_
  rintro gk mT
  clear mT
  refine bE (nw 9 7 (fun _ hm=>⟨hm.bl 0,trivial⟩) fun z=>eC 3 U (bB (gW (enc:=vI) (ek:=dN) (s:=wd) (e:=3) (0:Int) kB (by kernel_rfl) (by kernel_rfl) U U (fun _ hm=>(hm.fact 0 U))) U (bE (nw 9 15 (fun _ hm=>⟨hm.bl 0,trivial⟩) fun z=>wq 4 U (bJ U) (wq 5 U (cR U U) (dG 26 (v':= .int .i64 kd) U (congrArg vI (by rw [xN];rfl)) (wq 6 U (cR U U) (dG 27 (v':= .bool true) U (fH5 (by rw [xN];rfl)) (wq 7 U (cU U) (wq 8 U (cU U) (jH (bD (bS (bP U (bR (kQ U (bH (gd (fun wz=>Blk wz gT 271 [.string wd,.slice (some ⟨tb,uE,none⟩) 2 tc,.slice nA 0 nc]/\Blk wz g1 171 [.int .i64 at_,.string dk,.int .i64 no,.string ws]/\(fun wy=>SlT fH 1 9 wy (some ⟨tb,uE,none⟩) 2 [x0,x1]) wz/\True) mixed (fun _ hm=>⟨hm.bl 0,hm.bl 1,hm.fa 2,trivial⟩) fun z=>wq 0 U (bQ mP U U) (wq 1 U (cN fF U (fun _ hm=>hm.2.1) U) (wq 2 U (bQ kL U U) (wq 3 U (cN qJ U (fun _ hm=>hm.1) U) (wq 4 U (bT (j:=0) jY U U (by omega)) (wq 5 U (dL (k:=0) (v:= .string x0) fE U (fun _ hm=>(hm.2.2.1)) (U: [x0,x1][0]?=some x0) U U) (wq 6 U (bQ kL U U) (wq 7 U (cN qJ U (fun _ hm=>hm.1) U) (wq 8 U (bT (j:=1) jY U U (by omega)) ?_))))))))))))))))))))))))))
  refine wq 9 U (dL (k:=0) (v:= .string x1) fE U (fun _ hm=>(hm.2.2.1)) (U: [x0,x1][1]?=some x1) U U) (wq 10 U (bJ U) (wq 11 U (dJ (cs:= [.int .i64 at_,.string x0,.string x1,.int .i64 kd,.string ⟨#[]⟩]) U (by kernel_rfl)) (eC 12 U (dH cW1 U fun g5=>bE (nw 14 8191 (fun _ hm=>⟨hm.bl 1,hm.bl 2,hm.fa 2,trivial⟩) fun z=>eC 13 U (jX (cs':= [.int .i64 at_,.string x0,.string x1,.int .i64 kd,.string ⟨#[]⟩]) 0 fR U U U U (bE (nw 14 16383 (fun _ hm=>⟨hm.bl 1,hm.bl 2,hm.fa 2,trivial⟩) fun z=>jH (bD (bH (bS (bP U (bB (eN U U) U (bL 42 (v':= .bool false) U (fH5 (decide_eq_false hkb.2.2)) (bR (jU U (bN (bD (bS (bP U (bB (cX fR U (fun _ hm=>hm.blkI 0 U) U U) U ?_)))))))))))))))))))))
  refine fO (γ:=Value×Os×(ByteArray->Option Int)×Int) (val:=fun q=> .int .i64 q.2.2.2) (φ:=(fun (q:Value×Os×(ByteArray->Option Int)×Int)=>(kU V T (fun b=>jR cl [b]=0) at_ σ q.2.1/\fY q.2.1=mF V T cl at_ ws (fY σ))/\bB0 q.2.2.1)) (K':=fun _=>fun _=>True) (L':=(fun (q:Value×Os×(ByteArray->Option Int)×Int)=> [(go,119, [u0,.slice cA cn cc,u2,u3,u4,u5,u6,u7,u8,u9,jK,jL,jM,jN,jO,jP,.map (some gv),.map (some gs),.map (some fT),q.1,.map (some fQ),.map (some fS),.map (some fU),.map (some gC),rv])])) (O':=(fun (q:Value×Os×(ByteArray->Option Int)×Int)=> [⟨q.1,74,5,q.2.1.lg.length,q.2.1.lg.flatMap dP⟩,⟨rv,226,2,rn,rx⟩])) (X':=(fun (q:Value×Os×(ByteArray->Option Int)×Int)=> [bV vS dN w0.heap.size gv (V),bV vB dN w0.heap.size gs (T),bV qU dN w0.heap.size fT (q.2.1.fs),bV vB nD w0.heap.size fQ (q.2.1.fa),bV qA dN w0.heap.size fS (q.2.1.fb),bV nH dN w0.heap.size fU (q.2.1.fh),bV vI dN w0.heap.size gC (q.2.2.1),gD 68 q.2.1.fh,bU dV 2 84 w0.heap.size none cA cn cl,TxtO w0.heap.size none])) U eI5 U U (fun wx hm=>(cD3 w0 u0 u2 u3 u4 u5 u6 u7 u8 u9 jK jL jM jN jO jP go gv gs fT fQ fS fU gC cA cn cc cl V T rv rn rx hd (fun b=>jR cl [b]=0) fp σ lv at_ x0 x1 kd ⟨#[]⟩ wx (by omega) ⟨hat,⟨by dsimp only;omega,by dsimp only;omega⟩,by dsimp only;omega,by dsimp only;omega,by show (⟨#[]⟩:ByteArray).size<=1000000;decide⟩ hke (fun _=>U) (hm.pick [3] [0,1] [4,5,6,7,8,9,10,11,12,13] U U).cy).mono fun _ _ ⟨qM,σ2,E,he,h1,vP⟩=>⟨(qM,σ2,fp,E),he,⟨⟨h1.1,h1.2.trans hdo.symm⟩,hpo⟩,vP.cy⟩) ?_
  rintro ⟨qM,σ2,fp2,E2⟩ hst
  dsimp only at hst ⊢
  refine bZ U (bR (bM (bA ?_)))
  exact bK U U fun wx hm=>⟨qM,σ2,fp2,E2,U,hst.1,hst.2,(hm.pick [0] [0,1] [0,1,2,3,4,5,6,7,8,9] U U).cy⟩
 ·obtain ⟨x0,x1,x2,rfl⟩:=eJ3 htl
  obtain ⟨tb,uE,htA⟩:=hta (by decide)
  subst htA
  have hz0:x0.size<=1000:=htz _ (by simp)
  have hz1:x1.size<=1000:=htz _ (by simp)
  have hz2:x2.size<=1000:=htz _ (by simp)
  have hdo:=hfw.trans (dG8 xN)
  refine gd (fun wz=>Blk wz gT 271 [.string wd,.slice (some ⟨tb,uE,none⟩) 3 tc,.slice nA 0 nc]/\True) mixed (fun _ hm=>⟨hm.bl 0,trivial⟩) fun z=>wq 1 U (bQ mE U U) (wq 2 U (cN fE U (fun _ hm=>hm.1) U) (eC 0 U ?_))
  refine jC (γ:=Nat) (val:=(fun g=> .map (some g))) (φ:=(fun g=>True)) (Y:=(fun g=>fun wy=>bV vI dN w0.heap.size g gF wy)) U bM4 U U (fun wx hm=>(qH wx).mono fun _ _ ⟨g,he,vP,hg⟩=>⟨g,he,trivial,hg,vP.lower hm.g.size⟩) (fun _=>bV.lasts2) ?_
  rintro gk mT
  clear mT
  refine bE (nw 9 7 (fun _ hm=>⟨hm.bl 0,trivial⟩) fun z=>eC 3 U (bB (gW (enc:=vI) (ek:=dN) (s:=wd) (e:=3) (0:Int) kB (by kernel_rfl) (by kernel_rfl) U U (fun _ hm=>(hm.fact 0 U))) U (bE (nw 9 15 (fun _ hm=>⟨hm.bl 0,trivial⟩) fun z=>wq 4 U (bJ U) (wq 5 U (cR U U) (dG 26 (v':= .int .i64 6) U (congrArg vI (by rw [xN];rfl)) (wq 6 U (cR U U) (dG 27 (v':= .bool true) U (fH5 (by rw [xN];rfl)) (wq 7 U (cU U) (wq 8 U (cU U) (jH (bD (bS (bP U (bR (kQ U (bH (gd (fun wz=>Blk wz gT 271 [.string wd,.slice (some ⟨tb,uE,none⟩) 3 tc,.slice nA 0 nc]/\Blk wz g1 171 [.int .i64 at_,.string dk,.int .i64 no,.string ws]/\(fun wy=>SlT fH 1 9 wy (some ⟨tb,uE,none⟩) 3 [x0,x1,x2]) wz/\True) mixed (fun _ hm=>⟨hm.bl 0,hm.bl 1,hm.fa 2,trivial⟩) fun z=>wq 0 U (bQ mP U U) (wq 1 U (cN fF U (fun _ hm=>hm.2.1) U) (wq 2 U (bQ kL U U) (wq 3 U (cN qJ U (fun _ hm=>hm.1) U) (wq 4 U (bT (j:=0) jY U U (by omega)) (wq 5 U (dL (k:=0) (v:= .string x0) fE U (fun _ hm=>(hm.2.2.1)) (U: [x0,x1,x2][0]?=some x0) U U) (wq 6 U (bQ kL U U) (wq 7 U (cN qJ U (fun _ hm=>hm.1) U) (wq 8 U (bT (j:=1) jY U U (by omega)) ?_))))))))))))))))))))))))))
  refine wq 9 U (dL (k:=0) (v:= .string x1) fE U (fun _ hm=>(hm.2.2.1)) (U: [x0,x1,x2][1]?=some x1) U U) (wq 10 U (bJ U) (wq 11 U (dJ (cs:= [.int .i64 at_,.string x0,.string x1,.int .i64 6,.string ⟨#[]⟩]) U (by kernel_rfl)) (eC 12 U (dH cW1 U fun g6=>bE (nw 14 8191 (fun _ hm=>⟨hm.bl 1,hm.bl 2,hm.fa 2,trivial⟩) fun z=>eC 13 U (jX (cs':= [.int .i64 at_,.string x0,.string x1,.int .i64 6,.string ⟨#[]⟩]) 0 fR U U U U (bE (nw 14 16383 (fun _ hm=>⟨hm.bl 1,hm.bl 2,hm.fa 2,trivial⟩) fun z=>jH (bD (bH (bS (bP U (bB (eN U U) U (bL 42 (v':= .bool true) U (U) (bR (kQ U (bI (dW kL U U (eI qJ 1 U U U (bB (bT (j:=2) jY U U (by omega)) U (bB (dL (k:=0) (v:= .string x2) fE U (fun _ hm=>(hm.fact 2 U)) (U: [x0,x1,x2][2]?=some x2) U U) U (dW uL U U (jJ 0 fE U U U U U U (bR (bS (bP U ?_))))))))))))))))))))))))))
  refine bB (cX fR U (fun _ hm=>hm.blkI 0 U) U U) U ?_
  refine fO (γ:=Value×Os×(ByteArray->Option Int)×Int) (val:=fun q=> .int .i64 q.2.2.2) (φ:=(fun (q:Value×Os×(ByteArray->Option Int)×Int)=>(kU V T (fun b=>jR cl [b]=0) at_ σ q.2.1/\fY q.2.1=mF V T cl at_ ws (fY σ))/\bB0 q.2.2.1)) (K':=fun _=>fun _=>True) (L':=(fun (q:Value×Os×(ByteArray->Option Int)×Int)=> [(go,119, [u0,.slice cA cn cc,u2,u3,u4,u5,u6,u7,u8,u9,jK,jL,jM,jN,jO,jP,.map (some gv),.map (some gs),.map (some fT),q.1,.map (some fQ),.map (some fS),.map (some fU),.map (some gC),rv])])) (O':=(fun (q:Value×Os×(ByteArray->Option Int)×Int)=> [⟨q.1,74,5,q.2.1.lg.length,q.2.1.lg.flatMap dP⟩,⟨rv,226,2,rn,rx⟩])) (X':=(fun (q:Value×Os×(ByteArray->Option Int)×Int)=> [bV vS dN w0.heap.size gv (V),bV vB dN w0.heap.size gs (T),bV qU dN w0.heap.size fT (q.2.1.fs),bV vB nD w0.heap.size fQ (q.2.1.fa),bV qA dN w0.heap.size fS (q.2.1.fb),bV nH dN w0.heap.size fU (q.2.1.fh),bV vI dN w0.heap.size gC (q.2.2.1),gD 68 q.2.1.fh,bU dV 2 84 w0.heap.size none cA cn cl,TxtO w0.heap.size none])) U eI5 U U (fun wx hm=>(cD3 w0 u0 u2 u3 u4 u5 u6 u7 u8 u9 jK jL jM jN jO jP go gv gs fT fQ fS fU gC cA cn cc cl V T rv rn rx hd (fun b=>jR cl [b]=0) fp σ lv at_ x0 x1 6 x2 wx (by omega) ⟨hat,⟨by dsimp only;omega,by dsimp only;omega⟩,by dsimp only;omega,by dsimp only;omega,by dsimp only;omega⟩ (by decide) (fun h=>absurd U h) (hm.pick [3] [0,1] [4,5,6,7,8,9,10,11,12,13] U U).cy).mono fun _ _ ⟨qM,σ2,E,he,h1,vP⟩=>⟨(qM,σ2,fp,E),he,⟨⟨h1.1,h1.2.trans hdo.symm⟩,hpo⟩,vP.cy⟩) ?_
  rintro ⟨qM,σ2,fp2,E2⟩ hst
  dsimp only at hst ⊢
  refine bZ U (bR (bM (bA ?_)))
  exact bK U U fun wx hm=>⟨qM,σ2,fp2,E2,U,hst.1,hst.2,(hm.pick [0] [0,1] [0,1,2,3,4,5,6,7,8,9] U U).cy⟩
 ·obtain ⟨x0,x1,rfl⟩:=eI3 htl
  obtain ⟨tb,uE,htA⟩:=hta (by decide)
  subst htA
  obtain ⟨y0,y1,y2,rfl⟩:=eJ3 hnl
  obtain ⟨nb,xQ,hnA⟩:=hna (by decide)
  subst hnA
  have hz0:x0.size<=1000:=htz _ (by simp)
  have hz1:x1.size<=1000:=htz _ (by simp)
  have hdo:=hfw.trans eJ2
  refine gd (fun wz=>Blk wz gT 271 [.string ⟨#[98,111,111,107]⟩,.slice (some ⟨tb,uE,none⟩) 2 tc,.slice (some ⟨nb,xQ,none⟩) 3 nc]/\True) mixed (fun _ hm=>⟨hm.bl 0,trivial⟩) fun z=>wq 1 U (bQ mE U U) (wq 2 U (cN fE U (fun _ hm=>hm.1) U) (eC 0 U ?_))
  refine jC (γ:=Nat) (val:=(fun g=> .map (some g))) (φ:=(fun g=>True)) (Y:=(fun g=>fun wy=>bV vI dN w0.heap.size g gF wy)) U bM4 U U (fun wx hm=>(qH wx).mono fun _ _ ⟨g,he,vP,hg⟩=>⟨g,he,trivial,hg,vP.lower hm.g.size⟩) (fun _=>bV.lasts2) ?_
  rintro gk mT
  clear mT
  refine bE (nw 9 7 (fun _ hm=>⟨hm.bl 0,trivial⟩) fun z=>eC 3 U (bB (gW (enc:=vI) (ek:=dN) (s:=⟨#[98,111,111,107]⟩) (e:=3) (0:Int) kB (by kernel_rfl) (by kernel_rfl) U U (fun _ hm=>(hm.fact 0 U))) U (bE (nw 9 15 (fun _ hm=>⟨hm.bl 0,trivial⟩) fun z=>wq 4 U (bJ U) (wq 5 U (cR U U) (dG 26 (v':= .int .i64 0) U (congrArg vI (by rw [xN];rfl)) (wq 6 U (cR U U) (dG 27 (v':= .bool false) U (fH5 (by rw [xN];rfl)) (wq 7 U (cU U) (wq 8 U (cU U) (jH (bD (bS (bP U (bR (jU U (bN (bD (bH (bS (dW mE U U (eI fE 0 U U U (bR (bO (bS (bB (eR U U) U (bL 54 (v':= .bool true) U (fH5 (by rw [nB];decide)) ?_)))))))))))))))))))))))))))
  refine bZ U (bR (kQ U (bH (gd (fun wz=>Blk wz gT 271 [.string ⟨#[98,111,111,107]⟩,.slice (some ⟨tb,uE,none⟩) 2 tc,.slice (some ⟨nb,xQ,none⟩) 3 nc]/\Blk wz g1 171 [.int .i64 at_,.string dk,.int .i64 no,.string ws]/\(fun wy=>SlT kN 1 3 wy (some ⟨nb,xQ,none⟩) 3 [y0,y1,y2]) wz/\(fun wy=>SlT fH 1 9 wy (some ⟨tb,uE,none⟩) 2 [x0,x1]) wz/\True) mixed (fun _ hm=>⟨hm.bl 0,hm.bl 1,hm.fa 1,hm.fa 2,trivial⟩) fun z=>wq 0 U (bJ U) (wq 1 U (bQ kL U U) (wq 2 U (cN qJ U (fun _ hm=>hm.1) U) (wq 3 U (bT (j:=0) jY U U (by omega)) (wq 4 U (dL (k:=0) (v:= .string x0) fE U (fun _ hm=>(hm.2.2.2.1)) (U: [x0,x1][0]?=some x0) U U) (wq 5 U (bQ kL U U) (wq 6 U (cN qJ U (fun _ hm=>hm.1) U) (wq 7 U (bT (j:=1) jY U U (by omega)) (wq 8 U (dL (k:=0) (v:= .string x1) fE U (fun _ hm=>(hm.2.2.2.1)) (U: [x0,x1][1]?=some x1) U U) (wq 9 U (bQ nJ U U) (wq 10 U (cN mB U (fun _ hm=>hm.1) U) (wq 11 U (bT (j:=0) pE U U (by omega)) (wq 12 U (dL (k:=0) (v:= .int .i64 y0) fF U (fun _ hm=>(hm.2.2.1)) (U: [y0,y1,y2][0]?=some y0) U U) (wq 13 U (bQ nJ U U) (wq 14 U (cN mB U (fun _ hm=>hm.1) U) (wq 15 U (bT (j:=1) pE U U (by omega)) (wq 16 U (dL (k:=0) (v:= .int .i64 y1) fF U (fun _ hm=>(hm.2.2.1)) (U: [y0,y1,y2][1]?=some y1) U U) (wq 17 U (dJ (cs:= [.int .i64 y0,.int .i64 y1]) U (by kernel_rfl)) (wq 18 U (bQ mP U U) (wq 19 U (cN fF U (fun _ hm=>hm.2.1) U) (wq 20 U (bQ nJ U U) (wq 21 U (cN mB U (fun _ hm=>hm.1) U) (wq 22 U (bT (j:=2) pE U U (by omega)) (wq 23 U (dL (k:=0) (v:= .int .i64 y2) fF U (fun _ hm=>(hm.2.2.1)) (U: [y0,y1,y2][2]?=some y2) U U) (wq 24 U (dJ (cs:= [.string x0,.string x1,.int .i64 y0,.int .i64 y1,.int .i64 at_,.int .i64 y2]) U (by kernel_rfl)) ?_))))))))))))))))))))))))))))
  refine eC 25 U ?_
  refine fO (γ:=Value×Os×(ByteArray->Option Int)×Int) (val:=fun q=> .int .i64 q.2.2.2) (φ:=(fun (q:Value×Os×(ByteArray->Option Int)×Int)=>(kU V T (fun b=>jR cl [b]=0) at_ σ q.2.1/\fY q.2.1=mF V T cl at_ ws (fY σ))/\bB0 q.2.2.1)) (K':=fun _=>fun _=>True) (L':=(fun (q:Value×Os×(ByteArray->Option Int)×Int)=> [(go,119, [u0,.slice cA cn cc,u2,u3,u4,u5,u6,u7,u8,u9,jK,jL,jM,jN,jO,jP,.map (some gv),.map (some gs),.map (some fT),q.1,.map (some fQ),.map (some fS),.map (some fU),.map (some gC),rv]),(gT,271, [.string ⟨#[98,111,111,107]⟩,.slice (some ⟨tb,uE,none⟩) 2 tc,.slice (some ⟨nb,xQ,none⟩) 3 nc]),(g1,171, [.int .i64 at_,.string dk,.int .i64 no,.string ws])])) (O':=(fun (q:Value×Os×(ByteArray->Option Int)×Int)=> [⟨q.1,74,5,q.2.1.lg.length,q.2.1.lg.flatMap dP⟩,⟨rv,226,2,rn,rx⟩])) (X':=(fun (q:Value×Os×(ByteArray->Option Int)×Int)=> [bV vS dN w0.heap.size gv (V),bV vB dN w0.heap.size gs (T),bV qU dN w0.heap.size fT (q.2.1.fs),bV vB nD w0.heap.size fQ (q.2.1.fa),bV qA dN w0.heap.size fS (q.2.1.fb),bV nH dN w0.heap.size fU (q.2.1.fh),bV vI dN w0.heap.size gC (q.2.2.1),gD 68 q.2.1.fh,bU dV 2 84 w0.heap.size none cA cn cl,TxtO w0.heap.size none,fun wy=>SlT fH 1 9 wy (some ⟨tb,uE,none⟩) 2 [x0,x1],fun wy=>SlT kN 1 3 wy (some ⟨nb,xQ,none⟩) 3 [y0,y1,y2]])) U fJ0 U U (fun wx hm=>(dJ7 w0 u0 u2 u3 u4 u5 u6 u7 u8 u9 jK jL jM jN jO jP go gv gs fT fQ fS fU gC cA cn cc cl V T rv rn rx hd gT g1 _ _ _ _ SlT.mfar SlT.mfar fp σ lv at_ x0 x1 y0 y1 at_ y2 wx ⟨by dsimp only;omega,by dsimp only;omega⟩ hco hcn hfb (hm.pick [2,0,1] [0,1] [4,5,6,7,8,9,10,11,12,13,2,1] U U).cy).mono fun _ _ ⟨qM,σ2,E,he,h1,vP⟩=>⟨(qM,σ2,fp,E),he,⟨⟨h1.1,h1.2.trans hdo.symm⟩,hpo⟩,vP.cy⟩) ?_
  rintro ⟨qM,σ2,fp2,E2⟩ hst
  dsimp only at hst ⊢
  refine bE (nw 27 67108863 (fun _ hm=>⟨hm.bl 1,hm.bl 2,hm.fa 11,hm.fa 10,trivial⟩) fun z=>wq 26 U (cU U) (jH (bD (bM (bC (bA ?_))))))
  exact bK U U fun wx hm=>⟨qM,σ2,fp2,E2,U,hst.1,hst.2,(hm.pick [0] [0,1] [0,1,2,3,4,5,6,7,8,9] U U).cy⟩
 ·obtain ⟨x0,rfl⟩:=dX9 htl
  obtain ⟨tb,uE,htA⟩:=hta (by decide)
  subst htA
  have hz0:x0.size<=1000:=htz _ (by simp)
  have hdo:=hfw.trans dW4
  obtain ⟨isb,hisb⟩:∃z,z=(σ.fb x0).isSome:=⟨_,rfl⟩
  obtain ⟨xb,hxb⟩:∃z,z=(σ.fb x0).getD bk0:=⟨_,rfl⟩
  obtain ⟨c0,c1,c2,c3,c4,c5⟩:=xb
  refine gd (fun wz=>Blk wz gT 271 [.string ⟨#[99,97,110,99,101,108]⟩,.slice (some ⟨tb,uE,none⟩) 1 tc,.slice nA 0 nc]/\True) mixed (fun _ hm=>⟨hm.bl 0,trivial⟩) fun z=>wq 1 U (bQ mE U U) (wq 2 U (cN fE U (fun _ hm=>hm.1) U) (eC 0 U ?_))
  refine jC (γ:=Nat) (val:=(fun g=> .map (some g))) (φ:=(fun g=>True)) (Y:=(fun g=>fun wy=>bV vI dN w0.heap.size g gF wy)) U bM4 U U (fun wx hm=>(qH wx).mono fun _ _ ⟨g,he,vP,hg⟩=>⟨g,he,trivial,hg,vP.lower hm.g.size⟩) (fun _=>bV.lasts2) ?_
  rintro gk mT
  clear mT
  refine bE (nw 9 7 (fun _ hm=>⟨hm.bl 0,trivial⟩) fun z=>eC 3 U (bB (gW (enc:=vI) (ek:=dN) (s:=⟨#[99,97,110,99,101,108]⟩) (e:=3) (0:Int) kB (by kernel_rfl) (by kernel_rfl) U U (fun _ hm=>(hm.fact 0 U))) U (bE (nw 9 15 (fun _ hm=>⟨hm.bl 0,trivial⟩) fun z=>wq 4 U (bJ U) (wq 5 U (cR U U) (dG 26 (v':= .int .i64 0) U (congrArg vI (by rw [xN];rfl)) (wq 6 U (cR U U) (dG 27 (v':= .bool false) U (fH5 (by rw [xN];rfl)) (wq 7 U (cU U) (wq 8 U (cU U) (jH (bD (bS (bP U (bR (jU U (bN (bD (bH (bS (dW mE U U (eI fE 0 U U U (bR (bO (bS (bB (eR U U) U (bL 54 (v':= .bool false) U (fH5 (by rw [nB];decide)) ?_)))))))))))))))))))))))))))
  refine bZ U (bR (jU U (bS (bB (eR U U) U (bL 82 (v':= .bool true) U (fH5 (by rw [nB];decide)) (bZ U (bR (kQ U (bH (bH (gd (fun wz=>Blk wz gT 271 [.string ⟨#[99,97,110,99,101,108]⟩,.slice (some ⟨tb,uE,none⟩) 1 tc,.slice nA 0 nc]/\Blk wz go 119 [u0,.slice cA cn cc,u2,u3,u4,u5,u6,u7,u8,u9,jK,jL,jM,jN,jO,jP,.map (some gv),.map (some gs),.map (some fT),lv,.map (some fQ),.map (some fS),.map (some fU),.map (some gC),rv]/\(fun wy=>SlT fH 1 9 wy (some ⟨tb,uE,none⟩) 1 [x0]) wz/\(bV qA dN w0.heap.size fS (σ.fb)) wz/\True) mixed (fun _ hm=>⟨hm.bl 0,hm.bl 2,hm.fa 2,hm.fa 8,trivial⟩) fun z=>wq 0 U (bJ U) (wq 1 U (bX U) (wq 2 U (bQ bM1 U U) (wq 3 U (cN cX3 U (fun _ hm=>hm.2.1) U) (wq 4 U (bQ kL U U) (wq 5 U (cN qJ U (fun _ hm=>hm.1) U) (wq 6 U (bT (j:=0) jY U U (by omega)) (wq 7 U (dL (k:=0) (v:= .string x0) fE U (fun _ hm=>(hm.2.2.1)) (U: [x0][0]?=some x0) U U) (wq 8 U (gW (enc:=qA) (ek:=dN) (s:=x0) (e:=146) bk0 kB (by kernel_rfl) (by kernel_rfl) U U (fun _ hm=>(hm.2.2.2.1))) (wq 9 U (bJ U) (wq 10 U (cR U U) (dG 93 (v':= .agg #[.string c0,.string c1,.int .i64 c2,.int .i64 c3,.int .i64 c4,.int .i64 c5]) U (congrArg qA hxb.symm) (wq 11 U (cR U U) (dG 94 (v':= .bool isb) U (fH5 hisb.symm) (eC 12 U (dH dI4 U fun g7=>bE (nw 15 8191 (fun _ hm=>⟨hm.bl 1,hm.bl 3,hm.fa 2,hm.fa 8,trivial⟩) fun z=>?_)))))))))))))))))))))))))))
  refine eC 13 U (jX (cs':= [.string c0,.string c1,.int .i64 c2,.int .i64 c3,.int .i64 c4,.int .i64 c5]) 0 bL8 U U U U (bE (nw 15 16383 (fun _ hm=>⟨hm.bl 1,hm.bl 3,hm.fa 2,hm.fa 8,trivial⟩) fun z=>wq 14 U (cU U) (jH (bD (bS (bP U (bB (cF U) U (bR ?_)))))))))
  refine dC U (fun hh=>?_) (fun hh=>?_)
  ·have hq:isb=false:=by simpa using hh
   refine bS (bZ U (bR (bM (bA (bC (bA ?_))))))
   have hnb:σ.fb x0=none:=by
    have h9:isb=false:=by simpa using hq
    rw [h9] at hisb
    cases hf9:σ.fb x0 with
    |none=>rfl
    |some y=>rw [hf9] at hisb;cases hisb
   have hsm:fY σ=mF V T cl at_ ws (fY σ):=by
    rw [hdo]
    show fY σ=(⟨_,_,yL σ.fb x0,_,_⟩:As)
    rw [dM5 hnb];rfl
   exact bK U U fun wx hm=>⟨lv,σ,fp,_,U,⟨.same σ,hsm⟩,hpo,(hm.pick [3] [0,1] [4,5,6,7,8,9,10,11,12,13] U U).cy⟩
  have hq:isb=true:=by simpa using hh
  refine bN (bD (bH (gd (fun wz=>Blk wz gT 271 [.string ⟨#[99,97,110,99,101,108]⟩,.slice (some ⟨tb,uE,none⟩) 1 tc,.slice nA 0 nc]/\Blk wz go 119 [u0,.slice cA cn cc,u2,u3,u4,u5,u6,u7,u8,u9,jK,jL,jM,jN,jO,jP,.map (some gv),.map (some gs),.map (some fT),lv,.map (some fQ),.map (some fS),.map (some fU),.map (some gC),rv]/\(fun wy=>SlT fH 1 9 wy (some ⟨tb,uE,none⟩) 1 [x0]) wz/\True) mixed (fun _ hm=>⟨hm.bl 1,hm.bl 3,hm.fa 2,trivial⟩) fun z=>wq 0 U (bJ U) (wq 1 U (bX U) (wq 2 U (bQ bM1 U U) (wq 3 U (cN cX3 U (fun _ hm=>hm.2.1) U) (wq 4 U (bQ kL U U) (wq 5 U (cN qJ U (fun _ hm=>hm.1) U) (wq 6 U (bT (j:=0) jY U U (by omega)) (wq 7 U (dL (k:=0) (v:= .string x0) fE U (fun _ hm=>(hm.2.2.1)) (U: [x0][0]?=some x0) U U) (eC 8 U ?_)))))))))))
  refine cV1 (enc:=qA) (ek:=dN) (s:=x0) (e:=146) (X':= [fun wy=>SlT kN 1 3 wy nA 0 nl,fun wy=>SlT fH 1 9 wy (some ⟨tb,uE,none⟩) 1 [x0],bV vS dN w0.heap.size gv (V),bV vB dN w0.heap.size gs (T),bV qU dN w0.heap.size fT (σ.fs),bV vB nD w0.heap.size fQ (σ.fa),bV nH dN w0.heap.size fU (σ.fh),bV vI dN w0.heap.size gC (fp),gD 68 σ.fh,bU dV 2 84 w0.heap.size none cA cn cl,TxtO w0.heap.size none]) 8 kB (by kernel_rfl) U U U U (cP (i:=1) SlT.mfar.far U (cP (i:=2) SlT.mfar.far U (cP (i:=4) (bV.farK (gS hd (i:=0) (j:=4) U U (by decide))) U (cP (i:=5) (bV.farK (gS hd (i:=1) (j:=4) U U (by decide))) U (cP (i:=6) (bV.farK (gS hd (i:=2) (j:=4) U U (by decide))) U (cP (i:=7) (bV.farK (gS hd (i:=3) (j:=4) U U (by decide))) U (cP (i:=9) (bV.farK (gS hd (i:=5) (j:=4) U U (by decide))) U (cP (i:=10) (bV.farK (gS hd (i:=6) (j:=4) U U (by decide))) U (cP (i:=11) (gD.mfar).far U (cP (i:=12) (bU.mfar).far U (cP (i:=13) (TxtO.mfar).far U fZ))))))))))) ?_
  refine bE (nw 9 511 (fun _ hm=>⟨hm.bl 1,hm.bl 3,hm.fa 2,trivial⟩) fun z=>jH (bD (bS (bZ U (bR (bM (bC (bA ?_))))))))
  exact bK U U fun wx hm=>⟨lv,_,fp,_,U,⟨.cancel σ x0,hdo.symm⟩,hpo,(hm.pick [3] [0,1] [3,4,5,6,0,7,8,9,10,11] U U).cy⟩
 ·obtain ⟨x0,x1,x2,x3,rfl⟩:=fE2 htl
  obtain ⟨tb,uE,htA⟩:=hta (by decide)
  subst htA
  obtain ⟨y0,y1,y2,rfl⟩:=eJ3 hnl
  obtain ⟨nb,xQ,hnA⟩:=hna (by decide)
  subst hnA
  have hz0:x0.size<=1000:=htz _ (by simp)
  have hz1:x1.size<=1000:=htz _ (by simp)
  have hz2:x2.size<=1000:=htz _ (by simp)
  have hz3:x3.size<=1000:=htz _ (by simp)
  have hdo:=hfw.trans dH8
  refine gd (fun wz=>Blk wz gT 271 [.string ⟨#[115,116,97,114,116]⟩,.slice (some ⟨tb,uE,none⟩) 4 tc,.slice (some ⟨nb,xQ,none⟩) 3 nc]/\True) mixed (fun _ hm=>⟨hm.bl 0,trivial⟩) fun z=>wq 1 U (bQ mE U U) (wq 2 U (cN fE U (fun _ hm=>hm.1) U) (eC 0 U ?_))
  refine jC (γ:=Nat) (val:=(fun g=> .map (some g))) (φ:=(fun g=>True)) (Y:=(fun g=>fun wy=>bV vI dN w0.heap.size g gF wy)) U bM4 U U (fun wx hm=>(qH wx).mono fun _ _ ⟨g,he,vP,hg⟩=>⟨g,he,trivial,hg,vP.lower hm.g.size⟩) (fun _=>bV.lasts2) ?_
  rintro gk mT
  clear mT
  refine bE (nw 9 7 (fun _ hm=>⟨hm.bl 0,trivial⟩) fun z=>eC 3 U (bB (gW (enc:=vI) (ek:=dN) (s:=⟨#[115,116,97,114,116]⟩) (e:=3) (0:Int) kB (by kernel_rfl) (by kernel_rfl) U U (fun _ hm=>(hm.fact 0 U))) U (bE (nw 9 15 (fun _ hm=>⟨hm.bl 0,trivial⟩) fun z=>wq 4 U (bJ U) (wq 5 U (cR U U) (dG 26 (v':= .int .i64 0) U (congrArg vI (by rw [xN];rfl)) (wq 6 U (cR U U) (dG 27 (v':= .bool false) U (fH5 (by rw [xN];rfl)) (wq 7 U (cU U) (wq 8 U (cU U) (jH (bD (bS (bP U (bR (jU U (bN (bD (bH (bS (dW mE U U (eI fE 0 U U U (bR (bO (bS (bB (eR U U) U (bL 54 (v':= .bool false) U (fH5 (by rw [nB];decide)) ?_)))))))))))))))))))))))))))
  refine bZ U (bR (jU U (bS (bB (eR U U) U (bL 82 (v':= .bool false) U (fH5 (by rw [nB];decide)) (bZ U (bR (jU U (bS (bB (eR U U) U (bL 106 (v':= .bool true) U (fH5 (by rw [nB];decide)) (bZ U (bR (kQ U (bS (bP U (dW mP U U (eI fF 1 U U U (bB (cX rY U (fun _ hm=>hm.blkI 0 U) U U) U ?_)))))))))))))))))))
  refine fO (γ:=Value×Os×(ByteArray->Option Int)×Int) (val:=fun q=> .int .i64 q.2.2.2) (φ:=(fun (q:Value×Os×(ByteArray->Option Int)×Int)=>(kU V T (fun b=>jR cl [b]=0) at_ σ q.2.1/\fY q.2.1=mF V T cl at_ ws (fY σ))/\bB0 q.2.2.1)) (K':=fun _=>fun _=>True) (L':=(fun (q:Value×Os×(ByteArray->Option Int)×Int)=> [(go,119, [u0,.slice cA cn cc,u2,u3,u4,u5,u6,u7,u8,u9,jK,jL,jM,jN,jO,jP,.map (some gv),.map (some gs),.map (some fT),q.1,.map (some fQ),.map (some fS),.map (some fU),.map (some gC),rv])])) (O':=(fun (q:Value×Os×(ByteArray->Option Int)×Int)=> [⟨q.1,74,5,q.2.1.lg.length,q.2.1.lg.flatMap dP⟩,⟨rv,226,2,rn,rx⟩])) (X':=(fun (q:Value×Os×(ByteArray->Option Int)×Int)=> [bV vS dN w0.heap.size gv (V),bV vB dN w0.heap.size gs (T),bV qU dN w0.heap.size fT (q.2.1.fs),bV vB nD w0.heap.size fQ (q.2.1.fa),bV qA dN w0.heap.size fS (q.2.1.fb),bV nH dN w0.heap.size fU (q.2.1.fh),bV vI dN w0.heap.size gC (q.2.2.1),gD 68 q.2.1.fh,bU dV 2 84 w0.heap.size none cA cn cl,TxtO w0.heap.size none])) U fK0 U U (fun wx hm=>(dT1 w0 u0 u2 u3 u4 u5 u6 u7 u8 u9 jK jL jM jN jO jP go gv gs fT fQ fS fU gC cA cn cc cl V T rv rn rx hd (fun b=>jR cl [b]=0) fp σ lv at_ _ x0 x1 x2 x3 y0 y1 y2 _ _ tc nc wx (by omega) (by omega) (by omega) (by omega) (by omega) hfh (hm.fact 2 U) (hm.fact 1 U) (hm.pick [2] [0,1] [4,5,6,7,8,9,10,11,12,13,2,1] U U).cy).mono fun _ _ ⟨qM,σ2,E,he,h1,vP⟩=>⟨(qM,σ2,fp,E),he,⟨⟨h1.1,h1.2.trans hdo.symm⟩,hpo⟩,vP.cy⟩) ?_
  rintro ⟨qM,σ2,fp2,E2⟩ hst
  dsimp only at hst ⊢
  refine bZ U (bR (bM (bC (bA ?_))))
  exact bK U U fun wx hm=>⟨qM,σ2,fp2,E2,U,hst.1,hst.2,(hm.pick [0] [0,1] [0,1,2,3,4,5,6,7,8,9] U U).cy⟩
 ·obtain ⟨x0,x1,x2,rfl⟩:=eJ3 htl
  obtain ⟨tb,uE,htA⟩:=hta (by decide)
  subst htA
  obtain ⟨y0,y1,y2,y3,rfl⟩:=fE2 hnl
  obtain ⟨nb,xQ,hnA⟩:=hna (by decide)
  subst hnA
  have hz0:x0.size<=1000:=htz _ (by simp)
  have hz1:x1.size<=1000:=htz _ (by simp)
  have hz2:x2.size<=1000:=htz _ (by simp)
  have hdo:=hfw.trans eK2
  refine gd (fun wz=>Blk wz gT 271 [.string ⟨#[115,119,97,112]⟩,.slice (some ⟨tb,uE,none⟩) 3 tc,.slice (some ⟨nb,xQ,none⟩) 4 nc]/\True) mixed (fun _ hm=>⟨hm.bl 0,trivial⟩) fun z=>wq 1 U (bQ mE U U) (wq 2 U (cN fE U (fun _ hm=>hm.1) U) (eC 0 U ?_))
  refine jC (γ:=Nat) (val:=(fun g=> .map (some g))) (φ:=(fun g=>True)) (Y:=(fun g=>fun wy=>bV vI dN w0.heap.size g gF wy)) U bM4 U U (fun wx hm=>(qH wx).mono fun _ _ ⟨g,he,vP,hg⟩=>⟨g,he,trivial,hg,vP.lower hm.g.size⟩) (fun _=>bV.lasts2) ?_
  rintro gk mT
  clear mT
  refine bE (nw 9 7 (fun _ hm=>⟨hm.bl 0,trivial⟩) fun z=>eC 3 U (bB (gW (enc:=vI) (ek:=dN) (s:=⟨#[115,119,97,112]⟩) (e:=3) (0:Int) kB (by kernel_rfl) (by kernel_rfl) U U (fun _ hm=>(hm.fact 0 U))) U (bE (nw 9 15 (fun _ hm=>⟨hm.bl 0,trivial⟩) fun z=>wq 4 U (bJ U) (wq 5 U (cR U U) (dG 26 (v':= .int .i64 0) U (congrArg vI (by rw [xN];rfl)) (wq 6 U (cR U U) (dG 27 (v':= .bool false) U (fH5 (by rw [xN];rfl)) (wq 7 U (cU U) (wq 8 U (cU U) (jH (bD (bS (bP U (bR (jU U (bN (bD (bH (bS (dW mE U U (eI fE 0 U U U (bR (bO (bS (bB (eR U U) U (bL 54 (v':= .bool false) U (fH5 (by rw [nB];decide)) ?_)))))))))))))))))))))))))))
  refine bZ U (bR (jU U (bS (bB (eR U U) U (bL 82 (v':= .bool false) U (fH5 (by rw [nB];decide)) (bZ U (bR (jU U (bS (bB (eR U U) U (bL 106 (v':= .bool false) U (fH5 (by rw [nB];decide)) (bZ U (bR (jU U (bS (bB (eR U U) U (bL 113 (v':= .bool false) U (fH5 (by rw [nB];decide)) (bZ U (bR (jU U (bN (bG (bD (bS (bP U (dW mP U U (eI fF 1 U U U (bB (cX rY U (fun _ hm=>hm.blkI 0 U) U U) U ?_))))))))))))))))))))))))))))
  refine fO (γ:=Value×Os×(ByteArray->Option Int)×Int) (val:=fun q=> .int .i64 q.2.2.2) (φ:=(fun (q:Value×Os×(ByteArray->Option Int)×Int)=>(kU V T (fun b=>jR cl [b]=0) at_ σ q.2.1/\fY q.2.1=mF V T cl at_ ws (fY σ))/\bB0 q.2.2.1)) (K':=fun _=>fun _=>True) (L':=(fun (q:Value×Os×(ByteArray->Option Int)×Int)=> [(go,119, [u0,.slice cA cn cc,u2,u3,u4,u5,u6,u7,u8,u9,jK,jL,jM,jN,jO,jP,.map (some gv),.map (some gs),.map (some fT),q.1,.map (some fQ),.map (some fS),.map (some fU),.map (some gC),rv])])) (O':=(fun (q:Value×Os×(ByteArray->Option Int)×Int)=> [⟨q.1,74,5,q.2.1.lg.length,q.2.1.lg.flatMap dP⟩,⟨rv,226,2,rn,rx⟩])) (X':=(fun (q:Value×Os×(ByteArray->Option Int)×Int)=> [bV vS dN w0.heap.size gv (V),bV vB dN w0.heap.size gs (T),bV qU dN w0.heap.size fT (q.2.1.fs),bV vB nD w0.heap.size fQ (q.2.1.fa),bV qA dN w0.heap.size fS (q.2.1.fb),bV nH dN w0.heap.size fU (q.2.1.fh),bV vI dN w0.heap.size gC (q.2.2.1),gD 68 q.2.1.fh,bU dV 2 84 w0.heap.size none cA cn cl,TxtO w0.heap.size none])) U dQ7 U U (fun wx hm=>(dS6 w0 u0 u2 u3 u4 u5 u6 u7 u8 u9 jK jL jM jN jO jP go gv gs fT fQ fS fU gC cA cn cc cl V T rv rn rx hd (fun b=>jR cl [b]=0) fp σ lv at_ x0 x1 x2 y0 y1 y2 y3 _ _ tc nc wx (by omega) (by omega) hlg hso (hm.fact 2 U) (hm.fact 1 U) (hm.pick [2] [0,1] [4,5,6,7,8,9,10,11,12,13,2,1] U U).cy).mono fun _ _ ⟨qM,σ2,E,he,h1,vP⟩=>⟨(qM,σ2,fp,E),he,⟨⟨h1.1,h1.2.trans hdo.symm⟩,hpo⟩,vP.cy⟩) ?_
  rintro ⟨qM,σ2,fp2,E2⟩ hst
  dsimp only at hst ⊢
  refine bZ U (bR (bM ?_))
  exact bK U U fun wx hm=>⟨qM,σ2,fp2,E2,U,hst.1,hst.2,(hm.pick [0] [0,1] [0,1,2,3,4,5,6,7,8,9] U U).cy⟩
 ·obtain ⟨x0,rfl⟩:=dX9 htl
  obtain ⟨tb,uE,htA⟩:=hta (by decide)
  subst htA
  obtain ⟨y0,rfl⟩:=dX9 hnl
  obtain ⟨nb,xQ,hnA⟩:=hna (by decide)
  subst hnA
  have hz0:x0.size<=1000:=htz _ (by simp)
  have hdo:=hfw.trans dX4
  refine gd (fun wz=>Blk wz gT 271 [.string ⟨#[101,120,116,101,110,100]⟩,.slice (some ⟨tb,uE,none⟩) 1 tc,.slice (some ⟨nb,xQ,none⟩) 1 nc]/\True) mixed (fun _ hm=>⟨hm.bl 0,trivial⟩) fun z=>wq 1 U (bQ mE U U) (wq 2 U (cN fE U (fun _ hm=>hm.1) U) (eC 0 U ?_))
  refine jC (γ:=Nat) (val:=(fun g=> .map (some g))) (φ:=(fun g=>True)) (Y:=(fun g=>fun wy=>bV vI dN w0.heap.size g gF wy)) U bM4 U U (fun wx hm=>(qH wx).mono fun _ _ ⟨g,he,vP,hg⟩=>⟨g,he,trivial,hg,vP.lower hm.g.size⟩) (fun _=>bV.lasts2) ?_
  rintro gk mT
  clear mT
  refine bE (nw 9 7 (fun _ hm=>⟨hm.bl 0,trivial⟩) fun z=>eC 3 U (bB (gW (enc:=vI) (ek:=dN) (s:=⟨#[101,120,116,101,110,100]⟩) (e:=3) (0:Int) kB (by kernel_rfl) (by kernel_rfl) U U (fun _ hm=>(hm.fact 0 U))) U (bE (nw 9 15 (fun _ hm=>⟨hm.bl 0,trivial⟩) fun z=>wq 4 U (bJ U) (wq 5 U (cR U U) (dG 26 (v':= .int .i64 0) U (congrArg vI (by rw [xN];rfl)) (wq 6 U (cR U U) (dG 27 (v':= .bool false) U (fH5 (by rw [xN];rfl)) (wq 7 U (cU U) (wq 8 U (cU U) (jH (bD (bS (bP U (bR (jU U (bN (bD (bH (bS (dW mE U U (eI fE 0 U U U (bR (bO (bS (bB (eR U U) U (bL 54 (v':= .bool false) U (fH5 (by rw [nB];decide)) ?_)))))))))))))))))))))))))))
  refine bZ U (bR (jU U (bS (bB (eR U U) U (bL 82 (v':= .bool false) U (fH5 (by rw [nB];decide)) (bZ U (bR (jU U (bS (bB (eR U U) U (bL 106 (v':= .bool false) U (fH5 (by rw [nB];decide)) (bZ U (bR (jU U (bS (bB (eR U U) U (bL 113 (v':= .bool false) U (fH5 (by rw [nB];decide)) (bZ U (bR (jU U (bN (bG (bD (bS (bP U (dW mP U U (eI fF 1 U U U (bB (cX rY U (fun _ hm=>hm.blkI 0 U) U U) U ?_))))))))))))))))))))))))))))
  refine fO (γ:=Value×Os×(ByteArray->Option Int)×Int) (val:=fun q=> .int .i64 q.2.2.2) (φ:=(fun (q:Value×Os×(ByteArray->Option Int)×Int)=>(kU V T (fun b=>jR cl [b]=0) at_ σ q.2.1/\fY q.2.1=mF V T cl at_ ws (fY σ))/\bB0 q.2.2.1)) (K':=fun _=>fun _=>True) (L':=(fun (q:Value×Os×(ByteArray->Option Int)×Int)=> [(go,119, [u0,.slice cA cn cc,u2,u3,u4,u5,u6,u7,u8,u9,jK,jL,jM,jN,jO,jP,.map (some gv),.map (some gs),.map (some fT),q.1,.map (some fQ),.map (some fS),.map (some fU),.map (some gC),rv])])) (O':=(fun (q:Value×Os×(ByteArray->Option Int)×Int)=> [⟨q.1,74,5,q.2.1.lg.length,q.2.1.lg.flatMap dP⟩,⟨rv,226,2,rn,rx⟩])) (X':=(fun (q:Value×Os×(ByteArray->Option Int)×Int)=> [bV vS dN w0.heap.size gv (V),bV vB dN w0.heap.size gs (T),bV qU dN w0.heap.size fT (q.2.1.fs),bV vB nD w0.heap.size fQ (q.2.1.fa),bV qA dN w0.heap.size fS (q.2.1.fb),bV nH dN w0.heap.size fU (q.2.1.fh),bV vI dN w0.heap.size gC (q.2.2.1),gD 68 q.2.1.fh,bU dV 2 84 w0.heap.size none cA cn cl,TxtO w0.heap.size none])) U dQ7 U U (fun wx hm=>(cM7 w0 u0 u2 u3 u4 u5 u6 u7 u8 u9 jK jL jM jN jO jP go gv gs fT fQ fS fU gC cA cn cc cl V T rv rn rx hd (fun b=>jR cl [b]=0) fp σ lv at_ x0 y0 _ _ tc nc wx hlg hso (hm.fact 2 U) (hm.fact 1 U) (hm.pick [2] [0,1] [4,5,6,7,8,9,10,11,12,13,2,1] U U).cy).mono fun _ _ ⟨qM,σ2,E,he,h1,vP⟩=>⟨(qM,σ2,fp,E),he,⟨⟨h1.1,h1.2.trans hdo.symm⟩,hpo⟩,vP.cy⟩) ?_
  rintro ⟨qM,σ2,fp2,E2⟩ hst
  dsimp only at hst ⊢
  refine bZ U (bR (bM ?_))
  exact bK U U fun wx hm=>⟨qM,σ2,fp2,E2,U,hst.1,hst.2,(hm.pick [0] [0,1] [0,1,2,3,4,5,6,7,8,9] U U).cy⟩
 ·obtain ⟨x0,x1,rfl⟩:=eI3 htl
  obtain ⟨tb,uE,htA⟩:=hta (by decide)
  subst htA
  obtain ⟨y0,y1,rfl⟩:=eI3 hnl
  obtain ⟨nb,xQ,hnA⟩:=hna (by decide)
  subst hnA
  have hz0:x0.size<=1000:=htz _ (by simp)
  have hz1:x1.size<=1000:=htz _ (by simp)
  have hdo:=hfw.trans dF8
  refine gd (fun wz=>Blk wz gT 271 [.string ⟨#[99,108,111,115,101]⟩,.slice (some ⟨tb,uE,none⟩) 2 tc,.slice (some ⟨nb,xQ,none⟩) 2 nc]/\True) mixed (fun _ hm=>⟨hm.bl 0,trivial⟩) fun z=>wq 1 U (bQ mE U U) (wq 2 U (cN fE U (fun _ hm=>hm.1) U) (eC 0 U ?_))
  refine jC (γ:=Nat) (val:=(fun g=> .map (some g))) (φ:=(fun g=>True)) (Y:=(fun g=>fun wy=>bV vI dN w0.heap.size g gF wy)) U bM4 U U (fun wx hm=>(qH wx).mono fun _ _ ⟨g,he,vP,hg⟩=>⟨g,he,trivial,hg,vP.lower hm.g.size⟩) (fun _=>bV.lasts2) ?_
  rintro gk mT
  clear mT
  refine bE (nw 9 7 (fun _ hm=>⟨hm.bl 0,trivial⟩) fun z=>eC 3 U (bB (gW (enc:=vI) (ek:=dN) (s:=⟨#[99,108,111,115,101]⟩) (e:=3) (0:Int) kB (by kernel_rfl) (by kernel_rfl) U U (fun _ hm=>(hm.fact 0 U))) U (bE (nw 9 15 (fun _ hm=>⟨hm.bl 0,trivial⟩) fun z=>wq 4 U (bJ U) (wq 5 U (cR U U) (dG 26 (v':= .int .i64 0) U (congrArg vI (by rw [xN];rfl)) (wq 6 U (cR U U) (dG 27 (v':= .bool false) U (fH5 (by rw [xN];rfl)) (wq 7 U (cU U) (wq 8 U (cU U) (jH (bD (bS (bP U (bR (jU U (bN (bD (bH (bS (dW mE U U (eI fE 0 U U U (bR (bO (bS (bB (eR U U) U (bL 54 (v':= .bool false) U (fH5 (by rw [nB];decide)) ?_)))))))))))))))))))))))))))
  refine bZ U (bR (jU U (bS (bB (eR U U) U (bL 82 (v':= .bool false) U (fH5 (by rw [nB];decide)) (bZ U (bR (jU U (bS (bB (eR U U) U (bL 106 (v':= .bool false) U (fH5 (by rw [nB];decide)) (bZ U (bR (jU U (bS (bB (eR U U) U (bL 113 (v':= .bool false) U (fH5 (by rw [nB];decide)) (bZ U (bR (jU U (bN (bG (bD (bS (bP U (dW mP U U (eI fF 1 U U U (bB (cX rY U (fun _ hm=>hm.blkI 0 U) U U) U ?_))))))))))))))))))))))))))))
  refine fO (γ:=Value×Os×(ByteArray->Option Int)×Int) (val:=fun q=> .int .i64 q.2.2.2) (φ:=(fun (q:Value×Os×(ByteArray->Option Int)×Int)=>(kU V T (fun b=>jR cl [b]=0) at_ σ q.2.1/\fY q.2.1=mF V T cl at_ ws (fY σ))/\bB0 q.2.2.1)) (K':=fun _=>fun _=>True) (L':=(fun (q:Value×Os×(ByteArray->Option Int)×Int)=> [(go,119, [u0,.slice cA cn cc,u2,u3,u4,u5,u6,u7,u8,u9,jK,jL,jM,jN,jO,jP,.map (some gv),.map (some gs),.map (some fT),q.1,.map (some fQ),.map (some fS),.map (some fU),.map (some gC),rv])])) (O':=(fun (q:Value×Os×(ByteArray->Option Int)×Int)=> [⟨q.1,74,5,q.2.1.lg.length,q.2.1.lg.flatMap dP⟩,⟨rv,226,2,rn,rx⟩])) (X':=(fun (q:Value×Os×(ByteArray->Option Int)×Int)=> [bV vS dN w0.heap.size gv (V),bV vB dN w0.heap.size gs (T),bV qU dN w0.heap.size fT (q.2.1.fs),bV vB nD w0.heap.size fQ (q.2.1.fa),bV qA dN w0.heap.size fS (q.2.1.fb),bV nH dN w0.heap.size fU (q.2.1.fh),bV vI dN w0.heap.size gC (q.2.2.1),gD 68 q.2.1.fh,bU dV 2 84 w0.heap.size none cA cn cl,TxtO w0.heap.size none])) U dQ7 U U (fun wx hm=>(cZ9 w0 u0 u2 u3 u4 u5 u6 u7 u8 u9 jK jL jM jN jO jP go gv gs fT fQ fS fU gC cA cn cc cl V T rv rn rx hd (fun b=>jR cl [b]=0) fp σ lv at_ x0 x1 y0 y1 _ _ tc nc wx (by omega) hlg hso (hm.fact 2 U) (hm.fact 1 U) (hm.pick [2] [0,1] [4,5,6,7,8,9,10,11,12,13,2,1] U U).cy).mono fun _ _ ⟨qM,σ2,E,he,h1,vP⟩=>⟨(qM,σ2,fp,E),he,⟨⟨h1.1,h1.2.trans hdo.symm⟩,hpo⟩,vP.cy⟩) ?_
  rintro ⟨qM,σ2,fp2,E2⟩ hst
  dsimp only at hst ⊢
  refine bZ U (bR (bM ?_))
  exact bK U U fun wx hm=>⟨qM,σ2,fp2,E2,U,hst.1,hst.2,(hm.pick [0] [0,1] [0,1,2,3,4,5,6,7,8,9] U U).cy⟩
 obtain ⟨x0,rfl⟩:=dX9 htl
 obtain ⟨tb,uE,htA⟩:=hta (by decide)
 subst htA
 obtain ⟨y0,rfl⟩:=dX9 hnl
 obtain ⟨nb,xQ,hnA⟩:=hna (by decide)
 subst hnA
 have hz0:x0.size<=1000:=htz _ (by simp)
 have hdo:=hfw.trans eS6
 refine gd (fun wz=>Blk wz gT 271 [.string ⟨#[112,97,121]⟩,.slice (some ⟨tb,uE,none⟩) 1 tc,.slice (some ⟨nb,xQ,none⟩) 1 nc]/\True) mixed (fun _ hm=>⟨hm.bl 0,trivial⟩) fun z=>wq 1 U (bQ mE U U) (wq 2 U (cN fE U (fun _ hm=>hm.1) U) (eC 0 U ?_))
 refine jC (γ:=Nat) (val:=(fun g=> .map (some g))) (φ:=(fun g=>True)) (Y:=(fun g=>fun wy=>bV vI dN w0.heap.size g gF wy)) U bM4 U U (fun wx hm=>(qH wx).mono fun _ _ ⟨g,he,vP,hg⟩=>⟨g,he,trivial,hg,vP.lower hm.g.size⟩) (fun _=>bV.lasts2) ?_
 rintro gk mT
 clear mT
 refine bE (nw 9 7 (fun _ hm=>⟨hm.bl 0,trivial⟩) fun z=>eC 3 U (bB (gW (enc:=vI) (ek:=dN) (s:=⟨#[112,97,121]⟩) (e:=3) (0:Int) kB (by kernel_rfl) (by kernel_rfl) U U (fun _ hm=>(hm.fact 0 U))) U (bE (nw 9 15 (fun _ hm=>⟨hm.bl 0,trivial⟩) fun z=>wq 4 U (bJ U) (wq 5 U (cR U U) (dG 26 (v':= .int .i64 0) U (congrArg vI (by rw [xN];rfl)) (wq 6 U (cR U U) (dG 27 (v':= .bool false) U (fH5 (by rw [xN];rfl)) (wq 7 U (cU U) (wq 8 U (cU U) (jH (bD (bS (bP U (bR (jU U (bN (bD (bH (bS (dW mE U U (eI fE 0 U U U (bR (bO (bS (bB (eR U U) U (bL 54 (v':= .bool false) U (fH5 (by rw [nB];decide)) ?_)))))))))))))))))))))))))))
 refine bZ U (bR (jU U (bS (bB (eR U U) U (bL 82 (v':= .bool false) U (fH5 (by rw [nB];decide)) (bZ U (bR (jU U (bS (bB (eR U U) U (bL 106 (v':= .bool false) U (fH5 (by rw [nB];decide)) (bZ U (bR (jU U (bS (bB (eR U U) U (bL 113 (v':= .bool true) U (fH5 (by rw [nB];decide)) (bZ U (bR (kQ U (bH (gd (fun wz=>Blk wz gT 271 [.string ⟨#[112,97,121]⟩,.slice (some ⟨tb,uE,none⟩) 1 tc,.slice (some ⟨nb,xQ,none⟩) 1 nc]/\(fun wy=>SlT kN 1 3 wy (some ⟨nb,xQ,none⟩) 1 [y0]) wz/\(fun wy=>SlT fH 1 9 wy (some ⟨tb,uE,none⟩) 1 [x0]) wz/\True) mixed (fun _ hm=>⟨hm.bl 0,hm.fa 1,hm.fa 2,trivial⟩) fun z=>wq 0 U (bJ U) (wq 1 U (bQ kL U U) (wq 2 U (cN qJ U (fun _ hm=>hm.1) U) (wq 3 U (bT (j:=0) jY U U (by omega)) (wq 4 U (dL (k:=0) (v:= .string x0) fE U (fun _ hm=>(hm.2.2.1)) (U: [x0][0]?=some x0) U U) (wq 5 U (bQ nJ U U) (wq 6 U (cN mB U (fun _ hm=>hm.1) U) ?_))))))))))))))))))))))))))))
 refine wq 7 U (bT (j:=0) pE U U (by omega)) (wq 8 U (dL (k:=0) (v:= .int .i64 y0) fF U (fun _ hm=>(hm.2.1)) (U: [y0][0]?=some y0) U U) (eC 9 U ?_))
 refine fO (γ:=Value×Os×(ByteArray->Option Int)×Int) (val:=fun q=> .int .i64 q.2.2.2) (φ:=(fun (q:Value×Os×(ByteArray->Option Int)×Int)=>(kU V T (fun b=>jR cl [b]=0) at_ σ q.2.1/\fY q.2.1=mF V T cl at_ ws (fY σ))/\bB0 q.2.2.1)) (K':=fun _=>fun _=>True) (L':=(fun (q:Value×Os×(ByteArray->Option Int)×Int)=> [(go,119, [u0,.slice cA cn cc,u2,u3,u4,u5,u6,u7,u8,u9,jK,jL,jM,jN,jO,jP,.map (some gv),.map (some gs),.map (some fT),q.1,.map (some fQ),.map (some fS),.map (some fU),.map (some gC),rv]),(gT,271, [.string ⟨#[112,97,121]⟩,.slice (some ⟨tb,uE,none⟩) 1 tc,.slice (some ⟨nb,xQ,none⟩) 1 nc]),(g1,171, [.int .i64 at_,.string dk,.int .i64 no,.string ws])])) (O':=(fun (q:Value×Os×(ByteArray->Option Int)×Int)=> [⟨q.1,74,5,q.2.1.lg.length,q.2.1.lg.flatMap dP⟩,⟨rv,226,2,rn,rx⟩])) (X':=(fun (q:Value×Os×(ByteArray->Option Int)×Int)=> [bV vS dN w0.heap.size gv (V),bV vB dN w0.heap.size gs (T),bV qU dN w0.heap.size fT (q.2.1.fs),bV vB nD w0.heap.size fQ (q.2.1.fa),bV qA dN w0.heap.size fS (q.2.1.fb),bV nH dN w0.heap.size fU (q.2.1.fh),bV vI dN w0.heap.size gC (q.2.2.1),gD 68 q.2.1.fh,bU dV 2 84 w0.heap.size none cA cn cl,TxtO w0.heap.size none,fun wy=>SlT fH 1 9 wy (some ⟨tb,uE,none⟩) 1 [x0],fun wy=>SlT kN 1 3 wy (some ⟨nb,xQ,none⟩) 1 [y0]])) U fL0 U U (fun wx hm=>(eQ3 w0 u0 u2 u3 u4 u5 u6 u7 u8 u9 jK jL jM jN jO jP go gv gs fT fQ fS fU gC cA cn cc cl V T rv rn rx hd gT g1 _ _ _ _ SlT.mfar SlT.mfar fp σ lv x0 y0 wx (hnz _ (by simp)) hpo (hm.pick [2,0,1] [0,1] [4,5,6,7,8,9,10,11,12,13,2,1] U U).cy).mono fun _ _ ⟨fp2,E,he,h1,vP⟩=>⟨(lv,σ,fp2,E),he,⟨⟨.same σ,hdo.symm⟩,h1⟩,vP.cy⟩) ?_
 rintro ⟨qM,σ2,fp2,E2⟩ hst
 dsimp only at hst ⊢
 refine bE (nw 11 1023 (fun _ hm=>⟨hm.bl 1,hm.fa 11,hm.fa 10,trivial⟩) fun z=>wq 10 U (cU U) (jH (bD (bM (bC (bA ?_))))))
 exact bK U U fun wx hm=>⟨qM,σ2,fp2,E2,U,hst.1,hst.2,(hm.pick [0] [0,1] [0,1,2,3,4,5,6,7,8,9] U U).cy⟩
section
variable {α:Type} {lt:α->α->Bool}
def xD (lt:α->α->Bool) (l:List α):Prop:=l.Pairwise fun x y=>lt y x=false
structure cY1 (lt:α->α->Bool):Prop where
 tr:∀{x y z:α},lt y x=false->lt z y=false->lt z x=false
 asy:∀{x y:α},lt x y=true->lt y x=false
theorem bF2 {a b:List α}:xD lt (a++b)↔xD lt a/\xD lt b/\∀x∈a,∀y∈b,lt y x=false:=List.pairwise_append
theorem bT5 {a:List α} (h:xD lt a) (i:Nat):xD lt (a.take i):=(bF2.1 (by rw [List.take_append_drop];exact h:xD lt (a.take i++a.drop i))).1
theorem bS5 {a:List α} (h:xD lt a) (i:Nat):xD lt (a.drop i):=(bF2.1 (by rw [List.take_append_drop];exact h:xD lt (a.take i++a.drop i))).2.1
theorem bG2 {a:List α} (h:xD lt a) (i:Nat):∀x∈a.take i,∀y∈a.drop i,lt y x=false:=(bF2.1 (by rw [List.take_append_drop];exact h:xD lt (a.take i++a.drop i))).2.2
theorem cZ8 (ho:cY1 lt) (x:α):lt x x=false:=by
 cases h:lt x x with
 |false=>rfl
 |true=>rw [<-h];exact ho.asy h
theorem bK2 (ho:cY1 lt) {a:List α} (h:xD lt a) {i:Nat} {x:α} (hi:0 < i) (hx:a[i - 1]?=some x):∀y∈a.take i,lt x y=false:=fun y hy=>by
 obtain ⟨j,hj⟩:=List.getElem?_of_mem hy
 rw [List.getElem?_take] at hj
 split at hj
 ·obtain ⟨h1,rfl⟩:=List.getElem?_eq_some_iff.1 hj
  obtain ⟨h2,rfl⟩:=List.getElem?_eq_some_iff.1 hx
  rcases Nat.lt_or_ge j (i - 1) with h3|h3
  ·exact List.pairwise_iff_getElem.1 h j (i - 1) h1 h2 h3
  ·have:j=i - 1:=by omega
   subst this
   exact cZ8 ho _
 ·cases hj
theorem xW (ho:cY1 lt) {a:List α} (h:xD lt a) {i:Nat} {x:α} (hx:a[i]?=some x):∀y∈a.drop i,lt y x=false:=fun y hy=>by
 obtain ⟨j,hj⟩:=List.getElem?_of_mem hy
 rw [List.getElem?_drop] at hj
 obtain ⟨h1,rfl⟩:=List.getElem?_eq_some_iff.1 hj
 obtain ⟨h2,rfl⟩:=List.getElem?_eq_some_iff.1 hx
 rcases Nat.eq_zero_or_pos j with h3|h3
 ·subst h3
  exact cZ8 ho _
 ·exact List.pairwise_iff_getElem.1 h i (i+j) h2 h1 (by omega)
theorem eJ4 (ho:cY1 lt) {A B:List α} (hA:xD lt A) (hB:xD lt B) {i j:Nat}
 (h1:i=0∨B.length<=j∨∃x y,A[i - 1]?=some x/\B[j]?=some y/\lt y x=false)
 (h2:j=0∨A.length<=i∨∃x y,A[i]?=some x/\B[j - 1]?=some y/\lt y x=true):
 (∀x∈A.take i,∀y∈B.drop j,lt y x=false)/\(∀x∈B.take j,∀y∈A.drop i,lt y x=false):=by
 constructor
 ·intro x hx y hy
  rcases h1 with rfl|h1|⟨u,v,hu,hv,huv⟩
  ·rw [List.take_zero] at hx;cases hx
  ·rw [List.drop_eq_nil_of_le h1] at hy;cases hy
  ·rcases Nat.eq_zero_or_pos i with rfl|hi
   ·rw [List.take_zero] at hx;cases hx
   ·exact ho.tr (bK2 ho hA hi hu x hx) (ho.tr huv (xW ho hB hv y hy))
 ·intro x hx y hy
  rcases h2 with rfl|h2|⟨u,v,hu,hv,huv⟩
  ·rw [List.take_zero] at hx;cases hx
  ·rw [List.drop_eq_nil_of_le h2] at hy;cases hy
  ·rcases Nat.eq_zero_or_pos j with rfl|hj
   ·rw [List.take_zero] at hx;cases hx
   ·exact ho.tr (bK2 ho hB hj hv x hx) (ho.tr (ho.asy huv) (xW ho hA hu y hy))
theorem eD1 {A B M1 M2:List α} (hA:xD lt A) (hB:xD lt B) {i j:Nat} (p1:M1.Perm (A.take i++B.take j)) (s1:xD lt M1) (p2:M2.Perm (A.drop i++B.drop j)) (s2:xD lt M2)
 (hc:(∀x∈A.take i,∀y∈B.drop j,lt y x=false)/\(∀x∈B.take j,∀y∈A.drop i,lt y x=false)):xD lt (M1++M2)/\(M1++M2).Perm (A++B):=by
 refine ⟨bF2.2 ⟨s1,s2,fun x hx y hy=>?_⟩,?_⟩
 ·rcases List.mem_append.1 (p1.mem_iff.1 hx) with hx|hx <;> rcases List.mem_append.1 (p2.mem_iff.1 hy) with hy|hy
  ·exact bG2 hA i x hx y hy
  ·exact hc.1 x hx y hy
  ·exact hc.2 x hx y hy
  ·exact bG2 hB j x hx y hy
 ·have h:((A.take i++B.take j)++(A.drop i++B.drop j)).Perm ((A.take i++A.drop i)++(B.take j++B.drop j)):=by
   rw [List.append_assoc,List.append_assoc]
   refine List.Perm.append_left _ ?_
   rw [<-List.append_assoc,<-List.append_assoc]
   exact List.Perm.append_right _ List.perm_append_comm
  rw [List.take_append_drop,List.take_append_drop] at h
  exact (p1.append p2).trans h
theorem dL5 (ho:cY1 lt) {B:List α} (hB:xD lt B) {x:α} {i:Nat} (h1:i=0∨∃y,B[i - 1]?=some y/\lt y x=true) (h2:B.length<=i∨∃y,B[i]?=some y/\lt y x=false):
 xD lt (B.take i++x::B.drop i)/\(B.take i++x::B.drop i).Perm (x::B):=by
 refine ⟨bF2.2 ⟨bT5 hB i,List.pairwise_cons.2 ⟨fun y hy=>?_,bS5 hB i⟩,fun y hy z hz=>?_⟩,?_⟩
 ·rcases h2 with h2|⟨u,hu,hux⟩
  ·rw [List.drop_eq_nil_of_le h2] at hy;cases hy
  ·exact ho.tr hux (xW ho hB hu y hy)
 ·rcases List.mem_cons.1 hz with rfl|hz
  ·rcases h1 with rfl|⟨u,hu,hux⟩
   ·rw [List.take_zero] at hy;cases hy
   ·rcases Nat.eq_zero_or_pos i with rfl|hi
    ·rw [List.take_zero] at hy;cases hy
    ·exact ho.tr (bK2 ho hB hi hu y hy) (ho.asy hux)
  ·exact bG2 hB i y hy z hz
 ·have h:=List.perm_middle (a:=x) (l₁:=B.take i) (l₂:=B.drop i)
  rw [List.take_append_drop] at h
  exact h
theorem dM9 (ho:cY1 lt) {B:List α} (hB:xD lt B) {x:α} {i:Nat} (h1:i=0∨∃y,B[i - 1]?=some y/\lt x y=false) (h2:B.length<=i∨∃y,B[i]?=some y/\lt x y=true):
 xD lt (B.take i++x::B.drop i)/\(B.take i++x::B.drop i).Perm (x::B):=by
 refine ⟨bF2.2 ⟨bT5 hB i,List.pairwise_cons.2 ⟨fun y hy=>?_,bS5 hB i⟩,fun y hy z hz=>?_⟩,?_⟩
 ·rcases h2 with h2|⟨u,hu,hux⟩
  ·rw [List.drop_eq_nil_of_le h2] at hy;cases hy
  ·exact ho.tr (ho.asy hux) (xW ho hB hu y hy)
 ·rcases List.mem_cons.1 hz with rfl|hz
  ·rcases h1 with rfl|⟨u,hu,hux⟩
   ·rw [List.take_zero] at hy;cases hy
   ·rcases Nat.eq_zero_or_pos i with rfl|hi
    ·rw [List.take_zero] at hy;cases hy
    ·exact ho.tr (bK2 ho hB hi hu y hy) hux
  ·exact bG2 hB i y hy z hz
 ·have h:=List.perm_middle (a:=x) (l₁:=B.take i) (l₂:=B.drop i)
  rw [List.take_append_drop] at h
  exact h
end
def uX {α:Type} (l:List α) (a b:Nat):Nat->List α
 |0=>l
 |k+1=>match (uX l a b k)[a+k]?,(uX l a b k)[b+k]? with
  |some x,some y=>((uX l a b k).set (a+k) y).set (b+k) x
  |_,_=>uX l a b k
theorem uY {α:Type} (l:List α) (a b:Nat):∀k,(uX l a b k).length=l.length
 |0=>rfl
 |k+1=>by
  unfold uX
  split
  ·rw [List.length_set,List.length_set];exact uY l a b k
  ·exact uY l a b k
theorem bJ2 {α:Type} {l:List α} {a b k:Nat} {x y:α} (hx:(uX l a b k)[a+k]?=some x) (hy:(uX l a b k)[b+k]?=some y):uX l a b (k+1)=((uX l a b k).set (a+k) y).set (b+k) x:=by
 conv=>lhs;unfold uX
 rw [hx,hy]
theorem qS {α:Type} {l:List α} {a b:Nat}:∀{q:Nat},a+q<=b->b+q<=l.length->∀i,(uX l a b q)[i]?=if a<=i/\i < a+q then l[b+(i - a)]? else if b<=i/\i < b+q then l[a+(i - b)]? else l[i]?
 |0,_,_,i=>by
  rw [if_neg (by omega),if_neg (by omega)];rfl
 |k+1,h1,h2,i=>by
  have ih:=qS (l:=l) (a:=a) (b:=b) (q:=k) (by omega) (by omega)
  have hl:=uY l a b k
  obtain ⟨x,hx⟩:∃x,(uX l a b k)[a+k]?=some x:=⟨_,fJ5 (by omega)⟩
  obtain ⟨y,hy⟩:∃y,(uX l a b k)[b+k]?=some y:=⟨_,fJ5 (by omega)⟩
  rw [bJ2 hx hy]
  rw [ih,if_neg (by omega),if_neg (by omega)] at hx hy
  rcases Nat.lt_trichotomy i (b+k) with h|rfl|h
  ·rw [List.getElem?_set_ne (by omega)]
   rcases Nat.lt_trichotomy i (a+k) with h3|rfl|h3
   ·rw [List.getElem?_set_ne (by omega),ih]
    repeat' split
    all_goals first|rfl|omega|(congr 1 <;> omega)
   ·rw [List.getElem?_set_self (by omega),if_pos (by omega),show b+(a+k - a)=b+k by omega,hy]
   ·rw [List.getElem?_set_ne (by omega),ih]
    repeat' split
    all_goals first|rfl|omega|(congr 1 <;> omega)
  ·rw [List.getElem?_set_self (by rw [List.length_set];omega),if_neg (by omega),if_pos (by omega),show a+(b+k - b)=a+k by omega,hx]
  ·rw [List.getElem?_set_ne (by omega),List.getElem?_set_ne (by omega),ih]
   repeat' split
   all_goals first|rfl|omega|(congr 1 <;> omega)
def kI {α:Type} (l:List α) (a m b i:Nat):Option α:=if a<=i/\i < a+(b - m) then l[i - a+m]? else if a+(b - m)<=i/\i < b then l[i - (a+(b - m))+a]? else l[i]?
theorem dA6 {α:Type} {l:List α} {m i j:Nat} (h1:j < i) (h2:i<=m) (h3:m+j<=l.length) (x:Nat):kI l (m - i) m (m+j) x=kI (uX l (m - i) m j) (m - (i - j)) m (m+j) x:=by
 unfold kI
 rw [qS (by omega) (by omega),qS (by omega) (by omega),qS (by omega) (by omega)]
 repeat' split
 all_goals first|rfl|omega|(congr 1 <;> omega)
theorem eR0 {α:Type} {l:List α} {m i j:Nat} (h1:i < j) (h2:i<=m) (h3:m+j<=l.length) (x:Nat):kI l (m - i) m (m+j) x=kI (uX l (m - i) (m+j - i) i) (m - i) m (m+(j - i)) x:=by
 unfold kI
 rw [qS (by omega) (by omega),qS (by omega) (by omega),qS (by omega) (by omega)]
 repeat' split
 all_goals first|rfl|omega|(congr 1 <;> omega)
theorem eR3 {α:Type} {l:List α} {m i:Nat} (h2:i<=m) (h3:m+i<=l.length) (x:Nat):kI l (m - i) m (m+i) x=(uX l (m - i) m i)[x]?:=by
 unfold kI
 rw [qS (by omega) (by omega)]
 repeat' split
 all_goals first|rfl|omega|(congr 1 <;> omega)
def bR8 {α:Type} (l:List α) (a:Nat):Nat->List α
 |0=>l
 |k+1=>uX (bR8 l a k) (a+k) (a+k+1) 1
theorem cC7 {α:Type} (l:List α) (a:Nat):∀k,(bR8 l a k).length=l.length
 |0=>rfl
 |k+1=>by
  unfold bR8
  rw [uY];exact cC7 l a k
theorem cB7 {α:Type} {l:List α} {a:Nat}:∀{k:Nat},a+k < l.length->∀x,(bR8 l a k)[x]?=kI l a (a+1) (a+k+1) x
 |0,_,x=>by
  unfold kI bR8
  repeat' split
  all_goals first|rfl|omega|(congr 1 <;> omega)
 |k+1,h,x=>by
  have ih:=cB7 (l:=l) (a:=a) (k:=k) (by omega)
  have hl:=cC7 l a k
  unfold bR8
  rw [qS (by omega) (by omega),ih,ih,ih]
  unfold kI
  repeat' split
  all_goals first|rfl|omega|(congr 1 <;> omega)
def bQ8 {α:Type} (l:List α) (m:Nat):Nat->List α
 |0=>l
 |k+1=>uX (bQ8 l m k) (m - k - 1) (m - k) 1
theorem cA7 {α:Type} (l:List α) (m:Nat):∀k,(bQ8 l m k).length=l.length
 |0=>rfl
 |k+1=>by
  unfold bQ8
  rw [uY];exact cA7 l m k
theorem cZ6 {α:Type} {l:List α} {m:Nat}:∀{k:Nat},m < l.length->k<=m->∀x,(bQ8 l m k)[x]?=kI l (m - k) m (m+1) x
 |0,h,_,x=>by
  unfold kI bQ8
  repeat' split
  all_goals first|rfl|omega|(congr 1 <;> omega)
 |k+1,h,hk,x=>by
  have ih:=cZ6 (l:=l) (m:=m) (k:=k) h (by omega)
  have hl:=cA7 l m k
  unfold bQ8
  rw [qS (by omega) (by omega),ih,ih,ih]
  unfold kI
  repeat' split
  all_goals first|rfl|omega|(congr 1 <;> omega)
def eO {α:Type} (l:List α) (a b:Nat):List α:=(l.take b).drop a
structure xE {α:Type} (lt:α->α->Bool) (l R:List α) (a b:Nat):Prop where
 len:R.length=l.length
 front:R.take a=l.take a
 back:R.drop b=l.drop b
 srt:xD lt (eO R a b)
 perm:(eO R a b).Perm (eO l a b)
theorem gP {α:Type} {l:List α} {a b i:Nat}:(eO l a b)[i]?=if a+i < b then l[a+i]? else none:=by
 unfold eO
 rw [List.getElem?_drop,List.getElem?_take]
theorem bC1 {α:Type} {l:List α} {a b:Nat} (h:b<=l.length):(eO l a b).length=b - a:=by
 unfold eO
 rw [List.length_drop,List.length_take]
 omega
theorem eF1 {α:Type} {lt:α->α->Bool} (ho:cY1 lt) {l R:List α} {a b i:Nat} {x:α} (hb:b<=l.length) (hx:l[a]?=some x) (hS:xD lt (eO l (a+1) b)) (hi:a+1<=i) (hib:i<=b) (h1:i=a+1∨∃y,l[i - 1]?=some y/\lt y x=true) (h2:i=b∨∃y,l[i]?=some y/\lt y x=false) (hl:R.length=l.length) (hR:∀z,R[z]?=kI l a (a+1) i z):xE lt l R a b:=by
 have hB:=bC1 (l:=l) (a:=a+1) (b:=b) hb
 have hk:(i - (a+1)=0∨∃y,(eO l (a+1) b)[i - (a+1) - 1]?=some y/\lt y x=true):=by
  rcases h1 with h1|⟨y,hy,hyx⟩
  ·exact .inl (by omega)
  ·rcases Nat.eq_zero_or_pos (i - (a+1)) with h3|h3
   ·exact .inl h3
   ·exact .inr ⟨y,by rw [gP,if_pos (by omega),show a+1+(i - (a+1) - 1)=i - 1 by omega];exact hy,hyx⟩
 have hk2:((eO l (a+1) b).length<=i - (a+1)∨∃y,(eO l (a+1) b)[i - (a+1)]?=some y/\lt y x=false):=by
  rcases h2 with h2|⟨y,hy,hyx⟩
  ·exact .inl (by omega)
  ·rcases Nat.lt_or_ge i b with h3|h3
   ·exact .inr ⟨y,by rw [gP,if_pos (by omega),show a+1+(i - (a+1))=i by omega];exact hy,hyx⟩
   ·exact .inl (by omega)
 obtain ⟨s1,s2⟩:=dL5 ho hS hk hk2
 have hP:eO R a b=(eO l (a+1) b).take (i - (a+1))++x::(eO l (a+1) b).drop (i - (a+1)):=by
  refine List.ext_getElem? fun z=>?_
  rw [gP,hR,List.getElem?_append,List.length_take,hB]
  unfold kI
  rcases Nat.lt_trichotomy z (i - (a+1)) with h3|h3|h3
  ·rw [if_pos (by omega),if_pos (by omega),if_pos (by omega),List.getElem?_take,if_pos (by omega),gP,if_pos (by omega)]
   congr 1;omega
  ·rw [if_pos (by omega),if_neg (by omega),if_pos (by omega),if_neg (by omega),show z - min (i - (a+1)) (b - (a+1))=0 by omega,List.getElem?_cons_zero,<-hx]
   congr 1;omega
  ·obtain ⟨q,hq⟩:∃q,z - min (i - (a+1)) (b - (a+1))=q+1:=⟨z - min (i - (a+1)) (b - (a+1)) - 1,by omega⟩
   rw [if_neg (show ¬z < min (i - (a+1)) (b - (a+1)) by omega),hq,List.getElem?_cons_succ,List.getElem?_drop,gP]
   repeat' split
   all_goals first|rfl|omega|(congr 1 <;> omega)
 have hQ:eO l a b=x::eO l (a+1) b:=by
  refine List.ext_getElem? fun z=>?_
  cases z with
  |zero=>rw [gP,if_pos (by omega),List.getElem?_cons_zero];exact hx
  |succ z=>
   rw [List.getElem?_cons_succ,gP,gP,show a+(z+1)=a+1+z by omega]
 refine ⟨hl,?_,?_,by rw [hP];exact s1,by rw [hP,hQ];exact s2⟩
 ·refine List.ext_getElem? fun z=>?_
  rw [List.getElem?_take,List.getElem?_take]
  split
  ·rw [hR];unfold kI
   rw [if_neg (by omega),if_neg (by omega)]
  ·rfl
 ·refine List.ext_getElem? fun z=>?_
  rw [List.getElem?_drop,List.getElem?_drop,hR]
  unfold kI
  rw [if_neg (by omega),if_neg (by omega)]
theorem eG1 {α:Type} {lt:α->α->Bool} (ho:cY1 lt) {l R:List α} {a m i:Nat} {x:α} (hb:m+1<=l.length) (hx:l[m]?=some x) (hS:xD lt (eO l a m)) (hi:a<=i) (hib:i<=m) (h1:i=a∨∃y,l[i - 1]?=some y/\lt x y=false) (h2:i=m∨∃y,l[i]?=some y/\lt x y=true) (hl:R.length=l.length) (hR:∀z,R[z]?=kI l i m (m+1) z):xE lt l R a (m+1):=by
 have hB:=bC1 (l:=l) (a:=a) (b:=m) (by omega)
 have hk:(i - a=0∨∃y,(eO l a m)[i - a - 1]?=some y/\lt x y=false):=by
  rcases h1 with h1|⟨y,hy,hyx⟩
  ·exact .inl (by omega)
  ·rcases Nat.eq_zero_or_pos (i - a) with h3|h3
   ·exact .inl h3
   ·exact .inr ⟨y,by rw [gP,if_pos (by omega),show a+(i - a - 1)=i - 1 by omega];exact hy,hyx⟩
 have hk2:((eO l a m).length<=i - a∨∃y,(eO l a m)[i - a]?=some y/\lt x y=true):=by
  rcases h2 with h2|⟨y,hy,hyx⟩
  ·exact .inl (by omega)
  ·rcases Nat.lt_or_ge i m with h3|h3
   ·exact .inr ⟨y,by rw [gP,if_pos (by omega),show a+(i - a)=i by omega];exact hy,hyx⟩
   ·exact .inl (by omega)
 obtain ⟨s1,s2⟩:=dM9 ho hS hk hk2
 have hP:eO R a (m+1)=(eO l a m).take (i - a)++x::(eO l a m).drop (i - a):=by
  refine List.ext_getElem? fun z=>?_
  rw [gP,hR,List.getElem?_append,List.length_take,hB]
  unfold kI
  rcases Nat.lt_trichotomy z (i - a) with h3|h3|h3
  ·rw [if_pos (by omega),if_neg (by omega),if_neg (by omega),if_pos (by omega),List.getElem?_take,if_pos (by omega),gP,if_pos (by omega)]
  ·rw [if_pos (by omega),if_pos (by omega),if_neg (by omega),show z - min (i - a) (m - a)=0 by omega,List.getElem?_cons_zero,<-hx]
   congr 1;omega
  ·obtain ⟨q,hq⟩:∃q,z - min (i - a) (m - a)=q+1:=⟨z - min (i - a) (m - a) - 1,by omega⟩
   rw [if_neg (show ¬z < min (i - a) (m - a) by omega),hq,List.getElem?_cons_succ,List.getElem?_drop,gP]
   repeat' split
   all_goals first|rfl|omega|(congr 1 <;> omega)
 have hQ:eO l a (m+1)=eO l a m++ [x]:=by
  refine List.ext_getElem? fun z=>?_
  rw [gP,List.getElem?_append,hB,gP]
  rcases Nat.lt_trichotomy z (m - a) with h3|h3|h3
  ·rw [if_pos (by omega),if_pos (by omega),if_pos (by omega)]
  ·rw [if_pos (by omega),if_neg (by omega),show z - (m - a)=0 by omega,List.getElem?_cons_zero,<-hx]
   congr 1;omega
  ·rw [if_neg (by omega),if_neg (by omega),List.getElem?_eq_none (by simp;omega)]
 refine ⟨hl,?_,?_,by rw [hP];exact s1,by rw [hP,hQ];exact s2.trans (List.perm_append_comm (l₁:= [x]))⟩
 ·refine List.ext_getElem? fun z=>?_
  rw [List.getElem?_take,List.getElem?_take]
  split
  ·rw [hR];unfold kI
   rw [if_neg (by omega),if_neg (by omega)]
  ·rfl
 ·refine List.ext_getElem? fun z=>?_
  rw [List.getElem?_drop,List.getElem?_drop,hR]
  unfold kI
  rw [if_neg (by omega),if_neg (by omega)]
section
variable {α:Type} {lt:α->α->Bool}
theorem bB2 {l:List α} {a m b:Nat} (h1:a<=m) (h2:m<=b) (h3:b<=l.length):eO l a b=eO l a m++eO l m b:=by
 refine List.ext_getElem? fun z=>?_
 rw [gP,List.getElem?_append,bC1 (by omega),gP,gP]
 repeat' split
 all_goals first|rfl|omega|(congr 1 <;> omega)
theorem bC2 {l:List α} {a m i:Nat} (h1:a+i<=m):(eO l a m).take i=eO l a (a+i):=by
 refine List.ext_getElem? fun z=>?_
 rw [List.getElem?_take,gP,gP]
 repeat' split
 all_goals first|rfl|omega
theorem bA2 {l:List α} {a m i:Nat}:(eO l a m).drop i=eO l (a+i) m:=by
 refine List.ext_getElem? fun z=>?_
 rw [List.getElem?_drop,gP,gP]
 repeat' split
 all_goals first|rfl|omega|(congr 1 <;> omega)
theorem bW5 {l:List α} {a b:Nat} (h:xD lt (eO l a b)):xE lt l l a b:=⟨rfl,rfl,rfl,h,List.Perm.refl _⟩
theorem dK1 {l R:List α} {a b m:Nat} (h:R.take m=l.take m) (hb:b<=m):eO R a b=eO l a b:=by
 unfold eO
 have e:∀x:List α,x.take b=(x.take m).take b:=fun x=>by rw [List.take_take,Nat.min_eq_left hb]
 rw [e R,e l,h]
theorem bO7 {l R:List α} {a b m:Nat} (h:R.drop m=l.drop m) (hm:m<=a):eO R a b=eO l a b:=by
 refine List.ext_getElem? fun z=>?_
 rw [gP,gP]
 split
 ·have e:=congrArg (fun q=>q[a+z - m]?) h
  simp only [List.getElem?_drop] at e
  rw [show m+(a+z - m)=a+z by omega] at e
  exact e
 ·rfl
theorem cQ8 {l:List α} {s m e:Nat} (h:s=m∨e=m) (h1:s<=m) (h2:m<=e) (x:Nat):l[x]?=kI l s m e x:=by
 unfold kI
 repeat' split
 all_goals first|rfl|omega|(congr 1 <;> omega)
theorem cU3 {l l1:List α} {a s m e b qI:Nat} (hR:∀x,l1[x]?=kI l s m e x) (hsm:s<=m) (hme:m<=e) (hmid:qI=s+(e - m)):
 eO l1 a s=eO l a s/\eO l1 s qI=eO l m e/\eO l1 qI e=eO l s m/\eO l1 e b=eO l e b:=by
 subst hmid
 refine ⟨?_,?_,?_,?_⟩ <;>
 ·refine List.ext_getElem? fun z=>?_
  rw [gP,gP,hR]
  unfold kI
  repeat' split
  all_goals first|rfl|omega|(congr 1 <;> omega)
theorem eS0 {l l1:List α} {a s m e b:Nat} (hR:∀x,l1[x]?=kI l s m e x) (has:a<=s) (hsm:s<=m) (hme:m<=e) (heb:e<=b):l1.take a=l.take a/\l1.drop b=l.drop b:=by
 constructor
 ·refine List.ext_getElem? fun z=>?_
  rw [List.getElem?_take,List.getElem?_take]
  split
  ·rw [hR];unfold kI
   rw [if_neg (by omega),if_neg (by omega)]
  ·rfl
 ·refine List.ext_getElem? fun z=>?_
  rw [List.getElem?_drop,List.getElem?_drop,hR]
  unfold kI
  rw [if_neg (by omega),if_neg (by omega)]
theorem bT7 (ho:cY1 lt) {l l1 R1 R2:List α} {a m b s e qI:Nat} (hb:b<=l.length) (hsA:xD lt (eO l a m)) (hsB:xD lt (eO l m b))
 (has:a<=s) (hsm:s<=m) (hme:m<=e) (heb:e<=b) (hmid:qI=s+(e - m))
 (h1:s=a∨e=b∨∃x y,l[s - 1]?=some x/\l[e]?=some y/\lt y x=false) (h2:e=m∨s=m∨∃x y,l[s]?=some x/\l[e - 1]?=some y/\lt y x=true)
 (hl1:l1.length=l.length) (hR:∀x,l1[x]?=kI l s m e x) (k1:xE lt l1 R1 a qI) (k2:xE lt R1 R2 qI b):xE lt l R2 a b:=by
 obtain ⟨p1,p2,p3,p4⟩:=cU3 (a:=a) (b:=b) hR hsm hme hmid
 obtain ⟨f1,f2⟩:=eS0 (b:=b) hR has hsm hme heb
 have hA:(eO l a m).length=m - a:=bC1 (by omega)
 have hB:(eO l m b).length=b - m:=bC1 hb
 have t1:(eO l a m).take (s - a)=eO l a s:=by rw [bC2 (by omega),show a+(s - a)=s by omega]
 have t2:(eO l m b).take (e - m)=eO l m e:=by rw [bC2 (by omega),show m+(e - m)=e by omega]
 have t3:(eO l a m).drop (s - a)=eO l s m:=by rw [bA2,show a+(s - a)=s by omega]
 have t4:(eO l m b).drop (e - m)=eO l e b:=by rw [bA2,show m+(e - m)=e by omega]
 have q1:(eO R1 a qI).Perm ((eO l a m).take (s - a)++(eO l m b).take (e - m)):=by
  refine k1.perm.trans ?_
  rw [bB2 (m:=s) has (by omega) (by omega),p1,p2,t1,t2]
 have q2:(eO R2 qI b).Perm ((eO l a m).drop (s - a)++(eO l m b).drop (e - m)):=by
  refine k2.perm.trans ?_
  rw [bO7 k1.back (Nat.le_refl _),bB2 (m:=e) (by omega) heb (by omega),p3,p4,t3,t4]
 have hc:=eJ4 ho hsA hsB (i:=s - a) (j:=e - m) (by
  rcases h1 with h1|h1|⟨x,y,hx,hy,hxy⟩
  ·exact .inl (by omega)
  ·exact .inr (.inl (by omega))
  ·rcases Nat.eq_zero_or_pos (s - a) with h0|h0
   ·exact .inl h0
   ·rcases Nat.lt_or_ge e b with h3|h3
    ·refine .inr (.inr ⟨x,y,?_,?_,hxy⟩)
     ·rw [gP,if_pos (by omega),show a+(s - a - 1)=s - 1 by omega];exact hx
     ·rw [gP,if_pos (by omega),show m+(e - m)=e by omega];exact hy
    ·exact .inr (.inl (by omega))) (by
  rcases h2 with h2|h2|⟨x,y,hx,hy,hxy⟩
  ·exact .inl (by omega)
  ·exact .inr (.inl (by omega))
  ·rcases Nat.eq_zero_or_pos (e - m) with h0|h0
   ·exact .inl h0
   ·rcases Nat.lt_or_ge s m with h3|h3
    ·refine .inr (.inr ⟨x,y,?_,?_,hxy⟩)
     ·rw [gP,if_pos (by omega),show a+(s - a)=s by omega];exact hx
     ·rw [gP,if_pos (by omega),show m+(e - m - 1)=e - 1 by omega];exact hy
    ·exact .inr (.inl (by omega)))
 obtain ⟨j1,j2⟩:=eD1 hsA hsB q1 k1.srt q2 k2.srt hc
 have hl2:R2.length=l.length:=by rw [k2.len,k1.len,hl1]
 have e1:eO R2 a b=eO R1 a qI++eO R2 qI b:=by
  rw [bB2 (m:=qI) (by omega) (by omega) (by omega),dK1 (m:=qI) k2.front (Nat.le_refl _)]
 refine ⟨hl2,?_,?_,by rw [e1];exact j1,?_⟩
 ·have e2:R2.take a=R1.take a:=by
   have h:=congrArg (List.take a) k2.front
   rw [List.take_take,List.take_take,Nat.min_eq_left (by omega)] at h
   exact h
  rw [e2,k1.front,f1]
 ·have e2:R1.drop b=l1.drop b:=by
   have h:=congrArg (List.drop (b - qI)) k1.back
   rw [List.drop_drop,List.drop_drop,show qI+(b - qI)=b by omega] at h
   exact h
  rw [k2.back,e2,f2]
 ·rw [e1,bB2 (l:=l) (a:=a) (m:=m) (b:=b) (by omega) (by omega) hb]
  exact j2
end
end Go.Proofs.YtmifpfcmldflkaaGreatDoor
namespace Go.Proofs
open Go.Shelf
def Tryz.lays106_ren:Go.Shelf.Ren:=⟨fun|106=>120|213=>161|265=>206|n=>n,fun|9=>9|3=>3|n=>n,fun|n=>n⟩
theorem Tryz.lays106:Go.Proofs.Lays.n106 prog Tryz.lays106_ren:={
 mixed:=by kernel_rfl
 f106:=func120.trans (congrArg some (by kernel_rfl))
 f213:=func161.trans (congrArg some (by kernel_rfl))
 f265:=func206.trans (congrArg some (by kernel_rfl))
 t3:=Tryz.underlying3
 a3:=Tryz.isAgg3
 z3:=Tryz.sizeOf3
 v3:=Tryz.zeroValue3
 t9:=Tryz.underlying9
 a9:=Tryz.isAgg9
 z9:=Tryz.sizeOf9
 v9:=Tryz.zeroValue9 }
end Go.Proofs
namespace Go.Proofs.YtmifpfcmldflkaaGreatDoor
open Tryz
open Go.RowKit
theorem dN2:∀a b:List UInt8,Lib.compareBytes a b=if Go.Op.bytesLess a b=true then -1 else if (Go.Op.bytesLess a b||a==b)=false then 1 else 0
 | [], []=>rfl
 | [],b::y=>by simp [Lib.compareBytes,Go.Op.bytesLess]
 |a::x, []=>by simp [Lib.compareBytes,Go.Op.bytesLess]
 |a::x,b::y=>by
  have ih:=dN2 x y
  unfold Lib.compareBytes Go.Op.bytesLess
  by_cases h1:a < b
  ·simp [h1]
  ·by_cases h2:b < a
   ·have h3:¬a=b:=fun e=>by subst e;exact h1 h2
    simp [h1,h2,h3]
   ·have h3:a=b:=by
     rcases Decidable.em (a=b) with h|h
     ·exact h
     ·rcases UInt8.lt_or_lt_of_ne h with h|h
      ·exact absurd h h1
      ·exact absurd h h2
    subst h3
    simp only [h1,if_false,ih,decide_false,Bool.false_or,beq_self_eq_true,Bool.true_and,List.cons_beq_cons]
theorem cN1 (a b:ByteArray) (w:World):Calls prog 120 #[.string a,.string b] w (fun e w'=>e=.returned (.int .i64 (mX a b))/\w.grownBy w' none):=by
 have hcon:=Any.strings_Compare Tryz.lays106 a b w
 refine Calls.mono hcon ?_
 rintro e w' ⟨rfl,rfl⟩
 refine ⟨?_,World.grownBy.refl _ _⟩
 unfold mX
 rw [dN2,ByteArray.toList_eq,ByteArray.toList_eq]
def kW (r:Rt):List Value:= [.string r.cls,.int .i64 r.fr,.int .i64 r.to_,.int .i64 r.hr,.int .i64 r.dy,.int .i64 r.we,.int .i64 r.wk]
theorem vH (r:Rt):(kW r).length=7:=rfl
theorem dO4 (a:ByteArray):(!(a.toList==a.toList))=false:=by simp
theorem dJ5 (a:Int):(!decide (a=a))=false:=by simp
theorem cW0 (a:ByteArray) (w:World):Calls prog 95 #[.string a] w (fun e w'=>e=.returned (.bool false)/\w.grownBy w' none):=by
 refine cV ⟨6,w,none, []⟩ func95 U ntmps95 U (gR (X:= []) cY cZ) (bS (bZ U (bR (bS (bP U (bP U (bB (vT U U) U (bL 5 (v':= .bool false) U (fH5 (dO4 a)) (bZ U (bR (bM ?_)))))))))))
 exact bK U U fun wx hm=>⟨U,hm.g⟩
theorem rB (a b:ByteArray) (w:World):Calls prog 45 #[.string a,.string b] w (fun e w'=>e=.returned (.int .i64 (mX a b))/\w.grownBy w' none):=by
 refine cV ⟨20,w,none, []⟩ func45 U ntmps45 U (gR (X:= []) cY cZ) (bS (bZ U (bR (bS (bP U (cL U fP1 U U (fun wx hm=>(cW0 _ wx)) (bZ U (bR (bS (bP U (cL U fP1 U U (fun wx hm=>(cW0 _ wx)) (bZ U (bR (bH (bS (bP U (bR (jU U (bN (bD (bH (bH ?_))))))))))))))))))))))
 refine bI (bP U (bR (jU U (bN (bD (bH (bS (bP U (bP U (bB (cG6 U U) U (bR ?_)))))))))))
 refine dC U (fun hh=>?_) (fun hh=>?_)
 ·have h1:(Op.bytesLess a.toList b.toList)=true:=by simpa using hh
  refine bS (bZ U (bL 4 (v':= .int .i64 (-1)) U U (bR (bM (bA ?_)))))
  refine bK U U fun wx hm=>?_
  refine ⟨?_,hm.g⟩
  unfold mX;rw [if_pos h1]
 have h1:(Op.bytesLess a.toList b.toList)=false:=by simpa using hh
 refine bN (bD (bH (bS (bP U (bP U (bB (eP3 U U) U (bR ?_)))))))
 refine dC U (fun hh=>?_) (fun hh=>?_)
 ·have h2:(Op.bytesLess a.toList b.toList||a.toList==b.toList)=false:=by simpa only [Bool.not_eq_true',Bool.not_eq_false'] using hh
  refine bS (bZ U (bR (bM (bA ?_))))
  refine bK U U fun wx hm=>?_
  refine ⟨?_,hm.g⟩
  unfold mX;rw [if_neg (by rw [h1];decide),if_pos h2]
 have h2:(Op.bytesLess a.toList b.toList||a.toList==b.toList)=true:=by simpa only [Bool.not_eq_true',Bool.not_eq_false'] using hh
 refine bN (bD (bS (bZ U (bR (bM ?_)))))
 refine bK U U fun wx hm=>?_
 refine ⟨?_,hm.g⟩
 unfold mX;rw [if_neg (by rw [h1];decide),if_neg (by rw [h2];decide)]
theorem dQ3 (a:Int) (w:World):Calls prog 94 #[.int .i64 a] w (fun e w'=>e=.returned (.bool false)/\w.grownBy w' none):=by
 refine cV ⟨6,w,none, []⟩ func94 U ntmps94 U (gR (X:= []) cY cZ) (bS (bZ U (bR (bS (bP U (bP U (bB (gX U U) U (bL 5 (v':= .bool false) U (fH5 (dJ5 a)) (bZ U (bR (bM ?_)))))))))))
 exact bK U U fun wx hm=>⟨U,hm.g⟩
theorem bO4 (a b:Int) (w:World):Calls prog 44 #[.int .i64 a,.int .i64 b] w (fun e w'=>e=.returned (.int .i64 (pD a b))/\w.grownBy w' none):=by
 refine cV ⟨20,w,none, []⟩ func44 U ntmps44 U (gR (X:= []) cY cZ) (bS (bZ U (bR (bS (bP U (cL U fO1 U U (fun wx hm=>(dQ3 _ wx)) (bZ U (bR (bS (bP U (cL U fO1 U U (fun wx hm=>(dQ3 _ wx)) (bZ U (bR (bH (bS (bP U (bR (jU U (bN (bD (bH (bH ?_))))))))))))))))))))))
 refine bI (bP U (bR (jU U (bN (bD (bH (bS (bP U (bP U (bB (dD U U) U (bE (bD ?_))))))))))))
 refine cE U (fun h1=>?_) (fun h1=>?_)
 ·refine bS (bZ U ?_)
  refine bL 4 (v':= .int .i64 (-1)) U U (bR (bM (bA ?_)))
  refine bK U U fun wx hm=>?_
  refine ⟨?_,hm.g⟩
  unfold pD;rw [if_pos h1]
 refine bN (bD (bH (bS (bP U (bP U (bB (eJ U U) U (bR ?_)))))))
 refine cE U (fun h2=>?_) (fun h2=>?_)
 ·refine bS (bZ U (bR ?_))
  refine bM (bA ?_)
  refine bK U U fun wx hm=>?_
  refine ⟨?_,hm.g⟩
  unfold pD;rw [if_neg h1,if_pos h2]
 refine bN (bD (bS (bZ U (bR (bM ?_)))))
 refine bK U U fun wx hm=>?_
 refine ⟨?_,hm.g⟩
 unfold pD;rw [if_neg h1,if_neg h2]
theorem cE6 (a b:Int) (g T c:Nat) (w:World) (h:Blk w g T [.int .i64 a,.int .i64 b]):Calls prog 43 #[.slice (some ⟨g,0,none⟩) 2 c] w (fun e w'=>e=.returned (.int .i64 (dI [a,b]))/\w.grownBy w' none):=by
 refine cV ⟨18,w,none, []⟩ func43 U ntmps43 U (gR (X:= [fL w.heap.size none g T [.int .i64 a,.int .i64 b] ]) (cG h.old cY) (cH fL.lasts cZ)) (bS (bZ U (bR (bS (bZ U (bR (bH (bS (bP U (bB (dT pE U) U (bL 7 (v':= .int .i64 2) U U (bP U (bR (bO (eZ 3 (eB (bS (bB (dD U U) U (bL 9 (v':= .bool true) U (fH5 (by decide)) (bR (bH (kQ U (bN (bD (bH (bO (bS (bB (bT (j:=0) pE U U (by decide)) U (bB (cN (v:= .int .i64 a) fF U (fun _ hm=>(hm.fact 0 U).2) U) U ?_)))))))))))))))))))))))))))))
 refine bZ U (bR (bS (bP U (bP U (bB (gX U U) U (bR ?_))))))
 refine gI U (fun h1=>?_) (fun h1=>?_)
 ·refine bS (bP U (bZ U (bR ?_)))
  refine bM (bC (bA (bA (bC (bA ?_)))))
  refine bK U U fun wx hm=>?_
  refine ⟨?_,hm.g⟩
  rw [uV,if_neg h1]
 refine bN (bG (bD (bI (gN U U (bL 16 (v':= .int .i64 1) U U (bP U (bE (hW (eB (bS (bB (dD U U) U (bL 9 (v':= .bool true) U (fH5 (by decide)) (bR (bH (kQ U (bN (bD (bH (bO (bS (bB (bT (j:=1) pE U U (by decide)) U (bB (cN (v:= .int .i64 b) fF U (fun _ hm=>(hm.fact 0 U).2) U) U (bZ U (bR (bS (bP U (bP U (bB (gX U U) U (bR ?_)))))))))))))))))))))))))))))
 refine gI U (fun h2=>?_) (fun h2=>?_)
 ·refine bS (bP U (bZ U (bR ?_)))
  refine bM (bC (bA (bA (bC (bA ?_)))))
  refine bK U U fun wx hm=>?_
  refine ⟨?_,hm.g⟩
  rw [uV,if_pos h1]
 refine bN (bG (bD (bI (gN U U (bL 16 (v':= .int .i64 2) U U (bP U (bE (hW (eB (bS (bB (dD U U) U (bL 9 (v':= .bool false) U (fH5 (by decide)) (bR (bH (jU U (dE (bF (bF (bY (bD (bS (bP U (bZ U (bR (bM ?_)))))))))))))))))))))))))
 refine bK U U fun wx hm=>?_
 refine ⟨?_,hm.g⟩
 rw [uV,if_pos h1,h2]
theorem bU9 (l:List Rt) (A:Option Addr) (n c:Nat) (w:World) (hl:SlT kW 7 219 w A n l) (hok:∀b∈l,cZ1 b) (hn:n<=1000000):
 Calls prog 163 #[.slice A n c] w (nC w (pL l)):=by
 refine cV ⟨90,w,none, []⟩ func163 U ntmps163 U (gR (X:= [bU kW 7 219 w.heap.size none A n l]) (cG hl.old cY) (cH bU.lasts cZ)) (bS ?_)
 have hlen:=hl.len
 refine bZ U (bR (bH (bS (bP U (bB (dT bW8 U) U (bB (eJ U U) U (bR ?_)))))))
 refine cE U (fun h1=>?_) (fun h1=>?_)
 ·refine bS (bZ U (bR ?_))
  refine bM (bA ?_)
  exact bK U U fun wx hm=>⟨bW (by unfold pL;rw [if_pos (by omega)]),hm.g⟩
 refine bN (bD (bH (bS (bP U (bB (dT bW8 U) U (bP U (bR (bO ?_))))))))
 refine dX (γ:=Nat) (fun (k:Nat)=>k<=n/\pL l=scanE fV (prevOf l k) (l.drop k)) (fun (k:Nat)=> [(0,.slice A n c),(11,.slice A n c),(12,.int .i64 ((n:Nat):Int)),(13,.int .i64 ((k:Nat):Int))]) (fun (k:Nat)=>fun _=>True) (fun (k:Nat)=> []) (fun (k:Nat)=> []) (fun (k:Nat)=> [bU kW 7 219 w.heap.size none A n l]) (fun (k:Nat)=>n - k) 0 ⟨Nat.zero_le _,by unfold pL;rw [if_neg (by omega)];rfl⟩ ⟨U,U,U,U,trivial⟩ (fun _ hm=>hm.pick [] [] [0] U U) ?_
 intro k cC
 replace cC:k<=n/\pL l=scanE fV (prevOf l k) (l.drop k):=cC
 refine bS (bB (dD U U) U (bR (bH ?_)))
 refine cE U (fun hk=>?_) (fun hk=>?_)
 ·refine bN (bD (bH (bO (bS ?_))))
  obtain ⟨b,off,hA,_,_⟩:=hl.get (by omega)
  subst hA
  obtain ⟨x,hx⟩:∃x,l[k]?=some x:=⟨_,fJ5 (by omega)⟩
  obtain ⟨cl,fr,tt,ho,dd,we,wk⟩:=x
  have hat:=scanE_at fV l k _ hx
  have hcl:cl.size<=1000000:=hok _ (fK5 hx)
  refine bP U (bB (bT (j:=k) bW8 U U (by omega)) U (bB (dO (vs:= [.string cl,.int .i64 fr,.int .i64 tt,.int .i64 ho,.int .i64 dd,.int .i64 we,.int .i64 wk]) bI1 U (fun _ hm=>(hm.fact 0 U).1) hx U U) U (dH cK9 U fun g1=>bZ U (jX (cs':= [.string cl,.int .i64 fr,.int .i64 tt,.int .i64 ho,.int .i64 dd,.int .i64 we,.int .i64 wk]) 0 bI1 U U U U (bR (bH (bO (bS (dW pB U U (eI fE 0 U U U (dA U bP2 U U (fun wx hm=>(isKey_any _ wx (by omega))) (bB (cF U) U (bZ U (bR ?_))))))))))))))
  refine dC U (fun hh=>?_) (fun hh=>?_)
  ·have h2:(keyB cl)=false:=by simpa using hh
   refine bS (bZ U (bR (bM (bC (bA (bC (bA (bA (bC (bA ?_))))))))))
   have hE:fV (prevOf l k) ⟨cl,fr,tt,ho,dd,we,wk⟩=5:=by unfold fV;simp [h2]
   exact bK U U fun wx hm=>⟨bW (by rw [cC.2,hat,if_neg (by rw [hE];decide),hE]),hm.g⟩
  have h2:(keyB cl)=true:=by simpa using hh
  refine bS (dW qF U U (eI fF 0 U U U (bB (dD U U) U (bP U ?_))))
  rcases Bool.eq_false_or_eq_true (decide (fr < 0)) with h3|h3
  ·refine bL 27 U (fH5 h3) ?_
   replace h3:=of_decide_eq_true h3
   refine dY U (dY U (dY U (dY U (dY U (mQ U U (bP U (dY U (dY U (dY U (mQ U U (bZ U (bR (kQ U (bS (bZ U (bR (bM (bC (bA (bC (bA (bA (bC (bA ?_))))))))))))))))))))))))
   have hE:fV (prevOf l k) ⟨cl,fr,tt,ho,dd,we,wk⟩=1:=by unfold fV;simp [h2,h3]
   exact bK U U fun wx hm=>⟨bW (by rw [cC.2,hat,if_neg (by rw [hE];decide),hE]),hm.g⟩
  refine bL 27 U (fH5 h3) ?_
  replace h3:=of_decide_eq_false h3
  refine eG U (dW qF U U (eG U (eI fF 0 U U U (eG U (dW qX U U (eG U (eI fF 0 U U U (eG U (bB (mO U U) U (nS U U (bP U ?_)))))))))))
  rcases Bool.eq_false_or_eq_true (decide (tt<=fr)) with h4|h4
  ·refine bL 34 U (fH5 h4) ?_
   replace h4:=of_decide_eq_true h4
   refine dY U (dY U (dY U (mQ U U (bZ U (bR (kQ U (bS (bZ U (bR (bM (bC (bA (bC (bA (bA (bC (bA ?_)))))))))))))))))
   have hE:fV (prevOf l k) ⟨cl,fr,tt,ho,dd,we,wk⟩=1:=by unfold fV;simp [h2,h3,h4]
   exact bK U U fun wx hm=>⟨bW (by rw [cC.2,hat,if_neg (by rw [hE];decide),hE]),hm.g⟩
  refine bL 34 U (fH5 h4) ?_
  replace h4:=of_decide_eq_false h4
  refine eG U (dW qX U U (eG U (eI fF 0 U U U (eG U (bB (eJ U U) U (nS U U (bZ U (bR ?_))))))))
  refine cE U (fun h5=>?_) (fun h5=>?_)
  ·refine bS (bZ U (bR ?_))
   refine bM (bC (bA (bC (bA (bA (bC (bA ?_)))))))
   have hE:fV (prevOf l k) ⟨cl,fr,tt,ho,dd,we,wk⟩=1:=by unfold fV;simp [h2,h3,h4,h5]
   exact bK U U fun wx hm=>⟨bW (by rw [cC.2,hat,if_neg (by rw [hE];decide),hE]),hm.g⟩
  refine bN (bG (bD (bH (bS (dW cG5 U U (eI fF 0 U U U (dW bG9 U U (eI fF 0 U U U (dW cH5 U U (eI fF 0 U U U (dW cI5 U U (eI fF 0 U U U (jF 3 [.int .i64 ho,.int .i64 dd,.int .i64 we,.int .i64 wk] fun g2=>bB (dT pE U) U (bL 48 (v':= .int .i64 4) U U (bP U (bR (bO (eZ 5 (eB (bS (bB (dD U U) U (bL 50 (v':= .bool true) U (fH5 (by decide)) ?_))))))))))))))))))))))
  refine bR (bH (kQ U (bN (bD (bH (bO (bS (bB (bT (j:=0) pE U U (by decide)) U (eI fF 0 U U U (bZ U (bR (bS (bP U (dA U qB U U (fun wx hm=>(in_any _ _ _ wx)) (bB (cF U) U (bR ?_))))))))))))))))
  refine dC U (fun hh=>?_) (fun hh=>?_)
  ·have i1:(inB ho (-1) 1000000)=false:=by simpa using hh
   refine bS (bZ U (bR (bM (bC (bA (bA (bC (bA (bC (bA (bA (bC (bA ?_)))))))))))))
   have hE:fV (prevOf l k) ⟨cl,fr,tt,ho,dd,we,wk⟩=1:=by unfold fV;simp [h2,h3,h4,h5,i1]
   exact bK U U fun wx hm=>⟨bW (by rw [cC.2,hat,if_neg (by rw [hE];decide),hE]),hm.g⟩
  have i1:(inB ho (-1) 1000000)=true:=by simpa using hh
  refine bN (bG (bD (bI (gN U U (bL 56 (v':= .int .i64 1) U U (bP U (bE (hW (eB (bS (bB (dD U U) U (bL 50 (v':= .bool true) U (fH5 (by decide)) (bR (bH (kQ U (bN (bD (bH (bO (bS (bB (bT (j:=1) pE U U (by decide)) U (eI fF 0 U U U (bZ U (bR (bS (bP U (dA U qB U U (fun wx hm=>(in_any _ _ _ wx)) (bB (cF U) U (bR ?_)))))))))))))))))))))))))))))
  refine dC U (fun hh=>?_) (fun hh=>?_)
  ·have i2:(inB dd (-1) 1000000)=false:=by simpa using hh
   refine bS (bZ U (bR (bM (bC (bA (bA (bC (bA (bC (bA (bA (bC (bA ?_)))))))))))))
   have hE:fV (prevOf l k) ⟨cl,fr,tt,ho,dd,we,wk⟩=1:=by unfold fV;simp [h2,h3,h4,h5,i1,i2]
   exact bK U U fun wx hm=>⟨bW (by rw [cC.2,hat,if_neg (by rw [hE];decide),hE]),hm.g⟩
  have i2:(inB dd (-1) 1000000)=true:=by simpa using hh
  refine bN (bG (bD (bI (gN U U (bL 56 (v':= .int .i64 2) U U (bP U (bE (hW (eB (bS (bB (dD U U) U (bL 50 (v':= .bool true) U (fH5 (by decide)) (bR (bH (kQ U (bN (bD (bH (bO (bS (bB (bT (j:=2) pE U U (by decide)) U (eI fF 0 U U U (bZ U (bR (bS (bP U (dA U qB U U (fun wx hm=>(in_any _ _ _ wx)) (bB (cF U) U (bR ?_)))))))))))))))))))))))))))))
  refine dC U (fun hh=>?_) (fun hh=>?_)
  ·have i3:(inB we (-1) 1000000)=false:=by simpa using hh
   refine bS (bZ U (bR (bM (bC (bA (bA (bC (bA (bC (bA (bA (bC (bA ?_)))))))))))))
   have hE:fV (prevOf l k) ⟨cl,fr,tt,ho,dd,we,wk⟩=1:=by unfold fV;simp [h2,h3,h4,h5,i1,i2,i3]
   exact bK U U fun wx hm=>⟨bW (by rw [cC.2,hat,if_neg (by rw [hE];decide),hE]),hm.g⟩
  have i3:(inB we (-1) 1000000)=true:=by simpa using hh
  refine bN (bG (bD (bI (gN U U (bL 56 (v':= .int .i64 3) U U (bP U (bE (hW (eB (bS (bB (dD U U) U (bL 50 (v':= .bool true) U (fH5 (by decide)) (bR (bH (kQ U (bN (bD (bH (bO (bS (bB (bT (j:=3) pE U U (by decide)) U (eI fF 0 U U U (bZ U (bR (bS (bP U (dA U qB U U (fun wx hm=>(in_any _ _ _ wx)) (bB (cF U) U (bR ?_)))))))))))))))))))))))))))))
  refine dC U (fun hh=>?_) (fun hh=>?_)
  ·have i4:(inB wk (-1) 1000000)=false:=by simpa using hh
   refine bS (bZ U (bR (bM (bC (bA (bA (bC (bA (bC (bA (bA (bC (bA ?_)))))))))))))
   have hE:fV (prevOf l k) ⟨cl,fr,tt,ho,dd,we,wk⟩=1:=by unfold fV;simp [h2,h3,h4,h5,i1,i2,i3,i4]
   exact bK U U fun wx hm=>⟨bW (by rw [cC.2,hat,if_neg (by rw [hE];decide),hE]),hm.g⟩
  have i4:(inB wk (-1) 1000000)=true:=by simpa using hh
  refine bN (bG (bD (bI ?_)))
  by_cases hk0:k=0
  ·have hE:fV (prevOf l k) ⟨cl,fr,tt,ho,dd,we,wk⟩=0:=by unfold fV;rw [bD2 hk0];simp [h2,h3,h4,h5,i1,i2,i3,i4]
   refine gN U U (bL 56 (v':= .int .i64 4) U U (bP U (bE (hW (eB (bS (bB (dD U U) U (bL 50 (v':= .bool false) U (fH5 (by decide)) (bR (bH (jU U (dE (bF (bF (bY (bD (bH (bS (bP U (bB (eN U U) U (bL 58 (v':= .bool true) U (fH5 (decide_eq_true (by omega))) (bR (kQ U (dE (bF (bY ?_))))))))))))))))))))))))))
   refine bD (bI (gN U U (bP U (bE ?_))))
   exact cQ (k+1) ⟨by omega,by rw [cC.2,hat,if_pos hE]⟩ (by omega) ⟨U,U,U,(cS (by omega)),trivial⟩ (fun _ hm=>hm.pick [] [] [0] U U)
  obtain ⟨y,hy⟩:∃x,l[k - 1]?=some x:=⟨_,fJ5 (by omega)⟩
  obtain ⟨p0,p1,p2,p3,p4,p5,p6⟩:=y
  have hpv:=cH6 hk0 hy
  refine gN U U (bL 56 (v':= .int .i64 4) U U (bP U (bE (hW (eB (bS (bB (dD U U) U (bL 50 (v':= .bool false) U (fH5 (by decide)) (bR (bH (jU U (dE (bF (bF (bY (bD (bH (bS (bP U (bB (eN U U) U (bL 58 (v':= .bool false) U (fH5 (decide_eq_false (by omega))) (bR (jU U (bN (bD (bS (bP U (bP U (bB (ov_sub U U (by omega) (by omega)) U ?_)))))))))))))))))))))))))))))
  refine bL 61 (v':= .int .i64 ((k - 1:Nat):Int)) U (fI5 (by omega)) (bB (bT (j:=k - 1) bW8 U U (by omega)) U (bB (dO (vs:= [.string p0,.int .i64 p1,.int .i64 p2,.int .i64 p3,.int .i64 p4,.int .i64 p5,.int .i64 p6]) bI1 U (fun _ hm=>(hm.fact 0 U).1) hy U U) U (dH cK9 U fun g3=>jX (cs':= [.string p0,.int .i64 p1,.int .i64 p2,.int .i64 p3,.int .i64 p4,.int .i64 p5,.int .i64 p6]) 0 bI1 U U U U (bR (bH (bH (gd (fun wz=>Blk wz g3 219 [.string p0,.int .i64 p1,.int .i64 p2,.int .i64 p3,.int .i64 p4,.int .i64 p5,.int .i64 p6]/\Blk wz g1 219 [.string cl,.int .i64 fr,.int .i64 tt,.int .i64 ho,.int .i64 dd,.int .i64 we,.int .i64 wk]/\True) mixed (fun _ hm=>⟨hm.bl 0,hm.bl 2,trivial⟩) fun z=>wq 0 U (bQ pB U U) (wq 1 U (cN fE U (fun _ hm=>hm.1) U) (wq 2 U (bQ pB U U) (wq 3 U (cN fE U (fun _ hm=>hm.2.1) U) (wq 5 U (bQ qF U U) (wq 6 U (cN fF U (fun _ hm=>hm.1) U) (wq 7 U (bQ qF U U) (wq 8 U (cN fF U (fun _ hm=>hm.2.1) U) (eC 4 U (cL U cV9 U U (fun wx hm=>(rB _ _ wx)) (bE (nw 13 511 (fun _ hm=>⟨hm.bl 0,hm.bl 2,trivial⟩) fun z=>eC 9 U (cL U dT7 U U (fun wx hm=>(bO4 _ _ wx)) (bE (nw 13 1023 (fun _ hm=>⟨hm.bl 0,hm.bl 2,trivial⟩) fun z=>eC 10 U (jF 3 [.int .i64 (mX p0 cl),.int .i64 (pD p1 fr)] fun g4=>bE (nw 13 2047 (fun _ hm=>⟨hm.bl 1,hm.bl 3,trivial⟩) fun z=>eC 11 U ?_)))))))))))))))))))))))
  refine cL U dS7 U U (fun wx hm=>(cE6 _ _ _ _ _ wx (hm.blkI 0 U))) (bE (nw 13 4095 (fun _ hm=>⟨hm.bl 1,hm.bl 3,trivial⟩) fun z=>wq 12 U (mO U U) (jH (bD ?_))))
  refine cE U (fun h8=>?_) (fun h8=>?_)
  ·refine bS ?_
   have h9:bW2 ⟨p0,p1,p2,p3,p4,p5,p6⟩ ⟨cl,fr,tt,ho,dd,we,wk⟩=false:=(eN0 ⟨p0,p1,p2,p3,p4,p5,p6⟩ ⟨cl,fr,tt,ho,dd,we,wk⟩).1 h8
   refine bZ U (bR (bM (bA (bC (bA (bA (bC (bA ?_))))))))
   have hE:fV (prevOf l k) ⟨cl,fr,tt,ho,dd,we,wk⟩=7:=by unfold fV;rw [hpv];simp [h2,h3,h4,h5,i1,i2,i3,i4,h9]
   exact bK U U fun wx hm=>⟨bW (by rw [cC.2,hat,if_neg (by rw [hE];decide),hE]),hm.g⟩
  refine bN (bD (bS ?_))
  have h9:bW2 ⟨p0,p1,p2,p3,p4,p5,p6⟩ ⟨cl,fr,tt,ho,dd,we,wk⟩=true:=by
   cases h:bW2 ⟨p0,p1,p2,p3,p4,p5,p6⟩ ⟨cl,fr,tt,ho,dd,we,wk⟩
   ·exact absurd ((eN0 ⟨p0,p1,p2,p3,p4,p5,p6⟩ ⟨cl,fr,tt,ho,dd,we,wk⟩).2 h) h8
   rfl
  refine dW pB U U (eI fE 1 U U U (dW pB U U (eI fE 3 U U U (bB (eR U U) U (bP U ?_)))))
  rcases Bool.eq_false_or_eq_true (p0.toList==cl.toList) with h12|h12
  ·refine bL 82 U (fH5 h12) ?_
   have h13:zS p0 cl=true:=h12
   refine eG U (dW qX U U (eG U (eI fF 1 U U U (eG U (dW qF U U (eG U (eI fF 3 U U U (eG U (bB (eJ U U) U (mQ U U (bR ?_)))))))))))
   refine cE U (fun h14=>?_) (fun h14=>?_)
   ·refine bS (bZ U (bR ?_))
    refine bM (bC (bA (bA (bC (bA ?_)))))
    have hE:fV (prevOf l k) ⟨cl,fr,tt,ho,dd,we,wk⟩=13:=by unfold fV;rw [hpv];simp [h2,h3,h4,h5,i1,i2,i3,i4,h9,h13,h14]
    exact bK U U fun wx hm=>⟨bW (by rw [cC.2,hat,if_neg (by rw [hE];decide),hE]),hm.g⟩
   refine bN (bG (bD (bI ?_)))
   have hE:fV (prevOf l k) ⟨cl,fr,tt,ho,dd,we,wk⟩=0:=by unfold fV;rw [hpv];simp [h2,h3,h4,h5,i1,i2,i3,i4,h9,h13,h14]
   refine gN U U (bP U (bE ?_))
   exact cQ (k+1) ⟨by omega,by rw [cC.2,hat,if_pos hE]⟩ (by omega) ⟨U,U,U,(cS (by omega)),trivial⟩ (fun _ hm=>hm.pick [] [] [0] U U)
  refine bL 82 U (fH5 h12) ?_
  have h13:zS p0 cl=false:=h12
  have hE:fV (prevOf l k) ⟨cl,fr,tt,ho,dd,we,wk⟩=0:=by unfold fV;rw [hpv];simp [h2,h3,h4,h5,i1,i2,i3,i4,h9,h13]
  refine dY U (dY U (dY U (dY U (dY U (nS U U (bR (jU U (bN (bG (bD (bI (gN U U (bP U (bE ?_))))))))))))))
  exact cQ (k+1) ⟨by omega,by rw [cC.2,hat,if_pos hE]⟩ (by omega) ⟨U,U,U,(cS (by omega)),trivial⟩ (fun _ hm=>hm.pick [] [] [0] U U)
 refine dE (bF (bF (bY (bD (bS (bZ U (bR (bM ?_))))))))
 exact bK U U fun wx hm=>⟨bW (by rw [cC.2,scanE_end _ _ _ _ (by omega)]),hm.g⟩
theorem cE1 (l:List Rt) (A:Option Addr) (n c:Nat) (w:World) (hl:SlT kW 7 219 w A n l) (hok:∀b∈l,cZ1 b) (hn:n<=1000000):
 Calls prog 111 #[.slice A n c] w (nC w (pL l)):=by
 refine cV ⟨107,w,none, []⟩ func111 U ntmps111 U (gR (X:= [bU kW 7 219 w.heap.size none A n l]) (cG hl.old cY) (cH bU.lasts cZ)) (bS ?_)
 have hlen:=hl.len
 refine bZ U (bR (bH (bS (bP U (bB (dT bW8 U) U (bB (eJ U U) U (bR ?_)))))))
 refine cE U (fun h1=>?_) (fun h1=>?_)
 ·refine bS (bZ U (bR ?_))
  refine bM (bA ?_)
  exact bK U U fun wx hm=>⟨bW (by unfold pL;rw [if_pos (by omega)]),hm.g⟩
 refine bN (bD (bH (bS (bP U (bB (dT bW8 U) U (bP U (bR (bO ?_))))))))
 refine dX (γ:=Nat) (fun (k:Nat)=>k<=n/\pL l=scanE fV (prevOf l k) (l.drop k)) (fun (k:Nat)=> [(0,.slice A n c),(11,.slice A n c),(12,.int .i64 ((n:Nat):Int)),(13,.int .i64 ((k:Nat):Int))]) (fun (k:Nat)=>fun _=>True) (fun (k:Nat)=> []) (fun (k:Nat)=> []) (fun (k:Nat)=> [bU kW 7 219 w.heap.size none A n l]) (fun (k:Nat)=>n - k) 0 ⟨Nat.zero_le _,by unfold pL;rw [if_neg (by omega)];rfl⟩ ⟨U,U,U,U,trivial⟩ (fun _ hm=>hm.pick [] [] [0] U U) ?_
 intro k cC
 replace cC:k<=n/\pL l=scanE fV (prevOf l k) (l.drop k):=cC
 refine bS (bB (dD U U) U (bR (bH ?_)))
 refine cE U (fun hk=>?_) (fun hk=>?_)
 ·refine bN (bD (bH (bO (bS ?_))))
  obtain ⟨b,off,hA,_,_⟩:=hl.get (by omega)
  subst hA
  obtain ⟨x,hx⟩:∃x,l[k]?=some x:=⟨_,fJ5 (by omega)⟩
  obtain ⟨cl,fr,tt,ho,dd,we,wk⟩:=x
  have hat:=scanE_at fV l k _ hx
  have hcl:cl.size<=1000000:=hok _ (fK5 hx)
  refine bP U (bB (bT (j:=k) bW8 U U (by omega)) U (bB (dO (vs:= [.string cl,.int .i64 fr,.int .i64 tt,.int .i64 ho,.int .i64 dd,.int .i64 we,.int .i64 wk]) bI1 U (fun _ hm=>(hm.fact 0 U).1) hx U U) U (dH cK9 U fun g1=>bZ U (jX (cs':= [.string cl,.int .i64 fr,.int .i64 tt,.int .i64 ho,.int .i64 dd,.int .i64 we,.int .i64 wk]) 0 bI1 U U U U (bR (bH (gd (fun wz=>Blk wz g1 219 [.string cl,.int .i64 fr,.int .i64 tt,.int .i64 ho,.int .i64 dd,.int .i64 we,.int .i64 wk]/\True) mixed (fun _ hm=>⟨hm.bl 0,trivial⟩) fun z=>wq 0 U (bQ cG5 U U) (wq 1 U (cN fF U (fun _ hm=>hm.1) U) (wq 2 U (bQ bG9 U U) (wq 3 U (cN fF U (fun _ hm=>hm.1) U) (wq 4 U (bQ cH5 U U) (wq 5 U (cN fF U (fun _ hm=>hm.1) U) (wq 6 U (bQ cI5 U U) (wq 7 U (cN fF U (fun _ hm=>hm.1) U) (wq 8 U (eO3 U U U U) (wq 9 U (bQ cG5 U U) (wq 10 U (cN fF U (fun _ hm=>hm.1) U) (wq 11 U (bQ bG9 U U) (wq 12 U (cN fF U (fun _ hm=>hm.1) U) (wq 13 U (bQ cH5 U U) (wq 14 U (cN fF U (fun _ hm=>hm.1) U) (wq 15 U (bQ cI5 U U) (wq 16 U (cN fF U (fun _ hm=>hm.1) U) (wq 17 U (eN3 U U U U) (wq 18 U (cU U) (wq 19 U (cU U) (jH ?_)))))))))))))))))))))))))))
  refine bD (bH (bO (bS (dW pB U U (eI fE 0 U U U (cL U bW7 U U (fun wx hm=>(wQ _ wx (by omega))) (bB (cF U) U (bZ U (bR ?_)))))))))
  refine dC U (fun hh=>?_) (fun hh=>?_)
  ·have h2:(keyB cl)=false:=by simpa using hh
   refine bS (bZ U (bR (bM (bC (bA (bC (bA (bA (bC (bA ?_))))))))))
   have hE:fV (prevOf l k) ⟨cl,fr,tt,ho,dd,we,wk⟩=5:=by unfold fV;simp [h2]
   exact bK U U fun wx hm=>⟨bW (by rw [cC.2,hat,if_neg (by rw [hE];decide),hE]),hm.g⟩
  have h2:(keyB cl)=true:=by simpa using hh
  refine bS (dW qF U U (eI fF 0 U U U (bB (dD U U) U (bP U ?_))))
  rcases Bool.eq_false_or_eq_true (decide (fr < 0)) with h3|h3
  ·refine bL 45 U (fH5 h3) ?_
   replace h3:=of_decide_eq_true h3
   refine dY U (dY U (dY U (dY U (dY U (mQ U U (bP U (dY U (dY U (dY U (mQ U U (bP U (dY U (dY U (mQ U U (bP U (dY U (dY U (mQ U U (bZ U (bR (kQ U (bS (bZ U (bR (bM ?_)))))))))))))))))))))))))
   refine bC (bA (bC (bA (bA (bC (bA ?_))))))
   have hE:fV (prevOf l k) ⟨cl,fr,tt,ho,dd,we,wk⟩=1:=by unfold fV;simp [h2,h3]
   exact bK U U fun wx hm=>⟨bW (by rw [cC.2,hat,if_neg (by rw [hE];decide),hE]),hm.g⟩
  refine bL 45 U (fH5 h3) ?_
  replace h3:=of_decide_eq_false h3
  refine eG U (dW qF U U (eG U (eI fF 0 U U U (eG U (dW qX U U (eG U (eI fF 0 U U U (eG U (bB (mO U U) U (nS U U (bP U ?_)))))))))))
  rcases Bool.eq_false_or_eq_true (decide (tt<=fr)) with h4|h4
  ·refine bL 52 U (fH5 h4) ?_
   replace h4:=of_decide_eq_true h4
   refine dY U (dY U (dY U (mQ U U (bP U (dY U (dY U (mQ U U (bP U (dY U (dY U (mQ U U (bZ U (bR (kQ U (bS (bZ U (bR (bM (bC (bA (bC (bA (bA (bC (bA ?_)))))))))))))))))))))))))
   have hE:fV (prevOf l k) ⟨cl,fr,tt,ho,dd,we,wk⟩=1:=by unfold fV;simp [h2,h3,h4]
   exact bK U U fun wx hm=>⟨bW (by rw [cC.2,hat,if_neg (by rw [hE];decide),hE]),hm.g⟩
  refine bL 52 U (fH5 h4) ?_
  replace h4:=of_decide_eq_false h4
  refine eG U (dW qX U U (eG U (eI fF 0 U U U (eG U (bB (eJ U U) U (nS U U (bP U ?_)))))))
  rcases Bool.eq_false_or_eq_true (decide (4001 < tt)) with h5|h5
  ·refine bL 57 U (fH5 h5) ?_
   replace h5:=of_decide_eq_true h5
   refine dY U (dY U (mQ U U (bP U (dY U (dY U (mQ U U (bZ U (bR (kQ U (bS (bZ U (bR (bM (bC (bA (bC (bA (bA (bC (bA ?_))))))))))))))))))))
   have hE:fV (prevOf l k) ⟨cl,fr,tt,ho,dd,we,wk⟩=1:=by unfold fV;simp [h2,h3,h4,h5]
   exact bK U U fun wx hm=>⟨bW (by rw [cC.2,hat,if_neg (by rw [hE];decide),hE]),hm.g⟩
  refine bL 57 U (fH5 h5) ?_
  replace h5:=of_decide_eq_false h5
  refine eG U (bP U (eG U (bB (dD U U) U (nS U U (bP U ?_)))))
  rcases Bool.eq_false_or_eq_true (decide (min (min (min ho dd) we) wk < -1)) with h6|h6
  ·refine bL 61 U (fH5 h6) ?_
   replace h6:=of_decide_eq_true h6
   have hi:inB ho (-1) 1000000=false∨inB dd (-1) 1000000=false∨inB we (-1) 1000000=false∨inB wk (-1) 1000000=false:=by simp only [cJ3];omega
   refine dY U (dY U (mQ U U (bZ U (bR (kQ U (bS (bZ U (bR (bM (bC (bA (bC (bA (bA (bC (bA ?_))))))))))))))))
   have hE:fV (prevOf l k) ⟨cl,fr,tt,ho,dd,we,wk⟩=1:=by unfold fV;simp [h2,h3,h4,h5,hi]
   exact bK U U fun wx hm=>⟨bW (by rw [cC.2,hat,if_neg (by rw [hE];decide),hE]),hm.g⟩
  refine bL 61 U (fH5 h6) ?_
  replace h6:=of_decide_eq_false h6
  refine eG U (bP U (eG U (bB (eJ U U) U (nS U U (bZ U (bR ?_))))))
  refine cE U (fun h7=>?_) (fun h7=>?_)
  ·refine bS ?_
   have hi:inB ho (-1) 1000000=false∨inB dd (-1) 1000000=false∨inB we (-1) 1000000=false∨inB wk (-1) 1000000=false:=by simp only [cJ3];omega
   refine bZ U (bR (bM (bC (bA (bC (bA (bA (bC (bA ?_)))))))))
   have hE:fV (prevOf l k) ⟨cl,fr,tt,ho,dd,we,wk⟩=1:=by unfold fV;simp [h2,h3,h4,h5,hi]
   exact bK U U fun wx hm=>⟨bW (by rw [cC.2,hat,if_neg (by rw [hE];decide),hE]),hm.g⟩
  refine bS ?_
  have i1:inB ho (-1) 1000000=true:=mG.2 (by omega)
  have i2:inB dd (-1) 1000000=true:=mG.2 (by omega)
  have i3:inB we (-1) 1000000=true:=mG.2 (by omega)
  have i4:inB wk (-1) 1000000=true:=mG.2 (by omega)
  by_cases hk0:k=0
  ·have hE:fV (prevOf l k) ⟨cl,fr,tt,ho,dd,we,wk⟩=0:=by unfold fV;rw [bD2 hk0];simp [h2,h3,h4,h5,i1,i2,i3,i4]
   refine bP U (bB (eN U U) U (bL 67 (v':= .bool true) U (fH5 (decide_eq_true (by omega))) (bZ U (bR (kQ U (dE (bJ7 U (bF (bY (bD (bI (gN U U (bP U (bE ?_))))))))))))))
   exact cQ (k+1) ⟨by omega,by rw [cC.2,hat,if_pos hE]⟩ (by omega) ⟨U,U,U,(cS (by omega)),trivial⟩ (fun _ hm=>hm.pick [] [] [0] U U)
  obtain ⟨y,hy⟩:∃x,l[k - 1]?=some x:=⟨_,fJ5 (by omega)⟩
  obtain ⟨p0,p1,p2,p3,p4,p5,p6⟩:=y
  have hpv:=cH6 hk0 hy
  refine bP U (bB (eN U U) U (bL 67 (v':= .bool false) U (fH5 (decide_eq_false (by omega))) (bZ U (bR (jU U (bN (bG (bD (bS (bP U (bP U (bB (ov_sub U U (by omega) (by omega)) U (bL 70 (v':= .int .i64 ((k - 1:Nat):Int)) U (fI5 (by omega)) (bB (bT (j:=k - 1) bW8 U U (by omega)) U (bB (dO (vs:= [.string p0,.int .i64 p1,.int .i64 p2,.int .i64 p3,.int .i64 p4,.int .i64 p5,.int .i64 p6]) bI1 U (fun _ hm=>(hm.fact 0 U).1) hy U U) U (dH cK9 U fun g2=>jX (cs':= [.string p0,.int .i64 p1,.int .i64 p2,.int .i64 p3,.int .i64 p4,.int .i64 p5,.int .i64 p6]) 0 bI1 U U U U (bR (bO (bS (dW pB U U (eI fE 1 U U U (dW pB U U (eI fE 0 U U U (bB (cG6 U U) U (bP U ?_)))))))))))))))))))))))))
  rcases Bool.eq_false_or_eq_true (Op.bytesLess cl.toList p0.toList) with h8|h8
  ·refine bL 79 U (fH5 h8) ?_
   have h9:bW2 ⟨p0,p1,p2,p3,p4,p5,p6⟩ ⟨cl,fr,tt,ho,dd,we,wk⟩=false:=by have h:=dM3 ⟨p0,p1,p2,p3,p4,p5,p6⟩ ⟨cl,fr,tt,ho,dd,we,wk⟩;simp only at h;rw [h8] at h;simpa using h.symm
   refine dY U (dY U (dY U (dY U (dY U (dY U (gnd U U U (gnd U U U (gnd U U U (gnd U U U (gnd U U U (dY U (mQ U U (bZ U (bR (kQ U (bS (bZ U (bR (bM (bC (bC (bA (bA (bC (bA ?_)))))))))))))))))))))))))
   have hE:fV (prevOf l k) ⟨cl,fr,tt,ho,dd,we,wk⟩=7:=by unfold fV;rw [hpv];simp [h2,h3,h4,h5,i1,i2,i3,i4,h9]
   exact bK U U fun wx hm=>⟨bW (by rw [cC.2,hat,if_neg (by rw [hE];decide),hE]),hm.g⟩
  refine bL 79 U (fH5 h8) (eG U (dW pB U U (eG U (eI fE 1 U U U (eG U (dW pB U U (eG U (eI fE 0 U U U (eG U (bB (eR U U) U (eG U (bP U ?_))))))))))))
  rcases Bool.eq_false_or_eq_true (cl.toList==p0.toList) with h10|h10
  ·refine bL 85 U (fH5 h10) ?_
   refine eG U (dW qF U U (eG U (eI fF 1 U U U (eG U (dW qF U U (eG U (eI fF 0 U U U (eG U (bB (mV U U) U (eG U (mQ U U (nS U U (bZ U (bR ?_))))))))))))))
   refine cE U (fun h11=>?_) (fun h11=>?_)
   ·refine bS ?_
    have h9:bW2 ⟨p0,p1,p2,p3,p4,p5,p6⟩ ⟨cl,fr,tt,ho,dd,we,wk⟩=false:=by have h:=dM3 ⟨p0,p1,p2,p3,p4,p5,p6⟩ ⟨cl,fr,tt,ho,dd,we,wk⟩;simp only at h;rw [h8,h10,decide_eq_true h11] at h;simpa using h.symm
    refine bZ U (bR (bM (bC (bC (bA (bA (bC (bA ?_))))))))
    have hE:fV (prevOf l k) ⟨cl,fr,tt,ho,dd,we,wk⟩=7:=by unfold fV;rw [hpv];simp [h2,h3,h4,h5,i1,i2,i3,i4,h9]
    exact bK U U fun wx hm=>⟨bW (by rw [cC.2,hat,if_neg (by rw [hE];decide),hE]),hm.g⟩
   refine bS ?_
   have h9:bW2 ⟨p0,p1,p2,p3,p4,p5,p6⟩ ⟨cl,fr,tt,ho,dd,we,wk⟩=true:=by have h:=dM3 ⟨p0,p1,p2,p3,p4,p5,p6⟩ ⟨cl,fr,tt,ho,dd,we,wk⟩;simp only at h;rw [h8,h10,decide_eq_false h11] at h;simpa using h.symm
   refine dW pB U U (eI fE 1 U U U (dW pB U U (eI fE 0 U U U (bB (eR U U) U (bP U ?_)))))
   rcases Bool.eq_false_or_eq_true (cl.toList==p0.toList) with h12|h12
   ·refine bL 99 U (fH5 h12) ?_
    have h13:zS p0 cl=true:=(by have h:=h12;unfold zS;simp only [beq_iff_eq] at h ⊢;exact h.symm)
    refine eG U (dW qX U U (eG U (eI fF 0 U U U (eG U (dW qF U U (eG U (eI fF 1 U U U (eG U (bB (eJ U U) U (mQ U U (bZ U (bR ?_))))))))))))
    refine cE U (fun h14=>?_) (fun h14=>?_)
    ·refine bS (bZ U (bR ?_))
     refine bM (bC (bC (bA (bA (bC (bA ?_))))))
     have hE:fV (prevOf l k) ⟨cl,fr,tt,ho,dd,we,wk⟩=13:=by unfold fV;rw [hpv];simp [h2,h3,h4,h5,i1,i2,i3,i4,h9,h13,h14]
     exact bK U U fun wx hm=>⟨bW (by rw [cC.2,hat,if_neg (by rw [hE];decide),hE]),hm.g⟩
    refine bN (bG (bG (bD (bI ?_))))
    have hE:fV (prevOf l k) ⟨cl,fr,tt,ho,dd,we,wk⟩=0:=by unfold fV;rw [hpv];simp [h2,h3,h4,h5,i1,i2,i3,i4,h9,h13,h14]
    refine gN U U (bP U (bE ?_))
    exact cQ (k+1) ⟨by omega,by rw [cC.2,hat,if_pos hE]⟩ (by omega) ⟨U,U,U,(cS (by omega)),trivial⟩ (fun _ hm=>hm.pick [] [] [0] U U)
   refine bL 99 U (fH5 h12) ?_
   have h13:zS p0 cl=false:=(by have h:=h12;unfold zS;simp only [beq_eq_false_iff_ne,ne_eq] at h ⊢;exact fun e=>h e.symm)
   have hE:fV (prevOf l k) ⟨cl,fr,tt,ho,dd,we,wk⟩=0:=by unfold fV;rw [hpv];simp [h2,h3,h4,h5,i1,i2,i3,i4,h9,h13]
   refine dY U (dY U (dY U (dY U (dY U (nS U U (bZ U (bR (jU U (bN (bG (bG (bD (bI (gN U U (bP U (bE ?_))))))))))))))))
   exact cQ (k+1) ⟨by omega,by rw [cC.2,hat,if_pos hE]⟩ (by omega) ⟨U,U,U,(cS (by omega)),trivial⟩ (fun _ hm=>hm.pick [] [] [0] U U)
  refine bL 85 U (fH5 h10) ?_
  have h9:bW2 ⟨p0,p1,p2,p3,p4,p5,p6⟩ ⟨cl,fr,tt,ho,dd,we,wk⟩=true:=by have h:=dM3 ⟨p0,p1,p2,p3,p4,p5,p6⟩ ⟨cl,fr,tt,ho,dd,we,wk⟩;simp only at h;rw [h8,h10] at h;simpa using h.symm
  refine dY U (dY U (dY U (dY U (dY U (eG U (nS U U (nS U U (bZ U (bR (jU U (bS (dW pB U U (eI fE 1 U U U (dW pB U U (eI fE 0 U U U (bB (eR U U) U (bP U ?_)))))))))))))))))
  rcases Bool.eq_false_or_eq_true (cl.toList==p0.toList) with h12|h12
  ·refine bL 99 U (fH5 h12) ?_
   have h13:zS p0 cl=true:=(by have h:=h12;unfold zS;simp only [beq_iff_eq] at h ⊢;exact h.symm)
   refine eG U (dW qX U U (eG U (eI fF 0 U U U (eG U (dW qF U U (eG U (eI fF 1 U U U (eG U (bB (eJ U U) U (mQ U U (bZ U (bR ?_))))))))))))
   refine cE U (fun h14=>?_) (fun h14=>?_)
   ·refine bS (bZ U (bR ?_))
    refine bM (bC (bC (bA (bA (bC (bA ?_))))))
    have hE:fV (prevOf l k) ⟨cl,fr,tt,ho,dd,we,wk⟩=13:=by unfold fV;rw [hpv];simp [h2,h3,h4,h5,i1,i2,i3,i4,h9,h13,h14]
    exact bK U U fun wx hm=>⟨bW (by rw [cC.2,hat,if_neg (by rw [hE];decide),hE]),hm.g⟩
   refine bN (bG (bG (bD (bI ?_))))
   have hE:fV (prevOf l k) ⟨cl,fr,tt,ho,dd,we,wk⟩=0:=by unfold fV;rw [hpv];simp [h2,h3,h4,h5,i1,i2,i3,i4,h9,h13,h14]
   refine gN U U (bP U (bE ?_))
   exact cQ (k+1) ⟨by omega,by rw [cC.2,hat,if_pos hE]⟩ (by omega) ⟨U,U,U,(cS (by omega)),trivial⟩ (fun _ hm=>hm.pick [] [] [0] U U)
  refine bL 99 U (fH5 h12) ?_
  have h13:zS p0 cl=false:=(by have h:=h12;unfold zS;simp only [beq_eq_false_iff_ne,ne_eq] at h ⊢;exact fun e=>h e.symm)
  have hE:fV (prevOf l k) ⟨cl,fr,tt,ho,dd,we,wk⟩=0:=by unfold fV;rw [hpv];simp [h2,h3,h4,h5,i1,i2,i3,i4,h9,h13]
  refine dY U (dY U (dY U (dY U (dY U (nS U U (bZ U (bR (jU U (bN (bG (bG (bD (bI (gN U U (bP U (bE ?_))))))))))))))))
  exact cQ (k+1) ⟨by omega,by rw [cC.2,hat,if_pos hE]⟩ (by omega) ⟨U,U,U,(cS (by omega)),trivial⟩ (fun _ hm=>hm.pick [] [] [0] U U)
 refine dE (bF (bF (bY (bD (bS (bZ U (bR (bM ?_))))))))
 exact bK U U fun wx hm=>⟨bW (by rw [cC.2,scanE_end _ _ _ _ (by omega)]),hm.g⟩
theorem eN1 (vk vc k:ByteArray) (w:World):Calls prog 84 #[.agg #[.string vk,.string vc],.string k] w (fun e w'=>e=.returned (.int .i64 (mX vk k))/\w.grownBy w' none):=by
 refine cV ⟨9,w,none, []⟩ func84 U ntmps84 U (gR (X:= []) cY cZ) (bS (fG U U U fun g1=>bZ U (bR (bS (dW wU U U (eI fE 0 U U U (bP U (cL U cV9 U U (fun wx hm=>(rB _ _ wx)) (bZ U (bR (bM ?_)))))))))))
 exact bK U U fun wx hm=>⟨U,hm.g⟩
theorem cY6 (vl:List Vh) (vA:Option Addr) (vn vc:Nat) (k:ByteArray) (w:World) (hv:SlT fX 2 57 w vA vn vl) (hn:vn<=1000000) (hr:bM3 vl):
 Calls prog 83 #[.slice vA vn vc,.string k,.func (.func 84) #[] #[]] w (fun e w'=>∃(i:Nat) (f:Bool),e=.returned (.tuple #[.int .i64 ((i:Nat):Int),.bool f])/\(f=true->mH (zY k) vl 0=(i:Int))/\(f=false->mH (zY k) vl 0= -1)/\w.grownBy w' none):=by
 refine cV ⟨49,w,none, []⟩ func83 U ntmps83 U (gR (X:= [bU fX 2 57 w.heap.size none vA vn vl]) (cG hv.old cY) (cH bU.lasts cZ)) (bS ?_)
 have hlen:=hv.len
 refine bZ U (bZ U (bR (bS (bP U (bB (dT bQ3 U) U (bZ U (bR (bS (bP U (bZ U (bZ U (bR (bH (bO ?_))))))))))))))
 refine dX (γ:=Nat×Nat) (fun g=>(g.1<=g.2/\g.2<=vn)/\Low vl k g.1/\eZ1 vl k g.2) (fun g=> [(0,.slice vA vn vc),(1,.string k),(2,.func (.func 84) #[] #[]),(6,.int .i64 0),(7,.bool false),(8,.int .i64 ((vn:Nat):Int)),(9,.int .i64 ((g.1:Nat):Int)),(10,.int .i64 ((g.2:Nat):Int))]) (fun g=>fun _=>True) (fun g=> []) (fun g=> []) (fun g=> [bU fX 2 57 w.heap.size none vA vn vl]) (fun g=>g.2 - g.1) (0,vn) ⟨⟨Nat.zero_le _,Nat.le_refl _⟩,(fun i h=>by omega),fun i h x hx=>by have:=(List.getElem?_eq_some_iff.1 hx).1;omega⟩ ⟨U,U,U,U,U,U,(cS (by omega)),U,trivial⟩ (fun _ hm=>hm.pick [] [] [0] U U) ?_
 rintro ⟨a,b⟩ cC
 replace cC:(a<=b/\b<=vn)/\Low vl k a/\eZ1 vl k b:=cC
 dsimp only
 refine bH (bS ?_)
 obtain ⟨⟨hab,hbn⟩,hlow,hhigh⟩:=cC
 refine bP U (bP U (bB (dD U U) U (bR ?_)))
 refine cE U (fun hc=>?_) (fun hc=>?_)
 ·refine bN (bD (bO (bS ?_)))
  obtain ⟨h,hh⟩:∃h,h=(a+b) / 2:=⟨_,rfl⟩
  have hha:a<=h:=by omega
  have hhb:h < b:=by omega
  obtain ⟨x,hx⟩:∃x,vl[h]?=some x:=⟨_,fJ5 (by omega)⟩
  obtain ⟨vk,zV⟩:=x
  obtain ⟨bv,ov,hA,_,_⟩:=hv.get (by omega)
  subst hA
  refine bP U (bP U (gN U U (bL 20 (v':= .int .i64 (((a+b):Nat):Int)) U (fI5 (by omega)) (bB (cA1 (a:=(a+b)) (by kernel_rfl) (by kernel_rfl) U (by omega)) U (bB (bB1 (a:=(a+b)) U U) U (bB (bM7 (a:=(a+b) / 2) (by kernel_rfl) (by kernel_rfl) U (by omega)) U (bL 23 (v':= .int .i64 ((h:Nat):Int)) U (fI5 (by omega)) (bZ U (bR (bS (bP U (bP U (bP U (bB (bT (j:=h) bQ3 U U (by omega)) U (bB (dO (vs:= [.string vk,.string zV]) bB9 U (fun _ hm=>(hm.fact 0 U).1) hx U U) U (bP U (cL U fK1 U U (fun wx hm=>(eN1 vk zV k wx)) (bB (dD U U) U (bR ?_)))))))))))))))))))
  refine cE U (fun hl=>?_) (fun hl=>?_)
  ·refine bI (bP U (gN U U (bZ U (bE (bG ?_)))))
   exact cQ (h+1,b) ⟨⟨by dsimp only;omega,hbn⟩,eB0 hr hx hl,hhigh⟩ (by dsimp only;omega) ⟨U,U,U,U,U,U,(cS (by omega)),U,trivial⟩ (fun _ hm=>hm.pick [] [] [0] U U)
  refine bI (bP U (bZ U (bE (bG ?_))))
  exact cQ (a,h) ⟨⟨by dsimp only;omega,by dsimp only;omega⟩,hlow,dH5 hr hx hl⟩ (by dsimp only;omega) ⟨U,U,U,U,U,U,U,(cS (by omega)),trivial⟩ (fun _ hm=>hm.pick [] [] [0] U U)
 refine dE (bF (bF (bY (bD (bS ?_)))))
 obtain rfl:b=a:=by omega
 by_cases hbv:b < vn
 ·obtain ⟨x,hx⟩:∃x,vl[b]?=some x:=⟨_,fJ5 (by omega)⟩
  obtain ⟨vk,zV⟩:=x
  obtain ⟨bv,ov,hA,_,_⟩:=hv.get (by omega)
  subst hA
  refine bP U (bP U (bP U (bB (dD U U) U (bL 38 (v':= .bool true) U (fH5 (decide_eq_true (by omega))) (bP U (eG U (bP U (eG U (bP U (eG U (bP U (eG U (bB (bT (j:=b) bQ3 U U (by omega)) U (eG U (bB (dO (vs:= [.string vk,.string zV]) bB9 U (fun _ hm=>(hm.fact 0 U).1) hx U U) U (eG U (bP U (eG U (cL U fK1 U U (fun wx hm=>(eN1 vk zV k wx)) (eG U (bB (eN U U) U (mQ U U (bZ U (bZ U (bR (bM ?_))))))))))))))))))))))))))
  refine vR U U U fun wx hm=>?_
  exact ⟨_,_,U,fun h=>eI6 hlow hx (of_decide_eq_true h),fun h=>eZ4 hr hlow hhigh (fun y hy=>by rw [hx] at hy;cases hy;exact of_decide_eq_false h),hm.g⟩
 refine bP U (bP U (bP U (bB (dD U U) U (bL 38 (v':= .bool false) U (fH5 (decide_eq_false (by omega))) (bP U (dY U (dY U (dY U (dY U (dY U (dY U (dY U (dY U (nS U U (bZ U (bZ U (bR (bM ?_))))))))))))))))))
 refine vR U U U fun wx hm=>?_
 exact ⟨_,_,U,(fun h=>by cases h),fun _=>eZ4 hr hlow hhigh (fun y hy=>by have:=(List.getElem?_eq_some_iff.1 hy).1;omega),hm.g⟩
theorem bJ3 (vl:List Vh) (sA cA vA pA:Option Addr) (sn sc cn cc vn vc pn pc:Nat) (k:ByteArray) (w:World) (hv:SlT fX 2 57 w vA vn vl) (hn:vn<=1000000) (hr:bM3 vl):
 Calls prog 36 #[.agg #[.slice sA sn sc,.slice cA cn cc,.slice vA vn vc,.slice pA pn pc],.string k] w (nC w (mH (zY k) vl 0)):=by
 refine cV ⟨17,w,none, []⟩ func36 U ntmps36 U (gR (X:= [bU fX 2 57 w.heap.size none vA vn vl]) (cG hv.old cY) (cH bU.lasts cZ)) (bS (fG U U U fun g1=>bZ U (bR (bS (dW uK U U (eI bX2 0 U U U (bP U ?_)))))))
 refine jC (γ:=Nat×Bool) (val:=(fun g=> .tuple #[.int .i64 ((g.1:Nat):Int),.bool g.2])) (φ:=(fun g=>(g.2=true->mH (zY k) vl 0=(g.1:Int))/\(g.2=false->mH (zY k) vl 0= -1))) (Y:=(fun g=>fun _=>True)) U fJ4 U U (fun wx hm=>(cY6 vl vA vn vc k wx (hm.fact 0 U).1 hn hr).mono fun _ _ ⟨i,f,he,h1,h2,hg⟩=>⟨(i,f),he,⟨h1,h2⟩,hg,trivial⟩) (fun _=>Lasts2.true_) ?_
 rintro ⟨i,f⟩ hif
 dsimp only at hif ⊢
 refine bP U (bB (cR U U) U (bB (cR U U) U (bZ U (bZ U (bR (bH (bS (bP U (bB (cF U) U (bR ?_))))))))))
 refine dC U (fun hh=>?_) (fun hh=>?_)
 ·have hf:f=false:=by simpa using hh
  refine bS (bZ U (bL 4 (v':= .int .i64 (-1)) U U (bR (bM (bA ?_)))))
  exact bK U U fun wx hm=>⟨bW (by rw [hif.2 hf]),hm.g⟩
 have hf:f=true:=by simpa using hh
 refine bN (bD (bS (bP U (bZ U (bR (bM ?_))))))
 exact bK U U fun wx hm=>⟨bW (by rw [hif.1 hf]),hm.g⟩
theorem bT8 (vl:List Vh) (pl:List Pl) (sA cA vA pA:Option Addr) (sn sc cn cc vn vc pn pc:Nat) (w:World) (_:SlT fX 2 57 w vA vn vl) (hp:SlT bH3 3 293 w pA pn pl) (_:vn<=1000000) (_:pn<=1000000) (_:bM3 vl) (hpok:∀x∈pl,eB2 x):
 Calls prog 136 #[.agg #[.slice sA sn sc,.slice cA cn cc,.slice vA vn vc,.slice pA pn pc]] w (nC w (bJ9 vl pl)):=by
 refine cV ⟨97,w,none, []⟩ func136 U ntmps136 U (gR (X:= []) cY cZ) (bS ?_)
 have e0:pl= []:=by
  cases pl with
  |nil=>rfl
  |cons x r=>exact absurd (hpok x (List.mem_cons_self ..)) (fun h=>h)
 subst e0
 have hpn0:pn=0:=hp.len.symm
 subst hpn0
 refine fG U U U fun g1=>bZ U (bR (bH (bS (dW dT8 U U (eI fO2 0 U U U (bB (dT fT1 U) U (bL 10 (v':= .int .i64 0) U U (bB (eJ U U) U (bL 11 (v':= .bool false) U (fH5 (by decide)) (bR (jU U (bN (bD (bH (bS (dW dT8 U U (eI fO2 0 U U U (bB (dT fT1 U) U (bL 14 (v':= .int .i64 0) U U (bP U (bR (bO (eZ 1 (eB (bS (bB (dD U U) U (bL 16 (v':= .bool false) U (fH5 (by decide)) ?_)))))))))))))))))))))))))))
 refine bR (bH (jU U (dE (bF (bF (bY (bD (bS (bZ U (bR (bM ?_)))))))))))
 exact bK U U fun wx hm=>⟨U,hm.g⟩
theorem dC0 {sl:List St} {cl:List Cs} {vl:List Vh} {pl:List Pl} {vn:Nat} (hl:vl.length=vn) (h:dI [stationsE sl,jB cl,dK (decide ((500:Int) < ((vn:Nat):Int))) 2]≠0):mK sl cl vl pl=dI [stationsE sl,jB cl,dK (decide ((500:Int) < ((vn:Nat):Int))) 2]:=by
 unfold mK
 by_cases h1:stationsE sl=0
 ·by_cases h2:jB cl=0
  ·by_cases h3:(500:Int) < ((vn:Nat):Int)
   ·have h4:bK3 cl vl=2:=by unfold bK3;rw [if_pos (by omega)]
    rw [h1,h2,h4,decide_eq_true h3];rfl
   ·rw [h1,h2,decide_eq_false h3] at h
    exact absurd U h
  ·simp [dI,h1,h2]
 ·simp [dI,h1]
theorem dD0 {sl:List St} {cl:List Cs} {vl:List Vh} {pl:List Pl} {vn:Nat} (hl:vl.length=vn) (h:dI [stationsE sl,jB cl,dK (decide ((500:Int) < ((vn:Nat):Int))) 2]=0):stationsE sl=0/\jB cl=0/\vn<=500/\mK sl cl vl pl=dI [scanE (vhE cl) none vl,bJ9 vl pl]:=by
 have hz:=pU h
 have h1:=hz (stationsE sl) (by simp)
 have h2:=hz (jB cl) (by simp)
 have h3:=hz (dK (decide ((500:Int) < ((vn:Nat):Int))) 2) (by simp)
 have h4:¬(500:Int) < ((vn:Nat):Int):=fun h=>by rw [decide_eq_true h] at h3;cases h3
 refine ⟨h1,h2,by omega,?_⟩
 unfold mK bK3
 rw [h1,h2,if_neg (by omega)];rfl
theorem bE9 {a b:Int} (h:a≠0):dI [a,b]=a:=by simp [dI,h]
theorem dR8 {b:Int}:dI [0,b]=b:=by
 by_cases h:b=0
 ·subst h;rfl
 ·simp [dI,h]
theorem eP4 {cl:List Cs} {p:Option Vh} {b:Vh} (h:keyB b.key=false):vhE cl p b=5:=by unfold vhE;rw [h];rfl
theorem eQ4 {cl:List Cs} {p:Option Vh} {b:Vh} (h:keyB b.key=true) (h2:cA6 p b=true):vhE cl p b=7:=by unfold vhE;rw [h,h2];rfl
theorem cD4 {cl:List Cs} {p:Option Vh} {b:Vh} (h:keyB b.key=true) (h2:cA6 p b=false):vhE cl p b=if mH (wI b.cls) cl 0 < 0 then 8 else 0:=by unfold vhE;rw [h,h2];rfl
theorem bF0 (sl:List St) (cl:List Cs) (vl:List Vh) (pl:List Pl) (sA cA vA pA:Option Addr) (sn sc cn cc vn vc pn pc:Nat) (w:World) (hs:SlT stEnc 15 99 w sA sn sl) (hc:SlT dV 2 84 w cA cn cl) (hv:SlT fX 2 57 w vA vn vl) (hp:SlT bH3 3 293 w pA pn pl) (uB:∀x∈sl,StOk x) (bZ6:∀x∈cl,uF x) (bS2:∀x∈vl,cS9 x) (hpok:∀x∈pl,eB2 x) (zJ:sn<=1000000) (hcn:cn<=1000000) (hvn:vn<=1000000) (hpn:pn<=1000000):
 Calls prog 80 #[.agg #[.slice sA sn sc,.slice cA cn cc,.slice vA vn vc,.slice pA pn pc]] w (nC w (mK sl cl vl pl)):=by
 refine cV ⟨60,w,none, []⟩ func80 U ntmps80 U (gR (X:= [bU stEnc 15 99 w.heap.size none sA sn sl,bU dV 2 84 w.heap.size none cA cn cl,bU fX 2 57 w.heap.size none vA vn vl,bU bH3 3 293 w.heap.size none pA pn pl]) (cG hs.old (cG hc.old (cG hv.old (cG hp.old cY)))) (cH bU.lasts (cH bU.lasts (cH bU.lasts (cH bU.lasts cZ))))) (bS ?_)
 have hlen:=hv.len
 obtain ⟨SE,hSE⟩:∃z,z=stationsE sl:=⟨_,rfl⟩
 obtain ⟨CE,hCE⟩:∃z,z=jB cl:=⟨_,rfl⟩
 obtain ⟨FE,hFE⟩:∃z,z=dI [stationsE sl,jB cl,dK (decide ((500:Int) < ((vn:Nat):Int))) 2]:=⟨_,rfl⟩
 have hFE2:FE=dI [SE,CE,dK (decide ((500:Int) < ((vn:Nat):Int))) 2]:=by rw [hFE,hSE,hCE]
 refine fG U U U fun g1=>bZ U (bR (bH ?_))
 refine pC (γ:=Unit) (I:=(fun (uu:Unit)=>True)) (S':=(fun (uu:Unit)=> [(1,.pointer (some ⟨g1,0,none⟩)),(2,.int .i64 0),(3,.int .i64 FE)])) (K':=(fun (uu:Unit)=>fun _=>True)) (L':=(fun (uu:Unit)=> [(g1,31, [.slice sA sn sc,.slice cA cn cc,.slice vA vn vc,.slice pA pn pc])])) (O':=(fun (uu:Unit)=> [])) (X':=(fun (uu:Unit)=> [bU stEnc 15 99 w.heap.size none sA sn sl,bU dV 2 84 w.heap.size none cA cn cl,bU fX 2 57 w.heap.size none vA vn vl,bU bH3 3 293 w.heap.size none pA pn pl])) ?_ ?_
 ·refine gd (fun wz=>Blk wz g1 31 [.slice sA sn sc,.slice cA cn cc,.slice vA vn vc,.slice pA pn pc]/\True) mixed (fun _ hm=>⟨hm.bl 0,trivial⟩) fun z=>?_
  refine wq 0 U (bQ dE0 U U) (wq 1 U (cN eX7 U (fun _ hm=>hm.1) U) (wq 3 U (bQ cM5 U U) (wq 4 U (cN eV3 U (fun _ hm=>hm.1) U) (wq 6 U (bQ uK U U) (wq 7 U (cN bX2 U (fun _ hm=>hm.1) U) (wq 8 U (dT bQ3 U) (wq 9 U (eJ U U) (eC 2 U (cL (v:= .int .i64 SE) U eZ9 U U (fun wx hm=>(by rw [hSE];exact checkStations_any sl sA sn sc wx (hm.fact 0 rfl).1 uB (by omega))) (bE (nw 14 991 (fun _ hm=>⟨hm.bl 0,trivial⟩) fun z=>eC 5 U (cL (v:= .int .i64 CE) U eA5 U U (fun wx hm=>(by rw [hCE];exact xH cl cA cn cc wx (hm.fact 1 rfl).1 bZ6 (by omega))) (bE (nw 14 1023 (fun _ hm=>⟨hm.bl 0,trivial⟩) fun z=>eC 10 U (dA U qK U U (fun wx hm=>(eE _ _ wx)) (bE (nw 14 2047 (fun _ hm=>⟨hm.bl 0,trivial⟩) fun z=>eC 11 U (jF 48 [.int .i64 SE,.int .i64 CE,.int .i64 (dK (decide (500 < ((vn:Nat):Int))) 2)] fun g2=>bE (nw 14 4095 (fun _ hm=>⟨hm.bl 1,trivial⟩) fun z=>eC 12 U (dA U wJ U U (fun wx hm=>(fJ [SE,CE,dK (decide (500 < ((vn:Nat):Int))) 2] _ _ _ wx (hm.blkI 0 U) (by simp))) (bE (nw 14 8191 (fun _ hm=>⟨hm.bl 1,trivial⟩) fun z=>wq 13 U (cU U) (jH ?_)))))))))))))))))))))))
  exact fK () trivial ⟨U,U,(cS hFE2.symm),trivial⟩ (fun _ hm=>hm.pick [1] [] [0,1,2,3] U U)
 intro uu cC
 replace cC:True:=cC
 refine bS (bP U (bB (gX U U) U (bR ?_)))
 refine gI U (fun h1=>?_) (fun h1=>?_)
 ·refine bS ?_
  have h2:FE≠0:=by simpa using h1
  have h3:mK sl cl vl pl=FE:=by rw [hFE];exact dC0 hlen (by rw [<-hFE];exact h2)
  refine bP U (bZ U (bR (bM (bA ?_))))
  exact bK U U fun wx hm=>⟨bW (by rw [h3]),hm.g⟩
 refine bN (bD (bH (bS ?_)))
 have h2:FE=0:=by simpa using h1
 obtain ⟨_,hcz,hv5,hfl⟩:=dD0 (sl:=sl) (cl:=cl) (pl:=pl) hlen (hFE.symm.trans h2)
 refine dW uK U U (eI bX2 0 U U U (bB (dT bQ3 U) U (bP U (bR (bO ?_)))))
 refine dX (γ:=Nat) (fun (i:Nat)=>i<=vn/\scanE (vhE cl) none vl=scanE (vhE cl) (prevOf vl i) (vl.drop i)) (fun (i:Nat)=> [(1,.pointer (some ⟨g1,0,none⟩)),(23,.slice vA vn vc),(24,.int .i64 ((vn:Nat):Int)),(25,.int .i64 ((i:Nat):Int))]) (fun (i:Nat)=>fun _=>True) (fun (i:Nat)=> [(g1,31, [.slice sA sn sc,.slice cA cn cc,.slice vA vn vc,.slice pA pn pc])]) (fun (i:Nat)=> []) (fun (i:Nat)=> [bU stEnc 15 99 w.heap.size none sA sn sl,bU dV 2 84 w.heap.size none cA cn cl,bU fX 2 57 w.heap.size none vA vn vl,bU bH3 3 293 w.heap.size none pA pn pl]) (fun (i:Nat)=>vn - i) 0 ⟨Nat.zero_le _,U⟩ ⟨U,U,U,U,trivial⟩ (fun _ hm=>hm.pick [0] [] [0,1,2,3] U U) ?_
 intro i cC
 replace cC:i<=vn/\scanE (vhE cl) none vl=scanE (vhE cl) (prevOf vl i) (vl.drop i):=cC
 refine bS ?_
 obtain ⟨hi0,hsc⟩:=cC
 refine bB (dD U U) U (bR (bH ?_))
 refine cE U (fun hi=>?_) (fun hi=>?_)
 ·refine bN (bD (bH (bO (bS ?_))))
  obtain ⟨bv,ov,hA,_,_⟩:=hv.get (by omega)
  subst hA
  obtain ⟨x,hx⟩:∃x,vl[i]?=some x:=⟨_,fJ5 (by omega)⟩
  obtain ⟨vk,zV⟩:=x
  have hat:=scanE_at (vhE cl) vl i _ hx
  obtain ⟨hvk,hvc2⟩:=bS2 _ (fK5 hx)
  have hvk:vk.size<=1000000:=hvk
  refine bP U (bB (bT (j:=i) bQ3 U U (by omega)) U (bB (dO (vs:= [.string vk,.string zV]) bB9 U (fun _ hm=>(hm.fact 2 U).1) hx U U) U (dH eR1 U fun g3=>bZ U (jX (cs':= [.string vk,.string zV]) 0 bB9 U U U U (bR (bO (bS (dW wU U U (eI fE 0 U U U (dA U bP2 U U (fun wx hm=>(isKey_any _ wx (by omega))) (bB (cF U) U (bZ U (bR ?_)))))))))))))
  refine dC U (fun hh=>?_) (fun hh=>?_)
  ·have h3:(keyB vk)=false:=by simpa using hh
   refine bS (bZ U (bR (bM (bC (bC (bA (bA (bC (bA ?_)))))))))
   have hE:vhE cl (prevOf vl i) ⟨vk,zV⟩=5:=eP4 (by simpa using h3)
   have hF:scanE (vhE cl) none vl=5:=by rw [hsc,hat,if_neg (by rw [hE];decide),hE]
   exact bK U U fun wx hm=>⟨bW (by rw [hfl,hF,bE9 (by decide)]),hm.g⟩
  have h3:(keyB vk)=true:=by simpa using hh
  refine bH ?_
  by_cases h0:i=0
  ·have hle:cA6 (prevOf vl i) ⟨vk,zV⟩=false:=by rw [mJ h0];rfl
   have h8:=cD4 (cl:=cl) (b:=⟨vk,zV⟩) (by simpa using h3) hle
   refine gd (fun wz=>True) mixed (fun _ _=>trivial) fun z=>wq 0 U (bJ U) (wq 1 U (eJ U U) (dG 37 (v':= .bool false) U (fH5 (decide_eq_false (by omega))) (wq 2 U (bJ U) (fC 3 U (fC 4 U (fC 5 U (fC 6 U (fC 7 U (fC 8 U (fC 9 U (fC 10 U (fC 11 U (fC 12 U (wq 13 U (fN U U) (wq 14 U (cU U) (jH (bD (jU U (bS (dW cM5 U U (eI eV3 1 U U U (dW dF0 U U (eI fE 0 U U U (cL U dJ2 U U (fun wx hm=>(wM cl cA cn cc zV wx (hm.fact 1 U).1 (by omega))) (bB (dD U U) U (bZ U (bR ?_)))))))))))))))))))))))))))
   refine cE U (fun h5=>?_) (fun h5=>?_)
   ·refine bS (bZ U (bR ?_))
    refine bM (bC (bC (bA (bA (bC (bA ?_))))))
    have hE:vhE cl (prevOf vl i) ⟨vk,zV⟩=8:=by rw [h8,if_pos h5]
    have hF:scanE (vhE cl) none vl=8:=by rw [hsc,hat,if_neg (by rw [hE];decide),hE]
    exact bK U U fun wx hm=>⟨bW (by rw [hfl,hF,bE9 (by decide)]),hm.g⟩
   refine bN (bG (bG (bD (bI ?_))))
   have hE:vhE cl (prevOf vl i) ⟨vk,zV⟩=0:=by rw [h8,if_neg h5]
   refine gN U U (bP U (bE ?_))
   exact cQ (i+1) ⟨by omega,by rw [hsc,hat,if_pos hE]⟩ (by omega) ⟨U,U,U,(cS (by omega)),trivial⟩ (fun _ hm=>hm.pick [1] [] [0,1,2,3] U U)
  obtain ⟨yy,hy⟩:∃x,vl[i - 1]?=some x:=⟨_,fJ5 (by omega)⟩
  obtain ⟨uk,uc⟩:=yy
  refine gd (fun wz=>Blk wz g3 57 [.string vk,.string zV]/\Blk wz g1 31 [.slice sA sn sc,.slice cA cn cc,.slice (some ⟨bv,ov,none⟩) vn vc,.slice pA pn pc]/\(bU fX 2 57 w.heap.size none (some ⟨bv,ov,none⟩) vn vl) wz/\True) mixed (fun _ hm=>⟨hm.bl 0,hm.bl 1,hm.fa 2,trivial⟩) fun z=>wq 0 U (bJ U) (wq 1 U (eJ U U) (dG 37 (v':= .bool true) U (fH5 (decide_eq_true (by omega))) (wq 2 U (bJ U) (fI 3 U (bQ wU U U) (fI 4 U (cN fE U (fun _ hm=>hm.1) U) (fI 5 U (bQ uK U U) (fI 6 U (cN bX2 U (fun _ hm=>hm.2.1) U) (fI 7 U (bJ U) (fI 8 U (ov_sub U U (by omega) (by omega)) (dG 44 (v':= .int .i64 (((i - 1):Nat):Int)) U (fI5 (by omega)) (fI 9 U (bT (j:=(i - 1)) bQ3 U U (by omega)) (fI 10 U (bQ wU U U) (fI 11 U (dL (k:=0) (v:= .string uk) fE U (fun _ hm=>(hm.2.2.1).1) hy U U) (fI 12 U (wS U U) (wq 13 U (fD U U) (wq 14 U (cU U) (jH (bD ?_))))))))))))))))))
  refine dC U (fun hh=>?_) (fun hh=>?_)
  ·have h4:(Op.bytesLess vk.toList uk.toList||vk.toList==uk.toList)=true:=by simpa using hh
   refine bS ?_
   have hle:cA6 (prevOf vl i) ⟨vk,zV⟩=true:=by rw [jS h0 hy];exact h4
   refine bZ U (bR (bM (bC (bC (bA (bA (bC (bA ?_))))))))
   have hE:vhE cl (prevOf vl i) ⟨vk,zV⟩=7:=eQ4 (by simpa using h3) hle
   have hF:scanE (vhE cl) none vl=7:=by rw [hsc,hat,if_neg (by rw [hE];decide),hE]
   exact bK U U fun wx hm=>⟨bW (by rw [hfl,hF,bE9 (by decide)]),hm.g⟩
  have h4:(Op.bytesLess vk.toList uk.toList||vk.toList==uk.toList)=false:=by simpa using hh
  refine bS ?_
  have hle:cA6 (prevOf vl i) ⟨vk,zV⟩=false:=by rw [jS h0 hy];exact h4
  have h8:=cD4 (cl:=cl) (b:=⟨vk,zV⟩) (by simpa using h3) hle
  refine dW cM5 U U (eI eV3 1 U U U (dW dF0 U U (eI fE 0 U U U (cL U dJ2 U U (fun wx hm=>(wM cl cA cn cc zV wx (hm.fact 1 U).1 (by omega))) (bB (dD U U) U (bZ U (bR ?_)))))))
  refine cE U (fun h5=>?_) (fun h5=>?_)
  ·refine bS (bZ U (bR ?_))
   refine bM (bC (bC (bA (bA (bC (bA ?_))))))
   have hE:vhE cl (prevOf vl i) ⟨vk,zV⟩=8:=by rw [h8,if_pos h5]
   have hF:scanE (vhE cl) none vl=8:=by rw [hsc,hat,if_neg (by rw [hE];decide),hE]
   exact bK U U fun wx hm=>⟨bW (by rw [hfl,hF,bE9 (by decide)]),hm.g⟩
  refine bN (bG (bG (bD (bI ?_))))
  have hE:vhE cl (prevOf vl i) ⟨vk,zV⟩=0:=by rw [h8,if_neg h5]
  refine gN U U (bP U (bE ?_))
  exact cQ (i+1) ⟨by omega,by rw [hsc,hat,if_pos hE]⟩ (by omega) ⟨U,U,U,(cS (by omega)),trivial⟩ (fun _ hm=>hm.pick [1] [] [0,1,2,3] U U)
 refine dE (bF (bF (bY (bD (bS ?_)))))
 have hz:scanE (vhE cl) none vl=0:=by rw [hsc,List.drop_eq_nil_of_le (by omega)];rfl
 have bE3:bM3 vl:=(cJ6 hz).1
 obtain ⟨PE,hPE⟩:∃z,z=bJ9 vl pl:=⟨_,rfl⟩
 refine bB (cX bP5 U (fun _ hm=>hm.blkI 0 U) U U) U (cL (v:= .int .i64 PE) U fA0 U U (fun wx hm=>(by rw [hPE];exact bT8 vl pl sA cA vA pA sn sc cn cc vn vc pn pc wx (hm.fact 2 rfl).1 (hm.fact 3 rfl).1 (by omega) (by omega) bE3 hpok)) (bZ U (bR (bM ?_))))
 exact bK U U fun wx hm=>⟨bW (by rw [hfl,hz,dR8,hPE]),hm.g⟩
theorem cB6 (hs:List Int) (h:hs.length=14):∃a0 a1 a2 a3 a4 a5 a6 a7 a8 a9 a10 a11 a12 a13,hs= [a0,a1,a2,a3,a4,a5,a6,a7,a8,a9,a10,a11,a12,a13]:=by
 match hs,h with
 | [a0,a1,a2,a3,a4,a5,a6,a7,a8,a9,a10,a11,a12,a13],_=>exact ⟨a0,a1,a2,a3,a4,a5,a6,a7,a8,a9,a10,a11,a12,a13,rfl⟩
def bD7 (hs:List Int) (d:Int):Int:=d *1440+frAt hs (d % 7).toNat
def bE7 (hs:List Int) (d:Int):Int:=d *1440+toAt hs (d % 7).toNat
def eD6 (w:World) (a b:Int) (e:Ending) (w':World):Prop:=e=.returned (.agg #[.int .i64 a,.int .i64 b])/\w.grownBy w' none
theorem dI5 (key:ByteArray) (hs:List Int) (d:Int) (w:World) (hl:hs.length=14) (hd0:0<=d) (hd1:d<=1000000000) (hb:∀h∈hs, -1000000000000000000<=h/\h<=1000000000000000000):
 Calls prog 89 #[.agg (stCells key hs).toArray,.int .i64 d] w (eD6 w (bD7 hs d) (bE7 hs d)):=by
 obtain ⟨j,hj⟩:∃j:Nat,(j:Int)=d % 7:=⟨(d % 7).toNat,by omega⟩
 have hj7:j < 7:=by omega
 have hF:bD7 hs d=d *1440+frAt hs j:=by unfold bD7;rw [<-hj];simp
 have hT:bE7 hs d=d *1440+toAt hs j:=by unfold bE7;rw [<-hj];simp
 have hf: -1000000000000000000<=frAt hs j/\frAt hs j<=1000000000000000000:=by
  unfold frAt;rw [List.getD_eq_getElem?_getD,fJ5 (by omega)];exact hb _ (List.getElem_mem _)
 have ht: -1000000000000000000<=toAt hs j/\toAt hs j<=1000000000000000000:=by
  unfold toAt;rw [List.getD_eq_getElem?_getD,fJ5 (by omega)];exact hb _ (List.getElem_mem _)
 rw [hF,hT]
 have hvs:((hs.map (Value.int .i64)).drop (j *2)).take 2= [.int .i64 (frAt hs j),.int .i64 (toAt hs j)]:=hrs_pair hs j (by omega)
 generalize frAt hs j=f at *
 generalize toAt hs j=t at *
 have hvv:∀i v, [Value.int .i64 f,Value.int .i64 t][i]?=some v->(stCells key hs)[1+j *2+i]?=some v:=fun i v hv=>by
  rw [<-hvs,List.getElem?_take] at hv
  split at hv
  ·rw [List.getElem?_drop] at hv
   rw [show 1+j *2+i=(j *2+i)+1 by omega]
   exact hv
  ·cases hv
 have Hvv:=Lib.hid hvv
 have hj':d % 7=(j:Int):=hj.symm
 have hbox:Blk ((w.alloc (.cells (stCells key hs).toArray 99)).alloc (.cells #[.int .i64 0,.int .i64 0] 55)) w.heap.size 99 (stCells key hs):=(Blk.at_ w rfl _ _).alloc _
 clear hvv hvs hF hT hj
 go_enter func89,ntmps89
 go_wp2_with (with_reducible refine wpList_load_blk rfl 55 (.tmp 9) rfl w.heap.size (1+j *2) _ (stCells key hs) [.int .i64 f,.int .i64 t] _ hbox rfl Tryz.underlying55 rfl 2 info_win (by simp) Hvv.out ?_)
 refine bodyPost_ret (v:= .agg #[.int .i64 (d *1440+f),.int .i64 (d *1440+t)]) (by simp [results,Tryz.results89,go_sem]) U ⟨U,?_⟩
 exact grow_alloc (grow_alloc (grow_alloc (World.grownBy.refl _ _) _) _) _
theorem eA8 {key:ByteArray} {hs:List Int} {w:World} {g:Nat} (h:Blk w g 99 (stCells key hs)):SlT stEnc 15 99 w (some ⟨g,0,none⟩) 1 [⟨key,hs⟩]:=
 ⟨rfl,fun _=>⟨g,0,_,_,rfl,h,fun i x hx j v hv=>by
  match i,hx with
  |0,hx=>
   simp at hx;subst hx
   simpa [stEnc] using hv⟩⟩
theorem bK6 (key:ByteArray) (hs:List Int) (f:Int) (w:World) (hok:StOk ⟨key,hs⟩):
 Calls prog 87 #[.agg (stCells key hs).toArray,.int .i64 f] w fun e w'=>e=.returned (.int .i64 (dI [stationsE [⟨key,hs⟩],f]))/\w.grownBy w' none:=by
 have hsl:=fun (wz:World) (hz:wz.heap.size=w.heap.size+1)=>eA8 (Blk.at_ wz hz 99 (stCells key hs))
 have Hsl:=Lib.hid hsl
 have Hok:=Lib.hid hok
 clear hsl
 obtain ⟨a0,a1,a2,a3,a4,a5,a6,a7,a8,a9,a10,a11,a12,a13,rfl⟩:=cB6 hs hok.1
 clear hok
 show Calls prog 87 #[.agg #[.string key,.int .i64 a0,.int .i64 a1,.int .i64 a2,.int .i64 a3,.int .i64 a4,.int .i64 a5,.int .i64 a6,.int .i64 a7,.int .i64 a8,.int .i64 a9,.int .i64 a10,.int .i64 a11,.int .i64 a12,.int .i64 a13],.int .i64 f] w _
 go_enter func87,ntmps87
 go_wp2_with fail
 refine (checkStations_any [⟨key, [a0,a1,a2,a3,a4,a5,a6,a7,a8,a9,a10,a11,a12,a13]⟩] _ _ _ _ (Hsl.out (w.alloc (.cells #[.string key,.int .i64 a0,.int .i64 a1,.int .i64 a2,.int .i64 a3,.int .i64 a4,.int .i64 a5,.int .i64 a6,.int .i64 a7,.int .i64 a8,.int .i64 a9,.int .i64 a10,.int .i64 a11,.int .i64 a12,.int .i64 a13] 99)) (by simp)) (by intro s hs;simp at hs;subst hs;exact Hok.out) (by omega)).mono ?_
 rintro e w1 ⟨rfl,hg1⟩
 have hg1':w.grownBy w1 none:=grow_trans (grow_alloc (grow_alloc (World.grownBy.refl _ _) _) _) hg1
 obtain ⟨E,hE⟩:∃E,E=stationsE [⟨key, [a0,a1,a2,a3,a4,a5,a6,a7,a8,a9,a10,a11,a12,a13]⟩]:=⟨_,rfl⟩
 rw [<-hE]
 have HE:=Lib.hid hE;clear hE
 go_wp2_with fail
 refine (fJ [E,f] _ _ _ _ (Blk.at_ _ U _ _) (by simp)).mono ?_
 rintro e w2 ⟨rfl,rfl⟩
 go_wp2_with fail
 go_ret
 exact ⟨by rw [<-HE.out];rfl,grow_alloc hg1' _⟩
def bH9 (s:St) (at_:Int):Int:=dI [stationsE [s],yO at_]
def bU1 (s:St) (at_:Int):Bool:=bH9 s at_==0&&decide (bD7 s.hs (at_ / 1440)<=at_)&&decide (at_ < bE7 s.hs (at_ / 1440))
theorem cH8 (key:ByteArray) (hs:List Int) (at_:Int) (w:World) (hok:StOk ⟨key,hs⟩) (hb:∀h∈hs, -1000000000000000000<=h/\h<=1000000000000000000):
 Calls prog 39 #[.agg (stCells key hs).toArray,.int .i64 at_] w (eW4 w (bU1 ⟨key,hs⟩ at_) (bH9 ⟨key,hs⟩ at_)):=by
 have Hok:=Lib.hid hok
 have Hb:=Lib.hid hb
 clear hb
 obtain ⟨a0,a1,a2,a3,a4,a5,a6,a7,a8,a9,a10,a11,a12,a13,rfl⟩:=cB6 hs hok.1
 clear hok
 show Calls prog 39 #[.agg #[.string key,.int .i64 a0,.int .i64 a1,.int .i64 a2,.int .i64 a3,.int .i64 a4,.int .i64 a5,.int .i64 a6,.int .i64 a7,.int .i64 a8,.int .i64 a9,.int .i64 a10,.int .i64 a11,.int .i64 a12,.int .i64 a13],.int .i64 at_] w _
 go_enter func39,ntmps39
 go_wp2_with fail
 refine wp_region_still_tail 3 (by kernel_rfl) (by kernel_rfl) ?_
 change wpStill _ _ (World.drew _) _ _ _
 simp only [List.take_succ_cons,List.take_zero,List.drop_succ_cons,List.drop_zero]
 still_step
 still_step
 still_call ((cV0 at_ _).mono fun _ _ h=>⟨h.1,h.2.symm⟩)
 refine wpStill_nil ?_
 change wpList _ _ _ _ _ (World.drew _)
 go_wp2_with fail
 refine (bK6 key [a0,a1,a2,a3,a4,a5,a6,a7,a8,a9,a10,a11,a12,a13] _ _ Hok.out).mono ?_
 rintro e w1 ⟨rfl,hg1⟩
 obtain ⟨E,hE⟩:∃E,E=bH9 ⟨key, [a0,a1,a2,a3,a4,a5,a6,a7,a8,a9,a10,a11,a12,a13]⟩ at_:=⟨_,rfl⟩
 rw [show dI [stationsE [⟨key, [a0,a1,a2,a3,a4,a5,a6,a7,a8,a9,a10,a11,a12,a13]⟩],yO at_]=E from hE.symm]
 have HE:=Lib.hid hE;clear hE
 have hbox:Blk w1 w.heap.size 99 (stCells key [a0,a1,a2,a3,a4,a5,a6,a7,a8,a9,a10,a11,a12,a13]):=((Blk.at_ w rfl _ _).drewN 1).grown hg1 (by simp)
 have hgw:w.grownBy w1 none:=grow_trans (pI (grow_alloc (World.grownBy.refl _ _) _)) hg1
 clear hg1
 by_cases h0:E=0
 ·have hm:=dD1 (bR3 (HE.out.symm.trans h0)).2
  have hdv:at_.tdiv 1440=at_ / 1440:=Int.tdiv_eq_ediv_of_nonneg hm.1
  have hd0:0<=at_ / 1440:=by omega
  have hd1:at_ / 1440<=1000000000:=by omega
  obtain ⟨d,hd⟩:∃d,d=at_ / 1440:=⟨_,rfl⟩
  have hV:bU1 ⟨key, [a0,a1,a2,a3,a4,a5,a6,a7,a8,a9,a10,a11,a12,a13]⟩ at_=(decide (bD7 [a0,a1,a2,a3,a4,a5,a6,a7,a8,a9,a10,a11,a12,a13] d<=at_)&&decide (at_ < bE7 [a0,a1,a2,a3,a4,a5,a6,a7,a8,a9,a10,a11,a12,a13] d)):=by
   unfold bU1
   rw [<-HE.out,h0,<-hd];rfl
  rw [<-hd] at hdv hd0 hd1
  have hd':at_ / 1440=d:=hd.symm
  have HV:=Lib.hid hV
  subst h0
  clear hV hd
  go_wp2_with (with_reducible refine wpList_load_all rfl 99 (.tmp 2) rfl w.heap.size _ (stCells key [a0,a1,a2,a3,a4,a5,a6,a7,a8,a9,a10,a11,a12,a13]) _ hbox rfl Tryz.underlying99 rfl 15 info_st rfl ?_)
  refine (dI5 key [a0,a1,a2,a3,a4,a5,a6,a7,a8,a9,a10,a11,a12,a13] _ _ U hd0 hd1 Hb.out).mono ?_
  rintro e w2 ⟨rfl,hg2⟩
  have hgw2:=grow_trans hgw hg2
  obtain ⟨F,hF⟩:∃F,F=bD7 [a0,a1,a2,a3,a4,a5,a6,a7,a8,a9,a10,a11,a12,a13] d:=⟨_,rfl⟩
  obtain ⟨T,hT⟩:∃T,T=bE7 [a0,a1,a2,a3,a4,a5,a6,a7,a8,a9,a10,a11,a12,a13] d:=⟨_,rfl⟩
  rw [<-hF,<-hT] at HV ⊢
  clear hF hT hbox hgw hg2
  go_wp2_with fail
  all_goals
   go_ret2
   exact ⟨eP0 (by rw [HV.out];simp [*] <;> (intros;omega)) HE.out,grow_alloc hgw2 _⟩
 ·have hne:(E !=0)=true:=by simpa using h0
  have hV:bU1 ⟨key, [a0,a1,a2,a3,a4,a5,a6,a7,a8,a9,a10,a11,a12,a13]⟩ at_=false:=by
   unfold bU1
   rw [<-HE.out];simp [h0]
  have HV:=Lib.hid hV
  clear hV h0
  go_wp2_with fail
  go_ret2
  exact ⟨eP0 HV.out.symm HE.out,hgw⟩
def qZ (a b:Int):Int:=dK (!inB a 0 b||decide (5761440 < b)) 1
theorem dE2 (a b:Int) (w:World):
 Calls prog 37 #[.agg #[.int .i64 a,.int .i64 b]] w fun e w'=>e=.returned (.int .i64 (qZ a b))/\w.grownBy w' none:=by
 go_enter func37,ntmps37
 go_wp2_with fail
 refine (in_any _ _ _ _).mono ?_
 rintro e w1 ⟨rfl,rfl⟩
 obtain ⟨x,hx⟩:∃x,inB a 0 b=x:=⟨_,rfl⟩
 rw [hx]
 have Hx:=Lib.hid hx;clear hx
 cases x
 all_goals
  go_wp2_with fail
  refine (eE _ _ _).mono ?_
  rintro e w1 ⟨rfl,rfl⟩
  go_wp2_with fail
  go_ret
  exact ⟨by simp [qZ,Hx.out],grow_alloc (World.grownBy.refl _ _) _⟩
theorem dD2 {a b:Int} (h:qZ a b=0):0<=a/\a<=b/\b<=5761440:=by
 unfold qZ dK at h
 cases hb:inB a 0 b
 ·simp [hb] at h
 ·have:=mG.1 hb
  by_cases h2:5761440 < b
  ·simp [hb,h2] at h
  ·omega
end Go.Proofs.YtmifpfcmldflkaaGreatDoor
