/- Several texts as one: Wee Gob Gos Gck Goc Gvc Wes Wef Weg Wbf H10 Twt Tbf -/
import Derived.Test.YtapdhfjfgpbnnaaGreatDoorR3g
import Derived.Test.YtapdhfjfgpbnnaaGreatDoorR3d
import Derived.Test.YtapdhfjfgpbnnaaGreatDoorR3b
import Derived.Test.YtapdhfjfgpbnnaaGreatDoorR3a
import Derived.OneCell
import Derived.Lay
import Derived.LaidSub
import Derived.MakeChecks
import Derived.Stop.LaidErr
import Derived.Lib.LaidU8
import Derived.Shelf.Vars
import Derived.Test.YtapdhfjfgpbnnaaGreatDoorR3e
set_option maxRecDepth 100000
set_option maxHeartbeats 4000000
namespace Go.Proofs.YtapdhfjfgpbnnaaGreatDoor
open Tryz
open Go.RowKit
theorem dH1{cs:List Cs}{l:List Bk}(h:∀b∈l,uH cs [b.cls]=0):∀b∈l,0<=kL (nS b.cls) cs 0:=fun b hb=>(cD7 (h b hb)).2 _ (List.mem_singleton.2 rfl)
theorem cG5{cs:List Cs}{sl:List Sk}{b:Bk}(hcl:nY cs)(hlo:uI cs cs.length=false)(h30:cs.length<=30)(hk:0<=kL (nS b.cls) cs 0):∀q∈qZ cs sl b,q.2.1<=1000:=fun q hq=>by
 have h1:=(eZ8 (many:=mR sl) (zW hcl hlo hk)).2.2.2 q hq
 have h2:=cQ4 hcl hlo hk
 omega
theorem cF5{cs:List Cs}{sl:List Sk}{b:Bk}(hcl:nY cs)(hlo:uI cs cs.length=false)(h30:cs.length<=30)(hk:0<=kL (nS b.cls) cs 0):(qZ cs sl b).length<=1000:=by
 have h1:=List.length_filter_le (fun k:CdW M=>decide (0 < k.2.2)) (yB (mR sl) 0 (cT5 cs b))
 rw [bX9] at h1
 have h2:(cT5 cs b).length<=cs.length:=cQ4 hcl hlo hk
 exact Nat.le_trans h1 G
def WFw(cs:List Cs)(sl:List Sk)(l:List Bk)(v:Int):Prop:=v<=1000000/\(v < 0∨∀b∈l,qZ cs sl b≠ [])
theorem dJ6{cs:List Cs}{sl:List Sk}{l:List Bk}{n:Nat}(hn:l.length<=n)(h:∀j,j < n->zR (l.map (qZ cs sl)) j≠0):∀b∈l,qZ cs sl b≠ []:=fun b hb e=>by
 obtain ⟨j,hj⟩:=List.getElem?_of_mem hb
 have:=(List.getElem?_eq_some_iff.1 hj).1
 refine h j G ?_
 unfold zR
 rw [List.getD_eq_getElem?_getD,List.getElem?_map,hj,Option.map_some,Option.getD_some,e];rfl
def bO4(re:List Int)(n m:Nat):Prop:=re.length=n/\∀k,k < n->∃r:Nat,re[k]?=some ((r:Nat):Int)/\r<=m
theorem bO4.zero(n m:Nat):bO4 (List.replicate n 0) n m:=⟨List.length_replicate,fun k hk=>⟨0,by rw [List.getElem?_replicate,if_pos hk];rfl,Nat.zero_le _⟩⟩
theorem bO4.set{re:List Int}{n m m':Nat}(h:bO4 re n m)(hm:m<=m')(k r:Nat)(hr:r<=m'):bO4 (re.set k ((r:Nat):Int)) n m':=⟨by rw [List.length_set];exact h.1,fun j hj=>by
 rw [List.getElem?_set]
 by_cases e:k=j
 ·rw [if_pos e,if_pos (by rw [e,h.1];exact hj)];exact ⟨r,rfl,hr⟩
 ·rw [if_neg e]
  obtain ⟨r2,h1,h2⟩:=h.2 j hj
  exact ⟨r2,h1,Nat.le_trans h2 hm⟩⟩
theorem cR2:kN prog 140=some [.pointer none]:=bC
theorem dG1(cs:List Cs)(A0:Option Addr)(n0 c0:Nat)(sl:List Sk)(A1:Option Addr)(n1 c1:Nat)(l:List Bk)(A:Option Addr)(n c:Nat)(w:World)(hcs:SlT dQ 2 53 w A0 n0 cs)(pI:∀x∈cs,pR x)(hn0:n0<=1000)(hs:SlT jA 2 57 w A1 n1 sl)(hso:∀x∈sl,cA0 x)(qV:n1<=1000)(hl:SlT eV 6 87 w A n l)(hn:n<=12)(hcl:nY cs)(hlo:uI cs cs.length=false)(h30:cs.length<=30)(hkeys:∀b∈l,uH cs [b.cls]=0)(htm:bH0 l):
 Calls prog 60 #[H A0 n0 c0,H A1 n1 c1,H A n c] w (fun e w'=>∃v,e=.returned (J v)/\WFw cs sl l v/\w.grownBy w' none):=by
 refine cY ⟨102,w,none, [147,146]⟩ func60 D ntmps60 D (fZ (X:= [bT dQ 2 53 w.heap.size none A0 n0 cs,bT jA 2 57 w.heap.size none A1 n1 sl,bT eV 6 87 w.heap.size none A n l]) (cC hcs.old (cC hs.old (cC hl.old cZ))) (cE bT.lasts (cE bT.lasts (cE bT.lasts dA)))) (bX ?_)
 have hlen:=hl.len
 have hix:=dH1 hkeys
 have hstp:∀b∈l,∀q∈qZ cs sl b,q.2.1<=1000:=fun b hb=>cG5 hcl hlo h30 (hix b hb)
 have hchl:∀b∈l,(qZ cs sl b).length<=1000:=fun b hb=>cF5 hcl hlo h30 (hix b hb)
 refine cG D (bU ?_)
 refine pB (γ:=Option Addr×Nat×List nB×Nat×Nat×Nat) (I':=(fun g=>g.2.2.1.map nB.l=l.map (qZ cs sl))) (S':=(fun g=> [(2,H A n c),(6,J 0),(7,.pointer (some ⟨g.2.2.2.1,0,none⟩))])) (K':=(fun g=>fun _=>True)) (L':=(fun g=> [(g.2.2.2.1,140, [.pointer (some ⟨g.2.2.2.2.1,0,none⟩)]),(g.2.2.2.2.1,144, [H A n c,H g.1 n g.2.1,H none 0 0,H (some ⟨g.2.2.2.2.2,0,none⟩) n n,H none 0 0,H none 0 0,J (-1)])])) (O':=(fun g=> [⟨H (some ⟨g.2.2.2.2.2,0,none⟩) n n,9,1,n,(List.replicate (n) (⟨#[]⟩:M)).flatMap dU⟩])) (X':=(fun g=> [bT dQ 2 53 w.heap.size none A0 n0 cs,bT jA 2 57 w.heap.size none A1 n1 sl,bT eV 6 87 w.heap.size none A n l,fun wy=>SlT eQ 1 147 wy g.1 n g.2.2.1,fun wy=>nX 146 g.2.2.1 wy])) ?_ ?_
 ·refine gd (fun wz=>True) mixed (fun _ _=>bB) fun z=>?_
  refine wq 0 D (bL D) (wq 1 D (bL D) (wq 2 D (bL D) (wq 3 D (bL D) (wq 5 D (bL D) (wq 6 D (dP pU D) ?_)))))
  refine jC [4,7,10] bC D ⟨⟨_,D,?_⟩,⟨_,D,?_⟩,⟨_,D,?_⟩,bB⟩
  ·refine fK (γ:=Option Addr×Nat×List nB) (val:=(fun g=>H g.1 n g.2.1)) (φ:=(fun g=>g.2.2.map nB.l=l.map (qZ cs sl))) (Y:=(fun g=>fun wy=>SlT eQ 1 147 wy g.1 n g.2.2/\nX 146 g.2.2 wy)) D bA7 D D (fun wx hm=>(jX cs A0 n0 c0 sl A1 n1 c1 l A n c wx (hm.fact 0 D).1 pI G (hm.fact 1 D).1 hso G (hm.fact 2 D).1 G hkeys).mono fun _ _ ⟨A9,c9,cx,he,h1,h2,h3,hg⟩=>⟨(A9,c9,cx),he,h3,hg,⟨h1,h2⟩⟩) (fun _=>(SlT.lasts2 D).and_ (nX.lasts D)) ?_
   rintro ⟨A9,c9,cx⟩ hcx
   dsimp only at hcx ⊢
   refine bH (nw 12 127 (fun _ _=>bB) fun z=>?_)
   refine jC [7,10] bC D ⟨⟨_,D,?_⟩,⟨_,D,?_⟩,bB⟩
   ·refine gP (n:=n) (sz:=1) (e:=9) (by_:=16) (z:=U ⟨#[]⟩) bC bC D D G G G (by unfold maxLen;omega) (fU (enc:=dU) (x:=(⟨#[]⟩:M)) D D bD (n)) D fun g1=>?_
    refine bH (nw 12 255 (fun _ _=>bB) fun z=>wq 8 D (dL (cs:= [H A n c,H A9 n c9,H none 0 0,H (some ⟨g1,0,none⟩) n n,H none 0 0,H none 0 0,J (-1)]) D bC) ?_)
    refine jC [9,10] bC D ⟨⟨_,D,?_⟩,⟨_,D,?_⟩,bB⟩
    ·refine fS D D D fun g2=>?_
     refine bH (nw 12 1023 (fun _ _=>bB) fun z=>eD 10 D (dM cR2 D fun g3=>bH (nw 12 2047 (fun _ _=>bB) fun z=>eD 11 D (fX 0 qJ D D D D D D (bH (nw 12 4095 (fun _ _=>bB) fun z=>gY ?_))))))
     refine jQ (Y:=fun wy=>SlT eQ 1 147 wy A9 n cx) (SlT.lasts2 D) (fun wx hm=>(hm.fact 0 D).1) ?_
     refine jQ (Y:=fun wy=>nX 146 cx wy) (nX.lasts D) (fun wx hm=>(hm.fact 1 D).2) ?_
     exact fH (A9,c9,cx,g3,g2,g1) hcx ⟨D,D,D,bB⟩ (fun _ hm=>hm.pick [0,1] [0] [3,4,5,1,0] D D)
    refine dM cR2 D fun g4=>bH (nw 12 1535 (fun _ _=>bB) fun z=>eD 9 D (fS D D D fun g5=>bH (nw 12 2047 (fun _ _=>bB) fun z=>eD 11 D (fX 1 qJ D D D D D D (bH (nw 12 4095 (fun _ _=>bB) fun z=>gY ?_))))))
    refine jQ (Y:=fun wy=>SlT eQ 1 147 wy A9 n cx) (SlT.lasts2 D) (fun wx hm=>(hm.fact 0 D).1) ?_
    refine jQ (Y:=fun wy=>nX 146 cx wy) (nX.lasts D) (fun wx hm=>(hm.fact 1 D).2) ?_
    exact fH (A9,c9,cx,g4,g5,g1) hcx ⟨D,D,D,bB⟩ (fun _ hm=>hm.pick [1,0] [0] [3,4,5,1,0] D D)
   refine dM cR2 D fun g6=>bH (nw 12 1151 (fun _ _=>bB) fun z=>eD 7 D ?_)
   refine gP (n:=n) (sz:=1) (e:=9) (by_:=16) (z:=U ⟨#[]⟩) bC bC D D G G G (by unfold maxLen;omega) (fU (enc:=dU) (x:=(⟨#[]⟩:M)) D D bD (n)) D fun g7=>?_
   refine bH (nw 12 1279 (fun _ _=>bB) fun z=>wq 8 D (dL (cs:= [H A n c,H A9 n c9,H none 0 0,H (some ⟨g7,0,none⟩) n n,H none 0 0,H none 0 0,J (-1)]) D bC) (eD 9 D (fS D D D fun g8=>bH (nw 12 2047 (fun _ _=>bB) fun z=>eD 11 D (fX 1 qJ D D D D D D (bH (nw 12 4095 (fun _ _=>bB) fun z=>gY ?_)))))))
   refine jQ (Y:=fun wy=>SlT eQ 1 147 wy A9 n cx) (SlT.lasts2 D) (fun wx hm=>(hm.fact 0 D).1) ?_
   refine jQ (Y:=fun wy=>nX 146 cx wy) (nX.lasts D) (fun wx hm=>(hm.fact 1 D).2) ?_
   exact fH (A9,c9,cx,g6,g8,g7) hcx ⟨D,D,D,bB⟩ (fun _ hm=>hm.pick [1,0] [0] [3,4,5,1,0] D D)
  ·refine gP (n:=n) (sz:=1) (e:=9) (by_:=16) (z:=U ⟨#[]⟩) bC bC D D G G G (by unfold maxLen;omega) (fU (enc:=dU) (x:=(⟨#[]⟩:M)) D D bD (n)) D fun g9=>?_
   refine bH (nw 12 239 (fun _ _=>bB) fun z=>?_)
   refine jC [4,10] bC D ⟨⟨_,D,?_⟩,⟨_,D,?_⟩,bB⟩
   ·refine fK (γ:=Option Addr×Nat×List nB) (val:=(fun g=>H g.1 n g.2.1)) (φ:=(fun g=>g.2.2.map nB.l=l.map (qZ cs sl))) (Y:=(fun g=>fun wy=>SlT eQ 1 147 wy g.1 n g.2.2/\nX 146 g.2.2 wy)) D bA7 D D (fun wx hm=>(jX cs A0 n0 c0 sl A1 n1 c1 l A n c wx (hm.fact 0 D).1 pI G (hm.fact 1 D).1 hso G (hm.fact 2 D).1 G hkeys).mono fun _ _ ⟨A9,c9,cx,he,h1,h2,h3,hg⟩=>⟨(A9,c9,cx),he,h3,hg,⟨h1,h2⟩⟩) (fun _=>(SlT.lasts2 D).and_ (nX.lasts D)) ?_
    rintro ⟨A9,c9,cx⟩ hcx
    dsimp only at hcx ⊢
    refine bH (nw 12 255 (fun _ _=>bB) fun z=>wq 8 D (dL (cs:= [H A n c,H A9 n c9,H none 0 0,H (some ⟨g9,0,none⟩) n n,H none 0 0,H none 0 0,J (-1)]) D bC) ?_)
    refine jC [9,10] bC D ⟨⟨_,D,?_⟩,⟨_,D,?_⟩,bB⟩
    ·refine fS D D D fun g10=>?_
     refine bH (nw 12 1023 (fun _ _=>bB) fun z=>eD 10 D (dM cR2 D fun g11=>bH (nw 12 2047 (fun _ _=>bB) fun z=>eD 11 D (fX 0 qJ D D D D D D (bH (nw 12 4095 (fun _ _=>bB) fun z=>gY ?_))))))
     refine jQ (Y:=fun wy=>SlT eQ 1 147 wy A9 n cx) (SlT.lasts2 D) (fun wx hm=>(hm.fact 0 D).1) ?_
     refine jQ (Y:=fun wy=>nX 146 cx wy) (nX.lasts D) (fun wx hm=>(hm.fact 1 D).2) ?_
     exact fH (A9,c9,cx,g11,g10,g9) hcx ⟨D,D,D,bB⟩ (fun _ hm=>hm.pick [0,1] [0] [3,4,5,1,0] D D)
    refine dM cR2 D fun g12=>bH (nw 12 1535 (fun _ _=>bB) fun z=>eD 9 D (fS D D D fun g13=>bH (nw 12 2047 (fun _ _=>bB) fun z=>eD 11 D (fX 1 qJ D D D D D D (bH (nw 12 4095 (fun _ _=>bB) fun z=>gY ?_))))))
    refine jQ (Y:=fun wy=>SlT eQ 1 147 wy A9 n cx) (SlT.lasts2 D) (fun wx hm=>(hm.fact 0 D).1) ?_
    refine jQ (Y:=fun wy=>nX 146 cx wy) (nX.lasts D) (fun wx hm=>(hm.fact 1 D).2) ?_
    exact fH (A9,c9,cx,g12,g13,g9) hcx ⟨D,D,D,bB⟩ (fun _ hm=>hm.pick [1,0] [0] [3,4,5,1,0] D D)
   refine dM cR2 D fun g14=>bH (nw 12 1263 (fun _ _=>bB) fun z=>eD 4 D ?_)
   refine fK (γ:=Option Addr×Nat×List nB) (val:=(fun g=>H g.1 n g.2.1)) (φ:=(fun g=>g.2.2.map nB.l=l.map (qZ cs sl))) (Y:=(fun g=>fun wy=>SlT eQ 1 147 wy g.1 n g.2.2/\nX 146 g.2.2 wy)) D bA7 D D (fun wx hm=>(jX cs A0 n0 c0 sl A1 n1 c1 l A n c wx (hm.fact 0 D).1 pI G (hm.fact 1 D).1 hso G (hm.fact 2 D).1 G hkeys).mono fun _ _ ⟨A9,c9,cx,he,h1,h2,h3,hg⟩=>⟨(A9,c9,cx),he,h3,hg,⟨h1,h2⟩⟩) (fun _=>(SlT.lasts2 D).and_ (nX.lasts D)) ?_
   rintro ⟨A9,c9,cx⟩ hcx
   dsimp only at hcx ⊢
   refine bH (nw 12 1279 (fun _ _=>bB) fun z=>wq 8 D (dL (cs:= [H A n c,H A9 n c9,H none 0 0,H (some ⟨g9,0,none⟩) n n,H none 0 0,H none 0 0,J (-1)]) D bC) (eD 9 D (fS D D D fun g15=>bH (nw 12 2047 (fun _ _=>bB) fun z=>eD 11 D (fX 1 qJ D D D D D D (bH (nw 12 4095 (fun _ _=>bB) fun z=>gY ?_)))))))
   refine jQ (Y:=fun wy=>SlT eQ 1 147 wy A9 n cx) (SlT.lasts2 D) (fun wx hm=>(hm.fact 0 D).1) ?_
   refine jQ (Y:=fun wy=>nX 146 cx wy) (nX.lasts D) (fun wx hm=>(hm.fact 1 D).2) ?_
   exact fH (A9,c9,cx,g14,g15,g9) hcx ⟨D,D,D,bB⟩ (fun _ hm=>hm.pick [1,0] [0] [3,4,5,1,0] D D)
  refine dM cR2 D fun g16=>bH (nw 12 1135 (fun _ _=>bB) fun z=>?_)
  refine jC [4,7] bC D ⟨⟨_,D,?_⟩,⟨_,D,?_⟩,bB⟩
  ·refine fK (γ:=Option Addr×Nat×List nB) (val:=(fun g=>H g.1 n g.2.1)) (φ:=(fun g=>g.2.2.map nB.l=l.map (qZ cs sl))) (Y:=(fun g=>fun wy=>SlT eQ 1 147 wy g.1 n g.2.2/\nX 146 g.2.2 wy)) D bA7 D D (fun wx hm=>(jX cs A0 n0 c0 sl A1 n1 c1 l A n c wx (hm.fact 0 D).1 pI G (hm.fact 1 D).1 hso G (hm.fact 2 D).1 G hkeys).mono fun _ _ ⟨A9,c9,cx,he,h1,h2,h3,hg⟩=>⟨(A9,c9,cx),he,h3,hg,⟨h1,h2⟩⟩) (fun _=>(SlT.lasts2 D).and_ (nX.lasts D)) ?_
   rintro ⟨A9,c9,cx⟩ hcx
   dsimp only at hcx ⊢
   refine bH (nw 12 1151 (fun _ _=>bB) fun z=>eD 7 D ?_)
   refine gP (n:=n) (sz:=1) (e:=9) (by_:=16) (z:=U ⟨#[]⟩) bC bC D D G G G (by unfold maxLen;omega) (fU (enc:=dU) (x:=(⟨#[]⟩:M)) D D bD (n)) D fun g17=>?_
   refine bH (nw 12 1279 (fun _ _=>bB) fun z=>wq 8 D (dL (cs:= [H A n c,H A9 n c9,H none 0 0,H (some ⟨g17,0,none⟩) n n,H none 0 0,H none 0 0,J (-1)]) D bC) (eD 9 D (fS D D D fun g18=>bH (nw 12 2047 (fun _ _=>bB) fun z=>eD 11 D (fX 1 qJ D D D D D D (bH (nw 12 4095 (fun _ _=>bB) fun z=>gY ?_)))))))
   refine jQ (Y:=fun wy=>SlT eQ 1 147 wy A9 n cx) (SlT.lasts2 D) (fun wx hm=>(hm.fact 0 D).1) ?_
   refine jQ (Y:=fun wy=>nX 146 cx wy) (nX.lasts D) (fun wx hm=>(hm.fact 1 D).2) ?_
   exact fH (A9,c9,cx,g16,g18,g17) hcx ⟨D,D,D,bB⟩ (fun _ hm=>hm.pick [1,0] [0] [3,4,5,1,0] D D)
  refine gP (n:=n) (sz:=1) (e:=9) (by_:=16) (z:=U ⟨#[]⟩) bC bC D D G G G (by unfold maxLen;omega) (fU (enc:=dU) (x:=(⟨#[]⟩:M)) D D bD (n)) D fun g19=>?_
  refine bH (nw 12 1263 (fun _ _=>bB) fun z=>eD 4 D ?_)
  refine fK (γ:=Option Addr×Nat×List nB) (val:=(fun g=>H g.1 n g.2.1)) (φ:=(fun g=>g.2.2.map nB.l=l.map (qZ cs sl))) (Y:=(fun g=>fun wy=>SlT eQ 1 147 wy g.1 n g.2.2/\nX 146 g.2.2 wy)) D bA7 D D (fun wx hm=>(jX cs A0 n0 c0 sl A1 n1 c1 l A n c wx (hm.fact 0 D).1 pI G (hm.fact 1 D).1 hso G (hm.fact 2 D).1 G hkeys).mono fun _ _ ⟨A9,c9,cx,he,h1,h2,h3,hg⟩=>⟨(A9,c9,cx),he,h3,hg,⟨h1,h2⟩⟩) (fun _=>(SlT.lasts2 D).and_ (nX.lasts D)) ?_
  rintro ⟨A9,c9,cx⟩ hcx
  dsimp only at hcx ⊢
  refine bH (nw 12 1279 (fun _ _=>bB) fun z=>wq 8 D (dL (cs:= [H A n c,H A9 n c9,H none 0 0,H (some ⟨g19,0,none⟩) n n,H none 0 0,H none 0 0,J (-1)]) D bC) (eD 9 D (fS D D D fun g20=>bH (nw 12 2047 (fun _ _=>bB) fun z=>eD 11 D (fX 1 qJ D D D D D D (bH (nw 12 4095 (fun _ _=>bB) fun z=>gY ?_)))))))
  refine jQ (Y:=fun wy=>SlT eQ 1 147 wy A9 n cx) (SlT.lasts2 D) (fun wx hm=>(hm.fact 0 D).1) ?_
  refine jQ (Y:=fun wy=>nX 146 cx wy) (nX.lasts D) (fun wx hm=>(hm.fact 1 D).2) ?_
  exact fH (A9,c9,cx,g16,g20,g19) hcx ⟨D,D,D,bB⟩ (fun _ hm=>hm.pick [1,0] [0] [3,4,5,1,0] D D)
 rintro ⟨A9,c9,cx,g7,gx,gc⟩ bZ
 replace bZ:cx.map nB.l=l.map (qZ cs sl):=bZ
 dsimp only
 refine bJ (bX ?_)
 have hcx:cx.map nB.l=l.map (qZ cs sl):=bZ
 have hcxl:cx.length=n:=by have h:=congrArg List.length hcx;rw [List.length_map,List.length_map] at h;omega
 refine eB (R:=(∀x∈cx,x.l.length=x.n)/\(0 < n->∃b9 o9,A9=some ⟨b9,o9,none⟩)/\∀x∈cx,0 < x.n->∃bi oi,x.A=some ⟨bi,oi,none⟩) (fun wx hm=>⟨fun x hx=>((hm.fact 4 D) x hx).len,fun h0=>by
  obtain ⟨b9,o9,e,_⟩:=(hm.fact 3 rfl).get h0
  exact ⟨b9,o9,e⟩,fun x hx h0=>by
  obtain ⟨b9,o9,e,_⟩:=((hm.fact 4 rfl) x hx).get h0
  exact ⟨b9,o9,e⟩⟩) ?_
 rintro ⟨yC,h9,hin⟩
 refine mA 3 1 ?_
 refine bS D (W (dP pU D) D (bS D (bU (bP ?_))))
 refine dS (γ:=Nat×Value) (fun g=>g.1<=n/\∀j,j < g.1->zR (l.map (qZ cs sl)) j≠0) (fun g=> [(2,H A n c),(7,.pointer (some ⟨g7,0,none⟩)),(21,I n),(22,I (g.1))]) (fun g=>fun _=>True) (fun g=> [(g7,140, [.pointer (some ⟨gx,0,none⟩)]),(gx,144, [H A n c,H A9 n c9,g.2,H (some ⟨gc,0,none⟩) n n,H none 0 0,H none 0 0,J (-1)])]) (fun g=> [⟨g.2,3,1,g.1,(List.range g.1).flatMap pW⟩,⟨H (some ⟨gc,0,none⟩) n n,9,1,n,(List.replicate (n) (⟨#[]⟩:M)).flatMap dU⟩]) (fun g=> [bT dQ 2 53 w.heap.size none A0 n0 cs,bT jA 2 57 w.heap.size none A1 n1 sl,bT eV 6 87 w.heap.size none A n l,fun wy=>SlT eQ 1 147 wy A9 n cx,fun wy=>nX 146 cx wy]) (fun g=>n - g.1) (0,H none 0 0) ⟨Nat.zero_le _,fun j h=>absurd h (Nat.not_lt_zero j)⟩ ⟨D,D,D,D,bB⟩ (fun _ hm=>hm.pick [0,1] [0,1] [0,1,2,3,4] D D) ?_
 rintro ⟨i,v⟩ bZ
 replace bZ:i<=n/\∀j,j < i->zR (l.map (qZ cs sl)) j≠0:=bZ
 dsimp only
 refine bX ?_
 obtain ⟨hi0,hne⟩:=bZ
 refine W (dF D D) D (bU (bJ ?_))
 refine cN D (fun hi=>?_) (fun hi=>?_)
 ·refine bN (bG (bJ (bP (bX ?_))))
  obtain ⟨b9,o9,rfl⟩:=h9 G
  obtain ⟨x9,hx9⟩:∃x,cx[i]?=some x:=⟨_,fY9 G⟩
  have hln:=bS9 hcx yC hx9
  have hxl:=cX8 hcx hx9
  obtain ⟨Ai,ni,ci,li⟩:=x9
  dsimp only at hln hxl
  refine bS D (cG D (bU (bJ (bX (eO qJ 0 D D D (W (cU D) D (dZ zC D D (eO cY1 1 D D D (bS D (W (bV (j:=i) cP0 D D G) D (W (dH (k:=0) (v:=H Ai ni ci) cZ1 D (fun _ hm=>(hm.fact 3 D)) hx9 D D) D (W (dP bZ4 D) D (W (eT D D) D (bU ?_))))))))))))))
  refine cN D (fun hni=>?_) (fun hni=>?_)
  ·refine bX (cG D ?_)
   refine bO 6 (v':=J (-1)) D D (bU (bR (F (C (F (F (C (F ?_))))))))
   exact bQ D D fun wx hm=>⟨-1,D,⟨bD,.inl bD⟩,hm.g⟩
  refine bN (bG ?_)
  have hn0:zR (l.map (qZ cs sl)) i≠0:=G
  refine gd (fun wz=>Blk wz g7 140 [.pointer (some ⟨gx,0,none⟩)]/\True) mixed (fun _ hm=>⟨hm.bl 0,bB⟩) fun z=>wq 0 D (cH qJ D (fun _ hm=>hm.1) D) (wq 1 D (cH qJ D (fun _ hm=>hm.1) D) (wq 2 D (cU D) (wq 3 D (bW vK D D) (wq 5 D (bL D) ?_))))
  refine jC [4,6] bC D ⟨⟨_,D,?_⟩,⟨_,D,?_⟩,bB⟩
  ·refine eO kY 1 D D D (bH ?_)
   refine nw 11 63 (fun _ hm=>⟨hm.bl 0,bB⟩) fun z=>eD 6 D (jN 3 [I i] fun g21=>bH (nw 11 127 (fun _ hm=>⟨hm.bl 1,bB⟩) fun z=>eD 7 D (eP (news:= [I i]) 0 0 cX2 D D D D D D D G (by unfold maxLen;omega) D D fun v2 xK=>?_)))
   rw [show (List.range i).flatMap pW++([I i]:List Value)=(List.range (i+1)).flatMap pW from by rw [List.range_succ,List.flatMap_append];simp [pW]]
   refine eB (R:=∃A cc,v2=H A (i+1) cc) (fun wx hm=>dW (hm.ownI 0 D)) ?_
   rintro ⟨Ao,co,rfl⟩
   refine bH (nw 11 255 (fun _ hm=>⟨hm.bl 1,bB⟩) fun z=>wq 8 D (cU D) (wq 9 D (bW vK D D) (eD 10 D (fX 2 kY D D D D D D (bH (nw 11 2047 (fun _ hm=>⟨hm.bl 1,bB⟩) fun z=>gY (bK (bG (bM (fY D D (bS D (bH ?_))))))))))))
   exact cQ (i+1,H Ao (i+1) co) ⟨bE,fun j hj=>by
    by_cases e:j=i
    ·rw [e];omega
    exact hne j (by dsimp only at hj;omega)⟩ bE ⟨D,D,D,(cP G),bB⟩ (fun _ hm=>hm.pick [1,2] [0,1] [0,1,2,3,4] D D)
  refine jN 3 [I i] fun g22=>bH (nw 11 111 (fun _ hm=>⟨hm.bl 1,bB⟩) fun z=>eD 4 D (eO kY 2 D D D (bH (nw 11 127 (fun _ hm=>⟨hm.bl 1,bB⟩) fun z=>eD 7 D (eP (news:= [I i]) 0 0 cX2 D D D D D D D G (by unfold maxLen;omega) D D fun v2 xK=>?_)))))
  rw [show (List.range i).flatMap pW++([I i]:List Value)=(List.range (i+1)).flatMap pW from by rw [List.range_succ,List.flatMap_append];simp [pW]]
  refine eB (R:=∃A cc,v2=H A (i+1) cc) (fun wx hm=>dW (hm.ownI 0 D)) ?_
  rintro ⟨Ao,co,rfl⟩
  refine bH (nw 11 255 (fun _ hm=>⟨hm.bl 1,bB⟩) fun z=>wq 8 D (cU D) (wq 9 D (bW vK D D) (eD 10 D (fX 2 kY D D D D D D (bH (nw 11 2047 (fun _ hm=>⟨hm.bl 1,bB⟩) fun z=>gY (bK (bG (bM (fY D D (bS D (bH ?_))))))))))))
  exact cQ (i+1,H Ao (i+1) co) ⟨bE,fun j hj=>by
   by_cases e:j=i
   ·rw [e];omega
   exact hne j (by dsimp only at hj;omega)⟩ bE ⟨D,D,D,(cP G),bB⟩ (fun _ hm=>hm.pick [1,2] [0,1] [0,1,2,3,4] D D)
 refine dD (bI (bI (bY (bG (bX ?_)))))
 have hin2:i=n:=G
 subst hin2
 refine eB (R:=∃A cc,v=H A i cc) (fun wx hm=>dW (hm.ownI 0 D)) ?_
 rintro ⟨Ao,co,rfl⟩
 obtain ⟨OD,hOD⟩:∃z,z=fH1 (l.map (qZ cs sl)) i:=⟨_,rfl⟩
 have hOp:OD.Perm (List.range l.length):=by rw [hOD,hlen];exact dY7 _ _
 have hOl:OD.length=i:=by rw [hOp.length_eq,List.length_range];exact hlen
 have hOm:∀j∈OD,j < i:=fun j hj=>by have:=List.mem_range.1 (hOp.mem_iff.1 hj);omega
 have hlm:∀q,q < i->wP l q∈l:=fun q h=>by rw [nZ (fY9 G)];exact List.getElem_mem _
 refine eO qJ 0 D D D (W (cU D) D (dZ vK D D (eO kY 1 D D D (W (pL D D) D ?_))))
 by_cases h0:i=0
 ·refine cR (v:= .tuple #[]) D eJ8 D D (fun wx hm=>(by subst h0;exact dX3 Ao co g7 wx)) ?_
  rw [show (List.range i).flatMap pW=OD.flatMap pW from by rw [List.length_eq_zero_iff.1 (hOl.trans h0),h0];rfl]
  refine bU (bJ (gd (fun wz=>Blk wz g7 140 [.pointer (some ⟨gx,0,none⟩)]/\True) mixed (fun _ hm=>⟨hm.bl 0,bB⟩) fun z=>wq 0 D (cH qJ D (fun _ hm=>hm.1) D) (wq 1 D (bL D) (wq 2 D (dP pU D) (wq 3 D (ov_add D D G G) (eD 4 D ?_))))))
  refine gP (n:=(i+1)) (sz:=1) (e:=3) (by_:=8) (z:=J 0) bC bC D D G G G (by unfold maxLen;omega) (fU (enc:=gS) (x:=(0:Int)) D D bD (i+1)) D fun g23=>?_
  refine bH (nw 8 31 (fun _ hm=>⟨hm.bl 0,bB⟩) fun z=>wq 5 D (cU D) (wq 6 D (bW wC D D) (eD 7 D (fX 1 kY D D D D D D (bH (nw 8 255 (fun _ hm=>⟨hm.bl 0,bB⟩) fun z=>gY (bG (bJ (bX (bS D (W (dP pU D) D (W (ov_sub D D G G) D (cG D (bU (bP ?_)))))))))))))))
  refine dS (γ:=Nat×List Int) (fun (gr9:Nat×List Int)=>gr9.1<=i/\bO4 gr9.2 (i+1) (1000 *(i - gr9.1))) (fun (gr9:Nat×List Int)=> [(7,.pointer (some ⟨g7,0,none⟩)),(9,J (((gr9.1:Nat):Int) - 1))]) (fun (gr9:Nat×List Int)=>fun _=>True) (fun (gr9:Nat×List Int)=> [(g7,140, [.pointer (some ⟨gx,0,none⟩)]),(gx,144, [H A i c,H A9 i c9,H Ao i co,H (some ⟨gc,0,none⟩) i i,H none 0 0,H (some ⟨g23,0,none⟩) (i+1) (i+1),J (-1)])]) (fun (gr9:Nat×List Int)=> [⟨H (some ⟨g23,0,none⟩) (i+1) (i+1),3,1,(i+1),gr9.2.flatMap gS⟩,⟨H Ao i co,3,1,i,OD.flatMap pW⟩,⟨H (some ⟨gc,0,none⟩) i i,9,1,i,(List.replicate (i) (⟨#[]⟩:M)).flatMap dU⟩]) (fun (gr9:Nat×List Int)=> [bT dQ 2 53 w.heap.size none A0 n0 cs,bT jA 2 57 w.heap.size none A1 n1 sl,bT eV 6 87 w.heap.size none A i l,fun wy=>SlT eQ 1 147 wy A9 i cx,fun wy=>nX 146 cx wy]) (fun (gr9:Nat×List Int)=>gr9.1) (i,(List.replicate (i+1) (0:Int))) ⟨Nat.le_refl _,bO4.zero _ _⟩ ⟨D,D,bB⟩ (fun _ hm=>hm.pick [0,1] [0,1,2] [0,1,2,3,4] D D) ?_
  rintro ⟨j,re⟩ bZ
  replace bZ:j<=i/\bO4 re (i+1) (1000 *(i - j)):=bZ
  dsimp only
  refine bJ (bX ?_)
  obtain ⟨hj0,hre⟩:=bZ
  refine bS D (W (mE D D) D (bU ?_))
  refine cN D (fun hj=>?_) (fun hj=>?_)
  ·refine bN (bG (bJ (bP ?_)))
   obtain ⟨k,rfl⟩:∃k,j=k+1:=⟨j - 1,G⟩
   have ek:(((k+1:Nat):Int) - 1)=((k:Nat):Int):=G
   have hki:k < i:=G
   refine kR 9 (v':=I k) D (fX9 ek) ?_
   exact absurd hki G
  refine dD (bI (bI (bY (bG (bX ?_)))))
  have hj0:j=0:=G
  subst hj0
  refine eO qJ 0 D D D ?_
  refine fW (γ:=List M×Int) (val:=fun _=> .tuple #[]) (φ:=fun gg=> -1<=gg.2/\gg.2<=1000000) (K':=fun _=>fun _=>True) (L':=fun gg=> [(gx,144, [H A i c,H A9 i c9,H Ao i co,H (some ⟨gc,0,none⟩) i i,H none 0 0,H (some ⟨g23,0,none⟩) (i+1) (i+1),J gg.2]),(g7,140, [.pointer (some ⟨gx,0,none⟩)])]) (O':=fun gg=> [⟨H (some ⟨gc,0,none⟩) i i,9,1,i,gg.1.flatMap dU⟩,⟨H Ao i co,3,1,i,OD.flatMap pW⟩,⟨H (some ⟨g23,0,none⟩) (i+1) (i+1),3,1,(i+1),re.flatMap gS⟩]) (X':=fun _=> [bT eV 6 87 w.heap.size none A i l]) D eB0 D D (fun wx hm=>(cY7 w l A i c cs sl A9 c9 cx OD Ao co re gx g7 gc g23 G (kK (hm.ownI 1 D)) hOl hre.1 hOm htm hcx hstp hchl (fun k hk=>by
   obtain ⟨r,h1,h2⟩:=hre.2 k G
   exact ⟨r,h1,G⟩) i 0 G 0 (-1) (List.replicate (i) (⟨#[]⟩:M)) wx (by rw [List.length_replicate]) G bD (hm.pick [1,0] [2,1,0] [2,3,4] D D).cy).mono fun _ _ ⟨cl2,b2,he,_,h2,hm2⟩=>⟨(cl2,b2),he,h2,(hm2.cy.pick [0,1] [0,1,2] [0] D D)⟩) ?_
  rintro ⟨cl2,b2⟩ hb2
  dsimp only at hb2 ⊢
  refine bU (bX (eO qJ 1 D D D (W (cU D) D (dZ bF5 D D (eO fM 0 D D D (cG D (bU (bR ?_))))))))
  exact bQ D D fun wx hm=>⟨_,D,⟨hb2.2,.inr (dJ6 G hne)⟩,hm.g⟩
 refine eB (R:=∃g,Ao=some ⟨g,0,none⟩) (fun wx hm=>rG (hm.ownI 0 D) G) ?_
 rintro ⟨go,rfl⟩
 rw [show (List.range i).flatMap pW=((List.range i).map fun k=>((k:Nat):Int)).flatMap gS from (eM2 _).symm]
 refine bB2 (v:= .tuple #[]) (xs':=OD.flatMap pW) 0 D D D eJ8 D D (fun wx hm=>(by have h:=dZ8 cx (l.map (qZ cs sl)) A9 i c9 g7 gx _ _ _ _ _ _ ((List.range i).map fun k=>((k:Nat):Int)) go i co _ wx (hm.ownI 0 rfl) (by simp) G ((hm.fact 3 rfl).farT (hm.ownI 0 rfl) bD) (hm.blkFar 0 0 rfl rfl) (hm.blkFar 1 0 rfl rfl) hcx yC (fun z hz=>by obtain ⟨q,hq,rfl⟩:=List.mem_map.1 hz;have:=List.mem_range.1 hq;omega);rw [eR6,<-hOD,eM2] at h;exact h)) ?_
 refine bU (bJ (gd (fun wz=>Blk wz g7 140 [.pointer (some ⟨gx,0,none⟩)]/\True) mixed (fun _ hm=>⟨hm.bl 0,bB⟩) fun z=>wq 0 D (cH qJ D (fun _ hm=>hm.1) D) (wq 1 D (bL D) (wq 2 D (dP pU D) (wq 3 D (ov_add D D G G) (eD 4 D ?_))))))
 refine gP (n:=(i+1)) (sz:=1) (e:=3) (by_:=8) (z:=J 0) bC bC D D G G G (by unfold maxLen;omega) (fU (enc:=gS) (x:=(0:Int)) D D bD (i+1)) D fun g24=>?_
 refine bH (nw 8 31 (fun _ hm=>⟨hm.bl 0,bB⟩) fun z=>wq 5 D (cU D) (wq 6 D (bW wC D D) (eD 7 D (fX 1 kY D D D D D D (bH (nw 8 255 (fun _ hm=>⟨hm.bl 0,bB⟩) fun z=>gY (bG (bJ (bX (bS D (W (dP pU D) D (W (ov_sub D D G G) D (cG D (bU (bP ?_)))))))))))))))
 refine dS (γ:=Nat×List Int) (fun (gr9:Nat×List Int)=>gr9.1<=i/\bO4 gr9.2 (i+1) (1000 *(i - gr9.1))) (fun (gr9:Nat×List Int)=> [(7,.pointer (some ⟨g7,0,none⟩)),(9,J (((gr9.1:Nat):Int) - 1))]) (fun (gr9:Nat×List Int)=>fun _=>True) (fun (gr9:Nat×List Int)=> [(g7,140, [.pointer (some ⟨gx,0,none⟩)]),(gx,144, [H A i c,H A9 i c9,H (some ⟨go,0,none⟩) i co,H (some ⟨gc,0,none⟩) i i,H none 0 0,H (some ⟨g24,0,none⟩) (i+1) (i+1),J (-1)])]) (fun (gr9:Nat×List Int)=> [⟨H (some ⟨g24,0,none⟩) (i+1) (i+1),3,1,(i+1),gr9.2.flatMap gS⟩,⟨H (some ⟨go,0,none⟩) i co,3,1,i,OD.flatMap pW⟩,⟨H (some ⟨gc,0,none⟩) i i,9,1,i,(List.replicate (i) (⟨#[]⟩:M)).flatMap dU⟩]) (fun (gr9:Nat×List Int)=> [bT dQ 2 53 w.heap.size none A0 n0 cs,bT jA 2 57 w.heap.size none A1 n1 sl,bT eV 6 87 w.heap.size none A i l,fun wy=>SlT eQ 1 147 wy A9 i cx,fun wy=>nX 146 cx wy]) (fun (gr9:Nat×List Int)=>gr9.1) (i,(List.replicate (i+1) (0:Int))) ⟨Nat.le_refl _,bO4.zero _ _⟩ ⟨D,D,bB⟩ (fun _ hm=>hm.pick [0,1] [0,1,2] [0,1,2,3,4] D D) ?_
 rintro ⟨j,re⟩ bZ
 replace bZ:j<=i/\bO4 re (i+1) (1000 *(i - j)):=bZ
 dsimp only
 refine bJ (bX ?_)
 obtain ⟨hj0,hre⟩:=bZ
 refine bS D (W (mE D D) D (bU ?_))
 refine cN D (fun hj=>?_) (fun hj=>?_)
 ·refine bN (bG (bJ (bP ?_)))
  obtain ⟨k,rfl⟩:∃k,j=k+1:=⟨j - 1,G⟩
  have ek:(((k+1:Nat):Int) - 1)=((k:Nat):Int):=G
  have hki:k < i:=G
  refine kR 9 (v':=I k) D (fX9 ek) ?_
  obtain ⟨b9,o9,rfl⟩:=h9 G
  obtain ⟨q,hq⟩:∃x,OD[k]?=some x:=⟨_,fY9 G⟩
  have hqi:=hOm q (fZ9 hq)
  obtain ⟨x9,hx9⟩:∃x,cx[q]?=some x:=⟨_,fY9 G⟩
  have hx9m:=fZ9 hx9
  have hln:=bS9 hcx yC hx9
  have hxl:=cX8 hcx hx9
  have hlnz:=hne q hqi
  obtain ⟨bi,oi,hAi⟩:=hin _ hx9m G
  obtain ⟨Ai,ni,ci,li⟩:=x9
  dsimp only at hln hxl hAi
  subst hAi
  have hlil:=yC _ hx9m
  dsimp only at hlil
  obtain ⟨e0,he0⟩:∃x,li[0]?=some x:=⟨_,fY9 G⟩
  have hsb:=hstp _ (hlm q hqi) e0 (by rw [<-hxl];exact fZ9 he0)
  obtain ⟨e1,e2,e3⟩:=e0
  dsimp only at hsb
  obtain ⟨r1,hg1,hr1⟩:=hre.2 (k+1) G
  obtain ⟨r9,hg9,hr9⟩:=hre.2 k G
  have hrl:=hre.1
  refine gd (fun wz=>Blk wz g7 140 [.pointer (some ⟨gx,0,none⟩)]/\Blk wz gx 144 [H A i c,H (some ⟨b9,o9,none⟩) i c9,H (some ⟨go,0,none⟩) i co,H (some ⟨gc,0,none⟩) i i,H none 0 0,H (some ⟨g24,0,none⟩) (i+1) (i+1),J (-1)]/\(fun wy=>SlT eQ 1 147 wy (some ⟨b9,o9,none⟩) i cx) wz/\(fun wy=>nX 146 cx wy) wz/\wz.ownsRow w.heap.size 3 1 (H (some ⟨go,0,none⟩) i co) i (OD.flatMap pW)/\True) mixed (fun _ hm=>⟨hm.bl 0,hm.bl 1,hm.fa 3,hm.fa 4,hm.ownI 1 D,bB⟩) fun z=>wq 0 D (cH qJ D (fun _ hm=>hm.1) D) (wq 1 D (cU D) (wq 2 D (bW wC D D) (wq 3 D (cH kY D (fun _ hm=>hm.2.1) D) (wq 4 D (bL D) (wq 5 D (cH qJ D (fun _ hm=>hm.1) D) (wq 6 D (cU D) (wq 7 D (bW wC D D) (wq 8 D (cH kY D (fun _ hm=>hm.2.1) D) (wq 9 D (bL D) (wq 10 D (ov_add D D G G) (dI 75 (v':=I (k+1)) D (fX9 G) (wq 11 D (bV (j:=k+1) kF D D G) (wq 13 D (cH qJ D (fun _ hm=>hm.1) D) (wq 14 D (cU D) (wq 15 D (bW zC D D) (wq 16 D (cH cY1 D (fun _ hm=>hm.2.1) D) (wq 17 D (cH qJ D (fun _ hm=>hm.1) D) (wq 18 D (cU D) (wq 19 D (bW vK D D) (wq 20 D (cH kY D (fun _ hm=>hm.2.1) D) (wq 21 D (bL D) (wq 22 D (bV (j:=k) kF D D G) (wq 23 D (dH (k:=0) (v:=I q) fM D (fun _ hm=>(SlT.ofOwn dQ5 (hm.2.2.2.2.1) hOl)) hq D D) (wq 24 D (bV (j:=q) cP0 D D G) (wq 25 D (dH (k:=0) (v:=H (some ⟨bi,oi,none⟩) ni ci) cZ1 D (fun _ hm=>(hm.2.2.1)) hx9 D D) (wq 26 D (bV (j:=0) bZ4 D D G) (wq 27 D (bW bH5 D D) (wq 28 D (dH (k:=1) (v:=I e2) fM D (fun _ hm=>((hm.2.2.2.1) _ hx9m)) he0 D D) ?_))))))))))))))))))))))))))))
  refine eD 12 D (W (dH (k:=0) (v:=I r1) fM D (fun _ hm=>(SlT.ofOwn xL (hm.ownI 0 D) hrl)) hg1 D D) D (bH (nw 32 536870911 (fun _ hm=>⟨hm.bl 0,hm.bl 1,hm.fa 3,hm.fa 4,hm.ownI 1 D,bB⟩) fun z=>wq 29 D (ov_add D D G G) (dI 94 (v':=I ((r1+e2))) D (fX9 G) (wq 30 D (bV (j:=k) kF D D G) (eD 31 D (jG (l:=re) (j:=k) (r:=0) (el:=((r9:Nat):Int)) (el':=((r1+e2:Nat):Int)) 0 fM D D D D xL D hg9 hrl (show 0 < 1 by decide) D D (bH (nw 32 4294967295 (fun _ hm=>⟨hm.bl 0,hm.bl 1,hm.fa 3,hm.fa 4,hm.ownI 1 D,bB⟩) fun z=>gY (bK (bG (bM (bS D (W (ov_sub D D G G) D (cG D (bH ?_))))))))))))))))
  exact cQ (k,re.set k ((r1+e2:Nat):Int)) ⟨bE,hre.set G _ _ G⟩ bE ⟨D,D,bB⟩ (fun _ hm=>hm.pick [0,1] [0,1,2] [0,1,2,3,4] D D)
 refine dD (bI (bI (bY (bG (bX ?_)))))
 have hj0:j=0:=G
 subst hj0
 refine eO qJ 0 D D D ?_
 refine fW (γ:=List M×Int) (val:=fun _=> .tuple #[]) (φ:=fun gg=> -1<=gg.2/\gg.2<=1000000) (K':=fun _=>fun _=>True) (L':=fun gg=> [(gx,144, [H A i c,H A9 i c9,H (some ⟨go,0,none⟩) i co,H (some ⟨gc,0,none⟩) i i,H none 0 0,H (some ⟨g24,0,none⟩) (i+1) (i+1),J gg.2]),(g7,140, [.pointer (some ⟨gx,0,none⟩)])]) (O':=fun gg=> [⟨H (some ⟨gc,0,none⟩) i i,9,1,i,gg.1.flatMap dU⟩,⟨H (some ⟨go,0,none⟩) i co,3,1,i,OD.flatMap pW⟩,⟨H (some ⟨g24,0,none⟩) (i+1) (i+1),3,1,(i+1),re.flatMap gS⟩]) (X':=fun _=> [bT eV 6 87 w.heap.size none A i l]) D eB0 D D (fun wx hm=>(cY7 w l A i c cs sl A9 c9 cx OD (some ⟨go,0,none⟩) co re gx g7 gc g24 G (kK (hm.ownI 1 D)) hOl hre.1 hOm htm hcx hstp hchl (fun k hk=>by
  obtain ⟨r,h1,h2⟩:=hre.2 k G
  exact ⟨r,h1,G⟩) i 0 G 0 (-1) (List.replicate (i) (⟨#[]⟩:M)) wx (by rw [List.length_replicate]) G bD (hm.pick [1,0] [2,1,0] [2,3,4] D D).cy).mono fun _ _ ⟨cl2,b2,he,_,h2,hm2⟩=>⟨(cl2,b2),he,h2,(hm2.cy.pick [0,1] [0,1,2] [0] D D)⟩) ?_
 rintro ⟨cl2,b2⟩ hb2
 dsimp only at hb2 ⊢
 refine bU (bX (eO qJ 1 D D D (W (cU D) D (dZ bF5 D D (eO fM 0 D D D (cG D (bU (bR ?_))))))))
 exact bQ D D fun wx hm=>⟨_,D,⟨hb2.2,.inr (dJ6 G hne)⟩,hm.g⟩
def bM5(p:Bk×Gv):Bool:=p.1.key.toList==p.2.bk.toList
def bO5(l:List Bk)(g:List Gv):Bool:=decide (l.length=g.length)&&(l.zip g).all bM5
theorem eM4{l:List Bk}{g:List Gv}{i:Nat}{x:Bk}{y:Gv}(hx:l[i]?=some x)(hy:g[i]?=some y):(l.zip g)[i]?=some (x,y):=by
 rw [List.getElem?_zip_eq_some];exact ⟨hx,hy⟩
theorem eU4{z:List (Bk×Gv)}{i:Nat}{x:Bk×Gv}(h:z[i]?=some x):(z.take (i+1)).all bM5=((z.take i).all bM5&&bM5 x):=by
 rw [List.take_add_one,h,Option.toList_some,List.all_append];simp
theorem eV4{z:List (Bk×Gv)}{i:Nat}{x:Bk×Gv}(h:z[i]?=some x)(hx:bM5 x=false):z.all bM5=false:=by
 cases h0:z.all bM5 with
 |false=>rfl
 |true=>rw [List.all_eq_true.1 h0 x (fZ9 h)] at hx;cases hx
theorem dI8{cs:List Cs}{sl:List Sk}{l:List Bk}(h:dK [qF cs sl,gC cs l]=0):eR cs=0/\uO l=0/\∀b∈l,xY cs b.cls=false:=by
 have h2:=(uZ h).2
 unfold gC at h2
 obtain ⟨h3,h4⟩:=uZ h2
 unfold nH at h4
 split at h4
 ·rename_i h5;exact absurd h4 h5
 ·rename_i h5
  split at h4
  ·cases h4
  ·rename_i h6
   refine ⟨h3,by simpa using h5,fun b hb=>?_⟩
   cases h7:xY cs b.cls with
   |false=>rfl
   |true=>exact absurd (List.any_eq_true.2 ⟨b,hb,h7⟩) h6
theorem eH6{cs:List Cs}{a b:M}(hc:eR cs=0)(ha:xY cs a=false)(hb:xY cs b=false):uH cs [a,b]=0:=by
 unfold xY at ha hb
 unfold uH
 rw [if_neg (by rw [hc];decide),if_neg]
 simp [ha,hb]
theorem dS0(cs:List Cs)(A0:Option Addr)(n0 c0:Nat)(ka kb:M)(w:World)(hcs:SlT dQ 2 53 w A0 n0 cs)(pI:∀x∈cs,pR x)(hn0:n0<=1000)(hb:uH cs [ka,kb]=0):
 Calls prog 36 #[H A0 n0 c0,U ka,U kb] w (fun e w'=>e=.returned (.tuple #[J (max (vJ cs ka kb) 0),.bool (decide (0<=vJ cs ka kb))])/\w.grownBy w' none):=by
 refine cY ⟨21,w,none, []⟩ func36 D ntmps36 D (fZ (X:= [bT dQ 2 53 w.heap.size none A0 n0 cs]) (cC hcs.old cZ) (cE bT.lasts dA)) (bX (cG D (cG D (bU (bX (bS D (bS D (bS D (cR D fX7 D D (fun wx hm=>(dT0 cs A0 n0 c0 ka kb wx (hm.fact 0 D).1 pI G hb)) (bS D (W (cV D D) D (W (cV D D) D (W (cV D D) D (cG D (cG D (cG D (bU (bX (bS D (bS D (cG D (cG D (bU (bR ?_))))))))))))))))))))))))
 refine nU D D D fun wx hm=>?_
 exact ⟨D,hm.g⟩
theorem cR8(b0 b1:M)(b2 b3 b4 b5:Int)(q0 q1:M)(q2:Int)(w:World):
 Calls prog 35 #[.agg #[U b0,U b1,J b2,J b3,J b4,J b5],.agg #[U q0,U q1,J q2]] w (fun e w'=>e=.returned (.bool (bM5 ((⟨b0,b1,b2,b3,b4,b5⟩:Bk),(⟨q0,q1,q2⟩:Gv))))/\w.grownBy w' none):=by
 refine cY ⟨10,w,none, []⟩ func35 D ntmps35 D (fZ (X:= []) cZ dA) (bX (fS D D D fun g1=>fS D D D fun g2=>cG D (bU (bX (dZ bO1 D D (eO fR 1 D D D (dZ eR5 D D (eO fR 0 D D D (W (eS D D) D (cG D (bU (bR ?_))))))))))))
 exact bQ D D fun wx hm=>⟨D,hm.g⟩
theorem dB2(l:List Bk)(A:Option Addr)(n c:Nat)(g:List Gv)(G':Option Addr)(gn gc:Nat)(w:World)(hl:SlT eV 6 87 w A n l)(hn:n<=1000)(hg:SlT pV 3 115 w G' gn g)(hgn:gn<=1000):
 Calls prog 34 #[H A n c,H G' gn gc,.func (.func 35) #[] #[]] w (fun e w'=>e=.returned (.bool (bO5 l g))/\w.grownBy w' none):=by
 refine cY ⟨32,w,none, []⟩ func34 D ntmps34 D (fZ (X:= [bT eV 6 87 w.heap.size none A n l,bT pV 3 115 w.heap.size none G' gn g]) (cC hl.old (cC hg.old cZ)) (cE bT.lasts (cE bT.lasts dA))) (bX ?_)
 have hll:=hl.len
 have hgl:=hg.len
 refine cG D (bU (bJ (bX (bS D (W (dP pU D) D (bS D (W (dP cX5 D) D (W (gN D D) D (bU ?_)))))))))
 refine gL D (fun hne=>?_) (fun hne=>?_)
 ·refine bX ?_
  have hK:bO5 l g=false:=by unfold bO5;rw [decide_eq_false G];rfl
  refine cG D (bU (bR (F ?_)))
  exact bQ D D fun wx hm=>⟨by rw [hK],hm.g⟩
 refine bN (bG (bJ (bX ?_)))
 obtain rfl:n=gn:=G
 have hzl:(l.zip g).length=n:=by rw [List.length_zip];omega
 have hK0:bO5 l g=(l.zip g).all bM5:=by unfold bO5;rw [decide_eq_true G,Bool.true_and]
 refine bS D (W (dP pU D) D (bS D (bU (bP ?_))))
 refine dS (γ:=Nat) (fun (i:Nat)=>i<=n/\((l.zip g).take i).all bM5=true) (fun (i:Nat)=> [(1,H G' n gc),(2,.func (.func 35) #[] #[]),(15,H A n c),(16,I n),(17,I i)]) (fun (i:Nat)=>fun _=>True) (fun (i:Nat)=> []) (fun (i:Nat)=> []) (fun (i:Nat)=> [bT eV 6 87 w.heap.size none A n l,bT pV 3 115 w.heap.size none G' n g]) (fun (i:Nat)=>n - i) 0 ⟨Nat.zero_le _,D⟩ ⟨D,D,D,D,D,bB⟩ (fun _ hm=>hm.pick [] [] [0,1] D D) ?_
 intro i bZ
 replace bZ:i<=n/\((l.zip g).take i).all bM5=true:=bZ
 refine bX ?_
 obtain ⟨hi0,qD⟩:=bZ
 refine W (dF D D) D (bU (bJ ?_))
 refine cN D (fun hi=>?_) (fun hi=>?_)
 ·refine bN (bG (bJ (bP (bX ?_))))
  obtain ⟨gb,dL2,hA,_,_⟩:=hg.get G
  subst hA
  obtain ⟨ab,aoff,hA,_,_⟩:=hl.get G
  subst hA
  obtain ⟨gx,hgx⟩:∃x,g[i]?=some x:=⟨_,fY9 G⟩
  obtain ⟨q0,q1,q2⟩:=gx
  obtain ⟨bx,hbx⟩:∃x,l[i]?=some x:=⟨_,fY9 G⟩
  obtain ⟨b0,b1,b2,b3,b4,b5⟩:=bx
  have hz:=eM4 hbx hgx
  have hat:=eU4 hz
  rw [qD,Bool.true_and] at hat
  refine bS D (W (bV (j:=i) pU D D G) D (W (dR (vs:= [U b0,U b1,J b2,J b3,J b4,J b5]) bZ1 D (fun _ hm=>(hm.fact 0 D).1) hbx D D) D (dM dM1 D fun g1=>cG D (kE (cs':= [U b0,U b1,J b2,J b3,J b4,J b5]) 0 bZ1 D D D D (bU (bX (bS D (bS D (W (bV (j:=i) cX5 D D G) D (W (dR (vs:= [U q0,U q1,J q2]) bC6 D (fun _ hm=>(hm.fact 1 D).1) hgx D D) D (dM dL6 D fun g2=>kE (cs':= [U q0,U q1,J q2]) 0 bC6 D D D D (bU (bX (bS D (W (dG bZ1 D (fun _ hm=>hm.blkI 1 D) D D) D (W (dG bC6 D (fun _ hm=>hm.blkI 0 D) D D) D (cR D fI7 D D (fun wx hm=>(cR8 b0 b1 b2 b3 b4 b5 q0 q1 q2 wx)) (W (cS D) D (bU ?_)))))))))))))))))))
  rcases Bool.eq_false_or_eq_true (!(bM5 ((⟨b0,b1,b2,b3,b4,b5⟩:Bk),(⟨q0,q1,q2⟩:Gv)))) with hq|hq
  ·refine kR 30 D (fW9 hq) ?_
   refine mT D (bX (cG D (bU (bR (C (F (F (C (F ?_)))))))))
   have hk:bM5 ((⟨b0,b1,b2,b3,b4,b5⟩:Bk),(⟨q0,q1,q2⟩:Gv))=false:=by simpa using hq
   have hK:bO5 l g=false:=by rw [hK0];exact eV4 hz hk
   exact bQ D D fun wx hm=>⟨by rw [hK],hm.g⟩
  refine kR 30 D (fW9 hq) (jK D (bN (bK (bG (bM (fY D D (bS D (bH ?_))))))))
  have hk:bM5 ((⟨b0,b1,b2,b3,b4,b5⟩:Bk),(⟨q0,q1,q2⟩:Gv))=true:=by simpa using hq
  exact cQ (i+1) ⟨by (try dsimp only);omega,by (try dsimp only);rw [hat,hk]⟩ (by (try dsimp only);omega) ⟨D,D,D,D,(cP G),bB⟩ (fun _ hm=>hm.pick [] [] [0,1] D D)
 refine dD (bI (bI (bY (bG (bX ?_)))))
 have hlt:(l.zip g).take i=l.zip g:=List.take_of_length_le G
 rw [hlt] at qD
 have hK:bO5 l g=true:=by rw [hK0];exact qD
 refine cG D (bU (bR ?_))
 exact bQ D D fun wx hm=>⟨by rw [hK],hm.g⟩
section
variable {cs:List Cs} {sl:List Sk} {l:List Bk}
structure GdS (cs:List Cs) (sl:List Sk) (l:List Bk) (o:List (M×Nat)):Prop where
 ch:∀i p,o[i]?=some p->(∃s,(p.1,s,mR sl p.1)∈qZ cs sl (wP l i))/\1<=p.2/\p.2<=mR sl p.1
 no:∀i j p,j < i->o[j]?=some p->o[i]?=some p->mtW (wnB (wP l j)) (wnB (wP l i))=false
theorem GdS.nil:GdS cs sl l []:=⟨fun _ _ h=>(by cases h),fun _ _ _ _ h=>(by cases h)⟩
theorem GdS.snoc{o:List (M×Nat)}(h:GdS cs sl l o)(hl:o.length<=l.length){c:M}{s u:Nat}(hc:(c,s,mR sl c)∈qZ cs sl (wP l o.length))(h1:1<=u)(h2:u<=mR sl c)(ht:dI9 (l.map wnB) o (wnB (wP l o.length)) c u=false):GdS cs sl l (o++ [(c,u)]):=by
 have hs:∀{i:Nat} {p:M×Nat},(o++ [(c,u)])[i]?=some p->o[i]?=some p/\i < o.length∨i=o.length/\p=(c,u):=fun {i p} hp=>by
  rcases Nat.lt_or_ge i o.length with hi|hi
  ·rw [List.getElem?_append_left hi] at hp;exact .inl ⟨hp,hi⟩
  ·rw [List.getElem?_append_right hi] at hp
   have h0:=(List.getElem?_eq_some_iff.1 hp).1
   rw [List.length_singleton] at h0
   have e:i=o.length:=G
   subst e
   rw [Nat.sub_self] at hp;cases hp
   exact .inr ⟨D,D⟩
 refine ⟨fun i p hp=>?_,fun i j p hj h3 h4=>?_⟩
 ·rcases hs hp with ⟨hp,_⟩|⟨rfl,rfl⟩
  ·exact h.ch i p hp
  ·exact ⟨⟨s,hc⟩,h1,h2⟩
 ·rcases hs h4 with ⟨h4,hi⟩|⟨rfl,rfl⟩
  ·rcases hs h3 with ⟨h3,_⟩|⟨rfl,_⟩
   ·exact h.no i j p hj h3 h4
   ·omega
  ·rcases hs h3 with ⟨h3,hi⟩|⟨rfl,_⟩
   ·have hb:l[j]?=some l[j]:=fY9 G
    have hq:((o.zip (l.map wnB)))[j]?=some ((c,u),wnB (wP l j)):=by
     rw [List.getElem?_zip_eq_some]
     exact ⟨h3,by rw [List.getElem?_map,nZ hb,hb];rfl⟩
    have:=List.any_eq_false.1 ht _ (fZ9 hq)
    simpa using this
   ·omega
theorem cM2{b:Bk}{k:CdW M}(h:k∈qZ cs sl b):k∈yB (mR sl) 0 (cT5 cs b):=(List.mem_filter.1 h).1
theorem eE4{b:Bk}(hcl:nY cs)(hk:0<=kL (nS b.cls) cs 0){u:M}(h:u∈cT5 cs b):xY cs u=false:=by
 have:0<=kL (nS u) cs 0:=by
  rcases List.mem_cons.1 h with rfl|h
  ·exact hk
  ·exact zV hcl _ _ u h
 unfold xY
 exact decide_eq_false G
theorem fG2{o:List (M×Nat)}{i:Nat}{x:Bk×Gv}(h:(l.zip (gvO l o))[i]?=some x):∃b p,l[i]?=some b/\o[i]?=some p/\x=(b,⟨b.key,p.1,(p.2:Int)⟩):=by
 obtain ⟨x1,x2⟩:=x
 rw [List.getElem?_zip_eq_some] at h
 obtain ⟨h1,h2⟩:=h
 dsimp only at h1 h2
 unfold gvO at h2
 rw [List.getElem?_map] at h2
 cases hz:(l.zip o)[i]? with
 |none=>rw [hz] at h2;cases h2
 |some q=>
  rw [hz] at h2;cases h2
  obtain ⟨q1,q2⟩:=q
  rw [List.getElem?_zip_eq_some] at hz
  obtain ⟨h3,h4⟩:=hz
  dsimp only at h3 h4
  rw [h1] at h3;cases h3
  exact ⟨x1,q2,h1,h4,D⟩
theorem GdS.top{o:List (M×Nat)}(h:GdS cs sl l o)(ho:o.length=l.length){c:M}(hc:eW cs cs.length c= [])(x:Int):onT (mY c l) x<=mR sl c:=by
 obtain ⟨I',hI⟩:∃z,z=(List.range l.length).filter fun i=>((wP l i).cls.toList==c.toList)&&inB x (wP l i).fr ((wP l i).to_ - 1):=⟨_,rfl⟩
 have hlen:∀n,n<=l.length->onT (mY c (l.take n)) x=((List.range n).filter fun i=>((wP l i).cls.toList==c.toList)&&inB x (wP l i).fr ((wP l i).to_ - 1)).length:=by
  intro n
  induction n with
  |zero=>intro _;rw [List.take_zero];rfl
  |succ n ih=>
   intro hn
   have hb:l[n]?=some l[n]:=fY9 G
   rw [eS2 hb,ih G,List.range_succ,List.filter_append,List.length_append,List.filter_cons,List.filter_nil,nZ hb]
   congr 1
   split <;> rfl
 have h0:=hlen l.length (Nat.le_refl _)
 rw [List.take_length,<-hI] at h0
 have hu:∀i∈I',∃p,o[i]?=some p/\p.1=c/\1<=p.2/\p.2<=mR sl c/\(wP l i).fr<=x/\x < (wP l i).to_:=fun i hi=>by
  rw [hI,List.mem_filter,List.mem_range,Bool.and_eq_true,nK] at hi
  obtain ⟨h1,h2,h3⟩:=hi
  have hp:o[i]?=some (o[i]'G):=fY9 G
  obtain ⟨⟨s,hs⟩,h4,h5⟩:=h.ch i _ hp
  obtain ⟨j,hj,_⟩:=cX7 _ _ _ (cM2 hs)
  have e:(wP l i).cls=c:=yW (by simpa using h2)
  have hm:(o[i]'G).1∈cT5 cs (wP l i):=fZ9 hj
  unfold cT5 at hm
  rw [e,hc,List.mem_singleton] at hm
  rw [hm] at h5
  exact ⟨_,hp,hm,h4,h5,G,G⟩
 have hb:∀y∈I'.map (fun i=>(o[i]?.getD (⟨#[]⟩,1)).2 - 1),y < mR sl c:=fun y hy=>by
  obtain ⟨i,hi,rfl⟩:=List.mem_map.1 hy
  obtain ⟨p,hp,_,h1,h2,_⟩:=hu i hi
  rw [hp,Option.getD_some];omega
 have hnd:(I'.map (fun i=>(o[i]?.getD (⟨#[]⟩,1)).2 - 1)).Pairwise (fun a b=>a≠b):=by
  rw [List.pairwise_map]
  have hl:I'.Pairwise (fun a b=>a < b):=by rw [hI];exact List.Pairwise.filter _ List.pairwise_lt_range
  refine hl.imp_of_mem fun {a b} ha hb hab e=>?_
  obtain ⟨p,hp,p1,p2,p3,p4,p5⟩:=hu a ha
  obtain ⟨q,hq,q1,q2,q3,q4,q5⟩:=hu b hb
  rw [hp,hq,Option.getD_some,Option.getD_some] at e
  have e2:p=q:=by
   obtain ⟨a1,a2⟩:=p
   obtain ⟨b1,b2⟩:=q
   dsimp only at *
   rw [p1,q1,show a2=b2 by omega]
  subst e2
  have:=h.no b a p hab hp hq
  unfold mtW wnB at this
  simp only [Bool.and_eq_false_iff,decide_eq_false_iff_not] at this
  omega
 have:=cR1 _ _ hb hnd
 rw [List.length_map] at this
 omega
end
theorem eA0{T:List (Int×Int)}(hT:cC0 T):0<=(pJ T 0 5761440).2/\(pJ T 0 5761440).2+1<=5761439/\(pJ T 0 5761440).1=(onT T (pJ T 0 5761440).2:Int)/\∀x,(pJ T x (x+1)).1=(onT T x:Int):=by
 have hs:∀(a b:Int),dR1 (onT T) (bN0 (a::vD a b T)) (pJ T a b):=fun a b=>cU3 (cE2 _) (by rw [wK];exact Nat.succ_pos _)
 have hm:∀{a b y:Int},y∈bN0 (a::vD a b T)->y=a∨∃t∈T,t.1=y/\a<=y/\y < b:=fun {a b y} hy=>by
  rw [dV8,List.mem_cons,cU0] at hy
  exact hy
 obtain ⟨h1,h2,_⟩:=hs 0 5761440
 have h3:0<=(pJ T 0 5761440).2/\(pJ T 0 5761440).2+1<=5761439:=by
  rcases hm h1 with h|⟨t,ht,h4,h5,h6⟩
  ·omega
  ·have:=hT t ht;omega
 refine ⟨h3.1,h3.2,h2.symm,fun x=>?_⟩
 obtain ⟨h1,h2,_⟩:=hs x (x+1)
 have e:(pJ T x (x+1)).2=x:=by
  rcases hm h1 with h|⟨t,ht,h4,h5,h6⟩
  ·exact h
  ·omega
 rw [e] at h2
 exact h2.symm
def WUf(w0:World)(l:List Bk)(A:Option Addr)(nb cb:Nat)(cs:List Cs)(sl:List Sk)(A9:Option Addr)(c9:Nat)(cx:List nB)(Ao:Option Addr)(co:Nat)(re:List Int)(g gc gu gr:Nat)(i:Nat):Prop:=∀(left:Nat) (cl:List M) (un:List Int) (ss:List (M×Nat)) (Y:World->Prop) (w:World),ss.length=i->cl.length=nb->un.length=nb->uS cl un ss->GdS cs sl l ss->(∀p∈ss,p.2<=1000)->left<=1000000->gB ⟨0,w0,none, [147,146]⟩ (fun _=>True) [(g,144, [H A nb cb,H A9 nb c9,H Ao nb co,H (some ⟨gc,0,none⟩) nb nb,H (some ⟨gu,0,none⟩) nb nb,H (some ⟨gr,0,none⟩) (nb+1) (nb+1),J 0])] [⟨H (some ⟨gc,0,none⟩) nb nb,9,1,nb,(cl).flatMap dU⟩,⟨H (some ⟨gu,0,none⟩) nb nb,3,1,nb,(un).flatMap gS⟩,⟨H Ao nb co,3,1,nb,(List.range nb).flatMap pW⟩,⟨H (some ⟨gr,0,none⟩) (nb+1) (nb+1),3,1,nb+1,re.flatMap gS⟩] [bT eV 6 87 w0.heap.size none A nb l,fun wy=>SlT eQ 1 147 wy A9 nb cx,fun wy=>nX 146 cx wy,Y] w->
 Calls prog 62 #[.pointer (some ⟨g,0,none⟩),I i,I left] w (fun e w'=>∃(v:Bool) (cl':List M) (un':List Int),e=.returned (.bool v)/\cl'.length=nb/\un'.length=nb/\(v=true->∃o:List (M×Nat),o.length=nb/\GdS cs sl l o/\uS cl' un' o)/\(v=false->uS cl' un' ss)/\gB ⟨0,w0,none, [147,146]⟩ (fun _=>True) [(g,144, [H A nb cb,H A9 nb c9,H Ao nb co,H (some ⟨gc,0,none⟩) nb nb,H (some ⟨gu,0,none⟩) nb nb,H (some ⟨gr,0,none⟩) (nb+1) (nb+1),J 0])] [⟨H (some ⟨gc,0,none⟩) nb nb,9,1,nb,(cl').flatMap dU⟩,⟨H (some ⟨gu,0,none⟩) nb nb,3,1,nb,(un').flatMap gS⟩,⟨H Ao nb co,3,1,nb,(List.range nb).flatMap pW⟩,⟨H (some ⟨gr,0,none⟩) (nb+1) (nb+1),3,1,nb+1,re.flatMap gS⟩] [bT eV 6 87 w0.heap.size none A nb l,fun wy=>SlT eQ 1 147 wy A9 nb cx,fun wy=>nX 146 cx wy,Y] w')
theorem dJ1(w0:World)(l:List Bk)(A:Option Addr)(nb cb:Nat)(cs:List Cs)(sl:List Sk)(A9:Option Addr)(c9:Nat)(cx:List nB)(Ao:Option Addr)(co:Nat)(re:List Int)(g gc gu gr:Nat)(i:Nat)(ih:i < nb->WUf w0 l A nb cb cs sl A9 c9 cx Ao co re g gc gu gr (i+1))(hi:i<=nb)(hn:nb<=1000)(pI:nb<=co)(hrl:re.length=nb+1)(htm:bH0 l)(hcx:cx.map nB.l=l.map (qZ cs sl))(hstp:∀b∈l,∀q∈qZ cs sl b,q.2.1<=1000/\q.2.2<=1000)(hchl:∀b∈l,(qZ cs sl b).length<=1000)(hre:∀k,k<=nb->∃r:Nat,re[k]?=some ((r:Nat):Int)/\r<=1000000):WUf w0 l A nb cb cs sl A9 c9 cx Ao co re g gc gu gr i:=by
 intro left cl un ss Y w hss hcl hun hst hgd hsb hleft hm
 refine cY ⟨136,w0,none, [147,146]⟩ func62 D ntmps62 D hm.cy (bX ?_)
 obtain ⟨rk,hrg,hrb⟩:=hre i hi
 have rN:=(hm.fact 0 rfl:bT eV 6 87 w0.heap.size none A nb l w).1
 have hlen:=rN.len
 have LastsY:Lasts2 w0.heap.size none [147,146] Y:=hm.l Y (fZ9 (i:=3) rfl)
 have hch9:SlT eQ 1 147 w A9 nb cx:=hm.fact 1 rfl
 have hchs:nX 146 cx w:=hm.fact 2 rfl
 have hcl9:=hch9.len
 refine cG D (bU (bJ (bX (bS D (bS D (W (cU D) D (dZ wC D D (eO kY 0 D D D (bS D (W (bV (j:=i) kF D D G) D (W (dH (k:=0) (v:=I rk) fM D (fun _ hm=>(SlT.ofOwn xL (hm.ownI 3 D) hrl)) hrg D D) D (W (dF D D) D (bU ?_)))))))))))))
 refine cN D (fun h1=>?_) (fun h1=>?_)
 ·refine bX (cG D (bU ?_))
  refine bR (F ?_)
  exact bQ D D fun wx hm=>⟨_,cl,un,D,hcl,hun,(fun h=>(by cases h)),fun _=>hst,(hm.pick [0] [0,1,2,3] [0,1,2,3] D D).cy⟩
 refine bN (bG (bJ (bX (bS D (bS D (W (cU D) D (dZ zB D D (eO dR3 0 D D D (W (dP pU D) D (W (eT D D) D (bU ?_)))))))))))
 refine cN D (fun h2=>?_) (fun h2=>?_)
 ·refine bX (cG D (bU ?_))
  refine bR (F ?_)
  exact bQ D D fun wx hm=>⟨_,cl,un,D,hcl,hun,(fun _=>⟨ss,G,hgd,hst⟩),(fun h=>(by cases h)),(hm.pick [0] [0,1,2,3] [0,1,2,3] D D).cy⟩
 refine bN (bG (bJ (bX ?_)))
 have hin:i < nb:=G
 obtain ⟨b0,hb0⟩:∃x,l[i]?=some x:=⟨_,fY9 G⟩
 have hbk:=nZ hb0
 obtain ⟨r1,hrg1,hrb1⟩:=hre (i+1) G
 refine eB (R:=∃g,Ao=some ⟨g,0,none⟩) (fun wx hm=>rG (hm.ownI 2 D) G) ?_
 rintro ⟨go,rfl⟩
 obtain ⟨b9,o9,hA,_,_⟩:=hch9.get G
 subst hA
 obtain ⟨x9,hx9⟩:∃x,cx[i]?=some x:=⟨_,fY9 G⟩
 have hx9l:=cX8 hcx hx9
 have hx9m:=fZ9 hx9
 have hs9:=hchs x9 hx9m
 obtain ⟨Ai,ni,ci,li⟩:=x9
 dsimp only at hx9l hs9
 have hni:=hs9.len
 have hx9b:=hx9l
 rw [hbk] at hx9l
 have hni1:ni<=1000:=by have h8:=hchl b0 (fZ9 hb0);rw [<-hx9l] at h8;omega
 have hstl:∀q∈li,q.2.1<=1000/\q.2.2<=1000:=by rw [hx9l];exact hstp b0 (fZ9 hb0)
 refine bS D (W (cU D) D (dZ zC D D (eO cY1 0 D D D (bS D (W (bV (j:=i) cP0 D D G) D (W (dH (k:=0) (v:=H Ai ni ci) cZ1 D (fun _ hm=>(hm.fact 1 D)) hx9 D D) D (W (dP bZ4 D) D (bS D (bU (bP ?_))))))))))
 refine dS (γ:=Nat×List M×List Int) (fun (gq:Nat×List M×List Int)=>gq.1<=ni/\gq.2.1.length=nb/\gq.2.2.length=nb/\uS gq.2.1 gq.2.2 ss) (fun (gq:Nat×List M×List Int)=> [(0,.pointer (some ⟨g,0,none⟩)),(1,I i),(2,I left),(34,H Ai ni ci),(35,I ni),(36,I (gq.1))]) (fun (gq:Nat×List M×List Int)=>fun _=>True) (fun (gq:Nat×List M×List Int)=> [(g,144, [H A nb cb,H (some ⟨b9,o9,none⟩) nb c9,H (some ⟨go,0,none⟩) nb co,H (some ⟨gc,0,none⟩) nb nb,H (some ⟨gu,0,none⟩) nb nb,H (some ⟨gr,0,none⟩) (nb+1) (nb+1),J 0])]) (fun (gq:Nat×List M×List Int)=> [⟨H (some ⟨gc,0,none⟩) nb nb,9,1,nb,(gq.2.1).flatMap dU⟩,⟨H (some ⟨gu,0,none⟩) nb nb,3,1,nb,(gq.2.2).flatMap gS⟩,⟨H (some ⟨go,0,none⟩) nb co,3,1,nb,(List.range nb).flatMap pW⟩,⟨H (some ⟨gr,0,none⟩) (nb+1) (nb+1),3,1,nb+1,re.flatMap gS⟩]) (fun (gq:Nat×List M×List Int)=> [bT eV 6 87 w0.heap.size none A nb l,fun wy=>SlT eQ 1 147 wy (some ⟨b9,o9,none⟩) nb cx,fun wy=>nX 146 cx wy,Y]) (fun (gq:Nat×List M×List Int)=>ni - gq.1) (0,cl,un) ⟨Nat.zero_le _,hcl,hun,hst⟩ ⟨D,D,D,D,D,D,bB⟩ (fun _ hm=>hm.pick [0] [0,1,2,3] [0,1,2,3] D D) ?_
 rintro ⟨j,ce,ue⟩ bZ
 replace bZ:j<=ni/\ce.length=nb/\ue.length=nb/\uS ce ue ss:=bZ
 dsimp only
 refine bX ?_
 obtain ⟨hj0,hce,hue,hso⟩:=bZ
 refine W (dF D D) D (bU (bJ ?_))
 refine cN D (fun hj=>?_) (fun hj=>?_)
 ·refine bN (bG (bJ (bP (bX ?_))))
  obtain ⟨bi,oi,hA,_,_⟩:=hs9.get G
  subst hA
  obtain ⟨q,hq⟩:∃x,li[j]?=some x:=⟨_,fY9 G⟩
  have hqs:=hstl q (fZ9 hq)
  have hqc:=fZ9 hq
  rw [hx9b] at hqc
  have hqm:=(bM6 _ 0 q (List.mem_filter.1 hqc).1).2.2
  obtain ⟨c,sp,mm⟩:=q
  dsimp only at hqs hqm
  subst hqm
  refine W (bV (j:=j) bZ4 D D G) D (W (dR (vs:= [U c,I sp,I (mR sl c)]) cW4 D (fun _ hm=>((hm.fact 2 D) _ hx9m)) hq D D) D (yR (vs:= [U c,I sp,I (mR sl c)]) (cs':= [U c,I sp,I (mR sl c)]) eJ9 D cW4 (fun _=>D) (fun _=>D) D D D D fun g1=>bU (bJ (bJ ?_))))
  refine eY5 (Y:=fun wy=>Y wy/\Blk wy g1 146 [U c,I sp,I (mR sl c)]) (LastsY.and_ (BlkX.lasts D)) (fun wx hm=>⟨(hm.fact 3 D),hm.bl 0⟩) ?_
  refine gd (fun wz=>Blk wz g 144 [H A nb cb,H (some ⟨b9,o9,none⟩) nb c9,H (some ⟨go,0,none⟩) nb co,H (some ⟨gc,0,none⟩) nb nb,H (some ⟨gu,0,none⟩) nb nb,H (some ⟨gr,0,none⟩) (nb+1) (nb+1),J 0]/\(fun wy=>Y wy/\Blk wy g1 146 [U c,I sp,I (mR sl c)]) wz/\wz.ownsRow w0.heap.size 3 1 (H (some ⟨gr,0,none⟩) (nb+1) (nb+1)) (nb+1) (re.flatMap gS)/\True) mixed (fun _ hm=>⟨hm.bl 1,hm.fa 0,hm.ownI 3 D,bB⟩) fun z=>wq 0 D (bW bH5 D D) (wq 2 D (bL D) (wq 3 D (cU D) (wq 4 D (bW wC D D) (wq 5 D (cH kY D (fun _ hm=>hm.1) D) (wq 6 D (bL D) (wq 7 D (ov_add D D G G) (dI 47 (v':=I (i+1)) D (fX9 G) (wq 8 D (bV (j:=i+1) kF D D G) (wq 9 D (dH (k:=0) (v:=I r1) fM D (fun _ hm=>(SlT.ofOwn xL (hm.2.2.1) hrl)) hrg1 D D) (wq 11 D (bL D) (eD 1 D (W (cH (v:=I sp) fM D (fun _ hm=>(hm.fact 0 D).2) D) D (bH (nw 21 3071 (fun _ hm=>⟨hm.bl 1,hm.fa 0,hm.ownI 3 D,bB⟩) fun z=>wq 10 D (ov_add D D G G) (wq 12 D (eM D D) (wq 13 D (bL D) ?_))))))))))))))))
  rcases Bool.eq_false_or_eq_true (decide (((left:Nat):Int) < ((sp:Nat):Int)+((r1:Nat):Int))) with hb1|hb1
  ·refine dI 53 D (fW9 hb1) ?_
   replace hb1:=of_decide_eq_true hb1
   refine eL 14 D (eL 15 D (eL 16 D (eD 17 D (eE D (bH (nw 21 262143 (fun _ hm=>⟨hm.bl 1,hm.fa 0,hm.ownI 3 D,bB⟩) fun z=>eL 18 D (eL 19 D (wq 20 D (fG D D) (gY (bG (mT D (dD (bI (bY (bG (bM (fY D D (bS D (bH ?_)))))))))))))))))))
   exact cQ (j+1,ce,ue) ⟨bE,hce,hue,hso⟩ bE ⟨D,D,D,D,D,(cP G),bB⟩ (fun _ hm=>hm.pick [1] [0,1,2,3] [1,2,3,4] D D)
  refine dI 53 D (fW9 hb1) ?_
  replace hb1:=of_decide_eq_false hb1
  refine eU 14 D (bL D) (eU 15 D (bL D) (eU 16 D (bL D) (eD 17 D (eN D (W (dG (vs:= [U c,I sp,I (mR sl c)]) cW4 D (fun _ hm=>(hm.fact 0 D).2) D D) D (bH (nw 21 262143 (fun _ hm=>⟨hm.bl 1,hm.fa 0,hm.ownI 3 D,bB⟩) fun z=>eD 18 D (eN D ?_))))))))
  refine fK (γ:=Bool) (val:=(fun g=> .bool g)) (φ:=(fun g=>True)) (Y:=(fun g=>fun _=>True)) D eK8 D D (fun wx hm=>(cI5 l A nb cb (some ⟨go,0,none⟩) co (List.range nb) (some ⟨gc,0,none⟩) nb ce _ _ _ _ g i i c sp (mR sl c) wx (hm.blkI 1 D) (hm.fact 1 D).1 (SlT.ofOwn dQ5 (hm.ownI 2 D) (by simp)) (SlT.ofOwn mQ (hm.ownI 0 D) hce) hi hin hn pI (fun j hj=>List.mem_range.1 hj) htm).mono fun _ _ ⟨v,he,hg⟩=>⟨v,he,bB,hg,bB⟩) (fun _=>Lasts2.true_) ?_
  rintro RF mO
  clear mO
  refine bH (nw 21 524287 (fun _ hm=>⟨hm.bl 1,hm.fa 1,hm.ownI 3 D,bB⟩) fun z=>eU 19 D (cS D) (wq 20 D (eZ D D) (gY (bG ?_))))
  refine dE D (fun hh=>?_) (fun hh=>?_)
  ·have hrf:RF=false:=by simpa using hh
   refine dD (bI (bY (bG (bM (fY D D (bS D (bH ?_)))))))
   exact cQ (j+1,ce,ue) ⟨bE,hce,hue,hso⟩ bE ⟨D,D,D,D,D,(cP G),bB⟩ (fun _ hm=>hm.pick [1] [0,1,2,3] [2,3,4,5] D D)
  have hrf:RF=true:=by simpa using hh
  refine bN (bG (bX (cG D (bU (bJ (bX (bS D (bS D (bU (bP ?_))))))))))
  refine dS (γ:=Nat×Int) (fun (gk:Nat×Int)=>gk.1<=i/\0<=gk.2/\gk.2<=1000) (fun (gk:Nat×Int)=> [(0,.pointer (some ⟨g,0,none⟩)),(1,I i),(2,I left),(8,.pointer (some ⟨g1,0,none⟩)),(9,J gk.2),(34,H (some ⟨bi,oi,none⟩) ni ci),(35,I ni),(36,I j),(61,I i),(62,I (gk.1))]) (fun (gk:Nat×Int)=>fun _=>True) (fun (gk:Nat×Int)=> [(g,144, [H A nb cb,H (some ⟨b9,o9,none⟩) nb c9,H (some ⟨go,0,none⟩) nb co,H (some ⟨gc,0,none⟩) nb nb,H (some ⟨gu,0,none⟩) nb nb,H (some ⟨gr,0,none⟩) (nb+1) (nb+1),J 0])]) (fun (gk:Nat×Int)=> [⟨H (some ⟨gc,0,none⟩) nb nb,9,1,nb,(ce).flatMap dU⟩,⟨H (some ⟨gu,0,none⟩) nb nb,3,1,nb,(ue).flatMap gS⟩,⟨H (some ⟨go,0,none⟩) nb co,3,1,nb,(List.range nb).flatMap pW⟩,⟨H (some ⟨gr,0,none⟩) (nb+1) (nb+1),3,1,nb+1,re.flatMap gS⟩]) (fun (gk:Nat×Int)=> [fun wy=>Y wy/\Blk wy g1 146 [U c,I sp,I (mR sl c)],bT eV 6 87 w0.heap.size none A nb l,fun wy=>SlT eQ 1 147 wy (some ⟨b9,o9,none⟩) nb cx,fun wy=>nX 146 cx wy,Y]) (fun (gk:Nat×Int)=>i - gk.1) (0,0) ⟨Nat.zero_le _,bD,bD⟩ ⟨D,D,D,D,D,D,D,D,D,D,bB⟩ (fun _ hm=>hm.pick [1] [0,1,2,3] [1,2,3,4,5] D D) ?_
  rintro ⟨q,hv⟩ bZ
  replace bZ:q<=i/\0<=hv/\hv<=1000:=bZ
  dsimp only
  refine bX ?_
  obtain ⟨hq0,hv0,hv1⟩:=bZ
  refine W (dF D D) D (bU (bJ ?_))
  refine cN D (fun hq1=>?_) (fun hq1=>?_)
  ·refine bN (bG (bJ (bP (bX ?_))))
   obtain ⟨p,hp⟩:∃x,ss[q]?=some x:=⟨_,fY9 G⟩
   obtain ⟨hcp,hup⟩:=hso.at hp
   have hpb:=hsb _ (fZ9 hp)
   obtain ⟨p1,p2⟩:=p
   dsimp only at hcp hup hpb
   refine bS D (cG D (bU (bJ (gd (fun wz=>Blk wz g 144 [H A nb cb,H (some ⟨b9,o9,none⟩) nb c9,H (some ⟨go,0,none⟩) nb co,H (some ⟨gc,0,none⟩) nb nb,H (some ⟨gu,0,none⟩) nb nb,H (some ⟨gr,0,none⟩) (nb+1) (nb+1),J 0]/\(fun wy=>Y wy/\Blk wy g1 146 [U c,I sp,I (mR sl c)]) wz/\wz.ownsRow w0.heap.size 9 1 (H (some ⟨gc,0,none⟩) nb nb) nb ((ce).flatMap dU)/\True) mixed (fun _ hm=>⟨hm.bl 0,hm.fa 0,hm.ownI 0 D,bB⟩) fun z=>wq 0 D (bL D) (wq 1 D (cU D) (wq 2 D (bW xH D D) (wq 3 D (cH rX D (fun _ hm=>hm.1) D) (wq 4 D (bL D) (wq 5 D (bV (j:=q) mD D D G) (wq 6 D (dH (k:=0) (v:=U p1) fR D (fun _ hm=>(SlT.ofOwn mQ (hm.2.2.1) hce)) hcp D D) (wq 7 D (bW bG5 D D) (wq 8 D (cH (v:=U c) fR D (fun _ hm=>(hm.2.1).2) D) (wq 9 D (eS D D) (gY (bG ?_)))))))))))))))
   refine dE D (fun hh=>?_) (fun hh=>?_)
   ·have he:(p1.toList==c.toList)=true:=by simpa using hh
    refine bM (bS D (bS D (W (cU D) D (dZ bE5 D D (eO kY 0 D D D (bS D (W (bV (j:=q) kF D D G) D (W (dH (k:=0) (v:=I p2) fM D (fun _ hm=>(SlT.ofOwn xL (hm.ownI 1 D) hue)) hup D D) D (W (eV2 D D) D (cG D (bH (bK (bG (bM (fY D D (bS D (bH ?_)))))))))))))))))
    exact cQ (q+1,max hv ((p2:Nat):Int)) ⟨bE,bE,bE⟩ bE ⟨D,D,D,D,D,D,D,D,D,(cP G),bB⟩ (fun _ hm=>hm.pick [0] [0,1,2,3] [0,1,2,3,4] D D)
   have he:(p1.toList==c.toList)=false:=by simpa using hh
   refine bN (bK (bG (bM (fY D D (bS D (bH ?_))))))
   exact cQ (q+1,hv) ⟨bE,bE,bE⟩ bE ⟨D,D,D,D,D,D,D,D,D,(cP G),bB⟩ (fun _ hm=>hm.pick [0] [0,1,2,3] [0,1,2,3,4] D D)
  refine dD (bI (bI (bY (bG (bX (cG D (bU (bP ?_))))))))
  refine dS (γ:=Nat×List M×List Int) (fun (gz:Nat×List M×List Int)=>(1<=gz.1/\gz.1<=1002)/\gz.2.1.length=nb/\gz.2.2.length=nb/\uS gz.2.1 gz.2.2 ss) (fun (gz:Nat×List M×List Int)=> [(0,.pointer (some ⟨g,0,none⟩)),(1,I i),(2,I left),(8,.pointer (some ⟨g1,0,none⟩)),(9,J hv),(11,I (gz.1)),(34,H (some ⟨bi,oi,none⟩) ni ci),(35,I ni),(36,I j)]) (fun (gz:Nat×List M×List Int)=>fun _=>True) (fun (gz:Nat×List M×List Int)=> [(g,144, [H A nb cb,H (some ⟨b9,o9,none⟩) nb c9,H (some ⟨go,0,none⟩) nb co,H (some ⟨gc,0,none⟩) nb nb,H (some ⟨gu,0,none⟩) nb nb,H (some ⟨gr,0,none⟩) (nb+1) (nb+1),J 0])]) (fun (gz:Nat×List M×List Int)=> [⟨H (some ⟨gc,0,none⟩) nb nb,9,1,nb,(gz.2.1).flatMap dU⟩,⟨H (some ⟨gu,0,none⟩) nb nb,3,1,nb,(gz.2.2).flatMap gS⟩,⟨H (some ⟨go,0,none⟩) nb co,3,1,nb,(List.range nb).flatMap pW⟩,⟨H (some ⟨gr,0,none⟩) (nb+1) (nb+1),3,1,nb+1,re.flatMap gS⟩]) (fun (gz:Nat×List M×List Int)=> [fun wy=>Y wy/\Blk wy g1 146 [U c,I sp,I (mR sl c)],bT eV 6 87 w0.heap.size none A nb l,fun wy=>SlT eQ 1 147 wy (some ⟨b9,o9,none⟩) nb cx,fun wy=>nX 146 cx wy,Y]) (fun (gz:Nat×List M×List Int)=>1002 - gz.1) (1,ce,ue) ⟨⟨Nat.le_refl _,bE⟩,hce,hue,hso⟩ ⟨D,D,D,D,D,D,D,D,D,bB⟩ (fun _ hm=>hm.pick [0] [0,1,2,3] [0,1,2,3,4] D D) ?_
  rintro ⟨u,c5,u5⟩ bZ
  replace bZ:(1<=u/\u<=1002)/\c5.length=nb/\u5.length=nb/\uS c5 u5 ss:=bZ
  dsimp only
  refine bJ (bX ?_)
  obtain ⟨⟨hu1,hu2⟩,hc5,hu5,hs5⟩:=bZ
  refine bS D (bS D (fY D D (dZ dE5 D D (W (cH (v:=I (mR sl c)) fM D (fun _ hm=>(hm.fact 0 D).2) D) D (W (eW2 D D) D (W (mJ D D) D (bU ?_)))))))
  refine cN D (fun hum=>?_) (fun hum=>?_)
  ·refine bN (bG (bJ (bP (bJ (bX ?_)))))
   have hum2:u<=mR sl c/\u<=1001:=G
   obtain ⟨TK,hTK⟩:∃z,z=dI9 (l.map wnB) ss (wnB (wP l i)) c u:=⟨_,rfl⟩
   refine bS D (bS D (dZ bG5 D D (W (cH (v:=U c) fR D (fun _ hm=>(hm.fact 0 D).2) D) D (bS D (cR (v:= .bool TK) D fJ3 D D (fun wx hm=>(by rw [hTK];exact dG9 l A nb cb (some ⟨gc,0,none⟩) nb c5 (some ⟨gu,0,none⟩) nb u5 _ _ _ _ g i u c ss wx (hm.blkI 0 rfl) (hm.fact 1 rfl).1 (SlT.ofOwn mQ (hm.ownI 0 rfl) hc5) (SlT.ofOwn xL (hm.ownI 1 rfl) hu5) hs5 hss hin hn)) (bU ?_))))))
   refine dE D (fun hh=>?_) (fun hh=>?_)
   ·have htk:TK=true:=by simpa using hh
    refine dD (bI (bY (bG (bM (bS D (fY D D (cG D (bH ?_))))))))
    exact cQ (u+1,c5,u5) ⟨⟨bE,bE⟩,hc5,hu5,hs5⟩ bE ⟨D,D,D,D,D,(cP G),D,D,D,bB⟩ (fun _ hm=>hm.pick [0] [0,1,2,3] [0,1,2,3,4] D D)
   have htk:TK=false:=by simpa using hh
   refine bN (bG (bJ ?_))
   have hgn:GdS cs sl l (ss++ [(c,u)]):=hgd.snoc G (by rw [hss];exact hqc) hu1 hum2.1 (by rw [hss,<-hTK];exact htk)
   obtain ⟨c0,hc0⟩:∃x,c5[i]?=some x:=⟨_,fY9 G⟩
   obtain ⟨u0,hu0⟩:∃x,u5[i]?=some x:=⟨_,fY9 G⟩
   have hsn:=hs5.snoc (x:=c) (u:=u) G G
   rw [hss] at hsn
   have hmm5:u<=1000:=G
   refine gd (fun wz=>Blk wz g 144 [H A nb cb,H (some ⟨b9,o9,none⟩) nb c9,H (some ⟨go,0,none⟩) nb co,H (some ⟨gc,0,none⟩) nb nb,H (some ⟨gu,0,none⟩) nb nb,H (some ⟨gr,0,none⟩) (nb+1) (nb+1),J 0]/\(fun wy=>Y wy/\Blk wy g1 146 [U c,I sp,I (mR sl c)]) wz/\True) mixed (fun _ hm=>⟨hm.bl 0,hm.fa 0,bB⟩) fun z=>wq 0 D (bL D) (wq 1 D (cU D) (wq 2 D (bW xH D D) (wq 3 D (cH rX D (fun _ hm=>hm.1) D) (wq 4 D (bL D) (wq 5 D (bL D) (wq 6 D (cU D) (wq 7 D (bW bE5 D D) (wq 8 D (cH kY D (fun _ hm=>hm.1) D) (wq 9 D (bL D) (wq 10 D (bW bG5 D D) (wq 11 D (cH (v:=U c) fR D (fun _ hm=>(hm.2.1).2) D) (wq 12 D (bL D) (wq 13 D (bV (j:=i) mD D D G) (eD 14 D (jG (l:=c5) (j:=i) (r:=0) (el:=c0) (el':=c) 0 fR D D D D mQ D hc0 hc5 (show 0 < 1 by decide) D D (bH (nw 17 32767 (fun _ hm=>⟨hm.bl 0,hm.fa 0,bB⟩) fun z=>wq 15 D (bV (j:=i) kF D D G) (eD 16 D (jG (l:=u5) (j:=i) (r:=0) (el:=u0) (el':=((u:Nat):Int)) 1 fM D D D D xL D hu0 hu5 (show 0 < 1 by decide) D D (bH (nw 17 131071 (fun _ hm=>⟨hm.bl 0,hm.fa 0,bB⟩) fun z=>gY ?_)))))))))))))))))))))
   refine bG (bJ (bX (bS D (bS D (fY D D (bO 117 (v':=I (i+1)) D (fX9 G) (bS D (dZ bH5 D D (W (cH (v:=I sp) fM D (fun _ hm=>(hm.fact 0 D).2) D) D (W (ov_sub D D G G) D (bO 121 (v':=I (left - sp)) D (fX9 G) ?_)))))))))))
   refine fW (γ:=List M×List Int×Bool) (val:=fun gg=> .bool gg.2.2) (φ:=fun gg=>gg.1.length=nb/\gg.2.1.length=nb/\(gg.2.2=true->∃o:List (M×Nat),o.length=nb/\GdS cs sl l o/\uS gg.1 gg.2.1 o)/\(gg.2.2=false->uS gg.1 gg.2.1 (ss++ [(c,u)]))) (K':=fun _=>fun _=>True) (L':=fun _=> [(g,144, [H A nb cb,H (some ⟨b9,o9,none⟩) nb c9,H (some ⟨go,0,none⟩) nb co,H (some ⟨gc,0,none⟩) nb nb,H (some ⟨gu,0,none⟩) nb nb,H (some ⟨gr,0,none⟩) (nb+1) (nb+1),J 0])]) (O':=fun gg=> [⟨H (some ⟨gc,0,none⟩) nb nb,9,1,nb,(gg.1).flatMap dU⟩,⟨H (some ⟨gu,0,none⟩) nb nb,3,1,nb,(gg.2.1).flatMap gS⟩,⟨H (some ⟨go,0,none⟩) nb co,3,1,nb,(List.range nb).flatMap pW⟩,⟨H (some ⟨gr,0,none⟩) (nb+1) (nb+1),3,1,nb+1,re.flatMap gS⟩]) (X':=fun _=> [bT eV 6 87 w0.heap.size none A nb l,fun wy=>SlT eQ 1 147 wy (some ⟨b9,o9,none⟩) nb cx,fun wy=>nX 146 cx wy,fun wy=>Y wy/\Blk wy g1 146 [U c,I sp,I (mR sl c)]]) D fP4 D D (fun wx hm=>(ih hin (left - sp) (c5.set i c) (u5.set i ((u:Nat):Int)) (ss++ [(c,u)]) (fun wy=>Y wy/\Blk wy g1 146 [U c,I sp,I (mR sl c)]) wx (by rw [List.length_append,hss];rfl) (by rw [List.length_set];exact hc5) (by rw [List.length_set];exact hu5) hsn hgn (fun p hp=>by
    rcases List.mem_append.1 hp with hp|hp
    ·exact hsb p hp
    rw [List.mem_singleton.1 hp];exact hmm5) G ((hm.pick [0] [0,1,2,3] [1,2,3,0] rfl rfl).cy)).mono fun _ _ ⟨V,c7,u7,he,h1,h2,h3,h4,hm2⟩=>⟨(c7,u7,V),he,⟨h1,h2,h3,h4⟩,hm2.cy⟩) ?_
   rintro ⟨c7,u7,V⟩ ⟨hc7,hu7,hvs,hvn⟩
   dsimp only at hc7 hu7 hvs hvn ⊢
   refine bY9 (Y:=Y) (LastsY) (fun wx hm=>(hm.fact 3 D).1) ?_
   refine bU ?_
   refine dE D (fun hh=>?_) (fun hh=>?_)
   ·have hvv:V=true:=by simpa using hh
    refine bX (cG D (bU (bR (F (C (F (F (C (C (F (F (C (F ?_)))))))))))))
    exact bQ D D fun wx hm=>⟨_,c7,u7,D,hc7,hu7,(fun _=>hvs hvv),(fun h=>(by cases h)),(hm.pick [0] [0,1,2,3] [1,2,3,0] D D).cy⟩
   have hvv:V=false:=by simpa using hh
   refine bN (bG ?_)
   have hpre:=(hvn hvv).pre
   obtain ⟨c8,hc8⟩:∃x,c7[i]?=some x:=⟨_,fY9 G⟩
   obtain ⟨u8,hu8⟩:∃x,u7[i]?=some x:=⟨_,fY9 G⟩
   refine gd (fun wz=>Blk wz g 144 [H A nb cb,H (some ⟨b9,o9,none⟩) nb c9,H (some ⟨go,0,none⟩) nb co,H (some ⟨gc,0,none⟩) nb nb,H (some ⟨gu,0,none⟩) nb nb,H (some ⟨gr,0,none⟩) (nb+1) (nb+1),J 0]/\True) mixed (fun _ hm=>⟨hm.bl 0,bB⟩) fun z=>wq 0 D (bL D) (wq 1 D (cU D) (wq 2 D (bW xH D D) (wq 3 D (cH rX D (fun _ hm=>hm.1) D) (wq 4 D (bL D) (wq 5 D (bL D) (wq 6 D (cU D) (wq 7 D (bW bE5 D D) (wq 8 D (cH kY D (fun _ hm=>hm.1) D) (wq 9 D (bL D) (wq 10 D (bV (j:=i) mD D D G) (eD 11 D (jG (l:=c7) (j:=i) (r:=0) (el:=c8) (el':=⟨#[]⟩) 0 fR D D D D mQ D hc8 hc7 (show 0 < 1 by decide) D D (bH (nw 14 4095 (fun _ hm=>⟨hm.bl 0,bB⟩) fun z=>wq 12 D (bV (j:=i) kF D D G) (eD 13 D (jG (l:=u7) (j:=i) (r:=0) (el:=u8) (el':=0) 1 fM D D D D xL D hu8 hu7 (show 0 < 1 by decide) D D (bH (nw 14 16383 (fun _ hm=>⟨hm.bl 0,bB⟩) fun z=>gY (bK (bG (bM (bS D (fY D D (cG D (bH ?_)))))))))))))))))))))))))
   exact cQ (u+1,c7.set i ⟨#[]⟩,u7.set i 0) ⟨⟨bE,bE⟩,by dsimp only;rw [List.length_set];exact hc7,by dsimp only;rw [List.length_set];exact hu7,hpre.set G _ _⟩ bE ⟨D,D,D,D,D,(cP G),D,D,D,bB⟩ (fun _ hm=>hm.pick [0] [0,1,2,3] [4,1,2,3,0] D D)
  refine dD (bI (bI (bY (bK (bG (bM (fY D D (bS D (bH ?_)))))))))
  exact cQ (j+1,c5,u5) ⟨bE,hc5,hu5,hs5⟩ bE ⟨D,D,D,D,D,(cP G),bB⟩ (fun _ hm=>hm.pick [0] [0,1,2,3] [1,2,3,4] D D)
 refine dD (bI (bI (bY (bG (bX (cG D (bU (bR ?_))))))))
 exact bQ D D fun wx hm=>⟨_,ce,ue,D,hce,hue,(fun h=>(by cases h)),fun _=>hso,(hm.pick [0] [0,1,2,3] [0,1,2,3] D D).cy⟩
theorem dK6(w0:World)(l:List Bk)(A:Option Addr)(nb cb:Nat)(cs:List Cs)(sl:List Sk)(A9:Option Addr)(c9:Nat)(cx:List nB)(Ao:Option Addr)(co:Nat)(re:List Int)(g gc gu gr:Nat)(hn:nb<=1000)(pI:nb<=co)(hrl:re.length=nb+1)(htm:bH0 l)(hcx:cx.map nB.l=l.map (qZ cs sl))(hstp:∀b∈l,∀q∈qZ cs sl b,q.2.1<=1000/\q.2.2<=1000)(hchl:∀b∈l,(qZ cs sl b).length<=1000)(hre:∀k,k<=nb->∃r:Nat,re[k]?=some ((r:Nat):Int)/\r<=1000000):∀(d i:Nat),i+d=nb->WUf w0 l A nb cb cs sl A9 c9 cx Ao co re g gc gu gr i
 |0,i,h=>dJ1 w0 l A nb cb cs sl A9 c9 cx Ao co re g gc gu gr i (fun h2=>absurd h2 (by omega)) (by omega) hn pI hrl htm hcx hstp hchl hre
 |d+1,i,h=>dJ1 w0 l A nb cb cs sl A9 c9 cx Ao co re g gc gu gr i (fun _=>dK6 w0 l A nb cb cs sl A9 c9 cx Ao co re g gc gu gr hn pI hrl htm hcx hstp hchl hre d (i+1) (by omega)) (by omega) hn pI hrl htm hcx hstp hchl hre
theorem eC4{cs:List Cs}{sl:List Sk}{b:Bk}(hcl:nY cs)(hlo:uI cs cs.length=false)(hk:0<=kL (nS b.cls) cs 0)(hm:∀k,qM sl k<=100):∀q∈qZ cs sl b,q.2.2<=1000:=fun q hq=>by
 have h1:=(eZ8 (many:=mR sl) (zW hcl hlo hk)).1 q hq
 have h2:=hm q.1
 unfold mR at h1
 omega
theorem eG4{l:List Bk}{o:List (M×Nat)}{i:Nat}{b:Bk}{p:M×Nat}(h1:l[i]?=some b)(h2:o[i]?=some p):(gvO l o)[i]?=some ⟨b.key,p.1,(p.2:Int)⟩:=by
 unfold gvO
 rw [List.getElem?_map,dP4 h1 h2];rfl
theorem dC1(cs:List Cs)(A0:Option Addr)(n0 c0:Nat)(sl:List Sk)(A1:Option Addr)(n1 c1:Nat)(l:List Bk)(A:Option Addr)(n c:Nat)(w:World)(hcs:SlT dQ 2 53 w A0 n0 cs)(pI:∀x∈cs,pR x)(hn0:n0<=1000)(hs:SlT jA 2 57 w A1 n1 sl)(hso:∀x∈sl,cA0 x)(qV:n1<=1000)(hl:SlT eV 6 87 w A n l)(hn:n<=12)(hmany:∀k,qM sl k<=100)(hcl:nY cs)(hlo:uI cs cs.length=false)(h30:cs.length<=30)(hkeys:∀b∈l,uH cs [b.cls]=0)(htm:bH0 l):
 Calls prog 27 #[H A0 n0 c0,H A1 n1 c1,H A n c] w (fun e w'=>(e=.returned (.tuple #[H none 0 0,.bool false])∨∃(o:List (M×Nat)) (A':Option Addr) (c':Nat),o.length=n/\GdS cs sl l o/\e=.returned (.tuple #[H A' n c',.bool true])/\SlT pV 3 115 w' A' n (gvO l o)/\n<=c')/\w.grownBy w' none):=by
 refine cY ⟨119,w,none, [147,146]⟩ func27 D ntmps27 D (fZ (X:= [bT dQ 2 53 w.heap.size none A0 n0 cs,bT jA 2 57 w.heap.size none A1 n1 sl,bT eV 6 87 w.heap.size none A n l]) (cC hcs.old (cC hs.old (cC hl.old cZ))) (cE bT.lasts (cE bT.lasts (cE bT.lasts dA)))) (bX ?_)
 have hlen:=hl.len
 have hix:=dH1 hkeys
 have hstp:∀b∈l,∀q∈qZ cs sl b,q.2.1<=1000:=fun b hb=>cG5 hcl hlo h30 (hix b hb)
 have hstm:∀b∈l,∀q∈qZ cs sl b,q.2.1<=1000/\q.2.2<=1000:=fun b hb q hq=>⟨hstp b hb q hq,eC4 hcl hlo (hix b hb) hmany q hq⟩
 have hchl:∀b∈l,(qZ cs sl b).length<=1000:=fun b hb=>cF5 hcl hlo h30 (hix b hb)
 refine cG D (cG D (bU (bX (bS D (bS D (bS D ?_))))))
 refine fK (γ:=Int) (val:=(fun g=>J g)) (φ:=(fun g=>WFw cs sl l g)) (Y:=(fun g=>fun _=>True)) D fS7 D D (fun wx hm=>(dG1 cs A0 n0 c0 sl A1 n1 c1 l A n c wx (hm.fact 0 D).1 pI hn0 (hm.fact 1 D).1 hso qV (hm.fact 2 D).1 hn hcl hlo h30 hkeys htm).mono fun _ _ ⟨v,he,hv,hg⟩=>⟨v,he,hv,hg,bB⟩) (fun _=>Lasts2.true_) ?_
 rintro v hv
 refine cG D (bU (bJ (bX (bS D (W (dF D D) D (bU ?_))))))
 refine cN D (fun hvn=>?_) (fun hvn=>?_)
 ·refine bX (cG D (cG D (bU ?_)))
  refine bR (F ?_)
  refine nU D D D fun wx hm=>?_
  exact ⟨.inl D,hm.g⟩
 refine bN (bG ?_)
 have hnz:=hv.2.resolve_left hvn
 obtain ⟨k,rfl⟩:∃k:Nat,v=(k:Int):=⟨v.toNat,G⟩
 have hk6:k<=1000000:=by have:=hv.1;omega
 refine pB (γ:=Option Addr×Nat×List nB×Nat×Nat×Nat×Nat) (I':=(fun g=>g.2.2.1.map nB.l=l.map (qZ cs sl))) (S':=(fun g=> [(2,H A n c),(6,H none 0 0),(7,.bool false),(8,I k),(9,.pointer (some ⟨g.2.2.2.1,0,none⟩))])) (K':=(fun g=>fun _=>True)) (L':=(fun g=> [(g.2.2.2.1,144, [H A n c,H g.1 n g.2.1,H none 0 0,H (some ⟨g.2.2.2.2.1,0,none⟩) n n,H (some ⟨g.2.2.2.2.2.1,0,none⟩) n n,H (some ⟨g.2.2.2.2.2.2,0,none⟩) (n+1) (n+1),J 0])])) (O':=(fun g=> [⟨H (some ⟨g.2.2.2.2.1,0,none⟩) n n,9,1,n,(List.replicate (n) (⟨#[]⟩:M)).flatMap dU⟩,⟨H (some ⟨g.2.2.2.2.2.1,0,none⟩) n n,3,1,n,(List.replicate (n) (0:Int)).flatMap gS⟩,⟨H (some ⟨g.2.2.2.2.2.2,0,none⟩) (n+1) (n+1),3,1,(n+1),(List.replicate (n+1) (0:Int)).flatMap gS⟩])) (X':=(fun g=> [bT dQ 2 53 w.heap.size none A0 n0 cs,bT jA 2 57 w.heap.size none A1 n1 sl,bT eV 6 87 w.heap.size none A n l,fun wy=>SlT eQ 1 147 wy g.1 n g.2.2.1,fun wy=>nX 146 g.2.2.1 wy,fun _=>True])) ?_ ?_
 ·refine gd (fun wz=>True) mixed (fun _ _=>bB) fun z=>?_
  refine wq 0 D (bL D) (wq 1 D (bL D) (wq 2 D (bL D) (wq 3 D (bL D) (wq 5 D (bL D) (wq 6 D (dP pU D) (wq 8 D (bL D) (wq 9 D (dP pU D) (wq 11 D (bL D) (wq 12 D (dP pU D) (wq 13 D (ov_add D D G G) (dI 34 (v':=I (n+1)) D (fX9 G) ?_)))))))))))
  refine eA8 fun W' hW=>?_
  have T16383:∀(A9:Option Addr) (c9:Nat) (cx:List nB) (hcx:cx.map nB.l=l.map (qZ cs sl)) (q7:Nat) (q10:Nat),W' 4 (lb 18 16383) [(2,H A n c),(6,H none 0 0),(7,.bool false),(8,I k),(21,H A n c),(25,H A9 n c9),(28,H (some ⟨q7,0,none⟩) n n),(31,H (some ⟨q10,0,none⟩) n n),(34,I (n+1))] (fun _=>True) [] [⟨H (some ⟨q10,0,none⟩) n n,3,1,n,(List.replicate (n) (0:Int)).flatMap gS⟩,⟨H (some ⟨q7,0,none⟩) n n,9,1,n,(List.replicate (n) (⟨#[]⟩:M)).flatMap dU⟩] [fun wy=>SlT eQ 1 147 wy A9 n cx/\nX 146 cx wy,fun _=>True,bT dQ 2 53 w.heap.size none A0 n0 cs,bT jA 2 57 w.heap.size none A1 n1 sl,bT eV 6 87 w.heap.size none A n l]:=by
   intro A9 c9 cx hcx q7 q10
   rw [hW]
   refine eD 14 D ?_
   refine gP (n:=(n+1)) (sz:=1) (e:=3) (by_:=8) (z:=J 0) bC bC D D G G G (by unfold maxLen;omega) (fU (enc:=gS) (x:=(0:Int)) D D bD (n+1)) D fun q14=>?_
   refine bH (nw 18 32767 (fun _ _=>bB) fun z=>wq 15 D (dL (cs:= [H A n c,H A9 n c9,H none 0 0,H (some ⟨q7,0,none⟩) n n,H (some ⟨q10,0,none⟩) n n,H (some ⟨q14,0,none⟩) (n+1) (n+1),J 0]) D bC) (eD 16 D (fS D D D fun q16=>bH (nw 18 131071 (fun _ _=>bB) fun z=>wq 17 D (dB D) (gY ?_)))))
   refine jQ (Y:=fun wy=>SlT eQ 1 147 wy A9 n cx) (SlT.lasts2 D) (fun wx hm=>(hm.fact 0 D).1) ?_
   refine jQ (Y:=fun wy=>nX 146 cx wy) (nX.lasts D) (fun wx hm=>(hm.fact 1 D).2) ?_
   refine jQ (Y:=fun _=>True) (Lasts2.true_) (fun wx hm=>bB) ?_
   exact fH (A9,c9,cx,q16,q7,q10,q14) hcx ⟨D,D,D,D,D,bB⟩ (fun _ hm=>hm.pick [0] [2,1,0] [5,6,7,2,1,0] D D)
  have T31743:∀(A9:Option Addr) (c9:Nat) (cx:List nB) (hcx:cx.map nB.l=l.map (qZ cs sl)) (q7:Nat) (q14:Nat),W' 4 (lb 18 31743) [(2,H A n c),(6,H none 0 0),(7,.bool false),(8,I k),(21,H A n c),(25,H A9 n c9),(28,H (some ⟨q7,0,none⟩) n n),(30,I n),(35,H (some ⟨q14,0,none⟩) (n+1) (n+1))] (fun _=>True) [] [⟨H (some ⟨q14,0,none⟩) (n+1) (n+1),3,1,(n+1),(List.replicate (n+1) (0:Int)).flatMap gS⟩,⟨H (some ⟨q7,0,none⟩) n n,9,1,n,(List.replicate (n) (⟨#[]⟩:M)).flatMap dU⟩] [fun wy=>SlT eQ 1 147 wy A9 n cx/\nX 146 cx wy,fun _=>True,bT dQ 2 53 w.heap.size none A0 n0 cs,bT jA 2 57 w.heap.size none A1 n1 sl,bT eV 6 87 w.heap.size none A n l]:=by
   intro A9 c9 cx hcx q7 q14
   rw [hW]
   refine eD 10 D ?_
   refine gP (n:=n) (sz:=1) (e:=3) (by_:=8) (z:=J 0) bC bC D D G G G (by unfold maxLen;omega) (fU (enc:=gS) (x:=(0:Int)) D D bD (n)) D fun q10=>?_
   refine bH (nw 18 32767 (fun _ _=>bB) fun z=>wq 15 D (dL (cs:= [H A n c,H A9 n c9,H none 0 0,H (some ⟨q7,0,none⟩) n n,H (some ⟨q10,0,none⟩) n n,H (some ⟨q14,0,none⟩) (n+1) (n+1),J 0]) D bC) (eD 16 D (fS D D D fun q16=>bH (nw 18 131071 (fun _ _=>bB) fun z=>wq 17 D (dB D) (gY ?_)))))
   refine jQ (Y:=fun wy=>SlT eQ 1 147 wy A9 n cx) (SlT.lasts2 D) (fun wx hm=>(hm.fact 0 D).1) ?_
   refine jQ (Y:=fun wy=>nX 146 cx wy) (nX.lasts D) (fun wx hm=>(hm.fact 1 D).2) ?_
   refine jQ (Y:=fun _=>True) (Lasts2.true_) (fun wx hm=>bB) ?_
   exact fH (A9,c9,cx,q16,q7,q10,q14) hcx ⟨D,D,D,D,D,bB⟩ (fun _ hm=>hm.pick [0] [2,0,1] [5,6,7,2,1,0] D D)
  have J15359:∀(A9:Option Addr) (c9:Nat) (cx:List nB) (hcx:cx.map nB.l=l.map (qZ cs sl)) (q7:Nat),W' 5 (lb 18 15359) [(2,H A n c),(6,H none 0 0),(7,.bool false),(8,I k),(21,H A n c),(25,H A9 n c9),(28,H (some ⟨q7,0,none⟩) n n),(30,I n),(34,I (n+1))] (fun _=>True) [] [⟨H (some ⟨q7,0,none⟩) n n,9,1,n,(List.replicate (n) (⟨#[]⟩:M)).flatMap dU⟩] [fun wy=>SlT eQ 1 147 wy A9 n cx/\nX 146 cx wy,fun _=>True,bT dQ 2 53 w.heap.size none A0 n0 cs,bT jA 2 57 w.heap.size none A1 n1 sl,bT eV 6 87 w.heap.size none A n l]:=by
   intro A9 c9 cx hcx q7
   rw [hW]
   refine jC [10,14] bC D ⟨⟨_,D,?_⟩,⟨_,D,?_⟩,bB⟩
   ·refine gP (n:=n) (sz:=1) (e:=3) (by_:=8) (z:=J 0) bC bC D D G G G (by unfold maxLen;omega) (fU (enc:=gS) (x:=(0:Int)) D D bD (n)) D fun q10=>?_
    refine bH (nw 18 16383 (fun _ _=>bB) fun z=>?_)
    have h:=T16383 A9 c9 cx hcx q7 q10
    rw [hW] at h
    refine jM ?_ ?_ h
    ·exact ⟨D,D,D,D,D,D,D,D,D,bB⟩
    exact fun _ hm=>hm.pick [] [0,1] [0,1,2,3,4] D D
   refine gP (n:=(n+1)) (sz:=1) (e:=3) (by_:=8) (z:=J 0) bC bC D D G G G (by unfold maxLen;omega) (fU (enc:=gS) (x:=(0:Int)) D D bD (n+1)) D fun q14=>?_
   refine bH (nw 18 31743 (fun _ _=>bB) fun z=>?_)
   have h:=T31743 A9 c9 cx hcx q7 q14
   rw [hW] at h
   refine jM ?_ ?_ h
   ·exact ⟨D,D,D,D,D,D,D,D,D,bB⟩
   exact fun _ hm=>hm.pick [] [0,1] [0,1,2,3,4] D D
  have T32639:∀(A9:Option Addr) (c9:Nat) (cx:List nB) (hcx:cx.map nB.l=l.map (qZ cs sl)) (q10:Nat) (q14:Nat),W' 4 (lb 18 32639) [(2,H A n c),(6,H none 0 0),(7,.bool false),(8,I k),(21,H A n c),(25,H A9 n c9),(27,I n),(31,H (some ⟨q10,0,none⟩) n n),(35,H (some ⟨q14,0,none⟩) (n+1) (n+1))] (fun _=>True) [] [⟨H (some ⟨q14,0,none⟩) (n+1) (n+1),3,1,(n+1),(List.replicate (n+1) (0:Int)).flatMap gS⟩,⟨H (some ⟨q10,0,none⟩) n n,3,1,n,(List.replicate (n) (0:Int)).flatMap gS⟩] [fun wy=>SlT eQ 1 147 wy A9 n cx/\nX 146 cx wy,fun _=>True,bT dQ 2 53 w.heap.size none A0 n0 cs,bT jA 2 57 w.heap.size none A1 n1 sl,bT eV 6 87 w.heap.size none A n l]:=by
   intro A9 c9 cx hcx q10 q14
   rw [hW]
   refine eD 7 D ?_
   refine gP (n:=n) (sz:=1) (e:=9) (by_:=16) (z:=U ⟨#[]⟩) bC bC D D G G G (by unfold maxLen;omega) (fU (enc:=dU) (x:=(⟨#[]⟩:M)) D D bD (n)) D fun q7=>?_
   refine bH (nw 18 32767 (fun _ _=>bB) fun z=>wq 15 D (dL (cs:= [H A n c,H A9 n c9,H none 0 0,H (some ⟨q7,0,none⟩) n n,H (some ⟨q10,0,none⟩) n n,H (some ⟨q14,0,none⟩) (n+1) (n+1),J 0]) D bC) (eD 16 D (fS D D D fun q16=>bH (nw 18 131071 (fun _ _=>bB) fun z=>wq 17 D (dB D) (gY ?_)))))
   refine jQ (Y:=fun wy=>SlT eQ 1 147 wy A9 n cx) (SlT.lasts2 D) (fun wx hm=>(hm.fact 0 D).1) ?_
   refine jQ (Y:=fun wy=>nX 146 cx wy) (nX.lasts D) (fun wx hm=>(hm.fact 1 D).2) ?_
   refine jQ (Y:=fun _=>True) (Lasts2.true_) (fun wx hm=>bB) ?_
   exact fH (A9,c9,cx,q16,q7,q10,q14) hcx ⟨D,D,D,D,D,bB⟩ (fun _ hm=>hm.pick [0] [0,2,1] [5,6,7,2,1,0] D D)
  have J16255:∀(A9:Option Addr) (c9:Nat) (cx:List nB) (hcx:cx.map nB.l=l.map (qZ cs sl)) (q10:Nat),W' 5 (lb 18 16255) [(2,H A n c),(6,H none 0 0),(7,.bool false),(8,I k),(21,H A n c),(25,H A9 n c9),(27,I n),(31,H (some ⟨q10,0,none⟩) n n),(34,I (n+1))] (fun _=>True) [] [⟨H (some ⟨q10,0,none⟩) n n,3,1,n,(List.replicate (n) (0:Int)).flatMap gS⟩] [fun wy=>SlT eQ 1 147 wy A9 n cx/\nX 146 cx wy,fun _=>True,bT dQ 2 53 w.heap.size none A0 n0 cs,bT jA 2 57 w.heap.size none A1 n1 sl,bT eV 6 87 w.heap.size none A n l]:=by
   intro A9 c9 cx hcx q10
   rw [hW]
   refine jC [7,14] bC D ⟨⟨_,D,?_⟩,⟨_,D,?_⟩,bB⟩
   ·refine gP (n:=n) (sz:=1) (e:=9) (by_:=16) (z:=U ⟨#[]⟩) bC bC D D G G G (by unfold maxLen;omega) (fU (enc:=dU) (x:=(⟨#[]⟩:M)) D D bD (n)) D fun q7=>?_
    refine bH (nw 18 16383 (fun _ _=>bB) fun z=>?_)
    have h:=T16383 A9 c9 cx hcx q7 q10
    rw [hW] at h
    refine jM ?_ ?_ h
    ·exact ⟨D,D,D,D,D,D,D,D,D,bB⟩
    exact fun _ hm=>hm.pick [] [1,0] [0,1,2,3,4] D D
   refine gP (n:=(n+1)) (sz:=1) (e:=3) (by_:=8) (z:=J 0) bC bC D D G G G (by unfold maxLen;omega) (fU (enc:=gS) (x:=(0:Int)) D D bD (n+1)) D fun q14=>?_
   refine bH (nw 18 32639 (fun _ _=>bB) fun z=>?_)
   have h:=T32639 A9 c9 cx hcx q10 q14
   rw [hW] at h
   refine jM ?_ ?_ h
   ·exact ⟨D,D,D,D,D,D,D,D,D,bB⟩
   exact fun _ hm=>hm.pick [] [0,1] [0,1,2,3,4] D D
  have J31615:∀(A9:Option Addr) (c9:Nat) (cx:List nB) (hcx:cx.map nB.l=l.map (qZ cs sl)) (q14:Nat),W' 5 (lb 18 31615) [(2,H A n c),(6,H none 0 0),(7,.bool false),(8,I k),(21,H A n c),(25,H A9 n c9),(27,I n),(30,I n),(35,H (some ⟨q14,0,none⟩) (n+1) (n+1))] (fun _=>True) [] [⟨H (some ⟨q14,0,none⟩) (n+1) (n+1),3,1,(n+1),(List.replicate (n+1) (0:Int)).flatMap gS⟩] [fun wy=>SlT eQ 1 147 wy A9 n cx/\nX 146 cx wy,fun _=>True,bT dQ 2 53 w.heap.size none A0 n0 cs,bT jA 2 57 w.heap.size none A1 n1 sl,bT eV 6 87 w.heap.size none A n l]:=by
   intro A9 c9 cx hcx q14
   rw [hW]
   refine jC [7,10] bC D ⟨⟨_,D,?_⟩,⟨_,D,?_⟩,bB⟩
   ·refine gP (n:=n) (sz:=1) (e:=9) (by_:=16) (z:=U ⟨#[]⟩) bC bC D D G G G (by unfold maxLen;omega) (fU (enc:=dU) (x:=(⟨#[]⟩:M)) D D bD (n)) D fun q7=>?_
    refine bH (nw 18 31743 (fun _ _=>bB) fun z=>?_)
    have h:=T31743 A9 c9 cx hcx q7 q14
    rw [hW] at h
    refine jM ?_ ?_ h
    ·exact ⟨D,D,D,D,D,D,D,D,D,bB⟩
    exact fun _ hm=>hm.pick [] [1,0] [0,1,2,3,4] D D
   refine gP (n:=n) (sz:=1) (e:=3) (by_:=8) (z:=J 0) bC bC D D G G G (by unfold maxLen;omega) (fU (enc:=gS) (x:=(0:Int)) D D bD (n)) D fun q10=>?_
   refine bH (nw 18 32639 (fun _ _=>bB) fun z=>?_)
   have h:=T32639 A9 c9 cx hcx q10 q14
   rw [hW] at h
   refine jM ?_ ?_ h
   ·exact ⟨D,D,D,D,D,D,D,D,D,bB⟩
   exact fun _ hm=>hm.pick [] [1,0] [0,1,2,3,4] D D
  have J15231:∀(A9:Option Addr) (c9:Nat) (cx:List nB) (hcx:cx.map nB.l=l.map (qZ cs sl)),W' 6 (lb 18 15231) [(2,H A n c),(6,H none 0 0),(7,.bool false),(8,I k),(21,H A n c),(25,H A9 n c9),(27,I n),(30,I n),(34,I (n+1))] (fun _=>True) [] [] [fun wy=>SlT eQ 1 147 wy A9 n cx/\nX 146 cx wy,fun _=>True,bT dQ 2 53 w.heap.size none A0 n0 cs,bT jA 2 57 w.heap.size none A1 n1 sl,bT eV 6 87 w.heap.size none A n l]:=by
   intro A9 c9 cx hcx
   rw [hW]
   refine jC [7,10,14] bC D ⟨⟨_,D,?_⟩,⟨_,D,?_⟩,⟨_,D,?_⟩,bB⟩
   ·refine gP (n:=n) (sz:=1) (e:=9) (by_:=16) (z:=U ⟨#[]⟩) bC bC D D G G G (by unfold maxLen;omega) (fU (enc:=dU) (x:=(⟨#[]⟩:M)) D D bD (n)) D fun q7=>?_
    refine bH (nw 18 15359 (fun _ _=>bB) fun z=>?_)
    have h:=J15359 A9 c9 cx hcx q7
    rw [hW] at h
    refine jM ?_ ?_ h
    ·exact ⟨D,D,D,D,D,D,D,D,D,bB⟩
    exact fun _ hm=>hm.pick [] [0] [0,1,2,3,4] D D
   ·refine gP (n:=n) (sz:=1) (e:=3) (by_:=8) (z:=J 0) bC bC D D G G G (by unfold maxLen;omega) (fU (enc:=gS) (x:=(0:Int)) D D bD (n)) D fun q10=>?_
    refine bH (nw 18 16255 (fun _ _=>bB) fun z=>?_)
    have h:=J16255 A9 c9 cx hcx q10
    rw [hW] at h
    refine jM ?_ ?_ h
    ·exact ⟨D,D,D,D,D,D,D,D,D,bB⟩
    exact fun _ hm=>hm.pick [] [0] [0,1,2,3,4] D D
   refine gP (n:=(n+1)) (sz:=1) (e:=3) (by_:=8) (z:=J 0) bC bC D D G G G (by unfold maxLen;omega) (fU (enc:=gS) (x:=(0:Int)) D D bD (n+1)) D fun q14=>?_
   refine bH (nw 18 31615 (fun _ _=>bB) fun z=>?_)
   have h:=J31615 A9 c9 cx hcx q14
   rw [hW] at h
   refine jM ?_ ?_ h
   ·exact ⟨D,D,D,D,D,D,D,D,D,bB⟩
   exact fun _ hm=>hm.pick [] [0] [0,1,2,3,4] D D
  have T32751:∀(q7:Nat) (q10:Nat) (q14:Nat),W' 4 (lb 18 32751) [(2,H A n c),(6,H none 0 0),(7,.bool false),(8,I k),(21,H A n c),(22,H A0 n0 c0),(23,H A1 n1 c1),(24,H A n c),(28,H (some ⟨q7,0,none⟩) n n),(31,H (some ⟨q10,0,none⟩) n n),(35,H (some ⟨q14,0,none⟩) (n+1) (n+1))] (fun _=>True) [] [⟨H (some ⟨q14,0,none⟩) (n+1) (n+1),3,1,(n+1),(List.replicate (n+1) (0:Int)).flatMap gS⟩,⟨H (some ⟨q10,0,none⟩) n n,3,1,n,(List.replicate (n) (0:Int)).flatMap gS⟩,⟨H (some ⟨q7,0,none⟩) n n,9,1,n,(List.replicate (n) (⟨#[]⟩:M)).flatMap dU⟩] [fun _=>True,bT dQ 2 53 w.heap.size none A0 n0 cs,bT jA 2 57 w.heap.size none A1 n1 sl,bT eV 6 87 w.heap.size none A n l]:=by
   intro q7 q10 q14
   rw [hW]
   refine eD 4 D ?_
   refine fK (γ:=Option Addr×Nat×List nB) (val:=(fun g=>H g.1 n g.2.1)) (φ:=(fun g=>g.2.2.map nB.l=l.map (qZ cs sl))) (Y:=(fun g=>fun wy=>SlT eQ 1 147 wy g.1 n g.2.2/\nX 146 g.2.2 wy)) D bA7 D D (fun wx hm=>(jX cs A0 n0 c0 sl A1 n1 c1 l A n c wx (hm.fact 1 D).1 pI G (hm.fact 2 D).1 hso G (hm.fact 3 D).1 G hkeys).mono fun _ _ ⟨A9,c9,cx,he,h1,h2,h3,hg⟩=>⟨(A9,c9,cx),he,h3,hg,⟨h1,h2⟩⟩) (fun _=>(SlT.lasts2 D).and_ (nX.lasts D)) ?_
   rintro ⟨A9,c9,cx⟩ hcx
   dsimp only at hcx ⊢
   refine bH (nw 18 32767 (fun _ _=>bB) fun z=>wq 15 D (dL (cs:= [H A n c,H A9 n c9,H none 0 0,H (some ⟨q7,0,none⟩) n n,H (some ⟨q10,0,none⟩) n n,H (some ⟨q14,0,none⟩) (n+1) (n+1),J 0]) D bC) (eD 16 D (fS D D D fun q16=>bH (nw 18 131071 (fun _ _=>bB) fun z=>wq 17 D (dB D) (gY ?_)))))
   refine jQ (Y:=fun wy=>SlT eQ 1 147 wy A9 n cx) (SlT.lasts2 D) (fun wx hm=>(hm.fact 0 D).1) ?_
   refine jQ (Y:=fun wy=>nX 146 cx wy) (nX.lasts D) (fun wx hm=>(hm.fact 1 D).2) ?_
   refine jQ (Y:=fun _=>True) (Lasts2.true_) (fun wx hm=>bB) ?_
   exact fH (A9,c9,cx,q16,q7,q10,q14) hcx ⟨D,D,D,D,D,bB⟩ (fun _ hm=>hm.pick [0] [2,1,0] [5,6,7,2,1,0] D D)
  have J16367:∀(q7:Nat) (q10:Nat),W' 5 (lb 18 16367) [(2,H A n c),(6,H none 0 0),(7,.bool false),(8,I k),(21,H A n c),(22,H A0 n0 c0),(23,H A1 n1 c1),(24,H A n c),(28,H (some ⟨q7,0,none⟩) n n),(31,H (some ⟨q10,0,none⟩) n n),(34,I (n+1))] (fun _=>True) [] [⟨H (some ⟨q10,0,none⟩) n n,3,1,n,(List.replicate (n) (0:Int)).flatMap gS⟩,⟨H (some ⟨q7,0,none⟩) n n,9,1,n,(List.replicate (n) (⟨#[]⟩:M)).flatMap dU⟩] [fun _=>True,bT dQ 2 53 w.heap.size none A0 n0 cs,bT jA 2 57 w.heap.size none A1 n1 sl,bT eV 6 87 w.heap.size none A n l]:=by
   intro q7 q10
   rw [hW]
   refine jC [4,14] bC D ⟨⟨_,D,?_⟩,⟨_,D,?_⟩,bB⟩
   ·refine fK (γ:=Option Addr×Nat×List nB) (val:=(fun g=>H g.1 n g.2.1)) (φ:=(fun g=>g.2.2.map nB.l=l.map (qZ cs sl))) (Y:=(fun g=>fun wy=>SlT eQ 1 147 wy g.1 n g.2.2/\nX 146 g.2.2 wy)) D bA7 D D (fun wx hm=>(jX cs A0 n0 c0 sl A1 n1 c1 l A n c wx (hm.fact 1 D).1 pI G (hm.fact 2 D).1 hso G (hm.fact 3 D).1 G hkeys).mono fun _ _ ⟨A9,c9,cx,he,h1,h2,h3,hg⟩=>⟨(A9,c9,cx),he,h3,hg,⟨h1,h2⟩⟩) (fun _=>(SlT.lasts2 D).and_ (nX.lasts D)) ?_
    rintro ⟨A9,c9,cx⟩ hcx
    dsimp only at hcx ⊢
    refine bH (nw 18 16383 (fun _ _=>bB) fun z=>?_)
    have h:=T16383 A9 c9 cx hcx q7 q10
    rw [hW] at h
    refine jM ?_ ?_ h
    ·exact ⟨D,D,D,D,D,D,D,D,D,bB⟩
    exact fun _ hm=>hm.pick [] [0,1] [0,1,2,3,4] D D
   refine gP (n:=(n+1)) (sz:=1) (e:=3) (by_:=8) (z:=J 0) bC bC D D G G G (by unfold maxLen;omega) (fU (enc:=gS) (x:=(0:Int)) D D bD (n+1)) D fun q14=>?_
   refine bH (nw 18 32751 (fun _ _=>bB) fun z=>?_)
   have h:=T32751 q7 q10 q14
   rw [hW] at h
   refine jM ?_ ?_ h
   ·exact ⟨D,D,D,D,D,D,D,D,D,D,D,bB⟩
   exact fun _ hm=>hm.pick [] [0,1,2] [0,1,2,3] D D
  have J31727:∀(q7:Nat) (q14:Nat),W' 5 (lb 18 31727) [(2,H A n c),(6,H none 0 0),(7,.bool false),(8,I k),(21,H A n c),(22,H A0 n0 c0),(23,H A1 n1 c1),(24,H A n c),(28,H (some ⟨q7,0,none⟩) n n),(30,I n),(35,H (some ⟨q14,0,none⟩) (n+1) (n+1))] (fun _=>True) [] [⟨H (some ⟨q14,0,none⟩) (n+1) (n+1),3,1,(n+1),(List.replicate (n+1) (0:Int)).flatMap gS⟩,⟨H (some ⟨q7,0,none⟩) n n,9,1,n,(List.replicate (n) (⟨#[]⟩:M)).flatMap dU⟩] [fun _=>True,bT dQ 2 53 w.heap.size none A0 n0 cs,bT jA 2 57 w.heap.size none A1 n1 sl,bT eV 6 87 w.heap.size none A n l]:=by
   intro q7 q14
   rw [hW]
   refine jC [4,10] bC D ⟨⟨_,D,?_⟩,⟨_,D,?_⟩,bB⟩
   ·refine fK (γ:=Option Addr×Nat×List nB) (val:=(fun g=>H g.1 n g.2.1)) (φ:=(fun g=>g.2.2.map nB.l=l.map (qZ cs sl))) (Y:=(fun g=>fun wy=>SlT eQ 1 147 wy g.1 n g.2.2/\nX 146 g.2.2 wy)) D bA7 D D (fun wx hm=>(jX cs A0 n0 c0 sl A1 n1 c1 l A n c wx (hm.fact 1 D).1 pI G (hm.fact 2 D).1 hso G (hm.fact 3 D).1 G hkeys).mono fun _ _ ⟨A9,c9,cx,he,h1,h2,h3,hg⟩=>⟨(A9,c9,cx),he,h3,hg,⟨h1,h2⟩⟩) (fun _=>(SlT.lasts2 D).and_ (nX.lasts D)) ?_
    rintro ⟨A9,c9,cx⟩ hcx
    dsimp only at hcx ⊢
    refine bH (nw 18 31743 (fun _ _=>bB) fun z=>?_)
    have h:=T31743 A9 c9 cx hcx q7 q14
    rw [hW] at h
    refine jM ?_ ?_ h
    ·exact ⟨D,D,D,D,D,D,D,D,D,bB⟩
    exact fun _ hm=>hm.pick [] [0,1] [0,1,2,3,4] D D
   refine gP (n:=n) (sz:=1) (e:=3) (by_:=8) (z:=J 0) bC bC D D G G G (by unfold maxLen;omega) (fU (enc:=gS) (x:=(0:Int)) D D bD (n)) D fun q10=>?_
   refine bH (nw 18 32751 (fun _ _=>bB) fun z=>?_)
   have h:=T32751 q7 q10 q14
   rw [hW] at h
   refine jM ?_ ?_ h
   ·exact ⟨D,D,D,D,D,D,D,D,D,D,D,bB⟩
   exact fun _ hm=>hm.pick [] [1,0,2] [0,1,2,3] D D
  have J15343:∀(q7:Nat),W' 6 (lb 18 15343) [(2,H A n c),(6,H none 0 0),(7,.bool false),(8,I k),(21,H A n c),(22,H A0 n0 c0),(23,H A1 n1 c1),(24,H A n c),(28,H (some ⟨q7,0,none⟩) n n),(30,I n),(34,I (n+1))] (fun _=>True) [] [⟨H (some ⟨q7,0,none⟩) n n,9,1,n,(List.replicate (n) (⟨#[]⟩:M)).flatMap dU⟩] [fun _=>True,bT dQ 2 53 w.heap.size none A0 n0 cs,bT jA 2 57 w.heap.size none A1 n1 sl,bT eV 6 87 w.heap.size none A n l]:=by
   intro q7
   rw [hW]
   refine jC [4,10,14] bC D ⟨⟨_,D,?_⟩,⟨_,D,?_⟩,⟨_,D,?_⟩,bB⟩
   ·refine fK (γ:=Option Addr×Nat×List nB) (val:=(fun g=>H g.1 n g.2.1)) (φ:=(fun g=>g.2.2.map nB.l=l.map (qZ cs sl))) (Y:=(fun g=>fun wy=>SlT eQ 1 147 wy g.1 n g.2.2/\nX 146 g.2.2 wy)) D bA7 D D (fun wx hm=>(jX cs A0 n0 c0 sl A1 n1 c1 l A n c wx (hm.fact 1 D).1 pI G (hm.fact 2 D).1 hso G (hm.fact 3 D).1 G hkeys).mono fun _ _ ⟨A9,c9,cx,he,h1,h2,h3,hg⟩=>⟨(A9,c9,cx),he,h3,hg,⟨h1,h2⟩⟩) (fun _=>(SlT.lasts2 D).and_ (nX.lasts D)) ?_
    rintro ⟨A9,c9,cx⟩ hcx
    dsimp only at hcx ⊢
    refine bH (nw 18 15359 (fun _ _=>bB) fun z=>?_)
    have h:=J15359 A9 c9 cx hcx q7
    rw [hW] at h
    refine jM ?_ ?_ h
    ·exact ⟨D,D,D,D,D,D,D,D,D,bB⟩
    exact fun _ hm=>hm.pick [] [0] [0,1,2,3,4] D D
   ·refine gP (n:=n) (sz:=1) (e:=3) (by_:=8) (z:=J 0) bC bC D D G G G (by unfold maxLen;omega) (fU (enc:=gS) (x:=(0:Int)) D D bD (n)) D fun q10=>?_
    refine bH (nw 18 16367 (fun _ _=>bB) fun z=>?_)
    have h:=J16367 q7 q10
    rw [hW] at h
    refine jM ?_ ?_ h
    ·exact ⟨D,D,D,D,D,D,D,D,D,D,D,bB⟩
    exact fun _ hm=>hm.pick [] [0,1] [0,1,2,3] D D
   refine gP (n:=(n+1)) (sz:=1) (e:=3) (by_:=8) (z:=J 0) bC bC D D G G G (by unfold maxLen;omega) (fU (enc:=gS) (x:=(0:Int)) D D bD (n+1)) D fun q14=>?_
   refine bH (nw 18 31727 (fun _ _=>bB) fun z=>?_)
   have h:=J31727 q7 q14
   rw [hW] at h
   refine jM ?_ ?_ h
   ·exact ⟨D,D,D,D,D,D,D,D,D,D,D,bB⟩
   exact fun _ hm=>hm.pick [] [0,1] [0,1,2,3] D D
  have J32623:∀(q10:Nat) (q14:Nat),W' 5 (lb 18 32623) [(2,H A n c),(6,H none 0 0),(7,.bool false),(8,I k),(21,H A n c),(22,H A0 n0 c0),(23,H A1 n1 c1),(24,H A n c),(27,I n),(31,H (some ⟨q10,0,none⟩) n n),(35,H (some ⟨q14,0,none⟩) (n+1) (n+1))] (fun _=>True) [] [⟨H (some ⟨q14,0,none⟩) (n+1) (n+1),3,1,(n+1),(List.replicate (n+1) (0:Int)).flatMap gS⟩,⟨H (some ⟨q10,0,none⟩) n n,3,1,n,(List.replicate (n) (0:Int)).flatMap gS⟩] [fun _=>True,bT dQ 2 53 w.heap.size none A0 n0 cs,bT jA 2 57 w.heap.size none A1 n1 sl,bT eV 6 87 w.heap.size none A n l]:=by
   intro q10 q14
   rw [hW]
   refine jC [4,7] bC D ⟨⟨_,D,?_⟩,⟨_,D,?_⟩,bB⟩
   ·refine fK (γ:=Option Addr×Nat×List nB) (val:=(fun g=>H g.1 n g.2.1)) (φ:=(fun g=>g.2.2.map nB.l=l.map (qZ cs sl))) (Y:=(fun g=>fun wy=>SlT eQ 1 147 wy g.1 n g.2.2/\nX 146 g.2.2 wy)) D bA7 D D (fun wx hm=>(jX cs A0 n0 c0 sl A1 n1 c1 l A n c wx (hm.fact 1 D).1 pI G (hm.fact 2 D).1 hso G (hm.fact 3 D).1 G hkeys).mono fun _ _ ⟨A9,c9,cx,he,h1,h2,h3,hg⟩=>⟨(A9,c9,cx),he,h3,hg,⟨h1,h2⟩⟩) (fun _=>(SlT.lasts2 D).and_ (nX.lasts D)) ?_
    rintro ⟨A9,c9,cx⟩ hcx
    dsimp only at hcx ⊢
    refine bH (nw 18 32639 (fun _ _=>bB) fun z=>?_)
    have h:=T32639 A9 c9 cx hcx q10 q14
    rw [hW] at h
    refine jM ?_ ?_ h
    ·exact ⟨D,D,D,D,D,D,D,D,D,bB⟩
    exact fun _ hm=>hm.pick [] [0,1] [0,1,2,3,4] D D
   refine gP (n:=n) (sz:=1) (e:=9) (by_:=16) (z:=U ⟨#[]⟩) bC bC D D G G G (by unfold maxLen;omega) (fU (enc:=dU) (x:=(⟨#[]⟩:M)) D D bD (n)) D fun q7=>?_
   refine bH (nw 18 32751 (fun _ _=>bB) fun z=>?_)
   have h:=T32751 q7 q10 q14
   rw [hW] at h
   refine jM ?_ ?_ h
   ·exact ⟨D,D,D,D,D,D,D,D,D,D,D,bB⟩
   exact fun _ hm=>hm.pick [] [1,2,0] [0,1,2,3] D D
  have J16239:∀(q10:Nat),W' 6 (lb 18 16239) [(2,H A n c),(6,H none 0 0),(7,.bool false),(8,I k),(21,H A n c),(22,H A0 n0 c0),(23,H A1 n1 c1),(24,H A n c),(27,I n),(31,H (some ⟨q10,0,none⟩) n n),(34,I (n+1))] (fun _=>True) [] [⟨H (some ⟨q10,0,none⟩) n n,3,1,n,(List.replicate (n) (0:Int)).flatMap gS⟩] [fun _=>True,bT dQ 2 53 w.heap.size none A0 n0 cs,bT jA 2 57 w.heap.size none A1 n1 sl,bT eV 6 87 w.heap.size none A n l]:=by
   intro q10
   rw [hW]
   refine jC [4,7,14] bC D ⟨⟨_,D,?_⟩,⟨_,D,?_⟩,⟨_,D,?_⟩,bB⟩
   ·refine fK (γ:=Option Addr×Nat×List nB) (val:=(fun g=>H g.1 n g.2.1)) (φ:=(fun g=>g.2.2.map nB.l=l.map (qZ cs sl))) (Y:=(fun g=>fun wy=>SlT eQ 1 147 wy g.1 n g.2.2/\nX 146 g.2.2 wy)) D bA7 D D (fun wx hm=>(jX cs A0 n0 c0 sl A1 n1 c1 l A n c wx (hm.fact 1 D).1 pI G (hm.fact 2 D).1 hso G (hm.fact 3 D).1 G hkeys).mono fun _ _ ⟨A9,c9,cx,he,h1,h2,h3,hg⟩=>⟨(A9,c9,cx),he,h3,hg,⟨h1,h2⟩⟩) (fun _=>(SlT.lasts2 D).and_ (nX.lasts D)) ?_
    rintro ⟨A9,c9,cx⟩ hcx
    dsimp only at hcx ⊢
    refine bH (nw 18 16255 (fun _ _=>bB) fun z=>?_)
    have h:=J16255 A9 c9 cx hcx q10
    rw [hW] at h
    refine jM ?_ ?_ h
    ·exact ⟨D,D,D,D,D,D,D,D,D,bB⟩
    exact fun _ hm=>hm.pick [] [0] [0,1,2,3,4] D D
   ·refine gP (n:=n) (sz:=1) (e:=9) (by_:=16) (z:=U ⟨#[]⟩) bC bC D D G G G (by unfold maxLen;omega) (fU (enc:=dU) (x:=(⟨#[]⟩:M)) D D bD (n)) D fun q7=>?_
    refine bH (nw 18 16367 (fun _ _=>bB) fun z=>?_)
    have h:=J16367 q7 q10
    rw [hW] at h
    refine jM ?_ ?_ h
    ·exact ⟨D,D,D,D,D,D,D,D,D,D,D,bB⟩
    exact fun _ hm=>hm.pick [] [1,0] [0,1,2,3] D D
   refine gP (n:=(n+1)) (sz:=1) (e:=3) (by_:=8) (z:=J 0) bC bC D D G G G (by unfold maxLen;omega) (fU (enc:=gS) (x:=(0:Int)) D D bD (n+1)) D fun q14=>?_
   refine bH (nw 18 32623 (fun _ _=>bB) fun z=>?_)
   have h:=J32623 q10 q14
   rw [hW] at h
   refine jM ?_ ?_ h
   ·exact ⟨D,D,D,D,D,D,D,D,D,D,D,bB⟩
   exact fun _ hm=>hm.pick [] [0,1] [0,1,2,3] D D
  have J31599:∀(q14:Nat),W' 6 (lb 18 31599) [(2,H A n c),(6,H none 0 0),(7,.bool false),(8,I k),(21,H A n c),(22,H A0 n0 c0),(23,H A1 n1 c1),(24,H A n c),(27,I n),(30,I n),(35,H (some ⟨q14,0,none⟩) (n+1) (n+1))] (fun _=>True) [] [⟨H (some ⟨q14,0,none⟩) (n+1) (n+1),3,1,(n+1),(List.replicate (n+1) (0:Int)).flatMap gS⟩] [fun _=>True,bT dQ 2 53 w.heap.size none A0 n0 cs,bT jA 2 57 w.heap.size none A1 n1 sl,bT eV 6 87 w.heap.size none A n l]:=by
   intro q14
   rw [hW]
   refine jC [4,7,10] bC D ⟨⟨_,D,?_⟩,⟨_,D,?_⟩,⟨_,D,?_⟩,bB⟩
   ·refine fK (γ:=Option Addr×Nat×List nB) (val:=(fun g=>H g.1 n g.2.1)) (φ:=(fun g=>g.2.2.map nB.l=l.map (qZ cs sl))) (Y:=(fun g=>fun wy=>SlT eQ 1 147 wy g.1 n g.2.2/\nX 146 g.2.2 wy)) D bA7 D D (fun wx hm=>(jX cs A0 n0 c0 sl A1 n1 c1 l A n c wx (hm.fact 1 D).1 pI G (hm.fact 2 D).1 hso G (hm.fact 3 D).1 G hkeys).mono fun _ _ ⟨A9,c9,cx,he,h1,h2,h3,hg⟩=>⟨(A9,c9,cx),he,h3,hg,⟨h1,h2⟩⟩) (fun _=>(SlT.lasts2 D).and_ (nX.lasts D)) ?_
    rintro ⟨A9,c9,cx⟩ hcx
    dsimp only at hcx ⊢
    refine bH (nw 18 31615 (fun _ _=>bB) fun z=>?_)
    have h:=J31615 A9 c9 cx hcx q14
    rw [hW] at h
    refine jM ?_ ?_ h
    ·exact ⟨D,D,D,D,D,D,D,D,D,bB⟩
    exact fun _ hm=>hm.pick [] [0] [0,1,2,3,4] D D
   ·refine gP (n:=n) (sz:=1) (e:=9) (by_:=16) (z:=U ⟨#[]⟩) bC bC D D G G G (by unfold maxLen;omega) (fU (enc:=dU) (x:=(⟨#[]⟩:M)) D D bD (n)) D fun q7=>?_
    refine bH (nw 18 31727 (fun _ _=>bB) fun z=>?_)
    have h:=J31727 q7 q14
    rw [hW] at h
    refine jM ?_ ?_ h
    ·exact ⟨D,D,D,D,D,D,D,D,D,D,D,bB⟩
    exact fun _ hm=>hm.pick [] [1,0] [0,1,2,3] D D
   refine gP (n:=n) (sz:=1) (e:=3) (by_:=8) (z:=J 0) bC bC D D G G G (by unfold maxLen;omega) (fU (enc:=gS) (x:=(0:Int)) D D bD (n)) D fun q10=>?_
   refine bH (nw 18 32623 (fun _ _=>bB) fun z=>?_)
   have h:=J32623 q10 q14
   rw [hW] at h
   refine jM ?_ ?_ h
   ·exact ⟨D,D,D,D,D,D,D,D,D,D,D,bB⟩
   exact fun _ hm=>hm.pick [] [1,0] [0,1,2,3] D D
  have J15215:W' 7 (lb 18 15215) [(2,H A n c),(6,H none 0 0),(7,.bool false),(8,I k),(21,H A n c),(22,H A0 n0 c0),(23,H A1 n1 c1),(24,H A n c),(27,I n),(30,I n),(34,I (n+1))] (fun _=>True) [] [] [fun _=>True,bT dQ 2 53 w.heap.size none A0 n0 cs,bT jA 2 57 w.heap.size none A1 n1 sl,bT eV 6 87 w.heap.size none A n l]:=by
   skip
   rw [hW]
   refine jC [4,7,10,14] bC D ⟨⟨_,D,?_⟩,⟨_,D,?_⟩,⟨_,D,?_⟩,⟨_,D,?_⟩,bB⟩
   ·refine fK (γ:=Option Addr×Nat×List nB) (val:=(fun g=>H g.1 n g.2.1)) (φ:=(fun g=>g.2.2.map nB.l=l.map (qZ cs sl))) (Y:=(fun g=>fun wy=>SlT eQ 1 147 wy g.1 n g.2.2/\nX 146 g.2.2 wy)) D bA7 D D (fun wx hm=>(jX cs A0 n0 c0 sl A1 n1 c1 l A n c wx (hm.fact 1 D).1 pI G (hm.fact 2 D).1 hso G (hm.fact 3 D).1 G hkeys).mono fun _ _ ⟨A9,c9,cx,he,h1,h2,h3,hg⟩=>⟨(A9,c9,cx),he,h3,hg,⟨h1,h2⟩⟩) (fun _=>(SlT.lasts2 D).and_ (nX.lasts D)) ?_
    rintro ⟨A9,c9,cx⟩ hcx
    dsimp only at hcx ⊢
    refine bH (nw 18 15231 (fun _ _=>bB) fun z=>?_)
    have h:=J15231 A9 c9 cx hcx
    rw [hW] at h
    refine jM ?_ ?_ h
    ·exact ⟨D,D,D,D,D,D,D,D,D,bB⟩
    exact fun _ hm=>hm.pick [] [] [0,1,2,3,4] D D
   ·refine gP (n:=n) (sz:=1) (e:=9) (by_:=16) (z:=U ⟨#[]⟩) bC bC D D G G G (by unfold maxLen;omega) (fU (enc:=dU) (x:=(⟨#[]⟩:M)) D D bD (n)) D fun q7=>?_
    refine bH (nw 18 15343 (fun _ _=>bB) fun z=>?_)
    have h:=J15343 q7
    rw [hW] at h
    refine jM ?_ ?_ h
    ·exact ⟨D,D,D,D,D,D,D,D,D,D,D,bB⟩
    exact fun _ hm=>hm.pick [] [0] [0,1,2,3] D D
   ·refine gP (n:=n) (sz:=1) (e:=3) (by_:=8) (z:=J 0) bC bC D D G G G (by unfold maxLen;omega) (fU (enc:=gS) (x:=(0:Int)) D D bD (n)) D fun q10=>?_
    refine bH (nw 18 16239 (fun _ _=>bB) fun z=>?_)
    have h:=J16239 q10
    rw [hW] at h
    refine jM ?_ ?_ h
    ·exact ⟨D,D,D,D,D,D,D,D,D,D,D,bB⟩
    exact fun _ hm=>hm.pick [] [0] [0,1,2,3] D D
   refine gP (n:=(n+1)) (sz:=1) (e:=3) (by_:=8) (z:=J 0) bC bC D D G G G (by unfold maxLen;omega) (fU (enc:=gS) (x:=(0:Int)) D D bD (n+1)) D fun q14=>?_
   refine bH (nw 18 31599 (fun _ _=>bB) fun z=>?_)
   have h:=J31599 q14
   rw [hW] at h
   refine jM ?_ ?_ h
   ·exact ⟨D,D,D,D,D,D,D,D,D,D,D,bB⟩
   exact fun _ hm=>hm.pick [] [0] [0,1,2,3] D D
  rw [hW]
  have h:=J15215
  rw [hW] at h
  refine jM ?_ ?_ h
  ·exact ⟨D,D,D,D,D,D,D,D,D,D,D,bB⟩
  exact fun _ hm=>hm.pick [] [] [0,1,2,3] D D
 rintro ⟨A9,c9,cx,gx,gc,gu,gr⟩ bZ
 replace bZ:cx.map nB.l=l.map (qZ cs sl):=bZ
 dsimp only
 refine bJ (bX ?_)
 have hcx:cx.map nB.l=l.map (qZ cs sl):=bZ
 have hcxl:cx.length=n:=by have h:=congrArg List.length hcx;rw [List.length_map,List.length_map] at h;omega
 refine eB (R:=(∀x∈cx,x.l.length=x.n)/\(0 < n->∃b9 o9,A9=some ⟨b9,o9,none⟩)/\∀x∈cx,0 < x.n->∃bi oi,x.A=some ⟨bi,oi,none⟩) (fun wx hm=>⟨fun x hx=>((hm.fact 4 D) x hx).len,fun h0=>by
  obtain ⟨b9,o9,e,_⟩:=(hm.fact 3 rfl).get h0
  exact ⟨b9,o9,e⟩,fun x hx h0=>by
  obtain ⟨b9,o9,e,_⟩:=((hm.fact 4 rfl) x hx).get h0
  exact ⟨b9,o9,e⟩⟩) ?_
 rintro ⟨yC,h9,hin⟩
 refine mA 3 1 ?_
 refine bS D (W (dP pU D) D (bS D (bU (bP ?_))))
 refine dS (γ:=Nat×Value) (fun g=>g.1<=n) (fun g=> [(2,H A n c),(6,H none 0 0),(7,.bool false),(8,I k),(9,.pointer (some ⟨gx,0,none⟩)),(39,I n),(40,I (g.1))]) (fun g=>fun _=>True) (fun g=> [(gx,144, [H A n c,H A9 n c9,g.2,H (some ⟨gc,0,none⟩) n n,H (some ⟨gu,0,none⟩) n n,H (some ⟨gr,0,none⟩) (n+1) (n+1),J 0])]) (fun g=> [⟨g.2,3,1,g.1,(List.range g.1).flatMap pW⟩,⟨H (some ⟨gc,0,none⟩) n n,9,1,n,(List.replicate (n) (⟨#[]⟩:M)).flatMap dU⟩,⟨H (some ⟨gu,0,none⟩) n n,3,1,n,(List.replicate (n) (0:Int)).flatMap gS⟩,⟨H (some ⟨gr,0,none⟩) (n+1) (n+1),3,1,(n+1),(List.replicate (n+1) (0:Int)).flatMap gS⟩]) (fun g=> [bT dQ 2 53 w.heap.size none A0 n0 cs,bT jA 2 57 w.heap.size none A1 n1 sl,bT eV 6 87 w.heap.size none A n l,fun wy=>SlT eQ 1 147 wy A9 n cx,fun wy=>nX 146 cx wy,fun _=>True]) (fun g=>n - g.1) (0,H none 0 0) (Nat.zero_le _) ⟨D,D,D,D,D,D,D,bB⟩ (fun _ hm=>hm.pick [0] [0,1,2,3] [0,1,2,3,4,5] D D) ?_
 rintro ⟨i,v⟩ bZ
 replace bZ:i<=n:=bZ
 dsimp only
 refine bX (W (dF D D) D (bU (bJ ?_)))
 refine cN D (fun hi=>?_) (fun hi=>?_)
 ·refine bN (bG (bJ (bP (bX (bS D (cG D (bU (bM (bS D (bS D (W (cU D) D ?_)))))))))))
  refine dZ vK D D (eO kY 0 D D D (bS D (jN 3 [I i] fun g2=>eP (news:= [I i]) 0 0 cX2 D D D D D D D G (by unfold maxLen;omega) D D fun v2 xK=>?_)))
  rw [show (List.range i).flatMap pW++([I i]:List Value)=(List.range (i+1)).flatMap pW from by rw [List.range_succ,List.flatMap_append];simp [pW]]
  refine eB (R:=∃A cc,v2=H A (i+1) cc) (fun wx hm=>dW (hm.ownI 0 D)) ?_
  rintro ⟨Ao,co,rfl⟩
  refine W (cU D) D (dZ vK D D (fX 1 kY D D D D D D (bH (bK (bG (bM (fY D D (bS D (bH ?_)))))))))
  exact cQ (i+1,H Ao (i+1) co) bE bE ⟨D,D,D,D,D,D,(cP G),bB⟩ (fun _ hm=>hm.pick [1] [0,1,2,3] [0,1,2,3,4,5] D D)
 refine dD (bI (bI (bY (bG (bJ (bX ?_))))))
 have hin2:i=n:=G
 subst hin2
 refine eB (R:=∃A cc,v=H A i cc) (fun wx hm=>dW (hm.ownI 0 D)) ?_
 rintro ⟨Ao,co,rfl⟩
 refine bS D (W (dP pU D) D (W (ov_sub D D G G) D (cG D (bU (bP ?_)))))
 refine dS (γ:=Nat×List Int) (fun (gr9:Nat×List Int)=>gr9.1<=i/\bO4 gr9.2 (i+1) (1000 *(i - gr9.1))) (fun (gr9:Nat×List Int)=> [(2,H A i c),(6,H none 0 0),(7,.bool false),(8,I k),(9,.pointer (some ⟨gx,0,none⟩)),(11,J (((gr9.1:Nat):Int) - 1))]) (fun (gr9:Nat×List Int)=>fun _=>True) (fun (gr9:Nat×List Int)=> [(gx,144, [H A i c,H A9 i c9,H Ao i co,H (some ⟨gc,0,none⟩) i i,H (some ⟨gu,0,none⟩) i i,H (some ⟨gr,0,none⟩) (i+1) (i+1),J 0])]) (fun (gr9:Nat×List Int)=> [⟨H (some ⟨gr,0,none⟩) (i+1) (i+1),3,1,(i+1),gr9.2.flatMap gS⟩,⟨H Ao i co,3,1,i,(List.range i).flatMap pW⟩,⟨H (some ⟨gc,0,none⟩) i i,9,1,i,(List.replicate (i) (⟨#[]⟩:M)).flatMap dU⟩,⟨H (some ⟨gu,0,none⟩) i i,3,1,i,(List.replicate (i) (0:Int)).flatMap gS⟩]) (fun (gr9:Nat×List Int)=> [bT dQ 2 53 w.heap.size none A0 n0 cs,bT jA 2 57 w.heap.size none A1 n1 sl,bT eV 6 87 w.heap.size none A i l,fun wy=>SlT eQ 1 147 wy A9 i cx,fun wy=>nX 146 cx wy,fun _=>True]) (fun (gr9:Nat×List Int)=>gr9.1) (i,(List.replicate (i+1) (0:Int))) ⟨Nat.le_refl _,bO4.zero _ _⟩ ⟨D,D,D,D,D,D,bB⟩ (fun _ hm=>hm.pick [0] [3,0,1,2] [0,1,2,3,4,5] D D) ?_
 rintro ⟨j,re⟩ bZ
 replace bZ:j<=i/\bO4 re (i+1) (1000 *(i - j)):=bZ
 dsimp only
 refine bJ (bX ?_)
 obtain ⟨hj0,hre⟩:=bZ
 refine bS D (W (mE D D) D (bU ?_))
 refine cN D (fun hj=>?_) (fun hj=>?_)
 ·refine bN (bG (bJ (bP ?_)))
  obtain ⟨k2,rfl⟩:∃k2,j=k2+1:=⟨j - 1,G⟩
  have ek:(((k2+1:Nat):Int) - 1)=((k2:Nat):Int):=G
  have hki:k2 < i:=G
  refine kR 11 (v':=I k2) D (fX9 ek) ?_
  obtain ⟨b9,o9,rfl⟩:=h9 G
  obtain ⟨x9,hx9⟩:∃x,cx[k2]?=some x:=⟨_,fY9 G⟩
  obtain ⟨b0,hb0⟩:∃x,l[k2]?=some x:=⟨_,fY9 G⟩
  have hx9m:=fZ9 hx9
  have hxl:=cX8 hcx hx9
  have hx0:=hxl
  rw [nZ hb0] at hxl
  have hnil:=hnz b0 (fZ9 hb0)
  have hlil:=yC _ hx9m
  have hnp:0 < x9.n:=by
   rcases Nat.eq_zero_or_pos x9.n with h|h
   ·exact absurd (hxl.symm.trans (List.length_eq_zero_iff.1 (hlil.trans h))) hnil
   exact h
  obtain ⟨bi,oi,hAi⟩:=hin _ hx9m hnp
  obtain ⟨Ai,ni,ci,li⟩:=x9
  dsimp only at hxl hx0 hAi hlil hnp
  subst hAi
  obtain ⟨e0,he0⟩:∃x,li[0]?=some x:=⟨_,fY9 G⟩
  rw [nZ hb0] at hx0
  have hsb:=hstp b0 (fZ9 hb0) e0 (by rw [<-hx0];exact fZ9 he0)
  obtain ⟨e1,e2,e3⟩:=e0
  dsimp only at hsb
  obtain ⟨r1,hg1,hr1⟩:=hre.2 (k2+1) G
  obtain ⟨r9,hg9,hr9⟩:=hre.2 k2 G
  have hrl:=hre.1
  refine gd (fun wz=>Blk wz gx 144 [H A i c,H (some ⟨b9,o9,none⟩) i c9,H Ao i co,H (some ⟨gc,0,none⟩) i i,H (some ⟨gu,0,none⟩) i i,H (some ⟨gr,0,none⟩) (i+1) (i+1),J 0]/\(fun wy=>SlT eQ 1 147 wy (some ⟨b9,o9,none⟩) i cx) wz/\(fun wy=>nX 146 cx wy) wz/\True) mixed (fun _ hm=>⟨hm.bl 0,hm.fa 3,hm.fa 4,bB⟩) fun z=>wq 0 D (bL D) (wq 1 D (cU D) (wq 2 D (bW wC D D) (wq 3 D (cH kY D (fun _ hm=>hm.1) D) (wq 4 D (bL D) (wq 5 D (bL D) (wq 6 D (cU D) (wq 7 D (bW wC D D) (wq 8 D (cH kY D (fun _ hm=>hm.1) D) (wq 9 D (bL D) (wq 10 D (ov_add D D G G) (dI 71 (v':=I (k2+1)) D (fX9 G) (wq 11 D (bV (j:=k2+1) kF D D G) (wq 13 D (bL D) (wq 14 D (cU D) (wq 15 D (bW zC D D) (wq 16 D (cH cY1 D (fun _ hm=>hm.1) D) (wq 17 D (bL D) (wq 18 D (bV (j:=k2) cP0 D D G) (wq 19 D (dH (k:=0) (v:=H (some ⟨bi,oi,none⟩) ni ci) cZ1 D (fun _ hm=>(hm.2.1)) hx9 D D) (wq 20 D (bV (j:=0) bZ4 D D G) (wq 21 D (bW bH5 D D) (wq 22 D (dH (k:=1) (v:=I e2) fM D (fun _ hm=>((hm.2.2.1) _ hx9m)) he0 D D) (eD 12 D (W (dH (k:=0) (v:=I r1) fM D (fun _ hm=>(SlT.ofOwn xL (hm.ownI 0 D) hrl)) hg1 D D) D (bH (nw 26 8388607 (fun _ hm=>⟨hm.bl 0,hm.fa 3,hm.fa 4,bB⟩) fun z=>wq 23 D (ov_add D D G G) (dI 84 (v':=I ((r1+e2))) D (fX9 G) ?_)))))))))))))))))))))))))))
  refine wq 24 D (bV (j:=k2) kF D D G) (eD 25 D (jG (l:=re) (j:=k2) (r:=0) (el:=((r9:Nat):Int)) (el':=((r1+e2:Nat):Int)) 0 fM D D D D xL D hg9 hrl (show 0 < 1 by decide) D D (bH (nw 26 67108863 (fun _ hm=>⟨hm.bl 0,hm.fa 3,hm.fa 4,bB⟩) fun z=>gY (bK (bG (bM (bS D (W (ov_sub D D G G) D (cG D (bH ?_)))))))))))
  exact cQ (k2,re.set k2 ((r1+e2:Nat):Int)) ⟨bE,hre.set G _ _ G⟩ bE ⟨D,D,D,D,D,D,bB⟩ (fun _ hm=>hm.pick [0] [0,1,2,3] [0,1,2,3,4,5] D D)
 refine dD (bI (bI (bY (bG (bJ (bX ?_))))))
 have hj0:j=0:=G
 subst hj0
 refine bS D (bS D ?_)
 refine fW (γ:=List M×List Int×Bool) (val:=fun gg=> .bool gg.2.2) (φ:=fun gg=>gg.1.length=i/\gg.2.1.length=i/\(gg.2.2=true->∃o:List (M×Nat),o.length=i/\GdS cs sl l o/\uS gg.1 gg.2.1 o)) (K':=fun _=>fun _=>True) (L':=fun _=> [(gx,144, [H A i c,H A9 i c9,H Ao i co,H (some ⟨gc,0,none⟩) i i,H (some ⟨gu,0,none⟩) i i,H (some ⟨gr,0,none⟩) (i+1) (i+1),J 0])]) (O':=fun gg=> [⟨H (some ⟨gc,0,none⟩) i i,9,1,i,gg.1.flatMap dU⟩,⟨H (some ⟨gu,0,none⟩) i i,3,1,i,gg.2.1.flatMap gS⟩,⟨H Ao i co,3,1,i,(List.range i).flatMap pW⟩,⟨H (some ⟨gr,0,none⟩) (i+1) (i+1),3,1,(i+1),re.flatMap gS⟩]) (X':=fun _=> [bT eV 6 87 w.heap.size none A i l]) D fP4 D D (fun wx hm=>(dK6 w l A i c cs sl A9 c9 cx Ao co re gx gc gu gr G (kK (hm.ownI 1 D)) hre.1 htm hcx hstm hchl (fun k hk=>by
  obtain ⟨r,h1,h2⟩:=hre.2 k G
  exact ⟨r,h1,G⟩) i 0 G k (List.replicate (i) (⟨#[]⟩:M)) (List.replicate (i) (0:Int)) [] (fun _=>True) wx D (by rw [List.length_replicate]) (by rw [List.length_replicate]) (uS.nil _ _) GdS.nil (fun p hp=>by cases hp) hk6 (hm.pick [0] [2,3,1,0] [2,3,4,5] D D).cy).mono fun _ _ ⟨V,c7,u7,he,h1,h2,h3,_,hm2⟩=>⟨(c7,u7,V),he,⟨h1,h2,h3⟩,(hm2.cy.pick [0] [0,1,2,3] [0] D D)⟩) ?_
 rintro ⟨c7,u7,V⟩ ⟨hc7,hu7,hvs⟩
 dsimp only at hc7 hu7 hvs ⊢
 refine W (cS D) D (bU ?_)
 refine dE D (fun hh=>?_) (fun hh=>?_)
 ·have hvv:V=false:=by simpa using hh
  refine bX (cG D (cG D (bU (bR (F ?_)))))
  refine nU D D D fun wx hm=>?_
  exact ⟨.inl D,hm.g⟩
 have hvv:V=true:=by simpa using hh
 refine bN (bG (bX ?_))
 obtain ⟨o,hol,hgd,hst⟩:=hvs (by simpa using hvv)
 refine mA 115 3 ?_
 refine cG D (bU (bJ (bX (bS D (W (dP pU D) D (bS D (bU (bP ?_))))))))
 have hgl:(gvO l o).length=i:=by unfold gvO;rw [List.length_map,List.length_zip];omega
 refine dS (γ:=Nat×Value) (fun g=>g.1<=i) (fun g=> [(6,H none 0 0),(7,.bool false),(9,.pointer (some ⟨gx,0,none⟩)),(12,g.2),(90,H A i c),(91,I i),(92,I (g.1))]) (fun g=>fun _=>True) (fun g=> [(gx,144, [H A i c,H A9 i c9,H Ao i co,H (some ⟨gc,0,none⟩) i i,H (some ⟨gu,0,none⟩) i i,H (some ⟨gr,0,none⟩) (i+1) (i+1),J 0])]) (fun g=> [⟨g.2,115,3,g.1,((gvO l o).take g.1).flatMap pV⟩,⟨H (some ⟨gc,0,none⟩) i i,9,1,i,c7.flatMap dU⟩,⟨H (some ⟨gu,0,none⟩) i i,3,1,i,u7.flatMap gS⟩]) (fun g=> [bT eV 6 87 w.heap.size none A i l]) (fun g=>i - g.1) (0,H none 0 0) (Nat.zero_le _) ⟨D,D,D,D,D,D,D,bB⟩ (fun _ hm=>hm.pick [0] [0,1,2] [0] D D) ?_
 rintro ⟨q,v⟩ bZ
 replace bZ:q<=i:=bZ
 dsimp only
 refine bX (W (dF D D) D (bU (bJ ?_)))
 refine cN D (fun hq=>?_) (fun hq=>?_)
 ·refine bN (bG (bJ (bP (bX ?_))))
  obtain ⟨b,off,hA,_,_⟩:=hl.get G
  subst hA
  obtain ⟨x,hx⟩:∃x,l[q]?=some x:=⟨_,fY9 G⟩
  obtain ⟨x0,x1,x2,x3,x4,x5⟩:=x
  obtain ⟨p,hp⟩:∃x,o[q]?=some x:=⟨_,fY9 G⟩
  obtain ⟨hcp,hup⟩:=hst.at hp
  have hgo:=eG4 hx hp
  obtain ⟨p1,p2⟩:=p
  dsimp only at hcp hup hgo
  refine bS D (W (bV (j:=q) pU D D G) D (W (dR (vs:= [U x0,U x1,J x2,J x3,J x4,J x5]) bZ1 D (fun _ hm=>(hm.fact 0 D).1) hx D D) D (dM dM1 D fun g3=>cG D (kE (cs':= [U x0,U x1,J x2,J x3,J x4,J x5]) 0 bZ1 D D D D (bU (gd (fun wz=>Blk wz g3 87 [U x0,U x1,J x2,J x3,J x4,J x5]/\Blk wz gx 144 [H (some ⟨b,off,none⟩) i c,H A9 i c9,H Ao i co,H (some ⟨gc,0,none⟩) i i,H (some ⟨gu,0,none⟩) i i,H (some ⟨gr,0,none⟩) (i+1) (i+1),J 0]/\True) mixed (fun _ hm=>⟨hm.bl 0,hm.bl 1,bB⟩) fun z=>wq 0 D (bL D) (wq 1 D (bW bO1 D D) (wq 2 D (cH fR D (fun _ hm=>hm.1) D) (wq 3 D (bL D) (wq 4 D (cU D) (wq 5 D (bW xH D D) (wq 6 D (cH rX D (fun _ hm=>hm.2.1) D) (wq 7 D (bL D) (wq 8 D (bV (j:=q) mD D D G) (wq 10 D (bL D) (wq 11 D (cU D) (wq 12 D (bW bE5 D D) (wq 13 D (cH kY D (fun _ hm=>hm.2.1) D) (wq 14 D (bL D) (wq 15 D (bV (j:=q) kF D D G) ?_))))))))))))))))))))
  refine jC [9,16] bC D ⟨⟨_,D,?_⟩,⟨_,D,?_⟩,bB⟩
  ·refine W (dH (k:=0) (v:=U p1) fR D (fun _ hm=>(SlT.ofOwn mQ (hm.ownI 1 D) hc7)) hcp D D) D ?_
   refine bH (nw 21 65535 (fun _ hm=>⟨hm.bl 0,hm.bl 1,bB⟩) fun z=>eD 16 D (W (dH (k:=0) (v:=I p2) fM D (fun _ hm=>(SlT.ofOwn xL (hm.ownI 2 D) hu7)) hup D D) D (bH (nw 21 131071 (fun _ hm=>⟨hm.bl 0,hm.bl 1,bB⟩) fun z=>wq 17 D (dL (cs:= [U x0,U p1,I p2]) D bC) (eD 18 D (jN 115 [U x0,U p1,I p2] fun g4=>bH (nw 21 524287 (fun _ hm=>⟨hm.bl 1,hm.bl 2,bB⟩) fun z=>eD 19 D (eP (news:= [U x0,U p1,I p2]) 0 0 fC3 D D D D D D D G (by unfold maxLen;omega) D D fun v2 xK=>?_))))))))
   rw [show ((gvO l o).take q).flatMap pV++([U x0,U p1,I p2]:List Value)=((gvO l o).take (q+1)).flatMap pV from by rw [List.take_add_one,hgo];simp [pV]]
   refine bH (nw 21 1048575 (fun _ hm=>⟨hm.bl 1,hm.bl 2,bB⟩) fun z=>wq 20 D (dB D) (gY (bK (bG (bM (fY D D (bS D (bH ?_))))))))
   exact cQ (q+1,v2) bE bE ⟨D,D,D,D,D,D,(cP G),bB⟩ (fun _ hm=>hm.pick [2] [0,1,2] [0] D D)
  refine W (dH (k:=0) (v:=I p2) fM D (fun _ hm=>(SlT.ofOwn xL (hm.ownI 2 D) hu7)) hup D D) D (bH (nw 21 130559 (fun _ hm=>⟨hm.bl 0,hm.bl 1,bB⟩) fun z=>eD 9 D (W (dH (k:=0) (v:=U p1) fR D (fun _ hm=>(SlT.ofOwn mQ (hm.ownI 1 D) hc7)) hcp D D) D (bH (nw 21 131071 (fun _ hm=>⟨hm.bl 0,hm.bl 1,bB⟩) fun z=>wq 17 D (dL (cs:= [U x0,U p1,I p2]) D bC) (eD 18 D (jN 115 [U x0,U p1,I p2] fun g5=>bH (nw 21 524287 (fun _ hm=>⟨hm.bl 1,hm.bl 2,bB⟩) fun z=>eD 19 D (eP (news:= [U x0,U p1,I p2]) 0 0 fC3 D D D D D D D G (by unfold maxLen;omega) D D fun v2 xK=>?_)))))))))
  rw [show ((gvO l o).take q).flatMap pV++([U x0,U p1,I p2]:List Value)=((gvO l o).take (q+1)).flatMap pV from by rw [List.take_add_one,hgo];simp [pV]]
  refine bH (nw 21 1048575 (fun _ hm=>⟨hm.bl 1,hm.bl 2,bB⟩) fun z=>wq 20 D (dB D) (gY (bK (bG (bM (fY D D (bS D (bH ?_))))))))
  exact cQ (q+1,v2) bE bE ⟨D,D,D,D,D,D,(cP G),bB⟩ (fun _ hm=>hm.pick [2] [0,1,2] [0] D D)
 refine dD (bI (bI (bY (bG (bX ?_)))))
 have hqi:q=i:=G
 rw [show ((gvO l o).take q)=gvO l o from List.take_of_length_le G]
 subst hqi
 refine eB (R:=∃A cc,v=H A q cc) (fun wx hm=>dW (hm.ownI 0 D)) ?_
 rintro ⟨Az,cz,rfl⟩
 refine bS D (cG D (cG D (bU (bR ?_))))
 refine nU D D D fun wx hm=>?_
 exact ⟨.inr ⟨o,Az,cz,hol,hgd,D,SlT.ofOwn fR0 (hm.ownI 0 D) hgl,kK (hm.ownI 0 D)⟩,hm.g⟩
theorem cQ2{cs:List Cs}{sl:List Sk}{l:List Bk}(h:dK [qF cs sl,gC cs l]=0):(cs.length<=30/\nY cs/\uI cs cs.length=false)/\(∀k,qM sl k<=100)/\(∀b∈l,uH cs [b.cls]=0)/\bH0 l/\uO l=0:=by
 obtain ⟨h1,h2⟩:=uZ h
 obtain ⟨hc0,hf0,hk⟩:=dJ2 h2
 exact ⟨xE hc0,eM6 h1,hk,cL9 hf0,hf0⟩
def bF6(n:Nat):Int:=dK [0,dO (decide (7 < ((n:Nat):Int))) 2]
theorem cZ4{n:Nat}(h:7 < n):bF6 n=2:=by
 unfold bF6 dO
 rw [decide_eq_true G];rfl
theorem eH3{n:Nat}(h:n<=7):bF6 n=0:=by
 unfold bF6 dO
 rw [decide_eq_false G];rfl
theorem dS8{n:Nat}(h:bF6 n≠0):7 < n:=by
 rcases Nat.lt_or_ge 7 n with h7|h7
 ·exact h7
 ·exact absurd (eH3 h7) h
theorem dL0{n:Nat}(h:bF6 n=0):n<=7:=by
 rcases Nat.lt_or_ge 7 n with h7|h7
 ·rw [cZ4 h7] at h;cases h
 ·exact h7
def gvT(l:List Bk)(ok:Bool)(o:List (M×Nat)):List Gv:=bif ok then gvO l o else []
def fQ2(cs:List Cs)(sl:List Sk)(l:List Bk)(n:Nat)(ok:Bool)(A2:Option Addr)(n2 c2:Nat)(o:List (M×Nat)):Prop:=(ok=false->A2=none/\n2=0/\c2=0)/\(ok=true->n2=n/\o.length=n/\GdS cs sl l o/\n<=c2)
theorem eZ4{cs:List Cs}{sl:List Sk}{l:List Bk}{n:Nat}{e:Ending}{w w':World}(h:e=.returned (.tuple #[H none 0 0,.bool false])∨∃(o:List (M×Nat)) (A':Option Addr) (c':Nat),o.length=n/\GdS cs sl l o/\e=.returned (.tuple #[H A' n c',.bool true])/\SlT pV 3 115 w' A' n (gvO l o)/\n<=c')(hg:w.grownBy w' none):∃g:Bool×Option Addr×Nat×Nat×List (M×Nat),e=.returned (.tuple #[H g.2.1 g.2.2.1 g.2.2.2.1,.bool g.1])/\fQ2 cs sl l n g.1 g.2.1 g.2.2.1 g.2.2.2.1 g.2.2.2.2/\w.grownBy w' none/\SlT pV 3 115 w' g.2.1 g.2.2.1 (gvT l g.1 g.2.2.2.2):=by
 rcases h with he|⟨o,A2,c2,h1,h2,he,hs,h3⟩
 ·exact ⟨(false,none,0,0, []),he,⟨fun _=>⟨D,D,D⟩,fun h=>(by cases h)⟩,hg,SlT.nil_ _ _⟩
 ·exact ⟨(true,A2,n,c2,o),he,⟨fun h=>(by cases h),fun _=>⟨D,h1,h2,h3⟩⟩,hg,hs⟩
theorem dA1(cs:List Cs)(A0:Option Addr)(n0 c0:Nat)(sl:List Sk)(A1:Option Addr)(n1 c1:Nat)(l:List Bk)(A:Option Addr)(n c:Nat)(w:World)(hcs:SlT dQ 2 53 w A0 n0 cs)(pI:∀x∈cs,pR x)(hn0:n0<=1000)(hs:SlT jA 2 57 w A1 n1 sl)(hso:∀x∈sl,cA0 x)(qV:n1<=1000)(hl:SlT eV 6 87 w A n l)(hok:∀x∈l,bM3 x)(hn:n<=1000)(hE:dK [qF cs sl,gC cs l]=0):
 Calls prog 8 #[H A0 n0 c0,H A1 n1 c1,H A n c] w (fun e w'=>((7 < n/\e=.returned (.tuple #[H none 0 0,J 2]))∨(n<=7/\e=.returned (.tuple #[H none 0 0,J 12]))∨(n<=7/\∃(o:List (M×Nat)) (A':Option Addr) (c':Nat),o.length=n/\GdS cs sl l o/\e=.returned (.tuple #[H A' n c',J 0])/\SlT pV 3 115 w' A' n (gvO l o)/\n<=c'))/\w.grownBy w' none):=by
 refine cY ⟨34,w,none, [115]⟩ func8 D ntmps8 D (fZ (X:= [bT dQ 2 53 w.heap.size none A0 n0 cs,bT jA 2 57 w.heap.size none A1 n1 sl,bT eV 6 87 w.heap.size none A n l]) (cC hcs.old (cC hs.old (cC hl.old cZ))) (cE bT.lasts (cE bT.lasts (cE bT.lasts dA)))) (bX ?_)
 have hlen:=hl.len
 refine cG D (cG D (bU (bJ (bX (bS D (bS D (bS D (cR (v:=J 0) D eU9 D D (fun wx hm=>(by have h:=yX cs A0 n0 c0 sl A1 n1 c1 l A n c wx (hm.fact 0 rfl).1 pI G (hm.fact 1 rfl).1 hso G (hm.fact 2 rfl).1 hok G;rw [hE] at h;exact h)) (bS D (W (dP pU D) D (W (eM D D) D (dC D qB D D (fun wx hm=>(eH _ _ wx)) (jN 48 [J 0,J (dO (decide (7 < ((n:Nat):Int))) 2)] fun g1=>dC D vO D D (fun wx hm=>(fP [0,dO (decide (7 < ((n:Nat):Int))) 2] _ _ _ wx (hm.blkI 0 D) (by simp))) (cG D (bU (bX (bS D (W (gN D D) D (bU ?_)))))))))))))))))))
 refine gL D (fun h1=>?_) (fun h1=>?_)
 ·refine bX (bS D (cG D (cG D (bU ?_))))
  refine bR (F ?_)
  have h7:7 < n:=dS8 (by have h9:=h1;simpa [bF6] using h9)
  refine nU D D D fun wx hm=>?_
  exact ⟨.inl ⟨h7,by have e:=cZ4 h7;unfold bF6 at e;rw [e]⟩,hm.g⟩
 refine bN (bG (bX ?_))
 have h7:n<=7:=dL0 (by have h9:=h1;simpa [bF6] using h9)
 obtain ⟨⟨h30,hcl,hlo⟩,hmany,hkeys,htm,_⟩:=cQ2 hE
 refine bS D (bS D (bS D ?_))
 refine fK (γ:=Bool×Option Addr×Nat×Nat×List (M×Nat)) (val:=(fun g=> .tuple #[H g.2.1 g.2.2.1 g.2.2.2.1,.bool g.1])) (φ:=(fun g=>fQ2 cs sl l n g.1 g.2.1 g.2.2.1 g.2.2.2.1 g.2.2.2.2)) (Y:=(fun g=>fun wy=>SlT pV 3 115 wy g.2.1 g.2.2.1 (gvT l g.1 g.2.2.2.2))) D fF7 D D (fun wx hm=>(dC1 cs A0 n0 c0 sl A1 n1 c1 l A n c wx (hm.fact 0 D).1 pI hn0 (hm.fact 1 D).1 hso qV (hm.fact 2 D).1 G hmany hcl hlo h30 hkeys htm).mono fun _ _ ⟨h,hg⟩=>eZ4 h hg) (fun _=>SlT.lasts2 D) ?_
 rintro ⟨ok,A2,n2,c2,o⟩ hcc
 dsimp only at hcc ⊢
 refine bS D (W (cV D D) D (W (cV D D) D (cG D (cG D (bU (bJ (bX (bS D (W (cS D) D (bU ?_))))))))))
 refine dE D (fun hh=>?_) (fun hh=>?_)
 ·have hok2:ok=false:=by simpa using hh
  refine bX (cG D (cG D (bU (bR (F ?_)))))
  refine nU D D D fun wx hm=>?_
  exact ⟨.inr (.inl ⟨h7,D⟩),hm.g⟩
 have hok2:ok=true:=by simpa using hh
 refine bN (bG (bX (bS D (cG D (cG D (bU (bR ?_)))))))
 obtain ⟨rfl,hol,hgd,hc2⟩:=hcc.2 (by simpa using hok2)
 obtain rfl:ok=true:=by simpa using hok2
 refine nU D D D fun wx hm=>?_
 exact ⟨.inr (.inr ⟨h7,o,A2,c2,hol,hgd,D,(hm.fact 0 D),hc2⟩),hm.g⟩
theorem fH2{l:List Bk}{o:List (M×Nat)}(ho:o.length=l.length):bO5 l (gvO l o)=true:=by
 unfold bO5
 rw [Bool.and_eq_true,decide_eq_true_eq,List.all_eq_true]
 refine ⟨by unfold gvO;rw [List.length_map,List.length_zip];omega,fun x hx=>?_⟩
 obtain ⟨i,hi⟩:=List.getElem?_of_mem hx
 obtain ⟨b,p,_,_,rfl⟩:=fG2 hi
 exact beq_self_eq_true _
theorem GdS.el{cs:List Cs}{sl:List Sk}{l:List Bk}{o:List (M×Nat)}(h:GdS cs sl l o)(hcl:nY cs)(hlo:uI cs cs.length=false){i:Nat}{b:Bk}{p:M×Nat}(hb:l[i]?=some b)(hp:o[i]?=some p)(hk:xY cs b.cls=false):xY cs p.1=false/\decide (0<=vJ cs b.cls p.1)=true/\inB (p.2:Int) 1 (qM sl p.1)=true:=by
 obtain ⟨⟨s,hs⟩,h3,h4⟩:=h.ch i p hp
 rw [nZ hb] at hs
 have hbk:0<=kL (nS b.cls) cs 0:=by have:=of_decide_eq_false hk;omega
 have hst:=eL3 hcl hlo hbk (cM2 hs)
 obtain ⟨j,hj,_⟩:=cX7 _ _ _ (cM2 hs)
 dsimp only at hst hj
 refine ⟨eE4 hcl hbk (fZ9 hj),decide_eq_true G,nK.2 ?_⟩
 unfold mR at h4
 omega
theorem GdS.apart{cs:List Cs}{sl:List Sk}{l:List Bk}{o:List (M×Nat)}(h:GdS cs sl l o){i j:Nat}{b d:Bk}{p q:M×Nat}(hj:j < i)(hb:l[i]?=some b)(hd:l[j]?=some d)(hp:o[i]?=some p)(hq:o[j]?=some q)(h1:(p.1.toList==q.1.toList)=true)(h2:decide (((p.2:Nat):Int)=((q.2:Nat):Int))=true):bT5 b.fr b.to_ d.fr d.to_=false:=by
 obtain ⟨p1,p2⟩:=p
 obtain ⟨q1,q2⟩:=q
 have e1:p1=q1:=yW (by simpa using h1)
 have e2:p2=q2:=by have:=of_decide_eq_true h2;dsimp only at this;omega
 subst e1;subst e2
 have h9:=h.no i j _ hj hq hp
 rw [nZ hb,nZ hd] at h9
 unfold mtW wnB at h9
 unfold bT5
 simp only [Bool.and_eq_false_iff,decide_eq_false_iff_not] at h9 ⊢
 omega
theorem dK9(cs:List Cs)(A0:Option Addr)(n0 c0:Nat)(l:List Bk)(A:Option Addr)(n c:Nat)(q:M)(w:World)(hcs:SlT dQ 2 53 w A0 n0 cs)(pI:∀x∈cs,pR x)(hn0:n0<=1000)(hl:SlT eV 6 87 w A n l)(hok:∀x∈l,bM3 x)(hn:n<=1000)(hz:gC cs l=0)(hq:xY cs q=false)(htm:bH0 l):
 Calls prog 10 #[H A0 n0 c0,H A n c,U q] w (fun e w'=>e=.returned (.tuple #[J (pJ (mY q l) 0 5761440).1,J (pJ (mY q l) 0 5761440).2,J 0])/\w.grownBy w' none):=by
 refine cY ⟨35,w,none, []⟩ func10 D ntmps10 D (fZ (X:= [bT dQ 2 53 w.heap.size none A0 n0 cs,bT eV 6 87 w.heap.size none A n l]) (cC hcs.old (cC hl.old cZ)) (cE bT.lasts (cE bT.lasts dA))) (bX ?_)
 have hlen:=hl.len
 refine cG D (cG D (cG D (bU (bJ (bX (bS D (bS D (cR (v:=J 0) D eV9 D D (fun wx hm=>(by have h:=bP3 cs A0 n0 c0 l A n c wx (hm.fact 0 rfl).1 pI hn0 (hm.fact 1 rfl).1 hok hn;rw [hz] at h;exact h)) (bS D (bS D (cR (v:= .bool true) D eI0 D D (fun wx hm=>(by have h:=uF cs A0 n0 c0 q wx (hm.fact 0 rfl).1 pI hn0;rw [hq] at h;exact h)) (W (cS D) D (bO 18 (v':= .bool false) D (D) (dC D qB D D (fun wx hm=>(eH _ _ wx)) (jN 48 [J 0,J (dO false 8)] fun g1=>dC D vO D D (fun wx hm=>(fP [0,dO false 8] _ _ _ wx (hm.blkI 0 D) (by simp))) (cG D (bU (bX (bS D (W (gN D D) D (bO 23 (v':= .bool false) D (D) (bU (jK D (bN (bG (bX (bS D (bS D ?_))))))))))))))))))))))))))))
 refine qX (γ:=Option Addr×Nat×Nat) (val:=(fun g=>H g.1 g.2.1 g.2.2)) (φ:=(fun g=>(mY q l).length=g.2.1)) (fun g=>⟨H g.1 g.2.1 g.2.2,67,2,g.2.1,(mY q l).flatMap bD1⟩) D fI4 D D (fun wx hm=>(bW8 l A n c q wx (hm.fact 1 D).1 hok hn).mono fun _ _ ⟨A4,k,c4,he,ho,hk,hg⟩=>⟨(A4,k,c4),he,hk,ho,hg⟩) ?_
 rintro ⟨A4,k,c4⟩ hk
 dsimp only at hk ⊢
 have hkn:=bK6 q l
 have hbl:=cL8 (T:=mY q l) (a:=0) (b:=5761440) (n:=n) G
 obtain ⟨X1,hX1⟩:∃v,v=(pJ (mY q l) 0 5761440).1:=⟨_,rfl⟩
 obtain ⟨X2,hX2⟩:∃v,v=(pJ (mY q l) 0 5761440).2:=⟨_,rfl⟩
 rw [<-hX1] at hbl
 refine W (dL (cs:= [J 0,J 5761440]) D bC) D (cR (v:= .tuple #[J X1,J X2]) D eW9 D D (fun wx hm=>(by rw [hX1,hX2];exact bI1 (mY q l) A4 k c4 0 5761440 wx (SlT.ofOwn eB4 (hm.ownI 0 rfl) hk) (cT7 htm q) G G)) (bS D (W (cV D D) D (W (cV D D) D (cG D (cG D (bU (bX (bS D (bS D (cG D (cG D (cG D (bU (bR ?_)))))))))))))))
 refine dS5 D D D D fun wx hm=>?_
 exact ⟨by rw [<-hX1,<-hX2],hm.g⟩
theorem dL9(cs:List Cs)(A0:Option Addr)(n0 c0:Nat)(sl:List Sk)(A1:Option Addr)(n1 c1:Nat)(l:List Bk)(A:Option Addr)(n c:Nat)(q:M)(a b:Int)(w:World)(hcs:SlT dQ 2 53 w A0 n0 cs)(pI:∀x∈cs,pR x)(hn0:n0<=1000)(hs:SlT jA 2 57 w A1 n1 sl)(hso:∀x∈sl,cA0 x)(qV:n1<=1000)(hl:SlT eV 6 87 w A n l)(hok:∀x∈l,bM3 x)(hn:n<=1000)(hz:dK [qF cs sl,gC cs l]=0)(hq:xY cs q=false)(htm:bH0 l)(ha:0<=a)(hab:a < b)(hb:b<=5761439):
 Calls prog 11 #[H A0 n0 c0,H A1 n1 c1,H A n c,U q,.agg #[J a,J b]] w (fun e w'=>e=.returned (.tuple #[J (qM sl q - (pJ (mY q l) a b).1),J 0])/\w.grownBy w' none):=by
 refine cY ⟨58,w,none, []⟩ func11 D ntmps11 D (fZ (X:= [bT dQ 2 53 w.heap.size none A0 n0 cs,bT jA 2 57 w.heap.size none A1 n1 sl,bT eV 6 87 w.heap.size none A n l]) (cC hcs.old (cC hs.old (cC hl.old cZ))) (cE bT.lasts (cE bT.lasts (cE bT.lasts dA)))) (bX ?_)
 have hlen:=hl.len
 have hmb:=cZ9 hso q
 refine fS D D D fun g1=>cG D (cG D (bU (bJ (bJ (gd (fun wz=>Blk wz g1 67 [J a,J b]/\True) mixed (fun _ hm=>⟨hm.bl 0,bB⟩) fun z=>wq 0 D (bL D) (wq 1 D (bL D) (wq 2 D (bL D) (wq 4 D (bL D) (wq 5 D (bL D) (wq 9 D (bW rQ D D) (wq 10 D (cH fM D (fun _ hm=>hm.1) D) (wq 11 D (dF D D) (dI 26 (v':= .bool false) D (fW9 (decide_eq_false G)) (eD 3 D (cR (v:=J 0) D eU9 D D (fun wx hm=>(by have h:=yX cs A0 n0 c0 sl A1 n1 c1 l A n c wx (hm.fact 0 rfl).1 pI hn0 (hm.fact 1 rfl).1 hso qV (hm.fact 2 rfl).1 hok hn;rw [hz] at h;exact h)) (bH (nw 28 3647 (fun _ hm=>⟨hm.bl 0,bB⟩) fun z=>eD 6 D (cR (v:= .bool true) D eI0 D D (fun wx hm=>(by have h:=uF cs A0 n0 c0 q wx (hm.fact 0 rfl).1 pI hn0;rw [hq] at h;exact h)) (bH (nw 28 3711 (fun _ hm=>⟨hm.bl 0,bB⟩) fun z=>wq 7 D (cS D) (dI 22 (v':= .bool false) D (D) (eD 8 D (dC D qB D D (fun wx hm=>(eH _ _ wx)) (bH (nw 28 4095 (fun _ hm=>⟨hm.bl 0,bB⟩) fun z=>?_)))))))))))))))))))))))))
 refine wq 12 D (bL D) (eU 13 D (bW rQ D D) (eU 14 D (cH fM D (fun _ hm=>hm.1) D) (eU 15 D (bW wT D D) (eU 16 D (cH fM D (fun _ hm=>hm.1) D) (eU 17 D (mE D D) (dI 32 (v':= .bool false) D (fW9 (decide_eq_false G)) (wq 18 D (eZ D D) (wq 19 D (bL D) (eU 20 D (bW wT D D) (eU 21 D (cH fM D (fun _ hm=>hm.1) D) (eU 22 D (eM D D) (dI 37 (v':= .bool false) D (fW9 (decide_eq_false G)) (wq 23 D (eZ D D) (eD 24 D (dC D qB D D (fun wx hm=>(eH _ _ wx)) (bH (nw 28 33554431 (fun _ hm=>⟨hm.bl 0,bB⟩) fun z=>eD 25 D (jN 48 [J 0,J (dO false 8),J (dO false 1)] fun g2=>bH (nw 28 67108863 (fun _ hm=>⟨hm.bl 1,bB⟩) fun z=>eD 26 D (dC D vO D D (fun wx hm=>(fP [0,dO false 8,dO false 1] _ _ _ wx (hm.blkI 0 D) (by simp))) (bH (nw 28 134217727 (fun _ hm=>⟨hm.bl 1,bB⟩) fun z=>wq 27 D (dB D) (gY ?_)))))))))))))))))))))))
 refine bG (bX (bS D (W (gN D D) D (bO 43 (v':= .bool false) D (D) (bU (jK D (bN (bG (bJ (gd (fun wz=>Blk wz g1 67 [J a,J b]/\True) mixed (fun _ hm=>⟨hm.bl 1,bB⟩) fun z=>wq 0 D (bL D) (wq 1 D (bL D) (wq 3 D (dG bD6 D (fun _ hm=>hm.1) D D) (eD 2 D ?_)))))))))))))
 refine qX (γ:=Option Addr×Nat×Nat) (val:=(fun g=>H g.1 g.2.1 g.2.2)) (φ:=(fun g=>(mY q l).length=g.2.1)) (fun g=>⟨H g.1 g.2.1 g.2.2,67,2,g.2.1,(mY q l).flatMap bD1⟩) D fI4 D D (fun wx hm=>(bW8 l A n c q wx (hm.fact 2 D).1 hok hn).mono fun _ _ ⟨A4,k,c4,he,ho,hk,hg⟩=>⟨(A4,k,c4),he,hk,ho,hg⟩) ?_
 rintro ⟨A4,k,c4⟩ hk
 dsimp only at hk ⊢
 have hkn:=bK6 q l
 have hbl:=cL8 (T:=mY q l) (a:=a) (b:=b) (n:=n) G
 obtain ⟨X1,hX1⟩:∃v,v=(pJ (mY q l) a b).1:=⟨_,rfl⟩
 obtain ⟨X2,hX2⟩:∃v,v=(pJ (mY q l) a b).2:=⟨_,rfl⟩
 rw [<-hX1] at hbl
 refine bH (nw 10 15 (fun _ hm=>⟨hm.bl 1,bB⟩) fun z=>eD 4 D (cR (v:= .tuple #[J X1,J X2]) D eW9 D D (fun wx hm=>(by rw [hX1,hX2];exact bI1 (mY q l) A4 k c4 a b wx (SlT.ofOwn eB4 (hm.ownI 0 rfl) hk) (cT7 htm q) G G)) (bH (nw 10 31 (fun _ hm=>⟨hm.bl 1,bB⟩) fun z=>wq 5 D (bL D) (wq 6 D (cV D D) (wq 7 D (cV D D) (wq 8 D (dB D) (wq 9 D (dB D) (gY (bG (bX (bS D (bS D (cR D eX9 D D (fun wx hm=>(cI1 sl A1 n1 c1 q wx (hm.fact 1 D).1 hso qV)) (bS D (W (ov_sub D D G G) D (cG D (cG D (bU (bR ?_))))))))))))))))))))
 refine nU D D D fun wx hm=>?_
 exact ⟨by rw [<-hX1],hm.g⟩
theorem eF4{l:List Bk}{o:List (M×Nat)}{i:Nat}{b:Bk}{p:M×Nat}(h1:l[i]?=some b)(h2:o[i]?=some p):(gvO l o)[i]?=some ⟨b.key,p.1,(p.2:Int)⟩:=by
 unfold gvO
 rw [List.getElem?_map,dP4 h1 h2];rfl
theorem dL4(cs:List Cs)(A0:Option Addr)(n0 c0:Nat)(sl:List Sk)(A1:Option Addr)(n1 c1:Nat)(l:List Bk)(A:Option Addr)(n c:Nat)(o:List (M×Nat))(G':Option Addr)(gc:Nat)(w:World)(hcs:SlT dQ 2 53 w A0 n0 cs)(pI:∀x∈cs,pR x)(hn0:n0<=1000)(hs:SlT jA 2 57 w A1 n1 sl)(hso:∀x∈sl,cA0 x)(qV:n1<=1000)(hl:SlT eV 6 87 w A n l)(hok:∀x∈l,bM3 x)(hn:n<=1000)(hg:SlT pV 3 115 w G' n (gvO l o))(hgc:n<=gc)(ho:o.length=l.length)(hgd:GdS cs sl l o)(hz:dK [qF cs sl,gC cs l]=0):
 Calls prog 14 #[H A0 n0 c0,H A1 n1 c1,H A n c,H G' n gc] w (fun e w'=>e=.returned (J 0)/\w.grownBy w' none):=by
 refine cY ⟨107,w,none, []⟩ func14 D ntmps14 D (fZ (X:= [bT dQ 2 53 w.heap.size none A0 n0 cs,bT jA 2 57 w.heap.size none A1 n1 sl,bT eV 6 87 w.heap.size none A n l,bT pV 3 115 w.heap.size none G' n (gvO l o)]) (cC hcs.old (cC hs.old (cC hl.old (cC hg.old cZ)))) (cE bT.lasts (cE bT.lasts (cE bT.lasts (cE bT.lasts dA))))) (bX ?_)
 have hll:=hl.len
 obtain ⟨hce,hfm,hcl2⟩:=dI8 hz
 have hcz:=xE hce
 have htim:=cL9 hfm
 refine cG D (bU (bJ (bX (bS D (bS D (bS D (cR (v:=J 0) D eU9 D D (fun wx hm=>(by have h:=yX cs A0 n0 c0 sl A1 n1 c1 l A n c wx (hm.fact 0 rfl).1 pI hn0 (hm.fact 1 rfl).1 hso qV (hm.fact 2 rfl).1 hok hn;rw [hz] at h;exact h)) (cG D (bU (bX (bS D (W (gN D D) D (bO 23 (v':= .bool false) D (D) (bU (jK D (bN (bG (bJ (bX (bS D (bS D (cR (v:= .bool true) D fH7 D D (fun wx hm=>(by have h:=dB2 l A n c (gvO l o) G' n gc wx (hm.fact 2 rfl).1 hn (hm.fact 3 rfl).1 hn;rw [fH2 ho] at h;exact h)) (W (cS D) D (bO 28 (v':= .bool false) D (D) ?_))))))))))))))))))))))))
 refine bU (jK D (bN (bG (bJ (bX (bS D (W (dP cX5 D) D (bS D (bU (bP ?_))))))))))
 refine dS (γ:=Nat) (fun (i:Nat)=>i<=n) (fun (i:Nat)=> [(0,H A0 n0 c0),(1,H A1 n1 c1),(2,H A n c),(3,H G' n gc),(29,H G' n gc),(30,I n),(31,I i)]) (fun (i:Nat)=>fun _=>True) (fun (i:Nat)=> []) (fun (i:Nat)=> []) (fun (i:Nat)=> [bT dQ 2 53 w.heap.size none A0 n0 cs,bT jA 2 57 w.heap.size none A1 n1 sl,bT eV 6 87 w.heap.size none A n l,bT pV 3 115 w.heap.size none G' n (gvO l o)]) (fun (i:Nat)=>n - i) 0 (Nat.zero_le _) ⟨D,D,D,D,D,D,D,bB⟩ (fun _ hm=>hm.pick [] [] [0,1,2,3] D D) ?_
 intro i bZ
 replace bZ:i<=n:=bZ
 refine bX (W (dF D D) D (bU (bJ ?_)))
 refine cN D (fun hi=>?_) (fun hi=>?_)
 ·refine bN (bG (bJ (bP (bX ?_))))
  obtain ⟨gb,dL2,hA,_,_⟩:=hg.get G
  subst hA
  obtain ⟨ab,aoff,hA,_,_⟩:=hl.get G
  subst hA
  obtain ⟨bx,hbx1⟩:∃x,l[i]?=some x:=⟨_,fY9 G⟩
  obtain ⟨b0,b1,b2,b3,b4,b5⟩:=bx
  obtain ⟨p1,hp1⟩:∃x,o[i]?=some x:=⟨_,fY9 G⟩
  have hgx1:=(eF4 hbx1 hp1)
  have hnb:=hcl2 _ (fZ9 hbx1)
  dsimp only at hnb
  obtain ⟨h1,h2,h3⟩:=hgd.el hcz.2.1 hcz.2.2 hbx1 hp1 hnb
  dsimp only at h2
  refine bS D (W (bV (j:=i) cX5 D D G) D (W (dR (vs:= [U b0,U p1.1,I (p1.2)]) bC6 D (fun _ hm=>(hm.fact 3 D).1) hgx1 D D) D (dM dL6 D fun g1=>cG D (kE (cs':= [U b0,U p1.1,I (p1.2)]) 0 bC6 D D D D (bU (bJ (bX (bS D (dZ bD5 D D (eO fR 0 D D D (cR (v:= .bool true) D eI0 D D (fun wx hm=>(by have h:=uF cs A0 n0 c0 p1.1 wx (hm.fact 0 rfl).1 pI hn0;rw [h1] at h;exact h)) (W (cS D) D (bO 40 (v':= .bool false) D (D) (bU (jK D (bN (bG (bJ (bJ (gd (fun wz=>Blk wz g1 115 [U b0,U p1.1,I (p1.2)]/\(bT eV 6 87 w.heap.size none (some ⟨ab,aoff,none⟩) n l) wz/\True) mixed (fun _ hm=>⟨hm.bl 0,hm.fa 2,bB⟩) fun z=>wq 0 D (bL D) (wq 1 D (bL D) (wq 2 D (bL D) (wq 3 D (bV (j:=i) pU D D G) (wq 4 D (bW bF7 D D) (wq 5 D (dH (k:=1) (v:=U b1) fR D (fun _ hm=>(hm.2.1).1) hbx1 D D) (wq 6 D (bW bD5 D D) (wq 7 D (cH fR D (fun _ hm=>hm.1) D) ?_)))))))))))))))))))))))))))
  refine eD 8 D (cR (v:= .tuple #[J (max (vJ cs b1 p1.1) 0),.bool true]) D fJ7 D D (fun wx hm=>(by have h:=dS0 cs A0 n0 c0 b1 p1.1 wx (hm.fact 0 rfl).1 pI hn0 (eH6 hce hnb h1);rw [h2] at h;exact h)) (bH (nw 14 511 (fun _ hm=>⟨hm.bl 0,hm.fa 2,bB⟩) fun z=>wq 9 D (bL D) (wq 10 D (cV D D) (wq 11 D (cV D D) (wq 12 D (dB D) (wq 13 D (dB D) (gY (bG (bX (bS D (W (cS D) D (bO 54 (v':= .bool false) D (D) (bU (jK D (bN (bG (bJ (gd (fun wz=>Blk wz g1 115 [U b0,U p1.1,I (p1.2)]/\True) mixed (fun _ hm=>⟨hm.bl 0,bB⟩) fun z=>wq 0 D (bW cD6 D D) (wq 1 D (cH fM D (fun _ hm=>hm.1) D) (wq 2 D (bL D) (wq 3 D (bW bD5 D D) (wq 4 D (cH fR D (fun _ hm=>hm.1) D) (eD 5 D (cR D eX9 D D (fun wx hm=>(cI1 sl A1 n1 c1 p1.1 wx (hm.fact 1 D).1 hso qV)) (bH (nw 8 63 (fun _ hm=>⟨hm.bl 0,bB⟩) fun z=>?_)))))))))))))))))))))))))))
  refine eD 6 D (dC D pS D D (fun wx hm=>(in_any _ _ _ wx)) (bH (nw 8 127 (fun _ hm=>⟨hm.bl 0,bB⟩) fun z=>wq 7 D (cS D) (dI 62 (v':= .bool false) D (fW9 (by rw [h3];rfl)) (gY (bG (jK D (bN (bK (bG (bM (fY D D (bS D (bH ?_))))))))))))))
  exact cQ (i+1) G G ⟨D,D,D,D,D,D,(cP G),bB⟩ (fun _ hm=>hm.pick [] [] [0,1,2,3] D D)
 refine dD (bI (bI (bY (bG (bJ (bX (bS D (W (dP cX5 D) D (bS D (bU (bP ?_)))))))))))
 refine dS (γ:=Nat) (fun (j:Nat)=>j<=n) (fun (j:Nat)=> [(2,H A n c),(3,H G' n gc),(64,H G' n gc),(65,I n),(66,I j)]) (fun (j:Nat)=>fun _=>True) (fun (j:Nat)=> []) (fun (j:Nat)=> []) (fun (j:Nat)=> [bT dQ 2 53 w.heap.size none A0 n0 cs,bT jA 2 57 w.heap.size none A1 n1 sl,bT eV 6 87 w.heap.size none A n l,bT pV 3 115 w.heap.size none G' n (gvO l o)]) (fun (j:Nat)=>n - j) 0 (Nat.zero_le _) ⟨D,D,D,D,D,bB⟩ (fun _ hm=>hm.pick [] [] [0,1,2,3] D D) ?_
 intro j bZ
 replace bZ:j<=n:=bZ
 refine bX (W (dF D D) D (bU (bJ ?_)))
 refine cN D (fun hj=>?_) (fun hj=>?_)
 ·refine bN (bG (bJ (bP (bX ?_))))
  obtain ⟨gb,dL2,hA,_,_⟩:=hg.get G
  subst hA
  obtain ⟨ab,aoff,hA,_,_⟩:=hl.get G
  subst hA
  obtain ⟨bx,hbx1⟩:∃x,l[j]?=some x:=⟨_,fY9 G⟩
  obtain ⟨b0,b1,b2,b3,b4,b5⟩:=bx
  obtain ⟨p1,hp1⟩:∃x,o[j]?=some x:=⟨_,fY9 G⟩
  have hgx1:=(eF4 hbx1 hp1)
  refine bS D (W (bV (j:=j) cX5 D D G) D (W (dR (vs:= [U b0,U p1.1,I (p1.2)]) bC6 D (fun _ hm=>(hm.fact 3 D).1) hgx1 D D) D (dM dL6 D fun g2=>cG D (kE (cs':= [U b0,U p1.1,I (p1.2)]) 0 bC6 D D D D (bU (bX (bS D (bS D (W (qN (hi:=j) cX5 D D D G) D (W (dP cX5 D) D (bS D (bU (bP ?_)))))))))))))
  refine dS (γ:=Nat) (fun (k:Nat)=>k<=j) (fun (k:Nat)=> [(2,H (some ⟨ab,aoff,none⟩) n c),(3,H (some ⟨gb,dL2,none⟩) n gc),(14,I j),(15,.pointer (some ⟨g2,0,none⟩)),(64,H (some ⟨gb,dL2,none⟩) n gc),(65,I n),(66,I j),(73,H (some ⟨gb,dL2,none⟩) j gc),(74,I j),(75,I k)]) (fun (k:Nat)=>fun _=>True) (fun (k:Nat)=> [(g2,115, [U b0,U p1.1,I (p1.2)])]) (fun (k:Nat)=> []) (fun (k:Nat)=> [bT dQ 2 53 w.heap.size none A0 n0 cs,bT jA 2 57 w.heap.size none A1 n1 sl,bT eV 6 87 w.heap.size none (some ⟨ab,aoff,none⟩) n l,bT pV 3 115 w.heap.size none (some ⟨gb,dL2,none⟩) n (gvO l o)]) (fun (k:Nat)=>j - k) 0 (Nat.zero_le _) ⟨D,D,D,D,D,D,D,D,D,D,bB⟩ (fun _ hm=>hm.pick [0] [] [0,1,2,3] D D) ?_
  intro k bZ
  replace bZ:k<=j:=bZ
  refine bX (W (dF D D) D (bU (bJ ?_)))
  refine cN D (fun hk=>?_) (fun hk=>?_)
  ·refine bN (bG (bJ (bP (bX ?_))))
   have hkn:k < n:=G
   obtain ⟨bx,hbx2⟩:∃x,l[k]?=some x:=⟨_,fY9 G⟩
   obtain ⟨d0,d1,d2,d3,d4,d5⟩:=bx
   obtain ⟨p2,hp2⟩:∃x,o[k]?=some x:=⟨_,fY9 G⟩
   have hgx2:=(eF4 hbx2 hp2)
   refine bS D (W (bV (j:=k) cX5 D D G) D (W (dR (vs:= [U d0,U p2.1,I (p2.2)]) bC6 D (fun _ hm=>(hm.fact 3 D).1) hgx2 D D) D (dM dL6 D fun g3=>cG D (kE (cs':= [U d0,U p2.1,I (p2.2)]) 0 bC6 D D D D (bU (bJ (gd (fun wz=>Blk wz g3 115 [U d0,U p2.1,I (p2.2)]/\Blk wz g2 115 [U b0,U p1.1,I (p1.2)]/\(bT eV 6 87 w.heap.size none (some ⟨ab,aoff,none⟩) n l) wz/\True) mixed (fun _ hm=>⟨hm.bl 0,hm.bl 1,hm.fa 2,bB⟩) fun z=>wq 0 D (bW bD5 D D) (wq 1 D (cH fR D (fun _ hm=>hm.2.1) D) (wq 2 D (bW bD5 D D) (wq 3 D (cH fR D (fun _ hm=>hm.1) D) (wq 4 D (eS D D) (wq 5 D (bL D) ?_))))))))))))
   rcases Bool.eq_false_or_eq_true (p1.1.toList==p2.1.toList) with hg0|hg0
   ·refine dI 85 D (fW9 hg0) ?_
    refine eU 6 D (bW cD6 D D) (eU 7 D (cH fM D (fun _ hm=>hm.2.1) D) (eU 8 D (bW cD6 D D) (eU 9 D (cH fM D (fun _ hm=>hm.1) D) (eU 10 D (eT D D) (wq 11 D (fG D D) (wq 12 D (bL D) ?_))))))
    rcases Bool.eq_false_or_eq_true (decide (((p1.2:Nat):Int)=((p2.2:Nat):Int))) with hg1|hg1
    ·refine dI 92 D (fW9 hg1) ?_
     refine eU 13 D (bL D) (eU 14 D (bL D) (eU 15 D (bV (j:=j) pU D D G) (eU 16 D (bW pQ D D) (eU 17 D (vT (k:=2) (vs:= [J b2,J b3]) bD6 D (fun _ hm=>(hm.2.2.1).1) hbx1 D D D) (eU 18 D (bL D) (eU 19 D (bL D) (eU 20 D (bV (j:=k) pU D D G) (eU 21 D (bW pQ D D) (eU 22 D (vT (k:=2) (vs:= [J d2,J d3]) bD6 D (fun _ hm=>(hm.2.2.1).1) hbx2 D D D) (eD 23 D (eN D (cR (v:= .bool false) D eY9 D D (fun wx hm=>(by have h:=cJ1 b2 b3 d2 d3 wx;rw [hgd.apart G hbx1 hbx2 hp1 hp2 hg0 hg1] at h;exact h)) (bH (nw 25 16777215 (fun _ hm=>⟨hm.bl 0,hm.bl 1,hm.fa 2,bB⟩) fun z=>wq 24 D (fG D D) (gY (bG (jK D (bN (bK (bG (bM (fY D D (bS D (bH ?_))))))))))))))))))))))))
     exact cQ (k+1) G G ⟨D,D,D,D,D,D,D,D,D,(cP G),bB⟩ (fun _ hm=>hm.pick [1] [] [0,1,2,3] D D)
    refine dI 92 D (fW9 hg1) (eL 13 D (eL 14 D (eL 15 D (eL 16 D (eL 17 D (eL 18 D (eL 19 D (eL 20 D (eL 21 D (eL 22 D (eL 23 D (wq 24 D (eZ D D) (gY (bG (jK D (bN (bK (bG (bM (fY D D (bS D (bH ?_))))))))))))))))))))))
    exact cQ (k+1) G G ⟨D,D,D,D,D,D,D,D,D,(cP G),bB⟩ (fun _ hm=>hm.pick [1] [] [0,1,2,3] D D)
   refine dI 85 D (fW9 hg0) (eL 6 D (eL 7 D (eL 8 D (eL 9 D (eL 10 D (wq 11 D (eZ D D) (wq 12 D (bL D) (eL 13 D (eL 14 D (eL 15 D (eL 16 D (eL 17 D (eL 18 D (eL 19 D (eL 20 D (eL 21 D (eL 22 D (eL 23 D (wq 24 D (eZ D D) (gY (bG (jK D (bN (bK (bG (bM (fY D D (bS D (bH ?_)))))))))))))))))))))))))))))
   exact cQ (k+1) G G ⟨D,D,D,D,D,D,D,D,D,(cP G),bB⟩ (fun _ hm=>hm.pick [1] [] [0,1,2,3] D D)
  refine dD (bI (bI (bY (bK (bG (bM (fY D D (bS D (bH ?_)))))))))
  exact cQ (j+1) G G ⟨D,D,D,D,(cP G),bB⟩ (fun _ hm=>hm.pick [] [] [0,1,2,3] D D)
 refine dD (bI (bI (bY (bG (bX (cG D (bU (bR ?_))))))))
 exact bQ D D fun wx hm=>⟨D,hm.g⟩
theorem cP9:bJ2 ⟨⟨#[115]⟩, [0,9,0,0,0,0,0,0,0,0,0,0,0,0]⟩ 8=true/\bR9 ⟨⟨#[115]⟩, [0,9,0,0,0,0,0,0,0,0,0,0,0,0]⟩ 8=0:=⟨bC,bC⟩
theorem fS0(w:World):Calls prog 28 #[.agg #[U ⟨#[115]⟩,J 0,J 9,J 0,J 0,J 0,J 0,J 0,J 0,J 0,J 0,J 0,J 0,J 0,J 0],J 8] w (eD8 w true 0):=by
 have hs:∀h∈ [0,9,0,0,0,0,0,0,0,0,0,0,0,(0:Int)],0<=h/\h<=9:=by decide
 have h:=cX9 ⟨#[115]⟩ [0,9,0,0,0,0,0,0,0,0,0,0,0,0] 8 w ⟨rfl,(by decide:(⟨#[115]⟩:M).size<=1000000),fun h hh=>by have:=hs h hh;omega⟩ (fun h hh=>by have:=hs h hh;omega)
 rw [cP9.1,cP9.2] at h
 exact h
theorem bY3(w:World):Calls prog 9 #[] w (fun e w'=>e=.returned (.bool true)/\w.grownBy w' none):=by
 refine cY ⟨15,w,none, []⟩ func9 D ntmps9 D (fZ (X:= []) cZ dA) (bX (cG D (bU (bX (W (dL (cs:= [J 0,J 9]) D bC) D (W (dL (cs:= [J 0,J 9,J 0,J 0,J 0,J 0,J 0,J 0,J 0,J 0,J 0,J 0,J 0,J 0]) D bC) D (W (dL (cs:= [U ⟨#[115]⟩,J 0,J 9,J 0,J 0,J 0,J 0,J 0,J 0,J 0,J 0,J 0,J 0,J 0,J 0]) D bC) D (cR D fG7 D D (fun wx hm=>(fS0 wx)) (bS D (W (cV D D) D (W (cV D D) D (cG D (cG D (bU (bX (bS D (W (eT D D) D (bO 11 (v':= .bool true) D (fW9 bD) (bS D (eN D (bS D (mS D D (cG D (bU (bR ?_)))))))))))))))))))))))))
 exact bQ D D fun wx hm=>⟨D,hm.g⟩
open Go.RowKit Go.ChangeShapes
theorem dJ4{P:Program}{w:World}{n:String}{g:Nat}{cs:Array Value}(hg:P.globalNamed n=some g)(h:w.var? P n=some cs):∃T f,w.heap[g]?=some (.cells cs T f):=by
 unfold World.var? at h
 rw [hg] at h
 simp only [Option.bind_some] at h
 split at h
 ·rename_i c T f he
  cases h
  exact ⟨T,f,he⟩
 ·cases h
theorem dR0: "*"++ "errors.errorString"= "*errors.errorString":=by decide
theorem dW5(u:TypeId)(h:prog.typeName? 3 u=some "*errors.errorString"):u=355:=
 typeName_ptr_named (nm:= "errors.errorString") (by rw [dR0];kernel_rfl) (by kernel_rfl) (by decide) u (by rw [dR0];exact h)
theorem eR7{l:List (String×DataW Unit)}{W':World}(x1 x2:List UInt8)(hL:laidMet prog l W')(hS:W'.ShapedOpen prog)
 (h1:l.filter (fun x=>x.1== "internal/strconv.uint64pow10")= [("internal/strconv.uint64pow10",Lib.tabData .u64 Lib.pow10Tab)])
 (h2:l.filter (fun x=>x.1== "strconv.ErrSyntax")= [("strconv.ErrSyntax",.iface "*errors.errorString" (.ptr (.agg [.lit (.string x1)])))])
 (h3:l.filter (fun x=>x.1== "strconv.ErrRange")= [("strconv.ErrRange",.iface "*errors.errorString" (.ptr (.agg [.lit (.string x2)])))]):rP W':=by
 have c1:=hL.filter (fun x=>x.1== "internal/strconv.uint64pow10")
 have c2:=hL.filter (fun x=>x.1== "strconv.ErrSyntax")
 have c3:=hL.filter (fun x=>x.1== "strconv.ErrRange")
 rw [h1] at c1
 rw [h2] at c2
 rw [h3] at c3
 refine ⟨?_,?_,?_,?_⟩
 ·have hg:prog.globalNamed "internal/strconv.uint64pow10"=some 1:=by kernel_rfl
  have h:=Lib.tabIs_of_head (t:=315) (e:=241) hg bC Tryz.underlying315 Tryz.underlying241 bC bC c1
  exact dJ4 hg h
 ·obtain ⟨m,hm⟩:=cell_of_shapedOpen_int (P:=prog) (g:=0) (t:=3) (zero:=#[J 0]) hS (of_decide_eq_true bC) bC rfl bC bC Tryz.underlying3
  unfold World.cell? at hm
  split at hm
  ·rename_i c T f he
   exact ⟨c,T,f,m,he,by simpa using hm⟩
  ·cases hm
 ·have hg:prog.globalNamed "strconv.ErrSyntax"=some 6:=by kernel_rfl
  obtain ⟨a,s,hv,_⟩:=laid_sentinel c2 hg bC Tryz.underlying301 dW5 Tryz.underlying355 Tryz.underlying357 rfl rfl Tryz.underlying9 bC bC
  obtain ⟨T,f,h⟩:=dJ4 hg hv
  exact ⟨T,f,_,_,h⟩
 ·have hg:prog.globalNamed "strconv.ErrRange"=some 7:=by kernel_rfl
  obtain ⟨a,s,hv,_⟩:=laid_sentinel c3 hg bC Tryz.underlying301 dW5 Tryz.underlying355 Tryz.underlying357 rfl rfl Tryz.underlying9 bC bC
  obtain ⟨T,f,h⟩:=dJ4 hg hv
  exact ⟨T,f,_,_,h⟩
theorem eX3{w w1 wx:World}{sb:Nat}(h:rP w)(hg1:w.grownBy w1 none)(hsb:w.heap.size<=sb)(hg:w1.grownBy wx (some sb)):TxtO w1.heap.size (some sb) wx:=by
 have ne:∀k,isG k->¬some sb=some k:=fun k hk e=>by
  have e2:sb=k:=by injection e
  have:=h.lt hk
  omega
 have h1:=h.same fun k hk=>hg1.block k (h.lt hk) (fun e=>by cases e)
 exact ⟨h1.same fun k hk=>hg.block k (h1.lt hk) (fun e=>ne k hk e.symm),fun k hk=>⟨h1.lt hk,ne k hk⟩⟩
theorem TxtO.heapH{N:Nat}{row:Option Nat}{w:World}(h:TxtO N row w):TxtO w.heap.size row w:=⟨h.1,fun k hk=>⟨h.1.lt hk,(h.2 k hk).2⟩⟩
theorem fL5{l:List Ny}(h:qH l):∀x∈l,dN6 x:=fun x hx=>by
 have h1:=h.fine x hx
 have h2:=nK.1 h1.1
 have h3:=h1.2.2.2.1
 exact ⟨G,G⟩
theorem fY1{vl:List Vh}{cl:List Cs}{i:Nat}{c:Cs}(h:cl[i]?=some c):(wI vl cl)[i]?=some ⟨c.key,((vlN vl c.key:Nat):Int)⟩:=by
 unfold wI
 rw [List.getElem?_map,h];rfl
theorem eN3{vl:List Vh}{cl:List Cs}{i:Nat}{c:Cs}(h:cl[i]?=some c):(wI vl (cl.take (i+1))).flatMap jA=(wI vl (cl.take i)).flatMap jA++ [U c.key,I (vlN vl c.key)]:=by
 unfold wI
 rw [List.take_add_one,h,List.map_append,List.flatMap_append];rfl
theorem eT3(a:M)(b:Int)(gk:Nat)(k u:M)(w:World)(hk:Blk w gk 53 [U k,U u]):
 Calls prog 13 #[.agg #[U a,J b],.pointer (some ⟨gk,0,none⟩)] w (fun e w'=>e=.returned (.bool (a.toList==k.toList))/\w.grownBy w' none):=by
 refine cY ⟨9,w,none, []⟩ func13 D ntmps13 D (fZ (X:= [eC w.heap.size none gk 53 [U k,U u]]) (cC hk.old cZ) (cE eC.lasts dA)) (bX (fS D D D fun g1=>cG D (bU (bX (dZ cT0 D D (eO fR 0 D D D (dZ vC D D (W (cH (v:=U k) fR D (fun _ hm=>(hm.fact 0 D).2) D) D (W (eS D D) D (cG D (bU (bR ?_))))))))))))
 exact bQ D D fun wx hm=>⟨D,hm.g⟩
theorem dH9(l:List Sk)(A:Option Addr)(n c0:Nat)(gk:Nat)(k u:M)(w:World)(hl:SlT jA 2 57 w A n l)(hn:n<=1000000)(hk:Blk w gk 53 [U k,U u]):
 Calls prog 12 #[H A n c0,.func (.func 13) #[] #[.pointer (some ⟨gk,0,none⟩)]] w (nG w (kL (skP k) l 0)):=by
 refine cY ⟨19,w,none, []⟩ func12 D ntmps12 D (fZ (X:= [bT jA 2 57 w.heap.size none A n l,eC w.heap.size none gk 53 [U k,U u]]) (cC hl.old (cC hk.old cZ)) (cE bT.lasts (cE eC.lasts dA))) (bX ?_)
 have hlen:=hl.len
 refine cG D (bU (bJ (bX (bS D (W (dP cW5 D) D (bS D (bU (bP ?_))))))))
 refine dS (γ:=Nat) (fun (i:Nat)=>i<=n/\kL (skP k) l 0=kL (skP k) (l.drop i) i) (fun (i:Nat)=> [(0,H A n c0),(1,.func (.func 13) #[] #[.pointer (some ⟨gk,0,none⟩)]),(7,I n),(8,I i)]) (fun (i:Nat)=>fun _=>True) (fun (i:Nat)=> []) (fun (i:Nat)=> []) (fun (i:Nat)=> [bT jA 2 57 w.heap.size none A n l,eC w.heap.size none gk 53 [U k,U u]]) (fun (i:Nat)=>n - i) 0 ⟨Nat.zero_le _,D⟩ ⟨D,D,D,D,bB⟩ (fun _ hm=>hm.pick [] [] [0,1] D D) ?_
 intro i bZ
 replace bZ:i<=n/\kL (skP k) l 0=kL (skP k) (l.drop i) i:=bZ
 refine bX (W (dF D D) D (bU (bJ ?_)))
 refine cN D (fun hi=>?_) (fun hi=>?_)
 ·refine bN (bG (bJ (bP (bX ?_))))
  obtain ⟨b,off,hA,_,_⟩:=hl.get G
  subst hA
  obtain ⟨x,hx⟩:∃x,l[i]?=some x:=⟨_,fY9 G⟩
  obtain ⟨y0,y1⟩:=x
  have hat:=bS1 (p:=skP k) hx
  refine bS D (cG D (bU (bX (bS D (bS D (bS D (W (bV (j:=i) cW5 D D G) D (W (dR (vs:= [U y0,J y1]) eD3 D (fun _ hm=>(hm.fact 0 D).1) hx D D) D (cR D fW6 D D (fun wx hm=>(eT3 y0 y1 gk k u wx (hm.fact 1 D).2)) (bU ?_))))))))))
  refine dE D (fun hh=>?_) (fun hh=>?_)
  ·have hq:(y0.toList==k.toList)=true:=by simpa using hh
   refine bX (bS D (cG D (bU (bR (C (F (F (C (F ?_)))))))))
   exact bQ D D fun wx hm=>⟨cL (by rw [bZ.2,hat];exact (if_pos hq).symm),hm.g⟩
  have hq:(y0.toList==k.toList)=false:=by simpa using hh
  refine bN (bK (bG (bM (fY D D (bS D (bH ?_))))))
  exact cQ (i+1) ⟨G,by rw [bZ.2,hat];exact if_neg (by show ¬(y0.toList==k.toList)=true;rw [hq];decide)⟩ G ⟨D,D,D,(cP G),bB⟩ (fun _ hm=>hm.pick [] [] [0,1] D D)
 refine dD (bI (bI (bY (bG (bX (cG D (bO 4 (v':=J (-1)) D D (bU (bR ?_)))))))))
 exact bQ D D fun wx hm=>⟨cL (by rw [bZ.2,List.drop_eq_nil_of_le G];rfl),hm.g⟩
def fP2(cs:List Cs)(sl:List Sk)(l:List Bk)(n:Nat)(E:Int)(n2 c2:Nat)(o:List (M×Nat)):Prop:=(7 < n->E=2)/\(n<=7->(E=0∨E=12)/\(E=0->n2=n/\o.length=n/\GdS cs sl l o/\n<=c2))
theorem eY4{cs:List Cs}{sl:List Sk}{l:List Bk}{n:Nat}{e:Ending}{w w':World}(h:(7 < n/\e=.returned (.tuple #[H none 0 0,J 2]))∨(n<=7/\e=.returned (.tuple #[H none 0 0,J 12]))∨(n<=7/\∃(o:List (M×Nat)) (A':Option Addr) (c':Nat),o.length=n/\GdS cs sl l o/\e=.returned (.tuple #[H A' n c',J 0])/\SlT pV 3 115 w' A' n (gvO l o)/\n<=c'))(hg:w.grownBy w' none):∃g:Int×Option Addr×Nat×Nat×List (M×Nat),e=.returned (.tuple #[H g.2.1 g.2.2.1 g.2.2.2.1,J g.1])/\fP2 cs sl l n g.1 g.2.2.1 g.2.2.2.1 g.2.2.2.2/\w.grownBy w' none/\SlT pV 3 115 w' g.2.1 g.2.2.1 (gvT l (decide (g.1=0)) g.2.2.2.2):=by
 rcases h with ⟨h7,he⟩|⟨h7,he⟩|⟨h7,o,A2,c2,h1,h2,he,hs,h3⟩
 ·exact ⟨(2,none,0,0, []),he,⟨fun _=>D,fun h=>absurd h G⟩,hg,SlT.nil_ _ _⟩
 ·exact ⟨(12,none,0,0, []),he,⟨fun h=>absurd h G,fun _=>⟨.inr D,fun h=>(by cases h)⟩⟩,hg,SlT.nil_ _ _⟩
 ·exact ⟨(0,A2,n,c2,o),he,⟨fun h=>absurd h G,fun _=>⟨.inl D,fun _=>⟨D,h1,h2,h3⟩⟩⟩,hg,hs⟩
theorem bW6(a0:Option Addr)(len0 cap0:Nat)(z0:List Int)(w:World)(hR:RowIn w a0 len0 cap0 z0)(htx:rP w):
 Calls prog 3 #[H a0 len0 cap0] w fun e w'=>e=.returned (.bool true)/\Below w.heap.size w w':=by
 refine cY ⟨175,w,none, []⟩ func3 D ntmps3 D (fZ (X:= []) cZ dA) (bX (cG D (bU (bX (bS D (W (dL (cs:= [H a0 len0 cap0,J 0]) D bC) D (fS D D D fun sb=>cG D (bU (bX (bS D ?_))))))))))
 refine fI2 [3,53,55,74,87,115,128,168,203,207,209,212] hR 0 D fun w1 B hg1 hsb=>?_
 refine bY9 (Y:=TxtO w1.heap.size (some sb)) (TxtO.lasts) (fun wx hm=>eX3 htx hg1 hsb hm.g) ?_
 refine pH (γ:=Option Addr×Option Addr×Option Addr×Nat×Nat×Nat×List Cs×List Vh×Option Addr×Option Addr×Option Addr×Option Addr×Option Addr×Nat×Nat×Nat×Nat×Nat×Nat×Nat×Nat×Nat×Nat×Int×Int×Int×Int×Int×Int×Int) (val:=(fun g=> .agg #[H g.1 2 g.2.2.2.1,H g.2.1 4 g.2.2.2.2.1,H g.2.2.1 3 g.2.2.2.2.2.1,H none 0 0,H g.2.2.2.2.2.2.2.2.1 g.2.2.2.2.2.2.2.2.2.2.2.2.2.1 g.2.2.2.2.2.2.2.2.2.2.2.2.2.2.1,H g.2.2.2.2.2.2.2.2.2.1 g.2.2.2.2.2.2.2.2.2.2.2.2.2.2.2.1 g.2.2.2.2.2.2.2.2.2.2.2.2.2.2.2.2.1,H g.2.2.2.2.2.2.2.2.2.2.1 g.2.2.2.2.2.2.2.2.2.2.2.2.2.2.2.2.2.1 g.2.2.2.2.2.2.2.2.2.2.2.2.2.2.2.2.2.2.1,H g.2.2.2.2.2.2.2.2.2.2.2.1 g.2.2.2.2.2.2.2.2.2.2.2.2.2.2.2.2.2.2.2.1 g.2.2.2.2.2.2.2.2.2.2.2.2.2.2.2.2.2.2.2.2.1,H g.2.2.2.2.2.2.2.2.2.2.2.2.1 g.2.2.2.2.2.2.2.2.2.2.2.2.2.2.2.2.2.2.2.2.2.1 g.2.2.2.2.2.2.2.2.2.2.2.2.2.2.2.2.2.2.2.2.2.2.1,J g.2.2.2.2.2.2.2.2.2.2.2.2.2.2.2.2.2.2.2.2.2.2.2.1,J g.2.2.2.2.2.2.2.2.2.2.2.2.2.2.2.2.2.2.2.2.2.2.2.2.1,J g.2.2.2.2.2.2.2.2.2.2.2.2.2.2.2.2.2.2.2.2.2.2.2.2.2.1,J g.2.2.2.2.2.2.2.2.2.2.2.2.2.2.2.2.2.2.2.2.2.2.2.2.2.2.1,J g.2.2.2.2.2.2.2.2.2.2.2.2.2.2.2.2.2.2.2.2.2.2.2.2.2.2.2.1,J g.2.2.2.2.2.2.2.2.2.2.2.2.2.2.2.2.2.2.2.2.2.2.2.2.2.2.2.2.1,J g.2.2.2.2.2.2.2.2.2.2.2.2.2.2.2.2.2.2.2.2.2.2.2.2.2.2.2.2.2])) (φ:=(fun g=>g.2.2.2.2.2.2.1.length=4/\(∀x∈g.2.2.2.2.2.2.1,pR x)/\ClG g.2.2.2.2.2.2.1/\Vh3 g.2.2.2.2.2.2.1 3 g.2.2.2.2.2.2.2.1)) (Y:=(fun g=>fun wy=>SlT stEnc 15 74 wy g.1 2 sl2/\SlT dQ 2 53 wy g.2.1 4 g.2.2.2.2.2.2.1/\SlT kG 2 55 wy g.2.2.1 3 g.2.2.2.2.2.2.2.1/\bX8 (H g.2.2.2.2.2.2.2.2.1 g.2.2.2.2.2.2.2.2.2.2.2.2.2.1 g.2.2.2.2.2.2.2.2.2.2.2.2.2.2.1) (H g.2.2.2.2.2.2.2.2.2.1 g.2.2.2.2.2.2.2.2.2.2.2.2.2.2.2.1 g.2.2.2.2.2.2.2.2.2.2.2.2.2.2.2.2.1) (H g.2.2.2.2.2.2.2.2.2.2.1 g.2.2.2.2.2.2.2.2.2.2.2.2.2.2.2.2.2.1 g.2.2.2.2.2.2.2.2.2.2.2.2.2.2.2.2.2.2.1) (H g.2.2.2.2.2.2.2.2.2.2.2.1 g.2.2.2.2.2.2.2.2.2.2.2.2.2.2.2.2.2.2.2.1 g.2.2.2.2.2.2.2.2.2.2.2.2.2.2.2.2.2.2.2.2.1) (H g.2.2.2.2.2.2.2.2.2.2.2.2.1 g.2.2.2.2.2.2.2.2.2.2.2.2.2.2.2.2.2.2.2.2.2.1 g.2.2.2.2.2.2.2.2.2.2.2.2.2.2.2.2.2.2.2.2.2.2.1) (J g.2.2.2.2.2.2.2.2.2.2.2.2.2.2.2.2.2.2.2.2.2.2.2.1) (J g.2.2.2.2.2.2.2.2.2.2.2.2.2.2.2.2.2.2.2.2.2.2.2.2.1) (J g.2.2.2.2.2.2.2.2.2.2.2.2.2.2.2.2.2.2.2.2.2.2.2.2.2.1) (J g.2.2.2.2.2.2.2.2.2.2.2.2.2.2.2.2.2.2.2.2.2.2.2.2.2.2.1) (J g.2.2.2.2.2.2.2.2.2.2.2.2.2.2.2.2.2.2.2.2.2.2.2.2.2.2.2.1) (J g.2.2.2.2.2.2.2.2.2.2.2.2.2.2.2.2.2.2.2.2.2.2.2.2.2.2.2.2.1) (J g.2.2.2.2.2.2.2.2.2.2.2.2.2.2.2.2.2.2.2.2.2.2.2.2.2.2.2.2.2) wy)) (m':=7000) D cb4 D D D D (fun wx hm=>(cV1 wx B sb _ hm.k G).mono fun _ _ ⟨sA,cA,vA,sc,cc,vc,cl,vl,raA,rbA,rcA,rdA,reA,ran,rac,yT,rbc,yU,rcc,yV,rdc,ren,rec,da,db,dc,dd,de,df,dg,he,hp,h1,h2,h3,h4,hS,hg⟩=>⟨(sA,cA,vA,sc,cc,vc,cl,vl,raA,rbA,rcA,rdA,reA,ran,rac,yT,rbc,yU,rcc,yV,rdc,ren,rec,da,db,dc,dd,de,df,dg),he,hp,hS,hg,h1,h2,h3,h4⟩) (fun _=>(SlT.lasts2 D).and_ ((SlT.lasts2 D).and_ ((SlT.lasts2 D).and_ (bX8.lasts2 D D D D D D)))) ?_
 rintro ⟨sA,cA,vA,sc,cc,vc,cl,vl,raA,rbA,rcA,rdA,reA,ran,rac,yT,rbc,yU,rcc,yV,rdc,ren,rec,da,db,dc,dd,de,df,dg⟩ hho
 dsimp only at hho ⊢
 obtain ⟨hcl4,pI,hcg,hv3⟩:=hho
 have hcz:=cX3 hcg
 have hfz:=dJ9 hcz hv3
 have cX6:=fD2 hv3
 have hvl:=hv3.1
 refine bS D (bS D (dX (γ:=Int) (val:=fun v=>J v) (φ:=fun v=>0<=v/\(v<=20∨v=0)) D cb6 D D D D (fun wx hm=>(cU4 _ _ wx B sb _ hm.k G G G G G)) fun q hq=>?_))
 obtain ⟨q2,hq2⟩:∃q2:Nat,q=(q2:Int):=⟨q.toNat,G⟩
 have hq20:q2<=20:=G
 subst hq2
 refine pH (γ:=Option Addr×Nat×Nat×List Ny) (val:=(fun g=>H g.1 g.2.1 g.2.2.1)) (φ:=(fun g=>(∀x∈g.2.2.2,vN x)/\qH g.2.2.2/\g.2.1<=q2/\g.2.2.2.length=g.2.1)) (Y:=(fun g=>fun wy=>SlT fJ 4 128 wy g.1 g.2.1 g.2.2.2)) (m':=7000+1+2000) D cb5 D D D D (fun wx hm=>(bT7 q2 wx B sb _ hm.k G (TxtO.heapH (hm.fact 1 D)) hq20).mono fun _ _ ⟨A,n,c,l,he,h1,h2,h3,h4,hS,hg⟩=>⟨(A,n,c,l),he,⟨h2,h3,h4,h1.len⟩,hS,hg,h1⟩) (fun _=>SlT.lasts2 D) ?_
 rintro ⟨eA,en,ec,el⟩ hen
 dsimp only at hen ⊢
 obtain ⟨hsz,hny,hen2,hlen⟩:=hen
 have cW6:=fL5 hny
 refine dM fE6 D fun g1=>kE (cs':= [H sA 2 sc,H cA 4 cc,H vA 3 vc,H none 0 0,H raA ran rac,H rbA yT rbc,H rcA yU rcc,H rdA yV rdc,H reA ren rec,J da,J db,J dc,J dd,J de,J df,J dg]) 0 dK0 D D D D (cG D (bU (bX (W (dG dK0 D (fun _ hm=>hm.blkI 0 D) D D) D (bS D ?_)))))
 refine fK (γ:=Option Addr×Nat×Nat×List Bk) (val:=(fun g=> .tuple #[H g.1 g.2.1 g.2.2.1,J 0])) (φ:=(fun g=>gC cl g.2.2.2=0/\(∀b∈g.2.2.2,bM3 b)/\g.2.1<=20/\g.2.2.2.length=g.2.1)) (Y:=(fun g=>fun wy=>SlT eV 6 87 wy g.1 g.2.1 g.2.2.2)) D cb7 D D (fun wx hm=>(bX4 sA cA vA eA 2 sc 4 cc 3 vc en ec (H none 0 0) (H raA ran rac) (H rbA yT rbc) (H rcA yU rcc) (H rdA yV rdc) (H reA ren rec) (J da) (J db) (J dc) (J dd) (J de) (J df) (J dg) sl2 cl vl el wx (hm.fact 1 D).1 (hm.fact 1 D).2.1 (hm.fact 1 D).2.2.1 (hm.fact 0 D) (hm.fact 2 D).1 eI3 pI bD cW6 G bD bD (cI0 sA cA vA 2 sc 4 cc 3 vc sl2 cl vl (H raA ran rac) (H rbA yT rbc) (H rcA yU rcc) (H rdA yV rdc) (H reA ren rec) (J da) (J db) (J dc) (J dd) (J de) (J df) (J dg) wx (hm.fact 1 D).1 (hm.fact 1 D).2.1 (hm.fact 1 D).2.2.1 eI3 pI cX6 bD bD bD hfz (hm.fact 1 D).2.2.2) hny).mono fun _ _ ⟨σ,A,n,c,ks,he,hr,hk,hf,hs,hg⟩=>⟨(A,n,c,_),he,(by
  have h1:=dU6 hr.1 hk.1 hk.2.1
  rw [List.length_map] at h1
  have h2:=dA2 hr.1 hk.1 hk.2.1 G hcz
  have h3:=hk.2.2
  exact ⟨h2.1,h2.2,bE,hs.len⟩),hg,hs⟩) (fun _=>SlT.lasts2 D) ?_
 rintro ⟨bA,bn,bc,bl⟩ hbk
 dsimp only at hbk ⊢
 obtain ⟨hbz,hbok,hb20,hbl⟩:=hbk
 have hE:dK [qF cl (wI vl cl),gC cl bl]=0:=by rw [dD9 hcg hvl,hbz];rfl
 obtain ⟨⟨h30,hclo,hlo⟩,hmany,hkeys,htm,_⟩:=cQ2 hE
 have hso:=fA2 pI hvl
 refine eB (R:=∃cb cof,cA=some ⟨cb,cof,none⟩) (fun wx hm=>by obtain ⟨b,off,hA,_,_⟩:=SlT.get (hm.fact 2 rfl).2.1 bD;exact ⟨b,off,hA⟩) ?_
 rintro ⟨cb,cof,rfl⟩
 refine eB (R:=∃bv ov,vA=some ⟨bv,ov,none⟩) (fun wx hm=>by obtain ⟨b,off,hA,_,_⟩:=SlT.get (hm.fact 2 rfl).2.2.1 bD;exact ⟨b,off,hA⟩) ?_
 rintro ⟨bv,ov,rfl⟩
 refine mA 57 2 ?_
 refine bS D (W (cV D D) D (W (cV D D) D (cG D (cG D (bU (bJ (bX (bS D (W (gN D D) D (bO 40 (v':= .bool false) D (fW9 bD) (bU (jK D (bN (bG (bX (cG D (bU (bJ (bX (dZ wS D D (dZ xT D D (eO cO3 0 D D D (W (dP xS D) D (bO 44 (v':=J 4) D D (bS D (bU (bP ?_)))))))))))))))))))))))))))
 refine dS (γ:=Nat×Value) (fun (gq1:Nat×Value)=>gq1.1<=4) (fun (gq1:Nat×Value)=> [(2,.bool false),(4,.pointer (some ⟨g1,0,none⟩)),(6,H bA bn bc),(8,gq1.2),(43,H (some ⟨cb,cof,none⟩) 4 cc),(44,J 4),(45,I (gq1.1))]) (fun (gq1:Nat×Value)=>fun w=>fQ 25 w B sb (7000+1+2000)) (fun (gq1:Nat×Value)=> [(g1,42, [H sA 2 sc,H (some ⟨cb,cof,none⟩) 4 cc,H (some ⟨bv,ov,none⟩) 3 vc,H none 0 0,H raA ran rac,H rbA yT rbc,H rcA yU rcc,H rdA yV rdc,H reA ren rec,J da,J db,J dc,J dd,J de,J df,J dg])]) (fun (gq1:Nat×Value)=> [⟨gq1.2,57,2,gq1.1,(wI vl (cl.take gq1.1)).flatMap jA⟩]) (fun (gq1:Nat×Value)=> [fun wy=>SlT eV 6 87 wy bA bn bl,fun wy=>SlT fJ 4 128 wy eA en el,fun wy=>SlT stEnc 15 74 wy sA 2 sl2/\SlT dQ 2 53 wy (some ⟨cb,cof,none⟩) 4 cl/\SlT kG 2 55 wy (some ⟨bv,ov,none⟩) 3 vl/\bX8 (H raA ran rac) (H rbA yT rbc) (H rcA yU rcc) (H rdA yV rdc) (H reA ren rec) (J da) (J db) (J dc) (J dd) (J de) (J df) (J dg) wy,TxtO w1.heap.size (some sb)]) (fun (gq1:Nat×Value)=>4 - gq1.1) (0,H none 0 0) bD ⟨D,D,D,D,D,D,D,bB⟩ (fun _ hm=>hm.pick [0] [0] [0,1,2,3] D D) ?_
 rintro ⟨iv,v⟩ bZ
 replace bZ:iv<=4:=bZ
 dsimp only
 refine bX (W (dF D D) D (bU (bJ ?_)))
 refine cN D (fun hi=>?_) (fun hi=>?_)
 ·refine bN (bG (bJ (bP (bX ?_))))
  obtain ⟨x,hx⟩:∃x,cl[iv]?=some x:=⟨_,fY9 G⟩
  obtain ⟨uk,uu⟩:=x
  have htk:=eN3 (vl:=vl) hx
  dsimp only at htk
  refine W (bV (j:=iv) xS D D G) D (W (dR (vs:= [U uk,U uu]) bJ9 D (fun _ hm=>(hm.fact 2 D).2.1) hx D D) D (yR (vs:= [U uk,U uu]) (cs':= [U uk,U uu]) eL4 D bJ9 (fun _=>D) (fun _=>D) D D D D fun g2=>bU (bX (cG D (bU (bJ (bX (dZ wS D D (dZ xU D D (eO bU7 1 D D D (W (dP cB9 D) D (bO 52 (v':=J 3) D D (bS D (bU (bP ?_)))))))))))))))
  refine dS (γ:=Nat) (fun (jv:Nat)=>jv<=3) (fun (jv:Nat)=> [(2,.bool false),(4,.pointer (some ⟨g1,0,none⟩)),(6,H bA bn bc),(8,v),(10,.pointer (some ⟨g2,0,none⟩)),(11,I (vlN (vl.take jv) uk)),(43,H (some ⟨cb,cof,none⟩) 4 cc),(44,J 4),(45,I iv),(51,H (some ⟨bv,ov,none⟩) 3 vc),(52,J 3),(53,I jv)]) (fun (jv:Nat)=>fun w=>fQ 25 w B sb (7000+1+2000)) (fun (jv:Nat)=> [(g2,53, [U uk,U uu]),(g1,42, [H sA 2 sc,H (some ⟨cb,cof,none⟩) 4 cc,H (some ⟨bv,ov,none⟩) 3 vc,H none 0 0,H raA ran rac,H rbA yT rbc,H rcA yU rcc,H rdA yV rdc,H reA ren rec,J da,J db,J dc,J dd,J de,J df,J dg])]) (fun (jv:Nat)=> [⟨v,57,2,iv,(wI vl (cl.take iv)).flatMap jA⟩]) (fun (jv:Nat)=> [fun wy=>SlT eV 6 87 wy bA bn bl,fun wy=>SlT fJ 4 128 wy eA en el,fun wy=>SlT stEnc 15 74 wy sA 2 sl2/\SlT dQ 2 53 wy (some ⟨cb,cof,none⟩) 4 cl/\SlT kG 2 55 wy (some ⟨bv,ov,none⟩) 3 vl/\bX8 (H raA ran rac) (H rbA yT rbc) (H rcA yU rcc) (H rdA yV rdc) (H reA ren rec) (J da) (J db) (J dc) (J dd) (J de) (J df) (J dg) wy,TxtO w1.heap.size (some sb)]) (fun (jv:Nat)=>3 - jv) 0 bD ⟨D,D,D,D,D,D,D,D,D,D,D,D,bB⟩ (fun _ hm=>hm.pick [0,1] [0] [0,1,2,3] D D) ?_
  intro jv bZ
  replace bZ:jv<=3:=bZ
  refine bX ?_
  have hvn:=cW7 (vl.take jv) uk
  rw [List.length_take] at hvn
  refine W (dF D D) D (bU (bJ ?_))
  refine cN D (fun hj=>?_) (fun hj=>?_)
  ·refine bN (bG (bJ (bP (bX ?_))))
   obtain ⟨y,hy⟩:∃x,vl[jv]?=some x:=⟨_,fY9 G⟩
   have hat:=eA4 (k:=uk) hy
   obtain ⟨yk,yc⟩:=y
   dsimp only at hat
   refine W (bV (j:=jv) cB9 D D G) D (W (dR (vs:= [U yk,U yc]) dP8 D (fun _ hm=>(hm.fact 2 D).2.2.1) hy D D) D (yR (vs:= [U yk,U yc]) (cs':= [U yk,U yc]) fL2 D dP8 (fun _=>D) (fun _=>D) D D D D fun g3=>bU (bX (dZ cO6 D D (eO fR 0 D D D (dZ vC D D (eO fR 1 D D D (W (eS D D) D (bU ?_)))))))))
   refine dE D (fun hh=>?_) (fun hh=>?_)
   ·have hq:(yc.toList==uk.toList)=true:=by simpa using hh
    refine bM ?_
    rw [if_pos hq] at hat
    refine bS D (fY D D (cG D (bH (bK (bG (bM (fY D D (bS D (bH ?_)))))))))
    exact cQ (jv+1) G G ⟨D,D,D,D,D,(cP (by rw [hat];omega)),D,D,D,D,D,(cP G),bB⟩ (fun _ hm=>hm.pick [1,2] [0] [0,1,2,3] D D)
   have hq:(yc.toList==uk.toList)=false:=by simpa using hh
   refine bN (bK (bG (bM ?_)))
   rw [if_neg (by rw [hq];decide)] at hat
   refine fY D D (bS D (bH ?_))
   exact cQ (jv+1) G G ⟨D,D,D,D,D,(cP (by rw [hat];omega)),D,D,D,D,D,(cP G),bB⟩ (fun _ hm=>hm.pick [1,2] [0] [0,1,2,3] D D)
  refine dD (bI (bI (bY (bG (bM ?_)))))
  have hvall:vl.take jv=vl:=List.take_of_length_le G
  rw [hvall] at hvn ⊢
  refine bS D (dZ vC D D (eO fR 0 D D D (bS D (W (dL (cs:= [U uk,I (vlN vl uk)]) D bC) D (jN 57 [U uk,I (vlN vl uk)] fun g4=>eP (news:= [U uk,I (vlN vl uk)]) 0 0 fR6 D D D D D D D G (by unfold maxLen;omega) D D fun v2 xK=>?_)))))
  rw [<-htk]
  refine cG D (bH (bK (bG (bM (fY D D (bS D (bH ?_)))))))
  exact cQ (iv+1,v2) bE bE ⟨D,D,D,D,D,D,(cP G),bB⟩ (fun _ hm=>hm.pick [2] [0] [0,1,2,3] D D)
 refine dD (bI (bI (bY (bG (bX ?_)))))
 have hiv:iv=4:=G
 subst hiv
 rw [show wI vl (cl.take 4)=wI vl cl from by rw [List.take_of_length_le G]]
 refine eB (R:=∃A cc,v=H A 4 cc) (fun wx hm=>dW (hm.ownI 0 D)) ?_
 rintro ⟨kA,kc,rfl⟩
 have hskl:(wI vl cl).length=4:=by rw [dD6];exact hcl4
 refine dZ wS D D (dZ xT D D (eO cO3 0 D D D (bS D (bS D ?_))))
 refine fK (γ:=Int×Option Addr×Nat×Nat×List (M×Nat)) (val:=(fun g=> .tuple #[H g.2.1 g.2.2.1 g.2.2.2.1,J g.1])) (φ:=(fun g=>fP2 cl (wI vl cl) bl bn g.1 g.2.2.1 g.2.2.2.1 g.2.2.2.2)) (Y:=(fun g=>fun wy=>SlT pV 3 115 wy g.2.1 g.2.2.1 (gvT bl (decide (g.1=0)) g.2.2.2.2))) D cb8 D D (fun wx hm=>(dA1 cl (some ⟨cb,cof,none⟩) 4 cc (wI vl cl) kA 4 kc bl bA bn bc wx (hm.fact 2 D).2.1 pI bD (SlT.ofOwn cD2 (hm.ownI 0 D) hskl) hso bD (hm.fact 0 D) hbok G hE).mono fun _ _ ⟨h,hg⟩=>eY4 h hg) (fun _=>SlT.lasts2 D) ?_
 rintro ⟨E,A2,n2,c2,o⟩ hcc
 dsimp only at hcc ⊢
 refine bS D (W (cV D D) D (W (cV D D) D (cG D (cG D (bU (bJ (bX (bS D (W (dP pU D) D (W (eM D D) D (bU ?_)))))))))))
 refine cN D (fun h7=>?_) (fun h7=>?_)
 ·refine bX ?_
  have hE2:E=2:=hcc.1 G
  refine bS D (W (eT D D) D (bO 86 (v':= .bool true) D (fW9 (decide_eq_true hE2)) (bS D (eN D (cR D cb9 D D (fun wx hm=>(bY3 wx)) (mS D D (cG D (bU (bR (F ?_))))))))))
  exact bQ D D fun wx hm=>⟨D,cE7 hg1 hsb hm.g⟩
 refine bN (bG (bJ (bX ?_)))
 have h77:bn<=7:=G
 obtain ⟨hE12,hgood⟩:=hcc.2 h77
 refine dZ wS D D (dZ xT D D (eO cO3 0 D D D (W (dP xS D) D (bO 93 (v':=J 4) D D (bS D (bU (bP ?_)))))))
 refine dS (γ:=Nat) (fun (jw:Nat)=>jw<=4) (fun (jw:Nat)=> [(4,.pointer (some ⟨g1,0,none⟩)),(6,H bA bn bc),(8,H kA 4 kc),(14,H A2 n2 c2),(15,J E),(92,H (some ⟨cb,cof,none⟩) 4 cc),(93,J 4),(94,I jw)]) (fun (jw:Nat)=>fun w=>fQ 25 w B sb (7000+1+2000)) (fun (jw:Nat)=> [(g1,42, [H sA 2 sc,H (some ⟨cb,cof,none⟩) 4 cc,H (some ⟨bv,ov,none⟩) 3 vc,H none 0 0,H raA ran rac,H rbA yT rbc,H rcA yU rcc,H rdA yV rdc,H reA ren rec,J da,J db,J dc,J dd,J de,J df,J dg])]) (fun (jw:Nat)=> [⟨H kA 4 kc,57,2,4,(wI vl cl).flatMap jA⟩]) (fun (jw:Nat)=> [fun wy=>SlT pV 3 115 wy A2 n2 (gvT bl (decide (E=0)) o),fun wy=>SlT eV 6 87 wy bA bn bl,fun wy=>SlT fJ 4 128 wy eA en el,fun wy=>SlT stEnc 15 74 wy sA 2 sl2/\SlT dQ 2 53 wy (some ⟨cb,cof,none⟩) 4 cl/\SlT kG 2 55 wy (some ⟨bv,ov,none⟩) 3 vl/\bX8 (H raA ran rac) (H rbA yT rbc) (H rcA yU rcc) (H rdA yV rdc) (H reA ren rec) (J da) (J db) (J dc) (J dd) (J de) (J df) (J dg) wy,TxtO w1.heap.size (some sb)]) (fun (jw:Nat)=>4 - jw) 0 bD ⟨D,D,D,D,D,D,D,D,bB⟩ (fun _ hm=>hm.pick [0] [0] [0,1,2,3,4] D D) ?_
 intro jw bZ
 replace bZ:jw<=4:=bZ
 refine bX (W (dF D D) D (bU (bJ ?_)))
 refine cN D (fun hj=>?_) (fun hj=>?_)
 ·refine bN (bG (bJ (bP (bX ?_))))
  obtain ⟨x,hx⟩:∃x,cl[jw]?=some x:=⟨_,fY9 G⟩
  obtain ⟨hix,hmv,hnb⟩:=fZ1 (vl:=vl) hcg hx
  have hsx:=fY1 (vl:=vl) hx
  have htop:=fF0 hcg hx
  obtain ⟨uk,uu⟩:=x
  dsimp only at hix hmv hnb hsx htop
  obtain ⟨N,hN⟩:∃z,z=(pJ (mY uk bl) 0 5761440).1:=⟨_,rfl⟩
  obtain ⟨at_,hat⟩:∃z,z=(pJ (mY uk bl) 0 5761440).2:=⟨_,rfl⟩
  have hbt:=eA0 (cT7 htm uk)
  rw [<-hN,<-hat] at hbt
  obtain ⟨ht0,ht1,hNo,hfr⟩:=hbt
  have hvb:=cW7 vl uk
  have hNb:0<=N/\N<=20:=by
   have h1:=dJ3 (mY uk bl) at_
   have h2:=bK6 uk bl
   omega
  refine W (bV (j:=jw) xS D D G) D (W (dR (vs:= [U uk,U uu]) bJ9 D (fun _ hm=>(hm.fact 3 D).2.1) hx D D) D (yR (vs:= [U uk,U uu]) (cs':= [U uk,U uu]) eL4 D bJ9 (fun _=>D) (fun _=>D) D D D D fun g5=>bU (bX (dZ wS D D (dZ xT D D (eO cO3 1 D D D (bS D (dZ vC D D (eO fR 0 D D D (cR (v:= .tuple #[J N,J at_,J 0]) D fT6 D D (fun wx hm=>(by have h:=dK9 cl (some ⟨cb,cof,none⟩) 4 cc bl bA bn bc uk wx (hm.fact 3 rfl).2.1 pI bD (hm.fact 1 rfl) hbok G hbz hnb htm;rw [<-hN,<-hat] at h;exact h)) (bS D (W (cV D D) D (W (cV D D) D (W (cV D D) D (cG D (cG D (cG D (bU (bX (dZ wS D D (dZ xT D D (eO cO3 1 D D D ?_))))))))))))))))))))))
  refine bS D (bS D (dZ vC D D (eO fR 0 D D D (bS D (bS D (fY D D (W (dL (cs:= [J at_,J (at_+1)]) D bC) D (cR (v:= .tuple #[J (((vlN vl uk:Nat):Int) - N),J 0]) D fU6 D D (fun wx hm=>(by have h:=dL9 cl (some ⟨cb,cof,none⟩) 4 cc (wI vl cl) kA 4 kc bl bA bn bc uk at_ (at_+1) wx (hm.fact 3 rfl).2.1 pI bD (SlT.ofOwn cD2 (hm.ownI 0 rfl) hskl) hso bD (hm.fact 1 rfl) hbok G hE hnb htm ht0 G ht1;rw [hmv,hfr,<-hNo] at h;exact h)) (bS D (W (cV D D) D (W (cV D D) D (cG D (cG D (bU (bX (bS D (W (pL D D) D (cR (v:=I jw) D fV6 D D (fun wx hm=>(by have h:=dH9 (wI vl cl) kA 4 kc _ uk uu wx (SlT.ofOwn cD2 (hm.ownI 0 rfl) hskl) bD (hm.blkI 0 rfl);rw [hix] at h;exact h)) ?_))))))))))))))))))
  refine eB (R:=∃g,kA=some ⟨g,0,none⟩) (fun wx hm=>rG (hm.ownI 0 D) G) ?_
  rintro ⟨kb,rfl⟩
  refine cG D (bU (bJ (bX (bS D (W (gN D D) D (bO 128 (v':= .bool false) D (fW9 bD) (bS D (eN D (bS D (eN D (W (gN D D) D (bO 131 (v':= .bool false) D (fW9 bD) (nV D D (bS D (eN D (bS D (eN D (bS D (eN D (bS D (eN D (W (bV (j:=jw) cW5 D D G) D (eN D (dZ cP6 D D (eN D (W (dH (k:=1) (v:=I (vlN vl uk)) fM D (fun _ hm=>(SlT.ofOwn cD2 (hm.ownI 0 D) hskl)) hsx D D) D (eN D (bS D (eN D ?_)))))))))))))))))))))))))))))
  refine W (ov_sub D D G G) D (eN D (W (gN D D) D (bO 142 (v':= .bool false) D (fW9 (by rw [decide_eq_true rfl];rfl)) (nV D D (bU (jK D (bN (bG (bX (dZ zH D D (eO fR 0 D D D (W (eS D D) D (bS D ?_)))))))))))))
  rcases Bool.eq_false_or_eq_true (uu.toList==(⟨#[]⟩:M).toList) with hb0|hb0
  ·refine bO 147 D (fW9 hb0) ?_
   refine eN D (bS D (eN D (W (eT D D) D (mS D D (bS D ?_)))))
   rcases Bool.eq_false_or_eq_true (decide (E=0)) with hb1|hb1
   ·refine bO 151 D (fW9 hb1) ?_
    have hE0:E=0:=of_decide_eq_true hb1
    obtain ⟨_,hol,hgd,_⟩:=hgood hE0
    have htf:=hgd.top G (htop hb0) at_
    have hcap:mR (wI vl cl) uk=vlN vl uk:=by unfold mR;rw [hmv];rfl
    rw [hcap] at htf
    refine eN D (bS D (eN D (W (dF D D) D (bO 153 (v':= .bool false) D (fW9 (decide_eq_false G)) (mS D D (bU (jK D (bN (bK (bG (bM (fY D D (bS D (bH ?_))))))))))))))
    exact cQ (jw+1) G G ⟨D,D,D,D,D,D,D,(cP G),bB⟩ (fun _ hm=>hm.pick [1] [0] [0,1,2,3,4] D D)
   refine bO 151 D (fW9 hb1) (eE D (eE D (nV D D (bU (jK D (bN (bK (bG (bM (fY D D (bS D (bH ?_))))))))))))
   exact cQ (jw+1) G G ⟨D,D,D,D,D,D,D,(cP G),bB⟩ (fun _ hm=>hm.pick [1] [0] [0,1,2,3,4] D D)
  refine bO 147 D (fW9 hb0) (eE D (eE D (nV D D (bS D (eE D (eE D (nV D D (bU (jK D (bN (bK (bG (bM (fY D D (bS D (bH ?_))))))))))))))))
  exact cQ (jw+1) G G ⟨D,D,D,D,D,D,D,(cP G),bB⟩ (fun _ hm=>hm.pick [1] [0] [0,1,2,3,4] D D)
 refine dD (bI (bI (bY (bG (bX (bS D (W (eT D D) D (bS D ?_))))))))
 rcases Bool.eq_false_or_eq_true (decide (E=0)) with hE0|hE0
 ·refine bO 158 D (fW9 hE0) ?_
  have hE0:E=0:=of_decide_eq_true hE0
  obtain ⟨hn2,hol,hgd,hc2⟩:=hgood hE0
  refine eN D (dZ wS D D (eN D (dZ xT D D (eN D (eO cO3 0 D D D (eN D (bS D (eN D (bS D (eN D (bS D (eN D (cR (v:=J 0) D fX6 D D (fun wx hm=>(by subst hn2;exact dL4 cl (some ⟨cb,cof,none⟩) 4 cc (wI vl cl) kA 4 kc bl bA n2 bc o A2 c2 wx (hm.fact 3 rfl).2.1 pI bD (SlT.ofOwn cD2 (hm.ownI 0 rfl) hskl) hso bD (hm.fact 1 rfl) hbok G (by have h:=(hm.fact 0 rfl);rw [decide_eq_true hE0] at h;exact h) G G hgd hE)) (eN D (W (eT D D) D (bO 166 (v':= .bool true) D (fW9 bD) (mS D D (bS D (eE D (eE D (mS D D (bS D (eN D (cR D cb9 D D (fun wx hm=>(bY3 wx)) (mS D D (cG D (bU (bR ?_))))))))))))))))))))))))))))
  exact bQ D D fun wx hm=>⟨D,cE7 hg1 hsb hm.g⟩
 refine bO 158 D (fW9 hE0) ?_
 have hE0:¬E=0:=of_decide_eq_false hE0
 have hE1:E=12:=hE12.resolve_left hE0
 refine eE D (eE D (eE D (eE D (eE D (eE D (eE D (eE D (nV D D (bS D (eN D (bS D (eN D (W (eT D D) D (bO 170 (v':= .bool true) D (fW9 (decide_eq_true hE1)) (nV D D (bS D (eN D (cR D cb9 D D (fun wx hm=>(bY3 wx)) (mS D D (cG D (bU (bR ?_))))))))))))))))))))))
 exact bQ D D fun wx hm=>⟨D,cE7 hg1 hsb hm.g⟩
theorem bookingsFit_law{l:List (String×DataW Unit)}(y1 y2:List UInt8)(a0:Option Addr)(len0 cap0:Nat)(z0:List Int)(W':World)(hR:RowIn W' a0 len0 cap0 z0)(hL:laidMet prog l W')(hS:W'.ShapedOpen prog)
 (h1:l.filter (fun x=>x.1== "internal/strconv.uint64pow10")= [("internal/strconv.uint64pow10",Lib.tabData .u64 Lib.pow10Tab)])
 (h2:l.filter (fun x=>x.1== "strconv.ErrSyntax")= [("strconv.ErrSyntax",.iface "*errors.errorString" (.ptr (.agg [.lit (.string y1)])))])
 (h3:l.filter (fun x=>x.1== "strconv.ErrRange")= [("strconv.ErrRange",.iface "*errors.errorString" (.ptr (.agg [.lit (.string y2)])))]):
 Calls prog 3 #[H a0 len0 cap0] W' fun e w'=>e=.returned (.bool true)/\Below W'.heap.size W' w':=
 bW6 a0 len0 cap0 z0 W' hR (eR7 y1 y2 hL hS h1 h2 h3)
end Go.Proofs.YtapdhfjfgpbnnaaGreatDoor
