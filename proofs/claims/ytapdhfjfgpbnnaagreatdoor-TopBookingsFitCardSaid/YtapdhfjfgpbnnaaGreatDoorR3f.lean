/- Several texts as one: Tt Te Tj Tk Tm Tu To Tq Va Hk Ln Tot Gt Lf Vc Ua Tbq Tb Tn Ub Tx Uc Fy Qa Qb Qc Qd Vb Qe Rtf -/
import Derived.Test.YtapdhfjfgpbnnaaGreatDoorR3a
import Derived.Test.YtapdhfjfgpbnnaaGreatDoorR3e
import Derived.Test.YtapdhfjfgpbnnaaGreatDoorR3b
import Derived.Test.YtapdhfjfgpbnnaaGreatDoorR3c
import Derived.IntWalk
import Derived.Test.YtapdhfjfgpbnnaaGreatDoorR3d
import Derived.OneCell
set_option maxRecDepth 100000
set_option maxHeartbeats 4000000
namespace Go.Proofs.YtapdhfjfgpbnnaaGreatDoor
open Tryz
open Go.RowKit
def pK(x:Cd):List Value:= [U x.key,U x.cls,J x.fr,J x.to_,J x.days,J x.mille]
theorem bR3(x:Cd):(pK x).length=6:=rfl
theorem cS4{l:List Cd}{k:Nat}{b:Cd}(h:keyB b.key=true):leB b.key (zX l k)=cV9 (prevOf l k) b:=by
 unfold zX cV9
 cases prevOf l k with
 |none=>exact dK5 h
 |some q=>rfl
theorem cG0(l:List Cd)(A:Option Addr)(n c:Nat)(w:World)(hl:SlT pK 6 209 w A n l)(hok:∀b∈l,bQ0 b)(hn:n<=1000000):
 Calls prog 132 #[H A n c] w (nG w (uX l)):=by
 refine cY ⟨68,w,none, []⟩ func132 D ntmps132 D (fZ (X:= [bT pK 6 209 w.heap.size none A n l]) (cC hl.old cZ) (cE bT.lasts dA)) (bX ?_)
 have hlen:=hl.len
 refine cG D (bU (bJ (bX (bS D (W (dP cG3 D) D (W (eM D D) D (bU ?_)))))))
 refine cN D (fun h1=>?_) (fun h1=>?_)
 ·refine bX (cG D (bU ?_))
  refine bR (F ?_)
  exact bQ D D fun wx hm=>⟨cL (by unfold uX;rw [if_pos G]),hm.g⟩
 refine bN (bG (bJ (bX (bS D (W (dP cG3 D) D (bS D (bU (bP ?_))))))))
 refine dS (γ:=Nat) (fun (k:Nat)=>k<=n/\uX l=scanE fO (prevOf l k) (l.drop k)) (fun (k:Nat)=> [(0,H A n c),(8,H A n c),(9,I n),(10,I k)]) (fun (k:Nat)=>fun _=>True) (fun (k:Nat)=> []) (fun (k:Nat)=> []) (fun (k:Nat)=> [bT pK 6 209 w.heap.size none A n l]) (fun (k:Nat)=>n - k) 0 ⟨Nat.zero_le _,by unfold uX;rw [if_neg G];rfl⟩ ⟨D,D,D,D,bB⟩ (fun _ hm=>hm.pick [] [] [0] D D) ?_
 intro k bZ
 replace bZ:k<=n/\uX l=scanE fO (prevOf l k) (l.drop k):=bZ
 refine bX (W (dF D D) D (bU (bJ ?_)))
 refine cN D (fun hk=>?_) (fun hk=>?_)
 ·refine bN (bG (bJ (bP (bX ?_))))
  obtain ⟨b,off,hA,_,_⟩:=hl.get G
  subst hA
  obtain ⟨x,hx⟩:∃x,l[k]?=some x:=⟨_,fY9 G⟩
  obtain ⟨ke,cl,fr,tt,dy,mi⟩:=x
  have hat:=scanE_at fO l k _ hx
  have hk1:ke.size<=1000000:=(hok _ (fZ9 hx)).1
  have hk2:cl.size<=1000000:=(hok _ (fZ9 hx)).2
  refine bS D (W (bV (j:=k) cG3 D D G) D (W (dR (vs:= [U ke,U cl,J fr,J tt,J dy,J mi]) dB6 D (fun _ hm=>(hm.fact 0 D).1) hx D D) D (dM eN9 D fun g1=>cG D (kE (cs':= [U ke,U cl,J fr,J tt,J dy,J mi]) 0 dB6 D D D D (bU (bP (bX (dZ wE D D (eO fR 0 D D D (dC D bW2 D D (fun wx hm=>(isKey_any _ wx G)) (W (cS D) D (cG D (bU ?_)))))))))))))
  refine dE D (fun hh=>?_) (fun hh=>?_)
  ·have h2:(keyB ke)=false:=by simpa using hh
   refine bX (cG D (bU (bR (C (C (F (F (C (F ?_)))))))))
   have hE:fO (prevOf l k) ⟨ke,cl,fr,tt,dy,mi⟩=5:=by unfold fO;simp [h2]
   exact bQ D D fun wx hm=>⟨cL (by rw [bZ.2,hat,if_neg (by rw [hE];decide),hE]),hm.g⟩
  have h2:(keyB ke)=true:=by simpa using hh
  refine bJ ?_
  by_cases hk0:k=0
  ·have hO:cV9 (prevOf l k) ⟨ke,cl,fr,tt,dy,mi⟩=false:=by rw [pM hk0];rfl
   refine gd (fun wz=>True) mixed (fun _ _=>bB) fun z=>wq 0 D (bL D) (wq 1 D (eM D D) (dI 22 (v':= .bool false) D (fW9 (decide_eq_false G)) (wq 2 D (bL D) (eL 3 D (eL 4 D (eL 5 D (eL 6 D (eL 7 D (eL 8 D (eL 9 D (eL 10 D (eL 11 D (wq 12 D (eZ D D) (wq 13 D (dB D) (gY (bG (jK D (bX (dZ bE2 D D (eO fR 0 D D D (W (xO D D) D (bS D ?_))))))))))))))))))))))
   rcases Bool.eq_false_or_eq_true (!(cl.toList==(⟨#[]⟩:M).toList)) with nJ|nJ
   ·refine bO 38 D (fW9 nJ) ?_
    have nJ:jB cl=false:=by unfold jB;simpa only [Bool.not_eq_true'] using nJ
    refine eN D (dZ bE2 D D (eN D (eO fR 0 D D D (eN D (dC D bW2 D D (fun wx hm=>(isKey_any _ wx G)) (eN D (W (cS D) D (mS D D (cG D (bU ?_))))))))))
    refine dE D (fun hh=>?_) (fun hh=>?_)
    ·have h32:(keyB cl)=false:=by simpa using hh
     refine bX (cG D (bU (bR (C (C (F (F (C (F ?_)))))))))
     have hE:fO (prevOf l k) ⟨ke,cl,fr,tt,dy,mi⟩=5:=by unfold fO;simp [h2,hO,nJ,h32]
     exact bQ D D fun wx hm=>⟨cL (by rw [bZ.2,hat,if_neg (by rw [hE];decide),hE]),hm.g⟩
    have h32:(keyB cl)=true:=by simpa using hh
    refine bX (dZ bF2 D D (eO fM 0 D D D (dZ rM D D (eO fM 0 D D D (dC D pS D D (fun wx hm=>(in_any _ _ _ wx)) (W (cS D) D (bS D ?_)))))))
    rcases Bool.eq_false_or_eq_true (!(inB fr 0 tt)) with h4|h4
    ·refine bO 51 D (fW9 h4) ?_
     refine eE D (eE D (eE D (mS D D (cG D (bU (mT D (bX (cG D (bU (bR (C (C (F (F (C (F ?_))))))))))))))))
     have hE:fO (prevOf l k) ⟨ke,cl,fr,tt,dy,mi⟩=1:=by unfold fO;simp [h2,hO,nJ,h32,h4]
     exact bQ D D fun wx hm=>⟨cL (by rw [bZ.2,hat,if_neg (by rw [hE];decide),hE]),hm.g⟩
    refine bO 51 D (fW9 h4) (eN D (dZ rM D D (eN D (eO fM 0 D D D (eN D (W (eM D D) D (nV D D (cG D (bU ?_)))))))))
    refine cN D (fun h5=>?_) (fun h5=>?_)
    ·refine bX (cG D (bU ?_))
     refine bR (C (C (F (F (C (F ?_))))))
     have hE:fO (prevOf l k) ⟨ke,cl,fr,tt,dy,mi⟩=1:=by unfold fO;simp [h2,hO,nJ,h32,h4,h5]
     exact bQ D D fun wx hm=>⟨cL (by rw [bZ.2,hat,if_neg (by rw [hE];decide),hE]),hm.g⟩
    refine bX (dZ zE D D (eO fM 0 D D D (dC D pS D D (fun wx hm=>(in_any _ _ _ wx)) (W (cS D) D (bS D ?_)))))
    rcases Bool.eq_false_or_eq_true (!(inB dy 1 120)) with h6|h6
    ·refine bO 61 D (fW9 h6) ?_
     refine eE D (eE D (eE D (eE D (mS D D (cG D (bU (mT D (bX (cG D (bU (bR (C (C (F (F (C (F ?_)))))))))))))))))
     have hE:fO (prevOf l k) ⟨ke,cl,fr,tt,dy,mi⟩=1:=by unfold fO;simp [h2,hO,nJ,h32,h4,h5,h6]
     exact bQ D D fun wx hm=>⟨cL (by rw [bZ.2,hat,if_neg (by rw [hE];decide),hE]),hm.g⟩
    refine bO 61 D (fW9 h6) (eN D (dZ zF D D (eN D (eO fM 0 D D D (eN D (dC D pS D D (fun wx hm=>(in_any _ _ _ wx)) (eN D (W (cS D) D (nV D D (cG D (bU ?_)))))))))))
    refine dE D (fun hh=>?_) (fun hh=>?_)
    ·have h7:(inB mi 1 1000)=false:=by simpa using hh
     refine bX (cG D (bU (bR (C (C (F (F (C (F ?_)))))))))
     have hE:fO (prevOf l k) ⟨ke,cl,fr,tt,dy,mi⟩=1:=by unfold fO;simp [h2,hO,nJ,h32,h4,h5,h6,h7]
     exact bQ D D fun wx hm=>⟨cL (by rw [bZ.2,hat,if_neg (by rw [hE];decide),hE]),hm.g⟩
    have h7:(inB mi 1 1000)=true:=by simpa using hh
    refine bN (bK (bK (bG (bM ?_))))
    have hE:fO (prevOf l k) ⟨ke,cl,fr,tt,dy,mi⟩=0:=by unfold fO;simp [h2,hO,nJ,h32,h4,h5,h6,h7]
    refine fY D D (bS D (bH ?_))
    exact cQ (k+1) ⟨G,by rw [bZ.2,hat,if_pos hE]⟩ G ⟨D,D,D,(cP G),bB⟩ (fun _ hm=>hm.pick [] [] [0] D D)
   refine bO 38 D (fW9 nJ) ?_
   have nJ:jB cl=true:=by unfold jB;simpa only [Bool.not_eq_false'] using nJ
   refine eE D (eE D (eE D (eE D (nV D D (cG D (bU (jK D (bX (dZ bF2 D D (eO fM 0 D D D (dZ rM D D (eO fM 0 D D D (dC D pS D D (fun wx hm=>(in_any _ _ _ wx)) (W (cS D) D (bS D ?_)))))))))))))))
   rcases Bool.eq_false_or_eq_true (!(inB fr 0 tt)) with h4|h4
   ·refine bO 51 D (fW9 h4) ?_
    refine eE D (eE D (eE D (mS D D (cG D (bU (mT D (bX (cG D (bU (bR (C (C (F (F (C (F ?_))))))))))))))))
    have hE:fO (prevOf l k) ⟨ke,cl,fr,tt,dy,mi⟩=1:=by unfold fO;simp [h2,hO,nJ,h4]
    exact bQ D D fun wx hm=>⟨cL (by rw [bZ.2,hat,if_neg (by rw [hE];decide),hE]),hm.g⟩
   refine bO 51 D (fW9 h4) (eN D (dZ rM D D (eN D (eO fM 0 D D D (eN D (W (eM D D) D (nV D D (cG D (bU ?_)))))))))
   refine cN D (fun h5=>?_) (fun h5=>?_)
   ·refine bX (cG D (bU ?_))
    refine bR (C (C (F (F (C (F ?_))))))
    have hE:fO (prevOf l k) ⟨ke,cl,fr,tt,dy,mi⟩=1:=by unfold fO;simp [h2,hO,nJ,h4,h5]
    exact bQ D D fun wx hm=>⟨cL (by rw [bZ.2,hat,if_neg (by rw [hE];decide),hE]),hm.g⟩
   refine bX (dZ zE D D (eO fM 0 D D D (dC D pS D D (fun wx hm=>(in_any _ _ _ wx)) (W (cS D) D (bS D ?_)))))
   rcases Bool.eq_false_or_eq_true (!(inB dy 1 120)) with h6|h6
   ·refine bO 61 D (fW9 h6) ?_
    refine eE D (eE D (eE D (eE D (mS D D (cG D (bU (mT D (bX (cG D (bU (bR (C (C (F (F (C (F ?_)))))))))))))))))
    have hE:fO (prevOf l k) ⟨ke,cl,fr,tt,dy,mi⟩=1:=by unfold fO;simp [h2,hO,nJ,h4,h5,h6]
    exact bQ D D fun wx hm=>⟨cL (by rw [bZ.2,hat,if_neg (by rw [hE];decide),hE]),hm.g⟩
   refine bO 61 D (fW9 h6) (eN D (dZ zF D D (eN D (eO fM 0 D D D (eN D (dC D pS D D (fun wx hm=>(in_any _ _ _ wx)) (eN D (W (cS D) D (nV D D (cG D (bU ?_)))))))))))
   refine dE D (fun hh=>?_) (fun hh=>?_)
   ·have h7:(inB mi 1 1000)=false:=by simpa using hh
    refine bX (cG D (bU (bR (C (C (F (F (C (F ?_)))))))))
    have hE:fO (prevOf l k) ⟨ke,cl,fr,tt,dy,mi⟩=1:=by unfold fO;simp [h2,hO,nJ,h4,h5,h6,h7]
    exact bQ D D fun wx hm=>⟨cL (by rw [bZ.2,hat,if_neg (by rw [hE];decide),hE]),hm.g⟩
   have h7:(inB mi 1 1000)=true:=by simpa using hh
   refine bN (bK (bK (bG (bM ?_))))
   have hE:fO (prevOf l k) ⟨ke,cl,fr,tt,dy,mi⟩=0:=by unfold fO;simp [h2,hO,nJ,h4,h5,h6,h7]
   refine fY D D (bS D (bH ?_))
   exact cQ (k+1) ⟨G,by rw [bZ.2,hat,if_pos hE]⟩ G ⟨D,D,D,(cP G),bB⟩ (fun _ hm=>hm.pick [] [] [0] D D)
  obtain ⟨y,hy⟩:∃x,l[k - 1]?=some x:=⟨_,fY9 G⟩
  obtain ⟨p0,p1,p2,p3,p4,p5⟩:=y
  refine gd (fun wz=>Blk wz g1 209 [U ke,U cl,J fr,J tt,J dy,J mi]/\(bT pK 6 209 w.heap.size none (some ⟨b,off,none⟩) n l) wz/\True) mixed (fun _ hm=>⟨hm.bl 0,hm.fa 0,bB⟩) fun z=>wq 0 D (bL D) (wq 1 D (eM D D) (dI 22 (v':= .bool true) D (fW9 (decide_eq_true G)) (wq 2 D (bL D) (eU 3 D (bW wE D D) (eU 4 D (cH fR D (fun _ hm=>hm.1) D) (eU 5 D (bL D) (eU 6 D (bL D) (eU 7 D (ov_sub D D G G) (dI 28 (v':=I (k - 1)) D (fX9 G) (eU 8 D (bV (j:=k - 1) cG3 D D G) (eU 9 D (bW wE D D) (eU 10 D (dH (k:=0) (v:=U p0) fR D (fun _ hm=>(hm.2.1).1) hy D D) (eU 11 D (wH D D) (wq 12 D (fG D D) (wq 13 D (dB D) (gY (bG ?_)))))))))))))))))
  refine dE D (fun hh=>?_) (fun hh=>?_)
  ·have h9:(Op.bytesLess ke.toList p0.toList||ke.toList==p0.toList)=true:=by simpa using hh
   refine bX ?_
   have hO:cV9 (prevOf l k) ⟨ke,cl,fr,tt,dy,mi⟩=true:=by rw [jZ hk0 hy];exact h9
   refine cG D (bU (bR (C (C (F (F (C (F ?_))))))))
   have hE:fO (prevOf l k) ⟨ke,cl,fr,tt,dy,mi⟩=7:=by unfold fO;simp [h2,hO]
   exact bQ D D fun wx hm=>⟨cL (by rw [bZ.2,hat,if_neg (by rw [hE];decide),hE]),hm.g⟩
  have h9:(Op.bytesLess ke.toList p0.toList||ke.toList==p0.toList)=false:=by simpa using hh
  refine bX ?_
  have hO:cV9 (prevOf l k) ⟨ke,cl,fr,tt,dy,mi⟩=false:=by rw [jZ hk0 hy];exact h9
  refine dZ bE2 D D (eO fR 0 D D D (W (xO D D) D (bS D ?_)))
  rcases Bool.eq_false_or_eq_true (!(cl.toList==(⟨#[]⟩:M).toList)) with nJ|nJ
  ·refine bO 38 D (fW9 nJ) ?_
   have nJ:jB cl=false:=by unfold jB;simpa only [Bool.not_eq_true'] using nJ
   refine eN D (dZ bE2 D D (eN D (eO fR 0 D D D (eN D (dC D bW2 D D (fun wx hm=>(isKey_any _ wx G)) (eN D (W (cS D) D (mS D D (cG D (bU ?_))))))))))
   refine dE D (fun hh=>?_) (fun hh=>?_)
   ·have h32:(keyB cl)=false:=by simpa using hh
    refine bX (cG D (bU (bR (C (C (F (F (C (F ?_)))))))))
    have hE:fO (prevOf l k) ⟨ke,cl,fr,tt,dy,mi⟩=5:=by unfold fO;simp [h2,hO,nJ,h32]
    exact bQ D D fun wx hm=>⟨cL (by rw [bZ.2,hat,if_neg (by rw [hE];decide),hE]),hm.g⟩
   have h32:(keyB cl)=true:=by simpa using hh
   refine bX (dZ bF2 D D (eO fM 0 D D D (dZ rM D D (eO fM 0 D D D (dC D pS D D (fun wx hm=>(in_any _ _ _ wx)) (W (cS D) D (bS D ?_)))))))
   rcases Bool.eq_false_or_eq_true (!(inB fr 0 tt)) with h4|h4
   ·refine bO 51 D (fW9 h4) ?_
    refine eE D (eE D (eE D (mS D D (cG D (bU (mT D (bX (cG D (bU (bR (C (C (F (F (C (F ?_))))))))))))))))
    have hE:fO (prevOf l k) ⟨ke,cl,fr,tt,dy,mi⟩=1:=by unfold fO;simp [h2,hO,nJ,h32,h4]
    exact bQ D D fun wx hm=>⟨cL (by rw [bZ.2,hat,if_neg (by rw [hE];decide),hE]),hm.g⟩
   refine bO 51 D (fW9 h4) (eN D (dZ rM D D (eN D (eO fM 0 D D D (eN D (W (eM D D) D (nV D D (cG D (bU ?_)))))))))
   refine cN D (fun h5=>?_) (fun h5=>?_)
   ·refine bX (cG D (bU ?_))
    refine bR (C (C (F (F (C (F ?_))))))
    have hE:fO (prevOf l k) ⟨ke,cl,fr,tt,dy,mi⟩=1:=by unfold fO;simp [h2,hO,nJ,h32,h4,h5]
    exact bQ D D fun wx hm=>⟨cL (by rw [bZ.2,hat,if_neg (by rw [hE];decide),hE]),hm.g⟩
   refine bX (dZ zE D D (eO fM 0 D D D (dC D pS D D (fun wx hm=>(in_any _ _ _ wx)) (W (cS D) D (bS D ?_)))))
   rcases Bool.eq_false_or_eq_true (!(inB dy 1 120)) with h6|h6
   ·refine bO 61 D (fW9 h6) ?_
    refine eE D (eE D (eE D (eE D (mS D D (cG D (bU (mT D (bX (cG D (bU (bR (C (C (F (F (C (F ?_)))))))))))))))))
    have hE:fO (prevOf l k) ⟨ke,cl,fr,tt,dy,mi⟩=1:=by unfold fO;simp [h2,hO,nJ,h32,h4,h5,h6]
    exact bQ D D fun wx hm=>⟨cL (by rw [bZ.2,hat,if_neg (by rw [hE];decide),hE]),hm.g⟩
   refine bO 61 D (fW9 h6) (eN D (dZ zF D D (eN D (eO fM 0 D D D (eN D (dC D pS D D (fun wx hm=>(in_any _ _ _ wx)) (eN D (W (cS D) D (nV D D (cG D (bU ?_)))))))))))
   refine dE D (fun hh=>?_) (fun hh=>?_)
   ·have h7:(inB mi 1 1000)=false:=by simpa using hh
    refine bX (cG D (bU (bR (C (C (F (F (C (F ?_)))))))))
    have hE:fO (prevOf l k) ⟨ke,cl,fr,tt,dy,mi⟩=1:=by unfold fO;simp [h2,hO,nJ,h32,h4,h5,h6,h7]
    exact bQ D D fun wx hm=>⟨cL (by rw [bZ.2,hat,if_neg (by rw [hE];decide),hE]),hm.g⟩
   have h7:(inB mi 1 1000)=true:=by simpa using hh
   refine bN (bK (bK (bG (bM ?_))))
   have hE:fO (prevOf l k) ⟨ke,cl,fr,tt,dy,mi⟩=0:=by unfold fO;simp [h2,hO,nJ,h32,h4,h5,h6,h7]
   refine fY D D (bS D (bH ?_))
   exact cQ (k+1) ⟨G,by rw [bZ.2,hat,if_pos hE]⟩ G ⟨D,D,D,(cP G),bB⟩ (fun _ hm=>hm.pick [] [] [0] D D)
  refine bO 38 D (fW9 nJ) ?_
  have nJ:jB cl=true:=by unfold jB;simpa only [Bool.not_eq_false'] using nJ
  refine eE D (eE D (eE D (eE D (nV D D (cG D (bU (jK D (bX (dZ bF2 D D (eO fM 0 D D D (dZ rM D D (eO fM 0 D D D (dC D pS D D (fun wx hm=>(in_any _ _ _ wx)) (W (cS D) D (bS D ?_)))))))))))))))
  rcases Bool.eq_false_or_eq_true (!(inB fr 0 tt)) with h4|h4
  ·refine bO 51 D (fW9 h4) ?_
   refine eE D (eE D (eE D (mS D D (cG D (bU (mT D (bX (cG D (bU (bR (C (C (F (F (C (F ?_))))))))))))))))
   have hE:fO (prevOf l k) ⟨ke,cl,fr,tt,dy,mi⟩=1:=by unfold fO;simp [h2,hO,nJ,h4]
   exact bQ D D fun wx hm=>⟨cL (by rw [bZ.2,hat,if_neg (by rw [hE];decide),hE]),hm.g⟩
  refine bO 51 D (fW9 h4) (eN D (dZ rM D D (eN D (eO fM 0 D D D (eN D (W (eM D D) D (nV D D (cG D (bU ?_)))))))))
  refine cN D (fun h5=>?_) (fun h5=>?_)
  ·refine bX (cG D (bU ?_))
   refine bR (C (C (F (F (C (F ?_))))))
   have hE:fO (prevOf l k) ⟨ke,cl,fr,tt,dy,mi⟩=1:=by unfold fO;simp [h2,hO,nJ,h4,h5]
   exact bQ D D fun wx hm=>⟨cL (by rw [bZ.2,hat,if_neg (by rw [hE];decide),hE]),hm.g⟩
  refine bX (dZ zE D D (eO fM 0 D D D (dC D pS D D (fun wx hm=>(in_any _ _ _ wx)) (W (cS D) D (bS D ?_)))))
  rcases Bool.eq_false_or_eq_true (!(inB dy 1 120)) with h6|h6
  ·refine bO 61 D (fW9 h6) ?_
   refine eE D (eE D (eE D (eE D (mS D D (cG D (bU (mT D (bX (cG D (bU (bR (C (C (F (F (C (F ?_)))))))))))))))))
   have hE:fO (prevOf l k) ⟨ke,cl,fr,tt,dy,mi⟩=1:=by unfold fO;simp [h2,hO,nJ,h4,h5,h6]
   exact bQ D D fun wx hm=>⟨cL (by rw [bZ.2,hat,if_neg (by rw [hE];decide),hE]),hm.g⟩
  refine bO 61 D (fW9 h6) (eN D (dZ zF D D (eN D (eO fM 0 D D D (eN D (dC D pS D D (fun wx hm=>(in_any _ _ _ wx)) (eN D (W (cS D) D (nV D D (cG D (bU ?_)))))))))))
  refine dE D (fun hh=>?_) (fun hh=>?_)
  ·have h7:(inB mi 1 1000)=false:=by simpa using hh
   refine bX (cG D (bU (bR (C (C (F (F (C (F ?_)))))))))
   have hE:fO (prevOf l k) ⟨ke,cl,fr,tt,dy,mi⟩=1:=by unfold fO;simp [h2,hO,nJ,h4,h5,h6,h7]
   exact bQ D D fun wx hm=>⟨cL (by rw [bZ.2,hat,if_neg (by rw [hE];decide),hE]),hm.g⟩
  have h7:(inB mi 1 1000)=true:=by simpa using hh
  refine bN (bK (bK (bG (bM ?_))))
  have hE:fO (prevOf l k) ⟨ke,cl,fr,tt,dy,mi⟩=0:=by unfold fO;simp [h2,hO,nJ,h4,h5,h6,h7]
  refine fY D D (bS D (bH ?_))
  exact cQ (k+1) ⟨G,by rw [bZ.2,hat,if_pos hE]⟩ G ⟨D,D,D,(cP G),bB⟩ (fun _ hm=>hm.pick [] [] [0] D D)
 refine dD (bI (bI (bY (bG (bX (cG D (bU (bR ?_))))))))
 exact bQ D D fun wx hm=>⟨cL (by rw [bZ.2,scanE_end _ _ _ _ G]),hm.g⟩
theorem cN0(l:List Cd)(A:Option Addr)(n c:Nat)(w:World)(hl:SlT pK 6 209 w A n l)(hok:∀b∈l,bQ0 b)(hn:n<=1000000):
 Calls prog 80 #[H A n c] w (nG w (uX l)):=by
 refine cY ⟨62,w,none, []⟩ func80 D ntmps80 D (fZ (X:= [bT pK 6 209 w.heap.size none A n l]) (cC hl.old cZ) (cE bT.lasts dA)) (bX ?_)
 have hlen:=hl.len
 refine cG D (bU (bJ (bX (bS D (W (dP cG3 D) D (W (eM D D) D (bU ?_)))))))
 refine cN D (fun h1=>?_) (fun h1=>?_)
 ·refine bX (cG D (bU ?_))
  refine bR (F ?_)
  exact bQ D D fun wx hm=>⟨cL (by unfold uX;rw [if_pos G]),hm.g⟩
 refine bN (bG (bX (cG D (bU (bJ (bX (bS D (W (dP cG3 D) D (bS D (bH (bG (bP ?_))))))))))))
 refine dS (γ:=Nat) (fun (k:Nat)=>k<=n/\uX l=scanE fO (prevOf l k) (l.drop k)) (fun (k:Nat)=> [(3,U (zX l k)),(9,H A n c),(10,I n),(11,I k)]) (fun (k:Nat)=>fun _=>True) (fun (k:Nat)=> []) (fun (k:Nat)=> []) (fun (k:Nat)=> [bT pK 6 209 w.heap.size none A n l]) (fun (k:Nat)=>n - k) 0 ⟨Nat.zero_le _,by unfold uX;rw [if_neg G];rfl⟩ ⟨D,D,D,D,bB⟩ (fun _ hm=>hm.pick [] [] [0] D D) ?_
 intro k bZ
 replace bZ:k<=n/\uX l=scanE fO (prevOf l k) (l.drop k):=bZ
 refine bX (W (dF D D) D (bU (bJ ?_)))
 refine cN D (fun hk=>?_) (fun hk=>?_)
 ·refine bN (bG (bJ (bP (bX ?_))))
  obtain ⟨b,off,hA,_,_⟩:=hl.get G
  subst hA
  obtain ⟨x,hx⟩:∃x,l[k]?=some x:=⟨_,fY9 G⟩
  obtain ⟨ke,cl,fr,tt,dy,mi⟩:=x
  have hat:=scanE_at fO l k _ hx
  have hk1:ke.size<=1000000:=(hok _ (fZ9 hx)).1
  have hk2:cl.size<=1000000:=(hok _ (fZ9 hx)).2
  refine W (bV (j:=k) cG3 D D G) D (W (dR (vs:= [U ke,U cl,J fr,J tt,J dy,J mi]) dB6 D (fun _ hm=>(hm.fact 0 D).1) hx D D) D (dM eN9 D fun g1=>kE (cs':= [U ke,U cl,J fr,J tt,J dy,J mi]) 0 dB6 D D D D (bU (bJ (bP (bX (dZ wE D D (eO fR 0 D D D (cR D cQ8 D D (fun wx hm=>(xM _ wx G)) (W (cS D) D (cG D (bU ?_))))))))))))
  refine dE D (fun hh=>?_) (fun hh=>?_)
  ·have h2:(keyB ke)=false:=by simpa using hh
   refine bX (cG D (bU (bR (C (F (C (F (F (C (F ?_))))))))))
   have hE:fO (prevOf l k) ⟨ke,cl,fr,tt,dy,mi⟩=5:=by unfold fO;simp [h2]
   exact bQ D D fun wx hm=>⟨cL (by rw [bZ.2,hat,if_neg (by rw [hE];decide),hE]),hm.g⟩
  have h2:(keyB ke)=true:=by simpa using hh
  refine bX (dZ wE D D (eO fR 0 D D D (bS D (W (wH D D) D (cG D (bU ?_))))))
  refine dE D (fun hh=>?_) (fun hh=>?_)
  ·have h9:(Op.bytesLess ke.toList (zX l k).toList||ke.toList==(zX l k).toList)=true:=by simpa using hh
   refine bX ?_
   have hO:cV9 (prevOf l k) ⟨ke,cl,fr,tt,dy,mi⟩=true:=(cS4 (b:=⟨ke,cl,fr,tt,dy,mi⟩) (by simpa using h2)).symm.trans h9
   refine cG D (bU (bR (C (F (C (F (F (C (F ?_)))))))))
   have hE:fO (prevOf l k) ⟨ke,cl,fr,tt,dy,mi⟩=7:=by unfold fO;simp [h2,hO]
   exact bQ D D fun wx hm=>⟨cL (by rw [bZ.2,hat,if_neg (by rw [hE];decide),hE]),hm.g⟩
  have h9:(Op.bytesLess ke.toList (zX l k).toList||ke.toList==(zX l k).toList)=false:=by simpa using hh
  refine bX ?_
  have hO:cV9 (prevOf l k) ⟨ke,cl,fr,tt,dy,mi⟩=false:=(cS4 (b:=⟨ke,cl,fr,tt,dy,mi⟩) (by simpa using h2)).symm.trans h9
  refine dZ bE2 D D (eO fR 0 D D D (W (xO D D) D (bS D ?_)))
  rcases Bool.eq_false_or_eq_true (!(cl.toList==(⟨#[]⟩:M).toList)) with nJ|nJ
  ·refine bO 29 D (fW9 nJ) ?_
   have nJ:jB cl=false:=by unfold jB;simpa only [Bool.not_eq_true'] using nJ
   refine eN D (dZ bE2 D D (eN D (eO fR 0 D D D (eN D (cR D cQ8 D D (fun wx hm=>(xM _ wx G)) (eN D (W (cS D) D (mS D D (cG D (bU ?_))))))))))
   refine dE D (fun hh=>?_) (fun hh=>?_)
   ·have h32:(keyB cl)=false:=by simpa using hh
    refine bX (cG D (bU (bR (C (F (C (F (F (C (F ?_))))))))))
    have hE:fO (prevOf l k) ⟨ke,cl,fr,tt,dy,mi⟩=5:=by unfold fO;simp [h2,hO,nJ,h32]
    exact bQ D D fun wx hm=>⟨cL (by rw [bZ.2,hat,if_neg (by rw [hE];decide),hE]),hm.g⟩
   have h32:(keyB cl)=true:=by simpa using hh
   refine bX (dZ bF2 D D (eO fM 0 D D D (dZ rM D D (eO fM 0 D D D (dC D bT4 D D (fun wx hm=>(kM _ _ _ wx)) (W (cS D) D (bS D ?_)))))))
   rcases Bool.eq_false_or_eq_true (!(inB fr 0 tt)) with h4|h4
   ·refine bO 42 D (fW9 h4) ?_
    refine eE D (eE D (eE D (mS D D (bS D (eE D (eE D (eE D (eE D (mS D D (bS D (eE D (eE D (eE D (eE D (mS D D (cG D (bU (mT D (bX (cG D (bU (bR (C (F (C (F (F (C (F ?_)))))))))))))))))))))))))))))
    have hE:fO (prevOf l k) ⟨ke,cl,fr,tt,dy,mi⟩=1:=by unfold fO;simp [h2,hO,nJ,h32,h4]
    exact bQ D D fun wx hm=>⟨cL (by rw [bZ.2,hat,if_neg (by rw [hE];decide),hE]),hm.g⟩
   refine bO 42 D (fW9 h4) (eN D (dZ rM D D (eN D (eO fM 0 D D D (eN D (W (eM D D) D (nV D D (bS D ?_))))))))
   rcases Bool.eq_false_or_eq_true (decide (4001 < tt)) with h5|h5
   ·refine bO 47 D (fW9 h5) ?_
    replace h5:=of_decide_eq_true h5
    refine eE D (eE D (eE D (eE D (mS D D (bS D (eE D (eE D (eE D (eE D (mS D D (cG D (bU (mT D (bX (cG D (bU (bR (C (F (C (F (F (C (F ?_))))))))))))))))))))))))
    have hE:fO (prevOf l k) ⟨ke,cl,fr,tt,dy,mi⟩=1:=by unfold fO;simp [h2,hO,nJ,h32,h4,h5]
    exact bQ D D fun wx hm=>⟨cL (by rw [bZ.2,hat,if_neg (by rw [hE];decide),hE]),hm.g⟩
   refine bO 47 D (fW9 h5) ?_
   replace h5:=of_decide_eq_false h5
   refine eN D (dZ zE D D (eN D (eO fM 0 D D D (eN D (dC D bT4 D D (fun wx hm=>(kM _ _ _ wx)) (eN D (W (cS D) D (nV D D (bS D ?_)))))))))
   rcases Bool.eq_false_or_eq_true (!(inB dy 1 120)) with h6|h6
   ·refine bO 53 D (fW9 h6) ?_
    refine eE D (eE D (eE D (eE D (mS D D (cG D (bU (mT D (bX (cG D (bU (bR (C (F (C (F (F (C (F ?_))))))))))))))))))
    have hE:fO (prevOf l k) ⟨ke,cl,fr,tt,dy,mi⟩=1:=by unfold fO;simp [h2,hO,nJ,h32,h4,h5,h6]
    exact bQ D D fun wx hm=>⟨cL (by rw [bZ.2,hat,if_neg (by rw [hE];decide),hE]),hm.g⟩
   refine bO 53 D (fW9 h6) (eN D (dZ zF D D (eN D (eO fM 0 D D D (eN D (dC D bT4 D D (fun wx hm=>(kM _ _ _ wx)) (eN D (W (cS D) D (nV D D (cG D (bU ?_)))))))))))
   refine dE D (fun hh=>?_) (fun hh=>?_)
   ·have h7:(inB mi 1 1000)=false:=by simpa using hh
    refine bX (cG D (bU (bR (C (F (C (F (F (C (F ?_))))))))))
    have hE:fO (prevOf l k) ⟨ke,cl,fr,tt,dy,mi⟩=1:=by unfold fO;simp [h2,hO,nJ,h32,h4,h5,h6,h7]
    exact bQ D D fun wx hm=>⟨cL (by rw [bZ.2,hat,if_neg (by rw [hE];decide),hE]),hm.g⟩
   have h7:(inB mi 1 1000)=true:=by simpa using hh
   refine bN (bK (bG (bM ?_)))
   have hE:fO (prevOf l k) ⟨ke,cl,fr,tt,dy,mi⟩=0:=by unfold fO;simp [h2,hO,nJ,h32,h4,h5,h6,h7]
   refine dZ wE D D (eO fR 0 D D D (cG D (bH (bK (bG (bM (fY D D (bS D (bH ?_)))))))))
   exact cQ (k+1) ⟨G,by rw [bZ.2,hat,if_pos hE]⟩ G ⟨(congrArg (fun z=>some (U z)) (bR8 hx).symm),D,D,(cP G),bB⟩ (fun _ hm=>hm.pick [] [] [0] D D)
  refine bO 29 D (fW9 nJ) ?_
  have nJ:jB cl=true:=by unfold jB;simpa only [Bool.not_eq_false'] using nJ
  refine eE D (eE D (eE D (eE D (nV D D (cG D (bU (jK D (bX (dZ bF2 D D (eO fM 0 D D D (dZ rM D D (eO fM 0 D D D (dC D bT4 D D (fun wx hm=>(kM _ _ _ wx)) (W (cS D) D (bS D ?_)))))))))))))))
  rcases Bool.eq_false_or_eq_true (!(inB fr 0 tt)) with h4|h4
  ·refine bO 42 D (fW9 h4) ?_
   refine eE D (eE D (eE D (mS D D (bS D (eE D (eE D (eE D (eE D (mS D D (bS D (eE D (eE D (eE D (eE D (mS D D (cG D (bU (mT D (bX (cG D (bU (bR (C (F (C (F (F (C (F ?_)))))))))))))))))))))))))))))
   have hE:fO (prevOf l k) ⟨ke,cl,fr,tt,dy,mi⟩=1:=by unfold fO;simp [h2,hO,nJ,h4]
   exact bQ D D fun wx hm=>⟨cL (by rw [bZ.2,hat,if_neg (by rw [hE];decide),hE]),hm.g⟩
  refine bO 42 D (fW9 h4) (eN D (dZ rM D D (eN D (eO fM 0 D D D (eN D (W (eM D D) D (nV D D (bS D ?_))))))))
  rcases Bool.eq_false_or_eq_true (decide (4001 < tt)) with h5|h5
  ·refine bO 47 D (fW9 h5) ?_
   replace h5:=of_decide_eq_true h5
   refine eE D (eE D (eE D (eE D (mS D D (bS D (eE D (eE D (eE D (eE D (mS D D (cG D (bU (mT D (bX (cG D (bU (bR (C (F (C (F (F (C (F ?_))))))))))))))))))))))))
   have hE:fO (prevOf l k) ⟨ke,cl,fr,tt,dy,mi⟩=1:=by unfold fO;simp [h2,hO,nJ,h4,h5]
   exact bQ D D fun wx hm=>⟨cL (by rw [bZ.2,hat,if_neg (by rw [hE];decide),hE]),hm.g⟩
  refine bO 47 D (fW9 h5) ?_
  replace h5:=of_decide_eq_false h5
  refine eN D (dZ zE D D (eN D (eO fM 0 D D D (eN D (dC D bT4 D D (fun wx hm=>(kM _ _ _ wx)) (eN D (W (cS D) D (nV D D (bS D ?_)))))))))
  rcases Bool.eq_false_or_eq_true (!(inB dy 1 120)) with h6|h6
  ·refine bO 53 D (fW9 h6) ?_
   refine eE D (eE D (eE D (eE D (mS D D (cG D (bU (mT D (bX (cG D (bU (bR (C (F (C (F (F (C (F ?_))))))))))))))))))
   have hE:fO (prevOf l k) ⟨ke,cl,fr,tt,dy,mi⟩=1:=by unfold fO;simp [h2,hO,nJ,h4,h5,h6]
   exact bQ D D fun wx hm=>⟨cL (by rw [bZ.2,hat,if_neg (by rw [hE];decide),hE]),hm.g⟩
  refine bO 53 D (fW9 h6) (eN D (dZ zF D D (eN D (eO fM 0 D D D (eN D (dC D bT4 D D (fun wx hm=>(kM _ _ _ wx)) (eN D (W (cS D) D (nV D D (cG D (bU ?_)))))))))))
  refine dE D (fun hh=>?_) (fun hh=>?_)
  ·have h7:(inB mi 1 1000)=false:=by simpa using hh
   refine bX (cG D (bU (bR (C (F (C (F (F (C (F ?_))))))))))
   have hE:fO (prevOf l k) ⟨ke,cl,fr,tt,dy,mi⟩=1:=by unfold fO;simp [h2,hO,nJ,h4,h5,h6,h7]
   exact bQ D D fun wx hm=>⟨cL (by rw [bZ.2,hat,if_neg (by rw [hE];decide),hE]),hm.g⟩
  have h7:(inB mi 1 1000)=true:=by simpa using hh
  refine bN (bK (bG (bM ?_)))
  have hE:fO (prevOf l k) ⟨ke,cl,fr,tt,dy,mi⟩=0:=by unfold fO;simp [h2,hO,nJ,h4,h5,h6,h7]
  refine dZ wE D D (eO fR 0 D D D (cG D (bH (bK (bG (bM (fY D D (bS D (bH ?_)))))))))
  exact cQ (k+1) ⟨G,by rw [bZ.2,hat,if_pos hE]⟩ G ⟨(congrArg (fun z=>some (U z)) (bR8 hx).symm),D,D,(cP G),bB⟩ (fun _ hm=>hm.pick [] [] [0] D D)
 refine dD (bI (bI (bY (bG (bX (cG D (bU (bR ?_))))))))
 exact bQ D D fun wx hm=>⟨cL (by rw [bZ.2,scanE_end _ _ _ _ G]),hm.g⟩
theorem eC5{l:List Cd}{x:Cd}(h:∀y∈l,bQ0 y)(h1:x.key.size<=1000000)(h2:x.cls.size<=1000000):∀y∈l++ [x],bQ0 y:=fun y hy=>by
 rcases List.mem_append.1 hy with hy|hy
 ·exact h y hy
 ·rw [List.mem_singleton.1 hy];exact ⟨h1,h2⟩
theorem dW1{l:List Cd}{x:Cd}{j:Nat}(h:∀y∈l,bQ0 y)(h1:x.key.size<=1000000)(h2:x.cls.size<=1000000):∀y∈l.set j x,bQ0 y:=fun y hy=>by
 rcases List.mem_or_eq_of_mem_set hy with hy|rfl
 ·exact h y hy
 ·exact ⟨h1,h2⟩
theorem dK2(w:World)(B sb m:Nat)(hS:fQ 25 w B sb m)(hm:m<=100000000000):
 Calls prog 75 #[.pointer (some ⟨sb,0,none⟩)] w (fun e w'=>∃(A:Option Addr) (n c:Nat) (l:List Cd),e=.returned (H A n c)/\SlT pK 6 209 w' A n l/\(∀x∈l,bQ0 x)/\n<=3/\n<=c/\fQ 25 w' B sb (m+50)/\w.grownBy w' (some sb)):=by
 refine cY ⟨74,w,(some sb), []⟩ func75 D ntmps75 D (bU5 (X:= []) hS cZ dA) (bX (cG D (bU (bX (cG D (bU (bJ (bX (jN 9 [U ⟨#[97,49,48]⟩,U ⟨#[98,50,48]⟩,U ⟨#[99,51,48]⟩] fun g1=>W (dP mD D) D (bO 9 (v':=J 3) D D (bS D (bU (bP ?_)))))))))))))
 refine qU 209 6 ?_
 refine dS (γ:=Nat×Nat×Value×List Cd×List Value) (fun g=>g.1<=3/\g.2.1<=g.1/\g.2.2.2.1.length=g.2.1/\(∀x∈g.2.2.2.1,bQ0 x)/\g.2.2.2.2=g.2.2.2.1.flatMap pK) (fun g=> [(0,.pointer (some ⟨sb,0,none⟩)),(2,H none 0 0),(3,g.2.2.1),(8,H (some ⟨g1,0,none⟩) 3 3),(9,J 3),(10,I (g.1))]) (fun g=>fun w=>fQ 25 w B sb (m+10 *g.1)) (fun g=> [(g1,9, [U ⟨#[97,49,48]⟩,U ⟨#[98,50,48]⟩,U ⟨#[99,51,48]⟩])]) (fun g=> [⟨g.2.2.1,209,6,g.2.1,g.2.2.2.2⟩]) (fun g=> []) (fun g=>3 - g.1) (0,0,H none 0 0, [], []) ⟨Nat.zero_le _,Nat.zero_le _,D,(fun _ h=>by cases h),D⟩ ⟨D,D,D,D,D,D,bB⟩ (fun _ hm=>(hm.more D (by first|omega|(dsimp only;omega))).pick [0] [0] [] D D) ?_
 rintro ⟨k,n,v,l,xs⟩ bZ
 replace bZ:k<=3/\n<=k/\l.length=n/\(∀x∈l,bQ0 x)/\xs=l.flatMap pK:=bZ
 dsimp only
 refine bX ?_
 obtain ⟨hi0,hi1,zI,hi3,rfl⟩:=bZ
 refine W (dF D D) D (bU (bJ ?_))
 refine cN D (fun hk=>?_) (fun hk=>?_)
 ·refine bN (bG (bJ (bP (bX ?_))))
  obtain ⟨nm,hx⟩:∃x,([⟨#[97,49,48]⟩,⟨#[98,50,48]⟩,⟨#[99,51,48]⟩]:List M)[k]?=some x:=⟨_,fY9 (by simp;omega)⟩
  have hnm:nm.size<=100:=kX (fZ9 hx) bD
  refine W (bV (j:=k) mD D D G) D (W (dH (k:=0) (v:=U nm) fR D (fun _ hm=>(SlT.ofBlk (l:= [⟨#[97,49,48]⟩,⟨#[98,50,48]⟩,⟨#[99,51,48]⟩]) mQ (hm.blkI 0 D))) hx D D) D (cG D (bU (bJ (bX (bS D (dX (γ:=Bool) (val:=fun v=> .bool v) (φ:=fun v=>True) D bY6 D D D D (fun wx hm=>((mU _ wx B sb _ hm.k G G G).mono fun _ _ ⟨v,he,hS,hg⟩=>⟨v,bB,he,hS,hg⟩)) fun f2 _=>bU ?_)))))))
  refine dE D (fun hh=>?_) (fun hh=>?_)
  ·have hf:f2=true:=by simpa using hh
   refine dD (bI (bY (bG (bM (fY D D (bS D (bH ?_)))))))
   exact cQ (k+1,n,v,l,l.flatMap pK) ⟨bE,bE,zI,hi3,rfl⟩ bE ⟨D,D,D,D,D,(cP G),bB⟩ (fun _ hm=>(hm.more D (by first|omega|(dsimp only;omega))).pick [0] [0] [] D D)
  have hf:f2=false:=by simpa using hh
  refine bN (bG (bX (bS D (jN 3 [J 0,J 0,J 3] fun g3=>dX (γ:=Int) (val:=fun v=>J v) (φ:=fun v=>v∈([0,0,3]:List Int)) D uN D D D D (fun wx hm=>(fV [0,0,3] _ _ _ wx B sb _ hm.k G (by simp) (by simp) (hm.blkI 0 D) (hm.neRow 0 D D))) fun v4 hv4=>?_))))
  have bv4:0<=v4/\v4<=3:=jP hv4 bD
  have bv40:=bv4.1
  have bv41:=bv4.2
  clear bv4
  refine cG D (bU (bM (bS D (bS D (bS D (jN 9 [U ⟨#[]⟩,U ⟨#[]⟩,U ⟨#[109,105,110,105]⟩] fun g5=>dX (γ:=M) (val:=fun v=>U v) (φ:=fun v=>v∈([⟨#[]⟩,⟨#[]⟩,⟨#[109,105,110,105]⟩]:List M)) D uU D D D D (fun wx hm=>(jE [⟨#[]⟩,⟨#[]⟩,⟨#[109,105,110,105]⟩] _ _ _ wx B sb _ hm.k G (by simp) (by simp) (hm.blkI 0 D) (hm.neRow 0 D D))) fun s6 hs6=>?_))))))
  have zs6:s6.size<=100:=kX hs6 bD
  refine bS D (bS D (bS D (jN 3 [J 0,J 1,J 10,J 3000] fun g7=>dX (γ:=Int) (val:=fun v=>J v) (φ:=fun v=>v∈([0,1,10,3000]:List Int)) D uN D D D D (fun wx hm=>(fV [0,1,10,3000] _ _ _ wx B sb _ hm.k G (by simp) (by simp) (hm.blkI 0 D) (hm.neRow 0 D D))) fun v8 hv8=>?_)))
  have bv8:0<=v8/\v8<=3000:=jP hv8 bD
  have bv80:=bv8.1
  have bv81:=bv8.2
  clear bv8
  refine fY D D (bS D (jN 3 [J 1,J 1,J 2,J 5] fun g9=>dX (γ:=Int) (val:=fun v=>J v) (φ:=fun v=>v∈([1,1,2,5]:List Int)) D uN D D D D (fun wx hm=>(fV [1,1,2,5] _ _ _ wx B sb _ hm.k G (by simp) (by simp) (hm.blkI 0 D) (hm.neRow 0 D D))) fun v10 hv10=>?_))
  have bv10:1<=v10/\v10<=5:=jP hv10 bD
  have bv100:=bv10.1
  have bv101:=bv10.2
  clear bv10
  refine bS D (jN 3 [J 1,J 100,J 100,J 250,J 1000] fun g11=>dX (γ:=Int) (val:=fun v=>J v) (φ:=fun v=>v∈([1,100,100,250,1000]:List Int)) D uN D D D D (fun wx hm=>(fV [1,100,100,250,1000] _ _ _ wx B sb _ hm.k G (by simp) (by simp) (hm.blkI 0 D) (hm.neRow 0 D D))) fun v12 hv12=>?_)
  have bv12:1<=v12/\v12<=1000:=jP hv12 bD
  have bv120:=bv12.1
  have bv121:=bv12.2
  clear bv12
  refine W (dL (cs:= [U nm,U s6,J v4,J (v4+v8),J v10,J v12]) D bC) D (jN 209 [U nm,U s6,J v4,J (v4+v8),J v10,J v12] fun g13=>eP (news:= [U nm,U s6,J v4,J (v4+v8),J v10,J v12]) 0 0 fO6 D D D D D D D G (by unfold maxLen;omega) D D fun v2 xK=>cG D (bH (bK (bG (bM (fY D D (bS D (bH ?_))))))))
  exact cQ (k+1,n+1,v2,l++ [⟨nm,s6,v4,v4+v8,v10,v12⟩],l.flatMap pK++([U nm,U s6,J v4,J (v4+v8),J v10,J v12]:List Value)) ⟨bE,bE,by simp [zI],eC5 hi3 (show nm.size<=1000000 by omega) (show s6.size<=1000000 by omega),by simp [pK]⟩ bE ⟨D,D,D,D,D,(cP G),bB⟩ (fun _ hm=>(hm.more D (by first|omega|(dsimp only;omega))).pick [6] [0] [] D D)
 refine dD (bI (bI (bY (bG (bJ (bX ?_))))))
 refine eB (R:=∃A cc,v=H A n cc) (fun wx hm=>dW (hm.ownI 0 D)) ?_
 rintro ⟨A,c,rfl⟩
 refine bS D (W (dP cG3 D) D (W (eM D D) D (bS D ?_)))
 rcases Bool.eq_false_or_eq_true (decide (0 < ((n:Nat):Int))) with hb|hb
 ·refine bO 43 D (fW9 hb) ?_
  have hk0:0 < n:=by simpa using hb
  refine eN D (bS D (eN D (dX (γ:=Bool) (val:=fun v=> .bool v) (φ:=fun v=>True) D bY6 D D D D (fun wx hm=>((mU _ wx B sb _ hm.k G G G).mono fun _ _ ⟨v,he,hS,hg⟩=>⟨v,bB,he,hS,hg⟩)) fun f14 _=>mS D D (bU ?_))))
  refine dE D (fun hh=>?_) (fun hh=>?_)
  ·have hf:f14=true:=by simpa using hh
   refine bX ?_
   refine eB (R:=∃g,A=some ⟨g,0,none⟩) (fun wx hm=>rG (hm.ownI 0 D) hk0) ?_
   rintro ⟨bo,rfl⟩
   refine bS D (bS D (bS D (W (dP cG3 D) D (dX (γ:=Int) (val:=fun v=>J v) (φ:=fun v=>pN ((n:Nat):Int) v) D cR5 D D D D (fun wx hm=>(pF _ wx B sb _ hm.k G G G)) fun vj hvj=>?_))))
   have hj:=rR hvj G
   obtain ⟨i,rfl⟩:=Int.eq_ofNat_of_zero_le hj.1
   have hij:i < n:=G
   obtain ⟨y,hy⟩:∃y,l[i]?=some y:=⟨_,fY9 G⟩
   obtain ⟨y0,y1,y2,y3,y4,y5⟩:=y
   obtain ⟨hy0,hy1⟩:=hi3 _ (fZ9 hy)
   have hy0:y0.size<=1000000:=hy0
   have hy1:y1.size<=1000000:=hy1
   refine W (bV (j:=i) cG3 D D G) D (cG D (bU (bM (bS D (bS D (bS D (bS D (bS D (W (cU D) D (dZ wE D D (W (dH (k:=0) (v:=U y0) fR D (fun _ hm=>(SlT.ofOwn bR3 (hm.ownI 0 D) zI)) hy D D) D (jN 9 [U y0,U ⟨#[]⟩,U ⟨#[122,101,100]⟩,U ⟨#[97,49,48]⟩] fun g15=>dX (γ:=M) (val:=fun v=>U v) (φ:=fun v=>v∈([y0,⟨#[]⟩,⟨#[122,101,100]⟩,⟨#[97,49,48]⟩]:List M)) D uU D D D D (fun wx hm=>(jE [y0,⟨#[]⟩,⟨#[122,101,100]⟩,⟨#[97,49,48]⟩] _ _ _ wx B sb _ hm.k G (by simp) (by simp) (hm.blkI 0 D) (hm.neRow 0 D D))) fun sn hsn=>?_))))))))))))
   have hsn:sn.size<=1000000:=by
    simp at hsn
    rcases hsn with rfl|rfl|rfl|rfl
    ·exact hy0
    ·decide
    ·decide
    decide
   refine bS D (dX (γ:=Int) (val:=fun v=>J v) (φ:=fun v=> -2000000000000000<=v/\v<=2000000000000000) D bZ6 D D D D (fun wx hm=>(nL _ _ wx B sb _ hm.k G G G G)) fun v16 hv16=>bS D (dX (γ:=Int) (val:=fun v=>J v) (φ:=fun v=> -2000000000000000<=v/\v<=2000000000000000) D bZ6 D D D D (fun wx hm=>(nL _ _ wx B sb _ hm.k G G G G)) fun v17 hv17=>W (cU D) D (dZ wE D D (jG (l:=l) (j:=i) (r:=0) (el:=⟨y0,y1,y2,y3,y4,y5⟩) (el':=⟨sn,y1,y2,y3,y4,y5⟩) 0 fR D D D D bR3 D hy zI (show 0 < 6 by decide) D D (W (cU D) D (dZ zE D D ?_))))))
   refine jG (l:=(l.set i ⟨sn,y1,y2,y3,y4,y5⟩)) (j:=i) (r:=4) (el:=⟨sn,y1,y2,y3,y4,y5⟩) (el':=⟨sn,y1,y2,y3,v16,y5⟩) 0 fM D D D D bR3 D (List.getElem?_set_self (by first|omega|(simp;omega))) (by simp;exact zI) (show 4 < 6 by decide) D D ?_
   refine W (cU D) D (dZ zF D D ?_)
   refine jG (l:=((l.set i ⟨sn,y1,y2,y3,y4,y5⟩).set i ⟨sn,y1,y2,y3,v16,y5⟩)) (j:=i) (r:=5) (el:=⟨sn,y1,y2,y3,v16,y5⟩) (el':=⟨sn,y1,y2,y3,v16,v17⟩) 0 fM D D D D bR3 D (List.getElem?_set_self (by first|omega|(simp;omega))) (by simp;exact zI) (show 5 < 6 by decide) D D ?_
   refine bU (bX (bS D (cG D (bU (bR ?_)))))
   exact bQ D D fun wx hm=>⟨some ⟨bo,0,none⟩,n,c,(((l.set i ⟨sn,y1,y2,y3,y4,y5⟩).set i ⟨sn,y1,y2,y3,v16,y5⟩).set i ⟨sn,y1,y2,y3,v16,v17⟩),D,SlT.ofOwn bR3 (hm.ownI 0 D) (by simp;exact zI),dW1 (dW1 (dW1 (hi3) hsn hy1) hsn hy1) hsn hy1,G,kK (hm.ownI 0 rfl),hm.k.more G,hm.g⟩
  have hf:f14=false:=by simpa using hh
  refine bN (bG (bX (bS D (cG D (bU (bR ?_))))))
  exact bQ D D fun wx hm=>⟨A,n,c,l,D,SlT.ofOwn bR3 (hm.ownI 0 D) zI,hi3,G,kK (hm.ownI 0 rfl),hm.k.more G,hm.g⟩
 refine bO 43 D (fW9 hb) (eE D (eE D (nV D D (bU (jK D (bN (bG (bX (bS D (cG D (bU (bR ?_))))))))))))
 exact bQ D D fun wx hm=>⟨A,n,c,l,D,SlT.ofOwn bR3 (hm.ownI 0 D) zI,hi3,G,kK (hm.ownI 0 rfl),hm.k.more G,hm.g⟩
def mW(z:Int):List Value:= [J z]
theorem nE(z:Int):(mW z).length=1:=rfl
structure Ex where
 key:M
 once:Int
 day:Int
 most:Int
def rE(x:Ex):List Value:= [U x.key,J x.once,J x.day,J x.most]
def bR6(x:Ex):Prop:=x.key.size<=1000000
def cW9(p:Option Ex)(b:Ex):Bool:=match p with
 |none=>false
 |some q=>leB b.key q.key
def zA(p:Option Ex)(b:Ex):Int:=if !keyB b.key then 5 else if cW9 p b then 7 else if !inB b.once 0 1000000 then 1 else if !inB b.day 0 1000000 then 1 else if !inB b.most (-1) 1000000 then 1 else 0
def qR(l:List Ex):Int:=if 30 < l.length then 2 else scanE zA none l
def zY(l:List Ex)(k:Nat):M:=match prevOf l k with
 |none=>⟨#[]⟩
 |some q=>q.key
theorem dG0{l:List Ex}{k:Nat}{x:Ex}(h:l[k]?=some x):zY l (k+1)=x.key:=by
 unfold zY prevOf;rw [if_neg G,Nat.add_sub_cancel,h]
theorem cT4{l:List Ex}{k:Nat}{b:Ex}(h:keyB b.key=true):leB b.key (zY l k)=cW9 (prevOf l k) b:=by
 unfold zY cW9
 cases prevOf l k with
 |none=>exact dK5 h
 |some q=>rfl
theorem bB9(l:List Ex)(A:Option Addr)(n c:Nat)(w:World)(hl:SlT rE 4 203 w A n l)(hok:∀b∈l,bR6 b)(hn:n<=1000000):
 Calls prog 130 #[H A n c] w (nG w (qR l)):=by
 refine cY ⟨52,w,none, []⟩ func130 D ntmps130 D (fZ (X:= [bT rE 4 203 w.heap.size none A n l]) (cC hl.old cZ) (cE bT.lasts dA)) (bX ?_)
 have hlen:=hl.len
 refine cG D (bU (bJ (bX (bS D (W (dP cF3 D) D (W (eM D D) D (bU ?_)))))))
 refine cN D (fun h1=>?_) (fun h1=>?_)
 ·refine bX (cG D (bU ?_))
  refine bR (F ?_)
  exact bQ D D fun wx hm=>⟨cL (by unfold qR;rw [if_pos G]),hm.g⟩
 refine bN (bG (bJ (bX (bS D (W (dP cF3 D) D (bS D (bU (bP ?_))))))))
 refine dS (γ:=Nat) (fun (k:Nat)=>k<=n/\qR l=scanE zA (prevOf l k) (l.drop k)) (fun (k:Nat)=> [(0,H A n c),(8,H A n c),(9,I n),(10,I k)]) (fun (k:Nat)=>fun _=>True) (fun (k:Nat)=> []) (fun (k:Nat)=> []) (fun (k:Nat)=> [bT rE 4 203 w.heap.size none A n l]) (fun (k:Nat)=>n - k) 0 ⟨Nat.zero_le _,by unfold qR;rw [if_neg G];rfl⟩ ⟨D,D,D,D,bB⟩ (fun _ hm=>hm.pick [] [] [0] D D) ?_
 intro k bZ
 replace bZ:k<=n/\qR l=scanE zA (prevOf l k) (l.drop k):=bZ
 refine bX (W (dF D D) D (bU (bJ ?_)))
 refine cN D (fun hk=>?_) (fun hk=>?_)
 ·refine bN (bG (bJ (bP (bX ?_))))
  obtain ⟨b,off,hA,_,_⟩:=hl.get G
  subst hA
  obtain ⟨x,hx⟩:∃x,l[k]?=some x:=⟨_,fY9 G⟩
  obtain ⟨ke,on,dy,mo⟩:=x
  have hat:=scanE_at zA l k _ hx
  have hk1:ke.size<=1000000:=hok _ (fZ9 hx)
  refine bS D (W (bV (j:=k) cF3 D D G) D (W (dR (vs:= [U ke,J on,J dy,J mo]) dJ0 D (fun _ hm=>(hm.fact 0 D).1) hx D D) D (dM eL9 D fun g1=>cG D (kE (cs':= [U ke,J on,J dy,J mo]) 0 dJ0 D D D D (bU (bP (bX (dZ bD2 D D (eO fR 0 D D D (dC D bW2 D D (fun wx hm=>(isKey_any _ wx G)) (W (cS D) D (cG D (bU ?_)))))))))))))
  refine dE D (fun hh=>?_) (fun hh=>?_)
  ·have h2:(keyB ke)=false:=by simpa using hh
   refine bX (cG D (bU (bR (C (C (F (F (C (F ?_)))))))))
   have hE:zA (prevOf l k) ⟨ke,on,dy,mo⟩=5:=by unfold zA;simp [h2]
   exact bQ D D fun wx hm=>⟨cL (by rw [bZ.2,hat,if_neg (by rw [hE];decide),hE]),hm.g⟩
  have h2:(keyB ke)=true:=by simpa using hh
  refine bJ ?_
  by_cases hk0:k=0
  ·have hO:cW9 (prevOf l k) ⟨ke,on,dy,mo⟩=false:=by rw [pM hk0];rfl
   refine gd (fun wz=>True) mixed (fun _ _=>bB) fun z=>wq 0 D (bL D) (wq 1 D (eM D D) (dI 22 (v':= .bool false) D (fW9 (decide_eq_false G)) (wq 2 D (bL D) (eL 3 D (eL 4 D (eL 5 D (eL 6 D (eL 7 D (eL 8 D (eL 9 D (eL 10 D (eL 11 D (wq 12 D (eZ D D) (wq 13 D (dB D) (gY (bG (jK D (bX (dZ cI6 D D (eO fM 0 D D D (dC D pS D D (fun wx hm=>(in_any _ _ _ wx)) (W (cS D) D (bS D ?_)))))))))))))))))))))))
   rcases Bool.eq_false_or_eq_true (!(inB on 0 1000000)) with h4|h4
   ·refine bO 39 D (fW9 h4) ?_
    refine eE D (eE D (eE D (eE D (mS D D (bS D (eE D (eE D (eE D (eE D (mS D D (cG D (bU (mT D (bX (cG D (bU (bR (C (C (F (F (C (F ?_)))))))))))))))))))))))
    have hE:zA (prevOf l k) ⟨ke,on,dy,mo⟩=1:=by unfold zA;simp [h2,hO,h4]
    exact bQ D D fun wx hm=>⟨cL (by rw [bZ.2,hat,if_neg (by rw [hE];decide),hE]),hm.g⟩
   refine bO 39 D (fW9 h4) (eN D (dZ cJ6 D D (eN D (eO fM 0 D D D (eN D (dC D pS D D (fun wx hm=>(in_any _ _ _ wx)) (eN D (W (cS D) D (nV D D (bS D ?_))))))))))
   rcases Bool.eq_false_or_eq_true (!(inB dy 0 1000000)) with h5|h5
   ·refine bO 45 D (fW9 h5) ?_
    refine eE D (eE D (eE D (eE D (mS D D (cG D (bU (mT D (bX (cG D (bU (bR (C (C (F (F (C (F ?_)))))))))))))))))
    have hE:zA (prevOf l k) ⟨ke,on,dy,mo⟩=1:=by unfold zA;simp [h2,hO,h4,h5]
    exact bQ D D fun wx hm=>⟨cL (by rw [bZ.2,hat,if_neg (by rw [hE];decide),hE]),hm.g⟩
   refine bO 45 D (fW9 h5) (eN D (dZ cK6 D D (eN D (eO fM 0 D D D (eN D (dC D pS D D (fun wx hm=>(in_any _ _ _ wx)) (eN D (W (cS D) D (nV D D (cG D (bU ?_)))))))))))
   refine dE D (fun hh=>?_) (fun hh=>?_)
   ·have h6:(inB mo (-1) 1000000)=false:=by simpa using hh
    refine bX (cG D (bU (bR (C (C (F (F (C (F ?_)))))))))
    have hE:zA (prevOf l k) ⟨ke,on,dy,mo⟩=1:=by unfold zA;simp [h2,hO,h4,h5,h6]
    exact bQ D D fun wx hm=>⟨cL (by rw [bZ.2,hat,if_neg (by rw [hE];decide),hE]),hm.g⟩
   have h6:(inB mo (-1) 1000000)=true:=by simpa using hh
   refine bN (bK (bK (bG (bM ?_))))
   have hE:zA (prevOf l k) ⟨ke,on,dy,mo⟩=0:=by unfold zA;simp [h2,hO,h4,h5,h6]
   refine fY D D (bS D (bH ?_))
   exact cQ (k+1) ⟨G,by rw [bZ.2,hat,if_pos hE]⟩ G ⟨D,D,D,(cP G),bB⟩ (fun _ hm=>hm.pick [] [] [0] D D)
  obtain ⟨y,hy⟩:∃x,l[k - 1]?=some x:=⟨_,fY9 G⟩
  obtain ⟨p0,p1,p2,p3⟩:=y
  refine gd (fun wz=>Blk wz g1 203 [U ke,J on,J dy,J mo]/\(bT rE 4 203 w.heap.size none (some ⟨b,off,none⟩) n l) wz/\True) mixed (fun _ hm=>⟨hm.bl 0,hm.fa 0,bB⟩) fun z=>wq 0 D (bL D) (wq 1 D (eM D D) (dI 22 (v':= .bool true) D (fW9 (decide_eq_true G)) (wq 2 D (bL D) (eU 3 D (bW bD2 D D) (eU 4 D (cH fR D (fun _ hm=>hm.1) D) (eU 5 D (bL D) (eU 6 D (bL D) (eU 7 D (ov_sub D D G G) (dI 28 (v':=I (k - 1)) D (fX9 G) (eU 8 D (bV (j:=k - 1) cF3 D D G) (eU 9 D (bW bD2 D D) (eU 10 D (dH (k:=0) (v:=U p0) fR D (fun _ hm=>(hm.2.1).1) hy D D) (eU 11 D (wH D D) (wq 12 D (fG D D) (wq 13 D (dB D) (gY (bG ?_)))))))))))))))))
  refine dE D (fun hh=>?_) (fun hh=>?_)
  ·have h9:(Op.bytesLess ke.toList p0.toList||ke.toList==p0.toList)=true:=by simpa using hh
   refine bX ?_
   have hO:cW9 (prevOf l k) ⟨ke,on,dy,mo⟩=true:=by rw [jZ hk0 hy];exact h9
   refine cG D (bU (bR (C (C (F (F (C (F ?_))))))))
   have hE:zA (prevOf l k) ⟨ke,on,dy,mo⟩=7:=by unfold zA;simp [h2,hO]
   exact bQ D D fun wx hm=>⟨cL (by rw [bZ.2,hat,if_neg (by rw [hE];decide),hE]),hm.g⟩
  have h9:(Op.bytesLess ke.toList p0.toList||ke.toList==p0.toList)=false:=by simpa using hh
  refine bX ?_
  have hO:cW9 (prevOf l k) ⟨ke,on,dy,mo⟩=false:=by rw [jZ hk0 hy];exact h9
  refine dZ cI6 D D (eO fM 0 D D D (dC D pS D D (fun wx hm=>(in_any _ _ _ wx)) (W (cS D) D (bS D ?_))))
  rcases Bool.eq_false_or_eq_true (!(inB on 0 1000000)) with h4|h4
  ·refine bO 39 D (fW9 h4) ?_
   refine eE D (eE D (eE D (eE D (mS D D (bS D (eE D (eE D (eE D (eE D (mS D D (cG D (bU (mT D (bX (cG D (bU (bR (C (C (F (F (C (F ?_)))))))))))))))))))))))
   have hE:zA (prevOf l k) ⟨ke,on,dy,mo⟩=1:=by unfold zA;simp [h2,hO,h4]
   exact bQ D D fun wx hm=>⟨cL (by rw [bZ.2,hat,if_neg (by rw [hE];decide),hE]),hm.g⟩
  refine bO 39 D (fW9 h4) (eN D (dZ cJ6 D D (eN D (eO fM 0 D D D (eN D (dC D pS D D (fun wx hm=>(in_any _ _ _ wx)) (eN D (W (cS D) D (nV D D (bS D ?_))))))))))
  rcases Bool.eq_false_or_eq_true (!(inB dy 0 1000000)) with h5|h5
  ·refine bO 45 D (fW9 h5) ?_
   refine eE D (eE D (eE D (eE D (mS D D (cG D (bU (mT D (bX (cG D (bU (bR (C (C (F (F (C (F ?_)))))))))))))))))
   have hE:zA (prevOf l k) ⟨ke,on,dy,mo⟩=1:=by unfold zA;simp [h2,hO,h4,h5]
   exact bQ D D fun wx hm=>⟨cL (by rw [bZ.2,hat,if_neg (by rw [hE];decide),hE]),hm.g⟩
  refine bO 45 D (fW9 h5) (eN D (dZ cK6 D D (eN D (eO fM 0 D D D (eN D (dC D pS D D (fun wx hm=>(in_any _ _ _ wx)) (eN D (W (cS D) D (nV D D (cG D (bU ?_)))))))))))
  refine dE D (fun hh=>?_) (fun hh=>?_)
  ·have h6:(inB mo (-1) 1000000)=false:=by simpa using hh
   refine bX (cG D (bU (bR (C (C (F (F (C (F ?_)))))))))
   have hE:zA (prevOf l k) ⟨ke,on,dy,mo⟩=1:=by unfold zA;simp [h2,hO,h4,h5,h6]
   exact bQ D D fun wx hm=>⟨cL (by rw [bZ.2,hat,if_neg (by rw [hE];decide),hE]),hm.g⟩
  have h6:(inB mo (-1) 1000000)=true:=by simpa using hh
  refine bN (bK (bK (bG (bM ?_))))
  have hE:zA (prevOf l k) ⟨ke,on,dy,mo⟩=0:=by unfold zA;simp [h2,hO,h4,h5,h6]
  refine fY D D (bS D (bH ?_))
  exact cQ (k+1) ⟨G,by rw [bZ.2,hat,if_pos hE]⟩ G ⟨D,D,D,(cP G),bB⟩ (fun _ hm=>hm.pick [] [] [0] D D)
 refine dD (bI (bI (bY (bG (bX (cG D (bU (bR ?_))))))))
 exact bQ D D fun wx hm=>⟨cL (by rw [bZ.2,scanE_end _ _ _ _ G]),hm.g⟩
theorem bH9(l:List Ex)(A:Option Addr)(n c:Nat)(w:World)(hl:SlT rE 4 203 w A n l)(hok:∀b∈l,bR6 b)(hn:n<=1000000):
 Calls prog 78 #[H A n c] w (nG w (qR l)):=by
 refine cY ⟨45,w,none, []⟩ func78 D ntmps78 D (fZ (X:= [bT rE 4 203 w.heap.size none A n l]) (cC hl.old cZ) (cE bT.lasts dA)) (bX ?_)
 have hlen:=hl.len
 refine cG D (bU (bJ (bX (bS D (W (dP cF3 D) D (W (eM D D) D (bU ?_)))))))
 refine cN D (fun h1=>?_) (fun h1=>?_)
 ·refine bX (cG D (bU ?_))
  refine bR (F ?_)
  exact bQ D D fun wx hm=>⟨cL (by unfold qR;rw [if_pos G]),hm.g⟩
 refine bN (bG (bX (cG D (bU (bJ (bX (bS D (W (dP cF3 D) D (bS D (bH (bG (bP ?_))))))))))))
 refine dS (γ:=Nat) (fun (k:Nat)=>k<=n/\qR l=scanE zA (prevOf l k) (l.drop k)) (fun (k:Nat)=> [(3,U (zY l k)),(9,H A n c),(10,I n),(11,I k)]) (fun (k:Nat)=>fun _=>True) (fun (k:Nat)=> []) (fun (k:Nat)=> []) (fun (k:Nat)=> [bT rE 4 203 w.heap.size none A n l]) (fun (k:Nat)=>n - k) 0 ⟨Nat.zero_le _,by unfold qR;rw [if_neg G];rfl⟩ ⟨D,D,D,D,bB⟩ (fun _ hm=>hm.pick [] [] [0] D D) ?_
 intro k bZ
 replace bZ:k<=n/\qR l=scanE zA (prevOf l k) (l.drop k):=bZ
 refine bX (W (dF D D) D (bU (bJ ?_)))
 refine cN D (fun hk=>?_) (fun hk=>?_)
 ·refine bN (bG (bJ (bP (bX ?_))))
  obtain ⟨b,off,hA,_,_⟩:=hl.get G
  subst hA
  obtain ⟨x,hx⟩:∃x,l[k]?=some x:=⟨_,fY9 G⟩
  obtain ⟨ke,on,dy,mo⟩:=x
  have hat:=scanE_at zA l k _ hx
  have hk1:ke.size<=1000000:=hok _ (fZ9 hx)
  refine W (bV (j:=k) cF3 D D G) D (W (dR (vs:= [U ke,J on,J dy,J mo]) dJ0 D (fun _ hm=>(hm.fact 0 D).1) hx D D) D (dM eL9 D fun g1=>kE (cs':= [U ke,J on,J dy,J mo]) 0 dJ0 D D D D (bU (bJ (bP (bX (dZ bD2 D D (eO fR 0 D D D (cR D cQ8 D D (fun wx hm=>(xM _ wx G)) (W (cS D) D (cG D (bU ?_))))))))))))
  refine dE D (fun hh=>?_) (fun hh=>?_)
  ·have h2:(keyB ke)=false:=by simpa using hh
   refine bX (cG D (bU (bR (C (F (C (F (F (C (F ?_))))))))))
   have hE:zA (prevOf l k) ⟨ke,on,dy,mo⟩=5:=by unfold zA;simp [h2]
   exact bQ D D fun wx hm=>⟨cL (by rw [bZ.2,hat,if_neg (by rw [hE];decide),hE]),hm.g⟩
  have h2:(keyB ke)=true:=by simpa using hh
  refine bX (dZ bD2 D D (eO fR 0 D D D (bS D (W (wH D D) D (cG D (bU ?_))))))
  refine dE D (fun hh=>?_) (fun hh=>?_)
  ·have h9:(Op.bytesLess ke.toList (zY l k).toList||ke.toList==(zY l k).toList)=true:=by simpa using hh
   refine bX ?_
   have hO:cW9 (prevOf l k) ⟨ke,on,dy,mo⟩=true:=(cT4 (b:=⟨ke,on,dy,mo⟩) (by simpa using h2)).symm.trans h9
   refine cG D (bU (bR (C (F (C (F (F (C (F ?_)))))))))
   have hE:zA (prevOf l k) ⟨ke,on,dy,mo⟩=7:=by unfold zA;simp [h2,hO]
   exact bQ D D fun wx hm=>⟨cL (by rw [bZ.2,hat,if_neg (by rw [hE];decide),hE]),hm.g⟩
  have h9:(Op.bytesLess ke.toList (zY l k).toList||ke.toList==(zY l k).toList)=false:=by simpa using hh
  refine bX ?_
  have hO:cW9 (prevOf l k) ⟨ke,on,dy,mo⟩=false:=(cT4 (b:=⟨ke,on,dy,mo⟩) (by simpa using h2)).symm.trans h9
  refine dZ cI6 D D (eO fM 0 D D D (dC D bT4 D D (fun wx hm=>(kM _ _ _ wx)) (W (cS D) D (bS D ?_))))
  rcases Bool.eq_false_or_eq_true (!(inB on 0 1000000)) with h4|h4
  ·refine bO 30 D (fW9 h4) ?_
   refine eE D (eE D (eE D (eE D (mS D D (bS D (eE D (eE D (eE D (eE D (mS D D (cG D (bU (mT D (bX (cG D (bU (bR (C (F (C (F (F (C (F ?_))))))))))))))))))))))))
   have hE:zA (prevOf l k) ⟨ke,on,dy,mo⟩=1:=by unfold zA;simp [h2,hO,h4]
   exact bQ D D fun wx hm=>⟨cL (by rw [bZ.2,hat,if_neg (by rw [hE];decide),hE]),hm.g⟩
  refine bO 30 D (fW9 h4) (eN D (dZ cJ6 D D (eN D (eO fM 0 D D D (eN D (dC D bT4 D D (fun wx hm=>(kM _ _ _ wx)) (eN D (W (cS D) D (nV D D (bS D ?_))))))))))
  rcases Bool.eq_false_or_eq_true (!(inB dy 0 1000000)) with h5|h5
  ·refine bO 36 D (fW9 h5) ?_
   refine eE D (eE D (eE D (eE D (mS D D (cG D (bU (mT D (bX (cG D (bU (bR (C (F (C (F (F (C (F ?_))))))))))))))))))
   have hE:zA (prevOf l k) ⟨ke,on,dy,mo⟩=1:=by unfold zA;simp [h2,hO,h4,h5]
   exact bQ D D fun wx hm=>⟨cL (by rw [bZ.2,hat,if_neg (by rw [hE];decide),hE]),hm.g⟩
  refine bO 36 D (fW9 h5) (eN D (dZ cK6 D D (eN D (eO fM 0 D D D (eN D (dC D bT4 D D (fun wx hm=>(kM _ _ _ wx)) (eN D (W (cS D) D (nV D D (cG D (bU ?_)))))))))))
  refine dE D (fun hh=>?_) (fun hh=>?_)
  ·have h6:(inB mo (-1) 1000000)=false:=by simpa using hh
   refine bX (cG D (bU (bR (C (F (C (F (F (C (F ?_))))))))))
   have hE:zA (prevOf l k) ⟨ke,on,dy,mo⟩=1:=by unfold zA;simp [h2,hO,h4,h5,h6]
   exact bQ D D fun wx hm=>⟨cL (by rw [bZ.2,hat,if_neg (by rw [hE];decide),hE]),hm.g⟩
  have h6:(inB mo (-1) 1000000)=true:=by simpa using hh
  refine bN (bK (bG (bM ?_)))
  have hE:zA (prevOf l k) ⟨ke,on,dy,mo⟩=0:=by unfold zA;simp [h2,hO,h4,h5,h6]
  refine dZ bD2 D D (eO fR 0 D D D (cG D (bH (bK (bG (bM (fY D D (bS D (bH ?_)))))))))
  exact cQ (k+1) ⟨G,by rw [bZ.2,hat,if_pos hE]⟩ G ⟨(congrArg (fun z=>some (U z)) (dG0 hx).symm),D,D,(cP G),bB⟩ (fun _ hm=>hm.pick [] [] [0] D D)
 refine dD (bI (bI (bY (bG (bX (cG D (bU (bR ?_))))))))
 exact bQ D D fun wx hm=>⟨cL (by rw [bZ.2,scanE_end _ _ _ _ G]),hm.g⟩
theorem eA1(x:Ex):(rE x).length=4:=rfl
theorem eB1{a b:Ex}{q:Nat}(ha:a.key.size<=1000000)(hb:b.key.size<=1000000):∀x∈ [a,b].take q,bR6 x:=fun x hx=>by
 have h:=List.mem_of_mem_take hx
 rcases List.mem_cons.1 h with rfl|h
 ·exact ha
 ·rw [List.mem_singleton.1 h];exact hb
theorem cN9(w:World)(B sb m:Nat)(hS:fQ 25 w B sb m)(hm:m<=100000000000):
 Calls prog 73 #[.pointer (some ⟨sb,0,none⟩)] w (fun e w'=>∃(A:Option Addr) (n c:Nat) (l:List Ex),e=.returned (H A n c)/\SlT rE 4 203 w' A n l/\(∀x∈l,bR6 x)/\n<=2/\n<=c/\fQ 25 w' B sb (m+30)/\w.grownBy w' (some sb)):=by
 refine cY ⟨42,w,(some sb), []⟩ func73 D ntmps73 D (bU5 (X:= []) hS cZ dA) (bX (cG D (bU (bX (bS D (jN 3 [J 0,J 5,J 100] fun g1=>dX (γ:=Int) (val:=fun v=>J v) (φ:=fun v=>v∈([0,5,100]:List Int)) D uN D D D D (fun wx hm=>(fV [0,5,100] _ _ _ wx B sb _ hm.k G (by simp) (by simp) (hm.blkI 0 D) (hm.neRow 0 D D))) fun v2 xK=>?_))))))
 have bv2:0<=v2/\v2<=100:=jP xK bD
 have bv20:=bv2.1
 have bv21:=bv2.2
 clear bv2
 refine bS D (jN 3 [J 0,J 2] fun g3=>dX (γ:=Int) (val:=fun v=>J v) (φ:=fun v=>v∈([0,2]:List Int)) D uN D D D D (fun wx hm=>(fV [0,2] _ _ _ wx B sb _ hm.k G (by simp) (by simp) (hm.blkI 0 D) (hm.neRow 0 D D))) fun v4 hv4=>?_)
 have bv4:0<=v4/\v4<=2:=jP hv4 bD
 have bv40:=bv4.1
 have bv41:=bv4.2
 clear bv4
 refine bS D (jN 3 [J (-1),J 0,J 7] fun g5=>dX (γ:=Int) (val:=fun v=>J v) (φ:=fun v=>v∈([-1,0,7]:List Int)) D uN D D D D (fun wx hm=>(fV [-1,0,7] _ _ _ wx B sb _ hm.k G (by simp) (by simp) (hm.blkI 0 D) (hm.neRow 0 D D))) fun v6 hv6=>?_)
 have bv6: -1<=v6/\v6<=7:=jP hv6 bD
 have bv60:=bv6.1
 have bv61:=bv6.2
 clear bv6
 refine W (dL (cs:= [U ⟨#[109,97,112]⟩,J v2,J v4,J v6]) D bC) D (bS D (jN 3 [J 0,J 10] fun g7=>dX (γ:=Int) (val:=fun v=>J v) (φ:=fun v=>v∈([0,10]:List Int)) D uN D D D D (fun wx hm=>(fV [0,10] _ _ _ wx B sb _ hm.k G (by simp) (by simp) (hm.blkI 0 D) (hm.neRow 0 D D))) fun v8 hv8=>?_))
 have bv8:0<=v8/\v8<=10:=jP hv8 bD
 have bv80:=bv8.1
 have bv81:=bv8.2
 clear bv8
 refine bS D (jN 3 [J 0,J 3,J 50] fun g9=>dX (γ:=Int) (val:=fun v=>J v) (φ:=fun v=>v∈([0,3,50]:List Int)) D uN D D D D (fun wx hm=>(fV [0,3,50] _ _ _ wx B sb _ hm.k G (by simp) (by simp) (hm.blkI 0 D) (hm.neRow 0 D D))) fun v10 hv10=>?_)
 have bv10:0<=v10/\v10<=50:=jP hv10 bD
 have bv100:=bv10.1
 have bv101:=bv10.2
 clear bv10
 refine bS D (jN 3 [J (-1),J (-1),J 20,J 1000] fun g11=>dX (γ:=Int) (val:=fun v=>J v) (φ:=fun v=>v∈([-1, -1,20,1000]:List Int)) D uN D D D D (fun wx hm=>(fV [-1, -1,20,1000] _ _ _ wx B sb _ hm.k G (by simp) (by simp) (hm.blkI 0 D) (hm.neRow 0 D D))) fun v12 hv12=>?_)
 have bv12: -1<=v12/\v12<=1000:=jP hv12 bD
 have bv120:=bv12.1
 have bv121:=bv12.2
 clear bv12
 refine W (dL (cs:= [U ⟨#[115,101,97,116]⟩,J v8,J v10,J v12]) D bC) D (jN 203 [U ⟨#[109,97,112]⟩,J v2,J v4,J v6,U ⟨#[115,101,97,116]⟩,J v8,J v10,J v12] fun g13=>cG D (bU (bJ (bX (bS D (dX (γ:=Bool) (val:=fun v=> .bool v) (φ:=fun v=>True) D bY6 D D D D (fun wx hm=>((mU _ wx B sb _ hm.k G G G).mono fun _ _ ⟨v,he,hS,hg⟩=>⟨v,bB,he,hS,hg⟩)) fun f14 _=>bU ?_))))))
 refine dE D (fun hh=>?_) (fun hh=>?_)
 ·have hf:f14=true:=by simpa using hh
  refine bM (bS D (bS D (jN 9 [U ⟨#[]⟩,U ⟨#[65]⟩,U ⟨#[109,97,112]⟩,U ⟨#[115,101,97,116]⟩] fun g15=>dX (γ:=M) (val:=fun v=>U v) (φ:=fun v=>v∈([⟨#[]⟩,⟨#[65]⟩,⟨#[109,97,112]⟩,⟨#[115,101,97,116]⟩]:List M)) D uU D D D D (fun wx hm=>(jE [⟨#[]⟩,⟨#[65]⟩,⟨#[109,97,112]⟩,⟨#[115,101,97,116]⟩] _ _ _ wx B sb _ hm.k G (by simp) (by simp) (hm.blkI 0 D) (hm.neRow 0 D D))) fun s16 hs16=>?_)))
  have zs16:s16.size<=100:=kX hs16 bD
  refine bS D (dX (γ:=Int) (val:=fun v=>J v) (φ:=fun v=> -2000000000000000<=v/\v<=2000000000000000) D bZ6 D D D D (fun wx hm=>(nL _ _ wx B sb _ hm.k G G G G)) fun v17 hv17=>bS D (dX (γ:=Int) (val:=fun v=>J v) (φ:=fun v=> -2000000000000000<=v/\v<=2000000000000000) D bZ6 D D D D (fun wx hm=>(nL _ _ wx B sb _ hm.k G G G G)) fun v18 hv18=>W (dL (cs:= [U s16,J v17,J 0,J v18]) D bC) D (W (bV (j:=1) cF3 D D bD) D (kE (cs':= [U ⟨#[109,97,112]⟩,J v2,J v4,J v6,U s16,J v17,J 0,J v18]) 1 dJ0 D D D D (bU (bX (bS D (bS D (jN 3 [J 0,J 1,J 2,J 2] fun g19=>dX (γ:=Int) (val:=fun v=>J v) (φ:=fun v=>v∈([0,1,2,2]:List Int)) D uN D D D D (fun wx hm=>(fV [0,1,2,2] _ _ _ wx B sb _ hm.k G (by simp) (by simp) (hm.blkI 0 D) (hm.neRow 0 D D))) fun vp hvp=>?_)))))))))
  have bvp:0<=vp/\vp<=2:=jP hvp bD
  have bvp0:=bvp.1
  have bvp1:=bvp.2
  clear bvp
  obtain ⟨q,rfl⟩:=Int.eq_ofNat_of_zero_le bvp0
  have hq2:q<=2:=G
  refine W (qN (hi:=q) cF3 D D D G) D (cG D (bU (bR ?_)))
  refine bQ D D fun wx hm=>?_
  have hS:=SlT.ofBlk (l:=([⟨⟨#[109,97,112]⟩,v2,v4,v6⟩,⟨s16,v17,0,v18⟩]:List Ex)) eA1 (hm.blkI 2 rfl)
  exact ⟨_,q,2,([⟨⟨#[109,97,112]⟩,v2,v4,v6⟩,⟨s16,v17,0,v18⟩]:List Ex).take q,D,hS.takeT hq2,eB1 (show (⟨#[109,97,112]⟩:M).size<=1000000 by decide) (show (s16:M).size<=1000000 by omega),hq2,hq2,hm.k.more G,hm.g⟩
 have hf:f14=false:=by simpa using hh
 refine bN (bG (bX (bS D (bS D (jN 3 [J 0,J 1,J 2,J 2] fun g20=>dX (γ:=Int) (val:=fun v=>J v) (φ:=fun v=>v∈([0,1,2,2]:List Int)) D uN D D D D (fun wx hm=>(fV [0,1,2,2] _ _ _ wx B sb _ hm.k G (by simp) (by simp) (hm.blkI 0 D) (hm.neRow 0 D D))) fun vp hvp=>?_)))))
 have bvp:0<=vp/\vp<=2:=jP hvp bD
 have bvp0:=bvp.1
 have bvp1:=bvp.2
 clear bvp
 obtain ⟨q,rfl⟩:=Int.eq_ofNat_of_zero_le bvp0
 have hq2:q<=2:=G
 refine W (qN (hi:=q) cF3 D D D G) D (cG D (bU (bR ?_)))
 refine bQ D D fun wx hm=>?_
 have hS:=SlT.ofBlk (l:=([⟨⟨#[109,97,112]⟩,v2,v4,v6⟩,⟨⟨#[115,101,97,116]⟩,v8,v10,v12⟩]:List Ex)) eA1 (hm.blkI 1 rfl)
 exact ⟨_,q,2,([⟨⟨#[109,97,112]⟩,v2,v4,v6⟩,⟨⟨#[115,101,97,116]⟩,v8,v10,v12⟩]:List Ex).take q,D,hS.takeT hq2,eB1 (show (⟨#[109,97,112]⟩:M).size<=1000000 by decide) (show (⟨#[115,101,97,116]⟩:M).size<=1000000 by decide),hq2,hq2,hm.k.more G,hm.g⟩
structure Fe where
 a:M
 b:M
 cents:Int
def nP(x:Fe):List Value:= [U x.a,U x.b,J x.cents]
theorem dC5(x:Fe):(nP x).length=3:=rfl
def bV2(x:Fe):Prop:=x.a.size<=1000000/\x.b.size<=1000000
def bI9(q r:Fe):Bool:=ltS q.a r.a||(eqS q.a r.a&&ltS q.b r.b)
def yK(p:Option Fe)(x:Fe):Bool:=match p with
 |none=>false
 |some q=> !bI9 q x
def nD(p:Option Fe)(x:Fe):Int:=
 if keyB x.a=false then 5 else if keyB x.b=false then 5 else if (x.a.toList==x.b.toList)=true then 14 else
 if yK p x=true then 7 else if inB x.cents 0 1000000=false then 1 else 0
def yH(l:List Fe):Int:=if 500 < l.length then 2 else scanE nD none l
theorem dW4{a b:M}:(0<=qC a b)↔ltS a b=false:=by
 unfold qC ltS
 cases h:Go.Op.bytesLess a.toList b.toList
 ·by_cases e:(a.toList==b.toList)=true
  ·rw [e];simp
  ·have e:(a.toList==b.toList)=false:=by simpa using e
   rw [e];simp
 ·simp
theorem eD9(q r:Fe):0<=dK [qC q.a r.a,qC q.b r.b]↔bI9 q r=false:=by
 unfold bI9 eqS
 rw [vQ]
 by_cases h:qC q.a r.a=0
 ·rw [if_pos h]
  obtain ⟨h1,h2⟩:=uW.1 h
  rw [dW4,h2]
  unfold ltS
  rw [h2,uT];simp
 ·rw [if_neg h,dW4]
  have hne:(q.a.toList==r.a.toList)=false∨ltS q.a r.a=true:=by
   cases h1:ltS q.a r.a
   ·left
    cases h2:(q.a.toList==r.a.toList)
    ·rfl
    ·exact absurd (uW.2 ⟨h1,by simpa using h2⟩) h
   ·exact .inr D
  rcases hne with h1|h1
  ·rw [h1];simp
  ·rw [h1];simp
theorem dL5(q r:Fe):(Go.Op.bytesLess r.a.toList q.a.toList||(r.a.toList==q.a.toList&&(Go.Op.bytesLess r.b.toList q.b.toList||r.b.toList==q.b.toList)))= !bI9 q r:=by
 have key:∀x y:M,(Go.Op.bytesLess x.toList y.toList||x.toList==y.toList)= !ltS y x:=fun x y=>by
  unfold ltS
  cases h1:Go.Op.bytesLess x.toList y.toList
  ·cases h2:Go.Op.bytesLess y.toList x.toList
   ·rw [bV6 h1 h2];simp
   ·have e:=cD8 h2
    have e2:(x.toList==y.toList)=false:=by simpa using fun h=>e h.symm
    rw [e2];rfl
  ·rw [cD0 h1];rfl
 unfold bI9 eqS
 rw [key r.b q.b]
 unfold ltS
 cases h1:Go.Op.bytesLess r.a.toList q.a.toList
 ·cases h2:Go.Op.bytesLess q.a.toList r.a.toList
  ·rw [bV6 h1 h2];simp
  ·have e:=cD8 h2
   have e2:(r.a.toList==q.a.toList)=false:=by simpa using fun h=>e h.symm
   rw [e2];simp
 ·have e:=cD8 h1
  have e2:(q.a.toList==r.a.toList)=false:=by simpa using fun h=>e h.symm
  rw [cD0 h1,e2];simp
theorem eH8:dV9 prog 204=some (2,1):=bC
theorem cB3(l:List Fe)(A:Option Addr)(n c:Nat)(w:World)(hl:SlT nP 3 207 w A n l)(hok:∀b∈l,bV2 b)(hn:n<=1000000):
 Calls prog 131 #[H A n c] w (nG w (yH l)):=by
 refine cY ⟨64,w,none, []⟩ func131 D ntmps131 D (fZ (X:= [bT nP 3 207 w.heap.size none A n l]) (cC hl.old cZ) (cE bT.lasts dA)) (bX ?_)
 have hlen:=hl.len
 refine cG D (bU (bJ (bX (bS D (W (dP cQ0 D) D (W (eM D D) D (bU ?_)))))))
 refine cN D (fun h1=>?_) (fun h1=>?_)
 ·refine bX (cG D (bU ?_))
  refine bR (F ?_)
  exact bQ D D fun wx hm=>⟨cL (by unfold yH;rw [if_pos G]),hm.g⟩
 refine bN (bG (bJ (bX (bS D (W (dP cQ0 D) D (bS D (bU (bP ?_))))))))
 refine dS (γ:=Nat) (fun (k:Nat)=>k<=n/\yH l=scanE nD (prevOf l k) (l.drop k)) (fun (k:Nat)=> [(0,H A n c),(8,H A n c),(9,I n),(10,I k)]) (fun (k:Nat)=>fun _=>True) (fun (k:Nat)=> []) (fun (k:Nat)=> []) (fun (k:Nat)=> [bT nP 3 207 w.heap.size none A n l]) (fun (k:Nat)=>n - k) 0 ⟨Nat.zero_le _,by unfold yH;rw [if_neg G];rfl⟩ ⟨D,D,D,D,bB⟩ (fun _ hm=>hm.pick [] [] [0] D D) ?_
 intro k bZ
 replace bZ:k<=n/\yH l=scanE nD (prevOf l k) (l.drop k):=bZ
 refine bX (W (dF D D) D (bU (bJ ?_)))
 refine cN D (fun hk=>?_) (fun hk=>?_)
 ·refine bN (bG (bJ (bP (bX ?_))))
  obtain ⟨b,off,hA,_,_⟩:=hl.get G
  subst hA
  obtain ⟨x,hx⟩:∃x,l[k]?=some x:=⟨_,fY9 G⟩
  obtain ⟨ka,kb,ce⟩:=x
  have hat:=scanE_at nD l k _ hx
  obtain ⟨hs1,hs2⟩:=hok _ (fZ9 hx)
  have hs1:ka.size<=1000000:=hs1
  have hs2:kb.size<=1000000:=hs2
  refine bS D (W (bV (j:=k) cQ0 D D G) D (W (dR (vs:= [U ka,U kb,J ce]) dA6 D (fun _ hm=>(hm.fact 0 D).1) hx D D) D (dM eM9 D fun g1=>cG D (kE (cs':= [U ka,U kb,J ce]) 0 dA6 D D D D (bU (bP (bX (dZ vL D D (eO fR 0 D D D (dC D bW2 D D (fun wx hm=>(isKey_any _ wx G)) (W (cS D) D (bS D ?_))))))))))))
  rcases Bool.eq_false_or_eq_true (!(keyB ka)) with h2|h2
  ·refine bO 20 D (fW9 h2) ?_
   have h2:keyB ka=false:=by simpa using h2
   refine eE D (eE D (eE D (eE D (mS D D (cG D (bU (mT D (bX (cG D (bU (bR (C (C (F (F (C (F ?_)))))))))))))))))
   have hE:nD (prevOf l k) ⟨ka,kb,ce⟩=5:=by unfold nD yK;simp [h2]
   exact bQ D D fun wx hm=>⟨cL (by rw [bZ.2,hat,if_neg (by rw [hE];decide),hE]),hm.g⟩
  refine bO 20 D (fW9 h2) ?_
  have h2:keyB ka=true:=by simpa using h2
  refine eN D (dZ xJ D D (eN D (eO fR 0 D D D (eN D (dC D bW2 D D (fun wx hm=>(isKey_any _ wx G)) (eN D (W (cS D) D (nV D D (cG D (bU ?_))))))))))
  refine dE D (fun hh=>?_) (fun hh=>?_)
  ·have h3:(keyB kb)=false:=by simpa using hh
   refine bX ?_
   have h3:keyB kb=false:=by simpa using h3
   refine cG D (bU (bR (C (C (F (F (C (F ?_))))))))
   have hE:nD (prevOf l k) ⟨ka,kb,ce⟩=5:=by unfold nD yK;simp [h2,h3]
   exact bQ D D fun wx hm=>⟨cL (by rw [bZ.2,hat,if_neg (by rw [hE];decide),hE]),hm.g⟩
  have h3:(keyB kb)=true:=by simpa using hh
  refine bX ?_
  have h3:keyB kb=true:=by simpa using h3
  refine dZ vL D D (eO fR 0 D D D (dZ xJ D D (eO fR 0 D D D (W (eS D D) D (cG D (bU ?_))))))
  refine dE D (fun hh=>?_) (fun hh=>?_)
  ·have h4:(ka.toList==kb.toList)=true:=by simpa using hh
   refine bX (cG D (bU (bR (C (C (F (F (C (F ?_)))))))))
   have hE:nD (prevOf l k) ⟨ka,kb,ce⟩=14:=by unfold nD yK;simp [h2,h3,(beq_iff_eq.1 h4)]
   exact bQ D D fun wx hm=>⟨cL (by rw [bZ.2,hat,if_neg (by rw [hE];decide),hE]),hm.g⟩
  have h4:(ka.toList==kb.toList)=false:=by simpa using hh
  refine bJ ?_
  have h4:¬ka.toList=kb.toList:=by simpa using h4
  by_cases hk0:k=0
  ·refine gd (fun wz=>True) mixed (fun _ _=>bB) fun z=>?_
   refine wq 0 D (bL D) (wq 1 D (eM D D) (dI 34 (v':= .bool false) D (fW9 (decide_eq_false G)) (wq 2 D (bL D) (eL 3 D (eL 4 D (eL 5 D (eL 6 D (eL 7 D (eL 8 D (eL 9 D (eL 10 D (eL 11 D (eL 12 D (eL 13 D (eL 14 D (eL 15 D (eL 16 D (eL 17 D (eL 18 D (eL 19 D (eL 20 D (eL 21 D (eL 22 D (eL 23 D (wq 24 D (eZ D D) (wq 25 D (dB D) (gY ?_)))))))))))))))))))))))))))
   refine bG (jK D (bX (dZ bI5 D D (eO fM 0 D D D (dC D pS D D (fun wx hm=>(in_any _ _ _ wx)) (W (cS D) D (cG D (bU ?_))))))))
   refine dE D (fun hh=>?_) (fun hh=>?_)
   ·have h9:(inB ce 0 1000000)=false:=by simpa using hh
    refine bX (cG D (bU (bR (C (C (F (F (C (F ?_)))))))))
    have hE:nD (prevOf l k) ⟨ka,kb,ce⟩=1:=by unfold nD yK;rw [bP2 hk0];simp [h2,h3,h4,h9]
    exact bQ D D fun wx hm=>⟨cL (by rw [bZ.2,hat,if_neg (by rw [hE];decide),hE]),hm.g⟩
   have h9:(inB ce 0 1000000)=true:=by simpa using hh
   refine bN (bK (bK (bG (bM ?_))))
   have hE:nD (prevOf l k) ⟨ka,kb,ce⟩=0:=by unfold nD yK;rw [bP2 hk0];simp [h2,h3,h4,h9]
   refine fY D D (bS D (bH ?_))
   exact cQ (k+1) ⟨G,by rw [bZ.2,hat,if_pos hE]⟩ G ⟨D,D,D,(cP G),bB⟩ (fun _ hm=>hm.pick [] [] [0] D D)
  obtain ⟨y,hy⟩:∃x,l[k - 1]?=some x:=⟨_,fY9 G⟩
  obtain ⟨p0,p1,p2⟩:=y
  have hpv:=cK7 hk0 hy
  refine gd (fun wz=>Blk wz g1 207 [U ka,U kb,J ce]/\(bT nP 3 207 w.heap.size none (some ⟨b,off,none⟩) n l) wz/\True) mixed (fun _ hm=>⟨hm.bl 0,hm.fa 0,bB⟩) fun z=>wq 0 D (bL D) (wq 1 D (eM D D) (dI 34 (v':= .bool true) D (fW9 (decide_eq_true G)) (wq 2 D (bL D) (eU 3 D (bL D) (eU 4 D (bL D) (eU 5 D (ov_sub D D G G) (dI 38 (v':=I (k - 1)) D (fX9 G) (eU 6 D (bV (j:=k - 1) cQ0 D D G) (eU 7 D (bW vL D D) (eU 8 D (dH (k:=0) (v:=U p0) fR D (fun _ hm=>(hm.2.1).1) hy D D) (eU 9 D (bW vL D D) (eU 10 D (cH fR D (fun _ hm=>hm.1) D) (eU 12 D (bL D) (eU 13 D (bL D) (eU 14 D (ov_sub D D G G) (dI 47 (v':=I (k - 1)) D (fX9 G) (eU 15 D (bV (j:=k - 1) cQ0 D D G) (eU 16 D (bW xJ D D) (eU 17 D (dH (k:=1) (v:=U p1) fR D (fun _ hm=>(hm.2.1).1) hy D D) (eU 18 D (bW xJ D D) (eU 19 D (cH fR D (fun _ hm=>hm.1) D) (eD 11 D (eN D (cR D cN8 D D (fun wx hm=>(wQ _ _ wx)) (bH (nw 26 1048575 (fun _ hm=>⟨hm.bl 0,hm.fa 0,bB⟩) fun z=>eD 20 D (eN D ?_)))))))))))))))))))))))))))
  refine cR D cN8 D D (fun wx hm=>(wQ _ _ wx)) (bH (nw 26 2097151 (fun _ hm=>⟨hm.bl 0,hm.fa 0,bB⟩) fun z=>eD 21 D (eN D (jN 3 [J (qC p0 ka),J (qC p1 kb)] fun g2=>bH (nw 26 4194303 (fun _ hm=>⟨hm.bl 1,hm.fa 0,bB⟩) fun z=>eD 22 D (eN D (cR D dR4 D D (fun wx hm=>(dL3 _ _ _ _ _ wx (hm.blkI 0 D))) (bH (nw 26 8388607 (fun _ hm=>⟨hm.bl 1,hm.fa 0,bB⟩) fun z=>eU 23 D (mE D D) (wq 24 D (fG D D) (wq 25 D (dB D) (gY (bG ?_)))))))))))))
  refine cN D (fun h8=>?_) (fun h8=>?_)
  ·refine bX ?_
   have h8:bI9 ⟨p0,p1,p2⟩ ⟨ka,kb,ce⟩=false:=(eD9 ⟨p0,p1,p2⟩ ⟨ka,kb,ce⟩).1 h8
   refine cG D (bU (bR (C (C (F (F (C (F ?_))))))))
   have hE:nD (prevOf l k) ⟨ka,kb,ce⟩=7:=by unfold nD yK;rw [hpv];simp [h2,h3,h4,h8]
   exact bQ D D fun wx hm=>⟨cL (by rw [bZ.2,hat,if_neg (by rw [hE];decide),hE]),hm.g⟩
  refine bX ?_
  have h8:bI9 ⟨p0,p1,p2⟩ ⟨ka,kb,ce⟩=true:=by
   cases h:bI9 ⟨p0,p1,p2⟩ ⟨ka,kb,ce⟩
   ·exact absurd ((eD9 ⟨p0,p1,p2⟩ ⟨ka,kb,ce⟩).2 h) h8
   rfl
  refine dZ bI5 D D (eO fM 1 D D D (dC D pS D D (fun wx hm=>(in_any _ _ _ wx)) (W (cS D) D (cG D (bU ?_)))))
  refine dE D (fun hh=>?_) (fun hh=>?_)
  ·have h9:(inB ce 0 1000000)=false:=by simpa using hh
   refine bX (cG D (bU (bR (C (C (F (F (C (F ?_)))))))))
   have hE:nD (prevOf l k) ⟨ka,kb,ce⟩=1:=by unfold nD yK;rw [hpv];simp [h2,h3,h4,h8,h9]
   exact bQ D D fun wx hm=>⟨cL (by rw [bZ.2,hat,if_neg (by rw [hE];decide),hE]),hm.g⟩
  have h9:(inB ce 0 1000000)=true:=by simpa using hh
  refine bN (bK (bK (bG (bM ?_))))
  have hE:nD (prevOf l k) ⟨ka,kb,ce⟩=0:=by unfold nD yK;rw [hpv];simp [h2,h3,h4,h8,h9]
  refine fY D D (bS D (bH ?_))
  exact cQ (k+1) ⟨G,by rw [bZ.2,hat,if_pos hE]⟩ G ⟨D,D,D,(cP G),bB⟩ (fun _ hm=>hm.pick [] [] [0] D D)
 refine dD (bI (bI (bY (bG (bX (cG D (bU (bR ?_))))))))
 exact bQ D D fun wx hm=>⟨cL (by rw [bZ.2,scanE_end _ _ _ _ G]),hm.g⟩
theorem cI3(l:List Fe)(A:Option Addr)(n c:Nat)(w:World)(hl:SlT nP 3 207 w A n l)(hok:∀b∈l,bV2 b)(hn:n<=1000000):
 Calls prog 79 #[H A n c] w (nG w (yH l)):=by
 refine cY ⟨74,w,none, []⟩ func79 D ntmps79 D (fZ (X:= [bT nP 3 207 w.heap.size none A n l]) (cC hl.old cZ) (cE bT.lasts dA)) (bX ?_)
 have hlen:=hl.len
 refine cG D (bU (bJ (bX (bS D (W (dP cQ0 D) D (W (eM D D) D (bU ?_)))))))
 refine cN D (fun h1=>?_) (fun h1=>?_)
 ·refine bX (cG D (bU ?_))
  refine bR (F ?_)
  exact bQ D D fun wx hm=>⟨cL (by unfold yH;rw [if_pos G]),hm.g⟩
 refine bN (bG (bJ (bX (bS D (W (dP cQ0 D) D (bS D (bU (bP ?_))))))))
 refine dS (γ:=Nat) (fun (k:Nat)=>k<=n/\yH l=scanE nD (prevOf l k) (l.drop k)) (fun (k:Nat)=> [(0,H A n c),(8,H A n c),(9,I n),(10,I k)]) (fun (k:Nat)=>fun _=>True) (fun (k:Nat)=> []) (fun (k:Nat)=> []) (fun (k:Nat)=> [bT nP 3 207 w.heap.size none A n l]) (fun (k:Nat)=>n - k) 0 ⟨Nat.zero_le _,by unfold yH;rw [if_neg G];rfl⟩ ⟨D,D,D,D,bB⟩ (fun _ hm=>hm.pick [] [] [0] D D) ?_
 intro k bZ
 replace bZ:k<=n/\yH l=scanE nD (prevOf l k) (l.drop k):=bZ
 refine bX (W (dF D D) D (bU (bJ ?_)))
 refine cN D (fun hk=>?_) (fun hk=>?_)
 ·refine bN (bG (bJ (bP (bX ?_))))
  obtain ⟨b,off,hA,_,_⟩:=hl.get G
  subst hA
  obtain ⟨x,hx⟩:∃x,l[k]?=some x:=⟨_,fY9 G⟩
  obtain ⟨ka,kb,ce⟩:=x
  have hat:=scanE_at nD l k _ hx
  obtain ⟨hs1,hs2⟩:=hok _ (fZ9 hx)
  have hs1:ka.size<=1000000:=hs1
  have hs2:kb.size<=1000000:=hs2
  refine bS D (W (bV (j:=k) cQ0 D D G) D (W (dR (vs:= [U ka,U kb,J ce]) dA6 D (fun _ hm=>(hm.fact 0 D).1) hx D D) D (dM eM9 D fun g1=>cG D (kE (cs':= [U ka,U kb,J ce]) 0 dA6 D D D D (bU (bP (bX (dZ vL D D (eO fR 0 D D D (cR D cQ8 D D (fun wx hm=>(xM _ wx G)) (W (cS D) D (bS D ?_))))))))))))
  rcases Bool.eq_false_or_eq_true (!(keyB ka)) with h2|h2
  ·refine bO 20 D (fW9 h2) ?_
   have h2:keyB ka=false:=by simpa using h2
   refine eE D (eE D (eE D (eE D (mS D D (cG D (bU (mT D (bX (cG D (bU (bR (C (C (F (F (C (F ?_)))))))))))))))))
   have hE:nD (prevOf l k) ⟨ka,kb,ce⟩=5:=by unfold nD yK;simp [h2]
   exact bQ D D fun wx hm=>⟨cL (by rw [bZ.2,hat,if_neg (by rw [hE];decide),hE]),hm.g⟩
  refine bO 20 D (fW9 h2) ?_
  have h2:keyB ka=true:=by simpa using h2
  refine eN D (dZ xJ D D (eN D (eO fR 0 D D D (eN D (cR D cQ8 D D (fun wx hm=>(xM _ wx G)) (eN D (W (cS D) D (nV D D (cG D (bU ?_))))))))))
  refine dE D (fun hh=>?_) (fun hh=>?_)
  ·have h3:(keyB kb)=false:=by simpa using hh
   refine bX ?_
   have h3:keyB kb=false:=by simpa using h3
   refine cG D (bU (bR (C (C (F (F (C (F ?_))))))))
   have hE:nD (prevOf l k) ⟨ka,kb,ce⟩=5:=by unfold nD yK;simp [h2,h3]
   exact bQ D D fun wx hm=>⟨cL (by rw [bZ.2,hat,if_neg (by rw [hE];decide),hE]),hm.g⟩
  have h3:(keyB kb)=true:=by simpa using hh
  refine bX ?_
  have h3:keyB kb=true:=by simpa using h3
  refine dZ vL D D (eO fR 0 D D D (dZ xJ D D (eO fR 0 D D D (W (eS D D) D (cG D (bU ?_))))))
  refine dE D (fun hh=>?_) (fun hh=>?_)
  ·have h4:(ka.toList==kb.toList)=true:=by simpa using hh
   refine bX (cG D (bU (bR (C (C (F (F (C (F ?_)))))))))
   have hE:nD (prevOf l k) ⟨ka,kb,ce⟩=14:=by unfold nD yK;simp [h2,h3,(beq_iff_eq.1 h4)]
   exact bQ D D fun wx hm=>⟨cL (by rw [bZ.2,hat,if_neg (by rw [hE];decide),hE]),hm.g⟩
  have h4:(ka.toList==kb.toList)=false:=by simpa using hh
  refine bJ ?_
  have h4:¬ka.toList=kb.toList:=by simpa using h4
  by_cases hk0:k=0
  ·refine gd (fun wz=>True) mixed (fun _ _=>bB) fun z=>?_
   refine wq 0 D (bL D) (wq 1 D (eM D D) (dI 34 (v':= .bool false) D (fW9 (decide_eq_false G)) (wq 2 D (bL D) (eL 3 D (eL 4 D (eL 5 D (eL 6 D (eL 7 D (eL 8 D (eL 9 D (eL 10 D (eL 11 D (eL 12 D (rY 13 D (rY 14 D (rY 15 D (rY 16 D (rY 17 D (rY 18 D (rY 19 D (rY 20 D (rY 21 D (rY 22 D (rY 23 D (rY 24 D (rY 25 D (rY 26 D (rY 27 D (rY 28 D ?_)))))))))))))))))))))))))))))
   refine rY 29 D (rY 30 D (rY 31 D (rY 32 D (eL 33 D (wq 34 D (eZ D D) (wq 35 D (dB D) (gY (bG (jK D (bX (dZ bI5 D D (eO fM 0 D D D (dC D bT4 D D (fun wx hm=>(kM _ _ _ wx)) (W (cS D) D (cG D (bU ?_))))))))))))))))
   refine dE D (fun hh=>?_) (fun hh=>?_)
   ·have h9:(inB ce 0 1000000)=false:=by simpa using hh
    refine bX (cG D (bU (bR (C (C (F (F (C (F ?_)))))))))
    have hE:nD (prevOf l k) ⟨ka,kb,ce⟩=1:=by unfold nD yK;rw [bP2 hk0];simp [h2,h3,h4,h9]
    exact bQ D D fun wx hm=>⟨cL (by rw [bZ.2,hat,if_neg (by rw [hE];decide),hE]),hm.g⟩
   have h9:(inB ce 0 1000000)=true:=by simpa using hh
   refine bN (bK (bK (bG (bM ?_))))
   have hE:nD (prevOf l k) ⟨ka,kb,ce⟩=0:=by unfold nD yK;rw [bP2 hk0];simp [h2,h3,h4,h9]
   refine fY D D (bS D (bH ?_))
   exact cQ (k+1) ⟨G,by rw [bZ.2,hat,if_pos hE]⟩ G ⟨D,D,D,(cP G),bB⟩ (fun _ hm=>hm.pick [] [] [0] D D)
  obtain ⟨y,hy⟩:∃x,l[k - 1]?=some x:=⟨_,fY9 G⟩
  obtain ⟨p0,p1,p2⟩:=y
  have hpv:=cK7 hk0 hy
  refine gd (fun wz=>Blk wz g1 207 [U ka,U kb,J ce]/\(bT nP 3 207 w.heap.size none (some ⟨b,off,none⟩) n l) wz/\True) mixed (fun _ hm=>⟨hm.bl 0,hm.fa 0,bB⟩) fun z=>wq 0 D (bL D) (wq 1 D (eM D D) (dI 34 (v':= .bool true) D (fW9 (decide_eq_true G)) (wq 2 D (bL D) (eU 3 D (bW vL D D) (eU 4 D (cH fR D (fun _ hm=>hm.1) D) (eU 5 D (bL D) (eU 6 D (bL D) (eU 7 D (ov_sub D D G G) (dI 40 (v':=I (k - 1)) D (fX9 G) (eU 8 D (bV (j:=k - 1) cQ0 D D G) (eU 9 D (bW vL D D) (eU 10 D (dH (k:=0) (v:=U p0) fR D (fun _ hm=>(hm.2.1).1) hy D D) (eU 11 D (cI7 D D) (eU 12 D (bL D) ?_))))))))))))))
  rcases Bool.eq_false_or_eq_true (Op.bytesLess ka.toList p0.toList) with h5|h5
  ·refine dI 45 D (fW9 h5) ?_
   have h8:bI9 ⟨p0,p1,p2⟩ ⟨ka,kb,ce⟩=false:=by have h:=dL5 ⟨p0,p1,p2⟩ ⟨ka,kb,ce⟩;simp only at h;rw [h5] at h;simpa using h.symm
   refine eL 13 D (eL 14 D (eL 15 D (eL 16 D (eL 17 D (eL 18 D (eL 19 D (eL 20 D (eL 21 D (eL 22 D (rY 23 D (rY 24 D (rY 25 D (rY 26 D (rY 27 D (rY 28 D (rY 29 D (rY 30 D (rY 31 D (eL 32 D (eU 33 D (fG D D) (wq 34 D (fG D D) (wq 35 D (dB D) (gY (bG (mT D (bX (cG D (bU (bR ?_)))))))))))))))))))))))))))))
   refine C (C (F (F (C (F ?_)))))
   have hE:nD (prevOf l k) ⟨ka,kb,ce⟩=7:=by unfold nD yK;rw [hpv];simp [h2,h3,h4,h8]
   exact bQ D D fun wx hm=>⟨cL (by rw [bZ.2,hat,if_neg (by rw [hE];decide),hE]),hm.g⟩
  refine dI 45 D (fW9 h5) (eU 13 D (bW vL D D) (eU 14 D (cH fR D (fun _ hm=>hm.1) D) (eU 15 D (bL D) (eU 16 D (bL D) (eU 17 D (ov_sub D D G G) (dI 50 (v':=I (k - 1)) D (fX9 G) (eU 18 D (bV (j:=k - 1) cQ0 D D G) (eU 19 D (bW vL D D) (eU 20 D (dH (k:=0) (v:=U p0) fR D (fun _ hm=>(hm.2.1).1) hy D D) (eU 21 D (eS D D) (eU 22 D (bL D) ?_)))))))))))
  rcases Bool.eq_false_or_eq_true (ka.toList==p0.toList) with h6|h6
  ·refine dI 55 D (fW9 h6) ?_
   refine eU 23 D (bW xJ D D) (eU 24 D (cH fR D (fun _ hm=>hm.1) D) (eU 25 D (bL D) (eU 26 D (bL D) (eU 27 D (ov_sub D D G G) (dI 60 (v':=I (k - 1)) D (fX9 G) (eU 28 D (bV (j:=k - 1) cQ0 D D G) (eU 29 D (bW xJ D D) (eU 30 D (dH (k:=1) (v:=U p1) fR D (fun _ hm=>(hm.2.1).1) hy D D) (eU 31 D (wH D D) (eU 32 D (fG D D) (eU 33 D (eZ D D) (wq 34 D (fG D D) (wq 35 D (dB D) (gY (bG ?_)))))))))))))))
   refine dE D (fun hh=>?_) (fun hh=>?_)
   ·have h7:(Op.bytesLess kb.toList p1.toList||kb.toList==p1.toList)=true:=by simpa using hh
    refine bX ?_
    have h8:bI9 ⟨p0,p1,p2⟩ ⟨ka,kb,ce⟩=false:=by have h:=dL5 ⟨p0,p1,p2⟩ ⟨ka,kb,ce⟩;simp only at h;rw [h5,h6,h7] at h;simpa using h.symm
    refine cG D (bU (bR (C (C (F (F (C (F ?_))))))))
    have hE:nD (prevOf l k) ⟨ka,kb,ce⟩=7:=by unfold nD yK;rw [hpv];simp [h2,h3,h4,h8]
    exact bQ D D fun wx hm=>⟨cL (by rw [bZ.2,hat,if_neg (by rw [hE];decide),hE]),hm.g⟩
   have h7:(Op.bytesLess kb.toList p1.toList||kb.toList==p1.toList)=false:=by simpa using hh
   refine bX ?_
   have h8:bI9 ⟨p0,p1,p2⟩ ⟨ka,kb,ce⟩=true:=by have h:=dL5 ⟨p0,p1,p2⟩ ⟨ka,kb,ce⟩;simp only at h;rw [h5,h6,h7] at h;simpa using h.symm
   refine dZ bI5 D D (eO fM 0 D D D (dC D bT4 D D (fun wx hm=>(kM _ _ _ wx)) (W (cS D) D (cG D (bU ?_)))))
   refine dE D (fun hh=>?_) (fun hh=>?_)
   ·have h9:(inB ce 0 1000000)=false:=by simpa using hh
    refine bX (cG D (bU (bR (C (C (F (F (C (F ?_)))))))))
    have hE:nD (prevOf l k) ⟨ka,kb,ce⟩=1:=by unfold nD yK;rw [hpv];simp [h2,h3,h4,h8,h9]
    exact bQ D D fun wx hm=>⟨cL (by rw [bZ.2,hat,if_neg (by rw [hE];decide),hE]),hm.g⟩
   have h9:(inB ce 0 1000000)=true:=by simpa using hh
   refine bN (bK (bK (bG (bM ?_))))
   have hE:nD (prevOf l k) ⟨ka,kb,ce⟩=0:=by unfold nD yK;rw [hpv];simp [h2,h3,h4,h8,h9]
   refine fY D D (bS D (bH ?_))
   exact cQ (k+1) ⟨G,by rw [bZ.2,hat,if_pos hE]⟩ G ⟨D,D,D,(cP G),bB⟩ (fun _ hm=>hm.pick [] [] [0] D D)
  refine dI 55 D (fW9 h6) ?_
  have h8:bI9 ⟨p0,p1,p2⟩ ⟨ka,kb,ce⟩=true:=by have h:=dL5 ⟨p0,p1,p2⟩ ⟨ka,kb,ce⟩;simp only at h;rw [h5,h6] at h;simpa using h.symm
  refine eL 23 D (eL 24 D (eL 25 D (eL 26 D (eL 27 D (eL 28 D (eL 29 D (eL 30 D (eL 31 D (eU 32 D (eZ D D) (eU 33 D (eZ D D) (wq 34 D (fG D D) (wq 35 D (dB D) (gY (bG (jK D (bX (dZ bI5 D D (eO fM 0 D D D (dC D bT4 D D (fun wx hm=>(kM _ _ _ wx)) (W (cS D) D (cG D (bU ?_))))))))))))))))))))))
  refine dE D (fun hh=>?_) (fun hh=>?_)
  ·have h9:(inB ce 0 1000000)=false:=by simpa using hh
   refine bX (cG D (bU (bR (C (C (F (F (C (F ?_)))))))))
   have hE:nD (prevOf l k) ⟨ka,kb,ce⟩=1:=by unfold nD yK;rw [hpv];simp [h2,h3,h4,h8,h9]
   exact bQ D D fun wx hm=>⟨cL (by rw [bZ.2,hat,if_neg (by rw [hE];decide),hE]),hm.g⟩
  have h9:(inB ce 0 1000000)=true:=by simpa using hh
  refine bN (bK (bK (bG (bM ?_))))
  have hE:nD (prevOf l k) ⟨ka,kb,ce⟩=0:=by unfold nD yK;rw [hpv];simp [h2,h3,h4,h8,h9]
  refine fY D D (bS D (bH ?_))
  exact cQ (k+1) ⟨G,by rw [bZ.2,hat,if_pos hE]⟩ G ⟨D,D,D,(cP G),bB⟩ (fun _ hm=>hm.pick [] [] [0] D D)
 refine dD (bI (bI (bY (bG (bX (cG D (bU (bR ?_))))))))
 exact bQ D D fun wx hm=>⟨cL (by rw [bZ.2,scanE_end _ _ _ _ G]),hm.g⟩
def fN5(x:M×M):List Value:= [U x.1,U x.2]
theorem fM1(x:M×M):(fN5 x).length=2:=rfl
theorem fO5{x:M×M}(h:x∈([(⟨#[115,49]⟩,⟨#[115,50]⟩),(⟨#[115,49]⟩,⟨#[115,51]⟩),(⟨#[115,50]⟩,⟨#[115,49]⟩),(⟨#[115,51]⟩,⟨#[115,50]⟩)]:List (M×M))):x.1.size<=100/\x.2.size<=100:=by
 have key:∀y∈([(⟨#[115,49]⟩,⟨#[115,50]⟩),(⟨#[115,49]⟩,⟨#[115,51]⟩),(⟨#[115,50]⟩,⟨#[115,49]⟩),(⟨#[115,51]⟩,⟨#[115,50]⟩)]:List (M×M)),y.1.size<=100/\y.2.size<=100:=by decide
 exact key x h
theorem dB5{l:List Fe}{x:Fe}(h:∀y∈l,bV2 y)(h1:x.a.size<=1000000)(h2:x.b.size<=1000000):∀y∈l++ [x],bV2 y:=fun y hy=>by
 rcases List.mem_append.1 hy with hy|hy
 ·exact h y hy
 ·rw [List.mem_singleton.1 hy];exact ⟨h1,h2⟩
theorem dG7(w:World)(B sb m:Nat)(hS:fQ 25 w B sb m)(hm:m<=100000000000):
 Calls prog 74 #[.pointer (some ⟨sb,0,none⟩)] w (fun e w'=>∃(A:Option Addr) (n c:Nat) (l:List Fe),e=.returned (H A n c)/\SlT nP 3 207 w' A n l/\(∀x∈l,bV2 x)/\n<=5/\n<=c/\fQ 25 w' B sb (m+30)/\w.grownBy w' (some sb)):=by
 refine cY ⟨46,w,(some sb), []⟩ func74 D ntmps74 D (bU5 (X:= []) hS cZ dA) (bX (cG D (bU (bX (cG D (bU (bJ (bX (W (dL (cs:= [U ⟨#[115,49]⟩,U ⟨#[115,50]⟩]) D bC) D (W (dL (cs:= [U ⟨#[115,49]⟩,U ⟨#[115,51]⟩]) D bC) D (W (dL (cs:= [U ⟨#[115,50]⟩,U ⟨#[115,49]⟩]) D bC) D (W (dL (cs:= [U ⟨#[115,51]⟩,U ⟨#[115,50]⟩]) D bC) D (jN 204 [U ⟨#[115,49]⟩,U ⟨#[115,50]⟩,U ⟨#[115,49]⟩,U ⟨#[115,51]⟩,U ⟨#[115,50]⟩,U ⟨#[115,49]⟩,U ⟨#[115,51]⟩,U ⟨#[115,50]⟩] fun g1=>W (dP eB9 D) D (bO 11 (v':=J 4) D D (bS D (bU (bP ?_)))))))))))))))))
 refine qU 207 3 ?_
 refine dS (γ:=Nat×Nat×Value×List Fe×List Value) (fun g=>g.1<=4/\g.2.1<=g.1/\g.2.2.2.1.length=g.2.1/\(∀x∈g.2.2.2.1,bV2 x)/\g.2.2.2.2=g.2.2.2.1.flatMap nP) (fun g=> [(0,.pointer (some ⟨sb,0,none⟩)),(2,H none 0 0),(3,g.2.2.1),(10,H (some ⟨g1,0,none⟩) 4 4),(11,J 4),(12,I (g.1))]) (fun g=>fun w=>fQ 25 w B sb (m+2 *g.1)) (fun g=> [(g1,204, [U ⟨#[115,49]⟩,U ⟨#[115,50]⟩,U ⟨#[115,49]⟩,U ⟨#[115,51]⟩,U ⟨#[115,50]⟩,U ⟨#[115,49]⟩,U ⟨#[115,51]⟩,U ⟨#[115,50]⟩])]) (fun g=> [⟨g.2.2.1,207,3,g.2.1,g.2.2.2.2⟩]) (fun g=> []) (fun g=>4 - g.1) (0,0,H none 0 0, [], []) ⟨Nat.zero_le _,Nat.zero_le _,D,(fun _ h=>by cases h),D⟩ ⟨D,D,D,D,D,D,bB⟩ (fun _ hm=>(hm.more D (by first|omega|(dsimp only;omega))).pick [0] [0] [] D D) ?_
 rintro ⟨k,n,v,l,xs⟩ bZ
 replace bZ:k<=4/\n<=k/\l.length=n/\(∀x∈l,bV2 x)/\xs=l.flatMap nP:=bZ
 dsimp only
 refine bX ?_
 obtain ⟨hi0,hi1,zI,hi3,rfl⟩:=bZ
 refine W (dF D D) D (bU (bJ ?_))
 refine cN D (fun hk=>?_) (fun hk=>?_)
 ·refine bN (bG (bJ (bP (bX ?_))))
  obtain ⟨nm,hx⟩:∃x,([(⟨#[115,49]⟩,⟨#[115,50]⟩),(⟨#[115,49]⟩,⟨#[115,51]⟩),(⟨#[115,50]⟩,⟨#[115,49]⟩),(⟨#[115,51]⟩,⟨#[115,50]⟩)]:List (M×M))[k]?=some x:=⟨_,fY9 (by simp;omega)⟩
  obtain ⟨na,nb⟩:=nm
  obtain ⟨hna,hnb⟩:=fO5 (fZ9 hx)
  dsimp only at hna hnb
  refine W (bV (j:=k) eB9 D D G) D (W (dR (vs:= [U na,U nb]) eG9 D (fun _ hm=>(SlT.ofBlk (l:= [(⟨#[115,49]⟩,⟨#[115,50]⟩),(⟨#[115,49]⟩,⟨#[115,51]⟩),(⟨#[115,50]⟩,⟨#[115,49]⟩),(⟨#[115,51]⟩,⟨#[115,50]⟩)]) fM1 (hm.blkI 0 D))) hx D D) D (dM fD6 D fun g2=>kE (cs':= [U na,U nb]) 0 eG9 D D D D (bU (bX (bS D (dX (γ:=Bool) (val:=fun v=> .bool v) (φ:=fun v=>True) D bY6 D D D D (fun wx hm=>((mU _ wx B sb _ hm.k G G G).mono fun _ _ ⟨v,he,hS,hg⟩=>⟨v,bB,he,hS,hg⟩)) fun f3 _=>W (cS D) D (bU ?_)))))))
  refine dE D (fun hh=>?_) (fun hh=>?_)
  ·have hf:f3=false:=by simpa using hh
   refine gd (fun wz=>Blk wz g2 204 [U na,U nb]/\True) mixed (fun _ hm=>⟨hm.bl 0,bB⟩) fun z=>wq 0 D (bL D) (wq 1 D (cP4 (j:=0) eH8 D D bD D) (wq 2 D (cH fR D (fun _ hm=>hm.1) D) (wq 3 D (cP4 (j:=1) eH8 D D bD D) (wq 4 D (cH fR D (fun _ hm=>hm.1) D) (wq 5 D (bL D) (eD 6 D (jN 3 [J 0,J 40,J 700] fun g4=>bH (nw 12 127 (fun _ hm=>⟨hm.bl 1,bB⟩) fun z=>eD 7 D (dX (γ:=Int) (val:=fun v=>J v) (φ:=fun v=>v∈([0,40,700]:List Int)) D uN D D D D (fun wx hm=>(fV [0,40,700] _ _ _ wx B sb _ hm.k G (by simp) (by simp) (hm.blkI 0 D) (hm.neRow 0 D D))) fun v5 hv5=>?_)))))))))
   have bv5:0<=v5/\v5<=700:=jP hv5 bD
   have bv50:=bv5.1
   have bv51:=bv5.2
   clear bv5
   refine bH (nw 12 255 (fun _ hm=>⟨hm.bl 1,bB⟩) fun z=>wq 8 D (dL (cs:= [U na,U nb,J v5]) D bC) (eD 9 D (jN 207 [U na,U nb,J v5] fun g6=>bH (nw 12 1023 (fun _ hm=>⟨hm.bl 2,bB⟩) fun z=>eD 10 D (eP (news:= [U na,U nb,J v5]) 0 0 fB3 D D D D D D D G (by unfold maxLen;omega) D D fun v2 xK=>bH (nw 12 2047 (fun _ hm=>⟨hm.bl 2,bB⟩) fun z=>wq 11 D (dB D) (gY (bK (bG (bM (fY D D (bS D (bH ?_)))))))))))))
   exact cQ (k+1,n+1,v2,l++ [⟨na,nb,v5⟩],l.flatMap nP++([U na,U nb,J v5]:List Value)) ⟨bE,bE,by simp [zI],dB5 hi3 (show na.size<=1000000 by omega) (show nb.size<=1000000 by omega),by simp [nP]⟩ bE ⟨D,D,D,D,D,(cP G),bB⟩ (fun _ hm=>(hm.more D (by first|omega|(dsimp only;omega))).pick [3] [0] [] D D)
  have hf:f3=true:=by simpa using hh
  refine bN (bK (bG (bM (fY D D (bS D (bH ?_))))))
  exact cQ (k+1,n,v,l,l.flatMap nP) ⟨bE,bE,zI,hi3,rfl⟩ bE ⟨D,D,D,D,D,(cP G),bB⟩ (fun _ hm=>(hm.more D (by first|omega|(dsimp only;omega))).pick [1] [0] [] D D)
 refine dD (bI (bI (bY (bG (bJ (bX (bS D (dX (γ:=Bool) (val:=fun v=> .bool v) (φ:=fun v=>True) D bY6 D D D D (fun wx hm=>((mU _ wx B sb _ hm.k G G G).mono fun _ _ ⟨v,he,hS,hg⟩=>⟨v,bB,he,hS,hg⟩)) fun f7 _=>bU ?_))))))))
 refine dE D (fun hh=>?_) (fun hh=>?_)
 ·have hf:f7=true:=by simpa using hh
  refine bM (bS D (bS D (jN 9 [U ⟨#[115,51]⟩,U ⟨#[65]⟩,U ⟨#[115,49]⟩] fun g8=>dX (γ:=M) (val:=fun v=>U v) (φ:=fun v=>v∈([⟨#[115,51]⟩,⟨#[65]⟩,⟨#[115,49]⟩]:List M)) D uU D D D D (fun wx hm=>(jE [⟨#[115,51]⟩,⟨#[65]⟩,⟨#[115,49]⟩] _ _ _ wx B sb _ hm.k G (by simp) (by simp) (hm.blkI 0 D) (hm.neRow 0 D D))) fun s9 hs9=>?_)))
  have zs9:s9.size<=100:=kX hs9 bD
  refine bS D (jN 9 [U ⟨#[115,51]⟩,U ⟨#[115,57]⟩,U ⟨#[]⟩] fun g10=>dX (γ:=M) (val:=fun v=>U v) (φ:=fun v=>v∈([⟨#[115,51]⟩,⟨#[115,57]⟩,⟨#[]⟩]:List M)) D uU D D D D (fun wx hm=>(jE [⟨#[115,51]⟩,⟨#[115,57]⟩,⟨#[]⟩] _ _ _ wx B sb _ hm.k G (by simp) (by simp) (hm.blkI 0 D) (hm.neRow 0 D D))) fun s11 hs11=>?_)
  have zs11:s11.size<=100:=kX hs11 bD
  refine bS D (dX (γ:=Int) (val:=fun v=>J v) (φ:=fun v=> -2000000000000000<=v/\v<=2000000000000000) D bZ6 D D D D (fun wx hm=>(nL _ _ wx B sb _ hm.k G G G G)) fun v12 hv12=>W (dL (cs:= [U s9,U s11,J v12]) D bC) D (jN 207 [U s9,U s11,J v12] fun g13=>eP (news:= [U s9,U s11,J v12]) 0 0 fB3 D D D D D D D G (by unfold maxLen;omega) D D fun v2 xK=>?_))
  refine eB (R:=∃A cc,v2=H A (n+1) cc) (fun wx hm=>dW (hm.ownI 0 D)) ?_
  rintro ⟨A,c,rfl⟩
  refine cG D (bU (bX (bS D (cG D (bU (bR ?_))))))
  exact bQ D D fun wx hm=>⟨A,n+1,c,l++ [⟨s9,s11,v12⟩],D,SlT.ofOwn (l:=l++ [⟨s9,s11,v12⟩]) dC5 (by have h:=hm.ownI 0 rfl;simpa [nP] using h) (by simp [zI]),dB5 hi3 (show s9.size<=1000000 by omega) (show s11.size<=1000000 by omega),G,kK (hm.ownI 0 rfl),hm.k.more G,hm.g⟩
 have hf:f7=false:=by simpa using hh
 refine bN (bG (bX ?_))
 refine eB (R:=∃A cc,v=H A n cc) (fun wx hm=>dW (hm.ownI 0 D)) ?_
 rintro ⟨A,c,rfl⟩
 refine bS D (cG D (bU (bR ?_)))
 exact bQ D D fun wx hm=>⟨A,n,c,l,D,SlT.ofOwn dC5 (hm.ownI 0 D) zI,hi3,G,kK (hm.ownI 0 rfl),hm.k.more G,hm.g⟩
structure Tx where
 key:M
 mille:Int
 A:Option Addr
 n:Nat
 c:Nat
 on:List Int
 over:Bool
def kD(x:Tx):List Value:= [U x.key,J x.mille,H x.A x.n x.c,.bool x.over]
theorem qG(x:Tx):(kD x).length=4:=rfl
def wN(x:Tx):Prop:=x.key.size<=1000000/\x.n<=1000
def Ons(l:List Tx)(w:World):Prop:=∀x∈l,SlT mW 1 3 w x.A x.n x.on
def nC(N:Nat)(row:Option Nat)(l:List Tx)(w:World):Prop:=∀x∈l,bT mW 1 3 N row x.A x.n x.on w
theorem nC.lasts{N:Nat}{row:Option Nat}{Tt:List TypeId}{l:List Tx}:Lasts2 N row Tt (nC N row l):=bN7 fun _ _=>bT.lasts
theorem Ons.lasts{N:Nat}{row:Option Nat}{Tt:List TypeId}{l:List Tx}(hT:Tt.contains 3=true):Lasts2 N row Tt (Ons l):=bN7 fun _ _=>SlT.lasts2 hT
theorem Ons.old{l:List Tx}{w:World}(h:Ons l w):nC w.heap.size none l w:=fun x hx=>(h x hx).old
theorem nC.ons{N:Nat}{row:Option Nat}{l:List Tx}{w:World}(h:nC N row l w):Ons l w:=fun x hx=>(h x hx).1
def onB(p:Option Int)(k:Int):Bool:=match p with
 |none=>false
 |some q=>decide (k<=q)
def onE(p:Option Int)(k:Int):Int:=if decide (k=5)|| !inB k 1 6 then 4 else if onB p k then 7 else 0
def bQ7(l:List Int):Int:=scanE onE none l
def wB(k:M)(x:Tx):Bool:=x.key.toList==k.toList
def xC(pre:List Tx)(x:Tx):Int:=if !keyB x.key then 5 else if pre.any (wB x.key) then 6 else if !inB x.mille 0 1000 then 1 else bQ7 x.on
def cS7:List Tx->List Tx->Int
 |_, []=>0
 |pre,x::r=>if xC pre x=0 then cS7 (pre++ [x]) r else xC pre x
theorem dG6{l:List Tx}{i:Nat}{x:Tx}(h:l[i]?=some x):cS7 (l.take i) (l.drop i)=if xC (l.take i) x=0 then cS7 (l.take (i+1)) (l.drop (i+1)) else xC (l.take i) x:=by
 obtain ⟨hi,rfl⟩:=List.getElem?_eq_some_iff.1 h
 rw [List.drop_eq_getElem_cons hi,List.take_add_one,fY9 hi]
 rfl
theorem dW0{l:List Tx}{i:Nat}(h:l.length<=i):cS7 (l.take i) (l.drop i)=0:=by rw [List.drop_eq_nil_of_le h];rfl
def xB(l:List Tx):Int:=if 10 < l.length then 2 else cS7 [] l
theorem dF8(key:M)(mi:Int)(At:Option Addr)(nt ct:Nat)(on:List Int)(ov:Bool)(gk:Nat)(k0:M)(k1:Int)(k2:Option Addr)(k3 k4:Nat)(k5:Bool)(w:World)(hk:Blk w gk 212 [U k0,J k1,H k2 k3 k4,.bool k5]):
 Calls prog 175 #[.agg #[U key,J mi,H At nt ct,.bool ov],.pointer (some ⟨gk,0,none⟩)] w (fun e w'=>e=.returned (.bool (wB k0 ⟨key,mi,At,nt,ct,on,ov⟩))/\w.grownBy w' none):=by
 refine cY ⟨9,w,none, []⟩ func175 D ntmps175 D (fZ (X:= [eC w.heap.size none gk 212 [U k0,J k1,H k2 k3 k4,.bool k5]]) (cC hk.old cZ) (cE eC.lasts dA)) (bX (fS D D D fun g1=>cG D (bU (bX (dZ zG D D (eO fR 0 D D D (dZ zG D D (W (cH (v:=U k0) fR D (fun _ hm=>(hm.fact 0 D).2) D) D (W (eS D D) D (cG D (bU (bR ?_))))))))))))
 exact bQ D D fun wx hm=>⟨D,hm.g⟩
theorem dP2(l:List Tx)(A:Option Addr)(n c0:Nat)(gk:Nat)(k0:M)(k1:Int)(k2:Option Addr)(k3 k4:Nat)(k5:Bool)(w:World)(hl:SlT kD 4 212 w A n l)(hn:n<=1000000)(hk:Blk w gk 212 [U k0,J k1,H k2 k3 k4,.bool k5]):
 Calls prog 168 #[H A n c0,.func (.func 175) #[] #[.pointer (some ⟨gk,0,none⟩)]] w (nG w (kL (wB k0) l 0)):=by
 refine cY ⟨19,w,none, []⟩ func168 D ntmps168 D (fZ (X:= [bT kD 4 212 w.heap.size none A n l,eC w.heap.size none gk 212 [U k0,J k1,H k2 k3 k4,.bool k5]]) (cC hl.old (cC hk.old cZ)) (cE bT.lasts (cE eC.lasts dA))) (bX ?_)
 have hlen:=hl.len
 refine cG D (bU (bJ (bX (bS D (W (dP bT3 D) D (bS D (bU (bP ?_))))))))
 refine dS (γ:=Nat) (fun (i:Nat)=>i<=n/\kL (wB k0) l 0=kL (wB k0) (l.drop i) i) (fun (i:Nat)=> [(0,H A n c0),(1,.func (.func 175) #[] #[.pointer (some ⟨gk,0,none⟩)]),(7,I n),(8,I i)]) (fun (i:Nat)=>fun _=>True) (fun (i:Nat)=> []) (fun (i:Nat)=> []) (fun (i:Nat)=> [bT kD 4 212 w.heap.size none A n l,eC w.heap.size none gk 212 [U k0,J k1,H k2 k3 k4,.bool k5]]) (fun (i:Nat)=>n - i) 0 ⟨Nat.zero_le _,D⟩ ⟨D,D,D,D,bB⟩ (fun _ hm=>hm.pick [] [] [0,1] D D) ?_
 intro i bZ
 replace bZ:i<=n/\kL (wB k0) l 0=kL (wB k0) (l.drop i) i:=bZ
 refine bX (W (dF D D) D (bU (bJ ?_)))
 refine cN D (fun hi=>?_) (fun hi=>?_)
 ·refine bN (bG (bJ (bP (bX ?_))))
  obtain ⟨b,off,hA,_,_⟩:=hl.get G
  subst hA
  obtain ⟨x,hx⟩:∃x,l[i]?=some x:=⟨_,fY9 G⟩
  obtain ⟨key,mi,At,nt,ct,on,ov⟩:=x
  have hat:=bS1 (p:=wB k0) hx
  refine bS D (cG D (bU (bX (bS D (bS D (bS D (W (bV (j:=i) bT3 D D G) D (W (dR (vs:= [U key,J mi,H At nt ct,.bool ov]) bT8 D (fun _ hm=>(hm.fact 0 D).1) hx D D) D (cR D fY3 D D (fun wx hm=>(dF8 key mi At nt ct on ov gk k0 k1 k2 k3 k4 k5 wx (hm.fact 1 D).2)) (bU ?_))))))))))
  refine dE D (fun hh=>?_) (fun hh=>?_)
  ·have hq:(wB k0 ⟨key,mi,At,nt,ct,on,ov⟩)=true:=by simpa using hh
   refine bX (bS D (cG D (bU (bR (C (F (F (C (F ?_)))))))))
   exact bQ D D fun wx hm=>⟨cL (by rw [bZ.2,hat,if_pos hq]),hm.g⟩
  have hq:(wB k0 ⟨key,mi,At,nt,ct,on,ov⟩)=false:=by simpa using hh
  refine bN (bK (bG (bM (fY D D (bS D (bH ?_))))))
  exact cQ (i+1) ⟨G,by rw [bZ.2,hat,if_neg (by rw [hq];decide)]⟩ G ⟨D,D,D,(cP G),bB⟩ (fun _ hm=>hm.pick [] [] [0,1] D D)
 refine dD (bI (bI (bY (bG (bX (cG D (bO 4 (v':=J (-1)) D D (bU (bR ?_)))))))))
 exact bQ D D fun wx hm=>⟨cL (by rw [bZ.2,List.drop_eq_nil_of_le G];rfl),hm.g⟩
theorem eU1(l:List Tx)(A:Option Addr)(n c0:Nat)(gk:Nat)(k0:M)(k1:Int)(k2:Option Addr)(k3 k4:Nat)(k5:Bool)(w:World)(hl:SlT kD 4 212 w A n l)(hn:n<=1000000)(hk:Blk w gk 212 [U k0,J k1,H k2 k3 k4,.bool k5]):
 Calls prog 121 #[H A n c0,.func (.func 175) #[] #[.pointer (some ⟨gk,0,none⟩)]] w (fun e w'=>e=.returned (.bool (l.any (wB k0)))/\w.grownBy w' none):=by
 refine cY ⟨9,w,none, []⟩ func121 D ntmps121 D (fZ (X:= [bT kD 4 212 w.heap.size none A n l,eC w.heap.size none gk 212 [U k0,J k1,H k2 k3 k4,.bool k5]]) (cC hl.old (cC hk.old cZ)) (cE bT.lasts (cE eC.lasts dA))) (bX (cG D (bU (bX (bS D (bS D (cR D eV8 D D (fun wx hm=>(dP2 l A n c0 gk k0 k1 k2 k3 k4 k5 wx (hm.fact 0 D).1 hn (hm.fact 1 D).2)) (W (mE D D) D (cG D (bU (bR ?_)))))))))))
 exact bQ D D fun wx hm=>⟨by rw [<-cB7],hm.g⟩
theorem cM0(l:List Tx)(A:Option Addr)(n c0:Nat)(w:World)(hl:SlT kD 4 212 w A n l)(hg:Ons l w)(hok:∀x∈l,wN x)(hn:n<=1000000)(hc:n<=c0):
 Calls prog 133 #[H A n c0] w (nG w (xB l)):=by
 refine cY ⟨64,w,none, []⟩ func133 D ntmps133 D (fZ (X:= [bT kD 4 212 w.heap.size none A n l,nC w.heap.size none l]) (cC hl.old (cC hg.old cZ)) (cE bT.lasts (cE nC.lasts dA))) (bX ?_)
 have hlen:=hl.len
 refine cG D (bU (bJ (bX (bS D (W (dP bT3 D) D (W (eM D D) D (bU ?_)))))))
 refine cN D (fun h1=>?_) (fun h1=>?_)
 ·refine bX (cG D (bU ?_))
  refine bR (F ?_)
  exact bQ D D fun wx hm=>⟨cL (by unfold xB;rw [if_pos G]),hm.g⟩
 refine bN (bG (bJ (bX (bS D (W (dP bT3 D) D (bS D (bU (bP ?_))))))))
 obtain ⟨TE,hTE⟩:∃E,E=xB l:=⟨_,rfl⟩
 rw [<-hTE]
 refine dS (γ:=Nat) (fun (k:Nat)=>k<=n/\TE=cS7 (l.take k) (l.drop k)) (fun (k:Nat)=> [(0,H A n c0),(10,H A n c0),(11,I n),(12,I k)]) (fun (k:Nat)=>fun _=>True) (fun (k:Nat)=> []) (fun (k:Nat)=> []) (fun (k:Nat)=> [bT kD 4 212 w.heap.size none A n l,nC w.heap.size none l]) (fun (k:Nat)=>n - k) 0 ⟨Nat.zero_le _,by rw [hTE];unfold xB;rw [if_neg G];rfl⟩ ⟨D,D,D,D,bB⟩ (fun _ hm=>hm.pick [] [] [0,1] D D) ?_
 intro k bZ
 replace bZ:k<=n/\TE=cS7 (l.take k) (l.drop k):=bZ
 refine bX (W (dF D D) D (bU (bJ ?_)))
 refine cN D (fun hk=>?_) (fun hk=>?_)
 ·refine bN (bG (bJ (bP (bX ?_))))
  obtain ⟨b,off,hA,_,_⟩:=hl.get G
  subst hA
  obtain ⟨x,hx⟩:∃x,l[k]?=some x:=⟨_,fY9 G⟩
  obtain ⟨key,mi,At,nt,ct,on,ov⟩:=x
  have hat:=dG6 hx
  obtain ⟨hk1,hnt⟩:=hok _ (fZ9 hx)
  have hk1:key.size<=1000000:=hk1
  have hnt:nt<=1000:=hnt
  have hout:=bZ
  refine bS D (W (bV (j:=k) bT3 D D G) D (W (dR (vs:= [U key,J mi,H At nt ct,.bool ov]) bT8 D (fun _ hm=>(hm.fact 0 D).1) hx D D) D (dM eJ4 D fun g1=>cG D (kE (cs':= [U key,J mi,H At nt ct,.bool ov]) 0 bT8 D D D D (bU (bJ (bP (bX (dZ zG D D (eO fR 0 D D D (dC D bW2 D D (fun wx hm=>(isKey_any _ wx G)) (W (cS D) D (cG D (bU ?_))))))))))))))
  refine dE D (fun hh=>?_) (fun hh=>?_)
  ·have h2:(keyB key)=false:=by simpa using hh
   refine bX (cG D (bU (bR (C (F (C (F (F (C (F ?_))))))))))
   have hE:xC (l.take k) ⟨key,mi,At,nt,ct,on,ov⟩=5:=by unfold xC;simp [h2]
   exact bQ D D fun wx hm=>⟨cL (by rw [hout.2,hat,if_neg (by rw [hE];decide),hE]),hm.g⟩
  have h2:(keyB key)=true:=by simpa using hh
  refine bX (bS D (bS D (W (qN (hi:=k) bT3 D D D G) D (W (pL D D) D (cR D eO8 D D (fun wx hm=>(eU1 (l.take k) _ k c0 _ _ _ _ _ _ _ wx (SlT.takeT (hm.fact 0 D).1 G) G (hm.blkI 0 D))) (cG D (bU ?_)))))))
  refine dE D (fun hh=>?_) (fun hh=>?_)
  ·have h3:((l.take k).any (wB key))=true:=by simpa using hh
   refine bX (cG D (bU (bR (C (F (C (F (F (C (F ?_))))))))))
   have hE:xC (l.take k) ⟨key,mi,At,nt,ct,on,ov⟩=6:=by unfold xC;simp [h2,h3]
   exact bQ D D fun wx hm=>⟨cL (by rw [hout.2,hat,if_neg (by rw [hE];decide),hE]),hm.g⟩
  have h3:((l.take k).any (wB key))=false:=by simpa using hh
  refine bX (dZ cL6 D D (eO fM 0 D D D (dC D pS D D (fun wx hm=>(in_any _ _ _ wx)) (W (cS D) D (cG D (bU ?_))))))
  refine dE D (fun hh=>?_) (fun hh=>?_)
  ·have h4:(inB mi 0 1000)=false:=by simpa using hh
   refine bX (cG D (bU (bR (C (F (C (F (F (C (F ?_))))))))))
   have hE:xC (l.take k) ⟨key,mi,At,nt,ct,on,ov⟩=1:=by unfold xC;simp [h2,h3,h4]
   exact bQ D D fun wx hm=>⟨cL (by rw [hout.2,hat,if_neg (by rw [hE];decide),hE]),hm.g⟩
  have h4:(inB mi 0 1000)=true:=by simpa using hh
  refine bN (bK (bG (bX ?_)))
  have hEo:xC (l.take k) ⟨key,mi,At,nt,ct,on,ov⟩=bQ7 on:=by unfold xC;simp [h2,h3,h4]
  refine bY9 (Y:=bT mW 1 3 w.heap.size none At nt on) (bT.lasts) (fun wx hm=>(hm.fact 1 D) _ (fZ9 hx)) ?_
  refine eB (R:=on.length=nt) (fun wx hm=>((hm.fact 0 D)).1.len) ?_
  intro hol
  refine dZ uE D D (eO kY 0 D D D (W (dP kF D) D (bS D (bU (bP ?_)))))
  refine dS (γ:=Nat) (fun (q:Nat)=>q<=nt/\bQ7 on=scanE onE (prevOf on q) (on.drop q)) (fun (q:Nat)=> [(0,H (some ⟨b,off,none⟩) n c0),(4,.pointer (some ⟨g1,0,none⟩)),(10,H (some ⟨b,off,none⟩) n c0),(11,I n),(12,I k),(34,H At nt ct),(35,I nt),(36,I q)]) (fun (q:Nat)=>fun _=>True) (fun (q:Nat)=> [(g1,212, [U key,J mi,H At nt ct,.bool ov])]) (fun (q:Nat)=> []) (fun (q:Nat)=> [bT mW 1 3 w.heap.size none At nt on,bT kD 4 212 w.heap.size none (some ⟨b,off,none⟩) n l,nC w.heap.size none l]) (fun (q:Nat)=>nt - q) 0 ⟨Nat.zero_le _,D⟩ ⟨D,D,D,D,D,D,D,D,bB⟩ (fun _ hm=>hm.pick [0] [] [0,1,2] D D) ?_
  intro q bZ
  replace bZ:q<=nt/\bQ7 on=scanE onE (prevOf on q) (on.drop q):=bZ
  refine bX ?_
  have hin:=bZ
  refine W (dF D D) D (bU (bJ ?_))
  refine cN D (fun hq=>?_) (fun hq=>?_)
  ·refine bN (bG (bJ (bP (bX ?_))))
   refine eB (R:=SlT mW 1 3 w At nt on) (fun wx hm=>hg _ (fZ9 hx)) ?_
   intro hso
   obtain ⟨b2,o2,hA,_,_⟩:=hso.get G
   subst hA
   obtain ⟨z0,hy⟩:∃x,on[q]?=some x:=⟨_,fY9 G⟩
   have han:=scanE_at onE on q _ hy
   refine bS D (W (bV (j:=q) kF D D G) D (W (dH (k:=0) (v:=J z0) fM D (fun _ hm=>(hm.fact 0 D).1) hy D D) D (cG D (cG D (bU (bP (bX (bS D (W (eT D D) D (bS D ?_))))))))))
   rcases Bool.eq_false_or_eq_true (decide (z0=5)) with h5|h5
   ·refine bO 44 D (fW9 h5) ?_
    replace h5:z0=5:=of_decide_eq_true h5
    refine eE D (eE D (eE D (mS D D (cG D (bU (mT D (bX (cG D (bU (bR (C (C (F (F (C (C (F (F (C (F ?_))))))))))))))))))))
    have hE:onE (prevOf on q) z0=4:=by unfold onE;simp [h5]
    have hE2:bQ7 on=4:=by rw [hin.2,han,if_neg (by rw [hE];decide),hE]
    exact bQ D D fun wx hm=>⟨cL (by rw [hout.2,hat,if_neg (by rw [hEo,hE2];decide),hEo,hE2]),hm.g⟩
   refine bO 44 D (fW9 h5) ?_
   replace h5:¬z0=5:=of_decide_eq_false h5
   refine eN D (bS D (eN D (dC D pS D D (fun wx hm=>(in_any _ _ _ wx)) (eN D (W (cS D) D (nV D D (cG D (bU ?_))))))))
   refine dE D (fun hh=>?_) (fun hh=>?_)
   ·have h6:(inB z0 1 6)=false:=by simpa using hh
    refine bX (cG D (bU (bR (C (C (F (F (C (C (F (F (C (F ?_)))))))))))))
    have hE:onE (prevOf on q) z0=4:=by unfold onE;simp [h5,h6]
    have hE2:bQ7 on=4:=by rw [hin.2,han,if_neg (by rw [hE];decide),hE]
    exact bQ D D fun wx hm=>⟨cL (by rw [hout.2,hat,if_neg (by rw [hEo,hE2];decide),hEo,hE2]),hm.g⟩
   have h6:(inB z0 1 6)=true:=by simpa using hh
   refine bX ?_
   by_cases hq0:q=0
   ·have hO:onB (prevOf on q) z0=false:=by rw [pM hq0];rfl
    refine bS D (W (eM D D) D (bO 51 (v':= .bool false) D (fW9 (decide_eq_false G)) (bS D (eE D (eE D (eE D (eE D (eE D (eE D (eE D (eE D (nV D D (cG D (bU (jK D (bN (bK (bK (bG (bM (fY D D (bS D (bH ?_)))))))))))))))))))))))
    have hE:onE (prevOf on q) z0=0:=by unfold onE;simp [h5,h6,hO]
    exact cQ (q+1) ⟨G,by rw [hin.2,han,if_pos hE]⟩ G ⟨D,D,D,D,D,D,D,(cP G),bB⟩ (fun _ hm=>hm.pick [0] [] [0,1,2] D D)
   obtain ⟨z1,hz⟩:∃x,on[q - 1]?=some x:=⟨_,fY9 G⟩
   refine bS D (W (eM D D) D (bO 51 (v':= .bool true) D (fW9 (decide_eq_true G)) (bS D (eN D (bS D (eN D (dZ uE D D (eN D (eO kY 0 D D D (eN D (bS D (eN D (W (ov_sub D D G G) D (bO 57 (v':=I (q - 1)) D (fX9 G) (eN D (W (bV (j:=q - 1) kF D D G) D (eN D (W (dH (k:=0) (v:=J z1) fM D (fun _ hm=>(hm.fact 0 D).1) hz D D) D (eN D (W (mJ D D) D (mS D D (cG D (bU ?_)))))))))))))))))))))))
   refine cN D (fun h7=>?_) (fun h7=>?_)
   ·refine bX ?_
    have hO:onB (prevOf on q) z0=true:=by rw [jZ hq0 hz];exact decide_eq_true h7
    refine cG D (bU (bR (C (C (F (F (C (C (F (F (C (F ?_))))))))))))
    have hE:onE (prevOf on q) z0=7:=by unfold onE;simp [h5,h6,hO]
    have hE2:bQ7 on=7:=by rw [hin.2,han,if_neg (by rw [hE];decide),hE]
    exact bQ D D fun wx hm=>⟨cL (by rw [hout.2,hat,if_neg (by rw [hEo,hE2];decide),hEo,hE2]),hm.g⟩
   refine bN (bK (bK (bG (bM ?_))))
   have hO:onB (prevOf on q) z0=false:=by rw [jZ hq0 hz];exact decide_eq_false h7
   refine fY D D (bS D (bH ?_))
   have hE:onE (prevOf on q) z0=0:=by unfold onE;simp [h5,h6,hO]
   exact cQ (q+1) ⟨G,by rw [hin.2,han,if_pos hE]⟩ G ⟨D,D,D,D,D,D,D,(cP G),bB⟩ (fun _ hm=>hm.pick [0] [] [0,1,2] D D)
  refine dD (bI (bI (bY (bK (bG (bM (fY D D (bS D (bH ?_)))))))))
  have hE:xC (l.take k) ⟨key,mi,At,nt,ct,on,ov⟩=0:=by rw [hEo,hin.2,scanE_end _ _ _ _ G]
  exact cQ (k+1) ⟨G,by rw [hout.2,hat,if_pos hE]⟩ G ⟨D,D,D,(cP G),bB⟩ (fun _ hm=>hm.pick [] [] [1,2] D D)
 refine dD (bI (bI (bY (bG (bX (cG D (bU (bR ?_))))))))
 exact bQ D D fun wx hm=>⟨cL (by rw [bZ.2,dW0 G]),hm.g⟩
theorem dG8(key:M)(mi:Int)(At:Option Addr)(nt ct:Nat)(on:List Int)(ov:Bool)(gk:Nat)(k0:M)(k1:Int)(k2:Option Addr)(k3 k4:Nat)(k5:Bool)(w:World)(hk:Blk w gk 212 [U k0,J k1,H k2 k3 k4,.bool k5]):
 Calls prog 122 #[.agg #[U key,J mi,H At nt ct,.bool ov],.pointer (some ⟨gk,0,none⟩)] w (fun e w'=>e=.returned (.bool (wB k0 ⟨key,mi,At,nt,ct,on,ov⟩))/\w.grownBy w' none):=by
 refine cY ⟨9,w,none, []⟩ func122 D ntmps122 D (fZ (X:= [eC w.heap.size none gk 212 [U k0,J k1,H k2 k3 k4,.bool k5]]) (cC hk.old cZ) (cE eC.lasts dA)) (bX (fS D D D fun g1=>cG D (bU (bX (dZ zG D D (eO fR 0 D D D (dZ zG D D (W (cH (v:=U k0) fR D (fun _ hm=>(hm.fact 0 D).2) D) D (W (eS D D) D (cG D (bU (bR ?_))))))))))))
 exact bQ D D fun wx hm=>⟨D,hm.g⟩
theorem dQ2(l:List Tx)(A:Option Addr)(n c0:Nat)(gk:Nat)(k0:M)(k1:Int)(k2:Option Addr)(k3 k4:Nat)(k5:Bool)(w:World)(hl:SlT kD 4 212 w A n l)(hn:n<=1000000)(hk:Blk w gk 212 [U k0,J k1,H k2 k3 k4,.bool k5]):
 Calls prog 168 #[H A n c0,.func (.func 122) #[] #[.pointer (some ⟨gk,0,none⟩)]] w (nG w (kL (wB k0) l 0)):=by
 refine cY ⟨19,w,none, []⟩ func168 D ntmps168 D (fZ (X:= [bT kD 4 212 w.heap.size none A n l,eC w.heap.size none gk 212 [U k0,J k1,H k2 k3 k4,.bool k5]]) (cC hl.old (cC hk.old cZ)) (cE bT.lasts (cE eC.lasts dA))) (bX ?_)
 have hlen:=hl.len
 refine cG D (bU (bJ (bX (bS D (W (dP bT3 D) D (bS D (bU (bP ?_))))))))
 refine dS (γ:=Nat) (fun (i:Nat)=>i<=n/\kL (wB k0) l 0=kL (wB k0) (l.drop i) i) (fun (i:Nat)=> [(0,H A n c0),(1,.func (.func 122) #[] #[.pointer (some ⟨gk,0,none⟩)]),(7,I n),(8,I i)]) (fun (i:Nat)=>fun _=>True) (fun (i:Nat)=> []) (fun (i:Nat)=> []) (fun (i:Nat)=> [bT kD 4 212 w.heap.size none A n l,eC w.heap.size none gk 212 [U k0,J k1,H k2 k3 k4,.bool k5]]) (fun (i:Nat)=>n - i) 0 ⟨Nat.zero_le _,D⟩ ⟨D,D,D,D,bB⟩ (fun _ hm=>hm.pick [] [] [0,1] D D) ?_
 intro i bZ
 replace bZ:i<=n/\kL (wB k0) l 0=kL (wB k0) (l.drop i) i:=bZ
 refine bX (W (dF D D) D (bU (bJ ?_)))
 refine cN D (fun hi=>?_) (fun hi=>?_)
 ·refine bN (bG (bJ (bP (bX ?_))))
  obtain ⟨b,off,hA,_,_⟩:=hl.get G
  subst hA
  obtain ⟨x,hx⟩:∃x,l[i]?=some x:=⟨_,fY9 G⟩
  obtain ⟨key,mi,At,nt,ct,on,ov⟩:=x
  have hat:=bS1 (p:=wB k0) hx
  refine bS D (cG D (bU (bX (bS D (bS D (bS D (W (bV (j:=i) bT3 D D G) D (W (dR (vs:= [U key,J mi,H At nt ct,.bool ov]) bT8 D (fun _ hm=>(hm.fact 0 D).1) hx D D) D (cR D fN3 D D (fun wx hm=>(dG8 key mi At nt ct on ov gk k0 k1 k2 k3 k4 k5 wx (hm.fact 1 D).2)) (bU ?_))))))))))
  refine dE D (fun hh=>?_) (fun hh=>?_)
  ·have hq:(wB k0 ⟨key,mi,At,nt,ct,on,ov⟩)=true:=by simpa using hh
   refine bX (bS D (cG D (bU (bR (C (F (F (C (F ?_)))))))))
   exact bQ D D fun wx hm=>⟨cL (by rw [bZ.2,hat,if_pos hq]),hm.g⟩
  have hq:(wB k0 ⟨key,mi,At,nt,ct,on,ov⟩)=false:=by simpa using hh
  refine bN (bK (bG (bM (fY D D (bS D (bH ?_))))))
  exact cQ (i+1) ⟨G,by rw [bZ.2,hat,if_neg (by rw [hq];decide)]⟩ G ⟨D,D,D,(cP G),bB⟩ (fun _ hm=>hm.pick [] [] [0,1] D D)
 refine dD (bI (bI (bY (bG (bX (cG D (bO 4 (v':=J (-1)) D D (bU (bR ?_)))))))))
 exact bQ D D fun wx hm=>⟨cL (by rw [bZ.2,List.drop_eq_nil_of_le G];rfl),hm.g⟩
theorem eV1(l:List Tx)(A:Option Addr)(n c0:Nat)(gk:Nat)(k0:M)(k1:Int)(k2:Option Addr)(k3 k4:Nat)(k5:Bool)(w:World)(hl:SlT kD 4 212 w A n l)(hn:n<=1000000)(hk:Blk w gk 212 [U k0,J k1,H k2 k3 k4,.bool k5]):
 Calls prog 121 #[H A n c0,.func (.func 122) #[] #[.pointer (some ⟨gk,0,none⟩)]] w (fun e w'=>e=.returned (.bool (l.any (wB k0)))/\w.grownBy w' none):=by
 refine cY ⟨9,w,none, []⟩ func121 D ntmps121 D (fZ (X:= [bT kD 4 212 w.heap.size none A n l,eC w.heap.size none gk 212 [U k0,J k1,H k2 k3 k4,.bool k5]]) (cC hl.old (cC hk.old cZ)) (cE bT.lasts (cE eC.lasts dA))) (bX (cG D (bU (bX (bS D (bS D (cR D eV8 D D (fun wx hm=>(dQ2 l A n c0 gk k0 k1 k2 k3 k4 k5 wx (hm.fact 0 D).1 hn (hm.fact 1 D).2)) (W (mE D D) D (cG D (bU (bR ?_)))))))))))
 exact bQ D D fun wx hm=>⟨by rw [<-cB7],hm.g⟩
theorem cJ2(l:List Tx)(A:Option Addr)(n c0:Nat)(w:World)(hl:SlT kD 4 212 w A n l)(hg:Ons l w)(hok:∀x∈l,wN x)(hn:n<=1000000)(hc:n<=c0):
 Calls prog 81 #[H A n c0] w (nG w (xB l)):=by
 refine cY ⟨62,w,none, []⟩ func81 D ntmps81 D (fZ (X:= [bT kD 4 212 w.heap.size none A n l,nC w.heap.size none l]) (cC hl.old (cC hg.old cZ)) (cE bT.lasts (cE nC.lasts dA))) (bX ?_)
 have hlen:=hl.len
 refine cG D (bU (bJ (bX (bS D (W (dP bT3 D) D (W (eM D D) D (bU ?_)))))))
 refine cN D (fun h1=>?_) (fun h1=>?_)
 ·refine bX (cG D (bU ?_))
  refine bR (F ?_)
  exact bQ D D fun wx hm=>⟨cL (by unfold xB;rw [if_pos G]),hm.g⟩
 refine bN (bG (bJ (bX (bS D (W (dP bT3 D) D (bS D (bU (bP ?_))))))))
 obtain ⟨TE,hTE⟩:∃E,E=xB l:=⟨_,rfl⟩
 rw [<-hTE]
 refine dS (γ:=Nat) (fun (k:Nat)=>k<=n/\TE=cS7 (l.take k) (l.drop k)) (fun (k:Nat)=> [(0,H A n c0),(10,H A n c0),(11,I n),(12,I k)]) (fun (k:Nat)=>fun _=>True) (fun (k:Nat)=> []) (fun (k:Nat)=> []) (fun (k:Nat)=> [bT kD 4 212 w.heap.size none A n l,nC w.heap.size none l]) (fun (k:Nat)=>n - k) 0 ⟨Nat.zero_le _,by rw [hTE];unfold xB;rw [if_neg G];rfl⟩ ⟨D,D,D,D,bB⟩ (fun _ hm=>hm.pick [] [] [0,1] D D) ?_
 intro k bZ
 replace bZ:k<=n/\TE=cS7 (l.take k) (l.drop k):=bZ
 refine bX (W (dF D D) D (bU (bJ ?_)))
 refine cN D (fun hk=>?_) (fun hk=>?_)
 ·refine bN (bG (bJ (bP (bX ?_))))
  obtain ⟨b,off,hA,_,_⟩:=hl.get G
  subst hA
  obtain ⟨x,hx⟩:∃x,l[k]?=some x:=⟨_,fY9 G⟩
  obtain ⟨key,mi,At,nt,ct,on,ov⟩:=x
  have hat:=dG6 hx
  obtain ⟨hk1,hnt⟩:=hok _ (fZ9 hx)
  have hk1:key.size<=1000000:=hk1
  have hnt:nt<=1000:=hnt
  have hout:=bZ
  refine bS D (W (bV (j:=k) bT3 D D G) D (W (dR (vs:= [U key,J mi,H At nt ct,.bool ov]) bT8 D (fun _ hm=>(hm.fact 0 D).1) hx D D) D (dM eJ4 D fun g1=>cG D (kE (cs':= [U key,J mi,H At nt ct,.bool ov]) 0 bT8 D D D D (bU (bJ (bP (bX (dZ zG D D (eO fR 0 D D D (cR D cQ8 D D (fun wx hm=>(xM _ wx G)) (W (cS D) D (cG D (bU ?_))))))))))))))
  refine dE D (fun hh=>?_) (fun hh=>?_)
  ·have h2:(keyB key)=false:=by simpa using hh
   refine bX (cG D (bU (bR (C (F (C (F (F (C (F ?_))))))))))
   have hE:xC (l.take k) ⟨key,mi,At,nt,ct,on,ov⟩=5:=by unfold xC;simp [h2]
   exact bQ D D fun wx hm=>⟨cL (by rw [hout.2,hat,if_neg (by rw [hE];decide),hE]),hm.g⟩
  have h2:(keyB key)=true:=by simpa using hh
  refine bX (bS D (bS D (W (qN (hi:=k) bT3 D D D G) D (W (pL D D) D (cR D eO8 D D (fun wx hm=>(eV1 (l.take k) _ k c0 _ _ _ _ _ _ _ wx (SlT.takeT (hm.fact 0 D).1 G) G (hm.blkI 0 D))) (cG D (bU ?_)))))))
  refine dE D (fun hh=>?_) (fun hh=>?_)
  ·have h3:((l.take k).any (wB key))=true:=by simpa using hh
   refine bX (cG D (bU (bR (C (F (C (F (F (C (F ?_))))))))))
   have hE:xC (l.take k) ⟨key,mi,At,nt,ct,on,ov⟩=6:=by unfold xC;simp [h2,h3]
   exact bQ D D fun wx hm=>⟨cL (by rw [hout.2,hat,if_neg (by rw [hE];decide),hE]),hm.g⟩
  have h3:((l.take k).any (wB key))=false:=by simpa using hh
  refine bX (dZ cL6 D D (eO fM 0 D D D (dC D bT4 D D (fun wx hm=>(kM _ _ _ wx)) (W (cS D) D (cG D (bU ?_))))))
  refine dE D (fun hh=>?_) (fun hh=>?_)
  ·have h4:(inB mi 0 1000)=false:=by simpa using hh
   refine bX (cG D (bU (bR (C (F (C (F (F (C (F ?_))))))))))
   have hE:xC (l.take k) ⟨key,mi,At,nt,ct,on,ov⟩=1:=by unfold xC;simp [h2,h3,h4]
   exact bQ D D fun wx hm=>⟨cL (by rw [hout.2,hat,if_neg (by rw [hE];decide),hE]),hm.g⟩
  have h4:(inB mi 0 1000)=true:=by simpa using hh
  refine bN (bK (bG (bX ?_)))
  have hEo:xC (l.take k) ⟨key,mi,At,nt,ct,on,ov⟩=bQ7 on:=by unfold xC;simp [h2,h3,h4]
  refine bY9 (Y:=bT mW 1 3 w.heap.size none At nt on) (bT.lasts) (fun wx hm=>(hm.fact 1 D) _ (fZ9 hx)) ?_
  refine eB (R:=on.length=nt) (fun wx hm=>((hm.fact 0 D)).1.len) ?_
  intro hol
  refine dZ uE D D (eO kY 0 D D D (W (dP kF D) D (bS D (bU (bP ?_)))))
  refine dS (γ:=Nat) (fun (q:Nat)=>q<=nt/\bQ7 on=scanE onE (prevOf on q) (on.drop q)) (fun (q:Nat)=> [(0,H (some ⟨b,off,none⟩) n c0),(4,.pointer (some ⟨g1,0,none⟩)),(10,H (some ⟨b,off,none⟩) n c0),(11,I n),(12,I k),(34,H At nt ct),(35,I nt),(36,I q)]) (fun (q:Nat)=>fun _=>True) (fun (q:Nat)=> [(g1,212, [U key,J mi,H At nt ct,.bool ov])]) (fun (q:Nat)=> []) (fun (q:Nat)=> [bT mW 1 3 w.heap.size none At nt on,bT kD 4 212 w.heap.size none (some ⟨b,off,none⟩) n l,nC w.heap.size none l]) (fun (q:Nat)=>nt - q) 0 ⟨Nat.zero_le _,D⟩ ⟨D,D,D,D,D,D,D,D,bB⟩ (fun _ hm=>hm.pick [0] [] [0,1,2] D D) ?_
  intro q bZ
  replace bZ:q<=nt/\bQ7 on=scanE onE (prevOf on q) (on.drop q):=bZ
  refine bX ?_
  have hin:=bZ
  refine W (dF D D) D (bU (bJ ?_))
  refine cN D (fun hq=>?_) (fun hq=>?_)
  ·refine bN (bG (bJ (bP (bX ?_))))
   refine eB (R:=SlT mW 1 3 w At nt on) (fun wx hm=>hg _ (fZ9 hx)) ?_
   intro hso
   obtain ⟨b2,o2,hA,_,_⟩:=hso.get G
   subst hA
   obtain ⟨z0,hy⟩:∃x,on[q]?=some x:=⟨_,fY9 G⟩
   have han:=scanE_at onE on q _ hy
   refine bS D (W (bV (j:=q) kF D D G) D (W (dH (k:=0) (v:=J z0) fM D (fun _ hm=>(hm.fact 0 D).1) hy D D) D (cG D (cG D (bU (bJ (bX (bS D (dC D bT4 D D (fun wx hm=>(kM _ _ _ wx)) (W (cS D) D (bS D ?_)))))))))))
   rcases Bool.eq_false_or_eq_true (!(inB z0 1 6)) with h5|h5
   ·refine bO 44 D (fW9 h5) ?_
    refine eE D (eE D (mS D D (bU (mT D (bX (cG D (bU (bR (F (C (F (F (C (C (F (F (C (F ?_))))))))))))))))))
    have hE:onE (prevOf on q) z0=4:=by unfold onE;simp [h5]
    have hE2:bQ7 on=4:=by rw [hin.2,han,if_neg (by rw [hE];decide),hE]
    exact bQ D D fun wx hm=>⟨cL (by rw [hout.2,hat,if_neg (by rw [hEo,hE2];decide),hEo,hE2]),hm.g⟩
   refine bO 44 D (fW9 h5) (eN D (bS D (eN D (W (eT D D) D (nV D D (bU ?_))))))
   refine cN D (fun h6=>?_) (fun h6=>?_)
   ·refine bX (cG D (bU ?_))
    refine bR (F (C (F (F (C (C (F (F (C (F ?_))))))))))
    have hE:onE (prevOf on q) z0=4:=by unfold onE;simp [h6]
    have hE2:bQ7 on=4:=by rw [hin.2,han,if_neg (by rw [hE];decide),hE]
    exact bQ D D fun wx hm=>⟨cL (by rw [hout.2,hat,if_neg (by rw [hEo,hE2];decide),hEo,hE2]),hm.g⟩
   refine bN (bG (bX ?_))
   by_cases hq0:q=0
   ·have hO:onB (prevOf on q) z0=false:=by rw [pM hq0];rfl
    refine bS D (W (eM D D) D (bO 49 (v':= .bool false) D (fW9 (decide_eq_false G)) (bS D (eE D (eE D (eE D (eE D (eE D (eE D (eE D (eE D (nV D D (bU (jK D (bN (bK (bG (bM (fY D D (bS D (bH ?_)))))))))))))))))))))
    have hE:onE (prevOf on q) z0=0:=by unfold onE;simp [h5,h6,hO]
    exact cQ (q+1) ⟨G,by rw [hin.2,han,if_pos hE]⟩ G ⟨D,D,D,D,D,D,D,(cP G),bB⟩ (fun _ hm=>hm.pick [0] [] [0,1,2] D D)
   obtain ⟨z1,hz⟩:∃x,on[q - 1]?=some x:=⟨_,fY9 G⟩
   refine bS D (W (eM D D) D (bO 49 (v':= .bool true) D (fW9 (decide_eq_true G)) (bS D (eN D (bS D (eN D (dZ uE D D (eN D (eO kY 0 D D D (eN D (bS D (eN D (W (ov_sub D D G G) D (bO 55 (v':=I (q - 1)) D (fX9 G) (eN D (W (bV (j:=q - 1) kF D D G) D (eN D (W (dH (k:=0) (v:=J z1) fM D (fun _ hm=>(hm.fact 0 D).1) hz D D) D (eN D (W (mJ D D) D (mS D D (bU ?_))))))))))))))))))))))
   refine cN D (fun h7=>?_) (fun h7=>?_)
   ·refine bX ?_
    have hO:onB (prevOf on q) z0=true:=by rw [jZ hq0 hz];exact decide_eq_true h7
    refine cG D (bU (bR (C (F (F (C (C (F (F (C (F ?_)))))))))))
    have hE:onE (prevOf on q) z0=7:=by unfold onE;simp [h5,h6,hO]
    have hE2:bQ7 on=7:=by rw [hin.2,han,if_neg (by rw [hE];decide),hE]
    exact bQ D D fun wx hm=>⟨cL (by rw [hout.2,hat,if_neg (by rw [hEo,hE2];decide),hEo,hE2]),hm.g⟩
   refine bN (bK (bG (bM ?_)))
   have hO:onB (prevOf on q) z0=false:=by rw [jZ hq0 hz];exact decide_eq_false h7
   refine fY D D (bS D (bH ?_))
   have hE:onE (prevOf on q) z0=0:=by unfold onE;simp [h5,h6,hO]
   exact cQ (q+1) ⟨G,by rw [hin.2,han,if_pos hE]⟩ G ⟨D,D,D,D,D,D,D,(cP G),bB⟩ (fun _ hm=>hm.pick [0] [] [0,1,2] D D)
  refine dD (bI (bI (bY (bK (bG (bM (fY D D (bS D (bH ?_)))))))))
  have hE:xC (l.take k) ⟨key,mi,At,nt,ct,on,ov⟩=0:=by rw [hEo,hin.2,scanE_end _ _ _ _ G]
  exact cQ (k+1) ⟨G,by rw [hout.2,hat,if_pos hE]⟩ G ⟨D,D,D,(cP G),bB⟩ (fun _ hm=>hm.pick [] [] [1,2] D D)
 refine dD (bI (bI (bY (bG (bX (cG D (bU (bR ?_))))))))
 exact bQ D D fun wx hm=>⟨cL (by rw [bZ.2,dW0 G]),hm.g⟩
def N3r:List M:= [⟨#[109,97,120,105]⟩,⟨#[109,105,100,105]⟩,⟨#[109,105,110,105]⟩]
theorem eN6:((List.range 3).all fun i=>N3r[i]?.elim true fun k=>keyB k&&(N3r.take i).all fun a=>ltS a k&& !eqS a k)=true:=by decide+kernel
theorem fB1{i:Nat}{k:M}(hk:N3r[i]?=some k):keyB k=true/\∀a∈N3r.take i,ltS a k=true/\eqS a k=false:=by
 have hi:i < 3:=(List.getElem?_eq_some_iff.1 hk).1
 have h1:=(List.all_eq_true.1 eN6) i (List.mem_range.2 hi)
 rw [hk] at h1
 have h2:(keyB k&&(N3r.take i).all fun a=>ltS a k&& !eqS a k)=true:=h1
 rw [Bool.and_eq_true] at h2
 refine ⟨h2.1,fun a ha=>?_⟩
 have h3:=(List.all_eq_true.1 h2.2) a ha
 rw [Bool.and_eq_true] at h3
 exact ⟨h3.1,by simpa using h3.2⟩
def RrG(k:Nat)(l:List Rt):Prop:=scanE gD none l=0/\∀x∈l,x.cls∈N3r.take k
def RrI(k:Nat)(nm:M)(fr:Int)(l:List Rt):Prop:=scanE gD none l=0/\∀x∈l,x.cls∈N3r.take k∨(x.cls=nm/\x.fr < fr/\x.to_<=fr)
theorem eX6{k:Nat}:RrG k []:=⟨rfl,fun _ h=>by cases h⟩
theorem dM8{k:Nat}{nm:M}{fr:Int}{l:List Rt}(h:RrG k l):RrI k nm fr l:=⟨h.1,fun x hx=> .inl (h.2 x hx)⟩
theorem dX5{k:Nat}{nm:M}{fr:Int}{l:List Rt}(h:RrI k nm fr l)(hk:N3r[k]?=some nm):RrG (k+1) l:=⟨h.1,fun x hx=>by
 rcases h.2 x hx with h|⟨h,_⟩
 ·exact bK3 h
 ·rw [h];exact bO8 hk⟩
theorem cA7{v a b:Int}(h1:a<=v)(h2:v<=b):¬inB v a b=false:=by
 rw [Bool.not_eq_false,nK];exact ⟨h1,h2⟩
theorem cS1{p:Option Rt}{r:Rt}(h1:keyB r.cls=true)(h2:0<=r.fr/\r.fr < r.to_/\r.to_<=4001)(h3: -1<=r.hr/\r.hr<=1000000)(h4: -1<=r.dy/\r.dy<=1000000)(h5: -1<=r.we/\r.we<=1000000)(h6: -1<=r.wk/\r.wk<=1000000)(hp:∀q,p=some q->bE3 q r=true/\(eqS q.cls r.cls&&decide (r.fr < q.to_))=false):gD p r=0:=by
 unfold gD
 rw [if_neg (by rw [h1];decide),if_neg G,if_neg (fun h=>by
  rcases h with h|h|h|h
  ·exact cA7 h3.1 h3.2 h
  ·exact cA7 h4.1 h4.2 h
  ·exact cA7 h5.1 h5.2 h
  ·exact cA7 h6.1 h6.2 h)]
 cases p with
 |none=>rfl
 |some q=>
  obtain ⟨g1,g2⟩:=hp q rfl
  show (if bE3 q r=false then 7 else if (eqS q.cls r.cls&&decide (r.fr < q.to_))=true then 13 else 0)=0
  rw [if_neg (by rw [g1];decide),if_neg (by rw [g2];decide)]
theorem eC3{k:Nat}{nm:M}{fr fr2 tq a b c d:Int}{l:List Rt}(h:RrI k nm fr l)(hk:N3r[k]?=some nm)(h2:0<=fr/\fr < tq/\tq<=4001)(h3: -1<=a/\a<=1000000)(h4: -1<=b/\b<=1000000)(h5: -1<=c/\c<=1000000)(h6: -1<=d/\d<=1000000)(hf:tq<=fr2):RrI k nm fr2 (l++ [⟨nm,fr,tq,a,b,c,d⟩]):=by
 obtain ⟨g1,g2⟩:=fB1 hk
 refine ⟨bH4 h.1 (cS1 g1 h2 h3 h4 h5 h6 (fun q e=>by cases e)) (fun y hy=>cS1 g1 h2 h3 h4 h5 h6 (fun q e=>?_)),fun x hx=>?_⟩
 ·injection e with e
  subst e
  rcases h.2 y hy with e|⟨e1,e2,e3⟩
  ·obtain ⟨q1,q2⟩:=g2 _ e
   unfold bE3
   dsimp only
   rw [q1,q2];exact ⟨rfl,rfl⟩
  ·unfold bE3
   dsimp only
   have q1:decide (y.fr < fr)=true:=decide_eq_true e2
   have q2:decide (fr < y.to_)=false:=decide_eq_false G
   have q3:eqS y.cls nm=true:=by rw [e1];unfold eqS;simp
   rw [q1,q2,q3]
   exact ⟨by simp,rfl⟩
 ·rcases List.mem_append.1 hx with hx|hx
  ·rcases h.2 x hx with e|⟨e1,e2,e3⟩
   ·exact .inl e
   ·exact .inr ⟨e1,G,G⟩
  ·rw [List.mem_singleton.1 hx];exact .inr ⟨rfl,bE,hf⟩
theorem dL8{k:Nat}{l:List Rt}(h:RrG k l)(hl:l.length<=200):qE l=0:=by
 unfold qE
 rw [if_neg G];exact h.1
def fO1(x:M):List Value:= [U x]
theorem eY6(x:M):(fO1 x).length=1:=rfl
def RtG(x:Rt):Prop:=x.cls.size<=1000000/\x.hr<=10
theorem fR5{l:List Rt}(h:∀y∈l,RtG y):∀y∈l,cV2 y:=fun y hy=>(h y hy).1
def RtB(x:Rt):Prop:=x.cls.size<=100/\(-2000000000000000<=x.fr/\x.fr<=2000000000000000)/\(-2000000000000000<=x.to_/\x.to_<=2000000000000000)/\(-2000000000000000<=x.hr/\x.hr<=2000000000000000)/\(-2000000000000000<=x.dy/\x.dy<=2000000000000000)/\(-2000000000000000<=x.we/\x.we<=2000000000000000)/\(-2000000000000000<=x.wk/\x.wk<=2000000000000000)
def RtH(x:Rt):Prop:=x.hr<=10/\RtB x
theorem fP1{x:Rt}(h:RtB x):cV2 x:=by
 have h1:=h.1
 show x.cls.size<=1000000
 omega
theorem eF9{l:List Rt}(h:∀y∈l,RtH y):∀y∈l,RtG y:=fun y hy=>⟨fP1 (h y hy).2,(h y hy).1⟩
theorem dY5{l:List Rt}{x:Rt}(h:∀y∈l,RtH y)(hx:RtH x):∀y∈l++ [x],RtH y:=fun y hy=>by
 rcases List.mem_append.1 hy with hy|hy
 ·exact h y hy
 ·rw [List.mem_singleton.1 hy];exact hx
theorem cM7{l:List Rt}{x:Rt}{j:Nat}(h:∀y∈l,RtH y)(hx:RtH x):∀y∈l.set j x,RtH y:=fun y hy=>by
 rcases List.mem_or_eq_of_mem_set hy with hy|rfl
 ·exact h y hy
 ·exact hx
theorem bI3(w:World)(B sb m:Nat)(hS:fQ 25 w B sb m)(hm:m<=100000000000):
 Calls prog 42 #[.pointer (some ⟨sb,0,none⟩)] w (fun e w'=>∃(A:Option Addr) (n c:Nat) (l:List Rt),e=.returned (H A n c)/\w'.ownsRow w.heap.size 168 7 (H A n c) n (l.flatMap mG)/\(∀x∈l,RtH x)/\l.length=n/\n<=9/\qE l=0/\fQ 25 w' B sb (m+120)/\w.grownBy w' (some sb)):=by
 refine cY ⟨64,w,(some sb), []⟩ func42 D ntmps42 D (bU5 (X:= []) hS cZ dA) (bX (cG D (bU (bX (cG D (bU (bJ (bX (jN 9 [U ⟨#[109,97,120,105]⟩,U ⟨#[109,105,100,105]⟩,U ⟨#[109,105,110,105]⟩] fun g1=>W (dP mD D) D (bO 9 (v':=J 3) D D (bS D (bU (bP ?_)))))))))))))
 refine qU 168 7 ?_
 refine dS (γ:=Nat×Nat×Value×List Rt×List Value) (fun g=>g.1<=3/\g.2.1<=3 *g.1/\g.2.2.2.1.length=g.2.1/\(∀x∈g.2.2.2.1,RtH x)/\RrG g.1 g.2.2.2.1/\g.2.2.2.2=g.2.2.2.1.flatMap mG) (fun g=> [(0,.pointer (some ⟨sb,0,none⟩)),(2,H none 0 0),(3,g.2.2.1),(8,H (some ⟨g1,0,none⟩) 3 3),(9,J 3),(10,I (g.1))]) (fun g=>fun w=>fQ 25 w B sb (m+40 *g.1)) (fun g=> [(g1,9, [U ⟨#[109,97,120,105]⟩,U ⟨#[109,105,100,105]⟩,U ⟨#[109,105,110,105]⟩])]) (fun g=> [⟨g.2.2.1,168,7,g.2.1,g.2.2.2.2⟩]) (fun g=> []) (fun g=>3 - g.1) (0,0,H none 0 0, [], []) ⟨Nat.zero_le _,Nat.zero_le _,D,(fun _ h=>by cases h),eX6,D⟩ ⟨D,D,D,D,D,D,bB⟩ (fun _ hm=>(hm.more D (by first|omega|(dsimp only;omega))).pick [0] [0] [] D D) ?_
 rintro ⟨k,n,v,l,xs⟩ bZ
 replace bZ:k<=3/\n<=3 *k/\l.length=n/\(∀x∈l,RtH x)/\RrG k l/\xs=l.flatMap mG:=bZ
 dsimp only
 refine bX ?_
 obtain ⟨hi0,hi1,zI,hi3,hrr,rfl⟩:=bZ
 refine W (dF D D) D (bU (bJ ?_))
 refine cN D (fun hk=>?_) (fun hk=>?_)
 ·refine bN (bG (bJ (bP (bX ?_))))
  obtain ⟨nm,hx⟩:∃x,([⟨#[109,97,120,105]⟩,⟨#[109,105,100,105]⟩,⟨#[109,105,110,105]⟩]:List M)[k]?=some x:=⟨_,fY9 (by simp;omega)⟩
  have hnm:nm.size<=100:=kX (fZ9 hx) bD
  refine W (bV (j:=k) mD D D G) D (W (dH (k:=0) (v:=U nm) fR D (fun _ hm=>(SlT.ofBlk (l:= [⟨#[109,97,120,105]⟩,⟨#[109,105,100,105]⟩,⟨#[109,105,110,105]⟩]) eY6 (hm.blkI 0 D))) hx D D) D (cG D (bU (bX (bS D (jN 3 [J 0,J 0,J 0,J 3] fun g2=>dX (γ:=Int) (val:=fun v=>J v) (φ:=fun v=>v∈([0,0,0,3]:List Int)) D uN D D D D (fun wx hm=>(fV [0,0,0,3] _ _ _ wx B sb _ hm.k G (by simp) (by simp) (hm.blkI 0 D) (hm.neRow 0 D D))) fun v3 hv3=>?_))))))
  have bv3:0<=v3/\v3<=3:=jP hv3 bD
  have bv30:=bv3.1
  have bv31:=bv3.2
  clear bv3
  refine cG D (bU (bX (bS D (jN 3 [J 0,J 1,J 1,J 2,J 3] fun g4=>dX (γ:=Int) (val:=fun v=>J v) (φ:=fun v=>v∈([0,1,1,2,3]:List Int)) D uN D D D D (fun wx hm=>(fV [0,1,1,2,3] _ _ _ wx B sb _ hm.k G (by simp) (by simp) (hm.blkI 0 D) (hm.neRow 0 D D))) fun v5 hv5=>?_))))
  have bv5:0<=v5/\v5<=3:=jP hv5 bD
  have bv50:=bv5.1
  have bv51:=bv5.2
  clear bv5
  refine bS D (bU (bP ?_))
  refine dS (γ:=Nat×Int×Nat×Value×List Rt×List Value) (fun (g9:Nat×Int×Nat×Value×List Rt×List Value)=>(g9.1:Int)<=v5/\(0<=g9.2.1/\g9.2.1<=5000)/\g9.2.2.1<=3 *k+g9.1/\g9.2.2.2.2.1.length=g9.2.2.1/\(∀x∈g9.2.2.2.2.1,RtH x)/\RrI k nm g9.2.1 g9.2.2.2.2.1/\g9.2.2.2.2.2=g9.2.2.2.2.1.flatMap mG) (fun (g9:Nat×Int×Nat×Value×List Rt×List Value)=> [(0,.pointer (some ⟨sb,0,none⟩)),(2,H none 0 0),(3,g9.2.2.2.1),(5,U nm),(6,J g9.2.1),(8,H (some ⟨g1,0,none⟩) 3 3),(9,J 3),(10,I k),(19,J v5),(20,I (g9.1))]) (fun (g9:Nat×Int×Nat×Value×List Rt×List Value)=>fun w=>fQ 25 w B sb (m+40 *k+1+1+8 *g9.1)) (fun (g9:Nat×Int×Nat×Value×List Rt×List Value)=> [(g1,9, [U ⟨#[109,97,120,105]⟩,U ⟨#[109,105,100,105]⟩,U ⟨#[109,105,110,105]⟩])]) (fun (g9:Nat×Int×Nat×Value×List Rt×List Value)=> [⟨g9.2.2.2.1,168,7,g9.2.2.1,g9.2.2.2.2.2⟩]) (fun (g9:Nat×Int×Nat×Value×List Rt×List Value)=> []) (fun (g9:Nat×Int×Nat×Value×List Rt×List Value)=>(v5 - ((g9.1:Nat):Int)).toNat) (0,v3,n,v,l,l.flatMap mG) ⟨bE,⟨bE,bE⟩,bE,zI,hi3,dM8 hrr,rfl⟩ ⟨D,D,D,D,D,D,D,D,D,D,bB⟩ (fun _ hm=>(hm.more D (by first|omega|(dsimp only;omega))).pick [2] [0] [] D D) ?_
  rintro ⟨j,fr,n,v,l,xs⟩ bZ
  replace bZ:(j:Int)<=v5/\(0<=fr/\fr<=5000)/\n<=3 *k+j/\l.length=n/\(∀x∈l,RtH x)/\RrI k nm fr l/\xs=l.flatMap mG:=bZ
  dsimp only
  refine bX ?_
  obtain ⟨hj0,hj1,hj2,hj3,hj4,hjr,rfl⟩:=bZ
  refine W (dF D D) D (bU (bJ ?_))
  refine cN D (fun hj=>?_) (fun hj=>?_)
  ·refine bN (bG (bJ (bP (bX (bS D (bS D (bS D (bS D ?_))))))))
   refine jN 3 [J 1,J 5,J 20,J 4000] fun g6=>dX (γ:=Int) (val:=fun v=>J v) (φ:=fun v=>v∈([1,5,20,4000]:List Int)) D uN D D D D (fun wx hm=>(fV [1,5,20,4000] _ _ _ wx B sb _ hm.k G (by simp) (by simp) (hm.blkI 0 D) (hm.neRow 0 D D))) fun v7 hv7=>?_
   have bv7:1<=v7/\v7<=4000:=jP hv7 bD
   have bv70:=bv7.1
   have bv71:=bv7.2
   clear bv7
   refine fY D D (bS D (jN 3 [J (-1),J 5,J 10,J 10,J 0] fun g8=>dX (γ:=Int) (val:=fun v=>J v) (φ:=fun v=>v∈([-1,5,10,10,0]:List Int)) D uN D D D D (fun wx hm=>(fV [-1,5,10,10,0] _ _ _ wx B sb _ hm.k G (by simp) (by simp) (hm.blkI 0 D) (hm.neRow 0 D D))) fun v9 hv9=>?_))
   have bv9: -1<=v9/\v9<=10:=jP hv9 bD
   have bv90:=bv9.1
   have bv91:=bv9.2
   clear bv9
   refine bS D (jN 3 [J (-1),J 50,J 50,J 70,J 40] fun g10=>dX (γ:=Int) (val:=fun v=>J v) (φ:=fun v=>v∈([-1,50,50,70,40]:List Int)) D uN D D D D (fun wx hm=>(fV [-1,50,50,70,40] _ _ _ wx B sb _ hm.k G (by simp) (by simp) (hm.blkI 0 D) (hm.neRow 0 D D))) fun v11 hv11=>?_)
   have bv11: -1<=v11/\v11<=70:=jP hv11 bD
   have bv110:=bv11.1
   have bv111:=bv11.2
   clear bv11
   refine bS D (jN 3 [J (-1),J 70,J 90,J 100] fun g12=>dX (γ:=Int) (val:=fun v=>J v) (φ:=fun v=>v∈([-1,70,90,100]:List Int)) D uN D D D D (fun wx hm=>(fV [-1,70,90,100] _ _ _ wx B sb _ hm.k G (by simp) (by simp) (hm.blkI 0 D) (hm.neRow 0 D D))) fun v13 hv13=>?_)
   have bv13: -1<=v13/\v13<=100:=jP hv13 bD
   have bv130:=bv13.1
   have bv131:=bv13.2
   clear bv13
   refine bS D (jN 3 [J (-1),J 200,J 250,J 300] fun g14=>dX (γ:=Int) (val:=fun v=>J v) (φ:=fun v=>v∈([-1,200,250,300]:List Int)) D uN D D D D (fun wx hm=>(fV [-1,200,250,300] _ _ _ wx B sb _ hm.k G (by simp) (by simp) (hm.blkI 0 D) (hm.neRow 0 D D))) fun v15 hv15=>?_)
   have bv15: -1<=v15/\v15<=300:=jP hv15 bD
   have bv150:=bv15.1
   have bv151:=bv15.2
   clear bv15
   refine W (dL (cs:= [U nm,J fr,J (fr+v7),J v9,J v11,J v13,J v15]) D bC) D (dM dK1 D fun g16=>kE (cs':= [U nm,J fr,J (fr+v7),J v9,J v11,J v13,J v15]) 0 bY1 D D D D (bU (bX (dZ rL D D (eO fM 0 D D D (W (eW2 D D) D (dZ rL D D (fX 0 fM D D D D D D (bU (bJ (bX (dZ qT D D (eO fM 0 D D D (dZ rL D D (eO fM 0 D D D (W (mE D D) D (bU ?_)))))))))))))))))
   refine cN D (fun hb=>?_) (fun hb=>?_)
   ·refine dD ?_
    refine bI (bO7 D (bI (bI (bY (bK (bG (bM (fY D D (bS D (bH ?_))))))))))
    exact cQ (k+1,n,v,l,l.flatMap mG) ⟨bE,bE,hj3,hj4,dX5 hjr hx,rfl⟩ bE ⟨D,D,D,D,D,(cP G),bB⟩ (fun _ hm=>(hm.more D (by first|omega|(dsimp only;omega))).pick [6] [0] [] D D)
   refine bN (bG (bX (bS D (W (dG bY1 D (fun _ hm=>hm.blkI 0 D) D D) D (jN 168 [U nm,J fr,J (min (fr+v7) 4001),J v9,J v11,J v13,J v15] fun g17=>eP (news:= [U nm,J fr,J (min (fr+v7) 4001),J v9,J v11,J v13,J v15]) 0 0 fA3 D D D D D D D G (by unfold maxLen;omega) D D fun v2 xK=>cG D (bU (gd (fun wz=>Blk wz g16 168 [U nm,J fr,J (min (fr+v7) 4001),J v9,J v11,J v13,J v15]/\True) mixed (fun _ hm=>⟨hm.bl 1,bB⟩) fun z=>wq 0 D (bW rL D D) (wq 1 D (cH fM D (fun _ hm=>hm.1) D) (wq 2 D (bL D) (eD 3 D (jN 3 [J 0,J 0,J 0,J 2] fun g18=>bH (nw 7 15 (fun _ hm=>⟨hm.bl 2,bB⟩) fun z=>eD 4 D (dX (γ:=Int) (val:=fun v=>J v) (φ:=fun v=>v∈([0,0,0,2]:List Int)) D uN D D D D (fun wx hm=>(fV [0,0,0,2] _ _ _ wx B sb _ hm.k G (by simp) (by simp) (hm.blkI 0 D) (hm.neRow 0 D D))) fun v19 hv19=>?_)))))))))))))
   have bv19:0<=v19/\v19<=2:=jP hv19 bD
   have bv190:=bv19.1
   have bv191:=bv19.2
   clear bv19
   refine bH (nw 7 31 (fun _ hm=>⟨hm.bl 2,bB⟩) fun z=>wq 5 D (ov_add D D G G) (wq 6 D (dB D) (gY (bK (bG (bM (fY D D (bS D (bH ?_)))))))))
   exact cQ (j+1,(min (fr+v7) 4001)+v19,n+1,v2,l++ [⟨nm,fr,min (fr+v7) 4001,v9,v11,v13,v15⟩],l.flatMap mG++([U nm,J fr,J (min (fr+v7) 4001),J v9,J v11,J v13,J v15]:List Value)) ⟨bE,⟨bE,bE⟩,bE,by simp [hj3],dY5 hj4 ⟨bE,bE,⟨bE,bE⟩,⟨bE,bE⟩,⟨bE,bE⟩,⟨bE,bE⟩,⟨bE,bE⟩,⟨bE,bE⟩⟩,eC3 hjr hx G G G G G bE,by simp [mG]⟩ bE ⟨D,D,D,D,D,D,D,D,D,(cP G),bB⟩ (fun _ hm=>(hm.more D (by first|omega|(dsimp only;omega))).pick [8] [0] [] D D)
  refine dD (bI (bI (bY (bK (bG (bM (fY D D (bS D (bH ?_)))))))))
  exact cQ (k+1,n,v,l,l.flatMap mG) ⟨bE,bE,hj3,hj4,dX5 hjr hx,rfl⟩ bE ⟨D,D,D,D,D,(cP G),bB⟩ (fun _ hm=>(hm.more D (by first|omega|(dsimp only;omega))).pick [0] [0] [] D D)
 refine dD (bI (bI (bY (bG (bX (bS D (cG D (bU (bR ?_)))))))))
 refine eO6 (R:=∃A cc,v=H A n cc) (fun wx hm=>dW (hm.ownI 0 D)) ?_
 rintro ⟨A,c,rfl⟩
 exact bQ D D fun wx hm=>⟨A,n,c,l,D,hm.ownI 0 D,hi3,zI,G,dL8 hrr G,hm.k.more G,hm.g⟩
theorem cK3(w:World)(B sb m:Nat)(hS:fQ 25 w B sb m)(hm:m<=100000000000):
 Calls prog 42 #[.pointer (some ⟨sb,0,none⟩)] w (fun e w'=>∃(A:Option Addr) (n c:Nat) (l:List Rt),e=.returned (H A n c)/\w'.ownsRow w.heap.size 168 7 (H A n c) n (l.flatMap mG)/\(∀x∈l,RtH x)/\l.length=n/\n<=9/\fQ 25 w' B sb (m+120)/\w.grownBy w' (some sb)):=(bI3 w B sb m hS hm).mono fun _ _ ⟨A,n,c,l,he,ho,h1,h2,h3,_,h⟩=>⟨A,n,c,l,he,ho,h1,h2,h3,h⟩
theorem eS1(w:World)(B sb m:Nat)(hS:fQ 25 w B sb m)(hm:m<=100000000000):
 Calls prog 72 #[.pointer (some ⟨sb,0,none⟩)] w (fun e w'=>∃(A:Option Addr) (n c:Nat) (l:List Rt),e=.returned (H A n c)/\SlT mG 7 168 w' A n l/\(∀x∈l,RtH x)/\n<=10/\n<=c/\fQ 25 w' B sb (m+200)/\w.grownBy w' (some sb)):=by
 refine cY ⟨56,w,(some sb), []⟩ func72 D ntmps72 D (bU5 (X:= []) hS cZ dA) (bX (cG D (bU (bX (bS D ?_)))))
 refine dM9 (γ:=Option Addr×Nat×Nat×List Rt) (val:=(fun g=>H g.1 g.2.1 g.2.2.1)) (φ:=(fun g=>(∀x∈g.2.2.2,RtH x)/\g.2.2.2.length=g.2.1/\g.2.1<=9)) (m':=m+120) (fun g=>⟨H g.1 g.2.1 g.2.2.1,168,7,g.2.1,g.2.2.2.flatMap mG⟩) D fJ4 D D D D (fun wx hm=>(cK3 wx B sb _ hm.k G).mono fun _ _ ⟨A,n,c,l,he,ho,hok,hl,hn,hS,hg⟩=>⟨(A,n,c,l),he,⟨hok,hl,hn⟩,hS,hg,ho⟩) ?_
 rintro ⟨A,n,c,l⟩ mO
 dsimp only at mO ⊢
 obtain ⟨hi3,zI,hn⟩:=mO
 refine cG D (bU (bJ (bX (bS D (W (dP bF9 D) D (W (eM D D) D (bS D ?_)))))))
 rcases Bool.eq_false_or_eq_true (decide (0 < ((n:Nat):Int))) with hb|hb
 ·refine bO 10 D (fW9 hb) ?_
  have hk0:0 < n:=by simpa using hb
  refine eN D (bS D (eN D (dX (γ:=Bool) (val:=fun v=> .bool v) (φ:=fun v=>True) D bY6 D D D D (fun wx hm=>((mU _ wx B sb _ hm.k G G G).mono fun _ _ ⟨v,he,hS,hg⟩=>⟨v,bB,he,hS,hg⟩)) fun f1 _=>mS D D (bU ?_))))
  refine dE D (fun hh=>?_) (fun hh=>?_)
  ·have hf:f1=true:=by simpa using hh
   refine bX ?_
   refine eB (R:=∃g,A=some ⟨g,0,none⟩) (fun wx hm=>rG (hm.ownI 0 D) hk0) ?_
   rintro ⟨bo,rfl⟩
   refine bS D (bS D (bS D (W (dP bF9 D) D (dX (γ:=Int) (val:=fun v=>J v) (φ:=fun v=>pN ((n:Nat):Int) v) D cR5 D D D D (fun wx hm=>(pF _ wx B sb _ hm.k G G G)) fun vj hvj=>?_))))
   have hj:=rR hvj G
   obtain ⟨i,rfl⟩:=Int.eq_ofNat_of_zero_le hj.1
   have hij:i < n:=G
   obtain ⟨y,hy⟩:∃y,l[i]?=some y:=⟨_,fY9 G⟩
   obtain ⟨y0,y1,y2,y3,y4,y5,y6⟩:=y
   obtain ⟨hy3,hy0,hy1,hy2,hy4,hy5,hy6,hy7⟩:=hi3 _ (fZ9 hy)
   dsimp only at hy3 hy0 hy1 hy2 hy4 hy5 hy6 hy7
   obtain ⟨z,hz⟩:∃z,l[0]?=some z:=⟨_,fY9 G⟩
   obtain ⟨z0,z1,z2,z3,z4,z5,z6⟩:=z
   have hz0:=hi3 _ (fZ9 hz)
   refine W (bV (j:=i) bF9 D D G) D (cG D (bU (bX (bS D (dX (γ:=Int) (val:=fun v=>J v) (φ:=fun v=>pN 4 v) D cR5 D D D D (fun wx hm=>(pF _ wx B sb _ hm.k G G G)) fun vk hvk=>bU (bP (bX (W (eT D D) D (cG D (bU ?_))))))))))
   refine cN D (fun hc0=>?_) (fun hc0=>?_)
   ·refine bM (bS D (bS D ?_))
    refine jN 9 [U ⟨#[]⟩,U ⟨#[65]⟩,U ⟨#[109,105,110,105]⟩,U ⟨#[122,101,100]⟩] fun g2=>dX (γ:=M) (val:=fun v=>U v) (φ:=fun v=>v∈([⟨#[]⟩,⟨#[65]⟩,⟨#[109,105,110,105]⟩,⟨#[122,101,100]⟩]:List M)) D uU D D D D (fun wx hm=>(jE [⟨#[]⟩,⟨#[65]⟩,⟨#[109,105,110,105]⟩,⟨#[122,101,100]⟩] _ _ _ wx B sb _ hm.k G (by simp) (by simp) (hm.blkI 0 D) (hm.neRow 0 D D))) fun s3 hs3=>?_
    have zs3:s3.size<=100:=kX hs3 bD
    refine W (cU D) D (dZ pP D D (jG (l:=l) (j:=i) (r:=0) (el:=⟨y0,y1,y2,y3,y4,y5,y6⟩) (el':=⟨s3,y1,y2,y3,y4,y5,y6⟩) 0 fR D D D D wA D hy zI (show 0 < 7 by decide) D D (bH (bK (bG (bX (bS D (cG D (bU (bR ?_))))))))))
    exact bQ D D fun wx hm=>⟨some ⟨bo,0,none⟩,n,c,(l.set i ⟨s3,y1,y2,y3,y4,y5,y6⟩),D,SlT.ofOwn wA (hm.ownI 0 D) (by simp;exact zI),cM7 (hi3) ⟨bE,bE,⟨bE,bE⟩,⟨bE,bE⟩,⟨bE,bE⟩,⟨bE,bE⟩,⟨bE,bE⟩,⟨bE,bE⟩⟩,G,kK (hm.ownI 0 rfl),hm.k.more G,hm.g⟩
   refine bX (W (eT D D) D (cG D (bU ?_)))
   refine cN D (fun hc1=>?_) (fun hc1=>?_)
   ·refine bM (bS D (bS D (bS D ?_)))
    refine dX (γ:=Int) (val:=fun v=>J v) (φ:=fun v=> -2000000000000000<=v/\v<=2000000000000000) D bZ6 D D D D (fun wx hm=>(nL _ _ wx B sb _ hm.k G G G G)) fun v4 hv4=>bS D (dX (γ:=Int) (val:=fun v=>J v) (φ:=fun v=> -2000000000000000<=v/\v<=2000000000000000) D bZ6 D D D D (fun wx hm=>(nL _ _ wx B sb _ hm.k G G G G)) fun v5 hv5=>W (cU D) D (dZ qT D D (jG (l:=l) (j:=i) (r:=1) (el:=⟨y0,y1,y2,y3,y4,y5,y6⟩) (el':=⟨y0,v4,y2,y3,y4,y5,y6⟩) 0 fM D D D D wA D hy zI (show 1 < 7 by decide) D D (W (cU D) D (dZ rL D D ?_)))))
    refine jG (l:=(l.set i ⟨y0,v4,y2,y3,y4,y5,y6⟩)) (j:=i) (r:=2) (el:=⟨y0,v4,y2,y3,y4,y5,y6⟩) (el':=⟨y0,v4,v5,y3,y4,y5,y6⟩) 0 fM D D D D wA D (List.getElem?_set_self (by first|omega|(simp;omega))) (by simp;exact zI) (show 2 < 7 by decide) D D ?_
    refine bH (bK (bG (bX (bS D (cG D (bU (bR ?_)))))))
    exact bQ D D fun wx hm=>⟨some ⟨bo,0,none⟩,n,c,((l.set i ⟨y0,v4,y2,y3,y4,y5,y6⟩).set i ⟨y0,v4,v5,y3,y4,y5,y6⟩),D,SlT.ofOwn wA (hm.ownI 0 D) (by simp;exact zI),cM7 (cM7 (hi3) ⟨bE,bE,⟨bE,bE⟩,⟨bE,bE⟩,⟨bE,bE⟩,⟨bE,bE⟩,⟨bE,bE⟩,⟨bE,bE⟩⟩) ⟨bE,bE,⟨bE,bE⟩,⟨bE,bE⟩,⟨bE,bE⟩,⟨bE,bE⟩,⟨bE,bE⟩,⟨bE,bE⟩⟩,G,kK (hm.ownI 0 rfl),hm.k.more G,hm.g⟩
   refine bX (W (eT D D) D (cG D (bU ?_)))
   refine cN D (fun hc2=>?_) (fun hc2=>?_)
   ·refine bM (bS D (bS D ?_))
    refine dX (γ:=Int) (val:=fun v=>J v) (φ:=fun v=> -2000000000000000<=v/\v<=2000000000000000) D bZ6 D D D D (fun wx hm=>(nL _ _ wx B sb _ hm.k G G G G)) fun v6 hv6=>W (cU D) D (dZ bQ9 D D (jG (l:=l) (j:=i) (r:=4) (el:=⟨y0,y1,y2,y3,y4,y5,y6⟩) (el':=⟨y0,y1,y2,y3,v6,y5,y6⟩) 0 fM D D D D wA D hy zI (show 4 < 7 by decide) D D (bH (bK (bG (bX (bS D (cG D (bU (bR ?_))))))))))
    exact bQ D D fun wx hm=>⟨some ⟨bo,0,none⟩,n,c,(l.set i ⟨y0,y1,y2,y3,v6,y5,y6⟩),D,SlT.ofOwn wA (hm.ownI 0 D) (by simp;exact zI),cM7 (hi3) ⟨bE,bE,⟨bE,bE⟩,⟨bE,bE⟩,⟨bE,bE⟩,⟨bE,bE⟩,⟨bE,bE⟩,⟨bE,bE⟩⟩,G,kK (hm.ownI 0 rfl),hm.k.more G,hm.g⟩
   refine bM (bS D (bS D (W (bV (j:=0) bF9 D D hk0) D (W (dR (vs:= [U z0,J z1,J z2,J z3,J z4,J z5,J z6]) bY1 D (fun _ hm=>(SlT.ofOwn wA (hm.ownI 0 D) zI)) (show l[0]?=some _ from hz) D D) D (jN 168 [U z0,J z1,J z2,J z3,J z4,J z5,J z6] fun g7=>eP (news:= [U z0,J z1,J z2,J z3,J z4,J z5,J z6]) 0 0 fA3 D D D D D D D G (by unfold maxLen;omega) D D fun v2 xK=>?_)))))
   refine eB (R:=∃A cc,v2=H A (n+1) cc) (fun wx hm=>dW (hm.ownI 0 D)) ?_
   rintro ⟨A2,c2,rfl⟩
   refine cG D (bH (bK (bG (bX (bS D (cG D (bU (bR ?_))))))))
   exact bQ D D fun wx hm=>⟨A2,n+1,c2,l++ [⟨z0,z1,z2,z3,z4,z5,z6⟩],D,SlT.ofOwn (l:=l++ [⟨z0,z1,z2,z3,z4,z5,z6⟩]) wA (by have h:=hm.ownI 0 rfl;simpa [mG] using h) (by simp [zI]),dY5 hi3 hz0,G,kK (hm.ownI 0 rfl),hm.k.more G,hm.g⟩
  have hf:f1=false:=by simpa using hh
  refine bN (bG (bX (bS D (cG D (bU (bR ?_))))))
  exact bQ D D fun wx hm=>⟨A,n,c,l,D,SlT.ofOwn wA (hm.ownI 0 D) zI,hi3,G,kK (hm.ownI 0 rfl),hm.k.more G,hm.g⟩
 refine bO 10 D (fW9 hb) (eE D (eE D (nV D D (bU (jK D (bN (bG (bX (bS D (cG D (bU (bR ?_))))))))))))
 exact bQ D D fun wx hm=>⟨A,n,c,l,D,SlT.ofOwn wA (hm.ownI 0 D) zI,hi3,G,kK (hm.ownI 0 rfl),hm.k.more G,hm.g⟩
theorem eR1(w:World)(B sb m:Nat)(hS:fQ 25 w B sb m)(hm:m<=100000000000):
 Calls prog 72 #[.pointer (some ⟨sb,0,none⟩)] w (fun e w'=>∃(A:Option Addr) (n c:Nat) (l:List Rt),e=.returned (H A n c)/\SlT mG 7 168 w' A n l/\(∀x∈l,RtG x)/\n<=10/\n<=c/\fQ 25 w' B sb (m+200)/\w.grownBy w' (some sb)):=(eS1 w B sb m hS hm).mono fun _ _ ⟨A,n,c,l,he,hs,ho,h⟩=>⟨A,n,c,l,he,hs,eF9 ho,h⟩
def uM(rl:List Rt)(el:List Ex)(fl:List Fe)(cl:List Cd)(tl:List Tx):Int:=dK [qE rl,qR el,yH fl,uX cl,xB tl]
theorem dH4(rl:List Rt)(rA:Option Addr)(rn rc:Nat)(el:List Ex)(eA:Option Addr)(en ec:Nat)(fl:List Fe)(fA:Option Addr)(fn fc:Nat)(cl:List Cd)(cA:Option Addr)(cn cc:Nat)(tl:List Tx)(tA:Option Addr)(tn tc:Nat)(w:World)(hr:SlT mG 7 168 w rA rn rl)(he:SlT rE 4 203 w eA en el)(hf:SlT nP 3 207 w fA fn fl)(hc:SlT pK 6 209 w cA cn cl)(ht:SlT kD 4 212 w tA tn tl)(hons:Ons tl w)(hro:∀x∈rl,cV2 x)(heo:∀x∈el,bR6 x)(hfo:∀x∈fl,bV2 x)(pI:∀x∈cl,bQ0 x)(hto:∀x∈tl,wN x)(hrn:rn<=1000)(hen:en<=1000)(hfn:fn<=1000)(yC:cn<=1000)(htn:tn<=3)(htc:tn<=tc):
 Calls prog 92 #[.agg #[H rA rn rc,H eA en ec,H fA fn fc,H cA cn cc,H tA tn tc]] w (nG w (uM rl el fl cl tl)):=by
 refine cY ⟨20,w,none, []⟩ func92 D ntmps92 D (fZ (X:= [bT mG 7 168 w.heap.size none rA rn rl,bT rE 4 203 w.heap.size none eA en el,bT nP 3 207 w.heap.size none fA fn fl,bT pK 6 209 w.heap.size none cA cn cl,bT kD 4 212 w.heap.size none tA tn tl,nC w.heap.size none tl]) (cC hr.old (cC he.old (cC hf.old (cC hc.old (cC ht.old (cC hons.old cZ)))))) (cE bT.lasts (cE bT.lasts (cE bT.lasts (cE bT.lasts (cE bT.lasts (cE nC.lasts dA))))))) (bX ?_)
 obtain ⟨RE,hRE⟩:∃E,E=qE rl:=⟨_,rfl⟩
 obtain ⟨XE,hXE⟩:∃E,E=qR el:=⟨_,rfl⟩
 obtain ⟨FE,hFE⟩:∃E,E=yH fl:=⟨_,rfl⟩
 obtain ⟨CE,hCE⟩:∃E,E=uX cl:=⟨_,rfl⟩
 obtain ⟨TE,hTE⟩:∃E,E=xB tl:=⟨_,rfl⟩
 have hTE5:uM rl el fl cl tl=dK [RE,XE,FE,CE,TE]:=by rw [hRE,hXE,hFE,hCE,hTE];rfl
 refine fS D D D fun g1=>cG D (bU (bJ (gd (fun wz=>Blk wz g1 38 [H rA rn rc,H eA en ec,H fA fn fc,H cA cn cc,H tA tn tc]/\True) mixed (fun _ hm=>⟨hm.bl 0,bB⟩) fun z=>wq 0 D (bW eG1 D D) (wq 1 D (cH fV5 D (fun _ hm=>hm.1) D) (wq 3 D (bW eH1 D D) (wq 4 D (cH fW5 D (fun _ hm=>hm.1) D) (wq 6 D (bW eI1 D D) (wq 7 D (cH fX5 D (fun _ hm=>hm.1) D) (wq 9 D (bW eJ1 D D) (wq 10 D (cH fY5 D (fun _ hm=>hm.1) D) (wq 12 D (bW eK1 D D) (wq 13 D (cH fZ5 D (fun _ hm=>hm.1) D) (eD 2 D (cR (v:=J RE) D fP3 D D (fun wx hm=>(by rw [hRE];exact cK0 rl rA rn rc wx (hm.fact 0 rfl).1 hro G)) (bH (nw 18 14047 (fun _ hm=>⟨hm.bl 0,bB⟩) fun z=>eD 5 D (cR (v:=J XE) D fQ3 D D (fun wx hm=>(by rw [hXE];exact bB9 el eA en ec wx (hm.fact 1 rfl).1 heo G)) (bH (nw 18 14079 (fun _ hm=>⟨hm.bl 0,bB⟩) fun z=>eD 8 D (cR (v:=J FE) D fR3 D D (fun wx hm=>(by rw [hFE];exact cB3 fl fA fn fc wx (hm.fact 2 rfl).1 hfo G)) (bH (nw 18 14335 (fun _ hm=>⟨hm.bl 0,bB⟩) fun z=>eD 11 D (cR (v:=J CE) D fS3 D D (fun wx hm=>(by rw [hCE];exact cG0 cl cA cn cc wx (hm.fact 3 rfl).1 pI G)) (bH ?_))))))))))))))))))))))))
 refine nw 18 16383 (fun _ hm=>⟨hm.bl 0,bB⟩) fun z=>eD 14 D (cR (v:=J TE) D fT3 D D (fun wx hm=>(by rw [hTE];exact cM0 tl tA tn tc wx (hm.fact 4 rfl).1 (nC.ons (hm.fact 5 rfl)) hto G htc)) (bH (nw 18 32767 (fun _ hm=>⟨hm.bl 0,bB⟩) fun z=>eD 15 D (jN 48 [J RE,J XE,J FE,J CE,J TE] fun g2=>bH (nw 18 65535 (fun _ hm=>⟨hm.bl 1,bB⟩) fun z=>eD 16 D (dC D vO D D (fun wx hm=>(fP [RE,XE,FE,CE,TE] _ _ _ wx (hm.blkI 0 D) (by simp))) (bH (nw 18 131071 (fun _ hm=>⟨hm.bl 1,bB⟩) fun z=>wq 17 D (dB D) (gY (bG (bR ?_)))))))))))
 exact bQ D D fun wx hm=>⟨cL hTE5.symm,hm.g⟩
theorem bL9(rl:List Rt)(rA:Option Addr)(rn rc:Nat)(el:List Ex)(eA:Option Addr)(en ec:Nat)(fl:List Fe)(fA:Option Addr)(fn fc:Nat)(cl:List Cd)(cA:Option Addr)(cn cc:Nat)(tl:List Tx)(tA:Option Addr)(tn tc:Nat)(w:World)(hr:SlT mG 7 168 w rA rn rl)(he:SlT rE 4 203 w eA en el)(hf:SlT nP 3 207 w fA fn fl)(hc:SlT pK 6 209 w cA cn cl)(ht:SlT kD 4 212 w tA tn tl)(hons:Ons tl w)(hro:∀x∈rl,cV2 x)(heo:∀x∈el,bR6 x)(hfo:∀x∈fl,bV2 x)(pI:∀x∈cl,bQ0 x)(hto:∀x∈tl,wN x)(hrn:rn<=1000)(hen:en<=1000)(hfn:fn<=1000)(yC:cn<=1000)(htn:tn<=3)(htc:tn<=tc):
 Calls prog 41 #[.agg #[H rA rn rc,H eA en ec,H fA fn fc,H cA cn cc,H tA tn tc]] w (nG w (uM rl el fl cl tl)):=by
 refine cY ⟨30,w,none, []⟩ func41 D ntmps41 D (fZ (X:= [bT mG 7 168 w.heap.size none rA rn rl,bT rE 4 203 w.heap.size none eA en el,bT nP 3 207 w.heap.size none fA fn fl,bT pK 6 209 w.heap.size none cA cn cl,bT kD 4 212 w.heap.size none tA tn tl,nC w.heap.size none tl]) (cC hr.old (cC he.old (cC hf.old (cC hc.old (cC ht.old (cC hons.old cZ)))))) (cE bT.lasts (cE bT.lasts (cE bT.lasts (cE bT.lasts (cE bT.lasts (cE nC.lasts dA))))))) (bX ?_)
 obtain ⟨RE,hRE⟩:∃E,E=qE rl:=⟨_,rfl⟩
 obtain ⟨XE,hXE⟩:∃E,E=qR el:=⟨_,rfl⟩
 obtain ⟨FE,hFE⟩:∃E,E=yH fl:=⟨_,rfl⟩
 obtain ⟨CE,hCE⟩:∃E,E=uX cl:=⟨_,rfl⟩
 obtain ⟨TE,hTE⟩:∃E,E=xB tl:=⟨_,rfl⟩
 have hTE5:uM rl el fl cl tl=dK [RE,XE,FE,CE,TE]:=by rw [hRE,hXE,hFE,hCE,hTE];rfl
 rw [hTE5]
 refine fS D D D fun g1=>cG D (bU (bJ (bJ (gd (fun wz=>Blk wz g1 38 [H rA rn rc,H eA en ec,H fA fn fc,H cA cn cc,H tA tn tc]/\True) mixed (fun _ hm=>⟨hm.bl 0,bB⟩) fun z=>wq 0 D (bW eG1 D D) (wq 1 D (cH fV5 D (fun _ hm=>hm.1) D) (wq 3 D (bW eH1 D D) (wq 4 D (cH fW5 D (fun _ hm=>hm.1) D) (wq 6 D (bW eI1 D D) (wq 7 D (cH fX5 D (fun _ hm=>hm.1) D) (wq 9 D (bW eJ1 D D) (wq 10 D (cH fY5 D (fun _ hm=>hm.1) D) (wq 12 D (bW eK1 D D) (wq 13 D (cH fZ5 D (fun _ hm=>hm.1) D) (wq 17 D (bL D) (eD 2 D (cR (v:=J RE) D fD8 D D (fun wx hm=>(by rw [hRE];exact cT1 rl rA rn rc wx (hm.fact 0 rfl).1 hro G)) (bH (nw 18 145119 (fun _ hm=>⟨hm.bl 0,bB⟩) fun z=>eD 5 D (cR (v:=J XE) D fE8 D D (fun wx hm=>(by rw [hXE];exact bH9 el eA en ec wx (hm.fact 1 rfl).1 heo G)) (bH (nw 18 145151 (fun _ hm=>⟨hm.bl 0,bB⟩) fun z=>eD 8 D (cR (v:=J FE) D fF8 D D (fun wx hm=>(by rw [hFE];exact cI3 fl fA fn fc wx (hm.fact 2 rfl).1 hfo G)) (bH (nw 18 145407 (fun _ hm=>⟨hm.bl 0,bB⟩) fun z=>eD 11 D ?_))))))))))))))))))))))))
 refine cR (v:=J CE) D fG8 D D (fun wx hm=>(by rw [hCE];exact cN0 cl cA cn cc wx (hm.fact 3 rfl).1 pI G)) (bH (nw 18 147455 (fun _ hm=>⟨hm.bl 0,bB⟩) fun z=>eD 14 D (cR (v:=J TE) D fH8 D D (fun wx hm=>(by rw [hTE];exact cJ2 tl tA tn tc wx (hm.fact 4 rfl).1 (nC.ons (hm.fact 5 rfl)) hto G htc)) (bH (nw 18 163839 (fun _ hm=>⟨hm.bl 0,bB⟩) fun z=>eD 15 D (jN 48 [J RE,J XE,J FE,J CE,J TE] fun g2=>bH (nw 18 196607 (fun _ hm=>⟨hm.bl 1,bB⟩) fun z=>wq 16 D (dP cZ3 D) (dI 21 (v':=J 5) D D (gY (bG (bP (fF 6 (eK (bX (W (dF D D) D (bO 23 (v':= .bool true) D (fW9 bD) (bU (bJ (mT D (bN (bG (bJ (bP (bX (W (bV (j:=0) cZ3 D D bD) D ?_)))))))))))))))))))))))))
 refine eO eF3 0 D D D (cG D (bU (bX (bS D (W (gN D D) D (bU ?_))))))
 refine gL D (fun g0=>?_) (fun g0=>?_)
 ·refine bX (bS D (cG D (bU ?_)))
  refine bR (C (F (F (C (F ?_)))))
  exact bQ D D fun wx hm=>⟨cL (by simp [dK,g0]),hm.g⟩
 refine bN (bK (bG (bM (fY D D (bO 29 (v':=J 1) D D (bS D (bH (jL (eK (bX (W (dF D D) D (bO 23 (v':= .bool true) D (fW9 bD) (bU (bJ (mT D (bN (bG (bJ (bP (bX (W (bV (j:=1) cZ3 D D bD) D (eO eF3 0 D D D (cG D (bU (bX (bS D (W (gN D D) D (bU ?_))))))))))))))))))))))))))))
 refine gL D (fun g1=>?_) (fun g1=>?_)
 ·refine bX (bS D (cG D (bU ?_)))
  refine bR (C (F (F (C (F ?_)))))
  exact bQ D D fun wx hm=>⟨cL (by simp [dK,g0,g1]),hm.g⟩
 refine bN (bK (bG (bM (fY D D (bO 29 (v':=J 2) D D (bS D (bH (jL (eK (bX (W (dF D D) D (bO 23 (v':= .bool true) D (fW9 bD) (bU (bJ (mT D (bN (bG (bJ (bP (bX (W (bV (j:=2) cZ3 D D bD) D (eO eF3 0 D D D (cG D (bU (bX (bS D (W (gN D D) D (bU ?_))))))))))))))))))))))))))))
 refine gL D (fun g2=>?_) (fun g2=>?_)
 ·refine bX (bS D (cG D (bU ?_)))
  refine bR (C (F (F (C (F ?_)))))
  exact bQ D D fun wx hm=>⟨cL (by simp [dK,g0,g1,g2]),hm.g⟩
 refine bN (bK (bG (bM (fY D D (bO 29 (v':=J 3) D D (bS D (bH (jL (eK (bX (W (dF D D) D (bO 23 (v':= .bool true) D (fW9 bD) (bU (bJ (mT D (bN (bG (bJ (bP (bX (W (bV (j:=3) cZ3 D D bD) D (eO eF3 0 D D D (cG D (bU (bX (bS D (W (gN D D) D (bU ?_))))))))))))))))))))))))))))
 refine gL D (fun g3=>?_) (fun g3=>?_)
 ·refine bX (bS D (cG D (bU ?_)))
  refine bR (C (F (F (C (F ?_)))))
  exact bQ D D fun wx hm=>⟨cL (by simp [dK,g0,g1,g2,g3]),hm.g⟩
 refine bN (bK (bG (bM (fY D D (bO 29 (v':=J 4) D D (bS D (bH (jL (eK (bX (W (dF D D) D (bO 23 (v':= .bool true) D (fW9 bD) (bU (bJ (mT D (bN (bG (bJ (bP (bX (W (bV (j:=4) cZ3 D D bD) D (eO eF3 0 D D D (cG D (bU (bX (bS D (W (gN D D) D (bU ?_))))))))))))))))))))))))))))
 refine gL D (fun g4=>?_) (fun g4=>?_)
 ·refine bX (bS D (cG D (bU ?_)))
  refine bR (C (F (F (C (F ?_)))))
  exact bQ D D fun wx hm=>⟨cL (by simp [dK,g0,g1,g2,g3,g4]),hm.g⟩
 refine bN (bK (bG (bM (fY D D (bO 29 (v':=J 5) D D (bS D (bH (jL (eK (bX (W (dF D D) D (bO 23 (v':= .bool false) D (fW9 bD) (bU (bJ (jK D (dD (bI (bI (bY (bG (bX (cG D (bU (bR ?_))))))))))))))))))))))))
 exact bQ D D fun wx hm=>⟨cL (by simp [dK,g0,g1,g2,g3,g4]),hm.g⟩
def ap(l:List Tx)(b:Bool)(x:Tx):List Tx:=bif b then l++ [x] else l
theorem fE3{b1 b2 b3:Bool}{x1 x2 x3 y:Tx}{j:Nat}(h:(ap (ap (ap [] b1 x1) b2 x2) b3 x3)[j]?=some y):
 (y=x1/\∀z,∀x∈(ap (ap (ap [] b1 x1) b2 x2) b3 x3).set j z,x=z∨x=x2∨x=x3)∨(y=x2/\∀z,∀x∈(ap (ap (ap [] b1 x1) b2 x2) b3 x3).set j z,x=x1∨x=z∨x=x3)∨(y=x3/\∀z,∀x∈(ap (ap (ap [] b1 x1) b2 x2) b3 x3).set j z,x=x1∨x=x2∨x=z):=by
 match j with
 |0=>cases b1 <;> cases b2 <;> cases b3 <;> simp only [ap,cond_true,cond_false,List.nil_append,List.cons_append,List.getElem?_cons_zero,List.getElem?_nil,Option.some.injEq,reduceCtorEq] at h <;> subst h <;> first
  |exact .inl ⟨rfl,fun z x hx=>by simp [ap] at hx;first|exact hx|(rcases hx with hx|hx <;> simp [hx])|simp [hx]⟩
  |exact .inr (.inl ⟨rfl,fun z x hx=>by simp [ap] at hx;first|exact hx|(rcases hx with hx|hx <;> simp [hx])|simp [hx]⟩)
  |exact .inr (.inr ⟨rfl,fun z x hx=>by simp [ap] at hx;first|exact hx|(rcases hx with hx|hx <;> simp [hx])|simp [hx]⟩)
 |1=>cases b1 <;> cases b2 <;> cases b3 <;> simp only [ap,cond_true,cond_false,List.nil_append,List.cons_append,List.getElem?_cons_succ,List.getElem?_cons_zero,List.getElem?_nil,Option.some.injEq,reduceCtorEq] at h <;> subst h <;> first
  |exact .inr (.inl ⟨rfl,fun z x hx=>by simp [ap] at hx;first|exact hx|(rcases hx with hx|hx <;> simp [hx])|simp [hx]⟩)
  |exact .inr (.inr ⟨rfl,fun z x hx=>by simp [ap] at hx;first|exact hx|(rcases hx with hx|hx <;> simp [hx])|simp [hx]⟩)
 |2=>cases b1 <;> cases b2 <;> cases b3 <;> simp only [ap,cond_true,cond_false,List.nil_append,List.cons_append,List.getElem?_cons_succ,List.getElem?_cons_zero,List.getElem?_nil,Option.some.injEq,reduceCtorEq] at h <;> subst h <;> exact .inr (.inr ⟨rfl,fun z x hx=>by simp [ap] at hx;exact hx⟩)
 |n+3=>cases b1 <;> cases b2 <;> cases b3 <;> simp [ap] at h
theorem eT9{b1 b2 b3:Bool}{x1 x2 x3:Tx}:∀x∈ap (ap (ap [] b1 x1) b2 x2) b3 x3,x=x1∨x=x2∨x=x3:=by
 intro x h
 cases b1 <;> cases b2 <;> cases b3 <;> simp [ap] at h <;> first|exact h|exact .inl h|exact .inr (.inl h)|exact .inr (.inr h)|exact h.imp id .inl|exact h.imp id .inr|exact .inr h
theorem bV1{l:List Tx}{x1 x2 x3:Tx}{w:World}(h:∀x∈l,x=x1∨x=x2∨x=x3)(h1:SlT mW 1 3 w x1.A x1.n x1.on)(h2:SlT mW 1 3 w x2.A x2.n x2.on)(h3:SlT mW 1 3 w x3.A x3.n x3.on):Ons l w:=fun x hx=>by
 rcases h x hx with rfl|rfl|rfl
 ·exact h1
 ·exact h2
 ·exact h3
theorem bQ8{l:List Tx}{x1 x2 x3:Tx}(h:∀x∈l,x=x1∨x=x2∨x=x3)(h1:wN x1)(h2:wN x2)(h3:wN x3):∀x∈l,wN x:=fun x hx=>by
 rcases h x hx with rfl|rfl|rfl
 ·exact h1
 ·exact h2
 ·exact h3
theorem bZ5{w:World}{N n c:Nat}{A:Option Addr}{l:List Int}{v:Int}(h:w.ownsRow N 3 1 (H A (n+1) c) (n+1) (l.flatMap mW++([J v]:List Value)))(hl:l.length=n):SlT mW 1 3 w A (n+1) (l++ [v]):=
 SlT.ofOwn nE (by rw [show (l++ [v]).flatMap mW=l.flatMap mW++([J v]:List Value) by simp [mW]];exact h) (by simp [hl])
def tx0:Tx:=⟨⟨#[]⟩,0,none,0,0, [],false⟩
def TQ(t:Tx):Prop:=t.key.size<=100/\t.on.length=t.n/\t.n<=5
theorem tq0:TQ tx0:=⟨bD,rfl,bD⟩
def apT(b1 b2 b3:Bool)(t1 t2 t3:Tx):List Tx:=ap (ap (ap [] b1 t1) b2 t2) b3 t3
def TI(i:Nat)(b1 b2 b3:Bool)(t1 t2 t3:Tx):Prop:=(i < 3->b1=false)/\(i < 2->b2=false)/\(i < 1->b3=false)/\TQ t1/\TQ t2/\TQ t3
theorem TI.zero:TI 0 false false false tx0 tx0 tx0:=⟨fun _=>rfl,fun _=>rfl,fun _=>rfl,tq0,tq0,tq0⟩
theorem TI.skip{i:Nat}{b1 b2 b3:Bool}{t1 t2 t3:Tx}(h:TI i b1 b2 b3 t1 t2 t3):TI (i+1) b1 b2 b3 t1 t2 t3:=⟨fun _=>h.1 G,fun _=>h.2.1 G,fun _=>h.2.2.1 G,h.2.2.2⟩
theorem TI.next{i:Nat}{b1 b2 b3:Bool}{t1 t2 t3 t:Tx}(h:TI i b1 b2 b3 t1 t2 t3)(ht:TQ t):TI (i+1) b2 b3 true t2 t3 t:=⟨fun _=>h.2.1 G,fun _=>h.2.2.1 G,fun _=>absurd ‹i+1 < 1› G,h.2.2.2.2.1,h.2.2.2.2.2,ht⟩
theorem TI.ap{i:Nat}{b1 b2 b3:Bool}{t1 t2 t3 t:Tx}(h:TI i b1 b2 b3 t1 t2 t3)(hi:i < 3):apT b2 b3 true t2 t3 t=apT b1 b2 b3 t1 t2 t3++ [t]:=by
 have:=h.1 hi
 subst this;rfl
theorem eS9{b1 b2 b3:Bool}{t1 t2 t3 y:Tx}{j:Nat}(h:(apT b1 b2 b3 t1 t2 t3)[j]?=some y):
 (y=t1/\∀z,∀x∈(apT b1 b2 b3 t1 t2 t3).set j z,x=z∨x=t2∨x=t3)∨(y=t2/\∀z,∀x∈(apT b1 b2 b3 t1 t2 t3).set j z,x=z∨x=t1∨x=t3)∨(y=t3/\∀z,∀x∈(apT b1 b2 b3 t1 t2 t3).set j z,x=z∨x=t1∨x=t2):=by
 rcases fE3 h with ⟨e,h⟩|⟨e,h⟩|⟨e,h⟩
 ·exact .inl ⟨e,h⟩
 ·exact .inr (.inl ⟨e,fun z x hx=>(h z x hx).elim (fun h=> .inr (.inl h)) (·.elim .inl (fun h=> .inr (.inr h)))⟩)
 ·exact .inr (.inr ⟨e,fun z x hx=>(h z x hx).elim (fun h=> .inr (.inl h)) (·.elim (fun h=> .inr (.inr h)) .inl)⟩)
theorem eQ7(l:List Tx)(ke:M)(mi:Int)(A:Option Addr)(n c:Nat)(on:List Int)(ov:Bool):l.flatMap kD++([U ke,J mi,H A n c,.bool ov]:List Value)=(l++ [(⟨ke,mi,A,n,c,on,ov⟩:Tx)]).flatMap kD:=by simp [kD]
theorem qK{t:Tx}(h:TQ t):wN t:=⟨Nat.le_trans h.1 bD,Nat.le_trans h.2.2 bD⟩
theorem bO9{b1 b2 b3:Bool}{t1 t2 t3:Tx}:∀x∈apT b1 b2 b3 t1 t2 t3,x=t1∨x=t2∨x=t3:=eT9
theorem dM2(w:World)(B sb m:Nat)(hS:fQ 25 w B sb m)(hm:m<=100000000000):
 Calls prog 76 #[.pointer (some ⟨sb,0,none⟩)] w (fun e w'=>∃(A:Option Addr) (n c:Nat) (l:List Tx),e=.returned (H A n c)/\SlT kD 4 212 w' A n l/\Ons l w'/\(∀x∈l,wN x)/\n<=3/\n<=c/\fQ 25 w' B sb (m+400)/\w.grownBy w' (some sb)):=by
 refine cY ⟨88,w,(some sb), []⟩ func76 D ntmps76 D (bU5 (X:= []) hS cZ dA) (bX (cG D (bU (bX (cG D (bU (bJ (bX (jN 9 [U ⟨#[99,105,116,121]⟩,U ⟨#[115,116,97,116,101]⟩,U ⟨#[118,97,116]⟩] fun g1=>W (dP mD D) D (bO 11 (v':=J 3) D D (bS D (bU (bP ?_)))))))))))))
 refine qU 3 1 ?_
 refine qU 3 1 ?_
 refine qU 3 1 ?_
 refine qU 212 4 ?_
 refine dS (γ:=Nat×Value×Nat×List Value×Bool×Bool×Bool×Tx×Tx×Tx) (fun (gq:Nat×Value×Nat×List Value×Bool×Bool×Bool×Tx×Tx×Tx)=>(gq.1<=3/\gq.2.2.1<=gq.1)/\(apT gq.2.2.2.2.1 gq.2.2.2.2.2.1 gq.2.2.2.2.2.2.1 gq.2.2.2.2.2.2.2.1 gq.2.2.2.2.2.2.2.2.1 gq.2.2.2.2.2.2.2.2.2).length=gq.2.2.1/\gq.2.2.2.1=(apT gq.2.2.2.2.1 gq.2.2.2.2.2.1 gq.2.2.2.2.2.2.1 gq.2.2.2.2.2.2.2.1 gq.2.2.2.2.2.2.2.2.1 gq.2.2.2.2.2.2.2.2.2).flatMap kD/\TI gq.1 gq.2.2.2.2.1 gq.2.2.2.2.2.1 gq.2.2.2.2.2.2.1 gq.2.2.2.2.2.2.2.1 gq.2.2.2.2.2.2.2.2.1 gq.2.2.2.2.2.2.2.2.2) (fun (gq:Nat×Value×Nat×List Value×Bool×Bool×Bool×Tx×Tx×Tx)=> [(0,.pointer (some ⟨sb,0,none⟩)),(2,H none 0 0),(3,gq.2.1),(10,H (some ⟨g1,0,none⟩) 3 3),(11,J 3),(12,I (gq.1))]) (fun (gq:Nat×Value×Nat×List Value×Bool×Bool×Bool×Tx×Tx×Tx)=>fun w=>fQ 25 w B sb (m+100 *gq.1)) (fun (gq:Nat×Value×Nat×List Value×Bool×Bool×Bool×Tx×Tx×Tx)=> [(g1,9, [U ⟨#[99,105,116,121]⟩,U ⟨#[115,116,97,116,101]⟩,U ⟨#[118,97,116]⟩])]) (fun (gq:Nat×Value×Nat×List Value×Bool×Bool×Bool×Tx×Tx×Tx)=> [⟨gq.2.1,212,4,gq.2.2.1,gq.2.2.2.1⟩,⟨H gq.2.2.2.2.2.2.2.1.A gq.2.2.2.2.2.2.2.1.n gq.2.2.2.2.2.2.2.1.c,3,1,gq.2.2.2.2.2.2.2.1.n,gq.2.2.2.2.2.2.2.1.on.flatMap mW⟩,⟨H gq.2.2.2.2.2.2.2.2.1.A gq.2.2.2.2.2.2.2.2.1.n gq.2.2.2.2.2.2.2.2.1.c,3,1,gq.2.2.2.2.2.2.2.2.1.n,gq.2.2.2.2.2.2.2.2.1.on.flatMap mW⟩,⟨H gq.2.2.2.2.2.2.2.2.2.A gq.2.2.2.2.2.2.2.2.2.n gq.2.2.2.2.2.2.2.2.2.c,3,1,gq.2.2.2.2.2.2.2.2.2.n,gq.2.2.2.2.2.2.2.2.2.on.flatMap mW⟩]) (fun (gq:Nat×Value×Nat×List Value×Bool×Bool×Bool×Tx×Tx×Tx)=> []) (fun (gq:Nat×Value×Nat×List Value×Bool×Bool×Bool×Tx×Tx×Tx)=>3 - gq.1) (0,H none 0 0,0, [],false,false,false,tx0,tx0,tx0) ⟨⟨Nat.zero_le _,Nat.le_refl _⟩,D,D,TI.zero⟩ ⟨D,D,D,D,D,D,bB⟩ (fun _ hm=>(hm.more D (by first|omega|(dsimp only;omega))).pick [0] [0,1,2,3] [] D D) ?_
 rintro ⟨i,v,nn,xs,b1,b2,b3,t1,t2,t3⟩ bZ
 replace bZ:(i<=3/\nn<=i)/\(apT b1 b2 b3 t1 t2 t3).length=nn/\xs=(apT b1 b2 b3 t1 t2 t3).flatMap kD/\TI i b1 b2 b3 t1 t2 t3:=bZ
 dsimp only
 refine bX ?_
 obtain ⟨⟨hi0,hn0⟩,hT,rfl,hTI⟩:=bZ
 refine W (dF D D) D (bU (bJ ?_))
 refine cN D (fun hi=>?_) (fun hi=>?_)
 ·refine bN (bG (bJ (bP (bX ?_))))
  obtain ⟨nm,hnm⟩:∃x,([⟨#[99,105,116,121]⟩,⟨#[115,116,97,116,101]⟩,⟨#[118,97,116]⟩]:List M)[i]?=some x:=⟨_,fY9 (by simp;omega)⟩
  have hsz:nm.size<=100:=by
   have:=fZ9 hnm
   simp only [List.mem_cons,List.not_mem_nil,or_false] at this
   rcases this with rfl|rfl|rfl <;> decide
  refine W (bV (j:=i) mD D D G) D (W (dH (k:=0) (v:=U nm) fR D (fun _ hm=>(SlT.ofBlk (l:= [⟨#[99,105,116,121]⟩,⟨#[115,116,97,116,101]⟩,⟨#[118,97,116]⟩]) mQ (hm.blkI 0 D))) hnm D D) D (cG D (bU (bJ (bX (bS D (dX (γ:=Bool) (val:=fun v=> .bool v) (φ:=fun v=>True) D bY6 D D D D (fun wx hm=>((mU _ wx B sb _ hm.k G G G).mono fun _ _ ⟨v,he,hS,hg⟩=>⟨v,bB,he,hS,hg⟩)) fun f2 _=>bU ?_)))))))
  refine dE D (fun hh=>?_) (fun hh=>?_)
  ·have hz:f2=true:=by simpa using hh
   refine dD (bI (bY (bG (bM (fY D D (bS D (bH ?_)))))))
   exact cQ (i+1,v,nn,(apT b1 b2 b3 t1 t2 t3).flatMap kD,b1,b2,b3,t1,t2,t3) ⟨⟨bE,bE⟩,hT,D,hTI.skip⟩ bE ⟨D,D,D,D,D,(cP G),bB⟩ (fun _ hm=>(hm.more D (by first|omega|(dsimp only;omega))).pick [0] [0,1,2,3] [] D D)
  have hz:f2=false:=by simpa using hh
  refine bN (bG (bX ?_))
  refine mA 3 1 ?_
  refine bS D (bS D (jN 3 [J 0,J 50,J 75,J 200,J 1000] fun g3=>dX (γ:=Int) (val:=fun v=>J v) (φ:=fun v=>v∈([0,50,75,200,1000]:List Int)) D uN D D D D (fun wx hm=>(fV [0,50,75,200,1000] _ _ _ wx B sb _ hm.k G (by simp) (by simp) (hm.blkI 0 D) (hm.neRow 0 D D))) fun v4 hv4=>?_))
  have bv4:0<=v4/\v4<=1000:=jP hv4 bD
  have bv40:=bv4.1
  have bv41:=bv4.2
  clear bv4
  refine bS D (dX (γ:=Bool) (val:=fun v=> .bool v) (φ:=fun v=>True) D bY6 D D D D (fun wx hm=>((mU _ wx B sb _ hm.k G G G).mono fun _ _ ⟨v,he,hS,hg⟩=>⟨v,bB,he,hS,hg⟩)) fun f5 _=>W (dL (cs:= [U nm,J v4,H none 0 0,.bool f5]) D bC) D (dM eJ4 D fun g6=>kE (cs':= [U nm,J v4,H none 0 0,.bool f5]) 0 bT8 D D D D (bU (bJ (bX (jN 3 [J 1,J 2,J 3,J 4,J 6] fun g7=>W (dP kF D) D (bO 26 (v':=J 5) D D (bS D (bU (bP ?_))))))))))
  refine dS (γ:=Nat×Nat×Value×List Int×List Value) (fun (gp:Nat×Nat×Value×List Int×List Value)=>gp.1<=5/\gp.2.1<=gp.1/\gp.2.2.2.1.length=gp.2.1/\gp.2.2.2.2=gp.2.2.2.1.flatMap mW) (fun (gp:Nat×Nat×Value×List Int×List Value)=> [(0,.pointer (some ⟨sb,0,none⟩)),(2,H none 0 0),(3,v),(6,.pointer (some ⟨g6,0,none⟩)),(10,H (some ⟨g1,0,none⟩) 3 3),(11,J 3),(12,I i),(25,H (some ⟨g7,0,none⟩) 5 5),(26,J 5),(27,I (gp.1))]) (fun (gp:Nat×Nat×Value×List Int×List Value)=>fun w=>fQ 25 w B sb (m+100 *i+1+1+1+5 *gp.1)) (fun (gp:Nat×Nat×Value×List Int×List Value)=> [(g7,3, [J 1,J 2,J 3,J 4,J 6]),(g6,212, [U nm,J v4,gp.2.2.1,.bool f5]),(g3,3, [J 0,J 50,J 75,J 200,J 1000]),(g1,9, [U ⟨#[99,105,116,121]⟩,U ⟨#[115,116,97,116,101]⟩,U ⟨#[118,97,116]⟩])]) (fun (gp:Nat×Nat×Value×List Int×List Value)=> [⟨gp.2.2.1,3,1,gp.2.1,gp.2.2.2.2⟩,⟨v,212,4,nn,(apT b1 b2 b3 t1 t2 t3).flatMap kD⟩,⟨H t1.A t1.n t1.c,3,1,t1.n,t1.on.flatMap mW⟩,⟨H t2.A t2.n t2.c,3,1,t2.n,t2.on.flatMap mW⟩,⟨H t3.A t3.n t3.c,3,1,t3.n,t3.on.flatMap mW⟩]) (fun (gp:Nat×Nat×Value×List Int×List Value)=> []) (fun (gp:Nat×Nat×Value×List Int×List Value)=>5 - gp.1) (0,0,H none 0 0, [], []) ⟨Nat.zero_le _,Nat.zero_le _,D,D⟩ ⟨D,D,D,D,D,D,D,D,D,D,bB⟩ (fun _ hm=>(hm.more D (by first|omega|(dsimp only;omega))).pick [0,1,2,3] [0,1,2,3,4] [] D D) ?_
  rintro ⟨k,n,vr,l,ys⟩ bZ
  replace bZ:k<=5/\n<=k/\l.length=n/\ys=l.flatMap mW:=bZ
  dsimp only
  refine bX ?_
  obtain ⟨hj0,hj1,hj2,rfl⟩:=bZ
  refine W (dF D D) D (bU (bJ ?_))
  refine cN D (fun hk=>?_) (fun hk=>?_)
  ·refine bN (bG (bJ (bP (bX ?_))))
   obtain ⟨kd,hx⟩:∃x,([1,2,3,4,6]:List Int)[k]?=some x:=⟨_,fY9 (by simp;omega)⟩
   refine W (bV (j:=k) kF D D G) D (W (dH (k:=0) (v:=J kd) fM D (fun _ hm=>(SlT.ofBlk (l:= [1,2,3,4,6]) nE (hm.blkI 0 D))) hx D D) D (cG D (bU (bX (bS D (dX (γ:=Bool) (val:=fun v=> .bool v) (φ:=fun v=>True) D bY6 D D D D (fun wx hm=>((mU _ wx B sb _ hm.k G G G).mono fun _ _ ⟨v,he,hS,hg⟩=>⟨v,bB,he,hS,hg⟩)) fun f8 _=>bU ?_))))))
   refine dE D (fun hh=>?_) (fun hh=>?_)
   ·have hf:f8=true:=by simpa using hh
    refine bM (dZ uE D D (eO kY 1 D D D (bS D (jN 3 [J kd] fun g9=>eP (news:= [J kd]) 0 0 cX2 D D D D D D D G (by unfold maxLen;omega) D D fun vb hvb=>?_))))
    refine eB (R:=∃A cc,vb=H A (n+1) cc) (fun wx hm=>dW (hm.ownI 0 D)) ?_
    rintro ⟨Ab,cb,rfl⟩
    refine dZ uE D D (fX 2 kY D D D D D D (bH (bK (bG (bM (fY D D (bS D (bH ?_))))))))
    exact cQ (k+1,n+1,H Ab (n+1) cb,l++ [kd],l.flatMap mW++([J kd]:List Value)) ⟨bE,bE,by simp [hj2],by simp [mW]⟩ bE ⟨D,D,D,D,D,D,D,D,D,(cP G),bB⟩ (fun _ hm=>(hm.more D (by first|omega|(dsimp only;omega))).pick [1,2,3,4] [0,1,2,3,4] [] D D)
   have hf:f8=false:=by simpa using hh
   refine bN (bK (bG (bM (fY D D (bS D (bH ?_))))))
   exact cQ (k+1,n,vr,l,l.flatMap mW) ⟨bE,bE,hj2,rfl⟩ bE ⟨D,D,D,D,D,D,D,D,D,(cP G),bB⟩ (fun _ hm=>(hm.more D (by first|omega|(dsimp only;omega))).pick [0,1,2,3] [0,1,2,3,4] [] D D)
  refine dD (bI (bI (bY (bG (bM ?_)))))
  refine eB (R:=∃A cc,vr=H A n cc) (fun wx hm=>dW (hm.ownI 0 D)) ?_
  rintro ⟨Ad,cd,rfl⟩
  refine bS D (W (dG bT8 D (fun _ hm=>hm.blkI 1 D) D D) D (jN 212 [U nm,J v4,H Ad n cd,.bool f5] fun g10=>eP (news:= [U nm,J v4,H Ad n cd,.bool f5]) 1 0 fP6 D D D D D D D G (by unfold maxLen;omega) D D fun vc hvc=>?_))
  have hap:=hTI.ap (t:=⟨nm,v4,Ad,n,cd,l,f5⟩) G
  rw [show (apT b1 b2 b3 t1 t2 t3).flatMap kD++([U nm,J v4,H Ad n cd,.bool f5]:List Value)=(apT b2 b3 true t2 t3 ⟨nm,v4,Ad,n,cd,l,f5⟩).flatMap kD from by rw [hap];exact eQ7 _ _ _ _ _ _ _ _]
  refine cG D (bH (bK (bG (bM (fY D D (bS D (bH ?_)))))))
  exact cQ (i+1,vc,nn+1,(apT b2 b3 true t2 t3 ⟨nm,v4,Ad,n,cd,l,f5⟩).flatMap kD,b2,b3,true,t2,t3,⟨nm,v4,Ad,n,cd,l,f5⟩) ⟨⟨bE,bE⟩,by dsimp only;rw [hap,List.length_append,hT];rfl,rfl,hTI.next ⟨hsz,hj2,(Nat.le_trans hj1 hj0)⟩⟩ bE ⟨D,D,D,D,D,(cP G),bB⟩ (fun _ hm=>(hm.more D (by first|omega|(dsimp only;omega))).pick [4] [1,3,4,0] [] D D)
 refine dD (bI (bI (bY (bG (bJ (bX ?_))))))
 have hi3:i=3:=G
 subst hi3
 obtain ⟨_,_,_,hq1,hq2,hq3⟩:=hTI
 refine eB (R:=∃A cc,v=H A nn cc) (fun wx hm=>dW (hm.ownI 0 D)) ?_
 rintro ⟨A,c,rfl⟩
 refine bS D (W (dP bT3 D) D (W (eM D D) D (bS D ?_)))
 rcases Bool.eq_false_or_eq_true (decide (0 < ((nn:Nat):Int))) with hb|hb
 ·refine bO 48 D (fW9 hb) ?_
  have hk0:0 < nn:=by simpa using hb
  refine eN D (bS D (eN D (dX (γ:=Bool) (val:=fun v=> .bool v) (φ:=fun v=>True) D bY6 D D D D (fun wx hm=>((mU _ wx B sb _ hm.k G G G).mono fun _ _ ⟨v,he,hS,hg⟩=>⟨v,bB,he,hS,hg⟩)) fun f11 _=>mS D D (bU ?_))))
  refine dE D (fun hh=>?_) (fun hh=>?_)
  ·have hf:f11=true:=by simpa using hh
   refine eA6 (R:=∃g,A=some ⟨g,0,none⟩) (fun wx hm=>rG (hm.ownI 0 D) hk0) ?_
   rintro ⟨bo,rfl⟩
   refine pB (γ:=Nat×Tx×Tx×Tx) (I':=(fun (gc:Nat×Tx×Tx×Tx)=>(apT b1 b2 b3 t1 t2 t3)[gc.1]?=some gc.2.1/\(∀z,∀x∈(apT b1 b2 b3 t1 t2 t3).set gc.1 z,x=z∨x=gc.2.2.1∨x=gc.2.2.2)/\TQ gc.2.1/\TQ gc.2.2.1/\TQ gc.2.2.2)) (S':=(fun (gc:Nat×Tx×Tx×Tx)=> [(0,.pointer (some ⟨sb,0,none⟩)),(2,H none 0 0),(3,H (some ⟨bo,0,none⟩) nn c),(9,.pointer (some ⟨bo,0+gc.1 *4,none⟩))])) (K':=(fun (gc:Nat×Tx×Tx×Tx)=>fun w=>fQ 25 w B sb (m+320))) (L':=(fun (gc:Nat×Tx×Tx×Tx)=> [(g1,9, [U ⟨#[99,105,116,121]⟩,U ⟨#[115,116,97,116,101]⟩,U ⟨#[118,97,116]⟩])])) (O':=(fun (gc:Nat×Tx×Tx×Tx)=> [⟨H (some ⟨bo,0,none⟩) nn c,212,4,nn,(apT b1 b2 b3 t1 t2 t3).flatMap kD⟩,⟨H gc.2.1.A gc.2.1.n gc.2.1.c,3,1,gc.2.1.n,gc.2.1.on.flatMap mW⟩,⟨H gc.2.2.1.A gc.2.2.1.n gc.2.2.1.c,3,1,gc.2.2.1.n,gc.2.2.1.on.flatMap mW⟩,⟨H gc.2.2.2.A gc.2.2.2.n gc.2.2.2.c,3,1,gc.2.2.2.n,gc.2.2.2.on.flatMap mW⟩])) (X':=(fun (gc:Nat×Tx×Tx×Tx)=> [])) ?_ ?_
   ·refine bM (bS D (bS D (bS D (W (dP bT3 D) D ?_))))
    refine dX (γ:=Int) (val:=fun v=>J v) (φ:=fun v=>pN ((nn:Nat):Int) v) D cR5 D D D D (fun wx hm=>(pF _ wx B sb _ hm.k G G G)) fun vj hvj=>?_
    have hj:=rR hvj G
    obtain ⟨j,rfl⟩:=Int.eq_ofNat_of_zero_le hj.1
    have hjn:j < nn:=G
    obtain ⟨y,hy⟩:∃y,(apT b1 b2 b3 t1 t2 t3)[j]?=some y:=⟨_,fY9 G⟩
    refine W (bV (j:=j) bT3 D D G) D (cG D (bH ?_))
    rcases eS9 hy with ⟨e,hz⟩|⟨e,hz⟩|⟨e,hz⟩
    ·rw [e] at hy
     exact fH (j,t1,t2,t3) ⟨hy,hz,hq1,hq2,hq3⟩ ⟨D,D,D,D,bB⟩ (fun _ hm=>(hm.more D (by first|omega|(dsimp only;omega))).pick [0] [0,1,2,3] [] D D)
    ·rw [e] at hy
     exact fH (j,t2,t1,t3) ⟨hy,hz,hq2,hq1,hq3⟩ ⟨D,D,D,D,bB⟩ (fun _ hm=>(hm.more D (by first|omega|(dsimp only;omega))).pick [0] [0,2,1,3] [] D D)
    rw [e] at hy
    exact fH (j,t3,t1,t2) ⟨hy,hz,hq3,hq1,hq2⟩ ⟨D,D,D,D,bB⟩ (fun _ hm=>(hm.more D (by first|omega|(dsimp only;omega))).pick [0] [0,3,1,2] [] D D)
   rintro ⟨j,y,z1,z2⟩ bZ
   replace bZ:(apT b1 b2 b3 t1 t2 t3)[j]?=some y/\(∀z,∀x∈(apT b1 b2 b3 t1 t2 t3).set j z,x=z∨x=z1∨x=z2)/\TQ y/\TQ z1/\TQ z2:=bZ
   dsimp only
   refine bX ?_
   obtain ⟨hy,hz,hqy,hqa,hqb⟩:=bZ
   refine bS D (dX (γ:=Int) (val:=fun v=>J v) (φ:=fun v=>pN 3 v) D cR5 D D D D (fun wx hm=>(pF _ wx B sb _ hm.k G G G)) fun vs hvs=>bU (bP (bX (W (eT D D) D (cG D (bU ?_))))))
   refine cN D (fun h0=>?_) (fun h0=>?_)
   ·refine bM (bS D (bS D ?_))
    refine jN 9 [U ⟨#[]⟩,U ⟨#[99,105,116,121]⟩,U ⟨#[65]⟩] fun g12=>dX (γ:=M) (val:=fun v=>U v) (φ:=fun v=>v∈([⟨#[]⟩,⟨#[99,105,116,121]⟩,⟨#[65]⟩]:List M)) D uU D D D D (fun wx hm=>(jE [⟨#[]⟩,⟨#[99,105,116,121]⟩,⟨#[65]⟩] _ _ _ wx B sb _ hm.k G (by simp) (by simp) (hm.blkI 0 D) (hm.neRow 0 D D))) fun sn hsn=>?_
    have zsn:sn.size<=100:=kX hsn bD
    refine W (cU D) D (dZ zG D D (jG (l:=(apT b1 b2 b3 t1 t2 t3)) (j:=j) (r:=0) (el:=y) (el':=⟨sn,y.mille,y.A,y.n,y.c,y.on,y.over⟩) 0 fR D D D D qG D hy hT (show 0 < 4 by decide) D D (bH (bK (bG (bX (bS D (cG D (bU (bR ?_))))))))))
    exact bQ D D fun wx hm=>⟨some ⟨bo,0,none⟩,nn,c,((apT b1 b2 b3 t1 t2 t3).set j ⟨sn,y.mille,y.A,y.n,y.c,y.on,y.over⟩),D,SlT.ofOwn qG (hm.ownI 0 D) (by simpa using hT),bV1 (hz _) (SlT.ofOwn nE (hm.ownI 1 D) hqy.2.1) (SlT.ofOwn nE (hm.ownI 2 D) hqa.2.1) (SlT.ofOwn nE (hm.ownI 3 D) hqb.2.1),bQ8 (hz _) (show wN _ from ⟨(by omega:(sn:M).size<=1000000),(qK hqy).2⟩) (qK hqa) (qK hqb),G,kK (hm.ownI 0 rfl),hm.k.more G,hm.g⟩
   refine bX (W (eT D D) D (cG D (bU ?_)))
   refine cN D (fun h1=>?_) (fun h1=>?_)
   ·refine bM (bS D (bS D ?_))
    refine dX (γ:=Int) (val:=fun v=>J v) (φ:=fun v=> -2000000000000000<=v/\v<=2000000000000000) D bZ6 D D D D (fun wx hm=>(nL _ _ wx B sb _ hm.k G G G G)) fun v13 hv13=>W (cU D) D (dZ cL6 D D (jG (l:=(apT b1 b2 b3 t1 t2 t3)) (j:=j) (r:=1) (el:=y) (el':=⟨y.key,v13,y.A,y.n,y.c,y.on,y.over⟩) 0 fM D D D D qG D hy hT (show 1 < 4 by decide) D D (bH (bK (bG (bX (bS D (cG D (bU (bR ?_))))))))))
    exact bQ D D fun wx hm=>⟨some ⟨bo,0,none⟩,nn,c,((apT b1 b2 b3 t1 t2 t3).set j ⟨y.key,v13,y.A,y.n,y.c,y.on,y.over⟩),D,SlT.ofOwn qG (hm.ownI 0 D) (by simpa using hT),bV1 (hz _) (SlT.ofOwn nE (hm.ownI 1 D) hqy.2.1) (SlT.ofOwn nE (hm.ownI 2 D) hqa.2.1) (SlT.ofOwn nE (hm.ownI 3 D) hqb.2.1),bQ8 (hz _) (show wN _ from qK hqy) (qK hqa) (qK hqb),G,kK (hm.ownI 0 rfl),hm.k.more G,hm.g⟩
   refine gd (fun wz=>True) mixed (fun _ _=>bB) fun z=>wq 0 D (bL D) (wq 1 D (bL D) (wq 2 D (cU D) (wq 3 D (bW uE D D) (wq 5 D (bL D) ?_))))
   refine jC [4,6] bC D ⟨⟨_,D,?_⟩,⟨_,D,?_⟩,bB⟩
   ·refine W (dH (k:=2) (v:=H y.A y.n y.c) kY D (fun _ hm=>(SlT.ofOwn qG (hm.ownI 0 D) hT)) hy D D) D ?_
    refine bH (nw 13 63 (fun _ _=>bB) fun z=>eD 6 D (jN 3 [J 0,J 5,J 6,J 7,J 1] fun g14=>bH (nw 13 127 (fun _ _=>bB) fun z=>eD 7 D (dX (γ:=Int) (val:=fun v=>J v) (φ:=fun v=>v∈([0,5,6,7,1]:List Int)) D uN D D D D (fun wx hm=>(fV [0,5,6,7,1] _ _ _ wx B sb _ hm.k G (by simp) (by simp) (hm.blkI 0 D) (hm.neRow 0 D D))) fun v15 hv15=>?_))))
    have bv15:0<=v15/\v15<=7:=jP hv15 bD
    have bv150:=bv15.1
    have bv151:=bv15.2
    clear bv15
    refine bH (nw 13 255 (fun _ _=>bB) fun z=>eD 8 D (jN 3 [J v15] fun g16=>bH (nw 13 511 (fun _ _=>bB) fun z=>eD 9 D (eP (news:= [J v15]) 1 0 cX2 D D D D D D D (by have:=hqy.2.2;omega) (by unfold maxLen;have:=hqy.2.2;omega) D D fun va hva=>?_))))
    refine eB (R:=∃A cc,va=H A (y.n+1) cc) (fun wx hm=>dW (hm.ownI 1 D)) ?_
    rintro ⟨Aa,ca,rfl⟩
    refine bH (nw 13 1023 (fun _ _=>bB) fun z=>wq 10 D (cU D) (wq 11 D (bW uE D D) (eD 12 D (jG (l:=(apT b1 b2 b3 t1 t2 t3)) (j:=j) (r:=2) (el:=y) (el':=⟨y.key,y.mille,Aa,y.n+1,ca,y.on++ [v15],y.over⟩) 0 kY D D D D qG D hy hT (show 2 < 4 by decide) D D (bH (nw 13 8191 (fun _ _=>bB) fun z=>gY (bK (bG (bX (bS D (cG D (bU (bR ?_)))))))))))))
    exact bQ D D fun wx hm=>⟨some ⟨bo,0,none⟩,nn,c,((apT b1 b2 b3 t1 t2 t3).set j ⟨y.key,y.mille,Aa,y.n+1,ca,y.on++ [v15],y.over⟩),D,SlT.ofOwn qG (hm.ownI 0 D) (by simpa using hT),bV1 (hz _) (bZ5 (hm.ownI 1 D) hqy.2.1) (SlT.ofOwn nE (hm.ownI 2 D) hqa.2.1) (SlT.ofOwn nE (hm.ownI 3 D) hqb.2.1),bQ8 (hz _) (show wN _ from ⟨(qK hqy).1,(by have:=hqy.2.2;dsimp only;omega)⟩) (qK hqa) (qK hqb),G,kK (hm.ownI 0 rfl),hm.k.more G,hm.g⟩
   refine jN 3 [J 0,J 5,J 6,J 7,J 1] fun g17=>bH (nw 13 111 (fun _ _=>bB) fun z=>?_)
   refine jC [4,7] bC D ⟨⟨_,D,?_⟩,⟨_,D,?_⟩,bB⟩
   ·refine W (dH (k:=2) (v:=H y.A y.n y.c) kY D (fun _ hm=>(SlT.ofOwn qG (hm.ownI 0 D) hT)) hy D D) D ?_
    refine bH (nw 13 127 (fun _ _=>bB) fun z=>eD 7 D (dX (γ:=Int) (val:=fun v=>J v) (φ:=fun v=>v∈([0,5,6,7,1]:List Int)) D uN D D D D (fun wx hm=>(fV [0,5,6,7,1] _ _ _ wx B sb _ hm.k G (by simp) (by simp) (hm.blkI 0 D) (hm.neRow 0 D D))) fun v18 hv18=>?_))
    have bv18:0<=v18/\v18<=7:=jP hv18 bD
    have bv180:=bv18.1
    have bv181:=bv18.2
    clear bv18
    refine bH (nw 13 255 (fun _ _=>bB) fun z=>eD 8 D (jN 3 [J v18] fun g19=>bH (nw 13 511 (fun _ _=>bB) fun z=>eD 9 D (eP (news:= [J v18]) 1 0 cX2 D D D D D D D (by have:=hqy.2.2;omega) (by unfold maxLen;have:=hqy.2.2;omega) D D fun va hva=>?_))))
    refine eB (R:=∃A cc,va=H A (y.n+1) cc) (fun wx hm=>dW (hm.ownI 1 D)) ?_
    rintro ⟨Aa,ca,rfl⟩
    refine bH (nw 13 1023 (fun _ _=>bB) fun z=>wq 10 D (cU D) (wq 11 D (bW uE D D) (eD 12 D (jG (l:=(apT b1 b2 b3 t1 t2 t3)) (j:=j) (r:=2) (el:=y) (el':=⟨y.key,y.mille,Aa,y.n+1,ca,y.on++ [v18],y.over⟩) 0 kY D D D D qG D hy hT (show 2 < 4 by decide) D D (bH (nw 13 8191 (fun _ _=>bB) fun z=>gY (bK (bG (bX (bS D (cG D (bU (bR ?_)))))))))))))
    exact bQ D D fun wx hm=>⟨some ⟨bo,0,none⟩,nn,c,((apT b1 b2 b3 t1 t2 t3).set j ⟨y.key,y.mille,Aa,y.n+1,ca,y.on++ [v18],y.over⟩),D,SlT.ofOwn qG (hm.ownI 0 D) (by simpa using hT),bV1 (hz _) (bZ5 (hm.ownI 1 D) hqy.2.1) (SlT.ofOwn nE (hm.ownI 2 D) hqa.2.1) (SlT.ofOwn nE (hm.ownI 3 D) hqb.2.1),bQ8 (hz _) (show wN _ from ⟨(qK hqy).1,(by have:=hqy.2.2;dsimp only;omega)⟩) (qK hqa) (qK hqb),G,kK (hm.ownI 0 rfl),hm.k.more G,hm.g⟩
   refine dX (γ:=Int) (val:=fun v=>J v) (φ:=fun v=>v∈([0,5,6,7,1]:List Int)) D uN D D D D (fun wx hm=>(fV [0,5,6,7,1] _ _ _ wx B sb _ hm.k G (by simp) (by simp) (hm.blkI 0 D) (hm.neRow 0 D D))) fun v20 hv20=>?_
   have bv20:0<=v20/\v20<=7:=jP hv20 bD
   have bv200:=bv20.1
   have bv201:=bv20.2
   clear bv20
   refine bH (nw 13 239 (fun _ _=>bB) fun z=>?_)
   refine jC [4,8] bC D ⟨⟨_,D,?_⟩,⟨_,D,?_⟩,bB⟩
   ·refine W (dH (k:=2) (v:=H y.A y.n y.c) kY D (fun _ hm=>(SlT.ofOwn qG (hm.ownI 0 D) hT)) hy D D) D ?_
    refine bH (nw 13 255 (fun _ _=>bB) fun z=>eD 8 D (jN 3 [J v20] fun g21=>bH (nw 13 511 (fun _ _=>bB) fun z=>eD 9 D (eP (news:= [J v20]) 1 0 cX2 D D D D D D D (by have:=hqy.2.2;omega) (by unfold maxLen;have:=hqy.2.2;omega) D D fun va hva=>?_))))
    refine eB (R:=∃A cc,va=H A (y.n+1) cc) (fun wx hm=>dW (hm.ownI 1 D)) ?_
    rintro ⟨Aa,ca,rfl⟩
    refine bH (nw 13 1023 (fun _ _=>bB) fun z=>wq 10 D (cU D) (wq 11 D (bW uE D D) (eD 12 D (jG (l:=(apT b1 b2 b3 t1 t2 t3)) (j:=j) (r:=2) (el:=y) (el':=⟨y.key,y.mille,Aa,y.n+1,ca,y.on++ [v20],y.over⟩) 0 kY D D D D qG D hy hT (show 2 < 4 by decide) D D (bH (nw 13 8191 (fun _ _=>bB) fun z=>gY (bK (bG (bX (bS D (cG D (bU (bR ?_)))))))))))))
    exact bQ D D fun wx hm=>⟨some ⟨bo,0,none⟩,nn,c,((apT b1 b2 b3 t1 t2 t3).set j ⟨y.key,y.mille,Aa,y.n+1,ca,y.on++ [v20],y.over⟩),D,SlT.ofOwn qG (hm.ownI 0 D) (by simpa using hT),bV1 (hz _) (bZ5 (hm.ownI 1 D) hqy.2.1) (SlT.ofOwn nE (hm.ownI 2 D) hqa.2.1) (SlT.ofOwn nE (hm.ownI 3 D) hqb.2.1),bQ8 (hz _) (show wN _ from ⟨(qK hqy).1,(by have:=hqy.2.2;dsimp only;omega)⟩) (qK hqa) (qK hqb),G,kK (hm.ownI 0 rfl),hm.k.more G,hm.g⟩
   refine jN 3 [J v20] fun g22=>bH (nw 13 495 (fun _ _=>bB) fun z=>eD 4 D (W (dH (k:=2) (v:=H y.A y.n y.c) kY D (fun _ hm=>(SlT.ofOwn qG (hm.ownI 0 D) hT)) hy D D) D (bH (nw 13 511 (fun _ _=>bB) fun z=>eD 9 D (eP (news:= [J v20]) 1 0 cX2 D D D D D D D (by have:=hqy.2.2;omega) (by unfold maxLen;have:=hqy.2.2;omega) D D fun va hva=>?_)))))
   refine eB (R:=∃A cc,va=H A (y.n+1) cc) (fun wx hm=>dW (hm.ownI 1 D)) ?_
   rintro ⟨Aa,ca,rfl⟩
   refine bH (nw 13 1023 (fun _ _=>bB) fun z=>wq 10 D (cU D) (wq 11 D (bW uE D D) (eD 12 D (jG (l:=(apT b1 b2 b3 t1 t2 t3)) (j:=j) (r:=2) (el:=y) (el':=⟨y.key,y.mille,Aa,y.n+1,ca,y.on++ [v20],y.over⟩) 0 kY D D D D qG D hy hT (show 2 < 4 by decide) D D (bH (nw 13 8191 (fun _ _=>bB) fun z=>gY (bK (bG (bX (bS D (cG D (bU (bR ?_)))))))))))))
   exact bQ D D fun wx hm=>⟨some ⟨bo,0,none⟩,nn,c,((apT b1 b2 b3 t1 t2 t3).set j ⟨y.key,y.mille,Aa,y.n+1,ca,y.on++ [v20],y.over⟩),D,SlT.ofOwn qG (hm.ownI 0 D) (by simpa using hT),bV1 (hz _) (bZ5 (hm.ownI 1 D) hqy.2.1) (SlT.ofOwn nE (hm.ownI 2 D) hqa.2.1) (SlT.ofOwn nE (hm.ownI 3 D) hqb.2.1),bQ8 (hz _) (show wN _ from ⟨(qK hqy).1,(by have:=hqy.2.2;dsimp only;omega)⟩) (qK hqa) (qK hqb),G,kK (hm.ownI 0 rfl),hm.k.more G,hm.g⟩
  have hf:f11=false:=by simpa using hh
  refine bN (bG (bX (bS D (cG D (bU (bR ?_))))))
  exact bQ D D fun wx hm=>⟨A,nn,c,(apT b1 b2 b3 t1 t2 t3),D,SlT.ofOwn qG (hm.ownI 0 D) hT,bV1 bO9 (SlT.ofOwn nE (hm.ownI 1 D) hq1.2.1) (SlT.ofOwn nE (hm.ownI 2 D) hq2.2.1) (SlT.ofOwn nE (hm.ownI 3 D) hq3.2.1),bQ8 bO9 (qK hq1) (qK hq2) (qK hq3),G,kK (hm.ownI 0 rfl),hm.k.more G,hm.g⟩
 refine bO 48 D (fW9 hb) (eE D (eE D (nV D D (bU (jK D (bN (bG (bX (bS D (cG D (bU (bR ?_))))))))))))
 exact bQ D D fun wx hm=>⟨A,nn,c,(apT b1 b2 b3 t1 t2 t3),D,SlT.ofOwn qG (hm.ownI 0 D) hT,bV1 bO9 (SlT.ofOwn nE (hm.ownI 1 D) hq1.2.1) (SlT.ofOwn nE (hm.ownI 2 D) hq2.2.1) (SlT.ofOwn nE (hm.ownI 3 D) hq3.2.1),bQ8 bO9 (qK hq1) (qK hq2) (qK hq3),G,kK (hm.ownI 0 rfl),hm.k.more G,hm.g⟩
theorem cO9(w:World)(B sb m:Nat)(hS:fQ 25 w B sb m)(hm:m<=10000000000):
 Calls prog 40 #[.pointer (some ⟨sb,0,none⟩)] w (fun e w'=>∃(rA:Option Addr) (rn rc:Nat) (rl:List Rt) (eA:Option Addr) (en ec:Nat) (el:List Ex) (fA:Option Addr) (fn fc:Nat) (fl:List Fe) (cA:Option Addr) (cn cc:Nat) (cl:List Cd) (tA:Option Addr) (tn tc:Nat) (tl:List Tx),e=.returned (.agg #[H rA rn rc,H eA en ec,H fA fn fc,H cA cn cc,H tA tn tc])/\(((∀x∈rl,RtG x)/\rn<=10/\rn<=rc)/\((∀x∈el,bR6 x)/\en<=2/\en<=ec)/\((∀x∈fl,bV2 x)/\fn<=5/\fn<=fc)/\((∀x∈cl,bQ0 x)/\cn<=3/\cn<=cc)/\((∀x∈tl,wN x)/\tn<=3/\tn<=tc))/\(SlT mG 7 168 w' rA rn rl/\SlT rE 4 203 w' eA en el/\SlT nP 3 207 w' fA fn fl/\SlT pK 6 209 w' cA cn cl/\SlT kD 4 212 w' tA tn tl/\Ons tl w')/\fQ 25 w' B sb (m+710)/\w.grownBy w' (some sb)):=by
 refine cY ⟨14,w,(some sb), [168,203,207,209,212,3]⟩ func40 D ntmps40 D (bU5 (X:= []) hS cZ dA) (bX (dM fK2 D fun g1=>bU (bX (bS D ?_))))
 refine pH (γ:=Option Addr×Nat×Nat×List Rt) (val:=(fun g=>H g.1 g.2.1 g.2.2.1)) (φ:=(fun g=>(∀x∈g.2.2.2,RtG x)/\g.2.1<=10/\g.2.1<=g.2.2.1)) (Y:=(fun g=>fun wy=>SlT mG 7 168 wy g.1 g.2.1 g.2.2.2)) (m':=m+200) D fY7 D D D D (fun wx hm=>(eR1 wx B sb _ hm.k G).mono fun _ _ ⟨A,n,c,l,he,hs,hok,hn,hnc,hS,hg⟩=>⟨(A,n,c,l),he,⟨hok,hn,hnc⟩,hS,hg,hs⟩) (fun _=>SlT.lasts2 D) ?_
 rintro ⟨rA,rn,rc,rl⟩ hr
 dsimp only at hr ⊢
 refine bS D ?_
 refine pH (γ:=Option Addr×Nat×Nat×List Ex) (val:=(fun g=>H g.1 g.2.1 g.2.2.1)) (φ:=(fun g=>(∀x∈g.2.2.2,bR6 x)/\g.2.1<=2/\g.2.1<=g.2.2.1)) (Y:=(fun g=>fun wy=>SlT rE 4 203 wy g.1 g.2.1 g.2.2.2)) (m':=m+200+30) D fZ7 D D D D (fun wx hm=>(cN9 wx B sb _ hm.k G).mono fun _ _ ⟨A,n,c,l,he,hs,hok,hn,hnc,hS,hg⟩=>⟨(A,n,c,l),he,⟨hok,hn,hnc⟩,hS,hg,hs⟩) (fun _=>SlT.lasts2 D) ?_
 rintro ⟨eA,en,ec,el⟩ he
 dsimp only at he ⊢
 refine bS D ?_
 refine pH (γ:=Option Addr×Nat×Nat×List Fe) (val:=(fun g=>H g.1 g.2.1 g.2.2.1)) (φ:=(fun g=>(∀x∈g.2.2.2,bV2 x)/\g.2.1<=5/\g.2.1<=g.2.2.1)) (Y:=(fun g=>fun wy=>SlT nP 3 207 wy g.1 g.2.1 g.2.2.2)) (m':=m+200+30+30) D fA8 D D D D (fun wx hm=>(dG7 wx B sb _ hm.k G).mono fun _ _ ⟨A,n,c,l,he,hs,hok,hn,hnc,hS,hg⟩=>⟨(A,n,c,l),he,⟨hok,hn,hnc⟩,hS,hg,hs⟩) (fun _=>SlT.lasts2 D) ?_
 rintro ⟨fA,fn,fc,fl⟩ hf
 dsimp only at hf ⊢
 refine bS D ?_
 refine pH (γ:=Option Addr×Nat×Nat×List Cd) (val:=(fun g=>H g.1 g.2.1 g.2.2.1)) (φ:=(fun g=>(∀x∈g.2.2.2,bQ0 x)/\g.2.1<=3/\g.2.1<=g.2.2.1)) (Y:=(fun g=>fun wy=>SlT pK 6 209 wy g.1 g.2.1 g.2.2.2)) (m':=m+200+30+30+50) D fB8 D D D D (fun wx hm=>(dK2 wx B sb _ hm.k G).mono fun _ _ ⟨A,n,c,l,he,hs,hok,hn,hnc,hS,hg⟩=>⟨(A,n,c,l),he,⟨hok,hn,hnc⟩,hS,hg,hs⟩) (fun _=>SlT.lasts2 D) ?_
 rintro ⟨cA,cn,cc,cl⟩ hc
 dsimp only at hc ⊢
 refine bS D ?_
 refine pH (γ:=Option Addr×Nat×Nat×List Tx) (val:=(fun g=>H g.1 g.2.1 g.2.2.1)) (φ:=(fun g=>(∀x∈g.2.2.2,wN x)/\g.2.1<=3/\g.2.1<=g.2.2.1)) (Y:=(fun g=>fun wy=>SlT kD 4 212 wy g.1 g.2.1 g.2.2.2/\Ons g.2.2.2 wy)) (m':=m+200+30+30+50+400) D fC8 D D D D (fun wx hm=>(dM2 wx B sb _ hm.k G).mono fun _ _ ⟨A,n,c,l,he,hs,hons,hok,hn,hnc,hS,hg⟩=>⟨(A,n,c,l),he,⟨hok,hn,hnc⟩,hS,hg,⟨hs,hons⟩⟩) (fun _=>(SlT.lasts2 D).and_ (Ons.lasts D)) ?_
 rintro ⟨tA,tn,tc,tl⟩ ht
 dsimp only at ht ⊢
 refine W (dL (cs:= [H rA rn rc,H eA en ec,H fA fn fc,H cA cn cc,H tA tn tc]) D bC) D (kE (cs':= [H rA rn rc,H eA en ec,H fA fn fc,H cA cn cc,H tA tn tc]) 0 cN3 D D D D (bU (bR ?_)))
 refine bU9 0 D cN3 D D D fun wx hm=>?_
 exact ⟨rA,rn,rc,rl,eA,en,ec,el,fA,fn,fc,fl,cA,cn,cc,cl,tA,tn,tc,tl,D,⟨hr,he,hf,hc,ht⟩,⟨(hm.fact 4 D),(hm.fact 3 D),(hm.fact 2 D),(hm.fact 1 D),(hm.fact 0 D).1,(hm.fact 0 D).2⟩,hm.k.more G,hm.g⟩
theorem cR7{rl:List Rt}(h:qE rl=0):uM rl [] [] [] []=0:=by
 unfold uM
 rw [h];rfl
theorem cV0(w:World)(B sb m:Nat)(hS:fQ 25 w B sb m)(hm:m<=1000000000):
 Calls prog 17 #[.pointer (some ⟨sb,0,none⟩)] w (fun e w'=>∃(rA:Option Addr) (rn rc:Nat) (rl:List Rt) (eA:Option Addr) (en ec:Nat) (el:List Ex) (fA:Option Addr) (fn fc:Nat) (fl:List Fe) (cA:Option Addr) (cn cc:Nat) (cl:List Cd) (tA:Option Addr) (tn tc:Nat) (tl:List Tx),e=.returned (.agg #[H rA rn rc,H eA en ec,H fA fn fc,H cA cn cc,H tA tn tc])/\((((∀x∈rl,RtG x)/\rn<=10/\rn<=rc)/\((∀x∈el,bR6 x)/\en<=2/\en<=ec)/\((∀x∈fl,bV2 x)/\fn<=5/\fn<=fc)/\((∀x∈cl,bQ0 x)/\cn<=3/\cn<=cc)/\((∀x∈tl,wN x)/\tn<=3/\tn<=tc))/\uM rl el fl cl tl=0)/\(SlT mG 7 168 w' rA rn rl/\SlT rE 4 203 w' eA en el/\SlT nP 3 207 w' fA fn fl/\SlT pK 6 209 w' cA cn cl/\SlT kD 4 212 w' tA tn tl/\Ons tl w')/\fQ 25 w' B sb (m+6000)/\w.grownBy w' (some sb)):=by
 refine cY ⟨16,w,(some sb), [168,203,207,209,212,3]⟩ func17 D ntmps17 D (bU5 (X:= []) hS cZ dA) (bX (dM fK2 D fun g1=>bU (bJ (bX (bS D (bU (bP ?_)))))))
 refine dS (γ:=Nat) (fun (i:Nat)=>i<=8) (fun (i:Nat)=> [(0,.pointer (some ⟨sb,0,none⟩)),(2,.pointer (some ⟨g1,0,none⟩)),(4,I i)]) (fun (i:Nat)=>fun w=>fQ 25 w B sb (m+710 *i)) (fun (i:Nat)=> [(g1,38, [H none 0 0,H none 0 0,H none 0 0,H none 0 0,H none 0 0])]) (fun (i:Nat)=> []) (fun (i:Nat)=> []) (fun (i:Nat)=>8 - i) 0 (Nat.zero_le _) ⟨D,D,D,bB⟩ (fun _ hm=>(hm.more D (by first|omega|(dsimp only;omega))).pick [0] [] [] D D) ?_
 intro i bZ
 replace bZ:i<=8:=bZ
 refine bX (W (dF D D) D (bU (bJ ?_)))
 refine cN D (fun hi=>?_) (fun hi=>?_)
 ·refine bN (bG (bJ (bP (bX (bS D ?_)))))
  refine pH (γ:=List Rt×Option Addr×Nat×Nat×List Ex×Option Addr×Nat×Nat×List Fe×Option Addr×Nat×Nat×List Cd×Option Addr×Nat×Nat×List Tx×Option Addr×Nat×Nat) (val:=(fun g=> .agg #[H g.2.1 g.2.2.1 g.2.2.2.1,H g.2.2.2.2.2.1 g.2.2.2.2.2.2.1 g.2.2.2.2.2.2.2.1,H g.2.2.2.2.2.2.2.2.2.1 g.2.2.2.2.2.2.2.2.2.2.1 g.2.2.2.2.2.2.2.2.2.2.2.1,H g.2.2.2.2.2.2.2.2.2.2.2.2.2.1 g.2.2.2.2.2.2.2.2.2.2.2.2.2.2.1 g.2.2.2.2.2.2.2.2.2.2.2.2.2.2.2.1,H g.2.2.2.2.2.2.2.2.2.2.2.2.2.2.2.2.2.1 g.2.2.2.2.2.2.2.2.2.2.2.2.2.2.2.2.2.2.1 g.2.2.2.2.2.2.2.2.2.2.2.2.2.2.2.2.2.2.2])) (φ:=(fun g=>((∀x∈g.1,RtG x)/\g.2.2.1<=10/\g.2.2.1<=g.2.2.2.1)/\((∀x∈g.2.2.2.2.1,bR6 x)/\g.2.2.2.2.2.2.1<=2/\g.2.2.2.2.2.2.1<=g.2.2.2.2.2.2.2.1)/\((∀x∈g.2.2.2.2.2.2.2.2.1,bV2 x)/\g.2.2.2.2.2.2.2.2.2.2.1<=5/\g.2.2.2.2.2.2.2.2.2.2.1<=g.2.2.2.2.2.2.2.2.2.2.2.1)/\((∀x∈g.2.2.2.2.2.2.2.2.2.2.2.2.1,bQ0 x)/\g.2.2.2.2.2.2.2.2.2.2.2.2.2.2.1<=3/\g.2.2.2.2.2.2.2.2.2.2.2.2.2.2.1<=g.2.2.2.2.2.2.2.2.2.2.2.2.2.2.2.1)/\((∀x∈g.2.2.2.2.2.2.2.2.2.2.2.2.2.2.2.2.1,wN x)/\g.2.2.2.2.2.2.2.2.2.2.2.2.2.2.2.2.2.2.1<=3/\g.2.2.2.2.2.2.2.2.2.2.2.2.2.2.2.2.2.2.1<=g.2.2.2.2.2.2.2.2.2.2.2.2.2.2.2.2.2.2.2))) (Y:=(fun g=>fun wy=>SlT mG 7 168 wy g.2.1 g.2.2.1 g.1/\SlT rE 4 203 wy g.2.2.2.2.2.1 g.2.2.2.2.2.2.1 g.2.2.2.2.1/\SlT nP 3 207 wy g.2.2.2.2.2.2.2.2.2.1 g.2.2.2.2.2.2.2.2.2.2.1 g.2.2.2.2.2.2.2.2.1/\SlT pK 6 209 wy g.2.2.2.2.2.2.2.2.2.2.2.2.2.1 g.2.2.2.2.2.2.2.2.2.2.2.2.2.2.1 g.2.2.2.2.2.2.2.2.2.2.2.2.1/\SlT kD 4 212 wy g.2.2.2.2.2.2.2.2.2.2.2.2.2.2.2.2.2.1 g.2.2.2.2.2.2.2.2.2.2.2.2.2.2.2.2.2.2.1 g.2.2.2.2.2.2.2.2.2.2.2.2.2.2.2.2.1/\Ons g.2.2.2.2.2.2.2.2.2.2.2.2.2.2.2.2.1 wy)) (m':=m+710 *i+710) D fK7 D D D D (fun wx hm=>(cO9 wx B sb _ hm.k G).mono fun _ _ ⟨rA,rn,rc,rl,eA,en,ec,el,fA,fn,fc,fl,cA,cn,cc,cl,tA,tn,tc,tl,he,hq,hs,hS,hg⟩=>⟨(rl,rA,rn,rc,el,eA,en,ec,fl,fA,fn,fc,cl,cA,cn,cc,tl,tA,tn,tc),he,hq,hS,hg,hs⟩) (fun _=>(SlT.lasts2 D).and_ ((SlT.lasts2 D).and_ ((SlT.lasts2 D).and_ ((SlT.lasts2 D).and_ ((SlT.lasts2 D).and_ (Ons.lasts D)))))) ?_
  rintro ⟨rl,rA,rn,rc,el,eA,en,ec,fl,fA,fn,fc,cl,cA,cn,cc,tl,tA,tn,tc⟩ hT
  dsimp only at hT ⊢
  have hT0:=hT
  obtain ⟨⟨hrg,hrn0,hrc⟩,⟨heo,hen0,hec⟩,⟨hfo,hfn0,hfc⟩,⟨pI,hcn0,hcc⟩,⟨hto,htn,htc⟩⟩:=hT
  have hro:∀x∈rl,cV2 x:=fR5 hrg
  obtain ⟨TE,hTE⟩:∃E,E=uM rl el fl cl tl:=⟨_,rfl⟩
  refine dM fK2 D fun g2=>kE (cs':= [H rA rn rc,H eA en ec,H fA fn fc,H cA cn cc,H tA tn tc]) 0 cN3 D D D D (bU (bX (W (dG cN3 D (fun _ hm=>hm.blkI 0 D) D D) D (cR (v:=J TE) D fL7 D D (fun wx hm=>(by rw [hTE];exact bL9 rl rA rn rc el eA en ec fl fA fn fc cl cA cn cc tl tA tn tc wx (hm.fact 0 rfl).1 (hm.fact 0 rfl).2.1 (hm.fact 0 rfl).2.2.1 (hm.fact 0 rfl).2.2.2.1 (hm.fact 0 rfl).2.2.2.2.1 (hm.fact 0 rfl).2.2.2.2.2 hro heo hfo pI hto G G G G htn htc)) (W (eT D D) D (bU ?_))))))
  refine cN D (fun h0=>?_) (fun h0=>?_)
  ·refine bX ?_
   refine W (dG cN3 D (fun _ hm=>hm.blkI 0 D) D D) D (kE (cs':= [H rA rn rc,H eA en ec,H fA fn fc,H cA cn cc,H tA tn tc]) 1 cN3 D D D D (bU (bR (C (F (F (C (F ?_))))))))
   refine bU9 1 D cN3 D D D fun wx hm=>?_
   exact ⟨rA,rn,rc,rl,eA,en,ec,el,fA,fn,fc,fl,cA,cn,cc,cl,tA,tn,tc,tl,D,⟨hT0,hTE.symm.trans (by simpa using h0)⟩,(hm.fact 0 D),hm.k.more G,hm.g⟩
  refine bN (bK (bG (bM (fY D D (bS D (bH ?_))))))
  exact cQ (i+1) G G ⟨D,D,(cP G),bB⟩ (fun _ hm=>(hm.more D (by first|omega|(dsimp only;omega))).pick [1] [] [] D D)
 refine dD (bI (bI (bY (bG (bX (bS D ?_))))))
 refine pH (γ:=Option Addr×Nat×Nat×List Rt) (val:=(fun g=>H g.1 g.2.1 g.2.2.1)) (φ:=(fun g=>(∀x∈g.2.2.2,RtG x)/\g.2.1<=9/\g.2.1<=g.2.2.1/\qE g.2.2.2=0)) (Y:=(fun g=>fun wy=>SlT mG 7 168 wy g.1 g.2.1 g.2.2.2)) (m':=m+710 *i+120) D fJ4 D D D D (fun wx hm=>(bI3 wx B sb _ hm.k G).mono fun _ _ ⟨A,n,c0,l,he,ho,hok,hl,hn,hrz,hS,hg⟩=>⟨(A,n,c0,l),he,⟨eF9 hok,hn,kK ho,hrz⟩,hS,hg,SlT.ofOwn wA ho hl⟩) (fun _=>SlT.lasts2 D) ?_
 rintro ⟨rA,rn,rc,rl⟩ hR
 dsimp only at hR ⊢
 obtain ⟨hrg,hrn,hrc,hrz⟩:=hR
 refine W (dL (cs:= [H rA rn rc,H none 0 0,H none 0 0,H none 0 0,H none 0 0]) D bC) D (kE (cs':= [H rA rn rc,H none 0 0,H none 0 0,H none 0 0,H none 0 0]) 0 cN3 D D D D (bU (bR ?_)))
 refine bU9 0 D cN3 D D D fun wx hm=>?_
 exact ⟨rA,rn,rc,rl,none,0,0, [],none,0,0, [],none,0,0, [],none,0,0, [],D,⟨⟨⟨hrg,G,hrc⟩,⟨(fun _ h=>by cases h),Nat.zero_le _,Nat.zero_le _⟩,⟨(fun _ h=>by cases h),Nat.zero_le _,Nat.zero_le _⟩,⟨(fun _ h=>by cases h),Nat.zero_le _,Nat.zero_le _⟩,⟨(fun _ h=>by cases h),Nat.zero_le _,Nat.zero_le _⟩⟩,cR7 hrz⟩,⟨(hm.fact 0 D),SlT.nil_ _ _,SlT.nil_ _ _,SlT.nil_ _ _,SlT.nil_ _ _,(fun _ h=>by cases h)⟩,hm.k.more G,hm.g⟩
end Go.Proofs.YtapdhfjfgpbnnaaGreatDoor
