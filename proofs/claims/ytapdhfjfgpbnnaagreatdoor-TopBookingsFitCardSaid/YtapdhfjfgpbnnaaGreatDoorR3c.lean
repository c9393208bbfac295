/- Several texts as one: Ef Dkc Tw Dkd Cl Gb Fq Ci By Ss1 Rt2 Bg Bw Dke Dkf -/
import Derived.Test.YtapdhfjfgpbnnaaGreatDoorR3a
import Derived.Test.YtapdhfjfgpbnnaaGreatDoorR3b
import Derived.Test.YtapdhfjfgpbnnaaGreatDoorProg
import Derived.Ground.NamesProg
import Derived.Shelf.Sort.Plain
set_option maxRecDepth 100000
set_option maxHeartbeats 4000000
namespace Go.Proofs.YtapdhfjfgpbnnaaGreatDoor
open Tryz
open Go.RowKit
theorem bX3(s0:Int)(s1:M)(s2 e0:Int)(e1 e2:M)(e3:Int)(e4:M)(w:World):Calls prog 213 #[.agg #[J s0,U s1,J s2],.agg #[J e0,U e1,U e2,J e3,U e4]] w (fun e w'=>e=.returned (.tuple #[.agg (mB (jJ (⟨s0,s1,s2⟩:Sa) (⟨e0,e1,e2,e3,e4⟩:Ev))).toArray,.bool (kB (⟨s0,s1,s2⟩:Sa) (⟨e0,e1,e2,e3,e4⟩:Ev))])/\w.grownBy w' none):=by
 refine cY ⟨74,w,none, []⟩ func213 D ntmps213 D (fZ (X:= []) cZ dA) (bX (fS D D D fun g1=>fS D D D fun g2=>dM eK4 D fun g3=>cG D (bU (bX (dZ eU5 D D (eO fR 2 D D D (dZ xI D D (eO fR 1 D D D (W (eS D D) D (cG D (bU (bJ (bM (dZ wF D D (eO fM 2 D D D (W (eT D D) D (bS D ?_)))))))))))))))))
 rcases Bool.eq_false_or_eq_true (decide (s0=1)) with h0|h0
 ·refine bO 19 D (fW9 h0) ?_
  refine eN D (bS D (mS D D (cG D (bU (bJ (gd (fun wz=>Blk wz g2 181 [J e0,U e1,U e2,J e3,U e4]/\True) mixed (fun _ hm=>⟨hm.bl 1,bB⟩) fun z=>wq 0 D (bW xI D D) (wq 1 D (cH fR D (fun _ hm=>hm.1) D) (wq 2 D (dB D) (wq 3 D (dB D) (wq 4 D (dB D) (gY (bG (bJ (bX (dZ cH6 D D (eO fM 1 D D D (bU (bP (bX (W (eT D D) D (cG D (bH (bG ?_)))))))))))))))))))))))
  refine cN D (fun h1=>?_) (fun h1=>?_)
  ·refine gd (fun wz=>Blk wz g1 305 [J s0,U s1,J s2]/\True) mixed (fun _ hm=>⟨hm.bl 2,bB⟩) fun z=>?_
   refine wq 0 D (bW wF D D) (wq 1 D (cH fM D (fun _ hm=>hm.1) D) (wq 2 D (eT D D) (wq 3 D (dB D) (wq 4 D (dB D) (gY (bK (bG (bJ (bX (bS D (W (cS D) D (bU ?_))))))))))))
   refine dE D (fun hh=>?_) (fun hh=>?_)
   ·have h2:(decide (s0=0))=false:=by simpa using hh
    refine bX (W (dG fC D (fun _ hm=>hm.blkI 2 D) D D) D (kE (cs':= [J s0,U s1,J s2]) 0 fC D D D D (cG D (bU (bR (F ?_))))))
    refine fD 0 D fC D D D D fun wx hm=>?_
    have hg:=hm.g
    clear hm
    exact ⟨by simp [kB,jJ,mB, *],hg⟩
   have h2:(decide (s0=0))=true:=by simpa using hh
   refine bN (bG (bX (bS D (bS D (dZ nI D D (eO fM 1 D D D (W (dL (cs:= [J 1,U e2,J e0]) D bC) D (kE (cs':= [J 1,U e2,J e0]) 0 fC D D D D (cG D (bU (bR ?_)))))))))))
   refine fD 0 D fC D D D D fun wx hm=>?_
   have hg:=hm.g
   clear hm
   exact ⟨by simp [kB,jJ,yL,mB, *],hg⟩
  refine bX (W (eT D D) D (cG D (bU ?_)))
  refine cN D (fun h2=>?_) (fun h2=>?_)
  ·refine bM (bS D (cG D (cG D (cG D (bH (bK (bG (bJ (bX (bS D (W (cS D) D (bH ?_))))))))))))
   refine bG ?_
   refine dE D (fun hh=>?_) (fun hh=>?_)
   ·have h3:(s1.toList==e2.toList)=false:=by simpa using hh
    refine bX (W (dG fC D (fun _ hm=>hm.blkI 2 D) D D) D (kE (cs':= [J s0,U s1,J s2]) 0 fC D D D D (cG D (bU (bR (F ?_))))))
    refine fD 0 D fC D D D D fun wx hm=>?_
    have hg:=hm.g
    clear hm
    exact ⟨by simp [kB,jJ,mB, *],hg⟩
   have h3:(s1.toList==e2.toList)=true:=by simpa using hh
   refine bN (bG (bX (bS D (bS D (dZ nI D D (eO fM 1 D D D (W (dL (cs:= [J 2,U ⟨#[]⟩,J e0]) D bC) D (kE (cs':= [J 2,U ⟨#[]⟩,J e0]) 0 fC D D D D (cG D (bU (bR ?_)))))))))))
   refine fD 0 D fC D D D D fun wx hm=>?_
   have hg:=hm.g
   clear hm
   exact ⟨by simp [kB,jJ,yL,mB, *],hg⟩
  refine bX (W (eT D D) D (cG D (bU ?_)))
  refine cN D (fun h3=>?_) (fun h3=>?_)
  ·refine gd (fun wz=>Blk wz g1 305 [J s0,U s1,J s2]/\True) mixed (fun _ hm=>⟨hm.bl 2,bB⟩) fun z=>?_
   refine wq 0 D (bW wF D D) (wq 1 D (cH fM D (fun _ hm=>hm.1) D) (wq 2 D (eT D D) (wq 3 D (dB D) (wq 4 D (dB D) (gY (bK (bG (bJ (bX (bS D (W (cS D) D (bU ?_))))))))))))
   refine dE D (fun hh=>?_) (fun hh=>?_)
   ·have h4:(decide (s0=2))=false:=by simpa using hh
    refine bX (W (dG fC D (fun _ hm=>hm.blkI 2 D) D D) D (kE (cs':= [J s0,U s1,J s2]) 0 fC D D D D (cG D (bU (bR (F ?_))))))
    refine fD 0 D fC D D D D fun wx hm=>?_
    have hg:=hm.g
    clear hm
    exact ⟨by simp [kB,jJ,mB, *],hg⟩
   have h4:(decide (s0=2))=true:=by simpa using hh
   refine bN (bG (bX (bS D (bS D (dZ nI D D (eO fM 1 D D D (W (dL (cs:= [J 1,U e2,J e0]) D bC) D (kE (cs':= [J 1,U e2,J e0]) 0 fC D D D D (cG D (bU (bR ?_)))))))))))
   refine fD 0 D fC D D D D fun wx hm=>?_
   have hg:=hm.g
   clear hm
   exact ⟨by simp [kB,jJ,yL,mB, *],hg⟩
  refine bX (W (eT D D) D (cG D (bU ?_)))
  refine cN D (fun h4=>?_) (fun h4=>?_)
  ·refine bM (bS D (cG D (cG D (bH (bK (bG (bJ (bX (bS D (W (cS D) D (bU ?_)))))))))))
   refine dE D (fun hh=>?_) (fun hh=>?_)
   ·have h5:(s1.toList==e2.toList)=false:=by simpa using hh
    refine bX (W (dG fC D (fun _ hm=>hm.blkI 2 D) D D) D (kE (cs':= [J s0,U s1,J s2]) 0 fC D D D D (cG D (bU (bR (F ?_))))))
    refine fD 0 D fC D D D D fun wx hm=>?_
    have hg:=hm.g
    clear hm
    exact ⟨by simp [kB,jJ,mB, *],hg⟩
   have h5:(s1.toList==e2.toList)=true:=by simpa using hh
   refine bN (bG (bX (bS D (bS D (dZ nI D D (eO fM 1 D D D (W (dL (cs:= [J 3,U e2,J e0]) D bC) D (kE (cs':= [J 3,U e2,J e0]) 0 fC D D D D (cG D (bU (bR ?_)))))))))))
   refine fD 0 D fC D D D D fun wx hm=>?_
   have hg:=hm.g
   clear hm
   exact ⟨by simp [kB,jJ,yL,mB, *],hg⟩
  refine bX (W (eT D D) D (cG D (bU ?_)))
  refine cN D (fun h5=>?_) (fun h5=>?_)
  ·refine bM (dZ wF D D (eO fM 2 D D D (W (eT D D) D (bS D ?_))))
   rcases Bool.eq_false_or_eq_true (decide (s0=3)) with h6|h6
   ·refine bO 47 D (fW9 h6) ?_
    refine eN D (bS D (mS D D (cG D (cG D (bH (bK (bG (bJ (bX (bS D (W (cS D) D (bU ?_))))))))))))
    refine dE D (fun hh=>?_) (fun hh=>?_)
    ·have h7:(s1.toList==e2.toList)=false:=by simpa using hh
     refine bX (W (dG fC D (fun _ hm=>hm.blkI 2 D) D D) D (kE (cs':= [J s0,U s1,J s2]) 0 fC D D D D (cG D (bU (bR (F ?_))))))
     refine fD 0 D fC D D D D fun wx hm=>?_
     have hg:=hm.g
     clear hm
     exact ⟨by simp [kB,jJ,mB, *],hg⟩
    have h7:(s1.toList==e2.toList)=true:=by simpa using hh
    refine bN (bG (bX (bS D (bS D (dZ nI D D (eO fM 1 D D D (W (dL (cs:= [J 1,U e2,J e0]) D bC) D (kE (cs':= [J 1,U e2,J e0]) 0 fC D D D D (cG D (bU (bR ?_)))))))))))
    refine fD 0 D fC D D D D fun wx hm=>?_
    have hg:=hm.g
    clear hm
    exact ⟨by simp [kB,jJ,yL,mB, *],hg⟩
   refine bO 47 D (fW9 h6) (eE D (nV D D (cG D (cG D (bH (bK (bG (bJ (bX (bS D (W (cS D) D (bO 67 (v':= .bool true) D (fW9 bD) (bU (mT D (bX (W (dG fC D (fun _ hm=>hm.blkI 2 D) D D) D (kE (cs':= [J s0,U s1,J s2]) 0 fC D D D D (cG D (bU (bR (F ?_)))))))))))))))))))))
   refine fD 0 D fC D D D D fun wx hm=>?_
   have hg:=hm.g
   clear hm
   exact ⟨by simp [kB,jJ,mB, *],hg⟩
  refine bX (W (eT D D) D (cG D (bU ?_)))
  refine cN D (fun h6=>?_) (fun h6=>?_)
  ·refine gd (fun wz=>Blk wz g2 181 [J e0,U e1,U e2,J e3,U e4]/\True) mixed (fun _ hm=>⟨hm.bl 1,bB⟩) fun z=>?_
   refine wq 0 D (bW zD D D) (wq 1 D (cH fR D (fun _ hm=>hm.1) D) (wq 2 D (bL D) (wq 3 D (dB D) (wq 4 D (dB D) (wq 5 D (dB D) (gY (bK (bG (bJ (bX (bS D (W (cS D) D (bU ?_)))))))))))))
   refine dE D (fun hh=>?_) (fun hh=>?_)
   ·have h7:(s1.toList==e2.toList)=false:=by simpa using hh
    refine bX (W (dG fC D (fun _ hm=>hm.blkI 2 D) D D) D (kE (cs':= [J s0,U s1,J s2]) 0 fC D D D D (cG D (bU (bR (F ?_))))))
    refine fD 0 D fC D D D D fun wx hm=>?_
    have hg:=hm.g
    clear hm
    exact ⟨by simp [kB,jJ,mB, *],hg⟩
   have h7:(s1.toList==e2.toList)=true:=by simpa using hh
   refine bN (bG (bX (bS D (bS D (dZ nI D D (eO fM 1 D D D (W (dL (cs:= [J 4,U e4,J e0]) D bC) D (kE (cs':= [J 4,U e4,J e0]) 0 fC D D D D (cG D (bU (bR ?_)))))))))))
   refine fD 0 D fC D D D D fun wx hm=>?_
   have hg:=hm.g
   clear hm
   exact ⟨by simp [kB,jJ,yL,mB, *],hg⟩
  refine bX (W (eT D D) D (cG D (bU ?_)))
  refine cN D (fun h7=>?_) (fun h7=>?_)
  ·refine bM (dZ wF D D (eO fM 2 D D D (W (eT D D) D (bS D ?_))))
   rcases Bool.eq_false_or_eq_true (decide (s0=4)) with h8|h8
   ·refine bO 60 D (fW9 h8) ?_
    refine eN D (bS D (mS D D (cG D (cG D (bH (bK (bG (bJ (bX (bS D (W (cS D) D (bU ?_))))))))))))
    refine dE D (fun hh=>?_) (fun hh=>?_)
    ·have h9:(s1.toList==e2.toList)=false:=by simpa using hh
     refine bX (W (dG fC D (fun _ hm=>hm.blkI 2 D) D D) D (kE (cs':= [J s0,U s1,J s2]) 0 fC D D D D (cG D (bU (bR (F ?_))))))
     refine fD 0 D fC D D D D fun wx hm=>?_
     have hg:=hm.g
     clear hm
     exact ⟨by simp [kB,jJ,mB, *],hg⟩
    have h9:(s1.toList==e2.toList)=true:=by simpa using hh
    refine bN (bG (bX (bS D (bS D (dZ nI D D (eO fM 1 D D D (W (dL (cs:= [J 1,U e2,J e0]) D bC) D (kE (cs':= [J 1,U e2,J e0]) 0 fC D D D D (cG D (bU (bR ?_)))))))))))
    refine fD 0 D fC D D D D fun wx hm=>?_
    have hg:=hm.g
    clear hm
    exact ⟨by simp [kB,jJ,yL,mB, *],hg⟩
   refine bO 60 D (fW9 h8) (eE D (nV D D (cG D (cG D (bH (bK (bG (bJ (bX (bS D (W (cS D) D (bO 67 (v':= .bool true) D (fW9 bD) (bU (mT D (bX (W (dG fC D (fun _ hm=>hm.blkI 2 D) D D) D (kE (cs':= [J s0,U s1,J s2]) 0 fC D D D D (cG D (bU (bR (F ?_)))))))))))))))))))))
   refine fD 0 D fC D D D D fun wx hm=>?_
   have hg:=hm.g
   clear hm
   exact ⟨by simp [kB,jJ,mB, *],hg⟩
  refine bX (W (eT D D) D (cG D (bU ?_)))
  refine cN D (fun h8=>?_) (fun h8=>?_)
  ·refine bM (bS D (cG D (cG D (cG D (bH (bK (bG (bJ (bX (bS D (W (cS D) D (bH ?_))))))))))))
   refine bG ?_
   refine dE D (fun hh=>?_) (fun hh=>?_)
   ·have h9:(s1.toList==e2.toList)=false:=by simpa using hh
    refine bX (W (dG fC D (fun _ hm=>hm.blkI 2 D) D D) D (kE (cs':= [J s0,U s1,J s2]) 0 fC D D D D (cG D (bU (bR (F ?_))))))
    refine fD 0 D fC D D D D fun wx hm=>?_
    have hg:=hm.g
    clear hm
    exact ⟨by simp [kB,jJ,mB, *],hg⟩
   have h9:(s1.toList==e2.toList)=true:=by simpa using hh
   refine bN (bG (bX (bS D (bS D (dZ nI D D (eO fM 1 D D D (W (dL (cs:= [J 5,U ⟨#[]⟩,J e0]) D bC) D (kE (cs':= [J 5,U ⟨#[]⟩,J e0]) 0 fC D D D D (cG D (bU (bR ?_)))))))))))
   refine fD 0 D fC D D D D fun wx hm=>?_
   have hg:=hm.g
   clear hm
   exact ⟨by simp [kB,jJ,yL,mB, *],hg⟩
  refine bN (bK (bG (bJ (bX (bS D (W (cS D) D (bO 67 (v':= .bool true) D (fW9 bD) (bU (mT D (bX (W (dG fC D (fun _ hm=>hm.blkI 2 D) D D) D (kE (cs':= [J s0,U s1,J s2]) 0 fC D D D D (cG D (bU (bR (F ?_))))))))))))))))
  refine fD 0 D fC D D D D fun wx hm=>?_
  have hg:=hm.g
  clear hm
  exact ⟨by simp [kB,jJ,mB, *],hg⟩
 refine bO 19 D (fW9 h0) (eE D (nV D D (cG D (bU (bJ (gd (fun wz=>Blk wz g2 181 [J e0,U e1,U e2,J e3,U e4]/\True) mixed (fun _ hm=>⟨hm.bl 1,bB⟩) fun z=>wq 0 D (bW xI D D) (wq 1 D (cH fR D (fun _ hm=>hm.1) D) (wq 2 D (dB D) (wq 3 D (dB D) (wq 4 D (dB D) (gY (bG (bJ (bX (dZ cH6 D D (eO fM 1 D D D (bU (bP (bX (W (eT D D) D (cG D (bH (bG ?_)))))))))))))))))))))))
 refine cN D (fun h1=>?_) (fun h1=>?_)
 ·refine gd (fun wz=>Blk wz g1 305 [J s0,U s1,J s2]/\True) mixed (fun _ hm=>⟨hm.bl 2,bB⟩) fun z=>?_
  refine wq 0 D (bW wF D D) (wq 1 D (cH fM D (fun _ hm=>hm.1) D) (wq 2 D (eT D D) (wq 3 D (dB D) (wq 4 D (dB D) (gY (bK (bG (bJ (bX (bS D (W (cS D) D (bU ?_))))))))))))
  refine dE D (fun hh=>?_) (fun hh=>?_)
  ·have h2:(decide (s0=0))=false:=by simpa using hh
   refine bX (W (dG fC D (fun _ hm=>hm.blkI 2 D) D D) D (kE (cs':= [J s0,U s1,J s2]) 0 fC D D D D (cG D (bU (bR (F ?_))))))
   refine fD 0 D fC D D D D fun wx hm=>?_
   have hg:=hm.g
   clear hm
   exact ⟨by simp [kB,jJ,mB, *],hg⟩
  have h2:(decide (s0=0))=true:=by simpa using hh
  refine bN (bG (bX (bS D (bS D (dZ nI D D (eO fM 1 D D D (W (dL (cs:= [J 1,U e2,J e0]) D bC) D (kE (cs':= [J 1,U e2,J e0]) 0 fC D D D D (cG D (bU (bR ?_)))))))))))
  refine fD 0 D fC D D D D fun wx hm=>?_
  have hg:=hm.g
  clear hm
  exact ⟨by simp [kB,jJ,yL,mB, *],hg⟩
 refine bX (W (eT D D) D (cG D (bU ?_)))
 refine cN D (fun h2=>?_) (fun h2=>?_)
 ·refine bM (bS D (cG D (cG D (cG D (bH (bK (bG (bJ (bX (bS D (W (cS D) D ?_)))))))))))
  refine bO 67 (v':= .bool true) D (fW9 bD) (bU (mT D (bX (W (dG fC D (fun _ hm=>hm.blkI 2 D) D D) D (kE (cs':= [J s0,U s1,J s2]) 0 fC D D D D (cG D (bU (bR (F ?_)))))))))
  refine fD 0 D fC D D D D fun wx hm=>?_
  have hg:=hm.g
  clear hm
  exact ⟨by simp [kB,jJ,mB, *],hg⟩
 refine bX (W (eT D D) D (cG D (bU ?_)))
 refine cN D (fun h3=>?_) (fun h3=>?_)
 ·refine gd (fun wz=>Blk wz g1 305 [J s0,U s1,J s2]/\True) mixed (fun _ hm=>⟨hm.bl 2,bB⟩) fun z=>?_
  refine wq 0 D (bW wF D D) (wq 1 D (cH fM D (fun _ hm=>hm.1) D) (wq 2 D (eT D D) (wq 3 D (dB D) (wq 4 D (dB D) (gY (bK (bG (bJ (bX (bS D (W (cS D) D (bU ?_))))))))))))
  refine dE D (fun hh=>?_) (fun hh=>?_)
  ·have h4:(decide (s0=2))=false:=by simpa using hh
   refine bX (W (dG fC D (fun _ hm=>hm.blkI 2 D) D D) D (kE (cs':= [J s0,U s1,J s2]) 0 fC D D D D (cG D (bU (bR (F ?_))))))
   refine fD 0 D fC D D D D fun wx hm=>?_
   have hg:=hm.g
   clear hm
   exact ⟨by simp [kB,jJ,mB, *],hg⟩
  have h4:(decide (s0=2))=true:=by simpa using hh
  refine bN (bG (bX (bS D (bS D (dZ nI D D (eO fM 1 D D D (W (dL (cs:= [J 1,U e2,J e0]) D bC) D (kE (cs':= [J 1,U e2,J e0]) 0 fC D D D D (cG D (bU (bR ?_)))))))))))
  refine fD 0 D fC D D D D fun wx hm=>?_
  have hg:=hm.g
  clear hm
  exact ⟨by simp [kB,jJ,yL,mB, *],hg⟩
 refine bX (W (eT D D) D (cG D (bU ?_)))
 refine cN D (fun h4=>?_) (fun h4=>?_)
 ·refine bM (bS D (cG D (cG D (bH (bK (bG (bJ (bX (bS D (W (cS D) D ?_))))))))))
  refine bO 67 (v':= .bool true) D (fW9 bD) (bU (mT D (bX (W (dG fC D (fun _ hm=>hm.blkI 2 D) D D) D (kE (cs':= [J s0,U s1,J s2]) 0 fC D D D D (cG D (bU (bR (F ?_)))))))))
  refine fD 0 D fC D D D D fun wx hm=>?_
  have hg:=hm.g
  clear hm
  exact ⟨by simp [kB,jJ,mB, *],hg⟩
 refine bX (W (eT D D) D (cG D (bU ?_)))
 refine cN D (fun h5=>?_) (fun h5=>?_)
 ·refine bM (dZ wF D D (eO fM 2 D D D (W (eT D D) D (bS D ?_))))
  rcases Bool.eq_false_or_eq_true (decide (s0=3)) with h6|h6
  ·refine bO 47 D (fW9 h6) ?_
   refine eN D (bS D (mS D D (cG D (cG D (bH (bK (bG (bJ (bX (bS D (W (cS D) D (bU ?_))))))))))))
   refine dE D (fun hh=>?_) (fun hh=>?_)
   ·have h7:(s1.toList==e2.toList)=false:=by simpa using hh
    refine bX (W (dG fC D (fun _ hm=>hm.blkI 2 D) D D) D (kE (cs':= [J s0,U s1,J s2]) 0 fC D D D D (cG D (bU (bR (F ?_))))))
    refine fD 0 D fC D D D D fun wx hm=>?_
    have hg:=hm.g
    clear hm
    exact ⟨by simp [kB,jJ,mB, *],hg⟩
   have h7:(s1.toList==e2.toList)=true:=by simpa using hh
   refine bN (bG (bX (bS D (bS D (dZ nI D D (eO fM 1 D D D (W (dL (cs:= [J 1,U e2,J e0]) D bC) D (kE (cs':= [J 1,U e2,J e0]) 0 fC D D D D (cG D (bU (bR ?_)))))))))))
   refine fD 0 D fC D D D D fun wx hm=>?_
   have hg:=hm.g
   clear hm
   exact ⟨by simp [kB,jJ,yL,mB, *],hg⟩
  refine bO 47 D (fW9 h6) (eE D (nV D D (cG D (cG D (bH (bK (bG (bJ (bX (bS D (W (cS D) D (bO 67 (v':= .bool true) D (fW9 bD) (bU (mT D (bX (W (dG fC D (fun _ hm=>hm.blkI 2 D) D D) D (kE (cs':= [J s0,U s1,J s2]) 0 fC D D D D (cG D (bU (bR (F ?_)))))))))))))))))))))
  refine fD 0 D fC D D D D fun wx hm=>?_
  have hg:=hm.g
  clear hm
  exact ⟨by simp [kB,jJ,mB, *],hg⟩
 refine bX (W (eT D D) D (cG D (bU ?_)))
 refine cN D (fun h6=>?_) (fun h6=>?_)
 ·refine gd (fun wz=>Blk wz g2 181 [J e0,U e1,U e2,J e3,U e4]/\True) mixed (fun _ hm=>⟨hm.bl 1,bB⟩) fun z=>?_
  refine wq 0 D (bW zD D D) (wq 1 D (cH fR D (fun _ hm=>hm.1) D) (wq 2 D (bL D) (wq 3 D (dB D) (wq 4 D (dB D) (wq 5 D (dB D) (gY (bK (bG (bJ (bX (bS D (W (cS D) D (bO 67 (v':= .bool true) D (fW9 bD) (bU (mT D (bX (W (dG fC D (fun _ hm=>hm.blkI 2 D) D D) D (kE (cs':= [J s0,U s1,J s2]) 0 fC D D D D (cG D (bU (bR (F ?_))))))))))))))))))))))
  refine fD 0 D fC D D D D fun wx hm=>?_
  have hg:=hm.g
  clear hm
  exact ⟨by simp [kB,jJ,mB, *],hg⟩
 refine bX (W (eT D D) D (cG D (bU ?_)))
 refine cN D (fun h7=>?_) (fun h7=>?_)
 ·refine bM (dZ wF D D (eO fM 2 D D D (W (eT D D) D (bS D ?_))))
  rcases Bool.eq_false_or_eq_true (decide (s0=4)) with h8|h8
  ·refine bO 60 D (fW9 h8) ?_
   refine eN D (bS D (mS D D (cG D (cG D (bH (bK (bG (bJ (bX (bS D (W (cS D) D (bU ?_))))))))))))
   refine dE D (fun hh=>?_) (fun hh=>?_)
   ·have h9:(s1.toList==e2.toList)=false:=by simpa using hh
    refine bX (W (dG fC D (fun _ hm=>hm.blkI 2 D) D D) D (kE (cs':= [J s0,U s1,J s2]) 0 fC D D D D (cG D (bU (bR (F ?_))))))
    refine fD 0 D fC D D D D fun wx hm=>?_
    have hg:=hm.g
    clear hm
    exact ⟨by simp [kB,jJ,mB, *],hg⟩
   have h9:(s1.toList==e2.toList)=true:=by simpa using hh
   refine bN (bG (bX (bS D (bS D (dZ nI D D (eO fM 1 D D D (W (dL (cs:= [J 1,U e2,J e0]) D bC) D (kE (cs':= [J 1,U e2,J e0]) 0 fC D D D D (cG D (bU (bR ?_)))))))))))
   refine fD 0 D fC D D D D fun wx hm=>?_
   have hg:=hm.g
   clear hm
   exact ⟨by simp [kB,jJ,yL,mB, *],hg⟩
  refine bO 60 D (fW9 h8) (eE D (nV D D (cG D (cG D (bH (bK (bG (bJ (bX (bS D (W (cS D) D (bO 67 (v':= .bool true) D (fW9 bD) (bU (mT D (bX (W (dG fC D (fun _ hm=>hm.blkI 2 D) D D) D (kE (cs':= [J s0,U s1,J s2]) 0 fC D D D D (cG D (bU (bR (F ?_)))))))))))))))))))))
  refine fD 0 D fC D D D D fun wx hm=>?_
  have hg:=hm.g
  clear hm
  exact ⟨by simp [kB,jJ,mB, *],hg⟩
 refine bX (W (eT D D) D (cG D (bU ?_)))
 refine cN D (fun h8=>?_) (fun h8=>?_)
 ·refine bM (bS D (cG D (cG D (cG D (bH (bK (bG (bJ (bX (bS D (W (cS D) D ?_)))))))))))
  refine bO 67 (v':= .bool true) D (fW9 bD) (bU (mT D (bX (W (dG fC D (fun _ hm=>hm.blkI 2 D) D D) D (kE (cs':= [J s0,U s1,J s2]) 0 fC D D D D (cG D (bU (bR (F ?_)))))))))
  refine fD 0 D fC D D D D fun wx hm=>?_
  have hg:=hm.g
  clear hm
  exact ⟨by simp [kB,jJ,mB, *],hg⟩
 refine bN (bK (bG (bJ (bX (bS D (W (cS D) D (bO 67 (v':= .bool true) D (fW9 bD) (bU (mT D (bX (W (dG fC D (fun _ hm=>hm.blkI 2 D) D D) D (kE (cs':= [J s0,U s1,J s2]) 0 fC D D D D (cG D (bU (bR (F ?_))))))))))))))))
 refine fD 0 D fC D D D D fun wx hm=>?_
 have hg:=hm.g
 clear hm
 exact ⟨by simp [kB,jJ,mB, *],hg⟩
theorem gW{l:List Nat}(h:l.Nodup){i j a b:Nat}(ha:l[i]?=some a)(hb:l[j]?=some b)(hij:i≠j):a≠b:=fun e=>by
 subst e
 obtain ⟨h1,e1⟩:=List.getElem?_eq_some_iff.1 ha
 obtain ⟨h2,e2⟩:=List.getElem?_eq_some_iff.1 hb
 rcases Nat.lt_or_ge i j with h3|h3
 ·exact List.pairwise_iff_getElem.1 h i j h1 h2 h3 (e1.trans e2.symm)
 ·exact List.pairwise_iff_getElem.1 h j i h2 h1 G (e2.trans e1.symm)
theorem rP.cells{w:World}(h:rP w){k:Nat}(hk:isG k):∃c T f,w.heap[k]?=some (.cells c T f):=by
 obtain ⟨⟨T1,f1,h1⟩,⟨c2,T2,f2,m2,h2,_⟩,⟨T3,f3,t3,p3,h3⟩,T4,f4,t4,p4,h4⟩:=h
 rcases hk with rfl|rfl|rfl|rfl
 ·exact ⟨_,_,_,h1⟩
 ·exact ⟨_,_,_,h2⟩
 ·exact ⟨_,_,_,h3⟩
 ·exact ⟨_,_,_,h4⟩
theorem TxtO.mfar{N:Nat}:bN3 (TxtO N none):=fun M' g w w' _ ⟨es,ck,hb⟩ h3 h=>⟨h.1.same fun k hk=>h3.block k (h.1.lt hk) (fun e=>by
 have e2:k=g:=by injection e
 subst e2
 obtain ⟨c,T,f,hc⟩:=h.1.cells hk
 rw [hb] at hc;cases hc),h.2⟩
def cQ5(σ:Os)(x:Ev):Int:=dK [dO ((σ.fa (x.veh,x.at_)).getD false) 6,dO (!kB ((σ.fs x.veh).getD sa0) x) 11]
theorem rD{σ:Os}{x:Ev}:cQ5 σ x=0↔bQ6 σ x:=by
 unfold cQ5 bQ6
 cases h1:(σ.fa (x.veh,x.at_)).getD false <;> cases h2:kB ((σ.fs x.veh).getD sa0) x <;> simp [dK,dO]
theorem uA(σ:Os)(u0 u2 u3 u4 u5 u6 u7 u8 u9 jR jS jT jU jV jW:Value)(go gv gs gI gF gG gJ gO:Nat)(cA:Option Addr)(cn cc:Nat)(lv rv:Value)(e0:Int)(e1 e2:M)(e3:Int)(e4:M)(N0:Nat)(w:World)(hb:Blk w go 98 [u0,H cA cn cc,u2,u3,u4,u5,u6,u7,u8,u9,jR,jS,jT,jU,jV,jW,.map (some gv),.map (some gs),.map (some gI),lv,.map (some gF),.map (some gG),.map (some gJ),.map (some gO),rv])(hst:cB rJ dT N0 gI (σ.fs) w)(hat:cB vB nN N0 gF (σ.fa) w):
 Calls prog 178 #[.pointer (some ⟨go,0,none⟩),.agg #[J e0,U e1,U e2,J e3,U e4]] w (nG w (cQ5 σ ⟨e0,e1,e2,e3,e4⟩)):=by
 refine cY ⟨35,w,none, []⟩ func178 D ntmps178 D (fZ (X:= [eC w.heap.size none go 98 [u0,H cA cn cc,u2,u3,u4,u5,u6,u7,u8,u9,jR,jS,jT,jU,jV,jW,.map (some gv),.map (some gs),.map (some gI),lv,.map (some gF),.map (some gG),.map (some gJ),.map (some gO),rv],cB rJ dT N0 gI (σ.fs),cB vB nN N0 gF (σ.fa)]) (cC hb.old (cC hst (cC hat cZ))) (cE eC.lasts (cE cB.lasts2 (cE cB.lasts2 dA)))) (bX ?_)
 obtain ⟨ss,hss⟩:∃z,z=(σ.fs e1).getD sa0:=⟨_,rfl⟩
 obtain ⟨tw,htw⟩:∃z,z=(σ.fa (e1,e0)).getD false:=⟨_,rfl⟩
 obtain ⟨GB,hGB⟩:∃z,z=kB ss (⟨e0,e1,e2,e3,e4⟩:Ev):=⟨_,rfl⟩
 obtain ⟨CE,hCE⟩:∃z,z=cQ5 σ ⟨e0,e1,e2,e3,e4⟩:=⟨_,rfl⟩
 have hCE2:CE=dK [dO tw 6,dO (!GB) 11]:=by rw [hCE,hGB,hss,htw];rfl
 rw [<-hCE]
 obtain ⟨s0,s1,s2⟩:=ss
 refine fS D D D fun g1=>cG D (bU (bJ (gd (fun wz=>Blk wz g1 181 [J e0,U e1,U e2,J e3,U e4]/\(eC w.heap.size none go 98 [u0,H cA cn cc,u2,u3,u4,u5,u6,u7,u8,u9,jR,jS,jT,jU,jV,jW,.map (some gv),.map (some gs),.map (some gI),lv,.map (some gF),.map (some gG),.map (some gJ),.map (some gO),rv]) wz/\(cB rJ dT N0 gI (σ.fs)) wz/\True) mixed (fun _ hm=>⟨hm.bl 0,hm.fa 0,hm.fa 1,bB⟩) fun z=>wq 0 D (bL D) (wq 1 D (cU D) (wq 2 D (bW dF2 D D) (wq 3 D (cH (v:= .map (some gI)) fQ1 D (fun _ hm=>(hm.2.1).2) D) (wq 4 D (bW wD D D) (wq 5 D (cH fR D (fun _ hm=>hm.1) D) (wq 6 D (mF (enc:=rJ) (ek:=dT) (s:=e1) (e:=305) sa0 kC bC bC D D (fun _ hm=>(hm.2.2.1))) (dI 14 (v':= .agg #[J s0,U s1,J s2]) D (congrArg rJ hss.symm) (wq 7 D (dG fE D (fun _ hm=>hm.1) D D) ?_)))))))))))
 refine jC [8,12] bC D ⟨⟨_,D,?_⟩,⟨_,D,?_⟩,bB⟩
 ·refine cR (v:= .tuple #[.agg #[J ((jJ (⟨s0,s1,s2⟩:Sa) ⟨e0,e1,e2,e3,e4⟩).st),U ((jJ (⟨s0,s1,s2⟩:Sa) ⟨e0,e1,e2,e3,e4⟩).sta),J ((jJ (⟨s0,s1,s2⟩:Sa) ⟨e0,e1,e2,e3,e4⟩).since)],.bool GB]) D eG0 D D (fun wx hm=>(by have h:=bX3 s0 s1 s2 e0 e1 e2 e3 e4 wx;rw [hGB];exact h)) ?_
  refine bH (nw 15 511 (fun _ hm=>⟨hm.bl 0,hm.fa 0,hm.fa 1,bB⟩) fun z=>wq 9 D (bL D) (wq 10 D (cV D D) (wq 11 D (cV D D) (eD 12 D (dM eK4 D fun g2=>bH (nw 15 8191 (fun _ hm=>⟨hm.bl 1,hm.fa 0,hm.fa 1,bB⟩) fun z=>eD 13 D (kE (cs':= [J ((jJ (⟨s0,s1,s2⟩:Sa) ⟨e0,e1,e2,e3,e4⟩).st),U ((jJ (⟨s0,s1,s2⟩:Sa) ⟨e0,e1,e2,e3,e4⟩).sta),J ((jJ (⟨s0,s1,s2⟩:Sa) ⟨e0,e1,e2,e3,e4⟩).since)]) 0 fC D D D D (bH (nw 15 16383 (fun _ hm=>⟨hm.bl 1,hm.fa 0,hm.fa 1,bB⟩) fun z=>wq 14 D (dB D) (gY (bG (bJ (gd (fun wz=>Blk wz g1 181 [J e0,U e1,U e2,J e3,U e4]/\(eC w.heap.size none go 98 [u0,H cA cn cc,u2,u3,u4,u5,u6,u7,u8,u9,jR,jS,jT,jU,jV,jW,.map (some gv),.map (some gs),.map (some gI),lv,.map (some gF),.map (some gG),.map (some gJ),.map (some gO),rv]) wz/\(cB vB nN N0 gF (σ.fa)) wz/\True) mixed (fun _ hm=>⟨hm.bl 1,hm.fa 0,hm.fa 2,bB⟩) fun z=>wq 0 D (bL D) (wq 1 D (cU D) (wq 2 D (bW dG2 D D) (wq 3 D (cH (v:= .map (some gF)) fR1 D (fun _ hm=>(hm.2.1).2) D) (wq 4 D (bW wD D D) (wq 5 D (cH fR D (fun _ hm=>hm.1) D) (wq 6 D (bW nI D D) (wq 7 D (cH fM D (fun _ hm=>hm.1) D) (wq 8 D (dL (cs:= [U e1,J e0]) D bC) (wq 9 D (mF (enc:=vB) (ek:=nN) (s:=(e1,e0)) (e:=4) false dW2 bC bC D D (fun _ hm=>(hm.2.2.1))) (dI 28 (v':= .bool tw) D (fW9 htw.symm) (wq 11 D (bL D) ?_))))))))))))))))))))))))
  refine wq 12 D (cS D) (eD 10 D (dC D qB D D (fun wx hm=>(eH _ _ wx)) (bH (nw 17 8191 (fun _ hm=>⟨hm.bl 1,hm.fa 0,hm.fa 2,bB⟩) fun z=>eD 13 D (dC D qB D D (fun wx hm=>(eH _ _ wx)) (bH (nw 17 16383 (fun _ hm=>⟨hm.bl 1,hm.fa 0,hm.fa 2,bB⟩) fun z=>eD 14 D (jN 48 [J (dO tw 6),J (dO (!GB) 11)] fun g3=>bH (nw 17 32767 (fun _ hm=>⟨hm.bl 2,hm.fa 0,hm.fa 2,bB⟩) fun z=>eD 15 D (dC D vO D D (fun wx hm=>(fP [dO tw 6,dO (!GB) 11] _ _ _ wx (hm.blkI 0 D) (by simp))) (bH (nw 17 65535 (fun _ hm=>⟨hm.bl 2,hm.fa 0,hm.fa 2,bB⟩) fun z=>wq 16 D (dB D) (gY (bG (bR ?_)))))))))))))))
  exact bQ D D fun wx hm=>⟨cL hCE2.symm,hm.g⟩
 refine dM eK4 D fun g4=>bH (nw 15 4351 (fun _ hm=>⟨hm.bl 1,hm.fa 0,hm.fa 1,bB⟩) fun z=>eD 8 D (cR (v:= .tuple #[.agg #[J ((jJ (⟨s0,s1,s2⟩:Sa) ⟨e0,e1,e2,e3,e4⟩).st),U ((jJ (⟨s0,s1,s2⟩:Sa) ⟨e0,e1,e2,e3,e4⟩).sta),J ((jJ (⟨s0,s1,s2⟩:Sa) ⟨e0,e1,e2,e3,e4⟩).since)],.bool GB]) D eG0 D D (fun wx hm=>(by have h:=bX3 s0 s1 s2 e0 e1 e2 e3 e4 wx;rw [hGB];exact h)) (bH (nw 15 4607 (fun _ hm=>⟨hm.bl 1,hm.fa 0,hm.fa 1,bB⟩) fun z=>wq 9 D (bL D) (wq 10 D (cV D D) (wq 11 D (cV D D) (eD 13 D (kE (cs':= [J ((jJ (⟨s0,s1,s2⟩:Sa) ⟨e0,e1,e2,e3,e4⟩).st),U ((jJ (⟨s0,s1,s2⟩:Sa) ⟨e0,e1,e2,e3,e4⟩).sta),J ((jJ (⟨s0,s1,s2⟩:Sa) ⟨e0,e1,e2,e3,e4⟩).since)]) 0 fC D D D D (bH (nw 15 16383 (fun _ hm=>⟨hm.bl 1,hm.fa 0,hm.fa 1,bB⟩) fun z=>wq 14 D (dB D) (gY (bG (bJ (gd (fun wz=>Blk wz g1 181 [J e0,U e1,U e2,J e3,U e4]/\(eC w.heap.size none go 98 [u0,H cA cn cc,u2,u3,u4,u5,u6,u7,u8,u9,jR,jS,jT,jU,jV,jW,.map (some gv),.map (some gs),.map (some gI),lv,.map (some gF),.map (some gG),.map (some gJ),.map (some gO),rv]) wz/\(cB vB nN N0 gF (σ.fa)) wz/\True) mixed (fun _ hm=>⟨hm.bl 1,hm.fa 0,hm.fa 2,bB⟩) fun z=>wq 0 D (bL D) (wq 1 D (cU D) (wq 2 D (bW dG2 D D) (wq 3 D (cH (v:= .map (some gF)) fR1 D (fun _ hm=>(hm.2.1).2) D) (wq 4 D (bW wD D D) (wq 5 D (cH fR D (fun _ hm=>hm.1) D) (wq 6 D (bW nI D D) (wq 7 D (cH fM D (fun _ hm=>hm.1) D) (wq 8 D (dL (cs:= [U e1,J e0]) D bC) (wq 9 D (mF (enc:=vB) (ek:=nN) (s:=(e1,e0)) (e:=4) false dW2 bC bC D D (fun _ hm=>(hm.2.2.1))) (dI 28 (v':= .bool tw) D (fW9 htw.symm) ?_))))))))))))))))))))))))
 refine wq 11 D (bL D) (wq 12 D (cS D) (eD 10 D (dC D qB D D (fun wx hm=>(eH _ _ wx)) (bH (nw 17 8191 (fun _ hm=>⟨hm.bl 1,hm.fa 0,hm.fa 2,bB⟩) fun z=>eD 13 D (dC D qB D D (fun wx hm=>(eH _ _ wx)) (bH (nw 17 16383 (fun _ hm=>⟨hm.bl 1,hm.fa 0,hm.fa 2,bB⟩) fun z=>eD 14 D (jN 48 [J (dO tw 6),J (dO (!GB) 11)] fun g5=>bH (nw 17 32767 (fun _ hm=>⟨hm.bl 2,hm.fa 0,hm.fa 2,bB⟩) fun z=>eD 15 D (dC D vO D D (fun wx hm=>(fP [dO tw 6,dO (!GB) 11] _ _ _ wx (hm.blkI 0 D) (by simp))) (bH (nw 17 65535 (fun _ hm=>⟨hm.bl 2,hm.fa 0,hm.fa 2,bB⟩) fun z=>wq 16 D (dB D) (gY (bG (bR ?_))))))))))))))))
 exact bQ D D fun wx hm=>⟨cL hCE2.symm,hm.g⟩
theorem bE6(w0:World)(u0 u2 u3 u4 u5 u6 u7 u8 u9 jR jS jT jU jV jW:Value)(go gv gs gI gF gG gJ gO:Nat)(cA:Option Addr)(cn cc:Nat)(cl:List Cs)(V:M->Option M)(T:M->Option Bool)(rv:Value)(rn:Nat)(rx:List Value)(hd: [gv,gs,gI,gF,gG,gJ,gO].Nodup)(fp:M->Option Int)(σ:Os)(lv:Value)(e0:Int)(e1 e2:M)(e3:Int)(e4:M)(L1:List (Nat×TypeId×List Value))(X1:List (World->Prop))(hX1:∀A∈X1,bN3 A)(w:World)(hlg:σ.lg.length<=100000)(hm:gB ⟨0,w0,none, [269,9,3]⟩ (fun _=>True) ((go,98, [u0,H cA cn cc,u2,u3,u4,u5,u6,u7,u8,u9,jR,jS,jT,jU,jV,jW,.map (some gv),.map (some gs),.map (some gI),lv,.map (some gF),.map (some gG),.map (some gJ),.map (some gO),rv])::L1) [⟨lv,181,5,σ.lg.length,σ.lg.flatMap eF⟩,⟨rv,178,2,rn,rx⟩] ((cB vS dT w0.heap.size gv (V))::(cB vB dT w0.heap.size gs (T))::(cB rJ dT w0.heap.size gI (σ.fs))::(cB vB nN w0.heap.size gF (σ.fa))::(cB pX dT w0.heap.size gG (σ.fb))::(cB pZ dT w0.heap.size gJ (σ.fh))::(cB vI dT w0.heap.size gO (fp))::(gX 269 σ.fh)::(bT dQ 2 53 w0.heap.size none cA cn cl)::(TxtO w0.heap.size none)::X1) w):
 Calls prog 179 #[.pointer (some ⟨go,0,none⟩),.agg #[J e0,U e1,U e2,J e3,U e4]] w (fun e w'=>∃lv',e=.returned (.tuple #[])/\gB ⟨0,w0,none, [269,9,3]⟩ (fun _=>True) ((go,98, [u0,H cA cn cc,u2,u3,u4,u5,u6,u7,u8,u9,jR,jS,jT,jU,jV,jW,.map (some gv),.map (some gs),.map (some gI),lv',.map (some gF),.map (some gG),.map (some gJ),.map (some gO),rv])::L1) [⟨lv',181,5,(jD σ ⟨e0,e1,e2,e3,e4⟩).lg.length,(jD σ ⟨e0,e1,e2,e3,e4⟩).lg.flatMap eF⟩,⟨rv,178,2,rn,rx⟩] ((cB vS dT w0.heap.size gv (V))::(cB vB dT w0.heap.size gs (T))::(cB rJ dT w0.heap.size gI ((jD σ ⟨e0,e1,e2,e3,e4⟩).fs))::(cB vB nN w0.heap.size gF ((jD σ ⟨e0,e1,e2,e3,e4⟩).fa))::(cB pX dT w0.heap.size gG ((jD σ ⟨e0,e1,e2,e3,e4⟩).fb))::(cB pZ dT w0.heap.size gJ ((jD σ ⟨e0,e1,e2,e3,e4⟩).fh))::(cB vI dT w0.heap.size gO (fp))::(gX 269 (jD σ ⟨e0,e1,e2,e3,e4⟩).fh)::(bT dQ 2 53 w0.heap.size none cA cn cl)::(TxtO w0.heap.size none)::X1) w'):=by
 refine cY ⟨41,w0,none, [269,9,3]⟩ func179 D ntmps179 D hm.cy (bX ?_)
 obtain ⟨ss,hss⟩:∃z,z=(σ.fs e1).getD sa0:=⟨_,rfl⟩
 obtain ⟨tau,htau⟩:∃z,z=jD σ ⟨e0,e1,e2,e3,e4⟩:=⟨_,rfl⟩
 have ht1:tau.fs=gZ σ.fs e1 (jJ ss ⟨e0,e1,e2,e3,e4⟩):=by rw [htau,hss];rfl
 have ht2:tau.fa=gZ σ.fa (e1,e0) true:=by rw [htau];rfl
 have ht3:tau.lg=σ.lg++ [⟨e0,e1,e2,e3,e4⟩]:=by rw [htau];rfl
 have ht4:tau.fb=σ.fb:=by rw [htau];rfl
 have ht5:tau.fh=σ.fh:=by rw [htau];rfl
 rw [<-htau]
 obtain ⟨s0,s1,s2⟩:=ss
 obtain ⟨q0,hq0⟩:∃z,z=(jJ (⟨s0,s1,s2⟩:Sa) ⟨e0,e1,e2,e3,e4⟩):=⟨_,rfl⟩
 rw [<-hq0] at ht1
 obtain ⟨q0,q1,q2⟩:=q0
 refine fS D D D fun g1=>bU (bJ (gd (fun wz=>Blk wz g1 181 [J e0,U e1,U e2,J e3,U e4]/\Blk wz go 98 [u0,H cA cn cc,u2,u3,u4,u5,u6,u7,u8,u9,jR,jS,jT,jU,jV,jW,.map (some gv),.map (some gs),.map (some gI),lv,.map (some gF),.map (some gG),.map (some gJ),.map (some gO),rv]/\True) mixed (fun _ hm=>⟨hm.bl 0,hm.bl 1,bB⟩) fun z=>wq 0 D (bL D) (wq 1 D (cU D) (wq 2 D (bW dF2 D D) (wq 3 D (cH fQ1 D (fun _ hm=>hm.2.1) D) (wq 4 D (bW wD D D) (wq 5 D (cH fR D (fun _ hm=>hm.1) D) (wq 6 D (bL D) (wq 7 D (cU D) (wq 8 D (bW dF2 D D) (wq 9 D (cH fQ1 D (fun _ hm=>hm.2.1) D) (wq 10 D (bW wD D D) (wq 11 D (cH fR D (fun _ hm=>hm.1) D) (wq 13 D (dG fE D (fun _ hm=>hm.1) D D) (eD 12 D (W (mF (enc:=rJ) (ek:=dT) (s:=e1) (e:=305) sa0 kC bC bC D D (fun _ hm=>(hm.fact 2 D))) D (bO 17 (v':= .agg #[J s0,U s1,J s2]) D (congrArg rJ hss.symm) (bH (nw 19 16383 (fun _ hm=>⟨hm.bl 0,hm.bl 1,bB⟩) fun z=>eD 14 D (cR (v:= .tuple #[.agg #[J q0,U q1,J q2],.bool (kB (⟨s0,s1,s2⟩:Sa) ⟨e0,e1,e2,e3,e4⟩)]) D eG0 D D (fun wx hm=>(by have h:=bX3 s0 s1 s2 e0 e1 e2 e3 e4 wx;rw [<-hq0] at h;exact h)) (bH (nw 19 32767 (fun _ hm=>⟨hm.bl 0,hm.bl 1,bB⟩) fun z=>wq 15 D (bL D) (wq 16 D (cV D D) (wq 17 D (cV D D) (eD 18 D ?_)))))))))))))))))))))))))
 refine kZ (enc:=rJ) (ek:=dT) (s:=e1) (v:=⟨q0,q1,q2⟩) (e:=305) (X':=((cB vS dT w0.heap.size gv (V))::(cB vB dT w0.heap.size gs (T))::(cB vB nN w0.heap.size gF (σ.fa))::(cB pX dT w0.heap.size gG (σ.fb))::(cB pZ dT w0.heap.size gJ (σ.fh))::(cB vI dT w0.heap.size gO (fp))::(gX 269 σ.fh)::(bT dQ 2 53 w0.heap.size none cA cn cl)::(TxtO w0.heap.size none)::X1)) 2 kC bC D D D D (cX (i:=0) (cB.farK (gW hd (i:=0) (j:=2) D D bD)) D (cX (i:=1) (cB.farK (gW hd (i:=1) (j:=2) D D bD)) D (cX (i:=3) (cB.farK (gW hd (i:=3) (j:=2) D D bD)) D (cX (i:=4) (cB.farK (gW hd (i:=4) (j:=2) D D bD)) D (cX (i:=5) (cB.farK (gW hd (i:=5) (j:=2) D D bD)) D (cX (i:=6) (cB.farK (gW hd (i:=6) (j:=2) D D bD)) D (cX (i:=7) (gX.mfar).far D (cX (i:=8) (bT.mfar).far D (cX (i:=9) (TxtO.mfar).far D (cB4 10 D hX1)))))))))) (bH (nw 19 524287 (fun _ hm=>⟨hm.bl 0,hm.bl 1,bB⟩) fun z=>gY (bG (bJ (gd (fun wz=>Blk wz g1 181 [J e0,U e1,U e2,J e3,U e4]/\Blk wz go 98 [u0,H cA cn cc,u2,u3,u4,u5,u6,u7,u8,u9,jR,jS,jT,jU,jV,jW,.map (some gv),.map (some gs),.map (some gI),lv,.map (some gF),.map (some gG),.map (some gJ),.map (some gO),rv]/\True) mixed (fun _ hm=>⟨hm.bl 0,hm.bl 1,bB⟩) fun z=>wq 0 D (bL D) (wq 1 D (cU D) (wq 2 D (bW dG2 D D) (wq 3 D (cH fR1 D (fun _ hm=>hm.2.1) D) (wq 4 D (bW wD D D) (wq 5 D (cH fR D (fun _ hm=>hm.1) D) (wq 6 D (bW nI D D) (wq 7 D (cH fM D (fun _ hm=>hm.1) D) (wq 8 D (dL (cs:= [U e1,J e0]) D bC) (eD 9 D (kZ (enc:=vB) (ek:=nN) (s:=(e1,e0)) (v:=true) (e:=4) (X':=((cB rJ dT w0.heap.size gI (gZ (σ.fs) e1 (⟨q0,q1,q2⟩)))::(cB vS dT w0.heap.size gv (V))::(cB vB dT w0.heap.size gs (T))::(cB pX dT w0.heap.size gG (σ.fb))::(cB pZ dT w0.heap.size gJ (σ.fh))::(cB vI dT w0.heap.size gO (fp))::(gX 269 σ.fh)::(bT dQ 2 53 w0.heap.size none cA cn cl)::(TxtO w0.heap.size none)::X1)) 3 dW2 bC D D D D (cX (i:=0) (cB.farK (gW hd (i:=2) (j:=3) D D bD)) D (cX (i:=1) (cB.farK (gW hd (i:=0) (j:=3) D D bD)) D (cX (i:=2) (cB.farK (gW hd (i:=1) (j:=3) D D bD)) D (cX (i:=4) (cB.farK (gW hd (i:=4) (j:=3) D D bD)) D (cX (i:=5) (cB.farK (gW hd (i:=5) (j:=3) D D bD)) D (cX (i:=6) (cB.farK (gW hd (i:=6) (j:=3) D D bD)) D (cX (i:=7) (gX.mfar).far D (cX (i:=8) (bT.mfar).far D (cX (i:=9) (TxtO.mfar).far D (cB4 10 D hX1)))))))))) (bH (nw 10 1023 (fun _ hm=>⟨hm.bl 0,hm.bl 1,bB⟩) fun z=>gY (bG (gd (fun wz=>Blk wz g1 181 [J e0,U e1,U e2,J e3,U e4]/\True) mixed (fun _ hm=>⟨hm.bl 0,bB⟩) fun z=>wq 0 D (bL D) (wq 1 D (bL D) (wq 2 D (cU D) (wq 3 D (bW cR6 D D) (wq 5 D (dG fE D (fun _ hm=>hm.1) D D) ?_)))))))))))))))))))))))
 refine jC [4,6] bC D ⟨⟨_,D,?_⟩,⟨_,D,?_⟩,bB⟩
 ·refine eO eG3 1 D D D (bH ?_)
  refine nw 11 63 (fun _ hm=>⟨hm.bl 0,bB⟩) fun z=>eD 6 D (jN 181 [J e0,U e1,U e2,J e3,U e4] fun g2=>bH (nw 11 127 (fun _ hm=>⟨hm.bl 1,bB⟩) fun z=>eD 7 D (eP (news:= [J e0,U e1,U e2,J e3,U e4]) 0 0 fD3 D D D D D D D G (by unfold maxLen;omega) D D fun rC xK=>?_)))
  refine eB (R:=∃A cc,rC=H A (σ.lg.length+1) cc) (fun wx hm=>dW (hm.ownI 0 D)) ?_
  rintro ⟨lA,lc,rfl⟩
  refine bH (nw 11 255 (fun _ hm=>⟨hm.bl 1,bB⟩) fun z=>wq 8 D (cU D) (wq 9 D (bW cR6 D D) (eD 10 D (fX 2 eG3 D D D D D D (bH (nw 11 2047 (fun _ hm=>⟨hm.bl 1,bB⟩) fun z=>gY ?_))))))
  have hxs:σ.lg.flatMap eF++([J e0,U e1,U e2,J e3,U e4]:List Value)=tau.lg.flatMap eF:=by rw [ht3];simp [eF]
  have hxn:σ.lg.length+1=tau.lg.length:=by rw [ht3];simp
  refine jF D fun wx hm=>?_
  refine ⟨(H lA (σ.lg.length+1) lc),D,?_⟩
  rw [ht1,ht2,ht4,ht5,<-hxn,<-hxs]
  have h8:gB _ _ ((g2,181, [J e0,U e1,U e2,J e3,U e4])::(g1,181, [J e0,U e1,U e2,J e3,U e4])::(go,98, [u0,H cA cn cc,u2,u3,u4,u5,u6,u7,u8,u9,jR,jS,jT,jU,jV,jW,.map (some gv),.map (some gs),.map (some gI),H lA (σ.lg.length+1) lc,.map (some gF),.map (some gG),.map (some gJ),.map (some gO),rv])::L1) [⟨H lA (σ.lg.length+1) lc,181,5,σ.lg.length+1,σ.lg.flatMap eF++([J e0,U e1,U e2,J e3,U e4]:List Value)⟩,⟨rv,178,2,rn,rx⟩] _ wx:=hm
  exact (h8.tailL.tailL.subX (dV 2 D (dV 3 D (dV 1 D (dV 0 D (dV 4 D (dV 5 D (dV 6 D (dV 7 D (dV 8 D (dV 9 D (cB5 10 D)))))))))))).cy
 refine jN 181 [J e0,U e1,U e2,J e3,U e4] fun g3=>bH (nw 11 111 (fun _ hm=>⟨hm.bl 1,bB⟩) fun z=>eD 4 D (eO eG3 2 D D D (bH (nw 11 127 (fun _ hm=>⟨hm.bl 1,bB⟩) fun z=>eD 7 D (eP (news:= [J e0,U e1,U e2,J e3,U e4]) 0 0 fD3 D D D D D D D G (by unfold maxLen;omega) D D fun rC xK=>?_)))))
 refine eB (R:=∃A cc,rC=H A (σ.lg.length+1) cc) (fun wx hm=>dW (hm.ownI 0 D)) ?_
 rintro ⟨lA,lc,rfl⟩
 refine bH (nw 11 255 (fun _ hm=>⟨hm.bl 1,bB⟩) fun z=>wq 8 D (cU D) (wq 9 D (bW cR6 D D) (eD 10 D (fX 2 eG3 D D D D D D (bH (nw 11 2047 (fun _ hm=>⟨hm.bl 1,bB⟩) fun z=>gY ?_))))))
 have hxs:σ.lg.flatMap eF++([J e0,U e1,U e2,J e3,U e4]:List Value)=tau.lg.flatMap eF:=by rw [ht3];simp [eF]
 have hxn:σ.lg.length+1=tau.lg.length:=by rw [ht3];simp
 refine jF D fun wx hm=>?_
 refine ⟨(H lA (σ.lg.length+1) lc),D,?_⟩
 rw [ht1,ht2,ht4,ht5,<-hxn,<-hxs]
 have h8:gB _ _ ((g3,181, [J e0,U e1,U e2,J e3,U e4])::(g1,181, [J e0,U e1,U e2,J e3,U e4])::(go,98, [u0,H cA cn cc,u2,u3,u4,u5,u6,u7,u8,u9,jR,jS,jT,jU,jV,jW,.map (some gv),.map (some gs),.map (some gI),H lA (σ.lg.length+1) lc,.map (some gF),.map (some gG),.map (some gJ),.map (some gO),rv])::L1) [⟨H lA (σ.lg.length+1) lc,181,5,σ.lg.length+1,σ.lg.flatMap eF++([J e0,U e1,U e2,J e3,U e4]:List Value)⟩,⟨rv,178,2,rn,rx⟩] _ wx:=hm
 exact (h8.tailL.tailL.subX (dV 2 D (dV 3 D (dV 1 D (dV 0 D (dV 4 D (dV 5 D (dV 6 D (dV 7 D (dV 8 D (dV 9 D (cB5 10 D)))))))))))).cy
theorem uD:∀{l:List Int},dK l=0->∀e∈l,e=0
 | [],_,_,h=>by cases h
 |x::r,h,e,he=>by
  simp only [dK] at h
  by_cases hx:x=0
  ·rw [if_pos hx] at h
   rcases List.mem_cons.1 he with rfl|he
   ·exact hx
   ·exact uD h e he
  ·rw [if_neg hx] at h;exact absurd h hx
def dD7(iv ist ilv ito ieq:Bool)(CE:Int):Int:=dK [dO (!iv|| !ist||(ilv&& !ito)) 8,dO (ilv&&ieq) 14,CE]
theorem eZ0{iv ist ilv ito ieq:Bool}{CE:Int}(h:dD7 iv ist ilv ito ieq CE=0):iv=true/\ist=true/\(ilv=true->ito=true/\ieq=false)/\CE=0:=by
 unfold dD7 at h
 by_cases hc:CE=0
 ·subst hc
  revert h
  cases iv <;> cases ist <;> cases ilv <;> cases ito <;> cases ieq <;> decide
 ·exfalso
  have h3:=uD h CE (by simp)
  exact hc h3
theorem eO5{iv ist ilv ito ieq:Bool}{CE:Int}(h1:iv=true)(h2:ist=true)(h3:ilv=true->ito=true/\ieq=false)(h4:CE=0):dD7 iv ist ilv ito ieq CE=0:=by
 subst h1 h2 h4
 revert h3
 cases ilv <;> cases ito <;> cases ieq <;> decide
theorem bJ1{σ:Os}{x:Ev}:dM6 (gR σ) x↔bQ6 σ x:=Iff.rfl
theorem cA4(w0:World)(u0 u2 u3 u4 u5 u6 u7 u8 u9 jR jS jT jU jV jW:Value)(go gv gs gI gF gG gJ gO:Nat)(cA:Option Addr)(cn cc:Nat)(cl:List Cs)(V:M->Option M)(T:M->Option Bool)(rv:Value)(rn:Nat)(rx:List Value)(hd: [gv,gs,gI,gF,gG,gJ,gO].Nodup)(ck:Bk->Prop)(fp:M->Option Int)(σ:Os)(lv:Value)(e0:Int)(e1 e2:M)(e3:Int)(e4:M)(w:World)(hlg:σ.lg.length<=100000)(hok:fR2 ⟨e0,e1,e2,e3,e4⟩)(hkd:e3∈([1,4,5,6,7,8]:List Int))(hne:e3≠6->e4=⟨#[]⟩)(hm:gB ⟨0,w0,none, [269,9,3]⟩ (fun _=>True) [(go,98, [u0,H cA cn cc,u2,u3,u4,u5,u6,u7,u8,u9,jR,jS,jT,jU,jV,jW,.map (some gv),.map (some gs),.map (some gI),lv,.map (some gF),.map (some gG),.map (some gJ),.map (some gO),rv])] [⟨lv,181,5,σ.lg.length,σ.lg.flatMap eF⟩,⟨rv,178,2,rn,rx⟩] [cB vS dT w0.heap.size gv (V),cB vB dT w0.heap.size gs (T),cB rJ dT w0.heap.size gI (σ.fs),cB vB nN w0.heap.size gF (σ.fa),cB pX dT w0.heap.size gG (σ.fb),cB pZ dT w0.heap.size gJ (σ.fh),cB vI dT w0.heap.size gO (fp),gX 269 σ.fh,bT dQ 2 53 w0.heap.size none cA cn cl,TxtO w0.heap.size none] w):
 Calls prog 137 #[.pointer (some ⟨go,0,none⟩),.agg #[J e0,U e1,U e2,J e3,U e4]] w (fun e w'=>∃lv' σ' E,e=.returned (J E)/\(mK V T ck e0 σ σ'/\gR σ'=bD7 V T (gR σ) ⟨e0,e1,e2,e3,e4⟩)/\gB ⟨0,w0,none, [269,9,3]⟩ (fun _=>True) [(go,98, [u0,H cA cn cc,u2,u3,u4,u5,u6,u7,u8,u9,jR,jS,jT,jU,jV,jW,.map (some gv),.map (some gs),.map (some gI),lv',.map (some gF),.map (some gG),.map (some gJ),.map (some gO),rv])] [⟨lv',181,5,σ'.lg.length,σ'.lg.flatMap eF⟩,⟨rv,178,2,rn,rx⟩] [cB vS dT w0.heap.size gv (V),cB vB dT w0.heap.size gs (T),cB rJ dT w0.heap.size gI (σ'.fs),cB vB nN w0.heap.size gF (σ'.fa),cB pX dT w0.heap.size gG (σ'.fb),cB pZ dT w0.heap.size gJ (σ'.fh),cB vI dT w0.heap.size gO (fp),gX 269 σ'.fh,bT dQ 2 53 w0.heap.size none cA cn cl,TxtO w0.heap.size none] w'):=by
 refine cY ⟨68,w0,none, [269,9,3]⟩ func137 D ntmps137 D hm.cy (bX ?_)
 obtain ⟨iv,hiv⟩:∃z,z=(V e1).isSome:=⟨_,rfl⟩
 obtain ⟨ist,bX2⟩:∃z,z=(T e2).getD false:=⟨_,rfl⟩
 obtain ⟨ito,hito⟩:∃z,z=(T e4).getD false:=⟨_,rfl⟩
 obtain ⟨ilv,hilv⟩:∃z,z=decide (e3=6):=⟨_,rfl⟩
 obtain ⟨ieq,hieq⟩:∃z,z=(e4.toList==e2.toList):=⟨_,rfl⟩
 obtain ⟨CE,hCE⟩:∃z,z=cQ5 σ ⟨e0,e1,e2,e3,e4⟩:=⟨_,rfl⟩
 obtain ⟨EE,hEE⟩:∃z,z=dD7 iv ist ilv ito ieq CE:=⟨_,rfl⟩
 unfold dD7 at hEE
 refine fS D D D fun g1=>cG D (bU (bJ (gd (fun wz=>Blk wz g1 181 [J e0,U e1,U e2,J e3,U e4]/\Blk wz go 98 [u0,H cA cn cc,u2,u3,u4,u5,u6,u7,u8,u9,jR,jS,jT,jU,jV,jW,.map (some gv),.map (some gs),.map (some gI),lv,.map (some gF),.map (some gG),.map (some gJ),.map (some gO),rv]/\(cB vS dT w0.heap.size gv (V)) wz/\True) mixed (fun _ hm=>⟨hm.bl 0,hm.bl 1,hm.fa 0,bB⟩) fun z=>wq 0 D (bL D) (wq 1 D (cU D) (wq 2 D (bW cQ6 D D) (wq 3 D (cH eA7 D (fun _ hm=>hm.2.1) D) (wq 4 D (bW wD D D) (wq 5 D (cH fR D (fun _ hm=>hm.1) D) (wq 6 D (hU (enc:=vS) (ek:=dT) (s:=e1) (e:=9) (⟨#[]⟩:M) kC bC bC D D (fun _ hm=>(hm.2.2.1))) (wq 7 D (bL D) (wq 8 D (cV D D) (wq 9 D (cV D D) (dI 18 (v':= .bool iv) D (fW9 hiv.symm) (wq 10 D (dB D) (wq 11 D (dB D) (gY (bG (bX (dZ cH6 D D (eO fM 0 D D D (W (eT D D) D (bO 21 (v':= .bool ilv) D (fW9 hilv.symm) (cG D (bU (bJ ?_)))))))))))))))))))))))))
 refine pB (γ:=Int) (I':=(fun (E:Int)=>E=EE)) (S':=(fun (E:Int)=> [(0,.pointer (some ⟨go,0,none⟩)),(3,.pointer (some ⟨g1,0,none⟩)),(4,J 0),(8,J E)])) (K':=(fun (E:Int)=>fun _=>True)) (L':=(fun (E:Int)=> [(g1,181, [J e0,U e1,U e2,J e3,U e4]),(go,98, [u0,H cA cn cc,u2,u3,u4,u5,u6,u7,u8,u9,jR,jS,jT,jU,jV,jW,.map (some gv),.map (some gs),.map (some gI),lv,.map (some gF),.map (some gG),.map (some gJ),.map (some gO),rv])])) (O':=(fun (E:Int)=> [⟨lv,181,5,σ.lg.length,σ.lg.flatMap eF⟩,⟨rv,178,2,rn,rx⟩])) (X':=(fun (E:Int)=> [cB vS dT w0.heap.size gv (V),cB vB dT w0.heap.size gs (T),cB rJ dT w0.heap.size gI (σ.fs),cB vB nN w0.heap.size gF (σ.fa),cB pX dT w0.heap.size gG (σ.fb),cB pZ dT w0.heap.size gJ (σ.fh),cB vI dT w0.heap.size gO (fp),gX 269 σ.fh,bT dQ 2 53 w0.heap.size none cA cn cl,TxtO w0.heap.size none])) ?_ ?_
 ·rcases Bool.eq_false_or_eq_true ilv with hl|hl
  ·refine kR 7 D (fW9 hl) ?_
   refine gd (fun wz=>Blk wz g1 181 [J e0,U e1,U e2,J e3,U e4]/\Blk wz go 98 [u0,H cA cn cc,u2,u3,u4,u5,u6,u7,u8,u9,jR,jS,jT,jU,jV,jW,.map (some gv),.map (some gs),.map (some gI),lv,.map (some gF),.map (some gG),.map (some gJ),.map (some gO),rv]/\(cB vB dT w0.heap.size gs (T)) wz/\True) mixed (fun _ hm=>⟨hm.bl 0,hm.bl 1,hm.fa 1,bB⟩) fun z=>wq 0 D (bL D) (wq 1 D (cS D) (wq 2 D (bL D) ?_))
   rcases Bool.eq_false_or_eq_true (!iv) with hb2|hb2
   ·refine dI 24 D (fW9 hb2) ?_
    refine eL 3 D (eL 4 D (eL 5 D (eL 6 D (eL 7 D (eL 8 D (eL 9 D (eL 10 D (wq 11 D (fG D D) (wq 12 D (bL D) (eL 13 D (eL 14 D (rY 15 D (rY 16 D (rY 17 D (rY 18 D (rY 19 D (rY 20 D (rY 21 D (rY 22 D (eL 23 D (wq 24 D (fG D D) (wq 26 D (bL D) (wq 35 D (bL D) (wq 36 D (dG fE D (fun _ hm=>hm.1) D D) (eD 25 D (dC D qB D D (fun wx hm=>(eH _ _ wx)) (bH (nw 41 103213432831 (fun _ hm=>⟨hm.bl 0,hm.bl 1,hm.fa 1,bB⟩) fun z=>wq 27 D (bL D) ?_))))))))))))))))))))))))))))
    refine eU 28 D (bW zD D D) (eU 29 D (cH fR D (fun _ hm=>hm.1) D) (eU 30 D (bW xI D D) (eU 31 D (cH fR D (fun _ hm=>hm.1) D) (eU 32 D (eS D D) (dI 54 (v':= .bool ieq) D (fW9 hieq.symm) (wq 33 D (fG D D) (eD 34 D (dC D qB D D (fun wx hm=>(eH _ _ wx)) (bH (nw 41 137438953471 (fun _ hm=>⟨hm.bl 0,hm.bl 1,hm.fa 1,bB⟩) fun z=>eD 37 D (cR (v:=J CE) D bK1 D D (fun wx hm=>(by rw [hCE];exact (uA σ u0 u2 u3 u4 u5 u6 u7 u8 u9 jR jS jT jU jV jW go gv gs gI gF gG gJ gO cA cn cc lv rv e0 e1 e2 e3 e4 _ wx (hm.blkI 1 rfl) (hm.fact 2 rfl) (hm.fact 3 rfl)))) (bH (nw 41 274877906943 (fun _ hm=>⟨hm.bl 0,hm.bl 1,hm.fa 1,bB⟩) fun z=>eD 38 D (jN 48 [J (dO true 8),J (dO ieq 14),J CE] fun g3=>bH (nw 41 549755813887 (fun _ hm=>⟨hm.bl 1,hm.bl 2,hm.fa 1,bB⟩) fun z=>eD 39 D (dC D vO D D (fun wx hm=>(fP [dO true 8,dO ieq 14,CE] _ _ _ wx (hm.blkI 0 D) (by simp))) (bH (nw 41 1099511627775 (fun _ hm=>⟨hm.bl 1,hm.bl 2,hm.fa 1,bB⟩) fun z=>wq 40 D (dB D) (gY ?_)))))))))))))))))))
    exact fH (dK [dO true 8,dO ieq 14,CE]) (by rw [hEE,hl,hb2];rfl) ⟨D,D,D,D,bB⟩ (fun _ hm=>hm.pick [1,2] [0,1] [0,1,2,3,4,5,6,7,8,9] D D)
   refine dI 24 D (fW9 hb2) (eU 3 D (bL D) (eU 4 D (cU D) (eU 5 D (bW bV3 D D) (eU 6 D (cH dS3 D (fun _ hm=>hm.2.1) D) (eU 7 D (bW xI D D) (eU 8 D (cH fR D (fun _ hm=>hm.1) D) (eU 9 D (mF (enc:=vB) (ek:=dT) (s:=e2) (e:=4) false kC bC bC D D (fun _ hm=>(hm.2.2.1))) (dI 31 (v':= .bool ist) D (fW9 bX2.symm) (eU 10 D (cS D) (wq 11 D (eZ D D) (wq 12 D (bL D) ?_)))))))))))
   rcases Bool.eq_false_or_eq_true (!ist) with hb4|hb4
   ·refine dI 34 D (fW9 hb4) ?_
    refine eL 13 D (eL 14 D (rY 15 D (rY 16 D (rY 17 D (rY 18 D (rY 19 D (rY 20 D (rY 21 D (rY 22 D (eL 23 D (wq 24 D (fG D D) (wq 26 D (bL D) (wq 35 D (bL D) (wq 36 D (dG fE D (fun _ hm=>hm.1) D D) (eD 25 D (dC D qB D D (fun wx hm=>(eH _ _ wx)) (bH (nw 41 103213432831 (fun _ hm=>⟨hm.bl 0,hm.bl 1,hm.fa 1,bB⟩) fun z=>wq 27 D (bL D) (eU 28 D (bW zD D D) (eU 29 D (cH fR D (fun _ hm=>hm.1) D) (eU 30 D (bW xI D D) (eU 31 D (cH fR D (fun _ hm=>hm.1) D) (eU 32 D (eS D D) (dI 54 (v':= .bool ieq) D (fW9 hieq.symm) (wq 33 D (fG D D) (eD 34 D (dC D qB D D (fun wx hm=>(eH _ _ wx)) (bH ?_))))))))))))))))))))))))))))
    refine nw 41 137438953471 (fun _ hm=>⟨hm.bl 0,hm.bl 1,hm.fa 1,bB⟩) fun z=>eD 37 D (cR (v:=J CE) D bK1 D D (fun wx hm=>(by rw [hCE];exact (uA σ u0 u2 u3 u4 u5 u6 u7 u8 u9 jR jS jT jU jV jW go gv gs gI gF gG gJ gO cA cn cc lv rv e0 e1 e2 e3 e4 _ wx (hm.blkI 1 rfl) (hm.fact 2 rfl) (hm.fact 3 rfl)))) (bH (nw 41 274877906943 (fun _ hm=>⟨hm.bl 0,hm.bl 1,hm.fa 1,bB⟩) fun z=>eD 38 D (jN 48 [J (dO true 8),J (dO ieq 14),J CE] fun g5=>bH (nw 41 549755813887 (fun _ hm=>⟨hm.bl 1,hm.bl 2,hm.fa 1,bB⟩) fun z=>eD 39 D (dC D vO D D (fun wx hm=>(fP [dO true 8,dO ieq 14,CE] _ _ _ wx (hm.blkI 0 D) (by simp))) (bH (nw 41 1099511627775 (fun _ hm=>⟨hm.bl 1,hm.bl 2,hm.fa 1,bB⟩) fun z=>wq 40 D (dB D) (gY ?_)))))))))
    exact fH (dK [dO true 8,dO ieq 14,CE]) (by rw [hEE,hl,hb2,hb4];rfl) ⟨D,D,D,D,bB⟩ (fun _ hm=>hm.pick [1,2] [0,1] [0,1,2,3,4,5,6,7,8,9] D D)
   refine dI 34 D (fW9 hb4) (eU 13 D (bL D) (eU 14 D (bL D) (eU 15 D (bL D) (eU 16 D (cU D) (eU 17 D (bW bV3 D D) (eU 18 D (cH dS3 D (fun _ hm=>hm.2.1) D) (eU 19 D (bW zD D D) (eU 20 D (cH fR D (fun _ hm=>hm.1) D) (eU 21 D (mF (enc:=vB) (ek:=dT) (s:=e4) (e:=4) false kC bC bC D D (fun _ hm=>(hm.2.2.1))) (dI 43 (v':= .bool ito) D (fW9 hito.symm) (eU 22 D (cS D) (eU 23 D (fG D D) (wq 24 D (eZ D D) (wq 26 D (bL D) (wq 35 D (bL D) (wq 36 D (dG fE D (fun _ hm=>hm.1) D D) (eD 25 D (dC D qB D D (fun wx hm=>(eH _ _ wx)) (bH (nw 41 103213432831 (fun _ hm=>⟨hm.bl 0,hm.bl 1,hm.fa 1,bB⟩) fun z=>wq 27 D (bL D) (eU 28 D (bW zD D D) (eU 29 D (cH fR D (fun _ hm=>hm.1) D) (eU 30 D (bW xI D D) (eU 31 D (cH fR D (fun _ hm=>hm.1) D) (eU 32 D (eS D D) (dI 54 (v':= .bool ieq) D (fW9 hieq.symm) (wq 33 D (fG D D) (eD 34 D ?_))))))))))))))))))))))))))))
   refine dC D qB D D (fun wx hm=>(eH _ _ wx)) (bH (nw 41 137438953471 (fun _ hm=>⟨hm.bl 0,hm.bl 1,hm.fa 1,bB⟩) fun z=>eD 37 D (cR (v:=J CE) D bK1 D D (fun wx hm=>(by rw [hCE];exact (uA σ u0 u2 u3 u4 u5 u6 u7 u8 u9 jR jS jT jU jV jW go gv gs gI gF gG gJ gO cA cn cc lv rv e0 e1 e2 e3 e4 _ wx (hm.blkI 1 rfl) (hm.fact 2 rfl) (hm.fact 3 rfl)))) (bH (nw 41 274877906943 (fun _ hm=>⟨hm.bl 0,hm.bl 1,hm.fa 1,bB⟩) fun z=>eD 38 D (jN 48 [J (dO (!ito) 8),J (dO ieq 14),J CE] fun g6=>bH (nw 41 549755813887 (fun _ hm=>⟨hm.bl 1,hm.bl 2,hm.fa 1,bB⟩) fun z=>eD 39 D (dC D vO D D (fun wx hm=>(fP [dO (!ito) 8,dO ieq 14,CE] _ _ _ wx (hm.blkI 0 D) (by simp))) (bH (nw 41 1099511627775 (fun _ hm=>⟨hm.bl 1,hm.bl 2,hm.fa 1,bB⟩) fun z=>wq 40 D (dB D) (gY ?_)))))))))))
   exact fH (dK [dO (!ito) 8,dO ieq 14,CE]) (by rw [hEE,hl,hb2,hb4];rfl) ⟨D,D,D,D,bB⟩ (fun _ hm=>hm.pick [1,2] [0,1] [0,1,2,3,4,5,6,7,8,9] D D)
  refine kR 7 D (fW9 hl) (gd (fun wz=>Blk wz g1 181 [J e0,U e1,U e2,J e3,U e4]/\Blk wz go 98 [u0,H cA cn cc,u2,u3,u4,u5,u6,u7,u8,u9,jR,jS,jT,jU,jV,jW,.map (some gv),.map (some gs),.map (some gI),lv,.map (some gF),.map (some gG),.map (some gJ),.map (some gO),rv]/\(cB vB dT w0.heap.size gs (T)) wz/\True) mixed (fun _ hm=>⟨hm.bl 0,hm.bl 1,hm.fa 1,bB⟩) fun z=>wq 0 D (bL D) (wq 1 D (cS D) (wq 2 D (bL D) ?_)))
  rcases Bool.eq_false_or_eq_true (!iv) with hb7|hb7
  ·refine dI 24 D (fW9 hb7) ?_
   refine eL 3 D (eL 4 D (eL 5 D (eL 6 D (eL 7 D (eL 8 D (eL 9 D (eL 10 D (wq 11 D (fG D D) (wq 12 D (bL D) (eL 13 D (eL 14 D (rY 15 D (rY 16 D (rY 17 D (rY 18 D (rY 19 D (rY 20 D (rY 21 D (rY 22 D (eL 23 D (wq 24 D (fG D D) (wq 26 D (bL D) (wq 35 D (bL D) (wq 36 D (dG fE D (fun _ hm=>hm.1) D D) (eD 25 D (dC D qB D D (fun wx hm=>(eH _ _ wx)) (bH (nw 41 103213432831 (fun _ hm=>⟨hm.bl 0,hm.bl 1,hm.fa 1,bB⟩) fun z=>wq 27 D (bL D) ?_))))))))))))))))))))))))))))
   refine eL 28 D (eL 29 D (eL 30 D (eL 31 D (eL 32 D (wq 33 D (eZ D D) (eD 34 D (dC D qB D D (fun wx hm=>(eH _ _ wx)) (bH (nw 41 137438953471 (fun _ hm=>⟨hm.bl 0,hm.bl 1,hm.fa 1,bB⟩) fun z=>eD 37 D (cR (v:=J CE) D bK1 D D (fun wx hm=>(by rw [hCE];exact (uA σ u0 u2 u3 u4 u5 u6 u7 u8 u9 jR jS jT jU jV jW go gv gs gI gF gG gJ gO cA cn cc lv rv e0 e1 e2 e3 e4 _ wx (hm.blkI 1 rfl) (hm.fact 2 rfl) (hm.fact 3 rfl)))) (bH (nw 41 274877906943 (fun _ hm=>⟨hm.bl 0,hm.bl 1,hm.fa 1,bB⟩) fun z=>eD 38 D (jN 48 [J (dO true 8),J (dO false 14),J CE] fun g8=>bH (nw 41 549755813887 (fun _ hm=>⟨hm.bl 1,hm.bl 2,hm.fa 1,bB⟩) fun z=>eD 39 D (dC D vO D D (fun wx hm=>(fP [dO true 8,dO false 14,CE] _ _ _ wx (hm.blkI 0 D) (by simp))) (bH (nw 41 1099511627775 (fun _ hm=>⟨hm.bl 1,hm.bl 2,hm.fa 1,bB⟩) fun z=>wq 40 D (dB D) (gY ?_))))))))))))))))))
   exact fH (dK [dO true 8,dO false 14,CE]) (by rw [hEE,hl,hb7];rfl) ⟨D,D,D,D,bB⟩ (fun _ hm=>hm.pick [1,2] [0,1] [0,1,2,3,4,5,6,7,8,9] D D)
  refine dI 24 D (fW9 hb7) (eU 3 D (bL D) (eU 4 D (cU D) (eU 5 D (bW bV3 D D) (eU 6 D (cH dS3 D (fun _ hm=>hm.2.1) D) (eU 7 D (bW xI D D) (eU 8 D (cH fR D (fun _ hm=>hm.1) D) (eU 9 D (mF (enc:=vB) (ek:=dT) (s:=e2) (e:=4) false kC bC bC D D (fun _ hm=>(hm.2.2.1))) (dI 31 (v':= .bool ist) D (fW9 bX2.symm) (eU 10 D (cS D) (wq 11 D (eZ D D) (wq 12 D (bL D) ?_)))))))))))
  rcases Bool.eq_false_or_eq_true (!ist) with hb9|hb9
  ·refine dI 34 D (fW9 hb9) ?_
   refine eL 13 D (eL 14 D (rY 15 D (rY 16 D (rY 17 D (rY 18 D (rY 19 D (rY 20 D (rY 21 D (rY 22 D (eL 23 D (wq 24 D (fG D D) (wq 26 D (bL D) (wq 35 D (bL D) (wq 36 D (dG fE D (fun _ hm=>hm.1) D D) (eD 25 D (dC D qB D D (fun wx hm=>(eH _ _ wx)) (bH (nw 41 103213432831 (fun _ hm=>⟨hm.bl 0,hm.bl 1,hm.fa 1,bB⟩) fun z=>wq 27 D (bL D) (eL 28 D (eL 29 D (eL 30 D (eL 31 D (eL 32 D (wq 33 D (eZ D D) (eD 34 D (dC D qB D D (fun wx hm=>(eH _ _ wx)) (bH (nw 41 137438953471 (fun _ hm=>⟨hm.bl 0,hm.bl 1,hm.fa 1,bB⟩) fun z=>?_))))))))))))))))))))))))))))
   refine eD 37 D (cR (v:=J CE) D bK1 D D (fun wx hm=>(by rw [hCE];exact (uA σ u0 u2 u3 u4 u5 u6 u7 u8 u9 jR jS jT jU jV jW go gv gs gI gF gG gJ gO cA cn cc lv rv e0 e1 e2 e3 e4 _ wx (hm.blkI 1 rfl) (hm.fact 2 rfl) (hm.fact 3 rfl)))) (bH (nw 41 274877906943 (fun _ hm=>⟨hm.bl 0,hm.bl 1,hm.fa 1,bB⟩) fun z=>eD 38 D (jN 48 [J (dO true 8),J (dO false 14),J CE] fun g10=>bH (nw 41 549755813887 (fun _ hm=>⟨hm.bl 1,hm.bl 2,hm.fa 1,bB⟩) fun z=>eD 39 D (dC D vO D D (fun wx hm=>(fP [dO true 8,dO false 14,CE] _ _ _ wx (hm.blkI 0 D) (by simp))) (bH (nw 41 1099511627775 (fun _ hm=>⟨hm.bl 1,hm.bl 2,hm.fa 1,bB⟩) fun z=>wq 40 D (dB D) (gY ?_)))))))))
   exact fH (dK [dO true 8,dO false 14,CE]) (by rw [hEE,hl,hb7,hb9];rfl) ⟨D,D,D,D,bB⟩ (fun _ hm=>hm.pick [1,2] [0,1] [0,1,2,3,4,5,6,7,8,9] D D)
  refine dI 34 D (fW9 hb9) (eU 13 D (bL D) (eU 14 D (bL D) (eL 15 D (eL 16 D (eL 17 D (eL 18 D (eL 19 D (eL 20 D (eL 21 D (eL 22 D (eU 23 D (eZ D D) (wq 24 D (eZ D D) (wq 26 D (bL D) (wq 35 D (bL D) (wq 36 D (dG fE D (fun _ hm=>hm.1) D D) (eD 25 D (dC D qB D D (fun wx hm=>(eH _ _ wx)) (bH (nw 41 103213432831 (fun _ hm=>⟨hm.bl 0,hm.bl 1,hm.fa 1,bB⟩) fun z=>wq 27 D (bL D) (eL 28 D (eL 29 D (eL 30 D (eL 31 D (eL 32 D (wq 33 D (eZ D D) (eD 34 D (dC D qB D D (fun wx hm=>(eH _ _ wx)) (bH ?_))))))))))))))))))))))))))))
  refine nw 41 137438953471 (fun _ hm=>⟨hm.bl 0,hm.bl 1,hm.fa 1,bB⟩) fun z=>eD 37 D (cR (v:=J CE) D bK1 D D (fun wx hm=>(by rw [hCE];exact (uA σ u0 u2 u3 u4 u5 u6 u7 u8 u9 jR jS jT jU jV jW go gv gs gI gF gG gJ gO cA cn cc lv rv e0 e1 e2 e3 e4 _ wx (hm.blkI 1 rfl) (hm.fact 2 rfl) (hm.fact 3 rfl)))) (bH (nw 41 274877906943 (fun _ hm=>⟨hm.bl 0,hm.bl 1,hm.fa 1,bB⟩) fun z=>eD 38 D (jN 48 [J (dO false 8),J (dO false 14),J CE] fun g11=>bH (nw 41 549755813887 (fun _ hm=>⟨hm.bl 1,hm.bl 2,hm.fa 1,bB⟩) fun z=>eD 39 D (dC D vO D D (fun wx hm=>(fP [dO false 8,dO false 14,CE] _ _ _ wx (hm.blkI 0 D) (by simp))) (bH (nw 41 1099511627775 (fun _ hm=>⟨hm.bl 1,hm.bl 2,hm.fa 1,bB⟩) fun z=>wq 40 D (dB D) (gY ?_)))))))))
  exact fH (dK [dO false 8,dO false 14,CE]) (by rw [hEE,hl,hb7,hb9];rfl) ⟨D,D,D,D,bB⟩ (fun _ hm=>hm.pick [1,2] [0,1] [0,1,2,3,4,5,6,7,8,9] D D)
 intro E bZ
 replace bZ:E=EE:=bZ
 refine bX ?_
 subst bZ
 refine bS D (W (gN D D) D (bU ?_))
 refine gL D (fun h0=>?_) (fun h0=>?_)
 ·refine bX (bS D (cG D (bU ?_)))
  refine bR (F ?_)
  have h0x:E≠0:=by simpa using h0
  have hsm:gR σ=bD7 V T (gR σ) ⟨e0,e1,e2,e3,e4⟩:=(qI fun ⟨q1,q2,q3,q4⟩=>h0x (hEE.trans (eO5 (hiv.trans q1) (bX2.trans q2) (fun h=>by
   rw [hilv] at h
   obtain ⟨q5,q6⟩:=q3 (of_decide_eq_true h)
   refine ⟨hito.trans q5,?_⟩
   rw [hieq]
   cases h9:(e4.toList==e2.toList) with
   |false=>rfl
   |true=>exact absurd (cW3.1 h9) q6) (hCE.trans (rD.2 (bJ1.1 q4)))))).symm
  refine bQ D D fun wx hm=>?_
  refine ⟨lv,σ,_,D,⟨.same σ,hsm⟩,?_⟩
  have h8:gB _ _ ((g1,181, [J e0,U e1,U e2,J e3,U e4])::(go,98, [u0,H cA cn cc,u2,u3,u4,u5,u6,u7,u8,u9,jR,jS,jT,jU,jV,jW,.map (some gv),.map (some gs),.map (some gI),lv,.map (some gF),.map (some gG),.map (some gJ),.map (some gO),rv]):: []) [⟨lv,181,5,σ.lg.length,σ.lg.flatMap eF⟩,⟨rv,178,2,rn,rx⟩] _ wx:=hm
  exact (h8.tailL.subX (dV 0 D (dV 1 D (dV 2 D (dV 3 D (dV 4 D (dV 5 D (dV 6 D (dV 7 D (dV 8 D (dV 9 D bI6))))))))))).cy
 refine bN (bG (bX ?_))
 have hE0:E=0:=by simpa using h0
 rw [<-show dD7 iv ist ilv ito ieq CE=E from hEE.symm] at hE0
 obtain ⟨z1,z2,z3,z4⟩:=eZ0 hE0
 rw [hiv] at z1
 rw [bX2] at z2
 have hcan:bQ6 σ ⟨e0,e1,e2,e3,e4⟩:=rD.1 (hCE.symm.trans z4)
 have z5:e3=6->(T e4).getD false=true/\e4≠e2:=fun h6=>by
  obtain ⟨h7,h8⟩:=z3 (by rw [hilv];exact decide_eq_true h6)
  refine ⟨hito ▸ h7,fun e=>?_⟩
  rw [hieq,e] at h8
  simp at h8
 refine bS D (W (dG fE D (fun _ hm=>hm.blkI 0 D) D D) D ?_)
 refine fW (γ:=Value) (val:=fun _=> .tuple #[]) (φ:=fun _=>True) (K':=fun _=>fun _=>True) (L':=fun rC=> [(go,98, [u0,H cA cn cc,u2,u3,u4,u5,u6,u7,u8,u9,jR,jS,jT,jU,jV,jW,.map (some gv),.map (some gs),.map (some gI),rC,.map (some gF),.map (some gG),.map (some gJ),.map (some gO),rv])]) (O':=fun rC=> [⟨rC,181,5,(jD σ ⟨e0,e1,e2,e3,e4⟩).lg.length,(jD σ ⟨e0,e1,e2,e3,e4⟩).lg.flatMap eF⟩,⟨rv,178,2,rn,rx⟩]) (X':=fun _=> [cB vS dT w0.heap.size gv (V),cB vB dT w0.heap.size gs (T),cB rJ dT w0.heap.size gI ((jD σ ⟨e0,e1,e2,e3,e4⟩).fs),cB vB nN w0.heap.size gF ((jD σ ⟨e0,e1,e2,e3,e4⟩).fa),cB pX dT w0.heap.size gG ((jD σ ⟨e0,e1,e2,e3,e4⟩).fb),cB pZ dT w0.heap.size gJ ((jD σ ⟨e0,e1,e2,e3,e4⟩).fh),cB vI dT w0.heap.size gO (fp),gX 269 (jD σ ⟨e0,e1,e2,e3,e4⟩).fh,bT dQ 2 53 w0.heap.size none cA cn cl,TxtO w0.heap.size none]) D cP8 D D (fun wx hm=>(bE6 w0 u0 u2 u3 u4 u5 u6 u7 u8 u9 jR jS jT jU jV jW go gv gs gI gF gG gJ gO cA cn cc cl V T rv rn rx hd fp σ lv e0 e1 e2 e3 e4 [] [] (fun _ h=>by cases h) wx hlg (hm.pick [1] [0,1] [0,1,2,3,4,5,6,7,8,9] D D).cy).mono fun _ _ ⟨lv_,he,wG⟩=>⟨lv_,he,bB,wG.cy⟩) ?_
 intro rC _
 refine bU (bX (cG D (bU (bR ?_))))
 refine bQ D D fun wx hm=>?_
 refine ⟨rC,_,0,D,⟨.ev σ ⟨e0,e1,e2,e3,e4⟩ D hok hkd z1 z2 z5 hne hcan,(zN ⟨z1,z2,z5,hcan⟩).symm⟩,?_⟩
 have h8:gB _ _ ((go,98, [u0,H cA cn cc,u2,u3,u4,u5,u6,u7,u8,u9,jR,jS,jT,jU,jV,jW,.map (some gv),.map (some gs),.map (some gI),rC,.map (some gF),.map (some gG),.map (some gJ),.map (some gO),rv]):: []) [⟨rC,181,5,(jD σ ⟨e0,e1,e2,e3,e4⟩).lg.length,(jD σ ⟨e0,e1,e2,e3,e4⟩).lg.flatMap eF⟩,⟨rv,178,2,rn,rx⟩] _ wx:=hm
 exact (h8.subX (dV 0 D (dV 1 D (dV 2 D (dV 3 D (dV 4 D (dV 5 D (dV 6 D (dV 7 D (dV 8 D (dV 9 D bI6))))))))))).cy
theorem bU4{l:List Cs}{v:Int}(h30:¬30 < l.length)(h:scanE csE none l=v)(hv:v≠0):eR l=v:=by
 unfold eR
 rw [if_neg h30,if_pos (by rw [h];exact hv),h]
theorem fH0{l:List Cs}(h30:¬30 < l.length)(h:scanE csE none l=0)(hu:l.any (upB l)=true):eR l=8:=by
 unfold eR
 rw [if_neg h30,if_neg (by rw [h];decide),if_pos hu]
theorem eL0{l:List Cs}(h30:¬30 < l.length)(h:scanE csE none l=0)(hu:l.any (upB l)=false):eR l=if uI l l.length=true then 14 else 0:=by
 unfold eR
 rw [if_neg h30,if_neg (by rw [h];decide),if_neg (by rw [hu];decide)]
theorem cO5{α:Type}{p:α->Bool}{l:List α}{k:Nat}{x:α}(h:l[k]?=some x):(l.drop k).any p=(p x||(l.drop (k+1)).any p):=by
 obtain ⟨hk,rfl⟩:=List.getElem?_eq_some_iff.1 h
 rw [List.drop_eq_getElem_cons hk,List.any_cons]
theorem bN9{α:Type}{p:α->Bool}{l:List α}{k:Nat}(h:l.length<=k):(l.drop k).any p=false:=by rw [List.drop_eq_nil_of_le h];rfl
theorem fS1:∀(x:M),∀v∈dU x,v.oneCell'=true:=fun x v hv=>by
 simp only [dU,List.mem_singleton] at hv
 subst hv;rfl
theorem dD8{l:List Cs}{n i:Nat}{k:M}(h:jB (bF0 l k)=false)(hi:i < n):eW l (n - i) k=bF0 l k::eW l (n - (i+1)) (bF0 l k):=by
 rw [show n - i=(n - (i+1))+1 by omega]
 show (if jB (bF0 l k)=true then [] else _)=_
 rw [if_neg (by rw [h];decide)]
theorem dE8{l:List Cs}{n:Nat}{k:M}(h:jB (bF0 l k)=true):eW l n k= []:=by
 cases n with
 |zero=>rfl
 |succ n=>
  show (if jB (bF0 l k)=true then [] else _)=_
  rw [if_pos h]
def uH(l:List Cs)(ks:List M):Int:=if eR l≠0 then eR l else if ks.any (fun k=>decide (kL (nS k) l 0 < 0))=true then 8 else 0
def vJ(l:List Cs)(a b:M):Int:=if a.toList=b.toList then 0 else if kL (fun y=>b.toList==y.toList) (eW l l.length a) 0 < 0 then -1 else kL (fun y=>b.toList==y.toList) (eW l l.length a) 0+1
theorem bG4(ke:M)(up:M)(gk:Nat)(k:M)(w:World)(hk:Blk w gk 9 [U k]):
 Calls prog 157 #[.agg #[U ke,U up],.pointer (some ⟨gk,0,none⟩)] w (fun e w'=>e=.returned (.bool (nS k ⟨ke,up⟩))/\w.grownBy w' none):=by
 refine cY ⟨8,w,none, []⟩ func157 D ntmps157 D (fZ (X:= [eC w.heap.size none gk 9 [U k]]) (cC hk.old cZ) (cE eC.lasts dA)) (bX (fS D D D fun g1=>cG D (bU (bX (dZ vC D D (eO fR 0 D D D (W (cH (v:=U k) fR D (fun _ hm=>(hm.fact 0 D).2) D) D (W (eS D D) D (cG D (bU (bR ?_)))))))))))
 exact bQ D D fun wx hm=>⟨D,hm.g⟩
theorem bY2(l:List Cs)(A:Option Addr)(n c0:Nat)(gk:Nat)(k:M)(w:World)(hl:SlT dQ 2 53 w A n l)(hn:n<=1000000)(hk:Blk w gk 9 [U k]):
 Calls prog 117 #[H A n c0,.func (.func 157) #[] #[.pointer (some ⟨gk,0,none⟩)]] w (nG w (kL (nS k) l 0)):=by
 refine cY ⟨19,w,none, []⟩ func117 D ntmps117 D (fZ (X:= [bT dQ 2 53 w.heap.size none A n l,eC w.heap.size none gk 9 [U k]]) (cC hl.old (cC hk.old cZ)) (cE bT.lasts (cE eC.lasts dA))) (bX ?_)
 have hlen:=hl.len
 refine cG D (bU (bJ (bX (bS D (W (dP xS D) D (bS D (bU (bP ?_))))))))
 refine dS (γ:=Nat) (fun (i:Nat)=>i<=n/\kL (nS k) l 0=kL (nS k) (l.drop i) i) (fun (i:Nat)=> [(0,H A n c0),(1,.func (.func 157) #[] #[.pointer (some ⟨gk,0,none⟩)]),(7,I n),(8,I i)]) (fun (i:Nat)=>fun _=>True) (fun (i:Nat)=> []) (fun (i:Nat)=> []) (fun (i:Nat)=> [bT dQ 2 53 w.heap.size none A n l,eC w.heap.size none gk 9 [U k]]) (fun (i:Nat)=>n - i) 0 ⟨Nat.zero_le _,D⟩ ⟨D,D,D,D,bB⟩ (fun _ hm=>hm.pick [] [] [0,1] D D) ?_
 intro i bZ
 replace bZ:i<=n/\kL (nS k) l 0=kL (nS k) (l.drop i) i:=bZ
 refine bX (W (dF D D) D (bU (bJ ?_)))
 refine cN D (fun hi=>?_) (fun hi=>?_)
 ·refine bN (bG (bJ (bP (bX ?_))))
  obtain ⟨b,off,hA,_,_⟩:=hl.get G
  subst hA
  obtain ⟨x,hx⟩:∃x,l[i]?=some x:=⟨_,fY9 G⟩
  obtain ⟨ke,up⟩:=x
  have hat:=bS1 (p:=nS k) hx
  refine bS D (cG D (bU (bX (bS D (bS D (bS D (W (bV (j:=i) xS D D G) D (W (dR (vs:= [U ke,U up]) bJ9 D (fun _ hm=>(hm.fact 0 D).1) hx D D) D (cR D fX3 D D (fun wx hm=>(bG4 ke up gk k wx (hm.fact 1 D).2)) (bU ?_))))))))))
  refine dE D (fun hh=>?_) (fun hh=>?_)
  ·have hq:(nS k ⟨ke,up⟩)=true:=by simpa using hh
   refine bX (bS D (cG D (bU (bR (C (F (F (C (F ?_)))))))))
   exact bQ D D fun wx hm=>⟨cL (by rw [bZ.2,hat,if_pos hq]),hm.g⟩
  have hq:(nS k ⟨ke,up⟩)=false:=by simpa using hh
  refine bN (bK (bG (bM (fY D D (bS D (bH ?_))))))
  exact cQ (i+1) ⟨G,by rw [bZ.2,hat,if_neg (by rw [hq];decide)]⟩ G ⟨D,D,D,(cP G),bB⟩ (fun _ hm=>hm.pick [] [] [0,1] D D)
 refine dD (bI (bI (bY (bG (bX (cG D (bO 4 (v':=J (-1)) D D (bU (bR ?_)))))))))
 exact bQ D D fun wx hm=>⟨cL (by rw [bZ.2,List.drop_eq_nil_of_le G];rfl),hm.g⟩
theorem vP(l:List Cs)(A:Option Addr)(n c0:Nat)(k:M)(w:World)(hl:SlT dQ 2 53 w A n l)(hn:n<=1000000):
 Calls prog 113 #[H A n c0,U k] w (nG w (kL (nS k) l 0)):=by
 refine cY ⟨8,w,none, []⟩ func113 D ntmps113 D (fZ (X:= [bT dQ 2 53 w.heap.size none A n l]) (cC hl.old cZ) (cE bT.lasts dA)) (bX (fS D D D fun g1=>cG D (bU (bX (bS D (W (pL D D) D (cR D eM8 D D (fun wx hm=>(bY2 l A n c0 _ k wx (hm.fact 0 D).1 hn (hm.blkI 0 D))) (cG D (bU (bR ?_))))))))))
 exact bQ D D fun wx hm=>⟨D,hm.g⟩
theorem cI4(ks:List M)(A1:Option Addr)(n1 c1:Nat)(k:M)(w:World)(hs:SlT dU 1 9 w A1 n1 ks)(hn:n1<=1000000):
 Calls prog 158 #[H A1 n1 c1,U k] w (nG w (kL (fun y=>k.toList==y.toList) ks 0)):=by
 refine cY ⟨19,w,none, []⟩ func158 D ntmps158 D (fZ (X:= [bT dU 1 9 w.heap.size none A1 n1 ks]) (cC hs.old cZ) (cE bT.lasts dA)) (bX ?_)
 have hlen:=hs.len
 refine cG D (bU (bJ (bX (bS D (W (dP mD D) D (bS D (bU (bP ?_))))))))
 refine dS (γ:=Nat) (fun (i:Nat)=>i<=n1/\kL (fun y=>k.toList==y.toList) ks 0=kL (fun y=>k.toList==y.toList) (ks.drop i) i) (fun (i:Nat)=> [(0,H A1 n1 c1),(1,U k),(7,I n1),(8,I i)]) (fun (i:Nat)=>fun _=>True) (fun (i:Nat)=> []) (fun (i:Nat)=> []) (fun (i:Nat)=> [bT dU 1 9 w.heap.size none A1 n1 ks]) (fun (i:Nat)=>n1 - i) 0 ⟨Nat.zero_le _,D⟩ ⟨D,D,D,D,bB⟩ (fun _ hm=>hm.pick [] [] [0] D D) ?_
 intro i bZ
 replace bZ:i<=n1/\kL (fun y=>k.toList==y.toList) ks 0=kL (fun y=>k.toList==y.toList) (ks.drop i) i:=bZ
 refine bX (W (dF D D) D (bU (bJ ?_)))
 refine cN D (fun hi=>?_) (fun hi=>?_)
 ·refine bN (bG (bJ (bP (bX ?_))))
  obtain ⟨b,off,hA,_,_⟩:=hs.get G
  subst hA
  obtain ⟨z0,hx⟩:∃x,ks[i]?=some x:=⟨_,fY9 G⟩
  have hat:=bS1 (p:=(fun y=>k.toList==y.toList)) hx
  refine bS D (cG D (bU (bX (bS D (bS D (bS D (W (bV (j:=i) mD D D G) D (W (dH (k:=0) (v:=U z0) fR D (fun _ hm=>(hm.fact 0 D).1) hx D D) D (W (eS D D) D (bU ?_))))))))))
  refine dE D (fun hh=>?_) (fun hh=>?_)
  ·have hq:(k.toList==z0.toList)=true:=by simpa using hh
   refine bX (bS D (cG D (bU (bR (C (F (F (C (F ?_)))))))))
   exact bQ D D fun wx hm=>⟨cL (by rw [bZ.2,hat,if_pos hq]),hm.g⟩
  have hq:(k.toList==z0.toList)=false:=by simpa using hh
  refine bN (bK (bG (bM (fY D D (bS D (bH ?_))))))
  exact cQ (i+1) ⟨G,by rw [bZ.2,hat,if_neg (by rw [hq];decide)]⟩ G ⟨D,D,D,(cP G),bB⟩ (fun _ hm=>hm.pick [] [] [0] D D)
 refine dD (bI (bI (bY (bG (bX (cG D (bO 4 (v':=J (-1)) D D (bU (bR ?_)))))))))
 exact bQ D D fun wx hm=>⟨cL (by rw [bZ.2,List.drop_eq_nil_of_le G];rfl),hm.g⟩
theorem cV5(ks:List M)(A1:Option Addr)(n1 c1:Nat)(k:M)(w:World)(hs:SlT dU 1 9 w A1 n1 ks)(hn:n1<=1000000):
 Calls prog 114 #[H A1 n1 c1,U k] w (fun e w'=>e=.returned (.bool (inK k ks))/\w.grownBy w' none):=by
 refine cY ⟨9,w,none, []⟩ func114 D ntmps114 D (fZ (X:= [bT dU 1 9 w.heap.size none A1 n1 ks]) (cC hs.old cZ) (cE bT.lasts dA)) (bX (cG D (bU (bX (bS D (bS D (cR D eF0 D D (fun wx hm=>(cI4 ks A1 n1 c1 k wx (hm.fact 0 D).1 hn)) (W (mE D D) D (cG D (bU (bR ?_)))))))))))
 exact bQ D D fun wx hm=>⟨by unfold inK;rw [<-cB7],hm.g⟩
theorem bS6(l:List Cs)(A:Option Addr)(n c:Nat)(k0:ByteArray)(w:World)(hl:SlT dQ 2 53 w A n l)(hc:nY l)(hk0:0<=kL (nS k0) l 0)(hn:n<=1000000):
 Calls prog 115 #[.slice A n c,.string k0] w (fun e w'=>∃(A2:Option Addr) (n2 c2:Nat),e=.returned (.slice A2 n2 c2)/\w'.ownsRow w.heap.size 9 1 (.slice A2 n2 c2) n2 ((eW l n k0).flatMap dU)/\(eW l n k0).length=n2/\w.grownBy w' none):=by
 refine cY ⟨25,w,none, []⟩ func115 D ntmps115 D (fZ (X:= [bT dQ 2 53 w.heap.size none A n l]) (cC hl.old cZ) (cE bT.lasts dA)) (bX ?_)
 have hlen:=hl.len
 refine cG D (bU (bX (cG D (bU (bJ (bX (bS D (W (dP xS D) D (bS D (bU (bP ?_)))))))))))
 refine qU 9 1 ?_
 refine dS (γ:=Nat×ByteArray×Value×List ByteArray×List Value) (fun g=>g.1<=n/\0<=kL (nS g.2.1) l 0/\g.2.2.2.1.length=g.1/\g.2.2.2.1++eW l (n - g.1) g.2.1=eW l n k0/\g.2.2.2.2=g.2.2.2.1.flatMap dU) (fun g=> [(0,.slice A n c),(1,.string g.2.1),(4,.slice none 0 0),(5,g.2.2.1),(7,.int .i64 ((n:Nat):Int)),(8,.int .i64 ((g.1:Nat):Int))]) (fun g=>fun _=>True) (fun g=> []) (fun g=> [⟨g.2.2.1,9,1,g.1,g.2.2.2.2⟩]) (fun g=> [bT dQ 2 53 w.heap.size none A n l]) (fun g=>n - g.1) (0,k0,.slice none 0 0, [], []) ⟨Nat.zero_le _,hk0,D,D,D⟩ ⟨D,D,D,D,D,D,trivial⟩ (fun _ hm=>hm.pick [] [0] [0] D D) ?_
 rintro ⟨i,k,v,done,xs⟩ bZ
 replace bZ:i<=n/\0<=kL (nS k) l 0/\done.length=i/\done++eW l (n - i) k=eW l n k0/\xs=done.flatMap dU:=bZ
 dsimp only
 refine bX ?_
 obtain ⟨hi0,hik,hdl,hdp,rfl⟩:=bZ
 refine W (dF D D) D (bU (bJ ?_))
 refine cN D (fun hi=>?_) (fun hi=>?_)
 ·refine bN (bG (bJ (bP (bX ?_))))
  obtain ⟨b,off,hA,_,_⟩:=hl.get (by omega)
  subst hA
  refine bS D (bS D (bS D ?_))
  obtain ⟨x,hx,hxl,hxk⟩:=bT1 hik
  obtain ⟨j,hj⟩:=Int.eq_ofNat_of_zero_le hik
  have hjx:(kL (nS k) l 0).toNat=j:=by omega
  rw [hjx] at hx
  have hup:=dH6 hj hx
  have hjn:j < n:=by have:=(List.getElem?_eq_some_iff.1 hx).1;omega
  obtain ⟨ke,up⟩:=x
  have hup:bF0 l k=up:=hup
  have hcl:=hc ⟨ke,up⟩ hxl
  have hcl:jB up=false->0<=kL (nS up) l 0:=hcl
  refine cR (v:= .int .i64 ((j:Nat):Int)) D cO8 D D (fun wx hm=>(by rw [<-hj];exact vP l _ n c k wx (hm.fact 0 rfl).1 hn)) (W (bV (j:=j) xS D D (by omega)) D (dZ zH D D (W (dH (k:=1) (v:= .string up) fR D (fun _ hm=>(hm.fact 0 D).1) hx D D) D (cG D (bU (bJ (bX (bS D (W (eS D D) D (bU ?_))))))))))
  refine dE D (fun hh=>?_) (fun hh=>?_)
  ·have hq:(up.toList==(⟨#[]⟩:ByteArray).toList)=true:=by simpa using hh
   refine dD (bI (bO7 D (bI (bI (bY (bG (bX ?_)))))))
   refine eB (R:=∃A cc,v= .slice A i cc) (fun wx hm=>dW (hm.ownI 0 D)) ?_
   rintro ⟨A2,c2,rfl⟩
   refine bS D (cG D (bU (bR ?_)))
   have qD:done=eW l n k0:=by rw [<-hdp,dE8 (by rw [hup];unfold jB;exact hq),List.append_nil]
   exact bQ D D fun wx hm=>⟨A2,i,c2,D,by rw [<-qD];exact hm.ownI 0 rfl,by rw [<-qD];exact hdl,hm.g⟩
  have hq:(up.toList==(⟨#[]⟩:ByteArray).toList)=false:=by simpa using hh
  refine bN (bG (bM (bS D (bS D (jN 9 [.string up] fun g1=>eP (news:= [.string up]) 0 0 eX4 D D D D D D D (by omega) (by unfold maxLen;omega) D D fun v2 xK=>cG D (bH (bK (bG (bM (fY D D (bS D (bH ?_))))))))))))
  have hue:jB (bF0 l k)=false:=by rw [hup];unfold jB;exact hq
  have hpm:=dD8 hue (show i < n by omega)
  rw [hup] at hpm hue
  exact cQ (i+1,up,v2,done++ [up],done.flatMap dU++([.string up]:List Value)) ⟨by dsimp only;omega,hcl hue,by simp [hdl],by dsimp only;rw [<-hdp,hpm,List.append_assoc];rfl,by simp [dU]⟩ (by dsimp only;omega) ⟨D,D,D,D,D,(cP (by omega)),trivial⟩ (fun _ hm=>hm.pick [] [0] [0] D D)
 refine dD (bI (bI (bY (bG (bX ?_)))))
 refine eB (R:=∃A cc,v= .slice A i cc) (fun wx hm=>dW (hm.ownI 0 D)) ?_
 rintro ⟨A2,c2,rfl⟩
 refine bS D (cG D (bU (bR ?_)))
 have hin:i=n:=by omega
 have qD:done=eW l n k0:=by rw [<-hdp,hin,Nat.sub_self];exact (List.append_nil _).symm
 exact bQ D D fun wx hm=>⟨A2,i,c2,D,by rw [<-qD];exact hm.ownI 0 rfl,by rw [<-qD];exact hdl,hm.g⟩
theorem qQ(l:List Cs)(A:Option Addr)(n c:Nat)(w:World)(hl:SlT dQ 2 53 w A n l)(hok:∀x∈l,pR x)(hn:n<=1000000):
 Calls prog 66 #[H A n c] w (nG w (eR l)):=by
 refine cY ⟨80,w,none, []⟩ func66 D ntmps66 D (fZ (X:= [bT dQ 2 53 w.heap.size none A n l]) (cC hl.old cZ) (cE bT.lasts dA)) (bX ?_)
 have hlen:=hl.len
 refine cG D (bU (bJ (bX (bS D (W (dP xS D) D (W (eM D D) D (bU ?_)))))))
 refine cN D (fun h1=>?_) (fun h1=>?_)
 ·refine bX (cG D (bU ?_))
  refine bR (F ?_)
  exact bQ D D fun wx hm=>⟨cL (by unfold eR;rw [if_pos G]),hm.g⟩
 refine bN (bG (bJ (bX ?_)))
 have h30:¬30 < l.length:=G
 refine bS D (W (dP xS D) D (bS D (bU (bP ?_))))
 refine dS (γ:=Nat) (fun (k:Nat)=>k<=n/\scanE csE none l=scanE csE (prevOf l k) (l.drop k)) (fun (k:Nat)=> [(0,H A n c),(12,H A n c),(13,I n),(14,I k)]) (fun (k:Nat)=>fun _=>True) (fun (k:Nat)=> []) (fun (k:Nat)=> []) (fun (k:Nat)=> [bT dQ 2 53 w.heap.size none A n l]) (fun (k:Nat)=>n - k) 0 ⟨Nat.zero_le _,D⟩ ⟨D,D,D,D,bB⟩ (fun _ hm=>hm.pick [] [] [0] D D) ?_
 intro k bZ
 replace bZ:k<=n/\scanE csE none l=scanE csE (prevOf l k) (l.drop k):=bZ
 refine bX (W (dF D D) D (bU (bJ ?_)))
 refine cN D (fun hk=>?_) (fun hk=>?_)
 ·refine bN (bG (bJ (bP (bX ?_))))
  obtain ⟨b,off,hA,_,_⟩:=hl.get G
  subst hA
  obtain ⟨x,hx⟩:∃x,l[k]?=some x:=⟨_,fY9 G⟩
  obtain ⟨ke,up⟩:=x
  have hat:=scanE_at csE l k _ hx
  have hk1:ke.size<=1000000:=(hok _ (fZ9 hx)).1
  have hk2:up.size<=1000000:=(hok _ (fZ9 hx)).2
  refine bS D (W (bV (j:=k) xS D D G) D (W (dR (vs:= [U ke,U up]) bJ9 D (fun _ hm=>(hm.fact 0 D).1) hx D D) D (dM eL4 D fun g1=>cG D (kE (cs':= [U ke,U up]) 0 bJ9 D D D D (bU (bP (bX (dZ vC D D (eO fR 0 D D D (dC D bW2 D D (fun wx hm=>(isKey_any _ wx G)) (W (cS D) D (cG D (bU ?_)))))))))))))
  refine dE D (fun hh=>?_) (fun hh=>?_)
  ·have h2:(keyB ke)=false:=by simpa using hh
   refine bX (cG D (bU (bR (C (C (F (F (C (F ?_)))))))))
   have hE:csE (prevOf l k) ⟨ke,up⟩=5:=by unfold csE;simp [h2]
   exact bQ D D fun wx hm=>⟨cL (by rw [bU4 h30 (v:=5) (by rw [bZ.2,hat,if_neg (by rw [hE];decide),hE]) bD]),hm.g⟩
  have h2:(keyB ke)=true:=by simpa using hh
  refine bJ ?_
  by_cases hk0:k=0
  ·have hO:eI6 (prevOf l k) ⟨ke,up⟩=false:=by rw [pM hk0];rfl
   refine gd (fun wz=>True) mixed (fun _ _=>bB) fun z=>wq 0 D (bL D) (wq 1 D (eM D D) (dI 26 (v':= .bool false) D (fW9 (decide_eq_false G)) (wq 2 D (bL D) (eL 3 D (eL 4 D (eL 5 D (eL 6 D (eL 7 D (eL 8 D (eL 9 D (eL 10 D (eL 11 D (wq 12 D (eZ D D) (wq 13 D (dB D) (gY (bG (jK D (bX (dZ zH D D (eO fR 0 D D D (W (xO D D) D (bS D ?_))))))))))))))))))))))
   rcases Bool.eq_false_or_eq_true (!(up.toList==(⟨#[]⟩:M).toList)) with nJ|nJ
   ·refine bO 42 D (fW9 nJ) ?_
    have nJ:jB up=false:=by unfold jB;simpa only [Bool.not_eq_true'] using nJ
    refine eN D (dZ zH D D (eN D (eO fR 0 D D D (eN D (dC D bW2 D D (fun wx hm=>(isKey_any _ wx G)) (eN D (W (cS D) D (mS D D (cG D (bU ?_))))))))))
    refine dE D (fun hh=>?_) (fun hh=>?_)
    ·have h32:(keyB up)=false:=by simpa using hh
     refine bX (cG D (bU (bR (C (C (F (F (C (F ?_)))))))))
     have hE:csE (prevOf l k) ⟨ke,up⟩=5:=by unfold csE;simp [h2,hO,nJ,h32]
     exact bQ D D fun wx hm=>⟨cL (by rw [bU4 h30 (v:=5) (by rw [bZ.2,hat,if_neg (by rw [hE];decide),hE]) bD]),hm.g⟩
    have h32:(keyB up)=true:=by simpa using hh
    refine bN (bK (bK (bG (bM ?_))))
    have hE:csE (prevOf l k) ⟨ke,up⟩=0:=by unfold csE;simp [h2,hO,nJ,h32]
    refine fY D D (bS D (bH ?_))
    exact cQ (k+1) ⟨G,by rw [bZ.2,hat,if_pos hE]⟩ G ⟨D,D,D,(cP G),bB⟩ (fun _ hm=>hm.pick [] [] [0] D D)
   refine bO 42 D (fW9 nJ) ?_
   have nJ:jB up=true:=by unfold jB;simpa only [Bool.not_eq_false'] using nJ
   have hE:csE (prevOf l k) ⟨ke,up⟩=0:=by unfold csE;simp [h2,hO,nJ]
   refine eE D (eE D (eE D (eE D (nV D D (cG D (bU (jK D (bN (bK (bK (bG (bM (fY D D (bS D (bH ?_)))))))))))))))
   exact cQ (k+1) ⟨G,by rw [bZ.2,hat,if_pos hE]⟩ G ⟨D,D,D,(cP G),bB⟩ (fun _ hm=>hm.pick [] [] [0] D D)
  obtain ⟨y,hy⟩:∃x,l[k - 1]?=some x:=⟨_,fY9 G⟩
  obtain ⟨p0,p1⟩:=y
  refine gd (fun wz=>Blk wz g1 53 [U ke,U up]/\(bT dQ 2 53 w.heap.size none (some ⟨b,off,none⟩) n l) wz/\True) mixed (fun _ hm=>⟨hm.bl 0,hm.fa 0,bB⟩) fun z=>wq 0 D (bL D) (wq 1 D (eM D D) (dI 26 (v':= .bool true) D (fW9 (decide_eq_true G)) (wq 2 D (bL D) (eU 3 D (bW vC D D) (eU 4 D (cH fR D (fun _ hm=>hm.1) D) (eU 5 D (bL D) (eU 6 D (bL D) (eU 7 D (ov_sub D D G G) (dI 32 (v':=I (k - 1)) D (fX9 G) (eU 8 D (bV (j:=k - 1) xS D D G) (eU 9 D (bW vC D D) (eU 10 D (dH (k:=0) (v:=U p0) fR D (fun _ hm=>(hm.2.1).1) hy D D) (eU 11 D (wH D D) (wq 12 D (fG D D) (wq 13 D (dB D) (gY (bG ?_)))))))))))))))))
  refine dE D (fun hh=>?_) (fun hh=>?_)
  ·have h9:(Op.bytesLess ke.toList p0.toList||ke.toList==p0.toList)=true:=by simpa using hh
   refine bX ?_
   have hO:eI6 (prevOf l k) ⟨ke,up⟩=true:=by rw [jZ hk0 hy];exact h9
   refine cG D (bU (bR (C (C (F (F (C (F ?_))))))))
   have hE:csE (prevOf l k) ⟨ke,up⟩=7:=by unfold csE;simp [h2,hO]
   exact bQ D D fun wx hm=>⟨cL (by rw [bU4 h30 (v:=7) (by rw [bZ.2,hat,if_neg (by rw [hE];decide),hE]) bD]),hm.g⟩
  have h9:(Op.bytesLess ke.toList p0.toList||ke.toList==p0.toList)=false:=by simpa using hh
  refine bX ?_
  have hO:eI6 (prevOf l k) ⟨ke,up⟩=false:=by rw [jZ hk0 hy];exact h9
  refine dZ zH D D (eO fR 0 D D D (W (xO D D) D (bS D ?_)))
  rcases Bool.eq_false_or_eq_true (!(up.toList==(⟨#[]⟩:M).toList)) with nJ|nJ
  ·refine bO 42 D (fW9 nJ) ?_
   have nJ:jB up=false:=by unfold jB;simpa only [Bool.not_eq_true'] using nJ
   refine eN D (dZ zH D D (eN D (eO fR 0 D D D (eN D (dC D bW2 D D (fun wx hm=>(isKey_any _ wx G)) (eN D (W (cS D) D (mS D D (cG D (bU ?_))))))))))
   refine dE D (fun hh=>?_) (fun hh=>?_)
   ·have h32:(keyB up)=false:=by simpa using hh
    refine bX (cG D (bU (bR (C (C (F (F (C (F ?_)))))))))
    have hE:csE (prevOf l k) ⟨ke,up⟩=5:=by unfold csE;simp [h2,hO,nJ,h32]
    exact bQ D D fun wx hm=>⟨cL (by rw [bU4 h30 (v:=5) (by rw [bZ.2,hat,if_neg (by rw [hE];decide),hE]) bD]),hm.g⟩
   have h32:(keyB up)=true:=by simpa using hh
   refine bN (bK (bK (bG (bM ?_))))
   have hE:csE (prevOf l k) ⟨ke,up⟩=0:=by unfold csE;simp [h2,hO,nJ,h32]
   refine fY D D (bS D (bH ?_))
   exact cQ (k+1) ⟨G,by rw [bZ.2,hat,if_pos hE]⟩ G ⟨D,D,D,(cP G),bB⟩ (fun _ hm=>hm.pick [] [] [0] D D)
  refine bO 42 D (fW9 nJ) ?_
  have nJ:jB up=true:=by unfold jB;simpa only [Bool.not_eq_false'] using nJ
  have hE:csE (prevOf l k) ⟨ke,up⟩=0:=by unfold csE;simp [h2,hO,nJ]
  refine eE D (eE D (eE D (eE D (nV D D (cG D (bU (jK D (bN (bK (bK (bG (bM (fY D D (bS D (bH ?_)))))))))))))))
  exact cQ (k+1) ⟨G,by rw [bZ.2,hat,if_pos hE]⟩ G ⟨D,D,D,(cP G),bB⟩ (fun _ hm=>hm.pick [] [] [0] D D)
 refine dD (bI (bI (bY (bG (bJ (bX ?_))))))
 have hsc:scanE csE none l=0:=by rw [bZ.2,scanE_end _ _ _ _ G]
 clear bZ hk
 refine bS D (W (dP xS D) D (bS D (bU (bP ?_))))
 refine dS (γ:=Nat) (fun (k2:Nat)=>k2<=n/\l.any (upB l)=(l.drop k2).any (upB l)) (fun (k2:Nat)=> [(0,H A n c),(49,H A n c),(50,I n),(51,I k2)]) (fun (k2:Nat)=>fun _=>True) (fun (k2:Nat)=> []) (fun (k2:Nat)=> []) (fun (k2:Nat)=> [bT dQ 2 53 w.heap.size none A n l]) (fun (k2:Nat)=>n - k2) 0 ⟨Nat.zero_le _,D⟩ ⟨D,D,D,D,bB⟩ (fun _ hm=>hm.pick [] [] [0] D D) ?_
 intro k2 bZ
 replace bZ:k2<=n/\l.any (upB l)=(l.drop k2).any (upB l):=bZ
 refine bX (W (dF D D) D (bU (bJ ?_)))
 refine cN D (fun hk=>?_) (fun hk=>?_)
 ·refine bN (bG (bJ (bP (bX ?_))))
  obtain ⟨b,off,hA,_,_⟩:=hl.get G
  subst hA
  obtain ⟨x,hx⟩:∃x,l[k2]?=some x:=⟨_,fY9 G⟩
  obtain ⟨ke,up⟩:=x
  have hat:=cO5 (p:=upB l) hx
  have hk2:up.size<=1000000:=(hok _ (fZ9 hx)).2
  refine W (bV (j:=k2) xS D D G) D (W (dR (vs:= [U ke,U up]) bJ9 D (fun _ hm=>(hm.fact 0 D).1) hx D D) D (dM eL4 D fun g2=>kE (cs':= [U ke,U up]) 0 bJ9 D D D D (bU (bX (dZ zH D D (eO fR 0 D D D (W (xO D D) D (bS D ?_))))))))
  rcases Bool.eq_false_or_eq_true (!(up.toList==(⟨#[]⟩:M).toList)) with nJ|nJ
  ·refine bO 58 D (fW9 nJ) ?_
   have nJ:jB up=false:=by unfold jB;simpa only [Bool.not_eq_true'] using nJ
   refine eN D (bS D (eN D (dZ zH D D (eN D (eO fR 0 D D D (eN D (cR D cO8 D D (fun wx hm=>(vP l _ n c up wx (hm.fact 0 D).1 G)) (eN D (W (dF D D) D (mS D D (bU ?_)))))))))))
   refine cN D (fun h32=>?_) (fun h32=>?_)
   ·refine bX (cG D (bU ?_))
    refine bR (C (F (F (C (F ?_)))))
    have hE:upB l ⟨ke,up⟩=true:=by unfold upB;simp [nJ,h32]
    exact bQ D D fun wx hm=>⟨cL (by rw [fH0 h30 hsc (by rw [bZ.2,hat,hE];rfl)]),hm.g⟩
   refine bN (bK (bG (bM ?_)))
   have hE:upB l ⟨ke,up⟩=false:=by unfold upB;simp [nJ];omega
   refine fY D D (bS D (bH ?_))
   exact cQ (k2+1) ⟨G,by rw [bZ.2,hat,hE];rfl⟩ G ⟨D,D,D,(cP G),bB⟩ (fun _ hm=>hm.pick [] [] [0] D D)
  refine bO 58 D (fW9 nJ) ?_
  have nJ:jB up=true:=by unfold jB;simpa only [Bool.not_eq_false'] using nJ
  have hE:upB l ⟨ke,up⟩=false:=by unfold upB;simp [nJ]
  refine eE D (eE D (eE D (eE D (eE D (nV D D (bU (jK D (bN (bK (bG (bM (fY D D (bS D (bH ?_))))))))))))))
  exact cQ (k2+1) ⟨G,by rw [bZ.2,hat,hE];rfl⟩ G ⟨D,D,D,(cP G),bB⟩ (fun _ hm=>hm.pick [] [] [0] D D)
 refine dD (bI (bI (bY (bG (bJ (bX ?_))))))
 have hup:l.any (upB l)=false:=by rw [bZ.2,bN9 G]
 clear bZ hk
 have hcl:=cY3 hup
 have hlo:=eL0 h30 hsc hup
 refine bS D (W (dP xS D) D (bS D (bU (bP ?_))))
 refine dS (γ:=Nat) (fun (k3:Nat)=>k3<=n/\l.any (fun x=>inK x.key (eW l (n) x.key))=(l.drop k3).any (fun x=>inK x.key (eW l (n) x.key))) (fun (k3:Nat)=> [(0,H A n c),(66,H A n c),(67,I n),(68,I k3)]) (fun (k3:Nat)=>fun _=>True) (fun (k3:Nat)=> []) (fun (k3:Nat)=> []) (fun (k3:Nat)=> [bT dQ 2 53 w.heap.size none A n l]) (fun (k3:Nat)=>n - k3) 0 ⟨Nat.zero_le _,D⟩ ⟨D,D,D,D,bB⟩ (fun _ hm=>hm.pick [] [] [0] D D) ?_
 intro k3 bZ
 replace bZ:k3<=n/\l.any (fun x=>inK x.key (eW l (n) x.key))=(l.drop k3).any (fun x=>inK x.key (eW l (n) x.key)):=bZ
 refine bX ?_
 have hlo2:eR l=if l.any (fun x=>inK x.key (eW l (n) x.key))=true then 14 else 0:=by rw [hlo];unfold uI;rw [hlen]
 refine W (dF D D) D (bU (bJ ?_))
 refine cN D (fun hk=>?_) (fun hk=>?_)
 ·refine bN (bG (bJ (bP (bX ?_))))
  obtain ⟨b,off,hA,_,_⟩:=hl.get G
  subst hA
  obtain ⟨x,hx⟩:∃x,l[k3]?=some x:=⟨_,fY9 G⟩
  obtain ⟨ke,up⟩:=x
  have hat:=cO5 (p:=(fun x=>inK x.key (eW l (n) x.key))) hx
  have hk2:ke.size<=1000000:=(hok _ (fZ9 hx)).1
  have hix:0<=kL (nS ke) l 0:=by
   rcases vR (p:=nS ke) l 0 with ⟨_,h⟩|⟨j,x,h,_⟩
   ·have:=h _ (fZ9 hx)
    simp [nS] at this
   omega
  refine W (bV (j:=k3) xS D D G) D (W (dR (vs:= [U ke,U up]) bJ9 D (fun _ hm=>(hm.fact 0 D).1) hx D D) D (dM eL4 D fun g3=>kE (cs':= [U ke,U up]) 0 bJ9 D D D D (bU (bJ (gd (fun wz=>Blk wz g3 53 [U ke,U up]/\True) mixed (fun _ hm=>⟨hm.bl 0,bB⟩) fun z=>wq 0 D (bL D) (wq 1 D (bW vC D D) (wq 2 D (cH fR D (fun _ hm=>hm.1) D) (wq 4 D (bW vC D D) (wq 5 D (cH fR D (fun _ hm=>hm.1) D) (eD 3 D ?_))))))))))
  refine qX (γ:=Option Addr×Nat×Nat) (val:=(fun g=>H g.1 g.2.1 g.2.2)) (φ:=(fun g=>(eW l (n) ke).length=g.2.1)) (fun g=>⟨H g.1 g.2.1 g.2.2,9,1,g.2.1,(eW l (n) ke).flatMap dU⟩) D eC0 D D (fun wx hm=>(bS6 l _ n c ke wx (hm.fact 0 D).1 hcl hix G).mono fun _ _ ⟨A2,n2,c2,he,ho,hl2,hg⟩=>⟨(A2,n2,c2),he,hl2,ho,hg⟩) ?_
  rintro ⟨A2,n2,c2⟩ hpl
  dsimp only at hpl ⊢
  have hpb:=vG l (n) ke
  refine bH (nw 7 63 (fun _ hm=>⟨hm.bl 0,bB⟩) fun z=>eD 6 D (cR D eL8 D D (fun wx hm=>(cV5 (eW l (n) ke) A2 n2 c2 ke wx (SlT.ofOwn mQ (hm.ownI 0 D) hpl) G)) (bH (nw 7 127 (fun _ hm=>⟨hm.bl 0,bB⟩) fun z=>gY (bG ?_)))))
  refine dE D (fun hh=>?_) (fun hh=>?_)
  ·have h33:(inK ke (eW l (n) ke))=true:=by simpa using hh
   refine bX (cG D (bU (bR (C (F (F (C (F ?_))))))))
   exact bQ D D fun wx hm=>⟨cL (by rw [hlo2,if_pos (by rw [bZ.2,hat,h33];rfl)]),hm.g⟩
  have h33:(inK ke (eW l (n) ke))=false:=by simpa using hh
  refine bN (bK (bG (bM (fY D D (bS D (bH ?_))))))
  exact cQ (k3+1) ⟨G,by rw [bZ.2,hat,h33];rfl⟩ G ⟨D,D,D,(cP G),bB⟩ (fun _ hm=>hm.pick [] [] [0] D D)
 refine dD (bI (bI (bY (bG (bX (cG D (bU (bR ?_))))))))
 exact bQ D D fun wx hm=>⟨cL (by rw [hlo2,if_neg (by rw [bZ.2,bN9 G];decide)]),hm.g⟩
theorem bH3(l:List Cs)(ks:List M)(A A1:Option Addr)(n c n1 c1:Nat)(w:World)(hl:SlT dQ 2 53 w A n l)(hs:SlT dU 1 9 w A1 n1 ks)(hok:∀x∈l,pR x)(hn:n<=1000000)(qV:n1<=1000):
 Calls prog 119 #[H A n c,H A1 n1 c1] w (nG w (uH l ks)):=by
 refine cY ⟨24,w,none, []⟩ func119 D ntmps119 D (fZ (X:= [bT dQ 2 53 w.heap.size none A n l,bT dU 1 9 w.heap.size none A1 n1 ks]) (cC hl.old (cC hs.old cZ)) (cE bT.lasts (cE bT.lasts dA))) (bX ?_)
 have hlen:=hl.len
 have hlen1:=hs.len
 obtain ⟨CE,hCE⟩:∃E,E=eR l:=⟨_,rfl⟩
 refine cG D (bU (bJ (bX (bS D (cR (v:=J CE) D eB5 D D (fun wx hm=>(by rw [hCE];exact qQ l A n c wx (hm.fact 0 rfl).1 hok hn)) (cG D (bU (bX (bS D (W (gN D D) D (bU ?_)))))))))))
 refine gL D (fun h1=>?_) (fun h1=>?_)
 ·refine bX (bS D (cG D (bU ?_)))
  refine bR (F ?_)
  exact bQ D D fun wx hm=>⟨cL (by unfold uH;rw [<-hCE,if_pos (by simpa using h1)]),hm.g⟩
 refine bN (bG (bJ (bX ?_)))
 have hke:uH l ks=if ks.any (fun k=>decide (kL (nS k) l 0 < 0))=true then 8 else 0:=by unfold uH;rw [<-hCE,if_neg (by simpa using h1)]
 refine bS D (W (dP mD D) D (bS D (bU (bP ?_))))
 refine dS (γ:=Nat) (fun (i:Nat)=>i<=n1/\ks.any (fun k=>decide (kL (nS k) l 0 < 0))=(ks.drop i).any (fun k=>decide (kL (nS k) l 0 < 0))) (fun (i:Nat)=> [(0,H A n c),(13,H A1 n1 c1),(14,I n1),(15,I i)]) (fun (i:Nat)=>fun _=>True) (fun (i:Nat)=> []) (fun (i:Nat)=> []) (fun (i:Nat)=> [bT dQ 2 53 w.heap.size none A n l,bT dU 1 9 w.heap.size none A1 n1 ks]) (fun (i:Nat)=>n1 - i) 0 ⟨Nat.zero_le _,D⟩ ⟨D,D,D,D,bB⟩ (fun _ hm=>hm.pick [] [] [0,1] D D) ?_
 intro i bZ
 replace bZ:i<=n1/\ks.any (fun k=>decide (kL (nS k) l 0 < 0))=(ks.drop i).any (fun k=>decide (kL (nS k) l 0 < 0)):=bZ
 refine bX (W (dF D D) D (bU (bJ ?_)))
 refine cN D (fun hi=>?_) (fun hi=>?_)
 ·refine bN (bG (bJ (bP (bX ?_))))
  obtain ⟨b,off,hA,_,_⟩:=hs.get G
  subst hA
  obtain ⟨z0,hx⟩:∃x,ks[i]?=some x:=⟨_,fY9 G⟩
  have hat:=cO5 (p:=(fun k=>decide (kL (nS k) l 0 < 0))) hx
  refine W (bV (j:=i) mD D D G) D (W (dH (k:=0) (v:=U z0) fR D (fun _ hm=>(hm.fact 1 D).1) hx D D) D (cG D (bU (bX (bS D (bS D (cR D cO8 D D (fun wx hm=>(vP l A n c z0 wx (hm.fact 0 D).1 hn)) (W (dF D D) D (bU ?_)))))))))
  refine cN D (fun hq=>?_) (fun hq=>?_)
  ·refine bX (cG D (bU ?_))
   refine bR (C (F (F (C (F ?_)))))
   exact bQ D D fun wx hm=>⟨cL (by rw [hke,if_pos (by rw [bZ.2,hat,decide_eq_true hq];rfl)]),hm.g⟩
  refine bN (bK (bG (bM (fY D D (bS D (bH ?_))))))
  exact cQ (i+1) ⟨G,by rw [bZ.2,hat,decide_eq_false hq];rfl⟩ G ⟨D,D,D,(cP G),bB⟩ (fun _ hm=>hm.pick [] [] [0,1] D D)
 refine dD (bI (bI (bY (bG (bX (cG D (bU (bR ?_))))))))
 exact bQ D D fun wx hm=>⟨cL (by rw [hke,if_neg (by rw [bZ.2,bN9 G];decide)]),hm.g⟩
theorem cD7{l:List Cs}{ks:List M}(h:uH l ks=0):eR l=0/\∀k∈ks,0<=kL (nS k) l 0:=by
 unfold uH at h
 split at h
 ·rename_i h1;exact absurd h h1
 ·rename_i h1
  refine ⟨by simpa using h1,fun k hk=>?_⟩
  split at h
  ·cases h
  ·rename_i h2
   have h3:ks.any (fun k=>decide (kL (nS k) l 0 < 0))=false:=by simpa using h2
   rw [List.any_eq_false] at h3
   have:=h3 k hk
   simpa using this
theorem dC9(l:List Cs)(A:Option Addr)(n c:Nat)(ka kb:M)(w:World)(hl:SlT dQ 2 53 w A n l)(hcl:nY l)(hix:0<=kL (nS ka) l 0)(hn:n<=1000000):
 Calls prog 120 #[H A n c,U ka,U kb] w (nG w (vJ l ka kb)):=by
 refine cY ⟨20,w,none, []⟩ func120 D ntmps120 D (fZ (X:= [bT dQ 2 53 w.heap.size none A n l]) (cC hl.old cZ) (cE bT.lasts dA)) (bX ?_)
 have hlen:=hl.len
 refine cG D (bU (bJ (bX (bS D (bS D (W (eS D D) D (bU ?_)))))))
 refine dE D (fun hh=>?_) (fun hh=>?_)
 ·have h1:(ka.toList==kb.toList)=true:=by simpa using hh
  refine bX (cG D (bU (bR (F ?_))))
  exact bQ D D fun wx hm=>⟨cL (by unfold vJ;rw [if_pos (by simpa using h1)]),hm.g⟩
 have h1:(ka.toList==kb.toList)=false:=by simpa using hh
 refine bN (bG (bX (bS D (bS D ?_))))
 refine qX (γ:=Option Addr×Nat×Nat) (val:=(fun g=>H g.1 g.2.1 g.2.2)) (φ:=(fun g=>(eW l n ka).length=g.2.1)) (fun g=>⟨H g.1 g.2.1 g.2.2,9,1,g.2.1,(eW l n ka).flatMap dU⟩) D eC0 D D (fun wx hm=>(bS6 l _ n c ka wx (hm.fact 0 D).1 hcl hix G).mono fun _ _ ⟨A2,n2,c2,he,ho,hl2,hg⟩=>⟨(A2,n2,c2),he,hl2,ho,hg⟩) ?_
 rintro ⟨A2,n2,c2⟩ hpl
 dsimp only at hpl ⊢
 have hpb:=vG l n ka
 obtain ⟨IX,hIX⟩:∃E,E=kL (fun y=>kb.toList==y.toList) (eW l n ka) 0:=⟨_,rfl⟩
 have hixb:=bL7 (p:=fun y=>kb.toList==y.toList) (eW l n ka)
 rw [<-hIX] at hixb
 have hst:vJ l ka kb=if IX < 0 then -1 else IX+1:=by unfold vJ;rw [if_neg (by simpa using h1),hlen,<-hIX]
 refine bS D (cR (v:=J IX) D eF0 D D (fun wx hm=>(by rw [hIX];exact cI4 (eW l n ka) A2 n2 c2 kb wx (SlT.ofOwn mQ (hm.ownI 0 rfl) hpl) G)) (cG D (bU (bJ (bX (bS D (W (dF D D) D (bU ?_))))))))
 refine cN D (fun h2=>?_) (fun h2=>?_)
 ·refine bX (cG D ?_)
  refine bO 6 (v':=J (-1)) D D (bU (bR (F ?_)))
  exact bQ D D fun wx hm=>⟨cL (by rw [hst,if_pos h2]),hm.g⟩
 refine bN (bG (bX (bS D (fY D D (cG D (bU (bR ?_)))))))
 exact bQ D D fun wx hm=>⟨cL (by rw [hst,if_neg h2]),hm.g⟩
theorem rR{n v:Int}(h:pN n v)(hn:1<=n):0<=v/\v < n:=by unfold pN at h;omega
theorem cU4(lo hi:Int)(w:World)(B sb m:Nat)(hS:fQ 25 w B sb m)(hm:m<=1000000000000)(h1: -4611686018427387904<=lo)(h2:hi<=4611686018427387902)(h3:lo<=4611686018427387902)(h4: -4611686018427387904<=hi):
 Calls prog 6 #[.pointer (some ⟨sb,0,none⟩),J lo,J hi] w (cK5 25 w B sb (m+1) (fun v=>lo<=v/\(v<=hi∨v=lo))):=by
 by_cases hlt:hi < lo
 ·go_enter func6,ntmps6
  go_wp2_with fail
  go_ret
  exact ⟨lo,⟨G,.inr rfl⟩,D,hS.more G,World.grownBy.refl _ _⟩
 ·go_enter func6,ntmps6
  go_wp2_with fail
  refine (pF _ _ B sb m hS hm G G).mono ?_
  rintro e w1 ⟨v,hv,rfl,hS1,hg1⟩
  have hv:=rR hv G
  go_wp2_with fail
  go_ret
  exact ⟨lo+v,⟨G,.inl G⟩,D,hS1,hg1⟩
theorem mU(n:Int)(w:World)(B sb m:Nat)(hS:fQ 25 w B sb m)(hm:m<=1000000000000)(qV: -9223372036854775808<=n)(hn2:n<=9223372036854775807):
 Calls prog 39 #[.pointer (some ⟨sb,0,none⟩),J n] w (eR4 25 w B sb (m+1)):=by
 go_enter func39,ntmps39
 go_wp2_with fail
 refine (pF _ _ B sb m hS hm qV hn2).mono ?_
 rintro e w1 ⟨v,hv,rfl,hS1,hg1⟩
 go_wp2_with fail
 go_ret
 exact ⟨_,D,hS1,hg1⟩
theorem fV(xs:List Int)(g c:Nat)(T:TypeId)(w:World)(B sb m:Nat)(hS:fQ 25 w B sb m)(hm:m<=1000000000000)(hx:0 < xs.length)(hx2:xs.length<=1000000)(hg:Blk w g T (xs.map (Value.int .i64)))(hne:g≠sb):
 Calls prog 45 #[.pointer (some ⟨sb,0,none⟩),H (some ⟨g,0,none⟩) xs.length c] w (cK5 25 w B sb (m+1) (fun v=>v∈xs)):=by
 obtain ⟨n,hn⟩:∃n,n=xs.length:=⟨_,rfl⟩
 rw [<-hn] at hx hx2 ⊢
 have Hn:=Lib.hid hn;clear hn
 go_enter func45,ntmps45
 go_wp2_with fail
 refine (pF _ _ B sb m hS hm G G).mono ?_
 rintro e w1 ⟨v,hv,rfl,hS1,hg1⟩
 have hv:=rR hv G
 obtain ⟨i,rfl⟩:=Int.eq_ofNat_of_zero_le hv.1
 have hi:i < n:=G
 have hgb:=hg.grown hg1 (by simpa using hne)
 obtain ⟨x,hx⟩:∃x,xs[i]?=some x:=⟨_,fY9 (by have:=Hn.out;omega)⟩
 have hc:w1.cell? ⟨g,i,none⟩=some (J x):=hgb.cell_of (by simp [hx])
 have vE:x∈xs:=fZ9 hx
 clear hx hgb
 go_wp2_with fail
 go_ret
 exact ⟨x,vE,D,hS1,hg1⟩
theorem jE(xs:List M)(g c:Nat)(T:TypeId)(w:World)(B sb m:Nat)(hS:fQ 25 w B sb m)(hm:m<=1000000000000)(hx:0 < xs.length)(hx2:xs.length<=1000000)(hg:Blk w g T (xs.map Value.string))(hne:g≠sb):
 Calls prog 16 #[.pointer (some ⟨sb,0,none⟩),H (some ⟨g,0,none⟩) xs.length c] w (eP9 25 w B sb (m+1) (fun v=>v∈xs)):=by
 obtain ⟨n,hn⟩:∃n,n=xs.length:=⟨_,rfl⟩
 rw [<-hn] at hx hx2 ⊢
 have Hn:=Lib.hid hn;clear hn
 go_enter func16,ntmps16
 go_wp2_with fail
 refine (pF _ _ B sb m hS hm G G).mono ?_
 rintro e w1 ⟨v,hv,rfl,hS1,hg1⟩
 have hv:=rR hv G
 obtain ⟨i,rfl⟩:=Int.eq_ofNat_of_zero_le hv.1
 have hi:i < n:=G
 have hgb:=hg.grown hg1 (by simpa using hne)
 obtain ⟨x,hx⟩:∃x,xs[i]?=some x:=⟨_,fY9 (by have:=Hn.out;omega)⟩
 have hc:w1.cell? ⟨g,i,none⟩=some (U x):=hgb.cell_of (by simp [hx])
 have vE:x∈xs:=fZ9 hx
 clear hx hgb
 go_wp2_with fail
 go_ret
 exact ⟨x,vE,D,hS1,hg1⟩
theorem nL(lo hi:Int)(w:World)(B sb m:Nat)(hS:fQ 25 w B sb m)(hm:m<=900000000000)(h1: -1000000000000000<=lo)(h2:hi<=1000000000000000)(h3:lo<=hi):
 Calls prog 47 #[.pointer (some ⟨sb,0,none⟩),J lo,J hi] w (cK5 25 w B sb (m+2) (fun v=> -2000000000000000<=v/\v<=2000000000000000)):=by
 go_enter func47,ntmps47
 go_wp2_with fail
 refine (mU _ _ B sb m hS G G G).mono ?_
 rintro e w1 ⟨b,rfl,hS1,hg1⟩
 rcases b with _|_
 ·go_wp2_with fail
  refine (cU4 _ _ _ B sb (m+1) hS1 G G G G G).mono ?_
  rintro e w2 ⟨v,hv,rfl,hS2,hg2⟩
  go_wp2_with fail
  go_ret
  exact ⟨v,G,rfl,hS2,grow_trans hg1 hg2⟩
 ·go_wp2_with fail
  refine (fV [lo - 1,hi+1,lo,hi, -1099511627776,1099511627776] _ _ _ _ B sb (m+1) (hS1.alloc _) G (by simp) (by simp) (Blk.new _ _ _) (by have:=hS1.lt;omega)).mono ?_
  rintro e w2 ⟨v,hv,rfl,hS2,hg2⟩
  go_wp2_with fail
  go_ret
  refine ⟨v,by simp at hv;omega,rfl,hS2,grow_trans hg1 (grow_trans (grow_alloc (World.grownBy.refl _ _) _) hg2)⟩
theorem bH4{α:Type}{f:Option α->α->Int}{x:α}:∀{l:List α} {p:Option α},scanE f p l=0->f p x=0->(∀y∈l,f (some y) x=0)->scanE f p (l++ [x])=0
 | [],p,_,h,_=>by
  show (if f p x=0 then 0 else f p x)=0
  rw [if_pos h]
 |y::r,p,h,_,hq=>by
  have h1:f p y=0:=by
   unfold scanE at h
   by_cases e:f p y=0
   ·exact e
   ·rw [if_neg e] at h;exact h
  show (if f p y=0 then scanE f (some y) (r++ [x]) else f p y)=0
  rw [if_pos h1]
  refine bH4 ?_ (hq y (List.mem_cons_self ..)) (fun z hz=>hq z (List.mem_cons_of_mem _ hz))
  unfold scanE at h
  rw [if_pos h1] at h;exact h
theorem bK3{α:Type}{l:List α}{i:Nat}{x:α}(h:x∈l.take i):x∈l.take (i+1):=by
 obtain ⟨j,hj⟩:=List.getElem?_of_mem h
 rw [List.getElem?_take] at hj
 split at hj
 ·exact fZ9 (i:=j) (by rw [List.getElem?_take,if_pos G];exact hj)
 ·cases hj
theorem bO8{α:Type}{l:List α}{i:Nat}{x:α}(h:l[i]?=some x):x∈l.take (i+1):=
 fZ9 (i:=i) (by rw [List.getElem?_take,if_pos G];exact h)
def K4:List M:= [⟨#[118,49]⟩,⟨#[118,50]⟩,⟨#[118,51]⟩,⟨#[118,52]⟩]
def eE9(l:List M):Bool:=(List.range l.length).all fun i=>(l[i]?.elim true fun k=>keyB k&&(l.take i).all fun a=> !leB k a)
theorem fQ5:eE9 K4=true:=by decide+kernel
theorem eZ2{l:List M}{i:Nat}{k:M}(h:eE9 l=true)(hk:l[i]?=some k):keyB k=true/\∀a∈l.take i,leB k a=false:=by
 have hi:=(List.getElem?_eq_some_iff.1 hk).1
 have h1:=(List.all_eq_true.1 h) i (List.mem_range.2 hi)
 rw [hk] at h1
 have h2:(keyB k&&(l.take i).all fun a=> !leB k a)=true:=h1
 rw [Bool.and_eq_true] at h2
 refine ⟨h2.1,fun a ha=>?_⟩
 have h3:=(List.all_eq_true.1 h2.2) a ha
 cases h4:leB k a with
 |false=>rfl
 |true=>rw [h4] at h3;cases h3
def bB4:M:=⟨#[98,105,103]⟩
def yI:M:=⟨#[109,97,120,105]⟩
def bJ3:M:=⟨#[109,105,100,105]⟩
def cL4:M:=⟨#[109,105,110,105]⟩
def kNo:M:=⟨#[]⟩
def bD9(u1 u2 u3:M):List Cs:= [⟨bB4,kNo⟩,⟨yI,u1⟩,⟨bJ3,u2⟩,⟨cL4,u3⟩]
def ClG(l:List Cs):Prop:=∃u1 u2 u3,u1∈ [kNo,bB4]/\u2∈ [kNo,bB4,yI]/\u3∈ [kNo,bB4,yI,bJ3]/\l=bD9 u1 u2 u3
theorem dZ6:ClG [⟨⟨#[98,105,103]⟩,⟨#[]⟩⟩,⟨⟨#[109,97,120,105]⟩,⟨#[]⟩⟩,⟨⟨#[109,105,100,105]⟩,⟨#[]⟩⟩,⟨⟨#[109,105,110,105]⟩,⟨#[]⟩⟩]:=
 ⟨kNo,kNo,kNo,List.mem_cons_self ..,List.mem_cons_self ..,List.mem_cons_self ..,rfl⟩
theorem fE0:([kNo,bB4].all fun u1=> [kNo,bB4,yI].all fun u2=> [kNo,bB4,yI,bJ3].all fun u3=>decide (eR (bD9 u1 u2 u3)=0))=true:=by decide+kernel
theorem cX3{l:List Cs}(h:ClG l):eR l=0:=by
 obtain ⟨u1,u2,u3,h1,h2,h3,rfl⟩:=h
 exact of_decide_eq_true (List.all_eq_true.1 (List.all_eq_true.1 (List.all_eq_true.1 fE0 u1 h1) u2 h2) u3 h3)
theorem eH5{l:List Cs}{i j:Nat}{y0 y1 z0 z1:M}(h:ClG l)(hj:j < i)(hi:i < 4)(hy:l[j]?=some ⟨y0,y1⟩)(hz:l[i]?=some ⟨z0,z1⟩):ClG (l.set i ⟨z0,y0⟩):=by
 obtain ⟨u1,u2,u3,h1,h2,h3,rfl⟩:=h
 unfold bD9 at hy hz ⊢
 have hc:i=1∨i=2∨i=3:=G
 have hd:j=0∨j=1∨j=2:=G
 rcases hc with rfl|rfl|rfl <;> rcases hd with rfl|rfl|rfl <;> try omega
 all_goals
  simp only [List.getElem?_cons_zero,List.getElem?_cons_succ,Option.some.injEq,Cs.mk.injEq] at hy hz
  obtain ⟨rfl,_⟩:=hy
  obtain ⟨rfl,_⟩:=hz
  first
   |exact ⟨_,u2,u3,List.mem_cons_of_mem _ (List.mem_cons_self ..),h2,h3,rfl⟩
   |exact ⟨u1,_,u3,h1,List.mem_cons_of_mem _ (List.mem_cons_self ..),h3,rfl⟩
   |exact ⟨u1,_,u3,h1,List.mem_cons_of_mem _ (List.mem_cons_of_mem _ (List.mem_cons_self ..)),h3,rfl⟩
   |exact ⟨u1,u2,_,h1,h2,List.mem_cons_of_mem _ (List.mem_cons_self ..),rfl⟩
   |exact ⟨u1,u2,_,h1,h2,List.mem_cons_of_mem _ (List.mem_cons_of_mem _ (List.mem_cons_self ..)),rfl⟩
   |exact ⟨u1,u2,_,h1,h2,List.mem_cons_of_mem _ (List.mem_cons_of_mem _ (List.mem_cons_of_mem _ (List.mem_cons_self ..))),rfl⟩
def VhG(cl:List Cs)(i:Nat)(l:List Vh):Prop:=scanE (vhE cl) none l=0/\∀x∈l,x.key∈K4.take i
theorem eY7{cl:List Cs}{i:Nat}:VhG cl i []:=⟨rfl,fun _ h=>by cases h⟩
theorem dZ0{cl:List Cs}{p:Option Vh}{x:Vh}(h1:keyB x.key=true)(h2:cF7 p x=false)(h3:¬kL (nS x.cls) cl 0 < 0):vhE cl p x=0:=by
 unfold vhE
 rw [h1,h2,if_neg h3];rfl
theorem eJ0{cl:List Cs}{j:Nat}{c:Cs}(h:cl[j]?=some c):¬kL (nS c.key) cl 0 < 0:=by
 rcases vR (p:=nS c.key) cl 0 with ⟨_,h2⟩|⟨j,y,h2,_⟩
 ·have:=h2 c (fZ9 h)
  unfold nS at this
  simp at this
 ·omega
theorem eZ3{cl:List Cs}{i j:Nat}{l:List Vh}{k c0 c1:M}(h:VhG cl i l)(hk:K4[i]?=some k)(hc:cl[j]?=some ⟨c0,c1⟩):VhG cl (i+1) (l++ [⟨k,c0⟩]):=by
 obtain ⟨h1,h2⟩:=eZ2 fQ5 hk
 refine ⟨bH4 h.1 (dZ0 h1 D (eJ0 hc)) (fun y hy=>dZ0 h1 (h2 _ (h.2 y hy)) (eJ0 hc)),fun x hx=>?_⟩
 rcases List.mem_append.1 hx with hx|hx
 ·exact bK3 (h.2 x hx)
 ·rw [List.mem_singleton.1 hx];exact bO8 hk
theorem cI9{sl:List St}{cl:List Cs}{vl:List Vh}{i:Nat}(hs:stationsE sl=0)(hc:eR cl=0)(hv:VhG cl i vl)(hl:vl.length<=500):vY sl cl vl []=0:=by
 unfold vY dY0
 rw [hs,hc,if_neg G,hv.1];rfl
theorem cK4{α:Type}{p:α->Bool}:∀(l:List α) (k:Nat),kL p l (k+1)=if kL p l k < 0 then -1 else kL p l k+1
 | [],k=>rfl
 |x::r,k=>by
  unfold kL
  by_cases h:p x=true
  ·rw [if_pos h,if_pos h,if_neg G];rfl
  ·rw [if_neg h,if_neg h,cK4 r (k+1)]
theorem dB9{l:List Cs}{a b:M}(hc:nY l)(hl:uI l l.length=false):kL (fun y=>b.toList==y.toList) (a::eW l (l.length+1) a) 0=vJ l a b:=by
 rw [cR4 hc hl]
 show (if (b.toList==a.toList)=true then ((0:Nat):Int) else kL (fun y=>b.toList==y.toList) (eW l l.length a) 1)=_
 unfold vJ
 by_cases h:a.toList=b.toList
 ·rw [if_pos (by rw [h];exact beq_self_eq_true _),if_pos h];rfl
 ·rw [if_neg (by simp;exact fun e=>h e.symm),if_neg h,cK4]
theorem dS7(l:List Cs)(a:M):uH l [a]=dK [eR l,dO (decide (kL (nS a) l 0 < 0)) 8]:=by
 unfold uH dK
 by_cases h:eR l=0
 ·rw [if_neg (by rw [h];decide),if_pos h]
  cases h2:decide (kL (nS a) l 0 < 0) <;> simp [h2,dO,dK]
 ·rw [if_pos h,if_neg h]
theorem fI0{l:List Cs}{x:Cs}{j:Nat}(h:∀y∈l,pR y)(hx:pR x):∀y∈l.set j x,pR y:=fun y hy=>by
 rcases List.mem_or_eq_of_mem_set hy with hy|rfl
 ·exact h y hy
 ·exact hx
theorem cC8(l:List Cs)(A:Option Addr)(n c:Nat)(k:M)(w:World)(hl:SlT dQ 2 53 w A n l)(hok:∀x∈l,pR x)(hn:n<=1000000)(hb:uH l [k]=0):
 Calls prog 109 #[H A n c,U k] w (fun e w'=>∃(A2:Option Addr) (n2 c2:Nat),e=.returned (.tuple #[H A2 n2 c2,J 0])/\w'.ownsRow w.heap.size 9 1 (H A2 n2 c2) n2 ((eW l n k).flatMap dU)/\(eW l n k).length=n2/\w.grownBy w' none):=by
 refine cY ⟨17,w,none, []⟩ func109 D ntmps109 D (fZ (X:= [bT dQ 2 53 w.heap.size none A n l]) (cC hl.old cZ) (cE bT.lasts dA)) (bX ?_)
 have hlen:=hl.len
 obtain ⟨hc0,hix⟩:=cD7 hb
 have hix:=hix k (List.mem_cons_self ..)
 obtain ⟨h30,hcl,hlo⟩:=xE hc0
 refine cG D (cG D (bU (bJ (bX (bS D (bS D (jN 9 [U k] fun g1=>cR (v:=J 0) D eN8 D D (fun wx hm=>(by have h:=bH3 l [k] A _ n c 1 1 wx (hm.fact 0 rfl).1 (SlT.ofBlk (l:= [k]) mQ (hm.blkI 0 rfl)) hok hn G;rw [hb] at h;exact h)) (cG D (bU (bX (bS D (W (gN D D) D (bO 12 (v':= .bool false) D (fW9 bD) (bU (jK D (bN (bG (bX (bS D (bS D ?_))))))))))))))))))))
 refine qX (γ:=Option Addr×Nat×Nat) (val:=(fun g=>H g.1 g.2.1 g.2.2)) (φ:=(fun g=>(eW l n k).length=g.2.1)) (fun g=>⟨H g.1 g.2.1 g.2.2,9,1,g.2.1,(eW l n k).flatMap dU⟩) D eC0 D D (fun wx hm=>(bS6 l _ n c k wx (hm.fact 0 D).1 hcl hix G).mono fun _ _ ⟨A2,n2,c2,he,ho,hl2,hg⟩=>⟨(A2,n2,c2),he,hl2,ho,hg⟩) ?_
 rintro ⟨A2,n2,c2⟩ hpl
 dsimp only at hpl ⊢
 refine cG D (cG D (bU (bR ?_)))
 refine nU D D D fun wx hm=>?_
 exact ⟨A2,n2,c2,D,hm.ownI 0 D,hpl,hm.g⟩
theorem dT0(l:List Cs)(A:Option Addr)(n c:Nat)(ka kb:M)(w:World)(hl:SlT dQ 2 53 w A n l)(hok:∀x∈l,pR x)(hn:n<=1000000)(hb:uH l [ka,kb]=0):
 Calls prog 71 #[H A n c,U ka,U kb] w (fun e w'=>e=.returned (.tuple #[J (max (vJ l ka kb) 0),.bool (decide (0<=vJ l ka kb)),J 0])/\w.grownBy w' none):=by
 refine cY ⟨27,w,none, []⟩ func71 D ntmps71 D (fZ (X:= [bT dQ 2 53 w.heap.size none A n l]) (cC hl.old cZ) (cE bT.lasts dA)) (bX ?_)
 have hlen:=hl.len
 obtain ⟨hc0,hix⟩:=cD7 hb
 have hix:=hix ka (List.mem_cons_self ..)
 obtain ⟨h30,hcl,hlo⟩:=xE hc0
 refine cG D (cG D (cG D (bU (bJ (bX (bS D (bS D (bS D (jN 9 [U ka,U kb] fun g1=>cR (v:=J 0) D eN8 D D (fun wx hm=>(by have h:=bH3 l [ka,kb] A _ n c 2 2 wx (hm.fact 0 rfl).1 (SlT.ofBlk (l:= [ka,kb]) mQ (hm.blkI 0 rfl)) hok hn G;rw [hb] at h;exact h)) (cG D (bU (bX (bS D (W (gN D D) D (bO 17 (v':= .bool false) D (fW9 bD) (bU (jK D (bN (bG (bX (bS D (bS D (bS D (cR D fM3 D D (fun wx hm=>(dC9 l A n c ka kb wx (hm.fact 0 D).1 hcl hix G)) (cG D (bU (bX (bS D ?_))))))))))))))))))))))))))))
 refine W (eV2 D D) D (bS D (W (mE D D) D (cG D (cG D (cG D (bU (bR ?_)))))))
 refine dS5 D D D D fun wx hm=>?_
 exact ⟨D,hm.g⟩
theorem cJ3(w:World)(B sb m:Nat)(hS:fQ 25 w B sb m)(hm:m<=100000000000):
 Calls prog 15 #[.pointer (some ⟨sb,0,none⟩)] w (fun e w'=>∃(A:Option Addr) (c:Nat) (l:List Cs),e=.returned (H A 4 c)/\w'.ownsRow w.heap.size 53 2 (H A 4 c) 4 (l.flatMap dQ)/\(l.length=4/\ClG l)/\(∀x∈l,pR x)/\fQ 25 w' B sb (m+20)/\w.grownBy w' (some sb)):=by
 refine cY ⟨35,w,(some sb), []⟩ func15 D ntmps15 D (bU5 (X:= []) hS cZ dA) (bX (cG D (bU (bX (W (dL (cs:= [U ⟨#[98,105,103]⟩,U ⟨#[]⟩]) D bC) D (W (dL (cs:= [U ⟨#[109,97,120,105]⟩,U ⟨#[]⟩]) D bC) D (W (dL (cs:= [U ⟨#[109,105,100,105]⟩,U ⟨#[]⟩]) D bC) D (W (dL (cs:= [U ⟨#[109,105,110,105]⟩,U ⟨#[]⟩]) D bC) D (jN 53 [U ⟨#[98,105,103]⟩,U ⟨#[]⟩,U ⟨#[109,97,120,105]⟩,U ⟨#[]⟩,U ⟨#[109,105,100,105]⟩,U ⟨#[]⟩,U ⟨#[109,105,110,105]⟩,U ⟨#[]⟩] fun g1=>cG D (bU (bJ (bX (bS D (W (dP xS D) D (bO 11 (v':=J 4) D D (bS D (bU (bP ?_))))))))))))))))))
 refine cW0 (sz:=2) (n:=4) 0 [] D D D (by unfold maxLen;omega) ?_
 refine dS (γ:=Nat×List Cs) (fun g=>g.1<=4/\(g.2.length=4/\ClG g.2)/\(∀x∈g.2,pR x)) (fun g=> [(0,.pointer (some ⟨sb,0,none⟩)),(2,H none 0 0),(3,H (some ⟨g1,0,none⟩) 4 4),(11,J 4),(12,I (g.1))]) (fun g=>fun w=>fQ 25 w B sb (m+2 *g.1)) (fun g=> []) (fun g=> [⟨H (some ⟨g1,0,none⟩) 4 4,53,2,4,g.2.flatMap dQ⟩]) (fun g=> []) (fun g=>4 - g.1) (0, [⟨⟨#[98,105,103]⟩,⟨#[]⟩⟩,⟨⟨#[109,97,120,105]⟩,⟨#[]⟩⟩,⟨⟨#[109,105,100,105]⟩,⟨#[]⟩⟩,⟨⟨#[109,105,110,105]⟩,⟨#[]⟩⟩]) ⟨Nat.zero_le _,⟨D,dZ6⟩,by simp [pR] <;> decide⟩ ⟨D,D,D,D,D,bB⟩ (fun _ hm=>(hm.more D (by first|omega|(dsimp only;omega))).pick [] [0] [] D D) ?_
 rintro ⟨i,l⟩ bZ
 replace bZ:i<=4/\(l.length=4/\ClG l)/\(∀x∈l,pR x):=bZ
 dsimp only
 refine bX ?_
 obtain ⟨hi0,⟨hl4,hcg⟩,hok⟩:=bZ
 refine W (dF D D) D (bU (bJ ?_))
 refine cN D (fun hi=>?_) (fun hi=>?_)
 ·refine bN (bG (bJ (bP (bX (bS D (cG D (bU (bX (bS D ?_)))))))))
  refine W (eM D D) D (bS D ?_)
  rcases Bool.eq_false_or_eq_true (decide (0 < ((i:Nat):Int))) with h0|h0
  ·refine bO 17 D (fW9 h0) ?_
   have h0:=of_decide_eq_true h0
   refine eN D (bS D (eN D (dX (γ:=Bool) (val:=fun v=> .bool v) (φ:=fun v=>True) D bY6 D D D D (fun wx hm=>((mU _ wx B sb _ hm.k G G G).mono fun _ _ ⟨v,he,hS,hg⟩=>⟨v,bB,he,hS,hg⟩)) fun f2 _=>eN D (W (cS D) D (mS D D (bU ?_))))))
   refine dE D (fun hh=>?_) (fun hh=>?_)
   ·have hf:f2=false:=by simpa using hh
    refine bM (bS D (bS D (bS D (bS D (bS D (dX (γ:=Int) (val:=fun v=>J v) (φ:=fun v=>pN ((i:Nat):Int) v) D cR5 D D D D (fun wx hm=>(pF _ wx B sb _ hm.k G G G)) fun vj hvj=>?_))))))
    have hj:=rR hvj G
    obtain ⟨j,rfl⟩:=Int.eq_ofNat_of_zero_le hj.1
    have hji:j < 4:=G
    obtain ⟨y,hy⟩:∃y,l[j]?=some y:=⟨_,fY9 G⟩
    obtain ⟨z,hz⟩:∃z,l[i]?=some z:=⟨_,fY9 G⟩
    obtain ⟨y0,y1⟩:=y
    obtain ⟨z0,z1⟩:=z
    obtain ⟨hy0,hy1⟩:=hok _ (fZ9 hy)
    obtain ⟨hz0,hz1⟩:=hok _ (fZ9 hz)
    refine W (bV (j:=j) xS D D G) D (dZ vC D D (W (dH (k:=0) (v:=U y0) fR D (fun _ hm=>(SlT.ofOwn dZ1 (hm.ownI 0 D) hl4)) hy D D) D (W (bV (j:=i) xS D D G) D (dZ zH D D (jG (l:=l) (j:=i) (r:=1) (el:=⟨z0,z1⟩) (el':=⟨z0,y0⟩) 0 fR D D D D dZ1 D hz hl4 (show 1 < 2 by decide) D D (bH (bK (bG (bM (fY D D (bS D (bH ?_))))))))))))
    exact cQ (i+1,l.set i ⟨z0,y0⟩) ⟨bE,⟨by simp [hl4],eH5 hcg (show j < i by omega) G hy hz⟩,fI0 hok ⟨hz0,hy0⟩⟩ bE ⟨D,D,D,D,(cP G),bB⟩ (fun _ hm=>(hm.more D (by first|omega|(dsimp only;omega))).pick [] [0] [] D D)
   have hf:f2=true:=by simpa using hh
   refine bN (bK (bG (bM (fY D D (bS D (bH ?_))))))
   exact cQ (i+1,l) ⟨bE,⟨hl4,hcg⟩,hok⟩ bE ⟨D,D,D,D,(cP G),bB⟩ (fun _ hm=>(hm.more D (by first|omega|(dsimp only;omega))).pick [] [0] [] D D)
  refine bO 17 D (fW9 h0) (eE D (eE D (eE D (nV D D (bU (jK D (bN (bK (bG (bM (fY D D (bS D (bH ?_)))))))))))))
  exact cQ (i+1,l) ⟨bE,⟨hl4,hcg⟩,hok⟩ bE ⟨D,D,D,D,(cP G),bB⟩ (fun _ hm=>(hm.more D (by first|omega|(dsimp only;omega))).pick [] [0] [] D D)
 refine dD (bI (bI (bY (bG (bX (bS D (cG D (bU (bR ?_)))))))))
 exact bQ D D fun wx hm=>⟨_,4,l,D,hm.ownI 0 D,⟨hl4,hcg⟩,hok,hm.k.more G,hm.g⟩
def onT(T:List (Int×Int))(x:Int):Nat:=T.countP (fun t=>inB x t.1 (t.2 - 1))
theorem dJ3(T:List (Int×Int))(x:Int):onT T x<=T.length:=List.countP_le_length
def cF0(f:Int->Nat)(st:Int×Int)(x:Int):Int×Int:=if st.1 < (f x:Int) then ((f x:Int),x) else st
def rU(f:Int->Nat)(S:List Int):Int×Int:=S.foldl (cF0 f) (-1,0)
theorem bQ3{f:Int->Nat}{S:List Int}{k:Nat}{x:Int}(h:S[k]?=some x):rU f (S.take (k+1))=cF0 f (rU f (S.take k)) x:=by
 unfold rU
 rw [List.take_add_one,h,List.foldl_append];rfl
def dR1(f:Int->Nat)(M':List Int)(st:Int×Int):Prop:=st.2∈M'/\(f st.2:Int)=st.1/\∀x∈M',(f x:Int)<=st.1/\((f x:Int)=st.1->st.2<=x)
theorem cV3{f:Int->Nat}{S:List Int}(hs:S.Pairwise (fun a b=>a<=b)):∀k,k < S.length->dR1 f (S.take (k+1)) (rU f (S.take (k+1)))
 |0,h=>by
  cases S with
  |nil=>simp at h
  |cons x r=>
   have e:rU f ((x::r).take (0+1))=((f x:Int),x):=by
    show cF0 f (-1,0) x=_
    unfold cF0
    rw [if_pos bE]
   rw [e]
   refine ⟨by simp,rfl,fun y hy=>?_⟩
   have hyx:y=x:=by simpa using hy
   subst hyx
   exact ⟨Int.le_refl _,fun _=>Int.le_refl _⟩
 |k+1,h=>by
  have ih:=cV3 (f:=f) hs k G
  have hx:S[k+1]?=some (S[k+1]):=fY9 h
  have hle:∀y∈S.take (k+1),y<=S[k+1]:=fun y hy=>by
   obtain ⟨i,hi,rfl⟩:=List.getElem_of_mem hy
   rw [List.length_take] at hi
   rw [List.getElem_take]
   exact List.pairwise_iff_getElem.1 hs i (k+1) G h G
  rw [bQ3 hx]
  generalize S[k+1]=x at *
  generalize rU f (S.take (k+1))=st at *
  obtain ⟨h1,h2,h3⟩:=ih
  rw [List.take_add_one,hx]
  unfold cF0
  by_cases hc:st.1 < (f x:Int)
  ·rw [if_pos hc]
   refine ⟨by simp,rfl,fun y hy=>?_⟩
   dsimp only
   rcases List.mem_append.1 hy with hy|hy
   ·have:=(h3 y hy).1
    exact ⟨G,fun e=>G⟩
   ·have hyx:y=x:=by simpa using hy
    subst hyx
    exact ⟨Int.le_refl _,fun _=>Int.le_refl _⟩
  ·rw [if_neg hc]
   refine ⟨List.mem_append_left _ h1,h2,fun y hy=>?_⟩
   rcases List.mem_append.1 hy with hy|hy
   ·exact h3 y hy
   ·have hyx:y=x:=by simpa using hy
    subst hyx
    exact ⟨G,fun _=>hle _ h1⟩
theorem cU3{f:Int->Nat}{S:List Int}(hs:S.Pairwise (fun a b=>a<=b))(hn:0 < S.length):dR1 f S (rU f S):=by
 have h:=cV3 (f:=f) hs (S.length - 1) G
 rw [show S.length - 1+1=S.length by omega,List.take_length] at h
 exact h
end Go.Proofs.YtapdhfjfgpbnnaaGreatDoor
namespace Go.Proofs
open Go.Shelf
def Tryz.lays189_ren:Go.Shelf.Ren:=⟨fun|189=>70|125=>105|257=>118|128=>154|129=>155|294=>159|295=>160|296=>161|297=>162|298=>163|299=>164|216=>165|300=>166|301=>167|328=>193|329=>187|330=>188|331=>194|332=>195|215=>143|343=>219|n=>n,fun|28=>22|3=>3|46=>185|0=>0|51=>239|53=>241|4=>4|183=>233|182=>232|131=>117|5=>5|9=>9|218=>275|222=>279|228=>311|229=>108|n=>n,fun|n=>n⟩
theorem Tryz.lays189:Go.Proofs.Lays.n189 prog Tryz.lays189_ren:={
 mixed:=by kernel_rfl
 f125:=func105.trans (congrArg some (by kernel_rfl))
 f128:=func154.trans (congrArg some (by kernel_rfl))
 f129:=func155.trans (congrArg some (by kernel_rfl))
 f189:=func70.trans (congrArg some (by kernel_rfl))
 f215:=func143.trans (congrArg some (by kernel_rfl))
 f216:=func165.trans (congrArg some (by kernel_rfl))
 f257:=func118.trans (congrArg some (by kernel_rfl))
 f294:=func159.trans (congrArg some (by kernel_rfl))
 f295:=func160.trans (congrArg some (by kernel_rfl))
 f296:=func161.trans (congrArg some (by kernel_rfl))
 f297:=func162.trans (congrArg some (by kernel_rfl))
 f298:=func163.trans (congrArg some (by kernel_rfl))
 f299:=func164.trans (congrArg some (by kernel_rfl))
 f300:=func166.trans (congrArg some (by kernel_rfl))
 f301:=func167.trans (congrArg some (by kernel_rfl))
 f328:=func193.trans (congrArg some (by kernel_rfl))
 f329:=func187.trans (congrArg some (by kernel_rfl))
 f330:=func188.trans (congrArg some (by kernel_rfl))
 f331:=func194.trans (congrArg some (by kernel_rfl))
 f332:=func195.trans (congrArg some (by kernel_rfl))
 f343:=func219.trans (congrArg some (by kernel_rfl))
 t0:=Tryz.underlying0
 a0:=Tryz.isAgg0
 z0:=Tryz.sizeOf0
 v0:=Tryz.zeroValue0
 t3:=Tryz.underlying3
 a3:=Tryz.isAgg3
 z3:=Tryz.sizeOf3
 v3:=Tryz.zeroValue3
 t4:=Tryz.underlying4
 a4:=Tryz.isAgg4
 z4:=Tryz.sizeOf4
 v4:=Tryz.zeroValue4
 t5:=Tryz.underlying5
 a5:=Tryz.isAgg5
 z5:=Tryz.sizeOf5
 v5:=Tryz.zeroValue5
 t9:=Tryz.underlying9
 a9:=Tryz.isAgg9
 z9:=Tryz.sizeOf9
 v9:=Tryz.zeroValue9
 t28:=Tryz.underlying22
 a28:=Tryz.isAgg22
 z28:=Tryz.sizeOf22
 v28:=Tryz.zeroValue22
 t46:=Tryz.underlying185
 a46:=Tryz.isAgg185
 z46:=Tryz.sizeOf185
 v46:=Tryz.zeroValue185
 t51:=Tryz.underlying239
 a51:=Tryz.isAgg239
 z51:=Tryz.sizeOf239
 v51:=Tryz.zeroValue239
 t53:=Tryz.underlying241
 a53:=Tryz.isAgg241
 z53:=Tryz.sizeOf241
 v53:=Tryz.zeroValue241
 t131:=Tryz.underlying117
 a131:=Tryz.isAgg117
 z131:=Tryz.sizeOf117
 v131:=Tryz.zeroValue117
 t182:=Tryz.underlying232
 a182:=Tryz.isAgg232
 z182:=Tryz.sizeOf232
 v182:=Tryz.zeroValue232
 t183:=Tryz.underlying233
 a183:=Tryz.isAgg233
 z183:=Tryz.sizeOf233
 v183:=Tryz.zeroValue233
 t218:=Tryz.underlying275
 a218:=Tryz.isAgg275
 z218:=Tryz.sizeOf275
 v218:=Tryz.zeroValue275
 t222:=Tryz.underlying279
 a222:=Tryz.isAgg279
 z222:=Tryz.sizeOf279
 v222:=Tryz.zeroValue279
 t228:=Tryz.underlying311
 a228:=Tryz.isAgg311
 z228:=Tryz.sizeOf311
 v228:=Tryz.zeroValue311
 t229:=Tryz.underlying108
 a229:=Tryz.isAgg108
 z229:=Tryz.sizeOf108
 v229:=Tryz.zeroValue108 }
end Go.Proofs
namespace Go.Proofs.YtapdhfjfgpbnnaaGreatDoor
open Tryz
open Go.RowKit Go.Sort
def gS(z:Int):List Value:= [J z]
theorem xL(z:Int):(gS z).length=1:=rfl
theorem cY6:∀l:List Int,l.flatMap gS=l.map (Value.int .i64)
 | []=>rfl
 |x::r=>by rw [List.flatMap_cons,cY6 r];rfl
def bN0(l:List Int):List Int:=l.mergeSort fun x y=>decide (x<=y)
theorem wK(l:List Int):(bN0 l).length=l.length:=by unfold bN0;simp
theorem dV8{l:List Int}{x:Int}:x∈bN0 l↔x∈l:=by unfold bN0;simp
theorem cE2(l:List Int):(bN0 l).Pairwise (fun a b=>a<=b):=by
 have h:=List.pairwise_mergeSort (le:=fun x y:Int=>decide (x<=y)) (fun a b c h1 h2=>by simp at *;omega) (fun a b=>by simp;omega) l
 exact h.imp (fun h=>by simpa using h)
theorem eJ3(zs:List Int)(g n eX base:Nat)(w:World)(h:w.ownsRow base 3 1 (H (some ⟨g,0,none⟩) n eX) n (zs.flatMap gS))(hn:zs.length=n)(qV:n<=1000000):
 Calls prog 70 #[H (some ⟨g,0,none⟩) n eX] w (fun e w'=>e=.returned (.tuple #[])/\w'.ownsRow base 3 1 (H (some ⟨g,0,none⟩) n eX) n ((bN0 zs).flatMap gS)/\w.grownBy w' (some g)):=by
 subst hn
 obtain ⟨h1,h2⟩:=h
 rcases h2 with ⟨h2,_⟩|⟨g',cap',uY,hv,hbase,hh,hle,hmax,hcs,htk⟩
 ·cases h2
 ·injection hv with hA _ hc
  have hgg:g'=g:=by injection hA with hA;injection hA with hA;exact hA.symm
  subst hgg hc
  rw [Nat.mul_one] at hcs htk
  have hcell:∀j,j < zs.length->uY[j]?=some (J zs[j]!):=fun j hj=>by
   have h3:(uY.toList.take zs.length)[j]?=some (J zs[j]!):=by
    rw [htk,cY6,List.getElem?_map,fY9 hj,Option.map_some]
    congr 2
    exact (getElem!_pos zs j hj).symm
   rw [List.getElem?_take,if_pos G] at h3
   simpa using h3
  have hH:Holds (Value.int .i64) w g' 0 zs.toArray:=fun j hj=>by
   have hj':j < zs.length:=by simpa using hj
   refine ⟨?_,?_⟩
   ·rw [Nat.zero_add,cell_of_row w g' j uY _ (0,0) hh,hcell j hj']
    simp [hj']
   ·exact frozen_of_row w g' (0+j) uY _ hh
  have hblk:g' < w.heap.size:=(Array.getElem?_eq_some_iff.1 hh).1
  have hcon:=Any.slices_Sort_int Tryz.lays189 g' 0 eX zs w hH hblk G
  refine Calls.mono hcon ?_
  rintro e w' ⟨rfl,m,os,rfl⟩
  have hsz:(zs.mergeSort fun x y=>decide (x<=y)).toArray.size=zs.length:=by simp
  have hnew:(grow (putRow (Value.int .i64) (Sort.ahead w m) g' 0 (zs.mergeSort fun x y=>decide (x<=y)).toArray) os).heap[g']?=some (.cells (putCells (Value.int .i64) 0 (zs.mergeSort fun x y=>decide (x<=y)).toArray uY) 3 (0,0)):=by
   unfold grow putRow mapBlock Sort.ahead
   simp only
   rw [Array.getElem?_append_left (by simpa using hblk),Array.getElem?_modify,if_pos rfl,hh];rfl
  refine ⟨D,⟨by rw [cY6,List.length_map,wK,Nat.mul_one],.inr ⟨g',eX,_,rfl,hbase,hnew,hle,hmax,by simp [putCells,hcs],?_⟩⟩,⟨D,D,D,by simp [grow,putRow,mapBlock],fun k hk hne=>?_⟩⟩
  ·rw [cY6,Nat.mul_one]
   refine List.ext_getElem? fun j=>?_
   rw [List.getElem?_take]
   by_cases hj:j < zs.length
   ·have hjc:j < uY.size:=G
    have hj2:j < (bN0 zs).length:=by rw [wK];omega
    rw [if_pos hj,List.getElem?_map,fY9 hj2]
    unfold putCells
    simp only [Array.getElem?_toList,Array.getElem?_mapIdx]
    rw [Array.getElem?_eq_getElem hjc]
    simp only [Option.map_some]
    rw [if_pos (by rw [hsz];omega)]
    congr 2
    simp only [Nat.sub_zero]
    rw [getElem!_pos _ j (by rw [hsz];omega)]
    rfl
   ·rw [if_neg hj,List.getElem?_eq_none (by rw [List.length_map,wK];omega)]
  ·unfold grow putRow mapBlock Sort.ahead
   simp only
   rw [Array.getElem?_append_left (by simpa using hk),Array.getElem?_modify,if_neg (fun e=>hne (by rw [e]))]
structure Sk where
 cls:M
 many:Int
def jA(x:Sk):List Value:= [U x.cls,J x.many]
theorem cD2(x:Sk):(jA x).length=2:=rfl
def cA0(x:Sk):Prop:=x.cls.size<=1000000/\ -2000000000000000<=x.many/\x.many<=2000000000000000
def xY(cs:List Cs)(k:M):Bool:=decide (kL (nS k) cs 0 < 0)
def nH(cs:List Cs)(l:List Bk):Int:=if uO l≠0 then uO l else if l.any (fun b=>xY cs b.cls)=true then 8 else 0
def gC(cs:List Cs)(l:List Bk):Int:=dK [eR cs,nH cs l]
def eE2(p:Option Sk)(b:Sk):Bool:=match p with
 |none=>false
 |some q=>leB b.cls q.cls
def skE(cs:List Cs)(p:Option Sk)(b:Sk):Int:=if xY cs b.cls=true then 8 else if eE2 p b then 7 else if !inB b.many 0 100 then 1 else 0
def qF(cs:List Cs)(l:List Sk):Int:=dK [eR cs,if 30 < l.length then 2 else scanE (skE cs) none l]
theorem eK0{cs:List Cs}(h:eR cs=0):∀x∈cs,keyB x.key=true:=fun x hx=>by
 unfold eR at h
 split at h
 ·cases h
 ·split at h
  ·rename_i h2;exact absurd h h2
  ·rename_i h2
   obtain ⟨q,hq⟩:=bQ2 (by simpa using h2:scanE csE none cs=0) x hx
   unfold csE at hq
   cases hk:keyB x.key with
   |true=>rfl
   |false=>rw [hk] at hq;simp at hq
theorem fC1{cs:List Cs}(h:eR cs=0){k:M}(hk:xY cs k=false):keyB k=true:=by
 unfold xY at hk
 obtain ⟨x,_,hx,e⟩:=bT1 (by simpa using hk:0<=kL (nS k) cs 0)
 rw [<-e];exact eK0 h x hx
def qM:List Sk->M->Int
 | [],_=>0
 |x::r,k=>if x.cls.toList==k.toList then x.many else qM r k
theorem eH2{l:List Sk}{i:Nat}{x:Sk}{k:M}(h:l[i]?=some x):qM (l.drop i) k=if x.cls.toList==k.toList then x.many else qM (l.drop (i+1)) k:=by
 obtain ⟨hi,rfl⟩:=List.getElem?_eq_some_iff.1 h
 rw [List.drop_eq_getElem_cons hi];rfl
theorem dU7{l:List Sk}{i:Nat}{k:M}(h:l.length<=i):qM (l.drop i) k=0:=by rw [List.drop_eq_nil_of_le h];rfl
theorem cZ9{l:List Sk}(h:∀x∈l,cA0 x)(k:M): -2000000000000000<=qM l k/\qM l k<=2000000000000000:=by
 induction l with
 |nil=>unfold qM;omega
 |cons x r ih=>
  have h1:=h x (List.mem_cons_self ..)
  have h2:=ih (fun y hy=>h y (List.mem_cons_of_mem _ hy))
  unfold qM
  split
  ·exact h1.2
  ·exact h2
def mY(k:M):List Bk->List (Int×Int)
 | []=> []
 |b::r=>if b.cls.toList==k.toList then (b.fr,b.to_)::mY k r else mY k r
def bD1(t:Int×Int):List Value:= [J t.1,J t.2]
theorem eB4(t:Int×Int):(bD1 t).length=2:=rfl
theorem bK6(k:M):∀l:List Bk,(mY k l).length<=l.length
 | []=>Nat.le_refl _
 |b::r=>by
  have:=bK6 k r
  unfold mY
  split <;> simp only [List.length_cons] <;> omega
theorem cC5{l:List Bk}{i:Nat}{b:Bk}{k:M}(h:l[i]?=some b):mY k (l.take (i+1))=mY k (l.take i)++(if b.cls.toList==k.toList then [(b.fr,b.to_)] else []):=by
 have happ:∀a c:List Bk,mY k (a++c)=mY k a++mY k c:=fun a c=>by
  induction a with
  |nil=>rfl
  |cons x r ih=>
   rw [List.cons_append,mY,mY]
   split <;> simp [ih]
 rw [List.take_add_one,h,happ]
 congr 1
theorem cL2{k:M}{t:Int×Int}:∀{l:List Bk},t∈mY k l↔∃b∈l,(b.cls.toList==k.toList)=true/\t=(b.fr,b.to_)
 | []=>by simp [mY]
 |b::r=>by
  unfold mY
  split
  ·rename_i hb
   rw [List.mem_cons,cL2 (l:=r)]
   constructor
   ·rintro (rfl|⟨x,hx,h1,h2⟩)
    ·exact ⟨b,List.mem_cons_self ..,hb,D⟩
    ·exact ⟨x,List.mem_cons_of_mem _ hx,h1,h2⟩
   ·rintro ⟨x,hx,h1,h2⟩
    rcases List.mem_cons.1 hx with rfl|hx
    ·exact .inl h2
    ·exact .inr ⟨x,hx,h1,h2⟩
  ·rename_i hb
   rw [cL2 (l:=r)]
   constructor
   ·rintro ⟨x,hx,h1,h2⟩;exact ⟨x,List.mem_cons_of_mem _ hx,h1,h2⟩
   ·rintro ⟨x,hx,h1,h2⟩
    rcases List.mem_cons.1 hx with rfl|hx
    ·exact absurd h1 hb
    ·exact ⟨x,hx,h1,h2⟩
theorem eS2{l:List Bk}{i:Nat}{b:Bk}{k:M}{x:Int}(h:l[i]?=some b):onT (mY k (l.take (i+1))) x=onT (mY k (l.take i)) x+(if (b.cls.toList==k.toList)&&inB x b.fr (b.to_ - 1) then 1 else 0):=by
 rw [cC5 h]
 unfold onT
 rw [List.countP_append]
 congr 1
 cases hk:b.cls.toList==k.toList
 ·rfl
 ·simp [List.countP_cons]
theorem eR2{T:List (Int×Int)}{i:Nat}{t:Int×Int}{x:Int}(h:T[i]?=some t):onT (T.take (i+1)) x=onT (T.take i) x+(if inB x t.1 (t.2 - 1) then 1 else 0):=by
 unfold onT
 rw [List.take_add_one,h,List.countP_append]
 congr 1
 simp [List.countP_cons]
def vD(a b:Int):List (Int×Int)->List Int
 | []=> []
 |t::r=>if inB t.1 a (b - 1) then t.1::vD a b r else vD a b r
theorem dF7{T:List (Int×Int)}{i:Nat}{t:Int×Int}{a b:Int}(h:T[i]?=some t):vD a b (T.take (i+1))=vD a b (T.take i)++(if inB t.1 a (b - 1) then [t.1] else []):=by
 have happ:∀x y:List (Int×Int),vD a b (x++y)=vD a b x++vD a b y:=fun x y=>by
  induction x with
  |nil=>rfl
  |cons u r ih=>
   rw [List.cons_append,vD,vD]
   split <;> simp [ih]
 rw [List.take_add_one,h,happ]
 congr 1
theorem cU0{a b x:Int}:∀{T:List (Int×Int)},x∈vD a b T↔∃t∈T,t.1=x/\a<=x/\x < b
 | []=>by simp [vD]
 |t::r=>by
  unfold vD
  cases hb:inB t.1 a (b - 1) with
  |true=>
   have hb2:=nK.1 hb
   rw [if_pos rfl,List.mem_cons,cU0 (T:=r)]
   constructor
   ·rintro (rfl|⟨u,hu,h1,h2⟩)
    ·exact ⟨t,List.mem_cons_self ..,D,G,G⟩
    ·exact ⟨u,List.mem_cons_of_mem _ hu,h1,h2⟩
   ·rintro ⟨u,hu,h1,h2⟩
    rcases List.mem_cons.1 hu with rfl|hu
    ·exact .inl h1.symm
    ·exact .inr ⟨u,hu,h1,h2⟩
  |false=>
   rw [if_neg bD,cU0 (T:=r)]
   constructor
   ·rintro ⟨u,hu,h1,h2⟩;exact ⟨u,List.mem_cons_of_mem _ hu,h1,h2⟩
   ·rintro ⟨u,hu,h1,h2⟩
    rcases List.mem_cons.1 hu with rfl|hu
    ·exact absurd (nK.2 (show a<=u.1/\u.1<=b - 1 by omega)) (by rw [hb];decide)
    ·exact ⟨u,hu,h1,h2⟩
theorem bX1(ke:M)(up:M)(gk:Nat)(k:M)(w:World)(hk:Blk w gk 9 [U k]):
 Calls prog 69 #[.agg #[U ke,U up],.pointer (some ⟨gk,0,none⟩)] w (fun e w'=>e=.returned (.bool (nS k ⟨ke,up⟩))/\w.grownBy w' none):=by
 refine cY ⟨8,w,none, []⟩ func69 D ntmps69 D (fZ (X:= [eC w.heap.size none gk 9 [U k]]) (cC hk.old cZ) (cE eC.lasts dA)) (bX (fS D D D fun g1=>cG D (bU (bX (dZ vC D D (eO fR 0 D D D (W (cH (v:=U k) fR D (fun _ hm=>(hm.fact 0 D).2) D) D (W (eS D D) D (cG D (bU (bR ?_)))))))))))
 exact bQ D D fun wx hm=>⟨D,hm.g⟩
theorem bW0(l:List Cs)(A:Option Addr)(n c0:Nat)(gk:Nat)(k:M)(w:World)(hl:SlT dQ 2 53 w A n l)(hn:n<=1000000)(hk:Blk w gk 9 [U k]):
 Calls prog 117 #[H A n c0,.func (.func 69) #[] #[.pointer (some ⟨gk,0,none⟩)]] w (nG w (kL (nS k) l 0)):=by
 refine cY ⟨19,w,none, []⟩ func117 D ntmps117 D (fZ (X:= [bT dQ 2 53 w.heap.size none A n l,eC w.heap.size none gk 9 [U k]]) (cC hl.old (cC hk.old cZ)) (cE bT.lasts (cE eC.lasts dA))) (bX ?_)
 have hlen:=hl.len
 refine cG D (bU (bJ (bX (bS D (W (dP xS D) D (bS D (bU (bP ?_))))))))
 refine dS (γ:=Nat) (fun (i:Nat)=>i<=n/\kL (nS k) l 0=kL (nS k) (l.drop i) i) (fun (i:Nat)=> [(0,H A n c0),(1,.func (.func 69) #[] #[.pointer (some ⟨gk,0,none⟩)]),(7,I n),(8,I i)]) (fun (i:Nat)=>fun _=>True) (fun (i:Nat)=> []) (fun (i:Nat)=> []) (fun (i:Nat)=> [bT dQ 2 53 w.heap.size none A n l,eC w.heap.size none gk 9 [U k]]) (fun (i:Nat)=>n - i) 0 ⟨Nat.zero_le _,D⟩ ⟨D,D,D,D,bB⟩ (fun _ hm=>hm.pick [] [] [0,1] D D) ?_
 intro i bZ
 replace bZ:i<=n/\kL (nS k) l 0=kL (nS k) (l.drop i) i:=bZ
 refine bX (W (dF D D) D (bU (bJ ?_)))
 refine cN D (fun hi=>?_) (fun hi=>?_)
 ·refine bN (bG (bJ (bP (bX ?_))))
  obtain ⟨b,off,hA,_,_⟩:=hl.get G
  subst hA
  obtain ⟨x,hx⟩:∃x,l[i]?=some x:=⟨_,fY9 G⟩
  obtain ⟨ke,up⟩:=x
  have hat:=bS1 (p:=nS k) hx
  refine bS D (cG D (bU (bX (bS D (bS D (bS D (W (bV (j:=i) xS D D G) D (W (dR (vs:= [U ke,U up]) bJ9 D (fun _ hm=>(hm.fact 0 D).1) hx D D) D (cR D fV7 D D (fun wx hm=>(bX1 ke up gk k wx (hm.fact 1 D).2)) (bU ?_))))))))))
  refine dE D (fun hh=>?_) (fun hh=>?_)
  ·have hq:(nS k ⟨ke,up⟩)=true:=by simpa using hh
   refine bX (bS D (cG D (bU (bR (C (F (F (C (F ?_)))))))))
   exact bQ D D fun wx hm=>⟨cL (by rw [bZ.2,hat,if_pos hq]),hm.g⟩
  have hq:(nS k ⟨ke,up⟩)=false:=by simpa using hh
  refine bN (bK (bG (bM (fY D D (bS D (bH ?_))))))
  exact cQ (i+1) ⟨G,by rw [bZ.2,hat,if_neg (by rw [hq];decide)]⟩ G ⟨D,D,D,(cP G),bB⟩ (fun _ hm=>hm.pick [] [] [0,1] D D)
 refine dD (bI (bI (bY (bG (bX (cG D (bO 4 (v':=J (-1)) D D (bU (bR ?_)))))))))
 exact bQ D D fun wx hm=>⟨cL (by rw [bZ.2,List.drop_eq_nil_of_le G];rfl),hm.g⟩
theorem eT1(l:List Cs)(A:Option Addr)(n c0:Nat)(gk:Nat)(k:M)(w:World)(hl:SlT dQ 2 53 w A n l)(hn:n<=1000000)(hk:Blk w gk 9 [U k]):
 Calls prog 68 #[H A n c0,.func (.func 69) #[] #[.pointer (some ⟨gk,0,none⟩)]] w (fun e w'=>e=.returned (.bool (decide (0<=kL (nS k) l 0)))/\w.grownBy w' none):=by
 refine cY ⟨9,w,none, []⟩ func68 D ntmps68 D (fZ (X:= [bT dQ 2 53 w.heap.size none A n l,eC w.heap.size none gk 9 [U k]]) (cC hl.old (cC hk.old cZ)) (cE bT.lasts (cE eC.lasts dA))) (bX (cG D (bU (bX (bS D (bS D (cR D eM8 D D (fun wx hm=>(bW0 l A n c0 gk k wx (hm.fact 0 D).1 hn (hm.fact 1 D).2)) (W (mE D D) D (cG D (bU (bR ?_)))))))))))
 exact bQ D D fun wx hm=>⟨D,hm.g⟩
theorem uF(cs:List Cs)(A0:Option Addr)(n0 c0:Nat)(k:M)(w:World)(hcs:SlT dQ 2 53 w A0 n0 cs)(_hco:∀x∈cs,pR x)(hn0:n0<=1000):
 Calls prog 30 #[H A0 n0 c0,U k] w (fun e w'=>e=.returned (.bool (!xY cs k))/\w.grownBy w' none):=by
 refine cY ⟨8,w,none, []⟩ func30 D ntmps30 D (fZ (X:= [bT dQ 2 53 w.heap.size none A0 n0 cs]) (cC hcs.old cZ) (cE bT.lasts dA)) (bX (fS D D D fun g1=>cG D (bU (bX (bS D (W (pL D D) D (cR D fU7 D D (fun wx hm=>(eT1 cs A0 n0 c0 _ k wx (hm.fact 0 D).1 G (hm.blkI 0 D))) (cG D (bU (bR ?_))))))))))
 exact bQ D D fun wx hm=>⟨by unfold xY;cases h:decide (kL (nS k) cs 0 < 0) <;> simp at h ⊢ <;> omega,hm.g⟩
theorem cU8(cs:List Cs)(A0:Option Addr)(n0 c0:Nat)(l:List Bk)(A:Option Addr)(n c:Nat)(w:World)(hcs:SlT dQ 2 53 w A0 n0 cs)(pI:∀x∈cs,pR x)(hn0:n0<=1000)(hl:SlT eV 6 87 w A n l)(hok:∀x∈l,bM3 x)(hn:n<=1000):
 Calls prog 67 #[H A0 n0 c0,H A n c] w (nG w (nH cs l)):=by
 refine cY ⟨25,w,none, []⟩ func67 D ntmps67 D (fZ (X:= [bT dQ 2 53 w.heap.size none A0 n0 cs,bT eV 6 87 w.heap.size none A n l]) (cC hcs.old (cC hl.old cZ)) (cE bT.lasts (cE bT.lasts dA))) (bX ?_)
 have hlen:=hl.len
 obtain ⟨FE,hFE⟩:∃E,E=uO l:=⟨_,rfl⟩
 refine cG D (bU (bJ (bX (bS D (cR (v:=J FE) D fL3 D D (fun wx hm=>(by rw [hFE];exact dI2 l A n c wx (hm.fact 1 rfl).1 hok G)) (cG D (bU (bX (bS D (W (gN D D) D (bU ?_)))))))))))
 refine gL D (fun h1=>?_) (fun h1=>?_)
 ·refine bX (bS D (cG D (bU ?_)))
  refine bR (F ?_)
  exact bQ D D fun wx hm=>⟨cL (by unfold nH;rw [<-hFE,if_pos (by simpa using h1)]),hm.g⟩
 refine bN (bG (bJ (bX ?_)))
 have hke:nH cs l=if l.any (fun b=>xY cs b.cls)=true then 8 else 0:=by unfold nH;rw [<-hFE,if_neg (by simpa using h1)]
 refine bS D (W (dP pU D) D (bS D (bU (bP ?_))))
 refine dS (γ:=Nat) (fun (i:Nat)=>i<=n/\l.any (fun b=>xY cs b.cls)=(l.drop i).any (fun b=>xY cs b.cls)) (fun (i:Nat)=> [(0,H A0 n0 c0),(13,H A n c),(14,I n),(15,I i)]) (fun (i:Nat)=>fun _=>True) (fun (i:Nat)=> []) (fun (i:Nat)=> []) (fun (i:Nat)=> [bT dQ 2 53 w.heap.size none A0 n0 cs,bT eV 6 87 w.heap.size none A n l]) (fun (i:Nat)=>n - i) 0 ⟨Nat.zero_le _,D⟩ ⟨D,D,D,D,bB⟩ (fun _ hm=>hm.pick [] [] [0,1] D D) ?_
 intro i bZ
 replace bZ:i<=n/\l.any (fun b=>xY cs b.cls)=(l.drop i).any (fun b=>xY cs b.cls):=bZ
 refine bX (W (dF D D) D (bU (bJ ?_)))
 refine cN D (fun hi=>?_) (fun hi=>?_)
 ·refine bN (bG (bJ (bP (bX ?_))))
  obtain ⟨b,off,hA,_,_⟩:=hl.get G
  subst hA
  obtain ⟨x,hx⟩:∃x,l[i]?=some x:=⟨_,fY9 G⟩
  obtain ⟨ke,cl,fr,tt,md,od⟩:=x
  have hat:=cO5 (p:=(fun b=>xY cs b.cls)) hx
  refine W (bV (j:=i) pU D D G) D (W (dR (vs:= [U ke,U cl,J fr,J tt,J md,J od]) bZ1 D (fun _ hm=>(hm.fact 1 D).1) hx D D) D (dM dM1 D fun g1=>kE (cs':= [U ke,U cl,J fr,J tt,J md,J od]) 0 bZ1 D D D D (bU (bX (bS D (dZ bF7 D D (eO fR 0 D D D (cR D eI0 D D (fun wx hm=>(uF cs A0 n0 c0 cl wx (hm.fact 0 D).1 pI hn0)) (W (cS D) D (bU ?_))))))))))
  refine dE D (fun hh=>?_) (fun hh=>?_)
  ·have hq:(!xY cs cl)=false:=by simpa using hh
   refine bX ?_
   have hb:xY cs cl=true:=by simpa using hq
   refine cG D (bU (bR (C (F (F (C (F ?_)))))))
   exact bQ D D fun wx hm=>⟨cL (by rw [hke,if_pos (by rw [bZ.2,hat,hb];rfl)]),hm.g⟩
  have hq:(!xY cs cl)=true:=by simpa using hh
  refine bN (bK (bG (bM ?_)))
  have hb:xY cs cl=false:=by simpa using hq
  refine fY D D (bS D (bH ?_))
  exact cQ (i+1) ⟨G,by rw [bZ.2,hat,hb];rfl⟩ G ⟨D,D,D,(cP G),bB⟩ (fun _ hm=>hm.pick [] [] [0,1] D D)
 refine dD (bI (bI (bY (bG (bX (cG D (bU (bR ?_))))))))
 exact bQ D D fun wx hm=>⟨cL (by rw [hke,if_neg (by rw [bZ.2,bN9 G];decide)]),hm.g⟩
theorem bP3(cs:List Cs)(A0:Option Addr)(n0 c0:Nat)(l:List Bk)(A:Option Addr)(n c:Nat)(w:World)(hcs:SlT dQ 2 53 w A0 n0 cs)(pI:∀x∈cs,pR x)(hn0:n0<=1000)(hl:SlT eV 6 87 w A n l)(hok:∀x∈l,bM3 x)(hn:n<=1000):
 Calls prog 29 #[H A0 n0 c0,H A n c] w (nG w (gC cs l)):=by
 refine cY ⟨12,w,none, []⟩ func29 D ntmps29 D (fZ (X:= [bT dQ 2 53 w.heap.size none A0 n0 cs,bT eV 6 87 w.heap.size none A n l]) (cC hcs.old (cC hl.old cZ)) (cE bT.lasts (cE bT.lasts dA))) (bX ?_)
 obtain ⟨CE,hCE⟩:∃E,E=eR cs:=⟨_,rfl⟩
 obtain ⟨KE,hKE⟩:∃E,E=nH cs l:=⟨_,rfl⟩
 refine cG D (bU (bX (bS D (cR (v:=J CE) D eB5 D D (fun wx hm=>(by rw [hCE];exact qQ cs A0 n0 c0 wx (hm.fact 0 rfl).1 pI G)) (bS D (bS D (cR (v:=J KE) D fT7 D D (fun wx hm=>(by rw [hKE];exact cU8 cs A0 n0 c0 l A n c wx (hm.fact 0 rfl).1 pI hn0 (hm.fact 1 rfl).1 hok hn)) (jN 48 [J CE,J KE] fun g1=>dC D vO D D (fun wx hm=>(fP [CE,KE] _ _ _ wx (hm.blkI 0 D) (by simp))) (cG D (bU (bR ?_)))))))))))
 exact bQ D D fun wx hm=>⟨cL (by unfold gC;rw [hCE,hKE]),hm.g⟩
theorem dU0{cs:List Cs}{sl:List Sk}(h:dK [eR cs,dO (decide (30 < ((sl.length:Nat):Int))) 2]≠0):qF cs sl=dK [eR cs,dO (decide (30 < ((sl.length:Nat):Int))) 2]:=by
 unfold qF
 by_cases h30:30 < sl.length
 ·rw [if_pos h30,decide_eq_true G];rfl
 ·rw [decide_eq_false G] at h ⊢
  unfold dK at h ⊢
  by_cases hc:eR cs=0
  ·rw [if_pos hc] at h;exact absurd rfl h
  ·rw [if_neg hc,if_neg hc]
theorem dB4{a:Int}{n:Nat}(h:dK [a,dO (decide (30 < ((n:Nat):Int))) 2]=0):a=0/\¬30 < n:=by
 unfold dK at h
 by_cases ha:a=0
 ·refine ⟨ha,fun h30=>?_⟩
  rw [if_pos ha,decide_eq_true G] at h
  exact absurd h bD
 ·rw [if_neg ha] at h;exact absurd h ha
theorem dC4{cs:List Cs}{sl:List Sk}(h:eR cs=0)(h30:¬30 < sl.length):qF cs sl=scanE (skE cs) none sl:=by
 unfold qF
 rw [if_neg h30,h]
 show dK [0,_]=_
 exact bN1 _
theorem cL0(cs:List Cs)(A0:Option Addr)(n0 c0:Nat)(sl:List Sk)(A1:Option Addr)(n1 c1:Nat)(w:World)(hcs:SlT dQ 2 53 w A0 n0 cs)(pI:∀x∈cs,pR x)(hn0:n0<=1000)(hs:SlT jA 2 57 w A1 n1 sl)(_hso:∀x∈sl,cA0 x)(qV:n1<=1000):
 Calls prog 59 #[H A0 n0 c0,H A1 n1 c1] w (nG w (qF cs sl)):=by
 refine cY ⟨52,w,none, []⟩ func59 D ntmps59 D (fZ (X:= [bT dQ 2 53 w.heap.size none A0 n0 cs,bT jA 2 57 w.heap.size none A1 n1 sl]) (cC hcs.old (cC hs.old cZ)) (cE bT.lasts (cE bT.lasts dA))) (bX ?_)
 have hlen:=hs.len
 obtain ⟨CE,hCE⟩:∃E,E=eR cs:=⟨_,rfl⟩
 refine cG D (bU (bJ (bX (bS D (cR (v:=J CE) D eB5 D D (fun wx hm=>(by rw [hCE];exact qQ cs A0 n0 c0 wx (hm.fact 0 rfl).1 pI G)) (bS D (W (dP cW5 D) D (W (eM D D) D (dC D qB D D (fun wx hm=>(eH _ _ wx)) (jN 48 [J CE,J (dO (decide (30 < ((n1:Nat):Int))) 2)] fun g1=>dC D vO D D (fun wx hm=>(fP [CE,dO (decide (30 < ((n1:Nat):Int))) 2] _ _ _ wx (hm.blkI 0 D) (by simp))) (cG D (bU (bX (bS D (W (gN D D) D (bU ?_))))))))))))))))
 refine gL D (fun h1=>?_) (fun h1=>?_)
 ·refine bX (bS D (cG D (bU ?_)))
  refine bR (F ?_)
  exact bQ D D fun wx hm=>⟨cL (by rw [dU0 (by rw [<-hCE];simpa [hlen] using h1),<-hCE,hlen]),hm.g⟩
 refine bN (bG (bJ (bX ?_)))
 have h1b:dK [CE,dO (decide (30 < ((n1:Nat):Int))) 2]=0:=by simpa using h1
 obtain ⟨h0,h30⟩:=dB4 h1b
 have h0:eR cs=0:=hCE.symm.trans h0
 have hse:qF cs sl=scanE (skE cs) none sl:=dC4 h0 G
 refine bS D (W (dP cW5 D) D (bS D (bU (bP ?_))))
 refine dS (γ:=Nat) (fun (k:Nat)=>k<=n1/\scanE (skE cs) none sl=scanE (skE cs) (prevOf sl k) (sl.drop k)) (fun (k:Nat)=> [(0,H A0 n0 c0),(1,H A1 n1 c1),(19,H A1 n1 c1),(20,I n1),(21,I k)]) (fun (k:Nat)=>fun _=>True) (fun (k:Nat)=> [(g1,48, [J CE,J (dO (decide (30 < ((n1:Nat):Int))) 2)])]) (fun (k:Nat)=> []) (fun (k:Nat)=> [bT dQ 2 53 w.heap.size none A0 n0 cs,bT jA 2 57 w.heap.size none A1 n1 sl]) (fun (k:Nat)=>n1 - k) 0 ⟨Nat.zero_le _,D⟩ ⟨D,D,D,D,D,bB⟩ (fun _ hm=>hm.pick [0] [] [0,1] D D) ?_
 intro k bZ
 replace bZ:k<=n1/\scanE (skE cs) none sl=scanE (skE cs) (prevOf sl k) (sl.drop k):=bZ
 refine bX (W (dF D D) D (bU (bJ ?_)))
 refine cN D (fun hk=>?_) (fun hk=>?_)
 ·refine bN (bG (bJ (bP (bX ?_))))
  obtain ⟨b,off,hA,_,_⟩:=hs.get G
  subst hA
  obtain ⟨x,hx⟩:∃x,sl[k]?=some x:=⟨_,fY9 G⟩
  obtain ⟨ke,mn⟩:=x
  have hat:=scanE_at (skE cs) sl k _ hx
  refine bS D (W (bV (j:=k) cW5 D D G) D (W (dR (vs:= [U ke,J mn]) eD3 D (fun _ hm=>(hm.fact 1 D).1) hx D D) D (dM fF6 D fun g2=>cG D (kE (cs':= [U ke,J mn]) 0 eD3 D D D D (bU (bP (bX (bS D (dZ cT0 D D (eO fR 0 D D D (cR D eI0 D D (fun wx hm=>(uF cs A0 n0 c0 ke wx (hm.fact 0 D).1 pI hn0)) (W (cS D) D (cG D (bU ?_))))))))))))))
  refine dE D (fun hh=>?_) (fun hh=>?_)
  ·have h2:(!xY cs ke)=false:=by simpa using hh
   refine bX ?_
   have hb:xY cs ke=true:=by simpa using h2
   refine cG D (bU (bR (C (C (F (F (C (F ?_))))))))
   have hE:skE cs (prevOf sl k) ⟨ke,mn⟩=8:=by unfold skE;simp [hb]
   exact bQ D D fun wx hm=>⟨cL (by rw [hse,bZ.2,hat,if_neg (by rw [hE];decide),hE]),hm.g⟩
  have h2:(!xY cs ke)=true:=by simpa using hh
  refine bJ ?_
  have hb:xY cs ke=false:=by simpa using h2
  have hkb:keyB ke=true:=fC1 h0 hb
  by_cases hk0:k=0
  ·have hO:eE2 (prevOf sl k) ⟨ke,mn⟩=false:=by rw [pM hk0];rfl
   refine gd (fun wz=>True) mixed (fun _ _=>bB) fun z=>wq 0 D (bL D) (wq 1 D (eM D D) (dI 34 (v':= .bool false) D (fW9 (decide_eq_false G)) (wq 2 D (bL D) (eL 3 D (eL 4 D (eL 5 D (eL 6 D (eL 7 D (eL 8 D (eL 9 D (eL 10 D (eL 11 D (wq 12 D (eZ D D) (wq 13 D (dB D) (gY (bG (jK D (bX (dZ cP6 D D (eO fM 0 D D D (dC D pS D D (fun wx hm=>(in_any _ _ _ wx)) (W (cS D) D (cG D (bU ?_))))))))))))))))))))))))
   refine dE D (fun hh=>?_) (fun hh=>?_)
   ·have h3:(inB mn 0 100)=false:=by simpa using hh
    refine bX (cG D (bU (bR (C (C (F (F (C (F ?_)))))))))
    have hE:skE cs (prevOf sl k) ⟨ke,mn⟩=1:=by unfold skE;simp [hb,hO,h3]
    exact bQ D D fun wx hm=>⟨cL (by rw [hse,bZ.2,hat,if_neg (by rw [hE];decide),hE]),hm.g⟩
   have h3:(inB mn 0 100)=true:=by simpa using hh
   refine bN (bK (bK (bG (bM ?_))))
   have hE:skE cs (prevOf sl k) ⟨ke,mn⟩=0:=by unfold skE;simp [hb,hO,h3]
   refine fY D D (bS D (bH ?_))
   exact cQ (k+1) ⟨G,by rw [bZ.2,hat,if_pos hE]⟩ G ⟨D,D,D,D,(cP G),bB⟩ (fun _ hm=>hm.pick [1] [] [0,1] D D)
  obtain ⟨y,hy⟩:∃x,sl[k - 1]?=some x:=⟨_,fY9 G⟩
  obtain ⟨p0,p1⟩:=y
  refine gd (fun wz=>Blk wz g2 57 [U ke,J mn]/\(bT jA 2 57 w.heap.size none (some ⟨b,off,none⟩) n1 sl) wz/\True) mixed (fun _ hm=>⟨hm.bl 0,hm.fa 1,bB⟩) fun z=>wq 0 D (bL D) (wq 1 D (eM D D) (dI 34 (v':= .bool true) D (fW9 (decide_eq_true G)) (wq 2 D (bL D) (eU 3 D (bW cT0 D D) (eU 4 D (cH fR D (fun _ hm=>hm.1) D) (eU 5 D (bL D) (eU 6 D (bL D) (eU 7 D (ov_sub D D G G) (dI 40 (v':=I (k - 1)) D (fX9 G) (eU 8 D (bV (j:=k - 1) cW5 D D G) (eU 9 D (bW cT0 D D) (eU 10 D (dH (k:=0) (v:=U p0) fR D (fun _ hm=>(hm.2.1).1) hy D D) (eU 11 D (wH D D) (wq 12 D (fG D D) (wq 13 D (dB D) (gY (bG ?_)))))))))))))))))
  refine dE D (fun hh=>?_) (fun hh=>?_)
  ·have h9:(Op.bytesLess ke.toList p0.toList||ke.toList==p0.toList)=true:=by simpa using hh
   refine bX ?_
   have hO:eE2 (prevOf sl k) ⟨ke,mn⟩=true:=by rw [jZ hk0 hy];exact h9
   refine cG D (bU (bR (C (C (F (F (C (F ?_))))))))
   have hE:skE cs (prevOf sl k) ⟨ke,mn⟩=7:=by unfold skE;simp [hb,hO]
   exact bQ D D fun wx hm=>⟨cL (by rw [hse,bZ.2,hat,if_neg (by rw [hE];decide),hE]),hm.g⟩
  have h9:(Op.bytesLess ke.toList p0.toList||ke.toList==p0.toList)=false:=by simpa using hh
  refine bX ?_
  have hO:eE2 (prevOf sl k) ⟨ke,mn⟩=false:=by rw [jZ hk0 hy];exact h9
  refine dZ cP6 D D (eO fM 0 D D D (dC D pS D D (fun wx hm=>(in_any _ _ _ wx)) (W (cS D) D (cG D (bU ?_)))))
  refine dE D (fun hh=>?_) (fun hh=>?_)
  ·have h3:(inB mn 0 100)=false:=by simpa using hh
   refine bX (cG D (bU (bR (C (C (F (F (C (F ?_)))))))))
   have hE:skE cs (prevOf sl k) ⟨ke,mn⟩=1:=by unfold skE;simp [hb,hO,h3]
   exact bQ D D fun wx hm=>⟨cL (by rw [hse,bZ.2,hat,if_neg (by rw [hE];decide),hE]),hm.g⟩
  have h3:(inB mn 0 100)=true:=by simpa using hh
  refine bN (bK (bK (bG (bM ?_))))
  have hE:skE cs (prevOf sl k) ⟨ke,mn⟩=0:=by unfold skE;simp [hb,hO,h3]
  refine fY D D (bS D (bH ?_))
  exact cQ (k+1) ⟨G,by rw [bZ.2,hat,if_pos hE]⟩ G ⟨D,D,D,D,(cP G),bB⟩ (fun _ hm=>hm.pick [1] [] [0,1] D D)
 refine dD (bI (bI (bY (bG (bX (cG D (bU (bR ?_))))))))
 exact bQ D D fun wx hm=>⟨cL (by rw [hse,bZ.2,scanE_end _ _ _ _ G]),hm.g⟩
theorem yX(cs:List Cs)(A0:Option Addr)(n0 c0:Nat)(sl:List Sk)(A1:Option Addr)(n1 c1:Nat)(l:List Bk)(A:Option Addr)(n c:Nat)(w:World)(hcs:SlT dQ 2 53 w A0 n0 cs)(pI:∀x∈cs,pR x)(hn0:n0<=1000)(hs:SlT jA 2 57 w A1 n1 sl)(hso:∀x∈sl,cA0 x)(qV:n1<=1000)(hl:SlT eV 6 87 w A n l)(hok:∀x∈l,bM3 x)(hn:n<=1000):
 Calls prog 25 #[H A0 n0 c0,H A1 n1 c1,H A n c] w (nG w (dK [qF cs sl,gC cs l])):=by
 refine cY ⟨15,w,none, []⟩ func25 D ntmps25 D (fZ (X:= [bT dQ 2 53 w.heap.size none A0 n0 cs,bT jA 2 57 w.heap.size none A1 n1 sl,bT eV 6 87 w.heap.size none A n l]) (cC hcs.old (cC hs.old (cC hl.old cZ))) (cE bT.lasts (cE bT.lasts (cE bT.lasts dA)))) (bX ?_)
 obtain ⟨SE,hSE⟩:∃E,E=qF cs sl:=⟨_,rfl⟩
 obtain ⟨KE,hKE⟩:∃E,E=gC cs l:=⟨_,rfl⟩
 refine cG D (bU (bX (bS D (bS D (cR (v:=J SE) D fR7 D D (fun wx hm=>(by rw [hSE];exact cL0 cs A0 n0 c0 sl A1 n1 c1 wx (hm.fact 0 rfl).1 pI hn0 (hm.fact 1 rfl).1 hso qV)) (bS D (bS D (cR (v:=J KE) D eV9 D D (fun wx hm=>(by rw [hKE];exact bP3 cs A0 n0 c0 l A n c wx (hm.fact 0 rfl).1 pI hn0 (hm.fact 2 rfl).1 hok hn)) (jN 48 [J SE,J KE] fun g1=>dC D vO D D (fun wx hm=>(fP [SE,KE] _ _ _ wx (hm.blkI 0 D) (by simp))) (cG D (bU (bR ?_))))))))))))
 exact bQ D D fun wx hm=>⟨cL (by rw [hSE,hKE]),hm.g⟩
theorem cI1(sl:List Sk)(A1:Option Addr)(n1 c1:Nat)(k:M)(w:World)(hs:SlT jA 2 57 w A1 n1 sl)(_hso:∀x∈sl,cA0 x)(qV:n1<=1000):
 Calls prog 33 #[H A1 n1 c1,U k] w (nG w (qM sl k)):=by
 refine cY ⟨20,w,none, []⟩ func33 D ntmps33 D (fZ (X:= [bT jA 2 57 w.heap.size none A1 n1 sl]) (cC hs.old cZ) (cE bT.lasts dA)) (bX ?_)
 have hlen:=hs.len
 refine cG D (bU (bJ (bX (bS D (W (dP cW5 D) D (bS D (bU (bP ?_))))))))
 refine dS (γ:=Nat) (fun (i:Nat)=>i<=n1/\qM sl k=qM (sl.drop i) k) (fun (i:Nat)=> [(1,U k),(7,H A1 n1 c1),(8,I n1),(9,I i)]) (fun (i:Nat)=>fun _=>True) (fun (i:Nat)=> []) (fun (i:Nat)=> []) (fun (i:Nat)=> [bT jA 2 57 w.heap.size none A1 n1 sl]) (fun (i:Nat)=>n1 - i) 0 ⟨Nat.zero_le _,D⟩ ⟨D,D,D,D,bB⟩ (fun _ hm=>hm.pick [] [] [0] D D) ?_
 intro i bZ
 replace bZ:i<=n1/\qM sl k=qM (sl.drop i) k:=bZ
 refine bX (W (dF D D) D (bU (bJ ?_)))
 refine cN D (fun hi=>?_) (fun hi=>?_)
 ·refine bN (bG (bJ (bP (bX ?_))))
  obtain ⟨b,off,hA,_,_⟩:=hs.get G
  subst hA
  obtain ⟨x,hx⟩:∃x,sl[i]?=some x:=⟨_,fY9 G⟩
  obtain ⟨ke,mn⟩:=x
  have hat:=eH2 (k:=k) hx
  refine W (bV (j:=i) cW5 D D G) D (W (dR (vs:= [U ke,J mn]) eD3 D (fun _ hm=>(hm.fact 0 D).1) hx D D) D (dM fF6 D fun g1=>kE (cs':= [U ke,J mn]) 0 eD3 D D D D (bU (bX (dZ cT0 D D (eO fR 0 D D D (bS D (W (eS D D) D (bU ?_)))))))))
  refine dE D (fun hh=>?_) (fun hh=>?_)
  ·have hq:(ke.toList==k.toList)=true:=by simpa using hh
   refine bX (dZ cP6 D D (eO fM 0 D D D (cG D (bU (bR (C (F (F (C (F ?_))))))))))
   exact bQ D D fun wx hm=>⟨cL (by rw [bZ.2,hat,if_pos hq]),hm.g⟩
  have hq:(ke.toList==k.toList)=false:=by simpa using hh
  refine bN (bK (bG (bM (fY D D (bS D (bH ?_))))))
  exact cQ (i+1) ⟨G,by rw [bZ.2,hat,if_neg (by rw [hq];decide)]⟩ G ⟨D,D,D,(cP G),bB⟩ (fun _ hm=>hm.pick [] [] [0] D D)
 refine dD (bI (bI (bY (bG (bX (cG D (bU (bR ?_))))))))
 exact bQ D D fun wx hm=>⟨cL (by rw [bZ.2,dU7 G]),hm.g⟩
theorem cE9{a b c:Int}(h:dK [a,b,c]=0):a=0/\b=0/\c=0:=
 ⟨Classical.byContradiction fun hc=>hc (uD h a (by simp)),Classical.byContradiction fun hc=>hc (uD h b (by simp)),Classical.byContradiction fun hc=>hc (uD h c (by simp))⟩
noncomputable def cE8(cl:List Cs)(s:As)(b:Bk):As:=itC (gC cl [b]=0/\(s.fb b.key).isSome=false/\(s.gh b.key).isSome=false) { s with fb:=gZ s.fb b.key b } s
theorem cN5{σ:Os}{k:M}:((gR σ).gh k).isSome=(σ.fh k).isSome:=by show ((σ.fh k).map hrG).isSome=_;rw [Option.isSome_map]
theorem rT{b:Bool}{n:Int}(hn:n≠0)(h:dO b n=0):b=false:=by
 cases b
 ·rfl
 ·exact absurd h hn
theorem dZ9(w0:World)(u0 u2 u3 u4 u5 u6 u7 u8 u9 jR jS jT jU jV jW:Value)(go gv gs gI gF gG gJ gO:Nat)(cA:Option Addr)(cn cc:Nat)(cl:List Cs)(V:M->Option M)(T:M->Option Bool)(rv:Value)(rn:Nat)(rx:List Value)(hd: [gv,gs,gI,gF,gG,gJ,gO].Nodup)(q1 q2:Nat)(d1 d2:List Value)(A1 A2:World->Prop)(hA1:bN3 A1)(hA2:bN3 A2)(fp:M->Option Int)(σ:Os)(lv:Value)(at_:Int)(b0 b1:M)(b2 b3 b4 b5:Int)(w:World)(hok:bM3 ⟨b0,b1,b2,b3,b4,b5⟩)(pI:∀x∈cl,pR x)(yC:cn<=1000)(hfb:Few σ.fb 499)(hm:gB ⟨0,w0,none, [269,9,3]⟩ (fun _=>True) [(go,98, [u0,H cA cn cc,u2,u3,u4,u5,u6,u7,u8,u9,jR,jS,jT,jU,jV,jW,.map (some gv),.map (some gs),.map (some gI),lv,.map (some gF),.map (some gG),.map (some gJ),.map (some gO),rv]),(q1,220,d1),(q2,128,d2)] [⟨lv,181,5,σ.lg.length,σ.lg.flatMap eF⟩,⟨rv,178,2,rn,rx⟩] [cB vS dT w0.heap.size gv (V),cB vB dT w0.heap.size gs (T),cB rJ dT w0.heap.size gI (σ.fs),cB vB nN w0.heap.size gF (σ.fa),cB pX dT w0.heap.size gG (σ.fb),cB pZ dT w0.heap.size gJ (σ.fh),cB vI dT w0.heap.size gO (fp),gX 269 σ.fh,bT dQ 2 53 w0.heap.size none cA cn cl,TxtO w0.heap.size none,A1,A2] w):
 Calls prog 138 #[.pointer (some ⟨go,0,none⟩),.agg #[U b0,U b1,J b2,J b3,J b4,J b5]] w (fun e w'=>∃lv' σ' E,e=.returned (J E)/\(mK V T (fun b=>gC cl [b]=0) at_ σ σ'/\gR σ'=cE8 cl (gR σ) ⟨b0,b1,b2,b3,b4,b5⟩)/\gB ⟨0,w0,none, [269,9,3]⟩ (fun _=>True) [(go,98, [u0,H cA cn cc,u2,u3,u4,u5,u6,u7,u8,u9,jR,jS,jT,jU,jV,jW,.map (some gv),.map (some gs),.map (some gI),lv',.map (some gF),.map (some gG),.map (some gJ),.map (some gO),rv]),(q1,220,d1),(q2,128,d2)] [⟨lv',181,5,σ'.lg.length,σ'.lg.flatMap eF⟩,⟨rv,178,2,rn,rx⟩] [cB vS dT w0.heap.size gv (V),cB vB dT w0.heap.size gs (T),cB rJ dT w0.heap.size gI (σ'.fs),cB vB nN w0.heap.size gF (σ'.fa),cB pX dT w0.heap.size gG (σ'.fb),cB pZ dT w0.heap.size gJ (σ'.fh),cB vI dT w0.heap.size gO (fp),gX 269 σ'.fh,bT dQ 2 53 w0.heap.size none cA cn cl,TxtO w0.heap.size none,A1,A2] w'):=by
 refine cY ⟨63,w0,none, [269,9,3]⟩ func138 D ntmps138 D hm.cy (bX ?_)
 refine bG0 (fun (n:{ m:Nat // m<=499 })=>uR gG n.1) (fun w hm=>hfb.len (hm.fact 4 D:cB pX dT w0.heap.size gG (σ.fb) w)) (fun n=>uR.lasts2) fun nbx=>?_
 obtain ⟨nb,hnb⟩:=nbx
 dsimp only
 obtain ⟨isb,hisb⟩:∃z,z=(σ.fb b0).isSome:=⟨_,rfl⟩
 obtain ⟨ish,bP1⟩:∃z,z=(σ.fh b0).isSome:=⟨_,rfl⟩
 obtain ⟨xb,hxb⟩:∃z,z=(σ.fb b0).getD bk0:=⟨_,rfl⟩
 obtain ⟨xh,hxh⟩:∃z,z=(σ.fh b0).getD hg0:=⟨_,rfl⟩
 obtain ⟨c0,c1,c2,c3,c4,c5⟩:=xb
 obtain ⟨h0,h1,h2,h3,hA,hn,hc,hl⟩:=xh
 obtain ⟨CK,hCK⟩:∃z,z=gC cl [(⟨b0,b1,b2,b3,b4,b5⟩:Bk)]:=⟨_,rfl⟩
 obtain ⟨EE,hEE⟩:∃z,z=dK [CK,dO (isb||ish) 6,dO (decide (500<=(nb:Int))) 12]:=⟨_,rfl⟩
 refine fS D D D fun g1=>cG D (bU (bJ (gd (fun wz=>Blk wz g1 87 [U b0,U b1,J b2,J b3,J b4,J b5]/\Blk wz go 98 [u0,H cA cn cc,u2,u3,u4,u5,u6,u7,u8,u9,jR,jS,jT,jU,jV,jW,.map (some gv),.map (some gs),.map (some gI),lv,.map (some gF),.map (some gG),.map (some gJ),.map (some gO),rv]/\(cB pX dT w0.heap.size gG (σ.fb)) wz/\True) mixed (fun _ hm=>⟨hm.bl 0,hm.bl 1,hm.fa 5,bB⟩) fun z=>wq 0 D (bL D) (wq 1 D (cU D) (wq 2 D (bW bW3 D D) (wq 3 D (cH dT3 D (fun _ hm=>hm.2.1) D) (wq 4 D (bW bO1 D D) (wq 5 D (cH fR D (fun _ hm=>hm.1) D) (wq 6 D (hU (enc:=pX) (ek:=dT) (s:=b0) (e:=87) bk0 kC bC bC D D (fun _ hm=>(hm.2.2.1))) (wq 7 D (bL D) (wq 8 D (cV D D) (dI 18 (v':= .agg #[U c0,U c1,J c2,J c3,J c4,J c5]) D (congrArg pX hxb.symm) (wq 9 D (cV D D) (dI 19 (v':= .bool isb) D (fW9 hisb.symm) (eD 10 D (dM dM1 D fun g2=>bH (nw 13 2047 (fun _ hm=>⟨hm.bl 1,hm.bl 2,hm.fa 5,bB⟩) fun z=>eD 11 D (kE (cs':= [U c0,U c1,J c2,J c3,J c4,J c5]) 0 bZ1 D D D D (bH (nw 13 4095 (fun _ hm=>⟨hm.bl 1,hm.bl 2,hm.fa 5,bB⟩) fun z=>wq 12 D (dB D) (gY (bG (bJ (gd (fun wz=>Blk wz g1 87 [U b0,U b1,J b2,J b3,J b4,J b5]/\Blk wz go 98 [u0,H cA cn cc,u2,u3,u4,u5,u6,u7,u8,u9,jR,jS,jT,jU,jV,jW,.map (some gv),.map (some gs),.map (some gI),lv,.map (some gF),.map (some gG),.map (some gJ),.map (some gO),rv]/\(cB pZ dT w0.heap.size gJ (σ.fh)) wz/\True) mixed (fun _ hm=>⟨hm.bl 1,hm.bl 2,hm.fa 6,bB⟩) fun z=>?_))))))))))))))))))))))))
 refine wq 0 D (bL D) (wq 1 D (cU D) (wq 2 D (bW wU D D) (wq 3 D (cH cA2 D (fun _ hm=>hm.2.1) D) (wq 4 D (bW bO1 D D) (wq 5 D (cH fR D (fun _ hm=>hm.1) D) (wq 6 D (hU (enc:=pZ) (ek:=dT) (s:=b0) (e:=262) hg0 kC bC bC D D (fun _ hm=>(hm.2.2.1))) (wq 7 D (bL D) (wq 8 D (cV D D) (dI 28 (v':= .agg #[U h0,U h1,J h2,J h3,H hA hn hc]) D (congrArg pZ hxh.symm) (wq 9 D (cV D D) (dI 29 (v':= .bool ish) D (fW9 bP1.symm) (eD 10 D (dM yS D fun g3=>bH (nw 13 2047 (fun _ hm=>⟨hm.bl 2,hm.bl 3,hm.fa 6,bB⟩) fun z=>eD 11 D (kE (cs':= [U h0,U h1,J h2,J h3,H hA hn hc]) 0 kQ D D D D (bH (nw 13 4095 (fun _ hm=>⟨hm.bl 2,hm.bl 3,hm.fa 6,bB⟩) fun z=>wq 12 D (dB D) (gY (bG (bJ ?_))))))))))))))))))))
 refine pB (γ:=Int) (I':=(fun (E:Int)=>E=EE)) (S':=(fun (E:Int)=> [(0,.pointer (some ⟨go,0,none⟩)),(3,.pointer (some ⟨g1,0,none⟩)),(4,J 0),(9,J E)])) (K':=(fun (E:Int)=>fun _=>True)) (L':=(fun (E:Int)=> [(g3,262, [U h0,U h1,J h2,J h3,H hA hn hc]),(g2,87, [U c0,U c1,J c2,J c3,J c4,J c5]),(g1,87, [U b0,U b1,J b2,J b3,J b4,J b5]),(go,98, [u0,H cA cn cc,u2,u3,u4,u5,u6,u7,u8,u9,jR,jS,jT,jU,jV,jW,.map (some gv),.map (some gs),.map (some gI),lv,.map (some gF),.map (some gG),.map (some gJ),.map (some gO),rv]),(q1,220,d1),(q2,128,d2)])) (O':=(fun (E:Int)=> [⟨lv,181,5,σ.lg.length,σ.lg.flatMap eF⟩,⟨rv,178,2,rn,rx⟩])) (X':=(fun (E:Int)=> [uR gG nb,cB vS dT w0.heap.size gv (V),cB vB dT w0.heap.size gs (T),cB rJ dT w0.heap.size gI (σ.fs),cB vB nN w0.heap.size gF (σ.fa),cB pX dT w0.heap.size gG (σ.fb),cB pZ dT w0.heap.size gJ (σ.fh),cB vI dT w0.heap.size gO (fp),gX 269 σ.fh,bT dQ 2 53 w0.heap.size none cA cn cl,TxtO w0.heap.size none,A1,A2])) ?_ ?_
 ·refine gd (fun wz=>Blk wz g1 87 [U b0,U b1,J b2,J b3,J b4,J b5]/\Blk wz go 98 [u0,H cA cn cc,u2,u3,u4,u5,u6,u7,u8,u9,jR,jS,jT,jU,jV,jW,.map (some gv),.map (some gs),.map (some gI),lv,.map (some gF),.map (some gG),.map (some gJ),.map (some gO),rv]/\(uR gG nb) wz/\True) mixed (fun _ hm=>⟨hm.bl 2,hm.bl 3,hm.fa 0,bB⟩) fun z=>?_
  refine wq 0 D (bL D) (wq 1 D (cU D) (wq 2 D (bW fP0 D D) (wq 3 D (bW wS D D) (wq 4 D (bW xT D D) (wq 5 D (cH cO3 D (fun _ hm=>hm.2.1) D) (wq 6 D (dG bZ1 D (fun _ hm=>hm.1) D D) (wq 9 D (bL D) (wq 14 D (bL D) (wq 15 D (cU D) (wq 16 D (bW bW3 D D) (wq 17 D (cH dT3 D (fun _ hm=>hm.2.1) D) (eD 7 D (jN 87 [U b0,U b1,J b2,J b3,J b4,J b5] fun g4=>bH (nw 24 246527 (fun _ hm=>⟨hm.bl 3,hm.bl 4,hm.fa 0,bB⟩) fun z=>eD 8 D (cR (v:=J CK) D eV9 D D (fun wx hm=>(by rw [hCK];exact bP3 cl cA cn cc [⟨b0,b1,b2,b3,b4,b5⟩] _ 1 1 wx (hm.fact 9 rfl).1 pI yC (SlT.ofBlk (l:= [⟨b0,b1,b2,b3,b4,b5⟩]) dX9 (hm.blkI 0 rfl)) (fun _ h=>List.mem_singleton.1 h ▸ hok) bD)) (bH (nw 24 246783 (fun _ hm=>⟨hm.bl 3,hm.bl 4,hm.fa 0,bB⟩) fun z=>wq 10 D (bL D) ?_)))))))))))))))))
  rcases Bool.eq_false_or_eq_true isb with hb5|hb5
  ·refine dI 40 D (fW9 hb5) ?_
   refine eL 11 D (wq 12 D (fG D D) (eD 13 D (dC D qB D D (fun wx hm=>(eH _ _ wx)) (bH (nw 24 262143 (fun _ hm=>⟨hm.bl 3,hm.bl 4,hm.fa 0,bB⟩) fun z=>wq 18 D (bL2 (k:=9) (e:=87) (n:=nb) bC D (fun _ hm=>(hm.2.2.1))) (wq 19 D (mE D D) (eD 20 D (dC D qB D D (fun wx hm=>(eH _ _ wx)) (bH (nw 24 2097151 (fun _ hm=>⟨hm.bl 3,hm.bl 4,hm.fa 0,bB⟩) fun z=>eD 21 D (jN 48 [J CK,J (dO true 6),J (dO (decide (500<=((nb:Nat):Int))) 12)] fun g6=>bH (nw 24 4194303 (fun _ hm=>⟨hm.bl 4,hm.bl 5,hm.fa 0,bB⟩) fun z=>eD 22 D (dC D vO D D (fun wx hm=>(fP [CK,dO true 6,dO (decide (500<=((nb:Nat):Int))) 12] _ _ _ wx (hm.blkI 0 D) (by simp))) (bH (nw 24 8388607 (fun _ hm=>⟨hm.bl 4,hm.bl 5,hm.fa 0,bB⟩) fun z=>wq 23 D (dB D) (gY ?_))))))))))))))))
   exact fH (dK [CK,dO true 6,dO (decide (500<=((nb:Nat):Int))) 12]) (by rw [hEE,hb5];rfl) ⟨D,D,D,D,bB⟩ (fun _ hm=>hm.pick [2,3,4,5,6,7] [0,1] [0,1,2,3,4,5,6,7,8,9,10,11,12] D D)
  refine dI 40 D (fW9 hb5) (eU 11 D (bL D) (wq 12 D (eZ D D) (eD 13 D (dC D qB D D (fun wx hm=>(eH _ _ wx)) (bH (nw 24 262143 (fun _ hm=>⟨hm.bl 3,hm.bl 4,hm.fa 0,bB⟩) fun z=>wq 18 D (bL2 (k:=9) (e:=87) (n:=nb) bC D (fun _ hm=>(hm.2.2.1))) (wq 19 D (mE D D) (eD 20 D (dC D qB D D (fun wx hm=>(eH _ _ wx)) (bH (nw 24 2097151 (fun _ hm=>⟨hm.bl 3,hm.bl 4,hm.fa 0,bB⟩) fun z=>eD 21 D (jN 48 [J CK,J (dO ish 6),J (dO (decide (500<=((nb:Nat):Int))) 12)] fun g7=>bH (nw 24 4194303 (fun _ hm=>⟨hm.bl 4,hm.bl 5,hm.fa 0,bB⟩) fun z=>eD 22 D (dC D vO D D (fun wx hm=>(fP [CK,dO ish 6,dO (decide (500<=((nb:Nat):Int))) 12] _ _ _ wx (hm.blkI 0 D) (by simp))) (bH (nw 24 8388607 (fun _ hm=>⟨hm.bl 4,hm.bl 5,hm.fa 0,bB⟩) fun z=>wq 23 D (dB D) (gY ?_)))))))))))))))))
  exact fH (dK [CK,dO ish 6,dO (decide (500<=((nb:Nat):Int))) 12]) (by rw [hEE,hb5];rfl) ⟨D,D,D,D,bB⟩ (fun _ hm=>hm.pick [2,3,4,5,6,7] [0,1] [0,1,2,3,4,5,6,7,8,9,10,11,12] D D)
 intro E bZ
 replace bZ:E=EE:=bZ
 refine bX ?_
 subst bZ
 refine bS D (W (gN D D) D (bU ?_))
 refine gL D (fun hz=>?_) (fun hz=>?_)
 ·refine bX (bS D (cG D (bU ?_)))
  refine bR (F ?_)
  have hzx:E≠0:=by simpa using hz
  have hsm:gR σ=cE8 cl (gR σ) ⟨b0,b1,b2,b3,b4,b5⟩:=(qI fun ⟨q1,q2,q3⟩=>hzx (by
   rw [cN5] at q3
   rw [hEE,hCK.trans q1,hisb.trans q2,bP1.trans q3,decide_eq_false G];rfl)).symm
  refine bQ D D fun wx hm=>?_
  refine ⟨lv,σ,_,D,⟨.same σ,hsm⟩,?_⟩
  exact (hm.pick [3,4,5] [0,1] [1,2,3,4,5,6,7,8,9,10,11,12] D D).cy
 refine bN (bG (bJ ?_))
 have hE0:E=0:=by simpa using hz
 rw [hEE] at hE0
 obtain ⟨z1,z2,_⟩:=cE9 hE0
 have z3:=rT bD z2
 have z4:isb=false/\ish=false:=by simpa using z3
 have z5:(σ.fb b0).isSome=false:=hisb.symm.trans z4.1
 have z6:(σ.fh b0).isSome=false:=bP1.symm.trans z4.2
 obtain ⟨τ,hτ⟩:∃z,z=({ σ with fb:=gZ σ.fb b0 ⟨b0,b1,b2,b3,b4,b5⟩ }:Os):=⟨_,rfl⟩
 have e1:τ.fb=gZ σ.fb b0 ⟨b0,b1,b2,b3,b4,b5⟩:=by rw [hτ]
 have e2:τ.fs=σ.fs:=by rw [hτ]
 have e3:τ.fa=σ.fa:=by rw [hτ]
 have e4:τ.fh=σ.fh:=by rw [hτ]
 have e5:τ.lg=σ.lg:=by rw [hτ]
 have hst:mK V T (fun b=>gC cl [b]=0) at_ σ τ:=hτ ▸ .book σ ⟨b0,b1,b2,b3,b4,b5⟩ hok (hCK.symm.trans z1) z5 z6
 have hab:gR τ=cE8 cl (gR σ) ⟨b0,b1,b2,b3,b4,b5⟩:=by rw [hτ];exact (zN ⟨hCK.symm.trans z1,z5,by rw [cN5];exact z6⟩).symm
 refine gd (fun wz=>Blk wz g1 87 [U b0,U b1,J b2,J b3,J b4,J b5]/\Blk wz go 98 [u0,H cA cn cc,u2,u3,u4,u5,u6,u7,u8,u9,jR,jS,jT,jU,jV,jW,.map (some gv),.map (some gs),.map (some gI),lv,.map (some gF),.map (some gG),.map (some gJ),.map (some gO),rv]/\True) mixed (fun _ hm=>⟨hm.bl 2,hm.bl 3,bB⟩) fun z=>wq 0 D (bL D) (wq 1 D (cU D) (wq 2 D (bW bW3 D D) (wq 3 D (cH dT3 D (fun _ hm=>hm.2.1) D) (wq 4 D (bW bO1 D D) (wq 5 D (cH fR D (fun _ hm=>hm.1) D) (wq 6 D (dG bZ1 D (fun _ hm=>hm.1) D D) (eD 7 D (kZ (enc:=pX) (ek:=dT) (s:=b0) (v:=⟨b0,b1,b2,b3,b4,b5⟩) (e:=87) (X':= [cB vS dT w0.heap.size gv (V),cB vB dT w0.heap.size gs (T),cB rJ dT w0.heap.size gI (σ.fs),cB vB nN w0.heap.size gF (σ.fa),cB pZ dT w0.heap.size gJ (σ.fh),cB vI dT w0.heap.size gO (fp),gX 269 σ.fh,bT dQ 2 53 w0.heap.size none cA cn cl,TxtO w0.heap.size none,A1,A2]) 5 kC bC D D D D (cX (i:=1) (cB.farK (gW hd (i:=0) (j:=4) D D bD)) D (cX (i:=2) (cB.farK (gW hd (i:=1) (j:=4) D D bD)) D (cX (i:=3) (cB.farK (gW hd (i:=2) (j:=4) D D bD)) D (cX (i:=4) (cB.farK (gW hd (i:=3) (j:=4) D D bD)) D (cX (i:=6) (cB.farK (gW hd (i:=5) (j:=4) D D bD)) D (cX (i:=7) (cB.farK (gW hd (i:=6) (j:=4) D D bD)) D (cX (i:=8) (gX.mfar).far D (cX (i:=9) (bT.mfar).far D (cX (i:=10) (TxtO.mfar).far D (cX (i:=11) (hA1).far D (cX (i:=12) (hA2).far D gK))))))))))) (bH (nw 8 255 (fun _ hm=>⟨hm.bl 2,hm.bl 3,bB⟩) fun z=>gY (bG (bX (cG D (bU (bR ?_)))))))))))))))
 refine bQ D D fun wx hm=>?_
 refine ⟨lv,τ,0,D,⟨hst,hab⟩,?_⟩
 rw [e1,e2,e3,e4,e5]
 exact (hm.pick [3,4,5] [0,1] [1,2,3,4,0,5,6,7,8,9,10,11] D D).cy
theorem eV6(w0:World)(u0 u2 u3 u4 u5 u6 u7 u8 u9 jR jS jT jU jV jW:Value)(go gv gs gI gF gG gJ gO:Nat)(cA:Option Addr)(cn cc:Nat)(cl:List Cs)(V:M->Option M)(T:M->Option Bool)(rv:Value)(rn:Nat)(rx:List Value)(hd: [gv,gs,gI,gF,gG,gJ,gO].Nodup)(q1 q2:Nat)(d1 d2:List Value)(A1 A2:World->Prop)(hA1:bN3 A1)(hA2:bN3 A2)(fp:M->Option Int)(σ:Os)(lv:Value)(k:M)(n:Int)(w:World)(hnb: -1000000000<=n/\n<=1000000000)(hpo:bH1 fp)(hm:gB ⟨0,w0,none, [269,9,3]⟩ (fun _=>True) [(go,98, [u0,H cA cn cc,u2,u3,u4,u5,u6,u7,u8,u9,jR,jS,jT,jU,jV,jW,.map (some gv),.map (some gs),.map (some gI),lv,.map (some gF),.map (some gG),.map (some gJ),.map (some gO),rv]),(q1,220,d1),(q2,128,d2)] [⟨lv,181,5,σ.lg.length,σ.lg.flatMap eF⟩,⟨rv,178,2,rn,rx⟩] [cB vS dT w0.heap.size gv (V),cB vB dT w0.heap.size gs (T),cB rJ dT w0.heap.size gI (σ.fs),cB vB nN w0.heap.size gF (σ.fa),cB pX dT w0.heap.size gG (σ.fb),cB pZ dT w0.heap.size gJ (σ.fh),cB vI dT w0.heap.size gO (fp),gX 269 σ.fh,bT dQ 2 53 w0.heap.size none cA cn cl,TxtO w0.heap.size none,A1,A2] w):
 Calls prog 140 #[.pointer (some ⟨go,0,none⟩),U k,J n] w (fun e w'=>∃fp' E,e=.returned (J E)/\bH1 fp'/\gB ⟨0,w0,none, [269,9,3]⟩ (fun _=>True) [(go,98, [u0,H cA cn cc,u2,u3,u4,u5,u6,u7,u8,u9,jR,jS,jT,jU,jV,jW,.map (some gv),.map (some gs),.map (some gI),lv,.map (some gF),.map (some gG),.map (some gJ),.map (some gO),rv]),(q1,220,d1),(q2,128,d2)] [⟨lv,181,5,σ.lg.length,σ.lg.flatMap eF⟩,⟨rv,178,2,rn,rx⟩] [cB vS dT w0.heap.size gv (V),cB vB dT w0.heap.size gs (T),cB rJ dT w0.heap.size gI (σ.fs),cB vB nN w0.heap.size gF (σ.fa),cB pX dT w0.heap.size gG (σ.fb),cB pZ dT w0.heap.size gJ (σ.fh),cB vI dT w0.heap.size gO (fp'),gX 269 σ.fh,bT dQ 2 53 w0.heap.size none cA cn cl,TxtO w0.heap.size none,A1,A2] w'):=by
 refine cY ⟨49,w0,none, [269,9,3]⟩ func140 D ntmps140 D hm.cy (bX ?_)
 obtain ⟨ish,bP1⟩:∃z,z=(σ.fh k).isSome:=⟨_,rfl⟩
 obtain ⟨xh,hxh⟩:∃z,z=(σ.fh k).getD hg0:=⟨_,rfl⟩
 obtain ⟨h0,h1,h2,h3,hA,hn,hc,hl⟩:=xh
 obtain ⟨pd,hpd⟩:∃z,z=(fp k).getD 0:=⟨_,rfl⟩
 have hpb:0<=pd/\pd<=1000000000:=by
  cases hf:fp k with
  |none=>rw [hpd,hf];decide
  |some v=>rw [hpd,hf];exact hpo k v hf
 obtain ⟨EE,hEE⟩:∃z,z=dK [dO (!ish) 8,dO (!inB n 0 1000000000) 1,dO (decide (1000000000 < pd+n)) 2]:=⟨_,rfl⟩
 refine cG D (bU (bX (bS D (W (cU D) D (dZ wU D D (eO cA2 0 D D D (bS D (W (hU (enc:=pZ) (ek:=dT) (s:=k) (e:=262) hg0 kC bC bC D D (fun _ hm=>(hm.fact 5 D))) D (bS D (W (cV D D) D (bO 17 (v':= .agg #[U h0,U h1,J h2,J h3,H hA hn hc]) D (congrArg pZ hxh.symm) (W (cV D D) D (bO 18 (v':= .bool ish) D (fW9 bP1.symm) (dM yS D fun g1=>kE (cs':= [U h0,U h1,J h2,J h3,H hA hn hc]) 0 kQ D D D D (cG D (bU (bJ ?_)))))))))))))))))
 refine pB (γ:=Int) (I':=(fun (E:Int)=>E=EE)) (S':=(fun (E:Int)=> [(0,.pointer (some ⟨go,0,none⟩)),(1,U k),(2,J n),(6,J 0),(9,J E)])) (K':=(fun (E:Int)=>fun _=>True)) (L':=(fun (E:Int)=> [(g1,262, [U h0,U h1,J h2,J h3,H hA hn hc]),(go,98, [u0,H cA cn cc,u2,u3,u4,u5,u6,u7,u8,u9,jR,jS,jT,jU,jV,jW,.map (some gv),.map (some gs),.map (some gI),lv,.map (some gF),.map (some gG),.map (some gJ),.map (some gO),rv]),(q1,220,d1),(q2,128,d2)])) (O':=(fun (E:Int)=> [⟨lv,181,5,σ.lg.length,σ.lg.flatMap eF⟩,⟨rv,178,2,rn,rx⟩])) (X':=(fun (E:Int)=> [cB vS dT w0.heap.size gv (V),cB vB dT w0.heap.size gs (T),cB rJ dT w0.heap.size gI (σ.fs),cB vB nN w0.heap.size gF (σ.fa),cB pX dT w0.heap.size gG (σ.fb),cB pZ dT w0.heap.size gJ (σ.fh),cB vI dT w0.heap.size gO (fp),gX 269 σ.fh,bT dQ 2 53 w0.heap.size none cA cn cl,TxtO w0.heap.size none,A1,A2])) ?_ ?_
 ·refine gd (fun wz=>Blk wz go 98 [u0,H cA cn cc,u2,u3,u4,u5,u6,u7,u8,u9,jR,jS,jT,jU,jV,jW,.map (some gv),.map (some gs),.map (some gI),lv,.map (some gF),.map (some gG),.map (some gJ),.map (some gO),rv]/\(cB vI dT w0.heap.size gO (fp)) wz/\True) mixed (fun _ hm=>⟨hm.bl 1,hm.fa 6,bB⟩) fun z=>?_
  refine wq 0 D (bL D) (wq 1 D (cS D) (wq 3 D (bL D) (wq 7 D (bL D) (wq 8 D (cU D) (wq 9 D (bW eN1 D D) (wq 10 D (cH fA6 D (fun _ hm=>hm.1) D) (wq 11 D (bL D) (wq 12 D (mF (enc:=vI) (ek:=dT) (s:=k) (e:=3) (0:Int) kC bC bC D D (fun _ hm=>(hm.2.1))) (dI 31 (v':=J pd) D (congrArg vI hpd.symm) (wq 13 D (bL D) (wq 14 D (ov_add D D G G) (wq 15 D (eM D D) (eD 2 D (dC D qB D D (fun wx hm=>(eH _ _ wx)) (bH (nw 20 65423 (fun _ hm=>⟨hm.bl 1,hm.fa 6,bB⟩) fun z=>eD 4 D (dC D pS D D (fun wx hm=>(in_any _ _ _ wx)) (bH (nw 20 65439 (fun _ hm=>⟨hm.bl 1,hm.fa 6,bB⟩) fun z=>wq 5 D (cS D) (eD 6 D (dC D qB D D (fun wx hm=>(eH _ _ wx)) (bH (nw 20 65535 (fun _ hm=>⟨hm.bl 1,hm.fa 6,bB⟩) fun z=>eD 16 D (dC D qB D D (fun wx hm=>(eH _ _ wx)) (bH (nw 20 131071 (fun _ hm=>⟨hm.bl 1,hm.fa 6,bB⟩) fun z=>?_))))))))))))))))))))))))))
  refine eD 17 D (jN 48 [J (dO (!ish) 8),J (dO (!(inB n 0 1000000000)) 1),J (dO (decide (1000000000 < pd+n)) 2)] fun g2=>bH (nw 20 262143 (fun _ hm=>⟨hm.bl 2,hm.fa 6,bB⟩) fun z=>eD 18 D (dC D vO D D (fun wx hm=>(fP [dO (!ish) 8,dO (!(inB n 0 1000000000)) 1,dO (decide (1000000000 < pd+n)) 2] _ _ _ wx (hm.blkI 0 D) (by simp))) (bH (nw 20 524287 (fun _ hm=>⟨hm.bl 2,hm.fa 6,bB⟩) fun z=>wq 19 D (dB D) (gY ?_))))))
  exact fH (dK [dO (!ish) 8,dO (!(inB n 0 1000000000)) 1,dO (decide (1000000000 < pd+n)) 2]) (by rw [hEE]) ⟨D,D,D,D,D,bB⟩ (fun _ hm=>hm.pick [1,2,3,4] [0,1] [0,1,2,3,4,5,6,7,8,9,10,11] D D)
 intro E bZ
 replace bZ:E=EE:=bZ
 refine bX ?_
 subst bZ
 refine bS D (W (gN D D) D (bU ?_))
 refine gL D (fun hz=>?_) (fun hz=>?_)
 ·refine bX (bS D (cG D (bU ?_)))
  refine bR (F ?_)
  refine bQ D D fun wx hm=>?_
  refine ⟨fp,_,D,hpo,?_⟩
  exact (hm.pick [1,2,3] [0,1] [0,1,2,3,4,5,6,7,8,9,10,11] D D).cy
 refine bN (bG (bX ?_))
 have hE0:E=0:=by simpa using hz
 rw [hEE] at hE0
 obtain ⟨_,z2,z3⟩:=cE9 hE0
 have z4:=rT bD z2
 have z5:=rT bD z3
 have z6:0<=n/\n<=1000000000:=nK.1 (by simpa using z4)
 have z7:pd+n<=1000000000:=by have:=of_decide_eq_false z5;omega
 have hpn:bH1 (gZ fp k (pd+n)):=fun j v hj=>by
  rcases fI hj with ⟨_,rfl⟩|h
  ·omega
  exact hpo j v h
 refine bS D (W (cU D) D (dZ eN1 D D (eO fA6 1 D D D (bS D (W (mF (enc:=vI) (ek:=dT) (s:=k) (e:=3) (0:Int) kC bC bC D D (fun _ hm=>(hm.fact 6 D))) D (bO 46 (v':=J pd) D (congrArg vI hpd.symm) (bS D (fY D D (kZ (enc:=vI) (ek:=dT) (s:=k) (v:=pd+n) (e:=3) (X':= [cB vS dT w0.heap.size gv (V),cB vB dT w0.heap.size gs (T),cB rJ dT w0.heap.size gI (σ.fs),cB vB nN w0.heap.size gF (σ.fa),cB pX dT w0.heap.size gG (σ.fb),cB pZ dT w0.heap.size gJ (σ.fh),gX 269 σ.fh,bT dQ 2 53 w0.heap.size none cA cn cl,TxtO w0.heap.size none,A1,A2]) 6 kC bC D D D D (cX (i:=0) (cB.farK (gW hd (i:=0) (j:=6) D D bD)) D (cX (i:=1) (cB.farK (gW hd (i:=1) (j:=6) D D bD)) D (cX (i:=2) (cB.farK (gW hd (i:=2) (j:=6) D D bD)) D (cX (i:=3) (cB.farK (gW hd (i:=3) (j:=6) D D bD)) D (cX (i:=4) (cB.farK (gW hd (i:=4) (j:=6) D D bD)) D (cX (i:=5) (cB.farK (gW hd (i:=5) (j:=6) D D bD)) D (cX (i:=7) (gX.mfar).far D (cX (i:=8) (bT.mfar).far D (cX (i:=9) (TxtO.mfar).far D (cX (i:=10) (hA1).far D (cX (i:=11) (hA2).far D gK))))))))))) (bU (bX (cG D (bU (bR ?_))))))))))))))
 refine bQ D D fun wx hm=>?_
 refine ⟨gZ fp k (pd+n),0,D,hpn,?_⟩
 exact (hm.pick [1,2,3] [0,1] [1,2,3,4,5,6,0,7,8,9,10,11] D D).cy
theorem dO5{A:World->Prop}(h:bN3 A):∀B∈ [A],bN3 B:=fun _ hB=>List.mem_singleton.1 hB ▸ h
theorem eC1{a b c d:Int}(h:dK [a,b,c,d]=0):a=0/\b=0/\c=0/\d=0:=
 ⟨Classical.byContradiction fun hc=>hc (uD h a (by simp)),Classical.byContradiction fun hc=>hc (uD h b (by simp)),Classical.byContradiction fun hc=>hc (uD h c (by simp)),Classical.byContradiction fun hc=>hc (uD h d (by simp))⟩
theorem dA4(w0:World)(u0 u2 u3 u4 u5 u6 u7 u8 u9 jR jS jT jU jV jW:Value)(go gv gs gI gF gG gJ gO:Nat)(cA:Option Addr)(cn cc:Nat)(cl:List Cs)(V:M->Option M)(T:M->Option Bool)(rv:Value)(rn:Nat)(rx:List Value)(hd: [gv,gs,gI,gF,gG,gJ,gO].Nodup)(ck:Bk->Prop)(fp:M->Option Int)(σ:Os)(lv:Value)(at_:Int)(wd k d v st:M)(n0 n1 n2:Int)(tA nA:Option Addr)(tc nc:Nat)(w:World)(hk:k.size<=1000000)(hdz:d.size<=1000000)(hv:v.size<=1000000)(hs:st.size<=1000000)(hlg:σ.lg.length<=100000)(hfh:Few σ.fh 499)(ht:SlT dU 1 9 w tA 4 [k,d,v,st])(hn:SlT kV 1 3 w nA 3 [n0,n1,n2])(hm:gB ⟨0,w0,none, [269,9,3]⟩ (fun _=>True) [(go,98, [u0,H cA cn cc,u2,u3,u4,u5,u6,u7,u8,u9,jR,jS,jT,jU,jV,jW,.map (some gv),.map (some gs),.map (some gI),lv,.map (some gF),.map (some gG),.map (some gJ),.map (some gO),rv])] [⟨lv,181,5,σ.lg.length,σ.lg.flatMap eF⟩,⟨rv,178,2,rn,rx⟩] [cB vS dT w0.heap.size gv (V),cB vB dT w0.heap.size gs (T),cB rJ dT w0.heap.size gI (σ.fs),cB vB nN w0.heap.size gF (σ.fa),cB pX dT w0.heap.size gG (σ.fb),cB pZ dT w0.heap.size gJ (σ.fh),cB vI dT w0.heap.size gO (fp),gX 269 σ.fh,bT dQ 2 53 w0.heap.size none cA cn cl,TxtO w0.heap.size none,fun wy=>SlT dU 1 9 wy tA 4 [k,d,v,st],fun wy=>SlT kV 1 3 wy nA 3 [n0,n1,n2]] w):
 Calls prog 139 #[.pointer (some ⟨go,0,none⟩),J at_,.agg #[U wd,H tA 4 tc,H nA 3 nc]] w (fun e w'=>∃lv' σ' E,e=.returned (J E)/\(mK V T ck at_ σ σ'/\gR σ'=bX7 V T at_ (gR σ) k d v st n0 n1 n2)/\gB ⟨0,w0,none, [269,9,3]⟩ (fun _=>True) [(go,98, [u0,H cA cn cc,u2,u3,u4,u5,u6,u7,u8,u9,jR,jS,jT,jU,jV,jW,.map (some gv),.map (some gs),.map (some gI),lv',.map (some gF),.map (some gG),.map (some gJ),.map (some gO),rv])] [⟨lv',181,5,σ'.lg.length,σ'.lg.flatMap eF⟩,⟨rv,178,2,rn,rx⟩] [cB vS dT w0.heap.size gv (V),cB vB dT w0.heap.size gs (T),cB rJ dT w0.heap.size gI (σ'.fs),cB vB nN w0.heap.size gF (σ'.fa),cB pX dT w0.heap.size gG (σ'.fb),cB pZ dT w0.heap.size gJ (σ'.fh),cB vI dT w0.heap.size gO (fp),gX 269 σ'.fh,bT dQ 2 53 w0.heap.size none cA cn cl,TxtO w0.heap.size none] w'):=by
 refine cY ⟨127,w0,none, [269,9,3]⟩ func139 D ntmps139 D hm.cy (bX ?_)
 refine bG0 (fun (n:{ m:Nat // m<=499 })=>uR gJ n.1) (fun w hm=>hfh.len (hm.fact 5 D:cB pZ dT w0.heap.size gJ (σ.fh) w)) (fun n=>uR.lasts2) fun mbx=>?_
 obtain ⟨mb,hmb⟩:=mbx
 dsimp only
 obtain ⟨tb,uQ,htA,_,_⟩:=ht.get bD
 subst htA
 obtain ⟨nb,yM,hnA,_,_⟩:=hn.get bD
 subst hnA
 obtain ⟨twi,htwi⟩:∃z,z=(σ.fh k).isSome:=⟨_,rfl⟩
 obtain ⟨xh,hxh⟩:∃z,z=(σ.fh k).getD hg0:=⟨_,rfl⟩
 obtain ⟨h0,h1,h2,h3,hA,qV,hc,hl⟩:=xh
 obtain ⟨iv,hiv⟩:∃z,z=(V v).isSome:=⟨_,rfl⟩
 obtain ⟨vc,hvc⟩:∃z,z=(V v).getD (⟨#[]⟩:M):=⟨_,rfl⟩
 obtain ⟨ist,bX2⟩:∃z,z=(T st).getD false:=⟨_,rfl⟩
 obtain ⟨HE,hHE⟩:∃z,z=hireE (⟨k,d,at_,n0, [startLeg v (⟨at_,st,n1,n2⟩:Rd)]⟩:Hr):=⟨_,rfl⟩
 obtain ⟨xq,hxq⟩:∃z,z=bZ3 HE (⟨k,d,at_,n0, [startLeg v (⟨at_,st,n1,n2⟩:Rd)]⟩:Hr):=⟨_,rfl⟩
 obtain ⟨k5,d5,f5,t5,l5⟩:=xq
 obtain ⟨CE,hCE⟩:∃z,z=cQ5 σ (kJ at_ v st):=⟨_,rfl⟩
 refine fS D D D fun g1=>cG D (bU (bJ (gd (fun wz=>Blk wz g1 220 [U wd,H (some ⟨tb,uQ,none⟩) 4 tc,H (some ⟨nb,yM,none⟩) 3 nc]/\(fun wy=>SlT dU 1 9 wy (some ⟨tb,uQ,none⟩) 4 [k,d,v,st]) wz/\True) mixed (fun _ hm=>⟨hm.bl 0,hm.fa 11,bB⟩) fun z=>wq 0 D (bW kT D D) (wq 1 D (cH rX D (fun _ hm=>hm.1) D) (wq 2 D (bV (j:=0) mD D D G) (wq 3 D (dH (k:=0) (v:=U k) fR D (fun _ hm=>(hm.2.1)) (D: [k,d,v,st][0]?=some k) D D) (wq 4 D (bW kT D D) (wq 5 D (cH rX D (fun _ hm=>hm.1) D) (wq 6 D (bV (j:=1) mD D D G) (wq 7 D (dH (k:=0) (v:=U d) fR D (fun _ hm=>(hm.2.1)) (D: [k,d,v,st][1]?=some d) D D) (wq 8 D (bW kT D D) (wq 9 D (cH rX D (fun _ hm=>hm.1) D) (wq 10 D (bV (j:=2) mD D D G) (wq 11 D (dH (k:=0) (v:=U v) fR D (fun _ hm=>(hm.2.1)) (D: [k,d,v,st][2]?=some v) D D) (wq 12 D (bW kT D D) (wq 13 D (cH rX D (fun _ hm=>hm.1) D) (wq 14 D (bV (j:=3) mD D D G) (wq 15 D (dH (k:=0) (v:=U st) fR D (fun _ hm=>(hm.2.1)) (D: [k,d,v,st][3]?=some st) D D) (wq 16 D (dB D) (wq 17 D (dB D) (wq 18 D (dB D) (wq 19 D (dB D) (gY (bG ?_))))))))))))))))))))))))
 refine pB (γ:=Nat×Option Addr×Nat×Nat) (I':=(fun g=>l5.length=g.2.2.1)) (S':=(fun g=> [(0,.pointer (some ⟨go,0,none⟩)),(1,J at_),(6,J 0),(7,U k),(9,U v),(10,U st),(11,.pointer (some ⟨g.1,0,none⟩)),(12,J HE)])) (K':=(fun g=>fun _=>True)) (L':=(fun g=> [(g.1,262, [U k5,U d5,J f5,J t5,H g.2.1 g.2.2.1 g.2.2.2]),(go,98, [u0,H cA cn cc,u2,u3,u4,u5,u6,u7,u8,u9,jR,jS,jT,jU,jV,jW,.map (some gv),.map (some gs),.map (some gI),lv,.map (some gF),.map (some gG),.map (some gJ),.map (some gO),rv])])) (O':=(fun g=> [⟨lv,181,5,σ.lg.length,σ.lg.flatMap eF⟩,⟨rv,178,2,rn,rx⟩])) (X':=(fun g=> [fun wy=>SlT lgEnc 9 269 wy g.2.1 g.2.2.1 l5,uR gJ mb,cB vS dT w0.heap.size gv (V),cB vB dT w0.heap.size gs (T),cB rJ dT w0.heap.size gI (σ.fs),cB vB nN w0.heap.size gF (σ.fa),cB pX dT w0.heap.size gG (σ.fb),cB pZ dT w0.heap.size gJ (σ.fh),cB vI dT w0.heap.size gO (fp),gX 269 σ.fh,bT dQ 2 53 w0.heap.size none cA cn cl,TxtO w0.heap.size none,fun wy=>SlT dU 1 9 wy (some ⟨tb,uQ,none⟩) 4 [k,d,v,st],fun wy=>SlT kV 1 3 wy (some ⟨nb,yM,none⟩) 3 [n0,n1,n2]])) ?_ ?_
 ·refine gd (fun wz=>Blk wz g1 220 [U wd,H (some ⟨tb,uQ,none⟩) 4 tc,H (some ⟨nb,yM,none⟩) 3 nc]/\(fun wy=>SlT kV 1 3 wy (some ⟨nb,yM,none⟩) 3 [n0,n1,n2]) wz/\True) mixed (fun _ hm=>⟨hm.bl 0,hm.fa 12,bB⟩) fun z=>?_
  refine wq 0 D (bL D) (wq 1 D (bL D) (wq 2 D (bL D) (wq 3 D (bW nT D D) (wq 4 D (cH kY D (fun _ hm=>hm.1) D) (wq 5 D (bV (j:=0) kF D D G) (wq 6 D (dH (k:=0) (v:=J n0) fM D (fun _ hm=>(hm.2.1)) (D: [n0,n1,n2][0]?=some n0) D D) (wq 7 D (dL (cs:= [J at_,J n0]) D bC) (wq 8 D (bL D) (wq 9 D (bL D) (wq 10 D (bL D) (wq 11 D (bW nT D D) (wq 12 D (cH kY D (fun _ hm=>hm.1) D) (wq 13 D (bV (j:=1) kF D D G) (wq 14 D (dH (k:=0) (v:=J n1) fM D (fun _ hm=>(hm.2.1)) (D: [n0,n1,n2][1]?=some n1) D D) (wq 15 D (bW nT D D) (wq 16 D (cH kY D (fun _ hm=>hm.1) D) (wq 17 D (bV (j:=2) kF D D G) (wq 18 D (dH (k:=0) (v:=J n2) fM D (fun _ hm=>(hm.2.1)) (D: [n0,n1,n2][2]?=some n2) D D) (wq 19 D (dL (cs:= [J at_,U st,J n1,J n2]) D bC) ?_)))))))))))))))))))
  refine jC [20,24] bC D ⟨⟨_,D,?_⟩,⟨_,D,?_⟩,bB⟩
  ·refine fK (γ:=Option Addr×Nat×Nat) (val:=(fun g=> .tuple #[.agg #[U k5,U d5,J f5,J t5,H g.1 g.2.1 g.2.2],J HE])) (φ:=(fun g=>l5.length=g.2.1)) (Y:=(fun g=>fun wy=>SlT lgEnc 9 269 wy g.1 g.2.1 l5)) D eW8 D D (fun wx hm=>(eK3 k d at_ n0 v (⟨at_,st,n1,n2⟩:Rd) wx hk hdz hv hs).mono fun _ _ ⟨A,n,c,he,hg,hs⟩=>⟨(A,n,c),by rw [<-hHE,<-hxq] at he;exact he,by rw [<-hHE,<-hxq] at hs;exact hs.len,hg,by rw [<-hHE,<-hxq] at hs;exact hs⟩) (fun _=>SlT.lasts2 D) ?_
   rintro ⟨A5,n5,c5⟩ hln
   dsimp only at hln ⊢
   refine bH (nw 27 2097151 (fun _ hm=>⟨hm.bl 0,hm.fa 13,bB⟩) fun z=>wq 21 D (bL D) (wq 22 D (cV D D) (wq 23 D (cV D D) (eD 24 D (dM yS D fun g2=>bH (nw 27 33554431 (fun _ hm=>⟨hm.bl 1,hm.fa 13,bB⟩) fun z=>eD 25 D (kE (cs':= [U k5,U d5,J f5,J t5,H A5 n5 c5]) 0 kQ D D D D (bH (nw 27 67108863 (fun _ hm=>⟨hm.bl 1,hm.fa 13,bB⟩) fun z=>wq 26 D (dB D) (gY ?_))))))))))
   exact fH (g2,A5,n5,c5) hln ⟨D,D,D,D,D,D,D,D,bB⟩ (fun _ hm=>hm.pick [0,2] [0,1] [0,1,2,3,4,5,6,7,8,9,10,11,12,13] D D)
  refine dM yS D fun g3=>bH (nw 27 17825791 (fun _ hm=>⟨hm.bl 1,hm.fa 12,bB⟩) fun z=>eD 20 D ?_)
  refine fK (γ:=Option Addr×Nat×Nat) (val:=(fun g=> .tuple #[.agg #[U k5,U d5,J f5,J t5,H g.1 g.2.1 g.2.2],J HE])) (φ:=(fun g=>l5.length=g.2.1)) (Y:=(fun g=>fun wy=>SlT lgEnc 9 269 wy g.1 g.2.1 l5)) D eW8 D D (fun wx hm=>(eK3 k d at_ n0 v (⟨at_,st,n1,n2⟩:Rd) wx hk hdz hv hs).mono fun _ _ ⟨A,n,c,he,hg,hs⟩=>⟨(A,n,c),by rw [<-hHE,<-hxq] at he;exact he,by rw [<-hHE,<-hxq] at hs;exact hs.len,hg,by rw [<-hHE,<-hxq] at hs;exact hs⟩) (fun _=>SlT.lasts2 D) ?_
  rintro ⟨A5,n5,c5⟩ hln
  dsimp only at hln ⊢
  refine bH (nw 27 18874367 (fun _ hm=>⟨hm.bl 1,hm.fa 13,bB⟩) fun z=>wq 21 D (bL D) (wq 22 D (cV D D) (wq 23 D (cV D D) (eD 25 D (kE (cs':= [U k5,U d5,J f5,J t5,H A5 n5 c5]) 0 kQ D D D D (bH (nw 27 67108863 (fun _ hm=>⟨hm.bl 1,hm.fa 13,bB⟩) fun z=>wq 26 D (dB D) (gY ?_))))))))
  exact fH (g3,A5,n5,c5) hln ⟨D,D,D,D,D,D,D,D,bB⟩ (fun _ hm=>hm.pick [0,2] [0,1] [0,1,2,3,4,5,6,7,8,9,10,11,12,13] D D)
 rintro ⟨g11,A5,n5,c5⟩ bZ
 replace bZ:l5.length=n5:=bZ
 dsimp only
 refine bJ (bX (bS D (W (gN D D) D (bU ?_))))
 refine gL D (fun hz=>?_) (fun hz=>?_)
 ·refine bX (bS D (cG D (bU ?_)))
  refine bR (F ?_)
  have hzx:HE≠0:=by simpa using hz
  have hsm:gR σ=bX7 V T at_ (gR σ) k d v st n0 n1 n2:=(qI fun ⟨q1,_⟩=>hzx (hHE.trans q1)).symm
  refine bQ D D fun wx hm=>?_
  refine ⟨lv,σ,_,D,⟨.same σ,hsm⟩,?_⟩
  have h8:gB _ _ ((g11,262, [U k5,U d5,J f5,J t5,H A5 n5 c5])::(go,98, [u0,H cA cn cc,u2,u3,u4,u5,u6,u7,u8,u9,jR,jS,jT,jU,jV,jW,.map (some gv),.map (some gs),.map (some gI),lv,.map (some gF),.map (some gG),.map (some gJ),.map (some gO),rv]):: []) [⟨lv,181,5,σ.lg.length,σ.lg.flatMap eF⟩,⟨rv,178,2,rn,rx⟩] _ wx:=hm
  exact (h8.tailL.subX (dV 2 D (dV 3 D (dV 4 D (dV 5 D (dV 6 D (dV 7 D (dV 8 D (dV 9 D (dV 10 D (dV 11 D bI6))))))))))).cy
 refine bN (bG (bX ?_))
 have hz0:HE=0:=by simpa using hz
 have hq0:bZ3 HE (⟨k,d,at_,n0, [startLeg v (⟨at_,st,n1,n2⟩:Rd)]⟩:Hr)=(⟨k,d,at_,n0, [startLeg v (⟨at_,st,n1,n2⟩:Rd)]⟩:Hr):=bQ1 hz0
 have hx9:=hq0.symm.trans hxq.symm
 injection hx9 with q1 q2 q3 q4 q5
 subst q1 q2 q3 q4 q5
 have hn5:n5=1:=bZ.symm
 have hHE0:hireE (⟨k,d,at_,n0, [startLeg v (⟨at_,st,n1,n2⟩:Rd)]⟩:Hr)=0:=hHE.symm.trans hz0
 have hrk:HrOk k d [startLeg v (⟨at_,st,n1,n2⟩:Rd)]:=⟨hk,hdz,fun g hg=>by
  rw [List.mem_singleton.1 hg]
  exact ⟨hv,hs,(by decide:(⟨#[]⟩:M).size<=1000000)⟩⟩
 have hinv0: [startLeg v (⟨at_,st,n1,n2⟩:Rd)].length=n5:=bZ
 obtain ⟨EE,hEE⟩:∃z,z=dK [dO twi 6,dO (!iv|| !ist) 8,CE,dO (decide (500<=(mb:Int))) 12]:=⟨_,rfl⟩
 refine bS D (W (cU D) D (dZ wU D D (eO cA2 1 D D D (bS D (W (hU (enc:=pZ) (ek:=dT) (s:=k) (e:=262) hg0 kC bC bC D D (fun _ hm=>(hm.fact 7 D))) D (bS D (W (cV D D) D (bO 69 (v':= .agg #[U h0,U h1,J h2,J h3,H hA qV hc]) D (congrArg pZ hxh.symm) (W (cV D D) D (bO 70 (v':= .bool twi) D (fW9 htwi.symm) (dM yS D fun g4=>kE (cs':= [U h0,U h1,J h2,J h3,H hA qV hc]) 0 kQ D D D D (cG D (bU (bX (bS D (W (cU D) D (dZ cQ6 D D (eO eA7 2 D D D (bS D (W (hU (enc:=vS) (ek:=dT) (s:=v) (e:=9) (⟨#[]⟩:M) kC bC bC D D (fun _ hm=>(hm.fact 2 D))) D (bS D (W (cV D D) D (bO 78 (v':=U vc) D (congrArg U hvc.symm) (W (cV D D) D (bO 79 (v':= .bool iv) D (fW9 hiv.symm) ?_)))))))))))))))))))))))))
 refine cG D (cG D (bU (bX (bS D (bS D (bS D (W (dL (cs:= [J at_,U v,U st,J 2,U ⟨#[]⟩]) D bC) D (dM bO6 D fun g5=>kE (cs':= [J at_,U v,U st,J 2,U ⟨#[]⟩]) 0 fE D D D D (bU (bJ ?_))))))))))
 refine pB (γ:=Int) (I':=(fun (E:Int)=>E=EE)) (S':=(fun (E:Int)=> [(0,.pointer (some ⟨go,0,none⟩)),(6,J 0),(7,U k),(11,.pointer (some ⟨g11,0,none⟩)),(17,.pointer (some ⟨g5,0,none⟩)),(18,J E)])) (K':=(fun (E:Int)=>fun _=>True)) (L':=(fun (E:Int)=> [(g5,181, [J at_,U v,U st,J 2,U ⟨#[]⟩]),(g4,262, [U h0,U h1,J h2,J h3,H hA qV hc]),(g11,262, [U k,U d,J at_,J n0,H A5 n5 c5]),(go,98, [u0,H cA cn cc,u2,u3,u4,u5,u6,u7,u8,u9,jR,jS,jT,jU,jV,jW,.map (some gv),.map (some gs),.map (some gI),lv,.map (some gF),.map (some gG),.map (some gJ),.map (some gO),rv])])) (O':=(fun (E:Int)=> [⟨lv,181,5,σ.lg.length,σ.lg.flatMap eF⟩,⟨rv,178,2,rn,rx⟩])) (X':=(fun (E:Int)=> [fun wy=>SlT lgEnc 9 269 wy A5 n5 [startLeg v (⟨at_,st,n1,n2⟩:Rd)],uR gJ mb,cB vS dT w0.heap.size gv (V),cB vB dT w0.heap.size gs (T),cB rJ dT w0.heap.size gI (σ.fs),cB vB nN w0.heap.size gF (σ.fa),cB pX dT w0.heap.size gG (σ.fb),cB pZ dT w0.heap.size gJ (σ.fh),cB vI dT w0.heap.size gO (fp),gX 269 σ.fh,bT dQ 2 53 w0.heap.size none cA cn cl,TxtO w0.heap.size none,fun wy=>SlT dU 1 9 wy (some ⟨tb,uQ,none⟩) 4 [k,d,v,st],fun wy=>SlT kV 1 3 wy (some ⟨nb,yM,none⟩) 3 [n0,n1,n2]])) ?_ ?_
 ·refine gd (fun wz=>Blk wz g5 181 [J at_,U v,U st,J 2,U ⟨#[]⟩]/\Blk wz go 98 [u0,H cA cn cc,u2,u3,u4,u5,u6,u7,u8,u9,jR,jS,jT,jU,jV,jW,.map (some gv),.map (some gs),.map (some gI),lv,.map (some gF),.map (some gG),.map (some gJ),.map (some gO),rv]/\(uR gJ mb) wz/\(cB vB dT w0.heap.size gs (T)) wz/\True) mixed (fun _ hm=>⟨hm.bl 0,hm.bl 3,hm.fa 1,hm.fa 3,bB⟩) fun z=>?_
  refine wq 0 D (bL D) (wq 2 D (bL D) (wq 3 D (cS D) (wq 14 D (bL D) (wq 15 D (dG fE D (fun _ hm=>hm.1) D D) (wq 17 D (bL D) (wq 18 D (cU D) (wq 19 D (bW wU D D) (wq 20 D (cH cA2 D (fun _ hm=>hm.2.1) D) (eD 1 D (dC D qB D D (fun wx hm=>(eH _ _ wx)) (bH (nw 27 2015247 (fun _ hm=>⟨hm.bl 0,hm.bl 3,hm.fa 1,hm.fa 3,bB⟩) fun z=>wq 4 D (bL D) ?_))))))))))))
  rcases Bool.eq_false_or_eq_true (!iv) with hb6|hb6
  ·refine dI 88 D (fW9 hb6) ?_
   refine eL 5 D (eL 6 D (eL 7 D (eL 8 D (eL 9 D (eL 10 D (eL 11 D (wq 12 D (fG D D) (eD 13 D (dC D qB D D (fun wx hm=>(eH _ _ wx)) (bH (nw 27 2031615 (fun _ hm=>⟨hm.bl 0,hm.bl 3,hm.fa 1,hm.fa 3,bB⟩) fun z=>eD 16 D (cR (v:=J CE) D bK1 D D (fun wx hm=>(by rw [hCE];exact (uA σ u0 u2 u3 u4 u5 u6 u7 u8 u9 jR jS jT jU jV jW go gv gs gI gF gG gJ gO cA cn cc lv rv at_ v st 2 ⟨#[]⟩ _ wx (hm.blkI 3 rfl) (hm.fact 4 rfl) (hm.fact 5 rfl)))) (bH (nw 27 2097151 (fun _ hm=>⟨hm.bl 0,hm.bl 3,hm.fa 1,hm.fa 3,bB⟩) fun z=>wq 21 D (bL2 (k:=9) (e:=262) (n:=mb) bC D (fun _ hm=>(hm.2.2.1))) (wq 22 D (mE D D) (eD 23 D (dC D qB D D (fun wx hm=>(eH _ _ wx)) (bH (nw 27 16777215 (fun _ hm=>⟨hm.bl 0,hm.bl 3,hm.fa 1,hm.fa 3,bB⟩) fun z=>eD 24 D (jN 48 [J (dO twi 6),J (dO true 8),J CE,J (dO (decide (500<=((mb:Nat):Int))) 12)] fun g7=>bH (nw 27 33554431 (fun _ hm=>⟨hm.bl 1,hm.bl 4,hm.fa 1,hm.fa 3,bB⟩) fun z=>eD 25 D (dC D vO D D (fun wx hm=>(fP [dO twi 6,dO true 8,CE,dO (decide (500<=((mb:Nat):Int))) 12] _ _ _ wx (hm.blkI 0 D) (by simp))) (bH (nw 27 67108863 (fun _ hm=>⟨hm.bl 1,hm.bl 4,hm.fa 1,hm.fa 3,bB⟩) fun z=>?_))))))))))))))))))))))))
   refine wq 26 D (dB D) (gY ?_)
   exact fH (dK [dO twi 6,dO true 8,CE,dO (decide (500<=((mb:Nat):Int))) 12]) (by rw [hEE,hb6];rfl) ⟨D,D,D,D,D,D,bB⟩ (fun _ hm=>hm.pick [1,2,3,4] [0,1] [0,1,2,3,4,5,6,7,8,9,10,11,12,13] D D)
  refine dI 88 D (fW9 hb6) (eU 5 D (bL D) (eU 6 D (cU D) (eU 7 D (bW bV3 D D) (eU 8 D (cH dS3 D (fun _ hm=>hm.2.1) D) (eU 9 D (bL D) (eU 10 D (mF (enc:=vB) (ek:=dT) (s:=st) (e:=4) false kC bC bC D D (fun _ hm=>(hm.2.2.2.1))) (dI 94 (v':= .bool ist) D (fW9 bX2.symm) (eU 11 D (cS D) (wq 12 D (eZ D D) (eD 13 D (dC D qB D D (fun wx hm=>(eH _ _ wx)) (bH (nw 27 2031615 (fun _ hm=>⟨hm.bl 0,hm.bl 3,hm.fa 1,hm.fa 3,bB⟩) fun z=>eD 16 D (cR (v:=J CE) D bK1 D D (fun wx hm=>(by rw [hCE];exact (uA σ u0 u2 u3 u4 u5 u6 u7 u8 u9 jR jS jT jU jV jW go gv gs gI gF gG gJ gO cA cn cc lv rv at_ v st 2 ⟨#[]⟩ _ wx (hm.blkI 3 rfl) (hm.fact 4 rfl) (hm.fact 5 rfl)))) (bH (nw 27 2097151 (fun _ hm=>⟨hm.bl 0,hm.bl 3,hm.fa 1,hm.fa 3,bB⟩) fun z=>wq 21 D (bL2 (k:=9) (e:=262) (n:=mb) bC D (fun _ hm=>(hm.2.2.1))) (wq 22 D (mE D D) (eD 23 D (dC D qB D D (fun wx hm=>(eH _ _ wx)) (bH (nw 27 16777215 (fun _ hm=>⟨hm.bl 0,hm.bl 3,hm.fa 1,hm.fa 3,bB⟩) fun z=>eD 24 D (jN 48 [J (dO twi 6),J (dO (!ist) 8),J CE,J (dO (decide (500<=((mb:Nat):Int))) 12)] fun g8=>bH (nw 27 33554431 (fun _ hm=>⟨hm.bl 1,hm.bl 4,hm.fa 1,hm.fa 3,bB⟩) fun z=>eD 25 D (dC D vO D D (fun wx hm=>(fP [dO twi 6,dO (!ist) 8,CE,dO (decide (500<=((mb:Nat):Int))) 12] _ _ _ wx (hm.blkI 0 D) (by simp))) ?_))))))))))))))))))))))))
  refine bH (nw 27 67108863 (fun _ hm=>⟨hm.bl 1,hm.bl 4,hm.fa 1,hm.fa 3,bB⟩) fun z=>wq 26 D (dB D) (gY ?_))
  exact fH (dK [dO twi 6,dO (!ist) 8,CE,dO (decide (500<=((mb:Nat):Int))) 12]) (by rw [hEE,hb6];rfl) ⟨D,D,D,D,D,D,bB⟩ (fun _ hm=>hm.pick [1,2,3,4] [0,1] [0,1,2,3,4,5,6,7,8,9,10,11,12,13] D D)
 intro E bZ
 replace bZ:E=EE:=bZ
 refine bX ?_
 replace bZ:_=_:=bZ
 subst bZ
 refine bS D (W (gN D D) D (bU ?_))
 refine gL D (fun hy=>?_) (fun hy=>?_)
 ·refine bX (bS D (cG D (bU ?_)))
  refine bR (F ?_)
  have hyx:E≠0:=by simpa using hy
  have hsm:gR σ=bX7 V T at_ (gR σ) k d v st n0 n1 n2:=(qI fun ⟨_,q2,⟨q3,q4⟩,q5⟩=>hyx (by
   rw [cN5] at q2
   rw [hEE,htwi.trans q2,hiv.trans q3,bX2.trans q4,hCE.trans (rD.2 (bJ1.1 q5)),decide_eq_false G];rfl)).symm
  refine bQ D D fun wx hm=>?_
  refine ⟨lv,σ,_,D,⟨.same σ,hsm⟩,?_⟩
  have h8:gB _ _ ((g5,181, [J at_,U v,U st,J 2,U ⟨#[]⟩])::(g4,262, [U h0,U h1,J h2,J h3,H hA qV hc])::(g11,262, [U k,U d,J at_,J n0,H A5 n5 c5])::(go,98, [u0,H cA cn cc,u2,u3,u4,u5,u6,u7,u8,u9,jR,jS,jT,jU,jV,jW,.map (some gv),.map (some gs),.map (some gI),lv,.map (some gF),.map (some gG),.map (some gJ),.map (some gO),rv]):: []) [⟨lv,181,5,σ.lg.length,σ.lg.flatMap eF⟩,⟨rv,178,2,rn,rx⟩] _ wx:=hm
  exact (h8.tailL.tailL.tailL.subX (dV 2 D (dV 3 D (dV 4 D (dV 5 D (dV 6 D (dV 7 D (dV 8 D (dV 9 D (dV 10 D (dV 11 D bI6))))))))))).cy
 refine bN (bG (bX ?_))
 have hE0:E=0:=by simpa using hy
 rw [hEE] at hE0
 obtain ⟨z1,z2,z3,_⟩:=eC1 hE0
 have z4:=rT bD z1
 have z5:=rT bD z2
 have z6:iv=true/\ist=true:=by simpa using z5
 have z7:(σ.fh k).isSome=false:=htwi.symm.trans z4
 have z8:(V v).isSome=true:=hiv.symm.trans z6.1
 have z9:(T st).getD false=true:=bX2.symm.trans z6.2
 have hcan:bQ6 σ (kJ at_ v st):=rD.1 (hCE.symm.trans z3)
 refine bS D (W (dG fE D (fun _ hm=>hm.blkI 0 D) D D) D ?_)
 refine fW (γ:=Value) (val:=fun _=> .tuple #[]) (φ:=fun _=>True) (K':=fun _=>fun _=>True) (L':=fun rC=> [(go,98, [u0,H cA cn cc,u2,u3,u4,u5,u6,u7,u8,u9,jR,jS,jT,jU,jV,jW,.map (some gv),.map (some gs),.map (some gI),rC,.map (some gF),.map (some gG),.map (some gJ),.map (some gO),rv]),(g11,262, [U k,U d,J at_,J n0,H A5 n5 c5])]) (O':=fun rC=> [⟨rC,181,5,(jD σ (kJ at_ v st)).lg.length,(jD σ (kJ at_ v st)).lg.flatMap eF⟩,⟨rv,178,2,rn,rx⟩]) (X':=fun _=> [cB vS dT w0.heap.size gv (V),cB vB dT w0.heap.size gs (T),cB rJ dT w0.heap.size gI ((jD σ (kJ at_ v st)).fs),cB vB nN w0.heap.size gF ((jD σ (kJ at_ v st)).fa),cB pX dT w0.heap.size gG ((jD σ (kJ at_ v st)).fb),cB pZ dT w0.heap.size gJ ((jD σ (kJ at_ v st)).fh),cB vI dT w0.heap.size gO (fp),gX 269 (jD σ (kJ at_ v st)).fh,bT dQ 2 53 w0.heap.size none cA cn cl,TxtO w0.heap.size none,fun wy=>SlT lgEnc 9 269 wy A5 n5 [startLeg v (⟨at_,st,n1,n2⟩:Rd)]]) D cP8 D D (fun wx hm=>(bE6 w0 u0 u2 u3 u4 u5 u6 u7 u8 u9 jR jS jT jU jV jW go gv gs gI gF gG gJ gO cA cn cc cl V T rv rn rx hd fp σ lv at_ v st 2 ⟨#[]⟩ [(g11,262, [U k,U d,J at_,J n0,H A5 n5 c5])] [fun wy=>SlT lgEnc 9 269 wy A5 n5 [startLeg v (⟨at_,st,n1,n2⟩:Rd)]] (dO5 SlT.mfar) wx hlg (hm.pick [3,2] [0,1] [2,3,4,5,6,7,8,9,10,11,0] D D).cy).mono fun _ _ ⟨lv_,he,wG⟩=>⟨lv_,he,bB,wG.cy⟩) ?_
 intro rC _
 refine bU (bJ (gd (fun wz=>Blk wz go 98 [u0,H cA cn cc,u2,u3,u4,u5,u6,u7,u8,u9,jR,jS,jT,jU,jV,jW,.map (some gv),.map (some gs),.map (some gI),rC,.map (some gF),.map (some gG),.map (some gJ),.map (some gO),rv]/\Blk wz g11 262 [U k,U d,J at_,J n0,H A5 n5 c5]/\True) mixed (fun _ hm=>⟨hm.bl 0,hm.bl 1,bB⟩) fun z=>wq 0 D (bL D) (wq 1 D (cU D) (wq 2 D (bW wU D D) (wq 3 D (cH cA2 D (fun _ hm=>hm.1) D) (wq 4 D (bL D) (wq 5 D (dG kQ D (fun _ hm=>hm.2.1) D D) (eD 6 D (kZ (enc:=pZ) (ek:=dT) (s:=k) (v:=(⟨k,d,at_,n0,A5,n5,c5, [startLeg v (⟨at_,st,n1,n2⟩:Rd)]⟩:Hg)) (e:=262) (X':= [cB vS dT w0.heap.size gv (V),cB vB dT w0.heap.size gs (T),cB rJ dT w0.heap.size gI ((jD σ (kJ at_ v st)).fs),cB vB nN w0.heap.size gF ((jD σ (kJ at_ v st)).fa),cB pX dT w0.heap.size gG ((jD σ (kJ at_ v st)).fb),cB vI dT w0.heap.size gO (fp),gX 269 (jD σ (kJ at_ v st)).fh,bT dQ 2 53 w0.heap.size none cA cn cl,TxtO w0.heap.size none,fun wy=>SlT lgEnc 9 269 wy A5 n5 [startLeg v (⟨at_,st,n1,n2⟩:Rd)]]) 5 kC bC D D D D (cX (i:=0) (cB.farK (gW hd (i:=0) (j:=5) D D bD)) D (cX (i:=1) (cB.farK (gW hd (i:=1) (j:=5) D D bD)) D (cX (i:=2) (cB.farK (gW hd (i:=2) (j:=5) D D bD)) D (cX (i:=3) (cB.farK (gW hd (i:=3) (j:=5) D D bD)) D (cX (i:=4) (cB.farK (gW hd (i:=4) (j:=5) D D bD)) D (cX (i:=6) (cB.farK (gW hd (i:=6) (j:=5) D D bD)) D (cX (i:=7) (gX.mfar).far D (cX (i:=8) (bT.mfar).far D (cX (i:=9) (TxtO.mfar).far D (cX (i:=10) (SlT.mfar).far D gK)))))))))) (bH (nw 7 127 (fun _ hm=>⟨hm.bl 0,hm.bl 1,bB⟩) fun z=>gY (bG (bX (bS D (W (cU D) D (dZ bW3 D D (eO dT3 0 D D D (bS D ?_))))))))))))))))))
 refine cP2 (enc:=pX) (ek:=dT) (s:=k) (e:=87) (X':= [cB pZ dT w0.heap.size gJ (gZ ((jD σ (kJ at_ v st)).fh) k (⟨k,d,at_,n0,A5,n5,c5, [startLeg v (⟨at_,st,n1,n2⟩:Rd)]⟩:Hg)),cB vS dT w0.heap.size gv (V),cB vB dT w0.heap.size gs (T),cB rJ dT w0.heap.size gI ((jD σ (kJ at_ v st)).fs),cB vB nN w0.heap.size gF ((jD σ (kJ at_ v st)).fa),cB vI dT w0.heap.size gO (fp),gX 269 (jD σ (kJ at_ v st)).fh,bT dQ 2 53 w0.heap.size none cA cn cl,TxtO w0.heap.size none,fun wy=>SlT lgEnc 9 269 wy A5 n5 [startLeg v (⟨at_,st,n1,n2⟩:Rd)]]) 5 kC bC D D D D (cX (i:=0) (cB.farK (gW hd (i:=5) (j:=4) D D bD)) D (cX (i:=1) (cB.farK (gW hd (i:=0) (j:=4) D D bD)) D (cX (i:=2) (cB.farK (gW hd (i:=1) (j:=4) D D bD)) D (cX (i:=3) (cB.farK (gW hd (i:=2) (j:=4) D D bD)) D (cX (i:=4) (cB.farK (gW hd (i:=3) (j:=4) D D bD)) D (cX (i:=6) (cB.farK (gW hd (i:=6) (j:=4) D D bD)) D (cX (i:=7) (gX.mfar).far D (cX (i:=8) (bT.mfar).far D (cX (i:=9) (TxtO.mfar).far D (cX (i:=10) (SlT.mfar).far D gK)))))))))) ?_
 refine bU (bX (cG D (bU (bR ?_))))
 have hab:gR ({ jD σ (kJ at_ v st) with fh:=gZ σ.fh k (⟨k,d,at_,n0,A5,n5,c5, [startLeg v (⟨at_,st,n1,n2⟩:Rd)]⟩:Hg),fb:=zO σ.fb k }:Os)=bX7 V T at_ (gR σ) k d v st n0 n1 n2:=by
  refine Eq.trans ?_ (zN ⟨hHE0,by rw [cN5];exact z7,⟨z8,z9⟩,hcan⟩).symm
  show (⟨_,_,_,fun j=>(gZ σ.fh k _ j).map hrG,_⟩:As)=_
  rw [cM5];rfl
 refine bQ D D fun wx hm=>?_
 refine ⟨rC,_,0,D,⟨.start σ (⟨k,d,at_,n0,A5,n5,c5, [startLeg v (⟨at_,st,n1,n2⟩:Rd)]⟩:Hg) v (⟨at_,st,n1,n2⟩:Rd) ⟨hrk,bE,bE,hinv0⟩ hHE0 D D z7 z8 z9 hcan,hab⟩,?_⟩
 have hput:=gX.put (k:=k) (h:=(⟨k,d,at_,n0,A5,n5,c5, [startLeg v (⟨at_,st,n1,n2⟩:Rd)]⟩:Hg)) (hm.fact 7 rfl) (hm.fact 10 rfl)
 have hm:=hm.also (gX.lasts2 rfl) hput
 exact (hm.pick [0] [0,1] [3,4,5,6,1,2,7,0,9,10] D D).cy
end Go.Proofs.YtapdhfjfgpbnnaaGreatDoor
