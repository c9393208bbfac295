/- Several texts as one: Ef Dkc Tw Dkd Cl Gb Fq Ci By Ss1 Rt2 Bg Bw Dke Dkf -/
import Derived.Test.YtmifpfcmldflkaaGreatDoorR4a
import Derived.Test.YtmifpfcmldflkaaGreatDoorR4b
import Derived.Test.YtmifpfcmldflkaaGreatDoorProg
import Derived.Ground.NamesProg
import Derived.Shelf.Sort.Plain
set_option maxRecDepth 100000
set_option maxHeartbeats 4000000
namespace Go.Proofs.YtmifpfcmldflkaaGreatDoor
open Tryz
open Go.RowKit
theorem yF (s0:Int) (s1:ByteArray) (s2 e0:Int) (e1 e2:ByteArray) (e3:Int) (e4:ByteArray) (w:World):Calls prog 47 #[.agg #[.int .i64 s0,.string s1,.int .i64 s2],.agg #[.int .i64 e0,.string e1,.string e2,.int .i64 e3,.string e4]] w (fun e w'=>e=.returned (.tuple #[.agg (kT (gU (⟨s0,s1,s2⟩:Sa) (⟨e0,e1,e2,e3,e4⟩:Ev))).toArray,.bool (gB (⟨s0,s1,s2⟩:Sa) (⟨e0,e1,e2,e3,e4⟩:Ev))])/\w.grownBy w' none):=by
 refine cV ⟨74,w,none, []⟩ func47 U ntmps47 U (gR (X:= []) cY cZ) (bS (fG U U U fun g1=>fG U U U fun g2=>dH cH4 U fun g3=>bZ U (bR (bS (dW eV2 U U (eI fE 2 U U U (dW vD U U (eI fE 1 U U U (bB (eR U U) U (bZ U (bR (bH (bI (dW rV U U (eI fF 2 U U U (bB (eN U U) U (bP U ?_)))))))))))))))))
 rcases Bool.eq_false_or_eq_true (decide (s0=1)) with h0|h0
 ·refine bL 19 U (fH5 h0) ?_
  refine eG U (bP U (mQ U U (bZ U (bR (bH (gd (fun wz=>Blk wz g2 74 [.int .i64 e0,.string e1,.string e2,.int .i64 e3,.string e4]/\True) mixed (fun _ hm=>⟨hm.bl 1,trivial⟩) fun z=>wq 0 U (bQ vD U U) (wq 1 U (cN fE U (fun _ hm=>hm.1) U) (wq 2 U (cU U) (wq 3 U (cU U) (wq 4 U (cU U) (jH (bD (bH (bS (dW cG0 U U (eI fF 1 U U U (bR (bO (bS (bB (eN U U) U (bZ U (bE (bD ?_)))))))))))))))))))))))
  refine cE U (fun h1=>?_) (fun h1=>?_)
  ·refine gd (fun wz=>Blk wz g1 138 [.int .i64 s0,.string s1,.int .i64 s2]/\True) mixed (fun _ hm=>⟨hm.bl 2,trivial⟩) fun z=>?_
   refine wq 0 U (bQ rV U U) (wq 1 U (cN fF U (fun _ hm=>hm.1) U) (wq 2 U (eN U U) (wq 3 U (cU U) (wq 4 U (cU U) (jH (bG (bD (bH (bS (bP U (bB (cF U) U (bR ?_))))))))))))
   refine dC U (fun hh=>?_) (fun hh=>?_)
   ·have h2:(decide (s0=0))=false:=by simpa using hh
    refine bS (bB (cX eM U (fun _ hm=>hm.blkI 2 U) U U) U (jX (cs':= [.int .i64 s0,.string s1,.int .i64 s2]) 0 eM U U U U (bZ U (bR (bM (bA ?_))))))
    refine eL 0 U eM U U U U fun wx hm=>?_
    have hg:=hm.g
    clear hm
    exact ⟨by simp [gB,gU,kT, *],hg⟩
   have h2:(decide (s0=0))=true:=by simpa using hh
   refine bN (bD (bS (bP U (bP U (dW nE U U (eI fF 1 U U U (bB (dJ (cs:= [.int .i64 1,.string e2,.int .i64 e0]) U (by kernel_rfl)) U (jX (cs':= [.int .i64 1,.string e2,.int .i64 e0]) 0 eM U U U U (bZ U (bR (bM ?_)))))))))))
   refine eL 0 U eM U U U U fun wx hm=>?_
   have hg:=hm.g
   clear hm
   exact ⟨by simp [gB,gU,jV,kT, *],hg⟩
  refine bS (bB (eN U U) U (bZ U (bR ?_)))
  refine cE U (fun h2=>?_) (fun h2=>?_)
  ·refine bI (bP U (bZ U (bZ U (bZ U (bE (bG (bD (bH (bS (bP U (bB (cF U) U (bE ?_))))))))))))
   refine bD ?_
   refine dC U (fun hh=>?_) (fun hh=>?_)
   ·have h3:(s1.toList==e2.toList)=false:=by simpa using hh
    refine bS (bB (cX eM U (fun _ hm=>hm.blkI 2 U) U U) U (jX (cs':= [.int .i64 s0,.string s1,.int .i64 s2]) 0 eM U U U U (bZ U (bR (bM (bA ?_))))))
    refine eL 0 U eM U U U U fun wx hm=>?_
    have hg:=hm.g
    clear hm
    exact ⟨by simp [gB,gU,kT, *],hg⟩
   have h3:(s1.toList==e2.toList)=true:=by simpa using hh
   refine bN (bD (bS (bP U (bP U (dW nE U U (eI fF 1 U U U (bB (dJ (cs:= [.int .i64 2,.string ⟨#[]⟩,.int .i64 e0]) U (by kernel_rfl)) U (jX (cs':= [.int .i64 2,.string ⟨#[]⟩,.int .i64 e0]) 0 eM U U U U (bZ U (bR (bM ?_)))))))))))
   refine eL 0 U eM U U U U fun wx hm=>?_
   have hg:=hm.g
   clear hm
   exact ⟨by simp [gB,gU,jV,kT, *],hg⟩
  refine bS (bB (eN U U) U (bZ U (bR ?_)))
  refine cE U (fun h3=>?_) (fun h3=>?_)
  ·refine gd (fun wz=>Blk wz g1 138 [.int .i64 s0,.string s1,.int .i64 s2]/\True) mixed (fun _ hm=>⟨hm.bl 2,trivial⟩) fun z=>?_
   refine wq 0 U (bQ rV U U) (wq 1 U (cN fF U (fun _ hm=>hm.1) U) (wq 2 U (eN U U) (wq 3 U (cU U) (wq 4 U (cU U) (jH (bG (bD (bH (bS (bP U (bB (cF U) U (bR ?_))))))))))))
   refine dC U (fun hh=>?_) (fun hh=>?_)
   ·have h4:(decide (s0=2))=false:=by simpa using hh
    refine bS (bB (cX eM U (fun _ hm=>hm.blkI 2 U) U U) U (jX (cs':= [.int .i64 s0,.string s1,.int .i64 s2]) 0 eM U U U U (bZ U (bR (bM (bA ?_))))))
    refine eL 0 U eM U U U U fun wx hm=>?_
    have hg:=hm.g
    clear hm
    exact ⟨by simp [gB,gU,kT, *],hg⟩
   have h4:(decide (s0=2))=true:=by simpa using hh
   refine bN (bD (bS (bP U (bP U (dW nE U U (eI fF 1 U U U (bB (dJ (cs:= [.int .i64 1,.string e2,.int .i64 e0]) U (by kernel_rfl)) U (jX (cs':= [.int .i64 1,.string e2,.int .i64 e0]) 0 eM U U U U (bZ U (bR (bM ?_)))))))))))
   refine eL 0 U eM U U U U fun wx hm=>?_
   have hg:=hm.g
   clear hm
   exact ⟨by simp [gB,gU,jV,kT, *],hg⟩
  refine bS (bB (eN U U) U (bZ U (bR ?_)))
  refine cE U (fun h4=>?_) (fun h4=>?_)
  ·refine bI (bP U (bZ U (bZ U (bE (bG (bD (bH (bS (bP U (bB (cF U) U (bR ?_)))))))))))
   refine dC U (fun hh=>?_) (fun hh=>?_)
   ·have h5:(s1.toList==e2.toList)=false:=by simpa using hh
    refine bS (bB (cX eM U (fun _ hm=>hm.blkI 2 U) U U) U (jX (cs':= [.int .i64 s0,.string s1,.int .i64 s2]) 0 eM U U U U (bZ U (bR (bM (bA ?_))))))
    refine eL 0 U eM U U U U fun wx hm=>?_
    have hg:=hm.g
    clear hm
    exact ⟨by simp [gB,gU,kT, *],hg⟩
   have h5:(s1.toList==e2.toList)=true:=by simpa using hh
   refine bN (bD (bS (bP U (bP U (dW nE U U (eI fF 1 U U U (bB (dJ (cs:= [.int .i64 3,.string e2,.int .i64 e0]) U (by kernel_rfl)) U (jX (cs':= [.int .i64 3,.string e2,.int .i64 e0]) 0 eM U U U U (bZ U (bR (bM ?_)))))))))))
   refine eL 0 U eM U U U U fun wx hm=>?_
   have hg:=hm.g
   clear hm
   exact ⟨by simp [gB,gU,jV,kT, *],hg⟩
  refine bS (bB (eN U U) U (bZ U (bR ?_)))
  refine cE U (fun h5=>?_) (fun h5=>?_)
  ·refine bI (dW rV U U (eI fF 2 U U U (bB (eN U U) U (bP U ?_))))
   rcases Bool.eq_false_or_eq_true (decide (s0=3)) with h6|h6
   ·refine bL 47 U (fH5 h6) ?_
    refine eG U (bP U (mQ U U (bZ U (bZ U (bE (bG (bD (bH (bS (bP U (bB (cF U) U (bR ?_))))))))))))
    refine dC U (fun hh=>?_) (fun hh=>?_)
    ·have h7:(s1.toList==e2.toList)=false:=by simpa using hh
     refine bS (bB (cX eM U (fun _ hm=>hm.blkI 2 U) U U) U (jX (cs':= [.int .i64 s0,.string s1,.int .i64 s2]) 0 eM U U U U (bZ U (bR (bM (bA ?_))))))
     refine eL 0 U eM U U U U fun wx hm=>?_
     have hg:=hm.g
     clear hm
     exact ⟨by simp [gB,gU,kT, *],hg⟩
    have h7:(s1.toList==e2.toList)=true:=by simpa using hh
    refine bN (bD (bS (bP U (bP U (dW nE U U (eI fF 1 U U U (bB (dJ (cs:= [.int .i64 1,.string e2,.int .i64 e0]) U (by kernel_rfl)) U (jX (cs':= [.int .i64 1,.string e2,.int .i64 e0]) 0 eM U U U U (bZ U (bR (bM ?_)))))))))))
    refine eL 0 U eM U U U U fun wx hm=>?_
    have hg:=hm.g
    clear hm
    exact ⟨by simp [gB,gU,jV,kT, *],hg⟩
   refine bL 47 U (fH5 h6) (dY U (nS U U (bZ U (bZ U (bE (bG (bD (bH (bS (bP U (bB (cF U) U (bL 67 (v':= .bool true) U (fH5 (by decide)) (bR (kQ U (bS (bB (cX eM U (fun _ hm=>hm.blkI 2 U) U U) U (jX (cs':= [.int .i64 s0,.string s1,.int .i64 s2]) 0 eM U U U U (bZ U (bR (bM (bA ?_)))))))))))))))))))))
   refine eL 0 U eM U U U U fun wx hm=>?_
   have hg:=hm.g
   clear hm
   exact ⟨by simp [gB,gU,kT, *],hg⟩
  refine bS (bB (eN U U) U (bZ U (bR ?_)))
  refine cE U (fun h6=>?_) (fun h6=>?_)
  ·refine gd (fun wz=>Blk wz g2 74 [.int .i64 e0,.string e1,.string e2,.int .i64 e3,.string e4]/\True) mixed (fun _ hm=>⟨hm.bl 1,trivial⟩) fun z=>?_
   refine wq 0 U (bQ uL U U) (wq 1 U (cN fE U (fun _ hm=>hm.1) U) (wq 2 U (bJ U) (wq 3 U (cU U) (wq 4 U (cU U) (wq 5 U (cU U) (jH (bG (bD (bH (bS (bP U (bB (cF U) U (bR ?_)))))))))))))
   refine dC U (fun hh=>?_) (fun hh=>?_)
   ·have h7:(s1.toList==e2.toList)=false:=by simpa using hh
    refine bS (bB (cX eM U (fun _ hm=>hm.blkI 2 U) U U) U (jX (cs':= [.int .i64 s0,.string s1,.int .i64 s2]) 0 eM U U U U (bZ U (bR (bM (bA ?_))))))
    refine eL 0 U eM U U U U fun wx hm=>?_
    have hg:=hm.g
    clear hm
    exact ⟨by simp [gB,gU,kT, *],hg⟩
   have h7:(s1.toList==e2.toList)=true:=by simpa using hh
   refine bN (bD (bS (bP U (bP U (dW nE U U (eI fF 1 U U U (bB (dJ (cs:= [.int .i64 4,.string e4,.int .i64 e0]) U (by kernel_rfl)) U (jX (cs':= [.int .i64 4,.string e4,.int .i64 e0]) 0 eM U U U U (bZ U (bR (bM ?_)))))))))))
   refine eL 0 U eM U U U U fun wx hm=>?_
   have hg:=hm.g
   clear hm
   exact ⟨by simp [gB,gU,jV,kT, *],hg⟩
  refine bS (bB (eN U U) U (bZ U (bR ?_)))
  refine cE U (fun h7=>?_) (fun h7=>?_)
  ·refine bI (dW rV U U (eI fF 2 U U U (bB (eN U U) U (bP U ?_))))
   rcases Bool.eq_false_or_eq_true (decide (s0=4)) with h8|h8
   ·refine bL 60 U (fH5 h8) ?_
    refine eG U (bP U (mQ U U (bZ U (bZ U (bE (bG (bD (bH (bS (bP U (bB (cF U) U (bR ?_))))))))))))
    refine dC U (fun hh=>?_) (fun hh=>?_)
    ·have h9:(s1.toList==e2.toList)=false:=by simpa using hh
     refine bS (bB (cX eM U (fun _ hm=>hm.blkI 2 U) U U) U (jX (cs':= [.int .i64 s0,.string s1,.int .i64 s2]) 0 eM U U U U (bZ U (bR (bM (bA ?_))))))
     refine eL 0 U eM U U U U fun wx hm=>?_
     have hg:=hm.g
     clear hm
     exact ⟨by simp [gB,gU,kT, *],hg⟩
    have h9:(s1.toList==e2.toList)=true:=by simpa using hh
    refine bN (bD (bS (bP U (bP U (dW nE U U (eI fF 1 U U U (bB (dJ (cs:= [.int .i64 1,.string e2,.int .i64 e0]) U (by kernel_rfl)) U (jX (cs':= [.int .i64 1,.string e2,.int .i64 e0]) 0 eM U U U U (bZ U (bR (bM ?_)))))))))))
    refine eL 0 U eM U U U U fun wx hm=>?_
    have hg:=hm.g
    clear hm
    exact ⟨by simp [gB,gU,jV,kT, *],hg⟩
   refine bL 60 U (fH5 h8) (dY U (nS U U (bZ U (bZ U (bE (bG (bD (bH (bS (bP U (bB (cF U) U (bL 67 (v':= .bool true) U (fH5 (by decide)) (bR (kQ U (bS (bB (cX eM U (fun _ hm=>hm.blkI 2 U) U U) U (jX (cs':= [.int .i64 s0,.string s1,.int .i64 s2]) 0 eM U U U U (bZ U (bR (bM (bA ?_)))))))))))))))))))))
   refine eL 0 U eM U U U U fun wx hm=>?_
   have hg:=hm.g
   clear hm
   exact ⟨by simp [gB,gU,kT, *],hg⟩
  refine bS (bB (eN U U) U (bZ U (bR ?_)))
  refine cE U (fun h8=>?_) (fun h8=>?_)
  ·refine bI (bP U (bZ U (bZ U (bZ U (bE (bG (bD (bH (bS (bP U (bB (cF U) U (bE ?_))))))))))))
   refine bD ?_
   refine dC U (fun hh=>?_) (fun hh=>?_)
   ·have h9:(s1.toList==e2.toList)=false:=by simpa using hh
    refine bS (bB (cX eM U (fun _ hm=>hm.blkI 2 U) U U) U (jX (cs':= [.int .i64 s0,.string s1,.int .i64 s2]) 0 eM U U U U (bZ U (bR (bM (bA ?_))))))
    refine eL 0 U eM U U U U fun wx hm=>?_
    have hg:=hm.g
    clear hm
    exact ⟨by simp [gB,gU,kT, *],hg⟩
   have h9:(s1.toList==e2.toList)=true:=by simpa using hh
   refine bN (bD (bS (bP U (bP U (dW nE U U (eI fF 1 U U U (bB (dJ (cs:= [.int .i64 5,.string ⟨#[]⟩,.int .i64 e0]) U (by kernel_rfl)) U (jX (cs':= [.int .i64 5,.string ⟨#[]⟩,.int .i64 e0]) 0 eM U U U U (bZ U (bR (bM ?_)))))))))))
   refine eL 0 U eM U U U U fun wx hm=>?_
   have hg:=hm.g
   clear hm
   exact ⟨by simp [gB,gU,jV,kT, *],hg⟩
  refine bN (bG (bD (bH (bS (bP U (bB (cF U) U (bL 67 (v':= .bool true) U (fH5 (by decide)) (bR (kQ U (bS (bB (cX eM U (fun _ hm=>hm.blkI 2 U) U U) U (jX (cs':= [.int .i64 s0,.string s1,.int .i64 s2]) 0 eM U U U U (bZ U (bR (bM (bA ?_))))))))))))))))
  refine eL 0 U eM U U U U fun wx hm=>?_
  have hg:=hm.g
  clear hm
  exact ⟨by simp [gB,gU,kT, *],hg⟩
 refine bL 19 U (fH5 h0) (dY U (nS U U (bZ U (bR (bH (gd (fun wz=>Blk wz g2 74 [.int .i64 e0,.string e1,.string e2,.int .i64 e3,.string e4]/\True) mixed (fun _ hm=>⟨hm.bl 1,trivial⟩) fun z=>wq 0 U (bQ vD U U) (wq 1 U (cN fE U (fun _ hm=>hm.1) U) (wq 2 U (cU U) (wq 3 U (cU U) (wq 4 U (cU U) (jH (bD (bH (bS (dW cG0 U U (eI fF 1 U U U (bR (bO (bS (bB (eN U U) U (bZ U (bE (bD ?_)))))))))))))))))))))))
 refine cE U (fun h1=>?_) (fun h1=>?_)
 ·refine gd (fun wz=>Blk wz g1 138 [.int .i64 s0,.string s1,.int .i64 s2]/\True) mixed (fun _ hm=>⟨hm.bl 2,trivial⟩) fun z=>?_
  refine wq 0 U (bQ rV U U) (wq 1 U (cN fF U (fun _ hm=>hm.1) U) (wq 2 U (eN U U) (wq 3 U (cU U) (wq 4 U (cU U) (jH (bG (bD (bH (bS (bP U (bB (cF U) U (bR ?_))))))))))))
  refine dC U (fun hh=>?_) (fun hh=>?_)
  ·have h2:(decide (s0=0))=false:=by simpa using hh
   refine bS (bB (cX eM U (fun _ hm=>hm.blkI 2 U) U U) U (jX (cs':= [.int .i64 s0,.string s1,.int .i64 s2]) 0 eM U U U U (bZ U (bR (bM (bA ?_))))))
   refine eL 0 U eM U U U U fun wx hm=>?_
   have hg:=hm.g
   clear hm
   exact ⟨by simp [gB,gU,kT, *],hg⟩
  have h2:(decide (s0=0))=true:=by simpa using hh
  refine bN (bD (bS (bP U (bP U (dW nE U U (eI fF 1 U U U (bB (dJ (cs:= [.int .i64 1,.string e2,.int .i64 e0]) U (by kernel_rfl)) U (jX (cs':= [.int .i64 1,.string e2,.int .i64 e0]) 0 eM U U U U (bZ U (bR (bM ?_)))))))))))
  refine eL 0 U eM U U U U fun wx hm=>?_
  have hg:=hm.g
  clear hm
  exact ⟨by simp [gB,gU,jV,kT, *],hg⟩
 refine bS (bB (eN U U) U (bZ U (bR ?_)))
 refine cE U (fun h2=>?_) (fun h2=>?_)
 ·refine bI (bP U (bZ U (bZ U (bZ U (bE (bG (bD (bH (bS (bP U (bB (cF U) U ?_)))))))))))
  refine bL 67 (v':= .bool true) U (fH5 (by decide)) (bR (kQ U (bS (bB (cX eM U (fun _ hm=>hm.blkI 2 U) U U) U (jX (cs':= [.int .i64 s0,.string s1,.int .i64 s2]) 0 eM U U U U (bZ U (bR (bM (bA ?_)))))))))
  refine eL 0 U eM U U U U fun wx hm=>?_
  have hg:=hm.g
  clear hm
  exact ⟨by simp [gB,gU,kT, *],hg⟩
 refine bS (bB (eN U U) U (bZ U (bR ?_)))
 refine cE U (fun h3=>?_) (fun h3=>?_)
 ·refine gd (fun wz=>Blk wz g1 138 [.int .i64 s0,.string s1,.int .i64 s2]/\True) mixed (fun _ hm=>⟨hm.bl 2,trivial⟩) fun z=>?_
  refine wq 0 U (bQ rV U U) (wq 1 U (cN fF U (fun _ hm=>hm.1) U) (wq 2 U (eN U U) (wq 3 U (cU U) (wq 4 U (cU U) (jH (bG (bD (bH (bS (bP U (bB (cF U) U (bR ?_))))))))))))
  refine dC U (fun hh=>?_) (fun hh=>?_)
  ·have h4:(decide (s0=2))=false:=by simpa using hh
   refine bS (bB (cX eM U (fun _ hm=>hm.blkI 2 U) U U) U (jX (cs':= [.int .i64 s0,.string s1,.int .i64 s2]) 0 eM U U U U (bZ U (bR (bM (bA ?_))))))
   refine eL 0 U eM U U U U fun wx hm=>?_
   have hg:=hm.g
   clear hm
   exact ⟨by simp [gB,gU,kT, *],hg⟩
  have h4:(decide (s0=2))=true:=by simpa using hh
  refine bN (bD (bS (bP U (bP U (dW nE U U (eI fF 1 U U U (bB (dJ (cs:= [.int .i64 1,.string e2,.int .i64 e0]) U (by kernel_rfl)) U (jX (cs':= [.int .i64 1,.string e2,.int .i64 e0]) 0 eM U U U U (bZ U (bR (bM ?_)))))))))))
  refine eL 0 U eM U U U U fun wx hm=>?_
  have hg:=hm.g
  clear hm
  exact ⟨by simp [gB,gU,jV,kT, *],hg⟩
 refine bS (bB (eN U U) U (bZ U (bR ?_)))
 refine cE U (fun h4=>?_) (fun h4=>?_)
 ·refine bI (bP U (bZ U (bZ U (bE (bG (bD (bH (bS (bP U (bB (cF U) U ?_))))))))))
  refine bL 67 (v':= .bool true) U (fH5 (by decide)) (bR (kQ U (bS (bB (cX eM U (fun _ hm=>hm.blkI 2 U) U U) U (jX (cs':= [.int .i64 s0,.string s1,.int .i64 s2]) 0 eM U U U U (bZ U (bR (bM (bA ?_)))))))))
  refine eL 0 U eM U U U U fun wx hm=>?_
  have hg:=hm.g
  clear hm
  exact ⟨by simp [gB,gU,kT, *],hg⟩
 refine bS (bB (eN U U) U (bZ U (bR ?_)))
 refine cE U (fun h5=>?_) (fun h5=>?_)
 ·refine bI (dW rV U U (eI fF 2 U U U (bB (eN U U) U (bP U ?_))))
  rcases Bool.eq_false_or_eq_true (decide (s0=3)) with h6|h6
  ·refine bL 47 U (fH5 h6) ?_
   refine eG U (bP U (mQ U U (bZ U (bZ U (bE (bG (bD (bH (bS (bP U (bB (cF U) U (bR ?_))))))))))))
   refine dC U (fun hh=>?_) (fun hh=>?_)
   ·have h7:(s1.toList==e2.toList)=false:=by simpa using hh
    refine bS (bB (cX eM U (fun _ hm=>hm.blkI 2 U) U U) U (jX (cs':= [.int .i64 s0,.string s1,.int .i64 s2]) 0 eM U U U U (bZ U (bR (bM (bA ?_))))))
    refine eL 0 U eM U U U U fun wx hm=>?_
    have hg:=hm.g
    clear hm
    exact ⟨by simp [gB,gU,kT, *],hg⟩
   have h7:(s1.toList==e2.toList)=true:=by simpa using hh
   refine bN (bD (bS (bP U (bP U (dW nE U U (eI fF 1 U U U (bB (dJ (cs:= [.int .i64 1,.string e2,.int .i64 e0]) U (by kernel_rfl)) U (jX (cs':= [.int .i64 1,.string e2,.int .i64 e0]) 0 eM U U U U (bZ U (bR (bM ?_)))))))))))
   refine eL 0 U eM U U U U fun wx hm=>?_
   have hg:=hm.g
   clear hm
   exact ⟨by simp [gB,gU,jV,kT, *],hg⟩
  refine bL 47 U (fH5 h6) (dY U (nS U U (bZ U (bZ U (bE (bG (bD (bH (bS (bP U (bB (cF U) U (bL 67 (v':= .bool true) U (fH5 (by decide)) (bR (kQ U (bS (bB (cX eM U (fun _ hm=>hm.blkI 2 U) U U) U (jX (cs':= [.int .i64 s0,.string s1,.int .i64 s2]) 0 eM U U U U (bZ U (bR (bM (bA ?_)))))))))))))))))))))
  refine eL 0 U eM U U U U fun wx hm=>?_
  have hg:=hm.g
  clear hm
  exact ⟨by simp [gB,gU,kT, *],hg⟩
 refine bS (bB (eN U U) U (bZ U (bR ?_)))
 refine cE U (fun h6=>?_) (fun h6=>?_)
 ·refine gd (fun wz=>Blk wz g2 74 [.int .i64 e0,.string e1,.string e2,.int .i64 e3,.string e4]/\True) mixed (fun _ hm=>⟨hm.bl 1,trivial⟩) fun z=>?_
  refine wq 0 U (bQ uL U U) (wq 1 U (cN fE U (fun _ hm=>hm.1) U) (wq 2 U (bJ U) (wq 3 U (cU U) (wq 4 U (cU U) (wq 5 U (cU U) (jH (bG (bD (bH (bS (bP U (bB (cF U) U (bL 67 (v':= .bool true) U (fH5 (by decide)) (bR (kQ U (bS (bB (cX eM U (fun _ hm=>hm.blkI 2 U) U U) U (jX (cs':= [.int .i64 s0,.string s1,.int .i64 s2]) 0 eM U U U U (bZ U (bR (bM (bA ?_))))))))))))))))))))))
  refine eL 0 U eM U U U U fun wx hm=>?_
  have hg:=hm.g
  clear hm
  exact ⟨by simp [gB,gU,kT, *],hg⟩
 refine bS (bB (eN U U) U (bZ U (bR ?_)))
 refine cE U (fun h7=>?_) (fun h7=>?_)
 ·refine bI (dW rV U U (eI fF 2 U U U (bB (eN U U) U (bP U ?_))))
  rcases Bool.eq_false_or_eq_true (decide (s0=4)) with h8|h8
  ·refine bL 60 U (fH5 h8) ?_
   refine eG U (bP U (mQ U U (bZ U (bZ U (bE (bG (bD (bH (bS (bP U (bB (cF U) U (bR ?_))))))))))))
   refine dC U (fun hh=>?_) (fun hh=>?_)
   ·have h9:(s1.toList==e2.toList)=false:=by simpa using hh
    refine bS (bB (cX eM U (fun _ hm=>hm.blkI 2 U) U U) U (jX (cs':= [.int .i64 s0,.string s1,.int .i64 s2]) 0 eM U U U U (bZ U (bR (bM (bA ?_))))))
    refine eL 0 U eM U U U U fun wx hm=>?_
    have hg:=hm.g
    clear hm
    exact ⟨by simp [gB,gU,kT, *],hg⟩
   have h9:(s1.toList==e2.toList)=true:=by simpa using hh
   refine bN (bD (bS (bP U (bP U (dW nE U U (eI fF 1 U U U (bB (dJ (cs:= [.int .i64 1,.string e2,.int .i64 e0]) U (by kernel_rfl)) U (jX (cs':= [.int .i64 1,.string e2,.int .i64 e0]) 0 eM U U U U (bZ U (bR (bM ?_)))))))))))
   refine eL 0 U eM U U U U fun wx hm=>?_
   have hg:=hm.g
   clear hm
   exact ⟨by simp [gB,gU,jV,kT, *],hg⟩
  refine bL 60 U (fH5 h8) (dY U (nS U U (bZ U (bZ U (bE (bG (bD (bH (bS (bP U (bB (cF U) U (bL 67 (v':= .bool true) U (fH5 (by decide)) (bR (kQ U (bS (bB (cX eM U (fun _ hm=>hm.blkI 2 U) U U) U (jX (cs':= [.int .i64 s0,.string s1,.int .i64 s2]) 0 eM U U U U (bZ U (bR (bM (bA ?_)))))))))))))))))))))
  refine eL 0 U eM U U U U fun wx hm=>?_
  have hg:=hm.g
  clear hm
  exact ⟨by simp [gB,gU,kT, *],hg⟩
 refine bS (bB (eN U U) U (bZ U (bR ?_)))
 refine cE U (fun h8=>?_) (fun h8=>?_)
 ·refine bI (bP U (bZ U (bZ U (bZ U (bE (bG (bD (bH (bS (bP U (bB (cF U) U ?_)))))))))))
  refine bL 67 (v':= .bool true) U (fH5 (by decide)) (bR (kQ U (bS (bB (cX eM U (fun _ hm=>hm.blkI 2 U) U U) U (jX (cs':= [.int .i64 s0,.string s1,.int .i64 s2]) 0 eM U U U U (bZ U (bR (bM (bA ?_)))))))))
  refine eL 0 U eM U U U U fun wx hm=>?_
  have hg:=hm.g
  clear hm
  exact ⟨by simp [gB,gU,kT, *],hg⟩
 refine bN (bG (bD (bH (bS (bP U (bB (cF U) U (bL 67 (v':= .bool true) U (fH5 (by decide)) (bR (kQ U (bS (bB (cX eM U (fun _ hm=>hm.blkI 2 U) U U) U (jX (cs':= [.int .i64 s0,.string s1,.int .i64 s2]) 0 eM U U U U (bZ U (bR (bM (bA ?_))))))))))))))))
 refine eL 0 U eM U U U U fun wx hm=>?_
 have hg:=hm.g
 clear hm
 exact ⟨by simp [gB,gU,kT, *],hg⟩
def bW3 (x:Int):List Value:= [.int .i64 x]
theorem bV1 (x:Int):(bW3 x).length=1:=rfl
theorem gS {l:List Nat} (h:l.Nodup) {i j a b:Nat} (ha:l[i]?=some a) (hb:l[j]?=some b) (hij:i≠j):a≠b:=fun e=>by
 subst e
 obtain ⟨h1,e1⟩:=List.getElem?_eq_some_iff.1 ha
 obtain ⟨h2,e2⟩:=List.getElem?_eq_some_iff.1 hb
 rcases Nat.lt_or_ge i j with h3|h3
 ·exact List.pairwise_iff_getElem.1 h i j h1 h2 h3 (e1.trans e2.symm)
 ·exact List.pairwise_iff_getElem.1 h j i h2 h1 (by omega) (e2.trans e1.symm)
theorem qN.cells {w:World} (h:qN w) {k:Nat} (hk:isG k):∃c T f,w.heap[k]?=some (.cells c T f):=by
 obtain ⟨⟨T1,f1,h1⟩,⟨c2,T2,f2,m2,h2,_⟩,⟨T3,f3,t3,p3,h3⟩,T4,f4,t4,p4,h4⟩:=h
 rcases hk with rfl|rfl|rfl|rfl
 ·exact ⟨_,_,_,h1⟩
 ·exact ⟨_,_,_,h2⟩
 ·exact ⟨_,_,_,h3⟩
 ·exact ⟨_,_,_,h4⟩
theorem TxtO.mfar {N:Nat}:bL3 (TxtO N none):=fun M g w w' _ ⟨es,ck,hb⟩ h3 h=>⟨h.1.same fun k hk=>h3.block k (h.1.lt hk) (fun e=>by
 have e2:k=g:=by injection e
 subst e2
 obtain ⟨c,T,f,hc⟩:=h.1.cells hk
 rw [hb] at hc;cases hc),h.2⟩
def cT4 (σ:Os) (x:Ev):Int:=dI [dK ((σ.fa (x.veh,x.at_)).getD false) 6,dK (!gB ((σ.fs x.veh).getD pH) x) 11]
theorem qO {σ:Os} {x:Ev}:cT4 σ x=0↔bM2 σ x:=by
 unfold cT4 bM2
 cases h1:(σ.fa (x.veh,x.at_)).getD false <;> cases h2:gB ((σ.fs x.veh).getD pH) x <;> simp [dI,dK]
theorem rR (σ:Os) (u0 u2 u3 u4 u5 u6 u7 u8 u9 jK jL jM jN jO jP:Value) (go gv gs fT fQ fS fU gC:Nat) (cA:Option Addr) (cn cc:Nat) (lv rv:Value) (e0:Int) (e1 e2:ByteArray) (e3:Int) (e4:ByteArray) (N0:Nat) (w:World) (hb:Blk w go 119 [u0,.slice cA cn cc,u2,u3,u4,u5,u6,u7,u8,u9,jK,jL,jM,jN,jO,jP,.map (some gv),.map (some gs),.map (some fT),lv,.map (some fQ),.map (some fS),.map (some fU),.map (some gC),rv]) (hst:bV qU dN N0 fT (σ.fs) w) (hat:bV vB nD N0 fQ (σ.fa) w):
 Calls prog 211 #[.pointer (some ⟨go,0,none⟩),.agg #[.int .i64 e0,.string e1,.string e2,.int .i64 e3,.string e4]] w (nC w (cT4 σ ⟨e0,e1,e2,e3,e4⟩)):=by
 refine cV ⟨35,w,none, []⟩ func211 U ntmps211 U (gR (X:= [fL w.heap.size none go 119 [u0,.slice cA cn cc,u2,u3,u4,u5,u6,u7,u8,u9,jK,jL,jM,jN,jO,jP,.map (some gv),.map (some gs),.map (some fT),lv,.map (some fQ),.map (some fS),.map (some fU),.map (some gC),rv],bV qU dN N0 fT (σ.fs),bV vB nD N0 fQ (σ.fa)]) (cG hb.old (cG hst (cG hat cY))) (cH fL.lasts (cH bV.lasts2 (cH bV.lasts2 cZ)))) (bS ?_)
 obtain ⟨ss,hss⟩:∃z,z=(σ.fs e1).getD pH:=⟨_,rfl⟩
 obtain ⟨tw,htw⟩:∃z,z=(σ.fa (e1,e0)).getD false:=⟨_,rfl⟩
 obtain ⟨GB,hGB⟩:∃z,z=gB ss (⟨e0,e1,e2,e3,e4⟩:Ev):=⟨_,rfl⟩
 obtain ⟨CE,hCE⟩:∃z,z=cT4 σ ⟨e0,e1,e2,e3,e4⟩:=⟨_,rfl⟩
 have hCE2:CE=dI [dK tw 6,dK (!GB) 11]:=by rw [hCE,hGB,hss,htw];rfl
 rw [<-hCE]
 obtain ⟨s0,s1,s2⟩:=ss
 refine fG U U U fun g1=>bZ U (bR (bH (gd (fun wz=>Blk wz g1 74 [.int .i64 e0,.string e1,.string e2,.int .i64 e3,.string e4]/\(fL w.heap.size none go 119 [u0,.slice cA cn cc,u2,u3,u4,u5,u6,u7,u8,u9,jK,jL,jM,jN,jO,jP,.map (some gv),.map (some gs),.map (some fT),lv,.map (some fQ),.map (some fS),.map (some fU),.map (some gC),rv]) wz/\(bV qU dN N0 fT (σ.fs)) wz/\True) mixed (fun _ hm=>⟨hm.bl 0,hm.fa 0,hm.fa 1,trivial⟩) fun z=>wq 0 U (bJ U) (wq 1 U (bX U) (wq 2 U (bQ cE5 U U) (wq 3 U (cN (v:= .map (some fT)) eV0 U (fun _ hm=>(hm.2.1).2) U) (wq 4 U (bQ rD U U) (wq 5 U (cN fE U (fun _ hm=>hm.1) U) (wq 6 U (kV (enc:=qU) (ek:=dN) (s:=e1) (e:=138) pH kB (by kernel_rfl) (by kernel_rfl) U U (fun _ hm=>(hm.2.2.1))) (dG 14 (v':= .agg #[.int .i64 s0,.string s1,.int .i64 s2]) U (congrArg qU hss.symm) (wq 7 U (cX fR U (fun _ hm=>hm.1) U U) ?_)))))))))))
 refine kK [8,12] (by kernel_rfl) U ⟨⟨_,U,?_⟩,⟨_,U,?_⟩,trivial⟩
 ·refine cL (v:= .tuple #[.agg #[.int .i64 ((gU (⟨s0,s1,s2⟩:Sa) ⟨e0,e1,e2,e3,e4⟩).st),.string ((gU (⟨s0,s1,s2⟩:Sa) ⟨e0,e1,e2,e3,e4⟩).sta),.int .i64 ((gU (⟨s0,s1,s2⟩:Sa) ⟨e0,e1,e2,e3,e4⟩).since)],.bool GB]) U eG2 U U (fun wx hm=>(by have h:=yF s0 s1 s2 e0 e1 e2 e3 e4 wx;rw [hGB];exact h)) ?_
  refine bE (nw 15 511 (fun _ hm=>⟨hm.bl 0,hm.fa 0,hm.fa 1,trivial⟩) fun z=>wq 9 U (bJ U) (wq 10 U (cR U U) (wq 11 U (cR U U) (eC 12 U (dH cH4 U fun g2=>bE (nw 15 8191 (fun _ hm=>⟨hm.bl 1,hm.fa 0,hm.fa 1,trivial⟩) fun z=>eC 13 U (jX (cs':= [.int .i64 ((gU (⟨s0,s1,s2⟩:Sa) ⟨e0,e1,e2,e3,e4⟩).st),.string ((gU (⟨s0,s1,s2⟩:Sa) ⟨e0,e1,e2,e3,e4⟩).sta),.int .i64 ((gU (⟨s0,s1,s2⟩:Sa) ⟨e0,e1,e2,e3,e4⟩).since)]) 0 eM U U U U (bE (nw 15 16383 (fun _ hm=>⟨hm.bl 1,hm.fa 0,hm.fa 1,trivial⟩) fun z=>wq 14 U (cU U) (jH (bD (bH (gd (fun wz=>Blk wz g1 74 [.int .i64 e0,.string e1,.string e2,.int .i64 e3,.string e4]/\(fL w.heap.size none go 119 [u0,.slice cA cn cc,u2,u3,u4,u5,u6,u7,u8,u9,jK,jL,jM,jN,jO,jP,.map (some gv),.map (some gs),.map (some fT),lv,.map (some fQ),.map (some fS),.map (some fU),.map (some gC),rv]) wz/\(bV vB nD N0 fQ (σ.fa)) wz/\True) mixed (fun _ hm=>⟨hm.bl 1,hm.fa 0,hm.fa 2,trivial⟩) fun z=>wq 0 U (bJ U) (wq 1 U (bX U) (wq 2 U (bQ cF5 U U) (wq 3 U (cN (v:= .map (some fQ)) eW0 U (fun _ hm=>(hm.2.1).2) U) (wq 4 U (bQ rD U U) (wq 5 U (cN fE U (fun _ hm=>hm.1) U) (wq 6 U (bQ nE U U) (wq 7 U (cN fF U (fun _ hm=>hm.1) U) (wq 8 U (dJ (cs:= [.string e1,.int .i64 e0]) U (by kernel_rfl)) (wq 9 U (kV (enc:=vB) (ek:=nD) (s:=(e1,e0)) (e:=4) false dV0 (by kernel_rfl) (by kernel_rfl) U U (fun _ hm=>(hm.2.2.1))) (dG 28 (v':= .bool tw) U (fH5 htw.symm) (wq 11 U (bJ U) ?_))))))))))))))))))))))))
  refine wq 12 U (cF U) (eC 10 U (dA U qK U U (fun wx hm=>(eE _ _ wx)) (bE (nw 17 8191 (fun _ hm=>⟨hm.bl 1,hm.fa 0,hm.fa 2,trivial⟩) fun z=>eC 13 U (dA U qK U U (fun wx hm=>(eE _ _ wx)) (bE (nw 17 16383 (fun _ hm=>⟨hm.bl 1,hm.fa 0,hm.fa 2,trivial⟩) fun z=>eC 14 U (jF 48 [.int .i64 (dK tw 6),.int .i64 (dK (!GB) 11)] fun g3=>bE (nw 17 32767 (fun _ hm=>⟨hm.bl 2,hm.fa 0,hm.fa 2,trivial⟩) fun z=>eC 15 U (dA U wJ U U (fun wx hm=>(fJ [dK tw 6,dK (!GB) 11] _ _ _ wx (hm.blkI 0 U) (by simp))) (bE (nw 17 65535 (fun _ hm=>⟨hm.bl 2,hm.fa 0,hm.fa 2,trivial⟩) fun z=>wq 16 U (cU U) (jH (bD (bM ?_)))))))))))))))
  exact bK U U fun wx hm=>⟨bW hCE2.symm,hm.g⟩
 refine dH cH4 U fun g4=>bE (nw 15 4351 (fun _ hm=>⟨hm.bl 1,hm.fa 0,hm.fa 1,trivial⟩) fun z=>eC 8 U (cL (v:= .tuple #[.agg #[.int .i64 ((gU (⟨s0,s1,s2⟩:Sa) ⟨e0,e1,e2,e3,e4⟩).st),.string ((gU (⟨s0,s1,s2⟩:Sa) ⟨e0,e1,e2,e3,e4⟩).sta),.int .i64 ((gU (⟨s0,s1,s2⟩:Sa) ⟨e0,e1,e2,e3,e4⟩).since)],.bool GB]) U eG2 U U (fun wx hm=>(by have h:=yF s0 s1 s2 e0 e1 e2 e3 e4 wx;rw [hGB];exact h)) (bE (nw 15 4607 (fun _ hm=>⟨hm.bl 1,hm.fa 0,hm.fa 1,trivial⟩) fun z=>wq 9 U (bJ U) (wq 10 U (cR U U) (wq 11 U (cR U U) (eC 13 U (jX (cs':= [.int .i64 ((gU (⟨s0,s1,s2⟩:Sa) ⟨e0,e1,e2,e3,e4⟩).st),.string ((gU (⟨s0,s1,s2⟩:Sa) ⟨e0,e1,e2,e3,e4⟩).sta),.int .i64 ((gU (⟨s0,s1,s2⟩:Sa) ⟨e0,e1,e2,e3,e4⟩).since)]) 0 eM U U U U (bE (nw 15 16383 (fun _ hm=>⟨hm.bl 1,hm.fa 0,hm.fa 1,trivial⟩) fun z=>wq 14 U (cU U) (jH (bD (bH (gd (fun wz=>Blk wz g1 74 [.int .i64 e0,.string e1,.string e2,.int .i64 e3,.string e4]/\(fL w.heap.size none go 119 [u0,.slice cA cn cc,u2,u3,u4,u5,u6,u7,u8,u9,jK,jL,jM,jN,jO,jP,.map (some gv),.map (some gs),.map (some fT),lv,.map (some fQ),.map (some fS),.map (some fU),.map (some gC),rv]) wz/\(bV vB nD N0 fQ (σ.fa)) wz/\True) mixed (fun _ hm=>⟨hm.bl 1,hm.fa 0,hm.fa 2,trivial⟩) fun z=>wq 0 U (bJ U) (wq 1 U (bX U) (wq 2 U (bQ cF5 U U) (wq 3 U (cN (v:= .map (some fQ)) eW0 U (fun _ hm=>(hm.2.1).2) U) (wq 4 U (bQ rD U U) (wq 5 U (cN fE U (fun _ hm=>hm.1) U) (wq 6 U (bQ nE U U) (wq 7 U (cN fF U (fun _ hm=>hm.1) U) (wq 8 U (dJ (cs:= [.string e1,.int .i64 e0]) U (by kernel_rfl)) (wq 9 U (kV (enc:=vB) (ek:=nD) (s:=(e1,e0)) (e:=4) false dV0 (by kernel_rfl) (by kernel_rfl) U U (fun _ hm=>(hm.2.2.1))) (dG 28 (v':= .bool tw) U (fH5 htw.symm) ?_))))))))))))))))))))))))
 refine wq 11 U (bJ U) (wq 12 U (cF U) (eC 10 U (dA U qK U U (fun wx hm=>(eE _ _ wx)) (bE (nw 17 8191 (fun _ hm=>⟨hm.bl 1,hm.fa 0,hm.fa 2,trivial⟩) fun z=>eC 13 U (dA U qK U U (fun wx hm=>(eE _ _ wx)) (bE (nw 17 16383 (fun _ hm=>⟨hm.bl 1,hm.fa 0,hm.fa 2,trivial⟩) fun z=>eC 14 U (jF 48 [.int .i64 (dK tw 6),.int .i64 (dK (!GB) 11)] fun g5=>bE (nw 17 32767 (fun _ hm=>⟨hm.bl 2,hm.fa 0,hm.fa 2,trivial⟩) fun z=>eC 15 U (dA U wJ U U (fun wx hm=>(fJ [dK tw 6,dK (!GB) 11] _ _ _ wx (hm.blkI 0 U) (by simp))) (bE (nw 17 65535 (fun _ hm=>⟨hm.bl 2,hm.fa 0,hm.fa 2,trivial⟩) fun z=>wq 16 U (cU U) (jH (bD (bM ?_))))))))))))))))
 exact bK U U fun wx hm=>⟨bW hCE2.symm,hm.g⟩
theorem bQ5 (w0:World) (u0 u2 u3 u4 u5 u6 u7 u8 u9 jK jL jM jN jO jP:Value) (go gv gs fT fQ fS fU gC:Nat) (cA:Option Addr) (cn cc:Nat) (cl:List Cs) (V:ByteArray->Option ByteArray) (T:ByteArray->Option Bool) (rv:Value) (rn:Nat) (rx:List Value) (hd: [gv,gs,fT,fQ,fS,fU,gC].Nodup) (fp:ByteArray->Option Int) (σ:Os) (lv:Value) (e0:Int) (e1 e2:ByteArray) (e3:Int) (e4:ByteArray) (L1:List (Nat×TypeId×List Value)) (X1:List (World->Prop)) (hX1:∀A∈X1,bL3 A) (w:World) (hlg:σ.lg.length<=100000) (hm:gM ⟨0,w0,none, [68,9,3]⟩ (fun _=>True) ((go,119, [u0,.slice cA cn cc,u2,u3,u4,u5,u6,u7,u8,u9,jK,jL,jM,jN,jO,jP,.map (some gv),.map (some gs),.map (some fT),lv,.map (some fQ),.map (some fS),.map (some fU),.map (some gC),rv])::L1) [⟨lv,74,5,σ.lg.length,σ.lg.flatMap dP⟩,⟨rv,226,2,rn,rx⟩] ((bV vS dN w0.heap.size gv (V))::(bV vB dN w0.heap.size gs (T))::(bV qU dN w0.heap.size fT (σ.fs))::(bV vB nD w0.heap.size fQ (σ.fa))::(bV qA dN w0.heap.size fS (σ.fb))::(bV nH dN w0.heap.size fU (σ.fh))::(bV vI dN w0.heap.size gC (fp))::(gD 68 σ.fh)::(bU dV 2 84 w0.heap.size none cA cn cl)::(TxtO w0.heap.size none)::X1) w):
 Calls prog 212 #[.pointer (some ⟨go,0,none⟩),.agg #[.int .i64 e0,.string e1,.string e2,.int .i64 e3,.string e4]] w (fun e w'=>∃lv',e=.returned (.tuple #[])/\gM ⟨0,w0,none, [68,9,3]⟩ (fun _=>True) ((go,119, [u0,.slice cA cn cc,u2,u3,u4,u5,u6,u7,u8,u9,jK,jL,jM,jN,jO,jP,.map (some gv),.map (some gs),.map (some fT),lv',.map (some fQ),.map (some fS),.map (some fU),.map (some gC),rv])::L1) [⟨lv',74,5,(gL σ ⟨e0,e1,e2,e3,e4⟩).lg.length,(gL σ ⟨e0,e1,e2,e3,e4⟩).lg.flatMap dP⟩,⟨rv,226,2,rn,rx⟩] ((bV vS dN w0.heap.size gv (V))::(bV vB dN w0.heap.size gs (T))::(bV qU dN w0.heap.size fT ((gL σ ⟨e0,e1,e2,e3,e4⟩).fs))::(bV vB nD w0.heap.size fQ ((gL σ ⟨e0,e1,e2,e3,e4⟩).fa))::(bV qA dN w0.heap.size fS ((gL σ ⟨e0,e1,e2,e3,e4⟩).fb))::(bV nH dN w0.heap.size fU ((gL σ ⟨e0,e1,e2,e3,e4⟩).fh))::(bV vI dN w0.heap.size gC (fp))::(gD 68 (gL σ ⟨e0,e1,e2,e3,e4⟩).fh)::(bU dV 2 84 w0.heap.size none cA cn cl)::(TxtO w0.heap.size none)::X1) w'):=by
 refine cV ⟨41,w0,none, [68,9,3]⟩ func212 U ntmps212 U hm.cy (bS ?_)
 obtain ⟨ss,hss⟩:∃z,z=(σ.fs e1).getD pH:=⟨_,rfl⟩
 obtain ⟨tau,htau⟩:∃z,z=gL σ ⟨e0,e1,e2,e3,e4⟩:=⟨_,rfl⟩
 have ht1:tau.fs=fP σ.fs e1 (gU ss ⟨e0,e1,e2,e3,e4⟩):=by rw [htau,hss];rfl
 have ht2:tau.fa=fP σ.fa (e1,e0) true:=by rw [htau];rfl
 have ht3:tau.lg=σ.lg++ [⟨e0,e1,e2,e3,e4⟩]:=by rw [htau];rfl
 have ht4:tau.fb=σ.fb:=by rw [htau];rfl
 have ht5:tau.fh=σ.fh:=by rw [htau];rfl
 rw [<-htau]
 obtain ⟨s0,s1,s2⟩:=ss
 obtain ⟨q0,hq0⟩:∃z,z=(gU (⟨s0,s1,s2⟩:Sa) ⟨e0,e1,e2,e3,e4⟩):=⟨_,rfl⟩
 rw [<-hq0] at ht1
 obtain ⟨q0,q1,q2⟩:=q0
 refine fG U U U fun g1=>bR (bH (gd (fun wz=>Blk wz g1 74 [.int .i64 e0,.string e1,.string e2,.int .i64 e3,.string e4]/\Blk wz go 119 [u0,.slice cA cn cc,u2,u3,u4,u5,u6,u7,u8,u9,jK,jL,jM,jN,jO,jP,.map (some gv),.map (some gs),.map (some fT),lv,.map (some fQ),.map (some fS),.map (some fU),.map (some gC),rv]/\True) mixed (fun _ hm=>⟨hm.bl 0,hm.bl 1,trivial⟩) fun z=>wq 0 U (bJ U) (wq 1 U (bX U) (wq 2 U (bQ cE5 U U) (wq 3 U (cN eV0 U (fun _ hm=>hm.2.1) U) (wq 4 U (bQ rD U U) (wq 5 U (cN fE U (fun _ hm=>hm.1) U) (wq 6 U (bJ U) (wq 7 U (bX U) (wq 8 U (bQ cE5 U U) (wq 9 U (cN eV0 U (fun _ hm=>hm.2.1) U) (wq 10 U (bQ rD U U) (wq 11 U (cN fE U (fun _ hm=>hm.1) U) (wq 13 U (cX fR U (fun _ hm=>hm.1) U U) (eC 12 U (bB (kV (enc:=qU) (ek:=dN) (s:=e1) (e:=138) pH kB (by kernel_rfl) (by kernel_rfl) U U (fun _ hm=>(hm.fact 2 U))) U (bL 17 (v':= .agg #[.int .i64 s0,.string s1,.int .i64 s2]) U (congrArg qU hss.symm) (bE (nw 19 16383 (fun _ hm=>⟨hm.bl 0,hm.bl 1,trivial⟩) fun z=>eC 14 U (cL (v:= .tuple #[.agg #[.int .i64 q0,.string q1,.int .i64 q2],.bool (gB (⟨s0,s1,s2⟩:Sa) ⟨e0,e1,e2,e3,e4⟩)]) U eG2 U U (fun wx hm=>(by have h:=yF s0 s1 s2 e0 e1 e2 e3 e4 wx;rw [<-hq0] at h;exact h)) (bE (nw 19 32767 (fun _ hm=>⟨hm.bl 0,hm.bl 1,trivial⟩) fun z=>wq 15 U (bJ U) (wq 16 U (cR U U) (wq 17 U (cR U U) (eC 18 U ?_)))))))))))))))))))))))))
 refine kO (enc:=qU) (ek:=dN) (s:=e1) (v:=⟨q0,q1,q2⟩) (e:=138) (X':=((bV vS dN w0.heap.size gv (V))::(bV vB dN w0.heap.size gs (T))::(bV vB nD w0.heap.size fQ (σ.fa))::(bV qA dN w0.heap.size fS (σ.fb))::(bV nH dN w0.heap.size fU (σ.fh))::(bV vI dN w0.heap.size gC (fp))::(gD 68 σ.fh)::(bU dV 2 84 w0.heap.size none cA cn cl)::(TxtO w0.heap.size none)::X1)) 2 kB (by kernel_rfl) U U U U (cP (i:=0) (bV.farK (gS hd (i:=0) (j:=2) U U (by decide))) U (cP (i:=1) (bV.farK (gS hd (i:=1) (j:=2) U U (by decide))) U (cP (i:=3) (bV.farK (gS hd (i:=3) (j:=2) U U (by decide))) U (cP (i:=4) (bV.farK (gS hd (i:=4) (j:=2) U U (by decide))) U (cP (i:=5) (bV.farK (gS hd (i:=5) (j:=2) U U (by decide))) U (cP (i:=6) (bV.farK (gS hd (i:=6) (j:=2) U U (by decide))) U (cP (i:=7) (gD.mfar).far U (cP (i:=8) (bU.mfar).far U (cP (i:=9) (TxtO.mfar).far U (cE3 10 U hX1)))))))))) (bE (nw 19 524287 (fun _ hm=>⟨hm.bl 0,hm.bl 1,trivial⟩) fun z=>jH (bD (bH (gd (fun wz=>Blk wz g1 74 [.int .i64 e0,.string e1,.string e2,.int .i64 e3,.string e4]/\Blk wz go 119 [u0,.slice cA cn cc,u2,u3,u4,u5,u6,u7,u8,u9,jK,jL,jM,jN,jO,jP,.map (some gv),.map (some gs),.map (some fT),lv,.map (some fQ),.map (some fS),.map (some fU),.map (some gC),rv]/\True) mixed (fun _ hm=>⟨hm.bl 0,hm.bl 1,trivial⟩) fun z=>wq 0 U (bJ U) (wq 1 U (bX U) (wq 2 U (bQ cF5 U U) (wq 3 U (cN eW0 U (fun _ hm=>hm.2.1) U) (wq 4 U (bQ rD U U) (wq 5 U (cN fE U (fun _ hm=>hm.1) U) (wq 6 U (bQ nE U U) (wq 7 U (cN fF U (fun _ hm=>hm.1) U) (wq 8 U (dJ (cs:= [.string e1,.int .i64 e0]) U (by kernel_rfl)) (eC 9 U (kO (enc:=vB) (ek:=nD) (s:=(e1,e0)) (v:=true) (e:=4) (X':=((bV qU dN w0.heap.size fT (fP (σ.fs) e1 (⟨q0,q1,q2⟩)))::(bV vS dN w0.heap.size gv (V))::(bV vB dN w0.heap.size gs (T))::(bV qA dN w0.heap.size fS (σ.fb))::(bV nH dN w0.heap.size fU (σ.fh))::(bV vI dN w0.heap.size gC (fp))::(gD 68 σ.fh)::(bU dV 2 84 w0.heap.size none cA cn cl)::(TxtO w0.heap.size none)::X1)) 3 dV0 (by kernel_rfl) U U U U (cP (i:=0) (bV.farK (gS hd (i:=2) (j:=3) U U (by decide))) U (cP (i:=1) (bV.farK (gS hd (i:=0) (j:=3) U U (by decide))) U (cP (i:=2) (bV.farK (gS hd (i:=1) (j:=3) U U (by decide))) U (cP (i:=4) (bV.farK (gS hd (i:=4) (j:=3) U U (by decide))) U (cP (i:=5) (bV.farK (gS hd (i:=5) (j:=3) U U (by decide))) U (cP (i:=6) (bV.farK (gS hd (i:=6) (j:=3) U U (by decide))) U (cP (i:=7) (gD.mfar).far U (cP (i:=8) (bU.mfar).far U (cP (i:=9) (TxtO.mfar).far U (cE3 10 U hX1)))))))))) (bE (nw 10 1023 (fun _ hm=>⟨hm.bl 0,hm.bl 1,trivial⟩) fun z=>jH (bD (gd (fun wz=>Blk wz g1 74 [.int .i64 e0,.string e1,.string e2,.int .i64 e3,.string e4]/\True) mixed (fun _ hm=>⟨hm.bl 0,trivial⟩) fun z=>wq 0 U (bJ U) (wq 1 U (bJ U) (wq 2 U (bX U) (wq 3 U (bQ bU4 U U) (wq 5 U (cX fR U (fun _ hm=>hm.1) U U) ?_)))))))))))))))))))))))
 refine kK [4,6] (by kernel_rfl) U ⟨⟨_,U,?_⟩,⟨_,U,?_⟩,trivial⟩
 ·refine eI dJ6 1 U U U (bE ?_)
  refine nw 11 63 (fun _ hm=>⟨hm.bl 0,trivial⟩) fun z=>eC 6 U (jF 74 [.int .i64 e0,.string e1,.string e2,.int .i64 e3,.string e4] fun g2=>bE (nw 11 127 (fun _ hm=>⟨hm.bl 1,trivial⟩) fun z=>eC 7 U (eF (news:= [.int .i64 e0,.string e1,.string e2,.int .i64 e3,.string e4]) 0 0 eC9 U U U U U U U (by omega) (by unfold maxLen;omega) U U fun qM hv2=>?_)))
  refine eD (R:=∃A cc,qM= .slice A (σ.lg.length+1) cc) (fun wx hm=>dS (hm.ownI 0 U)) ?_
  rintro ⟨lA,lc,rfl⟩
  refine bE (nw 11 255 (fun _ hm=>⟨hm.bl 1,trivial⟩) fun z=>wq 8 U (bX U) (wq 9 U (bQ bU4 U U) (eC 10 U (jJ 2 dJ6 U U U U U U (bE (nw 11 2047 (fun _ hm=>⟨hm.bl 1,trivial⟩) fun z=>jH ?_))))))
  have hxs:σ.lg.flatMap dP++([.int .i64 e0,.string e1,.string e2,.int .i64 e3,.string e4]:List Value)=tau.lg.flatMap dP:=by rw [ht3];simp [dP]
  have hxn:σ.lg.length+1=tau.lg.length:=by rw [ht3];simp
  refine jD U fun wx hm=>?_
  refine ⟨(Value.slice lA (σ.lg.length+1) lc),U,?_⟩
  rw [ht1,ht2,ht4,ht5,<-hxn,<-hxs]
  have h8:gM _ _ ((g2,74, [.int .i64 e0,.string e1,.string e2,.int .i64 e3,.string e4])::(g1,74, [.int .i64 e0,.string e1,.string e2,.int .i64 e3,.string e4])::(go,119, [u0,.slice cA cn cc,u2,u3,u4,u5,u6,u7,u8,u9,jK,jL,jM,jN,jO,jP,.map (some gv),.map (some gs),.map (some fT),.slice lA (σ.lg.length+1) lc,.map (some fQ),.map (some fS),.map (some fU),.map (some gC),rv])::L1) [⟨.slice lA (σ.lg.length+1) lc,74,5,σ.lg.length+1,σ.lg.flatMap dP++([.int .i64 e0,.string e1,.string e2,.int .i64 e3,.string e4]:List Value)⟩,⟨rv,226,2,rn,rx⟩] _ wx:=hm
  exact (h8.tailL.tailL.subX (dQ 2 U (dQ 3 U (dQ 1 U (dQ 0 U (dQ 4 U (dQ 5 U (dQ 6 U (dQ 7 U (dQ 8 U (dQ 9 U (cB4 10 U)))))))))))).cy
 refine jF 74 [.int .i64 e0,.string e1,.string e2,.int .i64 e3,.string e4] fun g3=>bE (nw 11 111 (fun _ hm=>⟨hm.bl 1,trivial⟩) fun z=>eC 4 U (eI dJ6 2 U U U (bE (nw 11 127 (fun _ hm=>⟨hm.bl 1,trivial⟩) fun z=>eC 7 U (eF (news:= [.int .i64 e0,.string e1,.string e2,.int .i64 e3,.string e4]) 0 0 eC9 U U U U U U U (by omega) (by unfold maxLen;omega) U U fun qM hv2=>?_)))))
 refine eD (R:=∃A cc,qM= .slice A (σ.lg.length+1) cc) (fun wx hm=>dS (hm.ownI 0 U)) ?_
 rintro ⟨lA,lc,rfl⟩
 refine bE (nw 11 255 (fun _ hm=>⟨hm.bl 1,trivial⟩) fun z=>wq 8 U (bX U) (wq 9 U (bQ bU4 U U) (eC 10 U (jJ 2 dJ6 U U U U U U (bE (nw 11 2047 (fun _ hm=>⟨hm.bl 1,trivial⟩) fun z=>jH ?_))))))
 have hxs:σ.lg.flatMap dP++([.int .i64 e0,.string e1,.string e2,.int .i64 e3,.string e4]:List Value)=tau.lg.flatMap dP:=by rw [ht3];simp [dP]
 have hxn:σ.lg.length+1=tau.lg.length:=by rw [ht3];simp
 refine jD U fun wx hm=>?_
 refine ⟨(Value.slice lA (σ.lg.length+1) lc),U,?_⟩
 rw [ht1,ht2,ht4,ht5,<-hxn,<-hxs]
 have h8:gM _ _ ((g3,74, [.int .i64 e0,.string e1,.string e2,.int .i64 e3,.string e4])::(g1,74, [.int .i64 e0,.string e1,.string e2,.int .i64 e3,.string e4])::(go,119, [u0,.slice cA cn cc,u2,u3,u4,u5,u6,u7,u8,u9,jK,jL,jM,jN,jO,jP,.map (some gv),.map (some gs),.map (some fT),.slice lA (σ.lg.length+1) lc,.map (some fQ),.map (some fS),.map (some fU),.map (some gC),rv])::L1) [⟨.slice lA (σ.lg.length+1) lc,74,5,σ.lg.length+1,σ.lg.flatMap dP++([.int .i64 e0,.string e1,.string e2,.int .i64 e3,.string e4]:List Value)⟩,⟨rv,226,2,rn,rx⟩] _ wx:=hm
 exact (h8.tailL.tailL.subX (dQ 2 U (dQ 3 U (dQ 1 U (dQ 0 U (dQ 4 U (dQ 5 U (dQ 6 U (dQ 7 U (dQ 8 U (dQ 9 U (cB4 10 U)))))))))))).cy
theorem pU:∀{l:List Int},dI l=0->∀e∈l,e=0
 | [],_,_,h=>by cases h
 |x::r,h,e,he=>by
  simp only [dI] at h
  by_cases hx:x=0
  ·rw [if_pos hx] at h
   rcases List.mem_cons.1 he with rfl|he
   ·exact hx
   ·exact pU h e he
  ·rw [if_neg hx] at h;exact absurd h hx
def dA5 (iv ist ilv ito ieq:Bool) (CE:Int):Int:=dI [dK (!iv|| !ist||(ilv&& !ito)) 8,dK (ilv&&ieq) 14,CE]
theorem dM8 {iv ist ilv ito ieq:Bool} {CE:Int} (h:dA5 iv ist ilv ito ieq CE=0):iv=true/\ist=true/\(ilv=true->ito=true/\ieq=false)/\CE=0:=by
 unfold dA5 at h
 by_cases hc:CE=0
 ·subst hc
  revert h
  cases iv <;> cases ist <;> cases ilv <;> cases ito <;> cases ieq <;> decide
 ·exfalso
  have h3:=pU h CE (by simp)
  exact hc h3
theorem eR2 {iv ist ilv ito ieq:Bool} {CE:Int} (h1:iv=true) (h2:ist=true) (h3:ilv=true->ito=true/\ieq=false) (h4:CE=0):dA5 iv ist ilv ito ieq CE=0:=by
 subst h1 h2 h4
 revert h3
 cases ilv <;> cases ito <;> cases ieq <;> decide
theorem bD0 {σ:Os} {x:Ev}:dJ4 (fY σ) x↔bM2 σ x:=Iff.rfl
theorem cD3 (w0:World) (u0 u2 u3 u4 u5 u6 u7 u8 u9 jK jL jM jN jO jP:Value) (go gv gs fT fQ fS fU gC:Nat) (cA:Option Addr) (cn cc:Nat) (cl:List Cs) (V:ByteArray->Option ByteArray) (T:ByteArray->Option Bool) (rv:Value) (rn:Nat) (rx:List Value) (hd: [gv,gs,fT,fQ,fS,fU,gC].Nodup) (ck:Bk->Prop) (fp:ByteArray->Option Int) (σ:Os) (lv:Value) (e0:Int) (e1 e2:ByteArray) (e3:Int) (e4:ByteArray) (w:World) (hlg:σ.lg.length<=100000) (hok:cJ4 ⟨e0,e1,e2,e3,e4⟩) (hkd:e3∈([1,4,5,6,7,8]:List Int)) (hne:e3≠6->e4=⟨#[]⟩) (hm:gM ⟨0,w0,none, [68,9,3]⟩ (fun _=>True) [(go,119, [u0,.slice cA cn cc,u2,u3,u4,u5,u6,u7,u8,u9,jK,jL,jM,jN,jO,jP,.map (some gv),.map (some gs),.map (some fT),lv,.map (some fQ),.map (some fS),.map (some fU),.map (some gC),rv])] [⟨lv,74,5,σ.lg.length,σ.lg.flatMap dP⟩,⟨rv,226,2,rn,rx⟩] [bV vS dN w0.heap.size gv (V),bV vB dN w0.heap.size gs (T),bV qU dN w0.heap.size fT (σ.fs),bV vB nD w0.heap.size fQ (σ.fa),bV qA dN w0.heap.size fS (σ.fb),bV nH dN w0.heap.size fU (σ.fh),bV vI dN w0.heap.size gC (fp),gD 68 σ.fh,bU dV 2 84 w0.heap.size none cA cn cl,TxtO w0.heap.size none] w):
 Calls prog 171 #[.pointer (some ⟨go,0,none⟩),.agg #[.int .i64 e0,.string e1,.string e2,.int .i64 e3,.string e4]] w (fun e w'=>∃lv' σ' E,e=.returned (.int .i64 E)/\(kU V T ck e0 σ σ'/\fY σ'=bN6 V T (fY σ) ⟨e0,e1,e2,e3,e4⟩)/\gM ⟨0,w0,none, [68,9,3]⟩ (fun _=>True) [(go,119, [u0,.slice cA cn cc,u2,u3,u4,u5,u6,u7,u8,u9,jK,jL,jM,jN,jO,jP,.map (some gv),.map (some gs),.map (some fT),lv',.map (some fQ),.map (some fS),.map (some fU),.map (some gC),rv])] [⟨lv',74,5,σ'.lg.length,σ'.lg.flatMap dP⟩,⟨rv,226,2,rn,rx⟩] [bV vS dN w0.heap.size gv (V),bV vB dN w0.heap.size gs (T),bV qU dN w0.heap.size fT (σ'.fs),bV vB nD w0.heap.size fQ (σ'.fa),bV qA dN w0.heap.size fS (σ'.fb),bV nH dN w0.heap.size fU (σ'.fh),bV vI dN w0.heap.size gC (fp),gD 68 σ'.fh,bU dV 2 84 w0.heap.size none cA cn cl,TxtO w0.heap.size none] w'):=by
 refine cV ⟨68,w0,none, [68,9,3]⟩ func171 U ntmps171 U hm.cy (bS ?_)
 obtain ⟨iv,hiv⟩:∃z,z=(V e1).isSome:=⟨_,rfl⟩
 obtain ⟨ist,bQ2⟩:∃z,z=(T e2).getD false:=⟨_,rfl⟩
 obtain ⟨ito,hito⟩:∃z,z=(T e4).getD false:=⟨_,rfl⟩
 obtain ⟨ilv,hilv⟩:∃z,z=decide (e3=6):=⟨_,rfl⟩
 obtain ⟨ieq,hieq⟩:∃z,z=(e4.toList==e2.toList):=⟨_,rfl⟩
 obtain ⟨CE,hCE⟩:∃z,z=cT4 σ ⟨e0,e1,e2,e3,e4⟩:=⟨_,rfl⟩
 obtain ⟨EE,zX⟩:∃z,z=dA5 iv ist ilv ito ieq CE:=⟨_,rfl⟩
 unfold dA5 at zX
 refine fG U U U fun g1=>bZ U (bR (bH (gd (fun wz=>Blk wz g1 74 [.int .i64 e0,.string e1,.string e2,.int .i64 e3,.string e4]/\Blk wz go 119 [u0,.slice cA cn cc,u2,u3,u4,u5,u6,u7,u8,u9,jK,jL,jM,jN,jO,jP,.map (some gv),.map (some gs),.map (some fT),lv,.map (some fQ),.map (some fS),.map (some fU),.map (some gC),rv]/\(bV vS dN w0.heap.size gv (V)) wz/\True) mixed (fun _ hm=>⟨hm.bl 0,hm.bl 1,hm.fa 0,trivial⟩) fun z=>wq 0 U (bJ U) (wq 1 U (bX U) (wq 2 U (bQ bF9 U U) (wq 3 U (cN dZ3 U (fun _ hm=>hm.2.1) U) (wq 4 U (bQ rD U U) (wq 5 U (cN fE U (fun _ hm=>hm.1) U) (wq 6 U (gW (enc:=vS) (ek:=dN) (s:=e1) (e:=9) (⟨#[]⟩:ByteArray) kB (by kernel_rfl) (by kernel_rfl) U U (fun _ hm=>(hm.2.2.1))) (wq 7 U (bJ U) (wq 8 U (cR U U) (wq 9 U (cR U U) (dG 18 (v':= .bool iv) U (fH5 hiv.symm) (wq 10 U (cU U) (wq 11 U (cU U) (jH (bD (bS (dW cG0 U U (eI fF 0 U U U (bB (eN U U) U (bL 21 (v':= .bool ilv) U (fH5 hilv.symm) (bZ U (bR (bH ?_)))))))))))))))))))))))))
 refine pC (γ:=Int) (I:=(fun (E:Int)=>E=EE)) (S':=(fun (E:Int)=> [(0,.pointer (some ⟨go,0,none⟩)),(3,.pointer (some ⟨g1,0,none⟩)),(4,.int .i64 0),(8,.int .i64 E)])) (K':=(fun (E:Int)=>fun _=>True)) (L':=(fun (E:Int)=> [(g1,74, [.int .i64 e0,.string e1,.string e2,.int .i64 e3,.string e4]),(go,119, [u0,.slice cA cn cc,u2,u3,u4,u5,u6,u7,u8,u9,jK,jL,jM,jN,jO,jP,.map (some gv),.map (some gs),.map (some fT),lv,.map (some fQ),.map (some fS),.map (some fU),.map (some gC),rv])])) (O':=(fun (E:Int)=> [⟨lv,74,5,σ.lg.length,σ.lg.flatMap dP⟩,⟨rv,226,2,rn,rx⟩])) (X':=(fun (E:Int)=> [bV vS dN w0.heap.size gv (V),bV vB dN w0.heap.size gs (T),bV qU dN w0.heap.size fT (σ.fs),bV vB nD w0.heap.size fQ (σ.fa),bV qA dN w0.heap.size fS (σ.fb),bV nH dN w0.heap.size fU (σ.fh),bV vI dN w0.heap.size gC (fp),gD 68 σ.fh,bU dV 2 84 w0.heap.size none cA cn cl,TxtO w0.heap.size none])) ?_ ?_
 ·rcases Bool.eq_false_or_eq_true ilv with hl|hl
  ·refine gJ 7 U (fH5 hl) ?_
   refine gd (fun wz=>Blk wz g1 74 [.int .i64 e0,.string e1,.string e2,.int .i64 e3,.string e4]/\Blk wz go 119 [u0,.slice cA cn cc,u2,u3,u4,u5,u6,u7,u8,u9,jK,jL,jM,jN,jO,jP,.map (some gv),.map (some gs),.map (some fT),lv,.map (some fQ),.map (some fS),.map (some fU),.map (some gC),rv]/\(bV vB dN w0.heap.size gs (T)) wz/\True) mixed (fun _ hm=>⟨hm.bl 0,hm.bl 1,hm.fa 1,trivial⟩) fun z=>wq 0 U (bJ U) (wq 1 U (cF U) (wq 2 U (bJ U) ?_))
   rcases Bool.eq_false_or_eq_true (!iv) with hb2|hb2
   ·refine dG 24 U (fH5 hb2) ?_
    refine fC 3 U (fC 4 U (fC 5 U (fC 6 U (fC 7 U (fC 8 U (fC 9 U (fC 10 U (wq 11 U (fD U U) (wq 12 U (bJ U) (fC 13 U (fC 14 U (rQ 15 U (rQ 16 U (rQ 17 U (rQ 18 U (rQ 19 U (rQ 20 U (rQ 21 U (rQ 22 U (fC 23 U (wq 24 U (fD U U) (wq 26 U (bJ U) (wq 35 U (bJ U) (wq 36 U (cX fR U (fun _ hm=>hm.1) U U) (eC 25 U (dA U qK U U (fun wx hm=>(eE _ _ wx)) (bE (nw 41 103213432831 (fun _ hm=>⟨hm.bl 0,hm.bl 1,hm.fa 1,trivial⟩) fun z=>wq 27 U (bJ U) ?_))))))))))))))))))))))))))))
    refine fI 28 U (bQ uL U U) (fI 29 U (cN fE U (fun _ hm=>hm.1) U) (fI 30 U (bQ vD U U) (fI 31 U (cN fE U (fun _ hm=>hm.1) U) (fI 32 U (eR U U) (dG 54 (v':= .bool ieq) U (fH5 hieq.symm) (wq 33 U (fD U U) (eC 34 U (dA U qK U U (fun wx hm=>(eE _ _ wx)) (bE (nw 41 137438953471 (fun _ hm=>⟨hm.bl 0,hm.bl 1,hm.fa 1,trivial⟩) fun z=>eC 37 U (cL (v:= .int .i64 CE) U bE0 U U (fun wx hm=>(by rw [hCE];exact (rR σ u0 u2 u3 u4 u5 u6 u7 u8 u9 jK jL jM jN jO jP go gv gs fT fQ fS fU gC cA cn cc lv rv e0 e1 e2 e3 e4 _ wx (hm.blkI 1 rfl) (hm.fact 2 rfl) (hm.fact 3 rfl)))) (bE (nw 41 274877906943 (fun _ hm=>⟨hm.bl 0,hm.bl 1,hm.fa 1,trivial⟩) fun z=>eC 38 U (jF 48 [.int .i64 (dK true 8),.int .i64 (dK ieq 14),.int .i64 CE] fun g3=>bE (nw 41 549755813887 (fun _ hm=>⟨hm.bl 1,hm.bl 2,hm.fa 1,trivial⟩) fun z=>eC 39 U (dA U wJ U U (fun wx hm=>(fJ [dK true 8,dK ieq 14,CE] _ _ _ wx (hm.blkI 0 U) (by simp))) (bE (nw 41 1099511627775 (fun _ hm=>⟨hm.bl 1,hm.bl 2,hm.fa 1,trivial⟩) fun z=>wq 40 U (cU U) (jH ?_)))))))))))))))))))
    exact fK (dI [dK true 8,dK ieq 14,CE]) (by rw [zX,hl,hb2];rfl) ⟨U,U,U,U,trivial⟩ (fun _ hm=>hm.pick [1,2] [0,1] [0,1,2,3,4,5,6,7,8,9] U U)
   refine dG 24 U (fH5 hb2) (fI 3 U (bJ U) (fI 4 U (bX U) (fI 5 U (bQ yB U U) (fI 6 U (cN cI1 U (fun _ hm=>hm.2.1) U) (fI 7 U (bQ vD U U) (fI 8 U (cN fE U (fun _ hm=>hm.1) U) (fI 9 U (kV (enc:=vB) (ek:=dN) (s:=e2) (e:=4) false kB (by kernel_rfl) (by kernel_rfl) U U (fun _ hm=>(hm.2.2.1))) (dG 31 (v':= .bool ist) U (fH5 bQ2.symm) (fI 10 U (cF U) (wq 11 U (fN U U) (wq 12 U (bJ U) ?_)))))))))))
   rcases Bool.eq_false_or_eq_true (!ist) with hb4|hb4
   ·refine dG 34 U (fH5 hb4) ?_
    refine fC 13 U (fC 14 U (rQ 15 U (rQ 16 U (rQ 17 U (rQ 18 U (rQ 19 U (rQ 20 U (rQ 21 U (rQ 22 U (fC 23 U (wq 24 U (fD U U) (wq 26 U (bJ U) (wq 35 U (bJ U) (wq 36 U (cX fR U (fun _ hm=>hm.1) U U) (eC 25 U (dA U qK U U (fun wx hm=>(eE _ _ wx)) (bE (nw 41 103213432831 (fun _ hm=>⟨hm.bl 0,hm.bl 1,hm.fa 1,trivial⟩) fun z=>wq 27 U (bJ U) (fI 28 U (bQ uL U U) (fI 29 U (cN fE U (fun _ hm=>hm.1) U) (fI 30 U (bQ vD U U) (fI 31 U (cN fE U (fun _ hm=>hm.1) U) (fI 32 U (eR U U) (dG 54 (v':= .bool ieq) U (fH5 hieq.symm) (wq 33 U (fD U U) (eC 34 U (dA U qK U U (fun wx hm=>(eE _ _ wx)) (bE ?_))))))))))))))))))))))))))))
    refine nw 41 137438953471 (fun _ hm=>⟨hm.bl 0,hm.bl 1,hm.fa 1,trivial⟩) fun z=>eC 37 U (cL (v:= .int .i64 CE) U bE0 U U (fun wx hm=>(by rw [hCE];exact (rR σ u0 u2 u3 u4 u5 u6 u7 u8 u9 jK jL jM jN jO jP go gv gs fT fQ fS fU gC cA cn cc lv rv e0 e1 e2 e3 e4 _ wx (hm.blkI 1 rfl) (hm.fact 2 rfl) (hm.fact 3 rfl)))) (bE (nw 41 274877906943 (fun _ hm=>⟨hm.bl 0,hm.bl 1,hm.fa 1,trivial⟩) fun z=>eC 38 U (jF 48 [.int .i64 (dK true 8),.int .i64 (dK ieq 14),.int .i64 CE] fun g5=>bE (nw 41 549755813887 (fun _ hm=>⟨hm.bl 1,hm.bl 2,hm.fa 1,trivial⟩) fun z=>eC 39 U (dA U wJ U U (fun wx hm=>(fJ [dK true 8,dK ieq 14,CE] _ _ _ wx (hm.blkI 0 U) (by simp))) (bE (nw 41 1099511627775 (fun _ hm=>⟨hm.bl 1,hm.bl 2,hm.fa 1,trivial⟩) fun z=>wq 40 U (cU U) (jH ?_)))))))))
    exact fK (dI [dK true 8,dK ieq 14,CE]) (by rw [zX,hl,hb2,hb4];rfl) ⟨U,U,U,U,trivial⟩ (fun _ hm=>hm.pick [1,2] [0,1] [0,1,2,3,4,5,6,7,8,9] U U)
   refine dG 34 U (fH5 hb4) (fI 13 U (bJ U) (fI 14 U (bJ U) (fI 15 U (bJ U) (fI 16 U (bX U) (fI 17 U (bQ yB U U) (fI 18 U (cN cI1 U (fun _ hm=>hm.2.1) U) (fI 19 U (bQ uL U U) (fI 20 U (cN fE U (fun _ hm=>hm.1) U) (fI 21 U (kV (enc:=vB) (ek:=dN) (s:=e4) (e:=4) false kB (by kernel_rfl) (by kernel_rfl) U U (fun _ hm=>(hm.2.2.1))) (dG 43 (v':= .bool ito) U (fH5 hito.symm) (fI 22 U (cF U) (fI 23 U (fD U U) (wq 24 U (fN U U) (wq 26 U (bJ U) (wq 35 U (bJ U) (wq 36 U (cX fR U (fun _ hm=>hm.1) U U) (eC 25 U (dA U qK U U (fun wx hm=>(eE _ _ wx)) (bE (nw 41 103213432831 (fun _ hm=>⟨hm.bl 0,hm.bl 1,hm.fa 1,trivial⟩) fun z=>wq 27 U (bJ U) (fI 28 U (bQ uL U U) (fI 29 U (cN fE U (fun _ hm=>hm.1) U) (fI 30 U (bQ vD U U) (fI 31 U (cN fE U (fun _ hm=>hm.1) U) (fI 32 U (eR U U) (dG 54 (v':= .bool ieq) U (fH5 hieq.symm) (wq 33 U (fD U U) (eC 34 U ?_))))))))))))))))))))))))))))
   refine dA U qK U U (fun wx hm=>(eE _ _ wx)) (bE (nw 41 137438953471 (fun _ hm=>⟨hm.bl 0,hm.bl 1,hm.fa 1,trivial⟩) fun z=>eC 37 U (cL (v:= .int .i64 CE) U bE0 U U (fun wx hm=>(by rw [hCE];exact (rR σ u0 u2 u3 u4 u5 u6 u7 u8 u9 jK jL jM jN jO jP go gv gs fT fQ fS fU gC cA cn cc lv rv e0 e1 e2 e3 e4 _ wx (hm.blkI 1 rfl) (hm.fact 2 rfl) (hm.fact 3 rfl)))) (bE (nw 41 274877906943 (fun _ hm=>⟨hm.bl 0,hm.bl 1,hm.fa 1,trivial⟩) fun z=>eC 38 U (jF 48 [.int .i64 (dK (!ito) 8),.int .i64 (dK ieq 14),.int .i64 CE] fun g6=>bE (nw 41 549755813887 (fun _ hm=>⟨hm.bl 1,hm.bl 2,hm.fa 1,trivial⟩) fun z=>eC 39 U (dA U wJ U U (fun wx hm=>(fJ [dK (!ito) 8,dK ieq 14,CE] _ _ _ wx (hm.blkI 0 U) (by simp))) (bE (nw 41 1099511627775 (fun _ hm=>⟨hm.bl 1,hm.bl 2,hm.fa 1,trivial⟩) fun z=>wq 40 U (cU U) (jH ?_)))))))))))
   exact fK (dI [dK (!ito) 8,dK ieq 14,CE]) (by rw [zX,hl,hb2,hb4];rfl) ⟨U,U,U,U,trivial⟩ (fun _ hm=>hm.pick [1,2] [0,1] [0,1,2,3,4,5,6,7,8,9] U U)
  refine gJ 7 U (fH5 hl) (gd (fun wz=>Blk wz g1 74 [.int .i64 e0,.string e1,.string e2,.int .i64 e3,.string e4]/\Blk wz go 119 [u0,.slice cA cn cc,u2,u3,u4,u5,u6,u7,u8,u9,jK,jL,jM,jN,jO,jP,.map (some gv),.map (some gs),.map (some fT),lv,.map (some fQ),.map (some fS),.map (some fU),.map (some gC),rv]/\(bV vB dN w0.heap.size gs (T)) wz/\True) mixed (fun _ hm=>⟨hm.bl 0,hm.bl 1,hm.fa 1,trivial⟩) fun z=>wq 0 U (bJ U) (wq 1 U (cF U) (wq 2 U (bJ U) ?_)))
  rcases Bool.eq_false_or_eq_true (!iv) with hb7|hb7
  ·refine dG 24 U (fH5 hb7) ?_
   refine fC 3 U (fC 4 U (fC 5 U (fC 6 U (fC 7 U (fC 8 U (fC 9 U (fC 10 U (wq 11 U (fD U U) (wq 12 U (bJ U) (fC 13 U (fC 14 U (rQ 15 U (rQ 16 U (rQ 17 U (rQ 18 U (rQ 19 U (rQ 20 U (rQ 21 U (rQ 22 U (fC 23 U (wq 24 U (fD U U) (wq 26 U (bJ U) (wq 35 U (bJ U) (wq 36 U (cX fR U (fun _ hm=>hm.1) U U) (eC 25 U (dA U qK U U (fun wx hm=>(eE _ _ wx)) (bE (nw 41 103213432831 (fun _ hm=>⟨hm.bl 0,hm.bl 1,hm.fa 1,trivial⟩) fun z=>wq 27 U (bJ U) ?_))))))))))))))))))))))))))))
   refine fC 28 U (fC 29 U (fC 30 U (fC 31 U (fC 32 U (wq 33 U (fN U U) (eC 34 U (dA U qK U U (fun wx hm=>(eE _ _ wx)) (bE (nw 41 137438953471 (fun _ hm=>⟨hm.bl 0,hm.bl 1,hm.fa 1,trivial⟩) fun z=>eC 37 U (cL (v:= .int .i64 CE) U bE0 U U (fun wx hm=>(by rw [hCE];exact (rR σ u0 u2 u3 u4 u5 u6 u7 u8 u9 jK jL jM jN jO jP go gv gs fT fQ fS fU gC cA cn cc lv rv e0 e1 e2 e3 e4 _ wx (hm.blkI 1 rfl) (hm.fact 2 rfl) (hm.fact 3 rfl)))) (bE (nw 41 274877906943 (fun _ hm=>⟨hm.bl 0,hm.bl 1,hm.fa 1,trivial⟩) fun z=>eC 38 U (jF 48 [.int .i64 (dK true 8),.int .i64 (dK false 14),.int .i64 CE] fun g8=>bE (nw 41 549755813887 (fun _ hm=>⟨hm.bl 1,hm.bl 2,hm.fa 1,trivial⟩) fun z=>eC 39 U (dA U wJ U U (fun wx hm=>(fJ [dK true 8,dK false 14,CE] _ _ _ wx (hm.blkI 0 U) (by simp))) (bE (nw 41 1099511627775 (fun _ hm=>⟨hm.bl 1,hm.bl 2,hm.fa 1,trivial⟩) fun z=>wq 40 U (cU U) (jH ?_))))))))))))))))))
   exact fK (dI [dK true 8,dK false 14,CE]) (by rw [zX,hl,hb7];rfl) ⟨U,U,U,U,trivial⟩ (fun _ hm=>hm.pick [1,2] [0,1] [0,1,2,3,4,5,6,7,8,9] U U)
  refine dG 24 U (fH5 hb7) (fI 3 U (bJ U) (fI 4 U (bX U) (fI 5 U (bQ yB U U) (fI 6 U (cN cI1 U (fun _ hm=>hm.2.1) U) (fI 7 U (bQ vD U U) (fI 8 U (cN fE U (fun _ hm=>hm.1) U) (fI 9 U (kV (enc:=vB) (ek:=dN) (s:=e2) (e:=4) false kB (by kernel_rfl) (by kernel_rfl) U U (fun _ hm=>(hm.2.2.1))) (dG 31 (v':= .bool ist) U (fH5 bQ2.symm) (fI 10 U (cF U) (wq 11 U (fN U U) (wq 12 U (bJ U) ?_)))))))))))
  rcases Bool.eq_false_or_eq_true (!ist) with hb9|hb9
  ·refine dG 34 U (fH5 hb9) ?_
   refine fC 13 U (fC 14 U (rQ 15 U (rQ 16 U (rQ 17 U (rQ 18 U (rQ 19 U (rQ 20 U (rQ 21 U (rQ 22 U (fC 23 U (wq 24 U (fD U U) (wq 26 U (bJ U) (wq 35 U (bJ U) (wq 36 U (cX fR U (fun _ hm=>hm.1) U U) (eC 25 U (dA U qK U U (fun wx hm=>(eE _ _ wx)) (bE (nw 41 103213432831 (fun _ hm=>⟨hm.bl 0,hm.bl 1,hm.fa 1,trivial⟩) fun z=>wq 27 U (bJ U) (fC 28 U (fC 29 U (fC 30 U (fC 31 U (fC 32 U (wq 33 U (fN U U) (eC 34 U (dA U qK U U (fun wx hm=>(eE _ _ wx)) (bE (nw 41 137438953471 (fun _ hm=>⟨hm.bl 0,hm.bl 1,hm.fa 1,trivial⟩) fun z=>?_))))))))))))))))))))))))))))
   refine eC 37 U (cL (v:= .int .i64 CE) U bE0 U U (fun wx hm=>(by rw [hCE];exact (rR σ u0 u2 u3 u4 u5 u6 u7 u8 u9 jK jL jM jN jO jP go gv gs fT fQ fS fU gC cA cn cc lv rv e0 e1 e2 e3 e4 _ wx (hm.blkI 1 rfl) (hm.fact 2 rfl) (hm.fact 3 rfl)))) (bE (nw 41 274877906943 (fun _ hm=>⟨hm.bl 0,hm.bl 1,hm.fa 1,trivial⟩) fun z=>eC 38 U (jF 48 [.int .i64 (dK true 8),.int .i64 (dK false 14),.int .i64 CE] fun g10=>bE (nw 41 549755813887 (fun _ hm=>⟨hm.bl 1,hm.bl 2,hm.fa 1,trivial⟩) fun z=>eC 39 U (dA U wJ U U (fun wx hm=>(fJ [dK true 8,dK false 14,CE] _ _ _ wx (hm.blkI 0 U) (by simp))) (bE (nw 41 1099511627775 (fun _ hm=>⟨hm.bl 1,hm.bl 2,hm.fa 1,trivial⟩) fun z=>wq 40 U (cU U) (jH ?_)))))))))
   exact fK (dI [dK true 8,dK false 14,CE]) (by rw [zX,hl,hb7,hb9];rfl) ⟨U,U,U,U,trivial⟩ (fun _ hm=>hm.pick [1,2] [0,1] [0,1,2,3,4,5,6,7,8,9] U U)
  refine dG 34 U (fH5 hb9) (fI 13 U (bJ U) (fI 14 U (bJ U) (fC 15 U (fC 16 U (fC 17 U (fC 18 U (fC 19 U (fC 20 U (fC 21 U (fC 22 U (fI 23 U (fN U U) (wq 24 U (fN U U) (wq 26 U (bJ U) (wq 35 U (bJ U) (wq 36 U (cX fR U (fun _ hm=>hm.1) U U) (eC 25 U (dA U qK U U (fun wx hm=>(eE _ _ wx)) (bE (nw 41 103213432831 (fun _ hm=>⟨hm.bl 0,hm.bl 1,hm.fa 1,trivial⟩) fun z=>wq 27 U (bJ U) (fC 28 U (fC 29 U (fC 30 U (fC 31 U (fC 32 U (wq 33 U (fN U U) (eC 34 U (dA U qK U U (fun wx hm=>(eE _ _ wx)) (bE ?_))))))))))))))))))))))))))))
  refine nw 41 137438953471 (fun _ hm=>⟨hm.bl 0,hm.bl 1,hm.fa 1,trivial⟩) fun z=>eC 37 U (cL (v:= .int .i64 CE) U bE0 U U (fun wx hm=>(by rw [hCE];exact (rR σ u0 u2 u3 u4 u5 u6 u7 u8 u9 jK jL jM jN jO jP go gv gs fT fQ fS fU gC cA cn cc lv rv e0 e1 e2 e3 e4 _ wx (hm.blkI 1 rfl) (hm.fact 2 rfl) (hm.fact 3 rfl)))) (bE (nw 41 274877906943 (fun _ hm=>⟨hm.bl 0,hm.bl 1,hm.fa 1,trivial⟩) fun z=>eC 38 U (jF 48 [.int .i64 (dK false 8),.int .i64 (dK false 14),.int .i64 CE] fun g11=>bE (nw 41 549755813887 (fun _ hm=>⟨hm.bl 1,hm.bl 2,hm.fa 1,trivial⟩) fun z=>eC 39 U (dA U wJ U U (fun wx hm=>(fJ [dK false 8,dK false 14,CE] _ _ _ wx (hm.blkI 0 U) (by simp))) (bE (nw 41 1099511627775 (fun _ hm=>⟨hm.bl 1,hm.bl 2,hm.fa 1,trivial⟩) fun z=>wq 40 U (cU U) (jH ?_)))))))))
  exact fK (dI [dK false 8,dK false 14,CE]) (by rw [zX,hl,hb7,hb9];rfl) ⟨U,U,U,U,trivial⟩ (fun _ hm=>hm.pick [1,2] [0,1] [0,1,2,3,4,5,6,7,8,9] U U)
 intro E cC
 replace cC:E=EE:=cC
 refine bS ?_
 subst cC
 refine bP U (bB (gX U U) U (bR ?_))
 refine gI U (fun h0=>?_) (fun h0=>?_)
 ·refine bS (bP U (bZ U (bR ?_)))
  refine bM (bA ?_)
  have h0x:E≠0:=by simpa using h0
  have hsm:fY σ=bN6 V T (fY σ) ⟨e0,e1,e2,e3,e4⟩:=(pO fun ⟨q1,q2,q3,q4⟩=>h0x (zX.trans (eR2 (hiv.trans q1) (bQ2.trans q2) (fun h=>by
   rw [hilv] at h
   obtain ⟨q5,q6⟩:=q3 (of_decide_eq_true h)
   refine ⟨hito.trans q5,?_⟩
   rw [hieq]
   cases h9:(e4.toList==e2.toList) with
   |false=>rfl
   |true=>exact absurd (rI.1 h9) q6) (hCE.trans (qO.2 (bD0.1 q4)))))).symm
  refine bK U U fun wx hm=>?_
  refine ⟨lv,σ,_,U,⟨.same σ,hsm⟩,?_⟩
  have h8:gM _ _ ((g1,74, [.int .i64 e0,.string e1,.string e2,.int .i64 e3,.string e4])::(go,119, [u0,.slice cA cn cc,u2,u3,u4,u5,u6,u7,u8,u9,jK,jL,jM,jN,jO,jP,.map (some gv),.map (some gs),.map (some fT),lv,.map (some fQ),.map (some fS),.map (some fU),.map (some gC),rv]):: []) [⟨lv,74,5,σ.lg.length,σ.lg.flatMap dP⟩,⟨rv,226,2,rn,rx⟩] _ wx:=hm
  exact (h8.tailL.subX (dQ 0 U (dQ 1 U (dQ 2 U (dQ 3 U (dQ 4 U (dQ 5 U (dQ 6 U (dQ 7 U (dQ 8 U (dQ 9 U bV5))))))))))).cy
 refine bN (bD (bS ?_))
 have hE0:E=0:=by simpa using h0
 rw [<-show dA5 iv ist ilv ito ieq CE=E from zX.symm] at hE0
 obtain ⟨z1,z2,z3,z4⟩:=dM8 hE0
 rw [hiv] at z1
 rw [bQ2] at z2
 have hcan:bM2 σ ⟨e0,e1,e2,e3,e4⟩:=qO.1 (hCE.symm.trans z4)
 have z5:e3=6->(T e4).getD false=true/\e4≠e2:=fun h6=>by
  obtain ⟨h7,h8⟩:=z3 (by rw [hilv];exact decide_eq_true h6)
  refine ⟨hito ▸ h7,fun e=>?_⟩
  rw [hieq,e] at h8
  simp at h8
 refine bP U (bB (cX fR U (fun _ hm=>hm.blkI 0 U) U U) U ?_)
 refine fO (γ:=Value) (val:=fun _=> .tuple #[]) (φ:=fun _=>True) (K':=fun _=>fun _=>True) (L':=fun qM=> [(go,119, [u0,.slice cA cn cc,u2,u3,u4,u5,u6,u7,u8,u9,jK,jL,jM,jN,jO,jP,.map (some gv),.map (some gs),.map (some fT),qM,.map (some fQ),.map (some fS),.map (some fU),.map (some gC),rv])]) (O':=fun qM=> [⟨qM,74,5,(gL σ ⟨e0,e1,e2,e3,e4⟩).lg.length,(gL σ ⟨e0,e1,e2,e3,e4⟩).lg.flatMap dP⟩,⟨rv,226,2,rn,rx⟩]) (X':=fun _=> [bV vS dN w0.heap.size gv (V),bV vB dN w0.heap.size gs (T),bV qU dN w0.heap.size fT ((gL σ ⟨e0,e1,e2,e3,e4⟩).fs),bV vB nD w0.heap.size fQ ((gL σ ⟨e0,e1,e2,e3,e4⟩).fa),bV qA dN w0.heap.size fS ((gL σ ⟨e0,e1,e2,e3,e4⟩).fb),bV nH dN w0.heap.size fU ((gL σ ⟨e0,e1,e2,e3,e4⟩).fh),bV vI dN w0.heap.size gC (fp),gD 68 (gL σ ⟨e0,e1,e2,e3,e4⟩).fh,bU dV 2 84 w0.heap.size none cA cn cl,TxtO w0.heap.size none]) U cD7 U U (fun wx hm=>(bQ5 w0 u0 u2 u3 u4 u5 u6 u7 u8 u9 jK jL jM jN jO jP go gv gs fT fQ fS fU gC cA cn cc cl V T rv rn rx hd fp σ lv e0 e1 e2 e3 e4 [] [] (fun _ h=>by cases h) wx hlg (hm.pick [1] [0,1] [0,1,2,3,4,5,6,7,8,9] U U).cy).mono fun _ _ ⟨lv_,he,vP⟩=>⟨lv_,he,trivial,vP.cy⟩) ?_
 intro qM _
 refine bR (bS (bZ U (bR (bM ?_))))
 refine bK U U fun wx hm=>?_
 refine ⟨qM,_,0,U,⟨.ev σ ⟨e0,e1,e2,e3,e4⟩ U hok hkd z1 z2 z5 hne hcan,(yK ⟨z1,z2,z5,hcan⟩).symm⟩,?_⟩
 have h8:gM _ _ ((go,119, [u0,.slice cA cn cc,u2,u3,u4,u5,u6,u7,u8,u9,jK,jL,jM,jN,jO,jP,.map (some gv),.map (some gs),.map (some fT),qM,.map (some fQ),.map (some fS),.map (some fU),.map (some gC),rv]):: []) [⟨qM,74,5,(gL σ ⟨e0,e1,e2,e3,e4⟩).lg.length,(gL σ ⟨e0,e1,e2,e3,e4⟩).lg.flatMap dP⟩,⟨rv,226,2,rn,rx⟩] _ wx:=hm
 exact (h8.subX (dQ 0 U (dQ 1 U (dQ 2 U (dQ 3 U (dQ 4 U (dQ 5 U (dQ 6 U (dQ 7 U (dQ 8 U (dQ 9 U bV5))))))))))).cy
theorem bN4 {l:List Cs} {v:Int} (h30:¬30 < l.length) (h:scanE csE none l=v) (hv:v≠0):jB l=v:=by
 unfold jB
 rw [if_neg h30,if_pos (by rw [h];exact hv),h]
theorem eO6 {l:List Cs} (h30:¬30 < l.length) (h:scanE csE none l=0) (hu:l.any (upB l)=true):jB l=8:=by
 unfold jB
 rw [if_neg h30,if_neg (by rw [h];decide),if_pos hu]
theorem dV7 {l:List Cs} (h30:¬30 < l.length) (h:scanE csE none l=0) (hu:l.any (upB l)=false):jB l=if eA0 l l.length=true then 14 else 0:=by
 unfold jB
 rw [if_neg h30,if_neg (by rw [h];decide),if_neg (by rw [hu];decide)]
theorem cT9 {α:Type} {p:α->Bool} {l:List α} {k:Nat} {x:α} (h:l[k]?=some x):(l.drop k).any p=(p x||(l.drop (k+1)).any p):=by
 obtain ⟨hk,rfl⟩:=List.getElem?_eq_some_iff.1 h
 rw [List.drop_eq_getElem_cons hk,List.any_cons]
theorem cP4 {α:Type} {p:α->Bool} {l:List α} {k:Nat} (h:l.length<=k):(l.drop k).any p=false:=by rw [List.drop_eq_nil_of_le h];rfl
theorem dV5 {l:List Cs} {n i:Nat} {k:ByteArray} (h:jI (bX5 l k)=false) (hi:i < n):nX l (n - i) k=bX5 l k::nX l (n - (i+1)) (bX5 l k):=by
 rw [show n - i=(n - (i+1))+1 by omega]
 show (if jI (bX5 l k)=true then [] else _)=_
 rw [if_neg (by rw [h];decide)]
theorem dW5 {l:List Cs} {n:Nat} {k:ByteArray} (h:jI (bX5 l k)=true):nX l n k= []:=by
 cases n with
 |zero=>rfl
 |succ n=>
  show (if jI (bX5 l k)=true then [] else _)=_
  rw [if_pos h]
theorem bY3 (ke:ByteArray) (up:ByteArray) (gk:Nat) (k:ByteArray) (w:World) (hk:Blk w gk 9 [.string k]):
 Calls prog 187 #[.agg #[.string ke,.string up],.pointer (some ⟨gk,0,none⟩)] w (fun e w'=>e=.returned (.bool (wI k ⟨ke,up⟩))/\w.grownBy w' none):=by
 refine cV ⟨8,w,none, []⟩ func187 U ntmps187 U (gR (X:= [fL w.heap.size none gk 9 [.string k]]) (cG hk.old cY) (cH fL.lasts cZ)) (bS (fG U U U fun g1=>bZ U (bR (bS (dW bM0 U U (eI fE 0 U U U (bB (cN (v:= .string k) fE U (fun _ hm=>(hm.fact 0 U).2) U) U (bB (eR U U) U (bZ U (bR (bM ?_)))))))))))
 exact bK U U fun wx hm=>⟨U,hm.g⟩
theorem bT2 (l:List Cs) (A:Option Addr) (n c0:Nat) (gk:Nat) (k:ByteArray) (w:World) (hl:SlT dV 2 84 w A n l) (hn:n<=1000000) (hk:Blk w gk 9 [.string k]):
 Calls prog 152 #[.slice A n c0,.func (.func 187) #[] #[.pointer (some ⟨gk,0,none⟩)]] w (nC w (mH (wI k) l 0)):=by
 refine cV ⟨19,w,none, []⟩ func152 U ntmps152 U (gR (X:= [bU dV 2 84 w.heap.size none A n l,fL w.heap.size none gk 9 [.string k]]) (cG hl.old (cG hk.old cY)) (cH bU.lasts (cH fL.lasts cZ))) (bS ?_)
 have hlen:=hl.len
 refine bZ U (bR (bH (bS (bP U (bB (dT bJ0 U) U (bP U (bR (bO ?_))))))))
 refine dX (γ:=Nat) (fun (i:Nat)=>i<=n/\mH (wI k) l 0=mH (wI k) (l.drop i) i) (fun (i:Nat)=> [(0,.slice A n c0),(1,.func (.func 187) #[] #[.pointer (some ⟨gk,0,none⟩)]),(7,.int .i64 ((n:Nat):Int)),(8,.int .i64 ((i:Nat):Int))]) (fun (i:Nat)=>fun _=>True) (fun (i:Nat)=> []) (fun (i:Nat)=> []) (fun (i:Nat)=> [bU dV 2 84 w.heap.size none A n l,fL w.heap.size none gk 9 [.string k]]) (fun (i:Nat)=>n - i) 0 ⟨Nat.zero_le _,U⟩ ⟨U,U,U,U,trivial⟩ (fun _ hm=>hm.pick [] [] [0,1] U U) ?_
 intro i cC
 replace cC:i<=n/\mH (wI k) l 0=mH (wI k) (l.drop i) i:=cC
 refine bS (bB (dD U U) U (bR (bH ?_)))
 refine cE U (fun hi=>?_) (fun hi=>?_)
 ·refine bN (bD (bH (bO (bS ?_))))
  obtain ⟨b,off,hA,_,_⟩:=hl.get (by omega)
  subst hA
  obtain ⟨x,hx⟩:∃x,l[i]?=some x:=⟨_,fJ5 (by omega)⟩
  obtain ⟨ke,up⟩:=x
  have hat:=bX0 (p:=wI k) hx
  refine bP U (bZ U (bR (bS (bP U (bP U (bP U (bB (bT (j:=i) bJ0 U U (by omega)) U (bB (dO (vs:= [.string ke,.string up]) cT8 U (fun _ hm=>(hm.fact 0 U).1) hx U U) U (cL U fM0 U U (fun wx hm=>(bY3 ke up gk k wx (hm.fact 1 U).2)) (bR ?_))))))))))
  refine dC U (fun hh=>?_) (fun hh=>?_)
  ·have hq:(wI k ⟨ke,up⟩)=true:=by simpa using hh
   refine bS (bP U (bZ U (bR (bM (bC (bA (bA (bC (bA ?_)))))))))
   exact bK U U fun wx hm=>⟨bW (by rw [cC.2,hat,if_pos hq]),hm.g⟩
  have hq:(wI k ⟨ke,up⟩)=false:=by simpa using hh
  refine bN (bG (bD (bI (gN U U (bP U (bE ?_))))))
  exact cQ (i+1) ⟨by omega,by rw [cC.2,hat,if_neg (by rw [hq];decide)]⟩ (by omega) ⟨U,U,U,(cS (by omega)),trivial⟩ (fun _ hm=>hm.pick [] [] [0,1] U U)
 refine dE (bF (bF (bY (bD (bS (bZ U (bL 4 (v':= .int .i64 (-1)) U U (bR (bM ?_)))))))))
 exact bK U U fun wx hm=>⟨bW (by rw [cC.2,List.drop_eq_nil_of_le (by omega)];rfl),hm.g⟩
theorem wM (l:List Cs) (A:Option Addr) (n c0:Nat) (k:ByteArray) (w:World) (hl:SlT dV 2 84 w A n l) (hn:n<=1000000):
 Calls prog 135 #[.slice A n c0,.string k] w (nC w (mH (wI k) l 0)):=by
 refine cV ⟨8,w,none, []⟩ func135 U ntmps135 U (gR (X:= [bU dV 2 84 w.heap.size none A n l]) (cG hl.old cY) (cH bU.lasts cZ)) (bS (fG U U U fun g1=>bZ U (bR (bS (bP U (bB (pW U U) U (cL U eF5 U U (fun wx hm=>(bT2 l A n c0 _ k wx (hm.fact 0 U).1 hn (hm.blkI 0 U))) (bZ U (bR (bM ?_))))))))))
 exact bK U U fun wx hm=>⟨U,hm.g⟩
theorem dK5 (ks:List ByteArray) (A1:Option Addr) (n1 c1:Nat) (k:ByteArray) (w:World) (hs:SlT fH 1 9 w A1 n1 ks) (hn:n1<=1000000):
 Calls prog 193 #[.slice A1 n1 c1,.string k] w (nC w (mH (fun y=>k.toList==y.toList) ks 0)):=by
 refine cV ⟨19,w,none, []⟩ func193 U ntmps193 U (gR (X:= [bU fH 1 9 w.heap.size none A1 n1 ks]) (cG hs.old cY) (cH bU.lasts cZ)) (bS ?_)
 have hlen:=hs.len
 refine bZ U (bR (bH (bS (bP U (bB (dT jY U) U (bP U (bR (bO ?_))))))))
 refine dX (γ:=Nat) (fun (i:Nat)=>i<=n1/\mH (fun y=>k.toList==y.toList) ks 0=mH (fun y=>k.toList==y.toList) (ks.drop i) i) (fun (i:Nat)=> [(0,.slice A1 n1 c1),(1,.string k),(7,.int .i64 ((n1:Nat):Int)),(8,.int .i64 ((i:Nat):Int))]) (fun (i:Nat)=>fun _=>True) (fun (i:Nat)=> []) (fun (i:Nat)=> []) (fun (i:Nat)=> [bU fH 1 9 w.heap.size none A1 n1 ks]) (fun (i:Nat)=>n1 - i) 0 ⟨Nat.zero_le _,U⟩ ⟨U,U,U,U,trivial⟩ (fun _ hm=>hm.pick [] [] [0] U U) ?_
 intro i cC
 replace cC:i<=n1/\mH (fun y=>k.toList==y.toList) ks 0=mH (fun y=>k.toList==y.toList) (ks.drop i) i:=cC
 refine bS (bB (dD U U) U (bR (bH ?_)))
 refine cE U (fun hi=>?_) (fun hi=>?_)
 ·refine bN (bD (bH (bO (bS ?_))))
  obtain ⟨b,off,hA,_,_⟩:=hs.get (by omega)
  subst hA
  obtain ⟨z0,hx⟩:∃x,ks[i]?=some x:=⟨_,fJ5 (by omega)⟩
  have hat:=bX0 (p:=(fun y=>k.toList==y.toList)) hx
  refine bP U (bZ U (bR (bS (bP U (bP U (bP U (bB (bT (j:=i) jY U U (by omega)) U (bB (dL (k:=0) (v:= .string z0) fE U (fun _ hm=>(hm.fact 0 U).1) hx U U) U (bB (eR U U) U (bR ?_))))))))))
  refine dC U (fun hh=>?_) (fun hh=>?_)
  ·have hq:(k.toList==z0.toList)=true:=by simpa using hh
   refine bS (bP U (bZ U (bR (bM (bC (bA (bA (bC (bA ?_)))))))))
   exact bK U U fun wx hm=>⟨bW (by rw [cC.2,hat,if_pos hq]),hm.g⟩
  have hq:(k.toList==z0.toList)=false:=by simpa using hh
  refine bN (bG (bD (bI (gN U U (bP U (bE ?_))))))
  exact cQ (i+1) ⟨by omega,by rw [cC.2,hat,if_neg (by rw [hq];decide)]⟩ (by omega) ⟨U,U,U,(cS (by omega)),trivial⟩ (fun _ hm=>hm.pick [] [] [0] U U)
 refine dE (bF (bF (bY (bD (bS (bZ U (bL 4 (v':= .int .i64 (-1)) U U (bR (bM ?_)))))))))
 exact bK U U fun wx hm=>⟨bW (by rw [cC.2,List.drop_eq_nil_of_le (by omega)];rfl),hm.g⟩
theorem cX4 (ks:List ByteArray) (A1:Option Addr) (n1 c1:Nat) (k:ByteArray) (w:World) (hs:SlT fH 1 9 w A1 n1 ks) (hn:n1<=1000000):
 Calls prog 149 #[.slice A1 n1 c1,.string k] w (fun e w'=>e=.returned (.bool (inK k ks))/\w.grownBy w' none):=by
 refine cV ⟨9,w,none, []⟩ func149 U ntmps149 U (gR (X:= [bU fH 1 9 w.heap.size none A1 n1 ks]) (cG hs.old cY) (cH bU.lasts cZ)) (bS (bZ U (bR (bS (bP U (bP U (cL U eJ5 U U (fun wx hm=>(dK5 ks A1 n1 c1 k wx (hm.fact 0 U).1 hn)) (bB (mO U U) U (bZ U (bR (bM ?_)))))))))))
 exact bK U U fun wx hm=>⟨by unfold inK;rw [<-cO0],hm.g⟩
theorem dN4 (l:List Cs) (A:Option Addr) (n c:Nat) (k0:ByteArray) (w:World) (hl:SlT dV 2 84 w A n l) (hc:dD7 l) (hk0:0<=mH (wI k0) l 0) (hn:n<=1000000):
 Calls prog 150 #[.slice A n c,.string k0] w (fun e w'=>∃(A2:Option Addr) (n2 c2:Nat),e=.returned (.slice A2 n2 c2)/\w'.ownsRow w.heap.size 9 1 (.slice A2 n2 c2) n2 ((nX l n k0).flatMap fH)/\(nX l n k0).length=n2/\w.grownBy w' none):=by
 refine cV ⟨25,w,none, []⟩ func150 U ntmps150 U (gR (X:= [bU dV 2 84 w.heap.size none A n l]) (cG hl.old cY) (cH bU.lasts cZ)) (bS ?_)
 have hlen:=hl.len
 refine bZ U (bR (bS (bZ U (bR (bH (bS (bP U (bB (dT bJ0 U) U (bP U (bR (bO ?_)))))))))))
 refine rK 9 1 ?_
 refine dX (γ:=Nat×ByteArray×Value×List ByteArray×List Value) (fun g=>g.1<=n/\0<=mH (wI g.2.1) l 0/\g.2.2.2.1.length=g.1/\g.2.2.2.1++nX l (n - g.1) g.2.1=nX l n k0/\g.2.2.2.2=g.2.2.2.1.flatMap fH) (fun g=> [(0,.slice A n c),(1,.string g.2.1),(4,.slice none 0 0),(5,g.2.2.1),(7,.int .i64 ((n:Nat):Int)),(8,.int .i64 ((g.1:Nat):Int))]) (fun g=>fun _=>True) (fun g=> []) (fun g=> [⟨g.2.2.1,9,1,g.1,g.2.2.2.2⟩]) (fun g=> [bU dV 2 84 w.heap.size none A n l]) (fun g=>n - g.1) (0,k0,.slice none 0 0, [], []) ⟨Nat.zero_le _,hk0,U,U,U⟩ ⟨U,U,U,U,U,U,trivial⟩ (fun _ hm=>hm.pick [] [0] [0] U U) ?_
 rintro ⟨i,k,v,done,xs⟩ cC
 replace cC:i<=n/\0<=mH (wI k) l 0/\done.length=i/\done++nX l (n - i) k=nX l n k0/\xs=done.flatMap fH:=cC
 dsimp only
 refine bS ?_
 obtain ⟨hi0,hik,hdl,hdp,rfl⟩:=cC
 refine bB (dD U U) U (bR (bH ?_))
 refine cE U (fun hi=>?_) (fun hi=>?_)
 ·refine bN (bD (bH (bO (bS ?_))))
  obtain ⟨b,off,hA,_,_⟩:=hl.get (by omega)
  subst hA
  refine bP U (bP U (bP U ?_))
  obtain ⟨x,hx,hxl,hxk⟩:=eD7 hik
  obtain ⟨j,hj⟩:=Int.eq_ofNat_of_zero_le hik
  have hjx:(mH (wI k) l 0).toNat=j:=by omega
  rw [hjx] at hx
  have hup:=eM4 hj hx
  have hjn:j < n:=by have:=(List.getElem?_eq_some_iff.1 hx).1;omega
  obtain ⟨ke,up⟩:=x
  have hup:bX5 l k=up:=hup
  have hcl:=hc ⟨ke,up⟩ hxl
  have hcl:jI up=false->0<=mH (wI up) l 0:=hcl
  refine cL (v:= .int .i64 ((j:Nat):Int)) U dJ2 U U (fun wx hm=>(by rw [<-hj];exact wM l _ n c k wx (hm.fact 0 rfl).1 hn)) (bB (bT (j:=j) bJ0 U U (by omega)) U (dW bN0 U U (bB (dL (k:=1) (v:= .string up) fE U (fun _ hm=>(hm.fact 0 U).1) hx U U) U (bZ U (bR (bH (bS (bP U (bB (eR U U) U (bR ?_))))))))))
  refine dC U (fun hh=>?_) (fun hh=>?_)
  ·have hq:(up.toList==(⟨#[]⟩:ByteArray).toList)=true:=by simpa using hh
   refine dE (bF (bJ7 U (bF (bF (bY (bD (bS ?_)))))))
   refine eD (R:=∃A cc,v= .slice A i cc) (fun wx hm=>dS (hm.ownI 0 U)) ?_
   rintro ⟨A2,c2,rfl⟩
   refine bP U (bZ U (bR (bM ?_)))
   have bP0:done=nX l n k0:=by rw [<-hdp,dW5 (by rw [hup];unfold jI;exact hq),List.append_nil]
   exact bK U U fun wx hm=>⟨A2,i,c2,U,by rw [<-bP0];exact hm.ownI 0 rfl,by rw [<-bP0];exact hdl,hm.g⟩
  have hq:(up.toList==(⟨#[]⟩:ByteArray).toList)=false:=by simpa using hh
  refine bN (bD (bI (bP U (bP U (jF 9 [.string up] fun g1=>eF (news:= [.string up]) 0 0 dF7 U U U U U U U (by omega) (by unfold maxLen;omega) U U fun v2 hv2=>bZ U (bE (bG (bD (bI (gN U U (bP U (bE ?_))))))))))))
  have hue:jI (bX5 l k)=false:=by rw [hup];unfold jI;exact hq
  have hpm:=dV5 hue (show i < n by omega)
  rw [hup] at hpm hue
  exact cQ (i+1,up,v2,done++ [up],done.flatMap fH++([.string up]:List Value)) ⟨by dsimp only;omega,hcl hue,by simp [hdl],by dsimp only;rw [<-hdp,hpm,List.append_assoc];rfl,by simp [fH]⟩ (by dsimp only;omega) ⟨U,U,U,U,U,(cS (by omega)),trivial⟩ (fun _ hm=>hm.pick [] [0] [0] U U)
 refine dE (bF (bF (bY (bD (bS ?_)))))
 refine eD (R:=∃A cc,v= .slice A i cc) (fun wx hm=>dS (hm.ownI 0 U)) ?_
 rintro ⟨A2,c2,rfl⟩
 refine bP U (bZ U (bR (bM ?_)))
 have hin:i=n:=by omega
 have bP0:done=nX l n k0:=by rw [<-hdp,hin,Nat.sub_self];exact (List.append_nil _).symm
 exact bK U U fun wx hm=>⟨A2,i,c2,U,by rw [<-bP0];exact hm.ownI 0 rfl,by rw [<-bP0];exact hdl,hm.g⟩
theorem xH (l:List Cs) (A:Option Addr) (n c:Nat) (w:World) (hl:SlT dV 2 84 w A n l) (hok:∀x∈l,uF x) (hn:n<=1000000):
 Calls prog 100 #[.slice A n c] w (nC w (jB l)):=by
 refine cV ⟨80,w,none, []⟩ func100 U ntmps100 U (gR (X:= [bU dV 2 84 w.heap.size none A n l]) (cG hl.old cY) (cH bU.lasts cZ)) (bS ?_)
 have hlen:=hl.len
 refine bZ U (bR (bH (bS (bP U (bB (dT bJ0 U) U (bB (eJ U U) U (bR ?_)))))))
 refine cE U (fun h1=>?_) (fun h1=>?_)
 ·refine bS (bZ U (bR ?_))
  refine bM (bA ?_)
  exact bK U U fun wx hm=>⟨bW (by unfold jB;rw [if_pos (by omega)]),hm.g⟩
 refine bN (bD (bH (bS ?_)))
 have h30:¬30 < l.length:=by omega
 refine bP U (bB (dT bJ0 U) U (bP U (bR (bO ?_))))
 refine dX (γ:=Nat) (fun (k:Nat)=>k<=n/\scanE csE none l=scanE csE (prevOf l k) (l.drop k)) (fun (k:Nat)=> [(0,.slice A n c),(12,.slice A n c),(13,.int .i64 ((n:Nat):Int)),(14,.int .i64 ((k:Nat):Int))]) (fun (k:Nat)=>fun _=>True) (fun (k:Nat)=> []) (fun (k:Nat)=> []) (fun (k:Nat)=> [bU dV 2 84 w.heap.size none A n l]) (fun (k:Nat)=>n - k) 0 ⟨Nat.zero_le _,U⟩ ⟨U,U,U,U,trivial⟩ (fun _ hm=>hm.pick [] [] [0] U U) ?_
 intro k cC
 replace cC:k<=n/\scanE csE none l=scanE csE (prevOf l k) (l.drop k):=cC
 refine bS (bB (dD U U) U (bR (bH ?_)))
 refine cE U (fun hk=>?_) (fun hk=>?_)
 ·refine bN (bD (bH (bO (bS ?_))))
  obtain ⟨b,off,hA,_,_⟩:=hl.get (by omega)
  subst hA
  obtain ⟨x,hx⟩:∃x,l[k]?=some x:=⟨_,fJ5 (by omega)⟩
  obtain ⟨ke,up⟩:=x
  have hat:=scanE_at csE l k _ hx
  have hk1:ke.size<=1000000:=(hok _ (fK5 hx)).1
  have hk2:up.size<=1000000:=(hok _ (fK5 hx)).2
  refine bP U (bB (bT (j:=k) bJ0 U U (by omega)) U (bB (dO (vs:= [.string ke,.string up]) cT8 U (fun _ hm=>(hm.fact 0 U).1) hx U U) U (dH eN8 U fun g1=>bZ U (jX (cs':= [.string ke,.string up]) 0 cT8 U U U U (bR (bO (bS (dW bM0 U U (eI fE 0 U U U (dA U bP2 U U (fun wx hm=>(isKey_any _ wx (by omega))) (bB (cF U) U (bZ U (bR ?_)))))))))))))
  refine dC U (fun hh=>?_) (fun hh=>?_)
  ·have h2:(keyB ke)=false:=by simpa using hh
   refine bS (bZ U (bR (bM (bC (bC (bA (bA (bC (bA ?_)))))))))
   have hE:csE (prevOf l k) ⟨ke,up⟩=5:=by unfold csE;simp [h2]
   exact bK U U fun wx hm=>⟨bW (by rw [bN4 h30 (v:=5) (by rw [cC.2,hat,if_neg (by rw [hE];decide),hE]) (by decide)]),hm.g⟩
  have h2:(keyB ke)=true:=by simpa using hh
  refine bH ?_
  by_cases hk0:k=0
  ·have hO:eG3 (prevOf l k) ⟨ke,up⟩=false:=by rw [mJ hk0];rfl
   refine gd (fun wz=>True) mixed (fun _ _=>trivial) fun z=>wq 0 U (bJ U) (wq 1 U (eJ U U) (dG 26 (v':= .bool false) U (fH5 (decide_eq_false (by omega))) (wq 2 U (bJ U) (fC 3 U (fC 4 U (fC 5 U (fC 6 U (fC 7 U (fC 8 U (fC 9 U (fC 10 U (fC 11 U (wq 12 U (fN U U) (wq 13 U (cU U) (jH (bD (jU U (bS (dW bN0 U U (eI fE 0 U U U (bB (vT U U) U (bP U ?_))))))))))))))))))))))
   rcases Bool.eq_false_or_eq_true (!(up.toList==(⟨#[]⟩:ByteArray).toList)) with mY|mY
   ·refine bL 42 U (fH5 mY) ?_
    have mY:jI up=false:=by unfold jI;simpa only [Bool.not_eq_true'] using mY
    refine eG U (dW bN0 U U (eG U (eI fE 0 U U U (eG U (dA U bP2 U U (fun wx hm=>(isKey_any _ wx (by omega))) (eG U (bB (cF U) U (mQ U U (bZ U (bR ?_))))))))))
    refine dC U (fun hh=>?_) (fun hh=>?_)
    ·have zW:(keyB up)=false:=by simpa using hh
     refine bS (bZ U (bR (bM (bC (bC (bA (bA (bC (bA ?_)))))))))
     have hE:csE (prevOf l k) ⟨ke,up⟩=5:=by unfold csE;simp [h2,hO,mY,zW]
     exact bK U U fun wx hm=>⟨bW (by rw [bN4 h30 (v:=5) (by rw [cC.2,hat,if_neg (by rw [hE];decide),hE]) (by decide)]),hm.g⟩
    have zW:(keyB up)=true:=by simpa using hh
    refine bN (bG (bG (bD (bI ?_))))
    have hE:csE (prevOf l k) ⟨ke,up⟩=0:=by unfold csE;simp [h2,hO,mY,zW]
    refine gN U U (bP U (bE ?_))
    exact cQ (k+1) ⟨by omega,by rw [cC.2,hat,if_pos hE]⟩ (by omega) ⟨U,U,U,(cS (by omega)),trivial⟩ (fun _ hm=>hm.pick [] [] [0] U U)
   refine bL 42 U (fH5 mY) ?_
   have mY:jI up=true:=by unfold jI;simpa only [Bool.not_eq_false'] using mY
   have hE:csE (prevOf l k) ⟨ke,up⟩=0:=by unfold csE;simp [h2,hO,mY]
   refine dY U (dY U (dY U (dY U (nS U U (bZ U (bR (jU U (bN (bG (bG (bD (bI (gN U U (bP U (bE ?_)))))))))))))))
   exact cQ (k+1) ⟨by omega,by rw [cC.2,hat,if_pos hE]⟩ (by omega) ⟨U,U,U,(cS (by omega)),trivial⟩ (fun _ hm=>hm.pick [] [] [0] U U)
  obtain ⟨y,hy⟩:∃x,l[k - 1]?=some x:=⟨_,fJ5 (by omega)⟩
  obtain ⟨p0,p1⟩:=y
  refine gd (fun wz=>Blk wz g1 84 [.string ke,.string up]/\(bU dV 2 84 w.heap.size none (some ⟨b,off,none⟩) n l) wz/\True) mixed (fun _ hm=>⟨hm.bl 0,hm.fa 0,trivial⟩) fun z=>wq 0 U (bJ U) (wq 1 U (eJ U U) (dG 26 (v':= .bool true) U (fH5 (decide_eq_true (by omega))) (wq 2 U (bJ U) (fI 3 U (bQ bM0 U U) (fI 4 U (cN fE U (fun _ hm=>hm.1) U) (fI 5 U (bJ U) (fI 6 U (bJ U) (fI 7 U (ov_sub U U (by omega) (by omega)) (dG 32 (v':= .int .i64 ((k - 1:Nat):Int)) U (fI5 (by omega)) (fI 8 U (bT (j:=k - 1) bJ0 U U (by omega)) (fI 9 U (bQ bM0 U U) (fI 10 U (dL (k:=0) (v:= .string p0) fE U (fun _ hm=>(hm.2.1).1) hy U U) (fI 11 U (wS U U) (wq 12 U (fD U U) (wq 13 U (cU U) (jH (bD ?_)))))))))))))))))
  refine dC U (fun hh=>?_) (fun hh=>?_)
  ·have h9:(Op.bytesLess ke.toList p0.toList||ke.toList==p0.toList)=true:=by simpa using hh
   refine bS ?_
   have hO:eG3 (prevOf l k) ⟨ke,up⟩=true:=by rw [jS hk0 hy];exact h9
   refine bZ U (bR (bM (bC (bC (bA (bA (bC (bA ?_))))))))
   have hE:csE (prevOf l k) ⟨ke,up⟩=7:=by unfold csE;simp [h2,hO]
   exact bK U U fun wx hm=>⟨bW (by rw [bN4 h30 (v:=7) (by rw [cC.2,hat,if_neg (by rw [hE];decide),hE]) (by decide)]),hm.g⟩
  have h9:(Op.bytesLess ke.toList p0.toList||ke.toList==p0.toList)=false:=by simpa using hh
  refine bS ?_
  have hO:eG3 (prevOf l k) ⟨ke,up⟩=false:=by rw [jS hk0 hy];exact h9
  refine dW bN0 U U (eI fE 0 U U U (bB (vT U U) U (bP U ?_)))
  rcases Bool.eq_false_or_eq_true (!(up.toList==(⟨#[]⟩:ByteArray).toList)) with mY|mY
  ·refine bL 42 U (fH5 mY) ?_
   have mY:jI up=false:=by unfold jI;simpa only [Bool.not_eq_true'] using mY
   refine eG U (dW bN0 U U (eG U (eI fE 0 U U U (eG U (dA U bP2 U U (fun wx hm=>(isKey_any _ wx (by omega))) (eG U (bB (cF U) U (mQ U U (bZ U (bR ?_))))))))))
   refine dC U (fun hh=>?_) (fun hh=>?_)
   ·have zW:(keyB up)=false:=by simpa using hh
    refine bS (bZ U (bR (bM (bC (bC (bA (bA (bC (bA ?_)))))))))
    have hE:csE (prevOf l k) ⟨ke,up⟩=5:=by unfold csE;simp [h2,hO,mY,zW]
    exact bK U U fun wx hm=>⟨bW (by rw [bN4 h30 (v:=5) (by rw [cC.2,hat,if_neg (by rw [hE];decide),hE]) (by decide)]),hm.g⟩
   have zW:(keyB up)=true:=by simpa using hh
   refine bN (bG (bG (bD (bI ?_))))
   have hE:csE (prevOf l k) ⟨ke,up⟩=0:=by unfold csE;simp [h2,hO,mY,zW]
   refine gN U U (bP U (bE ?_))
   exact cQ (k+1) ⟨by omega,by rw [cC.2,hat,if_pos hE]⟩ (by omega) ⟨U,U,U,(cS (by omega)),trivial⟩ (fun _ hm=>hm.pick [] [] [0] U U)
  refine bL 42 U (fH5 mY) ?_
  have mY:jI up=true:=by unfold jI;simpa only [Bool.not_eq_false'] using mY
  have hE:csE (prevOf l k) ⟨ke,up⟩=0:=by unfold csE;simp [h2,hO,mY]
  refine dY U (dY U (dY U (dY U (nS U U (bZ U (bR (jU U (bN (bG (bG (bD (bI (gN U U (bP U (bE ?_)))))))))))))))
  exact cQ (k+1) ⟨by omega,by rw [cC.2,hat,if_pos hE]⟩ (by omega) ⟨U,U,U,(cS (by omega)),trivial⟩ (fun _ hm=>hm.pick [] [] [0] U U)
 refine dE (bF (bF (bY (bD (bH (bS ?_))))))
 have hsc:scanE csE none l=0:=by rw [cC.2,scanE_end _ _ _ _ (by omega)]
 clear cC hk
 refine bP U (bB (dT bJ0 U) U (bP U (bR (bO ?_))))
 refine dX (γ:=Nat) (fun (k2:Nat)=>k2<=n/\l.any (upB l)=(l.drop k2).any (upB l)) (fun (k2:Nat)=> [(0,.slice A n c),(49,.slice A n c),(50,.int .i64 ((n:Nat):Int)),(51,.int .i64 ((k2:Nat):Int))]) (fun (k2:Nat)=>fun _=>True) (fun (k2:Nat)=> []) (fun (k2:Nat)=> []) (fun (k2:Nat)=> [bU dV 2 84 w.heap.size none A n l]) (fun (k2:Nat)=>n - k2) 0 ⟨Nat.zero_le _,U⟩ ⟨U,U,U,U,trivial⟩ (fun _ hm=>hm.pick [] [] [0] U U) ?_
 intro k2 cC
 replace cC:k2<=n/\l.any (upB l)=(l.drop k2).any (upB l):=cC
 refine bS (bB (dD U U) U (bR (bH ?_)))
 refine cE U (fun hk=>?_) (fun hk=>?_)
 ·refine bN (bD (bH (bO (bS ?_))))
  obtain ⟨b,off,hA,_,_⟩:=hl.get (by omega)
  subst hA
  obtain ⟨x,hx⟩:∃x,l[k2]?=some x:=⟨_,fJ5 (by omega)⟩
  obtain ⟨ke,up⟩:=x
  have hat:=cT9 (p:=upB l) hx
  have hk2:up.size<=1000000:=(hok _ (fK5 hx)).2
  refine bB (bT (j:=k2) bJ0 U U (by omega)) U (bB (dO (vs:= [.string ke,.string up]) cT8 U (fun _ hm=>(hm.fact 0 U).1) hx U U) U (dH eN8 U fun g2=>jX (cs':= [.string ke,.string up]) 0 cT8 U U U U (bR (bS (dW bN0 U U (eI fE 0 U U U (bB (vT U U) U (bP U ?_))))))))
  rcases Bool.eq_false_or_eq_true (!(up.toList==(⟨#[]⟩:ByteArray).toList)) with mY|mY
  ·refine bL 58 U (fH5 mY) ?_
   have mY:jI up=false:=by unfold jI;simpa only [Bool.not_eq_true'] using mY
   refine eG U (bP U (eG U (dW bN0 U U (eG U (eI fE 0 U U U (eG U (cL U dJ2 U U (fun wx hm=>(wM l _ n c up wx (hm.fact 0 U).1 (by omega))) (eG U (bB (dD U U) U (mQ U U (bR ?_)))))))))))
   refine cE U (fun zW=>?_) (fun zW=>?_)
   ·refine bS (bZ U (bR ?_))
    refine bM (bC (bA (bA (bC (bA ?_)))))
    have hE:upB l ⟨ke,up⟩=true:=by unfold upB;simp [mY,zW]
    exact bK U U fun wx hm=>⟨bW (by rw [eO6 h30 hsc (by rw [cC.2,hat,hE];rfl)]),hm.g⟩
   refine bN (bG (bD (bI ?_)))
   have hE:upB l ⟨ke,up⟩=false:=by unfold upB;simp [mY];omega
   refine gN U U (bP U (bE ?_))
   exact cQ (k2+1) ⟨by omega,by rw [cC.2,hat,hE];rfl⟩ (by omega) ⟨U,U,U,(cS (by omega)),trivial⟩ (fun _ hm=>hm.pick [] [] [0] U U)
  refine bL 58 U (fH5 mY) ?_
  have mY:jI up=true:=by unfold jI;simpa only [Bool.not_eq_false'] using mY
  have hE:upB l ⟨ke,up⟩=false:=by unfold upB;simp [mY]
  refine dY U (dY U (dY U (dY U (dY U (nS U U (bR (jU U (bN (bG (bD (bI (gN U U (bP U (bE ?_))))))))))))))
  exact cQ (k2+1) ⟨by omega,by rw [cC.2,hat,hE];rfl⟩ (by omega) ⟨U,U,U,(cS (by omega)),trivial⟩ (fun _ hm=>hm.pick [] [] [0] U U)
 refine dE (bF (bF (bY (bD (bH (bS ?_))))))
 have hup:l.any (upB l)=false:=by rw [cC.2,cP4 (by omega)]
 clear cC hk
 have hcl:=dV4 hup
 have hlo:=dV7 h30 hsc hup
 refine bP U (bB (dT bJ0 U) U (bP U (bR (bO ?_))))
 refine dX (γ:=Nat) (fun (k3:Nat)=>k3<=n/\l.any (fun x=>inK x.key (nX l (n) x.key))=(l.drop k3).any (fun x=>inK x.key (nX l (n) x.key))) (fun (k3:Nat)=> [(0,.slice A n c),(66,.slice A n c),(67,.int .i64 ((n:Nat):Int)),(68,.int .i64 ((k3:Nat):Int))]) (fun (k3:Nat)=>fun _=>True) (fun (k3:Nat)=> []) (fun (k3:Nat)=> []) (fun (k3:Nat)=> [bU dV 2 84 w.heap.size none A n l]) (fun (k3:Nat)=>n - k3) 0 ⟨Nat.zero_le _,U⟩ ⟨U,U,U,U,trivial⟩ (fun _ hm=>hm.pick [] [] [0] U U) ?_
 intro k3 cC
 replace cC:k3<=n/\l.any (fun x=>inK x.key (nX l (n) x.key))=(l.drop k3).any (fun x=>inK x.key (nX l (n) x.key)):=cC
 refine bS ?_
 have hlo2:jB l=if l.any (fun x=>inK x.key (nX l (n) x.key))=true then 14 else 0:=by rw [hlo];unfold eA0;rw [hlen]
 refine bB (dD U U) U (bR (bH ?_))
 refine cE U (fun hk=>?_) (fun hk=>?_)
 ·refine bN (bD (bH (bO (bS ?_))))
  obtain ⟨b,off,hA,_,_⟩:=hl.get (by omega)
  subst hA
  obtain ⟨x,hx⟩:∃x,l[k3]?=some x:=⟨_,fJ5 (by omega)⟩
  obtain ⟨ke,up⟩:=x
  have hat:=cT9 (p:=(fun x=>inK x.key (nX l (n) x.key))) hx
  have hk2:ke.size<=1000000:=(hok _ (fK5 hx)).1
  have hix:0<=mH (wI ke) l 0:=by
   rcases qQ (p:=wI ke) l 0 with ⟨_,h⟩|⟨j,x,h,_⟩
   ·have:=h _ (fK5 hx)
    simp [wI] at this
   omega
  refine bB (bT (j:=k3) bJ0 U U (by omega)) U (bB (dO (vs:= [.string ke,.string up]) cT8 U (fun _ hm=>(hm.fact 0 U).1) hx U U) U (dH eN8 U fun g3=>jX (cs':= [.string ke,.string up]) 0 cT8 U U U U (bR (bH (gd (fun wz=>Blk wz g3 84 [.string ke,.string up]/\True) mixed (fun _ hm=>⟨hm.bl 0,trivial⟩) fun z=>wq 0 U (bJ U) (wq 1 U (bQ bM0 U U) (wq 2 U (cN fE U (fun _ hm=>hm.1) U) (wq 4 U (bQ bM0 U U) (wq 5 U (cN fE U (fun _ hm=>hm.1) U) (eC 3 U ?_))))))))))
  refine bL2 (γ:=Option Addr×Nat×Nat) (val:=(fun g=> .slice g.1 g.2.1 g.2.2)) (φ:=(fun g=>(nX l (n) ke).length=g.2.1)) (fun g=>⟨.slice g.1 g.2.1 g.2.2,9,1,g.2.1,(nX l (n) ke).flatMap fH⟩) U fB0 U U (fun wx hm=>(dN4 l _ n c ke wx (hm.fact 0 U).1 hcl hix (by omega)).mono fun _ _ ⟨A2,n2,c2,he,ho,hl2,hg⟩=>⟨(A2,n2,c2),he,hl2,ho,hg⟩) ?_
  rintro ⟨A2,n2,c2⟩ hpl
  dsimp only at hpl ⊢
  have hpb:=cR3 l (n) ke
  refine bE (nw 7 63 (fun _ hm=>⟨hm.bl 0,trivial⟩) fun z=>eC 6 U (cL U eE5 U U (fun wx hm=>(cX4 (nX l (n) ke) A2 n2 c2 ke wx (SlT.ofOwn zC (hm.ownI 0 U) hpl) (by omega))) (bE (nw 7 127 (fun _ hm=>⟨hm.bl 0,trivial⟩) fun z=>jH (bD ?_)))))
  refine dC U (fun hh=>?_) (fun hh=>?_)
  ·have h33:(inK ke (nX l (n) ke))=true:=by simpa using hh
   refine bS (bZ U (bR (bM (bC (bA (bA (bC (bA ?_))))))))
   exact bK U U fun wx hm=>⟨bW (by rw [hlo2,if_pos (by rw [cC.2,hat,h33];rfl)]),hm.g⟩
  have h33:(inK ke (nX l (n) ke))=false:=by simpa using hh
  refine bN (bG (bD (bI (gN U U (bP U (bE ?_))))))
  exact cQ (k3+1) ⟨by omega,by rw [cC.2,hat,h33];rfl⟩ (by omega) ⟨U,U,U,(cS (by omega)),trivial⟩ (fun _ hm=>hm.pick [] [] [0] U U)
 refine dE (bF (bF (bY (bD (bS (bZ U (bR (bM ?_))))))))
 exact bK U U fun wx hm=>⟨bW (by rw [hlo2,if_neg (by rw [cC.2,cP4 (by omega)];decide)]),hm.g⟩
theorem rE {n v:Int} (h:mW n v) (hn:1<=n):0<=v/\v < n:=by unfold mW at h;omega
theorem bE2 (lo hi:Int) (w:World) (B sb m:Nat) (hS:eW 25 w B sb m) (hm:m<=1000000000000) (h1: -4611686018427387904<=lo) (h2:hi<=4611686018427387902) (h3:lo<=4611686018427387902) (h4: -4611686018427387904<=hi):
 Calls prog 8 #[.pointer (some ⟨sb,0,none⟩),.int .i64 lo,.int .i64 hi] w (cK4 25 w B sb (m+1) (fun v=>lo<=v/\(v<=hi∨v=lo))):=by
 by_cases hlt:hi < lo
 ·go_enter func8,ntmps8
  go_wp2_with fail
  go_ret
  exact ⟨lo,⟨by omega,.inr rfl⟩,U,hS.more (by omega),World.grownBy.refl _ _⟩
 ·go_enter func8,ntmps8
  go_wp2_with fail
  refine (mN _ _ B sb m hS hm (by omega) (by omega)).mono ?_
  rintro e w1 ⟨v,hv,rfl,hS1,hg1⟩
  have hv:=rE hv (by omega)
  go_wp2_with fail
  go_ret
  exact ⟨lo+v,⟨by omega,.inl (by omega)⟩,U,hS1,hg1⟩
theorem jZ (n:Int) (w:World) (B sb m:Nat) (hS:eW 25 w B sb m) (hm:m<=1000000000000) (vE: -9223372036854775808<=n) (hn2:n<=9223372036854775807):
 Calls prog 61 #[.pointer (some ⟨sb,0,none⟩),.int .i64 n] w (eY1 25 w B sb (m+1)):=by
 go_enter func61,ntmps61
 go_wp2_with fail
 refine (mN _ _ B sb m hS hm vE hn2).mono ?_
 rintro e w1 ⟨v,hv,rfl,hS1,hg1⟩
 go_wp2_with fail
 go_ret
 exact ⟨_,U,hS1,hg1⟩
theorem eT (xs:List Int) (g c:Nat) (T:TypeId) (w:World) (B sb m:Nat) (hS:eW 25 w B sb m) (hm:m<=1000000000000) (hx:0 < xs.length) (hx2:xs.length<=1000000) (hg:Blk w g T (xs.map (Value.int .i64))) (hne:g≠sb):
 Calls prog 67 #[.pointer (some ⟨sb,0,none⟩),.slice (some ⟨g,0,none⟩) xs.length c] w (cK4 25 w B sb (m+1) (fun v=>v∈xs)):=by
 obtain ⟨n,hn⟩:∃n,n=xs.length:=⟨_,rfl⟩
 rw [<-hn] at hx hx2 ⊢
 have Hn:=Lib.hid hn;clear hn
 go_enter func67,ntmps67
 go_wp2_with fail
 refine (mN _ _ B sb m hS hm (by omega) (by omega)).mono ?_
 rintro e w1 ⟨v,hv,rfl,hS1,hg1⟩
 have hv:=rE hv (by omega)
 obtain ⟨i,rfl⟩:=Int.eq_ofNat_of_zero_le hv.1
 have hi:i < n:=by omega
 have hgb:=hg.grown hg1 (by simpa using hne)
 obtain ⟨x,hx⟩:∃x,xs[i]?=some x:=⟨_,fJ5 (by have:=Hn.out;omega)⟩
 have hc:w1.cell? ⟨g,i,none⟩=some (.int .i64 x):=hgb.cell_of (by simp [hx])
 have uW:x∈xs:=fK5 hx
 clear hx hgb
 go_wp2_with fail
 go_ret
 exact ⟨x,uW,U,hS1,hg1⟩
theorem gV (xs:List ByteArray) (g c:Nat) (T:TypeId) (w:World) (B sb m:Nat) (hS:eW 25 w B sb m) (hm:m<=1000000000000) (hx:0 < xs.length) (hx2:xs.length<=1000000) (hg:Blk w g T (xs.map Value.string)) (hne:g≠sb):
 Calls prog 25 #[.pointer (some ⟨sb,0,none⟩),.slice (some ⟨g,0,none⟩) xs.length c] w (eC6 25 w B sb (m+1) (fun v=>v∈xs)):=by
 obtain ⟨n,hn⟩:∃n,n=xs.length:=⟨_,rfl⟩
 rw [<-hn] at hx hx2 ⊢
 have Hn:=Lib.hid hn;clear hn
 go_enter func25,ntmps25
 go_wp2_with fail
 refine (mN _ _ B sb m hS hm (by omega) (by omega)).mono ?_
 rintro e w1 ⟨v,hv,rfl,hS1,hg1⟩
 have hv:=rE hv (by omega)
 obtain ⟨i,rfl⟩:=Int.eq_ofNat_of_zero_le hv.1
 have hi:i < n:=by omega
 have hgb:=hg.grown hg1 (by simpa using hne)
 obtain ⟨x,hx⟩:∃x,xs[i]?=some x:=⟨_,fJ5 (by have:=Hn.out;omega)⟩
 have hc:w1.cell? ⟨g,i,none⟩=some (.string x):=hgb.cell_of (by simp [hx])
 have uW:x∈xs:=fK5 hx
 clear hx hgb
 go_wp2_with fail
 go_ret
 exact ⟨x,uW,U,hS1,hg1⟩
theorem mI (lo hi:Int) (w:World) (B sb m:Nat) (hS:eW 25 w B sb m) (hm:m<=900000000000) (h1: -1000000000000000<=lo) (h2:hi<=1000000000000000) (h3:lo<=hi):
 Calls prog 69 #[.pointer (some ⟨sb,0,none⟩),.int .i64 lo,.int .i64 hi] w (cK4 25 w B sb (m+2) (fun v=> -2000000000000000<=v/\v<=2000000000000000)):=by
 go_enter func69,ntmps69
 go_wp2_with fail
 refine (jZ _ _ B sb m hS (by omega) (by omega) (by omega)).mono ?_
 rintro e w1 ⟨b,rfl,hS1,hg1⟩
 rcases b with _|_
 ·go_wp2_with fail
  refine (bE2 _ _ _ B sb (m+1) hS1 (by omega) (by omega) (by omega) (by omega) (by omega)).mono ?_
  rintro e w2 ⟨v,hv,rfl,hS2,hg2⟩
  go_wp2_with fail
  go_ret
  exact ⟨v,by omega,rfl,hS2,grow_trans hg1 hg2⟩
 ·go_wp2_with fail
  refine (eT [lo - 1,hi+1,lo,hi, -1099511627776,1099511627776] _ _ _ _ B sb (m+1) (hS1.alloc _) (by omega) (by simp) (by simp) (Blk.new _ _ _) (by have:=hS1.lt;omega)).mono ?_
  rintro e w2 ⟨v,hv,rfl,hS2,hg2⟩
  go_wp2_with fail
  go_ret
  refine ⟨v,by simp at hv;omega,rfl,hS2,grow_trans hg1 (grow_trans (grow_alloc (World.grownBy.refl _ _) _) hg2)⟩
theorem bA4 {α:Type} {f:Option α->α->Int} {x:α}:∀{l:List α} {p:Option α},scanE f p l=0->f p x=0->(∀y∈l,f (some y) x=0)->scanE f p (l++ [x])=0
 | [],p,_,h,_=>by
  show (if f p x=0 then 0 else f p x)=0
  rw [if_pos h]
 |y::r,p,h,_,hq=>by
  have h1:f p y=0:=by
   unfold scanE at h
   by_cases e:f p y=0
   ·exact e
   ·rw [if_neg e] at h;exact h
  show (if f p y=0 then scanE f (some y) (r++ [x]) else f p y)=0
  rw [if_pos h1]
  refine bA4 ?_ (hq y (List.mem_cons_self ..)) (fun z hz=>hq z (List.mem_cons_of_mem _ hz))
  unfold scanE at h
  rw [if_pos h1] at h;exact h
theorem bG3 {α:Type} {l:List α} {i:Nat} {x:α} (h:x∈l.take i):x∈l.take (i+1):=by
 obtain ⟨j,hj⟩:=List.getElem?_of_mem h
 rw [List.getElem?_take] at hj
 split at hj
 ·exact fK5 (i:=j) (by rw [List.getElem?_take,if_pos (by omega)];exact hj)
 ·cases hj
theorem bH8 {α:Type} {l:List α} {i:Nat} {x:α} (h:l[i]?=some x):x∈l.take (i+1):=
 fK5 (i:=i) (by rw [List.getElem?_take,if_pos (by omega)];exact h)
def K4:List ByteArray:= [⟨#[118,49]⟩,⟨#[118,50]⟩,⟨#[118,51]⟩,⟨#[118,52]⟩]
def eR5 (l:List ByteArray):Bool:=(List.range l.length).all fun i=>(l[i]?.elim true fun k=>keyB k&&(l.take i).all fun a=> !leB k a)
theorem fM2:eR5 K4=true:=by decide+kernel
theorem eQ0 {l:List ByteArray} {i:Nat} {k:ByteArray} (h:eR5 l=true) (hk:l[i]?=some k):keyB k=true/\∀a∈l.take i,leB k a=false:=by
 have hi:=(List.getElem?_eq_some_iff.1 hk).1
 have h1:=(List.all_eq_true.1 h) i (List.mem_range.2 hi)
 rw [hk] at h1
 have h2:(keyB k&&(l.take i).all fun a=> !leB k a)=true:=h1
 rw [Bool.and_eq_true] at h2
 refine ⟨h2.1,fun a ha=>?_⟩
 have h3:=(List.all_eq_true.1 h2.2) a ha
 cases h4:leB k a with
 |false=>rfl
 |true=>rw [h4] at h3;cases h3
def dU0:ByteArray:=⟨#[98,105,103]⟩
def cB8:ByteArray:=⟨#[109,97,120,105]⟩
def dP9:ByteArray:=⟨#[109,105,100,105]⟩
def fC2:ByteArray:=⟨#[109,105,110,105]⟩
def kNo:ByteArray:=⟨#[]⟩
def eL6 (u1 u2 u3:ByteArray):List Cs:= [⟨dU0,kNo⟩,⟨cB8,u1⟩,⟨dP9,u2⟩,⟨fC2,u3⟩]
def ClG (l:List Cs):Prop:=∃u1 u2 u3,u1∈ [kNo,dU0]/\u2∈ [kNo,dU0,cB8]/\u3∈ [kNo,dU0,cB8,dP9]/\l=eL6 u1 u2 u3
theorem dU4:ClG [⟨⟨#[98,105,103]⟩,⟨#[]⟩⟩,⟨⟨#[109,97,120,105]⟩,⟨#[]⟩⟩,⟨⟨#[109,105,100,105]⟩,⟨#[]⟩⟩,⟨⟨#[109,105,110,105]⟩,⟨#[]⟩⟩]:=
 ⟨kNo,kNo,kNo,List.mem_cons_self ..,List.mem_cons_self ..,List.mem_cons_self ..,rfl⟩
theorem eM6:([kNo,dU0].all fun u1=> [kNo,dU0,cB8].all fun u2=> [kNo,dU0,cB8,dP9].all fun u3=>decide (jB (eL6 u1 u2 u3)=0))=true:=by decide+kernel
theorem dT4 {l:List Cs} (h:ClG l):jB l=0:=by
 obtain ⟨u1,u2,u3,h1,h2,h3,rfl⟩:=h
 exact of_decide_eq_true (List.all_eq_true.1 (List.all_eq_true.1 (List.all_eq_true.1 eM6 u1 h1) u2 h2) u3 h3)
theorem eI2 {l:List Cs} {i j:Nat} {y0 y1 z0 z1:ByteArray} (h:ClG l) (hj:j < i) (hi:i < 4) (hy:l[j]?=some ⟨y0,y1⟩) (hz:l[i]?=some ⟨z0,z1⟩):ClG (l.set i ⟨z0,y0⟩):=by
 obtain ⟨u1,u2,u3,h1,h2,h3,rfl⟩:=h
 unfold eL6 at hy hz ⊢
 have hc:i=1∨i=2∨i=3:=by omega
 have hd:j=0∨j=1∨j=2:=by omega
 rcases hc with rfl|rfl|rfl <;> rcases hd with rfl|rfl|rfl <;> try omega
 all_goals
  simp only [List.getElem?_cons_zero,List.getElem?_cons_succ,Option.some.injEq,Cs.mk.injEq] at hy hz
  obtain ⟨rfl,_⟩:=hy
  obtain ⟨rfl,_⟩:=hz
  first
   |exact ⟨_,u2,u3,List.mem_cons_of_mem _ (List.mem_cons_self ..),h2,h3,rfl⟩
   |exact ⟨u1,_,u3,h1,List.mem_cons_of_mem _ (List.mem_cons_self ..),h3,rfl⟩
   |exact ⟨u1,_,u3,h1,List.mem_cons_of_mem _ (List.mem_cons_of_mem _ (List.mem_cons_self ..)),h3,rfl⟩
   |exact ⟨u1,u2,_,h1,h2,List.mem_cons_of_mem _ (List.mem_cons_self ..),rfl⟩
   |exact ⟨u1,u2,_,h1,h2,List.mem_cons_of_mem _ (List.mem_cons_of_mem _ (List.mem_cons_self ..)),rfl⟩
   |exact ⟨u1,u2,_,h1,h2,List.mem_cons_of_mem _ (List.mem_cons_of_mem _ (List.mem_cons_of_mem _ (List.mem_cons_self ..))),rfl⟩
def VhG (cl:List Cs) (i:Nat) (l:List Vh):Prop:=scanE (vhE cl) none l=0/\∀x∈l,x.key∈K4.take i
theorem eR4 {cl:List Cs} {i:Nat}:VhG cl i []:=⟨rfl,fun _ h=>by cases h⟩
theorem cF9 {cl:List Cs} {p:Option Vh} {x:Vh} (h1:keyB x.key=true) (h2:cA6 p x=false) (h3:¬mH (wI x.cls) cl 0 < 0):vhE cl p x=0:=by
 unfold vhE
 rw [h1,h2,if_neg h3];rfl
theorem dU7 {cl:List Cs} {j:Nat} {c:Cs} (h:cl[j]?=some c):¬mH (wI c.key) cl 0 < 0:=by
 rcases qQ (p:=wI c.key) cl 0 with ⟨_,h2⟩|⟨j,y,h2,_⟩
 ·have:=h2 c (fK5 h)
  unfold wI at this
  simp at this
 ·omega
theorem eO1 {cl:List Cs} {i j:Nat} {l:List Vh} {k c0 c1:ByteArray} (h:VhG cl i l) (hk:K4[i]?=some k) (hc:cl[j]?=some ⟨c0,c1⟩):VhG cl (i+1) (l++ [⟨k,c0⟩]):=by
 obtain ⟨h1,h2⟩:=eQ0 fM2 hk
 refine ⟨bA4 h.1 (cF9 h1 U (dU7 hc)) (fun y hy=>cF9 h1 (h2 _ (h.2 y hy)) (dU7 hc)),fun x hx=>?_⟩
 rcases List.mem_append.1 hx with hx|hx
 ·exact bG3 (h.2 x hx)
 ·rw [List.mem_singleton.1 hx];exact bH8 hk
theorem cP7 {sl:List St} {cl:List Cs} {vl:List Vh} {i:Nat} (hs:stationsE sl=0) (hc:jB cl=0) (hv:VhG cl i vl) (hl:vl.length<=500):mK sl cl vl []=0:=by
 unfold mK bK3
 rw [hs,hc,if_neg (by omega),hv.1];rfl
theorem eP6 {l:List Cs} {x:Cs} {j:Nat} (h:∀y∈l,uF y) (hx:uF x):∀y∈l.set j x,uF y:=fun y hy=>by
 rcases List.mem_or_eq_of_mem_set hy with hy|rfl
 ·exact h y hy
 ·exact hx
theorem cM2 (w:World) (B sb m:Nat) (hS:eW 25 w B sb m) (hm:m<=100000000000):
 Calls prog 24 #[.pointer (some ⟨sb,0,none⟩)] w (fun e w'=>∃(A:Option Addr) (c:Nat) (l:List Cs),e=.returned (.slice A 4 c)/\w'.ownsRow w.heap.size 84 2 (.slice A 4 c) 4 (l.flatMap dV)/\(l.length=4/\ClG l)/\(∀x∈l,uF x)/\eW 25 w' B sb (m+20)/\w.grownBy w' (some sb)):=by
 refine cV ⟨35,w,(some sb), []⟩ func24 U ntmps24 U (bH5 (X:= []) hS cY cZ) (bS (bZ U (bR (bS (bB (dJ (cs:= [.string ⟨#[98,105,103]⟩,.string ⟨#[]⟩]) U (by kernel_rfl)) U (bB (dJ (cs:= [.string ⟨#[109,97,120,105]⟩,.string ⟨#[]⟩]) U (by kernel_rfl)) U (bB (dJ (cs:= [.string ⟨#[109,105,100,105]⟩,.string ⟨#[]⟩]) U (by kernel_rfl)) U (bB (dJ (cs:= [.string ⟨#[109,105,110,105]⟩,.string ⟨#[]⟩]) U (by kernel_rfl)) U (jF 84 [.string ⟨#[98,105,103]⟩,.string ⟨#[]⟩,.string ⟨#[109,97,120,105]⟩,.string ⟨#[]⟩,.string ⟨#[109,105,100,105]⟩,.string ⟨#[]⟩,.string ⟨#[109,105,110,105]⟩,.string ⟨#[]⟩] fun g1=>bZ U (bR (bH (bS (bP U (bB (dT bJ0 U) U (bL 11 (v':= .int .i64 4) U U (bP U (bR (bO ?_))))))))))))))))))
 refine dE9 (sz:=2) (n:=4) 0 [] U U U (by unfold maxLen;omega) ?_
 refine dX (γ:=Nat×List Cs) (fun g=>g.1<=4/\(g.2.length=4/\ClG g.2)/\(∀x∈g.2,uF x)) (fun g=> [(0,.pointer (some ⟨sb,0,none⟩)),(2,.slice none 0 0),(3,.slice (some ⟨g1,0,none⟩) 4 4),(11,.int .i64 4),(12,.int .i64 ((g.1:Nat):Int))]) (fun g=>fun w=>eW 25 w B sb (m+2 *g.1)) (fun g=> []) (fun g=> [⟨.slice (some ⟨g1,0,none⟩) 4 4,84,2,4,g.2.flatMap dV⟩]) (fun g=> []) (fun g=>4 - g.1) (0, [⟨⟨#[98,105,103]⟩,⟨#[]⟩⟩,⟨⟨#[109,97,120,105]⟩,⟨#[]⟩⟩,⟨⟨#[109,105,100,105]⟩,⟨#[]⟩⟩,⟨⟨#[109,105,110,105]⟩,⟨#[]⟩⟩]) ⟨Nat.zero_le _,⟨U,dU4⟩,by simp [uF] <;> decide⟩ ⟨U,U,U,U,U,trivial⟩ (fun _ hm=>(hm.more U (by first|omega|(dsimp only;omega))).pick [] [0] [] U U) ?_
 rintro ⟨i,l⟩ cC
 replace cC:i<=4/\(l.length=4/\ClG l)/\(∀x∈l,uF x):=cC
 dsimp only
 refine bS ?_
 obtain ⟨hi0,⟨hl4,hcg⟩,hok⟩:=cC
 refine bB (dD U U) U (bR (bH ?_))
 refine cE U (fun hi=>?_) (fun hi=>?_)
 ·refine bN (bD (bH (bO (bS (bP U (bZ U (bR (bS (bP U ?_)))))))))
  refine bB (eJ U U) U (bP U ?_)
  rcases Bool.eq_false_or_eq_true (decide (0 < ((i:Nat):Int))) with h0|h0
  ·refine bL 17 U (fH5 h0) ?_
   have h0:=of_decide_eq_true h0
   refine eG U (bP U (eG U (dM (γ:=Bool) (val:=fun v=> .bool v) (φ:=fun v=>True) U xV U U U U (fun wx hm=>((jZ _ wx B sb _ hm.k (by omega) (by omega) (by omega)).mono fun _ _ ⟨v,he,hS,hg⟩=>⟨v,trivial,he,hS,hg⟩)) fun f2 _=>eG U (bB (cF U) U (mQ U U (bR ?_))))))
   refine dC U (fun hh=>?_) (fun hh=>?_)
   ·have hf:f2=false:=by simpa using hh
    refine bI (bP U (bP U (bP U (bP U (bP U (dM (γ:=Int) (val:=fun v=> .int .i64 v) (φ:=fun v=>mW ((i:Nat):Int) v) U bR9 U U U U (fun wx hm=>(mN _ wx B sb _ hm.k (by omega) (by omega) (by omega))) fun vj hvj=>?_))))))
    have hj:=rE hvj (by omega)
    obtain ⟨j,rfl⟩:=Int.eq_ofNat_of_zero_le hj.1
    have hji:j < 4:=by omega
    obtain ⟨y,hy⟩:∃y,l[j]?=some y:=⟨_,fJ5 (by omega)⟩
    obtain ⟨z,hz⟩:∃z,l[i]?=some z:=⟨_,fJ5 (by omega)⟩
    obtain ⟨y0,y1⟩:=y
    obtain ⟨z0,z1⟩:=z
    obtain ⟨hy0,hy1⟩:=hok _ (fK5 hy)
    obtain ⟨hz0,hz1⟩:=hok _ (fK5 hz)
    refine bB (bT (j:=j) bJ0 U U (by omega)) U (dW bM0 U U (bB (dL (k:=0) (v:= .string y0) fE U (fun _ hm=>(SlT.ofOwn dA0 (hm.ownI 0 U) hl4)) hy U U) U (bB (bT (j:=i) bJ0 U U (by omega)) U (dW bN0 U U (gK (l:=l) (j:=i) (r:=1) (el:=⟨z0,z1⟩) (el':=⟨z0,y0⟩) 0 fE U U U U dA0 U hz hl4 (show 1 < 2 by decide) U U (bE (bG (bD (bI (gN U U (bP U (bE ?_))))))))))))
    exact cQ (i+1,l.set i ⟨z0,y0⟩) ⟨by dsimp only;omega,⟨by simp [hl4],eI2 hcg (show j < i by omega) (by omega) hy hz⟩,eP6 hok ⟨hz0,hy0⟩⟩ (by dsimp only;omega) ⟨U,U,U,U,(cS (by omega)),trivial⟩ (fun _ hm=>(hm.more U (by first|omega|(dsimp only;omega))).pick [] [0] [] U U)
   have hf:f2=true:=by simpa using hh
   refine bN (bG (bD (bI (gN U U (bP U (bE ?_))))))
   exact cQ (i+1,l) ⟨by dsimp only;omega,⟨hl4,hcg⟩,hok⟩ (by dsimp only;omega) ⟨U,U,U,U,(cS (by omega)),trivial⟩ (fun _ hm=>(hm.more U (by first|omega|(dsimp only;omega))).pick [] [0] [] U U)
  refine bL 17 U (fH5 h0) (dY U (dY U (dY U (nS U U (bR (jU U (bN (bG (bD (bI (gN U U (bP U (bE ?_)))))))))))))
  exact cQ (i+1,l) ⟨by dsimp only;omega,⟨hl4,hcg⟩,hok⟩ (by dsimp only;omega) ⟨U,U,U,U,(cS (by omega)),trivial⟩ (fun _ hm=>(hm.more U (by first|omega|(dsimp only;omega))).pick [] [0] [] U U)
 refine dE (bF (bF (bY (bD (bS (bP U (bZ U (bR (bM ?_)))))))))
 exact bK U U fun wx hm=>⟨_,4,l,U,hm.ownI 0 U,⟨hl4,hcg⟩,hok,hm.k.more (by omega),hm.g⟩
def noB (cs:List Cs) (k:ByteArray):Bool:=decide (mH (wI k) cs 0 < 0)
def xK (cs:List Cs) (l:List Bk):Int:=if bZ7 l≠0 then bZ7 l else if l.any (fun b=>noB cs b.cls)=true then 8 else 0
def jR (cs:List Cs) (l:List Bk):Int:=dI [jB cs,xK cs l]
theorem bD1 (ke:ByteArray) (up:ByteArray) (gk:Nat) (k:ByteArray) (w:World) (hk:Blk w gk 9 [.string k]):
 Calls prog 103 #[.agg #[.string ke,.string up],.pointer (some ⟨gk,0,none⟩)] w (fun e w'=>e=.returned (.bool (wI k ⟨ke,up⟩))/\w.grownBy w' none):=by
 refine cV ⟨8,w,none, []⟩ func103 U ntmps103 U (gR (X:= [fL w.heap.size none gk 9 [.string k]]) (cG hk.old cY) (cH fL.lasts cZ)) (bS (fG U U U fun g1=>bZ U (bR (bS (dW bM0 U U (eI fE 0 U U U (bB (cN (v:= .string k) fE U (fun _ hm=>(hm.fact 0 U).2) U) U (bB (eR U U) U (bZ U (bR (bM ?_)))))))))))
 exact bK U U fun wx hm=>⟨U,hm.g⟩
theorem zU (l:List Cs) (A:Option Addr) (n c0:Nat) (gk:Nat) (k:ByteArray) (w:World) (hl:SlT dV 2 84 w A n l) (hn:n<=1000000) (hk:Blk w gk 9 [.string k]):
 Calls prog 152 #[.slice A n c0,.func (.func 103) #[] #[.pointer (some ⟨gk,0,none⟩)]] w (nC w (mH (wI k) l 0)):=by
 refine cV ⟨19,w,none, []⟩ func152 U ntmps152 U (gR (X:= [bU dV 2 84 w.heap.size none A n l,fL w.heap.size none gk 9 [.string k]]) (cG hl.old (cG hk.old cY)) (cH bU.lasts (cH fL.lasts cZ))) (bS ?_)
 have hlen:=hl.len
 refine bZ U (bR (bH (bS (bP U (bB (dT bJ0 U) U (bP U (bR (bO ?_))))))))
 refine dX (γ:=Nat) (fun (i:Nat)=>i<=n/\mH (wI k) l 0=mH (wI k) (l.drop i) i) (fun (i:Nat)=> [(0,.slice A n c0),(1,.func (.func 103) #[] #[.pointer (some ⟨gk,0,none⟩)]),(7,.int .i64 ((n:Nat):Int)),(8,.int .i64 ((i:Nat):Int))]) (fun (i:Nat)=>fun _=>True) (fun (i:Nat)=> []) (fun (i:Nat)=> []) (fun (i:Nat)=> [bU dV 2 84 w.heap.size none A n l,fL w.heap.size none gk 9 [.string k]]) (fun (i:Nat)=>n - i) 0 ⟨Nat.zero_le _,U⟩ ⟨U,U,U,U,trivial⟩ (fun _ hm=>hm.pick [] [] [0,1] U U) ?_
 intro i cC
 replace cC:i<=n/\mH (wI k) l 0=mH (wI k) (l.drop i) i:=cC
 refine bS (bB (dD U U) U (bR (bH ?_)))
 refine cE U (fun hi=>?_) (fun hi=>?_)
 ·refine bN (bD (bH (bO (bS ?_))))
  obtain ⟨b,off,hA,_,_⟩:=hl.get (by omega)
  subst hA
  obtain ⟨x,hx⟩:∃x,l[i]?=some x:=⟨_,fJ5 (by omega)⟩
  obtain ⟨ke,up⟩:=x
  have hat:=bX0 (p:=wI k) hx
  refine bP U (bZ U (bR (bS (bP U (bP U (bP U (bB (bT (j:=i) bJ0 U U (by omega)) U (bB (dO (vs:= [.string ke,.string up]) cT8 U (fun _ hm=>(hm.fact 0 U).1) hx U U) U (cL U eH9 U U (fun wx hm=>(bD1 ke up gk k wx (hm.fact 1 U).2)) (bR ?_))))))))))
  refine dC U (fun hh=>?_) (fun hh=>?_)
  ·have hq:(wI k ⟨ke,up⟩)=true:=by simpa using hh
   refine bS (bP U (bZ U (bR (bM (bC (bA (bA (bC (bA ?_)))))))))
   exact bK U U fun wx hm=>⟨bW (by rw [cC.2,hat,if_pos hq]),hm.g⟩
  have hq:(wI k ⟨ke,up⟩)=false:=by simpa using hh
  refine bN (bG (bD (bI (gN U U (bP U (bE ?_))))))
  exact cQ (i+1) ⟨by omega,by rw [cC.2,hat,if_neg (by rw [hq];decide)]⟩ (by omega) ⟨U,U,U,(cS (by omega)),trivial⟩ (fun _ hm=>hm.pick [] [] [0,1] U U)
 refine dE (bF (bF (bY (bD (bS (bZ U (bL 4 (v':= .int .i64 (-1)) U U (bR (bM ?_)))))))))
 exact bK U U fun wx hm=>⟨bW (by rw [cC.2,List.drop_eq_nil_of_le (by omega)];rfl),hm.g⟩
theorem dF9 (l:List Cs) (A:Option Addr) (n c0:Nat) (gk:Nat) (k:ByteArray) (w:World) (hl:SlT dV 2 84 w A n l) (hn:n<=1000000) (hk:Blk w gk 9 [.string k]):
 Calls prog 102 #[.slice A n c0,.func (.func 103) #[] #[.pointer (some ⟨gk,0,none⟩)]] w (fun e w'=>e=.returned (.bool (decide (0<=mH (wI k) l 0)))/\w.grownBy w' none):=by
 refine cV ⟨9,w,none, []⟩ func102 U ntmps102 U (gR (X:= [bU dV 2 84 w.heap.size none A n l,fL w.heap.size none gk 9 [.string k]]) (cG hl.old (cG hk.old cY)) (cH bU.lasts (cH fL.lasts cZ))) (bS (bZ U (bR (bS (bP U (bP U (cL U eF5 U U (fun wx hm=>(zU l A n c0 gk k wx (hm.fact 0 U).1 hn (hm.fact 1 U).2)) (bB (mO U U) U (bZ U (bR (bM ?_)))))))))))
 exact bK U U fun wx hm=>⟨U,hm.g⟩
theorem cS5 (cs:List Cs) (A0:Option Addr) (n0 c0:Nat) (k:ByteArray) (w:World) (hcs:SlT dV 2 84 w A0 n0 cs) (_hco:∀x∈cs,uF x) (hn0:n0<=1000):
 Calls prog 52 #[.slice A0 n0 c0,.string k] w (fun e w'=>e=.returned (.bool (!noB cs k))/\w.grownBy w' none):=by
 refine cV ⟨8,w,none, []⟩ func52 U ntmps52 U (gR (X:= [bU dV 2 84 w.heap.size none A0 n0 cs]) (cG hcs.old cY) (cH bU.lasts cZ)) (bS (fG U U U fun g1=>bZ U (bR (bS (bP U (bB (pW U U) U (cL U eG9 U U (fun wx hm=>(dF9 cs A0 n0 c0 _ k wx (hm.fact 0 U).1 (by omega) (hm.blkI 0 U))) (bZ U (bR (bM ?_))))))))))
 exact bK U U fun wx hm=>⟨by unfold noB;cases h:decide (mH (wI k) cs 0 < 0) <;> simp at h ⊢ <;> omega,hm.g⟩
theorem cF7 (cs:List Cs) (A0:Option Addr) (n0 c0:Nat) (l:List Bk) (A:Option Addr) (n c:Nat) (w:World) (hcs:SlT dV 2 84 w A0 n0 cs) (hco:∀x∈cs,uF x) (hn0:n0<=1000) (hl:SlT bC0 6 146 w A n l) (hok:∀x∈l,dC7 x) (hn:n<=1000):
 Calls prog 101 #[.slice A0 n0 c0,.slice A n c] w (nC w (xK cs l)):=by
 refine cV ⟨25,w,none, []⟩ func101 U ntmps101 U (gR (X:= [bU dV 2 84 w.heap.size none A0 n0 cs,bU bC0 6 146 w.heap.size none A n l]) (cG hcs.old (cG hl.old cY)) (cH bU.lasts (cH bU.lasts cZ))) (bS ?_)
 have hlen:=hl.len
 obtain ⟨FE,hFE⟩:∃E,E=bZ7 l:=⟨_,rfl⟩
 refine bZ U (bR (bH (bS (bP U (cL (v:= .int .i64 FE) U fC0 U U (fun wx hm=>(by rw [hFE];exact dI0 l A n c wx (hm.fact 1 rfl).1 hok (by omega))) (bZ U (bR (bS (bP U (bB (gX U U) U (bR ?_)))))))))))
 refine gI U (fun h1=>?_) (fun h1=>?_)
 ·refine bS (bP U (bZ U (bR ?_)))
  refine bM (bA ?_)
  exact bK U U fun wx hm=>⟨bW (by unfold xK;rw [<-hFE,if_pos (by simpa using h1)]),hm.g⟩
 refine bN (bD (bH (bS ?_)))
 have hke:xK cs l=if l.any (fun b=>noB cs b.cls)=true then 8 else 0:=by unfold xK;rw [<-hFE,if_neg (by simpa using h1)]
 refine bP U (bB (dT dZ4 U) U (bP U (bR (bO ?_))))
 refine dX (γ:=Nat) (fun (i:Nat)=>i<=n/\l.any (fun b=>noB cs b.cls)=(l.drop i).any (fun b=>noB cs b.cls)) (fun (i:Nat)=> [(0,.slice A0 n0 c0),(13,.slice A n c),(14,.int .i64 ((n:Nat):Int)),(15,.int .i64 ((i:Nat):Int))]) (fun (i:Nat)=>fun _=>True) (fun (i:Nat)=> []) (fun (i:Nat)=> []) (fun (i:Nat)=> [bU dV 2 84 w.heap.size none A0 n0 cs,bU bC0 6 146 w.heap.size none A n l]) (fun (i:Nat)=>n - i) 0 ⟨Nat.zero_le _,U⟩ ⟨U,U,U,U,trivial⟩ (fun _ hm=>hm.pick [] [] [0,1] U U) ?_
 intro i cC
 replace cC:i<=n/\l.any (fun b=>noB cs b.cls)=(l.drop i).any (fun b=>noB cs b.cls):=cC
 refine bS (bB (dD U U) U (bR (bH ?_)))
 refine cE U (fun hi=>?_) (fun hi=>?_)
 ·refine bN (bD (bH (bO (bS ?_))))
  obtain ⟨b,off,hA,_,_⟩:=hl.get (by omega)
  subst hA
  obtain ⟨x,hx⟩:∃x,l[i]?=some x:=⟨_,fJ5 (by omega)⟩
  obtain ⟨ke,cl,fr,tt,md,od⟩:=x
  have hat:=cT9 (p:=(fun b=>noB cs b.cls)) hx
  refine bB (bT (j:=i) dZ4 U U (by omega)) U (bB (dO (vs:= [.string ke,.string cl,.int .i64 fr,.int .i64 tt,.int .i64 md,.int .i64 od]) bL8 U (fun _ hm=>(hm.fact 1 U).1) hx U U) U (dH dI4 U fun g1=>jX (cs':= [.string ke,.string cl,.int .i64 fr,.int .i64 tt,.int .i64 md,.int .i64 od]) 0 bL8 U U U U (bR (bS (bP U (dW dB3 U U (eI fE 0 U U U (cL U fZ3 U U (fun wx hm=>(cS5 cs A0 n0 c0 cl wx (hm.fact 0 U).1 hco hn0)) (bB (cF U) U (bR ?_))))))))))
  refine dC U (fun hh=>?_) (fun hh=>?_)
  ·have hq:(!noB cs cl)=false:=by simpa using hh
   refine bS ?_
   have hb:noB cs cl=true:=by simpa using hq
   refine bZ U (bR (bM (bC (bA (bA (bC (bA ?_)))))))
   exact bK U U fun wx hm=>⟨bW (by rw [hke,if_pos (by rw [cC.2,hat,hb];rfl)]),hm.g⟩
  have hq:(!noB cs cl)=true:=by simpa using hh
  refine bN (bG (bD (bI ?_)))
  have hb:noB cs cl=false:=by simpa using hq
  refine gN U U (bP U (bE ?_))
  exact cQ (i+1) ⟨by omega,by rw [cC.2,hat,hb];rfl⟩ (by omega) ⟨U,U,U,(cS (by omega)),trivial⟩ (fun _ hm=>hm.pick [] [] [0,1] U U)
 refine dE (bF (bF (bY (bD (bS (bZ U (bR (bM ?_))))))))
 exact bK U U fun wx hm=>⟨bW (by rw [hke,if_neg (by rw [cC.2,cP4 (by omega)];decide)]),hm.g⟩
theorem cU9 (cs:List Cs) (A0:Option Addr) (n0 c0:Nat) (l:List Bk) (A:Option Addr) (n c:Nat) (w:World) (hcs:SlT dV 2 84 w A0 n0 cs) (hco:∀x∈cs,uF x) (hn0:n0<=1000) (hl:SlT bC0 6 146 w A n l) (hok:∀x∈l,dC7 x) (hn:n<=1000):
 Calls prog 51 #[.slice A0 n0 c0,.slice A n c] w (nC w (jR cs l)):=by
 refine cV ⟨12,w,none, []⟩ func51 U ntmps51 U (gR (X:= [bU dV 2 84 w.heap.size none A0 n0 cs,bU bC0 6 146 w.heap.size none A n l]) (cG hcs.old (cG hl.old cY)) (cH bU.lasts (cH bU.lasts cZ))) (bS ?_)
 obtain ⟨CE,hCE⟩:∃E,E=jB cs:=⟨_,rfl⟩
 obtain ⟨KE,hKE⟩:∃E,E=xK cs l:=⟨_,rfl⟩
 refine bZ U (bR (bS (bP U (cL (v:= .int .i64 CE) U eA5 U U (fun wx hm=>(by rw [hCE];exact xH cs A0 n0 c0 wx (hm.fact 0 rfl).1 hco (by omega))) (bP U (bP U (cL (v:= .int .i64 KE) U eF9 U U (fun wx hm=>(by rw [hKE];exact cF7 cs A0 n0 c0 l A n c wx (hm.fact 0 rfl).1 hco hn0 (hm.fact 1 rfl).1 hok hn)) (jF 48 [.int .i64 CE,.int .i64 KE] fun g1=>dA U wJ U U (fun wx hm=>(fJ [CE,KE] _ _ _ wx (hm.blkI 0 U) (by simp))) (bZ U (bR (bM ?_)))))))))))
 exact bK U U fun wx hm=>⟨bW (by unfold jR;rw [hCE,hKE]),hm.g⟩
theorem cN7 {a b c:Int} (h:dI [a,b,c]=0):a=0/\b=0/\c=0:=
 ⟨Classical.byContradiction fun hc=>hc (pU h a (by simp)),Classical.byContradiction fun hc=>hc (pU h b (by simp)),Classical.byContradiction fun hc=>hc (pU h c (by simp))⟩
noncomputable def cX6 (cl:List Cs) (s:As) (b:Bk):As:=itC (jR cl [b]=0/\(s.fb b.key).isSome=false/\(s.gh b.key).isSome=false) { s with fb:=fP s.fb b.key b } s
theorem cO4 {σ:Os} {k:ByteArray}:((fY σ).gh k).isSome=(σ.fh k).isSome:=by show ((σ.fh k).map hrG).isSome=_;rw [Option.isSome_map]
theorem rG {b:Bool} {n:Int} (hn:n≠0) (h:dK b n=0):b=false:=by
 cases b
 ·rfl
 ·exact absurd h hn
theorem dJ7 (w0:World) (u0 u2 u3 u4 u5 u6 u7 u8 u9 jK jL jM jN jO jP:Value) (go gv gs fT fQ fS fU gC:Nat) (cA:Option Addr) (cn cc:Nat) (cl:List Cs) (V:ByteArray->Option ByteArray) (T:ByteArray->Option Bool) (rv:Value) (rn:Nat) (rx:List Value) (hd: [gv,gs,fT,fQ,fS,fU,gC].Nodup) (q1 q2:Nat) (d1 d2:List Value) (A1 A2:World->Prop) (hA1:bL3 A1) (hA2:bL3 A2) (fp:ByteArray->Option Int) (σ:Os) (lv:Value) (at_:Int) (b0 b1:ByteArray) (b2 b3 b4 b5:Int) (w:World) (hok:dC7 ⟨b0,b1,b2,b3,b4,b5⟩) (hco:∀x∈cl,uF x) (hcn:cn<=1000) (hfb:Few σ.fb 499) (hm:gM ⟨0,w0,none, [68,9,3]⟩ (fun _=>True) [(go,119, [u0,.slice cA cn cc,u2,u3,u4,u5,u6,u7,u8,u9,jK,jL,jM,jN,jO,jP,.map (some gv),.map (some gs),.map (some fT),lv,.map (some fQ),.map (some fS),.map (some fU),.map (some gC),rv]),(q1,271,d1),(q2,171,d2)] [⟨lv,74,5,σ.lg.length,σ.lg.flatMap dP⟩,⟨rv,226,2,rn,rx⟩] [bV vS dN w0.heap.size gv (V),bV vB dN w0.heap.size gs (T),bV qU dN w0.heap.size fT (σ.fs),bV vB nD w0.heap.size fQ (σ.fa),bV qA dN w0.heap.size fS (σ.fb),bV nH dN w0.heap.size fU (σ.fh),bV vI dN w0.heap.size gC (fp),gD 68 σ.fh,bU dV 2 84 w0.heap.size none cA cn cl,TxtO w0.heap.size none,A1,A2] w):
 Calls prog 172 #[.pointer (some ⟨go,0,none⟩),.agg #[.string b0,.string b1,.int .i64 b2,.int .i64 b3,.int .i64 b4,.int .i64 b5]] w (fun e w'=>∃lv' σ' E,e=.returned (.int .i64 E)/\(kU V T (fun b=>jR cl [b]=0) at_ σ σ'/\fY σ'=cX6 cl (fY σ) ⟨b0,b1,b2,b3,b4,b5⟩)/\gM ⟨0,w0,none, [68,9,3]⟩ (fun _=>True) [(go,119, [u0,.slice cA cn cc,u2,u3,u4,u5,u6,u7,u8,u9,jK,jL,jM,jN,jO,jP,.map (some gv),.map (some gs),.map (some fT),lv',.map (some fQ),.map (some fS),.map (some fU),.map (some gC),rv]),(q1,271,d1),(q2,171,d2)] [⟨lv',74,5,σ'.lg.length,σ'.lg.flatMap dP⟩,⟨rv,226,2,rn,rx⟩] [bV vS dN w0.heap.size gv (V),bV vB dN w0.heap.size gs (T),bV qU dN w0.heap.size fT (σ'.fs),bV vB nD w0.heap.size fQ (σ'.fa),bV qA dN w0.heap.size fS (σ'.fb),bV nH dN w0.heap.size fU (σ'.fh),bV vI dN w0.heap.size gC (fp),gD 68 σ'.fh,bU dV 2 84 w0.heap.size none cA cn cl,TxtO w0.heap.size none,A1,A2] w'):=by
 refine cV ⟨63,w0,none, [68,9,3]⟩ func172 U ntmps172 U hm.cy (bS ?_)
 refine zE (fun (n:{ m:Nat // m<=499 })=>uH fS n.1) (fun w hm=>hfb.len (hm.fact 4 U:bV qA dN w0.heap.size fS (σ.fb) w)) (fun n=>uH.lasts2) fun nbx=>?_
 obtain ⟨nb,hnb⟩:=nbx
 dsimp only
 obtain ⟨isb,hisb⟩:∃z,z=(σ.fb b0).isSome:=⟨_,rfl⟩
 obtain ⟨ish,bS0⟩:∃z,z=(σ.fh b0).isSome:=⟨_,rfl⟩
 obtain ⟨xb,hxb⟩:∃z,z=(σ.fb b0).getD bk0:=⟨_,rfl⟩
 obtain ⟨xh,hxh⟩:∃z,z=(σ.fh b0).getD vV:=⟨_,rfl⟩
 obtain ⟨c0,c1,c2,c3,c4,c5⟩:=xb
 obtain ⟨h0,h1,h2,h3,hA,hn,hc,hl⟩:=xh
 obtain ⟨CK,hCK⟩:∃z,z=jR cl [(⟨b0,b1,b2,b3,b4,b5⟩:Bk)]:=⟨_,rfl⟩
 obtain ⟨EE,zX⟩:∃z,z=dI [CK,dK (isb||ish) 6,dK (decide (500<=(nb:Int))) 12]:=⟨_,rfl⟩
 refine fG U U U fun g1=>bZ U (bR (bH (gd (fun wz=>Blk wz g1 146 [.string b0,.string b1,.int .i64 b2,.int .i64 b3,.int .i64 b4,.int .i64 b5]/\Blk wz go 119 [u0,.slice cA cn cc,u2,u3,u4,u5,u6,u7,u8,u9,jK,jL,jM,jN,jO,jP,.map (some gv),.map (some gs),.map (some fT),lv,.map (some fQ),.map (some fS),.map (some fU),.map (some gC),rv]/\(bV qA dN w0.heap.size fS (σ.fb)) wz/\True) mixed (fun _ hm=>⟨hm.bl 0,hm.bl 1,hm.fa 5,trivial⟩) fun z=>wq 0 U (bJ U) (wq 1 U (bX U) (wq 2 U (bQ bM1 U U) (wq 3 U (cN cX3 U (fun _ hm=>hm.2.1) U) (wq 4 U (bQ bN1 U U) (wq 5 U (cN fE U (fun _ hm=>hm.1) U) (wq 6 U (gW (enc:=qA) (ek:=dN) (s:=b0) (e:=146) bk0 kB (by kernel_rfl) (by kernel_rfl) U U (fun _ hm=>(hm.2.2.1))) (wq 7 U (bJ U) (wq 8 U (cR U U) (dG 18 (v':= .agg #[.string c0,.string c1,.int .i64 c2,.int .i64 c3,.int .i64 c4,.int .i64 c5]) U (congrArg qA hxb.symm) (wq 9 U (cR U U) (dG 19 (v':= .bool isb) U (fH5 hisb.symm) (eC 10 U (dH dI4 U fun g2=>bE (nw 13 2047 (fun _ hm=>⟨hm.bl 1,hm.bl 2,hm.fa 5,trivial⟩) fun z=>eC 11 U (jX (cs':= [.string c0,.string c1,.int .i64 c2,.int .i64 c3,.int .i64 c4,.int .i64 c5]) 0 bL8 U U U U (bE (nw 13 4095 (fun _ hm=>⟨hm.bl 1,hm.bl 2,hm.fa 5,trivial⟩) fun z=>wq 12 U (cU U) (jH (bD (bH (gd (fun wz=>Blk wz g1 146 [.string b0,.string b1,.int .i64 b2,.int .i64 b3,.int .i64 b4,.int .i64 b5]/\Blk wz go 119 [u0,.slice cA cn cc,u2,u3,u4,u5,u6,u7,u8,u9,jK,jL,jM,jN,jO,jP,.map (some gv),.map (some gs),.map (some fT),lv,.map (some fQ),.map (some fS),.map (some fU),.map (some gC),rv]/\(bV nH dN w0.heap.size fU (σ.fh)) wz/\True) mixed (fun _ hm=>⟨hm.bl 1,hm.bl 2,hm.fa 6,trivial⟩) fun z=>?_))))))))))))))))))))))))
 refine wq 0 U (bJ U) (wq 1 U (bX U) (wq 2 U (bQ qV U U) (wq 3 U (cN zN U (fun _ hm=>hm.2.1) U) (wq 4 U (bQ bN1 U U) (wq 5 U (cN fE U (fun _ hm=>hm.1) U) (wq 6 U (gW (enc:=nH) (ek:=dN) (s:=b0) (e:=64) vV kB (by kernel_rfl) (by kernel_rfl) U U (fun _ hm=>(hm.2.2.1))) (wq 7 U (bJ U) (wq 8 U (cR U U) (dG 28 (v':= .agg #[.string h0,.string h1,.int .i64 h2,.int .i64 h3,.slice hA hn hc]) U (congrArg nH hxh.symm) (wq 9 U (cR U U) (dG 29 (v':= .bool ish) U (fH5 bS0.symm) (eC 10 U (dH bA6 U fun g3=>bE (nw 13 2047 (fun _ hm=>⟨hm.bl 2,hm.bl 3,hm.fa 6,trivial⟩) fun z=>eC 11 U (jX (cs':= [.string h0,.string h1,.int .i64 h2,.int .i64 h3,.slice hA hn hc]) 0 nT U U U U (bE (nw 13 4095 (fun _ hm=>⟨hm.bl 2,hm.bl 3,hm.fa 6,trivial⟩) fun z=>wq 12 U (cU U) (jH (bD (bH ?_))))))))))))))))))))
 refine pC (γ:=Int) (I:=(fun (E:Int)=>E=EE)) (S':=(fun (E:Int)=> [(0,.pointer (some ⟨go,0,none⟩)),(3,.pointer (some ⟨g1,0,none⟩)),(4,.int .i64 0),(9,.int .i64 E)])) (K':=(fun (E:Int)=>fun _=>True)) (L':=(fun (E:Int)=> [(g3,64, [.string h0,.string h1,.int .i64 h2,.int .i64 h3,.slice hA hn hc]),(g2,146, [.string c0,.string c1,.int .i64 c2,.int .i64 c3,.int .i64 c4,.int .i64 c5]),(g1,146, [.string b0,.string b1,.int .i64 b2,.int .i64 b3,.int .i64 b4,.int .i64 b5]),(go,119, [u0,.slice cA cn cc,u2,u3,u4,u5,u6,u7,u8,u9,jK,jL,jM,jN,jO,jP,.map (some gv),.map (some gs),.map (some fT),lv,.map (some fQ),.map (some fS),.map (some fU),.map (some gC),rv]),(q1,271,d1),(q2,171,d2)])) (O':=(fun (E:Int)=> [⟨lv,74,5,σ.lg.length,σ.lg.flatMap dP⟩,⟨rv,226,2,rn,rx⟩])) (X':=(fun (E:Int)=> [uH fS nb,bV vS dN w0.heap.size gv (V),bV vB dN w0.heap.size gs (T),bV qU dN w0.heap.size fT (σ.fs),bV vB nD w0.heap.size fQ (σ.fa),bV qA dN w0.heap.size fS (σ.fb),bV nH dN w0.heap.size fU (σ.fh),bV vI dN w0.heap.size gC (fp),gD 68 σ.fh,bU dV 2 84 w0.heap.size none cA cn cl,TxtO w0.heap.size none,A1,A2])) ?_ ?_
 ·refine gd (fun wz=>Blk wz g1 146 [.string b0,.string b1,.int .i64 b2,.int .i64 b3,.int .i64 b4,.int .i64 b5]/\Blk wz go 119 [u0,.slice cA cn cc,u2,u3,u4,u5,u6,u7,u8,u9,jK,jL,jM,jN,jO,jP,.map (some gv),.map (some gs),.map (some fT),lv,.map (some fQ),.map (some fS),.map (some fU),.map (some gC),rv]/\(uH fS nb) wz/\True) mixed (fun _ hm=>⟨hm.bl 2,hm.bl 3,hm.fa 0,trivial⟩) fun z=>?_
  refine wq 0 U (bJ U) (wq 1 U (bX U) (wq 2 U (bQ eU2 U U) (wq 3 U (bQ bP6 U U) (wq 4 U (bQ cM5 U U) (wq 5 U (cN eV3 U (fun _ hm=>hm.2.1) U) (wq 6 U (cX bL8 U (fun _ hm=>hm.1) U U) (wq 9 U (bJ U) (wq 14 U (bJ U) (wq 15 U (bX U) (wq 16 U (bQ bM1 U U) (wq 17 U (cN cX3 U (fun _ hm=>hm.2.1) U) (eC 7 U (jF 146 [.string b0,.string b1,.int .i64 b2,.int .i64 b3,.int .i64 b4,.int .i64 b5] fun g4=>bE (nw 24 246527 (fun _ hm=>⟨hm.bl 3,hm.bl 4,hm.fa 0,trivial⟩) fun z=>eC 8 U (cL (v:= .int .i64 CK) U fY3 U U (fun wx hm=>(by rw [hCK];exact cU9 cl cA cn cc [⟨b0,b1,b2,b3,b4,b5⟩] _ 1 1 wx (hm.fact 9 rfl).1 hco hcn (SlT.ofBlk (l:= [⟨b0,b1,b2,b3,b4,b5⟩]) eG6 (hm.blkI 0 rfl)) (fun _ h=>List.mem_singleton.1 h ▸ hok) (by decide))) (bE (nw 24 246783 (fun _ hm=>⟨hm.bl 3,hm.bl 4,hm.fa 0,trivial⟩) fun z=>wq 10 U (bJ U) ?_)))))))))))))))))
  rcases Bool.eq_false_or_eq_true isb with hb5|hb5
  ·refine dG 40 U (fH5 hb5) ?_
   refine fC 11 U (wq 12 U (fD U U) (eC 13 U (dA U qK U U (fun wx hm=>(eE _ _ wx)) (bE (nw 24 262143 (fun _ hm=>⟨hm.bl 3,hm.bl 4,hm.fa 0,trivial⟩) fun z=>wq 18 U (bZ1 (k:=9) (e:=146) (n:=nb) (by kernel_rfl) U (fun _ hm=>(hm.2.2.1))) (wq 19 U (mO U U) (eC 20 U (dA U qK U U (fun wx hm=>(eE _ _ wx)) (bE (nw 24 2097151 (fun _ hm=>⟨hm.bl 3,hm.bl 4,hm.fa 0,trivial⟩) fun z=>eC 21 U (jF 48 [.int .i64 CK,.int .i64 (dK true 6),.int .i64 (dK (decide (500<=((nb:Nat):Int))) 12)] fun g6=>bE (nw 24 4194303 (fun _ hm=>⟨hm.bl 4,hm.bl 5,hm.fa 0,trivial⟩) fun z=>eC 22 U (dA U wJ U U (fun wx hm=>(fJ [CK,dK true 6,dK (decide (500<=((nb:Nat):Int))) 12] _ _ _ wx (hm.blkI 0 U) (by simp))) (bE (nw 24 8388607 (fun _ hm=>⟨hm.bl 4,hm.bl 5,hm.fa 0,trivial⟩) fun z=>wq 23 U (cU U) (jH ?_))))))))))))))))
   exact fK (dI [CK,dK true 6,dK (decide (500<=((nb:Nat):Int))) 12]) (by rw [zX,hb5];rfl) ⟨U,U,U,U,trivial⟩ (fun _ hm=>hm.pick [2,3,4,5,6,7] [0,1] [0,1,2,3,4,5,6,7,8,9,10,11,12] U U)
  refine dG 40 U (fH5 hb5) (fI 11 U (bJ U) (wq 12 U (fN U U) (eC 13 U (dA U qK U U (fun wx hm=>(eE _ _ wx)) (bE (nw 24 262143 (fun _ hm=>⟨hm.bl 3,hm.bl 4,hm.fa 0,trivial⟩) fun z=>wq 18 U (bZ1 (k:=9) (e:=146) (n:=nb) (by kernel_rfl) U (fun _ hm=>(hm.2.2.1))) (wq 19 U (mO U U) (eC 20 U (dA U qK U U (fun wx hm=>(eE _ _ wx)) (bE (nw 24 2097151 (fun _ hm=>⟨hm.bl 3,hm.bl 4,hm.fa 0,trivial⟩) fun z=>eC 21 U (jF 48 [.int .i64 CK,.int .i64 (dK ish 6),.int .i64 (dK (decide (500<=((nb:Nat):Int))) 12)] fun g7=>bE (nw 24 4194303 (fun _ hm=>⟨hm.bl 4,hm.bl 5,hm.fa 0,trivial⟩) fun z=>eC 22 U (dA U wJ U U (fun wx hm=>(fJ [CK,dK ish 6,dK (decide (500<=((nb:Nat):Int))) 12] _ _ _ wx (hm.blkI 0 U) (by simp))) (bE (nw 24 8388607 (fun _ hm=>⟨hm.bl 4,hm.bl 5,hm.fa 0,trivial⟩) fun z=>wq 23 U (cU U) (jH ?_)))))))))))))))))
  exact fK (dI [CK,dK ish 6,dK (decide (500<=((nb:Nat):Int))) 12]) (by rw [zX,hb5];rfl) ⟨U,U,U,U,trivial⟩ (fun _ hm=>hm.pick [2,3,4,5,6,7] [0,1] [0,1,2,3,4,5,6,7,8,9,10,11,12] U U)
 intro E cC
 replace cC:E=EE:=cC
 refine bS ?_
 subst cC
 refine bP U (bB (gX U U) U (bR ?_))
 refine gI U (fun hz=>?_) (fun hz=>?_)
 ·refine bS (bP U (bZ U (bR ?_)))
  refine bM (bA ?_)
  have hzx:E≠0:=by simpa using hz
  have hsm:fY σ=cX6 cl (fY σ) ⟨b0,b1,b2,b3,b4,b5⟩:=(pO fun ⟨q1,q2,q3⟩=>hzx (by
   rw [cO4] at q3
   rw [zX,hCK.trans q1,hisb.trans q2,bS0.trans q3,decide_eq_false (by omega)];rfl)).symm
  refine bK U U fun wx hm=>?_
  refine ⟨lv,σ,_,U,⟨.same σ,hsm⟩,?_⟩
  exact (hm.pick [3,4,5] [0,1] [1,2,3,4,5,6,7,8,9,10,11,12] U U).cy
 refine bN (bD (bH ?_))
 have hE0:E=0:=by simpa using hz
 rw [zX] at hE0
 obtain ⟨z1,z2,_⟩:=cN7 hE0
 have z3:=rG (by decide) z2
 have z4:isb=false/\ish=false:=by simpa using z3
 have z5:(σ.fb b0).isSome=false:=hisb.symm.trans z4.1
 have z6:(σ.fh b0).isSome=false:=bS0.symm.trans z4.2
 obtain ⟨τ,hτ⟩:∃z,z=({ σ with fb:=fP σ.fb b0 ⟨b0,b1,b2,b3,b4,b5⟩ }:Os):=⟨_,rfl⟩
 have e1:τ.fb=fP σ.fb b0 ⟨b0,b1,b2,b3,b4,b5⟩:=by rw [hτ]
 have e2:τ.fs=σ.fs:=by rw [hτ]
 have e3:τ.fa=σ.fa:=by rw [hτ]
 have e4:τ.fh=σ.fh:=by rw [hτ]
 have e5:τ.lg=σ.lg:=by rw [hτ]
 have hst:kU V T (fun b=>jR cl [b]=0) at_ σ τ:=hτ ▸ .book σ ⟨b0,b1,b2,b3,b4,b5⟩ hok (hCK.symm.trans z1) z5 z6
 have hab:fY τ=cX6 cl (fY σ) ⟨b0,b1,b2,b3,b4,b5⟩:=by rw [hτ];exact (yK ⟨hCK.symm.trans z1,z5,by rw [cO4];exact z6⟩).symm
 refine gd (fun wz=>Blk wz g1 146 [.string b0,.string b1,.int .i64 b2,.int .i64 b3,.int .i64 b4,.int .i64 b5]/\Blk wz go 119 [u0,.slice cA cn cc,u2,u3,u4,u5,u6,u7,u8,u9,jK,jL,jM,jN,jO,jP,.map (some gv),.map (some gs),.map (some fT),lv,.map (some fQ),.map (some fS),.map (some fU),.map (some gC),rv]/\True) mixed (fun _ hm=>⟨hm.bl 2,hm.bl 3,trivial⟩) fun z=>wq 0 U (bJ U) (wq 1 U (bX U) (wq 2 U (bQ bM1 U U) (wq 3 U (cN cX3 U (fun _ hm=>hm.2.1) U) (wq 4 U (bQ bN1 U U) (wq 5 U (cN fE U (fun _ hm=>hm.1) U) (wq 6 U (cX bL8 U (fun _ hm=>hm.1) U U) (eC 7 U (kO (enc:=qA) (ek:=dN) (s:=b0) (v:=⟨b0,b1,b2,b3,b4,b5⟩) (e:=146) (X':= [bV vS dN w0.heap.size gv (V),bV vB dN w0.heap.size gs (T),bV qU dN w0.heap.size fT (σ.fs),bV vB nD w0.heap.size fQ (σ.fa),bV nH dN w0.heap.size fU (σ.fh),bV vI dN w0.heap.size gC (fp),gD 68 σ.fh,bU dV 2 84 w0.heap.size none cA cn cl,TxtO w0.heap.size none,A1,A2]) 5 kB (by kernel_rfl) U U U U (cP (i:=1) (bV.farK (gS hd (i:=0) (j:=4) U U (by decide))) U (cP (i:=2) (bV.farK (gS hd (i:=1) (j:=4) U U (by decide))) U (cP (i:=3) (bV.farK (gS hd (i:=2) (j:=4) U U (by decide))) U (cP (i:=4) (bV.farK (gS hd (i:=3) (j:=4) U U (by decide))) U (cP (i:=6) (bV.farK (gS hd (i:=5) (j:=4) U U (by decide))) U (cP (i:=7) (bV.farK (gS hd (i:=6) (j:=4) U U (by decide))) U (cP (i:=8) (gD.mfar).far U (cP (i:=9) (bU.mfar).far U (cP (i:=10) (TxtO.mfar).far U (cP (i:=11) (hA1).far U (cP (i:=12) (hA2).far U fZ))))))))))) (bE (nw 8 255 (fun _ hm=>⟨hm.bl 2,hm.bl 3,trivial⟩) fun z=>jH (bD (bS (bZ U (bR (bM ?_)))))))))))))))
 refine bK U U fun wx hm=>?_
 refine ⟨lv,τ,0,U,⟨hst,hab⟩,?_⟩
 rw [e1,e2,e3,e4,e5]
 exact (hm.pick [3,4,5] [0,1] [1,2,3,4,0,5,6,7,8,9,10,11] U U).cy
theorem eQ3 (w0:World) (u0 u2 u3 u4 u5 u6 u7 u8 u9 jK jL jM jN jO jP:Value) (go gv gs fT fQ fS fU gC:Nat) (cA:Option Addr) (cn cc:Nat) (cl:List Cs) (V:ByteArray->Option ByteArray) (T:ByteArray->Option Bool) (rv:Value) (rn:Nat) (rx:List Value) (hd: [gv,gs,fT,fQ,fS,fU,gC].Nodup) (q1 q2:Nat) (d1 d2:List Value) (A1 A2:World->Prop) (hA1:bL3 A1) (hA2:bL3 A2) (fp:ByteArray->Option Int) (σ:Os) (lv:Value) (k:ByteArray) (n:Int) (w:World) (hnb: -1000000000<=n/\n<=1000000000) (hpo:bB0 fp) (hm:gM ⟨0,w0,none, [68,9,3]⟩ (fun _=>True) [(go,119, [u0,.slice cA cn cc,u2,u3,u4,u5,u6,u7,u8,u9,jK,jL,jM,jN,jO,jP,.map (some gv),.map (some gs),.map (some fT),lv,.map (some fQ),.map (some fS),.map (some fU),.map (some gC),rv]),(q1,271,d1),(q2,171,d2)] [⟨lv,74,5,σ.lg.length,σ.lg.flatMap dP⟩,⟨rv,226,2,rn,rx⟩] [bV vS dN w0.heap.size gv (V),bV vB dN w0.heap.size gs (T),bV qU dN w0.heap.size fT (σ.fs),bV vB nD w0.heap.size fQ (σ.fa),bV qA dN w0.heap.size fS (σ.fb),bV nH dN w0.heap.size fU (σ.fh),bV vI dN w0.heap.size gC (fp),gD 68 σ.fh,bU dV 2 84 w0.heap.size none cA cn cl,TxtO w0.heap.size none,A1,A2] w):
 Calls prog 174 #[.pointer (some ⟨go,0,none⟩),.string k,.int .i64 n] w (fun e w'=>∃fp' E,e=.returned (.int .i64 E)/\bB0 fp'/\gM ⟨0,w0,none, [68,9,3]⟩ (fun _=>True) [(go,119, [u0,.slice cA cn cc,u2,u3,u4,u5,u6,u7,u8,u9,jK,jL,jM,jN,jO,jP,.map (some gv),.map (some gs),.map (some fT),lv,.map (some fQ),.map (some fS),.map (some fU),.map (some gC),rv]),(q1,271,d1),(q2,171,d2)] [⟨lv,74,5,σ.lg.length,σ.lg.flatMap dP⟩,⟨rv,226,2,rn,rx⟩] [bV vS dN w0.heap.size gv (V),bV vB dN w0.heap.size gs (T),bV qU dN w0.heap.size fT (σ.fs),bV vB nD w0.heap.size fQ (σ.fa),bV qA dN w0.heap.size fS (σ.fb),bV nH dN w0.heap.size fU (σ.fh),bV vI dN w0.heap.size gC (fp'),gD 68 σ.fh,bU dV 2 84 w0.heap.size none cA cn cl,TxtO w0.heap.size none,A1,A2] w'):=by
 refine cV ⟨49,w0,none, [68,9,3]⟩ func174 U ntmps174 U hm.cy (bS ?_)
 obtain ⟨ish,bS0⟩:∃z,z=(σ.fh k).isSome:=⟨_,rfl⟩
 obtain ⟨xh,hxh⟩:∃z,z=(σ.fh k).getD vV:=⟨_,rfl⟩
 obtain ⟨h0,h1,h2,h3,hA,hn,hc,hl⟩:=xh
 obtain ⟨pd,hpd⟩:∃z,z=(fp k).getD 0:=⟨_,rfl⟩
 have hpb:0<=pd/\pd<=1000000000:=by
  cases hf:fp k with
  |none=>rw [hpd,hf];decide
  |some v=>rw [hpd,hf];exact hpo k v hf
 obtain ⟨EE,zX⟩:∃z,z=dI [dK (!ish) 8,dK (!inB n 0 1000000000) 1,dK (decide (1000000000 < pd+n)) 2]:=⟨_,rfl⟩
 refine bZ U (bR (bS (bP U (bB (bX U) U (dW qV U U (eI zN 0 U U U (bP U (bB (gW (enc:=nH) (ek:=dN) (s:=k) (e:=64) vV kB (by kernel_rfl) (by kernel_rfl) U U (fun _ hm=>(hm.fact 5 U))) U (bP U (bB (cR U U) U (bL 17 (v':= .agg #[.string h0,.string h1,.int .i64 h2,.int .i64 h3,.slice hA hn hc]) U (congrArg nH hxh.symm) (bB (cR U U) U (bL 18 (v':= .bool ish) U (fH5 bS0.symm) (dH bA6 U fun g1=>jX (cs':= [.string h0,.string h1,.int .i64 h2,.int .i64 h3,.slice hA hn hc]) 0 nT U U U U (bZ U (bR (bH ?_)))))))))))))))))
 refine pC (γ:=Int) (I:=(fun (E:Int)=>E=EE)) (S':=(fun (E:Int)=> [(0,.pointer (some ⟨go,0,none⟩)),(1,.string k),(2,.int .i64 n),(6,.int .i64 0),(9,.int .i64 E)])) (K':=(fun (E:Int)=>fun _=>True)) (L':=(fun (E:Int)=> [(g1,64, [.string h0,.string h1,.int .i64 h2,.int .i64 h3,.slice hA hn hc]),(go,119, [u0,.slice cA cn cc,u2,u3,u4,u5,u6,u7,u8,u9,jK,jL,jM,jN,jO,jP,.map (some gv),.map (some gs),.map (some fT),lv,.map (some fQ),.map (some fS),.map (some fU),.map (some gC),rv]),(q1,271,d1),(q2,171,d2)])) (O':=(fun (E:Int)=> [⟨lv,74,5,σ.lg.length,σ.lg.flatMap dP⟩,⟨rv,226,2,rn,rx⟩])) (X':=(fun (E:Int)=> [bV vS dN w0.heap.size gv (V),bV vB dN w0.heap.size gs (T),bV qU dN w0.heap.size fT (σ.fs),bV vB nD w0.heap.size fQ (σ.fa),bV qA dN w0.heap.size fS (σ.fb),bV nH dN w0.heap.size fU (σ.fh),bV vI dN w0.heap.size gC (fp),gD 68 σ.fh,bU dV 2 84 w0.heap.size none cA cn cl,TxtO w0.heap.size none,A1,A2])) ?_ ?_
 ·refine gd (fun wz=>Blk wz go 119 [u0,.slice cA cn cc,u2,u3,u4,u5,u6,u7,u8,u9,jK,jL,jM,jN,jO,jP,.map (some gv),.map (some gs),.map (some fT),lv,.map (some fQ),.map (some fS),.map (some fU),.map (some gC),rv]/\(bV vI dN w0.heap.size gC (fp)) wz/\True) mixed (fun _ hm=>⟨hm.bl 1,hm.fa 6,trivial⟩) fun z=>?_
  refine wq 0 U (bJ U) (wq 1 U (cF U) (wq 3 U (bJ U) (wq 7 U (bJ U) (wq 8 U (bX U) (wq 9 U (bQ dY2 U U) (wq 10 U (cN eU5 U (fun _ hm=>hm.1) U) (wq 11 U (bJ U) (wq 12 U (kV (enc:=vI) (ek:=dN) (s:=k) (e:=3) (0:Int) kB (by kernel_rfl) (by kernel_rfl) U U (fun _ hm=>(hm.2.1))) (dG 31 (v':= .int .i64 pd) U (congrArg vI hpd.symm) (wq 13 U (bJ U) (wq 14 U (ov_add U U (by omega) (by omega)) (wq 15 U (eJ U U) (eC 2 U (dA U qK U U (fun wx hm=>(eE _ _ wx)) (bE (nw 20 65423 (fun _ hm=>⟨hm.bl 1,hm.fa 6,trivial⟩) fun z=>eC 4 U (dA U qB U U (fun wx hm=>(in_any _ _ _ wx)) (bE (nw 20 65439 (fun _ hm=>⟨hm.bl 1,hm.fa 6,trivial⟩) fun z=>wq 5 U (cF U) (eC 6 U (dA U qK U U (fun wx hm=>(eE _ _ wx)) (bE (nw 20 65535 (fun _ hm=>⟨hm.bl 1,hm.fa 6,trivial⟩) fun z=>eC 16 U (dA U qK U U (fun wx hm=>(eE _ _ wx)) (bE (nw 20 131071 (fun _ hm=>⟨hm.bl 1,hm.fa 6,trivial⟩) fun z=>?_))))))))))))))))))))))))))
  refine eC 17 U (jF 48 [.int .i64 (dK (!ish) 8),.int .i64 (dK (!(inB n 0 1000000000)) 1),.int .i64 (dK (decide (1000000000 < pd+n)) 2)] fun g2=>bE (nw 20 262143 (fun _ hm=>⟨hm.bl 2,hm.fa 6,trivial⟩) fun z=>eC 18 U (dA U wJ U U (fun wx hm=>(fJ [dK (!ish) 8,dK (!(inB n 0 1000000000)) 1,dK (decide (1000000000 < pd+n)) 2] _ _ _ wx (hm.blkI 0 U) (by simp))) (bE (nw 20 524287 (fun _ hm=>⟨hm.bl 2,hm.fa 6,trivial⟩) fun z=>wq 19 U (cU U) (jH ?_))))))
  exact fK (dI [dK (!ish) 8,dK (!(inB n 0 1000000000)) 1,dK (decide (1000000000 < pd+n)) 2]) (by rw [zX]) ⟨U,U,U,U,U,trivial⟩ (fun _ hm=>hm.pick [1,2,3,4] [0,1] [0,1,2,3,4,5,6,7,8,9,10,11] U U)
 intro E cC
 replace cC:E=EE:=cC
 refine bS ?_
 subst cC
 refine bP U (bB (gX U U) U (bR ?_))
 refine gI U (fun hz=>?_) (fun hz=>?_)
 ·refine bS (bP U (bZ U (bR ?_)))
  refine bM (bA ?_)
  refine bK U U fun wx hm=>?_
  refine ⟨fp,_,U,hpo,?_⟩
  exact (hm.pick [1,2,3] [0,1] [0,1,2,3,4,5,6,7,8,9,10,11] U U).cy
 refine bN (bD (bS ?_))
 have hE0:E=0:=by simpa using hz
 rw [zX] at hE0
 obtain ⟨_,z2,z3⟩:=cN7 hE0
 have z4:=rG (by decide) z2
 have z5:=rG (by decide) z3
 have z6:0<=n/\n<=1000000000:=mG.1 (by simpa using z4)
 have z7:pd+n<=1000000000:=by have:=of_decide_eq_false z5;omega
 have hpn:bB0 (fP fp k (pd+n)):=fun j v hj=>by
  rcases eK hj with ⟨_,rfl⟩|h
  ·omega
  exact hpo j v h
 refine bP U (bB (bX U) U (dW dY2 U U (eI eU5 1 U U U (bP U (bB (kV (enc:=vI) (ek:=dN) (s:=k) (e:=3) (0:Int) kB (by kernel_rfl) (by kernel_rfl) U U (fun _ hm=>(hm.fact 6 U))) U (bL 46 (v':= .int .i64 pd) U (congrArg vI hpd.symm) (bP U (gN U U (kO (enc:=vI) (ek:=dN) (s:=k) (v:=pd+n) (e:=3) (X':= [bV vS dN w0.heap.size gv (V),bV vB dN w0.heap.size gs (T),bV qU dN w0.heap.size fT (σ.fs),bV vB nD w0.heap.size fQ (σ.fa),bV qA dN w0.heap.size fS (σ.fb),bV nH dN w0.heap.size fU (σ.fh),gD 68 σ.fh,bU dV 2 84 w0.heap.size none cA cn cl,TxtO w0.heap.size none,A1,A2]) 6 kB (by kernel_rfl) U U U U (cP (i:=0) (bV.farK (gS hd (i:=0) (j:=6) U U (by decide))) U (cP (i:=1) (bV.farK (gS hd (i:=1) (j:=6) U U (by decide))) U (cP (i:=2) (bV.farK (gS hd (i:=2) (j:=6) U U (by decide))) U (cP (i:=3) (bV.farK (gS hd (i:=3) (j:=6) U U (by decide))) U (cP (i:=4) (bV.farK (gS hd (i:=4) (j:=6) U U (by decide))) U (cP (i:=5) (bV.farK (gS hd (i:=5) (j:=6) U U (by decide))) U (cP (i:=7) (gD.mfar).far U (cP (i:=8) (bU.mfar).far U (cP (i:=9) (TxtO.mfar).far U (cP (i:=10) (hA1).far U (cP (i:=11) (hA2).far U fZ))))))))))) (bR (bS (bZ U (bR (bM ?_))))))))))))))
 refine bK U U fun wx hm=>?_
 refine ⟨fP fp k (pd+n),0,U,hpn,?_⟩
 exact (hm.pick [1,2,3] [0,1] [1,2,3,4,5,6,0,7,8,9,10,11] U U).cy
theorem dO3 {A:World->Prop} (h:bL3 A):∀B∈ [A],bL3 B:=fun _ hB=>List.mem_singleton.1 hB ▸ h
theorem dP8 {a b c d:Int} (h:dI [a,b,c,d]=0):a=0/\b=0/\c=0/\d=0:=
 ⟨Classical.byContradiction fun hc=>hc (pU h a (by simp)),Classical.byContradiction fun hc=>hc (pU h b (by simp)),Classical.byContradiction fun hc=>hc (pU h c (by simp)),Classical.byContradiction fun hc=>hc (pU h d (by simp))⟩
theorem dT1 (w0:World) (u0 u2 u3 u4 u5 u6 u7 u8 u9 jK jL jM jN jO jP:Value) (go gv gs fT fQ fS fU gC:Nat) (cA:Option Addr) (cn cc:Nat) (cl:List Cs) (V:ByteArray->Option ByteArray) (T:ByteArray->Option Bool) (rv:Value) (rn:Nat) (rx:List Value) (hd: [gv,gs,fT,fQ,fS,fU,gC].Nodup) (ck:Bk->Prop) (fp:ByteArray->Option Int) (σ:Os) (lv:Value) (at_:Int) (wd k d v st:ByteArray) (n0 n1 n2:Int) (tA nA:Option Addr) (tc nc:Nat) (w:World) (hk:k.size<=1000000) (hdz:d.size<=1000000) (hv:v.size<=1000000) (hs:st.size<=1000000) (hlg:σ.lg.length<=100000) (hfh:Few σ.fh 499) (ht:SlT fH 1 9 w tA 4 [k,d,v,st]) (hn:SlT kN 1 3 w nA 3 [n0,n1,n2]) (hm:gM ⟨0,w0,none, [68,9,3]⟩ (fun _=>True) [(go,119, [u0,.slice cA cn cc,u2,u3,u4,u5,u6,u7,u8,u9,jK,jL,jM,jN,jO,jP,.map (some gv),.map (some gs),.map (some fT),lv,.map (some fQ),.map (some fS),.map (some fU),.map (some gC),rv])] [⟨lv,74,5,σ.lg.length,σ.lg.flatMap dP⟩,⟨rv,226,2,rn,rx⟩] [bV vS dN w0.heap.size gv (V),bV vB dN w0.heap.size gs (T),bV qU dN w0.heap.size fT (σ.fs),bV vB nD w0.heap.size fQ (σ.fa),bV qA dN w0.heap.size fS (σ.fb),bV nH dN w0.heap.size fU (σ.fh),bV vI dN w0.heap.size gC (fp),gD 68 σ.fh,bU dV 2 84 w0.heap.size none cA cn cl,TxtO w0.heap.size none,fun wy=>SlT fH 1 9 wy tA 4 [k,d,v,st],fun wy=>SlT kN 1 3 wy nA 3 [n0,n1,n2]] w):
 Calls prog 173 #[.pointer (some ⟨go,0,none⟩),.int .i64 at_,.agg #[.string wd,.slice tA 4 tc,.slice nA 3 nc]] w (fun e w'=>∃lv' σ' E,e=.returned (.int .i64 E)/\(kU V T ck at_ σ σ'/\fY σ'=bS7 V T at_ (fY σ) k d v st n0 n1 n2)/\gM ⟨0,w0,none, [68,9,3]⟩ (fun _=>True) [(go,119, [u0,.slice cA cn cc,u2,u3,u4,u5,u6,u7,u8,u9,jK,jL,jM,jN,jO,jP,.map (some gv),.map (some gs),.map (some fT),lv',.map (some fQ),.map (some fS),.map (some fU),.map (some gC),rv])] [⟨lv',74,5,σ'.lg.length,σ'.lg.flatMap dP⟩,⟨rv,226,2,rn,rx⟩] [bV vS dN w0.heap.size gv (V),bV vB dN w0.heap.size gs (T),bV qU dN w0.heap.size fT (σ'.fs),bV vB nD w0.heap.size fQ (σ'.fa),bV qA dN w0.heap.size fS (σ'.fb),bV nH dN w0.heap.size fU (σ'.fh),bV vI dN w0.heap.size gC (fp),gD 68 σ'.fh,bU dV 2 84 w0.heap.size none cA cn cl,TxtO w0.heap.size none] w'):=by
 refine cV ⟨127,w0,none, [68,9,3]⟩ func173 U ntmps173 U hm.cy (bS ?_)
 refine zE (fun (n:{ m:Nat // m<=499 })=>uH fU n.1) (fun w hm=>hfh.len (hm.fact 5 U:bV nH dN w0.heap.size fU (σ.fh) w)) (fun n=>uH.lasts2) fun mbx=>?_
 obtain ⟨mb,hmb⟩:=mbx
 dsimp only
 obtain ⟨tb,uE,htA,_,_⟩:=ht.get (by decide)
 subst htA
 obtain ⟨nb,xQ,hnA,_,_⟩:=hn.get (by decide)
 subst hnA
 obtain ⟨twi,htwi⟩:∃z,z=(σ.fh k).isSome:=⟨_,rfl⟩
 obtain ⟨xh,hxh⟩:∃z,z=(σ.fh k).getD vV:=⟨_,rfl⟩
 obtain ⟨h0,h1,h2,h3,hA,vE,hc,hl⟩:=xh
 obtain ⟨iv,hiv⟩:∃z,z=(V v).isSome:=⟨_,rfl⟩
 obtain ⟨vc,hvc⟩:∃z,z=(V v).getD (⟨#[]⟩:ByteArray):=⟨_,rfl⟩
 obtain ⟨ist,bQ2⟩:∃z,z=(T st).getD false:=⟨_,rfl⟩
 obtain ⟨HE,hHE⟩:∃z,z=hireE (⟨k,d,at_,n0, [startLeg v (⟨at_,st,n1,n2⟩:Rd)]⟩:Hr):=⟨_,rfl⟩
 obtain ⟨xq,hxq⟩:∃z,z=bU3 HE (⟨k,d,at_,n0, [startLeg v (⟨at_,st,n1,n2⟩:Rd)]⟩:Hr):=⟨_,rfl⟩
 obtain ⟨k5,d5,f5,t5,l5⟩:=xq
 obtain ⟨CE,hCE⟩:∃z,z=cT4 σ (gO at_ v st):=⟨_,rfl⟩
 refine fG U U U fun g1=>bZ U (bR (bH (gd (fun wz=>Blk wz g1 271 [.string wd,.slice (some ⟨tb,uE,none⟩) 4 tc,.slice (some ⟨nb,xQ,none⟩) 3 nc]/\(fun wy=>SlT fH 1 9 wy (some ⟨tb,uE,none⟩) 4 [k,d,v,st]) wz/\True) mixed (fun _ hm=>⟨hm.bl 0,hm.fa 11,trivial⟩) fun z=>wq 0 U (bQ kL U U) (wq 1 U (cN qJ U (fun _ hm=>hm.1) U) (wq 2 U (bT (j:=0) jY U U (by omega)) (wq 3 U (dL (k:=0) (v:= .string k) fE U (fun _ hm=>(hm.2.1)) (U: [k,d,v,st][0]?=some k) U U) (wq 4 U (bQ kL U U) (wq 5 U (cN qJ U (fun _ hm=>hm.1) U) (wq 6 U (bT (j:=1) jY U U (by omega)) (wq 7 U (dL (k:=0) (v:= .string d) fE U (fun _ hm=>(hm.2.1)) (U: [k,d,v,st][1]?=some d) U U) (wq 8 U (bQ kL U U) (wq 9 U (cN qJ U (fun _ hm=>hm.1) U) (wq 10 U (bT (j:=2) jY U U (by omega)) (wq 11 U (dL (k:=0) (v:= .string v) fE U (fun _ hm=>(hm.2.1)) (U: [k,d,v,st][2]?=some v) U U) (wq 12 U (bQ kL U U) (wq 13 U (cN qJ U (fun _ hm=>hm.1) U) (wq 14 U (bT (j:=3) jY U U (by omega)) (wq 15 U (dL (k:=0) (v:= .string st) fE U (fun _ hm=>(hm.2.1)) (U: [k,d,v,st][3]?=some st) U U) (wq 16 U (cU U) (wq 17 U (cU U) (wq 18 U (cU U) (wq 19 U (cU U) (jH (bD ?_))))))))))))))))))))))))
 refine pC (γ:=Nat×Option Addr×Nat×Nat) (I:=(fun g=>l5.length=g.2.2.1)) (S':=(fun g=> [(0,.pointer (some ⟨go,0,none⟩)),(1,.int .i64 at_),(6,.int .i64 0),(7,.string k),(9,.string v),(10,.string st),(11,.pointer (some ⟨g.1,0,none⟩)),(12,.int .i64 HE)])) (K':=(fun g=>fun _=>True)) (L':=(fun g=> [(g.1,64, [.string k5,.string d5,.int .i64 f5,.int .i64 t5,.slice g.2.1 g.2.2.1 g.2.2.2]),(go,119, [u0,.slice cA cn cc,u2,u3,u4,u5,u6,u7,u8,u9,jK,jL,jM,jN,jO,jP,.map (some gv),.map (some gs),.map (some fT),lv,.map (some fQ),.map (some fS),.map (some fU),.map (some gC),rv])])) (O':=(fun g=> [⟨lv,74,5,σ.lg.length,σ.lg.flatMap dP⟩,⟨rv,226,2,rn,rx⟩])) (X':=(fun g=> [fun wy=>SlT lgEnc 9 68 wy g.2.1 g.2.2.1 l5,uH fU mb,bV vS dN w0.heap.size gv (V),bV vB dN w0.heap.size gs (T),bV qU dN w0.heap.size fT (σ.fs),bV vB nD w0.heap.size fQ (σ.fa),bV qA dN w0.heap.size fS (σ.fb),bV nH dN w0.heap.size fU (σ.fh),bV vI dN w0.heap.size gC (fp),gD 68 σ.fh,bU dV 2 84 w0.heap.size none cA cn cl,TxtO w0.heap.size none,fun wy=>SlT fH 1 9 wy (some ⟨tb,uE,none⟩) 4 [k,d,v,st],fun wy=>SlT kN 1 3 wy (some ⟨nb,xQ,none⟩) 3 [n0,n1,n2]])) ?_ ?_
 ·refine gd (fun wz=>Blk wz g1 271 [.string wd,.slice (some ⟨tb,uE,none⟩) 4 tc,.slice (some ⟨nb,xQ,none⟩) 3 nc]/\(fun wy=>SlT kN 1 3 wy (some ⟨nb,xQ,none⟩) 3 [n0,n1,n2]) wz/\True) mixed (fun _ hm=>⟨hm.bl 0,hm.fa 12,trivial⟩) fun z=>?_
  refine wq 0 U (bJ U) (wq 1 U (bJ U) (wq 2 U (bJ U) (wq 3 U (bQ nJ U U) (wq 4 U (cN mB U (fun _ hm=>hm.1) U) (wq 5 U (bT (j:=0) pE U U (by omega)) (wq 6 U (dL (k:=0) (v:= .int .i64 n0) fF U (fun _ hm=>(hm.2.1)) (U: [n0,n1,n2][0]?=some n0) U U) (wq 7 U (dJ (cs:= [.int .i64 at_,.int .i64 n0]) U (by kernel_rfl)) (wq 8 U (bJ U) (wq 9 U (bJ U) (wq 10 U (bJ U) (wq 11 U (bQ nJ U U) (wq 12 U (cN mB U (fun _ hm=>hm.1) U) (wq 13 U (bT (j:=1) pE U U (by omega)) (wq 14 U (dL (k:=0) (v:= .int .i64 n1) fF U (fun _ hm=>(hm.2.1)) (U: [n0,n1,n2][1]?=some n1) U U) (wq 15 U (bQ nJ U U) (wq 16 U (cN mB U (fun _ hm=>hm.1) U) (wq 17 U (bT (j:=2) pE U U (by omega)) (wq 18 U (dL (k:=0) (v:= .int .i64 n2) fF U (fun _ hm=>(hm.2.1)) (U: [n0,n1,n2][2]?=some n2) U U) (wq 19 U (dJ (cs:= [.int .i64 at_,.string st,.int .i64 n1,.int .i64 n2]) U (by kernel_rfl)) ?_)))))))))))))))))))
  refine kK [20,24] (by kernel_rfl) U ⟨⟨_,U,?_⟩,⟨_,U,?_⟩,trivial⟩
  ·refine jC (γ:=Option Addr×Nat×Nat) (val:=(fun g=> .tuple #[.agg #[.string k5,.string d5,.int .i64 f5,.int .i64 t5,.slice g.1 g.2.1 g.2.2],.int .i64 HE])) (φ:=(fun g=>l5.length=g.2.1)) (Y:=(fun g=>fun wy=>SlT lgEnc 9 68 wy g.1 g.2.1 l5)) U eL5 U U (fun wx hm=>(eB1 k d at_ n0 v (⟨at_,st,n1,n2⟩:Rd) wx hk hdz hv hs).mono fun _ _ ⟨A,n,c,he,hg,hs⟩=>⟨(A,n,c),by rw [<-hHE,<-hxq] at he;exact he,by rw [<-hHE,<-hxq] at hs;exact hs.len,hg,by rw [<-hHE,<-hxq] at hs;exact hs⟩) (fun _=>SlT.lasts2 U) ?_
   rintro ⟨A5,n5,c5⟩ hln
   dsimp only at hln ⊢
   refine bE (nw 27 2097151 (fun _ hm=>⟨hm.bl 0,hm.fa 13,trivial⟩) fun z=>wq 21 U (bJ U) (wq 22 U (cR U U) (wq 23 U (cR U U) (eC 24 U (dH bA6 U fun g2=>bE (nw 27 33554431 (fun _ hm=>⟨hm.bl 1,hm.fa 13,trivial⟩) fun z=>eC 25 U (jX (cs':= [.string k5,.string d5,.int .i64 f5,.int .i64 t5,.slice A5 n5 c5]) 0 nT U U U U (bE (nw 27 67108863 (fun _ hm=>⟨hm.bl 1,hm.fa 13,trivial⟩) fun z=>wq 26 U (cU U) (jH ?_))))))))))
   exact fK (g2,A5,n5,c5) hln ⟨U,U,U,U,U,U,U,U,trivial⟩ (fun _ hm=>hm.pick [0,2] [0,1] [0,1,2,3,4,5,6,7,8,9,10,11,12,13] U U)
  refine dH bA6 U fun g3=>bE (nw 27 17825791 (fun _ hm=>⟨hm.bl 1,hm.fa 12,trivial⟩) fun z=>eC 20 U ?_)
  refine jC (γ:=Option Addr×Nat×Nat) (val:=(fun g=> .tuple #[.agg #[.string k5,.string d5,.int .i64 f5,.int .i64 t5,.slice g.1 g.2.1 g.2.2],.int .i64 HE])) (φ:=(fun g=>l5.length=g.2.1)) (Y:=(fun g=>fun wy=>SlT lgEnc 9 68 wy g.1 g.2.1 l5)) U eL5 U U (fun wx hm=>(eB1 k d at_ n0 v (⟨at_,st,n1,n2⟩:Rd) wx hk hdz hv hs).mono fun _ _ ⟨A,n,c,he,hg,hs⟩=>⟨(A,n,c),by rw [<-hHE,<-hxq] at he;exact he,by rw [<-hHE,<-hxq] at hs;exact hs.len,hg,by rw [<-hHE,<-hxq] at hs;exact hs⟩) (fun _=>SlT.lasts2 U) ?_
  rintro ⟨A5,n5,c5⟩ hln
  dsimp only at hln ⊢
  refine bE (nw 27 18874367 (fun _ hm=>⟨hm.bl 1,hm.fa 13,trivial⟩) fun z=>wq 21 U (bJ U) (wq 22 U (cR U U) (wq 23 U (cR U U) (eC 25 U (jX (cs':= [.string k5,.string d5,.int .i64 f5,.int .i64 t5,.slice A5 n5 c5]) 0 nT U U U U (bE (nw 27 67108863 (fun _ hm=>⟨hm.bl 1,hm.fa 13,trivial⟩) fun z=>wq 26 U (cU U) (jH ?_))))))))
  exact fK (g3,A5,n5,c5) hln ⟨U,U,U,U,U,U,U,U,trivial⟩ (fun _ hm=>hm.pick [0,2] [0,1] [0,1,2,3,4,5,6,7,8,9,10,11,12,13] U U)
 rintro ⟨g11,A5,n5,c5⟩ cC
 replace cC:l5.length=n5:=cC
 dsimp only
 refine bH (bS (bP U (bB (gX U U) U (bR ?_))))
 refine gI U (fun hz=>?_) (fun hz=>?_)
 ·refine bS (bP U (bZ U (bR ?_)))
  refine bM (bA ?_)
  have hzx:HE≠0:=by simpa using hz
  have hsm:fY σ=bS7 V T at_ (fY σ) k d v st n0 n1 n2:=(pO fun ⟨q1,_⟩=>hzx (hHE.trans q1)).symm
  refine bK U U fun wx hm=>?_
  refine ⟨lv,σ,_,U,⟨.same σ,hsm⟩,?_⟩
  have h8:gM _ _ ((g11,64, [.string k5,.string d5,.int .i64 f5,.int .i64 t5,.slice A5 n5 c5])::(go,119, [u0,.slice cA cn cc,u2,u3,u4,u5,u6,u7,u8,u9,jK,jL,jM,jN,jO,jP,.map (some gv),.map (some gs),.map (some fT),lv,.map (some fQ),.map (some fS),.map (some fU),.map (some gC),rv]):: []) [⟨lv,74,5,σ.lg.length,σ.lg.flatMap dP⟩,⟨rv,226,2,rn,rx⟩] _ wx:=hm
  exact (h8.tailL.subX (dQ 2 U (dQ 3 U (dQ 4 U (dQ 5 U (dQ 6 U (dQ 7 U (dQ 8 U (dQ 9 U (dQ 10 U (dQ 11 U bV5))))))))))).cy
 refine bN (bD (bS ?_))
 have hz0:HE=0:=by simpa using hz
 have hq0:bU3 HE (⟨k,d,at_,n0, [startLeg v (⟨at_,st,n1,n2⟩:Rd)]⟩:Hr)=(⟨k,d,at_,n0, [startLeg v (⟨at_,st,n1,n2⟩:Rd)]⟩:Hr):=bT0 hz0
 have hx9:=hq0.symm.trans hxq.symm
 injection hx9 with q1 q2 q3 q4 q5
 subst q1 q2 q3 q4 q5
 have hn5:n5=1:=cC.symm
 have hHE0:hireE (⟨k,d,at_,n0, [startLeg v (⟨at_,st,n1,n2⟩:Rd)]⟩:Hr)=0:=hHE.symm.trans hz0
 have hrk:HrOk k d [startLeg v (⟨at_,st,n1,n2⟩:Rd)]:=⟨hk,hdz,fun g hg=>by
  rw [List.mem_singleton.1 hg]
  exact ⟨hv,hs,(by decide:(⟨#[]⟩:ByteArray).size<=1000000)⟩⟩
 have hinv0: [startLeg v (⟨at_,st,n1,n2⟩:Rd)].length=n5:=cC
 obtain ⟨EE,zX⟩:∃z,z=dI [dK twi 6,dK (!iv|| !ist) 8,CE,dK (decide (500<=(mb:Int))) 12]:=⟨_,rfl⟩
 refine bP U (bB (bX U) U (dW qV U U (eI zN 1 U U U (bP U (bB (gW (enc:=nH) (ek:=dN) (s:=k) (e:=64) vV kB (by kernel_rfl) (by kernel_rfl) U U (fun _ hm=>(hm.fact 7 U))) U (bP U (bB (cR U U) U (bL 69 (v':= .agg #[.string h0,.string h1,.int .i64 h2,.int .i64 h3,.slice hA vE hc]) U (congrArg nH hxh.symm) (bB (cR U U) U (bL 70 (v':= .bool twi) U (fH5 htwi.symm) (dH bA6 U fun g4=>jX (cs':= [.string h0,.string h1,.int .i64 h2,.int .i64 h3,.slice hA vE hc]) 0 nT U U U U (bZ U (bR (bS (bP U (bB (bX U) U (dW bF9 U U (eI dZ3 2 U U U (bP U (bB (gW (enc:=vS) (ek:=dN) (s:=v) (e:=9) (⟨#[]⟩:ByteArray) kB (by kernel_rfl) (by kernel_rfl) U U (fun _ hm=>(hm.fact 2 U))) U (bP U (bB (cR U U) U (bL 78 (v':= .string vc) U (congrArg Value.string hvc.symm) (bB (cR U U) U (bL 79 (v':= .bool iv) U (fH5 hiv.symm) ?_)))))))))))))))))))))))))
 refine bZ U (bZ U (bR (bS (bP U (bP U (bP U (bB (dJ (cs:= [.int .i64 at_,.string v,.string st,.int .i64 2,.string ⟨#[]⟩]) U (by kernel_rfl)) U (dH cW1 U fun g5=>jX (cs':= [.int .i64 at_,.string v,.string st,.int .i64 2,.string ⟨#[]⟩]) 0 fR U U U U (bR (bH ?_))))))))))
 refine pC (γ:=Int) (I:=(fun (E:Int)=>E=EE)) (S':=(fun (E:Int)=> [(0,.pointer (some ⟨go,0,none⟩)),(6,.int .i64 0),(7,.string k),(11,.pointer (some ⟨g11,0,none⟩)),(17,.pointer (some ⟨g5,0,none⟩)),(18,.int .i64 E)])) (K':=(fun (E:Int)=>fun _=>True)) (L':=(fun (E:Int)=> [(g5,74, [.int .i64 at_,.string v,.string st,.int .i64 2,.string ⟨#[]⟩]),(g4,64, [.string h0,.string h1,.int .i64 h2,.int .i64 h3,.slice hA vE hc]),(g11,64, [.string k,.string d,.int .i64 at_,.int .i64 n0,.slice A5 n5 c5]),(go,119, [u0,.slice cA cn cc,u2,u3,u4,u5,u6,u7,u8,u9,jK,jL,jM,jN,jO,jP,.map (some gv),.map (some gs),.map (some fT),lv,.map (some fQ),.map (some fS),.map (some fU),.map (some gC),rv])])) (O':=(fun (E:Int)=> [⟨lv,74,5,σ.lg.length,σ.lg.flatMap dP⟩,⟨rv,226,2,rn,rx⟩])) (X':=(fun (E:Int)=> [fun wy=>SlT lgEnc 9 68 wy A5 n5 [startLeg v (⟨at_,st,n1,n2⟩:Rd)],uH fU mb,bV vS dN w0.heap.size gv (V),bV vB dN w0.heap.size gs (T),bV qU dN w0.heap.size fT (σ.fs),bV vB nD w0.heap.size fQ (σ.fa),bV qA dN w0.heap.size fS (σ.fb),bV nH dN w0.heap.size fU (σ.fh),bV vI dN w0.heap.size gC (fp),gD 68 σ.fh,bU dV 2 84 w0.heap.size none cA cn cl,TxtO w0.heap.size none,fun wy=>SlT fH 1 9 wy (some ⟨tb,uE,none⟩) 4 [k,d,v,st],fun wy=>SlT kN 1 3 wy (some ⟨nb,xQ,none⟩) 3 [n0,n1,n2]])) ?_ ?_
 ·refine gd (fun wz=>Blk wz g5 74 [.int .i64 at_,.string v,.string st,.int .i64 2,.string ⟨#[]⟩]/\Blk wz go 119 [u0,.slice cA cn cc,u2,u3,u4,u5,u6,u7,u8,u9,jK,jL,jM,jN,jO,jP,.map (some gv),.map (some gs),.map (some fT),lv,.map (some fQ),.map (some fS),.map (some fU),.map (some gC),rv]/\(uH fU mb) wz/\(bV vB dN w0.heap.size gs (T)) wz/\True) mixed (fun _ hm=>⟨hm.bl 0,hm.bl 3,hm.fa 1,hm.fa 3,trivial⟩) fun z=>?_
  refine wq 0 U (bJ U) (wq 2 U (bJ U) (wq 3 U (cF U) (wq 14 U (bJ U) (wq 15 U (cX fR U (fun _ hm=>hm.1) U U) (wq 17 U (bJ U) (wq 18 U (bX U) (wq 19 U (bQ qV U U) (wq 20 U (cN zN U (fun _ hm=>hm.2.1) U) (eC 1 U (dA U qK U U (fun wx hm=>(eE _ _ wx)) (bE (nw 27 2015247 (fun _ hm=>⟨hm.bl 0,hm.bl 3,hm.fa 1,hm.fa 3,trivial⟩) fun z=>wq 4 U (bJ U) ?_))))))))))))
  rcases Bool.eq_false_or_eq_true (!iv) with hb6|hb6
  ·refine dG 88 U (fH5 hb6) ?_
   refine fC 5 U (fC 6 U (fC 7 U (fC 8 U (fC 9 U (fC 10 U (fC 11 U (wq 12 U (fD U U) (eC 13 U (dA U qK U U (fun wx hm=>(eE _ _ wx)) (bE (nw 27 2031615 (fun _ hm=>⟨hm.bl 0,hm.bl 3,hm.fa 1,hm.fa 3,trivial⟩) fun z=>eC 16 U (cL (v:= .int .i64 CE) U bE0 U U (fun wx hm=>(by rw [hCE];exact (rR σ u0 u2 u3 u4 u5 u6 u7 u8 u9 jK jL jM jN jO jP go gv gs fT fQ fS fU gC cA cn cc lv rv at_ v st 2 ⟨#[]⟩ _ wx (hm.blkI 3 rfl) (hm.fact 4 rfl) (hm.fact 5 rfl)))) (bE (nw 27 2097151 (fun _ hm=>⟨hm.bl 0,hm.bl 3,hm.fa 1,hm.fa 3,trivial⟩) fun z=>wq 21 U (bZ1 (k:=9) (e:=64) (n:=mb) (by kernel_rfl) U (fun _ hm=>(hm.2.2.1))) (wq 22 U (mO U U) (eC 23 U (dA U qK U U (fun wx hm=>(eE _ _ wx)) (bE (nw 27 16777215 (fun _ hm=>⟨hm.bl 0,hm.bl 3,hm.fa 1,hm.fa 3,trivial⟩) fun z=>eC 24 U (jF 48 [.int .i64 (dK twi 6),.int .i64 (dK true 8),.int .i64 CE,.int .i64 (dK (decide (500<=((mb:Nat):Int))) 12)] fun g7=>bE (nw 27 33554431 (fun _ hm=>⟨hm.bl 1,hm.bl 4,hm.fa 1,hm.fa 3,trivial⟩) fun z=>eC 25 U (dA U wJ U U (fun wx hm=>(fJ [dK twi 6,dK true 8,CE,dK (decide (500<=((mb:Nat):Int))) 12] _ _ _ wx (hm.blkI 0 U) (by simp))) (bE (nw 27 67108863 (fun _ hm=>⟨hm.bl 1,hm.bl 4,hm.fa 1,hm.fa 3,trivial⟩) fun z=>?_))))))))))))))))))))))))
   refine wq 26 U (cU U) (jH ?_)
   exact fK (dI [dK twi 6,dK true 8,CE,dK (decide (500<=((mb:Nat):Int))) 12]) (by rw [zX,hb6];rfl) ⟨U,U,U,U,U,U,trivial⟩ (fun _ hm=>hm.pick [1,2,3,4] [0,1] [0,1,2,3,4,5,6,7,8,9,10,11,12,13] U U)
  refine dG 88 U (fH5 hb6) (fI 5 U (bJ U) (fI 6 U (bX U) (fI 7 U (bQ yB U U) (fI 8 U (cN cI1 U (fun _ hm=>hm.2.1) U) (fI 9 U (bJ U) (fI 10 U (kV (enc:=vB) (ek:=dN) (s:=st) (e:=4) false kB (by kernel_rfl) (by kernel_rfl) U U (fun _ hm=>(hm.2.2.2.1))) (dG 94 (v':= .bool ist) U (fH5 bQ2.symm) (fI 11 U (cF U) (wq 12 U (fN U U) (eC 13 U (dA U qK U U (fun wx hm=>(eE _ _ wx)) (bE (nw 27 2031615 (fun _ hm=>⟨hm.bl 0,hm.bl 3,hm.fa 1,hm.fa 3,trivial⟩) fun z=>eC 16 U (cL (v:= .int .i64 CE) U bE0 U U (fun wx hm=>(by rw [hCE];exact (rR σ u0 u2 u3 u4 u5 u6 u7 u8 u9 jK jL jM jN jO jP go gv gs fT fQ fS fU gC cA cn cc lv rv at_ v st 2 ⟨#[]⟩ _ wx (hm.blkI 3 rfl) (hm.fact 4 rfl) (hm.fact 5 rfl)))) (bE (nw 27 2097151 (fun _ hm=>⟨hm.bl 0,hm.bl 3,hm.fa 1,hm.fa 3,trivial⟩) fun z=>wq 21 U (bZ1 (k:=9) (e:=64) (n:=mb) (by kernel_rfl) U (fun _ hm=>(hm.2.2.1))) (wq 22 U (mO U U) (eC 23 U (dA U qK U U (fun wx hm=>(eE _ _ wx)) (bE (nw 27 16777215 (fun _ hm=>⟨hm.bl 0,hm.bl 3,hm.fa 1,hm.fa 3,trivial⟩) fun z=>eC 24 U (jF 48 [.int .i64 (dK twi 6),.int .i64 (dK (!ist) 8),.int .i64 CE,.int .i64 (dK (decide (500<=((mb:Nat):Int))) 12)] fun g8=>bE (nw 27 33554431 (fun _ hm=>⟨hm.bl 1,hm.bl 4,hm.fa 1,hm.fa 3,trivial⟩) fun z=>eC 25 U (dA U wJ U U (fun wx hm=>(fJ [dK twi 6,dK (!ist) 8,CE,dK (decide (500<=((mb:Nat):Int))) 12] _ _ _ wx (hm.blkI 0 U) (by simp))) ?_))))))))))))))))))))))))
  refine bE (nw 27 67108863 (fun _ hm=>⟨hm.bl 1,hm.bl 4,hm.fa 1,hm.fa 3,trivial⟩) fun z=>wq 26 U (cU U) (jH ?_))
  exact fK (dI [dK twi 6,dK (!ist) 8,CE,dK (decide (500<=((mb:Nat):Int))) 12]) (by rw [zX,hb6];rfl) ⟨U,U,U,U,U,U,trivial⟩ (fun _ hm=>hm.pick [1,2,3,4] [0,1] [0,1,2,3,4,5,6,7,8,9,10,11,12,13] U U)
 intro E cC
 replace cC:E=EE:=cC
 refine bS ?_
 replace cC:_=_:=cC
 subst cC
 refine bP U (bB (gX U U) U (bR ?_))
 refine gI U (fun hy=>?_) (fun hy=>?_)
 ·refine bS (bP U (bZ U (bR ?_)))
  refine bM (bA ?_)
  have hyx:E≠0:=by simpa using hy
  have hsm:fY σ=bS7 V T at_ (fY σ) k d v st n0 n1 n2:=(pO fun ⟨_,q2,⟨q3,q4⟩,q5⟩=>hyx (by
   rw [cO4] at q2
   rw [zX,htwi.trans q2,hiv.trans q3,bQ2.trans q4,hCE.trans (qO.2 (bD0.1 q5)),decide_eq_false (by omega)];rfl)).symm
  refine bK U U fun wx hm=>?_
  refine ⟨lv,σ,_,U,⟨.same σ,hsm⟩,?_⟩
  have h8:gM _ _ ((g5,74, [.int .i64 at_,.string v,.string st,.int .i64 2,.string ⟨#[]⟩])::(g4,64, [.string h0,.string h1,.int .i64 h2,.int .i64 h3,.slice hA vE hc])::(g11,64, [.string k,.string d,.int .i64 at_,.int .i64 n0,.slice A5 n5 c5])::(go,119, [u0,.slice cA cn cc,u2,u3,u4,u5,u6,u7,u8,u9,jK,jL,jM,jN,jO,jP,.map (some gv),.map (some gs),.map (some fT),lv,.map (some fQ),.map (some fS),.map (some fU),.map (some gC),rv]):: []) [⟨lv,74,5,σ.lg.length,σ.lg.flatMap dP⟩,⟨rv,226,2,rn,rx⟩] _ wx:=hm
  exact (h8.tailL.tailL.tailL.subX (dQ 2 U (dQ 3 U (dQ 4 U (dQ 5 U (dQ 6 U (dQ 7 U (dQ 8 U (dQ 9 U (dQ 10 U (dQ 11 U bV5))))))))))).cy
 refine bN (bD (bS ?_))
 have hE0:E=0:=by simpa using hy
 rw [zX] at hE0
 obtain ⟨z1,z2,z3,_⟩:=dP8 hE0
 have z4:=rG (by decide) z1
 have z5:=rG (by decide) z2
 have z6:iv=true/\ist=true:=by simpa using z5
 have z7:(σ.fh k).isSome=false:=htwi.symm.trans z4
 have z8:(V v).isSome=true:=hiv.symm.trans z6.1
 have z9:(T st).getD false=true:=bQ2.symm.trans z6.2
 have hcan:bM2 σ (gO at_ v st):=qO.1 (hCE.symm.trans z3)
 refine bP U (bB (cX fR U (fun _ hm=>hm.blkI 0 U) U U) U ?_)
 refine fO (γ:=Value) (val:=fun _=> .tuple #[]) (φ:=fun _=>True) (K':=fun _=>fun _=>True) (L':=fun qM=> [(go,119, [u0,.slice cA cn cc,u2,u3,u4,u5,u6,u7,u8,u9,jK,jL,jM,jN,jO,jP,.map (some gv),.map (some gs),.map (some fT),qM,.map (some fQ),.map (some fS),.map (some fU),.map (some gC),rv]),(g11,64, [.string k,.string d,.int .i64 at_,.int .i64 n0,.slice A5 n5 c5])]) (O':=fun qM=> [⟨qM,74,5,(gL σ (gO at_ v st)).lg.length,(gL σ (gO at_ v st)).lg.flatMap dP⟩,⟨rv,226,2,rn,rx⟩]) (X':=fun _=> [bV vS dN w0.heap.size gv (V),bV vB dN w0.heap.size gs (T),bV qU dN w0.heap.size fT ((gL σ (gO at_ v st)).fs),bV vB nD w0.heap.size fQ ((gL σ (gO at_ v st)).fa),bV qA dN w0.heap.size fS ((gL σ (gO at_ v st)).fb),bV nH dN w0.heap.size fU ((gL σ (gO at_ v st)).fh),bV vI dN w0.heap.size gC (fp),gD 68 (gL σ (gO at_ v st)).fh,bU dV 2 84 w0.heap.size none cA cn cl,TxtO w0.heap.size none,fun wy=>SlT lgEnc 9 68 wy A5 n5 [startLeg v (⟨at_,st,n1,n2⟩:Rd)]]) U cD7 U U (fun wx hm=>(bQ5 w0 u0 u2 u3 u4 u5 u6 u7 u8 u9 jK jL jM jN jO jP go gv gs fT fQ fS fU gC cA cn cc cl V T rv rn rx hd fp σ lv at_ v st 2 ⟨#[]⟩ [(g11,64, [.string k,.string d,.int .i64 at_,.int .i64 n0,.slice A5 n5 c5])] [fun wy=>SlT lgEnc 9 68 wy A5 n5 [startLeg v (⟨at_,st,n1,n2⟩:Rd)]] (dO3 SlT.mfar) wx hlg (hm.pick [3,2] [0,1] [2,3,4,5,6,7,8,9,10,11,0] U U).cy).mono fun _ _ ⟨lv_,he,vP⟩=>⟨lv_,he,trivial,vP.cy⟩) ?_
 intro qM _
 refine bR (bH (gd (fun wz=>Blk wz go 119 [u0,.slice cA cn cc,u2,u3,u4,u5,u6,u7,u8,u9,jK,jL,jM,jN,jO,jP,.map (some gv),.map (some gs),.map (some fT),qM,.map (some fQ),.map (some fS),.map (some fU),.map (some gC),rv]/\Blk wz g11 64 [.string k,.string d,.int .i64 at_,.int .i64 n0,.slice A5 n5 c5]/\True) mixed (fun _ hm=>⟨hm.bl 0,hm.bl 1,trivial⟩) fun z=>wq 0 U (bJ U) (wq 1 U (bX U) (wq 2 U (bQ qV U U) (wq 3 U (cN zN U (fun _ hm=>hm.1) U) (wq 4 U (bJ U) (wq 5 U (cX nT U (fun _ hm=>hm.2.1) U U) (eC 6 U (kO (enc:=nH) (ek:=dN) (s:=k) (v:=(⟨k,d,at_,n0,A5,n5,c5, [startLeg v (⟨at_,st,n1,n2⟩:Rd)]⟩:Hg)) (e:=64) (X':= [bV vS dN w0.heap.size gv (V),bV vB dN w0.heap.size gs (T),bV qU dN w0.heap.size fT ((gL σ (gO at_ v st)).fs),bV vB nD w0.heap.size fQ ((gL σ (gO at_ v st)).fa),bV qA dN w0.heap.size fS ((gL σ (gO at_ v st)).fb),bV vI dN w0.heap.size gC (fp),gD 68 (gL σ (gO at_ v st)).fh,bU dV 2 84 w0.heap.size none cA cn cl,TxtO w0.heap.size none,fun wy=>SlT lgEnc 9 68 wy A5 n5 [startLeg v (⟨at_,st,n1,n2⟩:Rd)]]) 5 kB (by kernel_rfl) U U U U (cP (i:=0) (bV.farK (gS hd (i:=0) (j:=5) U U (by decide))) U (cP (i:=1) (bV.farK (gS hd (i:=1) (j:=5) U U (by decide))) U (cP (i:=2) (bV.farK (gS hd (i:=2) (j:=5) U U (by decide))) U (cP (i:=3) (bV.farK (gS hd (i:=3) (j:=5) U U (by decide))) U (cP (i:=4) (bV.farK (gS hd (i:=4) (j:=5) U U (by decide))) U (cP (i:=6) (bV.farK (gS hd (i:=6) (j:=5) U U (by decide))) U (cP (i:=7) (gD.mfar).far U (cP (i:=8) (bU.mfar).far U (cP (i:=9) (TxtO.mfar).far U (cP (i:=10) (SlT.mfar).far U fZ)))))))))) (bE (nw 7 127 (fun _ hm=>⟨hm.bl 0,hm.bl 1,trivial⟩) fun z=>jH (bD (bS (bP U (bB (bX U) U (dW bM1 U U (eI cX3 0 U U U (bP U ?_))))))))))))))))))
 refine cV1 (enc:=qA) (ek:=dN) (s:=k) (e:=146) (X':= [bV nH dN w0.heap.size fU (fP ((gL σ (gO at_ v st)).fh) k (⟨k,d,at_,n0,A5,n5,c5, [startLeg v (⟨at_,st,n1,n2⟩:Rd)]⟩:Hg)),bV vS dN w0.heap.size gv (V),bV vB dN w0.heap.size gs (T),bV qU dN w0.heap.size fT ((gL σ (gO at_ v st)).fs),bV vB nD w0.heap.size fQ ((gL σ (gO at_ v st)).fa),bV vI dN w0.heap.size gC (fp),gD 68 (gL σ (gO at_ v st)).fh,bU dV 2 84 w0.heap.size none cA cn cl,TxtO w0.heap.size none,fun wy=>SlT lgEnc 9 68 wy A5 n5 [startLeg v (⟨at_,st,n1,n2⟩:Rd)]]) 5 kB (by kernel_rfl) U U U U (cP (i:=0) (bV.farK (gS hd (i:=5) (j:=4) U U (by decide))) U (cP (i:=1) (bV.farK (gS hd (i:=0) (j:=4) U U (by decide))) U (cP (i:=2) (bV.farK (gS hd (i:=1) (j:=4) U U (by decide))) U (cP (i:=3) (bV.farK (gS hd (i:=2) (j:=4) U U (by decide))) U (cP (i:=4) (bV.farK (gS hd (i:=3) (j:=4) U U (by decide))) U (cP (i:=6) (bV.farK (gS hd (i:=6) (j:=4) U U (by decide))) U (cP (i:=7) (gD.mfar).far U (cP (i:=8) (bU.mfar).far U (cP (i:=9) (TxtO.mfar).far U (cP (i:=10) (SlT.mfar).far U fZ)))))))))) ?_
 refine bR (bS (bZ U (bR (bM ?_))))
 have hab:fY ({ gL σ (gO at_ v st) with fh:=fP σ.fh k (⟨k,d,at_,n0,A5,n5,c5, [startLeg v (⟨at_,st,n1,n2⟩:Rd)]⟩:Hg),fb:=yL σ.fb k }:Os)=bS7 V T at_ (fY σ) k d v st n0 n1 n2:=by
  refine Eq.trans ?_ (yK ⟨hHE0,by rw [cO4];exact z7,⟨z8,z9⟩,hcan⟩).symm
  show (⟨_,_,_,fun j=>(fP σ.fh k _ j).map hrG,_⟩:As)=_
  rw [cN4];rfl
 refine bK U U fun wx hm=>?_
 refine ⟨qM,_,0,U,⟨.start σ (⟨k,d,at_,n0,A5,n5,c5, [startLeg v (⟨at_,st,n1,n2⟩:Rd)]⟩:Hg) v (⟨at_,st,n1,n2⟩:Rd) ⟨hrk,by dsimp only;omega,by dsimp only;omega,hinv0⟩ hHE0 U U z7 z8 z9 hcan,hab⟩,?_⟩
 have hput:=gD.put (k:=k) (h:=(⟨k,d,at_,n0,A5,n5,c5, [startLeg v (⟨at_,st,n1,n2⟩:Rd)]⟩:Hg)) (hm.fact 7 rfl) (hm.fact 10 rfl)
 have hm:=hm.also (gD.lasts2 rfl) hput
 exact (hm.pick [0] [0,1] [3,4,5,6,1,2,7,0,9,10] U U).cy
end Go.Proofs.YtmifpfcmldflkaaGreatDoor
