/- Several texts as one: Ef Dkc Tw Dkd Cl Gb Fq Ci By Ss1 Rt2 Bg Bw Dke Dkf -/
import Derived.Test.YtmifpfcmldflkaaGreatDoorS1a
import Derived.Test.YtmifpfcmldflkaaGreatDoorS1b
import Derived.Test.YtmifpfcmldflkaaGreatDoorProg
import Derived.Ground.NamesProg
import Derived.Shelf.Sort.Plain
set_option maxRecDepth 100000
set_option maxHeartbeats 4000000
namespace Go.Proofs.YtmifpfcmldflkaaGreatDoor
open Tryz
open Go.RowKit
theorem xU (s0:Int) (s1:ByteArray) (s2 e0:Int) (e1 e2:ByteArray) (e3:Int) (e4:ByteArray) (w:World):Calls prog 47 #[.agg #[.int .i64 s0,.string s1,.int .i64 s2],.agg #[.int .i64 e0,.string e1,.string e2,.int .i64 e3,.string e4]] w (fun e w'=>e=.returned (.tuple #[.agg (kQ (fW (⟨s0,s1,s2⟩:Sa) (⟨e0,e1,e2,e3,e4⟩:Ev))).toArray,.bool (fF (⟨s0,s1,s2⟩:Sa) (⟨e0,e1,e2,e3,e4⟩:Ev))])/\w.grownBy w' none):=by
 refine cS ⟨74,w,none, []⟩ func47 U ntmps47 U (gM (X:= []) cX cY) (bR (fG U U U fun g1=>fG U U U fun g2=>dL cZ7 U fun g3=>bX U (bQ (bR (dY eK1 U U (eJ fC 2 U U U (dY rN U U (eJ fC 1 U U U (bB (eS U U) U (bX U (bQ (bH (bI (dY uY U U (eJ fP 2 U U U (bB (eL U U) U (bP U ?_)))))))))))))))))
 rcases Bool.eq_false_or_eq_true (decide (s0=1)) with h0|h0
 ·refine bK 19 U (fU3 h0) ?_
  refine eE U (bP U (mN U U (bX U (bQ (bH (gd (fun wz=>Blk wz g2 74 [.int .i64 e0,.string e1,.string e2,.int .i64 e3,.string e4]/\True) mixed (fun _ hm=>⟨hm.bl 1,trivial⟩) fun z=>wq 0 U (bS rN U U) (wq 1 U (cQ fC U (fun _ hm=>hm.1) U) (wq 2 U (cV U) (wq 3 U (cV U) (wq 4 U (cV U) (jO (bD (bH (bR (dY bR2 U U (eJ fP 1 U U U (bQ (bO (bR (bB (eL U U) U (bX U (bE (bD ?_)))))))))))))))))))))))
  refine cC U (fun h1=>?_) (fun h1=>?_)
  ·refine gd (fun wz=>Blk wz g1 138 [.int .i64 s0,.string s1,.int .i64 s2]/\True) mixed (fun _ hm=>⟨hm.bl 2,trivial⟩) fun z=>?_
   refine wq 0 U (bS uY U U) (wq 1 U (cQ fP U (fun _ hm=>hm.1) U) (wq 2 U (eL U U) (wq 3 U (cV U) (wq 4 U (cV U) (jO (bG (bD (bH (bR (bP U (bB (cE U) U (bQ ?_))))))))))))
   refine dC U (fun hh=>?_) (fun hh=>?_)
   ·have h2:(decide (s0=0))=false:=by simpa using hh
    refine bR (bB (cU eI U (fun _ hm=>hm.blkI 2 U) U U) U (kE (cs':= [.int .i64 s0,.string s1,.int .i64 s2]) 0 eI U U U U (bX U (bQ (bM (bA ?_))))))
    refine eQ 0 U eI U U U U fun wx hm=>?_
    have hg:=hm.g
    clear hm
    exact ⟨by simp [fF,fW,kQ, *],hg⟩
   have h2:(decide (s0=0))=true:=by simpa using hh
   refine bN (bD (bR (bP U (bP U (dY mD U U (eJ fP 1 U U U (bB (dJ (cs:= [.int .i64 1,.string e2,.int .i64 e0]) U (by kernel_rfl)) U (kE (cs':= [.int .i64 1,.string e2,.int .i64 e0]) 0 eI U U U U (bX U (bQ (bM ?_)))))))))))
   refine eQ 0 U eI U U U U fun wx hm=>?_
   have hg:=hm.g
   clear hm
   exact ⟨by simp [fF,fW,jS,kQ, *],hg⟩
  refine bR (bB (eL U U) U (bX U (bQ ?_)))
  refine cC U (fun h2=>?_) (fun h2=>?_)
  ·refine bI (bP U (bX U (bX U (bX U (bE (bG (bD (bH (bR (bP U (bB (cE U) U (bE ?_))))))))))))
   refine bD ?_
   refine dC U (fun hh=>?_) (fun hh=>?_)
   ·have h3:(s1.toList==e2.toList)=false:=by simpa using hh
    refine bR (bB (cU eI U (fun _ hm=>hm.blkI 2 U) U U) U (kE (cs':= [.int .i64 s0,.string s1,.int .i64 s2]) 0 eI U U U U (bX U (bQ (bM (bA ?_))))))
    refine eQ 0 U eI U U U U fun wx hm=>?_
    have hg:=hm.g
    clear hm
    exact ⟨by simp [fF,fW,kQ, *],hg⟩
   have h3:(s1.toList==e2.toList)=true:=by simpa using hh
   refine bN (bD (bR (bP U (bP U (dY mD U U (eJ fP 1 U U U (bB (dJ (cs:= [.int .i64 2,.string ⟨#[]⟩,.int .i64 e0]) U (by kernel_rfl)) U (kE (cs':= [.int .i64 2,.string ⟨#[]⟩,.int .i64 e0]) 0 eI U U U U (bX U (bQ (bM ?_)))))))))))
   refine eQ 0 U eI U U U U fun wx hm=>?_
   have hg:=hm.g
   clear hm
   exact ⟨by simp [fF,fW,jS,kQ, *],hg⟩
  refine bR (bB (eL U U) U (bX U (bQ ?_)))
  refine cC U (fun h3=>?_) (fun h3=>?_)
  ·refine gd (fun wz=>Blk wz g1 138 [.int .i64 s0,.string s1,.int .i64 s2]/\True) mixed (fun _ hm=>⟨hm.bl 2,trivial⟩) fun z=>?_
   refine wq 0 U (bS uY U U) (wq 1 U (cQ fP U (fun _ hm=>hm.1) U) (wq 2 U (eL U U) (wq 3 U (cV U) (wq 4 U (cV U) (jO (bG (bD (bH (bR (bP U (bB (cE U) U (bQ ?_))))))))))))
   refine dC U (fun hh=>?_) (fun hh=>?_)
   ·have h4:(decide (s0=2))=false:=by simpa using hh
    refine bR (bB (cU eI U (fun _ hm=>hm.blkI 2 U) U U) U (kE (cs':= [.int .i64 s0,.string s1,.int .i64 s2]) 0 eI U U U U (bX U (bQ (bM (bA ?_))))))
    refine eQ 0 U eI U U U U fun wx hm=>?_
    have hg:=hm.g
    clear hm
    exact ⟨by simp [fF,fW,kQ, *],hg⟩
   have h4:(decide (s0=2))=true:=by simpa using hh
   refine bN (bD (bR (bP U (bP U (dY mD U U (eJ fP 1 U U U (bB (dJ (cs:= [.int .i64 1,.string e2,.int .i64 e0]) U (by kernel_rfl)) U (kE (cs':= [.int .i64 1,.string e2,.int .i64 e0]) 0 eI U U U U (bX U (bQ (bM ?_)))))))))))
   refine eQ 0 U eI U U U U fun wx hm=>?_
   have hg:=hm.g
   clear hm
   exact ⟨by simp [fF,fW,jS,kQ, *],hg⟩
  refine bR (bB (eL U U) U (bX U (bQ ?_)))
  refine cC U (fun h4=>?_) (fun h4=>?_)
  ·refine bI (bP U (bX U (bX U (bE (bG (bD (bH (bR (bP U (bB (cE U) U (bQ ?_)))))))))))
   refine dC U (fun hh=>?_) (fun hh=>?_)
   ·have h5:(s1.toList==e2.toList)=false:=by simpa using hh
    refine bR (bB (cU eI U (fun _ hm=>hm.blkI 2 U) U U) U (kE (cs':= [.int .i64 s0,.string s1,.int .i64 s2]) 0 eI U U U U (bX U (bQ (bM (bA ?_))))))
    refine eQ 0 U eI U U U U fun wx hm=>?_
    have hg:=hm.g
    clear hm
    exact ⟨by simp [fF,fW,kQ, *],hg⟩
   have h5:(s1.toList==e2.toList)=true:=by simpa using hh
   refine bN (bD (bR (bP U (bP U (dY mD U U (eJ fP 1 U U U (bB (dJ (cs:= [.int .i64 3,.string e2,.int .i64 e0]) U (by kernel_rfl)) U (kE (cs':= [.int .i64 3,.string e2,.int .i64 e0]) 0 eI U U U U (bX U (bQ (bM ?_)))))))))))
   refine eQ 0 U eI U U U U fun wx hm=>?_
   have hg:=hm.g
   clear hm
   exact ⟨by simp [fF,fW,jS,kQ, *],hg⟩
  refine bR (bB (eL U U) U (bX U (bQ ?_)))
  refine cC U (fun h5=>?_) (fun h5=>?_)
  ·refine bI (dY uY U U (eJ fP 2 U U U (bB (eL U U) U (bP U ?_))))
   rcases Bool.eq_false_or_eq_true (decide (s0=3)) with h6|h6
   ·refine bK 47 U (fU3 h6) ?_
    refine eE U (bP U (mN U U (bX U (bX U (bE (bG (bD (bH (bR (bP U (bB (cE U) U (bQ ?_))))))))))))
    refine dC U (fun hh=>?_) (fun hh=>?_)
    ·have h7:(s1.toList==e2.toList)=false:=by simpa using hh
     refine bR (bB (cU eI U (fun _ hm=>hm.blkI 2 U) U U) U (kE (cs':= [.int .i64 s0,.string s1,.int .i64 s2]) 0 eI U U U U (bX U (bQ (bM (bA ?_))))))
     refine eQ 0 U eI U U U U fun wx hm=>?_
     have hg:=hm.g
     clear hm
     exact ⟨by simp [fF,fW,kQ, *],hg⟩
    have h7:(s1.toList==e2.toList)=true:=by simpa using hh
    refine bN (bD (bR (bP U (bP U (dY mD U U (eJ fP 1 U U U (bB (dJ (cs:= [.int .i64 1,.string e2,.int .i64 e0]) U (by kernel_rfl)) U (kE (cs':= [.int .i64 1,.string e2,.int .i64 e0]) 0 eI U U U U (bX U (bQ (bM ?_)))))))))))
    refine eQ 0 U eI U U U U fun wx hm=>?_
    have hg:=hm.g
    clear hm
    exact ⟨by simp [fF,fW,jS,kQ, *],hg⟩
   refine bK 47 U (fU3 h6) (dZ U (nR U U (bX U (bX U (bE (bG (bD (bH (bR (bP U (bB (cE U) U (bK 67 (v':= .bool true) U (fU3 (by decide)) (bQ (kP U (bR (bB (cU eI U (fun _ hm=>hm.blkI 2 U) U U) U (kE (cs':= [.int .i64 s0,.string s1,.int .i64 s2]) 0 eI U U U U (bX U (bQ (bM (bA ?_)))))))))))))))))))))
   refine eQ 0 U eI U U U U fun wx hm=>?_
   have hg:=hm.g
   clear hm
   exact ⟨by simp [fF,fW,kQ, *],hg⟩
  refine bR (bB (eL U U) U (bX U (bQ ?_)))
  refine cC U (fun h6=>?_) (fun h6=>?_)
  ·refine gd (fun wz=>Blk wz g2 74 [.int .i64 e0,.string e1,.string e2,.int .i64 e3,.string e4]/\True) mixed (fun _ hm=>⟨hm.bl 1,trivial⟩) fun z=>?_
   refine wq 0 U (bS rZ U U) (wq 1 U (cQ fC U (fun _ hm=>hm.1) U) (wq 2 U (bL U) (wq 3 U (cV U) (wq 4 U (cV U) (wq 5 U (cV U) (jO (bG (bD (bH (bR (bP U (bB (cE U) U (bQ ?_)))))))))))))
   refine dC U (fun hh=>?_) (fun hh=>?_)
   ·have h7:(s1.toList==e2.toList)=false:=by simpa using hh
    refine bR (bB (cU eI U (fun _ hm=>hm.blkI 2 U) U U) U (kE (cs':= [.int .i64 s0,.string s1,.int .i64 s2]) 0 eI U U U U (bX U (bQ (bM (bA ?_))))))
    refine eQ 0 U eI U U U U fun wx hm=>?_
    have hg:=hm.g
    clear hm
    exact ⟨by simp [fF,fW,kQ, *],hg⟩
   have h7:(s1.toList==e2.toList)=true:=by simpa using hh
   refine bN (bD (bR (bP U (bP U (dY mD U U (eJ fP 1 U U U (bB (dJ (cs:= [.int .i64 4,.string e4,.int .i64 e0]) U (by kernel_rfl)) U (kE (cs':= [.int .i64 4,.string e4,.int .i64 e0]) 0 eI U U U U (bX U (bQ (bM ?_)))))))))))
   refine eQ 0 U eI U U U U fun wx hm=>?_
   have hg:=hm.g
   clear hm
   exact ⟨by simp [fF,fW,jS,kQ, *],hg⟩
  refine bR (bB (eL U U) U (bX U (bQ ?_)))
  refine cC U (fun h7=>?_) (fun h7=>?_)
  ·refine bI (dY uY U U (eJ fP 2 U U U (bB (eL U U) U (bP U ?_))))
   rcases Bool.eq_false_or_eq_true (decide (s0=4)) with h8|h8
   ·refine bK 60 U (fU3 h8) ?_
    refine eE U (bP U (mN U U (bX U (bX U (bE (bG (bD (bH (bR (bP U (bB (cE U) U (bQ ?_))))))))))))
    refine dC U (fun hh=>?_) (fun hh=>?_)
    ·have h9:(s1.toList==e2.toList)=false:=by simpa using hh
     refine bR (bB (cU eI U (fun _ hm=>hm.blkI 2 U) U U) U (kE (cs':= [.int .i64 s0,.string s1,.int .i64 s2]) 0 eI U U U U (bX U (bQ (bM (bA ?_))))))
     refine eQ 0 U eI U U U U fun wx hm=>?_
     have hg:=hm.g
     clear hm
     exact ⟨by simp [fF,fW,kQ, *],hg⟩
    have h9:(s1.toList==e2.toList)=true:=by simpa using hh
    refine bN (bD (bR (bP U (bP U (dY mD U U (eJ fP 1 U U U (bB (dJ (cs:= [.int .i64 1,.string e2,.int .i64 e0]) U (by kernel_rfl)) U (kE (cs':= [.int .i64 1,.string e2,.int .i64 e0]) 0 eI U U U U (bX U (bQ (bM ?_)))))))))))
    refine eQ 0 U eI U U U U fun wx hm=>?_
    have hg:=hm.g
    clear hm
    exact ⟨by simp [fF,fW,jS,kQ, *],hg⟩
   refine bK 60 U (fU3 h8) (dZ U (nR U U (bX U (bX U (bE (bG (bD (bH (bR (bP U (bB (cE U) U (bK 67 (v':= .bool true) U (fU3 (by decide)) (bQ (kP U (bR (bB (cU eI U (fun _ hm=>hm.blkI 2 U) U U) U (kE (cs':= [.int .i64 s0,.string s1,.int .i64 s2]) 0 eI U U U U (bX U (bQ (bM (bA ?_)))))))))))))))))))))
   refine eQ 0 U eI U U U U fun wx hm=>?_
   have hg:=hm.g
   clear hm
   exact ⟨by simp [fF,fW,kQ, *],hg⟩
  refine bR (bB (eL U U) U (bX U (bQ ?_)))
  refine cC U (fun h8=>?_) (fun h8=>?_)
  ·refine bI (bP U (bX U (bX U (bX U (bE (bG (bD (bH (bR (bP U (bB (cE U) U (bE ?_))))))))))))
   refine bD ?_
   refine dC U (fun hh=>?_) (fun hh=>?_)
   ·have h9:(s1.toList==e2.toList)=false:=by simpa using hh
    refine bR (bB (cU eI U (fun _ hm=>hm.blkI 2 U) U U) U (kE (cs':= [.int .i64 s0,.string s1,.int .i64 s2]) 0 eI U U U U (bX U (bQ (bM (bA ?_))))))
    refine eQ 0 U eI U U U U fun wx hm=>?_
    have hg:=hm.g
    clear hm
    exact ⟨by simp [fF,fW,kQ, *],hg⟩
   have h9:(s1.toList==e2.toList)=true:=by simpa using hh
   refine bN (bD (bR (bP U (bP U (dY mD U U (eJ fP 1 U U U (bB (dJ (cs:= [.int .i64 5,.string ⟨#[]⟩,.int .i64 e0]) U (by kernel_rfl)) U (kE (cs':= [.int .i64 5,.string ⟨#[]⟩,.int .i64 e0]) 0 eI U U U U (bX U (bQ (bM ?_)))))))))))
   refine eQ 0 U eI U U U U fun wx hm=>?_
   have hg:=hm.g
   clear hm
   exact ⟨by simp [fF,fW,jS,kQ, *],hg⟩
  refine bN (bG (bD (bH (bR (bP U (bB (cE U) U (bK 67 (v':= .bool true) U (fU3 (by decide)) (bQ (kP U (bR (bB (cU eI U (fun _ hm=>hm.blkI 2 U) U U) U (kE (cs':= [.int .i64 s0,.string s1,.int .i64 s2]) 0 eI U U U U (bX U (bQ (bM (bA ?_))))))))))))))))
  refine eQ 0 U eI U U U U fun wx hm=>?_
  have hg:=hm.g
  clear hm
  exact ⟨by simp [fF,fW,kQ, *],hg⟩
 refine bK 19 U (fU3 h0) (dZ U (nR U U (bX U (bQ (bH (gd (fun wz=>Blk wz g2 74 [.int .i64 e0,.string e1,.string e2,.int .i64 e3,.string e4]/\True) mixed (fun _ hm=>⟨hm.bl 1,trivial⟩) fun z=>wq 0 U (bS rN U U) (wq 1 U (cQ fC U (fun _ hm=>hm.1) U) (wq 2 U (cV U) (wq 3 U (cV U) (wq 4 U (cV U) (jO (bD (bH (bR (dY bR2 U U (eJ fP 1 U U U (bQ (bO (bR (bB (eL U U) U (bX U (bE (bD ?_)))))))))))))))))))))))
 refine cC U (fun h1=>?_) (fun h1=>?_)
 ·refine gd (fun wz=>Blk wz g1 138 [.int .i64 s0,.string s1,.int .i64 s2]/\True) mixed (fun _ hm=>⟨hm.bl 2,trivial⟩) fun z=>?_
  refine wq 0 U (bS uY U U) (wq 1 U (cQ fP U (fun _ hm=>hm.1) U) (wq 2 U (eL U U) (wq 3 U (cV U) (wq 4 U (cV U) (jO (bG (bD (bH (bR (bP U (bB (cE U) U (bQ ?_))))))))))))
  refine dC U (fun hh=>?_) (fun hh=>?_)
  ·have h2:(decide (s0=0))=false:=by simpa using hh
   refine bR (bB (cU eI U (fun _ hm=>hm.blkI 2 U) U U) U (kE (cs':= [.int .i64 s0,.string s1,.int .i64 s2]) 0 eI U U U U (bX U (bQ (bM (bA ?_))))))
   refine eQ 0 U eI U U U U fun wx hm=>?_
   have hg:=hm.g
   clear hm
   exact ⟨by simp [fF,fW,kQ, *],hg⟩
  have h2:(decide (s0=0))=true:=by simpa using hh
  refine bN (bD (bR (bP U (bP U (dY mD U U (eJ fP 1 U U U (bB (dJ (cs:= [.int .i64 1,.string e2,.int .i64 e0]) U (by kernel_rfl)) U (kE (cs':= [.int .i64 1,.string e2,.int .i64 e0]) 0 eI U U U U (bX U (bQ (bM ?_)))))))))))
  refine eQ 0 U eI U U U U fun wx hm=>?_
  have hg:=hm.g
  clear hm
  exact ⟨by simp [fF,fW,jS,kQ, *],hg⟩
 refine bR (bB (eL U U) U (bX U (bQ ?_)))
 refine cC U (fun h2=>?_) (fun h2=>?_)
 ·refine bI (bP U (bX U (bX U (bX U (bE (bG (bD (bH (bR (bP U (bB (cE U) U ?_)))))))))))
  refine bK 67 (v':= .bool true) U (fU3 (by decide)) (bQ (kP U (bR (bB (cU eI U (fun _ hm=>hm.blkI 2 U) U U) U (kE (cs':= [.int .i64 s0,.string s1,.int .i64 s2]) 0 eI U U U U (bX U (bQ (bM (bA ?_)))))))))
  refine eQ 0 U eI U U U U fun wx hm=>?_
  have hg:=hm.g
  clear hm
  exact ⟨by simp [fF,fW,kQ, *],hg⟩
 refine bR (bB (eL U U) U (bX U (bQ ?_)))
 refine cC U (fun h3=>?_) (fun h3=>?_)
 ·refine gd (fun wz=>Blk wz g1 138 [.int .i64 s0,.string s1,.int .i64 s2]/\True) mixed (fun _ hm=>⟨hm.bl 2,trivial⟩) fun z=>?_
  refine wq 0 U (bS uY U U) (wq 1 U (cQ fP U (fun _ hm=>hm.1) U) (wq 2 U (eL U U) (wq 3 U (cV U) (wq 4 U (cV U) (jO (bG (bD (bH (bR (bP U (bB (cE U) U (bQ ?_))))))))))))
  refine dC U (fun hh=>?_) (fun hh=>?_)
  ·have h4:(decide (s0=2))=false:=by simpa using hh
   refine bR (bB (cU eI U (fun _ hm=>hm.blkI 2 U) U U) U (kE (cs':= [.int .i64 s0,.string s1,.int .i64 s2]) 0 eI U U U U (bX U (bQ (bM (bA ?_))))))
   refine eQ 0 U eI U U U U fun wx hm=>?_
   have hg:=hm.g
   clear hm
   exact ⟨by simp [fF,fW,kQ, *],hg⟩
  have h4:(decide (s0=2))=true:=by simpa using hh
  refine bN (bD (bR (bP U (bP U (dY mD U U (eJ fP 1 U U U (bB (dJ (cs:= [.int .i64 1,.string e2,.int .i64 e0]) U (by kernel_rfl)) U (kE (cs':= [.int .i64 1,.string e2,.int .i64 e0]) 0 eI U U U U (bX U (bQ (bM ?_)))))))))))
  refine eQ 0 U eI U U U U fun wx hm=>?_
  have hg:=hm.g
  clear hm
  exact ⟨by simp [fF,fW,jS,kQ, *],hg⟩
 refine bR (bB (eL U U) U (bX U (bQ ?_)))
 refine cC U (fun h4=>?_) (fun h4=>?_)
 ·refine bI (bP U (bX U (bX U (bE (bG (bD (bH (bR (bP U (bB (cE U) U ?_))))))))))
  refine bK 67 (v':= .bool true) U (fU3 (by decide)) (bQ (kP U (bR (bB (cU eI U (fun _ hm=>hm.blkI 2 U) U U) U (kE (cs':= [.int .i64 s0,.string s1,.int .i64 s2]) 0 eI U U U U (bX U (bQ (bM (bA ?_)))))))))
  refine eQ 0 U eI U U U U fun wx hm=>?_
  have hg:=hm.g
  clear hm
  exact ⟨by simp [fF,fW,kQ, *],hg⟩
 refine bR (bB (eL U U) U (bX U (bQ ?_)))
 refine cC U (fun h5=>?_) (fun h5=>?_)
 ·refine bI (dY uY U U (eJ fP 2 U U U (bB (eL U U) U (bP U ?_))))
  rcases Bool.eq_false_or_eq_true (decide (s0=3)) with h6|h6
  ·refine bK 47 U (fU3 h6) ?_
   refine eE U (bP U (mN U U (bX U (bX U (bE (bG (bD (bH (bR (bP U (bB (cE U) U (bQ ?_))))))))))))
   refine dC U (fun hh=>?_) (fun hh=>?_)
   ·have h7:(s1.toList==e2.toList)=false:=by simpa using hh
    refine bR (bB (cU eI U (fun _ hm=>hm.blkI 2 U) U U) U (kE (cs':= [.int .i64 s0,.string s1,.int .i64 s2]) 0 eI U U U U (bX U (bQ (bM (bA ?_))))))
    refine eQ 0 U eI U U U U fun wx hm=>?_
    have hg:=hm.g
    clear hm
    exact ⟨by simp [fF,fW,kQ, *],hg⟩
   have h7:(s1.toList==e2.toList)=true:=by simpa using hh
   refine bN (bD (bR (bP U (bP U (dY mD U U (eJ fP 1 U U U (bB (dJ (cs:= [.int .i64 1,.string e2,.int .i64 e0]) U (by kernel_rfl)) U (kE (cs':= [.int .i64 1,.string e2,.int .i64 e0]) 0 eI U U U U (bX U (bQ (bM ?_)))))))))))
   refine eQ 0 U eI U U U U fun wx hm=>?_
   have hg:=hm.g
   clear hm
   exact ⟨by simp [fF,fW,jS,kQ, *],hg⟩
  refine bK 47 U (fU3 h6) (dZ U (nR U U (bX U (bX U (bE (bG (bD (bH (bR (bP U (bB (cE U) U (bK 67 (v':= .bool true) U (fU3 (by decide)) (bQ (kP U (bR (bB (cU eI U (fun _ hm=>hm.blkI 2 U) U U) U (kE (cs':= [.int .i64 s0,.string s1,.int .i64 s2]) 0 eI U U U U (bX U (bQ (bM (bA ?_)))))))))))))))))))))
  refine eQ 0 U eI U U U U fun wx hm=>?_
  have hg:=hm.g
  clear hm
  exact ⟨by simp [fF,fW,kQ, *],hg⟩
 refine bR (bB (eL U U) U (bX U (bQ ?_)))
 refine cC U (fun h6=>?_) (fun h6=>?_)
 ·refine gd (fun wz=>Blk wz g2 74 [.int .i64 e0,.string e1,.string e2,.int .i64 e3,.string e4]/\True) mixed (fun _ hm=>⟨hm.bl 1,trivial⟩) fun z=>?_
  refine wq 0 U (bS rZ U U) (wq 1 U (cQ fC U (fun _ hm=>hm.1) U) (wq 2 U (bL U) (wq 3 U (cV U) (wq 4 U (cV U) (wq 5 U (cV U) (jO (bG (bD (bH (bR (bP U (bB (cE U) U (bK 67 (v':= .bool true) U (fU3 (by decide)) (bQ (kP U (bR (bB (cU eI U (fun _ hm=>hm.blkI 2 U) U U) U (kE (cs':= [.int .i64 s0,.string s1,.int .i64 s2]) 0 eI U U U U (bX U (bQ (bM (bA ?_))))))))))))))))))))))
  refine eQ 0 U eI U U U U fun wx hm=>?_
  have hg:=hm.g
  clear hm
  exact ⟨by simp [fF,fW,kQ, *],hg⟩
 refine bR (bB (eL U U) U (bX U (bQ ?_)))
 refine cC U (fun h7=>?_) (fun h7=>?_)
 ·refine bI (dY uY U U (eJ fP 2 U U U (bB (eL U U) U (bP U ?_))))
  rcases Bool.eq_false_or_eq_true (decide (s0=4)) with h8|h8
  ·refine bK 60 U (fU3 h8) ?_
   refine eE U (bP U (mN U U (bX U (bX U (bE (bG (bD (bH (bR (bP U (bB (cE U) U (bQ ?_))))))))))))
   refine dC U (fun hh=>?_) (fun hh=>?_)
   ·have h9:(s1.toList==e2.toList)=false:=by simpa using hh
    refine bR (bB (cU eI U (fun _ hm=>hm.blkI 2 U) U U) U (kE (cs':= [.int .i64 s0,.string s1,.int .i64 s2]) 0 eI U U U U (bX U (bQ (bM (bA ?_))))))
    refine eQ 0 U eI U U U U fun wx hm=>?_
    have hg:=hm.g
    clear hm
    exact ⟨by simp [fF,fW,kQ, *],hg⟩
   have h9:(s1.toList==e2.toList)=true:=by simpa using hh
   refine bN (bD (bR (bP U (bP U (dY mD U U (eJ fP 1 U U U (bB (dJ (cs:= [.int .i64 1,.string e2,.int .i64 e0]) U (by kernel_rfl)) U (kE (cs':= [.int .i64 1,.string e2,.int .i64 e0]) 0 eI U U U U (bX U (bQ (bM ?_)))))))))))
   refine eQ 0 U eI U U U U fun wx hm=>?_
   have hg:=hm.g
   clear hm
   exact ⟨by simp [fF,fW,jS,kQ, *],hg⟩
  refine bK 60 U (fU3 h8) (dZ U (nR U U (bX U (bX U (bE (bG (bD (bH (bR (bP U (bB (cE U) U (bK 67 (v':= .bool true) U (fU3 (by decide)) (bQ (kP U (bR (bB (cU eI U (fun _ hm=>hm.blkI 2 U) U U) U (kE (cs':= [.int .i64 s0,.string s1,.int .i64 s2]) 0 eI U U U U (bX U (bQ (bM (bA ?_)))))))))))))))))))))
  refine eQ 0 U eI U U U U fun wx hm=>?_
  have hg:=hm.g
  clear hm
  exact ⟨by simp [fF,fW,kQ, *],hg⟩
 refine bR (bB (eL U U) U (bX U (bQ ?_)))
 refine cC U (fun h8=>?_) (fun h8=>?_)
 ·refine bI (bP U (bX U (bX U (bX U (bE (bG (bD (bH (bR (bP U (bB (cE U) U ?_)))))))))))
  refine bK 67 (v':= .bool true) U (fU3 (by decide)) (bQ (kP U (bR (bB (cU eI U (fun _ hm=>hm.blkI 2 U) U U) U (kE (cs':= [.int .i64 s0,.string s1,.int .i64 s2]) 0 eI U U U U (bX U (bQ (bM (bA ?_)))))))))
  refine eQ 0 U eI U U U U fun wx hm=>?_
  have hg:=hm.g
  clear hm
  exact ⟨by simp [fF,fW,kQ, *],hg⟩
 refine bN (bG (bD (bH (bR (bP U (bB (cE U) U (bK 67 (v':= .bool true) U (fU3 (by decide)) (bQ (kP U (bR (bB (cU eI U (fun _ hm=>hm.blkI 2 U) U U) U (kE (cs':= [.int .i64 s0,.string s1,.int .i64 s2]) 0 eI U U U U (bX U (bQ (bM (bA ?_))))))))))))))))
 refine eQ 0 U eI U U U U fun wx hm=>?_
 have hg:=hm.g
 clear hm
 exact ⟨by simp [fF,fW,kQ, *],hg⟩
theorem gR {l:List Nat} (h:l.Nodup) {i j a b:Nat} (ha:l[i]?=some a) (hb:l[j]?=some b) (hij:i≠j):a≠b:=fun e=>by
 subst e
 obtain ⟨h1,e1⟩:=List.getElem?_eq_some_iff.1 ha
 obtain ⟨h2,e2⟩:=List.getElem?_eq_some_iff.1 hb
 rcases Nat.lt_or_ge i j with h3|h3
 ·exact List.pairwise_iff_getElem.1 h i j h1 h2 h3 (e1.trans e2.symm)
 ·exact List.pairwise_iff_getElem.1 h j i h2 h1 (by omega) (e2.trans e1.symm)
theorem qL.cells {w:World} (h:qL w) {k:Nat} (hk:isG k):∃c T f,w.heap[k]?=some (.cells c T f):=by
 obtain ⟨⟨T1,f1,h1⟩,⟨c2,T2,f2,m2,h2,_⟩,⟨T3,f3,t3,p3,h3⟩,T4,f4,t4,p4,h4⟩:=h
 rcases hk with rfl|rfl|rfl|rfl
 ·exact ⟨_,_,_,h1⟩
 ·exact ⟨_,_,_,h2⟩
 ·exact ⟨_,_,_,h3⟩
 ·exact ⟨_,_,_,h4⟩
theorem TxtO.mfar {N:Nat}:bK2 (TxtO N none):=fun M g w w' _ ⟨es,ck,hb⟩ h3 h=>⟨h.1.same fun k hk=>h3.block k (h.1.lt hk) (fun e=>by
 have e2:k=g:=by injection e
 subst e2
 obtain ⟨c,T,f,hc⟩:=h.1.cells hk
 rw [hb] at hc;cases hc),h.2⟩
def cH3 (σ:Os) (x:Ev):Int:=dG [dI ((σ.fa (x.veh,x.at_)).getD false) 6,dI (!fF ((σ.fs x.veh).getD wM) x) 11]
theorem qM {σ:Os} {x:Ev}:cH3 σ x=0↔bT1 σ x:=by
 unfold cH3 bT1
 cases h1:(σ.fa (x.veh,x.at_)).getD false <;> cases h2:fF ((σ.fs x.veh).getD wM) x <;> simp [dG,dI]
theorem rJ (σ:Os) (u0 u2 u3 u4 u5 u6 u7 u8 u9 jI jJ jK jL jM jN:Value) (go gv gs fT fR fS fU gC:Nat) (cA:Option Addr) (cn cc:Nat) (lv rv:Value) (e0:Int) (e1 e2:ByteArray) (e3:Int) (e4:ByteArray) (N0:Nat) (w:World) (hb:Blk w go 119 [u0,.slice cA cn cc,u2,u3,u4,u5,u6,u7,u8,u9,jI,jJ,jK,jL,jM,jN,.map (some gv),.map (some gs),.map (some fT),lv,.map (some fR),.map (some fS),.map (some fU),.map (some gC),rv]) (hst:bU qS dM N0 fT (σ.fs) w) (hat:bU vB nB N0 fR (σ.fa) w):
 Calls prog 211 #[.pointer (some ⟨go,0,none⟩),.agg #[.int .i64 e0,.string e1,.string e2,.int .i64 e3,.string e4]] w (mP w (cH3 σ ⟨e0,e1,e2,e3,e4⟩)):=by
 refine cS ⟨35,w,none, []⟩ func211 U ntmps211 U (gM (X:= [fL w.heap.size none go 119 [u0,.slice cA cn cc,u2,u3,u4,u5,u6,u7,u8,u9,jI,jJ,jK,jL,jM,jN,.map (some gv),.map (some gs),.map (some fT),lv,.map (some fR),.map (some fS),.map (some fU),.map (some gC),rv],bU qS dM N0 fT (σ.fs),bU vB nB N0 fR (σ.fa)]) (cF hb.old (cF hst (cF hat cX))) (cG fL.lasts (cG bU.lasts2 (cG bU.lasts2 cY)))) (bR ?_)
 obtain ⟨ss,hss⟩:∃z,z=(σ.fs e1).getD wM:=⟨_,rfl⟩
 obtain ⟨tw,htw⟩:∃z,z=(σ.fa (e1,e0)).getD false:=⟨_,rfl⟩
 obtain ⟨GB,hGB⟩:∃z,z=fF ss (⟨e0,e1,e2,e3,e4⟩:Ev):=⟨_,rfl⟩
 obtain ⟨CE,hCE⟩:∃z,z=cH3 σ ⟨e0,e1,e2,e3,e4⟩:=⟨_,rfl⟩
 have hCE2:CE=dG [dI tw 6,dI (!GB) 11]:=by rw [hCE,hGB,hss,htw];rfl
 rw [<-hCE]
 obtain ⟨s0,s1,s2⟩:=ss
 refine fG U U U fun g1=>bX U (bQ (bH (gd (fun wz=>Blk wz g1 74 [.int .i64 e0,.string e1,.string e2,.int .i64 e3,.string e4]/\(fL w.heap.size none go 119 [u0,.slice cA cn cc,u2,u3,u4,u5,u6,u7,u8,u9,jI,jJ,jK,jL,jM,jN,.map (some gv),.map (some gs),.map (some fT),lv,.map (some fR),.map (some fS),.map (some fU),.map (some gC),rv]) wz/\(bU qS dM N0 fT (σ.fs)) wz/\True) mixed (fun _ hm=>⟨hm.bl 0,hm.fa 0,hm.fa 1,trivial⟩) fun z=>wq 0 U (bL U) (wq 1 U (dA U) (wq 2 U (bS cR3 U U) (wq 3 U (cQ (v:= .map (some fT)) dJ9 U (fun _ hm=>(hm.2.1).2) U) (wq 4 U (bS qZ U U) (wq 5 U (cQ fC U (fun _ hm=>hm.1) U) (wq 6 U (kT (enc:=qS) (ek:=dM) (s:=e1) (e:=138) wM jZ (by kernel_rfl) (by kernel_rfl) U U (fun _ hm=>(hm.2.2.1))) (dH 14 (v':= .agg #[.int .i64 s0,.string s1,.int .i64 s2]) U (congrArg qS hss.symm) (wq 7 U (cU fJ U (fun _ hm=>hm.1) U U) ?_)))))))))))
 refine kK [8,12] (by kernel_rfl) U ⟨⟨_,U,?_⟩,⟨_,U,?_⟩,trivial⟩
 ·refine cH (v:= .tuple #[.agg #[.int .i64 ((fW (⟨s0,s1,s2⟩:Sa) ⟨e0,e1,e2,e3,e4⟩).st),.string ((fW (⟨s0,s1,s2⟩:Sa) ⟨e0,e1,e2,e3,e4⟩).sta),.int .i64 ((fW (⟨s0,s1,s2⟩:Sa) ⟨e0,e1,e2,e3,e4⟩).since)],.bool GB]) U eV0 U U (fun wx hm=>(by have h:=xU s0 s1 s2 e0 e1 e2 e3 e4 wx;rw [hGB];exact h)) ?_
  refine bE (nw 15 511 (fun _ hm=>⟨hm.bl 0,hm.fa 0,hm.fa 1,trivial⟩) fun z=>wq 9 U (bL U) (wq 10 U (cP U U) (wq 11 U (cP U U) (eG 12 U (dL cZ7 U fun g2=>bE (nw 15 8191 (fun _ hm=>⟨hm.bl 1,hm.fa 0,hm.fa 1,trivial⟩) fun z=>eG 13 U (kE (cs':= [.int .i64 ((fW (⟨s0,s1,s2⟩:Sa) ⟨e0,e1,e2,e3,e4⟩).st),.string ((fW (⟨s0,s1,s2⟩:Sa) ⟨e0,e1,e2,e3,e4⟩).sta),.int .i64 ((fW (⟨s0,s1,s2⟩:Sa) ⟨e0,e1,e2,e3,e4⟩).since)]) 0 eI U U U U (bE (nw 15 16383 (fun _ hm=>⟨hm.bl 1,hm.fa 0,hm.fa 1,trivial⟩) fun z=>wq 14 U (cV U) (jO (bD (bH (gd (fun wz=>Blk wz g1 74 [.int .i64 e0,.string e1,.string e2,.int .i64 e3,.string e4]/\(fL w.heap.size none go 119 [u0,.slice cA cn cc,u2,u3,u4,u5,u6,u7,u8,u9,jI,jJ,jK,jL,jM,jN,.map (some gv),.map (some gs),.map (some fT),lv,.map (some fR),.map (some fS),.map (some fU),.map (some gC),rv]) wz/\(bU vB nB N0 fR (σ.fa)) wz/\True) mixed (fun _ hm=>⟨hm.bl 1,hm.fa 0,hm.fa 2,trivial⟩) fun z=>wq 0 U (bL U) (wq 1 U (dA U) (wq 2 U (bS cS3 U U) (wq 3 U (cQ (v:= .map (some fR)) dK9 U (fun _ hm=>(hm.2.1).2) U) (wq 4 U (bS qZ U U) (wq 5 U (cQ fC U (fun _ hm=>hm.1) U) (wq 6 U (bS mD U U) (wq 7 U (cQ fP U (fun _ hm=>hm.1) U) (wq 8 U (dJ (cs:= [.string e1,.int .i64 e0]) U (by kernel_rfl)) (wq 9 U (kT (enc:=vB) (ek:=nB) (s:=(e1,e0)) (e:=4) false cL9 (by kernel_rfl) (by kernel_rfl) U U (fun _ hm=>(hm.2.2.1))) (dH 28 (v':= .bool tw) U (fU3 htw.symm) (wq 11 U (bL U) ?_))))))))))))))))))))))))
  refine wq 12 U (cE U) (eG 10 U (cZ U qN U U (fun wx hm=>(eH _ _ wx)) (bE (nw 17 8191 (fun _ hm=>⟨hm.bl 1,hm.fa 0,hm.fa 2,trivial⟩) fun z=>eG 13 U (cZ U qN U U (fun wx hm=>(eH _ _ wx)) (bE (nw 17 16383 (fun _ hm=>⟨hm.bl 1,hm.fa 0,hm.fa 2,trivial⟩) fun z=>eG 14 U (jE 48 [.int .i64 (dI tw 6),.int .i64 (dI (!GB) 11)] fun g3=>bE (nw 17 32767 (fun _ hm=>⟨hm.bl 2,hm.fa 0,hm.fa 2,trivial⟩) fun z=>eG 15 U (cZ U wH U U (fun wx hm=>(fN [dI tw 6,dI (!GB) 11] _ _ _ wx (hm.blkI 0 U) (by simp))) (bE (nw 17 65535 (fun _ hm=>⟨hm.bl 2,hm.fa 0,hm.fa 2,trivial⟩) fun z=>wq 16 U (cV U) (jO (bD (bM ?_)))))))))))))))
  exact bJ U U fun wx hm=>⟨bT hCE2.symm,hm.g⟩
 refine dL cZ7 U fun g4=>bE (nw 15 4351 (fun _ hm=>⟨hm.bl 1,hm.fa 0,hm.fa 1,trivial⟩) fun z=>eG 8 U (cH (v:= .tuple #[.agg #[.int .i64 ((fW (⟨s0,s1,s2⟩:Sa) ⟨e0,e1,e2,e3,e4⟩).st),.string ((fW (⟨s0,s1,s2⟩:Sa) ⟨e0,e1,e2,e3,e4⟩).sta),.int .i64 ((fW (⟨s0,s1,s2⟩:Sa) ⟨e0,e1,e2,e3,e4⟩).since)],.bool GB]) U eV0 U U (fun wx hm=>(by have h:=xU s0 s1 s2 e0 e1 e2 e3 e4 wx;rw [hGB];exact h)) (bE (nw 15 4607 (fun _ hm=>⟨hm.bl 1,hm.fa 0,hm.fa 1,trivial⟩) fun z=>wq 9 U (bL U) (wq 10 U (cP U U) (wq 11 U (cP U U) (eG 13 U (kE (cs':= [.int .i64 ((fW (⟨s0,s1,s2⟩:Sa) ⟨e0,e1,e2,e3,e4⟩).st),.string ((fW (⟨s0,s1,s2⟩:Sa) ⟨e0,e1,e2,e3,e4⟩).sta),.int .i64 ((fW (⟨s0,s1,s2⟩:Sa) ⟨e0,e1,e2,e3,e4⟩).since)]) 0 eI U U U U (bE (nw 15 16383 (fun _ hm=>⟨hm.bl 1,hm.fa 0,hm.fa 1,trivial⟩) fun z=>wq 14 U (cV U) (jO (bD (bH (gd (fun wz=>Blk wz g1 74 [.int .i64 e0,.string e1,.string e2,.int .i64 e3,.string e4]/\(fL w.heap.size none go 119 [u0,.slice cA cn cc,u2,u3,u4,u5,u6,u7,u8,u9,jI,jJ,jK,jL,jM,jN,.map (some gv),.map (some gs),.map (some fT),lv,.map (some fR),.map (some fS),.map (some fU),.map (some gC),rv]) wz/\(bU vB nB N0 fR (σ.fa)) wz/\True) mixed (fun _ hm=>⟨hm.bl 1,hm.fa 0,hm.fa 2,trivial⟩) fun z=>wq 0 U (bL U) (wq 1 U (dA U) (wq 2 U (bS cS3 U U) (wq 3 U (cQ (v:= .map (some fR)) dK9 U (fun _ hm=>(hm.2.1).2) U) (wq 4 U (bS qZ U U) (wq 5 U (cQ fC U (fun _ hm=>hm.1) U) (wq 6 U (bS mD U U) (wq 7 U (cQ fP U (fun _ hm=>hm.1) U) (wq 8 U (dJ (cs:= [.string e1,.int .i64 e0]) U (by kernel_rfl)) (wq 9 U (kT (enc:=vB) (ek:=nB) (s:=(e1,e0)) (e:=4) false cL9 (by kernel_rfl) (by kernel_rfl) U U (fun _ hm=>(hm.2.2.1))) (dH 28 (v':= .bool tw) U (fU3 htw.symm) ?_))))))))))))))))))))))))
 refine wq 11 U (bL U) (wq 12 U (cE U) (eG 10 U (cZ U qN U U (fun wx hm=>(eH _ _ wx)) (bE (nw 17 8191 (fun _ hm=>⟨hm.bl 1,hm.fa 0,hm.fa 2,trivial⟩) fun z=>eG 13 U (cZ U qN U U (fun wx hm=>(eH _ _ wx)) (bE (nw 17 16383 (fun _ hm=>⟨hm.bl 1,hm.fa 0,hm.fa 2,trivial⟩) fun z=>eG 14 U (jE 48 [.int .i64 (dI tw 6),.int .i64 (dI (!GB) 11)] fun g5=>bE (nw 17 32767 (fun _ hm=>⟨hm.bl 2,hm.fa 0,hm.fa 2,trivial⟩) fun z=>eG 15 U (cZ U wH U U (fun wx hm=>(fN [dI tw 6,dI (!GB) 11] _ _ _ wx (hm.blkI 0 U) (by simp))) (bE (nw 17 65535 (fun _ hm=>⟨hm.bl 2,hm.fa 0,hm.fa 2,trivial⟩) fun z=>wq 16 U (cV U) (jO (bD (bM ?_))))))))))))))))
 exact bJ U U fun wx hm=>⟨bT hCE2.symm,hm.g⟩
theorem bL4 (w0:World) (u0 u2 u3 u4 u5 u6 u7 u8 u9 jI jJ jK jL jM jN:Value) (go gv gs fT fR fS fU gC:Nat) (cA:Option Addr) (cn cc:Nat) (cl:List Cs) (V:ByteArray->Option ByteArray) (T:ByteArray->Option Bool) (rv:Value) (rn:Nat) (rx:List Value) (hd: [gv,gs,fT,fR,fS,fU,gC].Nodup) (fp:ByteArray->Option Int) (σ:Os) (lv:Value) (e0:Int) (e1 e2:ByteArray) (e3:Int) (e4:ByteArray) (L1:List (Nat×TypeId×List Value)) (X1:List (World->Prop)) (hX1:∀A∈X1,bK2 A) (w:World) (hlg:σ.lg.length<=100000) (hm:gV ⟨0,w0,none, [68,9,3]⟩ (fun _=>True) ((go,119, [u0,.slice cA cn cc,u2,u3,u4,u5,u6,u7,u8,u9,jI,jJ,jK,jL,jM,jN,.map (some gv),.map (some gs),.map (some fT),lv,.map (some fR),.map (some fS),.map (some fU),.map (some gC),rv])::L1) [⟨lv,74,5,σ.lg.length,σ.lg.flatMap dO⟩,⟨rv,226,2,rn,rx⟩] ((bU vS dM w0.heap.size gv (V))::(bU vB dM w0.heap.size gs (T))::(bU qS dM w0.heap.size fT (σ.fs))::(bU vB nB w0.heap.size fR (σ.fa))::(bU pZ dM w0.heap.size fS (σ.fb))::(bU nG dM w0.heap.size fU (σ.fh))::(bU vI dM w0.heap.size gC (fp))::(gF 68 σ.fh)::(bW dW 2 84 w0.heap.size none cA cn cl)::(TxtO w0.heap.size none)::X1) w):
 Calls prog 212 #[.pointer (some ⟨go,0,none⟩),.agg #[.int .i64 e0,.string e1,.string e2,.int .i64 e3,.string e4]] w (fun e w'=>∃lv',e=.returned (.tuple #[])/\gV ⟨0,w0,none, [68,9,3]⟩ (fun _=>True) ((go,119, [u0,.slice cA cn cc,u2,u3,u4,u5,u6,u7,u8,u9,jI,jJ,jK,jL,jM,jN,.map (some gv),.map (some gs),.map (some fT),lv',.map (some fR),.map (some fS),.map (some fU),.map (some gC),rv])::L1) [⟨lv',74,5,(gK σ ⟨e0,e1,e2,e3,e4⟩).lg.length,(gK σ ⟨e0,e1,e2,e3,e4⟩).lg.flatMap dO⟩,⟨rv,226,2,rn,rx⟩] ((bU vS dM w0.heap.size gv (V))::(bU vB dM w0.heap.size gs (T))::(bU qS dM w0.heap.size fT ((gK σ ⟨e0,e1,e2,e3,e4⟩).fs))::(bU vB nB w0.heap.size fR ((gK σ ⟨e0,e1,e2,e3,e4⟩).fa))::(bU pZ dM w0.heap.size fS ((gK σ ⟨e0,e1,e2,e3,e4⟩).fb))::(bU nG dM w0.heap.size fU ((gK σ ⟨e0,e1,e2,e3,e4⟩).fh))::(bU vI dM w0.heap.size gC (fp))::(gF 68 (gK σ ⟨e0,e1,e2,e3,e4⟩).fh)::(bW dW 2 84 w0.heap.size none cA cn cl)::(TxtO w0.heap.size none)::X1) w'):=by
 refine cS ⟨41,w0,none, [68,9,3]⟩ func212 U ntmps212 U hm.cy (bR ?_)
 obtain ⟨ss,hss⟩:∃z,z=(σ.fs e1).getD wM:=⟨_,rfl⟩
 obtain ⟨tau,htau⟩:∃z,z=gK σ ⟨e0,e1,e2,e3,e4⟩:=⟨_,rfl⟩
 have ht1:tau.fs=fQ σ.fs e1 (fW ss ⟨e0,e1,e2,e3,e4⟩):=by rw [htau,hss];rfl
 have ht2:tau.fa=fQ σ.fa (e1,e0) true:=by rw [htau];rfl
 have ht3:tau.lg=σ.lg++ [⟨e0,e1,e2,e3,e4⟩]:=by rw [htau];rfl
 have ht4:tau.fb=σ.fb:=by rw [htau];rfl
 have ht5:tau.fh=σ.fh:=by rw [htau];rfl
 rw [<-htau]
 obtain ⟨s0,s1,s2⟩:=ss
 obtain ⟨q0,hq0⟩:∃z,z=(fW (⟨s0,s1,s2⟩:Sa) ⟨e0,e1,e2,e3,e4⟩):=⟨_,rfl⟩
 rw [<-hq0] at ht1
 obtain ⟨q0,q1,q2⟩:=q0
 refine fG U U U fun g1=>bQ (bH (gd (fun wz=>Blk wz g1 74 [.int .i64 e0,.string e1,.string e2,.int .i64 e3,.string e4]/\Blk wz go 119 [u0,.slice cA cn cc,u2,u3,u4,u5,u6,u7,u8,u9,jI,jJ,jK,jL,jM,jN,.map (some gv),.map (some gs),.map (some fT),lv,.map (some fR),.map (some fS),.map (some fU),.map (some gC),rv]/\True) mixed (fun _ hm=>⟨hm.bl 0,hm.bl 1,trivial⟩) fun z=>wq 0 U (bL U) (wq 1 U (dA U) (wq 2 U (bS cR3 U U) (wq 3 U (cQ dJ9 U (fun _ hm=>hm.2.1) U) (wq 4 U (bS qZ U U) (wq 5 U (cQ fC U (fun _ hm=>hm.1) U) (wq 6 U (bL U) (wq 7 U (dA U) (wq 8 U (bS cR3 U U) (wq 9 U (cQ dJ9 U (fun _ hm=>hm.2.1) U) (wq 10 U (bS qZ U U) (wq 11 U (cQ fC U (fun _ hm=>hm.1) U) (wq 13 U (cU fJ U (fun _ hm=>hm.1) U U) (eG 12 U (bB (kT (enc:=qS) (ek:=dM) (s:=e1) (e:=138) wM jZ (by kernel_rfl) (by kernel_rfl) U U (fun _ hm=>(hm.fact 2 U))) U (bK 17 (v':= .agg #[.int .i64 s0,.string s1,.int .i64 s2]) U (congrArg qS hss.symm) (bE (nw 19 16383 (fun _ hm=>⟨hm.bl 0,hm.bl 1,trivial⟩) fun z=>eG 14 U (cH (v:= .tuple #[.agg #[.int .i64 q0,.string q1,.int .i64 q2],.bool (fF (⟨s0,s1,s2⟩:Sa) ⟨e0,e1,e2,e3,e4⟩)]) U eV0 U U (fun wx hm=>(by have h:=xU s0 s1 s2 e0 e1 e2 e3 e4 wx;rw [<-hq0] at h;exact h)) (bE (nw 19 32767 (fun _ hm=>⟨hm.bl 0,hm.bl 1,trivial⟩) fun z=>wq 15 U (bL U) (wq 16 U (cP U U) (wq 17 U (cP U U) (eG 18 U ?_)))))))))))))))))))))))))
 refine kO (enc:=qS) (ek:=dM) (s:=e1) (v:=⟨q0,q1,q2⟩) (e:=138) (X':=((bU vS dM w0.heap.size gv (V))::(bU vB dM w0.heap.size gs (T))::(bU vB nB w0.heap.size fR (σ.fa))::(bU pZ dM w0.heap.size fS (σ.fb))::(bU nG dM w0.heap.size fU (σ.fh))::(bU vI dM w0.heap.size gC (fp))::(gF 68 σ.fh)::(bW dW 2 84 w0.heap.size none cA cn cl)::(TxtO w0.heap.size none)::X1)) 2 jZ (by kernel_rfl) U U U U (cL (i:=0) (bU.farK (gR hd (i:=0) (j:=2) U U (by decide))) U (cL (i:=1) (bU.farK (gR hd (i:=1) (j:=2) U U (by decide))) U (cL (i:=3) (bU.farK (gR hd (i:=3) (j:=2) U U (by decide))) U (cL (i:=4) (bU.farK (gR hd (i:=4) (j:=2) U U (by decide))) U (cL (i:=5) (bU.farK (gR hd (i:=5) (j:=2) U U (by decide))) U (cL (i:=6) (bU.farK (gR hd (i:=6) (j:=2) U U (by decide))) U (cL (i:=7) (gF.mfar).far U (cL (i:=8) (bW.mfar).far U (cL (i:=9) (TxtO.mfar).far U (cV1 10 U hX1)))))))))) (bE (nw 19 524287 (fun _ hm=>⟨hm.bl 0,hm.bl 1,trivial⟩) fun z=>jO (bD (bH (gd (fun wz=>Blk wz g1 74 [.int .i64 e0,.string e1,.string e2,.int .i64 e3,.string e4]/\Blk wz go 119 [u0,.slice cA cn cc,u2,u3,u4,u5,u6,u7,u8,u9,jI,jJ,jK,jL,jM,jN,.map (some gv),.map (some gs),.map (some fT),lv,.map (some fR),.map (some fS),.map (some fU),.map (some gC),rv]/\True) mixed (fun _ hm=>⟨hm.bl 0,hm.bl 1,trivial⟩) fun z=>wq 0 U (bL U) (wq 1 U (dA U) (wq 2 U (bS cS3 U U) (wq 3 U (cQ dK9 U (fun _ hm=>hm.2.1) U) (wq 4 U (bS qZ U U) (wq 5 U (cQ fC U (fun _ hm=>hm.1) U) (wq 6 U (bS mD U U) (wq 7 U (cQ fP U (fun _ hm=>hm.1) U) (wq 8 U (dJ (cs:= [.string e1,.int .i64 e0]) U (by kernel_rfl)) (eG 9 U (kO (enc:=vB) (ek:=nB) (s:=(e1,e0)) (v:=true) (e:=4) (X':=((bU qS dM w0.heap.size fT (fQ (σ.fs) e1 (⟨q0,q1,q2⟩)))::(bU vS dM w0.heap.size gv (V))::(bU vB dM w0.heap.size gs (T))::(bU pZ dM w0.heap.size fS (σ.fb))::(bU nG dM w0.heap.size fU (σ.fh))::(bU vI dM w0.heap.size gC (fp))::(gF 68 σ.fh)::(bW dW 2 84 w0.heap.size none cA cn cl)::(TxtO w0.heap.size none)::X1)) 3 cL9 (by kernel_rfl) U U U U (cL (i:=0) (bU.farK (gR hd (i:=2) (j:=3) U U (by decide))) U (cL (i:=1) (bU.farK (gR hd (i:=0) (j:=3) U U (by decide))) U (cL (i:=2) (bU.farK (gR hd (i:=1) (j:=3) U U (by decide))) U (cL (i:=4) (bU.farK (gR hd (i:=4) (j:=3) U U (by decide))) U (cL (i:=5) (bU.farK (gR hd (i:=5) (j:=3) U U (by decide))) U (cL (i:=6) (bU.farK (gR hd (i:=6) (j:=3) U U (by decide))) U (cL (i:=7) (gF.mfar).far U (cL (i:=8) (bW.mfar).far U (cL (i:=9) (TxtO.mfar).far U (cV1 10 U hX1)))))))))) (bE (nw 10 1023 (fun _ hm=>⟨hm.bl 0,hm.bl 1,trivial⟩) fun z=>jO (bD (gd (fun wz=>Blk wz g1 74 [.int .i64 e0,.string e1,.string e2,.int .i64 e3,.string e4]/\True) mixed (fun _ hm=>⟨hm.bl 0,trivial⟩) fun z=>wq 0 U (bL U) (wq 1 U (bL U) (wq 2 U (dA U) (wq 3 U (bS bS3 U U) (wq 5 U (cU fJ U (fun _ hm=>hm.1) U U) ?_)))))))))))))))))))))))
 refine kK [4,6] (by kernel_rfl) U ⟨⟨_,U,?_⟩,⟨_,U,?_⟩,trivial⟩
 ·refine eJ dA5 1 U U U (bE ?_)
  refine nw 11 63 (fun _ hm=>⟨hm.bl 0,trivial⟩) fun z=>eG 6 U (jE 74 [.int .i64 e0,.string e1,.string e2,.int .i64 e3,.string e4] fun g2=>bE (nw 11 127 (fun _ hm=>⟨hm.bl 1,trivial⟩) fun z=>eG 7 U (eB (news:= [.int .i64 e0,.string e1,.string e2,.int .i64 e3,.string e4]) 0 0 eS0 U U U U U U U (by omega) (by unfold maxLen;omega) U U fun qK zJ=>?_)))
  refine dV (R:=∃A cc,qK= .slice A (σ.lg.length+1) cc) (fun wx hm=>dR (hm.ownI 0 U)) ?_
  rintro ⟨lA,lc,rfl⟩
  refine bE (nw 11 255 (fun _ hm=>⟨hm.bl 1,trivial⟩) fun z=>wq 8 U (dA U) (wq 9 U (bS bS3 U U) (eG 10 U (jH 2 dA5 U U U U U U (bE (nw 11 2047 (fun _ hm=>⟨hm.bl 1,trivial⟩) fun z=>jO ?_))))))
  have xM:σ.lg.flatMap dO++([.int .i64 e0,.string e1,.string e2,.int .i64 e3,.string e4]:List Value)=tau.lg.flatMap dO:=by rw [ht3];simp [dO]
  have hxn:σ.lg.length+1=tau.lg.length:=by rw [ht3];simp
  refine kC U fun wx hm=>?_
  refine ⟨(Value.slice lA (σ.lg.length+1) lc),U,?_⟩
  rw [ht1,ht2,ht4,ht5,<-hxn,<-xM]
  have h8:gV _ _ ((g2,74, [.int .i64 e0,.string e1,.string e2,.int .i64 e3,.string e4])::(g1,74, [.int .i64 e0,.string e1,.string e2,.int .i64 e3,.string e4])::(go,119, [u0,.slice cA cn cc,u2,u3,u4,u5,u6,u7,u8,u9,jI,jJ,jK,jL,jM,jN,.map (some gv),.map (some gs),.map (some fT),.slice lA (σ.lg.length+1) lc,.map (some fR),.map (some fS),.map (some fU),.map (some gC),rv])::L1) [⟨.slice lA (σ.lg.length+1) lc,74,5,σ.lg.length+1,σ.lg.flatMap dO++([.int .i64 e0,.string e1,.string e2,.int .i64 e3,.string e4]:List Value)⟩,⟨rv,226,2,rn,rx⟩] _ wx:=hm
  exact (h8.tailL.tailL.subX (dQ 2 U (dQ 3 U (dQ 1 U (dQ 0 U (dQ 4 U (dQ 5 U (dQ 6 U (dQ 7 U (dQ 8 U (dQ 9 U (cU2 10 U)))))))))))).cy
 refine jE 74 [.int .i64 e0,.string e1,.string e2,.int .i64 e3,.string e4] fun g3=>bE (nw 11 111 (fun _ hm=>⟨hm.bl 1,trivial⟩) fun z=>eG 4 U (eJ dA5 2 U U U (bE (nw 11 127 (fun _ hm=>⟨hm.bl 1,trivial⟩) fun z=>eG 7 U (eB (news:= [.int .i64 e0,.string e1,.string e2,.int .i64 e3,.string e4]) 0 0 eS0 U U U U U U U (by omega) (by unfold maxLen;omega) U U fun qK zJ=>?_)))))
 refine dV (R:=∃A cc,qK= .slice A (σ.lg.length+1) cc) (fun wx hm=>dR (hm.ownI 0 U)) ?_
 rintro ⟨lA,lc,rfl⟩
 refine bE (nw 11 255 (fun _ hm=>⟨hm.bl 1,trivial⟩) fun z=>wq 8 U (dA U) (wq 9 U (bS bS3 U U) (eG 10 U (jH 2 dA5 U U U U U U (bE (nw 11 2047 (fun _ hm=>⟨hm.bl 1,trivial⟩) fun z=>jO ?_))))))
 have xM:σ.lg.flatMap dO++([.int .i64 e0,.string e1,.string e2,.int .i64 e3,.string e4]:List Value)=tau.lg.flatMap dO:=by rw [ht3];simp [dO]
 have hxn:σ.lg.length+1=tau.lg.length:=by rw [ht3];simp
 refine kC U fun wx hm=>?_
 refine ⟨(Value.slice lA (σ.lg.length+1) lc),U,?_⟩
 rw [ht1,ht2,ht4,ht5,<-hxn,<-xM]
 have h8:gV _ _ ((g3,74, [.int .i64 e0,.string e1,.string e2,.int .i64 e3,.string e4])::(g1,74, [.int .i64 e0,.string e1,.string e2,.int .i64 e3,.string e4])::(go,119, [u0,.slice cA cn cc,u2,u3,u4,u5,u6,u7,u8,u9,jI,jJ,jK,jL,jM,jN,.map (some gv),.map (some gs),.map (some fT),.slice lA (σ.lg.length+1) lc,.map (some fR),.map (some fS),.map (some fU),.map (some gC),rv])::L1) [⟨.slice lA (σ.lg.length+1) lc,74,5,σ.lg.length+1,σ.lg.flatMap dO++([.int .i64 e0,.string e1,.string e2,.int .i64 e3,.string e4]:List Value)⟩,⟨rv,226,2,rn,rx⟩] _ wx:=hm
 exact (h8.tailL.tailL.subX (dQ 2 U (dQ 3 U (dQ 1 U (dQ 0 U (dQ 4 U (dQ 5 U (dQ 6 U (dQ 7 U (dQ 8 U (dQ 9 U (cU2 10 U)))))))))))).cy
theorem qY:∀{l:List Int},dG l=0->∀e∈l,e=0
 | [],_,_,h=>by cases h
 |x::r,h,e,he=>by
  simp only [dG] at h
  by_cases hx:x=0
  ·rw [if_pos hx] at h
   rcases List.mem_cons.1 he with rfl|he
   ·exact hx
   ·exact qY h e he
  ·rw [if_neg hx] at h;exact absurd h hx
def dQ3 (iv ist ilv ito ieq:Bool) (CE:Int):Int:=dG [dI (!iv|| !ist||(ilv&& !ito)) 8,dI (ilv&&ieq) 14,CE]
theorem dA7 {iv ist ilv ito ieq:Bool} {CE:Int} (h:dQ3 iv ist ilv ito ieq CE=0):iv=true/\ist=true/\(ilv=true->ito=true/\ieq=false)/\CE=0:=by
 unfold dQ3 at h
 by_cases hc:CE=0
 ·subst hc
  revert h
  cases iv <;> cases ist <;> cases ilv <;> cases ito <;> cases ieq <;> decide
 ·exfalso
  have h3:=qY h CE (by simp)
  exact hc h3
theorem eG1 {iv ist ilv ito ieq:Bool} {CE:Int} (h1:iv=true) (h2:ist=true) (h3:ilv=true->ito=true/\ieq=false) (h4:CE=0):dQ3 iv ist ilv ito ieq CE=0:=by
 subst h1 h2 h4
 revert h3
 cases ilv <;> cases ito <;> cases ieq <;> decide
theorem zP {σ:Os} {x:Ev}:dW2 (fZ σ) x↔bT1 σ x:=Iff.rfl
theorem cU1 (w0:World) (u0 u2 u3 u4 u5 u6 u7 u8 u9 jI jJ jK jL jM jN:Value) (go gv gs fT fR fS fU gC:Nat) (cA:Option Addr) (cn cc:Nat) (cl:List Cs) (V:ByteArray->Option ByteArray) (T:ByteArray->Option Bool) (rv:Value) (rn:Nat) (rx:List Value) (hd: [gv,gs,fT,fR,fS,fU,gC].Nodup) (ck:Bk->Prop) (fp:ByteArray->Option Int) (σ:Os) (lv:Value) (e0:Int) (e1 e2:ByteArray) (e3:Int) (e4:ByteArray) (w:World) (hlg:σ.lg.length<=100000) (hok:cE8 ⟨e0,e1,e2,e3,e4⟩) (hkd:e3∈([1,4,5,6,7,8]:List Int)) (hne:e3≠6->e4=⟨#[]⟩) (hm:gV ⟨0,w0,none, [68,9,3]⟩ (fun _=>True) [(go,119, [u0,.slice cA cn cc,u2,u3,u4,u5,u6,u7,u8,u9,jI,jJ,jK,jL,jM,jN,.map (some gv),.map (some gs),.map (some fT),lv,.map (some fR),.map (some fS),.map (some fU),.map (some gC),rv])] [⟨lv,74,5,σ.lg.length,σ.lg.flatMap dO⟩,⟨rv,226,2,rn,rx⟩] [bU vS dM w0.heap.size gv (V),bU vB dM w0.heap.size gs (T),bU qS dM w0.heap.size fT (σ.fs),bU vB nB w0.heap.size fR (σ.fa),bU pZ dM w0.heap.size fS (σ.fb),bU nG dM w0.heap.size fU (σ.fh),bU vI dM w0.heap.size gC (fp),gF 68 σ.fh,bW dW 2 84 w0.heap.size none cA cn cl,TxtO w0.heap.size none] w):
 Calls prog 171 #[.pointer (some ⟨go,0,none⟩),.agg #[.int .i64 e0,.string e1,.string e2,.int .i64 e3,.string e4]] w (fun e w'=>∃lv' σ' E,e=.returned (.int .i64 E)/\(kR V T ck e0 σ σ'/\fZ σ'=bM5 V T (fZ σ) ⟨e0,e1,e2,e3,e4⟩)/\gV ⟨0,w0,none, [68,9,3]⟩ (fun _=>True) [(go,119, [u0,.slice cA cn cc,u2,u3,u4,u5,u6,u7,u8,u9,jI,jJ,jK,jL,jM,jN,.map (some gv),.map (some gs),.map (some fT),lv',.map (some fR),.map (some fS),.map (some fU),.map (some gC),rv])] [⟨lv',74,5,σ'.lg.length,σ'.lg.flatMap dO⟩,⟨rv,226,2,rn,rx⟩] [bU vS dM w0.heap.size gv (V),bU vB dM w0.heap.size gs (T),bU qS dM w0.heap.size fT (σ'.fs),bU vB nB w0.heap.size fR (σ'.fa),bU pZ dM w0.heap.size fS (σ'.fb),bU nG dM w0.heap.size fU (σ'.fh),bU vI dM w0.heap.size gC (fp),gF 68 σ'.fh,bW dW 2 84 w0.heap.size none cA cn cl,TxtO w0.heap.size none] w'):=by
 refine cS ⟨68,w0,none, [68,9,3]⟩ func171 U ntmps171 U hm.cy (bR ?_)
 obtain ⟨iv,hiv⟩:∃z,z=(V e1).isSome:=⟨_,rfl⟩
 obtain ⟨ist,bX1⟩:∃z,z=(T e2).getD false:=⟨_,rfl⟩
 obtain ⟨ito,hito⟩:∃z,z=(T e4).getD false:=⟨_,rfl⟩
 obtain ⟨ilv,hilv⟩:∃z,z=decide (e3=6):=⟨_,rfl⟩
 obtain ⟨ieq,hieq⟩:∃z,z=(e4.toList==e2.toList):=⟨_,rfl⟩
 obtain ⟨CE,hCE⟩:∃z,z=cH3 σ ⟨e0,e1,e2,e3,e4⟩:=⟨_,rfl⟩
 obtain ⟨EE,zM⟩:∃z,z=dQ3 iv ist ilv ito ieq CE:=⟨_,rfl⟩
 unfold dQ3 at zM
 refine fG U U U fun g1=>bX U (bQ (bH (gd (fun wz=>Blk wz g1 74 [.int .i64 e0,.string e1,.string e2,.int .i64 e3,.string e4]/\Blk wz go 119 [u0,.slice cA cn cc,u2,u3,u4,u5,u6,u7,u8,u9,jI,jJ,jK,jL,jM,jN,.map (some gv),.map (some gs),.map (some fT),lv,.map (some fR),.map (some fS),.map (some fU),.map (some gC),rv]/\(bU vS dM w0.heap.size gv (V)) wz/\True) mixed (fun _ hm=>⟨hm.bl 0,hm.bl 1,hm.fa 0,trivial⟩) fun z=>wq 0 U (bL U) (wq 1 U (dA U) (wq 2 U (bS bZ7 U U) (wq 3 U (cQ dH2 U (fun _ hm=>hm.2.1) U) (wq 4 U (bS qZ U U) (wq 5 U (cQ fC U (fun _ hm=>hm.1) U) (wq 6 U (gX (enc:=vS) (ek:=dM) (s:=e1) (e:=9) (⟨#[]⟩:ByteArray) jZ (by kernel_rfl) (by kernel_rfl) U U (fun _ hm=>(hm.2.2.1))) (wq 7 U (bL U) (wq 8 U (cP U U) (wq 9 U (cP U U) (dH 18 (v':= .bool iv) U (fU3 hiv.symm) (wq 10 U (cV U) (wq 11 U (cV U) (jO (bD (bR (dY bR2 U U (eJ fP 0 U U U (bB (eL U U) U (bK 21 (v':= .bool ilv) U (fU3 hilv.symm) (bX U (bQ (bH ?_)))))))))))))))))))))))))
 refine pB (γ:=Int) (I:=(fun (E:Int)=>E=EE)) (S':=(fun (E:Int)=> [(0,.pointer (some ⟨go,0,none⟩)),(3,.pointer (some ⟨g1,0,none⟩)),(4,.int .i64 0),(8,.int .i64 E)])) (K':=(fun (E:Int)=>fun _=>True)) (L':=(fun (E:Int)=> [(g1,74, [.int .i64 e0,.string e1,.string e2,.int .i64 e3,.string e4]),(go,119, [u0,.slice cA cn cc,u2,u3,u4,u5,u6,u7,u8,u9,jI,jJ,jK,jL,jM,jN,.map (some gv),.map (some gs),.map (some fT),lv,.map (some fR),.map (some fS),.map (some fU),.map (some gC),rv])])) (O':=(fun (E:Int)=> [⟨lv,74,5,σ.lg.length,σ.lg.flatMap dO⟩,⟨rv,226,2,rn,rx⟩])) (X':=(fun (E:Int)=> [bU vS dM w0.heap.size gv (V),bU vB dM w0.heap.size gs (T),bU qS dM w0.heap.size fT (σ.fs),bU vB nB w0.heap.size fR (σ.fa),bU pZ dM w0.heap.size fS (σ.fb),bU nG dM w0.heap.size fU (σ.fh),bU vI dM w0.heap.size gC (fp),gF 68 σ.fh,bW dW 2 84 w0.heap.size none cA cn cl,TxtO w0.heap.size none])) ?_ ?_
 ·rcases Bool.eq_false_or_eq_true ilv with hl|hl
  ·refine gJ 7 U (fU3 hl) ?_
   refine gd (fun wz=>Blk wz g1 74 [.int .i64 e0,.string e1,.string e2,.int .i64 e3,.string e4]/\Blk wz go 119 [u0,.slice cA cn cc,u2,u3,u4,u5,u6,u7,u8,u9,jI,jJ,jK,jL,jM,jN,.map (some gv),.map (some gs),.map (some fT),lv,.map (some fR),.map (some fS),.map (some fU),.map (some gC),rv]/\(bU vB dM w0.heap.size gs (T)) wz/\True) mixed (fun _ hm=>⟨hm.bl 0,hm.bl 1,hm.fa 1,trivial⟩) fun z=>wq 0 U (bL U) (wq 1 U (cE U) (wq 2 U (bL U) ?_))
   rcases Bool.eq_false_or_eq_true (!iv) with hb2|hb2
   ·refine dH 24 U (fU3 hb2) ?_
    refine fD 3 U (fD 4 U (fD 5 U (fD 6 U (fD 7 U (fD 8 U (fD 9 U (fD 10 U (wq 11 U (fE U U) (wq 12 U (bL U) (fD 13 U (fD 14 U (rI 15 U (rI 16 U (rI 17 U (rI 18 U (rI 19 U (rI 20 U (rI 21 U (rI 22 U (fD 23 U (wq 24 U (fE U U) (wq 26 U (bL U) (wq 35 U (bL U) (wq 36 U (cU fJ U (fun _ hm=>hm.1) U U) (eG 25 U (cZ U qN U U (fun wx hm=>(eH _ _ wx)) (bE (nw 41 103213432831 (fun _ hm=>⟨hm.bl 0,hm.bl 1,hm.fa 1,trivial⟩) fun z=>wq 27 U (bL U) ?_))))))))))))))))))))))))))))
    refine fI 28 U (bS rZ U U) (fI 29 U (cQ fC U (fun _ hm=>hm.1) U) (fI 30 U (bS rN U U) (fI 31 U (cQ fC U (fun _ hm=>hm.1) U) (fI 32 U (eS U U) (dH 54 (v':= .bool ieq) U (fU3 hieq.symm) (wq 33 U (fE U U) (eG 34 U (cZ U qN U U (fun wx hm=>(eH _ _ wx)) (bE (nw 41 137438953471 (fun _ hm=>⟨hm.bl 0,hm.bl 1,hm.fa 1,trivial⟩) fun z=>eG 37 U (cH (v:= .int .i64 CE) U zQ U U (fun wx hm=>(by rw [hCE];exact (rJ σ u0 u2 u3 u4 u5 u6 u7 u8 u9 jI jJ jK jL jM jN go gv gs fT fR fS fU gC cA cn cc lv rv e0 e1 e2 e3 e4 _ wx (hm.blkI 1 rfl) (hm.fact 2 rfl) (hm.fact 3 rfl)))) (bE (nw 41 274877906943 (fun _ hm=>⟨hm.bl 0,hm.bl 1,hm.fa 1,trivial⟩) fun z=>eG 38 U (jE 48 [.int .i64 (dI true 8),.int .i64 (dI ieq 14),.int .i64 CE] fun g3=>bE (nw 41 549755813887 (fun _ hm=>⟨hm.bl 1,hm.bl 2,hm.fa 1,trivial⟩) fun z=>eG 39 U (cZ U wH U U (fun wx hm=>(fN [dI true 8,dI ieq 14,CE] _ _ _ wx (hm.blkI 0 U) (by simp))) (bE (nw 41 1099511627775 (fun _ hm=>⟨hm.bl 1,hm.bl 2,hm.fa 1,trivial⟩) fun z=>wq 40 U (cV U) (jO ?_)))))))))))))))))))
    exact fK (dG [dI true 8,dI ieq 14,CE]) (by rw [zM,hl,hb2];rfl) ⟨U,U,U,U,trivial⟩ (fun _ hm=>hm.pick [1,2] [0,1] [0,1,2,3,4,5,6,7,8,9] U U)
   refine dH 24 U (fU3 hb2) (fI 3 U (bL U) (fI 4 U (dA U) (fI 5 U (bS xR U U) (fI 6 U (cQ cJ0 U (fun _ hm=>hm.2.1) U) (fI 7 U (bS rN U U) (fI 8 U (cQ fC U (fun _ hm=>hm.1) U) (fI 9 U (kT (enc:=vB) (ek:=dM) (s:=e2) (e:=4) false jZ (by kernel_rfl) (by kernel_rfl) U U (fun _ hm=>(hm.2.2.1))) (dH 31 (v':= .bool ist) U (fU3 bX1.symm) (fI 10 U (cE U) (wq 11 U (fO U U) (wq 12 U (bL U) ?_)))))))))))
   rcases Bool.eq_false_or_eq_true (!ist) with hb4|hb4
   ·refine dH 34 U (fU3 hb4) ?_
    refine fD 13 U (fD 14 U (rI 15 U (rI 16 U (rI 17 U (rI 18 U (rI 19 U (rI 20 U (rI 21 U (rI 22 U (fD 23 U (wq 24 U (fE U U) (wq 26 U (bL U) (wq 35 U (bL U) (wq 36 U (cU fJ U (fun _ hm=>hm.1) U U) (eG 25 U (cZ U qN U U (fun wx hm=>(eH _ _ wx)) (bE (nw 41 103213432831 (fun _ hm=>⟨hm.bl 0,hm.bl 1,hm.fa 1,trivial⟩) fun z=>wq 27 U (bL U) (fI 28 U (bS rZ U U) (fI 29 U (cQ fC U (fun _ hm=>hm.1) U) (fI 30 U (bS rN U U) (fI 31 U (cQ fC U (fun _ hm=>hm.1) U) (fI 32 U (eS U U) (dH 54 (v':= .bool ieq) U (fU3 hieq.symm) (wq 33 U (fE U U) (eG 34 U (cZ U qN U U (fun wx hm=>(eH _ _ wx)) (bE ?_))))))))))))))))))))))))))))
    refine nw 41 137438953471 (fun _ hm=>⟨hm.bl 0,hm.bl 1,hm.fa 1,trivial⟩) fun z=>eG 37 U (cH (v:= .int .i64 CE) U zQ U U (fun wx hm=>(by rw [hCE];exact (rJ σ u0 u2 u3 u4 u5 u6 u7 u8 u9 jI jJ jK jL jM jN go gv gs fT fR fS fU gC cA cn cc lv rv e0 e1 e2 e3 e4 _ wx (hm.blkI 1 rfl) (hm.fact 2 rfl) (hm.fact 3 rfl)))) (bE (nw 41 274877906943 (fun _ hm=>⟨hm.bl 0,hm.bl 1,hm.fa 1,trivial⟩) fun z=>eG 38 U (jE 48 [.int .i64 (dI true 8),.int .i64 (dI ieq 14),.int .i64 CE] fun g5=>bE (nw 41 549755813887 (fun _ hm=>⟨hm.bl 1,hm.bl 2,hm.fa 1,trivial⟩) fun z=>eG 39 U (cZ U wH U U (fun wx hm=>(fN [dI true 8,dI ieq 14,CE] _ _ _ wx (hm.blkI 0 U) (by simp))) (bE (nw 41 1099511627775 (fun _ hm=>⟨hm.bl 1,hm.bl 2,hm.fa 1,trivial⟩) fun z=>wq 40 U (cV U) (jO ?_)))))))))
    exact fK (dG [dI true 8,dI ieq 14,CE]) (by rw [zM,hl,hb2,hb4];rfl) ⟨U,U,U,U,trivial⟩ (fun _ hm=>hm.pick [1,2] [0,1] [0,1,2,3,4,5,6,7,8,9] U U)
   refine dH 34 U (fU3 hb4) (fI 13 U (bL U) (fI 14 U (bL U) (fI 15 U (bL U) (fI 16 U (dA U) (fI 17 U (bS xR U U) (fI 18 U (cQ cJ0 U (fun _ hm=>hm.2.1) U) (fI 19 U (bS rZ U U) (fI 20 U (cQ fC U (fun _ hm=>hm.1) U) (fI 21 U (kT (enc:=vB) (ek:=dM) (s:=e4) (e:=4) false jZ (by kernel_rfl) (by kernel_rfl) U U (fun _ hm=>(hm.2.2.1))) (dH 43 (v':= .bool ito) U (fU3 hito.symm) (fI 22 U (cE U) (fI 23 U (fE U U) (wq 24 U (fO U U) (wq 26 U (bL U) (wq 35 U (bL U) (wq 36 U (cU fJ U (fun _ hm=>hm.1) U U) (eG 25 U (cZ U qN U U (fun wx hm=>(eH _ _ wx)) (bE (nw 41 103213432831 (fun _ hm=>⟨hm.bl 0,hm.bl 1,hm.fa 1,trivial⟩) fun z=>wq 27 U (bL U) (fI 28 U (bS rZ U U) (fI 29 U (cQ fC U (fun _ hm=>hm.1) U) (fI 30 U (bS rN U U) (fI 31 U (cQ fC U (fun _ hm=>hm.1) U) (fI 32 U (eS U U) (dH 54 (v':= .bool ieq) U (fU3 hieq.symm) (wq 33 U (fE U U) (eG 34 U ?_))))))))))))))))))))))))))))
   refine cZ U qN U U (fun wx hm=>(eH _ _ wx)) (bE (nw 41 137438953471 (fun _ hm=>⟨hm.bl 0,hm.bl 1,hm.fa 1,trivial⟩) fun z=>eG 37 U (cH (v:= .int .i64 CE) U zQ U U (fun wx hm=>(by rw [hCE];exact (rJ σ u0 u2 u3 u4 u5 u6 u7 u8 u9 jI jJ jK jL jM jN go gv gs fT fR fS fU gC cA cn cc lv rv e0 e1 e2 e3 e4 _ wx (hm.blkI 1 rfl) (hm.fact 2 rfl) (hm.fact 3 rfl)))) (bE (nw 41 274877906943 (fun _ hm=>⟨hm.bl 0,hm.bl 1,hm.fa 1,trivial⟩) fun z=>eG 38 U (jE 48 [.int .i64 (dI (!ito) 8),.int .i64 (dI ieq 14),.int .i64 CE] fun g6=>bE (nw 41 549755813887 (fun _ hm=>⟨hm.bl 1,hm.bl 2,hm.fa 1,trivial⟩) fun z=>eG 39 U (cZ U wH U U (fun wx hm=>(fN [dI (!ito) 8,dI ieq 14,CE] _ _ _ wx (hm.blkI 0 U) (by simp))) (bE (nw 41 1099511627775 (fun _ hm=>⟨hm.bl 1,hm.bl 2,hm.fa 1,trivial⟩) fun z=>wq 40 U (cV U) (jO ?_)))))))))))
   exact fK (dG [dI (!ito) 8,dI ieq 14,CE]) (by rw [zM,hl,hb2,hb4];rfl) ⟨U,U,U,U,trivial⟩ (fun _ hm=>hm.pick [1,2] [0,1] [0,1,2,3,4,5,6,7,8,9] U U)
  refine gJ 7 U (fU3 hl) (gd (fun wz=>Blk wz g1 74 [.int .i64 e0,.string e1,.string e2,.int .i64 e3,.string e4]/\Blk wz go 119 [u0,.slice cA cn cc,u2,u3,u4,u5,u6,u7,u8,u9,jI,jJ,jK,jL,jM,jN,.map (some gv),.map (some gs),.map (some fT),lv,.map (some fR),.map (some fS),.map (some fU),.map (some gC),rv]/\(bU vB dM w0.heap.size gs (T)) wz/\True) mixed (fun _ hm=>⟨hm.bl 0,hm.bl 1,hm.fa 1,trivial⟩) fun z=>wq 0 U (bL U) (wq 1 U (cE U) (wq 2 U (bL U) ?_)))
  rcases Bool.eq_false_or_eq_true (!iv) with hb7|hb7
  ·refine dH 24 U (fU3 hb7) ?_
   refine fD 3 U (fD 4 U (fD 5 U (fD 6 U (fD 7 U (fD 8 U (fD 9 U (fD 10 U (wq 11 U (fE U U) (wq 12 U (bL U) (fD 13 U (fD 14 U (rI 15 U (rI 16 U (rI 17 U (rI 18 U (rI 19 U (rI 20 U (rI 21 U (rI 22 U (fD 23 U (wq 24 U (fE U U) (wq 26 U (bL U) (wq 35 U (bL U) (wq 36 U (cU fJ U (fun _ hm=>hm.1) U U) (eG 25 U (cZ U qN U U (fun wx hm=>(eH _ _ wx)) (bE (nw 41 103213432831 (fun _ hm=>⟨hm.bl 0,hm.bl 1,hm.fa 1,trivial⟩) fun z=>wq 27 U (bL U) ?_))))))))))))))))))))))))))))
   refine fD 28 U (fD 29 U (fD 30 U (fD 31 U (fD 32 U (wq 33 U (fO U U) (eG 34 U (cZ U qN U U (fun wx hm=>(eH _ _ wx)) (bE (nw 41 137438953471 (fun _ hm=>⟨hm.bl 0,hm.bl 1,hm.fa 1,trivial⟩) fun z=>eG 37 U (cH (v:= .int .i64 CE) U zQ U U (fun wx hm=>(by rw [hCE];exact (rJ σ u0 u2 u3 u4 u5 u6 u7 u8 u9 jI jJ jK jL jM jN go gv gs fT fR fS fU gC cA cn cc lv rv e0 e1 e2 e3 e4 _ wx (hm.blkI 1 rfl) (hm.fact 2 rfl) (hm.fact 3 rfl)))) (bE (nw 41 274877906943 (fun _ hm=>⟨hm.bl 0,hm.bl 1,hm.fa 1,trivial⟩) fun z=>eG 38 U (jE 48 [.int .i64 (dI true 8),.int .i64 (dI false 14),.int .i64 CE] fun g8=>bE (nw 41 549755813887 (fun _ hm=>⟨hm.bl 1,hm.bl 2,hm.fa 1,trivial⟩) fun z=>eG 39 U (cZ U wH U U (fun wx hm=>(fN [dI true 8,dI false 14,CE] _ _ _ wx (hm.blkI 0 U) (by simp))) (bE (nw 41 1099511627775 (fun _ hm=>⟨hm.bl 1,hm.bl 2,hm.fa 1,trivial⟩) fun z=>wq 40 U (cV U) (jO ?_))))))))))))))))))
   exact fK (dG [dI true 8,dI false 14,CE]) (by rw [zM,hl,hb7];rfl) ⟨U,U,U,U,trivial⟩ (fun _ hm=>hm.pick [1,2] [0,1] [0,1,2,3,4,5,6,7,8,9] U U)
  refine dH 24 U (fU3 hb7) (fI 3 U (bL U) (fI 4 U (dA U) (fI 5 U (bS xR U U) (fI 6 U (cQ cJ0 U (fun _ hm=>hm.2.1) U) (fI 7 U (bS rN U U) (fI 8 U (cQ fC U (fun _ hm=>hm.1) U) (fI 9 U (kT (enc:=vB) (ek:=dM) (s:=e2) (e:=4) false jZ (by kernel_rfl) (by kernel_rfl) U U (fun _ hm=>(hm.2.2.1))) (dH 31 (v':= .bool ist) U (fU3 bX1.symm) (fI 10 U (cE U) (wq 11 U (fO U U) (wq 12 U (bL U) ?_)))))))))))
  rcases Bool.eq_false_or_eq_true (!ist) with hb9|hb9
  ·refine dH 34 U (fU3 hb9) ?_
   refine fD 13 U (fD 14 U (rI 15 U (rI 16 U (rI 17 U (rI 18 U (rI 19 U (rI 20 U (rI 21 U (rI 22 U (fD 23 U (wq 24 U (fE U U) (wq 26 U (bL U) (wq 35 U (bL U) (wq 36 U (cU fJ U (fun _ hm=>hm.1) U U) (eG 25 U (cZ U qN U U (fun wx hm=>(eH _ _ wx)) (bE (nw 41 103213432831 (fun _ hm=>⟨hm.bl 0,hm.bl 1,hm.fa 1,trivial⟩) fun z=>wq 27 U (bL U) (fD 28 U (fD 29 U (fD 30 U (fD 31 U (fD 32 U (wq 33 U (fO U U) (eG 34 U (cZ U qN U U (fun wx hm=>(eH _ _ wx)) (bE (nw 41 137438953471 (fun _ hm=>⟨hm.bl 0,hm.bl 1,hm.fa 1,trivial⟩) fun z=>?_))))))))))))))))))))))))))))
   refine eG 37 U (cH (v:= .int .i64 CE) U zQ U U (fun wx hm=>(by rw [hCE];exact (rJ σ u0 u2 u3 u4 u5 u6 u7 u8 u9 jI jJ jK jL jM jN go gv gs fT fR fS fU gC cA cn cc lv rv e0 e1 e2 e3 e4 _ wx (hm.blkI 1 rfl) (hm.fact 2 rfl) (hm.fact 3 rfl)))) (bE (nw 41 274877906943 (fun _ hm=>⟨hm.bl 0,hm.bl 1,hm.fa 1,trivial⟩) fun z=>eG 38 U (jE 48 [.int .i64 (dI true 8),.int .i64 (dI false 14),.int .i64 CE] fun g10=>bE (nw 41 549755813887 (fun _ hm=>⟨hm.bl 1,hm.bl 2,hm.fa 1,trivial⟩) fun z=>eG 39 U (cZ U wH U U (fun wx hm=>(fN [dI true 8,dI false 14,CE] _ _ _ wx (hm.blkI 0 U) (by simp))) (bE (nw 41 1099511627775 (fun _ hm=>⟨hm.bl 1,hm.bl 2,hm.fa 1,trivial⟩) fun z=>wq 40 U (cV U) (jO ?_)))))))))
   exact fK (dG [dI true 8,dI false 14,CE]) (by rw [zM,hl,hb7,hb9];rfl) ⟨U,U,U,U,trivial⟩ (fun _ hm=>hm.pick [1,2] [0,1] [0,1,2,3,4,5,6,7,8,9] U U)
  refine dH 34 U (fU3 hb9) (fI 13 U (bL U) (fI 14 U (bL U) (fD 15 U (fD 16 U (fD 17 U (fD 18 U (fD 19 U (fD 20 U (fD 21 U (fD 22 U (fI 23 U (fO U U) (wq 24 U (fO U U) (wq 26 U (bL U) (wq 35 U (bL U) (wq 36 U (cU fJ U (fun _ hm=>hm.1) U U) (eG 25 U (cZ U qN U U (fun wx hm=>(eH _ _ wx)) (bE (nw 41 103213432831 (fun _ hm=>⟨hm.bl 0,hm.bl 1,hm.fa 1,trivial⟩) fun z=>wq 27 U (bL U) (fD 28 U (fD 29 U (fD 30 U (fD 31 U (fD 32 U (wq 33 U (fO U U) (eG 34 U (cZ U qN U U (fun wx hm=>(eH _ _ wx)) (bE ?_))))))))))))))))))))))))))))
  refine nw 41 137438953471 (fun _ hm=>⟨hm.bl 0,hm.bl 1,hm.fa 1,trivial⟩) fun z=>eG 37 U (cH (v:= .int .i64 CE) U zQ U U (fun wx hm=>(by rw [hCE];exact (rJ σ u0 u2 u3 u4 u5 u6 u7 u8 u9 jI jJ jK jL jM jN go gv gs fT fR fS fU gC cA cn cc lv rv e0 e1 e2 e3 e4 _ wx (hm.blkI 1 rfl) (hm.fact 2 rfl) (hm.fact 3 rfl)))) (bE (nw 41 274877906943 (fun _ hm=>⟨hm.bl 0,hm.bl 1,hm.fa 1,trivial⟩) fun z=>eG 38 U (jE 48 [.int .i64 (dI false 8),.int .i64 (dI false 14),.int .i64 CE] fun g11=>bE (nw 41 549755813887 (fun _ hm=>⟨hm.bl 1,hm.bl 2,hm.fa 1,trivial⟩) fun z=>eG 39 U (cZ U wH U U (fun wx hm=>(fN [dI false 8,dI false 14,CE] _ _ _ wx (hm.blkI 0 U) (by simp))) (bE (nw 41 1099511627775 (fun _ hm=>⟨hm.bl 1,hm.bl 2,hm.fa 1,trivial⟩) fun z=>wq 40 U (cV U) (jO ?_)))))))))
  exact fK (dG [dI false 8,dI false 14,CE]) (by rw [zM,hl,hb7,hb9];rfl) ⟨U,U,U,U,trivial⟩ (fun _ hm=>hm.pick [1,2] [0,1] [0,1,2,3,4,5,6,7,8,9] U U)
 intro E cB
 replace cB:E=EE:=cB
 refine bR ?_
 subst cB
 refine bP U (bB (gS U U) U (bQ ?_))
 refine gI U (fun h0=>?_) (fun h0=>?_)
 ·refine bR (bP U (bX U (bQ ?_)))
  refine bM (bA ?_)
  have h0x:E≠0:=by simpa using h0
  have hsm:fZ σ=bM5 V T (fZ σ) ⟨e0,e1,e2,e3,e4⟩:=(pM fun ⟨q1,q2,q3,q4⟩=>h0x (zM.trans (eG1 (hiv.trans q1) (bX1.trans q2) (fun h=>by
   rw [hilv] at h
   obtain ⟨q5,q6⟩:=q3 (of_decide_eq_true h)
   refine ⟨hito.trans q5,?_⟩
   rw [hieq]
   cases h9:(e4.toList==e2.toList) with
   |false=>rfl
   |true=>exact absurd (bP0.1 h9) q6) (hCE.trans (qM.2 (zP.1 q4)))))).symm
  refine bJ U U fun wx hm=>?_
  refine ⟨lv,σ,_,U,⟨.same σ,hsm⟩,?_⟩
  have h8:gV _ _ ((g1,74, [.int .i64 e0,.string e1,.string e2,.int .i64 e3,.string e4])::(go,119, [u0,.slice cA cn cc,u2,u3,u4,u5,u6,u7,u8,u9,jI,jJ,jK,jL,jM,jN,.map (some gv),.map (some gs),.map (some fT),lv,.map (some fR),.map (some fS),.map (some fU),.map (some gC),rv]):: []) [⟨lv,74,5,σ.lg.length,σ.lg.flatMap dO⟩,⟨rv,226,2,rn,rx⟩] _ wx:=hm
  exact (h8.tailL.subX (dQ 0 U (dQ 1 U (dQ 2 U (dQ 3 U (dQ 4 U (dQ 5 U (dQ 6 U (dQ 7 U (dQ 8 U (dQ 9 U bS4))))))))))).cy
 refine bN (bD (bR ?_))
 have hE0:E=0:=by simpa using h0
 rw [<-show dQ3 iv ist ilv ito ieq CE=E from zM.symm] at hE0
 obtain ⟨z1,z2,z3,z4⟩:=dA7 hE0
 rw [hiv] at z1
 rw [bX1] at z2
 have hcan:bT1 σ ⟨e0,e1,e2,e3,e4⟩:=qM.1 (hCE.symm.trans z4)
 have z5:e3=6->(T e4).getD false=true/\e4≠e2:=fun h6=>by
  obtain ⟨h7,h8⟩:=z3 (by rw [hilv];exact decide_eq_true h6)
  refine ⟨hito ▸ h7,fun e=>?_⟩
  rw [hieq,e] at h8
  simp at h8
 refine bP U (bB (cU fJ U (fun _ hm=>hm.blkI 0 U) U U) U ?_)
 refine gD (γ:=Value) (val:=fun _=> .tuple #[]) (φ:=fun _=>True) (K':=fun _=>fun _=>True) (L':=fun qK=> [(go,119, [u0,.slice cA cn cc,u2,u3,u4,u5,u6,u7,u8,u9,jI,jJ,jK,jL,jM,jN,.map (some gv),.map (some gs),.map (some fT),qK,.map (some fR),.map (some fS),.map (some fU),.map (some gC),rv])]) (O':=fun qK=> [⟨qK,74,5,(gK σ ⟨e0,e1,e2,e3,e4⟩).lg.length,(gK σ ⟨e0,e1,e2,e3,e4⟩).lg.flatMap dO⟩,⟨rv,226,2,rn,rx⟩]) (X':=fun _=> [bU vS dM w0.heap.size gv (V),bU vB dM w0.heap.size gs (T),bU qS dM w0.heap.size fT ((gK σ ⟨e0,e1,e2,e3,e4⟩).fs),bU vB nB w0.heap.size fR ((gK σ ⟨e0,e1,e2,e3,e4⟩).fa),bU pZ dM w0.heap.size fS ((gK σ ⟨e0,e1,e2,e3,e4⟩).fb),bU nG dM w0.heap.size fU ((gK σ ⟨e0,e1,e2,e3,e4⟩).fh),bU vI dM w0.heap.size gC (fp),gF 68 (gK σ ⟨e0,e1,e2,e3,e4⟩).fh,bW dW 2 84 w0.heap.size none cA cn cl,TxtO w0.heap.size none]) U cL5 U U (fun wx hm=>(bL4 w0 u0 u2 u3 u4 u5 u6 u7 u8 u9 jI jJ jK jL jM jN go gv gs fT fR fS fU gC cA cn cc cl V T rv rn rx hd fp σ lv e0 e1 e2 e3 e4 [] [] (fun _ h=>by cases h) wx hlg (hm.pick [1] [0,1] [0,1,2,3,4,5,6,7,8,9] U U).cy).mono fun _ _ ⟨lv_,he,vD⟩=>⟨lv_,he,trivial,vD.cy⟩) ?_
 intro qK _
 refine bQ (bR (bX U (bQ (bM ?_))))
 refine bJ U U fun wx hm=>?_
 refine ⟨qK,_,0,U,⟨.ev σ ⟨e0,e1,e2,e3,e4⟩ U hok hkd z1 z2 z5 hne hcan,(xZ ⟨z1,z2,z5,hcan⟩).symm⟩,?_⟩
 have h8:gV _ _ ((go,119, [u0,.slice cA cn cc,u2,u3,u4,u5,u6,u7,u8,u9,jI,jJ,jK,jL,jM,jN,.map (some gv),.map (some gs),.map (some fT),qK,.map (some fR),.map (some fS),.map (some fU),.map (some gC),rv]):: []) [⟨qK,74,5,(gK σ ⟨e0,e1,e2,e3,e4⟩).lg.length,(gK σ ⟨e0,e1,e2,e3,e4⟩).lg.flatMap dO⟩,⟨rv,226,2,rn,rx⟩] _ wx:=hm
 exact (h8.subX (dQ 0 U (dQ 1 U (dQ 2 U (dQ 3 U (dQ 4 U (dQ 5 U (dQ 6 U (dQ 7 U (dQ 8 U (dQ 9 U bS4))))))))))).cy
theorem bM3 {l:List Cs} {v:Int} (h30:¬30 < l.length) (h:scanE csE none l=v) (hv:v≠0):jC l=v:=by
 unfold jC
 rw [if_neg h30,if_pos (by rw [h];exact hv),h]
theorem eC5 {l:List Cs} (h30:¬30 < l.length) (h:scanE csE none l=0) (hu:l.any (upB l)=true):jC l=8:=by
 unfold jC
 rw [if_neg h30,if_neg (by rw [h];decide),if_pos hu]
theorem dM6 {l:List Cs} (h30:¬30 < l.length) (h:scanE csE none l=0) (hu:l.any (upB l)=false):jC l=if dN8 l l.length=true then 14 else 0:=by
 unfold jC
 rw [if_neg h30,if_neg (by rw [h];decide),if_neg (by rw [hu];decide)]
theorem cK8 {α:Type} {p:α->Bool} {l:List α} {k:Nat} {x:α} (h:l[k]?=some x):(l.drop k).any p=(p x||(l.drop (k+1)).any p):=by
 obtain ⟨hk,rfl⟩:=List.getElem?_eq_some_iff.1 h
 rw [List.drop_eq_getElem_cons hk,List.any_cons]
theorem cD3 {α:Type} {p:α->Bool} {l:List α} {k:Nat} (h:l.length<=k):(l.drop k).any p=false:=by rw [List.drop_eq_nil_of_le h];rfl
theorem dM4 {l:List Cs} {n i:Nat} {k:ByteArray} (h:jG (bU4 l k)=false) (hi:i < n):nU l (n - i) k=bU4 l k::nU l (n - (i+1)) (bU4 l k):=by
 rw [show n - i=(n - (i+1))+1 by omega]
 show (if jG (bU4 l k)=true then [] else _)=_
 rw [if_neg (by rw [h];decide)]
theorem dN4 {l:List Cs} {n:Nat} {k:ByteArray} (h:jG (bU4 l k)=true):nU l n k= []:=by
 cases n with
 |zero=>rfl
 |succ n=>
  show (if jG (bU4 l k)=true then [] else _)=_
  rw [if_pos h]
theorem bX2 (ke:ByteArray) (up:ByteArray) (gk:Nat) (k:ByteArray) (w:World) (hk:Blk w gk 9 [.string k]):
 Calls prog 187 #[.agg #[.string ke,.string up],.pointer (some ⟨gk,0,none⟩)] w (fun e w'=>e=.returned (.bool (vW k ⟨ke,up⟩))/\w.grownBy w' none):=by
 refine cS ⟨8,w,none, []⟩ func187 U ntmps187 U (gM (X:= [fL w.heap.size none gk 9 [.string k]]) (cF hk.old cX) (cG fL.lasts cY)) (bR (fG U U U fun g1=>bX U (bQ (bR (dY zY U U (eJ fC 0 U U U (bB (cQ (v:= .string k) fC U (fun _ hm=>(hm.fact 0 U).2) U) U (bB (eS U U) U (bX U (bQ (bM ?_)))))))))))
 exact bJ U U fun wx hm=>⟨U,hm.g⟩
theorem bA2 (l:List Cs) (A:Option Addr) (n c0:Nat) (gk:Nat) (k:ByteArray) (w:World) (hl:SlT dW 2 84 w A n l) (hn:n<=1000000) (hk:Blk w gk 9 [.string k]):
 Calls prog 152 #[.slice A n c0,.func (.func 187) #[] #[.pointer (some ⟨gk,0,none⟩)]] w (mP w (mI (vW k) l 0)):=by
 refine cS ⟨19,w,none, []⟩ func152 U ntmps152 U (gM (X:= [bW dW 2 84 w.heap.size none A n l,fL w.heap.size none gk 9 [.string k]]) (cF hl.old (cF hk.old cX)) (cG bW.lasts (cG fL.lasts cY))) (bR ?_)
 have hlen:=hl.len
 refine bX U (bQ (bH (bR (bP U (bB (dT zV U) U (bP U (bQ (bO ?_))))))))
 refine dX (γ:=Nat) (fun (i:Nat)=>i<=n/\mI (vW k) l 0=mI (vW k) (l.drop i) i) (fun (i:Nat)=> [(0,.slice A n c0),(1,.func (.func 187) #[] #[.pointer (some ⟨gk,0,none⟩)]),(7,.int .i64 ((n:Nat):Int)),(8,.int .i64 ((i:Nat):Int))]) (fun (i:Nat)=>fun _=>True) (fun (i:Nat)=> []) (fun (i:Nat)=> []) (fun (i:Nat)=> [bW dW 2 84 w.heap.size none A n l,fL w.heap.size none gk 9 [.string k]]) (fun (i:Nat)=>n - i) 0 ⟨Nat.zero_le _,U⟩ ⟨U,U,U,U,trivial⟩ (fun _ hm=>hm.pick [] [] [0,1] U U) ?_
 intro i cB
 replace cB:i<=n/\mI (vW k) l 0=mI (vW k) (l.drop i) i:=cB
 refine bR (bB (dE U U) U (bQ (bH ?_)))
 refine cC U (fun hi=>?_) (fun hi=>?_)
 ·refine bN (bD (bH (bO (bR ?_))))
  obtain ⟨b,off,hA,_,_⟩:=hl.get (by omega)
  subst hA
  obtain ⟨x,hx⟩:∃x,l[i]?=some x:=⟨_,fW3 (by omega)⟩
  obtain ⟨ke,up⟩:=x
  have hat:=yA (p:=vW k) hx
  refine bP U (bX U (bQ (bR (bP U (bP U (bP U (bB (bV (j:=i) zV U U (by omega)) U (bB (dP (vs:= [.string ke,.string up]) cI7 U (fun _ hm=>(hm.fact 0 U).1) hx U U) U (cH U eX8 U U (fun wx hm=>(bX2 ke up gk k wx (hm.fact 1 U).2)) (bQ ?_))))))))))
  refine dC U (fun hh=>?_) (fun hh=>?_)
  ·have hq:(vW k ⟨ke,up⟩)=true:=by simpa using hh
   refine bR (bP U (bX U (bQ (bM (bC (bA (bA (bC (bA ?_)))))))))
   exact bJ U U fun wx hm=>⟨bT (by rw [cB.2,hat,if_pos hq]),hm.g⟩
  have hq:(vW k ⟨ke,up⟩)=false:=by simpa using hh
  refine bN (bG (bD (bI (gO U U (bP U (bE ?_))))))
  exact cN (i+1) ⟨by omega,by rw [cB.2,hat,if_neg (by rw [hq];decide)]⟩ (by omega) ⟨U,U,U,(cR (by omega)),trivial⟩ (fun _ hm=>hm.pick [] [] [0,1] U U)
 refine dD (bF (bF (bY (bD (bR (bX U (bK 4 (v':= .int .i64 (-1)) U U (bQ (bM ?_)))))))))
 exact bJ U U fun wx hm=>⟨bT (by rw [cB.2,List.drop_eq_nil_of_le (by omega)];rfl),hm.g⟩
theorem vZ (l:List Cs) (A:Option Addr) (n c0:Nat) (k:ByteArray) (w:World) (hl:SlT dW 2 84 w A n l) (hn:n<=1000000):
 Calls prog 135 #[.slice A n c0,.string k] w (mP w (mI (vW k) l 0)):=by
 refine cS ⟨8,w,none, []⟩ func135 U ntmps135 U (gM (X:= [bW dW 2 84 w.heap.size none A n l]) (cF hl.old cX) (cG bW.lasts cY)) (bR (fG U U U fun g1=>bX U (bQ (bR (bP U (bB (pU U U) U (cH U eW3 U U (fun wx hm=>(bA2 l A n c0 _ k wx (hm.fact 0 U).1 hn (hm.blkI 0 U))) (bX U (bQ (bM ?_))))))))))
 exact bJ U U fun wx hm=>⟨U,hm.g⟩
theorem dB4 (ks:List ByteArray) (A1:Option Addr) (n1 c1:Nat) (k:ByteArray) (w:World) (hs:SlT fH 1 9 w A1 n1 ks) (hn:n1<=1000000):
 Calls prog 193 #[.slice A1 n1 c1,.string k] w (mP w (mI (fun y=>k.toList==y.toList) ks 0)):=by
 refine cS ⟨19,w,none, []⟩ func193 U ntmps193 U (gM (X:= [bW fH 1 9 w.heap.size none A1 n1 ks]) (cF hs.old cX) (cG bW.lasts cY)) (bR ?_)
 have hlen:=hs.len
 refine bX U (bQ (bH (bR (bP U (bB (dT jX U) U (bP U (bQ (bO ?_))))))))
 refine dX (γ:=Nat) (fun (i:Nat)=>i<=n1/\mI (fun y=>k.toList==y.toList) ks 0=mI (fun y=>k.toList==y.toList) (ks.drop i) i) (fun (i:Nat)=> [(0,.slice A1 n1 c1),(1,.string k),(7,.int .i64 ((n1:Nat):Int)),(8,.int .i64 ((i:Nat):Int))]) (fun (i:Nat)=>fun _=>True) (fun (i:Nat)=> []) (fun (i:Nat)=> []) (fun (i:Nat)=> [bW fH 1 9 w.heap.size none A1 n1 ks]) (fun (i:Nat)=>n1 - i) 0 ⟨Nat.zero_le _,U⟩ ⟨U,U,U,U,trivial⟩ (fun _ hm=>hm.pick [] [] [0] U U) ?_
 intro i cB
 replace cB:i<=n1/\mI (fun y=>k.toList==y.toList) ks 0=mI (fun y=>k.toList==y.toList) (ks.drop i) i:=cB
 refine bR (bB (dE U U) U (bQ (bH ?_)))
 refine cC U (fun hi=>?_) (fun hi=>?_)
 ·refine bN (bD (bH (bO (bR ?_))))
  obtain ⟨b,off,hA,_,_⟩:=hs.get (by omega)
  subst hA
  obtain ⟨z0,hx⟩:∃x,ks[i]?=some x:=⟨_,fW3 (by omega)⟩
  have hat:=yA (p:=(fun y=>k.toList==y.toList)) hx
  refine bP U (bX U (bQ (bR (bP U (bP U (bP U (bB (bV (j:=i) jX U U (by omega)) U (bB (dK (k:=0) (v:= .string z0) fC U (fun _ hm=>(hm.fact 0 U).1) hx U U) U (bB (eS U U) U (bQ ?_))))))))))
  refine dC U (fun hh=>?_) (fun hh=>?_)
  ·have hq:(k.toList==z0.toList)=true:=by simpa using hh
   refine bR (bP U (bX U (bQ (bM (bC (bA (bA (bC (bA ?_)))))))))
   exact bJ U U fun wx hm=>⟨bT (by rw [cB.2,hat,if_pos hq]),hm.g⟩
  have hq:(k.toList==z0.toList)=false:=by simpa using hh
  refine bN (bG (bD (bI (gO U U (bP U (bE ?_))))))
  exact cN (i+1) ⟨by omega,by rw [cB.2,hat,if_neg (by rw [hq];decide)]⟩ (by omega) ⟨U,U,U,(cR (by omega)),trivial⟩ (fun _ hm=>hm.pick [] [] [0] U U)
 refine dD (bF (bF (bY (bD (bR (bX U (bK 4 (v':= .int .i64 (-1)) U U (bQ (bM ?_)))))))))
 exact bJ U U fun wx hm=>⟨bT (by rw [cB.2,List.drop_eq_nil_of_le (by omega)];rfl),hm.g⟩
theorem cK3 (ks:List ByteArray) (A1:Option Addr) (n1 c1:Nat) (k:ByteArray) (w:World) (hs:SlT fH 1 9 w A1 n1 ks) (hn:n1<=1000000):
 Calls prog 149 #[.slice A1 n1 c1,.string k] w (fun e w'=>e=.returned (.bool (inK k ks))/\w.grownBy w' none):=by
 refine cS ⟨9,w,none, []⟩ func149 U ntmps149 U (gM (X:= [bW fH 1 9 w.heap.size none A1 n1 ks]) (cF hs.old cX) (cG bW.lasts cY)) (bR (bX U (bQ (bR (bP U (bP U (cH U eA4 U U (fun wx hm=>(dB4 ks A1 n1 c1 k wx (hm.fact 0 U).1 hn)) (bB (mG U U) U (bX U (bQ (bM ?_)))))))))))
 exact bJ U U fun wx hm=>⟨by unfold inK;rw [<-bQ9],hm.g⟩
theorem dZ2 (l:List Cs) (A:Option Addr) (n c:Nat) (k0:ByteArray) (w:World) (hl:SlT dW 2 84 w A n l) (hc:dW5 l) (hk0:0<=mI (vW k0) l 0) (hn:n<=1000000):
 Calls prog 150 #[.slice A n c,.string k0] w (fun e w'=>∃(A2:Option Addr) (n2 c2:Nat),e=.returned (.slice A2 n2 c2)/\w'.ownsRow w.heap.size 9 1 (.slice A2 n2 c2) n2 ((nU l n k0).flatMap fH)/\(nU l n k0).length=n2/\w.grownBy w' none):=by
 refine cS ⟨25,w,none, []⟩ func150 U ntmps150 U (gM (X:= [bW dW 2 84 w.heap.size none A n l]) (cF hl.old cX) (cG bW.lasts cY)) (bR ?_)
 have hlen:=hl.len
 refine bX U (bQ (bR (bX U (bQ (bH (bR (bP U (bB (dT zV U) U (bP U (bQ (bO ?_)))))))))))
 refine rG 9 1 ?_
 refine dX (γ:=Nat×ByteArray×Value×List ByteArray×List Value) (fun g=>g.1<=n/\0<=mI (vW g.2.1) l 0/\g.2.2.2.1.length=g.1/\g.2.2.2.1++nU l (n - g.1) g.2.1=nU l n k0/\g.2.2.2.2=g.2.2.2.1.flatMap fH) (fun g=> [(0,.slice A n c),(1,.string g.2.1),(4,.slice none 0 0),(5,g.2.2.1),(7,.int .i64 ((n:Nat):Int)),(8,.int .i64 ((g.1:Nat):Int))]) (fun g=>fun _=>True) (fun g=> []) (fun g=> [⟨g.2.2.1,9,1,g.1,g.2.2.2.2⟩]) (fun g=> [bW dW 2 84 w.heap.size none A n l]) (fun g=>n - g.1) (0,k0,.slice none 0 0, [], []) ⟨Nat.zero_le _,hk0,U,U,U⟩ ⟨U,U,U,U,U,U,trivial⟩ (fun _ hm=>hm.pick [] [0] [0] U U) ?_
 rintro ⟨i,k,v,done,xs⟩ cB
 replace cB:i<=n/\0<=mI (vW k) l 0/\done.length=i/\done++nU l (n - i) k=nU l n k0/\xs=done.flatMap fH:=cB
 dsimp only
 refine bR ?_
 obtain ⟨hi0,hik,hdl,hdp,rfl⟩:=cB
 refine bB (dE U U) U (bQ (bH ?_))
 refine cC U (fun hi=>?_) (fun hi=>?_)
 ·refine bN (bD (bH (bO (bR ?_))))
  obtain ⟨b,off,hA,_,_⟩:=hl.get (by omega)
  subst hA
  refine bP U (bP U (bP U ?_))
  obtain ⟨x,hx,hxl,hxk⟩:=eS5 hik
  obtain ⟨j,hj⟩:=Int.eq_ofNat_of_zero_le hik
  have hjx:(mI (vW k) l 0).toNat=j:=by omega
  rw [hjx] at hx
  have hup:=eE3 hj hx
  have hjn:j < n:=by have:=(List.getElem?_eq_some_iff.1 hx).1;omega
  obtain ⟨ke,up⟩:=x
  have hup:bU4 l k=up:=hup
  have hcl:=hc ⟨ke,up⟩ hxl
  have hcl:jG up=false->0<=mI (vW up) l 0:=hcl
  refine cH (v:= .int .i64 ((j:Nat):Int)) U dV0 U U (fun wx hm=>(by rw [<-hj];exact vZ l _ n c k wx (hm.fact 0 rfl).1 hn)) (bB (bV (j:=j) zV U U (by omega)) U (dY zZ U U (bB (dK (k:=1) (v:= .string up) fC U (fun _ hm=>(hm.fact 0 U).1) hx U U) U (bX U (bQ (bH (bR (bP U (bB (eS U U) U (bQ ?_))))))))))
  refine dC U (fun hh=>?_) (fun hh=>?_)
  ·have hq:(up.toList==(⟨#[]⟩:ByteArray).toList)=true:=by simpa using hh
   refine dD (bF (bY5 U (bF (bF (bY (bD (bR ?_)))))))
   refine dV (R:=∃A cc,v= .slice A i cc) (fun wx hm=>dR (hm.ownI 0 U)) ?_
   rintro ⟨A2,c2,rfl⟩
   refine bP U (bX U (bQ (bM ?_)))
   have xV:done=nU l n k0:=by rw [<-hdp,dN4 (by rw [hup];unfold jG;exact hq),List.append_nil]
   exact bJ U U fun wx hm=>⟨A2,i,c2,U,by rw [<-xV];exact hm.ownI 0 rfl,by rw [<-xV];exact hdl,hm.g⟩
  have hq:(up.toList==(⟨#[]⟩:ByteArray).toList)=false:=by simpa using hh
  refine bN (bD (bI (bP U (bP U (jE 9 [.string up] fun g1=>eB (news:= [.string up]) 0 0 dY5 U U U U U U U (by omega) (by unfold maxLen;omega) U U fun v2 zJ=>bX U (bE (bG (bD (bI (gO U U (bP U (bE ?_))))))))))))
  have hue:jG (bU4 l k)=false:=by rw [hup];unfold jG;exact hq
  have hpm:=dM4 hue (show i < n by omega)
  rw [hup] at hpm hue
  exact cN (i+1,up,v2,done++ [up],done.flatMap fH++([.string up]:List Value)) ⟨by dsimp only;omega,hcl hue,by simp [hdl],by dsimp only;rw [<-hdp,hpm,List.append_assoc];rfl,by simp [fH]⟩ (by dsimp only;omega) ⟨U,U,U,U,U,(cR (by omega)),trivial⟩ (fun _ hm=>hm.pick [] [0] [0] U U)
 refine dD (bF (bF (bY (bD (bR ?_)))))
 refine dV (R:=∃A cc,v= .slice A i cc) (fun wx hm=>dR (hm.ownI 0 U)) ?_
 rintro ⟨A2,c2,rfl⟩
 refine bP U (bX U (bQ (bM ?_)))
 have hin:i=n:=by omega
 have xV:done=nU l n k0:=by rw [<-hdp,hin,Nat.sub_self];exact (List.append_nil _).symm
 exact bJ U U fun wx hm=>⟨A2,i,c2,U,by rw [<-xV];exact hm.ownI 0 rfl,by rw [<-xV];exact hdl,hm.g⟩
theorem wW (l:List Cs) (A:Option Addr) (n c:Nat) (w:World) (hl:SlT dW 2 84 w A n l) (hok:∀x∈l,rV x) (hn:n<=1000000):
 Calls prog 100 #[.slice A n c] w (mP w (jC l)):=by
 refine cS ⟨80,w,none, []⟩ func100 U ntmps100 U (gM (X:= [bW dW 2 84 w.heap.size none A n l]) (cF hl.old cX) (cG bW.lasts cY)) (bR ?_)
 have hlen:=hl.len
 refine bX U (bQ (bH (bR (bP U (bB (dT zV U) U (bB (eK U U) U (bQ ?_)))))))
 refine cC U (fun h1=>?_) (fun h1=>?_)
 ·refine bR (bX U (bQ ?_))
  refine bM (bA ?_)
  exact bJ U U fun wx hm=>⟨bT (by unfold jC;rw [if_pos (by omega)]),hm.g⟩
 refine bN (bD (bH (bR ?_)))
 have h30:¬30 < l.length:=by omega
 refine bP U (bB (dT zV U) U (bP U (bQ (bO ?_))))
 refine dX (γ:=Nat) (fun (k:Nat)=>k<=n/\scanE csE none l=scanE csE (prevOf l k) (l.drop k)) (fun (k:Nat)=> [(0,.slice A n c),(12,.slice A n c),(13,.int .i64 ((n:Nat):Int)),(14,.int .i64 ((k:Nat):Int))]) (fun (k:Nat)=>fun _=>True) (fun (k:Nat)=> []) (fun (k:Nat)=> []) (fun (k:Nat)=> [bW dW 2 84 w.heap.size none A n l]) (fun (k:Nat)=>n - k) 0 ⟨Nat.zero_le _,U⟩ ⟨U,U,U,U,trivial⟩ (fun _ hm=>hm.pick [] [] [0] U U) ?_
 intro k cB
 replace cB:k<=n/\scanE csE none l=scanE csE (prevOf l k) (l.drop k):=cB
 refine bR (bB (dE U U) U (bQ (bH ?_)))
 refine cC U (fun hk=>?_) (fun hk=>?_)
 ·refine bN (bD (bH (bO (bR ?_))))
  obtain ⟨b,off,hA,_,_⟩:=hl.get (by omega)
  subst hA
  obtain ⟨x,hx⟩:∃x,l[k]?=some x:=⟨_,fW3 (by omega)⟩
  obtain ⟨ke,up⟩:=x
  have hat:=scanE_at csE l k _ hx
  have hk1:ke.size<=1000000:=(hok _ (fX3 hx)).1
  have hk2:up.size<=1000000:=(hok _ (fX3 hx)).2
  refine bP U (bB (bV (j:=k) zV U U (by omega)) U (bB (dP (vs:= [.string ke,.string up]) cI7 U (fun _ hm=>(hm.fact 0 U).1) hx U U) U (dL eA7 U fun g1=>bX U (kE (cs':= [.string ke,.string up]) 0 cI7 U U U U (bQ (bO (bR (dY zY U U (eJ fC 0 U U U (cZ U bW1 U U (fun wx hm=>(isKey_any _ wx (by omega))) (bB (cE U) U (bX U (bQ ?_)))))))))))))
  refine dC U (fun hh=>?_) (fun hh=>?_)
  ·have h2:(keyB ke)=false:=by simpa using hh
   refine bR (bX U (bQ (bM (bC (bC (bA (bA (bC (bA ?_)))))))))
   have hE:csE (prevOf l k) ⟨ke,up⟩=5:=by unfold csE;simp [h2]
   exact bJ U U fun wx hm=>⟨bT (by rw [bM3 h30 (v:=5) (by rw [cB.2,hat,if_neg (by rw [hE];decide),hE]) (by decide)]),hm.g⟩
  have h2:(keyB ke)=true:=by simpa using hh
  refine bH ?_
  by_cases hk0:k=0
  ·have hO:eY1 (prevOf l k) ⟨ke,up⟩=false:=by rw [mH hk0];rfl
   refine gd (fun wz=>True) mixed (fun _ _=>trivial) fun z=>wq 0 U (bL U) (wq 1 U (eK U U) (dH 26 (v':= .bool false) U (fU3 (decide_eq_false (by omega))) (wq 2 U (bL U) (fD 3 U (fD 4 U (fD 5 U (fD 6 U (fD 7 U (fD 8 U (fD 9 U (fD 10 U (fD 11 U (wq 12 U (fO U U) (wq 13 U (cV U) (jO (bD (jQ U (bR (dY zZ U U (eJ fC 0 U U U (bB (uG U U) U (bP U ?_))))))))))))))))))))))
   rcases Bool.eq_false_or_eq_true (!(up.toList==(⟨#[]⟩:ByteArray).toList)) with mX|mX
   ·refine bK 42 U (fU3 mX) ?_
    have mX:jG up=false:=by unfold jG;simpa only [Bool.not_eq_true'] using mX
    refine eE U (dY zZ U U (eE U (eJ fC 0 U U U (eE U (cZ U bW1 U U (fun wx hm=>(isKey_any _ wx (by omega))) (eE U (bB (cE U) U (mN U U (bX U (bQ ?_))))))))))
    refine dC U (fun hh=>?_) (fun hh=>?_)
    ·have zL:(keyB up)=false:=by simpa using hh
     refine bR (bX U (bQ (bM (bC (bC (bA (bA (bC (bA ?_)))))))))
     have hE:csE (prevOf l k) ⟨ke,up⟩=5:=by unfold csE;simp [h2,hO,mX,zL]
     exact bJ U U fun wx hm=>⟨bT (by rw [bM3 h30 (v:=5) (by rw [cB.2,hat,if_neg (by rw [hE];decide),hE]) (by decide)]),hm.g⟩
    have zL:(keyB up)=true:=by simpa using hh
    refine bN (bG (bG (bD (bI ?_))))
    have hE:csE (prevOf l k) ⟨ke,up⟩=0:=by unfold csE;simp [h2,hO,mX,zL]
    refine gO U U (bP U (bE ?_))
    exact cN (k+1) ⟨by omega,by rw [cB.2,hat,if_pos hE]⟩ (by omega) ⟨U,U,U,(cR (by omega)),trivial⟩ (fun _ hm=>hm.pick [] [] [0] U U)
   refine bK 42 U (fU3 mX) ?_
   have mX:jG up=true:=by unfold jG;simpa only [Bool.not_eq_false'] using mX
   have hE:csE (prevOf l k) ⟨ke,up⟩=0:=by unfold csE;simp [h2,hO,mX]
   refine dZ U (dZ U (dZ U (dZ U (nR U U (bX U (bQ (jQ U (bN (bG (bG (bD (bI (gO U U (bP U (bE ?_)))))))))))))))
   exact cN (k+1) ⟨by omega,by rw [cB.2,hat,if_pos hE]⟩ (by omega) ⟨U,U,U,(cR (by omega)),trivial⟩ (fun _ hm=>hm.pick [] [] [0] U U)
  obtain ⟨y,hy⟩:∃x,l[k - 1]?=some x:=⟨_,fW3 (by omega)⟩
  obtain ⟨p0,p1⟩:=y
  refine gd (fun wz=>Blk wz g1 84 [.string ke,.string up]/\(bW dW 2 84 w.heap.size none (some ⟨b,off,none⟩) n l) wz/\True) mixed (fun _ hm=>⟨hm.bl 0,hm.fa 0,trivial⟩) fun z=>wq 0 U (bL U) (wq 1 U (eK U U) (dH 26 (v':= .bool true) U (fU3 (decide_eq_true (by omega))) (wq 2 U (bL U) (fI 3 U (bS zY U U) (fI 4 U (cQ fC U (fun _ hm=>hm.1) U) (fI 5 U (bL U) (fI 6 U (bL U) (fI 7 U (ov_sub U U (by omega) (by omega)) (dH 32 (v':= .int .i64 ((k - 1:Nat):Int)) U (fV3 (by omega)) (fI 8 U (bV (j:=k - 1) zV U U (by omega)) (fI 9 U (bS zY U U) (fI 10 U (dK (k:=0) (v:= .string p0) fC U (fun _ hm=>(hm.2.1).1) hy U U) (fI 11 U (wG U U) (wq 12 U (fE U U) (wq 13 U (cV U) (jO (bD ?_)))))))))))))))))
  refine dC U (fun hh=>?_) (fun hh=>?_)
  ·have h9:(Op.bytesLess ke.toList p0.toList||ke.toList==p0.toList)=true:=by simpa using hh
   refine bR ?_
   have hO:eY1 (prevOf l k) ⟨ke,up⟩=true:=by rw [jT hk0 hy];exact h9
   refine bX U (bQ (bM (bC (bC (bA (bA (bC (bA ?_))))))))
   have hE:csE (prevOf l k) ⟨ke,up⟩=7:=by unfold csE;simp [h2,hO]
   exact bJ U U fun wx hm=>⟨bT (by rw [bM3 h30 (v:=7) (by rw [cB.2,hat,if_neg (by rw [hE];decide),hE]) (by decide)]),hm.g⟩
  have h9:(Op.bytesLess ke.toList p0.toList||ke.toList==p0.toList)=false:=by simpa using hh
  refine bR ?_
  have hO:eY1 (prevOf l k) ⟨ke,up⟩=false:=by rw [jT hk0 hy];exact h9
  refine dY zZ U U (eJ fC 0 U U U (bB (uG U U) U (bP U ?_)))
  rcases Bool.eq_false_or_eq_true (!(up.toList==(⟨#[]⟩:ByteArray).toList)) with mX|mX
  ·refine bK 42 U (fU3 mX) ?_
   have mX:jG up=false:=by unfold jG;simpa only [Bool.not_eq_true'] using mX
   refine eE U (dY zZ U U (eE U (eJ fC 0 U U U (eE U (cZ U bW1 U U (fun wx hm=>(isKey_any _ wx (by omega))) (eE U (bB (cE U) U (mN U U (bX U (bQ ?_))))))))))
   refine dC U (fun hh=>?_) (fun hh=>?_)
   ·have zL:(keyB up)=false:=by simpa using hh
    refine bR (bX U (bQ (bM (bC (bC (bA (bA (bC (bA ?_)))))))))
    have hE:csE (prevOf l k) ⟨ke,up⟩=5:=by unfold csE;simp [h2,hO,mX,zL]
    exact bJ U U fun wx hm=>⟨bT (by rw [bM3 h30 (v:=5) (by rw [cB.2,hat,if_neg (by rw [hE];decide),hE]) (by decide)]),hm.g⟩
   have zL:(keyB up)=true:=by simpa using hh
   refine bN (bG (bG (bD (bI ?_))))
   have hE:csE (prevOf l k) ⟨ke,up⟩=0:=by unfold csE;simp [h2,hO,mX,zL]
   refine gO U U (bP U (bE ?_))
   exact cN (k+1) ⟨by omega,by rw [cB.2,hat,if_pos hE]⟩ (by omega) ⟨U,U,U,(cR (by omega)),trivial⟩ (fun _ hm=>hm.pick [] [] [0] U U)
  refine bK 42 U (fU3 mX) ?_
  have mX:jG up=true:=by unfold jG;simpa only [Bool.not_eq_false'] using mX
  have hE:csE (prevOf l k) ⟨ke,up⟩=0:=by unfold csE;simp [h2,hO,mX]
  refine dZ U (dZ U (dZ U (dZ U (nR U U (bX U (bQ (jQ U (bN (bG (bG (bD (bI (gO U U (bP U (bE ?_)))))))))))))))
  exact cN (k+1) ⟨by omega,by rw [cB.2,hat,if_pos hE]⟩ (by omega) ⟨U,U,U,(cR (by omega)),trivial⟩ (fun _ hm=>hm.pick [] [] [0] U U)
 refine dD (bF (bF (bY (bD (bH (bR ?_))))))
 have hsc:scanE csE none l=0:=by rw [cB.2,scanE_end _ _ _ _ (by omega)]
 clear cB hk
 refine bP U (bB (dT zV U) U (bP U (bQ (bO ?_))))
 refine dX (γ:=Nat) (fun (k2:Nat)=>k2<=n/\l.any (upB l)=(l.drop k2).any (upB l)) (fun (k2:Nat)=> [(0,.slice A n c),(49,.slice A n c),(50,.int .i64 ((n:Nat):Int)),(51,.int .i64 ((k2:Nat):Int))]) (fun (k2:Nat)=>fun _=>True) (fun (k2:Nat)=> []) (fun (k2:Nat)=> []) (fun (k2:Nat)=> [bW dW 2 84 w.heap.size none A n l]) (fun (k2:Nat)=>n - k2) 0 ⟨Nat.zero_le _,U⟩ ⟨U,U,U,U,trivial⟩ (fun _ hm=>hm.pick [] [] [0] U U) ?_
 intro k2 cB
 replace cB:k2<=n/\l.any (upB l)=(l.drop k2).any (upB l):=cB
 refine bR (bB (dE U U) U (bQ (bH ?_)))
 refine cC U (fun hk=>?_) (fun hk=>?_)
 ·refine bN (bD (bH (bO (bR ?_))))
  obtain ⟨b,off,hA,_,_⟩:=hl.get (by omega)
  subst hA
  obtain ⟨x,hx⟩:∃x,l[k2]?=some x:=⟨_,fW3 (by omega)⟩
  obtain ⟨ke,up⟩:=x
  have hat:=cK8 (p:=upB l) hx
  have hk2:up.size<=1000000:=(hok _ (fX3 hx)).2
  refine bB (bV (j:=k2) zV U U (by omega)) U (bB (dP (vs:= [.string ke,.string up]) cI7 U (fun _ hm=>(hm.fact 0 U).1) hx U U) U (dL eA7 U fun g2=>kE (cs':= [.string ke,.string up]) 0 cI7 U U U U (bQ (bR (dY zZ U U (eJ fC 0 U U U (bB (uG U U) U (bP U ?_))))))))
  rcases Bool.eq_false_or_eq_true (!(up.toList==(⟨#[]⟩:ByteArray).toList)) with mX|mX
  ·refine bK 58 U (fU3 mX) ?_
   have mX:jG up=false:=by unfold jG;simpa only [Bool.not_eq_true'] using mX
   refine eE U (bP U (eE U (dY zZ U U (eE U (eJ fC 0 U U U (eE U (cH U dV0 U U (fun wx hm=>(vZ l _ n c up wx (hm.fact 0 U).1 (by omega))) (eE U (bB (dE U U) U (mN U U (bQ ?_)))))))))))
   refine cC U (fun zL=>?_) (fun zL=>?_)
   ·refine bR (bX U (bQ ?_))
    refine bM (bC (bA (bA (bC (bA ?_)))))
    have hE:upB l ⟨ke,up⟩=true:=by unfold upB;simp [mX,zL]
    exact bJ U U fun wx hm=>⟨bT (by rw [eC5 h30 hsc (by rw [cB.2,hat,hE];rfl)]),hm.g⟩
   refine bN (bG (bD (bI ?_)))
   have hE:upB l ⟨ke,up⟩=false:=by unfold upB;simp [mX];omega
   refine gO U U (bP U (bE ?_))
   exact cN (k2+1) ⟨by omega,by rw [cB.2,hat,hE];rfl⟩ (by omega) ⟨U,U,U,(cR (by omega)),trivial⟩ (fun _ hm=>hm.pick [] [] [0] U U)
  refine bK 58 U (fU3 mX) ?_
  have mX:jG up=true:=by unfold jG;simpa only [Bool.not_eq_false'] using mX
  have hE:upB l ⟨ke,up⟩=false:=by unfold upB;simp [mX]
  refine dZ U (dZ U (dZ U (dZ U (dZ U (nR U U (bQ (jQ U (bN (bG (bD (bI (gO U U (bP U (bE ?_))))))))))))))
  exact cN (k2+1) ⟨by omega,by rw [cB.2,hat,hE];rfl⟩ (by omega) ⟨U,U,U,(cR (by omega)),trivial⟩ (fun _ hm=>hm.pick [] [] [0] U U)
 refine dD (bF (bF (bY (bD (bH (bR ?_))))))
 have hup:l.any (upB l)=false:=by rw [cB.2,cD3 (by omega)]
 clear cB hk
 have hcl:=dK3 hup
 have hlo:=dM6 h30 hsc hup
 refine bP U (bB (dT zV U) U (bP U (bQ (bO ?_))))
 refine dX (γ:=Nat) (fun (k3:Nat)=>k3<=n/\l.any (fun x=>inK x.key (nU l (n) x.key))=(l.drop k3).any (fun x=>inK x.key (nU l (n) x.key))) (fun (k3:Nat)=> [(0,.slice A n c),(66,.slice A n c),(67,.int .i64 ((n:Nat):Int)),(68,.int .i64 ((k3:Nat):Int))]) (fun (k3:Nat)=>fun _=>True) (fun (k3:Nat)=> []) (fun (k3:Nat)=> []) (fun (k3:Nat)=> [bW dW 2 84 w.heap.size none A n l]) (fun (k3:Nat)=>n - k3) 0 ⟨Nat.zero_le _,U⟩ ⟨U,U,U,U,trivial⟩ (fun _ hm=>hm.pick [] [] [0] U U) ?_
 intro k3 cB
 replace cB:k3<=n/\l.any (fun x=>inK x.key (nU l (n) x.key))=(l.drop k3).any (fun x=>inK x.key (nU l (n) x.key)):=cB
 refine bR ?_
 have hlo2:jC l=if l.any (fun x=>inK x.key (nU l (n) x.key))=true then 14 else 0:=by rw [hlo];unfold dN8;rw [hlen]
 refine bB (dE U U) U (bQ (bH ?_))
 refine cC U (fun hk=>?_) (fun hk=>?_)
 ·refine bN (bD (bH (bO (bR ?_))))
  obtain ⟨b,off,hA,_,_⟩:=hl.get (by omega)
  subst hA
  obtain ⟨x,hx⟩:∃x,l[k3]?=some x:=⟨_,fW3 (by omega)⟩
  obtain ⟨ke,up⟩:=x
  have hat:=cK8 (p:=(fun x=>inK x.key (nU l (n) x.key))) hx
  have hk2:ke.size<=1000000:=(hok _ (fX3 hx)).1
  have hix:0<=mI (vW ke) l 0:=by
   rcases pT (p:=vW ke) l 0 with ⟨_,h⟩|⟨j,x,h,_⟩
   ·have:=h _ (fX3 hx)
    simp [vW] at this
   omega
  refine bB (bV (j:=k3) zV U U (by omega)) U (bB (dP (vs:= [.string ke,.string up]) cI7 U (fun _ hm=>(hm.fact 0 U).1) hx U U) U (dL eA7 U fun g3=>kE (cs':= [.string ke,.string up]) 0 cI7 U U U U (bQ (bH (gd (fun wz=>Blk wz g3 84 [.string ke,.string up]/\True) mixed (fun _ hm=>⟨hm.bl 0,trivial⟩) fun z=>wq 0 U (bL U) (wq 1 U (bS zY U U) (wq 2 U (cQ fC U (fun _ hm=>hm.1) U) (wq 4 U (bS zY U U) (wq 5 U (cQ fC U (fun _ hm=>hm.1) U) (eG 3 U ?_))))))))))
  refine bS1 (γ:=Option Addr×Nat×Nat) (val:=(fun g=> .slice g.1 g.2.1 g.2.2)) (φ:=(fun g=>(nU l (n) ke).length=g.2.1)) (fun g=>⟨.slice g.1 g.2.1 g.2.2,9,1,g.2.1,(nU l (n) ke).flatMap fH⟩) U eM8 U U (fun wx hm=>(dZ2 l _ n c ke wx (hm.fact 0 U).1 hcl hix (by omega)).mono fun _ _ ⟨A2,n2,c2,he,ho,hl2,hg⟩=>⟨(A2,n2,c2),he,hl2,ho,hg⟩) ?_
  rintro ⟨A2,n2,c2⟩ hpl
  dsimp only at hpl ⊢
  have hpb:=cK2 l (n) ke
  refine bE (nw 7 63 (fun _ hm=>⟨hm.bl 0,trivial⟩) fun z=>eG 6 U (cH U eV3 U U (fun wx hm=>(cK3 (nU l (n) ke) A2 n2 c2 ke wx (SlT.ofOwn yR (hm.ownI 0 U) hpl) (by omega))) (bE (nw 7 127 (fun _ hm=>⟨hm.bl 0,trivial⟩) fun z=>jO (bD ?_)))))
  refine dC U (fun hh=>?_) (fun hh=>?_)
  ·have h33:(inK ke (nU l (n) ke))=true:=by simpa using hh
   refine bR (bX U (bQ (bM (bC (bA (bA (bC (bA ?_))))))))
   exact bJ U U fun wx hm=>⟨bT (by rw [hlo2,if_pos (by rw [cB.2,hat,h33];rfl)]),hm.g⟩
  have h33:(inK ke (nU l (n) ke))=false:=by simpa using hh
  refine bN (bG (bD (bI (gO U U (bP U (bE ?_))))))
  exact cN (k3+1) ⟨by omega,by rw [cB.2,hat,h33];rfl⟩ (by omega) ⟨U,U,U,(cR (by omega)),trivial⟩ (fun _ hm=>hm.pick [] [] [0] U U)
 refine dD (bF (bF (bY (bD (bR (bX U (bQ (bM ?_))))))))
 exact bJ U U fun wx hm=>⟨bT (by rw [hlo2,if_neg (by rw [cB.2,cD3 (by omega)];decide)]),hm.g⟩
theorem rB {n v:Int} (h:mW n v) (hn:1<=n):0<=v/\v < n:=by unfold mW at h;omega
theorem cN2 (lo hi:Int) (w:World) (B sb m:Nat) (hS:eU 25 w B sb m) (hm:m<=1000000000000) (h1: -4611686018427387904<=lo) (h2:hi<=4611686018427387902) (h3:lo<=4611686018427387902) (h4: -4611686018427387904<=hi):
 Calls prog 8 #[.pointer (some ⟨sb,0,none⟩),.int .i64 lo,.int .i64 hi] w (cY2 25 w B sb (m+1) (fun v=>lo<=v/\(v<=hi∨v=lo))):=by
 by_cases hlt:hi < lo
 ·go_enter func8,ntmps8
  go_wp2_with fail
  go_ret
  exact ⟨lo,⟨by omega,.inr rfl⟩,U,hS.more (by omega),World.grownBy.refl _ _⟩
 ·go_enter func8,ntmps8
  go_wp2_with fail
  refine (mM _ _ B sb m hS hm (by omega) (by omega)).mono ?_
  rintro e w1 ⟨v,hv,rfl,hS1,hg1⟩
  have hv:=rB hv (by omega)
  go_wp2_with fail
  go_ret
  exact ⟨lo+v,⟨by omega,.inl (by omega)⟩,U,hS1,hg1⟩
theorem jY (n:Int) (w:World) (B sb m:Nat) (hS:eU 25 w B sb m) (hm:m<=1000000000000) (uQ: -9223372036854775808<=n) (hn2:n<=9223372036854775807):
 Calls prog 61 #[.pointer (some ⟨sb,0,none⟩),.int .i64 n] w (eM0 25 w B sb (m+1)):=by
 go_enter func61,ntmps61
 go_wp2_with fail
 refine (mM _ _ B sb m hS hm uQ hn2).mono ?_
 rintro e w1 ⟨v,hv,rfl,hS1,hg1⟩
 go_wp2_with fail
 go_ret
 exact ⟨_,U,hS1,hg1⟩
theorem eT (xs:List Int) (g c:Nat) (T:TypeId) (w:World) (B sb m:Nat) (hS:eU 25 w B sb m) (hm:m<=1000000000000) (hx:0 < xs.length) (hx2:xs.length<=1000000) (hg:Blk w g T (xs.map (Value.int .i64))) (hne:g≠sb):
 Calls prog 67 #[.pointer (some ⟨sb,0,none⟩),.slice (some ⟨g,0,none⟩) xs.length c] w (cY2 25 w B sb (m+1) (fun v=>v∈xs)):=by
 obtain ⟨n,hn⟩:∃n,n=xs.length:=⟨_,rfl⟩
 rw [<-hn] at hx hx2 ⊢
 have Hn:=Lib.hid hn;clear hn
 go_enter func67,ntmps67
 go_wp2_with fail
 refine (mM _ _ B sb m hS hm (by omega) (by omega)).mono ?_
 rintro e w1 ⟨v,hv,rfl,hS1,hg1⟩
 have hv:=rB hv (by omega)
 obtain ⟨i,rfl⟩:=Int.eq_ofNat_of_zero_le hv.1
 have hi:i < n:=by omega
 have hgb:=hg.grown hg1 (by simpa using hne)
 obtain ⟨x,hx⟩:∃x,xs[i]?=some x:=⟨_,fW3 (by have:=Hn.out;omega)⟩
 have hc:w1.cell? ⟨g,i,none⟩=some (.int .i64 x):=hgb.cell_of (by simp [hx])
 have wK:x∈xs:=fX3 hx
 clear hx hgb
 go_wp2_with fail
 go_ret
 exact ⟨x,wK,U,hS1,hg1⟩
theorem gU (xs:List ByteArray) (g c:Nat) (T:TypeId) (w:World) (B sb m:Nat) (hS:eU 25 w B sb m) (hm:m<=1000000000000) (hx:0 < xs.length) (hx2:xs.length<=1000000) (hg:Blk w g T (xs.map Value.string)) (hne:g≠sb):
 Calls prog 25 #[.pointer (some ⟨sb,0,none⟩),.slice (some ⟨g,0,none⟩) xs.length c] w (eR4 25 w B sb (m+1) (fun v=>v∈xs)):=by
 obtain ⟨n,hn⟩:∃n,n=xs.length:=⟨_,rfl⟩
 rw [<-hn] at hx hx2 ⊢
 have Hn:=Lib.hid hn;clear hn
 go_enter func25,ntmps25
 go_wp2_with fail
 refine (mM _ _ B sb m hS hm (by omega) (by omega)).mono ?_
 rintro e w1 ⟨v,hv,rfl,hS1,hg1⟩
 have hv:=rB hv (by omega)
 obtain ⟨i,rfl⟩:=Int.eq_ofNat_of_zero_le hv.1
 have hi:i < n:=by omega
 have hgb:=hg.grown hg1 (by simpa using hne)
 obtain ⟨x,hx⟩:∃x,xs[i]?=some x:=⟨_,fW3 (by have:=Hn.out;omega)⟩
 have hc:w1.cell? ⟨g,i,none⟩=some (.string x):=hgb.cell_of (by simp [hx])
 have wK:x∈xs:=fX3 hx
 clear hx hgb
 go_wp2_with fail
 go_ret
 exact ⟨x,wK,U,hS1,hg1⟩
theorem mF (lo hi:Int) (w:World) (B sb m:Nat) (hS:eU 25 w B sb m) (hm:m<=900000000000) (h1: -1000000000000000<=lo) (h2:hi<=1000000000000000) (h3:lo<=hi):
 Calls prog 69 #[.pointer (some ⟨sb,0,none⟩),.int .i64 lo,.int .i64 hi] w (cY2 25 w B sb (m+2) (fun v=> -2000000000000000<=v/\v<=2000000000000000)):=by
 go_enter func69,ntmps69
 go_wp2_with fail
 refine (jY _ _ B sb m hS (by omega) (by omega) (by omega)).mono ?_
 rintro e w1 ⟨b,rfl,hS1,hg1⟩
 rcases b with _|_
 ·go_wp2_with fail
  refine (cN2 _ _ _ B sb (m+1) hS1 (by omega) (by omega) (by omega) (by omega) (by omega)).mono ?_
  rintro e w2 ⟨v,hv,rfl,hS2,hg2⟩
  go_wp2_with fail
  go_ret
  exact ⟨v,by omega,rfl,hS2,grow_trans hg1 hg2⟩
 ·go_wp2_with fail
  refine (eT [lo - 1,hi+1,lo,hi, -1099511627776,1099511627776] _ _ _ _ B sb (m+1) (hS1.alloc _) (by omega) (by simp) (by simp) (Blk.new _ _ _) (by have:=hS1.lt;omega)).mono ?_
  rintro e w2 ⟨v,hv,rfl,hS2,hg2⟩
  go_wp2_with fail
  go_ret
  refine ⟨v,by simp at hv;omega,rfl,hS2,grow_trans hg1 (grow_trans (grow_alloc (World.grownBy.refl _ _) _) hg2)⟩
theorem bA3 {α:Type} {f:Option α->α->Int} {x:α}:∀{l:List α} {p:Option α},scanE f p l=0->f p x=0->(∀y∈l,f (some y) x=0)->scanE f p (l++ [x])=0
 | [],p,_,h,_=>by
  show (if f p x=0 then 0 else f p x)=0
  rw [if_pos h]
 |y::r,p,h,_,hq=>by
  have h1:f p y=0:=by
   unfold scanE at h
   by_cases e:f p y=0
   ·exact e
   ·rw [if_neg e] at h;exact h
  show (if f p y=0 then scanE f (some y) (r++ [x]) else f p y)=0
  rw [if_pos h1]
  refine bA3 ?_ (hq y (List.mem_cons_self ..)) (fun z hz=>hq z (List.mem_cons_of_mem _ hz))
  unfold scanE at h
  rw [if_pos h1] at h;exact h
theorem bH2 {α:Type} {l:List α} {i:Nat} {x:α} (h:x∈l.take i):x∈l.take (i+1):=by
 obtain ⟨j,hj⟩:=List.getElem?_of_mem h
 rw [List.getElem?_take] at hj
 split at hj
 ·exact fX3 (i:=j) (by rw [List.getElem?_take,if_pos (by omega)];exact hj)
 ·cases hj
theorem bY6 {α:Type} {l:List α} {i:Nat} {x:α} (h:l[i]?=some x):x∈l.take (i+1):=
 fX3 (i:=i) (by rw [List.getElem?_take,if_pos (by omega)];exact h)
def K4:List ByteArray:= [⟨#[118,49]⟩,⟨#[118,50]⟩,⟨#[118,51]⟩,⟨#[118,52]⟩]
def eH4 (l:List ByteArray):Bool:=(List.range l.length).all fun i=>(l[i]?.elim true fun k=>keyB k&&(l.take i).all fun a=> !leB k a)
theorem fX0:eH4 K4=true:=by decide+kernel
theorem dE9 {l:List ByteArray} {i:Nat} {k:ByteArray} (h:eH4 l=true) (hk:l[i]?=some k):keyB k=true/\∀a∈l.take i,leB k a=false:=by
 have hi:=(List.getElem?_eq_some_iff.1 hk).1
 have h1:=(List.all_eq_true.1 h) i (List.mem_range.2 hi)
 rw [hk] at h1
 have h2:(keyB k&&(l.take i).all fun a=> !leB k a)=true:=h1
 rw [Bool.and_eq_true] at h2
 refine ⟨h2.1,fun a ha=>?_⟩
 have h3:=(List.all_eq_true.1 h2.2) a ha
 cases h4:leB k a with
 |false=>rfl
 |true=>rw [h4] at h3;cases h3
def cK9:ByteArray:=⟨#[98,105,103]⟩
def cQ6:ByteArray:=⟨#[109,97,120,105]⟩
def dD8:ByteArray:=⟨#[109,105,100,105]⟩
def fN0:ByteArray:=⟨#[109,105,110,105]⟩
def kNo:ByteArray:=⟨#[]⟩
def eZ4 (u1 u2 u3:ByteArray):List Cs:= [⟨cK9,kNo⟩,⟨cQ6,u1⟩,⟨dD8,u2⟩,⟨fN0,u3⟩]
def ClG (l:List Cs):Prop:=∃u1 u2 u3,u1∈ [kNo,cK9]/\u2∈ [kNo,cK9,cQ6]/\u3∈ [kNo,cK9,cQ6,dD8]/\l=eZ4 u1 u2 u3
theorem dJ3:ClG [⟨⟨#[98,105,103]⟩,⟨#[]⟩⟩,⟨⟨#[109,97,120,105]⟩,⟨#[]⟩⟩,⟨⟨#[109,105,100,105]⟩,⟨#[]⟩⟩,⟨⟨#[109,105,110,105]⟩,⟨#[]⟩⟩]:=
 ⟨kNo,kNo,kNo,List.mem_cons_self ..,List.mem_cons_self ..,List.mem_cons_self ..,rfl⟩
theorem eA5:([kNo,cK9].all fun u1=> [kNo,cK9,cQ6].all fun u2=> [kNo,cK9,cQ6,dD8].all fun u3=>decide (jC (eZ4 u1 u2 u3)=0))=true:=by decide+kernel
theorem dI3 {l:List Cs} (h:ClG l):jC l=0:=by
 obtain ⟨u1,u2,u3,h1,h2,h3,rfl⟩:=h
 exact of_decide_eq_true (List.all_eq_true.1 (List.all_eq_true.1 (List.all_eq_true.1 eA5 u1 h1) u2 h2) u3 h3)
theorem eX0 {l:List Cs} {i j:Nat} {y0 y1 z0 z1:ByteArray} (h:ClG l) (hj:j < i) (hi:i < 4) (hy:l[j]?=some ⟨y0,y1⟩) (hz:l[i]?=some ⟨z0,z1⟩):ClG (l.set i ⟨z0,y0⟩):=by
 obtain ⟨u1,u2,u3,h1,h2,h3,rfl⟩:=h
 unfold eZ4 at hy hz ⊢
 have hc:i=1∨i=2∨i=3:=by omega
 have hd:j=0∨j=1∨j=2:=by omega
 rcases hc with rfl|rfl|rfl <;> rcases hd with rfl|rfl|rfl <;> try omega
 all_goals
  simp only [List.getElem?_cons_zero,List.getElem?_cons_succ,Option.some.injEq,Cs.mk.injEq] at hy hz
  obtain ⟨rfl,_⟩:=hy
  obtain ⟨rfl,_⟩:=hz
  first
   |exact ⟨_,u2,u3,List.mem_cons_of_mem _ (List.mem_cons_self ..),h2,h3,rfl⟩
   |exact ⟨u1,_,u3,h1,List.mem_cons_of_mem _ (List.mem_cons_self ..),h3,rfl⟩
   |exact ⟨u1,_,u3,h1,List.mem_cons_of_mem _ (List.mem_cons_of_mem _ (List.mem_cons_self ..)),h3,rfl⟩
   |exact ⟨u1,u2,_,h1,h2,List.mem_cons_of_mem _ (List.mem_cons_self ..),rfl⟩
   |exact ⟨u1,u2,_,h1,h2,List.mem_cons_of_mem _ (List.mem_cons_of_mem _ (List.mem_cons_self ..)),rfl⟩
   |exact ⟨u1,u2,_,h1,h2,List.mem_cons_of_mem _ (List.mem_cons_of_mem _ (List.mem_cons_of_mem _ (List.mem_cons_self ..))),rfl⟩
def VhG (cl:List Cs) (i:Nat) (l:List Vh):Prop:=scanE (vhE cl) none l=0/\∀x∈l,x.key∈K4.take i
theorem eJ3 {cl:List Cs} {i:Nat}:VhG cl i []:=⟨rfl,fun _ h=>by cases h⟩
theorem cU7 {cl:List Cs} {p:Option Vh} {x:Vh} (h1:keyB x.key=true) (h2:cL4 p x=false) (h3:¬mI (vW x.cls) cl 0 < 0):vhE cl p x=0:=by
 unfold vhE
 rw [h1,h2,if_neg h3];rfl
theorem dL6 {cl:List Cs} {j:Nat} {c:Cs} (h:cl[j]?=some c):¬mI (vW c.key) cl 0 < 0:=by
 rcases pT (p:=vW c.key) cl 0 with ⟨_,h2⟩|⟨j,y,h2,_⟩
 ·have:=h2 c (fX3 h)
  unfold vW at this
  simp at this
 ·omega
theorem eE0 {cl:List Cs} {i j:Nat} {l:List Vh} {k c0 c1:ByteArray} (h:VhG cl i l) (hk:K4[i]?=some k) (hc:cl[j]?=some ⟨c0,c1⟩):VhG cl (i+1) (l++ [⟨k,c0⟩]):=by
 obtain ⟨h1,h2⟩:=dE9 fX0 hk
 refine ⟨bA3 h.1 (cU7 h1 U (dL6 hc)) (fun y hy=>cU7 h1 (h2 _ (h.2 y hy)) (dL6 hc)),fun x hx=>?_⟩
 rcases List.mem_append.1 hx with hx|hx
 ·exact bH2 (h.2 x hx)
 ·rw [List.mem_singleton.1 hx];exact bY6 hk
theorem cB6 {sl:List St} {cl:List Cs} {vl:List Vh} {i:Nat} (hs:stationsE sl=0) (hc:jC cl=0) (hv:VhG cl i vl) (hl:vl.length<=500):mJ sl cl vl []=0:=by
 unfold mJ bH7
 rw [hs,hc,if_neg (by omega),hv.1];rfl
theorem eD5 {l:List Cs} {x:Cs} {j:Nat} (h:∀y∈l,rV y) (hx:rV x):∀y∈l.set j x,rV y:=fun y hy=>by
 rcases List.mem_or_eq_of_mem_set hy with hy|rfl
 ·exact h y hy
 ·exact hx
theorem cI1 (w:World) (B sb m:Nat) (hS:eU 25 w B sb m) (hm:m<=100000000000):
 Calls prog 24 #[.pointer (some ⟨sb,0,none⟩)] w (fun e w'=>∃(A:Option Addr) (c:Nat) (l:List Cs),e=.returned (.slice A 4 c)/\w'.ownsRow w.heap.size 84 2 (.slice A 4 c) 4 (l.flatMap dW)/\(l.length=4/\ClG l)/\(∀x∈l,rV x)/\eU 25 w' B sb (m+20)/\w.grownBy w' (some sb)):=by
 refine cS ⟨35,w,(some sb), []⟩ func24 U ntmps24 U (bF4 (X:= []) hS cX cY) (bR (bX U (bQ (bR (bB (dJ (cs:= [.string ⟨#[98,105,103]⟩,.string ⟨#[]⟩]) U (by kernel_rfl)) U (bB (dJ (cs:= [.string ⟨#[109,97,120,105]⟩,.string ⟨#[]⟩]) U (by kernel_rfl)) U (bB (dJ (cs:= [.string ⟨#[109,105,100,105]⟩,.string ⟨#[]⟩]) U (by kernel_rfl)) U (bB (dJ (cs:= [.string ⟨#[109,105,110,105]⟩,.string ⟨#[]⟩]) U (by kernel_rfl)) U (jE 84 [.string ⟨#[98,105,103]⟩,.string ⟨#[]⟩,.string ⟨#[109,97,120,105]⟩,.string ⟨#[]⟩,.string ⟨#[109,105,100,105]⟩,.string ⟨#[]⟩,.string ⟨#[109,105,110,105]⟩,.string ⟨#[]⟩] fun g1=>bX U (bQ (bH (bR (bP U (bB (dT zV U) U (bK 11 (v':= .int .i64 4) U U (bP U (bQ (bO ?_))))))))))))))))))
 refine dT7 (sz:=2) (n:=4) 0 [] U U U (by unfold maxLen;omega) ?_
 refine dX (γ:=Nat×List Cs) (fun g=>g.1<=4/\(g.2.length=4/\ClG g.2)/\(∀x∈g.2,rV x)) (fun g=> [(0,.pointer (some ⟨sb,0,none⟩)),(2,.slice none 0 0),(3,.slice (some ⟨g1,0,none⟩) 4 4),(11,.int .i64 4),(12,.int .i64 ((g.1:Nat):Int))]) (fun g=>fun w=>eU 25 w B sb (m+2 *g.1)) (fun g=> []) (fun g=> [⟨.slice (some ⟨g1,0,none⟩) 4 4,84,2,4,g.2.flatMap dW⟩]) (fun g=> []) (fun g=>4 - g.1) (0, [⟨⟨#[98,105,103]⟩,⟨#[]⟩⟩,⟨⟨#[109,97,120,105]⟩,⟨#[]⟩⟩,⟨⟨#[109,105,100,105]⟩,⟨#[]⟩⟩,⟨⟨#[109,105,110,105]⟩,⟨#[]⟩⟩]) ⟨Nat.zero_le _,⟨U,dJ3⟩,by simp [rV] <;> decide⟩ ⟨U,U,U,U,U,trivial⟩ (fun _ hm=>(hm.more U (by first|omega|(dsimp only;omega))).pick [] [0] [] U U) ?_
 rintro ⟨i,l⟩ cB
 replace cB:i<=4/\(l.length=4/\ClG l)/\(∀x∈l,rV x):=cB
 dsimp only
 refine bR ?_
 obtain ⟨hi0,⟨hl4,hcg⟩,hok⟩:=cB
 refine bB (dE U U) U (bQ (bH ?_))
 refine cC U (fun hi=>?_) (fun hi=>?_)
 ·refine bN (bD (bH (bO (bR (bP U (bX U (bQ (bR (bP U ?_)))))))))
  refine bB (eK U U) U (bP U ?_)
  rcases Bool.eq_false_or_eq_true (decide (0 < ((i:Nat):Int))) with h0|h0
  ·refine bK 17 U (fU3 h0) ?_
   have h0:=of_decide_eq_true h0
   refine eE U (bP U (eE U (dN (γ:=Bool) (val:=fun v=> .bool v) (φ:=fun v=>True) U xN U U U U (fun wx hm=>((jY _ wx B sb _ hm.k (by omega) (by omega) (by omega)).mono fun _ _ ⟨v,he,hS,hg⟩=>⟨v,trivial,he,hS,hg⟩)) fun f2 _=>eE U (bB (cE U) U (mN U U (bQ ?_))))))
   refine dC U (fun hh=>?_) (fun hh=>?_)
   ·have hf:f2=false:=by simpa using hh
    refine bI (bP U (bP U (bP U (bP U (bP U (dN (γ:=Int) (val:=fun v=> .int .i64 v) (φ:=fun v=>mW ((i:Nat):Int) v) U bP8 U U U U (fun wx hm=>(mM _ wx B sb _ hm.k (by omega) (by omega) (by omega))) fun vj hvj=>?_))))))
    have hj:=rB hvj (by omega)
    obtain ⟨j,rfl⟩:=Int.eq_ofNat_of_zero_le hj.1
    have hji:j < 4:=by omega
    obtain ⟨y,hy⟩:∃y,l[j]?=some y:=⟨_,fW3 (by omega)⟩
    obtain ⟨z,hz⟩:∃z,l[i]?=some z:=⟨_,fW3 (by omega)⟩
    obtain ⟨y0,y1⟩:=y
    obtain ⟨z0,z1⟩:=z
    obtain ⟨hy0,hy1⟩:=hok _ (fX3 hy)
    obtain ⟨hz0,hz1⟩:=hok _ (fX3 hz)
    refine bB (bV (j:=j) zV U U (by omega)) U (dY zY U U (bB (dK (k:=0) (v:= .string y0) fC U (fun _ hm=>(SlT.ofOwn cQ8 (hm.ownI 0 U) hl4)) hy U U) U (bB (bV (j:=i) zV U U (by omega)) U (dY zZ U U (fY (l:=l) (j:=i) (r:=1) (el:=⟨z0,z1⟩) (el':=⟨z0,y0⟩) 0 fC U U U U cQ8 U hz hl4 (show 1 < 2 by decide) U U (bE (bG (bD (bI (gO U U (bP U (bE ?_))))))))))))
    exact cN (i+1,l.set i ⟨z0,y0⟩) ⟨by dsimp only;omega,⟨by simp [hl4],eX0 hcg (show j < i by omega) (by omega) hy hz⟩,eD5 hok ⟨hz0,hy0⟩⟩ (by dsimp only;omega) ⟨U,U,U,U,(cR (by omega)),trivial⟩ (fun _ hm=>(hm.more U (by first|omega|(dsimp only;omega))).pick [] [0] [] U U)
   have hf:f2=true:=by simpa using hh
   refine bN (bG (bD (bI (gO U U (bP U (bE ?_))))))
   exact cN (i+1,l) ⟨by dsimp only;omega,⟨hl4,hcg⟩,hok⟩ (by dsimp only;omega) ⟨U,U,U,U,(cR (by omega)),trivial⟩ (fun _ hm=>(hm.more U (by first|omega|(dsimp only;omega))).pick [] [0] [] U U)
  refine bK 17 U (fU3 h0) (dZ U (dZ U (dZ U (nR U U (bQ (jQ U (bN (bG (bD (bI (gO U U (bP U (bE ?_)))))))))))))
  exact cN (i+1,l) ⟨by dsimp only;omega,⟨hl4,hcg⟩,hok⟩ (by dsimp only;omega) ⟨U,U,U,U,(cR (by omega)),trivial⟩ (fun _ hm=>(hm.more U (by first|omega|(dsimp only;omega))).pick [] [0] [] U U)
 refine dD (bF (bF (bY (bD (bR (bP U (bX U (bQ (bM ?_)))))))))
 exact bJ U U fun wx hm=>⟨_,4,l,U,hm.ownI 0 U,⟨hl4,hcg⟩,hok,hm.k.more (by omega),hm.g⟩
def noB (cs:List Cs) (k:ByteArray):Bool:=decide (mI (vW k) cs 0 < 0)
def wY (cs:List Cs) (l:List Bk):Int:=if bP6 l≠0 then bP6 l else if l.any (fun b=>noB cs b.cls)=true then 8 else 0
def jR (cs:List Cs) (l:List Bk):Int:=dG [jC cs,wY cs l]
theorem bH0 (ke:ByteArray) (up:ByteArray) (gk:Nat) (k:ByteArray) (w:World) (hk:Blk w gk 9 [.string k]):
 Calls prog 103 #[.agg #[.string ke,.string up],.pointer (some ⟨gk,0,none⟩)] w (fun e w'=>e=.returned (.bool (vW k ⟨ke,up⟩))/\w.grownBy w' none):=by
 refine cS ⟨8,w,none, []⟩ func103 U ntmps103 U (gM (X:= [fL w.heap.size none gk 9 [.string k]]) (cF hk.old cX) (cG fL.lasts cY)) (bR (fG U U U fun g1=>bX U (bQ (bR (dY zY U U (eJ fC 0 U U U (bB (cQ (v:= .string k) fC U (fun _ hm=>(hm.fact 0 U).2) U) U (bB (eS U U) U (bX U (bQ (bM ?_)))))))))))
 exact bJ U U fun wx hm=>⟨U,hm.g⟩
theorem zK (l:List Cs) (A:Option Addr) (n c0:Nat) (gk:Nat) (k:ByteArray) (w:World) (hl:SlT dW 2 84 w A n l) (hn:n<=1000000) (hk:Blk w gk 9 [.string k]):
 Calls prog 152 #[.slice A n c0,.func (.func 103) #[] #[.pointer (some ⟨gk,0,none⟩)]] w (mP w (mI (vW k) l 0)):=by
 refine cS ⟨19,w,none, []⟩ func152 U ntmps152 U (gM (X:= [bW dW 2 84 w.heap.size none A n l,fL w.heap.size none gk 9 [.string k]]) (cF hl.old (cF hk.old cX)) (cG bW.lasts (cG fL.lasts cY))) (bR ?_)
 have hlen:=hl.len
 refine bX U (bQ (bH (bR (bP U (bB (dT zV U) U (bP U (bQ (bO ?_))))))))
 refine dX (γ:=Nat) (fun (i:Nat)=>i<=n/\mI (vW k) l 0=mI (vW k) (l.drop i) i) (fun (i:Nat)=> [(0,.slice A n c0),(1,.func (.func 103) #[] #[.pointer (some ⟨gk,0,none⟩)]),(7,.int .i64 ((n:Nat):Int)),(8,.int .i64 ((i:Nat):Int))]) (fun (i:Nat)=>fun _=>True) (fun (i:Nat)=> []) (fun (i:Nat)=> []) (fun (i:Nat)=> [bW dW 2 84 w.heap.size none A n l,fL w.heap.size none gk 9 [.string k]]) (fun (i:Nat)=>n - i) 0 ⟨Nat.zero_le _,U⟩ ⟨U,U,U,U,trivial⟩ (fun _ hm=>hm.pick [] [] [0,1] U U) ?_
 intro i cB
 replace cB:i<=n/\mI (vW k) l 0=mI (vW k) (l.drop i) i:=cB
 refine bR (bB (dE U U) U (bQ (bH ?_)))
 refine cC U (fun hi=>?_) (fun hi=>?_)
 ·refine bN (bD (bH (bO (bR ?_))))
  obtain ⟨b,off,hA,_,_⟩:=hl.get (by omega)
  subst hA
  obtain ⟨x,hx⟩:∃x,l[i]?=some x:=⟨_,fW3 (by omega)⟩
  obtain ⟨ke,up⟩:=x
  have hat:=yA (p:=vW k) hx
  refine bP U (bX U (bQ (bR (bP U (bP U (bP U (bB (bV (j:=i) zV U U (by omega)) U (bB (dP (vs:= [.string ke,.string up]) cI7 U (fun _ hm=>(hm.fact 0 U).1) hx U U) U (cH U eR7 U U (fun wx hm=>(bH0 ke up gk k wx (hm.fact 1 U).2)) (bQ ?_))))))))))
  refine dC U (fun hh=>?_) (fun hh=>?_)
  ·have hq:(vW k ⟨ke,up⟩)=true:=by simpa using hh
   refine bR (bP U (bX U (bQ (bM (bC (bA (bA (bC (bA ?_)))))))))
   exact bJ U U fun wx hm=>⟨bT (by rw [cB.2,hat,if_pos hq]),hm.g⟩
  have hq:(vW k ⟨ke,up⟩)=false:=by simpa using hh
  refine bN (bG (bD (bI (gO U U (bP U (bE ?_))))))
  exact cN (i+1) ⟨by omega,by rw [cB.2,hat,if_neg (by rw [hq];decide)]⟩ (by omega) ⟨U,U,U,(cR (by omega)),trivial⟩ (fun _ hm=>hm.pick [] [] [0,1] U U)
 refine dD (bF (bF (bY (bD (bR (bX U (bK 4 (v':= .int .i64 (-1)) U U (bQ (bM ?_)))))))))
 exact bJ U U fun wx hm=>⟨bT (by rw [cB.2,List.drop_eq_nil_of_le (by omega)];rfl),hm.g⟩
theorem dU7 (l:List Cs) (A:Option Addr) (n c0:Nat) (gk:Nat) (k:ByteArray) (w:World) (hl:SlT dW 2 84 w A n l) (hn:n<=1000000) (hk:Blk w gk 9 [.string k]):
 Calls prog 102 #[.slice A n c0,.func (.func 103) #[] #[.pointer (some ⟨gk,0,none⟩)]] w (fun e w'=>e=.returned (.bool (decide (0<=mI (vW k) l 0)))/\w.grownBy w' none):=by
 refine cS ⟨9,w,none, []⟩ func102 U ntmps102 U (gM (X:= [bW dW 2 84 w.heap.size none A n l,fL w.heap.size none gk 9 [.string k]]) (cF hl.old (cF hk.old cX)) (cG bW.lasts (cG fL.lasts cY))) (bR (bX U (bQ (bR (bP U (bP U (cH U eW3 U U (fun wx hm=>(zK l A n c0 gk k wx (hm.fact 0 U).1 hn (hm.fact 1 U).2)) (bB (mG U U) U (bX U (bQ (bM ?_)))))))))))
 exact bJ U U fun wx hm=>⟨U,hm.g⟩
theorem cE4 (cs:List Cs) (A0:Option Addr) (n0 c0:Nat) (k:ByteArray) (w:World) (hcs:SlT dW 2 84 w A0 n0 cs) (_hco:∀x∈cs,rV x) (hn0:n0<=1000):
 Calls prog 52 #[.slice A0 n0 c0,.string k] w (fun e w'=>e=.returned (.bool (!noB cs k))/\w.grownBy w' none):=by
 refine cS ⟨8,w,none, []⟩ func52 U ntmps52 U (gM (X:= [bW dW 2 84 w.heap.size none A0 n0 cs]) (cF hcs.old cX) (cG bW.lasts cY)) (bR (fG U U U fun g1=>bX U (bQ (bR (bP U (bB (pU U U) U (cH U eQ7 U U (fun wx hm=>(dU7 cs A0 n0 c0 _ k wx (hm.fact 0 U).1 (by omega) (hm.blkI 0 U))) (bX U (bQ (bM ?_))))))))))
 exact bJ U U fun wx hm=>⟨by unfold noB;cases h:decide (mI (vW k) cs 0 < 0) <;> simp at h ⊢ <;> omega,hm.g⟩
theorem cO5 (cs:List Cs) (A0:Option Addr) (n0 c0:Nat) (l:List Bk) (A:Option Addr) (n c:Nat) (w:World) (hcs:SlT dW 2 84 w A0 n0 cs) (hco:∀x∈cs,rV x) (hn0:n0<=1000) (hl:SlT zO 6 146 w A n l) (hok:∀x∈l,dV5 x) (hn:n<=1000):
 Calls prog 101 #[.slice A0 n0 c0,.slice A n c] w (mP w (wY cs l)):=by
 refine cS ⟨25,w,none, []⟩ func101 U ntmps101 U (gM (X:= [bW dW 2 84 w.heap.size none A0 n0 cs,bW zO 6 146 w.heap.size none A n l]) (cF hcs.old (cF hl.old cX)) (cG bW.lasts (cG bW.lasts cY))) (bR ?_)
 have hlen:=hl.len
 obtain ⟨FE,hFE⟩:∃E,E=bP6 l:=⟨_,rfl⟩
 refine bX U (bQ (bH (bR (bP U (cH (v:= .int .i64 FE) U eN8 U U (fun wx hm=>(by rw [hFE];exact cY8 l A n c wx (hm.fact 1 rfl).1 hok (by omega))) (bX U (bQ (bR (bP U (bB (gS U U) U (bQ ?_)))))))))))
 refine gI U (fun h1=>?_) (fun h1=>?_)
 ·refine bR (bP U (bX U (bQ ?_)))
  refine bM (bA ?_)
  exact bJ U U fun wx hm=>⟨bT (by unfold wY;rw [<-hFE,if_pos (by simpa using h1)]),hm.g⟩
 refine bN (bD (bH (bR ?_)))
 have hke:wY cs l=if l.any (fun b=>noB cs b.cls)=true then 8 else 0:=by unfold wY;rw [<-hFE,if_neg (by simpa using h1)]
 refine bP U (bB (dT dO3 U) U (bP U (bQ (bO ?_))))
 refine dX (γ:=Nat) (fun (i:Nat)=>i<=n/\l.any (fun b=>noB cs b.cls)=(l.drop i).any (fun b=>noB cs b.cls)) (fun (i:Nat)=> [(0,.slice A0 n0 c0),(13,.slice A n c),(14,.int .i64 ((n:Nat):Int)),(15,.int .i64 ((i:Nat):Int))]) (fun (i:Nat)=>fun _=>True) (fun (i:Nat)=> []) (fun (i:Nat)=> []) (fun (i:Nat)=> [bW dW 2 84 w.heap.size none A0 n0 cs,bW zO 6 146 w.heap.size none A n l]) (fun (i:Nat)=>n - i) 0 ⟨Nat.zero_le _,U⟩ ⟨U,U,U,U,trivial⟩ (fun _ hm=>hm.pick [] [] [0,1] U U) ?_
 intro i cB
 replace cB:i<=n/\l.any (fun b=>noB cs b.cls)=(l.drop i).any (fun b=>noB cs b.cls):=cB
 refine bR (bB (dE U U) U (bQ (bH ?_)))
 refine cC U (fun hi=>?_) (fun hi=>?_)
 ·refine bN (bD (bH (bO (bR ?_))))
  obtain ⟨b,off,hA,_,_⟩:=hl.get (by omega)
  subst hA
  obtain ⟨x,hx⟩:∃x,l[i]?=some x:=⟨_,fW3 (by omega)⟩
  obtain ⟨ke,cl,fr,tt,md,od⟩:=x
  have hat:=cK8 (p:=(fun b=>noB cs b.cls)) hx
  refine bB (bV (j:=i) dO3 U U (by omega)) U (bB (dP (vs:= [.string ke,.string cl,.int .i64 fr,.int .i64 tt,.int .i64 md,.int .i64 od]) bC7 U (fun _ hm=>(hm.fact 1 U).1) hx U U) U (dL dV2 U fun g1=>kE (cs':= [.string ke,.string cl,.int .i64 fr,.int .i64 tt,.int .i64 md,.int .i64 od]) 0 bC7 U U U U (bQ (bR (bP U (dY dL1 U U (eJ fC 0 U U U (cH U fL2 U U (fun wx hm=>(cE4 cs A0 n0 c0 cl wx (hm.fact 0 U).1 hco hn0)) (bB (cE U) U (bQ ?_))))))))))
  refine dC U (fun hh=>?_) (fun hh=>?_)
  ·have hq:(!noB cs cl)=false:=by simpa using hh
   refine bR ?_
   have hb:noB cs cl=true:=by simpa using hq
   refine bX U (bQ (bM (bC (bA (bA (bC (bA ?_)))))))
   exact bJ U U fun wx hm=>⟨bT (by rw [hke,if_pos (by rw [cB.2,hat,hb];rfl)]),hm.g⟩
  have hq:(!noB cs cl)=true:=by simpa using hh
  refine bN (bG (bD (bI ?_)))
  have hb:noB cs cl=false:=by simpa using hq
  refine gO U U (bP U (bE ?_))
  exact cN (i+1) ⟨by omega,by rw [cB.2,hat,hb];rfl⟩ (by omega) ⟨U,U,U,(cR (by omega)),trivial⟩ (fun _ hm=>hm.pick [] [] [0,1] U U)
 refine dD (bF (bF (bY (bD (bR (bX U (bQ (bM ?_))))))))
 exact bJ U U fun wx hm=>⟨bT (by rw [hke,if_neg (by rw [cB.2,cD3 (by omega)];decide)]),hm.g⟩
theorem cL8 (cs:List Cs) (A0:Option Addr) (n0 c0:Nat) (l:List Bk) (A:Option Addr) (n c:Nat) (w:World) (hcs:SlT dW 2 84 w A0 n0 cs) (hco:∀x∈cs,rV x) (hn0:n0<=1000) (hl:SlT zO 6 146 w A n l) (hok:∀x∈l,dV5 x) (hn:n<=1000):
 Calls prog 51 #[.slice A0 n0 c0,.slice A n c] w (mP w (jR cs l)):=by
 refine cS ⟨12,w,none, []⟩ func51 U ntmps51 U (gM (X:= [bW dW 2 84 w.heap.size none A0 n0 cs,bW zO 6 146 w.heap.size none A n l]) (cF hcs.old (cF hl.old cX)) (cG bW.lasts (cG bW.lasts cY))) (bR ?_)
 obtain ⟨CE,hCE⟩:∃E,E=jC cs:=⟨_,rfl⟩
 obtain ⟨KE,hKE⟩:∃E,E=wY cs l:=⟨_,rfl⟩
 refine bX U (bQ (bR (bP U (cH (v:= .int .i64 CE) U eR3 U U (fun wx hm=>(by rw [hCE];exact wW cs A0 n0 c0 wx (hm.fact 0 rfl).1 hco (by omega))) (bP U (bP U (cH (v:= .int .i64 KE) U eP7 U U (fun wx hm=>(by rw [hKE];exact cO5 cs A0 n0 c0 l A n c wx (hm.fact 0 rfl).1 hco hn0 (hm.fact 1 rfl).1 hok hn)) (jE 48 [.int .i64 CE,.int .i64 KE] fun g1=>cZ U wH U U (fun wx hm=>(fN [CE,KE] _ _ _ wx (hm.blkI 0 U) (by simp))) (bX U (bQ (bM ?_)))))))))))
 exact bJ U U fun wx hm=>⟨bT (by unfold jR;rw [hCE,hKE]),hm.g⟩
theorem cX5 {a b c:Int} (h:dG [a,b,c]=0):a=0/\b=0/\c=0:=
 ⟨Classical.byContradiction fun hc=>hc (qY h a (by simp)),Classical.byContradiction fun hc=>hc (qY h b (by simp)),Classical.byContradiction fun hc=>hc (qY h c (by simp))⟩
noncomputable def cF5 (cl:List Cs) (s:As) (b:Bk):As:=itC (jR cl [b]=0/\(s.fb b.key).isSome=false/\(s.gh b.key).isSome=false) { s with fb:=fQ s.fb b.key b } s
theorem cC3 {σ:Os} {k:ByteArray}:((fZ σ).gh k).isSome=(σ.fh k).isSome:=by show ((σ.fh k).map hrG).isSome=_;rw [Option.isSome_map]
theorem rD {b:Bool} {n:Int} (hn:n≠0) (h:dI b n=0):b=false:=by
 cases b
 ·rfl
 ·exact absurd h hn
theorem dC6 (w0:World) (u0 u2 u3 u4 u5 u6 u7 u8 u9 jI jJ jK jL jM jN:Value) (go gv gs fT fR fS fU gC:Nat) (cA:Option Addr) (cn cc:Nat) (cl:List Cs) (V:ByteArray->Option ByteArray) (T:ByteArray->Option Bool) (rv:Value) (rn:Nat) (rx:List Value) (hd: [gv,gs,fT,fR,fS,fU,gC].Nodup) (q1 q2:Nat) (d1 d2:List Value) (A1 A2:World->Prop) (hA1:bK2 A1) (hA2:bK2 A2) (fp:ByteArray->Option Int) (σ:Os) (lv:Value) (at_:Int) (b0 b1:ByteArray) (b2 b3 b4 b5:Int) (w:World) (hok:dV5 ⟨b0,b1,b2,b3,b4,b5⟩) (hco:∀x∈cl,rV x) (hcn:cn<=1000) (hfb:Few σ.fb 499) (hm:gV ⟨0,w0,none, [68,9,3]⟩ (fun _=>True) [(go,119, [u0,.slice cA cn cc,u2,u3,u4,u5,u6,u7,u8,u9,jI,jJ,jK,jL,jM,jN,.map (some gv),.map (some gs),.map (some fT),lv,.map (some fR),.map (some fS),.map (some fU),.map (some gC),rv]),(q1,271,d1),(q2,171,d2)] [⟨lv,74,5,σ.lg.length,σ.lg.flatMap dO⟩,⟨rv,226,2,rn,rx⟩] [bU vS dM w0.heap.size gv (V),bU vB dM w0.heap.size gs (T),bU qS dM w0.heap.size fT (σ.fs),bU vB nB w0.heap.size fR (σ.fa),bU pZ dM w0.heap.size fS (σ.fb),bU nG dM w0.heap.size fU (σ.fh),bU vI dM w0.heap.size gC (fp),gF 68 σ.fh,bW dW 2 84 w0.heap.size none cA cn cl,TxtO w0.heap.size none,A1,A2] w):
 Calls prog 172 #[.pointer (some ⟨go,0,none⟩),.agg #[.string b0,.string b1,.int .i64 b2,.int .i64 b3,.int .i64 b4,.int .i64 b5]] w (fun e w'=>∃lv' σ' E,e=.returned (.int .i64 E)/\(kR V T (fun b=>jR cl [b]=0) at_ σ σ'/\fZ σ'=cF5 cl (fZ σ) ⟨b0,b1,b2,b3,b4,b5⟩)/\gV ⟨0,w0,none, [68,9,3]⟩ (fun _=>True) [(go,119, [u0,.slice cA cn cc,u2,u3,u4,u5,u6,u7,u8,u9,jI,jJ,jK,jL,jM,jN,.map (some gv),.map (some gs),.map (some fT),lv',.map (some fR),.map (some fS),.map (some fU),.map (some gC),rv]),(q1,271,d1),(q2,171,d2)] [⟨lv',74,5,σ'.lg.length,σ'.lg.flatMap dO⟩,⟨rv,226,2,rn,rx⟩] [bU vS dM w0.heap.size gv (V),bU vB dM w0.heap.size gs (T),bU qS dM w0.heap.size fT (σ'.fs),bU vB nB w0.heap.size fR (σ'.fa),bU pZ dM w0.heap.size fS (σ'.fb),bU nG dM w0.heap.size fU (σ'.fh),bU vI dM w0.heap.size gC (fp),gF 68 σ'.fh,bW dW 2 84 w0.heap.size none cA cn cl,TxtO w0.heap.size none,A1,A2] w'):=by
 refine cS ⟨63,w0,none, [68,9,3]⟩ func172 U ntmps172 U hm.cy (bR ?_)
 refine yT (fun (n:{ m:Nat // m<=499 })=>rX fS n.1) (fun w hm=>hfb.len (hm.fact 4 U:bU pZ dM w0.heap.size fS (σ.fb) w)) (fun n=>rX.lasts2) fun nbx=>?_
 obtain ⟨nb,hnb⟩:=nbx
 dsimp only
 obtain ⟨isb,hisb⟩:∃z,z=(σ.fb b0).isSome:=⟨_,rfl⟩
 obtain ⟨ish,bB0⟩:∃z,z=(σ.fh b0).isSome:=⟨_,rfl⟩
 obtain ⟨xb,hxb⟩:∃z,z=(σ.fb b0).getD bk0:=⟨_,rfl⟩
 obtain ⟨xh,hxh⟩:∃z,z=(σ.fh b0).getD vF:=⟨_,rfl⟩
 obtain ⟨c0,c1,c2,c3,c4,c5⟩:=xb
 obtain ⟨h0,h1,h2,h3,hA,hn,hc,hl⟩:=xh
 obtain ⟨CK,hCK⟩:∃z,z=jR cl [(⟨b0,b1,b2,b3,b4,b5⟩:Bk)]:=⟨_,rfl⟩
 obtain ⟨EE,zM⟩:∃z,z=dG [CK,dI (isb||ish) 6,dI (decide (500<=(nb:Int))) 12]:=⟨_,rfl⟩
 refine fG U U U fun g1=>bX U (bQ (bH (gd (fun wz=>Blk wz g1 146 [.string b0,.string b1,.int .i64 b2,.int .i64 b3,.int .i64 b4,.int .i64 b5]/\Blk wz go 119 [u0,.slice cA cn cc,u2,u3,u4,u5,u6,u7,u8,u9,jI,jJ,jK,jL,jM,jN,.map (some gv),.map (some gs),.map (some fT),lv,.map (some fR),.map (some fS),.map (some fU),.map (some gC),rv]/\(bU pZ dM w0.heap.size fS (σ.fb)) wz/\True) mixed (fun _ hm=>⟨hm.bl 0,hm.bl 1,hm.fa 5,trivial⟩) fun z=>wq 0 U (bL U) (wq 1 U (dA U) (wq 2 U (bS bT0 U U) (wq 3 U (cQ cR2 U (fun _ hm=>hm.2.1) U) (wq 4 U (bS bU0 U U) (wq 5 U (cQ fC U (fun _ hm=>hm.1) U) (wq 6 U (gX (enc:=pZ) (ek:=dM) (s:=b0) (e:=146) bk0 jZ (by kernel_rfl) (by kernel_rfl) U U (fun _ hm=>(hm.2.2.1))) (wq 7 U (bL U) (wq 8 U (cP U U) (dH 18 (v':= .agg #[.string c0,.string c1,.int .i64 c2,.int .i64 c3,.int .i64 c4,.int .i64 c5]) U (congrArg pZ hxb.symm) (wq 9 U (cP U U) (dH 19 (v':= .bool isb) U (fU3 hisb.symm) (eG 10 U (dL dV2 U fun g2=>bE (nw 13 2047 (fun _ hm=>⟨hm.bl 1,hm.bl 2,hm.fa 5,trivial⟩) fun z=>eG 11 U (kE (cs':= [.string c0,.string c1,.int .i64 c2,.int .i64 c3,.int .i64 c4,.int .i64 c5]) 0 bC7 U U U U (bE (nw 13 4095 (fun _ hm=>⟨hm.bl 1,hm.bl 2,hm.fa 5,trivial⟩) fun z=>wq 12 U (cV U) (jO (bD (bH (gd (fun wz=>Blk wz g1 146 [.string b0,.string b1,.int .i64 b2,.int .i64 b3,.int .i64 b4,.int .i64 b5]/\Blk wz go 119 [u0,.slice cA cn cc,u2,u3,u4,u5,u6,u7,u8,u9,jI,jJ,jK,jL,jM,jN,.map (some gv),.map (some gs),.map (some fT),lv,.map (some fR),.map (some fS),.map (some fU),.map (some gC),rv]/\(bU nG dM w0.heap.size fU (σ.fh)) wz/\True) mixed (fun _ hm=>⟨hm.bl 1,hm.bl 2,hm.fa 6,trivial⟩) fun z=>?_))))))))))))))))))))))))
 refine wq 0 U (bL U) (wq 1 U (dA U) (wq 2 U (bS qT U U) (wq 3 U (cQ zC U (fun _ hm=>hm.2.1) U) (wq 4 U (bS bU0 U U) (wq 5 U (cQ fC U (fun _ hm=>hm.1) U) (wq 6 U (gX (enc:=nG) (ek:=dM) (s:=b0) (e:=64) vF jZ (by kernel_rfl) (by kernel_rfl) U U (fun _ hm=>(hm.2.2.1))) (wq 7 U (bL U) (wq 8 U (cP U U) (dH 28 (v':= .agg #[.string h0,.string h1,.int .i64 h2,.int .i64 h3,.slice hA hn hc]) U (congrArg nG hxh.symm) (wq 9 U (cP U U) (dH 29 (v':= .bool ish) U (fU3 bB0.symm) (eG 10 U (dL bZ4 U fun g3=>bE (nw 13 2047 (fun _ hm=>⟨hm.bl 2,hm.bl 3,hm.fa 6,trivial⟩) fun z=>eG 11 U (kE (cs':= [.string h0,.string h1,.int .i64 h2,.int .i64 h3,.slice hA hn hc]) 0 nF U U U U (bE (nw 13 4095 (fun _ hm=>⟨hm.bl 2,hm.bl 3,hm.fa 6,trivial⟩) fun z=>wq 12 U (cV U) (jO (bD (bH ?_))))))))))))))))))))
 refine pB (γ:=Int) (I:=(fun (E:Int)=>E=EE)) (S':=(fun (E:Int)=> [(0,.pointer (some ⟨go,0,none⟩)),(3,.pointer (some ⟨g1,0,none⟩)),(4,.int .i64 0),(9,.int .i64 E)])) (K':=(fun (E:Int)=>fun _=>True)) (L':=(fun (E:Int)=> [(g3,64, [.string h0,.string h1,.int .i64 h2,.int .i64 h3,.slice hA hn hc]),(g2,146, [.string c0,.string c1,.int .i64 c2,.int .i64 c3,.int .i64 c4,.int .i64 c5]),(g1,146, [.string b0,.string b1,.int .i64 b2,.int .i64 b3,.int .i64 b4,.int .i64 b5]),(go,119, [u0,.slice cA cn cc,u2,u3,u4,u5,u6,u7,u8,u9,jI,jJ,jK,jL,jM,jN,.map (some gv),.map (some gs),.map (some fT),lv,.map (some fR),.map (some fS),.map (some fU),.map (some gC),rv]),(q1,271,d1),(q2,171,d2)])) (O':=(fun (E:Int)=> [⟨lv,74,5,σ.lg.length,σ.lg.flatMap dO⟩,⟨rv,226,2,rn,rx⟩])) (X':=(fun (E:Int)=> [rX fS nb,bU vS dM w0.heap.size gv (V),bU vB dM w0.heap.size gs (T),bU qS dM w0.heap.size fT (σ.fs),bU vB nB w0.heap.size fR (σ.fa),bU pZ dM w0.heap.size fS (σ.fb),bU nG dM w0.heap.size fU (σ.fh),bU vI dM w0.heap.size gC (fp),gF 68 σ.fh,bW dW 2 84 w0.heap.size none cA cn cl,TxtO w0.heap.size none,A1,A2])) ?_ ?_
 ·refine gd (fun wz=>Blk wz g1 146 [.string b0,.string b1,.int .i64 b2,.int .i64 b3,.int .i64 b4,.int .i64 b5]/\Blk wz go 119 [u0,.slice cA cn cc,u2,u3,u4,u5,u6,u7,u8,u9,jI,jJ,jK,jL,jM,jN,.map (some gv),.map (some gs),.map (some fT),lv,.map (some fR),.map (some fS),.map (some fU),.map (some gC),rv]/\(rX fS nb) wz/\True) mixed (fun _ hm=>⟨hm.bl 2,hm.bl 3,hm.fa 0,trivial⟩) fun z=>?_
  refine wq 0 U (bL U) (wq 1 U (dA U) (wq 2 U (bS eJ1 U U) (wq 3 U (bS bN5 U U) (wq 4 U (bS cZ3 U U) (wq 5 U (cQ eP2 U (fun _ hm=>hm.2.1) U) (wq 6 U (cU bC7 U (fun _ hm=>hm.1) U U) (wq 9 U (bL U) (wq 14 U (bL U) (wq 15 U (dA U) (wq 16 U (bS bT0 U U) (wq 17 U (cQ cR2 U (fun _ hm=>hm.2.1) U) (eG 7 U (jE 146 [.string b0,.string b1,.int .i64 b2,.int .i64 b3,.int .i64 b4,.int .i64 b5] fun g4=>bE (nw 24 246527 (fun _ hm=>⟨hm.bl 3,hm.bl 4,hm.fa 0,trivial⟩) fun z=>eG 8 U (cH (v:= .int .i64 CK) U fK2 U U (fun wx hm=>(by rw [hCK];exact cL8 cl cA cn cc [⟨b0,b1,b2,b3,b4,b5⟩] _ 1 1 wx (hm.fact 9 rfl).1 hco hcn (SlT.ofBlk (l:= [⟨b0,b1,b2,b3,b4,b5⟩]) eV4 (hm.blkI 0 rfl)) (fun _ h=>List.mem_singleton.1 h ▸ hok) (by decide))) (bE (nw 24 246783 (fun _ hm=>⟨hm.bl 3,hm.bl 4,hm.fa 0,trivial⟩) fun z=>wq 10 U (bL U) ?_)))))))))))))))))
  rcases Bool.eq_false_or_eq_true isb with hb5|hb5
  ·refine dH 40 U (fU3 hb5) ?_
   refine fD 11 U (wq 12 U (fE U U) (eG 13 U (cZ U qN U U (fun wx hm=>(eH _ _ wx)) (bE (nw 24 262143 (fun _ hm=>⟨hm.bl 3,hm.bl 4,hm.fa 0,trivial⟩) fun z=>wq 18 U (bE1 (k:=9) (e:=146) (n:=nb) (by kernel_rfl) U (fun _ hm=>(hm.2.2.1))) (wq 19 U (mG U U) (eG 20 U (cZ U qN U U (fun wx hm=>(eH _ _ wx)) (bE (nw 24 2097151 (fun _ hm=>⟨hm.bl 3,hm.bl 4,hm.fa 0,trivial⟩) fun z=>eG 21 U (jE 48 [.int .i64 CK,.int .i64 (dI true 6),.int .i64 (dI (decide (500<=((nb:Nat):Int))) 12)] fun g6=>bE (nw 24 4194303 (fun _ hm=>⟨hm.bl 4,hm.bl 5,hm.fa 0,trivial⟩) fun z=>eG 22 U (cZ U wH U U (fun wx hm=>(fN [CK,dI true 6,dI (decide (500<=((nb:Nat):Int))) 12] _ _ _ wx (hm.blkI 0 U) (by simp))) (bE (nw 24 8388607 (fun _ hm=>⟨hm.bl 4,hm.bl 5,hm.fa 0,trivial⟩) fun z=>wq 23 U (cV U) (jO ?_))))))))))))))))
   exact fK (dG [CK,dI true 6,dI (decide (500<=((nb:Nat):Int))) 12]) (by rw [zM,hb5];rfl) ⟨U,U,U,U,trivial⟩ (fun _ hm=>hm.pick [2,3,4,5,6,7] [0,1] [0,1,2,3,4,5,6,7,8,9,10,11,12] U U)
  refine dH 40 U (fU3 hb5) (fI 11 U (bL U) (wq 12 U (fO U U) (eG 13 U (cZ U qN U U (fun wx hm=>(eH _ _ wx)) (bE (nw 24 262143 (fun _ hm=>⟨hm.bl 3,hm.bl 4,hm.fa 0,trivial⟩) fun z=>wq 18 U (bE1 (k:=9) (e:=146) (n:=nb) (by kernel_rfl) U (fun _ hm=>(hm.2.2.1))) (wq 19 U (mG U U) (eG 20 U (cZ U qN U U (fun wx hm=>(eH _ _ wx)) (bE (nw 24 2097151 (fun _ hm=>⟨hm.bl 3,hm.bl 4,hm.fa 0,trivial⟩) fun z=>eG 21 U (jE 48 [.int .i64 CK,.int .i64 (dI ish 6),.int .i64 (dI (decide (500<=((nb:Nat):Int))) 12)] fun g7=>bE (nw 24 4194303 (fun _ hm=>⟨hm.bl 4,hm.bl 5,hm.fa 0,trivial⟩) fun z=>eG 22 U (cZ U wH U U (fun wx hm=>(fN [CK,dI ish 6,dI (decide (500<=((nb:Nat):Int))) 12] _ _ _ wx (hm.blkI 0 U) (by simp))) (bE (nw 24 8388607 (fun _ hm=>⟨hm.bl 4,hm.bl 5,hm.fa 0,trivial⟩) fun z=>wq 23 U (cV U) (jO ?_)))))))))))))))))
  exact fK (dG [CK,dI ish 6,dI (decide (500<=((nb:Nat):Int))) 12]) (by rw [zM,hb5];rfl) ⟨U,U,U,U,trivial⟩ (fun _ hm=>hm.pick [2,3,4,5,6,7] [0,1] [0,1,2,3,4,5,6,7,8,9,10,11,12] U U)
 intro E cB
 replace cB:E=EE:=cB
 refine bR ?_
 subst cB
 refine bP U (bB (gS U U) U (bQ ?_))
 refine gI U (fun hz=>?_) (fun hz=>?_)
 ·refine bR (bP U (bX U (bQ ?_)))
  refine bM (bA ?_)
  have hzx:E≠0:=by simpa using hz
  have hsm:fZ σ=cF5 cl (fZ σ) ⟨b0,b1,b2,b3,b4,b5⟩:=(pM fun ⟨q1,q2,q3⟩=>hzx (by
   rw [cC3] at q3
   rw [zM,hCK.trans q1,hisb.trans q2,bB0.trans q3,decide_eq_false (by omega)];rfl)).symm
  refine bJ U U fun wx hm=>?_
  refine ⟨lv,σ,_,U,⟨.same σ,hsm⟩,?_⟩
  exact (hm.pick [3,4,5] [0,1] [1,2,3,4,5,6,7,8,9,10,11,12] U U).cy
 refine bN (bD (bH ?_))
 have hE0:E=0:=by simpa using hz
 rw [zM] at hE0
 obtain ⟨z1,z2,_⟩:=cX5 hE0
 have z3:=rD (by decide) z2
 have z4:isb=false/\ish=false:=by simpa using z3
 have z5:(σ.fb b0).isSome=false:=hisb.symm.trans z4.1
 have z6:(σ.fh b0).isSome=false:=bB0.symm.trans z4.2
 obtain ⟨τ,hτ⟩:∃z,z=({ σ with fb:=fQ σ.fb b0 ⟨b0,b1,b2,b3,b4,b5⟩ }:Os):=⟨_,rfl⟩
 have e1:τ.fb=fQ σ.fb b0 ⟨b0,b1,b2,b3,b4,b5⟩:=by rw [hτ]
 have e2:τ.fs=σ.fs:=by rw [hτ]
 have e3:τ.fa=σ.fa:=by rw [hτ]
 have e4:τ.fh=σ.fh:=by rw [hτ]
 have e5:τ.lg=σ.lg:=by rw [hτ]
 have hst:kR V T (fun b=>jR cl [b]=0) at_ σ τ:=hτ ▸ .book σ ⟨b0,b1,b2,b3,b4,b5⟩ hok (hCK.symm.trans z1) z5 z6
 have hab:fZ τ=cF5 cl (fZ σ) ⟨b0,b1,b2,b3,b4,b5⟩:=by rw [hτ];exact (xZ ⟨hCK.symm.trans z1,z5,by rw [cC3];exact z6⟩).symm
 refine gd (fun wz=>Blk wz g1 146 [.string b0,.string b1,.int .i64 b2,.int .i64 b3,.int .i64 b4,.int .i64 b5]/\Blk wz go 119 [u0,.slice cA cn cc,u2,u3,u4,u5,u6,u7,u8,u9,jI,jJ,jK,jL,jM,jN,.map (some gv),.map (some gs),.map (some fT),lv,.map (some fR),.map (some fS),.map (some fU),.map (some gC),rv]/\True) mixed (fun _ hm=>⟨hm.bl 2,hm.bl 3,trivial⟩) fun z=>wq 0 U (bL U) (wq 1 U (dA U) (wq 2 U (bS bT0 U U) (wq 3 U (cQ cR2 U (fun _ hm=>hm.2.1) U) (wq 4 U (bS bU0 U U) (wq 5 U (cQ fC U (fun _ hm=>hm.1) U) (wq 6 U (cU bC7 U (fun _ hm=>hm.1) U U) (eG 7 U (kO (enc:=pZ) (ek:=dM) (s:=b0) (v:=⟨b0,b1,b2,b3,b4,b5⟩) (e:=146) (X':= [bU vS dM w0.heap.size gv (V),bU vB dM w0.heap.size gs (T),bU qS dM w0.heap.size fT (σ.fs),bU vB nB w0.heap.size fR (σ.fa),bU nG dM w0.heap.size fU (σ.fh),bU vI dM w0.heap.size gC (fp),gF 68 σ.fh,bW dW 2 84 w0.heap.size none cA cn cl,TxtO w0.heap.size none,A1,A2]) 5 jZ (by kernel_rfl) U U U U (cL (i:=1) (bU.farK (gR hd (i:=0) (j:=4) U U (by decide))) U (cL (i:=2) (bU.farK (gR hd (i:=1) (j:=4) U U (by decide))) U (cL (i:=3) (bU.farK (gR hd (i:=2) (j:=4) U U (by decide))) U (cL (i:=4) (bU.farK (gR hd (i:=3) (j:=4) U U (by decide))) U (cL (i:=6) (bU.farK (gR hd (i:=5) (j:=4) U U (by decide))) U (cL (i:=7) (bU.farK (gR hd (i:=6) (j:=4) U U (by decide))) U (cL (i:=8) (gF.mfar).far U (cL (i:=9) (bW.mfar).far U (cL (i:=10) (TxtO.mfar).far U (cL (i:=11) (hA1).far U (cL (i:=12) (hA2).far U gB))))))))))) (bE (nw 8 255 (fun _ hm=>⟨hm.bl 2,hm.bl 3,trivial⟩) fun z=>jO (bD (bR (bX U (bQ (bM ?_)))))))))))))))
 refine bJ U U fun wx hm=>?_
 refine ⟨lv,τ,0,U,⟨hst,hab⟩,?_⟩
 rw [e1,e2,e3,e4,e5]
 exact (hm.pick [3,4,5] [0,1] [1,2,3,4,0,5,6,7,8,9,10,11] U U).cy
theorem eK2 (w0:World) (u0 u2 u3 u4 u5 u6 u7 u8 u9 jI jJ jK jL jM jN:Value) (go gv gs fT fR fS fU gC:Nat) (cA:Option Addr) (cn cc:Nat) (cl:List Cs) (V:ByteArray->Option ByteArray) (T:ByteArray->Option Bool) (rv:Value) (rn:Nat) (rx:List Value) (hd: [gv,gs,fT,fR,fS,fU,gC].Nodup) (q1 q2:Nat) (d1 d2:List Value) (A1 A2:World->Prop) (hA1:bK2 A1) (hA2:bK2 A2) (fp:ByteArray->Option Int) (σ:Os) (lv:Value) (k:ByteArray) (n:Int) (w:World) (hnb: -1000000000<=n/\n<=1000000000) (hpo:zN fp) (hm:gV ⟨0,w0,none, [68,9,3]⟩ (fun _=>True) [(go,119, [u0,.slice cA cn cc,u2,u3,u4,u5,u6,u7,u8,u9,jI,jJ,jK,jL,jM,jN,.map (some gv),.map (some gs),.map (some fT),lv,.map (some fR),.map (some fS),.map (some fU),.map (some gC),rv]),(q1,271,d1),(q2,171,d2)] [⟨lv,74,5,σ.lg.length,σ.lg.flatMap dO⟩,⟨rv,226,2,rn,rx⟩] [bU vS dM w0.heap.size gv (V),bU vB dM w0.heap.size gs (T),bU qS dM w0.heap.size fT (σ.fs),bU vB nB w0.heap.size fR (σ.fa),bU pZ dM w0.heap.size fS (σ.fb),bU nG dM w0.heap.size fU (σ.fh),bU vI dM w0.heap.size gC (fp),gF 68 σ.fh,bW dW 2 84 w0.heap.size none cA cn cl,TxtO w0.heap.size none,A1,A2] w):
 Calls prog 174 #[.pointer (some ⟨go,0,none⟩),.string k,.int .i64 n] w (fun e w'=>∃fp' E,e=.returned (.int .i64 E)/\zN fp'/\gV ⟨0,w0,none, [68,9,3]⟩ (fun _=>True) [(go,119, [u0,.slice cA cn cc,u2,u3,u4,u5,u6,u7,u8,u9,jI,jJ,jK,jL,jM,jN,.map (some gv),.map (some gs),.map (some fT),lv,.map (some fR),.map (some fS),.map (some fU),.map (some gC),rv]),(q1,271,d1),(q2,171,d2)] [⟨lv,74,5,σ.lg.length,σ.lg.flatMap dO⟩,⟨rv,226,2,rn,rx⟩] [bU vS dM w0.heap.size gv (V),bU vB dM w0.heap.size gs (T),bU qS dM w0.heap.size fT (σ.fs),bU vB nB w0.heap.size fR (σ.fa),bU pZ dM w0.heap.size fS (σ.fb),bU nG dM w0.heap.size fU (σ.fh),bU vI dM w0.heap.size gC (fp'),gF 68 σ.fh,bW dW 2 84 w0.heap.size none cA cn cl,TxtO w0.heap.size none,A1,A2] w'):=by
 refine cS ⟨49,w0,none, [68,9,3]⟩ func174 U ntmps174 U hm.cy (bR ?_)
 obtain ⟨ish,bB0⟩:∃z,z=(σ.fh k).isSome:=⟨_,rfl⟩
 obtain ⟨xh,hxh⟩:∃z,z=(σ.fh k).getD vF:=⟨_,rfl⟩
 obtain ⟨h0,h1,h2,h3,hA,hn,hc,hl⟩:=xh
 obtain ⟨pd,hpd⟩:∃z,z=(fp k).getD 0:=⟨_,rfl⟩
 have hpb:0<=pd/\pd<=1000000000:=by
  cases hf:fp k with
  |none=>rw [hpd,hf];decide
  |some v=>rw [hpd,hf];exact hpo k v hf
 obtain ⟨EE,zM⟩:∃z,z=dG [dI (!ish) 8,dI (!inB n 0 1000000000) 1,dI (decide (1000000000 < pd+n)) 2]:=⟨_,rfl⟩
 refine bX U (bQ (bR (bP U (bB (dA U) U (dY qT U U (eJ zC 0 U U U (bP U (bB (gX (enc:=nG) (ek:=dM) (s:=k) (e:=64) vF jZ (by kernel_rfl) (by kernel_rfl) U U (fun _ hm=>(hm.fact 5 U))) U (bP U (bB (cP U U) U (bK 17 (v':= .agg #[.string h0,.string h1,.int .i64 h2,.int .i64 h3,.slice hA hn hc]) U (congrArg nG hxh.symm) (bB (cP U U) U (bK 18 (v':= .bool ish) U (fU3 bB0.symm) (dL bZ4 U fun g1=>kE (cs':= [.string h0,.string h1,.int .i64 h2,.int .i64 h3,.slice hA hn hc]) 0 nF U U U U (bX U (bQ (bH ?_)))))))))))))))))
 refine pB (γ:=Int) (I:=(fun (E:Int)=>E=EE)) (S':=(fun (E:Int)=> [(0,.pointer (some ⟨go,0,none⟩)),(1,.string k),(2,.int .i64 n),(6,.int .i64 0),(9,.int .i64 E)])) (K':=(fun (E:Int)=>fun _=>True)) (L':=(fun (E:Int)=> [(g1,64, [.string h0,.string h1,.int .i64 h2,.int .i64 h3,.slice hA hn hc]),(go,119, [u0,.slice cA cn cc,u2,u3,u4,u5,u6,u7,u8,u9,jI,jJ,jK,jL,jM,jN,.map (some gv),.map (some gs),.map (some fT),lv,.map (some fR),.map (some fS),.map (some fU),.map (some gC),rv]),(q1,271,d1),(q2,171,d2)])) (O':=(fun (E:Int)=> [⟨lv,74,5,σ.lg.length,σ.lg.flatMap dO⟩,⟨rv,226,2,rn,rx⟩])) (X':=(fun (E:Int)=> [bU vS dM w0.heap.size gv (V),bU vB dM w0.heap.size gs (T),bU qS dM w0.heap.size fT (σ.fs),bU vB nB w0.heap.size fR (σ.fa),bU pZ dM w0.heap.size fS (σ.fb),bU nG dM w0.heap.size fU (σ.fh),bU vI dM w0.heap.size gC (fp),gF 68 σ.fh,bW dW 2 84 w0.heap.size none cA cn cl,TxtO w0.heap.size none,A1,A2])) ?_ ?_
 ·refine gd (fun wz=>Blk wz go 119 [u0,.slice cA cn cc,u2,u3,u4,u5,u6,u7,u8,u9,jI,jJ,jK,jL,jM,jN,.map (some gv),.map (some gs),.map (some fT),lv,.map (some fR),.map (some fS),.map (some fU),.map (some gC),rv]/\(bU vI dM w0.heap.size gC (fp)) wz/\True) mixed (fun _ hm=>⟨hm.bl 1,hm.fa 6,trivial⟩) fun z=>?_
  refine wq 0 U (bL U) (wq 1 U (cE U) (wq 3 U (bL U) (wq 7 U (bL U) (wq 8 U (dA U) (wq 9 U (bS dJ1 U U) (wq 10 U (cQ eK4 U (fun _ hm=>hm.1) U) (wq 11 U (bL U) (wq 12 U (kT (enc:=vI) (ek:=dM) (s:=k) (e:=3) (0:Int) jZ (by kernel_rfl) (by kernel_rfl) U U (fun _ hm=>(hm.2.1))) (dH 31 (v':= .int .i64 pd) U (congrArg vI hpd.symm) (wq 13 U (bL U) (wq 14 U (ov_add U U (by omega) (by omega)) (wq 15 U (eK U U) (eG 2 U (cZ U qN U U (fun wx hm=>(eH _ _ wx)) (bE (nw 20 65423 (fun _ hm=>⟨hm.bl 1,hm.fa 6,trivial⟩) fun z=>eG 4 U (cZ U qA U U (fun wx hm=>(in_any _ _ _ wx)) (bE (nw 20 65439 (fun _ hm=>⟨hm.bl 1,hm.fa 6,trivial⟩) fun z=>wq 5 U (cE U) (eG 6 U (cZ U qN U U (fun wx hm=>(eH _ _ wx)) (bE (nw 20 65535 (fun _ hm=>⟨hm.bl 1,hm.fa 6,trivial⟩) fun z=>eG 16 U (cZ U qN U U (fun wx hm=>(eH _ _ wx)) (bE (nw 20 131071 (fun _ hm=>⟨hm.bl 1,hm.fa 6,trivial⟩) fun z=>?_))))))))))))))))))))))))))
  refine eG 17 U (jE 48 [.int .i64 (dI (!ish) 8),.int .i64 (dI (!(inB n 0 1000000000)) 1),.int .i64 (dI (decide (1000000000 < pd+n)) 2)] fun g2=>bE (nw 20 262143 (fun _ hm=>⟨hm.bl 2,hm.fa 6,trivial⟩) fun z=>eG 18 U (cZ U wH U U (fun wx hm=>(fN [dI (!ish) 8,dI (!(inB n 0 1000000000)) 1,dI (decide (1000000000 < pd+n)) 2] _ _ _ wx (hm.blkI 0 U) (by simp))) (bE (nw 20 524287 (fun _ hm=>⟨hm.bl 2,hm.fa 6,trivial⟩) fun z=>wq 19 U (cV U) (jO ?_))))))
  exact fK (dG [dI (!ish) 8,dI (!(inB n 0 1000000000)) 1,dI (decide (1000000000 < pd+n)) 2]) (by rw [zM]) ⟨U,U,U,U,U,trivial⟩ (fun _ hm=>hm.pick [1,2,3,4] [0,1] [0,1,2,3,4,5,6,7,8,9,10,11] U U)
 intro E cB
 replace cB:E=EE:=cB
 refine bR ?_
 subst cB
 refine bP U (bB (gS U U) U (bQ ?_))
 refine gI U (fun hz=>?_) (fun hz=>?_)
 ·refine bR (bP U (bX U (bQ ?_)))
  refine bM (bA ?_)
  refine bJ U U fun wx hm=>?_
  refine ⟨fp,_,U,hpo,?_⟩
  exact (hm.pick [1,2,3] [0,1] [0,1,2,3,4,5,6,7,8,9,10,11] U U).cy
 refine bN (bD (bR ?_))
 have hE0:E=0:=by simpa using hz
 rw [zM] at hE0
 obtain ⟨_,z2,z3⟩:=cX5 hE0
 have z4:=rD (by decide) z2
 have z5:=rD (by decide) z3
 have z6:0<=n/\n<=1000000000:=pC.1 (by simpa using z4)
 have z7:pd+n<=1000000000:=by have:=of_decide_eq_false z5;omega
 have hpn:zN (fQ fp k (pd+n)):=fun j v hj=>by
  rcases eM hj with ⟨_,rfl⟩|h
  ·omega
  exact hpo j v h
 refine bP U (bB (dA U) U (dY dJ1 U U (eJ eK4 1 U U U (bP U (bB (kT (enc:=vI) (ek:=dM) (s:=k) (e:=3) (0:Int) jZ (by kernel_rfl) (by kernel_rfl) U U (fun _ hm=>(hm.fact 6 U))) U (bK 46 (v':= .int .i64 pd) U (congrArg vI hpd.symm) (bP U (gO U U (kO (enc:=vI) (ek:=dM) (s:=k) (v:=pd+n) (e:=3) (X':= [bU vS dM w0.heap.size gv (V),bU vB dM w0.heap.size gs (T),bU qS dM w0.heap.size fT (σ.fs),bU vB nB w0.heap.size fR (σ.fa),bU pZ dM w0.heap.size fS (σ.fb),bU nG dM w0.heap.size fU (σ.fh),gF 68 σ.fh,bW dW 2 84 w0.heap.size none cA cn cl,TxtO w0.heap.size none,A1,A2]) 6 jZ (by kernel_rfl) U U U U (cL (i:=0) (bU.farK (gR hd (i:=0) (j:=6) U U (by decide))) U (cL (i:=1) (bU.farK (gR hd (i:=1) (j:=6) U U (by decide))) U (cL (i:=2) (bU.farK (gR hd (i:=2) (j:=6) U U (by decide))) U (cL (i:=3) (bU.farK (gR hd (i:=3) (j:=6) U U (by decide))) U (cL (i:=4) (bU.farK (gR hd (i:=4) (j:=6) U U (by decide))) U (cL (i:=5) (bU.farK (gR hd (i:=5) (j:=6) U U (by decide))) U (cL (i:=7) (gF.mfar).far U (cL (i:=8) (bW.mfar).far U (cL (i:=9) (TxtO.mfar).far U (cL (i:=10) (hA1).far U (cL (i:=11) (hA2).far U gB))))))))))) (bQ (bR (bX U (bQ (bM ?_))))))))))))))
 refine bJ U U fun wx hm=>?_
 refine ⟨fQ fp k (pd+n),0,U,hpn,?_⟩
 exact (hm.pick [1,2,3] [0,1] [1,2,3,4,5,6,0,7,8,9,10,11] U U).cy
theorem dW1 {A:World->Prop} (h:bK2 A):∀B∈ [A],bK2 B:=fun _ hB=>List.mem_singleton.1 hB ▸ h
theorem dD7 {a b c d:Int} (h:dG [a,b,c,d]=0):a=0/\b=0/\c=0/\d=0:=
 ⟨Classical.byContradiction fun hc=>hc (qY h a (by simp)),Classical.byContradiction fun hc=>hc (qY h b (by simp)),Classical.byContradiction fun hc=>hc (qY h c (by simp)),Classical.byContradiction fun hc=>hc (qY h d (by simp))⟩
theorem dH0 (w0:World) (u0 u2 u3 u4 u5 u6 u7 u8 u9 jI jJ jK jL jM jN:Value) (go gv gs fT fR fS fU gC:Nat) (cA:Option Addr) (cn cc:Nat) (cl:List Cs) (V:ByteArray->Option ByteArray) (T:ByteArray->Option Bool) (rv:Value) (rn:Nat) (rx:List Value) (hd: [gv,gs,fT,fR,fS,fU,gC].Nodup) (ck:Bk->Prop) (fp:ByteArray->Option Int) (σ:Os) (lv:Value) (at_:Int) (wd k d v st:ByteArray) (n0 n1 n2:Int) (tA nA:Option Addr) (tc nc:Nat) (w:World) (hk:k.size<=1000000) (hdz:d.size<=1000000) (hv:v.size<=1000000) (hs:st.size<=1000000) (hlg:σ.lg.length<=100000) (hfh:Few σ.fh 499) (ht:SlT fH 1 9 w tA 4 [k,d,v,st]) (hn:SlT kN 1 3 w nA 3 [n0,n1,n2]) (hm:gV ⟨0,w0,none, [68,9,3]⟩ (fun _=>True) [(go,119, [u0,.slice cA cn cc,u2,u3,u4,u5,u6,u7,u8,u9,jI,jJ,jK,jL,jM,jN,.map (some gv),.map (some gs),.map (some fT),lv,.map (some fR),.map (some fS),.map (some fU),.map (some gC),rv])] [⟨lv,74,5,σ.lg.length,σ.lg.flatMap dO⟩,⟨rv,226,2,rn,rx⟩] [bU vS dM w0.heap.size gv (V),bU vB dM w0.heap.size gs (T),bU qS dM w0.heap.size fT (σ.fs),bU vB nB w0.heap.size fR (σ.fa),bU pZ dM w0.heap.size fS (σ.fb),bU nG dM w0.heap.size fU (σ.fh),bU vI dM w0.heap.size gC (fp),gF 68 σ.fh,bW dW 2 84 w0.heap.size none cA cn cl,TxtO w0.heap.size none,fun wy=>SlT fH 1 9 wy tA 4 [k,d,v,st],fun wy=>SlT kN 1 3 wy nA 3 [n0,n1,n2]] w):
 Calls prog 173 #[.pointer (some ⟨go,0,none⟩),.int .i64 at_,.agg #[.string wd,.slice tA 4 tc,.slice nA 3 nc]] w (fun e w'=>∃lv' σ' E,e=.returned (.int .i64 E)/\(kR V T ck at_ σ σ'/\fZ σ'=bJ6 V T at_ (fZ σ) k d v st n0 n1 n2)/\gV ⟨0,w0,none, [68,9,3]⟩ (fun _=>True) [(go,119, [u0,.slice cA cn cc,u2,u3,u4,u5,u6,u7,u8,u9,jI,jJ,jK,jL,jM,jN,.map (some gv),.map (some gs),.map (some fT),lv',.map (some fR),.map (some fS),.map (some fU),.map (some gC),rv])] [⟨lv',74,5,σ'.lg.length,σ'.lg.flatMap dO⟩,⟨rv,226,2,rn,rx⟩] [bU vS dM w0.heap.size gv (V),bU vB dM w0.heap.size gs (T),bU qS dM w0.heap.size fT (σ'.fs),bU vB nB w0.heap.size fR (σ'.fa),bU pZ dM w0.heap.size fS (σ'.fb),bU nG dM w0.heap.size fU (σ'.fh),bU vI dM w0.heap.size gC (fp),gF 68 σ'.fh,bW dW 2 84 w0.heap.size none cA cn cl,TxtO w0.heap.size none] w'):=by
 refine cS ⟨127,w0,none, [68,9,3]⟩ func173 U ntmps173 U hm.cy (bR ?_)
 refine yT (fun (n:{ m:Nat // m<=499 })=>rX fU n.1) (fun w hm=>hfh.len (hm.fact 5 U:bU nG dM w0.heap.size fU (σ.fh) w)) (fun n=>rX.lasts2) fun mbx=>?_
 obtain ⟨mb,hmb⟩:=mbx
 dsimp only
 obtain ⟨tb,rU,htA,_,_⟩:=ht.get (by decide)
 subst htA
 obtain ⟨nb,xG,hnA,_,_⟩:=hn.get (by decide)
 subst hnA
 obtain ⟨twi,htwi⟩:∃z,z=(σ.fh k).isSome:=⟨_,rfl⟩
 obtain ⟨xh,hxh⟩:∃z,z=(σ.fh k).getD vF:=⟨_,rfl⟩
 obtain ⟨h0,h1,h2,h3,hA,uQ,hc,hl⟩:=xh
 obtain ⟨iv,hiv⟩:∃z,z=(V v).isSome:=⟨_,rfl⟩
 obtain ⟨vc,hvc⟩:∃z,z=(V v).getD (⟨#[]⟩:ByteArray):=⟨_,rfl⟩
 obtain ⟨ist,bX1⟩:∃z,z=(T st).getD false:=⟨_,rfl⟩
 obtain ⟨HE,hHE⟩:∃z,z=hireE (⟨k,d,at_,n0, [startLeg v (⟨at_,st,n1,n2⟩:Rd)]⟩:Hr):=⟨_,rfl⟩
 obtain ⟨xq,hxq⟩:∃z,z=bS2 HE (⟨k,d,at_,n0, [startLeg v (⟨at_,st,n1,n2⟩:Rd)]⟩:Hr):=⟨_,rfl⟩
 obtain ⟨k5,d5,f5,t5,l5⟩:=xq
 obtain ⟨CE,hCE⟩:∃z,z=cH3 σ (gL at_ v st):=⟨_,rfl⟩
 refine fG U U U fun g1=>bX U (bQ (bH (gd (fun wz=>Blk wz g1 271 [.string wd,.slice (some ⟨tb,rU,none⟩) 4 tc,.slice (some ⟨nb,xG,none⟩) 3 nc]/\(fun wy=>SlT fH 1 9 wy (some ⟨tb,rU,none⟩) 4 [k,d,v,st]) wz/\True) mixed (fun _ hm=>⟨hm.bl 0,hm.fa 11,trivial⟩) fun z=>wq 0 U (bS kL U U) (wq 1 U (cQ qH U (fun _ hm=>hm.1) U) (wq 2 U (bV (j:=0) jX U U (by omega)) (wq 3 U (dK (k:=0) (v:= .string k) fC U (fun _ hm=>(hm.2.1)) (U: [k,d,v,st][0]?=some k) U U) (wq 4 U (bS kL U U) (wq 5 U (cQ qH U (fun _ hm=>hm.1) U) (wq 6 U (bV (j:=1) jX U U (by omega)) (wq 7 U (dK (k:=0) (v:= .string d) fC U (fun _ hm=>(hm.2.1)) (U: [k,d,v,st][1]?=some d) U U) (wq 8 U (bS kL U U) (wq 9 U (cQ qH U (fun _ hm=>hm.1) U) (wq 10 U (bV (j:=2) jX U U (by omega)) (wq 11 U (dK (k:=0) (v:= .string v) fC U (fun _ hm=>(hm.2.1)) (U: [k,d,v,st][2]?=some v) U U) (wq 12 U (bS kL U U) (wq 13 U (cQ qH U (fun _ hm=>hm.1) U) (wq 14 U (bV (j:=3) jX U U (by omega)) (wq 15 U (dK (k:=0) (v:= .string st) fC U (fun _ hm=>(hm.2.1)) (U: [k,d,v,st][3]?=some st) U U) (wq 16 U (cV U) (wq 17 U (cV U) (wq 18 U (cV U) (wq 19 U (cV U) (jO (bD ?_))))))))))))))))))))))))
 refine pB (γ:=Nat×Option Addr×Nat×Nat) (I:=(fun g=>l5.length=g.2.2.1)) (S':=(fun g=> [(0,.pointer (some ⟨go,0,none⟩)),(1,.int .i64 at_),(6,.int .i64 0),(7,.string k),(9,.string v),(10,.string st),(11,.pointer (some ⟨g.1,0,none⟩)),(12,.int .i64 HE)])) (K':=(fun g=>fun _=>True)) (L':=(fun g=> [(g.1,64, [.string k5,.string d5,.int .i64 f5,.int .i64 t5,.slice g.2.1 g.2.2.1 g.2.2.2]),(go,119, [u0,.slice cA cn cc,u2,u3,u4,u5,u6,u7,u8,u9,jI,jJ,jK,jL,jM,jN,.map (some gv),.map (some gs),.map (some fT),lv,.map (some fR),.map (some fS),.map (some fU),.map (some gC),rv])])) (O':=(fun g=> [⟨lv,74,5,σ.lg.length,σ.lg.flatMap dO⟩,⟨rv,226,2,rn,rx⟩])) (X':=(fun g=> [fun wy=>SlT lgEnc 9 68 wy g.2.1 g.2.2.1 l5,rX fU mb,bU vS dM w0.heap.size gv (V),bU vB dM w0.heap.size gs (T),bU qS dM w0.heap.size fT (σ.fs),bU vB nB w0.heap.size fR (σ.fa),bU pZ dM w0.heap.size fS (σ.fb),bU nG dM w0.heap.size fU (σ.fh),bU vI dM w0.heap.size gC (fp),gF 68 σ.fh,bW dW 2 84 w0.heap.size none cA cn cl,TxtO w0.heap.size none,fun wy=>SlT fH 1 9 wy (some ⟨tb,rU,none⟩) 4 [k,d,v,st],fun wy=>SlT kN 1 3 wy (some ⟨nb,xG,none⟩) 3 [n0,n1,n2]])) ?_ ?_
 ·refine gd (fun wz=>Blk wz g1 271 [.string wd,.slice (some ⟨tb,rU,none⟩) 4 tc,.slice (some ⟨nb,xG,none⟩) 3 nc]/\(fun wy=>SlT kN 1 3 wy (some ⟨nb,xG,none⟩) 3 [n0,n1,n2]) wz/\True) mixed (fun _ hm=>⟨hm.bl 0,hm.fa 12,trivial⟩) fun z=>?_
  refine wq 0 U (bL U) (wq 1 U (bL U) (wq 2 U (bL U) (wq 3 U (bS nI U U) (wq 4 U (cQ kZ U (fun _ hm=>hm.1) U) (wq 5 U (bV (j:=0) pD U U (by omega)) (wq 6 U (dK (k:=0) (v:= .int .i64 n0) fP U (fun _ hm=>(hm.2.1)) (U: [n0,n1,n2][0]?=some n0) U U) (wq 7 U (dJ (cs:= [.int .i64 at_,.int .i64 n0]) U (by kernel_rfl)) (wq 8 U (bL U) (wq 9 U (bL U) (wq 10 U (bL U) (wq 11 U (bS nI U U) (wq 12 U (cQ kZ U (fun _ hm=>hm.1) U) (wq 13 U (bV (j:=1) pD U U (by omega)) (wq 14 U (dK (k:=0) (v:= .int .i64 n1) fP U (fun _ hm=>(hm.2.1)) (U: [n0,n1,n2][1]?=some n1) U U) (wq 15 U (bS nI U U) (wq 16 U (cQ kZ U (fun _ hm=>hm.1) U) (wq 17 U (bV (j:=2) pD U U (by omega)) (wq 18 U (dK (k:=0) (v:= .int .i64 n2) fP U (fun _ hm=>(hm.2.1)) (U: [n0,n1,n2][2]?=some n2) U U) (wq 19 U (dJ (cs:= [.int .i64 at_,.string st,.int .i64 n1,.int .i64 n2]) U (by kernel_rfl)) ?_)))))))))))))))))))
  refine kK [20,24] (by kernel_rfl) U ⟨⟨_,U,?_⟩,⟨_,U,?_⟩,trivial⟩
  ·refine gY (γ:=Option Addr×Nat×Nat) (val:=(fun g=> .tuple #[.agg #[.string k5,.string d5,.int .i64 f5,.int .i64 t5,.slice g.1 g.2.1 g.2.2],.int .i64 HE])) (φ:=(fun g=>l5.length=g.2.1)) (Y:=(fun g=>fun wy=>SlT lgEnc 9 68 wy g.1 g.2.1 l5)) U eC4 U U (fun wx hm=>(dO9 k d at_ n0 v (⟨at_,st,n1,n2⟩:Rd) wx hk hdz hv hs).mono fun _ _ ⟨A,n,c,he,hg,hs⟩=>⟨(A,n,c),by rw [<-hHE,<-hxq] at he;exact he,by rw [<-hHE,<-hxq] at hs;exact hs.len,hg,by rw [<-hHE,<-hxq] at hs;exact hs⟩) (fun _=>SlT.lasts2 U) ?_
   rintro ⟨A5,n5,c5⟩ hln
   dsimp only at hln ⊢
   refine bE (nw 27 2097151 (fun _ hm=>⟨hm.bl 0,hm.fa 13,trivial⟩) fun z=>wq 21 U (bL U) (wq 22 U (cP U U) (wq 23 U (cP U U) (eG 24 U (dL bZ4 U fun g2=>bE (nw 27 33554431 (fun _ hm=>⟨hm.bl 1,hm.fa 13,trivial⟩) fun z=>eG 25 U (kE (cs':= [.string k5,.string d5,.int .i64 f5,.int .i64 t5,.slice A5 n5 c5]) 0 nF U U U U (bE (nw 27 67108863 (fun _ hm=>⟨hm.bl 1,hm.fa 13,trivial⟩) fun z=>wq 26 U (cV U) (jO ?_))))))))))
   exact fK (g2,A5,n5,c5) hln ⟨U,U,U,U,U,U,U,U,trivial⟩ (fun _ hm=>hm.pick [0,2] [0,1] [0,1,2,3,4,5,6,7,8,9,10,11,12,13] U U)
  refine dL bZ4 U fun g3=>bE (nw 27 17825791 (fun _ hm=>⟨hm.bl 1,hm.fa 12,trivial⟩) fun z=>eG 20 U ?_)
  refine gY (γ:=Option Addr×Nat×Nat) (val:=(fun g=> .tuple #[.agg #[.string k5,.string d5,.int .i64 f5,.int .i64 t5,.slice g.1 g.2.1 g.2.2],.int .i64 HE])) (φ:=(fun g=>l5.length=g.2.1)) (Y:=(fun g=>fun wy=>SlT lgEnc 9 68 wy g.1 g.2.1 l5)) U eC4 U U (fun wx hm=>(dO9 k d at_ n0 v (⟨at_,st,n1,n2⟩:Rd) wx hk hdz hv hs).mono fun _ _ ⟨A,n,c,he,hg,hs⟩=>⟨(A,n,c),by rw [<-hHE,<-hxq] at he;exact he,by rw [<-hHE,<-hxq] at hs;exact hs.len,hg,by rw [<-hHE,<-hxq] at hs;exact hs⟩) (fun _=>SlT.lasts2 U) ?_
  rintro ⟨A5,n5,c5⟩ hln
  dsimp only at hln ⊢
  refine bE (nw 27 18874367 (fun _ hm=>⟨hm.bl 1,hm.fa 13,trivial⟩) fun z=>wq 21 U (bL U) (wq 22 U (cP U U) (wq 23 U (cP U U) (eG 25 U (kE (cs':= [.string k5,.string d5,.int .i64 f5,.int .i64 t5,.slice A5 n5 c5]) 0 nF U U U U (bE (nw 27 67108863 (fun _ hm=>⟨hm.bl 1,hm.fa 13,trivial⟩) fun z=>wq 26 U (cV U) (jO ?_))))))))
  exact fK (g3,A5,n5,c5) hln ⟨U,U,U,U,U,U,U,U,trivial⟩ (fun _ hm=>hm.pick [0,2] [0,1] [0,1,2,3,4,5,6,7,8,9,10,11,12,13] U U)
 rintro ⟨g11,A5,n5,c5⟩ cB
 replace cB:l5.length=n5:=cB
 dsimp only
 refine bH (bR (bP U (bB (gS U U) U (bQ ?_))))
 refine gI U (fun hz=>?_) (fun hz=>?_)
 ·refine bR (bP U (bX U (bQ ?_)))
  refine bM (bA ?_)
  have hzx:HE≠0:=by simpa using hz
  have hsm:fZ σ=bJ6 V T at_ (fZ σ) k d v st n0 n1 n2:=(pM fun ⟨q1,_⟩=>hzx (hHE.trans q1)).symm
  refine bJ U U fun wx hm=>?_
  refine ⟨lv,σ,_,U,⟨.same σ,hsm⟩,?_⟩
  have h8:gV _ _ ((g11,64, [.string k5,.string d5,.int .i64 f5,.int .i64 t5,.slice A5 n5 c5])::(go,119, [u0,.slice cA cn cc,u2,u3,u4,u5,u6,u7,u8,u9,jI,jJ,jK,jL,jM,jN,.map (some gv),.map (some gs),.map (some fT),lv,.map (some fR),.map (some fS),.map (some fU),.map (some gC),rv]):: []) [⟨lv,74,5,σ.lg.length,σ.lg.flatMap dO⟩,⟨rv,226,2,rn,rx⟩] _ wx:=hm
  exact (h8.tailL.subX (dQ 2 U (dQ 3 U (dQ 4 U (dQ 5 U (dQ 6 U (dQ 7 U (dQ 8 U (dQ 9 U (dQ 10 U (dQ 11 U bS4))))))))))).cy
 refine bN (bD (bR ?_))
 have hz0:HE=0:=by simpa using hz
 have hq0:bS2 HE (⟨k,d,at_,n0, [startLeg v (⟨at_,st,n1,n2⟩:Rd)]⟩:Hr)=(⟨k,d,at_,n0, [startLeg v (⟨at_,st,n1,n2⟩:Rd)]⟩:Hr):=bC0 hz0
 have hx9:=hq0.symm.trans hxq.symm
 injection hx9 with q1 q2 q3 q4 q5
 subst q1 q2 q3 q4 q5
 have hn5:n5=1:=cB.symm
 have hHE0:hireE (⟨k,d,at_,n0, [startLeg v (⟨at_,st,n1,n2⟩:Rd)]⟩:Hr)=0:=hHE.symm.trans hz0
 have hrk:HrOk k d [startLeg v (⟨at_,st,n1,n2⟩:Rd)]:=⟨hk,hdz,fun g hg=>by
  rw [List.mem_singleton.1 hg]
  exact ⟨hv,hs,(by decide:(⟨#[]⟩:ByteArray).size<=1000000)⟩⟩
 have hinv0: [startLeg v (⟨at_,st,n1,n2⟩:Rd)].length=n5:=cB
 obtain ⟨EE,zM⟩:∃z,z=dG [dI twi 6,dI (!iv|| !ist) 8,CE,dI (decide (500<=(mb:Int))) 12]:=⟨_,rfl⟩
 refine bP U (bB (dA U) U (dY qT U U (eJ zC 1 U U U (bP U (bB (gX (enc:=nG) (ek:=dM) (s:=k) (e:=64) vF jZ (by kernel_rfl) (by kernel_rfl) U U (fun _ hm=>(hm.fact 7 U))) U (bP U (bB (cP U U) U (bK 69 (v':= .agg #[.string h0,.string h1,.int .i64 h2,.int .i64 h3,.slice hA uQ hc]) U (congrArg nG hxh.symm) (bB (cP U U) U (bK 70 (v':= .bool twi) U (fU3 htwi.symm) (dL bZ4 U fun g4=>kE (cs':= [.string h0,.string h1,.int .i64 h2,.int .i64 h3,.slice hA uQ hc]) 0 nF U U U U (bX U (bQ (bR (bP U (bB (dA U) U (dY bZ7 U U (eJ dH2 2 U U U (bP U (bB (gX (enc:=vS) (ek:=dM) (s:=v) (e:=9) (⟨#[]⟩:ByteArray) jZ (by kernel_rfl) (by kernel_rfl) U U (fun _ hm=>(hm.fact 2 U))) U (bP U (bB (cP U U) U (bK 78 (v':= .string vc) U (congrArg Value.string hvc.symm) (bB (cP U U) U (bK 79 (v':= .bool iv) U (fU3 hiv.symm) ?_)))))))))))))))))))))))))
 refine bX U (bX U (bQ (bR (bP U (bP U (bP U (bB (dJ (cs:= [.int .i64 at_,.string v,.string st,.int .i64 2,.string ⟨#[]⟩]) U (by kernel_rfl)) U (dL bX7 U fun g5=>kE (cs':= [.int .i64 at_,.string v,.string st,.int .i64 2,.string ⟨#[]⟩]) 0 fJ U U U U (bQ (bH ?_))))))))))
 refine pB (γ:=Int) (I:=(fun (E:Int)=>E=EE)) (S':=(fun (E:Int)=> [(0,.pointer (some ⟨go,0,none⟩)),(6,.int .i64 0),(7,.string k),(11,.pointer (some ⟨g11,0,none⟩)),(17,.pointer (some ⟨g5,0,none⟩)),(18,.int .i64 E)])) (K':=(fun (E:Int)=>fun _=>True)) (L':=(fun (E:Int)=> [(g5,74, [.int .i64 at_,.string v,.string st,.int .i64 2,.string ⟨#[]⟩]),(g4,64, [.string h0,.string h1,.int .i64 h2,.int .i64 h3,.slice hA uQ hc]),(g11,64, [.string k,.string d,.int .i64 at_,.int .i64 n0,.slice A5 n5 c5]),(go,119, [u0,.slice cA cn cc,u2,u3,u4,u5,u6,u7,u8,u9,jI,jJ,jK,jL,jM,jN,.map (some gv),.map (some gs),.map (some fT),lv,.map (some fR),.map (some fS),.map (some fU),.map (some gC),rv])])) (O':=(fun (E:Int)=> [⟨lv,74,5,σ.lg.length,σ.lg.flatMap dO⟩,⟨rv,226,2,rn,rx⟩])) (X':=(fun (E:Int)=> [fun wy=>SlT lgEnc 9 68 wy A5 n5 [startLeg v (⟨at_,st,n1,n2⟩:Rd)],rX fU mb,bU vS dM w0.heap.size gv (V),bU vB dM w0.heap.size gs (T),bU qS dM w0.heap.size fT (σ.fs),bU vB nB w0.heap.size fR (σ.fa),bU pZ dM w0.heap.size fS (σ.fb),bU nG dM w0.heap.size fU (σ.fh),bU vI dM w0.heap.size gC (fp),gF 68 σ.fh,bW dW 2 84 w0.heap.size none cA cn cl,TxtO w0.heap.size none,fun wy=>SlT fH 1 9 wy (some ⟨tb,rU,none⟩) 4 [k,d,v,st],fun wy=>SlT kN 1 3 wy (some ⟨nb,xG,none⟩) 3 [n0,n1,n2]])) ?_ ?_
 ·refine gd (fun wz=>Blk wz g5 74 [.int .i64 at_,.string v,.string st,.int .i64 2,.string ⟨#[]⟩]/\Blk wz go 119 [u0,.slice cA cn cc,u2,u3,u4,u5,u6,u7,u8,u9,jI,jJ,jK,jL,jM,jN,.map (some gv),.map (some gs),.map (some fT),lv,.map (some fR),.map (some fS),.map (some fU),.map (some gC),rv]/\(rX fU mb) wz/\(bU vB dM w0.heap.size gs (T)) wz/\True) mixed (fun _ hm=>⟨hm.bl 0,hm.bl 3,hm.fa 1,hm.fa 3,trivial⟩) fun z=>?_
  refine wq 0 U (bL U) (wq 2 U (bL U) (wq 3 U (cE U) (wq 14 U (bL U) (wq 15 U (cU fJ U (fun _ hm=>hm.1) U U) (wq 17 U (bL U) (wq 18 U (dA U) (wq 19 U (bS qT U U) (wq 20 U (cQ zC U (fun _ hm=>hm.2.1) U) (eG 1 U (cZ U qN U U (fun wx hm=>(eH _ _ wx)) (bE (nw 27 2015247 (fun _ hm=>⟨hm.bl 0,hm.bl 3,hm.fa 1,hm.fa 3,trivial⟩) fun z=>wq 4 U (bL U) ?_))))))))))))
  rcases Bool.eq_false_or_eq_true (!iv) with hb6|hb6
  ·refine dH 88 U (fU3 hb6) ?_
   refine fD 5 U (fD 6 U (fD 7 U (fD 8 U (fD 9 U (fD 10 U (fD 11 U (wq 12 U (fE U U) (eG 13 U (cZ U qN U U (fun wx hm=>(eH _ _ wx)) (bE (nw 27 2031615 (fun _ hm=>⟨hm.bl 0,hm.bl 3,hm.fa 1,hm.fa 3,trivial⟩) fun z=>eG 16 U (cH (v:= .int .i64 CE) U zQ U U (fun wx hm=>(by rw [hCE];exact (rJ σ u0 u2 u3 u4 u5 u6 u7 u8 u9 jI jJ jK jL jM jN go gv gs fT fR fS fU gC cA cn cc lv rv at_ v st 2 ⟨#[]⟩ _ wx (hm.blkI 3 rfl) (hm.fact 4 rfl) (hm.fact 5 rfl)))) (bE (nw 27 2097151 (fun _ hm=>⟨hm.bl 0,hm.bl 3,hm.fa 1,hm.fa 3,trivial⟩) fun z=>wq 21 U (bE1 (k:=9) (e:=64) (n:=mb) (by kernel_rfl) U (fun _ hm=>(hm.2.2.1))) (wq 22 U (mG U U) (eG 23 U (cZ U qN U U (fun wx hm=>(eH _ _ wx)) (bE (nw 27 16777215 (fun _ hm=>⟨hm.bl 0,hm.bl 3,hm.fa 1,hm.fa 3,trivial⟩) fun z=>eG 24 U (jE 48 [.int .i64 (dI twi 6),.int .i64 (dI true 8),.int .i64 CE,.int .i64 (dI (decide (500<=((mb:Nat):Int))) 12)] fun g7=>bE (nw 27 33554431 (fun _ hm=>⟨hm.bl 1,hm.bl 4,hm.fa 1,hm.fa 3,trivial⟩) fun z=>eG 25 U (cZ U wH U U (fun wx hm=>(fN [dI twi 6,dI true 8,CE,dI (decide (500<=((mb:Nat):Int))) 12] _ _ _ wx (hm.blkI 0 U) (by simp))) (bE (nw 27 67108863 (fun _ hm=>⟨hm.bl 1,hm.bl 4,hm.fa 1,hm.fa 3,trivial⟩) fun z=>?_))))))))))))))))))))))))
   refine wq 26 U (cV U) (jO ?_)
   exact fK (dG [dI twi 6,dI true 8,CE,dI (decide (500<=((mb:Nat):Int))) 12]) (by rw [zM,hb6];rfl) ⟨U,U,U,U,U,U,trivial⟩ (fun _ hm=>hm.pick [1,2,3,4] [0,1] [0,1,2,3,4,5,6,7,8,9,10,11,12,13] U U)
  refine dH 88 U (fU3 hb6) (fI 5 U (bL U) (fI 6 U (dA U) (fI 7 U (bS xR U U) (fI 8 U (cQ cJ0 U (fun _ hm=>hm.2.1) U) (fI 9 U (bL U) (fI 10 U (kT (enc:=vB) (ek:=dM) (s:=st) (e:=4) false jZ (by kernel_rfl) (by kernel_rfl) U U (fun _ hm=>(hm.2.2.2.1))) (dH 94 (v':= .bool ist) U (fU3 bX1.symm) (fI 11 U (cE U) (wq 12 U (fO U U) (eG 13 U (cZ U qN U U (fun wx hm=>(eH _ _ wx)) (bE (nw 27 2031615 (fun _ hm=>⟨hm.bl 0,hm.bl 3,hm.fa 1,hm.fa 3,trivial⟩) fun z=>eG 16 U (cH (v:= .int .i64 CE) U zQ U U (fun wx hm=>(by rw [hCE];exact (rJ σ u0 u2 u3 u4 u5 u6 u7 u8 u9 jI jJ jK jL jM jN go gv gs fT fR fS fU gC cA cn cc lv rv at_ v st 2 ⟨#[]⟩ _ wx (hm.blkI 3 rfl) (hm.fact 4 rfl) (hm.fact 5 rfl)))) (bE (nw 27 2097151 (fun _ hm=>⟨hm.bl 0,hm.bl 3,hm.fa 1,hm.fa 3,trivial⟩) fun z=>wq 21 U (bE1 (k:=9) (e:=64) (n:=mb) (by kernel_rfl) U (fun _ hm=>(hm.2.2.1))) (wq 22 U (mG U U) (eG 23 U (cZ U qN U U (fun wx hm=>(eH _ _ wx)) (bE (nw 27 16777215 (fun _ hm=>⟨hm.bl 0,hm.bl 3,hm.fa 1,hm.fa 3,trivial⟩) fun z=>eG 24 U (jE 48 [.int .i64 (dI twi 6),.int .i64 (dI (!ist) 8),.int .i64 CE,.int .i64 (dI (decide (500<=((mb:Nat):Int))) 12)] fun g8=>bE (nw 27 33554431 (fun _ hm=>⟨hm.bl 1,hm.bl 4,hm.fa 1,hm.fa 3,trivial⟩) fun z=>eG 25 U (cZ U wH U U (fun wx hm=>(fN [dI twi 6,dI (!ist) 8,CE,dI (decide (500<=((mb:Nat):Int))) 12] _ _ _ wx (hm.blkI 0 U) (by simp))) ?_))))))))))))))))))))))))
  refine bE (nw 27 67108863 (fun _ hm=>⟨hm.bl 1,hm.bl 4,hm.fa 1,hm.fa 3,trivial⟩) fun z=>wq 26 U (cV U) (jO ?_))
  exact fK (dG [dI twi 6,dI (!ist) 8,CE,dI (decide (500<=((mb:Nat):Int))) 12]) (by rw [zM,hb6];rfl) ⟨U,U,U,U,U,U,trivial⟩ (fun _ hm=>hm.pick [1,2,3,4] [0,1] [0,1,2,3,4,5,6,7,8,9,10,11,12,13] U U)
 intro E cB
 replace cB:E=EE:=cB
 refine bR ?_
 replace cB:_=_:=cB
 subst cB
 refine bP U (bB (gS U U) U (bQ ?_))
 refine gI U (fun hy=>?_) (fun hy=>?_)
 ·refine bR (bP U (bX U (bQ ?_)))
  refine bM (bA ?_)
  have hyx:E≠0:=by simpa using hy
  have hsm:fZ σ=bJ6 V T at_ (fZ σ) k d v st n0 n1 n2:=(pM fun ⟨_,q2,⟨q3,q4⟩,q5⟩=>hyx (by
   rw [cC3] at q2
   rw [zM,htwi.trans q2,hiv.trans q3,bX1.trans q4,hCE.trans (qM.2 (zP.1 q5)),decide_eq_false (by omega)];rfl)).symm
  refine bJ U U fun wx hm=>?_
  refine ⟨lv,σ,_,U,⟨.same σ,hsm⟩,?_⟩
  have h8:gV _ _ ((g5,74, [.int .i64 at_,.string v,.string st,.int .i64 2,.string ⟨#[]⟩])::(g4,64, [.string h0,.string h1,.int .i64 h2,.int .i64 h3,.slice hA uQ hc])::(g11,64, [.string k,.string d,.int .i64 at_,.int .i64 n0,.slice A5 n5 c5])::(go,119, [u0,.slice cA cn cc,u2,u3,u4,u5,u6,u7,u8,u9,jI,jJ,jK,jL,jM,jN,.map (some gv),.map (some gs),.map (some fT),lv,.map (some fR),.map (some fS),.map (some fU),.map (some gC),rv]):: []) [⟨lv,74,5,σ.lg.length,σ.lg.flatMap dO⟩,⟨rv,226,2,rn,rx⟩] _ wx:=hm
  exact (h8.tailL.tailL.tailL.subX (dQ 2 U (dQ 3 U (dQ 4 U (dQ 5 U (dQ 6 U (dQ 7 U (dQ 8 U (dQ 9 U (dQ 10 U (dQ 11 U bS4))))))))))).cy
 refine bN (bD (bR ?_))
 have hE0:E=0:=by simpa using hy
 rw [zM] at hE0
 obtain ⟨z1,z2,z3,_⟩:=dD7 hE0
 have z4:=rD (by decide) z1
 have z5:=rD (by decide) z2
 have z6:iv=true/\ist=true:=by simpa using z5
 have z7:(σ.fh k).isSome=false:=htwi.symm.trans z4
 have z8:(V v).isSome=true:=hiv.symm.trans z6.1
 have z9:(T st).getD false=true:=bX1.symm.trans z6.2
 have hcan:bT1 σ (gL at_ v st):=qM.1 (hCE.symm.trans z3)
 refine bP U (bB (cU fJ U (fun _ hm=>hm.blkI 0 U) U U) U ?_)
 refine gD (γ:=Value) (val:=fun _=> .tuple #[]) (φ:=fun _=>True) (K':=fun _=>fun _=>True) (L':=fun qK=> [(go,119, [u0,.slice cA cn cc,u2,u3,u4,u5,u6,u7,u8,u9,jI,jJ,jK,jL,jM,jN,.map (some gv),.map (some gs),.map (some fT),qK,.map (some fR),.map (some fS),.map (some fU),.map (some gC),rv]),(g11,64, [.string k,.string d,.int .i64 at_,.int .i64 n0,.slice A5 n5 c5])]) (O':=fun qK=> [⟨qK,74,5,(gK σ (gL at_ v st)).lg.length,(gK σ (gL at_ v st)).lg.flatMap dO⟩,⟨rv,226,2,rn,rx⟩]) (X':=fun _=> [bU vS dM w0.heap.size gv (V),bU vB dM w0.heap.size gs (T),bU qS dM w0.heap.size fT ((gK σ (gL at_ v st)).fs),bU vB nB w0.heap.size fR ((gK σ (gL at_ v st)).fa),bU pZ dM w0.heap.size fS ((gK σ (gL at_ v st)).fb),bU nG dM w0.heap.size fU ((gK σ (gL at_ v st)).fh),bU vI dM w0.heap.size gC (fp),gF 68 (gK σ (gL at_ v st)).fh,bW dW 2 84 w0.heap.size none cA cn cl,TxtO w0.heap.size none,fun wy=>SlT lgEnc 9 68 wy A5 n5 [startLeg v (⟨at_,st,n1,n2⟩:Rd)]]) U cL5 U U (fun wx hm=>(bL4 w0 u0 u2 u3 u4 u5 u6 u7 u8 u9 jI jJ jK jL jM jN go gv gs fT fR fS fU gC cA cn cc cl V T rv rn rx hd fp σ lv at_ v st 2 ⟨#[]⟩ [(g11,64, [.string k,.string d,.int .i64 at_,.int .i64 n0,.slice A5 n5 c5])] [fun wy=>SlT lgEnc 9 68 wy A5 n5 [startLeg v (⟨at_,st,n1,n2⟩:Rd)]] (dW1 SlT.mfar) wx hlg (hm.pick [3,2] [0,1] [2,3,4,5,6,7,8,9,10,11,0] U U).cy).mono fun _ _ ⟨lv_,he,vD⟩=>⟨lv_,he,trivial,vD.cy⟩) ?_
 intro qK _
 refine bQ (bH (gd (fun wz=>Blk wz go 119 [u0,.slice cA cn cc,u2,u3,u4,u5,u6,u7,u8,u9,jI,jJ,jK,jL,jM,jN,.map (some gv),.map (some gs),.map (some fT),qK,.map (some fR),.map (some fS),.map (some fU),.map (some gC),rv]/\Blk wz g11 64 [.string k,.string d,.int .i64 at_,.int .i64 n0,.slice A5 n5 c5]/\True) mixed (fun _ hm=>⟨hm.bl 0,hm.bl 1,trivial⟩) fun z=>wq 0 U (bL U) (wq 1 U (dA U) (wq 2 U (bS qT U U) (wq 3 U (cQ zC U (fun _ hm=>hm.1) U) (wq 4 U (bL U) (wq 5 U (cU nF U (fun _ hm=>hm.2.1) U U) (eG 6 U (kO (enc:=nG) (ek:=dM) (s:=k) (v:=(⟨k,d,at_,n0,A5,n5,c5, [startLeg v (⟨at_,st,n1,n2⟩:Rd)]⟩:Hg)) (e:=64) (X':= [bU vS dM w0.heap.size gv (V),bU vB dM w0.heap.size gs (T),bU qS dM w0.heap.size fT ((gK σ (gL at_ v st)).fs),bU vB nB w0.heap.size fR ((gK σ (gL at_ v st)).fa),bU pZ dM w0.heap.size fS ((gK σ (gL at_ v st)).fb),bU vI dM w0.heap.size gC (fp),gF 68 (gK σ (gL at_ v st)).fh,bW dW 2 84 w0.heap.size none cA cn cl,TxtO w0.heap.size none,fun wy=>SlT lgEnc 9 68 wy A5 n5 [startLeg v (⟨at_,st,n1,n2⟩:Rd)]]) 5 jZ (by kernel_rfl) U U U U (cL (i:=0) (bU.farK (gR hd (i:=0) (j:=5) U U (by decide))) U (cL (i:=1) (bU.farK (gR hd (i:=1) (j:=5) U U (by decide))) U (cL (i:=2) (bU.farK (gR hd (i:=2) (j:=5) U U (by decide))) U (cL (i:=3) (bU.farK (gR hd (i:=3) (j:=5) U U (by decide))) U (cL (i:=4) (bU.farK (gR hd (i:=4) (j:=5) U U (by decide))) U (cL (i:=6) (bU.farK (gR hd (i:=6) (j:=5) U U (by decide))) U (cL (i:=7) (gF.mfar).far U (cL (i:=8) (bW.mfar).far U (cL (i:=9) (TxtO.mfar).far U (cL (i:=10) (SlT.mfar).far U gB)))))))))) (bE (nw 7 127 (fun _ hm=>⟨hm.bl 0,hm.bl 1,trivial⟩) fun z=>jO (bD (bR (bP U (bB (dA U) U (dY bT0 U U (eJ cR2 0 U U U (bP U ?_))))))))))))))))))
 refine cT0 (enc:=pZ) (ek:=dM) (s:=k) (e:=146) (X':= [bU nG dM w0.heap.size fU (fQ ((gK σ (gL at_ v st)).fh) k (⟨k,d,at_,n0,A5,n5,c5, [startLeg v (⟨at_,st,n1,n2⟩:Rd)]⟩:Hg)),bU vS dM w0.heap.size gv (V),bU vB dM w0.heap.size gs (T),bU qS dM w0.heap.size fT ((gK σ (gL at_ v st)).fs),bU vB nB w0.heap.size fR ((gK σ (gL at_ v st)).fa),bU vI dM w0.heap.size gC (fp),gF 68 (gK σ (gL at_ v st)).fh,bW dW 2 84 w0.heap.size none cA cn cl,TxtO w0.heap.size none,fun wy=>SlT lgEnc 9 68 wy A5 n5 [startLeg v (⟨at_,st,n1,n2⟩:Rd)]]) 5 jZ (by kernel_rfl) U U U U (cL (i:=0) (bU.farK (gR hd (i:=5) (j:=4) U U (by decide))) U (cL (i:=1) (bU.farK (gR hd (i:=0) (j:=4) U U (by decide))) U (cL (i:=2) (bU.farK (gR hd (i:=1) (j:=4) U U (by decide))) U (cL (i:=3) (bU.farK (gR hd (i:=2) (j:=4) U U (by decide))) U (cL (i:=4) (bU.farK (gR hd (i:=3) (j:=4) U U (by decide))) U (cL (i:=6) (bU.farK (gR hd (i:=6) (j:=4) U U (by decide))) U (cL (i:=7) (gF.mfar).far U (cL (i:=8) (bW.mfar).far U (cL (i:=9) (TxtO.mfar).far U (cL (i:=10) (SlT.mfar).far U gB)))))))))) ?_
 refine bQ (bR (bX U (bQ (bM ?_))))
 have hab:fZ ({ gK σ (gL at_ v st) with fh:=fQ σ.fh k (⟨k,d,at_,n0,A5,n5,c5, [startLeg v (⟨at_,st,n1,n2⟩:Rd)]⟩:Hg),fb:=yB σ.fb k }:Os)=bJ6 V T at_ (fZ σ) k d v st n0 n1 n2:=by
  refine Eq.trans ?_ (xZ ⟨hHE0,by rw [cC3];exact z7,⟨z8,z9⟩,hcan⟩).symm
  show (⟨_,_,_,fun j=>(fQ σ.fh k _ j).map hrG,_⟩:As)=_
  rw [cB3];rfl
 refine bJ U U fun wx hm=>?_
 refine ⟨qK,_,0,U,⟨.start σ (⟨k,d,at_,n0,A5,n5,c5, [startLeg v (⟨at_,st,n1,n2⟩:Rd)]⟩:Hg) v (⟨at_,st,n1,n2⟩:Rd) ⟨hrk,by dsimp only;omega,by dsimp only;omega,hinv0⟩ hHE0 U U z7 z8 z9 hcan,hab⟩,?_⟩
 have hput:=gF.put (k:=k) (h:=(⟨k,d,at_,n0,A5,n5,c5, [startLeg v (⟨at_,st,n1,n2⟩:Rd)]⟩:Hg)) (hm.fact 7 rfl) (hm.fact 10 rfl)
 have hm:=hm.also (gF.lasts2 rfl) hput
 exact (hm.pick [0] [0,1] [3,4,5,6,1,2,7,0,9,10] U U).cy
end Go.Proofs.YtmifpfcmldflkaaGreatDoor
