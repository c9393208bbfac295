/- Several texts as one: Dku Dkv Dkw Dkp Dkr H10 Twt Alc Tht -/
import Derived.Test.YtmifpfcmldflkaaGreatDoorR4g
import Derived.Test.YtmifpfcmldflkaaGreatDoorR4e
import Derived.Test.YtmifpfcmldflkaaGreatDoorR4b
import Derived.Test.YtmifpfcmldflkaaGreatDoorR4c
import Derived.Test.YtmifpfcmldflkaaGreatDoorR4f
import Derived.Test.YtmifpfcmldflkaaGreatDoorR4d
import Derived.Test.YtmifpfcmldflkaaGreatDoorR4a
import Derived.Lay
import Derived.LaidSub
import Derived.MakeChecks
import Derived.Stop.LaidErr
import Derived.Lib.LaidU8
import Derived.Shelf.Vars
set_option maxRecDepth 100000
set_option maxHeartbeats 4000000
namespace Go.Proofs.YtmifpfcmldflkaaGreatDoor
open Tryz
open Go.RowKit
theorem eF0:∀(k u:Nat),u < 10 ^ (k+1)->(Lib.decDigits u).length<=k+1
 |0,u,h=>by
  rw [Lib.decDigits_length,Lib.nDigits_small (by simpa using h)];exact Nat.le_refl _
 |k+1,u,h=>by
  by_cases h1:u < 10
  ·rw [Lib.decDigits_length,Lib.nDigits_small h1];omega
  ·have h2:=eF0 k (u / 10) (by rw [Nat.div_lt_iff_lt_mul (by decide)];rw [Nat.pow_succ] at h;exact h)
   rw [Lib.decDigits_length] at h2 ⊢
   rw [Lib.nDigits_big h1];omega
theorem dH3 {v:Int} (h: -9223372036854775808<=v/\v<=9223372036854775807):(bC8 v).size<=21:=by
 unfold bC8
 rw [eX5]
 unfold Lib.itoa
 split
 ·rw [List.length_cons]
  have:=eF0 19 v.natAbs (by omega)
  omega
 ·have:=eF0 19 v.toNat (by omega)
  omega
theorem cC1 (at_:Int) (w:World) (B sb m:Nat) (hS:eW 25 w B sb m) (hm:m<=1000000) (htx:TxtO w.heap.size (some sb) w) (hat:0<=at_/\at_<=100000):
 Calls prog 68 #[.pointer (some ⟨sb,0,none⟩),.int .i64 at_] w (fun e w'=>∃t,e=.returned (.string t)/\t.size<=1000/\eW 25 w' B sb (m+10)/\w.grownBy w' (some sb)):=by
 refine cV ⟨162,w,(some sb), []⟩ func68 U ntmps68 U (bH5 (X:= [TxtO w.heap.size (some sb)]) hS (cG htx cY) (cH TxtO.lasts cZ)) (bS ?_)
 have l0:(⟨#[]⟩:ByteArray).size=0:=rfl
 have l1:(⟨#[118,49]⟩:ByteArray).size=2:=rfl
 have l2:(⟨#[118,50]⟩:ByteArray).size=2:=rfl
 have l3:(⟨#[118,51]⟩:ByteArray).size=2:=rfl
 have l4:(⟨#[110,111,110,101]⟩:ByteArray).size=4:=rfl
 have l5:(⟨#[115,49]⟩:ByteArray).size=2:=rfl
 have l6:(⟨#[115,50]⟩:ByteArray).size=2:=rfl
 have l7:(⟨#[115,57]⟩:ByteArray).size=2:=rfl
 have l8:(⟨#[104,49]⟩:ByteArray).size=2:=rfl
 have l9:(⟨#[104,50]⟩:ByteArray).size=2:=rfl
 have l10:(⟨#[104,51]⟩:ByteArray).size=2:=rfl
 have l11:(⟨#[65]⟩:ByteArray).size=1:=rfl
 have l12:(⟨#[101,110,116,101,114,32]⟩:ByteArray).size=6:=rfl
 have l13:(⟨#[32]⟩:ByteArray).size=1:=rfl
 have l14:(⟨#[115,104,111,112]⟩:ByteArray).size=4:=rfl
 have l15:(⟨#[100,111,110,101]⟩:ByteArray).size=4:=rfl
 have l16:(⟨#[99,111,109,101]⟩:ByteArray).size=4:=rfl
 have l17:(⟨#[103,111,110,101]⟩:ByteArray).size=4:=rfl
 have l18:(⟨#[108,101,97,118,101,32]⟩:ByteArray).size=6:=rfl
 have l19:(⟨#[98,111,111,107,32]⟩:ByteArray).size=5:=rfl
 have l20:(⟨#[109,105,110,105]⟩:ByteArray).size=4:=rfl
 have l21:(⟨#[109,105,100,105]⟩:ByteArray).size=4:=rfl
 have l22:(⟨#[53,48]⟩:ByteArray).size=2:=rfl
 have l23:(⟨#[49,48,48]⟩:ByteArray).size=3:=rfl
 have l24:(⟨#[49,48,49]⟩:ByteArray).size=3:=rfl
 have l25:(⟨#[99,97,110,99,101,108,32]⟩:ByteArray).size=7:=rfl
 have l26:(⟨#[115,116,97,114,116,32]⟩:ByteArray).size=6:=rfl
 have l27:(⟨#[32,97,110,110,32]⟩:ByteArray).size=5:=rfl
 have l28:(⟨#[48]⟩:ByteArray).size=1:=rfl
 have l29:(⟨#[57,57,57,57,57,48]⟩:ByteArray).size=6:=rfl
 have l30:(⟨#[56]⟩:ByteArray).size=1:=rfl
 have l31:(⟨#[52]⟩:ByteArray).size=1:=rfl
 have l32:(⟨#[57]⟩:ByteArray).size=1:=rfl
 have l33:(⟨#[115,119,97,112,32]⟩:ByteArray).size=5:=rfl
 have l34:(⟨#[32,49,53,48,32,52,32]⟩:ByteArray).size=7:=rfl
 have l35:(⟨#[32,55,32,56]⟩:ByteArray).size=4:=rfl
 have l36:(⟨#[101,120,116,101,110,100,32]⟩:ByteArray).size=7:=rfl
 have l37:(⟨#[99,108,111,115,101,32]⟩:ByteArray).size=6:=rfl
 have l38:(⟨#[53]⟩:ByteArray).size=1:=rfl
 have l39:(⟨#[51,48,48]⟩:ByteArray).size=3:=rfl
 have l40:(⟨#[52,48,48]⟩:ByteArray).size=3:=rfl
 have l41:(⟨#[50]⟩:ByteArray).size=1:=rfl
 have l42:(⟨#[112,97,121,32]⟩:ByteArray).size=4:=rfl
 have l43:(⟨#[32,49,48,48,48]⟩:ByteArray).size=5:=rfl
 have l44:(⟨#[32,53,48,48]⟩:ByteArray).size=4:=rfl
 have l45:(⟨#[32,45,49]⟩:ByteArray).size=3:=rfl
 have l46:(⟨#[100,97,110,99,101]⟩:ByteArray).size=5:=rfl
 have l47:(⟨#[101,110,116,101,114,32,118,49]⟩:ByteArray).size=8:=rfl
 have l48:(⟨#[112,97,121,32,32,104,49,32,53]⟩:ByteArray).size=9:=rfl
 have l49:(⟨#[98,111,111,107,32,104,49,32,109,105,110,105,32,120,32,53,32,53]⟩:ByteArray).size=18:=rfl
 have l50:(⟨#[115,116,97,114,116,32,104,49,32,97,110,110,32,53]⟩:ByteArray).size=14:=rfl
 refine bZ U (bR (bS (bZ U (bR (bS (bP U (jF 9 [.string ⟨#[118,49]⟩,.string ⟨#[118,49]⟩,.string ⟨#[118,50]⟩,.string ⟨#[118,51]⟩,.string ⟨#[110,111,110,101]⟩] fun g1=>dM (γ:=ByteArray) (val:=fun v=> .string v) (φ:=fun v=>v∈([⟨#[118,49]⟩,⟨#[118,49]⟩,⟨#[118,50]⟩,⟨#[118,51]⟩,⟨#[110,111,110,101]⟩]:List ByteArray)) U rS U U U U (fun wx hm=>(gV [⟨#[118,49]⟩,⟨#[118,49]⟩,⟨#[118,50]⟩,⟨#[118,51]⟩,⟨#[110,111,110,101]⟩] _ _ _ wx B sb _ hm.k (by omega) (by simp) (by simp) (hm.blkI 0 U) (hm.neRow 0 U U))) fun s2 hs2=>?_)))))))
 have zs2:s2.size<=100:=kG hs2 (by decide)
 refine bZ U (bR (bS (bP U (jF 9 [.string ⟨#[115,49]⟩,.string ⟨#[115,49]⟩,.string ⟨#[115,49]⟩,.string ⟨#[115,50]⟩,.string ⟨#[115,57]⟩] fun g3=>dM (γ:=ByteArray) (val:=fun v=> .string v) (φ:=fun v=>v∈([⟨#[115,49]⟩,⟨#[115,49]⟩,⟨#[115,49]⟩,⟨#[115,50]⟩,⟨#[115,57]⟩]:List ByteArray)) U rS U U U U (fun wx hm=>(gV [⟨#[115,49]⟩,⟨#[115,49]⟩,⟨#[115,49]⟩,⟨#[115,50]⟩,⟨#[115,57]⟩] _ _ _ wx B sb _ hm.k (by omega) (by simp) (by simp) (hm.blkI 0 U) (hm.neRow 0 U U))) fun s4 hs4=>?_))))
 have zs4:s4.size<=100:=kG hs4 (by decide)
 refine bZ U (bR (bS (bP U (jF 9 [.string ⟨#[104,49]⟩,.string ⟨#[104,49]⟩,.string ⟨#[104,50]⟩,.string ⟨#[104,51]⟩,.string ⟨#[65]⟩] fun g5=>dM (γ:=ByteArray) (val:=fun v=> .string v) (φ:=fun v=>v∈([⟨#[104,49]⟩,⟨#[104,49]⟩,⟨#[104,50]⟩,⟨#[104,51]⟩,⟨#[65]⟩]:List ByteArray)) U rS U U U U (fun wx hm=>(gV [⟨#[104,49]⟩,⟨#[104,49]⟩,⟨#[104,50]⟩,⟨#[104,51]⟩,⟨#[65]⟩] _ _ _ wx B sb _ hm.k (by omega) (by simp) (by simp) (hm.blkI 0 U) (hm.neRow 0 U U))) fun s6 hs6=>?_))))
 have zs6:s6.size<=100:=kG hs6 (by decide)
 refine bZ U (bR (bS (bP U (bP U (bP U (jF 3 [.int .i64 10,.int .i64 60,.int .i64 1440,.int .i64 2000,.int .i64 (-5)] fun g7=>dM (γ:=Int) (val:=fun v=> .int .i64 v) (φ:=fun v=>v∈([10,60,1440,2000, -5]:List Int)) U pP U U U U (fun wx hm=>(eT [10,60,1440,2000, -5] _ _ _ wx B sb _ hm.k (by omega) (by simp) (by simp) (hm.blkI 0 U) (hm.neRow 0 U U))) fun v8 hv8=>?_))))))
 have bv8: -5<=v8/\v8<=2000:=gQ hv8 (by decide)
 have bv80:=bv8.1
 have bv81:=bv8.2
 clear bv8
 refine gN U U (cL U dK7 U U (fun wx hm=>(cN0 (at_+v8) wx (hm.fact 0 U).1 (by omega) (by omega))) ?_)
 have zi9:=dH3 (v:=at_+v8) (by omega)
 refine bZ U (bR (bH (bS (bP U (dM (γ:=Int) (val:=fun v=> .int .i64 v) (φ:=fun v=>mW 14 v) U bR9 U U U U (fun wx hm=>(mN _ wx B sb _ hm.k (by omega) (by omega) (by omega))) fun v10 hv10=>bR (bO ?_))))))
 refine pC (γ:=Bool) (I:=(fun (bb7:Bool)=>True)) (S':=(fun (bb7:Bool)=> [(0,.pointer (some ⟨sb,0,none⟩)),(1,.int .i64 at_),(4,.string ⟨#[]⟩),(5,.func (.func 117) #[] #[]),(6,.string s2),(7,.string s4),(8,.string s6),(9,.string (bC8 (at_+v8))),(27,.int .i64 v10),(28,.bool bb7)])) (K':=(fun (bb7:Bool)=>fun w=>eW 25 w B sb (m+1+1+1+1+1))) (L':=(fun (bb7:Bool)=> [(g7,3, [.int .i64 10,.int .i64 60,.int .i64 1440,.int .i64 2000,.int .i64 (-5)]),(g5,9, [.string ⟨#[104,49]⟩,.string ⟨#[104,49]⟩,.string ⟨#[104,50]⟩,.string ⟨#[104,51]⟩,.string ⟨#[65]⟩]),(g3,9, [.string ⟨#[115,49]⟩,.string ⟨#[115,49]⟩,.string ⟨#[115,49]⟩,.string ⟨#[115,50]⟩,.string ⟨#[115,57]⟩]),(g1,9, [.string ⟨#[118,49]⟩,.string ⟨#[118,49]⟩,.string ⟨#[118,50]⟩,.string ⟨#[118,51]⟩,.string ⟨#[110,111,110,101]⟩])])) (O':=(fun (bb7:Bool)=> [])) (X':=(fun (bb7:Bool)=> [TxtO w.heap.size (some sb)])) ?_ ?_
 ·refine bS (bB (eN U U) U (bZ U (bR ?_)))
  refine cE U (fun h11=>?_) (fun h11=>?_)
  ·refine bN ?_
   exact fK (decide (v10=0)) trivial ⟨U,U,U,U,U,U,U,U,U,U,trivial⟩ (fun _ hm=>hm.pick [0,1,2,3] [] [0] U U)
  refine bI (bB (eN U U) U (bZ U (bE ?_)))
  exact fK (decide (v10=1)) trivial ⟨U,U,U,U,U,U,U,U,U,U,trivial⟩ (fun _ hm=>hm.pick [0,1,2,3] [] [0] U U)
 intro bb7 cC
 replace cC:True:=cC
 refine dC U (fun hh=>?_) (fun hh=>?_)
 ·have h12:bb7=true:=by simpa using hh
  clear hh
  refine bS (bP U (bB (eP U U (by (try simp only [ByteArray.size_append]);omega)) U (bB (eP U U (by (try simp only [ByteArray.size_append]);omega)) U (bP U (bB (eP U U (by (try simp only [ByteArray.size_append]);omega)) U (bZ U (bR (bM (bC (bA ?_))))))))))
  exact bK U U fun wx hm=>⟨_,U,(by (try simp only [ByteArray.size_append]);omega),hm.k.more (by omega),hm.g⟩
 have h12:bb7=false:=by simpa using hh
 clear hh
 refine bS (bB (eN U U) U (bZ U (bR ?_)))
 refine cE U (fun h13=>?_) (fun h13=>?_)
 ·refine bS (bP U ?_)
  refine jF 9 [.string ⟨#[115,104,111,112]⟩,.string ⟨#[100,111,110,101]⟩,.string ⟨#[99,111,109,101]⟩,.string ⟨#[103,111,110,101]⟩] fun g14=>dM (γ:=ByteArray) (val:=fun v=> .string v) (φ:=fun v=>v∈([⟨#[115,104,111,112]⟩,⟨#[100,111,110,101]⟩,⟨#[99,111,109,101]⟩,⟨#[103,111,110,101]⟩]:List ByteArray)) U rS U U U U (fun wx hm=>(gV [⟨#[115,104,111,112]⟩,⟨#[100,111,110,101]⟩,⟨#[99,111,109,101]⟩,⟨#[103,111,110,101]⟩] _ _ _ wx B sb _ hm.k (by omega) (by simp) (by simp) (hm.blkI 0 U) (hm.neRow 0 U U))) fun s15 hs15=>?_
  have zs15:s15.size<=100:=kG hs15 (by decide)
  refine bB (eP U U (by (try simp only [ByteArray.size_append]);omega)) U (bP U (bB (eP U U (by (try simp only [ByteArray.size_append]);omega)) U (bB (eP U U (by (try simp only [ByteArray.size_append]);omega)) U (bP U (bB (eP U U (by (try simp only [ByteArray.size_append]);omega)) U (bZ U (bR (bM (bC (bA ?_))))))))))
  exact bK U U fun wx hm=>⟨_,U,(by (try simp only [ByteArray.size_append]);omega),hm.k.more (by omega),hm.g⟩
 refine bS (bB (eN U U) U (bZ U (bR ?_)))
 refine cE U (fun h16=>?_) (fun h16=>?_)
 ·refine bS (bP U ?_)
  refine bB (eP U U (by (try simp only [ByteArray.size_append]);omega)) U (bB (eP U U (by (try simp only [ByteArray.size_append]);omega)) U (bP U (bB (eP U U (by (try simp only [ByteArray.size_append]);omega)) U (bB (eP U U (by (try simp only [ByteArray.size_append]);omega)) U (bP U (jF 9 [.string ⟨#[115,50]⟩,.string ⟨#[115,49]⟩,.string ⟨#[115,57]⟩] fun g17=>dM (γ:=ByteArray) (val:=fun v=> .string v) (φ:=fun v=>v∈([⟨#[115,50]⟩,⟨#[115,49]⟩,⟨#[115,57]⟩]:List ByteArray)) U rS U U U U (fun wx hm=>(gV [⟨#[115,50]⟩,⟨#[115,49]⟩,⟨#[115,57]⟩] _ _ _ wx B sb _ hm.k (by omega) (by simp) (by simp) (hm.blkI 0 U) (hm.neRow 0 U U))) fun s18 hs18=>?_))))))
  have zs18:s18.size<=100:=kG hs18 (by decide)
  refine bB (eP U U (by (try simp only [ByteArray.size_append]);omega)) U (bZ U (bR (bM (bC (bA ?_)))))
  exact bK U U fun wx hm=>⟨_,U,(by (try simp only [ByteArray.size_append]);omega),hm.k.more (by omega),hm.g⟩
 refine bS (bB (eN U U) U (bZ U (bR ?_)))
 refine cE U (fun h19=>?_) (fun h19=>?_)
 ·refine bS (bP U ?_)
  refine bB (eP U U (by (try simp only [ByteArray.size_append]);omega)) U (bB (eP U U (by (try simp only [ByteArray.size_append]);omega)) U (bP U (jF 9 [.string ⟨#[109,105,110,105]⟩,.string ⟨#[109,105,100,105]⟩,.string ⟨#[110,111,110,101]⟩] fun g20=>dM (γ:=ByteArray) (val:=fun v=> .string v) (φ:=fun v=>v∈([⟨#[109,105,110,105]⟩,⟨#[109,105,100,105]⟩,⟨#[110,111,110,101]⟩]:List ByteArray)) U rS U U U U (fun wx hm=>(gV [⟨#[109,105,110,105]⟩,⟨#[109,105,100,105]⟩,⟨#[110,111,110,101]⟩] _ _ _ wx B sb _ hm.k (by omega) (by simp) (by simp) (hm.blkI 0 U) (hm.neRow 0 U U))) fun s21 hs21=>?_)))
  have zs21:s21.size<=100:=kG hs21 (by decide)
  refine bB (eP U U (by (try simp only [ByteArray.size_append]);omega)) U (bB (eP U U (by (try simp only [ByteArray.size_append]);omega)) U (bP U (bP U (bP U (jF 3 [.int .i64 0,.int .i64 10,.int .i64 100] fun g22=>dM (γ:=Int) (val:=fun v=> .int .i64 v) (φ:=fun v=>v∈([0,10,100]:List Int)) U pP U U U U (fun wx hm=>(eT [0,10,100] _ _ _ wx B sb _ hm.k (by omega) (by simp) (by simp) (hm.blkI 0 U) (hm.neRow 0 U U))) fun v23 hv23=>?_)))))
  have bv23:0<=v23/\v23<=100:=gQ hv23 (by decide)
  have bv230:=bv23.1
  have bv231:=bv23.2
  clear bv23
  refine gN U U (cL U dK7 U U (fun wx hm=>(cN0 (at_+v23) wx (hm.fact 0 U).1 (by omega) (by omega))) ?_)
  have zi24:=dH3 (v:=at_+v23) (by omega)
  refine bB (eP U U (by (try simp only [ByteArray.size_append]);omega)) U (bB (eP U U (by (try simp only [ByteArray.size_append]);omega)) U (bP U (bB (eP U U (by (try simp only [ByteArray.size_append]);omega)) U (bB (eP U U (by (try simp only [ByteArray.size_append]);omega)) U (bP U (jF 9 [.string ⟨#[53,48]⟩,.string ⟨#[49,48,48]⟩,.string ⟨#[49,48,49]⟩] fun g25=>dM (γ:=ByteArray) (val:=fun v=> .string v) (φ:=fun v=>v∈([⟨#[53,48]⟩,⟨#[49,48,48]⟩,⟨#[49,48,49]⟩]:List ByteArray)) U rS U U U U (fun wx hm=>(gV [⟨#[53,48]⟩,⟨#[49,48,48]⟩,⟨#[49,48,49]⟩] _ _ _ wx B sb _ hm.k (by omega) (by simp) (by simp) (hm.blkI 0 U) (hm.neRow 0 U U))) fun s26 hs26=>?_))))))
  have zs26:s26.size<=100:=kG hs26 (by decide)
  refine bB (eP U U (by (try simp only [ByteArray.size_append]);omega)) U (bZ U (bR (bM (bC (bA ?_)))))
  exact bK U U fun wx hm=>⟨_,U,(by (try simp only [ByteArray.size_append]);omega),hm.k.more (by omega),hm.g⟩
 refine bS (bB (eN U U) U (bZ U (bR ?_)))
 refine cE U (fun h27=>?_) (fun h27=>?_)
 ·refine bS (bP U ?_)
  refine bB (eP U U (by (try simp only [ByteArray.size_append]);omega)) U (bZ U (bR (bM (bC (bA ?_)))))
  exact bK U U fun wx hm=>⟨_,U,(by (try simp only [ByteArray.size_append]);omega),hm.k.more (by omega),hm.g⟩
 refine pC (γ:=Bool) (I:=(fun (bb18:Bool)=>True)) (S':=(fun (bb18:Bool)=> [(0,.pointer (some ⟨sb,0,none⟩)),(4,.string ⟨#[]⟩),(6,.string s2),(7,.string s4),(8,.string s6),(9,.string (bC8 (at_+v8))),(27,.int .i64 v10),(89,.bool bb18)])) (K':=(fun (bb18:Bool)=>fun w=>eW 25 w B sb (m+1+1+1+1+1))) (L':=(fun (bb18:Bool)=> [(g7,3, [.int .i64 10,.int .i64 60,.int .i64 1440,.int .i64 2000,.int .i64 (-5)]),(g5,9, [.string ⟨#[104,49]⟩,.string ⟨#[104,49]⟩,.string ⟨#[104,50]⟩,.string ⟨#[104,51]⟩,.string ⟨#[65]⟩]),(g3,9, [.string ⟨#[115,49]⟩,.string ⟨#[115,49]⟩,.string ⟨#[115,49]⟩,.string ⟨#[115,50]⟩,.string ⟨#[115,57]⟩]),(g1,9, [.string ⟨#[118,49]⟩,.string ⟨#[118,49]⟩,.string ⟨#[118,50]⟩,.string ⟨#[118,51]⟩,.string ⟨#[110,111,110,101]⟩])])) (O':=(fun (bb18:Bool)=> [])) (X':=(fun (bb18:Bool)=> [TxtO w.heap.size (some sb)])) ?_ ?_
 ·refine bS (bB (eN U U) U (bZ U (bR ?_)))
  refine cE U (fun h28=>?_) (fun h28=>?_)
  ·refine bN ?_
   exact fK (decide (v10=6)) trivial ⟨U,U,U,U,U,U,U,U,trivial⟩ (fun _ hm=>hm.pick [0,1,2,3] [] [0] U U)
  refine bS (bB (eN U U) U (bZ U (bR ?_)))
  refine cE U (fun h29=>?_) (fun h29=>?_)
  ·refine bN ?_
   exact fK (decide (v10=7)) trivial ⟨U,U,U,U,U,U,U,U,trivial⟩ (fun _ hm=>hm.pick [0,1,2,3] [] [0] U U)
  refine bI (bB (eN U U) U (bZ U (bE ?_)))
  exact fK (decide (v10=8)) trivial ⟨U,U,U,U,U,U,U,U,trivial⟩ (fun _ hm=>hm.pick [0,1,2,3] [] [0] U U)
 intro bb18 cC
 replace cC:True:=cC
 refine dC U (fun hh=>?_) (fun hh=>?_)
 ·have h30:bb18=true:=by simpa using hh
  clear hh
  refine bS (bP U (bB (eP U U (by (try simp only [ByteArray.size_append]);omega)) U (bB (eP U U (by (try simp only [ByteArray.size_append]);omega)) U (bP U (bB (eP U U (by (try simp only [ByteArray.size_append]);omega)) U (bB (eP U U (by (try simp only [ByteArray.size_append]);omega)) U (bP U (bB (eP U U (by (try simp only [ByteArray.size_append]);omega)) U (bB (eP U U (by (try simp only [ByteArray.size_append]);omega)) U (bP U (bB (eP U U (by (try simp only [ByteArray.size_append]);omega)) U (bB (eP U U (by (try simp only [ByteArray.size_append]);omega)) U (bP U (jF 9 [.string ⟨#[48]⟩,.string ⟨#[49,48,48]⟩,.string ⟨#[57,57,57,57,57,48]⟩] fun g31=>dM (γ:=ByteArray) (val:=fun v=> .string v) (φ:=fun v=>v∈([⟨#[48]⟩,⟨#[49,48,48]⟩,⟨#[57,57,57,57,57,48]⟩]:List ByteArray)) U rS U U U U (fun wx hm=>(gV [⟨#[48]⟩,⟨#[49,48,48]⟩,⟨#[57,57,57,57,57,48]⟩] _ _ _ wx B sb _ hm.k (by omega) (by simp) (by simp) (hm.blkI 0 U) (hm.neRow 0 U U))) fun s32 hs32=>?_))))))))))))))
  have zs32:s32.size<=100:=kG hs32 (by decide)
  refine bB (eP U U (by (try simp only [ByteArray.size_append]);omega)) U (bB (eP U U (by (try simp only [ByteArray.size_append]);omega)) U (bP U (jF 9 [.string ⟨#[56]⟩,.string ⟨#[52]⟩,.string ⟨#[57]⟩] fun g33=>dM (γ:=ByteArray) (val:=fun v=> .string v) (φ:=fun v=>v∈([⟨#[56]⟩,⟨#[52]⟩,⟨#[57]⟩]:List ByteArray)) U rS U U U U (fun wx hm=>(gV [⟨#[56]⟩,⟨#[52]⟩,⟨#[57]⟩] _ _ _ wx B sb _ hm.k (by omega) (by simp) (by simp) (hm.blkI 0 U) (hm.neRow 0 U U))) fun s34 hs34=>?_)))
  have zs34:s34.size<=100:=kG hs34 (by decide)
  refine bB (eP U U (by (try simp only [ByteArray.size_append]);omega)) U (bZ U (bR (bM (bC (bA ?_)))))
  exact bK U U fun wx hm=>⟨_,U,(by (try simp only [ByteArray.size_append]);omega),hm.k.more (by omega),hm.g⟩
 have h30:bb18=false:=by simpa using hh
 clear hh
 refine bS (bB (eN U U) U (bZ U (bR ?_)))
 refine cE U (fun h35=>?_) (fun h35=>?_)
 ·refine bS (bP U ?_)
  refine bB (eP U U (by (try simp only [ByteArray.size_append]);omega)) U (bB (eP U U (by (try simp only [ByteArray.size_append]);omega)) U (bP U (bB (eP U U (by (try simp only [ByteArray.size_append]);omega)) U (bB (eP U U (by (try simp only [ByteArray.size_append]);omega)) U (bP U (bB (eP U U (by (try simp only [ByteArray.size_append]);omega)) U (bB (eP U U (by (try simp only [ByteArray.size_append]);omega)) U (bZ U (bR (bM (bC (bA ?_))))))))))))
  exact bK U U fun wx hm=>⟨_,U,(by (try simp only [ByteArray.size_append]);omega),hm.k.more (by omega),hm.g⟩
 refine bS (bB (eN U U) U (bZ U (bR ?_)))
 refine cE U (fun h36=>?_) (fun h36=>?_)
 ·refine bS (bP U ?_)
  refine bB (eP U U (by (try simp only [ByteArray.size_append]);omega)) U (bB (eP U U (by (try simp only [ByteArray.size_append]);omega)) U (bP U (bB (eP U U (by (try simp only [ByteArray.size_append]);omega)) U (bZ U (bR (bM (bC (bA ?_))))))))
  exact bK U U fun wx hm=>⟨_,U,(by (try simp only [ByteArray.size_append]);omega),hm.k.more (by omega),hm.g⟩
 refine pC (γ:=Bool) (I:=(fun (bb26:Bool)=>True)) (S':=(fun (bb26:Bool)=> [(0,.pointer (some ⟨sb,0,none⟩)),(4,.string ⟨#[]⟩),(7,.string s4),(8,.string s6),(132,.bool bb26)])) (K':=(fun (bb26:Bool)=>fun w=>eW 25 w B sb (m+1+1+1+1+1))) (L':=(fun (bb26:Bool)=> [(g7,3, [.int .i64 10,.int .i64 60,.int .i64 1440,.int .i64 2000,.int .i64 (-5)]),(g5,9, [.string ⟨#[104,49]⟩,.string ⟨#[104,49]⟩,.string ⟨#[104,50]⟩,.string ⟨#[104,51]⟩,.string ⟨#[65]⟩]),(g3,9, [.string ⟨#[115,49]⟩,.string ⟨#[115,49]⟩,.string ⟨#[115,49]⟩,.string ⟨#[115,50]⟩,.string ⟨#[115,57]⟩]),(g1,9, [.string ⟨#[118,49]⟩,.string ⟨#[118,49]⟩,.string ⟨#[118,50]⟩,.string ⟨#[118,51]⟩,.string ⟨#[110,111,110,101]⟩])])) (O':=(fun (bb26:Bool)=> [])) (X':=(fun (bb26:Bool)=> [TxtO w.heap.size (some sb)])) ?_ ?_
 ·refine bS (bB (eN U U) U (bZ U (bR ?_)))
  refine cE U (fun h37=>?_) (fun h37=>?_)
  ·refine bN ?_
   exact fK (decide (v10=11)) trivial ⟨U,U,U,U,U,trivial⟩ (fun _ hm=>hm.pick [0,1,2,3] [] [0] U U)
  refine bI (bB (eN U U) U (bZ U (bE ?_)))
  exact fK (decide (v10=12)) trivial ⟨U,U,U,U,U,trivial⟩ (fun _ hm=>hm.pick [0,1,2,3] [] [0] U U)
 intro bb26 cC
 replace cC:True:=cC
 refine dC U (fun hh=>?_) (fun hh=>?_)
 ·have h38:bb26=true:=by simpa using hh
  clear hh
  refine bS (bP U (bB (eP U U (by (try simp only [ByteArray.size_append]);omega)) U (bB (eP U U (by (try simp only [ByteArray.size_append]);omega)) U (bP U (bB (eP U U (by (try simp only [ByteArray.size_append]);omega)) U (bB (eP U U (by (try simp only [ByteArray.size_append]);omega)) U (bP U (jF 9 [.string ⟨#[53]⟩,.string ⟨#[51,48,48]⟩,.string ⟨#[52,48,48]⟩] fun g39=>dM (γ:=ByteArray) (val:=fun v=> .string v) (φ:=fun v=>v∈([⟨#[53]⟩,⟨#[51,48,48]⟩,⟨#[52,48,48]⟩]:List ByteArray)) U rS U U U U (fun wx hm=>(gV [⟨#[53]⟩,⟨#[51,48,48]⟩,⟨#[52,48,48]⟩] _ _ _ wx B sb _ hm.k (by omega) (by simp) (by simp) (hm.blkI 0 U) (hm.neRow 0 U U))) fun s40 hs40=>?_))))))))
  have zs40:s40.size<=100:=kG hs40 (by decide)
  refine bB (eP U U (by (try simp only [ByteArray.size_append]);omega)) U (bB (eP U U (by (try simp only [ByteArray.size_append]);omega)) U (bP U (jF 9 [.string ⟨#[56]⟩,.string ⟨#[50]⟩] fun g41=>dM (γ:=ByteArray) (val:=fun v=> .string v) (φ:=fun v=>v∈([⟨#[56]⟩,⟨#[50]⟩]:List ByteArray)) U rS U U U U (fun wx hm=>(gV [⟨#[56]⟩,⟨#[50]⟩] _ _ _ wx B sb _ hm.k (by omega) (by simp) (by simp) (hm.blkI 0 U) (hm.neRow 0 U U))) fun s42 hs42=>?_)))
  have zs42:s42.size<=100:=kG hs42 (by decide)
  refine bB (eP U U (by (try simp only [ByteArray.size_append]);omega)) U (bZ U (bR (bM (bC (bA ?_)))))
  exact bK U U fun wx hm=>⟨_,U,(by (try simp only [ByteArray.size_append]);omega),hm.k.more (by omega),hm.g⟩
 have h38:bb26=false:=by simpa using hh
 clear hh
 refine bN (bG (bD (bS (bP U (bP U (bB (eP U U (by (try simp only [ByteArray.size_append]);omega)) U (bB (eP U U (by (try simp only [ByteArray.size_append]);omega)) U (bP U (bB (eP U U (by (try simp only [ByteArray.size_append]);omega)) U (bB (eP U U (by (try simp only [ByteArray.size_append]);omega)) U (bP U (bB (eP U U (by (try simp only [ByteArray.size_append]);omega)) U (bB (eP U U (by (try simp only [ByteArray.size_append]);omega)) U (jF 9 [.string (((⟨#[112,97,121,32]⟩:ByteArray)++s6)++(⟨#[32,49,48,48,48]⟩:ByteArray)),.string (((⟨#[112,97,121,32]⟩:ByteArray)++s6)++(⟨#[32,53,48,48]⟩:ByteArray)),.string (((⟨#[112,97,121,32]⟩:ByteArray)++s6)++(⟨#[32,45,49]⟩:ByteArray)),.string ⟨#[100,97,110,99,101]⟩,.string ⟨#[101,110,116,101,114,32,118,49]⟩,.string ⟨#[112,97,121,32,32,104,49,32,53]⟩,.string ⟨#[98,111,111,107,32,104,49,32,109,105,110,105,32,120,32,53,32,53]⟩,.string ⟨#[115,116,97,114,116,32,104,49,32,97,110,110,32,53]⟩] fun g43=>dM (γ:=ByteArray) (val:=fun v=> .string v) (φ:=fun v=>v∈([((⟨#[112,97,121,32]⟩:ByteArray)++s6)++(⟨#[32,49,48,48,48]⟩:ByteArray),((⟨#[112,97,121,32]⟩:ByteArray)++s6)++(⟨#[32,53,48,48]⟩:ByteArray),((⟨#[112,97,121,32]⟩:ByteArray)++s6)++(⟨#[32,45,49]⟩:ByteArray),⟨#[100,97,110,99,101]⟩,⟨#[101,110,116,101,114,32,118,49]⟩,⟨#[112,97,121,32,32,104,49,32,53]⟩,⟨#[98,111,111,107,32,104,49,32,109,105,110,105,32,120,32,53,32,53]⟩,⟨#[115,116,97,114,116,32,104,49,32,97,110,110,32,53]⟩]:List ByteArray)) U rS U U U U (fun wx hm=>(gV [((⟨#[112,97,121,32]⟩:ByteArray)++s6)++(⟨#[32,49,48,48,48]⟩:ByteArray),((⟨#[112,97,121,32]⟩:ByteArray)++s6)++(⟨#[32,53,48,48]⟩:ByteArray),((⟨#[112,97,121,32]⟩:ByteArray)++s6)++(⟨#[32,45,49]⟩:ByteArray),⟨#[100,97,110,99,101]⟩,⟨#[101,110,116,101,114,32,118,49]⟩,⟨#[112,97,121,32,32,104,49,32,53]⟩,⟨#[98,111,111,107,32,104,49,32,109,105,110,105,32,120,32,53,32,53]⟩,⟨#[115,116,97,114,116,32,104,49,32,97,110,110,32,53]⟩] _ _ _ wx B sb _ hm.k (by omega) (by simp) (by simp) (hm.blkI 0 U) (hm.neRow 0 U U))) fun s44 hs44=>bZ U (bR (bM ?_))))))))))))))))
 refine bK U U fun wx hm=>?_
 exact ⟨_,U,(by
  have hh:=hs44
  simp only [List.mem_cons,List.not_mem_nil,or_false] at hh
  rcases hh with hh|hh|hh|hh|hh|hh|hh|hh <;> rw [hh] <;> (try simp only [ByteArray.size_append]) <;> omega),hm.k.more (by omega),hm.g⟩
theorem TxtO.mfarS {N:Nat} {row:Option Nat}:bL3 (TxtO N row):=fun M g w w' _ ⟨es,ck,hb⟩ h3 h=>⟨h.1.same fun k hk=>h3.block k (h.1.lt hk) (fun e=>by
 have e2:k=g:=by injection e
 subst e2
 obtain ⟨c,T,f,hc⟩:=h.1.cells hk
 rw [hb] at hc;cases hc),h.2⟩
theorem TxtO.up {N M:Nat} {row:Option Nat} {w:World} (h:TxtO N row w) (hM:N<=M):TxtO M row w:=⟨h.1,fun k hk=>⟨Nat.lt_of_lt_of_le (h.2 k hk).1 hM,(h.2 k hk).2⟩⟩
theorem cJ7 (q:Nat) (w:World) (B sb m:Nat) (hS:eW 25 w B sb m) (hm:m<=900000) (htx:TxtO w.heap.size (some sb) w) (hq:q<=20):
 Calls prog 28 #[.pointer (some ⟨sb,0,none⟩),.int .i64 ((q:Nat):Int)] w (fun e w'=>∃(A:Option Addr) (n c:Nat) (l:List Ny),e=.returned (.slice A n c)/\w'.ownsRow w.heap.size 171 4 (.slice A n c) n (l.flatMap eS)/\l.length=n/\(∀x∈l,uS x)/\n<=q/\eW 25 w' B sb (m+20 *q)/\w.grownBy w' (some sb)):=by
 refine cV ⟨67,w,(some sb), []⟩ func28 U ntmps28 U (bH5 (X:= [TxtO w.heap.size (some sb)]) hS (cG htx cY) (cH TxtO.lasts cZ)) (bS ?_)
 refine rO 171 4 ?_
 refine bZ U (bR (bS (bZ U (bR (bS (bZ U (bR (bH (bI (kX (enc:=vI) (ek:=dN) (fun g=>True) (fun _ hm=>trivial) U fun gm hne_gm=>bZ U (bR (bH (bS (bP U (bP U (bR (bO ?_)))))))))))))))))
 refine dX (γ:=Nat×Int×(ByteArray->Option Int)×Option Addr×Nat×List Ny) (fun (gq:Nat×Int×(ByteArray->Option Int)×Option Addr×Nat×List Ny)=>gq.1<=q/\(0<=gq.2.1/\gq.2.1<=500 *((gq.1:Nat):Int))/\(∀k v,gq.2.2.1 k=some v->0<=v/\v<=((gq.1:Nat):Int))/\gq.2.2.2.2.2.length=gq.1/\∀x∈gq.2.2.2.2.2,uS x) (fun (gq:Nat×Int×(ByteArray->Option Int)×Option Addr×Nat×List Ny)=> [(0,.pointer (some ⟨sb,0,none⟩)),(4,.slice none 0 0),(5,.slice gq.2.2.2.1 gq.1 gq.2.2.2.2.1),(6,.int .i64 gq.2.1),(7,.map (some gm)),(11,.int .i64 ((q:Nat):Int)),(12,.int .i64 ((gq.1:Nat):Int))]) (fun (gq:Nat×Int×(ByteArray->Option Int)×Option Addr×Nat×List Ny)=>fun w=>eW 25 w B sb (m+20 *gq.1)) (fun (gq:Nat×Int×(ByteArray->Option Int)×Option Addr×Nat×List Ny)=> []) (fun (gq:Nat×Int×(ByteArray->Option Int)×Option Addr×Nat×List Ny)=> [⟨.slice gq.2.2.2.1 gq.1 gq.2.2.2.2.1,171,4,gq.1,gq.2.2.2.2.2.flatMap eS⟩]) (fun (gq:Nat×Int×(ByteArray->Option Int)×Option Addr×Nat×List Ny)=> [bV vI dN w.heap.size gm (gq.2.2.1),TxtO w.heap.size (some sb)]) (fun (gq:Nat×Int×(ByteArray->Option Int)×Option Addr×Nat×List Ny)=>q - gq.1) (0,0,mZ,none,0, []) ⟨Nat.zero_le _,⟨Int.le_refl _,by decide⟩,(fun _ _ h=>by cases h),U,(fun _ h=>by cases h)⟩ ⟨U,U,U,U,U,U,U,trivial⟩ (fun _ hm=>hm.pick [] [0] [0,1] U U) ?_
 rintro ⟨i,at_,F,oA,oc,xl⟩ cC
 replace cC:i<=q/\(0<=at_/\at_<=500 *((i:Nat):Int))/\(∀k v,F k=some v->0<=v/\v<=((i:Nat):Int))/\xl.length=i/\∀x∈xl,uS x:=cC
 dsimp only
 refine bS ?_
 obtain ⟨hi0,⟨ha0,ha1⟩,hF,hxl,hxok⟩:=cC
 refine bB (dD U U) U (bR (bH ?_))
 refine cE U (fun hi=>?_) (fun hi=>?_)
 ·refine bN (bD (bH (bO (bS (bP U (bP U ?_))))))
  refine jF 3 [.int .i64 0,.int .i64 1,.int .i64 5,.int .i64 10,.int .i64 100,.int .i64 500] fun g1=>dM (γ:=Int) (val:=fun v=> .int .i64 v) (φ:=fun v=>v∈([0,1,5,10,100,500]:List Int)) U pP U U U U (fun wx hm=>(eT [0,1,5,10,100,500] _ _ _ wx B sb _ hm.k (by omega) (by simp) (by simp) (hm.blkI 0 U) (hm.neRow 0 U U))) fun v2 hv2=>?_
  have bv2:0<=v2/\v2<=500:=gQ hv2 (by decide)
  have bv20:=bv2.1
  have bv21:=bv2.2
  clear bv2
  refine gN U U (bZ U (bR (bS (bP U (jF 9 [.string ⟨#[100,49]⟩,.string ⟨#[100,49]⟩,.string ⟨#[100,50]⟩,.string ⟨#[100,51]⟩] fun g3=>dM (γ:=ByteArray) (val:=fun v=> .string v) (φ:=fun v=>v∈([⟨#[100,49]⟩,⟨#[100,49]⟩,⟨#[100,50]⟩,⟨#[100,51]⟩]:List ByteArray)) U rS U U U U (fun wx hm=>(gV [⟨#[100,49]⟩,⟨#[100,49]⟩,⟨#[100,50]⟩,⟨#[100,51]⟩] _ _ _ wx B sb _ hm.k (by omega) (by simp) (by simp) (hm.blkI 0 U) (hm.neRow 0 U U))) fun s4 hs4=>?_)))))
  have zs4:s4.size<=100:=kG hs4 (by decide)
  refine bZ U (bR ?_)
  obtain ⟨nd,hnd⟩:∃z,z=(F s4).getD 0:=⟨_,rfl⟩
  have hndb:0<=nd/\nd<=((i:Nat):Int):=by
   cases hq:F s4 with
   |none=>rw [hnd,hq];exact ⟨Int.le_refl _,Int.natCast_nonneg _⟩
   |some v=>rw [hnd,hq];exact hF _ v hq
  refine bS (bP U (bP U (bB (kV (enc:=vI) (ek:=dN) (s:=s4) (e:=3) (0:Int) kB (by kernel_rfl) (by kernel_rfl) U U (fun _ hm=>(hm.fact 0 U))) U (bL 24 (v':= .int .i64 nd) U (congrArg vI hnd.symm) (gN U U (kO (enc:=vI) (ek:=dN) (s:=s4) (v:=nd+1) (e:=3) (X':= [TxtO w.heap.size (some sb)]) 0 kB (by kernel_rfl) U U U U (cP (i:=1) (TxtO.mfarS).far U fZ) (bR (bH (gd (fun wz=>(bV vI dN w.heap.size gm (fP (F) s4 (nd+1))) wz/\True) mixed (fun _ hm=>⟨hm.fa 0,trivial⟩) fun z=>wq 0 U (bJ U) (wq 1 U (bJ U) (wq 2 U (bJ U) (wq 3 U (bJ U) (wq 4 U (kV (enc:=vI) (ek:=dN) (s:=s4) (e:=3) (0:Int) kB (by kernel_rfl) (by kernel_rfl) U U (fun _ hm=>(hm.1))) (dG 30 (v':= .int .i64 (nd+1)) U (congrArg vI (by rw [hU];rfl)) (wq 5 U (bJ U) (wq 6 U (bJ U) ?_))))))))))))))))
  refine kK [7,9] (by kernel_rfl) U ⟨⟨_,U,?_⟩,⟨_,U,?_⟩,trivial⟩
  ·refine dM (γ:=ByteArray) (val:=fun v=> .string v) (φ:=fun v=>v.size<=1000) U fE1 U U U U (fun wx hm=>((cC1 (at_+v2) wx B sb _ hm.k (by omega) (TxtO.up (hm.fact 1 U) hm.g.size) (by omega)).mono fun _ _ ⟨v,he,hz,hS,hg⟩=>⟨v,hz,he,hS,hg⟩)) fun p5 hp5=>?_
   refine bE (nw 11 255 (fun _ hm=>⟨hm.fa 0,trivial⟩) fun z=>wq 8 U (dJ (cs:= [.int .i64 (at_+v2),.string s4,.int .i64 (nd+1),.string p5]) U (by kernel_rfl)) (eC 9 U (dH cI4 U fun g6=>bE (nw 11 1023 (fun _ hm=>⟨hm.fa 0,trivial⟩) fun z=>eC 10 U (jX (cs':= [.int .i64 (at_+v2),.string s4,.int .i64 (nd+1),.string p5]) 0 kM U U U U (bE (nw 11 2047 (fun _ hm=>⟨hm.fa 0,trivial⟩) fun z=>jH (bD (bH (bS (bP U (dM (γ:=Bool) (val:=fun v=> .bool v) (φ:=fun v=>True) U xV U U U U (fun wx hm=>((jZ _ wx B sb _ hm.k (by omega) (by omega) (by omega)).mono fun _ _ ⟨v,he,hS,hg⟩=>⟨v,trivial,he,hS,hg⟩)) fun f7 _=>bR ?_))))))))))))
   refine dC U (fun hh=>?_) (fun hh=>?_)
   ·have h8:f7=true:=by simpa using hh
    refine bS (bP U (dM (γ:=Int) (val:=fun v=> .int .i64 v) (φ:=fun v=>mW 4 v) U bR9 U U U U (fun wx hm=>(mN _ wx B sb _ hm.k (by omega) (by omega) (by omega))) fun v9 hv9=>bR (bO (bS (bB (eN U U) U (bZ U (bR ?_)))))))
    refine cE U (fun h10=>?_) (fun h10=>?_)
    ·refine bI (bP U ?_)
     refine dM (γ:=Int) (val:=fun v=> .int .i64 v) (φ:=fun v=> -2000000000000000<=v/\v<=2000000000000000) U bO3 U U U U (fun wx hm=>(mI _ _ wx B sb _ hm.k (by omega) (by omega) (by omega) (by omega))) fun v11 hv11=>dW mP U U (jJ 0 fF U U U U U U (bE (bG (bD (bI (bP U (bB (cX kM U (fun _ hm=>hm.blkI 0 U) U U) U (jF 171 [.int .i64 v11,.string s4,.int .i64 (nd+1),.string p5] fun g12=>eF (news:= [.int .i64 v11,.string s4,.int .i64 (nd+1),.string p5]) 0 0 cB2 U U U U U U U (by omega) (by unfold maxLen;omega) U U fun v2 hv2=>?_))))))))
     refine eD (R:=∃A cc,v2= .slice A (i+1) cc) (fun wx hm=>dS (hm.ownI 0 U)) ?_
     rintro ⟨A4,c4,rfl⟩
     refine bZ U (bE (bG (bD (bI (gN U U (bP U (bE ?_)))))))
     obtain ⟨us,yI⟩:∃z,z=xl++ [(⟨v11,s4,nd+1,p5⟩:Ny)]:=⟨_,rfl⟩
     have hul:us.length=i+1:=by rw [yI];simp [hxl]
     have hxs:xl.flatMap eS++([.int .i64 v11,.string s4,.int .i64 (nd+1),.string p5]:List Value)=us.flatMap eS:=by rw [yI];simp [eS]
     have yH:∀x∈us,uS x:=fun x hx=>by
      rw [yI] at hx
      rcases List.mem_append.1 hx with hx|hx
      ·exact hxok x hx
      rw [List.mem_singleton.1 hx]
      exact ⟨⟨by dsimp only;omega,by dsimp only;omega⟩,by dsimp only;omega,⟨by dsimp only;omega,by dsimp only;omega⟩,by dsimp only;omega⟩
     rw [hxs]
     exact cQ (i+1,at_+v2,fP (F) s4 (nd+1),A4,c4,us) ⟨by dsimp only;omega,⟨by dsimp only;omega,by dsimp only;omega⟩,(fun k v hkv=>by
      rcases eK hkv with ⟨_,rfl⟩|h
      ·omega
      have:=hF k v h;omega),hul,yH⟩ (by dsimp only;omega) ⟨rfl,rfl,rfl,rfl,rfl,rfl,(cS (by dsimp only;omega)),trivial⟩ (fun _ hm=>(hm.more rfl (by first|omega|(dsimp only;omega))).pick [] [0] [0,1] rfl rfl)
    refine bS (bB (eN U U) U (bZ U (bR ?_)))
    refine cE U (fun h13=>?_) (fun h13=>?_)
    ·refine bI (bP U ?_)
     refine jF 9 [.string ⟨#[]⟩,.string ⟨#[65]⟩] fun g14=>dM (γ:=ByteArray) (val:=fun v=> .string v) (φ:=fun v=>v∈([⟨#[]⟩,⟨#[65]⟩]:List ByteArray)) U rS U U U U (fun wx hm=>(gV [⟨#[]⟩,⟨#[65]⟩] _ _ _ wx B sb _ hm.k (by omega) (by simp) (by simp) (hm.blkI 0 U) (hm.neRow 0 U U))) fun s15 hs15=>?_
     have zs15:s15.size<=100:=kG hs15 (by decide)
     refine dW nZ U U (jJ 1 fE U U U U U U (bE (bG (bD (bI (bP U (bB (cX kM U (fun _ hm=>hm.blkI 1 U) U U) U (jF 171 [.int .i64 (at_+v2),.string s15,.int .i64 (nd+1),.string p5] fun g16=>eF (news:= [.int .i64 (at_+v2),.string s15,.int .i64 (nd+1),.string p5]) 0 0 cB2 U U U U U U U (by omega) (by unfold maxLen;omega) U U fun v2 hv2=>?_))))))))
     refine eD (R:=∃A cc,v2= .slice A (i+1) cc) (fun wx hm=>dS (hm.ownI 0 U)) ?_
     rintro ⟨A4,c4,rfl⟩
     refine bZ U (bE (bG (bD (bI (gN U U (bP U (bE ?_)))))))
     obtain ⟨us,yI⟩:∃z,z=xl++ [(⟨at_+v2,s15,nd+1,p5⟩:Ny)]:=⟨_,rfl⟩
     have hul:us.length=i+1:=by rw [yI];simp [hxl]
     have hxs:xl.flatMap eS++([.int .i64 (at_+v2),.string s15,.int .i64 (nd+1),.string p5]:List Value)=us.flatMap eS:=by rw [yI];simp [eS]
     have yH:∀x∈us,uS x:=fun x hx=>by
      rw [yI] at hx
      rcases List.mem_append.1 hx with hx|hx
      ·exact hxok x hx
      rw [List.mem_singleton.1 hx]
      exact ⟨⟨by dsimp only;omega,by dsimp only;omega⟩,by dsimp only;omega,⟨by dsimp only;omega,by dsimp only;omega⟩,by dsimp only;omega⟩
     rw [hxs]
     exact cQ (i+1,at_+v2,fP (F) s4 (nd+1),A4,c4,us) ⟨by dsimp only;omega,⟨by dsimp only;omega,by dsimp only;omega⟩,(fun k v hkv=>by
      rcases eK hkv with ⟨_,rfl⟩|h
      ·omega
      have:=hF k v h;omega),hul,yH⟩ (by dsimp only;omega) ⟨rfl,rfl,rfl,rfl,rfl,rfl,(cS (by dsimp only;omega)),trivial⟩ (fun _ hm=>(hm.more rfl (by first|omega|(dsimp only;omega))).pick [] [0] [0,1] rfl rfl)
    refine bS (bB (eN U U) U (bZ U (bR ?_)))
    refine cE U (fun h17=>?_) (fun h17=>?_)
    ·refine bI (bP U ?_)
     refine dM (γ:=Int) (val:=fun v=> .int .i64 v) (φ:=fun v=> -2000000000000000<=v/\v<=2000000000000000) U bO3 U U U U (fun wx hm=>(mI _ _ wx B sb _ hm.k (by omega) (by omega) (by omega) (by omega))) fun v18 hv18=>dW qE U U (jJ 0 fF U U U U U U (bE (bG (bD (bI (bP U (bB (cX kM U (fun _ hm=>hm.blkI 0 U) U U) U (jF 171 [.int .i64 (at_+v2),.string s4,.int .i64 v18,.string p5] fun g19=>eF (news:= [.int .i64 (at_+v2),.string s4,.int .i64 v18,.string p5]) 0 0 cB2 U U U U U U U (by omega) (by unfold maxLen;omega) U U fun v2 hv2=>?_))))))))
     refine eD (R:=∃A cc,v2= .slice A (i+1) cc) (fun wx hm=>dS (hm.ownI 0 U)) ?_
     rintro ⟨A4,c4,rfl⟩
     refine bZ U (bE (bG (bD (bI (gN U U (bP U (bE ?_)))))))
     obtain ⟨us,yI⟩:∃z,z=xl++ [(⟨at_+v2,s4,v18,p5⟩:Ny)]:=⟨_,rfl⟩
     have hul:us.length=i+1:=by rw [yI];simp [hxl]
     have hxs:xl.flatMap eS++([.int .i64 (at_+v2),.string s4,.int .i64 v18,.string p5]:List Value)=us.flatMap eS:=by rw [yI];simp [eS]
     have yH:∀x∈us,uS x:=fun x hx=>by
      rw [yI] at hx
      rcases List.mem_append.1 hx with hx|hx
      ·exact hxok x hx
      rw [List.mem_singleton.1 hx]
      exact ⟨⟨by dsimp only;omega,by dsimp only;omega⟩,by dsimp only;omega,⟨by dsimp only;omega,by dsimp only;omega⟩,by dsimp only;omega⟩
     rw [hxs]
     exact cQ (i+1,at_+v2,fP (F) s4 (nd+1),A4,c4,us) ⟨by dsimp only;omega,⟨by dsimp only;omega,by dsimp only;omega⟩,(fun k v hkv=>by
      rcases eK hkv with ⟨_,rfl⟩|h
      ·omega
      have:=hF k v h;omega),hul,yH⟩ (by dsimp only;omega) ⟨rfl,rfl,rfl,rfl,rfl,rfl,(cS (by dsimp only;omega)),trivial⟩ (fun _ hm=>(hm.more rfl (by first|omega|(dsimp only;omega))).pick [] [0] [0,1] rfl rfl)
    refine bI (bP U (jF 9 [.string ⟨#[]⟩,.string ⟨#[97,10]⟩,.string ⟨#[195]⟩] fun g20=>dM (γ:=ByteArray) (val:=fun v=> .string v) (φ:=fun v=>v∈([⟨#[]⟩,⟨#[97,10]⟩,⟨#[195]⟩]:List ByteArray)) U rS U U U U (fun wx hm=>(gV [⟨#[]⟩,⟨#[97,10]⟩,⟨#[195]⟩] _ _ _ wx B sb _ hm.k (by omega) (by simp) (by simp) (hm.blkI 0 U) (hm.neRow 0 U U))) fun s21 hs21=>?_))
    have zs21:s21.size<=100:=kG hs21 (by decide)
    refine dW qW U U (jJ 1 fE U U U U U U (bE (bG (bD (bI (bP U (bB (cX kM U (fun _ hm=>hm.blkI 1 U) U U) U (jF 171 [.int .i64 (at_+v2),.string s4,.int .i64 (nd+1),.string s21] fun g22=>eF (news:= [.int .i64 (at_+v2),.string s4,.int .i64 (nd+1),.string s21]) 0 0 cB2 U U U U U U U (by omega) (by unfold maxLen;omega) U U fun v2 hv2=>?_))))))))
    refine eD (R:=∃A cc,v2= .slice A (i+1) cc) (fun wx hm=>dS (hm.ownI 0 U)) ?_
    rintro ⟨A4,c4,rfl⟩
    refine bZ U (bE (bG (bD (bI (gN U U (bP U (bE ?_)))))))
    obtain ⟨us,yI⟩:∃z,z=xl++ [(⟨at_+v2,s4,nd+1,s21⟩:Ny)]:=⟨_,rfl⟩
    have hul:us.length=i+1:=by rw [yI];simp [hxl]
    have hxs:xl.flatMap eS++([.int .i64 (at_+v2),.string s4,.int .i64 (nd+1),.string s21]:List Value)=us.flatMap eS:=by rw [yI];simp [eS]
    have yH:∀x∈us,uS x:=fun x hx=>by
     rw [yI] at hx
     rcases List.mem_append.1 hx with hx|hx
     ·exact hxok x hx
     rw [List.mem_singleton.1 hx]
     exact ⟨⟨by dsimp only;omega,by dsimp only;omega⟩,by dsimp only;omega,⟨by dsimp only;omega,by dsimp only;omega⟩,by dsimp only;omega⟩
    rw [hxs]
    exact cQ (i+1,at_+v2,fP (F) s4 (nd+1),A4,c4,us) ⟨by dsimp only;omega,⟨by dsimp only;omega,by dsimp only;omega⟩,(fun k v hkv=>by
     rcases eK hkv with ⟨_,rfl⟩|h
     ·omega
     have:=hF k v h;omega),hul,yH⟩ (by dsimp only;omega) ⟨rfl,rfl,rfl,rfl,rfl,rfl,(cS (by dsimp only;omega)),trivial⟩ (fun _ hm=>(hm.more rfl (by first|omega|(dsimp only;omega))).pick [] [0] [0,1] rfl rfl)
   have h8:f7=false:=by simpa using hh
   refine bN (bD (bI (bP U (bB (cX kM U (fun _ hm=>hm.blkI 0 U) U U) U (jF 171 [.int .i64 (at_+v2),.string s4,.int .i64 (nd+1),.string p5] fun g23=>eF (news:= [.int .i64 (at_+v2),.string s4,.int .i64 (nd+1),.string p5]) 0 0 cB2 U U U U U U U (by omega) (by unfold maxLen;omega) U U fun v2 hv2=>?_)))))
   refine eD (R:=∃A cc,v2= .slice A (i+1) cc) (fun wx hm=>dS (hm.ownI 0 U)) ?_
   rintro ⟨A4,c4,rfl⟩
   refine bZ U (bE (bG (bD (bI (gN U U (bP U (bE ?_)))))))
   obtain ⟨us,yI⟩:∃z,z=xl++ [(⟨at_+v2,s4,nd+1,p5⟩:Ny)]:=⟨_,rfl⟩
   have hul:us.length=i+1:=by rw [yI];simp [hxl]
   have hxs:xl.flatMap eS++([.int .i64 (at_+v2),.string s4,.int .i64 (nd+1),.string p5]:List Value)=us.flatMap eS:=by rw [yI];simp [eS]
   have yH:∀x∈us,uS x:=fun x hx=>by
    rw [yI] at hx
    rcases List.mem_append.1 hx with hx|hx
    ·exact hxok x hx
    rw [List.mem_singleton.1 hx]
    exact ⟨⟨by dsimp only;omega,by dsimp only;omega⟩,by dsimp only;omega,⟨by dsimp only;omega,by dsimp only;omega⟩,by dsimp only;omega⟩
   rw [hxs]
   exact cQ (i+1,at_+v2,fP (F) s4 (nd+1),A4,c4,us) ⟨by dsimp only;omega,⟨by dsimp only;omega,by dsimp only;omega⟩,(fun k v hkv=>by
    rcases eK hkv with ⟨_,rfl⟩|h
    ·omega
    have:=hF k v h;omega),hul,yH⟩ (by dsimp only;omega) ⟨rfl,rfl,rfl,rfl,rfl,rfl,(cS (by dsimp only;omega)),trivial⟩ (fun _ hm=>(hm.more rfl (by first|omega|(dsimp only;omega))).pick [] [0] [0,1] rfl rfl)
  refine dH cI4 U fun g24=>bE (nw 11 639 (fun _ hm=>⟨hm.fa 0,trivial⟩) fun z=>eC 7 U (dM (γ:=ByteArray) (val:=fun v=> .string v) (φ:=fun v=>v.size<=1000) U fE1 U U U U (fun wx hm=>((cC1 (at_+v2) wx B sb _ hm.k (by omega) (TxtO.up (hm.fact 1 U) hm.g.size) (by omega)).mono fun _ _ ⟨v,he,hz,hS,hg⟩=>⟨v,hz,he,hS,hg⟩)) fun p25 hp25=>bE (nw 11 767 (fun _ hm=>⟨hm.fa 0,trivial⟩) fun z=>wq 8 U (dJ (cs:= [.int .i64 (at_+v2),.string s4,.int .i64 (nd+1),.string p25]) U (by kernel_rfl)) (eC 10 U (jX (cs':= [.int .i64 (at_+v2),.string s4,.int .i64 (nd+1),.string p25]) 0 kM U U U U (bE (nw 11 2047 (fun _ hm=>⟨hm.fa 0,trivial⟩) fun z=>jH (bD (bH (bS (bP U (dM (γ:=Bool) (val:=fun v=> .bool v) (φ:=fun v=>True) U xV U U U U (fun wx hm=>((jZ _ wx B sb _ hm.k (by omega) (by omega) (by omega)).mono fun _ _ ⟨v,he,hS,hg⟩=>⟨v,trivial,he,hS,hg⟩)) fun f26 _=>bR ?_))))))))))))
  refine dC U (fun hh=>?_) (fun hh=>?_)
  ·have h27:f26=true:=by simpa using hh
   refine bS (bP U (dM (γ:=Int) (val:=fun v=> .int .i64 v) (φ:=fun v=>mW 4 v) U bR9 U U U U (fun wx hm=>(mN _ wx B sb _ hm.k (by omega) (by omega) (by omega))) fun v28 hv28=>bR (bO (bS (bB (eN U U) U (bZ U (bR ?_)))))))
   refine cE U (fun h29=>?_) (fun h29=>?_)
   ·refine bI (bP U ?_)
    refine dM (γ:=Int) (val:=fun v=> .int .i64 v) (φ:=fun v=> -2000000000000000<=v/\v<=2000000000000000) U bO3 U U U U (fun wx hm=>(mI _ _ wx B sb _ hm.k (by omega) (by omega) (by omega) (by omega))) fun v30 hv30=>dW mP U U (jJ 0 fF U U U U U U (bE (bG (bD (bI (bP U (bB (cX kM U (fun _ hm=>hm.blkI 0 U) U U) U (jF 171 [.int .i64 v30,.string s4,.int .i64 (nd+1),.string p25] fun g31=>eF (news:= [.int .i64 v30,.string s4,.int .i64 (nd+1),.string p25]) 0 0 cB2 U U U U U U U (by omega) (by unfold maxLen;omega) U U fun v2 hv2=>?_))))))))
    refine eD (R:=∃A cc,v2= .slice A (i+1) cc) (fun wx hm=>dS (hm.ownI 0 U)) ?_
    rintro ⟨A4,c4,rfl⟩
    refine bZ U (bE (bG (bD (bI (gN U U (bP U (bE ?_)))))))
    obtain ⟨us,yI⟩:∃z,z=xl++ [(⟨v30,s4,nd+1,p25⟩:Ny)]:=⟨_,rfl⟩
    have hul:us.length=i+1:=by rw [yI];simp [hxl]
    have hxs:xl.flatMap eS++([.int .i64 v30,.string s4,.int .i64 (nd+1),.string p25]:List Value)=us.flatMap eS:=by rw [yI];simp [eS]
    have yH:∀x∈us,uS x:=fun x hx=>by
     rw [yI] at hx
     rcases List.mem_append.1 hx with hx|hx
     ·exact hxok x hx
     rw [List.mem_singleton.1 hx]
     exact ⟨⟨by dsimp only;omega,by dsimp only;omega⟩,by dsimp only;omega,⟨by dsimp only;omega,by dsimp only;omega⟩,by dsimp only;omega⟩
    rw [hxs]
    exact cQ (i+1,at_+v2,fP (F) s4 (nd+1),A4,c4,us) ⟨by dsimp only;omega,⟨by dsimp only;omega,by dsimp only;omega⟩,(fun k v hkv=>by
     rcases eK hkv with ⟨_,rfl⟩|h
     ·omega
     have:=hF k v h;omega),hul,yH⟩ (by dsimp only;omega) ⟨rfl,rfl,rfl,rfl,rfl,rfl,(cS (by dsimp only;omega)),trivial⟩ (fun _ hm=>(hm.more rfl (by first|omega|(dsimp only;omega))).pick [] [0] [0,1] rfl rfl)
   refine bS (bB (eN U U) U (bZ U (bR ?_)))
   refine cE U (fun zW=>?_) (fun zW=>?_)
   ·refine bI (bP U ?_)
    refine jF 9 [.string ⟨#[]⟩,.string ⟨#[65]⟩] fun g33=>dM (γ:=ByteArray) (val:=fun v=> .string v) (φ:=fun v=>v∈([⟨#[]⟩,⟨#[65]⟩]:List ByteArray)) U rS U U U U (fun wx hm=>(gV [⟨#[]⟩,⟨#[65]⟩] _ _ _ wx B sb _ hm.k (by omega) (by simp) (by simp) (hm.blkI 0 U) (hm.neRow 0 U U))) fun s34 hs34=>?_
    have zs34:s34.size<=100:=kG hs34 (by decide)
    refine dW nZ U U (jJ 1 fE U U U U U U (bE (bG (bD (bI (bP U (bB (cX kM U (fun _ hm=>hm.blkI 1 U) U U) U (jF 171 [.int .i64 (at_+v2),.string s34,.int .i64 (nd+1),.string p25] fun g35=>eF (news:= [.int .i64 (at_+v2),.string s34,.int .i64 (nd+1),.string p25]) 0 0 cB2 U U U U U U U (by omega) (by unfold maxLen;omega) U U fun v2 hv2=>?_))))))))
    refine eD (R:=∃A cc,v2= .slice A (i+1) cc) (fun wx hm=>dS (hm.ownI 0 U)) ?_
    rintro ⟨A4,c4,rfl⟩
    refine bZ U (bE (bG (bD (bI (gN U U (bP U (bE ?_)))))))
    obtain ⟨us,yI⟩:∃z,z=xl++ [(⟨at_+v2,s34,nd+1,p25⟩:Ny)]:=⟨_,rfl⟩
    have hul:us.length=i+1:=by rw [yI];simp [hxl]
    have hxs:xl.flatMap eS++([.int .i64 (at_+v2),.string s34,.int .i64 (nd+1),.string p25]:List Value)=us.flatMap eS:=by rw [yI];simp [eS]
    have yH:∀x∈us,uS x:=fun x hx=>by
     rw [yI] at hx
     rcases List.mem_append.1 hx with hx|hx
     ·exact hxok x hx
     rw [List.mem_singleton.1 hx]
     exact ⟨⟨by dsimp only;omega,by dsimp only;omega⟩,by dsimp only;omega,⟨by dsimp only;omega,by dsimp only;omega⟩,by dsimp only;omega⟩
    rw [hxs]
    exact cQ (i+1,at_+v2,fP (F) s4 (nd+1),A4,c4,us) ⟨by dsimp only;omega,⟨by dsimp only;omega,by dsimp only;omega⟩,(fun k v hkv=>by
     rcases eK hkv with ⟨_,rfl⟩|h
     ·omega
     have:=hF k v h;omega),hul,yH⟩ (by dsimp only;omega) ⟨rfl,rfl,rfl,rfl,rfl,rfl,(cS (by dsimp only;omega)),trivial⟩ (fun _ hm=>(hm.more rfl (by first|omega|(dsimp only;omega))).pick [] [0] [0,1] rfl rfl)
   refine bS (bB (eN U U) U (bZ U (bR ?_)))
   refine cE U (fun h36=>?_) (fun h36=>?_)
   ·refine bI (bP U ?_)
    refine dM (γ:=Int) (val:=fun v=> .int .i64 v) (φ:=fun v=> -2000000000000000<=v/\v<=2000000000000000) U bO3 U U U U (fun wx hm=>(mI _ _ wx B sb _ hm.k (by omega) (by omega) (by omega) (by omega))) fun v37 hv37=>dW qE U U (jJ 0 fF U U U U U U (bE (bG (bD (bI (bP U (bB (cX kM U (fun _ hm=>hm.blkI 0 U) U U) U (jF 171 [.int .i64 (at_+v2),.string s4,.int .i64 v37,.string p25] fun g38=>eF (news:= [.int .i64 (at_+v2),.string s4,.int .i64 v37,.string p25]) 0 0 cB2 U U U U U U U (by omega) (by unfold maxLen;omega) U U fun v2 hv2=>?_))))))))
    refine eD (R:=∃A cc,v2= .slice A (i+1) cc) (fun wx hm=>dS (hm.ownI 0 U)) ?_
    rintro ⟨A4,c4,rfl⟩
    refine bZ U (bE (bG (bD (bI (gN U U (bP U (bE ?_)))))))
    obtain ⟨us,yI⟩:∃z,z=xl++ [(⟨at_+v2,s4,v37,p25⟩:Ny)]:=⟨_,rfl⟩
    have hul:us.length=i+1:=by rw [yI];simp [hxl]
    have hxs:xl.flatMap eS++([.int .i64 (at_+v2),.string s4,.int .i64 v37,.string p25]:List Value)=us.flatMap eS:=by rw [yI];simp [eS]
    have yH:∀x∈us,uS x:=fun x hx=>by
     rw [yI] at hx
     rcases List.mem_append.1 hx with hx|hx
     ·exact hxok x hx
     rw [List.mem_singleton.1 hx]
     exact ⟨⟨by dsimp only;omega,by dsimp only;omega⟩,by dsimp only;omega,⟨by dsimp only;omega,by dsimp only;omega⟩,by dsimp only;omega⟩
    rw [hxs]
    exact cQ (i+1,at_+v2,fP (F) s4 (nd+1),A4,c4,us) ⟨by dsimp only;omega,⟨by dsimp only;omega,by dsimp only;omega⟩,(fun k v hkv=>by
     rcases eK hkv with ⟨_,rfl⟩|h
     ·omega
     have:=hF k v h;omega),hul,yH⟩ (by dsimp only;omega) ⟨rfl,rfl,rfl,rfl,rfl,rfl,(cS (by dsimp only;omega)),trivial⟩ (fun _ hm=>(hm.more rfl (by first|omega|(dsimp only;omega))).pick [] [0] [0,1] rfl rfl)
   refine bI (bP U (jF 9 [.string ⟨#[]⟩,.string ⟨#[97,10]⟩,.string ⟨#[195]⟩] fun g39=>dM (γ:=ByteArray) (val:=fun v=> .string v) (φ:=fun v=>v∈([⟨#[]⟩,⟨#[97,10]⟩,⟨#[195]⟩]:List ByteArray)) U rS U U U U (fun wx hm=>(gV [⟨#[]⟩,⟨#[97,10]⟩,⟨#[195]⟩] _ _ _ wx B sb _ hm.k (by omega) (by simp) (by simp) (hm.blkI 0 U) (hm.neRow 0 U U))) fun s40 hs40=>?_))
   have zs40:s40.size<=100:=kG hs40 (by decide)
   refine dW qW U U (jJ 1 fE U U U U U U (bE (bG (bD (bI (bP U (bB (cX kM U (fun _ hm=>hm.blkI 1 U) U U) U (jF 171 [.int .i64 (at_+v2),.string s4,.int .i64 (nd+1),.string s40] fun g41=>eF (news:= [.int .i64 (at_+v2),.string s4,.int .i64 (nd+1),.string s40]) 0 0 cB2 U U U U U U U (by omega) (by unfold maxLen;omega) U U fun v2 hv2=>?_))))))))
   refine eD (R:=∃A cc,v2= .slice A (i+1) cc) (fun wx hm=>dS (hm.ownI 0 U)) ?_
   rintro ⟨A4,c4,rfl⟩
   refine bZ U (bE (bG (bD (bI (gN U U (bP U (bE ?_)))))))
   obtain ⟨us,yI⟩:∃z,z=xl++ [(⟨at_+v2,s4,nd+1,s40⟩:Ny)]:=⟨_,rfl⟩
   have hul:us.length=i+1:=by rw [yI];simp [hxl]
   have hxs:xl.flatMap eS++([.int .i64 (at_+v2),.string s4,.int .i64 (nd+1),.string s40]:List Value)=us.flatMap eS:=by rw [yI];simp [eS]
   have yH:∀x∈us,uS x:=fun x hx=>by
    rw [yI] at hx
    rcases List.mem_append.1 hx with hx|hx
    ·exact hxok x hx
    rw [List.mem_singleton.1 hx]
    exact ⟨⟨by dsimp only;omega,by dsimp only;omega⟩,by dsimp only;omega,⟨by dsimp only;omega,by dsimp only;omega⟩,by dsimp only;omega⟩
   rw [hxs]
   exact cQ (i+1,at_+v2,fP (F) s4 (nd+1),A4,c4,us) ⟨by dsimp only;omega,⟨by dsimp only;omega,by dsimp only;omega⟩,(fun k v hkv=>by
    rcases eK hkv with ⟨_,rfl⟩|h
    ·omega
    have:=hF k v h;omega),hul,yH⟩ (by dsimp only;omega) ⟨rfl,rfl,rfl,rfl,rfl,rfl,(cS (by dsimp only;omega)),trivial⟩ (fun _ hm=>(hm.more rfl (by first|omega|(dsimp only;omega))).pick [] [0] [0,1] rfl rfl)
  have h27:f26=false:=by simpa using hh
  refine bN (bD (bI (bP U (bB (cX kM U (fun _ hm=>hm.blkI 0 U) U U) U (jF 171 [.int .i64 (at_+v2),.string s4,.int .i64 (nd+1),.string p25] fun g42=>eF (news:= [.int .i64 (at_+v2),.string s4,.int .i64 (nd+1),.string p25]) 0 0 cB2 U U U U U U U (by omega) (by unfold maxLen;omega) U U fun v2 hv2=>?_)))))
  refine eD (R:=∃A cc,v2= .slice A (i+1) cc) (fun wx hm=>dS (hm.ownI 0 U)) ?_
  rintro ⟨A4,c4,rfl⟩
  refine bZ U (bE (bG (bD (bI (gN U U (bP U (bE ?_)))))))
  obtain ⟨us,yI⟩:∃z,z=xl++ [(⟨at_+v2,s4,nd+1,p25⟩:Ny)]:=⟨_,rfl⟩
  have hul:us.length=i+1:=by rw [yI];simp [hxl]
  have hxs:xl.flatMap eS++([.int .i64 (at_+v2),.string s4,.int .i64 (nd+1),.string p25]:List Value)=us.flatMap eS:=by rw [yI];simp [eS]
  have yH:∀x∈us,uS x:=fun x hx=>by
   rw [yI] at hx
   rcases List.mem_append.1 hx with hx|hx
   ·exact hxok x hx
   rw [List.mem_singleton.1 hx]
   exact ⟨⟨by dsimp only;omega,by dsimp only;omega⟩,by dsimp only;omega,⟨by dsimp only;omega,by dsimp only;omega⟩,by dsimp only;omega⟩
  rw [hxs]
  exact cQ (i+1,at_+v2,fP (F) s4 (nd+1),A4,c4,us) ⟨by dsimp only;omega,⟨by dsimp only;omega,by dsimp only;omega⟩,(fun k v hkv=>by
   rcases eK hkv with ⟨_,rfl⟩|h
   ·omega
   have:=hF k v h;omega),hul,yH⟩ (by dsimp only;omega) ⟨rfl,rfl,rfl,rfl,rfl,rfl,(cS (by dsimp only;omega)),trivial⟩ (fun _ hm=>(hm.more rfl (by first|omega|(dsimp only;omega))).pick [] [0] [0,1] rfl rfl)
 refine dE (bF (bF (bY (bD (bS (bP U ?_))))))
 have hie:i=q:=by omega
 refine eD (R:=(Value.slice oA i oc= .slice none 0 0/\i=0)∨∃br cc,Value.slice oA i oc= .slice (some ⟨br,0,none⟩) i cc) (fun wx hm=>cB1 (hm.ownI 0 U)) ?_
 rintro (⟨hv0,hi00⟩|⟨br,cc,hv0⟩)
 ·injection hv0 with e1 e2 e3
  subst e1 e3 hi00
  refine cL U fF1 U U (fun wx hm=>(dR1 none 0 wx)) (bR (bS (bP U (bZ U (bR (bM ?_))))))
  exact bK U U fun wx hm=>⟨none,0,0, [],U,by have h8:=(hm.ownI 0 rfl);rw [List.length_eq_zero_iff.1 hxl] at h8;exact h8,rfl,(fun _ h=>by cases h),by omega,hm.k.more (by omega),hm.g⟩
 injection hv0 with e1 _ e3
 subst e1 e3
 refine cT1 (v:= .tuple #[]) (xs':=(dR wW xl).flatMap eS) 0 U U U fF1 U U (fun wx hm=>(dQ6 xl br i oc _ wx (hm.ownI 0 U) hxl (by omega) hxok)) ?_
 refine bR (bS (bP U (bZ U (bR (bM ?_)))))
 exact bK U U fun wx hm=>⟨some ⟨br,0,none⟩,i,oc,dR wW xl,U,(hm.ownI 0 U),by rw [qG];exact hxl,(fun x hx=>hxok x ((mM wW xl).mem_iff.1 hx)),by omega,hm.k.more (by omega),hm.g⟩
theorem eO0 {w:World} {base e sz n c:Nat} {A:Option Addr} {xs:List Value} (h:w.ownsRow base e sz (.slice A n c) n xs):n<=c:=by
 obtain ⟨_,h2⟩:=h
 rcases h2 with ⟨h2,h3⟩|⟨g',cap',rC,hv,_,_,hle,_⟩
 ·omega
 ·injection hv with _ _ h5
  omega
theorem bP7 (q:Nat) (w:World) (B sb m:Nat) (hS:eW 25 w B sb m) (hm:m<=800000) (htx:TxtO w.heap.size (some sb) w) (hq:q<=20):
 Calls prog 7 #[.pointer (some ⟨sb,0,none⟩),.int .i64 ((q:Nat):Int)] w (fun e w'=>∃(A:Option Addr) (n c:Nat) (l:List Ny),e=.returned (.slice A n c)/\SlT eS 4 171 w' A n l/\(∀x∈l,uS x)/\nI l/\n<=q/\eW 25 w' B sb (m+2000)/\w.grownBy w' (some sb)):=by
 refine cV ⟨16,w,(some sb), [171]⟩ func7 U ntmps7 U (bH5 (X:= [TxtO w.heap.size (some sb)]) hS (cG htx cY) (cH TxtO.lasts cZ)) (bS (bZ U (bR (bH (bS (bP U (bR (bO ?_))))))))
 refine dX (γ:=Nat) (fun (k:Nat)=>k<=5) (fun (k:Nat)=> [(0,.pointer (some ⟨sb,0,none⟩)),(1,.int .i64 ((q:Nat):Int)),(6,.int .i64 ((k:Nat):Int))]) (fun (k:Nat)=>fun w=>eW 25 w B sb (m+400 *k)) (fun (k:Nat)=> []) (fun (k:Nat)=> []) (fun (k:Nat)=> [TxtO w.heap.size (some sb)]) (fun (k:Nat)=>5 - k) 0 (Nat.zero_le _) ⟨U,U,U,trivial⟩ (fun _ hm=>hm.pick [] [] [0] U U) ?_
 intro k cC
 replace cC:k<=5:=cC
 refine bS (bB (dD U U) U (bR (bH ?_)))
 refine cE U (fun hk=>?_) (fun hk=>?_)
 ·refine bN (bD (bH (bO (bS (bP U (bP U ?_))))))
  refine nR (γ:=Option Addr×Nat×Nat×List Ny) (val:=(fun g=> .slice g.1 g.2.1 g.2.2.1)) (φ:=(fun g=>(∀x∈g.2.2.2,uS x)/\g.2.1<=q/\g.2.1<=g.2.2.1)) (Y:=(fun g=>fun wy=>SlT eS 4 171 wy g.1 g.2.1 g.2.2.2)) (m':=m+400 *k+400) U fR3 U U U U (fun wx hm=>(cJ7 q wx B sb _ hm.k (by omega) (TxtO.up (hm.fact 0 U) hm.g.size) hq).mono fun _ _ ⟨A,n,c,l,he,ho,hl,hz,hn,hS,hg⟩=>⟨(A,n,c,l),he,⟨hz,hn,eO0 ho⟩,hS.more (by omega),hg,SlT.ofOwn wE ho hl⟩) (fun _=>SlT.lasts2 U) ?_
  rintro ⟨A,n,c,l⟩ hph
  dsimp only at hph ⊢
  obtain ⟨hlz,hnq,hnc⟩:=hph
  refine bZ U (bR (bS (bP U ?_)))
  refine jC (γ:=Int) (val:=(fun g=> .int .i64 g)) (φ:=(fun g=>g=0->l.length<=1000/\nI l)) (Y:=(fun g=>fun _=>True)) U fS3 U U (fun wx hm=>(bM6 l A n c wx (hm.fact 0 U) (by omega) hnc hlz).mono fun _ _ ⟨E,he,h1,hg⟩=>⟨E,he,h1,hg,trivial⟩) (fun _=>Lasts2.true_) ?_
  rintro E hE
  refine bB (eN U U) U (bR ?_)
  refine cE U (fun h0=>?_) (fun h0=>?_)
  ·refine bS (bP U (bZ U (bR ?_)))
   refine bM (bC (bA (bA (bC (bA ?_)))))
   exact bK U U fun wx hm=>⟨A,n,c,l,U,hm.fa 1,hlz,(hE (by simpa using h0)).2,hnq,hm.k.more (by omega),hm.g⟩
  refine bN (bG (bD (bI (gN U U (bP U (bE ?_))))))
  exact cQ (k+1) (by show _<=_;omega) (by omega) ⟨U,U,(cS (by omega)),trivial⟩ (fun _ hm=>(hm.more U (by first|omega|(dsimp only;omega))).pick [] [] [2] U U)
 refine dE (bF (bF (bY (bD (bS (bZ U (bR (bM ?_))))))))
 exact bK U U fun wx hm=>⟨none,0,0, [],U,SlT.nil_ _ _,(fun _ h=>by cases h),bI8,Nat.zero_le _,hm.k.more (by omega),hm.g⟩
theorem dU9 {s:ByteArray} (h:keyB s=true):s.size<=100:=by
 have e:s.size=s.data.toList.length:=Array.length_toList.symm
 rw [e]
 unfold keyB at h
 cases hs:s.data.toList with
 |nil=>exact Nat.zero_le _
 |cons c r=>
  rw [hs] at h
  unfold cL3 at h
  simp only [Bool.and_eq_true,decide_eq_true_eq] at h
  rw [List.length_cons];omega
theorem bU8 (l:List Ny) (A:Option Addr) (n c0:Nat) (w:World) (hl:SlT eS 4 171 w A n l) (hn:n<=1000) (hr:nI l):Calls prog 77 #[.slice A n c0] w (fun e w'=>e=.returned (.int .i64 0)/\w.grownBy w' none):=by
 refine cV ⟨74,w,none, []⟩ func77 U ntmps77 U (gR (X:= [bU eS 4 171 w.heap.size none A n l]) (cG hl.old cY) (cH bU.lasts cZ)) (bS ?_)
 have hlen:=hl.len
 refine bZ U (bR (bH (bS (bP U (bB (dT vC U) U (bB (eJ U U) U (bL 9 (v':= .bool false) U (fH5 (decide_eq_false (by omega))) (bR (jU U (bN (bD (bS (kX (enc:=vB) (ek:=nD) (fun g=>True) (fun _ hm=>trivial) U fun gm hne_gm=>bZ U (bR (bH (bS (bP U (bB (dT vC U) U (bP U (bR (bO ?_)))))))))))))))))))))
 refine dX (γ:=Nat×(ByteArray×Int->Option Bool)) (fun (gq:Nat×(ByteArray×Int->Option Bool))=>gq.1<=n/\∀k,(gq.2 k).getD false=true->∃x∈l.take gq.1,(x.dk,x.no)=k) (fun (gq:Nat×(ByteArray×Int->Option Bool))=> [(0,.slice A n c0),(3,.map (some gm)),(11,.slice A n c0),(12,.int .i64 ((n:Nat):Int)),(13,.int .i64 ((gq.1:Nat):Int))]) (fun (gq:Nat×(ByteArray×Int->Option Bool))=>fun _=>True) (fun (gq:Nat×(ByteArray×Int->Option Bool))=> []) (fun (gq:Nat×(ByteArray×Int->Option Bool))=> []) (fun (gq:Nat×(ByteArray×Int->Option Bool))=> [bV vB nD w.heap.size gm (gq.2),bU eS 4 171 w.heap.size none A n l]) (fun (gq:Nat×(ByteArray×Int->Option Bool))=>n - gq.1) (0,mZ) ⟨Nat.zero_le _,fun _ h=>by cases h⟩ ⟨U,U,U,U,U,trivial⟩ (fun _ hm=>hm.pick [] [] [0,1] U U) ?_
 rintro ⟨i,F⟩ cC
 replace cC:i<=n/\∀k,(F k).getD false=true->∃x∈l.take i,(x.dk,x.no)=k:=cC
 dsimp only
 refine bS (bB (dD U U) U (bR (bH ?_)))
 refine cE U (fun hi=>?_) (fun hi=>?_)
 ·refine bN (bD (bH (bO (bS ?_))))
  obtain ⟨b,off,hA,_,_⟩:=hl.get (by omega)
  subst hA
  obtain ⟨x,hx⟩:∃x,l[i]?=some x:=⟨_,fJ5 (by omega)⟩
  obtain ⟨e0,e1,e2,e3⟩:=x
  obtain ⟨f0,f1,f2,f3,f4⟩:=hr.fine _ (fK5 hx)
  dsimp only at f0 f1 f2 f3 f4
  have hkz:=dU9 f1
  have hnew:(F (e1,e2)).getD false=false:=by
   cases hq:(F (e1,e2)).getD false with
   |false=>rfl
   |true=>
    obtain ⟨y,hy,e⟩:=cC.2 _ hq
    obtain ⟨j,hj⟩:=List.mem_iff_getElem?.1 hy
    obtain ⟨hj1,hj2⟩:=cP6 hj
    exact absurd ⟨congrArg Prod.fst e,congrArg Prod.snd e⟩ (hr.once j i y _ hj1 hj2 hx)
  by_cases hi0:i=0
  ·refine bP U ?_
   refine bB (bT (j:=i) vC U U (by omega)) U (bB (dO (vs:= [.int .i64 e0,.string e1,.int .i64 e2,.string e3]) kM U (fun _ hm=>(hm.fact 1 U).1) hx U U) U (dH cI4 U fun g1=>bZ U (jX (cs':= [.int .i64 e0,.string e1,.int .i64 e2,.string e3]) 0 kM U U U U (bR (bS (dW nZ U U (eI fE 0 U U U (dW qE U U (eI fF 0 U U U (bB (dJ (cs:= [.string e1,.int .i64 e2]) U (by kernel_rfl)) U (dH eY5 U fun g2=>jX (cs':= [.string e1,.int .i64 e2]) 0 cV3 U U U U (bR (bH (bO (bS (dW mP U U (eI fF 1 U U U (cL U dM7 U U (fun wx hm=>((vQ _ wx).mono fun _ _ ⟨he,hw⟩=>⟨he,hw ▸ World.grownBy.refl _ _⟩)) (bB (cF U) U (bL 27 (v':= .bool false) U (fH5 (by rw [f0];rfl)) (bZ U (bR (jU U (bS (dW nZ U U (eI fE 1 U U U (dA U bP2 U U (fun wx hm=>(isKey_any _ wx (by omega))) ?_)))))))))))))))))))))))))))
   refine bB (cF U) U (bL 32 (v':= .bool false) U (fH5 (by rw [f1];rfl)) (bZ U (bR (jU U (bS (dW qE U U (eI fF 1 U U U (dA U qB U U (fun wx hm=>(in_any _ _ _ wx)) (bB (cF U) U (bL 37 (v':= .bool false) U (fH5 (by rw [f2];rfl)) (bZ U (bR (jU U (bS (dW qW U U (eI fE 1 U U U (bB (eR U U) U (bL 41 (v':= .bool false) U (fH5 (by rw [nB];exact decide_eq_false (fun e=>by rw [e] at f3;exact absurd f3.1 (by decide)))) (bP U (eG U (dW qW U U (eG U (eI fE 1 U U U (eG U (bB (yP us9 U) U (eG U (bB (eJ U U) U (bL 46 (v':= .bool false) U (fH5 (by exact decide_eq_false (by omega))) ?_))))))))))))))))))))))))))))
   refine nS U U (bP U (eG U (dW qW U U (eG U (eI fE 1 U U U (eG U (cL U eD5 U U (fun wx hm=>(bK8 e3 wx (by omega) f4)) (eG U (bB (cF U) U (bL 52 (v':= .bool false) U (fH5 (by rfl)) (nS U U (bZ U (bR (jU U (bH (gd (fun wz=>True) mixed (fun _ _=>trivial) fun z=>wq 0 U (bJ U) (wq 1 U (eJ U U) (dG 56 (v':= .bool false) U (fH5 (by simp;omega)) (wq 2 U (bJ U) (fC 3 U (fC 4 U (fC 5 U (fC 6 U (fC 7 U (eC 8 U (dY U (bE (nw 13 511 (fun _ _=>trivial) fun z=>?_))))))))))))))))))))))))))))
   refine fC 9 U (fC 10 U (wq 11 U (fN U U) (wq 12 U (cU U) (jH (bD (jU U (bS (bP U (bB (cX cV3 U (fun _ hm=>hm.blkI 0 U) U U) U (bB (kV (enc:=vB) (ek:=nD) (s:=(e1,e2)) (e:=4) false cZ5 (by kernel_rfl) (by kernel_rfl) U U (fun _ hm=>(hm.fact 0 U))) U (bL 70 (v':= .bool false) U (fH5 hnew) (bZ U (bR (jU U (bN (bG (bD (bI (bP U (bB (cX cV3 U (fun _ hm=>hm.blkI 0 U) U U) U (kO (enc:=vB) (ek:=nD) (s:=(e1,e2)) (v:=true) (e:=4) (X':= [bU eS 4 171 w.heap.size none (some ⟨b,off,none⟩) n l]) 0 cZ5 (by kernel_rfl) U U U U (cP (i:=1) bU.mfar.far U fZ) (bE (bG (bD (bI (gN U U (bP U (bE ?_))))))))))))))))))))))))))))
   exact cQ (i+1,fP F (e1,e2) true) ⟨by dsimp only;omega,fun k hk=>by
    dsimp only at hk ⊢
    by_cases e:k=(e1,e2)
    ·exact ⟨_,fK5 (i:=i) (by rw [List.getElem?_take,if_pos (Nat.lt_succ_self i)];exact hx),e.symm⟩
    rw [dB _ _ e] at hk
    obtain ⟨y,hy,e2⟩:=cC.2 k hk
    refine ⟨y,?_,e2⟩
    rw [List.take_add_one]
    exact List.mem_append_left _ hy⟩ (by dsimp only;omega) ⟨U,U,U,U,(cS (by dsimp only;omega)),trivial⟩ (fun _ hm=>hm.pick [] [] [0,1] U U)
  obtain ⟨pe,hpe⟩:∃x,l[i - 1]?=some x:=⟨_,fJ5 (by omega)⟩
  have ho:=hr.rise (i - 1) _ _ hpe (by rw [show i - 1+1=i by omega];exact hx)
  obtain ⟨p0,p1,p2,p3⟩:=pe
  refine bP U (bB (bT (j:=i) vC U U (by omega)) U (bB (dO (vs:= [.int .i64 e0,.string e1,.int .i64 e2,.string e3]) kM U (fun _ hm=>(hm.fact 1 U).1) hx U U) U (dH cI4 U fun g3=>bZ U (jX (cs':= [.int .i64 e0,.string e1,.int .i64 e2,.string e3]) 0 kM U U U U (bR (bS (dW nZ U U (eI fE 0 U U U (dW qE U U (eI fF 0 U U U (bB (dJ (cs:= [.string e1,.int .i64 e2]) U (by kernel_rfl)) U (dH eY5 U fun g4=>jX (cs':= [.string e1,.int .i64 e2]) 0 cV3 U U U U (bR (bH (bO (bS (dW mP U U (eI fF 1 U U U (cL U dM7 U U (fun wx hm=>((vQ _ wx).mono fun _ _ ⟨he,hw⟩=>⟨he,hw ▸ World.grownBy.refl _ _⟩)) (bB (cF U) U (bL 27 (v':= .bool false) U (fH5 (by rw [f0];rfl)) (bZ U (bR (jU U (bS (dW nZ U U (eI fE 1 U U U ?_)))))))))))))))))))))))))))
  refine dA U bP2 U U (fun wx hm=>(isKey_any _ wx (by omega))) (bB (cF U) U (bL 32 (v':= .bool false) U (fH5 (by rw [f1];rfl)) (bZ U (bR (jU U (bS (dW qE U U (eI fF 1 U U U (dA U qB U U (fun wx hm=>(in_any _ _ _ wx)) (bB (cF U) U (bL 37 (v':= .bool false) U (fH5 (by rw [f2];rfl)) (bZ U (bR (jU U (bS (dW qW U U (eI fE 1 U U U (bB (eR U U) U (bL 41 (v':= .bool false) U (fH5 (by rw [nB];exact decide_eq_false (fun e=>by rw [e] at f3;exact absurd f3.1 (by decide)))) (bP U (eG U (dW qW U U (eG U (eI fE 1 U U U (eG U (bB (yP us9 U) U (eG U (bB (eJ U U) U (bL 46 (v':= .bool false) U (fH5 (by exact decide_eq_false (by omega))) ?_)))))))))))))))))))))))))))))
  refine nS U U (bP U (eG U (dW qW U U (eG U (eI fE 1 U U U (eG U (cL U eD5 U U (fun wx hm=>(bK8 e3 wx (by omega) f4)) (eG U (bB (cF U) U (bL 52 (v':= .bool false) U (fH5 (by rfl)) (nS U U (bZ U (bR (jU U (bH (gd (fun wz=>Blk wz g3 171 [.int .i64 e0,.string e1,.int .i64 e2,.string e3]/\(bU eS 4 171 w.heap.size none (some ⟨b,off,none⟩) n l) wz/\True) mixed (fun _ hm=>⟨hm.bl 1,hm.fa 1,trivial⟩) fun z=>wq 0 U (bJ U) (wq 1 U (eJ U U) (dG 56 (v':= .bool true) U (fH5 (by simp;omega)) (wq 2 U (bJ U) (fI 3 U (bJ U) (fI 4 U (bJ U) (fI 5 U (ov_sub U U (by omega) (by omega)) (dG 60 (v':= .int .i64 ((i - 1:Nat):Int)) U (fI5 (by omega)) (fI 6 U (bT (j:=i - 1) vC U U (by omega)) (fI 7 U (dO (vs:= [.int .i64 p0,.string p1,.int .i64 p2,.string p3]) kM U (fun _ hm=>(hm.2.1).1) hpe U U) (fI 8 U (cX kM U (fun _ hm=>hm.1) U U) (eC 9 U (eG U ?_))))))))))))))))))))))))))))
  refine cL U eX9 U U (fun wx hm=>(dS5 p0 p1 p2 p3 e0 e1 e2 e3 wx)) (bE (nw 13 1023 (fun _ hm=>⟨hm.bl 1,hm.fa 1,trivial⟩) fun z=>fI 10 U (mO U U) (dG 65 (v':= .bool false) U (fH5 (by exact decide_eq_false (by omega))) (wq 11 U (fD U U) (wq 12 U (cU U) (jH (bD (jU U (bS (bP U (bB (cX cV3 U (fun _ hm=>hm.blkI 0 U) U U) U (bB (kV (enc:=vB) (ek:=nD) (s:=(e1,e2)) (e:=4) false cZ5 (by kernel_rfl) (by kernel_rfl) U U (fun _ hm=>(hm.fact 0 U))) U (bL 70 (v':= .bool false) U (fH5 hnew) (bZ U (bR (jU U (bN (bG (bD (bI (bP U (bB (cX cV3 U (fun _ hm=>hm.blkI 0 U) U U) U (kO (enc:=vB) (ek:=nD) (s:=(e1,e2)) (v:=true) (e:=4) (X':= [bU eS 4 171 w.heap.size none (some ⟨b,off,none⟩) n l]) 0 cZ5 (by kernel_rfl) U U U U (cP (i:=1) bU.mfar.far U fZ) ?_)))))))))))))))))))))))
  refine bE (bG (bD (bI (gN U U (bP U (bE ?_))))))
  exact cQ (i+1,fP F (e1,e2) true) ⟨by dsimp only;omega,fun k hk=>by
   dsimp only at hk ⊢
   by_cases e:k=(e1,e2)
   ·exact ⟨_,fK5 (i:=i) (by rw [List.getElem?_take,if_pos (Nat.lt_succ_self i)];exact hx),e.symm⟩
   rw [dB _ _ e] at hk
   obtain ⟨y,hy,e2⟩:=cC.2 k hk
   refine ⟨y,?_,e2⟩
   rw [List.take_add_one]
   exact List.mem_append_left _ hy⟩ (by dsimp only;omega) ⟨U,U,U,U,(cS (by dsimp only;omega)),trivial⟩ (fun _ hm=>hm.pick [] [] [0,1] U U)
 refine dE (bF (bF (bY (bD (bS (bZ U (bR (bM ?_))))))))
 exact bK U U fun wx hm=>⟨U,hm.g⟩
theorem cP2 (sA cA vA eA:Option Addr) (sn sc cn cc vn vc en ec:Nat) (u3 u4 u5 u6 u7 u8 u9 jK jL jM jN jO jP:Value) (sl:List St) (cl:List Cs) (vl:List Vh) (el:List Ny) (w:World) (hs:SlT stEnc 15 99 w sA sn sl) (hc:SlT dV 2 84 w cA cn cl) (hv:SlT fX 2 57 w vA vn vl) (he:SlT eS 4 171 w eA en el) (ht:qN w) (uB:∀x∈sl,StOk x) (hco:∀x∈cl,uF x) (hcn:cn<=1000) (vN:∀x∈el,cP9 x) (hen:en<=20) (zJ:sn<=1000000) (hvn:vn<=1000000):
 Calls prog 78 #[.agg #[.slice sA sn sc,.slice cA cn cc,.slice vA vn vc,u3,u4,u5,u6,u7,u8,u9,jK,jL,jM,jN,jO,jP],.slice eA en ec] w (fun e w'=>∃go gv gs fT fQ fS fU gC lv rv σ A n c,e=.returned (.pointer (some ⟨go,0,none⟩))/\((pR (pY vl) (qL sl) (fun b=>jR cl [b]=0) (el.map Ny.at_) σ/\fY σ=bZ3 (pY vl) (qL sl) cl el)/\lv= .slice A n c)/\w.heap.size<=go/\Blk w' go 119 [.slice sA sn sc,.slice cA cn cc,.slice vA vn vc,u3,u4,u5,u6,u7,u8,u9,jK,jL,jM,jN,jO,jP,.map (some gv),.map (some gs),.map (some fT),lv,.map (some fQ),.map (some fS),.map (some fU),.map (some gC),rv]/\SlT dP 5 74 w' A n (dR dU σ.lg)/\bV qA dN w.heap.size fS σ.fb w'/\bV nH dN w.heap.size fU σ.fh w'/\gD 68 σ.fh w'/\w.grownBy w' none):=by
 refine (cC6 w sA cA vA eA sn sc cn cc vn vc en ec u3 u4 u5 u6 u7 u8 u9 jK jL jM jN jO jP sl cl vl el hs hc hv he ht uB hco hcn vN hen zJ hvn).mono ?_
 rintro e w' ⟨go,gv,gs,fT,fQ,fS,fU,gC,lv,rv,rn,rx,σ,fp,rfl,wB,hm⟩
 obtain ⟨A,c,hlv⟩:=dS (hm.ownI 0 rfl)
 have ho:=hm.ownI 0 rfl
 dsimp only at hlv ho
 have ho2:w'.ownsRow w.heap.size 74 5 lv σ.lg.length ((dR dU σ.lg).flatMap dP):=ho
 rw [hlv] at ho2
 exact ⟨go,gv,gs,fT,fQ,fS,fU,gC,lv,rv,σ,A,σ.lg.length,c,U,⟨wB,hlv⟩,(hm.b _ (List.mem_cons_self ..)).1,hm.blkI 0 U,SlT.ofOwn fB ho2 (mM dU σ.lg).length_eq,hm.fact 4 U,hm.fact 5 U,hm.fact 7 U,hm.g⟩
theorem cO3 (sA cA vA eA:Option Addr) (sn sc cn cc vn vc en ec:Nat) (u3 u4 u5 u6 u7 u8 u9 jK jL jM jN jO jP:Value) (sl:List St) (cl:List Cs) (vl:List Vh) (el:List Ny) (w:World) (hs:SlT stEnc 15 99 w sA sn sl) (hc:SlT dV 2 84 w cA cn cl) (hv:SlT fX 2 57 w vA vn vl) (he:SlT eS 4 171 w eA en el) (ht:qN w) (uB:∀x∈sl,StOk x) (hco:∀x∈cl,uF x) (hcn:cn<=1000) (vN:∀x∈el,cP9 x) (hen:en<=20) (zJ:sn<=1000000) (hvn:vn<=1000000) (hck:∀wx,w.grownBy wx none->Calls prog 76 #[.agg #[.slice sA sn sc,.slice cA cn cc,.slice vA vn vc,u3,u4,u5,u6,u7,u8,u9,jK,jL,jM,jN,jO,jP]] wx (fun e w'=>e=.returned (.int .i64 0)/\wx.grownBy w' none)) (hr:nI el):
 Calls prog 31 #[.agg #[.slice sA sn sc,.slice cA cn cc,.slice vA vn vc,u3,u4,u5,u6,u7,u8,u9,jK,jL,jM,jN,jO,jP],.slice eA en ec] w (fun e w'=>∃go gv gs fT fQ fS fU gC lv rv σ A n c,e=.returned (.tuple #[.pointer (some ⟨go,0,none⟩),.int .i64 0])/\((pR (pY vl) (qL sl) (fun b=>jR cl [b]=0) (el.map Ny.at_) σ/\fY σ=bZ3 (pY vl) (qL sl) cl el)/\lv= .slice A n c)/\w.heap.size<=go/\Blk w' go 119 [.slice sA sn sc,.slice cA cn cc,.slice vA vn vc,u3,u4,u5,u6,u7,u8,u9,jK,jL,jM,jN,jO,jP,.map (some gv),.map (some gs),.map (some fT),lv,.map (some fQ),.map (some fS),.map (some fU),.map (some gC),rv]/\SlT dP 5 74 w' A n (dR dU σ.lg)/\bV qA dN w.heap.size fS σ.fb w'/\bV nH dN w.heap.size fU σ.fh w'/\gD 68 σ.fh w'/\w.grownBy w' none):=by
 refine cV ⟨19,w,none, [68,74]⟩ func31 U ntmps31 U (gR (X:= [bU stEnc 15 99 w.heap.size none sA sn sl,bU dV 2 84 w.heap.size none cA cn cl,bU fX 2 57 w.heap.size none vA vn vl,bU eS 4 171 w.heap.size none eA en el,TxtO w.heap.size none]) (cG hs.old (cG hc.old (cG hv.old (cG he.old (cG ht.old cY))))) (cH bU.lasts (cH bU.lasts (cH bU.lasts (cH bU.lasts (cH TxtO.lasts cZ)))))) (bS (fG U U U fun g1=>bZ U (bZ U (bR (bH (bS (bB (cX cS2 U (fun _ hm=>hm.blkI 0 U) U U) U (cL U fE4 U U (fun wx hm=>(hck wx hm.g)) (bP U (cL U fF4 U U (fun wx hm=>(bU8 el eA en ec wx (hm.fact 3 U).1 (by omega) hr)) (jF 48 [.int .i64 0,.int .i64 0] fun g2=>dA U wJ U U (fun wx hm=>(fJ [0,0] _ _ _ wx (hm.blkI 0 U) (by simp))) (bZ U (bR (bS (bP U (bB (gX U U) U (bL 14 (v':= .bool false) U (U) (bR (jU U (bN (bD (bS (bB (cX cS2 U (fun _ hm=>hm.blkI 1 U) U U) U (bP U ?_))))))))))))))))))))))))
 refine fO (γ:=Nat×Nat×Nat×Nat×Nat×Nat×Nat×Nat×Value×Value×Os×Option Addr×Nat×Nat) (val:=(fun (q:Nat×Nat×Nat×Nat×Nat×Nat×Nat×Nat×Value×Value×Os×Option Addr×Nat×Nat)=> .pointer (some ⟨q.1,0,none⟩))) (φ:=(fun (q:Nat×Nat×Nat×Nat×Nat×Nat×Nat×Nat×Value×Value×Os×Option Addr×Nat×Nat)=>(pR (pY vl) (qL sl) (fun b=>jR cl [b]=0) (el.map Ny.at_) q.2.2.2.2.2.2.2.2.2.2.1/\fY q.2.2.2.2.2.2.2.2.2.2.1=bZ3 (pY vl) (qL sl) cl el)/\q.2.2.2.2.2.2.2.2.1= .slice q.2.2.2.2.2.2.2.2.2.2.2.1 q.2.2.2.2.2.2.2.2.2.2.2.2.1 q.2.2.2.2.2.2.2.2.2.2.2.2.2)) (K':=fun _=>fun _=>True) (L':=(fun (q:Nat×Nat×Nat×Nat×Nat×Nat×Nat×Nat×Value×Value×Os×Option Addr×Nat×Nat)=> [(q.1,119, [.slice sA sn sc,.slice cA cn cc,.slice vA vn vc,u3,u4,u5,u6,u7,u8,u9,jK,jL,jM,jN,jO,jP,.map (some q.2.1),.map (some q.2.2.1),.map (some q.2.2.2.1),q.2.2.2.2.2.2.2.2.1,.map (some q.2.2.2.2.1),.map (some q.2.2.2.2.2.1),.map (some q.2.2.2.2.2.2.1),.map (some q.2.2.2.2.2.2.2.1),q.2.2.2.2.2.2.2.2.2.1]),(g2,48, [.int .i64 0,.int .i64 0]),(g1,42, [.slice sA sn sc,.slice cA cn cc,.slice vA vn vc,u3,u4,u5,u6,u7,u8,u9,jK,jL,jM,jN,jO,jP])])) (O':=fun _=> []) (X':=(fun (q:Nat×Nat×Nat×Nat×Nat×Nat×Nat×Nat×Value×Value×Os×Option Addr×Nat×Nat)=> [fun wy=>SlT dP 5 74 wy q.2.2.2.2.2.2.2.2.2.2.2.1 q.2.2.2.2.2.2.2.2.2.2.2.2.1 (dR dU q.2.2.2.2.2.2.2.2.2.2.1.lg),bV qA dN w.heap.size q.2.2.2.2.2.1 q.2.2.2.2.2.2.2.2.2.2.1.fb,bV nH dN w.heap.size q.2.2.2.2.2.2.1 q.2.2.2.2.2.2.2.2.2.2.1.fh,gD 68 q.2.2.2.2.2.2.2.2.2.2.1.fh,bU stEnc 15 99 w.heap.size none sA sn sl,bU dV 2 84 w.heap.size none cA cn cl,bU fX 2 57 w.heap.size none vA vn vl,bU eS 4 171 w.heap.size none eA en el,TxtO w.heap.size none])) U fG4 U U (fun wx hm=>(cP2 sA cA vA eA sn sc cn cc vn vc en ec u3 u4 u5 u6 u7 u8 u9 jK jL jM jN jO jP sl cl vl el wx (hm.fact 0 U).1 (hm.fact 1 U).1 (hm.fact 2 U).1 (hm.fact 3 U).1 (hm.fact 4 U).1 uB hco hcn vN hen zJ hvn).mono fun _ _ ⟨go,gv,gs,fT,fQ,fS,fU,gC,lv,rv,σ,A,n,c,he,hp,hgo,hb,f1,f2,f3,f4,hg⟩=>⟨(go,gv,gs,fT,fQ,fS,fU,gC,lv,rv,σ,A,n,c),he,hp,((((hm.gn hg hgo hb).also (gD.lasts2 U) f4).also bV.lasts2 (f3.lower hm.g.size)).also bV.lasts2 (f2.lower hm.g.size)).also (SlT.lasts2 U) f1⟩) ?_
 rintro ⟨go,gv,gs,fT,fQ,fS,fU,gC,lv,rv,σ,A,n,c⟩ hp
 dsimp only at hp ⊢
 refine bZ U (bZ U (bR (bM ?_)))
 refine vR U U U fun wx hm=>?_
 exact ⟨go,gv,gs,fT,fQ,fS,fU,gC,lv,rv,σ,A,n,c,U,hp,(hm.b _ (List.mem_cons_self ..)).1,hm.bl 0,hm.fa 0,hm.fa 1,hm.fa 2,hm.fa 3,hm.g⟩
theorem cY4 (sA cA vA eA:Option Addr) (sn sc cn cc vn vc en ec:Nat) (u3 u4 u5 u6 u7 u8 u9 jK jL jM jN jO jP:Value) (sl:List St) (cl:List Cs) (vl:List Vh) (el:List Ny) (w:World) (hs:SlT stEnc 15 99 w sA sn sl) (hc:SlT dV 2 84 w cA cn cl) (hv:SlT fX 2 57 w vA vn vl) (he:SlT eS 4 171 w eA en el) (ht:qN w) (uB:∀x∈sl,StOk x) (hco:∀x∈cl,uF x) (hcn:cn<=1000) (vN:∀x∈el,cP9 x) (hen:en<=20) (zJ:sn<=1000000) (hvn:vn<=1000000) (hck:∀wx,w.grownBy wx none->Calls prog 76 #[.agg #[.slice sA sn sc,.slice cA cn cc,.slice vA vn vc,u3,u4,u5,u6,u7,u8,u9,jK,jL,jM,jN,jO,jP]] wx (fun e w'=>e=.returned (.int .i64 0)/\wx.grownBy w' none)) (hr:nI el):
 Calls prog 9 #[.agg #[.slice sA sn sc,.slice cA cn cc,.slice vA vn vc,u3,u4,u5,u6,u7,u8,u9,jK,jL,jM,jN,jO,jP],.slice eA en ec] w (fun e w'=>∃σ A n c,e=.returned (.tuple #[.slice A n c,.int .i64 0])/\(pR (pY vl) (qL sl) (fun b=>jR cl [b]=0) (el.map Ny.at_) σ/\fY σ=bZ3 (pY vl) (qL sl) cl el)/\SlT dP 5 74 w' A n (dR dU σ.lg)/\w.grownBy w' none):=by
 refine cV ⟨21,w,none, [68,74]⟩ func9 U ntmps9 U (gR (X:= [bU stEnc 15 99 w.heap.size none sA sn sl,bU dV 2 84 w.heap.size none cA cn cl,bU fX 2 57 w.heap.size none vA vn vl,bU eS 4 171 w.heap.size none eA en el,TxtO w.heap.size none]) (cG hs.old (cG hc.old (cG hv.old (cG he.old (cG ht.old cY))))) (cH bU.lasts (cH bU.lasts (cH bU.lasts (cH bU.lasts (cH TxtO.lasts cZ)))))) (bS (fG U U U fun g1=>bZ U (bZ U (bR (bS (bB (cX cS2 U (fun _ hm=>hm.blkI 0 U) U U) U (bP U ?_)))))))
 refine fO (γ:=Nat×Nat×Nat×Nat×Nat×Nat×Nat×Nat×Value×Value×Os×Option Addr×Nat×Nat) (val:=(fun (q:Nat×Nat×Nat×Nat×Nat×Nat×Nat×Nat×Value×Value×Os×Option Addr×Nat×Nat)=> .tuple #[.pointer (some ⟨q.1,0,none⟩),.int .i64 0])) (φ:=(fun (q:Nat×Nat×Nat×Nat×Nat×Nat×Nat×Nat×Value×Value×Os×Option Addr×Nat×Nat)=>(pR (pY vl) (qL sl) (fun b=>jR cl [b]=0) (el.map Ny.at_) q.2.2.2.2.2.2.2.2.2.2.1/\fY q.2.2.2.2.2.2.2.2.2.2.1=bZ3 (pY vl) (qL sl) cl el)/\q.2.2.2.2.2.2.2.2.1= .slice q.2.2.2.2.2.2.2.2.2.2.2.1 q.2.2.2.2.2.2.2.2.2.2.2.2.1 q.2.2.2.2.2.2.2.2.2.2.2.2.2)) (K':=fun _=>fun _=>True) (L':=(fun (q:Nat×Nat×Nat×Nat×Nat×Nat×Nat×Nat×Value×Value×Os×Option Addr×Nat×Nat)=> [(q.1,119, [.slice sA sn sc,.slice cA cn cc,.slice vA vn vc,u3,u4,u5,u6,u7,u8,u9,jK,jL,jM,jN,jO,jP,.map (some q.2.1),.map (some q.2.2.1),.map (some q.2.2.2.1),q.2.2.2.2.2.2.2.2.1,.map (some q.2.2.2.2.1),.map (some q.2.2.2.2.2.1),.map (some q.2.2.2.2.2.2.1),.map (some q.2.2.2.2.2.2.2.1),q.2.2.2.2.2.2.2.2.2.1]),(g1,42, [.slice sA sn sc,.slice cA cn cc,.slice vA vn vc,u3,u4,u5,u6,u7,u8,u9,jK,jL,jM,jN,jO,jP])])) (O':=fun _=> []) (X':=(fun (q:Nat×Nat×Nat×Nat×Nat×Nat×Nat×Nat×Value×Value×Os×Option Addr×Nat×Nat)=> [fun wy=>SlT dP 5 74 wy q.2.2.2.2.2.2.2.2.2.2.2.1 q.2.2.2.2.2.2.2.2.2.2.2.2.1 (dR dU q.2.2.2.2.2.2.2.2.2.2.1.lg),bV qA dN w.heap.size q.2.2.2.2.2.1 q.2.2.2.2.2.2.2.2.2.2.1.fb,bV nH dN w.heap.size q.2.2.2.2.2.2.1 q.2.2.2.2.2.2.2.2.2.2.1.fh,gD 68 q.2.2.2.2.2.2.2.2.2.2.1.fh,bU stEnc 15 99 w.heap.size none sA sn sl,bU dV 2 84 w.heap.size none cA cn cl,bU fX 2 57 w.heap.size none vA vn vl,bU eS 4 171 w.heap.size none eA en el,TxtO w.heap.size none])) U fA1 U U (fun wx hm=>(cO3 sA cA vA eA sn sc cn cc vn vc en ec u3 u4 u5 u6 u7 u8 u9 jK jL jM jN jO jP sl cl vl el wx (hm.fact 0 U).1 (hm.fact 1 U).1 (hm.fact 2 U).1 (hm.fact 3 U).1 (hm.fact 4 U).1 uB hco hcn vN hen zJ hvn (fun wy h=>hck wy (World.grownBy.trans hm.g h)) hr).mono fun _ _ ⟨go,gv,gs,fT,fQ,fS,fU,gC,lv,rv,σ,A,n,c,he,hp,hgo,hb,f1,f2,f3,f4,hg⟩=>⟨(go,gv,gs,fT,fQ,fS,fU,gC,lv,rv,σ,A,n,c),he,hp,((((hm.gn hg hgo hb).also (gD.lasts2 U) f4).also bV.lasts2 (f3.lower hm.g.size)).also bV.lasts2 (f2.lower hm.g.size)).also (SlT.lasts2 U) f1⟩) ?_
 rintro ⟨go,gv,gs,fT,fQ,fS,fU,gC,lv,rv,σ,A,n,c⟩ hp
 dsimp only at hp ⊢
 obtain ⟨wB,rfl⟩:=hp
 refine bP U (bB (cR U U) U (bB (cR U U) U (bZ U (bZ U (bR (bH (bS (bP U (bB (gX U U) U (bL 15 (v':= .bool false) U (U) (bR (jU U (bN (bD (bS (bP U (bB (bX U) U (dW bU4 U U (eI dJ6 0 U U U (bZ U (bZ U (bE (bD (bM ?_))))))))))))))))))))))))
 refine vR U U U fun wx hm=>?_
 exact ⟨σ,A,n,c,U,wB,hm.fa 0,hm.g⟩
theorem bZ9 (sA cA vA eA:Option Addr) (sn sc cn cc vn vc en ec:Nat) (u3 u4 u5 u6 u7 u8 u9 jK jL jM jN jO jP:Value) (sl:List St) (cl:List Cs) (vl:List Vh) (el:List Ny) (w:World) (hs:SlT stEnc 15 99 w sA sn sl) (hc:SlT dV 2 84 w cA cn cl) (hv:SlT fX 2 57 w vA vn vl) (he:SlT eS 4 171 w eA en el) (ht:qN w) (uB:∀x∈sl,StOk x) (hco:∀x∈cl,uF x) (hcn:cn<=1000) (vN:∀x∈el,cP9 x) (hen:en<=20) (zJ:sn<=1000000) (hvn:vn<=1000000) (hck:∀wx,w.grownBy wx none->Calls prog 76 #[.agg #[.slice sA sn sc,.slice cA cn cc,.slice vA vn vc,u3,u4,u5,u6,u7,u8,u9,jK,jL,jM,jN,jO,jP]] wx (fun e w'=>e=.returned (.int .i64 0)/\wx.grownBy w' none)) (hr:nI el):
 Calls prog 10 #[.agg #[.slice sA sn sc,.slice cA cn cc,.slice vA vn vc,u3,u4,u5,u6,u7,u8,u9,jK,jL,jM,jN,jO,jP],.slice eA en ec] w (fun e w'=>∃σ A n c ks,e=.returned (.tuple #[.slice A n c,.int .i64 0])/\(pR (pY vl) (qL sl) (fun b=>jR cl [b]=0) (el.map Ny.at_) σ/\fY σ=bZ3 (pY vl) (qL sl) cl el)/\(ks.Nodup/\(∀k,k∈ks↔(σ.fh k).isSome=true)/\ks.length=n)/\gD 68 σ.fh w'/\SlT bR0 5 64 w' A n ((nQ ks).map fun k=>(σ.fh k).getD vV)/\w.grownBy w' none):=by
 refine cV ⟨22,w,none, [68,74]⟩ func10 U ntmps10 U (gR (X:= [bU stEnc 15 99 w.heap.size none sA sn sl,bU dV 2 84 w.heap.size none cA cn cl,bU fX 2 57 w.heap.size none vA vn vl,bU eS 4 171 w.heap.size none eA en el,TxtO w.heap.size none]) (cG hs.old (cG hc.old (cG hv.old (cG he.old (cG ht.old cY))))) (cH bU.lasts (cH bU.lasts (cH bU.lasts (cH bU.lasts (cH TxtO.lasts cZ)))))) (bS (fG U U U fun g1=>bZ U (bZ U (bR (bS (bB (cX cS2 U (fun _ hm=>hm.blkI 0 U) U U) U (bP U ?_)))))))
 refine fO (γ:=Nat×Nat×Nat×Nat×Nat×Nat×Nat×Nat×Value×Value×Os×Option Addr×Nat×Nat) (val:=(fun (q:Nat×Nat×Nat×Nat×Nat×Nat×Nat×Nat×Value×Value×Os×Option Addr×Nat×Nat)=> .tuple #[.pointer (some ⟨q.1,0,none⟩),.int .i64 0])) (φ:=(fun (q:Nat×Nat×Nat×Nat×Nat×Nat×Nat×Nat×Value×Value×Os×Option Addr×Nat×Nat)=>(pR (pY vl) (qL sl) (fun b=>jR cl [b]=0) (el.map Ny.at_) q.2.2.2.2.2.2.2.2.2.2.1/\fY q.2.2.2.2.2.2.2.2.2.2.1=bZ3 (pY vl) (qL sl) cl el)/\q.2.2.2.2.2.2.2.2.1= .slice q.2.2.2.2.2.2.2.2.2.2.2.1 q.2.2.2.2.2.2.2.2.2.2.2.2.1 q.2.2.2.2.2.2.2.2.2.2.2.2.2)) (K':=fun _=>fun _=>True) (L':=(fun (q:Nat×Nat×Nat×Nat×Nat×Nat×Nat×Nat×Value×Value×Os×Option Addr×Nat×Nat)=> [(q.1,119, [.slice sA sn sc,.slice cA cn cc,.slice vA vn vc,u3,u4,u5,u6,u7,u8,u9,jK,jL,jM,jN,jO,jP,.map (some q.2.1),.map (some q.2.2.1),.map (some q.2.2.2.1),q.2.2.2.2.2.2.2.2.1,.map (some q.2.2.2.2.1),.map (some q.2.2.2.2.2.1),.map (some q.2.2.2.2.2.2.1),.map (some q.2.2.2.2.2.2.2.1),q.2.2.2.2.2.2.2.2.2.1]),(g1,42, [.slice sA sn sc,.slice cA cn cc,.slice vA vn vc,u3,u4,u5,u6,u7,u8,u9,jK,jL,jM,jN,jO,jP])])) (O':=fun _=> []) (X':=(fun (q:Nat×Nat×Nat×Nat×Nat×Nat×Nat×Nat×Value×Value×Os×Option Addr×Nat×Nat)=> [fun wy=>SlT dP 5 74 wy q.2.2.2.2.2.2.2.2.2.2.2.1 q.2.2.2.2.2.2.2.2.2.2.2.2.1 (dR dU q.2.2.2.2.2.2.2.2.2.2.1.lg),bV qA dN w.heap.size q.2.2.2.2.2.1 q.2.2.2.2.2.2.2.2.2.2.1.fb,bV nH dN w.heap.size q.2.2.2.2.2.2.1 q.2.2.2.2.2.2.2.2.2.2.1.fh,gD 68 q.2.2.2.2.2.2.2.2.2.2.1.fh,bU stEnc 15 99 w.heap.size none sA sn sl,bU dV 2 84 w.heap.size none cA cn cl,bU fX 2 57 w.heap.size none vA vn vl,bU eS 4 171 w.heap.size none eA en el,TxtO w.heap.size none])) U fA1 U U (fun wx hm=>(cO3 sA cA vA eA sn sc cn cc vn vc en ec u3 u4 u5 u6 u7 u8 u9 jK jL jM jN jO jP sl cl vl el wx (hm.fact 0 U).1 (hm.fact 1 U).1 (hm.fact 2 U).1 (hm.fact 3 U).1 (hm.fact 4 U).1 uB hco hcn vN hen zJ hvn (fun wy h=>hck wy (World.grownBy.trans hm.g h)) hr).mono fun _ _ ⟨go,gv,gs,fT,fQ,fS,fU,gC,lv,rv,σ,A,n,c,he,hp,hgo,hb,f1,f2,f3,f4,hg⟩=>⟨(go,gv,gs,fT,fQ,fS,fU,gC,lv,rv,σ,A,n,c),he,hp,((((hm.gn hg hgo hb).also (gD.lasts2 U) f4).also bV.lasts2 (f3.lower hm.g.size)).also bV.lasts2 (f2.lower hm.g.size)).also (SlT.lasts2 U) f1⟩) ?_
 rintro ⟨go,gv,gs,fT,fQ,fS,fU,gC,lv,rv,σ,A,n,c⟩ hp
 dsimp only at hp ⊢
 obtain ⟨wB,rfl⟩:=hp
 refine bP U (bB (cR U U) U (bB (cR U U) U (bZ U (bZ U (bR (bH (bS (bP U (bB (gX U U) U (bL 15 (v':= .bool false) U (U) (bR (jU U (bN (bD (bS (bP U (bB (bX U) U (dW qV U U (eI zN 0 U U U ?_)))))))))))))))))))
 obtain ⟨KL,hKL,hKn⟩:=wB.1.keysH
 refine bL2 (γ:=Value×Nat×List ByteArray) (val:=(fun g=>g.1)) (φ:=(fun g=>g.2.2.Nodup/\(∀k,k∈g.2.2↔(σ.fh k).isSome=true)/\g.2.2.length=g.2.1)) (fun g=>⟨g.1,64,5,g.2.1,((nQ g.2.2).map fun k=>(σ.fh k).getD vV).flatMap bR0⟩) U fT3 U U (fun wx hm=>(cX8 σ.fh fU _ KL wx (hm.fact 2 U) hKL (by rw [List.length_map,he.len] at hKn;omega)).mono fun _ _ ⟨v,n5,ks,he,ho,h1,h2,h3,hg⟩=>⟨(v,n5,ks),he,⟨h1,h2,h3⟩,ho,hg⟩) ?_
 rintro ⟨v5,n5,ks⟩ mT
 dsimp only at mT ⊢
 refine eD (R:=∃A cc,v5= .slice A n5 cc) (fun wx hm=>dS (hm.ownI 0 U)) ?_
 rintro ⟨A5,c5,rfl⟩
 refine bZ U (bZ U (bR (bM ?_)))
 refine vR U U U fun wx hm=>?_
 exact ⟨σ,A5,n5,c5,ks,U,wB,mT,hm.fa 3,SlT.ofOwn eA7 (hm.ownI 0 U) (by rw [List.length_map,uP];exact mT.2.2),hm.g⟩
theorem cV7:bU1 ⟨⟨#[115]⟩, [0,9,0,0,0,0,0,0,0,0,0,0,0,0]⟩ 8=true/\bH9 ⟨⟨#[115]⟩, [0,9,0,0,0,0,0,0,0,0,0,0,0,0]⟩ 8=0:=⟨by kernel_rfl,by kernel_rfl⟩
theorem eZ6 (w:World):Calls prog 39 #[.agg #[.string ⟨#[115]⟩,.int .i64 0,.int .i64 9,.int .i64 0,.int .i64 0,.int .i64 0,.int .i64 0,.int .i64 0,.int .i64 0,.int .i64 0,.int .i64 0,.int .i64 0,.int .i64 0,.int .i64 0,.int .i64 0],.int .i64 8] w (eW4 w true 0):=by
 have hs:∀h∈ [0,9,0,0,0,0,0,0,0,0,0,0,0,(0:Int)],0<=h/\h<=9:=by decide
 have h:=cH8 ⟨#[115]⟩ [0,9,0,0,0,0,0,0,0,0,0,0,0,0] 8 w ⟨rfl,(by decide:(⟨#[115]⟩:ByteArray).size<=1000000),fun h hh=>by have:=hs h hh;omega⟩ (fun h hh=>by have:=hs h hh;omega)
 rw [cV7.1,cV7.2] at h
 exact h
theorem dM0 (w:World):Calls prog 13 #[] w (fun e w'=>e=.returned (.bool true)/\w.grownBy w' none):=by
 refine cV ⟨15,w,none, []⟩ func13 U ntmps13 U (gR (X:= []) cY cZ) (bS (bZ U (bR (bS (bB (dJ (cs:= [.int .i64 0,.int .i64 9]) U (by kernel_rfl)) U (bB (dJ (cs:= [.int .i64 0,.int .i64 9,.int .i64 0,.int .i64 0,.int .i64 0,.int .i64 0,.int .i64 0,.int .i64 0,.int .i64 0,.int .i64 0,.int .i64 0,.int .i64 0,.int .i64 0,.int .i64 0]) U (by kernel_rfl)) U (bB (dJ (cs:= [.string ⟨#[115]⟩,.int .i64 0,.int .i64 9,.int .i64 0,.int .i64 0,.int .i64 0,.int .i64 0,.int .i64 0,.int .i64 0,.int .i64 0,.int .i64 0,.int .i64 0,.int .i64 0,.int .i64 0,.int .i64 0]) U (by kernel_rfl)) U (cL U fX3 U U (fun wx hm=>(eZ6 wx)) (bP U (bB (cR U U) U (bB (cR U U) U (bZ U (bZ U (bR (bS (bP U (bB (eN U U) U (bL 11 (v':= .bool true) U (fH5 (by decide)) (bP U (eG U (bP U (mQ U U (bZ U (bR (bM ?_)))))))))))))))))))))))))
 exact bK U U fun wx hm=>⟨U,hm.g⟩
open Go.RowKit Go.ChangeShapes
theorem dB2 {P:Program} {w:World} {n:String} {g:Nat} {cs:Array Value} (hg:P.globalNamed n=some g) (h:w.var? P n=some cs):∃T f,w.heap[g]?=some (.cells cs T f):=by
 unfold World.var? at h
 rw [hg] at h
 simp only [Option.bind_some] at h
 split at h
 ·rename_i c T f he
  cases h
  exact ⟨T,f,he⟩
 ·cases h
theorem cB9: "*"++ "errors.errorString"= "*errors.errorString":=by decide
theorem dT3 (u:TypeId) (h:prog.typeName? 3 u=some "*errors.errorString"):u=386:=
 typeName_ptr_named (nm:= "errors.errorString") (by rw [cB9];kernel_rfl) (by kernel_rfl) (by decide) u (by rw [cB9];exact h)
theorem eL4 {l:List (String×DataW Unit)} {W:World} (x1 x2:List UInt8) (hL:laidMet prog l W) (hS:W.ShapedOpen prog)
 (h1:l.filter (fun x=>x.1== "internal/strconv.uint64pow10")= [("internal/strconv.uint64pow10",Lib.tabData .u64 Lib.pow10Tab)])
 (h2:l.filter (fun x=>x.1== "strconv.ErrSyntax")= [("strconv.ErrSyntax",.iface "*errors.errorString" (.ptr (.agg [.lit (.string x1)])))])
 (h3:l.filter (fun x=>x.1== "strconv.ErrRange")= [("strconv.ErrRange",.iface "*errors.errorString" (.ptr (.agg [.lit (.string x2)])))]):qN W:=by
 have c1:=hL.filter (fun x=>x.1== "internal/strconv.uint64pow10")
 have c2:=hL.filter (fun x=>x.1== "strconv.ErrSyntax")
 have c3:=hL.filter (fun x=>x.1== "strconv.ErrRange")
 rw [h1] at c1
 rw [h2] at c2
 rw [h3] at c3
 refine ⟨?_,?_,?_,?_⟩
 ·have hg:prog.globalNamed "internal/strconv.uint64pow10"=some 1:=by kernel_rfl
  have h:=Lib.tabIs_of_head (t:=351) (e:=291) hg (by kernel_rfl) Tryz.underlying351 Tryz.underlying291 (by kernel_rfl) (by kernel_rfl) c1
  exact dB2 hg h
 ·obtain ⟨m,hm⟩:=cell_of_shapedOpen_int (P:=prog) (g:=0) (t:=3) (zero:=#[.int .i64 0]) hS (of_decide_eq_true (by kernel_rfl)) (by kernel_rfl) rfl (by kernel_rfl) (by kernel_rfl) Tryz.underlying3
  unfold World.cell? at hm
  split at hm
  ·rename_i c T f he
   exact ⟨c,T,f,m,he,by simpa using hm⟩
  ·cases hm
 ·have hg:prog.globalNamed "strconv.ErrSyntax"=some 6:=by kernel_rfl
  obtain ⟨a,s,hv,_⟩:=laid_sentinel c2 hg (by kernel_rfl) Tryz.underlying341 dT3 Tryz.underlying386 Tryz.underlying388 rfl rfl Tryz.underlying9 (by kernel_rfl) (by kernel_rfl)
  obtain ⟨T,f,h⟩:=dB2 hg hv
  exact ⟨T,f,_,_,h⟩
 ·have hg:prog.globalNamed "strconv.ErrRange"=some 7:=by kernel_rfl
  obtain ⟨a,s,hv,_⟩:=laid_sentinel c3 hg (by kernel_rfl) Tryz.underlying341 dT3 Tryz.underlying386 Tryz.underlying388 rfl rfl Tryz.underlying9 (by kernel_rfl) (by kernel_rfl)
  obtain ⟨T,f,h⟩:=dB2 hg hv
  exact ⟨T,f,_,_,h⟩
theorem gM.gainA {c:Cx} {K:World->Prop} {L:List (Nat×TypeId×List Value)} {O:List Own} {X:List (World->Prop)} {w w':World} {g:Nat} {T:TypeId} {cs:List Value} (h:gM c K L O X w) (hgr:w.grownBy w' none) (hN:w.heap.size<=g) (hb:Blk w' g T cs):gM c K ((g,T,cs)::L) O X w':=by
 have h2:=h.grow hgr
 refine ⟨h2.g,h2.k,fun x hx=>?_,List.Pairwise.cons (fun y hy e=>by have h3:=(h.b y hy).2.lt;have e2:g=y.1:=e;omega) h.nd,h2.o,fun r hr x hx=>?_,h.oo,h2.x,h.kk,h.l,h.rs⟩
 ·rcases List.mem_cons.1 hx with rfl|hx
  ·exact ⟨Nat.le_trans h.g.size hN,hb⟩
  ·exact h2.b x hx
 ·rcases List.mem_cons.1 hx with rfl|hx
  ·intro e
   have:=((h.o r hr).lt g e).2
   omega
  ·exact h.od r hr x hx
section
variable {P:Program} {c:Cx} {eU:Array Oper} {Q:Exit->Act->World->Prop} {rest:List Oper} {S:List (Nat×Value)} {K:World->Prop} {L:List (Nat×TypeId×List Value)} {O:List Own} {X:List (World->Prop)} {d:Nat} {ty:TypeId} {pos:String} {aft:Array Edge} {ty2:TypeId} {pos2:String} {aft2:Array Edge}
theorem bU7 {t:TypeId} {y:Operand} {n:Nat} {cs vs cs':List Value} (hz:kP P t=some cs) (hd:Nat.ble (d+1) c.n=true) (hs:kR P t=some n) (hy:∀g,rd ((d,.pointer (some ⟨g,0,none⟩))::S) y=some (.agg vs.toArray)) (hx:∀g,rd ((d,.pointer (some ⟨g,0,none⟩))::S) (.tmp d)=some (.pointer (some ⟨g,0,none⟩))) (h1:vs.all (·.oneCell')=true) (hn:vs.length=n) (ho:Nat.ble (0+n) cs.length=true) (hcs:kD cs 0 vs=cs')
 (h:∀g,WL P c eU Q rest ((d,.pointer (some ⟨g,0,none⟩))::S) K ((g,t,cs')::L) O X):WL P c eU Q (⟨some d,.alloc t,ty,pos,aft,none⟩::⟨none,.store t (.tmp d) y,ty2,pos2,aft2,none⟩::rest) S K L O X:=by
 intro a w ha hm
 refine wpList_plain U fun K' hK=>?_
 unfold kP at hz
 cases hi:P.info? t with
 |none=>simp [hi] at hz
 |some inf=>
  cases hzz:inf.zero with
  |none=>simp [hi,hzz] at hz
  |some z=>
   simp only [hi,hzz,Option.bind_some,Option.map_some,Option.some.injEq] at hz
   unfold Oper.wp
   have:(execOp a.eval ⟨some d,.alloc t,ty,pos,aft,none⟩).run P w= .ok (.value (.pointer (some ⟨w.heap.size,0,none⟩))) (w.alloc (.cells cs.toArray t)):=by
    subst hz
    simp [execOp,Instr.alloc,zeroValue,typeInfo,hi,hzz,newVar,newRow]
   rw [this]
   refine hK _ _ ?_
   have ha2:=ha.put hd (.pointer (some ⟨w.heap.size,0,none⟩))
   have hb:=Blk.at_ w rfl t cs
   obtain ⟨dd,hu,hr,hi⟩:=yY hs
   subst hcs
   refine wpList_store_blk U t (.tmp d) y U w.heap.size 0 t cs vs hb (ha2.eval (hx _)) (ha2.eval (hy _)) n hi hn (Nat.le_of_ble_eq_true ho) (by simpa using h1) fun w' hb' hg=>?_
   exact h _ _ _ ⟨ha2.size,ha2.val,ha2.df⟩ (hm.gainA (grow_own (grow_alloc (World.grownBy.refl w none) _) hg (fun k e=>by cases e;exact Nat.le_refl _)) (Nat.le_refl _) hb')
end
theorem eL1 {w w1 wx:World} {sb:Nat} (h:qN w) (hg1:w.grownBy w1 none) (hsb:w.heap.size<=sb) (hg:w1.grownBy wx (some sb)):TxtO w1.heap.size (some sb) wx:=by
 have ne:∀k,isG k->¬some sb=some k:=fun k hk e=>by
  have e2:sb=k:=by injection e
  have:=h.lt hk
  omega
 have h1:=h.same fun k hk=>hg1.block k (h.lt hk) (fun e=>by cases e)
 exact ⟨h1.same fun k hk=>hg.block k (h1.lt hk) (fun e=>ne k hk e.symm),fun k hk=>⟨h1.lt hk,ne k hk⟩⟩
theorem TxtO.heapH {N:Nat} {row:Option Nat} {w:World} (h:TxtO N row w):TxtO w.heap.size row w:=⟨h.1,fun k hk=>⟨h.1.lt hk,(h.2 k hk).2⟩⟩
theorem eW3:∀s∈sl2,s.key≠⟨#[]⟩:=by
 intro x hx
 unfold sl2 at hx
 simp only [List.mem_cons,List.not_mem_nil,or_false] at hx
 rcases hx with rfl|rfl <;> (intro h;cases h)
theorem fG2 {l:List Ny} (h:nI l):∀x∈l,cP9 x:=fun x hx=>by
 have h1:=h.fine x hx
 have h2:=mG.1 h1.1
 have h3:=h1.2.2.2.1
 exact ⟨by omega,by omega⟩
theorem fF2 {σ:Os} {sl:List St} {cl:List Cs} {vl:List Vh} {l:List Int} (h:vK sl cl vl l σ) {k:ByteArray} {y:Hg} (hy:σ.fh k=some y):y.legs.length=y.n/\y.n<=20:=⟨(h.li.hv k y hy).2.1.2.2.2,(h.li.hv k y hy).2.1.2.2.1⟩
theorem dO5 (v:ByteArray) (o0:Int) (o1:ByteArray) (o2 o3 i0:Int) (i1:ByteArray) (i2 i3:Int) (h:i0= -1∨(0<=i0/\i0<=5761439)) (w:World):
 Calls prog 12 #[.agg #[.string v,.int .i64 o0,.string o1,.int .i64 o2,.int .i64 o3,.int .i64 i0,.string i1,.int .i64 i2,.int .i64 i3]] w (fun e w'=>e=.returned (.agg #[.int .i64 o0,.int .i64 (bE5 i0)])/\w.grownBy w' none):=by
 refine cV ⟨18,w,none, []⟩ func12 U ntmps12 U (gR (X:= []) cY cZ) (bS (fG U U U fun g1=>dH eM8 U fun g2=>bR (bH (bS (dW dG0 U U (dW cN5 U U (eI fF 1 U U U (bB (eN U U) U (bR ?_)))))))))
 refine cE U (fun hc=>?_) (fun hc=>?_)
 ·refine bS (dW dZ8 U U (dW cN5 U U (eI fF 1 U U U ?_)))
  refine bB (dJ (cs:= [.int .i64 o0,.int .i64 5761440]) U (by kernel_rfl)) U (jX (cs':= [.int .i64 o0,.int .i64 5761440]) 0 cH1 U U U U (bR (bM (bA ?_))))
  refine bY1 0 U cH1 U U U fun wx hm=>?_
  exact ⟨by rw [show bE5 i0=5761440 from if_pos (by omega)],hm.g⟩
 refine bN (bD (bS (dW dZ8 U U (dW cN5 U U (eI fF 1 U U U (dW dG0 U U (dW cN5 U U (eI fF 1 U U U (bB (dJ (cs:= [.int .i64 o0,.int .i64 i0]) U (by kernel_rfl)) U (jX (cs':= [.int .i64 o0,.int .i64 i0]) 0 cH1 U U U U (bR (bM ?_))))))))))))
 refine bY1 0 U cH1 U U U fun wx hm=>?_
 exact ⟨by rw [show bE5 i0=i0 from if_neg (by omega)],hm.g⟩
theorem bA9 (a0:Option Addr) (len0 cap0:Nat) (z0:List Int) (w:World) (hR:RowIn w a0 len0 cap0 z0) (htx:qN w):
 Calls prog 3 #[.slice a0 len0 cap0] w fun e w'=>e=.returned (.bool true)/\Below w.heap.size w w':=by
 refine cV ⟨117,w,none, []⟩ func3 U ntmps3 U (gR (X:= []) cY cZ) (bS (bZ U (bR (bS (bP U (bB (dJ (cs:= [.slice a0 len0 cap0,.int .i64 0]) U (by kernel_rfl)) U (fG U U U fun sb=>bZ U (bR (bS (bP U ?_))))))))))
 refine eI8 [3,57,64,68,74,84,99,171,219,254,258,260,263] hR 0 U fun w1 B hg1 hsb=>?_
 refine bM9 (Y:=TxtO w1.heap.size (some sb)) (TxtO.lasts) (fun wx hm=>eL1 htx hg1 hsb hm.g) ?_
 refine nR (γ:=Option Addr×Option Addr×Option Addr×Nat×Nat×Nat×List Cs×List Vh×Option Addr×Option Addr×Option Addr×Option Addr×Option Addr×Nat×Nat×Nat×Nat×Nat×Nat×Nat×Nat×Nat×Nat×Int×Int×Int×Int×Int×Int×Int) (val:=(fun g=> .agg #[.slice g.1 2 g.2.2.2.1,.slice g.2.1 4 g.2.2.2.2.1,.slice g.2.2.1 3 g.2.2.2.2.2.1,.slice none 0 0,.slice g.2.2.2.2.2.2.2.2.1 g.2.2.2.2.2.2.2.2.2.2.2.2.2.1 g.2.2.2.2.2.2.2.2.2.2.2.2.2.2.1,.slice g.2.2.2.2.2.2.2.2.2.1 g.2.2.2.2.2.2.2.2.2.2.2.2.2.2.2.1 g.2.2.2.2.2.2.2.2.2.2.2.2.2.2.2.2.1,.slice g.2.2.2.2.2.2.2.2.2.2.1 g.2.2.2.2.2.2.2.2.2.2.2.2.2.2.2.2.2.1 g.2.2.2.2.2.2.2.2.2.2.2.2.2.2.2.2.2.2.1,.slice g.2.2.2.2.2.2.2.2.2.2.2.1 g.2.2.2.2.2.2.2.2.2.2.2.2.2.2.2.2.2.2.2.1 g.2.2.2.2.2.2.2.2.2.2.2.2.2.2.2.2.2.2.2.2.1,.slice g.2.2.2.2.2.2.2.2.2.2.2.2.1 g.2.2.2.2.2.2.2.2.2.2.2.2.2.2.2.2.2.2.2.2.2.1 g.2.2.2.2.2.2.2.2.2.2.2.2.2.2.2.2.2.2.2.2.2.2.1,.int .i64 g.2.2.2.2.2.2.2.2.2.2.2.2.2.2.2.2.2.2.2.2.2.2.2.1,.int .i64 g.2.2.2.2.2.2.2.2.2.2.2.2.2.2.2.2.2.2.2.2.2.2.2.2.1,.int .i64 g.2.2.2.2.2.2.2.2.2.2.2.2.2.2.2.2.2.2.2.2.2.2.2.2.2.1,.int .i64 g.2.2.2.2.2.2.2.2.2.2.2.2.2.2.2.2.2.2.2.2.2.2.2.2.2.2.1,.int .i64 g.2.2.2.2.2.2.2.2.2.2.2.2.2.2.2.2.2.2.2.2.2.2.2.2.2.2.2.1,.int .i64 g.2.2.2.2.2.2.2.2.2.2.2.2.2.2.2.2.2.2.2.2.2.2.2.2.2.2.2.2.1,.int .i64 g.2.2.2.2.2.2.2.2.2.2.2.2.2.2.2.2.2.2.2.2.2.2.2.2.2.2.2.2.2])) (φ:=(fun g=>g.2.2.2.2.2.2.1.length=4/\(∀x∈g.2.2.2.2.2.2.1,uF x)/\jB g.2.2.2.2.2.2.1=0/\Vh3 g.2.2.2.2.2.2.1 3 g.2.2.2.2.2.2.2.1)) (Y:=(fun g=>fun wy=>SlT stEnc 15 99 wy g.1 2 sl2/\SlT dV 2 84 wy g.2.1 4 g.2.2.2.2.2.2.1/\SlT fX 2 57 wy g.2.2.1 3 g.2.2.2.2.2.2.2.1/\bO8 (.slice g.2.2.2.2.2.2.2.2.1 g.2.2.2.2.2.2.2.2.2.2.2.2.2.1 g.2.2.2.2.2.2.2.2.2.2.2.2.2.2.1) (.slice g.2.2.2.2.2.2.2.2.2.1 g.2.2.2.2.2.2.2.2.2.2.2.2.2.2.2.1 g.2.2.2.2.2.2.2.2.2.2.2.2.2.2.2.2.1) (.slice g.2.2.2.2.2.2.2.2.2.2.1 g.2.2.2.2.2.2.2.2.2.2.2.2.2.2.2.2.2.1 g.2.2.2.2.2.2.2.2.2.2.2.2.2.2.2.2.2.2.1) (.slice g.2.2.2.2.2.2.2.2.2.2.2.1 g.2.2.2.2.2.2.2.2.2.2.2.2.2.2.2.2.2.2.2.1 g.2.2.2.2.2.2.2.2.2.2.2.2.2.2.2.2.2.2.2.2.1) (.slice g.2.2.2.2.2.2.2.2.2.2.2.2.1 g.2.2.2.2.2.2.2.2.2.2.2.2.2.2.2.2.2.2.2.2.2.1 g.2.2.2.2.2.2.2.2.2.2.2.2.2.2.2.2.2.2.2.2.2.2.1) (.int .i64 g.2.2.2.2.2.2.2.2.2.2.2.2.2.2.2.2.2.2.2.2.2.2.2.1) (.int .i64 g.2.2.2.2.2.2.2.2.2.2.2.2.2.2.2.2.2.2.2.2.2.2.2.2.1) (.int .i64 g.2.2.2.2.2.2.2.2.2.2.2.2.2.2.2.2.2.2.2.2.2.2.2.2.2.1) (.int .i64 g.2.2.2.2.2.2.2.2.2.2.2.2.2.2.2.2.2.2.2.2.2.2.2.2.2.2.1) (.int .i64 g.2.2.2.2.2.2.2.2.2.2.2.2.2.2.2.2.2.2.2.2.2.2.2.2.2.2.2.1) (.int .i64 g.2.2.2.2.2.2.2.2.2.2.2.2.2.2.2.2.2.2.2.2.2.2.2.2.2.2.2.2.1) (.int .i64 g.2.2.2.2.2.2.2.2.2.2.2.2.2.2.2.2.2.2.2.2.2.2.2.2.2.2.2.2.2) wy)) (m':=7000) U cb6 U U U U (fun wx hm=>(cG1 wx B sb _ hm.k (by omega)).mono fun _ _ ⟨sA,cA,vA,sc,cc,vc,cl,vl,yT,yU,yV,yW,yX,ran,rac,xA,rbc,xB,rcc,xC,rdc,ren,rec,da,db,dc,dd,de,df,dg,he,hp,h1,h2,h3,h4,hS,hg⟩=>⟨(sA,cA,vA,sc,cc,vc,cl,vl,yT,yU,yV,yW,yX,ran,rac,xA,rbc,xB,rcc,xC,rdc,ren,rec,da,db,dc,dd,de,df,dg),he,hp,hS,hg,h1,h2,h3,h4⟩) (fun _=>(SlT.lasts2 U).and_ ((SlT.lasts2 U).and_ ((SlT.lasts2 U).and_ (bO8.lasts2 U U U U U U)))) ?_
 rintro ⟨sA,cA,vA,sc,cc,vc,cl,vl,yT,yU,yV,yW,yX,ran,rac,xA,rbc,xB,rcc,xC,rdc,ren,rec,da,db,dc,dd,de,df,dg⟩ hho
 dsimp only at hho ⊢
 obtain ⟨hcl4,hco,hcz,hv3⟩:=hho
 have hfz:=dV6 hcz hv3
 have bS2:=eF8 hv3
 have hvl:=hv3.1
 refine bP U (bP U (dM (γ:=Int) (val:=fun v=> .int .i64 v) (φ:=fun v=>4<=v/\(v<=20∨v=4)) U cb8 U U U U (fun wx hm=>(bE2 _ _ wx B sb _ hm.k (by omega) (by omega) (by omega) (by omega) (by omega))) fun q hq=>?_))
 obtain ⟨q2,hq2⟩:∃q2:Nat,q=(q2:Int):=⟨q.toNat,by omega⟩
 have hq20:q2<=20:=by omega
 subst hq2
 refine nR (γ:=Option Addr×Nat×Nat×List Ny) (val:=(fun g=> .slice g.1 g.2.1 g.2.2.1)) (φ:=(fun g=>(∀x∈g.2.2.2,uS x)/\nI g.2.2.2/\g.2.1<=q2/\g.2.2.2.length=g.2.1)) (Y:=(fun g=>fun wy=>SlT eS 4 171 wy g.1 g.2.1 g.2.2.2)) (m':=7000+1+2000) U cb7 U U U U (fun wx hm=>(bP7 q2 wx B sb _ hm.k (by omega) (TxtO.heapH (hm.fact 1 U)) hq20).mono fun _ _ ⟨A,n,c,l,he,h1,h2,h3,h4,hS,hg⟩=>⟨(A,n,c,l),he,⟨h2,h3,h4,h1.len⟩,hS,hg,h1⟩) (fun _=>SlT.lasts2 U) ?_
 rintro ⟨eA,en,ec,el⟩ hen
 dsimp only at hen ⊢
 obtain ⟨hsz,hny,hen2,hlen⟩:=hen
 have vN:=fG2 hny
 obtain ⟨htm,hup⟩:=eK0 hny
 refine dH fV2 U fun g1=>jX (cs':= [.slice sA 2 sc,.slice cA 4 cc,.slice vA 3 vc,.slice none 0 0,.slice yT ran rac,.slice yU xA rbc,.slice yV xB rcc,.slice yW xC rdc,.slice yX ren rec,.int .i64 da,.int .i64 db,.int .i64 dc,.int .i64 dd,.int .i64 de,.int .i64 df,.int .i64 dg]) 0 cS2 U U U U (bZ U (bR (bS (bB (cX cS2 U (fun _ hm=>hm.blkI 0 U) U U) U (bP U ?_)))))
 refine jC (γ:=Os×List Ev×Option Addr×Nat×Nat) (val:=(fun g=> .tuple #[.slice g.2.2.1 g.2.2.2.1 g.2.2.2.2,.int .i64 0])) (φ:=(fun g=>(pR (pY vl) (qL sl2) (fun b=>jR cl [b]=0) (el.map Ny.at_) g.1/\fY g.1=bZ3 (pY vl) (qL sl2) cl el)/\g.2.1=dR dU g.1.lg/\g.2.1.length=g.2.2.2.1)) (Y:=(fun g=>fun wy=>SlT dP 5 74 wy g.2.2.1 g.2.2.2.1 g.2.1)) U cb9 U U (fun wx hm=>(cY4 sA cA vA eA 2 sc 4 cc 3 vc en ec (.slice none 0 0) (.slice yT ran rac) (.slice yU xA rbc) (.slice yV xB rcc) (.slice yW xC rdc) (.slice yX ren rec) (.int .i64 da) (.int .i64 db) (.int .i64 dc) (.int .i64 dd) (.int .i64 de) (.int .i64 df) (.int .i64 dg) sl2 cl vl el wx (hm.fact 1 U).1 (hm.fact 1 U).2.1 (hm.fact 1 U).2.2.1 (hm.fact 0 U) (hm.fact 2 U).1 bR7 hco (by decide) vN (by omega) (by decide) (by decide) (bG0 sA cA vA 2 sc 4 cc 3 vc sl2 cl vl (.slice yT ran rac) (.slice yU xA rbc) (.slice yV xB rcc) (.slice yW xC rdc) (.slice yX ren rec) (.int .i64 da) (.int .i64 db) (.int .i64 dc) (.int .i64 dd) (.int .i64 de) (.int .i64 df) (.int .i64 dg) wx (hm.fact 1 U).1 (hm.fact 1 U).2.1 (hm.fact 1 U).2.2.1 bR7 hco bS2 (by decide) (by decide) (by decide) hfz (hm.fact 1 U).2.2.2) hny).mono fun _ _ ⟨σ,A,n,c,he,hr,hs,hg⟩=>⟨(σ,dR dU σ.lg,A,n,c),he,⟨hr,U,hs.len⟩,hg,hs⟩) (fun _=>SlT.lasts2 U) ?_
 rintro ⟨σ1,E,gA,gn,gc⟩ hlg
 dsimp only at hlg ⊢
 refine bP U (bB (cR U U) U (bB (cR U U) U (bZ U (bZ U (bR (bS (bB (cX cS2 U (fun _ hm=>hm.blkI 0 U) U U) U (bP U ?_))))))))
 refine jC (γ:=Os×Option Addr×Nat×Nat×List ByteArray) (val:=(fun g=> .tuple #[.slice g.2.1 g.2.2.1 g.2.2.2.1,.int .i64 0])) (φ:=(fun g=>(pR (pY vl) (qL sl2) (fun b=>jR cl [b]=0) (el.map Ny.at_) g.1/\fY g.1=bZ3 (pY vl) (qL sl2) cl el)/\(g.2.2.2.2.Nodup/\(∀k,k∈g.2.2.2.2↔(g.1.fh k).isSome=true)/\g.2.2.2.2.length=g.2.2.1))) (Y:=(fun g=>fun wy=>gD 68 g.1.fh wy/\SlT bR0 5 64 wy g.2.1 g.2.2.1 (cX7 g.1 g.2.2.2.2))) U fK3 U U (fun wx hm=>(bZ9 sA cA vA eA 2 sc 4 cc 3 vc en ec (.slice none 0 0) (.slice yT ran rac) (.slice yU xA rbc) (.slice yV xB rcc) (.slice yW xC rdc) (.slice yX ren rec) (.int .i64 da) (.int .i64 db) (.int .i64 dc) (.int .i64 dd) (.int .i64 de) (.int .i64 df) (.int .i64 dg) sl2 cl vl el wx (hm.fact 2 U).1 (hm.fact 2 U).2.1 (hm.fact 2 U).2.2.1 (hm.fact 1 U) (hm.fact 3 U).1 bR7 hco (by decide) vN (by omega) (by decide) (by decide) (bG0 sA cA vA 2 sc 4 cc 3 vc sl2 cl vl (.slice yT ran rac) (.slice yU xA rbc) (.slice yV xB rcc) (.slice yW xC rdc) (.slice yX ren rec) (.int .i64 da) (.int .i64 db) (.int .i64 dc) (.int .i64 dd) (.int .i64 de) (.int .i64 df) (.int .i64 dg) wx (hm.fact 2 U).1 (hm.fact 2 U).2.1 (hm.fact 2 U).2.2.1 bR7 hco bS2 (by decide) (by decide) (by decide) hfz (hm.fact 2 U).2.2.2) hny).mono fun _ _ ⟨σ,A,n,c,ks,he,hr,hk,hf,hs,hg⟩=>⟨(σ,A,n,c,ks),he,⟨hr,hk⟩,hg,hf,hs⟩) (fun _=>(gD.lasts2 U).and_ (SlT.lasts2 U)) ?_
 rintro ⟨σ,hA,hn,hc,ks⟩ hhr
 dsimp only at hhr ⊢
 obtain ⟨⟨hr1,ha1⟩,hE,hEn⟩:=hlg
 obtain ⟨⟨hr2,ha2⟩,hnd,hks,hkn⟩:=hhr
 have hlgs:σ1.lg=σ.lg:=(congrArg As.lg (ha1.trans ha2.symm):(fY σ1).lg=(fY σ).lg)
 rw [hlgs] at hE
 have hrl:vK sl2 cl vl (el.map Ny.at_) σ:=⟨hr2,htm,hup,by rw [List.length_map];omega,eW3⟩
 have hEl:E.length<=40:=by rw [hE];exact hrl.len
 have hEok:∀x∈E,cJ4 x:=by rw [hE];exact hrl.evOk (fun v hv=>(bS2 v hv).1) (fun s hs=>(bR7 s hs).2.1)
 have hn20:hn<=20:=by have:=hrl.hires hnd hks;omega
 obtain ⟨S,hS⟩:∃z,z=nQ ks:=⟨_,rfl⟩
 refine bP U (bB (cR U U) U (bB (cR U U) U (bZ U (bZ U (bR (bH (bS (bP U (bB (gX U U) U (bL 43 (v':= .bool false) U (fH5 (by decide)) (bP U (eG U (bP U (eG U (bB (gX U U) U (bL 46 (v':= .bool false) U (fH5 (by decide)) (nS U U (bR (jU U (bN (bD (bS (bP U (dM (γ:=Int) (val:=fun v=> .int .i64 v) (φ:=fun v=>0<=v/\(v<=500∨v=0)) U cb8 U U U U (fun wx hm=>(bE2 _ _ wx B sb _ hm.k (by omega) (by omega) (by omega) (by omega) (by omega))) fun wa hwa=>bP U (dM (γ:=Int) (val:=fun v=> .int .i64 v) (φ:=fun v=>500<=v/\(v<=9000∨v=500)) U cb8 U U U U (fun wx hm=>(bE2 _ _ wx B sb _ hm.k (by omega) (by omega) (by omega) (by omega) (by omega))) fun wb hwb=>?_)))))))))))))))))))))))))
 have hwa:0<=wa/\wa<=500:=by omega
 have hwb:500<=wb/\wb<=9000:=by omega
 refine eD (R:=∃bv ov,vA=some ⟨bv,ov,none⟩) (fun wx hm=>by obtain ⟨b,off,hA,_,_⟩:=SlT.get (hm.fact 3 rfl).2.2.1 (by decide);exact ⟨b,off,hA⟩) ?_
 rintro ⟨bv,ov,rfl⟩
 refine bB (dJ (cs:= [.int .i64 wa,.int .i64 wb]) U (by kernel_rfl)) U (dH eM8 U fun g2=>jX (cs':= [.int .i64 wa,.int .i64 wb]) 0 cH1 U U U U (bR (bH (bS (dW bP6 U U (dW uK U U (eI bX2 1 U U U (bB (dT bQ3 U) U (bL 56 (v':= .int .i64 3) U U (bP U (bR (bO ?_))))))))))))
 refine dX (γ:=Nat) (fun (iv:Nat)=>iv<=3) (fun (iv:Nat)=> [(4,.pointer (some ⟨g1,0,none⟩)),(6,.slice gA gn gc),(8,.slice hA hn hc),(10,.pointer (some ⟨g2,0,none⟩)),(55,.slice (some ⟨bv,ov,none⟩) 3 vc),(56,.int .i64 3),(57,.int .i64 ((iv:Nat):Int))]) (fun (iv:Nat)=>fun w=>eW 25 w B sb (7000+1+2000+1+1)) (fun (iv:Nat)=> [(g2,55, [.int .i64 wa,.int .i64 wb]),(g1,42, [.slice sA 2 sc,.slice cA 4 cc,.slice (some ⟨bv,ov,none⟩) 3 vc,.slice none 0 0,.slice yT ran rac,.slice yU xA rbc,.slice yV xB rcc,.slice yW xC rdc,.slice yX ren rec,.int .i64 da,.int .i64 db,.int .i64 dc,.int .i64 dd,.int .i64 de,.int .i64 df,.int .i64 dg])]) (fun (iv:Nat)=> []) (fun (iv:Nat)=> [fun wy=>gD 68 σ.fh wy/\SlT bR0 5 64 wy hA hn (cX7 σ ks),fun wy=>SlT dP 5 74 wy gA gn E,fun wy=>SlT eS 4 171 wy eA en el,fun wy=>SlT stEnc 15 99 wy sA 2 sl2/\SlT dV 2 84 wy cA 4 cl/\SlT fX 2 57 wy (some ⟨bv,ov,none⟩) 3 vl/\bO8 (.slice yT ran rac) (.slice yU xA rbc) (.slice yV xB rcc) (.slice yW xC rdc) (.slice yX ren rec) (.int .i64 da) (.int .i64 db) (.int .i64 dc) (.int .i64 dd) (.int .i64 de) (.int .i64 df) (.int .i64 dg) wy,TxtO w1.heap.size (some sb)]) (fun (iv:Nat)=>3 - iv) 0 (by decide) ⟨U,U,U,U,U,U,U,trivial⟩ (fun _ hm=>hm.pick [0,1] [] [0,1,2,3,4] U U) ?_
 intro iv cC
 replace cC:iv<=3:=cC
 refine bS (bB (dD U U) U (bR (bH ?_)))
 refine cE U (fun hi=>?_) (fun hi=>?_)
 ·refine bN (bD (bH (bO (bS ?_))))
  obtain ⟨x,hx⟩:∃x,vl[iv]?=some x:=⟨_,fJ5 (by omega)⟩
  obtain ⟨uk,uc⟩:=x
  have hsi:siE sl2 cl vl [] E uk wa wb=0:=by rw [hE];exact hrl.si hfz hx (by omega) (by omega) (by omega)
  refine bB (bT (j:=iv) bQ3 U U (by omega)) U (bB (dO (vs:= [.string uk,.string uc]) bB9 U (fun _ hm=>(hm.fact 3 U).2.2.1) hx U U) U (bU7 (vs:= [.string uk,.string uc]) (cs':= [.string uk,.string uc]) eR1 U bB9 (fun _=>U) (fun _=>U) U U U U fun g3=>bR (bS (dW bP6 U U (bB (cX bP5 U (fun _ hm=>hm.blkI 2 U) U U) U (bP U (dW wU U U (eI fE 0 U U U (bB (cX cH1 U (fun _ hm=>hm.blkI 1 U) U U) U (cL U fL3 U U (fun wx hm=>((cY8 sl2 cl vl [] sA cA (some ⟨bv,ov,none⟩) none 2 sc 4 cc 3 vc 0 0 E gA gn gc uk wa wb wx (hm.fact 3 U).1 (hm.fact 3 U).2.1 (hm.fact 3 U).2.2.1 (SlT.nil_ _ _) bR7 hco bS2 (fun _ h=>by cases h) (by decide) (by decide) (by decide) (by decide) (hm.fact 1 U) hEok (by omega) (by omega)).mono fun _ _ h=>⟨h.1 hsi,h.2.2⟩)) (bP U (bB (cR U U) U (bB (cR U U) U (dH fW2 U fun g4=>jX (cs':= [.int .i64 (spT wa wb E uk 0),.int .i64 (spT wa wb E uk 1),.int .i64 (spT wa wb E uk 2),.int .i64 (spT wa wb E uk 3),.int .i64 (spT wa wb E uk 4),.int .i64 (spT wa wb E uk 5)]) 0 cS8 U U U U (bZ U (bR (bS (bZ U (bR (bH (bS (bP U (bB (dT fU1 U) U (bP U (bR (bO ?_))))))))))))))))))))))))))
  refine dX (γ:=Nat×Int) (fun (gq2:Nat×Int)=>gq2.1<=hn/\gq2.2=kS (wnT wa wb) uk σ.fh (S.take gq2.1)) (fun (gq2:Nat×Int)=> [(4,.pointer (some ⟨g1,0,none⟩)),(6,.slice gA gn gc),(8,.slice hA hn hc),(10,.pointer (some ⟨g2,0,none⟩)),(12,.pointer (some ⟨g3,0,none⟩)),(13,.pointer (some ⟨g4,0,none⟩)),(14,.int .i64 0),(15,.int .i64 gq2.2),(55,.slice (some ⟨bv,ov,none⟩) 3 vc),(56,.int .i64 3),(57,.int .i64 ((iv:Nat):Int)),(71,.slice hA hn hc),(72,.int .i64 ((hn:Nat):Int)),(73,.int .i64 ((gq2.1:Nat):Int))]) (fun (gq2:Nat×Int)=>fun w=>eW 25 w B sb (7000+1+2000+1+1)) (fun (gq2:Nat×Int)=> [(g4,59, [.int .i64 (spT wa wb E uk 0),.int .i64 (spT wa wb E uk 1),.int .i64 (spT wa wb E uk 2),.int .i64 (spT wa wb E uk 3),.int .i64 (spT wa wb E uk 4),.int .i64 (spT wa wb E uk 5)]),(g3,57, [.string uk,.string uc]),(g2,55, [.int .i64 wa,.int .i64 wb]),(g1,42, [.slice sA 2 sc,.slice cA 4 cc,.slice (some ⟨bv,ov,none⟩) 3 vc,.slice none 0 0,.slice yT ran rac,.slice yU xA rbc,.slice yV xB rcc,.slice yW xC rdc,.slice yX ren rec,.int .i64 da,.int .i64 db,.int .i64 dc,.int .i64 dd,.int .i64 de,.int .i64 df,.int .i64 dg])]) (fun (gq2:Nat×Int)=> []) (fun (gq2:Nat×Int)=> [fun wy=>gD 68 σ.fh wy/\SlT bR0 5 64 wy hA hn (cX7 σ ks),fun wy=>SlT dP 5 74 wy gA gn E,fun wy=>SlT eS 4 171 wy eA en el,fun wy=>SlT stEnc 15 99 wy sA 2 sl2/\SlT dV 2 84 wy cA 4 cl/\SlT fX 2 57 wy (some ⟨bv,ov,none⟩) 3 vl/\bO8 (.slice yT ran rac) (.slice yU xA rbc) (.slice yV xB rcc) (.slice yW xC rdc) (.slice yX ren rec) (.int .i64 da) (.int .i64 db) (.int .i64 dc) (.int .i64 dd) (.int .i64 de) (.int .i64 df) (.int .i64 dg) wy,TxtO w1.heap.size (some sb)]) (fun (gq2:Nat×Int)=>hn - gq2.1) (0,0) ⟨Nat.zero_le _,U⟩ ⟨U,U,U,U,U,U,U,U,U,U,U,U,U,U,trivial⟩ (fun _ hm=>hm.pick [0,1,2,3] [] [0,1,2,3,4] U U) ?_
  rintro ⟨jv,acc⟩ cC
  replace cC:jv<=hn/\acc=kS (wnT wa wb) uk σ.fh (S.take jv):=cC
  dsimp only
  refine bS ?_
  obtain ⟨hj0,hac⟩:=cC
  have hab:=hrl.acc (a:=wa) (b:=wb) (v:=uk) (by omega) (by omega) (ks:=S.take jv)
  rw [<-hac,List.length_take] at hab
  refine bB (dD U U) U (bR (bH ?_))
  refine cE U (fun hj=>?_) (fun hj=>?_)
  ·refine bN (bD (bH (bO (bS ?_))))
   obtain ⟨y,hy⟩:∃y,(cX7 σ ks)[jv]?=some y:=⟨_,fJ5 (by unfold cX7;rw [List.length_map,uP];omega)⟩
   obtain ⟨k5,hk5,hfk⟩:=eB7 hks hy
   rw [<-hS] at hk5
   obtain ⟨hll,hl20⟩:=fF2 hrl hfk
   have hbd:=hrl.bd hfk
   obtain ⟨k0,d0,f0,t0,lA,ln,lc,hls⟩:=y
   dsimp only at hll hl20 hbd
   refine eD (R:=∃hb hof,hA=some ⟨hb,hof,none⟩) (fun wx hm=>by obtain ⟨b,off,hA,_,_⟩:=SlT.get (hm.fact 0 rfl).2 (by omega);exact ⟨b,off,hA⟩) ?_
   rintro ⟨hb,hof,rfl⟩
   refine bM9 (Y:=fun wy=>SlT lgEnc 9 68 wy lA ln hls) (SlT.lasts2 U) (fun wx hm=>(hm.fact 0 U).1 _ _ hfk) ?_
   refine bB (bT (j:=jv) fU1 U U (by omega)) U (bB (dO (vs:= [.string k0,.string d0,.int .i64 f0,.int .i64 t0,.slice lA ln lc]) nT U (fun _ hm=>(hm.fact 1 U).2) hy U U) U (bU7 (vs:= [.string k0,.string d0,.int .i64 f0,.int .i64 t0,.slice lA ln lc]) (cs':= [.string k0,.string d0,.int .i64 f0,.int .i64 t0,.slice lA ln lc]) bA6 U nT (fun _=>U) (fun _=>U) U U U U fun g5=>bR (bS (dW vY U U (eI cJ1 0 U U U (bB (dT cK2 U) U (bP U (bR (bO ?_)))))))))
   refine dX (γ:=Nat×Int) (fun (gq3:Nat×Int)=>gq3.1<=ln/\gq3.2=acc+lgS (wnT wa wb) uk (hls.take gq3.1)) (fun (gq3:Nat×Int)=> [(4,.pointer (some ⟨g1,0,none⟩)),(6,.slice gA gn gc),(8,.slice (some ⟨hb,hof,none⟩) hn hc),(10,.pointer (some ⟨g2,0,none⟩)),(12,.pointer (some ⟨g3,0,none⟩)),(13,.pointer (some ⟨g4,0,none⟩)),(14,.int .i64 0),(15,.int .i64 gq3.2),(55,.slice (some ⟨bv,ov,none⟩) 3 vc),(56,.int .i64 3),(57,.int .i64 ((iv:Nat):Int)),(71,.slice (some ⟨hb,hof,none⟩) hn hc),(72,.int .i64 ((hn:Nat):Int)),(73,.int .i64 ((jv:Nat):Int)),(78,.slice lA ln lc),(79,.int .i64 ((ln:Nat):Int)),(80,.int .i64 ((gq3.1:Nat):Int))]) (fun (gq3:Nat×Int)=>fun w=>eW 25 w B sb (7000+1+2000+1+1)) (fun (gq3:Nat×Int)=> [(g5,64, [.string k0,.string d0,.int .i64 f0,.int .i64 t0,.slice lA ln lc]),(g4,59, [.int .i64 (spT wa wb E uk 0),.int .i64 (spT wa wb E uk 1),.int .i64 (spT wa wb E uk 2),.int .i64 (spT wa wb E uk 3),.int .i64 (spT wa wb E uk 4),.int .i64 (spT wa wb E uk 5)]),(g3,57, [.string uk,.string uc]),(g2,55, [.int .i64 wa,.int .i64 wb]),(g1,42, [.slice sA 2 sc,.slice cA 4 cc,.slice (some ⟨bv,ov,none⟩) 3 vc,.slice none 0 0,.slice yT ran rac,.slice yU xA rbc,.slice yV xB rcc,.slice yW xC rdc,.slice yX ren rec,.int .i64 da,.int .i64 db,.int .i64 dc,.int .i64 dd,.int .i64 de,.int .i64 df,.int .i64 dg])]) (fun (gq3:Nat×Int)=> []) (fun (gq3:Nat×Int)=> [fun wy=>SlT lgEnc 9 68 wy lA ln hls,fun wy=>gD 68 σ.fh wy/\SlT bR0 5 64 wy (some ⟨hb,hof,none⟩) hn (cX7 σ ks),fun wy=>SlT dP 5 74 wy gA gn E,fun wy=>SlT eS 4 171 wy eA en el,fun wy=>SlT stEnc 15 99 wy sA 2 sl2/\SlT dV 2 84 wy cA 4 cl/\SlT fX 2 57 wy (some ⟨bv,ov,none⟩) 3 vl/\bO8 (.slice yT ran rac) (.slice yU xA rbc) (.slice yV xB rcc) (.slice yW xC rdc) (.slice yX ren rec) (.int .i64 da) (.int .i64 db) (.int .i64 dc) (.int .i64 dd) (.int .i64 de) (.int .i64 df) (.int .i64 dg) wy,TxtO w1.heap.size (some sb)]) (fun (gq3:Nat×Int)=>ln - gq3.1) (0,acc) ⟨Nat.zero_le _,(Int.add_zero _).symm⟩ ⟨U,U,U,U,U,U,U,U,U,U,U,U,U,U,U,U,U,trivial⟩ (fun _ hm=>hm.pick [0,1,2,3,4] [] [0,1,2,3,4,5] U U) ?_
   rintro ⟨kv,ac2⟩ cC
   replace cC:kv<=ln/\ac2=acc+lgS (wnT wa wb) uk (hls.take kv):=cC
   dsimp only
   refine bS ?_
   obtain ⟨hk0,hac2⟩:=cC
   have hab2:=dC1 (a:=wa) (b:=wb) (v:=uk) (by omega) (by omega) (l:=hls.take kv)
   rw [List.length_take] at hab2
   refine bB (dD U U) U (bR (bH ?_))
   refine cE U (fun hkv=>?_) (fun hkv=>?_)
   ·refine bN (bD (bH (bO (bS ?_))))
    obtain ⟨z,hz⟩:∃z,hls[kv]?=some z:=⟨_,fJ5 (by omega)⟩
    obtain ⟨⟨ho0,ho1⟩,hio⟩:=hbd _ (fK5 hz)
    obtain ⟨lv,⟨o0,o1,o2,o3⟩,⟨i0,i1,i2,i3⟩⟩:=z
    dsimp only at ho0 ho1 hio
    have hto:0<=bE5 i0/\bE5 i0<=5761440:=by unfold bE5;split <;> omega
    refine eD (R:=∃lb lof,lA=some ⟨lb,lof,none⟩) (fun wx hm=>by obtain ⟨b,off,hA,_,_⟩:=SlT.get (hm.fact 0 rfl) (by omega);exact ⟨b,off,hA⟩) ?_
    rintro ⟨lb,lof,rfl⟩
    refine bB (bT (j:=kv) cK2 U U (by omega)) U (bB (dO (vs:= [.string lv,.int .i64 o0,.string o1,.int .i64 o2,.int .i64 o3,.int .i64 i0,.string i1,.int .i64 i2,.int .i64 i3]) eV7 U (fun _ hm=>(hm.fact 0 U)) hz U U) U (bU7 (vs:= [.string lv,.int .i64 o0,.string o1,.int .i64 o2,.int .i64 o3,.int .i64 i0,.string i1,.int .i64 i2,.int .i64 i3]) (cs':= [.string lv,.int .i64 o0,.string o1,.int .i64 o2,.int .i64 o3,.int .i64 i0,.string i1,.int .i64 i2,.int .i64 i3]) fR4 U eV7 (fun _=>U) (fun _=>U) U U U U fun g6=>bR (bS (dW cO5 U U (eI fE 0 U U U (dW wU U U (eI fE 3 U U U (bB (eR U U) U (bR ?_)))))))))
    refine dC U (fun hh=>?_) (fun hh=>?_)
    ·have hq:(lv.toList==uk.toList)=true:=by simpa using hh
     refine bS (bB (cX eV7 U (fun _ hm=>hm.blkI 0 U) U U) U (cL U fM3 U U (fun wx hm=>(dO5 lv o0 o1 o2 o3 i0 i1 i2 i3 hio wx)) (dH eM8 U fun g7=>jX (cs':= [.int .i64 o0,.int .i64 (bE5 i0)]) 0 cH1 U U U U (bR (bI (bP U (dW yE U U (eI fF 5 U U U (dW yE U U (eI fF 0 U U U (bB (dI1 U U) U (dW wT U U (eI fF 5 U U U (dW wT U U (eI fF 0 U U U (bB (cF6 U U) U (bB (ov_sub U U (by omega) (by omega)) U (bB (cF6 U U) U (gN U U (bZ U (bE (bG (bD (bI (gN U U (bP U (bE ?_)))))))))))))))))))))))))))
     exact cQ (kv+1,ac2+(max 0 ((min wb (bE5 i0)) - (max wa o0)))) ⟨by dsimp only;omega,by dsimp only;rw [dY9 hz,if_pos hq,<-Int.add_assoc,<-hac2];rfl⟩ (by dsimp only;omega) ⟨U,U,U,U,U,U,U,U,U,U,U,U,U,U,U,U,(cS (by omega)),trivial⟩ (fun _ hm=>hm.pick [2,3,4,5,6] [] [0,1,2,3,4,5] U U)
    have hq:(lv.toList==uk.toList)=false:=by simpa using hh
    refine bN (bG (bD (bI (gN U U (bP U (bE ?_))))))
    exact cQ (kv+1,ac2) ⟨by dsimp only;omega,by dsimp only;rw [dY9 hz,if_neg (by rw [hq];decide),Int.add_zero];exact hac2⟩ (by dsimp only;omega) ⟨U,U,U,U,U,U,U,U,U,U,U,U,U,U,U,U,(cS (by omega)),trivial⟩ (fun _ hm=>hm.pick [1,2,3,4,5] [] [0,1,2,3,4,5] U U)
   refine dE (bF (bF (bY (bG (bD (bI (gN U U (bP U (bE ?_)))))))))
   exact cQ (jv+1,ac2) ⟨by dsimp only;omega,by dsimp only;rw [fD2 hk5,hfk,<-hac,hac2,List.take_of_length_le (by omega)];rfl⟩ (by dsimp only;omega) ⟨U,U,U,U,U,U,U,U,U,U,U,U,U,(cS (by omega)),trivial⟩ (fun _ hm=>hm.pick [1,2,3,4] [] [1,2,3,4,5] U U)
  refine dE (bF (bF (bY (bD (bS ?_)))))
  have hfin:spT wa wb E uk 2=acc:=by
   rw [hac,hE,hrl.hired wa wb uk hnd hks,<-hS,List.take_of_length_le (by rw [hS,uP];omega)]
  refine bP U (bB (gX U U) U (bL 108 (v':= .bool false) U (fH5 (by decide)) (bP U (eG U (dW bS3 U U (eG U (eI fF 0 U U U (eG U (bP U (eG U (bB (gX U U) U (bL 113 (v':= .bool false) U (fH5 (by rw [decide_eq_true hfin];rfl)) (nS U U (bR (jU U (bN (bG (bD (bI (gN U U (bP U (bE ?_))))))))))))))))))))))
  exact cQ (iv+1) (by omega) (by omega) ⟨U,U,U,U,U,U,(cS (by omega)),trivial⟩ (fun _ hm=>hm.pick [2,3] [] [0,1,2,3,4] U U)
 refine dE (bF (bF (bY (bD (bS (cL U fN3 U U (fun wx hm=>(dM0 wx)) (bZ U (bR (bM ?_)))))))))
 exact bK U U fun wx hm=>⟨U,eF3 hg1 hsb hm.g⟩
theorem hiredTimes_law {l:List (String×DataW Unit)} (y1 y2:List UInt8) (a0:Option Addr) (len0 cap0:Nat) (z0:List Int) (W:World) (hR:RowIn W a0 len0 cap0 z0) (hL:laidMet prog l W) (hS:W.ShapedOpen prog)
 (h1:l.filter (fun x=>x.1== "internal/strconv.uint64pow10")= [("internal/strconv.uint64pow10",Lib.tabData .u64 Lib.pow10Tab)])
 (h2:l.filter (fun x=>x.1== "strconv.ErrSyntax")= [("strconv.ErrSyntax",.iface "*errors.errorString" (.ptr (.agg [.lit (.string y1)])))])
 (h3:l.filter (fun x=>x.1== "strconv.ErrRange")= [("strconv.ErrRange",.iface "*errors.errorString" (.ptr (.agg [.lit (.string y2)])))]):
 Calls prog 3 #[.slice a0 len0 cap0] W fun e w'=>e=.returned (.bool true)/\Below W.heap.size W w':=
 bA9 a0 len0 cap0 z0 W hR (eL4 y1 y2 hL hS h1 h2 h3)
end Go.Proofs.YtmifpfcmldflkaaGreatDoor
