/- Several texts as one: Dku Dkv Dkw Dkp Dkr H10 Twt Tlh -/
import Derived.Test.YtmifpfcmldflkaaGreatDoorS1g
import Derived.Test.YtmifpfcmldflkaaGreatDoorS1e
import Derived.Test.YtmifpfcmldflkaaGreatDoorS1b
import Derived.Test.YtmifpfcmldflkaaGreatDoorS1c
import Derived.Test.YtmifpfcmldflkaaGreatDoorS1f
import Derived.Test.YtmifpfcmldflkaaGreatDoorS1d
import Derived.Test.YtmifpfcmldflkaaGreatDoorS1a
import Derived.Lay
import Derived.LaidSub
import Derived.MakeChecks
import Derived.Stop.LaidErr
import Derived.Lib.LaidU8
import Derived.Shelf.Vars
set_option maxRecDepth 100000
set_option maxHeartbeats 4000000
namespace Go.Proofs.YtmifpfcmldflkaaGreatDoor
open Tryz
open Go.RowKit
theorem dT8:∀(k u:Nat),u < 10 ^ (k+1)->(Lib.decDigits u).length<=k+1
 |0,u,h=>by
  rw [Lib.decDigits_length,Lib.nDigits_small (by simpa using h)];exact Nat.le_refl _
 |k+1,u,h=>by
  by_cases h1:u < 10
  ·rw [Lib.decDigits_length,Lib.nDigits_small h1];omega
  ·have h2:=dT8 k (u / 10) (by rw [Nat.div_lt_iff_lt_mul (by decide)];rw [Nat.pow_succ] at h;exact h)
   rw [Lib.decDigits_length] at h2 ⊢
   rw [Lib.nDigits_big h1];omega
theorem dP1 {v:Int} (h: -9223372036854775808<=v/\v<=9223372036854775807):(bT6 v).size<=21:=by
 unfold bT6
 rw [eM4]
 unfold Lib.itoa
 split
 ·rw [List.length_cons]
  have:=dT8 19 v.natAbs (by omega)
  omega
 ·have:=dT8 19 v.toNat (by omega)
  omega
theorem cE0 (at_:Int) (w:World) (B sb m:Nat) (hS:eU 25 w B sb m) (hm:m<=1000000) (htx:TxtO w.heap.size (some sb) w) (hat:0<=at_/\at_<=100000):
 Calls prog 68 #[.pointer (some ⟨sb,0,none⟩),.int .i64 at_] w (fun e w'=>∃t,e=.returned (.string t)/\t.size<=1000/\eU 25 w' B sb (m+10)/\w.grownBy w' (some sb)):=by
 refine cS ⟨162,w,(some sb), []⟩ func68 U ntmps68 U (bF4 (X:= [TxtO w.heap.size (some sb)]) hS (cF htx cX) (cG TxtO.lasts cY)) (bR ?_)
 have l0:(⟨#[]⟩:ByteArray).size=0:=rfl
 have l1:(⟨#[118,49]⟩:ByteArray).size=2:=rfl
 have l2:(⟨#[118,50]⟩:ByteArray).size=2:=rfl
 have l3:(⟨#[118,51]⟩:ByteArray).size=2:=rfl
 have l4:(⟨#[110,111,110,101]⟩:ByteArray).size=4:=rfl
 have l5:(⟨#[115,49]⟩:ByteArray).size=2:=rfl
 have l6:(⟨#[115,50]⟩:ByteArray).size=2:=rfl
 have l7:(⟨#[115,57]⟩:ByteArray).size=2:=rfl
 have l8:(⟨#[104,49]⟩:ByteArray).size=2:=rfl
 have l9:(⟨#[104,50]⟩:ByteArray).size=2:=rfl
 have l10:(⟨#[104,51]⟩:ByteArray).size=2:=rfl
 have l11:(⟨#[65]⟩:ByteArray).size=1:=rfl
 have l12:(⟨#[101,110,116,101,114,32]⟩:ByteArray).size=6:=rfl
 have l13:(⟨#[32]⟩:ByteArray).size=1:=rfl
 have l14:(⟨#[115,104,111,112]⟩:ByteArray).size=4:=rfl
 have l15:(⟨#[100,111,110,101]⟩:ByteArray).size=4:=rfl
 have l16:(⟨#[99,111,109,101]⟩:ByteArray).size=4:=rfl
 have l17:(⟨#[103,111,110,101]⟩:ByteArray).size=4:=rfl
 have l18:(⟨#[108,101,97,118,101,32]⟩:ByteArray).size=6:=rfl
 have l19:(⟨#[98,111,111,107,32]⟩:ByteArray).size=5:=rfl
 have l20:(⟨#[109,105,110,105]⟩:ByteArray).size=4:=rfl
 have l21:(⟨#[109,105,100,105]⟩:ByteArray).size=4:=rfl
 have l22:(⟨#[53,48]⟩:ByteArray).size=2:=rfl
 have l23:(⟨#[49,48,48]⟩:ByteArray).size=3:=rfl
 have l24:(⟨#[49,48,49]⟩:ByteArray).size=3:=rfl
 have l25:(⟨#[99,97,110,99,101,108,32]⟩:ByteArray).size=7:=rfl
 have l26:(⟨#[115,116,97,114,116,32]⟩:ByteArray).size=6:=rfl
 have l27:(⟨#[32,97,110,110,32]⟩:ByteArray).size=5:=rfl
 have l28:(⟨#[48]⟩:ByteArray).size=1:=rfl
 have l29:(⟨#[57,57,57,57,57,48]⟩:ByteArray).size=6:=rfl
 have l30:(⟨#[56]⟩:ByteArray).size=1:=rfl
 have l31:(⟨#[52]⟩:ByteArray).size=1:=rfl
 have l32:(⟨#[57]⟩:ByteArray).size=1:=rfl
 have l33:(⟨#[115,119,97,112,32]⟩:ByteArray).size=5:=rfl
 have l34:(⟨#[32,49,53,48,32,52,32]⟩:ByteArray).size=7:=rfl
 have l35:(⟨#[32,55,32,56]⟩:ByteArray).size=4:=rfl
 have l36:(⟨#[101,120,116,101,110,100,32]⟩:ByteArray).size=7:=rfl
 have l37:(⟨#[99,108,111,115,101,32]⟩:ByteArray).size=6:=rfl
 have l38:(⟨#[53]⟩:ByteArray).size=1:=rfl
 have l39:(⟨#[51,48,48]⟩:ByteArray).size=3:=rfl
 have l40:(⟨#[52,48,48]⟩:ByteArray).size=3:=rfl
 have l41:(⟨#[50]⟩:ByteArray).size=1:=rfl
 have l42:(⟨#[112,97,121,32]⟩:ByteArray).size=4:=rfl
 have l43:(⟨#[32,49,48,48,48]⟩:ByteArray).size=5:=rfl
 have l44:(⟨#[32,53,48,48]⟩:ByteArray).size=4:=rfl
 have l45:(⟨#[32,45,49]⟩:ByteArray).size=3:=rfl
 have l46:(⟨#[100,97,110,99,101]⟩:ByteArray).size=5:=rfl
 have l47:(⟨#[101,110,116,101,114,32,118,49]⟩:ByteArray).size=8:=rfl
 have l48:(⟨#[112,97,121,32,32,104,49,32,53]⟩:ByteArray).size=9:=rfl
 have l49:(⟨#[98,111,111,107,32,104,49,32,109,105,110,105,32,120,32,53,32,53]⟩:ByteArray).size=18:=rfl
 have l50:(⟨#[115,116,97,114,116,32,104,49,32,97,110,110,32,53]⟩:ByteArray).size=14:=rfl
 refine bX U (bQ (bR (bX U (bQ (bR (bP U (jE 9 [.string ⟨#[118,49]⟩,.string ⟨#[118,49]⟩,.string ⟨#[118,50]⟩,.string ⟨#[118,51]⟩,.string ⟨#[110,111,110,101]⟩] fun g1=>dN (γ:=ByteArray) (val:=fun v=> .string v) (φ:=fun v=>v∈([⟨#[118,49]⟩,⟨#[118,49]⟩,⟨#[118,50]⟩,⟨#[118,51]⟩,⟨#[110,111,110,101]⟩]:List ByteArray)) U rK U U U U (fun wx hm=>(gU [⟨#[118,49]⟩,⟨#[118,49]⟩,⟨#[118,50]⟩,⟨#[118,51]⟩,⟨#[110,111,110,101]⟩] _ _ _ wx B sb _ hm.k (by omega) (by simp) (by simp) (hm.blkI 0 U) (hm.neRow 0 U U))) fun s2 hs2=>?_)))))))
 have zs2:s2.size<=100:=kG hs2 (by decide)
 refine bX U (bQ (bR (bP U (jE 9 [.string ⟨#[115,49]⟩,.string ⟨#[115,49]⟩,.string ⟨#[115,49]⟩,.string ⟨#[115,50]⟩,.string ⟨#[115,57]⟩] fun g3=>dN (γ:=ByteArray) (val:=fun v=> .string v) (φ:=fun v=>v∈([⟨#[115,49]⟩,⟨#[115,49]⟩,⟨#[115,49]⟩,⟨#[115,50]⟩,⟨#[115,57]⟩]:List ByteArray)) U rK U U U U (fun wx hm=>(gU [⟨#[115,49]⟩,⟨#[115,49]⟩,⟨#[115,49]⟩,⟨#[115,50]⟩,⟨#[115,57]⟩] _ _ _ wx B sb _ hm.k (by omega) (by simp) (by simp) (hm.blkI 0 U) (hm.neRow 0 U U))) fun s4 hs4=>?_))))
 have zs4:s4.size<=100:=kG hs4 (by decide)
 refine bX U (bQ (bR (bP U (jE 9 [.string ⟨#[104,49]⟩,.string ⟨#[104,49]⟩,.string ⟨#[104,50]⟩,.string ⟨#[104,51]⟩,.string ⟨#[65]⟩] fun g5=>dN (γ:=ByteArray) (val:=fun v=> .string v) (φ:=fun v=>v∈([⟨#[104,49]⟩,⟨#[104,49]⟩,⟨#[104,50]⟩,⟨#[104,51]⟩,⟨#[65]⟩]:List ByteArray)) U rK U U U U (fun wx hm=>(gU [⟨#[104,49]⟩,⟨#[104,49]⟩,⟨#[104,50]⟩,⟨#[104,51]⟩,⟨#[65]⟩] _ _ _ wx B sb _ hm.k (by omega) (by simp) (by simp) (hm.blkI 0 U) (hm.neRow 0 U U))) fun s6 hs6=>?_))))
 have zs6:s6.size<=100:=kG hs6 (by decide)
 refine bX U (bQ (bR (bP U (bP U (bP U (jE 3 [.int .i64 10,.int .i64 60,.int .i64 1440,.int .i64 2000,.int .i64 (-5)] fun g7=>dN (γ:=Int) (val:=fun v=> .int .i64 v) (φ:=fun v=>v∈([10,60,1440,2000, -5]:List Int)) U pO U U U U (fun wx hm=>(eT [10,60,1440,2000, -5] _ _ _ wx B sb _ hm.k (by omega) (by simp) (by simp) (hm.blkI 0 U) (hm.neRow 0 U U))) fun v8 hv8=>?_))))))
 have bv8: -5<=v8/\v8<=2000:=gP hv8 (by decide)
 have bv80:=bv8.1
 have bv81:=bv8.2
 clear bv8
 refine gO U U (cH U dD6 U U (fun wx hm=>(bP9 (at_+v8) wx (hm.fact 0 U).1 (by omega) (by omega))) ?_)
 have zi9:=dP1 (v:=at_+v8) (by omega)
 refine bX U (bQ (bH (bR (bP U (dN (γ:=Int) (val:=fun v=> .int .i64 v) (φ:=fun v=>mW 14 v) U bP8 U U U U (fun wx hm=>(mM _ wx B sb _ hm.k (by omega) (by omega) (by omega))) fun v10 hv10=>bQ (bO ?_))))))
 refine pB (γ:=Bool) (I:=(fun (bb7:Bool)=>True)) (S':=(fun (bb7:Bool)=> [(0,.pointer (some ⟨sb,0,none⟩)),(1,.int .i64 at_),(4,.string ⟨#[]⟩),(5,.func (.func 117) #[] #[]),(6,.string s2),(7,.string s4),(8,.string s6),(9,.string (bT6 (at_+v8))),(27,.int .i64 v10),(28,.bool bb7)])) (K':=(fun (bb7:Bool)=>fun w=>eU 25 w B sb (m+1+1+1+1+1))) (L':=(fun (bb7:Bool)=> [(g7,3, [.int .i64 10,.int .i64 60,.int .i64 1440,.int .i64 2000,.int .i64 (-5)]),(g5,9, [.string ⟨#[104,49]⟩,.string ⟨#[104,49]⟩,.string ⟨#[104,50]⟩,.string ⟨#[104,51]⟩,.string ⟨#[65]⟩]),(g3,9, [.string ⟨#[115,49]⟩,.string ⟨#[115,49]⟩,.string ⟨#[115,49]⟩,.string ⟨#[115,50]⟩,.string ⟨#[115,57]⟩]),(g1,9, [.string ⟨#[118,49]⟩,.string ⟨#[118,49]⟩,.string ⟨#[118,50]⟩,.string ⟨#[118,51]⟩,.string ⟨#[110,111,110,101]⟩])])) (O':=(fun (bb7:Bool)=> [])) (X':=(fun (bb7:Bool)=> [TxtO w.heap.size (some sb)])) ?_ ?_
 ·refine bR (bB (eL U U) U (bX U (bQ ?_)))
  refine cC U (fun h11=>?_) (fun h11=>?_)
  ·refine bN ?_
   exact fK (decide (v10=0)) trivial ⟨U,U,U,U,U,U,U,U,U,U,trivial⟩ (fun _ hm=>hm.pick [0,1,2,3] [] [0] U U)
  refine bI (bB (eL U U) U (bX U (bE ?_)))
  exact fK (decide (v10=1)) trivial ⟨U,U,U,U,U,U,U,U,U,U,trivial⟩ (fun _ hm=>hm.pick [0,1,2,3] [] [0] U U)
 intro bb7 cB
 replace cB:True:=cB
 refine dC U (fun hh=>?_) (fun hh=>?_)
 ·have h12:bb7=true:=by simpa using hh
  clear hh
  refine bR (bP U (bB (eO U U (by (try simp only [ByteArray.size_append]);omega)) U (bB (eO U U (by (try simp only [ByteArray.size_append]);omega)) U (bP U (bB (eO U U (by (try simp only [ByteArray.size_append]);omega)) U (bX U (bQ (bM (bC (bA ?_))))))))))
  exact bJ U U fun wx hm=>⟨_,U,(by (try simp only [ByteArray.size_append]);omega),hm.k.more (by omega),hm.g⟩
 have h12:bb7=false:=by simpa using hh
 clear hh
 refine bR (bB (eL U U) U (bX U (bQ ?_)))
 refine cC U (fun h13=>?_) (fun h13=>?_)
 ·refine bR (bP U ?_)
  refine jE 9 [.string ⟨#[115,104,111,112]⟩,.string ⟨#[100,111,110,101]⟩,.string ⟨#[99,111,109,101]⟩,.string ⟨#[103,111,110,101]⟩] fun g14=>dN (γ:=ByteArray) (val:=fun v=> .string v) (φ:=fun v=>v∈([⟨#[115,104,111,112]⟩,⟨#[100,111,110,101]⟩,⟨#[99,111,109,101]⟩,⟨#[103,111,110,101]⟩]:List ByteArray)) U rK U U U U (fun wx hm=>(gU [⟨#[115,104,111,112]⟩,⟨#[100,111,110,101]⟩,⟨#[99,111,109,101]⟩,⟨#[103,111,110,101]⟩] _ _ _ wx B sb _ hm.k (by omega) (by simp) (by simp) (hm.blkI 0 U) (hm.neRow 0 U U))) fun s15 hs15=>?_
  have zs15:s15.size<=100:=kG hs15 (by decide)
  refine bB (eO U U (by (try simp only [ByteArray.size_append]);omega)) U (bP U (bB (eO U U (by (try simp only [ByteArray.size_append]);omega)) U (bB (eO U U (by (try simp only [ByteArray.size_append]);omega)) U (bP U (bB (eO U U (by (try simp only [ByteArray.size_append]);omega)) U (bX U (bQ (bM (bC (bA ?_))))))))))
  exact bJ U U fun wx hm=>⟨_,U,(by (try simp only [ByteArray.size_append]);omega),hm.k.more (by omega),hm.g⟩
 refine bR (bB (eL U U) U (bX U (bQ ?_)))
 refine cC U (fun h16=>?_) (fun h16=>?_)
 ·refine bR (bP U ?_)
  refine bB (eO U U (by (try simp only [ByteArray.size_append]);omega)) U (bB (eO U U (by (try simp only [ByteArray.size_append]);omega)) U (bP U (bB (eO U U (by (try simp only [ByteArray.size_append]);omega)) U (bB (eO U U (by (try simp only [ByteArray.size_append]);omega)) U (bP U (jE 9 [.string ⟨#[115,50]⟩,.string ⟨#[115,49]⟩,.string ⟨#[115,57]⟩] fun g17=>dN (γ:=ByteArray) (val:=fun v=> .string v) (φ:=fun v=>v∈([⟨#[115,50]⟩,⟨#[115,49]⟩,⟨#[115,57]⟩]:List ByteArray)) U rK U U U U (fun wx hm=>(gU [⟨#[115,50]⟩,⟨#[115,49]⟩,⟨#[115,57]⟩] _ _ _ wx B sb _ hm.k (by omega) (by simp) (by simp) (hm.blkI 0 U) (hm.neRow 0 U U))) fun s18 hs18=>?_))))))
  have zs18:s18.size<=100:=kG hs18 (by decide)
  refine bB (eO U U (by (try simp only [ByteArray.size_append]);omega)) U (bX U (bQ (bM (bC (bA ?_)))))
  exact bJ U U fun wx hm=>⟨_,U,(by (try simp only [ByteArray.size_append]);omega),hm.k.more (by omega),hm.g⟩
 refine bR (bB (eL U U) U (bX U (bQ ?_)))
 refine cC U (fun h19=>?_) (fun h19=>?_)
 ·refine bR (bP U ?_)
  refine bB (eO U U (by (try simp only [ByteArray.size_append]);omega)) U (bB (eO U U (by (try simp only [ByteArray.size_append]);omega)) U (bP U (jE 9 [.string ⟨#[109,105,110,105]⟩,.string ⟨#[109,105,100,105]⟩,.string ⟨#[110,111,110,101]⟩] fun g20=>dN (γ:=ByteArray) (val:=fun v=> .string v) (φ:=fun v=>v∈([⟨#[109,105,110,105]⟩,⟨#[109,105,100,105]⟩,⟨#[110,111,110,101]⟩]:List ByteArray)) U rK U U U U (fun wx hm=>(gU [⟨#[109,105,110,105]⟩,⟨#[109,105,100,105]⟩,⟨#[110,111,110,101]⟩] _ _ _ wx B sb _ hm.k (by omega) (by simp) (by simp) (hm.blkI 0 U) (hm.neRow 0 U U))) fun s21 hs21=>?_)))
  have zs21:s21.size<=100:=kG hs21 (by decide)
  refine bB (eO U U (by (try simp only [ByteArray.size_append]);omega)) U (bB (eO U U (by (try simp only [ByteArray.size_append]);omega)) U (bP U (bP U (bP U (jE 3 [.int .i64 0,.int .i64 10,.int .i64 100] fun g22=>dN (γ:=Int) (val:=fun v=> .int .i64 v) (φ:=fun v=>v∈([0,10,100]:List Int)) U pO U U U U (fun wx hm=>(eT [0,10,100] _ _ _ wx B sb _ hm.k (by omega) (by simp) (by simp) (hm.blkI 0 U) (hm.neRow 0 U U))) fun v23 hv23=>?_)))))
  have bv23:0<=v23/\v23<=100:=gP hv23 (by decide)
  have bv230:=bv23.1
  have bv231:=bv23.2
  clear bv23
  refine gO U U (cH U dD6 U U (fun wx hm=>(bP9 (at_+v23) wx (hm.fact 0 U).1 (by omega) (by omega))) ?_)
  have zi24:=dP1 (v:=at_+v23) (by omega)
  refine bB (eO U U (by (try simp only [ByteArray.size_append]);omega)) U (bB (eO U U (by (try simp only [ByteArray.size_append]);omega)) U (bP U (bB (eO U U (by (try simp only [ByteArray.size_append]);omega)) U (bB (eO U U (by (try simp only [ByteArray.size_append]);omega)) U (bP U (jE 9 [.string ⟨#[53,48]⟩,.string ⟨#[49,48,48]⟩,.string ⟨#[49,48,49]⟩] fun g25=>dN (γ:=ByteArray) (val:=fun v=> .string v) (φ:=fun v=>v∈([⟨#[53,48]⟩,⟨#[49,48,48]⟩,⟨#[49,48,49]⟩]:List ByteArray)) U rK U U U U (fun wx hm=>(gU [⟨#[53,48]⟩,⟨#[49,48,48]⟩,⟨#[49,48,49]⟩] _ _ _ wx B sb _ hm.k (by omega) (by simp) (by simp) (hm.blkI 0 U) (hm.neRow 0 U U))) fun s26 hs26=>?_))))))
  have zs26:s26.size<=100:=kG hs26 (by decide)
  refine bB (eO U U (by (try simp only [ByteArray.size_append]);omega)) U (bX U (bQ (bM (bC (bA ?_)))))
  exact bJ U U fun wx hm=>⟨_,U,(by (try simp only [ByteArray.size_append]);omega),hm.k.more (by omega),hm.g⟩
 refine bR (bB (eL U U) U (bX U (bQ ?_)))
 refine cC U (fun h27=>?_) (fun h27=>?_)
 ·refine bR (bP U ?_)
  refine bB (eO U U (by (try simp only [ByteArray.size_append]);omega)) U (bX U (bQ (bM (bC (bA ?_)))))
  exact bJ U U fun wx hm=>⟨_,U,(by (try simp only [ByteArray.size_append]);omega),hm.k.more (by omega),hm.g⟩
 refine pB (γ:=Bool) (I:=(fun (bb18:Bool)=>True)) (S':=(fun (bb18:Bool)=> [(0,.pointer (some ⟨sb,0,none⟩)),(4,.string ⟨#[]⟩),(6,.string s2),(7,.string s4),(8,.string s6),(9,.string (bT6 (at_+v8))),(27,.int .i64 v10),(89,.bool bb18)])) (K':=(fun (bb18:Bool)=>fun w=>eU 25 w B sb (m+1+1+1+1+1))) (L':=(fun (bb18:Bool)=> [(g7,3, [.int .i64 10,.int .i64 60,.int .i64 1440,.int .i64 2000,.int .i64 (-5)]),(g5,9, [.string ⟨#[104,49]⟩,.string ⟨#[104,49]⟩,.string ⟨#[104,50]⟩,.string ⟨#[104,51]⟩,.string ⟨#[65]⟩]),(g3,9, [.string ⟨#[115,49]⟩,.string ⟨#[115,49]⟩,.string ⟨#[115,49]⟩,.string ⟨#[115,50]⟩,.string ⟨#[115,57]⟩]),(g1,9, [.string ⟨#[118,49]⟩,.string ⟨#[118,49]⟩,.string ⟨#[118,50]⟩,.string ⟨#[118,51]⟩,.string ⟨#[110,111,110,101]⟩])])) (O':=(fun (bb18:Bool)=> [])) (X':=(fun (bb18:Bool)=> [TxtO w.heap.size (some sb)])) ?_ ?_
 ·refine bR (bB (eL U U) U (bX U (bQ ?_)))
  refine cC U (fun h28=>?_) (fun h28=>?_)
  ·refine bN ?_
   exact fK (decide (v10=6)) trivial ⟨U,U,U,U,U,U,U,U,trivial⟩ (fun _ hm=>hm.pick [0,1,2,3] [] [0] U U)
  refine bR (bB (eL U U) U (bX U (bQ ?_)))
  refine cC U (fun h29=>?_) (fun h29=>?_)
  ·refine bN ?_
   exact fK (decide (v10=7)) trivial ⟨U,U,U,U,U,U,U,U,trivial⟩ (fun _ hm=>hm.pick [0,1,2,3] [] [0] U U)
  refine bI (bB (eL U U) U (bX U (bE ?_)))
  exact fK (decide (v10=8)) trivial ⟨U,U,U,U,U,U,U,U,trivial⟩ (fun _ hm=>hm.pick [0,1,2,3] [] [0] U U)
 intro bb18 cB
 replace cB:True:=cB
 refine dC U (fun hh=>?_) (fun hh=>?_)
 ·have h30:bb18=true:=by simpa using hh
  clear hh
  refine bR (bP U (bB (eO U U (by (try simp only [ByteArray.size_append]);omega)) U (bB (eO U U (by (try simp only [ByteArray.size_append]);omega)) U (bP U (bB (eO U U (by (try simp only [ByteArray.size_append]);omega)) U (bB (eO U U (by (try simp only [ByteArray.size_append]);omega)) U (bP U (bB (eO U U (by (try simp only [ByteArray.size_append]);omega)) U (bB (eO U U (by (try simp only [ByteArray.size_append]);omega)) U (bP U (bB (eO U U (by (try simp only [ByteArray.size_append]);omega)) U (bB (eO U U (by (try simp only [ByteArray.size_append]);omega)) U (bP U (jE 9 [.string ⟨#[48]⟩,.string ⟨#[49,48,48]⟩,.string ⟨#[57,57,57,57,57,48]⟩] fun g31=>dN (γ:=ByteArray) (val:=fun v=> .string v) (φ:=fun v=>v∈([⟨#[48]⟩,⟨#[49,48,48]⟩,⟨#[57,57,57,57,57,48]⟩]:List ByteArray)) U rK U U U U (fun wx hm=>(gU [⟨#[48]⟩,⟨#[49,48,48]⟩,⟨#[57,57,57,57,57,48]⟩] _ _ _ wx B sb _ hm.k (by omega) (by simp) (by simp) (hm.blkI 0 U) (hm.neRow 0 U U))) fun s32 hs32=>?_))))))))))))))
  have zs32:s32.size<=100:=kG hs32 (by decide)
  refine bB (eO U U (by (try simp only [ByteArray.size_append]);omega)) U (bB (eO U U (by (try simp only [ByteArray.size_append]);omega)) U (bP U (jE 9 [.string ⟨#[56]⟩,.string ⟨#[52]⟩,.string ⟨#[57]⟩] fun g33=>dN (γ:=ByteArray) (val:=fun v=> .string v) (φ:=fun v=>v∈([⟨#[56]⟩,⟨#[52]⟩,⟨#[57]⟩]:List ByteArray)) U rK U U U U (fun wx hm=>(gU [⟨#[56]⟩,⟨#[52]⟩,⟨#[57]⟩] _ _ _ wx B sb _ hm.k (by omega) (by simp) (by simp) (hm.blkI 0 U) (hm.neRow 0 U U))) fun s34 hs34=>?_)))
  have zs34:s34.size<=100:=kG hs34 (by decide)
  refine bB (eO U U (by (try simp only [ByteArray.size_append]);omega)) U (bX U (bQ (bM (bC (bA ?_)))))
  exact bJ U U fun wx hm=>⟨_,U,(by (try simp only [ByteArray.size_append]);omega),hm.k.more (by omega),hm.g⟩
 have h30:bb18=false:=by simpa using hh
 clear hh
 refine bR (bB (eL U U) U (bX U (bQ ?_)))
 refine cC U (fun h35=>?_) (fun h35=>?_)
 ·refine bR (bP U ?_)
  refine bB (eO U U (by (try simp only [ByteArray.size_append]);omega)) U (bB (eO U U (by (try simp only [ByteArray.size_append]);omega)) U (bP U (bB (eO U U (by (try simp only [ByteArray.size_append]);omega)) U (bB (eO U U (by (try simp only [ByteArray.size_append]);omega)) U (bP U (bB (eO U U (by (try simp only [ByteArray.size_append]);omega)) U (bB (eO U U (by (try simp only [ByteArray.size_append]);omega)) U (bX U (bQ (bM (bC (bA ?_))))))))))))
  exact bJ U U fun wx hm=>⟨_,U,(by (try simp only [ByteArray.size_append]);omega),hm.k.more (by omega),hm.g⟩
 refine bR (bB (eL U U) U (bX U (bQ ?_)))
 refine cC U (fun h36=>?_) (fun h36=>?_)
 ·refine bR (bP U ?_)
  refine bB (eO U U (by (try simp only [ByteArray.size_append]);omega)) U (bB (eO U U (by (try simp only [ByteArray.size_append]);omega)) U (bP U (bB (eO U U (by (try simp only [ByteArray.size_append]);omega)) U (bX U (bQ (bM (bC (bA ?_))))))))
  exact bJ U U fun wx hm=>⟨_,U,(by (try simp only [ByteArray.size_append]);omega),hm.k.more (by omega),hm.g⟩
 refine pB (γ:=Bool) (I:=(fun (bb26:Bool)=>True)) (S':=(fun (bb26:Bool)=> [(0,.pointer (some ⟨sb,0,none⟩)),(4,.string ⟨#[]⟩),(7,.string s4),(8,.string s6),(132,.bool bb26)])) (K':=(fun (bb26:Bool)=>fun w=>eU 25 w B sb (m+1+1+1+1+1))) (L':=(fun (bb26:Bool)=> [(g7,3, [.int .i64 10,.int .i64 60,.int .i64 1440,.int .i64 2000,.int .i64 (-5)]),(g5,9, [.string ⟨#[104,49]⟩,.string ⟨#[104,49]⟩,.string ⟨#[104,50]⟩,.string ⟨#[104,51]⟩,.string ⟨#[65]⟩]),(g3,9, [.string ⟨#[115,49]⟩,.string ⟨#[115,49]⟩,.string ⟨#[115,49]⟩,.string ⟨#[115,50]⟩,.string ⟨#[115,57]⟩]),(g1,9, [.string ⟨#[118,49]⟩,.string ⟨#[118,49]⟩,.string ⟨#[118,50]⟩,.string ⟨#[118,51]⟩,.string ⟨#[110,111,110,101]⟩])])) (O':=(fun (bb26:Bool)=> [])) (X':=(fun (bb26:Bool)=> [TxtO w.heap.size (some sb)])) ?_ ?_
 ·refine bR (bB (eL U U) U (bX U (bQ ?_)))
  refine cC U (fun h37=>?_) (fun h37=>?_)
  ·refine bN ?_
   exact fK (decide (v10=11)) trivial ⟨U,U,U,U,U,trivial⟩ (fun _ hm=>hm.pick [0,1,2,3] [] [0] U U)
  refine bI (bB (eL U U) U (bX U (bE ?_)))
  exact fK (decide (v10=12)) trivial ⟨U,U,U,U,U,trivial⟩ (fun _ hm=>hm.pick [0,1,2,3] [] [0] U U)
 intro bb26 cB
 replace cB:True:=cB
 refine dC U (fun hh=>?_) (fun hh=>?_)
 ·have h38:bb26=true:=by simpa using hh
  clear hh
  refine bR (bP U (bB (eO U U (by (try simp only [ByteArray.size_append]);omega)) U (bB (eO U U (by (try simp only [ByteArray.size_append]);omega)) U (bP U (bB (eO U U (by (try simp only [ByteArray.size_append]);omega)) U (bB (eO U U (by (try simp only [ByteArray.size_append]);omega)) U (bP U (jE 9 [.string ⟨#[53]⟩,.string ⟨#[51,48,48]⟩,.string ⟨#[52,48,48]⟩] fun g39=>dN (γ:=ByteArray) (val:=fun v=> .string v) (φ:=fun v=>v∈([⟨#[53]⟩,⟨#[51,48,48]⟩,⟨#[52,48,48]⟩]:List ByteArray)) U rK U U U U (fun wx hm=>(gU [⟨#[53]⟩,⟨#[51,48,48]⟩,⟨#[52,48,48]⟩] _ _ _ wx B sb _ hm.k (by omega) (by simp) (by simp) (hm.blkI 0 U) (hm.neRow 0 U U))) fun s40 hs40=>?_))))))))
  have zs40:s40.size<=100:=kG hs40 (by decide)
  refine bB (eO U U (by (try simp only [ByteArray.size_append]);omega)) U (bB (eO U U (by (try simp only [ByteArray.size_append]);omega)) U (bP U (jE 9 [.string ⟨#[56]⟩,.string ⟨#[50]⟩] fun g41=>dN (γ:=ByteArray) (val:=fun v=> .string v) (φ:=fun v=>v∈([⟨#[56]⟩,⟨#[50]⟩]:List ByteArray)) U rK U U U U (fun wx hm=>(gU [⟨#[56]⟩,⟨#[50]⟩] _ _ _ wx B sb _ hm.k (by omega) (by simp) (by simp) (hm.blkI 0 U) (hm.neRow 0 U U))) fun s42 hs42=>?_)))
  have zs42:s42.size<=100:=kG hs42 (by decide)
  refine bB (eO U U (by (try simp only [ByteArray.size_append]);omega)) U (bX U (bQ (bM (bC (bA ?_)))))
  exact bJ U U fun wx hm=>⟨_,U,(by (try simp only [ByteArray.size_append]);omega),hm.k.more (by omega),hm.g⟩
 have h38:bb26=false:=by simpa using hh
 clear hh
 refine bN (bG (bD (bR (bP U (bP U (bB (eO U U (by (try simp only [ByteArray.size_append]);omega)) U (bB (eO U U (by (try simp only [ByteArray.size_append]);omega)) U (bP U (bB (eO U U (by (try simp only [ByteArray.size_append]);omega)) U (bB (eO U U (by (try simp only [ByteArray.size_append]);omega)) U (bP U (bB (eO U U (by (try simp only [ByteArray.size_append]);omega)) U (bB (eO U U (by (try simp only [ByteArray.size_append]);omega)) U (jE 9 [.string (((⟨#[112,97,121,32]⟩:ByteArray)++s6)++(⟨#[32,49,48,48,48]⟩:ByteArray)),.string (((⟨#[112,97,121,32]⟩:ByteArray)++s6)++(⟨#[32,53,48,48]⟩:ByteArray)),.string (((⟨#[112,97,121,32]⟩:ByteArray)++s6)++(⟨#[32,45,49]⟩:ByteArray)),.string ⟨#[100,97,110,99,101]⟩,.string ⟨#[101,110,116,101,114,32,118,49]⟩,.string ⟨#[112,97,121,32,32,104,49,32,53]⟩,.string ⟨#[98,111,111,107,32,104,49,32,109,105,110,105,32,120,32,53,32,53]⟩,.string ⟨#[115,116,97,114,116,32,104,49,32,97,110,110,32,53]⟩] fun g43=>dN (γ:=ByteArray) (val:=fun v=> .string v) (φ:=fun v=>v∈([((⟨#[112,97,121,32]⟩:ByteArray)++s6)++(⟨#[32,49,48,48,48]⟩:ByteArray),((⟨#[112,97,121,32]⟩:ByteArray)++s6)++(⟨#[32,53,48,48]⟩:ByteArray),((⟨#[112,97,121,32]⟩:ByteArray)++s6)++(⟨#[32,45,49]⟩:ByteArray),⟨#[100,97,110,99,101]⟩,⟨#[101,110,116,101,114,32,118,49]⟩,⟨#[112,97,121,32,32,104,49,32,53]⟩,⟨#[98,111,111,107,32,104,49,32,109,105,110,105,32,120,32,53,32,53]⟩,⟨#[115,116,97,114,116,32,104,49,32,97,110,110,32,53]⟩]:List ByteArray)) U rK U U U U (fun wx hm=>(gU [((⟨#[112,97,121,32]⟩:ByteArray)++s6)++(⟨#[32,49,48,48,48]⟩:ByteArray),((⟨#[112,97,121,32]⟩:ByteArray)++s6)++(⟨#[32,53,48,48]⟩:ByteArray),((⟨#[112,97,121,32]⟩:ByteArray)++s6)++(⟨#[32,45,49]⟩:ByteArray),⟨#[100,97,110,99,101]⟩,⟨#[101,110,116,101,114,32,118,49]⟩,⟨#[112,97,121,32,32,104,49,32,53]⟩,⟨#[98,111,111,107,32,104,49,32,109,105,110,105,32,120,32,53,32,53]⟩,⟨#[115,116,97,114,116,32,104,49,32,97,110,110,32,53]⟩] _ _ _ wx B sb _ hm.k (by omega) (by simp) (by simp) (hm.blkI 0 U) (hm.neRow 0 U U))) fun s44 hs44=>bX U (bQ (bM ?_))))))))))))))))
 refine bJ U U fun wx hm=>?_
 exact ⟨_,U,(by
  have hh:=hs44
  simp only [List.mem_cons,List.not_mem_nil,or_false] at hh
  rcases hh with hh|hh|hh|hh|hh|hh|hh|hh <;> rw [hh] <;> (try simp only [ByteArray.size_append]) <;> omega),hm.k.more (by omega),hm.g⟩
theorem TxtO.mfarS {N:Nat} {row:Option Nat}:bK2 (TxtO N row):=fun M g w w' _ ⟨es,ck,hb⟩ h3 h=>⟨h.1.same fun k hk=>h3.block k (h.1.lt hk) (fun e=>by
 have e2:k=g:=by injection e
 subst e2
 obtain ⟨c,T,f,hc⟩:=h.1.cells hk
 rw [hb] at hc;cases hc),h.2⟩
theorem TxtO.up {N M:Nat} {row:Option Nat} {w:World} (h:TxtO N row w) (hM:N<=M):TxtO M row w:=⟨h.1,fun k hk=>⟨Nat.lt_of_lt_of_le (h.2 k hk).1 hM,(h.2 k hk).2⟩⟩
theorem cT5 (q:Nat) (w:World) (B sb m:Nat) (hS:eU 25 w B sb m) (hm:m<=900000) (htx:TxtO w.heap.size (some sb) w) (hq:q<=20):
 Calls prog 28 #[.pointer (some ⟨sb,0,none⟩),.int .i64 ((q:Nat):Int)] w (fun e w'=>∃(A:Option Addr) (n c:Nat) (l:List Ny),e=.returned (.slice A n c)/\w'.ownsRow w.heap.size 171 4 (.slice A n c) n (l.flatMap eR)/\l.length=n/\(∀x∈l,uH x)/\n<=q/\eU 25 w' B sb (m+20 *q)/\w.grownBy w' (some sb)):=by
 refine cS ⟨67,w,(some sb), []⟩ func28 U ntmps28 U (bF4 (X:= [TxtO w.heap.size (some sb)]) hS (cF htx cX) (cG TxtO.lasts cY)) (bR ?_)
 refine pJ 171 4 ?_
 refine bX U (bQ (bR (bX U (bQ (bR (bX U (bQ (bH (bI (kV (enc:=vI) (ek:=dM) (fun g=>True) (fun _ hm=>trivial) U fun gm hne_gm=>bX U (bQ (bH (bR (bP U (bP U (bQ (bO ?_)))))))))))))))))
 refine dX (γ:=Nat×Int×(ByteArray->Option Int)×Option Addr×Nat×List Ny) (fun (gq:Nat×Int×(ByteArray->Option Int)×Option Addr×Nat×List Ny)=>gq.1<=q/\(0<=gq.2.1/\gq.2.1<=500 *((gq.1:Nat):Int))/\(∀k v,gq.2.2.1 k=some v->0<=v/\v<=((gq.1:Nat):Int))/\gq.2.2.2.2.2.length=gq.1/\∀x∈gq.2.2.2.2.2,uH x) (fun (gq:Nat×Int×(ByteArray->Option Int)×Option Addr×Nat×List Ny)=> [(0,.pointer (some ⟨sb,0,none⟩)),(4,.slice none 0 0),(5,.slice gq.2.2.2.1 gq.1 gq.2.2.2.2.1),(6,.int .i64 gq.2.1),(7,.map (some gm)),(11,.int .i64 ((q:Nat):Int)),(12,.int .i64 ((gq.1:Nat):Int))]) (fun (gq:Nat×Int×(ByteArray->Option Int)×Option Addr×Nat×List Ny)=>fun w=>eU 25 w B sb (m+20 *gq.1)) (fun (gq:Nat×Int×(ByteArray->Option Int)×Option Addr×Nat×List Ny)=> []) (fun (gq:Nat×Int×(ByteArray->Option Int)×Option Addr×Nat×List Ny)=> [⟨.slice gq.2.2.2.1 gq.1 gq.2.2.2.2.1,171,4,gq.1,gq.2.2.2.2.2.flatMap eR⟩]) (fun (gq:Nat×Int×(ByteArray->Option Int)×Option Addr×Nat×List Ny)=> [bU vI dM w.heap.size gm (gq.2.2.1),TxtO w.heap.size (some sb)]) (fun (gq:Nat×Int×(ByteArray->Option Int)×Option Addr×Nat×List Ny)=>q - gq.1) (0,0,mY,none,0, []) ⟨Nat.zero_le _,⟨Int.le_refl _,by decide⟩,(fun _ _ h=>by cases h),U,(fun _ h=>by cases h)⟩ ⟨U,U,U,U,U,U,U,trivial⟩ (fun _ hm=>hm.pick [] [0] [0,1] U U) ?_
 rintro ⟨i,at_,F,oA,oc,xl⟩ cB
 replace cB:i<=q/\(0<=at_/\at_<=500 *((i:Nat):Int))/\(∀k v,F k=some v->0<=v/\v<=((i:Nat):Int))/\xl.length=i/\∀x∈xl,uH x:=cB
 dsimp only
 refine bR ?_
 obtain ⟨hi0,⟨ha0,ha1⟩,hF,hxl,hxok⟩:=cB
 refine bB (dE U U) U (bQ (bH ?_))
 refine cC U (fun hi=>?_) (fun hi=>?_)
 ·refine bN (bD (bH (bO (bR (bP U (bP U ?_))))))
  refine jE 3 [.int .i64 0,.int .i64 1,.int .i64 5,.int .i64 10,.int .i64 100,.int .i64 500] fun g1=>dN (γ:=Int) (val:=fun v=> .int .i64 v) (φ:=fun v=>v∈([0,1,5,10,100,500]:List Int)) U pO U U U U (fun wx hm=>(eT [0,1,5,10,100,500] _ _ _ wx B sb _ hm.k (by omega) (by simp) (by simp) (hm.blkI 0 U) (hm.neRow 0 U U))) fun v2 zJ=>?_
  have bv2:0<=v2/\v2<=500:=gP zJ (by decide)
  have bv20:=bv2.1
  have bv21:=bv2.2
  clear bv2
  refine gO U U (bX U (bQ (bR (bP U (jE 9 [.string ⟨#[100,49]⟩,.string ⟨#[100,49]⟩,.string ⟨#[100,50]⟩,.string ⟨#[100,51]⟩] fun g3=>dN (γ:=ByteArray) (val:=fun v=> .string v) (φ:=fun v=>v∈([⟨#[100,49]⟩,⟨#[100,49]⟩,⟨#[100,50]⟩,⟨#[100,51]⟩]:List ByteArray)) U rK U U U U (fun wx hm=>(gU [⟨#[100,49]⟩,⟨#[100,49]⟩,⟨#[100,50]⟩,⟨#[100,51]⟩] _ _ _ wx B sb _ hm.k (by omega) (by simp) (by simp) (hm.blkI 0 U) (hm.neRow 0 U U))) fun s4 hs4=>?_)))))
  have zs4:s4.size<=100:=kG hs4 (by decide)
  refine bX U (bQ ?_)
  obtain ⟨nd,hnd⟩:∃z,z=(F s4).getD 0:=⟨_,rfl⟩
  have hndb:0<=nd/\nd<=((i:Nat):Int):=by
   cases hq:F s4 with
   |none=>rw [hnd,hq];exact ⟨Int.le_refl _,Int.natCast_nonneg _⟩
   |some v=>rw [hnd,hq];exact hF _ v hq
  refine bR (bP U (bP U (bB (kT (enc:=vI) (ek:=dM) (s:=s4) (e:=3) (0:Int) jZ (by kernel_rfl) (by kernel_rfl) U U (fun _ hm=>(hm.fact 0 U))) U (bK 24 (v':= .int .i64 nd) U (congrArg vI hnd.symm) (gO U U (kO (enc:=vI) (ek:=dM) (s:=s4) (v:=nd+1) (e:=3) (X':= [TxtO w.heap.size (some sb)]) 0 jZ (by kernel_rfl) U U U U (cL (i:=1) (TxtO.mfarS).far U gB) (bQ (bH (gd (fun wz=>(bU vI dM w.heap.size gm (fQ (F) s4 (nd+1))) wz/\True) mixed (fun _ hm=>⟨hm.fa 0,trivial⟩) fun z=>wq 0 U (bL U) (wq 1 U (bL U) (wq 2 U (bL U) (wq 3 U (bL U) (wq 4 U (kT (enc:=vI) (ek:=dM) (s:=s4) (e:=3) (0:Int) jZ (by kernel_rfl) (by kernel_rfl) U U (fun _ hm=>(hm.1))) (dH 30 (v':= .int .i64 (nd+1)) U (congrArg vI (by rw [hU];rfl)) (wq 5 U (bL U) (wq 6 U (bL U) ?_))))))))))))))))
  refine kK [7,9] (by kernel_rfl) U ⟨⟨_,U,?_⟩,⟨_,U,?_⟩,trivial⟩
  ·refine dN (γ:=ByteArray) (val:=fun v=> .string v) (φ:=fun v=>v.size<=1000) U eO9 U U U U (fun wx hm=>((cE0 (at_+v2) wx B sb _ hm.k (by omega) (TxtO.up (hm.fact 1 U) hm.g.size) (by omega)).mono fun _ _ ⟨v,he,hz,hS,hg⟩=>⟨v,hz,he,hS,hg⟩)) fun p5 hp5=>?_
   refine bE (nw 11 255 (fun _ hm=>⟨hm.fa 0,trivial⟩) fun z=>wq 8 U (dJ (cs:= [.int .i64 (at_+v2),.string s4,.int .i64 (nd+1),.string p5]) U (by kernel_rfl)) (eG 9 U (dL cX2 U fun g6=>bE (nw 11 1023 (fun _ hm=>⟨hm.fa 0,trivial⟩) fun z=>eG 10 U (kE (cs':= [.int .i64 (at_+v2),.string s4,.int .i64 (nd+1),.string p5]) 0 kM U U U U (bE (nw 11 2047 (fun _ hm=>⟨hm.fa 0,trivial⟩) fun z=>jO (bD (bH (bR (bP U (dN (γ:=Bool) (val:=fun v=> .bool v) (φ:=fun v=>True) U xN U U U U (fun wx hm=>((jY _ wx B sb _ hm.k (by omega) (by omega) (by omega)).mono fun _ _ ⟨v,he,hS,hg⟩=>⟨v,trivial,he,hS,hg⟩)) fun f7 _=>bQ ?_))))))))))))
   refine dC U (fun hh=>?_) (fun hh=>?_)
   ·have h8:f7=true:=by simpa using hh
    refine bR (bP U (dN (γ:=Int) (val:=fun v=> .int .i64 v) (φ:=fun v=>mW 4 v) U bP8 U U U U (fun wx hm=>(mM _ wx B sb _ hm.k (by omega) (by omega) (by omega))) fun v9 hv9=>bQ (bO (bR (bB (eL U U) U (bX U (bQ ?_)))))))
    refine cC U (fun h10=>?_) (fun h10=>?_)
    ·refine bI (bP U ?_)
     refine dN (γ:=Int) (val:=fun v=> .int .i64 v) (φ:=fun v=> -2000000000000000<=v/\v<=2000000000000000) U bO2 U U U U (fun wx hm=>(mF _ _ wx B sb _ hm.k (by omega) (by omega) (by omega) (by omega))) fun v11 hv11=>dY mO U U (jH 0 fP U U U U U U (bE (bG (bD (bI (bP U (bB (cU kM U (fun _ hm=>hm.blkI 0 U) U U) U (jE 171 [.int .i64 v11,.string s4,.int .i64 (nd+1),.string p5] fun g12=>eB (news:= [.int .i64 v11,.string s4,.int .i64 (nd+1),.string p5]) 0 0 cY0 U U U U U U U (by omega) (by unfold maxLen;omega) U U fun v2 zJ=>?_))))))))
     refine dV (R:=∃A cc,v2= .slice A (i+1) cc) (fun wx hm=>dR (hm.ownI 0 U)) ?_
     rintro ⟨A4,c4,rfl⟩
     refine bX U (bE (bG (bD (bI (gO U U (bP U (bE ?_)))))))
     obtain ⟨us,xX⟩:∃z,z=xl++ [(⟨v11,s4,nd+1,p5⟩:Ny)]:=⟨_,rfl⟩
     have hul:us.length=i+1:=by rw [xX];simp [hxl]
     have xM:xl.flatMap eR++([.int .i64 v11,.string s4,.int .i64 (nd+1),.string p5]:List Value)=us.flatMap eR:=by rw [xX];simp [eR]
     have xW:∀x∈us,uH x:=fun x hx=>by
      rw [xX] at hx
      rcases List.mem_append.1 hx with hx|hx
      ·exact hxok x hx
      rw [List.mem_singleton.1 hx]
      exact ⟨⟨by dsimp only;omega,by dsimp only;omega⟩,by dsimp only;omega,⟨by dsimp only;omega,by dsimp only;omega⟩,by dsimp only;omega⟩
     rw [xM]
     exact cN (i+1,at_+v2,fQ (F) s4 (nd+1),A4,c4,us) ⟨by dsimp only;omega,⟨by dsimp only;omega,by dsimp only;omega⟩,(fun k v hkv=>by
      rcases eM hkv with ⟨_,rfl⟩|h
      ·omega
      have:=hF k v h;omega),hul,xW⟩ (by dsimp only;omega) ⟨rfl,rfl,rfl,rfl,rfl,rfl,(cR (by dsimp only;omega)),trivial⟩ (fun _ hm=>(hm.more rfl (by first|omega|(dsimp only;omega))).pick [] [0] [0,1] rfl rfl)
    refine bR (bB (eL U U) U (bX U (bQ ?_)))
    refine cC U (fun h13=>?_) (fun h13=>?_)
    ·refine bI (bP U ?_)
     refine jE 9 [.string ⟨#[]⟩,.string ⟨#[65]⟩] fun g14=>dN (γ:=ByteArray) (val:=fun v=> .string v) (φ:=fun v=>v∈([⟨#[]⟩,⟨#[65]⟩]:List ByteArray)) U rK U U U U (fun wx hm=>(gU [⟨#[]⟩,⟨#[65]⟩] _ _ _ wx B sb _ hm.k (by omega) (by simp) (by simp) (hm.blkI 0 U) (hm.neRow 0 U U))) fun s15 hs15=>?_
     have zs15:s15.size<=100:=kG hs15 (by decide)
     refine dY nY U U (jH 1 fC U U U U U U (bE (bG (bD (bI (bP U (bB (cU kM U (fun _ hm=>hm.blkI 1 U) U U) U (jE 171 [.int .i64 (at_+v2),.string s15,.int .i64 (nd+1),.string p5] fun g16=>eB (news:= [.int .i64 (at_+v2),.string s15,.int .i64 (nd+1),.string p5]) 0 0 cY0 U U U U U U U (by omega) (by unfold maxLen;omega) U U fun v2 zJ=>?_))))))))
     refine dV (R:=∃A cc,v2= .slice A (i+1) cc) (fun wx hm=>dR (hm.ownI 0 U)) ?_
     rintro ⟨A4,c4,rfl⟩
     refine bX U (bE (bG (bD (bI (gO U U (bP U (bE ?_)))))))
     obtain ⟨us,xX⟩:∃z,z=xl++ [(⟨at_+v2,s15,nd+1,p5⟩:Ny)]:=⟨_,rfl⟩
     have hul:us.length=i+1:=by rw [xX];simp [hxl]
     have xM:xl.flatMap eR++([.int .i64 (at_+v2),.string s15,.int .i64 (nd+1),.string p5]:List Value)=us.flatMap eR:=by rw [xX];simp [eR]
     have xW:∀x∈us,uH x:=fun x hx=>by
      rw [xX] at hx
      rcases List.mem_append.1 hx with hx|hx
      ·exact hxok x hx
      rw [List.mem_singleton.1 hx]
      exact ⟨⟨by dsimp only;omega,by dsimp only;omega⟩,by dsimp only;omega,⟨by dsimp only;omega,by dsimp only;omega⟩,by dsimp only;omega⟩
     rw [xM]
     exact cN (i+1,at_+v2,fQ (F) s4 (nd+1),A4,c4,us) ⟨by dsimp only;omega,⟨by dsimp only;omega,by dsimp only;omega⟩,(fun k v hkv=>by
      rcases eM hkv with ⟨_,rfl⟩|h
      ·omega
      have:=hF k v h;omega),hul,xW⟩ (by dsimp only;omega) ⟨rfl,rfl,rfl,rfl,rfl,rfl,(cR (by dsimp only;omega)),trivial⟩ (fun _ hm=>(hm.more rfl (by first|omega|(dsimp only;omega))).pick [] [0] [0,1] rfl rfl)
    refine bR (bB (eL U U) U (bX U (bQ ?_)))
    refine cC U (fun h17=>?_) (fun h17=>?_)
    ·refine bI (bP U ?_)
     refine dN (γ:=Int) (val:=fun v=> .int .i64 v) (φ:=fun v=> -2000000000000000<=v/\v<=2000000000000000) U bO2 U U U U (fun wx hm=>(mF _ _ wx B sb _ hm.k (by omega) (by omega) (by omega) (by omega))) fun v18 hv18=>dY qD U U (jH 0 fP U U U U U U (bE (bG (bD (bI (bP U (bB (cU kM U (fun _ hm=>hm.blkI 0 U) U U) U (jE 171 [.int .i64 (at_+v2),.string s4,.int .i64 v18,.string p5] fun g19=>eB (news:= [.int .i64 (at_+v2),.string s4,.int .i64 v18,.string p5]) 0 0 cY0 U U U U U U U (by omega) (by unfold maxLen;omega) U U fun v2 zJ=>?_))))))))
     refine dV (R:=∃A cc,v2= .slice A (i+1) cc) (fun wx hm=>dR (hm.ownI 0 U)) ?_
     rintro ⟨A4,c4,rfl⟩
     refine bX U (bE (bG (bD (bI (gO U U (bP U (bE ?_)))))))
     obtain ⟨us,xX⟩:∃z,z=xl++ [(⟨at_+v2,s4,v18,p5⟩:Ny)]:=⟨_,rfl⟩
     have hul:us.length=i+1:=by rw [xX];simp [hxl]
     have xM:xl.flatMap eR++([.int .i64 (at_+v2),.string s4,.int .i64 v18,.string p5]:List Value)=us.flatMap eR:=by rw [xX];simp [eR]
     have xW:∀x∈us,uH x:=fun x hx=>by
      rw [xX] at hx
      rcases List.mem_append.1 hx with hx|hx
      ·exact hxok x hx
      rw [List.mem_singleton.1 hx]
      exact ⟨⟨by dsimp only;omega,by dsimp only;omega⟩,by dsimp only;omega,⟨by dsimp only;omega,by dsimp only;omega⟩,by dsimp only;omega⟩
     rw [xM]
     exact cN (i+1,at_+v2,fQ (F) s4 (nd+1),A4,c4,us) ⟨by dsimp only;omega,⟨by dsimp only;omega,by dsimp only;omega⟩,(fun k v hkv=>by
      rcases eM hkv with ⟨_,rfl⟩|h
      ·omega
      have:=hF k v h;omega),hul,xW⟩ (by dsimp only;omega) ⟨rfl,rfl,rfl,rfl,rfl,rfl,(cR (by dsimp only;omega)),trivial⟩ (fun _ hm=>(hm.more rfl (by first|omega|(dsimp only;omega))).pick [] [0] [0,1] rfl rfl)
    refine bI (bP U (jE 9 [.string ⟨#[]⟩,.string ⟨#[97,10]⟩,.string ⟨#[195]⟩] fun g20=>dN (γ:=ByteArray) (val:=fun v=> .string v) (φ:=fun v=>v∈([⟨#[]⟩,⟨#[97,10]⟩,⟨#[195]⟩]:List ByteArray)) U rK U U U U (fun wx hm=>(gU [⟨#[]⟩,⟨#[97,10]⟩,⟨#[195]⟩] _ _ _ wx B sb _ hm.k (by omega) (by simp) (by simp) (hm.blkI 0 U) (hm.neRow 0 U U))) fun s21 hs21=>?_))
    have zs21:s21.size<=100:=kG hs21 (by decide)
    refine dY qU U U (jH 1 fC U U U U U U (bE (bG (bD (bI (bP U (bB (cU kM U (fun _ hm=>hm.blkI 1 U) U U) U (jE 171 [.int .i64 (at_+v2),.string s4,.int .i64 (nd+1),.string s21] fun g22=>eB (news:= [.int .i64 (at_+v2),.string s4,.int .i64 (nd+1),.string s21]) 0 0 cY0 U U U U U U U (by omega) (by unfold maxLen;omega) U U fun v2 zJ=>?_))))))))
    refine dV (R:=∃A cc,v2= .slice A (i+1) cc) (fun wx hm=>dR (hm.ownI 0 U)) ?_
    rintro ⟨A4,c4,rfl⟩
    refine bX U (bE (bG (bD (bI (gO U U (bP U (bE ?_)))))))
    obtain ⟨us,xX⟩:∃z,z=xl++ [(⟨at_+v2,s4,nd+1,s21⟩:Ny)]:=⟨_,rfl⟩
    have hul:us.length=i+1:=by rw [xX];simp [hxl]
    have xM:xl.flatMap eR++([.int .i64 (at_+v2),.string s4,.int .i64 (nd+1),.string s21]:List Value)=us.flatMap eR:=by rw [xX];simp [eR]
    have xW:∀x∈us,uH x:=fun x hx=>by
     rw [xX] at hx
     rcases List.mem_append.1 hx with hx|hx
     ·exact hxok x hx
     rw [List.mem_singleton.1 hx]
     exact ⟨⟨by dsimp only;omega,by dsimp only;omega⟩,by dsimp only;omega,⟨by dsimp only;omega,by dsimp only;omega⟩,by dsimp only;omega⟩
    rw [xM]
    exact cN (i+1,at_+v2,fQ (F) s4 (nd+1),A4,c4,us) ⟨by dsimp only;omega,⟨by dsimp only;omega,by dsimp only;omega⟩,(fun k v hkv=>by
     rcases eM hkv with ⟨_,rfl⟩|h
     ·omega
     have:=hF k v h;omega),hul,xW⟩ (by dsimp only;omega) ⟨rfl,rfl,rfl,rfl,rfl,rfl,(cR (by dsimp only;omega)),trivial⟩ (fun _ hm=>(hm.more rfl (by first|omega|(dsimp only;omega))).pick [] [0] [0,1] rfl rfl)
   have h8:f7=false:=by simpa using hh
   refine bN (bD (bI (bP U (bB (cU kM U (fun _ hm=>hm.blkI 0 U) U U) U (jE 171 [.int .i64 (at_+v2),.string s4,.int .i64 (nd+1),.string p5] fun g23=>eB (news:= [.int .i64 (at_+v2),.string s4,.int .i64 (nd+1),.string p5]) 0 0 cY0 U U U U U U U (by omega) (by unfold maxLen;omega) U U fun v2 zJ=>?_)))))
   refine dV (R:=∃A cc,v2= .slice A (i+1) cc) (fun wx hm=>dR (hm.ownI 0 U)) ?_
   rintro ⟨A4,c4,rfl⟩
   refine bX U (bE (bG (bD (bI (gO U U (bP U (bE ?_)))))))
   obtain ⟨us,xX⟩:∃z,z=xl++ [(⟨at_+v2,s4,nd+1,p5⟩:Ny)]:=⟨_,rfl⟩
   have hul:us.length=i+1:=by rw [xX];simp [hxl]
   have xM:xl.flatMap eR++([.int .i64 (at_+v2),.string s4,.int .i64 (nd+1),.string p5]:List Value)=us.flatMap eR:=by rw [xX];simp [eR]
   have xW:∀x∈us,uH x:=fun x hx=>by
    rw [xX] at hx
    rcases List.mem_append.1 hx with hx|hx
    ·exact hxok x hx
    rw [List.mem_singleton.1 hx]
    exact ⟨⟨by dsimp only;omega,by dsimp only;omega⟩,by dsimp only;omega,⟨by dsimp only;omega,by dsimp only;omega⟩,by dsimp only;omega⟩
   rw [xM]
   exact cN (i+1,at_+v2,fQ (F) s4 (nd+1),A4,c4,us) ⟨by dsimp only;omega,⟨by dsimp only;omega,by dsimp only;omega⟩,(fun k v hkv=>by
    rcases eM hkv with ⟨_,rfl⟩|h
    ·omega
    have:=hF k v h;omega),hul,xW⟩ (by dsimp only;omega) ⟨rfl,rfl,rfl,rfl,rfl,rfl,(cR (by dsimp only;omega)),trivial⟩ (fun _ hm=>(hm.more rfl (by first|omega|(dsimp only;omega))).pick [] [0] [0,1] rfl rfl)
  refine dL cX2 U fun g24=>bE (nw 11 639 (fun _ hm=>⟨hm.fa 0,trivial⟩) fun z=>eG 7 U (dN (γ:=ByteArray) (val:=fun v=> .string v) (φ:=fun v=>v.size<=1000) U eO9 U U U U (fun wx hm=>((cE0 (at_+v2) wx B sb _ hm.k (by omega) (TxtO.up (hm.fact 1 U) hm.g.size) (by omega)).mono fun _ _ ⟨v,he,hz,hS,hg⟩=>⟨v,hz,he,hS,hg⟩)) fun p25 hp25=>bE (nw 11 767 (fun _ hm=>⟨hm.fa 0,trivial⟩) fun z=>wq 8 U (dJ (cs:= [.int .i64 (at_+v2),.string s4,.int .i64 (nd+1),.string p25]) U (by kernel_rfl)) (eG 10 U (kE (cs':= [.int .i64 (at_+v2),.string s4,.int .i64 (nd+1),.string p25]) 0 kM U U U U (bE (nw 11 2047 (fun _ hm=>⟨hm.fa 0,trivial⟩) fun z=>jO (bD (bH (bR (bP U (dN (γ:=Bool) (val:=fun v=> .bool v) (φ:=fun v=>True) U xN U U U U (fun wx hm=>((jY _ wx B sb _ hm.k (by omega) (by omega) (by omega)).mono fun _ _ ⟨v,he,hS,hg⟩=>⟨v,trivial,he,hS,hg⟩)) fun f26 _=>bQ ?_))))))))))))
  refine dC U (fun hh=>?_) (fun hh=>?_)
  ·have h27:f26=true:=by simpa using hh
   refine bR (bP U (dN (γ:=Int) (val:=fun v=> .int .i64 v) (φ:=fun v=>mW 4 v) U bP8 U U U U (fun wx hm=>(mM _ wx B sb _ hm.k (by omega) (by omega) (by omega))) fun v28 hv28=>bQ (bO (bR (bB (eL U U) U (bX U (bQ ?_)))))))
   refine cC U (fun h29=>?_) (fun h29=>?_)
   ·refine bI (bP U ?_)
    refine dN (γ:=Int) (val:=fun v=> .int .i64 v) (φ:=fun v=> -2000000000000000<=v/\v<=2000000000000000) U bO2 U U U U (fun wx hm=>(mF _ _ wx B sb _ hm.k (by omega) (by omega) (by omega) (by omega))) fun v30 hv30=>dY mO U U (jH 0 fP U U U U U U (bE (bG (bD (bI (bP U (bB (cU kM U (fun _ hm=>hm.blkI 0 U) U U) U (jE 171 [.int .i64 v30,.string s4,.int .i64 (nd+1),.string p25] fun g31=>eB (news:= [.int .i64 v30,.string s4,.int .i64 (nd+1),.string p25]) 0 0 cY0 U U U U U U U (by omega) (by unfold maxLen;omega) U U fun v2 zJ=>?_))))))))
    refine dV (R:=∃A cc,v2= .slice A (i+1) cc) (fun wx hm=>dR (hm.ownI 0 U)) ?_
    rintro ⟨A4,c4,rfl⟩
    refine bX U (bE (bG (bD (bI (gO U U (bP U (bE ?_)))))))
    obtain ⟨us,xX⟩:∃z,z=xl++ [(⟨v30,s4,nd+1,p25⟩:Ny)]:=⟨_,rfl⟩
    have hul:us.length=i+1:=by rw [xX];simp [hxl]
    have xM:xl.flatMap eR++([.int .i64 v30,.string s4,.int .i64 (nd+1),.string p25]:List Value)=us.flatMap eR:=by rw [xX];simp [eR]
    have xW:∀x∈us,uH x:=fun x hx=>by
     rw [xX] at hx
     rcases List.mem_append.1 hx with hx|hx
     ·exact hxok x hx
     rw [List.mem_singleton.1 hx]
     exact ⟨⟨by dsimp only;omega,by dsimp only;omega⟩,by dsimp only;omega,⟨by dsimp only;omega,by dsimp only;omega⟩,by dsimp only;omega⟩
    rw [xM]
    exact cN (i+1,at_+v2,fQ (F) s4 (nd+1),A4,c4,us) ⟨by dsimp only;omega,⟨by dsimp only;omega,by dsimp only;omega⟩,(fun k v hkv=>by
     rcases eM hkv with ⟨_,rfl⟩|h
     ·omega
     have:=hF k v h;omega),hul,xW⟩ (by dsimp only;omega) ⟨rfl,rfl,rfl,rfl,rfl,rfl,(cR (by dsimp only;omega)),trivial⟩ (fun _ hm=>(hm.more rfl (by first|omega|(dsimp only;omega))).pick [] [0] [0,1] rfl rfl)
   refine bR (bB (eL U U) U (bX U (bQ ?_)))
   refine cC U (fun zL=>?_) (fun zL=>?_)
   ·refine bI (bP U ?_)
    refine jE 9 [.string ⟨#[]⟩,.string ⟨#[65]⟩] fun g33=>dN (γ:=ByteArray) (val:=fun v=> .string v) (φ:=fun v=>v∈([⟨#[]⟩,⟨#[65]⟩]:List ByteArray)) U rK U U U U (fun wx hm=>(gU [⟨#[]⟩,⟨#[65]⟩] _ _ _ wx B sb _ hm.k (by omega) (by simp) (by simp) (hm.blkI 0 U) (hm.neRow 0 U U))) fun s34 hs34=>?_
    have zs34:s34.size<=100:=kG hs34 (by decide)
    refine dY nY U U (jH 1 fC U U U U U U (bE (bG (bD (bI (bP U (bB (cU kM U (fun _ hm=>hm.blkI 1 U) U U) U (jE 171 [.int .i64 (at_+v2),.string s34,.int .i64 (nd+1),.string p25] fun g35=>eB (news:= [.int .i64 (at_+v2),.string s34,.int .i64 (nd+1),.string p25]) 0 0 cY0 U U U U U U U (by omega) (by unfold maxLen;omega) U U fun v2 zJ=>?_))))))))
    refine dV (R:=∃A cc,v2= .slice A (i+1) cc) (fun wx hm=>dR (hm.ownI 0 U)) ?_
    rintro ⟨A4,c4,rfl⟩
    refine bX U (bE (bG (bD (bI (gO U U (bP U (bE ?_)))))))
    obtain ⟨us,xX⟩:∃z,z=xl++ [(⟨at_+v2,s34,nd+1,p25⟩:Ny)]:=⟨_,rfl⟩
    have hul:us.length=i+1:=by rw [xX];simp [hxl]
    have xM:xl.flatMap eR++([.int .i64 (at_+v2),.string s34,.int .i64 (nd+1),.string p25]:List Value)=us.flatMap eR:=by rw [xX];simp [eR]
    have xW:∀x∈us,uH x:=fun x hx=>by
     rw [xX] at hx
     rcases List.mem_append.1 hx with hx|hx
     ·exact hxok x hx
     rw [List.mem_singleton.1 hx]
     exact ⟨⟨by dsimp only;omega,by dsimp only;omega⟩,by dsimp only;omega,⟨by dsimp only;omega,by dsimp only;omega⟩,by dsimp only;omega⟩
    rw [xM]
    exact cN (i+1,at_+v2,fQ (F) s4 (nd+1),A4,c4,us) ⟨by dsimp only;omega,⟨by dsimp only;omega,by dsimp only;omega⟩,(fun k v hkv=>by
     rcases eM hkv with ⟨_,rfl⟩|h
     ·omega
     have:=hF k v h;omega),hul,xW⟩ (by dsimp only;omega) ⟨rfl,rfl,rfl,rfl,rfl,rfl,(cR (by dsimp only;omega)),trivial⟩ (fun _ hm=>(hm.more rfl (by first|omega|(dsimp only;omega))).pick [] [0] [0,1] rfl rfl)
   refine bR (bB (eL U U) U (bX U (bQ ?_)))
   refine cC U (fun h36=>?_) (fun h36=>?_)
   ·refine bI (bP U ?_)
    refine dN (γ:=Int) (val:=fun v=> .int .i64 v) (φ:=fun v=> -2000000000000000<=v/\v<=2000000000000000) U bO2 U U U U (fun wx hm=>(mF _ _ wx B sb _ hm.k (by omega) (by omega) (by omega) (by omega))) fun v37 hv37=>dY qD U U (jH 0 fP U U U U U U (bE (bG (bD (bI (bP U (bB (cU kM U (fun _ hm=>hm.blkI 0 U) U U) U (jE 171 [.int .i64 (at_+v2),.string s4,.int .i64 v37,.string p25] fun g38=>eB (news:= [.int .i64 (at_+v2),.string s4,.int .i64 v37,.string p25]) 0 0 cY0 U U U U U U U (by omega) (by unfold maxLen;omega) U U fun v2 zJ=>?_))))))))
    refine dV (R:=∃A cc,v2= .slice A (i+1) cc) (fun wx hm=>dR (hm.ownI 0 U)) ?_
    rintro ⟨A4,c4,rfl⟩
    refine bX U (bE (bG (bD (bI (gO U U (bP U (bE ?_)))))))
    obtain ⟨us,xX⟩:∃z,z=xl++ [(⟨at_+v2,s4,v37,p25⟩:Ny)]:=⟨_,rfl⟩
    have hul:us.length=i+1:=by rw [xX];simp [hxl]
    have xM:xl.flatMap eR++([.int .i64 (at_+v2),.string s4,.int .i64 v37,.string p25]:List Value)=us.flatMap eR:=by rw [xX];simp [eR]
    have xW:∀x∈us,uH x:=fun x hx=>by
     rw [xX] at hx
     rcases List.mem_append.1 hx with hx|hx
     ·exact hxok x hx
     rw [List.mem_singleton.1 hx]
     exact ⟨⟨by dsimp only;omega,by dsimp only;omega⟩,by dsimp only;omega,⟨by dsimp only;omega,by dsimp only;omega⟩,by dsimp only;omega⟩
    rw [xM]
    exact cN (i+1,at_+v2,fQ (F) s4 (nd+1),A4,c4,us) ⟨by dsimp only;omega,⟨by dsimp only;omega,by dsimp only;omega⟩,(fun k v hkv=>by
     rcases eM hkv with ⟨_,rfl⟩|h
     ·omega
     have:=hF k v h;omega),hul,xW⟩ (by dsimp only;omega) ⟨rfl,rfl,rfl,rfl,rfl,rfl,(cR (by dsimp only;omega)),trivial⟩ (fun _ hm=>(hm.more rfl (by first|omega|(dsimp only;omega))).pick [] [0] [0,1] rfl rfl)
   refine bI (bP U (jE 9 [.string ⟨#[]⟩,.string ⟨#[97,10]⟩,.string ⟨#[195]⟩] fun g39=>dN (γ:=ByteArray) (val:=fun v=> .string v) (φ:=fun v=>v∈([⟨#[]⟩,⟨#[97,10]⟩,⟨#[195]⟩]:List ByteArray)) U rK U U U U (fun wx hm=>(gU [⟨#[]⟩,⟨#[97,10]⟩,⟨#[195]⟩] _ _ _ wx B sb _ hm.k (by omega) (by simp) (by simp) (hm.blkI 0 U) (hm.neRow 0 U U))) fun s40 hs40=>?_))
   have zs40:s40.size<=100:=kG hs40 (by decide)
   refine dY qU U U (jH 1 fC U U U U U U (bE (bG (bD (bI (bP U (bB (cU kM U (fun _ hm=>hm.blkI 1 U) U U) U (jE 171 [.int .i64 (at_+v2),.string s4,.int .i64 (nd+1),.string s40] fun g41=>eB (news:= [.int .i64 (at_+v2),.string s4,.int .i64 (nd+1),.string s40]) 0 0 cY0 U U U U U U U (by omega) (by unfold maxLen;omega) U U fun v2 zJ=>?_))))))))
   refine dV (R:=∃A cc,v2= .slice A (i+1) cc) (fun wx hm=>dR (hm.ownI 0 U)) ?_
   rintro ⟨A4,c4,rfl⟩
   refine bX U (bE (bG (bD (bI (gO U U (bP U (bE ?_)))))))
   obtain ⟨us,xX⟩:∃z,z=xl++ [(⟨at_+v2,s4,nd+1,s40⟩:Ny)]:=⟨_,rfl⟩
   have hul:us.length=i+1:=by rw [xX];simp [hxl]
   have xM:xl.flatMap eR++([.int .i64 (at_+v2),.string s4,.int .i64 (nd+1),.string s40]:List Value)=us.flatMap eR:=by rw [xX];simp [eR]
   have xW:∀x∈us,uH x:=fun x hx=>by
    rw [xX] at hx
    rcases List.mem_append.1 hx with hx|hx
    ·exact hxok x hx
    rw [List.mem_singleton.1 hx]
    exact ⟨⟨by dsimp only;omega,by dsimp only;omega⟩,by dsimp only;omega,⟨by dsimp only;omega,by dsimp only;omega⟩,by dsimp only;omega⟩
   rw [xM]
   exact cN (i+1,at_+v2,fQ (F) s4 (nd+1),A4,c4,us) ⟨by dsimp only;omega,⟨by dsimp only;omega,by dsimp only;omega⟩,(fun k v hkv=>by
    rcases eM hkv with ⟨_,rfl⟩|h
    ·omega
    have:=hF k v h;omega),hul,xW⟩ (by dsimp only;omega) ⟨rfl,rfl,rfl,rfl,rfl,rfl,(cR (by dsimp only;omega)),trivial⟩ (fun _ hm=>(hm.more rfl (by first|omega|(dsimp only;omega))).pick [] [0] [0,1] rfl rfl)
  have h27:f26=false:=by simpa using hh
  refine bN (bD (bI (bP U (bB (cU kM U (fun _ hm=>hm.blkI 0 U) U U) U (jE 171 [.int .i64 (at_+v2),.string s4,.int .i64 (nd+1),.string p25] fun g42=>eB (news:= [.int .i64 (at_+v2),.string s4,.int .i64 (nd+1),.string p25]) 0 0 cY0 U U U U U U U (by omega) (by unfold maxLen;omega) U U fun v2 zJ=>?_)))))
  refine dV (R:=∃A cc,v2= .slice A (i+1) cc) (fun wx hm=>dR (hm.ownI 0 U)) ?_
  rintro ⟨A4,c4,rfl⟩
  refine bX U (bE (bG (bD (bI (gO U U (bP U (bE ?_)))))))
  obtain ⟨us,xX⟩:∃z,z=xl++ [(⟨at_+v2,s4,nd+1,p25⟩:Ny)]:=⟨_,rfl⟩
  have hul:us.length=i+1:=by rw [xX];simp [hxl]
  have xM:xl.flatMap eR++([.int .i64 (at_+v2),.string s4,.int .i64 (nd+1),.string p25]:List Value)=us.flatMap eR:=by rw [xX];simp [eR]
  have xW:∀x∈us,uH x:=fun x hx=>by
   rw [xX] at hx
   rcases List.mem_append.1 hx with hx|hx
   ·exact hxok x hx
   rw [List.mem_singleton.1 hx]
   exact ⟨⟨by dsimp only;omega,by dsimp only;omega⟩,by dsimp only;omega,⟨by dsimp only;omega,by dsimp only;omega⟩,by dsimp only;omega⟩
  rw [xM]
  exact cN (i+1,at_+v2,fQ (F) s4 (nd+1),A4,c4,us) ⟨by dsimp only;omega,⟨by dsimp only;omega,by dsimp only;omega⟩,(fun k v hkv=>by
   rcases eM hkv with ⟨_,rfl⟩|h
   ·omega
   have:=hF k v h;omega),hul,xW⟩ (by dsimp only;omega) ⟨rfl,rfl,rfl,rfl,rfl,rfl,(cR (by dsimp only;omega)),trivial⟩ (fun _ hm=>(hm.more rfl (by first|omega|(dsimp only;omega))).pick [] [0] [0,1] rfl rfl)
 refine dD (bF (bF (bY (bD (bR (bP U ?_))))))
 have hie:i=q:=by omega
 refine dV (R:=(Value.slice oA i oc= .slice none 0 0/\i=0)∨∃br cc,Value.slice oA i oc= .slice (some ⟨br,0,none⟩) i cc) (fun wx hm=>cD0 (hm.ownI 0 U)) ?_
 rintro (⟨hv0,hi00⟩|⟨br,cc,hv0⟩)
 ·injection hv0 with e1 e2 e3
  subst e1 e3 hi00
  refine cH U eP9 U U (fun wx hm=>(dG0 none 0 wx)) (bQ (bR (bP U (bX U (bQ (bM ?_))))))
  exact bJ U U fun wx hm=>⟨none,0,0, [],U,by have h8:=(hm.ownI 0 rfl);rw [List.length_eq_zero_iff.1 hxl] at h8;exact h8,rfl,(fun _ h=>by cases h),by omega,hm.k.more (by omega),hm.g⟩
 injection hv0 with e1 _ e3
 subst e1 e3
 refine bX4 (v:= .tuple #[]) (xs':=(dS wL xl).flatMap eR) 0 U U U eP9 U U (fun wx hm=>(dG5 xl br i oc _ wx (hm.ownI 0 U) hxl (by omega) hxok)) ?_
 refine bQ (bR (bP U (bX U (bQ (bM ?_)))))
 exact bJ U U fun wx hm=>⟨some ⟨br,0,none⟩,i,oc,dS wL xl,U,(hm.ownI 0 U),by rw [pH];exact hxl,(fun x hx=>hxok x ((mL wL xl).mem_iff.1 hx)),by omega,hm.k.more (by omega),hm.g⟩
theorem dC9 {w:World} {base e sz n c:Nat} {A:Option Addr} {xs:List Value} (h:w.ownsRow base e sz (.slice A n c) n xs):n<=c:=by
 obtain ⟨_,h2⟩:=h
 rcases h2 with ⟨h2,h3⟩|⟨g',cap',wZ,hv,_,_,hle,_⟩
 ·omega
 ·injection hv with _ _ h5
  omega
theorem bE6 (q:Nat) (w:World) (B sb m:Nat) (hS:eU 25 w B sb m) (hm:m<=800000) (htx:TxtO w.heap.size (some sb) w) (hq:q<=20):
 Calls prog 7 #[.pointer (some ⟨sb,0,none⟩),.int .i64 ((q:Nat):Int)] w (fun e w'=>∃(A:Option Addr) (n c:Nat) (l:List Ny),e=.returned (.slice A n c)/\SlT eR 4 171 w' A n l/\(∀x∈l,uH x)/\nH l/\n<=q/\eU 25 w' B sb (m+2000)/\w.grownBy w' (some sb)):=by
 refine cS ⟨16,w,(some sb), [171]⟩ func7 U ntmps7 U (bF4 (X:= [TxtO w.heap.size (some sb)]) hS (cF htx cX) (cG TxtO.lasts cY)) (bR (bX U (bQ (bH (bR (bP U (bQ (bO ?_))))))))
 refine dX (γ:=Nat) (fun (k:Nat)=>k<=5) (fun (k:Nat)=> [(0,.pointer (some ⟨sb,0,none⟩)),(1,.int .i64 ((q:Nat):Int)),(6,.int .i64 ((k:Nat):Int))]) (fun (k:Nat)=>fun w=>eU 25 w B sb (m+400 *k)) (fun (k:Nat)=> []) (fun (k:Nat)=> []) (fun (k:Nat)=> [TxtO w.heap.size (some sb)]) (fun (k:Nat)=>5 - k) 0 (Nat.zero_le _) ⟨U,U,U,trivial⟩ (fun _ hm=>hm.pick [] [] [0] U U) ?_
 intro k cB
 replace cB:k<=5:=cB
 refine bR (bB (dE U U) U (bQ (bH ?_)))
 refine cC U (fun hk=>?_) (fun hk=>?_)
 ·refine bN (bD (bH (bO (bR (bP U (bP U ?_))))))
  refine nQ (γ:=Option Addr×Nat×Nat×List Ny) (val:=(fun g=> .slice g.1 g.2.1 g.2.2.1)) (φ:=(fun g=>(∀x∈g.2.2.2,uH x)/\g.2.1<=q/\g.2.1<=g.2.2.1)) (Y:=(fun g=>fun wy=>SlT eR 4 171 wy g.1 g.2.1 g.2.2.2)) (m':=m+400 *k+400) U fC2 U U U U (fun wx hm=>(cT5 q wx B sb _ hm.k (by omega) (TxtO.up (hm.fact 0 U) hm.g.size) hq).mono fun _ _ ⟨A,n,c,l,he,ho,hl,hz,hn,hS,hg⟩=>⟨(A,n,c,l),he,⟨hz,hn,dC9 ho⟩,hS.more (by omega),hg,SlT.ofOwn vT ho hl⟩) (fun _=>SlT.lasts2 U) ?_
  rintro ⟨A,n,c,l⟩ hph
  dsimp only at hph ⊢
  obtain ⟨hlz,hnq,hnc⟩:=hph
  refine bX U (bQ (bR (bP U ?_)))
  refine gY (γ:=Int) (val:=(fun g=> .int .i64 g)) (φ:=(fun g=>g=0->l.length<=1000/\nH l)) (Y:=(fun g=>fun _=>True)) U fD2 U U (fun wx hm=>(bL5 l A n c wx (hm.fact 0 U) (by omega) hnc hlz).mono fun _ _ ⟨E,he,h1,hg⟩=>⟨E,he,h1,hg,trivial⟩) (fun _=>Lasts2.true_) ?_
  rintro E hE
  refine bB (eL U U) U (bQ ?_)
  refine cC U (fun h0=>?_) (fun h0=>?_)
  ·refine bR (bP U (bX U (bQ ?_)))
   refine bM (bC (bA (bA (bC (bA ?_)))))
   exact bJ U U fun wx hm=>⟨A,n,c,l,U,hm.fa 1,hlz,(hE (by simpa using h0)).2,hnq,hm.k.more (by omega),hm.g⟩
  refine bN (bG (bD (bI (gO U U (bP U (bE ?_))))))
  exact cN (k+1) (by show _<=_;omega) (by omega) ⟨U,U,(cR (by omega)),trivial⟩ (fun _ hm=>(hm.more U (by first|omega|(dsimp only;omega))).pick [] [] [2] U U)
 refine dD (bF (bF (bY (bD (bR (bX U (bQ (bM ?_))))))))
 exact bJ U U fun wx hm=>⟨none,0,0, [],U,SlT.nil_ _ _,(fun _ h=>by cases h),bZ6,Nat.zero_le _,hm.k.more (by omega),hm.g⟩
theorem dH8 {s:ByteArray} (h:keyB s=true):s.size<=100:=by
 have e:s.size=s.data.toList.length:=Array.length_toList.symm
 rw [e]
 unfold keyB at h
 cases hs:s.data.toList with
 |nil=>exact Nat.zero_le _
 |cons c r=>
  rw [hs] at h
  unfold cE2 at h
  simp only [Bool.and_eq_true,decide_eq_true_eq] at h
  rw [List.length_cons];omega
theorem bO7 (l:List Ny) (A:Option Addr) (n c0:Nat) (w:World) (hl:SlT eR 4 171 w A n l) (hn:n<=1000) (hr:nH l):Calls prog 77 #[.slice A n c0] w (fun e w'=>e=.returned (.int .i64 0)/\w.grownBy w' none):=by
 refine cS ⟨74,w,none, []⟩ func77 U ntmps77 U (gM (X:= [bW eR 4 171 w.heap.size none A n l]) (cF hl.old cX) (cG bW.lasts cY)) (bR ?_)
 have hlen:=hl.len
 refine bX U (bQ (bH (bR (bP U (bB (dT uO U) U (bB (eK U U) U (bK 9 (v':= .bool false) U (fU3 (decide_eq_false (by omega))) (bQ (jQ U (bN (bD (bR (kV (enc:=vB) (ek:=nB) (fun g=>True) (fun _ hm=>trivial) U fun gm hne_gm=>bX U (bQ (bH (bR (bP U (bB (dT uO U) U (bP U (bQ (bO ?_)))))))))))))))))))))
 refine dX (γ:=Nat×(ByteArray×Int->Option Bool)) (fun (gq:Nat×(ByteArray×Int->Option Bool))=>gq.1<=n/\∀k,(gq.2 k).getD false=true->∃x∈l.take gq.1,(x.dk,x.no)=k) (fun (gq:Nat×(ByteArray×Int->Option Bool))=> [(0,.slice A n c0),(3,.map (some gm)),(11,.slice A n c0),(12,.int .i64 ((n:Nat):Int)),(13,.int .i64 ((gq.1:Nat):Int))]) (fun (gq:Nat×(ByteArray×Int->Option Bool))=>fun _=>True) (fun (gq:Nat×(ByteArray×Int->Option Bool))=> []) (fun (gq:Nat×(ByteArray×Int->Option Bool))=> []) (fun (gq:Nat×(ByteArray×Int->Option Bool))=> [bU vB nB w.heap.size gm (gq.2),bW eR 4 171 w.heap.size none A n l]) (fun (gq:Nat×(ByteArray×Int->Option Bool))=>n - gq.1) (0,mY) ⟨Nat.zero_le _,fun _ h=>by cases h⟩ ⟨U,U,U,U,U,trivial⟩ (fun _ hm=>hm.pick [] [] [0,1] U U) ?_
 rintro ⟨i,F⟩ cB
 replace cB:i<=n/\∀k,(F k).getD false=true->∃x∈l.take i,(x.dk,x.no)=k:=cB
 dsimp only
 refine bR (bB (dE U U) U (bQ (bH ?_)))
 refine cC U (fun hi=>?_) (fun hi=>?_)
 ·refine bN (bD (bH (bO (bR ?_))))
  obtain ⟨b,off,hA,_,_⟩:=hl.get (by omega)
  subst hA
  obtain ⟨x,hx⟩:∃x,l[i]?=some x:=⟨_,fW3 (by omega)⟩
  obtain ⟨e0,e1,e2,e3⟩:=x
  obtain ⟨f0,f1,f2,f3,f4⟩:=hr.fine _ (fX3 hx)
  dsimp only at f0 f1 f2 f3 f4
  have hkz:=dH8 f1
  have hnew:(F (e1,e2)).getD false=false:=by
   cases hq:(F (e1,e2)).getD false with
   |false=>rfl
   |true=>
    obtain ⟨y,hy,e⟩:=cB.2 _ hq
    obtain ⟨j,hj⟩:=List.mem_iff_getElem?.1 hy
    obtain ⟨hj1,hj2⟩:=cY4 hj
    exact absurd ⟨congrArg Prod.fst e,congrArg Prod.snd e⟩ (hr.once j i y _ hj1 hj2 hx)
  by_cases hi0:i=0
  ·refine bP U ?_
   refine bB (bV (j:=i) uO U U (by omega)) U (bB (dP (vs:= [.int .i64 e0,.string e1,.int .i64 e2,.string e3]) kM U (fun _ hm=>(hm.fact 1 U).1) hx U U) U (dL cX2 U fun g1=>bX U (kE (cs':= [.int .i64 e0,.string e1,.int .i64 e2,.string e3]) 0 kM U U U U (bQ (bR (dY nY U U (eJ fC 0 U U U (dY qD U U (eJ fP 0 U U U (bB (dJ (cs:= [.string e1,.int .i64 e2]) U (by kernel_rfl)) U (dL eN4 U fun g2=>kE (cs':= [.string e1,.int .i64 e2]) 0 cP2 U U U U (bQ (bH (bO (bR (dY mO U U (eJ fP 1 U U U (cH U dF6 U U (fun wx hm=>((vE _ wx).mono fun _ _ ⟨he,hw⟩=>⟨he,hw ▸ World.grownBy.refl _ _⟩)) (bB (cE U) U (bK 27 (v':= .bool false) U (fU3 (by rw [f0];rfl)) (bX U (bQ (jQ U (bR (dY nY U U (eJ fC 1 U U U (cZ U bW1 U U (fun wx hm=>(isKey_any _ wx (by omega))) ?_)))))))))))))))))))))))))))
   refine bB (cE U) U (bK 32 (v':= .bool false) U (fU3 (by rw [f1];rfl)) (bX U (bQ (jQ U (bR (dY qD U U (eJ fP 1 U U U (cZ U qA U U (fun wx hm=>(in_any _ _ _ wx)) (bB (cE U) U (bK 37 (v':= .bool false) U (fU3 (by rw [f2];rfl)) (bX U (bQ (jQ U (bR (dY qU U U (eJ fC 1 U U U (bB (eS U U) U (bK 41 (v':= .bool false) U (fU3 (by rw [mZ];exact decide_eq_false (fun e=>by rw [e] at f3;exact absurd f3.1 (by decide)))) (bP U (eE U (dY qU U U (eE U (eJ fC 1 U U U (eE U (bB (yF us9 U) U (eE U (bB (eK U U) U (bK 46 (v':= .bool false) U (fU3 (by exact decide_eq_false (by omega))) ?_))))))))))))))))))))))))))))
   refine nR U U (bP U (eE U (dY qU U U (eE U (eJ fC 1 U U U (eE U (cH U eU3 U U (fun wx hm=>(bB7 e3 wx (by omega) f4)) (eE U (bB (cE U) U (bK 52 (v':= .bool false) U (fU3 (by rfl)) (nR U U (bX U (bQ (jQ U (bH (gd (fun wz=>True) mixed (fun _ _=>trivial) fun z=>wq 0 U (bL U) (wq 1 U (eK U U) (dH 56 (v':= .bool false) U (fU3 (by simp;omega)) (wq 2 U (bL U) (fD 3 U (fD 4 U (fD 5 U (fD 6 U (fD 7 U (eG 8 U (dZ U (bE (nw 13 511 (fun _ _=>trivial) fun z=>?_))))))))))))))))))))))))))))
   refine fD 9 U (fD 10 U (wq 11 U (fO U U) (wq 12 U (cV U) (jO (bD (jQ U (bR (bP U (bB (cU cP2 U (fun _ hm=>hm.blkI 0 U) U U) U (bB (kT (enc:=vB) (ek:=nB) (s:=(e1,e2)) (e:=4) false cK4 (by kernel_rfl) (by kernel_rfl) U U (fun _ hm=>(hm.fact 0 U))) U (bK 70 (v':= .bool false) U (fU3 hnew) (bX U (bQ (jQ U (bN (bG (bD (bI (bP U (bB (cU cP2 U (fun _ hm=>hm.blkI 0 U) U U) U (kO (enc:=vB) (ek:=nB) (s:=(e1,e2)) (v:=true) (e:=4) (X':= [bW eR 4 171 w.heap.size none (some ⟨b,off,none⟩) n l]) 0 cK4 (by kernel_rfl) U U U U (cL (i:=1) bW.mfar.far U gB) (bE (bG (bD (bI (gO U U (bP U (bE ?_))))))))))))))))))))))))))))
   exact cN (i+1,fQ F (e1,e2) true) ⟨by dsimp only;omega,fun k hk=>by
    dsimp only at hk ⊢
    by_cases e:k=(e1,e2)
    ·exact ⟨_,fX3 (i:=i) (by rw [List.getElem?_take,if_pos (Nat.lt_succ_self i)];exact hx),e.symm⟩
    rw [dB _ _ e] at hk
    obtain ⟨y,hy,e2⟩:=cB.2 k hk
    refine ⟨y,?_,e2⟩
    rw [List.take_add_one]
    exact List.mem_append_left _ hy⟩ (by dsimp only;omega) ⟨U,U,U,U,(cR (by dsimp only;omega)),trivial⟩ (fun _ hm=>hm.pick [] [] [0,1] U U)
  obtain ⟨pe,hpe⟩:∃x,l[i - 1]?=some x:=⟨_,fW3 (by omega)⟩
  have ho:=hr.rise (i - 1) _ _ hpe (by rw [show i - 1+1=i by omega];exact hx)
  obtain ⟨p0,p1,p2,p3⟩:=pe
  refine bP U (bB (bV (j:=i) uO U U (by omega)) U (bB (dP (vs:= [.int .i64 e0,.string e1,.int .i64 e2,.string e3]) kM U (fun _ hm=>(hm.fact 1 U).1) hx U U) U (dL cX2 U fun g3=>bX U (kE (cs':= [.int .i64 e0,.string e1,.int .i64 e2,.string e3]) 0 kM U U U U (bQ (bR (dY nY U U (eJ fC 0 U U U (dY qD U U (eJ fP 0 U U U (bB (dJ (cs:= [.string e1,.int .i64 e2]) U (by kernel_rfl)) U (dL eN4 U fun g4=>kE (cs':= [.string e1,.int .i64 e2]) 0 cP2 U U U U (bQ (bH (bO (bR (dY mO U U (eJ fP 1 U U U (cH U dF6 U U (fun wx hm=>((vE _ wx).mono fun _ _ ⟨he,hw⟩=>⟨he,hw ▸ World.grownBy.refl _ _⟩)) (bB (cE U) U (bK 27 (v':= .bool false) U (fU3 (by rw [f0];rfl)) (bX U (bQ (jQ U (bR (dY nY U U (eJ fC 1 U U U ?_)))))))))))))))))))))))))))
  refine cZ U bW1 U U (fun wx hm=>(isKey_any _ wx (by omega))) (bB (cE U) U (bK 32 (v':= .bool false) U (fU3 (by rw [f1];rfl)) (bX U (bQ (jQ U (bR (dY qD U U (eJ fP 1 U U U (cZ U qA U U (fun wx hm=>(in_any _ _ _ wx)) (bB (cE U) U (bK 37 (v':= .bool false) U (fU3 (by rw [f2];rfl)) (bX U (bQ (jQ U (bR (dY qU U U (eJ fC 1 U U U (bB (eS U U) U (bK 41 (v':= .bool false) U (fU3 (by rw [mZ];exact decide_eq_false (fun e=>by rw [e] at f3;exact absurd f3.1 (by decide)))) (bP U (eE U (dY qU U U (eE U (eJ fC 1 U U U (eE U (bB (yF us9 U) U (eE U (bB (eK U U) U (bK 46 (v':= .bool false) U (fU3 (by exact decide_eq_false (by omega))) ?_)))))))))))))))))))))))))))))
  refine nR U U (bP U (eE U (dY qU U U (eE U (eJ fC 1 U U U (eE U (cH U eU3 U U (fun wx hm=>(bB7 e3 wx (by omega) f4)) (eE U (bB (cE U) U (bK 52 (v':= .bool false) U (fU3 (by rfl)) (nR U U (bX U (bQ (jQ U (bH (gd (fun wz=>Blk wz g3 171 [.int .i64 e0,.string e1,.int .i64 e2,.string e3]/\(bW eR 4 171 w.heap.size none (some ⟨b,off,none⟩) n l) wz/\True) mixed (fun _ hm=>⟨hm.bl 1,hm.fa 1,trivial⟩) fun z=>wq 0 U (bL U) (wq 1 U (eK U U) (dH 56 (v':= .bool true) U (fU3 (by simp;omega)) (wq 2 U (bL U) (fI 3 U (bL U) (fI 4 U (bL U) (fI 5 U (ov_sub U U (by omega) (by omega)) (dH 60 (v':= .int .i64 ((i - 1:Nat):Int)) U (fV3 (by omega)) (fI 6 U (bV (j:=i - 1) uO U U (by omega)) (fI 7 U (dP (vs:= [.int .i64 p0,.string p1,.int .i64 p2,.string p3]) kM U (fun _ hm=>(hm.2.1).1) hpe U U) (fI 8 U (cU kM U (fun _ hm=>hm.1) U U) (eG 9 U (eE U ?_))))))))))))))))))))))))))))
  refine cH U eH8 U U (fun wx hm=>(dJ4 p0 p1 p2 p3 e0 e1 e2 e3 wx)) (bE (nw 13 1023 (fun _ hm=>⟨hm.bl 1,hm.fa 1,trivial⟩) fun z=>fI 10 U (mG U U) (dH 65 (v':= .bool false) U (fU3 (by exact decide_eq_false (by omega))) (wq 11 U (fE U U) (wq 12 U (cV U) (jO (bD (jQ U (bR (bP U (bB (cU cP2 U (fun _ hm=>hm.blkI 0 U) U U) U (bB (kT (enc:=vB) (ek:=nB) (s:=(e1,e2)) (e:=4) false cK4 (by kernel_rfl) (by kernel_rfl) U U (fun _ hm=>(hm.fact 0 U))) U (bK 70 (v':= .bool false) U (fU3 hnew) (bX U (bQ (jQ U (bN (bG (bD (bI (bP U (bB (cU cP2 U (fun _ hm=>hm.blkI 0 U) U U) U (kO (enc:=vB) (ek:=nB) (s:=(e1,e2)) (v:=true) (e:=4) (X':= [bW eR 4 171 w.heap.size none (some ⟨b,off,none⟩) n l]) 0 cK4 (by kernel_rfl) U U U U (cL (i:=1) bW.mfar.far U gB) ?_)))))))))))))))))))))))
  refine bE (bG (bD (bI (gO U U (bP U (bE ?_))))))
  exact cN (i+1,fQ F (e1,e2) true) ⟨by dsimp only;omega,fun k hk=>by
   dsimp only at hk ⊢
   by_cases e:k=(e1,e2)
   ·exact ⟨_,fX3 (i:=i) (by rw [List.getElem?_take,if_pos (Nat.lt_succ_self i)];exact hx),e.symm⟩
   rw [dB _ _ e] at hk
   obtain ⟨y,hy,e2⟩:=cB.2 k hk
   refine ⟨y,?_,e2⟩
   rw [List.take_add_one]
   exact List.mem_append_left _ hy⟩ (by dsimp only;omega) ⟨U,U,U,U,(cR (by dsimp only;omega)),trivial⟩ (fun _ hm=>hm.pick [] [] [0,1] U U)
 refine dD (bF (bF (bY (bD (bR (bX U (bQ (bM ?_))))))))
 exact bJ U U fun wx hm=>⟨U,hm.g⟩
theorem cK1 (sA cA vA eA:Option Addr) (sn sc cn cc vn vc en ec:Nat) (u3 u4 u5 u6 u7 u8 u9 jI jJ jK jL jM jN:Value) (sl:List St) (cl:List Cs) (vl:List Vh) (el:List Ny) (w:World) (hs:SlT stEnc 15 99 w sA sn sl) (hc:SlT dW 2 84 w cA cn cl) (hv:SlT gW 2 57 w vA vn vl) (he:SlT eR 4 171 w eA en el) (ht:qL w) (rS:∀x∈sl,StOk x) (hco:∀x∈cl,rV x) (hcn:cn<=1000) (wJ:∀x∈el,cG8 x) (hen:en<=20) (yY:sn<=1000000) (hvn:vn<=1000000):
 Calls prog 78 #[.agg #[.slice sA sn sc,.slice cA cn cc,.slice vA vn vc,u3,u4,u5,u6,u7,u8,u9,jI,jJ,jK,jL,jM,jN],.slice eA en ec] w (fun e w'=>∃go gv gs fT fR fS fU gC lv rv σ A n c,e=.returned (.pointer (some ⟨go,0,none⟩))/\((pQ (pX vl) (qJ sl) (fun b=>jR cl [b]=0) (el.map Ny.at_) σ/\fZ σ=bY2 (pX vl) (qJ sl) cl el)/\lv= .slice A n c)/\w.heap.size<=go/\Blk w' go 119 [.slice sA sn sc,.slice cA cn cc,.slice vA vn vc,u3,u4,u5,u6,u7,u8,u9,jI,jJ,jK,jL,jM,jN,.map (some gv),.map (some gs),.map (some fT),lv,.map (some fR),.map (some fS),.map (some fU),.map (some gC),rv]/\SlT dO 5 74 w' A n (dS dU σ.lg)/\bU pZ dM w.heap.size fS σ.fb w'/\bU nG dM w.heap.size fU σ.fh w'/\gF 68 σ.fh w'/\w.grownBy w' none):=by
 refine (cN4 w sA cA vA eA sn sc cn cc vn vc en ec u3 u4 u5 u6 u7 u8 u9 jI jJ jK jL jM jN sl cl vl el hs hc hv he ht rS hco hcn wJ hen yY hvn).mono ?_
 rintro e w' ⟨go,gv,gs,fT,fR,fS,fU,gC,lv,rv,rn,rx,σ,fp,rfl,vP,hm⟩
 obtain ⟨A,c,hlv⟩:=dR (hm.ownI 0 rfl)
 have ho:=hm.ownI 0 rfl
 dsimp only at hlv ho
 have ho2:w'.ownsRow w.heap.size 74 5 lv σ.lg.length ((dS dU σ.lg).flatMap dO):=ho
 rw [hlv] at ho2
 exact ⟨go,gv,gs,fT,fR,fS,fU,gC,lv,rv,σ,A,σ.lg.length,c,U,⟨vP,hlv⟩,(hm.b _ (List.mem_cons_self ..)).1,hm.blkI 0 U,SlT.ofOwn fB ho2 (mL dU σ.lg).length_eq,hm.fact 4 U,hm.fact 5 U,hm.fact 7 U,hm.g⟩
theorem cH2 (sA cA vA eA:Option Addr) (sn sc cn cc vn vc en ec:Nat) (u3 u4 u5 u6 u7 u8 u9 jI jJ jK jL jM jN:Value) (sl:List St) (cl:List Cs) (vl:List Vh) (el:List Ny) (w:World) (hs:SlT stEnc 15 99 w sA sn sl) (hc:SlT dW 2 84 w cA cn cl) (hv:SlT gW 2 57 w vA vn vl) (he:SlT eR 4 171 w eA en el) (ht:qL w) (rS:∀x∈sl,StOk x) (hco:∀x∈cl,rV x) (hcn:cn<=1000) (wJ:∀x∈el,cG8 x) (hen:en<=20) (yY:sn<=1000000) (hvn:vn<=1000000) (hck:∀wx,w.grownBy wx none->Calls prog 76 #[.agg #[.slice sA sn sc,.slice cA cn cc,.slice vA vn vc,u3,u4,u5,u6,u7,u8,u9,jI,jJ,jK,jL,jM,jN]] wx (fun e w'=>e=.returned (.int .i64 0)/\wx.grownBy w' none)) (hr:nH el):
 Calls prog 31 #[.agg #[.slice sA sn sc,.slice cA cn cc,.slice vA vn vc,u3,u4,u5,u6,u7,u8,u9,jI,jJ,jK,jL,jM,jN],.slice eA en ec] w (fun e w'=>∃go gv gs fT fR fS fU gC lv rv σ A n c,e=.returned (.tuple #[.pointer (some ⟨go,0,none⟩),.int .i64 0])/\((pQ (pX vl) (qJ sl) (fun b=>jR cl [b]=0) (el.map Ny.at_) σ/\fZ σ=bY2 (pX vl) (qJ sl) cl el)/\lv= .slice A n c)/\w.heap.size<=go/\Blk w' go 119 [.slice sA sn sc,.slice cA cn cc,.slice vA vn vc,u3,u4,u5,u6,u7,u8,u9,jI,jJ,jK,jL,jM,jN,.map (some gv),.map (some gs),.map (some fT),lv,.map (some fR),.map (some fS),.map (some fU),.map (some gC),rv]/\SlT dO 5 74 w' A n (dS dU σ.lg)/\bU pZ dM w.heap.size fS σ.fb w'/\bU nG dM w.heap.size fU σ.fh w'/\gF 68 σ.fh w'/\w.grownBy w' none):=by
 refine cS ⟨19,w,none, [68,74]⟩ func31 U ntmps31 U (gM (X:= [bW stEnc 15 99 w.heap.size none sA sn sl,bW dW 2 84 w.heap.size none cA cn cl,bW gW 2 57 w.heap.size none vA vn vl,bW eR 4 171 w.heap.size none eA en el,TxtO w.heap.size none]) (cF hs.old (cF hc.old (cF hv.old (cF he.old (cF ht.old cX))))) (cG bW.lasts (cG bW.lasts (cG bW.lasts (cG bW.lasts (cG TxtO.lasts cY)))))) (bR (fG U U U fun g1=>bX U (bX U (bQ (bH (bR (bB (cU cN1 U (fun _ hm=>hm.blkI 0 U) U U) U (cH U fQ2 U U (fun wx hm=>(hck wx hm.g)) (bP U (cH U fR2 U U (fun wx hm=>(bO7 el eA en ec wx (hm.fact 3 U).1 (by omega) hr)) (jE 48 [.int .i64 0,.int .i64 0] fun g2=>cZ U wH U U (fun wx hm=>(fN [0,0] _ _ _ wx (hm.blkI 0 U) (by simp))) (bX U (bQ (bR (bP U (bB (gS U U) U (bK 14 (v':= .bool false) U (U) (bQ (jQ U (bN (bD (bR (bB (cU cN1 U (fun _ hm=>hm.blkI 1 U) U U) U (bP U ?_))))))))))))))))))))))))
 refine gD (γ:=Nat×Nat×Nat×Nat×Nat×Nat×Nat×Nat×Value×Value×Os×Option Addr×Nat×Nat) (val:=(fun (q:Nat×Nat×Nat×Nat×Nat×Nat×Nat×Nat×Value×Value×Os×Option Addr×Nat×Nat)=> .pointer (some ⟨q.1,0,none⟩))) (φ:=(fun (q:Nat×Nat×Nat×Nat×Nat×Nat×Nat×Nat×Value×Value×Os×Option Addr×Nat×Nat)=>(pQ (pX vl) (qJ sl) (fun b=>jR cl [b]=0) (el.map Ny.at_) q.2.2.2.2.2.2.2.2.2.2.1/\fZ q.2.2.2.2.2.2.2.2.2.2.1=bY2 (pX vl) (qJ sl) cl el)/\q.2.2.2.2.2.2.2.2.1= .slice q.2.2.2.2.2.2.2.2.2.2.2.1 q.2.2.2.2.2.2.2.2.2.2.2.2.1 q.2.2.2.2.2.2.2.2.2.2.2.2.2)) (K':=fun _=>fun _=>True) (L':=(fun (q:Nat×Nat×Nat×Nat×Nat×Nat×Nat×Nat×Value×Value×Os×Option Addr×Nat×Nat)=> [(q.1,119, [.slice sA sn sc,.slice cA cn cc,.slice vA vn vc,u3,u4,u5,u6,u7,u8,u9,jI,jJ,jK,jL,jM,jN,.map (some q.2.1),.map (some q.2.2.1),.map (some q.2.2.2.1),q.2.2.2.2.2.2.2.2.1,.map (some q.2.2.2.2.1),.map (some q.2.2.2.2.2.1),.map (some q.2.2.2.2.2.2.1),.map (some q.2.2.2.2.2.2.2.1),q.2.2.2.2.2.2.2.2.2.1]),(g2,48, [.int .i64 0,.int .i64 0]),(g1,42, [.slice sA sn sc,.slice cA cn cc,.slice vA vn vc,u3,u4,u5,u6,u7,u8,u9,jI,jJ,jK,jL,jM,jN])])) (O':=fun _=> []) (X':=(fun (q:Nat×Nat×Nat×Nat×Nat×Nat×Nat×Nat×Value×Value×Os×Option Addr×Nat×Nat)=> [fun wy=>SlT dO 5 74 wy q.2.2.2.2.2.2.2.2.2.2.2.1 q.2.2.2.2.2.2.2.2.2.2.2.2.1 (dS dU q.2.2.2.2.2.2.2.2.2.2.1.lg),bU pZ dM w.heap.size q.2.2.2.2.2.1 q.2.2.2.2.2.2.2.2.2.2.1.fb,bU nG dM w.heap.size q.2.2.2.2.2.2.1 q.2.2.2.2.2.2.2.2.2.2.1.fh,gF 68 q.2.2.2.2.2.2.2.2.2.2.1.fh,bW stEnc 15 99 w.heap.size none sA sn sl,bW dW 2 84 w.heap.size none cA cn cl,bW gW 2 57 w.heap.size none vA vn vl,bW eR 4 171 w.heap.size none eA en el,TxtO w.heap.size none])) U fS2 U U (fun wx hm=>(cK1 sA cA vA eA sn sc cn cc vn vc en ec u3 u4 u5 u6 u7 u8 u9 jI jJ jK jL jM jN sl cl vl el wx (hm.fact 0 U).1 (hm.fact 1 U).1 (hm.fact 2 U).1 (hm.fact 3 U).1 (hm.fact 4 U).1 rS hco hcn wJ hen yY hvn).mono fun _ _ ⟨go,gv,gs,fT,fR,fS,fU,gC,lv,rv,σ,A,n,c,he,hp,hgo,hb,f1,f2,f3,f4,hg⟩=>⟨(go,gv,gs,fT,fR,fS,fU,gC,lv,rv,σ,A,n,c),he,hp,((((hm.gn hg hgo hb).also (gF.lasts2 U) f4).also bU.lasts2 (f3.lower hm.g.size)).also bU.lasts2 (f2.lower hm.g.size)).also (SlT.lasts2 U) f1⟩) ?_
 rintro ⟨go,gv,gs,fT,fR,fS,fU,gC,lv,rv,σ,A,n,c⟩ hp
 dsimp only at hp ⊢
 refine bX U (bX U (bQ (bM ?_)))
 refine pN U U U fun wx hm=>?_
 exact ⟨go,gv,gs,fT,fR,fS,fU,gC,lv,rv,σ,A,n,c,U,hp,(hm.b _ (List.mem_cons_self ..)).1,hm.bl 0,hm.fa 0,hm.fa 1,hm.fa 2,hm.fa 3,hm.g⟩
theorem cL3 (sA cA vA eA:Option Addr) (sn sc cn cc vn vc en ec:Nat) (u3 u4 u5 u6 u7 u8 u9 jI jJ jK jL jM jN:Value) (sl:List St) (cl:List Cs) (vl:List Vh) (el:List Ny) (w:World) (hs:SlT stEnc 15 99 w sA sn sl) (hc:SlT dW 2 84 w cA cn cl) (hv:SlT gW 2 57 w vA vn vl) (he:SlT eR 4 171 w eA en el) (ht:qL w) (rS:∀x∈sl,StOk x) (hco:∀x∈cl,rV x) (hcn:cn<=1000) (wJ:∀x∈el,cG8 x) (hen:en<=20) (yY:sn<=1000000) (hvn:vn<=1000000) (hck:∀wx,w.grownBy wx none->Calls prog 76 #[.agg #[.slice sA sn sc,.slice cA cn cc,.slice vA vn vc,u3,u4,u5,u6,u7,u8,u9,jI,jJ,jK,jL,jM,jN]] wx (fun e w'=>e=.returned (.int .i64 0)/\wx.grownBy w' none)) (hr:nH el):
 Calls prog 9 #[.agg #[.slice sA sn sc,.slice cA cn cc,.slice vA vn vc,u3,u4,u5,u6,u7,u8,u9,jI,jJ,jK,jL,jM,jN],.slice eA en ec] w (fun e w'=>∃σ A n c,e=.returned (.tuple #[.slice A n c,.int .i64 0])/\(pQ (pX vl) (qJ sl) (fun b=>jR cl [b]=0) (el.map Ny.at_) σ/\fZ σ=bY2 (pX vl) (qJ sl) cl el)/\SlT dO 5 74 w' A n (dS dU σ.lg)/\w.grownBy w' none):=by
 refine cS ⟨21,w,none, [68,74]⟩ func9 U ntmps9 U (gM (X:= [bW stEnc 15 99 w.heap.size none sA sn sl,bW dW 2 84 w.heap.size none cA cn cl,bW gW 2 57 w.heap.size none vA vn vl,bW eR 4 171 w.heap.size none eA en el,TxtO w.heap.size none]) (cF hs.old (cF hc.old (cF hv.old (cF he.old (cF ht.old cX))))) (cG bW.lasts (cG bW.lasts (cG bW.lasts (cG bW.lasts (cG TxtO.lasts cY)))))) (bR (fG U U U fun g1=>bX U (bX U (bQ (bR (bB (cU cN1 U (fun _ hm=>hm.blkI 0 U) U U) U (bP U ?_)))))))
 refine gD (γ:=Nat×Nat×Nat×Nat×Nat×Nat×Nat×Nat×Value×Value×Os×Option Addr×Nat×Nat) (val:=(fun (q:Nat×Nat×Nat×Nat×Nat×Nat×Nat×Nat×Value×Value×Os×Option Addr×Nat×Nat)=> .tuple #[.pointer (some ⟨q.1,0,none⟩),.int .i64 0])) (φ:=(fun (q:Nat×Nat×Nat×Nat×Nat×Nat×Nat×Nat×Value×Value×Os×Option Addr×Nat×Nat)=>(pQ (pX vl) (qJ sl) (fun b=>jR cl [b]=0) (el.map Ny.at_) q.2.2.2.2.2.2.2.2.2.2.1/\fZ q.2.2.2.2.2.2.2.2.2.2.1=bY2 (pX vl) (qJ sl) cl el)/\q.2.2.2.2.2.2.2.2.1= .slice q.2.2.2.2.2.2.2.2.2.2.2.1 q.2.2.2.2.2.2.2.2.2.2.2.2.1 q.2.2.2.2.2.2.2.2.2.2.2.2.2)) (K':=fun _=>fun _=>True) (L':=(fun (q:Nat×Nat×Nat×Nat×Nat×Nat×Nat×Nat×Value×Value×Os×Option Addr×Nat×Nat)=> [(q.1,119, [.slice sA sn sc,.slice cA cn cc,.slice vA vn vc,u3,u4,u5,u6,u7,u8,u9,jI,jJ,jK,jL,jM,jN,.map (some q.2.1),.map (some q.2.2.1),.map (some q.2.2.2.1),q.2.2.2.2.2.2.2.2.1,.map (some q.2.2.2.2.1),.map (some q.2.2.2.2.2.1),.map (some q.2.2.2.2.2.2.1),.map (some q.2.2.2.2.2.2.2.1),q.2.2.2.2.2.2.2.2.2.1]),(g1,42, [.slice sA sn sc,.slice cA cn cc,.slice vA vn vc,u3,u4,u5,u6,u7,u8,u9,jI,jJ,jK,jL,jM,jN])])) (O':=fun _=> []) (X':=(fun (q:Nat×Nat×Nat×Nat×Nat×Nat×Nat×Nat×Value×Value×Os×Option Addr×Nat×Nat)=> [fun wy=>SlT dO 5 74 wy q.2.2.2.2.2.2.2.2.2.2.2.1 q.2.2.2.2.2.2.2.2.2.2.2.2.1 (dS dU q.2.2.2.2.2.2.2.2.2.2.1.lg),bU pZ dM w.heap.size q.2.2.2.2.2.1 q.2.2.2.2.2.2.2.2.2.2.1.fb,bU nG dM w.heap.size q.2.2.2.2.2.2.1 q.2.2.2.2.2.2.2.2.2.2.1.fh,gF 68 q.2.2.2.2.2.2.2.2.2.2.1.fh,bW stEnc 15 99 w.heap.size none sA sn sl,bW dW 2 84 w.heap.size none cA cn cl,bW gW 2 57 w.heap.size none vA vn vl,bW eR 4 171 w.heap.size none eA en el,TxtO w.heap.size none])) U eL9 U U (fun wx hm=>(cH2 sA cA vA eA sn sc cn cc vn vc en ec u3 u4 u5 u6 u7 u8 u9 jI jJ jK jL jM jN sl cl vl el wx (hm.fact 0 U).1 (hm.fact 1 U).1 (hm.fact 2 U).1 (hm.fact 3 U).1 (hm.fact 4 U).1 rS hco hcn wJ hen yY hvn (fun wy h=>hck wy (World.grownBy.trans hm.g h)) hr).mono fun _ _ ⟨go,gv,gs,fT,fR,fS,fU,gC,lv,rv,σ,A,n,c,he,hp,hgo,hb,f1,f2,f3,f4,hg⟩=>⟨(go,gv,gs,fT,fR,fS,fU,gC,lv,rv,σ,A,n,c),he,hp,((((hm.gn hg hgo hb).also (gF.lasts2 U) f4).also bU.lasts2 (f3.lower hm.g.size)).also bU.lasts2 (f2.lower hm.g.size)).also (SlT.lasts2 U) f1⟩) ?_
 rintro ⟨go,gv,gs,fT,fR,fS,fU,gC,lv,rv,σ,A,n,c⟩ hp
 dsimp only at hp ⊢
 obtain ⟨vP,rfl⟩:=hp
 refine bP U (bB (cP U U) U (bB (cP U U) U (bX U (bX U (bQ (bH (bR (bP U (bB (gS U U) U (bK 15 (v':= .bool false) U (U) (bQ (jQ U (bN (bD (bR (bP U (bB (dA U) U (dY bS3 U U (eJ dA5 0 U U U (bX U (bX U (bE (bD (bM ?_))))))))))))))))))))))))
 refine pN U U U fun wx hm=>?_
 exact ⟨σ,A,n,c,U,vP,hm.fa 0,hm.g⟩
theorem bX8 (sA cA vA eA:Option Addr) (sn sc cn cc vn vc en ec:Nat) (u3 u4 u5 u6 u7 u8 u9 jI jJ jK jL jM jN:Value) (sl:List St) (cl:List Cs) (vl:List Vh) (el:List Ny) (w:World) (hs:SlT stEnc 15 99 w sA sn sl) (hc:SlT dW 2 84 w cA cn cl) (hv:SlT gW 2 57 w vA vn vl) (he:SlT eR 4 171 w eA en el) (ht:qL w) (rS:∀x∈sl,StOk x) (hco:∀x∈cl,rV x) (hcn:cn<=1000) (wJ:∀x∈el,cG8 x) (hen:en<=20) (yY:sn<=1000000) (hvn:vn<=1000000) (hck:∀wx,w.grownBy wx none->Calls prog 76 #[.agg #[.slice sA sn sc,.slice cA cn cc,.slice vA vn vc,u3,u4,u5,u6,u7,u8,u9,jI,jJ,jK,jL,jM,jN]] wx (fun e w'=>e=.returned (.int .i64 0)/\wx.grownBy w' none)) (hr:nH el):
 Calls prog 10 #[.agg #[.slice sA sn sc,.slice cA cn cc,.slice vA vn vc,u3,u4,u5,u6,u7,u8,u9,jI,jJ,jK,jL,jM,jN],.slice eA en ec] w (fun e w'=>∃σ A n c ks,e=.returned (.tuple #[.slice A n c,.int .i64 0])/\(pQ (pX vl) (qJ sl) (fun b=>jR cl [b]=0) (el.map Ny.at_) σ/\fZ σ=bY2 (pX vl) (qJ sl) cl el)/\(ks.Nodup/\(∀k,k∈ks↔(σ.fh k).isSome=true)/\ks.length=n)/\gF 68 σ.fh w'/\SlT bA0 5 64 w' A n ((nP ks).map fun k=>(σ.fh k).getD vF)/\w.grownBy w' none):=by
 refine cS ⟨22,w,none, [68,74]⟩ func10 U ntmps10 U (gM (X:= [bW stEnc 15 99 w.heap.size none sA sn sl,bW dW 2 84 w.heap.size none cA cn cl,bW gW 2 57 w.heap.size none vA vn vl,bW eR 4 171 w.heap.size none eA en el,TxtO w.heap.size none]) (cF hs.old (cF hc.old (cF hv.old (cF he.old (cF ht.old cX))))) (cG bW.lasts (cG bW.lasts (cG bW.lasts (cG bW.lasts (cG TxtO.lasts cY)))))) (bR (fG U U U fun g1=>bX U (bX U (bQ (bR (bB (cU cN1 U (fun _ hm=>hm.blkI 0 U) U U) U (bP U ?_)))))))
 refine gD (γ:=Nat×Nat×Nat×Nat×Nat×Nat×Nat×Nat×Value×Value×Os×Option Addr×Nat×Nat) (val:=(fun (q:Nat×Nat×Nat×Nat×Nat×Nat×Nat×Nat×Value×Value×Os×Option Addr×Nat×Nat)=> .tuple #[.pointer (some ⟨q.1,0,none⟩),.int .i64 0])) (φ:=(fun (q:Nat×Nat×Nat×Nat×Nat×Nat×Nat×Nat×Value×Value×Os×Option Addr×Nat×Nat)=>(pQ (pX vl) (qJ sl) (fun b=>jR cl [b]=0) (el.map Ny.at_) q.2.2.2.2.2.2.2.2.2.2.1/\fZ q.2.2.2.2.2.2.2.2.2.2.1=bY2 (pX vl) (qJ sl) cl el)/\q.2.2.2.2.2.2.2.2.1= .slice q.2.2.2.2.2.2.2.2.2.2.2.1 q.2.2.2.2.2.2.2.2.2.2.2.2.1 q.2.2.2.2.2.2.2.2.2.2.2.2.2)) (K':=fun _=>fun _=>True) (L':=(fun (q:Nat×Nat×Nat×Nat×Nat×Nat×Nat×Nat×Value×Value×Os×Option Addr×Nat×Nat)=> [(q.1,119, [.slice sA sn sc,.slice cA cn cc,.slice vA vn vc,u3,u4,u5,u6,u7,u8,u9,jI,jJ,jK,jL,jM,jN,.map (some q.2.1),.map (some q.2.2.1),.map (some q.2.2.2.1),q.2.2.2.2.2.2.2.2.1,.map (some q.2.2.2.2.1),.map (some q.2.2.2.2.2.1),.map (some q.2.2.2.2.2.2.1),.map (some q.2.2.2.2.2.2.2.1),q.2.2.2.2.2.2.2.2.2.1]),(g1,42, [.slice sA sn sc,.slice cA cn cc,.slice vA vn vc,u3,u4,u5,u6,u7,u8,u9,jI,jJ,jK,jL,jM,jN])])) (O':=fun _=> []) (X':=(fun (q:Nat×Nat×Nat×Nat×Nat×Nat×Nat×Nat×Value×Value×Os×Option Addr×Nat×Nat)=> [fun wy=>SlT dO 5 74 wy q.2.2.2.2.2.2.2.2.2.2.2.1 q.2.2.2.2.2.2.2.2.2.2.2.2.1 (dS dU q.2.2.2.2.2.2.2.2.2.2.1.lg),bU pZ dM w.heap.size q.2.2.2.2.2.1 q.2.2.2.2.2.2.2.2.2.2.1.fb,bU nG dM w.heap.size q.2.2.2.2.2.2.1 q.2.2.2.2.2.2.2.2.2.2.1.fh,gF 68 q.2.2.2.2.2.2.2.2.2.2.1.fh,bW stEnc 15 99 w.heap.size none sA sn sl,bW dW 2 84 w.heap.size none cA cn cl,bW gW 2 57 w.heap.size none vA vn vl,bW eR 4 171 w.heap.size none eA en el,TxtO w.heap.size none])) U eL9 U U (fun wx hm=>(cH2 sA cA vA eA sn sc cn cc vn vc en ec u3 u4 u5 u6 u7 u8 u9 jI jJ jK jL jM jN sl cl vl el wx (hm.fact 0 U).1 (hm.fact 1 U).1 (hm.fact 2 U).1 (hm.fact 3 U).1 (hm.fact 4 U).1 rS hco hcn wJ hen yY hvn (fun wy h=>hck wy (World.grownBy.trans hm.g h)) hr).mono fun _ _ ⟨go,gv,gs,fT,fR,fS,fU,gC,lv,rv,σ,A,n,c,he,hp,hgo,hb,f1,f2,f3,f4,hg⟩=>⟨(go,gv,gs,fT,fR,fS,fU,gC,lv,rv,σ,A,n,c),he,hp,((((hm.gn hg hgo hb).also (gF.lasts2 U) f4).also bU.lasts2 (f3.lower hm.g.size)).also bU.lasts2 (f2.lower hm.g.size)).also (SlT.lasts2 U) f1⟩) ?_
 rintro ⟨go,gv,gs,fT,fR,fS,fU,gC,lv,rv,σ,A,n,c⟩ hp
 dsimp only at hp ⊢
 obtain ⟨vP,rfl⟩:=hp
 refine bP U (bB (cP U U) U (bB (cP U U) U (bX U (bX U (bQ (bH (bR (bP U (bB (gS U U) U (bK 15 (v':= .bool false) U (U) (bQ (jQ U (bN (bD (bR (bP U (bB (dA U) U (dY qT U U (eJ zC 0 U U U ?_)))))))))))))))))))
 obtain ⟨KL,hKL,hKn⟩:=vP.1.keysH
 refine bS1 (γ:=Value×Nat×List ByteArray) (val:=(fun g=>g.1)) (φ:=(fun g=>g.2.2.Nodup/\(∀k,k∈g.2.2↔(σ.fh k).isSome=true)/\g.2.2.length=g.2.1)) (fun g=>⟨g.1,64,5,g.2.1,((nP g.2.2).map fun k=>(σ.fh k).getD vF).flatMap bA0⟩) U fE2 U U (fun wx hm=>(cM7 σ.fh fU _ KL wx (hm.fact 2 U) hKL (by rw [List.length_map,he.len] at hKn;omega)).mono fun _ _ ⟨v,n5,ks,he,ho,h1,h2,h3,hg⟩=>⟨(v,n5,ks),he,⟨h1,h2,h3⟩,ho,hg⟩) ?_
 rintro ⟨v5,n5,ks⟩ mT
 dsimp only at mT ⊢
 refine dV (R:=∃A cc,v5= .slice A n5 cc) (fun wx hm=>dR (hm.ownI 0 U)) ?_
 rintro ⟨A5,c5,rfl⟩
 refine bX U (bX U (bQ (bM ?_)))
 refine pN U U U fun wx hm=>?_
 exact ⟨σ,A5,n5,c5,ks,U,vP,mT,hm.fa 3,SlT.ofOwn eP5 (hm.ownI 0 U) (by rw [List.length_map,uC];exact mT.2.2),hm.g⟩
theorem cI6:bB1 ⟨⟨#[115]⟩, [0,9,0,0,0,0,0,0,0,0,0,0,0,0]⟩ 8=true/\bB8 ⟨⟨#[115]⟩, [0,9,0,0,0,0,0,0,0,0,0,0,0,0]⟩ 8=0:=⟨by kernel_rfl,by kernel_rfl⟩
theorem eO5 (w:World):Calls prog 39 #[.agg #[.string ⟨#[115]⟩,.int .i64 0,.int .i64 9,.int .i64 0,.int .i64 0,.int .i64 0,.int .i64 0,.int .i64 0,.int .i64 0,.int .i64 0,.int .i64 0,.int .i64 0,.int .i64 0,.int .i64 0,.int .i64 0],.int .i64 8] w (eN3 w true 0):=by
 have hs:∀h∈ [0,9,0,0,0,0,0,0,0,0,0,0,0,(0:Int)],0<=h/\h<=9:=by decide
 have h:=cV6 ⟨#[115]⟩ [0,9,0,0,0,0,0,0,0,0,0,0,0,0] 8 w ⟨rfl,(by decide:(⟨#[115]⟩:ByteArray).size<=1000000),fun h hh=>by have:=hs h hh;omega⟩ (fun h hh=>by have:=hs h hh;omega)
 rw [cI6.1,cI6.2] at h
 exact h
theorem cC9 (w:World):Calls prog 13 #[] w (fun e w'=>e=.returned (.bool true)/\w.grownBy w' none):=by
 refine cS ⟨15,w,none, []⟩ func13 U ntmps13 U (gM (X:= []) cX cY) (bR (bX U (bQ (bR (bB (dJ (cs:= [.int .i64 0,.int .i64 9]) U (by kernel_rfl)) U (bB (dJ (cs:= [.int .i64 0,.int .i64 9,.int .i64 0,.int .i64 0,.int .i64 0,.int .i64 0,.int .i64 0,.int .i64 0,.int .i64 0,.int .i64 0,.int .i64 0,.int .i64 0,.int .i64 0,.int .i64 0]) U (by kernel_rfl)) U (bB (dJ (cs:= [.string ⟨#[115]⟩,.int .i64 0,.int .i64 9,.int .i64 0,.int .i64 0,.int .i64 0,.int .i64 0,.int .i64 0,.int .i64 0,.int .i64 0,.int .i64 0,.int .i64 0,.int .i64 0,.int .i64 0,.int .i64 0]) U (by kernel_rfl)) U (cH U fG2 U U (fun wx hm=>(eO5 wx)) (bP U (bB (cP U U) U (bB (cP U U) U (bX U (bX U (bQ (bR (bP U (bB (eL U U) U (bK 11 (v':= .bool true) U (fU3 (by decide)) (bP U (eE U (bP U (mN U U (bX U (bQ (bM ?_)))))))))))))))))))))))))
 exact bJ U U fun wx hm=>⟨U,hm.g⟩
open Go.RowKit Go.ChangeShapes
theorem dP0 {P:Program} {w:World} {n:String} {g:Nat} {cs:Array Value} (hg:P.globalNamed n=some g) (h:w.var? P n=some cs):∃T f,w.heap[g]?=some (.cells cs T f):=by
 unfold World.var? at h
 rw [hg] at h
 simp only [Option.bind_some] at h
 split at h
 ·rename_i c T f he
  cases h
  exact ⟨T,f,he⟩
 ·cases h
theorem cO7: "*"++ "errors.errorString"= "*errors.errorString":=by decide
theorem dB2 (u:TypeId) (h:prog.typeName? 3 u=some "*errors.errorString"):u=386:=
 typeName_ptr_named (nm:= "errors.errorString") (by rw [cO7];kernel_rfl) (by kernel_rfl) (by decide) u (by rw [cO7];exact h)
theorem eD3 {l:List (String×DataW Unit)} {W:World} (x1 x2:List UInt8) (hL:laidMet prog l W) (hS:W.ShapedOpen prog)
 (h1:l.filter (fun x=>x.1== "internal/strconv.uint64pow10")= [("internal/strconv.uint64pow10",Lib.tabData .u64 Lib.pow10Tab)])
 (h2:l.filter (fun x=>x.1== "strconv.ErrSyntax")= [("strconv.ErrSyntax",.iface "*errors.errorString" (.ptr (.agg [.lit (.string x1)])))])
 (h3:l.filter (fun x=>x.1== "strconv.ErrRange")= [("strconv.ErrRange",.iface "*errors.errorString" (.ptr (.agg [.lit (.string x2)])))]):qL W:=by
 have c1:=hL.filter (fun x=>x.1== "internal/strconv.uint64pow10")
 have c2:=hL.filter (fun x=>x.1== "strconv.ErrSyntax")
 have c3:=hL.filter (fun x=>x.1== "strconv.ErrRange")
 rw [h1] at c1
 rw [h2] at c2
 rw [h3] at c3
 refine ⟨?_,?_,?_,?_⟩
 ·have hg:prog.globalNamed "internal/strconv.uint64pow10"=some 1:=by kernel_rfl
  have h:=Lib.tabIs_of_head (t:=351) (e:=291) hg (by kernel_rfl) Tryz.underlying351 Tryz.underlying291 (by kernel_rfl) (by kernel_rfl) c1
  exact dP0 hg h
 ·obtain ⟨m,hm⟩:=cell_of_shapedOpen_int (P:=prog) (g:=0) (t:=3) (zero:=#[.int .i64 0]) hS (of_decide_eq_true (by kernel_rfl)) (by kernel_rfl) rfl (by kernel_rfl) (by kernel_rfl) Tryz.underlying3
  unfold World.cell? at hm
  split at hm
  ·rename_i c T f he
   exact ⟨c,T,f,m,he,by simpa using hm⟩
  ·cases hm
 ·have hg:prog.globalNamed "strconv.ErrSyntax"=some 6:=by kernel_rfl
  obtain ⟨a,s,hv,_⟩:=laid_sentinel c2 hg (by kernel_rfl) Tryz.underlying341 dB2 Tryz.underlying386 Tryz.underlying388 rfl rfl Tryz.underlying9 (by kernel_rfl) (by kernel_rfl)
  obtain ⟨T,f,h⟩:=dP0 hg hv
  exact ⟨T,f,_,_,h⟩
 ·have hg:prog.globalNamed "strconv.ErrRange"=some 7:=by kernel_rfl
  obtain ⟨a,s,hv,_⟩:=laid_sentinel c3 hg (by kernel_rfl) Tryz.underlying341 dB2 Tryz.underlying386 Tryz.underlying388 rfl rfl Tryz.underlying9 (by kernel_rfl) (by kernel_rfl)
  obtain ⟨T,f,h⟩:=dP0 hg hv
  exact ⟨T,f,_,_,h⟩
theorem eB0 {w w1 wx:World} {sb:Nat} (h:qL w) (hg1:w.grownBy w1 none) (hsb:w.heap.size<=sb) (hg:w1.grownBy wx (some sb)):TxtO w1.heap.size (some sb) wx:=by
 have ne:∀k,isG k->¬some sb=some k:=fun k hk e=>by
  have e2:sb=k:=by injection e
  have:=h.lt hk
  omega
 have h1:=h.same fun k hk=>hg1.block k (h.lt hk) (fun e=>by cases e)
 exact ⟨h1.same fun k hk=>hg.block k (h1.lt hk) (fun e=>ne k hk e.symm),fun k hk=>⟨h1.lt hk,ne k hk⟩⟩
theorem TxtO.heapH {N:Nat} {row:Option Nat} {w:World} (h:TxtO N row w):TxtO w.heap.size row w:=⟨h.1,fun k hk=>⟨h.1.lt hk,(h.2 k hk).2⟩⟩
theorem eQ2:∀s∈sl2,s.key≠⟨#[]⟩:=by
 intro x hx
 unfold sl2 at hx
 simp only [List.mem_cons,List.not_mem_nil,or_false] at hx
 rcases hx with rfl|rfl <;> (intro h;cases h)
theorem fR0 {l:List Ny} (h:nH l):∀x∈l,cG8 x:=fun x hx=>by
 have h1:=h.fine x hx
 have h2:=pC.1 h1.1
 have h3:=h1.2.2.2.1
 exact ⟨by omega,by omega⟩
theorem fP0 {σ:Os} {sl:List St} {cl:List Cs} {vl:List Vh} {l:List Int} (h:uX sl cl vl l σ) {k:ByteArray} {y:Hg} (hy:σ.fh k=some y):y.legs.length=y.n/\y.n<=20:=⟨(h.li.hv k y hy).2.1.2.2.2,(h.li.hv k y hy).2.1.2.2.1⟩
theorem bU2 (a0:Option Addr) (len0 cap0:Nat) (z0:List Int) (w:World) (hR:RowIn w a0 len0 cap0 z0) (htx:qL w):
 Calls prog 4 #[.slice a0 len0 cap0] w fun e w'=>e=.returned (.bool true)/\Below w.heap.size w w':=by
 refine cS ⟨109,w,none, []⟩ func4 U ntmps4 U (gM (X:= []) cX cY) (bR (bX U (bQ (bR (bP U (bB (dJ (cs:= [.slice a0 len0 cap0,.int .i64 0]) U (by kernel_rfl)) U (fG U U U fun sb=>bX U (bQ (bR (bP U ?_))))))))))
 refine eW6 [3,57,64,68,74,84,99,142,171,219,254,258,260,263] hR 0 U fun w1 B hg1 hsb=>?_
 refine bH8 (Y:=TxtO w1.heap.size (some sb)) (TxtO.lasts) (fun wx hm=>eB0 htx hg1 hsb hm.g) ?_
 refine nQ (γ:=Option Addr×Option Addr×Option Addr×Nat×Nat×Nat×List Cs×List Vh×Option Addr×Option Addr×Option Addr×Option Addr×Option Addr×Nat×Nat×Nat×Nat×Nat×Nat×Nat×Nat×Nat×Nat×Int×Int×Int×Int×Int×Int×Int) (val:=(fun g=> .agg #[.slice g.1 2 g.2.2.2.1,.slice g.2.1 4 g.2.2.2.2.1,.slice g.2.2.1 3 g.2.2.2.2.2.1,.slice none 0 0,.slice g.2.2.2.2.2.2.2.2.1 g.2.2.2.2.2.2.2.2.2.2.2.2.2.1 g.2.2.2.2.2.2.2.2.2.2.2.2.2.2.1,.slice g.2.2.2.2.2.2.2.2.2.1 g.2.2.2.2.2.2.2.2.2.2.2.2.2.2.2.1 g.2.2.2.2.2.2.2.2.2.2.2.2.2.2.2.2.1,.slice g.2.2.2.2.2.2.2.2.2.2.1 g.2.2.2.2.2.2.2.2.2.2.2.2.2.2.2.2.2.1 g.2.2.2.2.2.2.2.2.2.2.2.2.2.2.2.2.2.2.1,.slice g.2.2.2.2.2.2.2.2.2.2.2.1 g.2.2.2.2.2.2.2.2.2.2.2.2.2.2.2.2.2.2.2.1 g.2.2.2.2.2.2.2.2.2.2.2.2.2.2.2.2.2.2.2.2.1,.slice g.2.2.2.2.2.2.2.2.2.2.2.2.1 g.2.2.2.2.2.2.2.2.2.2.2.2.2.2.2.2.2.2.2.2.2.1 g.2.2.2.2.2.2.2.2.2.2.2.2.2.2.2.2.2.2.2.2.2.2.1,.int .i64 g.2.2.2.2.2.2.2.2.2.2.2.2.2.2.2.2.2.2.2.2.2.2.2.1,.int .i64 g.2.2.2.2.2.2.2.2.2.2.2.2.2.2.2.2.2.2.2.2.2.2.2.2.1,.int .i64 g.2.2.2.2.2.2.2.2.2.2.2.2.2.2.2.2.2.2.2.2.2.2.2.2.2.1,.int .i64 g.2.2.2.2.2.2.2.2.2.2.2.2.2.2.2.2.2.2.2.2.2.2.2.2.2.2.1,.int .i64 g.2.2.2.2.2.2.2.2.2.2.2.2.2.2.2.2.2.2.2.2.2.2.2.2.2.2.2.1,.int .i64 g.2.2.2.2.2.2.2.2.2.2.2.2.2.2.2.2.2.2.2.2.2.2.2.2.2.2.2.2.1,.int .i64 g.2.2.2.2.2.2.2.2.2.2.2.2.2.2.2.2.2.2.2.2.2.2.2.2.2.2.2.2.2])) (φ:=(fun g=>g.2.2.2.2.2.2.1.length=4/\(∀x∈g.2.2.2.2.2.2.1,rV x)/\jC g.2.2.2.2.2.2.1=0/\Vh3 g.2.2.2.2.2.2.1 3 g.2.2.2.2.2.2.2.1)) (Y:=(fun g=>fun wy=>SlT stEnc 15 99 wy g.1 2 sl2/\SlT dW 2 84 wy g.2.1 4 g.2.2.2.2.2.2.1/\SlT gW 2 57 wy g.2.2.1 3 g.2.2.2.2.2.2.2.1/\bI7 (.slice g.2.2.2.2.2.2.2.2.1 g.2.2.2.2.2.2.2.2.2.2.2.2.2.1 g.2.2.2.2.2.2.2.2.2.2.2.2.2.2.1) (.slice g.2.2.2.2.2.2.2.2.2.1 g.2.2.2.2.2.2.2.2.2.2.2.2.2.2.2.1 g.2.2.2.2.2.2.2.2.2.2.2.2.2.2.2.2.1) (.slice g.2.2.2.2.2.2.2.2.2.2.1 g.2.2.2.2.2.2.2.2.2.2.2.2.2.2.2.2.2.1 g.2.2.2.2.2.2.2.2.2.2.2.2.2.2.2.2.2.2.1) (.slice g.2.2.2.2.2.2.2.2.2.2.2.1 g.2.2.2.2.2.2.2.2.2.2.2.2.2.2.2.2.2.2.2.1 g.2.2.2.2.2.2.2.2.2.2.2.2.2.2.2.2.2.2.2.2.1) (.slice g.2.2.2.2.2.2.2.2.2.2.2.2.1 g.2.2.2.2.2.2.2.2.2.2.2.2.2.2.2.2.2.2.2.2.2.1 g.2.2.2.2.2.2.2.2.2.2.2.2.2.2.2.2.2.2.2.2.2.2.1) (.int .i64 g.2.2.2.2.2.2.2.2.2.2.2.2.2.2.2.2.2.2.2.2.2.2.2.1) (.int .i64 g.2.2.2.2.2.2.2.2.2.2.2.2.2.2.2.2.2.2.2.2.2.2.2.2.1) (.int .i64 g.2.2.2.2.2.2.2.2.2.2.2.2.2.2.2.2.2.2.2.2.2.2.2.2.2.1) (.int .i64 g.2.2.2.2.2.2.2.2.2.2.2.2.2.2.2.2.2.2.2.2.2.2.2.2.2.2.1) (.int .i64 g.2.2.2.2.2.2.2.2.2.2.2.2.2.2.2.2.2.2.2.2.2.2.2.2.2.2.2.1) (.int .i64 g.2.2.2.2.2.2.2.2.2.2.2.2.2.2.2.2.2.2.2.2.2.2.2.2.2.2.2.2.1) (.int .i64 g.2.2.2.2.2.2.2.2.2.2.2.2.2.2.2.2.2.2.2.2.2.2.2.2.2.2.2.2.2) wy)) (m':=7000) U cb6 U U U U (fun wx hm=>(cI0 wx B sb _ hm.k (by omega)).mono fun _ _ ⟨sA,cA,vA,sc,cc,vc,cl,vl,yJ,yK,yL,yM,yN,ran,rac,wP,rbc,wQ,rcc,wR,rdc,ren,rec,da,db,dc,dd,de,df,dg,he,hp,h1,h2,h3,h4,hS,hg⟩=>⟨(sA,cA,vA,sc,cc,vc,cl,vl,yJ,yK,yL,yM,yN,ran,rac,wP,rbc,wQ,rcc,wR,rdc,ren,rec,da,db,dc,dd,de,df,dg),he,hp,hS,hg,h1,h2,h3,h4⟩) (fun _=>(SlT.lasts2 U).and_ ((SlT.lasts2 U).and_ ((SlT.lasts2 U).and_ (bI7.lasts2 U U U U U U)))) ?_
 rintro ⟨sA,cA,vA,sc,cc,vc,cl,vl,yJ,yK,yL,yM,yN,ran,rac,wP,rbc,wQ,rcc,wR,rdc,ren,rec,da,db,dc,dd,de,df,dg⟩ hho
 dsimp only at hho ⊢
 obtain ⟨hcl4,hco,hcz,hv3⟩:=hho
 have hfz:=dN5 hcz hv3
 have bZ1:=eS6 hv3
 have hvl:=hv3.1
 refine bP U (bP U (dN (γ:=Int) (val:=fun v=> .int .i64 v) (φ:=fun v=>4<=v/\(v<=20∨v=4)) U cb8 U U U U (fun wx hm=>(cN2 _ _ wx B sb _ hm.k (by omega) (by omega) (by omega) (by omega) (by omega))) fun q hq=>?_))
 obtain ⟨q2,hq2⟩:∃q2:Nat,q=(q2:Int):=⟨q.toNat,by omega⟩
 have hq20:q2<=20:=by omega
 subst hq2
 refine nQ (γ:=Option Addr×Nat×Nat×List Ny) (val:=(fun g=> .slice g.1 g.2.1 g.2.2.1)) (φ:=(fun g=>(∀x∈g.2.2.2,uH x)/\nH g.2.2.2/\g.2.1<=q2/\g.2.2.2.length=g.2.1)) (Y:=(fun g=>fun wy=>SlT eR 4 171 wy g.1 g.2.1 g.2.2.2)) (m':=7000+1+2000) U cb7 U U U U (fun wx hm=>(bE6 q2 wx B sb _ hm.k (by omega) (TxtO.heapH (hm.fact 1 U)) hq20).mono fun _ _ ⟨A,n,c,l,he,h1,h2,h3,h4,hS,hg⟩=>⟨(A,n,c,l),he,⟨h2,h3,h4,h1.len⟩,hS,hg,h1⟩) (fun _=>SlT.lasts2 U) ?_
 rintro ⟨eA,en,ec,el⟩ hen
 dsimp only at hen ⊢
 obtain ⟨hsz,hny,hen2,hlen⟩:=hen
 have wJ:=fR0 hny
 obtain ⟨htm,hup⟩:=dY8 hny
 refine dL fH1 U fun g1=>kE (cs':= [.slice sA 2 sc,.slice cA 4 cc,.slice vA 3 vc,.slice none 0 0,.slice yJ ran rac,.slice yK wP rbc,.slice yL wQ rcc,.slice yM wR rdc,.slice yN ren rec,.int .i64 da,.int .i64 db,.int .i64 dc,.int .i64 dd,.int .i64 de,.int .i64 df,.int .i64 dg]) 0 cN1 U U U U (bX U (bQ (bR (bB (cU cN1 U (fun _ hm=>hm.blkI 0 U) U U) U (bP U ?_)))))
 refine gY (γ:=Os×List Ev×Option Addr×Nat×Nat) (val:=(fun g=> .tuple #[.slice g.2.2.1 g.2.2.2.1 g.2.2.2.2,.int .i64 0])) (φ:=(fun g=>(pQ (pX vl) (qJ sl2) (fun b=>jR cl [b]=0) (el.map Ny.at_) g.1/\fZ g.1=bY2 (pX vl) (qJ sl2) cl el)/\g.2.1=dS dU g.1.lg/\g.2.1.length=g.2.2.2.1)) (Y:=(fun g=>fun wy=>SlT dO 5 74 wy g.2.2.1 g.2.2.2.1 g.2.1)) U cb9 U U (fun wx hm=>(cL3 sA cA vA eA 2 sc 4 cc 3 vc en ec (.slice none 0 0) (.slice yJ ran rac) (.slice yK wP rbc) (.slice yL wQ rcc) (.slice yM wR rdc) (.slice yN ren rec) (.int .i64 da) (.int .i64 db) (.int .i64 dc) (.int .i64 dd) (.int .i64 de) (.int .i64 df) (.int .i64 dg) sl2 cl vl el wx (hm.fact 1 U).1 (hm.fact 1 U).2.1 (hm.fact 1 U).2.2.1 (hm.fact 0 U) (hm.fact 2 U).1 bH6 hco (by decide) wJ (by omega) (by decide) (by decide) (zS sA cA vA 2 sc 4 cc 3 vc sl2 cl vl (.slice yJ ran rac) (.slice yK wP rbc) (.slice yL wQ rcc) (.slice yM wR rdc) (.slice yN ren rec) (.int .i64 da) (.int .i64 db) (.int .i64 dc) (.int .i64 dd) (.int .i64 de) (.int .i64 df) (.int .i64 dg) wx (hm.fact 1 U).1 (hm.fact 1 U).2.1 (hm.fact 1 U).2.2.1 bH6 hco bZ1 (by decide) (by decide) (by decide) hfz (hm.fact 1 U).2.2.2) hny).mono fun _ _ ⟨σ,A,n,c,he,hr,hs,hg⟩=>⟨(σ,dS dU σ.lg,A,n,c),he,⟨hr,U,hs.len⟩,hg,hs⟩) (fun _=>SlT.lasts2 U) ?_
 rintro ⟨σ1,E,gA,gn,gc⟩ hlg
 dsimp only at hlg ⊢
 refine bP U (bB (cP U U) U (bB (cP U U) U (bX U (bX U (bQ (bR (bB (cU cN1 U (fun _ hm=>hm.blkI 0 U) U U) U (bP U ?_))))))))
 refine gY (γ:=Os×Option Addr×Nat×Nat×List ByteArray) (val:=(fun g=> .tuple #[.slice g.2.1 g.2.2.1 g.2.2.2.1,.int .i64 0])) (φ:=(fun g=>(pQ (pX vl) (qJ sl2) (fun b=>jR cl [b]=0) (el.map Ny.at_) g.1/\fZ g.1=bY2 (pX vl) (qJ sl2) cl el)/\(g.2.2.2.2.Nodup/\(∀k,k∈g.2.2.2.2↔(g.1.fh k).isSome=true)/\g.2.2.2.2.length=g.2.2.1))) (Y:=(fun g=>fun wy=>gF 68 g.1.fh wy/\SlT bA0 5 64 wy g.2.1 g.2.2.1 (cM6 g.1 g.2.2.2.2))) U fU1 U U (fun wx hm=>(bX8 sA cA vA eA 2 sc 4 cc 3 vc en ec (.slice none 0 0) (.slice yJ ran rac) (.slice yK wP rbc) (.slice yL wQ rcc) (.slice yM wR rdc) (.slice yN ren rec) (.int .i64 da) (.int .i64 db) (.int .i64 dc) (.int .i64 dd) (.int .i64 de) (.int .i64 df) (.int .i64 dg) sl2 cl vl el wx (hm.fact 2 U).1 (hm.fact 2 U).2.1 (hm.fact 2 U).2.2.1 (hm.fact 1 U) (hm.fact 3 U).1 bH6 hco (by decide) wJ (by omega) (by decide) (by decide) (zS sA cA vA 2 sc 4 cc 3 vc sl2 cl vl (.slice yJ ran rac) (.slice yK wP rbc) (.slice yL wQ rcc) (.slice yM wR rdc) (.slice yN ren rec) (.int .i64 da) (.int .i64 db) (.int .i64 dc) (.int .i64 dd) (.int .i64 de) (.int .i64 df) (.int .i64 dg) wx (hm.fact 2 U).1 (hm.fact 2 U).2.1 (hm.fact 2 U).2.2.1 bH6 hco bZ1 (by decide) (by decide) (by decide) hfz (hm.fact 2 U).2.2.2) hny).mono fun _ _ ⟨σ,A,n,c,ks,he,hr,hk,hf,hs,hg⟩=>⟨(σ,A,n,c,ks),he,⟨hr,hk⟩,hg,hf,hs⟩) (fun _=>(gF.lasts2 U).and_ (SlT.lasts2 U)) ?_
 rintro ⟨σ,hA,hn,hc,ks⟩ hhr
 dsimp only at hhr ⊢
 obtain ⟨⟨hr1,ha1⟩,hE,hEn⟩:=hlg
 obtain ⟨⟨hr2,ha2⟩,hnd,hks,hkn⟩:=hhr
 have hlgs:σ1.lg=σ.lg:=(congrArg As.lg (ha1.trans ha2.symm):(fZ σ1).lg=(fZ σ).lg)
 rw [hlgs] at hE
 have hrl:uX sl2 cl vl (el.map Ny.at_) σ:=⟨hr2,htm,hup,by rw [List.length_map];omega,eQ2⟩
 have hEl:E.length<=40:=by rw [hE];exact hrl.len
 have hEok:∀x∈E,cE8 x:=by rw [hE];exact hrl.evOk (fun v hv=>(bZ1 v hv).1) (fun s hs=>(bH6 s hs).2.1)
 have hn20:hn<=20:=by have:=hrl.hires hnd hks;omega
 obtain ⟨S,hS⟩:∃z,z=nP ks:=⟨_,rfl⟩
 refine bP U (bB (cP U U) U (bB (cP U U) U (bX U (bX U (bQ (bH (bR (bP U (bB (gS U U) U (bK 44 (v':= .bool false) U (fU3 (by decide)) (bP U (eE U (bP U (eE U (bB (gS U U) U (bK 47 (v':= .bool false) U (fU3 (by decide)) (nR U U (bQ (jQ U (bN (bD (bR (bX U (bQ (bH (bR ?_))))))))))))))))))))))))))
 refine bP U (bB (dT fC0 U) U (bP U (bQ (bO ?_))))
 have hnk:(vl.map Vh.key).Nodup:=by rw [hv3.2.1];decide
 refine dX (γ:=Nat×Int) (fun (gq2:Nat×Int)=>(gq2.1<=hn/\(0<=gq2.2/\gq2.2<=20 *gq2.1))/\gq2.2=nK σ.fh (S.take gq2.1)) (fun (gq2:Nat×Int)=> [(4,.pointer (some ⟨g1,0,none⟩)),(6,.slice gA gn gc),(10,.int .i64 gq2.2),(49,.slice hA hn hc),(50,.int .i64 ((hn:Nat):Int)),(51,.int .i64 ((gq2.1:Nat):Int))]) (fun (gq2:Nat×Int)=>fun w=>eU 25 w B sb (7000+1+2000)) (fun (gq2:Nat×Int)=> [(g1,42, [.slice sA 2 sc,.slice cA 4 cc,.slice vA 3 vc,.slice none 0 0,.slice yJ ran rac,.slice yK wP rbc,.slice yL wQ rcc,.slice yM wR rdc,.slice yN ren rec,.int .i64 da,.int .i64 db,.int .i64 dc,.int .i64 dd,.int .i64 de,.int .i64 df,.int .i64 dg])]) (fun (gq2:Nat×Int)=> []) (fun (gq2:Nat×Int)=> [fun wy=>gF 68 σ.fh wy/\SlT bA0 5 64 wy hA hn (cM6 σ ks),fun wy=>SlT dO 5 74 wy gA gn E,fun wy=>SlT eR 4 171 wy eA en el,fun wy=>SlT stEnc 15 99 wy sA 2 sl2/\SlT dW 2 84 wy cA 4 cl/\SlT gW 2 57 wy vA 3 vl/\bI7 (.slice yJ ran rac) (.slice yK wP rbc) (.slice yL wQ rcc) (.slice yM wR rdc) (.slice yN ren rec) (.int .i64 da) (.int .i64 db) (.int .i64 dc) (.int .i64 dd) (.int .i64 de) (.int .i64 df) (.int .i64 dg) wy,TxtO w1.heap.size (some sb)]) (fun (gq2:Nat×Int)=>hn - gq2.1) (0,0) ⟨⟨Nat.zero_le _,by dsimp only;omega,by dsimp only;omega⟩,U⟩ ⟨U,U,U,U,U,U,trivial⟩ (fun _ hm=>hm.pick [0] [] [0,1,2,3,4] U U) ?_
 rintro ⟨jv,acc⟩ cB
 replace cB:(jv<=hn/\(0<=acc/\acc<=20 *jv))/\acc=nK σ.fh (S.take jv):=cB
 dsimp only
 refine bR ?_
 obtain ⟨⟨hj0,hab1,hab2⟩,hac⟩:=cB
 refine bB (dE U U) U (bQ (bH ?_))
 refine cC U (fun hj=>?_) (fun hj=>?_)
 ·refine bN (bD (bH (bO (bR ?_))))
  obtain ⟨y,hy⟩:∃y,(cM6 σ ks)[jv]?=some y:=⟨_,fW3 (by unfold cM6;rw [List.length_map,uC];omega)⟩
  obtain ⟨k5,hk5,hfk⟩:=eQ5 hks hy
  rw [<-hS] at hk5
  obtain ⟨hll,hl20⟩:=fP0 hrl hfk
  obtain ⟨hhe,hho,_⟩:=hrl.li.hv _ _ hfk
  have hti:=hrl.tie hfk
  have hin:=hrl.inlog hfk
  obtain ⟨k0,d0,f0,t0,lA,ln,lc,hls⟩:=y
  dsimp only at hll hl20 hti hin
  refine dV (R:=∃hb hof,hA=some ⟨hb,hof,none⟩) (fun wx hm=>by obtain ⟨b,off,hA,_,_⟩:=SlT.get (hm.fact 0 rfl).2 (by omega);exact ⟨b,off,hA⟩) ?_
  rintro ⟨hb,hof,rfl⟩
  refine bH8 (Y:=fun wy=>SlT lgEnc 9 68 wy lA ln hls) (SlT.lasts2 U) (fun wx hm=>(hm.fact 0 U).1 _ _ hfk) ?_
  refine bB (bV (j:=jv) fC0 U U (by omega)) U (bB (dP (vs:= [.string k0,.string d0,.int .i64 f0,.int .i64 t0,.slice lA ln lc]) nF U (fun _ hm=>(hm.fact 1 U).2) hy U U) U (bR1 (vs:= [.string k0,.string d0,.int .i64 f0,.int .i64 t0,.slice lA ln lc]) (cs':= [.string k0,.string d0,.int .i64 f0,.int .i64 t0,.slice lA ln lc]) bZ4 U nF (fun _=>U) (fun _=>U) U U U U fun g2=>bQ (bR (bB (cU nF U (fun _ hm=>hm.blkI 0 U) U U) U ?_))))
  refine gY (γ:=Option Addr×Nat×Nat) (val:=(fun g=> .tuple #[.slice g.1 g.2.1 g.2.2,.int .i64 0])) (φ:=(fun g=>g.2.1<=40/\(dS dU (nC hls)).length=g.2.1)) (Y:=(fun g=>fun wy=>SlT dO 5 74 wy g.1 g.2.1 (dS dU (nC hls)))) U fW1 U U (fun wx hm=>(cK6 k0 d0 f0 t0 hls lA ln lc wx (hm.fact 0 U) hho.1 hl20 hhe hti).mono fun _ _ ⟨A,n,c,he,hs,hn,hg⟩=>⟨(A,n,c),he,⟨hn,hs.len⟩,hg,hs⟩) (fun _=>SlT.lasts2 U) ?_
  rintro ⟨xA,xn,xc⟩ xM
  dsimp only at xM ⊢
  obtain ⟨hxn,hxl⟩:=xM
  refine bP U (bB (cP U U) U (bB (cP U U) U (bX U (bX U (bQ (bH (bR (bP U (bB (dT jW U) U (bP U (bE (bD (bO ?_)))))))))))))
  refine dX (γ:=Nat) (fun (kv:Nat)=>kv<=xn) (fun (kv:Nat)=> [(4,.pointer (some ⟨g1,0,none⟩)),(6,.slice gA gn gc),(10,.int .i64 acc),(12,.pointer (some ⟨g2,0,none⟩)),(14,.int .i64 0),(49,.slice (some ⟨hb,hof,none⟩) hn hc),(50,.int .i64 ((hn:Nat):Int)),(51,.int .i64 ((jv:Nat):Int)),(60,.slice xA xn xc),(61,.int .i64 ((xn:Nat):Int)),(62,.int .i64 ((kv:Nat):Int))]) (fun (kv:Nat)=>fun w=>eU 25 w B sb (7000+1+2000)) (fun (kv:Nat)=> [(g2,64, [.string k0,.string d0,.int .i64 f0,.int .i64 t0,.slice lA ln lc]),(g1,42, [.slice sA 2 sc,.slice cA 4 cc,.slice vA 3 vc,.slice none 0 0,.slice yJ ran rac,.slice yK wP rbc,.slice yL wQ rcc,.slice yM wR rdc,.slice yN ren rec,.int .i64 da,.int .i64 db,.int .i64 dc,.int .i64 dd,.int .i64 de,.int .i64 df,.int .i64 dg])]) (fun (kv:Nat)=> []) (fun (kv:Nat)=> [fun wy=>SlT dO 5 74 wy xA xn (dS dU (nC hls)),fun wy=>SlT lgEnc 9 68 wy lA ln hls,fun wy=>gF 68 σ.fh wy/\SlT bA0 5 64 wy (some ⟨hb,hof,none⟩) hn (cM6 σ ks),fun wy=>SlT dO 5 74 wy gA gn E,fun wy=>SlT eR 4 171 wy eA en el,fun wy=>SlT stEnc 15 99 wy sA 2 sl2/\SlT dW 2 84 wy cA 4 cl/\SlT gW 2 57 wy vA 3 vl/\bI7 (.slice yJ ran rac) (.slice yK wP rbc) (.slice yL wQ rcc) (.slice yM wR rdc) (.slice yN ren rec) (.int .i64 da) (.int .i64 db) (.int .i64 dc) (.int .i64 dd) (.int .i64 de) (.int .i64 df) (.int .i64 dg) wy,TxtO w1.heap.size (some sb)]) (fun (kv:Nat)=>xn - kv) 0 (Nat.zero_le _) ⟨U,U,U,U,U,U,U,U,U,U,U,trivial⟩ (fun _ hm=>hm.pick [0,1] [] [0,1,2,3,4,5,6] U U) ?_
  intro kv cB
  replace cB:kv<=xn:=cB
  refine bR (bB (dE U U) U (bQ (bH ?_)))
  refine cC U (fun hkv=>?_) (fun hkv=>?_)
  ·refine bN (bD (bH (bO (bR ?_))))
   obtain ⟨z,hz⟩:∃z,(dS dU (nC hls))[kv]?=some z:=⟨_,fW3 (by omega)⟩
   have hzl:z∈E:=by
    rw [hE]
    exact xD.2 (hin z (xD.1 (fX3 hz)))
   obtain ⟨e0,e1,e2,e3,e4⟩:=z
   refine dV (R:=∃xb xof,xA=some ⟨xb,xof,none⟩) (fun wx hm=>by obtain ⟨b,off,hA,_,_⟩:=SlT.get (hm.fact 0 rfl) (by omega);exact ⟨b,off,hA⟩) ?_
   rintro ⟨xb,xof,rfl⟩
   refine bB (bV (j:=kv) jW U U (by omega)) U (bB (dP (vs:= [.int .i64 e0,.string e1,.string e2,.int .i64 e3,.string e4]) fJ U (fun _ hm=>(hm.fact 0 U)) hz U U) U (bR1 (vs:= [.int .i64 e0,.string e1,.string e2,.int .i64 e3,.string e4]) (cs':= [.int .i64 e0,.string e1,.string e2,.int .i64 e3,.string e4]) bX7 U fJ (fun _=>U) (fun _=>U) U U U U fun g3=>bQ (bR (bP U (bB (cU fJ U (fun _ hm=>hm.blkI 0 U) U U) U (cH U fX1 U U (fun wx hm=>(cR5 E gA gn gc e0 e1 e2 e3 e4 wx (hm.fact 3 U) (by omega) hzl)) (bB (cE U) U (bK 69 (v':= .bool false) U (fU3 (by decide)) (bQ (jQ U (bN (bG (bD (bI (gO U U (bP U (bE ?_)))))))))))))))))
   exact cN (kv+1) (by omega) (by omega) ⟨U,U,U,U,U,U,U,U,U,U,(cR (by omega)),trivial⟩ (fun _ hm=>hm.pick [1,2] [] [0,1,2,3,4,5,6] U U)
  refine dD (bF (bF (bY (bD (bH (bR (bP U (bB (gS U U) U (bK 72 (v':= .bool false) U (fU3 (by decide)) (bQ (jQ U (bN (bD (bI (bP U (dY uP U U (eJ bV7 0 U U U (bB (dT bB9 U) U (gO U U (bX U (bE (bG (bD (bI (gO U U (bP U (bE ?_)))))))))))))))))))))))))))
  exact cN (jv+1,acc+((ln:Nat):Int)) ⟨⟨by dsimp only;omega,by dsimp only;omega,by dsimp only;omega⟩,by dsimp only;rw [fQ0 hk5 hfk,<-hac];show acc+((ln:Nat):Int)=acc+((hls.length:Nat):Int);omega⟩ (by dsimp only;omega) ⟨U,U,U,U,U,(cR (by omega)),trivial⟩ (fun _ hm=>hm.pick [1] [] [2,3,4,5,6] U U)
 refine dD (bF (bF (bY (bD (bR ?_)))))
 refine dV (R:=∃bv ov,vA=some ⟨bv,ov,none⟩) (fun wx hm=>by obtain ⟨b,off,hA,_,_⟩:=SlT.get (hm.fact 3 rfl).2.2.1 (by decide);exact ⟨b,off,hA⟩) ?_
 rintro ⟨bv,ov,rfl⟩
 have hmany:acc=nK σ.fh S:=by rw [hac,List.take_of_length_le (by rw [hS,uC];omega)]
 refine bX U (bQ (bH (bR (dY bN5 U U (dY vL U U (eJ bM4 0 U U U (bB (dT bZ8 U) U (bK 82 (v':= .int .i64 3) U U (bP U (bQ (bO ?_)))))))))))
 refine dX (γ:=Nat×Int) (fun (gq4:Nat×Int)=>(gq4.1<=3/\(0<=gq4.2/\gq4.2<=50 *gq4.1))/\gq4.2=vhS (fun v=>((uW E v).length:Int)) (vl.take gq4.1)) (fun (gq4:Nat×Int)=> [(4,.pointer (some ⟨g1,0,none⟩)),(6,.slice gA gn gc),(10,.int .i64 acc),(17,.int .i64 gq4.2),(81,.slice (some ⟨bv,ov,none⟩) 3 vc),(82,.int .i64 3),(83,.int .i64 ((gq4.1:Nat):Int))]) (fun (gq4:Nat×Int)=>fun w=>eU 25 w B sb (7000+1+2000)) (fun (gq4:Nat×Int)=> [(g1,42, [.slice sA 2 sc,.slice cA 4 cc,.slice (some ⟨bv,ov,none⟩) 3 vc,.slice none 0 0,.slice yJ ran rac,.slice yK wP rbc,.slice yL wQ rcc,.slice yM wR rdc,.slice yN ren rec,.int .i64 da,.int .i64 db,.int .i64 dc,.int .i64 dd,.int .i64 de,.int .i64 df,.int .i64 dg])]) (fun (gq4:Nat×Int)=> []) (fun (gq4:Nat×Int)=> [fun wy=>gF 68 σ.fh wy/\SlT bA0 5 64 wy hA hn (cM6 σ ks),fun wy=>SlT dO 5 74 wy gA gn E,fun wy=>SlT eR 4 171 wy eA en el,fun wy=>SlT stEnc 15 99 wy sA 2 sl2/\SlT dW 2 84 wy cA 4 cl/\SlT gW 2 57 wy (some ⟨bv,ov,none⟩) 3 vl/\bI7 (.slice yJ ran rac) (.slice yK wP rbc) (.slice yL wQ rcc) (.slice yM wR rdc) (.slice yN ren rec) (.int .i64 da) (.int .i64 db) (.int .i64 dc) (.int .i64 dd) (.int .i64 de) (.int .i64 df) (.int .i64 dg) wy,TxtO w1.heap.size (some sb)]) (fun (gq4:Nat×Int)=>3 - gq4.1) (0,0) ⟨⟨by decide,by dsimp only;omega,by dsimp only;omega⟩,U⟩ ⟨U,U,U,U,U,U,U,trivial⟩ (fun _ hm=>hm.pick [0] [] [0,1,2,3,4] U U) ?_
 rintro ⟨iv,tac⟩ cB
 replace cB:(iv<=3/\(0<=tac/\tac<=50 *iv))/\tac=vhS (fun v=>((uW E v).length:Int)) (vl.take iv):=cB
 dsimp only
 refine bR ?_
 obtain ⟨⟨hi0,htb1,htb2⟩,htac⟩:=cB
 refine bB (dE U U) U (bQ (bH ?_))
 refine cC U (fun hi=>?_) (fun hi=>?_)
 ·refine bN (bD (bH (bO (bR ?_))))
  obtain ⟨x,hx⟩:∃x,vl[iv]?=some x:=⟨_,fW3 (by omega)⟩
  obtain ⟨uk,uc⟩:=x
  have htp:tpE sl2 cl vl [] E uk=0:=by rw [hE];exact hrl.tp hfz hx
  have htl:=dL5 (el:=E) (v:=uk)
  refine bB (bV (j:=iv) bZ8 U U (by omega)) U (bB (dP (vs:= [.string uk,.string uc]) cH7 U (fun _ hm=>(hm.fact 3 U).2.2.1) hx U U) U (bR1 (vs:= [.string uk,.string uc]) (cs':= [.string uk,.string uc]) eZ6 U cH7 (fun _=>U) (fun _=>U) U U U U fun g4=>bQ (bR (dY bN5 U U (bB (cU bF6 U (fun _ hm=>hm.blkI 1 U) U U) U (bP U (dY bP5 U U (eJ fC 0 U U U ?_))))))))
  refine gY (γ:=Option Addr×Nat×Nat) (val:=(fun g=> .tuple #[.slice g.1 g.2.1 g.2.2,.int .i64 0])) (φ:=(fun g=>(uW E uk).length=g.2.1)) (Y:=(fun g=>fun _=>True)) U fY1 U U (fun wx hm=>(by have h:=dK5 sl2 cl vl [] sA cA (some ⟨bv,ov,none⟩) none 2 sc 4 cc 3 vc 0 0 E gA gn gc uk wx (hm.fact 3 rfl).1 (hm.fact 3 rfl).2.1 (hm.fact 3 rfl).2.2.1 (SlT.nil_ _ _) bH6 hco bZ1 (fun _ h=>by cases h) (by decide) (by decide) (by decide) (by decide) (hm.fact 1 rfl) hEok (by omega) (by omega);rw [htp] at h;exact h.mono fun _ _ ⟨A,k,c,he,h1,_,hg⟩=>⟨(A,k,c),he,(h1 rfl).len,hg,trivial⟩)) (fun _=>Lasts2.true_) ?_
  rintro ⟨tA,tn,tc⟩ htn
  dsimp only at htn ⊢
  refine bP U (bB (cP U U) U (bB (cP U U) U (bX U (bX U (bQ (bH (bR (bP U (bB (gS U U) U (bK 97 (v':= .bool false) U (fU3 (by decide)) (bQ (jQ U (bN (bD (bI (bP U (bP U (bB (dT eH5 U) U (gO U U (bX U (bE (bG (bD (bI (gO U U (bP U (bE ?_)))))))))))))))))))))))))))
  exact cN (iv+1,tac+((tn:Nat):Int)) ⟨⟨by dsimp only;omega,by dsimp only;omega,by dsimp only;omega⟩,by dsimp only;rw [eT6 hx,<-htac];show tac+((tn:Nat):Int)=tac+((uW E uk).length:Int);omega⟩ (by dsimp only;omega) ⟨U,U,U,U,U,U,(cR (by omega)),trivial⟩ (fun _ hm=>hm.pick [1] [] [1,2,3,4,5] U U)
 refine dD (bF (bF (bY (bD (bR ?_)))))
 have hfin:tac=acc:=by
  rw [htac,hmany,List.take_of_length_le (by omega),hE,hrl.count hnk hnd hks,hS]
 refine bP U (bP U (bB (eL U U) U (bK 105 (v':= .bool true) U (fU3 (decide_eq_true hfin)) (bP U (eE U (cH U fV1 U U (fun wx hm=>(cC9 wx)) (mN U U (bX U (bQ (bM ?_))))))))))
 exact bJ U U fun wx hm=>⟨U,eX1 hg1 hsb hm.g⟩
theorem logsFromHires_law {l:List (String×DataW Unit)} (y1 y2:List UInt8) (a0:Option Addr) (len0 cap0:Nat) (z0:List Int) (W:World) (hR:RowIn W a0 len0 cap0 z0) (hL:laidMet prog l W) (hS:W.ShapedOpen prog)
 (h1:l.filter (fun x=>x.1== "internal/strconv.uint64pow10")= [("internal/strconv.uint64pow10",Lib.tabData .u64 Lib.pow10Tab)])
 (h2:l.filter (fun x=>x.1== "strconv.ErrSyntax")= [("strconv.ErrSyntax",.iface "*errors.errorString" (.ptr (.agg [.lit (.string y1)])))])
 (h3:l.filter (fun x=>x.1== "strconv.ErrRange")= [("strconv.ErrRange",.iface "*errors.errorString" (.ptr (.agg [.lit (.string y2)])))]):
 Calls prog 4 #[.slice a0 len0 cap0] W fun e w'=>e=.returned (.bool true)/\Below W.heap.size W w':=
 bU2 a0 len0 cap0 z0 W hR (eD3 y1 y2 hL hS h1 h2 h3)
end Go.Proofs.YtmifpfcmldflkaaGreatDoor
