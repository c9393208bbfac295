/- Several texts as one: Gd Ge Hou Dks Dku Dkv Dkw Asp Asq Asr Ast Bv Asu Asv Asw Asx Gi Gq Gu Gl Go Gov Gow Gox Goy Goa Asy Goz Goq Goe Asz Alc Bea Beb Wea Wec Bed -/
import Derived.Test.YtapdhfjfgpbnnaaGreatDoorR3c
import Derived.Test.YtapdhfjfgpbnnaaGreatDoorR3a
import Derived.Test.YtapdhfjfgpbnnaaGreatDoorR3f
import Derived.Test.YtapdhfjfgpbnnaaGreatDoorR3d
import Derived.Test.YtapdhfjfgpbnnaaGreatDoorR3e
import Derived.Test.YtapdhfjfgpbnnaaGreatDoorR3b
set_option maxRecDepth 100000
set_option maxHeartbeats 4000000
namespace Go.Proofs.YtapdhfjfgpbnnaaGreatDoor
open Tryz
open Go.RowKit
theorem pC:(prog.info? 40).map (·.size)=some 7:=bC
theorem eQ0(w:World)(B sb m:Nat)(hS:fQ 25 w B sb m)(hm:m<=100000000000):
 Calls prog 43 #[.pointer (some ⟨sb,0,none⟩)] w (fun e w'=>∃d:Dl,e=.returned (.agg (xG d).toArray)/\fQ 25 w' B sb (m+40)/\w.grownBy w' (some sb)):=by
 have hlt:=hS.lt
 go_enter func43,ntmps43
 go_wp2_with fail
 have hS0:=hS.alloc (.cells #[J 0,J 0,J 0,J 0,J 0,J 0,J 0] 40)
 have hb0:Blk (w.alloc (.cells #[J 0,J 0,J 0,J 0,J 0,J 0,J 0] 40)) w.heap.size 40 [J 0,J 0,J 0,J 0,J 0,J 0,J 0]:=Blk.at_ w rfl _ _
 have hg0:w.grownBy (w.alloc (.cells #[J 0,J 0,J 0,J 0,J 0,J 0,J 0] 40)) (some sb):=grow_alloc (World.grownBy.refl _ _) _
 have hne:some w.heap.size≠some sb:=fun h=>absurd (Option.some.inj h) G
 have hs1:=hS0.lt
 refine (fV [0,100,200,10000] _ _ _ _ B sb _ (hS0.alloc _) G (by simp) (by simp) (Blk.at_ _ (by simp) _ _) G).mono ?_
 rintro e w1 ⟨v1,hv1,rfl,hS1,hg1'⟩
 have hb1:=(hb0.alloc _).grown hg1' hne
 have hg1:=grow_trans (grow_alloc hg0 _) hg1'
 clear hS0 hb0 hg0 hg1' hs1 hv1
 go_wp2_with fail
 have hs2:=hS1.lt
 refine (fV [0,2,30] _ _ _ _ B sb _ (hS1.alloc _) G (by simp) (by simp) (Blk.at_ _ D _ _) G).mono ?_
 rintro e w2 ⟨v2,xK,rfl,hS2,hg2'⟩
 have hb2:=(hb1.alloc _).grown hg2' hne
 have hg2:=grow_trans (grow_alloc hg1 _) hg2'
 clear hS1 hb1 hg1 hg2' hs2 xK
 go_wp2_with fail
 have hs3:=hS2.lt
 refine (fV [0,300,1000] _ _ _ _ B sb _ (hS2.alloc _) G (by simp) (by simp) (Blk.at_ _ D _ _) G).mono ?_
 rintro e w3 ⟨v3,hv3,rfl,hS3,hg3'⟩
 have hb3:=(hb2.alloc _).grown hg3' hne
 have hg3:=grow_trans (grow_alloc hg2 _) hg3'
 clear hS2 hb2 hg2 hg3' hs3 hv3
 go_wp2_with fail
 have hs4:=hS3.lt
 refine (fV [0,29,30,59,60] _ _ _ _ B sb _ (hS3.alloc _) G (by simp) (by simp) (Blk.at_ _ D _ _) G).mono ?_
 rintro e w4 ⟨v4,hv4,rfl,hS4,hg4'⟩
 have hb4:=(hb3.alloc _).grown hg4' hne
 have hg4:=grow_trans (grow_alloc hg3 _) hg4'
 clear hS3 hb3 hg3 hg4' hs4 hv4
 go_wp2_with fail
 have hs5:=hS4.lt
 refine (fV [0,500,1000,2000] _ _ _ _ B sb _ (hS4.alloc _) G (by simp) (by simp) (Blk.at_ _ D _ _) G).mono ?_
 rintro e w5 ⟨v5,hv5,rfl,hS5,hg5'⟩
 have hb5:=(hb4.alloc _).grown hg5' hne
 have hg5:=grow_trans (grow_alloc hg4 _) hg5'
 clear hS4 hb4 hg4 hg5' hs5 hv5
 go_wp2_with fail
 have hs6:=hS5.lt
 refine (fV [0,4000,5000,9000] _ _ _ _ B sb _ (hS5.alloc _) G (by simp) (by simp) (Blk.at_ _ D _ _) G).mono ?_
 rintro e w6 ⟨v6,hv6,rfl,hS6,hg6'⟩
 have hb6:=(hb5.alloc _).grown hg6' hne
 have hg6:=grow_trans (grow_alloc hg5 _) hg6'
 clear hS5 hb5 hg5 hg6' hs6 hv6
 go_wp2_with fail
 have hs7:=hS6.lt
 refine (fV [0,10000,1000000] _ _ _ _ B sb _ (hS6.alloc _) G (by simp) (by simp) (Blk.at_ _ D _ _) G).mono ?_
 rintro e w7 ⟨v7,hv7,rfl,hS7,hg7'⟩
 have hb7:=(hb6.alloc _).grown hg7' hne
 have hg7:=grow_trans (grow_alloc hg6 _) hg7'
 clear hS6 hb6 hg6 hg7' hs7 hv7
 go_wp2_with fail
 have hs8:=hS7.lt
 have hbD:=Blk.at_ w7 rfl 40 [J v1,J v2,J v3,J v4,J v5,J v6,J v7]
 have hbR:=hb7.alloc (.cells #[J v1,J v2,J v3,J v4,J v5,J v6,J v7] 40)
 have hS7':=hS7.alloc (.cells #[J v1,J v2,J v3,J v4,J v5,J v6,J v7] 40)
 have hg7':=grow_alloc hg7 (.cells #[J v1,J v2,J v3,J v4,J v5,J v6,J v7] 40)
 refine (mU 15 _ B sb _ hS7' G G G).mono ?_
 rintro e w8 ⟨fl,rfl,hS8,hg8⟩
 have hneD:some w7.heap.size≠some sb:=fun h=>absurd (Option.some.inj h) G
 have hD8:=hbD.grown hg8 hneD
 have hR8:=hbR.grown hg8 hne
 have hw8:=grow_trans hg7' hg8
 have hsz:w.heap.size < w7.heap.size:=hb7.lt
 clear hS7 hS7' hbD hbR hb7 hg7 hg7' hg8
 cases fl
 ·go_wp2_with (first
   |(with_reducible refine wpList_load_all rfl 40 (.tmp 3) rfl w7.heap.size _ _ _ hD8 rfl Tryz.underlying40 rfl 7 pC rfl ?_)
   |(with_reducible refine wpList_store_all rfl 40 (.tmp 2) (.tmp 40) rfl w.heap.size _ _ [.int .i64 v1,.int .i64 v2,.int .i64 v3,.int .i64 v4,.int .i64 v5,.int .i64 v6,.int .i64 v7] hR8 rfl rfl 7 pC rfl rfl (by simp [Value.oneCell']) ?_;intro w9 hR9 hg9))
  refine bB6 (p:=2) (ty:=40) D w.heap.size _ _ _ hR9 D Tryz.underlying40 D 7 pC D D ?_
  exact ⟨⟨v1,v2,v3,v4,v5,v6,v7⟩,D,(hS8.grown hg9 (fun k h=>by cases h;omega)).more G,grow_own hw8 hg9 (fun k h=>by cases h;omega)⟩
 ·go_wp2_with fail
  refine (nL 0 10000 _ B sb _ hS8 G G G G).mono ?_
  rintro e w9 ⟨o1,ho1,rfl,hS9,hg9⟩
  go_wp2_with fail
  refine (nL 0 1440 _ B sb _ hS9 G G G G).mono ?_
  rintro e w10 ⟨o2,ho2,rfl,hS10,hg10⟩
  go_wp2_with fail
  refine (nL 0 1000000 _ B sb _ hS10 G G G G).mono ?_
  rintro e w11 ⟨o3,ho3,rfl,hS11,hg11⟩
  go_wp2_with fail
  refine (nL 0 1000000 _ B sb _ hS11 G G G G).mono ?_
  rintro e w12 ⟨o4,ho4,rfl,hS12,hg12⟩
  have hga:=grow_trans (grow_trans (grow_trans hg9 hg10) hg11) hg12
  have hD12:=hD8.grown hga hneD
  have hR12:=hR8.grown hga hne
  have hw12:=grow_trans hw8 hga
  have c0:=hD12.cell_of (i:=0) (v:=J v1) rfl
  have c3:=hD12.cell_of (i:=3) (v:=J v4) rfl
  have c4:=hD12.cell_of (i:=4) (v:=J v5) rfl
  have c6:=hD12.cell_of (i:=6) (v:=J v7) rfl
  have f0:=hD12.frozen 0
  have f3:=hD12.frozen 3
  have f4:=hD12.frozen 4
  have f6:=hD12.frozen 6
  have hDS:Blk ((((w12.setCell ⟨w7.heap.size,0,none⟩ (J o1)).setCell ⟨w7.heap.size,3,none⟩ (J o2)).setCell ⟨w7.heap.size,4,none⟩ (J o3)).setCell ⟨w7.heap.size,6,none⟩ (J o4)) w7.heap.size 40 [J o1,J v2,J v3,J o2,J o3,J v6,J o4]:=(((hD12.set_ 0 _).set_ 3 _).set_ 4 _).set_ 6 _
  have hRS:Blk ((((w12.setCell ⟨w7.heap.size,0,none⟩ (J o1)).setCell ⟨w7.heap.size,3,none⟩ (J o2)).setCell ⟨w7.heap.size,4,none⟩ (J o3)).setCell ⟨w7.heap.size,6,none⟩ (J o4)) w.heap.size 40 [J 0,J 0,J 0,J 0,J 0,J 0,J 0]:=(((hR12.far (by simp;omega) _).far (by simp;omega) _).far (by simp;omega) _).far (by simp;omega) _
  have hSS:fQ 25 ((((w12.setCell ⟨w7.heap.size,0,none⟩ (J o1)).setCell ⟨w7.heap.size,3,none⟩ (J o2)).setCell ⟨w7.heap.size,4,none⟩ (J o3)).setCell ⟨w7.heap.size,6,none⟩ (J o4)) B sb _:=(((hS12.setCell (by simp;omega) _).setCell (by simp;omega) _).setCell (by simp;omega) _).setCell (by simp;omega) _
  have hwS:w.grownBy ((((w12.setCell ⟨w7.heap.size,0,none⟩ (J o1)).setCell ⟨w7.heap.size,3,none⟩ (J o2)).setCell ⟨w7.heap.size,4,none⟩ (J o3)).setCell ⟨w7.heap.size,6,none⟩ (J o4)) (some sb):=grow_setCell (grow_setCell (grow_setCell (grow_setCell hw12 (.inr (by simp;omega)) _) (.inr (by simp;omega)) _) (.inr (by simp;omega)) _) (.inr (by simp;omega)) _
  clear hD8 hR8 hw8 hS8 hS9 hS10 hS11 hS12 hg9 hg10 hg11 hg12 hga hR12 hw12 ho1 ho2 ho3 ho4
  go_wp2_with (first
   |(with_reducible refine wpList_load_all rfl 40 (.tmp 3) rfl w7.heap.size _ _ _ hDS rfl Tryz.underlying40 rfl 7 pC rfl ?_)
   |(with_reducible refine wpList_store_all rfl 40 (.tmp 2) (.tmp 40) rfl w.heap.size _ _ [.int .i64 o1,.int .i64 v2,.int .i64 v3,.int .i64 o2,.int .i64 o3,.int .i64 v6,.int .i64 o4] hRS rfl rfl 7 pC rfl rfl (by simp [Value.oneCell']) ?_;intro w9 hR9 hg9))
  refine bB6 (p:=2) (ty:=40) D w.heap.size _ _ _ hR9 D Tryz.underlying40 D 7 pC D D ?_
  exact ⟨⟨o1,v2,v3,o2,o3,v6,o4⟩,D,(hSS.grown hg9 (fun k h=>by cases h;omega)).more G,grow_own hwS hg9 (fun k h=>by cases h;omega)⟩
theorem cO0(d:Dl):(xG d).length=7:=rfl
theorem eT0(d:Dl):∀v∈xG d,v.oneCell'=true:=cR9 _
theorem cM3(w:World)(B sb m:Nat)(hS:fQ 25 w B sb m)(hm:m<=10000000000):
 Calls prog 18 #[.pointer (some ⟨sb,0,none⟩)] w (fun e w'=>∃d:Dl,xF d=0/\e=.returned (.agg (xG d).toArray)/\fQ 25 w' B sb (m+400)/\w.grownBy w' (some sb)):=by
 have hlt:=hS.lt
 go_enter func18,ntmps18
 go_wp2_with fail
 go_loopw [4] (fun i wr=>∃k:Nat,k<=8/\i=J k/\fQ 25 wr B sb (m+40 *k)/\w.grownBy wr (some sb)/\Blk wr w.heap.size 40 [J 0,J 0,J 0,J 0,J 0,J 0,J 0]) (fun i _=>8 - (intOf i).toNat)
 case atStart=>exact ⟨0,G,rfl,hS.alloc _,grow_alloc (World.grownBy.refl _ _) _,Blk.at_ w rfl _ _⟩
 case round=>
  obtain ⟨k,hk,rfl,hSr,hgr,hbr⟩:=hrel
  have hne:some w.heap.size≠some sb:=fun h=>absurd (Option.some.inj h) G
  clear hS
  by_cases hk8:k < 8
  ·go_wp2_with fail
   refine (eQ0 _ B sb _ hSr G).mono ?_
   rintro e w1 ⟨d,rfl,hS1,hg1⟩
   have hb1:=hbr.grown hg1 hne
   have hw1:=grow_trans hgr hg1
   have hl1:=hS1.lt
   have hsz:=hb1.lt
   clear hSr hbr hgr hg1
   have hnew:Blk (w1.alloc (.cells #[J 0,J 0,J 0,J 0,J 0,J 0,J 0] 40)) w1.heap.size 40 [J 0,J 0,J 0,J 0,J 0,J 0,J 0]:=Blk.at_ w1 rfl _ _
   go_wp2_with (first
    |(with_reducible refine wpList_store_all rfl 40 (.tmp 3) (.tmp 7) rfl w1.heap.size _ _ (xG d) hnew rfl rfl 7 pC (cO0 d) rfl (eT0 d) ?_;intro w2 hb2 hg2)
    |(with_reducible refine wpList_load_all rfl 40 (.tmp 3) rfl w1.heap.size _ _ _ hb2 rfl Tryz.underlying40 rfl 7 pC (cO0 d) ?_))
   have hS2:=(hS1.alloc (.cells #[J 0,J 0,J 0,J 0,J 0,J 0,J 0] 40)).grown hg2 (fun k h=>by cases h;omega)
   have hw2:w.grownBy w2 (some sb):=grow_own (grow_alloc hw1 _) hg2 (fun k h=>by cases h;omega)
   have hbr2:=(hb1.alloc (.cells #[J 0,J 0,J 0,J 0,J 0,J 0,J 0] 40)).grown hg2 (fun h=>absurd (Option.some.inj h) G)
   refine (cC3 d w2).mono ?_
   rintro e w3 ⟨rfl,hg3⟩
   have hS3:=hS2.grown hg3 (fun k h=>by cases h)
   have hw3:=grow_trans hw2 (bG7 hg3)
   have hbr3:=hbr2.grown hg3 (by simp)
   have hb3:=hb2.grown hg3 (by simp)
   clear hS1 hS2 hw1 hw2 hb1 hb2 hbr2 hnew hg2 hg3
   obtain ⟨E,hE⟩:∃E,E=xF d:=⟨_,rfl⟩
   rw [<-hE]
   have HE:=Lib.hid hE
   clear hE
   by_cases h0:E=0
   ·have H0:=Lib.hid (HE.out.symm.trans h0)
    subst h0
    go_wp2_with (first
     |(with_reducible refine wpList_load_all rfl 40 (.tmp 3) rfl w1.heap.size _ _ _ hb3 rfl Tryz.underlying40 rfl 7 pC (cO0 d) ?_)
     |(with_reducible refine wpList_store_all rfl 40 (.tmp 2) (.tmp 11) rfl w.heap.size _ _ (xG d) hbr3 rfl rfl 7 pC (cO0 d) rfl (eT0 d) ?_;intro w4 hb4 hg4))
    refine bB6 (p:=2) (ty:=40) D w.heap.size _ _ _ hb4 D Tryz.underlying40 D 7 pC (cO0 d) D ?_
    exact ⟨d,H0.out,D,(hS3.grown hg4 (fun k h=>by cases h;omega)).more G,grow_own hw3 hg4 (fun k h=>by cases h;omega)⟩
   ·have hq:(E==0)=false:=by simpa using h0
    clear h0
    go_wp2_with fail
    go_roundw
    case rel=>exact ⟨k+1,G,by go_num,hS3.more G,hw3,hbr3⟩
    case measure=>simp [intOf];omega
  ·go_wp2_with (with_reducible refine wpList_store_all rfl 40 (.tmp 2) (.tmp 13) rfl w.heap.size _ _ [J 0,J 0,J 0,J 0,J 0,J 0,J 0] hbr rfl rfl 7 pC rfl rfl (by simp [Value.oneCell']) ?_;intro w4 hb4 hg4)
   refine bB6 (p:=2) (ty:=40) D w.heap.size _ _ _ hb4 D Tryz.underlying40 D 7 pC D D ?_
   exact ⟨⟨0,0,0,0,0,0,0⟩,bC,rfl,(hSr.grown hg4 (fun k h=>by cases h;omega)).more G,grow_own hgr hg4 (fun k h=>by cases h;omega)⟩
theorem Lasts2.ex{N:Nat}{row:Option Nat}{Tt:List TypeId}{γ:Type}{Y:γ->World->Prop}(h:∀g,Lasts2 N row Tt (Y g)):Lasts2 N row Tt (fun w=>∃g,Y g w):=
 ⟨fun w w' a ⟨g,x⟩=>⟨g,(h g).gr w w' a x⟩,fun w w' r T c a b d e ⟨g,x⟩=>⟨g,(h g).st w w' r T c a b d e x⟩⟩
theorem Lasts2.pure{N:Nat}{row:Option Nat}{Tt:List TypeId}{P:Prop}:Lasts2 N row Tt (fun _=>P):=⟨fun _ _ _ h=>h,fun _ _ _ _ _ _ _ _ _ h=>h⟩
def bX8(u4 u5 u6 u7 u8 u9 jR jS jT jU jV jW:Value)(w:World):Prop:=∃(raA:Option Addr) (ran rac:Nat) (ral:List Rt) (rbA:Option Addr) (yT rbc:Nat) (rbl:List Ex) (rcA:Option Addr) (yU rcc:Nat) (rcl:List Fe) (rdA:Option Addr) (yV rdc:Nat) (rdl:List Cd) (reA:Option Addr) (ren rec:Nat) (rel:List Tx) (da db dc dd de df dg:Int),(u4=H raA ran rac/\u5=H rbA yT rbc/\u6=H rcA yU rcc/\u7=H rdA yV rdc/\u8=H reA ren rec/\u9=J da/\jR=J db/\jS=J dc/\jT=J dd/\jU=J de/\jV=J df/\jW=J dg)/\(((∀x∈ral,cV2 x)/\ran<=1000)/\((∀x∈rbl,bR6 x)/\yT<=1000)/\((∀x∈rcl,bV2 x)/\yU<=1000)/\((∀x∈rdl,bQ0 x)/\yV<=1000)/\((∀x∈rel,wN x)/\ren<=3)/\ren<=rec)/\(uM ral rbl rcl rdl rel=0/\xF ⟨da,db,dc,dd,de,df,dg⟩=0)/\SlT mG 7 168 w raA ran ral/\SlT rE 4 203 w rbA yT rbl/\SlT nP 3 207 w rcA yU rcl/\SlT pK 6 209 w rdA yV rdl/\SlT kD 4 212 w reA ren rel/\Ons rel w
theorem bX8.lasts2{N:Nat}{row:Option Nat}{Tt:List TypeId}{u4 u5 u6 u7 u8 u9 jR jS jT jU jV jW:Value}(hra:Tt.contains 168=true)(hrb:Tt.contains 203=true)(hrc:Tt.contains 207=true)(hrd:Tt.contains 209=true)(hre:Tt.contains 212=true)(hi:Tt.contains 3=true):Lasts2 N row Tt (bX8 u4 u5 u6 u7 u8 u9 jR jS jT jU jV jW):=
 Lasts2.ex fun _=>Lasts2.ex fun _=>Lasts2.ex fun _=>Lasts2.ex fun _=>Lasts2.ex fun _=>Lasts2.ex fun _=>Lasts2.ex fun _=>Lasts2.ex fun _=>Lasts2.ex fun _=>Lasts2.ex fun _=>Lasts2.ex fun _=>Lasts2.ex fun _=>Lasts2.ex fun _=>Lasts2.ex fun _=>Lasts2.ex fun _=>Lasts2.ex fun _=>Lasts2.ex fun _=>Lasts2.ex fun _=>Lasts2.ex fun _=>Lasts2.ex fun _=>Lasts2.ex fun _=>Lasts2.ex fun _=>Lasts2.ex fun _=>Lasts2.ex fun _=>Lasts2.ex fun _=>Lasts2.ex fun _=>Lasts2.ex fun _=>Lasts2.pure.and_ (Lasts2.pure.and_ (Lasts2.pure.and_ ((SlT.lasts2 hra).and_ ((SlT.lasts2 hrb).and_ ((SlT.lasts2 hrc).and_ ((SlT.lasts2 hrd).and_ ((SlT.lasts2 hre).and_ ((Ons.lasts hi)))))))))
theorem cT8(sA cA vA:Option Addr)(sn sc cn cc vn vc:Nat)(sl:List St)(cl:List Cs)(vl:List Vh)(raA:Option Addr)(ran rac:Nat)(ral:List Rt)(rbA:Option Addr)(yT rbc:Nat)(rbl:List Ex)(rcA:Option Addr)(yU rcc:Nat)(rcl:List Fe)(rdA:Option Addr)(yV rdc:Nat)(rdl:List Cd)(reA:Option Addr)(ren rec:Nat)(rel:List Tx)(da db dc dd de df dg:Int)(w:World)(hs:SlT stEnc 15 74 w sA sn sl)(hc:SlT dQ 2 53 w cA cn cl)(hv:SlT kG 2 55 w vA vn vl)(bA4:∀x∈sl,StOk x)(cV6:∀x∈cl,pR x)(cX6:∀x∈vl,dT9 x)(hsn:sn<=1000000)(yC:cn<=1000000)(hvn:vn<=1000000)(hfz:vY sl cl vl []=0)(hra:SlT mG 7 168 w raA ran ral)(hrb:SlT rE 4 203 w rbA yT rbl)(hrc:SlT nP 3 207 w rcA yU rcl)(hrd:SlT pK 6 209 w rdA yV rdl)(hre:SlT kD 4 212 w reA ren rel)(hons:Ons rel w)(hra1:∀x∈ral,cV2 x)(hrb1:∀x∈rbl,bR6 x)(hrc1:∀x∈rcl,bV2 x)(hrd1:∀x∈rdl,bQ0 x)(hre1:∀x∈rel,wN x)(hra2:ran<=1000)(hrb2:yT<=1000)(hrc2:yU<=1000)(hrd2:yV<=1000)(hre2:ren<=3)(hre3:ren<=rec)(htz:uM ral rbl rcl rdl rel=0)(hdz:xF ⟨da,db,dc,dd,de,df,dg⟩=0):
 Calls prog 54 #[.agg #[H sA sn sc,H cA cn cc,H vA vn vc,H none 0 0,H raA ran rac,H rbA yT rbc,H rcA yU rcc,H rdA yV rdc,H reA ren rec,J da,J db,J dc,J dd,J de,J df,J dg]] w (fun e w'=>e=.returned (J 0)/\w.grownBy w' none):=by
 refine cY ⟨14,w,none, []⟩ func54 D ntmps54 D (fZ (X:= [bT stEnc 15 74 w.heap.size none sA sn sl,bT dQ 2 53 w.heap.size none cA cn cl,bT kG 2 55 w.heap.size none vA vn vl,bT mG 7 168 w.heap.size none raA ran ral,bT rE 4 203 w.heap.size none rbA yT rbl,bT nP 3 207 w.heap.size none rcA yU rcl,bT pK 6 209 w.heap.size none rdA yV rdl,bT kD 4 212 w.heap.size none reA ren rel,nC w.heap.size none rel]) (cC hs.old (cC hc.old (cC hv.old (cC hra.old (cC hrb.old (cC hrc.old (cC hrd.old (cC hre.old (cC hons.old cZ))))))))) (cE bT.lasts (cE bT.lasts (cE bT.lasts (cE bT.lasts (cE bT.lasts (cE bT.lasts (cE bT.lasts (cE bT.lasts (cE nC.lasts dA)))))))))) (bX (fS D D D fun g1=>cG D (bU (bJ (gd (fun wz=>Blk wz g1 42 [H sA sn sc,H cA cn cc,H vA vn vc,H none 0 0,H raA ran rac,H rbA yT rbc,H rcA yU rcc,H rdA yV rdc,H reA ren rec,J da,J db,J dc,J dd,J de,J df,J dg]/\True) mixed (fun _ hm=>⟨hm.bl 0,bB⟩) fun z=>wq 0 D (bW wS D D) (wq 1 D (dG eZ6 D (fun _ hm=>hm.1) D D) (wq 3 D (bW fM0 D D) (wq 4 D (dG cN3 D (fun _ hm=>hm.1) D D) (wq 6 D (bW fN0 D D) (wq 7 D (dG fX8 D (fun _ hm=>hm.1) D D) (eD 2 D (cR (v:=J 0) D fM8 D D (fun wx hm=>(by have h:=cH0 sl cl vl [] sA cA vA none sn sc cn cc vn vc 0 0 wx (hm.fact 0 rfl).1 (hm.fact 1 rfl).1 (hm.fact 2 rfl).1 (SlT.nil_ _ _) bA4 cV6 cX6 (fun _ h=>by cases h) hsn yC hvn bD;rw [hfz] at h;exact h)) (bH (nw 12 223 (fun _ hm=>⟨hm.bl 0,bB⟩) fun z=>eD 5 D (cR (v:=J 0) D fN8 D D (fun wx hm=>(by have h:=dH4 ral raA ran rac rbl rbA yT rbc rcl rcA yU rcc rdl rdA yV rdc rel reA ren rec wx (hm.fact 3 rfl).1 (hm.fact 4 rfl).1 (hm.fact 5 rfl).1 (hm.fact 6 rfl).1 (hm.fact 7 rfl).1 (nC.ons (hm.fact 8 rfl)) hra1 hrb1 hrc1 hrd1 hre1 hra2 hrb2 hrc2 hrd2 hre2 hre3;rw [htz] at h;exact h)) (bH (nw 12 255 (fun _ hm=>⟨hm.bl 0,bB⟩) fun z=>eD 8 D (cR (v:=J 0) D fO8 D D (fun wx hm=>(by have h:=cA3 ⟨da,db,dc,dd,de,df,dg⟩ wx;rw [hdz] at h;exact h)) (bH (nw 12 511 (fun _ hm=>⟨hm.bl 0,bB⟩) fun z=>eD 9 D (jN 48 [J 0,J 0,J 0] fun g2=>bH (nw 12 1023 (fun _ hm=>⟨hm.bl 1,bB⟩) fun z=>eD 10 D ?_))))))))))))))))))))))
 refine dC D vO D D (fun wx hm=>(fP [0,0,0] _ _ _ wx (hm.blkI 0 D) (by simp))) (bH (nw 12 2047 (fun _ hm=>⟨hm.bl 1,bB⟩) fun z=>wq 11 D (dB D) (gY (bG (bR ?_)))))
 exact bQ D D fun wx hm=>⟨D,hm.g⟩
theorem cJ0(sA cA vA:Option Addr)(sn sc cn cc vn vc:Nat)(sl:List St)(cl:List Cs)(vl:List Vh)(u4 u5 u6 u7 u8 u9 jR jS jT jU jV jW:Value)(w:World)(hs:SlT stEnc 15 74 w sA sn sl)(hc:SlT dQ 2 53 w cA cn cl)(hv:SlT kG 2 55 w vA vn vl)(bA4:∀x∈sl,StOk x)(cV6:∀x∈cl,pR x)(cX6:∀x∈vl,dT9 x)(hsn:sn<=1000000)(yC:cn<=1000000)(hvn:vn<=1000000)(hfz:vY sl cl vl []=0)(hT:bX8 u4 u5 u6 u7 u8 u9 jR jS jT jU jV jW w):
 Calls prog 54 #[.agg #[H sA sn sc,H cA cn cc,H vA vn vc,H none 0 0,u4,u5,u6,u7,u8,u9,jR,jS,jT,jU,jV,jW]] w (fun e w'=>e=.returned (J 0)/\w.grownBy w' none):=by
 obtain ⟨raA,ran,rac,ral,rbA,yT,rbc,rbl,rcA,yU,rcc,rcl,rdA,yV,rdc,rdl,reA,ren,rec,rel,da,db,dc,dd,de,df,dg,⟨rfl,rfl,rfl,rfl,rfl,rfl,rfl,rfl,rfl,rfl,rfl,rfl⟩,⟨⟨hra1,hra2⟩,⟨hrb1,hrb2⟩,⟨hrc1,hrc2⟩,⟨hrd1,hrd2⟩,⟨hre1,hre2⟩,hre3⟩,⟨htz,hdz⟩,hra,hrb,hrc,hrd,hre,hons⟩:=hT
 exact cT8 sA cA vA sn sc cn cc vn vc sl cl vl raA ran rac ral rbA yT rbc rbl rcA yU rcc rcl rdA yV rdc rdl reA ren rec rel da db dc dd de df dg w hs hc hv bA4 cV6 cX6 hsn yC hvn hfz hra hrb hrc hrd hre hons hra1 hrb1 hrc1 hrd1 hre1 hra2 hrb2 hrc2 hrd2 hre2 hre3 htz hdz
theorem cI0(sA cA vA:Option Addr)(sn sc cn cc vn vc:Nat)(sl:List St)(cl:List Cs)(vl:List Vh)(u4 u5 u6 u7 u8 u9 jR jS jT jU jV jW:Value)(w:World)(hs:SlT stEnc 15 74 w sA sn sl)(hc:SlT dQ 2 53 w cA cn cl)(hv:SlT kG 2 55 w vA vn vl)(bA4:∀x∈sl,StOk x)(cV6:∀x∈cl,pR x)(cX6:∀x∈vl,dT9 x)(hsn:sn<=1000000)(yC:cn<=1000000)(hvn:vn<=1000000)(hfz:vY sl cl vl []=0)(hT:bX8 u4 u5 u6 u7 u8 u9 jR jS jT jU jV jW w):∀wx,w.grownBy wx none->
 Calls prog 54 #[.agg #[H sA sn sc,H cA cn cc,H vA vn vc,H none 0 0,u4,u5,u6,u7,u8,u9,jR,jS,jT,jU,jV,jW]] wx (fun e w'=>e=.returned (J 0)/\wx.grownBy w' none):=fun wx hg=>
 cJ0 sA cA vA sn sc cn cc vn vc sl cl vl u4 u5 u6 u7 u8 u9 jR jS jT jU jV jW wx ((SlT.lasts2 (N:=0) (row:=none) (Tt:= [74]) rfl).gr w wx hg hs) ((SlT.lasts2 (N:=0) (row:=none) (Tt:= [53]) rfl).gr w wx hg hc) ((SlT.lasts2 (N:=0) (row:=none) (Tt:= [55]) rfl).gr w wx hg hv) bA4 cV6 cX6 hsn yC hvn hfz ((bX8.lasts2 (N:=0) (row:=none) (Tt:= [168,203,207,209,212,3]) rfl rfl rfl rfl rfl rfl).gr w wx hg hT)
def K3v:List M:= [⟨#[118,49]⟩,⟨#[118,50]⟩,⟨#[118,51]⟩]
def cT3:List Int:= [0,0,0,0,0,0,0,0,0,0,0,0,0,0]
def sl2:List St:= [⟨⟨#[115,49]⟩,cT3⟩,⟨⟨#[115,50]⟩,cT3⟩]
theorem eI3:∀x∈sl2,StOk x:=by
 intro x hx
 unfold sl2 cT3 at hx
 simp only [List.mem_cons,List.not_mem_nil,or_false] at hx
 rcases hx with rfl|rfl <;> exact ⟨rfl,bD,bD⟩
theorem dT8:stationsE sl2=0:=by decide+kernel
theorem fU1{w:World}{g:Nat}(h:Blk w g 74 (sl2.flatMap stEnc)):SlT stEnc 15 74 w (some ⟨g,0,none⟩) 2 sl2:=
 ⟨rfl,fun _=>⟨g,0,_,_,rfl,h,fun i x hx j v hv=>by
  have h15:(stEnc ⟨⟨#[115,49]⟩,cT3⟩).length=15:=rfl
  match i with
  |0=>
   have hx:some (⟨⟨#[115,49]⟩,cT3⟩:St)=some x:=hx
   injection hx with hx
   subst hx
   have hj:=(List.getElem?_eq_some_iff.1 hv).1
   have e:((stEnc ⟨⟨#[115,49]⟩,cT3⟩)++stEnc ⟨⟨#[115,50]⟩,cT3⟩)[j]?=some v:=by rw [List.getElem?_append_left hj];exact hv
   simpa [sl2] using e
  |1=>
   have hx:some (⟨⟨#[115,50]⟩,cT3⟩:St)=some x:=hx
   injection hx with hx
   subst hx
   have e:((stEnc ⟨⟨#[115,49]⟩,cT3⟩)++stEnc ⟨⟨#[115,50]⟩,cT3⟩)[15+j]?=some v:=by rw [List.getElem?_append_right (by rw [h15];omega),h15,Nat.add_sub_cancel_left];exact hv
   simpa [sl2] using e
  |i+2=>cases hx⟩⟩
theorem cU5{l:List Cs}{c:M}(h:ClG l)(hc:c∈([⟨#[109,105,110,105]⟩,⟨#[109,105,110,105]⟩,⟨#[109,105,100,105]⟩]:List M)):∃(j:Nat) (q:M),l[j]?=some (⟨c,q⟩:Cs):=by
 obtain ⟨u1,u2,u3,_,_,_,rfl⟩:=h
 simp only [List.mem_cons,List.not_mem_nil,or_false] at hc
 rcases hc with rfl|rfl|rfl
 ·exact ⟨3,u3,D⟩
 ·exact ⟨3,u3,D⟩
 ·exact ⟨2,u2,D⟩
theorem fJ5{i:Nat}(h:i < 3):∃k,K3v[i]?=some k/\K4[i]?=some k/\k.size<=100:=by
 rcases (show i=0∨i=1∨i=2 by omega) with rfl|rfl|rfl
 ·exact ⟨_,D,D,bD⟩
 ·exact ⟨_,D,D,bD⟩
 ·exact ⟨_,D,D,bD⟩
def Vh3(cl:List Cs)(i:Nat)(vl:List Vh):Prop:=vl.length=i/\vl.map Vh.key=K3v.take i/\(∀x∈vl,x.key.size<=100/\x.cls.size<=100)/\VhG cl i vl
theorem eV7{cl:List Cs}:Vh3 cl 0 []:=⟨rfl,rfl,(fun _ h=>by cases h),eY7⟩
theorem bL6{cl:List Cs}{i:Nat}{vl:List Vh}{k c:M}(h:Vh3 cl i vl)(hk:K3v[i]?=some k)(hk4:K4[i]?=some k)(hz:k.size<=100)(hcz:c.size<=100)(hc:∃(j:Nat) (q:M),cl[j]?=some (⟨c,q⟩:Cs)):Vh3 cl (i+1) (vl++ [⟨k,c⟩]):=by
 obtain ⟨h1,h2,h3,h4⟩:=h
 obtain ⟨j,q,hq⟩:=hc
 refine ⟨by simp [h1],?_,fun x hx=>?_,eZ3 h4 hk4 hq⟩
 ·rw [List.map_append,h2,List.take_add_one,hk];rfl
 ·rcases List.mem_append.1 hx with hx|hx
  ·exact h3 x hx
  ·rw [List.mem_singleton.1 hx];exact ⟨hz,hcz⟩
theorem fD2{cl:List Cs}{i:Nat}{vl:List Vh}(h:Vh3 cl i vl):∀x∈vl,dT9 x:=fun x hx=>⟨by have:=(h.2.2.1 x hx).1;omega,by have:=(h.2.2.1 x hx).2;omega⟩
theorem dJ9{cl:List Cs}{vl:List Vh}(hc:eR cl=0)(h:Vh3 cl 3 vl):vY sl2 cl vl []=0:=cI9 dT8 hc h.2.2.2 (by have:=h.1;omega)
def dO6(u4 u5 u6 u7 u8:Value)(w:World):Prop:=∃(raA:Option Addr) (ran rac:Nat) (ral:List Rt) (rbA:Option Addr) (yT rbc:Nat) (rbl:List Ex) (rcA:Option Addr) (yU rcc:Nat) (rcl:List Fe) (rdA:Option Addr) (yV rdc:Nat) (rdl:List Cd) (reA:Option Addr) (ren rec:Nat) (rel:List Tx),(u4=H raA ran rac/\u5=H rbA yT rbc/\u6=H rcA yU rcc/\u7=H rdA yV rdc/\u8=H reA ren rec)/\(((∀x∈ral,cV2 x)/\ran<=1000)/\((∀x∈rbl,bR6 x)/\yT<=1000)/\((∀x∈rcl,bV2 x)/\yU<=1000)/\((∀x∈rdl,bQ0 x)/\yV<=1000)/\((∀x∈rel,wN x)/\ren<=3)/\ren<=rec)/\uM ral rbl rcl rdl rel=0/\SlT mG 7 168 w raA ran ral/\SlT rE 4 203 w rbA yT rbl/\SlT nP 3 207 w rcA yU rcl/\SlT pK 6 209 w rdA yV rdl/\SlT kD 4 212 w reA ren rel/\Ons rel w
theorem dO6.lasts2{N:Nat}{row:Option Nat}{Tt:List TypeId}{u4 u5 u6 u7 u8:Value}(hra:Tt.contains 168=true)(hrb:Tt.contains 203=true)(hrc:Tt.contains 207=true)(hrd:Tt.contains 209=true)(hre:Tt.contains 212=true)(hi:Tt.contains 3=true):Lasts2 N row Tt (dO6 u4 u5 u6 u7 u8):=
 Lasts2.ex fun _=>Lasts2.ex fun _=>Lasts2.ex fun _=>Lasts2.ex fun _=>Lasts2.ex fun _=>Lasts2.ex fun _=>Lasts2.ex fun _=>Lasts2.ex fun _=>Lasts2.ex fun _=>Lasts2.ex fun _=>Lasts2.ex fun _=>Lasts2.ex fun _=>Lasts2.ex fun _=>Lasts2.ex fun _=>Lasts2.ex fun _=>Lasts2.ex fun _=>Lasts2.ex fun _=>Lasts2.ex fun _=>Lasts2.ex fun _=>Lasts2.ex fun _=>Lasts2.pure.and_ (Lasts2.pure.and_ (Lasts2.pure.and_ ((SlT.lasts2 hra).and_ ((SlT.lasts2 hrb).and_ ((SlT.lasts2 hrc).and_ ((SlT.lasts2 hrd).and_ ((SlT.lasts2 hre).and_ ((Ons.lasts hi)))))))))
theorem eC6{u4 u5 u6 u7 u8:Value}{da db dc dd de df dg:Int}{w:World}(hd:xF ⟨da,db,dc,dd,de,df,dg⟩=0)(h:dO6 u4 u5 u6 u7 u8 w):bX8 u4 u5 u6 u7 u8 (J da) (J db) (J dc) (J dd) (J de) (J df) (J dg) w:=by
 obtain ⟨raA,ran,rac,ral,rbA,yT,rbc,rbl,rcA,yU,rcc,rcl,rdA,yV,rdc,rdl,reA,ren,rec,rel,h1,h2,h3,h4⟩:=h
 exact ⟨raA,ran,rac,ral,rbA,yT,rbc,rbl,rcA,yU,rcc,rcl,rdA,yV,rdc,rdl,reA,ren,rec,rel,da,db,dc,dd,de,df,dg,⟨h1.1,h1.2.1,h1.2.2.1,h1.2.2.2.1,h1.2.2.2.2,D,D,D,D,D,D,D⟩,h2,⟨h3,hd⟩,h4⟩
theorem fB5(w:World)(B sb m:Nat)(hS:fQ 25 w B sb m)(hm:m<=1000000000):
 Calls prog 17 #[.pointer (some ⟨sb,0,none⟩)] w (fun e w'=>∃g:Option Addr×Option Addr×Option Addr×Option Addr×Option Addr×Nat×Nat×Nat×Nat×Nat×Nat×Nat×Nat×Nat×Nat,e=.returned (.agg #[H g.1 g.2.2.2.2.2.1 g.2.2.2.2.2.2.1,H g.2.1 g.2.2.2.2.2.2.2.1 g.2.2.2.2.2.2.2.2.1,H g.2.2.1 g.2.2.2.2.2.2.2.2.2.1 g.2.2.2.2.2.2.2.2.2.2.1,H g.2.2.2.1 g.2.2.2.2.2.2.2.2.2.2.2.1 g.2.2.2.2.2.2.2.2.2.2.2.2.1,H g.2.2.2.2.1 g.2.2.2.2.2.2.2.2.2.2.2.2.2.1 g.2.2.2.2.2.2.2.2.2.2.2.2.2.2])/\True/\fQ 25 w' B sb (m+6000)/\w.grownBy w' (some sb)/\dO6 (H g.1 g.2.2.2.2.2.1 g.2.2.2.2.2.2.1) (H g.2.1 g.2.2.2.2.2.2.2.1 g.2.2.2.2.2.2.2.2.1) (H g.2.2.1 g.2.2.2.2.2.2.2.2.2.1 g.2.2.2.2.2.2.2.2.2.2.1) (H g.2.2.2.1 g.2.2.2.2.2.2.2.2.2.2.2.1 g.2.2.2.2.2.2.2.2.2.2.2.2.1) (H g.2.2.2.2.1 g.2.2.2.2.2.2.2.2.2.2.2.2.2.1 g.2.2.2.2.2.2.2.2.2.2.2.2.2.2) w'):=
 (cV0 w B sb m hS hm).mono fun _ _ ⟨raA,ran,rac,ral,rbA,yT,rbc,rbl,rcA,yU,rcc,rcl,rdA,yV,rdc,rdl,reA,ren,rec,rel,he,⟨⟨⟨hrag,hran,hrac⟩,⟨hrbg,hrbn,hrbc⟩,⟨hrcg,hrcn,hrcc⟩,⟨hrdg,hrdn,hrdc⟩,⟨hreg,hren,hrec⟩⟩,htz⟩,hs,hS,hg⟩=>⟨(raA,rbA,rcA,rdA,reA,ran,rac,yT,rbc,yU,rcc,yV,rdc,ren,rec),he,bB,hS,hg,raA,ran,rac,ral,rbA,yT,rbc,rbl,rcA,yU,rcc,rcl,rdA,yV,rdc,rdl,reA,ren,rec,rel,⟨rfl,rfl,rfl,rfl,rfl⟩,⟨⟨fR5 hrag,G⟩,⟨hrbg,G⟩,⟨hrcg,G⟩,⟨hrdg,G⟩,⟨hreg,G⟩,hrec⟩,htz,hs⟩
theorem cV1(w:World)(B sb m:Nat)(hS:fQ 25 w B sb m)(hm:m<=100000000):
 Calls prog 4 #[.pointer (some ⟨sb,0,none⟩)] w (fun e w'=>∃(sA cA vA:Option Addr) (sc cc vc:Nat) (cl:List Cs) (vl:List Vh) (raA rbA rcA rdA reA:Option Addr) (ran rac yT rbc yU rcc yV rdc ren rec:Nat) (da db dc dd de df dg:Int),e=.returned (.agg #[H sA 2 sc,H cA 4 cc,H vA 3 vc,H none 0 0,H raA ran rac,H rbA yT rbc,H rcA yU rcc,H rdA yV rdc,H reA ren rec,J da,J db,J dc,J dd,J de,J df,J dg])/\(cl.length=4/\(∀x∈cl,pR x)/\ClG cl/\Vh3 cl 3 vl)/\SlT stEnc 15 74 w' sA 2 sl2/\SlT dQ 2 53 w' cA 4 cl/\SlT kG 2 55 w' vA 3 vl/\bX8 (H raA ran rac) (H rbA yT rbc) (H rcA yU rcc) (H rdA yV rdc) (H reA ren rec) (J da) (J db) (J dc) (J dd) (J de) (J df) (J dg) w'/\fQ 25 w' B sb (m+7000)/\w.grownBy w' (some sb)):=by
 refine cY ⟨35,w,(some sb), [3,53,168,203,207,209,212]⟩ func4 D ntmps4 D (bU5 (X:= []) hS cZ dA) (bX (dM fE6 D fun g1=>bU (bX (W (dL (cs:= [U ⟨#[115,49]⟩,J 0,J 0,J 0,J 0,J 0,J 0,J 0,J 0,J 0,J 0,J 0,J 0,J 0,J 0]) D bC) D (W (dL (cs:= [U ⟨#[115,50]⟩,J 0,J 0,J 0,J 0,J 0,J 0,J 0,J 0,J 0,J 0,J 0,J 0,J 0,J 0]) D bC) D (jN 74 [U ⟨#[115,49]⟩,J 0,J 0,J 0,J 0,J 0,J 0,J 0,J 0,J 0,J 0,J 0,J 0,J 0,J 0,U ⟨#[115,50]⟩,J 0,J 0,J 0,J 0,J 0,J 0,J 0,J 0,J 0,J 0,J 0,J 0,J 0,J 0] fun g2=>bS D ?_))))))
 refine pH (γ:=Option Addr×Nat×List Cs) (val:=(fun g=>H g.1 4 g.2.1)) (φ:=(fun g=>g.2.2.length=4/\(∀x∈g.2.2,pR x)/\ClG g.2.2)) (Y:=(fun g=>fun wy=>SlT dQ 2 53 wy g.1 4 g.2.2)) (m':=m+20) D fY6 D D D D (fun wx hm=>(cJ3 wx B sb _ hm.k G).mono fun _ _ ⟨A,c,l,he,ho,⟨hl,hz⟩,hok,hS,hg⟩=>⟨(A,c,l),he,⟨hl,hok,hz⟩,hS,hg,SlT.ofOwn dZ1 ho hl⟩) (fun _=>SlT.lasts2 D) ?_
 rintro ⟨cA,cc,cl⟩ mO
 dsimp only at mO ⊢
 obtain ⟨hcl4,cV6,hcg⟩:=mO
 refine mA 55 2 ?_
 refine W (dL (cs:= [H (some ⟨g2,0,none⟩) 2 2,H cA 4 cc,H none 0 0,H none 0 0]) D bC) D (dM fZ8 D fun g3=>kE (cs':= [H (some ⟨g2,0,none⟩) 2 2,H cA 4 cc,H none 0 0,H none 0 0]) 0 eZ6 D D D D (bU (bJ (bX (jN 9 [U ⟨#[118,49]⟩,U ⟨#[118,50]⟩,U ⟨#[118,51]⟩] fun g4=>W (dP mD D) D (bO 13 (v':=J 3) D D (bS D (bU (bP ?_)))))))))
 refine dS (γ:=Nat×Option Addr×Nat×List Vh) (fun g=>g.1<=3/\Vh3 cl g.1 g.2.2.2) (fun g=> [(0,.pointer (some ⟨sb,0,none⟩)),(2,.pointer (some ⟨g1,0,none⟩)),(3,.pointer (some ⟨g3,0,none⟩)),(12,H (some ⟨g4,0,none⟩) 3 3),(13,J 3),(14,I (g.1))]) (fun g=>fun w=>fQ 25 w B sb (m+20+g.1)) (fun g=> [(g4,9, [U ⟨#[118,49]⟩,U ⟨#[118,50]⟩,U ⟨#[118,51]⟩]),(g3,31, [H (some ⟨g2,0,none⟩) 2 2,H cA 4 cc,H g.2.1 g.1 g.2.2.1,H none 0 0]),(g2,74, [U ⟨#[115,49]⟩,J 0,J 0,J 0,J 0,J 0,J 0,J 0,J 0,J 0,J 0,J 0,J 0,J 0,J 0,U ⟨#[115,50]⟩,J 0,J 0,J 0,J 0,J 0,J 0,J 0,J 0,J 0,J 0,J 0,J 0,J 0,J 0]),(g1,42, [H none 0 0,H none 0 0,H none 0 0,H none 0 0,H none 0 0,H none 0 0,H none 0 0,H none 0 0,H none 0 0,J 0,J 0,J 0,J 0,J 0,J 0,J 0])]) (fun g=> [⟨H g.2.1 g.1 g.2.2.1,55,2,g.1,g.2.2.2.flatMap kG⟩]) (fun g=> [fun wy=>SlT dQ 2 53 wy cA 4 cl]) (fun g=>3 - g.1) (0,none,0, []) ⟨Nat.zero_le _,eV7⟩ ⟨D,D,D,D,D,D,bB⟩ (fun _ hm=>(hm.more D (by first|omega|(dsimp only;omega))).pick [0,1,2,3] [0] [0] D D) ?_
 rintro ⟨iv,vA,vc,vl⟩ bZ
 replace bZ:iv<=3/\Vh3 cl iv vl:=bZ
 dsimp only
 refine bX ?_
 obtain ⟨hi0,hv3⟩:=bZ
 refine W (dF D D) D (bU (bJ ?_))
 refine cN D (fun hi=>?_) (fun hi=>?_)
 ·refine bN (bG (bJ (bP (bX ?_))))
  obtain ⟨nm,hx,hx4,hnz⟩:=fJ5 (show iv < 3 by omega)
  refine W (bV (j:=iv) mD D D G) D (W (dH (k:=0) (v:=U nm) fR D (fun _ hm=>(SlT.ofBlk (l:=K3v) mQ (hm.blkI 0 D))) hx D D) D (cG D (bU (gd (fun wz=>True) mixed (fun _ _=>bB) fun z=>wq 0 D (bW xU D D) (wq 2 D (bL D) (wq 3 D (bL D) ?_))))))
  refine jC [1,4] bC D ⟨⟨_,D,?_⟩,⟨_,D,?_⟩,bB⟩
  ·refine eO bU7 1 D D D (bH ?_)
   refine nw 11 15 (fun _ _=>bB) fun z=>eD 4 D (jN 9 [U ⟨#[109,105,110,105]⟩,U ⟨#[109,105,110,105]⟩,U ⟨#[109,105,100,105]⟩] fun g5=>bH (nw 11 31 (fun _ _=>bB) fun z=>eD 5 D (dX (γ:=M) (val:=fun v=>U v) (φ:=fun v=>v∈([⟨#[109,105,110,105]⟩,⟨#[109,105,110,105]⟩,⟨#[109,105,100,105]⟩]:List M)) D uU D D D D (fun wx hm=>(jE [⟨#[109,105,110,105]⟩,⟨#[109,105,110,105]⟩,⟨#[109,105,100,105]⟩] _ _ _ wx B sb _ hm.k G (by simp) (by simp) (hm.blkI 0 D) (hm.neRow 0 D D))) fun s6 hs6=>?_)))
   have zs6:s6.size<=100:=kX hs6 bD
   refine bH (nw 11 63 (fun _ _=>bB) fun z=>wq 6 D (dL (cs:= [U nm,U s6]) D bC) (eD 7 D (jN 55 [U nm,U s6] fun g7=>bH (nw 11 255 (fun _ _=>bB) fun z=>eD 8 D (eP (news:= [U nm,U s6]) 0 0 eW4 D D D D D D D G (by unfold maxLen;omega) D D fun v2 xK=>?_)))))
   refine eB (R:=∃A cc,v2=H A (iv+1) cc) (fun wx hm=>dW (hm.ownI 0 D)) ?_
   rintro ⟨vA2,vc2,rfl⟩
   refine bH (nw 11 511 (fun _ _=>bB) fun z=>wq 9 D (bW xU D D) (eD 10 D (fX 3 bU7 D D D D D D (bH (nw 11 2047 (fun _ _=>bB) fun z=>gY (bK (bG (bM (fY D D (bS D (bH ?_)))))))))))
   have hxs:vl.flatMap kG++([U nm,U s6]:List Value)=(vl++ [(⟨nm,s6⟩:Vh)]).flatMap kG:=by simp [kG]
   rw [hxs]
   exact cQ (iv+1,vA2,vc2,vl++ [(⟨nm,s6⟩:Vh)]) ⟨bE,bL6 hv3 hx hx4 hnz zs6 (cU5 hcg hs6)⟩ bE ⟨D,D,D,D,D,(cP G),bB⟩ (fun _ hm=>(hm.more D (by first|omega|(dsimp only;omega))).pick [2,3,4,5] [0] [0] D D)
  refine jN 9 [U ⟨#[109,105,110,105]⟩,U ⟨#[109,105,110,105]⟩,U ⟨#[109,105,100,105]⟩] fun g8=>bH (nw 11 29 (fun _ _=>bB) fun z=>?_)
  refine jC [1,5] bC D ⟨⟨_,D,?_⟩,⟨_,D,?_⟩,bB⟩
  ·refine eO bU7 2 D D D (bH ?_)
   refine nw 11 31 (fun _ _=>bB) fun z=>eD 5 D (dX (γ:=M) (val:=fun v=>U v) (φ:=fun v=>v∈([⟨#[109,105,110,105]⟩,⟨#[109,105,110,105]⟩,⟨#[109,105,100,105]⟩]:List M)) D uU D D D D (fun wx hm=>(jE [⟨#[109,105,110,105]⟩,⟨#[109,105,110,105]⟩,⟨#[109,105,100,105]⟩] _ _ _ wx B sb _ hm.k G (by simp) (by simp) (hm.blkI 0 D) (hm.neRow 0 D D))) fun s9 hs9=>?_)
   have zs9:s9.size<=100:=kX hs9 bD
   refine bH (nw 11 63 (fun _ _=>bB) fun z=>wq 6 D (dL (cs:= [U nm,U s9]) D bC) (eD 7 D (jN 55 [U nm,U s9] fun g10=>bH (nw 11 255 (fun _ _=>bB) fun z=>eD 8 D (eP (news:= [U nm,U s9]) 0 0 eW4 D D D D D D D G (by unfold maxLen;omega) D D fun v2 xK=>?_)))))
   refine eB (R:=∃A cc,v2=H A (iv+1) cc) (fun wx hm=>dW (hm.ownI 0 D)) ?_
   rintro ⟨vA2,vc2,rfl⟩
   refine bH (nw 11 511 (fun _ _=>bB) fun z=>wq 9 D (bW xU D D) (eD 10 D (fX 3 bU7 D D D D D D (bH (nw 11 2047 (fun _ _=>bB) fun z=>gY (bK (bG (bM (fY D D (bS D (bH ?_)))))))))))
   have hxs:vl.flatMap kG++([U nm,U s9]:List Value)=(vl++ [(⟨nm,s9⟩:Vh)]).flatMap kG:=by simp [kG]
   rw [hxs]
   exact cQ (iv+1,vA2,vc2,vl++ [(⟨nm,s9⟩:Vh)]) ⟨bE,bL6 hv3 hx hx4 hnz zs9 (cU5 hcg hs9)⟩ bE ⟨D,D,D,D,D,(cP G),bB⟩ (fun _ hm=>(hm.more D (by first|omega|(dsimp only;omega))).pick [2,3,4,5] [0] [0] D D)
  refine dX (γ:=M) (val:=fun v=>U v) (φ:=fun v=>v∈([⟨#[109,105,110,105]⟩,⟨#[109,105,110,105]⟩,⟨#[109,105,100,105]⟩]:List M)) D uU D D D D (fun wx hm=>(jE [⟨#[109,105,110,105]⟩,⟨#[109,105,110,105]⟩,⟨#[109,105,100,105]⟩] _ _ _ wx B sb _ hm.k G (by simp) (by simp) (hm.blkI 0 D) (hm.neRow 0 D D))) fun s11 hs11=>?_
  have zs11:s11.size<=100:=kX hs11 bD
  refine bH (nw 11 61 (fun _ _=>bB) fun z=>wq 6 D (dL (cs:= [U nm,U s11]) D bC) ?_)
  refine jC [1,7] bC D ⟨⟨_,D,?_⟩,⟨_,D,?_⟩,bB⟩
  ·refine eO bU7 2 D D D (bH ?_)
   refine nw 11 127 (fun _ _=>bB) fun z=>eD 7 D (jN 55 [U nm,U s11] fun g12=>bH (nw 11 255 (fun _ _=>bB) fun z=>eD 8 D (eP (news:= [U nm,U s11]) 0 0 eW4 D D D D D D D G (by unfold maxLen;omega) D D fun v2 xK=>?_)))
   refine eB (R:=∃A cc,v2=H A (iv+1) cc) (fun wx hm=>dW (hm.ownI 0 D)) ?_
   rintro ⟨vA2,vc2,rfl⟩
   refine bH (nw 11 511 (fun _ _=>bB) fun z=>wq 9 D (bW xU D D) (eD 10 D (fX 3 bU7 D D D D D D (bH (nw 11 2047 (fun _ _=>bB) fun z=>gY (bK (bG (bM (fY D D (bS D (bH ?_)))))))))))
   have hxs:vl.flatMap kG++([U nm,U s11]:List Value)=(vl++ [(⟨nm,s11⟩:Vh)]).flatMap kG:=by simp [kG]
   rw [hxs]
   exact cQ (iv+1,vA2,vc2,vl++ [(⟨nm,s11⟩:Vh)]) ⟨bE,bL6 hv3 hx hx4 hnz zs11 (cU5 hcg hs11)⟩ bE ⟨D,D,D,D,D,(cP G),bB⟩ (fun _ hm=>(hm.more D (by first|omega|(dsimp only;omega))).pick [2,3,4,5] [0] [0] D D)
  refine jN 55 [U nm,U s11] fun g13=>bH (nw 11 253 (fun _ _=>bB) fun z=>eD 1 D (eO bU7 3 D D D (bH (nw 11 255 (fun _ _=>bB) fun z=>eD 8 D (eP (news:= [U nm,U s11]) 0 0 eW4 D D D D D D D G (by unfold maxLen;omega) D D fun v2 xK=>?_)))))
  refine eB (R:=∃A cc,v2=H A (iv+1) cc) (fun wx hm=>dW (hm.ownI 0 D)) ?_
  rintro ⟨vA2,vc2,rfl⟩
  refine bH (nw 11 511 (fun _ _=>bB) fun z=>wq 9 D (bW xU D D) (eD 10 D (fX 3 bU7 D D D D D D (bH (nw 11 2047 (fun _ _=>bB) fun z=>gY (bK (bG (bM (fY D D (bS D (bH ?_)))))))))))
  have hxs:vl.flatMap kG++([U nm,U s11]:List Value)=(vl++ [(⟨nm,s11⟩:Vh)]).flatMap kG:=by simp [kG]
  rw [hxs]
  exact cQ (iv+1,vA2,vc2,vl++ [(⟨nm,s11⟩:Vh)]) ⟨bE,bL6 hv3 hx hx4 hnz zs11 (cU5 hcg hs11)⟩ bE ⟨D,D,D,D,D,(cP G),bB⟩ (fun _ hm=>(hm.more D (by first|omega|(dsimp only;omega))).pick [2,3,4,5] [0] [0] D D)
 refine dD (bI (bI (bY (bG (bJ ?_)))))
 have hi3:iv=3:=G
 subst hi3
 refine gd (fun wz=>Blk wz g3 31 [H (some ⟨g2,0,none⟩) 2 2,H cA 4 cc,H vA 3 vc,H none 0 0]/\True) mixed (fun _ hm=>⟨hm.bl 1,bB⟩) fun z=>wq 0 D (dG eZ6 D (fun _ hm=>hm.1) D D) (wq 1 D (bL D) (wq 3 D (bL D) (eD 2 D ?_)))
 refine pH (γ:=Option Addr×Option Addr×Option Addr×Option Addr×Option Addr×Nat×Nat×Nat×Nat×Nat×Nat×Nat×Nat×Nat×Nat) (val:=(fun g=> .agg #[H g.1 g.2.2.2.2.2.1 g.2.2.2.2.2.2.1,H g.2.1 g.2.2.2.2.2.2.2.1 g.2.2.2.2.2.2.2.2.1,H g.2.2.1 g.2.2.2.2.2.2.2.2.2.1 g.2.2.2.2.2.2.2.2.2.2.1,H g.2.2.2.1 g.2.2.2.2.2.2.2.2.2.2.2.1 g.2.2.2.2.2.2.2.2.2.2.2.2.1,H g.2.2.2.2.1 g.2.2.2.2.2.2.2.2.2.2.2.2.2.1 g.2.2.2.2.2.2.2.2.2.2.2.2.2.2])) (φ:=(fun g=>True)) (Y:=(fun g=>fun wy=>dO6 (H g.1 g.2.2.2.2.2.1 g.2.2.2.2.2.2.1) (H g.2.1 g.2.2.2.2.2.2.2.1 g.2.2.2.2.2.2.2.2.1) (H g.2.2.1 g.2.2.2.2.2.2.2.2.2.1 g.2.2.2.2.2.2.2.2.2.2.1) (H g.2.2.2.1 g.2.2.2.2.2.2.2.2.2.2.2.1 g.2.2.2.2.2.2.2.2.2.2.2.2.1) (H g.2.2.2.2.1 g.2.2.2.2.2.2.2.2.2.2.2.2.2.1 g.2.2.2.2.2.2.2.2.2.2.2.2.2.2) wy)) (m':=m+23+6000) D fZ6 D D D D (fun wx hm=>(fB5 wx B sb _ hm.k G)) (fun _=>dO6.lasts2 D D D D D D) ?_
 rintro ⟨raA,rbA,rcA,rdA,reA,ran,rac,yT,rbc,yU,rcc,yV,rdc,ren,rec⟩ mO
 dsimp only
 clear mO
 refine bH (nw 7 15 (fun _ hm=>⟨hm.bl 1,bB⟩) fun z=>eD 4 D ?_)
 refine pH (γ:=Int×Int×Int×Int×Int×Int×Int) (val:=(fun g=> .agg #[J g.1,J g.2.1,J g.2.2.1,J g.2.2.2.1,J g.2.2.2.2.1,J g.2.2.2.2.2.1,J g.2.2.2.2.2.2])) (φ:=(fun g=>xF ⟨g.1,g.2.1,g.2.2.1,g.2.2.2.1,g.2.2.2.2.1,g.2.2.2.2.2.1,g.2.2.2.2.2.2⟩=0)) (Y:=(fun g=>fun _=>True)) (m':=m+23+6000+400) D fA7 D D D D (fun wx hm=>(cM3 wx B sb _ hm.k G).mono fun _ _ ⟨d,hd,he,hS,hg⟩=>⟨(d.free,d.km,d.eighth,d.grace,d.hour,d.day,d.deposit),he,hd,hS,hg,bB⟩) (fun _=>Lasts2.true_) ?_
 rintro ⟨da,db,dc,dd,de,df,dg⟩ hdz
 dsimp only at hdz ⊢
 refine bH (nw 7 31 (fun _ hm=>⟨hm.bl 1,bB⟩) fun z=>wq 5 D (dL (cs:= [H (some ⟨g2,0,none⟩) 2 2,H cA 4 cc,H vA 3 vc,H none 0 0,H raA ran rac,H rbA yT rbc,H rcA yU rcc,H rdA yV rdc,H reA ren rec,J da,J db,J dc,J dd,J de,J df,J dg]) D bC) (eD 6 D (kE (cs':= [H (some ⟨g2,0,none⟩) 2 2,H cA 4 cc,H vA 3 vc,H none 0 0,H raA ran rac,H rbA yT rbc,H rcA yU rcc,H rdA yV rdc,H reA ren rec,J da,J db,J dc,J dd,J de,J df,J dg]) 3 dK0 D D D D (bH (nw 7 127 (fun _ hm=>⟨hm.bl 1,bB⟩) fun z=>gY (bG (bR ?_)))))))
 refine bU9 3 D dK0 D D D fun wx hm=>?_
 exact ⟨_,cA,vA,2,cc,vc,cl,vl,raA,rbA,rcA,rdA,reA,ran,rac,yT,rbc,yU,rcc,yV,rdc,ren,rec,da,db,dc,dd,de,df,dg,D,⟨hcl4,cV6,hcg,hv3⟩,fU1 (hm.blkI 2 D),(hm.fact 2 D),SlT.ofOwn fE2 (hm.ownI 0 D) hv3.1,eC6 hdz (hm.fact 1 D),hm.k.more G,hm.g⟩
def xZ(x y:Ny):Bool:=decide (yN x y < 0)
theorem eZ1(l0:List Ny)(br n eX base:Nat)(w:World)(h:w.ownsRow base 128 4 (H (some ⟨br,0,none⟩) n eX) n (l0.flatMap fJ))(rN:l0.length=n)(hn:n<=1000000)(qD:∀x∈l0,vN x):
 Calls prog 124 #[H (some ⟨br,0,none⟩) n eX,J 0,I n,.func (.func 49) #[] #[]] w (fun e w'=>e=.returned (.tuple #[])/\w'.ownsRow base 128 4 (H (some ⟨br,0,none⟩) n eX) n ((dY (xZ) l0).flatMap fJ)/\w.grownBy w' (some br)):=by
 obtain ⟨R,hR⟩:∃z,z=dY (xZ) l0:=⟨_,rfl⟩
 rw [<-hR]
 refine cY ⟨53,w,(some br), []⟩ func124 D ntmps124 D (bX0 (X:= []) h cZ dA) (bX (bS D (fY D D (bO 11 (v':=J 1) D D (cG D (bU (bP ?_)))))))
 refine dS (γ:=Nat×List Ny) (fun gg=>(1<=gg.1/\gg.1<=n+1)/\gg.2.length=n/\mP (xZ) (n - gg.1) gg.1 gg.2=R) (fun gg=> [(0,H (some ⟨br,0,none⟩) n eX),(1,J 0),(2,I n),(3,.func (.func 49) #[] #[]),(8,I (gg.1))]) (fun gg=>gA base 128 4 n eX br ((gg.2).flatMap fJ)) (fun gg=> []) (fun gg=> []) (fun gg=> []) (fun gg=>n+1 - gg.1) (1,l0) ⟨⟨Nat.le_refl _,G⟩,rN,by rw [hR];unfold dY;rw [rN]⟩ ⟨D,D,D,D,(cP G),bB⟩ (fun _ hm=>hm.pick [] [] [] D D) ?_
 rintro ⟨i,l⟩ bZ
 replace bZ:(1<=i/\i<=n+1)/\l.length=n/\mP (xZ) (n - i) i l=R:=bZ
 dsimp only
 refine bJ (bX ?_)
 obtain ⟨⟨hi1,zI⟩,hl1,hR1⟩:=bZ
 refine bS D (bS D (W (dF D D) D (bU ?_)))
 refine cN D (fun hi=>?_) (fun hi=>?_)
 ·refine bN (bG (bJ (bP (bX ?_))))
  have hRi:mP (xZ) (n - (i+1)) (i+1) (qL (xZ) i l)=R:=by rw [<-hR1,show n - i=(n - (i+1))+1 by omega];rfl
  obtain ⟨S,hS⟩:∃z,z=qL (xZ) i l:=⟨_,rfl⟩
  rw [<-hS] at hRi
  have hSl:S.length=n:=by rw [hS,wZ];exact hl1
  refine bS D (cG D (bU (bP ?_)))
  refine dS (γ:=Nat×List Ny) (fun gg=>(gg.1<=i)/\gg.2.length=n/\qL (xZ) gg.1 gg.2=S) (fun gg=> [(0,H (some ⟨br,0,none⟩) n eX),(1,J 0),(2,I n),(3,.func (.func 49) #[] #[]),(8,I i),(9,I (gg.1))]) (fun gg=>gA base 128 4 n eX br ((gg.2).flatMap fJ)) (fun gg=> []) (fun gg=> []) (fun gg=> []) (fun gg=>gg.1) (i,l) ⟨Nat.le_refl _,hl1,hS.symm⟩ ⟨D,D,D,D,D,D,bB⟩ (fun _ hm=>hm.pick [] [] [] D D) ?_
  rintro ⟨jj,m⟩ bZ
  replace bZ:(jj<=i)/\m.length=n/\qL (xZ) jj m=S:=bZ
  dsimp only
  refine bJ (bJ ?_)
  obtain ⟨hj1,nR,hS1⟩:=bZ
  rcases jj with _|j
  ·refine gd (fun wz=>True) mixed (fun _ _=>bB) fun z=>?_
   refine wq 0 D (bL D) (dI 18 (v':=J 0) D D (wq 1 D (bL D) (wq 2 D (eM D D) (dI 20 (v':= .bool false) D (fW9 bD) (wq 3 D (bL D) (eL 4 D (eL 5 D (eL 6 D (eL 7 D (eL 8 D (eL 9 D (eL 10 D (eL 11 D (eL 12 D (eL 13 D (eL 14 D (eL 15 D (wq 16 D (eZ D D) (gY (bG (jK D (dD (bI (bI (bY ?_)))))))))))))))))))))))))
   refine bK (bG (bM (bS D (fY D D (cG D (bH ?_))))))
   have hm2:m=S:=hS1
   exact cQ (i+1,m) ⟨⟨bE,bE⟩,by rw [hm2];exact hSl,by rw [hm2];exact hRi⟩ bE ⟨D,D,D,D,(cP G),bB⟩ (fun _ hm=>hm.pick [] [] [] D D)
  have hj2:j+1 < n:=G
  have hin:∀z∈m,z∈l0:=fun z hz=>eJ2 hR hRi hS1 hz
  obtain ⟨xx,hx⟩:∃x,m[j+1]?=some x:=⟨_,fY9 G⟩
  obtain ⟨x0,x1,x2,x3⟩:=xx
  obtain ⟨yy,hy⟩:∃x,m[j]?=some x:=⟨_,fY9 G⟩
  obtain ⟨y0,y1,y2,y3⟩:=yy
  refine gd (fun wz=>(gA base 128 4 n eX br ((m).flatMap fJ)) wz/\True) mixed (fun _ hm=>⟨hm.k,bB⟩) fun z=>wq 0 D (bL D) (wq 1 D (bL D) (wq 2 D (eM D D) (dI 20 (v':= .bool true) D (fW9 (decide_eq_true G)) (wq 3 D (bL D) (eU 4 D (bL D) (eU 5 D (bL D) (eU 6 D (bL D) (eU 7 D (bV (j:=(j+1)) vX D D G) (eU 8 D (dR (vs:= [J x0,U x1,J x2,U x3]) kU D (fun _ hm=>(gA.get (hm.1) wX nR)) hx D D) (eU 9 D (bL D) (eU 10 D (bL D) (eU 11 D (ov_sub D D G G) (dI 29 (v':=I j) D (fX9 G) (eU 12 D (bV (j:=j) vX D D G) (eU 13 D (dR (vs:= [J y0,U y1,J y2,U y3]) kU D (fun _ hm=>(gA.get (hm.1) wX nR)) hy D D) (eD 14 D (eN D (cR D fM4 D D (fun wx hm=>(bM1 x0 x1 x2 x3 y0 y1 y2 y3 wx (qD _ (hin _ (fZ9 hx))) (qD _ (hin _ (fZ9 hy))))) (bH (nw 17 32767 (fun _ hm=>⟨hm.k,bB⟩) fun z=>eU 15 D (dF D D) (wq 16 D (fG D D) (gY (bG ?_)))))))))))))))))))))))
  refine cN D (fun hlt=>?_) (fun hlt=>?_)
  ·refine bN (bG (bJ (bP ?_)))
   have hlt2:(xZ) ⟨x0,x1,x2,x3⟩ ⟨y0,y1,y2,y3⟩=true:=decide_eq_true (show yN ⟨x0,x1,x2,x3⟩ ⟨y0,y1,y2,y3⟩ < 0 from hlt)
   have hS2:=(xA hx hy hlt2).symm.trans hS1
   refine gd (fun wz=>True) mixed (fun _ _=>bB) fun z=>wq 0 D (bL D) (wq 1 D (bL D) (wq 2 D (bL D) (wq 3 D (bL D) (wq 4 D (ov_sub D D G G) (dI 41 (v':=I j) D (fX9 G) (wq 5 D (bL D) (wq 6 D (bL D) (wq 7 D (ov_sub D D G G) (dI 44 (v':=I j) D (fX9 G) (wq 8 D (bV (j:=j) vX D D G) (wq 10 D (bL D) (wq 11 D (bL D) (wq 12 D (bV (j:=(j+1)) vX D D G) ?_)))))))))))))
   refine jC [9,13] bC D ⟨⟨_,D,?_⟩,⟨_,D,?_⟩,bB⟩
   ·refine W (dR (vs:= [J y0,U y1,J y2,U y3]) kU D (fun _ hm=>(gA.get hm.k wX nR)) hy D D) D ?_
    refine bH (nw 18 8191 (fun _ _=>bB) fun z=>eD 13 D (W (dR (vs:= [J x0,U x1,J x2,U x3]) kU D (fun _ hm=>(gA.get hm.k wX nR)) hx D D) D (bH (nw 18 16383 (fun _ _=>bB) fun z=>wq 14 D (bV (j:=(j+1)) vX D D G) (eD 15 D (fN (l:=m) (j:=j+1) (r:=0) (el:=⟨x0,x1,x2,x3⟩) (el':=⟨y0,y1,y2,y3⟩) D kU D D D D wX D hx nR bD D D (bH (nw 18 65535 (fun _ _=>bB) fun z=>wq 16 D (bV (j:=j) vX D D G) (eD 17 D ?_)))))))))
    refine fN (l:=m.set (j+1) ⟨y0,y1,y2,y3⟩) (j:=j) (r:=0) (el:=⟨y0,y1,y2,y3⟩) (el':=⟨x0,x1,x2,x3⟩) D kU D D D D wX D (by rw [List.getElem?_set_ne G];exact hy) (by rw [List.length_set];exact nR) bD D D ?_
    refine bH (nw 18 262143 (fun _ _=>bB) fun z=>gY (bK (bG (bM (bS D (W (ov_sub D D G G) D (bO 36 (v':=I j) D (fX9 G) (cG D (bH ?_)))))))))
    exact cQ (j,(m.set (j+1) ⟨y0,y1,y2,y3⟩).set j ⟨x0,x1,x2,x3⟩) ⟨bE,by simp [nR],hS2⟩ bE ⟨D,D,D,D,D,(cP G),bB⟩ (fun _ hm=>hm.pick [] [] [] D D)
   refine W (dR (vs:= [J x0,U x1,J x2,U x3]) kU D (fun _ hm=>(gA.get hm.k wX nR)) hx D D) D (bH (nw 18 15871 (fun _ _=>bB) fun z=>eD 9 D (W (dR (vs:= [J y0,U y1,J y2,U y3]) kU D (fun _ hm=>(gA.get hm.k wX nR)) hy D D) D (bH (nw 18 16383 (fun _ _=>bB) fun z=>wq 14 D (bV (j:=(j+1)) vX D D G) (eD 15 D (fN (l:=m) (j:=j+1) (r:=0) (el:=⟨x0,x1,x2,x3⟩) (el':=⟨y0,y1,y2,y3⟩) D kU D D D D wX D hx nR bD D D (bH (nw 18 65535 (fun _ _=>bB) fun z=>wq 16 D (bV (j:=j) vX D D G) (eD 17 D ?_))))))))))
   refine fN (l:=m.set (j+1) ⟨y0,y1,y2,y3⟩) (j:=j) (r:=0) (el:=⟨y0,y1,y2,y3⟩) (el':=⟨x0,x1,x2,x3⟩) D kU D D D D wX D (by rw [List.getElem?_set_ne G];exact hy) (by rw [List.length_set];exact nR) bD D D ?_
   refine bH (nw 18 262143 (fun _ _=>bB) fun z=>gY (bK (bG (bM (bS D (W (ov_sub D D G G) D (bO 36 (v':=I j) D (fX9 G) (cG D (bH ?_)))))))))
   exact cQ (j,(m.set (j+1) ⟨y0,y1,y2,y3⟩).set j ⟨x0,x1,x2,x3⟩) ⟨bE,by simp [nR],hS2⟩ bE ⟨D,D,D,D,D,(cP G),bB⟩ (fun _ hm=>hm.pick [] [] [] D D)
  refine dD (bI (bI (bY (bK (bG (bM ?_))))))
  have hlt2:(xZ) ⟨x0,x1,x2,x3⟩ ⟨y0,y1,y2,y3⟩=false:=decide_eq_false (show ¬yN ⟨x0,x1,x2,x3⟩ ⟨y0,y1,y2,y3⟩ < 0 from hlt)
  have hS2:=(bD0 hx hy hlt2).symm.trans hS1
  refine bS D (fY D D (cG D (bH ?_)))
  have hm2:m=S:=hS2
  exact cQ (i+1,m) ⟨⟨bE,bE⟩,by rw [hm2];exact hSl,by rw [hm2];exact hRi⟩ bE ⟨D,D,D,D,(cP G),bB⟩ (fun _ hm=>hm.pick [] [] [] D D)
 refine dD (bI (bI (bY ?_)))
 obtain rfl:l=R:=by rw [<-hR1,show n - i=0 by omega];rfl
 refine jF D fun wx hm=>?_
 exact ⟨D,kS hm.k hm.g⟩
theorem dS2(l0:List Ny)(br n eX base:Nat)(w:World)(h:w.ownsRow base 128 4 (H (some ⟨br,0,none⟩) n eX) n (l0.flatMap fJ))(hn:n<=1000000):Calls prog 124 #[H (some ⟨br,0,none⟩) n eX,I n,I n,.func (.func 49) #[] #[]] w (fun e w'=>e=.returned (.tuple #[])/\w'.ownsRow base 128 4 (H (some ⟨br,0,none⟩) n eX) n ((l0).flatMap fJ)/\w.grownBy w' (some br)):=by
 refine cY ⟨53,w,(some br), []⟩ func124 D ntmps124 D (bX0 (X:= []) h cZ dA) (bX (bS D (fY D D (cG D (bU (bP (fF 1 (eK (bJ (bX (bS D (bS D (W (dF D D) D (bU (kR 14 (v':= .bool false) D (fW9 (decide_eq_false G)) (jK D (dD (bI (bI (bY ?_))))))))))))))))))))
 refine jF D fun wx hm=>?_
 exact ⟨D,kS hm.k hm.g⟩
theorem eF7(l0:List Ny)(br n eX base:Nat)(w:World)(h:w.ownsRow base 128 4 (H (some ⟨br,0,none⟩) n eX) n (l0.flatMap fJ))(rN:l0.length=n)(hn:n<=19)(qD:∀x∈l0,vN x):Calls prog 84 #[H (some ⟨br,0,none⟩) n eX,I n,.func (.func 49) #[] #[]] w (fun e w'=>e=.returned (.tuple #[])/\w'.ownsRow base 128 4 (H (some ⟨br,0,none⟩) n eX) n ((dY xZ l0).flatMap fJ)/\w.grownBy w' (some br)):=by
 refine cY ⟨63,w,(some br), []⟩ func84 D ntmps84 D (bX0 (X:= []) h cZ dA) (bX (cG D (bU (bX (bS D (cG D (cG D (bU (bJ (bP (fF 1 (eK (bJ (bX (bS D (bS D (W (mJ D D) D (bO 13 (v':= .bool false) D (fW9 (decide_eq_false G)) (bU (jK D (dD (bI (bI (bY ?_))))))))))))))))))))))))
 refine bG (bX (bS D (bS D (bS D (bS D ?_)))))
 refine kW D D D dS4 D D (fun wx hm=>(eZ1 l0 br n eX base wx hm.k rN G qD)) ?_
 refine bU (bP (fF 1 (eK (bJ (bX (bS D (bS D (W (dF D D) D (bO 30 (v':= .bool false) D (fW9 (decide_eq_false G)) (bU (jK D (dD (bI (bI (bY ?_)))))))))))))))
 refine jF D fun wx hm=>?_
 exact ⟨D,kS hm.k hm.g⟩
theorem eH7(l0:List Ny)(br n eX base:Nat)(w:World)(h:w.ownsRow base 128 4 (H (some ⟨br,0,none⟩) n eX) n (l0.flatMap fJ))(rN:l0.length=n)(hn:n=20)(qD:∀x∈l0,vN x):Calls prog 84 #[H (some ⟨br,0,none⟩) n eX,I n,.func (.func 49) #[] #[]] w (fun e w'=>e=.returned (.tuple #[])/\w'.ownsRow base 128 4 (H (some ⟨br,0,none⟩) n eX) n ((dY xZ l0).flatMap fJ)/\w.grownBy w' (some br)):=by
 refine cY ⟨63,w,(some br), []⟩ func84 D ntmps84 D (bX0 (X:= []) h cZ dA) (bX (cG D (bU (bX (bS D (cG D (cG D (bU (bJ (bP (fF 3 (eK (bJ (bX (bS D (bS D (W (mJ D D) D (bU (kR 13 (v':= .bool true) D (fW9 (decide_eq_true G)) (mT D (bN (bG (bP (bX (bS D (bS D (bS D (bS D ?_))))))))))))))))))))))))))))
 refine kW (xs':=(dY xZ l0).flatMap fJ) D D D dS4 D D (fun wx hm=>(by have h:=eZ1 l0 br n eX base wx hm.k rN G qD;rw [hn] at h ⊢;exact h)) ?_
 refine bU (bX (bS D (cG D (bU (bM (bS D (bS D (fY D D (bO 22 (v':=J 40) D D (cG D (bH (bK (jL (eK (bJ (bX (bS D (bS D (W (mJ D D) D (bU (kR 13 (v':= .bool false) D (fW9 (decide_eq_false G)) (jK D (dD (bI (bI (bY ?_))))))))))))))))))))))))))
 refine bG (bX (bS D (bS D (bS D (bS D ?_)))))
 refine kW (xs':=(dY xZ l0).flatMap fJ) D D D dS4 D D (fun wx hm=>(by have h:=dS2 (dY xZ l0) br n eX base wx hm.k G;rw [hn] at h ⊢;exact h)) ?_
 refine bU (bP (fF 3 (eK (bJ (bX (bS D (bS D (W (dF D D) D (bU (kR 30 (v':= .bool false) D (fW9 (decide_eq_false G)) (jK D (dD (bI (bI (bY ?_)))))))))))))))
 refine jF D fun wx hm=>?_
 exact ⟨D,kS hm.k hm.g⟩
theorem dA9(l0:List Ny)(br n eX base:Nat)(w:World)(h:w.ownsRow base 128 4 (H (some ⟨br,0,none⟩) n eX) n (l0.flatMap fJ))(rN:l0.length=n)(hn:n<=20)(qD:∀x∈l0,vN x):Calls prog 48 #[H (some ⟨br,0,none⟩) n eX,.func (.func 49) #[] #[]] w (fun e w'=>e=.returned (.tuple #[])/\w'.ownsRow base 128 4 (H (some ⟨br,0,none⟩) n eX) n ((dY xZ l0).flatMap fJ)/\w.grownBy w' (some br)):=by
 refine cY ⟨9,w,(some br), []⟩ func48 D ntmps48 D (bX0 (X:= []) h cZ dA) (bM (bS D (bS D (W (dP vX D) D (bS D ?_)))))
 refine kW (xs':=(dY xZ l0).flatMap fJ) D D D fQ4 D D (fun wx hm=>(by
  rcases (show n<=19∨n=20 by omega) with h9|h9
  ·exact eF7 l0 br n eX base wx hm.k rN h9 qD
  exact eH7 l0 br n eX base wx hm.k rN h9 qD)) ?_
 refine bH ?_
 refine jF D fun wx hm=>?_
 exact ⟨D,kS hm.k hm.g⟩
theorem eF6(A:Option Addr)(eX:Nat)(w:World):Calls prog 124 #[H A 0 eX,J 0,J 0,.func (.func 49) #[] #[]] w (fun e w'=>e=.returned (.tuple #[])/\w.grownBy w' none):=by
 refine cY ⟨53,w,none, []⟩ func124 D ntmps124 D (fZ (X:= []) cZ dA) (bX (bS D (fY D D (bO 11 (v':=J 1) D D (cG D (bU (bP (fF 1 (eK (bJ (bX (bS D (bS D (W (dF D D) D (bO 14 (v':= .bool false) D (fW9 bD) (bU (jK D (dD (bI (bI (bY ?_)))))))))))))))))))))
 refine jF D fun wx hm=>?_
 exact ⟨D,hm.g⟩
theorem eD7(A:Option Addr)(eX:Nat)(w:World):Calls prog 84 #[H A 0 eX,J 0,.func (.func 49) #[] #[]] w (fun e w'=>e=.returned (.tuple #[])/\w.grownBy w' none):=by
 refine cY ⟨63,w,none, []⟩ func84 D ntmps84 D (fZ (X:= []) cZ dA) (bX (cG D (bU (bX (bS D (cG D (cG D (bU (bJ (bP (fF 1 (eK (bJ (bX (bS D (bS D (W (mJ D D) D (bO 13 (v':= .bool false) D (fW9 bD) (bU (jK D (dD (bI (bI (bY ?_))))))))))))))))))))))))
 refine bG (bX (bS D (bS D (bS D (bS D (cR D dS4 D D (fun wx hm=>(eF6 A eX wx)) (bU (bP (fF 1 (eK (bJ (bX (bS D (bS D (W (dF D D) D (bO 30 (v':= .bool false) D (fW9 bD) (bU (jK D (dD (bI (bI (bY ?_))))))))))))))))))))))
 refine jF D fun wx hm=>?_
 exact ⟨D,hm.g⟩
theorem dY3(A:Option Addr)(eX:Nat)(w:World):Calls prog 48 #[H A 0 eX,.func (.func 49) #[] #[]] w (fun e w'=>e=.returned (.tuple #[])/\w.grownBy w' none):=by
 refine cY ⟨9,w,none, []⟩ func48 D ntmps48 D (fZ (X:= []) cZ dA) (bM (W (bL D) D (W (bL D) D (W (dP vX D) D (bO 6 (v':=J 0) D D (W (bL D) D (cR D fQ4 D D (fun wx hm=>(eD7 A eX wx)) (bH ?_))))))))
 refine jF D fun wx hm=>?_
 exact ⟨D,hm.g⟩
theorem eN2:∀(k u:Nat),u < 10 ^ (k+1)->(Lib.decDigits u).length<=k+1
 |0,u,h=>by
  rw [Lib.decDigits_length,Lib.nDigits_small (by simpa using h)];exact Nat.le_refl _
 |k+1,u,h=>by
  by_cases h1:u < 10
  ·rw [Lib.decDigits_length,Lib.nDigits_small h1];omega
  ·have h2:=eN2 k (u / 10) (by rw [Nat.div_lt_iff_lt_mul bD];rw [Nat.pow_succ] at h;exact h)
   rw [Lib.decDigits_length] at h2 ⊢
   rw [Lib.nDigits_big h1];omega
theorem dI5{v:Int}(h: -9223372036854775808<=v/\v<=9223372036854775807):(bJ8 v).size<=21:=by
 unfold bJ8
 rw [eH9]
 unfold Lib.itoa
 split
 ·rw [List.length_cons]
  have:=eN2 19 v.natAbs G
  omega
 ·have:=eN2 19 v.toNat G
  omega
theorem cQ1(at_:Int)(w:World)(B sb m:Nat)(hS:fQ 25 w B sb m)(hm:m<=1000000)(htx:TxtO w.heap.size (some sb) w)(hat:0<=at_/\at_<=100000):
 Calls prog 46 #[.pointer (some ⟨sb,0,none⟩),J at_] w (fun e w'=>∃t,e=.returned (U t)/\t.size<=1000/\fQ 25 w' B sb (m+10)/\w.grownBy w' (some sb)):=by
 refine cY ⟨162,w,(some sb), []⟩ func46 D ntmps46 D (bU5 (X:= [TxtO w.heap.size (some sb)]) hS (cC htx cZ) (cE TxtO.lasts dA)) (bX ?_)
 have l0:(⟨#[]⟩:M).size=0:=rfl
 have l1:(⟨#[118,49]⟩:M).size=2:=rfl
 have l2:(⟨#[118,50]⟩:M).size=2:=rfl
 have l3:(⟨#[118,51]⟩:M).size=2:=rfl
 have l4:(⟨#[110,111,110,101]⟩:M).size=4:=rfl
 have l5:(⟨#[115,49]⟩:M).size=2:=rfl
 have l6:(⟨#[115,50]⟩:M).size=2:=rfl
 have l7:(⟨#[115,57]⟩:M).size=2:=rfl
 have l8:(⟨#[104,49]⟩:M).size=2:=rfl
 have l9:(⟨#[104,50]⟩:M).size=2:=rfl
 have l10:(⟨#[104,51]⟩:M).size=2:=rfl
 have l11:(⟨#[65]⟩:M).size=1:=rfl
 have l12:(⟨#[101,110,116,101,114,32]⟩:M).size=6:=rfl
 have l13:(⟨#[32]⟩:M).size=1:=rfl
 have l14:(⟨#[115,104,111,112]⟩:M).size=4:=rfl
 have l15:(⟨#[100,111,110,101]⟩:M).size=4:=rfl
 have l16:(⟨#[99,111,109,101]⟩:M).size=4:=rfl
 have l17:(⟨#[103,111,110,101]⟩:M).size=4:=rfl
 have l18:(⟨#[108,101,97,118,101,32]⟩:M).size=6:=rfl
 have l19:(⟨#[98,111,111,107,32]⟩:M).size=5:=rfl
 have l20:(⟨#[109,105,110,105]⟩:M).size=4:=rfl
 have l21:(⟨#[109,105,100,105]⟩:M).size=4:=rfl
 have l22:(⟨#[53,48]⟩:M).size=2:=rfl
 have l23:(⟨#[49,48,48]⟩:M).size=3:=rfl
 have l24:(⟨#[49,48,49]⟩:M).size=3:=rfl
 have l25:(⟨#[99,97,110,99,101,108,32]⟩:M).size=7:=rfl
 have l26:(⟨#[115,116,97,114,116,32]⟩:M).size=6:=rfl
 have l27:(⟨#[32,97,110,110,32]⟩:M).size=5:=rfl
 have l28:(⟨#[48]⟩:M).size=1:=rfl
 have l29:(⟨#[57,57,57,57,57,48]⟩:M).size=6:=rfl
 have l30:(⟨#[56]⟩:M).size=1:=rfl
 have l31:(⟨#[52]⟩:M).size=1:=rfl
 have l32:(⟨#[57]⟩:M).size=1:=rfl
 have l33:(⟨#[115,119,97,112,32]⟩:M).size=5:=rfl
 have l34:(⟨#[32,49,53,48,32,52,32]⟩:M).size=7:=rfl
 have l35:(⟨#[32,55,32,56]⟩:M).size=4:=rfl
 have l36:(⟨#[101,120,116,101,110,100,32]⟩:M).size=7:=rfl
 have l37:(⟨#[99,108,111,115,101,32]⟩:M).size=6:=rfl
 have l38:(⟨#[53]⟩:M).size=1:=rfl
 have l39:(⟨#[51,48,48]⟩:M).size=3:=rfl
 have l40:(⟨#[52,48,48]⟩:M).size=3:=rfl
 have l41:(⟨#[50]⟩:M).size=1:=rfl
 have l42:(⟨#[112,97,121,32]⟩:M).size=4:=rfl
 have l43:(⟨#[32,49,48,48,48]⟩:M).size=5:=rfl
 have l44:(⟨#[32,53,48,48]⟩:M).size=4:=rfl
 have l45:(⟨#[32,45,49]⟩:M).size=3:=rfl
 have l46:(⟨#[100,97,110,99,101]⟩:M).size=5:=rfl
 have l47:(⟨#[101,110,116,101,114,32,118,49]⟩:M).size=8:=rfl
 have l48:(⟨#[112,97,121,32,32,104,49,32,53]⟩:M).size=9:=rfl
 have l49:(⟨#[98,111,111,107,32,104,49,32,109,105,110,105,32,120,32,53,32,53]⟩:M).size=18:=rfl
 have l50:(⟨#[115,116,97,114,116,32,104,49,32,97,110,110,32,53]⟩:M).size=14:=rfl
 refine cG D (bU (bX (cG D (bU (bX (bS D (jN 9 [U ⟨#[118,49]⟩,U ⟨#[118,49]⟩,U ⟨#[118,50]⟩,U ⟨#[118,51]⟩,U ⟨#[110,111,110,101]⟩] fun g1=>dX (γ:=M) (val:=fun v=>U v) (φ:=fun v=>v∈([⟨#[118,49]⟩,⟨#[118,49]⟩,⟨#[118,50]⟩,⟨#[118,51]⟩,⟨#[110,111,110,101]⟩]:List M)) D uU D D D D (fun wx hm=>(jE [⟨#[118,49]⟩,⟨#[118,49]⟩,⟨#[118,50]⟩,⟨#[118,51]⟩,⟨#[110,111,110,101]⟩] _ _ _ wx B sb _ hm.k G (by simp) (by simp) (hm.blkI 0 D) (hm.neRow 0 D D))) fun s2 hs2=>?_)))))))
 have zs2:s2.size<=100:=kX hs2 bD
 refine cG D (bU (bX (bS D (jN 9 [U ⟨#[115,49]⟩,U ⟨#[115,49]⟩,U ⟨#[115,49]⟩,U ⟨#[115,50]⟩,U ⟨#[115,57]⟩] fun g3=>dX (γ:=M) (val:=fun v=>U v) (φ:=fun v=>v∈([⟨#[115,49]⟩,⟨#[115,49]⟩,⟨#[115,49]⟩,⟨#[115,50]⟩,⟨#[115,57]⟩]:List M)) D uU D D D D (fun wx hm=>(jE [⟨#[115,49]⟩,⟨#[115,49]⟩,⟨#[115,49]⟩,⟨#[115,50]⟩,⟨#[115,57]⟩] _ _ _ wx B sb _ hm.k G (by simp) (by simp) (hm.blkI 0 D) (hm.neRow 0 D D))) fun s4 hs4=>?_))))
 have zs4:s4.size<=100:=kX hs4 bD
 refine cG D (bU (bX (bS D (jN 9 [U ⟨#[104,49]⟩,U ⟨#[104,49]⟩,U ⟨#[104,50]⟩,U ⟨#[104,51]⟩,U ⟨#[65]⟩] fun g5=>dX (γ:=M) (val:=fun v=>U v) (φ:=fun v=>v∈([⟨#[104,49]⟩,⟨#[104,49]⟩,⟨#[104,50]⟩,⟨#[104,51]⟩,⟨#[65]⟩]:List M)) D uU D D D D (fun wx hm=>(jE [⟨#[104,49]⟩,⟨#[104,49]⟩,⟨#[104,50]⟩,⟨#[104,51]⟩,⟨#[65]⟩] _ _ _ wx B sb _ hm.k G (by simp) (by simp) (hm.blkI 0 D) (hm.neRow 0 D D))) fun s6 hs6=>?_))))
 have zs6:s6.size<=100:=kX hs6 bD
 refine cG D (bU (bX (bS D (bS D (bS D (jN 3 [J 10,J 60,J 1440,J 2000,J (-5)] fun g7=>dX (γ:=Int) (val:=fun v=>J v) (φ:=fun v=>v∈([10,60,1440,2000, -5]:List Int)) D uN D D D D (fun wx hm=>(fV [10,60,1440,2000, -5] _ _ _ wx B sb _ hm.k G (by simp) (by simp) (hm.blkI 0 D) (hm.neRow 0 D D))) fun v8 hv8=>?_))))))
 have bv8: -5<=v8/\v8<=2000:=jP hv8 bD
 have bv80:=bv8.1
 have bv81:=bv8.2
 clear bv8
 refine fY D D (cR D eZ9 D D (fun wx hm=>(cD1 (at_+v8) wx (hm.fact 0 D).1 G G)) ?_)
 have zi9:=dI5 (v:=at_+v8) G
 refine cG D (bU (bJ (bX (bS D (dX (γ:=Int) (val:=fun v=>J v) (φ:=fun v=>pN 14 v) D cR5 D D D D (fun wx hm=>(pF _ wx B sb _ hm.k G G G)) fun v10 hv10=>bU (bP ?_))))))
 refine pB (γ:=Bool) (I':=(fun (bb7:Bool)=>True)) (S':=(fun (bb7:Bool)=> [(0,.pointer (some ⟨sb,0,none⟩)),(1,J at_),(4,U ⟨#[]⟩),(5,.func (.func 83) #[] #[]),(6,U s2),(7,U s4),(8,U s6),(9,U (bJ8 (at_+v8))),(27,J v10),(28,.bool bb7)])) (K':=(fun (bb7:Bool)=>fun w=>fQ 25 w B sb (m+1+1+1+1+1))) (L':=(fun (bb7:Bool)=> [(g7,3, [J 10,J 60,J 1440,J 2000,J (-5)]),(g5,9, [U ⟨#[104,49]⟩,U ⟨#[104,49]⟩,U ⟨#[104,50]⟩,U ⟨#[104,51]⟩,U ⟨#[65]⟩]),(g3,9, [U ⟨#[115,49]⟩,U ⟨#[115,49]⟩,U ⟨#[115,49]⟩,U ⟨#[115,50]⟩,U ⟨#[115,57]⟩]),(g1,9, [U ⟨#[118,49]⟩,U ⟨#[118,49]⟩,U ⟨#[118,50]⟩,U ⟨#[118,51]⟩,U ⟨#[110,111,110,101]⟩])])) (O':=(fun (bb7:Bool)=> [])) (X':=(fun (bb7:Bool)=> [TxtO w.heap.size (some sb)])) ?_ ?_
 ·refine bX (W (eT D D) D (cG D (bU ?_)))
  refine cN D (fun h11=>?_) (fun h11=>?_)
  ·refine bN ?_
   exact fH (decide (v10=0)) bB ⟨D,D,D,D,D,D,D,D,D,D,bB⟩ (fun _ hm=>hm.pick [0,1,2,3] [] [0] D D)
  refine bM (W (eT D D) D (cG D (bH ?_)))
  exact fH (decide (v10=1)) bB ⟨D,D,D,D,D,D,D,D,D,D,bB⟩ (fun _ hm=>hm.pick [0,1,2,3] [] [0] D D)
 intro bb7 bZ
 replace bZ:True:=bZ
 refine dE D (fun hh=>?_) (fun hh=>?_)
 ·have h12:bb7=true:=by simpa using hh
  clear hh
  refine bX (bS D (W (fB D D (by (try simp only [ByteArray.size_append]);omega)) D (W (fB D D (by (try simp only [ByteArray.size_append]);omega)) D (bS D (W (fB D D (by (try simp only [ByteArray.size_append]);omega)) D (cG D (bU (bR (C (F ?_))))))))))
  exact bQ D D fun wx hm=>⟨_,D,(by (try simp only [ByteArray.size_append]);omega),hm.k.more G,hm.g⟩
 have h12:bb7=false:=by simpa using hh
 clear hh
 refine bX (W (eT D D) D (cG D (bU ?_)))
 refine cN D (fun h13=>?_) (fun h13=>?_)
 ·refine bX (bS D ?_)
  refine jN 9 [U ⟨#[115,104,111,112]⟩,U ⟨#[100,111,110,101]⟩,U ⟨#[99,111,109,101]⟩,U ⟨#[103,111,110,101]⟩] fun g14=>dX (γ:=M) (val:=fun v=>U v) (φ:=fun v=>v∈([⟨#[115,104,111,112]⟩,⟨#[100,111,110,101]⟩,⟨#[99,111,109,101]⟩,⟨#[103,111,110,101]⟩]:List M)) D uU D D D D (fun wx hm=>(jE [⟨#[115,104,111,112]⟩,⟨#[100,111,110,101]⟩,⟨#[99,111,109,101]⟩,⟨#[103,111,110,101]⟩] _ _ _ wx B sb _ hm.k G (by simp) (by simp) (hm.blkI 0 D) (hm.neRow 0 D D))) fun s15 hs15=>?_
  have zs15:s15.size<=100:=kX hs15 bD
  refine W (fB D D (by (try simp only [ByteArray.size_append]);omega)) D (bS D (W (fB D D (by (try simp only [ByteArray.size_append]);omega)) D (W (fB D D (by (try simp only [ByteArray.size_append]);omega)) D (bS D (W (fB D D (by (try simp only [ByteArray.size_append]);omega)) D (cG D (bU (bR (C (F ?_))))))))))
  exact bQ D D fun wx hm=>⟨_,D,(by (try simp only [ByteArray.size_append]);omega),hm.k.more G,hm.g⟩
 refine bX (W (eT D D) D (cG D (bU ?_)))
 refine cN D (fun h16=>?_) (fun h16=>?_)
 ·refine bX (bS D ?_)
  refine W (fB D D (by (try simp only [ByteArray.size_append]);omega)) D (W (fB D D (by (try simp only [ByteArray.size_append]);omega)) D (bS D (W (fB D D (by (try simp only [ByteArray.size_append]);omega)) D (W (fB D D (by (try simp only [ByteArray.size_append]);omega)) D (bS D (jN 9 [U ⟨#[115,50]⟩,U ⟨#[115,49]⟩,U ⟨#[115,57]⟩] fun g17=>dX (γ:=M) (val:=fun v=>U v) (φ:=fun v=>v∈([⟨#[115,50]⟩,⟨#[115,49]⟩,⟨#[115,57]⟩]:List M)) D uU D D D D (fun wx hm=>(jE [⟨#[115,50]⟩,⟨#[115,49]⟩,⟨#[115,57]⟩] _ _ _ wx B sb _ hm.k G (by simp) (by simp) (hm.blkI 0 D) (hm.neRow 0 D D))) fun s18 hs18=>?_))))))
  have zs18:s18.size<=100:=kX hs18 bD
  refine W (fB D D (by (try simp only [ByteArray.size_append]);omega)) D (cG D (bU (bR (C (F ?_)))))
  exact bQ D D fun wx hm=>⟨_,D,(by (try simp only [ByteArray.size_append]);omega),hm.k.more G,hm.g⟩
 refine bX (W (eT D D) D (cG D (bU ?_)))
 refine cN D (fun h19=>?_) (fun h19=>?_)
 ·refine bX (bS D ?_)
  refine W (fB D D (by (try simp only [ByteArray.size_append]);omega)) D (W (fB D D (by (try simp only [ByteArray.size_append]);omega)) D (bS D (jN 9 [U ⟨#[109,105,110,105]⟩,U ⟨#[109,105,100,105]⟩,U ⟨#[110,111,110,101]⟩] fun g20=>dX (γ:=M) (val:=fun v=>U v) (φ:=fun v=>v∈([⟨#[109,105,110,105]⟩,⟨#[109,105,100,105]⟩,⟨#[110,111,110,101]⟩]:List M)) D uU D D D D (fun wx hm=>(jE [⟨#[109,105,110,105]⟩,⟨#[109,105,100,105]⟩,⟨#[110,111,110,101]⟩] _ _ _ wx B sb _ hm.k G (by simp) (by simp) (hm.blkI 0 D) (hm.neRow 0 D D))) fun s21 hs21=>?_)))
  have zs21:s21.size<=100:=kX hs21 bD
  refine W (fB D D (by (try simp only [ByteArray.size_append]);omega)) D (W (fB D D (by (try simp only [ByteArray.size_append]);omega)) D (bS D (bS D (bS D (jN 3 [J 0,J 10,J 100] fun g22=>dX (γ:=Int) (val:=fun v=>J v) (φ:=fun v=>v∈([0,10,100]:List Int)) D uN D D D D (fun wx hm=>(fV [0,10,100] _ _ _ wx B sb _ hm.k G (by simp) (by simp) (hm.blkI 0 D) (hm.neRow 0 D D))) fun v23 hv23=>?_)))))
  have bv23:0<=v23/\v23<=100:=jP hv23 bD
  have bv230:=bv23.1
  have bv231:=bv23.2
  clear bv23
  refine fY D D (cR D eZ9 D D (fun wx hm=>(cD1 (at_+v23) wx (hm.fact 0 D).1 G G)) ?_)
  have zi24:=dI5 (v:=at_+v23) G
  refine W (fB D D (by (try simp only [ByteArray.size_append]);omega)) D (W (fB D D (by (try simp only [ByteArray.size_append]);omega)) D (bS D (W (fB D D (by (try simp only [ByteArray.size_append]);omega)) D (W (fB D D (by (try simp only [ByteArray.size_append]);omega)) D (bS D (jN 9 [U ⟨#[53,48]⟩,U ⟨#[49,48,48]⟩,U ⟨#[49,48,49]⟩] fun g25=>dX (γ:=M) (val:=fun v=>U v) (φ:=fun v=>v∈([⟨#[53,48]⟩,⟨#[49,48,48]⟩,⟨#[49,48,49]⟩]:List M)) D uU D D D D (fun wx hm=>(jE [⟨#[53,48]⟩,⟨#[49,48,48]⟩,⟨#[49,48,49]⟩] _ _ _ wx B sb _ hm.k G (by simp) (by simp) (hm.blkI 0 D) (hm.neRow 0 D D))) fun s26 hs26=>?_))))))
  have zs26:s26.size<=100:=kX hs26 bD
  refine W (fB D D (by (try simp only [ByteArray.size_append]);omega)) D (cG D (bU (bR (C (F ?_)))))
  exact bQ D D fun wx hm=>⟨_,D,(by (try simp only [ByteArray.size_append]);omega),hm.k.more G,hm.g⟩
 refine bX (W (eT D D) D (cG D (bU ?_)))
 refine cN D (fun h27=>?_) (fun h27=>?_)
 ·refine bX (bS D ?_)
  refine W (fB D D (by (try simp only [ByteArray.size_append]);omega)) D (cG D (bU (bR (C (F ?_)))))
  exact bQ D D fun wx hm=>⟨_,D,(by (try simp only [ByteArray.size_append]);omega),hm.k.more G,hm.g⟩
 refine pB (γ:=Bool) (I':=(fun (bb18:Bool)=>True)) (S':=(fun (bb18:Bool)=> [(0,.pointer (some ⟨sb,0,none⟩)),(4,U ⟨#[]⟩),(6,U s2),(7,U s4),(8,U s6),(9,U (bJ8 (at_+v8))),(27,J v10),(89,.bool bb18)])) (K':=(fun (bb18:Bool)=>fun w=>fQ 25 w B sb (m+1+1+1+1+1))) (L':=(fun (bb18:Bool)=> [(g7,3, [J 10,J 60,J 1440,J 2000,J (-5)]),(g5,9, [U ⟨#[104,49]⟩,U ⟨#[104,49]⟩,U ⟨#[104,50]⟩,U ⟨#[104,51]⟩,U ⟨#[65]⟩]),(g3,9, [U ⟨#[115,49]⟩,U ⟨#[115,49]⟩,U ⟨#[115,49]⟩,U ⟨#[115,50]⟩,U ⟨#[115,57]⟩]),(g1,9, [U ⟨#[118,49]⟩,U ⟨#[118,49]⟩,U ⟨#[118,50]⟩,U ⟨#[118,51]⟩,U ⟨#[110,111,110,101]⟩])])) (O':=(fun (bb18:Bool)=> [])) (X':=(fun (bb18:Bool)=> [TxtO w.heap.size (some sb)])) ?_ ?_
 ·refine bX (W (eT D D) D (cG D (bU ?_)))
  refine cN D (fun h28=>?_) (fun h28=>?_)
  ·refine bN ?_
   exact fH (decide (v10=6)) bB ⟨D,D,D,D,D,D,D,D,bB⟩ (fun _ hm=>hm.pick [0,1,2,3] [] [0] D D)
  refine bX (W (eT D D) D (cG D (bU ?_)))
  refine cN D (fun h29=>?_) (fun h29=>?_)
  ·refine bN ?_
   exact fH (decide (v10=7)) bB ⟨D,D,D,D,D,D,D,D,bB⟩ (fun _ hm=>hm.pick [0,1,2,3] [] [0] D D)
  refine bM (W (eT D D) D (cG D (bH ?_)))
  exact fH (decide (v10=8)) bB ⟨D,D,D,D,D,D,D,D,bB⟩ (fun _ hm=>hm.pick [0,1,2,3] [] [0] D D)
 intro bb18 bZ
 replace bZ:True:=bZ
 refine dE D (fun hh=>?_) (fun hh=>?_)
 ·have h30:bb18=true:=by simpa using hh
  clear hh
  refine bX (bS D (W (fB D D (by (try simp only [ByteArray.size_append]);omega)) D (W (fB D D (by (try simp only [ByteArray.size_append]);omega)) D (bS D (W (fB D D (by (try simp only [ByteArray.size_append]);omega)) D (W (fB D D (by (try simp only [ByteArray.size_append]);omega)) D (bS D (W (fB D D (by (try simp only [ByteArray.size_append]);omega)) D (W (fB D D (by (try simp only [ByteArray.size_append]);omega)) D (bS D (W (fB D D (by (try simp only [ByteArray.size_append]);omega)) D (W (fB D D (by (try simp only [ByteArray.size_append]);omega)) D (bS D (jN 9 [U ⟨#[48]⟩,U ⟨#[49,48,48]⟩,U ⟨#[57,57,57,57,57,48]⟩] fun g31=>dX (γ:=M) (val:=fun v=>U v) (φ:=fun v=>v∈([⟨#[48]⟩,⟨#[49,48,48]⟩,⟨#[57,57,57,57,57,48]⟩]:List M)) D uU D D D D (fun wx hm=>(jE [⟨#[48]⟩,⟨#[49,48,48]⟩,⟨#[57,57,57,57,57,48]⟩] _ _ _ wx B sb _ hm.k G (by simp) (by simp) (hm.blkI 0 D) (hm.neRow 0 D D))) fun s32 hs32=>?_))))))))))))))
  have zs32:s32.size<=100:=kX hs32 bD
  refine W (fB D D (by (try simp only [ByteArray.size_append]);omega)) D (W (fB D D (by (try simp only [ByteArray.size_append]);omega)) D (bS D (jN 9 [U ⟨#[56]⟩,U ⟨#[52]⟩,U ⟨#[57]⟩] fun g33=>dX (γ:=M) (val:=fun v=>U v) (φ:=fun v=>v∈([⟨#[56]⟩,⟨#[52]⟩,⟨#[57]⟩]:List M)) D uU D D D D (fun wx hm=>(jE [⟨#[56]⟩,⟨#[52]⟩,⟨#[57]⟩] _ _ _ wx B sb _ hm.k G (by simp) (by simp) (hm.blkI 0 D) (hm.neRow 0 D D))) fun s34 hs34=>?_)))
  have zs34:s34.size<=100:=kX hs34 bD
  refine W (fB D D (by (try simp only [ByteArray.size_append]);omega)) D (cG D (bU (bR (C (F ?_)))))
  exact bQ D D fun wx hm=>⟨_,D,(by (try simp only [ByteArray.size_append]);omega),hm.k.more G,hm.g⟩
 have h30:bb18=false:=by simpa using hh
 clear hh
 refine bX (W (eT D D) D (cG D (bU ?_)))
 refine cN D (fun h35=>?_) (fun h35=>?_)
 ·refine bX (bS D ?_)
  refine W (fB D D (by (try simp only [ByteArray.size_append]);omega)) D (W (fB D D (by (try simp only [ByteArray.size_append]);omega)) D (bS D (W (fB D D (by (try simp only [ByteArray.size_append]);omega)) D (W (fB D D (by (try simp only [ByteArray.size_append]);omega)) D (bS D (W (fB D D (by (try simp only [ByteArray.size_append]);omega)) D (W (fB D D (by (try simp only [ByteArray.size_append]);omega)) D (cG D (bU (bR (C (F ?_))))))))))))
  exact bQ D D fun wx hm=>⟨_,D,(by (try simp only [ByteArray.size_append]);omega),hm.k.more G,hm.g⟩
 refine bX (W (eT D D) D (cG D (bU ?_)))
 refine cN D (fun h36=>?_) (fun h36=>?_)
 ·refine bX (bS D ?_)
  refine W (fB D D (by (try simp only [ByteArray.size_append]);omega)) D (W (fB D D (by (try simp only [ByteArray.size_append]);omega)) D (bS D (W (fB D D (by (try simp only [ByteArray.size_append]);omega)) D (cG D (bU (bR (C (F ?_))))))))
  exact bQ D D fun wx hm=>⟨_,D,(by (try simp only [ByteArray.size_append]);omega),hm.k.more G,hm.g⟩
 refine pB (γ:=Bool) (I':=(fun (bb26:Bool)=>True)) (S':=(fun (bb26:Bool)=> [(0,.pointer (some ⟨sb,0,none⟩)),(4,U ⟨#[]⟩),(7,U s4),(8,U s6),(132,.bool bb26)])) (K':=(fun (bb26:Bool)=>fun w=>fQ 25 w B sb (m+1+1+1+1+1))) (L':=(fun (bb26:Bool)=> [(g7,3, [J 10,J 60,J 1440,J 2000,J (-5)]),(g5,9, [U ⟨#[104,49]⟩,U ⟨#[104,49]⟩,U ⟨#[104,50]⟩,U ⟨#[104,51]⟩,U ⟨#[65]⟩]),(g3,9, [U ⟨#[115,49]⟩,U ⟨#[115,49]⟩,U ⟨#[115,49]⟩,U ⟨#[115,50]⟩,U ⟨#[115,57]⟩]),(g1,9, [U ⟨#[118,49]⟩,U ⟨#[118,49]⟩,U ⟨#[118,50]⟩,U ⟨#[118,51]⟩,U ⟨#[110,111,110,101]⟩])])) (O':=(fun (bb26:Bool)=> [])) (X':=(fun (bb26:Bool)=> [TxtO w.heap.size (some sb)])) ?_ ?_
 ·refine bX (W (eT D D) D (cG D (bU ?_)))
  refine cN D (fun h37=>?_) (fun h37=>?_)
  ·refine bN ?_
   exact fH (decide (v10=11)) bB ⟨D,D,D,D,D,bB⟩ (fun _ hm=>hm.pick [0,1,2,3] [] [0] D D)
  refine bM (W (eT D D) D (cG D (bH ?_)))
  exact fH (decide (v10=12)) bB ⟨D,D,D,D,D,bB⟩ (fun _ hm=>hm.pick [0,1,2,3] [] [0] D D)
 intro bb26 bZ
 replace bZ:True:=bZ
 refine dE D (fun hh=>?_) (fun hh=>?_)
 ·have h38:bb26=true:=by simpa using hh
  clear hh
  refine bX (bS D (W (fB D D (by (try simp only [ByteArray.size_append]);omega)) D (W (fB D D (by (try simp only [ByteArray.size_append]);omega)) D (bS D (W (fB D D (by (try simp only [ByteArray.size_append]);omega)) D (W (fB D D (by (try simp only [ByteArray.size_append]);omega)) D (bS D (jN 9 [U ⟨#[53]⟩,U ⟨#[51,48,48]⟩,U ⟨#[52,48,48]⟩] fun g39=>dX (γ:=M) (val:=fun v=>U v) (φ:=fun v=>v∈([⟨#[53]⟩,⟨#[51,48,48]⟩,⟨#[52,48,48]⟩]:List M)) D uU D D D D (fun wx hm=>(jE [⟨#[53]⟩,⟨#[51,48,48]⟩,⟨#[52,48,48]⟩] _ _ _ wx B sb _ hm.k G (by simp) (by simp) (hm.blkI 0 D) (hm.neRow 0 D D))) fun s40 hs40=>?_))))))))
  have zs40:s40.size<=100:=kX hs40 bD
  refine W (fB D D (by (try simp only [ByteArray.size_append]);omega)) D (W (fB D D (by (try simp only [ByteArray.size_append]);omega)) D (bS D (jN 9 [U ⟨#[56]⟩,U ⟨#[50]⟩] fun g41=>dX (γ:=M) (val:=fun v=>U v) (φ:=fun v=>v∈([⟨#[56]⟩,⟨#[50]⟩]:List M)) D uU D D D D (fun wx hm=>(jE [⟨#[56]⟩,⟨#[50]⟩] _ _ _ wx B sb _ hm.k G (by simp) (by simp) (hm.blkI 0 D) (hm.neRow 0 D D))) fun s42 hs42=>?_)))
  have zs42:s42.size<=100:=kX hs42 bD
  refine W (fB D D (by (try simp only [ByteArray.size_append]);omega)) D (cG D (bU (bR (C (F ?_)))))
  exact bQ D D fun wx hm=>⟨_,D,(by (try simp only [ByteArray.size_append]);omega),hm.k.more G,hm.g⟩
 have h38:bb26=false:=by simpa using hh
 clear hh
 refine bN (bK (bG (bX (bS D (bS D (W (fB D D (by (try simp only [ByteArray.size_append]);omega)) D (W (fB D D (by (try simp only [ByteArray.size_append]);omega)) D (bS D (W (fB D D (by (try simp only [ByteArray.size_append]);omega)) D (W (fB D D (by (try simp only [ByteArray.size_append]);omega)) D (bS D (W (fB D D (by (try simp only [ByteArray.size_append]);omega)) D (W (fB D D (by (try simp only [ByteArray.size_append]);omega)) D (jN 9 [U (((⟨#[112,97,121,32]⟩:M)++s6)++(⟨#[32,49,48,48,48]⟩:M)),U (((⟨#[112,97,121,32]⟩:M)++s6)++(⟨#[32,53,48,48]⟩:M)),U (((⟨#[112,97,121,32]⟩:M)++s6)++(⟨#[32,45,49]⟩:M)),U ⟨#[100,97,110,99,101]⟩,U ⟨#[101,110,116,101,114,32,118,49]⟩,U ⟨#[112,97,121,32,32,104,49,32,53]⟩,U ⟨#[98,111,111,107,32,104,49,32,109,105,110,105,32,120,32,53,32,53]⟩,U ⟨#[115,116,97,114,116,32,104,49,32,97,110,110,32,53]⟩] fun g43=>dX (γ:=M) (val:=fun v=>U v) (φ:=fun v=>v∈([((⟨#[112,97,121,32]⟩:M)++s6)++(⟨#[32,49,48,48,48]⟩:M),((⟨#[112,97,121,32]⟩:M)++s6)++(⟨#[32,53,48,48]⟩:M),((⟨#[112,97,121,32]⟩:M)++s6)++(⟨#[32,45,49]⟩:M),⟨#[100,97,110,99,101]⟩,⟨#[101,110,116,101,114,32,118,49]⟩,⟨#[112,97,121,32,32,104,49,32,53]⟩,⟨#[98,111,111,107,32,104,49,32,109,105,110,105,32,120,32,53,32,53]⟩,⟨#[115,116,97,114,116,32,104,49,32,97,110,110,32,53]⟩]:List M)) D uU D D D D (fun wx hm=>(jE [((⟨#[112,97,121,32]⟩:M)++s6)++(⟨#[32,49,48,48,48]⟩:M),((⟨#[112,97,121,32]⟩:M)++s6)++(⟨#[32,53,48,48]⟩:M),((⟨#[112,97,121,32]⟩:M)++s6)++(⟨#[32,45,49]⟩:M),⟨#[100,97,110,99,101]⟩,⟨#[101,110,116,101,114,32,118,49]⟩,⟨#[112,97,121,32,32,104,49,32,53]⟩,⟨#[98,111,111,107,32,104,49,32,109,105,110,105,32,120,32,53,32,53]⟩,⟨#[115,116,97,114,116,32,104,49,32,97,110,110,32,53]⟩] _ _ _ wx B sb _ hm.k G (by simp) (by simp) (hm.blkI 0 D) (hm.neRow 0 D D))) fun s44 hs44=>cG D (bU (bR ?_))))))))))))))))
 refine bQ D D fun wx hm=>?_
 exact ⟨_,D,(by
  have hh:=hs44
  simp only [List.mem_cons,List.not_mem_nil,or_false] at hh
  rcases hh with hh|hh|hh|hh|hh|hh|hh|hh <;> rw [hh] <;> (try simp only [ByteArray.size_append]) <;> omega),hm.k.more G,hm.g⟩
theorem TxtO.mfarS{N:Nat}{row:Option Nat}:bN3 (TxtO N row):=fun M' g w w' _ ⟨es,ck,hb⟩ h3 h=>⟨h.1.same fun k hk=>h3.block k (h.1.lt hk) (fun e=>by
 have e2:k=g:=by injection e
 subst e2
 obtain ⟨c,T,f,hc⟩:=h.1.cells hk
 rw [hb] at hc;cases hc),h.2⟩
theorem TxtO.up{N M':Nat}{row:Option Nat}{w:World}(h:TxtO N row w)(hM:N<=M'):TxtO M' row w:=⟨h.1,fun k hk=>⟨Nat.lt_of_lt_of_le (h.2 k hk).1 hM,(h.2 k hk).2⟩⟩
theorem cZ8(q:Nat)(w:World)(B sb m:Nat)(hS:fQ 25 w B sb m)(hm:m<=900000)(htx:TxtO w.heap.size (some sb) w)(hq:q<=20):
 Calls prog 19 #[.pointer (some ⟨sb,0,none⟩),I q] w (fun e w'=>∃(A:Option Addr) (n c:Nat) (l:List Ny),e=.returned (H A n c)/\w'.ownsRow w.heap.size 128 4 (H A n c) n (l.flatMap fJ)/\l.length=n/\(∀x∈l,vN x)/\n<=q/\fQ 25 w' B sb (m+20 *q)/\w.grownBy w' (some sb)):=by
 refine cY ⟨67,w,(some sb), []⟩ func19 D ntmps19 D (bU5 (X:= [TxtO w.heap.size (some sb)]) hS (cC htx cZ) (cE TxtO.lasts dA)) (bX ?_)
 refine mA 128 4 ?_
 refine cG D (bU (bX (cG D (bU (bX (cG D (bU (bJ (bM (mH (enc:=vI) (ek:=dT) (fun g=>True) (fun _ hm=>bB) D fun gm hne_gm=>cG D (bU (bJ (bX (bS D (bS D (bU (bP ?_)))))))))))))))))
 refine dS (γ:=Nat×Int×(M->Option Int)×Option Addr×Nat×List Ny) (fun (gq:Nat×Int×(M->Option Int)×Option Addr×Nat×List Ny)=>gq.1<=q/\(0<=gq.2.1/\gq.2.1<=500 *((gq.1:Nat):Int))/\(∀k v,gq.2.2.1 k=some v->0<=v/\v<=((gq.1:Nat):Int))/\gq.2.2.2.2.2.length=gq.1/\∀x∈gq.2.2.2.2.2,vN x) (fun (gq:Nat×Int×(M->Option Int)×Option Addr×Nat×List Ny)=> [(0,.pointer (some ⟨sb,0,none⟩)),(4,H none 0 0),(5,H gq.2.2.2.1 gq.1 gq.2.2.2.2.1),(6,J gq.2.1),(7,.map (some gm)),(11,I q),(12,I (gq.1))]) (fun (gq:Nat×Int×(M->Option Int)×Option Addr×Nat×List Ny)=>fun w=>fQ 25 w B sb (m+20 *gq.1)) (fun (gq:Nat×Int×(M->Option Int)×Option Addr×Nat×List Ny)=> []) (fun (gq:Nat×Int×(M->Option Int)×Option Addr×Nat×List Ny)=> [⟨H gq.2.2.2.1 gq.1 gq.2.2.2.2.1,128,4,gq.1,gq.2.2.2.2.2.flatMap fJ⟩]) (fun (gq:Nat×Int×(M->Option Int)×Option Addr×Nat×List Ny)=> [cB vI dT w.heap.size gm (gq.2.2.1),TxtO w.heap.size (some sb)]) (fun (gq:Nat×Int×(M->Option Int)×Option Addr×Nat×List Ny)=>q - gq.1) (0,0,pD,none,0, []) ⟨Nat.zero_le _,⟨Int.le_refl _,bD⟩,(fun _ _ h=>by cases h),D,(fun _ h=>by cases h)⟩ ⟨D,D,D,D,D,D,D,bB⟩ (fun _ hm=>hm.pick [] [0] [0,1] D D) ?_
 rintro ⟨i,at_,F',oA,oc,xl⟩ bZ
 replace bZ:i<=q/\(0<=at_/\at_<=500 *((i:Nat):Int))/\(∀k v,F' k=some v->0<=v/\v<=((i:Nat):Int))/\xl.length=i/\∀x∈xl,vN x:=bZ
 dsimp only
 refine bX ?_
 obtain ⟨hi0,⟨ha0,ha1⟩,hF,hxl,hxok⟩:=bZ
 refine W (dF D D) D (bU (bJ ?_))
 refine cN D (fun hi=>?_) (fun hi=>?_)
 ·refine bN (bG (bJ (bP (bX (bS D (bS D ?_))))))
  refine jN 3 [J 0,J 1,J 5,J 10,J 100,J 500] fun g1=>dX (γ:=Int) (val:=fun v=>J v) (φ:=fun v=>v∈([0,1,5,10,100,500]:List Int)) D uN D D D D (fun wx hm=>(fV [0,1,5,10,100,500] _ _ _ wx B sb _ hm.k G (by simp) (by simp) (hm.blkI 0 D) (hm.neRow 0 D D))) fun v2 xK=>?_
  have bv2:0<=v2/\v2<=500:=jP xK bD
  have bv20:=bv2.1
  have bv21:=bv2.2
  clear bv2
  refine fY D D (cG D (bU (bX (bS D (jN 9 [U ⟨#[100,49]⟩,U ⟨#[100,49]⟩,U ⟨#[100,50]⟩,U ⟨#[100,51]⟩] fun g3=>dX (γ:=M) (val:=fun v=>U v) (φ:=fun v=>v∈([⟨#[100,49]⟩,⟨#[100,49]⟩,⟨#[100,50]⟩,⟨#[100,51]⟩]:List M)) D uU D D D D (fun wx hm=>(jE [⟨#[100,49]⟩,⟨#[100,49]⟩,⟨#[100,50]⟩,⟨#[100,51]⟩] _ _ _ wx B sb _ hm.k G (by simp) (by simp) (hm.blkI 0 D) (hm.neRow 0 D D))) fun s4 hs4=>?_)))))
  have zs4:s4.size<=100:=kX hs4 bD
  refine cG D (bU ?_)
  obtain ⟨nd,hnd⟩:∃z,z=(F' s4).getD 0:=⟨_,rfl⟩
  have hndb:0<=nd/\nd<=((i:Nat):Int):=by
   cases hq:F' s4 with
   |none=>rw [hnd,hq];exact ⟨Int.le_refl _,Int.natCast_nonneg _⟩
   |some v=>rw [hnd,hq];exact hF _ v hq
  refine bX (bS D (bS D (W (mF (enc:=vI) (ek:=dT) (s:=s4) (e:=3) (0:Int) kC bC bC D D (fun _ hm=>(hm.fact 0 D))) D (bO 24 (v':=J nd) D (congrArg vI hnd.symm) (fY D D (kZ (enc:=vI) (ek:=dT) (s:=s4) (v:=nd+1) (e:=3) (X':= [TxtO w.heap.size (some sb)]) 0 kC bC D D D D (cX (i:=1) (TxtO.mfarS).far D gK) (bU (bJ (gd (fun wz=>(cB vI dT w.heap.size gm (gZ (F') s4 (nd+1))) wz/\True) mixed (fun _ hm=>⟨hm.fa 0,bB⟩) fun z=>wq 0 D (bL D) (wq 1 D (bL D) (wq 2 D (bL D) (wq 3 D (bL D) (wq 4 D (mF (enc:=vI) (ek:=dT) (s:=s4) (e:=3) (0:Int) kC bC bC D D (fun _ hm=>(hm.1))) (dI 30 (v':=J (nd+1)) D (congrArg vI (by rw [mI];rfl)) (wq 5 D (bL D) (wq 6 D (bL D) ?_))))))))))))))))
  refine jC [7,9] bC D ⟨⟨_,D,?_⟩,⟨_,D,?_⟩,bB⟩
  ·refine dX (γ:=M) (val:=fun v=>U v) (φ:=fun v=>v.size<=1000) D fK4 D D D D (fun wx hm=>((cQ1 (at_+v2) wx B sb _ hm.k G (TxtO.up (hm.fact 1 D) hm.g.size) G).mono fun _ _ ⟨v,he,hz,hS,hg⟩=>⟨v,hz,he,hS,hg⟩)) fun p5 hp5=>?_
   refine bH (nw 11 255 (fun _ hm=>⟨hm.fa 0,bB⟩) fun z=>wq 8 D (dL (cs:= [J (at_+v2),U s4,J (nd+1),U p5]) D bC) (eD 9 D (dM cJ5 D fun g6=>bH (nw 11 1023 (fun _ hm=>⟨hm.fa 0,bB⟩) fun z=>eD 10 D (kE (cs':= [J (at_+v2),U s4,J (nd+1),U p5]) 0 kU D D D D (bH (nw 11 2047 (fun _ hm=>⟨hm.fa 0,bB⟩) fun z=>gY (bG (bJ (bX (bS D (dX (γ:=Bool) (val:=fun v=> .bool v) (φ:=fun v=>True) D bY6 D D D D (fun wx hm=>((mU _ wx B sb _ hm.k G G G).mono fun _ _ ⟨v,he,hS,hg⟩=>⟨v,bB,he,hS,hg⟩)) fun f7 _=>bU ?_))))))))))))
   refine dE D (fun hh=>?_) (fun hh=>?_)
   ·have h8:f7=true:=by simpa using hh
    refine bX (bS D (dX (γ:=Int) (val:=fun v=>J v) (φ:=fun v=>pN 4 v) D cR5 D D D D (fun wx hm=>(pF _ wx B sb _ hm.k G G G)) fun v9 hv9=>bU (bP (bX (W (eT D D) D (cG D (bU ?_)))))))
    refine cN D (fun h10=>?_) (fun h10=>?_)
    ·refine bM (bS D ?_)
     refine dX (γ:=Int) (val:=fun v=>J v) (φ:=fun v=> -2000000000000000<=v/\v<=2000000000000000) D bZ6 D D D D (fun wx hm=>(nL _ _ wx B sb _ hm.k G G G G)) fun v11 hv11=>dZ mZ D D (fX 0 fM D D D D D D (bH (bK (bG (bM (bS D (W (dG kU D (fun _ hm=>hm.blkI 0 D) D D) D (jN 128 [J v11,U s4,J (nd+1),U p5] fun g12=>eP (news:= [J v11,U s4,J (nd+1),U p5]) 0 0 cY2 D D D D D D D G (by unfold maxLen;omega) D D fun v2 xK=>?_))))))))
     refine eB (R:=∃A cc,v2=H A (i+1) cc) (fun wx hm=>dW (hm.ownI 0 D)) ?_
     rintro ⟨A4,c4,rfl⟩
     refine cG D (bH (bK (bG (bM (fY D D (bS D (bH ?_)))))))
     obtain ⟨us,zK⟩:∃z,z=xl++ [(⟨v11,s4,nd+1,p5⟩:Ny)]:=⟨_,rfl⟩
     have hul:us.length=i+1:=by rw [zK];simp [hxl]
     have hxs:xl.flatMap fJ++([J v11,U s4,J (nd+1),U p5]:List Value)=us.flatMap fJ:=by rw [zK];simp [fJ]
     have zJ:∀x∈us,vN x:=fun x hx=>by
      rw [zK] at hx
      rcases List.mem_append.1 hx with hx|hx
      ·exact hxok x hx
      rw [List.mem_singleton.1 hx]
      exact ⟨⟨bE,bE⟩,bE,⟨bE,bE⟩,bE⟩
     rw [hxs]
     exact cQ (i+1,at_+v2,gZ (F') s4 (nd+1),A4,c4,us) ⟨bE,⟨bE,bE⟩,(fun k v hkv=>by
      rcases fI hkv with ⟨_,rfl⟩|h
      ·omega
      have:=hF k v h;omega),hul,zJ⟩ bE ⟨rfl,rfl,rfl,rfl,rfl,rfl,(cP bE),bB⟩ (fun _ hm=>(hm.more rfl (by first|omega|(dsimp only;omega))).pick [] [0] [0,1] rfl rfl)
    refine bX (W (eT D D) D (cG D (bU ?_)))
    refine cN D (fun h13=>?_) (fun h13=>?_)
    ·refine bM (bS D ?_)
     refine jN 9 [U ⟨#[]⟩,U ⟨#[65]⟩] fun g14=>dX (γ:=M) (val:=fun v=>U v) (φ:=fun v=>v∈([⟨#[]⟩,⟨#[65]⟩]:List M)) D uU D D D D (fun wx hm=>(jE [⟨#[]⟩,⟨#[65]⟩] _ _ _ wx B sb _ hm.k G (by simp) (by simp) (hm.blkI 0 D) (hm.neRow 0 D D))) fun s15 hs15=>?_
     have zs15:s15.size<=100:=kX hs15 bD
     refine dZ pO D D (fX 1 fR D D D D D D (bH (bK (bG (bM (bS D (W (dG kU D (fun _ hm=>hm.blkI 1 D) D D) D (jN 128 [J (at_+v2),U s15,J (nd+1),U p5] fun g16=>eP (news:= [J (at_+v2),U s15,J (nd+1),U p5]) 0 0 cY2 D D D D D D D G (by unfold maxLen;omega) D D fun v2 xK=>?_))))))))
     refine eB (R:=∃A cc,v2=H A (i+1) cc) (fun wx hm=>dW (hm.ownI 0 D)) ?_
     rintro ⟨A4,c4,rfl⟩
     refine cG D (bH (bK (bG (bM (fY D D (bS D (bH ?_)))))))
     obtain ⟨us,zK⟩:∃z,z=xl++ [(⟨at_+v2,s15,nd+1,p5⟩:Ny)]:=⟨_,rfl⟩
     have hul:us.length=i+1:=by rw [zK];simp [hxl]
     have hxs:xl.flatMap fJ++([J (at_+v2),U s15,J (nd+1),U p5]:List Value)=us.flatMap fJ:=by rw [zK];simp [fJ]
     have zJ:∀x∈us,vN x:=fun x hx=>by
      rw [zK] at hx
      rcases List.mem_append.1 hx with hx|hx
      ·exact hxok x hx
      rw [List.mem_singleton.1 hx]
      exact ⟨⟨bE,bE⟩,bE,⟨bE,bE⟩,bE⟩
     rw [hxs]
     exact cQ (i+1,at_+v2,gZ (F') s4 (nd+1),A4,c4,us) ⟨bE,⟨bE,bE⟩,(fun k v hkv=>by
      rcases fI hkv with ⟨_,rfl⟩|h
      ·omega
      have:=hF k v h;omega),hul,zJ⟩ bE ⟨rfl,rfl,rfl,rfl,rfl,rfl,(cP bE),bB⟩ (fun _ hm=>(hm.more rfl (by first|omega|(dsimp only;omega))).pick [] [0] [0,1] rfl rfl)
    refine bX (W (eT D D) D (cG D (bU ?_)))
    refine cN D (fun h17=>?_) (fun h17=>?_)
    ·refine bM (bS D ?_)
     refine dX (γ:=Int) (val:=fun v=>J v) (φ:=fun v=> -2000000000000000<=v/\v<=2000000000000000) D bZ6 D D D D (fun wx hm=>(nL _ _ wx B sb _ hm.k G G G G)) fun v18 hv18=>dZ qS D D (fX 0 fM D D D D D D (bH (bK (bG (bM (bS D (W (dG kU D (fun _ hm=>hm.blkI 0 D) D D) D (jN 128 [J (at_+v2),U s4,J v18,U p5] fun g19=>eP (news:= [J (at_+v2),U s4,J v18,U p5]) 0 0 cY2 D D D D D D D G (by unfold maxLen;omega) D D fun v2 xK=>?_))))))))
     refine eB (R:=∃A cc,v2=H A (i+1) cc) (fun wx hm=>dW (hm.ownI 0 D)) ?_
     rintro ⟨A4,c4,rfl⟩
     refine cG D (bH (bK (bG (bM (fY D D (bS D (bH ?_)))))))
     obtain ⟨us,zK⟩:∃z,z=xl++ [(⟨at_+v2,s4,v18,p5⟩:Ny)]:=⟨_,rfl⟩
     have hul:us.length=i+1:=by rw [zK];simp [hxl]
     have hxs:xl.flatMap fJ++([J (at_+v2),U s4,J v18,U p5]:List Value)=us.flatMap fJ:=by rw [zK];simp [fJ]
     have zJ:∀x∈us,vN x:=fun x hx=>by
      rw [zK] at hx
      rcases List.mem_append.1 hx with hx|hx
      ·exact hxok x hx
      rw [List.mem_singleton.1 hx]
      exact ⟨⟨bE,bE⟩,bE,⟨bE,bE⟩,bE⟩
     rw [hxs]
     exact cQ (i+1,at_+v2,gZ (F') s4 (nd+1),A4,c4,us) ⟨bE,⟨bE,bE⟩,(fun k v hkv=>by
      rcases fI hkv with ⟨_,rfl⟩|h
      ·omega
      have:=hF k v h;omega),hul,zJ⟩ bE ⟨rfl,rfl,rfl,rfl,rfl,rfl,(cP bE),bB⟩ (fun _ hm=>(hm.more rfl (by first|omega|(dsimp only;omega))).pick [] [0] [0,1] rfl rfl)
    refine bM (bS D (jN 9 [U ⟨#[]⟩,U ⟨#[97,10]⟩,U ⟨#[195]⟩] fun g20=>dX (γ:=M) (val:=fun v=>U v) (φ:=fun v=>v∈([⟨#[]⟩,⟨#[97,10]⟩,⟨#[195]⟩]:List M)) D uU D D D D (fun wx hm=>(jE [⟨#[]⟩,⟨#[97,10]⟩,⟨#[195]⟩] _ _ _ wx B sb _ hm.k G (by simp) (by simp) (hm.blkI 0 D) (hm.neRow 0 D D))) fun s21 hs21=>?_))
    have zs21:s21.size<=100:=kX hs21 bD
    refine dZ rK D D (fX 1 fR D D D D D D (bH (bK (bG (bM (bS D (W (dG kU D (fun _ hm=>hm.blkI 1 D) D D) D (jN 128 [J (at_+v2),U s4,J (nd+1),U s21] fun g22=>eP (news:= [J (at_+v2),U s4,J (nd+1),U s21]) 0 0 cY2 D D D D D D D G (by unfold maxLen;omega) D D fun v2 xK=>?_))))))))
    refine eB (R:=∃A cc,v2=H A (i+1) cc) (fun wx hm=>dW (hm.ownI 0 D)) ?_
    rintro ⟨A4,c4,rfl⟩
    refine cG D (bH (bK (bG (bM (fY D D (bS D (bH ?_)))))))
    obtain ⟨us,zK⟩:∃z,z=xl++ [(⟨at_+v2,s4,nd+1,s21⟩:Ny)]:=⟨_,rfl⟩
    have hul:us.length=i+1:=by rw [zK];simp [hxl]
    have hxs:xl.flatMap fJ++([J (at_+v2),U s4,J (nd+1),U s21]:List Value)=us.flatMap fJ:=by rw [zK];simp [fJ]
    have zJ:∀x∈us,vN x:=fun x hx=>by
     rw [zK] at hx
     rcases List.mem_append.1 hx with hx|hx
     ·exact hxok x hx
     rw [List.mem_singleton.1 hx]
     exact ⟨⟨bE,bE⟩,bE,⟨bE,bE⟩,bE⟩
    rw [hxs]
    exact cQ (i+1,at_+v2,gZ (F') s4 (nd+1),A4,c4,us) ⟨bE,⟨bE,bE⟩,(fun k v hkv=>by
     rcases fI hkv with ⟨_,rfl⟩|h
     ·omega
     have:=hF k v h;omega),hul,zJ⟩ bE ⟨rfl,rfl,rfl,rfl,rfl,rfl,(cP bE),bB⟩ (fun _ hm=>(hm.more rfl (by first|omega|(dsimp only;omega))).pick [] [0] [0,1] rfl rfl)
   have h8:f7=false:=by simpa using hh
   refine bN (bG (bM (bS D (W (dG kU D (fun _ hm=>hm.blkI 0 D) D D) D (jN 128 [J (at_+v2),U s4,J (nd+1),U p5] fun g23=>eP (news:= [J (at_+v2),U s4,J (nd+1),U p5]) 0 0 cY2 D D D D D D D G (by unfold maxLen;omega) D D fun v2 xK=>?_)))))
   refine eB (R:=∃A cc,v2=H A (i+1) cc) (fun wx hm=>dW (hm.ownI 0 D)) ?_
   rintro ⟨A4,c4,rfl⟩
   refine cG D (bH (bK (bG (bM (fY D D (bS D (bH ?_)))))))
   obtain ⟨us,zK⟩:∃z,z=xl++ [(⟨at_+v2,s4,nd+1,p5⟩:Ny)]:=⟨_,rfl⟩
   have hul:us.length=i+1:=by rw [zK];simp [hxl]
   have hxs:xl.flatMap fJ++([J (at_+v2),U s4,J (nd+1),U p5]:List Value)=us.flatMap fJ:=by rw [zK];simp [fJ]
   have zJ:∀x∈us,vN x:=fun x hx=>by
    rw [zK] at hx
    rcases List.mem_append.1 hx with hx|hx
    ·exact hxok x hx
    rw [List.mem_singleton.1 hx]
    exact ⟨⟨bE,bE⟩,bE,⟨bE,bE⟩,bE⟩
   rw [hxs]
   exact cQ (i+1,at_+v2,gZ (F') s4 (nd+1),A4,c4,us) ⟨bE,⟨bE,bE⟩,(fun k v hkv=>by
    rcases fI hkv with ⟨_,rfl⟩|h
    ·omega
    have:=hF k v h;omega),hul,zJ⟩ bE ⟨rfl,rfl,rfl,rfl,rfl,rfl,(cP bE),bB⟩ (fun _ hm=>(hm.more rfl (by first|omega|(dsimp only;omega))).pick [] [0] [0,1] rfl rfl)
  refine dM cJ5 D fun g24=>bH (nw 11 639 (fun _ hm=>⟨hm.fa 0,bB⟩) fun z=>eD 7 D (dX (γ:=M) (val:=fun v=>U v) (φ:=fun v=>v.size<=1000) D fK4 D D D D (fun wx hm=>((cQ1 (at_+v2) wx B sb _ hm.k G (TxtO.up (hm.fact 1 D) hm.g.size) G).mono fun _ _ ⟨v,he,hz,hS,hg⟩=>⟨v,hz,he,hS,hg⟩)) fun p25 hp25=>bH (nw 11 767 (fun _ hm=>⟨hm.fa 0,bB⟩) fun z=>wq 8 D (dL (cs:= [J (at_+v2),U s4,J (nd+1),U p25]) D bC) (eD 10 D (kE (cs':= [J (at_+v2),U s4,J (nd+1),U p25]) 0 kU D D D D (bH (nw 11 2047 (fun _ hm=>⟨hm.fa 0,bB⟩) fun z=>gY (bG (bJ (bX (bS D (dX (γ:=Bool) (val:=fun v=> .bool v) (φ:=fun v=>True) D bY6 D D D D (fun wx hm=>((mU _ wx B sb _ hm.k G G G).mono fun _ _ ⟨v,he,hS,hg⟩=>⟨v,bB,he,hS,hg⟩)) fun f26 _=>bU ?_))))))))))))
  refine dE D (fun hh=>?_) (fun hh=>?_)
  ·have h27:f26=true:=by simpa using hh
   refine bX (bS D (dX (γ:=Int) (val:=fun v=>J v) (φ:=fun v=>pN 4 v) D cR5 D D D D (fun wx hm=>(pF _ wx B sb _ hm.k G G G)) fun v28 hv28=>bU (bP (bX (W (eT D D) D (cG D (bU ?_)))))))
   refine cN D (fun h29=>?_) (fun h29=>?_)
   ·refine bM (bS D ?_)
    refine dX (γ:=Int) (val:=fun v=>J v) (φ:=fun v=> -2000000000000000<=v/\v<=2000000000000000) D bZ6 D D D D (fun wx hm=>(nL _ _ wx B sb _ hm.k G G G G)) fun v30 hv30=>dZ mZ D D (fX 0 fM D D D D D D (bH (bK (bG (bM (bS D (W (dG kU D (fun _ hm=>hm.blkI 0 D) D D) D (jN 128 [J v30,U s4,J (nd+1),U p25] fun g31=>eP (news:= [J v30,U s4,J (nd+1),U p25]) 0 0 cY2 D D D D D D D G (by unfold maxLen;omega) D D fun v2 xK=>?_))))))))
    refine eB (R:=∃A cc,v2=H A (i+1) cc) (fun wx hm=>dW (hm.ownI 0 D)) ?_
    rintro ⟨A4,c4,rfl⟩
    refine cG D (bH (bK (bG (bM (fY D D (bS D (bH ?_)))))))
    obtain ⟨us,zK⟩:∃z,z=xl++ [(⟨v30,s4,nd+1,p25⟩:Ny)]:=⟨_,rfl⟩
    have hul:us.length=i+1:=by rw [zK];simp [hxl]
    have hxs:xl.flatMap fJ++([J v30,U s4,J (nd+1),U p25]:List Value)=us.flatMap fJ:=by rw [zK];simp [fJ]
    have zJ:∀x∈us,vN x:=fun x hx=>by
     rw [zK] at hx
     rcases List.mem_append.1 hx with hx|hx
     ·exact hxok x hx
     rw [List.mem_singleton.1 hx]
     exact ⟨⟨bE,bE⟩,bE,⟨bE,bE⟩,bE⟩
    rw [hxs]
    exact cQ (i+1,at_+v2,gZ (F') s4 (nd+1),A4,c4,us) ⟨bE,⟨bE,bE⟩,(fun k v hkv=>by
     rcases fI hkv with ⟨_,rfl⟩|h
     ·omega
     have:=hF k v h;omega),hul,zJ⟩ bE ⟨rfl,rfl,rfl,rfl,rfl,rfl,(cP bE),bB⟩ (fun _ hm=>(hm.more rfl (by first|omega|(dsimp only;omega))).pick [] [0] [0,1] rfl rfl)
   refine bX (W (eT D D) D (cG D (bU ?_)))
   refine cN D (fun h32=>?_) (fun h32=>?_)
   ·refine bM (bS D ?_)
    refine jN 9 [U ⟨#[]⟩,U ⟨#[65]⟩] fun g33=>dX (γ:=M) (val:=fun v=>U v) (φ:=fun v=>v∈([⟨#[]⟩,⟨#[65]⟩]:List M)) D uU D D D D (fun wx hm=>(jE [⟨#[]⟩,⟨#[65]⟩] _ _ _ wx B sb _ hm.k G (by simp) (by simp) (hm.blkI 0 D) (hm.neRow 0 D D))) fun s34 hs34=>?_
    have zs34:s34.size<=100:=kX hs34 bD
    refine dZ pO D D (fX 1 fR D D D D D D (bH (bK (bG (bM (bS D (W (dG kU D (fun _ hm=>hm.blkI 1 D) D D) D (jN 128 [J (at_+v2),U s34,J (nd+1),U p25] fun g35=>eP (news:= [J (at_+v2),U s34,J (nd+1),U p25]) 0 0 cY2 D D D D D D D G (by unfold maxLen;omega) D D fun v2 xK=>?_))))))))
    refine eB (R:=∃A cc,v2=H A (i+1) cc) (fun wx hm=>dW (hm.ownI 0 D)) ?_
    rintro ⟨A4,c4,rfl⟩
    refine cG D (bH (bK (bG (bM (fY D D (bS D (bH ?_)))))))
    obtain ⟨us,zK⟩:∃z,z=xl++ [(⟨at_+v2,s34,nd+1,p25⟩:Ny)]:=⟨_,rfl⟩
    have hul:us.length=i+1:=by rw [zK];simp [hxl]
    have hxs:xl.flatMap fJ++([J (at_+v2),U s34,J (nd+1),U p25]:List Value)=us.flatMap fJ:=by rw [zK];simp [fJ]
    have zJ:∀x∈us,vN x:=fun x hx=>by
     rw [zK] at hx
     rcases List.mem_append.1 hx with hx|hx
     ·exact hxok x hx
     rw [List.mem_singleton.1 hx]
     exact ⟨⟨bE,bE⟩,bE,⟨bE,bE⟩,bE⟩
    rw [hxs]
    exact cQ (i+1,at_+v2,gZ (F') s4 (nd+1),A4,c4,us) ⟨bE,⟨bE,bE⟩,(fun k v hkv=>by
     rcases fI hkv with ⟨_,rfl⟩|h
     ·omega
     have:=hF k v h;omega),hul,zJ⟩ bE ⟨rfl,rfl,rfl,rfl,rfl,rfl,(cP bE),bB⟩ (fun _ hm=>(hm.more rfl (by first|omega|(dsimp only;omega))).pick [] [0] [0,1] rfl rfl)
   refine bX (W (eT D D) D (cG D (bU ?_)))
   refine cN D (fun h36=>?_) (fun h36=>?_)
   ·refine bM (bS D ?_)
    refine dX (γ:=Int) (val:=fun v=>J v) (φ:=fun v=> -2000000000000000<=v/\v<=2000000000000000) D bZ6 D D D D (fun wx hm=>(nL _ _ wx B sb _ hm.k G G G G)) fun v37 hv37=>dZ qS D D (fX 0 fM D D D D D D (bH (bK (bG (bM (bS D (W (dG kU D (fun _ hm=>hm.blkI 0 D) D D) D (jN 128 [J (at_+v2),U s4,J v37,U p25] fun g38=>eP (news:= [J (at_+v2),U s4,J v37,U p25]) 0 0 cY2 D D D D D D D G (by unfold maxLen;omega) D D fun v2 xK=>?_))))))))
    refine eB (R:=∃A cc,v2=H A (i+1) cc) (fun wx hm=>dW (hm.ownI 0 D)) ?_
    rintro ⟨A4,c4,rfl⟩
    refine cG D (bH (bK (bG (bM (fY D D (bS D (bH ?_)))))))
    obtain ⟨us,zK⟩:∃z,z=xl++ [(⟨at_+v2,s4,v37,p25⟩:Ny)]:=⟨_,rfl⟩
    have hul:us.length=i+1:=by rw [zK];simp [hxl]
    have hxs:xl.flatMap fJ++([J (at_+v2),U s4,J v37,U p25]:List Value)=us.flatMap fJ:=by rw [zK];simp [fJ]
    have zJ:∀x∈us,vN x:=fun x hx=>by
     rw [zK] at hx
     rcases List.mem_append.1 hx with hx|hx
     ·exact hxok x hx
     rw [List.mem_singleton.1 hx]
     exact ⟨⟨bE,bE⟩,bE,⟨bE,bE⟩,bE⟩
    rw [hxs]
    exact cQ (i+1,at_+v2,gZ (F') s4 (nd+1),A4,c4,us) ⟨bE,⟨bE,bE⟩,(fun k v hkv=>by
     rcases fI hkv with ⟨_,rfl⟩|h
     ·omega
     have:=hF k v h;omega),hul,zJ⟩ bE ⟨rfl,rfl,rfl,rfl,rfl,rfl,(cP bE),bB⟩ (fun _ hm=>(hm.more rfl (by first|omega|(dsimp only;omega))).pick [] [0] [0,1] rfl rfl)
   refine bM (bS D (jN 9 [U ⟨#[]⟩,U ⟨#[97,10]⟩,U ⟨#[195]⟩] fun g39=>dX (γ:=M) (val:=fun v=>U v) (φ:=fun v=>v∈([⟨#[]⟩,⟨#[97,10]⟩,⟨#[195]⟩]:List M)) D uU D D D D (fun wx hm=>(jE [⟨#[]⟩,⟨#[97,10]⟩,⟨#[195]⟩] _ _ _ wx B sb _ hm.k G (by simp) (by simp) (hm.blkI 0 D) (hm.neRow 0 D D))) fun s40 hs40=>?_))
   have zs40:s40.size<=100:=kX hs40 bD
   refine dZ rK D D (fX 1 fR D D D D D D (bH (bK (bG (bM (bS D (W (dG kU D (fun _ hm=>hm.blkI 1 D) D D) D (jN 128 [J (at_+v2),U s4,J (nd+1),U s40] fun g41=>eP (news:= [J (at_+v2),U s4,J (nd+1),U s40]) 0 0 cY2 D D D D D D D G (by unfold maxLen;omega) D D fun v2 xK=>?_))))))))
   refine eB (R:=∃A cc,v2=H A (i+1) cc) (fun wx hm=>dW (hm.ownI 0 D)) ?_
   rintro ⟨A4,c4,rfl⟩
   refine cG D (bH (bK (bG (bM (fY D D (bS D (bH ?_)))))))
   obtain ⟨us,zK⟩:∃z,z=xl++ [(⟨at_+v2,s4,nd+1,s40⟩:Ny)]:=⟨_,rfl⟩
   have hul:us.length=i+1:=by rw [zK];simp [hxl]
   have hxs:xl.flatMap fJ++([J (at_+v2),U s4,J (nd+1),U s40]:List Value)=us.flatMap fJ:=by rw [zK];simp [fJ]
   have zJ:∀x∈us,vN x:=fun x hx=>by
    rw [zK] at hx
    rcases List.mem_append.1 hx with hx|hx
    ·exact hxok x hx
    rw [List.mem_singleton.1 hx]
    exact ⟨⟨bE,bE⟩,bE,⟨bE,bE⟩,bE⟩
   rw [hxs]
   exact cQ (i+1,at_+v2,gZ (F') s4 (nd+1),A4,c4,us) ⟨bE,⟨bE,bE⟩,(fun k v hkv=>by
    rcases fI hkv with ⟨_,rfl⟩|h
    ·omega
    have:=hF k v h;omega),hul,zJ⟩ bE ⟨rfl,rfl,rfl,rfl,rfl,rfl,(cP bE),bB⟩ (fun _ hm=>(hm.more rfl (by first|omega|(dsimp only;omega))).pick [] [0] [0,1] rfl rfl)
  have h27:f26=false:=by simpa using hh
  refine bN (bG (bM (bS D (W (dG kU D (fun _ hm=>hm.blkI 0 D) D D) D (jN 128 [J (at_+v2),U s4,J (nd+1),U p25] fun g42=>eP (news:= [J (at_+v2),U s4,J (nd+1),U p25]) 0 0 cY2 D D D D D D D G (by unfold maxLen;omega) D D fun v2 xK=>?_)))))
  refine eB (R:=∃A cc,v2=H A (i+1) cc) (fun wx hm=>dW (hm.ownI 0 D)) ?_
  rintro ⟨A4,c4,rfl⟩
  refine cG D (bH (bK (bG (bM (fY D D (bS D (bH ?_)))))))
  obtain ⟨us,zK⟩:∃z,z=xl++ [(⟨at_+v2,s4,nd+1,p25⟩:Ny)]:=⟨_,rfl⟩
  have hul:us.length=i+1:=by rw [zK];simp [hxl]
  have hxs:xl.flatMap fJ++([J (at_+v2),U s4,J (nd+1),U p25]:List Value)=us.flatMap fJ:=by rw [zK];simp [fJ]
  have zJ:∀x∈us,vN x:=fun x hx=>by
   rw [zK] at hx
   rcases List.mem_append.1 hx with hx|hx
   ·exact hxok x hx
   rw [List.mem_singleton.1 hx]
   exact ⟨⟨bE,bE⟩,bE,⟨bE,bE⟩,bE⟩
  rw [hxs]
  exact cQ (i+1,at_+v2,gZ (F') s4 (nd+1),A4,c4,us) ⟨bE,⟨bE,bE⟩,(fun k v hkv=>by
   rcases fI hkv with ⟨_,rfl⟩|h
   ·omega
   have:=hF k v h;omega),hul,zJ⟩ bE ⟨rfl,rfl,rfl,rfl,rfl,rfl,(cP bE),bB⟩ (fun _ hm=>(hm.more rfl (by first|omega|(dsimp only;omega))).pick [] [0] [0,1] rfl rfl)
 refine dD (bI (bI (bY (bG (bX (bS D ?_))))))
 have hie:i=q:=G
 refine eB (R:=(H oA i oc=H none 0 0/\i=0)∨∃br cc,H oA i oc=H (some ⟨br,0,none⟩) i cc) (fun wx hm=>cP1 (hm.ownI 0 D)) ?_
 rintro (⟨hv0,hi00⟩|⟨br,cc,hv0⟩)
 ·injection hv0 with e1 e2 e3
  subst e1 e3 hi00
  refine cR D fL4 D D (fun wx hm=>(dY3 none 0 wx)) (bU (bX (bS D (cG D (bU (bR ?_))))))
  exact bQ D D fun wx hm=>⟨none,0,0, [],D,by have h8:=(hm.ownI 0 rfl);rw [List.length_eq_zero_iff.1 hxl] at h8;exact h8,rfl,(fun _ h=>by cases h),G,hm.k.more G,hm.g⟩
 injection hv0 with e1 _ e3
 subst e1 e3
 refine bB2 (v:= .tuple #[]) (xs':=(dY xZ xl).flatMap fJ) 0 D D D fL4 D D (fun wx hm=>(dA9 xl br i oc _ wx (hm.ownI 0 D) hxl G hxok)) ?_
 refine bU (bX (bS D (cG D (bU (bR ?_)))))
 exact bQ D D fun wx hm=>⟨some ⟨br,0,none⟩,i,oc,dY xZ xl,D,(hm.ownI 0 D),by rw [vF];exact hxl,(fun x hx=>hxok x ((nO xZ xl).mem_iff.1 hx)),G,hm.k.more G,hm.g⟩
theorem eX2{w:World}{base e sz n c:Nat}{A:Option Addr}{xs:List Value}(h:w.ownsRow base e sz (H A n c) n xs):n<=c:=by
 obtain ⟨_,h2⟩:=h
 rcases h2 with ⟨h2,h3⟩|⟨g',cap',uY,hv,_,_,hle,_⟩
 ·omega
 ·injection hv with _ _ h5
  omega
theorem bT7(q:Nat)(w:World)(B sb m:Nat)(hS:fQ 25 w B sb m)(hm:m<=800000)(htx:TxtO w.heap.size (some sb) w)(hq:q<=20):
 Calls prog 5 #[.pointer (some ⟨sb,0,none⟩),I q] w (fun e w'=>∃(A:Option Addr) (n c:Nat) (l:List Ny),e=.returned (H A n c)/\SlT fJ 4 128 w' A n l/\(∀x∈l,vN x)/\qH l/\n<=q/\fQ 25 w' B sb (m+2000)/\w.grownBy w' (some sb)):=by
 refine cY ⟨16,w,(some sb), [128]⟩ func5 D ntmps5 D (bU5 (X:= [TxtO w.heap.size (some sb)]) hS (cC htx cZ) (cE TxtO.lasts dA)) (bX (cG D (bU (bJ (bX (bS D (bU (bP ?_))))))))
 refine dS (γ:=Nat) (fun (k:Nat)=>k<=5) (fun (k:Nat)=> [(0,.pointer (some ⟨sb,0,none⟩)),(1,I q),(6,I k)]) (fun (k:Nat)=>fun w=>fQ 25 w B sb (m+400 *k)) (fun (k:Nat)=> []) (fun (k:Nat)=> []) (fun (k:Nat)=> [TxtO w.heap.size (some sb)]) (fun (k:Nat)=>5 - k) 0 (Nat.zero_le _) ⟨D,D,D,bB⟩ (fun _ hm=>hm.pick [] [] [0] D D) ?_
 intro k bZ
 replace bZ:k<=5:=bZ
 refine bX (W (dF D D) D (bU (bJ ?_)))
 refine cN D (fun hk=>?_) (fun hk=>?_)
 ·refine bN (bG (bJ (bP (bX (bS D (bS D ?_))))))
  refine pH (γ:=Option Addr×Nat×Nat×List Ny) (val:=(fun g=>H g.1 g.2.1 g.2.2.1)) (φ:=(fun g=>(∀x∈g.2.2.2,vN x)/\g.2.1<=q/\g.2.1<=g.2.2.1)) (Y:=(fun g=>fun wy=>SlT fJ 4 128 wy g.1 g.2.1 g.2.2.2)) (m':=m+400 *k+400) D fB7 D D D D (fun wx hm=>(cZ8 q wx B sb _ hm.k G (TxtO.up (hm.fact 0 D) hm.g.size) hq).mono fun _ _ ⟨A,n,c,l,he,ho,hl,hz,hn,hS,hg⟩=>⟨(A,n,c,l),he,⟨hz,hn,eX2 ho⟩,hS.more G,hg,SlT.ofOwn wX ho hl⟩) (fun _=>SlT.lasts2 D) ?_
  rintro ⟨A,n,c,l⟩ hph
  dsimp only at hph ⊢
  obtain ⟨hlz,hnq,hnc⟩:=hph
  refine cG D (bU (bX (bS D ?_)))
  refine fK (γ:=Int) (val:=(fun g=>J g)) (φ:=(fun g=>g=0->l.length<=1000/\qH l)) (Y:=(fun g=>fun _=>True)) D fC7 D D (fun wx hm=>(bC7 l A n c wx (hm.fact 0 D) G hnc hlz).mono fun _ _ ⟨E,he,h1,hg⟩=>⟨E,he,h1,hg,bB⟩) (fun _=>Lasts2.true_) ?_
  rintro E hE
  refine W (eT D D) D (bU ?_)
  refine cN D (fun h0=>?_) (fun h0=>?_)
  ·refine bX (bS D (cG D (bU ?_)))
   refine bR (C (F (F (C (F ?_)))))
   exact bQ D D fun wx hm=>⟨A,n,c,l,D,hm.fa 1,hlz,(hE (by simpa using h0)).2,hnq,hm.k.more G,hm.g⟩
  refine bN (bK (bG (bM (fY D D (bS D (bH ?_))))))
  exact cQ (k+1) (by show _<=_;omega) G ⟨D,D,(cP G),bB⟩ (fun _ hm=>(hm.more D (by first|omega|(dsimp only;omega))).pick [] [] [2] D D)
 refine dD (bI (bI (bY (bG (bX (cG D (bU (bR ?_))))))))
 exact bQ D D fun wx hm=>⟨none,0,0, [],D,SlT.nil_ _ _,(fun _ h=>by cases h),bP8,Nat.zero_le _,hm.k.more G,hm.g⟩
abbrev Wn:=Int×Int
def mtW(a b:Wn):Bool:=decide (a.1 < b.2)&&decide (b.1 < a.2)
section
variable {α:Type}
abbrev CdW(α:Type):=α×Nat×Nat
variable [DecidableEq α]
def dI9(ws:List Wn)(st:List (α×Nat))(x:Wn)(c:α)(u:Nat):Bool:=(st.zip ws).any fun p=>decide (p.1=(c,u))&&mtW p.2 x
end
section
variable {α:Type} [DecidableEq α]
def eC9(cs:List (CdW α)):Nat:=(cs.head?.map fun k=>k.2.1).getD 0
end
def cC0(T:List (Int×Int)):Prop:=∀t∈T,0<=t.1/\t.1 < t.2/\t.2<=5761439
def bH0(l:List Bk):Prop:=∀b∈l,0<=b.fr/\b.fr < b.to_/\b.to_<=5761439
theorem cL9{l:List Bk}(h:uO l=0):bH0 l:=fun b hb=>by
 unfold uO at h
 split at h
 ·cases h
 ·obtain ⟨q,hq⟩:=bQ2 h b hb
  have:=dY9 hq
  exact ⟨this.1,this.2.1,this.2.2.1⟩
theorem cT7{l:List Bk}(h:bH0 l)(k:M):cC0 (mY k l):=fun t ht=>by
 obtain ⟨b,hb,_,rfl⟩:=cL2.1 ht
 exact h b hb
def pJ(T:List (Int×Int))(a b:Int):Int×Int:=rU (onT T) (bN0 (a::vD a b T))
theorem dV6{f:Int->Nat}{S:List Int}{k:Nat}{x:Int}(h:S[k]?=some x)(hc:(rU f (S.take k)).1 < (f x:Int)):(rU f (S.take (k+1))).1=(f x:Int)/\(rU f (S.take (k+1))).2=x:=by
 rw [bQ3 h];unfold cF0;rw [if_pos hc];exact ⟨rfl,rfl⟩
theorem dW6{f:Int->Nat}{S:List Int}{k:Nat}{x:Int}(h:S[k]?=some x)(hc:¬(rU f (S.take k)).1 < (f x:Int)):rU f (S.take (k+1))=rU f (S.take k):=by
 rw [bQ3 h];unfold cF0;rw [if_neg hc]
theorem bW8(l:List Bk)(A:Option Addr)(n c:Nat)(q:M)(w:World)(hl:SlT eV 6 87 w A n l)(_hok:∀x∈l,bM3 x)(hn:n<=1000):
 Calls prog 32 #[H A n c,U q] w (fun e w'=>∃A4 k c4,e=.returned (H A4 k c4)/\w'.ownsRow w.heap.size 67 2 (H A4 k c4) k ((mY q l).flatMap bD1)/\(mY q l).length=k/\w.grownBy w' none):=by
 refine cY ⟨25,w,none, []⟩ func32 D ntmps32 D (fZ (X:= [bT eV 6 87 w.heap.size none A n l]) (cC hl.old cZ) (cE bT.lasts dA)) (bX ?_)
 have hlen:=hl.len
 refine mA 67 2 ?_
 refine cG D (bU (bX (cG D (bU (bJ (bX (bS D (W (dP pU D) D (bS D (bU (bP ?_)))))))))))
 refine dS (γ:=Nat×Nat×Value×List Value) (fun g=>g.1<=n/\(mY q (l.take g.1)).length=g.2.1/\g.2.1<=g.1/\g.2.2.2=(mY q (l.take g.1)).flatMap bD1) (fun g=> [(1,U q),(4,H none 0 0),(5,g.2.2.1),(8,H A n c),(9,I n),(10,I (g.1))]) (fun g=>fun _=>True) (fun g=> []) (fun g=> [⟨g.2.2.1,67,2,g.2.1,g.2.2.2⟩]) (fun g=> [bT eV 6 87 w.heap.size none A n l]) (fun g=>n - g.1) (0,0,H none 0 0, []) ⟨Nat.zero_le _,by simp [mY],Nat.le_refl _,by simp [mY]⟩ ⟨D,D,D,D,D,D,bB⟩ (fun _ hm=>hm.pick [] [0] [0] D D) ?_
 rintro ⟨i,k,v,xs⟩ bZ
 replace bZ:i<=n/\(mY q (l.take i)).length=k/\k<=i/\xs=(mY q (l.take i)).flatMap bD1:=bZ
 dsimp only
 refine bX ?_
 obtain ⟨hi0,hk,hki,rfl⟩:=bZ
 refine W (dF D D) D (bU (bJ ?_))
 refine cN D (fun hi=>?_) (fun hi=>?_)
 ·refine bN (bG (bJ (bP (bX ?_))))
  obtain ⟨b,off,hA,_,_⟩:=hl.get G
  subst hA
  obtain ⟨x,hx⟩:∃x,l[i]?=some x:=⟨_,fY9 G⟩
  obtain ⟨ke,cl,fr,tt,md,od⟩:=x
  have ht:=cC5 (k:=q) hx
  refine W (bV (j:=i) pU D D G) D (W (dR (vs:= [U ke,U cl,J fr,J tt,J md,J od]) bZ1 D (fun _ hm=>(hm.fact 0 D).1) hx D D) D (dM dM1 D fun g1=>kE (cs':= [U ke,U cl,J fr,J tt,J md,J od]) 0 bZ1 D D D D (bU (bX (dZ bF7 D D (eO fR 0 D D D (bS D (W (eS D D) D (bU ?_)))))))))
  refine dE D (fun hh=>?_) (fun hh=>?_)
  ·have hq:(cl.toList==q.toList)=true:=by simpa using hh
   refine bM ?_
   rw [if_pos hq] at ht
   refine bS D (dZ pQ D D (W (dG bD6 D (fun _ hm=>hm.blkI 0 D) D D) D (jN 67 [J fr,J tt] fun g2=>eP (news:= [J fr,J tt]) 0 0 eG8 D D D D D D D G (by unfold maxLen;omega) D D fun v2 xK=>cG D (bH (bK (bG (bM (fY D D (bS D (bH ?_))))))))))
   exact cQ (i+1,k+1,v2,(mY q (l.take i)).flatMap bD1++([J fr,J tt]:List Value)) ⟨bE,by rw [ht];simp [hk],bE,by rw [ht];simp [bD1]⟩ bE ⟨D,D,D,D,D,(cP G),bB⟩ (fun _ hm=>hm.pick [] [0] [0] D D)
  have hq:(cl.toList==q.toList)=false:=by simpa using hh
  refine bN (bK (bG (bM ?_)))
  rw [if_neg (by rw [hq];decide),List.append_nil] at ht
  refine fY D D (bS D (bH ?_))
  exact cQ (i+1,k,v,(mY q (l.take i)).flatMap bD1) ⟨bE,by rw [ht];exact hk,bE,by rw [ht]⟩ bE ⟨D,D,D,D,D,(cP G),bB⟩ (fun _ hm=>hm.pick [] [0] [0] D D)
 refine dD (bI (bI (bY (bG (bX ?_)))))
 refine eB (R:=∃A cc,v=H A k cc) (fun wx hm=>dW (hm.ownI 0 D)) ?_
 rintro ⟨A4,c4,rfl⟩
 refine bS D (cG D (bU (bR ?_)))
 have qD:l.take i=l:=List.take_of_length_le G
 rw [qD] at hk ⊢
 exact bQ D D fun wx hm=>⟨A4,k,c4,D,hm.ownI 0 D,hk,hm.g⟩
theorem bI1(T:List (Int×Int))(A:Option Addr)(n c:Nat)(a b:Int)(w:World)(ht:SlT bD1 2 67 w A n T)(hT:cC0 T)(hn:n<=1000)(hb:0<=b/\b<=5761440):
 Calls prog 31 #[H A n c,.agg #[J a,J b]] w (fun e w'=>e=.returned (.tuple #[J (pJ T a b).1,J (pJ T a b).2])/\w.grownBy w' none):=by
 refine cY ⟨71,w,none, []⟩ func31 D ntmps31 D (fZ (X:= [bT bD1 2 67 w.heap.size none A n T]) (cC ht.old cZ) (cE bT.lasts dA)) (bX ?_)
 have hlen:=ht.len
 refine fS D D D fun g1=>cG D (cG D (bU (bX (dZ rQ D D (eO fM 0 D D D (jN 3 [J a] fun g2=>cG D (bU (bJ (bX (bS D (W (dP dZ4 D) D (bS D (bU (bP ?_))))))))))))))
 refine cW0 (sz:=1) (n:=1) 0 [1] D D D (by unfold maxLen;omega) ?_
 refine dS (γ:=Nat×Nat×Value×List Value) (fun g=>g.1<=n/\(vD a b (T.take g.1)).length=g.2.1/\g.2.1<=g.1/\g.2.2.2=(a::vD a b (T.take g.1)).flatMap gS) (fun g=> [(0,H A n c),(3,.pointer (some ⟨g1,0,none⟩)),(4,J 0),(5,J 0),(6,g.2.2.1),(19,H A n c),(20,I n),(21,I (g.1))]) (fun g=>fun _=>True) (fun g=> [(g1,67, [J a,J b])]) (fun g=> [⟨g.2.2.1,3,1,(g.2.1+1),g.2.2.2⟩]) (fun g=> [bT bD1 2 67 w.heap.size none A n T]) (fun g=>n - g.1) (0,0,H (some ⟨g2,0,none⟩) 1 1, [J a]) ⟨Nat.zero_le _,by simp [vD],Nat.le_refl _,by simp [vD,gS]⟩ ⟨D,D,D,D,D,D,D,D,bB⟩ (fun _ hm=>hm.pick [0] [0] [0] D D) ?_
 rintro ⟨i,k,v,xs⟩ bZ
 replace bZ:i<=n/\(vD a b (T.take i)).length=k/\k<=i/\xs=(a::vD a b (T.take i)).flatMap gS:=bZ
 dsimp only
 refine bX ?_
 obtain ⟨hi0,hk,hki,rfl⟩:=bZ
 refine W (dF D D) D (bU (bJ ?_))
 refine cN D (fun hi=>?_) (fun hi=>?_)
 ·refine bN (bG (bJ (bP (bX ?_))))
  obtain ⟨bt,off,hA,_,_⟩:=ht.get G
  subst hA
  obtain ⟨x,hx⟩:∃x,T[i]?=some x:=⟨_,fY9 G⟩
  obtain ⟨fr,tt⟩:=x
  obtain ⟨ht0,ht1,ht2⟩:=hT _ (fZ9 hx)
  dsimp only at ht0 ht1 ht2
  have hft:=dF7 (a:=a) (b:=b) hx
  refine W (bV (j:=i) dZ4 D D G) D (W (dR (vs:= [J fr,J tt]) bD6 D (fun _ hm=>(hm.fact 0 D).1) hx D D) D (dM fG6 D fun g3=>kE (cs':= [J fr,J tt]) 0 bD6 D D D D (bU (bX (dZ rQ D D (eO fM 0 D D D (dZ rQ D D (eO fM 1 D D D (dZ wT D D (eO fM 1 D D D (W (ov_sub D D G G) D (dC D pS D D (fun wx hm=>(in_any _ _ _ wx)) (bU ?_)))))))))))))
  refine dE D (fun hh=>?_) (fun hh=>?_)
  ·have hq:(inB fr a (b - 1))=true:=by simpa using hh
   refine bM ?_
   rw [if_pos hq] at hft
   refine bS D (dZ rQ D D (eO fM 0 D D D (jN 3 [J fr] fun g4=>eP (news:= [J fr]) 0 0 cX2 D D D D D D D G (by unfold maxLen;omega) D D fun v2 xK=>cG D (bH (bK (bG (bM (fY D D (bS D (bH ?_))))))))))
   exact cQ (i+1,k+1,v2,(a::vD a b (T.take i)).flatMap gS++([J fr]:List Value)) ⟨bE,by rw [hft];simp [hk],bE,by rw [hft];simp [gS]⟩ bE ⟨D,D,D,D,D,D,D,(cP G),bB⟩ (fun _ hm=>hm.pick [2] [0] [0] D D)
  have hq:(inB fr a (b - 1))=false:=by simpa using hh
  refine bN (bK (bG (bM ?_)))
  rw [if_neg (by rw [hq];decide),List.append_nil] at hft
  refine fY D D (bS D (bH ?_))
  exact cQ (i+1,k,v,(a::vD a b (T.take i)).flatMap gS) ⟨bE,by rw [hft];exact hk,bE,by rw [hft]⟩ bE ⟨D,D,D,D,D,D,D,(cP G),bB⟩ (fun _ hm=>hm.pick [1] [0] [0] D D)
 refine dD (bI (bI (bY (bG (bX ?_)))))
 have qD:T.take i=T:=List.take_of_length_le G
 rw [qD] at hk ⊢
 obtain ⟨S,hS⟩:∃S,S=bN0 (a::vD a b T):=⟨_,rfl⟩
 have hSl:S.length=k+1:=by rw [hS,wK,List.length_cons,hk]
 have hgoal:pJ T a b=rU (onT T) S:=by unfold pJ;rw [hS]
 rw [hgoal]
 refine eB (R:=∃A cc,v=H A (k+1) cc) (fun wx hm=>dW (hm.ownI 0 D)) ?_
 rintro ⟨A3,c3,rfl⟩
 refine eB (R:=∃g,A3=some ⟨g,0,none⟩) (fun wx hm=>rG (hm.ownI 0 D) G) ?_
 rintro ⟨g3,rfl⟩
 refine bS D ?_
 refine bB2 (v:= .tuple #[]) (xs':=S.flatMap gS) 0 D D D fW7 D D (fun wx hm=>(by have h:=eJ3 (a::vD a b T) g3 (k+1) c3 _ wx (hm.ownI 0 rfl) (by simp [hk]) G;rw [<-hS] at h;exact h)) ?_
 refine bU (bX (cG D (bO 9 (v':=J (-1)) D D (cG D (bU (bJ (bX (bS D (W (dP kF D) D (bS D (bU (bP ?_))))))))))))
 refine dS (γ:=Nat) (fun (j:Nat)=>j<=k+1) (fun (j:Nat)=> [(0,H A n c),(4,J 0),(5,J 0),(9,J ((rU (onT T) (S.take j)).1)),(10,J ((rU (onT T) (S.take j)).2)),(41,H (some ⟨g3,0,none⟩) (k+1) c3),(42,I ((k+1))),(43,I j)]) (fun (j:Nat)=>fun _=>True) (fun (j:Nat)=> [(g1,67, [J a,J b])]) (fun (j:Nat)=> [⟨H (some ⟨g3,0,none⟩) (k+1) c3,3,1,(k+1),S.flatMap gS⟩]) (fun (j:Nat)=> [bT bD1 2 67 w.heap.size none A n T]) (fun (j:Nat)=>k+1 - j) 0 (Nat.zero_le _) ⟨D,D,D,(cP (by rw [List.take_zero];rfl)),(cP (by rw [List.take_zero];rfl)),D,D,D,bB⟩ (fun _ hm=>hm.pick [0] [0] [0] D D) ?_
 intro j bZ
 replace bZ:j<=k+1:=bZ
 refine bX (W (dF D D) D (bU (bJ ?_)))
 refine cN D (fun hj=>?_) (fun hj=>?_)
 ·refine bN (bG (bJ (bP (bX ?_))))
  obtain ⟨x,hxS⟩:∃x,S[j]?=some x:=⟨_,fY9 G⟩
  refine W (bV (j:=j) kF D D G) D (W (dH (k:=0) (v:=J x) fM D (fun _ hm=>(SlT.ofOwn xL (hm.ownI 0 D) hSl)) hxS D D) D (cG D (bU (bX (cG D (bU (bJ (bX (bS D (W (dP dZ4 D) D (bS D (bU (bP ?_)))))))))))))
  refine dS (γ:=Nat) (fun (i:Nat)=>i<=n) (fun (i:Nat)=> [(0,H A n c),(4,J 0),(5,J 0),(9,J ((rU (onT T) (S.take j)).1)),(10,J ((rU (onT T) (S.take j)).2)),(12,J x),(13,I (onT (T.take i) x)),(41,H (some ⟨g3,0,none⟩) (k+1) c3),(42,I ((k+1))),(43,I j),(47,H A n c),(48,I n),(49,I i)]) (fun (i:Nat)=>fun _=>True) (fun (i:Nat)=> [(g1,67, [J a,J b])]) (fun (i:Nat)=> [⟨H (some ⟨g3,0,none⟩) (k+1) c3,3,1,(k+1),S.flatMap gS⟩]) (fun (i:Nat)=> [bT bD1 2 67 w.heap.size none A n T]) (fun (i:Nat)=>n - i) 0 (Nat.zero_le _) ⟨D,D,D,D,D,D,(cP (by rw [List.take_zero];rfl)),D,D,D,D,D,D,bB⟩ (fun _ hm=>hm.pick [0] [0] [0] D D) ?_
  intro i bZ
  replace bZ:i<=n:=bZ
  refine bX (W (dF D D) D (bU (bJ ?_)))
  refine cN D (fun hi3=>?_) (fun hi3=>?_)
  ·refine bN (bG (bJ (bP (bX ?_))))
   obtain ⟨bt,off,hA,_,_⟩:=ht.get G
   subst hA
   obtain ⟨x3,hx3⟩:∃x,T[i]?=some x:=⟨_,fY9 G⟩
   obtain ⟨fr,tt⟩:=x3
   obtain ⟨ht0,ht1,ht2⟩:=hT _ (fZ9 hx3)
   dsimp only at ht0 ht1 ht2
   have hon:=eR2 (x:=x) hx3
   have hob:=dJ3 (T.take i) x
   have hobl:(T.take i).length<=n:=by rw [List.length_take];omega
   refine W (bV (j:=i) dZ4 D D G) D (W (dR (vs:= [J fr,J tt]) bD6 D (fun _ hm=>(hm.fact 0 D).1) hx3 D D) D (dM fG6 D fun g5=>kE (cs':= [J fr,J tt]) 0 bD6 D D D D (bU (bX (bS D (dZ rQ D D (eO fM 0 D D D (dZ wT D D (eO fM 0 D D D (W (ov_sub D D G G) D (dC D pS D D (fun wx hm=>(in_any _ _ _ wx)) (bU ?_))))))))))))
   refine dE D (fun hh=>?_) (fun hh=>?_)
   ·have hq:(inB x fr (tt - 1))=true:=by simpa using hh
    refine bM ?_
    rw [if_pos hq] at hon
    refine bS D (fY D D (cG D (bH (bK (bG (bM (fY D D (bS D (bH ?_)))))))))
    exact cQ (i+1) G G ⟨D,D,D,D,D,D,(cP (by rw [hon];omega)),D,D,D,D,D,(cP G),bB⟩ (fun _ hm=>hm.pick [1] [0] [0] D D)
   have hq:(inB x fr (tt - 1))=false:=by simpa using hh
   refine bN (bK (bG (bM ?_)))
   rw [if_neg (by rw [hq];decide)] at hon
   refine fY D D (bS D (bH ?_))
   exact cQ (i+1) G G ⟨D,D,D,D,D,D,(cP (by rw [hon];omega)),D,D,D,D,D,(cP G),bB⟩ (fun _ hm=>hm.pick [1] [0] [0] D D)
  refine dD (bI (bI (bY (bG (bX ?_)))))
  have hall3:T.take i=T:=List.take_of_length_le G
  rw [hall3]
  refine bS D (bS D (W (eM D D) D (bU ?_)))
  refine cN D (fun hc=>?_) (fun hc=>?_)
  ·refine bM ?_
   have hst:=dV6 (f:=onT T) hxS hc
   refine bS D (bS D (cG D (cG D (bH (bK (bG (bM (fY D D (bS D (bH ?_))))))))))
   exact cQ (j+1) G G ⟨D,D,D,(cP hst.1.symm),(cP hst.2.symm),D,D,(cP G),bB⟩ (fun _ hm=>hm.pick [0] [0] [0] D D)
  refine bN (bK (bG (bM ?_)))
  have hst:=dW6 (f:=onT T) hxS hc
  refine fY D D (bS D (bH ?_))
  exact cQ (j+1) G G ⟨D,D,D,(cP (by rw [hst])),(cP (by rw [hst])),D,D,(cP G),bB⟩ (fun _ hm=>hm.pick [0] [0] [0] D D)
 refine dD (bI (bI (bY (bG (bX (bS D (bS D (cG D (cG D (bU (bR ?_)))))))))))
 have hall2:S.take j=S:=List.take_of_length_le G
 refine nU D D D fun wx hm=>?_
 exact ⟨by rw [hall2],hm.g⟩
theorem cL8{T:List (Int×Int)}{a b:Int}{n:Nat}(h:T.length<=n):0<=(pJ T a b).1/\(pJ T a b).1<=(n:Int):=by
 have h1:=cU3 (f:=onT T) (cE2 (a::vD a b T)) (by rw [wK];simp)
 have h2:=dJ3 T (rU (onT T) (bN0 (a::vD a b T))).2
 have h3:=h1.2.1
 unfold pJ
 omega
section
variable {α:Type} [DecidableEq α]
def yB(many:α->Nat):Nat->List α->List (CdW α)
 |_, []=> []
 |i,c::r=>(c,i,many c)::yB many (i+1) r
def chC(many:α->Nat)(ks:List α):List (CdW α):=(yB many 0 ks).filter fun k=>decide (0 < k.2.2)
omit [DecidableEq α] in
theorem bM6{many:α->Nat}:∀(ks:List α) (i:Nat) (k:CdW α),k∈yB many i ks->i<=k.2.1/\k.2.1 < i+ks.length/\k.2.2=many k.1
 | [],_,_,h=>by cases h
 |c::r,i,k,h=>by
  unfold yB at h
  rcases List.mem_cons.1 h with rfl|h
  ·exact ⟨Nat.le_refl _,by simp,rfl⟩
  ·have:=bM6 r (i+1) k h
   rw [List.length_cons]
   omega
omit [DecidableEq α] in
theorem dE1{many:α->Nat}:∀(ks:List α) (i:Nat),(yB many i ks).map (fun k=>k.1)=ks
 | [],_=>rfl
 |c::r,i=>by rw [yB,List.map_cons,dE1 r]
omit [DecidableEq α] in
theorem dD1{many:α->Nat}:∀(ks:List α) (i:Nat),∀k∈(yB many i ks).filter (fun k=>decide (0 < k.2.2)),eC9 ((yB many i ks).filter fun k=>decide (0 < k.2.2))<=k.2.1
 | [],_,_,h=>by cases h
 |c::r,i,k,h=>by
  unfold yB at h ⊢
  by_cases h0:0 < many c
  ·rw [List.filter_cons_of_pos (by simpa using h0)] at h ⊢
   show i<=k.2.1
   rcases List.mem_cons.1 h with rfl|h
   ·exact Nat.le_refl _
   ·have:=bM6 r (i+1) k (List.mem_filter.1 h).1
    omega
  ·rw [List.filter_cons_of_neg (by simpa using h0)] at h ⊢
   exact dD1 r (i+1) k h
omit [DecidableEq α] in
theorem eZ8{many:α->Nat}{ks:List α}(hn:ks.Nodup):(∀k∈chC many ks,k.2.2=many k.1)/\(∀k∈chC many ks,eC9 (chC many ks)<=k.2.1)/\((chC many ks).map fun k=>k.1).Nodup/\∀k∈chC many ks,k.2.1 < ks.length:=
 ⟨fun k hk=>(bM6 ks 0 k (List.mem_filter.1 hk).1).2.2,dD1 ks 0,by
  have h:((chC many ks).map fun k=>k.1).Sublist ((yB many 0 ks).map fun k=>k.1):=List.Sublist.map _ List.filter_sublist
  rw [dE1] at h
  exact h.nodup hn,fun k hk=>by
  have:=(bM6 ks 0 k (List.mem_filter.1 hk).1).2.1
  omega⟩
end
def bT5(a b c d:Int):Bool:=decide (a < d)&&decide (c < b)
theorem cJ1(a b c d:Int)(w:World):
 Calls prog 38 #[.agg #[J a,J b],.agg #[J c,J d]] w (fun e w'=>e=.returned (.bool (bT5 a b c d))/\w.grownBy w' none):=by
 refine cY ⟨17,w,none, []⟩ func38 D ntmps38 D (fZ (X:= []) cZ dA) (bX (fS D D D fun g1=>fS D D D fun g2=>cG D (bU (bX (dZ rQ D D (eO fM 1 D D D (dZ wT D D (eO fM 0 D D D (W (dF D D) D (bS D ?_))))))))))
 rcases Bool.eq_false_or_eq_true (decide (a < d)) with h1|h1
 ·refine bO 10 D (fW9 h1) ?_
  refine eN D (dZ rQ D D (eN D (eO fM 0 D D D (eN D (dZ wT D D (eN D (eO fM 1 D D D (eN D (W (dF D D) D (mS D D (cG D (bU (bR ?_)))))))))))))
  exact bQ D D fun wx hm=>⟨by unfold bT5;simp [h1],hm.g⟩
 refine bO 10 D (fW9 h1) (eE D (eE D (eE D (eE D (eE D (nV D D (cG D (bU (bR ?_)))))))))
 exact bQ D D fun wx hm=>⟨by unfold bT5;simp [h1],hm.g⟩
structure Gv where
 bk:M
 cls:M
 unit:Int
def pV(x:Gv):List Value:= [U x.bk,U x.cls,J x.unit]
theorem fR0(x:Gv):(pV x).length=3:=rfl
theorem bT.again{α:Type}{enc:α->List Value}{k:Nat}{T:TypeId}{N:Nat}{row:Option Nat}{A:Option Addr}{n:Nat}{l:List α}{w:World}(h:bT enc k T N row A n l w):bT enc k T w.heap.size row A n l w:=⟨h.1,fun b off e hn=>by
 obtain ⟨b2,off2,cells,fz,e2,hh,_⟩:=h.1.at_ hn
 rw [e] at e2;cases e2
 exact ⟨(Array.getElem?_eq_some_iff.1 hh).1,(h.2 b off e hn).2⟩⟩
theorem eC.again2{N g br:Nat}{T:TypeId}{cs:List Value}{w:World}(h:eC N (some br) g T cs w):eC w.heap.size (some br) g T cs w:=⟨⟨h.2.lt,h.1.2⟩,h.2⟩
theorem xX(x:Int):(gS x).length=1:=rfl
section
variable {α β:Type}
theorem dN0{lt:α->α->Bool}{lt':β->β->Bool}{f:α->β}(hf:∀x y,lt' (f x) (f y)=lt x y):∀(j:Nat) (l:List α),qL lt' j (l.map f)=(qL lt j l).map f
 |0,l=>by simp [qL]
 |j+1,l=>by
  have ih:=fun m=>dN0 (lt:=lt) (lt':=lt') hf j m
  cases hx:l[j+1]? with
  |none=>
   unfold qL
   simp [List.getElem?_map,hx]
  |some x=>
   cases hy:l[j]? with
   |none=>
    unfold qL
    simp [List.getElem?_map,hx,hy]
   |some y=>
    have hx':(l.map f)[j+1]?=some (f x):=by rw [List.getElem?_map,hx];rfl
    have hy':(l.map f)[j]?=some (f y):=by rw [List.getElem?_map,hy];rfl
    cases h:lt x y with
    |true=>
     rw [xA hx hy h,xA hx' hy' (by rw [hf];exact h),<-ih,List.map_set,List.map_set]
    |false=>
     rw [bD0 hx hy h,bD0 hx' hy' (by rw [hf];exact h)]
theorem cB1{lt:α->α->Bool}{lt':β->β->Bool}{f:α->β}(hf:∀x y,lt' (f x) (f y)=lt x y):∀(k i:Nat) (l:List α),mP lt' k i (l.map f)=(mP lt k i l).map f
 |0,i,l=>by simp [mP]
 |k+1,i,l=>by
  unfold mP
  rw [dN0 hf,cB1 hf]
theorem dU2{lt:α->α->Bool}{lt':β->β->Bool}{f:α->β}(hf:∀x y,lt' (f x) (f y)=lt x y)(l:List α):dY lt' (l.map f)=(dY lt l).map f:=by
 unfold dY
 rw [cB1 hf,List.length_map]
end
def wP(l:List Bk)(i:Nat):Bk:=(l[i]?).getD ⟨⟨#[]⟩,⟨#[]⟩,0,0,0,0⟩
def cT5(cs:List Cs)(b:Bk):List M:=b.cls::eW cs cs.length b.cls
theorem dP6{α:Type}{p:α->Bool}{l:List α}{i:Nat}{x:α}(h:l[i]?=some x):(l.take (i+1)).any p=((l.take i).any p||p x):=by
 rw [List.take_add_one,h,List.any_append];simp
theorem dP4{α β:Type}{l:List α}{m:List β}{i:Nat}{x:α}{y:β}(h1:l[i]?=some x)(h2:m[i]?=some y):(l.zip m)[i]?=some (x,y):=by
 rw [List.getElem?_zip_eq_some];exact ⟨h1,h2⟩
def wnB(b:Bk):Wn:=(b.fr,b.to_)
def mR(sl:List Sk)(k:M):Nat:=(qM sl k).toNat
def qZ(cs:List Cs)(sl:List Sk)(b:Bk):List (CdW M):=chC (mR sl) (cT5 cs b)
theorem zW{l:List Cs}(hc:nY l)(hl:uI l l.length=false){k:M}(hk:0<=kL (nS k) l 0):(k::eW l l.length k).Nodup:=by
 have hno:∀x∈l,¬x.key∈eW l l.length x.key:=fun x hx hm=>by
  have:uI l l.length=true:=List.any_eq_true.2 ⟨x,hx,dG5.2 hm⟩
  rw [hl] at this;cases this
 refine List.nodup_cons.2 ⟨fun hu=>?_,?_⟩
 ·obtain ⟨x,_,hx,rfl⟩:=bT1 hk
  exact hno x hx hu
 ·show List.Pairwise (fun a b=>a≠b) _
  rw [List.pairwise_iff_getElem]
  intro i j hi hj hij he
  have hxi:(eW l l.length k)[i]?=some ((eW l l.length k)[i]):=fY9 hi
  have hxj:(eW l l.length k)[j]?=some ((eW l l.length k)[j]):=fY9 hj
  rw [<-he] at hxj
  generalize (eW l l.length k)[i]=u at *
  have hd:=bD4 l i _ _ u hxi
  have vE:u∈eW l (l.length - (i+1)) u:=by
   rw [<-hd]
   refine fZ9 (i:=j - (i+1)) ?_
   rw [List.getElem?_drop,show i+1+(j - (i+1))=j by omega];exact hxj
  have hb:=vG l l.length k
  have hmore:=bE4 l (l.length - (i+1)) u (i+1)
  rw [show l.length - (i+1)+(i+1)=l.length by omega] at hmore
  rw [hmore] at vE
  obtain ⟨x,_,hx,rfl⟩:=bT1 (zV hc _ _ u (fZ9 hxi))
  exact hno x hx (List.mem_of_mem_take vE)
theorem cQ4{l:List Cs}(hc:nY l)(hl:uI l l.length=false){k:M}(hk:0<=kL (nS k) l 0):(k::eW l l.length k).length<=l.length:=by
 have hin:∀u∈k::eW l l.length k,0<=kL (nS u) l 0:=fun u hu=>by
  rcases List.mem_cons.1 hu with rfl|hu
  ·exact hk
  ·exact zV hc _ _ u hu
 have hbound:∀x∈(k::eW l l.length k).map (fun u=>(kL (nS u) l 0).toNat),x < l.length:=fun x hx=>by
  obtain ⟨u,hu,rfl⟩:=List.mem_map.1 hx
  have h1:=hin u hu
  have h2:=bL7 (p:=nS u) l
  omega
 have hsame:∀u∈k::eW l l.length k,∀v∈k::eW l l.length k,(kL (nS u) l 0).toNat=(kL (nS v) l 0).toNat->u=v:=fun u hu v hv he=>by
  obtain ⟨x,hx,_,hxu⟩:=bT1 (hin u hu)
  obtain ⟨y,hy,_,hyv⟩:=bT1 (hin v hv)
  rw [he,hy] at hx
  injection hx with hx
  subst hx
  exact hxu.symm.trans hyv
 have hpair:((k::eW l l.length k).map (fun u=>(kL (nS u) l 0).toNat)).Pairwise (fun a b=>a≠b):=by
  rw [List.pairwise_map]
  have hnd:(k::eW l l.length k).Pairwise (fun a b=>a≠b):=zW hc hl hk
  exact hnd.imp_of_mem fun {a b} ha hb hab he=>hab (hsame a ha b hb he)
 have:=cR1 _ _ hbound hpair
 rwa [List.length_map] at this
theorem dO7{l:List M}(h:l.Nodup){i:Nat}{x:M}(hx:l[i]?=some x):kL (fun y=>x.toList==y.toList) l 0=(i:Int):=by
 rcases vR (p:=fun y=>x.toList==y.toList) l 0 with ⟨_,h2⟩|⟨j,z,h1,h2,h3,_⟩
 ·have:=h2 x (fZ9 hx)
  simp at this
 ·have e:x=z:=yW (by simpa using h3)
  rw [<-e] at h2
  obtain ⟨hi1,zI⟩:=List.getElem?_eq_some_iff.1 hx
  obtain ⟨hj1,hj2⟩:=List.getElem?_eq_some_iff.1 h2
  have hp:l.Pairwise (fun a b=>a≠b):=h
  rw [List.pairwise_iff_getElem] at hp
  rcases Nat.lt_trichotomy i j with hij|hij|hij
  ·exact absurd (zI.trans hj2.symm) (hp i j hi1 hj1 hij)
  ·rw [h1,<-hij,Nat.zero_add]
  ·exact absurd (hj2.trans zI.symm) (hp j i hj1 hi1 hij)
theorem cX7{many:M->Nat}:∀(ks:List M) (i:Nat) (k:CdW M),k∈yB many i ks->∃j,ks[j]?=some k.1/\k.2.1=i+j
 | [],_,_,h=>by cases h
 |c::r,i,k,h=>by
  unfold yB at h
  rcases List.mem_cons.1 h with rfl|h
  ·exact ⟨0,D,D⟩
  ·obtain ⟨j,h1,h2⟩:=cX7 r (i+1) k h
   exact ⟨j+1,h1,G⟩
theorem eL3{cs:List Cs}{b:Bk}{many:M->Nat}(hcl:nY cs)(hlo:uI cs cs.length=false)(hk:0<=kL (nS b.cls) cs 0){k:CdW M}(h:k∈yB many 0 (cT5 cs b)):vJ cs b.cls k.1=(k.2.1:Int):=by
 obtain ⟨j,h1,h2⟩:=cX7 _ _ _ h
 have h3:kL (fun y=>k.1.toList==y.toList) (b.cls::eW cs cs.length b.cls) 0=(j:Int):=dO7 (zW hcl hlo hk) h1
 rw [<-dB9 hcl hlo,cR4 hcl hlo,h3]
 omega
def gvO(l:List Bk)(o:List (M×Nat)):List Gv:=(l.zip o).map fun p=>⟨p.1.key,p.2.1,(p.2.2:Int)⟩
theorem eP1{α:Type}{p:α->Bool}{l:List α}{i:Nat}{x:α}(h:l[i]?=some x):(l.take (i+1)).filter p=(l.take i).filter p++(if p x=true then [x] else []):=by
 rw [List.take_add_one,h,List.filter_append]
 by_cases hp:p x=true
 ·rw [if_pos hp,Option.toList_some,List.filter_cons_of_pos hp];rfl
 ·rw [if_neg hp,Option.toList_some,List.filter_cons_of_neg hp];rfl
theorem dJ2{cs:List Cs}{l:List Bk}(h:gC cs l=0):eR cs=0/\uO l=0/\∀b∈l,uH cs [b.cls]=0:=by
 unfold gC dK at h
 by_cases h1:eR cs=0
 ·rw [if_pos h1] at h
  have h2:nH cs l=0:=by
   unfold dK at h
   by_cases e:nH cs l=0
   ·exact e
   ·rw [if_neg e] at h;exact h
  unfold nH at h2
  by_cases h3:uO l=0
  ·rw [if_neg (by rw [h3];decide)] at h2
   refine ⟨h1,h3,fun b hb=>?_⟩
   rw [dS7,h1]
   have h4:xY cs b.cls=false:=by
    cases hn:xY cs b.cls with
    |false=>rfl
    |true=>
     rw [if_pos (List.any_eq_true.2 ⟨b,hb,hn⟩)] at h2
     cases h2
   unfold xY at h4
   rw [h4];rfl
  ·rw [if_pos h3] at h2;exact absurd h2 h3
 ·rw [if_neg h1] at h;exact absurd h h1
theorem eM6{cs:List Cs}{sl:List Sk}(h:qF cs sl=0)(k:M):qM sl k<=100:=by
 have qD:∀x∈sl,x.many<=100:=fun x hx=>by
  unfold qF dK at h
  by_cases h1:eR cs=0
  ·rw [if_pos h1] at h
   unfold dK at h
   by_cases h2:30 < sl.length
   ·rw [if_pos h2] at h;cases h
   ·rw [if_neg h2] at h
    have h3:scanE (skE cs) none sl=0:=by
     by_cases e:scanE (skE cs) none sl=0
     ·exact e
     ·rw [if_neg e] at h;exact h
    obtain ⟨q,hq⟩:=bQ2 h3 x hx
    unfold skE at hq
    repeat (split at hq;· cases hq)
    rename_i h4 h5 h6
    simp [inB] at h6
    omega
  ·rw [if_neg h1] at h;exact absurd h h1
 clear h
 induction sl with
 |nil=>show (0:Int)<=100;omega
 |cons x r ih=>
  unfold qM
  split
  ·exact qD x (List.mem_cons_self ..)
  ·exact ih fun y hy=>qD y (List.mem_cons_of_mem _ hy)
structure nB where
 A:Option Addr
 n:Nat
 c:Nat
 l:List (CdW M)
def xR(k:CdW M):List Value:= [U k.1,J (k.2.1:Int),J (k.2.2:Int)]
theorem eG5(k:CdW M):(xR k).length=3:=rfl
def eQ(x:nB):List Value:= [H x.A x.n x.c]
theorem eK5(x:nB):(eQ x).length=1:=rfl
def nX(T:TypeId)(cx:List nB)(w:World):Prop:=∀x∈cx,SlT xR 3 T w x.A x.n x.l
theorem nX.lasts{N:Nat}{row:Option Nat}{Tt:List TypeId}{T:TypeId}{cx:List nB}(hT:Tt.contains T=true):Lasts2 N row Tt (nX T cx):=bN7 fun _ _=>SlT.lasts2 hT
def dB8(T:TypeId)(x:nB):Own:=⟨H x.A x.n x.c,T,3,x.n,x.l.flatMap xR⟩
def cH3(T:TypeId)(cx:List nB):List Own:=cx.map (dB8 T)
section
variable {c:Cx} {K:World->Prop} {L:List (Nat×TypeId×List Value)} {O O' F':List Own} {X:List (World->Prop)} {w:World}
theorem gB.permO(h:gB c K L O X w)(hp:O.Perm O'):gB c K L O' X w:=⟨h.g,h.k,h.b,h.nd,fun r hr=>h.o r (hp.mem_iff.2 hr),fun r hr=>h.od r (hp.mem_iff.2 hr),(hp.pairwise_iff (fun hr g hg e=>hr g e hg)).1 h.oo,h.x,h.kk,h.l,h.rs⟩
theorem gB.pickT(h:gB c K L (O++F') X w)(ls os xs:List Nat)(hl:wO ls=true)(ho:wO os=true):gB c K (rV L ls) (rV O os++F') (rV X xs) w:=by
 have h1:=(h.pickL ls hl).pickX xs
 have hs:∀x∈rV O os++F',x∈O++F':=fun x hx=>by
  rcases List.mem_append.1 hx with hx|hx
  ·obtain ⟨i,_,hi⟩:=nF hx
   exact List.mem_append_left _ (fZ9 hi)
  ·exact List.mem_append_right _ hx
 refine ⟨h1.g,h1.k,h1.b,h1.nd,fun r hr=>h1.o r (hs r hr),fun r hr=>h1.od r (hs r hr),?_,h1.x,h1.kk,h1.l,h1.rs⟩
 obtain ⟨p1,p2,p3⟩:=List.pairwise_append.1 h1.oo
 refine List.pairwise_append.2 ⟨wY (fun _ _ hr g hg e=>hr g e hg) p1 ho,p2,fun x hx y hy=>?_⟩
 obtain ⟨i,_,hi⟩:=nF hx
 exact p3 x (fZ9 hi) y hy
theorem gB.famSnoc{T:TypeId}{cx:List nB}{x:nB}{o:Own}(h:gB c K L ([dB8 T x,o]++cH3 T cx) X w):gB c K L ([o]++cH3 T (cx++ [x])) X w:=by
 refine h.permO ?_
 unfold cH3
 rw [List.map_append]
 show (dB8 T x::([o]++cx.map (dB8 T))).Perm ([o]++(cx.map (dB8 T)++ [dB8 T x]))
 rw [<-List.append_assoc]
 exact (List.perm_append_singleton _ _).symm
theorem gB.famChs{T:TypeId}{cx:List nB}(h:gB c K L (O++cH3 T cx) X w)(hl:∀x∈cx,x.l.length=x.n):nX T cx w:=fun x hx=>SlT.ofOwn eG5 (h.o _ (List.mem_append_right _ (List.mem_map.2 ⟨x,hx,rfl⟩))) (hl x hx)
end
theorem dI6{many:M->Nat}:∀(ks:List M) (i j:Nat) (x:M),ks[j]?=some x->(yB many i ks)[j]?=some (x,i+j,many x)
 | [],_,_,_,h=>by cases h
 |c::r,i,0,x,h=>by
  cases h;rfl
 |c::r,i,j+1,x,h=>by
  unfold yB
  rw [List.getElem?_cons_succ,dI6 r (i+1) j x (by simpa using h),show i+1+j=i+(j+1) by omega]
theorem bX9{many:M->Nat}:∀(ks:List M) (i:Nat),(yB many i ks).length=ks.length
 | [],_=>rfl
 |c::r,i=>by unfold yB;rw [List.length_cons,List.length_cons,bX9 r]
def chT(sl:List Sk)(ks:List M)(j:Nat):List (CdW M):=((yB (mR sl) 0 ks).take j).filter fun k=>decide (0 < k.2.2)
theorem fB0{sl:List Sk}{ks:List M}{j:Nat}{x:M}(h:ks[j]?=some x):chT sl ks (j+1)=chT sl ks j++(if 0 < mR sl x then [(x,j,mR sl x)] else []):=by
 unfold chT
 rw [eP1 (dI6 (many:=mR sl) ks 0 j x h),Nat.zero_add]
 dsimp only
 by_cases h0:0 < mR sl x
 ·rw [if_pos h0,if_pos (by simpa using h0)]
 ·rw [if_neg h0,if_neg (by simpa using h0)]
theorem eE5{sl:List Sk}{ks:List M}{j:Nat}(h:ks.length<=j):chT sl ks j=chC (mR sl) ks:=by
 unfold chT chC
 rw [List.take_of_length_le (by rw [bX9];exact h)]
theorem eF5(sl:List Sk)(ks:List M)(j:Nat):(chT sl ks j).length<=ks.length:=by
 unfold chT
 have h1:=List.length_filter_le (fun k:CdW M=>decide (0 < k.2.2)) ((yB (mR sl) 0 ks).take j)
 rw [List.length_take,bX9] at h1
 omega
def zR(css:List (List (CdW M)))(j:Nat):Nat:=(css.getD j []).length
def bS3(css:List (List (CdW M)))(a b:Int):Bool:=decide (pT (zR css a.toNat:Int) (zR css b.toNat:Int) < 0)
def eA9(css:List (List (CdW M)))(a b:Nat):Bool:=decide (pT (zR css a:Int) (zR css b:Int) < 0)
def fH1(css:List (List (CdW M)))(n:Nat):List Nat:=dY (eA9 css) (List.range n)
theorem eR6(css:List (List (CdW M)))(n:Nat):dY (bS3 css) ((List.range n).map fun k=>((k:Nat):Int))=(fH1 css n).map fun k=>((k:Nat):Int):=dU2 (fun x y=>by unfold bS3 eA9;rw [Int.toNat_natCast,Int.toNat_natCast]) _
theorem dY7(css:List (List (CdW M)))(n:Nat):(fH1 css n).Perm (List.range n):=nO _ _
def pW(k:Nat):List Value:= [J (k:Int)]
theorem dQ5(k:Nat):(pW k).length=1:=rfl
theorem eM2(l:List Nat):(l.map fun k=>((k:Nat):Int)).flatMap gS=l.flatMap pW:=by
 rw [List.flatMap_map];rfl
theorem cV7(a b:M):(a.toList==b.toList)=decide (a=b):=by
 rw [Bool.eq_iff_iff,beq_iff_eq,decide_eq_true_eq]
 exact ⟨yW,fun h=>by rw [h]⟩
theorem nZ{l:List Bk}{j:Nat}{x:Bk}(h:l[j]?=some x):wP l j=x:=by unfold wP;rw [h];rfl
theorem cX8{cs:List Cs}{sl:List Sk}{l:List Bk}{cx:List nB}(h:cx.map nB.l=l.map (qZ cs sl)){i:Nat}{x:nB}(hx:cx[i]?=some x):x.l=qZ cs sl (wP l i):=by
 have h2:=congrArg (fun z=>z[i]?) h
 rw [List.getElem?_map,List.getElem?_map,hx] at h2
 cases hb:l[i]? with
 |none=>rw [hb] at h2;cases h2
 |some b=>
  rw [hb] at h2
  rw [nZ hb]
  exact Option.some.inj h2
def uS(cl:List M)(un:List Int)(st:List (M×Nat)):Prop:=cl.take st.length=st.map Prod.fst/\un.take st.length=st.map fun p=>((p.2:Nat):Int)
theorem uS.nil(cl:List M)(un:List Int):uS cl un []:=⟨rfl,rfl⟩
theorem uS.at{cl:List M}{un:List Int}{st:List (M×Nat)}(h:uS cl un st){k:Nat}{p:M×Nat}(hk:st[k]?=some p):cl[k]?=some p.1/\un[k]?=some ((p.2:Nat):Int):=by
 have hlt:=(List.getElem?_eq_some_iff.1 hk).1
 have h1:=congrArg (fun z=>z[k]?) h.1
 have h2:=congrArg (fun z=>z[k]?) h.2
 rw [List.getElem?_take_of_lt hlt,List.getElem?_map,hk] at h1 h2
 exact ⟨h1,h2⟩
theorem uS.set{cl:List M}{un:List Int}{st:List (M×Nat)}(h:uS cl un st){i:Nat}(hi:st.length<=i)(x:M)(y:Int):uS (cl.set i x) (un.set i y) st:=by
 unfold uS
 rw [List.take_set_of_le hi,List.take_set_of_le hi]
 exact h
theorem uS.snoc{cl:List M}{un:List Int}{st:List (M×Nat)}(h:uS cl un st){x:M}{u:Nat}(h1:st.length < cl.length)(h2:st.length < un.length):uS (cl.set st.length x) (un.set st.length ((u:Nat):Int)) (st++ [(x,u)]):=by
 have h3:=h.set (Nat.le_refl _) x ((u:Nat):Int)
 unfold uS at h3 ⊢
 rw [List.length_append,List.length_singleton,List.take_add_one,List.take_add_one,h3.1,h3.2,List.getElem?_set_self h1,List.getElem?_set_self h2,List.map_append,List.map_append]
 exact ⟨D,D⟩
section
variable {st:List (M×Nat)} {c:M}
def tkQ(x:Wn)(c:M)(u:Nat)(p:(M×Nat)×Wn):Bool:=decide (p.1=(c,u))&&mtW p.2 x
theorem fC6{ws:List Wn}{x:Wn}{u:Nat}:dI9 ws st x c u=(st.zip ws).any (tkQ x c u):=rfl
theorem fB2{ws:List Wn}{x:Wn}{u k:Nat}{p:M×Nat}{v:Wn}(h1:st[k]?=some p)(h2:ws[k]?=some v):((st.zip ws).take (k+1)).any (tkQ x c u)=(((st.zip ws).take k).any (tkQ x c u)||(decide (p.1=c)&&decide (p.2=u)&&mtW v x)):=by
 rw [dP6 (dP4 h1 h2)]
 congr 1
 unfold tkQ
 obtain ⟨p1,p2⟩:=p
 rw [Bool.eq_iff_iff]
 simp only [Bool.and_eq_true,decide_eq_true_eq,Prod.mk.injEq]
theorem eN7{ws:List Wn}{x:Wn}{u k:Nat}(h:((st.zip ws).take k).any (tkQ x c u)=true):dI9 ws st x c u=true:=by
 rw [fC6]
 obtain ⟨p,hp,hq⟩:=List.any_eq_true.1 h
 exact List.any_eq_true.2 ⟨p,List.mem_of_mem_take hp,hq⟩
theorem eM7{ws:List Wn}{x:Wn}{u k:Nat}(hk:st.length<=k):((st.zip ws).take k).any (tkQ x c u)=dI9 ws st x c u:=by
 rw [List.take_of_length_le (by rw [List.length_zip];omega)];rfl
end
theorem uS.pre{cl:List M}{un:List Int}{st:List (M×Nat)}{p:M×Nat}(h:uS cl un (st++ [p])):uS cl un st:=by
 obtain ⟨h1,h2⟩:=h
 have e1:=congrArg (List.take st.length) h1
 have e2:=congrArg (List.take st.length) h2
 rw [List.length_append,List.length_singleton,List.take_take,Nat.min_eq_left (Nat.le_succ _),List.map_append,List.take_left' (by simp)] at e1 e2
 exact ⟨e1,e2⟩
theorem gB.gainA{c:Cx}{K:World->Prop}{L:List (Nat×TypeId×List Value)}{O:List Own}{X:List (World->Prop)}{w w':World}{g:Nat}{T:TypeId}{cs:List Value}(h:gB c K L O X w)(hgr:w.grownBy w' none)(hN:w.heap.size<=g)(hb:Blk w' g T cs):gB c K ((g,T,cs)::L) O X w':=by
 have h2:=h.grow hgr
 refine ⟨h2.g,h2.k,fun x hx=>?_,List.Pairwise.cons (fun y hy e=>by have h3:=(h.b y hy).2.lt;have e2:g=y.1:=e;omega) h.nd,h2.o,fun r hr x hx=>?_,h.oo,h2.x,h.kk,h.l,h.rs⟩
 ·rcases List.mem_cons.1 hx with rfl|hx
  ·exact ⟨Nat.le_trans h.g.size hN,hb⟩
  ·exact h2.b x hx
 ·rcases List.mem_cons.1 hx with rfl|hx
  ·intro e
   have:=((h.o r hr).lt g e).2
   omega
  ·exact h.od r hr x hx
theorem BlkX.lasts{N:Nat}{row:Option Nat}{Tt:List TypeId}{g:Nat}{T:TypeId}{cs:List Value}(hT:Tt.contains T=true):Lasts2 N row Tt (fun w=>Blk w g T cs):=⟨fun _ _ h hx=>hx.grown h (by simp),fun w _ r T2 c h1 h2 _ h4 hx=>hx.grown h4 (fun e=>by
 have e2:g=r:=Option.some.inj e
 subst e2
 unfold Blk at hx
 rw [h1] at hx
 injection hx with hx
 injection hx with _ hx _
 exact h2 (by rw [hx];simpa using hT))⟩
section
variable {P:Program} {c:Cx} {fL:Array Oper} {Q:Exit->Act->World->Prop} {rest:List Oper} {S:List (Nat×Value)} {K:World->Prop} {L:List (Nat×TypeId×List Value)} {O:List Own} {X:List (World->Prop)} {d:Nat} {ty:TypeId} {pos:String} {aft:Array Edge} {ty2:TypeId} {pos2:String} {aft2:Array Edge}
theorem yR{t:TypeId}{y:Operand}{n:Nat}{cs vs cs':List Value}(hz:kN P t=some cs)(hd:Nat.ble (d+1) c.n=true)(hs:kP P t=some n)(hy:∀g,rd ((d,.pointer (some ⟨g,0,none⟩))::S) y=some (.agg vs.toArray))(hx:∀g,rd ((d,.pointer (some ⟨g,0,none⟩))::S) (.tmp d)=some (.pointer (some ⟨g,0,none⟩)))(h1:vs.all (·.oneCell')=true)(hn:vs.length=n)(ho:Nat.ble (0+n) cs.length=true)(hcs:kI cs 0 vs=cs')
 (h:∀g,WL P c fL Q rest ((d,.pointer (some ⟨g,0,none⟩))::S) K ((g,t,cs')::L) O X):WL P c fL Q (⟨some d,.alloc t,ty,pos,aft,none⟩::⟨none,.store t (.tmp d) y,ty2,pos2,aft2,none⟩::rest) S K L O X:=by
 intro a w ha hm
 refine wpList_plain D fun K' hK=>?_
 unfold kN at hz
 cases hi:P.info? t with
 |none=>simp [hi] at hz
 |some inf=>
  cases hzz:inf.zero with
  |none=>simp [hi,hzz] at hz
  |some z=>
   simp only [hi,hzz,Option.bind_some,Option.map_some,Option.some.injEq] at hz
   unfold Oper.wp
   have:(execOp a.eval ⟨some d,.alloc t,ty,pos,aft,none⟩).run P w= .ok (.value (.pointer (some ⟨w.heap.size,0,none⟩))) (w.alloc (.cells cs.toArray t)):=by
    subst hz
    simp [execOp,Instr.alloc,zeroValue,typeInfo,hi,hzz,newVar,newRow]
   rw [this]
   refine hK _ _ ?_
   have ha2:=ha.put hd (.pointer (some ⟨w.heap.size,0,none⟩))
   have hb:=Blk.at_ w rfl t cs
   obtain ⟨dd,hu,hr,hi⟩:=zZ hs
   subst hcs
   refine wpList_store_blk D t (.tmp d) y D w.heap.size 0 t cs vs hb (ha2.eval (hx _)) (ha2.eval (hy _)) n hi hn (Nat.le_of_ble_eq_true ho) (by simpa using h1) fun w' hb' hg=>?_
   exact h _ _ _ ⟨ha2.size,ha2.val,ha2.df⟩ (hm.gainA (grow_own (grow_alloc (World.grownBy.refl w none) _) hg (fun k e=>by cases e;exact Nat.le_refl _)) (Nat.le_refl _) hb')
theorem cN2{t e:TypeId}{sz:Nat}(ht:P.underlying t=some (.slice e))(hi:(P.info? e).map (fun i=>i.size)=some sz)(hd:Nat.ble (d+1) c.n=true)
 (h:∀g,WL P c fL Q rest ((d,H (some ⟨g,0,none⟩) 0 0)::S) K ((g,e, [])::L) O X):WL P c fL Q (⟨some d,.buildSlice t 0 #[],ty,pos,aft,none⟩::rest) S K L O X:=by
 intro a w ha hm
 refine wpList_plain D fun K' hK=>?_
 unfold Oper.wp
 have:(execOp a.eval ⟨some d,.buildSlice t 0 #[],ty,pos,aft,none⟩).run P w= .ok (.value (H (some ⟨w.heap.size,0,none⟩) 0 0)) (w.alloc (.cells #[] e)):=by
  cases hz:P.info? e with
  |none=>rw [hz] at hi;cases hi
  |some inf=>
   simp [execOp,Instr.buildSlice,run_underlying ht,sizeOf,typeInfo,hz,newRow,Instr.fill]
   exact congrArg (fun z=>w.alloc (Obj.cells z e)) (Array.eq_empty_of_size_eq_zero (by simp))
 rw [this]
 exact hK _ _ (h _ _ _ (ha.put hd _) (hm.new e []))
end
theorem dG9(l:List Bk)(A:Option Addr)(nb cb:Nat)(Ac:Option Addr)(cc:Nat)(cl:List M)(Au:Option Addr)(cu:Nat)(un:List Int)(CV OV RV:Value)(bs:Int)(g i u:Nat)(c:M)(s:List (M×Nat))(w:World)(hb:Blk w g 144 [H A nb cb,CV,OV,H Ac nb cc,H Au nb cu,RV,J bs])(hl:SlT eV 6 87 w A nb l)(hc:SlT dU 1 9 w Ac nb cl)(hu:SlT gS 1 3 w Au nb un)(hst:uS cl un s)(hsi:s.length=i)(hi:i < nb)(hn:nb<=1000):
 Calls prog 111 #[.pointer (some ⟨g,0,none⟩),I i,U c,I u] w (fun e w'=>e=.returned (.bool (dI9 (l.map wnB) s (wnB (wP l i)) c u))/\w.grownBy w' none):=by
 refine cY ⟨54,w,none, []⟩ func111 D ntmps111 D (fZ (X:= [eC w.heap.size none g 144 [H A nb cb,CV,OV,H Ac nb cc,H Au nb cu,RV,J bs],bT eV 6 87 w.heap.size none A nb l,bT dU 1 9 w.heap.size none Ac nb cl,bT gS 1 3 w.heap.size none Au nb un]) (cC hb.old (cC hl.old (cC hc.old (cC hu.old cZ)))) (cE eC.lasts (cE bT.lasts (cE bT.lasts (cE bT.lasts dA))))) (bX ?_)
 have hlen:=hl.len
 have hlen2:=hu.len
 have hlen3:=hc.len
 obtain ⟨b,off,hA,_,_⟩:=hl.get G
 subst hA
 obtain ⟨bu,ou,hA,_,_⟩:=hu.get G
 subst hA
 obtain ⟨bc,oc,hA,_,_⟩:=hc.get G
 subst hA
 obtain ⟨x,hx⟩:∃x,l[i]?=some x:=⟨_,fY9 G⟩
 obtain ⟨x0,x1,x2,x3,x4,x5⟩:=x
 have hwi:wnB (wP l i)=(x2,x3):=by rw [nZ hx];rfl
 rw [hwi]
 refine cG D (bU (bJ (bX (bS D (bS D (bU (bP ?_)))))))
 refine dS (γ:=Nat) (fun (j:Nat)=>j<=i/\((s.zip (l.map wnB)).take j).any (tkQ (x2,x3) c u)=false) (fun (j:Nat)=> [(0,.pointer (some ⟨g,0,none⟩)),(1,I i),(2,U c),(3,I u),(10,I i),(11,I j)]) (fun (j:Nat)=>fun _=>True) (fun (j:Nat)=> []) (fun (j:Nat)=> []) (fun (j:Nat)=> [eC w.heap.size none g 144 [H (some ⟨b,off,none⟩) nb cb,CV,OV,H (some ⟨bc,oc,none⟩) nb cc,H (some ⟨bu,ou,none⟩) nb cu,RV,J bs],bT eV 6 87 w.heap.size none (some ⟨b,off,none⟩) nb l,bT dU 1 9 w.heap.size none (some ⟨bc,oc,none⟩) nb cl,bT gS 1 3 w.heap.size none (some ⟨bu,ou,none⟩) nb un]) (fun (j:Nat)=>i - j) 0 ⟨Nat.zero_le _,D⟩ ⟨D,D,D,D,D,D,bB⟩ (fun _ hm=>hm.pick [] [] [0,1,2,3] D D) ?_
 intro j bZ
 replace bZ:j<=i/\((s.zip (l.map wnB)).take j).any (tkQ (x2,x3) c u)=false:=bZ
 refine bX ?_
 obtain ⟨hj0,hno⟩:=bZ
 refine W (dF D D) D (bU (bJ ?_))
 refine cN D (fun hj=>?_) (fun hj=>?_)
 ·refine bN (bG (bJ (bP (bX ?_))))
  obtain ⟨p,hp⟩:∃x,s[j]?=some x:=⟨_,fY9 G⟩
  obtain ⟨hcp,hup⟩:=hst.at hp
  obtain ⟨y,hy⟩:∃x,l[j]?=some x:=⟨_,fY9 G⟩
  obtain ⟨y0,y1,y2,y3,y4,y5⟩:=y
  have hat:=fB2 (x:=(x2,x3)) (c:=c) (u:=u) hp (show (l.map wnB)[j]?=some (y2,y3) by rw [List.getElem?_map,hy];rfl)
  obtain ⟨p1,p2⟩:=p
  dsimp only at hcp hup hat
  rw [hno,Bool.false_or] at hat
  refine bS D (cG D (bU (bJ (gd (fun wz=>(eC w.heap.size none g 144 [H (some ⟨b,off,none⟩) nb cb,CV,OV,H (some ⟨bc,oc,none⟩) nb cc,H (some ⟨bu,ou,none⟩) nb cu,RV,J bs]) wz/\(bT eV 6 87 w.heap.size none (some ⟨b,off,none⟩) nb l) wz/\(bT dU 1 9 w.heap.size none (some ⟨bc,oc,none⟩) nb cl) wz/\(bT gS 1 3 w.heap.size none (some ⟨bu,ou,none⟩) nb un) wz/\True) mixed (fun _ hm=>⟨hm.fa 0,hm.fa 1,hm.fa 2,hm.fa 3,bB⟩) fun z=>wq 0 D (bL D) (wq 1 D (cU D) (wq 2 D (bW xH D D) (wq 3 D (cH (v:=H (some ⟨bc,oc,none⟩) nb cc) rX D (fun _ hm=>(hm.1).2) D) (wq 4 D (bL D) (wq 5 D (bV (j:=j) mD D D G) (wq 6 D (dH (k:=0) (v:=U p1) fR D (fun _ hm=>(hm.2.2.1).1) hcp D D) (wq 7 D (bL D) (wq 8 D (eS D D) (wq 9 D (bL D) ?_)))))))))))))
  rcases Bool.eq_false_or_eq_true (p1.toList==c.toList) with hb1|hb1
  ·refine dI 23 D (fW9 hb1) ?_
   refine eU 10 D (bL D) (eU 11 D (cU D) (eU 12 D (bW bE5 D D) (eU 13 D (cH (v:=H (some ⟨bu,ou,none⟩) nb cu) kY D (fun _ hm=>(hm.1).2) D) (eU 14 D (bL D) (eU 15 D (bV (j:=j) kF D D G) (eU 16 D (dH (k:=0) (v:=I p2) fM D (fun _ hm=>(hm.2.2.2.1).1) hup D D) (eU 17 D (bL D) (eU 18 D (eT D D) (wq 19 D (fG D D) (wq 20 D (bL D) ?_))))))))))
   rcases Bool.eq_false_or_eq_true (decide (((p2:Nat):Int)=((u:Nat):Int))) with hb2|hb2
   ·refine dI 34 D (fW9 hb2) ?_
    refine eU 21 D (bL D) (eU 22 D (cU D) (eU 23 D (bW zB D D) (eU 24 D (cH (v:=H (some ⟨b,off,none⟩) nb cb) dR3 D (fun _ hm=>(hm.1).2) D) (eU 25 D (bL D) (eU 26 D (bV (j:=j) pU D D G) (eU 27 D (bW pQ D D) (eU 28 D (vT (k:=2) (vs:= [J y2,J y3]) bD6 D (fun _ hm=>(hm.2.1).1) hy D D D) (eU 29 D (bL D) (eU 30 D (cU D) (eU 31 D (bW zB D D) (eU 32 D (cH (v:=H (some ⟨b,off,none⟩) nb cb) dR3 D (fun _ hm=>(hm.1).2) D) (eU 33 D (bL D) (eU 34 D (bV (j:=i) pU D D G) (eU 35 D (bW pQ D D) (eU 36 D (vT (k:=2) (vs:= [J x2,J x3]) bD6 D (fun _ hm=>(hm.2.1).1) hx D D D) (eD 37 D (eN D (cR D eY9 D D (fun wx hm=>(cJ1 y2 y3 x2 x3 wx)) (bH (nw 39 274877906943 (fun _ hm=>⟨hm.fa 0,hm.fa 1,hm.fa 2,hm.fa 3,bB⟩) fun z=>wq 38 D (fG D D) (gY (bG ?_))))))))))))))))))))))
    refine dE D (fun hh=>?_) (fun hh=>?_)
    ·have hm3:(bT5 y2 y3 x2 x3)=true:=by simpa using hh
     refine bX (cG D (bU (bR (C (F (F (C (F ?_))))))))
     have hA:(decide (p1=c)&&decide (p2=u)&&mtW (y2,y3) (x2,x3))=true:=by rw [<-cV7,hb1,show decide (p2=u)=decide (((p2:Nat):Int)=((u:Nat):Int)) from by rw [decide_eq_decide];omega,hb2,Bool.and_true,Bool.true_and];exact hm3
     rw [hA] at hat
     exact bQ D D fun wx hm=>⟨by rw [eN7 hat],hm.g⟩
    have hm3:(bT5 y2 y3 x2 x3)=false:=by simpa using hh
    refine bN (bK (bG (bM (fY D D (bS D (bH ?_))))))
    have hA:(decide (p1=c)&&decide (p2=u)&&mtW (y2,y3) (x2,x3))=false:=by rw [<-cV7,hb1,show decide (p2=u)=decide (((p2:Nat):Int)=((u:Nat):Int)) from by rw [decide_eq_decide];omega,hb2,Bool.and_true,Bool.true_and];exact hm3
    rw [hA] at hat
    exact cQ (j+1) ⟨G,hat⟩ G ⟨D,D,D,D,D,(cP G),bB⟩ (fun _ hm=>hm.pick [] [] [0,1,2,3] D D)
   refine dI 34 D (fW9 hb2) (eL 21 D (eL 22 D (eL 23 D (eL 24 D (eL 25 D (eL 26 D (eL 27 D (eL 28 D (eL 29 D (eL 30 D (eL 31 D (eL 32 D (eL 33 D (eL 34 D (eL 35 D (eL 36 D (eL 37 D (wq 38 D (eZ D D) (gY (bG (jK D (bN (bK (bG (bM (fY D D (bS D (bH ?_))))))))))))))))))))))))))))
   have hA:(decide (p1=c)&&decide (p2=u)&&mtW (y2,y3) (x2,x3))=false:=by rw [<-cV7,hb1,show decide (p2=u)=decide (((p2:Nat):Int)=((u:Nat):Int)) from by rw [decide_eq_decide];omega,hb2,Bool.and_false,Bool.false_and]
   rw [hA] at hat
   exact cQ (j+1) ⟨G,hat⟩ G ⟨D,D,D,D,D,(cP G),bB⟩ (fun _ hm=>hm.pick [] [] [0,1,2,3] D D)
  refine dI 23 D (fW9 hb1) (eL 10 D (eL 11 D (eL 12 D (eL 13 D (eL 14 D (eL 15 D (eL 16 D (eL 17 D (eL 18 D (wq 19 D (eZ D D) (wq 20 D (bL D) (eL 21 D (eL 22 D (eL 23 D (eL 24 D (eL 25 D (eL 26 D (eL 27 D (eL 28 D (eL 29 D (eL 30 D (eL 31 D (eL 32 D (eL 33 D (eL 34 D (eL 35 D (eL 36 D (eL 37 D (wq 38 D (eZ D D) ?_)))))))))))))))))))))))))))))
  refine gY (bG (jK D (bN (bK (bG (bM (fY D D (bS D (bH ?_)))))))))
  have hA:(decide (p1=c)&&decide (p2=u)&&mtW (y2,y3) (x2,x3))=false:=by rw [<-cV7,hb1,Bool.false_and,Bool.false_and]
  rw [hA] at hat
  exact cQ (j+1) ⟨G,hat⟩ G ⟨D,D,D,D,D,(cP G),bB⟩ (fun _ hm=>hm.pick [] [] [0,1,2,3] D D)
 refine dD (bI (bI (bY (bG (bX (cG D (bU (bR ?_))))))))
 exact bQ D D fun wx hm=>⟨by rw [eM7 G] at hno;rw [hno],hm.g⟩
theorem jX(cs:List Cs)(A0:Option Addr)(n0 c0:Nat)(sl:List Sk)(A1:Option Addr)(n1 c1:Nat)(l:List Bk)(A:Option Addr)(n c:Nat)(w:World)(hcs:SlT dQ 2 53 w A0 n0 cs)(pI:∀x∈cs,pR x)(hn0:n0<=1000)(hs:SlT jA 2 57 w A1 n1 sl)(hso:∀x∈sl,cA0 x)(qV:n1<=1000)(hl:SlT eV 6 87 w A n l)(hn:n<=1000)(hkeys:∀b∈l,uH cs [b.cls]=0):
 Calls prog 61 #[H A0 n0 c0,H A1 n1 c1,H A n c] w (fun e w'=>∃(A9:Option Addr) (c9:Nat) (cx:List nB),e=.returned (H A9 n c9)/\SlT eQ 1 147 w' A9 n cx/\nX 146 cx w'/\cx.map nB.l=l.map (qZ cs sl)/\w.grownBy w' none):=by
 refine cY ⟨59,w,none, []⟩ func61 D ntmps61 D (fZ (X:= [bT dQ 2 53 w.heap.size none A0 n0 cs,bT jA 2 57 w.heap.size none A1 n1 sl,bT eV 6 87 w.heap.size none A n l]) (cC hcs.old (cC hs.old (cC hl.old cZ))) (cE bT.lasts (cE bT.lasts (cE bT.lasts dA)))) (bX ?_)
 have hlen:=hl.len
 have hlen0:=hcs.len
 refine cG D (bU (bX (cG D (bU (bJ (bX (bS D (W (dP pU D) D (bS D (bU (bP ?_)))))))))))
 refine qU 147 1 ?_
 refine dS (γ:=Nat×Value×List nB) (fun g=>g.1<=n/\g.2.2.map nB.l=(l.take g.1).map (qZ cs sl)/\∀x∈g.2.2,x.l.length=x.n) (fun g=> [(0,H A0 n0 c0),(1,H A1 n1 c1),(6,H none 0 0),(7,g.2.1),(16,H A n c),(17,I n),(18,I (g.1))]) (fun g=>fun _=>True) (fun g=> []) (fun g=>(([⟨g.2.1,147,1,g.1,g.2.2.flatMap eQ⟩]:List Own)++cH3 146 g.2.2)) (fun g=> [bT dQ 2 53 w.heap.size none A0 n0 cs,bT jA 2 57 w.heap.size none A1 n1 sl,bT eV 6 87 w.heap.size none A n l]) (fun g=>n - g.1) (0,H none 0 0, []) ⟨Nat.zero_le _,D,fun _ h=>by cases h⟩ ⟨D,D,D,D,D,D,D,bB⟩ (fun _ hm=>hm.pick [] [0] [0,1,2] D D) ?_
 rintro ⟨i,v,cx⟩ bZ
 replace bZ:i<=n/\cx.map nB.l=(l.take i).map (qZ cs sl)/\∀x∈cx,x.l.length=x.n:=bZ
 dsimp only
 refine bX ?_
 obtain ⟨hi0,hcx,yC⟩:=bZ
 refine W (dF D D) D (bU (bJ ?_))
 refine cN D (fun hi=>?_) (fun hi=>?_)
 ·refine bN (bG (bJ (bP (bX ?_))))
  obtain ⟨b,off,hA,_,_⟩:=hl.get G
  subst hA
  obtain ⟨x,hx⟩:∃x,l[i]?=some x:=⟨_,fY9 G⟩
  obtain ⟨x0,x1,x2,x3,x4,x5⟩:=x
  have hkey:=hkeys _ (fZ9 hx)
  dsimp only at hkey
  obtain ⟨KS,hKS⟩:∃z,z=cT5 cs (⟨x0,x1,x2,x3,x4,x5⟩:Bk):=⟨_,rfl⟩
  have hks:([U x1]:List Value)++(eW cs n0 x1).flatMap dU=KS.flatMap dU:=by
   rw [hKS]
   show _=(x1::eW cs cs.length x1).flatMap dU
   rw [hlen0];rfl
  have hkl:KS.length=1+(eW cs n0 x1).length:=by
   rw [hKS]
   show (x1::eW cs cs.length x1).length=_
   rw [hlen0,List.length_cons];omega
  have hpn:=vG cs n0 x1
  refine W (bV (j:=i) pU D D G) D (W (dR (vs:= [U x0,U x1,J x2,J x3,J x4,J x5]) bZ1 D (fun _ hm=>(hm.fact 2 D).1) hx D D) D (dM dM1 D fun g1=>kE (cs':= [U x0,U x1,J x2,J x3,J x4,J x5]) 0 bZ1 D D D D (bU (bX (bS D (dZ bF7 D D (eO fR 0 D D D ?_)))))))
  refine qX (γ:=Option Addr×Nat×Nat) (val:=(fun g=> .tuple #[H g.1 g.2.1 g.2.2,J 0])) (φ:=(fun g=>(eW cs n0 x1).length=g.2.1)) (fun g=>⟨H g.1 g.2.1 g.2.2,9,1,g.2.1,(eW cs n0 x1).flatMap dU⟩) D fI3 D D (fun wx hm=>(cC8 cs A0 n0 c0 x1 wx (hm.fact 0 D).1 pI G hkey).mono fun _ _ ⟨A2,n2,c2,he,ho,hl2,hg⟩=>⟨(A2,n2,c2),he,hl2,ho,hg⟩) ?_
  rintro ⟨A2,n2,c2⟩ hpl
  dsimp only at hpl ⊢
  refine bS D (W (cV D D) D (W (cV D D) D (cG D (cG D (bU (bX (cG D (bU (bJ (bJ (bM (dZ bF7 D D (eO fR 0 D D D (jN 9 [U x1] fun g2=>bS D ?_))))))))))))))
  refine eI4 (sz:=1) (n:=1) 0 [1] D D D (by unfold maxLen;omega) ?_
  refine dM4 0 1 eX4 D D D D (cH9 dU fS1 _) G (by unfold maxLen;omega) D D fun v2 hv=>?_
  rw [hks]
  refine eB (R:=∃A cc,v2=H A (1+n2) cc) (fun wx hm=>dW (hm.ownI 0 D)) ?_
  rintro ⟨A5,c5,rfl⟩
  have hKl:KS.length=1+n2:=G
  refine mA 146 3 ?_
  refine W (dP mD D) D (bS D (bU (bP ?_)))
  refine dS (γ:=Nat×Nat×Value) (fun gg=>gg.1<=1+n2/\(chT sl KS gg.1).length=gg.2.1) (fun gg=> [(0,H A0 n0 c0),(1,H A1 n1 c1),(6,H none 0 0),(7,v),(12,gg.2.2),(16,H (some ⟨b,off,none⟩) n c),(17,I n),(18,I i),(33,H A5 (1+n2) c5),(34,I (1+n2)),(35,I (gg.1))]) (fun gg=>fun _=>True) (fun gg=> [(g1,87, [U x0,U x1,J x2,J x3,J x4,J x5])]) (fun gg=>(([⟨gg.2.2,146,3,gg.2.1,(chT sl KS gg.1).flatMap xR⟩,⟨H A5 (1+n2) c5,9,1,1+n2,KS.flatMap dU⟩,⟨v,147,1,i,cx.flatMap eQ⟩]:List Own)++cH3 146 cx)) (fun gg=> [bT dQ 2 53 w.heap.size none A0 n0 cs,bT jA 2 57 w.heap.size none A1 n1 sl,bT eV 6 87 w.heap.size none (some ⟨b,off,none⟩) n l]) (fun gg=>1+n2 - gg.1) (0,0,H none 0 0) ⟨Nat.zero_le _,D⟩ ⟨D,D,D,D,D,D,D,D,D,D,D,bB⟩ (fun _ hm=>gB.pickT (O:= [⟨H none 0 0,146,3,0, []⟩,⟨H A5 (1+n2) c5,9,1,1+n2,KS.flatMap dU⟩,⟨H A2 n2 c2,9,1,n2,(eW cs n0 x1).flatMap dU⟩,⟨v,147,1,i,cx.flatMap eQ⟩]) (F':=cH3 146 cx) hm [0] [0,1,3] [0,1,2] D D) ?_
  rintro ⟨j,q,vc⟩ bZ
  replace bZ:j<=1+n2/\(chT sl KS j).length=q:=bZ
  dsimp only
  refine bX ?_
  obtain ⟨hj0,hq⟩:=bZ
  refine W (dF D D) D (bU (bJ ?_))
  refine cN D (fun hj=>?_) (fun hj=>?_)
  ·refine bN (bG (bJ (bP (bX ?_))))
   refine eB (R:=∃g,A5=some ⟨g,0,none⟩) (fun wx hm=>rG (hm.ownI 1 D) G) ?_
   rintro ⟨gk7,rfl⟩
   obtain ⟨ck,hck⟩:∃x,KS[j]?=some x:=⟨_,fY9 G⟩
   have hat:=fB0 (sl:=sl) hck
   have hcl:=eF5 sl KS j
   refine bS D (W (bV (j:=j) mD D D G) D (W (dH (k:=0) (v:=U ck) fR D (fun _ hm=>(SlT.ofOwn mQ (hm.ownI 1 D) hKl)) hck D D) D (cG D (cG D (bU (bX (bS D (bS D (cR D eX9 D D (fun wx hm=>(cI1 sl A1 n1 c1 ck wx (hm.fact 1 D).1 hso G)) (cG D (bU (bX (bS D (W (eM D D) D (bU ?_)))))))))))))))
   refine cN D (fun hm0=>?_) (fun hm0=>?_)
   ·refine bM ?_
    have hcap:qM sl ck=((mR sl ck:Nat):Int):=by unfold mR;omega
    rw [if_pos (show 0 < mR sl ck by omega)] at hat
    refine bO 15 (v':=I (mR sl ck)) D (fX9 hcap) (bS D (bS D (bS D (bS D (W (dL (cs:= [U ck,I j,I (mR sl ck)]) D bC) D (jN 146 [U ck,I j,I (mR sl ck)] fun g3=>eP (news:= [U ck,I j,I (mR sl ck)]) 0 0 fY2 D D D D D D D G (by unfold maxLen;omega) D D fun v3 hv3=>?_))))))
    rw [show (chT sl KS j).flatMap xR++([U ck,I j,I (mR sl ck)]:List Value)=(chT sl KS (j+1)).flatMap xR from by rw [hat];simp [xR]]
    refine cG D (bH (bK (bG (bM (fY D D (bS D (bH ?_)))))))
    exact cQ (j+1,q+1,v3) ⟨bE,by dsimp only;rw [hat,List.length_append,hq];rfl⟩ bE ⟨D,D,D,D,D,D,D,D,D,D,(cP G),bB⟩ (fun _ hm=>gB.pickT (O:= [⟨v3,146,3,q+1,(chT sl KS (j+1)).flatMap xR⟩,⟨H (some ⟨gk7,0,none⟩) (1+n2) c5,9,1,1+n2,KS.flatMap dU⟩,⟨v,147,1,i,cx.flatMap eQ⟩]) (F':=cH3 146 cx) hm [1] [0,1,2] [0,1,2] D D)
   refine bN (bK (bG (bM ?_)))
   rw [if_neg (show ¬0 < mR sl ck by unfold mR;omega),List.append_nil] at hat
   rw [show chT sl KS j=chT sl KS (j+1) from hat.symm]
   refine fY D D (bS D (bH ?_))
   exact cQ (j+1,q,vc) ⟨bE,by dsimp only;rw [hat];exact hq⟩ bE ⟨D,D,D,D,D,D,D,D,D,D,(cP G),bB⟩ (fun _ hm=>gB.pickT (O:= [⟨vc,146,3,q,(chT sl KS (j+1)).flatMap xR⟩,⟨H (some ⟨gk7,0,none⟩) (1+n2) c5,9,1,1+n2,KS.flatMap dU⟩,⟨v,147,1,i,cx.flatMap eQ⟩]) (F':=cH3 146 cx) hm [0] [0,1,2] [0,1,2] D D)
  refine dD (bI (bI (bY (bG (bM ?_)))))
  have qD:chT sl KS j=qZ cs sl (⟨x0,x1,x2,x3,x4,x5⟩:Bk):=by rw [eE5 G,hKS];rfl
  rw [qD] at hq ⊢
  refine eB (R:=∃A cc,vc=H A q cc) (fun wx hm=>dW (hm.ownI 0 D)) ?_
  rintro ⟨Ac,cc,rfl⟩
  refine bS D (bS D (jN 147 [H Ac q cc] fun g4=>eP (news:= [H Ac q cc]) 2 0 fX2 D D D D D D D G (by unfold maxLen;omega) D D fun v4 hv4=>?_))
  rw [show cx.flatMap eQ++([H Ac q cc]:List Value)=(cx++ [(⟨Ac,q,cc,qZ cs sl (⟨x0,x1,x2,x3,x4,x5⟩:Bk)⟩:nB)]).flatMap eQ from by simp [eQ]]
  refine cG D (bH (bK (bG (bM (fY D D (bS D (bH ?_)))))))
  exact cQ (i+1,v4,cx++ [(⟨Ac,q,cc,qZ cs sl (⟨x0,x1,x2,x3,x4,x5⟩:Bk)⟩:nB)]) ⟨bE,by dsimp only;rw [List.map_append,hcx,List.take_add_one,hx,Option.toList_some,List.map_append];rfl,fun y hy=>by
   rcases List.mem_append.1 hy with hy|hy
   ·exact yC y hy
   rw [List.mem_singleton.1 hy];exact hq⟩ bE ⟨rfl,rfl,rfl,rfl,rfl,rfl,(cP G),bB⟩ (fun _ hm=>(gB.pickT (O:= [⟨H Ac q cc,146,3,q,(qZ cs sl (⟨x0,x1,x2,x3,x4,x5⟩:Bk)).flatMap xR⟩,⟨H A5 (1+n2) c5,9,1,1+n2,KS.flatMap dU⟩,⟨v4,147,1,i+1,(cx++ [(⟨Ac,q,cc,qZ cs sl (⟨x0,x1,x2,x3,x4,x5⟩:Bk)⟩:nB)]).flatMap eQ⟩]) (F':=cH3 146 cx) hm [] [0,2] [0,1,2] rfl rfl).famSnoc)
 refine dD (bI (bI (bY (bG (bX ?_)))))
 have hin:i=n:=G
 subst hin
 rw [List.take_of_length_le G] at hcx
 have hcl:cx.length=i:=by have h:=congrArg List.length hcx;rw [List.length_map,List.length_map] at h;omega
 refine eB (R:=∃A cc,v=H A i cc) (fun wx hm=>dW (hm.ownI 0 D)) ?_
 rintro ⟨Au,cu,rfl⟩
 refine bS D (cG D (bU (bR ?_)))
 exact bQ D D fun wx hm=>⟨Au,cu,cx,D,SlT.ofOwn eK5 (hm.ownI 0 D) hcl,gB.famChs (O:= [⟨H Au i cu,147,1,i,cx.flatMap eQ⟩]) hm yC,hcx,hm.g⟩
theorem eU3{T:List (Int×Int)}(h:cC0 T){a b:Int}(hb:0<=a/\a < b/\b<=5761439):cC0 (T++ [(a,b)]):=fun t ht=>by
 rcases List.mem_append.1 ht with ht|ht
 ·exact h t ht
 ·rw [List.mem_singleton.1 ht];exact hb
theorem cI5(l:List Bk)(A:Option Addr)(nb cb:Nat)(Ao:Option Addr)(co:Nat)(od:List Nat)(Ac:Option Addr)(cc:Nat)(cl:List M)(CV UV RV:Value)(bs:Int)(g k i:Nat)(c:M)(st mm:Nat)(w:World)(hb:Blk w g 144 [H A nb cb,CV,H Ao nb co,H Ac nb cc,UV,RV,J bs])(hl:SlT eV 6 87 w A nb l)(ho:SlT pW 1 3 w Ao nb od)(hc:SlT dU 1 9 w Ac nb cl)(hk:k<=nb)(hi:i < nb)(hn:nb<=1000)(pI:nb<=co)(hord:∀j∈od,j < nb)(htm:bH0 l):
 Calls prog 110 #[.pointer (some ⟨g,0,none⟩),I k,I i,.agg #[U c,I st,I mm]] w (fun e w'=>∃v:Bool,e=.returned (.bool v)/\w.grownBy w' none):=by
 refine cY ⟨84,w,none, []⟩ func110 D ntmps110 D (fZ (X:= [eC w.heap.size none g 144 [H A nb cb,CV,H Ao nb co,H Ac nb cc,UV,RV,J bs],bT eV 6 87 w.heap.size none A nb l,bT pW 1 3 w.heap.size none Ao nb od,bT dU 1 9 w.heap.size none Ac nb cl]) (cC hb.old (cC hl.old (cC ho.old (cC hc.old cZ)))) (cE eC.lasts (cE bT.lasts (cE bT.lasts (cE bT.lasts dA))))) (bX ?_)
 have hlen:=hl.len
 have hlen2:=ho.len
 have hlen3:=hc.len
 obtain ⟨b,off,hA,_,_⟩:=hl.get G
 subst hA
 obtain ⟨bo,oo,hA,_,_⟩:=ho.get G
 subst hA
 obtain ⟨bc,oc,hA,_,_⟩:=hc.get G
 subst hA
 obtain ⟨x,hx⟩:∃x,l[i]?=some x:=⟨_,fY9 G⟩
 obtain ⟨x0,x1,x2,x3,x4,x5⟩:=x
 have htx:=htm _ (fZ9 hx)
 dsimp only at htx
 refine fS D D D fun g1=>cG D (bU (bX (cN2 (e:=67) (sz:=2) bC bC D fun g2=>cG D (bU (bJ (bX (bS D (W (cU D) D (dZ vK D D (W (cH (v:=H (some ⟨bo,oo,none⟩) nb co) kY D (fun _ hm=>(hm.fact 0 D).2) D) D (bS D (W (qN (hi:=k) kF D D D G) D (W (dP kF D) D (bS D (bU (bP ?_))))))))))))))))
 refine cW0 (sz:=2) (n:=0) 0 [1] D D D (by unfold maxLen;omega) ?_
 refine dS (γ:=Nat×Nat×Value×List (Int×Int)) (fun (gq:Nat×Nat×Value×List (Int×Int))=>(gq.1<=k/\gq.2.1<=gq.1)/\gq.2.2.2.length=gq.2.1/\cC0 gq.2.2.2) (fun (gq:Nat×Nat×Value×List (Int×Int))=> [(0,.pointer (some ⟨g,0,none⟩)),(2,I i),(7,.pointer (some ⟨g1,0,none⟩)),(8,.bool false),(9,gq.2.2.1),(20,H (some ⟨bo,oo,none⟩) k co),(21,I k),(22,I (gq.1))]) (fun (gq:Nat×Nat×Value×List (Int×Int))=>fun _=>True) (fun (gq:Nat×Nat×Value×List (Int×Int))=> [(g1,146, [U c,I st,I mm])]) (fun (gq:Nat×Nat×Value×List (Int×Int))=> [⟨gq.2.2.1,67,2,gq.2.1,gq.2.2.2.flatMap bD1⟩]) (fun (gq:Nat×Nat×Value×List (Int×Int))=> [eC w.heap.size none g 144 [H (some ⟨b,off,none⟩) nb cb,CV,H (some ⟨bo,oo,none⟩) nb co,H (some ⟨bc,oc,none⟩) nb cc,UV,RV,J bs],bT eV 6 87 w.heap.size none (some ⟨b,off,none⟩) nb l,bT pW 1 3 w.heap.size none (some ⟨bo,oo,none⟩) nb od,bT dU 1 9 w.heap.size none (some ⟨bc,oc,none⟩) nb cl]) (fun (gq:Nat×Nat×Value×List (Int×Int))=>k - gq.1) (0,0,H (some ⟨g2,0,none⟩) 0 0, []) ⟨⟨Nat.zero_le _,Nat.le_refl _⟩,D,fun _ h=>by cases h⟩ ⟨D,D,D,D,D,D,D,D,bB⟩ (fun _ hm=>hm.pick [0] [0] [0,1,2,3] D D) ?_
 rintro ⟨j,q,v,T⟩ bZ
 replace bZ:(j<=k/\q<=j)/\T.length=q/\cC0 T:=bZ
 dsimp only
 refine bX ?_
 obtain ⟨⟨hj0,hqj⟩,hq,hTk⟩:=bZ
 refine W (dF D D) D (bU (bJ ?_))
 refine cN D (fun hj=>?_) (fun hj=>?_)
 ·refine bN (bG (bJ (bP (bX ?_))))
  obtain ⟨o,hoj⟩:∃x,od[j]?=some x:=⟨_,fY9 G⟩
  have hob:=hord o (fZ9 hoj)
  obtain ⟨y,hy⟩:∃x,l[o]?=some x:=⟨_,fY9 G⟩
  obtain ⟨y0,y1,y2,y3,y4,y5⟩:=y
  obtain ⟨ck,hck⟩:∃x,cl[o]?=some x:=⟨_,fY9 G⟩
  have hty:=htm _ (fZ9 hy)
  dsimp only at hty
  refine W (bV (j:=j) kF D D G) D (W (dH (k:=0) (v:=I o) fM D (fun _ hm=>(hm.fact 2 D).1) hoj D D) D (cG D (bU (bJ (gd (fun wz=>Blk wz g1 146 [U c,I st,I mm]/\(eC w.heap.size none g 144 [H (some ⟨b,off,none⟩) nb cb,CV,H (some ⟨bo,oo,none⟩) nb co,H (some ⟨bc,oc,none⟩) nb cc,UV,RV,J bs]) wz/\(bT eV 6 87 w.heap.size none (some ⟨b,off,none⟩) nb l) wz/\(bT dU 1 9 w.heap.size none (some ⟨bc,oc,none⟩) nb cl) wz/\True) mixed (fun _ hm=>⟨hm.bl 0,hm.fa 0,hm.fa 1,hm.fa 3,bB⟩) fun z=>wq 0 D (bL D) (wq 1 D (cU D) (wq 2 D (bW xH D D) (wq 3 D (cH (v:=H (some ⟨bc,oc,none⟩) nb cc) rX D (fun _ hm=>(hm.2.1).2) D) (wq 4 D (bL D) (wq 5 D (bV (j:=o) mD D D G) (wq 6 D (dH (k:=0) (v:=U ck) fR D (fun _ hm=>(hm.2.2.2.1).1) hck D D) (wq 7 D (bW bG5 D D) (wq 8 D (cH fR D (fun _ hm=>hm.1) D) (wq 9 D (eS D D) (wq 10 D (bL D) ?_)))))))))))))))
  rcases Bool.eq_false_or_eq_true (ck.toList==c.toList) with hb3|hb3
  ·refine dI 36 D (fW9 hb3) ?_
   refine eU 11 D (bL D) (eU 12 D (cU D) (eU 13 D (bW zB D D) (eU 14 D (cH (v:=H (some ⟨b,off,none⟩) nb cb) dR3 D (fun _ hm=>(hm.2.1).2) D) (eU 15 D (bL D) (eU 16 D (bV (j:=o) pU D D G) (eU 17 D (bW pQ D D) (eU 18 D (vT (k:=2) (vs:= [J y2,J y3]) bD6 D (fun _ hm=>(hm.2.2.1).1) hy D D D) (eU 19 D (bL D) (eU 20 D (cU D) (eU 21 D (bW zB D D) (eU 22 D (cH (v:=H (some ⟨b,off,none⟩) nb cb) dR3 D (fun _ hm=>(hm.2.1).2) D) (eU 23 D (bL D) (eU 24 D (bV (j:=i) pU D D G) (eU 25 D (bW pQ D D) (eU 26 D (vT (k:=2) (vs:= [J x2,J x3]) bD6 D (fun _ hm=>(hm.2.2.1).1) hx D D D) (eD 27 D (eN D (cR D eY9 D D (fun wx hm=>(cJ1 y2 y3 x2 x3 wx)) (bH (nw 29 268435455 (fun _ hm=>⟨hm.bl 0,hm.fa 0,hm.fa 1,hm.fa 3,bB⟩) fun z=>wq 28 D (fG D D) (gY (bG ?_))))))))))))))))))))))
   refine dE D (fun hh=>?_) (fun hh=>?_)
   ·have hm4:(bT5 y2 y3 x2 x3)=true:=by simpa using hh
    refine bM (bS D (bS D (W (cU D) D (dZ zB D D (W (cH (v:=H (some ⟨b,off,none⟩) nb cb) dR3 D (fun _ hm=>(hm.fact 0 D).2) D) D (bS D (W (bV (j:=o) pU D D G) D (dZ pQ D D (W (vT (k:=2) (vs:= [J y2,J y3]) bD6 D (fun _ hm=>(hm.fact 1 D).1) hy D D D) D (jN 67 [J y2,J y3] fun g5=>eP (news:= [J y2,J y3]) 0 0 eG8 D D D D D D D G (by unfold maxLen;omega) D D fun v2 xK=>?_))))))))))
    rw [show T.flatMap bD1++([J y2,J y3]:List Value)=(T++ [(y2,y3)]).flatMap bD1 from by simp [bD1]]
    refine cG D (bH (bK (bG (bM (fY D D (bS D (bH ?_)))))))
    exact cQ (j+1,q+1,v2,T++ [(y2,y3)]) ⟨⟨bE,bE⟩,by dsimp only;rw [List.length_append,hq];rfl,eU3 hTk hty⟩ bE ⟨D,D,D,D,D,D,D,(cP G),bB⟩ (fun _ hm=>hm.pick [1] [0] [0,1,2,3] D D)
   have hm4:(bT5 y2 y3 x2 x3)=false:=by simpa using hh
   refine bN (bK (bG (bM (fY D D (bS D (bH ?_))))))
   exact cQ (j+1,q,v,T) ⟨⟨bE,bE⟩,hq,hTk⟩ bE ⟨D,D,D,D,D,D,D,(cP G),bB⟩ (fun _ hm=>hm.pick [0] [0] [0,1,2,3] D D)
  refine dI 36 D (fW9 hb3) (eL 11 D (eL 12 D (eL 13 D (eL 14 D (eL 15 D (eL 16 D (eL 17 D (eL 18 D (eL 19 D (eL 20 D (eL 21 D (eL 22 D (eL 23 D (eL 24 D (eL 25 D (eL 26 D (eL 27 D (wq 28 D (eZ D D) (gY (bG (jK D (bN (bK (bG (bM (fY D D (bS D (bH ?_))))))))))))))))))))))))))))
  exact cQ (j+1,q,v,T) ⟨⟨bE,bE⟩,hq,hTk⟩ bE ⟨D,D,D,D,D,D,D,(cP G),bB⟩ (fun _ hm=>hm.pick [0] [0] [0,1,2,3] D D)
 refine dD (bI (bI (bY (bG (bX ?_)))))
 refine eB (R:=∃A cc,v=H A q cc) (fun wx hm=>dW (hm.ownI 0 D)) ?_
 rintro ⟨At,ct,rfl⟩
 refine bS D (bS D (W (cU D) D (dZ zB D D (W (cH (v:=H (some ⟨b,off,none⟩) nb cb) dR3 D (fun _ hm=>(hm.fact 0 D).2) D) D (bS D (W (bV (j:=i) pU D D G) D (dZ pQ D D (W (vT (k:=2) (vs:= [J x2,J x3]) bD6 D (fun _ hm=>(hm.fact 1 D).1) hx D D D) D ?_))))))))
 obtain ⟨BT,hBT⟩:∃z,z=pJ T x2 x3:=⟨_,rfl⟩
 refine cR (v:= .tuple #[J BT.1,J BT.2]) D eW9 D D (fun wx hm=>(by rw [hBT];exact bI1 T At q ct x2 x3 wx (SlT.ofOwn eB4 (hm.ownI 0 rfl) hq) hTk G G)) (bS D (W (cV D D) D (W (cV D D) D (cG D (cG D (bU (bX (bS D (dZ dE5 D D (eO fM 0 D D D (W (dF D D) D (cG D (bU (bR ?_))))))))))))))
 exact bQ D D fun wx hm=>⟨_,D,hm.g⟩
def WCf(w0:World)(l:List Bk)(A:Option Addr)(nb cb:Nat)(A9:Option Addr)(c9:Nat)(cx:List nB)(od:List Nat)(Ao:Option Addr)(co:Nat)(re:List Int)(g g7 gc gr:Nat)(k:Nat):Prop:=∀(used:Nat) (best:Int) (cl:List M) (w:World),cl.length=nb->used<=1000 *k-> -1<=best/\best<=1000000->gB ⟨0,w0,none, [147,146]⟩ (fun _=>True) [(g,144, [H A nb cb,H A9 nb c9,H Ao nb co,H (some ⟨gc,0,none⟩) nb nb,H none 0 0,H (some ⟨gr,0,none⟩) (nb+1) (nb+1),J best]),(g7,140, [.pointer (some ⟨g,0,none⟩)])] [⟨H (some ⟨gc,0,none⟩) nb nb,9,1,nb,(cl).flatMap dU⟩,⟨H Ao nb co,3,1,nb,od.flatMap pW⟩,⟨H (some ⟨gr,0,none⟩) (nb+1) (nb+1),3,1,nb+1,re.flatMap gS⟩] [bT eV 6 87 w0.heap.size none A nb l,fun wy=>SlT eQ 1 147 wy A9 nb cx,fun wy=>nX 146 cx wy] w->
 Calls prog 108 #[.pointer (some ⟨g,0,none⟩),I k,I used] w (fun e w'=>∃(cl':List M) (b':Int),e=.returned (.tuple #[])/\cl'.length=nb/\(-1<=b'/\b'<=1000000)/\gB ⟨0,w0,none, [147,146]⟩ (fun _=>True) [(g,144, [H A nb cb,H A9 nb c9,H Ao nb co,H (some ⟨gc,0,none⟩) nb nb,H none 0 0,H (some ⟨gr,0,none⟩) (nb+1) (nb+1),J b']),(g7,140, [.pointer (some ⟨g,0,none⟩)])] [⟨H (some ⟨gc,0,none⟩) nb nb,9,1,nb,(cl').flatMap dU⟩,⟨H Ao nb co,3,1,nb,od.flatMap pW⟩,⟨H (some ⟨gr,0,none⟩) (nb+1) (nb+1),3,1,nb+1,re.flatMap gS⟩] [bT eV 6 87 w0.heap.size none A nb l,fun wy=>SlT eQ 1 147 wy A9 nb cx,fun wy=>nX 146 cx wy] w')
theorem dF1(w0:World)(l:List Bk)(A:Option Addr)(nb cb:Nat)(cs:List Cs)(sl:List Sk)(A9:Option Addr)(c9:Nat)(cx:List nB)(od:List Nat)(Ao:Option Addr)(co:Nat)(re:List Int)(g g7 gc gr:Nat)(k:Nat)(ih:k < nb->WCf w0 l A nb cb A9 c9 cx od Ao co re g g7 gc gr (k+1))(hk:k<=nb)(hn:nb<=1000)(pI:nb<=co)(hol:od.length=nb)(hrl:re.length=nb+1)(hord:∀j∈od,j < nb)(htm:bH0 l)(hcx:cx.map nB.l=l.map (qZ cs sl))(hstp:∀b∈l,∀q∈qZ cs sl b,q.2.1<=1000)(hchl:∀b∈l,(qZ cs sl b).length<=1000)(hre:∀k,k<=nb->∃r:Nat,re[k]?=some ((r:Nat):Int)/\r<=1000000):WCf w0 l A nb cb A9 c9 cx od Ao co re g g7 gc gr k:=by
 intro used best cl w hcl hused hbst hm
 refine cY ⟨88,w0,none, [147,146]⟩ func108 D ntmps108 D hm.cy (bJ ?_)
 obtain ⟨rk,hrg,hrb⟩:=hre k hk
 refine pB (γ:=Bool) (I':=(fun (sb:Bool)=>True)) (S':=(fun (sb:Bool)=> [(0,.pointer (some ⟨g,0,none⟩)),(1,I k),(2,I used),(29,.bool sb)])) (K':=(fun (sb:Bool)=>fun _=>True)) (L':=(fun (sb:Bool)=> [(g,144, [H A nb cb,H A9 nb c9,H Ao nb co,H (some ⟨gc,0,none⟩) nb nb,H none 0 0,H (some ⟨gr,0,none⟩) (nb+1) (nb+1),J best]),(g7,140, [.pointer (some ⟨g,0,none⟩)])])) (O':=(fun (sb:Bool)=> [⟨H (some ⟨gc,0,none⟩) nb nb,9,1,nb,(cl).flatMap dU⟩,⟨H Ao nb co,3,1,nb,od.flatMap pW⟩,⟨H (some ⟨gr,0,none⟩) (nb+1) (nb+1),3,1,nb+1,re.flatMap gS⟩])) (X':=(fun (sb:Bool)=> [bT eV 6 87 w0.heap.size none A nb l,fun wy=>SlT eQ 1 147 wy A9 nb cx,fun wy=>nX 146 cx wy])) ?_ ?_
 ·refine gd (fun wz=>Blk wz g 144 [H A nb cb,H A9 nb c9,H Ao nb co,H (some ⟨gc,0,none⟩) nb nb,H none 0 0,H (some ⟨gr,0,none⟩) (nb+1) (nb+1),J best]/\wz.ownsRow w0.heap.size 3 1 (H (some ⟨gr,0,none⟩) (nb+1) (nb+1)) (nb+1) (re.flatMap gS)/\True) mixed (fun _ hm=>⟨hm.bl 0,hm.ownI 2 D,bB⟩) fun z=>?_
  refine wq 0 D (bL D) (wq 1 D (cU D) (wq 2 D (bW bF5 D D) (wq 3 D (cH fM D (fun _ hm=>hm.1) D) (wq 4 D (mE D D) (wq 5 D (bL D) ?_)))))
  rcases Bool.eq_false_or_eq_true (decide (0<=best)) with h1|h1
  ·refine dI 14 D (fW9 h1) ?_
   refine eU 6 D (bL D) (eU 7 D (bL D) (eU 8 D (cU D) (eU 9 D (bW wC D D) (eU 10 D (cH kY D (fun _ hm=>hm.1) D) (eU 11 D (bL D) (eU 12 D (bV (j:=k) kF D D G) (eU 13 D (dH (k:=0) (v:=I rk) fM D (fun _ hm=>(SlT.ofOwn xL (hm.2.1) hrl)) hrg D D) (eU 14 D (ov_add D D G G) (eU 15 D (bL D) (eU 16 D (cU D) (eU 17 D (bW bF5 D D) (eU 18 D (cH fM D (fun _ hm=>hm.1) D) (eU 19 D (mE D D) (wq 20 D (fG D D) (gY ?_)))))))))))))))
   exact fH (decide (best<=((used:Nat):Int)+((rk:Nat):Int))) bB ⟨D,D,D,D,bB⟩ (fun _ hm=>hm.pick [0,1] [0,1,2] [0,1,2] D D)
  refine dI 14 D (fW9 h1) (eL 6 D (eL 7 D (eL 8 D (eL 9 D (eL 10 D (eL 11 D (eL 12 D (eL 13 D (eL 14 D (eL 15 D (eL 16 D (eL 17 D (eL 18 D (eL 19 D (wq 20 D (eZ D D) (gY ?_))))))))))))))))
  exact fH false bB ⟨D,D,D,D,bB⟩ (fun _ hm=>hm.pick [0,1] [0,1,2] [0,1,2] D D)
 intro sb bZ
 replace bZ:True:=bZ
 refine dE D (fun hh=>?_) (fun hh=>?_)
 ·have hsb:sb=true:=by simpa using hh
  refine bR (F ?_)
  refine bW5 D fun wx hm=>?_
  exact ⟨cl,_,D,hcl,hbst,(hm.pick [0,1] [0,1,2] [0,1,2] D D).cy⟩
 have hsb:sb=false:=by simpa using hh
 refine bN (bG (bJ (bX (bS D (bS D (W (cU D) D (dZ vK D D (eO kY 0 D D D (W (dP kF D) D (W (eT D D) D (bU ?_)))))))))))
 refine cN D (fun hkn=>?_) (fun hkn=>?_)
 ·refine bX (bS D (bS D (W (cU D) D (dZ bF5 D D ?_))))
  refine fX 0 fM D D D D D D (bU (bR (F ?_)))
  refine bW5 D fun wx hm=>?_
  exact ⟨cl,_,D,hcl,⟨G,G⟩,(hm.pick [0,1] [0,1,2] [0,1,2] D D).cy⟩
 refine bN (bG (bX ?_))
 have hk2:k < nb:=G
 obtain ⟨i,hi⟩:∃x,od[k]?=some x:=⟨_,fY9 G⟩
 have hib:=hord i (fZ9 hi)
 have rN:=(hm.fact 0 rfl:bT eV 6 87 w0.heap.size none A nb l w).1
 have hlen:=rN.len
 have hch9:SlT eQ 1 147 w A9 nb cx:=hm.fact 1 rfl
 have hchs:nX 146 cx w:=hm.fact 2 rfl
 have hcl9:=hch9.len
 refine eB (R:=∃g,Ao=some ⟨g,0,none⟩) (fun wx hm=>rG (hm.ownI 1 D) G) ?_
 rintro ⟨go,rfl⟩
 obtain ⟨b9,o9,hA,_,_⟩:=hch9.get G
 subst hA
 obtain ⟨x9,hx9⟩:∃x,cx[i]?=some x:=⟨_,fY9 G⟩
 have hx9l:=cX8 hcx hx9
 have hx9m:=fZ9 hx9
 have hs9:=hchs x9 hx9m
 obtain ⟨Ai,ni,ci,li⟩:=x9
 dsimp only at hx9l hs9
 have hni:=hs9.len
 obtain ⟨b0,hb0⟩:∃x,l[i]?=some x:=⟨_,fY9 G⟩
 have hni1:ni<=1000:=by have h8:=hchl b0 (fZ9 hb0);rw [<-nZ hb0,<-hx9l] at h8;omega
 have hstl:∀q∈li,q.2.1<=1000:=by rw [hx9l,nZ hb0];exact hstp b0 (fZ9 hb0)
 refine bS D (W (cU D) D (dZ vK D D (eO kY 0 D D D (bS D (W (bV (j:=k) kF D D G) D (W (dH (k:=0) (v:=I i) fM D (fun _ hm=>(SlT.ofOwn dQ5 (hm.ownI 1 D) hol)) hi D D) D (cG D (bU (bX (bS D (W (cU D) D (dZ zC D D (eO cY1 0 D D D (bS D (W (bV (j:=i) cP0 D D G) D (W (dH (k:=0) (v:=H Ai ni ci) cZ1 D (fun _ hm=>(hm.fact 1 D)) hx9 D D) D (W (dP bZ4 D) D (bS D (bU (bP ?_))))))))))))))))))))
 refine dS (γ:=Nat×Int×List M) (fun (gq:Nat×Int×List M)=>gq.1<=ni/\gq.2.2.length=nb/\ -1<=gq.2.1/\gq.2.1<=1000000) (fun (gq:Nat×Int×List M)=> [(0,.pointer (some ⟨g,0,none⟩)),(1,I k),(2,I used),(6,I i),(54,H Ai ni ci),(55,I ni),(56,I (gq.1))]) (fun (gq:Nat×Int×List M)=>fun _=>True) (fun (gq:Nat×Int×List M)=> [(g,144, [H A nb cb,H (some ⟨b9,o9,none⟩) nb c9,H (some ⟨go,0,none⟩) nb co,H (some ⟨gc,0,none⟩) nb nb,H none 0 0,H (some ⟨gr,0,none⟩) (nb+1) (nb+1),J gq.2.1]),(g7,140, [.pointer (some ⟨g,0,none⟩)])]) (fun (gq:Nat×Int×List M)=> [⟨H (some ⟨gc,0,none⟩) nb nb,9,1,nb,(gq.2.2).flatMap dU⟩,⟨H (some ⟨go,0,none⟩) nb co,3,1,nb,od.flatMap pW⟩,⟨H (some ⟨gr,0,none⟩) (nb+1) (nb+1),3,1,nb+1,re.flatMap gS⟩]) (fun (gq:Nat×Int×List M)=> [bT eV 6 87 w0.heap.size none A nb l,fun wy=>SlT eQ 1 147 wy (some ⟨b9,o9,none⟩) nb cx,fun wy=>nX 146 cx wy]) (fun (gq:Nat×Int×List M)=>ni - gq.1) (0,best,cl) ⟨Nat.zero_le _,hcl,hbst⟩ ⟨D,D,D,D,D,D,D,bB⟩ (fun _ hm=>hm.pick [0,1] [0,1,2] [0,1,2] D D) ?_
 rintro ⟨j,bj,ce⟩ bZ
 replace bZ:j<=ni/\ce.length=nb/\ -1<=bj/\bj<=1000000:=bZ
 dsimp only
 refine bX ?_
 obtain ⟨hj0,hce,hbj⟩:=bZ
 refine W (dF D D) D (bU (bJ ?_))
 refine cN D (fun hj=>?_) (fun hj=>?_)
 ·refine bN (bG (bJ (bP (bX ?_))))
  obtain ⟨bi,oi,hA,_,_⟩:=hs9.get G
  subst hA
  obtain ⟨q,hq⟩:∃x,li[j]?=some x:=⟨_,fY9 G⟩
  have hqs:=hstl q (fZ9 hq)
  obtain ⟨c,st,mm⟩:=q
  dsimp only at hqs
  refine W (bV (j:=j) bZ4 D D G) D (W (dR (vs:= [U c,I st,I mm]) cW4 D (fun _ hm=>((hm.fact 2 D) _ hx9m)) hq D D) D (yR (vs:= [U c,I st,I mm]) (cs':= [U c,I st,I mm]) eJ9 D cW4 (fun _=>D) (fun _=>D) D D D D fun g1=>bU (bX (bS D (bS D (bS D (W (dG cW4 D (fun _ hm=>hm.blkI 0 D) D D) D ?_)))))))
  refine fK (γ:=Bool) (val:=(fun g=> .bool g)) (φ:=(fun g=>True)) (Y:=(fun g=>fun _=>True)) D eK8 D D (fun wx hm=>(cI5 l A nb cb (some ⟨go,0,none⟩) co od (some ⟨gc,0,none⟩) nb ce _ _ _ _ g k i c st mm wx (hm.blkI 1 D) (hm.fact 0 D).1 (SlT.ofOwn dQ5 (hm.ownI 1 D) hol) (SlT.ofOwn mQ (hm.ownI 0 D) hce) hk hib hn pI hord htm).mono fun _ _ ⟨v,he,hg⟩=>⟨v,he,bB,hg,bB⟩) (fun _=>Lasts2.true_) ?_
  rintro RF mO
  clear mO
  refine bU ?_
  refine dE D (fun hh=>?_) (fun hh=>?_)
  ·have hrf:RF=true:=by simpa using hh
   refine bJ ?_
   obtain ⟨c0,hc0⟩:∃x,ce[i]?=some x:=⟨_,fY9 G⟩
   refine gd (fun wz=>Blk wz g1 146 [U c,I st,I mm]/\Blk wz g 144 [H A nb cb,H (some ⟨b9,o9,none⟩) nb c9,H (some ⟨go,0,none⟩) nb co,H (some ⟨gc,0,none⟩) nb nb,H none 0 0,H (some ⟨gr,0,none⟩) (nb+1) (nb+1),J bj]/\True) mixed (fun _ hm=>⟨hm.bl 0,hm.bl 1,bB⟩) fun z=>wq 0 D (bL D) (wq 1 D (cU D) (wq 2 D (bW xH D D) (wq 3 D (cH rX D (fun _ hm=>hm.2.1) D) (wq 4 D (bL D) (wq 5 D (bW bG5 D D) (wq 6 D (cH fR D (fun _ hm=>hm.1) D) (wq 7 D (bV (j:=i) mD D D G) (eD 8 D (jG (l:=ce) (j:=i) (r:=0) (el:=c0) (el':=c) 0 fR D D D D mQ D hc0 hce (show 0 < 1 by decide) D D (bH (nw 9 511 (fun _ hm=>⟨hm.bl 0,hm.bl 1,bB⟩) fun z=>gY (bG (bX (bS D (bS D (fY D D (bO 75 (v':=I (k+1)) D (fX9 G) (bS D (dZ bH5 D D (eO fM 0 D D D (fY D D (bO 79 (v':=I (used+st)) D (fX9 G) ?_))))))))))))))))))))))
   refine fW (γ:=List M×Int) (val:=fun _=> .tuple #[]) (φ:=fun gg=>gg.1.length=nb/\ -1<=gg.2/\gg.2<=1000000) (K':=fun _=>fun _=>True) (L':=fun gg=> [(g,144, [H A nb cb,H (some ⟨b9,o9,none⟩) nb c9,H (some ⟨go,0,none⟩) nb co,H (some ⟨gc,0,none⟩) nb nb,H none 0 0,H (some ⟨gr,0,none⟩) (nb+1) (nb+1),J gg.2]),(g7,140, [.pointer (some ⟨g,0,none⟩)])]) (O':=fun gg=> [⟨H (some ⟨gc,0,none⟩) nb nb,9,1,nb,(gg.1).flatMap dU⟩,⟨H (some ⟨go,0,none⟩) nb co,3,1,nb,od.flatMap pW⟩,⟨H (some ⟨gr,0,none⟩) (nb+1) (nb+1),3,1,nb+1,re.flatMap gS⟩]) (X':=fun _=> [bT eV 6 87 w0.heap.size none A nb l,fun wy=>SlT eQ 1 147 wy (some ⟨b9,o9,none⟩) nb cx,fun wy=>nX 146 cx wy]) D eB0 D D (fun wx hm=>(ih hk2 (used+st) bj (ce.set i c) wx (by rw [List.length_set];exact hce) G hbj ((hm.pick [1,2] [0,1,2] [1,2,3] D D).cy)).mono fun _ _ ⟨c2,b2,he,h1,h2,hm2⟩=>⟨(c2,b2),he,⟨h1,h2⟩,hm2.cy⟩) ?_
   rintro ⟨c2,b2⟩ ⟨hc2,hb2⟩
   dsimp only at hc2 hb2 ⊢
   obtain ⟨c3,hc3⟩:∃x,c2[i]?=some x:=⟨_,fY9 G⟩
   refine bU (bM (bS D (W (cU D) D (dZ xH D D (eO rX 0 D D D (bS D (W (bV (j:=i) mD D D G) D (jG (l:=c2) (j:=i) (r:=0) (el:=c3) (el':=⟨#[]⟩) 0 fR D D D D mQ D hc3 hc2 (show 0 < 1 by decide) D D (bH (bK (bG (bM (fY D D (bS D (bH ?_)))))))))))))))
   exact cQ (j+1,b2,c2.set i ⟨#[]⟩) ⟨bE,by dsimp only;rw [List.length_set];exact hc2,hb2⟩ bE ⟨D,D,D,D,D,D,(cP G),bB⟩ (fun _ hm=>hm.pick [0,1] [0,1,2] [0,1,2] D D)
  have hrf:RF=false:=by simpa using hh
  refine bN (bK (bG (bM (fY D D (bS D (bH ?_))))))
  exact cQ (j+1,bj,ce) ⟨bE,hce,hbj⟩ bE ⟨D,D,D,D,D,D,(cP G),bB⟩ (fun _ hm=>hm.pick [1,2] [0,1,2] [1,2,3] D D)
 refine dD (bI (bI (bY ?_)))
 refine jF D fun wx hm=>?_
 exact ⟨ce,_,D,hce,hbj,(hm.pick [0,1] [0,1,2] [0,1,2] D D).cy⟩
theorem cY7(w0:World)(l:List Bk)(A:Option Addr)(nb cb:Nat)(cs:List Cs)(sl:List Sk)(A9:Option Addr)(c9:Nat)(cx:List nB)(od:List Nat)(Ao:Option Addr)(co:Nat)(re:List Int)(g g7 gc gr:Nat)(hn:nb<=1000)(pI:nb<=co)(hol:od.length=nb)(hrl:re.length=nb+1)(hord:∀j∈od,j < nb)(htm:bH0 l)(hcx:cx.map nB.l=l.map (qZ cs sl))(hstp:∀b∈l,∀q∈qZ cs sl b,q.2.1<=1000)(hchl:∀b∈l,(qZ cs sl b).length<=1000)(hre:∀k,k<=nb->∃r:Nat,re[k]?=some ((r:Nat):Int)/\r<=1000000):∀(d k:Nat),k+d=nb->WCf w0 l A nb cb A9 c9 cx od Ao co re g g7 gc gr k
 |0,k,h=>dF1 w0 l A nb cb cs sl A9 c9 cx od Ao co re g g7 gc gr k (fun h2=>absurd h2 (by omega)) (by omega) hn pI hol hrl hord htm hcx hstp hchl hre
 |d+1,k,h=>dF1 w0 l A nb cb cs sl A9 c9 cx od Ao co re g g7 gc gr k (fun _=>cY7 w0 l A nb cb cs sl A9 c9 cx od Ao co re g g7 gc gr hn pI hol hrl hord htm hcx hstp hchl hre d (k+1) (by omega)) (by omega) hn pI hol hrl hord htm hcx hstp hchl hre
theorem SlT.farT{α:Type}{enc:α->List Value}{k:Nat}{T:TypeId}{N:Nat}{A:Option Addr}{n:Nat}{l:List α}{w:World}(h:SlT enc k T w A n l){e:TypeId}{sz br m eX n':Nat}{xs:List Value}(ho:w.ownsRow N e sz (H (some ⟨br,0,none⟩) m eX) n' xs)(hT:T≠e):bT enc k T w.heap.size (some br) A n l w:=⟨h,fun b off e1 hn=>by
 obtain ⟨b2,off2,cells,fz,e2,hh,_⟩:=h.at_ hn
 rw [e1] at e2;cases e2
 refine ⟨(Array.getElem?_eq_some_iff.1 hh).1,fun e3=>?_⟩
 cases e3
 rcases ho.2 with ⟨h2,_⟩|⟨g',cap',uY,hv,hbase,hh2,_⟩
 ·cases h2
 ·injection hv with hA _ _
  injection hA with hA
  injection hA with hA _ _
  subst hA
  rw [hh] at hh2
  injection hh2 with hh2
  injection hh2 with _ hh2 _
  exact hT hh2⟩
theorem bS9{css:List (List (CdW M))}{cx:List nB}(h:cx.map nB.l=css)(hn:∀x∈cx,x.l.length=x.n){i:Nat}{x:nB}(hx:cx[i]?=some x):((x.n:Nat):Int)=(zR css i:Int):=by
 unfold zR
 rw [<-h,List.getD_eq_getElem?_getD,List.getElem?_map,hx]
 show _=((x.l.length:Nat):Int)
 rw [hn x (fZ9 hx)]
theorem eI5(cx:List nB)(css:List (List (CdW M)))(A9:Option Addr)(nb c9 g7 g:Nat)(q0 q2 q3 q4 q5 q6:Value)(i j:Nat)(w:World)(hch:SlT eQ 1 147 w A9 nb cx)(hp:Blk w g7 140 [.pointer (some ⟨g,0,none⟩)])(hb:Blk w g 144 [q0,H A9 nb c9,q2,q3,q4,q5,q6])(hcx:cx.map nB.l=css)(yC:∀x∈cx,x.l.length=x.n)(hi:i < nb)(hj:j < nb):
 Calls prog 107 #[I i,I j,.pointer (some ⟨g7,0,none⟩)] w (fun e w'=>e=.returned (J (pT (zR css i:Int) (zR css j:Int)))/\w.grownBy w' none):=by
 refine cY ⟨23,w,none, []⟩ func107 D ntmps107 D (fZ (X:= [bT eQ 1 147 w.heap.size none A9 nb cx,eC w.heap.size none g7 140 [.pointer (some ⟨g,0,none⟩)],eC w.heap.size none g 144 [q0,H A9 nb c9,q2,q3,q4,q5,q6]]) (cC hch.old (cC hp.old (cC hb.old cZ))) (cE bT.lasts (cE eC.lasts (cE eC.lasts dA)))) (bX ?_)
 have hlen:=hch.len
 obtain ⟨b9,o9,hA,_,_⟩:=hch.get G
 subst hA
 obtain ⟨x,hx⟩:∃x,cx[i]?=some x:=⟨_,fY9 G⟩
 obtain ⟨y,hy⟩:∃x,cx[j]?=some x:=⟨_,fY9 G⟩
 have ex:=bS9 hcx yC hx
 have ey:=bS9 hcx yC hy
 obtain ⟨xa,xn,xc,xl⟩:=x
 obtain ⟨ya,yn,yc,yl⟩:=y
 dsimp only at ex ey
 rw [<-ex,<-ey]
 refine cG D (bU (bJ (gd (fun wz=>(bT eQ 1 147 w.heap.size none (some ⟨b9,o9,none⟩) nb cx) wz/\(eC w.heap.size none g7 140 [.pointer (some ⟨g,0,none⟩)]) wz/\(eC w.heap.size none g 144 [q0,H (some ⟨b9,o9,none⟩) nb c9,q2,q3,q4,q5,q6]) wz/\True) mixed (fun _ hm=>⟨hm.fa 0,hm.fa 1,hm.fa 2,bB⟩) fun z=>wq 0 D (cH (v:= .pointer (some ⟨g,0,none⟩)) qJ D (fun _ hm=>(hm.2.1).2) D) (wq 1 D (cU D) (wq 2 D (bW zC D D) (wq 3 D (cH (v:=H (some ⟨b9,o9,none⟩) nb c9) cY1 D (fun _ hm=>(hm.2.2.1).2) D) (wq 4 D (bL D) (wq 5 D (bV (j:=i) cP0 D D G) (wq 6 D (dH (k:=0) (v:=H xa xn xc) cZ1 D (fun _ hm=>(hm.1).1) hx D D) (wq 7 D (dP bZ4 D) (wq 8 D (cH (v:= .pointer (some ⟨g,0,none⟩)) qJ D (fun _ hm=>(hm.2.1).2) D) (wq 9 D (cU D) (wq 10 D (bW zC D D) (wq 11 D (cH (v:=H (some ⟨b9,o9,none⟩) nb c9) cY1 D (fun _ hm=>(hm.2.2.1).2) D) (wq 12 D (bL D) (wq 13 D (bV (j:=j) cP0 D D G) (wq 14 D (dH (k:=0) (v:=H ya yn yc) cZ1 D (fun _ hm=>(hm.1).1) hy D D) (wq 15 D (dP bZ4 D) (eD 16 D (cR D cM8 D D (fun wx hm=>(bV4 _ _ wx)) (bH (nw 18 131071 (fun _ hm=>⟨hm.fa 0,hm.fa 1,hm.fa 2,bB⟩) fun z=>wq 17 D (dB D) (gY (bG (bR ?_)))))))))))))))))))))))))
 exact bQ D D fun wx hm=>⟨D,hm.g⟩
theorem eJ5(cx:List nB)(css:List (List (CdW M)))(A9:Option Addr)(nb c9 g7 g:Nat)(q0 q2 q3 q4 q5 q6:Value)(x y:Int)(w:World)(hch:SlT eQ 1 147 w A9 nb cx)(hp:Blk w g7 140 [.pointer (some ⟨g,0,none⟩)])(hb:Blk w g 144 [q0,H A9 nb c9,q2,q3,q4,q5,q6])(hcx:cx.map nB.l=css)(yC:∀x∈cx,x.l.length=x.n)(hx:0<=x/\x < (nb:Int))(hy:0<=y/\y < (nb:Int)):
 Calls prog 107 #[J x,J y,.pointer (some ⟨g7,0,none⟩)] w (fun e w'=>e=.returned (J (pT (zR css x.toNat:Int) (zR css y.toNat:Int)))/\w.grownBy w' none):=by
 obtain ⟨i,rfl⟩:=Int.eq_ofNat_of_zero_le hx.1
 obtain ⟨j,rfl⟩:=Int.eq_ofNat_of_zero_le hy.1
 exact eI5 cx css A9 nb c9 g7 g q0 q2 q3 q4 q5 q6 i j w hch hp hb hcx yC G G
theorem fV0(cx:List nB)(css:List (List (CdW M)))(A9:Option Addr)(nb c9 g7 g:Nat)(q0 q2 q3 q4 q5 q6:Value)(l0:List Int)(br n eX base:Nat)(w:World)(h:w.ownsRow base 3 1 (H (some ⟨br,0,none⟩) n eX) n (l0.flatMap gS))(rN:l0.length=n)(hn:n<=1000000)(hch:bT eQ 1 147 w.heap.size (some br) A9 nb cx w)(hp:eC w.heap.size (some br) g7 140 [.pointer (some ⟨g,0,none⟩)] w)(hb:eC w.heap.size (some br) g 144 [q0,H A9 nb c9,q2,q3,q4,q5,q6] w)(hcx:cx.map nB.l=css)(yC:∀x∈cx,x.l.length=x.n)(qD:∀z∈l0,0<=z/\z < (nb:Int)):
 Calls prog 191 #[H (some ⟨br,0,none⟩) n eX,J 0,I n,.func (.func 107) #[] #[.pointer (some ⟨g7,0,none⟩)]] w (fun e w'=>e=.returned (.tuple #[])/\w'.ownsRow base 3 1 (H (some ⟨br,0,none⟩) n eX) n ((dY (bS3 css) l0).flatMap gS)/\w.grownBy w' (some br)):=by
 obtain ⟨R,hR⟩:∃z,z=dY (bS3 css) l0:=⟨_,rfl⟩
 rw [<-hR]
 refine cY ⟨53,w,(some br), []⟩ func191 D ntmps191 D (bX0 (X:= [bT eQ 1 147 w.heap.size (some br) A9 nb cx,eC w.heap.size (some br) g7 140 [.pointer (some ⟨g,0,none⟩)],eC w.heap.size (some br) g 144 [q0,H A9 nb c9,q2,q3,q4,q5,q6]]) h (cC hch (cC hp (cC hb cZ))) (cE bT.lasts (cE eC.lasts (cE eC.lasts dA)))) (bX (bS D (fY D D (bO 11 (v':=J 1) D D (cG D (bU (bP ?_)))))))
 refine dS (γ:=Nat×List Int) (fun gg=>(1<=gg.1/\gg.1<=n+1)/\gg.2.length=n/\mP (bS3 css) (n - gg.1) gg.1 gg.2=R) (fun gg=> [(0,H (some ⟨br,0,none⟩) n eX),(1,J 0),(2,I n),(3,.func (.func 107) #[] #[.pointer (some ⟨g7,0,none⟩)]),(8,I (gg.1))]) (fun gg=>gA base 3 1 n eX br ((gg.2).flatMap gS)) (fun gg=> []) (fun gg=> []) (fun gg=> [bT eQ 1 147 w.heap.size (some br) A9 nb cx,eC w.heap.size (some br) g7 140 [.pointer (some ⟨g,0,none⟩)],eC w.heap.size (some br) g 144 [q0,H A9 nb c9,q2,q3,q4,q5,q6]]) (fun gg=>n+1 - gg.1) (1,l0) ⟨⟨Nat.le_refl _,G⟩,rN,by rw [hR];unfold dY;rw [rN]⟩ ⟨D,D,D,D,(cP G),bB⟩ (fun _ hm=>hm.pick [] [] [0,1,2] D D) ?_
 rintro ⟨i,l⟩ bZ
 replace bZ:(1<=i/\i<=n+1)/\l.length=n/\mP (bS3 css) (n - i) i l=R:=bZ
 dsimp only
 refine bJ (bX ?_)
 obtain ⟨⟨hi1,zI⟩,hl1,hR1⟩:=bZ
 refine bS D (bS D (W (dF D D) D (bU ?_)))
 refine cN D (fun hi=>?_) (fun hi=>?_)
 ·refine bN (bG (bJ (bP (bX ?_))))
  have hRi:mP (bS3 css) (n - (i+1)) (i+1) (qL (bS3 css) i l)=R:=by rw [<-hR1,show n - i=(n - (i+1))+1 by omega];rfl
  obtain ⟨S,hS⟩:∃z,z=qL (bS3 css) i l:=⟨_,rfl⟩
  rw [<-hS] at hRi
  have hSl:S.length=n:=by rw [hS,wZ];exact hl1
  refine bS D (cG D (bU (bP ?_)))
  refine dS (γ:=Nat×List Int) (fun gg=>(gg.1<=i)/\gg.2.length=n/\qL (bS3 css) gg.1 gg.2=S) (fun gg=> [(0,H (some ⟨br,0,none⟩) n eX),(1,J 0),(2,I n),(3,.func (.func 107) #[] #[.pointer (some ⟨g7,0,none⟩)]),(8,I i),(9,I (gg.1))]) (fun gg=>gA base 3 1 n eX br ((gg.2).flatMap gS)) (fun gg=> []) (fun gg=> []) (fun gg=> [bT eQ 1 147 w.heap.size (some br) A9 nb cx,eC w.heap.size (some br) g7 140 [.pointer (some ⟨g,0,none⟩)],eC w.heap.size (some br) g 144 [q0,H A9 nb c9,q2,q3,q4,q5,q6]]) (fun gg=>gg.1) (i,l) ⟨Nat.le_refl _,hl1,hS.symm⟩ ⟨D,D,D,D,D,D,bB⟩ (fun _ hm=>hm.pick [] [] [0,1,2] D D) ?_
  rintro ⟨jj,m⟩ bZ
  replace bZ:(jj<=i)/\m.length=n/\qL (bS3 css) jj m=S:=bZ
  dsimp only
  refine bJ (bJ ?_)
  obtain ⟨hj1,nR,hS1⟩:=bZ
  rcases jj with _|j
  ·refine gd (fun wz=>True) mixed (fun _ _=>bB) fun z=>?_
   refine wq 0 D (bL D) (dI 18 (v':=J 0) D D (wq 1 D (bL D) (wq 2 D (eM D D) (dI 20 (v':= .bool false) D (fW9 bD) (wq 3 D (bL D) (eL 4 D (eL 5 D (eL 6 D (eL 7 D (eL 8 D (eL 9 D (eL 10 D (eL 11 D (eL 12 D (eL 13 D (eL 14 D (eL 15 D (wq 16 D (eZ D D) (gY (bG (jK D (dD (bI (bI (bY ?_)))))))))))))))))))))))))
   refine bK (bG (bM (bS D (fY D D (cG D (bH ?_))))))
   have hm2:m=S:=hS1
   exact cQ (i+1,m) ⟨⟨bE,bE⟩,by rw [hm2];exact hSl,by rw [hm2];exact hRi⟩ bE ⟨D,D,D,D,(cP G),bB⟩ (fun _ hm=>hm.pick [] [] [0,1,2] D D)
  have hj2:j+1 < n:=G
  have hin:∀z∈m,z∈l0:=fun z hz=>eJ2 hR hRi hS1 hz
  obtain ⟨x0,hx⟩:∃x,m[j+1]?=some x:=⟨_,fY9 G⟩
  obtain ⟨y0,hy⟩:∃x,m[j]?=some x:=⟨_,fY9 G⟩
  refine gd (fun wz=>(gA base 3 1 n eX br ((m).flatMap gS)) wz/\True) mixed (fun _ hm=>⟨hm.k,bB⟩) fun z=>wq 0 D (bL D) (wq 1 D (bL D) (wq 2 D (eM D D) (dI 20 (v':= .bool true) D (fW9 (decide_eq_true G)) (wq 3 D (bL D) (eU 4 D (bL D) (eU 5 D (bL D) (eU 6 D (bL D) (eU 7 D (bV (j:=(j+1)) kF D D G) (eU 8 D (dH (k:=0) (v:=J x0) fM D (fun _ hm=>(gA.get (hm.1) xX nR)) hx D D) (eU 9 D (bL D) (eU 10 D (bL D) (eU 11 D (ov_sub D D G G) (dI 29 (v':=I j) D (fX9 G) (eU 12 D (bV (j:=j) kF D D G) (eU 13 D (dH (k:=0) (v:=J y0) fM D (fun _ hm=>(gA.get (hm.1) xX nR)) hy D D) (eD 14 D (eN D (cR D fH3 D D (fun wx hm=>(eJ5 cx css A9 nb c9 g7 g q0 q2 q3 q4 q5 q6 x0 y0 wx (hm.fact 0 D).1 (hm.fact 1 D).2 (hm.fact 2 D).2 hcx yC (qD _ (hin _ (fZ9 hx))) (qD _ (hin _ (fZ9 hy))))) (bH (nw 17 32767 (fun _ hm=>⟨hm.k,bB⟩) fun z=>eU 15 D (dF D D) (wq 16 D (fG D D) (gY (bG ?_)))))))))))))))))))))))
  refine cN D (fun hlt=>?_) (fun hlt=>?_)
  ·refine bN (bG (bJ (bP ?_)))
   have hlt2:(bS3 css) x0 y0=true:=decide_eq_true (show pT (zR css x0.toNat:Int) (zR css y0.toNat:Int) < 0 from hlt)
   have hS2:=(xA hx hy hlt2).symm.trans hS1
   refine gd (fun wz=>True) mixed (fun _ _=>bB) fun z=>wq 0 D (bL D) (wq 1 D (bL D) (wq 2 D (bL D) (wq 3 D (bL D) (wq 4 D (ov_sub D D G G) (dI 41 (v':=I j) D (fX9 G) (wq 5 D (bL D) (wq 6 D (bL D) (wq 7 D (ov_sub D D G G) (dI 44 (v':=I j) D (fX9 G) (wq 8 D (bV (j:=j) kF D D G) (wq 10 D (bL D) (wq 11 D (bL D) (wq 12 D (bV (j:=(j+1)) kF D D G) ?_)))))))))))))
   refine jC [9,13] bC D ⟨⟨_,D,?_⟩,⟨_,D,?_⟩,bB⟩
   ·refine W (dH (k:=0) (v:=J y0) fM D (fun _ hm=>(gA.get hm.k xX nR)) hy D D) D ?_
    refine bH (nw 18 8191 (fun _ _=>bB) fun z=>eD 13 D (W (dH (k:=0) (v:=J x0) fM D (fun _ hm=>(gA.get hm.k xX nR)) hx D D) D (bH (nw 18 16383 (fun _ _=>bB) fun z=>wq 14 D (bV (j:=(j+1)) kF D D G) (eD 15 D (xP (l:=m) (j:=j+1) (r:=0) (el:=x0) (el':=y0) D fM D D D xX D hx nR bD D D (bH (nw 18 65535 (fun _ _=>bB) fun z=>wq 16 D (bV (j:=j) kF D D G) (eD 17 D ?_)))))))))
    refine xP (l:=m.set (j+1) y0) (j:=j) (r:=0) (el:=y0) (el':=x0) D fM D D D xX D (by rw [List.getElem?_set_ne G];exact hy) (by rw [List.length_set];exact nR) bD D D ?_
    refine bH (nw 18 262143 (fun _ _=>bB) fun z=>gY (bK (bG (bM (bS D (W (ov_sub D D G G) D (bO 36 (v':=I j) D (fX9 G) (cG D (bH ?_)))))))))
    exact cQ (j,(m.set (j+1) y0).set j x0) ⟨bE,by simp [nR],hS2⟩ bE ⟨D,D,D,D,D,(cP G),bB⟩ (fun _ hm=>hm.pick [] [] [0,1,2] D D)
   refine W (dH (k:=0) (v:=J x0) fM D (fun _ hm=>(gA.get hm.k xX nR)) hx D D) D (bH (nw 18 15871 (fun _ _=>bB) fun z=>eD 9 D (W (dH (k:=0) (v:=J y0) fM D (fun _ hm=>(gA.get hm.k xX nR)) hy D D) D (bH (nw 18 16383 (fun _ _=>bB) fun z=>wq 14 D (bV (j:=(j+1)) kF D D G) (eD 15 D (xP (l:=m) (j:=j+1) (r:=0) (el:=x0) (el':=y0) D fM D D D xX D hx nR bD D D (bH (nw 18 65535 (fun _ _=>bB) fun z=>wq 16 D (bV (j:=j) kF D D G) (eD 17 D ?_))))))))))
   refine xP (l:=m.set (j+1) y0) (j:=j) (r:=0) (el:=y0) (el':=x0) D fM D D D xX D (by rw [List.getElem?_set_ne G];exact hy) (by rw [List.length_set];exact nR) bD D D ?_
   refine bH (nw 18 262143 (fun _ _=>bB) fun z=>gY (bK (bG (bM (bS D (W (ov_sub D D G G) D (bO 36 (v':=I j) D (fX9 G) (cG D (bH ?_)))))))))
   exact cQ (j,(m.set (j+1) y0).set j x0) ⟨bE,by simp [nR],hS2⟩ bE ⟨D,D,D,D,D,(cP G),bB⟩ (fun _ hm=>hm.pick [] [] [0,1,2] D D)
  refine dD (bI (bI (bY (bK (bG (bM ?_))))))
  have hlt2:(bS3 css) x0 y0=false:=decide_eq_false (show ¬pT (zR css x0.toNat:Int) (zR css y0.toNat:Int) < 0 from hlt)
  have hS2:=(bD0 hx hy hlt2).symm.trans hS1
  refine bS D (fY D D (cG D (bH ?_)))
  have hm2:m=S:=hS2
  exact cQ (i+1,m) ⟨⟨bE,bE⟩,by rw [hm2];exact hSl,by rw [hm2];exact hRi⟩ bE ⟨D,D,D,D,(cP G),bB⟩ (fun _ hm=>hm.pick [] [] [0,1,2] D D)
 refine dD (bI (bI (bY ?_)))
 obtain rfl:l=R:=by rw [<-hR1,show n - i=0 by omega];rfl
 refine jF D fun wx hm=>?_
 exact ⟨D,kS hm.k hm.g⟩
theorem fW1(cx:List nB)(css:List (List (CdW M)))(A9:Option Addr)(nb c9 g7 g:Nat)(q0 q2 q3 q4 q5 q6:Value)(l0:List Int)(br n eX base:Nat)(w:World)(h:w.ownsRow base 3 1 (H (some ⟨br,0,none⟩) n eX) n (l0.flatMap gS))(rN:l0.length=n)(hn:n<=19)(hch:bT eQ 1 147 w.heap.size (some br) A9 nb cx w)(hp:eC w.heap.size (some br) g7 140 [.pointer (some ⟨g,0,none⟩)] w)(hb:eC w.heap.size (some br) g 144 [q0,H A9 nb c9,q2,q3,q4,q5,q6] w)(hcx:cx.map nB.l=css)(yC:∀x∈cx,x.l.length=x.n)(qD:∀z∈l0,0<=z/\z < (nb:Int)):
 Calls prog 156 #[H (some ⟨br,0,none⟩) n eX,I n,.func (.func 107) #[] #[.pointer (some ⟨g7,0,none⟩)]] w (fun e w'=>e=.returned (.tuple #[])/\w'.ownsRow base 3 1 (H (some ⟨br,0,none⟩) n eX) n ((dY (bS3 css) l0).flatMap gS)/\w.grownBy w' (some br)):=by
 refine cY ⟨63,w,(some br), []⟩ func156 D ntmps156 D (bX0 (X:= [bT eQ 1 147 w.heap.size (some br) A9 nb cx,eC w.heap.size (some br) g7 140 [.pointer (some ⟨g,0,none⟩)],eC w.heap.size (some br) g 144 [q0,H A9 nb c9,q2,q3,q4,q5,q6]]) h (cC hch (cC hp (cC hb cZ))) (cE bT.lasts (cE eC.lasts (cE eC.lasts dA)))) (bX (cG D (bU (bX (bS D (cG D (cG D (bU (bJ (bP (fF 1 (eK (bJ (bX (bS D (bS D (W (mJ D D) D (bO 13 (v':= .bool false) D (fW9 (decide_eq_false G)) (bU (jK D (dD (bI (bI (bY ?_))))))))))))))))))))))))
 refine bG (bX (bS D (bS D (bS D (bS D ?_)))))
 refine kW D D D eX8 D D (fun wx hm=>(fV0 cx css A9 nb c9 g7 g q0 q2 q3 q4 q5 q6 l0 br n eX base wx hm.k rN G (hm.fact 0 D).again (hm.fact 1 D).again2 (hm.fact 2 D).again2 hcx yC qD)) ?_
 refine bU (bP (fF 1 (eK (bJ (bX (bS D (bS D (W (dF D D) D (bO 30 (v':= .bool false) D (fW9 (decide_eq_false G)) (bU (jK D (dD (bI (bI (bY ?_)))))))))))))))
 refine jF D fun wx hm=>?_
 exact ⟨D,kS hm.k hm.g⟩
theorem dZ8(cx:List nB)(css:List (List (CdW M)))(A9:Option Addr)(nb c9 g7 g:Nat)(q0 q2 q3 q4 q5 q6:Value)(l0:List Int)(br n eX base:Nat)(w:World)(h:w.ownsRow base 3 1 (H (some ⟨br,0,none⟩) n eX) n (l0.flatMap gS))(rN:l0.length=n)(hn:n<=19)(hch:bT eQ 1 147 w.heap.size (some br) A9 nb cx w)(hp:eC w.heap.size (some br) g7 140 [.pointer (some ⟨g,0,none⟩)] w)(hb:eC w.heap.size (some br) g 144 [q0,H A9 nb c9,q2,q3,q4,q5,q6] w)(hcx:cx.map nB.l=css)(yC:∀x∈cx,x.l.length=x.n)(qD:∀z∈l0,0<=z/\z < (nb:Int)):
 Calls prog 106 #[H (some ⟨br,0,none⟩) n eX,.func (.func 107) #[] #[.pointer (some ⟨g7,0,none⟩)]] w (fun e w'=>e=.returned (.tuple #[])/\w'.ownsRow base 3 1 (H (some ⟨br,0,none⟩) n eX) n ((dY (bS3 css) l0).flatMap gS)/\w.grownBy w' (some br)):=by
 refine cY ⟨9,w,(some br), []⟩ func106 D ntmps106 D (bX0 (X:= [bT eQ 1 147 w.heap.size (some br) A9 nb cx,eC w.heap.size (some br) g7 140 [.pointer (some ⟨g,0,none⟩)],eC w.heap.size (some br) g 144 [q0,H A9 nb c9,q2,q3,q4,q5,q6]]) h (cC hch (cC hp (cC hb cZ))) (cE bT.lasts (cE eC.lasts (cE eC.lasts dA)))) (bM (W (bL D) D (W (bL D) D (W (dP kF D) D (W (bL D) D ?_)))))
 refine kW D D D eU8 D D (fun wx hm=>(fW1 cx css A9 nb c9 g7 g q0 q2 q3 q4 q5 q6 l0 br n eX base wx hm.k rN G (hm.fact 0 D).again (hm.fact 1 D).again2 (hm.fact 2 D).again2 hcx yC qD)) ?_
 refine bH ?_
 refine jF D fun wx hm=>?_
 exact ⟨D,kS hm.k hm.g⟩
theorem eE6(A:Option Addr)(eX g7:Nat)(w:World):Calls prog 191 #[H A 0 eX,J 0,J 0,.func (.func 107) #[] #[.pointer (some ⟨g7,0,none⟩)]] w (fun e w'=>e=.returned (.tuple #[])/\w.grownBy w' none):=by
 refine cY ⟨53,w,none, []⟩ func191 D ntmps191 D (fZ (X:= []) cZ dA) (bX (bS D (fY D D (bO 11 (v':=J 1) D D (cG D (bU (bP (fF 1 (eK (bJ (bX (bS D (bS D (W (dF D D) D (bO 14 (v':= .bool false) D (fW9 bD) (bU (jK D (dD (bI (bI (bY ?_)))))))))))))))))))))
 refine jF D fun wx hm=>?_
 exact ⟨D,hm.g⟩
theorem eC7(A:Option Addr)(eX g7:Nat)(w:World):Calls prog 156 #[H A 0 eX,J 0,.func (.func 107) #[] #[.pointer (some ⟨g7,0,none⟩)]] w (fun e w'=>e=.returned (.tuple #[])/\w.grownBy w' none):=by
 refine cY ⟨63,w,none, []⟩ func156 D ntmps156 D (fZ (X:= []) cZ dA) (bX (cG D (bU (bX (bS D (cG D (cG D (bU (bJ (bP (fF 1 (eK (bJ (bX (bS D (bS D (W (mJ D D) D (bO 13 (v':= .bool false) D (fW9 bD) (bU (jK D (dD (bI (bI (bY ?_))))))))))))))))))))))))
 refine bG (bX (bS D (bS D (bS D (bS D (cR D eX8 D D (fun wx hm=>(eE6 A eX g7 wx)) (bU (bP (fF 1 (eK (bJ (bX (bS D (bS D (W (dF D D) D (bO 30 (v':= .bool false) D (fW9 bD) (bU (jK D (dD (bI (bI (bY ?_))))))))))))))))))))))
 refine jF D fun wx hm=>?_
 exact ⟨D,hm.g⟩
theorem dX3(A:Option Addr)(eX g7:Nat)(w:World):Calls prog 106 #[H A 0 eX,.func (.func 107) #[] #[.pointer (some ⟨g7,0,none⟩)]] w (fun e w'=>e=.returned (.tuple #[])/\w.grownBy w' none):=by
 refine cY ⟨9,w,none, []⟩ func106 D ntmps106 D (fZ (X:= []) cZ dA) (bM (W (bL D) D (W (bL D) D (W (dP kF D) D (bO 6 (v':=J 0) D D (W (bL D) D (cR D eU8 D D (fun wx hm=>(eC7 A eX g7 wx)) (bH ?_))))))))
 refine jF D fun wx hm=>?_
 exact ⟨D,hm.g⟩
end Go.Proofs.YtapdhfjfgpbnnaaGreatDoor
