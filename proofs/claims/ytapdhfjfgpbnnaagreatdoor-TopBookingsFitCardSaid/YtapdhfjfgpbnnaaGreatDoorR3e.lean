/- Several texts as one: Yp Smp Dki Dkj Dkl Dkm Dkp Mr Ss2 Sst Dkq Dkr Dkx Dky Tbp Td -/
import Derived.Test.YtapdhfjfgpbnnaaGreatDoorR3a
import Derived.Test.YtapdhfjfgpbnnaaGreatDoorR3d
import Derived.Test.YtapdhfjfgpbnnaaGreatDoorR3c
import Derived.Test.YtapdhfjfgpbnnaaGreatDoorR3b
import Derived.Maps.RangeRun
import Derived.Test.YtapdhfjfgpbnnaaGreatDoorProg
import Derived.Ground.NamesProg
import Derived.Shelf.Sort.Plain
import Derived.Shelf.Slices.In.SortNone
set_option maxRecDepth 100000
set_option maxHeartbeats 4000000
namespace Go.Proofs.YtapdhfjfgpbnnaaGreatDoor
open Tryz
open Go.RowKit
section
variable {α:Type}
def bZ2(lt:α->α->Bool)(x:α):List α->List α
 | []=> [x]
 |y::r=>if lt x y=true then y::bZ2 lt x r else x::y::r
theorem cZ0{lt:α->α->Bool}{x z:α}:∀{l:List α},z∈bZ2 lt x l->z=x∨z∈l
 | [],h=> .inl (List.mem_singleton.1 h)
 |y::r,h=>by
  unfold bZ2 at h
  split at h
  ·rcases List.mem_cons.1 h with rfl|h
   ·exact .inr (List.mem_cons_self ..)
   ·rcases cZ0 h with h|h
    ·exact .inl h
    ·exact .inr (List.mem_cons_of_mem _ h)
  ·rcases List.mem_cons.1 h with h|h
   ·exact .inl h
   ·exact .inr h
theorem cQ9{lt:α->α->Bool}{x:α}:∀{l:List α},(bZ2 lt x l).length=l.length+1
 | []=>rfl
 |y::r=>by
  have:=cQ9 (lt:=lt) (x:=x) (l:=r)
  unfold bZ2
  split
  ·rw [List.length_cons,this,List.length_cons]
  ·rw [List.length_cons]
theorem dM0{lt:α->α->Bool}:∀{j:Nat} {l:List α} {x:α},l[j]?=some x->qL lt j l=(bZ2 lt x (l.take j).reverse).reverse++l.drop (j+1)
 |0,l,x,h=>by
  obtain ⟨h1,rfl⟩:=List.getElem?_eq_some_iff.1 h
  show l= [l[0]]++l.drop 1
  rw [List.singleton_append,<-List.drop_eq_getElem_cons h1,List.drop_zero]
 |j+1,l,x,h=>by
  obtain ⟨h1,hx⟩:=List.getElem?_eq_some_iff.1 h
  obtain ⟨y,hy⟩:∃y,l[j]?=some y:=⟨_,fY9 G⟩
  have ht:(l.take (j+1)).reverse=y::(l.take j).reverse:=by
   rw [List.take_add_one,hy];simp
  rw [ht]
  by_cases hl:lt x y=true
  ·have hs:((l.set (j+1) y).set j x)[j]?=some x:=List.getElem?_set_self (by rw [List.length_set];omega)
   rw [xA h hy hl,dM0 hs]
   have e1:((l.set (j+1) y).set j x).take j=l.take j:=by
    rw [List.take_set_of_le G,List.take_set_of_le G]
   have e2:((l.set (j+1) y).set j x).drop (j+1)=y::l.drop (j+2):=by
    rw [List.drop_set_of_lt G,List.drop_eq_getElem_cons (by rw [List.length_set];omega),List.getElem_set_self,List.drop_set_of_lt G]
   rw [e1,e2]
   unfold bZ2
   rw [if_pos hl];simp
   cases (l.take j).reverse <;> rfl
  ·have hl2:lt x y=false:=by simpa using hl
   rw [bD0 h hy hl2]
   unfold bZ2
   rw [if_neg hl]
   obtain ⟨h2,hy2⟩:=List.getElem?_eq_some_iff.1 hy
   conv=>lhs;rw [<-List.take_append_drop j l,List.drop_eq_getElem_cons h2,List.drop_eq_getElem_cons h1,hx,hy2]
   simp
theorem bI8{lt:α->α->Bool}:∀(f i:Nat) (l:List α),i+f=l.length->mP lt f i l=((l.drop i).foldl (fun a x=>bZ2 lt x a) (l.take i).reverse).reverse
 |0,i,l,h=>by
  rw [List.drop_eq_nil_of_le G,List.take_of_length_le G]
  show l=l.reverse.reverse
  rw [List.reverse_reverse]
 |f+1,i,l,h=>by
  obtain ⟨x,hx⟩:∃x,l[i]?=some x:=⟨_,fY9 G⟩
  obtain ⟨h1,hx1⟩:=List.getElem?_eq_some_iff.1 hx
  have hlen:(bZ2 lt x (l.take i).reverse).reverse.length=i+1:=by
   rw [List.length_reverse,cQ9,List.length_reverse,List.length_take];omega
  show mP lt f (i+1) (qL lt i l)=_
  rw [bI8 f (i+1) (qL lt i l) (by rw [wZ];omega),dM0 hx]
  rw [show i+1=(bZ2 lt x (l.take i).reverse).reverse.length from hlen.symm,List.drop_left,List.take_left,List.reverse_reverse,hlen,List.drop_eq_getElem_cons h1,hx1]
  rfl
theorem dT2{lt:α->α->Bool}(l:List α):dY lt l=(l.foldl (fun a x=>bZ2 lt x a) []).reverse:=by
 cases l with
 |nil=>rfl
 |cons x r=>
  unfold dY
  rw [bI8 _ _ _ (by rw [List.length_cons];omega)]
  rfl
theorem cJ4{lt:α->α->Bool}{R:α->α->Prop}(tr:∀a b c,R a b->R b c->R a c){x:α}:∀{l:List α},l.Pairwise (fun a b=>R b a)->(∀y∈l,(lt x y=true->R x y)/\(lt x y=false->R y x))->(bZ2 lt x l).Pairwise (fun a b=>R b a)
 | [],_,_=>List.pairwise_singleton _ _
 |y::r,hp,hc=>by
  obtain ⟨hp1,hp2⟩:=List.pairwise_cons.1 hp
  have hy:=hc y (List.mem_cons_self ..)
  unfold bZ2
  split
  ·rename_i h
   refine List.pairwise_cons.2 ⟨fun z hz=>?_,cJ4 (R:=R) tr hp2 fun z hz=>hc z (List.mem_cons_of_mem _ hz)⟩
   rcases cZ0 hz with rfl|hz
   ·exact hy.1 h
   ·exact hp1 z hz
  ·rename_i h
   have h2:=hy.2 (by simpa using h)
   refine List.pairwise_cons.2 ⟨fun z hz=>?_,hp⟩
   rcases List.mem_cons.1 hz with rfl|hz
   ·exact h2
   ·exact tr _ _ _ (hp1 z hz) h2
theorem cC4{lt:α->α->Bool}{R:α->α->Prop}(tr:∀a b c,R a b->R b c->R a c):∀{l acc:List α},acc.Pairwise (fun a b=>R b a)->(∀y∈acc,∀x∈l,(lt x y=true->R x y)/\(lt x y=false->R y x))->l.Pairwise (fun y x=>(lt x y=true->R x y)/\(lt x y=false->R y x))->(l.foldl (fun a x=>bZ2 lt x a) acc).Pairwise (fun a b=>R b a)
 | [],_,h,_,_=>h
 |x::r,acc,h,hc,hp=>by
  obtain ⟨hp1,hp2⟩:=List.pairwise_cons.1 hp
  refine cC4 (R:=R) tr (l:=r) (acc:=bZ2 lt x acc) (cJ4 (R:=R) tr h fun y hy=>hc y hy x (List.mem_cons_self ..)) (fun y hy z hz=>?_) hp2
  rcases cZ0 hy with rfl|hy
  ·exact hp1 z hz
  ·exact hc y hy z (List.mem_cons_of_mem _ hz)
theorem dV2{lt:α->α->Bool}{R:α->α->Prop}(tr:∀a b c,R a b->R b c->R a c){l:List α}(hp:l.Pairwise (fun y x=>(lt x y=true->R x y)/\(lt x y=false->R y x))):(dY lt l).Pairwise R:=by
 rw [dT2,List.pairwise_reverse]
 exact cC4 (R:=R) tr List.Pairwise.nil (fun _ h=>by cases h) hp
end
theorem eY0{x y:Ev}:eJ x y=true↔mL x y < 0:=by unfold eJ;exact decide_eq_true_iff
theorem cY5{x y:Ev}:eJ x y=false↔¬mL x y < 0:=by unfold eJ;exact decide_eq_false_iff_not
theorem wR:cU2 eJ:=⟨fun {x y z} h1 h2=>by
 rw [cY5] at *
 intro h
 by_cases h3:mL x y < 0
 ·exact h2 (bD8 h h3)
 ·by_cases h0:mL y x=0
  ·rw [bU3] at h0
   refine h2 ?_
   rw [bC2] at h ⊢
   rw [h0.1,h0.2];exact h
  ·exact h3 (bC8 h1 h0),fun {x y} h=>by
 rw [eY0] at h
 rw [cY5]
 exact fun h2=>cZ5 (bD8 h h2)⟩
def cB8(l:List Ev):Prop:=∀x∈l,∀y∈l,mL x y=0->x=y
theorem dW3:∀{l m:List Ev},yD eJ l->yD eJ m->l.Perm m->cB8 l->l=m
 | [],m,_,_,h,_=>(List.nil_perm.1 h).symm
 |x::r,m,hl,hm,h,ht=>by
  cases m with
  |nil=>exact absurd h.length_eq (by simp)
  |cons y t=>
   have hxy:x=y:=by
    have hx:x∈y::t:=h.mem_iff.1 (List.mem_cons_self ..)
    have hy:y∈x::r:=h.mem_iff.2 (List.mem_cons_self ..)
    rcases List.mem_cons.1 hx with rfl|hx
    ·rfl
    ·rcases List.mem_cons.1 hy with rfl|hy
     ·rfl
     ·have h1:=(List.pairwise_cons.1 hl).1 y hy
      have h2:=(List.pairwise_cons.1 hm).1 x hx
      rw [cY5] at h1 h2
      refine ht x (List.mem_cons_self ..) y (List.mem_cons_of_mem _ hy) ?_
      by_cases h0:mL x y=0
      ·exact h0
      ·exact absurd (bC8 h2 h0) h1
   subst hxy
   rw [dW3 (List.pairwise_cons.1 hl).2 (List.pairwise_cons.1 hm).2 (List.Perm.cons_inv h) fun u hu v hv=>ht u (List.mem_cons_of_mem _ hu) v (List.mem_cons_of_mem _ hv)]
theorem wJ(l:List Ev):yD eJ (dY eJ l):=
 dV2 (R:=fun x y=>eJ y x=false) (fun _ _ _ h1 h2=>wR.tr h1 h2) (List.pairwise_iff_getElem.2 fun _ _ _ _ _=>⟨fun h=>wR.asy h,fun h=>h⟩)
theorem dW7(p0:Int)(p1 p2:M)(p3:Int)(p4:M)(e0:Int)(e1 e2:M)(e3:Int)(e4:M)(w:World):Calls prog 100 #[.agg #[J p0,U p1,U p2,J p3,U p4],.agg #[J e0,U e1,U e2,J e3,U e4]] w (nG w (mL ⟨p0,p1,p2,p3,p4⟩ ⟨e0,e1,e2,e3,e4⟩)):=by
 refine cY ⟨17,w,none, []⟩ func100 D ntmps100 D (fZ (X:= []) cZ dA) (bX (fS D D D fun g1=>fS D D D fun g2=>cG D (bU (bJ (gd (fun wz=>Blk wz g2 181 [J e0,U e1,U e2,J e3,U e4]/\Blk wz g1 181 [J p0,U p1,U p2,J p3,U p4]/\True) mixed (fun _ hm=>⟨hm.bl 0,hm.bl 1,bB⟩) fun z=>wq 0 D (bW nI D D) (wq 1 D (cH fM D (fun _ hm=>hm.2.1) D) (wq 2 D (bW nI D D) (wq 3 D (cH fM D (fun _ hm=>hm.1) D) (wq 5 D (bW wD D D) (wq 6 D (cH fR D (fun _ hm=>hm.2.1) D) (wq 7 D (bW wD D D) (wq 8 D (cH fR D (fun _ hm=>hm.1) D) (eD 4 D (cR D cM8 D D (fun wx hm=>(bV4 _ _ wx)) (bH (nw 13 511 (fun _ hm=>⟨hm.bl 0,hm.bl 1,bB⟩) fun z=>eD 9 D (cR D cN8 D D (fun wx hm=>(wQ _ _ wx)) (bH (nw 13 1023 (fun _ hm=>⟨hm.bl 0,hm.bl 1,bB⟩) fun z=>eD 10 D (jN 3 [J (pT p0 e0),J (qC p1 e1)] fun g3=>bH (nw 13 2047 (fun _ hm=>⟨hm.bl 1,hm.bl 2,bB⟩) fun z=>eD 11 D (cR D dR4 D D (fun wx hm=>(dL3 _ _ _ _ _ wx (hm.blkI 0 D))) ?_))))))))))))))))))))))
 refine bH (nw 13 4095 (fun _ hm=>⟨hm.bl 1,hm.bl 2,bB⟩) fun z=>wq 12 D (dB D) (gY (bG (bR ?_))))
 exact bQ D D fun wx hm=>⟨cL (by unfold mL;rfl),hm.g⟩
def cT2(fx:FuncId):Prop:=cF prog fx=true/\∀(p0:Int) (p1 p2:M) (p3:Int) (p4:M) (e0:Int) (e1 e2:M) (e3:Int) (e4:M) (w:World),Calls prog fx #[.agg #[J p0,U p1,U p2,J p3,U p4],.agg #[J e0,U e1,U e2,J e3,U e4]] w (nG w (mL ⟨p0,p1,p2,p3,p4⟩ ⟨e0,e1,e2,e3,e4⟩))
theorem fW0(fx:FuncId)(hF:cT2 fx)(l0:List Ev)(br n eX base:Nat)(w:World)(h:w.ownsRow base 181 5 (H (some ⟨br,0,none⟩) n eX) n (l0.flatMap eF))(rN:l0.length=n)(hn:n<=1000000) :
 Calls prog 184 #[H (some ⟨br,0,none⟩) n eX,J 0,I n,.func (.func fx) #[] #[]] w (fun e w'=>e=.returned (.tuple #[])/\w'.ownsRow base 181 5 (H (some ⟨br,0,none⟩) n eX) n ((dY (eJ) l0).flatMap eF)/\w.grownBy w' (some br)):=by
 obtain ⟨R,hR⟩:∃z,z=dY (eJ) l0:=⟨_,rfl⟩
 rw [<-hR]
 refine cY ⟨53,w,(some br), []⟩ func184 D ntmps184 D (bX0 (X:= []) h cZ dA) (bX (bS D (fY D D (bO 11 (v':=J 1) D D (cG D (bU (bP ?_)))))))
 refine dS (γ:=Nat×List Ev) (fun gg=>(1<=gg.1/\gg.1<=n+1)/\gg.2.length=n/\mP (eJ) (n - gg.1) gg.1 gg.2=R) (fun gg=> [(0,H (some ⟨br,0,none⟩) n eX),(1,J 0),(2,I n),(3,.func (.func fx) #[] #[]),(8,I (gg.1))]) (fun gg=>gA base 181 5 n eX br ((gg.2).flatMap eF)) (fun gg=> []) (fun gg=> []) (fun gg=> []) (fun gg=>n+1 - gg.1) (1,l0) ⟨⟨Nat.le_refl _,G⟩,rN,by rw [hR];unfold dY;rw [rN]⟩ ⟨D,D,D,D,(cP G),bB⟩ (fun _ hm=>hm.pick [] [] [] D D) ?_
 rintro ⟨i,l⟩ bZ
 replace bZ:(1<=i/\i<=n+1)/\l.length=n/\mP (eJ) (n - i) i l=R:=bZ
 dsimp only
 refine bJ (bX ?_)
 obtain ⟨⟨hi1,zI⟩,hl1,hR1⟩:=bZ
 refine bS D (bS D (W (dF D D) D (bU ?_)))
 refine cN D (fun hi=>?_) (fun hi=>?_)
 ·refine bN (bG (bJ (bP (bX ?_))))
  have hRi:mP (eJ) (n - (i+1)) (i+1) (qL (eJ) i l)=R:=by rw [<-hR1,show n - i=(n - (i+1))+1 by omega];rfl
  obtain ⟨S,hS⟩:∃z,z=qL (eJ) i l:=⟨_,rfl⟩
  rw [<-hS] at hRi
  have hSl:S.length=n:=by rw [hS,wZ];exact hl1
  refine bS D (cG D (bU (bP ?_)))
  refine dS (γ:=Nat×List Ev) (fun gg=>(gg.1<=i)/\gg.2.length=n/\qL (eJ) gg.1 gg.2=S) (fun gg=> [(0,H (some ⟨br,0,none⟩) n eX),(1,J 0),(2,I n),(3,.func (.func fx) #[] #[]),(8,I i),(9,I (gg.1))]) (fun gg=>gA base 181 5 n eX br ((gg.2).flatMap eF)) (fun gg=> []) (fun gg=> []) (fun gg=> []) (fun gg=>gg.1) (i,l) ⟨Nat.le_refl _,hl1,hS.symm⟩ ⟨D,D,D,D,D,D,bB⟩ (fun _ hm=>hm.pick [] [] [] D D) ?_
  rintro ⟨jj,m⟩ bZ
  replace bZ:(jj<=i)/\m.length=n/\qL (eJ) jj m=S:=bZ
  dsimp only
  refine bJ (bJ ?_)
  obtain ⟨hj1,nR,hS1⟩:=bZ
  rcases jj with _|j
  ·refine gd (fun wz=>True) mixed (fun _ _=>bB) fun z=>?_
   refine wq 0 D (bL D) (dI 18 (v':=J 0) D D (wq 1 D (bL D) (wq 2 D (eM D D) (dI 20 (v':= .bool false) D (fW9 bD) (wq 3 D (bL D) (eL 4 D (eL 5 D (eL 6 D (eL 7 D (eL 8 D (eL 9 D (eL 10 D (eL 11 D (eL 12 D (eL 13 D (eL 14 D (eL 15 D (wq 16 D (eZ D D) (gY (bG (jK D (dD (bI (bI (bY ?_)))))))))))))))))))))))))
   refine bK (bG (bM (bS D (fY D D (cG D (bH ?_))))))
   have hm2:m=S:=hS1
   exact cQ (i+1,m) ⟨⟨bE,bE⟩,by rw [hm2];exact hSl,by rw [hm2];exact hRi⟩ bE ⟨D,D,D,D,(cP G),bB⟩ (fun _ hm=>hm.pick [] [] [] D D)
  have hj2:j+1 < n:=G
  obtain ⟨xx,hx⟩:∃x,m[j+1]?=some x:=⟨_,fY9 G⟩
  obtain ⟨x0,x1,x2,x3,x4⟩:=xx
  obtain ⟨yy,hy⟩:∃x,m[j]?=some x:=⟨_,fY9 G⟩
  obtain ⟨y0,y1,y2,y3,y4⟩:=yy
  refine gd (fun wz=>(gA base 181 5 n eX br ((m).flatMap eF)) wz/\True) mixed (fun _ hm=>⟨hm.k,bB⟩) fun z=>wq 0 D (bL D) (wq 1 D (bL D) (wq 2 D (eM D D) (dI 20 (v':= .bool true) D (fW9 (decide_eq_true G)) (wq 3 D (bL D) (eU 4 D (bL D) (eU 5 D (bL D) (eU 6 D (bL D) (eU 7 D (bV (j:=(j+1)) mC D D G) (eU 8 D (dR (vs:= [J x0,U x1,U x2,J x3,U x4]) fE D (fun _ hm=>(gA.get (hm.1) fT nR)) hx D D) (eU 9 D (bL D) (eU 10 D (bL D) (eU 11 D (ov_sub D D G G) (dI 29 (v':=I j) D (fX9 G) (eU 12 D (bV (j:=j) mC D D G) (eU 13 D (dR (vs:= [J y0,U y1,U y2,J y3,U y4]) fE D (fun _ hm=>(gA.get (hm.1) fT nR)) hy D D) (eD 14 D (eN D (cR D hF.1 D D (fun wx hm=>(hF.2 x0 x1 x2 x3 x4 y0 y1 y2 y3 y4 wx)) (bH (nw 17 32767 (fun _ hm=>⟨hm.k,bB⟩) fun z=>eU 15 D (dF D D) (wq 16 D (fG D D) (gY (bG ?_)))))))))))))))))))))))
  refine cN D (fun hlt=>?_) (fun hlt=>?_)
  ·refine bN (bG (bJ (bP ?_)))
   have hlt2:(eJ) ⟨x0,x1,x2,x3,x4⟩ ⟨y0,y1,y2,y3,y4⟩=true:=decide_eq_true (show mL ⟨x0,x1,x2,x3,x4⟩ ⟨y0,y1,y2,y3,y4⟩ < 0 from hlt)
   have hS2:=(xA hx hy hlt2).symm.trans hS1
   refine gd (fun wz=>True) mixed (fun _ _=>bB) fun z=>wq 0 D (bL D) (wq 1 D (bL D) (wq 2 D (bL D) (wq 3 D (bL D) (wq 4 D (ov_sub D D G G) (dI 41 (v':=I j) D (fX9 G) (wq 5 D (bL D) (wq 6 D (bL D) (wq 7 D (ov_sub D D G G) (dI 44 (v':=I j) D (fX9 G) (wq 8 D (bV (j:=j) mC D D G) (wq 10 D (bL D) (wq 11 D (bL D) (wq 12 D (bV (j:=(j+1)) mC D D G) ?_)))))))))))))
   refine jC [9,13] bC D ⟨⟨_,D,?_⟩,⟨_,D,?_⟩,bB⟩
   ·refine W (dR (vs:= [J y0,U y1,U y2,J y3,U y4]) fE D (fun _ hm=>(gA.get hm.k fT nR)) hy D D) D ?_
    refine bH (nw 18 8191 (fun _ _=>bB) fun z=>eD 13 D (W (dR (vs:= [J x0,U x1,U x2,J x3,U x4]) fE D (fun _ hm=>(gA.get hm.k fT nR)) hx D D) D (bH (nw 18 16383 (fun _ _=>bB) fun z=>wq 14 D (bV (j:=(j+1)) mC D D G) (eD 15 D (fN (l:=m) (j:=j+1) (r:=0) (el:=⟨x0,x1,x2,x3,x4⟩) (el':=⟨y0,y1,y2,y3,y4⟩) D fE D D D D fT D hx nR bD D D (bH (nw 18 65535 (fun _ _=>bB) fun z=>wq 16 D (bV (j:=j) mC D D G) (eD 17 D ?_)))))))))
    refine fN (l:=m.set (j+1) ⟨y0,y1,y2,y3,y4⟩) (j:=j) (r:=0) (el:=⟨y0,y1,y2,y3,y4⟩) (el':=⟨x0,x1,x2,x3,x4⟩) D fE D D D D fT D (by rw [List.getElem?_set_ne G];exact hy) (by rw [List.length_set];exact nR) bD D D ?_
    refine bH (nw 18 262143 (fun _ _=>bB) fun z=>gY (bK (bG (bM (bS D (W (ov_sub D D G G) D (bO 36 (v':=I j) D (fX9 G) (cG D (bH ?_)))))))))
    exact cQ (j,(m.set (j+1) ⟨y0,y1,y2,y3,y4⟩).set j ⟨x0,x1,x2,x3,x4⟩) ⟨bE,by simp [nR],hS2⟩ bE ⟨D,D,D,D,D,(cP G),bB⟩ (fun _ hm=>hm.pick [] [] [] D D)
   refine W (dR (vs:= [J x0,U x1,U x2,J x3,U x4]) fE D (fun _ hm=>(gA.get hm.k fT nR)) hx D D) D (bH (nw 18 15871 (fun _ _=>bB) fun z=>eD 9 D (W (dR (vs:= [J y0,U y1,U y2,J y3,U y4]) fE D (fun _ hm=>(gA.get hm.k fT nR)) hy D D) D (bH (nw 18 16383 (fun _ _=>bB) fun z=>wq 14 D (bV (j:=(j+1)) mC D D G) (eD 15 D (fN (l:=m) (j:=j+1) (r:=0) (el:=⟨x0,x1,x2,x3,x4⟩) (el':=⟨y0,y1,y2,y3,y4⟩) D fE D D D D fT D hx nR bD D D (bH (nw 18 65535 (fun _ _=>bB) fun z=>wq 16 D (bV (j:=j) mC D D G) (eD 17 D ?_))))))))))
   refine fN (l:=m.set (j+1) ⟨y0,y1,y2,y3,y4⟩) (j:=j) (r:=0) (el:=⟨y0,y1,y2,y3,y4⟩) (el':=⟨x0,x1,x2,x3,x4⟩) D fE D D D D fT D (by rw [List.getElem?_set_ne G];exact hy) (by rw [List.length_set];exact nR) bD D D ?_
   refine bH (nw 18 262143 (fun _ _=>bB) fun z=>gY (bK (bG (bM (bS D (W (ov_sub D D G G) D (bO 36 (v':=I j) D (fX9 G) (cG D (bH ?_)))))))))
   exact cQ (j,(m.set (j+1) ⟨y0,y1,y2,y3,y4⟩).set j ⟨x0,x1,x2,x3,x4⟩) ⟨bE,by simp [nR],hS2⟩ bE ⟨D,D,D,D,D,(cP G),bB⟩ (fun _ hm=>hm.pick [] [] [] D D)
  refine dD (bI (bI (bY (bK (bG (bM ?_))))))
  have hlt2:(eJ) ⟨x0,x1,x2,x3,x4⟩ ⟨y0,y1,y2,y3,y4⟩=false:=decide_eq_false (show ¬mL ⟨x0,x1,x2,x3,x4⟩ ⟨y0,y1,y2,y3,y4⟩ < 0 from hlt)
  have hS2:=(bD0 hx hy hlt2).symm.trans hS1
  refine bS D (fY D D (cG D (bH ?_)))
  have hm2:m=S:=hS2
  exact cQ (i+1,m) ⟨⟨bE,bE⟩,by rw [hm2];exact hSl,by rw [hm2];exact hRi⟩ bE ⟨D,D,D,D,(cP G),bB⟩ (fun _ hm=>hm.pick [] [] [] D D)
 refine dD (bI (bI (bY ?_)))
 obtain rfl:l=R:=by rw [<-hR1,show n - i=0 by omega];rfl
 refine jF D fun wx hm=>?_
 exact ⟨D,kS hm.k hm.g⟩
theorem fX1(fx:FuncId)(hF:cT2 fx)(l0:List Ev)(br n eX base:Nat)(w:World)(h:w.ownsRow base 181 5 (H (some ⟨br,0,none⟩) n eX) n (l0.flatMap eF))(rN:l0.length=n)(hn:n<=19):
 Calls prog 142 #[H (some ⟨br,0,none⟩) n eX,I n,.func (.func fx) #[] #[]] w (fun e w'=>e=.returned (.tuple #[])/\w'.ownsRow base 181 5 (H (some ⟨br,0,none⟩) n eX) n ((dY eJ l0).flatMap eF)/\w.grownBy w' (some br)):=by
 refine cY ⟨63,w,(some br), []⟩ func142 D ntmps142 D (bX0 (X:= []) h cZ dA) (bX (cG D (bU (bX (bS D (cG D (cG D (bU (bJ (bP (fF 1 (eK (bJ (bX (bS D (bS D (W (mJ D D) D (bO 13 (v':= .bool false) D (fW9 (decide_eq_false G)) (bU (jK D (dD (bI (bI (bY ?_))))))))))))))))))))))))
 refine bG (bX (bS D (bS D (bS D (bS D ?_)))))
 refine kW D D D bS4 D D (fun wx hm=>(fW0 fx hF l0 br n eX base wx hm.k rN G)) ?_
 refine bU (bP (fF 1 (eK (bJ (bX (bS D (bS D (W (dF D D) D (bO 30 (v':= .bool false) D (fW9 (decide_eq_false G)) (bU (jK D (dD (bI (bI (bY ?_)))))))))))))))
 refine jF D fun wx hm=>?_
 exact ⟨D,kS hm.k hm.g⟩
theorem eG6(fx:FuncId)(A:Option Addr)(eX:Nat)(w:World):Calls prog 184 #[H A 0 eX,J 0,J 0,.func (.func fx) #[] #[]] w (fun e w'=>e=.returned (.tuple #[])/\w.grownBy w' none):=by
 refine cY ⟨53,w,none, []⟩ func184 D ntmps184 D (fZ (X:= []) cZ dA) (bX (bS D (fY D D (bO 11 (v':=J 1) D D (cG D (bU (bP (fF 1 (eK (bJ (bX (bS D (bS D (W (dF D D) D (bO 14 (v':= .bool false) D (fW9 bD) (bU (jK D (dD (bI (bI (bY ?_)))))))))))))))))))))
 refine jF D fun wx hm=>?_
 exact ⟨D,hm.g⟩
theorem eE7(fx:FuncId)(A:Option Addr)(eX:Nat)(w:World):Calls prog 142 #[H A 0 eX,J 0,.func (.func fx) #[] #[]] w (fun e w'=>e=.returned (.tuple #[])/\w.grownBy w' none):=by
 refine cY ⟨63,w,none, []⟩ func142 D ntmps142 D (fZ (X:= []) cZ dA) (bX (cG D (bU (bX (bS D (cG D (cG D (bU (bJ (bP (fF 1 (eK (bJ (bX (bS D (bS D (W (mJ D D) D (bO 13 (v':= .bool false) D (fW9 bD) (bU (jK D (dD (bI (bI (bY ?_))))))))))))))))))))))))
 refine bG (bX (bS D (bS D (bS D (bS D (cR D bS4 D D (fun wx hm=>(eG6 fx A eX wx)) (bU (bP (fF 1 (eK (bJ (bX (bS D (bS D (W (dF D D) D (bO 30 (v':= .bool false) D (fW9 bD) (bU (jK D (dD (bI (bI (bY ?_))))))))))))))))))))))
 refine jF D fun wx hm=>?_
 exact ⟨D,hm.g⟩
theorem dZ3(fx:FuncId)(A:Option Addr)(eX:Nat)(w:World):Calls prog 99 #[H A 0 eX,.func (.func fx) #[] #[]] w (fun e w'=>e=.returned (.tuple #[])/\w.grownBy w' none):=by
 refine cY ⟨9,w,none, []⟩ func99 D ntmps99 D (fZ (X:= []) cZ dA) (bM (W (bL D) D (W (bL D) D (W (dP mC D) D (bO 6 (v':=J 0) D D (W (bL D) D (cR D eR8 D D (fun wx hm=>(eE7 fx A eX wx)) (bH ?_))))))))
 refine jF D fun wx hm=>?_
 exact ⟨D,hm.g⟩
theorem cP7(fx:FuncId)(l0:List Ev)(br n eX base a b q:Nat)(w:World)(h:w.ownsRow base 181 5 (H (some ⟨br,0,none⟩) n eX) n (l0.flatMap eF))(rN:l0.length=n)(hn:n<=1000000)(hab:a < b)(hb:b+q<=n):
 Calls prog 235 #[H (some ⟨br,0,none⟩) n eX,I a,I b,I q,.func (.func fx) #[] #[]] w (fun e w'=>e=.returned (.tuple #[])/\w'.ownsRow base 181 5 (H (some ⟨br,0,none⟩) n eX) n ((vU l0 a b q).flatMap eF)/\w.grownBy w' (some br)):=by
 refine cY ⟨38,w,(some br), []⟩ func235 D ntmps235 D (bX0 (X:= []) h cZ dA) (bX (cG D (bU (bP ?_))))
 refine dS (γ:=Nat×List Ev) (fun g=>g.1<=q/\g.2.length=n/\g.2=vU l0 a b g.1) (fun g=> [(0,H (some ⟨br,0,none⟩) n eX),(1,I a),(2,I b),(3,I q),(10,I (g.1))]) (fun g=>gA base 181 5 n eX br ((g.2).flatMap eF)) (fun g=> []) (fun g=> []) (fun g=> []) (fun g=>q - g.1) (0,l0) ⟨Nat.zero_le _,rN,D⟩ ⟨D,D,D,D,D,bB⟩ (fun _ hm=>hm.pick [] [] [] D D) ?_
 rintro ⟨k,m⟩ bZ
 replace bZ:k<=q/\m.length=n/\m=vU l0 a b k:=bZ
 dsimp only
 refine bJ (bX ?_)
 obtain ⟨hk0,nR,hmk⟩:=bZ
 refine bS D (bS D (W (dF D D) D (bU ?_)))
 refine cN D (fun hk=>?_) (fun hk=>?_)
 ·refine bN (bG (bJ (bP ?_)))
  obtain ⟨xx,hx⟩:∃x,m[(a+k)]?=some x:=⟨_,fY9 G⟩
  obtain ⟨x0,x1,x2,x3,x4⟩:=xx
  obtain ⟨yy,hy⟩:∃x,m[(b+k)]?=some x:=⟨_,fY9 G⟩
  obtain ⟨y0,y1,y2,y3,y4⟩:=yy
  have hst:vU l0 a b (k+1)=(m.set (a+k) ⟨y0,y1,y2,y3,y4⟩).set (b+k) ⟨x0,x1,x2,x3,x4⟩:=by
   rw [hmk] at hx hy ⊢
   exact bT2 hx hy
  refine gd (fun wz=>True) mixed (fun _ _=>bB) fun z=>wq 0 D (bL D) (wq 1 D (bL D) (wq 2 D (bL D) (wq 3 D (ov_add D D G G) (dI 19 (v':=I ((a+k))) D (fX9 G) (wq 4 D (bL D) (wq 5 D (bL D) (wq 6 D (bL D) (wq 7 D (ov_add D D G G) (dI 23 (v':=I ((b+k))) D (fX9 G) (wq 8 D (bL D) (wq 9 D (bL D) (wq 10 D (bL D) (wq 11 D (ov_add D D G G) (dI 27 (v':=I ((b+k))) D (fX9 G) (wq 12 D (bV (j:=(b+k)) mC D D G) (wq 14 D (bL D) (wq 15 D (bL D) (wq 16 D (bL D) (wq 17 D (ov_add D D G G) (dI 33 (v':=I ((a+k))) D (fX9 G) (wq 18 D (bV (j:=(a+k)) mC D D G) ?_)))))))))))))))))))))
  refine jC [13,19] bC D ⟨⟨_,D,?_⟩,⟨_,D,?_⟩,bB⟩
  ·refine W (dR (vs:= [J y0,U y1,U y2,J y3,U y4]) fE D (fun _ hm=>(gA.get hm.k fT nR)) hy D D) D ?_
   refine bH (nw 24 524287 (fun _ _=>bB) fun z=>eD 19 D (W (dR (vs:= [J x0,U x1,U x2,J x3,U x4]) fE D (fun _ hm=>(gA.get hm.k fT nR)) hx D D) D (bH (nw 24 1048575 (fun _ _=>bB) fun z=>wq 20 D (bV (j:=(a+k)) mC D D G) (eD 21 D (fN (l:=m) (j:=(a+k)) (r:=0) (el:=⟨x0,x1,x2,x3,x4⟩) (el':=⟨y0,y1,y2,y3,y4⟩) D fE D D D D fT D hx nR bD D D (bH (nw 24 4194303 (fun _ _=>bB) fun z=>wq 22 D (bV (j:=(b+k)) mC D D G) (eD 23 D ?_)))))))))
   refine fN (l:=m.set (a+k) ⟨y0,y1,y2,y3,y4⟩) (j:=(b+k)) (r:=0) (el:=⟨y0,y1,y2,y3,y4⟩) (el':=⟨x0,x1,x2,x3,x4⟩) D fE D D D D fT D (by rw [List.getElem?_set_ne G];exact hy) (by rw [List.length_set];exact nR) bD D D ?_
   refine bH (nw 24 16777215 (fun _ _=>bB) fun z=>gY (bK (bG (bM (bS D (fY D D (cG D (bH ?_))))))))
   exact cQ (k+1,(m.set (a+k) ⟨y0,y1,y2,y3,y4⟩).set (b+k) ⟨x0,x1,x2,x3,x4⟩) ⟨bE,by simp [nR],hst.symm⟩ bE ⟨D,D,D,D,(cP G),bB⟩ (fun _ hm=>hm.pick [] [] [] D D)
  refine W (dR (vs:= [J x0,U x1,U x2,J x3,U x4]) fE D (fun _ hm=>(gA.get hm.k fT nR)) hx D D) D (bH (nw 24 1040383 (fun _ _=>bB) fun z=>eD 13 D (W (dR (vs:= [J y0,U y1,U y2,J y3,U y4]) fE D (fun _ hm=>(gA.get hm.k fT nR)) hy D D) D (bH (nw 24 1048575 (fun _ _=>bB) fun z=>wq 20 D (bV (j:=(a+k)) mC D D G) (eD 21 D (fN (l:=m) (j:=(a+k)) (r:=0) (el:=⟨x0,x1,x2,x3,x4⟩) (el':=⟨y0,y1,y2,y3,y4⟩) D fE D D D D fT D hx nR bD D D (bH (nw 24 4194303 (fun _ _=>bB) fun z=>wq 22 D (bV (j:=(b+k)) mC D D G) (eD 23 D ?_))))))))))
  refine fN (l:=m.set (a+k) ⟨y0,y1,y2,y3,y4⟩) (j:=(b+k)) (r:=0) (el:=⟨y0,y1,y2,y3,y4⟩) (el':=⟨x0,x1,x2,x3,x4⟩) D fE D D D D fT D (by rw [List.getElem?_set_ne G];exact hy) (by rw [List.length_set];exact nR) bD D D ?_
  refine bH (nw 24 16777215 (fun _ _=>bB) fun z=>gY (bK (bG (bM (bS D (fY D D (cG D (bH ?_))))))))
  exact cQ (k+1,(m.set (a+k) ⟨y0,y1,y2,y3,y4⟩).set (b+k) ⟨x0,x1,x2,x3,x4⟩) ⟨bE,by simp [nR],hst.symm⟩ bE ⟨D,D,D,D,(cP G),bB⟩ (fun _ hm=>hm.pick [] [] [] D D)
 refine dD (bI (bI (bY ?_)))
 obtain rfl:k=q:=G
 subst hmk
 refine jF D fun wx hm=>?_
 exact ⟨D,kS hm.k hm.g⟩
theorem dK8(fx:FuncId)(l0:List Ev)(br n eX base a mm b:Nat)(w:World)(h:w.ownsRow base 181 5 (H (some ⟨br,0,none⟩) n eX) n (l0.flatMap eF))(rN:l0.length=n)(hn:n<=1000000)(ham:a < mm)(hmb:mm < b)(hbn:b<=n):
 Calls prog 216 #[H (some ⟨br,0,none⟩) n eX,I a,I mm,I b,.func (.func fx) #[] #[]] w (fun e w'=>∃R:List Ev,(R.length=n/\∀x,R[x]?=kO l0 a mm b x)/\e=.returned (.tuple #[])/\w'.ownsRow base 181 5 (H (some ⟨br,0,none⟩) n eX) n ((R).flatMap eF)/\w.grownBy w' (some br)):=by
 refine cY ⟨58,w,(some br), []⟩ func216 D ntmps216 D (bX0 (X:= []) h cZ dA) (bX (bS D (bS D (W (ov_sub D D G G) D (bO 14 (v':=I ((mm - a))) D (fX9 G) (cG D (bU (bX (bS D (bS D (W (ov_sub D D G G) D (bO 17 (v':=I ((b - mm))) D (fX9 G) (cG D (bU (bJ (bP ?_))))))))))))))))
 refine dS (γ:=Nat×Nat×List Ev) (fun g=>(1<=g.1/\1<=g.2.1/\g.1<=mm/\mm+g.2.1<=n)/\g.2.2.length=n/\∀x,kO g.2.2 (mm - g.1) mm (mm+g.2.1) x=kO l0 a mm b x) (fun g=> [(0,H (some ⟨br,0,none⟩) n eX),(2,I mm),(4,.func (.func fx) #[] #[]),(10,I (g.1)),(11,I (g.2.1))]) (fun g=>gA base 181 5 n eX br ((g.2.2).flatMap eF)) (fun g=> []) (fun g=> []) (fun g=> []) (fun g=>g.1+g.2.1) ((mm - a),(b - mm),l0) ⟨⟨bE,bE,bE,bE⟩,rN,fun x=>by dsimp only;rw [show mm - (mm - a)=a by omega,show mm+(b - mm)=b by omega]⟩ ⟨D,D,D,D,D,bB⟩ (fun _ hm=>hm.pick [] [] [] D D) ?_
 rintro ⟨i,j,m⟩ bZ
 replace bZ:(1<=i/\1<=j/\i<=mm/\mm+j<=n)/\m.length=n/\∀x,kO m (mm - i) mm (mm+j) x=kO l0 a mm b x:=bZ
 dsimp only
 refine bJ (bX ?_)
 obtain ⟨⟨hi1,hj1,him,hjn⟩,nR,hrot⟩:=bZ
 refine bS D (bS D (W (gN D D) D (bU ?_)))
 refine gL D (fun hij=>?_) (fun hij=>?_)
 ·refine bN (bG (bP (bX (bS D (bS D ?_)))))
  refine W (eM D D) D (bU ?_)
  refine cN D (fun hgt=>?_) (fun hgt=>?_)
  ·refine bX (bS D (bS D (bS D ?_)))
   refine W (ov_sub D D G G) D (bO 27 (v':=I ((mm - i))) D (fX9 G) (bS D (bS D (bS D ?_))))
   refine kW D D D eH0 D D (fun wx hm=>(cP7 fx m br n eX base (mm - i) mm j wx hm.k nR hn G G)) ?_
   refine bU (bM (bS D (bS D (W (ov_sub D D G G) D (bO 34 (v':=I ((i - j))) D (fX9 G) (cG D (bH (bK ?_))))))))
   exact cQ ((i - j),j,(vU m (mm - i) mm j)) ⟨⟨bE,bE,bE,bE⟩,by dsimp only;rw [vV];exact nR,fun x=>by dsimp only;rw [<-hrot x];exact (dJ8 G G G x).symm⟩ bE ⟨D,D,D,D,D,bB⟩ (fun _ hm=>hm.pick [] [] [] D D)
  refine bX (bS D (bS D (bS D (W (ov_sub D D G G) D (bO 38 (v':=I ((mm - i))) D (fX9 G) (bS D (bS D (fY D D (bS D (W (ov_sub D D G G) D (bO 43 (v':=I ((mm+j - i))) D (fX9 G) (bS D (bS D ?_)))))))))))))
  refine kW D D D eH0 D D (fun wx hm=>(cP7 fx m br n eX base (mm - i) (mm+j - i) i wx hm.k nR hn G G)) ?_
  refine bU (bM (bS D (bS D (W (ov_sub D D G G) D (bO 49 (v':=I ((j - i))) D (fX9 G) (cG D (bH (bK ?_))))))))
  exact cQ (i,(j - i),(vU m (mm - i) (mm+j - i) i)) ⟨⟨bE,bE,bE,bE⟩,by dsimp only;rw [vV];exact nR,fun x=>by dsimp only;rw [<-hrot x];exact (eA3 G G G x).symm⟩ bE ⟨D,D,D,D,D,bB⟩ (fun _ hm=>hm.pick [] [] [] D D)
 refine dD (bI (bI (bY (bG (bM ?_)))))
 obtain rfl:i=j:=G
 refine bS D (bS D (bS D (W (ov_sub D D G G) D (bO 53 (v':=I ((mm - i))) D (fX9 G) (bS D (bS D (bS D ?_)))))))
 refine kW D D D eH0 D D (fun wx hm=>(cP7 fx m br n eX base (mm - i) mm i wx hm.k nR hn G G)) ?_
 refine bH ?_
 refine jF D fun wx hm=>?_
 have hf:=kS hm.k hm.g
 exact ⟨vU m (mm - i) mm i,⟨by rw [vV];exact nR,fun x=>by rw [<-hrot x,eW6 G G]⟩,D,hf.1,hf.2⟩
def cB0(fx:FuncId)(br n eX base a mm b:Nat):Prop:=∀(l0:List Ev) (w:World),w.ownsRow base 181 5 (H (some ⟨br,0,none⟩) n eX) n (l0.flatMap eF)->l0.length=n->n<=1000000->a < mm->mm < b->b<=n->yD eJ (eY l0 a mm)->yD eJ (eY l0 mm b)->
 Calls prog 185 #[H (some ⟨br,0,none⟩) n eX,I a,I mm,I b,.func (.func fx) #[] #[]] w (fun e w'=>∃R:List Ev,yE eJ l0 R a b/\e=.returned (.tuple #[])/\w'.ownsRow base 181 5 (H (some ⟨br,0,none⟩) n eX) n ((R).flatMap eF)/\w.grownBy w' (some br))
theorem dF4(fx:FuncId)(hF:cT2 fx)(br n eX base a mm b:Nat)(ih:∀a' m' b',b' - a' < b - a->cB0 fx br n eX base a' m' b'):cB0 fx br n eX base a mm b:=by
 intro l0 w h rN hn ham hmb hbn hsA hsB
 refine cY ⟨220,w,(some br), []⟩ func185 D ntmps185 D (bX0 (X:= []) h cZ dA) (bJ (bX (bS D (bS D (W (ov_sub D D G G) D (bO 27 (v':=I ((mm - a))) D (fX9 G) (W (eT D D) D (bU ?_))))))))
 refine cN D (fun h1=>?_) (fun h1=>?_)
 ·refine bX ?_
  obtain ⟨xa,hxa⟩:∃z,l0[a]?=some z:=⟨_,fY9 G⟩
  obtain ⟨y0,y1,y2,y3,y4⟩:=xa
  refine bS D (cG D (bU (bX (bS D (cG D (bU (bJ (bP ?_))))))))
  refine dS (γ:=Nat×Nat) (fun g=>mm<=g.1/\g.1<=g.2/\g.2<=b/\(g.1=mm∨∃q,l0[g.1 - 1]?=some q/\eJ q ⟨y0,y1,y2,y3,y4⟩=true)/\(g.2=b∨∃q,l0[g.2]?=some q/\eJ q ⟨y0,y1,y2,y3,y4⟩=false)) (fun g=> [(0,H (some ⟨br,0,none⟩) n eX),(1,I a),(2,I mm),(3,I b),(4,.func (.func fx) #[] #[]),(10,I (g.1)),(11,I (g.2))]) (fun g=>gA base 181 5 n eX br ((l0).flatMap eF)) (fun g=> []) (fun g=> []) (fun g=> []) (fun g=>g.2 - g.1) (mm,b) ⟨Nat.le_refl _,bE,Nat.le_refl _,.inl rfl,.inl rfl⟩ ⟨D,D,D,D,D,D,D,bB⟩ (fun _ hm=>hm.pick [] [] [] D D) ?_
  rintro ⟨i,j⟩ bZ
  replace bZ:mm<=i/\i<=j/\j<=b/\(i=mm∨∃q,l0[i - 1]?=some q/\eJ q ⟨y0,y1,y2,y3,y4⟩=true)/\(j=b∨∃q,l0[j]?=some q/\eJ q ⟨y0,y1,y2,y3,y4⟩=false):=bZ
  dsimp only
  refine bJ (bX ?_)
  obtain ⟨hi1,hij,hjb,hL,hR⟩:=bZ
  refine bS D (bS D (W (dF D D) D (bU ?_)))
  refine cN D (fun hlt=>?_) (fun hlt=>?_)
  ·refine bN (bG (bP (bX ?_)))
   obtain ⟨hh,hhd⟩:∃z,z=(i+j) / 2:=⟨_,rfl⟩
   have hh1:i<=hh:=G
   have hh2:hh < j:=G
   obtain ⟨xx,hx⟩:∃x,l0[hh]?=some x:=⟨_,fY9 G⟩
   obtain ⟨x0,x1,x2,x3,x4⟩:=xx
   refine bS D (bS D (fY D D (bO 36 (v':=I ((i+j))) D (fX9 G) (W (cJ7 (a:=(i+j)) bC bC D G) D (W (bX5 (a:=(i+j)) D D) D (W (cN1 (a:=(i+j) / 2) bC bC D G) D (bO 39 (v':=I hh) D (fX9 G) (cG D (bU (bJ (gd (fun wz=>True) mixed (fun _ _=>bB) fun z=>wq 0 D (bL D) (wq 1 D (bL D) (wq 2 D (bL D) (wq 3 D (bV (j:=hh) mC D D G) (wq 5 D (bL D) (wq 6 D (bL D) (wq 7 D (bV (j:=a) mC D D G) ?_)))))))))))))))))
   refine jC [4,8] bC D ⟨⟨_,D,?_⟩,⟨_,D,?_⟩,bB⟩
   ·refine W (dR (vs:= [J x0,U x1,U x2,J x3,U x4]) fE D (fun _ hm=>(gA.get hm.k fT rN)) hx D D) D ?_
    refine bH (nw 11 255 (fun _ _=>bB) fun z=>eD 8 D (W (dR (vs:= [J y0,U y1,U y2,J y3,U y4]) fE D (fun _ hm=>(gA.get hm.k fT rN)) hxa D D) D (bH (nw 11 511 (fun _ _=>bB) fun z=>eD 9 D (cR D hF.1 D D (fun wx hm=>(hF.2 x0 x1 x2 x3 x4 y0 y1 y2 y3 y4 wx)) (bH (nw 11 1023 (fun _ _=>bB) fun z=>wq 10 D (dF D D) (gY (bG ?_)))))))))
    refine cN D (fun hq=>?_) (fun hq=>?_)
    ·refine bM ?_
     have wV:eJ ⟨x0,x1,x2,x3,x4⟩ ⟨y0,y1,y2,y3,y4⟩=true:=decide_eq_true hq
     refine bS D (fY D D (cG D (bH (bK ?_))))
     exact cQ ((hh+1),j) ⟨bE,bE,hjb,.inr ⟨_,by dsimp only;rw [show hh+1 - 1=hh by omega];exact hx,wV⟩,hR⟩ bE ⟨D,D,D,D,D,(cP bE),D,bB⟩ (fun _ hm=>hm.pick [] [] [] D D)
    refine bM ?_
    have wV:eJ ⟨x0,x1,x2,x3,x4⟩ ⟨y0,y1,y2,y3,y4⟩=false:=decide_eq_false hq
    refine bS D (cG D (bH (bK ?_)))
    exact cQ (i,hh) ⟨hi1,bE,bE,hL,.inr ⟨_,hx,wV⟩⟩ bE ⟨D,D,D,D,D,D,D,bB⟩ (fun _ hm=>hm.pick [] [] [] D D)
   refine W (dR (vs:= [J y0,U y1,U y2,J y3,U y4]) fE D (fun _ hm=>(gA.get hm.k fT rN)) hxa D D) D (bH (nw 11 495 (fun _ _=>bB) fun z=>eD 4 D (W (dR (vs:= [J x0,U x1,U x2,J x3,U x4]) fE D (fun _ hm=>(gA.get hm.k fT rN)) hx D D) D (bH (nw 11 511 (fun _ _=>bB) fun z=>eD 9 D (cR D hF.1 D D (fun wx hm=>(hF.2 x0 x1 x2 x3 x4 y0 y1 y2 y3 y4 wx)) (bH (nw 11 1023 (fun _ _=>bB) fun z=>wq 10 D (dF D D) (gY (bG ?_))))))))))
   refine cN D (fun hq=>?_) (fun hq=>?_)
   ·refine bM ?_
    have wV:eJ ⟨x0,x1,x2,x3,x4⟩ ⟨y0,y1,y2,y3,y4⟩=true:=decide_eq_true hq
    refine bS D (fY D D (cG D (bH (bK ?_))))
    exact cQ ((hh+1),j) ⟨bE,bE,hjb,.inr ⟨_,by dsimp only;rw [show hh+1 - 1=hh by omega];exact hx,wV⟩,hR⟩ bE ⟨D,D,D,D,D,(cP bE),D,bB⟩ (fun _ hm=>hm.pick [] [] [] D D)
   refine bM ?_
   have wV:eJ ⟨x0,x1,x2,x3,x4⟩ ⟨y0,y1,y2,y3,y4⟩=false:=decide_eq_false hq
   refine bS D (cG D (bH (bK ?_)))
   exact cQ (i,hh) ⟨hi1,bE,bE,hL,.inr ⟨_,hx,wV⟩⟩ bE ⟨D,D,D,D,D,D,D,bB⟩ (fun _ hm=>hm.pick [] [] [] D D)
  refine dD (bI (bI (bY (bG (bJ (bX ?_))))))
  obtain rfl:i=j:=G
  refine bS D (cG D (bU (bP ?_)))
  refine dS (γ:=Nat×List Ev) (fun g=>(a<=g.1/\g.1<=i - 1)/\g.2.length=n/\g.2=bA9 l0 a (g.1 - a)) (fun g=> [(0,H (some ⟨br,0,none⟩) n eX),(1,I a),(2,I mm),(3,I b),(4,.func (.func fx) #[] #[]),(10,I i),(13,I (g.1))]) (fun g=>gA base 181 5 n eX br ((g.2).flatMap eF)) (fun g=> []) (fun g=> []) (fun g=> []) (fun g=>i - 1 - g.1) (a,l0) ⟨⟨Nat.le_refl _,bE⟩,rN,by dsimp only;rw [Nat.sub_self];rfl⟩ ⟨D,D,D,D,D,D,D,bB⟩ (fun _ hm=>hm.pick [] [] [] D D) ?_
  rintro ⟨k,m⟩ bZ
  replace bZ:(a<=k/\k<=i - 1)/\m.length=n/\m=bA9 l0 a (k - a):=bZ
  dsimp only
  refine bJ (bX ?_)
  obtain ⟨⟨hka,hki⟩,nR,hmk⟩:=bZ
  refine bS D (bS D (W (ov_sub D D G G) D (W (dF D D) D (bU ?_))))
  refine cN D (fun hk=>?_) (fun hk=>?_)
  ·refine bN (bG (bJ (bP ?_)))
   have hk2:k+1 < n:=G
   obtain ⟨xx,hx⟩:∃x,m[k]?=some x:=⟨_,fY9 G⟩
   obtain ⟨x0,x1,x2,x3,x4⟩:=xx
   obtain ⟨yy,hy⟩:∃x,m[(k+1)]?=some x:=⟨_,fY9 G⟩
   obtain ⟨u0,u1,u2,u3,u4⟩:=yy
   refine gd (fun wz=>True) mixed (fun _ _=>bB) fun z=>wq 0 D (bL D) (wq 1 D (bL D) (wq 2 D (bL D) (wq 3 D (bL D) (wq 4 D (ov_add D D G G) (dI 65 (v':=I ((k+1))) D (fX9 G) (wq 5 D (bL D) (wq 6 D (bL D) (wq 7 D (ov_add D D G G) (dI 68 (v':=I ((k+1))) D (fX9 G) (wq 8 D (bV (j:=(k+1)) mC D D G) (wq 10 D (bL D) (wq 11 D (bL D) (wq 12 D (bV (j:=k) mC D D G) ?_)))))))))))))
   refine jC [9,13] bC D ⟨⟨_,D,?_⟩,⟨_,D,?_⟩,bB⟩
   ·refine W (dR (vs:= [J u0,U u1,U u2,J u3,U u4]) fE D (fun _ hm=>(gA.get hm.k fT nR)) hy D D) D ?_
    refine bH (nw 18 8191 (fun _ _=>bB) fun z=>eD 13 D (W (dR (vs:= [J x0,U x1,U x2,J x3,U x4]) fE D (fun _ hm=>(gA.get hm.k fT nR)) hx D D) D (bH (nw 18 16383 (fun _ _=>bB) fun z=>wq 14 D (bV (j:=k) mC D D G) (eD 15 D (fN (l:=m) (j:=k) (r:=0) (el:=⟨x0,x1,x2,x3,x4⟩) (el':=⟨u0,u1,u2,u3,u4⟩) D fE D D D D fT D hx nR bD D D (bH (nw 18 65535 (fun _ _=>bB) fun z=>wq 16 D (bV (j:=(k+1)) mC D D G) (eD 17 D ?_)))))))))
    refine fN (l:=m.set k ⟨u0,u1,u2,u3,u4⟩) (j:=(k+1)) (r:=0) (el:=⟨u0,u1,u2,u3,u4⟩) (el':=⟨x0,x1,x2,x3,x4⟩) D fE D D D D fT D (by rw [List.getElem?_set_ne G];exact hy) (by rw [List.length_set];exact nR) bD D D ?_
    refine bH (nw 18 262143 (fun _ _=>bB) fun z=>gY (bK (bG (bM (bS D (fY D D (cG D (bH ?_))))))))
    have hst:bA9 l0 a (k+1 - a)=(m.set k ⟨u0,u1,u2,u3,u4⟩).set (k+1) ⟨x0,x1,x2,x3,x4⟩:=by
     rw [show k+1 - a=(k - a)+1 by omega]
     unfold bA9
     rw [<-hmk,show a+(k - a)=k by omega]
     exact bT2 (l:=m) (a:=k) (b:=k+1) (k:=0) hx hy
    exact cQ ((k+1),(m.set k ⟨u0,u1,u2,u3,u4⟩).set (k+1) ⟨x0,x1,x2,x3,x4⟩) ⟨⟨bE,bE⟩,by simp [nR],hst.symm⟩ bE ⟨D,D,D,D,D,D,(cP bE),bB⟩ (fun _ hm=>hm.pick [] [] [] D D)
   refine W (dR (vs:= [J x0,U x1,U x2,J x3,U x4]) fE D (fun _ hm=>(gA.get hm.k fT nR)) hx D D) D (bH (nw 18 15871 (fun _ _=>bB) fun z=>eD 9 D (W (dR (vs:= [J u0,U u1,U u2,J u3,U u4]) fE D (fun _ hm=>(gA.get hm.k fT nR)) hy D D) D (bH (nw 18 16383 (fun _ _=>bB) fun z=>wq 14 D (bV (j:=k) mC D D G) (eD 15 D (fN (l:=m) (j:=k) (r:=0) (el:=⟨x0,x1,x2,x3,x4⟩) (el':=⟨u0,u1,u2,u3,u4⟩) D fE D D D D fT D hx nR bD D D (bH (nw 18 65535 (fun _ _=>bB) fun z=>wq 16 D (bV (j:=(k+1)) mC D D G) (eD 17 D ?_))))))))))
   refine fN (l:=m.set k ⟨u0,u1,u2,u3,u4⟩) (j:=(k+1)) (r:=0) (el:=⟨u0,u1,u2,u3,u4⟩) (el':=⟨x0,x1,x2,x3,x4⟩) D fE D D D D fT D (by rw [List.getElem?_set_ne G];exact hy) (by rw [List.length_set];exact nR) bD D D ?_
   refine bH (nw 18 262143 (fun _ _=>bB) fun z=>gY (bK (bG (bM (bS D (fY D D (cG D (bH ?_))))))))
   have hst:bA9 l0 a (k+1 - a)=(m.set k ⟨u0,u1,u2,u3,u4⟩).set (k+1) ⟨x0,x1,x2,x3,x4⟩:=by
    rw [show k+1 - a=(k - a)+1 by omega]
    unfold bA9
    rw [<-hmk,show a+(k - a)=k by omega]
    exact bT2 (l:=m) (a:=k) (b:=k+1) (k:=0) hx hy
   exact cQ ((k+1),(m.set k ⟨u0,u1,u2,u3,u4⟩).set (k+1) ⟨x0,x1,x2,x3,x4⟩) ⟨⟨bE,bE⟩,by simp [nR],hst.symm⟩ bE ⟨D,D,D,D,D,D,(cP bE),bB⟩ (fun _ hm=>hm.pick [] [] [] D D)
  refine dD (bI (bI (bY (bG (bR (F ?_))))))
  obtain rfl:k=i - 1:=G
  obtain rfl:mm=a+1:=G
  refine bW5 D fun wx hm=>?_
  have hf:=kS hm.k hm.g
  exact ⟨m,eR3 wR G hxa hsB hi1 G hL hR (by rw [nR,rN]) (fun x=>by rw [hmk,cJ8 G,show a+(i - 1 - a)+1=i by omega]),D,hf.1,hf.2⟩
 refine bN (bG (bJ (bX (bS D (bS D (W (ov_sub D D G G) D (bO 79 (v':=I ((b - mm))) D (fX9 G) (W (eT D D) D (bU ?_)))))))))
 refine cN D (fun h2=>?_) (fun h2=>?_)
 ·refine bX ?_
  obtain ⟨xa,hxa⟩:∃z,l0[mm]?=some z:=⟨_,fY9 G⟩
  obtain ⟨y0,y1,y2,y3,y4⟩:=xa
  refine bS D (cG D (bU (bX (bS D (cG D (bU (bJ (bP ?_))))))))
  refine dS (γ:=Nat×Nat) (fun g=>a<=g.1/\g.1<=g.2/\g.2<=mm/\(g.1=a∨∃q,l0[g.1 - 1]?=some q/\eJ ⟨y0,y1,y2,y3,y4⟩ q=false)/\(g.2=mm∨∃q,l0[g.2]?=some q/\eJ ⟨y0,y1,y2,y3,y4⟩ q=true)) (fun g=> [(0,H (some ⟨br,0,none⟩) n eX),(1,I a),(2,I mm),(3,I b),(4,.func (.func fx) #[] #[]),(14,I (g.1)),(15,I (g.2))]) (fun g=>gA base 181 5 n eX br ((l0).flatMap eF)) (fun g=> []) (fun g=> []) (fun g=> []) (fun g=>g.2 - g.1) (a,mm) ⟨Nat.le_refl _,bE,Nat.le_refl _,.inl rfl,.inl rfl⟩ ⟨D,D,D,D,D,D,D,bB⟩ (fun _ hm=>hm.pick [] [] [] D D) ?_
  rintro ⟨i,j⟩ bZ
  replace bZ:a<=i/\i<=j/\j<=mm/\(i=a∨∃q,l0[i - 1]?=some q/\eJ ⟨y0,y1,y2,y3,y4⟩ q=false)/\(j=mm∨∃q,l0[j]?=some q/\eJ ⟨y0,y1,y2,y3,y4⟩ q=true):=bZ
  dsimp only
  refine bJ (bX ?_)
  obtain ⟨hi1,hij,hjb,hL,hR⟩:=bZ
  refine bS D (bS D (W (dF D D) D (bU ?_)))
  refine cN D (fun hlt=>?_) (fun hlt=>?_)
  ·refine bN (bG (bP (bX ?_)))
   obtain ⟨hh,hhd⟩:∃z,z=(i+j) / 2:=⟨_,rfl⟩
   have hh1:i<=hh:=G
   have hh2:hh < j:=G
   obtain ⟨xx,hx⟩:∃x,l0[hh]?=some x:=⟨_,fY9 G⟩
   obtain ⟨x0,x1,x2,x3,x4⟩:=xx
   refine bS D (bS D (fY D D (bO 88 (v':=I ((i+j))) D (fX9 G) (W (cJ7 (a:=(i+j)) bC bC D G) D (W (bX5 (a:=(i+j)) D D) D (W (cN1 (a:=(i+j) / 2) bC bC D G) D (bO 91 (v':=I hh) D (fX9 G) (cG D (bU (bJ (gd (fun wz=>True) mixed (fun _ _=>bB) fun z=>wq 0 D (bL D) (wq 1 D (bL D) (wq 2 D (bL D) (wq 3 D (bV (j:=mm) mC D D G) (wq 5 D (bL D) (wq 6 D (bL D) (wq 7 D (bV (j:=hh) mC D D G) ?_)))))))))))))))))
   refine jC [4,8] bC D ⟨⟨_,D,?_⟩,⟨_,D,?_⟩,bB⟩
   ·refine W (dR (vs:= [J y0,U y1,U y2,J y3,U y4]) fE D (fun _ hm=>(gA.get hm.k fT rN)) hxa D D) D ?_
    refine bH (nw 12 255 (fun _ _=>bB) fun z=>eD 8 D (W (dR (vs:= [J x0,U x1,U x2,J x3,U x4]) fE D (fun _ hm=>(gA.get hm.k fT rN)) hx D D) D (bH (nw 12 511 (fun _ _=>bB) fun z=>eD 9 D (cR D hF.1 D D (fun wx hm=>(hF.2 y0 y1 y2 y3 y4 x0 x1 x2 x3 x4 wx)) (bH (nw 12 1023 (fun _ _=>bB) fun z=>wq 10 D (dF D D) (wq 11 D (cS D) (gY (bG ?_))))))))))
    refine dE D (fun hh=>?_) (fun hh=>?_)
    ·have hq:(decide (mL ⟨y0,y1,y2,y3,y4⟩ ⟨x0,x1,x2,x3,x4⟩ < 0))=false:=by simpa using hh
     clear hh
     refine bM ?_
     have wV:eJ ⟨y0,y1,y2,y3,y4⟩ ⟨x0,x1,x2,x3,x4⟩=false:=decide_eq_false (by first|exact hq|simpa using hq)
     refine bS D (fY D D (cG D (bH (bK ?_))))
     exact cQ ((hh+1),j) ⟨bE,bE,hjb,.inr ⟨_,by dsimp only;rw [show hh+1 - 1=hh by omega];exact hx,wV⟩,hR⟩ bE ⟨D,D,D,D,D,(cP bE),D,bB⟩ (fun _ hm=>hm.pick [] [] [] D D)
    have hq:(decide (mL ⟨y0,y1,y2,y3,y4⟩ ⟨x0,x1,x2,x3,x4⟩ < 0))=true:=by simpa using hh
    clear hh
    refine bM ?_
    have wV:eJ ⟨y0,y1,y2,y3,y4⟩ ⟨x0,x1,x2,x3,x4⟩=true:=decide_eq_true (by first|exact hq|simpa using hq)
    refine bS D (cG D (bH (bK ?_)))
    exact cQ (i,hh) ⟨hi1,bE,bE,hL,.inr ⟨_,hx,wV⟩⟩ bE ⟨D,D,D,D,D,D,D,bB⟩ (fun _ hm=>hm.pick [] [] [] D D)
   refine W (dR (vs:= [J x0,U x1,U x2,J x3,U x4]) fE D (fun _ hm=>(gA.get hm.k fT rN)) hx D D) D (bH (nw 12 495 (fun _ _=>bB) fun z=>eD 4 D (W (dR (vs:= [J y0,U y1,U y2,J y3,U y4]) fE D (fun _ hm=>(gA.get hm.k fT rN)) hxa D D) D (bH (nw 12 511 (fun _ _=>bB) fun z=>eD 9 D (cR D hF.1 D D (fun wx hm=>(hF.2 y0 y1 y2 y3 y4 x0 x1 x2 x3 x4 wx)) (bH (nw 12 1023 (fun _ _=>bB) fun z=>wq 10 D (dF D D) (wq 11 D (cS D) (gY (bG ?_)))))))))))
   refine dE D (fun hh=>?_) (fun hh=>?_)
   ·have hq:(decide (mL ⟨y0,y1,y2,y3,y4⟩ ⟨x0,x1,x2,x3,x4⟩ < 0))=false:=by simpa using hh
    clear hh
    refine bM ?_
    have wV:eJ ⟨y0,y1,y2,y3,y4⟩ ⟨x0,x1,x2,x3,x4⟩=false:=decide_eq_false (by first|exact hq|simpa using hq)
    refine bS D (fY D D (cG D (bH (bK ?_))))
    exact cQ ((hh+1),j) ⟨bE,bE,hjb,.inr ⟨_,by dsimp only;rw [show hh+1 - 1=hh by omega];exact hx,wV⟩,hR⟩ bE ⟨D,D,D,D,D,(cP bE),D,bB⟩ (fun _ hm=>hm.pick [] [] [] D D)
   have hq:(decide (mL ⟨y0,y1,y2,y3,y4⟩ ⟨x0,x1,x2,x3,x4⟩ < 0))=true:=by simpa using hh
   clear hh
   refine bM ?_
   have wV:eJ ⟨y0,y1,y2,y3,y4⟩ ⟨x0,x1,x2,x3,x4⟩=true:=decide_eq_true (by first|exact hq|simpa using hq)
   refine bS D (cG D (bH (bK ?_)))
   exact cQ (i,hh) ⟨hi1,bE,bE,hL,.inr ⟨_,hx,wV⟩⟩ bE ⟨D,D,D,D,D,D,D,bB⟩ (fun _ hm=>hm.pick [] [] [] D D)
  refine dD (bI (bI (bY (bG (bJ (bX ?_))))))
  obtain rfl:i=j:=G
  refine bS D (cG D (bU (bP ?_)))
  refine dS (γ:=Nat×List Ev) (fun g=>(i<=g.1/\g.1<=mm)/\g.2.length=n/\g.2=bZ8 l0 mm (mm - g.1)) (fun g=> [(0,H (some ⟨br,0,none⟩) n eX),(1,I a),(2,I mm),(3,I b),(4,.func (.func fx) #[] #[]),(14,I i),(17,I (g.1))]) (fun g=>gA base 181 5 n eX br ((g.2).flatMap eF)) (fun g=> []) (fun g=> []) (fun g=> []) (fun g=>g.1 - i) (mm,l0) ⟨⟨hjb,Nat.le_refl _⟩,rN,by dsimp only;rw [Nat.sub_self];rfl⟩ ⟨D,D,D,D,D,D,D,bB⟩ (fun _ hm=>hm.pick [] [] [] D D) ?_
  rintro ⟨k,m⟩ bZ
  replace bZ:(i<=k/\k<=mm)/\m.length=n/\m=bZ8 l0 mm (mm - k):=bZ
  dsimp only
  refine bJ (bX ?_)
  obtain ⟨⟨hka,hki⟩,nR,hmk⟩:=bZ
  refine bS D (bS D (W (eM D D) D (bU ?_)))
  refine cN D (fun hk=>?_) (fun hk=>?_)
  ·refine bN (bG (bJ (bP ?_)))
   obtain ⟨k,rfl⟩:∃q,k=q+1:=⟨k - 1,G⟩
   have hk2:k+1 < n:=G
   obtain ⟨xx,hx⟩:∃x,m[k]?=some x:=⟨_,fY9 G⟩
   obtain ⟨x0,x1,x2,x3,x4⟩:=xx
   obtain ⟨yy,hy⟩:∃x,m[(k+1)]?=some x:=⟨_,fY9 G⟩
   obtain ⟨u0,u1,u2,u3,u4⟩:=yy
   refine gd (fun wz=>True) mixed (fun _ _=>bB) fun z=>wq 0 D (bL D) (wq 1 D (bL D) (wq 2 D (bL D) (wq 3 D (bL D) (wq 4 D (ov_sub D D G G) (dI 117 (v':=I k) D (fX9 G) (wq 5 D (bL D) (wq 6 D (bL D) (wq 7 D (ov_sub D D G G) (dI 120 (v':=I k) D (fX9 G) (wq 8 D (bV (j:=k) mC D D G) (wq 10 D (bL D) (wq 11 D (bL D) (wq 12 D (bV (j:=(k+1)) mC D D G) ?_)))))))))))))
   refine jC [9,13] bC D ⟨⟨_,D,?_⟩,⟨_,D,?_⟩,bB⟩
   ·refine W (dR (vs:= [J x0,U x1,U x2,J x3,U x4]) fE D (fun _ hm=>(gA.get hm.k fT nR)) hx D D) D ?_
    refine bH (nw 18 8191 (fun _ _=>bB) fun z=>eD 13 D (W (dR (vs:= [J u0,U u1,U u2,J u3,U u4]) fE D (fun _ hm=>(gA.get hm.k fT nR)) hy D D) D (bH (nw 18 16383 (fun _ _=>bB) fun z=>wq 14 D (bV (j:=(k+1)) mC D D G) (eD 15 D (fN (l:=m) (j:=(k+1)) (r:=0) (el:=⟨u0,u1,u2,u3,u4⟩) (el':=⟨x0,x1,x2,x3,x4⟩) D fE D D D D fT D hy nR bD D D (bH (nw 18 65535 (fun _ _=>bB) fun z=>wq 16 D (bV (j:=k) mC D D G) (eD 17 D ?_)))))))))
    refine fN (l:=m.set (k+1) ⟨x0,x1,x2,x3,x4⟩) (j:=k) (r:=0) (el:=⟨x0,x1,x2,x3,x4⟩) (el':=⟨u0,u1,u2,u3,u4⟩) D fE D D D D fT D (by rw [List.getElem?_set_ne G];exact hx) (by rw [List.length_set];exact nR) bD D D ?_
    refine bH (nw 18 262143 (fun _ _=>bB) fun z=>gY (bK (bG (bM (bS D (W (ov_sub D D G G) D (bO 112 (v':=I k) D (fX9 G) (cG D (bH ?_)))))))))
    have hcm:(m.set (k+1) ⟨x0,x1,x2,x3,x4⟩).set k ⟨u0,u1,u2,u3,u4⟩=(m.set k ⟨u0,u1,u2,u3,u4⟩).set (k+1) ⟨x0,x1,x2,x3,x4⟩:=List.set_comm _ _ G
    rw [hcm]
    have hst:bZ8 l0 mm (mm - k)=(m.set k ⟨u0,u1,u2,u3,u4⟩).set (k+1) ⟨x0,x1,x2,x3,x4⟩:=by
     rw [show mm - k=(mm - (k+1))+1 by omega]
     unfold bZ8
     rw [<-hmk,show mm - (mm - (k+1)) - 1=k by omega,show mm - (mm - (k+1))=k+1 by omega]
     exact bT2 (l:=m) (a:=k) (b:=k+1) (k:=0) hx hy
    exact cQ (k,(m.set k ⟨u0,u1,u2,u3,u4⟩).set (k+1) ⟨x0,x1,x2,x3,x4⟩) ⟨⟨bE,bE⟩,by simp [nR],hst.symm⟩ bE ⟨D,D,D,D,D,D,D,bB⟩ (fun _ hm=>hm.pick [] [] [] D D)
   refine W (dR (vs:= [J u0,U u1,U u2,J u3,U u4]) fE D (fun _ hm=>(gA.get hm.k fT nR)) hy D D) D (bH (nw 18 15871 (fun _ _=>bB) fun z=>eD 9 D (W (dR (vs:= [J x0,U x1,U x2,J x3,U x4]) fE D (fun _ hm=>(gA.get hm.k fT nR)) hx D D) D (bH (nw 18 16383 (fun _ _=>bB) fun z=>wq 14 D (bV (j:=(k+1)) mC D D G) (eD 15 D (fN (l:=m) (j:=(k+1)) (r:=0) (el:=⟨u0,u1,u2,u3,u4⟩) (el':=⟨x0,x1,x2,x3,x4⟩) D fE D D D D fT D hy nR bD D D (bH (nw 18 65535 (fun _ _=>bB) fun z=>wq 16 D (bV (j:=k) mC D D G) (eD 17 D ?_))))))))))
   refine fN (l:=m.set (k+1) ⟨x0,x1,x2,x3,x4⟩) (j:=k) (r:=0) (el:=⟨x0,x1,x2,x3,x4⟩) (el':=⟨u0,u1,u2,u3,u4⟩) D fE D D D D fT D (by rw [List.getElem?_set_ne G];exact hx) (by rw [List.length_set];exact nR) bD D D ?_
   refine bH (nw 18 262143 (fun _ _=>bB) fun z=>gY (bK (bG (bM (bS D (W (ov_sub D D G G) D (bO 112 (v':=I k) D (fX9 G) (cG D (bH ?_)))))))))
   have hcm:(m.set (k+1) ⟨x0,x1,x2,x3,x4⟩).set k ⟨u0,u1,u2,u3,u4⟩=(m.set k ⟨u0,u1,u2,u3,u4⟩).set (k+1) ⟨x0,x1,x2,x3,x4⟩:=List.set_comm _ _ G
   rw [hcm]
   have hst:bZ8 l0 mm (mm - k)=(m.set k ⟨u0,u1,u2,u3,u4⟩).set (k+1) ⟨x0,x1,x2,x3,x4⟩:=by
    rw [show mm - k=(mm - (k+1))+1 by omega]
    unfold bZ8
    rw [<-hmk,show mm - (mm - (k+1)) - 1=k by omega,show mm - (mm - (k+1))=k+1 by omega]
    exact bT2 (l:=m) (a:=k) (b:=k+1) (k:=0) hx hy
   exact cQ (k,(m.set k ⟨u0,u1,u2,u3,u4⟩).set (k+1) ⟨x0,x1,x2,x3,x4⟩) ⟨⟨bE,bE⟩,by simp [nR],hst.symm⟩ bE ⟨D,D,D,D,D,D,D,bB⟩ (fun _ hm=>hm.pick [] [] [] D D)
  refine dD (bI (bI (bY (bG (bR (F ?_))))))
  obtain rfl:k=i:=G
  obtain rfl:b=mm+1:=G
  refine bW5 D fun wx hm=>?_
  have hf:=kS hm.k hm.g
  exact ⟨m,eS3 wR G hxa hsA hi1 hki hL hR (by rw [nR,rN]) (fun x=>by rw [hmk,cH8 G G,show mm - (mm - k)=k by omega]),D,hf.1,hf.2⟩
 refine bN (bG (bX ?_))
 obtain ⟨qY,hmid⟩:∃z,z=(a+b) / 2:=⟨_,rfl⟩
 refine bS D (bS D (fY D D (bO 131 (v':=I ((a+b))) D (fX9 G) (W (cJ7 (a:=(a+b)) bC bC D G) D (W (bX5 (a:=(a+b)) D D) D (W (cN1 (a:=(a+b) / 2) bC bC D G) D (bO 134 (v':=I qY) D (fX9 G) (cG D (bU (bX (bS D (bS D (fY D D (bO 137 (v':=I ((qY+mm))) D (fX9 G) (cG D (bU (bX (cG D (cG D (bU ?_))))))))))))))))))))
 refine pB (γ:=Nat×Nat) (I':=(fun g=>(a<=g.1/\g.1<=g.2)/\(g.2<=mm/\g.2<=qY)/\(qY+mm - b<=g.1)/\(g.1=a∨(g.1=qY+mm - b/\b<=qY+mm))/\(g.2=mm∨g.2=qY))) (S':=(fun g=> [(0,H (some ⟨br,0,none⟩) n eX),(1,I a),(2,I mm),(3,I b),(4,.func (.func fx) #[] #[]),(18,I qY),(19,I ((qY+mm))),(20,I (g.1)),(21,I (g.2))])) (K':=(fun g=>gA base 181 5 n eX br ((l0).flatMap eF))) (L':=(fun g=> [])) (O':=(fun g=> [])) (X':=(fun g=> [])) ?_ ?_
 ·refine bX (bS D (bS D ?_))
  refine W (eM D D) D (bU ?_)
  refine cN D (fun hgt=>?_) (fun hgt=>?_)
  ·refine bX (bS D (bS D ?_))
   refine W (ov_sub D D G G) D (bO 143 (v':=I ((qY+mm - b))) D (fX9 G) (cG D (bU (bM (bS D (cG D (bH ?_)))))))
   exact fH ((qY+mm - b),qY) ⟨⟨bE,bE⟩,⟨bE,Nat.le_refl _⟩,Nat.le_refl _,.inr ⟨D,G⟩,.inr D⟩ ⟨D,D,D,D,D,D,D,D,D,bB⟩ (fun _ hm=>hm.pick [] [] [] D D)
  refine bX (bS D (cG D (bU (bM (bS D (cG D (bH ?_)))))))
  exact fH (a,mm) ⟨⟨Nat.le_refl _,bE⟩,⟨Nat.le_refl _,bE⟩,bE,.inl rfl,.inl rfl⟩ ⟨D,D,D,D,D,D,D,D,D,bB⟩ (fun _ hm=>hm.pick [] [] [] D D)
 rintro ⟨lo,hi⟩ bZ
 replace bZ:(a<=lo/\lo<=hi)/\(hi<=mm/\hi<=qY)/\(qY+mm - b<=lo)/\(lo=a∨(lo=qY+mm - b/\b<=qY+mm))/\(hi=mm∨hi=qY):=bZ
 dsimp only
 refine bX ?_
 obtain ⟨⟨q1,q2⟩,⟨q3,q4⟩,q5,q6,q7⟩:=bZ
 refine bS D (W (ov_sub D D G G) D (bO 148 (v':=I ((qY+mm - 1))) D (fX9 G) (cG D (bU (bJ (bP ?_))))))
 refine dS (γ:=Nat×Nat) (fun g=>lo<=g.1/\g.1<=g.2/\g.2<=hi/\(g.1=lo∨∃u v,l0[g.1 - 1]?=some u/\l0[qY+mm - g.1]?=some v/\eJ v u=false)/\(g.2=hi∨∃u v,l0[g.2]?=some u/\l0[qY+mm - 1 - g.2]?=some v/\eJ v u=true)) (fun g=> [(0,H (some ⟨br,0,none⟩) n eX),(1,I a),(2,I mm),(3,I b),(4,.func (.func fx) #[] #[]),(18,I qY),(19,I ((qY+mm))),(20,I (g.1)),(21,I (g.2)),(22,I ((qY+mm - 1)))]) (fun g=>gA base 181 5 n eX br ((l0).flatMap eF)) (fun g=> []) (fun g=> []) (fun g=> []) (fun g=>g.2 - g.1) (lo,hi) ⟨Nat.le_refl _,q2,Nat.le_refl _,.inl D,.inl D⟩ ⟨D,D,D,D,D,D,D,D,D,D,bB⟩ (fun _ hm=>hm.pick [] [] [] D D) ?_
 rintro ⟨i,j⟩ bZ
 replace bZ:lo<=i/\i<=j/\j<=hi/\(i=lo∨∃u v,l0[i - 1]?=some u/\l0[qY+mm - i]?=some v/\eJ v u=false)/\(j=hi∨∃u v,l0[j]?=some u/\l0[qY+mm - 1 - j]?=some v/\eJ v u=true):=bZ
 dsimp only
 refine bJ (bX ?_)
 obtain ⟨hi1,hij,hjb,hL,hR⟩:=bZ
 refine bS D (bS D (W (dF D D) D (bU ?_)))
 refine cN D (fun hlt=>?_) (fun hlt=>?_)
 ·refine bN (bG (bP (bX ?_)))
  obtain ⟨hh,hhd⟩:∃z,z=(i+j) / 2:=⟨_,rfl⟩
  have hh1:i<=hh:=G
  have hh2:hh < j:=G
  obtain ⟨xx,hx⟩:∃x,l0[(qY+mm - 1 - hh)]?=some x:=⟨_,fY9 G⟩
  obtain ⟨x0,x1,x2,x3,x4⟩:=xx
  obtain ⟨yy,hy⟩:∃x,l0[hh]?=some x:=⟨_,fY9 G⟩
  obtain ⟨y0,y1,y2,y3,y4⟩:=yy
  refine bS D (bS D (fY D D (bO 154 (v':=I ((i+j))) D (fX9 G) (W (cJ7 (a:=(i+j)) bC bC D G) D (W (bX5 (a:=(i+j)) D D) D (W (cN1 (a:=(i+j) / 2) bC bC D G) D (bO 157 (v':=I hh) D (fX9 G) (cG D (bU (bJ (gd (fun wz=>True) mixed (fun _ _=>bB) fun z=>wq 0 D (bL D) (wq 1 D (bL D) (wq 2 D (bL D) (wq 3 D (bL D) (wq 4 D (ov_sub D D G G) (dI 162 (v':=I ((qY+mm - 1 - hh))) D (fX9 G) (wq 5 D (bV (j:=(qY+mm - 1 - hh)) mC D D G) (wq 7 D (bL D) (wq 8 D (bL D) (wq 9 D (bV (j:=hh) mC D D G) ?_))))))))))))))))))))
  refine jC [6,10] bC D ⟨⟨_,D,?_⟩,⟨_,D,?_⟩,bB⟩
  ·refine W (dR (vs:= [J x0,U x1,U x2,J x3,U x4]) fE D (fun _ hm=>(gA.get hm.k fT rN)) hx D D) D ?_
   refine bH (nw 14 1023 (fun _ _=>bB) fun z=>eD 10 D (W (dR (vs:= [J y0,U y1,U y2,J y3,U y4]) fE D (fun _ hm=>(gA.get hm.k fT rN)) hy D D) D (bH (nw 14 2047 (fun _ _=>bB) fun z=>eD 11 D (cR D hF.1 D D (fun wx hm=>(hF.2 x0 x1 x2 x3 x4 y0 y1 y2 y3 y4 wx)) (bH (nw 14 4095 (fun _ _=>bB) fun z=>wq 12 D (dF D D) (wq 13 D (cS D) (gY (bG ?_))))))))))
   refine dE D (fun hh=>?_) (fun hh=>?_)
   ·have hq:(decide (mL ⟨x0,x1,x2,x3,x4⟩ ⟨y0,y1,y2,y3,y4⟩ < 0))=false:=by simpa using hh
    clear hh
    refine bM ?_
    have wV:eJ ⟨x0,x1,x2,x3,x4⟩ ⟨y0,y1,y2,y3,y4⟩=false:=decide_eq_false (by first|exact hq|simpa using hq)
    refine bS D (fY D D (cG D (bH (bK ?_))))
    exact cQ ((hh+1),j) ⟨bE,bE,hjb,.inr ⟨_,_,by dsimp only;rw [show hh+1 - 1=hh by omega];exact hy,by dsimp only;rw [show qY+mm - (hh+1)=qY+mm - 1 - hh by omega];exact hx,wV⟩,hR⟩ bE ⟨D,D,D,D,D,D,D,(cP bE),D,D,bB⟩ (fun _ hm=>hm.pick [] [] [] D D)
   have hq:(decide (mL ⟨x0,x1,x2,x3,x4⟩ ⟨y0,y1,y2,y3,y4⟩ < 0))=true:=by simpa using hh
   clear hh
   refine bM ?_
   have wV:eJ ⟨x0,x1,x2,x3,x4⟩ ⟨y0,y1,y2,y3,y4⟩=true:=decide_eq_true (by first|exact hq|simpa using hq)
   refine bS D (cG D (bH (bK ?_)))
   exact cQ (i,hh) ⟨hi1,bE,bE,hL,.inr ⟨_,_,hy,hx,wV⟩⟩ bE ⟨D,D,D,D,D,D,D,D,D,D,bB⟩ (fun _ hm=>hm.pick [] [] [] D D)
  refine W (dR (vs:= [J y0,U y1,U y2,J y3,U y4]) fE D (fun _ hm=>(gA.get hm.k fT rN)) hy D D) D (bH (nw 14 1983 (fun _ _=>bB) fun z=>eD 6 D (W (dR (vs:= [J x0,U x1,U x2,J x3,U x4]) fE D (fun _ hm=>(gA.get hm.k fT rN)) hx D D) D (bH (nw 14 2047 (fun _ _=>bB) fun z=>eD 11 D (cR D hF.1 D D (fun wx hm=>(hF.2 x0 x1 x2 x3 x4 y0 y1 y2 y3 y4 wx)) (bH (nw 14 4095 (fun _ _=>bB) fun z=>wq 12 D (dF D D) (wq 13 D (cS D) (gY (bG ?_)))))))))))
  refine dE D (fun hh=>?_) (fun hh=>?_)
  ·have hq:(decide (mL ⟨x0,x1,x2,x3,x4⟩ ⟨y0,y1,y2,y3,y4⟩ < 0))=false:=by simpa using hh
   clear hh
   refine bM ?_
   have wV:eJ ⟨x0,x1,x2,x3,x4⟩ ⟨y0,y1,y2,y3,y4⟩=false:=decide_eq_false (by first|exact hq|simpa using hq)
   refine bS D (fY D D (cG D (bH (bK ?_))))
   exact cQ ((hh+1),j) ⟨bE,bE,hjb,.inr ⟨_,_,by dsimp only;rw [show hh+1 - 1=hh by omega];exact hy,by dsimp only;rw [show qY+mm - (hh+1)=qY+mm - 1 - hh by omega];exact hx,wV⟩,hR⟩ bE ⟨D,D,D,D,D,D,D,(cP bE),D,D,bB⟩ (fun _ hm=>hm.pick [] [] [] D D)
  have hq:(decide (mL ⟨x0,x1,x2,x3,x4⟩ ⟨y0,y1,y2,y3,y4⟩ < 0))=true:=by simpa using hh
  clear hh
  refine bM ?_
  have wV:eJ ⟨x0,x1,x2,x3,x4⟩ ⟨y0,y1,y2,y3,y4⟩=true:=decide_eq_true (by first|exact hq|simpa using hq)
  refine bS D (cG D (bH (bK ?_)))
  exact cQ (i,hh) ⟨hi1,bE,bE,hL,.inr ⟨_,_,hy,hx,wV⟩⟩ bE ⟨D,D,D,D,D,D,D,D,D,D,bB⟩ (fun _ hm=>hm.pick [] [] [] D D)
 refine dD (bI (bI (bY (bG (bX ?_)))))
 obtain rfl:i=j:=G
 obtain ⟨e,he⟩:∃z,z=qY+mm - i:=⟨_,rfl⟩
 have e1:a<=i:=G
 have e2:i<=mm:=G
 have e3:mm<=e:=G
 have e4:e<=b:=G
 have e5:qY=i+(e - mm):=G
 have w1:i=a∨e=b∨∃x y,l0[i - 1]?=some x/\l0[e]?=some y/\eJ y x=false:=by
  rcases hL with h3|⟨u,v,h3,h4,h5⟩
  ·rcases q6 with h4|h4
   ·exact .inl G
   exact .inr (.inl G)
  exact .inr (.inr ⟨u,v,h3,by rw [he];exact h4,h5⟩)
 have w2:e=mm∨i=mm∨∃x y,l0[i]?=some x/\l0[e - 1]?=some y/\eJ y x=true:=by
  rcases hR with h3|⟨u,v,h3,h4,h5⟩
  ·rcases q7 with h4|h4
   ·exact .inr (.inl G)
   exact .inl G
  exact .inr (.inr ⟨u,v,h3,by rw [show e - 1=qY+mm - 1 - i by omega];exact h4,h5⟩)
 refine bS D (bS D (W (ov_sub D D G G) D (bO 177 (v':=I e) D (fX9 G) (cG D (bU ?_)))))
 refine pB (γ:=List Ev) (I':=(fun (l1:List Ev)=>l1.length=n/\∀x,l1[x]?=kO l0 i mm e x)) (S':=(fun (l1:List Ev)=> [(0,H (some ⟨br,0,none⟩) n eX),(1,I a),(3,I b),(4,.func (.func fx) #[] #[]),(18,I qY),(20,I i),(24,I e)])) (K':=(fun (l1:List Ev)=>gA base 181 5 n eX br ((l1).flatMap eF))) (L':=(fun (l1:List Ev)=> [])) (O':=(fun (l1:List Ev)=> [])) (X':=(fun (l1:List Ev)=> [])) ?_ ?_
 ·refine bX (bS D (bS D (W (dF D D) D (bS D ?_))))
  rcases Bool.eq_false_or_eq_true (decide (((i:Nat):Int) < ((mm:Nat):Int))) with hb|hb
  ·refine bO 181 D (fW9 hb) ?_
   replace hb:=of_decide_eq_true hb
   refine eN D (bS D (eN D (bS D (eN D (W (dF D D) D (mS D D (bU ?_)))))))
   refine cN D (fun hb2=>?_) (fun hb2=>?_)
   ·refine bM (bS D (bS D (bS D (bS D (bS D ?_)))))
    refine fW (γ:=List Ev) (val:=fun _=> .tuple #[]) (φ:=fun R=>R.length=n/\∀x,R[x]?=kO l0 i mm e x) (K':=fun R=>gA base 181 5 n eX br ((R).flatMap eF)) (L':=fun _=> []) (O':=fun _=> []) (X':=fun _=> []) D fH4 D D (fun wx hm=>((dK8 fx l0 br n eX base i mm e wx hm.k rN hn G G G)).mono fun _ _ ⟨R_,h1,he,ho,hg⟩=>⟨R_,he,h1,hm.turned D D ho hg⟩) ?_
    intro R hR
    refine bH ?_
    exact fH R hR ⟨D,D,D,D,D,D,D,bB⟩ (fun _ hm=>hm.pick [] [] [] D D)
   refine bN ?_
   exact fH l0 ⟨rN,fun x=>dI0 G e2 e3 x⟩ ⟨D,D,D,D,D,D,D,bB⟩ (fun _ hm=>hm.pick [] [] [] D D)
  refine bO 181 D (fW9 hb) ?_
  replace hb:=of_decide_eq_false hb
  refine eE D (eE D (eE D (nV D D (bU (jK D (bN ?_))))))
  exact fH l0 ⟨rN,fun x=>dI0 G e2 e3 x⟩ ⟨D,D,D,D,D,D,D,bB⟩ (fun _ hm=>hm.pick [] [] [] D D)
 intro l1 bZ
 replace bZ:l1.length=n/\∀x,l1[x]?=kO l0 i mm e x:=bZ
 obtain ⟨hl1,hrot⟩:=bZ
 obtain ⟨p1,p2,p3,p4⟩:=cV4 (a:=a) (b:=b) hrot e2 e3 e5
 have s1:yD eJ (eY l1 a i):=by rw [p1,<-show a+(i - a)=i by omega,<-bO2 (m:=mm) G];exact bH6 hsA _
 have s2:yD eJ (eY l1 i qY):=by rw [p2,<-show mm+(e - mm)=e by omega,<-bO2 (m:=b) G];exact bH6 hsB _
 have s3:yD eJ (eY l1 qY e):=by rw [p3,show i=a+(i - a) by omega,<-bM2];exact bG6 hsA _
 have s4:yD eJ (eY l1 e b):=by rw [p4,show e=mm+(e - mm) by omega,<-bM2];exact bG6 hsB _
 refine pB (γ:=List Ev) (I':=(fun (R1:List Ev)=>R1.length=n/\yE eJ l1 R1 a qY)) (S':=(fun (R1:List Ev)=> [(0,H (some ⟨br,0,none⟩) n eX),(3,I b),(4,.func (.func fx) #[] #[]),(18,I qY),(24,I e)])) (K':=(fun (R1:List Ev)=>gA base 181 5 n eX br ((R1).flatMap eF))) (L':=(fun (R1:List Ev)=> [])) (O':=(fun (R1:List Ev)=> [])) (X':=(fun (R1:List Ev)=> [])) ?_ ?_
 ·refine bX (bS D (bS D (W (dF D D) D (bS D ?_))))
  rcases Bool.eq_false_or_eq_true (decide (((a:Nat):Int) < ((i:Nat):Int))) with hb|hb
  ·refine bO 195 D (fW9 hb) ?_
   replace hb:=of_decide_eq_true hb
   refine eN D (bS D (eN D (bS D (eN D (W (dF D D) D (mS D D (bU ?_)))))))
   refine cN D (fun hb2=>?_) (fun hb2=>?_)
   ·refine bM (bS D (bS D (bS D (bS D (bS D ?_)))))
    refine fW (γ:=List Ev) (val:=fun _=> .tuple #[]) (φ:=fun R=>R.length=n/\yE eJ l1 R a qY) (K':=fun R=>gA base 181 5 n eX br ((R).flatMap eF)) (L':=fun _=> []) (O':=fun _=> []) (X':=fun _=> []) D dT4 D D (fun wx hm=>(ih a i qY G l1 wx hm.k hl1 hn G G G s1 s2).mono fun _ _ ⟨R_,h1,he,ho,hg⟩=>⟨R_,he,⟨by rw [h1.len];exact hl1,h1⟩,hm.turned D D ho hg⟩) ?_
    intro R hR
    refine bH ?_
    exact fH R hR ⟨D,D,D,D,D,bB⟩ (fun _ hm=>hm.pick [] [] [] D D)
   refine bN ?_
   exact fH l1 ⟨hl1,bJ6 (by rcases (show i=a∨i=qY by omega) with h9|h9 <;> (subst h9;assumption))⟩ ⟨D,D,D,D,D,bB⟩ (fun _ hm=>hm.pick [] [] [] D D)
  refine bO 195 D (fW9 hb) ?_
  replace hb:=of_decide_eq_false hb
  refine eE D (eE D (eE D (nV D D (bU (jK D (bN ?_))))))
  exact fH l1 ⟨hl1,bJ6 (by rcases (show i=a∨i=qY by omega) with h9|h9 <;> (subst h9;assumption))⟩ ⟨D,D,D,D,D,bB⟩ (fun _ hm=>hm.pick [] [] [] D D)
 intro R1 bZ
 replace bZ:R1.length=n/\yE eJ l1 R1 a qY:=bZ
 refine bX ?_
 obtain ⟨hl2,k1⟩:=bZ
 have s5:yD eJ (eY R1 qY e):=by rw [bS7 k1.back (Nat.le_refl _)];exact s3
 have s6:yD eJ (eY R1 e b):=by rw [bS7 k1.back G];exact s4
 refine bS D (bS D (W (dF D D) D (bS D ?_)))
 rcases Bool.eq_false_or_eq_true (decide (((qY:Nat):Int) < ((e:Nat):Int))) with hb|hb
 ·refine bO 209 D (fW9 hb) ?_
  replace hb:=of_decide_eq_true hb
  refine eN D (bS D (eN D (bS D (eN D (W (dF D D) D (mS D D (bU ?_)))))))
  refine cN D (fun hb2=>?_) (fun hb2=>?_)
  ·refine bM (bS D (bS D (bS D (bS D (bS D ?_)))))
   refine fW (γ:=List Ev) (val:=fun _=> .tuple #[]) (φ:=fun R=>yE eJ R1 R qY b) (K':=fun R=>gA base 181 5 n eX br ((R).flatMap eF)) (L':=fun _=> []) (O':=fun _=> []) (X':=fun _=> []) D dT4 D D (fun wx hm=>((ih qY e b G R1 wx hm.k hl2 hn G G G s5 s6)).mono fun _ _ ⟨R_,h1,he,ho,hg⟩=>⟨R_,he,h1,hm.turned D D ho hg⟩) ?_
   intro R hR
   refine bH ?_
   refine jF D fun wx hm=>?_
   have hf:=kS hm.k hm.g
   exact ⟨R,bY7 wR G hsA hsB e1 e2 e3 e4 e5 w1 w2 (by rw [hl1,rN]) hrot k1 hR,D,hf.1,hf.2⟩
  refine bN ?_
  refine jF D fun wx hm=>?_
  have hf:=kS hm.k hm.g
  exact ⟨R1,bY7 wR G hsA hsB e1 e2 e3 e4 e5 w1 w2 (by rw [hl1,rN]) hrot k1 (bJ6 (by rcases (show e=qY∨e=b by omega) with h9|h9 <;> (subst h9;assumption))),D,hf.1,hf.2⟩
 refine bO 209 D (fW9 hb) ?_
 replace hb:=of_decide_eq_false hb
 refine eE D (eE D (eE D (nV D D (bU (jK D (bN ?_))))))
 refine jF D fun wx hm=>?_
 have hf:=kS hm.k hm.g
 exact ⟨R1,bY7 wR G hsA hsB e1 e2 e3 e4 e5 w1 w2 (by rw [hl1,rN]) hrot k1 (bJ6 (by rcases (show e=qY∨e=b by omega) with h9|h9 <;> (subst h9;assumption))),D,hf.1,hf.2⟩
theorem eQ3(fx:FuncId)(hF:cT2 fx)(br n eX base:Nat):∀(k a mm b:Nat),b - a=k->cB0 fx br n eX base a mm b:=by
 intro k
 induction k using Nat.strongRecOn with
 |_ k ih=>exact fun a mm b hk=>dF4 fx hF br n eX base a mm b fun a' m' b' h=>ih (b' - a') (by omega) a' m' b' rfl
theorem dP5{pre m post:List Ev}{a j:Nat}(hp:pre.length=a)(hj:j < m.length):(pre++(m++post))[a+j]?=m[j]?:=by
 rw [List.getElem?_append_right G,List.getElem?_append_left G]
 congr 1;omega
theorem bT9{pre m post:List Ev}{a j:Nat}{x:Ev}(hp:pre.length=a)(hj:j < m.length):(pre++(m++post)).set (a+j) x=pre++(m.set j x++post):=by
 rw [List.set_append_right _ _ G,List.set_append_left _ _ G,show a+j - pre.length=j by omega]
theorem zL(fx:FuncId)(hF:cT2 fx)(pre m0 post:List Ev)(br n eX base a b:Nat)(w:World)(h:w.ownsRow base 181 5 (H (some ⟨br,0,none⟩) n eX) n ((pre++(m0++post)).flatMap eF))(hpre:pre.length=a)(hab:a+m0.length=b)(hbn:b+post.length=n)(hn:n<=1000000):
 Calls prog 184 #[H (some ⟨br,0,none⟩) n eX,I a,I b,.func (.func fx) #[] #[]] w (fun e w'=>e=.returned (.tuple #[])/\w'.ownsRow base 181 5 (H (some ⟨br,0,none⟩) n eX) n ((pre++(dY eJ m0++post)).flatMap eF)/\w.grownBy w' (some br)):=by
 obtain ⟨q,hq⟩:∃z,z=m0.length:=⟨_,rfl⟩
 obtain ⟨R,hR⟩:∃z,z=dY eJ m0:=⟨_,rfl⟩
 rw [<-hR]
 unfold dY at hR
 rw [<-hq] at hR
 refine cY ⟨53,w,(some br), []⟩ func184 D ntmps184 D (bX0 (X:= []) h cZ dA) (bX (bS D (fY D D (cG D (bU (bP ?_))))))
 refine dS (γ:=Nat×List Ev) (fun gg=>(1<=gg.1/\gg.1<=q+1)/\gg.2.length=q/\mP eJ (q - gg.1) gg.1 gg.2=R) (fun gg=> [(0,H (some ⟨br,0,none⟩) n eX),(1,I a),(2,I b),(3,.func (.func fx) #[] #[]),(8,I ((a+gg.1)))]) (fun gg=>gA base 181 5 n eX br (((pre++(gg.2++post))).flatMap eF)) (fun gg=> []) (fun gg=> []) (fun gg=> []) (fun gg=>q+1 - gg.1) (1,m0) ⟨⟨Nat.le_refl _,G⟩,hq.symm,by rw [hR]⟩ ⟨D,D,D,D,(cP G),bB⟩ (fun _ hm=>hm.pick [] [] [] D D) ?_
 rintro ⟨i,l⟩ bZ
 replace bZ:(1<=i/\i<=q+1)/\l.length=q/\mP eJ (q - i) i l=R:=bZ
 dsimp only
 refine bJ (bX ?_)
 obtain ⟨⟨hi1,zI⟩,hl1,hR1⟩:=bZ
 refine bS D (bS D (W (dF D D) D (bU ?_)))
 refine cN D (fun hi=>?_) (fun hi=>?_)
 ·refine bN (bG (bJ (bP (bX ?_))))
  have hRi:mP eJ (q - (i+1)) (i+1) (qL eJ i l)=R:=by rw [<-hR1,show q - i=(q - (i+1))+1 by omega];rfl
  obtain ⟨S,hS⟩:∃z,z=qL eJ i l:=⟨_,rfl⟩
  rw [<-hS] at hRi
  have hSl:S.length=q:=by rw [hS,wZ];exact hl1
  refine bS D (cG D (bU (bP ?_)))
  refine dS (γ:=Nat×List Ev) (fun gg=>(gg.1<=i)/\gg.2.length=q/\qL eJ gg.1 gg.2=S) (fun gg=> [(0,H (some ⟨br,0,none⟩) n eX),(1,I a),(2,I b),(3,.func (.func fx) #[] #[]),(8,I ((a+i))),(9,I ((a+gg.1)))]) (fun gg=>gA base 181 5 n eX br (((pre++(gg.2++post))).flatMap eF)) (fun gg=> []) (fun gg=> []) (fun gg=> []) (fun gg=>gg.1) (i,l) ⟨Nat.le_refl _,hl1,hS.symm⟩ ⟨D,D,D,D,D,D,bB⟩ (fun _ hm=>hm.pick [] [] [] D D) ?_
  rintro ⟨jj,m⟩ bZ
  replace bZ:(jj<=i)/\m.length=q/\qL eJ jj m=S:=bZ
  dsimp only
  refine bJ (bJ ?_)
  obtain ⟨hj1,nR,hS1⟩:=bZ
  rcases jj with _|j
  ·refine gd (fun wz=>True) mixed (fun _ _=>bB) fun z=>?_
   refine wq 0 D (bL D) (wq 1 D (bL D) (wq 2 D (eM D D) (dI 20 (v':= .bool false) D (fW9 (decide_eq_false G)) (wq 3 D (bL D) (eL 4 D (eL 5 D (eL 6 D (eL 7 D (eL 8 D (eL 9 D (eL 10 D (eL 11 D (eL 12 D (eL 13 D (eL 14 D (eL 15 D (wq 16 D (eZ D D) (gY (bG (jK D (dD (bI (bI (bY ?_))))))))))))))))))))))))
   refine bK (bG (bM (bS D (fY D D (cG D (bH ?_))))))
   have hm2:m=S:=hS1
   exact cQ (i+1,m) ⟨⟨bE,bE⟩,by rw [hm2];exact hSl,by rw [hm2];exact hRi⟩ bE ⟨D,D,D,D,(cP bE),bB⟩ (fun _ hm=>hm.pick [] [] [] D D)
  have hj2:j+1 < q:=G
  obtain ⟨xx,hxm⟩:∃z,m[j]?=some z:=⟨_,fY9 G⟩
  obtain ⟨yy,hym⟩:∃z,m[j+1]?=some z:=⟨_,fY9 G⟩
  obtain ⟨x0,x1,x2,x3,x4⟩:=xx
  obtain ⟨y0,y1,y2,y3,y4⟩:=yy
  have hwl:(pre++(m++post)).length=n:=by simp only [List.length_append];omega
  have hx:=(dP5 (post:=post) hpre (show j < m.length by omega)).trans hxm
  have hy:=(dP5 (post:=post) hpre (show j+1 < m.length by omega)).trans hym
  refine gd (fun wz=>(gA base 181 5 n eX br (((pre++(m++post))).flatMap eF)) wz/\True) mixed (fun _ hm=>⟨hm.k,bB⟩) fun z=>wq 0 D (bL D) (wq 1 D (bL D) (wq 2 D (eM D D) (dI 20 (v':= .bool true) D (fW9 (decide_eq_true G)) (wq 3 D (bL D) (eU 4 D (bL D) (eU 5 D (bL D) (eU 6 D (bL D) (eU 7 D (bV (j:=(a+(j+1))) mC D D G) (eU 8 D (dR (vs:= [J y0,U y1,U y2,J y3,U y4]) fE D (fun _ hm=>(gA.get (hm.1) fT hwl)) hy D D) (eU 9 D (bL D) (eU 10 D (bL D) (eU 11 D (ov_sub D D G G) (dI 29 (v':=I ((a+j))) D (fX9 G) (eU 12 D (bV (j:=(a+j)) mC D D G) (eU 13 D (dR (vs:= [J x0,U x1,U x2,J x3,U x4]) fE D (fun _ hm=>(gA.get (hm.1) fT hwl)) hx D D) (eD 14 D (eN D (cR D hF.1 D D (fun wx hm=>(hF.2 y0 y1 y2 y3 y4 x0 x1 x2 x3 x4 wx)) (bH (nw 17 32767 (fun _ hm=>⟨hm.k,bB⟩) fun z=>eU 15 D (dF D D) (wq 16 D (fG D D) (gY (bG ?_)))))))))))))))))))))))
  refine cN D (fun hlt=>?_) (fun hlt=>?_)
  ·refine bN (bG (bJ (bP ?_)))
   have hlt2:eJ ⟨y0,y1,y2,y3,y4⟩ ⟨x0,x1,x2,x3,x4⟩=true:=decide_eq_true (show mL ⟨y0,y1,y2,y3,y4⟩ ⟨x0,x1,x2,x3,x4⟩ < 0 from hlt)
   have hS2:=(xA hym hxm hlt2).symm.trans hS1
   refine gd (fun wz=>True) mixed (fun _ _=>bB) fun z=>wq 0 D (bL D) (wq 1 D (bL D) (wq 2 D (bL D) (wq 3 D (bL D) (wq 4 D (ov_sub D D G G) (dI 41 (v':=I ((a+j))) D (fX9 G) (wq 5 D (bL D) (wq 6 D (bL D) (wq 7 D (ov_sub D D G G) (dI 44 (v':=I ((a+j))) D (fX9 G) (wq 8 D (bV (j:=(a+j)) mC D D G) (wq 10 D (bL D) (wq 11 D (bL D) (wq 12 D (bV (j:=(a+(j+1))) mC D D G) ?_)))))))))))))
   refine jC [9,13] bC D ⟨⟨_,D,?_⟩,⟨_,D,?_⟩,bB⟩
   ·refine W (dR (vs:= [J x0,U x1,U x2,J x3,U x4]) fE D (fun _ hm=>(gA.get hm.k fT hwl)) hx D D) D ?_
    refine bH (nw 18 8191 (fun _ _=>bB) fun z=>eD 13 D (W (dR (vs:= [J y0,U y1,U y2,J y3,U y4]) fE D (fun _ hm=>(gA.get hm.k fT hwl)) hy D D) D (bH (nw 18 16383 (fun _ _=>bB) fun z=>wq 14 D (bV (j:=(a+(j+1))) mC D D G) (eD 15 D (fN (l:=(pre++(m++post))) (j:=(a+(j+1))) (r:=0) (el:=⟨y0,y1,y2,y3,y4⟩) (el':=⟨x0,x1,x2,x3,x4⟩) D fE D D D D fT D hy hwl bD D D (bH (nw 18 65535 (fun _ _=>bB) fun z=>wq 16 D (bV (j:=(a+j)) mC D D G) (eD 17 D ?_)))))))))
    refine fN (l:=(pre++(m++post)).set (a+(j+1)) ⟨x0,x1,x2,x3,x4⟩) (j:=(a+j)) (r:=0) (el:=⟨x0,x1,x2,x3,x4⟩) (el':=⟨y0,y1,y2,y3,y4⟩) D fE D D D D fT D (by rw [List.getElem?_set_ne G];exact hx) (by rw [List.length_set];exact hwl) bD D D ?_
    refine bH (nw 18 262143 (fun _ _=>bB) fun z=>gY (bK (bG (bM (bS D (W (ov_sub D D G G) D (bO 36 (v':=I ((a+j))) D (fX9 G) (cG D (bH ?_)))))))))
    have hcm:((pre++(m++post)).set (a+(j+1)) ⟨x0,x1,x2,x3,x4⟩).set (a+j) ⟨y0,y1,y2,y3,y4⟩=((pre++(m++post)).set (a+j) ⟨y0,y1,y2,y3,y4⟩).set (a+(j+1)) ⟨x0,x1,x2,x3,x4⟩:=List.set_comm _ _ G
    rw [hcm]
    have hnew:((pre++(m++post)).set (a+j) ⟨y0,y1,y2,y3,y4⟩).set (a+(j+1)) ⟨x0,x1,x2,x3,x4⟩=pre++(((m.set (j+1) ⟨x0,x1,x2,x3,x4⟩).set j ⟨y0,y1,y2,y3,y4⟩)++post):=by rw [bT9 hpre G,bT9 hpre (by rw [List.length_set];omega),List.set_comm _ _ G]
    rw [hnew]
    exact cQ (j,((m.set (j+1) ⟨x0,x1,x2,x3,x4⟩).set j ⟨y0,y1,y2,y3,y4⟩)) ⟨bE,by simp [nR],hS2⟩ bE ⟨D,D,D,D,D,D,bB⟩ (fun _ hm=>hm.pick [] [] [] D D)
   refine W (dR (vs:= [J y0,U y1,U y2,J y3,U y4]) fE D (fun _ hm=>(gA.get hm.k fT hwl)) hy D D) D (bH (nw 18 15871 (fun _ _=>bB) fun z=>eD 9 D (W (dR (vs:= [J x0,U x1,U x2,J x3,U x4]) fE D (fun _ hm=>(gA.get hm.k fT hwl)) hx D D) D (bH (nw 18 16383 (fun _ _=>bB) fun z=>wq 14 D (bV (j:=(a+(j+1))) mC D D G) (eD 15 D (fN (l:=(pre++(m++post))) (j:=(a+(j+1))) (r:=0) (el:=⟨y0,y1,y2,y3,y4⟩) (el':=⟨x0,x1,x2,x3,x4⟩) D fE D D D D fT D hy hwl bD D D (bH (nw 18 65535 (fun _ _=>bB) fun z=>wq 16 D (bV (j:=(a+j)) mC D D G) (eD 17 D ?_))))))))))
   refine fN (l:=(pre++(m++post)).set (a+(j+1)) ⟨x0,x1,x2,x3,x4⟩) (j:=(a+j)) (r:=0) (el:=⟨x0,x1,x2,x3,x4⟩) (el':=⟨y0,y1,y2,y3,y4⟩) D fE D D D D fT D (by rw [List.getElem?_set_ne G];exact hx) (by rw [List.length_set];exact hwl) bD D D ?_
   refine bH (nw 18 262143 (fun _ _=>bB) fun z=>gY (bK (bG (bM (bS D (W (ov_sub D D G G) D (bO 36 (v':=I ((a+j))) D (fX9 G) (cG D (bH ?_)))))))))
   have hcm:((pre++(m++post)).set (a+(j+1)) ⟨x0,x1,x2,x3,x4⟩).set (a+j) ⟨y0,y1,y2,y3,y4⟩=((pre++(m++post)).set (a+j) ⟨y0,y1,y2,y3,y4⟩).set (a+(j+1)) ⟨x0,x1,x2,x3,x4⟩:=List.set_comm _ _ G
   rw [hcm]
   have hnew:((pre++(m++post)).set (a+j) ⟨y0,y1,y2,y3,y4⟩).set (a+(j+1)) ⟨x0,x1,x2,x3,x4⟩=pre++(((m.set (j+1) ⟨x0,x1,x2,x3,x4⟩).set j ⟨y0,y1,y2,y3,y4⟩)++post):=by rw [bT9 hpre G,bT9 hpre (by rw [List.length_set];omega),List.set_comm _ _ G]
   rw [hnew]
   exact cQ (j,((m.set (j+1) ⟨x0,x1,x2,x3,x4⟩).set j ⟨y0,y1,y2,y3,y4⟩)) ⟨bE,by simp [nR],hS2⟩ bE ⟨D,D,D,D,D,D,bB⟩ (fun _ hm=>hm.pick [] [] [] D D)
  refine dD (bI (bI (bY (bK (bG (bM ?_))))))
  have hlt2:eJ ⟨y0,y1,y2,y3,y4⟩ ⟨x0,x1,x2,x3,x4⟩=false:=decide_eq_false (show ¬mL ⟨y0,y1,y2,y3,y4⟩ ⟨x0,x1,x2,x3,x4⟩ < 0 from hlt)
  have hS2:=(bD0 hym hxm hlt2).symm.trans hS1
  refine bS D (fY D D (cG D (bH ?_)))
  have hm2:m=S:=hS2
  exact cQ (i+1,m) ⟨⟨bE,bE⟩,by rw [hm2];exact hSl,by rw [hm2];exact hRi⟩ bE ⟨D,D,D,D,(cP bE),bB⟩ (fun _ hm=>hm.pick [] [] [] D D)
 refine dD (bI (bI (bY ?_)))
 obtain rfl:l=R:=by rw [<-hR1,show q - i=0 by omega];rfl
 refine jF D fun wx hm=>?_
 exact ⟨D,kS hm.k hm.g⟩
theorem eG7(fx:FuncId)(hF:cT2 fx)(l0:List Ev)(br n eX base:Nat)(w:World)(h:w.ownsRow base 181 5 (H (some ⟨br,0,none⟩) n eX) n (l0.flatMap eF))(rN:l0.length=n)(hn:n<=1000000)(hn2:n=20):
 Calls prog 142 #[H (some ⟨br,0,none⟩) n eX,I n,.func (.func fx) #[] #[]] w (fun e w'=>e=.returned (.tuple #[])/\w'.ownsRow base 181 5 (H (some ⟨br,0,none⟩) n eX) n ((dY eJ l0).flatMap eF)/\w.grownBy w' (some br)):=by
 refine cY ⟨63,w,(some br), []⟩ func142 D ntmps142 D (bX0 (X:= []) h cZ dA) (bX ?_)
 have ht20:(l0.take 20).length=20:=by rw [List.length_take];omega
 have hd20:(l0.drop 20).length=n - 20:=by rw [List.length_drop];omega
 have hi20:(dY eJ (l0.take 20)).length=20:=by rw [vF];exact ht20
 have hid:(dY eJ (l0.drop 20)).length=n - 20:=by rw [vF];exact hd20
 have hk0:∀wx,(gA base 181 5 n eX br ((l0).flatMap eF)) wx->(gA base 181 5 n eX br ((([]++(l0.take 20++l0.drop 20))).flatMap eF)) wx:=fun wx hk=>by rw [List.nil_append,List.take_append_drop];exact hk
 refine cG D (bU (bX (bS D (cG D (cG D (bU (bJ (bP (fF 3 (eK (bJ (bX (bS D (bS D (W (mJ D D) D (bU (kR 13 (v':= .bool true) D (fW9 (decide_eq_true G)) (mT D (bN (bG (bP (bX (bS D (bS D (bS D (bS D ?_))))))))))))))))))))))))))
 refine kW (xs':=((dY eJ (l0.take 20))++(l0.drop 20)).flatMap eF) D D D bS4 D D (fun wx hm=>(by have h:=zL fx hF [] (l0.take 20) (l0.drop 20) br n eX base 0 20 wx (hk0 wx hm.k) rfl (by rw [ht20]) (by rw [hd20];omega) G;rw [List.nil_append] at h;exact h)) ?_
 refine bU (bX (bS D (cG D (bU (bM (bS D (bS D (fY D D (bO 22 (v':=J 40) D D (cG D (bH (bK (jL (eK (bJ (bX (bS D (bS D (W (mJ D D) D (bU (kR 13 (v':= .bool false) D (fW9 (decide_eq_false G)) (jK D (dD (bI (bI (bY ?_))))))))))))))))))))))))))
 refine bG (bX (bS D (bS D (bS D (bS D ?_)))))
 refine kW (xs':=((dY eJ (l0.take 20))++dY eJ (l0.drop 20)).flatMap eF) D D D bS4 D D (fun wx hm=>(by have h:=zL fx hF (dY eJ (l0.take 20)) (l0.drop 20) [] br n eX base 20 n wx ((by rw [List.append_nil];exact hm.k)) hi20 (by rw [hd20];omega) (by rw [List.length_nil];omega) G;rw [List.append_nil] at h;exact h)) ?_
 refine bU (bP (fF 3 (eK (bJ (bX (bS D (bS D (W (dF D D) D (bU (kR 30 (v':= .bool false) D (fW9 (decide_eq_false G)) (jK D (dD (bI (bI (bY ?_)))))))))))))))
 have hf:(dY eJ (l0.take 20))++dY eJ (l0.drop 20)=dY eJ l0:=by rw [List.take_of_length_le G,List.drop_of_length_le G,show dY eJ ([]:List Ev)= [] from rfl,List.append_nil]
 refine jF D fun wx hm=>?_
 rw [<-hf]
 exact ⟨D,kS hm.k hm.g⟩
theorem eI7(fx:FuncId)(hF:cT2 fx)(l0:List Ev)(br n eX base:Nat)(w:World)(h:w.ownsRow base 181 5 (H (some ⟨br,0,none⟩) n eX) n (l0.flatMap eF))(rN:l0.length=n)(hn:n<=1000000)(hn2:20 < n/\n < 40)(ht:cB8 l0):
 Calls prog 142 #[H (some ⟨br,0,none⟩) n eX,I n,.func (.func fx) #[] #[]] w (fun e w'=>e=.returned (.tuple #[])/\w'.ownsRow base 181 5 (H (some ⟨br,0,none⟩) n eX) n ((dY eJ l0).flatMap eF)/\w.grownBy w' (some br)):=by
 refine cY ⟨63,w,(some br), []⟩ func142 D ntmps142 D (bX0 (X:= []) h cZ dA) (bX ?_)
 have ht20:(l0.take 20).length=20:=by rw [List.length_take];omega
 have hd20:(l0.drop 20).length=n - 20:=by rw [List.length_drop];omega
 have hi20:(dY eJ (l0.take 20)).length=20:=by rw [vF];exact ht20
 have hid:(dY eJ (l0.drop 20)).length=n - 20:=by rw [vF];exact hd20
 have hk0:∀wx,(gA base 181 5 n eX br ((l0).flatMap eF)) wx->(gA base 181 5 n eX br ((([]++(l0.take 20++l0.drop 20))).flatMap eF)) wx:=fun wx hk=>by rw [List.nil_append,List.take_append_drop];exact hk
 refine cG D (bU (bX (bS D (cG D (cG D (bU (bJ (bP (fF 3 (eK (bJ (bX (bS D (bS D (W (mJ D D) D (bU (kR 13 (v':= .bool true) D (fW9 (decide_eq_true G)) (mT D (bN (bG (bP (bX (bS D (bS D (bS D (bS D ?_))))))))))))))))))))))))))
 refine kW (xs':=((dY eJ (l0.take 20))++(l0.drop 20)).flatMap eF) D D D bS4 D D (fun wx hm=>(by have h:=zL fx hF [] (l0.take 20) (l0.drop 20) br n eX base 0 20 wx (hk0 wx hm.k) rfl (by rw [ht20]) (by rw [hd20];omega) G;rw [List.nil_append] at h;exact h)) ?_
 refine bU (bX (bS D (cG D (bU (bM (bS D (bS D (fY D D (bO 22 (v':=J 40) D D (cG D (bH (bK (jL (eK (bJ (bX (bS D (bS D (W (mJ D D) D (bU (kR 13 (v':= .bool false) D (fW9 (decide_eq_false G)) (jK D (dD (bI (bI (bY ?_))))))))))))))))))))))))))
 refine bG (bX (bS D (bS D (bS D (bS D ?_)))))
 refine kW (xs':=((dY eJ (l0.take 20))++dY eJ (l0.drop 20)).flatMap eF) D D D bS4 D D (fun wx hm=>(by have h:=zL fx hF (dY eJ (l0.take 20)) (l0.drop 20) [] br n eX base 20 n wx ((by rw [List.append_nil];exact hm.k)) hi20 (by rw [hd20];omega) (by rw [List.length_nil];omega) G;rw [List.append_nil] at h;exact h)) ?_
 refine bU (bP (fF 3 (eK (bJ (bX (bS D (bS D (W (dF D D) D (bU (kR 30 (v':= .bool true) D (fW9 (decide_eq_true G)) (mT D (bN (bG (bP (bX (bS D (W (ov_mul D D G G) D (bO 32 (v':=J 40) D D (cG D (cG D (bU (bJ (bP (fF 3 (eK ?_)))))))))))))))))))))))))
 refine bJ (bX (bS D (bS D (W (mJ D D) D (bU (kR 35 (v':= .bool false) D (fW9 (decide_eq_false G)) (jK D (dD (bI (bI (bY (bG (bJ (bX (bS D (bS D (fY D D (bO 51 (v':=J 20) D D (cG D (bU (bX (bS D (bS D (W (dF D D) D (bU (kR 54 (v':= .bool true) D (fW9 (decide_eq_true G)) ?_))))))))))))))))))))))))))
 refine mT D (bM (bS D (bS D (bS D (bS D (bS D ?_))))))
 have hL2:((dY eJ (l0.take 20))++dY eJ (l0.drop 20)).length=n:=by rw [List.length_append,hi20,hid];omega
 have hA:eY ((dY eJ (l0.take 20))++dY eJ (l0.drop 20)) 0 20=(dY eJ (l0.take 20)):=by unfold eY;rw [List.drop_zero,List.take_append_of_le_length G,List.take_of_length_le G]
 have hB:eY ((dY eJ (l0.take 20))++dY eJ (l0.drop 20)) 20 n=dY eJ (l0.drop 20):=by unfold eY;rw [List.take_of_length_le G,List.drop_append_of_le_length G,List.drop_of_length_le G,List.nil_append]
 refine fW (γ:=List Ev) (val:=fun _=> .tuple #[]) (φ:=fun R=>yE eJ ((dY eJ (l0.take 20))++dY eJ (l0.drop 20)) R 0 n) (K':=fun R=>gA base 181 5 n eX br ((R).flatMap eF)) (L':=fun _=> []) (O':=fun _=> []) (X':=fun _=> []) D dT4 D D (fun wx hm=>(eQ3 fx hF br n eX base _ 0 20 n D ((dY eJ (l0.take 20))++dY eJ (l0.drop 20)) wx hm.k hL2 hn G G G (by rw [hA];exact wJ _) (by rw [show eY ((dY eJ (l0.take 20))++dY eJ (l0.drop 20)) 20 n=dY eJ (l0.drop 20) from hB];exact wJ _)).mono fun _ _ ⟨R_,h1,he,ho,hg⟩=>⟨R_,he,h1,hm.turned D D ho hg⟩) ?_
 intro R hR
 refine bU (bM (bS D (W (ov_mul D D G G) D (bO 62 (v':=J 40) D D (cG D (bH (bK (jL (eK (bJ (bX (bS D (bS D (W (dF D D) D (bU (kR 30 (v':= .bool false) D (fW9 (decide_eq_false G)) (jK D (dD (bI (bI (bY ?_)))))))))))))))))))))
 have hR0:R.length=n:=by rw [hR.len];exact hL2
 have hRp:eY R 0 n=R:=by unfold eY;rw [List.drop_zero,List.take_of_length_le G]
 have hLp:eY ((dY eJ (l0.take 20))++dY eJ (l0.drop 20)) 0 n=(dY eJ (l0.take 20))++dY eJ (l0.drop 20):=by unfold eY;rw [List.drop_zero,List.take_of_length_le G]
 have hs:=hR.srt
 have hpm:=hR.perm
 rw [hRp] at hs hpm
 rw [hLp] at hpm
 have hp0:((dY eJ (l0.take 20))++dY eJ (l0.drop 20)).Perm l0:=by
  have h5:=(nO eJ (l0.take 20)).append (nO eJ (l0.drop 20))
  rw [List.take_append_drop] at h5
  exact h5
 have hp1:R.Perm l0:=hpm.trans hp0
 have hf:R=dY eJ l0:=dW3 hs (wJ l0) (hp1.trans (nO eJ l0).symm) fun x hx y hy=>ht x (hp1.mem_iff.1 hx) y (hp1.mem_iff.1 hy)
 refine jF D fun wx hm=>?_
 rw [<-hf]
 exact ⟨D,kS hm.k hm.g⟩
theorem eJ7(fx:FuncId)(hF:cT2 fx)(l0:List Ev)(br n eX base:Nat)(w:World)(h:w.ownsRow base 181 5 (H (some ⟨br,0,none⟩) n eX) n (l0.flatMap eF))(rN:l0.length=n)(hn:n<=1000000)(hn2:n=40)(ht:cB8 l0):
 Calls prog 142 #[H (some ⟨br,0,none⟩) n eX,I n,.func (.func fx) #[] #[]] w (fun e w'=>e=.returned (.tuple #[])/\w'.ownsRow base 181 5 (H (some ⟨br,0,none⟩) n eX) n ((dY eJ l0).flatMap eF)/\w.grownBy w' (some br)):=by
 refine cY ⟨63,w,(some br), []⟩ func142 D ntmps142 D (bX0 (X:= []) h cZ dA) (bX ?_)
 have ht20:(l0.take 20).length=20:=by rw [List.length_take];omega
 have hd20:(l0.drop 20).length=n - 20:=by rw [List.length_drop];omega
 have hi20:(dY eJ (l0.take 20)).length=20:=by rw [vF];exact ht20
 have hid:(dY eJ (l0.drop 20)).length=n - 20:=by rw [vF];exact hd20
 have hk0:∀wx,(gA base 181 5 n eX br ((l0).flatMap eF)) wx->(gA base 181 5 n eX br ((([]++(l0.take 20++l0.drop 20))).flatMap eF)) wx:=fun wx hk=>by rw [List.nil_append,List.take_append_drop];exact hk
 refine cG D (bU (bX (bS D (cG D (cG D (bU (bJ (bP (fF 3 (eK (bJ (bX (bS D (bS D (W (mJ D D) D (bU (kR 13 (v':= .bool true) D (fW9 (decide_eq_true G)) (mT D (bN (bG (bP (bX (bS D (bS D (bS D (bS D ?_))))))))))))))))))))))))))
 refine kW (xs':=((dY eJ (l0.take 20))++(l0.drop 20)).flatMap eF) D D D bS4 D D (fun wx hm=>(by have h:=zL fx hF [] (l0.take 20) (l0.drop 20) br n eX base 0 20 wx (hk0 wx hm.k) rfl (by rw [ht20]) (by rw [hd20];omega) G;rw [List.nil_append] at h;exact h)) ?_
 refine bU (bX (bS D (cG D (bU (bM (bS D (bS D (fY D D (bO 22 (v':=J 40) D D (cG D (bH (bK (jL (eK (bJ (bX (bS D (bS D (W (mJ D D) D (bU (kR 13 (v':= .bool true) D (fW9 (decide_eq_true G)) ?_)))))))))))))))))))))
 refine mT D (bN (bG (bP (bX (bS D (bS D (bS D (bS D ?_))))))))
 refine kW (xs':=((dY eJ (l0.take 20))++dY eJ (l0.drop 20)).flatMap eF) D D D bS4 D D (fun wx hm=>(by have h:=zL fx hF (dY eJ (l0.take 20)) (l0.drop 20) [] br n eX base 20 40 wx ((by rw [List.append_nil];exact hm.k)) hi20 (by rw [hd20];omega) (by rw [List.length_nil];omega) G;rw [List.append_nil] at h;exact h)) ?_
 refine bU (bX (bS D (cG D (bU (bM (bS D (bS D (fY D D (bO 22 (v':=J 60) D D (cG D (bH (bK (jL (eK (bJ (bX (bS D (bS D (W (mJ D D) D (bU (kR 13 (v':= .bool false) D (fW9 (decide_eq_false G)) (jK D (dD (bI (bI (bY ?_))))))))))))))))))))))))))
 refine bG (bX (bS D (bS D (bS D (bS D ?_)))))
 refine kW (xs':=((dY eJ (l0.take 20))++dY eJ (l0.drop 20)).flatMap eF) D D D bS4 D D (fun wx hm=>(by have h:=zL fx hF ((dY eJ (l0.take 20))++dY eJ (l0.drop 20)) [] [] br n eX base 40 n wx ((by rw [List.append_nil,List.append_nil];exact hm.k)) (by rw [List.length_append,hi20,hid];omega) (by rw [List.length_nil];omega) (by rw [List.length_nil];omega) G;rw [show ((dY eJ (l0.take 20))++dY eJ (l0.drop 20))++(dY eJ []++ [])=(dY eJ (l0.take 20))++dY eJ (l0.drop 20) from by rw [show dY eJ ([]:List Ev)= [] from rfl,List.append_nil,List.append_nil]] at h;exact h)) ?_
 refine bU (bP (fF 3 (eK (bJ (bX (bS D (bS D (W (dF D D) D (bU (kR 30 (v':= .bool true) D (fW9 (decide_eq_true G)) (mT D (bN (bG (bP (bX (bS D (W (ov_mul D D G G) D (bO 32 (v':=J 40) D D (cG D (cG D (bU (bJ (bP (fF 3 (eK ?_)))))))))))))))))))))))))
 refine bJ (bX (bS D (bS D (W (mJ D D) D (bU (kR 35 (v':= .bool true) D (fW9 (decide_eq_true G)) (mT D (bN (bG (bP (bX (bS D (bS D (bS D (bS D (fY D D (bO 40 (v':=J 20) D D (bS D (bS D ?_)))))))))))))))))))
 have hL2:((dY eJ (l0.take 20))++dY eJ (l0.drop 20)).length=n:=by rw [List.length_append,hi20,hid];omega
 have hA:eY ((dY eJ (l0.take 20))++dY eJ (l0.drop 20)) 0 20=(dY eJ (l0.take 20)):=by unfold eY;rw [List.drop_zero,List.take_append_of_le_length G,List.take_of_length_le G]
 have hB:eY ((dY eJ (l0.take 20))++dY eJ (l0.drop 20)) 20 n=dY eJ (l0.drop 20):=by unfold eY;rw [List.take_of_length_le G,List.drop_append_of_le_length G,List.drop_of_length_le G,List.nil_append]
 refine fW (γ:=List Ev) (val:=fun _=> .tuple #[]) (φ:=fun R=>yE eJ ((dY eJ (l0.take 20))++dY eJ (l0.drop 20)) R 0 40) (K':=fun R=>gA base 181 5 n eX br ((R).flatMap eF)) (L':=fun _=> []) (O':=fun _=> []) (X':=fun _=> []) D dT4 D D (fun wx hm=>(eQ3 fx hF br n eX base _ 0 20 40 D ((dY eJ (l0.take 20))++dY eJ (l0.drop 20)) wx hm.k hL2 hn G G G (by rw [hA];exact wJ _) (by rw [show eY ((dY eJ (l0.take 20))++dY eJ (l0.drop 20)) 20 40=dY eJ (l0.drop 20) from (by have h9:=hB;rw [hn2] at h9;exact h9)];exact wJ _)).mono fun _ _ ⟨R_,h1,he,ho,hg⟩=>⟨R_,he,h1,hm.turned D D ho hg⟩) ?_
 intro R hR
 refine bU (bX (bS D (cG D (bU (bM (bS D (bS D (W (ov_mul D D G G) D (bO 47 (v':=J 40) D D (fY D D (bO 48 (v':=J 80) D D (cG D (bH (bK (jL (eK (bJ (bX (bS D (bS D (W (mJ D D) D (bU (kR 35 (v':= .bool false) D (fW9 (decide_eq_false G)) (jK D (dD (bI (bI (bY ?_))))))))))))))))))))))))))))
 refine bG (bJ (bX (bS D (bS D (fY D D (bO 51 (v':=J 60) D D (cG D (bU (bX (bS D (bS D (W (dF D D) D (bU (kR 54 (v':= .bool false) D (fW9 (decide_eq_false G)) (jK D (bN (bG (bM (bS D (W (ov_mul D D G G) D (bO 62 (v':=J 40) D D (cG D (bH (bK (jL (eK ?_))))))))))))))))))))))))))
 refine bJ (bX (bS D (bS D (W (dF D D) D (bU (kR 30 (v':= .bool false) D (fW9 (decide_eq_false G)) (jK D (dD (bI (bI (bY ?_)))))))))))
 have hR0:R.length=n:=by rw [hR.len];exact hL2
 have hRp:eY R 0 40=R:=by unfold eY;rw [List.drop_zero,List.take_of_length_le G]
 have hLp:eY ((dY eJ (l0.take 20))++dY eJ (l0.drop 20)) 0 40=(dY eJ (l0.take 20))++dY eJ (l0.drop 20):=by unfold eY;rw [List.drop_zero,List.take_of_length_le G]
 have hs:=hR.srt
 have hpm:=hR.perm
 rw [hRp] at hs hpm
 rw [hLp] at hpm
 have hp0:((dY eJ (l0.take 20))++dY eJ (l0.drop 20)).Perm l0:=by
  have h5:=(nO eJ (l0.take 20)).append (nO eJ (l0.drop 20))
  rw [List.take_append_drop] at h5
  exact h5
 have hp1:R.Perm l0:=hpm.trans hp0
 have hf:R=dY eJ l0:=dW3 hs (wJ l0) (hp1.trans (nO eJ l0).symm) fun x hx y hy=>ht x (hp1.mem_iff.1 hx) y (hp1.mem_iff.1 hy)
 refine jF D fun wx hm=>?_
 rw [<-hf]
 exact ⟨D,kS hm.k hm.g⟩
theorem dQ0(fx:FuncId)(hF:cT2 fx)(l0:List Ev)(br n eX base:Nat)(w:World)(h:w.ownsRow base 181 5 (H (some ⟨br,0,none⟩) n eX) n (l0.flatMap eF))(rN:l0.length=n)(hn:n<=40)(ht:20<=n->cB8 l0):
 Calls prog 99 #[H (some ⟨br,0,none⟩) n eX,.func (.func fx) #[] #[]] w (fun e w'=>e=.returned (.tuple #[])/\w'.ownsRow base 181 5 (H (some ⟨br,0,none⟩) n eX) n ((dY eJ l0).flatMap eF)/\w.grownBy w' (some br)):=by
 refine cY ⟨9,w,(some br), []⟩ func99 D ntmps99 D (bX0 (X:= []) h cZ dA) (bM (bS D (bS D (W (dP mC D) D (bS D ?_)))))
 refine kW D D D eR8 D D (fun wx hm=>(by
  rcases (show n<=19∨n=20∨(20 < n/\n < 40)∨n=40 by omega) with h9|h9|h9|h9
  ·exact fX1 fx hF l0 br n eX base wx hm.k rN h9
  ·exact eG7 fx hF l0 br n eX base wx hm.k rN G h9
  ·exact eI7 fx hF l0 br n eX base wx hm.k rN G h9 (ht G)
  exact eJ7 fx hF l0 br n eX base wx hm.k rN G h9 (ht G))) ?_
 refine bH ?_
 refine jF D fun wx hm=>?_
 exact ⟨D,kS hm.k hm.g⟩
theorem eQ6:cT2 100:=⟨fG3,dW7⟩
structure Ny where
 at_:Int
 dk:M
 no:Int
 ws:M
def fJ(x:Ny):List Value:= [J x.at_,U x.dk,J x.no,U x.ws]
theorem wX(x:Ny):(fJ x).length=4:=rfl
def dN6(x:Ny):Prop:=(-4000000000000000000<=x.at_/\x.at_<=4000000000000000000)/\x.ws.size<=1000
noncomputable def xD(l:List Vh):M->Option M:=l.foldl (fun f v=>gZ f v.key v.cls) pD
noncomputable def yP(l:List St):M->Option Bool:=l.foldl (fun f v=>gZ f v.key true) pD
theorem eU7{l:List Vh}{i:Nat}{x:Vh}(h:l[i]?=some x):gZ (xD (l.take i)) x.key x.cls=xD (l.take (i+1)):=by
 unfold xD
 rw [List.take_add_one,h,Option.toList_some,List.foldl_append];rfl
theorem eB7{l:List St}{i:Nat}{x:St}(h:l[i]?=some x):gZ (yP (l.take i)) x.key true=yP (l.take (i+1)):=by
 unfold yP
 rw [List.take_add_one,h,Option.toList_some,List.foldl_append];rfl
inductive rW (V:M->Option M) (T:M->Option Bool) (ck:Bk->Prop):List Int->Os->Prop
 |nil:rW V T ck [] os0
 |snoc (l:List Int) (a:Int) (σ τ:Os):rW V T ck l σ->mK V T ck a σ τ->rW V T ck (l++ [a]) τ
theorem rW.next{V:M->Option M}{T:M->Option Bool}{ck:Bk->Prop}{l:List Ny}{i:Nat}{x:Ny}{σ τ:Os}(h:rW V T ck ((l.take i).map Ny.at_) σ)(hx:l[i]?=some x)(hs:mK V T ck x.at_ σ τ):rW V T ck ((l.take (i+1)).map Ny.at_) τ:=by
 rw [List.take_add_one,hx,Option.toList_some,List.map_append]
 exact .snoc _ _ _ _ h hs
structure wM (σ:Os):Prop where
 on:∀x∈σ.lg,(σ.fa (x.veh,x.at_)).getD false=true
 one:∀x∈σ.lg,∀y∈σ.lg,x.at_=y.at_->x.veh=y.veh->x=y
theorem wM.say{σ:Os}{x:Ev}(h:wM σ)(hc:(σ.fa (x.veh,x.at_)).getD false=false):wM (jD σ x):=by
 refine ⟨fun y hy=>?_,fun y hy z hz e1 e2=>?_⟩
 ·show ((gZ σ.fa (x.veh,x.at_) true) (y.veh,y.at_)).getD false=true
  by_cases e:(y.veh,y.at_)=(x.veh,x.at_)
  ·rw [e,mI];rfl
  ·rw [dN _ _ e]
   rcases List.mem_append.1 hy with hy|hy
   ·exact h.on y hy
   ·rw [List.mem_singleton.1 hy] at e;exact absurd rfl e
 ·rcases List.mem_append.1 hy with hy|hy <;> rcases List.mem_append.1 hz with hz|hz
  ·exact h.one y hy z hz e1 e2
  ·rw [List.mem_singleton.1 hz] at e1 e2
   have:=h.on y hy
   rw [e1,e2,hc] at this;cases this
  ·rw [List.mem_singleton.1 hy] at e1 e2
   have:=h.on z hz
   rw [<-e1,<-e2,hc] at this;cases this
  ·rw [List.mem_singleton.1 hy,List.mem_singleton.1 hz]
theorem wM.same{σ τ:Os}(h:wM σ)(h1:τ.lg=σ.lg)(h2:τ.fa=σ.fa):wM τ:=⟨by rw [h1,h2];exact h.on,by rw [h1];exact h.one⟩
theorem mK.keys{V:M->Option M}{T:M->Option Bool}{ck:Bk->Prop}{a:Int}{σ τ:Os}(h:mK V T ck a σ τ)(hk:wM σ):wM τ:=by
 cases h with
 |same=>exact hk
 |ev x _ _ _ _ _ _ _ hc=>exact hk.say hc.1
 |book b=>exact hk.same rfl rfl
 |cancel k=>exact hk.same rfl rfl
 |start h v r _ _ _ _ _ _ _ hc=>exact (hk.say hc.1).same rfl rfl
 |extend k h h'=>exact hk.same rfl rfl
 |close k h h' g r _ _ _ _ _ _ _ _ _ hc=>exact (hk.say hc.1).same rfl rfl
 |swap k h h' g r q v _ _ _ _ _ _ _ _ _ _ _ _ hc1 hc2=>
  have hne:v≠g.veh:=fun e=>by
   have h1:=hc1.2
   have h2:=hc2.2
   unfold kB gV at h1
   unfold kB kJ at h2
   rw [e] at h2
   simp at h1 h2
   omega
  refine ((hk.say hc1.1).say ?_).same D D
  show ((gZ σ.fa (g.veh,a) true) (v,a)).getD false=false
  rw [dN _ _ (fun e=>hne (congrArg Prod.fst e))]
  exact hc2.1
theorem rW.facts{V:M->Option M}{T:M->Option Bool}{ck:Bk->Prop}{l:List Int}{σ:Os}(h:rW V T ck l σ):cA8 σ/\wM σ/\σ.lg.length<=2 *l.length:=by
 induction h with
 |nil=>exact ⟨fI1,⟨(fun _ h=>by cases h),(fun _ h=>by cases h)⟩,Nat.le_refl _⟩
 |snoc l a σ τ _ h2 ih=>
  refine ⟨h2.ok ih.1,h2.keys ih.2.1,?_⟩
  have:=h2.len
  rw [List.length_append,List.length_singleton]
  omega
theorem rW.keysB{V:M->Option M}{T:M->Option Bool}{ck:Bk->Prop}{l:List Int}{σ:Os}(h:rW V T ck l σ):∃KL:List M,(∀k v,σ.fb k=some v->k∈KL)/\KL.length<=l.length:=by
 induction h with
 |nil=>exact ⟨[],(fun _ _ h=>by cases h),Nat.le_refl _⟩
 |snoc l a σ τ _ h2 ih=>
  obtain ⟨KL,h3,h4⟩:=ih
  have keep:(∀k v,τ.fb k=some v->σ.fb k=some v)->∃KL:List M,(∀k v,τ.fb k=some v->k∈KL)/\KL.length<=(l++ [a]).length:=fun h=>⟨KL,fun k v hv=>h3 k v (h k v hv),by rw [List.length_append];omega⟩
  cases h2 with
  |same=>exact keep fun _ _ h=>h
  |ev=>exact keep fun _ _ h=>h
  |book b=>exact ⟨b.key::KL,fun k v hv=>by
   rcases fI hv with ⟨e,_⟩|hv
   ·rw [e];exact List.mem_cons_self ..
   ·exact List.mem_cons_of_mem _ (h3 k v hv),by rw [List.length_append,List.length_cons,List.length_singleton];omega⟩
  |cancel k0=>exact keep fun _ _ h=>(zQ h).2
  |start=>exact keep fun _ _ h=>(zQ h).2
  |extend=>exact keep fun _ _ h=>h
  |close=>exact keep fun _ _ h=>h
  |swap=>exact keep fun _ _ h=>h
theorem rW.keysH{V:M->Option M}{T:M->Option Bool}{ck:Bk->Prop}{l:List Int}{σ:Os}(h:rW V T ck l σ):∃KL:List M,(∀k v,σ.fh k=some v->k∈KL)/\KL.length<=l.length:=by
 induction h with
 |nil=>exact ⟨[],(fun _ _ h=>by cases h),Nat.le_refl _⟩
 |snoc l a σ τ _ h2 ih=>
  obtain ⟨KL,h3,h4⟩:=ih
  have keep:(∀k v,τ.fh k=some v->(σ.fh k).isSome=true)->∃KL:List M,(∀k v,τ.fh k=some v->k∈KL)/\KL.length<=(l++ [a]).length:=fun h=>⟨KL,fun k v hv=>by
   obtain ⟨v2,xK⟩:=Option.isSome_iff_exists.1 (h k v hv)
   exact h3 k v2 xK,by rw [List.length_append];omega⟩
  have old:∀{k0:M} {h0 h':Hg},σ.fh k0=some h0->∀k v,gZ σ.fh k0 h' k=some v->(σ.fh k).isSome=true:=fun he k v hv=>by
   rcases fI hv with ⟨e,_⟩|hv
   ·rw [e,he];rfl
   ·rw [hv];rfl
  cases h2 with
  |same=>exact keep fun _ _ h=>by rw [h];rfl
  |ev=>exact keep fun k v h=>by rw [show σ.fh k=some v from h];rfl
  |book b=>exact keep fun k v h=>by rw [show σ.fh k=some v from h];rfl
  |cancel k0=>exact keep fun k v h=>by rw [show σ.fh k=some v from h];rfl
  |start h v r=>exact ⟨h.key::KL,fun k v hv=>by
   rcases fI hv with ⟨e,_⟩|hv
   ·rw [e];exact List.mem_cons_self ..
   ·exact List.mem_cons_of_mem _ (h3 k v hv),by rw [List.length_append,List.length_cons,List.length_singleton];omega⟩
  |extend k h h' he=>exact keep (old he)
  |close k h h' g r he=>exact keep (old he)
  |swap k h h' g r q v he=>exact keep (old he)
noncomputable def cW1(V:M->Option M)(T:M->Option Bool)(cl:List Cs)(l:List Ny):As:=l.foldl (fun s x=>mN V T cl x.at_ x.ws s) as0
theorem dZ5{V:M->Option M}{T:M->Option Bool}{cl:List Cs}{l:List Ny}{i:Nat}{x:Ny}(h:l[i]?=some x):cW1 V T cl (l.take (i+1))=mN V T cl x.at_ x.ws (cW1 V T cl (l.take i)):=by
 unfold cW1
 rw [List.take_add_one,h,Option.toList_some,List.foldl_append];rfl
theorem rW.fewB{V:M->Option M}{T:M->Option Bool}{ck:Bk->Prop}{l:List Int}{σ:Os}(h:rW V T ck l σ)(hl:l.length<=499):Few σ.fb 499:=by
 obtain ⟨KL,h1,h2⟩:=h.keysB
 exact ⟨KL,h1,G⟩
theorem rW.fewH{V:M->Option M}{T:M->Option Bool}{ck:Bk->Prop}{l:List Int}{σ:Os}(h:rW V T ck l σ)(hl:l.length<=499):Few σ.fh 499:=by
 obtain ⟨KL,h1,h2⟩:=h.keysH
 exact ⟨KL,h1,G⟩
theorem wM.tie{σ:Os}(h:wM σ):cB8 σ.lg:=fun x hx y hy e=>by
 obtain ⟨h1,h2⟩:=bU3.1 e
 exact h.one x hx y hy h1 h2
theorem nd7{a b c d e f g:Nat}(h1:a≠b)(h2:a≠c)(h3:a≠d)(h4:a≠e)(h5:a≠f)(h6:a≠g)(h7:b≠c)(h8:b≠d)(h9:b≠e)(k1:b≠f)(k2:b≠g)(k3:c≠d)(k4:c≠e)(k5:c≠f)(k6:c≠g)(k7:d≠e)(k8:d≠f)(k9:d≠g)(m1:e≠f)(m2:e≠g)(m3:f≠g): [a,b,c,d,e,f,g].Nodup:=by
 simp [List.nodup_cons,h1,h2,h3,h4,h5,h6,h7,h8,h9,k1,k2,k3,k4,k5,k6,k7,k8,k9,m1,m2,m3]
theorem dC8{w:World}{base e sz n:Nat}{v:Value}{xs:List Value}(h:w.ownsRow base e sz v n xs):(v=H none 0 0/\n=0)∨∃br cc,v=H (some ⟨br,0,none⟩) n cc:=by
 obtain ⟨_,h2⟩:=h
 rcases h2 with ⟨h2,h3⟩|⟨g',cap',uY,hv,_⟩
 ·exact .inl ⟨h2,h3⟩
 ·exact .inr ⟨g',cap',hv⟩
theorem cG7(w0:World)(sA cA vA eA:Option Addr)(sn sc cn cc vn vc en ec:Nat)(u3 u4 u5 u6 u7 u8 u9 jR jS jT jU jV jW:Value)(sl:List St)(cl:List Cs)(vl:List Vh)(el:List Ny)(hs:SlT stEnc 15 74 w0 sA sn sl)(hc:SlT dQ 2 53 w0 cA cn cl)(hv:SlT kG 2 55 w0 vA vn vl)(he:SlT fJ 4 128 w0 eA en el)(ht:rP w0)(bA4:∀x∈sl,StOk x)(pI:∀x∈cl,pR x)(yC:cn<=1000)(cW6:∀x∈el,dN6 x)(hen:en<=20)(hsn:sn<=1000000)(hvn:vn<=1000000):
 Calls prog 56 #[.agg #[H sA sn sc,H cA cn cc,H vA vn vc,u3,u4,u5,u6,u7,u8,u9,jR,jS,jT,jU,jV,jW],H eA en ec] w0 (fun e w'=>∃go gv gs gI gF gG gJ gO lv rv rn rx σ fp,e=.returned (.pointer (some ⟨go,0,none⟩))/\(rW (xD vl) (yP sl) (fun b=>gC cl [b]=0) (el.map Ny.at_) σ/\gR σ=cW1 (xD vl) (yP sl) cl el)/\gB ⟨0,w0,none, [269,9,3]⟩ (fun _=>True) [(go,98, [H sA sn sc,H cA cn cc,H vA vn vc,u3,u4,u5,u6,u7,u8,u9,jR,jS,jT,jU,jV,jW,.map (some gv),.map (some gs),.map (some gI),lv,.map (some gF),.map (some gG),.map (some gJ),.map (some gO),rv])] [⟨lv,181,5,σ.lg.length,(dY eJ σ.lg).flatMap eF⟩,⟨rv,178,2,rn,rx⟩] [cB vS dT w0.heap.size gv ((xD vl)),cB vB dT w0.heap.size gs ((yP sl)),cB rJ dT w0.heap.size gI (σ.fs),cB vB nN w0.heap.size gF (σ.fa),cB pX dT w0.heap.size gG (σ.fb),cB pZ dT w0.heap.size gJ (σ.fh),cB vI dT w0.heap.size gO (fp),gX 269 σ.fh,bT dQ 2 53 w0.heap.size none cA cn cl,TxtO w0.heap.size none] w'):=by
 refine cY ⟨86,w0,none, [269,9,3]⟩ func56 D ntmps56 D (fZ (X:= [bT stEnc 15 74 w0.heap.size none sA sn sl,bT kG 2 55 w0.heap.size none vA vn vl,bT dQ 2 53 w0.heap.size none cA cn cl,bT fJ 4 128 w0.heap.size none eA en el,TxtO w0.heap.size none]) (cC hs.old (cC hv.old (cC hc.old (cC he.old (cC ht.old cZ))))) (cE bT.lasts (cE bT.lasts (cE bT.lasts (cE bT.lasts (cE TxtO.lasts dA)))))) (bX (fS D D D fun gH=>cG D (bU (bX (W (dG dK0 D (fun _ hm=>hm.blkI 0 D) D D) D (mH (enc:=vS) (ek:=dT) (fun g=>True) (fun _ hm=>bB) D fun gv hne_gv=>mH (enc:=vB) (ek:=dT) (fun g=>gv≠g/\True) (fun _ hm=>⟨Nat.ne_of_lt (cB.lt (hm.fact 0 D)),bB⟩) D fun gs hne_gs=>mH (enc:=rJ) (ek:=dT) (fun g=>gs≠g/\gv≠g/\True) (fun _ hm=>⟨Nat.ne_of_lt (cB.lt (hm.fact 0 D)),Nat.ne_of_lt (cB.lt (hm.fact 1 D)),bB⟩) D fun gI hne_gst=>mH (enc:=vB) (ek:=nN) (fun g=>gI≠g/\gs≠g/\gv≠g/\True) (fun _ hm=>⟨Nat.ne_of_lt (cB.lt (hm.fact 0 D)),Nat.ne_of_lt (cB.lt (hm.fact 1 D)),Nat.ne_of_lt (cB.lt (hm.fact 2 D)),bB⟩) D fun gF hne_gat=>mH (enc:=pX) (ek:=dT) (fun g=>gF≠g/\gI≠g/\gs≠g/\gv≠g/\True) (fun _ hm=>⟨Nat.ne_of_lt (cB.lt (hm.fact 0 D)),Nat.ne_of_lt (cB.lt (hm.fact 1 D)),Nat.ne_of_lt (cB.lt (hm.fact 2 D)),Nat.ne_of_lt (cB.lt (hm.fact 3 D)),bB⟩) D fun gG hne_gbk=>mH (enc:=pZ) (ek:=dT) (fun g=>gG≠g/\gF≠g/\gI≠g/\gs≠g/\gv≠g/\True) (fun _ hm=>⟨Nat.ne_of_lt (cB.lt (hm.fact 0 D)),Nat.ne_of_lt (cB.lt (hm.fact 1 D)),Nat.ne_of_lt (cB.lt (hm.fact 2 D)),Nat.ne_of_lt (cB.lt (hm.fact 3 D)),Nat.ne_of_lt (cB.lt (hm.fact 4 D)),bB⟩) D fun gJ hne_ghi=>mH (enc:=vI) (ek:=dT) (fun g=>gJ≠g/\gG≠g/\gF≠g/\gI≠g/\gs≠g/\gv≠g/\True) (fun _ hm=>⟨Nat.ne_of_lt (cB.lt (hm.fact 0 D)),Nat.ne_of_lt (cB.lt (hm.fact 1 D)),Nat.ne_of_lt (cB.lt (hm.fact 2 D)),Nat.ne_of_lt (cB.lt (hm.fact 3 D)),Nat.ne_of_lt (cB.lt (hm.fact 4 D)),Nat.ne_of_lt (cB.lt (hm.fact 5 D)),bB⟩) D fun gO hne_gpd=>W (dL (cs:= [H sA sn sc,H cA cn cc,H vA vn vc,u3,u4,u5,u6,u7,u8,u9,jR,jS,jT,jU,jV,jW,.map (some gv),.map (some gs),.map (some gI),H none 0 0,.map (some gF),.map (some gG),.map (some gJ),.map (some gO),H none 0 0]) D bC) D (fS D D D fun go=>cG D (bU (bJ (bX (dZ wS D D (dZ xU D D (eO bU7 1 D D D (W (dP cB9 D) D (bS D (bU (bP ?_)))))))))))))))))
 have hvl:=hv.len
 have hsl:=hs.len
 have hel:=he.len
 refine dS (γ:=Nat) (fun (i:Nat)=>i<=vn) (fun (i:Nat)=> [(1,H eA en ec),(2,.pointer (some ⟨gH,0,none⟩)),(4,.pointer none),(5,.pointer (some ⟨go,0,none⟩)),(25,H vA vn vc),(26,I vn),(27,I i)]) (fun (i:Nat)=>fun _=>True) (fun (i:Nat)=> [(go,98, [H sA sn sc,H cA cn cc,H vA vn vc,u3,u4,u5,u6,u7,u8,u9,jR,jS,jT,jU,jV,jW,.map (some gv),.map (some gs),.map (some gI),H none 0 0,.map (some gF),.map (some gG),.map (some gJ),.map (some gO),H none 0 0]),(gH,42, [H sA sn sc,H cA cn cc,H vA vn vc,u3,u4,u5,u6,u7,u8,u9,jR,jS,jT,jU,jV,jW])]) (fun (i:Nat)=> []) (fun (i:Nat)=> [cB vI dT w0.heap.size gO (pD),cB pZ dT w0.heap.size gJ (pD),cB pX dT w0.heap.size gG (pD),cB vB nN w0.heap.size gF (pD),cB rJ dT w0.heap.size gI (pD),cB vB dT w0.heap.size gs (pD),cB vS dT w0.heap.size gv (xD (vl.take i)),bT stEnc 15 74 w0.heap.size none sA sn sl,bT kG 2 55 w0.heap.size none vA vn vl,bT dQ 2 53 w0.heap.size none cA cn cl,bT fJ 4 128 w0.heap.size none eA en el,TxtO w0.heap.size none]) (fun (i:Nat)=>vn - i) 0 (Nat.zero_le _) ⟨D,D,D,D,D,D,D,bB⟩ (fun _ hm=>hm.pick [0,1] [] [0,1,2,3,4,5,6,7,8,9,10,11] D D) ?_
 intro i bZ
 replace bZ:i<=vn:=bZ
 refine bX (W (dF D D) D (bU (bJ ?_)))
 refine cN D (fun hi=>?_) (fun hi=>?_)
 ·refine bN (bG (bJ (bP (bX ?_))))
  obtain ⟨vb,vof,hvA,_,_⟩:=hv.get G
  subst hvA
  obtain ⟨x,hx⟩:∃x,vl[i]?=some x:=⟨_,fY9 G⟩
  obtain ⟨vk,vcl⟩:=x
  refine W (bV (j:=i) cB9 D D G) D (W (dR (vs:= [U vk,U vcl]) dP8 D (fun _ hm=>(hm.fact 8 D).1) hx D D) D (dM fL2 D fun g1=>kE (cs':= [U vk,U vcl]) 0 dP8 D D D D (bU (gd (fun wz=>Blk wz g1 55 [U vk,U vcl]/\Blk wz go 98 [H sA sn sc,H cA cn cc,H (some ⟨vb,vof,none⟩) vn vc,u3,u4,u5,u6,u7,u8,u9,jR,jS,jT,jU,jV,jW,.map (some gv),.map (some gs),.map (some gI),H none 0 0,.map (some gF),.map (some gG),.map (some gJ),.map (some gO),H none 0 0]/\True) mixed (fun _ hm=>⟨hm.bl 0,hm.bl 1,bB⟩) fun z=>wq 0 D (bL D) (wq 1 D (cU D) (wq 2 D (bW cQ6 D D) (wq 3 D (cH eA7 D (fun _ hm=>hm.2.1) D) (wq 4 D (bW cN6 D D) (wq 5 D (cH fR D (fun _ hm=>hm.1) D) (wq 6 D (bW cO6 D D) (wq 7 D (cH fR D (fun _ hm=>hm.1) D) (eD 8 D (kZ (enc:=vS) (ek:=dT) (s:=vk) (v:=vcl) (e:=9) (X':= [cB vI dT w0.heap.size gO (pD),cB pZ dT w0.heap.size gJ (pD),cB pX dT w0.heap.size gG (pD),cB vB nN w0.heap.size gF (pD),cB rJ dT w0.heap.size gI (pD),cB vB dT w0.heap.size gs (pD),bT stEnc 15 74 w0.heap.size none sA sn sl,bT kG 2 55 w0.heap.size none (some ⟨vb,vof,none⟩) vn vl,bT dQ 2 53 w0.heap.size none cA cn cl,bT fJ 4 128 w0.heap.size none eA en el,TxtO w0.heap.size none]) 6 kC bC D D D D (cX (i:=0) (cB.farK hne_gpd.2.2.2.2.2.1.symm) D (cX (i:=1) (cB.farK hne_ghi.2.2.2.2.1.symm) D (cX (i:=2) (cB.farK hne_gbk.2.2.2.1.symm) D (cX (i:=3) (cB.farK hne_gat.2.2.1.symm) D (cX (i:=4) (cB.farK hne_gst.2.1.symm) D (cX (i:=5) (cB.farK hne_gs.1.symm) D (cX (i:=7) bT.mfar.far D (cX (i:=8) bT.mfar.far D (cX (i:=9) (bT.mfar).far D (cX (i:=10) bT.mfar.far D (cX (i:=11) (TxtO.mfar).far D gK))))))))))) (bH (nw 9 511 (fun _ hm=>⟨hm.bl 0,hm.bl 1,bB⟩) fun z=>gY (bK (bG (bM (fY D D (bS D (bH ?_)))))))))))))))))))))
  rw [show gZ (xD (vl.take i)) vk vcl=xD (vl.take (i+1)) from eU7 hx]
  exact cQ (i+1) (by show _<=_;omega) G ⟨D,D,D,D,D,D,(cP G),bB⟩ (fun _ hm=>hm.pick [1,2] [] [1,2,3,4,5,6,0,7,8,9,10,11] D D)
 refine dD (bI (bI (bY (bG (bJ (bX ?_))))))
 have hie:vl.take i=vl:=List.take_of_length_le G
 rw [hie]
 clear hie
 refine dZ wS D D (dZ eE1 D D (eO fT5 1 D D D (W (dP fY4 D) D (bS D (bU (bP ?_))))))
 refine dS (γ:=Nat) (fun (j:Nat)=>j<=sn) (fun (j:Nat)=> [(1,H eA en ec),(4,.pointer none),(5,.pointer (some ⟨go,0,none⟩)),(42,H sA sn sc),(43,I sn),(44,I j)]) (fun (j:Nat)=>fun _=>True) (fun (j:Nat)=> [(go,98, [H sA sn sc,H cA cn cc,H vA vn vc,u3,u4,u5,u6,u7,u8,u9,jR,jS,jT,jU,jV,jW,.map (some gv),.map (some gs),.map (some gI),H none 0 0,.map (some gF),.map (some gG),.map (some gJ),.map (some gO),H none 0 0]),(gH,42, [H sA sn sc,H cA cn cc,H vA vn vc,u3,u4,u5,u6,u7,u8,u9,jR,jS,jT,jU,jV,jW])]) (fun (j:Nat)=> []) (fun (j:Nat)=> [cB vI dT w0.heap.size gO (pD),cB pZ dT w0.heap.size gJ (pD),cB pX dT w0.heap.size gG (pD),cB vB nN w0.heap.size gF (pD),cB rJ dT w0.heap.size gI (pD),cB vB dT w0.heap.size gs (yP (sl.take j)),cB vS dT w0.heap.size gv (xD vl),bT stEnc 15 74 w0.heap.size none sA sn sl,bT kG 2 55 w0.heap.size none vA vn vl,bT dQ 2 53 w0.heap.size none cA cn cl,bT fJ 4 128 w0.heap.size none eA en el,TxtO w0.heap.size none]) (fun (j:Nat)=>sn - j) 0 (Nat.zero_le _) ⟨D,D,D,D,D,D,bB⟩ (fun _ hm=>hm.pick [0,1] [] [0,1,2,3,4,5,6,7,8,9,10,11] D D) ?_
 intro j bZ
 replace bZ:j<=sn:=bZ
 refine bX (W (dF D D) D (bU (bJ ?_)))
 refine cN D (fun hj=>?_) (fun hj=>?_)
 ·refine bN (bG (bJ (bP (bX ?_))))
  obtain ⟨tb,uQ,hsA,_,_⟩:=hs.get G
  subst hsA
  obtain ⟨x,hx⟩:∃x,sl[j]?=some x:=⟨_,fY9 G⟩
  have hso:=bA4 _ (fZ9 hx)
  obtain ⟨key,hs9⟩:=x
  obtain ⟨h0,h1,h2,h3,h4,h5,h6,h7,h8,h9,h10,h11,h12,h13,rfl⟩:=dD3 hs9 hso.1
  refine W (bV (j:=j) fY4 D D G) D (W (dR (vs:= [U key,J h0,J h1,J h2,J h3,J h4,J h5,J h6,J h7,J h8,J h9,J h10,J h11,J h12,J h13]) fS5 D (fun _ hm=>(hm.fact 7 D).1) hx D D) D (dM fA9 D fun g2=>kE (cs':= [U key,J h0,J h1,J h2,J h3,J h4,J h5,J h6,J h7,J h8,J h9,J h10,J h11,J h12,J h13]) 0 fS5 D D D D (bU (gd (fun wz=>Blk wz g2 74 [U key,J h0,J h1,J h2,J h3,J h4,J h5,J h6,J h7,J h8,J h9,J h10,J h11,J h12,J h13]/\Blk wz go 98 [H (some ⟨tb,uQ,none⟩) sn sc,H cA cn cc,H vA vn vc,u3,u4,u5,u6,u7,u8,u9,jR,jS,jT,jU,jV,jW,.map (some gv),.map (some gs),.map (some gI),H none 0 0,.map (some gF),.map (some gG),.map (some gJ),.map (some gO),H none 0 0]/\True) mixed (fun _ hm=>⟨hm.bl 0,hm.bl 1,bB⟩) fun z=>wq 0 D (bL D) (wq 1 D (cU D) (wq 2 D (bW bV3 D D) (wq 3 D (cH dS3 D (fun _ hm=>hm.2.1) D) (wq 4 D (bW fO0 D D) (wq 5 D (cH fR D (fun _ hm=>hm.1) D) (eD 6 D (kZ (enc:=vB) (ek:=dT) (s:=key) (v:=true) (e:=4) (X':= [cB vI dT w0.heap.size gO (pD),cB pZ dT w0.heap.size gJ (pD),cB pX dT w0.heap.size gG (pD),cB vB nN w0.heap.size gF (pD),cB rJ dT w0.heap.size gI (pD),cB vS dT w0.heap.size gv (xD vl),bT stEnc 15 74 w0.heap.size none (some ⟨tb,uQ,none⟩) sn sl,bT kG 2 55 w0.heap.size none vA vn vl,bT dQ 2 53 w0.heap.size none cA cn cl,bT fJ 4 128 w0.heap.size none eA en el,TxtO w0.heap.size none]) 5 kC bC D D D D (cX (i:=0) (cB.farK hne_gpd.2.2.2.2.1.symm) D (cX (i:=1) (cB.farK hne_ghi.2.2.2.1.symm) D (cX (i:=2) (cB.farK hne_gbk.2.2.1.symm) D (cX (i:=3) (cB.farK hne_gat.2.1.symm) D (cX (i:=4) (cB.farK hne_gst.1.symm) D (cX (i:=6) (cB.farK hne_gs.1) D (cX (i:=7) bT.mfar.far D (cX (i:=8) bT.mfar.far D (cX (i:=9) (bT.mfar).far D (cX (i:=10) bT.mfar.far D (cX (i:=11) (TxtO.mfar).far D gK))))))))))) (bH (nw 7 127 (fun _ hm=>⟨hm.bl 0,hm.bl 1,bB⟩) fun z=>gY (bK (bG (bM (fY D D (bS D (bH ?_)))))))))))))))))))
  rw [show gZ (yP (sl.take j)) key true=yP (sl.take (j+1)) from eB7 hx]
  exact cQ (j+1) (by show _<=_;omega) G ⟨D,D,D,D,D,(cP G),bB⟩ (fun _ hm=>hm.pick [1,2] [] [1,2,3,4,5,0,6,7,8,9,10,11] D D)
 refine dD (bI (bI (bY (bG (bJ (bX ?_))))))
 have hje:sl.take j=sl:=List.take_of_length_le G
 rw [hje]
 clear hje
 have hd: [gv,gs,gI,gF,gG,gJ,gO].Nodup:=nd7 hne_gs.1 hne_gst.2.1 hne_gat.2.2.1 hne_gbk.2.2.2.1 hne_ghi.2.2.2.2.1 hne_gpd.2.2.2.2.2.1 hne_gst.1 hne_gat.2.1 hne_gbk.2.2.1 hne_ghi.2.2.2.1 hne_gpd.2.2.2.2.1 hne_gat.1 hne_gbk.2.1 hne_ghi.2.2.1 hne_gpd.2.2.2.1 hne_gbk.1 hne_ghi.2.1 hne_gpd.2.2.1 hne_ghi.1 hne_gpd.2.1 hne_gpd.1
 refine mA 181 5 ?_
 refine mA 178 2 ?_
 refine bS D (W (dP vX D) D (bS D (bU (bP ?_))))
 refine cU6 (γ:=Unit) (fun _=>gX 269 (pD:M->Option Hg)) (fun w hm=>⟨(),fun _ _ h=>by cases h⟩) (fun _=>gX.lasts2 D) fun _=>?_
 obtain ⟨V,hV⟩:∃z,z=xD vl:=⟨_,rfl⟩
 obtain ⟨T,hT⟩:∃z,z=yP sl:=⟨_,rfl⟩
 rw [<-hV,<-hT]
 refine dS (γ:=Nat×Value×Value×Nat×List Value×Os×(M->Option Int)) (fun (gq:Nat×Value×Value×Nat×List Value×Os×(M->Option Int))=>gq.1<=en/\(rW V T (fun b=>gC cl [b]=0) ((el.take gq.1).map Ny.at_) gq.2.2.2.2.2.1/\gR gq.2.2.2.2.2.1=cW1 V T cl (el.take gq.1))/\bH1 gq.2.2.2.2.2.2/\gq.2.2.2.1<=gq.1) (fun (gq:Nat×Value×Value×Nat×List Value×Os×(M->Option Int))=> [(4,.pointer none),(5,.pointer (some ⟨go,0,none⟩)),(55,H eA en ec),(56,I en),(57,I (gq.1))]) (fun (gq:Nat×Value×Value×Nat×List Value×Os×(M->Option Int))=>fun _=>True) (fun (gq:Nat×Value×Value×Nat×List Value×Os×(M->Option Int))=> [(go,98, [H sA sn sc,H cA cn cc,H vA vn vc,u3,u4,u5,u6,u7,u8,u9,jR,jS,jT,jU,jV,jW,.map (some gv),.map (some gs),.map (some gI),gq.2.1,.map (some gF),.map (some gG),.map (some gJ),.map (some gO),gq.2.2.1])]) (fun (gq:Nat×Value×Value×Nat×List Value×Os×(M->Option Int))=> [⟨gq.2.1,181,5,gq.2.2.2.2.2.1.lg.length,gq.2.2.2.2.2.1.lg.flatMap eF⟩,⟨gq.2.2.1,178,2,gq.2.2.2.1,gq.2.2.2.2.1⟩]) (fun (gq:Nat×Value×Value×Nat×List Value×Os×(M->Option Int))=> [cB vS dT w0.heap.size gv (V),cB vB dT w0.heap.size gs (T),cB rJ dT w0.heap.size gI (gq.2.2.2.2.2.1.fs),cB vB nN w0.heap.size gF (gq.2.2.2.2.2.1.fa),cB pX dT w0.heap.size gG (gq.2.2.2.2.2.1.fb),cB pZ dT w0.heap.size gJ (gq.2.2.2.2.2.1.fh),cB vI dT w0.heap.size gO (gq.2.2.2.2.2.2),gX 269 gq.2.2.2.2.2.1.fh,bT dQ 2 53 w0.heap.size none cA cn cl,TxtO w0.heap.size none,bT fJ 4 128 w0.heap.size none eA en el]) (fun (gq:Nat×Value×Value×Nat×List Value×Os×(M->Option Int))=>en - gq.1) (0,H none 0 0,H none 0 0,0, [],os0,pD) ⟨Nat.zero_le _,⟨.nil,D⟩,fJ1,Nat.le_refl _⟩ ⟨D,D,D,D,D,bB⟩ (fun _ hm=>hm.pick [0] [1,0] [7,6,5,4,3,2,1,0,10,12,11] D D) ?_
 rintro ⟨i,lv,rv,rn,rx,σ,fp⟩ bZ
 replace bZ:i<=en/\(rW V T (fun b=>gC cl [b]=0) ((el.take i).map Ny.at_) σ/\gR σ=cW1 V T cl (el.take i))/\bH1 fp/\rn<=i:=bZ
 dsimp only
 refine bX ?_
 obtain ⟨hi9,⟨xW,habs⟩,hpo,hrn⟩:=bZ
 obtain ⟨hso,hky,hlg⟩:=xW.facts
 rw [List.length_map,List.length_take] at hlg
 refine W (dF D D) D (bU (bJ ?_))
 refine cN D (fun hi=>?_) (fun hi=>?_)
 ·refine bN (bG (bJ (bP (bX ?_))))
  obtain ⟨eb,eof,heA,_,_⟩:=he.get G
  subst heA
  obtain ⟨x,hx⟩:∃x,el[i]?=some x:=⟨_,fY9 G⟩
  have hny:=cW6 _ (fZ9 hx)
  obtain ⟨at_,dk,no,ws⟩:=x
  dsimp only [dN6] at hny
  refine bS D (W (bV (j:=i) vX D D G) D (W (dR (vs:= [J at_,U dk,J no,U ws]) kU D (fun _ hm=>(hm.fact 10 D).1) hx D D) D (dM cJ5 D fun g3=>cG D (kE (cs':= [J at_,U dk,J no,U ws]) 0 kU D D D D (bU (bX (bS D (W (dG kU D (fun _ hm=>hm.blkI 0 D) D D) D ?_))))))))
  refine fW (γ:=Value×Os×(M->Option Int)×Int) (val:=fun q=>J q.2.2.2) (φ:=(fun (q:Value×Os×(M->Option Int)×Int)=>(mK V T (fun b=>gC cl [b]=0) at_ σ q.2.1/\gR q.2.1=mN V T cl at_ ws (gR σ))/\bH1 q.2.2.1)) (K':=fun _=>fun _=>True) (L':=(fun (q:Value×Os×(M->Option Int)×Int)=> [(go,98, [H sA sn sc,H cA cn cc,H vA vn vc,u3,u4,u5,u6,u7,u8,u9,jR,jS,jT,jU,jV,jW,.map (some gv),.map (some gs),.map (some gI),q.1,.map (some gF),.map (some gG),.map (some gJ),.map (some gO),rv])])) (O':=(fun (q:Value×Os×(M->Option Int)×Int)=> [⟨q.1,181,5,q.2.1.lg.length,q.2.1.lg.flatMap eF⟩,⟨rv,178,2,rn,rx⟩])) (X':=(fun (q:Value×Os×(M->Option Int)×Int)=> [cB vS dT w0.heap.size gv (V),cB vB dT w0.heap.size gs (T),cB rJ dT w0.heap.size gI (q.2.1.fs),cB vB nN w0.heap.size gF (q.2.1.fa),cB pX dT w0.heap.size gG (q.2.1.fb),cB pZ dT w0.heap.size gJ (q.2.1.fh),cB vI dT w0.heap.size gO (q.2.2.1),gX 269 q.2.1.fh,bT dQ 2 53 w0.heap.size none cA cn cl,TxtO w0.heap.size none])) D fQ8 D D (fun wx hm=>(cK9 w0 (H sA sn sc) (H vA vn vc) u3 u4 u5 u6 u7 u8 u9 jR jS jT jU jV jW go gv gs gI gF gG gJ gO cA cn cc cl V T rv rn rx hd fp σ lv at_ dk no ws wx hny.1 hny.2 pI yC G hso (xW.fewB (by rw [List.length_map,List.length_take];omega)) (xW.fewH (by rw [List.length_map,List.length_take];omega)) hpo (hm.pick [1] [0,1] [0,1,2,3,4,5,6,7,8,9] D D).cy).mono fun _ _ ⟨rC,σ2,fp2,E,he,h1,h2,wG⟩=>⟨(rC,σ2,fp2,E),he,⟨h1,h2⟩,wG.cy⟩) ?_
  rintro ⟨rC,σ2,fp2,E2⟩ hst
  dsimp only at hst ⊢
  refine bG0 (γ:=Unit) (fun _=>bT fJ 4 128 w0.heap.size none (some ⟨eb,eof,none⟩) en el) (fun w hm=>⟨(),(bT.lasts (Tt:= [])).gr w0 w hm.g he.old⟩) (fun _=>bT.lasts) fun _=>?_
  refine cG D (bU (bX (bS D (W (gN D D) D (bU ?_)))))
  refine gL D (fun hE=>?_) (fun hE=>?_)
  ·refine bM (bS D (bS D (W (cU D) D (dZ eO1 D D (eO fB6 0 D D D (bS D (bS D ?_)))))))
   refine W (dL (cs:= [I i,J E2]) D bC) D (jN 178 [I i,J E2] fun g4=>eP (news:= [I i,J E2]) 1 0 fS6 D D D D D D D G (by unfold maxLen;omega) D D fun rv2 hrv2=>?_)
   refine eB (R:=∃A cc,rv2=H A (rn+1) cc) (fun wx hm=>dW (hm.ownI 1 D)) ?_
   rintro ⟨rA,rc,rfl⟩
   refine W (cU D) D (dZ eO1 D D (fX 1 fB6 D D D D D D (bH (bK (bG (bM (fY D D (bS D (bH ?_)))))))))
   exact cQ (i+1,rC,(H rA (rn+1) rc),rn+1,rx++([I i,J E2]:List Value),σ2,fp2) ⟨bE,⟨xW.next hx hst.1.1,by rw [dZ5 hx,hst.1.2,habs]⟩,hst.2,bE⟩ bE ⟨D,D,D,D,(cP bE),bB⟩ (fun _ hm=>hm.pick [1] [0,1] [1,2,3,4,5,6,7,8,9,10,0] D D)
  refine bN (bK (bG (bM (fY D D (bS D (bH ?_))))))
  exact cQ (i+1,rC,rv,rn,rx,σ2,fp2) ⟨bE,⟨xW.next hx hst.1.1,by rw [dZ5 hx,hst.1.2,habs]⟩,hst.2,bE⟩ bE ⟨D,D,D,D,(cP bE),bB⟩ (fun _ hm=>hm.pick [0] [0,1] [1,2,3,4,5,6,7,8,9,10,0] D D)
 refine dD (bI (bI (bY (bG (bX ?_)))))
 have hie:i=en:=G
 have hte:el.take i=el:=List.take_of_length_le G
 rw [hte] at xW habs
 refine bS D (W (cU D) D (dZ cR6 D D (eO eG3 0 D D D ?_)))
 refine eB (R:=(lv=H none 0 0/\σ.lg.length=0)∨∃br cc,lv=H (some ⟨br,0,none⟩) σ.lg.length cc) (fun wx hm=>dC8 (hm.ownI 0 D)) ?_
 rintro (⟨rfl,rN⟩|⟨br,cc,rfl⟩)
 ·have hiso:dY eJ σ.lg=σ.lg:=by rw [List.eq_nil_of_length_eq_zero rN];rfl
  refine cR D fU4 D D (fun wx hm=>(dZ3 _ none 0 wx)) (bU (bX (bS D (cG D (bU (bR ?_))))))
  refine bQ D D fun wx hm=>?_
  refine ⟨go,gv,gs,gI,gF,gG,gJ,gO,H none 0 0,rv,rn,rx,σ,fp,D,⟨xW,by rw [habs,hV,hT]⟩,?_⟩
  rw [hiso]
  exact (hm.pick [0] [0,1] [0,1,2,3,4,5,6,7,8,9] D D).cy
 refine bB2 (v:= .tuple #[]) (xs':=(dY eJ σ.lg).flatMap eF) 0 D D D fU4 D D (fun wx hm=>(dQ0 _ eQ6 σ.lg br σ.lg.length cc _ wx (hm.ownI 0 D) D G (fun _=>hky.tie))) ?_
 refine bU (bX (bS D (cG D (bU (bR ?_)))))
 refine bQ D D fun wx hm=>?_
 refine ⟨go,gv,gs,gI,gF,gG,gJ,gO,H (some ⟨br,0,none⟩) σ.lg.length cc,rv,rn,rx,σ,fp,D,⟨xW,by rw [habs,hV,hT]⟩,?_⟩
 exact (hm.pick [0] [0,1] [0,1,2,3,4,5,6,7,8,9] D D).cy
def fU2(x:M):Prop:=∀i:Nat,i < x.size->32<=qA x ((i:Nat):Int)/\qA x ((i:Nat):Int)<=126
def cL5(x:Ny):Prop:=inB x.at_ 0 5761439=true/\keyB x.dk=true/\inB x.no 1 1000000=true/\(1<=x.ws.size/\x.ws.size<=200)/\fU2 x.ws
def vN(x:Ny):Prop:=(-2000000000000000000<=x.at_/\x.at_<=2000000000000000000)/\x.dk.size<=1000000/\(-2000000000000000000<=x.no/\x.no<=2000000000000000000)/\x.ws.size<=1000000
def yN(a b:Ny):Int:=dK [pT a.at_ b.at_,qC a.dk b.dk,pT a.no b.no]
def sg2(n:Int):Int:=if n < 0 then -1 else if 0 < n then 1 else 0
theorem dC6(a b:Int):sg2 (a - b)=pT a b:=by
 unfold sg2 pT
 split <;> split <;> (try split) <;> (try split) <;> omega
theorem fF3(x:M)(j:Int):∃b:Nat,qA x j=((b:Nat):Int)/\b<=255:=by
 have:=dX6 x j
 exact ⟨(qA x j).toNat,G,G⟩
theorem fV8(a b d:Int)(g T c:Nat)(w:World)(h:Blk w g T [J a,J b,J d]):Calls prog 101 #[H (some ⟨g,0,none⟩) 3 c] w (fun e w'=>e=.returned (J (dK [a,b,d]))/\w.grownBy w' none):=by
 refine cY ⟨18,w,none, []⟩ func101 D ntmps101 D (fZ (X:= [eC w.heap.size none g T [J a,J b,J d] ]) (cC h.old cZ) (cE eC.lasts dA)) (bX (cG D (bU (bX (cG D (bU (bJ (bX (bS D (W (dP kF D) D (bO 7 (v':=J 3) D D (bS D (bU (bP (fF 4 (eK (bX (W (dF D D) D (bO 9 (v':= .bool true) D (fW9 bD) (bU (bJ (mT D (bN (bG (bJ (bP (bX (W (bV (j:=0) kF D D bD) D (W (cH (v:=J a) fM D (fun _ hm=>(hm.fact 0 D).2) D) D ?_)))))))))))))))))))))))))))))
 refine cG D (bU (bX (bS D (bS D (W (gN D D) D (bU ?_))))))
 refine gL D (fun h1=>?_) (fun h1=>?_)
 ·refine bX (bS D (cG D (bU ?_)))
  refine bR (C (F (F (C (F ?_)))))
  exact bQ D D fun wx hm=>⟨by simp only [dK,if_false,h1],hm.g⟩
 refine bN (bK (bG (bM (fY D D (bO 16 (v':=J 1) D D (bS D (bH (jL (eK (bX (W (dF D D) D (bO 9 (v':= .bool true) D (fW9 bD) (bU (bJ (mT D (bN (bG (bJ (bP (bX (W (bV (j:=1) kF D D bD) D (W (cH (v:=J b) fM D (fun _ hm=>(hm.fact 0 D).2) D) D (cG D (bU (bX (bS D (bS D (W (gN D D) D (bU ?_)))))))))))))))))))))))))))))
 refine gL D (fun h2=>?_) (fun h2=>?_)
 ·refine bX (bS D (cG D (bU ?_)))
  refine bR (C (F (F (C (F ?_)))))
  exact bQ D D fun wx hm=>⟨by simp only [dK,if_true,if_false,h1,h2],hm.g⟩
 refine bN (bK (bG (bM (fY D D (bO 16 (v':=J 2) D D (bS D (bH (jL (eK (bX (W (dF D D) D (bO 9 (v':= .bool true) D (fW9 bD) (bU (bJ (mT D (bN (bG (bJ (bP (bX (W (bV (j:=2) kF D D bD) D (W (cH (v:=J d) fM D (fun _ hm=>(hm.fact 0 D).2) D) D (cG D (bU (bX (bS D (bS D (W (gN D D) D (bU ?_)))))))))))))))))))))))))))))
 refine gL D (fun h3=>?_) (fun h3=>?_)
 ·refine bX (bS D (cG D (bU ?_)))
  refine bR (C (F (F (C (F ?_)))))
  exact bQ D D fun wx hm=>⟨by simp only [dK,if_true,if_false,h1,h2,h3],hm.g⟩
 refine bN (bK (bG (bM (fY D D (bO 16 (v':=J 3) D D (bS D (bH (jL (eK (bX (W (dF D D) D (bO 9 (v':= .bool false) D (fW9 bD) (bU (bJ (jK D (dD (bI (bI (bY (bG (bX (bS D (cG D (bU (bR ?_)))))))))))))))))))))))))
 exact bQ D D fun wx hm=>⟨by simp only [dK,if_true,h1,h2,h3],hm.g⟩
theorem dZ7(p0:Int)(p1:M)(p2:Int)(p3:M)(e0:Int)(e1:M)(e2:Int)(e3:M)(w:World):Calls prog 97 #[.agg #[J p0,U p1,J p2,U p3],.agg #[J e0,U e1,J e2,U e3]] w (nG w (yN (⟨p0,p1,p2,p3⟩:Ny) (⟨e0,e1,e2,e3⟩:Ny))):=by
 refine cY ⟨22,w,none, []⟩ func97 D ntmps97 D (fZ (X:= []) cZ dA) (bX (fS D D D fun g1=>fS D D D fun g2=>cG D (bU (bJ (gd (fun wz=>Blk wz g2 128 [J e0,U e1,J e2,U e3]/\Blk wz g1 128 [J p0,U p1,J p2,U p3]/\True) mixed (fun _ hm=>⟨hm.bl 0,hm.bl 1,bB⟩) fun z=>wq 0 D (bW mZ D D) (wq 1 D (cH fM D (fun _ hm=>hm.2.1) D) (wq 2 D (bW mZ D D) (wq 3 D (cH fM D (fun _ hm=>hm.1) D) (wq 5 D (bW pO D D) (wq 6 D (cH fR D (fun _ hm=>hm.2.1) D) (wq 7 D (bW pO D D) (wq 8 D (cH fR D (fun _ hm=>hm.1) D) (wq 10 D (bW qS D D) (wq 11 D (cH fM D (fun _ hm=>hm.2.1) D) (wq 12 D (bW qS D D) (wq 13 D (cH fM D (fun _ hm=>hm.1) D) (eD 4 D (cR D cM8 D D (fun wx hm=>(bV4 _ _ wx)) (bH (nw 18 15871 (fun _ hm=>⟨hm.bl 0,hm.bl 1,bB⟩) fun z=>eD 9 D (cR D cN8 D D (fun wx hm=>(wQ _ _ wx)) (bH (nw 18 16383 (fun _ hm=>⟨hm.bl 0,hm.bl 1,bB⟩) fun z=>eD 14 D (cR D cM8 D D (fun wx hm=>(bV4 _ _ wx)) ?_))))))))))))))))))))))))
 refine bH (nw 18 32767 (fun _ hm=>⟨hm.bl 0,hm.bl 1,bB⟩) fun z=>eD 15 D (jN 3 [J (pT p0 e0),J (qC p1 e1),J (pT p2 e2)] fun g3=>bH (nw 18 65535 (fun _ hm=>⟨hm.bl 1,hm.bl 2,bB⟩) fun z=>eD 16 D (cR D dR4 D D (fun wx hm=>(fV8 _ _ _ _ _ _ wx (hm.blkI 0 D))) (bH (nw 18 131071 (fun _ hm=>⟨hm.bl 1,hm.bl 2,bB⟩) fun z=>wq 17 D (dB D) (gY (bG (bR ?_)))))))))
 exact bQ D D fun wx hm=>⟨cL D,hm.g⟩
theorem cA5(n:Int)(w:World):Calls prog 85 #[J n] w (nG w (sg2 n)):=by
 refine cY ⟨9,w,none, []⟩ func85 D ntmps85 D (fZ (X:= []) cZ dA) (bX (cG D (bU (bJ (bP (bX (bS D (W (dF D D) D (cG D (bU ?_))))))))))
 refine cN D (fun h1=>?_) (fun h1=>?_)
 ·refine bX (cG D ?_)
  refine bO 2 (v':=J (-1)) D D (bU (bR (C (F ?_))))
  exact bQ D D fun wx hm=>⟨cL (by unfold sg2;rw [if_pos h1]),hm.g⟩
 refine bX (bS D (W (eM D D) D (cG D (bU ?_))))
 refine cN D (fun h2=>?_) (fun h2=>?_)
 ·refine bX (cG D (bU ?_))
  refine bR (C (F ?_))
  exact bQ D D fun wx hm=>⟨cL (by unfold sg2;rw [if_neg h1,if_pos h2]),hm.g⟩
 refine bN (bK (bG (bX (cG D (bU (bR ?_))))))
 exact bQ D D fun wx hm=>⟨cL (by unfold sg2;rw [if_neg h1,if_neg h2]),hm.g⟩
theorem bM1(p0:Int)(p1:M)(p2:Int)(p3:M)(e0:Int)(e1:M)(e2:Int)(e3:M)(w:World)(hp:vN (⟨p0,p1,p2,p3⟩:Ny))(he:vN (⟨e0,e1,e2,e3⟩:Ny)):Calls prog 49 #[.agg #[J p0,U p1,J p2,U p3],.agg #[J e0,U e1,J e2,U e3]] w (nG w (yN (⟨p0,p1,p2,p3⟩:Ny) (⟨e0,e1,e2,e3⟩:Ny))):=by
 dsimp only [vN] at hp he
 refine cY ⟨34,w,none, []⟩ func49 D ntmps49 D (fZ (X:= []) cZ dA) (bX (fS D D D fun g1=>fS D D D fun g2=>cG D (bU (bJ (bP (bX (dZ mZ D D (eO fM 1 D D D (dZ mZ D D (eO fM 0 D D D (W (gN D D) D (cG D (bH (bG ?_))))))))))))))
 refine gL D (fun h1=>?_) (fun h1=>?_)
 ·refine bX (dZ mZ D D (eO fM 1 D D D (dZ mZ D D (eO fM 0 D D D ?_))))
  refine W (ov_sub D D G G) D (cR D fR4 D D (fun wx hm=>(cA5 _ wx)) (cG D (bU (bR (C (F ?_))))))
  refine bQ D D fun wx hm=>?_
  exact ⟨cL (by
   have h2:pT p0 e0≠0:=fun e=>h1 (uV.1 e)
   rw [dC6]
   simp [yN,dK,h2]),hm.g⟩
 refine bX (dZ pO D D (eO fR 1 D D D (dZ pO D D (eO fR 0 D D D (W (xO D D) D (cG D (bU ?_)))))))
 refine dE D (fun hh=>?_) (fun hh=>?_)
 ·have h2:(p1.toList==e1.toList)=false:=by simpa using hh
  refine bX (dZ pO D D (eO fR 1 D D D (dZ pO D D (eO fR 0 D D D (cR D fI8 D D (fun wx hm=>(cH2 _ _ wx)) (cG D (bU (bR (C (F ?_))))))))))
  refine bQ D D fun wx hm=>?_
  exact ⟨cL (by
   have h3:pT p0 e0=0:=uV.2 h1
   have h4:qC p1 e1≠0:=fun e=>by have:=(uW.1 e).2;rw [this] at h2;simp at h2
   simp only [yN,dK,h3,if_true,if_neg h4]),hm.g⟩
 have h2:(p1.toList==e1.toList)=true:=by simpa using hh
 refine bN (bK (bG (bX (dZ qS D D (eO fM 1 D D D (dZ qS D D (eO fM 0 D D D (W (ov_sub D D G G) D (cR D fR4 D D (fun wx hm=>(cA5 _ wx)) (cG D (bU (bR ?_))))))))))))
 refine bQ D D fun wx hm=>?_
 exact ⟨cL (by
  have h3:pT p0 e0=0:=uV.2 h1
  have h5:p1.toList=e1.toList:=by simpa using h2
  have h4:qC p1 e1=0:=uW.2 ⟨by rw [h5];exact uT _,h5⟩
  rw [dC6]
  by_cases h6:pT p2 e2=0
  ·simp [yN,dK,h3,h4,h6]
  simp only [yN,dK,h3,h4,if_true,if_neg h6]),hm.g⟩
theorem bS8(x:M)(w:World)(hz:x.size<=1000000)(hp:fU2 x):Calls prog 96 #[U x] w (fun e w'=>e=.returned (.bool true)/\w.grownBy w' none):=by
 refine cY ⟨20,w,none, []⟩ func96 D ntmps96 D (fZ (X:= []) cZ dA) (bX (cG D (bU (bJ (bX (bS D (W (zT us9 D) D (bS D (bU (bP ?_))))))))))
 refine dS (γ:=Nat) (fun (i:Nat)=>i<=x.size) (fun (i:Nat)=> [(0,U x),(5,J ((x).size:Int)),(6,I i)]) (fun (i:Nat)=>fun _=>True) (fun (i:Nat)=> []) (fun (i:Nat)=> []) (fun (i:Nat)=> []) (fun (i:Nat)=>x.size - i) 0 (Nat.zero_le _) ⟨D,D,D,bB⟩ (fun _ hm=>hm.pick [] [] [] D D) ?_
 intro i bZ
 replace bZ:i<=x.size:=bZ
 refine bX (W (dF D D) D (bU (bJ ?_)))
 refine cN D (fun hi=>?_) (fun hi=>?_)
 ·refine bN (bG (bJ (bP (bX ?_))))
  have hb:=hp i G
  refine bS D (cG D (bU (bX (bS D (bS D (W (bY5 us9 D D G G) D (W (dF D D) D (bO 12 (v':= .bool false) D (fW9 (decide_eq_false G)) (bS D (eN D (bS D (eN D (bS D (eN D (W (bY5 us9 D D G G) D (eN D (W (eM D D) D (bO 17 (v':= .bool false) D (fW9 (decide_eq_false G)) (nV D D (bU (jK D (bN (bK (bG (bM (fY D D (bS D (bH ?_))))))))))))))))))))))))))))
  exact cQ (i+1) (by show _<=_;omega) G ⟨D,D,(cP G),bB⟩ (fun _ hm=>hm.pick [] [] [] D D)
 refine dD (bI (bI (bY (bG (bX (cG D (bU (bR ?_))))))))
 exact bQ D D fun wx hm=>⟨D,hm.g⟩
theorem cZ6(n lo hi:Int)(w:World):Calls prog 89 #[J n,J lo,J hi] w (fun e w'=>e=.returned (.bool (inB n lo hi))/\w.grownBy w' none):=by
 refine cY ⟨15,w,none, []⟩ func89 D ntmps89 D (fZ (X:= []) cZ dA) (bX (cG D (bU (bX (bS D (bS D (W (mJ D D) D (bS D ?_))))))))
 rcases Bool.eq_false_or_eq_true (decide (lo<=n)) with hb1|hb1
 ·refine bO 10 D (fW9 hb1) ?_
  refine eN D (bS D (eN D (bS D (eN D (W (mJ D D) D (mS D D (cG D (bU (bR ?_)))))))))
  refine bQ D D fun wx hm=>?_
  refine ⟨?_,hm.g⟩
  unfold inB
  simp_all <;> omega
 refine bO 10 D (fW9 hb1) (eE D (eE D (eE D (nV D D (cG D (bU (bR ?_)))))))
 refine bQ D D fun wx hm=>?_
 refine ⟨?_,hm.g⟩
 unfold inB
 simp_all <;> omega
theorem cE3(e0:Int)(e1:M)(e2:Int)(e3:M)(w:World)(hz:vN (⟨e0,e1,e2,e3⟩:Ny)):Calls prog 50 #[.agg #[J e0,U e1,J e2,U e3]] w (fun e w'=>∃E,e=.returned (J E)/\(E=0->cL5 (⟨e0,e1,e2,e3⟩:Ny))/\w.grownBy w' none):=by
 dsimp only [vN] at hz
 refine cY ⟨39,w,none, []⟩ func50 D ntmps50 D (fZ (X:= []) cZ dA) (bX (fS D D D fun g1=>cG D (bU (bJ (bP (bX (dZ mZ D D (eO fM 0 D D D (dC D fJ8 D D (fun wx hm=>(dH0 _ wx)) (W (cS D) D (cG D (bU ?_))))))))))))
 refine dE D (fun hh=>?_) (fun hh=>?_)
 ·have h0:(inB e0 0 5761439)=false:=by simpa using hh
  refine bX (cG D (bU (bR (C (F ?_)))))
  exact bQ D D fun wx hm=>⟨_,D,(fun h=>absurd h bD),hm.g⟩
 have h0:(inB e0 0 5761439)=true:=by simpa using hh
 refine bX (dZ pO D D (eO fR 0 D D D (cR D cQ8 D D (fun wx hm=>(xM _ wx G)) (W (cS D) D (cG D (bU ?_))))))
 refine dE D (fun hh=>?_) (fun hh=>?_)
 ·have h1:(keyB e1)=false:=by simpa using hh
  refine bX (cG D (bU (bR (C (F ?_)))))
  exact bQ D D fun wx hm=>⟨_,D,(fun h=>absurd h bD),hm.g⟩
 have h1:(keyB e1)=true:=by simpa using hh
 refine bX (dZ qS D D (eO fM 0 D D D (cR D fA0 D D (fun wx hm=>(cZ6 _ _ _ wx)) (W (cS D) D (cG D (bU ?_))))))
 refine dE D (fun hh=>?_) (fun hh=>?_)
 ·have h2:(inB e2 1 1000000)=false:=by simpa using hh
  refine bX (cG D (bU (bR (C (F ?_)))))
  exact bQ D D fun wx hm=>⟨_,D,(fun h=>absurd h bD),hm.g⟩
 have h2:(inB e2 1 1000000)=true:=by simpa using hh
 refine bX (dZ rK D D (eO fR 0 D D D (W (zT us9 D) D (cR D fA0 D D (fun wx hm=>(cZ6 _ _ _ wx)) (W (cS D) D (cG D (bU ?_)))))))
 refine dE D (fun hh=>?_) (fun hh=>?_)
 ·have h3:(inB ((e3).size:Int) 1 200)=false:=by simpa using hh
  refine bX (cG D (bU (bR (C (F ?_)))))
  exact bQ D D fun wx hm=>⟨_,D,(fun h=>absurd h bD),hm.g⟩
 have h3:(inB ((e3).size:Int) 1 200)=true:=by simpa using hh
 refine bN (bK (bG (bJ (bX ?_))))
 have w0f:inB e0 0 5761439=true:=by simpa using h0
 have w1f:keyB e1=true:=by simpa using h1
 have w2f:inB e2 1 1000000=true:=by simpa using h2
 have w3f:=nK.1 (show inB ((e3.size:Nat):Int) 1 200=true by simpa using h3)
 refine dZ rK D D (eO fR 0 D D D (W (zT us9 D) D (bS D (bU (bP ?_)))))
 refine dS (γ:=Nat) (fun (i:Nat)=>i<=e3.size/\∀j,j < i->32<=qA e3 ((j:Nat):Int)/\qA e3 ((j:Nat):Int)<=126) (fun (i:Nat)=> [(1,.pointer (some ⟨g1,0,none⟩)),(27,J ((e3).size:Int)),(28,I i)]) (fun (i:Nat)=>fun _=>True) (fun (i:Nat)=> [(g1,128, [J e0,U e1,J e2,U e3])]) (fun (i:Nat)=> []) (fun (i:Nat)=> []) (fun (i:Nat)=>e3.size - i) 0 ⟨Nat.zero_le _,fun _ h=>absurd h (Nat.not_lt_zero _)⟩ ⟨D,D,D,bB⟩ (fun _ hm=>hm.pick [0] [] [] D D) ?_
 intro i bZ
 replace bZ:i<=e3.size/\∀j,j < i->32<=qA e3 ((j:Nat):Int)/\qA e3 ((j:Nat):Int)<=126:=bZ
 refine bX (W (dF D D) D (bU (bJ ?_)))
 refine cN D (fun hi=>?_) (fun hi=>?_)
 ·refine bN (bG (bJ (bP (bX ?_))))
  obtain ⟨bt,hbt,hbz⟩:=fF3 e3 ((i:Nat):Int)
  refine bS D (cG D (bU (bX (dZ rK D D (eO fR 0 D D D (bS D (W (bY5 us9 D D G G) D (bO 34 (v':= .int .u8 ((bt:Nat):Int)) D (congrArg (Value.int .u8) hbt) (W (cN1 (a:=bt) bC bC D G) D (cR D fA0 D D (fun wx hm=>(cZ6 _ _ _ wx)) (W (cS D) D (bU ?_))))))))))))
  refine dE D (fun hh=>?_) (fun hh=>?_)
  ·have hj:(inB ((bt:Nat):Int) 32 126)=false:=by simpa using hh
   refine bX (cG D (bU (bR (C (F (F (C (F ?_))))))))
   exact bQ D D fun wx hm=>⟨_,D,(fun h=>absurd h bD),hm.g⟩
  have hj:(inB ((bt:Nat):Int) 32 126)=true:=by simpa using hh
  refine bN (bK (bG (bM (fY D D (bS D (bH ?_))))))
  have hj1:=nK.1 (show inB ((bt:Nat):Int) 32 126=true by simpa using hj)
  exact cQ (i+1) ⟨G,fun j h=>by
   rcases (show j < i∨j=i by omega) with h9|h9
   ·exact bZ.2 j h9
   rw [h9,hbt];exact hj1⟩ G ⟨rfl,rfl,(cP G),bB⟩ (fun _ hm=>hm.pick [0] [] [] rfl rfl)
 refine dD (bI (bI (bY (bG (bX (cG D (bU (bR ?_))))))))
 exact bQ D D fun wx hm=>⟨_,D,(fun _=>⟨w0f,w1f,w2f,bE,fun j h=>bZ.2 j (by have h9:j < e3.size:=h;omega)⟩),hm.g⟩
structure qH (l:List Ny):Prop where
 fine:∀x∈l,cL5 x
 rise:∀(j:Nat) (x y:Ny),l[j]?=some x->l[j+1]?=some y->yN x y < 0
 once:∀(j k:Nat) (x y:Ny),j < k->l[j]?=some x->l[k]?=some y->¬(x.dk=y.dk/\x.no=y.no)
theorem bP8:qH []:=⟨(fun _ h=>by cases h),(fun _ _ _ h=>by simp at h),(fun _ _ _ _ _ h=>by simp at h)⟩
def uL(e o:Ny):Bool:=o.dk.toList==e.dk.toList&&decide (o.no=e.no)
theorem dQ8{e o:Ny}:uL e o=true↔o.dk=e.dk/\o.no=e.no:=by
 unfold uL
 rw [Bool.and_eq_true,beq_iff_eq,decide_eq_true_eq]
 exact ⟨fun h=>⟨yW h.1,h.2⟩,fun h=>⟨by rw [h.1],h.2⟩⟩
theorem cQ7{α:Type}{l:List α}{i j:Nat}{x:α}(h:(l.take i)[j]?=some x):j < i/\l[j]?=some x:=by
 rw [List.getElem?_take] at h
 split at h
 ·rename_i hj;exact ⟨hj,h⟩
 ·cases h
theorem qH.snoc{l:List Ny}{i:Nat}{x:Ny}(h:qH (l.take i))(hx:l[i]?=some x)(hf:cL5 x)(ho:∀p,0 < i->l[i - 1]?=some p->yN p x < 0)(hs:(l.take i).any (uL x)=false):qH (l.take (i+1)):=by
 have hlt:=(List.getElem?_eq_some_iff.1 hx).1
 have hat:∀j y,(l.take (i+1))[j]?=some y->(j < i/\(l.take i)[j]?=some y)∨(j=i/\y=x):=fun j y hj=>by
  obtain ⟨h1,h2⟩:=cQ7 hj
  rcases (show j < i∨j=i by omega) with h9|h9
  ·exact .inl ⟨h9,by rw [List.getElem?_take,if_pos h9];exact h2⟩
  ·subst h9;rw [hx] at h2;exact .inr ⟨rfl,by injection h2 with e;exact e.symm⟩
 refine ⟨fun y hy=>?_,fun j y z h1 h2=>?_,fun j k y z hjk h1 h2=>?_⟩
 ·rw [List.take_add_one,hx,Option.toList_some] at hy
  rcases List.mem_append.1 hy with hy|hy
  ·exact h.fine y hy
  ·rw [List.mem_singleton.1 hy];exact hf
 ·rcases hat _ _ h2 with ⟨h3,h4⟩|⟨h3,rfl⟩
  ·rcases hat _ _ h1 with ⟨_,h6⟩|⟨h5,_⟩
   ·exact h.rise j y z h6 h4
   ·omega
  ·have h5:=(cQ7 h1).2
   exact ho y G (by rw [<-h3,Nat.add_sub_cancel];exact h5)
 ·rcases hat _ _ h2 with ⟨h3,h4⟩|⟨h3,rfl⟩
  ·rcases hat _ _ h1 with ⟨_,h6⟩|⟨h5,_⟩
   ·exact h.once j k y z hjk h6 h4
   ·omega
  ·rcases hat _ _ h1 with ⟨_,h6⟩|⟨h5,_⟩
   ·intro e
    rw [List.any_eq_false] at hs
    exact hs y (fZ9 h6) (dQ8.2 e)
   ·omega
theorem dR8(o0:Int)(o1:M)(o2:Int)(o3:M)(e0:Int)(e1:M)(e2:Int)(e3:M)(gk:Nat)(w:World)(hk:Blk w gk 128 [J e0,U e1,J e2,U e3]):Calls prog 52 #[.agg #[J o0,U o1,J o2,U o3],.pointer (some ⟨gk,0,none⟩)] w (fun e w'=>e=.returned (.bool (uL (⟨e0,e1,e2,e3⟩:Ny) (⟨o0,o1,o2,o3⟩:Ny)))/\w.grownBy w' none):=by
 refine cY ⟨16,w,none, []⟩ func52 D ntmps52 D (fZ (X:= [eC w.heap.size none gk 128 [J e0,U e1,J e2,U e3]]) (cC hk.old cZ) (cE eC.lasts dA)) (bX (fS D D D fun g1=>cG D (bU (bX (dZ pO D D (eO fR 0 D D D (dZ pO D D (W (cH (v:=U e1) fR D (fun _ hm=>(hm.fact 0 D).2) D) D (W (eS D D) D (bS D ?_))))))))))
 rcases Bool.eq_false_or_eq_true (o1.toList==e1.toList) with hb2|hb2
 ·refine bO 9 D (fW9 hb2) ?_
  refine eN D (dZ qS D D (eN D (eO fM 0 D D D (eN D (dZ qS D D (eN D (W (cH (v:=J e2) fM D (fun _ hm=>(hm.fact 0 D).2) D) D (eN D (W (eT D D) D (mS D D (cG D (bU (bR ?_)))))))))))))
  refine bQ D D fun wx hm=>?_
  refine ⟨?_,hm.g⟩
  unfold uL
  simp_all
 refine bO 9 D (fW9 hb2) (eE D (eE D (eE D (eE D (eE D (nV D D (cG D (bU (bR ?_)))))))))
 refine bQ D D fun wx hm=>?_
 refine ⟨?_,hm.g⟩
 unfold uL
 simp_all
theorem dQ3(l:List Ny)(A:Option Addr)(n c0:Nat)(e0:Int)(e1:M)(e2:Int)(e3:M)(gk:Nat)(w:World)(hl:SlT fJ 4 128 w A n l)(hn:n<=1000000)(hk:Blk w gk 128 [J e0,U e1,J e2,U e3]):Calls prog 90 #[H A n c0,.func (.func 52) #[] #[.pointer (some ⟨gk,0,none⟩)]] w (nG w (kL (uL (⟨e0,e1,e2,e3⟩:Ny)) l 0)):=by
 refine cY ⟨19,w,none, []⟩ func90 D ntmps90 D (fZ (X:= [bT fJ 4 128 w.heap.size none A n l,eC w.heap.size none gk 128 [J e0,U e1,J e2,U e3]]) (cC hl.old (cC hk.old cZ)) (cE bT.lasts (cE eC.lasts dA))) (bX ?_)
 have hlen:=hl.len
 refine cG D (bU (bJ (bX (bS D (W (dP vX D) D (bS D (bU (bP ?_))))))))
 refine dS (γ:=Nat) (fun (i:Nat)=>i<=n/\kL (uL (⟨e0,e1,e2,e3⟩:Ny)) l 0=kL (uL (⟨e0,e1,e2,e3⟩:Ny)) (l.drop i) i) (fun (i:Nat)=> [(0,H A n c0),(1,.func (.func 52) #[] #[.pointer (some ⟨gk,0,none⟩)]),(7,I n),(8,I i)]) (fun (i:Nat)=>fun _=>True) (fun (i:Nat)=> []) (fun (i:Nat)=> []) (fun (i:Nat)=> [bT fJ 4 128 w.heap.size none A n l,eC w.heap.size none gk 128 [J e0,U e1,J e2,U e3]]) (fun (i:Nat)=>n - i) 0 ⟨Nat.zero_le _,D⟩ ⟨D,D,D,D,bB⟩ (fun _ hm=>hm.pick [] [] [0,1] D D) ?_
 intro i bZ
 replace bZ:i<=n/\kL (uL (⟨e0,e1,e2,e3⟩:Ny)) l 0=kL (uL (⟨e0,e1,e2,e3⟩:Ny)) (l.drop i) i:=bZ
 refine bX (W (dF D D) D (bU (bJ ?_)))
 refine cN D (fun hi=>?_) (fun hi=>?_)
 ·refine bN (bG (bJ (bP (bX ?_))))
  obtain ⟨b,off,hA,_,_⟩:=hl.get G
  subst hA
  obtain ⟨x,hx⟩:∃x,l[i]?=some x:=⟨_,fY9 G⟩
  obtain ⟨o0,o1,o2,o3⟩:=x
  have hat:=bS1 (p:=uL (⟨e0,e1,e2,e3⟩:Ny)) hx
  refine bS D (cG D (bU (bX (bS D (bS D (bS D (W (bV (j:=i) vX D D G) D (W (dR (vs:= [J o0,U o1,J o2,U o3]) kU D (fun _ hm=>(hm.fact 0 D).1) hx D D) D (cR D fN7 D D (fun wx hm=>(dR8 o0 o1 o2 o3 e0 e1 e2 e3 gk wx (hm.fact 1 D).2)) (bU ?_))))))))))
  refine dE D (fun hh=>?_) (fun hh=>?_)
  ·have hq:(uL (⟨e0,e1,e2,e3⟩:Ny) (⟨o0,o1,o2,o3⟩:Ny))=true:=by simpa using hh
   refine bX (bS D (cG D (bU (bR (C (F (F (C (F ?_)))))))))
   exact bQ D D fun wx hm=>⟨cL (by rw [bZ.2,hat,if_pos hq]),hm.g⟩
  have hq:(uL (⟨e0,e1,e2,e3⟩:Ny) (⟨o0,o1,o2,o3⟩:Ny))=false:=by simpa using hh
  refine bN (bK (bG (bM (fY D D (bS D (bH ?_))))))
  exact cQ (i+1) ⟨G,by rw [bZ.2,hat,if_neg (by rw [hq];decide)]⟩ G ⟨D,D,D,(cP G),bB⟩ (fun _ hm=>hm.pick [] [] [0,1] D D)
 refine dD (bI (bI (bY (bG (bX (cG D (bO 4 (v':=J (-1)) D D (bU (bR ?_)))))))))
 exact bQ D D fun wx hm=>⟨cL (by rw [bZ.2,List.drop_eq_nil_of_le G];rfl),hm.g⟩
theorem cY4(l:List Ny)(A:Option Addr)(n c0:Nat)(e0:Int)(e1:M)(e2:Int)(e3:M)(gk:Nat)(w:World)(hl:SlT fJ 4 128 w A n l)(hn:n<=1000000)(hk:Blk w gk 128 [J e0,U e1,J e2,U e3]):Calls prog 51 #[H A n c0,.func (.func 52) #[] #[.pointer (some ⟨gk,0,none⟩)]] w (fun e w'=>e=.returned (.bool (l.any (uL (⟨e0,e1,e2,e3⟩:Ny))))/\w.grownBy w' none):=by
 refine cY ⟨9,w,none, []⟩ func51 D ntmps51 D (fZ (X:= [bT fJ 4 128 w.heap.size none A n l,eC w.heap.size none gk 128 [J e0,U e1,J e2,U e3]]) (cC hl.old (cC hk.old cZ)) (cE bT.lasts (cE eC.lasts dA))) (bX (cG D (bU (bX (bS D (bS D (cR D fL8 D D (fun wx hm=>(dQ3 l A n c0 e0 e1 e2 e3 gk wx (hm.fact 0 D).1 hn (hm.fact 1 D).2)) (W (mE D D) D (cG D (bU (bR ?_)))))))))))
 exact bQ D D fun wx hm=>⟨by rw [<-cB7],hm.g⟩
theorem bC7(l:List Ny)(A:Option Addr)(n c0:Nat)(w:World)(hl:SlT fJ 4 128 w A n l)(hn:n<=1000000)(hcap:n<=c0)(hsz:∀x∈l,vN x):Calls prog 20 #[H A n c0] w (fun e w'=>∃E,e=.returned (J E)/\(E=0->l.length<=1000/\qH l)/\w.grownBy w' none):=by
 refine cY ⟨39,w,none, []⟩ func20 D ntmps20 D (fZ (X:= [bT fJ 4 128 w.heap.size none A n l]) (cC hl.old cZ) (cE bT.lasts dA)) (bX ?_)
 have hlen:=hl.len
 refine cG D (bU (bJ (bX (bS D (W (dP vX D) D (W (eM D D) D (bU ?_)))))))
 refine cN D (fun hbig=>?_) (fun hbig=>?_)
 ·refine bX (cG D (bU ?_))
  refine bR (F ?_)
  exact bQ D D fun wx hm=>⟨_,D,(fun h=>absurd h bD),hm.g⟩
 refine bN (bG (bJ (bX (bS D (W (dP vX D) D (bS D (bU (bP ?_))))))))
 refine dS (γ:=Nat) (fun (i:Nat)=>i<=n/\qH (l.take i)) (fun (i:Nat)=> [(0,H A n c0),(9,H A n c0),(10,I n),(11,I i)]) (fun (i:Nat)=>fun _=>True) (fun (i:Nat)=> []) (fun (i:Nat)=> []) (fun (i:Nat)=> [bT fJ 4 128 w.heap.size none A n l]) (fun (i:Nat)=>n - i) 0 ⟨Nat.zero_le _,bP8⟩ ⟨D,D,D,D,bB⟩ (fun _ hm=>hm.pick [] [] [0] D D) ?_
 intro i bZ
 replace bZ:i<=n/\qH (l.take i):=bZ
 refine bX (W (dF D D) D (bU (bJ ?_)))
 refine cN D (fun hi=>?_) (fun hi=>?_)
 ·refine bN (bG (bJ (bP (bX ?_))))
  obtain ⟨b,off,hA,_,_⟩:=hl.get G
  subst hA
  obtain ⟨x,hx⟩:∃x,l[i]?=some x:=⟨_,fY9 G⟩
  obtain ⟨e0,e1,e2,e3⟩:=x
  have hez:=hsz _ (fZ9 hx)
  refine bS D (W (bV (j:=i) vX D D G) D (W (dR (vs:= [J e0,U e1,J e2,U e3]) kU D (fun _ hm=>(hm.fact 0 D).1) hx D D) D (dM cJ5 D fun g1=>cG D (kE (cs':= [J e0,U e1,J e2,U e3]) 0 kU D D D D (bU (bJ (bX (W (dG kU D (fun _ hm=>hm.blkI 0 D) D D) D ?_))))))))
  refine fK (γ:=Int) (val:=(fun g=>J g)) (φ:=(fun g=>g=0->cL5 (⟨e0,e1,e2,e3⟩:Ny))) (Y:=(fun g=>fun _=>True)) D fM7 D D (fun wx hm=>(cE3 e0 e1 e2 e3 wx hez).mono fun _ _ ⟨E,he,h1,hg⟩=>⟨E,he,h1,hg,bB⟩) (fun _=>Lasts2.true_) ?_
  rintro E hfi
  refine cG D (bU (bX (bS D (W (gN D D) D (bU ?_)))))
  refine gL D (fun hE=>?_) (fun hE=>?_)
  ·refine bX (bS D (cG D (bU ?_)))
   refine bR (F (C (F (F (C (F ?_))))))
   exact bQ D D fun wx hm=>⟨_,D,(fun h=>by rw [h] at hE;simp at hE),hm.g⟩
  refine bN (bG (bJ (bJ ?_)))
  have hfine:=hfi (by simpa using hE)
  by_cases hi0:i=0
  ·have ho:∀p,0 < i->l[i - 1]?=some p->yN p (⟨e0,e1,e2,e3⟩:Ny) < 0:=fun _ h=>absurd h G
   refine gd (fun wz=>True) mixed (fun _ _=>bB) fun z=>wq 0 D (bL D) (wq 1 D (eM D D) (dI 22 (v':= .bool false) D (fW9 (by simp;omega)) (wq 2 D (bL D) (eL 3 D (eL 4 D (eL 5 D (eL 6 D (eL 7 D (eD 8 D (eE D (bH (nw 12 511 (fun _ _=>bB) fun z=>eL 9 D (eL 10 D (wq 11 D (eZ D D) (gY (bG (jK D (bN (bG (bX (bS D (bS D (W (qN (hi:=i) vX D D D G) D (W (pL D D) D (cR D fN4 D D (fun wx hm=>(cY4 (l.take i) _ i _ e0 e1 e2 e3 _ wx ((hm.fact 1 D).1.takeT G) G (hm.blkI 0 D))) (bU ?_))))))))))))))))))))))))))
   refine dE D (fun hh=>?_) (fun hh=>?_)
   ·have hs:((l.take i).any (uL (⟨e0,e1,e2,e3⟩:Ny)))=true:=by simpa using hh
    refine bX (cG D (bU (bR (C (F (F (C (F ?_))))))))
    exact bQ D D fun wx hm=>⟨_,D,(fun h=>absurd h bD),hm.g⟩
   have hs:((l.take i).any (uL (⟨e0,e1,e2,e3⟩:Ny)))=false:=by simpa using hh
   refine bN (bK (bG (bM (fY D D (bS D (bH ?_))))))
   exact cQ (i+1) ⟨G,bZ.2.snoc hx hfine ho (by simpa using hs)⟩ G ⟨D,D,D,(cP G),bB⟩ (fun _ hm=>hm.pick [] [] [1] D D)
  obtain ⟨pe,hpe⟩:∃x,l[i - 1]?=some x:=⟨_,fY9 G⟩
  have hpz:=hsz _ (fZ9 hpe)
  obtain ⟨p0,p1,p2,p3⟩:=pe
  refine gd (fun wz=>Blk wz g1 128 [J e0,U e1,J e2,U e3]/\(bT fJ 4 128 w.heap.size none (some ⟨b,off,none⟩) n l) wz/\True) mixed (fun _ hm=>⟨hm.bl 0,hm.fa 1,bB⟩) fun z=>wq 0 D (bL D) (wq 1 D (eM D D) (dI 22 (v':= .bool true) D (fW9 (by simp;omega)) (wq 2 D (bL D) (eU 3 D (bL D) (eU 4 D (bL D) (eU 5 D (ov_sub D D G G) (dI 26 (v':=I (i - 1)) D (fX9 G) (eU 6 D (bV (j:=i - 1) vX D D G) (eU 7 D (dR (vs:= [J p0,U p1,J p2,U p3]) kU D (fun _ hm=>(hm.2.1).1) hpe D D) (eU 8 D (dG kU D (fun _ hm=>hm.1) D D) (eD 9 D (eN D (cR D fM4 D D (fun wx hm=>(bM1 p0 p1 p2 p3 e0 e1 e2 e3 wx hpz hez)) (bH (nw 12 1023 (fun _ hm=>⟨hm.bl 0,hm.fa 1,bB⟩) fun z=>eU 10 D (mE D D) (wq 11 D (fG D D) (gY (bG ?_))))))))))))))))))
  refine cN D (fun ho9=>?_) (fun ho9=>?_)
  ·refine bX (cG D (bU ?_))
   refine bR (F (C (F (F (C (F ?_))))))
   exact bQ D D fun wx hm=>⟨_,D,(fun h=>absurd h bD),hm.g⟩
  refine bN (bG (bX ?_))
  have ho:∀p,0 < i->l[i - 1]?=some p->yN p (⟨e0,e1,e2,e3⟩:Ny) < 0:=fun p _ hp=>by
   rw [hpe] at hp;injection hp with e;rw [<-e]
   omega
  refine bS D (bS D (W (qN (hi:=i) vX D D D G) D (W (pL D D) D (cR D fN4 D D (fun wx hm=>(cY4 (l.take i) _ i _ e0 e1 e2 e3 _ wx ((hm.fact 1 D).1.takeT G) G (hm.blkI 0 D))) (bU ?_)))))
  refine dE D (fun hh=>?_) (fun hh=>?_)
  ·have hs:((l.take i).any (uL (⟨e0,e1,e2,e3⟩:Ny)))=true:=by simpa using hh
   refine bX (cG D (bU (bR (C (F (F (C (F ?_))))))))
   exact bQ D D fun wx hm=>⟨_,D,(fun h=>absurd h bD),hm.g⟩
  have hs:((l.take i).any (uL (⟨e0,e1,e2,e3⟩:Ny)))=false:=by simpa using hh
  refine bN (bK (bG (bM (fY D D (bS D (bH ?_))))))
  exact cQ (i+1) ⟨G,bZ.2.snoc hx hfine ho (by simpa using hs)⟩ G ⟨D,D,D,(cP G),bB⟩ (fun _ hm=>hm.pick [] [] [1] D D)
 refine dD (bI (bI (bY (bG (bX (cG D (bU (bR ?_))))))))
 exact bQ D D fun wx hm=>⟨_,D,(fun _=>⟨G,by have h9:=bZ.2;rw [List.take_of_length_le G] at h9;exact h9⟩),hm.g⟩
theorem eD2{s:M}(h:keyB s=true):s.size<=100:=by
 have e:s.size=s.data.toList.length:=Array.length_toList.symm
 rw [e]
 unfold keyB at h
 cases hs:s.data.toList with
 |nil=>exact Nat.zero_le _
 |cons c r=>
  rw [hs] at h
  unfold cM4 at h
  simp only [Bool.and_eq_true,decide_eq_true_eq] at h
  rw [List.length_cons];omega
theorem bE9(l:List Ny)(A:Option Addr)(n c0:Nat)(w:World)(hl:SlT fJ 4 128 w A n l)(hn:n<=1000)(hr:qH l):Calls prog 55 #[H A n c0] w (fun e w'=>e=.returned (J 0)/\w.grownBy w' none):=by
 refine cY ⟨74,w,none, []⟩ func55 D ntmps55 D (fZ (X:= [bT fJ 4 128 w.heap.size none A n l]) (cC hl.old cZ) (cE bT.lasts dA)) (bX ?_)
 have hlen:=hl.len
 refine cG D (bU (bJ (bX (bS D (W (dP vX D) D (W (eM D D) D (bO 9 (v':= .bool false) D (fW9 (decide_eq_false G)) (bU (jK D (bN (bG (bX (mH (enc:=vB) (ek:=nN) (fun g=>True) (fun _ hm=>bB) D fun gm hne_gm=>cG D (bU (bJ (bX (bS D (W (dP vX D) D (bS D (bU (bP ?_)))))))))))))))))))))
 refine dS (γ:=Nat×(M×Int->Option Bool)) (fun (gq:Nat×(M×Int->Option Bool))=>gq.1<=n/\∀k,(gq.2 k).getD false=true->∃x∈l.take gq.1,(x.dk,x.no)=k) (fun (gq:Nat×(M×Int->Option Bool))=> [(0,H A n c0),(3,.map (some gm)),(11,H A n c0),(12,I n),(13,I (gq.1))]) (fun (gq:Nat×(M×Int->Option Bool))=>fun _=>True) (fun (gq:Nat×(M×Int->Option Bool))=> []) (fun (gq:Nat×(M×Int->Option Bool))=> []) (fun (gq:Nat×(M×Int->Option Bool))=> [cB vB nN w.heap.size gm (gq.2),bT fJ 4 128 w.heap.size none A n l]) (fun (gq:Nat×(M×Int->Option Bool))=>n - gq.1) (0,pD) ⟨Nat.zero_le _,fun _ h=>by cases h⟩ ⟨D,D,D,D,D,bB⟩ (fun _ hm=>hm.pick [] [] [0,1] D D) ?_
 rintro ⟨i,F'⟩ bZ
 replace bZ:i<=n/\∀k,(F' k).getD false=true->∃x∈l.take i,(x.dk,x.no)=k:=bZ
 dsimp only
 refine bX (W (dF D D) D (bU (bJ ?_)))
 refine cN D (fun hi=>?_) (fun hi=>?_)
 ·refine bN (bG (bJ (bP (bX ?_))))
  obtain ⟨b,off,hA,_,_⟩:=hl.get G
  subst hA
  obtain ⟨x,hx⟩:∃x,l[i]?=some x:=⟨_,fY9 G⟩
  obtain ⟨e0,e1,e2,e3⟩:=x
  obtain ⟨f0,f1,f2,f3,f4⟩:=hr.fine _ (fZ9 hx)
  dsimp only at f0 f1 f2 f3 f4
  have hkz:=eD2 f1
  have hnew:(F' (e1,e2)).getD false=false:=by
   cases hq:(F' (e1,e2)).getD false with
   |false=>rfl
   |true=>
    obtain ⟨y,hy,e⟩:=bZ.2 _ hq
    obtain ⟨j,hj⟩:=List.mem_iff_getElem?.1 hy
    obtain ⟨hj1,hj2⟩:=cQ7 hj
    exact absurd ⟨congrArg Prod.fst e,congrArg Prod.snd e⟩ (hr.once j i y _ hj1 hj2 hx)
  by_cases hi0:i=0
  ·refine bS D ?_
   refine W (bV (j:=i) vX D D G) D (W (dR (vs:= [J e0,U e1,J e2,U e3]) kU D (fun _ hm=>(hm.fact 1 D).1) hx D D) D (dM cJ5 D fun g1=>cG D (kE (cs':= [J e0,U e1,J e2,U e3]) 0 kU D D D D (bU (bX (dZ pO D D (eO fR 0 D D D (dZ qS D D (eO fM 0 D D D (W (dL (cs:= [U e1,J e2]) D bC) D (dM eK9 D fun g2=>kE (cs':= [U e1,J e2]) 0 cX4 D D D D (bU (bJ (bP (bX (dZ mZ D D (eO fM 1 D D D (cR D fS4 D D (fun wx hm=>((zM _ wx).mono fun _ _ ⟨he,hw⟩=>⟨he,hw ▸ World.grownBy.refl _ _⟩)) (W (cS D) D (bO 27 (v':= .bool false) D (fW9 (by rw [f0];rfl)) (cG D (bU (jK D (bX (dZ pO D D (eO fR 1 D D D (dC D bW2 D D (fun wx hm=>(isKey_any _ wx G)) ?_)))))))))))))))))))))))))))
   refine W (cS D) D (bO 32 (v':= .bool false) D (fW9 (by rw [f1];rfl)) (cG D (bU (jK D (bX (dZ qS D D (eO fM 1 D D D (dC D pS D D (fun wx hm=>(in_any _ _ _ wx)) (W (cS D) D (bO 37 (v':= .bool false) D (fW9 (by rw [f2];rfl)) (cG D (bU (jK D (bX (dZ rK D D (eO fR 1 D D D (W (eS D D) D (bO 41 (v':= .bool false) D (fW9 (by rw [nM];exact decide_eq_false (fun e=>by rw [e] at f3;exact absurd f3.1 bD))) (bS D (eN D (dZ rK D D (eN D (eO fR 1 D D D (eN D (W (zT us9 D) D (eN D (W (eM D D) D (bO 46 (v':= .bool false) D (fW9 (by exact decide_eq_false G)) ?_))))))))))))))))))))))))))))
   refine nV D D (bS D (eN D (dZ rK D D (eN D (eO fR 1 D D D (eN D (cR D fT4 D D (fun wx hm=>(bS8 e3 wx G f4)) (eN D (W (cS D) D (bO 52 (v':= .bool false) D (fW9 (by rfl)) (nV D D (cG D (bU (jK D (bJ (gd (fun wz=>True) mixed (fun _ _=>bB) fun z=>wq 0 D (bL D) (wq 1 D (eM D D) (dI 56 (v':= .bool false) D (fW9 (by simp;omega)) (wq 2 D (bL D) (eL 3 D (eL 4 D (eL 5 D (eL 6 D (eL 7 D (eD 8 D (eE D (bH (nw 13 511 (fun _ _=>bB) fun z=>?_))))))))))))))))))))))))))))
   refine eL 9 D (eL 10 D (wq 11 D (eZ D D) (wq 12 D (dB D) (gY (bG (jK D (bX (bS D (W (dG cX4 D (fun _ hm=>hm.blkI 0 D) D D) D (W (mF (enc:=vB) (ek:=nN) (s:=(e1,e2)) (e:=4) false cC7 bC bC D D (fun _ hm=>(hm.fact 0 D))) D (bO 70 (v':= .bool false) D (fW9 hnew) (cG D (bU (jK D (bN (bK (bG (bM (bS D (W (dG cX4 D (fun _ hm=>hm.blkI 0 D) D D) D (kZ (enc:=vB) (ek:=nN) (s:=(e1,e2)) (v:=true) (e:=4) (X':= [bT fJ 4 128 w.heap.size none (some ⟨b,off,none⟩) n l]) 0 cC7 bC D D D D (cX (i:=1) bT.mfar.far D gK) (bH (bK (bG (bM (fY D D (bS D (bH ?_))))))))))))))))))))))))))))
   exact cQ (i+1,gZ F' (e1,e2) true) ⟨bE,fun k hk=>by
    dsimp only at hk ⊢
    by_cases e:k=(e1,e2)
    ·exact ⟨_,fZ9 (i:=i) (by rw [List.getElem?_take,if_pos (Nat.lt_succ_self i)];exact hx),e.symm⟩
    rw [dN _ _ e] at hk
    obtain ⟨y,hy,e2⟩:=bZ.2 k hk
    refine ⟨y,?_,e2⟩
    rw [List.take_add_one]
    exact List.mem_append_left _ hy⟩ bE ⟨D,D,D,D,(cP bE),bB⟩ (fun _ hm=>hm.pick [] [] [0,1] D D)
  obtain ⟨pe,hpe⟩:∃x,l[i - 1]?=some x:=⟨_,fY9 G⟩
  have ho:=hr.rise (i - 1) _ _ hpe (by rw [show i - 1+1=i by omega];exact hx)
  obtain ⟨p0,p1,p2,p3⟩:=pe
  refine bS D (W (bV (j:=i) vX D D G) D (W (dR (vs:= [J e0,U e1,J e2,U e3]) kU D (fun _ hm=>(hm.fact 1 D).1) hx D D) D (dM cJ5 D fun g3=>cG D (kE (cs':= [J e0,U e1,J e2,U e3]) 0 kU D D D D (bU (bX (dZ pO D D (eO fR 0 D D D (dZ qS D D (eO fM 0 D D D (W (dL (cs:= [U e1,J e2]) D bC) D (dM eK9 D fun g4=>kE (cs':= [U e1,J e2]) 0 cX4 D D D D (bU (bJ (bP (bX (dZ mZ D D (eO fM 1 D D D (cR D fS4 D D (fun wx hm=>((zM _ wx).mono fun _ _ ⟨he,hw⟩=>⟨he,hw ▸ World.grownBy.refl _ _⟩)) (W (cS D) D (bO 27 (v':= .bool false) D (fW9 (by rw [f0];rfl)) (cG D (bU (jK D (bX (dZ pO D D (eO fR 1 D D D ?_)))))))))))))))))))))))))))
  refine dC D bW2 D D (fun wx hm=>(isKey_any _ wx G)) (W (cS D) D (bO 32 (v':= .bool false) D (fW9 (by rw [f1];rfl)) (cG D (bU (jK D (bX (dZ qS D D (eO fM 1 D D D (dC D pS D D (fun wx hm=>(in_any _ _ _ wx)) (W (cS D) D (bO 37 (v':= .bool false) D (fW9 (by rw [f2];rfl)) (cG D (bU (jK D (bX (dZ rK D D (eO fR 1 D D D (W (eS D D) D (bO 41 (v':= .bool false) D (fW9 (by rw [nM];exact decide_eq_false (fun e=>by rw [e] at f3;exact absurd f3.1 bD))) (bS D (eN D (dZ rK D D (eN D (eO fR 1 D D D (eN D (W (zT us9 D) D (eN D (W (eM D D) D (bO 46 (v':= .bool false) D (fW9 (by exact decide_eq_false G)) ?_)))))))))))))))))))))))))))))
  refine nV D D (bS D (eN D (dZ rK D D (eN D (eO fR 1 D D D (eN D (cR D fT4 D D (fun wx hm=>(bS8 e3 wx G f4)) (eN D (W (cS D) D (bO 52 (v':= .bool false) D (fW9 (by rfl)) (nV D D (cG D (bU (jK D (bJ (gd (fun wz=>Blk wz g3 128 [J e0,U e1,J e2,U e3]/\(bT fJ 4 128 w.heap.size none (some ⟨b,off,none⟩) n l) wz/\True) mixed (fun _ hm=>⟨hm.bl 1,hm.fa 1,bB⟩) fun z=>wq 0 D (bL D) (wq 1 D (eM D D) (dI 56 (v':= .bool true) D (fW9 (by simp;omega)) (wq 2 D (bL D) (eU 3 D (bL D) (eU 4 D (bL D) (eU 5 D (ov_sub D D G G) (dI 60 (v':=I (i - 1)) D (fX9 G) (eU 6 D (bV (j:=i - 1) vX D D G) (eU 7 D (dR (vs:= [J p0,U p1,J p2,U p3]) kU D (fun _ hm=>(hm.2.1).1) hpe D D) (eU 8 D (dG kU D (fun _ hm=>hm.1) D D) (eD 9 D (eN D ?_))))))))))))))))))))))))))))
  refine cR D fP8 D D (fun wx hm=>(dZ7 p0 p1 p2 p3 e0 e1 e2 e3 wx)) (bH (nw 13 1023 (fun _ hm=>⟨hm.bl 1,hm.fa 1,bB⟩) fun z=>eU 10 D (mE D D) (dI 65 (v':= .bool false) D (fW9 (by exact decide_eq_false G)) (wq 11 D (fG D D) (wq 12 D (dB D) (gY (bG (jK D (bX (bS D (W (dG cX4 D (fun _ hm=>hm.blkI 0 D) D D) D (W (mF (enc:=vB) (ek:=nN) (s:=(e1,e2)) (e:=4) false cC7 bC bC D D (fun _ hm=>(hm.fact 0 D))) D (bO 70 (v':= .bool false) D (fW9 hnew) (cG D (bU (jK D (bN (bK (bG (bM (bS D (W (dG cX4 D (fun _ hm=>hm.blkI 0 D) D D) D (kZ (enc:=vB) (ek:=nN) (s:=(e1,e2)) (v:=true) (e:=4) (X':= [bT fJ 4 128 w.heap.size none (some ⟨b,off,none⟩) n l]) 0 cC7 bC D D D D (cX (i:=1) bT.mfar.far D gK) ?_)))))))))))))))))))))))
  refine bH (bK (bG (bM (fY D D (bS D (bH ?_))))))
  exact cQ (i+1,gZ F' (e1,e2) true) ⟨bE,fun k hk=>by
   dsimp only at hk ⊢
   by_cases e:k=(e1,e2)
   ·exact ⟨_,fZ9 (i:=i) (by rw [List.getElem?_take,if_pos (Nat.lt_succ_self i)];exact hx),e.symm⟩
   rw [dN _ _ e] at hk
   obtain ⟨y,hy,e2⟩:=bZ.2 k hk
   refine ⟨y,?_,e2⟩
   rw [List.take_add_one]
   exact List.mem_append_left _ hy⟩ bE ⟨D,D,D,D,(cP bE),bB⟩ (fun _ hm=>hm.pick [] [] [0,1] D D)
 refine dD (bI (bI (bY (bG (bX (cG D (bU (bR ?_))))))))
 exact bQ D D fun wx hm=>⟨D,hm.g⟩
open Go.RowKit Go.MapKept
open Go.ChangeMaps (setBlock)
section
variable {κ α:Type}
def bI0(enc:α->Value)(ek:κ->Value)(N g r:Nat)(f:κ->Option α)(ks:List κ)(m:Nat)(w:World):Prop:=
 N<=r/\∃es ck since seen c0,w.heap[r]?=some (.mapIter (some g) since seen c0)/\w.heap[g]?=some (.map es ck)/\jY enc ek f es ck/\(∀x∈es.toList,x.born < since)/\since<=c0/\since<=ck/\(leftOf es seen).size=m/\ks.Nodup/\
  (∀k,k∈ks↔∃e∈es.toList,e.key=ek k/\seen.contains e.born=true)/\∀k,ks.getLast?=some k->∃e∈es.toList,∃(s0:Array Nat) (v:α),seen=s0.push e.born/\c0=ck/\e.key=ek k/\f k=some v/\e.val=enc v
theorem bI0.kept{enc:α->Value}{ek:κ->Value}{N g r:Nat}{f:κ->Option α}{ks:List κ}{m:Nat}{w w':World}(h:bI0 enc ek N g r f ks m w)(h1:w'.heap[r]?=w.heap[r]?)(h2:w'.heap[g]?=w.heap[g]?):bI0 enc ek N g r f ks m w':=by
 obtain ⟨h0,es,ck,since,seen,c0,hr,hg,hx⟩:=h
 exact ⟨h0,es,ck,since,seen,c0,h1.trans hr,h2.trans hg,hx⟩
theorem bI0.lasts2{enc:α->Value}{ek:κ->Value}{N M' g r:Nat}{row:Option Nat}{Tt:List TypeId}{f:κ->Option α}{ks:List κ}{m:Nat}:Lasts2 M' row Tt (bI0 enc ek N g r f ks m):=
 ⟨fun w w' h hx=>by
  have hx':=hx
  obtain ⟨_,es,ck,since,seen,c0,hr,hg,_⟩:=hx
  exact hx'.kept (h.block r (Array.getElem?_eq_some_iff.1 hr).1 (by simp)) (h.block g (Array.getElem?_eq_some_iff.1 hg).1 (by simp)),
  fun w w' q T c h1 _ _ h3 hx=>by
   have hx':=hx
   obtain ⟨_,es,ck,since,seen,c0,hr,hg,_⟩:=hx
   refine hx'.kept (h3.block r (Array.getElem?_eq_some_iff.1 hr).1 (fun e=>?_)) (h3.block g (Array.getElem?_eq_some_iff.1 hg).1 (fun e=>?_))
   ·have e2:r=q:=by injection e
    subst e2
    rw [h1] at hr;cases hr
   ·have e2:g=q:=by injection e
    subst e2
    rw [h1] at hg;cases hg⟩
theorem cX0{w:World}{r:Nat}{o:Obj}(h:w.heap[r]?=some o)(o':Obj):(setBlock w r o').heap[r]?=some o'/\∀i,i≠r->(setBlock w r o').heap[i]?=w.heap[i]?:=by
 have hlt:=(Array.getElem?_eq_some_iff.1 h).1
 refine ⟨?_,fun i hi=>?_⟩
 ·unfold setBlock
  dsimp only
  rw [Array.getElem?_setIfInBounds_self_of_lt hlt]
 ·unfold setBlock
  dsimp only
  rw [Array.getElem?_setIfInBounds_ne (fun e=>hi e.symm)]
theorem dH7{w:World}{r:Nat}{o:Obj}(h:w.heap[r]?=some o)(o':Obj):w.grownBy (setBlock w r o') (some r):=
 ⟨rfl,rfl,rfl,by simp [setBlock],fun i _ hi=>(cX0 h o').2 i (fun e=>hi (by rw [e]))⟩
end
section
variable {P:Program} {c:Cx} {fL:Array Oper} {Q:Exit->Act->World->Prop} {rest:List Oper} {S:List (Nat×Value)} {K:World->Prop} {L:List (Nat×TypeId×List Value)} {O:List Own} {X X':List (World->Prop)} {Z:World->Prop} {nn:Nat}
variable {d:Nat} {ty:TypeId} {pos:String} {aft:Array Edge} {κ α:Type} {enc:α->Value} {ek:κ->Value} {f:κ->Option α}
theorem gB.itered{w:World}{r:Nat}{a:Option Nat}{b:Nat}{s:Array Nat}{q:Nat}{o':Obj}(h:gB c K L O X w)(hg:c.w0.heap.size<=r)(hb:w.heap[r]?=some (.mapIter a b s q))(hX:∀A∈X',A (setBlock w r o')/\Lasts2 c.w0.heap.size c.row c.Tt A):gB c K L O X' (setBlock w r o'):=by
 have hgr:w.grownBy (setBlock w r o') (some r):=dH7 hb o'
 have hne:∀(k:Nat) (cs:Array Value) (T:TypeId) (fz:Nat×Nat),w.heap[k]?=some (.cells cs T fz)->k≠r:=fun k cs T fz hk e=>by
  subst e
  rw [hb] at hk;cases hk
 refine ⟨grow_own h.g hgr (fun k e=>by cases e;exact hg),h.kk.st _ _ _ hg hgr h.k,fun x hx=>⟨(h.b x hx).1,(h.b x hx).2.grown hgr (fun e=>hne _ _ _ _ (h.b x hx).2 (Option.some.inj e))⟩,h.nd,fun s hs=>?_,h.od,h.oo,fun A hA=>(hX A hA).1,h.kk,fun A hA=>(hX A hA).2,h.rs⟩
 refine (h.o s hs).kept hgr ?_
 cases hv:s.v.ownBlock with
 |none=>exact .inl rfl
 |some k=>
  refine .inr (fun e=>?_)
  have e2:k=r:=by injection e
  rcases (h.o s hs).2 with ⟨hn,_⟩|⟨g',eX,uY,hn,_,hh,_⟩
  ·rw [hn] at hv;cases hv
  ·rw [hn] at hv
   have e3:g'=k:=by injection hv
   exact hne _ _ _ _ hh (e3.trans e2)
theorem dN9{t k e:TypeId}{x:Operand}{g N:Nat}(ht:bS5 P t=some (k,e))(hx:rd S x=some (.map (some g)))(hM:∀w,gB c K L O X w->cB enc ek N g f w)(hd:Nat.ble (d+1) c.n=true)
 (h:∀r m,WL P c fL Q rest ((d,.pointer (some ⟨r,0,none⟩))::S) K L O (bI0 enc ek c.w0.heap.size g r f [] m::X)):WL P c fL Q (⟨some d,.range t x,ty,pos,aft,none⟩::rest) S K L O X:=by
 intro a w ha hm
 refine wpList_plain D fun K' hK=>?_
 obtain ⟨_,es,ck,hb,he⟩:=hM w hm
 unfold Oper.wp
 have hr:=run_range_map (P:=P) w t k e g es ck (rO ht) hb
 have:(execOp a.eval ⟨some d,.range t x,ty,pos,aft,none⟩).run P w= .ok (.value (.pointer (some ⟨w.heap.size,0,none⟩))) (w.alloc (.mapIter (some g) ck #[] ck)):=by
  simp [execOp,ha.eval hx,hr,Result.andThen]
 rw [this]
 refine hK _ _ (h w.heap.size (leftOf es #[]).size _ _ (ha.put hd _) ((hm.grow (grow_alloc (World.grownBy.refl w none) _)).also bI0.lasts2 ⟨hm.g.size,es,ck,ck,#[],ck,heap_alloc_new w _,?_,he,he.1.1,Nat.le_refl _,Nat.le_refl _,D,List.nodup_nil,fun k=>?_,fun k hk=>?_⟩))
 ·rw [heap_alloc_old w _ (Array.getElem?_eq_some_iff.1 hb).1];exact hb
 ·constructor
  ·intro hk;cases hk
  ·rintro ⟨e,_,_,hs⟩;simp at hs
 ·simp at hk
theorem eH4{x:Operand}{g r m:Nat}{ks:List κ}(i:Nat)(inj:∀{a b:κ},ek a=ek b->a=b)(hx:rd S x=some (.pointer (some ⟨r,0,none⟩)))(hi:X[i]?=some (bI0 enc ek c.w0.heap.size g r f ks m))(hd:Nat.ble (d+1) c.n=true)
 (h0:(∀k v,f k=some v->k∈ks)->WL P c fL Q rest ((d,.tuple #[.bool false])::S) K L O X)
 (h1:∀k v m',m' < m->f k=some v->k∉ks->WL P c fL Q rest ((d,.tuple #[.bool true,ek k,enc v])::S) K L O [bI0 enc ek c.w0.heap.size g r f (ks++ [k]) m']):WL P c fL Q (⟨some d,.next x false,ty,pos,aft,none⟩::rest) S K L O X:=by
 intro a w ha hm
 refine wpList_plain D fun K' hK=>?_
 obtain ⟨hN,es,ck,since,seen,c0,hr,hb,he,dJ7,hsc,hck,hm0,hnd,hks,_⟩:=hm.fact i hi
 unfold Oper.wp
 rcases run_next_at (P:=P) w ty r g since c0 seen es ck hr hb dJ7 hsc with ⟨hz,xW⟩|⟨e,hel,w1,hw1,xW⟩
 ·have:(execOp a.eval ⟨some d,.next x false,ty,pos,aft,none⟩).run P w= .ok (.value (.tuple #[.bool false])) w:=by
   simp [execOp,ha.eval hx,xW,Result.andThen]
  rw [this]
  refine hK _ _ (h0 (fun k v hv=>?_) _ _ (ha.put hd _) hm)
  obtain ⟨e,hes,hek,_⟩:=(he.2.2 k (enc v)).2 ⟨v,hv,rfl⟩
  refine (hks k).2 ⟨e,hes,hek,?_⟩
  cases hc:seen.contains e.born with
  |true=>rfl
  |false=>
   exfalso
   have hin:e∈leftOf es seen:=by
    unfold leftOf
    exact Array.mem_filter.2 ⟨Array.mem_toList_iff.1 hes,by rw [hc];rfl⟩
   rw [Array.eq_empty_of_size_eq_zero hz] at hin
   exact absurd hin (by simp)
 ·have:(execOp a.eval ⟨some d,.next x false,ty,pos,aft,none⟩).run P w= .ok (.value (.tuple #[.bool true,e.key,e.val])) (setBlock w1 r (.mapIter (some g) since (seen.push e.born) ck)):=by
   simp [execOp,ha.eval hx,xW,Result.andThen]
  rw [this]
  obtain ⟨hes,hsn⟩:=mem_left hel
  obtain ⟨k,hk⟩:=he.2.1 e hes
  obtain ⟨v,hv,hev⟩:=(he.2.2 k e.val).1 ⟨e,hes,hk,rfl⟩
  have hkn:k∉ks:=fun hin=>by
   obtain ⟨e2,he2,hk2,hs2⟩:=(hks k).1 hin
   have:e2=e:=by
    have hnk:=he.1.2.2
    obtain ⟨p,hp,rfl⟩:=List.mem_iff_getElem.1 he2
    obtain ⟨q,hq,rfl⟩:=List.mem_iff_getElem.1 hes
    have:p=q:=by
     have:=(List.getElem_inj (h₀:=by simpa using hp) (h₁:=by simpa using hq) hnk).1 (by rw [List.getElem_map,List.getElem_map,hk,hk2])
     exact this
    subst this;rfl
   rw [this,hsn] at hs2;cases hs2
  have nR:gB c K L O X w1:=by
   rcases hw1 with rfl|rfl
   ·exact hm
   ·exact hm.grow (pY (World.grownBy.refl w none))
  have hr1:w1.heap[r]?=some (.mapIter (some g) since seen c0):=by rcases hw1 with rfl|rfl <;> exact hr
  have hb1:w1.heap[g]?=some (.map es ck):=by rcases hw1 with rfl|rfl <;> exact hb
  have hgr:g≠r:=fun e=>by subst e;rw [hr1] at hb1;cases hb1
  have hlt:=left_shrinks es seen e hel
  rw [hm0] at hlt
  rw [hk,hev]
  refine hK _ _ (h1 k v _ hlt hv hkn _ _ (ha.put hd _) (nR.itered hN hr1 fun A hA=>?_))
  rw [List.mem_singleton.1 hA]
  refine ⟨⟨hN,es,ck,since,seen.push e.born,ck,(cX0 hr1 _).1,by rw [(cX0 hr1 _).2 g hgr];exact hb1,he,dJ7,hck,hck,rfl,?_,fun k2=>?_,fun k2 hk2=>?_⟩,bI0.lasts2⟩
  ·exact List.nodup_append.2 ⟨hnd,by simp,fun a ha b hb e=>hkn (by rw [<-List.mem_singleton.1 hb,<-e];exact ha)⟩
  ·rw [List.mem_append,List.mem_singleton,hks k2]
   constructor
   ·rintro (⟨e2,h2,h3,h4⟩|rfl)
    ·exact ⟨e2,h2,h3,by rw [contains_push,h4];rfl⟩
    ·exact ⟨e,hes,hk,by rw [contains_push,beq_self_eq_true,Bool.or_true]⟩
   ·rintro ⟨e2,h2,h3,h4⟩
    rw [contains_push] at h4
    cases hc:seen.contains e2.born with
    |true=>exact .inl ⟨e2,h2,h3,hc⟩
    |false=>
     rw [hc,Bool.false_or,beq_iff_eq] at h4
     right
     have:e2=e:=by
      obtain ⟨p,hp,rfl⟩:=List.mem_iff_getElem.1 h2
      obtain ⟨q,hq,rfl⟩:=List.mem_iff_getElem.1 hes
      have:p=q:=(List.getElem_inj (h₀:=by simpa using hp) (h₁:=by simpa using hq) he.1.2.1).1 (by simpa using h4)
      subst this;rfl
     rw [this,hk] at h3
     exact (inj h3).symm
  ·rw [List.getLast?_append,List.getLast?_singleton] at hk2
   have hkk:k=k2:=by simpa using hk2
   subst hkk
   exact ⟨e,hes,seen,v,D,D,hk,hv,hev⟩
theorem dA8{x:Operand}{g r m N:Nat}{ks:List κ}{k:κ}{v:α}(hx:rd S x=some (.pointer (some ⟨r,0,none⟩)))(hl:ks.getLast?=some k)(hv:f k=some v)(hm:∀w,Z w->bI0 enc ek N g r f ks m w):OV P nn S Z ⟨some d,.entry x,ty,pos,aft,none⟩ (.tuple #[ek k,enc v]):=fun a w ha hz=>by
 obtain ⟨_,es,ck,since,seen,c0,hr,hb,he,_,_,_,_,_,_,hlast⟩:=hm w hz
 obtain ⟨e,hes,s0,v2,rfl,rfl,hk,xK,hev⟩:=hlast k hl
 have e2:v2=v:=by rw [hv] at xK;injection xK with h;exact h.symm
 subst e2
 have:=run_entry_at (P:=P) w r g since s0 es c0 e hr hb hes he.1.2.1
 simp [execOp,ha.eval hx,this,hk,hev,Result.andThen]
end
end Go.Proofs.YtapdhfjfgpbnnaaGreatDoor
namespace Go.Proofs
open Go.Shelf
def Tryz.lays190_ren:Go.Shelf.Ren:=⟨fun|190=>57|125=>105|258=>104|128=>154|129=>155|302=>145|303=>146|304=>147|305=>148|306=>149|307=>150|308=>151|309=>152|310=>153|333=>186|329=>187|330=>188|334=>189|335=>190|336=>144|344=>217|n=>n,fun|31=>76|9=>9|3=>3|46=>185|0=>0|51=>239|53=>241|4=>4|183=>233|182=>232|131=>117|5=>5|218=>275|222=>279|228=>311|229=>108|n=>n,fun|n=>n⟩
theorem Tryz.lays190:Go.Proofs.Lays.n190 prog Tryz.lays190_ren:={
 mixed:=by kernel_rfl
 f125:=func105.trans (congrArg some (by kernel_rfl))
 f128:=func154.trans (congrArg some (by kernel_rfl))
 f129:=func155.trans (congrArg some (by kernel_rfl))
 f190:=func57.trans (congrArg some (by kernel_rfl))
 f258:=func104.trans (congrArg some (by kernel_rfl))
 f302:=func145.trans (congrArg some (by kernel_rfl))
 f303:=func146.trans (congrArg some (by kernel_rfl))
 f304:=func147.trans (congrArg some (by kernel_rfl))
 f305:=func148.trans (congrArg some (by kernel_rfl))
 f306:=func149.trans (congrArg some (by kernel_rfl))
 f307:=func150.trans (congrArg some (by kernel_rfl))
 f308:=func151.trans (congrArg some (by kernel_rfl))
 f309:=func152.trans (congrArg some (by kernel_rfl))
 f310:=func153.trans (congrArg some (by kernel_rfl))
 f329:=func187.trans (congrArg some (by kernel_rfl))
 f330:=func188.trans (congrArg some (by kernel_rfl))
 f333:=func186.trans (congrArg some (by kernel_rfl))
 f334:=func189.trans (congrArg some (by kernel_rfl))
 f335:=func190.trans (congrArg some (by kernel_rfl))
 f336:=func144.trans (congrArg some (by kernel_rfl))
 f344:=func217.trans (congrArg some (by kernel_rfl))
 t0:=Tryz.underlying0
 a0:=Tryz.isAgg0
 z0:=Tryz.sizeOf0
 v0:=Tryz.zeroValue0
 t3:=Tryz.underlying3
 a3:=Tryz.isAgg3
 z3:=Tryz.sizeOf3
 v3:=Tryz.zeroValue3
 t4:=Tryz.underlying4
 a4:=Tryz.isAgg4
 z4:=Tryz.sizeOf4
 v4:=Tryz.zeroValue4
 t5:=Tryz.underlying5
 a5:=Tryz.isAgg5
 z5:=Tryz.sizeOf5
 v5:=Tryz.zeroValue5
 t9:=Tryz.underlying9
 a9:=Tryz.isAgg9
 z9:=Tryz.sizeOf9
 v9:=Tryz.zeroValue9
 t31:=Tryz.underlying76
 a31:=Tryz.isAgg76
 z31:=Tryz.sizeOf76
 v31:=Tryz.zeroValue76
 t46:=Tryz.underlying185
 a46:=Tryz.isAgg185
 z46:=Tryz.sizeOf185
 v46:=Tryz.zeroValue185
 t51:=Tryz.underlying239
 a51:=Tryz.isAgg239
 z51:=Tryz.sizeOf239
 v51:=Tryz.zeroValue239
 t53:=Tryz.underlying241
 a53:=Tryz.isAgg241
 z53:=Tryz.sizeOf241
 v53:=Tryz.zeroValue241
 t131:=Tryz.underlying117
 a131:=Tryz.isAgg117
 z131:=Tryz.sizeOf117
 v131:=Tryz.zeroValue117
 t182:=Tryz.underlying232
 a182:=Tryz.isAgg232
 z182:=Tryz.sizeOf232
 v182:=Tryz.zeroValue232
 t183:=Tryz.underlying233
 a183:=Tryz.isAgg233
 z183:=Tryz.sizeOf233
 v183:=Tryz.zeroValue233
 t218:=Tryz.underlying275
 a218:=Tryz.isAgg275
 z218:=Tryz.sizeOf275
 v218:=Tryz.zeroValue275
 t222:=Tryz.underlying279
 a222:=Tryz.isAgg279
 z222:=Tryz.sizeOf279
 v222:=Tryz.zeroValue279
 t228:=Tryz.underlying311
 a228:=Tryz.isAgg311
 z228:=Tryz.sizeOf311
 v228:=Tryz.zeroValue311
 t229:=Tryz.underlying108
 a229:=Tryz.isAgg108
 z229:=Tryz.sizeOf108
 v229:=Tryz.zeroValue108 }
end Go.Proofs
namespace Go.Proofs.YtapdhfjfgpbnnaaGreatDoor
open Tryz
open Go.RowKit Go.Sort
theorem cO7:∀l:List M,l.flatMap dU=l.map Value.string
 | []=>rfl
 |x::r=>by rw [List.flatMap_cons,cO7 r];rfl
def baB(l:List UInt8):M:=⟨l.toArray⟩
def mX(l:List M):List M:=((l.map fun b=>b.data.toList).mergeSort fun x y=>decide (x<=y)).map baB
theorem wL(l:List M):(mX l).length=l.length:=by unfold mX;simp
theorem bJ4(l:List M):(mX l).Perm l:=by
 unfold mX
 refine ((List.mergeSort_perm _ _).map baB).trans ?_
 rw [List.map_map]
 have:(baB∘fun b:M=>b.data.toList)=id:=rfl
 rw [this,List.map_id]
theorem dX8(zs:List M)(g n eX base:Nat)(w:World)(h:w.ownsRow base 9 1 (H (some ⟨g,0,none⟩) n eX) n (zs.flatMap dU))(hn:zs.length=n)(qV:n<=1000000):
 Calls prog 57 #[H (some ⟨g,0,none⟩) n eX] w (fun e w'=>e=.returned (.tuple #[])/\w'.ownsRow base 9 1 (H (some ⟨g,0,none⟩) n eX) n ((mX zs).flatMap dU)/\w.grownBy w' (some g)):=by
 subst hn
 obtain ⟨h1,h2⟩:=h
 rcases h2 with ⟨h2,_⟩|⟨g',cap',uY,hv,hbase,hh,hle,hmax,hcs,htk⟩
 ·cases h2
 ·injection hv with hA _ hc
  have hgg:g'=g:=by injection hA with hA;injection hA with hA;exact hA.symm
  subst hgg hc
  rw [Nat.mul_one] at hcs htk
  obtain ⟨ss,hss⟩:∃ss,ss=zs.map fun b:M=>b.data.toList:=⟨_,rfl⟩
  have hsl:ss.length=zs.length:=by rw [hss,List.length_map]
  have hcell:∀j,j < ss.length->uY[j]?=some (encStr ss[j]!):=fun j hj=>by
   have h3:(uY.toList.take zs.length)[j]?=some (encStr ss[j]!):=by
    rw [htk,cO7,List.getElem?_map,fY9 G,Option.map_some]
    congr 1
    rw [getElem!_pos ss j hj]
    subst hss
    rw [List.getElem_map]
    first|done|rfl
   rw [List.getElem?_take,if_pos G] at h3
   simpa using h3
  have hH:Holds encStr w g' 0 ss.toArray:=fun j hj=>by
   have hj':j < ss.length:=by simpa using hj
   refine ⟨?_,?_⟩
   ·rw [Nat.zero_add,cell_of_row w g' j uY _ (0,0) hh,hcell j hj']
    simp [hj']
   ·exact frozen_of_row w g' (0+j) uY _ hh
  have hblk:g' < w.heap.size:=(Array.getElem?_eq_some_iff.1 hh).1
  have hcon:=Any.slices_Sort_string Tryz.lays190 g' 0 eX ss w hH hblk G
  rw [hsl] at hcon
  refine Calls.mono hcon ?_
  rintro e w' ⟨rfl,m,os,rfl⟩
  have hsz:(ss.mergeSort fun x y=>decide (x<=y)).toArray.size=zs.length:=by simp [hsl]
  have hnew:(grow (putRow encStr (Sort.ahead w m) g' 0 (ss.mergeSort fun x y=>decide (x<=y)).toArray) os).heap[g']?=some (.cells (putCells encStr 0 (ss.mergeSort fun x y=>decide (x<=y)).toArray uY) 9 (0,0)):=by
   unfold grow putRow mapBlock Sort.ahead
   simp only
   rw [Array.getElem?_append_left (by simpa using hblk),Array.getElem?_modify,if_pos rfl,hh];rfl
  refine ⟨D,⟨by rw [cO7,List.length_map,wL,Nat.mul_one],.inr ⟨g',eX,_,rfl,hbase,hnew,hle,hmax,by simp [putCells,hcs],?_⟩⟩,⟨D,D,D,by simp [grow,putRow,mapBlock],fun k hk hne=>?_⟩⟩
  ·rw [cO7,Nat.mul_one]
   refine List.ext_getElem? fun j=>?_
   rw [List.getElem?_take]
   by_cases hj:j < zs.length
   ·have hjc:j < uY.size:=G
    have hj2:j < (mX zs).length:=by rw [wL];omega
    have hj3:j < (ss.mergeSort fun x y=>decide (x<=y)).length:=by simpa [hsl] using hj
    rw [if_pos hj,List.getElem?_map,fY9 hj2]
    unfold putCells
    simp only [Array.getElem?_toList,Array.getElem?_mapIdx]
    rw [Array.getElem?_eq_getElem hjc]
    simp only [Option.map_some]
    rw [if_pos (by rw [hsz];omega)]
    congr 1
    simp only [Nat.sub_zero]
    rw [getElem!_pos _ j (by rw [hsz];omega)]
    subst hss
    have hget:(mX zs)[j]=baB ((zs.map fun b=>b.data.toList).mergeSort fun x y=>decide (x<=y))[j]:=by simp only [mX,List.getElem_map]
    rw [hget]
    rfl
   ·rw [if_neg hj,List.getElem?_eq_none (by rw [List.length_map,wL];omega)]
  ·unfold grow putRow mapBlock Sort.ahead
   simp only
   rw [Array.getElem?_append_left (by simpa using hk),Array.getElem?_modify,if_neg (fun e=>hne (by rw [e]))]
theorem eN5{a b:M}(h:dT a=dT b):a=b:=by unfold dT at h;injection h
open Classical in
theorem cO4{α:Type}:∀{l m:List α},l.Nodup->(∀x∈l,x∈m)->l.length<=m.length
 | [],_,_,_=>Nat.zero_le _
 |x::r,m,hn,hs=>by
  have hx:=hs x (List.mem_cons_self ..)
  have h1:=cO4 (l:=r) (m:=m.erase x) (List.nodup_cons.1 hn).2 fun y hy=>(List.mem_erase_of_ne (fun e=>(List.nodup_cons.1 hn).1 (by rw [<-e];exact hy))).2 (hs y (List.mem_cons_of_mem _ hy))
  rw [List.length_erase_of_mem hx] at h1
  have:=List.length_pos_of_mem hx
  rw [List.length_cons];omega
theorem dW8:mX []= []:=by unfold mX;simp
theorem cP1{w:World}{base e sz n:Nat}{v:Value}{xs:List Value}(h:w.ownsRow base e sz v n xs):(v=H none 0 0/\n=0)∨∃br cc,v=H (some ⟨br,0,none⟩) n cc:=by
 obtain ⟨_,h2⟩:=h
 rcases h2 with ⟨h2,h3⟩|⟨g',cap',uY,hv,_⟩
 ·exact .inl ⟨h2,h3⟩
 ·exact .inr ⟨g',cap',hv⟩
theorem dO0(f:M->Option Bk)(gm N0:Nat)(KL:List M)(w:World)(hM:cB pX dT N0 gm f w)(hKL:∀k v,f k=some v->k∈KL)(hb:KL.length<=1000):
 Calls prog 23 #[.map (some gm)] w (fun e w'=>∃v n ks,e=.returned v/\w'.ownsRow w.heap.size 87 6 v n (((mX ks).map fun k=>(f k).getD bk0).flatMap eV)/\ks.Nodup/\(∀k,k∈ks↔(f k).isSome=true)/\ks.length=n/\w.grownBy w' none):=by
 refine cY ⟨34,w,none, []⟩ func23 D ntmps23 D (fZ (X:= []) cZ dA) (bX (cG D (bU (bX (cG D (bU (bJ (bX (bS D ?_)))))))))
 refine dN9 (k:=9) (e:=87) (enc:=pX) (ek:=dT) (f:=f) (N:=N0) bC D (fun _ hm=>hM.kept hm.g (by simp)) D fun gr m=>?_
 refine mA 9 1 ?_
 refine bU (bP ?_)
 refine dS (γ:=List M×Nat×Value×Nat×List Value) (fun (gq:List M×Nat×Value×Nat×List Value)=>(∀k∈gq.1,∃v,f k=some v)/\gq.1.Nodup/\gq.1.length=gq.2.2.2.1/\gq.2.2.2.2=gq.1.flatMap dU) (fun (gq:List M×Nat×Value×Nat×List Value)=> [(0,.map (some gm)),(2,H none 0 0),(3,gq.2.2.1),(9,.pointer (some ⟨gr,0,none⟩))]) (fun (gq:List M×Nat×Value×Nat×List Value)=>fun _=>True) (fun (gq:List M×Nat×Value×Nat×List Value)=> []) (fun (gq:List M×Nat×Value×Nat×List Value)=> [⟨gq.2.2.1,9,1,gq.2.2.2.1,gq.2.2.2.2⟩]) (fun (gq:List M×Nat×Value×Nat×List Value)=> [bI0 pX dT w.heap.size gm gr f gq.1 gq.2.1]) (fun (gq:List M×Nat×Value×Nat×List Value)=>gq.2.1) (([]:List M),m,H none 0 0,0, []) ⟨(fun _ h=>by cases h),List.nodup_nil,D,D⟩ ⟨D,D,D,D,bB⟩ (fun _ hm=>hm.pick [] [0] [0] D D) ?_
 rintro ⟨ks,q,va,nk,xk⟩ bZ
 replace bZ:(∀k∈ks,∃v,f k=some v)/\ks.Nodup/\ks.length=nk/\xk=ks.flatMap dU:=bZ
 dsimp only
 refine bX ?_
 obtain ⟨hin1,hin2,rfl,rfl⟩:=bZ
 have bZ:=And.intro hin1 hin2
 have hkl:ks.length<=KL.length:=cO4 bZ.2 fun k hk=>by obtain ⟨v,hv⟩:=bZ.1 k hk;exact hKL k v hv
 refine eH4 (enc:=pX) (ek:=dT) (f:=f) 0 eN5 D D D (fun qD=>?_) (fun k v q2 hq2 hv hkn=>?_)
 ·have hks:∀k,k∈ks↔(f k).isSome=true:=fun k=>⟨fun hk=>by obtain ⟨v,hv⟩:=bZ.1 k hk;rw [hv];rfl,fun hk=>by obtain ⟨v,hv⟩:=Option.isSome_iff_exists.1 hk;exact qD k v hv⟩
  have hnd:=bZ.2
  refine W (cV D D) D (bU (bJ (jK D (dD (bI (bI (bY (bG (bX (bS D ?_))))))))))
  refine eB (R:=(va=H none 0 0/\ks.length=0)∨∃br cc,va=H (some ⟨br,0,none⟩) ks.length cc) (fun wx hm=>cP1 (hm.ownI 0 D)) ?_
  rintro (⟨rfl,rN⟩|⟨br,cc,rfl⟩)
  ·refine cR D fO4 D D (fun wx hm=>((Any.slices_Sort_string_none Tryz.lays190 none 0 wx).mono fun _ _ ⟨he,hw⟩=>⟨he,hw ▸ World.grownBy.refl _ _⟩)) ?_
   refine bU (bX (cG D (bU (bJ (bX (bS D (W (dP mD D) D (bO 21 (v':=J 0) D D (bS D (bU (bP (fF 1 (eK (bX (W (dF D D) D (bO 23 (v':= .bool false) D (fW9 bD) (bU (bJ (jK D (dD (bI (bI (bY (bG (bX (bS D (cG D (bU (bR ?_)))))))))))))))))))))))))))))
   refine bQ D D fun wx hm=>?_
   refine ⟨_,0,ks,D,?_,hnd,hks,G,hm.g⟩
   rw [List.eq_nil_of_length_eq_zero rN,dW8]
   exact ⟨D,.inl ⟨D,D⟩⟩
  refine bB2 (v:= .tuple #[]) (xs':=(mX ks).flatMap dU) 0 D D D fO4 D D (fun wx hm=>(dX8 ks br ks.length cc _ wx (hm.ownI 0 D) D G)) ?_
  refine bG0 (γ:=Unit) (fun _=>cB pX dT N0 gm f) (fun w hm=>⟨(),hM.kept hm.g (by simp)⟩) (fun _=>cB.lasts2) fun _=>?_
  have hsl:(mX ks).length=ks.length:=wL ks
  refine mA 87 6 ?_
  refine bU (bX (cG D (bU (bJ (bX (bS D (W (dP mD D) D (bS D (bH (bG (bP ?_)))))))))))
  refine dS (γ:=Nat×Value) (fun (gz:Nat×Value)=>gz.1<=ks.length) (fun (gz:Nat×Value)=> [(0,.map (some gm)),(2,H none 0 0),(5,gz.2),(20,H (some ⟨br,0,none⟩) ks.length cc),(21,I (ks.length)),(22,I (gz.1))]) (fun (gz:Nat×Value)=>fun _=>True) (fun (gz:Nat×Value)=> []) (fun (gz:Nat×Value)=> [⟨H (some ⟨br,0,none⟩) ks.length cc,9,1,ks.length,(mX ks).flatMap dU⟩,⟨gz.2,87,6,gz.1,(((mX ks).take gz.1).map fun k=>(f k).getD bk0).flatMap eV⟩]) (fun (gz:Nat×Value)=> [cB pX dT N0 gm f]) (fun (gz:Nat×Value)=>ks.length - gz.1) (0,H none 0 0) (Nat.zero_le _) ⟨D,D,D,D,D,D,bB⟩ (fun _ hm=>hm.pick [] [1,0] [0] D D) ?_
  rintro ⟨j,vo⟩ bZ
  replace bZ:j<=ks.length:=bZ
  dsimp only
  refine bX (W (dF D D) D (bU (bJ ?_)))
  refine cN D (fun hj=>?_) (fun hj=>?_)
  ·refine bN (bG (bJ (bP (bX ?_))))
   obtain ⟨k,hk⟩:∃x,(mX ks)[j]?=some x:=⟨_,fY9 G⟩
   have htk:(((mX ks).take j).map fun k=>(f k).getD bk0)++ [(f k).getD bk0]=((mX ks).take (j+1)).map fun k=>(f k).getD bk0:=by rw [List.take_add_one,hk,Option.toList_some,List.map_append];rfl
   refine W (bV (j:=j) mD D D G) D (W (dH (k:=0) (v:=U k) fR D (fun _ hm=>(SlT.ofOwn mQ (hm.ownI 0 D) hsl)) hk D D) D (cG D (bU (bM (bS D (bS D (bS D (W (mF (enc:=pX) (ek:=dT) (s:=k) (e:=87) bk0 kC bC bC D D (fun _ hm=>(hm.fact 0 D))) D (jN 87 [U ((((f) k).getD bk0).key),U ((((f) k).getD bk0).cls),J ((((f) k).getD bk0).fr),J ((((f) k).getD bk0).to_),J ((((f) k).getD bk0).made),J ((((f) k).getD bk0).odds)] fun g2=>eP (news:= [U ((((f) k).getD bk0).key),U ((((f) k).getD bk0).cls),J ((((f) k).getD bk0).fr),J ((((f) k).getD bk0).to_),J ((((f) k).getD bk0).made),J ((((f) k).getD bk0).odds)]) 1 0 fQ6 D D D D D D D G (by unfold maxLen;omega) D D fun vo2 hvo2=>?_)))))))))
   refine eB (R:=∃A cc,vo2=H A (j+1) cc) (fun wx hm=>dW (hm.ownI 1 D)) ?_
   rintro ⟨oA,oc,rfl⟩
   refine cG D (bH (bK (bG (bM (fY D D (bS D (bH ?_)))))))
   have hx3:(((mX ks).take j).map fun k=>(f k).getD bk0).flatMap eV++([U ((((f) k).getD bk0).key),U ((((f) k).getD bk0).cls),J ((((f) k).getD bk0).fr),J ((((f) k).getD bk0).to_),J ((((f) k).getD bk0).made),J ((((f) k).getD bk0).odds)]:List Value)=(((mX ks).take (j+1)).map fun k=>(f k).getD bk0).flatMap eV:=by rw [<-htk,List.flatMap_append];rfl
   rw [hx3]
   exact cQ (j+1,(H oA (j+1) oc)) (by show _<=_;omega) bE ⟨D,D,D,D,D,(cP bE),bB⟩ (fun _ hm=>hm.pick [] [0,1] [0] D D)
  refine dD (bI (bI (bY (bG (bX (bS D (cG D (bU (bR ?_)))))))))
  refine bQ D D fun wx hm=>?_
  refine ⟨vo,j,ks,D,?_,hnd,hks,G,hm.g⟩
  have h8:=(hm.ownI 1 rfl)
  rw [List.take_of_length_le G] at h8
  exact h8
 refine W (cV D D) D (bU (bJ (mT D (bN (bG (bP (bX (W (dA8 (enc:=pX) (ek:=dT) (ks:=ks++ [k]) (m:=q2) D (by simp) hv (fun _ hm=>hm.fact 0 D)) D (W (cV D D) D (cG D (bU (bM (bS D (bS D (jN 9 [U k] fun g1=>eP (news:= [U k]) 0 0 eX4 D D D D D D D G (by unfold maxLen;omega) D D fun va2 hva2=>?_)))))))))))))))
 refine eB (R:=∃A cc,va2=H A (ks.length+1) cc) (fun wx hm=>dW (hm.ownI 0 D)) ?_
 rintro ⟨kA,kc,rfl⟩
 refine cG D (bH (bK ?_))
 exact cQ (ks++ [k],q2,(H kA (ks.length+1) kc),ks.length+1,ks.flatMap dU++([U k]:List Value)) ⟨fun x hx=>by
  rcases List.mem_append.1 hx with hx|hx
  ·exact bZ.1 x hx
  rw [List.mem_singleton.1 hx];exact ⟨v,hv⟩,List.nodup_append.2 ⟨bZ.2,by simp,fun a ha b hb e=>hkn (by rw [<-List.mem_singleton.1 hb,<-e];exact ha)⟩,by simp,by simp [dU]⟩ hq2 ⟨rfl,rfl,rfl,rfl,bB⟩ (fun _ hm=>hm.pick [] [0] [0] rfl rfl)
theorem cL3(sA cA vA eA:Option Addr)(sn sc cn cc vn vc en ec:Nat)(u3 u4 u5 u6 u7 u8 u9 jR jS jT jU jV jW:Value)(sl:List St)(cl:List Cs)(vl:List Vh)(el:List Ny)(w:World)(hs:SlT stEnc 15 74 w sA sn sl)(hc:SlT dQ 2 53 w cA cn cl)(hv:SlT kG 2 55 w vA vn vl)(he:SlT fJ 4 128 w eA en el)(ht:rP w)(bA4:∀x∈sl,StOk x)(pI:∀x∈cl,pR x)(yC:cn<=1000)(cW6:∀x∈el,dN6 x)(hen:en<=20)(hsn:sn<=1000000)(hvn:vn<=1000000):
 Calls prog 56 #[.agg #[H sA sn sc,H cA cn cc,H vA vn vc,u3,u4,u5,u6,u7,u8,u9,jR,jS,jT,jU,jV,jW],H eA en ec] w (fun e w'=>∃go gv gs gI gF gG gJ gO lv rv σ A n c,e=.returned (.pointer (some ⟨go,0,none⟩))/\((rW (xD vl) (yP sl) (fun b=>gC cl [b]=0) (el.map Ny.at_) σ/\gR σ=cW1 (xD vl) (yP sl) cl el)/\lv=H A n c)/\w.heap.size<=go/\Blk w' go 98 [H sA sn sc,H cA cn cc,H vA vn vc,u3,u4,u5,u6,u7,u8,u9,jR,jS,jT,jU,jV,jW,.map (some gv),.map (some gs),.map (some gI),lv,.map (some gF),.map (some gG),.map (some gJ),.map (some gO),rv]/\SlT eF 5 181 w' A n (dY eJ σ.lg)/\cB pX dT w.heap.size gG σ.fb w'/\cB pZ dT w.heap.size gJ σ.fh w'/\gX 269 σ.fh w'/\w.grownBy w' none):=by
 refine (cG7 w sA cA vA eA sn sc cn cc vn vc en ec u3 u4 u5 u6 u7 u8 u9 jR jS jT jU jV jW sl cl vl el hs hc hv he ht bA4 pI yC cW6 hen hsn hvn).mono ?_
 rintro e w' ⟨go,gv,gs,gI,gF,gG,gJ,gO,lv,rv,rn,rx,σ,fp,rfl,xW,hm⟩
 obtain ⟨A,c,hlv⟩:=dW (hm.ownI 0 rfl)
 have ho:=hm.ownI 0 rfl
 dsimp only at hlv ho
 have ho2:w'.ownsRow w.heap.size 181 5 lv σ.lg.length ((dY eJ σ.lg).flatMap eF):=ho
 rw [hlv] at ho2
 exact ⟨go,gv,gs,gI,gF,gG,gJ,gO,lv,rv,σ,A,σ.lg.length,c,D,⟨xW,hlv⟩,(hm.b _ (List.mem_cons_self ..)).1,hm.blkI 0 D,SlT.ofOwn fT ho2 (nO eJ σ.lg).length_eq,hm.fact 4 D,hm.fact 5 D,hm.fact 7 D,hm.g⟩
theorem dT7(sA cA vA eA:Option Addr)(sn sc cn cc vn vc en ec:Nat)(u3 u4 u5 u6 u7 u8 u9 jR jS jT jU jV jW:Value)(sl:List St)(cl:List Cs)(vl:List Vh)(el:List Ny)(w:World)(hs:SlT stEnc 15 74 w sA sn sl)(hc:SlT dQ 2 53 w cA cn cl)(hv:SlT kG 2 55 w vA vn vl)(he:SlT fJ 4 128 w eA en el)(ht:rP w)(bA4:∀x∈sl,StOk x)(pI:∀x∈cl,pR x)(yC:cn<=1000)(cW6:∀x∈el,dN6 x)(hen:en<=20)(hsn:sn<=1000000)(hvn:vn<=1000000)(hck:∀wx,w.grownBy wx none->Calls prog 54 #[.agg #[H sA sn sc,H cA cn cc,H vA vn vc,u3,u4,u5,u6,u7,u8,u9,jR,jS,jT,jU,jV,jW]] wx (fun e w'=>e=.returned (J 0)/\wx.grownBy w' none))(hr:qH el):
 Calls prog 22 #[.agg #[H sA sn sc,H cA cn cc,H vA vn vc,u3,u4,u5,u6,u7,u8,u9,jR,jS,jT,jU,jV,jW],H eA en ec] w (fun e w'=>∃go gv gs gI gF gG gJ gO lv rv σ A n c,e=.returned (.tuple #[.pointer (some ⟨go,0,none⟩),J 0])/\((rW (xD vl) (yP sl) (fun b=>gC cl [b]=0) (el.map Ny.at_) σ/\gR σ=cW1 (xD vl) (yP sl) cl el)/\lv=H A n c)/\w.heap.size<=go/\Blk w' go 98 [H sA sn sc,H cA cn cc,H vA vn vc,u3,u4,u5,u6,u7,u8,u9,jR,jS,jT,jU,jV,jW,.map (some gv),.map (some gs),.map (some gI),lv,.map (some gF),.map (some gG),.map (some gJ),.map (some gO),rv]/\SlT eF 5 181 w' A n (dY eJ σ.lg)/\cB pX dT w.heap.size gG σ.fb w'/\cB pZ dT w.heap.size gJ σ.fh w'/\gX 269 σ.fh w'/\w.grownBy w' none):=by
 refine cY ⟨19,w,none, [269,181]⟩ func22 D ntmps22 D (fZ (X:= [bT stEnc 15 74 w.heap.size none sA sn sl,bT dQ 2 53 w.heap.size none cA cn cl,bT kG 2 55 w.heap.size none vA vn vl,bT fJ 4 128 w.heap.size none eA en el,TxtO w.heap.size none]) (cC hs.old (cC hc.old (cC hv.old (cC he.old (cC ht.old cZ))))) (cE bT.lasts (cE bT.lasts (cE bT.lasts (cE bT.lasts (cE TxtO.lasts dA)))))) (bX (fS D D D fun g1=>cG D (cG D (bU (bJ (bX (W (dG dK0 D (fun _ hm=>hm.blkI 0 D) D D) D (cR D fO7 D D (fun wx hm=>(hck wx hm.g)) (bS D (cR D fP7 D D (fun wx hm=>(bE9 el eA en ec wx (hm.fact 3 D).1 G hr)) (jN 48 [J 0,J 0] fun g2=>dC D vO D D (fun wx hm=>(fP [0,0] _ _ _ wx (hm.blkI 0 D) (by simp))) (cG D (bU (bX (bS D (W (gN D D) D (bO 14 (v':= .bool false) D (D) (bU (jK D (bN (bG (bX (W (dG dK0 D (fun _ hm=>hm.blkI 1 D) D D) D (bS D ?_))))))))))))))))))))))))
 refine fW (γ:=Nat×Nat×Nat×Nat×Nat×Nat×Nat×Nat×Value×Value×Os×Option Addr×Nat×Nat) (val:=(fun (q:Nat×Nat×Nat×Nat×Nat×Nat×Nat×Nat×Value×Value×Os×Option Addr×Nat×Nat)=> .pointer (some ⟨q.1,0,none⟩))) (φ:=(fun (q:Nat×Nat×Nat×Nat×Nat×Nat×Nat×Nat×Value×Value×Os×Option Addr×Nat×Nat)=>(rW (xD vl) (yP sl) (fun b=>gC cl [b]=0) (el.map Ny.at_) q.2.2.2.2.2.2.2.2.2.2.1/\gR q.2.2.2.2.2.2.2.2.2.2.1=cW1 (xD vl) (yP sl) cl el)/\q.2.2.2.2.2.2.2.2.1=H q.2.2.2.2.2.2.2.2.2.2.2.1 q.2.2.2.2.2.2.2.2.2.2.2.2.1 q.2.2.2.2.2.2.2.2.2.2.2.2.2)) (K':=fun _=>fun _=>True) (L':=(fun (q:Nat×Nat×Nat×Nat×Nat×Nat×Nat×Nat×Value×Value×Os×Option Addr×Nat×Nat)=> [(q.1,98, [H sA sn sc,H cA cn cc,H vA vn vc,u3,u4,u5,u6,u7,u8,u9,jR,jS,jT,jU,jV,jW,.map (some q.2.1),.map (some q.2.2.1),.map (some q.2.2.2.1),q.2.2.2.2.2.2.2.2.1,.map (some q.2.2.2.2.1),.map (some q.2.2.2.2.2.1),.map (some q.2.2.2.2.2.2.1),.map (some q.2.2.2.2.2.2.2.1),q.2.2.2.2.2.2.2.2.2.1]),(g2,48, [J 0,J 0]),(g1,42, [H sA sn sc,H cA cn cc,H vA vn vc,u3,u4,u5,u6,u7,u8,u9,jR,jS,jT,jU,jV,jW])])) (O':=fun _=> []) (X':=(fun (q:Nat×Nat×Nat×Nat×Nat×Nat×Nat×Nat×Value×Value×Os×Option Addr×Nat×Nat)=> [fun wy=>SlT eF 5 181 wy q.2.2.2.2.2.2.2.2.2.2.2.1 q.2.2.2.2.2.2.2.2.2.2.2.2.1 (dY eJ q.2.2.2.2.2.2.2.2.2.2.1.lg),cB pX dT w.heap.size q.2.2.2.2.2.1 q.2.2.2.2.2.2.2.2.2.2.1.fb,cB pZ dT w.heap.size q.2.2.2.2.2.2.1 q.2.2.2.2.2.2.2.2.2.2.1.fh,gX 269 q.2.2.2.2.2.2.2.2.2.2.1.fh,bT stEnc 15 74 w.heap.size none sA sn sl,bT dQ 2 53 w.heap.size none cA cn cl,bT kG 2 55 w.heap.size none vA vn vl,bT fJ 4 128 w.heap.size none eA en el,TxtO w.heap.size none])) D fQ7 D D (fun wx hm=>(cL3 sA cA vA eA sn sc cn cc vn vc en ec u3 u4 u5 u6 u7 u8 u9 jR jS jT jU jV jW sl cl vl el wx (hm.fact 0 D).1 (hm.fact 1 D).1 (hm.fact 2 D).1 (hm.fact 3 D).1 (hm.fact 4 D).1 bA4 pI yC cW6 hen hsn hvn).mono fun _ _ ⟨go,gv,gs,gI,gF,gG,gJ,gO,lv,rv,σ,A,n,c,he,hp,hgo,hb,f1,f2,f3,f4,hg⟩=>⟨(go,gv,gs,gI,gF,gG,gJ,gO,lv,rv,σ,A,n,c),he,hp,((((hm.gn hg hgo hb).also (gX.lasts2 D) f4).also cB.lasts2 (f3.lower hm.g.size)).also cB.lasts2 (f2.lower hm.g.size)).also (SlT.lasts2 D) f1⟩) ?_
 rintro ⟨go,gv,gs,gI,gF,gG,gJ,gO,lv,rv,σ,A,n,c⟩ hp
 dsimp only at hp ⊢
 refine cG D (cG D (bU (bR ?_)))
 refine nU D D D fun wx hm=>?_
 exact ⟨go,gv,gs,gI,gF,gG,gJ,gO,lv,rv,σ,A,n,c,D,hp,(hm.b _ (List.mem_cons_self ..)).1,hm.bl 0,hm.fa 0,hm.fa 1,hm.fa 2,hm.fa 3,hm.g⟩
theorem bX4(sA cA vA eA:Option Addr)(sn sc cn cc vn vc en ec:Nat)(u3 u4 u5 u6 u7 u8 u9 jR jS jT jU jV jW:Value)(sl:List St)(cl:List Cs)(vl:List Vh)(el:List Ny)(w:World)(hs:SlT stEnc 15 74 w sA sn sl)(hc:SlT dQ 2 53 w cA cn cl)(hv:SlT kG 2 55 w vA vn vl)(he:SlT fJ 4 128 w eA en el)(ht:rP w)(bA4:∀x∈sl,StOk x)(pI:∀x∈cl,pR x)(yC:cn<=1000)(cW6:∀x∈el,dN6 x)(hen:en<=20)(hsn:sn<=1000000)(hvn:vn<=1000000)(hck:∀wx,w.grownBy wx none->Calls prog 54 #[.agg #[H sA sn sc,H cA cn cc,H vA vn vc,u3,u4,u5,u6,u7,u8,u9,jR,jS,jT,jU,jV,jW]] wx (fun e w'=>e=.returned (J 0)/\wx.grownBy w' none))(hr:qH el):
 Calls prog 7 #[.agg #[H sA sn sc,H cA cn cc,H vA vn vc,u3,u4,u5,u6,u7,u8,u9,jR,jS,jT,jU,jV,jW],H eA en ec] w (fun e w'=>∃σ A n c ks,e=.returned (.tuple #[H A n c,J 0])/\(rW (xD vl) (yP sl) (fun b=>gC cl [b]=0) (el.map Ny.at_) σ/\gR σ=cW1 (xD vl) (yP sl) cl el)/\(ks.Nodup/\(∀k,k∈ks↔(σ.fb k).isSome=true)/\ks.length=n)/\gX 269 σ.fh w'/\SlT eV 6 87 w' A n ((mX ks).map fun k=>(σ.fb k).getD bk0)/\w.grownBy w' none):=by
 refine cY ⟨22,w,none, [269,181]⟩ func7 D ntmps7 D (fZ (X:= [bT stEnc 15 74 w.heap.size none sA sn sl,bT dQ 2 53 w.heap.size none cA cn cl,bT kG 2 55 w.heap.size none vA vn vl,bT fJ 4 128 w.heap.size none eA en el,TxtO w.heap.size none]) (cC hs.old (cC hc.old (cC hv.old (cC he.old (cC ht.old cZ))))) (cE bT.lasts (cE bT.lasts (cE bT.lasts (cE bT.lasts (cE TxtO.lasts dA)))))) (bX (fS D D D fun g1=>cG D (cG D (bU (bX (W (dG dK0 D (fun _ hm=>hm.blkI 0 D) D D) D (bS D ?_)))))))
 refine fW (γ:=Nat×Nat×Nat×Nat×Nat×Nat×Nat×Nat×Value×Value×Os×Option Addr×Nat×Nat) (val:=(fun (q:Nat×Nat×Nat×Nat×Nat×Nat×Nat×Nat×Value×Value×Os×Option Addr×Nat×Nat)=> .tuple #[.pointer (some ⟨q.1,0,none⟩),J 0])) (φ:=(fun (q:Nat×Nat×Nat×Nat×Nat×Nat×Nat×Nat×Value×Value×Os×Option Addr×Nat×Nat)=>(rW (xD vl) (yP sl) (fun b=>gC cl [b]=0) (el.map Ny.at_) q.2.2.2.2.2.2.2.2.2.2.1/\gR q.2.2.2.2.2.2.2.2.2.2.1=cW1 (xD vl) (yP sl) cl el)/\q.2.2.2.2.2.2.2.2.1=H q.2.2.2.2.2.2.2.2.2.2.2.1 q.2.2.2.2.2.2.2.2.2.2.2.2.1 q.2.2.2.2.2.2.2.2.2.2.2.2.2)) (K':=fun _=>fun _=>True) (L':=(fun (q:Nat×Nat×Nat×Nat×Nat×Nat×Nat×Nat×Value×Value×Os×Option Addr×Nat×Nat)=> [(q.1,98, [H sA sn sc,H cA cn cc,H vA vn vc,u3,u4,u5,u6,u7,u8,u9,jR,jS,jT,jU,jV,jW,.map (some q.2.1),.map (some q.2.2.1),.map (some q.2.2.2.1),q.2.2.2.2.2.2.2.2.1,.map (some q.2.2.2.2.1),.map (some q.2.2.2.2.2.1),.map (some q.2.2.2.2.2.2.1),.map (some q.2.2.2.2.2.2.2.1),q.2.2.2.2.2.2.2.2.2.1]),(g1,42, [H sA sn sc,H cA cn cc,H vA vn vc,u3,u4,u5,u6,u7,u8,u9,jR,jS,jT,jU,jV,jW])])) (O':=fun _=> []) (X':=(fun (q:Nat×Nat×Nat×Nat×Nat×Nat×Nat×Nat×Value×Value×Os×Option Addr×Nat×Nat)=> [fun wy=>SlT eF 5 181 wy q.2.2.2.2.2.2.2.2.2.2.2.1 q.2.2.2.2.2.2.2.2.2.2.2.2.1 (dY eJ q.2.2.2.2.2.2.2.2.2.2.1.lg),cB pX dT w.heap.size q.2.2.2.2.2.1 q.2.2.2.2.2.2.2.2.2.2.1.fb,cB pZ dT w.heap.size q.2.2.2.2.2.2.1 q.2.2.2.2.2.2.2.2.2.2.1.fh,gX 269 q.2.2.2.2.2.2.2.2.2.2.1.fh,bT stEnc 15 74 w.heap.size none sA sn sl,bT dQ 2 53 w.heap.size none cA cn cl,bT kG 2 55 w.heap.size none vA vn vl,bT fJ 4 128 w.heap.size none eA en el,TxtO w.heap.size none])) D fD7 D D (fun wx hm=>(dT7 sA cA vA eA sn sc cn cc vn vc en ec u3 u4 u5 u6 u7 u8 u9 jR jS jT jU jV jW sl cl vl el wx (hm.fact 0 D).1 (hm.fact 1 D).1 (hm.fact 2 D).1 (hm.fact 3 D).1 (hm.fact 4 D).1 bA4 pI yC cW6 hen hsn hvn (fun wy h=>hck wy (World.grownBy.trans hm.g h)) hr).mono fun _ _ ⟨go,gv,gs,gI,gF,gG,gJ,gO,lv,rv,σ,A,n,c,he,hp,hgo,hb,f1,f2,f3,f4,hg⟩=>⟨(go,gv,gs,gI,gF,gG,gJ,gO,lv,rv,σ,A,n,c),he,hp,((((hm.gn hg hgo hb).also (gX.lasts2 D) f4).also cB.lasts2 (f3.lower hm.g.size)).also cB.lasts2 (f2.lower hm.g.size)).also (SlT.lasts2 D) f1⟩) ?_
 rintro ⟨go,gv,gs,gI,gF,gG,gJ,gO,lv,rv,σ,A,n,c⟩ hp
 dsimp only at hp ⊢
 obtain ⟨xW,rfl⟩:=hp
 refine bS D (W (cV D D) D (W (cV D D) D (cG D (cG D (bU (bJ (bX (bS D (W (gN D D) D (bO 15 (v':= .bool false) D (D) (bU (jK D (bN (bG (bX (bS D (W (cU D) D (dZ bW3 D D (eO dT3 0 D D D ?_)))))))))))))))))))
 obtain ⟨KL,hKL,hKn⟩:=xW.1.keysB
 refine qX (γ:=Value×Nat×List M) (val:=(fun g=>g.1)) (φ:=(fun g=>g.2.2.Nodup/\(∀k,k∈g.2.2↔(σ.fb k).isSome=true)/\g.2.2.length=g.2.1)) (fun g=>⟨g.1,87,6,g.2.1,((mX g.2.2).map fun k=>(σ.fb k).getD bk0).flatMap eV⟩) D fE7 D D (fun wx hm=>(dO0 σ.fb gG _ KL wx (hm.fact 1 D) hKL (by rw [List.length_map,he.len] at hKn;omega)).mono fun _ _ ⟨v,n5,ks,he,ho,h1,h2,h3,hg⟩=>⟨(v,n5,ks),he,⟨h1,h2,h3⟩,ho,hg⟩) ?_
 rintro ⟨v5,n5,ks⟩ mO
 dsimp only at mO ⊢
 refine eB (R:=∃A cc,v5=H A n5 cc) (fun wx hm=>dW (hm.ownI 0 D)) ?_
 rintro ⟨A5,c5,rfl⟩
 refine cG D (cG D (bU (bR ?_)))
 refine nU D D D fun wx hm=>?_
 exact ⟨σ,A5,n5,c5,ks,D,xW,mO,hm.fa 3,SlT.ofOwn dX9 (hm.ownI 0 D) (by rw [List.length_map,wL];exact mO.2.2),hm.g⟩
theorem rW.books{V:M->Option M}{T:M->Option Bool}{ck:Bk->Prop}{l:List Int}{σ:Os}(h:rW V T ck l σ):∀k b,σ.fb k=some b->b.key=k/\bM3 b/\ck b:=by
 induction h with
 |nil=>intro k b h;cases h
 |snoc l a σ τ _ h2 ih=>
  intro k b hb
  cases h2 with
  |same=>exact ih k b hb
  |ev=>exact ih k b hb
  |book b0 h3 h4=>
   rcases fI hb with ⟨rfl,rfl⟩|hb
   ·exact ⟨D,h3,h4⟩
   ·exact ih k b hb
  |cancel k0=>exact ih k b (zQ hb).2
  |start=>exact ih k b (zQ hb).2
  |extend=>exact ih k b hb
  |close=>exact ih k b hb
  |swap=>exact ih k b hb
theorem cF8{V:M->Option M}{T:M->Option Bool}{ck:Bk->Prop}{l:List Int}{σ:Os}(h:rW V T ck l σ){ks:List M}(hk:∀k,k∈ks↔(σ.fb k).isSome=true):∀b∈(mX ks).map fun k=>(σ.fb k).getD bk0,b.key∈ks/\bM3 b/\ck b:=by
 intro b hb
 obtain ⟨k,hks,rfl⟩:=List.mem_map.1 hb
 have hin:=(bJ4 ks).mem_iff.1 hks
 obtain ⟨v,hv⟩:=Option.isSome_iff_exists.1 ((hk k).1 hin)
 obtain ⟨h1,h2,h3⟩:=h.books k v hv
 rw [hv]
 exact ⟨by rw [Option.getD_some,h1];exact hin,h2,h3⟩
theorem dV1{V:M->Option M}{T:M->Option Bool}{ck:Bk->Prop}{l:List Int}{σ:Os}(h:rW V T ck l σ){ks:List M}(hk:∀k,k∈ks↔(σ.fb k).isSome=true):((mX ks).map fun k=>(σ.fb k).getD bk0).map Bk.key=mX ks:=by
 rw [List.map_map]
 refine (List.map_congr_left fun k hks=>?_).trans (List.map_id _)
 have hin:=(bJ4 ks).mem_iff.1 hks
 obtain ⟨v,hv⟩:=Option.isSome_iff_exists.1 ((hk k).1 hin)
 show ((σ.fb k).getD bk0).key=k
 rw [hv]
 exact (h.books k v hv).1
theorem dT6{p:Option Bk}{b:Bk}(h:jO none b=0)(hp:leO p b=false):jO p b=0:=by
 have h0:leO none b=false:=rfl
 unfold jO at h ⊢
 rw [h0] at h
 rw [hp]
 exact h
theorem cB2:∀{l:List Bk} {p:Option Bk},(∀b∈l,leO p b=false)->l.Pairwise (fun a b=>leB b.key a.key=false)->(∀b∈l,jO none b=0)->scanE jO p l=0
 | [],_,_,_,_=>rfl
 |x::r,p,hp,hw,hb=>by
  have h1:=dT6 (hb x (List.mem_cons_self ..)) (hp x (List.mem_cons_self ..))
  show (if jO p x=0 then scanE jO (some x) r else jO p x)=0
  rw [if_pos h1]
  exact cB2 (fun b hbr=>(List.pairwise_cons.1 hw).1 b hbr) (List.pairwise_cons.1 hw).2 fun b hbr=>hb b (List.mem_cons_of_mem _ hbr)
theorem dD0{cs:List Cs}{b:Bk}(h:gC cs [b]=0):eR cs=0/\jO none b=0/\xY cs b.cls=false:=by
 unfold gC at h
 have h1:=uD h (eR cs) (by simp)
 have h2:=uD h (nH cs [b]) (by simp)
 unfold nH at h2
 by_cases hf:uO [b]=0
 ·rw [if_neg (by rw [hf];simp)] at h2
  refine ⟨h1,?_,?_⟩
  ·unfold uO at hf
   rw [if_neg (by simp)] at hf
   have hf2:(if jO none b=0 then 0 else jO none b)=0:=hf
   by_cases hb:jO none b=0
   ·exact hb
   ·rw [if_neg hb] at hf2;exact hf2
  ·cases hn:xY cs b.cls with
   |false=>rfl
   |true=>
    have: [b].any (fun b=>xY cs b.cls)=true:=by simp [hn]
    rw [if_pos this] at h2;cases h2
 ·rw [if_pos hf] at h2;exact absurd h2 hf
theorem cG8{cs:List Cs}{l:List Bk}(hn:l.length<=500)(hc:eR cs=0)(h:∀b∈l,gC cs [b]=0)(hr:l.Pairwise (fun a b=>leB b.key a.key=false)):gC cs l=0:=by
 have hf:uO l=0:=by
  unfold uO
  rw [if_neg G]
  exact cB2 (fun _ _=>D) hr fun b hb=>(dD0 (h b hb)).2.1
 have ha:l.any (fun b=>xY cs b.cls)=false:=by
  rw [List.any_eq_false]
  intro b hb
  rw [(dD0 (h b hb)).2.2]
  decide
 have hk:nH cs l=0:=by
  unfold nH
  rw [if_neg (by rw [hf];simp),ha]
  rfl
 unfold gC
 rw [hc,hk];rfl
theorem eO7(x:M):x.toList=x.data.toList:=ByteArray.toList_eq x
theorem eI8:∀(x y:List UInt8),Go.Op.bytesLess x y=true↔x < y
 | [], []=>by simp [Go.Op.bytesLess]
 |a::x, []=>by simp [Go.Op.bytesLess]
 | [],b::y=>by simp [Go.Op.bytesLess]
 |a::x,b::y=>by
  have ih:=eI8 x y
  simp only [Go.Op.bytesLess,Bool.or_eq_true,decide_eq_true_eq,Bool.and_eq_true,beq_iff_eq,ih,List.cons_lt_cons_iff]
theorem fY0{a b:M}(h:a.data.toList<=b.data.toList)(hne:a≠b):leB b a=false:=by
 unfold leB
 rw [eO7,eO7]
 cases h1:Go.Op.bytesLess b.data.toList a.data.toList with
 |true=>exact absurd ((eI8 _ _).1 h1) h
 |false=>
  rw [Bool.false_or]
  cases h2:(b.data.toList==a.data.toList) with
  |false=>rfl
  |true=>exact absurd (yW (by rw [eO7,eO7];exact (beq_iff_eq.1 h2).symm)) hne
theorem dV3{l:List M}(hl:l.Nodup):(mX l).Pairwise (fun a b=>leB b a=false):=by
 have hn:(mX l).Nodup:=(bJ4 l).nodup_iff.2 hl
 have hs:(mX l).Pairwise (fun a b=>a.data.toList<=b.data.toList):=by
  unfold mX
  rw [List.pairwise_map]
  have h:=List.pairwise_mergeSort (le:=fun x y:List UInt8=>decide (x<=y)) (fun a b c h1 h2=>by
   rw [decide_eq_true_eq] at *
   exact List.le_trans h1 h2) (fun a b=>by
   rw [Bool.or_eq_true,decide_eq_true_eq,decide_eq_true_eq]
   exact List.le_total a b) (l.map fun b=>b.data.toList)
  exact h.imp fun {a b} h=>by
   have h2:a<=b:=by simpa using h
   exact h2
 exact (hs.and hn).imp fun h=>fY0 h.1 h.2
theorem dA2{V:M->Option M}{T:M->Option Bool}{cs:List Cs}{l:List Int}{σ:Os}(h:rW V T (fun b=>gC cs [b]=0) l σ){ks:List M}(hnd:ks.Nodup)(hk:∀k,k∈ks↔(σ.fb k).isSome=true)(hn:ks.length<=500)(hc:eR cs=0):
 gC cs ((mX ks).map fun k=>(σ.fb k).getD bk0)=0/\∀b∈(mX ks).map fun k=>(σ.fb k).getD bk0,bM3 b:=by
 refine ⟨cG8 (by rw [List.length_map,wL];exact hn) hc (fun b hb=>(cF8 h hk b hb).2.2) ?_,fun b hb=>(cF8 h hk b hb).2.1⟩
 have h2:=dV3 hnd
 rw [<-dV1 h hk,List.pairwise_map] at h2
 exact h2
def vlN(vl:List Vh)(k:M):Nat:=vl.countP fun v=>v.cls.toList==k.toList
theorem eA4{vl:List Vh}{j:Nat}{v:Vh}{k:M}(h:vl[j]?=some v):vlN (vl.take (j+1)) k=vlN (vl.take j) k+(if (v.cls.toList==k.toList)=true then 1 else 0):=by
 unfold vlN
 rw [List.take_add_one,h,List.countP_append]
 congr 1
 simp [List.countP_cons]
theorem cW7(vl:List Vh)(k:M):vlN vl k<=vl.length:=List.countP_le_length
def skO(vl:List Vh)(c:Cs):Sk:=⟨c.key,((vlN vl c.key:Nat):Int)⟩
def wI(vl:List Vh)(cl:List Cs):List Sk:=cl.map (skO vl)
def skP(k:M)(x:Sk):Bool:=x.cls.toList==k.toList
theorem dD6(vl:List Vh)(cl:List Cs):(wI vl cl).length=cl.length:=List.length_map _
theorem eM3{u1 u2 u3:M}{a b c d:Int}(ha:inB a 0 100=true)(hb:inB b 0 100=true)(hc:inB c 0 100=true)(hd:inB d 0 100=true):scanE (skE (bD9 u1 u2 u3)) none [⟨bB4,a⟩,⟨yI,b⟩,⟨bJ3,c⟩,⟨cL4,d⟩]=0:=by
 have h1:xY (bD9 u1 u2 u3) bB4=false:=bC
 have h2:xY (bD9 u1 u2 u3) yI=false:=bC
 have h3:xY (bD9 u1 u2 u3) bJ3=false:=bC
 have h4:xY (bD9 u1 u2 u3) cL4=false:=bC
 have e1:leB yI bB4=false:=bC
 have e2:leB bJ3 yI=false:=bC
 have e3:leB cL4 bJ3=false:=bC
 simp [scanE,skE,eE2,h1,h2,h3,h4,e1,e2,e3,ha,hb,hc,hd]
theorem dD9{vl:List Vh}{cl:List Cs}(hc:ClG cl)(hv:vl.length=3):qF cl (wI vl cl)=0:=by
 have hz:=cX3 hc
 have hb:∀k,inB ((vlN vl k:Nat):Int) 0 100=true:=fun k=>by
  have:=cW7 vl k
  rw [nK];omega
 unfold qF
 rw [hz,dD6]
 obtain ⟨u1,u2,u3,_,_,_,rfl⟩:=hc
 rw [show wI vl (bD9 u1 u2 u3)= [⟨bB4,vlN vl bB4⟩,⟨yI,vlN vl yI⟩,⟨bJ3,vlN vl bJ3⟩,⟨cL4,vlN vl cL4⟩] from rfl,eM3 (hb _) (hb _) (hb _) (hb _)]
 rfl
theorem fA2{vl:List Vh}{cl:List Cs}(hc:∀x∈cl,pR x)(hv:vl.length=3):∀x∈wI vl cl,cA0 x:=fun x hx=>by
 obtain ⟨c,h,rfl⟩:=List.mem_map.1 hx
 have:=cW7 vl c.key
 refine ⟨(hc c h).1,?_,?_⟩ <;> (show _<=_;unfold skO;dsimp only;omega)
theorem fZ1{vl:List Vh}{cl:List Cs}{i:Nat}{c:Cs}(hc:ClG cl)(hx:cl[i]?=some c):kL (skP c.key) (wI vl cl) 0=(i:Int)/\qM (wI vl cl) c.key=((vlN vl c.key:Nat):Int)/\xY cl c.key=false:=by
 obtain ⟨u1,u2,u3,_,_,_,rfl⟩:=hc
 match i with
 |0=>cases hx;exact ⟨by kernel_rfl,by kernel_rfl,by kernel_rfl⟩
 |1=>cases hx;exact ⟨by kernel_rfl,by kernel_rfl,by kernel_rfl⟩
 |2=>cases hx;exact ⟨by kernel_rfl,by kernel_rfl,by kernel_rfl⟩
 |3=>cases hx;exact ⟨by kernel_rfl,by kernel_rfl,by kernel_rfl⟩
 |i+4=>cases hx
theorem eP7:([kNo,bB4].all fun u1=> [kNo,bB4,yI].all fun u2=> [kNo,bB4,yI,bJ3].all fun u3=>(bD9 u1 u2 u3).all fun c=> !jB c.up||decide (eW (bD9 u1 u2 u3) 4 c.key= []))=true:=by decide+kernel
theorem fF0{cl:List Cs}{i:Nat}{c:Cs}(h:ClG cl)(hx:cl[i]?=some c)(hu:jB c.up=true):eW cl cl.length c.key= []:=by
 obtain ⟨u1,u2,u3,h1,h2,h3,rfl⟩:=h
 have:=List.all_eq_true.1 (List.all_eq_true.1 (List.all_eq_true.1 (List.all_eq_true.1 eP7 u1 h1) u2 h2) u3 h3) c (fZ9 hx)
 rw [hu] at this
 have h2:eW (bD9 u1 u2 u3) 4 c.key= []:=by simpa using this
 exact h2
theorem dU6{V:M->Option M}{T:M->Option Bool}{ck:Bk->Prop}{l:List Int}{σ:Os}(h:rW V T ck l σ){ks:List M}(hn:ks.Nodup)(hk:∀k,k∈ks↔(σ.fb k).isSome=true):ks.length<=l.length:=by
 obtain ⟨KL,h1,h2⟩:=h.keysB
 have h3:=bC4 hn fun k hk2=>by
  obtain ⟨z,hz⟩:=Option.isSome_iff_exists.1 ((hk k).1 hk2)
  exact h1 k z hz
 omega
end Go.Proofs.YtapdhfjfgpbnnaaGreatDoor
