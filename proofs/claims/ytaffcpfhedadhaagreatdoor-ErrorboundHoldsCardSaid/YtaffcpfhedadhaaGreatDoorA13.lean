/-
  Part 13 (chapter 32): lemmas, walks. Each theorem states its own conditions.
-/
import Derived.Test.YtaffcpfhedadhaaGreatDoorA05
import Derived.Test.YtaffcpfhedadhaaGreatDoorA06
import Derived.Test.YtaffcpfhedadhaaGreatDoorA08
import Derived.Test.YtaffcpfhedadhaaGreatDoorA11
import Derived.Test.YtaffcpfhedadhaaGreatDoorA12
set_option linter.all false
set_option maxRecDepth 20000
set_option maxHeartbeats 20000000
namespace Go.Proofs.YtaffcpfhedadhaaGreatDoor
open Go Go.RowKit Go.Via
def o9(i:Iv)(hi:kT i<=5000:=by omega):aH Tryz.prog 101 #[mG i] (.int .i64 (if(dN i.f&&dN i.t)=false then 5 else if jr i=false then 10 else 0)):=by
 have i1:=Nat.le_trans (lg i) hi;have i2:=Nat.le_trans (kH i) hi;refine uU 19 Tryz.func101 fun w=>?_;refine A2 ?_;refine Bp 20 (fun g0=>?_);refine A7 ?_;refine L9 0 0 ?_;refine Pc (iW i.f) ?_;refine A2 ?_;refine Rs 7 ?_ ?_<;>intro hb0
 ·have hs7:dN i.f=false:=by cases e:dN i.f<;>simp[e] at hb0 ⊢
  refine y8 ?_;refine E0 ?_;rw[hs7];rfl
 ·have hs7:dN i.f=true:=by cases e:dN i.f<;>simp[e] at hb0 ⊢
  refine A1 ?_;refine L9 0 9 ?_;refine Pc (iW i.t) ?_;refine A4 ?_;refine Cd ?_ ?_<;>intro hb1
  ·have hs12:dN i.t=false:=by cases e:dN i.t<;>simp[e] at hb1 ⊢
   refine A7 ?_;refine E0 ?_;rw[hs7,hs12];rfl
  ·have hs12:dN i.t=true:=by cases e:dN i.t<;>simp[e] at hb1 ⊢
   refine A4 ?_;refine Dp [] [0,2,1,3,4,5] ?_;refine xC 0 0 ?_;refine xC 0 0 ?_;refine Pc (uu i) ?_;refine Pc (wE i) ?_;refine bY [_,_] rfl rfl rfl (qE i.b i.e (by show ik i.f<=_;omega) (by show ik i.t<=_;omega)) ?_;refine A3 ?_;refine Cd ?_ ?_<;>intro hb2
   ·have hs18:jr i=false:=by rw[NG];have e:=hb2;simp at e ⊢;omega
    refine A7 ?_;refine E0 ?_;rw[hs7,hs12,hs18];rfl
   ·have hs18:jr i=true:=by rw[NG];have e:=hb2;simp at e ⊢;omega
    refine A8 ?_;refine E0 ?_;rw[hs7,hs12,hs18];rfl
def nZ(a b:Iv)(ha:kT a<=50000:=by omega)(hb:kT b<=50000:=by omega):aH Tryz.prog 139 #[mG a,mG b] (.bool (Ey a b)):=by
 have a1:=Nat.le_trans (lg a) ha;have a2:=Nat.le_trans (kH a) ha;have b1:=Nat.le_trans (lg b) hb;have b2:=Nat.le_trans (kH b) hb;refine nG 26 Tryz.func139 fun w=>?_;refine A2 ?_;refine Bp 20 (fun g0=>?_);refine Bp 20 (fun g1=>?_);refine A6 ?_;refine L9 0 9 ?_;refine A1 ?_;refine L9 1 9 ?_;refine Pc (dw a.t b.t) ?_;refine A8 ?_;refine Rs 13 ?_ ?_<;>intro hb0
 ·refine KZ ?_;refine E0 ?_;exact eB (by unfold Ey;first|(simp_all;done)|(simp_all;omega)|(simp_all;intros;omega))
 ·refine A3 ?_;refine Rs 16 ?_ ?_<;>intro hb1
  ·refine A3 ?_;refine Rs 19 ?_ ?_<;>intro hb2
   ·refine kL ?_;refine E0 ?_;exact eB (by unfold Ey;first|(simp_all;done)|(simp_all;omega)|(simp_all;intros;omega))
   ·refine kL ?_;refine E0 ?_;exact eB (by unfold Ey;first|(simp_all;done)|(simp_all;omega)|(simp_all;intros;omega))
  ·refine BC ?_;refine E0 ?_;exact eB (by unfold Ey;first|(simp_all;done)|(simp_all;omega)|(simp_all;intros;omega))
def Kq(a b:Iv)(ha:kT a<=50000:=by omega)(hb:kT b<=50000:=by omega):aH Tryz.prog 185 #[mG a,mG b] (.bool (EG a b)):=by
 have a1:=Nat.le_trans (lg a) ha;have a2:=Nat.le_trans (kH a) ha;have b1:=Nat.le_trans (lg b) hb;have b2:=Nat.le_trans (kH b) hb;refine nG 25 Tryz.func185 fun w=>?_;refine A2 ?_;refine Bp 20 (fun g0=>?_);refine Bp 20 (fun g1=>?_);refine A6 ?_;refine L9 0 9 ?_;refine A1 ?_;refine L9 1 0 ?_;refine Pc (dw a.t b.f) ?_;refine A8 ?_;refine Rs 13 ?_ ?_<;>intro hb0
 ·refine y8 ?_;refine E0 ?_;exact eB (by unfold EG;first|(simp_all;done)|(simp_all;omega)|(simp_all;intros;omega))
 ·refine A3 ?_;refine Rs 16 ?_ ?_<;>intro hb1
  ·refine A3 ?_;refine Rs 19 ?_ ?_<;>intro hb2
   ·refine A9 ?_;refine E0 ?_;exact eB (by unfold EG;first|(simp_all;done)|(simp_all;omega)|(simp_all;intros;omega))
   ·refine A9 ?_;refine E0 ?_;exact eB (by unfold EG;first|(simp_all;done)|(simp_all;omega)|(simp_all;intros;omega))
  ·refine lK ?_;refine E0 ?_;exact eB (by unfold EG;first|(simp_all;done)|(simp_all;omega)|(simp_all;intros;omega))
def gX(i:Iv):aH Tryz.prog 187 #[mG i] (.bool (eH i)):=by
 refine uU 8 Tryz.func187 fun w=>?_;refine A2 ?_;refine Bp 20 (fun g0=>?_);refine A6 ?_;refine L9 0 0 ?_;refine A1 ?_;refine L9 0 9 ?_;refine fG rfl rfl rfl rfl OA (O8 _ _) ?_;refine A4 ?_;refine E0 ?_;exact rfl
def Lu(a b:Iv)(ha:kT a<=50000:=by omega)(hb:kT b<=50000:=by omega):aH Tryz.prog 138 #[mG a,mG b] (.tuple #[mG (dR a b),.bool (jr (dR a b))]):=by
 have a1:=Nat.le_trans (lg a) ha;have a2:=Nat.le_trans (kH a) ha;have b1:=Nat.le_trans (lg b) hb;have b2:=Nat.le_trans (kH b) hb;have hmf:=NH ha hb;have hmt:=NI ha hb;refine nG 81 Tryz.func138 fun w=>?_;refine A2 ?_;refine Bp 20 (fun g0=>?_);refine Bp 20 (fun g1=>?_);refine Al 20 z61 (fun g2=>?_);refine A5 ?_;refine xC 0 0 ?_;refine Al 20 z61 (fun g3=>?_);refine Ss 3 ?_;refine A2 ?_;refine Vx (nt:=81) [(2,gU g0),(3,gU g1),(4,gU g2),(5,.bool false),(6,gU g3)] [⟨some g0,61,dQ a,20,true⟩,⟨some g1,61,dQ b,20,true⟩,⟨some g2,61,qjm,20,true⟩,⟨some g3,61,dQ ⟨(rC a b).1,a.t,(rC a b).2,a.tp⟩,20,true⟩] ?_ ?_
 ·refine A3 ?_;refine L9 0 0 ?_;refine A1 ?_;refine L9 1 0 ?_;refine Pc (dw a.f b.f) ?_;refine qf ?_;refine Cd ?_ ?_<;>intro hb0
  ·have hsA:bH a.f b.f<0:=of_decide_eq_true hb0;refine Di [3] ?_;refine A1 ?_;refine L9 1 0 ?_;refine A2 ?_;refine Fg 0 0 ?_;refine lU 3 0 [_,_,_,⟨some g3,61,_,20,true⟩] [_,_,_,_,_,_,_,_,_,_,_,_,_,_,_,_,_,_,_,_] rfl rfl rfl rfl wL rfl rfl rfl rfl rfl rfl ?_;refine Fg 0 18 ?_;refine lU 3 18 [_,_,_,⟨some g3,61,_,20,true⟩] [_,_,_,_,_,_,_,_,_,_,_,_,_,_,_,_,_,_,_,_] rfl rfl rfl rfl ti4 rfl rfl rfl rfl rfl rfl ?_;refine A3 ?_;exact uK ⟨rfl,rfl,rfl,rfl,rfl,trivial⟩ (aj [some 0,some 1,some 2,some 3] ⟨pR,pR,pR,⟨_,rfl,aP (by rw[qeE hsA]<;>rfl)⟩,trivial⟩ rfl rfl)
  ·have hsA:¬bH a.f b.f<0:=of_decide_eq_false hb0;refine A7 ?_;refine Cd ?_ ?_<;>intro hb1
   ·have hsB:bH a.f b.f=0:=eq_of_beq hb1;refine A4 ?_;refine Rs 30 ?_ ?_<;>intro hb2
    ·have hsC:a.fo=true:=hb2;refine A4 ?_;refine Ss 3 ?_;refine A3 ?_;exact uK ⟨rfl,rfl,rfl,rfl,rfl,trivial⟩ (aj [some 0,some 1,some 2,some 3] ⟨pR,pR,pR,⟨_,rfl,aP (by rw[WL hsA hsB,hsC,Bool.true_or]<;>rfl)⟩,trivial⟩ rfl rfl)
    ·have hsC:a.fo=false:=hb2;refine A4 ?_;refine Ss 3 ?_;refine A3 ?_;exact uK ⟨rfl,rfl,rfl,rfl,rfl,trivial⟩ (aj [some 0,some 1,some 2,some 3] ⟨pR,pR,pR,⟨_,rfl,aP (by rw[WL hsA hsB,hsC,Bool.false_or]<;>rfl)⟩,trivial⟩ rfl rfl)
   ·have hsB:bH a.f b.f≠0:=ne_of_beq_false hb1;refine A3 ?_;exact uK ⟨rfl,rfl,rfl,rfl,rfl,trivial⟩ (aj [some 0,some 1,some 2,some 3] ⟨pR,pR,pR,⟨_,rfl,aP (by rw[qeF hsA hsB]<;>rfl)⟩,trivial⟩ rfl rfl)
 refine Vx (nt:=81) [(2,gU g0),(3,gU g1),(4,gU g2),(5,.bool false),(6,gU g3)] [⟨some g0,61,dQ a,20,true⟩,⟨some g1,61,dQ b,20,true⟩,⟨some g2,61,qjm,20,true⟩,⟨some g3,61,dQ ⟨(rC a b).1,(tX a b).1,(rC a b).2,(tX a b).2⟩,20,true⟩] ?_ ?_
 ·refine A3 ?_;refine L9 0 9 ?_;refine A1 ?_;refine L9 1 9 ?_;refine Pc (dw a.t b.t) ?_;refine qf ?_;refine Cd ?_ ?_<;>intro hb1
  ·have hsA:0<bH a.t b.t:=of_decide_eq_true hb1;refine Di [3] ?_;refine A1 ?_;refine L9 1 9 ?_;refine A2 ?_;refine Fg 0 9 ?_;refine lU 3 9 [_,_,_,⟨some g3,61,_,20,true⟩] [_,_,_,_,_,_,_,_,_,_,_,_,_,_,_,_,_,_,_,_] rfl rfl rfl rfl wL rfl rfl rfl rfl rfl rfl ?_;refine Fg 0 19 ?_;refine lU 3 19 [_,_,_,⟨some g3,61,_,20,true⟩] [_,_,_,_,_,_,_,_,_,_,_,_,_,_,_,_,_,_,_,_] rfl rfl rfl rfl ti4 rfl rfl rfl rfl rfl rfl ?_;refine A3 ?_;exact uK ⟨rfl,rfl,rfl,rfl,rfl,trivial⟩ (aj [some 0,some 1,some 2,some 3] ⟨pR,pR,pR,⟨_,rfl,aP (by rw[qeG hsA]<;>rfl)⟩,trivial⟩ rfl rfl)
  ·have hsA:¬0<bH a.t b.t:=of_decide_eq_false hb1;refine A7 ?_;refine Cd ?_ ?_<;>intro hb2
   ·have hsB:bH a.t b.t=0:=eq_of_beq hb2;refine A4 ?_;refine Rs 54 ?_ ?_<;>intro hb3
    ·have hsC:a.tp=true:=hb3;refine A4 ?_;refine Ss 3 ?_;refine A3 ?_;exact uK ⟨rfl,rfl,rfl,rfl,rfl,trivial⟩ (aj [some 0,some 1,some 2,some 3] ⟨pR,pR,pR,⟨_,rfl,aP (by rw[WM hsA hsB,hsC,Bool.true_or]<;>rfl)⟩,trivial⟩ rfl rfl)
    ·have hsC:a.tp=false:=hb3;refine A4 ?_;refine Ss 3 ?_;refine A3 ?_;exact uK ⟨rfl,rfl,rfl,rfl,rfl,trivial⟩ (aj [some 0,some 1,some 2,some 3] ⟨pR,pR,pR,⟨_,rfl,aP (by rw[WM hsA hsB,hsC,Bool.false_or]<;>rfl)⟩,trivial⟩ rfl rfl)
   ·have hsB:bH a.t b.t≠0:=ne_of_beq_false hb2;refine A3 ?_;exact uK ⟨rfl,rfl,rfl,rfl,rfl,trivial⟩ (aj [some 0,some 1,some 2,some 3] ⟨pR,pR,pR,⟨_,rfl,aP (by rw[qeH hsA hsB]<;>rfl)⟩,trivial⟩ rfl rfl)
 refine A3 ?_;refine L9 3 0 ?_;refine A1 ?_;refine L9 3 9 ?_;refine Pc (dw (rC a b).1 (tX a b).1 hmf hmt) ?_;refine A4 ?_;refine Di [2] ?_;refine xC 3 0 ?_;refine A3 ?_;refine Rs 67 ?_ ?_<;>intro hb2
 ·refine BC ?_;refine lU 2 0 [_,_,⟨some g2,61,_,20,true⟩,_] [_,_,_,_,_,_,_,_,_,_,_,_,_,_,_,_,_,_,_,_] rfl rfl rfl rfl lL rfl rfl rfl rfl rfl rfl ?_;refine A4 ?_;refine bg rfl (bf 2 rfl rfl lL (vs:=[_,_,_,_,_,_,_,_,_,_,_,_,_,_,_,_,_,_,_,_]) rfl rfl (Nat.le_of_ble_eq_true rfl) rfl) (ai rfl) (fun w hL=>⟨?_,hL.below⟩);exact congrArg (fun z=>Ending.returned (.tuple #[mG (dR a b),.bool z])) (by unfold jr dR;simp_all)
 ·refine A3 ?_;refine Rs 70 ?_ ?_<;>intro hb3
  ·refine A5 ?_;refine Rs 75 ?_ ?_<;>intro hb4
   ·refine A5 ?_;refine lU 2 0 [_,_,⟨some g2,61,_,20,true⟩,_] [_,_,_,_,_,_,_,_,_,_,_,_,_,_,_,_,_,_,_,_] rfl rfl rfl rfl lL rfl rfl rfl rfl rfl rfl ?_;refine A4 ?_;refine bg rfl (bf 2 rfl rfl lL (vs:=[_,_,_,_,_,_,_,_,_,_,_,_,_,_,_,_,_,_,_,_]) rfl rfl (Nat.le_of_ble_eq_true rfl) rfl) (ai rfl) (fun w hL=>⟨?_,hL.below⟩);exact congrArg (fun z=>Ending.returned (.tuple #[mG (dR a b),.bool z])) (by unfold jr dR;simp_all)
   ·refine A5 ?_;refine lU 2 0 [_,_,⟨some g2,61,_,20,true⟩,_] [_,_,_,_,_,_,_,_,_,_,_,_,_,_,_,_,_,_,_,_] rfl rfl rfl rfl lL rfl rfl rfl rfl rfl rfl ?_;refine A4 ?_;refine bg rfl (bf 2 rfl rfl lL (vs:=[_,_,_,_,_,_,_,_,_,_,_,_,_,_,_,_,_,_,_,_]) rfl rfl (Nat.le_of_ble_eq_true rfl) rfl) (ai rfl) (fun w hL=>⟨?_,hL.below⟩);exact congrArg (fun z=>Ending.returned (.tuple #[mG (dR a b),.bool z])) (by unfold jr dR;simp_all)
  ·refine kL ?_;refine lU 2 0 [_,_,⟨some g2,61,_,20,true⟩,_] [_,_,_,_,_,_,_,_,_,_,_,_,_,_,_,_,_,_,_,_] rfl rfl rfl rfl lL rfl rfl rfl rfl rfl rfl ?_;refine A4 ?_;refine bg rfl (bf 2 rfl rfl lL (vs:=[_,_,_,_,_,_,_,_,_,_,_,_,_,_,_,_,_,_,_,_]) rfl rfl (Nat.le_of_ble_eq_true rfl) rfl) (ai rfl) (fun w hL=>⟨?_,hL.below⟩);exact congrArg (fun z=>Ending.returned (.tuple #[mG (dR a b),.bool z])) (by unfold jr dR;simp_all)
def BH(a b:Iv)(ha:kT a<=50000:=by omega)(hb:kT b<=50000:=by omega):aH Tryz.prog 81 #[mG a,mG b] (.bool (EG a b)):=by
 have a1:=Nat.le_trans (lg a) ha;have a2:=Nat.le_trans (kH a) ha;have b1:=Nat.le_trans (lg b) hb;have b2:=Nat.le_trans (kH b) hb;refine nG 25 Tryz.func81 fun w=>?_;refine A2 ?_;refine Bp 20 (fun g0=>?_);refine Bp 20 (fun g1=>?_);refine A6 ?_;refine L9 0 9 ?_;refine A1 ?_;refine L9 1 0 ?_;refine Pc (dw a.t b.f) ?_;refine A8 ?_;refine Rs 13 ?_ ?_<;>intro hb0
 ·refine y8 ?_;refine E0 ?_;exact eB (by unfold EG;first|(simp_all;done)|(simp_all;omega)|(simp_all;intros;omega))
 ·refine A3 ?_;refine Rs 16 ?_ ?_<;>intro hb1
  ·refine A3 ?_;refine Rs 19 ?_ ?_<;>intro hb2
   ·refine A9 ?_;refine E0 ?_;exact eB (by unfold EG;first|(simp_all;done)|(simp_all;omega)|(simp_all;intros;omega))
   ·refine A9 ?_;refine E0 ?_;exact eB (by unfold EG;first|(simp_all;done)|(simp_all;omega)|(simp_all;intros;omega))
  ·refine lK ?_;refine E0 ?_;exact eB (by unfold EG;first|(simp_all;done)|(simp_all;omega)|(simp_all;intros;omega))
def H8(a:List PU)(ab:Option Nat)(aN ac:Nat)(hac:a.length<=ac)(han:a.length<=1000)(b:List PU)(bb:Option Nat)(bN bc:Nat)(hbc:b.length<=bc)(hbn:b.length<=1000)(hsa:∀u∈a,kT u.i<=50000)(hsb:∀u∈b,kT u.i<=50000):bZ Tryz.prog 90 [⟨ab,201,ak aQ a,aN,false⟩,⟨bb,201,ak aQ b,bN,false⟩] [aI ab 0 a.length ac,aI bb 0 b.length bc] (SR (gV BG BU a b).length) SR.v (fun z=>[⟨z.b,151,ak O7 (gV BG BU a b),z.n,true⟩]):=by
 refine VU 66 Tryz.func90 fun w hL0=>?_;refine A18 ?_;refine El (ι:={z:Nat×Nat×List B3×Option Nat×Nat×Nat // z.1<=a.length∧z.2.1<=b.length∧z.2.2.1++gV BG BU (a.drop z.1) (b.drop z.2.1)=gV BG BU a b∧z.2.2.1.length<=z.2.2.2.2.2∧z.2.2.2.2.2*52<=z.2.2.2.2.1∧z.2.2.1.length<=z.1+z.2.1}) (fun⟨⟨i,k,o,ob,oN,oc⟩,hi,hk,hI,h3,h4,hol⟩=>([(0,aI ab 0 a.length ac),(1,aI bb 0 b.length bc),(5,aI ob 0 o.length oc),(6,bV i),(7,bV k)],[⟨ab,201,ak aQ a,aN,false⟩,⟨bb,201,ak aQ b,bN,false⟩,⟨ob,151,ak O7 o,oN,true⟩],a.length+b.length-i-k)) ⟨⟨0,0,[],none,0,0⟩,Nat.zero_le _,Nat.zero_le _,rfl,Nat.le_refl _,by simp,Nat.le_refl _⟩ ?_ (hL:=(aj [some 0,some 1,none] ⟨pR,pR,⟨rfl,rfl,rfl⟩,trivial⟩ rfl rfl));rintro⟨⟨i,k,o,ob,oN,oc⟩,hi,hk,hI,h3,h4,hol⟩;(try dsimp only);replace hi:i<=a.length:=hi;replace hk:k<=b.length:=hk;replace hI:o++gV BG BU (a.drop i) (b.drop k)=gV BG BU a b:=hI;replace h3:o.length<=oc:=h3;replace h4:oc*52<=oN:=h4;replace hol:o.length<=i+k:=hol;refine A8 ?_;refine Rs 14 ?_ ?_<;>intro hb1
 ·have hlt:i<a.length:=(by have:=of_decide_eq_true hb1;omega);obtain⟨x,hx⟩:∃x,a[i]? =some x:=⟨a[i],List.getElem?_eq_getElem hlt⟩;have hxs:=hsa x (List.mem_of_getElem? hx);refine A7 ?_;refine Cd ?_ ?_<;>intro hb2
  ·have hlk:k<b.length:=(by have:=of_decide_eq_true hb2;omega);obtain⟨y,hy⟩:∃y,b[k]? =some y:=⟨b[k],List.getElem?_eq_getElem hlk⟩;have hys:=hsb y (List.mem_of_getElem? hy)
   refine A5 ?_;refine gm 0 rfl (aC.ne (by decide) (by omega)) (fun hbs=>?_);obtain⟨ga,hga⟩:=Option.isSome_iff_exists.1 hbs;replace hga:ab=some ga:=hga;subst hga;refine gm 1 rfl (aC.ne (by decide) (by omega)) (fun hbs=>?_);obtain⟨gb,hgb⟩:=Option.isSome_iff_exists.1 hbs;replace hgb:bb=some gb:=hgb;subst hgb;refine Dq [3000000] [0,1,2,3,4,5,6,7,8,9,10,11,12,14,15,13,16] ?_;refine A2 ?_;refine au 0 ((i)*36) ku jh rfl rfl rfl rfl rfl (by omega) (by omega) (aC.ne (by decide) (by omega)) (by show 0+Int.toNat _*36=_;omega) ?_;refine Fg ((i)*36) 0 ?_;refine bn (v:=mG x.i) 0 ((i)*36+0) _ rfl rfl rfl rfl lL (aC.sub hx 0 20 (by decide)) rfl (by decide) rfl ?_;refine A2 ?_;refine au 1 ((k)*36) ku jh rfl rfl rfl rfl rfl (by omega) (by omega) (aC.ne (by decide) (by omega)) (by show 0+Int.toNat _*36=_;omega) ?_;refine Fg ((k)*36) 0 ?_;refine bn (v:=mG y.i) 1 ((k)*36+0) _ rfl rfl rfl rfl lL (aC.sub hy 0 20 (by decide)) rfl (by decide) rfl ?_;refine Pc (Lu x.i y.i hxs hys) ?_;refine A2 ?_;refine Al 20 z61 (fun g0=>?_);refine Ss 3 ?_;refine A9 ?_;refine Cd ?_ ?_<;>intro hb3
   ·have hok:jr (dR x.i y.i)=true:=hb3;refine sS (l':=[⟨_,_,_,_,_,_⟩,⟨_,_,_,_,_,_⟩,⟨_,_,_,_,_,_⟩,⟨_,_,_,_,_,_⟩,⟨_,_,_,_,_,_⟩,⟨_,_,_,_,_,_⟩,⟨_,_,_,_,_,_⟩,⟨_,_,_,_,_,_⟩,⟨_,_,_,_,_,_⟩,⟨_,_,_,_,_,_⟩,⟨_,_,_,_,_,_⟩,⟨_,_,_,_,_,_⟩]) [2000000] [1,2,3,4,5,6,7,8,9,10,11,12] [0,13,14,15] mixed (by kernel_rfl) rfl ?_;refine xC 3 0 ?_;refine A2 ?_;refine au 0 ((i)*36) ku jh rfl rfl rfl rfl rfl (by omega) (by omega) (aC.ne (by decide) (by omega)) (by show 0+Int.toNat _*36=_;omega) ?_;refine Fg ((i)*36) 20 ?_;refine bn (v:=wH x.f) 0 ((i)*36+20) _ rfl rfl rfl rfl CE (aC.sub hx 20 16 (by decide)) rfl (by decide) rfl ?_;refine A2 ?_;refine au 1 ((k)*36) ku jh rfl rfl rfl rfl rfl (by omega) (by omega) (aC.ne (by decide) (by omega)) (by show 0+Int.toNat _*36=_;omega) ?_;refine Fg ((k)*36) 20 ?_;refine bn (v:=wH y.f) 1 ((k)*36+20) _ rfl rfl rfl rfl CE (aC.sub hy 20 16 (by decide)) rfl (by decide) rfl ?_;refine(Bu [(0,_),(1,_),(2,_)]) (qdk) ?_;refine A1 ?_;refine aJ [0,13] (by kernel_rfl) ⟨⟨_,rfl,?_⟩,⟨_,rfl,?_⟩,trivial⟩
    ·refine A2 ?_;refine aJ [13] (by kernel_rfl) ⟨⟨_,rfl,?_⟩,trivial⟩
     ·refine(Bl 52 [(0,_)]) (VO) (fun g1=>?_);refine A1 ?_;refine aJ [14] (by kernel_rfl) ⟨⟨_,rfl,?_⟩,trivial⟩
      ·refine MH (s:=52) (len:=o.length) (n2:=1) 2 4 (fun r=>[_,_,⟨some r.g,151,ak O7 o++O7 (⟨dR x.i y.i,x.f,y.f⟩),r.n,true⟩,_,_]) qgB qbw rfl rfl rfl rfl rfl rfl rfl rfl rfl rfl rfl rfl (Gj.length o) h3 h4 rfl (Gj.one (⟨dR x.i y.i,x.f,y.f⟩)) (by omega) (fun _=>rfl) (fun r=>?_);refine A1 ?_;refine aJ [15] (by kernel_rfl) ⟨⟨_,rfl,?_⟩,trivial⟩
       ·refine A2 ?_;refine jX rfl ?_;refine A2 ?_;refine Di [] ?_;refine A2 ?_;refine au 0 ((i)*36) ku jh rfl rfl rfl rfl rfl (by omega) (by omega) (aC.ne (by decide) (by omega)) (by show 0+Int.toNat _*36=_;omega) ?_;refine Fg ((i)*36) 0 ?_;refine bn (v:=mG x.i) 0 ((i)*36+0) _ rfl rfl rfl rfl lL (aC.sub hx 0 20 (by decide)) rfl (by decide) rfl ?_;refine A2 ?_;refine au 1 ((k)*36) ku jh rfl rfl rfl rfl rfl (by omega) (by omega) (aC.ne (by decide) (by omega)) (by show 0+Int.toNat _*36=_;omega) ?_;refine Fg ((k)*36) 0 ?_;refine bn (v:=mG y.i) 1 ((k)*36+0) _ rfl rfl rfl rfl lL (aC.sub hy 0 20 (by decide)) rfl (by decide) rfl ?_;refine Pc (nZ x.i y.i hxs hys) ?_;refine A2 ?_;refine Cd ?_ ?_<;>intro hb4
        ·have hef:BU x y=true:=hb4;refine A2 ?_;refine Ar (((i+1:Nat):Int)) ?_;refine A4 ?_;exact Nl ⟨⟨i+1,k,o++[⟨dR x.i y.i,x.f,y.f⟩],some r.g,r.n,r.cap⟩,hlt,hk,by rw[<-hI,U3 hx hy hef,IL hok,List.append_assoc],by rw[List.length_append];exact r.h,r.hn,by show(o++[_]).length<=i+1+k;rw[List.length_append];show o.length+1<=i+1+k;omega⟩ (hμ:=(by show a.length+b.length-(i+1)-k<a.length+b.length-i-k;omega)) (ht:=⟨rfl,rfl,(aB rfl (by rw[List.length_append];rfl)),rfl,rfl,trivial⟩) (hL:=(aj [some 0,some 1,some 2] ⟨pR,pR,⟨_,rfl,aP (by rw[bD])⟩,trivial⟩ rfl rfl))
        ·have hef:BU x y=false:=hb4;refine A2 ?_;refine Ar (((k+1:Nat):Int)) ?_;refine A4 ?_;exact Nl ⟨⟨i,k+1,o++[⟨dR x.i y.i,x.f,y.f⟩],some r.g,r.n,r.cap⟩,hi,hlk,by rw[<-hI,U4 hx hy hef,IL hok,List.append_assoc],by rw[List.length_append];exact r.h,r.hn,by show(o++[_]).length<=i+(k+1);rw[List.length_append];show o.length+1<=i+(k+1);omega⟩ (hμ:=(by show a.length+b.length-i-(k+1)<a.length+b.length-i-k;omega)) (ht:=⟨rfl,rfl,(aB rfl (by rw[List.length_append];rfl)),rfl,rfl,trivial⟩) (hL:=(aj [some 0,some 1,some 2] ⟨pR,pR,⟨_,rfl,aP (by rw[bD])⟩,trivial⟩ rfl rfl))
    ·refine(Bl 52 [(0,_)]) (VO) (fun g1=>?_);refine A1 ?_;refine aJ [0] (by kernel_rfl) ⟨⟨_,rfl,?_⟩,trivial⟩
     ·refine A2 ?_;refine aJ [14] (by kernel_rfl) ⟨⟨_,rfl,?_⟩,trivial⟩
      ·refine MH (s:=52) (len:=o.length) (n2:=1) 2 4 (fun r=>[_,_,⟨some r.g,151,ak O7 o++O7 (⟨dR x.i y.i,x.f,y.f⟩),r.n,true⟩,_,_]) qgB qbw rfl rfl rfl rfl rfl rfl rfl rfl rfl rfl rfl rfl (Gj.length o) h3 h4 rfl (Gj.one (⟨dR x.i y.i,x.f,y.f⟩)) (by omega) (fun _=>rfl) (fun r=>?_);refine A1 ?_;refine aJ [15] (by kernel_rfl) ⟨⟨_,rfl,?_⟩,trivial⟩
       ·refine A2 ?_;refine jX rfl ?_;refine A2 ?_;refine Di [] ?_;refine A2 ?_;refine au 0 ((i)*36) ku jh rfl rfl rfl rfl rfl (by omega) (by omega) (aC.ne (by decide) (by omega)) (by show 0+Int.toNat _*36=_;omega) ?_;refine Fg ((i)*36) 0 ?_;refine bn (v:=mG x.i) 0 ((i)*36+0) _ rfl rfl rfl rfl lL (aC.sub hx 0 20 (by decide)) rfl (by decide) rfl ?_;refine A2 ?_;refine au 1 ((k)*36) ku jh rfl rfl rfl rfl rfl (by omega) (by omega) (aC.ne (by decide) (by omega)) (by show 0+Int.toNat _*36=_;omega) ?_;refine Fg ((k)*36) 0 ?_;refine bn (v:=mG y.i) 1 ((k)*36+0) _ rfl rfl rfl rfl lL (aC.sub hy 0 20 (by decide)) rfl (by decide) rfl ?_;refine Pc (nZ x.i y.i hxs hys) ?_;refine A2 ?_;refine Cd ?_ ?_<;>intro hb4
        ·have hef:BU x y=true:=hb4;refine A2 ?_;refine Ar (((i+1:Nat):Int)) ?_;refine A4 ?_;exact Nl ⟨⟨i+1,k,o++[⟨dR x.i y.i,x.f,y.f⟩],some r.g,r.n,r.cap⟩,hlt,hk,by rw[<-hI,U3 hx hy hef,IL hok,List.append_assoc],by rw[List.length_append];exact r.h,r.hn,by show(o++[_]).length<=i+1+k;rw[List.length_append];show o.length+1<=i+1+k;omega⟩ (hμ:=(by show a.length+b.length-(i+1)-k<a.length+b.length-i-k;omega)) (ht:=⟨rfl,rfl,(aB rfl (by rw[List.length_append];rfl)),rfl,rfl,trivial⟩) (hL:=(aj [some 0,some 1,some 2] ⟨pR,pR,⟨_,rfl,aP (by rw[bD])⟩,trivial⟩ rfl rfl))
        ·have hef:BU x y=false:=hb4;refine A2 ?_;refine Ar (((k+1:Nat):Int)) ?_;refine A4 ?_;exact Nl ⟨⟨i,k+1,o++[⟨dR x.i y.i,x.f,y.f⟩],some r.g,r.n,r.cap⟩,hi,hlk,by rw[<-hI,U4 hx hy hef,IL hok,List.append_assoc],by rw[List.length_append];exact r.h,r.hn,by show(o++[_]).length<=i+(k+1);rw[List.length_append];show o.length+1<=i+(k+1);omega⟩ (hμ:=(by show a.length+b.length-i-(k+1)<a.length+b.length-i-k;omega)) (ht:=⟨rfl,rfl,(aB rfl (by rw[List.length_append];rfl)),rfl,rfl,trivial⟩) (hL:=(aj [some 0,some 1,some 2] ⟨pR,pR,⟨_,rfl,aP (by rw[bD])⟩,trivial⟩ rfl rfl))
   ·have hok:jr (dR x.i y.i)=false:=hb3;refine A3 ?_;refine Di [] ?_;refine A2 ?_;refine au 0 ((i)*36) ku jh rfl rfl rfl rfl rfl (by omega) (by omega) (aC.ne (by decide) (by omega)) (by show 0+Int.toNat _*36=_;omega) ?_;refine Fg ((i)*36) 0 ?_;refine bn (v:=mG x.i) 0 ((i)*36+0) _ rfl rfl rfl rfl lL (aC.sub hx 0 20 (by decide)) rfl (by decide) rfl ?_;refine A2 ?_;refine au 1 ((k)*36) ku jh rfl rfl rfl rfl rfl (by omega) (by omega) (aC.ne (by decide) (by omega)) (by show 0+Int.toNat _*36=_;omega) ?_;refine Fg ((k)*36) 0 ?_;refine bn (v:=mG y.i) 1 ((k)*36+0) _ rfl rfl rfl rfl lL (aC.sub hy 0 20 (by decide)) rfl (by decide) rfl ?_;refine Pc (nZ x.i y.i hxs hys) ?_;refine A2 ?_;refine Cd ?_ ?_<;>intro hb4
    ·have hef:BU x y=true:=hb4;refine A2 ?_;refine Ar (((i+1:Nat):Int)) ?_;refine A4 ?_;exact Nl ⟨⟨i+1,k,o,ob,oN,oc⟩,hlt,hk,by rw[<-hI,U3 hx hy hef,qbx hok,List.nil_append],h3,h4,by show o.length<=i+1+k;omega⟩ (hμ:=(by show a.length+b.length-(i+1)-k<a.length+b.length-i-k;omega)) (hL:=eF.auto)
    ·have hef:BU x y=false:=hb4;refine A2 ?_;refine Ar (((k+1:Nat):Int)) ?_;refine A4 ?_;exact Nl ⟨⟨i,k+1,o,ob,oN,oc⟩,hi,hlk,by rw[<-hI,U4 hx hy hef,qbx hok,List.nil_append],h3,h4,by show o.length<=i+(k+1);omega⟩ (hμ:=(by show a.length+b.length-i-(k+1)<a.length+b.length-i-k;omega)) (hL:=eF.auto)
  ·have hge:b.length<=k:=(by have:=of_decide_eq_false hb2;omega);obtain rfl:o=gV BG BU a b:=by rw[<-hI,SQ (.inr hge),List.append_nil]
   refine lK ?_;refine aO rfl (ai rfl) (fun w hL=>⟨⟨ob,oN,oc,h3⟩,?_,hL.pk [some 2]⟩);exact rfl
 ·have hge:a.length<=i:=(by have:=of_decide_eq_false hb1;omega);obtain rfl:o=gV BG BU a b:=by rw[<-hI,SQ (.inl hge),List.append_nil]
  refine A20 ?_;refine aO rfl (ai rfl) (fun w hL=>⟨⟨ob,oN,oc,h3⟩,?_,hL.pk [some 2]⟩);exact rfl
def rU(a b c d:Rat)(ha:bP a<=40000:=by omega)(hb:bP b<=40000:=by omega)(hc:bP c<=40000:=by omega)(hd:bP d<=40000:=by omega):aH Tryz.prog 93 #[Q a,Q b,Q c,Q d] (qL (Y2 (a-c) (b-d))):=by
 have l1:=bz a c;have l2:=bz b d;have z0:=vk;have hs:uk ⟨a-c,b-d,0⟩<=100000:=Gi (by show bP (a-c)<=_;omega) (by show bP (b-d)<=_;omega) (by show bP 0<=_;omega);refine pB4 26 Tryz.func93 fun w=>?_;refine A2 ?_;refine Bp 4 (fun g0=>?_);refine Bp 4 (fun g1=>?_);refine Bp 4 (fun g2=>?_);refine Bp 4 (fun g3=>?_);refine Al 12 Hq (fun g4=>?_);refine A3 ?_;refine Dq [3000000] [0,1,3,4,2,5,6,7,8] ?_;refine L4 0 0 ?_;refine L4 2 0 ?_;refine L4 1 0 ?_;refine L4 3 0 ?_;refine Pc (eY a c) ?_;refine Pc (eY b d) ?_;refine Pc (jm (a-c) (b-d)) ?_;refine Al 12 Hq (fun g5=>?_);refine Ss 5 ?_;refine A4 ?_;refine uD 5 0 ?_;refine uD 5 0 ?_;refine Pc (H7 ⟨a-c,b-d,0⟩ ⟨a-c,b-d,0⟩ rfl rfl hs hs) ?_;refine A3 ?_;refine Al 12 Hq (fun g6=>?_);refine Ss 6 ?_;refine A5 ?_;refine uD 6 0 ?_;refine Ss 4 ?_;refine A3 ?_;refine Jz 4 ?_;exact rfl
def jo(i:Iv)(f:Qd)(h1:0<=i.f.r:=by omega)(h2:0<=i.t.r:=by omega)(hi:kT i<=10000:=by omega)(hf:uk f<=10000:=by omega):aH Tryz.prog 42 #[mG i,qL f] (Yw (dV (i,f))):=by
 have i1:=Nat.le_trans (lg i) hi;have i2:=Nat.le_trans (kH i) hi;refine nG 15 Tryz.func42 fun w=>?_;refine A2 ?_;refine Bp 20 (fun g0=>?_);refine Bp 12 (fun g1=>?_);refine Al 38 z63 (fun g2=>?_);refine A3 ?_;refine Dp [] [0,1,2,3,5,6,7,4,8,9,10] ?_;refine xC 0 0 ?_;refine uD 1 0 ?_;refine A1 ?_;refine L9 0 0 ?_;refine uD 1 0 ?_;refine A1 ?_;refine L9 0 9 ?_;refine Pc (um f i.f h1 hf) ?_;refine Pc (um f i.t h2 hf) ?_;refine(Bu [(0,_),(1,_),(2,_)]) (ZX) ?_;refine Ss 2 ?_;refine A3 ?_;refine qkU 2 ?_;exact rfl
def pW(l:List qA)(lb:Option Nat)(lN lc:Nat)(hlc:l.length<=lc)(hln:l.length<=1000)(hsz:∀p∈l,ik p.a<=50000∧ik p.b<=50000)(h0:0<l.length:=by omega):bZ Tryz.prog 43 [⟨lb,63,ak pJ l,lN,false⟩] [aI lb 0 l.length lc] Unit (fun _=>RV (fF l)) (fun _=>[]):=by
 refine QF 25 Tryz.func43 fun w hL0=>?_;refine A2 ?_;refine Al 9 MC (fun g0=>?_);refine A3 ?_;have hx0:l[0]? =some (l[0]'h0):=List.getElem?_eq_getElem h0;refine gm 0 rfl (iU.ne (by decide) h0) (fun hbs=>?_);obtain⟨gl,hgl⟩:=Option.isSome_iff_exists.1 hbs;replace hgl:lb=some gl:=hgl;subst hgl;refine A2 ?_;refine au 0 ((0)*38) u32 Qv rfl rfl rfl rfl rfl (by omega) (by omega) (iU.ne (by decide) (by omega)) (by show 0+Int.toNat _*38=_;omega) ?_;refine Fg ((0)*38) 20 ?_;refine bn (v:=RV (l[0]'h0).a) 0 ((0)*38+20) _ rfl rfl rfl rfl wL (iU.sub hx0 20 9 (by decide)) rfl (by decide) rfl ?_;refine Al 9 MC (fun g1=>?_);refine Ss 2 ?_;refine qf ?_;refine El (ι:={z:Nat×Rl // z.1<=l.length∧z.2=(l.take z.1).foldl (fun o x=>jL o (jL x.a x.b)) (l[0]'h0).a}) (fun⟨⟨i,m⟩,hi,hI⟩=>([(2,gU g0),(3,gU g1),(10,aI (some gl) 0 l.length lc),(11,bV (l.length)),(12,bV i)],[⟨some gl,63,ak pJ l,lN,false⟩,⟨some g0,38,zRc,9,true⟩,⟨some g1,38,Fb m,9,true⟩],l.length-i)) ⟨⟨0,(l[0]'h0).a⟩,Nat.zero_le _,rfl⟩ ?_ (hL:=eF.auto);rintro⟨⟨i,m⟩,hi,hI⟩;(try dsimp only);replace hi:i<=l.length:=hi;replace hI:m=(l.take i).foldl (fun o x=>jL o (jL x.a x.b)) (l[0]'h0).a:=hI
 have hms:ik m<=50000:=(by rw[hI];exact qeQ (fun p hp=>hsz p (List.mem_of_mem_take hp)) (hsz _ (List.getElem_mem h0)).1);refine A6 ?_;refine Cd ?_ ?_<;>intro hb1
 ·have hlt:i<l.length:=(by have:=of_decide_eq_true hb1;omega);obtain⟨x,hx⟩:∃x,l[i]? =some x:=⟨l[i],List.getElem?_eq_getElem hlt⟩;have hxs:=hsz x (List.mem_of_getElem? hx);refine A6 ?_;refine au 0 ((i)*38) u32 Qv rfl rfl rfl rfl rfl (by omega) (by omega) (iU.ne (by decide) (by omega)) (by show 0+Int.toNat _*38=_;omega) ?_;refine bn (v:=Yw x) 0 ((i)*38) _ rfl rfl rfl rfl Qv (iU.sub hx 0 38 (by decide)) rfl (by decide) rfl ?_;refine Al 38 z63 (fun g2=>?_);refine Ss 3 ?_;refine A2 ?_;refine Di [] ?_;refine L9 2 0 ?_;refine A1 ?_;refine L9 3 20 ?_;refine A1 ?_;refine L9 3 29 ?_;refine Pc (J5 x.a x.b hxs.1 hxs.2) ?_;refine Pc (J5 m (jL x.a x.b) hms (Pv hxs.1 hxs.2)) ?_;refine Ss 2 ?_;refine A4 ?_;refine Ar (((i+1:Nat):Int)) ?_;refine A3 ?_;exact Nl ⟨⟨i+1,jL m (jL x.a x.b)⟩,hlt,by show _=(l.take (i+1)).foldl (fun o x=>jL o (jL x.a x.b)) _;rw[<-fB hx,List.foldl_append,<-hI];rfl⟩ (hμ:=(by show l.length-(i+1)<l.length-i;omega)) (hL:=eF.auto)
 ·have hge:i=l.length:=(by have:=of_decide_eq_false hb1;omega);subst hge;obtain rfl:m=fF l:=by rw[hI,List.take_length];exact U2 h0
  refine A7 ?_;refine L9 2 0 ?_;refine Ss 1 ?_;refine A3 ?_;refine Ec9 1 fun w hL=>⟨(),?_,hL.pk []⟩;exact rfl
end Go.Proofs.YtaffcpfhedadhaaGreatDoor
namespace Go.Via
abbrev YK(l:List PU):Prop:=Ends jl l
def qhA{a b:List PU}(ha:Ends jl a)(hb:Ends jl b):∀z∈gV BG BU a b,jl z.i.f∧jl z.i.t:=fun z hz=>by
 obtain⟨x,hx,y,hy,e⟩:=ES hz;unfold BG wU at e
 split at e
 ·simp at e;subst e;exact CX (ha x hx) (hb y hy)
 ·simp at e
def YL{a b:List PU}(ha:Ends jl a)(hb:Ends jl b):∀z∈ay a b,jl z.1.f∧jl z.1.t:=fun z hz=>by
 rw[<-EU] at hz;obtain⟨w,hw,rfl⟩:=List.mem_map.1 hz;exact qhA ha hb w hw
theorem Gn{x:Rl}(h:jl x):x.r=0:=by obtain⟨z,rfl⟩:=h;rfl
def YM{a b:List PU}(ha:He a)(hb:He b):∀p∈(ay a b).map dV,ik p.a<=50000∧ik p.b<=50000:=fun p hp=>by
 obtain⟨z,hz,rfl⟩:=List.mem_map.1 hp;obtain⟨h1,h2⟩:=EW ha hb z hz;have l1:=Nat.le_trans (lg z.1) h1;have l2:=Nat.le_trans (kH z.1) h1;exact⟨Nat.le_trans (Pj h2 l1) (by omega),Nat.le_trans (Pj h2 l2) (by omega)⟩
def CfV(s:Value)(m:Rl):Value:= .agg #[s,.bool (decide (m.p.num<0)),.string (bF m.p.num.natAbs),.bool false,.string (dm m.p),.bool (decide (m.r.num<0)),.string (bF m.r.num.natAbs),.bool false,.string (dm m.r),.bool m.n]
def qeR(s:Value)(m:Rl):List Value:=[s,.bool (decide (m.p.num<0)),.string (bF m.p.num.natAbs),.bool false,.string (dm m.p),.bool (decide (m.r.num<0)),.string (bF m.r.num.natAbs),.bool false,.string (dm m.r),.bool m.n]
def qk8:List Value:=[.slice none 0 0,aU,aV,aU,aV,aU,aV,aU,aV,.bool false]
theorem qhB(s:Value):qeR s (rl 0)=s::zRc:=congrArg (fun l=>s::l) qbv
end Go.Via
namespace Go.Via
open Go
structure SS(a b:List PU):Prop where
 sa:nX iM a
 sb:nX iM b
 ea:YK a
 eb:YK b
end Go.Via
namespace Go.Via
open Go
def YN(out:List Iv)(t:Rl)(tp:Bool):(SI out t tp).length<=out.length:=by
 rcases List.eq_nil_or_concat out with e|⟨o,i,e⟩
 ·subst e;unfold SI;simp
 ·subst e;rw[List.concat_eq_append,Dl];simp
def NK(out:List Iv)(og h:Bool)(t:Rl):(zZ out og h t).length<=out.length+1:=by
 unfold zZ;have h1:=YN out t (!h)
 repeat' split
 all_goals first|(simp;done)|omega|(simp;omega)
def SV{here:Rl->Bool}{btw:Rl->Rl->Bool}:∀{ts:List Rl} {out:List Iv} {og:Bool},(Gl here btw ts out og).length<=out.length+2*ts.length
 |[],out,og=>by unfold Gl;simp
 |[t],out,og=>by unfold Gl;have:=NK out og (here t) t;simp;omega
 |t::u::ts,out,og=>by
  unfold Gl;have h1:=NK out og (here t) t;have h2:=SV (here:=here) (btw:=btw) (ts:=u::ts) (out:=if btw t u=true∧here t=false then zZ out og (here t) t++[⟨t,u,true,true⟩] else zZ out og (here t) t) (og:=btw t u)
  refine Nat.le_trans h2 ?_
  split
  ·simp only[List.length_append,List.length_cons,List.length_nil];omega
  ·simp only[List.length_cons];omega
def NL(op:Bool->Bool->Bool)(a b:List Iv):(nO op a b).length<=4*(a.length+b.length):=by
 rw[qeP];have h:=SV (here:=fun t=>op (yA a t) (yA b t)) (btw:=fun t u=>op (yB a t u) (yB b t u)) (ts:=yC (gK (a++b))) (out:=[]) (og:=false)
 have h2:=qeO (gK (a++b));rw[J7,List.length_append] at h2;simp only[List.length_nil] at h;omega
def qby{S S':Rl->Prop}{ρ:Rl->Int}(T:fD S ρ)(h:∀x,S' x->S x):fD S' ρ:=⟨fun a b=>T.lt (h _ a) (h _ b),fun a b=>T.gt (h _ a) (h _ b),fun a b=>T.inj (h _ a) (h _ b)⟩
def SmE(n:Nat)(x:Rl):Prop:=jl x∧ik x<=n
def NM(n:Nat):fD (SmE n) iM:=qby zO fun _ h=>h.1
def xy(c:List qA):Nat->Option Iv
 |0=>none
 |n+1=>(c[n]?).map (·.i)
theorem WS{c:List qA}{i:Nat}{p:qA}(h:c[i]? =some p):xy c (i+1)=some p.i:=by show(c[i]?).map (·.i)=_;rw[h];rfl
theorem WT{c:List qA}{i:Nat}{p:qA}(h:c[i]? =some p):c.drop i=p::c.drop (i+1):=by
 obtain⟨h1,h2⟩:=List.getElem?_eq_some_iff.1 h;rw[<-h2,List.getElem_cons_drop]
def qjt{f:Option Iv->qA->Int}{c:List qA}{i:Nat}{p:qA}(h:c[i]? =some p)(hL:kz f none c=kz f (xy c i) (c.drop i))(h0:f (xy c i) p=0):kz f none c=kz f (xy c (i+1)) (c.drop (i+1)):=by
 rw[hL,WT h,WS h]
 conv=>lhs;unfold kz
 rw[if_pos h0]
def qhC{f:Option Iv->qA->Int}{c:List qA}{i:Nat}{p:qA}{e:Int}(h:c[i]? =some p)(hL:kz f none c=kz f (xy c i) (c.drop i))(he:f (xy c i) p=e)(h0:e≠0):kz f none c=e:=by
 rw[hL,WT h]
 conv=>lhs;unfold kz
 rw[if_neg (by rw[he];exact h0),he]
def qhD{f:Option Iv->qA->Int}{c:List qA}(hL:kz f none c=kz f (xy c c.length) (c.drop c.length)):kz f none c=0:=by
 rw[hL,List.drop_length];cases xy c c.length<;>rfl
end Go.Via
namespace Go.Proofs.YtaffcpfhedadhaaGreatDoor
open Go Go.RowKit Go.Via
def oh(a:List PU)(ab:Option Nat)(aN ac:Nat)(hac:a.length<=ac)(han:a.length<=1000)(b:List PU)(bb:Option Nat)(bN bc:Nat)(hbc:b.length<=bc)(hbn:b.length<=1000)(hsa:He a)(hsb:He b):bZ Tryz.prog 41 [⟨ab,100,ak aQ a,aN,false⟩,⟨bb,100,ak aQ b,bN,false⟩] [aI ab 0 a.length ac,aI bb 0 b.length bc] (SR (ay a b).length) SR.v (fun z=>[⟨z.b,93,ak C9 (ay a b),z.n,true⟩]):=by
 refine⟨by kernel_rfl,fun w hL0=>?_⟩;have hrl:=ET (mt:=BG) (ef:=BU) a b;refine cB2 55 Tryz.func41 hL0 ?_;refine DV ?_;refine(Sc [0]) (ut a ab aN ac hac han) (fun za=>?_);obtain⟨zab,zaN,zac,hzac⟩:=za;refine A1 ?_;refine(Sc [1]) (ut b bb bN bc hbc hbn) (fun zb=>?_);obtain⟨zbb,zbN,zbc,hzbc⟩:=zb;refine(Sc [2,3]) (H8 a zab zaN zac hzac han b zbb zbN zbc hzbc hbn hsa.v hsb.v) (fun zr=>?_);obtain⟨rb,rN,rc,hrc⟩:=zr;refine A5 ?_;refine El (ι:={z:Nat×List (Iv×Qd)×Option Nat×Nat×Nat // z.1<=(gV BG BU a b).length∧z.2.1=((gV BG BU a b).take z.1).map (fun z:B3=>(z.i,d2 z.f z.g))∧z.2.1.length<=z.2.2.2.2∧z.2.2.2.2*32<=z.2.2.2.1}) (fun⟨⟨i,o,ob,oN,oc⟩,hi,hI,h3,h4⟩=>([(5,aI ob 0 o.length oc),(13,aI rb 0 (gV BG BU a b).length rc),(14,bV ((gV BG BU a b).length)),(15,bV i)],[⟨rb,151,ak O7 (gV BG BU a b),rN,true⟩,⟨ob,93,ak C9 o,oN,true⟩],(gV BG BU a b).length-i)) ⟨⟨0,[],none,0,0⟩,Nat.zero_le _,rfl,Nat.le_refl _,by simp⟩ ?_ (hL:=(aj [some 4,none] ⟨pR,⟨rfl,rfl,rfl⟩,trivial⟩ rfl rfl));rintro⟨⟨i,o,ob,oN,oc⟩,hi,hI,h3,h4⟩;(try dsimp only);replace hi:i<=(gV BG BU a b).length:=hi;replace hI:o=((gV BG BU a b).take i).map (fun z:B3=>(z.i,d2 z.f z.g)):=hI;replace h3:o.length<=oc:=h3;replace h4:oc*32<=oN:=h4
 have hol:o.length<=100000:=(by rw[hI,List.length_map,List.length_take];omega);refine A6 ?_;refine Cd ?_ ?_<;>intro hb1
 ·have hlt:i<(gV BG BU a b).length:=(by have:=of_decide_eq_true hb1;omega);obtain⟨x,hx⟩:∃x,(gV BG BU a b)[i]? =some x:=⟨_,List.getElem?_eq_getElem hlt⟩;have hxs:=qfK hsa hsb x (List.mem_of_getElem? hx);have f0:=Nat.le_trans (qP x.f) hxs.2.1;have f1:=Nat.le_trans (qQ x.f) hxs.2.1;have f2:=Nat.le_trans (qR x.f) hxs.2.1;have f3:=Nat.le_trans (qU x.f) hxs.2.1;have g0:=Nat.le_trans (qP x.g) hxs.2.2;have g1:=Nat.le_trans (qQ x.g) hxs.2.2;have g2:=Nat.le_trans (qR x.g) hxs.2.2;have g3:=Nat.le_trans (qU x.g) hxs.2.2;have s0:=bz x.f.x0 x.g.x0;have s1:=bz x.f.x1 x.g.x1;have s2:=bz x.f.y0 x.g.y0;have s3:=bz x.f.y1 x.g.y1;refine A6 ?_;refine au 0 ((i)*52) qgB qfx rfl rfl rfl rfl rfl (by omega) (by omega) (Gj.ne (by decide) (by omega)) (by show 0+Int.toNat _*52=_;omega) ?_;refine bn (v:=B3V x) 0 ((i)*52) _ rfl rfl rfl rfl qfx (Gj.sub hx 0 52 (by decide)) rfl (by decide) rfl ?_;refine Al 52 qky (fun g0=>?_);refine Ss 2 ?_;refine A3 ?_;refine Fv (l':=[⟨_,_,_,_,_,_⟩,⟨_,_,_,_,_,_⟩,⟨_,_,_,_,_,_⟩,⟨_,_,_,_,_,_⟩,⟨_,_,_,_,_,_⟩,⟨_,_,_,_,_,_⟩,⟨_,_,_,_,_,_⟩,⟨_,_,_,_,_,_⟩,⟨_,_,_,_,_,_⟩,⟨_,_,_,_,_,_⟩,⟨_,_,_,_,_,_⟩,⟨_,_,_,_,_,_⟩,⟨_,_,_,_,_,_⟩,⟨_,_,_,_,_,_⟩,⟨_,_,_,_,_,_⟩,⟨_,_,_,_,_,_⟩,⟨_,_,_,_,_,_⟩,⟨_,_,_,_,_,_⟩,⟨_,_,_,_,_,_⟩,⟨_,_,_,_,_,_⟩,⟨_,_,_,_,_,_⟩,⟨_,_,_,_,_,_⟩,⟨_,_,_,_,_,_⟩,⟨_,_,_,_,_,_⟩,⟨_,_,_,_,_,_⟩,⟨_,_,_,_,_,_⟩,⟨_,_,_,_,_,_⟩,⟨_,_,_,_,_,_⟩,⟨_,_,_,_,_,_⟩]) [3000000] [0,1,2,3,4,5,6,7,8,9,10,11,13,14,15,16,17,18,19,20,21,22,23,24,12,25,26,27,28] mixed (Vu [0,1,3,0,8,24,0,64,192,0,512,1536,4095,0,8192,24576,0,65536,196608,0,524288,1572864,0,4194304,12582912,33554431,67108863,0,268435455] (by kernel_rfl)) rfl ?_;refine A2 ?_;refine L4 2 20 ?_;refine A2 ?_;refine L4 2 24 ?_;refine A2 ?_;refine L4 2 36 ?_;refine A2 ?_;refine L4 2 40 ?_;refine A2 ?_;refine L4 2 28 ?_;refine A2 ?_;refine L4 2 32 ?_;refine A2 ?_;refine L4 2 44 ?_;refine A2 ?_;refine L4 2 48 ?_;refine Pc (rU x.f.x0 x.f.x1 x.g.x0 x.g.x1) ?_;refine Pc (rU x.f.y0 x.f.y1 x.g.y0 x.g.y1) ?_;refine Pc (H6 (Y2 (x.f.x0-x.g.x0) (x.f.x1-x.g.x1)) (Y2 (x.f.y0-x.g.y0) (x.f.y1-x.g.y1)) (Nat.le_trans (WR (n:=300) (by omega) (by omega)) (by omega)) (Nat.le_trans (WR (n:=300) (by omega) (by omega)) (by omega))) ?_;refine aW 45 (qL (d2 x.f x.g)) rfl (congrArg qL (qhz _ _)) ?_;refine Al 12 Hq (fun g1=>?_);refine Ss 3 ?_;refine A5 ?_;refine xC 2 0 ?_;refine uD 3 0 ?_;refine(Bu [(0,_),(1,_)]) (qgv) ?_;refine(Bl 32 [(0,_)]) (qgz) (fun g2=>?_);refine(Qa (s:=32) (len:=o.length) (n2:=1) 1 4 (fun r=>[_,⟨some r.g,93,ak C9 o++C9 ((x.i,d2 x.f x.g)),r.n,true⟩,_,_,_]) u88 qkD) (nH.length o) h3 h4 (nH.one ((x.i,d2 x.f x.g))) (fun r=>?_);refine A5 ?_;refine Ar (((i+1:Nat):Int)) ?_;refine A3 ?_;exact Nl ⟨⟨i+1,o++[(x.i,d2 x.f x.g)],some r.g,r.n,r.cap⟩,hlt,by show o++[(x.i,d2 x.f x.g)]=((gV BG BU a b).take (i+1)).map (fun z:B3=>(z.i,d2 z.f z.g));rw[<-fB hx,List.map_append,<-hI];rfl,by rw[List.length_append];exact r.h,r.hn⟩ (hμ:=(by show(gV BG BU a b).length-(i+1)<(gV BG BU a b).length-i;omega)) (ht:=⟨(aB rfl (by rw[List.length_append];rfl)),rfl,rfl,rfl,trivial⟩) (hL:=(aj [some 0,some 1] ⟨pR,⟨_,rfl,aP (by rw[bD])⟩,trivial⟩ rfl rfl))
 ·have hge:i=(gV BG BU a b).length:=(by have:=of_decide_eq_false hb1;omega);subst hge;obtain rfl:o=ay a b:=by rw[hI,List.take_length];exact EU a b
  refine lK ?_;refine aO rfl (ai rfl) (fun w hL=>⟨⟨ob,oN,oc,h3⟩,?_,hL.pk [some 1]⟩);exact rfl
def uw(a:List PU)(ab:Option Nat)(aN ac:Nat)(hac:a.length<=ac)(han:a.length<=400)(b:List PU)(bb:Option Nat)(bN bc:Nat)(hbc:b.length<=bc)(hbn:b.length<=400)(hsa:He a)(hsb:He b)(ea:YK a)(eb:YK b):bZ Tryz.prog 14 [⟨ab,100,ak aQ a,aN,false⟩,⟨bb,100,ak aQ b,bN,false⟩] [aI ab 0 a.length ac,aI bb 0 b.length bc] (SR ((ay a b).map dV).length) (fun z=> .tuple #[CfV z.v (fF ((ay a b).map dV)),.int .i64 (if((ay a b).map dV).length=0 then 36 else 0)]) (fun z=>[⟨z.b,63,ak pJ ((ay a b).map dV),z.n,true⟩]):=by
 refine⟨by kernel_rfl,fun w hL0=>?_⟩;have hpl:=Bz a b;refine cB2 38 Tryz.func14 hL0 ?_;refine A2 ?_;refine Al 10 z40 (fun g0=>?_);refine A5 ?_;refine Al 10 z40 (fun g1=>?_);refine A7 ?_;refine(Sc [0,1]) (oh a ab aN ac hac (by omega) b bb bN bc hbc (by omega) hsa hsb) (fun zr=>?_);obtain⟨rb,rN,rc,hrc⟩:=zr;refine A5 ?_;refine El (ι:={z:Nat×List qA×Option Nat×Nat×Nat // z.1<=(ay a b).length∧z.2.1=((ay a b).take z.1).map dV∧z.2.1.length<=z.2.2.2.2∧z.2.2.2.2*38<=z.2.2.2.1}) (fun⟨⟨i,o,ob,oN,oc⟩,hi,hI,h3,h4⟩=>([(4,gU g0),(5,.int .i64 0),(6,gU g1),(11,aI rb 0 (ay a b).length rc),(12,bV ((ay a b).length)),(13,bV i)],[⟨rb,93,ak C9 (ay a b),rN,true⟩,⟨some g0,40,qk8,10,true⟩,⟨some g1,40,qeR (aI ob 0 o.length oc) (rl 0),10,true⟩,⟨ob,63,ak pJ o,oN,true⟩],(ay a b).length-i)) ⟨⟨0,[],none,0,0⟩,Nat.zero_le _,rfl,Nat.le_refl _,by simp⟩ ?_ (hL:=(aj [some 4,some 2,some 3,none] ⟨pR,pR,⟨_,rfl,aP (by rw[qhB];rfl)⟩,⟨rfl,rfl,rfl⟩,trivial⟩ rfl rfl));rintro⟨⟨i,o,ob,oN,oc⟩,hi,hI,h3,h4⟩;(try dsimp only);replace hi:i<=(ay a b).length:=hi;replace hI:o=((ay a b).take i).map dV:=hI;replace h3:o.length<=oc:=h3;replace h4:oc*38<=oN:=h4
 have hol:o.length<=100000:=(by rw[hI,List.length_map,List.length_take];omega);refine A6 ?_;refine Cd ?_ ?_<;>intro hb1
 ·have hlt:i<(ay a b).length:=(by have:=of_decide_eq_true hb1;omega);obtain⟨x,hx⟩:∃x,(ay a b)[i]? =some x:=⟨_,List.getElem?_eq_getElem hlt⟩;have hxs:=EW hsa hsb x (List.mem_of_getElem? hx);have hxi:=YL ea eb x (List.mem_of_getElem? hx);refine A6 ?_;refine au 0 ((i)*32) u88 Ll rfl rfl rfl rfl rfl (by omega) (by omega) (nH.ne (by decide) (by omega)) (by show 0+Int.toNat _*32=_;omega) ?_;refine bn (v:=PtV x) 0 ((i)*32) _ rfl rfl rfl rfl Ll (nH.sub hx 0 32 (by decide)) rfl (by decide) rfl ?_;refine Al 32 z93 (fun g2=>?_);refine Ss 4 ?_;refine A2 ?_;refine sS (l':=[⟨_,_,_,_,_,_⟩,⟨_,_,_,_,_,_⟩,⟨_,_,_,_,_,_⟩,⟨_,_,_,_,_,_⟩]) [2000000] [2,3,4,5] [0,1,6,7,8,9,10] mixed (by kernel_rfl) rfl ?_;refine A1 ?_;refine xC 4 0 ?_;refine A1 ?_;refine uD 4 20 ?_;refine A1 ?_;refine aJ [0,6] (by kernel_rfl) ⟨⟨_,rfl,?_⟩,⟨_,rfl,?_⟩,trivial⟩
  ·refine A2 ?_;refine aJ [1,6] (by kernel_rfl) ⟨⟨_,rfl,?_⟩,⟨_,rfl,?_⟩,trivial⟩
   ·refine A2 ?_;refine aJ [6] (by kernel_rfl) ⟨⟨_,rfl,?_⟩,trivial⟩
    ·refine Pc (jo x.1 x.2 (by rw[Gn hxi.1];exact Rat.le_refl) (by rw[Gn hxi.2];exact Rat.le_refl)) ?_;refine A1 ?_;refine aJ [7] (by kernel_rfl) ⟨⟨_,rfl,?_⟩,trivial⟩
     ·refine(Bl 38 [(0,_)]) (FO) (fun g3=>?_);refine A1 ?_;refine aJ [8] (by kernel_rfl) ⟨⟨_,rfl,?_⟩,trivial⟩
      ·refine(Qa (s:=38) (len:=o.length) (n2:=1) 3 5 (fun r=>[_,_,_,⟨some r.g,63,ak pJ o++pJ (dV x),r.n,true⟩,_,_]) u32 XW) (iU.length o) h3 h4 (iU.one (dV x)) (fun r=>?_);refine A1 ?_;refine aJ [9] (by kernel_rfl) ⟨⟨_,rfl,?_⟩,trivial⟩
       ·refine A2 ?_;refine aJ [10] (by kernel_rfl) ⟨⟨_,rfl,?_⟩,trivial⟩
        ·refine Ss 2 ?_;refine A1 ?_;refine jX rfl ?_;refine A3 ?_;refine Ar (((i+1:Nat):Int)) ?_;refine A3 ?_;exact Nl ⟨⟨i+1,o++[dV x],some r.g,r.n,r.cap⟩,hlt,by show o++[dV x]=((ay a b).take (i+1)).map dV;rw[<-fB hx,List.map_append,<-hI];rfl,by rw[List.length_append];exact r.h,r.hn⟩ (hμ:=(by show(ay a b).length-(i+1)<(ay a b).length-i;omega)) (hL:=(aj [some 0,some 1,some 2,some 3] ⟨pR,pR,⟨_,rfl,aP (by rw[List.length_append];rfl)⟩,⟨_,rfl,aP (by rw[bD])⟩,trivial⟩ rfl rfl))
   ·refine Pc (jo x.1 x.2 (by rw[Gn hxi.1];exact Rat.le_refl) (by rw[Gn hxi.2];exact Rat.le_refl)) ?_;refine A1 ?_;refine aJ [1,7] (by kernel_rfl) ⟨⟨_,rfl,?_⟩,⟨_,rfl,?_⟩,trivial⟩
    ·refine A2 ?_;refine aJ [7] (by kernel_rfl) ⟨⟨_,rfl,?_⟩,trivial⟩
     ·refine(Bl 38 [(0,_)]) (FO) (fun g3=>?_);refine A1 ?_;refine aJ [8] (by kernel_rfl) ⟨⟨_,rfl,?_⟩,trivial⟩
      ·refine(Qa (s:=38) (len:=o.length) (n2:=1) 3 5 (fun r=>[_,_,_,⟨some r.g,63,ak pJ o++pJ (dV x),r.n,true⟩,_,_]) u32 XW) (iU.length o) h3 h4 (iU.one (dV x)) (fun r=>?_);refine A1 ?_;refine aJ [9] (by kernel_rfl) ⟨⟨_,rfl,?_⟩,trivial⟩
       ·refine A2 ?_;refine aJ [10] (by kernel_rfl) ⟨⟨_,rfl,?_⟩,trivial⟩
        ·refine Ss 2 ?_;refine A1 ?_;refine jX rfl ?_;refine A3 ?_;refine Ar (((i+1:Nat):Int)) ?_;refine A3 ?_;exact Nl ⟨⟨i+1,o++[dV x],some r.g,r.n,r.cap⟩,hlt,by show o++[dV x]=((ay a b).take (i+1)).map dV;rw[<-fB hx,List.map_append,<-hI];rfl,by rw[List.length_append];exact r.h,r.hn⟩ (hμ:=(by show(ay a b).length-(i+1)<(ay a b).length-i;omega)) (hL:=(aj [some 0,some 1,some 2,some 3] ⟨pR,pR,⟨_,rfl,aP (by rw[List.length_append];rfl)⟩,⟨_,rfl,aP (by rw[bD])⟩,trivial⟩ rfl rfl))
    ·refine(Bl 38 [(0,_)]) (FO) (fun g3=>?_);refine A1 ?_;refine aJ [1] (by kernel_rfl) ⟨⟨_,rfl,?_⟩,trivial⟩
     ·refine A2 ?_;refine aJ [8] (by kernel_rfl) ⟨⟨_,rfl,?_⟩,trivial⟩
      ·refine(Qa (s:=38) (len:=o.length) (n2:=1) 3 5 (fun r=>[_,_,_,⟨some r.g,63,ak pJ o++pJ (dV x),r.n,true⟩,_,_]) u32 XW) (iU.length o) h3 h4 (iU.one (dV x)) (fun r=>?_);refine A1 ?_;refine aJ [9] (by kernel_rfl) ⟨⟨_,rfl,?_⟩,trivial⟩
       ·refine A2 ?_;refine aJ [10] (by kernel_rfl) ⟨⟨_,rfl,?_⟩,trivial⟩
        ·refine Ss 2 ?_;refine A1 ?_;refine jX rfl ?_;refine A3 ?_;refine Ar (((i+1:Nat):Int)) ?_;refine A3 ?_;exact Nl ⟨⟨i+1,o++[dV x],some r.g,r.n,r.cap⟩,hlt,by show o++[dV x]=((ay a b).take (i+1)).map dV;rw[<-fB hx,List.map_append,<-hI];rfl,by rw[List.length_append];exact r.h,r.hn⟩ (hμ:=(by show(ay a b).length-(i+1)<(ay a b).length-i;omega)) (hL:=(aj [some 0,some 1,some 2,some 3] ⟨pR,pR,⟨_,rfl,aP (by rw[List.length_append];rfl)⟩,⟨_,rfl,aP (by rw[bD])⟩,trivial⟩ rfl rfl))
  ·refine Pc (jo x.1 x.2 (by rw[Gn hxi.1];exact Rat.le_refl) (by rw[Gn hxi.2];exact Rat.le_refl)) ?_;refine A1 ?_;refine aJ [0,7] (by kernel_rfl) ⟨⟨_,rfl,?_⟩,⟨_,rfl,?_⟩,trivial⟩
   ·refine A2 ?_;refine aJ [1,7] (by kernel_rfl) ⟨⟨_,rfl,?_⟩,⟨_,rfl,?_⟩,trivial⟩
    ·refine A2 ?_;refine aJ [7] (by kernel_rfl) ⟨⟨_,rfl,?_⟩,trivial⟩
     ·refine(Bl 38 [(0,_)]) (FO) (fun g3=>?_);refine A1 ?_;refine aJ [8] (by kernel_rfl) ⟨⟨_,rfl,?_⟩,trivial⟩
      ·refine(Qa (s:=38) (len:=o.length) (n2:=1) 3 5 (fun r=>[_,_,_,⟨some r.g,63,ak pJ o++pJ (dV x),r.n,true⟩,_,_]) u32 XW) (iU.length o) h3 h4 (iU.one (dV x)) (fun r=>?_);refine A1 ?_;refine aJ [9] (by kernel_rfl) ⟨⟨_,rfl,?_⟩,trivial⟩
       ·refine A2 ?_;refine aJ [10] (by kernel_rfl) ⟨⟨_,rfl,?_⟩,trivial⟩
        ·refine Ss 2 ?_;refine A1 ?_;refine jX rfl ?_;refine A3 ?_;refine Ar (((i+1:Nat):Int)) ?_;refine A3 ?_;exact Nl ⟨⟨i+1,o++[dV x],some r.g,r.n,r.cap⟩,hlt,by show o++[dV x]=((ay a b).take (i+1)).map dV;rw[<-fB hx,List.map_append,<-hI];rfl,by rw[List.length_append];exact r.h,r.hn⟩ (hμ:=(by show(ay a b).length-(i+1)<(ay a b).length-i;omega)) (hL:=(aj [some 0,some 1,some 2,some 3] ⟨pR,pR,⟨_,rfl,aP (by rw[List.length_append];rfl)⟩,⟨_,rfl,aP (by rw[bD])⟩,trivial⟩ rfl rfl))
    ·refine(Bl 38 [(0,_)]) (FO) (fun g3=>?_);refine A1 ?_;refine aJ [1] (by kernel_rfl) ⟨⟨_,rfl,?_⟩,trivial⟩
     ·refine A2 ?_;refine aJ [8] (by kernel_rfl) ⟨⟨_,rfl,?_⟩,trivial⟩
      ·refine(Qa (s:=38) (len:=o.length) (n2:=1) 3 5 (fun r=>[_,_,_,⟨some r.g,63,ak pJ o++pJ (dV x),r.n,true⟩,_,_]) u32 XW) (iU.length o) h3 h4 (iU.one (dV x)) (fun r=>?_);refine A1 ?_;refine aJ [9] (by kernel_rfl) ⟨⟨_,rfl,?_⟩,trivial⟩
       ·refine A2 ?_;refine aJ [10] (by kernel_rfl) ⟨⟨_,rfl,?_⟩,trivial⟩
        ·refine Ss 2 ?_;refine A1 ?_;refine jX rfl ?_;refine A3 ?_;refine Ar (((i+1:Nat):Int)) ?_;refine A3 ?_;exact Nl ⟨⟨i+1,o++[dV x],some r.g,r.n,r.cap⟩,hlt,by show o++[dV x]=((ay a b).take (i+1)).map dV;rw[<-fB hx,List.map_append,<-hI];rfl,by rw[List.length_append];exact r.h,r.hn⟩ (hμ:=(by show(ay a b).length-(i+1)<(ay a b).length-i;omega)) (hL:=(aj [some 0,some 1,some 2,some 3] ⟨pR,pR,⟨_,rfl,aP (by rw[List.length_append];rfl)⟩,⟨_,rfl,aP (by rw[bD])⟩,trivial⟩ rfl rfl))
   ·refine(Bl 38 [(0,_)]) (FO) (fun g3=>?_);refine A1 ?_;refine aJ [0] (by kernel_rfl) ⟨⟨_,rfl,?_⟩,trivial⟩
    ·refine A2 ?_;refine aJ [1] (by kernel_rfl) ⟨⟨_,rfl,?_⟩,trivial⟩
     ·refine A2 ?_;refine aJ [8] (by kernel_rfl) ⟨⟨_,rfl,?_⟩,trivial⟩
      ·refine(Qa (s:=38) (len:=o.length) (n2:=1) 3 5 (fun r=>[_,_,_,⟨some r.g,63,ak pJ o++pJ (dV x),r.n,true⟩,_,_]) u32 XW) (iU.length o) h3 h4 (iU.one (dV x)) (fun r=>?_);refine A1 ?_;refine aJ [9] (by kernel_rfl) ⟨⟨_,rfl,?_⟩,trivial⟩
       ·refine A2 ?_;refine aJ [10] (by kernel_rfl) ⟨⟨_,rfl,?_⟩,trivial⟩
        ·refine Ss 2 ?_;refine A1 ?_;refine jX rfl ?_;refine A3 ?_;refine Ar (((i+1:Nat):Int)) ?_;refine A3 ?_;exact Nl ⟨⟨i+1,o++[dV x],some r.g,r.n,r.cap⟩,hlt,by show o++[dV x]=((ay a b).take (i+1)).map dV;rw[<-fB hx,List.map_append,<-hI];rfl,by rw[List.length_append];exact r.h,r.hn⟩ (hμ:=(by show(ay a b).length-(i+1)<(ay a b).length-i;omega)) (hL:=(aj [some 0,some 1,some 2,some 3] ⟨pR,pR,⟨_,rfl,aP (by rw[List.length_append];rfl)⟩,⟨_,rfl,aP (by rw[bD])⟩,trivial⟩ rfl rfl))
 ·have hge:i=(ay a b).length:=(by have:=of_decide_eq_false hb1;omega);subst hge;obtain rfl:o=(ay a b).map dV:=by rw[hI,List.take_length]
  refine DV ?_;refine Cd ?_ ?_<;>intro hb2
  ·have hz:((ay a b).map dV).length=0:=by have e:=hb2;simp at e ⊢;omega
   refine A2 ?_;refine VT 2 0 ?_;refine Ss 1 ?_;refine A5 ?_;refine bg rfl (bf 1 rfl rfl qiJ (vs:=[_,_,_,_,_,_,_,_,_,_]) rfl rfl (Nat.le_of_ble_eq_true rfl) rfl) (ai rfl) (fun w hL=>⟨⟨ob,oN,oc,h3⟩,?_,hL.pk [some 3]⟩);rw[if_pos hz,show fF ((ay a b).map dV)=rl 0 from by rw[List.length_eq_zero_iff.1 hz];rfl];exact rfl
  ·have hz:((ay a b).map dV).length≠0:=by have e:=hb2;simp at e ⊢;omega
   refine A6 ?_;refine(Sd [3]) (pW ((ay a b).map dV) ob oN oc h3 (by rw[List.length_map];omega) (YM hsa hsb)) ?_;refine A1 ?_;refine Ss 2 ?_;refine A4 ?_;refine VT 2 0 ?_;refine Ss 1 ?_;refine A4 ?_;refine bg rfl (bf 1 rfl rfl qiJ (vs:=[_,_,_,_,_,_,_,_,_,_]) rfl rfl (Nat.le_of_ble_eq_true rfl) rfl) (ai rfl) (fun w hL=>⟨⟨ob,oN,oc,h3⟩,?_,hL.pk [some 3]⟩);rw[if_neg hz];exact rfl
def Gp(a:List Iv)(ab:Option Nat)(aN ac:Nat)(hac:a.length<=ac)(han:a.length<=2000000)(b:List Iv)(bb:Option Nat)(bN bc:Nat)(hbc:b.length<=bc:=by omega)(hbn:b.length<=2000000:=by omega):bZ Tryz.prog 103 [⟨ab,61,ak dQ a,aN,false⟩,⟨bb,61,ak dQ b,bN,false⟩] [aI ab 0 a.length ac,aI bb 0 b.length bc] Unit (fun _=> .bool (decide (a=b))) (fun _=>[]):=by
 refine VU 26 Tryz.func103 fun w hL0=>?_;refine y8 ?_;refine Cd ?_ ?_<;>intro hb0
 ·have hle:a.length≠b.length:=by have e:=hb0;simp at e;omega
  refine A7 ?_;refine aO rfl (ai rfl) (fun w hL=>⟨(),?_,hL.pk []⟩);exact eB (decide_eq_false (fun e=>hle (by rw[e]))).symm
 ·have hle:a.length=b.length:=by have e:=hb0;simp at e;omega
  refine qf ?_;refine El (ι:={i:Nat // i<=a.length∧a.take i=b.take i}) (fun⟨i,hi,hI⟩=>([(0,aI ab 0 a.length ac),(1,aI bb 0 b.length bc),(11,aI ab 0 a.length ac),(12,bV (a.length)),(13,bV i)],[⟨ab,61,ak dQ a,aN,false⟩,⟨bb,61,ak dQ b,bN,false⟩],a.length-i)) ⟨0,Nat.zero_le _,rfl⟩ ?_;rintro⟨i,hi,hI⟩;(try dsimp only);refine A6 ?_;refine Cd ?_ ?_<;>intro hb2
  ·have hlt:i<a.length:=(by have:=of_decide_eq_true hb2;omega);obtain⟨x,hx⟩:∃x,a[i]? =some x:=⟨a[i],List.getElem?_eq_getElem hlt⟩;obtain⟨y,hy⟩:∃y,b[i]? =some y:=⟨_,List.getElem?_eq_getElem (by omega)⟩;refine qf ?_;refine Di [] ?_;refine A2 ?_;refine au 0 ((i)*20) Z7 lL rfl rfl rfl rfl rfl (by omega) (by omega) (gW.ne (by decide) (by omega)) (by show 0+Int.toNat _*20=_;omega) ?_;refine bn (v:=mG x) 0 ((i)*20) _ rfl rfl rfl rfl lL (gW.sub hx 0 20 (by decide)) rfl (by decide) rfl ?_;refine A2 ?_;refine au 1 ((i)*20) Z7 lL rfl rfl rfl rfl rfl (by omega) (by omega) (gW.ne (by decide) (by omega)) (by show 0+Int.toNat _*20=_;omega) ?_;refine bn (v:=mG y) 1 ((i)*20) _ rfl rfl rfl rfl lL (gW.sub hy 0 20 (by decide)) rfl (by decide) rfl ?_;refine DL rfl rfl rfl rfl qiQ (qi9 _ _) ?_;refine A2 ?_;refine Cd ?_ ?_<;>intro hb3
   ·have hxy:x≠y:=by have e:=hb3;simpa using e
    refine qf ?_;refine aO rfl (ai rfl) (fun w hL=>⟨(),?_,hL.pk []⟩);exact eB (decide_eq_false (fun e=>hxy (by rw[e,hy] at hx;cases hx;rfl))).symm
   ·have hxy:x=y:=by have e:=hb3;simpa using e
    refine A4 ?_;refine Ar (((i+1:Nat):Int)) ?_;refine A3 ?_;exact Nl ⟨i+1,hlt,by rw[<-fB hx,<-fB hy,hI,hxy]⟩ (hL:=eF.auto)
  ·have hge:i=a.length:=(by have:=of_decide_eq_false hb2;omega);subst hge;refine qf ?_;refine aO rfl (ai rfl) (fun w hL=>⟨(),?_,hL.pk []⟩);exact eB (decide_eq_true (SN hI hle)).symm
def Kt(a:List Iv)(ab:Option Nat)(aN ac:Nat)(hac:a.length<=ac)(han:a.length<=2000000)(b:List Iv)(bb:Option Nat)(bN bc:Nat)(hbc:b.length<=bc:=by omega)(hbn:b.length<=2000000:=by omega):bZ Tryz.prog 49 [⟨ab,61,ak dQ a,aN,false⟩,⟨bb,61,ak dQ b,bN,false⟩] [aI ab 0 a.length ac,aI bb 0 b.length bc] Unit (fun _=> .bool (decide (a=b))) (fun _=>[]):=by
 refine VU 8 Tryz.func49 fun w hL0=>?_;refine A9 ?_;refine(Sd [0,1]) (Gp a ab aN ac hac han b bb bN bc hbc hbn) ?_;refine A4 ?_;refine aO rfl (ai rfl) (fun w hL=>⟨(),?_,hL.pk []⟩);exact rfl
variable[Mo]
def H9(x y:Bool):aH Tryz.prog 153 #[.bool x,.bool y] (.bool (x||y)):=by
 refine nG 9 Tryz.func153 fun w=>?_;refine A9 ?_;refine Rs 6 ?_ ?_<;>intro hb0
 ·refine A6 ?_;refine E0 ?_;exact eB (by cases x<;>cases y<;>simp_all)
 ·refine A6 ?_;refine E0 ?_;exact eB (by cases x<;>cases y<;>simp_all)
def Ia(x y:Bool):aH Tryz.prog 191 #[.bool x,.bool y] (.bool (x&& !y)):=by
 refine nG 10 Tryz.func191 fun w=>?_;refine A9 ?_;refine Rs 6 ?_ ?_<;>intro hb0
 ·refine A7 ?_;refine E0 ?_;exact eB (by cases x<;>cases y<;>simp_all)
 ·refine A7 ?_;refine E0 ?_;exact eB (by cases x<;>cases y<;>simp_all)
def Ib(a b:(Rl×Bool)×Int×Int)(ha:ik a.1.1<=50000:=by omega)(hb:ik b.1.1<=50000:=by omega):aH Tryz.prog 193 #[EvV a,EvV b] (.int .i64 (vS a.1 b.1)):=by
 refine nG 10 Tryz.func193 fun w=>?_;refine A2 ?_;refine Bp 12 (fun g0=>?_);refine Bp 12 (fun g1=>?_);refine A6 ?_;refine VT 0 0 ?_;refine A1 ?_;refine VT 1 0 ?_;refine Pc (qE a.1 b.1 ha hb) ?_;refine A4 ?_;refine E0 ?_;exact rfl
end Go.Proofs.YtaffcpfhedadhaaGreatDoor
namespace Go.Via
open Go Go.Sort Go.Proofs
abbrev Ku:=(Rl×Bool)×Int×Int
theorem qbz{l:List Iv}{i:Nat}{x:Iv}(hx:l[i]? =some x):BK (l.take i)++[(x.b,1,0),(x.e,-1,0)]=BK (l.take (i+1)):=by
 rw[<-fB hx];unfold BK;rw[List.flatMap_append];rfl
theorem qbA{l:List Iv}{i:Nat}{x:Iv}(hx:l[i]? =some x):Hy (l.take i)++[(x.b,0,1),(x.e,0,-1)]=Hy (l.take (i+1)):=by
 rw[<-fB hx];unfold Hy;rw[List.flatMap_append];rfl
def evK(a b:List Iv):Nat->List Ku
 |0=>[]
 |1=>BK a
 |_=>BK a++Hy b
theorem Px(l:List Iv):(BK l).length=2*l.length:=by
 induction l with
 |nil=>rfl
 |cons x l ih=>show(_++BK l).length=_;rw[List.length_append,ih];simp;omega
theorem Py(l:List Iv):(Hy l).length=2*l.length:=by
 induction l with
 |nil=>rfl
 |cons x l ih=>show(_++Hy l).length=_;rw[List.length_append,ih];simp;omega
def qbB{a b:List Iv}{e:Ku}(h:e∈BK a++Hy b):(∃i∈a++b,e.1=i.b∨e.1=i.e)∧(-1<=e.2.1∧e.2.1<=1)∧ -1<=e.2.2∧e.2.2<=1:=by
 rcases List.mem_append.1 h with h|h
 ·obtain⟨i,hi,h⟩:=List.mem_flatMap.1 h;simp only[List.mem_cons,List.not_mem_nil,or_false] at h;rcases h with rfl|rfl
  ·exact⟨⟨i,List.mem_append_left _ hi,.inl rfl⟩,by dsimp only;decide⟩
  ·exact⟨⟨i,List.mem_append_left _ hi,.inr rfl⟩,by dsimp only;decide⟩
 ·obtain⟨i,hi,h⟩:=List.mem_flatMap.1 h;simp only[List.mem_cons,List.not_mem_nil,or_false] at h;rcases h with rfl|rfl
  ·exact⟨⟨i,List.mem_append_right _ hi,.inl rfl⟩,by dsimp only;decide⟩
  ·exact⟨⟨i,List.mem_append_right _ hi,.inr rfl⟩,by dsimp only;decide⟩
def qju{S:Rl->Prop}{a b:List Iv}(ha:kw S a)(hb:kw S b){e:Ku}(h:e∈BK a++Hy b):S e.1.1:=by
 obtain⟨⟨i,hi,h1⟩,_⟩:=qbB h;have h2:S i.f∧S i.t:=by
  rcases List.mem_append.1 hi with h|h;exact ha i h;exact hb i h
 rcases h1 with h1|h1<;>rw[h1];exact h2.1;exact h2.2
section
variable{α:Type}{κ:α->Int}{keep:Bool->Bool->Bool}
def stO(inn:Bool)(f:α):Option α:=if inn=true then some f else none
theorem uy{β:Type}{l:List β}{i:Nat}{x:β}(h:l[i]? =some x):l.drop i=x::l.drop (i+1):=by
 obtain⟨hl,rfl⟩:=List.getElem?_eq_some_iff.1 h;exact List.drop_eq_getElem_cons hl
theorem qbC{l:List (α×Int×Int)}{i:Nat}{x y:α×Int×Int}{m n:Int}{st:Option α}(hx:l[i]? =some x)(hy:l[i+1]? =some y)(h:κ x.1=κ y.1):KW κ keep (l.drop i) m n st=KW κ keep (l.drop (i+1)) (m+x.2.1) (n+x.2.2) st:=by
 rw[uy hx,uy hy];conv=>lhs;unfold KW;rw[if_pos h]
theorem qbD{l:List (α×Int×Int)}{i:Nat}{x:α×Int×Int}{m n:Int}{st:Option α}(hx:l[i]? =some x)(h:∀y,l[i+1]? =some y->κ x.1≠κ y.1):
 KW κ keep (l.drop i) m n st=match st,keep (decide (0<m+x.2.1)) (decide (0<n+x.2.2)) with
  |none,true=>KW κ keep (l.drop (i+1)) (m+x.2.1) (n+x.2.2) (some x.1)
  |some f,false=>(f,x.1)::KW κ keep (l.drop (i+1)) (m+x.2.1) (n+x.2.2) none
  |st,_=>KW κ keep (l.drop (i+1)) (m+x.2.1) (n+x.2.2) st:=by
 rw[uy hx];cases hy:l[i+1]? with
 |none=>
  have e:l.drop (i+1)=[]:=List.drop_eq_nil_of_le (List.getElem?_eq_none_iff.1 hy);rw[e];cases st<;>cases hk:keep (decide (0<m+x.2.1)) (decide (0<n+x.2.2))<;>simp[KW,hk]
 |some y=>
  rw[uy hy]
  conv=>lhs;unfold KW
  rw[if_neg (h y hy)];cases st<;>cases hk:keep (decide (0<m+x.2.1)) (decide (0<n+x.2.2))<;>simp
theorem qhE{l:List (α×Int×Int)}{i:Nat}{x:α×Int×Int}{m n:Int}{inn now:Bool}{fb:α}(hx:l[i]? =some x)(h:∀y,l[i+1]? =some y->κ x.1≠κ y.1)(hn:keep (decide (0<m+x.2.1)) (decide (0<n+x.2.2))=now):
 KW κ keep (l.drop i) m n (stO inn fb)=(if inn=true∧now=false then[(fb,x.1)] else[])++KW κ keep (l.drop (i+1)) (m+x.2.1) (n+x.2.2) (stO now (if now=true∧inn=false then x.1 else fb)):=by
 rw[qbD hx h,hn];cases inn<;>cases now<;>rfl
end
def ivP(p:ru×ru):Iv:=Hw p.1 p.2
def Y3(κ:ru->Int)(keep:Bool->Bool->Bool)(l:List Ku)(i:Nat)(m n:Int)(inn:Bool)(fb:ru):List Iv:=(KW κ keep (l.drop i) m n (stO inn fb)).map ivP
theorem qeS{κ:ru->Int}{keep:Bool->Bool->Bool}{l:List Ku}{m n:Int}{inn:Bool}{fb:ru}:Y3 κ keep l l.length m n inn fb=[]:=by
 unfold Y3;rw[List.drop_length];rfl
def qbE{S:Rl->Prop}{ρ:Rl->Int}(T:fD S ρ){op:Bool->Bool->Bool}(h0:op false false=false){a b:List Iv}(ha:kw S a)(hb:kw S b)(oa:F7 ρ a)(ob:F7 ρ b)
 {l:List Ku}(hp:l.Perm (BK a++Hy b))(hl:l.Pairwise (fun x y=>aY ρ x.1<=aY ρ y.1))(fb:ru):Y3 (aY ρ) op l 0 0 0 false fb=nO op a b:=by
 obtain⟨s1,s2⟩:=yj T (wV (oH ha hb));unfold Y3 nO;rw[List.drop_zero];show List.map ivP (KW (aY ρ) op l 0 0 none)=_;rw[UG T h0 ha hb oa ob s1 (fun x=>by rw[s2,zK]) hp hl]
 rfl
theorem qbF{S:Rl->Prop}{ρ:Rl->Int}(T:fD S ρ){a b:ru}(ha:S a.1)(hb:S b.1):vS a b=0↔aY ρ a=aY ρ b:=by
 rw[Ep T ha hb];unfold xM;split<;>(try split)<;>omega
theorem WU{S:Rl->Prop}{ρ:Rl->Int}(T:fD S ρ){a b:ru}(ha:S a.1)(hb:S b.1):vS a b<0↔aY ρ a<aY ρ b:=by
 rw[Ep T ha hb];unfold xM;split<;>(try split)<;>omega
theorem qbG{S:Rl->Prop}{ρ:Rl->Int}(T:fD S ρ){keep:Bool->Bool->Bool}{l:List Ku}{i:Nat}{x y:Ku}{m n:Int}{inn:Bool}{fb:ru}(hx:l[i]? =some x)(hy:l[i+1]? =some y)(sx:S x.1.1)(sy:S y.1.1)(h:vS x.1 y.1=0):Y3 (aY ρ) keep l i m n inn fb=Y3 (aY ρ) keep l (i+1) (m+x.2.1) (n+x.2.2) inn fb:=by
 unfold Y3;rw[qbC hx hy ((qbF T sx sy).1 h)]
def Far(ρ:Rl->Int)(l:List Ku)(i:Nat)(x:Ku):Prop:=∀y,l[i+1]? =some y->aY ρ x.1≠aY ρ y.1
def qeT{ρ:Rl->Int}{l:List Ku}{i:Nat}{x:Ku}(h:¬i+1<l.length):Far ρ l i x:=fun y hy=>by
 rw[List.getElem?_eq_none (by omega)] at hy;cases hy
def qhF{S:Rl->Prop}{ρ:Rl->Int}(T:fD S ρ){l:List Ku}{i:Nat}{x y:Ku}(hy:l[i+1]? =some y)(sx:S x.1.1)(sy:S y.1.1)(h:vS x.1 y.1≠0):Far ρ l i x:=fun z hz e=>by
 rw[hy] at hz;cases hz;exact h ((qbF T sx sy).2 e)
theorem Aa{ρ:Rl->Int}{keep:Bool->Bool->Bool}{l:List Ku}{i:Nat}{x:Ku}{m n:Int}{inn now:Bool}{fb:ru}(hx:l[i]? =some x)(h:Far ρ l i x)(hn:keep (decide (0<m+x.2.1)) (decide (0<n+x.2.2))=now):
 Y3 (aY ρ) keep l i m n inn fb=(if inn=true∧now=false then[Hw fb x.1] else[])++Y3 (aY ρ) keep l (i+1) (m+x.2.1) (n+x.2.2) now (if now=true∧inn=false then x.1 else fb):=by
 unfold Y3;rw[qhE hx h hn,List.map_append]
 congr 1
 split<;>rfl
def qla:List Value:=[aU,aV,aU,aV,aU,aV,aU,aV,.bool false,.bool false]
theorem qhG:vT (rl 0,false)=qla:=by
 have h:=qbv;show Fb (rl 0)++[.bool false]=_;rw[h];rfl
abbrev EvS(S:Rl->Prop):={e:Ku // S e.1.1∧ik e.1.1<=50000}
def evc{S:Rl->Prop}(x:EvS S):List Value:=jM x.1
theorem Pz{S:Rl->Prop}:lh (EvS S) evc 12:=⟨fun _=>rfl,fun x v hv=>wC.one x.1 v hv⟩
theorem NP{S:Rl->Prop}(l:List (EvS S)):ak evc l=ak jM (l.map (·.1)):=by
 induction l with
 |nil=>rfl
 |cons x l ih=>rw[jD,List.map_cons,jD,ih];rfl
def qhH{S:Rl->Prop}{ρ:Rl->Int}(T:fD S ρ):SWO (Go.Proofs.ltOf fun x y:EvS S=>vS x.1.1 y.1.1):=by
 have h:∀x y:EvS S,Go.Proofs.ltOf (fun x y:EvS S=>vS x.1.1 y.1.1) x y=decide (aY ρ x.1.1<aY ρ y.1.1):=fun x y=>by
  unfold Go.Proofs.ltOf;exact decide_eq_decide.2 (WU T x.2.1 y.2.1)
 refine⟨fun x=>?_,fun x y z=>?_,fun x y z=>?_⟩
 ·rw[h];simp
 ·rw[h,h,h];simp only[decide_eq_true_eq];omega
 ·rw[h,h,h];simp only[decide_eq_false_iff_not];omega
def WV{S:Rl->Prop}:∀{l:List Ku},(∀e∈l,S e.1.1∧ik e.1.1<=50000)->∃l':List (EvS S),l'.map (·.1)=l
 |[],_=>⟨[],rfl⟩
 |e::l,h=>by
  obtain⟨l',e'⟩:=WV fun x hx=>h x (List.mem_cons_of_mem _ hx)
  exact⟨⟨e,h e (List.mem_cons_self ..)⟩::l',by rw[List.map_cons,e']⟩
end Go.Via
namespace Go.Proofs.YtaffcpfhedadhaaGreatDoor
open Go Go.RowKit Go.Via Go.Sort Go.Shelf
def qbI{S:Rl->Prop}{ρ:Rl->Int}(T:fD S ρ)(l:List Ku)(b:Option Nat)(n cap:Nat)(hl:l.length<=cap)(hn:cap*12<=n)(hS:∀e∈l,S e.1.1∧ik e.1.1<=50000)(hc:l.length<=1000000:=by omega):
 yx Tryz.prog 192 [⟨b,253,ak jM l,n,true⟩] [aI b 0 l.length cap,.func (.func 193) #[] #[]] {l':List Ku // l'.Perm l∧l'.Pairwise (fun x y=>aY ρ x.1<=aY ρ y.1)} (fun _=> .tuple #[]) (fun z=>[⟨b,253,ak jM z.1,n,true⟩]):=by
 refine⟨by kernel_rfl,fun B w hD hL=>?_⟩
 by_cases h0:l=[]
 ·subst h0;have h1:=AnyF.slices_SortFunc_none Tryz.sortEv (b.map fun g=>⟨g,0,none⟩) cap (.func (.func 193) #[] #[]) w;refine Calls.mono h1 ?_;rintro e w' ⟨rfl,rfl⟩;exact⟨⟨[],List.Perm.refl _,List.Pairwise.nil⟩,rfl,hL⟩
 ·cases b with
  |none=>
   have h2:=((hL.blk 0 _ rfl).2 rfl).1;have h3:=congrArg List.length h2;rw[wC.length] at h3;exact absurd (List.eq_nil_of_length_eq_zero (by rw[List.length_nil] at h3;omega)) h0
  |some g=>
   have hl0:=List.length_pos_iff.2 h0;have hn0:n≠0:=(by omega);obtain⟨l',rfl⟩:=WV hS;have hd:∃x:EvS S,x∈l':=List.exists_mem_of_ne_nil _ (fun e=>h0 (by rw[e];rfl));obtain⟨d,_⟩:=hd
   letI:Inhabited (EvS S):=⟨d⟩
   rw[<-NP] at hL;have hlen:(l'.map (·.1)).length=l'.toArray.size:=by simp
   have h1:=AnyQ.slices_SortFunc Tryz.sortEv 12 Tryz.isAgg253 Tryz.sizeOf253 evc (fun x=>rfl) (fun x v hv=>wC.one x.1 v hv) (fun x y:EvS S=>vS x.1.1 y.1.1) (qhH T) 193 #[] g 0 cap l'.toArray w
    (enters_of Tryz.func193 (by kernel_rfl) rfl) (@WN (EvS S) _ evc 12 mo1 trivial Tryz.prog 193 (fun x y=>vS x.1.1 y.1.1) (fun x y=> @Ib mo1 x.1 y.1 x.2.2 y.2.2) g 0 l'.toArray.size w)
    (NJ Pz (j:=0) hL rfl hn0) (hL.lt (k:=0) rfl rfl) (by simp at hc ⊢;omega)
   rw[<-hlen] at h1;refine Calls.mono h1 ?_;rintro e w' ⟨rfl,d',m,os,hp,hs,rfl⟩;rw[hlen] at hp hs;have hp':=qeJ hp;have hs':=YI hs hp.1;refine⟨⟨d'.toList.map (·.1),hp'.map _,?_⟩,rfl,?_⟩
   ·rw[List.pairwise_map];refine hs'.imp fun {x y} h=>?_
    have h2:¬vS y.1.1 x.1.1<0:=of_decide_eq_false h;rw[WU T y.2.1 x.2.1] at h2;omega
   ·show aT B [⟨some g,253,ak jM (d'.toList.map (·.1)),n,true⟩] _;rw[<-NP];have hx:=EM Pz (j:=0) (m:=m) (os:=os) (l':=d'.toList) hL rfl (by rw[Pz.length,hp'.length_eq];simp at hl;omega) hn0
    simpa using hx
end Go.Proofs.YtaffcpfhedadhaaGreatDoor
namespace Go.Via
open Go
def qeU(a b c:Int)(i:Nat)(h:i<3):([.int .i64 a,.int .i64 b,.int .i64 c]:List Value)[i]? =some (.int .i64 ([a,b,c].getD i 0)):=by
 rcases(show i=0∨i=1∨i=2 by omega) with rfl|rfl|rfl<;>rfl
def or3(a b c:Int):Int:=if a≠0 then a else if b≠0 then b else c
theorem qeV{a b c:Int}{i:Nat}(hi:i<3)(h:∀j,j<i->[a,b,c].getD j 0=0)(hn:[a,b,c].getD i 0≠0):or3 a b c=[a,b,c].getD i 0:=by
 have h0:=h 0;have h1:=h 1;rcases(show i=0∨i=1∨i=2 by omega) with rfl|rfl|rfl<;>simp at hn h0 h1 ⊢ <;>unfold or3<;>simp_all
theorem qhJ{a b c:Int}(h:∀j,j<3->[a,b,c].getD j 0=0):or3 a b c=0:=by
 have h0:=h 0 (by omega);have h1:=h 1 (by omega);have h2:=h 2 (by omega);simp at h0 h1 h2;unfold or3;simp_all
def qbJ{a b c:Int}{i:Nat}(h:∀j,j<i->[a,b,c].getD j 0=0)(hn:[a,b,c].getD i 0=0):∀j,j<i+1->[a,b,c].getD j 0=0:=fun j hj=>by
 by_cases e:j=i
 ·rw[e];exact hn
 ·exact h j (by omega)
def opI(i:Iv):Int:=if i.fo=true then 1 else 0
theorem qbK(a b:PU):or3 (bH a.i.f b.i.f) (if opI a.i<opI b.i then-1 else if opI b.i<opI a.i then 1 else 0) (bH a.i.t b.i.t)=Ls a b:=by
 unfold or3 Ls qhu opI;cases a.i.fo<;>cases b.i.fo<;>simp
def U5{f:Ln}(h:iV f<=10000):uk (qx f)<=10000:=by
 have:=qP f;have:=qQ f;have:=vk;unfold uk qx;dsimp only;omega
def U6{f:Ln}(h:iV f<=10000):uk (qy f)<=10000:=by
 have:=qR f;have:=qU f;have:=vk;unfold uk qy;dsimp only;omega
def qfM(f:Ln)(t:Rl):(ul (qx f) t).c0=(iL f t).x0∧(ul (qx f) t).c1=(iL f t).x1∧(ul (qy f) t).c0=(iL f t).y0∧(ul (qy f) t).c1=(iL f t).y1:=by
 unfold ul iL
 by_cases h:t.r=0
 ·rw[if_pos h,if_pos h,if_pos h];exact⟨rfl,rfl,rfl,rfl⟩
 ·rw[if_neg h,if_neg h,if_neg h];unfold xE qx qy;refine⟨?_,?_,?_,?_⟩<;>dsimp only<;>grind
theorem WW(f g:Ln)(t:Rl):(decide (ul (o8 (qx f) (qx g)) t=⟨0,0,0⟩)&&decide (ul (o8 (qy f) (qy g)) t=⟨0,0,0⟩))=oI f g t:=by
 have z0:(0:Rat)-0=0:=(by grind);have hx:o8 (qx f) (qx g)=qx (CZ f g):=(by unfold o8 qx CZ;dsimp only;rw[z0]);have hy:o8 (qy f) (qy g)=qy (CZ f g):=(by unfold o8 qy CZ;dsimp only;rw[z0]);rw[hx,hy];obtain⟨h1,h2,h3,h4⟩:=qfM (CZ f g) t;have z1:(ul (qx (CZ f g)) t).c2=0:=by unfold ul;split<;>rfl
 have z2:(ul (qy (CZ f g)) t).c2=0:=by unfold ul;split<;>rfl
 have e1:ul (qx (CZ f g)) t=⟨(iL (CZ f g) t).x0,(iL (CZ f g) t).x1,0⟩:=(by rw[<-h1,<-h2,<-z1]);have e2:ul (qy (CZ f g)) t=⟨(iL (CZ f g) t).y0,(iL (CZ f g) t).y1,0⟩:=(by rw[<-h3,<-h4,<-z2]);unfold oI;rw[e1,e2,Bool.eq_iff_iff,Bool.and_eq_true,decide_eq_true_eq,decide_eq_true_eq,decide_eq_true_eq]
 generalize iL (CZ f g) t=r
 obtain⟨a,b,c,d⟩:=r;simp[and_assoc]
end Go.Via
namespace Go.Proofs.YtaffcpfhedadhaaGreatDoor
open Go Go.RowKit Go.Via
variable[Mo]
def YO(a b c:Int)(g:Nat):bZ Tryz.prog 218 [⟨some g,3,[.int .i64 a,.int .i64 b,.int .i64 c],3,false⟩] [aI (some g) 0 3 3] Unit (fun _=> .int .i64 (or3 a b c)) (fun _=>[]):=by
 refine QF 18 Tryz.func218 fun w hL0=>?_;refine A19 ?_;refine El (ι:={i:Nat // i<=3∧∀j,j<i->[a,b,c].getD j 0=0}) (fun⟨i,hi,ha⟩=>([(3,.int .i64 0),(6,aI (some g) 0 3 3),(7,.int .i64 3),(8,bV i)],[⟨some g,3,[.int .i64 a,.int .i64 b,.int .i64 c],3,false⟩],3-i)) ⟨0,by omega,fun j h=>absurd h (by omega)⟩ ?_;rintro⟨i,hi,ha⟩;(try dsimp only);refine A6 ?_;refine Cd ?_ ?_<;>intro hb1
 ·have hlt:i<3:=(by have:=of_decide_eq_true hb1;omega);refine A6 ?_;refine Ix 0 i ?_;refine Oa (v:= .int .i64 ([a,b,c].getD i 0)) 0 i sV rfl rfl rfl rfl (qeU a b c i hlt) ?_;refine kL ?_;refine Cd ?_ ?_<;>intro hb2
  ·have hne:[a,b,c].getD i 0≠0:=by simpa using hb2
   refine lK ?_;refine aO rfl (ai rfl) (fun w hL=>⟨(),?_,hL.pk []⟩);rw[qeV hlt ha hne]
  ·have he:[a,b,c].getD i 0=0:=by simpa using hb2
   refine A4 ?_;refine Ar (((i+1:Nat):Int)) ?_;refine A3 ?_;exact Nl ⟨i+1,hlt,qbJ ha he⟩
 ·have hge:i=3:=(by have:=of_decide_eq_false hb1;omega);subst hge;refine lK ?_;refine aO rfl (ai rfl) (fun w hL=>⟨(),?_,hL.pk []⟩);rw[qhJ ha]
def Kv(i:Iv):aH Tryz.prog 217 #[mG i] (.int .i64 (opI i)):=by
 refine uU 5 Tryz.func217 fun w=>?_;refine A2 ?_;refine Bp 20 (fun g0=>?_);refine kL ?_;refine Cd ?_ ?_<;>intro hb0
 ·refine A7 ?_;refine E0 ?_;rw[opI,if_pos hb0]
 ·refine A8 ?_;refine E0 ?_;rw[opI,if_neg (by rw[hb0];decide)]
def YP(a b:PU)(ha:kT a.i<=50000:=by omega)(hb:kT b.i<=50000:=by omega):aH Tryz.prog 216 #[UQ a,UQ b] (.int .i64 (Ls a b)):=by
 have a1:=Nat.le_trans (lg a.i) ha;have a2:=Nat.le_trans (kH a.i) ha;have b1:=Nat.le_trans (lg b.i) hb;have b2:=Nat.le_trans (kH b.i) hb;refine nG 31 Tryz.func216 fun w=>?_;refine A2 ?_;refine Bp 36 (fun g0=>?_);refine Bp 36 (fun g1=>?_);refine A9 ?_;refine Dp [] [0,1,2,3,4,5,7,8,9,11,12,13,16,17,18,19,20,21,6,10,14,15,22,23,24,25] ?_ (hc:=(lW [0,1,3,0,8,24,63,0,0,256,1023,0,0,4096,16383,32767,0,65536,196608,0,524288,1572864,4194303,8388607,16777215,33554431] (by kernel_rfl)));refine A2 ?_;refine L9 0 0 ?_;refine A2 ?_;refine L9 1 0 ?_;refine A2 ?_;refine xC 0 0 ?_;refine A2 ?_;refine xC 1 0 ?_;refine A2 ?_;refine L9 0 9 ?_;refine A2 ?_;refine L9 1 9 ?_;refine Pc (dw a.i.f b.i.f) ?_;refine fO [_] rfl rfl rfl rfl (Kv a.i) ?_;refine fO [_] rfl rfl rfl rfl (Kv b.i) ?_;refine Pc (vU (opI a.i) (opI b.i)) ?_;refine Pc (dw a.i.t b.i.t) ?_;refine(Bl 3 [(0,_),(1,_),(2,_)]) (qdq) (fun g2=>?_);refine(Sd [2]) (YO _ _ _ _) ?_;refine A4 ?_;refine E0 ?_;rw[qbK]
end Go.Proofs.YtaffcpfhedadhaaGreatDoor
namespace Go.Via
open Go Go.Sort Go.Proofs
abbrev PUS:={u:PU // kT u.i<=50000}
def puc(x:PUS):List Value:=aQ x.1
theorem PD:lh PUS puc 36:=⟨fun _=>rfl,fun x v hv=>aC.one x.1 v hv⟩
theorem NQ(l:List PUS):ak puc l=ak aQ (l.map (·.1)):=by
 induction l with
 |nil=>rfl
 |cons x l ih=>rw[jD,List.map_cons,jD,ih];rfl
def WX:∀{l:List PU},(∀u∈l,kT u.i<=50000)->∃l':List PUS,l'.map (·.1)=l
 |[],_=>⟨[],rfl⟩
 |e::l,h=>by
  obtain⟨l',e'⟩:=WX fun x hx=>h x (List.mem_cons_of_mem _ hx)
  exact⟨⟨e,h e (List.mem_cons_self ..)⟩::l',by rw[List.map_cons,e']⟩
def WY(l:List PU):Prop:=l.Pairwise fun x y=>decide (Ls y x<0)=false
end Go.Via
namespace Go.Proofs.YtaffcpfhedadhaaGreatDoor
open Go Go.RowKit Go.Via Go.Sort Go.Shelf
def qeX(l:List PU)(b:Option Nat)(n cap:Nat)(hs:WY l)(hz:∀u∈l,kT u.i<=50000)(hl:l.length<=cap:=by omega)(hn:cap*36<=n:=by omega)(hc:l.length<=1000000:=by omega):
 yx Tryz.prog 264 [⟨b,201,ak aQ l,n,true⟩] [aI b 0 l.length cap,.int .i64 0,.int .i64 (l.length:Nat),.func (.func 216) #[] #[]] Unit (fun _=> .tuple #[]) (fun _=>[⟨b,201,ak aQ l,n,true⟩]):=by
 refine⟨by kernel_rfl,fun B w hD hL=>?_⟩
 by_cases h0:l=[]
 ·subst h0;have h1:=AnyF.insertionSortCmpFunc_none Tryz.insPU (b.map fun g=>⟨g,0,none⟩) cap (.func (.func 216) #[] #[]) w;refine Calls.mono h1 ?_;rintro e w' ⟨rfl,rfl⟩;exact⟨(),rfl,hL⟩
 ·cases b with
  |none=>
   have h2:=((hL.blk 0 _ rfl).2 rfl).1;have h3:=congrArg List.length h2;rw[aC.length] at h3;exact absurd (List.eq_nil_of_length_eq_zero (by rw[List.length_nil] at h3;omega)) h0
  |some g=>
   have hl0:=List.length_pos_iff.2 h0;have hn0:n≠0:=(by omega);obtain⟨l',rfl⟩:=WX hz;have hd:∃x:PUS,x∈l':=List.exists_mem_of_ne_nil _ (fun e=>h0 (by rw[e];rfl));obtain⟨d,_⟩:=hd
   letI:Inhabited PUS:=⟨d⟩
   rw[<-NQ] at hL;have hlen:(l'.map (·.1)).length=l'.toArray.size:=by simp
   have h1:=AnyQ.insertionSortCmpFunc Tryz.insPU 36 Tryz.isAgg201 Tryz.sizeOf201 puc (fun x=>rfl) (fun x v hv=>aC.one x.1 v hv) (fun x y:PUS=>Ls x.1 y.1) 216 #[] g 0 cap 0 l'.toArray.size l'.toArray w
    (enters_of Tryz.func216 (by kernel_rfl) rfl) (@WN PUS _ puc 36 mo1 trivial Tryz.prog 216 (fun x y=>Ls x.1 y.1) (fun x y=> @YP mo1 x.1 y.1 x.2 y.2) g 0 l'.toArray.size w)
    (NJ PD (j:=0) hL rfl hn0) (hL.lt (k:=0) rfl rfl) (Nat.zero_le _) (Nat.le_refl _) (by simp at hc ⊢;omega)
   rw[<-hlen] at h1;refine Calls.mono h1 ?_;rintro e w' ⟨rfl,m,os,rfl⟩;have hid:Sort.insertionSort (ltOf fun x y:PUS=>Ls x.1 y.1) l'.toArray 0 (l'.map (·.1)).length=l'.toArray:=by
    rw[List.length_map];refine Pm ?_;have:=List.pairwise_map.1 hs;exact this
   rw[hid];refine⟨(),rfl,?_⟩;rw[<-NQ];have hx:=EM PD (j:=0) (m:=m) (os:=os) (l':=l') hL rfl (by rw[PD.length];simp at hl;omega) hn0
   simpa using hx
end Go.Proofs.YtaffcpfhedadhaaGreatDoor
namespace Go.Via
open Go
instance{n s:Nat}:Nonempty (OR n s):=⟨⟨none,n*s,n,Nat.le_refl _,Nat.le_refl _⟩⟩
theorem qF{l:List PU}{i:Nat}{x:PU}(hx:l[i]? =some x):aA (l.take i)++gQ x=aA (l.take (i+1)):=by
 rw[<-fB hx];unfold aA;rw[List.flatMap_append];simp
def yl(t:Rl)(f:Ln):PU:=⟨⟨t,t,false,false⟩,f⟩
def lM(x:PU):PU:=⟨⟨x.i.f,x.i.t,true,true⟩,x.f⟩
theorem qbL{x:PU}(h1:x.i.fo=false)(h2:eH x.i=true):gQ x=[yl x.i.f x.f]:=by unfold gQ;rw[h1,h2];rfl
theorem qbM{x:PU}(h1:x.i.fo=false)(h2:eH x.i=false)(h3:x.i.tp=false):gQ x=[yl x.i.f x.f,lM x,yl x.i.t x.f]:=by unfold gQ;rw[h1,h2,h3];rfl
theorem qbN{x:PU}(h1:x.i.fo=false)(h2:eH x.i=false)(h3:x.i.tp=true):gQ x=[yl x.i.f x.f,lM x]:=by unfold gQ;rw[h1,h2,h3];rfl
theorem qbO{x:PU}(h1:x.i.fo=true)(h2:eH x.i=true):gQ x=[]:=by unfold gQ;rw[h1,h2];rfl
theorem qbP{x:PU}(h1:x.i.fo=true)(h2:eH x.i=false)(h3:x.i.tp=false):gQ x=[lM x,yl x.i.t x.f]:=by unfold gQ;rw[h1,h2,h3];rfl
theorem qbQ{x:PU}(h1:x.i.fo=true)(h2:eH x.i=false)(h3:x.i.tp=true):gQ x=[lM x]:=by unfold gQ;rw[h1,h2,h3];rfl
theorem NR{l:List PU}{u:PU}{t:Rl}(h:l[l.length-1]? =some u):oW l t=(decide (u.i.t=t)&& !u.i.tp):=by
 unfold oW;rw[List.getLast?_eq_getElem?,h]
theorem YQ{l:List PU}{t:Rl}(h:¬0<l.length):oW l t=false:=by
 have:l=[]:=List.eq_nil_of_length_eq_zero (by omega);subst this;rfl
def YR{l:List PU}{t:Rl}(h:¬0<l.length):sH l t=none:=by
 have:l=[]:=List.eq_nil_of_length_eq_zero (by omega);subst this;rfl
def qeY{l:List PU}{u:PU}{t:Rl}(h:l[l.length-1]? =some u)(h1:u.i.t≠t):sH l t=none:=by
 unfold sH;rw[List.getLast?_eq_getElem?,h];dsimp only;rw[if_neg fun e=>h1 e.1]
def qeZ{l:List PU}{u:PU}{t:Rl}(h:l[l.length-1]? =some u)(h1:eH u.i=true):sH l t=none:=by
 unfold sH;rw[List.getLast?_eq_getElem?,h];dsimp only;rw[if_neg fun e=>by rw[e.2] at h1;cases h1]
def qe0{l:List PU}{u:PU}{t:Rl}(h:l[l.length-1]? =some u)(h1:u.i.t=t)(h2:eH u.i=false):sH l t=some u:=by
 unfold sH;rw[List.getLast?_eq_getElem?,h];dsimp only;rw[if_pos ⟨h1,h2⟩]
def qbR{l:List PU}{u:PU}{t:Rl}(h:sH l t=some u):l[l.length-1]? =some u∧u.i.t=t∧eH u.i=false:=by
 obtain⟨h1,h2⟩:=wX h;rw[List.getLast?_eq_getElem?] at h1;exact⟨h1,h2⟩
def WZ(ob:Option Nat)(n:Nat):Option PU->Option Addr
 |none=>none
 |some _=>some ⟨ob.getD 0,(n-1)*36,none⟩
def oq(A:List PU):Nat->Option PU
 |0=>none
 |i+1=>A[i]?
def nrm(A:List PU)(i:Nat)(o:List PU):List PU:=tZ (oq A i) o (A.drop i)
theorem rF{A:List PU}{i:Nat}{x:PU}{o:List PU}(hx:A[i]? =some x):nrm A i o=nrm A (i+1) (jR o (oq A i) x A[i+1]?):=by
 unfold nrm;rw[uy hx];show tZ (some x) (jR o (oq A i) x (A.drop (i+1)).head?) (A.drop (i+1))=_;rw[List.head?_drop];show _=tZ (A[i]?) _ _;rw[hx]
def qe1{A o:List PU}:nrm A A.length o=o:=by unfold nrm;rw[List.drop_length];cases oq A A.length<;>rfl
theorem SX{o:List PU}{u v:PU}(h:o[o.length-1]? =some u):o.set (o.length-1) v=iR o v:=by
 have hne:o≠[]:=fun e=>by rw[e] at h;simp at h
 have e:o=o.dropLast++[u]:=by
  have h2:o.getLast? =some u:=(by rw[List.getLast?_eq_getElem?];exact h);exact oZ h2
 unfold iR;rw[e];simp
def Ac(o:List PU)(prev:Option PU)(x:PU):Bool:=match prev with
 |some p=>if eH p.i=true∧p.i.f=x.i.f∧oW o x.i.f=false then false else x.i.fo
 |none=>x.i.fo
section
variable{o:List PU}{prev next:Option PU}{x b:PU}
theorem qlb(hi:eH x.i=false)(hb:sH o x.i.f=some b)(h1:b.i.tp=false)(h2:b.f=x.f):jR o prev x next=iR o ⟨⟨b.i.f,x.i.t,b.i.fo,true⟩,b.f⟩:=by
 unfold jR;rw[hi,hb];dsimp only;rw[if_pos ⟨h1,h2⟩]
def qjv(hi:eH x.i=false)(hb:sH o x.i.f=some b)(h:¬(b.i.tp=false∧b.f=x.f)):jR o prev x next=o++[⟨⟨x.i.f,x.i.t,Ac o prev x,x.i.tp⟩,x.f⟩]:=by
 unfold jR;rw[hi,hb];dsimp only;rw[if_neg h];rfl
def qlc(hi:eH x.i=false)(hb:sH o x.i.f=none):jR o prev x next=o++[⟨⟨x.i.f,x.i.t,Ac o prev x,x.i.tp⟩,x.f⟩]:=by
 unfold jR;rw[hi,hb];rfl
theorem qld(hi:eH x.i=true)(hb:sH o x.i.f=some b)(h:oI b.f x.f x.i.f=true):jR o prev x next=iR o ⟨⟨b.i.f,b.i.t,b.i.fo,false⟩,b.f⟩:=by
 unfold jR;rw[hi,hb];dsimp only;rw[if_pos h]
def yH(o:List PU)(next:Option PU)(x:PU):List PU:=match next with
 |some n=>if n.i.f=x.i.f∧oI n.f x.f x.i.f=true then o else o++[⟨x.i,iL x.f x.i.f⟩]
 |none=>o++[⟨x.i,iL x.f x.i.f⟩]
def qle(hi:eH x.i=true)(hb:sH o x.i.f=some b)(h:oI b.f x.f x.i.f=false):jR o prev x next=yH o next x:=by
 unfold jR;rw[hi,hb];dsimp only;rw[if_neg (by rw[h];decide)];rfl
def qlf(hi:eH x.i=true)(hb:sH o x.i.f=none):jR o prev x next=yH o next x:=by
 unfold jR;rw[hi,hb];rfl
def qfN(h:prev=none):Ac o prev x=x.i.fo:=by rw[h];rfl
def Gq{p:PU}(h:prev=some p)(h1:¬(eH p.i=true∧p.i.f=x.i.f∧oW o x.i.f=false)):Ac o prev x=x.i.fo:=by
 rw[h];unfold Ac;dsimp only;rw[if_neg h1]
def qbS{p:PU}(h:prev=some p)(h1:eH p.i=true)(h2:p.i.f=x.i.f)(h3:oW o x.i.f=false):Ac o prev x=false:=by
 rw[h];unfold Ac;dsimp only;rw[if_pos ⟨h1,h2,h3⟩]
theorem qfO(h:next=none):yH o next x=o++[⟨x.i,iL x.f x.i.f⟩]:=by rw[h];rfl
theorem qhL{n:PU}(h:next=some n)(h1:n.i.f=x.i.f)(h2:oI n.f x.f x.i.f=true):yH o next x=o:=by rw[h];unfold yH;dsimp only;rw[if_pos ⟨h1,h2⟩]
theorem U7{n:PU}(h:next=some n)(h1:¬(n.i.f=x.i.f∧oI n.f x.f x.i.f=true)):yH o next x=o++[⟨x.i,iL x.f x.i.f⟩]:=by rw[h];unfold yH;dsimp only;rw[if_neg h1]
end
def qjw{o:List PU}{next:Option PU}{x n:PU}(h:next=some n)(h1:n.i.f=x.i.f):yH o next x=if oI n.f x.f x.i.f=true then o else o++[⟨x.i,iL x.f x.i.f⟩]:=by
 cases hs:oI n.f x.f x.i.f
 ·rw[U7 h (fun e=>by rw[hs] at e;cases e.2)];rfl
 ·rw[qhL h h1 hs];rfl
def SY{A:List PU}{i:Nat}{p:PU}(hi:0<i)(hp:A[i-1]? =some p):oq A i=some p:=by
 obtain⟨j,rfl⟩:∃j,i=j+1:=⟨i-1,by omega⟩;exact hp
def YS{S:Rl->Prop}{ρ:Rl->Int}(T:fD S ρ){l:List PU}(hs:nX ρ l)(he:Go.Via.Ends S l){i:Nat}{u x:PU}(hi:0<i)(hu:l[i-1]? =some u)(hx:l[i]? =some x):EG u.i x.i=true:=by
 obtain⟨h1,rfl⟩:=List.getElem?_eq_some_iff.1 hu;obtain⟨h2,rfl⟩:=List.getElem?_eq_some_iff.1 hx;have:=List.pairwise_iff_getElem.1 hs.1 (i-1) i h1 h2 (by omega);exact(Rz T (he _ (List.getElem_mem h1)).2 (he _ (List.getElem_mem h2)).1).2 this
def Kw{l:List PU}{a b:Nat}(hz:∀u∈l,kT u.i<=a∧iV u.f<=b):∀x∈aA l,kT x.i<=a∧iV x.f<=b:=fun x hx=>by
 obtain⟨u,hu,hx⟩:=List.mem_flatMap.1 hx;obtain⟨h1,h2⟩:=hz u hu;have h3:=lg u.i;have h4:=kH u.i;unfold gQ at hx;rcases List.mem_append.1 hx with hx|hx
 ·split at hx
  ·cases hx
  ·rw[List.mem_singleton] at hx;subst hx;exact⟨wB (Nat.le_trans h3 h1) (Nat.le_trans h3 h1),h2⟩
 ·split at hx
  ·cases hx
  ·rcases List.mem_cons.1 hx with hx|hx
   ·subst hx;exact⟨wB (Nat.le_trans h3 h1) (Nat.le_trans h4 h1),h2⟩
   ·split at hx
    ·cases hx
    ·rw[List.mem_singleton] at hx;subst hx;exact⟨wB (Nat.le_trans h4 h1) (Nat.le_trans h4 h1),h2⟩
def U8{o:List PU}{k n:Nat}{i:Iv}{f:Ln}(h:∀u∈o,iV u.f<=n)(hf:iV f<=n):∀u∈o.set k ⟨i,f⟩,iV u.f<=n:=fun u hu=>by
 rcases List.mem_or_eq_of_mem_set hu with h1|h1
 ·exact h u h1
 ·subst h1;exact hf
def PE{o:List PU}{n:Nat}{i:Iv}{f:Ln}(h:∀u∈o,iV u.f<=n)(hf:iV f<=n):∀u∈o++[⟨i,f⟩],iV u.f<=n:=fun u hu=>by
 rcases List.mem_append.1 hu with h1|h1
 ·exact h u h1
 ·rw[List.mem_singleton] at h1;subst h1;exact hf
def W9{f:Ln}{t:Rl}(hf:iV f<=1000)(ht:ik t<=1000):iV (iL f t)<=8000:=by
 have h3:=rD t;have a0:=qP f;have a1:=qQ f;have a2:=qR f;have a3:=qU f;have z:=vk;have h1:bP (ry (qx f) t.p)<=5000:=by
  have h:=ww (qx f) t.p;have e:bP (qx f).c2<=2:=z;have e0:bP (qx f).c0=bP f.x0:=rfl;have e1:bP (qx f).c1=bP f.x1:=rfl;omega
 have h2:bP (ry (qy f) t.p)<=5000:=by
  have h:=ww (qy f) t.p;have e:bP (qy f).c2<=2:=z;have e0:bP (qy f).c0=bP f.y0:=rfl;have e1:bP (qy f).c1=bP f.y1:=rfl;omega
 unfold iL
 split
 ·show max (max (bP (ry (qx f) t.p)) (bP 0)) (max (bP (ry (qy f) t.p)) (bP 0))<=8000;omega
 ·omega
end Go.Via
namespace Go.Proofs.YtaffcpfhedadhaaGreatDoor
open Go
def qe2:Tryz.prog.underlying 242=some (.pointer 201):=by kernel_rfl
end Go.Proofs.YtaffcpfhedadhaaGreatDoor
namespace Go.Via
open Go
def jT(s:rG):List Value:=[.int .u8 (s.time:Nat),.int .u8 (s.x:Nat),.int .u8 (s.y:Nat),.int .u8 (s.kind:Nat)]
def SpV(s:rG):Value:= .agg #[.int .u8 (s.time:Nat),.int .u8 (s.x:Nat),.int .u8 (s.y:Nat),.int .u8 (s.kind:Nat)]
theorem jP:lh rG jT 4:=⟨fun _=>rfl,fun x v hv=>List.all_eq_true.1 (show(jT x).all (·.oneCell')=true from rfl) v hv⟩
def YT(s:rG):Prop:=s.time<256∧s.x<256∧s.y<256∧s.kind<256
def Gs(s:yN):List Value:=[.bool (decide ((s.t:Rat).num<0)),.string (bF (s.t:Rat).num.natAbs),.bool false,.string (dm (s.t:Rat)),.bool (decide ((s.x:Rat).num<0)),.string (bF (s.x:Rat).num.natAbs),.bool false,.string (dm (s.x:Rat)),.bool (decide ((s.y:Rat).num<0)),.string (bF (s.y:Rat).num.natAbs),.bool false,.string (dm (s.y:Rat))]
def SmV(s:yN):Value:= .agg #[.bool (decide ((s.t:Rat).num<0)),.string (bF (s.t:Rat).num.natAbs),.bool false,.string (dm (s.t:Rat)),.bool (decide ((s.x:Rat).num<0)),.string (bF (s.x:Rat).num.natAbs),.bool false,.string (dm (s.x:Rat)),.bool (decide ((s.y:Rat).num<0)),.string (bF (s.y:Rat).num.natAbs),.bool false,.string (dm (s.y:Rat))]
def lh.subP{α:Type}{c:α->List Value}{k:Nat}(h:lh α c k)(pre:List Value){l:List α}{i:Nat}{x:α}(hx:l[i]? =some x)(o n:Nat)(hn:o+n<=k):((pre++ak c l).drop (pre.length+(i*k+o))).take n=((c x).drop o).take n:=by
 rw[List.drop_length_add_append];exact h.sub hx o n hn
def sK(last:yN)(s:rG):yN:=⟨last.t+1+(s.time%8:Nat),(s.x%64:Nat),(s.y%64:Nat)⟩
def swS(last:yN)(s:rG):yN:=⟨last.t,(s.y%64:Nat),(s.x%64:Nat)⟩
def sO(o:List PU)(alone:Bool)(f n:yN):PU:=⟨⟨rl (f.t:Rat),rl (n.t:Rat),!o.isEmpty&& !alone,false⟩,qeg f n⟩
def kU(s:yN):PU:=⟨⟨rl (s.t:Rat),rl (s.t:Rat),false,false⟩,⟨(s.x:Rat),0,(s.y:Rat),0⟩⟩
theorem wF{α:Type}{l:List α}{i:Nat}{s:α}(hx:l[i]? =some s):l.drop i=s::l.drop (i+1):=by
 obtain⟨h1,h2⟩:=List.getElem?_eq_some_iff.1 hx;rw[<-h2,List.getElem_cons_drop]
section
variable{l:List rG}{i:Nat}{s:rG}{last:yN}{alone:Bool}{o:List PU}
theorem qbT(hx:l[i]? =some s)(hk:s.kind%8=0):ig (l.drop i) last alone o=ig (l.drop (i+1)) (sK last s) true o:=by
 rw[wF hx,ig];simp only[hk];rfl
theorem qbU(hx:l[i]? =some s)(hk:s.kind%8=1):ig (l.drop i) last alone o=ig (l.drop (i+1)) (sK last s) false (o++[sO o alone (swS last s) (sK last s)]):=by
 rw[wF hx,ig];simp only[hk];rfl
theorem qbV(hx:l[i]? =some s)(h0:s.kind%8≠0)(hk:s.kind%8≠1):ig (l.drop i) last alone o=ig (l.drop (i+1)) (sK last s) false (o++[sO o alone last (sK last s)]):=by
 rw[wF hx,ig];simp only[if_neg h0,if_neg hk,decide_eq_false h0];rfl
theorem Xa:ig (l.drop l.length) last alone o=if alone=true then o++[kU last] else o:=by
 rw[List.drop_length,ig];rfl
end
structure IP(s:yN)(n:Nat):Prop where
 t0:0<=s.t
 t1:s.t+8*n<=100
 x0:0<=s.x
 x1:s.x<=63
 y0:0<=s.y
 y1:s.y<=63
def Gt{a:yN}{s:rG}{n:Nat}(h:IP a (n+1)):IP (sK a s) n:=by
 have h0:=h.t0;have h1:=h.t1;exact⟨by show 0<=a.t+1+_;omega,by show a.t+1+((s.time%8:Nat):Int)+8*n<=100;omega,by show(0:Int)<=((s.x%64:Nat):Int);omega,by show((s.x%64:Nat):Int)<=63;omega,by show(0:Int)<=((s.y%64:Nat):Int);omega,by show((s.y%64:Nat):Int)<=63;omega⟩
def qbW{a:yN}{s:rG}{n:Nat}(h:IP a n):IP (swS a s) n:=
 ⟨h.t0,h.t1,by show(0:Int)<=((s.y%64:Nat):Int);omega,by show((s.y%64:Nat):Int)<=63;omega,by show(0:Int)<=((s.x%64:Nat):Int);omega,by show((s.x%64:Nat):Int)<=63;omega⟩
theorem IP.t{a:yN}{n:Nat}(h:IP a n):bP (a.t:Rat)<=2:=ny (by have:=h.t0;omega) (by have:=h.t1;omega)
theorem IP.x{a:yN}{n:Nat}(h:IP a n):bP (a.x:Rat)<=2:=ny (by have:=h.x0;omega) (by have:=h.x1;omega)
theorem IP.y{a:yN}{n:Nat}(h:IP a n):bP (a.y:Rat)<=2:=ny (by have:=h.y0;omega) (by have:=h.y1;omega)
def qe3{a b:yN}{m n:Nat}(ha:IP a m)(hb:IP b n):iV (qeg a b)<=15:=by
 have dt:=Aw hb.t ha.t;have dx:=Aw hb.x ha.x;have dy:=Aw hb.y ha.y;have sx:=DX dx dt;have sy:=DX dy dt;have qx:=Aw ha.x (uP sx ha.t);have qy:=Aw ha.y (uP sy ha.t);unfold iV qeg;dsimp only;omega
def Sm2(u:PU):Prop:=SmE 2 u.i.f∧SmE 2 u.i.t∧iV u.f<=15
def Xb{a:yN}{n:Nat}(h:IP a n):SmE 2 (rl (a.t:Rat)):=⟨⟨_,rfl⟩,vZ h.t (Nat.le_refl _)⟩
def Xc{o:List PU}{alone:Bool}{a b:yN}{m n:Nat}(ha:IP a m)(hb:IP b n):Sm2 (sO o alone a b):=⟨Xb ha,Xb hb,qe3 ha hb⟩
def YU{a:yN}{n:Nat}(h:IP a n):Sm2 (kU a):=⟨Xb h,Xb h,by
 have:=h.x;have:=h.y;have:=vk;show max (max (bP (a.x:Rat)) (bP 0)) (max (bP (a.y:Rat)) (bP 0))<=15;omega⟩
def yt{α:Type}{P:α->Prop}{o:List α}{x:α}(ho:∀u∈o,P u)(hx:P x):∀u∈o++[x],P u:=fun u hu=>by
 rcases List.mem_append.1 hu with h|h
 ·exact ho u h
 ·rw[List.mem_singleton] at h;exact h▸hx
def Dn:∀{l:List rG} {last:yN} {alone:Bool} {o:List PU},IP last l.length->(∀u∈o,Sm2 u)->∀u∈ig l last alone o,Sm2 u
 |[],last,alone,o,h,ho=>by
  rw[ig]
  split
  ·exact yt ho (YU h)
  ·exact ho
 |s::l,last,alone,o,h,ho=>by
  by_cases h0:s.kind%8=0
  ·rw[show ig (s::l) last alone o=ig l (sK last s) true o from qbT (l:=s::l) (i:=0) rfl h0];exact Dn (Gt h) ho
  ·by_cases h1:s.kind%8=1
   ·rw[show ig (s::l) last alone o=_ from qbU (l:=s::l) (i:=0) rfl h1];exact Dn (l:=l) (Gt h) (yt ho (Xc (qbW h) (Gt h)))
   ·rw[show ig (s::l) last alone o=_ from qbV (l:=s::l) (i:=0) rfl h0 h1];exact Dn (l:=l) (Gt h) (yt ho (Xc h (Gt h)))
def IQ:∀{l:List rG} {last:yN} {alone:Bool} {o:List PU},(alone=true∨0<o.length)->0<(ig l last alone o).length∧(ig l last alone o).length<=o.length+l.length+1
 |[],last,alone,o,h=>by
  rw[ig]
  split
  ·simp
  ·rename_i ha;exact⟨h.resolve_left ha,by simp⟩
 |s::l,last,alone,o,h=>by
  by_cases h0:s.kind%8=0
  ·rw[show ig (s::l) last alone o=ig l (sK last s) true o from qbT (l:=s::l) (i:=0) rfl h0];have:=IQ (l:=l) (last:=sK last s) (alone:=true) (o:=o) (.inl rfl);simp only[List.length_cons];omega
  ·by_cases h1:s.kind%8=1
   ·rw[show ig (s::l) last alone o=_ from qbU (l:=s::l) (i:=0) rfl h1];have:=IQ (l:=l) (last:=sK last s) (alone:=false) (o:=o++[sO o alone (swS last s) (sK last s)]) (.inr (by simp));simp only[List.length_append,List.length_cons,List.length_nil] at this ⊢;rw[show List.drop (0+1) (s::l)=l from rfl];omega
   ·rw[show ig (s::l) last alone o=_ from qbV (l:=s::l) (i:=0) rfl h0 h1];have:=IQ (l:=l) (last:=sK last s) (alone:=false) (o:=o++[sO o alone last (sK last s)]) (.inr (by simp));simp only[List.length_append,List.length_cons,List.length_nil] at this ⊢;rw[show List.drop (0+1) (s::l)=l from rfl];omega
def st0(t x y:Nat):yN:=⟨(t%16:Nat),(x%64:Nat),(y%64:Nat)⟩
def Ky{t x y n:Nat}(hn:n<=6):IP (st0 t x y) n:=⟨by show(0:Int)<=((t%16:Nat):Int);omega,by show((t%16:Nat):Int)+8*n<=100;omega,by show(0:Int)<=((x%64:Nat):Int);omega,by show((x%64:Nat):Int)<=63;omega,by show(0:Int)<=((y%64:Nat):Int);omega,by show((y%64:Nat):Int)<=63;omega⟩
def Gu(t x y:Nat)(l:List rG):List PU:=ig l (st0 t x y) true []
theorem xA{t x y:Nat}{l:List rG}(h6:l.length<=6):gJ t x y l=pU (Gu t x y l):=by
 unfold gJ Gu;rw[List.take_of_length_le h6];rfl
section
variable{t x y:Nat}{l:List rG}
def Gv(h6:l.length<=6):Go.Via.Ends (SmE 2) (Gu t x y l):=fun u hu=>by
 have h:=Dn (l:=l) (Ky h6) (o:=[]) (by simp) u hu;exact⟨h.1,h.2.1⟩
def Kz{t x y:Nat}{l:List rG}:nX iM (Gu t x y l):=(Bg (l:=l) (last:=st0 t x y) (alone:=true) (out:=[]) ⟨List.Pairwise.nil,by simp⟩ (by simp[Go.Via.Ends]) (by simp)).1
def KA(h6:l.length<=6):0<(Gu t x y l).length∧(Gu t x y l).length<=7:=by
 have:=IQ (l:=l) (last:=st0 t x y) (alone:=true) (o:=[]) (.inl rfl);unfold Gu;simp only[List.length_nil] at this;omega
def Xd(h6:l.length<=6):∀u∈Gu t x y l,kT u.i<=1000∧iV u.f<=1000:=fun u hu=>by
 have h:=Dn (l:=l) (Ky h6) (o:=[]) (by simp) u hu;exact⟨wB (Nat.le_trans h.1.2 (by omega)) (Nat.le_trans h.2.1.2 (by omega)),Nat.le_trans h.2.2 (by omega)⟩
def S9{f:Ln}{t:Rl}(hf:iV f<=15)(ht:ik t<=2):iV (iL f t)<=100:=by
 have h3:=rD t;have a0:=qP f;have a1:=qQ f;have a2:=qR f;have a3:=qU f;have z:=vk;have h1:bP (ry (qx f) t.p)<=50:=by
  have h:=ww (qx f) t.p;have e:bP (qx f).c2<=2:=z;have e0:bP (qx f).c0=bP f.x0:=rfl;have e1:bP (qx f).c1=bP f.x1:=rfl;omega
 have h2:bP (ry (qy f) t.p)<=50:=by
  have h:=ww (qy f) t.p;have e:bP (qy f).c2<=2:=z;have e0:bP (qy f).c0=bP f.y0:=rfl;have e1:bP (qy f).c1=bP f.y1:=rfl;omega
 unfold iL
 split
 ·show max (max (bP (ry (qx f) t.p)) (bP 0)) (max (bP (ry (qy f) t.p)) (bP 0))<=100;omega
 ·omega
def NS(h6:l.length<=6):Go.Via.Ends (SmE 2) (gJ t x y l):=by
 rw[xA h6];exact(Nq (NM 2) (Kz) (Gv h6)).2
def KD(h6:l.length<=6):He (gJ t x y l):=fun u hu=>by
 have he:=NS h6 u hu;refine⟨wB (Nat.le_trans he.1.2 (by omega)) (Nat.le_trans he.2.2 (by omega)),?_⟩;rw[xA h6] at hu;refine Nr (P:=fun f=>iV f<=100) (fun v hv=>?_) u hu;have h:=Dn (l:=l) (Ky h6) (o:=[]) (by simp) v hv;exact⟨Nat.le_trans h.2.2 (by omega),S9 h.2.2 h.1.2,S9 h.2.2 h.2.1.2⟩
def KE(h6:l.length<=6):(gJ t x y l).length<=21:=by
 rw[xA h6];have:= @Ns (Gu t x y l);have:=(KA (t:=t) (x:=x) (y:=y) h6).2;omega
end
def Tc{t x y u v w:Nat}{l m:List rG}:SS (gJ t x y l) (gJ u v w m):=⟨(EE t x y l).1,(EE u v w m).1,(EE t x y l).2,(EE u v w m).2⟩
def lh.neP{α:Type}{c:α->List Value}{k:Nat}(h:lh α c k)(hk:0<k)(pre:List Value){l:List α}(hl:0<l.length):pre++ak c l≠[]:=fun e=>h.ne hk hl (List.append_eq_nil_iff.1 e).2
def Xe{f a:yN}{s:rG}(h:f.t=a.t):((sK a s).t:Rat)-(f.t:Rat)≠0:=fun e=>by
 have e1:((sK a s).t:Rat)=(f.t:Rat):=(by grind);have e2:=Rat.intCast_inj.1 e1;rw[h] at e2;have e3:a.t+1+((s.time%8:Nat):Int)=a.t:=e2;omega
def qe4{n:Nat}{a:yN}(h:IP a n):(if-9223372036854775808<=(a.t:Rat).num∧(a.t:Rat).num<=9223372036854775807 then(a.t:Rat).num else 0)=a.t:=by
 have h0:=h.t0;have h1:=h.t1;rw[Rat.num_intCast,if_pos ⟨by omega,by omega⟩]
def qhN{last:yN}{s:rG}{n:Nat}{f:yN}(h:IP last n)(hf:f=if s.kind%8=1 then swS last s else last):IP f n∧f.t=last.t:=by
 subst hf;split
 ·exact⟨qbW h,rfl⟩
 ·exact⟨h,rfl⟩
def Xf{l:List rG}{i:Nat}{s:rG}{last f:yN}{alone:Bool}{o:List PU}(hx:l[i]? =some s)(h0:s.kind%8≠0)(hf:f=if s.kind%8=1 then swS last s else last):ig (l.drop i) last alone o=ig (l.drop (i+1)) (sK last s) false (o++[sO o alone f (sK last s)]):=by
 subst hf
 by_cases h1:s.kind%8=1
 ·rw[if_pos h1];exact qbU hx h1
 ·rw[if_neg h1];exact qbV hx h0 h1
theorem qe5{o:List PU}{alone:Bool}{f n:yN}(h:o.isEmpty=false):(sO o alone f n).i=⟨rl (f.t:Rat),rl (n.t:Rat),!alone,false⟩:=by unfold sO;rw[h];rfl
theorem qe6{o:List PU}{alone:Bool}{f n:yN}(h:o.isEmpty=true):(sO o alone f n).i=⟨rl (f.t:Rat),rl (n.t:Rat),false,false⟩:=by unfold sO;rw[h];rfl
end Go.Via
