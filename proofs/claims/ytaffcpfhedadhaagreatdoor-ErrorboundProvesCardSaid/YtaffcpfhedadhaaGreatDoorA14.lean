/-
  Part 14 (chapter 32): lemmas, walks. Each theorem states its own conditions.
-/
import Derived.Test.YtaffcpfhedadhaaGreatDoorA05
import Derived.Test.YtaffcpfhedadhaaGreatDoorA06
import Derived.Test.YtaffcpfhedadhaaGreatDoorA08
import Derived.Test.YtaffcpfhedadhaaGreatDoorA11
import Derived.Test.YtaffcpfhedadhaaGreatDoorA12
import Derived.Test.YtaffcpfhedadhaaGreatDoorA13
set_option linter.all false
set_option maxRecDepth 20000
set_option maxHeartbeats 20000000
namespace Go.Proofs.YtaffcpfhedadhaaGreatDoor
open Go Go.RowKit Go.Via
def MI(a:List PU)(ab:Option Nat)(aN ac:Nat)(hac:a.length<=ac)(han:a.length<=400)(b:List PU)(bb:Option Nat)(bN bc:Nat)(hbc:b.length<=bc)(hbn:b.length<=400)(hsa:Hu a)(hsb:Hu b)(H:Fz a b):dh Tryz.prog 15 [⟨ab,100,ah aQ a,aN,false⟩,⟨bb,100,ah aQ b,bN,false⟩] [az ab 0 a.length ac,az bb 0 b.length bc] (SR ((ay a b).map aZ).length) (fun z=>CfV z.v (CO ((ay a b).map aZ))) (fun z=>[⟨z.b,63,ah bg ((ay a b).map aZ),z.n,true⟩]):=by
 refine⟨by kernel_rfl,fun w hL0=>?_⟩;have hpl:=uC a b;refine YZ 109 Tryz.func15 hL0 ?_;refine A2 ?_;refine Al 10 z40 (fun g0=>?_);refine A4 ?_;refine Al 10 z40 (fun g1=>?_);refine A9 ?_;refine El (ι:={z:Nat×List oZ×Option Nat×Nat×Nat // z.1<=a.length∧z.2.1=(pK a b z.1).map aZ∧z.2.1.length<=z.2.2.2.2∧z.2.2.2.2*38<=z.2.2.2.1}) (fun⟨⟨i,o,ob,oN,oc⟩,hi,hI,h3,h4⟩=>([(0,az ab 0 a.length ac),(1,az bb 0 b.length bc),(4,dV g0),(5,dV g1),(6,bz i)],[⟨ab,100,ah aQ a,aN,false⟩,⟨bb,100,ah aQ b,bN,false⟩,⟨some g0,40,Qe,10,true⟩,⟨some g1,40,jS (az ob 0 o.length oc) (rl 0),10,true⟩,⟨ob,63,ah bg o,oN,true⟩],a.length-i)) ⟨⟨0,[],none,0,0⟩,Nat.zero_le _,rfl,Nat.le_refl _,by simp⟩ ?_ (hL:=(au [some 0,some 1,some 2,some 3,none] ⟨pR,pR,pR,⟨_,rfl,aI (by rw[qbB];rfl)⟩,⟨rfl,rfl,rfl⟩,trivial⟩ rfl rfl));rintro⟨⟨i,o,ob,oN,oc⟩,hi,hI,h3,h4⟩;(try dsimp only);replace hi:i<=a.length:=hi;replace hI:o=(pK a b i).map aZ:=hI;replace h3:o.length<=oc:=h3;replace h4:oc*38<=oN:=h4;refine A9 ?_;refine Cd ?_ ?_<;>intro hb1
 ·have hlt:i<a.length:=(by have:=of_decide_eq_true hb1;omega);obtain⟨x,hx⟩:∃x,a[i]? =some x:=⟨a[i],List.getElem?_eq_getElem hlt⟩;have hxm:=List.mem_of_getElem? hx;have hxs:=hsa x hxm;have hxe:=H.ea x hxm;refine lm ?_;refine El (ι:={z:Nat×List oZ×Option Nat×Nat×Nat // z.1<=b.length∧z.2.1=(pK a b i++AP x b z.1).map aZ∧z.2.1.length<=z.2.2.2.2∧z.2.2.2.2*38<=z.2.2.2.1}) (fun⟨⟨j,o,ob,oN,oc⟩,hj,hI0,h30,h40⟩=>([(0,az ab 0 a.length ac),(1,az bb 0 b.length bc),(4,dV g0),(5,dV g1),(6,bz i),(7,bz j)],[⟨ab,100,ah aQ a,aN,false⟩,⟨bb,100,ah aQ b,bN,false⟩,⟨some g0,40,Qe,10,true⟩,⟨some g1,40,jS (az ob 0 o.length oc) (rl 0),10,true⟩,⟨ob,63,ah bg o,oN,true⟩],b.length-j)) ⟨⟨0,o,ob,oN,oc⟩,Nat.zero_le _,by show o=(pK a b i++AP x b 0).map aZ;rw[qe3];exact hI,h3,h4⟩ ?_ (hL:=eG.auto);rintro⟨⟨j,o,ob,oN,oc⟩,hj,hI0,h30,h40⟩;(try dsimp only);replace hj:j<=b.length:=hj;have hI:o=(pK a b i++AP x b j).map aZ:=hI0;have h3:o.length<=oc:=h30;have h4:oc*38<=oN:=h40;refine A9 ?_;refine Cd ?_ ?_<;>intro hb3
  ·have hjt:j<b.length:=(by have:=of_decide_eq_true hb3;omega);obtain⟨y,hy⟩:∃y,b[j]? =some y:=⟨b[j],List.getElem?_eq_getElem hjt⟩;have hym:=List.mem_of_getElem? hy;have hys:=hsb y hym;have hye:=H.eb y hym;refine fD 0 rfl (aC.ne (by decide) (by omega)) (fun hbs=>?_);obtain⟨ga,hga⟩:=Option.isSome_iff_exists.1 hbs;replace hga:ab=some ga:=hga;subst hga;refine fD 1 rfl (aC.ne (by decide) (by omega)) (fun hbs=>?_);obtain⟨gb,hgb⟩:=Option.isSome_iff_exists.1 hbs;replace hgb:bb=some gb:=hgb;subst hgb;refine A5 ?_;let sX:List (Nat×Value)->List (Nat×Value):=fun l=>(0,az (some ga) 0 a.length ac)::(1,az (some gb) 0 b.length bc)::(4,dV g0)::(5,dV g1)::(6,bz i)::(7,bz j)::l;let sY:List aG->List aG:=fun l=>⟨some ga,100,ah aQ a,aN,false⟩::⟨some gb,100,ah aQ b,bN,false⟩::⟨some g0,40,Qe,10,true⟩::⟨some g1,40,jS (az ob 0 o.length oc) (rl 0),10,true⟩::⟨ob,63,ah bg o,oN,true⟩::l;refine Bv (nt:=109) (Z:=Nat×Nat×(SR (jf x.i y.i).toList.length)) (fun⟨gx,gy,⟨cb,cN,cc,hcc⟩⟩=>sX [(8,az cb 0 (jf x.i y.i).toList.length cc)]) (fun⟨gx,gy,⟨cb,cN,cc,hcc⟩⟩=>sY [⟨some gx,61,bP x.i,20,true⟩,⟨some gy,61,bP y.i,20,true⟩,⟨cb,61,ah bP (jf x.i y.i).toList,cN,true⟩]) 14 [0,1,2,3,4,5,6,7,8,9,10,11,12,13] mixed (by kernel_rfl) (fun hd0=>?_) ?_
   ·refine bK (nt:=109) (Z:=Nat×Nat×(SR (jf x.i y.i).toList.length)) (fun⟨gx,gy,⟨cb,cN,cc,hcc⟩⟩=>sX [(36,az cb 0 (jf x.i y.i).toList.length cc)]) (fun⟨gx,gy,⟨cb,cN,cc,hcc⟩⟩=>sY [⟨some gx,61,bP x.i,20,true⟩,⟨some gy,61,bP y.i,20,true⟩,⟨cb,61,ah bP (jf x.i y.i).toList,cN,true⟩]) 1 [13] (fun z=>?_) (fun hd1=>?_)
    ·obtain⟨gx,gy,⟨cb,cN,cc,hcc⟩⟩:=z;(try dsimp only);refine FK 13 ?_
     ·refine A2 ?_;exact Nw hd0 ⟨gx,gy,⟨cb,cN,cc,hcc⟩⟩ [0,1,2,3,4,5,6,7]
    refine bK (nt:=109) (Z:=Nat×Nat) (fun⟨gx,gy⟩=>sX [(29,az (some gx) 0 1 1),(35,az (some gy) 0 1 1)]) (fun⟨gx,gy⟩=>sY [⟨some gx,61,bP x.i,20,true⟩,⟨some gy,61,bP y.i,20,true⟩]) 2 [12,13] (fun z=>?_) (fun hd2=>?_)
    ·obtain⟨gx,gy⟩:=z;(try dsimp only);refine FK 12 ?_
     ·refine iM [_,_,_] [5,6] rfl rfl rfl (qju x y hxe hye (by omega) (by omega) gx gy _ _) ⟨pS,pS,trivial⟩ rfl (.inr fun x b hb=>by rw[List.mem_singleton.1 hb]) (fun zc=>?_);obtain⟨cb,cN,cc,hcc⟩:=zc;refine A1 ?_;exact Nw hd1 ⟨gx,gy,⟨cb,cN,cc,hcc⟩⟩ [0,1,2,3,4,5,6,7]
    refine bK (nt:=109) (Z:=Nat) (fun gy=>sX [(28,kF x.i),(35,az (some gy) 0 1 1)]) (fun gy=>sY [⟨some gy,61,bP y.i,20,true⟩]) 3 [5,12,13] (fun gy=>?_) (fun hd3=>?_)
    ·(try dsimp only);refine FK 5 ?_
     ·refine(Bl 20 [(0,_)]) (lH) (fun g3=>?_);refine A1 ?_;exact Nw hd2 ⟨g3,gy⟩ [0,1,2,3,4,6,5]
    refine bK (nt:=109) (Z:=Nat) (fun gx=>sX [(29,az (some gx) 0 1 1),(34,kF y.i)]) (fun gx=>sY [⟨some gx,61,bP x.i,20,true⟩]) 3 [11,12,13] (fun gx=>?_) (fun hd4=>?_)
    ·(try dsimp only);refine FK 11 ?_
     ·refine(Bl 20 [(0,_)]) (lH) (fun g3=>?_);refine A1 ?_;exact Nw hd2 ⟨gx,g3⟩ [0,1,2,3,4,5,6]
    refine bK (nt:=109) (Z:=Nat) (fun gy=>sX [(27,.pointer (some ⟨ga,(i)*36,none⟩)),(35,az (some gy) 0 1 1)]) (fun gy=>sY [⟨some gy,61,bP y.i,20,true⟩]) 4 [4,5,12,13] (fun gy=>?_) (fun hd5=>?_)
    ·(try dsimp only);refine FK 4 ?_
     ·refine aO (v:=kF x.i) 0 ((i)*36+0) _ rfl rfl rfl rfl iC (aC.sub hx 0 20 (by decide)) rfl (by decide) rfl ?_;refine A1 ?_;exact Nw hd3 gy [0,1,2,3,4,5]
    refine bK (nt:=109) (Z:=Unit) (fun _=>sX [(28,kF x.i),(34,kF y.i)]) (fun _=>sY []) 4 [5,11,12,13] (fun z=>?_) (fun hd6=>?_)
    ·(try dsimp only);refine cZ [5,11] (by kernel_rfl) rfl ⟨⟨_,rfl,?_⟩,⟨_,rfl,?_⟩,trivial⟩
     ·refine(Bl 20 [(0,_)]) (lH) (fun g2=>?_);refine A1 ?_;exact Nw hd4 g2 [0,1,2,3,4,5]
     ·refine(Bl 20 [(0,_)]) (lH) (fun g2=>?_);refine A1 ?_;exact Nw hd3 g2 [0,1,2,3,4,5]
    refine bK (nt:=109) (Z:=Nat) (fun gx=>sX [(29,az (some gx) 0 1 1),(33,.pointer (some ⟨gb,(j)*36,none⟩))]) (fun gx=>sY [⟨some gx,61,bP x.i,20,true⟩]) 4 [10,11,12,13] (fun gx=>?_) (fun hd7=>?_)
    ·(try dsimp only);refine FK 10 ?_
     ·refine aO (v:=kF y.i) 1 ((j)*36+0) _ rfl rfl rfl rfl iC (aC.sub hy 0 20 (by decide)) rfl (by decide) rfl ?_;refine A1 ?_;exact Nw hd4 gx [0,1,2,3,4,5]
    refine bK (nt:=109) (Z:=Unit) (fun _=>sX [(27,.pointer (some ⟨ga,(i)*36,none⟩)),(34,kF y.i)]) (fun _=>sY []) 5 [4,5,11,12,13] (fun z=>?_) (fun hd8=>?_)
    ·(try dsimp only);refine cZ [4,11] (by kernel_rfl) rfl ⟨⟨_,rfl,?_⟩,⟨_,rfl,?_⟩,trivial⟩
     ·refine aO (v:=kF x.i) 0 ((i)*36+0) _ rfl rfl rfl rfl iC (aC.sub hx 0 20 (by decide)) rfl (by decide) rfl ?_;refine A1 ?_;exact Nw hd6 () [0,1,2,3,4]
     ·refine(Bl 20 [(0,_)]) (lH) (fun g2=>?_);refine A1 ?_;exact Nw hd5 g2 [0,1,2,3,4,5]
    refine bK (nt:=109) (Z:=Unit) (fun _=>sX [(28,kF x.i),(33,.pointer (some ⟨gb,(j)*36,none⟩))]) (fun _=>sY []) 5 [5,10,11,12,13] (fun z=>?_) (fun hd9=>?_)
    ·(try dsimp only);refine cZ [5,10] (by kernel_rfl) rfl ⟨⟨_,rfl,?_⟩,⟨_,rfl,?_⟩,trivial⟩
     ·refine(Bl 20 [(0,_)]) (lH) (fun g2=>?_);refine A1 ?_;exact Nw hd7 g2 [0,1,2,3,4,5]
     ·refine aO (v:=kF y.i) 1 ((j)*36+0) _ rfl rfl rfl rfl iC (aC.sub hy 0 20 (by decide)) rfl (by decide) rfl ?_;refine A1 ?_;exact Nw hd6 () [0,1,2,3,4]
    refine bK (nt:=109) (Z:=Nat) (fun gy=>sX [(24,az (some ga) 0 a.length ac),(25,bz i),(35,az (some gy) 0 1 1)]) (fun gy=>sY [⟨some gy,61,bP y.i,20,true⟩]) 6 [2,3,4,5,12,13] (fun gy=>?_) (fun hd10=>?_)
    ·(try dsimp only);refine FK 2 ?_
     ·refine ai 0 ((i)*36) JO wB rfl rfl rfl rfl rfl (by omega) (by omega) (aC.ne (by decide) (by omega)) (by show 0+Int.toNat _*36=_;omega) ?_;refine A1 ?_;refine Nt 3 ?_;refine Fg ((i)*36) 0 ?_;refine A1 ?_;exact Nw hd5 gy [0,1,2,3,4,5]
    refine bK (nt:=109) (Z:=Unit) (fun _=>sX [(27,.pointer (some ⟨ga,(i)*36,none⟩)),(33,.pointer (some ⟨gb,(j)*36,none⟩))]) (fun _=>sY []) 6 [4,5,10,11,12,13] (fun z=>?_) (fun hd11=>?_)
    ·(try dsimp only);refine cZ [4,10] (by kernel_rfl) rfl ⟨⟨_,rfl,?_⟩,⟨_,rfl,?_⟩,trivial⟩
     ·refine aO (v:=kF x.i) 0 ((i)*36+0) _ rfl rfl rfl rfl iC (aC.sub hx 0 20 (by decide)) rfl (by decide) rfl ?_;refine A1 ?_;exact Nw hd9 () [0,1,2,3,4]
     ·refine aO (v:=kF y.i) 1 ((j)*36+0) _ rfl rfl rfl rfl iC (aC.sub hy 0 20 (by decide)) rfl (by decide) rfl ?_;refine A1 ?_;exact Nw hd8 () [0,1,2,3,4]
    refine bK (nt:=109) (Z:=Nat) (fun gx=>sX [(29,az (some gx) 0 1 1),(30,az (some gb) 0 b.length bc),(31,bz j)]) (fun gx=>sY [⟨some gx,61,bP x.i,20,true⟩]) 6 [8,9,10,11,12,13] (fun gx=>?_) (fun hd12=>?_)
    ·(try dsimp only);refine FK 8 ?_
     ·refine ai 1 ((j)*36) JO wB rfl rfl rfl rfl rfl (by omega) (by omega) (aC.ne (by decide) (by omega)) (by show 0+Int.toNat _*36=_;omega) ?_;refine A1 ?_;refine Nt 9 ?_;refine Fg ((j)*36) 0 ?_;refine A1 ?_;exact Nw hd7 gx [0,1,2,3,4,5]
    refine bK (nt:=109) (Z:=Unit) (fun _=>sX [(24,az (some ga) 0 a.length ac),(25,bz i),(34,kF y.i)]) (fun _=>sY []) 7 [2,3,4,5,11,12,13] (fun z=>?_) (fun hd13=>?_)
    ·(try dsimp only);refine cZ [2,11] (by kernel_rfl) rfl ⟨⟨_,rfl,?_⟩,⟨_,rfl,?_⟩,trivial⟩
     ·refine ai 0 ((i)*36) JO wB rfl rfl rfl rfl rfl (by omega) (by omega) (aC.ne (by decide) (by omega)) (by show 0+Int.toNat _*36=_;omega) ?_;refine A1 ?_;refine Nt 3 ?_;refine Fg ((i)*36) 0 ?_;refine A1 ?_;exact Nw hd8 () [0,1,2,3,4]
     ·refine(Bl 20 [(0,_)]) (lH) (fun g2=>?_);refine A1 ?_;exact Nw hd10 g2 [0,1,2,3,4,5]
    refine bK (nt:=109) (Z:=Unit) (fun _=>sX [(28,kF x.i),(30,az (some gb) 0 b.length bc),(31,bz j)]) (fun _=>sY []) 7 [5,8,9,10,11,12,13] (fun z=>?_) (fun hd14=>?_)
    ·(try dsimp only);refine cZ [5,8] (by kernel_rfl) rfl ⟨⟨_,rfl,?_⟩,⟨_,rfl,?_⟩,trivial⟩
     ·refine(Bl 20 [(0,_)]) (lH) (fun g2=>?_);refine A1 ?_;exact Nw hd12 g2 [0,1,2,3,4,5]
     ·refine ai 1 ((j)*36) JO wB rfl rfl rfl rfl rfl (by omega) (by omega) (aC.ne (by decide) (by omega)) (by show 0+Int.toNat _*36=_;omega) ?_;refine A1 ?_;refine Nt 9 ?_;refine Fg ((j)*36) 0 ?_;refine A1 ?_;exact Nw hd9 () [0,1,2,3,4]
    refine bK (nt:=109) (Z:=Unit) (fun _=>sX [(24,az (some ga) 0 a.length ac),(25,bz i),(33,.pointer (some ⟨gb,(j)*36,none⟩))]) (fun _=>sY []) 8 [2,3,4,5,10,11,12,13] (fun z=>?_) (fun hd15=>?_)
    ·(try dsimp only);refine cZ [2,10] (by kernel_rfl) rfl ⟨⟨_,rfl,?_⟩,⟨_,rfl,?_⟩,trivial⟩
     ·refine ai 0 ((i)*36) JO wB rfl rfl rfl rfl rfl (by omega) (by omega) (aC.ne (by decide) (by omega)) (by show 0+Int.toNat _*36=_;omega) ?_;refine A1 ?_;refine Nt 3 ?_;refine Fg ((i)*36) 0 ?_;refine A1 ?_;exact Nw hd11 () [0,1,2,3,4]
     ·refine aO (v:=kF y.i) 1 ((j)*36+0) _ rfl rfl rfl rfl iC (aC.sub hy 0 20 (by decide)) rfl (by decide) rfl ?_;refine A1 ?_;exact Nw hd13 () [0,1,2,3,4]
    refine bK (nt:=109) (Z:=Unit) (fun _=>sX [(27,.pointer (some ⟨ga,(i)*36,none⟩)),(30,az (some gb) 0 b.length bc),(31,bz j)]) (fun _=>sY []) 8 [4,5,8,9,10,11,12,13] (fun z=>?_) (fun hd16=>?_)
    ·(try dsimp only);refine cZ [4,8] (by kernel_rfl) rfl ⟨⟨_,rfl,?_⟩,⟨_,rfl,?_⟩,trivial⟩
     ·refine aO (v:=kF x.i) 0 ((i)*36+0) _ rfl rfl rfl rfl iC (aC.sub hx 0 20 (by decide)) rfl (by decide) rfl ?_;refine A1 ?_;exact Nw hd14 () [0,1,2,3,4]
     ·refine ai 1 ((j)*36) JO wB rfl rfl rfl rfl rfl (by omega) (by omega) (aC.ne (by decide) (by omega)) (by show 0+Int.toNat _*36=_;omega) ?_;refine A1 ?_;refine Nt 9 ?_;refine Fg ((j)*36) 0 ?_;refine A1 ?_;exact Nw hd11 () [0,1,2,3,4]
    refine Nt 0 ?_;refine A2 ?_;refine Nt 1 ?_;refine A2 ?_;refine Nt 6 ?_;refine A2 ?_;refine Nt 7 ?_;refine A2 ?_;refine cZ [2,8] (by kernel_rfl) rfl ⟨⟨_,rfl,?_⟩,⟨_,rfl,?_⟩,trivial⟩
    ·refine ai 0 ((i)*36) JO wB rfl rfl rfl rfl rfl (by omega) (by omega) (aC.ne (by decide) (by omega)) (by show 0+Int.toNat _*36=_;omega) ?_;refine A1 ?_;refine Nt 3 ?_;refine Fg ((i)*36) 0 ?_;refine A1 ?_;exact Nw hd16 () [0,1,2,3,4]
    ·refine ai 1 ((j)*36) JO wB rfl rfl rfl rfl rfl (by omega) (by omega) (aC.ne (by decide) (by omega)) (by show 0+Int.toNat _*36=_;omega) ?_;refine A1 ?_;refine Nt 9 ?_;refine Fg ((j)*36) 0 ?_;refine A1 ?_;exact Nw hd15 () [0,1,2,3,4]
   rintro⟨gx,gy,⟨cb,cN,cc,hcc⟩⟩;show At _ ⟨109,[(0,az (some ga) 0 a.length ac),(1,az (some gb) 0 b.length bc),(4,dV g0),(5,dV g1),(6,bz i),(7,bz j),(8,az cb 0 (jf x.i y.i).toList.length cc)],[⟨some ga,100,ah aQ a,aN,false⟩,⟨some gb,100,ah aQ b,bN,false⟩,⟨some g0,40,Qe,10,true⟩,⟨some g1,40,jS (az ob 0 o.length oc) (rl 0),10,true⟩,⟨ob,63,ah bg o,oN,true⟩,⟨some gx,61,bP x.i,20,true⟩,⟨some gy,61,bP y.i,20,true⟩,⟨cb,61,ah bP (jf x.i y.i).toList,cN,true⟩]⟩ _;refine A9 ?_;refine Cd ?_ ?_<;>intro hb4
   ·have hm:jf x.i y.i=none:=by rcases hq:jf x.i y.i with _|m;rfl;(have e:=hb4;rw[hq] at e;simp at e)
    refine A6 ?_;refine Ar (((j+1:Nat):Int)) ?_;refine A3 ?_;exact Nl ⟨⟨j+1,o,ob,oN,oc⟩,hjt,by show o=(pK a b i++AP x b (j+1)).map aZ;rw[qbC hy,qhL hm];simpa using hI,h3,h4⟩ (hμ:=(by show b.length-(j+1)<b.length-j;omega)) (hL:=eG.auto)
   ·obtain⟨m,hm⟩:∃m,jf x.i y.i=some m:=by rcases hq:jf x.i y.i with _|m;(exfalso;have e:=hb4;rw[hq] at e;simp at e);exact⟨m,rfl⟩
    have hm0:(jf x.i y.i).toList[0]? =some m:=(by rw[hm];rfl);have hm1:0<(jf x.i y.i).toList.length:=(by rw[hm];exact Nat.one_pos);have hz:=qhK hm;have hpm:=qe4 H hx hy hz;have hps:=yu hsa hsb _ hpm;have hpe:=Oo H.ea H.eb _ hpm;have hol:=qbF H hx hy hz;replace hol:o.length<a.length+b.length:=(by rw[hI,List.length_map];exact hol);have l1:=kw m;have l2:=kz m;replace hps:jV m<=100∧uB (d2 x.f y.f)<=820:=hps;refine fD 7 rfl (bI.ne (by decide) hm1) (fun hbs=>?_);obtain⟨gc,hgc⟩:=Option.isSome_iff_exists.1 hbs;replace hgc:cb=some gc:=hgc;subst hgc;refine rH 4 rfl (fun hbase=>?_);have hobs:o.length=0∨∃g,ob=some g:=sS bM (by decide) hbase;refine A3 ?_;refine Dq [3000000] [0,1,2,3,4,5,6,7,8,9,10,11,12] ?_;refine A2 ?_;refine ai 0 ((i)*36) JO wB rfl rfl rfl rfl rfl (by omega) (by omega) (aC.ne (by decide) (by omega)) (by show 0+Int.toNat _*36=_;omega) ?_;refine Fg ((i)*36) 20 ?_;refine aO (v:=xK x.f) 0 ((i)*36+20) _ rfl rfl rfl rfl LZ (aC.sub hx 20 16 (by decide)) rfl (by decide) rfl ?_;refine A2 ?_;refine ai 1 ((j)*36) JO wB rfl rfl rfl rfl rfl (by omega) (by omega) (aC.ne (by decide) (by omega)) (by show 0+Int.toNat _*36=_;omega) ?_;refine Fg ((j)*36) 20 ?_;refine aO (v:=xK y.f) 1 ((j)*36+20) _ rfl rfl rfl rfl LZ (aC.sub hy 20 16 (by decide)) rfl (by decide) rfl ?_;refine Pc (Fh x.f y.f) ?_;refine Al 12 G5 (fun g2=>?_);refine Ss 8 ?_;refine A3 ?_;refine Dq [3000000] [0,1,2,3,4,5,6,7,9,10,11,12,13,8,14,15,16,17] ?_;refine A1 ?_;refine ai 7 ((0)*20) F6 iC rfl rfl rfl rfl rfl (by omega) (by omega) (bI.ne (by decide) (by omega)) (by show 0+Int.toNat _*20=_;omega) ?_;refine aO (v:=kF m) 7 ((0)*20) _ rfl rfl rfl rfl iC (bI.sub hm0 0 20 (by decide)) rfl (by decide) rfl ?_;refine ut 8 0 ?_;refine A1 ?_;refine ai 7 ((0)*20) F6 iC rfl rfl rfl rfl rfl (by omega) (by omega) (bI.ne (by decide) (by omega)) (by show 0+Int.toNat _*20=_;omega) ?_;refine Fg ((0)*20) 0 ?_;refine aO (v:=RV m.f) 7 ((0)*20+0) _ rfl rfl rfl rfl iT (bI.sub hm0 0 9 (by decide)) rfl (by decide) rfl ?_;refine ut 8 0 ?_;refine A1 ?_;refine ai 7 ((0)*20) F6 iC rfl rfl rfl rfl rfl (by omega) (by omega) (bI.ne (by decide) (by omega)) (by show 0+Int.toNat _*20=_;omega) ?_;refine Fg ((0)*20) 9 ?_;refine aO (v:=RV m.t) 7 ((0)*20+9) _ rfl rfl rfl rfl iT (bI.sub hm0 9 9 (by decide)) rfl (by decide) rfl ?_;refine Pc (KL (d2 x.f y.f) m.f (okZ hpe.1)) ?_;refine Pc (KL (d2 x.f y.f) m.t (okZ hpe.2)) ?_;refine(Bu [(0,_),(1,_),(2,_)]) (Ut) ?_;refine Al 38 z63 (fun g3=>?_);refine Ss 9 ?_;refine lm ?_;refine OW (nt:=109) [(0,az (some ga) 0 a.length ac),(1,az (some gb) 0 b.length bc),(4,dV g0),(5,dV g1),(6,bz i),(7,bz j),(10,dV g3),(11,bz (o.length))] [⟨some ga,100,ah aQ a,aN,false⟩,⟨some gb,100,ah aQ b,bN,false⟩,⟨some g0,40,Qe,10,true⟩,⟨some g1,40,jS (az ob 0 o.length oc) (rl 0),10,true⟩,⟨ob,63,ah bg o,oN,true⟩,⟨some g3,63,bg (aZ (m,d2 x.f y.f)),38,true⟩] ?_ ?_
    ·refine A1 ?_;refine El (ι:={u:Unit // True}) (fun⟨u,_⟩=>([(0,az (some ga) 0 a.length ac),(1,az (some gb) 0 b.length bc),(4,dV g0),(5,dV g1),(6,bz i),(7,bz j),(10,dV g3),(11,bz (o.length))],[⟨some ga,100,ah aQ a,aN,false⟩,⟨some gb,100,ah aQ b,bN,false⟩,⟨some g0,40,Qe,10,true⟩,⟨some g1,40,jS (az ob 0 o.length oc) (rl 0),10,true⟩,⟨ob,63,ah bg o,oN,true⟩,⟨some g3,63,bg (aZ (m,d2 x.f y.f)),38,true⟩],0)) ⟨(),trivial⟩ ?_ (hL:=(rD [some 0,some 1,some 2,some 3,some 4,some 9]));rintro⟨u,_⟩;(try dsimp only);refine A2 ?_;refine Di [] ?_;refine A3 ?_;refine Rs 72 ?_ ?_<;>intro hb6
     ·have hop:0<o.length:=(by have:=of_decide_eq_true hb6;omega);obtain⟨p,hp⟩:∃p,o[o.length-1]? =some p:=⟨_,List.getElem?_eq_getElem (by omega)⟩;obtain⟨go,hgo⟩:=hobs.resolve_left (by omega);subst hgo;have hpq:=List.mem_of_getElem? hp;rw[hI] at hpq;obtain⟨q,hq,hqp⟩:=List.mem_map.1 hpq;have hord:¬bW m.f p.i.f<0:=by rw[<-hqp];exact qbD H hx hy hz hq
      have hqs:=(yu hsa hsb _ (qbE H hx hy hz hq)).1;have hqf:gY p.i.f<=100:=(by rw[<-hqp];exact Nat.le_trans (kw q.1) hqs);refine A2 ?_;refine L9 5 0 ?_;refine A3 ?_;refine(Aq ((o.length:Int)-1)) (by exact(congrArg some (wi (by omega) (by omega) rfl))) ?_;refine ai 4 ((o.length-1)*38) u32 jJ rfl rfl rfl rfl rfl (by omega) (by omega) (bM.ne (by decide) (by omega)) (by show 0+Int.toNat _*38=_;omega) ?_;refine Fg ((o.length-1)*38) 0 ?_;refine Fg ((o.length-1)*38+0) 0 ?_;refine aO (v:=RV p.i.f) 4 ((o.length-1)*38+0+0) _ rfl rfl rfl rfl iT (bM.sub hp 0 9 (by decide)) rfl (by decide) rfl ?_;refine Pc (gQ m.f p.i.f) ?_;refine A4 ?_;refine Cd ?_ ?_<;>intro hb7
      ·exact absurd (of_decide_eq_true hb7) hord
      ·refine A5 ?_;exact rC ⟨rfl,rfl,rfl,rfl,rfl,rfl,rfl,rfl,trivial⟩ (rD [some 0,some 1,some 2,some 3,some 4,some 5])
     ·refine A22 ?_;exact rC ⟨rfl,rfl,rfl,rfl,rfl,rfl,rfl,rfl,trivial⟩ (rD [some 0,some 1,some 2,some 3,some 4,some 5])
    let sX:List (Nat×Value)->List (Nat×Value):=fun l=>(0,az (some ga) 0 a.length ac)::(1,az (some gb) 0 b.length bc)::(4,dV g0)::(5,dV g1)::(6,bz i)::(7,bz j)::l;let sY:List aG->List aG:=fun l=>⟨some ga,100,ah aQ a,aN,false⟩::⟨some gb,100,ah aQ b,bN,false⟩::⟨some g0,40,Qe,10,true⟩::l;refine Bv (nt:=109) (Z:=Nat×(OR (0+o.length+1+(o.length-o.length)) 38)) (fun⟨g96,r3⟩=>sX []) (fun⟨g96,r3⟩=>sY [⟨some g1,40,jS (az r3.b 0 (0+o.length+1+(o.length-o.length)) r3.cap) (rl 0),10,true⟩,⟨ob,63,ah bg o,oN,true⟩,⟨some g3,63,bg (aZ (m,d2 x.f y.f)),38,true⟩,⟨r3.b,63,(ah bg o++bg (aZ (m,d2 x.f y.f)))++ah bg (o.drop o.length),r3.n,true⟩,⟨some g96,63,bg (aZ (m,d2 x.f y.f)),38,true⟩]) 16 [0,1,2,3,4,5,6,7,8,9,10,11,12,13,14,15] mixed (by kernel_rfl) (fun hd0=>?_) ?_
    ·refine bK (nt:=109) (Z:=Nat×(OR (0+o.length+1+(o.length-o.length)) 38)) (fun⟨g96,r3⟩=>sX [(10,dV g3),(11,bz (o.length)),(102,az r3.b 0 (0+o.length+1+(o.length-o.length)) r3.cap),(103,dV g1)]) (fun⟨g96,r3⟩=>sY [⟨some g1,40,jS (az ob 0 o.length oc) (rl 0),10,true⟩,⟨ob,63,ah bg o,oN,true⟩,⟨some g3,63,bg (aZ (m,d2 x.f y.f)),38,true⟩,⟨r3.b,63,(ah bg o++bg (aZ (m,d2 x.f y.f)))++ah bg (o.drop o.length),r3.n,true⟩,⟨some g96,63,bg (aZ (m,d2 x.f y.f)),38,true⟩]) 1 [15] (fun z=>?_) (fun hd1=>?_)
     ·obtain⟨g96,r3⟩:=z;(try dsimp only);refine FK 15 ?_
      ·refine Ss 3 ?_;refine A1 ?_;exact Nw hd0 ⟨g96,r3⟩ [0,1,2,3,4,5,6,7]
     refine bK (nt:=109) (Z:=Nat×(OR (0+o.length+1) 38)) (fun⟨g96,r2⟩=>sX [(10,dV g3),(11,bz (o.length)),(97,az r2.b 0 (0+o.length+1) r2.cap),(101,az ob (if oc=o.length then 0 else o.length*38) (o.length-o.length) (oc-o.length))]) (fun⟨g96,r2⟩=>sY [⟨some g1,40,jS (az ob 0 o.length oc) (rl 0),10,true⟩,⟨ob,63,ah bg o,oN,true⟩,⟨some g3,63,bg (aZ (m,d2 x.f y.f)),38,true⟩,⟨r2.b,63,ah bg o++bg (aZ (m,d2 x.f y.f)),r2.n,true⟩,⟨some g96,63,bg (aZ (m,d2 x.f y.f)),38,true⟩]) 3 [13,14,15] (fun z=>?_) (fun hd2=>?_)
     ·obtain⟨g96,r2⟩:=z;(try dsimp only);refine FK 13 ?_
      ·refine(Qo (s:=38) (len:=0+o.length+1) 6 4 (ah bg (o.drop o.length)) (fun r3=>[_,_,_,_,_,_,⟨r3.b,63,(ah bg o++bg (aZ (m,d2 x.f y.f)))++ah bg (o.drop o.length),r3.n,true⟩,_]) u32 Dx) (by exact(by rw[List.length_append,bM.length];show o.length*38+38=_;omega)) r2.h r2.hn (by exact(hobs.imp (fun e=>by omega) id)) (bM.dropT h3 (Nat.le_refl _)) (bM.lenDrop o o.length) (bM.ones _) (fun r3=>?_);refine A1 ?_;refine Nt 14 ?_;refine Fg 0 0 ?_;refine A1 ?_;exact Nw hd1 ⟨g96,r3⟩ [0,1,2,3,4,5,6,7]
     refine bK (nt:=109) (Z:=(OR (0+o.length) 38)×Nat) (fun⟨r,g96⟩=>sX [(10,dV g3),(11,bz (o.length)),(94,az r.b 0 (0+o.length) r.cap),(96,az (some g96) 0 1 1),(101,az ob (if oc=o.length then 0 else o.length*38) (o.length-o.length) (oc-o.length))]) (fun⟨r,g96⟩=>sY [⟨some g1,40,jS (az ob 0 o.length oc) (rl 0),10,true⟩,⟨ob,63,ah bg o,oN,true⟩,⟨some g3,63,bg (aZ (m,d2 x.f y.f)),38,true⟩,⟨r.b,63,ah bg o,r.n,true⟩,⟨some g96,63,bg (aZ (m,d2 x.f y.f)),38,true⟩]) 4 [8,13,14,15] (fun z=>?_) (fun hd3=>?_)
     ·obtain⟨r,g96⟩:=z;(try dsimp only);refine FK 8 ?_
      ·refine fK (s:=38) (len:=0+o.length) (n2:=1) 6 7 (bg (aZ (m,d2 x.f y.f))) (fun r2=>[_,_,_,_,_,_,⟨r2.b,63,ah bg o++bg (aZ (m,d2 x.f y.f)),r2.n,true⟩,_]) u32 Dx rfl rfl rfl rfl rfl rfl rfl rfl rfl rfl (by rw[bM.length,Nat.zero_add]) r.h r.hn (.inr ⟨_,rfl⟩) rfl rfl (bM.one (aZ (m,d2 x.f y.f))) (by omega) (fun _=>rfl) (fun r2=>?_);refine A1 ?_;exact Nw hd2 ⟨g96,r2⟩ [0,1,2,3,4,5,6,7]
     refine bK (nt:=109) (Z:=Nat×Nat) (fun⟨g89,g96⟩=>sX [(10,dV g3),(11,bz (o.length)),(89,az (some g89) 0 0 0),(93,az ob 0 o.length oc),(96,az (some g96) 0 1 1),(101,az ob (if oc=o.length then 0 else o.length*38) (o.length-o.length) (oc-o.length))]) (fun⟨g89,g96⟩=>sY [⟨some g1,40,jS (az ob 0 o.length oc) (rl 0),10,true⟩,⟨ob,63,ah bg o,oN,true⟩,⟨some g3,63,bg (aZ (m,d2 x.f y.f)),38,true⟩,⟨some g89,63,[],0,true⟩,⟨some g96,63,bg (aZ (m,d2 x.f y.f)),38,true⟩]) 5 [5,8,13,14,15] (fun z=>?_) (fun hd4=>?_)
     ·obtain⟨g89,g96⟩:=z;(try dsimp only);refine FK 5 ?_
      ·refine fK (s:=38) (len:=0) 6 4 (ah bg o) (fun r=>[_,_,_,_,_,_,⟨r.b,63,ah bg o,r.n,true⟩,_]) u32 Dx rfl rfl rfl rfl rfl rfl rfl rfl rfl rfl rfl (Nat.le_refl _) (Nat.le_refl _) hobs (List.take_of_length_le (by show(ah bg o).length<=_;rw[bM.length];exact Nat.le_refl _)) (bM.length o) (bM.ones _) (by omega) (fun _=>rfl) (fun r=>?_);refine A1 ?_;exact Nw hd3 ⟨r,g96⟩ [0,1,2,3,4,5,6,7]
     refine bK (nt:=109) (Z:=OR (0+o.length) 38) (fun r=>sX [(10,dV g3),(11,bz (o.length)),(94,az r.b 0 (0+o.length) r.cap),(95,Ic (aZ (m,d2 x.f y.f))),(101,az ob (if oc=o.length then 0 else o.length*38) (o.length-o.length) (oc-o.length))]) (fun r=>sY [⟨some g1,40,jS (az ob 0 o.length oc) (rl 0),10,true⟩,⟨ob,63,ah bg o,oN,true⟩,⟨some g3,63,bg (aZ (m,d2 x.f y.f)),38,true⟩,⟨r.b,63,ah bg o,r.n,true⟩]) 5 [7,8,13,14,15] (fun r=>?_) (fun hd5=>?_)
     ·(try dsimp only);refine FK 7 ?_
      ·refine(Bl 38 [(0,_)]) (oD) (fun g5=>?_);refine A1 ?_;exact Nw hd3 ⟨r,g5⟩ [0,1,2,3,4,5,6,7]
     refine bK (nt:=109) (Z:=Nat×(OR (0+o.length+1) 38)) (fun⟨g96,r2⟩=>sX [(10,dV g3),(11,bz (o.length)),(97,az r2.b 0 (0+o.length+1) r2.cap),(98,dV g1),(100,bz (o.length))]) (fun⟨g96,r2⟩=>sY [⟨some g1,40,jS (az ob 0 o.length oc) (rl 0),10,true⟩,⟨ob,63,ah bg o,oN,true⟩,⟨some g3,63,bg (aZ (m,d2 x.f y.f)),38,true⟩,⟨r2.b,63,ah bg o++bg (aZ (m,d2 x.f y.f)),r2.n,true⟩,⟨some g96,63,bg (aZ (m,d2 x.f y.f)),38,true⟩]) 5 [10,12,13,14,15] (fun z=>?_) (fun hd6=>?_)
     ·obtain⟨g96,r2⟩:=z;(try dsimp only);refine FK 10 ?_
      ·refine A2 ?_;refine Nt 12 ?_;refine iJ o.length u32 jJ rfl rfl rfl rfl (Nat.le_refl _) rfl rfl rfl ?_;refine A1 ?_;exact Nw hd2 ⟨g96,r2⟩ [0,1,2,3,4,5,6,7]
     refine bK (nt:=109) (Z:=Nat) (fun g96=>sX [(10,dV g3),(11,bz (o.length)),(93,az ob 0 o.length oc),(96,az (some g96) 0 1 1),(101,az ob (if oc=o.length then 0 else o.length*38) (o.length-o.length) (oc-o.length))]) (fun g96=>sY [⟨some g1,40,jS (az ob 0 o.length oc) (rl 0),10,true⟩,⟨ob,63,ah bg o,oN,true⟩,⟨some g3,63,bg (aZ (m,d2 x.f y.f)),38,true⟩,⟨some g96,63,bg (aZ (m,d2 x.f y.f)),38,true⟩]) 6 [0,5,8,13,14,15] (fun g96=>?_) (fun hd7=>?_)
     ·(try dsimp only);refine FK 0 ?_
      ·refine(Bl 0 []) (sZ) (fun g5=>?_);refine A1 ?_;exact Nw hd4 ⟨g5,g96⟩ [0,1,2,3,4,5,7,6]
     refine bK (nt:=109) (Z:=Nat) (fun g89=>sX [(10,dV g3),(11,bz (o.length)),(89,az (some g89) 0 0 0),(93,az ob 0 o.length oc),(95,Ic (aZ (m,d2 x.f y.f))),(101,az ob (if oc=o.length then 0 else o.length*38) (o.length-o.length) (oc-o.length))]) (fun g89=>sY [⟨some g1,40,jS (az ob 0 o.length oc) (rl 0),10,true⟩,⟨ob,63,ah bg o,oN,true⟩,⟨some g3,63,bg (aZ (m,d2 x.f y.f)),38,true⟩,⟨some g89,63,[],0,true⟩]) 6 [5,7,8,13,14,15] (fun g89=>?_) (fun hd8=>?_)
     ·(try dsimp only);refine cZ [5,7] (by kernel_rfl) rfl ⟨⟨_,rfl,?_⟩,⟨_,rfl,?_⟩,trivial⟩
      ·refine fK (s:=38) (len:=0) 6 4 (ah bg o) (fun r=>[_,_,_,_,_,_,⟨r.b,63,ah bg o,r.n,true⟩]) u32 Dx rfl rfl rfl rfl rfl rfl rfl rfl rfl rfl rfl (Nat.le_refl _) (Nat.le_refl _) hobs (List.take_of_length_le (by show(ah bg o).length<=_;rw[bM.length];exact Nat.le_refl _)) (bM.length o) (bM.ones _) (by omega) (fun _=>rfl) (fun r=>?_);refine A1 ?_;exact Nw hd5 r [0,1,2,3,4,5,6]
      ·refine(Bl 38 [(0,_)]) (oD) (fun g5=>?_);refine A1 ?_;exact Nw hd4 ⟨g89,g5⟩ [0,1,2,3,4,5,6,7]
     refine bK (nt:=109) (Z:=OR (0+o.length) 38) (fun r=>sX [(10,dV g3),(11,bz (o.length)),(94,az r.b 0 (0+o.length) r.cap),(101,az ob (if oc=o.length then 0 else o.length*38) (o.length-o.length) (oc-o.length))]) (fun r=>sY [⟨some g1,40,jS (az ob 0 o.length oc) (rl 0),10,true⟩,⟨ob,63,ah bg o,oN,true⟩,⟨some g3,63,bg (aZ (m,d2 x.f y.f)),38,true⟩,⟨r.b,63,ah bg o,r.n,true⟩]) 6 [6,7,8,13,14,15] (fun r=>?_) (fun hd9=>?_)
     ·(try dsimp only);refine FK 6 ?_
      ·refine X7 5 0 ?_;refine A1 ?_;exact Nw hd5 r [0,1,2,3,4,5,6]
     refine bK (nt:=109) (Z:=(OR (0+o.length) 38)×Nat) (fun⟨r,g96⟩=>sX [(10,dV g3),(11,bz (o.length)),(94,az r.b 0 (0+o.length) r.cap),(96,az (some g96) 0 1 1),(98,dV g1),(100,bz (o.length))]) (fun⟨r,g96⟩=>sY [⟨some g1,40,jS (az ob 0 o.length oc) (rl 0),10,true⟩,⟨ob,63,ah bg o,oN,true⟩,⟨some g3,63,bg (aZ (m,d2 x.f y.f)),38,true⟩,⟨r.b,63,ah bg o,r.n,true⟩,⟨some g96,63,bg (aZ (m,d2 x.f y.f)),38,true⟩]) 6 [8,10,12,13,14,15] (fun z=>?_) (fun hd10=>?_)
     ·obtain⟨r,g96⟩:=z;(try dsimp only);refine cZ [8,10] (by kernel_rfl) rfl ⟨⟨_,rfl,?_⟩,⟨_,rfl,?_⟩,trivial⟩
      ·refine fK (s:=38) (len:=0+o.length) (n2:=1) 6 7 (bg (aZ (m,d2 x.f y.f))) (fun r2=>[_,_,_,_,_,_,⟨r2.b,63,ah bg o++bg (aZ (m,d2 x.f y.f)),r2.n,true⟩,_]) u32 Dx rfl rfl rfl rfl rfl rfl rfl rfl rfl rfl (by rw[bM.length,Nat.zero_add]) r.h r.hn (.inr ⟨_,rfl⟩) rfl rfl (bM.one (aZ (m,d2 x.f y.f))) (by omega) (fun _=>rfl) (fun r2=>?_);refine A1 ?_;exact Nw hd6 ⟨g96,r2⟩ [0,1,2,3,4,5,6,7]
      ·refine A2 ?_;refine Nt 12 ?_;refine iJ o.length u32 jJ rfl rfl rfl rfl (Nat.le_refl _) rfl rfl rfl ?_;refine A1 ?_;exact Nw hd3 ⟨r,g96⟩ [0,1,2,3,4,5,6,7]
     refine bK (nt:=109) (Z:=Unit) (fun _=>sX [(10,dV g3),(11,bz (o.length)),(93,az ob 0 o.length oc),(95,Ic (aZ (m,d2 x.f y.f))),(101,az ob (if oc=o.length then 0 else o.length*38) (o.length-o.length) (oc-o.length))]) (fun _=>sY [⟨some g1,40,jS (az ob 0 o.length oc) (rl 0),10,true⟩,⟨ob,63,ah bg o,oN,true⟩,⟨some g3,63,bg (aZ (m,d2 x.f y.f)),38,true⟩]) 7 [0,5,7,8,13,14,15] (fun z=>?_) (fun hd11=>?_)
     ·(try dsimp only);refine cZ [0,7] (by kernel_rfl) rfl ⟨⟨_,rfl,?_⟩,⟨_,rfl,?_⟩,trivial⟩
      ·refine(Bl 0 []) (sZ) (fun g4=>?_);refine A1 ?_;exact Nw hd8 g4 [0,1,2,3,4,5,6]
      ·refine(Bl 38 [(0,_)]) (oD) (fun g4=>?_);refine A1 ?_;exact Nw hd7 g4 [0,1,2,3,4,5,6]
     refine bK (nt:=109) (Z:=Nat×Nat) (fun⟨g89,g96⟩=>sX [(10,dV g3),(11,bz (o.length)),(89,az (some g89) 0 0 0),(90,dV g1),(92,bz (o.length)),(96,az (some g96) 0 1 1),(101,az ob (if oc=o.length then 0 else o.length*38) (o.length-o.length) (oc-o.length))]) (fun⟨g89,g96⟩=>sY [⟨some g1,40,jS (az ob 0 o.length oc) (rl 0),10,true⟩,⟨ob,63,ah bg o,oN,true⟩,⟨some g3,63,bg (aZ (m,d2 x.f y.f)),38,true⟩,⟨some g89,63,[],0,true⟩,⟨some g96,63,bg (aZ (m,d2 x.f y.f)),38,true⟩]) 7 [2,4,5,8,13,14,15] (fun z=>?_) (fun hd12=>?_)
     ·obtain⟨g89,g96⟩:=z;(try dsimp only);refine FK 2 ?_
      ·refine A2 ?_;refine Nt 4 ?_;refine iI o.length u32 jJ rfl rfl rfl rfl (by omega) (by omega) rfl ?_;refine A1 ?_;exact Nw hd4 ⟨g89,g96⟩ [0,1,2,3,4,5,6,7]
     refine bK (nt:=109) (Z:=Nat) (fun g89=>sX [(10,dV g3),(11,bz (o.length)),(89,az (some g89) 0 0 0),(93,az ob 0 o.length oc),(101,az ob (if oc=o.length then 0 else o.length*38) (o.length-o.length) (oc-o.length))]) (fun g89=>sY [⟨some g1,40,jS (az ob 0 o.length oc) (rl 0),10,true⟩,⟨ob,63,ah bg o,oN,true⟩,⟨some g3,63,bg (aZ (m,d2 x.f y.f)),38,true⟩,⟨some g89,63,[],0,true⟩]) 7 [5,6,7,8,13,14,15] (fun g89=>?_) (fun hd13=>?_)
     ·(try dsimp only);refine cZ [5,6] (by kernel_rfl) rfl ⟨⟨_,rfl,?_⟩,⟨_,rfl,?_⟩,trivial⟩
      ·refine fK (s:=38) (len:=0) 6 4 (ah bg o) (fun r=>[_,_,_,_,_,_,⟨r.b,63,ah bg o,r.n,true⟩]) u32 Dx rfl rfl rfl rfl rfl rfl rfl rfl rfl rfl rfl (Nat.le_refl _) (Nat.le_refl _) hobs (List.take_of_length_le (by show(ah bg o).length<=_;rw[bM.length];exact Nat.le_refl _)) (bM.length o) (bM.ones _) (by omega) (fun _=>rfl) (fun r=>?_);refine A1 ?_;exact Nw hd9 r [0,1,2,3,4,5,6]
      ·refine X7 5 0 ?_;refine A1 ?_;exact Nw hd8 g89 [0,1,2,3,4,5,6]
     refine bK (nt:=109) (Z:=Nat×Nat) (fun⟨g89,g96⟩=>sX [(10,dV g3),(11,bz (o.length)),(89,az (some g89) 0 0 0),(93,az ob 0 o.length oc),(96,az (some g96) 0 1 1),(98,dV g1),(100,bz (o.length))]) (fun⟨g89,g96⟩=>sY [⟨some g1,40,jS (az ob 0 o.length oc) (rl 0),10,true⟩,⟨ob,63,ah bg o,oN,true⟩,⟨some g3,63,bg (aZ (m,d2 x.f y.f)),38,true⟩,⟨some g89,63,[],0,true⟩,⟨some g96,63,bg (aZ (m,d2 x.f y.f)),38,true⟩]) 7 [5,8,10,12,13,14,15] (fun z=>?_) (fun hd14=>?_)
     ·obtain⟨g89,g96⟩:=z;(try dsimp only);refine cZ [5,10] (by kernel_rfl) rfl ⟨⟨_,rfl,?_⟩,⟨_,rfl,?_⟩,trivial⟩
      ·refine fK (s:=38) (len:=0) 6 4 (ah bg o) (fun r=>[_,_,_,_,_,_,⟨r.b,63,ah bg o,r.n,true⟩,_]) u32 Dx rfl rfl rfl rfl rfl rfl rfl rfl rfl rfl rfl (Nat.le_refl _) (Nat.le_refl _) hobs (List.take_of_length_le (by show(ah bg o).length<=_;rw[bM.length];exact Nat.le_refl _)) (bM.length o) (bM.ones _) (by omega) (fun _=>rfl) (fun r=>?_);refine A1 ?_;exact Nw hd10 ⟨r,g96⟩ [0,1,2,3,4,5,6,7]
      ·refine A2 ?_;refine Nt 12 ?_;refine iJ o.length u32 jJ rfl rfl rfl rfl (Nat.le_refl _) rfl rfl rfl ?_;refine A1 ?_;exact Nw hd4 ⟨g89,g96⟩ [0,1,2,3,4,5,6,7]
     refine bK (nt:=109) (Z:=OR (0+o.length) 38) (fun r=>sX [(10,dV g3),(11,bz (o.length)),(94,az r.b 0 (0+o.length) r.cap),(95,Ic (aZ (m,d2 x.f y.f))),(98,dV g1),(100,bz (o.length))]) (fun r=>sY [⟨some g1,40,jS (az ob 0 o.length oc) (rl 0),10,true⟩,⟨ob,63,ah bg o,oN,true⟩,⟨some g3,63,bg (aZ (m,d2 x.f y.f)),38,true⟩,⟨r.b,63,ah bg o,r.n,true⟩]) 7 [7,8,10,12,13,14,15] (fun r=>?_) (fun hd15=>?_)
     ·(try dsimp only);refine cZ [7,10] (by kernel_rfl) rfl ⟨⟨_,rfl,?_⟩,⟨_,rfl,?_⟩,trivial⟩
      ·refine(Bl 38 [(0,_)]) (oD) (fun g5=>?_);refine A1 ?_;exact Nw hd10 ⟨r,g5⟩ [0,1,2,3,4,5,6,7]
      ·refine A2 ?_;refine Nt 12 ?_;refine iJ o.length u32 jJ rfl rfl rfl rfl (Nat.le_refl _) rfl rfl rfl ?_;refine A1 ?_;exact Nw hd5 r [0,1,2,3,4,5,6]
     refine bK (nt:=109) (Z:=Nat) (fun g96=>sX [(10,dV g3),(11,bz (o.length)),(90,dV g1),(92,bz (o.length)),(96,az (some g96) 0 1 1),(101,az ob (if oc=o.length then 0 else o.length*38) (o.length-o.length) (oc-o.length))]) (fun g96=>sY [⟨some g1,40,jS (az ob 0 o.length oc) (rl 0),10,true⟩,⟨ob,63,ah bg o,oN,true⟩,⟨some g3,63,bg (aZ (m,d2 x.f y.f)),38,true⟩,⟨some g96,63,bg (aZ (m,d2 x.f y.f)),38,true⟩]) 8 [0,2,4,5,8,13,14,15] (fun g96=>?_) (fun hd16=>?_)
     ·(try dsimp only);refine cZ [0,2] (by kernel_rfl) rfl ⟨⟨_,rfl,?_⟩,⟨_,rfl,?_⟩,trivial⟩
      ·refine(Bl 0 []) (sZ) (fun g5=>?_);refine A1 ?_;exact Nw hd12 ⟨g5,g96⟩ [0,1,2,3,4,5,7,6]
      ·refine A2 ?_;refine Nt 4 ?_;refine iI o.length u32 jJ rfl rfl rfl rfl (by omega) (by omega) rfl ?_;refine A1 ?_;exact Nw hd7 g96 [0,1,2,3,4,5,6]
     refine bK (nt:=109) (Z:=Unit) (fun _=>sX [(10,dV g3),(11,bz (o.length)),(93,az ob 0 o.length oc),(101,az ob (if oc=o.length then 0 else o.length*38) (o.length-o.length) (oc-o.length))]) (fun _=>sY [⟨some g1,40,jS (az ob 0 o.length oc) (rl 0),10,true⟩,⟨ob,63,ah bg o,oN,true⟩,⟨some g3,63,bg (aZ (m,d2 x.f y.f)),38,true⟩]) 8 [0,5,6,7,8,13,14,15] (fun z=>?_) (fun hd17=>?_)
     ·(try dsimp only);refine cZ [0,6] (by kernel_rfl) rfl ⟨⟨_,rfl,?_⟩,⟨_,rfl,?_⟩,trivial⟩
      ·refine(Bl 0 []) (sZ) (fun g4=>?_);refine A1 ?_;exact Nw hd13 g4 [0,1,2,3,4,5,6]
      ·refine X7 5 0 ?_;refine A1 ?_;exact Nw hd11 () [0,1,2,3,4,5]
     refine bK (nt:=109) (Z:=Nat) (fun g96=>sX [(10,dV g3),(11,bz (o.length)),(93,az ob 0 o.length oc),(96,az (some g96) 0 1 1),(98,dV g1),(100,bz (o.length))]) (fun g96=>sY [⟨some g1,40,jS (az ob 0 o.length oc) (rl 0),10,true⟩,⟨ob,63,ah bg o,oN,true⟩,⟨some g3,63,bg (aZ (m,d2 x.f y.f)),38,true⟩,⟨some g96,63,bg (aZ (m,d2 x.f y.f)),38,true⟩]) 8 [0,5,8,10,12,13,14,15] (fun g96=>?_) (fun hd18=>?_)
     ·(try dsimp only);refine cZ [0,10] (by kernel_rfl) rfl ⟨⟨_,rfl,?_⟩,⟨_,rfl,?_⟩,trivial⟩
      ·refine(Bl 0 []) (sZ) (fun g5=>?_);refine A1 ?_;exact Nw hd14 ⟨g5,g96⟩ [0,1,2,3,4,5,7,6]
      ·refine A2 ?_;refine Nt 12 ?_;refine iJ o.length u32 jJ rfl rfl rfl rfl (Nat.le_refl _) rfl rfl rfl ?_;refine A1 ?_;exact Nw hd7 g96 [0,1,2,3,4,5,6]
     refine bK (nt:=109) (Z:=Nat) (fun g89=>sX [(10,dV g3),(11,bz (o.length)),(89,az (some g89) 0 0 0),(90,dV g1),(92,bz (o.length)),(95,Ic (aZ (m,d2 x.f y.f))),(101,az ob (if oc=o.length then 0 else o.length*38) (o.length-o.length) (oc-o.length))]) (fun g89=>sY [⟨some g1,40,jS (az ob 0 o.length oc) (rl 0),10,true⟩,⟨ob,63,ah bg o,oN,true⟩,⟨some g3,63,bg (aZ (m,d2 x.f y.f)),38,true⟩,⟨some g89,63,[],0,true⟩]) 8 [2,4,5,7,8,13,14,15] (fun g89=>?_) (fun hd19=>?_)
     ·(try dsimp only);refine cZ [2,7] (by kernel_rfl) rfl ⟨⟨_,rfl,?_⟩,⟨_,rfl,?_⟩,trivial⟩
      ·refine A2 ?_;refine Nt 4 ?_;refine iI o.length u32 jJ rfl rfl rfl rfl (by omega) (by omega) rfl ?_;refine A1 ?_;exact Nw hd8 g89 [0,1,2,3,4,5,6]
      ·refine(Bl 38 [(0,_)]) (oD) (fun g5=>?_);refine A1 ?_;exact Nw hd12 ⟨g89,g5⟩ [0,1,2,3,4,5,6,7]
     refine bK (nt:=109) (Z:=Nat) (fun g89=>sX [(10,dV g3),(11,bz (o.length)),(89,az (some g89) 0 0 0),(93,az ob 0 o.length oc),(95,Ic (aZ (m,d2 x.f y.f))),(98,dV g1),(100,bz (o.length))]) (fun g89=>sY [⟨some g1,40,jS (az ob 0 o.length oc) (rl 0),10,true⟩,⟨ob,63,ah bg o,oN,true⟩,⟨some g3,63,bg (aZ (m,d2 x.f y.f)),38,true⟩,⟨some g89,63,[],0,true⟩]) 8 [5,7,8,10,12,13,14,15] (fun g89=>?_) (fun hd20=>?_)
     ·(try dsimp only);refine cZ [5,7,10] (by kernel_rfl) rfl ⟨⟨_,rfl,?_⟩,⟨_,rfl,?_⟩,⟨_,rfl,?_⟩,trivial⟩
      ·refine fK (s:=38) (len:=0) 6 4 (ah bg o) (fun r=>[_,_,_,_,_,_,⟨r.b,63,ah bg o,r.n,true⟩]) u32 Dx rfl rfl rfl rfl rfl rfl rfl rfl rfl rfl rfl (Nat.le_refl _) (Nat.le_refl _) hobs (List.take_of_length_le (by show(ah bg o).length<=_;rw[bM.length];exact Nat.le_refl _)) (bM.length o) (bM.ones _) (by omega) (fun _=>rfl) (fun r=>?_);refine A1 ?_;exact Nw hd15 r [0,1,2,3,4,5,6]
      ·refine(Bl 38 [(0,_)]) (oD) (fun g5=>?_);refine A1 ?_;exact Nw hd14 ⟨g89,g5⟩ [0,1,2,3,4,5,6,7]
      ·refine A2 ?_;refine Nt 12 ?_;refine iJ o.length u32 jJ rfl rfl rfl rfl (Nat.le_refl _) rfl rfl rfl ?_;refine A1 ?_;exact Nw hd8 g89 [0,1,2,3,4,5,6]
     refine bK (nt:=109) (Z:=OR (0+o.length) 38) (fun r=>sX [(10,dV g3),(11,bz (o.length)),(94,az r.b 0 (0+o.length) r.cap),(98,dV g1),(100,bz (o.length))]) (fun r=>sY [⟨some g1,40,jS (az ob 0 o.length oc) (rl 0),10,true⟩,⟨ob,63,ah bg o,oN,true⟩,⟨some g3,63,bg (aZ (m,d2 x.f y.f)),38,true⟩,⟨r.b,63,ah bg o,r.n,true⟩]) 8 [6,7,8,10,12,13,14,15] (fun r=>?_) (fun hd21=>?_)
     ·(try dsimp only);refine cZ [6,10] (by kernel_rfl) rfl ⟨⟨_,rfl,?_⟩,⟨_,rfl,?_⟩,trivial⟩
      ·refine X7 5 0 ?_;refine A1 ?_;exact Nw hd15 r [0,1,2,3,4,5,6]
      ·refine A2 ?_;refine Nt 12 ?_;refine iJ o.length u32 jJ rfl rfl rfl rfl (Nat.le_refl _) rfl rfl rfl ?_;refine A1 ?_;exact Nw hd9 r [0,1,2,3,4,5,6]
     refine bK (nt:=109) (Z:=Unit) (fun _=>sX [(10,dV g3),(11,bz (o.length)),(90,dV g1),(92,bz (o.length)),(95,Ic (aZ (m,d2 x.f y.f))),(101,az ob (if oc=o.length then 0 else o.length*38) (o.length-o.length) (oc-o.length))]) (fun _=>sY [⟨some g1,40,jS (az ob 0 o.length oc) (rl 0),10,true⟩,⟨ob,63,ah bg o,oN,true⟩,⟨some g3,63,bg (aZ (m,d2 x.f y.f)),38,true⟩]) 9 [0,2,4,5,7,8,13,14,15] (fun z=>?_) (fun hd22=>?_)
     ·(try dsimp only);refine cZ [0,2,7] (by kernel_rfl) rfl ⟨⟨_,rfl,?_⟩,⟨_,rfl,?_⟩,⟨_,rfl,?_⟩,trivial⟩
      ·refine(Bl 0 []) (sZ) (fun g4=>?_);refine A1 ?_;exact Nw hd19 g4 [0,1,2,3,4,5,6]
      ·refine A2 ?_;refine Nt 4 ?_;refine iI o.length u32 jJ rfl rfl rfl rfl (by omega) (by omega) rfl ?_;refine A1 ?_;exact Nw hd11 () [0,1,2,3,4,5]
      ·refine(Bl 38 [(0,_)]) (oD) (fun g4=>?_);refine A1 ?_;exact Nw hd16 g4 [0,1,2,3,4,5,6]
     refine bK (nt:=109) (Z:=Unit) (fun _=>sX [(10,dV g3),(11,bz (o.length)),(93,az ob 0 o.length oc),(95,Ic (aZ (m,d2 x.f y.f))),(98,dV g1),(100,bz (o.length))]) (fun _=>sY [⟨some g1,40,jS (az ob 0 o.length oc) (rl 0),10,true⟩,⟨ob,63,ah bg o,oN,true⟩,⟨some g3,63,bg (aZ (m,d2 x.f y.f)),38,true⟩]) 9 [0,5,7,8,10,12,13,14,15] (fun z=>?_) (fun hd23=>?_)
     ·(try dsimp only);refine cZ [0,7,10] (by kernel_rfl) rfl ⟨⟨_,rfl,?_⟩,⟨_,rfl,?_⟩,⟨_,rfl,?_⟩,trivial⟩
      ·refine(Bl 0 []) (sZ) (fun g4=>?_);refine A1 ?_;exact Nw hd20 g4 [0,1,2,3,4,5,6]
      ·refine(Bl 38 [(0,_)]) (oD) (fun g4=>?_);refine A1 ?_;exact Nw hd18 g4 [0,1,2,3,4,5,6]
      ·refine A2 ?_;refine Nt 12 ?_;refine iJ o.length u32 jJ rfl rfl rfl rfl (Nat.le_refl _) rfl rfl rfl ?_;refine A1 ?_;exact Nw hd11 () [0,1,2,3,4,5]
     refine bK (nt:=109) (Z:=Nat) (fun g89=>sX [(10,dV g3),(11,bz (o.length)),(89,az (some g89) 0 0 0),(90,dV g1),(92,bz (o.length)),(101,az ob (if oc=o.length then 0 else o.length*38) (o.length-o.length) (oc-o.length))]) (fun g89=>sY [⟨some g1,40,jS (az ob 0 o.length oc) (rl 0),10,true⟩,⟨ob,63,ah bg o,oN,true⟩,⟨some g3,63,bg (aZ (m,d2 x.f y.f)),38,true⟩,⟨some g89,63,[],0,true⟩]) 9 [2,4,5,6,7,8,13,14,15] (fun g89=>?_) (fun hd24=>?_)
     ·(try dsimp only);refine cZ [2,6] (by kernel_rfl) rfl ⟨⟨_,rfl,?_⟩,⟨_,rfl,?_⟩,trivial⟩
      ·refine A2 ?_;refine Nt 4 ?_;refine iI o.length u32 jJ rfl rfl rfl rfl (by omega) (by omega) rfl ?_;refine A1 ?_;exact Nw hd13 g89 [0,1,2,3,4,5,6]
      ·refine X7 5 0 ?_;refine A1 ?_;exact Nw hd19 g89 [0,1,2,3,4,5,6]
     refine bK (nt:=109) (Z:=Nat×Nat) (fun⟨g89,g96⟩=>sX [(10,dV g3),(11,bz (o.length)),(89,az (some g89) 0 0 0),(90,dV g1),(92,bz (o.length)),(96,az (some g96) 0 1 1),(98,dV g1),(100,bz (o.length))]) (fun⟨g89,g96⟩=>sY [⟨some g1,40,jS (az ob 0 o.length oc) (rl 0),10,true⟩,⟨ob,63,ah bg o,oN,true⟩,⟨some g3,63,bg (aZ (m,d2 x.f y.f)),38,true⟩,⟨some g89,63,[],0,true⟩,⟨some g96,63,bg (aZ (m,d2 x.f y.f)),38,true⟩]) 9 [2,4,5,8,10,12,13,14,15] (fun z=>?_) (fun hd25=>?_)
     ·obtain⟨g89,g96⟩:=z;(try dsimp only);refine cZ [2,10] (by kernel_rfl) rfl ⟨⟨_,rfl,?_⟩,⟨_,rfl,?_⟩,trivial⟩
      ·refine A2 ?_;refine Nt 4 ?_;refine iI o.length u32 jJ rfl rfl rfl rfl (by omega) (by omega) rfl ?_;refine A1 ?_;exact Nw hd14 ⟨g89,g96⟩ [0,1,2,3,4,5,6,7]
      ·refine A2 ?_;refine Nt 12 ?_;refine iJ o.length u32 jJ rfl rfl rfl rfl (Nat.le_refl _) rfl rfl rfl ?_;refine A1 ?_;exact Nw hd12 ⟨g89,g96⟩ [0,1,2,3,4,5,6,7]
     refine bK (nt:=109) (Z:=Nat) (fun g89=>sX [(10,dV g3),(11,bz (o.length)),(89,az (some g89) 0 0 0),(93,az ob 0 o.length oc),(98,dV g1),(100,bz (o.length))]) (fun g89=>sY [⟨some g1,40,jS (az ob 0 o.length oc) (rl 0),10,true⟩,⟨ob,63,ah bg o,oN,true⟩,⟨some g3,63,bg (aZ (m,d2 x.f y.f)),38,true⟩,⟨some g89,63,[],0,true⟩]) 9 [5,6,7,8,10,12,13,14,15] (fun g89=>?_) (fun hd26=>?_)
     ·(try dsimp only);refine cZ [5,6,10] (by kernel_rfl) rfl ⟨⟨_,rfl,?_⟩,⟨_,rfl,?_⟩,⟨_,rfl,?_⟩,trivial⟩
      ·refine fK (s:=38) (len:=0) 6 4 (ah bg o) (fun r=>[_,_,_,_,_,_,⟨r.b,63,ah bg o,r.n,true⟩]) u32 Dx rfl rfl rfl rfl rfl rfl rfl rfl rfl rfl rfl (Nat.le_refl _) (Nat.le_refl _) hobs (List.take_of_length_le (by show(ah bg o).length<=_;rw[bM.length];exact Nat.le_refl _)) (bM.length o) (bM.ones _) (by omega) (fun _=>rfl) (fun r=>?_);refine A1 ?_;exact Nw hd21 r [0,1,2,3,4,5,6]
      ·refine X7 5 0 ?_;refine A1 ?_;exact Nw hd20 g89 [0,1,2,3,4,5,6]
      ·refine A2 ?_;refine Nt 12 ?_;refine iJ o.length u32 jJ rfl rfl rfl rfl (Nat.le_refl _) rfl rfl rfl ?_;refine A1 ?_;exact Nw hd13 g89 [0,1,2,3,4,5,6]
     refine bK (nt:=109) (Z:=Unit) (fun _=>sX [(10,dV g3),(11,bz (o.length)),(90,dV g1),(92,bz (o.length)),(101,az ob (if oc=o.length then 0 else o.length*38) (o.length-o.length) (oc-o.length))]) (fun _=>sY [⟨some g1,40,jS (az ob 0 o.length oc) (rl 0),10,true⟩,⟨ob,63,ah bg o,oN,true⟩,⟨some g3,63,bg (aZ (m,d2 x.f y.f)),38,true⟩]) 10 [0,2,4,5,6,7,8,13,14,15] (fun z=>?_) (fun hd27=>?_)
     ·(try dsimp only);refine cZ [0,2,6] (by kernel_rfl) rfl ⟨⟨_,rfl,?_⟩,⟨_,rfl,?_⟩,⟨_,rfl,?_⟩,trivial⟩
      ·refine(Bl 0 []) (sZ) (fun g4=>?_);refine A1 ?_;exact Nw hd24 g4 [0,1,2,3,4,5,6]
      ·refine A2 ?_;refine Nt 4 ?_;refine iI o.length u32 jJ rfl rfl rfl rfl (by omega) (by omega) rfl ?_;refine A1 ?_;exact Nw hd17 () [0,1,2,3,4,5]
      ·refine X7 5 0 ?_;refine A1 ?_;exact Nw hd22 () [0,1,2,3,4,5]
     refine bK (nt:=109) (Z:=Nat) (fun g96=>sX [(10,dV g3),(11,bz (o.length)),(90,dV g1),(92,bz (o.length)),(96,az (some g96) 0 1 1),(98,dV g1),(100,bz (o.length))]) (fun g96=>sY [⟨some g1,40,jS (az ob 0 o.length oc) (rl 0),10,true⟩,⟨ob,63,ah bg o,oN,true⟩,⟨some g3,63,bg (aZ (m,d2 x.f y.f)),38,true⟩,⟨some g96,63,bg (aZ (m,d2 x.f y.f)),38,true⟩]) 10 [0,2,4,5,8,10,12,13,14,15] (fun g96=>?_) (fun hd28=>?_)
     ·(try dsimp only);refine cZ [0,2,10] (by kernel_rfl) rfl ⟨⟨_,rfl,?_⟩,⟨_,rfl,?_⟩,⟨_,rfl,?_⟩,trivial⟩
      ·refine(Bl 0 []) (sZ) (fun g5=>?_);refine A1 ?_;exact Nw hd25 ⟨g5,g96⟩ [0,1,2,3,4,5,7,6]
      ·refine A2 ?_;refine Nt 4 ?_;refine iI o.length u32 jJ rfl rfl rfl rfl (by omega) (by omega) rfl ?_;refine A1 ?_;exact Nw hd18 g96 [0,1,2,3,4,5,6]
      ·refine A2 ?_;refine Nt 12 ?_;refine iJ o.length u32 jJ rfl rfl rfl rfl (Nat.le_refl _) rfl rfl rfl ?_;refine A1 ?_;exact Nw hd16 g96 [0,1,2,3,4,5,6]
     refine bK (nt:=109) (Z:=Unit) (fun _=>sX [(10,dV g3),(11,bz (o.length)),(93,az ob 0 o.length oc),(98,dV g1),(100,bz (o.length))]) (fun _=>sY [⟨some g1,40,jS (az ob 0 o.length oc) (rl 0),10,true⟩,⟨ob,63,ah bg o,oN,true⟩,⟨some g3,63,bg (aZ (m,d2 x.f y.f)),38,true⟩]) 10 [0,5,6,7,8,10,12,13,14,15] (fun z=>?_) (fun hd29=>?_)
     ·(try dsimp only);refine cZ [0,6,10] (by kernel_rfl) rfl ⟨⟨_,rfl,?_⟩,⟨_,rfl,?_⟩,⟨_,rfl,?_⟩,trivial⟩
      ·refine(Bl 0 []) (sZ) (fun g4=>?_);refine A1 ?_;exact Nw hd26 g4 [0,1,2,3,4,5,6]
      ·refine X7 5 0 ?_;refine A1 ?_;exact Nw hd23 () [0,1,2,3,4,5]
      ·refine A2 ?_;refine Nt 12 ?_;refine iJ o.length u32 jJ rfl rfl rfl rfl (Nat.le_refl _) rfl rfl rfl ?_;refine A1 ?_;exact Nw hd17 () [0,1,2,3,4,5]
     refine bK (nt:=109) (Z:=Nat) (fun g89=>sX [(10,dV g3),(11,bz (o.length)),(89,az (some g89) 0 0 0),(90,dV g1),(92,bz (o.length)),(95,Ic (aZ (m,d2 x.f y.f))),(98,dV g1),(100,bz (o.length))]) (fun g89=>sY [⟨some g1,40,jS (az ob 0 o.length oc) (rl 0),10,true⟩,⟨ob,63,ah bg o,oN,true⟩,⟨some g3,63,bg (aZ (m,d2 x.f y.f)),38,true⟩,⟨some g89,63,[],0,true⟩]) 10 [2,4,5,7,8,10,12,13,14,15] (fun g89=>?_) (fun hd30=>?_)
     ·(try dsimp only);refine cZ [2,7,10] (by kernel_rfl) rfl ⟨⟨_,rfl,?_⟩,⟨_,rfl,?_⟩,⟨_,rfl,?_⟩,trivial⟩
      ·refine A2 ?_;refine Nt 4 ?_;refine iI o.length u32 jJ rfl rfl rfl rfl (by omega) (by omega) rfl ?_;refine A1 ?_;exact Nw hd20 g89 [0,1,2,3,4,5,6]
      ·refine(Bl 38 [(0,_)]) (oD) (fun g5=>?_);refine A1 ?_;exact Nw hd25 ⟨g89,g5⟩ [0,1,2,3,4,5,6,7]
      ·refine A2 ?_;refine Nt 12 ?_;refine iJ o.length u32 jJ rfl rfl rfl rfl (Nat.le_refl _) rfl rfl rfl ?_;refine A1 ?_;exact Nw hd19 g89 [0,1,2,3,4,5,6]
     refine bK (nt:=109) (Z:=Unit) (fun _=>sX [(10,dV g3),(11,bz (o.length)),(90,dV g1),(92,bz (o.length)),(95,Ic (aZ (m,d2 x.f y.f))),(98,dV g1),(100,bz (o.length))]) (fun _=>sY [⟨some g1,40,jS (az ob 0 o.length oc) (rl 0),10,true⟩,⟨ob,63,ah bg o,oN,true⟩,⟨some g3,63,bg (aZ (m,d2 x.f y.f)),38,true⟩]) 11 [0,2,4,5,7,8,10,12,13,14,15] (fun z=>?_) (fun hd31=>?_)
     ·(try dsimp only);refine cZ [0,2,7,10] (by kernel_rfl) rfl ⟨⟨_,rfl,?_⟩,⟨_,rfl,?_⟩,⟨_,rfl,?_⟩,⟨_,rfl,?_⟩,trivial⟩
      ·refine(Bl 0 []) (sZ) (fun g4=>?_);refine A1 ?_;exact Nw hd30 g4 [0,1,2,3,4,5,6]
      ·refine A2 ?_;refine Nt 4 ?_;refine iI o.length u32 jJ rfl rfl rfl rfl (by omega) (by omega) rfl ?_;refine A1 ?_;exact Nw hd23 () [0,1,2,3,4,5]
      ·refine(Bl 38 [(0,_)]) (oD) (fun g4=>?_);refine A1 ?_;exact Nw hd28 g4 [0,1,2,3,4,5,6]
      ·refine A2 ?_;refine Nt 12 ?_;refine iJ o.length u32 jJ rfl rfl rfl rfl (Nat.le_refl _) rfl rfl rfl ?_;refine A1 ?_;exact Nw hd22 () [0,1,2,3,4,5]
     refine bK (nt:=109) (Z:=Nat) (fun g89=>sX [(10,dV g3),(11,bz (o.length)),(89,az (some g89) 0 0 0),(90,dV g1),(92,bz (o.length)),(98,dV g1),(100,bz (o.length))]) (fun g89=>sY [⟨some g1,40,jS (az ob 0 o.length oc) (rl 0),10,true⟩,⟨ob,63,ah bg o,oN,true⟩,⟨some g3,63,bg (aZ (m,d2 x.f y.f)),38,true⟩,⟨some g89,63,[],0,true⟩]) 11 [2,4,5,6,7,8,10,12,13,14,15] (fun g89=>?_) (fun hd32=>?_)
     ·(try dsimp only);refine cZ [2,6,10] (by kernel_rfl) rfl ⟨⟨_,rfl,?_⟩,⟨_,rfl,?_⟩,⟨_,rfl,?_⟩,trivial⟩
      ·refine A2 ?_;refine Nt 4 ?_;refine iI o.length u32 jJ rfl rfl rfl rfl (by omega) (by omega) rfl ?_;refine A1 ?_;exact Nw hd26 g89 [0,1,2,3,4,5,6]
      ·refine X7 5 0 ?_;refine A1 ?_;exact Nw hd30 g89 [0,1,2,3,4,5,6]
      ·refine A2 ?_;refine Nt 12 ?_;refine iJ o.length u32 jJ rfl rfl rfl rfl (Nat.le_refl _) rfl rfl rfl ?_;refine A1 ?_;exact Nw hd24 g89 [0,1,2,3,4,5,6]
     refine Nt 1 ?_;refine Fg 0 0 ?_;refine A1 ?_;refine Nt 3 ?_;refine A2 ?_;refine Nt 9 ?_;refine Fg 0 0 ?_;refine A1 ?_;refine Nt 11 ?_;refine A2 ?_;refine cZ [0,2,6,10] (by kernel_rfl) rfl ⟨⟨_,rfl,?_⟩,⟨_,rfl,?_⟩,⟨_,rfl,?_⟩,⟨_,rfl,?_⟩,trivial⟩
     ·refine(Bl 0 []) (sZ) (fun g4=>?_);refine A1 ?_;exact Nw hd32 g4 [0,1,2,3,4,5,6]
     ·refine A2 ?_;refine Nt 4 ?_;refine iI o.length u32 jJ rfl rfl rfl rfl (by omega) (by omega) rfl ?_;refine A1 ?_;exact Nw hd29 () [0,1,2,3,4,5]
     ·refine X7 5 0 ?_;refine A1 ?_;exact Nw hd31 () [0,1,2,3,4,5]
     ·refine A2 ?_;refine Nt 12 ?_;refine iJ o.length u32 jJ rfl rfl rfl rfl (Nat.le_refl _) rfl rfl rfl ?_;refine A1 ?_;exact Nw hd27 () [0,1,2,3,4,5]
    rintro⟨g96,r3⟩;show At _ ⟨109,[(0,az (some ga) 0 a.length ac),(1,az (some gb) 0 b.length bc),(4,dV g0),(5,dV g1),(6,bz i),(7,bz j)],[⟨some ga,100,ah aQ a,aN,false⟩,⟨some gb,100,ah aQ b,bN,false⟩,⟨some g0,40,Qe,10,true⟩,⟨some g1,40,jS (az r3.b 0 (0+o.length+1+(o.length-o.length)) r3.cap) (rl 0),10,true⟩,⟨ob,63,ah bg o,oN,true⟩,⟨some g3,63,bg (aZ (m,d2 x.f y.f)),38,true⟩,⟨r3.b,63,(ah bg o++bg (aZ (m,d2 x.f y.f)))++ah bg (o.drop o.length),r3.n,true⟩,⟨some g96,63,bg (aZ (m,d2 x.f y.f)),38,true⟩]⟩ _;refine A4 ?_;refine Ar (((j+1:Nat):Int)) ?_;refine A3 ?_;exact Nl ⟨⟨j+1,o++[aZ (m,d2 x.f y.f)],r3.b,r3.n,r3.cap⟩,hjt,by show o++_=(pK a b i++AP x b (j+1)).map aZ;rw[qbC hy,hz,hI];simp,by have:=r3.h;simp at this ⊢;omega,r3.hn⟩ (hμ:=(by show b.length-(j+1)<b.length-j;omega)) (hL:=(au [some 0,some 1,some 2,some 3,some 6] ⟨pR,pR,pR,⟨_,rfl,aI (by rw[show(o++[aZ (m,d2 x.f y.f)]).length=(0+o.length+1+(o.length-o.length)) from by simp])⟩,⟨_,rfl,aI (by rw[bH,List.drop_length];simp[ah])⟩,trivial⟩ rfl rfl))
  ·have hge:j=b.length:=(by have:=of_decide_eq_false hb3;omega);subst hge;refine A8 ?_;refine Ar (((i+1:Nat):Int)) ?_;refine A3 ?_;exact Nl ⟨⟨i+1,o,ob,oN,oc⟩,hlt,by show o=(pK a b (i+1)).map aZ;rw[qe2 hx];exact hI,h3,h4⟩ (hμ:=(by show a.length-(i+1)<a.length-i;omega)) (hL:=eG.auto)
 ·have hge:i=a.length:=(by have:=of_decide_eq_false hb1;omega);subst hge;obtain rfl:o=(ay a b).map aZ:=by rw[hI,YL H]
  refine A9 ?_;refine(Sd [4]) (Qc ((ay a b).map aZ) ob oN oc h3 (by rw[List.length_map];omega) (Oq hsa hsb)) ?_;refine A1 ?_;refine Ss 3 ?_;refine A4 ?_;refine LG 3 0 ?_;refine Ss 2 ?_;refine A3 ?_;refine qiZ 2 fun w hL=>⟨⟨ob,oN,oc,h3⟩,?_,hL.pk [some 4]⟩;exact rfl
def GG(a:List Iv)(ab:Option Nat)(aN ac:Nat)(hac:a.length<=ac)(han:a.length<=2000000)(b:List Iv)(bb:Option Nat)(bN bc:Nat)(hbc:b.length<=bc:=by omega)(hbn:b.length<=2000000:=by omega):dh Tryz.prog 103 [⟨ab,61,ah bP a,aN,false⟩,⟨bb,61,ah bP b,bN,false⟩] [az ab 0 a.length ac,az bb 0 b.length bc] Unit (fun _=> .bool (decide (a=b))) (fun _=>[]):=by
 refine V3 26 Tryz.func103 fun w hL0=>?_;refine zT ?_;refine Cd ?_ ?_<;>intro hb0
 ·have hle:a.length≠b.length:=by have e:=hb0;simp at e;omega
  refine A7 ?_;refine aH rfl (aj rfl) (fun w hL=>⟨(),?_,hL.pk []⟩);exact eB (decide_eq_false (fun e=>hle (by rw[e]))).symm
 ·have hle:a.length=b.length:=by have e:=hb0;simp at e;omega
  refine oO ?_;refine El (ι:={i:Nat // i<=a.length∧a.take i=b.take i}) (fun⟨i,hi,hI⟩=>([(0,az ab 0 a.length ac),(1,az bb 0 b.length bc),(11,az ab 0 a.length ac),(12,bz (a.length)),(13,bz i)],[⟨ab,61,ah bP a,aN,false⟩,⟨bb,61,ah bP b,bN,false⟩],a.length-i)) ⟨0,Nat.zero_le _,rfl⟩ ?_;rintro⟨i,hi,hI⟩;(try dsimp only);refine A6 ?_;refine Cd ?_ ?_<;>intro hb2
  ·have hlt:i<a.length:=(by have:=of_decide_eq_true hb2;omega);obtain⟨x,hx⟩:∃x,a[i]? =some x:=⟨a[i],List.getElem?_eq_getElem hlt⟩;obtain⟨y,hy⟩:∃y,b[i]? =some y:=⟨_,List.getElem?_eq_getElem (by omega)⟩;refine oO ?_;refine Di [] ?_;refine A2 ?_;refine ai 0 ((i)*20) F6 iC rfl rfl rfl rfl rfl (by omega) (by omega) (bI.ne (by decide) (by omega)) (by show 0+Int.toNat _*20=_;omega) ?_;refine aO (v:=kF x) 0 ((i)*20) _ rfl rfl rfl rfl iC (bI.sub hx 0 20 (by decide)) rfl (by decide) rfl ?_;refine A2 ?_;refine ai 1 ((i)*20) F6 iC rfl rfl rfl rfl rfl (by omega) (by omega) (bI.ne (by decide) (by omega)) (by show 0+Int.toNat _*20=_;omega) ?_;refine aO (v:=kF y) 1 ((i)*20) _ rfl rfl rfl rfl iC (bI.sub hy 0 20 (by decide)) rfl (by decide) rfl ?_;refine xM rfl rfl rfl rfl qiU (qjb _ _) ?_;refine A2 ?_;refine Cd ?_ ?_<;>intro hb3
   ·have hxy:x≠y:=by have e:=hb3;simpa using e
    refine oO ?_;refine aH rfl (aj rfl) (fun w hL=>⟨(),?_,hL.pk []⟩);exact eB (decide_eq_false (fun e=>hxy (by rw[e,hy] at hx;cases hx;rfl))).symm
   ·have hxy:x=y:=by have e:=hb3;simpa using e
    refine A4 ?_;refine Ar (((i+1:Nat):Int)) ?_;refine A3 ?_;exact Nl ⟨i+1,hlt,by rw[<-dD hx,<-dD hy,hI,hxy]⟩ (hL:=eG.auto)
  ·have hge:i=a.length:=(by have:=of_decide_eq_false hb2;omega);subst hge;refine oO ?_;refine aH rfl (aj rfl) (fun w hL=>⟨(),?_,hL.pk []⟩);exact eB (decide_eq_true (Ht hI hle)).symm
def KQ(a:List Iv)(ab:Option Nat)(aN ac:Nat)(hac:a.length<=ac)(han:a.length<=2000000)(b:List Iv)(bb:Option Nat)(bN bc:Nat)(hbc:b.length<=bc:=by omega)(hbn:b.length<=2000000:=by omega):dh Tryz.prog 49 [⟨ab,61,ah bP a,aN,false⟩,⟨bb,61,ah bP b,bN,false⟩] [az ab 0 a.length ac,az bb 0 b.length bc] Unit (fun _=> .bool (decide (a=b))) (fun _=>[]):=by
 refine V3 8 Tryz.func49 fun w hL0=>?_;refine A9 ?_;refine(Sd [0,1]) (GG a ab aN ac hac han b bb bN bc hbc hbn) ?_;refine A4 ?_;refine aH rfl (aj rfl) (fun w hL=>⟨(),?_,hL.pk []⟩);exact rfl
variable[Mo]
def Io(x y:Bool):aP Tryz.prog 153 #[.bool x,.bool y] (.bool (x||y)):=by
 refine oG 9 Tryz.func153 fun w=>?_;refine A9 ?_;refine Rs 6 ?_ ?_<;>intro hb0
 ·refine A6 ?_;refine E0 ?_;exact eB (by cases x<;>cases y<;>simp_all)
 ·refine A6 ?_;refine E0 ?_;exact eB (by cases x<;>cases y<;>simp_all)
def Ip(x y:Bool):aP Tryz.prog 191 #[.bool x,.bool y] (.bool (x&& !y)):=by
 refine oG 10 Tryz.func191 fun w=>?_;refine A9 ?_;refine Rs 6 ?_ ?_<;>intro hb0
 ·refine A7 ?_;refine E0 ?_;exact eB (by cases x<;>cases y<;>simp_all)
 ·refine A7 ?_;refine E0 ?_;exact eB (by cases x<;>cases y<;>simp_all)
def Iq(a b:(Rl×Bool)×Int×Int)(ha:gY a.1.1<=50000:=by omega)(hb:gY b.1.1<=50000:=by omega):aP Tryz.prog 193 #[EvV a,EvV b] (.int .i64 (xg a.1 b.1)):=by
 refine oG 10 Tryz.func193 fun w=>?_;refine A2 ?_;refine Bp 12 (fun g0=>?_);refine Bp 12 (fun g1=>?_);refine A6 ?_;refine LG 0 0 ?_;refine A1 ?_;refine LG 1 0 ?_;refine Pc (qZ a.1 b.1 ha hb) ?_;refine A4 ?_;refine E0 ?_;exact rfl
end Go.Proofs.YtaffcpfhedadhaaGreatDoor
namespace Go.Via
open Go Go.Sort Go.Proofs
abbrev KR:=(Rl×Bool)×Int×Int
def qbH{l:List Iv}{i:Nat}{x:Iv}(hx:l[i]? =some x):CG (l.take i)++[(x.b,1,0),(x.e,-1,0)]=CG (l.take (i+1)):=by
 rw[<-dD hx];unfold CG;rw[List.flatMap_append];rfl
def qbI{l:List Iv}{i:Nat}{x:Iv}(hx:l[i]? =some x):Ib (l.take i)++[(x.b,0,1),(x.e,0,-1)]=Ib (l.take (i+1)):=by
 rw[<-dD hx];unfold Ib;rw[List.flatMap_append];rfl
def evK(a b:List Iv):Nat->List KR
 |0=>[]
 |1=>CG a
 |_=>CG a++Ib b
def Qg(l:List Iv):(CG l).length=2*l.length:=by
 induction l with
 |nil=>rfl
 |cons x l ih=>show(_++CG l).length=_;rw[List.length_append,ih];simp;omega
def Qh(l:List Iv):(Ib l).length=2*l.length:=by
 induction l with
 |nil=>rfl
 |cons x l ih=>show(_++Ib l).length=_;rw[List.length_append,ih];simp;omega
def qbJ{a b:List Iv}{e:KR}(h:e∈CG a++Ib b):(∃i∈a++b,e.1=i.b∨e.1=i.e)∧(-1<=e.2.1∧e.2.1<=1)∧ -1<=e.2.2∧e.2.2<=1:=by
 rcases List.mem_append.1 h with h|h
 ·obtain⟨i,hi,h⟩:=List.mem_flatMap.1 h;simp only[List.mem_cons,List.not_mem_nil,or_false] at h;rcases h with rfl|rfl
  ·exact⟨⟨i,List.mem_append_left _ hi,.inl rfl⟩,by dsimp only;decide⟩
  ·exact⟨⟨i,List.mem_append_left _ hi,.inr rfl⟩,by dsimp only;decide⟩
 ·obtain⟨i,hi,h⟩:=List.mem_flatMap.1 h;simp only[List.mem_cons,List.not_mem_nil,or_false] at h;rcases h with rfl|rfl
  ·exact⟨⟨i,List.mem_append_right _ hi,.inl rfl⟩,by dsimp only;decide⟩
  ·exact⟨⟨i,List.mem_append_right _ hi,.inr rfl⟩,by dsimp only;decide⟩
def qjw{S:Rl->Prop}{a b:List Iv}(ha:kE S a)(hb:kE S b){e:KR}(h:e∈CG a++Ib b):S e.1.1:=by
 obtain⟨⟨i,hi,h1⟩,_⟩:=qbJ h;have h2:S i.f∧S i.t:=by
  rcases List.mem_append.1 hi with h|h;exact ha i h;exact hb i h
 rcases h1 with h1|h1<;>rw[h1];exact h2.1;exact h2.2
section
variable{α:Type}{κ:α->Int}{keep:Bool->Bool->Bool}
def stO(inn:Bool)(f:α):Option α:=if inn=true then some f else none
def vM{β:Type}{l:List β}{i:Nat}{x:β}(h:l[i]? =some x):l.drop i=x::l.drop (i+1):=by
 obtain⟨hl,rfl⟩:=List.getElem?_eq_some_iff.1 h;exact List.drop_eq_getElem_cons hl
def qbK{l:List (α×Int×Int)}{i:Nat}{x y:α×Int×Int}{m n:Int}{st:Option α}(hx:l[i]? =some x)(hy:l[i+1]? =some y)(h:κ x.1=κ y.1):LH κ keep (l.drop i) m n st=LH κ keep (l.drop (i+1)) (m+x.2.1) (n+x.2.2) st:=by
 rw[vM hx,vM hy];conv=>lhs;unfold LH;rw[if_pos h]
def qbL{l:List (α×Int×Int)}{i:Nat}{x:α×Int×Int}{m n:Int}{st:Option α}(hx:l[i]? =some x)(h:∀y,l[i+1]? =some y->κ x.1≠κ y.1):
 LH κ keep (l.drop i) m n st=match st,keep (decide (0<m+x.2.1)) (decide (0<n+x.2.2)) with
  |none,true=>LH κ keep (l.drop (i+1)) (m+x.2.1) (n+x.2.2) (some x.1)
  |some f,false=>(f,x.1)::LH κ keep (l.drop (i+1)) (m+x.2.1) (n+x.2.2) none
  |st,_=>LH κ keep (l.drop (i+1)) (m+x.2.1) (n+x.2.2) st:=by
 rw[vM hx];cases hy:l[i+1]? with
 |none=>
  have e:l.drop (i+1)=[]:=List.drop_eq_nil_of_le (List.getElem?_eq_none_iff.1 hy);rw[e];cases st<;>cases hk:keep (decide (0<m+x.2.1)) (decide (0<n+x.2.2))<;>simp[LH,hk]
 |some y=>
  rw[vM hy]
  conv=>lhs;unfold LH
  rw[if_neg (h y hy)];cases st<;>cases hk:keep (decide (0<m+x.2.1)) (decide (0<n+x.2.2))<;>simp
def qhO{l:List (α×Int×Int)}{i:Nat}{x:α×Int×Int}{m n:Int}{inn now:Bool}{fb:α}(hx:l[i]? =some x)(h:∀y,l[i+1]? =some y->κ x.1≠κ y.1)(hn:keep (decide (0<m+x.2.1)) (decide (0<n+x.2.2))=now):
 LH κ keep (l.drop i) m n (stO inn fb)=(if inn=true∧now=false then[(fb,x.1)] else[])++LH κ keep (l.drop (i+1)) (m+x.2.1) (n+x.2.2) (stO now (if now=true∧inn=false then x.1 else fb)):=by
 rw[qbL hx h,hn];cases inn<;>cases now<;>rfl
end
def ivP(p:qJ×qJ):Iv:=Ia p.1 p.2
def Y4(κ:qJ->Int)(keep:Bool->Bool->Bool)(l:List KR)(i:Nat)(m n:Int)(inn:Bool)(fb:qJ):List Iv:=(LH κ keep (l.drop i) m n (stO inn fb)).map ivP
def qe5{κ:qJ->Int}{keep:Bool->Bool->Bool}{l:List KR}{m n:Int}{inn:Bool}{fb:qJ}:Y4 κ keep l l.length m n inn fb=[]:=by
 unfold Y4;rw[List.drop_length];rfl
def qbM{S:Rl->Prop}{ρ:Rl->Int}(T:gU S ρ){op:Bool->Bool->Bool}(h0:op false false=false){a b:List Iv}(ha:kE S a)(hb:kE S b)(oa:Gn ρ a)(ob:Gn ρ b)
 {l:List KR}(hp:l.Perm (CG a++Ib b))(hl:l.Pairwise (fun x y=>aV ρ x.1<=aV ρ y.1))(fb:qJ):Y4 (aV ρ) op l 0 0 0 false fb=kY op a b:=by
 obtain⟨s1,s2⟩:=uV T (uy (nG ha hb));unfold Y4 kY;rw[List.drop_zero];show List.map ivP (LH (aV ρ) op l 0 0 none)=_;rw[UW T h0 ha hb oa ob s1 (fun x=>by rw[s2,sK]) hp hl]
 rfl
def qbN{S:Rl->Prop}{ρ:Rl->Int}(T:gU S ρ){a b:qJ}(ha:S a.1)(hb:S b.1):xg a b=0↔aV ρ a=aV ρ b:=by
 rw[RS T ha hb];unfold zX;split<;>(try split)<;>omega
def WZ{S:Rl->Prop}{ρ:Rl->Int}(T:gU S ρ){a b:qJ}(ha:S a.1)(hb:S b.1):xg a b<0↔aV ρ a<aV ρ b:=by
 rw[RS T ha hb];unfold zX;split<;>(try split)<;>omega
def qbO{S:Rl->Prop}{ρ:Rl->Int}(T:gU S ρ){keep:Bool->Bool->Bool}{l:List KR}{i:Nat}{x y:KR}{m n:Int}{inn:Bool}{fb:qJ}(hx:l[i]? =some x)(hy:l[i+1]? =some y)(sx:S x.1.1)(sy:S y.1.1)(h:xg x.1 y.1=0):Y4 (aV ρ) keep l i m n inn fb=Y4 (aV ρ) keep l (i+1) (m+x.2.1) (n+x.2.2) inn fb:=by
 unfold Y4;rw[qbK hx hy ((qbN T sx sy).1 h)]
def Far(ρ:Rl->Int)(l:List KR)(i:Nat)(x:KR):Prop:=∀y,l[i+1]? =some y->aV ρ x.1≠aV ρ y.1
def qe6{ρ:Rl->Int}{l:List KR}{i:Nat}{x:KR}(h:¬i+1<l.length):Far ρ l i x:=fun y hy=>by
 rw[List.getElem?_eq_none (by omega)] at hy;cases hy
def qhP{S:Rl->Prop}{ρ:Rl->Int}(T:gU S ρ){l:List KR}{i:Nat}{x y:KR}(hy:l[i+1]? =some y)(sx:S x.1.1)(sy:S y.1.1)(h:xg x.1 y.1≠0):Far ρ l i x:=fun z hz e=>by
 rw[hy] at hz;cases hz;exact h ((qbN T sx sy).2 e)
def AQ{ρ:Rl->Int}{keep:Bool->Bool->Bool}{l:List KR}{i:Nat}{x:KR}{m n:Int}{inn now:Bool}{fb:qJ}(hx:l[i]? =some x)(h:Far ρ l i x)(hn:keep (decide (0<m+x.2.1)) (decide (0<n+x.2.2))=now):
 Y4 (aV ρ) keep l i m n inn fb=(if inn=true∧now=false then[Ia fb x.1] else[])++Y4 (aV ρ) keep l (i+1) (m+x.2.1) (n+x.2.2) now (if now=true∧inn=false then x.1 else fb):=by
 unfold Y4;rw[qhO hx h hn,List.map_append]
 congr 1
 split<;>rfl
def qk9:List Value:=[aW,aX,aW,aX,aW,aX,aW,aX,.bool false,.bool false]
def qhQ:xh (rl 0,false)=qk9:=by
 have h:=qby;show iD (rl 0)++[.bool false]=_;rw[h];rfl
abbrev EvS(S:Rl->Prop):={e:KR // S e.1.1∧gY e.1.1<=50000}
def evc{S:Rl->Prop}(x:EvS S):List Value:=kG x.1
def Qi{S:Rl->Prop}:jh (EvS S) evc 12:=⟨fun _=>rfl,fun x v hv=>xE.one x.1 v hv⟩
def Ox{S:Rl->Prop}(l:List (EvS S)):ah evc l=ah kG (l.map (·.1)):=by
 induction l with
 |nil=>rfl
 |cons x l ih=>rw[ig,List.map_cons,ig,ih];rfl
def qhR{S:Rl->Prop}{ρ:Rl->Int}(T:gU S ρ):SWO (Go.Proofs.ltOf fun x y:EvS S=>xg x.1.1 y.1.1):=by
 have h:∀x y:EvS S,Go.Proofs.ltOf (fun x y:EvS S=>xg x.1.1 y.1.1) x y=decide (aV ρ x.1.1<aV ρ y.1.1):=fun x y=>by
  unfold Go.Proofs.ltOf;exact decide_eq_decide.2 (WZ T x.2.1 y.2.1)
 refine⟨fun x=>?_,fun x y z=>?_,fun x y z=>?_⟩
 ·rw[h];simp
 ·rw[h,h,h];simp only[decide_eq_true_eq];omega
 ·rw[h,h,h];simp only[decide_eq_false_iff_not];omega
def W9{S:Rl->Prop}:∀{l:List KR},(∀e∈l,S e.1.1∧gY e.1.1<=50000)->∃l':List (EvS S),l'.map (·.1)=l
 |[],_=>⟨[],rfl⟩
 |e::l,h=>by
  obtain⟨l',e'⟩:=W9 fun x hx=>h x (List.mem_cons_of_mem _ hx)
  exact⟨⟨e,h e (List.mem_cons_self ..)⟩::l',by rw[List.map_cons,e']⟩
end Go.Via
namespace Go.Proofs.YtaffcpfhedadhaaGreatDoor
open Go Go.RowKit Go.Via Go.Sort Go.Shelf
def qbQ{S:Rl->Prop}{ρ:Rl->Int}(T:gU S ρ)(l:List KR)(b:Option Nat)(n cap:Nat)(hl:l.length<=cap)(hn:cap*12<=n)(hS:∀e∈l,S e.1.1∧gY e.1.1<=50000)(hc:l.length<=1000000:=by omega):
 Cm Tryz.prog 192 [⟨b,253,ah kG l,n,true⟩] [az b 0 l.length cap,.func (.func 193) #[] #[]] {l':List KR // l'.Perm l∧l'.Pairwise (fun x y=>aV ρ x.1<=aV ρ y.1)} (fun _=> .tuple #[]) (fun z=>[⟨b,253,ah kG z.1,n,true⟩]):=by
 refine⟨by kernel_rfl,fun B w hD hL=>?_⟩
 by_cases h0:l=[]
 ·subst h0;have h1:=AnyF.slices_SortFunc_none Tryz.sortEv (b.map fun g=>⟨g,0,none⟩) cap (.func (.func 193) #[] #[]) w;refine Calls.mono h1 ?_;rintro e w' ⟨rfl,rfl⟩;exact⟨⟨[],List.Perm.refl _,List.Pairwise.nil⟩,rfl,hL⟩
 ·cases b with
  |none=>
   have h2:=((hL.blk 0 _ rfl).2 rfl).1;have h3:=congrArg List.length h2;rw[xE.length] at h3;exact absurd (List.eq_nil_of_length_eq_zero (by rw[List.length_nil] at h3;omega)) h0
  |some g=>
   have hl0:=List.length_pos_iff.2 h0;have hn0:n≠0:=(by omega);obtain⟨l',rfl⟩:=W9 hS;have hd:∃x:EvS S,x∈l':=List.exists_mem_of_ne_nil _ (fun e=>h0 (by rw[e];rfl));obtain⟨d,_⟩:=hd
   letI:Inhabited (EvS S):=⟨d⟩
   rw[<-Ox] at hL;have hlen:(l'.map (·.1)).length=l'.toArray.size:=by simp
   have h1:=AnyQ.slices_SortFunc Tryz.sortEv 12 Tryz.isAgg253 Tryz.sizeOf253 evc (fun x=>rfl) (fun x v hv=>xE.one x.1 v hv) (fun x y:EvS S=>xg x.1.1 y.1.1) (qhR T) 193 #[] g 0 cap l'.toArray w
    (enters_of Tryz.func193 (by kernel_rfl) rfl) (@WP (EvS S) _ evc 12 mo1 trivial Tryz.prog 193 (fun x y=>xg x.1.1 y.1.1) (fun x y=> @Iq mo1 x.1 y.1 x.2.2 y.2.2) g 0 l'.toArray.size w)
    (Oj Qi (j:=0) hL rfl hn0) (hL.lt (k:=0) rfl rfl) (by simp at hc ⊢;omega)
   rw[<-hlen] at h1;refine Calls.mono h1 ?_;rintro e w' ⟨rfl,d',m,os,hp,hs,rfl⟩;rw[hlen] at hp hs;have hp':=qeP hp;have hs':=YH hs hp.1;refine⟨⟨d'.toList.map (·.1),hp'.map _,?_⟩,rfl,?_⟩
   ·rw[List.pairwise_map];refine hs'.imp fun {x y} h=>?_
    have h2:¬xg y.1.1 x.1.1<0:=of_decide_eq_false h;rw[WZ T y.2.1 x.2.1] at h2;omega
   ·show bf B [⟨some g,253,ah kG (d'.toList.map (·.1)),n,true⟩] _;rw[<-Ox];have hx:=Fb Qi (j:=0) (m:=m) (os:=os) (l':=d'.toList) hL rfl (by rw[Qi.length,hp'.length_eq];simp at hl;omega) hn0
    simpa using hx
end Go.Proofs.YtaffcpfhedadhaaGreatDoor
namespace Go.Via
open Go
def qe7(a b c:Int)(i:Nat)(h:i<3):([.int .i64 a,.int .i64 b,.int .i64 c]:List Value)[i]? =some (.int .i64 ([a,b,c].getD i 0)):=by
 rcases(show i=0∨i=1∨i=2 by omega) with rfl|rfl|rfl<;>rfl
def or3(a b c:Int):Int:=if a≠0 then a else if b≠0 then b else c
def qe8{a b c:Int}{i:Nat}(hi:i<3)(h:∀j,j<i->[a,b,c].getD j 0=0)(hn:[a,b,c].getD i 0≠0):or3 a b c=[a,b,c].getD i 0:=by
 have h0:=h 0;have h1:=h 1;rcases(show i=0∨i=1∨i=2 by omega) with rfl|rfl|rfl<;>simp at hn h0 h1 ⊢ <;>unfold or3<;>simp_all
def qhT{a b c:Int}(h:∀j,j<3->[a,b,c].getD j 0=0):or3 a b c=0:=by
 have h0:=h 0 (by omega);have h1:=h 1 (by omega);have h2:=h 2 (by omega);simp at h0 h1 h2;unfold or3;simp_all
def qbR{a b c:Int}{i:Nat}(h:∀j,j<i->[a,b,c].getD j 0=0)(hn:[a,b,c].getD i 0=0):∀j,j<i+1->[a,b,c].getD j 0=0:=fun j hj=>by
 by_cases e:j=i
 ·rw[e];exact hn
 ·exact h j (by omega)
def opI(i:Iv):Int:=if i.fo=true then 1 else 0
def qbS(a b:PU):or3 (bW a.i.f b.i.f) (if opI a.i<opI b.i then-1 else if opI b.i<opI a.i then 1 else 0) (bW a.i.t b.i.t)=MF a b:=by
 unfold or3 MF qhC opI;cases a.i.fo<;>cases b.i.fo<;>simp
def Vh{f:Ln}(h:jo f<=10000):uB (qx f)<=10000:=by
 have:=rQ f;have:=rU f;have:=wP;unfold uB qx;dsimp only;omega
def Vj{f:Ln}(h:jo f<=10000):uB (qy f)<=10000:=by
 have:=rV f;have:=rW f;have:=wP;unfold uB qy;dsimp only;omega
def qfY(f:Ln)(t:Rl):(vw (qx f) t).c0=(jg f t).x0∧(vw (qx f) t).c1=(jg f t).x1∧(vw (qy f) t).c0=(jg f t).y0∧(vw (qy f) t).c1=(jg f t).y1:=by
 unfold vw jg
 by_cases h:t.r=0
 ·rw[if_pos h,if_pos h,if_pos h];exact⟨rfl,rfl,rfl,rfl⟩
 ·rw[if_neg h,if_neg h,if_neg h];unfold CJ qx qy;refine⟨?_,?_,?_,?_⟩<;>dsimp only<;>grind
def Xa(f g:Ln)(t:Rl):(decide (vw (qp (qx f) (qx g)) t=⟨0,0,0⟩)&&decide (vw (qp (qy f) (qy g)) t=⟨0,0,0⟩))=pJ f g t:=by
 have z0:(0:Rat)-0=0:=(by grind);have hx:qp (qx f) (qx g)=qx (DL f g):=(by unfold qp qx DL;dsimp only;rw[z0]);have hy:qp (qy f) (qy g)=qy (DL f g):=(by unfold qp qy DL;dsimp only;rw[z0]);rw[hx,hy];obtain⟨h1,h2,h3,h4⟩:=qfY (DL f g) t;have z1:(vw (qx (DL f g)) t).c2=0:=by unfold vw;split<;>rfl
 have z2:(vw (qy (DL f g)) t).c2=0:=by unfold vw;split<;>rfl
 have e1:vw (qx (DL f g)) t=⟨(jg (DL f g) t).x0,(jg (DL f g) t).x1,0⟩:=(by rw[<-h1,<-h2,<-z1]);have e2:vw (qy (DL f g)) t=⟨(jg (DL f g) t).y0,(jg (DL f g) t).y1,0⟩:=(by rw[<-h3,<-h4,<-z2]);unfold pJ;rw[e1,e2,Bool.eq_iff_iff,Bool.and_eq_true,decide_eq_true_eq,decide_eq_true_eq,decide_eq_true_eq]
 generalize jg (DL f g) t=r
 obtain⟨a,b,c,d⟩:=r;simp[and_assoc]
end Go.Via
namespace Go.Proofs.YtaffcpfhedadhaaGreatDoor
open Go Go.RowKit Go.Via
variable[Mo]
def YO(a b c:Int)(g:Nat):dh Tryz.prog 218 [⟨some g,3,[.int .i64 a,.int .i64 b,.int .i64 c],3,false⟩] [az (some g) 0 3 3] Unit (fun _=> .int .i64 (or3 a b c)) (fun _=>[]):=by
 refine Md 18 Tryz.func218 fun w hL0=>?_;refine A19 ?_;refine El (ι:={i:Nat // i<=3∧∀j,j<i->[a,b,c].getD j 0=0}) (fun⟨i,hi,ha⟩=>([(3,.int .i64 0),(6,az (some g) 0 3 3),(7,.int .i64 3),(8,bz i)],[⟨some g,3,[.int .i64 a,.int .i64 b,.int .i64 c],3,false⟩],3-i)) ⟨0,by omega,fun j h=>absurd h (by omega)⟩ ?_;rintro⟨i,hi,ha⟩;(try dsimp only);refine A6 ?_;refine Cd ?_ ?_<;>intro hb1
 ·have hlt:i<3:=(by have:=of_decide_eq_true hb1;omega);refine A6 ?_;refine Ix 0 i ?_;refine OO (v:= .int .i64 ([a,b,c].getD i 0)) 0 i uq rfl rfl rfl rfl (qe7 a b c i hlt) ?_;refine lm ?_;refine Cd ?_ ?_<;>intro hb2
  ·have hne:[a,b,c].getD i 0≠0:=by simpa using hb2
   refine lX ?_;refine aH rfl (aj rfl) (fun w hL=>⟨(),?_,hL.pk []⟩);rw[qe8 hlt ha hne]
  ·have he:[a,b,c].getD i 0=0:=by simpa using hb2
   refine A4 ?_;refine Ar (((i+1:Nat):Int)) ?_;refine A3 ?_;exact Nl ⟨i+1,hlt,qbR ha he⟩
 ·have hge:i=3:=(by have:=of_decide_eq_false hb1;omega);subst hge;refine lX ?_;refine aH rfl (aj rfl) (fun w hL=>⟨(),?_,hL.pk []⟩);rw[qhT ha]
def KT(i:Iv):aP Tryz.prog 217 #[kF i] (.int .i64 (opI i)):=by
 refine xJ 5 Tryz.func217 fun w=>?_;refine A2 ?_;refine Bp 20 (fun g0=>?_);refine lm ?_;refine Cd ?_ ?_<;>intro hb0
 ·refine A7 ?_;refine E0 ?_;rw[opI,if_pos hb0]
 ·refine A8 ?_;refine E0 ?_;rw[opI,if_neg (by rw[hb0];decide)]
def YP(a b:PU)(ha:jV a.i<=50000:=by omega)(hb:jV b.i<=50000:=by omega):aP Tryz.prog 216 #[U3 a,U3 b] (.int .i64 (MF a b)):=by
 have a1:=Nat.le_trans (kw a.i) ha;have a2:=Nat.le_trans (kz a.i) ha;have b1:=Nat.le_trans (kw b.i) hb;have b2:=Nat.le_trans (kz b.i) hb;refine oG 31 Tryz.func216 fun w=>?_;refine A2 ?_;refine Bp 36 (fun g0=>?_);refine Bp 36 (fun g1=>?_);refine A9 ?_;refine Dp [] [0,1,2,3,4,5,7,8,9,11,12,13,16,17,18,19,20,21,6,10,14,15,22,23,24,25] ?_ (hc:=(oz [0,1,3,0,8,24,63,0,0,256,1023,0,0,4096,16383,32767,0,65536,196608,0,524288,1572864,4194303,8388607,16777215,33554431] (by kernel_rfl)));refine A2 ?_;refine L9 0 0 ?_;refine A2 ?_;refine L9 1 0 ?_;refine A2 ?_;refine yB 0 0 ?_;refine A2 ?_;refine yB 1 0 ?_;refine A2 ?_;refine L9 0 9 ?_;refine A2 ?_;refine L9 1 9 ?_;refine Pc (dL a.i.f b.i.f) ?_;refine gV [_] rfl rfl rfl rfl (KT a.i) ?_;refine gV [_] rfl rfl rfl rfl (KT b.i) ?_;refine Pc (xk (opI a.i) (opI b.i)) ?_;refine Pc (dL a.i.t b.i.t) ?_;refine(Bl 3 [(0,_),(1,_),(2,_)]) (qdx) (fun g2=>?_);refine(Sd [2]) (YO _ _ _ _) ?_;refine A4 ?_;refine E0 ?_;rw[qbS]
end Go.Proofs.YtaffcpfhedadhaaGreatDoor
namespace Go.Via
open Go Go.Sort Go.Proofs
abbrev PUS:={u:PU // jV u.i<=50000}
def puc(x:PUS):List Value:=aQ x.1
def Qj:jh PUS puc 36:=⟨fun _=>rfl,fun x v hv=>aC.one x.1 v hv⟩
def Oy(l:List PUS):ah puc l=ah aQ (l.map (·.1)):=by
 induction l with
 |nil=>rfl
 |cons x l ih=>rw[ig,List.map_cons,ig,ih];rfl
def Xb:∀{l:List PU},(∀u∈l,jV u.i<=50000)->∃l':List PUS,l'.map (·.1)=l
 |[],_=>⟨[],rfl⟩
 |e::l,h=>by
  obtain⟨l',e'⟩:=Xb fun x hx=>h x (List.mem_cons_of_mem _ hx)
  exact⟨⟨e,h e (List.mem_cons_self ..)⟩::l',by rw[List.map_cons,e']⟩
def Xc(l:List PU):Prop:=l.Pairwise fun x y=>decide (MF y x<0)=false
end Go.Via
namespace Go.Proofs.YtaffcpfhedadhaaGreatDoor
open Go Go.RowKit Go.Via Go.Sort Go.Shelf
def qfa(l:List PU)(b:Option Nat)(n cap:Nat)(hs:Xc l)(hz:∀u∈l,jV u.i<=50000)(hl:l.length<=cap:=by omega)(hn:cap*36<=n:=by omega)(hc:l.length<=1000000:=by omega):
 Cm Tryz.prog 264 [⟨b,201,ah aQ l,n,true⟩] [az b 0 l.length cap,.int .i64 0,.int .i64 (l.length:Nat),.func (.func 216) #[] #[]] Unit (fun _=> .tuple #[]) (fun _=>[⟨b,201,ah aQ l,n,true⟩]):=by
 refine⟨by kernel_rfl,fun B w hD hL=>?_⟩
 by_cases h0:l=[]
 ·subst h0;have h1:=AnyF.insertionSortCmpFunc_none Tryz.insPU (b.map fun g=>⟨g,0,none⟩) cap (.func (.func 216) #[] #[]) w;refine Calls.mono h1 ?_;rintro e w' ⟨rfl,rfl⟩;exact⟨(),rfl,hL⟩
 ·cases b with
  |none=>
   have h2:=((hL.blk 0 _ rfl).2 rfl).1;have h3:=congrArg List.length h2;rw[aC.length] at h3;exact absurd (List.eq_nil_of_length_eq_zero (by rw[List.length_nil] at h3;omega)) h0
  |some g=>
   have hl0:=List.length_pos_iff.2 h0;have hn0:n≠0:=(by omega);obtain⟨l',rfl⟩:=Xb hz;have hd:∃x:PUS,x∈l':=List.exists_mem_of_ne_nil _ (fun e=>h0 (by rw[e];rfl));obtain⟨d,_⟩:=hd
   letI:Inhabited PUS:=⟨d⟩
   rw[<-Oy] at hL;have hlen:(l'.map (·.1)).length=l'.toArray.size:=by simp
   have h1:=AnyQ.insertionSortCmpFunc Tryz.insPU 36 Tryz.isAgg201 Tryz.sizeOf201 puc (fun x=>rfl) (fun x v hv=>aC.one x.1 v hv) (fun x y:PUS=>MF x.1 y.1) 216 #[] g 0 cap 0 l'.toArray.size l'.toArray w
    (enters_of Tryz.func216 (by kernel_rfl) rfl) (@WP PUS _ puc 36 mo1 trivial Tryz.prog 216 (fun x y=>MF x.1 y.1) (fun x y=> @YP mo1 x.1 y.1 x.2 y.2) g 0 l'.toArray.size w)
    (Oj Qj (j:=0) hL rfl hn0) (hL.lt (k:=0) rfl rfl) (Nat.zero_le _) (Nat.le_refl _) (by simp at hc ⊢;omega)
   rw[<-hlen] at h1;refine Calls.mono h1 ?_;rintro e w' ⟨rfl,m,os,rfl⟩;have hid:Sort.insertionSort (ltOf fun x y:PUS=>MF x.1 y.1) l'.toArray 0 (l'.map (·.1)).length=l'.toArray:=by
    rw[List.length_map];refine PW ?_;have:=List.pairwise_map.1 hs;exact this
   rw[hid];refine⟨(),rfl,?_⟩;rw[<-Oy];have hx:=Fb Qj (j:=0) (m:=m) (os:=os) (l':=l') hL rfl (by rw[Qj.length];simp at hl;omega) hn0
   simpa using hx
end Go.Proofs.YtaffcpfhedadhaaGreatDoor
namespace Go.Via
open Go
instance{n s:Nat}:Nonempty (OR n s):=⟨⟨none,n*s,n,Nat.le_refl _,Nat.le_refl _⟩⟩
def rf{l:List PU}{i:Nat}{x:PU}(hx:l[i]? =some x):aF (l.take i)++iH x=aF (l.take (i+1)):=by
 rw[<-dD hx];unfold aF;rw[List.flatMap_append];simp
def yY(t:Rl)(f:Ln):PU:=⟨⟨t,t,false,false⟩,f⟩
def mM(x:PU):PU:=⟨⟨x.i.f,x.i.t,true,true⟩,x.f⟩
def qbT{x:PU}(h1:x.i.fo=false)(h2:fJ x.i=true):iH x=[yY x.i.f x.f]:=by unfold iH;rw[h1,h2];rfl
def qbU{x:PU}(h1:x.i.fo=false)(h2:fJ x.i=false)(h3:x.i.tp=false):iH x=[yY x.i.f x.f,mM x,yY x.i.t x.f]:=by unfold iH;rw[h1,h2,h3];rfl
def qbV{x:PU}(h1:x.i.fo=false)(h2:fJ x.i=false)(h3:x.i.tp=true):iH x=[yY x.i.f x.f,mM x]:=by unfold iH;rw[h1,h2,h3];rfl
def qbW{x:PU}(h1:x.i.fo=true)(h2:fJ x.i=true):iH x=[]:=by unfold iH;rw[h1,h2];rfl
def qbX{x:PU}(h1:x.i.fo=true)(h2:fJ x.i=false)(h3:x.i.tp=false):iH x=[mM x,yY x.i.t x.f]:=by unfold iH;rw[h1,h2,h3];rfl
def qbY{x:PU}(h1:x.i.fo=true)(h2:fJ x.i=false)(h3:x.i.tp=true):iH x=[mM x]:=by unfold iH;rw[h1,h2,h3];rfl
def Oz{l:List PU}{u:PU}{t:Rl}(h:l[l.length-1]? =some u):qg l t=(decide (u.i.t=t)&& !u.i.tp):=by
 unfold qg;rw[List.getLast?_eq_getElem?,h]
def YQ{l:List PU}{t:Rl}(h:¬0<l.length):qg l t=false:=by
 have:l=[]:=List.eq_nil_of_length_eq_zero (by omega);subst this;rfl
def YR{l:List PU}{t:Rl}(h:¬0<l.length):ui l t=none:=by
 have:l=[]:=List.eq_nil_of_length_eq_zero (by omega);subst this;rfl
def qfb{l:List PU}{u:PU}{t:Rl}(h:l[l.length-1]? =some u)(h1:u.i.t≠t):ui l t=none:=by
 unfold ui;rw[List.getLast?_eq_getElem?,h];dsimp only;rw[if_neg fun e=>h1 e.1]
def qfc{l:List PU}{u:PU}{t:Rl}(h:l[l.length-1]? =some u)(h1:fJ u.i=true):ui l t=none:=by
 unfold ui;rw[List.getLast?_eq_getElem?,h];dsimp only;rw[if_neg fun e=>by rw[e.2] at h1;cases h1]
def qfd{l:List PU}{u:PU}{t:Rl}(h:l[l.length-1]? =some u)(h1:u.i.t=t)(h2:fJ u.i=false):ui l t=some u:=by
 unfold ui;rw[List.getLast?_eq_getElem?,h];dsimp only;rw[if_pos ⟨h1,h2⟩]
def qbZ{l:List PU}{u:PU}{t:Rl}(h:ui l t=some u):l[l.length-1]? =some u∧u.i.t=t∧fJ u.i=false:=by
 obtain⟨h1,h2⟩:=yc h;rw[List.getLast?_eq_getElem?] at h1;exact⟨h1,h2⟩
def Xd(ob:Option Nat)(n:Nat):Option PU->Option Addr
 |none=>none
 |some _=>some ⟨ob.getD 0,(n-1)*36,none⟩
def o9(A:List PU):Nat->Option PU
 |0=>none
 |i+1=>A[i]?
def nrm(A:List PU)(i:Nat)(o:List PU):List PU:=uX (o9 A i) o (A.drop i)
def sU{A:List PU}{i:Nat}{x:PU}{o:List PU}(hx:A[i]? =some x):nrm A i o=nrm A (i+1) (kL o (o9 A i) x A[i+1]?):=by
 unfold nrm;rw[vM hx];show uX (some x) (kL o (o9 A i) x (A.drop (i+1)).head?) (A.drop (i+1))=_;rw[List.head?_drop];show _=uX (A[i]?) _ _;rw[hx]
def qfe{A o:List PU}:nrm A A.length o=o:=by unfold nrm;rw[List.drop_length];cases o9 A A.length<;>rfl
def TA{o:List PU}{u v:PU}(h:o[o.length-1]? =some u):o.set (o.length-1) v=jl o v:=by
 have hne:o≠[]:=fun e=>by rw[e] at h;simp at h
 have e:o=o.dropLast++[u]:=by
  have h2:o.getLast? =some u:=(by rw[List.getLast?_eq_getElem?];exact h);exact qh h2
 unfold jl;rw[e];simp
def AU(o:List PU)(prev:Option PU)(x:PU):Bool:=match prev with
 |some p=>if fJ p.i=true∧p.i.f=x.i.f∧qg o x.i.f=false then false else x.i.fo
 |none=>x.i.fo
section
variable{o:List PU}{prev next:Option PU}{x b:PU}
def qla(hi:fJ x.i=false)(hb:ui o x.i.f=some b)(h1:b.i.tp=false)(h2:b.f=x.f):kL o prev x next=jl o ⟨⟨b.i.f,x.i.t,b.i.fo,true⟩,b.f⟩:=by
 unfold kL;rw[hi,hb];dsimp only;rw[if_pos ⟨h1,h2⟩]
def qjx(hi:fJ x.i=false)(hb:ui o x.i.f=some b)(h:¬(b.i.tp=false∧b.f=x.f)):kL o prev x next=o++[⟨⟨x.i.f,x.i.t,AU o prev x,x.i.tp⟩,x.f⟩]:=by
 unfold kL;rw[hi,hb];dsimp only;rw[if_neg h];rfl
def qlb(hi:fJ x.i=false)(hb:ui o x.i.f=none):kL o prev x next=o++[⟨⟨x.i.f,x.i.t,AU o prev x,x.i.tp⟩,x.f⟩]:=by
 unfold kL;rw[hi,hb];rfl
def qlc(hi:fJ x.i=true)(hb:ui o x.i.f=some b)(h:pJ b.f x.f x.i.f=true):kL o prev x next=jl o ⟨⟨b.i.f,b.i.t,b.i.fo,false⟩,b.f⟩:=by
 unfold kL;rw[hi,hb];dsimp only;rw[if_pos h]
def zk(o:List PU)(next:Option PU)(x:PU):List PU:=match next with
 |some n=>if n.i.f=x.i.f∧pJ n.f x.f x.i.f=true then o else o++[⟨x.i,jg x.f x.i.f⟩]
 |none=>o++[⟨x.i,jg x.f x.i.f⟩]
def qld(hi:fJ x.i=true)(hb:ui o x.i.f=some b)(h:pJ b.f x.f x.i.f=false):kL o prev x next=zk o next x:=by
 unfold kL;rw[hi,hb];dsimp only;rw[if_neg (by rw[h];decide)];rfl
def qle(hi:fJ x.i=true)(hb:ui o x.i.f=none):kL o prev x next=zk o next x:=by
 unfold kL;rw[hi,hb];rfl
def qfZ(h:prev=none):AU o prev x=x.i.fo:=by rw[h];rfl
def GH{p:PU}(h:prev=some p)(h1:¬(fJ p.i=true∧p.i.f=x.i.f∧qg o x.i.f=false)):AU o prev x=x.i.fo:=by
 rw[h];unfold AU;dsimp only;rw[if_neg h1]
def qb3{p:PU}(h:prev=some p)(h1:fJ p.i=true)(h2:p.i.f=x.i.f)(h3:qg o x.i.f=false):AU o prev x=false:=by
 rw[h];unfold AU;dsimp only;rw[if_pos ⟨h1,h2,h3⟩]
def qf0(h:next=none):zk o next x=o++[⟨x.i,jg x.f x.i.f⟩]:=by rw[h];rfl
def qhV{n:PU}(h:next=some n)(h1:n.i.f=x.i.f)(h2:pJ n.f x.f x.i.f=true):zk o next x=o:=by rw[h];unfold zk;dsimp only;rw[if_pos ⟨h1,h2⟩]
def Vk{n:PU}(h:next=some n)(h1:¬(n.i.f=x.i.f∧pJ n.f x.f x.i.f=true)):zk o next x=o++[⟨x.i,jg x.f x.i.f⟩]:=by rw[h];unfold zk;dsimp only;rw[if_neg h1]
end
def qjy{o:List PU}{next:Option PU}{x n:PU}(h:next=some n)(h1:n.i.f=x.i.f):zk o next x=if pJ n.f x.f x.i.f=true then o else o++[⟨x.i,jg x.f x.i.f⟩]:=by
 cases hs:pJ n.f x.f x.i.f
 ·rw[Vk h (fun e=>by rw[hs] at e;cases e.2)];rfl
 ·rw[qhV h h1 hs];rfl
def TB{A:List PU}{i:Nat}{p:PU}(hi:0<i)(hp:A[i-1]? =some p):o9 A i=some p:=by
 obtain⟨j,rfl⟩:∃j,i=j+1:=⟨i-1,by omega⟩;exact hp
def YS{S:Rl->Prop}{ρ:Rl->Int}(T:gU S ρ){l:List PU}(hs:qG ρ l)(he:Go.Via.Ends S l){i:Nat}{u x:PU}(hi:0<i)(hu:l[i-1]? =some u)(hx:l[i]? =some x):EZ u.i x.i=true:=by
 obtain⟨h1,rfl⟩:=List.getElem?_eq_some_iff.1 hu;obtain⟨h2,rfl⟩:=List.getElem?_eq_some_iff.1 hx;have:=List.pairwise_iff_getElem.1 hs.1 (i-1) i h1 h2 (by omega);exact(Sz T (he _ (List.getElem_mem h1)).2 (he _ (List.getElem_mem h2)).1).2 this
def KU{l:List PU}{a b:Nat}(hz:∀u∈l,jV u.i<=a∧jo u.f<=b):∀x∈aF l,jV x.i<=a∧jo x.f<=b:=fun x hx=>by
 obtain⟨u,hu,hx⟩:=List.mem_flatMap.1 hx;obtain⟨h1,h2⟩:=hz u hu;have h3:=kw u.i;have h4:=kz u.i;unfold iH at hx;rcases List.mem_append.1 hx with hx|hx
 ·split at hx
  ·cases hx
  ·rw[List.mem_singleton] at hx;subst hx;exact⟨xC (Nat.le_trans h3 h1) (Nat.le_trans h3 h1),h2⟩
 ·split at hx
  ·cases hx
  ·rcases List.mem_cons.1 hx with hx|hx
   ·subst hx;exact⟨xC (Nat.le_trans h3 h1) (Nat.le_trans h4 h1),h2⟩
   ·split at hx
    ·cases hx
    ·rw[List.mem_singleton] at hx;subst hx;exact⟨xC (Nat.le_trans h4 h1) (Nat.le_trans h4 h1),h2⟩
def Vl{o:List PU}{k n:Nat}{i:Iv}{f:Ln}(h:∀u∈o,jo u.f<=n)(hf:jo f<=n):∀u∈o.set k ⟨i,f⟩,jo u.f<=n:=fun u hu=>by
 rcases List.mem_or_eq_of_mem_set hu with h1|h1
 ·exact h u h1
 ·subst h1;exact hf
def Qk{o:List PU}{n:Nat}{i:Iv}{f:Ln}(h:∀u∈o,jo u.f<=n)(hf:jo f<=n):∀u∈o++[⟨i,f⟩],jo u.f<=n:=fun u hu=>by
 rcases List.mem_append.1 hu with h1|h1
 ·exact h u h1
 ·rw[List.mem_singleton] at h1;subst h1;exact hf
def Xe{f:Ln}{t:Rl}(hf:jo f<=1000)(ht:gY t<=1000):jo (jg f t)<=8000:=by
 have h3:=sO t;have a0:=rQ f;have a1:=rU f;have a2:=rV f;have a3:=rW f;have z:=wP;have h1:dw (wL (qx f) t.p)<=5000:=by
  have h:=xB (qx f) t.p;have e:dw (qx f).c2<=2:=z;have e0:dw (qx f).c0=dw f.x0:=rfl;have e1:dw (qx f).c1=dw f.x1:=rfl;omega
 have h2:dw (wL (qy f) t.p)<=5000:=by
  have h:=xB (qy f) t.p;have e:dw (qy f).c2<=2:=z;have e0:dw (qy f).c0=dw f.y0:=rfl;have e1:dw (qy f).c1=dw f.y1:=rfl;omega
 unfold jg
 split
 ·show max (max (dw (wL (qx f) t.p)) (dw 0)) (max (dw (wL (qy f) t.p)) (dw 0))<=8000;omega
 ·omega
end Go.Via
namespace Go.Proofs.YtaffcpfhedadhaaGreatDoor
open Go
def qff:Tryz.prog.underlying 242=some (.pointer 201):=by kernel_rfl
end Go.Proofs.YtaffcpfhedadhaaGreatDoor
namespace Go.Via
open Go
def kQ(s:sV):List Value:=[.int .u8 (s.time:Nat),.int .u8 (s.x:Nat),.int .u8 (s.y:Nat),.int .u8 (s.kind:Nat)]
def SpV(s:sV):Value:= .agg #[.int .u8 (s.time:Nat),.int .u8 (s.x:Nat),.int .u8 (s.y:Nat),.int .u8 (s.kind:Nat)]
def kJ:jh sV kQ 4:=⟨fun _=>rfl,fun x v hv=>List.all_eq_true.1 (show(kQ x).all (·.oneCell')=true from rfl) v hv⟩
def YT(s:sV):Prop:=s.time<256∧s.x<256∧s.y<256∧s.kind<256
def GI(s:zy):List Value:=[.bool (decide ((s.t:Rat).num<0)),.string (bQ (s.t:Rat).num.natAbs),.bool false,.string (dm (s.t:Rat)),.bool (decide ((s.x:Rat).num<0)),.string (bQ (s.x:Rat).num.natAbs),.bool false,.string (dm (s.x:Rat)),.bool (decide ((s.y:Rat).num<0)),.string (bQ (s.y:Rat).num.natAbs),.bool false,.string (dm (s.y:Rat))]
def SmV(s:zy):Value:= .agg #[.bool (decide ((s.t:Rat).num<0)),.string (bQ (s.t:Rat).num.natAbs),.bool false,.string (dm (s.t:Rat)),.bool (decide ((s.x:Rat).num<0)),.string (bQ (s.x:Rat).num.natAbs),.bool false,.string (dm (s.x:Rat)),.bool (decide ((s.y:Rat).num<0)),.string (bQ (s.y:Rat).num.natAbs),.bool false,.string (dm (s.y:Rat))]
def jh.subP{α:Type}{c:α->List Value}{k:Nat}(h:jh α c k)(pre:List Value){l:List α}{i:Nat}{x:α}(hx:l[i]? =some x)(o n:Nat)(hn:o+n<=k):((pre++ah c l).drop (pre.length+(i*k+o))).take n=((c x).drop o).take n:=by
 rw[List.drop_length_add_append];exact h.sub hx o n hn
def uk(last:zy)(s:sV):zy:=⟨last.t+1+(s.time%8:Nat),(s.x%64:Nat),(s.y%64:Nat)⟩
def swS(last:zy)(s:sV):zy:=⟨last.t,(s.y%64:Nat),(s.x%64:Nat)⟩
def ul(o:List PU)(alone:Bool)(f n:zy):PU:=⟨⟨rl (f.t:Rat),rl (n.t:Rat),!o.isEmpty&& !alone,false⟩,qen f n⟩
def lL(s:zy):PU:=⟨⟨rl (s.t:Rat),rl (s.t:Rat),false,false⟩,⟨(s.x:Rat),0,(s.y:Rat),0⟩⟩
def xH{α:Type}{l:List α}{i:Nat}{s:α}(hx:l[i]? =some s):l.drop i=s::l.drop (i+1):=by
 obtain⟨h1,h2⟩:=List.getElem?_eq_some_iff.1 hx;rw[<-h2,List.getElem_cons_drop]
section
variable{l:List sV}{i:Nat}{s:sV}{last:zy}{alone:Bool}{o:List PU}
def qb4(hx:l[i]? =some s)(hk:s.kind%8=0):iR (l.drop i) last alone o=iR (l.drop (i+1)) (uk last s) true o:=by
 rw[xH hx,iR];simp only[hk];rfl
def qb5(hx:l[i]? =some s)(hk:s.kind%8=1):iR (l.drop i) last alone o=iR (l.drop (i+1)) (uk last s) false (o++[ul o alone (swS last s) (uk last s)]):=by
 rw[xH hx,iR];simp only[hk];rfl
def qb6(hx:l[i]? =some s)(h0:s.kind%8≠0)(hk:s.kind%8≠1):iR (l.drop i) last alone o=iR (l.drop (i+1)) (uk last s) false (o++[ul o alone last (uk last s)]):=by
 rw[xH hx,iR];simp only[if_neg h0,if_neg hk,decide_eq_false h0];rfl
def Xf:iR (l.drop l.length) last alone o=if alone=true then o++[lL last] else o:=by
 rw[List.drop_length,iR];rfl
end
structure I9(s:zy)(n:Nat):Prop where
 t0:0<=s.t
 t1:s.t+8*n<=100
 x0:0<=s.x
 x1:s.x<=63
 y0:0<=s.y
 y1:s.y<=63
def GK{a:zy}{s:sV}{n:Nat}(h:I9 a (n+1)):I9 (uk a s) n:=by
 have h0:=h.t0;have h1:=h.t1;exact⟨by show 0<=a.t+1+_;omega,by show a.t+1+((s.time%8:Nat):Int)+8*n<=100;omega,by show(0:Int)<=((s.x%64:Nat):Int);omega,by show((s.x%64:Nat):Int)<=63;omega,by show(0:Int)<=((s.y%64:Nat):Int);omega,by show((s.y%64:Nat):Int)<=63;omega⟩
def qb7{a:zy}{s:sV}{n:Nat}(h:I9 a n):I9 (swS a s) n:=
 ⟨h.t0,h.t1,by show(0:Int)<=((s.y%64:Nat):Int);omega,by show((s.y%64:Nat):Int)<=63;omega,by show(0:Int)<=((s.x%64:Nat):Int);omega,by show((s.x%64:Nat):Int)<=63;omega⟩
def I9.t{a:zy}{n:Nat}(h:I9 a n):dw (a.t:Rat)<=2:=nV (by have:=h.t0;omega) (by have:=h.t1;omega)
def I9.x{a:zy}{n:Nat}(h:I9 a n):dw (a.x:Rat)<=2:=nV (by have:=h.x0;omega) (by have:=h.x1;omega)
def I9.y{a:zy}{n:Nat}(h:I9 a n):dw (a.y:Rat)<=2:=nV (by have:=h.y0;omega) (by have:=h.y1;omega)
def qfg{a b:zy}{m n:Nat}(ha:I9 a m)(hb:I9 b n):jo (qen a b)<=15:=by
 have dt:=Bi hb.t ha.t;have dx:=Bi hb.x ha.x;have dy:=Bi hb.y ha.y;have sx:=Eo dx dt;have sy:=Eo dy dt;have qx:=Bi ha.x (ww sx ha.t);have qy:=Bi ha.y (ww sy ha.t);unfold jo qen;dsimp only;omega
def Sm2(u:PU):Prop:=SmE 2 u.i.f∧SmE 2 u.i.t∧jo u.f<=15
def Xg{a:zy}{n:Nat}(h:I9 a n):SmE 2 (rl (a.t:Rat)):=⟨⟨_,rfl⟩,yV h.t (Nat.le_refl _)⟩
def Xh{o:List PU}{alone:Bool}{a b:zy}{m n:Nat}(ha:I9 a m)(hb:I9 b n):Sm2 (ul o alone a b):=⟨Xg ha,Xg hb,qfg ha hb⟩
def YU{a:zy}{n:Nat}(h:I9 a n):Sm2 (lL a):=⟨Xg h,Xg h,by
 have:=h.x;have:=h.y;have:=wP;show max (max (dw (a.x:Rat)) (dw 0)) (max (dw (a.y:Rat)) (dw 0))<=15;omega⟩
def yZ{α:Type}{P:α->Prop}{o:List α}{x:α}(ho:∀u∈o,P u)(hx:P x):∀u∈o++[x],P u:=fun u hu=>by
 rcases List.mem_append.1 hu with h|h
 ·exact ho u h
 ·rw[List.mem_singleton] at h;exact h▸hx
def DX:∀{l:List sV} {last:zy} {alone:Bool} {o:List PU},I9 last l.length->(∀u∈o,Sm2 u)->∀u∈iR l last alone o,Sm2 u
 |[],last,alone,o,h,ho=>by
  rw[iR]
  split
  ·exact yZ ho (YU h)
  ·exact ho
 |s::l,last,alone,o,h,ho=>by
  by_cases h0:s.kind%8=0
  ·rw[show iR (s::l) last alone o=iR l (uk last s) true o from qb4 (l:=s::l) (i:=0) rfl h0];exact DX (GK h) ho
  ·by_cases h1:s.kind%8=1
   ·rw[show iR (s::l) last alone o=_ from qb5 (l:=s::l) (i:=0) rfl h1];exact DX (l:=l) (GK h) (yZ ho (Xh (qb7 h) (GK h)))
   ·rw[show iR (s::l) last alone o=_ from qb6 (l:=s::l) (i:=0) rfl h0 h1];exact DX (l:=l) (GK h) (yZ ho (Xh h (GK h)))
def Ja:∀{l:List sV} {last:zy} {alone:Bool} {o:List PU},(alone=true∨0<o.length)->0<(iR l last alone o).length∧(iR l last alone o).length<=o.length+l.length+1
 |[],last,alone,o,h=>by
  rw[iR]
  split
  ·simp
  ·rename_i ha;exact⟨h.resolve_left ha,by simp⟩
 |s::l,last,alone,o,h=>by
  by_cases h0:s.kind%8=0
  ·rw[show iR (s::l) last alone o=iR l (uk last s) true o from qb4 (l:=s::l) (i:=0) rfl h0];have:=Ja (l:=l) (last:=uk last s) (alone:=true) (o:=o) (.inl rfl);simp only[List.length_cons];omega
  ·by_cases h1:s.kind%8=1
   ·rw[show iR (s::l) last alone o=_ from qb5 (l:=s::l) (i:=0) rfl h1];have:=Ja (l:=l) (last:=uk last s) (alone:=false) (o:=o++[ul o alone (swS last s) (uk last s)]) (.inr (by simp));simp only[List.length_append,List.length_cons,List.length_nil] at this ⊢;rw[show List.drop (0+1) (s::l)=l from rfl];omega
   ·rw[show iR (s::l) last alone o=_ from qb6 (l:=s::l) (i:=0) rfl h0 h1];have:=Ja (l:=l) (last:=uk last s) (alone:=false) (o:=o++[ul o alone last (uk last s)]) (.inr (by simp));simp only[List.length_append,List.length_cons,List.length_nil] at this ⊢;rw[show List.drop (0+1) (s::l)=l from rfl];omega
def st0(t x y:Nat):zy:=⟨(t%16:Nat),(x%64:Nat),(y%64:Nat)⟩
def KW{t x y n:Nat}(hn:n<=6):I9 (st0 t x y) n:=⟨by show(0:Int)<=((t%16:Nat):Int);omega,by show((t%16:Nat):Int)+8*n<=100;omega,by show(0:Int)<=((x%64:Nat):Int);omega,by show((x%64:Nat):Int)<=63;omega,by show(0:Int)<=((y%64:Nat):Int);omega,by show((y%64:Nat):Int)<=63;omega⟩
def GL(t x y:Nat)(l:List sV):List PU:=iR l (st0 t x y) true []
def yz{t x y:Nat}{l:List sV}(h6:l.length<=6):iF t x y l=qK (GL t x y l):=by
 unfold iF GL;rw[List.take_of_length_le h6];rfl
section
variable{t x y:Nat}{l:List sV}
def GM(h6:l.length<=6):Go.Via.Ends (SmE 2) (GL t x y l):=fun u hu=>by
 have h:=DX (l:=l) (KW h6) (o:=[]) (by simp) u hu;exact⟨h.1,h.2.1⟩
def KX{t x y:Nat}{l:List sV}:qG jE (GL t x y l):=(BO (l:=l) (last:=st0 t x y) (alone:=true) (out:=[]) ⟨List.Pairwise.nil,by simp⟩ (by simp[Go.Via.Ends]) (by simp)).1
def KY(h6:l.length<=6):0<(GL t x y l).length∧(GL t x y l).length<=7:=by
 have:=Ja (l:=l) (last:=st0 t x y) (alone:=true) (o:=[]) (.inl rfl);unfold GL;simp only[List.length_nil] at this;omega
def Xi(h6:l.length<=6):∀u∈GL t x y l,jV u.i<=1000∧jo u.f<=1000:=fun u hu=>by
 have h:=DX (l:=l) (KW h6) (o:=[]) (by simp) u hu;exact⟨xC (Nat.le_trans h.1.2 (by omega)) (Nat.le_trans h.2.1.2 (by omega)),Nat.le_trans h.2.2 (by omega)⟩
def TC{f:Ln}{t:Rl}(hf:jo f<=15)(ht:gY t<=2):jo (jg f t)<=100:=by
 have h3:=sO t;have a0:=rQ f;have a1:=rU f;have a2:=rV f;have a3:=rW f;have z:=wP;have h1:dw (wL (qx f) t.p)<=50:=by
  have h:=xB (qx f) t.p;have e:dw (qx f).c2<=2:=z;have e0:dw (qx f).c0=dw f.x0:=rfl;have e1:dw (qx f).c1=dw f.x1:=rfl;omega
 have h2:dw (wL (qy f) t.p)<=50:=by
  have h:=xB (qy f) t.p;have e:dw (qy f).c2<=2:=z;have e0:dw (qy f).c0=dw f.y0:=rfl;have e1:dw (qy f).c1=dw f.y1:=rfl;omega
 unfold jg
 split
 ·show max (max (dw (wL (qx f) t.p)) (dw 0)) (max (dw (wL (qy f) t.p)) (dw 0))<=100;omega
 ·omega
def OA(h6:l.length<=6):Go.Via.Ends (SmE 2) (iF t x y l):=by
 rw[yz h6];exact(NY (Ov 2) (KX) (GM h6)).2
def KZ(h6:l.length<=6):Hu (iF t x y l):=fun u hu=>by
 have he:=OA h6 u hu;refine⟨xC (Nat.le_trans he.1.2 (by omega)) (Nat.le_trans he.2.2 (by omega)),?_⟩;rw[yz h6] at hu;refine NZ (P:=fun f=>jo f<=100) (fun v hv=>?_) u hu;have h:=DX (l:=l) (KW h6) (o:=[]) (by simp) v hv;exact⟨Nat.le_trans h.2.2 (by omega),TC h.2.2 h.1.2,TC h.2.2 h.2.1.2⟩
def La(h6:l.length<=6):(iF t x y l).length<=21:=by
 rw[yz h6];have:= @N7 (GL t x y l);have:=(KY (t:=t) (x:=x) (y:=y) h6).2;omega
end
def TD{t x y u v w:Nat}{l m:List sV}:Fz (iF t x y l) (iF u v w m):=⟨(EX t x y l).1,(EX u v w m).1,(EX t x y l).2,(EX u v w m).2⟩
def jh.neP{α:Type}{c:α->List Value}{k:Nat}(h:jh α c k)(hk:0<k)(pre:List Value){l:List α}(hl:0<l.length):pre++ah c l≠[]:=fun e=>h.ne hk hl (List.append_eq_nil_iff.1 e).2
def Xj{f a:zy}{s:sV}(h:f.t=a.t):((uk a s).t:Rat)-(f.t:Rat)≠0:=fun e=>by
 have e1:((uk a s).t:Rat)=(f.t:Rat):=(by grind);have e2:=Rat.intCast_inj.1 e1;rw[h] at e2;have e3:a.t+1+((s.time%8:Nat):Int)=a.t:=e2;omega
def qfh{n:Nat}{a:zy}(h:I9 a n):(if-9223372036854775808<=(a.t:Rat).num∧(a.t:Rat).num<=9223372036854775807 then(a.t:Rat).num else 0)=a.t:=by
 have h0:=h.t0;have h1:=h.t1;rw[Rat.num_intCast,if_pos ⟨by omega,by omega⟩]
def qhX{last:zy}{s:sV}{n:Nat}{f:zy}(h:I9 last n)(hf:f=if s.kind%8=1 then swS last s else last):I9 f n∧f.t=last.t:=by
 subst hf;split
 ·exact⟨qb7 h,rfl⟩
 ·exact⟨h,rfl⟩
def Xk{l:List sV}{i:Nat}{s:sV}{last f:zy}{alone:Bool}{o:List PU}(hx:l[i]? =some s)(h0:s.kind%8≠0)(hf:f=if s.kind%8=1 then swS last s else last):iR (l.drop i) last alone o=iR (l.drop (i+1)) (uk last s) false (o++[ul o alone f (uk last s)]):=by
 subst hf
 by_cases h1:s.kind%8=1
 ·rw[if_pos h1];exact qb5 hx h1
 ·rw[if_neg h1];exact qb6 hx h0 h1
def qfi{o:List PU}{alone:Bool}{f n:zy}(h:o.isEmpty=false):(ul o alone f n).i=⟨rl (f.t:Rat),rl (n.t:Rat),!alone,false⟩:=by unfold ul;rw[h];rfl
def qfj{o:List PU}{alone:Bool}{f n:zy}(h:o.isEmpty=true):(ul o alone f n).i=⟨rl (f.t:Rat),rl (n.t:Rat),false,false⟩:=by unfold ul;rw[h];rfl
end Go.Via
