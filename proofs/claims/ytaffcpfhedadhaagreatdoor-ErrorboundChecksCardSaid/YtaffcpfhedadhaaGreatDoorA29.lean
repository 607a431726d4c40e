/-
  Part 29 (chapter 32): lemmas, walks. Each theorem states its own conditions.
-/
import Derived.Lib.Repeat
import Derived.Test.YtaffcpfhedadhaaGreatDoorA21
import Derived.Test.YtaffcpfhedadhaaGreatDoorA27
set_option linter.all false
set_option maxRecDepth 20000
set_option maxHeartbeats 20000000
section
variable{P Q:Prop}{T:Type}{R:T->Prop}
def qcr(h:P:=by
 refine A2 ?_;refine Tn2 3 4 ?_ ?_
 ·exact qvS
 ·exact qqS):=h
def qqS(h:P:=by
 refine A2 ?_;refine Rj 3 ?_
 ·refine ZZ ?_;exact qi6):=h
def qi6(h:P:=by
 refine Rj 5 ?_
 ·refine A2 ?_;exact⟨ak,rfl,⟨rfl,rfl,rfl,trivial⟩,rfl⟩):=h
def qvS(h:P:=by
 refine ZZ ?_;refine Rj 4 ?_
 ·refine A2 ?_;exact qi6):=h
def qqT(q:Q)(h:aj Q->P:=by intro q_;refine fJ [_,_] rfl rfl rfl (lI _ _ jS jS) ?_;exact q_.qq):=h ⟨q⟩
def qqU(q:Q)(h:aj Q->P:=by intro q_;refine fJ [_,_] rfl rfl rfl (En _ _ jS jS (qrR ae)) ?_;exact q_.qq):=h ⟨q⟩
def qqV(h:P:=by refine Om fun g1=>?_;refine mO (s:=1) (len:=i) (n2:=1) 1 2 (fun r=>[_,⟨some r.g,3,NV .i64 (row (i+1) (Fq z.natAbs)),r.n,true⟩,⟨some g1,3,_,1,true⟩]) BH el3 rfl rfl rfl rfl rfl rfl rfl rfl rfl rfl rfl rfl Ro ae WV rfl (Go.Via.one_cell _ _) ae (fun r=>congrArg (fun c=>[_,(⟨some r.g,3,c,r.n,true⟩:aF),⟨some g1,3,_,1,true⟩]) (G8 _ _ _ _ (rfl))) (fun r=>?_);refine A5 ?_;refine(Dv (im z (i+1))) (congrArg some (qox z i h1 h2)) ?_;refine A4 ?_;exact Nl ⟨(i+1,some r.g,r.n,r.cap),hlt,r.h,WW⟩ (hμ:=(by show nb z.natAbs-(i+1)<nb z.natAbs-i;omega)) (hL:=fE.auto)):=h
def qi7(h:P:=by refine(Cv z lM u3) qji ?_;refine A7 ?_;refine bT rfl (ax rfl) (ax rfl) (fun w hL=>⟨?_,hL.below⟩);rw[(Q3 (z:=z) ae).1,(Q3 (z:=z) ae).2]):=h
def qi8(h:P:=by
 refine A2 ?_;refine Tn2 0 3 ?_ ?_
 ·exact qcr
 ·exact qtp):=h
def ZW(h:P:=by refine bT rfl (ax rfl) (ax rfl) (fun w hL=>⟨?_,hL.below⟩);exfalso;omega):=h
def qtp(h:P:=by
 refine ZZ ?_;refine Rj 0 ?_
 ·refine A2 ?_;refine Rj 4 ?_
  ·refine A2 ?_;exact qi6):=h
def qi9(h:P:=by refine bT rfl (ax rfl) (ax rfl) (fun w hL=>⟨?_,hL.below⟩);rw[(Wh (z:=z) ae).1,(Wh (z:=z) ae).2]):=h
def qja(h:P:=by refine jq ?_;refine Yd 2 ?_;exact congrArg (fun z=>Ending.returned (Q z)) (Rat.sub_eq_add_neg p q).symm):=h
def ZX(h:P:=by refine mY ?_;refine Yd 1 ?_;exact rfl):=h
def qjb(q:∀x,R x)(h:aj (∀x,R x)->P:=by intro q_;refine FP ?_;refine fJ [_,_] rfl rfl rfl (EL _ _ jS jS) ?_;refine yB fun g3=>?_;exact q_.qq g3):=h ⟨q⟩
def ZY(q:Q)(h:aj Q->P:=by intro q_;refine Jk ?_;refine A1 ?_;refine ww ?_;refine A1 ?_;refine ww ?_;refine Ss 2 ?_;refine CP ?_;exact q_.qq):=h ⟨q⟩
def Ux(q:Q)(h:aj Q->P:=by intro q_;refine FP ?_;refine(Bu [(0,_),(1,_)]) (Tt) ?_;refine jq ?_;refine Yd 2 ?_;exact q_.qq):=h ⟨q⟩
def qjc(q:Q)(h:aj Q->P:=by intro q_;refine fJ [_,_] rfl rfl rfl (Jp _ _ jS jS) ?_;refine A4 ?_;exact q_.qq):=h ⟨q⟩
def qjd(h:P:=by
 refine A2 ?_;refine Tn2 2 4 ?_ ?_
 ·exact qcr
 ·refine A2 ?_;refine Rj 2 ?_
  ·exact qqS):=h
def qje(h:P:=by rw[if_pos h];exact Bq (Nat.le_trans (qA _) (Nat.le_trans h1 hn))):=h
def qjf(q:Q)(h:aj Q->P:=by intro q_;refine Dp [] [0,1,3,4,2,5,6,7] ?_;refine L2 0 0 ?_;refine L2 3 0 ?_;refine L2 1 0 ?_;refine L2 3 0 ?_;refine qqU ?_;refine qqU ?_;refine Ss 0 ?_;refine uq ?_;refine Di [] ?_;refine L2 1 0 ?_;refine Pc (qw) ?_;refine mM rfl rfl rfl rfl qnv (qxK _ _) ?_;exact q_.qq):=h ⟨q⟩
def Jn(q:Q)(h:aj Q->P:=by intro q_;refine Pc (jr _) ?_;refine qqT ?_;exact q_.qq):=h ⟨q⟩
def uo(q:Q)(h:aj Q->P:=by intro q_;refine Ss 2 ?_;refine A4 ?_;exact q_.qq):=h ⟨q⟩
def yB(q:∀x,R x)(h:aj (∀x,R x)->P:=by intro q_;refine Al 2 QH (fun g3=>?_);exact q_.qq g3):=h ⟨q⟩
def yC(q:∀x,R x)(h:aj (∀x,R x)->P:=by intro q_;refine Al 2 QH (fun g2=>?_);exact q_.qq g2):=h ⟨q⟩
def uq(q:Q)(h:aj Q->P:=by intro q_;refine Ss 1 ?_;refine A4 ?_;exact q_.qq):=h ⟨q⟩
def wE(q:Q)(h:aj Q->P:=by intro q_;refine Di [] ?_;refine A1 ?_;exact q_.qq):=h ⟨q⟩
def ZZ(q:Q)(h:aj Q->P:=by intro q_;refine(Dv ((u%v:Nat):Int)) (congrArg some (lW _ _ rfl rfl)) ?_;refine A1 ?_;exact q_.qq):=h ⟨q⟩
def zY(q:Q)(h:aj Q->P:=by intro q_;refine Ss 4 ?_;refine A3 ?_;exact q_.qq):=h ⟨q⟩
def CP(q:Q)(h:aj Q->P:=by intro q_;refine Ss 3 ?_;refine A4 ?_;exact q_.qq):=h ⟨q⟩
def CQ(q:Q)(h:aj Q->P:=by intro q_;refine Ss 2 ?_;refine A5 ?_;exact q_.qq):=h ⟨q⟩
def qjg(q:Q)(h:aj Q->P:=by intro q_;refine A6 ?_;refine L2 0 2 ?_;refine(Bu []) (Np) ?_;refine mM rfl rfl rfl rfl qnv (qbC _ _ _ _) ?_;exact q_.qq):=h ⟨q⟩
def OM(q:Q)(h:aj Q->P:=by intro q_;refine A1 ?_;refine L2 0 0 ?_;refine A1 ?_;exact q_.qq):=h ⟨q⟩
def qjh(h:P:=by rw[DN] at haQ;simpa using haQ):=h
def qji(h:P:=by exact(by rw[IntKind.wrap_i64];omega)):=h
def jS(h:P:=by first|assumption|grind [qrS,qrT,qrU,qrV,qrW,Yl,Ym,iQ,gX,bW,qfM,Na,qxs]):=h
def qjj(h:P:=by rw[DN] at hcQ;simpa using hcQ):=h
def OO(h:P:=by rw[haQ];decide):=h
def Uy(h:P:=by rintro(h|h);exact h0 h;exact h1 h):=h
def qjk(h:P:=by rw[Be];exact Nat.le_trans (Nat.le_max_left ..) h):=h
end
namespace Go.Proofs.YtaffcpfhedadhaaGreatDoor
variable[Go.Via.Mo]
open Go Go.RowKit Go.Via
def EL(a b:Int)(ha:ji a<=67108864:=by omega)(hb:ji b<=67108864:=by omega):aG Tryz.prog 157 #[I a,I b] (I (Int.gcd a b)):=by
 refine nX 45 Tryz.func157 fun w=>?_;refine lQ fun g0=>?_;refine Bp 2 (fun g1=>?_);refine yC fun g2=>?_;refine A3 ?_;refine Di [2000000] ?_;refine lh ?_;refine El (ι:={x:Nat×Nat // Nat.gcd x.1 x.2=Int.gcd a b∧nb x.1<=67108864∧nb x.2<=67108864}) (fun⟨⟨x,y⟩,hg,hx,hy⟩=>([(4,dA g2),(5,.string (bH x)),(6,.string (bH y))],[⟨some g0,34,[.bool (decide (a<0)),.string (bH a.natAbs)],2,true⟩,⟨some g1,34,[.bool (decide (b<0)),.string (bH b.natAbs)],2,true⟩,⟨some g2,34,[aQ,aS],2,true⟩],y)) ⟨(a.natAbs,b.natAbs),rfl,ha,hb⟩ ?_;rintro⟨⟨x,y⟩,hg,hx,hy⟩;(try dsimp only);refine A7 ?_;refine Cd ?_ ?_<;>intro haQ
 ·have hy0:y≠0:=qjh
  refine A8 ?_;refine Ot ?_;refine Cd ?_ ?_<;>intro hbQ
  ·obtain⟨hw1,hw2,hw3,hw4⟩:=G5 hbQ;refine eG 7 (.int .u64 (x:Nat)) rfl (by rw[if_pos hw3]) ?_;refine eG 8 (.int .u64 (y:Nat)) rfl (by rw[if_pos hw4]) ?_;refine A2 ?_;refine El (ι:={x:Nat×Nat // Nat.gcd x.1 x.2=Int.gcd a b∧x.1<18446744073709551616∧x.2<18446744073709551616}) (fun⟨⟨u,v⟩,hg2,hu,hv⟩=>([(4,dA g2),(7,.int .u64 (u:Nat)),(8,.int .u64 (v:Nat))],[⟨some g0,34,[.bool (decide (a<0)),.string (bH a.natAbs)],2,true⟩,⟨some g1,34,[.bool (decide (b<0)),.string (bH b.natAbs)],2,true⟩,⟨some g2,34,[aQ,aS],2,true⟩],v)) ⟨(x,y),hg,hw1,hw2⟩ ?_;rintro⟨⟨u,v⟩,hg2,hu,hv⟩;(try dsimp only);refine A7 ?_;refine Cd ?_ ?_<;>intro hcQ
   ·have hv0:v≠0:=by have:=bne_iff_ne.1 hcQ;omega
    refine A3 ?_;refine qnx [(4,dA g2),(7,.int .u64 (v:Nat)),(8,.int .u64 (u%v:Nat))] [⟨some g0,34,[.bool (decide (a<0)),.string (bH a.natAbs)],2,true⟩,⟨some g1,34,[.bool (decide (b<0)),.string (bH b.natAbs)],2,true⟩,⟨some g2,34,[aQ,aS],2,true⟩] mixed ?_ ?_
    ·refine Tn3 0 1 2 ?_ ?_ ?_
     ·refine A2 ?_;refine Tn2 1 2 ?_ ?_
      ·exact qjd
      ·refine A2 ?_;refine Rj 1 ?_
       ·exact qcr
     ·refine A2 ?_;refine Tn2 0 2 ?_ ?_
      ·exact qjd
      ·exact qi8
     ·refine A2 ?_;refine Tn2 0 1 ?_ ?_
      ·refine A2 ?_;refine Rj 1 ?_
       ·exact qcr
      ·exact qi8
    refine A2 ?_;exact Nl ⟨(v,u%v),by rw[<-hg2];exact Wi u v,hv,Nat.lt_of_le_of_lt (Nat.mod_le _ _) hu⟩ (hμ:=(Nat.mod_lt _ (Nat.pos_of_ne_zero hv0)))
   ·have hv0:v=0:=by have:=Wj hcQ;omega
    subst hv0;rw[Nat.gcd_zero_right] at hg2;refine A8 ?_;refine Pc (iW _ hu) ?_;refine ww ?_;refine Ss 2 ?_;refine A8 ?_;refine Ed2 2 ?_;exact congrArg (fun z=>Ending.returned (I z)) (qbZ hg2)
  ·refine A6 ?_;refine Pc (sH _ _ hx hy hy0) ?_;refine II ?_;exact Nl ⟨(y,x%y),by rw[<-hg];exact Wi x y,hy,Nat.le_trans (gu (Nat.mod_le _ _)) hx⟩ (hμ:=(Nat.mod_lt _ (Nat.pos_of_ne_zero hy0)))
 ·have hy0:y=0:=qjh
  subst hy0;rw[Nat.gcd_zero_right] at hg;refine A8 ?_;refine ww ?_;refine jq ?_;refine Ed2 2 ?_;exact congrArg (fun z=>Ending.returned (I z)) (qbZ hg)
def KT(z:Int):aG Tryz.prog 85 #[I z] (.tuple #[.int .i64 (if-9223372036854775808<=z∧z<=9223372036854775807 then z else 0),.bool (decide (-9223372036854775808<=z∧z<=9223372036854775807))]):=by
 refine vC 35 Tryz.func85 fun w=>?_;refine lQ fun g0=>?_;refine A8 ?_;refine Pc (vX _) ?_;refine Yc ?_;refine Cd ?_ ?_<;>intro haQ
 ·refine A9 ?_;refine bT rfl (ax rfl) (ax rfl) (fun w hL=>⟨?_,hL.below⟩);rw[(QZ haQ).1,(QZ haQ).2]
 ·have h8:=nb8 haQ;have h64:=pz h8;refine eG 4 (.int .u64 (z.natAbs:Nat)) rfl (by rw[if_pos h8]) ?_;refine A5 ?_;refine Rs 18 ?_ ?_<;>intro hbQ
  ·have hz:z<0:=of_decide_eq_true hbQ;refine A6 ?_;refine Cd ?_ ?_<;>intro hcQ
   ·have hu:=of_decide_eq_true hcQ;refine A3 ?_;refine qfT (r:=(0-(z.natAbs:Nat):Int)%18446744073709551616) rfl rfl rfl ((qm4 _)) ?_;exact qi7
   ·have hu:=of_decide_eq_false hcQ;refine A6 ?_;refine Rs 29 ?_ ?_<;>intro hdQ
    ·have hz2:¬z<0:=by simpa using hdQ
     refine A6 ?_;refine Cd ?_ ?_<;>intro heQ
     ·have hu:=of_decide_eq_true heQ;refine A3 ?_;refine(Cv z lM u3) qji ?_;refine A7 ?_;exact ZW
     ·have hu:=of_decide_eq_false heQ;refine lh ?_;exact ZW
    ·have hz2:z<0:=by simpa using hdQ
     refine PX ?_;exact qi9
  ·have hz:¬z<0:=of_decide_eq_false hbQ;refine EE ?_;refine Rs 29 ?_ ?_<;>intro hcQ
   ·have hz2:¬z<0:=by simpa using hcQ
    refine A6 ?_;refine Cd ?_ ?_<;>intro hdQ
    ·have hu:=of_decide_eq_true hdQ;refine A3 ?_;exact qi7
    ·have hu:=of_decide_eq_false hdQ;refine lh ?_;exact qi9
   ·have hz2:z<0:=by simpa using hcQ
    refine PX ?_;exact ZW
def Aw(b:Bool)(s:ByteArray):aG Tryz.prog 154 #[.agg #[.bool b,.string s]] (.int .i64 (if lq b s=true then 5 else 0)):=by
 refine vC 21 Tryz.func154 fun w=>?_;refine lQ fun g0=>?_;refine lh ?_;refine Rs 6 ?_ ?_<;>intro haQ
 ·have he:=Y4 haQ;refine A4 ?_;refine Rs 10 ?_ ?_<;>intro hbQ
  ·refine A20 ?_;refine E0 ?_;rw[if_pos (qsG he hbQ)]
  ·refine A4 ?_;refine Rs 14 ?_ ?_<;>intro hcQ
   ·exact absurd hcQ (by rw[he,bne,Bv];decide)
   ·refine PX ?_;refine E0 ?_;rw[if_neg (qsH he hbQ)]
 ·obtain⟨x,l,he⟩:=qvj haQ;refine A8 ?_;refine Rs 14 ?_ ?_<;>intro hbQ
  ·refine A2 ?_;refine zu (b:=x) (r:=(x.toNat:Int)) u9 rfl rfl rfl rfl ae (by rw[he];rfl) rfl ?_;refine A5 ?_;refine Cd ?_ ?_<;>intro hcQ
   ·refine ng ?_;rw[if_pos (qsI he hcQ)]
   ·refine mZ ?_;rw[if_neg (qsJ haQ he hcQ)]
  ·exact absurd hbQ (by rw[bne,haQ];decide)
end Go.Proofs.YtaffcpfhedadhaaGreatDoor
namespace Go.Proofs.YtaffcpfhedadhaaGreatDoor
variable[Go.Via.Mo]
open Go Go.RowKit Go.Via
def H9(n d:Int)(hd:d≠0:=by omega)(hn:ji n<=8388608:=by omega)(hdn:ji d<=8388608:=by omega):aG Tryz.prog 64 #[I n,I d] (Q (Rat.divInt n d)):=by
 refine nX 16 Tryz.func64 fun w=>?_;refine lQ fun g0=>?_;refine Bp 2 (fun g1=>?_);refine lg fun g2=>?_;refine A3 ?_;refine Dp [] [0,1,2,3,4,5,7,6,8,9,10,11] ?_;refine A4 ?_;refine Jk ?_;refine FP ?_;refine(Sc []) (kC n (Nat.le_trans hn (Nat.le_of_ble_eq_true rfl))) (fun xn=>?_);refine(Sc []) (kC d (Nat.le_trans hdn (Nat.le_of_ble_eq_true rfl))) (fun xd=>?_);refine CB ?_;refine(Sd [3,4]) (iK n.natAbs d.natAbs (decide (n<0) !=decide (d<0)) ae (Nat.le_trans hn (Nat.le_of_ble_eq_true rfl)) (Nat.le_trans hdn (Nat.le_of_ble_eq_true rfl)) xn xd) ?_;refine aP 15 (Q (Rat.divInt n d)) rfl (congrArg Q (qol n d hd)) ?_;exact FT
def xU(z:Int)(h1: -9223372036854775808<=z:=by omega)(h2:z<=9223372036854775807:=by omega):aG Tryz.prog 65 #[.int .i64 z] (I z):=by
 have hnb:nb z.natAbs<=8:=oh ae;refine vC 25 Tryz.func65 fun w=>?_;refine Oo fun g0=>?_;refine II ?_;refine El (ι:={x:Nat×Option Nat×Nat×Nat // x.1<=nb z.natAbs∧x.1<=x.2.2.2∧x.2.2.2<=x.2.2.1}) (fun⟨⟨i,ob,oN,oc⟩,hi,h3,h4⟩=>([(0,.int .i64 z),(2,dA g0),(3,aB ob 0 i oc),(4,.int .i64 (im z i))],[⟨some g0,34,[aQ,aS],2,true⟩,⟨ob,3,NV .i64 (row i (Fq z.natAbs)),oN,true⟩],nb z.natAbs-i)) ⟨(0,none,0,0),Nat.zero_le _,Nat.le_refl _,Nat.le_refl _⟩ ?_ (ht:=⟨rfl,rfl,rfl,(aO rfl (congrArg (Value.int .i64) (qot z).symm)),trivial⟩) (hL:=(ay [some 0,none] ⟨pR,⟨rfl,rfl,rfl⟩,trivial⟩ rfl rfl));rintro⟨⟨i,ob,oN,oc⟩,hi,h3,h4⟩;(try dsimp only);replace hi:i<=nb z.natAbs:=hi;replace h3:i<=oc:=h3;replace h4:oc<=oN:=h4;have hdg:=BU z.natAbs i;refine A7 ?_;refine Cd ?_ ?_<;>intro haQ
 ·have hlt:=qvo haQ;refine A6 ?_;refine(Dv (imR z i)) (congrArg some (qou z i)) ?_;refine lh ?_;refine Cd ?_ ?_<;>intro hbQ
  ·have HB12:=hbQ;refine A2 ?_;refine(Aq ((Fq z.natAbs i:Nat):Int)) (congrArg some (qov (of_decide_eq_true HB12))) ?_;refine A7 ?_;exact qqV
  ·refine eG 5 (bF (Fq z.natAbs i)) rfl (congrArg (Value.int .i64) (qow (of_decide_eq_false hbQ))) ?_;refine A6 ?_;exact qqV
 ·have hge:=qsV haQ hi;subst hge;refine lh ?_;refine iD [_,_] [1] rfl rfl rfl (sG z.natAbs (decide (z<0)) ae ⟨ob,oN,oc,h3⟩) ⟨⟨_,rfl,⟨rfl,rfl,rfl,⟨nb z.natAbs,by rw[NT,List.take_of_length_le (by rw[jJ,lG];exact Nat.le_refl _)]⟩,fun h=>Ak⟩⟩,trivial⟩ rfl ?_;refine aP 24 (I z) rfl (congrArg I (by by_cases hz:z<0<;>simp[hz]<;>omega)) ?_;refine Jj ?_;exact rfl
def iU(a b:Int)(ha1: -9223372036854775808<=a:=by omega)(ha2:a<=9223372036854775807:=by omega)(hb1: -9223372036854775808<=b:=by omega)(hb2:b<=9223372036854775807:=by omega)(hb0:b≠0:=by omega):aG Tryz.prog 24 #[.int .i64 a,.int .i64 b] (Q (Rat.divInt a b)):=by
 refine nX 10 Tryz.func24 fun w=>?_;refine A2 ?_;refine Al 4 z36 (fun g0=>?_);refine A5 ?_;refine Pc (xU a ha1 ha2) ?_;refine A1 ?_;refine Pc (xU b hb1 hb2) ?_;refine Pc (H9 a b hb0 (qqh ha1 ha2) (qqh hb1 hb2)) ?_;refine Ss 0 ?_;refine A3 ?_;refine Yd 0 ?_;exact rfl
def Kw(q:Rat):aG Tryz.prog 67 #[Q q] (Q (-q)):=by
 refine vC 16 Tryz.func67 fun w=>?_;refine iH fun g0=>?_;refine rM fun g1=>?_;refine A9 ?_;refine Rs 7 ?_ ?_<;>intro haQ
 ·refine A7 ?_;refine Ss 0 ?_;refine A4 ?_;refine L4 0 0 ?_;refine mY ?_;refine Yd 1 ?_;exact congrArg Ending.returned (qsX haQ)
 ·refine A7 ?_;refine Ss 0 ?_;refine A4 ?_;refine L4 0 0 ?_;refine mY ?_;refine Yd 1 ?_;exact congrArg Ending.returned (qsY haQ)
end Go.Proofs.YtaffcpfhedadhaaGreatDoor
namespace Go.Proofs.YtaffcpfhedadhaaGreatDoor
variable[Go.Via.Mo]
open Go Go.RowKit Go.Via
def fV(p q:Rat)(hp:bY p<=4194303:=by omega)(hq:bY q<=4194303:=by omega):aG Tryz.prog 63 #[Q p,Q q] (Q (p+q)):=by
 have e1:=MW hp;have e2:=MX hp;have e3:=MW hq;have e4:=MX hq;have m1:=o6 p.num.natAbs q.num.natAbs;have m2:=o6 p.num.natAbs q.den;have m3:=o6 q.num.natAbs p.den;have m4:=o6 p.den q.den;have m5:=o6 p.den q.num.natAbs;have dp:0<p.den:=Nat.pos_of_ne_zero p.den_nz;have dq:0<q.den:=Nat.pos_of_ne_zero q.den_nz;have dpq:0<p.den*q.den:=Nat.mul_pos dp dq;have m6:=Bf (p.num.natAbs*q.den) (q.num.natAbs*p.den);have m7:nb (p.num.natAbs*q.den-q.num.natAbs*p.den)<=nb (p.num.natAbs*q.den):=gu (Nat.sub_le _ _);have m8:nb (q.num.natAbs*p.den-p.num.natAbs*q.den)<=nb (q.num.natAbs*p.den):=gu (Nat.sub_le _ _);refine nX 64 Tryz.func63 fun w=>?_;refine iH fun g0=>?_;refine Bp 4 (fun g1=>?_);refine lg fun g2=>?_;refine A3 ?_;refine qi4 fun x=>?_;refine ZU fun y=>?_;refine Al 3 qdA (fun g3=>?_);refine Al 3 qdA (fun g4=>?_);refine Ss 7 ?_;refine Ss 8 ?_;refine A3 ?_;refine Dp [] [0,1,2,3,5,6,7,8,4,9,10,11] ?_;refine A8 ?_;refine(Sc [3,6]) (jg (p.num.natAbs) (q.den) ae ae x.1 y.2) (fun zP=>?_);refine(Sc [5,4]) (jg (q.num.natAbs) (p.den) ae ae y.1 x.2) (fun zQ=>?_);refine lh ?_;refine(Sc [4,6]) (jg (p.den) (q.den) ae ae x.2 y.2) (fun zD=>?_);refine qX ?_;refine IV rfl u4 rfl rfl rfl ?_;refine A3 ?_;refine Cd ?_ ?_<;>intro haQ
 ·have hs:=haQ;refine A1 ?_;refine Dp [] [0,1,2,3,5,4,6,7,8] ?_;refine A5 ?_;refine(Sc [9,10]) (kZ (p.num.natAbs*q.den) (q.num.natAbs*p.den) ae ae zP zQ) (fun zS=>?_);refine CB ?_;refine(Sd [12,11]) (iK (p.num.natAbs*q.den+q.num.natAbs*p.den) (p.den*q.den) (decide (p.num<0)) dpq ae ae zS zD) ?_;refine aP 42 (Q (p+q)) rfl (congrArg Q (qom p q hs)) ?_;refine CQ ?_;refine Yd 2 ?_;exact rfl
 ·have hs:=haQ;refine A4 ?_;refine(Sd [9,10]) (dW (p.num.natAbs*q.den) (q.num.natAbs*p.den) ae zP zQ) ?_;refine A4 ?_;refine Cd ?_ ?_<;>intro hbQ
  ·have hle:q.num.natAbs*p.den<=p.num.natAbs*q.den:=kL.1 (of_decide_eq_true hbQ);refine A1 ?_;refine Dp [] [0,1,2,3,5,4,6,7,8] ?_;refine A5 ?_;refine(Sc [9,10]) (yj (p.num.natAbs*q.den) (q.num.natAbs*p.den) ae hle zP zQ) (fun zS=>?_);refine CB ?_;refine(Sd [12,11]) (iK (p.num.natAbs*q.den-q.num.natAbs*p.den) (p.den*q.den) (decide (p.num<0)) dpq ae ae zS zD) ?_;refine aP 55 (Q (p+q)) rfl (congrArg Q (qon p q hs hle)) ?_;refine CQ ?_;refine Yd 2 ?_;exact rfl
  ·have hle:p.num.natAbs*q.den<=q.num.natAbs*p.den:=by have:=of_decide_eq_false hbQ;rw[kL] at this;omega
   refine A4 ?_;refine Dp [] [0,1,2,3,5,4,6,7,8] ?_;refine A5 ?_;refine(Sc [10,9]) (yj (q.num.natAbs*p.den) (p.num.natAbs*q.den) ae hle zQ zP) (fun zS=>?_);refine CB ?_;refine(Sd [12,11]) (iK (q.num.natAbs*p.den-p.num.natAbs*q.den) (p.den*q.den) (decide (q.num<0)) dpq ae ae zS zD) ?_;refine aP 63 (Q (p+q)) rfl (congrArg Q (qoo p q hs hle)) ?_;exact FT
end Go.Proofs.YtaffcpfhedadhaaGreatDoor
namespace Go.Proofs.YtaffcpfhedadhaaGreatDoor
variable[Go.Via.Mo]
open Go Go.RowKit Go.Via
def rU(z:Int):aG Tryz.prog 165 #[I z] (I (-z)):=by
 refine vC 9 Tryz.func165 fun w=>?_;refine lQ fun g0=>?_;refine Al 2 QH (fun g1=>?_);refine A9 ?_;refine ww ?_;refine mY ?_;refine Ed2 1 ?_;exact congrArg (fun z=>Ending.returned (I z)) (Yp z)
def yD(a b:Int)(ha:ji a<=67108864:=by omega)(hb:ji b<=67108864:=by omega):aG Tryz.prog 190 #[I a,I b] (I (a+b)):=by
 refine nX 42 Tryz.func190 fun w=>?_;refine lQ fun g0=>?_;refine Bp 2 (fun g1=>?_);refine yC fun g2=>?_;refine lh ?_;refine IV rfl u4 rfl rfl rfl ?_;refine A3 ?_;refine Cd ?_ ?_<;>intro haQ
 ·refine A1 ?_;refine Di [] ?_;refine A6 ?_;refine Pc (yw _ _ ha hb) ?_;refine ww ?_;refine CQ ?_;refine Ed2 2 ?_;exact congrArg (fun z=>Ending.returned (I z)) (VG a b haQ)
 ·refine A6 ?_;refine Pc (lX _ _) ?_;refine A4 ?_;refine Cd ?_ ?_<;>intro hbQ
  ·refine A1 ?_;refine Di [] ?_;refine A6 ?_;refine Pc (yx _ _ ha (qbl _ _ hbQ)) ?_;refine ww ?_;refine CQ ?_;refine Ed2 2 ?_;exact congrArg (fun z=>Ending.returned (I z)) (QA a b haQ (qbl _ _ hbQ))
  ·refine A4 ?_;refine Di [] ?_;refine A6 ?_;refine Pc (yx _ _ hb (qbm _ _ hbQ)) ?_;refine ww ?_;refine jq ?_;refine Ed2 2 ?_;exact congrArg (fun z=>Ending.returned (I z)) (QB a b haQ (qbm _ _ hbQ))
def lI(a b:Int)(ha:ji a<=67108864:=by omega)(hb:ji b<=67108864:=by omega):aG Tryz.prog 123 #[I a,I b] (I (a*b)):=by
 refine nX 16 Tryz.func123 fun w=>?_;refine lQ fun g0=>?_;refine Bp 2 (fun g1=>?_);refine yC fun g2=>?_;refine A3 ?_;refine Di [] ?_;refine A4 ?_;refine Jk ?_;refine A4 ?_;refine Pc (EK _ _ ha hb) ?_;refine ww ?_;refine jq ?_;refine Ed2 2 ?_;exact congrArg (fun z=>Ending.returned (I z)) (qbn a b)
def y8(a b:Int)(ha:ji a<=33554432:=by omega)(hb:ji b<=33554432:=by omega)(h0:b≠0:=by omega):aG Tryz.prog 201 #[I a,I b] (.tuple #[I (a/b),I (a%b),.int .i64 0]):=by
 have szle:nb a.natAbs<=67108864:=Nat.le_trans ha (Nat.le_of_ble_eq_true rfl);have szle2:nb b.natAbs<=67108864:=Nat.le_trans hb (Nat.le_of_ble_eq_true rfl);refine nX 43 Tryz.func201 fun w=>?_;refine lQ fun g0=>?_;refine Bp 2 (fun g1=>?_);refine yC fun g2=>?_;refine yB fun g3=>?_;refine qX ?_;refine Cd ?_ ?_<;>intro haQ
 ·exact absurd haQ (by rw[nT];simp;omega)
 ·refine A8 ?_;refine fJ [_,_] rfl rfl rfl (sH _ _ jS jS) ?_;refine EE ?_;refine Rs 24 ?_ ?_<;>intro hbQ
  ·refine A5 ?_;refine Cd ?_ ?_<;>intro hcQ
   ·refine Dp [] [0,2,3,4,1,5,6,7] ?_;refine A4 ?_;refine fJ [_,.string (bH 1)] rfl rfl (by rw[qa5];rfl) (yw _ _ (Nat.le_trans (EZ _ _) (Nat.le_trans ha (Nat.le_of_ble_eq_true rfl))) (Nat.le_trans (oh (k:=1) ae) (Nat.le_of_ble_eq_true rfl))) ?_;refine fJ [_,_] rfl rfl rfl (yx _ _ jS (Nat.le_of_lt (Nat.mod_lt _ ae))) ?_;refine lh ?_;refine ZY ?_;refine DJ rfl (bn 2 rfl rfl zy (vs:=[_,_]) rfl rfl (Nat.le_of_ble_eq_true rfl) rfl) (bn 3 rfl rfl zy (vs:=[_,_]) rfl rfl (Nat.le_of_ble_eq_true rfl) rfl) (ax rfl) (fun w hL=>⟨?_,hL.below⟩);have e:=qfL (a:=a) (b:=b) h0 Au qjj;rw[<-e.1,<-e.2];rfl
   ·refine A8 ?_;refine ZY ?_;refine DJ rfl (bn 2 rfl rfl zy (vs:=[_,_]) rfl rfl (Nat.le_of_ble_eq_true rfl) rfl) (bn 3 rfl rfl zy (vs:=[_,_]) rfl rfl (Nat.le_of_ble_eq_true rfl) rfl) (ax rfl) (fun w hL=>⟨?_,hL.below⟩);have e:=VF (a:=a) (b:=b) h0 (.inr qjj);rw[<-e.1,<-e.2];rfl
  ·refine FH ?_;refine ZY ?_;refine DJ rfl (bn 2 rfl rfl zy (vs:=[_,_]) rfl rfl (Nat.le_of_ble_eq_true rfl) rfl) (bn 3 rfl rfl zy (vs:=[_,_]) rfl rfl (Nat.le_of_ble_eq_true rfl) rfl) (ax rfl) (fun w hL=>⟨?_,hL.below⟩);have e:=VF (a:=a) (b:=b) h0 (.inl Au);rw[<-e.1,<-e.2];rfl
def qw:aG Tryz.prog 156 #[] (I 1):=by
 refine pB0 2 Tryz.func156 fun w=>?_;refine Oo fun g0=>?_;refine A4 ?_;refine Pc (lY 1) ?_;refine Jj ?_;exact rfl
def En(a b:Int)(ha:ji a<=33554432:=by omega)(hb:ji b<=33554432:=by omega)(h0:b≠0:=by omega):aG Tryz.prog 166 #[I a,I b] (I (a/b)):=by
 refine nX 16 Tryz.func166 fun w=>?_;refine lQ fun g0=>?_;refine Bp 2 (fun g1=>?_);refine yC fun g2=>?_;refine A4 ?_;refine FP ?_;refine Pc (y8 a b ha hb h0) ?_;refine A4 ?_;refine yB fun g3=>?_;refine Al 2 QH (fun g4=>?_);refine Ss 3 ?_;refine Ss 4 ?_;refine A5 ?_;refine L2 3 0 ?_;refine jq ?_;refine Ed2 2 ?_;exact rfl
def jO(n d:Int)(hn:ji n<=8388608:=by omega)(hd:ji d<=8388608:=by omega)(h0:d≠0:=by omega):aG Tryz.prog 122 #[I n,I d] (Q (Rat.divInt n d)):=by
 refine nX 29 Tryz.func122 fun w=>?_;refine lQ fun g0=>?_;refine Bp 2 (fun g1=>?_);refine lg fun g2=>?_;refine A5 ?_;refine L2 1 0 ?_;refine Pc (nG _) ?_;refine A3 ?_;refine Cd ?_ ?_<;>intro haQ
 ·refine Dp [] [0,2,1,3,4,5] ?_;refine FP ?_;refine Pc (rU _) ?_;refine Pc (rU _) ?_;refine Ss 0 ?_;refine uq ?_;refine qjb fun g3=>?_;refine oK ?_;refine qjf ?_;refine A2 ?_;refine Cd ?_ ?_<;>intro hbQ
  ·refine A1 ?_;refine(Bu []) (Np) ?_;refine uq ?_;refine Ux ?_;exact congrArg Ending.returned ((Tf (n:= -n) (d:= -d) (by have:=qbj haQ;omega) Au).trans (by rw[Rat.neg_divInt_neg]))
  ·refine A4 ?_;refine Ux ?_;exact congrArg Ending.returned ((Ti (n:= -n) (d:= -d) (by have:=qbj haQ;omega) Au).trans (by rw[Rat.neg_divInt_neg]))
 ·refine A4 ?_;refine qjb fun g3=>?_;refine oK ?_;refine qjf ?_;refine A2 ?_;refine Cd ?_ ?_<;>intro hbQ
  ·refine A1 ?_;refine(Bu []) (Np) ?_;refine uq ?_;refine Ux ?_;exact congrArg Ending.returned (Tf (qbk haQ h0) Au)
  ·refine A4 ?_;refine Ux ?_;exact congrArg Ending.returned (Ti (qbk haQ h0) Au)
def wF(q:Rat):aG Tryz.prog 145 #[Q q] (Q (-q)):=by
 refine vC 9 Tryz.func145 fun w=>?_;refine iH fun g0=>?_;refine rM fun g1=>?_;refine A3 ?_;refine Dp [] [0,1,3,4,2,5,6] ?_;refine OM ?_;refine L2 0 2 ?_;refine Pc (rU _) ?_;refine(Bu [(0,_),(1,_)]) (Tt) ?_;exact ZX
def Az(n d:Int)(hn:ji n<=8388608:=by omega)(hd:ji d<=8388608:=by omega):aG Tryz.prog 213 #[I n,I d] (.tuple #[Q (Rat.divInt n d),.int .i64 (if d=0 then 6 else 0)]):=by
 refine nX 13 Tryz.func213 fun w=>?_;refine lQ fun g0=>?_;refine Bp 2 (fun g1=>?_);refine lg fun g2=>?_;refine A6 ?_;refine L2 1 0 ?_;refine Pc (nG _) ?_;refine A3 ?_;refine Cd ?_ ?_<;>intro haQ
 ·refine A2 ?_;refine(Bu []) (Fb) ?_;refine CQ ?_;refine bT rfl (bn 2 rfl rfl BC (vs:=[_,_,_,_]) rfl rfl (Nat.le_of_ble_eq_true rfl) rfl) (ax rfl) (fun w hL=>⟨?_,hL.below⟩);have e:d=0:=FQ
  subst e;rw[Rat.divInt_zero,if_pos rfl,Fa]
 ·refine A4 ?_;refine FP ?_;refine fJ [_,_] rfl rfl rfl (jO _ _ hn hd (fun e=>absurd (show(d.sign==0)=true by rw[e];rfl) OO)) ?_;refine uo ?_;refine bT rfl (bn 2 rfl rfl BC (vs:=[_,_,_,_]) rfl rfl (Nat.le_of_ble_eq_true rfl) rfl) (ax rfl) (fun w hL=>⟨?_,hL.below⟩);rw[if_neg (fun e=>absurd (show(d.sign==0)=true by rw[e];rfl) OO)];rfl
def fF(z:Int)(h1: -9223372036854775808<=z:=by omega)(h2:z<=9223372036854775807:=by omega):aG Tryz.prog 132 #[.int .i64 z] (Q (z:Rat)):=by
 refine vC 6 Tryz.func132 fun w=>?_;refine A2 ?_;refine Al 4 z36 (fun g0=>?_);refine A5 ?_;refine fJ [_] rfl rfl rfl (lY _) ?_;refine(Bu [(0,_)]) (qr6) ?_;refine Ss 0 ?_;refine A3 ?_;refine Yd 0 ?_;exact rfl
end Go.Proofs.YtaffcpfhedadhaaGreatDoor
namespace Go.Proofs.YtaffcpfhedadhaaGreatDoor
variable[Go.Via.Mo]
open Go Go.RowKit Go.Via
def kS(p q:Rat)(hp:bY p<=4194303:=by omega)(hq:bY q<=4194303:=by omega):aG Tryz.prog 55 #[Q p,Q q] (Q (p-q)):=by
 refine nX 9 Tryz.func55 fun w=>?_;refine iH fun g0=>?_;refine Bp 4 (fun g1=>?_);refine lg fun g2=>?_;refine A3 ?_;refine Di [] ?_;refine jH ?_;refine Pc (Kw q) ?_;refine Pc (fV p (-q) hp (Nat.le_trans (Na q) hq)) ?_;exact qja
end Go.Proofs.YtaffcpfhedadhaaGreatDoor
namespace Go.Proofs.YtaffcpfhedadhaaGreatDoor
variable[Go.Via.Mo]
open Go Go.RowKit Go.Via
def jc(q:Rat):aG Tryz.prog 66 #[Q q] (.int .i64 q.num.sign):=by
 refine vC 12 Tryz.func66 fun w=>?_;refine iH fun g0=>?_;refine FH ?_;refine Cd ?_ ?_<;>intro haQ
 ·refine mZ ?_;exact congrArg (fun z=>Ending.returned (.int .i64 z)) (QC q.num haQ)
 ·refine A8 ?_;refine Cd ?_ ?_<;>intro hbQ
  ·refine mZ ?_;exact congrArg (fun z=>Ending.returned (.int .i64 z)) (sign_neg q.num hbQ)
  ·refine oJ ?_;exact congrArg (fun z=>Ending.returned (.int .i64 z)) (VH q.num haQ hbQ)
def KU(p q:Rat)(hp:bY p<=4194303:=by omega)(hq:bY q<=4194303:=by omega):aG Tryz.prog 160 #[Q p,Q q] (.int .i64 (mJ p q)):=by
 refine nX 9 Tryz.func160 fun w=>?_;refine iH fun g0=>?_;refine Bp 4 (fun g1=>?_);refine A5 ?_;refine jH ?_;refine Pc (kS p q hp hq) ?_;refine Pc (jc (p-q)) ?_;refine rH ?_;exact congrArg (fun z=>Ending.returned (.int .i64 z)) (WI p q)
def EM(b:Bool)(s:ByteArray):aG Tryz.prog 161 #[.agg #[.bool b,.string s]] (.bool (!lq b s)):=by
 refine vC 14 Tryz.func161 fun w=>?_;refine lQ fun g0=>?_;refine oH ?_;refine Cd ?_ ?_<;>intro haQ
 ·have he:=qhB haQ;refine lh ?_;refine E0 ?_;rw[qhD he]
 ·obtain⟨x,l,he⟩:=qhC haQ;refine A6 ?_;refine zu (b:=x) (r:=(x.toNat:Int)) u9 rfl rfl rfl rfl ae (by rw[he];rfl) rfl ?_;refine zU ?_;rw[qel he]
def Qj(b1:Bool)(s1:ByteArray)(b2:Bool)(s2:ByteArray)(hs1:s1.size<=5000:=by omega)(hs2:s2.size<=5000:=by omega):aG Tryz.prog 111 #[.agg #[.bool b1,.string s1,.bool b2,.string s2]] (.bool (WN b1 s1 b2 s2)):=by
 refine vC 45 Tryz.func111 fun w=>?_;refine iH fun g0=>?_;refine A7 ?_;refine L2 0 0 ?_;refine Pc (EM b1 s1) ?_;refine A2 ?_;refine Rs 8 ?_ ?_<;>intro haQ
 ·have hI1:lq b1 s1=true:=FQ
  refine A20 ?_;refine E0 ?_;rw[qqj hI1]
 ·have hI1:lq b1 s1=false:=FQ
  refine A1 ?_;refine L2 0 2 ?_;refine Pc (EM b2 s2) ?_;refine A3 ?_;refine Rs 14 ?_ ?_<;>intro hbQ
  ·have hI2:lq b2 s2=true:=Au
   refine FH ?_;refine E0 ?_;rw[qqk hI2]
  ·have hI2:lq b2 s2=false:=Au
   refine A6 ?_;refine Cd ?_ ?_<;>intro hcQ
   ·subst hcQ;refine ng ?_;rw[qql]
   ·subst hcQ;refine qX ?_;refine Cd ?_ ?_<;>intro hdQ
    ·have he2:=Y4 hdQ;refine ng ?_;rw[qqm hI1 he2]
    ·obtain⟨z,rfl,rfl⟩:=WM hI1;obtain⟨d,hd0,rfl⟩:=qvq hdQ hI2;rw[Be] at hs1 hs2;have hz1:ji z<=5000:=hs1;have hz2:ji (d:Int)<=5000:=Bq hs2;have hz3:nb z.natAbs<=5000:=hs1;refine A3 ?_;refine Dp [] [0,1,3,4,2,5,6,7] ?_;refine OM ?_;refine L2 0 2 ?_;refine aP 27 (I (d:Int)) rfl (qvp d) ?_;refine yQ [_] [] rfl rfl rfl ((kC z).weakA (fun x b hb=>xO)) trivial rfl rfl (fun xn=>?_);refine yQ [_] [] rfl rfl rfl ((kC (d:Int)).weakA (fun x b hb=>xO)) trivial rfl rfl (fun xd=>?_);refine yQ [_,_] [1,2] rfl rfl rfl (CE z.natAbs d ae ae xn xd) ⟨pS,pS,trivial⟩ rfl rfl (fun zg=>?_);refine lh ?_;refine Rs 34 ?_ ?_<;>intro heQ
     ·have hd1:d≠1:=qoy heQ;refine A5 ?_;refine Rs 39 ?_ ?_<;>intro hfQ
      ·have hg1:nb (Nat.gcd z.natAbs d)=1:=by have:=eq_of_beq hfQ;omega
       refine A1 ?_;refine aJ 3 (0) BH LJ rfl rfl rfl rfl rfl ae ae (GK J6) J7 ?_;refine(Lo 3 (0)) FI ?_;refine A6 ?_;refine E0 ?_;exact eB (qvr hd0 hd1 hg1)
      ·have hg1:Nat.gcd z.natAbs d≠1:=Ez (by simpa using hfQ);refine oJ ?_;exact eB (qvs hd0 hg1)
     ·have hd1:d=1:=qoz heQ;refine FH ?_;refine E0 ?_;exact eB (qvt hd1)
def Jo(b1:Bool)(s1:ByteArray)(b2:Bool)(s2:ByteArray)(hs1:s1.size<=5000:=by omega)(hs2:s2.size<=5000:=by omega):aG Tryz.prog 105 #[.agg #[.bool b1,.string s1,.bool b2,.string s2]] (.int .i64 (if WN b1 s1 b2 s2=true then 0 else 5)):=by
 refine vC 31 Tryz.func105 fun w=>?_;refine iH fun g0=>?_;refine A7 ?_;refine L2 0 0 ?_;refine Pc (Aw b1 s1) ?_;refine A2 ?_;refine Rs 7 ?_ ?_<;>intro haQ
 ·have hI1:lq b1 s1=true:=qqo haQ;refine II ?_;refine E0 ?_;rw[qqj hI1];rfl
 ·have hI1:lq b1 s1=false:=qqn haQ;refine A1 ?_;refine L2 0 2 ?_;refine Pc (Aw b2 s2) ?_;refine A4 ?_;refine Cd ?_ ?_<;>intro hbQ
  ·have hI2:lq b2 s2=true:=qqo hbQ;refine ng ?_;rw[qqk hI2];rfl
  ·have hI2:lq b2 s2=false:=qqn hbQ;refine qjg ?_;refine A2 ?_;refine Cd ?_ ?_<;>intro hcQ
   ·obtain⟨hcQ,he2⟩:=qs1 hcQ;refine ng ?_;rw[hcQ,qqm hI1 he2];rfl
   ·obtain⟨z,rfl,rfl⟩:=WM hI1;obtain⟨e,rfl,rfl⟩:=WM hI2;have he0:=qs2 hcQ;rw[Be] at hs1 hs2;have hz1:ji z<=5000:=hs1;have hz2:ji e<=5000:=hs2;refine A4 ?_;refine wE ?_;refine L2 0 2 ?_;refine Pc (qw) ?_;refine Pc (xR e 1) ?_;refine A2 ?_;refine Rs 22 ?_ ?_<;>intro hdQ
    ·have hle:e<=1:=qhF hdQ;refine A18 ?_;refine E0 ?_;rw[qvu he0 hle];rfl
    ·have hle:1<e:=qhG hdQ;refine OM ?_;refine L2 0 2 ?_;refine Pc (EL z e) ?_;refine Pc (qw) ?_;refine BB rfl rfl rfl rfl qnv (qbC _ _ _ _) ?_;refine A3 ?_;refine Cd ?_ ?_<;>intro heQ
     ·have hg:=qoA heQ;refine ng ?_;rw[qvv hle hg];rfl
     ·have hg:=qoB heQ;refine mZ ?_;rw[qs3 hle hg];rfl
end Go.Proofs.YtaffcpfhedadhaaGreatDoor
namespace Go.Proofs.YtaffcpfhedadhaaGreatDoor
variable[Go.Via.Mo]
open Go Go.RowKit Go.Via
def jr(q:Rat):aG Tryz.prog 124 #[Q q] (I q.den):=by
 refine vC 10 Tryz.func124 fun w=>?_;refine iH fun g0=>?_;refine Al 2 QH (fun g1=>?_);refine qjg ?_;refine A2 ?_;refine Cd ?_ ?_<;>intro haQ
 ·refine A2 ?_;refine Pc (qw) ?_;refine uq ?_;refine Ed2 1 ?_;exact congrArg Ending.returned (quX haQ)
 ·refine A5 ?_;refine L2 0 2 ?_;refine mY ?_;refine Ed2 1 ?_;exact congrArg Ending.returned (quY haQ)
def Jp(p q:Rat)(hp:bY p<=4194303:=by omega)(hq:bY q<=4194303:=by omega):aG Tryz.prog 189 #[Q p,Q q] (.tuple #[I (kU p q),I (kV p q),I (lJ p q)]):=by
 refine nX 33 Tryz.func189 fun w=>?_;refine iH fun g0=>?_;refine Bp 4 (fun g1=>?_);refine yC fun g2=>?_;refine yB fun g3=>?_;refine Al 2 QH (fun g4=>?_);refine A6 ?_;refine L2 0 2 ?_;refine A1 ?_;refine L2 1 2 ?_;refine mM rfl rfl rfl rfl qnv (qbC _ _ _ _) ?_;refine A2 ?_;refine Cd ?_ ?_<;>intro haQ
 ·refine A1 ?_;refine Di [2,3,4] ?_;refine OM ?_;refine L2 1 0 ?_;refine L4 0 0 ?_;refine Pc (jr _) ?_;refine tC 2 0 [_,_,⟨some g2,34,_,2,true⟩,_,_] [_,_] rfl rfl rfl rfl zy rfl rfl rfl rfl rfl rfl ?_;refine tC 3 0 [_,_,_,⟨some g3,34,_,2,true⟩,_] [_,_] rfl rfl rfl rfl zy rfl rfl rfl rfl rfl rfl ?_;refine tC 4 0 [_,_,_,_,⟨some g4,34,_,2,true⟩] [_,_] rfl rfl rfl rfl zy rfl rfl rfl rfl rfl rfl ?_;refine A4 ?_;refine DJ rfl (bn 2 rfl rfl zy (vs:=[_,_]) rfl rfl (Nat.le_of_ble_eq_true rfl) rfl) (bn 3 rfl rfl zy (vs:=[_,_]) rfl rfl (Nat.le_of_ble_eq_true rfl) rfl) (bn 4 rfl rfl zy (vs:=[_,_]) rfl rfl (Nat.le_of_ble_eq_true rfl) rfl) (fun w hL=>⟨?_,hL.below⟩);exact congrArg Ending.returned (qmZ haQ)
 ·refine A3 ?_;refine Dp [] [0,1,2,5,6,7,10,12,3,4,8,9,11,13,14,15,16,17] ?_;refine A1 ?_;refine L2 0 0 ?_;refine L4 1 0 ?_;refine A1 ?_;refine L2 1 0 ?_;refine L4 0 0 ?_;refine jH ?_;refine Jn ?_;refine Jn ?_;refine Pc (jr _) ?_;refine Jn ?_;refine Ss 2 ?_;refine Ss 3 ?_;refine zY ?_;refine DJ rfl (bn 2 rfl rfl zy (vs:=[_,_]) rfl rfl (Nat.le_of_ble_eq_true rfl) rfl) (bn 3 rfl rfl zy (vs:=[_,_]) rfl rfl (Nat.le_of_ble_eq_true rfl) rfl) (bn 4 rfl rfl zy (vs:=[_,_]) rfl rfl (Nat.le_of_ble_eq_true rfl) rfl) (fun w hL=>⟨?_,hL.below⟩);exact congrArg Ending.returned (qm0 haQ)
def dE(p q:Rat)(hp:bY p<=4194303:=by omega)(hq:bY q<=4194303:=by omega):aG Tryz.prog 140 #[Q p,Q q] (Q (p+q)):=by
 refine nX 20 Tryz.func140 fun w=>?_;refine iH fun g0=>?_;refine Bp 4 (fun g1=>?_);refine lg fun g2=>?_;refine A4 ?_;refine jH ?_;refine qjc ?_;refine yB fun g3=>?_;refine Al 2 QH (fun g4=>?_);refine Al 2 QH (fun g5=>?_);refine Ss 3 ?_;refine Ss 4 ?_;refine Ss 5 ?_;refine A3 ?_;refine Dp [] [0,1,3,2,4,5] ?_;refine L2 3 0 ?_;refine L2 4 0 ?_;refine L2 5 0 ?_;refine Pc (yD _ _ (Nat.le_trans (szX hp hq) (Nat.le_of_ble_eq_true rfl)) (Nat.le_trans (szY hp hq) (Nat.le_of_ble_eq_true rfl))) ?_;refine Pc (jO _ _ (Nat.le_trans (qxt hp hq) (Nat.le_of_ble_eq_true rfl)) (Nat.le_trans (szD hp hq) (Nat.le_of_ble_eq_true rfl)) (QD p q)) ?_;refine jq ?_;refine Yd 2 ?_;exact congrArg (fun z=>Ending.returned (Q z)) (qdq p q)
def dZ(p q:Rat)(hp:bY p<=4194303:=by omega)(hq:bY q<=4194303:=by omega):aG Tryz.prog 126 #[Q p,Q q] (Q (p-q)):=by
 refine nX 9 Tryz.func126 fun w=>?_;refine iH fun g0=>?_;refine Bp 4 (fun g1=>?_);refine lg fun g2=>?_;refine A3 ?_;refine Di [] ?_;refine jH ?_;refine Pc (wF _) ?_;refine fJ [_,_] rfl rfl rfl (dE _ _ jS jS) ?_;exact qja
def bJ(p q:Rat)(hp:bY p<=4194303:=by omega)(hq:bY q<=4194303:=by omega):aG Tryz.prog 75 #[Q p,Q q] (Q (p*q)):=by
 refine nX 16 Tryz.func75 fun w=>?_;refine iH fun g0=>?_;refine Bp 4 (fun g1=>?_);refine lg fun g2=>?_;refine A3 ?_;refine Dp [] [0,1,2,3,5,7,4,6,8,9,10,11] ?_;refine OM ?_;refine L2 1 0 ?_;refine jH ?_;refine qqT ?_;refine Pc (jr _) ?_;refine Jn ?_;refine fJ [_,_] rfl rfl rfl (jO _ _ jS jS (Nb p q)) ?_;refine jq ?_;refine Yd 2 ?_;exact congrArg (fun z=>Ending.returned (Q z)) (Nc p q)
def dP(q:Rat):aG Tryz.prog 106 #[Q q] (.int .i64 q.num.sign):=by
 refine vC 6 Tryz.func106 fun w=>?_;refine iH fun g0=>?_;refine A6 ?_;refine L2 0 0 ?_;refine Pc (nG _) ?_;exact zT
def CS(p q:Rat)(hp:bY p<=4194303:=by omega)(hq:bY q<=4194303:=by omega):aG Tryz.prog 183 #[Q p,Q q] (.tuple #[Q (p/q),.int .i64 (if q=0 then 6 else 0)]):=by
 refine nX 19 Tryz.func183 fun w=>?_;refine iH fun g0=>?_;refine Bp 4 (fun g1=>?_);refine lg fun g2=>?_;refine A4 ?_;refine Dp [] [0,1,2,5,7,8,3,4,6,9,10,11,12,13,14] ?_;refine A1 ?_;refine L2 0 0 ?_;refine L4 1 0 ?_;refine L4 0 0 ?_;refine A1 ?_;refine L2 1 0 ?_;refine Jn ?_;refine Jn ?_;refine fJ [_,_] rfl rfl rfl (Az _ _ jS jS) ?_;refine A2 ?_;refine uo ?_;refine bT rfl (bn 2 rfl rfl BC (vs:=[_,_,_,_]) rfl rfl (Nat.le_of_ble_eq_true rfl) rfl) (ax rfl) (fun w hL=>⟨?_,hL.below⟩);rw[<-Yt p q,qm1 p q];rfl
def FU(p q:Rat)(hp:bY p<=4194303:=by omega)(hq:bY q<=4194303:=by omega):aG Tryz.prog 212 #[Q p,Q q] (.int .i64 (mJ p q)):=by
 refine nX 21 Tryz.func212 fun w=>?_;refine iH fun g0=>?_;refine Bp 4 (fun g1=>?_);refine A6 ?_;refine jH ?_;refine mM rfl rfl rfl rfl qsh (qsk _ _) ?_;refine A2 ?_;refine Cd ?_ ?_<;>intro haQ
 ·refine ng ?_
  have e:p=q:=FQ;subst e;rw[qdr]
 ·refine A4 ?_;refine jH ?_;refine qjc ?_;refine yC fun g2=>?_;refine yB fun g3=>?_;refine Al 2 QH (fun g4=>?_);refine Ss 2 ?_;refine Ss 3 ?_;refine Ss 4 ?_;refine A4 ?_;refine L2 2 0 ?_;refine L2 3 0 ?_;refine Pc (xR _ _) ?_;refine rH ?_;exact congrArg (fun z=>Ending.returned (.int .i64 z)) (qds p q)
end Go.Proofs.YtaffcpfhedadhaaGreatDoor
namespace Go.Via
open Go
def oC(z:Int):Bool:=decide (0<=z)&&(bU z.natAbs*bU z.natAbs==z.natAbs)
theorem qjl{z:Int}(h:decide (z<0)=true):oC z=false:=by
 have:=of_decide_eq_true h;unfold oC;rw[decide_eq_false ae];rfl
theorem qoX{z:Int}(h:(bH (bU z.natAbs*bU z.natAbs) !=bH z.natAbs)=true):oC z=false:=by
 unfold oC;have:¬bU z.natAbs*bU z.natAbs=z.natAbs:=fun e=>by rw[e,bne,ui] at h;simp at h
 rw[beq_eq_false_iff_ne.2 this,Bool.and_false]
theorem qjm{z:Int}(h0:decide (z<0)=false)(h:(bH (bU z.natAbs*bU z.natAbs) !=bH z.natAbs)=false):oC z=true:=by
 unfold oC;have h1:=of_decide_eq_false h0;have h2:bH (bU z.natAbs*bU z.natAbs)=bH z.natAbs:=by rw[bne,ui] at h;simpa using h
 rw[SQ.1 h2,decide_eq_true ae];simp
def qjn(n:Nat):bU n<=n:=by
 have h:=(Oa n).1
 by_cases h0:bU n=0
 ·omega
 ·exact Nat.le_trans (Nat.le_mul_of_pos_right _ ae) h
def qA(n:Nat):nb (bU n)<=nb n:=gu (qjn n)
theorem Jq(q:Rat):Ap q=(oC q.num&&oC (q.den:Int)):=by
 unfold Ap oC;rw[Int.natAbs_natCast,decide_eq_true (show(0:Int)<=(q.den:Int) by omega),Bool.true_and]
def w3{a b:Int}(ha:a= -1∨a=0∨a=1)(hb:b= -1∨b=0∨b=1):IntKind.i64.wrap (a*b)=a*b:=by
 rcases ha with rfl|rfl|rfl<;>rcases hb with rfl|rfl|rfl<;>rfl
theorem FV(q:Rat):dB q= -1∨dB q=0∨dB q=1:=qb3
def qjo(p q:Rat):mJ p q= -1∨mJ p q=0∨mJ p q=1:=qhd
theorem qtq{a b r:Rat}(h:dB b*dB r=0):pU a b r=dB a:=by unfold pU;rw[if_pos (.inl h)]
theorem qtr{a b r:Rat}(h:dB a=dB b*dB r):pU a b r=dB a:=by unfold pU;rw[if_pos (.inr h)]
theorem qts{a b r:Rat}(h0:dB b*dB r≠0)(h1:dB a≠dB b*dB r)(h2:dB a=0):pU a b r=dB b*dB r:=by unfold pU;rw[if_neg Uy,if_pos h2]
theorem qtt{a b r:Rat}(h0:dB b*dB r≠0)(h1:dB a≠dB b*dB r)(h2:dB a≠0):pU a b r=dB a*mJ (a*a) (b*b*r):=by unfold pU;rw[if_neg Uy,if_neg h2]
section
variable{x y:Rl}
theorem qoY(h:dB (-jD y)*dB y.r=0):aY x y=pU (x.p-y.p) (jD x) x.r:=by unfold aY;rw[if_pos (.inl h)]
theorem qoZ(h:pU (x.p-y.p) (jD x) x.r=dB (-jD y)*dB y.r):aY x y=pU (x.p-y.p) (jD x) x.r:=by unfold aY;rw[if_pos (.inr h)]
theorem qo0(h0:dB (-jD y)*dB y.r≠0)(h1:pU (x.p-y.p) (jD x) x.r≠dB (-jD y)*dB y.r)(h2:pU (x.p-y.p) (jD x) x.r=0):aY x y=dB (-jD y)*dB y.r:=by
 unfold aY;rw[if_neg Uy,if_pos h2]
theorem qo1(h0:dB (-jD y)*dB y.r≠0)(h1:pU (x.p-y.p) (jD x) x.r≠dB (-jD y)*dB y.r)(h2:pU (x.p-y.p) (jD x) x.r≠0):
 aY x y=pU (x.p-y.p) (jD x) x.r*pU ((x.p-y.p)*(x.p-y.p)+x.r-y.r) (2*((x.p-y.p)*jD x)) x.r:=by
 unfold aY;rw[if_neg Uy,if_neg h2]
end
theorem qvT{x:Rl}(h:x.n=true):jD x=((-1:Int):Rat):=by unfold jD;rw[if_pos h];rfl
theorem qvU{x:Rl}(h:x.n=false):jD x=((1:Int):Rat):=by unfold jD;rw[if_neg VW];rfl
def nZ{z:Int}(h1: -255<=z)(h2:z<=255):bY (z:Rat)<=2:=Nat.le_trans (qhA z) (by have:=DL h1 h2;unfold ji at this;omega)
def Ia:bY 2<=2:=nZ (z:=2) ae ae
def y9:bY 0<=2:=nZ (z:=0) ae ae
def Z4(x:Rl):bY (jD x)<=2:=by
 unfold jD;split
 ·exact nZ (z:= -1) ae ae
 ·exact nZ (z:=1) ae ae
def eU(x:Rl):Nat:=max (bY x.p) (bY x.r)
def pM(x:Rl):bY x.p<=eU x:=Nat.le_max_left ..
def wG(x:Rl):bY x.r<=eU x:=Nat.le_max_right ..
def CU{q:Rat}{n:Nat}(h:bY q<=n)(h2:2<=n):eU (rl q)<=n:=Nat.max_le.2 ⟨h,Nat.le_trans y9 h2⟩
def qeH{q:Rat}{n:Nat}(h:bY q<=n):bY (mX q)<=n:=by
 unfold mX;have h1:ji ((bU q.num.natAbs:Nat):Int)<=n:=Bq (Nat.le_trans (qA _) (Nat.le_trans (Yl q) h));have h2:ji ((bU q.den:Nat):Int)<=n:=Bq (Nat.le_trans (qA _) (by have:=Nat.le_trans (Ym q) h;unfold ji at this;simpa using this));have:=vJ h1 h2 (Nat.le_trans (LG q) h);omega
def Uz(q:Rat):bY (mX q)<=bY q:=qeH (Nat.le_refl _)
def qtu{p q r:Rat}:eU (mkR p q r)<=bY p+bY q+bY q+bY r+2:=by
 unfold mkR
 split
 ·refine CU ?_ ae;have h1:=iQ p (q*mX r);have h2:=bW q (mX r);have h3:=Uz r;omega
 ·refine Nat.max_le.2 ⟨?_,?_⟩
  ·show bY p<=_;omega
  ·show bY (q*q*r)<=_;have h1:=bW (q*q) r;have h2:=bW q q;omega
def qcs(q:Rat):(dm q).size<=bY q:=by
 unfold dm
 split
 ·exact Nat.zero_le _
 ·rw[Be];exact Nat.le_max_right ..
end Go.Via
namespace Go.Proofs.YtaffcpfhedadhaaGreatDoor
open Go Go.Via
def XA(q:Rat)(h:bY q<=5000:=by omega):aG Tryz.prog 105 #[Q q] (.int .i64 0):=by
 have:=Jo (decide (q.num<0)) (bH q.num.natAbs) false (dm q) qjk (Nat.le_trans (qcs q) h);rw[Hm.2 ⟨q,rfl,rfl,rfl,rfl⟩,if_pos rfl] at this;exact this
end Go.Proofs.YtaffcpfhedadhaaGreatDoor
namespace Go.Via
def qjp{q:Rat}(h:oC q.num=true){n:Nat}(h1:ji q.num<=n)(hn:n<=8388608:=by omega):ji (if oC q.num=true then((bU q.num.natAbs:Nat):Int) else 0)<=8388608:=by
 exact qje
def qjq{q:Rat}(h:oC (q.den:Int)=true){n:Nat}(h1:ji (q.den:Int)<=n)(hn:n<=8388608:=by omega):ji (if oC (q.den:Int)=true then((bU (q.den:Int).natAbs:Nat):Int) else 0)<=8388608:=by
 exact qje
def qjr{q:Rat}(h:oC (q.den:Int)=true):(if oC (q.den:Int)=true then((bU (q.den:Int).natAbs:Nat):Int) else 0)≠0:=by
 rw[if_pos h];have hd:=q.den_nz;unfold oC at h;simp only[Bool.and_eq_true,beq_iff_eq,Int.natAbs_natCast] at h;rw[Int.natAbs_natCast];intro e;have:bU q.den=0:=ae
 have h2:=h.2;rw[this] at h2;omega
end Go.Via
namespace Go.Via
theorem qct:I 0= .agg #[aQ,aS]:=by show Value.agg #[.bool (decide ((0:Int)<0)),.string (bH 0)]=_;rw[iy];rfl
end Go.Via
namespace Go.Via
theorem RQ(q:Rat):RV (rl q)= .agg #[.bool (decide (q.num<0)),.string (bH q.num.natAbs),.bool false,.string (dm q),aQ,aS,aQ,aS,.bool false]:=by
 have h:bH (0:Rat).num.natAbs=⟨#[]⟩:=iy;have h2:dm 0=⟨#[]⟩:=rfl;show Value.agg #[_,_,_,_,.bool (decide ((0:Rat).num<0)),.string (bH (0:Rat).num.natAbs),_,.string (dm 0),_]=_;rw[h,h2];rfl
end Go.Via
