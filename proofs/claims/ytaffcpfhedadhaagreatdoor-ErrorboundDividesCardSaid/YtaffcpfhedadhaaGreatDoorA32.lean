/-
  Part 32 (chapter 32): lemmas, walks. Each theorem states its own conditions.
-/
import Derived.Test.YtaffcpfhedadhaaGreatDoorA30
import Derived.Test.YtaffcpfhedadhaaGreatDoorA31
set_option linter.all false
set_option maxRecDepth 20000
set_option maxHeartbeats 20000000
section
variable{P Q:Prop}{T:Type}{R:T->Prop}
def jl(q:∀x,R x)(h:bI (∀x,R x)->P:=by intro q_;refine A2 ?_;refine Bp 4 (fun g0=>?_);exact q_.qq g0):=h ⟨q⟩
def qlF(h:P:=by refine(Bl 1 [(0,_)]) (pK) (fun g1=>?_);refine mV (s:=1) (len:=i) (n2:=1) 1 2 (fun r=>[_,⟨some r.g,3,NV .i64 (row (i+1) (Ef z.natAbs)),r.n,true⟩,⟨some g1,3,_,1,true⟩]) yj el3 rfl rfl rfl rfl rfl rfl rfl rfl rfl rfl rfl rfl PV ae Vy rfl (Go.Via.one_cell _ _) ae (fun r=>congrArg (fun c=>[_,(⟨some r.g,3,c,r.n,true⟩:aH),⟨some g1,3,_,1,true⟩]) (FP _ _ _ _ (rfl))) (fun r=>?_);refine A5 ?_;refine(Dv (im z (i+1))) (congrArg some (qjD z i h1 h2)) ?_;refine A4 ?_;exact Nl ⟨(i+1,some r.g,r.n,r.cap),hlt,r.h,Vz⟩ (hμ:=(by show nb z.natAbs-(i+1)<nb z.natAbs-i;omega)) (hL:=fF.auto)):=h
def qfS(h:P:=by refine(Sd [5]) (oG (n/Nat.gcd n d) neg qfT zn.1) ?_;refine A1 ?_;refine(Sd [7]) (oG (d/Nat.gcd n d) false (by have:=DZ d (Nat.gcd n d);omega) zd.1) ?_;refine(Bu [(0,_),(1,_)]) (D7) ?_;refine Ss 3 ?_;refine A3 ?_;refine Ec4 3 fun w hL=>⟨(),?_,hL.pk []⟩;exact congrArg Ending.returned (qeV neg hd hd1)):=h
def jc(q:Q)(h:bI Q->P:=by intro q_;refine L4 0 0 ?_;refine L4 1 0 ?_;exact q_.qq):=h ⟨q⟩
def MX(h:P:=by simpa using haQ):=h
def qfT(h:P:=by have:=DZ n (Nat.gcd n d);omega):=h
end
namespace Go.Proofs.YtaffcpfhedadhaaGreatDoor
variable[Go.Via.Mo]
open Go Go.RowKit Go.Via
def vk(q:Rat)(hq:bY q<=500000000:=by omega):cZ Tryz.prog 69 [] [Q q] (SR (nb q.num.natAbs)×SR (nb q.den)) (fun z=> .agg #[.bool (decide (q.num<0)),z.1.v,z.2.v]) (fun z=>[⟨z.1.b,3,NV .i64 (D8 q.num.natAbs),z.1.n,true⟩,⟨z.2.b,3,NV .i64 (D8 q.den),z.2.n,true⟩]):=by
 refine PR 19 Tryz.func69 fun w hL0=>?_;refine jl fun g0=>?_;refine Al 3 qbn (fun g1=>?_);refine A5 ?_;refine L2 0 2 ?_;refine aS 5 (I (dz q)) rfl (qpP q) ?_;refine(Sc []) (mZ (dz q) (by have:=qpQ q;omega)) (fun xd=>?_);refine qC ?_;refine Cd ?_ ?_<;>intro haQ
 ·have hd1:q.den=1:=qrO MX;have hd2:nb q.den=1:=by rw[hd1,uO]
  refine A1 ?_;refine(Bl 1 [(0,_)]) (pK) (fun g2=>?_);refine A4 ?_;refine Dp [] [0,1,2,3,4,6,5,7,8] ?_;refine A4 ?_;refine L2 0 0 ?_;refine A1 ?_;refine(Sc []) (mZ q.num (by have:=lV hq;omega)) (fun xn=>?_);refine(Bu [(0,_),(1,_),(2,_)]) (wI) ?_;refine Ss 1 ?_;refine A3 ?_;refine aO rfl (bF 1 rfl rfl qkV (vs:=[_,_,_]) rfl rfl (Nat.le_of_ble_eq_true rfl) rfl) (fun w hL=>⟨(xn,⟨some g2,1,1,by rw[hd2];exact Nat.le_refl _⟩),?_,hL.picks [some 4,some 3] ⟨pR,⟨_,rfl,bg (congrArg (fun l=>(⟨some g2,3,NV .i64 l,1,true⟩:aH)) (show D8 q.den=[1] by rw[hd1,Xz]))⟩,trivial⟩ rfl rfl⟩);exact congrArg (fun n=>Ending.returned (.agg #[.bool (decide (q.num<0)),xn.v,aA (some g2) 0 n 1])) hd2.symm
 ·have hd1:(dz q).natAbs=q.den:=qrP MX;refine A3 ?_;refine Dp [] [0,1,2,3,4,6,5,7,8] ?_;refine A4 ?_;refine L2 0 0 ?_;refine A1 ?_;refine(Sc []) (mZ q.num (by have:=lV hq;omega)) (fun xn=>?_);refine(Bu [(0,_),(1,_),(2,_)]) (wI) ?_;refine Ss 1 ?_;refine A3 ?_;refine aO rfl (bF 1 rfl rfl qkV (vs:=[_,_,_]) rfl rfl (Nat.le_of_ble_eq_true rfl) rfl) (fun w hL=>⟨(xn,⟨xd.b,xd.n,xd.cap,by rw[<-hd1];exact xd.h⟩),?_,hL.picks [some 3,some 2] ⟨pR,⟨_,rfl,bg (congrArg (fun n=>(⟨xd.b,3,NV .i64 (D8 n),xd.n,true⟩:aH)) hd1.symm)⟩,trivial⟩ rfl rfl⟩);exact congrArg (fun n=>Ending.returned (.agg #[.bool (decide (q.num<0)),xn.v,aA xd.b 0 (nb n) xd.cap])) hd1
def iL(n d:Nat)(neg:Bool)(hd:0<d)(hn:nb n<=1073740000)(hdn:nb d<=1073740000)(x:SR (nb n))(y:SR (nb d)):cZ Tryz.prog 70 [⟨x.b,3,NV .i64 (D8 n),x.n,false⟩,⟨y.b,3,NV .i64 (D8 d),y.n,false⟩] [.agg #[.bool neg,x.v,y.v]] Unit (fun _=>Q (Rat.divInt (sg neg n) (d:Int))) (fun _=>[]):=by
 refine⟨ak,fun w hL0=>?_⟩;have hg0:0<Nat.gcd n d:=Nat.gcd_pos_of_pos_right n hd;have hgn:nb (Nat.gcd n d)<=1073740000:=Nat.le_trans (gG (Nat.gcd_le_right n hd)) hdn;refine cB1 43 Tryz.func70 hL0 ?_;refine A2 ?_;refine Bp 3 (fun g0=>?_);refine Al 4 qI (fun g1=>?_);refine A8 ?_;refine KR [_,_] [0,1] rfl rfl rfl (MW n d hn hdn x y) ⟨pS,pS,trivial⟩ rfl rfl (fun zg=>?_);refine A8 ?_;refine KR [_,_] [0,4] rfl rfl rfl (ZW (fun g hg=>⟨_,List.mem_cons_self,hg⟩) rfl (qf n (Nat.gcd n d) hg0 hn hgn x zg)) ⟨pS,pS,trivial⟩ rfl rfl (fun zn=>?_);refine nI ?_;refine KR [_,_] [1,4] rfl rfl rfl (ZW (fun g hg=>⟨_,List.mem_cons_self,hg⟩) rfl (qf d (Nat.gcd n d) hg0 hdn hgn y zg)) ⟨pS,pS,trivial⟩ rfl rfl (fun zd=>?_);refine EK ?_;refine Rs 30 ?_ ?_<;>intro haQ
 ·have hl1:nb (d/Nat.gcd n d)=1:=qff
  refine A1 ?_;refine aG 7 (0) yj Dt rfl rfl rfl rfl rfl ae ae (Dn F7) F6 ?_;refine(Lo 7 (0)) IX ?_;refine A4 ?_;refine Cd ?_ ?_<;>intro hbQ
  ·have hd1:d/Nat.gcd n d=1:=by have:=eq_of_beq hbQ;rw[ZR hl1] at this;omega
   refine Y4 _ (az (L':=[_,_,_,_,_,_,_,_,_,⟨none,3,NV .i64 (D8 0),0,false⟩]) [some 0,some 1,some 2,some 3,some 4,some 5,some 6,some 7,some 8,none] ⟨pR,pR,pR,pR,pR,pR,pR,pR,pR,⟨rfl,Rz,rfl⟩,trivial⟩ rfl rfl) ?_;refine A9 ?_;refine(Sd [5]) (oG (n/Nat.gcd n d) neg qfT zn.1) ?_;refine A1 ?_;refine aS 40 (aA none 0 (nb 0) 0) rfl (by rw[kT];rfl) ?_;refine gJ [_,_] [9] rfl rfl rfl (oG 0 false (by rw[kT];omega) ⟨none,0,0,by rw[kT];exact Nat.le_refl _⟩) ⟨pR,trivial⟩ rfl ?_;refine(Bu [(0,_),(1,_)]) (D7) ?_;refine Ss 3 ?_;refine A3 ?_;refine Ec4 3 fun w hL=>⟨(),?_,hL.pk []⟩;exact congrArg Ending.returned (Eq.trans (by rw[show(if false=true then-((0:Nat):Int) else((0:Nat):Int))=0 from rfl,show(0:Int).natAbs=0 from rfl,iT];rfl) (qeU neg hd hd1))
  ·have hd1:d/Nat.gcd n d≠1:=by have:=ne_of_beq_false hbQ;rw[ZR hl1] at this;omega
   refine A7 ?_;exact qfS
 ·have hd1:d/Nat.gcd n d≠1:=OA MX;refine Ed ?_;exact qfS
end Go.Proofs.YtaffcpfhedadhaaGreatDoor
namespace Go.Proofs.YtaffcpfhedadhaaGreatDoor
variable[Go.Via.Mo]
open Go Go.RowKit Go.Via
def RX(n d:Int)(hd:d≠0:=by omega)(hn:jv n<=8388608:=by omega)(hdn:jv d<=8388608:=by omega):aJ Tryz.prog 64 #[I n,I d] (Q (Rat.divInt n d)):=by
 refine nV 16 Tryz.func64 fun w=>?_;refine A2 ?_;refine Bp 2 (fun g0=>?_);refine Bp 2 (fun g1=>?_);refine Al 4 qI (fun g2=>?_);refine A3 ?_;refine Dp [] [0,1,2,3,4,5,7,6,8,9,10,11] ?_;refine A4 ?_;refine o6 rfl u4 rfl rfl rfl ?_;refine L2 0 0 ?_;refine L2 1 0 ?_;refine(Sc []) (mZ n (Nat.le_trans hn (Nat.le_of_ble_eq_true rfl))) (fun xn=>?_);refine(Sc []) (mZ d (Nat.le_trans hdn (Nat.le_of_ble_eq_true rfl))) (fun xd=>?_);refine(Bu [(0,_),(1,_),(2,_)]) (wI) ?_;refine(Sd [3,4]) (iL n.natAbs d.natAbs (decide (n<0) !=decide (d<0)) ae (Nat.le_trans hn (Nat.le_of_ble_eq_true rfl)) (Nat.le_trans hdn (Nat.le_of_ble_eq_true rfl)) xn xd) ?_;refine aS 15 (Q (Rat.divInt n d)) rfl (congrArg Q (qjk n d hd)) ?_;refine dW ?_;refine IV 2 ?_;exact rfl
def I7(z:Int)(h1: -9223372036854775808<=z:=by omega)(h2:z<=9223372036854775807:=by omega):aJ Tryz.prog 65 #[.int .i64 z] (I z):=by
 have hnb:nb z.natAbs<=8:=nP ae;refine wQ 25 Tryz.func65 fun w=>?_;refine A2 ?_;refine Al 2 yh (fun g0=>?_);refine Ed ?_;refine El (ι:={x:Nat×Option Nat×Nat×Nat // x.1<=nb z.natAbs∧x.1<=x.2.2.2∧x.2.2.2<=x.2.2.1}) (fun⟨⟨i,ob,oN,oc⟩,hi,h3,h4⟩=>([(0,.int .i64 z),(2,bf g0),(3,aA ob 0 i oc),(4,.int .i64 (im z i))],[⟨some g0,34,[aT,aU],2,true⟩,⟨ob,3,NV .i64 (row i (Ef z.natAbs)),oN,true⟩],nb z.natAbs-i)) ⟨(0,none,0,0),Nat.zero_le _,Nat.le_refl _,Nat.le_refl _⟩ ?_ (ht:=⟨rfl,rfl,rfl,(aQ rfl (congrArg (Value.int .i64) (qjz z).symm)),trivial⟩) (hL:=(az [some 0,none] ⟨pR,⟨rfl,rfl,rfl⟩,trivial⟩ rfl rfl));rintro⟨⟨i,ob,oN,oc⟩,hi,h3,h4⟩;(try dsimp only);replace hi:i<=nb z.natAbs:=hi;replace h3:i<=oc:=h3;replace h4:oc<=oN:=h4;have hdg:=AY z.natAbs i;refine A7 ?_;refine Cd ?_ ?_<;>intro haQ
 ·have hlt:=qpT haQ;refine A6 ?_;refine(Dv (imR z i)) (congrArg some (qjA z i)) ?_;refine lW ?_;refine Cd ?_ ?_<;>intro hbQ
  ·have HB12:=hbQ;refine A2 ?_;refine(Aq ((Ef z.natAbs i:Nat):Int)) (congrArg some (qjB (of_decide_eq_true HB12))) ?_;refine A7 ?_;exact qlF
  ·refine dF 5 (bH (Ef z.natAbs i)) rfl (congrArg (Value.int .i64) (qjC (of_decide_eq_false hbQ))) ?_;refine A6 ?_;exact qlF
 ·have hge:=qny haQ hi;subst hge;refine lW ?_;refine gJ [_,_] [1] rfl rfl rfl (oG z.natAbs (decide (z<0)) ae ⟨ob,oN,oc,h3⟩) ⟨⟨_,rfl,⟨rfl,rfl,rfl,⟨nb z.natAbs,by rw[LQ,List.take_of_length_le (by rw[gY,jR];exact Nat.le_refl _)]⟩,fun h=>OZ⟩⟩,trivial⟩ rfl ?_;refine aS 24 (I z) rfl (congrArg I (by by_cases hz:z<0<;>simp[hz]<;>omega)) ?_;refine Ss 0 ?_;refine A3 ?_;refine TL 0 ?_;exact rfl
def gu(a b:Int)(ha1: -9223372036854775808<=a:=by omega)(ha2:a<=9223372036854775807:=by omega)(hb1: -9223372036854775808<=b:=by omega)(hb2:b<=9223372036854775807:=by omega)(hb0:b≠0:=by omega):aJ Tryz.prog 24 #[.int .i64 a,.int .i64 b] (Q (Rat.divInt a b)):=by
 refine nV 10 Tryz.func24 fun w=>?_;refine A2 ?_;refine Al 4 qI (fun g0=>?_);refine A5 ?_;refine Pc (I7 a ha1 ha2) ?_;refine A1 ?_;refine Pc (I7 b hb1 hb2) ?_;refine Pc (RX a b hb0 (qld ha1 ha2) (qld hb1 hb2)) ?_;refine Ss 0 ?_;refine A3 ?_;refine IV 0 ?_;exact rfl
def I8(q:Rat):aJ Tryz.prog 67 #[Q q] (Q (-q)):=by
 refine wQ 16 Tryz.func67 fun w=>?_;refine jl fun g0=>?_;refine Al 4 qI (fun g1=>?_);refine A9 ?_;refine Rs 7 ?_ ?_<;>intro haQ
 ·refine A7 ?_;refine Ss 0 ?_;refine A4 ?_;refine L4 0 0 ?_;refine Ss 1 ?_;refine A3 ?_;refine IV 1 ?_;exact congrArg Ending.returned (qnB haQ)
 ·refine A7 ?_;refine Ss 0 ?_;refine A4 ?_;refine L4 0 0 ?_;refine Ss 1 ?_;refine A3 ?_;refine IV 1 ?_;exact congrArg Ending.returned (qnC haQ)
end Go.Proofs.YtaffcpfhedadhaaGreatDoor
namespace Go.Proofs.YtaffcpfhedadhaaGreatDoor
variable[Go.Via.Mo]
open Go Go.RowKit Go.Via
def fJ(p q:Rat)(hp:bY p<=4194303:=by omega)(hq:bY q<=4194303:=by omega):aJ Tryz.prog 63 #[Q p,Q q] (Q (p+q)):=by
 have e1:=KF hp;have e2:=KG hp;have e3:=KF hq;have e4:=KG hq;have m1:=oK p.num.natAbs q.num.natAbs;have m2:=oK p.num.natAbs q.den;have m3:=oK q.num.natAbs p.den;have m4:=oK p.den q.den;have m5:=oK p.den q.num.natAbs;have dp:0<p.den:=Nat.pos_of_ne_zero p.den_nz;have dq:0<q.den:=Nat.pos_of_ne_zero q.den_nz;have dpq:0<p.den*q.den:=Nat.mul_pos dp dq;have m6:=Ac (p.num.natAbs*q.den) (q.num.natAbs*p.den);have m7:nb (p.num.natAbs*q.den-q.num.natAbs*p.den)<=nb (p.num.natAbs*q.den):=gG (Nat.sub_le _ _);have m8:nb (q.num.natAbs*p.den-p.num.natAbs*q.den)<=nb (q.num.natAbs*p.den):=gG (Nat.sub_le _ _);refine nV 64 Tryz.func63 fun w=>?_;refine jl fun g0=>?_;refine Bp 4 (fun g1=>?_);refine Al 4 qI (fun g2=>?_);refine A3 ?_;refine Dq [3000000] [0,2,1,3,4,5,6,7] ?_;refine jc ?_;refine jG [_] [] rfl rfl rfl (vk p (Nat.le_trans hp (Nat.le_of_ble_eq_true rfl))) trivial rfl (.inr qe6) (fun x=>?_);refine jG [_] [] rfl rfl rfl (vk q (Nat.le_trans hq (Nat.le_of_ble_eq_true rfl))) trivial rfl (.inr qe6) (fun y=>?_);refine Al 3 qbn (fun g3=>?_);refine Al 3 qbn (fun g4=>?_);refine Ss 7 ?_;refine Ss 8 ?_;refine A3 ?_;refine Dp [] [0,1,2,3,5,6,7,8,4,9,10,11] ?_;refine A8 ?_;refine(Sc [3,6]) (jh (p.num.natAbs) (q.den) ae ae x.1 y.2) (fun zP=>?_);refine(Sc [5,4]) (jh (q.num.natAbs) (p.den) ae ae y.1 x.2) (fun zQ=>?_);refine lW ?_;refine(Sc [4,6]) (jh (p.den) (q.den) ae ae x.2 y.2) (fun zD=>?_);refine qC ?_;refine G9 rfl u4 rfl rfl rfl ?_;refine A3 ?_;refine Cd ?_ ?_<;>intro haQ
 ·have hs:=haQ;refine A1 ?_;refine Dp [] [0,1,2,3,5,4,6,7,8] ?_;refine A5 ?_;refine(Sc [9,10]) (kZ (p.num.natAbs*q.den) (q.num.natAbs*p.den) ae ae zP zQ) (fun zS=>?_);refine(Bu [(0,_),(1,_),(2,_)]) (wI) ?_;refine(Sd [12,11]) (iL (p.num.natAbs*q.den+q.num.natAbs*p.den) (p.den*q.den) (decide (p.num<0)) dpq ae ae zS zD) ?_;refine aS 42 (Q (p+q)) rfl (congrArg Q (qjl p q hs)) ?_;refine Ss 2 ?_;refine A5 ?_;refine IV 2 ?_;exact rfl
 ·have hs:=haQ;refine A4 ?_;refine(Sd [9,10]) (eH (p.num.natAbs*q.den) (q.num.natAbs*p.den) ae zP zQ) ?_;refine A4 ?_;refine Cd ?_ ?_<;>intro hbQ
  ·have hle:q.num.natAbs*p.den<=p.num.natAbs*q.den:=kQ.1 (of_decide_eq_true hbQ);refine A1 ?_;refine Dp [] [0,1,2,3,5,4,6,7,8] ?_;refine A5 ?_;refine(Sc [9,10]) (xG (p.num.natAbs*q.den) (q.num.natAbs*p.den) ae hle zP zQ) (fun zS=>?_);refine(Bu [(0,_),(1,_),(2,_)]) (wI) ?_;refine(Sd [12,11]) (iL (p.num.natAbs*q.den-q.num.natAbs*p.den) (p.den*q.den) (decide (p.num<0)) dpq ae ae zS zD) ?_;refine aS 55 (Q (p+q)) rfl (congrArg Q (qjm p q hs hle)) ?_;refine Ss 2 ?_;refine A5 ?_;refine IV 2 ?_;exact rfl
  ·have hle:p.num.natAbs*q.den<=q.num.natAbs*p.den:=by have:=of_decide_eq_false hbQ;rw[kQ] at this;omega
   refine A4 ?_;refine Dp [] [0,1,2,3,5,4,6,7,8] ?_;refine A5 ?_;refine(Sc [10,9]) (xG (q.num.natAbs*p.den) (p.num.natAbs*q.den) ae hle zQ zP) (fun zS=>?_);refine(Bu [(0,_),(1,_),(2,_)]) (wI) ?_;refine(Sd [12,11]) (iL (q.num.natAbs*p.den-p.num.natAbs*q.den) (p.den*q.den) (decide (q.num<0)) dpq ae ae zS zD) ?_;refine aS 63 (Q (p+q)) rfl (congrArg Q (qjn p q hs hle)) ?_;refine dW ?_;refine IV 2 ?_;exact rfl
end Go.Proofs.YtaffcpfhedadhaaGreatDoor
namespace Go.Proofs.YtaffcpfhedadhaaGreatDoor
variable[Go.Via.Mo]
open Go Go.RowKit Go.Via
def jY(p q:Rat)(hp:bY p<=4194303:=by omega)(hq:bY q<=4194303:=by omega):aJ Tryz.prog 55 #[Q p,Q q] (Q (p-q)):=by
 refine nV 9 Tryz.func55 fun w=>?_;refine jl fun g0=>?_;refine Bp 4 (fun g1=>?_);refine Al 4 qI (fun g2=>?_);refine A3 ?_;refine Di [] ?_;refine jc ?_;refine Pc (I8 q) ?_;refine Pc (fJ p (-q) hp (Nat.le_trans (KI q) hq)) ?_;refine dW ?_;refine IV 2 ?_;exact congrArg (fun z=>Ending.returned (Q z)) (Rat.sub_eq_add_neg p q).symm
end Go.Proofs.YtaffcpfhedadhaaGreatDoor
namespace Go.Proofs.YtaffcpfhedadhaaGreatDoor
variable[Go.Via.Mo]
open Go Go.RowKit Go.Via
def dG(p q:Rat)(hp:bY p<=4194303:=by omega)(hq:bY q<=4194303:=by omega):aJ Tryz.prog 27 #[Q p,Q q] (Q (p*q)):=by
 have e1:=KF hp;have e2:=KG hp;have e3:=KF hq;have e4:=KG hq;have m1:=oK p.num.natAbs q.num.natAbs;have m2:=oK p.num.natAbs q.den;have m3:=oK q.num.natAbs p.den;have m4:=oK p.den q.den;have m5:=oK p.den q.num.natAbs;have dp:0<p.den:=Nat.pos_of_ne_zero p.den_nz;have dq:0<q.den:=Nat.pos_of_ne_zero q.den_nz;have dpq:0<p.den*q.den:=Nat.mul_pos dp dq;refine nV 28 Tryz.func27 fun w=>?_;refine jl fun g0=>?_;refine Bp 4 (fun g1=>?_);refine Al 4 qI (fun g2=>?_);refine A3 ?_;refine Dq [3000000] [0,2,1,3,4,5,6,7] ?_;refine jc ?_;refine jG [_] [] rfl rfl rfl (vk p (Nat.le_trans hp (Nat.le_of_ble_eq_true rfl))) trivial rfl (.inr qe6) (fun x=>?_);refine jG [_] [] rfl rfl rfl (vk q (Nat.le_trans hq (Nat.le_of_ble_eq_true rfl))) trivial rfl (.inr qe6) (fun y=>?_);refine Al 3 qbn (fun g3=>?_);refine Al 3 qbn (fun g4=>?_);refine Ss 7 ?_;refine Ss 8 ?_;refine A3 ?_;refine Dp [] [0,1,2,3,4,5,6,7,8,10,11,12,13,9,14,15,16,17] ?_;refine A4 ?_;refine o6 rfl u4 rfl rfl rfl ?_;refine A8 ?_;refine(Sc [3,5]) (jh (p.num.natAbs) (q.num.natAbs) ae ae x.1 y.1) (fun zn=>?_);refine(Sc [4,6]) (jh (p.den) (q.den) ae ae x.2 y.2) (fun zd=>?_);refine(Bu [(0,_),(1,_),(2,_)]) (wI) ?_;refine(Sd [9,10]) (iL (p.num.natAbs*q.num.natAbs) (p.den*q.den) (decide (p.num<0) !=decide (q.num<0)) dpq ae ae zn zd) ?_;refine aS 27 (Q (p*q)) rfl (congrArg Q (qnq p q)) ?_;refine dW ?_;refine IV 2 ?_;exact rfl
end Go.Proofs.YtaffcpfhedadhaaGreatDoor
