/-
  Part 31 (chapter 32): lemmas, walks. Each theorem states its own conditions.
-/
import Derived.Test.YtaffcpfhedadhaaGreatDoorA29
set_option linter.all false
set_option maxRecDepth 20000
set_option maxHeartbeats 20000000
section
variable{P Q:Prop}{T:Type}{R:T->Prop}
def Qh(h:P:=by
 refine A2 ?_;refine Tn2 3 4 ?_ ?_
 ·exact qqc
 ·exact qfQ):=h
def qfQ(h:P:=by
 refine A2 ?_;refine Tn1 3 ?_
 ·refine(Dv ((u%v:Nat):Int)) (congrArg some (jg _ _ rfl rfl)) ?_;refine A1 ?_;exact qag):=h
def qag(h:P:=by
 refine Tn1 5 ?_
 ·refine A2 ?_;exact⟨ak,rfl,⟨rfl,rfl,rfl,trivial⟩,rfl⟩):=h
def qqc(h:P:=by
 refine(Dv ((u%v:Nat):Int)) (congrArg some (jg _ _ rfl rfl)) ?_;refine A1 ?_;refine Tn1 4 ?_
 ·refine A2 ?_;exact qag):=h
def dW(q:Q)(h:bI Q->P:=by intro q_;refine Ss 2 ?_;refine A3 ?_;exact q_.qq):=h ⟨q⟩
def qfR(h:P:=by rw[BZ] at haQ;simpa using haQ):=h
def Yc(h:P:=by exact(by rw[IntKind.wrap_i64];omega)):=h
end
namespace Go.Proofs.YtaffcpfhedadhaaGreatDoor
variable[Go.Via.Mo]
open Go Go.RowKit Go.Via
def xO(a b:Int)(ha:jv a<=67108864:=by omega)(hb:jv b<=67108864:=by omega):aJ Tryz.prog 157 #[I a,I b] (I (Int.gcd a b)):=by
 refine nV 45 Tryz.func157 fun w=>?_;refine A2 ?_;refine Bp 2 (fun g0=>?_);refine Bp 2 (fun g1=>?_);refine Al 2 yh (fun g2=>?_);refine A3 ?_;refine Di [2000000] ?_;refine lW ?_;refine El (ι:={x:Nat×Nat // Nat.gcd x.1 x.2=Int.gcd a b∧nb x.1<=67108864∧nb x.2<=67108864}) (fun⟨⟨x,y⟩,hg,hx,hy⟩=>([(4,bf g2),(5,.string (bQ x)),(6,.string (bQ y))],[⟨some g0,34,[.bool (decide (a<0)),.string (bQ a.natAbs)],2,true⟩,⟨some g1,34,[.bool (decide (b<0)),.string (bQ b.natAbs)],2,true⟩,⟨some g2,34,[aT,aU],2,true⟩],y)) ⟨(a.natAbs,b.natAbs),rfl,ha,hb⟩ ?_;rintro⟨⟨x,y⟩,hg,hx,hy⟩;(try dsimp only);refine A7 ?_;refine Cd ?_ ?_<;>intro haQ
 ·have hy0:y≠0:=qfR
  refine A8 ?_;refine Pc (lC _ _) ?_;refine EK ?_;refine Cd ?_ ?_<;>intro hbQ
  ·obtain⟨hw1,hw2,hw3,hw4⟩:=FH hbQ;refine dF 7 (.int .u64 (x:Nat)) rfl MP ?_;refine dF 8 (.int .u64 (y:Nat)) rfl MQ ?_;refine A2 ?_;refine El (ι:={x:Nat×Nat // Nat.gcd x.1 x.2=Int.gcd a b∧x.1<18446744073709551616∧x.2<18446744073709551616}) (fun⟨⟨u,v⟩,hg2,hu,hv⟩=>([(4,bf g2),(7,.int .u64 (u:Nat)),(8,.int .u64 (v:Nat))],[⟨some g0,34,[.bool (decide (a<0)),.string (bQ a.natAbs)],2,true⟩,⟨some g1,34,[.bool (decide (b<0)),.string (bQ b.natAbs)],2,true⟩,⟨some g2,34,[aT,aU],2,true⟩],v)) ⟨(x,y),hg,hw1,hw2⟩ ?_;rintro⟨⟨u,v⟩,hg2,hu,hv⟩;(try dsimp only);refine A7 ?_;refine Cd ?_ ?_<;>intro hcQ
   ·have hv0:v≠0:=by have:=bne_iff_ne.1 hcQ;omega
    refine A3 ?_;refine qic [(4,bf g2),(7,.int .u64 (v:Nat)),(8,.int .u64 (u%v:Nat))] [⟨some g0,34,[.bool (decide (a<0)),.string (bQ a.natAbs)],2,true⟩,⟨some g1,34,[.bool (decide (b<0)),.string (bQ b.natAbs)],2,true⟩,⟨some g2,34,[aT,aU],2,true⟩] mixed ?_ ?_
    ·refine Tn3 0 1 2 ?_ ?_ ?_
     ·refine A2 ?_;refine Tn2 1 2 ?_ ?_
      ·refine A2 ?_;refine Tn2 2 4 ?_ ?_
       ·exact Qh
       ·refine A2 ?_;refine Tn1 2 ?_
        ·exact qfQ
      ·refine A2 ?_;refine Tn1 1 ?_
       ·exact Qh
     ·refine A2 ?_;refine Tn2 0 2 ?_ ?_
      ·refine A2 ?_;refine Tn2 2 4 ?_ ?_
       ·exact Qh
       ·refine A2 ?_;refine Tn1 2 ?_
        ·exact qfQ
      ·refine A2 ?_;refine Tn2 0 3 ?_ ?_
       ·exact Qh
       ·refine(Dv ((u%v:Nat):Int)) (congrArg some (jg _ _ rfl rfl)) ?_;refine A1 ?_;refine Tn1 0 ?_
        ·refine A2 ?_;refine Tn1 4 ?_
         ·refine A2 ?_;exact qag
     ·refine A2 ?_;refine Tn2 0 1 ?_ ?_
      ·refine A2 ?_;refine Tn1 1 ?_
       ·exact Qh
      ·refine A2 ?_;refine Tn2 0 3 ?_ ?_
       ·exact Qh
       ·refine(Dv ((u%v:Nat):Int)) (congrArg some (jg _ _ rfl rfl)) ?_;refine A1 ?_;refine Tn1 0 ?_
        ·refine A2 ?_;refine Tn1 4 ?_
         ·refine A2 ?_;exact qag
    refine A2 ?_;exact Nl ⟨(v,u%v),by rw[<-hg2];exact Uz u v,hv,Nat.lt_of_le_of_lt (Nat.mod_le _ _) hu⟩ (hμ:=(Nat.mod_lt _ (Nat.pos_of_ne_zero hv0)))
   ·have hv0:v=0:=by have:=UA hcQ;omega
    subst hv0;rw[Nat.gcd_zero_right] at hg2;refine A8 ?_;refine Pc (dS _ hu) ?_;refine Pc (dC _ _) ?_;refine Ss 2 ?_;refine A8 ?_;refine TL 2 ?_;exact congrArg (fun z=>Ending.returned (I z)) (Zf hg2)
  ·refine A6 ?_;refine Pc (rM _ _ hx hy hy0) ?_;refine Ed ?_;exact Nl ⟨(y,x%y),by rw[<-hg];exact Uz x y,hy,Nat.le_trans (gG (Nat.mod_le _ _)) hx⟩ (hμ:=(Nat.mod_lt _ (Nat.pos_of_ne_zero hy0)))
 ·have hy0:y=0:=qfR
  subst hy0;rw[Nat.gcd_zero_right] at hg;refine A8 ?_;refine Pc (dC _ _) ?_;refine dW ?_;refine TL 2 ?_;exact congrArg (fun z=>Ending.returned (I z)) (Zf hg)
def Jp(z:Int):aJ Tryz.prog 85 #[I z] (.tuple #[.int .i64 (if-9223372036854775808<=z∧z<=9223372036854775807 then z else 0),.bool (decide (-9223372036854775808<=z∧z<=9223372036854775807))]):=by
 refine wQ 35 Tryz.func85 fun w=>?_;refine A2 ?_;refine Bp 2 (fun g0=>?_);refine A8 ?_;refine Pc (uV _) ?_;refine Rh ?_;refine Cd ?_ ?_<;>intro haQ
 ·refine A9 ?_;refine bM rfl (au rfl) (au rfl) (fun w hL=>⟨?_,hL.below⟩);rw[(O9 haQ).1,(O9 haQ).2]
 ·have h8:=nb8 haQ;have h64:=oZ h8;refine dF 4 (.int .u64 (z.natAbs:Nat)) rfl (by rw[if_pos h8]) ?_;refine A5 ?_;refine Rs 18 ?_ ?_<;>intro hbQ
  ·have hz:z<0:=of_decide_eq_true hbQ;refine A6 ?_;refine Cd ?_ ?_<;>intro hcQ
   ·have hu:=of_decide_eq_true hcQ;refine A3 ?_;refine qdt (r:=(0-(z.natAbs:Nat):Int)%18446744073709551616) rfl rfl rfl ((qh7 _)) ?_;refine(Cv z jy u3) Yc ?_;refine A7 ?_;refine bM rfl (au rfl) (au rfl) (fun w hL=>⟨?_,hL.below⟩);rw[(Cb (z:=z) ae).1,(Cb (z:=z) ae).2]
   ·have hu:=of_decide_eq_false hcQ;refine A6 ?_;refine Rs 29 ?_ ?_<;>intro hdQ
    ·have hz2:¬z<0:=by simpa using hdQ
     refine A6 ?_;refine Cd ?_ ?_<;>intro heQ
     ·have hu:=of_decide_eq_true heQ;refine A3 ?_;refine(Cv z jy u3) Yc ?_;refine A7 ?_;refine bM rfl (au rfl) (au rfl) (fun w hL=>⟨?_,hL.below⟩);exfalso;omega
     ·have hu:=of_decide_eq_false heQ;refine lW ?_;refine bM rfl (au rfl) (au rfl) (fun w hL=>⟨?_,hL.below⟩);exfalso;omega
    ·have hz2:z<0:=by simpa using hdQ
     refine Ri ?_;refine bM rfl (au rfl) (au rfl) (fun w hL=>⟨?_,hL.below⟩);rw[(Ff (z:=z) ae).1,(Ff (z:=z) ae).2]
  ·have hz:¬z<0:=of_decide_eq_false hbQ;refine FN ?_;refine Rs 29 ?_ ?_<;>intro hcQ
   ·have hz2:¬z<0:=by simpa using hcQ
    refine A6 ?_;refine Cd ?_ ?_<;>intro hdQ
    ·have hu:=of_decide_eq_true hdQ;refine A3 ?_;refine(Cv z jy u3) Yc ?_;refine A7 ?_;refine bM rfl (au rfl) (au rfl) (fun w hL=>⟨?_,hL.below⟩);rw[(Cb (z:=z) ae).1,(Cb (z:=z) ae).2]
    ·have hu:=of_decide_eq_false hdQ;refine lW ?_;refine bM rfl (au rfl) (au rfl) (fun w hL=>⟨?_,hL.below⟩);rw[(Ff (z:=z) ae).1,(Ff (z:=z) ae).2]
   ·have hz2:z<0:=by simpa using hcQ
    refine Ri ?_;refine bM rfl (au rfl) (au rfl) (fun w hL=>⟨?_,hL.below⟩);exfalso;omega
def zG(b:Bool)(s:ByteArray):aJ Tryz.prog 154 #[.agg #[.bool b,.string s]] (.int .i64 (if qB b s=true then 5 else 0)):=by
 refine wQ 21 Tryz.func154 fun w=>?_;refine A2 ?_;refine Bp 2 (fun g0=>?_);refine lW ?_;refine Rs 6 ?_ ?_<;>intro haQ
 ·have he:=qdM haQ;refine A4 ?_;refine Rs 10 ?_ ?_<;>intro hbQ
  ·refine A20 ?_;refine E0 ?_;rw[if_pos (qmL he hbQ)]
  ·refine A4 ?_;refine Rs 14 ?_ ?_<;>intro hcQ
   ·exact absurd hcQ (by rw[he,bne,Ha];decide)
   ·refine Ri ?_;refine E0 ?_;rw[if_neg (qmM he hbQ)]
 ·obtain⟨x,l,he⟩:=qpq haQ;refine A8 ?_;refine Rs 14 ?_ ?_<;>intro hbQ
  ·refine A2 ?_;refine Aj (b:=x) (r:=(x.toNat:Int)) u9 rfl rfl rfl rfl ae (by rw[he];rfl) rfl ?_;refine A5 ?_;refine Cd ?_ ?_<;>intro hcQ
   ·refine A7 ?_;refine E0 ?_;rw[if_pos (qmN he hcQ)]
   ·refine A8 ?_;refine E0 ?_;rw[if_neg (qmO haQ he hcQ)]
  ·exact absurd hbQ (by rw[bne,haQ];decide)
end Go.Proofs.YtaffcpfhedadhaaGreatDoor
