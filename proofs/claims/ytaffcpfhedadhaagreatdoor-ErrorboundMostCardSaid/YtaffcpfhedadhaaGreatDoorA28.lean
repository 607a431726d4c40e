/-
  Part 28 (chapter 32): lemmas, walks. Each theorem states its own conditions.
-/
import Derived.Test.YtaffcpfhedadhaaGreatDoorA23
set_option linter.all false
set_option maxRecDepth 20000
set_option maxHeartbeats 20000000
section
variable{P Q:Prop}{T:Type}{R:T->Prop}
def PG(h:P:=by
 refine A2 ?_;refine Tn2 3 4 ?_ ?_
 ·exact qpw
 ·exact qfk):=h
def qfk(h:P:=by
 refine A2 ?_;refine IX 3 ?_
 ·refine(Dv ((u%v:Nat):Int)) (congrArg some (kz _ _ rfl rfl)) ?_;refine A1 ?_;exact Zy):=h
def Zy(h:P:=by
 refine IX 5 ?_
 ·refine A2 ?_;exact⟨ak,rfl,⟨rfl,rfl,rfl,trivial⟩,rfl⟩):=h
def qpw(h:P:=by
 refine(Dv ((u%v:Nat):Int)) (congrArg some (kz _ _ rfl rfl)) ?_;refine A1 ?_;refine IX 4 ?_
 ·refine A2 ?_;exact Zy):=h
def eG(q:Q)(h:bu Q->P:=by intro q_;refine Ss 2 ?_;refine A3 ?_;exact q_.qq):=h ⟨q⟩
def qfl(h:P:=by rw[BQ] at haQ;simpa using haQ):=h
def Xv(h:P:=by exact(by rw[IntKind.wrap_i64];omega)):=h
end
namespace Go.Proofs.YtaffcpfhedadhaaGreatDoor
variable[Go.Via.Mo]
open Go Go.RowKit Go.Via
def xk(a b:Int)(ha:jD a<=67108864:=by omega)(hb:jD b<=67108864:=by omega):aP Tryz.prog 157 #[I a,I b] (I (Int.gcd a b)):=by
 refine oz 45 Tryz.func157 fun w=>?_;refine nD fun g0=>?_;refine Bp 2 (fun g1=>?_);refine Al 2 xO (fun g2=>?_);refine A3 ?_;refine Di [2000000] ?_;refine lD ?_;refine El (ι:={x:Nat×Nat // Nat.gcd x.1 x.2=Int.gcd a b∧nb x.1<=67108864∧nb x.2<=67108864}) (fun⟨⟨x,y⟩,hg,hx,hy⟩=>([(4,dJ g2),(5,.string (bP x)),(6,.string (bP y))],[⟨some g0,34,[.bool (decide (a<0)),.string (bP a.natAbs)],2,true⟩,⟨some g1,34,[.bool (decide (b<0)),.string (bP b.natAbs)],2,true⟩,⟨some g2,34,[aZ,bf],2,true⟩],y)) ⟨(a.natAbs,b.natAbs),rfl,ha,hb⟩ ?_;rintro⟨⟨x,y⟩,hg,hx,hy⟩;(try dsimp only);refine A7 ?_;refine Cd ?_ ?_<;>intro haQ
 ·have hy0:y≠0:=qfl
  refine A8 ?_;refine Pc (lG _ _) ?_;refine Ew ?_;refine Cd ?_ ?_<;>intro hbQ
  ·obtain⟨hw1,hw2,hw3,hw4⟩:=E8 hbQ;refine dC 7 (.int .u64 (x:Nat)) rfl U6 ?_;refine dC 8 (.int .u64 (y:Nat)) rfl U7 ?_;refine A2 ?_;refine El (ι:={x:Nat×Nat // Nat.gcd x.1 x.2=Int.gcd a b∧x.1<18446744073709551616∧x.2<18446744073709551616}) (fun⟨⟨u,v⟩,hg2,hu,hv⟩=>([(4,dJ g2),(7,.int .u64 (u:Nat)),(8,.int .u64 (v:Nat))],[⟨some g0,34,[.bool (decide (a<0)),.string (bP a.natAbs)],2,true⟩,⟨some g1,34,[.bool (decide (b<0)),.string (bP b.natAbs)],2,true⟩,⟨some g2,34,[aZ,bf],2,true⟩],v)) ⟨(x,y),hg,hw1,hw2⟩ ?_;rintro⟨⟨u,v⟩,hg2,hu,hv⟩;(try dsimp only);refine A7 ?_;refine Cd ?_ ?_<;>intro hcQ
   ·have hv0:v≠0:=by have:=bne_iff_ne.1 hcQ;omega
    refine A3 ?_;refine qhK [(4,dJ g2),(7,.int .u64 (v:Nat)),(8,.int .u64 (u%v:Nat))] [⟨some g0,34,[.bool (decide (a<0)),.string (bP a.natAbs)],2,true⟩,⟨some g1,34,[.bool (decide (b<0)),.string (bP b.natAbs)],2,true⟩,⟨some g2,34,[aZ,bf],2,true⟩] mixed ?_ ?_
    ·refine Tn3 0 1 2 ?_ ?_ ?_
     ·refine A2 ?_;refine Tn2 1 2 ?_ ?_
      ·refine A2 ?_;refine Tn2 2 4 ?_ ?_
       ·exact PG
       ·refine A2 ?_;refine IX 2 ?_
        ·exact qfk
      ·refine A2 ?_;refine IX 1 ?_
       ·exact PG
     ·refine A2 ?_;refine Tn2 0 2 ?_ ?_
      ·refine A2 ?_;refine Tn2 2 4 ?_ ?_
       ·exact PG
       ·refine A2 ?_;refine IX 2 ?_
        ·exact qfk
      ·refine A2 ?_;refine Tn2 0 3 ?_ ?_
       ·exact PG
       ·refine(Dv ((u%v:Nat):Int)) (congrArg some (kz _ _ rfl rfl)) ?_;refine A1 ?_;refine IX 0 ?_
        ·refine A2 ?_;refine IX 4 ?_
         ·refine A2 ?_;exact Zy
     ·refine A2 ?_;refine Tn2 0 1 ?_ ?_
      ·refine A2 ?_;refine IX 1 ?_
       ·exact PG
      ·refine A2 ?_;refine Tn2 0 3 ?_ ?_
       ·exact PG
       ·refine(Dv ((u%v:Nat):Int)) (congrArg some (kz _ _ rfl rfl)) ?_;refine A1 ?_;refine IX 0 ?_
        ·refine A2 ?_;refine IX 4 ?_
         ·refine A2 ?_;exact Zy
    refine A2 ?_;exact Nl ⟨(v,u%v),by rw[<-hg2];exact TP u v,hv,Nat.lt_of_le_of_lt (Nat.mod_le _ _) hu⟩ (hμ:=(Nat.mod_lt _ (Nat.pos_of_ne_zero hv0)))
   ·have hv0:v=0:=by have:=TQ hcQ;omega
    subst hv0;rw[Nat.gcd_zero_right] at hg2;refine A8 ?_;refine Pc (dW _ hu) ?_;refine Pc (dA _ _) ?_;refine Ss 2 ?_;refine A8 ?_;refine SH 2 ?_;exact congrArg (fun z=>Ending.returned (I z)) (YC hg2)
  ·refine A6 ?_;refine Pc (rC _ _ hx hy hy0) ?_;refine D7 ?_;exact Nl ⟨(y,x%y),by rw[<-hg];exact TP x y,hy,Nat.le_trans (gK (Nat.mod_le _ _)) hx⟩ (hμ:=(Nat.mod_lt _ (Nat.pos_of_ne_zero hy0)))
 ·have hy0:y=0:=qfl
  subst hy0;rw[Nat.gcd_zero_right] at hg;refine A8 ?_;refine Pc (dA _ _) ?_;refine eG ?_;refine SH 2 ?_;exact congrArg (fun z=>Ending.returned (I z)) (YC hg)
def I4(z:Int):aP Tryz.prog 85 #[I z] (.tuple #[.int .i64 (if-9223372036854775808<=z∧z<=9223372036854775807 then z else 0),.bool (decide (-9223372036854775808<=z∧z<=9223372036854775807))]):=by
 refine xI 35 Tryz.func85 fun w=>?_;refine nD fun g0=>?_;refine A8 ?_;refine Pc (uX _) ?_;refine SG ?_;refine Cd ?_ ?_<;>intro haQ
 ·refine A9 ?_;refine bM rfl (au rfl) (au rfl) (fun w hL=>⟨?_,hL.below⟩);rw[(OA haQ).1,(OA haQ).2]
 ·have h8:=nb8 haQ;have h64:=pz h8;refine dC 4 (.int .u64 (z.natAbs:Nat)) rfl (by rw[if_pos h8]) ?_;refine A5 ?_;refine Rs 18 ?_ ?_<;>intro hbQ
  ·have hz:z<0:=of_decide_eq_true hbQ;refine A6 ?_;refine Cd ?_ ?_<;>intro hcQ
   ·have hu:=of_decide_eq_true hcQ;refine A3 ?_;refine qcP (r:=(0-(z.natAbs:Nat):Int)%18446744073709551616) rfl rfl rfl ((qhF _)) ?_;refine(Cv z jE u3) Xv ?_;refine A7 ?_;refine bM rfl (au rfl) (au rfl) (fun w hL=>⟨?_,hL.below⟩);rw[(BR (z:=z) ae).1,(BR (z:=z) ae).2]
   ·have hu:=of_decide_eq_false hcQ;refine A6 ?_;refine Rs 29 ?_ ?_<;>intro hdQ
    ·have hz2:¬z<0:=by simpa using hdQ
     refine A6 ?_;refine Cd ?_ ?_<;>intro heQ
     ·have hu:=of_decide_eq_true heQ;refine A3 ?_;refine(Cv z jE u3) Xv ?_;refine A7 ?_;refine bM rfl (au rfl) (au rfl) (fun w hL=>⟨?_,hL.below⟩);exfalso;omega
     ·have hu:=of_decide_eq_false heQ;refine lD ?_;refine bM rfl (au rfl) (au rfl) (fun w hL=>⟨?_,hL.below⟩);exfalso;omega
    ·have hz2:z<0:=by simpa using hdQ
     refine QI ?_;refine bM rfl (au rfl) (au rfl) (fun w hL=>⟨?_,hL.below⟩);rw[(ES (z:=z) ae).1,(ES (z:=z) ae).2]
  ·have hz:¬z<0:=of_decide_eq_false hbQ;refine Gw ?_;refine Rs 29 ?_ ?_<;>intro hcQ
   ·have hz2:¬z<0:=by simpa using hcQ
    refine A6 ?_;refine Cd ?_ ?_<;>intro hdQ
    ·have hu:=of_decide_eq_true hdQ;refine A3 ?_;refine(Cv z jE u3) Xv ?_;refine A7 ?_;refine bM rfl (au rfl) (au rfl) (fun w hL=>⟨?_,hL.below⟩);rw[(BR (z:=z) ae).1,(BR (z:=z) ae).2]
    ·have hu:=of_decide_eq_false hdQ;refine lD ?_;refine bM rfl (au rfl) (au rfl) (fun w hL=>⟨?_,hL.below⟩);rw[(ES (z:=z) ae).1,(ES (z:=z) ae).2]
   ·have hz2:z<0:=by simpa using hcQ
    refine QI ?_;refine bM rfl (au rfl) (au rfl) (fun w hL=>⟨?_,hL.below⟩);exfalso;omega
def zk(b:Bool)(s:ByteArray):aP Tryz.prog 154 #[.agg #[.bool b,.string s]] (.int .i64 (if qo b s=true then 5 else 0)):=by
 refine xI 21 Tryz.func154 fun w=>?_;refine nD fun g0=>?_;refine lD ?_;refine Rs 6 ?_ ?_<;>intro haQ
 ·have he:=qde haQ;refine A4 ?_;refine Rs 10 ?_ ?_<;>intro hbQ
  ·refine A20 ?_;refine E0 ?_;rw[if_pos (qmf he hbQ)]
  ·refine A4 ?_;refine Rs 14 ?_ ?_<;>intro hcQ
   ·exact absurd hcQ (by rw[he,bne,GL];decide)
   ·refine QI ?_;refine E0 ?_;rw[if_neg (qmg he hbQ)]
 ·obtain⟨x,l,he⟩:=qoN haQ;refine A8 ?_;refine Rs 14 ?_ ?_<;>intro hbQ
  ·refine A2 ?_;refine Ac (b:=x) (r:=(x.toNat:Int)) u9 rfl rfl rfl rfl ae (by rw[he];rfl) rfl ?_;refine A5 ?_;refine Cd ?_ ?_<;>intro hcQ
   ·refine A7 ?_;refine E0 ?_;rw[if_pos (qmh he hcQ)]
   ·refine A8 ?_;refine E0 ?_;rw[if_neg (qmi haQ he hcQ)]
  ·exact absurd hbQ (by rw[bne,haQ];decide)
end Go.Proofs.YtaffcpfhedadhaaGreatDoor
