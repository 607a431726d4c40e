/-
  Part 22 (chapter 32): lemmas, walks. Each theorem states its own conditions.
-/
import Derived.Test.YtaffcpfhedadhaaGreatDoorA05
import Derived.Test.YtaffcpfhedadhaaGreatDoorA12
import Derived.Test.YtaffcpfhedadhaaGreatDoorA13
import Derived.Test.YtaffcpfhedadhaaGreatDoorA14
import Derived.Test.YtaffcpfhedadhaaGreatDoorA20
import Derived.Test.YtaffcpfhedadhaaGreatDoorA21
import Derived.Test.YtaffcpfhedadhaaGreatDoorA18
set_option linter.all false
set_option maxRecDepth 20000
set_option maxHeartbeats 20000000
section
variable{P Q:Prop}{T:Type}{R:T->Prop}
def NC(h:P:=by
 refine A2 ?_;refine Tn2 3 4 ?_ ?_
 ·refine(Dv ((u%v:Nat):Int)) (congrArg some (jy _ _ rfl rfl)) ?_;refine A1 ?_;refine Vk 4 ?_
  ·refine A2 ?_;refine Vk 5 ?_
   ·refine A2 ?_;exact⟨by kernel_rfl,rfl,⟨rfl,rfl,rfl,trivial⟩,rfl⟩
 ·exact qbc):=h
def qbc(h:P:=by
 refine A2 ?_;refine Vk 3 ?_
 ·refine(Dv ((u%v:Nat):Int)) (congrArg some (jy _ _ rfl rfl)) ?_;refine A1 ?_;refine Vk 5 ?_
  ·refine A2 ?_;exact⟨by kernel_rfl,rfl,⟨rfl,rfl,rfl,trivial⟩,rfl⟩):=h
end
namespace Go.Proofs.YtaffcpfhedadhaaGreatDoor
variable[Go.Via.Mo]
open Go Go.RowKit Go.Via
def wQ(a b:Int)(ha:jm a<=67108864:=by omega)(hb:jm b<=67108864:=by omega):aH Tryz.prog 157 #[I a,I b] (I (Int.gcd a b)):=by
 refine nG 45 Tryz.func157 fun w=>?_;refine A2 ?_;refine Bp 2 (fun g0=>?_);refine Bp 2 (fun g1=>?_);refine Al 2 wG (fun g2=>?_);refine A3 ?_;refine Di [2000000] ?_;refine kN ?_;refine El (ι:={x:Nat×Nat // Nat.gcd x.1 x.2=Int.gcd a b∧nb x.1<=67108864∧nb x.2<=67108864}) (fun⟨⟨x,y⟩,hg,hx,hy⟩=>([(4,dD g2),(5,.string (bH x)),(6,.string (bH y))],[⟨some g0,34,[.bool (decide (a<0)),.string (bH a.natAbs)],2,true⟩,⟨some g1,34,[.bool (decide (b<0)),.string (bH b.natAbs)],2,true⟩,⟨some g2,34,[aO,aP],2,true⟩],y)) ⟨(a.natAbs,b.natAbs),rfl,ha,hb⟩ ?_;rintro⟨⟨x,y⟩,hg,hx,hy⟩;(try dsimp only);refine A7 ?_;refine Cd ?_ ?_<;>intro haQ
 ·have hy0:y≠0:=by rw[sZ] at haQ;simpa using haQ
  refine A8 ?_;refine Pc (lu _ _) ?_;refine D6 ?_;refine Cd ?_ ?_<;>intro hbQ
  ·obtain⟨hw1,hw2,hw3,hw4⟩:=Ei hbQ;refine bZ 7 (.int .u64 (x:Nat)) rfl (by rw[if_pos hw3]) ?_;refine bZ 8 (.int .u64 (y:Nat)) rfl (by rw[if_pos hw4]) ?_;refine A2 ?_;refine El (ι:={x:Nat×Nat // Nat.gcd x.1 x.2=Int.gcd a b∧x.1<18446744073709551616∧x.2<18446744073709551616}) (fun⟨⟨u,v⟩,hg2,hu,hv⟩=>([(4,dD g2),(7,.int .u64 (u:Nat)),(8,.int .u64 (v:Nat))],[⟨some g0,34,[.bool (decide (a<0)),.string (bH a.natAbs)],2,true⟩,⟨some g1,34,[.bool (decide (b<0)),.string (bH b.natAbs)],2,true⟩,⟨some g2,34,[aO,aP],2,true⟩],v)) ⟨(x,y),hg,hw1,hw2⟩ ?_;rintro⟨⟨u,v⟩,hg2,hu,hv⟩;(try dsimp only);refine A7 ?_;refine Cd ?_ ?_<;>intro hcQ
   ·have hv0:v≠0:=by have:=bne_iff_ne.1 hcQ;omega
    refine A3 ?_;refine qdk [(4,dD g2),(7,.int .u64 (v:Nat)),(8,.int .u64 (u%v:Nat))] [⟨some g0,34,[.bool (decide (a<0)),.string (bH a.natAbs)],2,true⟩,⟨some g1,34,[.bool (decide (b<0)),.string (bH b.natAbs)],2,true⟩,⟨some g2,34,[aO,aP],2,true⟩] mixed ?_ ?_
    ·refine Tn3 0 1 2 ?_ ?_ ?_
     ·refine A2 ?_;refine Tn2 1 2 ?_ ?_
      ·refine A2 ?_;refine Tn2 2 4 ?_ ?_
       ·exact NC
       ·refine A2 ?_;refine Vk 2 ?_
        ·exact qbc
      ·refine A2 ?_;refine Vk 1 ?_
       ·exact NC
     ·refine A2 ?_;refine Tn2 0 2 ?_ ?_
      ·refine A2 ?_;refine Tn2 2 4 ?_ ?_
       ·exact NC
       ·refine A2 ?_;refine Vk 2 ?_
        ·exact qbc
      ·refine A2 ?_;refine Tn2 0 3 ?_ ?_
       ·exact NC
       ·refine(Dv ((u%v:Nat):Int)) (congrArg some (jy _ _ rfl rfl)) ?_;refine A1 ?_;refine Vk 0 ?_
        ·refine A2 ?_;refine Vk 4 ?_
         ·refine A2 ?_;refine Vk 5 ?_
          ·refine A2 ?_;exact⟨by kernel_rfl,rfl,⟨rfl,rfl,rfl,trivial⟩,rfl⟩
     ·refine A2 ?_;refine Tn2 0 1 ?_ ?_
      ·refine A2 ?_;refine Vk 1 ?_
       ·exact NC
      ·refine A2 ?_;refine Tn2 0 3 ?_ ?_
       ·exact NC
       ·refine(Dv ((u%v:Nat):Int)) (congrArg some (jy _ _ rfl rfl)) ?_;refine A1 ?_;refine Vk 0 ?_
        ·refine A2 ?_;refine Vk 4 ?_
         ·refine A2 ?_;refine Vk 5 ?_
          ·refine A2 ?_;exact⟨by kernel_rfl,rfl,⟨rfl,rfl,rfl,trivial⟩,rfl⟩
    refine A2 ?_;exact Nl ⟨(v,u%v),by rw[<-hg2];exact QR u v,hv,Nat.lt_of_le_of_lt (Nat.mod_le _ _) hu⟩ (hμ:=(Nat.mod_lt _ (Nat.pos_of_ne_zero hv0)))
   ·have hv0:v=0:=by have:=QS hcQ;omega
    subst hv0;rw[Nat.gcd_zero_right] at hg2;refine A8 ?_;refine Pc (dU _ hu) ?_;refine Pc (dC _ _) ?_;refine Ss 2 ?_;refine A8 ?_;refine PY 2 ?_;exact congrArg (fun z=>Ending.returned (I z)) (VV hg2)
  ·refine A6 ?_;refine Pc (qJ _ _ hx hy hy0) ?_;refine AL ?_;exact Nl ⟨(y,x%y),by rw[<-hg];exact QR x y,hy,Nat.le_trans (gK (Nat.mod_le _ _)) hx⟩ (hμ:=(Nat.mod_lt _ (Nat.pos_of_ne_zero hy0)))
 ·have hy0:y=0:=by rw[sZ] at haQ;simpa using haQ
  subst hy0;rw[Nat.gcd_zero_right] at hg;refine A8 ?_;refine Pc (dC _ _) ?_;refine Ss 2 ?_;refine A3 ?_;refine PY 2 ?_;exact congrArg (fun z=>Ending.returned (I z)) (VV hg)
def G8(z:Int):aH Tryz.prog 85 #[I z] (.tuple #[.int .i64 (if-9223372036854775808<=z∧z<=9223372036854775807 then z else 0),.bool (decide (-9223372036854775808<=z∧z<=9223372036854775807))]):=by
 refine uX 35 Tryz.func85 fun w=>?_;refine A2 ?_;refine Bp 2 (fun g0=>?_);refine A8 ?_;refine Pc (ut _) ?_;refine KT ?_;refine Cd ?_ ?_<;>intro haQ
 ·refine A9 ?_;refine bF rfl (aj rfl) (aj rfl) (fun w hL=>⟨?_,hL.below⟩);rw[(MX haQ).1,(MX haQ).2]
 ·have h8:=nb8 haQ;have h64:=oH h8;refine bZ 4 (.int .u64 (z.natAbs:Nat)) rfl (by rw[if_pos h8]) ?_;refine A5 ?_;refine Rs 18 ?_ ?_<;>intro hbQ
  ·have hz:z<0:=of_decide_eq_true hbQ;refine A6 ?_;refine Cd ?_ ?_<;>intro hcQ
   ·have hu:=of_decide_eq_true hcQ;refine A3 ?_;refine Zx (r:=(0-(z.natAbs:Nat):Int)%18446744073709551616) rfl rfl rfl ((qdf _)) ?_;refine(Cv z iw u3) (by exact(by rw[IntKind.wrap_i64];omega)) ?_;refine A7 ?_;refine bF rfl (aj rfl) (aj rfl) (fun w hL=>⟨?_,hL.below⟩);rw[(AY (z:=z) (by omega)).1,(AY (z:=z) (by omega)).2]
   ·have hu:=of_decide_eq_false hcQ;refine A6 ?_;refine Rs 29 ?_ ?_<;>intro hdQ
    ·have hz2:¬z<0:=by simpa using hdQ
     refine A6 ?_;refine Cd ?_ ?_<;>intro heQ
     ·have hu:=of_decide_eq_true heQ;refine A3 ?_;refine(Cv z iw u3) (by exact(by rw[IntKind.wrap_i64];omega)) ?_;refine A7 ?_;refine bF rfl (aj rfl) (aj rfl) (fun w hL=>⟨?_,hL.below⟩);exfalso;omega
     ·have hu:=of_decide_eq_false heQ;refine kN ?_;refine bF rfl (aj rfl) (aj rfl) (fun w hL=>⟨?_,hL.below⟩);exfalso;omega
    ·have hz2:z<0:=by simpa using hdQ
     refine KU ?_;refine bF rfl (aj rfl) (aj rfl) (fun w hL=>⟨?_,hL.below⟩);rw[(En (z:=z) (by omega)).1,(En (z:=z) (by omega)).2]
  ·have hz:¬z<0:=of_decide_eq_false hbQ;refine D5 ?_;refine Rs 29 ?_ ?_<;>intro hcQ
   ·have hz2:¬z<0:=by simpa using hcQ
    refine A6 ?_;refine Cd ?_ ?_<;>intro hdQ
    ·have hu:=of_decide_eq_true hdQ;refine A3 ?_;refine(Cv z iw u3) (by exact(by rw[IntKind.wrap_i64];omega)) ?_;refine A7 ?_;refine bF rfl (aj rfl) (aj rfl) (fun w hL=>⟨?_,hL.below⟩);rw[(AY (z:=z) (by omega)).1,(AY (z:=z) (by omega)).2]
    ·have hu:=of_decide_eq_false hdQ;refine kN ?_;refine bF rfl (aj rfl) (aj rfl) (fun w hL=>⟨?_,hL.below⟩);rw[(En (z:=z) (by omega)).1,(En (z:=z) (by omega)).2]
   ·have hz2:z<0:=by simpa using hcQ
    refine KU ?_;refine bF rfl (aj rfl) (aj rfl) (fun w hL=>⟨?_,hL.below⟩);exfalso;omega
def yL(b:Bool)(s:ByteArray):aH Tryz.prog 154 #[.agg #[.bool b,.string s]] (.int .i64 (if pF b s=true then 5 else 0)):=by
 refine uX 21 Tryz.func154 fun w=>?_;refine A2 ?_;refine Bp 2 (fun g0=>?_);refine kN ?_;refine Rs 6 ?_ ?_<;>intro haQ
 ·have he:=qaG haQ;refine A4 ?_;refine Rs 10 ?_ ?_<;>intro hbQ
  ·refine A20 ?_;refine E0 ?_;rw[if_pos (qhD he hbQ)]
  ·refine A4 ?_;refine Rs 14 ?_ ?_<;>intro hcQ
   ·exact absurd hcQ (by rw[he,bne,FB];decide)
   ·refine KU ?_;refine E0 ?_;rw[if_neg (qhE he hbQ)]
 ·obtain⟨x,l,he⟩:=qjI haQ;refine A8 ?_;refine Rs 14 ?_ ?_<;>intro hbQ
  ·refine A2 ?_;refine y8 (b:=x) (r:=(x.toNat:Int)) u9 rfl rfl rfl rfl (by omega) (by rw[he];rfl) rfl ?_;refine A5 ?_;refine Cd ?_ ?_<;>intro hcQ
   ·refine A7 ?_;refine E0 ?_;rw[if_pos (qhF he hcQ)]
   ·refine A8 ?_;refine E0 ?_;rw[if_neg (qhG haQ he hcQ)]
  ·exact absurd hbQ (by rw[bne,haQ];decide)
end Go.Proofs.YtaffcpfhedadhaaGreatDoor
namespace Go.Proofs.YtaffcpfhedadhaaGreatDoor
variable[Go.Via.Mo]
open Go Go.RowKit Go.Via
def iZ(l:List Nat)(hl:∀d∈l,d<256)(hn:l.length<=1073741824){len:Nat}(hlen:l.length=len)(x:SR len):bW Tryz.prog 121 [⟨x.b,3,NV .i64 l,x.n,false⟩] [x.v] Unit (fun _=>az x.b 0 (ag 256 (val 256 l)).length x.cap) (fun _=>[]):=by
 refine⟨by kernel_rfl,fun w hL0=>?_⟩;subst hlen;refine cB1 21 Tryz.func121 hL0 ?_;refine D6 ?_;refine El (ι:={m:Nat // m<=l.length∧val 256 (l.take m)=val 256 l}) (fun⟨m,hm,hv⟩=>([(0,x.v),(3,aZ m)],[⟨x.b,3,NV .i64 l,x.n,false⟩],m)) ⟨l.length,Nat.le_refl _,by rw[List.take_of_length_le (Nat.le_refl _)]⟩ ?_;rintro⟨m,hm,hv⟩;(try dsimp only);refine A6 ?_;refine Rs 8 ?_ ?_<;>intro haQ
 ·have h0:0<m:=(by have:=of_decide_eq_true haQ;omega);refine A2 ?_;refine Ar (((m-1:Nat):Int)) ?_;refine Ix 0 (m-1) ?_;refine(Lo 0 (m-1)) (by exact(bI (l:=l) (List.getElem?_eq_getElem (by omega)))) ?_;refine A4 ?_;refine Cd ?_ ?_<;>intro hbQ
  ·have hz:l[m-1]=0:=(by have:=eq_of_beq hbQ;omega);refine A5 ?_;refine Ar (((m-1:Nat):Int)) ?_;refine A4 ?_;exact Nl ⟨m-1,by omega,Jh h0 hm hv (by omega) hz⟩
  ·have hz:l[m-1]≠0:=(by have:=ne_of_beq_false hbQ;omega);refine A9 ?_;refine iD m nM wF rfl rfl rfl rfl (by omega) (by have:=x.h;omega) (by omega) ?_;refine A4 ?_;refine aF rfl (aj rfl) (fun w hL=>⟨(),?_,hL.pk []⟩);rw[Ec (B:=256) (by decide) hl hm hv (.inr ⟨by omega,hz⟩)]
 ·have h0:m=0:=(by have:=of_decide_eq_false haQ;omega);refine A19 ?_;refine iD m nM wF rfl rfl rfl rfl (by omega) (by have:=x.h;omega) (by omega) ?_;refine A4 ?_;refine aF rfl (aj rfl) (fun w hL=>⟨(),?_,hL.pk []⟩);rw[Ec (B:=256) (by decide) hl hm hv (.inl h0)]
def eP(a b:Nat)(ha:nb a<=1073741824)(x:SR (nb a))(y:SR (nb b)):bW Tryz.prog 114 [⟨x.b,3,NV .i64 (D8 a),x.n,false⟩,⟨y.b,3,NV .i64 (D8 b),y.n,false⟩] [x.v,y.v] Unit (fun _=> .int .i64 (lX a b)) (fun _=>[]):=by
 refine X5 41 Tryz.func114 fun w hL0=>?_;refine AL ?_;refine Cd ?_ ?_<;>intro haQ
 ·have hl:nb a≠nb b:=by have:=bne_iff_ne.1 haQ;omega
  refine kN ?_;refine Cd ?_ ?_<;>intro hbQ
  ·have h1:nb a<nb b:=(by have:=of_decide_eq_true hbQ;omega);refine A8 ?_;refine aF rfl (aj rfl) (fun w hL=>⟨(),?_,hL.pk []⟩);rw[Uk h1]
  ·have h1:nb b<nb a:=(by have:=of_decide_eq_false hbQ;omega);refine A9 ?_;refine aF rfl (aj rfl) (fun w hL=>⟨(),?_,hL.pk []⟩);rw[Ul h1]
 ·have hl:nb a=nb b:=by have:=QS haQ;omega
  refine A7 ?_;refine Ar (((nb a:Nat):Int)-1) ?_;refine A4 ?_;refine El (ι:={p:Nat // p<=nb a∧a/256^p=b/256^p}) (fun⟨p,hp,he⟩=>([(0,x.v),(1,y.v),(5,.int .i64 ((p:Nat)-1))],[⟨x.b,3,NV .i64 (D8 a),x.n,false⟩,⟨y.b,3,NV .i64 (D8 b),y.n,false⟩],p)) ⟨nb a,Nat.le_refl _,qel hl⟩ ?_;rintro⟨p,hp,he⟩;(try dsimp only);refine A7 ?_;refine Cd ?_ ?_<;>intro hbQ
  ·obtain⟨q,rfl⟩:∃q,p=q+1:=⟨p-1,by have:=of_decide_eq_true hbQ;omega⟩;refine bZ 5 (aZ q) rfl (congrArg (Value.int .i64) (by omega)) ?_;refine A6 ?_;refine Di [] ?_;refine A2 ?_;refine ai 0 (q) nM wF rfl rfl rfl rfl rfl (by omega) (by omega) (nK (by rw[dw];omega)) (by show 0+Int.toNat _*1=_;omega) ?_;refine(Lo 0 (q)) (by exact(bI (kV (by omega)))) ?_;refine A2 ?_;refine ai 1 (q) nM wF rfl rfl rfl rfl rfl (by omega) (by omega) (nK (by rw[dw];omega)) (by show 0+Int.toNat _*1=_;omega) ?_;refine(Lo 1 (q)) (by exact(bI (kV (by omega)))) ?_;refine A3 ?_;refine Cd ?_ ?_<;>intro hcQ
   ·have h1:a/256^q%256<b/256^q%256:=(by have:=of_decide_eq_true hcQ;omega);refine lw ?_;refine aF rfl (aj rfl) (fun w hL=>⟨(),?_,hL.pk []⟩);rw[Um he h1]
   ·have h1:¬a/256^q%256<b/256^q%256:=(by have:=of_decide_eq_false hcQ;omega);refine A3 ?_;refine Di [] ?_;refine A2 ?_;refine ai 0 (q) nM wF rfl rfl rfl rfl rfl (by omega) (by omega) (nK (by rw[dw];omega)) (by show 0+Int.toNat _*1=_;omega) ?_;refine(Lo 0 (q)) (by exact(bI (kV (by omega)))) ?_;refine A2 ?_;refine ai 1 (q) nM wF rfl rfl rfl rfl rfl (by omega) (by omega) (nK (by rw[dw];omega)) (by show 0+Int.toNat _*1=_;omega) ?_;refine(Lo 1 (q)) (by exact(bI (kV (by omega)))) ?_;refine A3 ?_;refine Cd ?_ ?_<;>intro hdQ
    ·have h2:b/256^q%256<a/256^q%256:=(by have:=of_decide_eq_true hdQ;omega);refine pq ?_;refine aF rfl (aj rfl) (fun w hL=>⟨(),?_,hL.pk []⟩);rw[Un he h2]
    ·have h2:¬b/256^q%256<a/256^q%256:=(by have:=of_decide_eq_false hdQ;omega);refine A5 ?_;refine Ar (((q:Nat):Int)-1) ?_;refine A3 ?_;exact Nl ⟨q,by omega,Uo he h1 h2⟩
  ·have hp0:p=0:=by have:=of_decide_eq_false hbQ;omega
   subst hp0;refine pq ?_;refine aF rfl (aj rfl) (fun w hL=>⟨(),?_,hL.pk []⟩);rw[qem he]
def BU(n:Nat)(hn:nb n<=1073741824)(x:SR (nb n)):bW Tryz.prog 163 [⟨x.b,3,NV .i64 (D8 n),x.n,false⟩] [x.v] Unit (fun _=> .tuple #[.int .i64 (if nb n<=7 then(n:Int) else 0),.bool (decide (nb n<=7))]) (fun _=>[]):=by
 refine MI 24 Tryz.func163 fun w hL0=>?_;refine D6 ?_;refine Cd ?_ ?_<;>intro haQ
 ·have h8:¬nb n<=7:=(by have:=of_decide_eq_true haQ;omega);refine A8 ?_;refine bF rfl (aj rfl) (aj rfl) (fun w hL=>⟨(),?_,hL.pk []⟩);rw[if_neg h8,decide_eq_false h8]
 ·have h8:nb n<=7:=(by have:=of_decide_eq_false haQ;omega);refine lw ?_;refine Ar (((nb n:Nat):Int)-1) ?_;refine A4 ?_;refine El (ι:={p:Nat // p<=nb n}) (fun⟨p,hp⟩=>([(0,x.v),(4,aZ (n/256^p)),(5,.int .i64 ((p:Nat)-1))],[⟨x.b,3,NV .i64 (D8 n),x.n,false⟩],p)) ⟨nb n,Nat.le_refl _⟩ ?_ (ht:=⟨rfl,(aG rfl (by rw[Nat.div_eq_of_lt (jT n)];rfl)),rfl,trivial⟩);rintro⟨p,hp⟩;(try dsimp only);refine A7 ?_;refine Cd ?_ ?_<;>intro hbQ
  ·obtain⟨q,rfl⟩:∃q,p=q+1:=⟨p-1,by have:=of_decide_eq_true hbQ;omega⟩;refine bZ 5 (aZ q) rfl (congrArg (Value.int .i64) (by omega)) ?_;have hs1:=qaH (q:=q) h8;have hs2:=vK n q;refine A6 ?_;refine Ar (((n/256^(q+1)*256:Nat):Int)) ?_;refine A2 ?_;refine ai 0 (q) nM wF rfl rfl rfl rfl rfl (by omega) (by omega) (nK (by rw[dw];omega)) (by show 0+Int.toNat _*1=_;omega) ?_;refine(Lo 0 (q)) (by exact(bI (kV (by omega)))) ?_;refine Ar (((n/256^q:Nat):Int)) ?_;refine A6 ?_;refine Ar (((q:Nat):Int)-1) ?_;refine A3 ?_;exact Nl ⟨q,by omega⟩
  ·have hp0:p=0:=by have:=of_decide_eq_false hbQ;omega
   subst hp0;refine D5 ?_;refine bF rfl (aj rfl) (aj rfl) (fun w hL=>⟨(),?_,hL.pk []⟩);rw[if_pos h8,decide_eq_true h8];simp
def BV(n:Nat)(hn:n<=9223372036854775807:=by omega):bW Tryz.prog 164 [] [aZ n] (SR (nb n)) SR.v (fun x=>[⟨x.b,3,NV .i64 (D8 n),x.n,true⟩]):=by
 refine⟨by kernel_rfl,fun w hL0=>?_⟩;have hnb:nb n<=8:=ng (by omega);refine cB1 14 Tryz.func164 hL0 ?_;refine lw ?_;refine El (ι:={x:Nat×Option Nat×Nat×Nat // x.1<=nb n∧x.1<=x.2.2.2∧x.2.2.2<=x.2.2.1}) (fun⟨⟨i,ob,oN,oc⟩,hi,h1,h2⟩=>([(0,aZ (n/256^i)),(3,az ob 0 i oc)],[⟨ob,3,NV .i64 (row i (BN n)),oN,true⟩],nb n-i)) ⟨(0,none,0,0),Nat.zero_le _,Nat.le_refl _,Nat.le_refl _⟩ ?_ (ht:=⟨(aG rfl (by rw[Nat.pow_zero,Nat.div_one])),rfl,trivial⟩) (hL:=(ak [none] ⟨⟨rfl,rfl,rfl⟩,trivial⟩ rfl rfl));rintro⟨⟨i,ob,oN,oc⟩,hi,h1,h2⟩;(try dsimp only);replace hi:i<=nb n:=hi;replace h1:i<=oc:=h1;replace h2:oc<=oN:=h2;refine A7 ?_;refine Cd ?_ ?_<;>intro haQ
 ·have hgt:0<n/256^i:=by have:=of_decide_eq_true haQ;omega
  have hlt:=Na hgt;have hle:n/256^i<=n:=Nat.div_le_self _ _;refine A7 ?_;refine(Dv ((BN n i:Nat):Int)) (congrArg some (jy _ 256 rfl rfl)) ?_;refine(Bl 1 [(0,_)]) (nT) (fun g0=>?_);refine kZ (s:=1) (len:=i) (n2:=1) 0 1 (fun r=>[⟨some r.g,3,NV .i64 (row (i+1) (BN n)),r.n,true⟩,⟨some g0,3,_,1,true⟩]) nM el3 rfl rfl rfl rfl rfl rfl rfl rfl rfl rfl rfl rfl (by rw[aW,ax];omega) (by omega) (by show oc*1<=oN;omega) rfl (Go.Via.one_cell _ _) (by omega) (fun r=>congrArg (fun c=>[(⟨some r.g,3,c,r.n,true⟩:aC),⟨some g0,3,_,1,true⟩]) (AZ _ _ _ _ (rfl))) (fun r=>?_);refine A5 ?_;refine(Dv ((n/256^(i+1):Nat):Int)) (by exact(congrArg some ((DX _ 256 rfl rfl (by omega)).trans (by rw[Ur])))) ?_;refine A4 ?_;exact Nl ⟨(i+1,some r.g,r.n,r.cap),hlt,r.h,by have:=r.hn;show r.cap<=r.n;omega⟩ (hμ:=(by show nb n-(i+1)<nb n-i;omega)) (hL:=eH.auto)
 ·have hge:=Nb (n:=n) (i:=i) (by have:=of_decide_eq_false haQ;have:=Nat.zero_le (n/256^i);omega) hi;subst hge;refine lw ?_;refine aF rfl (aj rfl) (fun w hL=>⟨⟨ob,oN,oc,h1⟩,rfl,?_⟩);rw[Jv] at hL;exact hL
def mJ(z:Int)(hz:jm z<=1073741824:=by omega):bW Tryz.prog 116 [] [I z] (SR (nb z.natAbs)) SR.v (fun x=>[⟨x.b,3,NV .i64 (D8 z.natAbs),x.n,true⟩]):=by
 refine⟨by kernel_rfl,fun w hL0=>?_⟩;have hz:nb z.natAbs<=1073741824:=hz;refine cB1 23 Tryz.func116 hL0 ?_;refine A2 ?_;refine Bp 2 (fun g0=>?_);refine D6 ?_;refine aQ 7 (aZ (nb z.natAbs)) rfl (by rw[lg]) ?_;refine Ar (((nb z.natAbs:Nat):Int)-1) ?_;refine A4 ?_;refine El (ι:={x:Nat×Option Nat×Nat×Nat // x.1<=nb z.natAbs∧x.1<=x.2.2.2∧x.2.2.2<=x.2.2.1}) (fun⟨⟨k,ob,oN,oc⟩,hk,h1,h2⟩=>([(1,dD g0),(3,az ob 0 k oc),(4,.int .i64 ((nb z.natAbs-k:Nat)-1))],[⟨some g0,34,[.bool (decide (z<0)),.string (bH z.natAbs)],2,true⟩,⟨ob,3,NV .i64 (row k (BN z.natAbs)),oN,true⟩],nb z.natAbs-k)) ⟨(0,none,0,0),Nat.zero_le _,Nat.le_refl _,Nat.le_refl _⟩ ?_ (hL:=(ak [some 0,none] ⟨pR,⟨rfl,rfl,rfl⟩,trivial⟩ rfl rfl));rintro⟨⟨k,ob,oN,oc⟩,hk,h1,h2⟩;(try dsimp only);replace hk:k<=nb z.natAbs:=hk;replace h1:k<=oc:=h1;replace h2:oc<=oN:=h2;refine A7 ?_;refine Cd ?_ ?_<;>intro haQ
 ·have hlt:k<nb z.natAbs:=by have:=of_decide_eq_true haQ;omega
  refine bZ 4 (aZ (nb z.natAbs-1-k)) rfl (congrArg (Value.int .i64) (by omega)) ?_;refine A9 ?_;refine y8 (b:=UInt8.ofNat (z.natAbs/256^k%256)) (r:=((z.natAbs/256^k%256:Nat):Int)) u9 rfl rfl rfl rfl (by omega) (VJ z.natAbs k hlt) (OC _) ?_;refine(Cv ((BN z.natAbs k:Nat):Int) u5 u3) (by exact(wi (by have:=zO z.natAbs k;omega) (by have:=zO z.natAbs k;omega) rfl)) ?_;refine(Bl 1 [(0,_)]) (nT) (fun g1=>?_);refine kZ (s:=1) (len:=k) (n2:=1) 1 2 (fun r=>[_,⟨some r.g,3,NV .i64 (row (k+1) (BN z.natAbs)),r.n,true⟩,⟨some g1,3,_,1,true⟩]) nM el3 rfl rfl rfl rfl rfl rfl rfl rfl rfl rfl rfl rfl (by rw[aW,ax];omega) (by omega) (by show oc*1<=oN;omega) rfl (Go.Via.one_cell _ _) (by omega) (fun r=>congrArg (fun c=>[_,(⟨some r.g,3,c,r.n,true⟩:aC),⟨some g1,3,_,1,true⟩]) (AZ _ _ _ _ (rfl))) (fun r=>?_);refine A6 ?_;refine Ar (((nb z.natAbs-(k+1):Nat):Int)-1) ?_;refine A3 ?_;exact Nl ⟨(k+1,some r.g,r.n,r.cap),hlt,r.h,by have:=r.hn;show r.cap<=r.n;omega⟩ (hμ:=(by show nb z.natAbs-(k+1)<nb z.natAbs-k;omega)) (hL:=eH.auto)
 ·have hge:k=nb z.natAbs:=by have:=of_decide_eq_false haQ;omega
  subst hge;refine A8 ?_;refine gU [_] [1] rfl rfl rfl (iZ (row (nb z.natAbs) (BN z.natAbs)) (kC fun j=>zO _ j) (by rw[ax];omega) (ax _ _) ⟨ob,oN,oc,h1⟩) ⟨pS,trivial⟩ rfl ?_;refine aQ 22 (az ob 0 (nb z.natAbs) oc) rfl (by rw[QU]) ?_;refine A4 ?_;refine aF rfl (aj rfl) (fun w hL=>⟨⟨ob,oN,oc,h1⟩,rfl,?_⟩);rw[Jv] at hL;exact hL.pk [some 1]
def jR(n:Nat)(neg:Bool)(hn:nb n<=1073741824)(x:SR (nb n)):bW Tryz.prog 117 [⟨x.b,3,NV .i64 (D8 n),x.n,false⟩] [x.v,.bool neg] Unit (fun _=>I (if neg=true then-(n:Int) else(n:Int))) (fun _=>[]):=by
 refine X5 39 Tryz.func117 fun w hL0=>?_;refine A2 ?_;refine Al 2 wG (fun g0=>?_);refine A5 ?_;refine(Sd [0]) (iZ (D8 n) (qf9 n) (by rw[dw];omega) (dw n) x) ?_;refine aQ 8 (az x.b 0 (nb n) x.cap) rfl (by rw[Gw]) ?_;refine A7 ?_;refine eY (c:=nb n) (NV .u8 (row (nb n) (wE n (nb n) 0))) (fun g=>[_,_,⟨some g,5,_,_,true⟩]) Ua el5 rfl rfl rfl rfl rfl rfl (by omega) (by rw[bJ (g:=fun _=>0) (fun j _=>MC n _ j),lh,dS]) (fun _=>rfl) (fun g1=>?_);refine kN ?_;refine El (ι:={i:Nat // i<=nb n}) (fun⟨i,hi⟩=>([(0,az x.b 0 (nb n) x.cap),(1,.bool neg),(4,dD g0),(5,az (some g1) 0 (nb n) (nb n)),(6,aZ i)],[⟨x.b,3,NV .i64 (D8 n),x.n,false⟩,⟨some g0,34,[aO,aP],2,true⟩,⟨some g1,5,NV .u8 (row (nb n) (wE n (nb n) i)),nb n,true⟩],nb n-i)) ⟨0,Nat.zero_le _⟩ ?_;rintro⟨i,hi⟩;(try dsimp only);refine A9 ?_;refine Cd ?_ ?_<;>intro haQ
 ·have hlt:i<nb n:=(by have:=of_decide_eq_true haQ;omega);refine A8 ?_;refine Ar (((nb n-1:Nat):Int)) ?_;refine A1 ?_;refine Ar (((nb n-1-i:Nat):Int)) ?_;refine A2 ?_;refine ai 0 (i) nM wF rfl rfl rfl rfl rfl (by omega) (by omega) (nK (by rw[dw];omega)) (by show 0+Int.toNat _*1=_;omega) ?_;refine(Lo 0 (i)) (by exact(bI (kV (by omega)))) ?_;refine(Cv ((n/256^i%256:Nat):Int) u3 u5) (by exact((c8 _ rfl).trans (by rw[Nat.mod_mod]))) ?_;refine Ix 2 (nb n-1-i) ?_;refine(S1 2 (nb n-1-i) [_,_,⟨some g1,5,_,_,true⟩] (NV .u8 (row (nb n) (wE n (nb n) (i+1))))) (by exact(by rw[aW,ax];omega)) (MF n (nb n) i _ hlt rfl) ?_;refine A5 ?_;refine dh ?_;exact Nl ⟨i+1,hlt⟩
 ·have hge:i=nb n:=(by have:=of_decide_eq_false haQ;omega);subst hge;refine A9 ?_;refine Rs 31 ?_ ?_<;>intro hbQ
  ·refine A5 ?_;refine y9 2 Ua u5 u9 rfl rfl rfl rfl rfl (by rw[List.take_of_length_le (by rw[aW,ax];exact Nat.le_refl _),QT]) (by rw[List.length_reverse];rfl) (Jd n) ?_;refine(Bu [(0,_),(1,_)]) (OE) ?_;refine Ss 1 ?_;refine A3 ?_;refine Ec2 1 fun w hL=>⟨(),?_,hL.pk []⟩;exact congrArg Ending.returned (qeo n hbQ)
  ·refine A5 ?_;refine y9 2 Ua u5 u9 rfl rfl rfl rfl rfl (by rw[List.take_of_length_le (by rw[aW,ax];exact Nat.le_refl _),QT]) (by rw[List.length_reverse];rfl) (Jd n) ?_;refine(Bu [(0,_),(1,_)]) (OE) ?_;refine Ss 1 ?_;refine A3 ?_;refine Ec2 1 fun w hL=>⟨(),?_,hL.pk []⟩;exact congrArg Ending.returned (qep n hbQ)
end Go.Proofs.YtaffcpfhedadhaaGreatDoor
