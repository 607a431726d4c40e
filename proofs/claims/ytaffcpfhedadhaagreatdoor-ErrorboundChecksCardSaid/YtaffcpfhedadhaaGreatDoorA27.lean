/-
  Part 27 (chapter 32): lemmas, walks. Each theorem states its own conditions.
-/
import Derived.Lib.Repeat
import Derived.Test.YtaffcpfhedadhaaGreatDoorA22
import Derived.Test.YtaffcpfhedadhaaGreatDoorA24
import Derived.Test.YtaffcpfhedadhaaGreatDoorA25
set_option linter.all false
set_option maxRecDepth 20000
set_option maxHeartbeats 20000000
section
variable{P Q:Prop}{T:Type}{R:T->Prop}
def FT(h:P:=by refine jq ?_;refine Yd 2 ?_;exact rfl):=h
def jH(q:Q)(h:aj Q->P:=by intro q_;refine L4 0 0 ?_;refine L4 1 0 ?_;exact q_.qq):=h ⟨q⟩
def jq(q:Q)(h:aj Q->P:=by intro q_;refine Ss 2 ?_;refine A3 ?_;exact q_.qq):=h ⟨q⟩
def lg(q:∀x,R x)(h:aj (∀x,R x)->P:=by intro q_;refine Al 4 z36 (fun g2=>?_);exact q_.qq g2):=h ⟨q⟩
def ZU(q:∀x,R x)(h:aj (∀x,R x)->P:=by intro q_;refine iJ [_] [] rfl rfl rfl (OG q (Nat.le_trans hq (Nat.le_of_ble_eq_true rfl))) trivial rfl (.inr qvn) (fun y=>?_);exact q_.qq y):=h ⟨q⟩
def qi4(q:∀x,R x)(h:aj (∀x,R x)->P:=by intro q_;refine Dq [3000000] [0,2,1,3,4,5,6,7] ?_;refine jH ?_;refine iJ [_] [] rfl rfl rfl (OG p (Nat.le_trans hp (Nat.le_of_ble_eq_true rfl))) trivial rfl (.inr qvn) (fun x=>?_);exact q_.qq x):=h ⟨q⟩
end
namespace Go.Proofs.YtaffcpfhedadhaaGreatDoor
open Go Go.RowKit Go.Via
def CO(n:Nat)(hn:nb n<=33554432:=by omega):aG Tryz.prog 200 #[.string (bH n)] (.string (bH (bU n))):=by
 have hb8:=Xg n;have hk8:=Xh n;refine vC 50 Tryz.func200 fun w=>?_;refine oH ?_;refine Cd ?_ ?_<;>intro haQ
 ·have h0:n=0:=qey haQ;refine ng ?_;subst h0;rw[show bU 0=0 from rfl,iy]
 ·have h0:n≠0:=ZI haQ;have hp:=Fh h0;refine A6 ?_;refine aP 12 (bF (nb n)) rfl Hq ?_;refine Ar (((nb n-1:Nat):Int)) ?_;refine Ar (((8*(nb n-1):Nat):Int)) ?_;refine A1 ?_;refine zu (b:=UInt8.ofNat (AX n)) (r:=((AX n:Nat):Int)) u9 rfl rfl rfl rfl ae (YJ n 0 hp) (TC _) ?_;refine Pc (Xl (AX n) (Um n)) ?_;refine Ar (((8*(nb n-1)+Lib.bitLen (AX n):Nat):Int)) ?_;refine A6 ?_;refine Ar (((8*(nb n-1)+Lib.bitLen (AX n)+1:Nat):Int)) ?_;refine(Dv ((kR n:Nat):Int)) (by exact(congrArg some (JV _ 2 rfl rfl ae))) ?_;refine A4 ?_;refine NI (X:=Nat) (l':=[⟨_,_,_,_,_,_⟩,⟨_,_,_,_,_,_⟩,⟨_,_,_,_,_,_⟩,⟨_,_,_,_,_,_⟩,⟨_,_,_,_,_,_⟩]) (fun g=>[(0,.string (bH n)),(4,.string (lm (Xf (kR n))))]) (fun g=>[⟨some g,5,[.int .u8 (2^(kR n%8):Nat)],1,true⟩]) [0,1,2,5,6] 5 mixed ak rfl ?_ ?_
  ·refine A1 ?_;refine(Dv ((kR n%8:Nat):Int)) (congrArg some (lW _ _ rfl rfl)) ?_;refine(Sv ((2^(kR n%8):Nat):Int)) (by exact(congrArg some (qoN _ rfl (Nat.mod_lt _ ae)))) ?_;refine A1 ?_;refine(Dv ((kR n/8:Nat):Int)) (by exact(congrArg some (JV _ 8 rfl rfl ae))) ?_;refine A1 ?_
   repeat' first
    |exact⟨g0,rfl,⟨rfl,rfl,trivial⟩,List.Perm.refl _⟩
    |refine Tc ?_
    |refine GI (l:=[2^(kR n%8)]) 0 qdC u5 u9 rfl rfl rfl rfl rfl rfl rfl rfl ?_
    |refine fJ [_,_] rfl rfl rfl (Ji (kR n/8)) ?_
    |refine Zq (p:=[UInt8.ofNat (2^(kR n%8))]) (q:=List.replicate (kR n/8) 0) rfl rfl rfl rfl rfl rfl rfl (by rw[List.length_replicate];show 1+kR n/8<=_;omega) ?_
    |refine Nh rfl rfl rfl ?_
    |refine(Bl 1 [(0,_)]) (qnt) (fun g0=>?_)
    |refine NG eP ?_
    |refine iZ [8] eP rfl ⟨⟨_,rfl,?_⟩,trivial⟩
    |refine iZ [9] eP rfl ⟨⟨_,rfl,?_⟩,trivial⟩
    |refine iZ [4] eP rfl ⟨⟨_,rfl,?_⟩,trivial⟩
    |refine iZ [3,7] eP rfl ⟨⟨_,rfl,?_⟩,⟨_,rfl,?_⟩,trivial⟩
    |refine iZ [4,7] eP rfl ⟨⟨_,rfl,?_⟩,⟨_,rfl,?_⟩,trivial⟩
    |refine iZ [7] eP rfl ⟨⟨_,rfl,?_⟩,trivial⟩
    |refine iZ [3] eP rfl ⟨⟨_,rfl,?_⟩,trivial⟩
  rintro g;show At _ ⟨50,[(0,.string (bH n)),(4,.string (lm (Xf (kR n))))],[⟨some g,5,[.int .u8 (2^(kR n%8):Nat)],1,true⟩]⟩ _;refine A2 ?_;refine El (ι:={x:Nat // Xi n x}) (fun⟨x,hx⟩=>([(0,.string (bH n)),(4,.string (bH x))],[],x)) ⟨2^kR n,Xj h0⟩ ?_ (ht:=⟨rfl,(aO rfl (congrArg Value.string (qcm _))),trivial⟩) (hL:=(ay [] trivial rfl rfl));rintro⟨x,hx⟩;(try dsimp only);have hx3:=hx.2.2;refine A5 ?_;refine Pc (sH n x ae ae (by have:=hx.1;omega)) ?_;refine qX ?_;refine Pc (yw x (n/x) ae (by have:=EZ n x;omega)) ?_;refine fJ [_,.string (bH 2)] rfl rfl (by rw[qoM];rfl) (sH (x+n/x) 2 (by have:=EZ n x;have:=Bf x (n/x);omega) (by have:=oh (n:=2) (k:=1) au;omega) au) ?_;refine oH ?_;refine Pc (lX _ _) ?_;refine A3 ?_;refine Cd ?_ ?_<;>intro hbQ
  ·have hge:¬(x+n/x)/2<x:=kL.1 (of_decide_eq_true hbQ)|>Nat.not_lt.2;refine qX ?_;refine E0 ?_;rw[qex hx hge]
  ·have hlt:(x+n/x)/2<x:=Nat.lt_of_not_le fun e=>of_decide_eq_false hbQ (kL.2 e)
   refine A8 ?_;exact Nl ⟨(x+n/x)/2,ZH h0 hx hlt⟩ (hμ:=hlt)
end Go.Proofs.YtaffcpfhedadhaaGreatDoor
namespace Go.Proofs.YtaffcpfhedadhaaGreatDoor
variable[Go.Via.Mo]
open Go Go.RowKit Go.Via
def dC(p q:Rat)(hp:bY p<=4194303:=by omega)(hq:bY q<=4194303:=by omega):aG Tryz.prog 27 #[Q p,Q q] (Q (p*q)):=by
 have e1:=MW hp;have e2:=MX hp;have e3:=MW hq;have e4:=MX hq;have m1:=o6 p.num.natAbs q.num.natAbs;have m2:=o6 p.num.natAbs q.den;have m3:=o6 q.num.natAbs p.den;have m4:=o6 p.den q.den;have m5:=o6 p.den q.num.natAbs;have dp:0<p.den:=Nat.pos_of_ne_zero p.den_nz;have dq:0<q.den:=Nat.pos_of_ne_zero q.den_nz;have dpq:0<p.den*q.den:=Nat.mul_pos dp dq;refine nX 28 Tryz.func27 fun w=>?_;refine iH fun g0=>?_;refine Bp 4 (fun g1=>?_);refine lg fun g2=>?_;refine A3 ?_;refine qi4 fun x=>?_;refine ZU fun y=>?_;refine Al 3 qdA (fun g3=>?_);refine Al 3 qdA (fun g4=>?_);refine Ss 7 ?_;refine Ss 8 ?_;refine A3 ?_;refine Dp [] [0,1,2,3,4,5,6,7,8,10,11,12,13,9,14,15,16,17] ?_;refine A4 ?_;refine Jk ?_;refine A8 ?_;refine(Sc [3,5]) (jg (p.num.natAbs) (q.num.natAbs) ae ae x.1 y.1) (fun zn=>?_);refine(Sc [4,6]) (jg (p.den) (q.den) ae ae x.2 y.2) (fun zd=>?_);refine CB ?_;refine(Sd [9,10]) (iK (p.num.natAbs*q.num.natAbs) (p.den*q.den) (decide (p.num<0) !=decide (q.num<0)) dpq ae ae zn zd) ?_;refine aP 27 (Q (p*q)) rfl (congrArg Q (qsP p q)) ?_;exact FT
end Go.Proofs.YtaffcpfhedadhaaGreatDoor
