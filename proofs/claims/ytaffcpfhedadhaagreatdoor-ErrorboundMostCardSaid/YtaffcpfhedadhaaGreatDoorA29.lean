/-
  Part 29 (chapter 32): lemmas, walks. Each theorem states its own conditions.
-/
import Derived.Test.YtaffcpfhedadhaaGreatDoorA27
import Derived.Test.YtaffcpfhedadhaaGreatDoorA28
set_option linter.all false
set_option maxRecDepth 20000
set_option maxHeartbeats 20000000
section
variable{P Q:Prop}{T:Type}{R:T->Prop}
def jd(q:∀x,R x)(h:bu (∀x,R x)->P:=by intro q_;refine A2 ?_;refine Bp 4 (fun g0=>?_);exact q_.qq g0):=h ⟨q⟩
def qk8(h:P:=by refine(Bl 1 [(0,_)]) (pK) (fun g1=>?_);refine mW (s:=1) (len:=i) (n2:=1) 1 2 (fun r=>[_,⟨some r.g,3,NV .i64 (row (i+1) (D6 z.natAbs)),r.n,true⟩,⟨some g1,3,_,1,true⟩]) xP el3 rfl rfl rfl rfl rfl rfl rfl rfl rfl rfl rfl rfl Px ae LX rfl (Go.Via.one_cell _ _) ae (fun r=>congrArg (fun c=>[_,(⟨some r.g,3,c,r.n,true⟩:aJ),⟨some g1,3,_,1,true⟩]) (Fp _ _ _ _ (rfl))) (fun r=>?_);refine A5 ?_;refine(Dv (im z (i+1))) (congrArg some (qi7 z i h1 h2)) ?_;refine A4 ?_;exact Nl ⟨(i+1,some r.g,r.n,r.cap),hlt,r.h,LY⟩ (hμ:=(by show nb z.natAbs-(i+1)<nb z.natAbs-i;omega)) (hL:=dR.auto)):=h
def qfm(h:P:=by refine(Sd [5]) (oM (n/Nat.gcd n d) neg qfn zn.1) ?_;refine A1 ?_;refine(Sd [7]) (oM (d/Nat.gcd n d) false (by have:=DR d (Nat.gcd n d);omega) zd.1) ?_;refine(Bu [(0,_),(1,_)]) (DV) ?_;refine Ss 3 ?_;refine A3 ?_;refine Ec4 3 fun w hL=>⟨(),?_,hL.pk []⟩;exact congrArg Ending.returned (qer neg hd hd1)):=h
def jM(q:Q)(h:bu Q->P:=by intro q_;refine L4 0 0 ?_;refine L4 1 0 ?_;exact q_.qq):=h ⟨q⟩
def LZ(h:P:=by simpa using haQ):=h
def qfn(h:P:=by have:=DR n (Nat.gcd n d);omega):=h
end
namespace Go.Proofs.YtaffcpfhedadhaaGreatDoor
variable[Go.Via.Mo]
open Go Go.RowKit Go.Via
def L6(a b:Nat)(ha:nb a<=1073740000)(hb:nb b<=1073740000)(x:SR (nb a))(y:SR (nb b)):GR Tryz.prog 119 [⟨x.b,3,NV .i64 (D8 a),x.n,false⟩,⟨y.b,3,NV .i64 (D8 b),y.n,false⟩] [x.v,y.v] (SR (nb (Nat.gcd a b))) SR.v (fun z=>[⟨z.b,3,NV .i64 (D8 (Nat.gcd a b)),z.n,false⟩]):=by
 refine⟨ak,fun w hL0=>?_⟩;refine cB2 19 Tryz.func119 hL0 ?_;refine A7 ?_;refine El (ι:=(p:{p:Nat×Nat // Nat.gcd p.1 p.2=Nat.gcd a b∧nb p.1<=1073740000∧nb p.2<=1073740000})×FS [x.b,y.b] (nb p.1.1)×FS [x.b,y.b] (nb p.1.2)) (fun⟨⟨⟨m,n⟩,hg,hm,hn⟩,⟨za,oa,hoa⟩,⟨zb,ob,hob⟩⟩=>([(0,za.v),(1,zb.v)],[⟨x.b,3,NV .i64 (D8 a),x.n,false⟩,⟨y.b,3,NV .i64 (D8 b),y.n,false⟩,⟨za.b,3,NV .i64 (D8 (m)),za.n,oa⟩,⟨zb.b,3,NV .i64 (D8 (n)),zb.n,ob⟩],n)) ⟨⟨(a,b),rfl,ha,hb⟩,⟨x,false,.inr bI⟩,⟨y,false,.inr bI⟩⟩ ?_ (hL:=(aT [some 0,some 1,some 0,some 1]));rintro⟨⟨⟨m,n⟩,hg,hm,hn⟩,⟨za,oa,hoa⟩,⟨zb,ob,hob⟩⟩;(try dsimp only);replace hm:nb m<=1073740000:=hm;replace hn:nb n<=1073740000:=hn;replace hg:Nat.gcd m n=Nat.gcd a b:=hg;refine A8 ?_;refine Cd ?_ ?_<;>intro haQ
 ·have hn0:0<n:=Nat.pos_of_ne_zero (fun e=>by subst e;rw[kV] at haQ;cases haQ);refine A7 ?_;refine fQ [_,_] [2,3] rfl rfl rfl (pY m n hn0 hm hn za zb) ⟨pS,pS,trivial⟩ rfl (.inr Lj) (fun z=>?_);rcases z with z|hlt
  ·refine D7 ?_;exact Nl ⟨⟨(n,m%n),qby hg,hn,Nat.le_trans (gK (Nat.mod_le _ _)) hm⟩,⟨zb,ob,hob⟩,⟨z.2,true,.inl rfl⟩⟩ (hμ:=(Nat.mod_lt _ hn0)) (hL:=(aA [some 0,some 1,some 3,some 5] ⟨pR,pR,pR,pR,trivial⟩ rfl (by cases ob<;>rfl)))
  ·have hlt:=hlt.down;refine D7 ?_;exact Nl ⟨⟨(n,m),(Nat.gcd_comm n m).trans hg,hn,hm⟩,⟨zb,ob,hob⟩,⟨za,oa,hoa⟩⟩ (hμ:=hlt) (hL:=(aA [some 0,some 1,some 3,some 2] ⟨pR,pR,pR,pR,trivial⟩ rfl (by cases oa<;>cases ob<;>rfl)))
 ·have hn1:n=0:=Classical.byContradiction fun e=>by have:=DX e;have hz:¬((0:Int)<((nb n:Nat):Int)):=of_decide_eq_false haQ;omega
  subst hn1;rw[Nat.gcd_zero_right] at hg;replace hg:m=Nat.gcd a b:=hg;subst hg;refine nT ?_;refine aK rfl (au rfl) (fun w hL=>⟨za,?_,hL.picks [some 2] ⟨pS,trivial⟩ rfl rfl,fun c hc=>?_⟩)
  ·rfl
  ·rw[List.mem_singleton.1 hc];exact fun g hg=>(qmZ (x:=⟨x.b,3,NV .i64 (D8 a),x.n,false⟩) (y:=⟨y.b,3,NV .i64 (D8 b),y.n,false⟩) hL 2 rfl rfl rfl hoa rfl g hg).imp EE id
end Go.Proofs.YtaffcpfhedadhaaGreatDoor
namespace Go.Proofs.YtaffcpfhedadhaaGreatDoor
variable[Go.Via.Mo]
open Go Go.RowKit Go.Via
def uZ(q:Rat)(hq:cO q<=500000000:=by omega):bZ Tryz.prog 69 [] [Q q] (SR (nb q.num.natAbs)×SR (nb q.den)) (fun z=> .agg #[.bool (decide (q.num<0)),z.1.v,z.2.v]) (fun z=>[⟨z.1.b,3,NV .i64 (D8 q.num.natAbs),z.1.n,true⟩,⟨z.2.b,3,NV .i64 (D8 q.den),z.2.n,true⟩]):=by
 refine O3 19 Tryz.func69 fun w hL0=>?_;refine jd fun g0=>?_;refine Al 3 qaL (fun g1=>?_);refine A5 ?_;refine L2 0 2 ?_;refine aF 5 (I (dz q)) rfl (qpc q) ?_;refine(Sc []) (nJ (dz q) (by have:=qpd q;omega)) (fun xd=>?_);refine oJ ?_;refine Cd ?_ ?_<;>intro haQ
 ·have hd1:q.den=1:=qrv LZ;have hd2:nb q.den=1:=by rw[hd1,uF]
  refine A1 ?_;refine(Bl 1 [(0,_)]) (pK) (fun g2=>?_);refine A4 ?_;refine Dp [] [0,1,2,3,4,6,5,7,8] ?_;refine A4 ?_;refine L2 0 0 ?_;refine A1 ?_;refine(Sc []) (nJ q.num (by have:=lY hq;omega)) (fun xn=>?_);refine(Bu [(0,_),(1,_),(2,_)]) (wC) ?_;refine Ss 1 ?_;refine A3 ?_;refine aK rfl (bz 1 rfl rfl qkq (vs:=[_,_,_]) rfl rfl (Nat.le_of_ble_eq_true rfl) rfl) (fun w hL=>⟨(xn,⟨some g2,1,1,by rw[hd2];exact Nat.le_refl _⟩),?_,hL.picks [some 4,some 3] ⟨pR,⟨_,rfl,bn (congrArg (fun l=>(⟨some g2,3,NV .i64 l,1,true⟩:aJ)) (show D8 q.den=[1] by rw[hd1,WP]))⟩,trivial⟩ rfl rfl⟩);exact congrArg (fun n=>Ending.returned (.agg #[.bool (decide (q.num<0)),xn.v,ay (some g2) 0 n 1])) hd2.symm
 ·have hd1:(dz q).natAbs=q.den:=qrw LZ;refine A3 ?_;refine Dp [] [0,1,2,3,4,6,5,7,8] ?_;refine A4 ?_;refine L2 0 0 ?_;refine A1 ?_;refine(Sc []) (nJ q.num (by have:=lY hq;omega)) (fun xn=>?_);refine(Bu [(0,_),(1,_),(2,_)]) (wC) ?_;refine Ss 1 ?_;refine A3 ?_;refine aK rfl (bz 1 rfl rfl qkq (vs:=[_,_,_]) rfl rfl (Nat.le_of_ble_eq_true rfl) rfl) (fun w hL=>⟨(xn,⟨xd.b,xd.n,xd.cap,by rw[<-hd1];exact xd.h⟩),?_,hL.picks [some 3,some 2] ⟨pR,⟨_,rfl,bn (congrArg (fun n=>(⟨xd.b,3,NV .i64 (D8 n),xd.n,true⟩:aJ)) hd1.symm)⟩,trivial⟩ rfl rfl⟩);exact congrArg (fun n=>Ending.returned (.agg #[.bool (decide (q.num<0)),xn.v,ay xd.b 0 (nb n) xd.cap])) hd1
def iM(n d:Nat)(neg:Bool)(hd:0<d)(hn:nb n<=1073740000)(hdn:nb d<=1073740000)(x:SR (nb n))(y:SR (nb d)):bZ Tryz.prog 70 [⟨x.b,3,NV .i64 (D8 n),x.n,false⟩,⟨y.b,3,NV .i64 (D8 d),y.n,false⟩] [.agg #[.bool neg,x.v,y.v]] Unit (fun _=>Q (Rat.divInt (sg neg n) (d:Int))) (fun _=>[]):=by
 refine⟨ak,fun w hL0=>?_⟩;have hg0:0<Nat.gcd n d:=Nat.gcd_pos_of_pos_right n hd;have hgn:nb (Nat.gcd n d)<=1073740000:=Nat.le_trans (gK (Nat.gcd_le_right n hd)) hdn;refine cB1 43 Tryz.func70 hL0 ?_;refine A2 ?_;refine Bp 3 (fun g0=>?_);refine Al 4 qL (fun g1=>?_);refine A8 ?_;refine J9 [_,_] [0,1] rfl rfl rfl (L6 n d hn hdn x y) ⟨pS,pS,trivial⟩ rfl rfl (fun zg=>?_);refine A8 ?_;refine J9 [_,_] [0,4] rfl rfl rfl (Zi (fun g hg=>⟨_,List.mem_cons_self,hg⟩) rfl (pY n (Nat.gcd n d) hg0 hn hgn x zg)) ⟨pS,pS,trivial⟩ rfl rfl (fun zn=>?_);refine nT ?_;refine J9 [_,_] [1,4] rfl rfl rfl (Zi (fun g hg=>⟨_,List.mem_cons_self,hg⟩) rfl (pY d (Nat.gcd n d) hg0 hdn hgn y zg)) ⟨pS,pS,trivial⟩ rfl rfl (fun zd=>?_);refine Ew ?_;refine Rs 30 ?_ ?_<;>intro haQ
 ·have hl1:nb (d/Nat.gcd n d)=1:=qeX
  refine A1 ?_;refine aI 7 (0) xP C9 rfl rfl rfl rfl rfl ae ae (CZ yX) FW ?_;refine(Lo 7 (0)) AY ?_;refine A4 ?_;refine Cd ?_ ?_<;>intro hbQ
  ·have hd1:d/Nat.gcd n d=1:=by have:=eq_of_beq hbQ;rw[Zj hl1] at this;omega
   refine Yq _ (aA (L':=[_,_,_,_,_,_,_,_,_,⟨none,3,NV .i64 (D8 0),0,false⟩]) [some 0,some 1,some 2,some 3,some 4,some 5,some 6,some 7,some 8,none] ⟨pR,pR,pR,pR,pR,pR,pR,pR,pR,⟨rfl,QN,rfl⟩,trivial⟩ rfl rfl) ?_;refine A9 ?_;refine(Sd [5]) (oM (n/Nat.gcd n d) neg qfn zn.1) ?_;refine A1 ?_;refine aF 40 (ay none 0 (nb 0) 0) rfl (by rw[kV];rfl) ?_;refine gq [_,_] [9] rfl rfl rfl (oM 0 false (by rw[kV];omega) ⟨none,0,0,by rw[kV];exact Nat.le_refl _⟩) ⟨pR,trivial⟩ rfl ?_;refine(Bu [(0,_),(1,_)]) (DV) ?_;refine Ss 3 ?_;refine A3 ?_;refine Ec4 3 fun w hL=>⟨(),?_,hL.pk []⟩;exact congrArg Ending.returned (Eq.trans (by rw[show(if false=true then-((0:Nat):Int) else((0:Nat):Int))=0 from rfl,show(0:Int).natAbs=0 from rfl,iW];rfl) (qeq neg hd hd1))
  ·have hd1:d/Nat.gcd n d≠1:=by have:=ne_of_beq_false hbQ;rw[Zj hl1] at this;omega
   refine A7 ?_;exact qfm
 ·have hd1:d/Nat.gcd n d≠1:=NY LZ;refine D7 ?_;exact qfm
end Go.Proofs.YtaffcpfhedadhaaGreatDoor
namespace Go.Proofs.YtaffcpfhedadhaaGreatDoor
variable[Go.Via.Mo]
open Go Go.RowKit Go.Via
def Q3(n d:Int)(hd:d≠0:=by omega)(hn:jD n<=8388608:=by omega)(hdn:jD d<=8388608:=by omega):aP Tryz.prog 64 #[I n,I d] (Q (Rat.divInt n d)):=by
 refine oz 16 Tryz.func64 fun w=>?_;refine nD fun g0=>?_;refine Bp 2 (fun g1=>?_);refine Al 4 qL (fun g2=>?_);refine A3 ?_;refine Dp [] [0,1,2,3,4,5,7,6,8,9,10,11] ?_;refine A4 ?_;refine pF rfl u4 rfl rfl rfl ?_;refine L2 0 0 ?_;refine L2 1 0 ?_;refine(Sc []) (nJ n (Nat.le_trans hn (Nat.le_of_ble_eq_true rfl))) (fun xn=>?_);refine(Sc []) (nJ d (Nat.le_trans hdn (Nat.le_of_ble_eq_true rfl))) (fun xd=>?_);refine(Bu [(0,_),(1,_),(2,_)]) (wC) ?_;refine(Sd [3,4]) (iM n.natAbs d.natAbs (decide (n<0) !=decide (d<0)) ae (Nat.le_trans hn (Nat.le_of_ble_eq_true rfl)) (Nat.le_trans hdn (Nat.le_of_ble_eq_true rfl)) xn xd) ?_;refine aF 15 (Q (Rat.divInt n d)) rfl (congrArg Q (qiS n d hd)) ?_;refine eG ?_;refine Ip 2 ?_;exact rfl
def IB(z:Int)(h1: -9223372036854775808<=z:=by omega)(h2:z<=9223372036854775807:=by omega):aP Tryz.prog 65 #[.int .i64 z] (I z):=by
 have hnb:nb z.natAbs<=8:=nV ae;refine xI 25 Tryz.func65 fun w=>?_;refine A2 ?_;refine Al 2 xO (fun g0=>?_);refine D7 ?_;refine El (ι:={x:Nat×Option Nat×Nat×Nat // x.1<=nb z.natAbs∧x.1<=x.2.2.2∧x.2.2.2<=x.2.2.1}) (fun⟨⟨i,ob,oN,oc⟩,hi,h3,h4⟩=>([(0,.int .i64 z),(2,dJ g0),(3,ay ob 0 i oc),(4,.int .i64 (im z i))],[⟨some g0,34,[aZ,bf],2,true⟩,⟨ob,3,NV .i64 (row i (D6 z.natAbs)),oN,true⟩],nb z.natAbs-i)) ⟨(0,none,0,0),Nat.zero_le _,Nat.le_refl _,Nat.le_refl _⟩ ?_ (ht:=⟨rfl,rfl,rfl,(aU rfl (congrArg (Value.int .i64) (qi3 z).symm)),trivial⟩) (hL:=(aA [some 0,none] ⟨pR,⟨rfl,rfl,rfl⟩,trivial⟩ rfl rfl));rintro⟨⟨i,ob,oN,oc⟩,hi,h3,h4⟩;(try dsimp only);replace hi:i<=nb z.natAbs:=hi;replace h3:i<=oc:=h3;replace h4:oc<=oN:=h4;have hdg:=Au z.natAbs i;refine A7 ?_;refine Cd ?_ ?_<;>intro haQ
 ·have hlt:=qpe haQ;refine A6 ?_;refine(Dv (imR z i)) (congrArg some (qi4 z i)) ?_;refine lD ?_;refine Cd ?_ ?_<;>intro hbQ
  ·have HB12:=hbQ;refine A2 ?_;refine(Aq ((D6 z.natAbs i:Nat):Int)) (congrArg some (qi5 (of_decide_eq_true HB12))) ?_;refine A7 ?_;exact qk8
  ·refine dC 5 (bG (D6 z.natAbs i)) rfl (congrArg (Value.int .i64) (qi6 (of_decide_eq_false hbQ))) ?_;refine A6 ?_;exact qk8
 ·have hge:=qm4 haQ hi;subst hge;refine lD ?_;refine gq [_,_] [1] rfl rfl rfl (oM z.natAbs (decide (z<0)) ae ⟨ob,oN,oc,h3⟩) ⟨⟨_,rfl,⟨rfl,rfl,rfl,⟨nb z.natAbs,by rw[KP,List.take_of_length_le (by rw[ik,jQ];exact Nat.le_refl _)]⟩,fun h=>zf⟩⟩,trivial⟩ rfl ?_;refine aF 24 (I z) rfl (congrArg I (by by_cases hz:z<0<;>simp[hz]<;>omega)) ?_;refine Ss 0 ?_;refine A3 ?_;refine SH 0 ?_;exact rfl
def iU(a b:Int)(ha1: -9223372036854775808<=a:=by omega)(ha2:a<=9223372036854775807:=by omega)(hb1: -9223372036854775808<=b:=by omega)(hb2:b<=9223372036854775807:=by omega)(hb0:b≠0:=by omega):aP Tryz.prog 24 #[.int .i64 a,.int .i64 b] (Q (Rat.divInt a b)):=by
 refine oz 10 Tryz.func24 fun w=>?_;refine A2 ?_;refine Al 4 qL (fun g0=>?_);refine A5 ?_;refine Pc (IB a ha1 ha2) ?_;refine A1 ?_;refine Pc (IB b hb1 hb2) ?_;refine Pc (Q3 a b hb0 (qkJ ha1 ha2) (qkJ hb1 hb2)) ?_;refine Ss 0 ?_;refine A3 ?_;refine Ip 0 ?_;exact rfl
def IC(q:Rat):aP Tryz.prog 67 #[Q q] (Q (-q)):=by
 refine xI 16 Tryz.func67 fun w=>?_;refine jd fun g0=>?_;refine Al 4 qL (fun g1=>?_);refine A9 ?_;refine Rs 7 ?_ ?_<;>intro haQ
 ·refine A7 ?_;refine Ss 0 ?_;refine A4 ?_;refine L4 0 0 ?_;refine Ss 1 ?_;refine A3 ?_;refine Ip 1 ?_;exact congrArg Ending.returned (qm7 haQ)
 ·refine A7 ?_;refine Ss 0 ?_;refine A4 ?_;refine L4 0 0 ?_;refine Ss 1 ?_;refine A3 ?_;refine Ip 1 ?_;exact congrArg Ending.returned (qm8 haQ)
end Go.Proofs.YtaffcpfhedadhaaGreatDoor
namespace Go.Proofs.YtaffcpfhedadhaaGreatDoor
variable[Go.Via.Mo]
open Go Go.RowKit Go.Via
def ig(p q:Rat)(hp:cO p<=4194303:=by omega)(hq:cO q<=4194303:=by omega):aP Tryz.prog 63 #[Q p,Q q] (Q (p+q)):=by
 have e1:=JV hp;have e2:=JW hp;have e3:=JV hq;have e4:=JW hq;have m1:=oZ p.num.natAbs q.num.natAbs;have m2:=oZ p.num.natAbs q.den;have m3:=oZ q.num.natAbs p.den;have m4:=oZ p.den q.den;have m5:=oZ p.den q.num.natAbs;have dp:0<p.den:=Nat.pos_of_ne_zero p.den_nz;have dq:0<q.den:=Nat.pos_of_ne_zero q.den_nz;have dpq:0<p.den*q.den:=Nat.mul_pos dp dq;have m6:=zT (p.num.natAbs*q.den) (q.num.natAbs*p.den);have m7:nb (p.num.natAbs*q.den-q.num.natAbs*p.den)<=nb (p.num.natAbs*q.den):=gK (Nat.sub_le _ _);have m8:nb (q.num.natAbs*p.den-p.num.natAbs*q.den)<=nb (q.num.natAbs*p.den):=gK (Nat.sub_le _ _);refine oz 64 Tryz.func63 fun w=>?_;refine jd fun g0=>?_;refine Bp 4 (fun g1=>?_);refine Al 4 qL (fun g2=>?_);refine A3 ?_;refine Dq [3000000] [0,2,1,3,4,5,6,7] ?_;refine jM ?_;refine fQ [_] [] rfl rfl rfl (uZ p (Nat.le_trans hp (Nat.le_of_ble_eq_true rfl))) trivial rfl (.inr qex) (fun x=>?_);refine fQ [_] [] rfl rfl rfl (uZ q (Nat.le_trans hq (Nat.le_of_ble_eq_true rfl))) trivial rfl (.inr qex) (fun y=>?_);refine Al 3 qaL (fun g3=>?_);refine Al 3 qaL (fun g4=>?_);refine Ss 7 ?_;refine Ss 8 ?_;refine A3 ?_;refine Dp [] [0,1,2,3,5,6,7,8,4,9,10,11] ?_;refine A8 ?_;refine(Sc [3,6]) (jv (p.num.natAbs) (q.den) ae ae x.1 y.2) (fun zP=>?_);refine(Sc [5,4]) (jv (q.num.natAbs) (p.den) ae ae y.1 x.2) (fun zQ=>?_);refine lD ?_;refine(Sc [4,6]) (jv (p.den) (q.den) ae ae x.2 y.2) (fun zD=>?_);refine oJ ?_;refine BN rfl u4 rfl rfl rfl ?_;refine A3 ?_;refine Cd ?_ ?_<;>intro haQ
 ·have hs:=haQ;refine A1 ?_;refine Dp [] [0,1,2,3,5,4,6,7,8] ?_;refine A5 ?_;refine(Sc [9,10]) (lm (p.num.natAbs*q.den) (q.num.natAbs*p.den) ae ae zP zQ) (fun zS=>?_);refine(Bu [(0,_),(1,_),(2,_)]) (wC) ?_;refine(Sd [12,11]) (iM (p.num.natAbs*q.den+q.num.natAbs*p.den) (p.den*q.den) (decide (p.num<0)) dpq ae ae zS zD) ?_;refine aF 42 (Q (p+q)) rfl (congrArg Q (qiT p q hs)) ?_;refine Ss 2 ?_;refine A5 ?_;refine Ip 2 ?_;exact rfl
 ·have hs:=haQ;refine A4 ?_;refine(Sd [9,10]) (eP (p.num.natAbs*q.den) (q.num.natAbs*p.den) ae zP zQ) ?_;refine A4 ?_;refine Cd ?_ ?_<;>intro hbQ
  ·have hle:q.num.natAbs*p.den<=p.num.natAbs*q.den:=kR.1 (of_decide_eq_true hbQ);refine A1 ?_;refine Dp [] [0,1,2,3,5,4,6,7,8] ?_;refine A5 ?_;refine(Sc [9,10]) (xe (p.num.natAbs*q.den) (q.num.natAbs*p.den) ae hle zP zQ) (fun zS=>?_);refine(Bu [(0,_),(1,_),(2,_)]) (wC) ?_;refine(Sd [12,11]) (iM (p.num.natAbs*q.den-q.num.natAbs*p.den) (p.den*q.den) (decide (p.num<0)) dpq ae ae zS zD) ?_;refine aF 55 (Q (p+q)) rfl (congrArg Q (qiU p q hs hle)) ?_;refine Ss 2 ?_;refine A5 ?_;refine Ip 2 ?_;exact rfl
  ·have hle:p.num.natAbs*q.den<=q.num.natAbs*p.den:=by have:=of_decide_eq_false hbQ;rw[kR] at this;omega
   refine A4 ?_;refine Dp [] [0,1,2,3,5,4,6,7,8] ?_;refine A5 ?_;refine(Sc [10,9]) (xe (q.num.natAbs*p.den) (p.num.natAbs*q.den) ae hle zQ zP) (fun zS=>?_);refine(Bu [(0,_),(1,_),(2,_)]) (wC) ?_;refine(Sd [12,11]) (iM (q.num.natAbs*p.den-p.num.natAbs*q.den) (p.den*q.den) (decide (q.num<0)) dpq ae ae zS zD) ?_;refine aF 63 (Q (p+q)) rfl (congrArg Q (qiV p q hs hle)) ?_;refine eG ?_;refine Ip 2 ?_;exact rfl
end Go.Proofs.YtaffcpfhedadhaaGreatDoor
namespace Go.Proofs.YtaffcpfhedadhaaGreatDoor
variable[Go.Via.Mo]
open Go Go.RowKit Go.Via
def kU(p q:Rat)(hp:cO p<=4194303:=by omega)(hq:cO q<=4194303:=by omega):aP Tryz.prog 55 #[Q p,Q q] (Q (p-q)):=by
 refine oz 9 Tryz.func55 fun w=>?_;refine jd fun g0=>?_;refine Bp 4 (fun g1=>?_);refine Al 4 qL (fun g2=>?_);refine A3 ?_;refine Di [] ?_;refine jM ?_;refine Pc (IC q) ?_;refine Pc (ig p (-q) hp (Nat.le_trans (JY q) hq)) ?_;refine eG ?_;refine Ip 2 ?_;exact congrArg (fun z=>Ending.returned (Q z)) (Rat.sub_eq_add_neg p q).symm
end Go.Proofs.YtaffcpfhedadhaaGreatDoor
namespace Go.Proofs.YtaffcpfhedadhaaGreatDoor
variable[Go.Via.Mo]
open Go Go.RowKit Go.Via
def dF(p q:Rat)(hp:cO p<=4194303:=by omega)(hq:cO q<=4194303:=by omega):aP Tryz.prog 27 #[Q p,Q q] (Q (p*q)):=by
 have e1:=JV hp;have e2:=JW hp;have e3:=JV hq;have e4:=JW hq;have m1:=oZ p.num.natAbs q.num.natAbs;have m2:=oZ p.num.natAbs q.den;have m3:=oZ q.num.natAbs p.den;have m4:=oZ p.den q.den;have m5:=oZ p.den q.num.natAbs;have dp:0<p.den:=Nat.pos_of_ne_zero p.den_nz;have dq:0<q.den:=Nat.pos_of_ne_zero q.den_nz;have dpq:0<p.den*q.den:=Nat.mul_pos dp dq;refine oz 28 Tryz.func27 fun w=>?_;refine jd fun g0=>?_;refine Bp 4 (fun g1=>?_);refine Al 4 qL (fun g2=>?_);refine A3 ?_;refine Dq [3000000] [0,2,1,3,4,5,6,7] ?_;refine jM ?_;refine fQ [_] [] rfl rfl rfl (uZ p (Nat.le_trans hp (Nat.le_of_ble_eq_true rfl))) trivial rfl (.inr qex) (fun x=>?_);refine fQ [_] [] rfl rfl rfl (uZ q (Nat.le_trans hq (Nat.le_of_ble_eq_true rfl))) trivial rfl (.inr qex) (fun y=>?_);refine Al 3 qaL (fun g3=>?_);refine Al 3 qaL (fun g4=>?_);refine Ss 7 ?_;refine Ss 8 ?_;refine A3 ?_;refine Dp [] [0,1,2,3,4,5,6,7,8,10,11,12,13,9,14,15,16,17] ?_;refine A4 ?_;refine pF rfl u4 rfl rfl rfl ?_;refine A8 ?_;refine(Sc [3,5]) (jv (p.num.natAbs) (q.num.natAbs) ae ae x.1 y.1) (fun zn=>?_);refine(Sc [4,6]) (jv (p.den) (q.den) ae ae x.2 y.2) (fun zd=>?_);refine(Bu [(0,_),(1,_),(2,_)]) (wC) ?_;refine(Sd [9,10]) (iM (p.num.natAbs*q.num.natAbs) (p.den*q.den) (decide (p.num<0) !=decide (q.num<0)) dpq ae ae zn zd) ?_;refine aF 27 (Q (p*q)) rfl (congrArg Q (qm0 p q)) ?_;refine eG ?_;refine Ip 2 ?_;exact rfl
end Go.Proofs.YtaffcpfhedadhaaGreatDoor
