/-
  Part 23 (chapter 32): lemmas, walks. Each theorem states its own conditions.
-/
import Derived.Test.YtaffcpfhedadhaaGreatDoorA20
set_option linter.all false
set_option maxRecDepth 20000
set_option maxHeartbeats 20000000
section
variable{P Q:Prop}{T:Type}{R:T->Prop}
def qqG(h:P:=by refine(Cv ((zH n m i%4294967296:Nat):Int) lM kX) (X9 _ rfl) ?_;refine A1 ?_;refine(Sv ((vP n m (i+1):Nat):Int)) Zx ?_;refine Ix 2 (i) ?_;refine(S1 2 (i) [_,_,⟨some g2,272,_,_,true⟩] (NV .u32 (row ((ah ag n).length+1) (xk n m (i+1))))) pG qiB ?_;exact Uf):=h
def qqH(h:P:=by refine(Cv ((zH m n i%4294967296:Nat):Int) lM kX) (X9 _ rfl) ?_;refine A1 ?_;refine(Sv ((vP m n (i+1):Nat):Int)) Zx ?_;refine Ix 2 (i) ?_;refine(S1 2 (i) [_,_,⟨some g2,272,_,_,true⟩] (NV .u32 (row ((ah ag m).length+1) (xk m n (i+1))))) pG qiB ?_;exact Uf):=h
def qqI(h:P:=by refine(Cv (((m-n)/ag^i%ag:Nat):Int) u2 kX) qii ?_;refine Ix 2 (i) ?_;refine(S1 2 (i) [_,_,⟨some g2,272,_,_,true⟩] (NV .u32 (row (ah ag m).length (Fj m n (i+1))))) pG (by exact(by rw[lK,jC (fun j _=>qdX _ _ i j)])) ?_;refine vW ?_;exact Nl ⟨i+1,hlt⟩ (ht:=⟨rfl,rfl,rfl,(aO rfl (by rw[hd2];rfl)),rfl,rfl,trivial⟩)):=h
def qiq(h:P:=by
 refine Cd ?_ ?_<;>intro hdQ
 ·obtain⟨hd1,hd2⟩:=qbQ (m:=m) (n:=n) (i:=i) h xM;refine A2 ?_;refine Ar ((((m-n)/ag^i%ag:Nat):Int)) ?_;refine A8 ?_;exact qqI
 ·obtain⟨hd1,hd2⟩:=qbR (m:=m) (n:=n) (i:=i) h yX;refine eG 13 (bF ((m-n)/ag^i%ag)) rfl (congrArg (Value.int .i64) ae) ?_;refine A6 ?_;exact qqI):=h
def qir(h:P:=by subst hge;refine A8 ?_;refine iD [_] [2] rfl rfl rfl (ni (row ((ah ag n).length+1) (xk n m ((ah ag n).length+1))) (oG fun j=>qbP _ _ _ j) qV (dD _ _) ⟨some g2,_,_,Nat.le_refl _⟩) ⟨pS,trivial⟩ rfl ?_;refine rH ?_;rw[V3 hle];rw[Nat.add_comm]):=h
def qis(h:P:=by subst hge;refine A8 ?_;refine iD [_] [2] rfl rfl rfl (ni (row ((ah ag m).length+1) (xk m n ((ah ag m).length+1))) (oG fun j=>qbP _ _ _ j) qV (dD _ _) ⟨some g2,_,_,Nat.le_refl _⟩) ⟨pS,trivial⟩ rfl ?_;refine rH ?_;rw[V3 hle]):=h
def qit(h:P:=by refine A4 ?_;refine Ix 1 (i) ?_;refine(Lo 1 (i)) (gz (tH dJ hly)) ?_;refine ZK ?_;refine Ar (((zH m n i:Nat):Int)) ?_;refine A7 ?_;exact qqH):=h
def qiu(h:P:=by refine A4 ?_;refine Ix 0 (i) ?_;refine(Lo 0 (i)) (gz (tH dJ hly)) ?_;refine Oq ?_;refine Ar (((zH n m i:Nat):Int)) ?_;refine A7 ?_;exact qqG):=h
def qiv(h:P:=by refine eG 13 (.int .u64 (zH n m i:Nat)) rfl (by rw[G6,vS hly];rfl) ?_;refine A6 ?_;exact qqG):=h
def qiw(h:P:=by refine eG 13 (.int .u64 (zH m n i:Nat)) rfl (by rw[G6,vS hly];rfl) ?_;refine A6 ?_;exact qqH):=h
def qix(q:∀x,R x)(h:aj (∀x,R x)->P:=by intro q_;refine qX ?_;refine Ar ((((ah ag n).length+1:Nat):Int)) ?_;refine gQ (c:=(ah ag n).length+1) (NV .u32 (List.replicate ((ah ag n).length+1) 0)) (fun g=>[_,_,⟨some g,272,_,_,true⟩]) GL BG rfl rfl rfl rfl rfl rfl ae ZL (fun _=>rfl) (fun g2=>?_);exact q_.qq g2):=h ⟨q⟩
def qiy(q:∀x,R x)(h:aj (∀x,R x)->P:=by intro q_;refine A6 ?_;refine Ar ((((ah ag m).length+1:Nat):Int)) ?_;refine gQ (c:=(ah ag m).length+1) (NV .u32 (List.replicate ((ah ag m).length+1) 0)) (fun g=>[_,_,⟨some g,272,_,_,true⟩]) GL BG rfl rfl rfl rfl rfl rfl ae ZL (fun _=>rfl) (fun g2=>?_);exact q_.qq g2):=h ⟨q⟩
def Un(q:Q)(h:aj Q->P:=by intro q_;refine II ?_;refine Ix 2 (i) ?_;refine(Lo 2 (i)) (by exact(gz ((fK ae).trans (by rw[qnI])))) ?_;exact q_.qq):=h ⟨q⟩
def qiz(q:Q)(h:aj Q->P:=by intro q_;refine A7 ?_;refine YA 2 1 [_,_,⟨some g2,272,_,_,true⟩] (NV .u32 (row ((ah ag n).length+1) (xk n m 0))) GL BG rfl rfl rfl rfl rfl rfl rfl rfl (jJ _ _) ae qiC (Tq _ _) (QS _ _) rfl ?_;refine Yc ?_;exact q_.qq):=h ⟨q⟩
def qiA(q:Q)(h:aj Q->P:=by intro q_;refine A7 ?_;refine YA 2 0 [_,_,⟨some g2,272,_,_,true⟩] (NV .u32 (row ((ah ag m).length+1) (xk m n 0))) GL BG rfl rfl rfl rfl rfl rfl rfl rfl (jJ _ _) ae qiC (Tq _ _) (QS _ _) rfl ?_;refine Yc ?_;exact q_.qq):=h ⟨q⟩
def ZJ(q:Q)(h:aj Q->P:=by intro q_;refine eG 5 (.int .u64 (m:Nat)) rfl (by rw[if_pos hw3]) ?_;refine eG 6 (.int .u64 (n:Nat)) rfl (by rw[if_pos hw4]) ?_;refine A4 ?_;exact q_.qq):=h ⟨q⟩
def ww(q:Q)(h:aj Q->P:=by intro q_;refine Pc (wB _ _) ?_;exact q_.qq):=h ⟨q⟩
def OC(q:∀x,R x)(h:aj (∀x,R x)->P:=by intro q_;refine A5 ?_;refine(Sc []) (kD m) (fun g0=>?_);exact q_.qq g0):=h ⟨q⟩
def OD(q:∀x,R x)(h:aj (∀x,R x)->P:=by intro q_;refine A1 ?_;refine(Sc []) (kD n) (fun g1=>?_);exact q_.qq g1):=h ⟨q⟩
def oJ(q:Q)(h:aj Q->P:=by intro q_;refine A9 ?_;refine E0 ?_;exact q_.qq):=h ⟨q⟩
def OE(q:Q)(h:aj Q->P:=by intro q_;refine fJ [_] rfl rfl rfl (iW _) ?_;exact q_.qq):=h ⟨q⟩
def Jj(q:Q)(h:aj Q->P:=by intro q_;refine Ss 0 ?_;refine A3 ?_;refine Ed2 0 ?_;exact q_.qq):=h ⟨q⟩
def ZK(q:Q)(h:aj Q->P:=by intro q_;refine(Cv ((n/ag^i%ag:Nat):Int) kX lM) tK ?_;exact q_.qq):=h ⟨q⟩
def Jk(q:Q)(h:aj Q->P:=by intro q_;refine qdt rfl u4 rfl rfl rfl ?_;exact q_.qq):=h ⟨q⟩
def FP(q:Q)(h:aj Q->P:=by intro q_;refine L2 0 0 ?_;refine L2 1 0 ?_;exact q_.qq):=h ⟨q⟩
def ZL(h:P:=by rw[ik]):=h
def qiB(h:P:=by exact(by rw[lK,jC (fun j _=>qdV _ _ i j)])):=h
def qiC(h:P:=by rw[jJ,List.length_replicate];omega):=h
end
namespace Go.Proofs.YtaffcpfhedadhaaGreatDoor
variable[Go.Via.Mo]
open Go Go.RowKit Go.Via
def wB(b:Bool)(n:Nat):aG Tryz.prog 167 #[.bool b,.string (bH n)] (I (if b=true then-(n:Int) else(n:Int))):=by
 refine nX 12 Tryz.func167 fun w=>?_;refine Oo fun g0=>?_;refine A6 ?_;refine Rs 6 ?_ ?_<;>intro haQ
 ·refine A4 ?_;refine(Bu [(0,_),(1,_)]) (YC) ?_;refine Jj ?_;subst haQ;exact congrArg Ending.returned (qrX n)
 ·refine A4 ?_;refine(Bu [(0,_),(1,_)]) (YC) ?_;refine Jj ?_;subst haQ;exact congrArg Ending.returned (Yo n)
def nG(z:Int):aG Tryz.prog 158 #[I z] (.int .i64 z.sign):=by
 refine vC 10 Tryz.func158 fun w=>?_;refine lQ fun g0=>?_;refine EE ?_;refine Cd ?_ ?_<;>intro haQ
 ·refine mZ ?_;exact congrArg (fun z=>Ending.returned (.int .i64 z)) (QC z haQ)
 ·refine A7 ?_;refine Cd ?_ ?_<;>intro hbQ
  ·refine mZ ?_;exact congrArg (fun z=>Ending.returned (.int .i64 z)) (sign_neg z hbQ)
  ·refine oJ ?_;exact congrArg (fun z=>Ending.returned (.int .i64 z)) (VH z haQ hbQ)
def lY(z:Int)(h1: -9223372036854775808<=z:=by omega)(h2:z<=9223372036854775807:=by omega):aG Tryz.prog 182 #[.int .i64 z] (I z):=by
 refine vC 15 Tryz.func182 fun w=>?_;refine Oo fun g0=>?_;refine A5 ?_;refine(Cv (z%18446744073709551616) u3 lM) (qm4 z) ?_;refine lh ?_;refine Cd ?_ ?_<;>intro haQ
 ·refine A2 ?_;refine qfT (r:=((z.natAbs:Nat):Int)) rfl rfl rfl ((by rw[qm4];have:=of_decide_eq_true haQ;omega)) ?_;refine A8 ?_;refine OE ?_;refine ww ?_;refine Jj ?_;exact congrArg (fun z=>Ending.returned (I z)) (qdR z haQ)
 ·refine A7 ?_;refine aP 12 (.int .u64 (z.natAbs:Nat)) rfl (congrArg (Value.int .u64) iV) ?_;refine OE ?_;refine ww ?_;refine Jj ?_;exact congrArg (fun z=>Ending.returned (I z)) (qdS z haQ)
def xR(a b:Int):aG Tryz.prog 155 #[I a,I b] (.int .i64 (Bz a b)):=by
 refine nX 26 Tryz.func155 fun w=>?_;refine lQ fun g0=>?_;refine Bp 2 (fun g1=>?_);refine lh ?_;refine Jk ?_;refine A2 ?_;refine Cd ?_ ?_<;>intro haQ
 ·refine A1 ?_;refine Dp [] [0,2,1,3,4,5] ?_;refine FP ?_;refine Pc (nG _) ?_;refine Pc (nG _) ?_;refine Pc (yt _ _) ?_;refine zU ?_;rw[qst haQ]
 ·refine A8 ?_;refine Pc (lX _ _) ?_;refine lh ?_;refine Cd ?_ ?_<;>intro hbQ
  ·refine A3 ?_;refine qfT rfl rfl rfl (qgJ _ _) ?_;refine zU ?_;rw[qnG haQ hbQ]
  ·refine oJ ?_;rw[qnH haQ hbQ]
def yw(m n:Nat)(hm:nb m<=67108864:=by omega)(hn:nb n<=67108864:=by omega):aG Tryz.prog 220 #[.string (bH m),.string (bH n)] (.string (bH (m+n))):=by
 have hdm:=jQ hm;have hdn:=jQ hn;refine nX 84 Tryz.func220 fun w=>?_;refine lh ?_;refine Ot ?_;refine Cd ?_ ?_<;>intro haQ
 ·obtain⟨hw1,hw2,hw3,hw4⟩:=G5 haQ;refine ZJ ?_;refine qnE m n rfl rfl rfl rfl rfl ?_;refine EE ?_;refine Cd ?_ ?_<;>intro hbQ
  ·have hs:m+n<18446744073709551616:=qhY
   refine A3 ?_;refine OE ?_;refine zU ?_;rw[Nat.mod_eq_of_lt hs]
  ·refine OC fun g0=>?_;refine OD fun g1=>?_;refine FH ?_;refine Cd ?_ ?_<;>intro hcQ
   ·have hle:(ah ag m).length<=(ah ag n).length:=tJ;refine qix fun g2=>?_;refine qiz ?_;refine El (ι:={i:Nat // i<=(ah ag n).length+1}) (fun⟨i,hi⟩=>([(10,aB (some g1) 0 (ah ag n).length (ah ag n).length),(11,aB (some g0) 0 (ah ag m).length (ah ag m).length),(12,aB (some g2) 0 ((ah ag n).length+1) ((ah ag n).length+1)),(13,.int .u64 (vP n m i:Nat)),(52,bF ((ah ag n).length+1)),(53,bF i)],[⟨some g0,272,NV .u32 (ah ag m),(ah ag m).length,true⟩,⟨some g1,272,NV .u32 (ah ag n),(ah ag n).length,true⟩,⟨some g2,272,NV .u32 (row ((ah ag n).length+1) (xk n m i)),(ah ag n).length+1,true⟩],(ah ag n).length+1-i)) ⟨0,Nat.zero_le _⟩ ?_ (ht:=⟨rfl,rfl,rfl,(aO rfl Jc),rfl,rfl,trivial⟩);rintro⟨i,hi⟩;(try dsimp only);refine A6 ?_;refine Cd ?_ ?_<;>intro hdQ
    ·have hlt:i<(ah ag n).length+1:=xM;have hc1:=zI n m i;have hx1:=bG (n/ag^i);have hy1:=bG (m/ag^i);have hs1:=G7 n m i;refine Un ?_;refine ZK ?_;refine Ar (((vP n m i+n/ag^i%ag:Nat):Int)) ?_;refine oH ?_;refine Cd ?_ ?_<;>intro heQ
     ·have hly:i<(ah ag m).length:=Rq;exact qiu
     ·have hly:(ah ag m).length<=i:=Rt;exact qiv
    ·have hge:i=(ah ag n).length+1:=yX;exact qir
   ·have hle:(ah ag n).length<=(ah ag m).length:=uC;refine qiy fun g2=>?_;refine qiA ?_;refine El (ι:={i:Nat // i<=(ah ag m).length+1}) (fun⟨i,hi⟩=>([(10,aB (some g0) 0 (ah ag m).length (ah ag m).length),(11,aB (some g1) 0 (ah ag n).length (ah ag n).length),(12,aB (some g2) 0 ((ah ag m).length+1) ((ah ag m).length+1)),(13,.int .u64 (vP m n i:Nat)),(52,bF ((ah ag m).length+1)),(53,bF i)],[⟨some g0,272,NV .u32 (ah ag m),(ah ag m).length,true⟩,⟨some g1,272,NV .u32 (ah ag n),(ah ag n).length,true⟩,⟨some g2,272,NV .u32 (row ((ah ag m).length+1) (xk m n i)),(ah ag m).length+1,true⟩],(ah ag m).length+1-i)) ⟨0,Nat.zero_le _⟩ ?_ (ht:=⟨rfl,rfl,rfl,(aO rfl Jc),rfl,rfl,trivial⟩);rintro⟨i,hi⟩;(try dsimp only);refine A6 ?_;refine Cd ?_ ?_<;>intro hdQ
    ·have hlt:i<(ah ag m).length+1:=xM;have hc1:=zI m n i;have hx1:=bG (m/ag^i);have hy1:=bG (n/ag^i);have hs1:=G7 m n i;refine Un ?_;refine Oq ?_;refine Ar (((vP m n i+m/ag^i%ag:Nat):Int)) ?_;refine oH ?_;refine Cd ?_ ?_<;>intro heQ
     ·have hly:i<(ah ag n).length:=Rq;exact qit
     ·have hly:(ah ag n).length<=i:=Rt;exact qiw
    ·have hge:i=(ah ag m).length+1:=yX;exact qis
 ·refine OC fun g0=>?_;refine OD fun g1=>?_;refine FH ?_;refine Cd ?_ ?_<;>intro hbQ
  ·have hle:(ah ag m).length<=(ah ag n).length:=kN;refine qix fun g2=>?_;refine qiz ?_;refine El (ι:={i:Nat // i<=(ah ag n).length+1}) (fun⟨i,hi⟩=>([(10,aB (some g1) 0 (ah ag n).length (ah ag n).length),(11,aB (some g0) 0 (ah ag m).length (ah ag m).length),(12,aB (some g2) 0 ((ah ag n).length+1) ((ah ag n).length+1)),(13,.int .u64 (vP n m i:Nat)),(52,bF ((ah ag n).length+1)),(53,bF i)],[⟨some g0,272,NV .u32 (ah ag m),(ah ag m).length,true⟩,⟨some g1,272,NV .u32 (ah ag n),(ah ag n).length,true⟩,⟨some g2,272,NV .u32 (row ((ah ag n).length+1) (xk n m i)),(ah ag n).length+1,true⟩],(ah ag n).length+1-i)) ⟨0,Nat.zero_le _⟩ ?_ (ht:=⟨rfl,rfl,rfl,(aO rfl Jc),rfl,rfl,trivial⟩);rintro⟨i,hi⟩;(try dsimp only);refine A6 ?_;refine Cd ?_ ?_<;>intro hcQ
   ·have hlt:i<(ah ag n).length+1:=tJ;have hc1:=zI n m i;have hx1:=bG (n/ag^i);have hy1:=bG (m/ag^i);have hs1:=G7 n m i;refine Un ?_;refine ZK ?_;refine Ar (((vP n m i+n/ag^i%ag:Nat):Int)) ?_;refine oH ?_;refine Cd ?_ ?_<;>intro hdQ
    ·have hly:i<(ah ag m).length:=xM;exact qiu
    ·have hly:(ah ag m).length<=i:=yX;exact qiv
   ·have hge:i=(ah ag n).length+1:=uC;exact qir
  ·have hle:(ah ag n).length<=(ah ag m).length:=lw;refine qiy fun g2=>?_;refine qiA ?_;refine El (ι:={i:Nat // i<=(ah ag m).length+1}) (fun⟨i,hi⟩=>([(10,aB (some g0) 0 (ah ag m).length (ah ag m).length),(11,aB (some g1) 0 (ah ag n).length (ah ag n).length),(12,aB (some g2) 0 ((ah ag m).length+1) ((ah ag m).length+1)),(13,.int .u64 (vP m n i:Nat)),(52,bF ((ah ag m).length+1)),(53,bF i)],[⟨some g0,272,NV .u32 (ah ag m),(ah ag m).length,true⟩,⟨some g1,272,NV .u32 (ah ag n),(ah ag n).length,true⟩,⟨some g2,272,NV .u32 (row ((ah ag m).length+1) (xk m n i)),(ah ag m).length+1,true⟩],(ah ag m).length+1-i)) ⟨0,Nat.zero_le _⟩ ?_ (ht:=⟨rfl,rfl,rfl,(aO rfl Jc),rfl,rfl,trivial⟩);rintro⟨i,hi⟩;(try dsimp only);refine A6 ?_;refine Cd ?_ ?_<;>intro hcQ
   ·have hlt:i<(ah ag m).length+1:=tJ;have hc1:=zI m n i;have hx1:=bG (m/ag^i);have hy1:=bG (n/ag^i);have hs1:=G7 m n i;refine Un ?_;refine Oq ?_;refine Ar (((vP m n i+m/ag^i%ag:Nat):Int)) ?_;refine oH ?_;refine Cd ?_ ?_<;>intro hdQ
    ·have hly:i<(ah ag n).length:=xM;exact qit
    ·have hly:(ah ag n).length<=i:=yX;exact qiw
   ·have hge:i=(ah ag m).length+1:=uC;exact qis
end Go.Proofs.YtaffcpfhedadhaaGreatDoor
namespace Go.Proofs.YtaffcpfhedadhaaGreatDoor
variable[Go.Via.Mo]
open Go Go.RowKit Go.Via
def yx(m n:Nat)(hm:nb m<=67108864:=by omega)(h:n<=m:=by omega):aG Tryz.prog 221 #[.string (bH m),.string (bH n)] (.string (bH (m-n))):=by
 have hdm:=jQ hm;have hn:nb n<=67108864:=Nat.le_trans (gu h) hm;have hdn:=jQ hn;have hdl:(ah ag n).length<=(ah ag m).length:=ry dJ h;refine nX 71 Tryz.func221 fun w=>?_;refine lh ?_;refine Ot ?_;refine Cd ?_ ?_<;>intro haQ
 ·obtain⟨hw1,hw2,hw3,hw4⟩:=G5 haQ;refine ZJ ?_;refine(Aq ((m-n:Nat):Int)) Zw ?_;refine OE ?_;refine zU ?_;exact rfl
 ·refine OC fun g0=>?_;refine OD fun g1=>?_;refine A8 ?_;refine gQ (c:=(ah ag m).length) (NV .u32 (List.replicate (ah ag m).length 0)) (fun g=>[_,_,⟨some g,272,_,_,true⟩]) GL BG rfl rfl rfl rfl rfl rfl ae ZL (fun _=>rfl) (fun g2=>?_);refine A7 ?_;refine YA 2 0 [_,_,⟨some g2,272,_,_,true⟩] (NV .u32 (row (ah ag m).length (Fj m n 0))) GL BG rfl rfl rfl rfl rfl rfl rfl rfl (jJ _ _) (Nat.le_refl _) (by rw[jJ,List.length_replicate];exact Nat.le_refl _) (Tq _ _) (qdY _ _) rfl ?_;refine Yc ?_;refine El (ι:={i:Nat // i<=(ah ag m).length}) (fun⟨i,hi⟩=>([(8,aB (some g0) 0 (ah ag m).length (ah ag m).length),(9,aB (some g1) 0 (ah ag n).length (ah ag n).length),(10,aB (some g2) 0 (ah ag m).length (ah ag m).length),(11,bF (lZ m n i)),(37,bF ((ah ag m).length)),(38,bF i)],[⟨some g0,272,NV .u32 (ah ag m),(ah ag m).length,true⟩,⟨some g1,272,NV .u32 (ah ag n),(ah ag n).length,true⟩,⟨some g2,272,NV .u32 (row (ah ag m).length (Fj m n i)),(ah ag m).length,true⟩],(ah ag m).length-i)) ⟨0,Nat.zero_le _⟩ ?_ (ht:=⟨rfl,rfl,rfl,(aO rfl qie),rfl,rfl,trivial⟩);rintro⟨i,hi⟩;(try dsimp only);refine A6 ?_;refine Cd ?_ ?_<;>intro hbQ
  ·have hlt:i<(ah ag m).length:=kN;have hb1:=DU m n i;have hx1:=bG (m/ag^i);have hy1:=bG (n/ag^i);have hz1:=bG ((m-n)/ag^i);refine FH ?_;refine Ix 2 (i) ?_;refine(Lo 2 (i)) (by exact(gz ((fK ae).trans (by rw[qnK])))) ?_;refine(Cv ((m/ag^i%ag:Nat):Int) kX u2) yl ?_;refine A1 ?_;refine Ar (((m/ag^i%ag:Nat)-(lZ m n i:Nat):Int)) ?_;refine oH ?_;refine Cd ?_ ?_<;>intro hcQ
   ·have hly:i<(ah ag n).length:=tJ;refine A4 ?_;refine Ix 1 (i) ?_;refine(Lo 1 (i)) (gz (tH dJ hly)) ?_;refine(Cv ((n/ag^i%ag:Nat):Int) kX u2) yl ?_;refine Ar (((m/ag^i%ag:Nat)-(lZ m n i:Nat)-(n/ag^i%ag:Nat):Int)) ?_;refine II ?_;exact qiq
   ·have hly:(ah ag n).length<=i:=uC;refine eG 13 (.int .i64 ((m/ag^i%ag:Nat)-(lZ m n i:Nat)-(n/ag^i%ag:Nat))) rfl (congrArg (Value.int .i64) (by rw[vS hly];omega)) ?_;refine FH ?_;exact qiq
  ·have hge:i=(ah ag m).length:=lw;subst hge;refine A8 ?_;refine iD [_] [2] rfl rfl rfl (ni (row (ah ag m).length (Fj m n (ah ag m).length)) (oG fun j=>qnL _ _ _ j) qV (dD _ _) ⟨some g2,_,_,Nat.le_refl _⟩) ⟨pS,trivial⟩ rfl ?_;refine rH ?_;rw[qgL h]
end Go.Proofs.YtaffcpfhedadhaaGreatDoor
