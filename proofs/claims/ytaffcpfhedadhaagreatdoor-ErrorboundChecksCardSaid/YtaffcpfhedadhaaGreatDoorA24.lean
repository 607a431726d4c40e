/-
  Part 24 (chapter 32): lemmas, walks. Each theorem states its own conditions.
-/
import Derived.Test.YtaffcpfhedadhaaGreatDoorA23
set_option linter.all false
set_option maxRecDepth 20000
set_option maxHeartbeats 20000000
section
variable{P Q:Prop}{T:Type}{R:T->Prop}
def qqJ(h:P:=by refine Ar (((i+k:Nat):Int)) ?_;refine A1 ?_;refine(Dv ((Fz a b i k%256:Nat):Int)) (congrArg some (lW _ 256 rfl rfl)) ?_;refine A1 ?_;refine(Dv ((Ej a b i (k+1):Nat):Int)) (by exact(congrArg some ((JV _ 256 rfl rfl (by have:=qhl a b i k;omega)).trans (by rw[N7])))) ?_;refine Ix 2 (i+k) ?_;refine(S1 2 (i+k) [_,_,⟨some g0,3,_,_,true⟩] (NV .i64 (row (nb a+nb b+1) (NZ a b i (k+1))))) pG (by exact(by rw[lK,jC (fun j _=>qee a b i k j)])) ?_;refine A6 ?_;refine Ce ?_;exact Nl ⟨k+1,Nat.succ_le_succ hkm⟩ (hμ:=(by show nb b+1-(k+1)<nb b+1-k;omega))):=h
def qqK(h:P:=by have hc1:=qbS m n i k;have hs1:=TF m n i k;have hv1:=bG (uk m n i/ag^(i+k));have hx1:=bG (m/ag^i);have hy1:=bG (n/ag^k);have hd1:=qbT (m/ag^i) (n/ag^k);have hc2:Ei m n i k<4294967296:=hc1;refine qX ?_;refine Di [] ?_;refine A4 ?_;refine Ar (((i+k:Nat):Int)) ?_;refine Ix 2 (i+k) ?_;refine(Lo 2 (i+k)) (by exact(gz ((fK ae).trans (by rw[qnM])))) ?_;refine(Cv ((uk m n i/ag^(i+k)%ag:Nat):Int) kX lM) tK ?_;refine A1 ?_;refine Oq ?_;refine A2 ?_;refine Ix 1 (k) ?_;refine(Lo 1 (k)) (gz (tH dJ hk)) ?_;refine(Cv ((n/ag^k%ag:Nat):Int) kX lM) tK ?_;refine(Aq ((m/ag^i%ag*(n/ag^k%ag):Nat):Int)) (by exact(congrArg some (c64 _ (Int.natCast_mul _ _).symm ae))) ?_;refine(Aq ((uk m n i/ag^(i+k)%ag+m/ag^i%ag*(n/ag^k%ag):Nat):Int)) (by exact(congrArg some (c64 _ (by rw[Int.natCast_add]) (qgO m n i k)))) ?_;refine(Aq ((I5 m n i k:Nat):Int)) (congrArg some (c64 _ (qd4 m n i k) (TF m n i k))) ?_;refine A7 ?_;refine Ar (((i+k:Nat):Int)) ?_;refine A1 ?_;refine(Cv ((I5 m n i k%4294967296:Nat):Int) lM kX) (X9 _ rfl) ?_;refine A1 ?_;refine(Sv ((Ei m n i (k+1):Nat):Int)) (by exact(congrArg some ((VL _ 32 rfl rfl ae).trans (by rw[YX])))) ?_;refine Ix 2 (i+k) ?_;refine(S1 2 (i+k) [_,_,⟨some g2,272,_,_,true⟩] (NV .u32 (row ((ah ag m).length+(ah ag n).length+1) (KJ m n i (k+1))))) pG (by exact(by rw[lK,jC (fun j _=>qdZ m n i k j)])) ?_;refine A5 ?_;refine Ce ?_;exact Nl ⟨k+1,hk⟩):=h
def qqL(h:P:=by have hcl:=DW a b i k;have hvx:=l9 (uU a b i/256^(i+k));have hdm:=Wu (a/256^i) (b/256^k);have hax:=l9 (a/256^i);have hbx:=l9 (b/256^k);refine Di [] ?_;refine A3 ?_;refine qcg ?_;refine A2 ?_;refine aJ 1 (k) BH LJ rfl rfl rfl rfl rfl ae ae (GK J6) J7 ?_;refine(Lo 1 (k)) FI ?_;refine(Aq ((a/256^i%256*(b/256^k%256):Nat):Int)) (by exact(congrArg some (wi (by rw[<-Int.natCast_mul];omega) (by rw[<-Int.natCast_mul];omega) (Int.natCast_mul _ _).symm))) ?_;refine(Aq ((Fz a b i k:Nat):Int)) (by exact(congrArg some (wi ae ae (by unfold Fz;omega)))) ?_;refine A7 ?_;exact qqJ):=h
def qqM(h:P:=by subst hk4;refine lh ?_;refine Ar (((i+(ah ag n).length:Nat):Int)) ?_;refine A1 ?_;refine(Cv ((Ei m n i (ah ag n).length%4294967296:Nat):Int) lM kX) (X9 _ rfl) ?_;refine Ix 2 (i+(ah ag n).length) ?_;refine(S1 2 (i+(ah ag n).length) [_,_,⟨some g2,272,_,_,true⟩] (NV .u32 (row ((ah ag m).length+(ah ag n).length+1) (I7 m n (i+1))))) pG (by exact(by rw[lK,jC (fun j _=>qd1 m n i j)])) ?_;exact Ou):=h
def qiD(h:P:=by
 have hcl:=DW a b i k;have hvx:=l9 (uU a b i/256^(i+k));have hdm:=Wu (a/256^i) (b/256^k);have hax:=l9 (a/256^i);have hbx:=l9 (b/256^k);refine eG 9 (bF (Fz a b i k)) rfl (congrArg (Value.int .i64) (by unfold Fz;rw[yU hkj];omega)) ?_;have hS:Fz a b i k<131072:=by rw[I8 a b i hkj];omega
 refine A6 ?_;exact qqJ):=h
def qiE(h:P:=by subst hge;refine A8 ?_;refine iD [_] [2] rfl rfl rfl (ni (row ((ah ag m).length+(ah ag n).length+1) (I7 m n (ah ag m).length)) (oG fun j=>qnN _ _ _ j) qV (dD _ _) ⟨some g2,_,_,Nat.le_refl _⟩) ⟨pS,trivial⟩ rfl ?_;refine rH ?_;rw[qgN]):=h
def qiF(q:Q)(h:aj Q->P:=by intro q_;refine oH ?_;refine El (ι:={i:Nat // i<=(ah ag m).length}) (fun⟨i,hi⟩=>([(11,aB (some g1) 0 (ah ag n).length (ah ag n).length),(12,aB (some g2) 0 ((ah ag m).length+(ah ag n).length+1) ((ah ag m).length+(ah ag n).length+1)),(46,aB (some g0) 0 (ah ag m).length (ah ag m).length),(47,bF ((ah ag m).length)),(48,bF i)],[⟨some g0,272,NV .u32 (ah ag m),(ah ag m).length,true⟩,⟨some g1,272,NV .u32 (ah ag n),(ah ag n).length,true⟩,⟨some g2,272,NV .u32 (row ((ah ag m).length+(ah ag n).length+1) (I7 m n i)),((ah ag m).length+(ah ag n).length+1),true⟩],(ah ag m).length-i)) ⟨0,Nat.zero_le _⟩ ?_;exact q_.qq):=h ⟨q⟩
def qiG(q:∀x,R x)(h:aj (∀x,R x)->P:=by intro q_;refine lh ?_;refine Ar ((((ah ag m).length+(ah ag n).length:Nat):Int)) ?_;refine Ar (((((ah ag m).length+(ah ag n).length+1):Nat):Int)) ?_;refine gQ (c:=((ah ag m).length+(ah ag n).length+1)) (NV .u32 (row ((ah ag m).length+(ah ag n).length+1) (I7 m n 0))) (fun g=>[_,_,⟨some g,272,_,_,true⟩]) GL BG rfl rfl rfl rfl rfl rfl ae (by rw[cu (g:=fun _=>0) (fun j _=>qd2 m n j),oP,ik]) (fun _=>rfl) (fun g2=>?_);exact q_.qq g2):=h ⟨q⟩
def qiH(q:Q)(h:aj Q->P:=by intro q_;refine Ar (((i+k:Nat):Int)) ?_;refine Ix 2 (i+k) ?_;refine(Lo 2 (i+k)) (by exact(gz ((fK ae).trans (by rw[qoe])))) ?_;refine A1 ?_;refine Ar (((uU a b i/256^(i+k)%256+Ej a b i k:Nat):Int)) ?_;refine oH ?_;exact q_.qq):=h ⟨q⟩
def qiI(h:P:=by rw[cu (fun j _=>(qd0 m n i j).symm)]):=h
end
namespace Go.Proofs.YtaffcpfhedadhaaGreatDoor
variable[Go.Via.Mo]
open Go Go.RowKit Go.Via
def EK(m n:Nat)(hm:nb m<=67108864:=by omega)(hn:nb n<=67108864:=by omega):aG Tryz.prog 168 #[.string (bH m),.string (bH n)] (.string (bH (m*n))):=by
 have hdm:=jQ hm;have hdn:=jQ hn;refine nX 97 Tryz.func168 fun w=>?_;refine lh ?_;refine Ot ?_;refine Cd ?_ ?_<;>intro haQ
 ·obtain⟨hw1,hw2,hw3,hw4⟩:=G5 haQ;refine ZJ ?_;refine Pc (GY m n hw1 hw2) ?_;refine EE ?_;refine Cd ?_ ?_<;>intro hbQ
  ·have hs:=qd3 (m:=m) (n:=n) (eq_of_beq hbQ);refine A3 ?_;refine OE ?_;refine zU ?_;rw[hs]
  ·refine OC fun g0=>?_;refine OD fun g1=>?_;refine qiG fun g2=>?_;refine qiF ?_;rintro⟨i,hi⟩;(try dsimp only);refine A6 ?_;refine Cd ?_ ?_<;>intro hcQ
   ·have hlt:i<(ah ag m).length:=tJ;refine Zv ?_;refine A18 ?_;refine El (ι:={k:Nat // k<=(ah ag n).length}) (fun⟨k,hk5⟩=>([(11,aB (some g1) 0 (ah ag n).length (ah ag n).length),(12,aB (some g2) 0 ((ah ag m).length+(ah ag n).length+1) ((ah ag m).length+(ah ag n).length+1)),(46,aB (some g0) 0 (ah ag m).length (ah ag m).length),(47,bF ((ah ag m).length)),(48,bF i),(13,bF i),(14,.int .u32 (m/ag^i%ag:Nat)),(15,.int .u64 (Ei m n i k:Nat)),(54,bF ((ah ag n).length)),(55,bF k)],[⟨some g0,272,NV .u32 (ah ag m),(ah ag m).length,true⟩,⟨some g1,272,NV .u32 (ah ag n),(ah ag n).length,true⟩,⟨some g2,272,NV .u32 (row ((ah ag m).length+(ah ag n).length+1) (KJ m n i k)),((ah ag m).length+(ah ag n).length+1),true⟩],(ah ag n).length-k)) ⟨0,Nat.zero_le _⟩ ?_ (ht:=⟨rfl,rfl,rfl,rfl,rfl,rfl,rfl,(aO rfl (by rw[QV];rfl)),rfl,rfl,trivial⟩) (hL:=(oW qiI));rintro⟨k,hk5⟩;(try dsimp only);refine A6 ?_;refine Cd ?_ ?_<;>intro hdQ
    ·have hk:k<(ah ag n).length:=xM;exact qqK
    ·have hk4:k=(ah ag n).length:=yX;exact qqM
   ·have hge:i=(ah ag m).length:=uC;exact qiE
 ·refine OC fun g0=>?_;refine OD fun g1=>?_;refine qiG fun g2=>?_;refine qiF ?_;rintro⟨i,hi⟩;(try dsimp only);refine A6 ?_;refine Cd ?_ ?_<;>intro hbQ
  ·have hlt:i<(ah ag m).length:=kN;refine Zv ?_;refine A18 ?_;refine El (ι:={k:Nat // k<=(ah ag n).length}) (fun⟨k,hk5⟩=>([(11,aB (some g1) 0 (ah ag n).length (ah ag n).length),(12,aB (some g2) 0 ((ah ag m).length+(ah ag n).length+1) ((ah ag m).length+(ah ag n).length+1)),(46,aB (some g0) 0 (ah ag m).length (ah ag m).length),(47,bF ((ah ag m).length)),(48,bF i),(13,bF i),(14,.int .u32 (m/ag^i%ag:Nat)),(15,.int .u64 (Ei m n i k:Nat)),(54,bF ((ah ag n).length)),(55,bF k)],[⟨some g0,272,NV .u32 (ah ag m),(ah ag m).length,true⟩,⟨some g1,272,NV .u32 (ah ag n),(ah ag n).length,true⟩,⟨some g2,272,NV .u32 (row ((ah ag m).length+(ah ag n).length+1) (KJ m n i k)),((ah ag m).length+(ah ag n).length+1),true⟩],(ah ag n).length-k)) ⟨0,Nat.zero_le _⟩ ?_ (ht:=⟨rfl,rfl,rfl,rfl,rfl,rfl,rfl,(aO rfl (by rw[QV];rfl)),rfl,rfl,trivial⟩) (hL:=(oW qiI));rintro⟨k,hk5⟩;(try dsimp only);refine A6 ?_;refine Cd ?_ ?_<;>intro hcQ
   ·have hk:k<(ah ag n).length:=tJ;exact qqK
   ·have hk4:k=(ah ag n).length:=uC;exact qqM
  ·have hge:i=(ah ag m).length:=lw;exact qiE
end Go.Proofs.YtaffcpfhedadhaaGreatDoor
namespace Go.Proofs.YtaffcpfhedadhaaGreatDoor
variable[Go.Via.Mo]
open Go Go.RowKit Go.Via
def jg(a b:Nat)(ha:nb a<=500000000)(hb:nb b<=500000000)(x:SR (nb a))(y:SR (nb b)):bQ Tryz.prog 71 [⟨x.b,3,NV .i64 (D8 a),x.n,false⟩,⟨y.b,3,NV .i64 (D8 b),y.n,false⟩] [x.v,y.v] (SR (nb (a*b))) SR.v (fun x=>[⟨x.b,3,NV .i64 (D8 (a*b)),x.n,true⟩]):=by
 refine sB2 67 Tryz.func71 fun w hL0=>?_;refine qX ?_;refine Ar (((nb a+nb b:Nat):Int)) ?_;refine Ar ((((nb a+nb b+1):Nat):Int)) ?_;refine gQ (c:=(nb a+nb b+1)) (NV .i64 (row (nb a+nb b+1) (FB a b 0))) (fun g=>[_,_,⟨some g,3,_,_,true⟩]) BH el3 rfl rfl rfl rfl rfl rfl ae (by rw[cu (g:=fun _=>0) (fun j _=>qeg a b j),oP,ik]) (fun _=>rfl) (fun g0=>?_);refine lh ?_;refine El (ι:={i:Nat // i<=nb a}) (fun⟨i,hi⟩=>([(0,x.v),(1,y.v),(5,aB (some g0) 0 (nb a+nb b+1) (nb a+nb b+1)),(6,bF i)],[⟨x.b,3,NV .i64 (D8 a),x.n,false⟩,⟨y.b,3,NV .i64 (D8 b),y.n,false⟩,⟨some g0,3,NV .i64 (row (nb a+nb b+1) (FB a b i)),(nb a+nb b+1),true⟩],nb a-i)) ⟨0,Nat.zero_le _⟩ ?_;rintro⟨i,hi⟩;(try dsimp only);refine A9 ?_;refine Cd ?_ ?_<;>intro haQ
 ·have hlt:i<nb a:=iE;refine II ?_;refine El (ι:={k:Nat // k<=nb b+1}) (fun⟨k,hk⟩=>([(0,x.v),(1,y.v),(5,aB (some g0) 0 (nb a+nb b+1) (nb a+nb b+1)),(6,bF i),(7,bF (Ej a b i k)),(8,bF k)],[⟨x.b,3,NV .i64 (D8 a),x.n,false⟩,⟨y.b,3,NV .i64 (D8 b),y.n,false⟩,⟨some g0,3,NV .i64 (row (nb a+nb b+1) (NZ a b i k)),(nb a+nb b+1),true⟩],nb b+1-k)) ⟨0,Nat.zero_le _⟩ ?_ (ht:=⟨rfl,rfl,rfl,rfl,(aO rfl (by rw[qed];rfl)),rfl,trivial⟩) (hL:=(oW (congrArg (fun c=>[⟨x.b,3,NV .i64 (D8 a),x.n,false⟩,⟨y.b,3,NV .i64 (D8 b),y.n,false⟩,(⟨some g0,3,NV .i64 c,(nb a+nb b+1),true⟩:aF)]) (cu fun j _=>(qef a b i j).symm))));rintro⟨k,hk⟩;(try dsimp only);refine A8 ?_;refine Rs 27 ?_ ?_<;>intro hbQ
  ·have hkb:k<nb b:=kN;have hkm:k<=nb b:=ae
   have hcl:=DW a b i k;have hvx:=l9 (uU a b i/256^(i+k));have hdm:=Wu (a/256^i) (b/256^k);have hax:=l9 (a/256^i);have hbx:=l9 (b/256^k);refine II ?_;refine qiH ?_;refine Cd ?_ ?_<;>intro hcQ
   ·have hkj:k<nb b:=tJ;exact qqL
   ·have hkj:nb b<=k:=uC;exact qiD
  ·have hkb:nb b<=k:=lw;refine A5 ?_;refine Cd ?_ ?_<;>intro hcQ
   ·have hkm:=qhj a b i k tJ;have hcl:=DW a b i k;have hvx:=l9 (uU a b i/256^(i+k));have hdm:=Wu (a/256^i) (b/256^k);have hax:=l9 (a/256^i);have hbx:=l9 (b/256^k);refine A9 ?_;refine qiH ?_;refine Cd ?_ ?_<;>intro hdQ
    ·have hkj:k<nb b:=xM;exact qqL
    ·have hkj:nb b<=k:=yX;exact qiD
   ·have hc0:Ej a b i k=0:=uC
    refine A8 ?_;refine kM ?_;exact Nl ⟨i+1,hlt⟩ (hL:=(oW (congrArg (fun c=>[⟨x.b,3,NV .i64 (D8 a),x.n,false⟩,⟨y.b,3,NV .i64 (D8 b),y.n,false⟩,(⟨some g0,3,NV .i64 c,(nb a+nb b+1),true⟩:aF)]) (cu fun j _=>qeh a b i k j hkb hc0))))
 ·have hge:i=nb a:=iV;subst hge;refine A8 ?_;refine iD [_] [2] rfl rfl rfl (kY (row (nb a+nb b+1) (FB a b (nb a))) (oG fun j=>qb6 _ _ _ j) qV (dD _ _) ⟨some g0,_,_,Nat.le_refl _⟩) ⟨pS,trivial⟩ rfl ?_;refine aP 66 (aB (some g0) 0 (nb (a*b)) (nb a+nb b+1)) rfl (by rw[Wv];rfl) ?_;refine A4 ?_;refine aH rfl (ax rfl) (fun w hL=>⟨⟨some g0,(nb a+nb b+1),(nb a+nb b+1),Nat.le_trans (o6 a b) ae⟩,rfl,?_⟩);exact hL.picks [some 2] ⟨⟨_,rfl,rfl,rfl,rfl,⟨nb (a*b),qhk a b⟩,fun _=>rfl⟩,trivial⟩ rfl rfl
end Go.Proofs.YtaffcpfhedadhaaGreatDoor
