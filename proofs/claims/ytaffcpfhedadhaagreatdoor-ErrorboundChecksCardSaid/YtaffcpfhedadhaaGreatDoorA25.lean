/-
  Part 25 (chapter 32): lemmas, walks. Each theorem states its own conditions.
-/
import Derived.Test.YtaffcpfhedadhaaGreatDoorA20
set_option linter.all false
set_option maxRecDepth 20000
set_option maxHeartbeats 20000000
section
variable{P Q:Prop}{T:Type}{R:T->Prop}
def qqN(h:P:=by
 subst hp0;refine A8 ?_;refine iD [_] [2] rfl rfl rfl (kY (row (nb a) (Wy a b 0)) (oG fun j=>qhr a b 0 j) qV (dD _ _) ⟨some g0,nb a,nb a,Nat.le_refl _⟩) ⟨pS,trivial⟩ rfl ?_;refine aP 103 (aB (some g0) 0 (nb (a/b)) (nb a)) rfl (by rw[WF];rfl) ?_;refine A6 ?_;refine bT rfl (ax rfl) (ax rfl) (fun w hL=>⟨.inl (⟨some g0,nb a,nb a,gu (Nat.div_le_self _ _)⟩,⟨z.b,z.n,z.cap,by have h:=z.h;simp only[Nat.pow_zero,Nat.div_one] at h;exact h⟩),?_,?_⟩)
 ·exact congrArg (fun n=>Ending.returned (.tuple #[aB (some g0) 0 (nb (a/b)) (nb a),aB z.b 0 (nb n) z.cap])) (show a/256^0%b=a%b by rw[Nat.pow_zero,Nat.div_one])
 ·exact hL.picks [some 2,some 3] ⟨⟨_,rfl,rfl,rfl,rfl,⟨nb (a/b),qhs a b⟩,fun _=>rfl⟩,⟨_,rfl,aV (congrArg (fun n=>(⟨z.b,3,NV .i64 (D8 n),z.n,true⟩:aF)) (show a%b=a/256^0%b by rw[Nat.pow_zero,Nat.div_one]))⟩,trivial⟩ rfl rfl):=h
def qqO(q:∀x,R x)(h:aj (∀x,R x)->P:=by intro q_;refine Dp [2000000] [0,1,2,3,5,6,7,8,9,10,4,11,12,13] ?_;refine A6 ?_;refine ZM ?_;refine A1 ?_;refine Ar (((m+s:Nat):Int)) ?_;refine(Sc [3,4]) (yj rr (s*b) ae hs2 z2 z3) (fun z6=>?_);exact q_.qq z6):=h ⟨q⟩
def iH(q:∀x,R x)(h:aj (∀x,R x)->P:=by intro q_;refine A2 ?_;refine Bp 4 (fun g0=>?_);exact q_.qq g0):=h ⟨q⟩
def qqP(h:P:=by refine A5 ?_;refine Ar (((2*s:Nat):Int)) ?_;refine A2 ?_;refine(Sc [4,4]) (kZ (s*b) (s*b) ae ae z3 z3) (fun z5=>?_);refine A5 ?_;exact Nl ⟨⟨2*s,ae,hs3,by rw[Nat.two_mul,Nat.add_mul];exact hs4⟩,⟨z5.b,z5.n,z5.cap,by show nb (2*s*b)<=z5.cap;rw[e2];exact z5.h⟩⟩ (hμ:=(by show 128-2*s<128-s;omega)) (ht:=⟨rfl,rfl,rfl,rfl,rfl,rfl,(aO rfl (congrArg (fun n=>aB z5.b 0 (nb n) z5.cap) e2.symm)),trivial⟩) (hL:=(ay [some 0,some 1,some 2,some 3,some 6] ⟨pR,pR,pR,pR,⟨_,rfl,⟨rfl,rfl,rfl,⟨(NV .i64 (D8 (s*b+s*b))).length,by show NV .i64 (D8 (2*s*b))=_;rw[e2,List.take_length]⟩,fun h=>Ak⟩⟩,trivial⟩ rfl rfl))):=h
def qqQ(h:P:=by refine A5 ?_;refine qqO fun z6=>?_;refine A1 ?_;refine Ix 2 (q) ?_;refine(S1 2 (q) [_,_,⟨some g0,3,_,_,true⟩,_,_,_,_] (NV .i64 (row (nb a) (Zf a b q (m+s))))) pG qiT ?_;refine A3 ?_;exact Nl ⟨⟨(m+s,rr-s*b),Wx hq hs2⟩,z6⟩ (hμ:=qiU) (hL:=(xK [some 0,some 1,some 2,some 6]))):=h
def qqR(h:P:=by refine II ?_;refine qqO fun z6=>?_;refine A1 ?_;refine Ix 2 (q) ?_;refine(S1 2 (q) [_,_,⟨some g0,3,_,_,true⟩,_,_,_] (NV .i64 (row (nb a) (Zf a b q (m+s))))) pG qiT ?_;refine A3 ?_;exact Nl ⟨⟨(m+s,rr-s*b),Wx hq hs2⟩,z6⟩ (hμ:=qiU) (hL:=(xK [some 0,some 1,some 2,some 5]))):=h
def qiJ(h:P:=by obtain⟨hm,hr⟩:=dq8 hb hq hlt2;subst hm;subst hr;refine PX ?_;refine Ar (((q:Nat):Int)-1) ?_;refine A3 ?_;exact Nl ⟨⟨q,ae⟩,z2⟩ (hμ:=(Nat.lt_succ_self q)) (hL:=(ay [some 0,some 1,some 2,some 3] ⟨pR,pR,⟨_,rfl,aV (congrArg (fun c=>(⟨some g0,3,NV .i64 c,nb a,true⟩:aF)) (cu fun j _=>(qoi a b q j).symm))⟩,pR,trivial⟩ rfl rfl))):=h
def qiK(h:P:=by refine qiQ ?_;refine(Sd [7]) (sG (d/Nat.gcd n d) false (by have:=EZ d (Nat.gcd n d);omega) zd.1) ?_;refine(Bu [(0,_),(1,_)]) (Tt) ?_;refine oK ?_;refine Ec4 3 fun w hL=>⟨(),?_,hL.pk []⟩;exact congrArg Ending.returned (qhw neg hd hd1)):=h
def qiL(h:P:=by refine A9 ?_;refine bT rfl (ax rfl) (ax rfl) (fun w hL=>⟨.inr ⟨hlt⟩,?_,hL.pk []⟩);exact rfl):=h
def qiM(q:∀x,R x)(h:aj (∀x,R x)->P:=by intro q_;refine A6 ?_;refine gQ (c:=nb a) (NV .i64 (row (nb a) (Wy a b (nb a)))) (fun g=>[_,_,⟨some g,3,_,_,true⟩]) BH el3 rfl rfl rfl rfl rfl rfl ae (by rw[cu (g:=fun _=>0) (fun j hj=>qoj a b hj),oP,ik]) (fun _=>rfl) (fun g0=>?_);exact q_.qq g0):=h ⟨q⟩
def qiN(q:Q)(h:aj Q->P:=by intro q_;refine(Sd [4]) (kY (a/256^q%256::D8 (a/256^(q+1)%b)) (I9 a b q) (by rw[List.length_cons,lG];omega) (by rw[List.length_cons,lG]) r) ?_;refine aP 61 (aB r.b 0 (nb (JZ a b q)) r.cap) rfl (by rw[WA]) ?_;refine A4 ?_;exact q_.qq):=h ⟨q⟩
def oK(q:Q)(h:aj Q->P:=by intro q_;refine Ss 3 ?_;refine A3 ?_;exact q_.qq):=h ⟨q⟩
def CB(q:Q)(h:aj Q->P:=by intro q_;refine(Bu [(0,_),(1,_),(2,_)]) (qnf) ?_;exact q_.qq):=h ⟨q⟩
def rM(q:∀x,R x)(h:aj (∀x,R x)->P:=by intro q_;refine Al 4 z36 (fun g1=>?_);exact q_.qq g1):=h ⟨q⟩
def ZM(q:Q)(h:aj Q->P:=by intro q_;refine Ix 2 (q) ?_;refine(Lo 2 (q)) (by exact(gz ((fK ae).trans (by rw[qsN])))) ?_;exact q_.qq):=h ⟨q⟩
def qiO(q:∀x,R x)(h:aj (∀x,R x)->P:=by intro q_;refine Dp [] [0,1,2,3,4,6,5,7,8] ?_;refine A4 ?_;refine L2 0 0 ?_;refine A1 ?_;refine(Sc []) (kC q.num (by have:=nS hq;omega)) (fun xn=>?_);exact q_.qq xn):=h ⟨q⟩
def qiP(q:∀x,R x)(h:aj (∀x,R x)->P:=by intro q_;refine A1 ?_;refine qsM 4 3 (fun b n=>[_,_,_,_,⟨b,3,_,n,true⟩]) BH el3 rfl rfl rfl rfl rfl hbase rfl rfl ae (fun _ _=>rfl) (fun r=>?_);exact q_.qq r):=h ⟨q⟩
def qiQ(q:Q)(h:aj Q->P:=by intro q_;refine(Sd [5]) (sG (n/Nat.gcd n d) neg (by have:=EZ n (Nat.gcd n d);omega) zn.1) ?_;refine A1 ?_;exact q_.qq):=h ⟨q⟩
def qiR(h:P:=by rw[TT,lU];exact Nat.le_refl _):=h
def qiS(h:P:=by have h1:=kw b;have h2:s*b<=128*b:=Nat.mul_le_mul_right _ hs1;rw[Nat.pow_succ,Nat.pow_succ];omega):=h
def FQ(h:P:=by simpa using haQ):=h
def qiT(h:P:=by exact(by rw[lK,jC (fun j _=>qhq a b q m (m+s) j)])):=h
def qiU(h:P:=by have:=Nat.mul_pos hs0 hb;show rr-s*b<rr;omega):=h
end
namespace Go.Proofs.YtaffcpfhedadhaaGreatDoor
variable[Go.Via.Mo]
open Go Go.RowKit Go.Via
def qo(a b:Nat)(hb:0<b)(ha:nb a<=1073740000)(hbn:nb b<=1073740000)(x:SR (nb a))(y:SR (nb b)):bQ Tryz.prog 120 [⟨x.b,3,NV .i64 (D8 a),x.n,false⟩,⟨y.b,3,NV .i64 (D8 b),y.n,false⟩] [x.v,y.v] ((SR (nb (a/b))×SR (nb (a%b))) ⊕ PLift (a<b)) (qho x) TS:=by
 refine sB2 105 Tryz.func120 fun w hL0=>?_;refine A9 ?_;refine(Sd [0]) (EF a ae x) ?_;refine lh ?_;refine(Sd [1]) (EF b ae y) ?_;refine oH ?_;refine Rs 24 ?_ ?_<;>intro haQ
 ·have h1:nb a<=7:=of_decide_eq_true haQ;refine A3 ?_;refine Rs 27 ?_ ?_<;>intro hbQ
  ·have h2:nb b<=7:=of_decide_eq_true hbQ;refine A5 ?_;refine Cd ?_ ?_<;>intro hcQ
   ·have hA:a<72057594037927936:=Nat.lt_of_lt_of_le (kw a) (gJ h1);have hB:b<72057594037927936:=Nat.lt_of_lt_of_le (kw b) (gJ h2);have hq1:a/b<=a:=Nat.div_le_self _ _;have hr1:a%b<b:=Nat.mod_lt _ hb;refine eG 6 (bF a) rfl (by rw[if_pos h1]) ?_;refine eG 8 (bF b) rfl (by rw[if_pos h2]) ?_;refine A1 ?_;refine Dp [] [0,1,2,4,5,6,3,7,8,9] ?_;refine A2 ?_;refine(Dv ((a/b:Nat):Int)) (by exact(congrArg some (JV _ _ rfl rfl ae))) ?_;refine A2 ?_;refine(Dv ((a%b:Nat):Int)) (congrArg some (lW _ _ rfl rfl)) ?_;refine(Sc []) (EG (a/b)) (fun xq=>?_);refine(Sc []) (EG (a%b)) (fun xr=>?_);refine A6 ?_;refine bT rfl (ax rfl) (ax rfl) (fun w hL=>⟨.inl (xq,xr),?_,hL.pk [some 2,some 3]⟩);exact rfl
   ·exact absurd hcQ (by rw[if_pos h2];simp;omega)
  ·refine EE ?_;refine(Sd [0,1]) (dW a b ae x y) ?_;refine A3 ?_;refine Cd ?_ ?_<;>intro hcQ
   ·have hlt:a<b:=G9.1 (of_decide_eq_true hcQ);exact qiL
   ·have hge:b<=a:=by have:=of_decide_eq_false hcQ;rw[G9] at this;omega
    refine qiM fun g0=>?_;refine A8 ?_;refine Ar (((nb a:Nat):Int)-1) ?_;refine A4 ?_;refine El (ι:=(p:{p:Nat // p<=nb a})×SR (nb (a/256^p.1%b))) (fun⟨⟨p,hp⟩,z⟩=>([(0,x.v),(1,y.v),(4,aB (some g0) 0 (nb a) (nb a)),(5,z.v),(10,.int .i64 ((p:Nat)-1))],[⟨x.b,3,NV .i64 (D8 a),x.n,false⟩,⟨y.b,3,NV .i64 (D8 b),y.n,false⟩,⟨some g0,3,NV .i64 (row (nb a) (Wy a b p)),nb a,true⟩,⟨z.b,3,NV .i64 (D8 (a/256^p%b)),z.n,true⟩],p)) ⟨⟨nb a,Nat.le_refl _⟩,⟨none,0,0,qiR⟩⟩ ?_ (ht:=⟨rfl,rfl,rfl,(aO rfl (WC a b)),rfl,trivial⟩) (hL:=(ay [some 0,some 1,some 2,none] ⟨pR,pR,pR,⟨rfl,qb8 a b,rfl⟩,trivial⟩ rfl rfl));rintro⟨⟨p,hp⟩,z⟩;(try dsimp only);refine A7 ?_;refine Cd ?_ ?_<;>intro hdQ
    ·obtain⟨q,rfl⟩:∃q,p=q+1:=⟨p-1,xM⟩;refine eG 10 (bF q) rfl (congrArg (Value.int .i64) ae) ?_;have hR:=Nat.mod_lt (a/256^(q+1)) hb;have hnR:nb (a/256^(q+1)%b)<=nb b:=gu (Nat.le_of_lt hR);have hdq:=l9 (a/256^q);have hWn:=qhp a b q;refine qh 3 rfl (fun hbase=>?_);refine A8 ?_;refine qch ?_;refine Om fun g1=>?_;refine qiP fun r=>?_;refine qiN ?_;refine El (ι:=(x:{x:Nat×Nat // x.1*b+x.2=JZ a b q})×SR (nb x.1.2)) (fun⟨⟨⟨m,rr⟩,hq⟩,z2⟩=>([(0,x.v),(1,y.v),(4,aB (some g0) 0 (nb a) (nb a)),(5,z2.v),(10,bF q)],[⟨x.b,3,NV .i64 (D8 a),x.n,false⟩,⟨y.b,3,NV .i64 (D8 b),y.n,false⟩,⟨some g0,3,NV .i64 (row (nb a) (Zf a b q m)),nb a,true⟩,⟨z2.b,3,NV .i64 (D8 (rr)),z2.n,true⟩],rr)) ⟨⟨(0,JZ a b q),ae⟩,⟨r.b,r.n,r.cap,Nat.le_trans hWn r.h⟩⟩ ?_ (hL:=(ay [some 0,some 1,some 2,some 4] ⟨pR,pR,⟨_,rfl,aV (congrArg (fun c=>(⟨some g0,3,NV .i64 c,nb a,true⟩:aF)) (cu fun j _=>WE a b q j))⟩,⟨_,rfl,rfl,rfl,rfl,⟨nb (JZ a b q),WB a b q⟩,fun _=>rfl⟩,trivial⟩ rfl rfl));rintro⟨⟨⟨m,rr⟩,hq⟩,z2⟩;(try dsimp only);replace hq:m*b+rr=JZ a b q:=hq;have hrn:=qb9 hb hq;refine A5 ?_;refine(Sd [3,1]) (dW rr b ae z2 y) ?_;refine A2 ?_;refine Rs 66 ?_ ?_<;>intro heQ
     ·have hge2:b<=rr:=kL.1 (of_decide_eq_true heQ);have hm1:=qhn (s:=1) hb hq ae;refine A2 ?_;refine ZM ?_;refine A4 ?_;refine Cd ?_ ?_<;>intro hfQ
      ·refine oH ?_;refine El (ι:=(s:{s:Nat // 0<s∧s<=128∧s*b<=rr})×SR (nb (s.1*b))) (fun⟨⟨s,hs0,hs1,hs2⟩,z3⟩=>([(0,x.v),(1,y.v),(4,aB (some g0) 0 (nb a) (nb a)),(5,z2.v),(10,bF q),(11,bF s),(12,z3.v)],[⟨x.b,3,NV .i64 (D8 a),x.n,false⟩,⟨y.b,3,NV .i64 (D8 b),y.n,false⟩,⟨some g0,3,NV .i64 (row (nb a) (Zf a b q m)),nb a,true⟩,⟨z2.b,3,NV .i64 (D8 (rr)),z2.n,true⟩,⟨z3.b,3,NV .i64 (D8 (s*b)),z3.n,false⟩],128-s)) ⟨⟨1,ae,ae,ae⟩,⟨y.b,y.n,y.cap,by rw[Nat.one_mul];exact y.h⟩⟩ ?_ (ht:=⟨rfl,rfl,rfl,rfl,rfl,rfl,(aO rfl (congrArg (fun n=>aB y.b 0 (nb n) y.cap) (Nat.one_mul b).symm)),trivial⟩) (hL:=(ay [some 0,some 1,some 2,some 3,some 1] ⟨pR,pR,pR,pR,⟨_,rfl,aV (congrArg (fun n=>(⟨y.b,3,NV .i64 (D8 n),y.n,false⟩:aF)) (Nat.one_mul b))⟩,trivial⟩ rfl rfl));rintro⟨⟨s,hs0,hs1,hs2⟩,z3⟩;(try dsimp only);have e2:2*s*b=s*b+s*b:=by rw[Nat.two_mul,Nat.add_mul]
       replace hs2:s*b<=rr:=hs2;have hsn:nb (s*b)<=nb rr:=gu hs2;have hsn2:nb (s*b+s*b)<=nb b+2:=oh qiS;refine A4 ?_;refine Ar (((2*s:Nat):Int)) ?_;refine A2 ?_;refine Rs 77 ?_ ?_<;>intro hgQ
       ·have hs3:2*s<=128:=qid;refine A2 ?_;refine(Sc [4,4]) (kZ (s*b) (s*b) ae ae z3 z3) (fun z4=>?_);refine A1 ?_;refine(Sd [5,3]) (dW (s*b+s*b) rr ae z4 z2) ?_;refine A4 ?_;refine Cd ?_ ?_<;>intro hhQ
        ·have hs4:s*b+s*b<=rr:=xJ.1 (of_decide_eq_true hhQ);exact qqP
        ·exact qqQ
       ·exact qqR
      ·exact absurd (of_decide_eq_false hfQ) ae
     ·have hlt2:rr<b:=by have:=of_decide_eq_false heQ;rw[kL] at this;omega
      exact qiJ
    ·have hp0:p=0:=yX
     exact qqN
 ·refine Yc ?_;refine(Sd [0,1]) (dW a b ae x y) ?_;refine A3 ?_;refine Cd ?_ ?_<;>intro hbQ
  ·have hlt:a<b:=G9.1 (of_decide_eq_true hbQ);exact qiL
  ·have hge:b<=a:=by have:=of_decide_eq_false hbQ;rw[G9] at this;omega
   refine qiM fun g0=>?_;refine A8 ?_;refine Ar (((nb a:Nat):Int)-1) ?_;refine A4 ?_;refine El (ι:=(p:{p:Nat // p<=nb a})×SR (nb (a/256^p.1%b))) (fun⟨⟨p,hp⟩,z⟩=>([(0,x.v),(1,y.v),(4,aB (some g0) 0 (nb a) (nb a)),(5,z.v),(10,.int .i64 ((p:Nat)-1))],[⟨x.b,3,NV .i64 (D8 a),x.n,false⟩,⟨y.b,3,NV .i64 (D8 b),y.n,false⟩,⟨some g0,3,NV .i64 (row (nb a) (Wy a b p)),nb a,true⟩,⟨z.b,3,NV .i64 (D8 (a/256^p%b)),z.n,true⟩],p)) ⟨⟨nb a,Nat.le_refl _⟩,⟨none,0,0,qiR⟩⟩ ?_ (ht:=⟨rfl,rfl,rfl,(aO rfl (WC a b)),rfl,trivial⟩) (hL:=(ay [some 0,some 1,some 2,none] ⟨pR,pR,pR,⟨rfl,qb8 a b,rfl⟩,trivial⟩ rfl rfl));rintro⟨⟨p,hp⟩,z⟩;(try dsimp only);refine A7 ?_;refine Cd ?_ ?_<;>intro hcQ
   ·obtain⟨q,rfl⟩:∃q,p=q+1:=⟨p-1,tJ⟩;refine eG 10 (bF q) rfl (congrArg (Value.int .i64) ae) ?_;have hR:=Nat.mod_lt (a/256^(q+1)) hb;have hnR:nb (a/256^(q+1)%b)<=nb b:=gu (Nat.le_of_lt hR);have hdq:=l9 (a/256^q);have hWn:=qhp a b q;refine qh 3 rfl (fun hbase=>?_);refine A8 ?_;refine qch ?_;refine Om fun g1=>?_;refine qiP fun r=>?_;refine qiN ?_;refine El (ι:=(x:{x:Nat×Nat // x.1*b+x.2=JZ a b q})×SR (nb x.1.2)) (fun⟨⟨⟨m,rr⟩,hq⟩,z2⟩=>([(0,x.v),(1,y.v),(4,aB (some g0) 0 (nb a) (nb a)),(5,z2.v),(10,bF q)],[⟨x.b,3,NV .i64 (D8 a),x.n,false⟩,⟨y.b,3,NV .i64 (D8 b),y.n,false⟩,⟨some g0,3,NV .i64 (row (nb a) (Zf a b q m)),nb a,true⟩,⟨z2.b,3,NV .i64 (D8 (rr)),z2.n,true⟩],rr)) ⟨⟨(0,JZ a b q),ae⟩,⟨r.b,r.n,r.cap,Nat.le_trans hWn r.h⟩⟩ ?_ (hL:=(ay [some 0,some 1,some 2,some 4] ⟨pR,pR,⟨_,rfl,aV (congrArg (fun c=>(⟨some g0,3,NV .i64 c,nb a,true⟩:aF)) (cu fun j _=>WE a b q j))⟩,⟨_,rfl,rfl,rfl,rfl,⟨nb (JZ a b q),WB a b q⟩,fun _=>rfl⟩,trivial⟩ rfl rfl));rintro⟨⟨⟨m,rr⟩,hq⟩,z2⟩;(try dsimp only);replace hq:m*b+rr=JZ a b q:=hq;have hrn:=qb9 hb hq;refine A5 ?_;refine(Sd [3,1]) (dW rr b ae z2 y) ?_;refine A2 ?_;refine Rs 66 ?_ ?_<;>intro hdQ
    ·have hge2:b<=rr:=kL.1 (of_decide_eq_true hdQ);have hm1:=qhn (s:=1) hb hq ae;refine A2 ?_;refine ZM ?_;refine A4 ?_;refine Cd ?_ ?_<;>intro heQ
     ·refine oH ?_;refine El (ι:=(s:{s:Nat // 0<s∧s<=128∧s*b<=rr})×SR (nb (s.1*b))) (fun⟨⟨s,hs0,hs1,hs2⟩,z3⟩=>([(0,x.v),(1,y.v),(4,aB (some g0) 0 (nb a) (nb a)),(5,z2.v),(10,bF q),(11,bF s),(12,z3.v)],[⟨x.b,3,NV .i64 (D8 a),x.n,false⟩,⟨y.b,3,NV .i64 (D8 b),y.n,false⟩,⟨some g0,3,NV .i64 (row (nb a) (Zf a b q m)),nb a,true⟩,⟨z2.b,3,NV .i64 (D8 (rr)),z2.n,true⟩,⟨z3.b,3,NV .i64 (D8 (s*b)),z3.n,false⟩],128-s)) ⟨⟨1,ae,ae,ae⟩,⟨y.b,y.n,y.cap,by rw[Nat.one_mul];exact y.h⟩⟩ ?_ (ht:=⟨rfl,rfl,rfl,rfl,rfl,rfl,(aO rfl (congrArg (fun n=>aB y.b 0 (nb n) y.cap) (Nat.one_mul b).symm)),trivial⟩) (hL:=(ay [some 0,some 1,some 2,some 3,some 1] ⟨pR,pR,pR,pR,⟨_,rfl,aV (congrArg (fun n=>(⟨y.b,3,NV .i64 (D8 n),y.n,false⟩:aF)) (Nat.one_mul b))⟩,trivial⟩ rfl rfl));rintro⟨⟨s,hs0,hs1,hs2⟩,z3⟩;(try dsimp only);have e2:2*s*b=s*b+s*b:=by rw[Nat.two_mul,Nat.add_mul]
      replace hs2:s*b<=rr:=hs2;have hsn:nb (s*b)<=nb rr:=gu hs2;have hsn2:nb (s*b+s*b)<=nb b+2:=oh qiS;refine A4 ?_;refine Ar (((2*s:Nat):Int)) ?_;refine A2 ?_;refine Rs 77 ?_ ?_<;>intro hfQ
      ·have hs3:2*s<=128:=(by have:=of_decide_eq_true hfQ;omega);refine A2 ?_;refine(Sc [4,4]) (kZ (s*b) (s*b) ae ae z3 z3) (fun z4=>?_);refine A1 ?_;refine(Sd [5,3]) (dW (s*b+s*b) rr ae z4 z2) ?_;refine A4 ?_;refine Cd ?_ ?_<;>intro hgQ
       ·have hs4:s*b+s*b<=rr:=xJ.1 (of_decide_eq_true hgQ);exact qqP
       ·exact qqQ
      ·exact qqR
     ·exact absurd (of_decide_eq_false heQ) ae
    ·have hlt2:rr<b:=by have:=of_decide_eq_false hdQ;rw[kL] at this;omega
     exact qiJ
   ·have hp0:p=0:=uC
    exact qqN
end Go.Proofs.YtaffcpfhedadhaaGreatDoor
namespace Go.Proofs.YtaffcpfhedadhaaGreatDoor
variable[Go.Via.Mo]
open Go Go.RowKit Go.Via
def CE(a b:Nat)(ha:nb a<=1073740000)(hb:nb b<=1073740000)(x:SR (nb a))(y:SR (nb b)):Ff Tryz.prog 119 [⟨x.b,3,NV .i64 (D8 a),x.n,false⟩,⟨y.b,3,NV .i64 (D8 b),y.n,false⟩] [x.v,y.v] (SR (nb (Nat.gcd a b))) SR.v (fun z=>[⟨z.b,3,NV .i64 (D8 (Nat.gcd a b)),z.n,false⟩]):=by
 refine⟨ak,fun w hL0=>?_⟩;refine cB2 19 Tryz.func119 hL0 ?_;refine A7 ?_;refine El (ι:=(p:{p:Nat×Nat // Nat.gcd p.1 p.2=Nat.gcd a b∧nb p.1<=1073740000∧nb p.2<=1073740000})×FS [x.b,y.b] (nb p.1.1)×FS [x.b,y.b] (nb p.1.2)) (fun⟨⟨⟨m,n⟩,hg,hm,hn⟩,⟨za,oa,hoa⟩,⟨zb,ob,hob⟩⟩=>([(0,za.v),(1,zb.v)],[⟨x.b,3,NV .i64 (D8 a),x.n,false⟩,⟨y.b,3,NV .i64 (D8 b),y.n,false⟩,⟨za.b,3,NV .i64 (D8 (m)),za.n,oa⟩,⟨zb.b,3,NV .i64 (D8 (n)),zb.n,ob⟩],n)) ⟨⟨(a,b),rfl,ha,hb⟩,⟨x,false,.inr bz⟩,⟨y,false,.inr bz⟩⟩ ?_ (hL:=(xK [some 0,some 1,some 0,some 1]));rintro⟨⟨⟨m,n⟩,hg,hm,hn⟩,⟨za,oa,hoa⟩,⟨zb,ob,hob⟩⟩;(try dsimp only);replace hm:nb m<=1073740000:=hm;replace hn:nb n<=1073740000:=hn;replace hg:Nat.gcd m n=Nat.gcd a b:=hg;refine A8 ?_;refine Cd ?_ ?_<;>intro haQ
 ·have hn0:0<n:=Nat.pos_of_ne_zero (fun e=>by subst e;rw[lU] at haQ;cases haQ);refine A7 ?_;refine iJ [_,_] [2,3] rfl rfl rfl (qo m n hn0 hm hn za zb) ⟨pS,pS,trivial⟩ rfl (.inr N8) (fun z=>?_);rcases z with z|hlt
  ·refine II ?_;exact Nl ⟨⟨(n,m%n),qei hg,hn,Nat.le_trans (gu (Nat.mod_le _ _)) hm⟩,⟨zb,ob,hob⟩,⟨z.2,true,.inl rfl⟩⟩ (hμ:=(Nat.mod_lt _ hn0)) (hL:=(ay [some 0,some 1,some 3,some 5] ⟨pR,pR,pR,pR,trivial⟩ rfl (by cases ob<;>rfl)))
  ·have hlt:=hlt.down;refine II ?_;exact Nl ⟨⟨(n,m),(Nat.gcd_comm n m).trans hg,hn,hm⟩,⟨zb,ob,hob⟩,⟨za,oa,hoa⟩⟩ (hμ:=hlt) (hL:=(ay [some 0,some 1,some 3,some 2] ⟨pR,pR,pR,pR,trivial⟩ rfl (by cases oa<;>cases ob<;>rfl)))
 ·have hn1:n=0:=Classical.byContradiction fun e=>by have:=Fh e;have hz:¬((0:Int)<((nb n:Nat):Int)):=of_decide_eq_false haQ;omega
  subst hn1;rw[Nat.gcd_zero_right] at hg;replace hg:m=Nat.gcd a b:=hg;subst hg;refine oH ?_;refine aH rfl (ax rfl) (fun w hL=>⟨za,?_,hL.picks [some 2] ⟨pS,trivial⟩ rfl rfl,fun c hc=>?_⟩)
  ·rfl
  ·rw[List.mem_singleton.1 hc];exact fun g hg=>(qsO (x:=⟨x.b,3,NV .i64 (D8 a),x.n,false⟩) (y:=⟨y.b,3,NV .i64 (D8 b),y.n,false⟩) hL 2 rfl rfl rfl hoa rfl g hg).imp JQ id
end Go.Proofs.YtaffcpfhedadhaaGreatDoor
namespace Go.Proofs.YtaffcpfhedadhaaGreatDoor
variable[Go.Via.Mo]
open Go Go.RowKit Go.Via
def OG(q:Rat)(hq:bY q<=500000000:=by omega):bQ Tryz.prog 69 [] [Q q] (SR (nb q.num.natAbs)×SR (nb q.den)) (fun z=> .agg #[.bool (decide (q.num<0)),z.1.v,z.2.v]) (fun z=>[⟨z.1.b,3,NV .i64 (D8 q.num.natAbs),z.1.n,true⟩,⟨z.2.b,3,NV .i64 (D8 q.den),z.2.n,true⟩]):=by
 refine Qg 19 Tryz.func69 fun w hL0=>?_;refine iH fun g0=>?_;refine Al 3 qdA (fun g1=>?_);refine A5 ?_;refine L2 0 2 ?_;refine aP 5 (I (dz q)) rfl (qvk q) ?_;refine(Sc []) (kC (dz q) (by have:=qvl q;omega)) (fun xd=>?_);refine qX ?_;refine Cd ?_ ?_<;>intro haQ
 ·have hd1:q.den=1:=qxN FQ;have hd2:nb q.den=1:=by rw[hd1,vT]
  refine A1 ?_;refine(Bl 1 [(0,_)]) (zA) (fun g2=>?_);refine A4 ?_;refine qiO fun xn=>?_;refine CB ?_;refine mY ?_;refine aH rfl (bn 1 rfl rfl qp2 (vs:=[_,_,_]) rfl rfl (Nat.le_of_ble_eq_true rfl) rfl) (fun w hL=>⟨(xn,⟨some g2,1,1,by rw[hd2];exact Nat.le_refl _⟩),?_,hL.picks [some 4,some 3] ⟨pR,⟨_,rfl,aV (congrArg (fun l=>(⟨some g2,3,NV .i64 l,1,true⟩:aF)) (show D8 q.den=[1] by rw[hd1,Zg]))⟩,trivial⟩ rfl rfl⟩);exact congrArg (fun n=>Ending.returned (.agg #[.bool (decide (q.num<0)),xn.v,aB (some g2) 0 n 1])) hd2.symm
 ·have hd1:(dz q).natAbs=q.den:=qxO FQ;refine A3 ?_;refine qiO fun xn=>?_;refine CB ?_;refine mY ?_;refine aH rfl (bn 1 rfl rfl qp2 (vs:=[_,_,_]) rfl rfl (Nat.le_of_ble_eq_true rfl) rfl) (fun w hL=>⟨(xn,⟨xd.b,xd.n,xd.cap,by rw[<-hd1];exact xd.h⟩),?_,hL.picks [some 3,some 2] ⟨pR,⟨_,rfl,aV (congrArg (fun n=>(⟨xd.b,3,NV .i64 (D8 n),xd.n,true⟩:aF)) hd1.symm)⟩,trivial⟩ rfl rfl⟩);exact congrArg (fun n=>Ending.returned (.agg #[.bool (decide (q.num<0)),xn.v,aB xd.b 0 (nb n) xd.cap])) hd1
def iK(n d:Nat)(neg:Bool)(hd:0<d)(hn:nb n<=1073740000)(hdn:nb d<=1073740000)(x:SR (nb n))(y:SR (nb d)):bQ Tryz.prog 70 [⟨x.b,3,NV .i64 (D8 n),x.n,false⟩,⟨y.b,3,NV .i64 (D8 d),y.n,false⟩] [.agg #[.bool neg,x.v,y.v]] Unit (fun _=>Q (Rat.divInt (sg neg n) (d:Int))) (fun _=>[]):=by
 refine⟨ak,fun w hL0=>?_⟩;have hg0:0<Nat.gcd n d:=Nat.gcd_pos_of_pos_right n hd;have hgn:nb (Nat.gcd n d)<=1073740000:=Nat.le_trans (gu (Nat.gcd_le_right n hd)) hdn;refine cB1 43 Tryz.func70 hL0 ?_;refine A2 ?_;refine Bp 3 (fun g0=>?_);refine rM fun g1=>?_;refine A8 ?_;refine yQ [_,_] [0,1] rfl rfl rfl (CE n d hn hdn x y) ⟨pS,pS,trivial⟩ rfl rfl (fun zg=>?_);refine A8 ?_;refine yQ [_,_] [0,4] rfl rfl rfl (qca (fun g hg=>⟨_,List.mem_cons_self,hg⟩) rfl (qo n (Nat.gcd n d) hg0 hn hgn x zg)) ⟨pS,pS,trivial⟩ rfl rfl (fun zn=>?_);refine oH ?_;refine yQ [_,_] [1,4] rfl rfl rfl (qca (fun g hg=>⟨_,List.mem_cons_self,hg⟩) rfl (qo d (Nat.gcd n d) hg0 hdn hgn y zg)) ⟨pS,pS,trivial⟩ rfl rfl (fun zd=>?_);refine FH ?_;refine Rs 30 ?_ ?_<;>intro haQ
 ·have hl1:nb (d/Nat.gcd n d)=1:=qic
  refine A1 ?_;refine aJ 7 (0) BH LJ rfl rfl rfl rfl rfl ae ae (GK J6) J7 ?_;refine(Lo 7 (0)) FI ?_;refine A4 ?_;refine Cd ?_ ?_<;>intro hbQ
  ·have hd1:d/Nat.gcd n d=1:=by have:=eq_of_beq hbQ;rw[TW hl1] at this;omega
   refine qbv _ (ay (L':=[_,_,_,_,_,_,_,_,_,⟨none,3,NV .i64 (D8 0),0,false⟩]) [some 0,some 1,some 2,some 3,some 4,some 5,some 6,some 7,some 8,none] ⟨pR,pR,pR,pR,pR,pR,pR,pR,pR,⟨rfl,TU,rfl⟩,trivial⟩ rfl rfl) ?_;refine A9 ?_;refine qiQ ?_;refine aP 40 (aB none 0 (nb 0) 0) rfl (by rw[lU];rfl) ?_;refine iD [_,_] [9] rfl rfl rfl (sG 0 false (by rw[lU];omega) ⟨none,0,0,by rw[lU];exact Nat.le_refl _⟩) ⟨pR,trivial⟩ rfl ?_;refine(Bu [(0,_),(1,_)]) (Tt) ?_;refine oK ?_;refine Ec4 3 fun w hL=>⟨(),?_,hL.pk []⟩;exact congrArg Ending.returned (Eq.trans (by rw[show(if false=true then-((0:Nat):Int) else((0:Nat):Int))=0 from rfl,show(0:Int).natAbs=0 from rfl,iy];rfl) (qhv neg hd hd1))
  ·have hd1:d/Nat.gcd n d≠1:=by have:=ne_of_beq_false hbQ;rw[TW hl1] at this;omega
   refine A7 ?_;exact qiK
 ·have hd1:d/Nat.gcd n d≠1:=Ez FQ;refine II ?_;exact qiK
end Go.Proofs.YtaffcpfhedadhaaGreatDoor
