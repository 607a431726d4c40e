/-
  Part 30 (chapter 32): lemmas, walks. Each theorem states its own conditions.
-/
import Derived.Test.YtaffcpfhedadhaaGreatDoorA26
import Derived.Test.YtaffcpfhedadhaaGreatDoorA29
set_option linter.all false
set_option maxRecDepth 20000
set_option maxHeartbeats 20000000
section
variable{P Q:Prop}{T:Type}{R:T->Prop}
def qlz(h:P:=by
 subst hp0;refine A8 ?_;refine gJ [_] [2] rfl rfl rfl (jU (row (nb a) (TK a b 0)) (kY fun j=>qe2 a b 0 j) oz (dB _ _) ⟨some g0,nb a,nb a,Nat.le_refl _⟩) ⟨pS,trivial⟩ rfl ?_;refine aS 103 (aA (some g0) 0 (nb (a/b)) (nb a)) rfl (by rw[Vk];rfl) ?_;refine A6 ?_;refine bM rfl (au rfl) (au rfl) (fun w hL=>⟨.inl (⟨some g0,nb a,nb a,gG (Nat.div_le_self _ _)⟩,⟨z.b,z.n,z.cap,by have h:=z.h;simp only[Nat.pow_zero,Nat.div_one] at h;exact h⟩),?_,?_⟩)
 ·exact congrArg (fun n=>Ending.returned (.tuple #[aA (some g0) 0 (nb (a/b)) (nb a),aA z.b 0 (nb n) z.cap])) (show a/256^0%b=a%b by rw[Nat.pow_zero,Nat.div_one])
 ·exact hL.picks [some 2,some 3] ⟨⟨_,rfl,rfl,rfl,rfl,⟨nb (a/b),qe3 a b⟩,fun _=>rfl⟩,⟨_,rfl,bg (congrArg (fun n=>(⟨z.b,3,NV .i64 (D8 n),z.n,true⟩:aH)) (show a%b=a/256^0%b by rw[Nat.pow_zero,Nat.div_one]))⟩,trivial⟩ rfl rfl):=h
def qlA(q:∀x,R x)(h:bI (∀x,R x)->P:=by intro q_;refine Dp [2000000] [0,1,2,3,5,6,7,8,9,10,4,11,12,13] ?_;refine A6 ?_;refine Ix 2 (q) ?_;refine(Lo 2 (q)) Yb ?_;refine A1 ?_;refine Ar (((m+s:Nat):Int)) ?_;refine(Sc [3,4]) (xG rr (s*b) ae hs2 z2 z3) (fun z6=>?_);exact q_.qq z6):=h ⟨q⟩
def qlB(h:P:=by refine A5 ?_;refine Ar (((2*s:Nat):Int)) ?_;refine A2 ?_;refine(Sc [4,4]) (kZ (s*b) (s*b) ae ae z3 z3) (fun z5=>?_);refine A5 ?_;exact Nl ⟨⟨2*s,ae,hs3,by rw[Nat.two_mul,Nat.add_mul];exact hs4⟩,⟨z5.b,z5.n,z5.cap,by show nb (2*s*b)<=z5.cap;rw[e2];exact z5.h⟩⟩ (hμ:=(by show 128-2*s<128-s;omega)) (ht:=⟨rfl,rfl,rfl,rfl,rfl,rfl,(aQ rfl (congrArg (fun n=>aA z5.b 0 (nb n) z5.cap) e2.symm)),trivial⟩) (hL:=(az [some 0,some 1,some 2,some 3,some 6] ⟨pR,pR,pR,pR,⟨_,rfl,⟨rfl,rfl,rfl,⟨(NV .i64 (D8 (s*b+s*b))).length,by show NV .i64 (D8 (2*s*b))=_;rw[e2,List.take_length]⟩,fun h=>OZ⟩⟩,trivial⟩ rfl rfl))):=h
def qlC(h:P:=by refine A5 ?_;refine qlA fun z6=>?_;refine A1 ?_;refine Ix 2 (q) ?_;refine(S1 2 (q) [_,_,⟨some g0,3,_,_,true⟩,_,_,_,_] (NV .i64 (row (nb a) (XB a b q (m+s))))) o8 qfO ?_;refine A3 ?_;exact Nl ⟨⟨(m+s,rr-s*b),U9 hq hs2⟩,z6⟩ (hμ:=qfP) (hL:=(wM [some 0,some 1,some 2,some 6]))):=h
def qlD(h:P:=by refine Ed ?_;refine qlA fun z6=>?_;refine A1 ?_;refine Ix 2 (q) ?_;refine(S1 2 (q) [_,_,⟨some g0,3,_,_,true⟩,_,_,_] (NV .i64 (row (nb a) (XB a b q (m+s))))) o8 qfO ?_;refine A3 ?_;exact Nl ⟨⟨(m+s,rr-s*b),U9 hq hs2⟩,z6⟩ (hμ:=qfP) (hL:=(wM [some 0,some 1,some 2,some 5]))):=h
def qlE(h:P:=by obtain⟨hm,hr⟩:=dq8 hb hq hlt2;subst hm;subst hr;refine Ri ?_;refine Ar (((q:Nat):Int)-1) ?_;refine A3 ?_;exact Nl ⟨⟨q,ae⟩,z2⟩ (hμ:=(Nat.lt_succ_self q)) (hL:=(az [some 0,some 1,some 2,some 3] ⟨pR,pR,⟨_,rfl,bg (congrArg (fun c=>(⟨some g0,3,NV .i64 c,nb a,true⟩:aH)) (dh fun j _=>(qjp a b q j).symm))⟩,pR,trivial⟩ rfl rfl))):=h
def qfK(h:P:=by rw[dh (g:=fun _=>0) (fun j hj=>qjq a b hj),oC,iC]):=h
def qfL(h:P:=by rw[Ry,kT];exact Nat.le_refl _):=h
def qfM(h:P:=by rw[List.length_cons,jR];omega):=h
def Yb(h:P:=by exact(fZ ((gm fM).trans (by rw[qnt])))):=h
def qfN(h:P:=by have h1:=kH b;have h2:s*b<=128*b:=Nat.mul_le_mul_right _ hs1;rw[Nat.pow_succ,Nat.pow_succ];omega):=h
def qfO(h:P:=by exact(by rw[lH,jH (fun j _=>qe1 a b q m (m+s) j)])):=h
def qfP(h:P:=by have:=Nat.mul_pos hs0 hb;show rr-s*b<rr;omega):=h
end
namespace Go.Proofs.YtaffcpfhedadhaaGreatDoor
variable[Go.Via.Mo]
open Go Go.RowKit Go.Via
def qf(a b:Nat)(hb:0<b)(ha:nb a<=1073740000)(hbn:nb b<=1073740000)(x:SR (nb a))(y:SR (nb b)):cZ Tryz.prog 120 [⟨x.b,3,NV .i64 (D8 a),x.n,false⟩,⟨y.b,3,NV .i64 (D8 b),y.n,false⟩] [x.v,y.v] ((SR (nb (a/b))×SR (nb (a%b))) ⊕ PLift (a<b)) (qeY x) Rx:=by
 refine Z5 105 Tryz.func120 fun w hL0=>?_;refine A9 ?_;refine(Sd [0]) (DD a ae x) ?_;refine lW ?_;refine(Sd [1]) (DD b ae y) ?_;refine nI ?_;refine Rs 24 ?_ ?_<;>intro haQ
 ·have h1:nb a<=7:=of_decide_eq_true haQ;refine A3 ?_;refine Rs 27 ?_ ?_<;>intro hbQ
  ·have h2:nb b<=7:=of_decide_eq_true hbQ;refine A5 ?_;refine Cd ?_ ?_<;>intro hcQ
   ·have hA:a<72057594037927936:=Nat.lt_of_lt_of_le (kH a) (gQ h1);have hB:b<72057594037927936:=Nat.lt_of_lt_of_le (kH b) (gQ h2);have hq1:a/b<=a:=Nat.div_le_self _ _;have hr1:a%b<b:=Nat.mod_lt _ hb;refine dF 6 (bH a) rfl (by rw[if_pos h1]) ?_;refine dF 8 (bH b) rfl (by rw[if_pos h2]) ?_;refine A1 ?_;refine Dp [] [0,1,2,4,5,6,3,7,8,9] ?_;refine A2 ?_;refine(Dv ((a/b:Nat):Int)) (by exact(congrArg some (IG _ _ rfl rfl ae))) ?_;refine A2 ?_;refine(Dv ((a%b:Nat):Int)) (congrArg some (jg _ _ rfl rfl)) ?_;refine(Sc []) (DF (a/b)) (fun xq=>?_);refine(Sc []) (DF (a%b)) (fun xr=>?_);refine A6 ?_;refine bM rfl (au rfl) (au rfl) (fun w hL=>⟨.inl (xq,xr),?_,hL.pk [some 2,some 3]⟩);exact rfl
   ·exact absurd hcQ (by rw[if_pos h2];simp;omega)
  ·refine FN ?_;refine(Sd [0,1]) (eH a b ae x y) ?_;refine A3 ?_;refine Cd ?_ ?_<;>intro hcQ
   ·have hlt:a<b:=FU.1 (of_decide_eq_true hcQ);refine A9 ?_;refine bM rfl (au rfl) (au rfl) (fun w hL=>⟨.inr ⟨hlt⟩,?_,hL.pk []⟩);exact rfl
   ·have hge:b<=a:=by have:=of_decide_eq_false hcQ;rw[FU] at this;omega
    refine A6 ?_;refine fG (c:=nb a) (NV .i64 (row (nb a) (TK a b (nb a)))) (fun g=>[_,_,⟨some g,3,_,_,true⟩]) yj el3 rfl rfl rfl rfl rfl rfl ae qfK (fun _=>rfl) (fun g0=>?_);refine A8 ?_;refine Ar (((nb a:Nat):Int)-1) ?_;refine A4 ?_;refine El (ι:=(p:{p:Nat // p<=nb a})×SR (nb (a/256^p.1%b))) (fun⟨⟨p,hp⟩,z⟩=>([(0,x.v),(1,y.v),(4,aA (some g0) 0 (nb a) (nb a)),(5,z.v),(10,.int .i64 ((p:Nat)-1))],[⟨x.b,3,NV .i64 (D8 a),x.n,false⟩,⟨y.b,3,NV .i64 (D8 b),y.n,false⟩,⟨some g0,3,NV .i64 (row (nb a) (TK a b p)),nb a,true⟩,⟨z.b,3,NV .i64 (D8 (a/256^p%b)),z.n,true⟩],p)) ⟨⟨nb a,Nat.le_refl _⟩,⟨none,0,0,qfL⟩⟩ ?_ (ht:=⟨rfl,rfl,rfl,(aQ rfl (Vh a b)),rfl,trivial⟩) (hL:=(az [some 0,some 1,some 2,none] ⟨pR,pR,pR,⟨rfl,ZU a b,rfl⟩,trivial⟩ rfl rfl));rintro⟨⟨p,hp⟩,z⟩;(try dsimp only);refine A7 ?_;refine Cd ?_ ?_<;>intro hdQ
    ·obtain⟨q,rfl⟩:∃q,p=q+1:=⟨p-1,uX⟩;refine dF 10 (bH q) rfl (congrArg (Value.int .i64) ae) ?_;have hR:=Nat.mod_lt (a/256^(q+1)) hb;have hnR:nb (a/256^(q+1)%b)<=nb b:=gG (Nat.le_of_lt hR);have hdq:=lZ (a/256^q);have hWn:=qe0 a b q;refine rF 3 rfl (fun hbase=>?_);refine A8 ?_;refine Vx ?_;refine(Bl 1 [(0,_)]) (pK) (fun g1=>?_);refine A1 ?_;refine qeZ 4 3 (fun b n=>[_,_,_,_,⟨b,3,_,n,true⟩]) yj el3 rfl rfl rfl rfl rfl hbase rfl rfl ae (fun _ _=>rfl) (fun r=>?_);refine(Sd [4]) (jU (a/256^q%256::D8 (a/256^(q+1)%b)) (CB a b q) qfM (by rw[List.length_cons,jR]) r) ?_;refine aS 61 (aA r.b 0 (nb (Hy a b q)) r.cap) rfl (by rw[LX]) ?_;refine A4 ?_;refine El (ι:=(x:{x:Nat×Nat // x.1*b+x.2=Hy a b q})×SR (nb x.1.2)) (fun⟨⟨⟨m,rr⟩,hq⟩,z2⟩=>([(0,x.v),(1,y.v),(4,aA (some g0) 0 (nb a) (nb a)),(5,z2.v),(10,bH q)],[⟨x.b,3,NV .i64 (D8 a),x.n,false⟩,⟨y.b,3,NV .i64 (D8 b),y.n,false⟩,⟨some g0,3,NV .i64 (row (nb a) (XB a b q m)),nb a,true⟩,⟨z2.b,3,NV .i64 (D8 (rr)),z2.n,true⟩],rr)) ⟨⟨(0,Hy a b q),ae⟩,⟨r.b,r.n,r.cap,Nat.le_trans hWn r.h⟩⟩ ?_ (hL:=(az [some 0,some 1,some 2,some 4] ⟨pR,pR,⟨_,rfl,bg (congrArg (fun c=>(⟨some g0,3,NV .i64 c,nb a,true⟩:aH)) (dh fun j _=>Vj a b q j))⟩,⟨_,rfl,rfl,rfl,rfl,⟨nb (Hy a b q),Vg a b q⟩,fun _=>rfl⟩,trivial⟩ rfl rfl));rintro⟨⟨⟨m,rr⟩,hq⟩,z2⟩;(try dsimp only);replace hq:m*b+rr=Hy a b q:=hq;have hrn:=ZV hb hq;refine A5 ?_;refine(Sd [3,1]) (eH rr b ae z2 y) ?_;refine A2 ?_;refine Rs 66 ?_ ?_<;>intro heQ
     ·have hge2:b<=rr:=kQ.1 (of_decide_eq_true heQ);have hm1:=qeS (s:=1) hb hq ae;refine A2 ?_;refine Ix 2 (q) ?_;refine(Lo 2 (q)) Yb ?_;refine A4 ?_;refine Cd ?_ ?_<;>intro hfQ
      ·refine nI ?_;refine El (ι:=(s:{s:Nat // 0<s∧s<=128∧s*b<=rr})×SR (nb (s.1*b))) (fun⟨⟨s,hs0,hs1,hs2⟩,z3⟩=>([(0,x.v),(1,y.v),(4,aA (some g0) 0 (nb a) (nb a)),(5,z2.v),(10,bH q),(11,bH s),(12,z3.v)],[⟨x.b,3,NV .i64 (D8 a),x.n,false⟩,⟨y.b,3,NV .i64 (D8 b),y.n,false⟩,⟨some g0,3,NV .i64 (row (nb a) (XB a b q m)),nb a,true⟩,⟨z2.b,3,NV .i64 (D8 (rr)),z2.n,true⟩,⟨z3.b,3,NV .i64 (D8 (s*b)),z3.n,false⟩],128-s)) ⟨⟨1,ae,ae,ae⟩,⟨y.b,y.n,y.cap,by rw[Nat.one_mul];exact y.h⟩⟩ ?_ (ht:=⟨rfl,rfl,rfl,rfl,rfl,rfl,(aQ rfl (congrArg (fun n=>aA y.b 0 (nb n) y.cap) (Nat.one_mul b).symm)),trivial⟩) (hL:=(az [some 0,some 1,some 2,some 3,some 1] ⟨pR,pR,pR,pR,⟨_,rfl,bg (congrArg (fun n=>(⟨y.b,3,NV .i64 (D8 n),y.n,false⟩:aH)) (Nat.one_mul b))⟩,trivial⟩ rfl rfl));rintro⟨⟨s,hs0,hs1,hs2⟩,z3⟩;(try dsimp only);have e2:2*s*b=s*b+s*b:=by rw[Nat.two_mul,Nat.add_mul]
       replace hs2:s*b<=rr:=hs2;have hsn:nb (s*b)<=nb rr:=gG hs2;have hsn2:nb (s*b+s*b)<=nb b+2:=nP qfN;refine A4 ?_;refine Ar (((2*s:Nat):Int)) ?_;refine A2 ?_;refine Rs 77 ?_ ?_<;>intro hgQ
       ·have hs3:2*s<=128:=X3;refine A2 ?_;refine(Sc [4,4]) (kZ (s*b) (s*b) ae ae z3 z3) (fun z4=>?_);refine A1 ?_;refine(Sd [5,3]) (eH (s*b+s*b) rr ae z4 z2) ?_;refine A4 ?_;refine Cd ?_ ?_<;>intro hhQ
        ·have hs4:s*b+s*b<=rr:=wP.1 (of_decide_eq_true hhQ);exact qlB
        ·exact qlC
       ·exact qlD
      ·exact absurd (of_decide_eq_false hfQ) ae
     ·have hlt2:rr<b:=by have:=of_decide_eq_false heQ;rw[kQ] at this;omega
      exact qlE
    ·have hp0:p=0:=wR
     exact qlz
 ·refine Rh ?_;refine(Sd [0,1]) (eH a b ae x y) ?_;refine A3 ?_;refine Cd ?_ ?_<;>intro hbQ
  ·have hlt:a<b:=FU.1 (of_decide_eq_true hbQ);refine A9 ?_;refine bM rfl (au rfl) (au rfl) (fun w hL=>⟨.inr ⟨hlt⟩,?_,hL.pk []⟩);exact rfl
  ·have hge:b<=a:=by have:=of_decide_eq_false hbQ;rw[FU] at this;omega
   refine A6 ?_;refine fG (c:=nb a) (NV .i64 (row (nb a) (TK a b (nb a)))) (fun g=>[_,_,⟨some g,3,_,_,true⟩]) yj el3 rfl rfl rfl rfl rfl rfl ae qfK (fun _=>rfl) (fun g0=>?_);refine A8 ?_;refine Ar (((nb a:Nat):Int)-1) ?_;refine A4 ?_;refine El (ι:=(p:{p:Nat // p<=nb a})×SR (nb (a/256^p.1%b))) (fun⟨⟨p,hp⟩,z⟩=>([(0,x.v),(1,y.v),(4,aA (some g0) 0 (nb a) (nb a)),(5,z.v),(10,.int .i64 ((p:Nat)-1))],[⟨x.b,3,NV .i64 (D8 a),x.n,false⟩,⟨y.b,3,NV .i64 (D8 b),y.n,false⟩,⟨some g0,3,NV .i64 (row (nb a) (TK a b p)),nb a,true⟩,⟨z.b,3,NV .i64 (D8 (a/256^p%b)),z.n,true⟩],p)) ⟨⟨nb a,Nat.le_refl _⟩,⟨none,0,0,qfL⟩⟩ ?_ (ht:=⟨rfl,rfl,rfl,(aQ rfl (Vh a b)),rfl,trivial⟩) (hL:=(az [some 0,some 1,some 2,none] ⟨pR,pR,pR,⟨rfl,ZU a b,rfl⟩,trivial⟩ rfl rfl));rintro⟨⟨p,hp⟩,z⟩;(try dsimp only);refine A7 ?_;refine Cd ?_ ?_<;>intro hcQ
   ·obtain⟨q,rfl⟩:∃q,p=q+1:=⟨p-1,qL⟩;refine dF 10 (bH q) rfl (congrArg (Value.int .i64) ae) ?_;have hR:=Nat.mod_lt (a/256^(q+1)) hb;have hnR:nb (a/256^(q+1)%b)<=nb b:=gG (Nat.le_of_lt hR);have hdq:=lZ (a/256^q);have hWn:=qe0 a b q;refine rF 3 rfl (fun hbase=>?_);refine A8 ?_;refine Vx ?_;refine(Bl 1 [(0,_)]) (pK) (fun g1=>?_);refine A1 ?_;refine qeZ 4 3 (fun b n=>[_,_,_,_,⟨b,3,_,n,true⟩]) yj el3 rfl rfl rfl rfl rfl hbase rfl rfl ae (fun _ _=>rfl) (fun r=>?_);refine(Sd [4]) (jU (a/256^q%256::D8 (a/256^(q+1)%b)) (CB a b q) qfM (by rw[List.length_cons,jR]) r) ?_;refine aS 61 (aA r.b 0 (nb (Hy a b q)) r.cap) rfl (by rw[LX]) ?_;refine A4 ?_;refine El (ι:=(x:{x:Nat×Nat // x.1*b+x.2=Hy a b q})×SR (nb x.1.2)) (fun⟨⟨⟨m,rr⟩,hq⟩,z2⟩=>([(0,x.v),(1,y.v),(4,aA (some g0) 0 (nb a) (nb a)),(5,z2.v),(10,bH q)],[⟨x.b,3,NV .i64 (D8 a),x.n,false⟩,⟨y.b,3,NV .i64 (D8 b),y.n,false⟩,⟨some g0,3,NV .i64 (row (nb a) (XB a b q m)),nb a,true⟩,⟨z2.b,3,NV .i64 (D8 (rr)),z2.n,true⟩],rr)) ⟨⟨(0,Hy a b q),ae⟩,⟨r.b,r.n,r.cap,Nat.le_trans hWn r.h⟩⟩ ?_ (hL:=(az [some 0,some 1,some 2,some 4] ⟨pR,pR,⟨_,rfl,bg (congrArg (fun c=>(⟨some g0,3,NV .i64 c,nb a,true⟩:aH)) (dh fun j _=>Vj a b q j))⟩,⟨_,rfl,rfl,rfl,rfl,⟨nb (Hy a b q),Vg a b q⟩,fun _=>rfl⟩,trivial⟩ rfl rfl));rintro⟨⟨⟨m,rr⟩,hq⟩,z2⟩;(try dsimp only);replace hq:m*b+rr=Hy a b q:=hq;have hrn:=ZV hb hq;refine A5 ?_;refine(Sd [3,1]) (eH rr b ae z2 y) ?_;refine A2 ?_;refine Rs 66 ?_ ?_<;>intro hdQ
    ·have hge2:b<=rr:=kQ.1 (of_decide_eq_true hdQ);have hm1:=qeS (s:=1) hb hq ae;refine A2 ?_;refine Ix 2 (q) ?_;refine(Lo 2 (q)) Yb ?_;refine A4 ?_;refine Cd ?_ ?_<;>intro heQ
     ·refine nI ?_;refine El (ι:=(s:{s:Nat // 0<s∧s<=128∧s*b<=rr})×SR (nb (s.1*b))) (fun⟨⟨s,hs0,hs1,hs2⟩,z3⟩=>([(0,x.v),(1,y.v),(4,aA (some g0) 0 (nb a) (nb a)),(5,z2.v),(10,bH q),(11,bH s),(12,z3.v)],[⟨x.b,3,NV .i64 (D8 a),x.n,false⟩,⟨y.b,3,NV .i64 (D8 b),y.n,false⟩,⟨some g0,3,NV .i64 (row (nb a) (XB a b q m)),nb a,true⟩,⟨z2.b,3,NV .i64 (D8 (rr)),z2.n,true⟩,⟨z3.b,3,NV .i64 (D8 (s*b)),z3.n,false⟩],128-s)) ⟨⟨1,ae,ae,ae⟩,⟨y.b,y.n,y.cap,by rw[Nat.one_mul];exact y.h⟩⟩ ?_ (ht:=⟨rfl,rfl,rfl,rfl,rfl,rfl,(aQ rfl (congrArg (fun n=>aA y.b 0 (nb n) y.cap) (Nat.one_mul b).symm)),trivial⟩) (hL:=(az [some 0,some 1,some 2,some 3,some 1] ⟨pR,pR,pR,pR,⟨_,rfl,bg (congrArg (fun n=>(⟨y.b,3,NV .i64 (D8 n),y.n,false⟩:aH)) (Nat.one_mul b))⟩,trivial⟩ rfl rfl));rintro⟨⟨s,hs0,hs1,hs2⟩,z3⟩;(try dsimp only);have e2:2*s*b=s*b+s*b:=by rw[Nat.two_mul,Nat.add_mul]
      replace hs2:s*b<=rr:=hs2;have hsn:nb (s*b)<=nb rr:=gG hs2;have hsn2:nb (s*b+s*b)<=nb b+2:=nP qfN;refine A4 ?_;refine Ar (((2*s:Nat):Int)) ?_;refine A2 ?_;refine Rs 77 ?_ ?_<;>intro hfQ
      ·have hs3:2*s<=128:=(by have:=of_decide_eq_true hfQ;omega);refine A2 ?_;refine(Sc [4,4]) (kZ (s*b) (s*b) ae ae z3 z3) (fun z4=>?_);refine A1 ?_;refine(Sd [5,3]) (eH (s*b+s*b) rr ae z4 z2) ?_;refine A4 ?_;refine Cd ?_ ?_<;>intro hgQ
       ·have hs4:s*b+s*b<=rr:=wP.1 (of_decide_eq_true hgQ);exact qlB
       ·exact qlC
      ·exact qlD
     ·exact absurd (of_decide_eq_false heQ) ae
    ·have hlt2:rr<b:=by have:=of_decide_eq_false hdQ;rw[kQ] at this;omega
     exact qlE
   ·have hp0:p=0:=sJ
    exact qlz
end Go.Proofs.YtaffcpfhedadhaaGreatDoor
namespace Go.Proofs.YtaffcpfhedadhaaGreatDoor
variable[Go.Via.Mo]
open Go Go.RowKit Go.Via
def MW(a b:Nat)(ha:nb a<=1073740000)(hb:nb b<=1073740000)(x:SR (nb a))(y:SR (nb b)):Hg Tryz.prog 119 [⟨x.b,3,NV .i64 (D8 a),x.n,false⟩,⟨y.b,3,NV .i64 (D8 b),y.n,false⟩] [x.v,y.v] (SR (nb (Nat.gcd a b))) SR.v (fun z=>[⟨z.b,3,NV .i64 (D8 (Nat.gcd a b)),z.n,false⟩]):=by
 refine⟨ak,fun w hL0=>?_⟩;refine cB2 19 Tryz.func119 hL0 ?_;refine A7 ?_;refine El (ι:=(p:{p:Nat×Nat // Nat.gcd p.1 p.2=Nat.gcd a b∧nb p.1<=1073740000∧nb p.2<=1073740000})×FS [x.b,y.b] (nb p.1.1)×FS [x.b,y.b] (nb p.1.2)) (fun⟨⟨⟨m,n⟩,hg,hm,hn⟩,⟨za,oa,hoa⟩,⟨zb,ob,hob⟩⟩=>([(0,za.v),(1,zb.v)],[⟨x.b,3,NV .i64 (D8 a),x.n,false⟩,⟨y.b,3,NV .i64 (D8 b),y.n,false⟩,⟨za.b,3,NV .i64 (D8 (m)),za.n,oa⟩,⟨zb.b,3,NV .i64 (D8 (n)),zb.n,ob⟩],n)) ⟨⟨(a,b),rfl,ha,hb⟩,⟨x,false,.inr bz⟩,⟨y,false,.inr bz⟩⟩ ?_ (hL:=(wM [some 0,some 1,some 0,some 1]));rintro⟨⟨⟨m,n⟩,hg,hm,hn⟩,⟨za,oa,hoa⟩,⟨zb,ob,hob⟩⟩;(try dsimp only);replace hm:nb m<=1073740000:=hm;replace hn:nb n<=1073740000:=hn;replace hg:Nat.gcd m n=Nat.gcd a b:=hg;refine A8 ?_;refine Cd ?_ ?_<;>intro haQ
 ·have hn0:0<n:=Nat.pos_of_ne_zero (fun e=>by subst e;rw[kT] at haQ;cases haQ);refine A7 ?_;refine jG [_,_] [2,3] rfl rfl rfl (qf m n hn0 hm hn za zb) ⟨pS,pS,trivial⟩ rfl (.inr LY) (fun z=>?_);rcases z with z|hlt
  ·refine Ed ?_;exact Nl ⟨⟨(n,m%n),qb9 hg,hn,Nat.le_trans (gG (Nat.mod_le _ _)) hm⟩,⟨zb,ob,hob⟩,⟨z.2,true,.inl rfl⟩⟩ (hμ:=(Nat.mod_lt _ hn0)) (hL:=(az [some 0,some 1,some 3,some 5] ⟨pR,pR,pR,pR,trivial⟩ rfl (by cases ob<;>rfl)))
  ·have hlt:=hlt.down;refine Ed ?_;exact Nl ⟨⟨(n,m),(Nat.gcd_comm n m).trans hg,hn,hm⟩,⟨zb,ob,hob⟩,⟨za,oa,hoa⟩⟩ (hμ:=hlt) (hL:=(az [some 0,some 1,some 3,some 2] ⟨pR,pR,pR,pR,trivial⟩ rfl (by cases oa<;>cases ob<;>rfl)))
 ·have hn1:n=0:=Classical.byContradiction fun e=>by have:=Ea e;have hz:¬((0:Int)<((nb n:Nat):Int)):=of_decide_eq_false haQ;omega
  subst hn1;rw[Nat.gcd_zero_right] at hg;replace hg:m=Nat.gcd a b:=hg;subst hg;refine nI ?_;refine aO rfl (au rfl) (fun w hL=>⟨za,?_,hL.picks [some 2] ⟨pS,trivial⟩ rfl rfl,fun c hc=>?_⟩)
  ·rfl
  ·rw[List.mem_singleton.1 hc];exact fun g hg=>(qnu (x:=⟨x.b,3,NV .i64 (D8 a),x.n,false⟩) (y:=⟨y.b,3,NV .i64 (D8 b),y.n,false⟩) hL 2 rfl rfl rfl hoa rfl g hg).imp EQ id
end Go.Proofs.YtaffcpfhedadhaaGreatDoor
