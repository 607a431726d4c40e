/-
  Part 27 (chapter 32): lemmas, walks. Each theorem states its own conditions.
-/
import Derived.Test.YtaffcpfhedadhaaGreatDoorA24
set_option linter.all false
set_option maxRecDepth 20000
set_option maxHeartbeats 20000000
section
variable{P Q:Prop}{T:Type}{R:T->Prop}
def qk3(h:P:=by
 subst hp0;refine A8 ?_;refine gq [_] [2] rfl rfl rfl (jU (row (nb a) (SI a b 0)) (lh fun j=>qem a b 0 j) oH (dw _ _) ⟨some g0,nb a,nb a,Nat.le_refl _⟩) ⟨pS,trivial⟩ rfl ?_;refine aF 103 (ay (some g0) 0 (nb (a/b)) (nb a)) rfl (by rw[UG];rfl) ?_;refine A6 ?_;refine bM rfl (au rfl) (au rfl) (fun w hL=>⟨.inl (⟨some g0,nb a,nb a,gK (Nat.div_le_self _ _)⟩,⟨z.b,z.n,z.cap,by have h:=z.h;simp only[Nat.pow_zero,Nat.div_one] at h;exact h⟩),?_,?_⟩)
 ·exact congrArg (fun n=>Ending.returned (.tuple #[ay (some g0) 0 (nb (a/b)) (nb a),ay z.b 0 (nb n) z.cap])) (show a/256^0%b=a%b by rw[Nat.pow_zero,Nat.div_one])
 ·exact hL.picks [some 2,some 3] ⟨⟨_,rfl,rfl,rfl,rfl,⟨nb (a/b),qen a b⟩,fun _=>rfl⟩,⟨_,rfl,bn (congrArg (fun n=>(⟨z.b,3,NV .i64 (D8 n),z.n,true⟩:aJ)) (show a%b=a/256^0%b by rw[Nat.pow_zero,Nat.div_one]))⟩,trivial⟩ rfl rfl):=h
def qk4(q:∀x,R x)(h:bu (∀x,R x)->P:=by intro q_;refine Dp [2000000] [0,1,2,3,5,6,7,8,9,10,4,11,12,13] ?_;refine A6 ?_;refine Ix 2 (q) ?_;refine(Lo 2 (q)) Xu ?_;refine A1 ?_;refine Ar (((m+s:Nat):Int)) ?_;refine(Sc [3,4]) (xe rr (s*b) ae hs2 z2 z3) (fun z6=>?_);exact q_.qq z6):=h ⟨q⟩
def qk5(h:P:=by refine A5 ?_;refine Ar (((2*s:Nat):Int)) ?_;refine A2 ?_;refine(Sc [4,4]) (lm (s*b) (s*b) ae ae z3 z3) (fun z5=>?_);refine A5 ?_;exact Nl ⟨⟨2*s,ae,hs3,by rw[Nat.two_mul,Nat.add_mul];exact hs4⟩,⟨z5.b,z5.n,z5.cap,by show nb (2*s*b)<=z5.cap;rw[e2];exact z5.h⟩⟩ (hμ:=(by show 128-2*s<128-s;omega)) (ht:=⟨rfl,rfl,rfl,rfl,rfl,rfl,(aU rfl (congrArg (fun n=>ay z5.b 0 (nb n) z5.cap) e2.symm)),trivial⟩) (hL:=(aA [some 0,some 1,some 2,some 3,some 6] ⟨pR,pR,pR,pR,⟨_,rfl,⟨rfl,rfl,rfl,⟨(NV .i64 (D8 (s*b+s*b))).length,by show NV .i64 (D8 (2*s*b))=_;rw[e2,List.take_length]⟩,fun h=>zf⟩⟩,trivial⟩ rfl rfl))):=h
def qk6(h:P:=by refine A5 ?_;refine qk4 fun z6=>?_;refine A1 ?_;refine Ix 2 (q) ?_;refine(S1 2 (q) [_,_,⟨some g0,3,_,_,true⟩,_,_,_,_] (NV .i64 (row (nb a) (WO a b q (m+s))))) pI qfi ?_;refine A3 ?_;exact Nl ⟨⟨(m+s,rr-s*b),UC hq hs2⟩,z6⟩ (hμ:=qfj) (hL:=(aT [some 0,some 1,some 2,some 6]))):=h
def qk7(h:P:=by refine D7 ?_;refine qk4 fun z6=>?_;refine A1 ?_;refine Ix 2 (q) ?_;refine(S1 2 (q) [_,_,⟨some g0,3,_,_,true⟩,_,_,_] (NV .i64 (row (nb a) (WO a b q (m+s))))) pI qfi ?_;refine A3 ?_;exact Nl ⟨⟨(m+s,rr-s*b),UC hq hs2⟩,z6⟩ (hμ:=qfj) (hL:=(aT [some 0,some 1,some 2,some 5]))):=h
def qfd(h:P:=by obtain⟨hm,hr⟩:=dq8 hb hq hlt2;subst hm;subst hr;refine QI ?_;refine Ar (((q:Nat):Int)-1) ?_;refine A3 ?_;exact Nl ⟨⟨q,ae⟩,z2⟩ (hμ:=(Nat.lt_succ_self q)) (hL:=(aA [some 0,some 1,some 2,some 3] ⟨pR,pR,⟨_,rfl,bn (congrArg (fun c=>(⟨some g0,3,NV .i64 c,nb a,true⟩:aJ)) (cu fun j _=>(qiP a b q j).symm))⟩,pR,trivial⟩ rfl rfl))):=h
def qfe(h:P:=by rw[cu (g:=fun _=>0) (fun j hj=>qiQ a b hj),oI,iF]):=h
def qff(h:P:=by rw[QM,kV];exact Nat.le_refl _):=h
def qfg(h:P:=by rw[List.length_cons,jQ];omega):=h
def Xu(h:P:=by exact(fP ((fU fK).trans (by rw[qmY])))):=h
def qfh(h:P:=by have h1:=kH b;have h2:s*b<=128*b:=Nat.mul_le_mul_right _ hs1;rw[Nat.pow_succ,Nat.pow_succ];omega):=h
def qfi(h:P:=by exact(by rw[lK,jJ (fun j _=>qel a b q m (m+s) j)])):=h
def qfj(h:P:=by have:=Nat.mul_pos hs0 hb;show rr-s*b<rr;omega):=h
end
namespace Go.Proofs.YtaffcpfhedadhaaGreatDoor
variable[Go.Via.Mo]
open Go Go.RowKit Go.Via
def pY(a b:Nat)(hb:0<b)(ha:nb a<=1073740000)(hbn:nb b<=1073740000)(x:SR (nb a))(y:SR (nb b)):bZ Tryz.prog 120 [⟨x.b,3,NV .i64 (D8 a),x.n,false⟩,⟨y.b,3,NV .i64 (D8 b),y.n,false⟩] [x.v,y.v] ((SR (nb (a/b))×SR (nb (a%b))) ⊕ PLift (a<b)) (qei x) QL:=by
 refine sB2 105 Tryz.func120 fun w hL0=>?_;refine A9 ?_;refine(Sd [0]) (Dt a ae x) ?_;refine lD ?_;refine(Sd [1]) (Dt b ae y) ?_;refine nT ?_;refine Rs 24 ?_ ?_<;>intro haQ
 ·have h1:nb a<=7:=of_decide_eq_true haQ;refine A3 ?_;refine Rs 27 ?_ ?_<;>intro hbQ
  ·have h2:nb b<=7:=of_decide_eq_true hbQ;refine A5 ?_;refine Cd ?_ ?_<;>intro hcQ
   ·have hA:a<72057594037927936:=Nat.lt_of_lt_of_le (kH a) (gX h1);have hB:b<72057594037927936:=Nat.lt_of_lt_of_le (kH b) (gX h2);have hq1:a/b<=a:=Nat.div_le_self _ _;have hr1:a%b<b:=Nat.mod_lt _ hb;refine dC 6 (bG a) rfl (by rw[if_pos h1]) ?_;refine dC 8 (bG b) rfl (by rw[if_pos h2]) ?_;refine A1 ?_;refine Dp [] [0,1,2,4,5,6,3,7,8,9] ?_;refine A2 ?_;refine(Dv ((a/b:Nat):Int)) (by exact(congrArg some (Ii _ _ rfl rfl ae))) ?_;refine A2 ?_;refine(Dv ((a%b:Nat):Int)) (congrArg some (kz _ _ rfl rfl)) ?_;refine(Sc []) (Du (a/b)) (fun xq=>?_);refine(Sc []) (Du (a%b)) (fun xr=>?_);refine A6 ?_;refine bM rfl (au rfl) (au rfl) (fun w hL=>⟨.inl (xq,xr),?_,hL.pk [some 2,some 3]⟩);exact rfl
   ·exact absurd hcQ (by rw[if_pos h2];simp;omega)
  ·refine Gw ?_;refine(Sd [0,1]) (eP a b ae x y) ?_;refine A3 ?_;refine Cd ?_ ?_<;>intro hcQ
   ·have hlt:a<b:=Fv.1 (of_decide_eq_true hcQ);refine A9 ?_;refine bM rfl (au rfl) (au rfl) (fun w hL=>⟨.inr ⟨hlt⟩,?_,hL.pk []⟩);exact rfl
   ·have hge:b<=a:=by have:=of_decide_eq_false hcQ;rw[Fv] at this;omega
    refine A6 ?_;refine fE (c:=nb a) (NV .i64 (row (nb a) (SI a b (nb a)))) (fun g=>[_,_,⟨some g,3,_,_,true⟩]) xP el3 rfl rfl rfl rfl rfl rfl ae qfe (fun _=>rfl) (fun g0=>?_);refine A8 ?_;refine Ar (((nb a:Nat):Int)-1) ?_;refine A4 ?_;refine El (ι:=(p:{p:Nat // p<=nb a})×SR (nb (a/256^p.1%b))) (fun⟨⟨p,hp⟩,z⟩=>([(0,x.v),(1,y.v),(4,ay (some g0) 0 (nb a) (nb a)),(5,z.v),(10,.int .i64 ((p:Nat)-1))],[⟨x.b,3,NV .i64 (D8 a),x.n,false⟩,⟨y.b,3,NV .i64 (D8 b),y.n,false⟩,⟨some g0,3,NV .i64 (row (nb a) (SI a b p)),nb a,true⟩,⟨z.b,3,NV .i64 (D8 (a/256^p%b)),z.n,true⟩],p)) ⟨⟨nb a,Nat.le_refl _⟩,⟨none,0,0,qff⟩⟩ ?_ (ht:=⟨rfl,rfl,rfl,(aU rfl (UE a b)),rfl,trivial⟩) (hL:=(aA [some 0,some 1,some 2,none] ⟨pR,pR,pR,⟨rfl,Zg a b,rfl⟩,trivial⟩ rfl rfl));rintro⟨⟨p,hp⟩,z⟩;(try dsimp only);refine A7 ?_;refine Cd ?_ ?_<;>intro hdQ
    ·obtain⟨q,rfl⟩:∃q,p=q+1:=⟨p-1,uV⟩;refine dC 10 (bG q) rfl (congrArg (Value.int .i64) ae) ?_;have hR:=Nat.mod_lt (a/256^(q+1)) hb;have hnR:nb (a/256^(q+1)%b)<=nb b:=gK (Nat.le_of_lt hR);have hdq:=mD (a/256^q);have hWn:=qek a b q;refine rq 3 rfl (fun hbase=>?_);refine A8 ?_;refine U9 ?_;refine(Bl 1 [(0,_)]) (pK) (fun g1=>?_);refine A1 ?_;refine qej 4 3 (fun b n=>[_,_,_,_,⟨b,3,_,n,true⟩]) xP el3 rfl rfl rfl rfl rfl hbase rfl rfl ae (fun _ _=>rfl) (fun r=>?_);refine(Sd [4]) (jU (a/256^q%256::D8 (a/256^(q+1)%b)) (Cb a b q) qfg (by rw[List.length_cons,jQ]) r) ?_;refine aF 61 (ay r.b 0 (nb (G6 a b q)) r.cap) rfl (by rw[Lh]) ?_;refine A4 ?_;refine El (ι:=(x:{x:Nat×Nat // x.1*b+x.2=G6 a b q})×SR (nb x.1.2)) (fun⟨⟨⟨m,rr⟩,hq⟩,z2⟩=>([(0,x.v),(1,y.v),(4,ay (some g0) 0 (nb a) (nb a)),(5,z2.v),(10,bG q)],[⟨x.b,3,NV .i64 (D8 a),x.n,false⟩,⟨y.b,3,NV .i64 (D8 b),y.n,false⟩,⟨some g0,3,NV .i64 (row (nb a) (WO a b q m)),nb a,true⟩,⟨z2.b,3,NV .i64 (D8 (rr)),z2.n,true⟩],rr)) ⟨⟨(0,G6 a b q),ae⟩,⟨r.b,r.n,r.cap,Nat.le_trans hWn r.h⟩⟩ ?_ (hL:=(aA [some 0,some 1,some 2,some 4] ⟨pR,pR,⟨_,rfl,bn (congrArg (fun c=>(⟨some g0,3,NV .i64 c,nb a,true⟩:aJ)) (cu fun j _=>UF a b q j))⟩,⟨_,rfl,rfl,rfl,rfl,⟨nb (G6 a b q),UD a b q⟩,fun _=>rfl⟩,trivial⟩ rfl rfl));rintro⟨⟨⟨m,rr⟩,hq⟩,z2⟩;(try dsimp only);replace hq:m*b+rr=G6 a b q:=hq;have hrn:=Zh hb hq;refine A5 ?_;refine(Sd [3,1]) (eP rr b ae z2 y) ?_;refine A2 ?_;refine Rs 66 ?_ ?_<;>intro heQ
     ·have hge2:b<=rr:=kR.1 (of_decide_eq_true heQ);have hm1:=qeh (s:=1) hb hq ae;refine A2 ?_;refine Ix 2 (q) ?_;refine(Lo 2 (q)) Xu ?_;refine A4 ?_;refine Cd ?_ ?_<;>intro hfQ
      ·refine nT ?_;refine El (ι:=(s:{s:Nat // 0<s∧s<=128∧s*b<=rr})×SR (nb (s.1*b))) (fun⟨⟨s,hs0,hs1,hs2⟩,z3⟩=>([(0,x.v),(1,y.v),(4,ay (some g0) 0 (nb a) (nb a)),(5,z2.v),(10,bG q),(11,bG s),(12,z3.v)],[⟨x.b,3,NV .i64 (D8 a),x.n,false⟩,⟨y.b,3,NV .i64 (D8 b),y.n,false⟩,⟨some g0,3,NV .i64 (row (nb a) (WO a b q m)),nb a,true⟩,⟨z2.b,3,NV .i64 (D8 (rr)),z2.n,true⟩,⟨z3.b,3,NV .i64 (D8 (s*b)),z3.n,false⟩],128-s)) ⟨⟨1,ae,ae,ae⟩,⟨y.b,y.n,y.cap,by rw[Nat.one_mul];exact y.h⟩⟩ ?_ (ht:=⟨rfl,rfl,rfl,rfl,rfl,rfl,(aU rfl (congrArg (fun n=>ay y.b 0 (nb n) y.cap) (Nat.one_mul b).symm)),trivial⟩) (hL:=(aA [some 0,some 1,some 2,some 3,some 1] ⟨pR,pR,pR,pR,⟨_,rfl,bn (congrArg (fun n=>(⟨y.b,3,NV .i64 (D8 n),y.n,false⟩:aJ)) (Nat.one_mul b))⟩,trivial⟩ rfl rfl));rintro⟨⟨s,hs0,hs1,hs2⟩,z3⟩;(try dsimp only);have e2:2*s*b=s*b+s*b:=by rw[Nat.two_mul,Nat.add_mul]
       replace hs2:s*b<=rr:=hs2;have hsn:nb (s*b)<=nb rr:=gK hs2;have hsn2:nb (s*b+s*b)<=nb b+2:=nV qfh;refine A4 ?_;refine Ar (((2*s:Nat):Int)) ?_;refine A2 ?_;refine Rs 77 ?_ ?_<;>intro hgQ
       ·have hs3:2*s<=128:=Xi;refine A2 ?_;refine(Sc [4,4]) (lm (s*b) (s*b) ae ae z3 z3) (fun z4=>?_);refine A1 ?_;refine(Sd [5,3]) (eP (s*b+s*b) rr ae z4 z2) ?_;refine A4 ?_;refine Cd ?_ ?_<;>intro hhQ
        ·have hs4:s*b+s*b<=rr:=wI.1 (of_decide_eq_true hhQ);exact qk5
        ·exact qk6
       ·exact qk7
      ·exact absurd (of_decide_eq_false hfQ) ae
     ·have hlt2:rr<b:=by have:=of_decide_eq_false heQ;rw[kR] at this;omega
      exact qfd
    ·have hp0:p=0:=pX
     exact qk3
 ·refine SG ?_;refine(Sd [0,1]) (eP a b ae x y) ?_;refine A3 ?_;refine Cd ?_ ?_<;>intro hbQ
  ·have hlt:a<b:=Fv.1 (of_decide_eq_true hbQ);refine A9 ?_;refine bM rfl (au rfl) (au rfl) (fun w hL=>⟨.inr ⟨hlt⟩,?_,hL.pk []⟩);exact rfl
  ·have hge:b<=a:=by have:=of_decide_eq_false hbQ;rw[Fv] at this;omega
   refine A6 ?_;refine fE (c:=nb a) (NV .i64 (row (nb a) (SI a b (nb a)))) (fun g=>[_,_,⟨some g,3,_,_,true⟩]) xP el3 rfl rfl rfl rfl rfl rfl ae qfe (fun _=>rfl) (fun g0=>?_);refine A8 ?_;refine Ar (((nb a:Nat):Int)-1) ?_;refine A4 ?_;refine El (ι:=(p:{p:Nat // p<=nb a})×SR (nb (a/256^p.1%b))) (fun⟨⟨p,hp⟩,z⟩=>([(0,x.v),(1,y.v),(4,ay (some g0) 0 (nb a) (nb a)),(5,z.v),(10,.int .i64 ((p:Nat)-1))],[⟨x.b,3,NV .i64 (D8 a),x.n,false⟩,⟨y.b,3,NV .i64 (D8 b),y.n,false⟩,⟨some g0,3,NV .i64 (row (nb a) (SI a b p)),nb a,true⟩,⟨z.b,3,NV .i64 (D8 (a/256^p%b)),z.n,true⟩],p)) ⟨⟨nb a,Nat.le_refl _⟩,⟨none,0,0,qff⟩⟩ ?_ (ht:=⟨rfl,rfl,rfl,(aU rfl (UE a b)),rfl,trivial⟩) (hL:=(aA [some 0,some 1,some 2,none] ⟨pR,pR,pR,⟨rfl,Zg a b,rfl⟩,trivial⟩ rfl rfl));rintro⟨⟨p,hp⟩,z⟩;(try dsimp only);refine A7 ?_;refine Cd ?_ ?_<;>intro hcQ
   ·obtain⟨q,rfl⟩:∃q,p=q+1:=⟨p-1,qE⟩;refine dC 10 (bG q) rfl (congrArg (Value.int .i64) ae) ?_;have hR:=Nat.mod_lt (a/256^(q+1)) hb;have hnR:nb (a/256^(q+1)%b)<=nb b:=gK (Nat.le_of_lt hR);have hdq:=mD (a/256^q);have hWn:=qek a b q;refine rq 3 rfl (fun hbase=>?_);refine A8 ?_;refine U9 ?_;refine(Bl 1 [(0,_)]) (pK) (fun g1=>?_);refine A1 ?_;refine qej 4 3 (fun b n=>[_,_,_,_,⟨b,3,_,n,true⟩]) xP el3 rfl rfl rfl rfl rfl hbase rfl rfl ae (fun _ _=>rfl) (fun r=>?_);refine(Sd [4]) (jU (a/256^q%256::D8 (a/256^(q+1)%b)) (Cb a b q) qfg (by rw[List.length_cons,jQ]) r) ?_;refine aF 61 (ay r.b 0 (nb (G6 a b q)) r.cap) rfl (by rw[Lh]) ?_;refine A4 ?_;refine El (ι:=(x:{x:Nat×Nat // x.1*b+x.2=G6 a b q})×SR (nb x.1.2)) (fun⟨⟨⟨m,rr⟩,hq⟩,z2⟩=>([(0,x.v),(1,y.v),(4,ay (some g0) 0 (nb a) (nb a)),(5,z2.v),(10,bG q)],[⟨x.b,3,NV .i64 (D8 a),x.n,false⟩,⟨y.b,3,NV .i64 (D8 b),y.n,false⟩,⟨some g0,3,NV .i64 (row (nb a) (WO a b q m)),nb a,true⟩,⟨z2.b,3,NV .i64 (D8 (rr)),z2.n,true⟩],rr)) ⟨⟨(0,G6 a b q),ae⟩,⟨r.b,r.n,r.cap,Nat.le_trans hWn r.h⟩⟩ ?_ (hL:=(aA [some 0,some 1,some 2,some 4] ⟨pR,pR,⟨_,rfl,bn (congrArg (fun c=>(⟨some g0,3,NV .i64 c,nb a,true⟩:aJ)) (cu fun j _=>UF a b q j))⟩,⟨_,rfl,rfl,rfl,rfl,⟨nb (G6 a b q),UD a b q⟩,fun _=>rfl⟩,trivial⟩ rfl rfl));rintro⟨⟨⟨m,rr⟩,hq⟩,z2⟩;(try dsimp only);replace hq:m*b+rr=G6 a b q:=hq;have hrn:=Zh hb hq;refine A5 ?_;refine(Sd [3,1]) (eP rr b ae z2 y) ?_;refine A2 ?_;refine Rs 66 ?_ ?_<;>intro hdQ
    ·have hge2:b<=rr:=kR.1 (of_decide_eq_true hdQ);have hm1:=qeh (s:=1) hb hq ae;refine A2 ?_;refine Ix 2 (q) ?_;refine(Lo 2 (q)) Xu ?_;refine A4 ?_;refine Cd ?_ ?_<;>intro heQ
     ·refine nT ?_;refine El (ι:=(s:{s:Nat // 0<s∧s<=128∧s*b<=rr})×SR (nb (s.1*b))) (fun⟨⟨s,hs0,hs1,hs2⟩,z3⟩=>([(0,x.v),(1,y.v),(4,ay (some g0) 0 (nb a) (nb a)),(5,z2.v),(10,bG q),(11,bG s),(12,z3.v)],[⟨x.b,3,NV .i64 (D8 a),x.n,false⟩,⟨y.b,3,NV .i64 (D8 b),y.n,false⟩,⟨some g0,3,NV .i64 (row (nb a) (WO a b q m)),nb a,true⟩,⟨z2.b,3,NV .i64 (D8 (rr)),z2.n,true⟩,⟨z3.b,3,NV .i64 (D8 (s*b)),z3.n,false⟩],128-s)) ⟨⟨1,ae,ae,ae⟩,⟨y.b,y.n,y.cap,by rw[Nat.one_mul];exact y.h⟩⟩ ?_ (ht:=⟨rfl,rfl,rfl,rfl,rfl,rfl,(aU rfl (congrArg (fun n=>ay y.b 0 (nb n) y.cap) (Nat.one_mul b).symm)),trivial⟩) (hL:=(aA [some 0,some 1,some 2,some 3,some 1] ⟨pR,pR,pR,pR,⟨_,rfl,bn (congrArg (fun n=>(⟨y.b,3,NV .i64 (D8 n),y.n,false⟩:aJ)) (Nat.one_mul b))⟩,trivial⟩ rfl rfl));rintro⟨⟨s,hs0,hs1,hs2⟩,z3⟩;(try dsimp only);have e2:2*s*b=s*b+s*b:=by rw[Nat.two_mul,Nat.add_mul]
      replace hs2:s*b<=rr:=hs2;have hsn:nb (s*b)<=nb rr:=gK hs2;have hsn2:nb (s*b+s*b)<=nb b+2:=nV qfh;refine A4 ?_;refine Ar (((2*s:Nat):Int)) ?_;refine A2 ?_;refine Rs 77 ?_ ?_<;>intro hfQ
      ·have hs3:2*s<=128:=(by have:=of_decide_eq_true hfQ;omega);refine A2 ?_;refine(Sc [4,4]) (lm (s*b) (s*b) ae ae z3 z3) (fun z4=>?_);refine A1 ?_;refine(Sd [5,3]) (eP (s*b+s*b) rr ae z4 z2) ?_;refine A4 ?_;refine Cd ?_ ?_<;>intro hgQ
       ·have hs4:s*b+s*b<=rr:=wI.1 (of_decide_eq_true hgQ);exact qk5
       ·exact qk6
      ·exact qk7
     ·exact absurd (of_decide_eq_false heQ) ae
    ·have hlt2:rr<b:=by have:=of_decide_eq_false hdQ;rw[kR] at this;omega
     exact qfd
   ·have hp0:p=0:=sD
    exact qk3
end Go.Proofs.YtaffcpfhedadhaaGreatDoor
