/-
  Part 19 (chapter 32): lemmas, walks. Each theorem states its own conditions.
-/
import Derived.Test.YtaffcpfhedadhaaGreatDoorA16
import Derived.Test.YtaffcpfhedadhaaGreatDoorA17
import Derived.Test.YtaffcpfhedadhaaGreatDoorA18
set_option linter.all false
set_option maxRecDepth 20000
set_option maxHeartbeats 20000000
section
variable{P Q:Prop}{T:Type}{R:T->Prop}
structure aj(Z:Prop):Prop where
 qq:Z
def qoG(h:P:=by refine(Dv ((Fq (a+b) i:Nat):Int)) (by exact(congrArg some ((lW _ 256 rfl rfl).trans (by rw[qhf];rfl)))) ?_;refine(Bl 1 [(0,_)]) (zA) (fun g0=>?_);refine mO (s:=1) (len:=i) (n2:=1) 2 3 (fun r=>[_,_,⟨some r.g,3,NV .i64 (row (i+1) (Fq (a+b))),r.n,true⟩,⟨some g0,3,_,1,true⟩]) BH el3 rfl rfl rfl rfl rfl rfl rfl rfl rfl rfl rfl rfl Ro ae WV rfl (Go.Via.one_cell _ _) ae (fun r=>congrArg (fun c=>[_,_,(⟨some r.g,3,c,r.n,true⟩:aF),⟨some g0,3,_,1,true⟩]) (G8 _ _ _ _ (rfl))) (fun r=>?_);refine A5 ?_;refine(Dv ((Fv a b (i+1):Nat):Int)) (by exact(congrArg some ((JV _ 256 rfl rfl ae).trans (by rw[Zc])))) ?_;refine A6 ?_;refine kM ?_;exact Nl ⟨(i+1,some r.g,r.n,r.cap),Nat.succ_le_succ hmx,r.h,WW⟩ (hμ:=(by show max (nb a) (nb b)+1-(i+1)<max (nb a) (nb b)+1-i;omega)) (hL:=fE.auto)):=h
def qqu(h:P:=by refine(Bl 1 [(0,_)]) (zA) (fun g0=>?_);refine mO (s:=1) (len:=i) (n2:=1) 2 3 (fun r=>[_,_,⟨some r.g,3,NV .i64 (row (i+1) (Fq (a-b))),r.n,true⟩,⟨some g0,3,_,1,true⟩]) BH el3 rfl rfl rfl rfl rfl rfl rfl rfl rfl rfl rfl rfl Ro ae WV rfl (Go.Via.one_cell _ _) ae (fun r=>congrArg (fun c=>[_,_,(⟨some r.g,3,c,r.n,true⟩:aF),⟨some g0,3,_,1,true⟩]) (G8 _ _ _ _ (rfl))) (fun r=>?_);refine A6 ?_;refine kM ?_;exact Nl ⟨(i+1,some r.g,r.n,r.cap),hlt,r.h,WW⟩ (hμ:=(by show nb a-(i+1)<nb a-i;omega)) (ht:=⟨rfl,rfl,rfl,(aO rfl (by rw[hd2];rfl)),rfl,trivial⟩) (hL:=fE.auto)):=h
def kM(q:Q)(h:aj Q->P:=by intro q_;refine rG ?_;refine A3 ?_;exact q_.qq):=h ⟨q⟩
def qhN(q:Q)(h:aj Q->P:=by intro q_;refine A4 ?_;refine qhX ?_;refine(Aq ((Wp a b i:Nat):Int)) (by exact(congrArg some (wi ae ae (by rw[TQ];omega)))) ?_;refine A7 ?_;exact q_.qq):=h ⟨q⟩
def qcg(q:Q)(h:aj Q->P:=by intro q_;refine aJ 0 (i) BH LJ rfl rfl rfl rfl rfl ae ae (GK J6) J7 ?_;refine(Lo 0 (i)) FI ?_;exact q_.qq):=h ⟨q⟩
def qch(q:Q)(h:aj Q->P:=by intro q_;refine aJ 0 (q) BH LJ rfl rfl rfl rfl rfl ae ae (GK J6) J7 ?_;refine(Lo 0 (q)) FI ?_;exact q_.qq):=h ⟨q⟩
def qhO(h:P:=by refine eG 6 (bF (Wp a b i)) rfl (by rw[TQ,yU hjb];rfl) ?_;refine A6 ?_;exact qoG):=h
def qhP(h:P:=by
 refine Cd ?_ ?_<;>intro hcQ
 ·obtain⟨hd1,hd2⟩:=qob (m:=a) (n:=b) (i:=i) hle tJ;refine A2 ?_;refine Ar ((((a-b)/256^i%256:Nat):Int)) ?_;refine A7 ?_;exact qqu
 ·obtain⟨hd1,hd2⟩:=qoc (m:=a) (n:=b) (i:=i) hle uC;refine eG 8 (bF ((a-b)/256^i%256)) rfl (congrArg (Value.int .i64) ae) ?_;refine A5 ?_;exact qqu):=h
def Uf(h:P:=by refine A5 ?_;exact Ug):=h
def lQ(q:∀x,R x)(h:aj (∀x,R x)->P:=by intro q_;refine A2 ?_;refine Bp 2 (fun g0=>?_);exact q_.qq g0):=h ⟨q⟩
def Ug(h:P:=by refine kM ?_;exact Nl ⟨i+1,hlt⟩):=h
def qhQ(h:P:=by
 refine Cd ?_ ?_<;>intro heQ
 ·have hjb:i<nb b:=Rq;refine qhN ?_;exact qoG
 ·have hjb:nb b<=i:=Rt;exact qhO):=h
def qhR(h:P:=by
 refine Cd ?_ ?_<;>intro hdQ
 ·have hjb:i<nb b:=xM;refine qhN ?_;exact qoG
 ·have hjb:nb b<=i:=yX;exact qhO):=h
def qhS(h:P:=by
 refine Cd ?_ ?_<;>intro hcQ
 ·have hjb:i<nb b:=tJ;refine qhN ?_;exact qoG
 ·have hjb:nb b<=i:=uC;exact qhO):=h
def qhT(h:P:=by refine A6 ?_;refine Ar (((q:Nat):Int)-1) ?_;refine A3 ?_;exact Nl ⟨q,ae⟩):=h
def qhU(h:P:=by refine A4 ?_;exact Nl ⟨m-1,ae,YL h0 hm hv ae hz⟩):=h
def qhV(q:Q)(h:aj Q->P:=by intro q_;refine Di [] ?_;refine A2 ?_;refine qch ?_;refine A2 ?_;refine aJ 1 (q) BH LJ rfl rfl rfl rfl rfl ae ae (GK J6) J7 ?_;refine(Lo 1 (q)) FI ?_;refine A3 ?_;exact q_.qq):=h ⟨q⟩
def qhW(q:Q)(h:aj Q->P:=by intro q_;refine A5 ?_;refine GI 2 qdC u5 u9 rfl rfl rfl rfl rfl (by rw[List.take_of_length_le qqw,qg7]) (by rw[List.length_reverse];rfl) (VR n) ?_;refine(Bu [(0,_),(1,_)]) (YC) ?_;refine mY ?_;exact q_.qq):=h ⟨q⟩
def rG(q:Q)(h:aj Q->P:=by intro q_;refine Ar (((i+1:Nat):Int)) ?_;exact q_.qq):=h ⟨q⟩
def qhX(q:Q)(h:aj Q->P:=by intro q_;refine aJ 1 (i) BH LJ rfl rfl rfl rfl rfl ae ae (GK J6) J7 ?_;refine(Lo 1 (i)) FI ?_;exact q_.qq):=h ⟨q⟩
def Zr(q:Q)(h:aj Q->P:=by intro q_;refine eG 6 (bF (Fv a b i+a/256^i%256)) rfl (by rw[yU hja];rfl) ?_;refine qX ?_;exact q_.qq):=h ⟨q⟩
def Zt(q:Q)(h:aj Q->P:=by intro q_;refine Ar (((nb n-1:Nat):Int)) ?_;refine A1 ?_;refine Ar (((nb n-1-i:Nat):Int)) ?_;exact q_.qq):=h ⟨q⟩
def Zu(q:Q)(h:aj Q->P:=by intro q_;refine qcg ?_;refine Ar (((Fv a b i+a/256^i%256:Nat):Int)) ?_;refine oH ?_;exact q_.qq):=h ⟨q⟩
def mY(q:Q)(h:aj Q->P:=by intro q_;refine Ss 1 ?_;refine A3 ?_;exact q_.qq):=h ⟨q⟩
def Om(q:∀x,R x)(h:aj (∀x,R x)->P:=by intro q_;refine(Bl 1 [(0,_)]) (zA) (fun g1=>?_);exact q_.qq g1):=h ⟨q⟩
def Oo(q:∀x,R x)(h:aj (∀x,R x)->P:=by intro q_;refine A2 ?_;refine Al 2 QH (fun g0=>?_);exact q_.qq g0):=h ⟨q⟩
def qqv(h:P:=by rw[List.take_of_length_le (Nat.le_refl _)]):=h
def iE(h:P:=by have:=of_decide_eq_true haQ;omega):=h
def qhY(h:P:=by have:=eq_of_beq hbQ;omega):=h
def iV(h:P:=by have:=of_decide_eq_false haQ;omega):=h
def kN(h:P:=by have:=of_decide_eq_true hbQ;omega):=h
def lw(h:P:=by have:=of_decide_eq_false hbQ;omega):=h
def tJ(h:P:=by have:=of_decide_eq_true hcQ;omega):=h
def uC(h:P:=by have:=of_decide_eq_false hcQ;omega):=h
def xM(h:P:=by have:=of_decide_eq_true hdQ;omega):=h
def yX(h:P:=by have:=of_decide_eq_false hdQ;omega):=h
def Ro(h:P:=by rw[jJ,dD];omega):=h
def WV(h:P:=by show oc*1<=oN;omega):=h
def WW(h:P:=by have:=r.hn;show r.cap<=r.n;omega):=h
def Hq(h:P:=by rw[Be]):=h
def J6(h:P:=by rw[lG];omega):=h
def pG(h:P:=by exact(by rw[jJ,dD];omega)):=h
def qqw(h:P:=by rw[jJ,dD];exact Nat.le_refl _):=h
def J7(h:P:=by show 0+Int.toNat _*1=_;omega):=h
def Rq(h:P:=by have:=of_decide_eq_true heQ;omega):=h
def Rt(h:P:=by have:=of_decide_eq_false heQ;omega):=h
def FI(h:P:=by exact(gz (qsK fZ))):=h
def fZ(h:P:=by omega):=h
end
namespace Go.Proofs.YtaffcpfhedadhaaGreatDoor
variable[Go.Via.Mo]
open Go Go.RowKit Go.Via
def kY(l:List Nat)(hl:∀d∈l,d<256)(hn:l.length<=1073741824){len:Nat}(hlen:l.length=len)(x:SR len):bQ Tryz.prog 121 [⟨x.b,3,NV .i64 l,x.n,false⟩] [x.v] Unit (fun _=>aB x.b 0 (ah 256 (val 256 l)).length x.cap) (fun _=>[]):=by
 refine⟨ak,fun w hL0=>?_⟩;subst hlen;refine cB1 21 Tryz.func121 hL0 ?_;refine FH ?_;refine El (ι:={m:Nat // m<=l.length∧val 256 (l.take m)=val 256 l}) (fun⟨m,hm,hv⟩=>([(0,x.v),(3,bF m)],[⟨x.b,3,NV .i64 l,x.n,false⟩],m)) ⟨l.length,Nat.le_refl _,qqv⟩ ?_;rintro⟨m,hm,hv⟩;(try dsimp only);refine A6 ?_;refine Rs 8 ?_ ?_<;>intro haQ
 ·have h0:0<m:=iE;refine A2 ?_;refine Ar (((m-1:Nat):Int)) ?_;refine Ix 0 (m-1) ?_;refine(Lo 0 (m-1)) (by exact(gz (l:=l) (List.getElem?_eq_getElem ae))) ?_;refine A4 ?_;refine Cd ?_ ?_<;>intro hbQ
  ·have hz:l[m-1]=0:=qhY;refine A5 ?_;refine Ar (((m-1:Nat):Int)) ?_;exact qhU
  ·have hz:l[m-1]≠0:=(by have:=ne_of_beq_false hbQ;omega);refine A9 ?_;refine yP m BH LJ rfl rfl rfl rfl ae (by have:=x.h;omega) ae ?_;refine A4 ?_;refine aH rfl (ax rfl) (fun w hL=>⟨(),?_,hL.pk []⟩);rw[GU (B:=256) au hl hm hv (.inr ⟨ae,hz⟩)]
 ·have h0:m=0:=iV;refine A19 ?_;refine yP m BH LJ rfl rfl rfl rfl ae (by have:=x.h;omega) ae ?_;refine A4 ?_;refine aH rfl (ax rfl) (fun w hL=>⟨(),?_,hL.pk []⟩);rw[GU (B:=256) au hl hm hv (.inl h0)]
def dW(a b:Nat)(ha:nb a<=1073741824)(x:SR (nb a))(y:SR (nb b)):bQ Tryz.prog 114 [⟨x.b,3,NV .i64 (D8 a),x.n,false⟩,⟨y.b,3,NV .i64 (D8 b),y.n,false⟩] [x.v,y.v] Unit (fun _=> .int .i64 (oD a b)) (fun _=>[]):=by
 refine sB2 41 Tryz.func114 fun w hL0=>?_;refine II ?_;refine Cd ?_ ?_<;>intro haQ
 ·have hl:nb a≠nb b:=by have:=bne_iff_ne.1 haQ;omega
  refine lh ?_;refine Cd ?_ ?_<;>intro hbQ
  ·have h1:nb a<nb b:=kN;refine A8 ?_;refine aH rfl (ax rfl) (fun w hL=>⟨(),?_,hL.pk []⟩);rw[Y5 h1]
  ·have h1:nb b<nb a:=lw;refine A9 ?_;refine aH rfl (ax rfl) (fun w hL=>⟨(),?_,hL.pk []⟩);rw[Y6 h1]
 ·have hl:nb a=nb b:=by have:=Wj haQ;omega
  refine A7 ?_;refine Ar (((nb a:Nat):Int)-1) ?_;refine A4 ?_;refine El (ι:={p:Nat // p<=nb a∧a/256^p=b/256^p}) (fun⟨p,hp,he⟩=>([(0,x.v),(1,y.v),(5,.int .i64 ((p:Nat)-1))],[⟨x.b,3,NV .i64 (D8 a),x.n,false⟩,⟨y.b,3,NV .i64 (D8 b),y.n,false⟩],p)) ⟨nb a,Nat.le_refl _,qn6 hl⟩ ?_;rintro⟨p,hp,he⟩;(try dsimp only);refine A7 ?_;refine Cd ?_ ?_<;>intro hbQ
  ·obtain⟨q,rfl⟩:∃q,p=q+1:=⟨p-1,kN⟩;refine eG 5 (bF q) rfl (congrArg (Value.int .i64) ae) ?_;refine A6 ?_;refine qhV ?_;refine Cd ?_ ?_<;>intro hcQ
   ·have h1:a/256^q%256<b/256^q%256:=tJ;refine oH ?_;refine aH rfl (ax rfl) (fun w hL=>⟨(),?_,hL.pk []⟩);rw[Y7 he h1]
   ·have h1:¬a/256^q%256<b/256^q%256:=uC;refine A3 ?_;refine qhV ?_;refine Cd ?_ ?_<;>intro hdQ
    ·have h2:b/256^q%256<a/256^q%256:=xM;refine qX ?_;refine aH rfl (ax rfl) (fun w hL=>⟨(),?_,hL.pk []⟩);rw[Y8 he h2]
    ·have h2:¬b/256^q%256<a/256^q%256:=yX;refine A5 ?_;refine Ar (((q:Nat):Int)-1) ?_;refine A3 ?_;exact Nl ⟨q,ae,Y9 he h1 h2⟩
  ·have hp0:p=0:=lw
   subst hp0;refine qX ?_;refine aH rfl (ax rfl) (fun w hL=>⟨(),?_,hL.pk []⟩);rw[qn7 he]
def EF(n:Nat)(hn:nb n<=1073741824)(x:SR (nb n)):bQ Tryz.prog 163 [⟨x.b,3,NV .i64 (D8 n),x.n,false⟩] [x.v] Unit (fun _=> .tuple #[.int .i64 (if nb n<=7 then(n:Int) else 0),.bool (decide (nb n<=7))]) (fun _=>[]):=by
 refine Qg 24 Tryz.func163 fun w hL0=>?_;refine FH ?_;refine Cd ?_ ?_<;>intro haQ
 ·have h8:¬nb n<=7:=iE;refine A8 ?_;refine bT rfl (ax rfl) (ax rfl) (fun w hL=>⟨(),?_,hL.pk []⟩);rw[if_neg h8,decide_eq_false h8]
 ·have h8:nb n<=7:=iV;refine oH ?_;refine Ar (((nb n:Nat):Int)-1) ?_;refine A4 ?_;refine El (ι:={p:Nat // p<=nb n}) (fun⟨p,hp⟩=>([(0,x.v),(4,bF (n/256^p)),(5,.int .i64 ((p:Nat)-1))],[⟨x.b,3,NV .i64 (D8 n),x.n,false⟩],p)) ⟨nb n,Nat.le_refl _⟩ ?_ (ht:=⟨rfl,(aO rfl (by rw[Nat.div_eq_of_lt (kw n)];rfl)),rfl,trivial⟩);rintro⟨p,hp⟩;(try dsimp only);refine A7 ?_;refine Cd ?_ ?_<;>intro hbQ
  ·obtain⟨q,rfl⟩:∃q,p=q+1:=⟨p-1,kN⟩;refine eG 5 (bF q) rfl (congrArg (Value.int .i64) ae) ?_;have hs1:=qg6 (q:=q) h8;have hs2:=xI n q;refine A6 ?_;refine Ar (((n/256^(q+1)*256:Nat):Int)) ?_;refine A2 ?_;refine qch ?_;refine Ar (((n/256^q:Nat):Int)) ?_;exact qhT
  ·have hp0:p=0:=lw
   subst hp0;refine EE ?_;refine bT rfl (ax rfl) (ax rfl) (fun w hL=>⟨(),?_,hL.pk []⟩);rw[if_pos h8,decide_eq_true h8];simp
def EG(n:Nat)(hn:n<=9223372036854775807:=by omega):bQ Tryz.prog 164 [] [bF n] (SR (nb n)) SR.v (fun x=>[⟨x.b,3,NV .i64 (D8 n),x.n,true⟩]):=by
 refine⟨ak,fun w hL0=>?_⟩;have hnb:nb n<=8:=oh ae;refine cB1 14 Tryz.func164 hL0 ?_;refine oH ?_;refine El (ι:={x:Nat×Option Nat×Nat×Nat // x.1<=nb n∧x.1<=x.2.2.2∧x.2.2.2<=x.2.2.1}) (fun⟨⟨i,ob,oN,oc⟩,hi,h1,h2⟩=>([(0,bF (n/256^i)),(3,aB ob 0 i oc)],[⟨ob,3,NV .i64 (row i (Fq n)),oN,true⟩],nb n-i)) ⟨(0,none,0,0),Nat.zero_le _,Nat.le_refl _,Nat.le_refl _⟩ ?_ (ht:=⟨(aO rfl (by rw[Nat.pow_zero,Nat.div_one])),rfl,trivial⟩) (hL:=(ay [none] ⟨⟨rfl,rfl,rfl⟩,trivial⟩ rfl rfl));rintro⟨⟨i,ob,oN,oc⟩,hi,h1,h2⟩;(try dsimp only);replace hi:i<=nb n:=hi;replace h1:i<=oc:=h1;replace h2:oc<=oN:=h2;refine A7 ?_;refine Cd ?_ ?_<;>intro haQ
 ·have hgt:0<n/256^i:=iE
  have hlt:=Q5 hgt;have hle:n/256^i<=n:=Nat.div_le_self _ _;refine A7 ?_;refine(Dv ((Fq n i:Nat):Int)) (congrArg some (lW _ 256 rfl rfl)) ?_;refine(Bl 1 [(0,_)]) (zA) (fun g0=>?_);refine mO (s:=1) (len:=i) (n2:=1) 0 1 (fun r=>[⟨some r.g,3,NV .i64 (row (i+1) (Fq n)),r.n,true⟩,⟨some g0,3,_,1,true⟩]) BH el3 rfl rfl rfl rfl rfl rfl rfl rfl rfl rfl rfl rfl Ro ae WV rfl (Go.Via.one_cell _ _) ae (fun r=>congrArg (fun c=>[(⟨some r.g,3,c,r.n,true⟩:aF),⟨some g0,3,_,1,true⟩]) (G8 _ _ _ _ (rfl))) (fun r=>?_);refine A5 ?_;refine(Dv ((n/256^(i+1):Nat):Int)) (by exact(congrArg some ((JV _ 256 rfl rfl ae).trans (by rw[Za])))) ?_;refine A4 ?_;exact Nl ⟨(i+1,some r.g,r.n,r.cap),hlt,r.h,WW⟩ (hμ:=(by show nb n-(i+1)<nb n-i;omega)) (hL:=fE.auto)
 ·have hge:=Q7 (n:=n) (i:=i) (by have:=of_decide_eq_false haQ;have:=Nat.zero_le (n/256^i);omega) hi;subst hge;refine oH ?_;refine aH rfl (ax rfl) (fun w hL=>⟨⟨ob,oN,oc,h1⟩,rfl,?_⟩);rw[NT] at hL;exact hL
def kC(z:Int)(hz:ji z<=1073741824:=by omega):bQ Tryz.prog 116 [] [I z] (SR (nb z.natAbs)) SR.v (fun x=>[⟨x.b,3,NV .i64 (D8 z.natAbs),x.n,true⟩]):=by
 refine⟨ak,fun w hL0=>?_⟩;have hz:nb z.natAbs<=1073741824:=hz;refine cB1 23 Tryz.func116 hL0 ?_;refine lQ fun g0=>?_;refine FH ?_;refine aP 7 (bF (nb z.natAbs)) rfl Hq ?_;refine Ar (((nb z.natAbs:Nat):Int)-1) ?_;refine A4 ?_;refine El (ι:={x:Nat×Option Nat×Nat×Nat // x.1<=nb z.natAbs∧x.1<=x.2.2.2∧x.2.2.2<=x.2.2.1}) (fun⟨⟨k,ob,oN,oc⟩,hk,h1,h2⟩=>([(1,dA g0),(3,aB ob 0 k oc),(4,.int .i64 ((nb z.natAbs-k:Nat)-1))],[⟨some g0,34,[.bool (decide (z<0)),.string (bH z.natAbs)],2,true⟩,⟨ob,3,NV .i64 (row k (Fq z.natAbs)),oN,true⟩],nb z.natAbs-k)) ⟨(0,none,0,0),Nat.zero_le _,Nat.le_refl _,Nat.le_refl _⟩ ?_ (hL:=(ay [some 0,none] ⟨pR,⟨rfl,rfl,rfl⟩,trivial⟩ rfl rfl));rintro⟨⟨k,ob,oN,oc⟩,hk,h1,h2⟩;(try dsimp only);replace hk:k<=nb z.natAbs:=hk;replace h1:k<=oc:=h1;replace h2:oc<=oN:=h2;refine A7 ?_;refine Cd ?_ ?_<;>intro haQ
 ·have hlt:k<nb z.natAbs:=iE
  refine eG 4 (bF (nb z.natAbs-1-k)) rfl (congrArg (Value.int .i64) ae) ?_;refine A9 ?_;refine zu (b:=UInt8.ofNat (z.natAbs/256^k%256)) (r:=((z.natAbs/256^k%256:Nat):Int)) u9 rfl rfl rfl rfl ae (qbJ z.natAbs k hlt) (TC _) ?_;refine(Cv ((Fq z.natAbs k:Nat):Int) u5 u3) (by exact(wi (by have:=BU z.natAbs k;omega) (by have:=BU z.natAbs k;omega) rfl)) ?_;refine Om fun g1=>?_;refine mO (s:=1) (len:=k) (n2:=1) 1 2 (fun r=>[_,⟨some r.g,3,NV .i64 (row (k+1) (Fq z.natAbs)),r.n,true⟩,⟨some g1,3,_,1,true⟩]) BH el3 rfl rfl rfl rfl rfl rfl rfl rfl rfl rfl rfl rfl Ro ae WV rfl (Go.Via.one_cell _ _) ae (fun r=>congrArg (fun c=>[_,(⟨some r.g,3,c,r.n,true⟩:aF),⟨some g1,3,_,1,true⟩]) (G8 _ _ _ _ (rfl))) (fun r=>?_);refine A6 ?_;refine Ar (((nb z.natAbs-(k+1):Nat):Int)-1) ?_;refine A3 ?_;exact Nl ⟨(k+1,some r.g,r.n,r.cap),hlt,r.h,WW⟩ (hμ:=(by show nb z.natAbs-(k+1)<nb z.natAbs-k;omega)) (hL:=fE.auto)
 ·have hge:k=nb z.natAbs:=iV
  subst hge;refine A8 ?_;refine iD [_] [1] rfl rfl rfl (kY (row (nb z.natAbs) (Fq z.natAbs)) (oG fun j=>BU _ j) qV (dD _ _) ⟨ob,oN,oc,h1⟩) ⟨pS,trivial⟩ rfl ?_;refine aP 22 (aB ob 0 (nb z.natAbs) oc) rfl (by rw[Wl]) ?_;refine A4 ?_;refine aH rfl (ax rfl) (fun w hL=>⟨⟨ob,oN,oc,h1⟩,rfl,?_⟩);rw[NT] at hL;exact hL.pk [some 1]
def sG(n:Nat)(neg:Bool)(hn:nb n<=1073741824)(x:SR (nb n)):bQ Tryz.prog 117 [⟨x.b,3,NV .i64 (D8 n),x.n,false⟩] [x.v,.bool neg] Unit (fun _=>I (if neg=true then-(n:Int) else(n:Int))) (fun _=>[]):=by
 refine sB2 39 Tryz.func117 fun w hL0=>?_;refine Oo fun g0=>?_;refine A5 ?_;refine(Sd [0]) (kY (D8 n) (qqf n) J6 (lG n) x) ?_;refine aP 8 (aB x.b 0 (nb n) x.cap) rfl (by rw[JY]) ?_;refine A7 ?_;refine gQ (c:=nb n) (NV .u8 (row (nb n) (x9 n (nb n) 0))) (fun g=>[_,_,⟨some g,5,_,_,true⟩]) qdC el5 rfl rfl rfl rfl rfl rfl ae (by rw[cu (g:=fun _=>0) (fun j _=>QJ n _ j),oP,ik]) (fun _=>rfl) (fun g1=>?_);refine lh ?_;refine El (ι:={i:Nat // i<=nb n}) (fun⟨i,hi⟩=>([(0,aB x.b 0 (nb n) x.cap),(1,.bool neg),(4,dA g0),(5,aB (some g1) 0 (nb n) (nb n)),(6,bF i)],[⟨x.b,3,NV .i64 (D8 n),x.n,false⟩,⟨some g0,34,[aQ,aS],2,true⟩,⟨some g1,5,NV .u8 (row (nb n) (x9 n (nb n) i)),nb n,true⟩],nb n-i)) ⟨0,Nat.zero_le _⟩ ?_;rintro⟨i,hi⟩;(try dsimp only);refine A9 ?_;refine Cd ?_ ?_<;>intro haQ
 ·have hlt:i<nb n:=iE;refine A8 ?_;refine Zt ?_;refine A2 ?_;refine qcg ?_;refine(Cv ((n/256^i%256:Nat):Int) u3 u5) (by exact((c8 _ rfl).trans (by rw[Nat.mod_mod]))) ?_;refine Ix 2 (nb n-1-i) ?_;refine(S1 2 (nb n-1-i) [_,_,⟨some g1,5,_,_,true⟩] (NV .u8 (row (nb n) (x9 n (nb n) (i+1))))) pG (QK n (nb n) i _ hlt rfl) ?_;exact Uf
 ·have hge:i=nb n:=iV;subst hge;refine A9 ?_;refine Rs 31 ?_ ?_<;>intro hbQ
  ·refine qhW ?_;refine Ec2 1 fun w hL=>⟨(),?_,hL.pk []⟩;exact congrArg Ending.returned (qn9 n hbQ)
  ·refine qhW ?_;refine Ec2 1 fun w hL=>⟨(),?_,hL.pk []⟩;exact congrArg Ending.returned (qoa n hbQ)
end Go.Proofs.YtaffcpfhedadhaaGreatDoor
namespace Go.Proofs.YtaffcpfhedadhaaGreatDoor
variable[Go.Via.Mo]
open Go Go.RowKit Go.Via
def kZ(a b:Nat)(ha:nb a<=1073741000)(hb:nb b<=1073741000)(x:SR (nb a))(y:SR (nb b)):bQ Tryz.prog 113 [⟨x.b,3,NV .i64 (D8 a),x.n,false⟩,⟨y.b,3,NV .i64 (D8 b),y.n,false⟩] [x.v,y.v] (SR (nb (a+b))) SR.v (fun x=>[⟨x.b,3,NV .i64 (D8 (a+b)),x.n,true⟩]):=by
 refine sB2 53 Tryz.func113 fun w hL0=>?_;refine A22 ?_;refine El (ι:={x:Nat×Option Nat×Nat×Nat // x.1<=max (nb a) (nb b)+1∧x.1<=x.2.2.2∧x.2.2.2<=x.2.2.1}) (fun⟨⟨i,ob,oN,oc⟩,hi,h1,h2⟩=>([(0,x.v),(1,y.v),(5,aB ob 0 i oc),(6,bF (Fv a b i)),(7,bF i)],[⟨x.b,3,NV .i64 (D8 a),x.n,false⟩,⟨y.b,3,NV .i64 (D8 b),y.n,false⟩,⟨ob,3,NV .i64 (row i (Fq (a+b))),oN,true⟩],max (nb a) (nb b)+1-i)) ⟨(0,none,0,0),Nat.zero_le _,Nat.le_refl _,Nat.le_refl _⟩ ?_ (ht:=⟨rfl,rfl,rfl,(aO rfl (by rw[qea];rfl)),rfl,trivial⟩) (hL:=(ay [some 0,some 1,none] ⟨pR,pR,⟨rfl,rfl,rfl⟩,trivial⟩ rfl rfl));rintro⟨⟨i,ob,oN,oc⟩,hi,h1,h2⟩;(try dsimp only);replace hi:i<=max (nb a) (nb b)+1:=hi;replace h1:i<=oc:=h1;replace h2:oc<=oN:=h2;refine A8 ?_;refine Rs 12 ?_ ?_<;>intro haQ
 ·have hia:i<nb a:=iE;have hmx:i<=max (nb a) (nb b):=ae
  refine A25 ?_;refine Cd ?_ ?_<;>intro hbQ
  ·have hja:i<nb a:=kN;have hcl:=zK a b i;have hax:=l9 (a/256^i);have hbx:=l9 (b/256^i);have hsl:=DV a b i;refine A4 ?_;refine Zu ?_;exact qhS
  ·have hja:nb a<=i:=lw;have hcl:=zK a b i;have hax:=l9 (a/256^i);have hbx:=l9 (b/256^i);have hsl:=DV a b i;refine Zr ?_;exact qhS
 ·have hia:nb a<=i:=iV;refine A6 ?_;refine Rs 18 ?_ ?_<;>intro hbQ
  ·have hib:i<nb b:=kN;have hmx:i<=max (nb a) (nb b):=ae
   refine A19 ?_;refine Cd ?_ ?_<;>intro hcQ
   ·have hja:i<nb a:=tJ;have hcl:=zK a b i;have hax:=l9 (a/256^i);have hbx:=l9 (b/256^i);have hsl:=DV a b i;refine A4 ?_;refine Zu ?_;exact qhR
   ·have hja:nb a<=i:=uC;have hcl:=zK a b i;have hax:=l9 (a/256^i);have hbx:=l9 (b/256^i);have hsl:=DV a b i;refine Zr ?_;exact qhR
  ·have hib:nb b<=i:=lw;refine A5 ?_;refine Cd ?_ ?_<;>intro hcQ
   ·have hmx:=qec a b i tJ hia hib;refine EE ?_;refine Cd ?_ ?_<;>intro hdQ
    ·have hja:i<nb a:=xM;have hcl:=zK a b i;have hax:=l9 (a/256^i);have hbx:=l9 (b/256^i);have hsl:=DV a b i;refine A4 ?_;refine Zu ?_;exact qhQ
    ·have hja:nb a<=i:=yX;have hcl:=zK a b i;have hax:=l9 (a/256^i);have hbx:=l9 (b/256^i);have hsl:=DV a b i;refine Zr ?_;exact qhQ
   ·have hab:=qhg a b i hia hib uC;have hnab:nb (a+b)<=i:=oh hab;refine A8 ?_;refine iD [_] [2] rfl rfl rfl (kY (row i (Fq (a+b))) (oG fun j=>BU _ j) qV (dD _ _) ⟨ob,oN,oc,h1⟩) ⟨pS,trivial⟩ rfl ?_;refine aP 52 (aB ob 0 (nb (a+b)) oc) rfl (by rw[NY _ _ hab];rfl) ?_;refine A4 ?_;refine aH rfl (ax rfl) (fun w hL=>⟨⟨ob,oN,oc,ae⟩,rfl,?_⟩);exact hL.picks [some 2] ⟨⟨_,rfl,rfl,rfl,rfl,⟨nb (a+b),Wq _ _ hab⟩,fun _=>rfl⟩,trivial⟩ rfl rfl
end Go.Proofs.YtaffcpfhedadhaaGreatDoor
namespace Go.Proofs.YtaffcpfhedadhaaGreatDoor
variable[Go.Via.Mo]
open Go Go.RowKit Go.Via
def yj(a b:Nat)(ha:nb a<=1073741000)(hle:b<=a)(x:SR (nb a))(y:SR (nb b)):bQ Tryz.prog 115 [⟨x.b,3,NV .i64 (D8 a),x.n,false⟩,⟨y.b,3,NV .i64 (D8 b),y.n,false⟩] [x.v,y.v] (SR (nb (a-b))) SR.v (fun x=>[⟨x.b,3,NV .i64 (D8 (a-b)),x.n,true⟩]):=by
 refine⟨ak,fun w hL0=>?_⟩;have hb:nb b<=1073741000:=Nat.le_trans (gu hle) ha;refine cB2 41 Tryz.func115 hL0 ?_;refine A22 ?_;refine El (ι:={x:Nat×Option Nat×Nat×Nat // x.1<=nb a∧x.1<=x.2.2.2∧x.2.2.2<=x.2.2.1}) (fun⟨⟨i,ob,oN,oc⟩,hi,h1,h2⟩=>([(0,x.v),(1,y.v),(5,aB ob 0 i oc),(6,bF (zL a b i)),(7,bF i)],[⟨x.b,3,NV .i64 (D8 a),x.n,false⟩,⟨y.b,3,NV .i64 (D8 b),y.n,false⟩,⟨ob,3,NV .i64 (row i (Fq (a-b))),oN,true⟩],nb a-i)) ⟨(0,none,0,0),Nat.zero_le _,Nat.le_refl _,Nat.le_refl _⟩ ?_ (ht:=⟨rfl,rfl,rfl,(aO rfl (by rw[qeb];rfl)),rfl,trivial⟩) (hL:=(ay [some 0,some 1,none] ⟨pR,pR,⟨rfl,rfl,rfl⟩,trivial⟩ rfl rfl));rintro⟨⟨i,ob,oN,oc⟩,hi,h1,h2⟩;(try dsimp only);replace hi:i<=nb a:=hi;replace h1:i<=oc:=h1;replace h2:oc<=oN:=h2;refine A9 ?_;refine Cd ?_ ?_<;>intro haQ
 ·have hlt:i<nb a:=iE;have haQ:=TR a b i;have hax:=l9 (a/256^i);have hbx:=l9 (b/256^i);have hdx:=l9 ((a-b)/256^i);refine A8 ?_;refine qcg ?_;refine A1 ?_;refine Ar ((((a/256^i%256:Nat):Int)-((zL a b i:Nat):Int))) ?_;refine oH ?_;refine Cd ?_ ?_<;>intro hbQ
  ·have hjb:i<nb b:=kN;refine A4 ?_;refine qhX ?_;refine Ar ((((a/256^i%256:Nat):Int)-((zL a b i:Nat):Int)-((b/256^i%256:Nat):Int))) ?_;refine II ?_;exact qhP
  ·have hjb:nb b<=i:=lw;refine eG 8 (.int .i64 ((a/256^i%256:Nat)-(zL a b i:Nat)-(b/256^i%256:Nat))) rfl (congrArg (Value.int .i64) (by rw[yU hjb];omega)) ?_;refine FH ?_;exact qhP
 ·have hge:i=nb a:=iV;subst hge;have hab:a-b<256^nb a:=Nat.lt_of_le_of_lt (Nat.sub_le _ _) (kw a);have hnab:nb (a-b)<=nb a:=gu (Nat.sub_le _ _);refine A8 ?_;refine iD [_] [2] rfl rfl rfl (kY (row (nb a) (Fq (a-b))) (oG fun j=>BU _ j) qV (dD _ _) ⟨ob,oN,oc,h1⟩) ⟨pS,trivial⟩ rfl ?_;refine aP 40 (aB ob 0 (nb (a-b)) oc) rfl (by rw[NY _ _ hab];rfl) ?_;refine A4 ?_;refine aH rfl (ax rfl) (fun w hL=>⟨⟨ob,oN,oc,ae⟩,rfl,?_⟩);exact hL.picks [some 2] ⟨⟨_,rfl,rfl,rfl,rfl,⟨nb (a-b),Wq _ _ hab⟩,fun _=>rfl⟩,trivial⟩ rfl rfl
end Go.Proofs.YtaffcpfhedadhaaGreatDoor
