/-
  Part 24 (chapter 32): lemmas, walks. Each theorem states its own conditions.
-/
import Derived.Test.YtaffcpfhedadhaaGreatDoorA20
import Derived.Test.YtaffcpfhedadhaaGreatDoorA23
set_option linter.all false
set_option maxRecDepth 20000
set_option maxHeartbeats 20000000
section
variable{P Q:Prop}{T:Type}{R:T->Prop}
def Xq(h:P:=by refine(Dv ((D6 (a+b) i:Nat):Int)) (by exact(congrArg some ((kz _ 256 rfl rfl).trans (by rw[qd9];rfl)))) ?_;refine(Bl 1 [(0,_)]) (pK) (fun g0=>?_);refine mW (s:=1) (len:=i) (n2:=1) 2 3 (fun r=>[_,_,⟨some r.g,3,NV .i64 (row (i+1) (D6 (a+b))),r.n,true⟩,⟨some g0,3,_,1,true⟩]) xP el3 rfl rfl rfl rfl rfl rfl rfl rfl rfl rfl rfl rfl Px ae LX rfl (Go.Via.one_cell _ _) ae (fun r=>congrArg (fun c=>[_,_,(⟨some r.g,3,c,r.n,true⟩:aJ),⟨some g0,3,_,1,true⟩]) (Fp _ _ _ _ (rfl))) (fun r=>?_);refine A5 ?_;refine(Dv ((yR a b (i+1):Nat):Int)) (by exact(congrArg some ((Ii _ 256 rfl rfl ae).trans (by rw[WL])))) ?_;refine A6 ?_;refine dP ?_;exact Nl ⟨(i+1,some r.g,r.n,r.cap),Nat.succ_le_succ hmx,r.h,LY⟩ (hμ:=(by show max (nb a) (nb b)+1-(i+1)<max (nb a) (nb b)+1-i;omega)) (hL:=dR.auto)):=h
def qkZ(h:P:=by refine(Bl 1 [(0,_)]) (pK) (fun g0=>?_);refine mW (s:=1) (len:=i) (n2:=1) 2 3 (fun r=>[_,_,⟨some r.g,3,NV .i64 (row (i+1) (D6 (a-b))),r.n,true⟩,⟨some g0,3,_,1,true⟩]) xP el3 rfl rfl rfl rfl rfl rfl rfl rfl rfl rfl rfl rfl Px ae LX rfl (Go.Via.one_cell _ _) ae (fun r=>congrArg (fun c=>[_,_,(⟨some r.g,3,c,r.n,true⟩:aJ),⟨some g0,3,_,1,true⟩]) (Fp _ _ _ _ (rfl))) (fun r=>?_);refine A6 ?_;refine dP ?_;exact Nl ⟨(i+1,some r.g,r.n,r.cap),hlt,r.h,LY⟩ (hμ:=(by show nb a-(i+1)<nb a-i;omega)) (ht:=⟨rfl,rfl,rfl,(aU rfl (by rw[hd2];rfl)),rfl,trivial⟩) (hL:=dR.auto)):=h
def qk0(h:P:=by refine Ar (((i+k:Nat):Int)) ?_;refine A1 ?_;refine(Dv ((D9 a b i k%256:Nat):Int)) (congrArg some (kz _ 256 rfl rfl)) ?_;refine A1 ?_;refine(Dv ((AB a b i (k+1):Nat):Int)) (by exact(congrArg some ((Ii _ 256 rfl rfl (by have:=qef a b i k;omega)).trans (by rw[Le])))) ?_;refine Ix 2 (i+k) ?_;refine(S1 2 (i+k) [_,_,⟨some g0,3,_,_,true⟩] (NV .i64 (row (nb a+nb b+1) (Lc a b i (k+1))))) pI (by exact(by rw[lK,jJ (fun j _=>qbu a b i k j)])) ?_;refine A6 ?_;refine jl ?_;exact Nl ⟨k+1,Nat.succ_le_succ hkm⟩ (hμ:=(by show nb b+1-(k+1)<nb b+1-k;omega))):=h
def Py(q:Q)(h:bu Q->P:=by intro q_;refine A4 ?_;refine aI 1 (i) xP C9 rfl rfl rfl rfl rfl ae ae (CZ yX) FW ?_;refine(Lo 1 (i)) AY ?_;refine(Aq ((Ux a b i:Nat):Int)) (by exact(congrArg some (wi ae ae (by rw[QJ];omega)))) ?_;refine A7 ?_;exact q_.qq):=h ⟨q⟩
def Pz(q:Q)(h:bu Q->P:=by intro q_;refine aI 0 (i) xP C9 rfl rfl rfl rfl rfl ae ae (CZ yX) FW ?_;refine(Lo 0 (i)) AY ?_;exact q_.qq):=h ⟨q⟩
def U9(q:Q)(h:bu Q->P:=by intro q_;refine aI 0 (q) xP C9 rfl rfl rfl rfl rfl ae ae (CZ yX) FW ?_;refine(Lo 0 (q)) AY ?_;exact q_.qq):=h ⟨q⟩
def qk1(h:P:=by have hcl:=BZ a b i k;have hvx:=mD (sS a b i/256^(i+k));have hdm:=UA (a/256^i) (b/256^k);have hax:=mD (a/256^i);have hbx:=mD (b/256^k);refine Di [] ?_;refine A3 ?_;refine Pz ?_;refine A2 ?_;refine aI 1 (k) xP C9 rfl rfl rfl rfl rfl ae ae (CZ yX) FW ?_;refine(Lo 1 (k)) AY ?_;refine(Aq ((a/256^i%256*(b/256^k%256):Nat):Int)) (by exact(congrArg some (wi (by rw[<-Int.natCast_mul];omega) (by rw[<-Int.natCast_mul];omega) (Int.natCast_mul _ _).symm))) ?_;refine(Aq ((D9 a b i k:Nat):Int)) (by exact(congrArg some (wi ae ae (by unfold D9;omega)))) ?_;refine A7 ?_;exact qk0):=h
def PD(h:P:=by refine dC 6 (bG (Ux a b i)) rfl (by rw[QJ,xZ hjb];rfl) ?_;refine A6 ?_;exact Xq):=h
def qe6(h:P:=by
 refine Cd ?_ ?_<;>intro hcQ
 ·obtain⟨hd1,hd2⟩:=qiI (m:=a) (n:=b) (i:=i) hle qE;refine A2 ?_;refine Ar ((((a-b)/256^i%256:Nat):Int)) ?_;refine A7 ?_;exact qkZ
 ·obtain⟨hd1,hd2⟩:=qiJ (m:=a) (n:=b) (i:=i) hle sD;refine dC 8 (bG ((a-b)/256^i%256)) rfl (congrArg (Value.int .i64) ae) ?_;refine A5 ?_;exact qkZ):=h
def qe7(h:P:=by
 have hcl:=BZ a b i k;have hvx:=mD (sS a b i/256^(i+k));have hdm:=UA (a/256^i) (b/256^k);have hax:=mD (a/256^i);have hbx:=mD (b/256^k);refine dC 9 (bG (D9 a b i k)) rfl (congrArg (Value.int .i64) (by unfold D9;rw[xZ hkj];omega)) ?_;have hS:D9 a b i k<131072:=by rw[G5 a b i hkj];omega
 refine A6 ?_;exact qk0):=h
def yX(h:P:=by rw[jQ];omega):=h
def AY(h:P:=by exact(fP (qmN fK))):=h
def LX(h:P:=by show oc*1<=oN;omega):=h
def LY(h:P:=by have:=r.hn;show r.cap<=r.n;omega):=h
def qe8(h:P:=by rw[List.take_of_length_le (by rw[ik,dw];exact Nat.le_refl _),qd0]):=h
def Xt(h:P:=by rw[xZ hja];rfl):=h
def qe9(h:P:=by exact(fP ((fU fK).trans (by rw[qiL])))):=h
end
namespace Go.Proofs.YtaffcpfhedadhaaGreatDoor
variable[Go.Via.Mo]
open Go Go.RowKit Go.Via
def jU(l:List Nat)(hl:∀d∈l,d<256)(hn:l.length<=1073741824){len:Nat}(hlen:l.length=len)(x:SR len):bZ Tryz.prog 121 [⟨x.b,3,NV .i64 l,x.n,false⟩] [x.v] Unit (fun _=>ay x.b 0 (ah 256 (val 256 l)).length x.cap) (fun _=>[]):=by
 refine⟨ak,fun w hL0=>?_⟩;subst hlen;refine cB1 21 Tryz.func121 hL0 ?_;refine Ew ?_;refine El (ι:={m:Nat // m<=l.length∧val 256 (l.take m)=val 256 l}) (fun⟨m,hm,hv⟩=>([(0,x.v),(3,bG m)],[⟨x.b,3,NV .i64 l,x.n,false⟩],m)) ⟨l.length,Nat.le_refl _,qkW⟩ ?_;rintro⟨m,hm,hv⟩;(try dsimp only);refine A6 ?_;refine Rs 8 ?_ ?_<;>intro haQ
 ·have h0:0<m:=iL;refine A2 ?_;refine Ar (((m-1:Nat):Int)) ?_;refine Ix 0 (m-1) ?_;refine(Lo 0 (m-1)) (by exact(fP (l:=l) (List.getElem?_eq_getElem ae))) ?_;refine A4 ?_;refine Cd ?_ ?_<;>intro hbQ
  ·have hz:l[m-1]=0:=qeZ;refine A5 ?_;refine Ar (((m-1:Nat):Int)) ?_;refine A4 ?_;exact Nl ⟨m-1,ae,KE h0 hm hv ae hz⟩
  ·have hz:l[m-1]≠0:=(by have:=ne_of_beq_false hbQ;omega);refine A9 ?_;refine xM m xP C9 rfl rfl rfl rfl ae (by have:=x.h;omega) ae ?_;refine A4 ?_;refine aK rfl (au rfl) (fun w hL=>⟨(),?_,hL.pk []⟩);rw[E5 (B:=256) ax hl hm hv (.inr ⟨ae,hz⟩)]
 ·have h0:m=0:=jc;refine A19 ?_;refine xM m xP C9 rfl rfl rfl rfl ae (by have:=x.h;omega) ae ?_;refine A4 ?_;refine aK rfl (au rfl) (fun w hL=>⟨(),?_,hL.pk []⟩);rw[E5 (B:=256) ax hl hm hv (.inl h0)]
def eP(a b:Nat)(ha:nb a<=1073741824)(x:SR (nb a))(y:SR (nb b)):bZ Tryz.prog 114 [⟨x.b,3,NV .i64 (D8 a),x.n,false⟩,⟨y.b,3,NV .i64 (D8 b),y.n,false⟩] [x.v,y.v] Unit (fun _=> .int .i64 (mV a b)) (fun _=>[]):=by
 refine sB2 41 Tryz.func114 fun w hL0=>?_;refine D7 ?_;refine Cd ?_ ?_<;>intro haQ
 ·have hl:nb a≠nb b:=by have:=bne_iff_ne.1 haQ;omega
  refine lD ?_;refine Cd ?_ ?_<;>intro hbQ
  ·have h1:nb a<nb b:=nG;refine A8 ?_;refine aK rfl (au rfl) (fun w hL=>⟨(),?_,hL.pk []⟩);rw[WB h1]
  ·have h1:nb b<nb a:=nH;refine A9 ?_;refine aK rfl (au rfl) (fun w hL=>⟨(),?_,hL.pk []⟩);rw[WC h1]
 ·have hl:nb a=nb b:=by have:=TQ haQ;omega
  refine A7 ?_;refine Ar (((nb a:Nat):Int)-1) ?_;refine A4 ?_;refine El (ι:={p:Nat // p<=nb a∧a/256^p=b/256^p}) (fun⟨p,hp,he⟩=>([(0,x.v),(1,y.v),(5,.int .i64 ((p:Nat)-1))],[⟨x.b,3,NV .i64 (D8 a),x.n,false⟩,⟨y.b,3,NV .i64 (D8 b),y.n,false⟩],p)) ⟨nb a,Nat.le_refl _,qiz hl⟩ ?_;rintro⟨p,hp,he⟩;(try dsimp only);refine A7 ?_;refine Cd ?_ ?_<;>intro hbQ
  ·obtain⟨q,rfl⟩:∃q,p=q+1:=⟨p-1,nG⟩;refine dC 5 (bG q) rfl (congrArg (Value.int .i64) ae) ?_;refine A6 ?_;refine Di [] ?_;refine A2 ?_;refine U9 ?_;refine A2 ?_;refine aI 1 (q) xP C9 rfl rfl rfl rfl rfl ae ae (CZ yX) FW ?_;refine(Lo 1 (q)) AY ?_;refine A3 ?_;refine Cd ?_ ?_<;>intro hcQ
   ·have h1:a/256^q%256<b/256^q%256:=qE;refine nT ?_;refine aK rfl (au rfl) (fun w hL=>⟨(),?_,hL.pk []⟩);rw[WE he h1]
   ·have h1:¬a/256^q%256<b/256^q%256:=sD;refine A3 ?_;refine Di [] ?_;refine A2 ?_;refine U9 ?_;refine A2 ?_;refine aI 1 (q) xP C9 rfl rfl rfl rfl rfl ae ae (CZ yX) FW ?_;refine(Lo 1 (q)) AY ?_;refine A3 ?_;refine Cd ?_ ?_<;>intro hdQ
    ·have h2:b/256^q%256<a/256^q%256:=uV;refine oJ ?_;refine aK rfl (au rfl) (fun w hL=>⟨(),?_,hL.pk []⟩);rw[WF he h2]
    ·have h2:¬b/256^q%256<a/256^q%256:=pX;refine A5 ?_;refine Ar (((q:Nat):Int)-1) ?_;refine A3 ?_;exact Nl ⟨q,ae,WG he h1 h2⟩
  ·have hp0:p=0:=nH
   subst hp0;refine oJ ?_;refine aK rfl (au rfl) (fun w hL=>⟨(),?_,hL.pk []⟩);rw[qiA he]
def Dt(n:Nat)(hn:nb n<=1073741824)(x:SR (nb n)):bZ Tryz.prog 163 [⟨x.b,3,NV .i64 (D8 n),x.n,false⟩] [x.v] Unit (fun _=> .tuple #[.int .i64 (if nb n<=7 then(n:Int) else 0),.bool (decide (nb n<=7))]) (fun _=>[]):=by
 refine O3 24 Tryz.func163 fun w hL0=>?_;refine Ew ?_;refine Cd ?_ ?_<;>intro haQ
 ·have h8:¬nb n<=7:=iL;refine A8 ?_;refine bM rfl (au rfl) (au rfl) (fun w hL=>⟨(),?_,hL.pk []⟩);rw[if_neg h8,decide_eq_false h8]
 ·have h8:nb n<=7:=jc;refine nT ?_;refine Ar (((nb n:Nat):Int)-1) ?_;refine A4 ?_;refine El (ι:={p:Nat // p<=nb n}) (fun⟨p,hp⟩=>([(0,x.v),(4,bG (n/256^p)),(5,.int .i64 ((p:Nat)-1))],[⟨x.b,3,NV .i64 (D8 n),x.n,false⟩],p)) ⟨nb n,Nat.le_refl _⟩ ?_ (ht:=⟨rfl,(aU rfl (by rw[Nat.div_eq_of_lt (kH n)];rfl)),rfl,trivial⟩);rintro⟨p,hp⟩;(try dsimp only);refine A7 ?_;refine Cd ?_ ?_<;>intro hbQ
  ·obtain⟨q,rfl⟩:∃q,p=q+1:=⟨p-1,nG⟩;refine dC 5 (bG q) rfl (congrArg (Value.int .i64) ae) ?_;have hs1:=qdZ (q:=q) h8;have hs2:=wH n q;refine A6 ?_;refine Ar (((n/256^(q+1)*256:Nat):Int)) ?_;refine A2 ?_;refine U9 ?_;refine Ar (((n/256^q:Nat):Int)) ?_;refine A6 ?_;refine Ar (((q:Nat):Int)-1) ?_;refine A3 ?_;exact Nl ⟨q,ae⟩
  ·have hp0:p=0:=nH
   subst hp0;refine Gw ?_;refine bM rfl (au rfl) (au rfl) (fun w hL=>⟨(),?_,hL.pk []⟩);rw[if_pos h8,decide_eq_true h8];simp
def Du(n:Nat)(hn:n<=9223372036854775807:=by omega):bZ Tryz.prog 164 [] [bG n] (SR (nb n)) SR.v (fun x=>[⟨x.b,3,NV .i64 (D8 n),x.n,true⟩]):=by
 refine⟨ak,fun w hL0=>?_⟩;have hnb:nb n<=8:=nV ae;refine cB1 14 Tryz.func164 hL0 ?_;refine nT ?_;refine El (ι:={x:Nat×Option Nat×Nat×Nat // x.1<=nb n∧x.1<=x.2.2.2∧x.2.2.2<=x.2.2.1}) (fun⟨⟨i,ob,oN,oc⟩,hi,h1,h2⟩=>([(0,bG (n/256^i)),(3,ay ob 0 i oc)],[⟨ob,3,NV .i64 (row i (D6 n)),oN,true⟩],nb n-i)) ⟨(0,none,0,0),Nat.zero_le _,Nat.le_refl _,Nat.le_refl _⟩ ?_ (ht:=⟨(aU rfl (by rw[Nat.pow_zero,Nat.div_one])),rfl,trivial⟩) (hL:=(aA [none] ⟨⟨rfl,rfl,rfl⟩,trivial⟩ rfl rfl));rintro⟨⟨i,ob,oN,oc⟩,hi,h1,h2⟩;(try dsimp only);replace hi:i<=nb n:=hi;replace h1:i<=oc:=h1;replace h2:oc<=oN:=h2;refine A7 ?_;refine Cd ?_ ?_<;>intro haQ
 ·have hgt:0<n/256^i:=iL
  have hlt:=OV hgt;have hle:n/256^i<=n:=Nat.div_le_self _ _;refine A7 ?_;refine(Dv ((D6 n i:Nat):Int)) (congrArg some (kz _ 256 rfl rfl)) ?_;refine(Bl 1 [(0,_)]) (pK) (fun g0=>?_);refine mW (s:=1) (len:=i) (n2:=1) 0 1 (fun r=>[⟨some r.g,3,NV .i64 (row (i+1) (D6 n)),r.n,true⟩,⟨some g0,3,_,1,true⟩]) xP el3 rfl rfl rfl rfl rfl rfl rfl rfl rfl rfl rfl rfl Px ae LX rfl (Go.Via.one_cell _ _) ae (fun r=>congrArg (fun c=>[(⟨some r.g,3,c,r.n,true⟩:aJ),⟨some g0,3,_,1,true⟩]) (Fp _ _ _ _ (rfl))) (fun r=>?_);refine A5 ?_;refine(Dv ((n/256^(i+1):Nat):Int)) (by exact(congrArg some ((Ii _ 256 rfl rfl ae).trans (by rw[WH])))) ?_;refine A4 ?_;exact Nl ⟨(i+1,some r.g,r.n,r.cap),hlt,r.h,LY⟩ (hμ:=(by show nb n-(i+1)<nb n-i;omega)) (hL:=dR.auto)
 ·have hge:=OW (n:=n) (i:=i) (by have:=of_decide_eq_false haQ;have:=Nat.zero_le (n/256^i);omega) hi;subst hge;refine nT ?_;refine aK rfl (au rfl) (fun w hL=>⟨⟨ob,oN,oc,h1⟩,rfl,?_⟩);rw[KP] at hL;exact hL
def nJ(z:Int)(hz:jD z<=1073741824:=by omega):bZ Tryz.prog 116 [] [I z] (SR (nb z.natAbs)) SR.v (fun x=>[⟨x.b,3,NV .i64 (D8 z.natAbs),x.n,true⟩]):=by
 refine⟨ak,fun w hL0=>?_⟩;have hz:nb z.natAbs<=1073741824:=hz;refine cB1 23 Tryz.func116 hL0 ?_;refine nD fun g0=>?_;refine Ew ?_;refine aF 7 (bG (nb z.natAbs)) rfl FV ?_;refine Ar (((nb z.natAbs:Nat):Int)-1) ?_;refine A4 ?_;refine El (ι:={x:Nat×Option Nat×Nat×Nat // x.1<=nb z.natAbs∧x.1<=x.2.2.2∧x.2.2.2<=x.2.2.1}) (fun⟨⟨k,ob,oN,oc⟩,hk,h1,h2⟩=>([(1,dJ g0),(3,ay ob 0 k oc),(4,.int .i64 ((nb z.natAbs-k:Nat)-1))],[⟨some g0,34,[.bool (decide (z<0)),.string (bP z.natAbs)],2,true⟩,⟨ob,3,NV .i64 (row k (D6 z.natAbs)),oN,true⟩],nb z.natAbs-k)) ⟨(0,none,0,0),Nat.zero_le _,Nat.le_refl _,Nat.le_refl _⟩ ?_ (hL:=(aA [some 0,none] ⟨pR,⟨rfl,rfl,rfl⟩,trivial⟩ rfl rfl));rintro⟨⟨k,ob,oN,oc⟩,hk,h1,h2⟩;(try dsimp only);replace hk:k<=nb z.natAbs:=hk;replace h1:k<=oc:=h1;replace h2:oc<=oN:=h2;refine A7 ?_;refine Cd ?_ ?_<;>intro haQ
 ·have hlt:k<nb z.natAbs:=iL
  refine dC 4 (bG (nb z.natAbs-1-k)) rfl (congrArg (Value.int .i64) ae) ?_;refine A9 ?_;refine Ac (b:=UInt8.ofNat (z.natAbs/256^k%256)) (r:=((z.natAbs/256^k%256:Nat):Int)) u9 rfl rfl rfl rfl ae (YR z.natAbs k hlt) (Qy _) ?_;refine(Cv ((D6 z.natAbs k:Nat):Int) u5 u3) (by exact(wi (by have:=Au z.natAbs k;omega) (by have:=Au z.natAbs k;omega) rfl)) ?_;refine(Bl 1 [(0,_)]) (pK) (fun g1=>?_);refine mW (s:=1) (len:=k) (n2:=1) 1 2 (fun r=>[_,⟨some r.g,3,NV .i64 (row (k+1) (D6 z.natAbs)),r.n,true⟩,⟨some g1,3,_,1,true⟩]) xP el3 rfl rfl rfl rfl rfl rfl rfl rfl rfl rfl rfl rfl Px ae LX rfl (Go.Via.one_cell _ _) ae (fun r=>congrArg (fun c=>[_,(⟨some r.g,3,c,r.n,true⟩:aJ),⟨some g1,3,_,1,true⟩]) (Fp _ _ _ _ (rfl))) (fun r=>?_);refine A6 ?_;refine Ar (((nb z.natAbs-(k+1):Nat):Int)-1) ?_;refine A3 ?_;exact Nl ⟨(k+1,some r.g,r.n,r.cap),hlt,r.h,LY⟩ (hμ:=(by show nb z.natAbs-(k+1)<nb z.natAbs-k;omega)) (hL:=dR.auto)
 ·have hge:k=nb z.natAbs:=jc
  subst hge;refine A8 ?_;refine gq [_] [1] rfl rfl rfl (jU (row (nb z.natAbs) (D6 z.natAbs)) (lh fun j=>Au _ j) oH (dw _ _) ⟨ob,oN,oc,h1⟩) ⟨pS,trivial⟩ rfl ?_;refine aF 22 (ay ob 0 (nb z.natAbs) oc) rfl (by rw[Um]) ?_;refine A4 ?_;refine aK rfl (au rfl) (fun w hL=>⟨⟨ob,oN,oc,h1⟩,rfl,?_⟩);rw[KP] at hL;exact hL.pk [some 1]
def oM(n:Nat)(neg:Bool)(hn:nb n<=1073741824)(x:SR (nb n)):bZ Tryz.prog 117 [⟨x.b,3,NV .i64 (D8 n),x.n,false⟩] [x.v,.bool neg] Unit (fun _=>I (if neg=true then-(n:Int) else(n:Int))) (fun _=>[]):=by
 refine sB2 39 Tryz.func117 fun w hL0=>?_;refine A2 ?_;refine Al 2 xO (fun g0=>?_);refine A5 ?_;refine(Sd [0]) (jU (D8 n) (qkB n) yX (jQ n) x) ?_;refine aF 8 (ay x.b 0 (nb n) x.cap) rfl (by rw[Il]) ?_;refine A7 ?_;refine fE (c:=nb n) (NV .u8 (row (nb n) (wS n (nb n) 0))) (fun g=>[_,_,⟨some g,5,_,_,true⟩]) V7 el5 rfl rfl rfl rfl rfl rfl ae (by rw[cu (g:=fun _=>0) (fun j _=>OC n _ j),oI,iF]) (fun _=>rfl) (fun g1=>?_);refine lD ?_;refine El (ι:={i:Nat // i<=nb n}) (fun⟨i,hi⟩=>([(0,ay x.b 0 (nb n) x.cap),(1,.bool neg),(4,dJ g0),(5,ay (some g1) 0 (nb n) (nb n)),(6,bG i)],[⟨x.b,3,NV .i64 (D8 n),x.n,false⟩,⟨some g0,34,[aZ,bf],2,true⟩,⟨some g1,5,NV .u8 (row (nb n) (wS n (nb n) i)),nb n,true⟩],nb n-i)) ⟨0,Nat.zero_le _⟩ ?_;rintro⟨i,hi⟩;(try dsimp only);refine A9 ?_;refine Cd ?_ ?_<;>intro haQ
 ·have hlt:i<nb n:=iL;refine A8 ?_;refine Ar (((nb n-1:Nat):Int)) ?_;refine A1 ?_;refine Ar (((nb n-1-i:Nat):Int)) ?_;refine A2 ?_;refine Pz ?_;refine(Cv ((n/256^i%256:Nat):Int) u3 u5) (by exact((c8 _ rfl).trans (by rw[Nat.mod_mod]))) ?_;refine Ix 2 (nb n-1-i) ?_;refine(S1 2 (nb n-1-i) [_,_,⟨some g1,5,_,_,true⟩] (NV .u8 (row (nb n) (wS n (nb n) (i+1))))) pI (OD n (nb n) i _ hlt rfl) ?_;refine A5 ?_;refine dP ?_;exact Nl ⟨i+1,hlt⟩
 ·have hge:i=nb n:=jc;subst hge;refine A9 ?_;refine Rs 31 ?_ ?_<;>intro hbQ
  ·refine A5 ?_;refine Ad 2 V7 u5 u9 rfl rfl rfl rfl rfl qe8 qeY (Ky n) ?_;refine(Bu [(0,_),(1,_)]) (Qr) ?_;refine Ss 1 ?_;refine A3 ?_;refine Ec2 1 fun w hL=>⟨(),?_,hL.pk []⟩;exact congrArg Ending.returned (qiC n hbQ)
  ·refine A5 ?_;refine Ad 2 V7 u5 u9 rfl rfl rfl rfl rfl qe8 qeY (Ky n) ?_;refine(Bu [(0,_),(1,_)]) (Qr) ?_;refine Ss 1 ?_;refine A3 ?_;refine Ec2 1 fun w hL=>⟨(),?_,hL.pk []⟩;exact congrArg Ending.returned (qiD n hbQ)
end Go.Proofs.YtaffcpfhedadhaaGreatDoor
namespace Go.Proofs.YtaffcpfhedadhaaGreatDoor
variable[Go.Via.Mo]
open Go Go.RowKit Go.Via
def lm(a b:Nat)(ha:nb a<=1073741000)(hb:nb b<=1073741000)(x:SR (nb a))(y:SR (nb b)):bZ Tryz.prog 113 [⟨x.b,3,NV .i64 (D8 a),x.n,false⟩,⟨y.b,3,NV .i64 (D8 b),y.n,false⟩] [x.v,y.v] (SR (nb (a+b))) SR.v (fun x=>[⟨x.b,3,NV .i64 (D8 (a+b)),x.n,true⟩]):=by
 refine sB2 53 Tryz.func113 fun w hL0=>?_;refine A22 ?_;refine El (ι:={x:Nat×Option Nat×Nat×Nat // x.1<=max (nb a) (nb b)+1∧x.1<=x.2.2.2∧x.2.2.2<=x.2.2.1}) (fun⟨⟨i,ob,oN,oc⟩,hi,h1,h2⟩=>([(0,x.v),(1,y.v),(5,ay ob 0 i oc),(6,bG (yR a b i)),(7,bG i)],[⟨x.b,3,NV .i64 (D8 a),x.n,false⟩,⟨y.b,3,NV .i64 (D8 b),y.n,false⟩,⟨ob,3,NV .i64 (row i (D6 (a+b))),oN,true⟩],max (nb a) (nb b)+1-i)) ⟨(0,none,0,0),Nat.zero_le _,Nat.le_refl _,Nat.le_refl _⟩ ?_ (ht:=⟨rfl,rfl,rfl,(aU rfl (by rw[qbq];rfl)),rfl,trivial⟩) (hL:=(aA [some 0,some 1,none] ⟨pR,pR,⟨rfl,rfl,rfl⟩,trivial⟩ rfl rfl));rintro⟨⟨i,ob,oN,oc⟩,hi,h1,h2⟩;(try dsimp only);replace hi:i<=max (nb a) (nb b)+1:=hi;replace h1:i<=oc:=h1;replace h2:oc<=oN:=h2;refine A8 ?_;refine Rs 12 ?_ ?_<;>intro haQ
 ·have hia:i<nb a:=iL;have hmx:i<=max (nb a) (nb b):=ae
  refine A25 ?_;refine Cd ?_ ?_<;>intro hbQ
  ·have hja:i<nb a:=nG;have hcl:=yS a b i;have hax:=mD (a/256^i);have hbx:=mD (b/256^i);have hsl:=BX a b i;refine A4 ?_;refine Pz ?_;refine Ar (((yR a b i+a/256^i%256:Nat):Int)) ?_;refine nT ?_;refine Cd ?_ ?_<;>intro hcQ
   ·have hjb:i<nb b:=qE;refine Py ?_;exact Xq
   ·have hjb:nb b<=i:=sD;exact PD
  ·have hja:nb a<=i:=nH;have hcl:=yS a b i;have hax:=mD (a/256^i);have hbx:=mD (b/256^i);have hsl:=BX a b i;refine dC 6 (bG (yR a b i+a/256^i%256)) rfl Xt ?_;refine oJ ?_;refine Cd ?_ ?_<;>intro hcQ
   ·have hjb:i<nb b:=qE;refine Py ?_;exact Xq
   ·have hjb:nb b<=i:=sD;exact PD
 ·have hia:nb a<=i:=jc;refine A6 ?_;refine Rs 18 ?_ ?_<;>intro hbQ
  ·have hib:i<nb b:=nG;have hmx:i<=max (nb a) (nb b):=ae
   refine A19 ?_;refine Cd ?_ ?_<;>intro hcQ
   ·have hja:i<nb a:=qE;have hcl:=yS a b i;have hax:=mD (a/256^i);have hbx:=mD (b/256^i);have hsl:=BX a b i;refine A4 ?_;refine Pz ?_;refine Ar (((yR a b i+a/256^i%256:Nat):Int)) ?_;refine nT ?_;refine Cd ?_ ?_<;>intro hdQ
    ·have hjb:i<nb b:=uV;refine Py ?_;exact Xq
    ·have hjb:nb b<=i:=pX;exact PD
   ·have hja:nb a<=i:=sD;have hcl:=yS a b i;have hax:=mD (a/256^i);have hbx:=mD (b/256^i);have hsl:=BX a b i;refine dC 6 (bG (yR a b i+a/256^i%256)) rfl Xt ?_;refine oJ ?_;refine Cd ?_ ?_<;>intro hdQ
    ·have hjb:i<nb b:=uV;refine Py ?_;exact Xq
    ·have hjb:nb b<=i:=pX;exact PD
  ·have hib:nb b<=i:=nH;refine A5 ?_;refine Cd ?_ ?_<;>intro hcQ
   ·have hmx:=qbs a b i qE hia hib;refine Gw ?_;refine Cd ?_ ?_<;>intro hdQ
    ·have hja:i<nb a:=uV;have hcl:=yS a b i;have hax:=mD (a/256^i);have hbx:=mD (b/256^i);have hsl:=BX a b i;refine A4 ?_;refine Pz ?_;refine Ar (((yR a b i+a/256^i%256:Nat):Int)) ?_;refine nT ?_;refine Cd ?_ ?_<;>intro heQ
     ·have hjb:i<nb b:=LQ;refine Py ?_;exact Xq
     ·have hjb:nb b<=i:=Eg;exact PD
    ·have hja:nb a<=i:=pX;have hcl:=yS a b i;have hax:=mD (a/256^i);have hbx:=mD (b/256^i);have hsl:=BX a b i;refine dC 6 (bG (yR a b i+a/256^i%256)) rfl Xt ?_;refine oJ ?_;refine Cd ?_ ?_<;>intro heQ
     ·have hjb:i<nb b:=LQ;refine Py ?_;exact Xq
     ·have hjb:nb b<=i:=Eg;exact PD
   ·have hab:=qea a b i hia hib sD;have hnab:nb (a+b)<=i:=nV hab;refine A8 ?_;refine gq [_] [2] rfl rfl rfl (jU (row i (D6 (a+b))) (lh fun j=>Au _ j) oH (dw _ _) ⟨ob,oN,oc,h1⟩) ⟨pS,trivial⟩ rfl ?_;refine aF 52 (ay ob 0 (nb (a+b)) oc) rfl (by rw[La _ _ hab];rfl) ?_;refine A4 ?_;refine aK rfl (au rfl) (fun w hL=>⟨⟨ob,oN,oc,ae⟩,rfl,?_⟩);exact hL.picks [some 2] ⟨⟨_,rfl,rfl,rfl,rfl,⟨nb (a+b),Uy _ _ hab⟩,fun _=>rfl⟩,trivial⟩ rfl rfl
end Go.Proofs.YtaffcpfhedadhaaGreatDoor
namespace Go.Proofs.YtaffcpfhedadhaaGreatDoor
variable[Go.Via.Mo]
open Go Go.RowKit Go.Via
def xe(a b:Nat)(ha:nb a<=1073741000)(hle:b<=a)(x:SR (nb a))(y:SR (nb b)):bZ Tryz.prog 115 [⟨x.b,3,NV .i64 (D8 a),x.n,false⟩,⟨y.b,3,NV .i64 (D8 b),y.n,false⟩] [x.v,y.v] (SR (nb (a-b))) SR.v (fun x=>[⟨x.b,3,NV .i64 (D8 (a-b)),x.n,true⟩]):=by
 refine⟨ak,fun w hL0=>?_⟩;have hb:nb b<=1073741000:=Nat.le_trans (gK hle) ha;refine cB2 41 Tryz.func115 hL0 ?_;refine A22 ?_;refine El (ι:={x:Nat×Option Nat×Nat×Nat // x.1<=nb a∧x.1<=x.2.2.2∧x.2.2.2<=x.2.2.1}) (fun⟨⟨i,ob,oN,oc⟩,hi,h1,h2⟩=>([(0,x.v),(1,y.v),(5,ay ob 0 i oc),(6,bG (yT a b i)),(7,bG i)],[⟨x.b,3,NV .i64 (D8 a),x.n,false⟩,⟨y.b,3,NV .i64 (D8 b),y.n,false⟩,⟨ob,3,NV .i64 (row i (D6 (a-b))),oN,true⟩],nb a-i)) ⟨(0,none,0,0),Nat.zero_le _,Nat.le_refl _,Nat.le_refl _⟩ ?_ (ht:=⟨rfl,rfl,rfl,(aU rfl (by rw[qbr];rfl)),rfl,trivial⟩) (hL:=(aA [some 0,some 1,none] ⟨pR,pR,⟨rfl,rfl,rfl⟩,trivial⟩ rfl rfl));rintro⟨⟨i,ob,oN,oc⟩,hi,h1,h2⟩;(try dsimp only);replace hi:i<=nb a:=hi;replace h1:i<=oc:=h1;replace h2:oc<=oN:=h2;refine A9 ?_;refine Cd ?_ ?_<;>intro haQ
 ·have hlt:i<nb a:=iL;have haQ:=QK a b i;have hax:=mD (a/256^i);have hbx:=mD (b/256^i);have hdx:=mD ((a-b)/256^i);refine A8 ?_;refine Pz ?_;refine A1 ?_;refine Ar ((((a/256^i%256:Nat):Int)-((yT a b i:Nat):Int))) ?_;refine nT ?_;refine Cd ?_ ?_<;>intro hbQ
  ·have hjb:i<nb b:=nG;refine A4 ?_;refine aI 1 (i) xP C9 rfl rfl rfl rfl rfl ae ae (CZ yX) FW ?_;refine(Lo 1 (i)) AY ?_;refine Ar ((((a/256^i%256:Nat):Int)-((yT a b i:Nat):Int)-((b/256^i%256:Nat):Int))) ?_;refine D7 ?_;exact qe6
  ·have hjb:nb b<=i:=nH;refine dC 8 (.int .i64 ((a/256^i%256:Nat)-(yT a b i:Nat)-(b/256^i%256:Nat))) rfl (congrArg (Value.int .i64) (by rw[xZ hjb];omega)) ?_;refine Ew ?_;exact qe6
 ·have hge:i=nb a:=jc;subst hge;have hab:a-b<256^nb a:=Nat.lt_of_le_of_lt (Nat.sub_le _ _) (kH a);have hnab:nb (a-b)<=nb a:=gK (Nat.sub_le _ _);refine A8 ?_;refine gq [_] [2] rfl rfl rfl (jU (row (nb a) (D6 (a-b))) (lh fun j=>Au _ j) oH (dw _ _) ⟨ob,oN,oc,h1⟩) ⟨pS,trivial⟩ rfl ?_;refine aF 40 (ay ob 0 (nb (a-b)) oc) rfl (by rw[La _ _ hab];rfl) ?_;refine A4 ?_;refine aK rfl (au rfl) (fun w hL=>⟨⟨ob,oN,oc,ae⟩,rfl,?_⟩);exact hL.picks [some 2] ⟨⟨_,rfl,rfl,rfl,rfl,⟨nb (a-b),Uy _ _ hab⟩,fun _=>rfl⟩,trivial⟩ rfl rfl
end Go.Proofs.YtaffcpfhedadhaaGreatDoor
namespace Go.Proofs.YtaffcpfhedadhaaGreatDoor
variable[Go.Via.Mo]
open Go Go.RowKit Go.Via
def jv(a b:Nat)(ha:nb a<=500000000)(hb:nb b<=500000000)(x:SR (nb a))(y:SR (nb b)):bZ Tryz.prog 71 [⟨x.b,3,NV .i64 (D8 a),x.n,false⟩,⟨y.b,3,NV .i64 (D8 b),y.n,false⟩] [x.v,y.v] (SR (nb (a*b))) SR.v (fun x=>[⟨x.b,3,NV .i64 (D8 (a*b)),x.n,true⟩]):=by
 refine sB2 67 Tryz.func71 fun w hL0=>?_;refine oJ ?_;refine Ar (((nb a+nb b:Nat):Int)) ?_;refine Ar ((((nb a+nb b+1):Nat):Int)) ?_;refine fE (c:=(nb a+nb b+1)) (NV .i64 (row (nb a+nb b+1) (Ea a b 0))) (fun g=>[_,_,⟨some g,3,_,_,true⟩]) xP el3 rfl rfl rfl rfl rfl rfl ae (by rw[cu (g:=fun _=>0) (fun j _=>qbw a b j),oI,iF]) (fun _=>rfl) (fun g0=>?_);refine lD ?_;refine El (ι:={i:Nat // i<=nb a}) (fun⟨i,hi⟩=>([(0,x.v),(1,y.v),(5,ay (some g0) 0 (nb a+nb b+1) (nb a+nb b+1)),(6,bG i)],[⟨x.b,3,NV .i64 (D8 a),x.n,false⟩,⟨y.b,3,NV .i64 (D8 b),y.n,false⟩,⟨some g0,3,NV .i64 (row (nb a+nb b+1) (Ea a b i)),(nb a+nb b+1),true⟩],nb a-i)) ⟨0,Nat.zero_le _⟩ ?_;rintro⟨i,hi⟩;(try dsimp only);refine A9 ?_;refine Cd ?_ ?_<;>intro haQ
 ·have hlt:i<nb a:=iL;refine D7 ?_;refine El (ι:={k:Nat // k<=nb b+1}) (fun⟨k,hk⟩=>([(0,x.v),(1,y.v),(5,ay (some g0) 0 (nb a+nb b+1) (nb a+nb b+1)),(6,bG i),(7,bG (AB a b i k)),(8,bG k)],[⟨x.b,3,NV .i64 (D8 a),x.n,false⟩,⟨y.b,3,NV .i64 (D8 b),y.n,false⟩,⟨some g0,3,NV .i64 (row (nb a+nb b+1) (Lc a b i k)),(nb a+nb b+1),true⟩],nb b+1-k)) ⟨0,Nat.zero_le _⟩ ?_ (ht:=⟨rfl,rfl,rfl,rfl,(aU rfl (by rw[qbt];rfl)),rfl,trivial⟩) (hL:=(oU (congrArg (fun c=>[⟨x.b,3,NV .i64 (D8 a),x.n,false⟩,⟨y.b,3,NV .i64 (D8 b),y.n,false⟩,(⟨some g0,3,NV .i64 c,(nb a+nb b+1),true⟩:aJ)]) (cu fun j _=>(qbv a b i j).symm))));rintro⟨k,hk⟩;(try dsimp only);refine A8 ?_;refine Rs 27 ?_ ?_<;>intro hbQ
  ·have hkb:k<nb b:=nG;have hkm:k<=nb b:=ae
   have hcl:=BZ a b i k;have hvx:=mD (sS a b i/256^(i+k));have hdm:=UA (a/256^i) (b/256^k);have hax:=mD (a/256^i);have hbx:=mD (b/256^k);refine D7 ?_;refine Ar (((i+k:Nat):Int)) ?_;refine Ix 2 (i+k) ?_;refine(Lo 2 (i+k)) qe9 ?_;refine A1 ?_;refine Ar (((sS a b i/256^(i+k)%256+AB a b i k:Nat):Int)) ?_;refine nT ?_;refine Cd ?_ ?_<;>intro hcQ
   ·have hkj:k<nb b:=qE;exact qk1
   ·have hkj:nb b<=k:=sD;exact qe7
  ·have hkb:nb b<=k:=nH;refine A5 ?_;refine Cd ?_ ?_<;>intro hcQ
   ·have hkm:=qed a b i k qE;have hcl:=BZ a b i k;have hvx:=mD (sS a b i/256^(i+k));have hdm:=UA (a/256^i) (b/256^k);have hax:=mD (a/256^i);have hbx:=mD (b/256^k);refine A9 ?_;refine Ar (((i+k:Nat):Int)) ?_;refine Ix 2 (i+k) ?_;refine(Lo 2 (i+k)) qe9 ?_;refine A1 ?_;refine Ar (((sS a b i/256^(i+k)%256+AB a b i k:Nat):Int)) ?_;refine nT ?_;refine Cd ?_ ?_<;>intro hdQ
    ·have hkj:k<nb b:=uV;exact qk1
    ·have hkj:nb b<=k:=pX;exact qe7
   ·have hc0:AB a b i k=0:=sD
    refine A8 ?_;refine dP ?_;exact Nl ⟨i+1,hlt⟩ (hL:=(oU (congrArg (fun c=>[⟨x.b,3,NV .i64 (D8 a),x.n,false⟩,⟨y.b,3,NV .i64 (D8 b),y.n,false⟩,(⟨some g0,3,NV .i64 c,(nb a+nb b+1),true⟩:aJ)]) (cu fun j _=>qbx a b i k j hkb hc0))))
 ·have hge:i=nb a:=jc;subst hge;refine A8 ?_;refine gq [_] [2] rfl rfl rfl (jU (row (nb a+nb b+1) (Ea a b (nb a))) (lh fun j=>Ze _ _ _ j) oH (dw _ _) ⟨some g0,_,_,Nat.le_refl _⟩) ⟨pS,trivial⟩ rfl ?_;refine aF 66 (ay (some g0) 0 (nb (a*b)) (nb a+nb b+1)) rfl (by rw[UB];rfl) ?_;refine A4 ?_;refine aK rfl (au rfl) (fun w hL=>⟨⟨some g0,(nb a+nb b+1),(nb a+nb b+1),Nat.le_trans (oZ a b) ae⟩,rfl,?_⟩);exact hL.picks [some 2] ⟨⟨_,rfl,rfl,rfl,rfl,⟨nb (a*b),qee a b⟩,fun _=>rfl⟩,trivial⟩ rfl rfl
end Go.Proofs.YtaffcpfhedadhaaGreatDoor
