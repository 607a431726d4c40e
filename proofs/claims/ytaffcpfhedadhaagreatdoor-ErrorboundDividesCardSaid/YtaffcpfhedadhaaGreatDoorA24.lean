/-
  Part 24 (chapter 32): lemmas, walks. Each theorem states its own conditions.
-/
import Derived.Test.YtaffcpfhedadhaaGreatDoorA20
import Derived.Test.YtaffcpfhedadhaaGreatDoorA23
set_option linter.all false
set_option maxRecDepth 20000
set_option maxHeartbeats 20000000
section
variable{P Q:Prop}{T:Type}{R:T->Prop}
def PW(q:Q)(h:bI Q->P:=by intro q_;refine aG 0 (i) yj Dt rfl rfl rfl rfl rfl ae ae (Dn F7) F6 ?_;refine(Lo 0 (i)) IX ?_;exact q_.qq):=h ⟨q⟩
def Vx(q:Q)(h:bI Q->P:=by intro q_;refine aG 0 (q) yj Dt rfl rfl rfl rfl rfl ae ae (Dn F7) F6 ?_;refine(Lo 0 (q)) IX ?_;exact q_.qq):=h ⟨q⟩
def qlk(h:P:=by rw[List.take_of_length_le (Nat.le_refl _)]):=h
def qfh(h:P:=by have:=eq_of_beq hbQ;omega):=h
def F7(h:P:=by rw[jR];omega):=h
def IX(h:P:=by exact(fZ (qnp fM))):=h
def qL(h:P:=by have:=of_decide_eq_true hcQ;omega):=h
def sJ(h:P:=by have:=of_decide_eq_false hcQ;omega):=h
def uX(h:P:=by have:=of_decide_eq_true hdQ;omega):=h
def wR(h:P:=by have:=of_decide_eq_false hdQ;omega):=h
def Vy(h:P:=by show oc*1<=oN;omega):=h
def Vz(h:P:=by have:=r.hn;show r.cap<=r.n;omega):=h
def qll(h:P:=by rw[List.take_of_length_le (by rw[gY,dB];exact Nat.le_refl _),qeJ]):=h
end
namespace Go.Proofs.YtaffcpfhedadhaaGreatDoor
variable[Go.Via.Mo]
open Go Go.RowKit Go.Via
def jU(l:List Nat)(hl:∀d∈l,d<256)(hn:l.length<=1073741824){len:Nat}(hlen:l.length=len)(x:SR len):cZ Tryz.prog 121 [⟨x.b,3,NV .i64 l,x.n,false⟩] [x.v] Unit (fun _=>aA x.b 0 (ai 256 (val 256 l)).length x.cap) (fun _=>[]):=by
 refine⟨ak,fun w hL0=>?_⟩;subst hlen;refine cB1 21 Tryz.func121 hL0 ?_;refine EK ?_;refine El (ι:={m:Nat // m<=l.length∧val 256 (l.take m)=val 256 l}) (fun⟨m,hm,hv⟩=>([(0,x.v),(3,bH m)],[⟨x.b,3,NV .i64 l,x.n,false⟩],m)) ⟨l.length,Nat.le_refl _,qlk⟩ ?_;rintro⟨m,hm,hv⟩;(try dsimp only);refine A6 ?_;refine Rs 8 ?_ ?_<;>intro haQ
 ·have h0:0<m:=iH;refine A2 ?_;refine Ar (((m-1:Nat):Int)) ?_;refine Ix 0 (m-1) ?_;refine(Lo 0 (m-1)) (by exact(fZ (l:=l) (List.getElem?_eq_getElem ae))) ?_;refine A4 ?_;refine Cd ?_ ?_<;>intro hbQ
  ·have hz:l[m-1]=0:=qfh;refine A5 ?_;refine Ar (((m-1:Nat):Int)) ?_;refine A4 ?_;exact Nl ⟨m-1,ae,Le h0 hm hv ae hz⟩
  ·have hz:l[m-1]≠0:=(by have:=ne_of_beq_false hbQ;omega);refine A9 ?_;refine yg m yj Dt rfl rfl rfl rfl ae (by have:=x.h;omega) ae ?_;refine A4 ?_;refine aO rfl (au rfl) (fun w hL=>⟨(),?_,hL.pk []⟩);rw[Fv (B:=256) ax hl hm hv (.inr ⟨ae,hz⟩)]
 ·have h0:m=0:=iK;refine A19 ?_;refine yg m yj Dt rfl rfl rfl rfl ae (by have:=x.h;omega) ae ?_;refine A4 ?_;refine aO rfl (au rfl) (fun w hL=>⟨(),?_,hL.pk []⟩);rw[Fv (B:=256) ax hl hm hv (.inl h0)]
def eH(a b:Nat)(ha:nb a<=1073741824)(x:SR (nb a))(y:SR (nb b)):cZ Tryz.prog 114 [⟨x.b,3,NV .i64 (D8 a),x.n,false⟩,⟨y.b,3,NV .i64 (D8 b),y.n,false⟩] [x.v,y.v] Unit (fun _=> .int .i64 (mO a b)) (fun _=>[]):=by
 refine Z5 41 Tryz.func114 fun w hL0=>?_;refine Ed ?_;refine Cd ?_ ?_<;>intro haQ
 ·have hl:nb a≠nb b:=by have:=bne_iff_ne.1 haQ;omega
  refine lW ?_;refine Cd ?_ ?_<;>intro hbQ
  ·have h1:nb a<nb b:=lu;refine A8 ?_;refine aO rfl (au rfl) (fun w hL=>⟨(),?_,hL.pk []⟩);rw[Xo h1]
  ·have h1:nb b<nb a:=lw;refine A9 ?_;refine aO rfl (au rfl) (fun w hL=>⟨(),?_,hL.pk []⟩);rw[Xp h1]
 ·have hl:nb a=nb b:=by have:=UA haQ;omega
  refine A7 ?_;refine Ar (((nb a:Nat):Int)-1) ?_;refine A4 ?_;refine El (ι:={p:Nat // p<=nb a∧a/256^p=b/256^p}) (fun⟨p,hp,he⟩=>([(0,x.v),(1,y.v),(5,.int .i64 ((p:Nat)-1))],[⟨x.b,3,NV .i64 (D8 a),x.n,false⟩,⟨y.b,3,NV .i64 (D8 b),y.n,false⟩],p)) ⟨nb a,Nat.le_refl _,qi8 hl⟩ ?_;rintro⟨p,hp,he⟩;(try dsimp only);refine A7 ?_;refine Cd ?_ ?_<;>intro hbQ
  ·obtain⟨q,rfl⟩:∃q,p=q+1:=⟨p-1,lu⟩;refine dF 5 (bH q) rfl (congrArg (Value.int .i64) ae) ?_;refine A6 ?_;refine Di [] ?_;refine A2 ?_;refine Vx ?_;refine A2 ?_;refine aG 1 (q) yj Dt rfl rfl rfl rfl rfl ae ae (Dn F7) F6 ?_;refine(Lo 1 (q)) IX ?_;refine A3 ?_;refine Cd ?_ ?_<;>intro hcQ
   ·have h1:a/256^q%256<b/256^q%256:=qL;refine nI ?_;refine aO rfl (au rfl) (fun w hL=>⟨(),?_,hL.pk []⟩);rw[Xq he h1]
   ·have h1:¬a/256^q%256<b/256^q%256:=sJ;refine A3 ?_;refine Di [] ?_;refine A2 ?_;refine Vx ?_;refine A2 ?_;refine aG 1 (q) yj Dt rfl rfl rfl rfl rfl ae ae (Dn F7) F6 ?_;refine(Lo 1 (q)) IX ?_;refine A3 ?_;refine Cd ?_ ?_<;>intro hdQ
    ·have h2:b/256^q%256<a/256^q%256:=uX;refine qC ?_;refine aO rfl (au rfl) (fun w hL=>⟨(),?_,hL.pk []⟩);rw[Xt he h2]
    ·have h2:¬b/256^q%256<a/256^q%256:=wR;refine A5 ?_;refine Ar (((q:Nat):Int)-1) ?_;refine A3 ?_;exact Nl ⟨q,ae,Xu he h1 h2⟩
  ·have hp0:p=0:=lw
   subst hp0;refine qC ?_;refine aO rfl (au rfl) (fun w hL=>⟨(),?_,hL.pk []⟩);rw[qi9 he]
def DD(n:Nat)(hn:nb n<=1073741824)(x:SR (nb n)):cZ Tryz.prog 163 [⟨x.b,3,NV .i64 (D8 n),x.n,false⟩] [x.v] Unit (fun _=> .tuple #[.int .i64 (if nb n<=7 then(n:Int) else 0),.bool (decide (nb n<=7))]) (fun _=>[]):=by
 refine PR 24 Tryz.func163 fun w hL0=>?_;refine EK ?_;refine Cd ?_ ?_<;>intro haQ
 ·have h8:¬nb n<=7:=iH;refine A8 ?_;refine bM rfl (au rfl) (au rfl) (fun w hL=>⟨(),?_,hL.pk []⟩);rw[if_neg h8,decide_eq_false h8]
 ·have h8:nb n<=7:=iK;refine nI ?_;refine Ar (((nb n:Nat):Int)-1) ?_;refine A4 ?_;refine El (ι:={p:Nat // p<=nb n}) (fun⟨p,hp⟩=>([(0,x.v),(4,bH (n/256^p)),(5,.int .i64 ((p:Nat)-1))],[⟨x.b,3,NV .i64 (D8 n),x.n,false⟩],p)) ⟨nb n,Nat.le_refl _⟩ ?_ (ht:=⟨rfl,(aQ rfl (by rw[Nat.div_eq_of_lt (kH n)];rfl)),rfl,trivial⟩);rintro⟨p,hp⟩;(try dsimp only);refine A7 ?_;refine Cd ?_ ?_<;>intro hbQ
  ·obtain⟨q,rfl⟩:∃q,p=q+1:=⟨p-1,lu⟩;refine dF 5 (bH q) rfl (congrArg (Value.int .i64) ae) ?_;have hs1:=qeI (q:=q) h8;have hs2:=wO n q;refine A6 ?_;refine Ar (((n/256^(q+1)*256:Nat):Int)) ?_;refine A2 ?_;refine Vx ?_;refine Ar (((n/256^q:Nat):Int)) ?_;refine A6 ?_;refine Ar (((q:Nat):Int)-1) ?_;refine A3 ?_;exact Nl ⟨q,ae⟩
  ·have hp0:p=0:=lw
   subst hp0;refine FN ?_;refine bM rfl (au rfl) (au rfl) (fun w hL=>⟨(),?_,hL.pk []⟩);rw[if_pos h8,decide_eq_true h8];simp
def DF(n:Nat)(hn:n<=9223372036854775807:=by omega):cZ Tryz.prog 164 [] [bH n] (SR (nb n)) SR.v (fun x=>[⟨x.b,3,NV .i64 (D8 n),x.n,true⟩]):=by
 refine⟨ak,fun w hL0=>?_⟩;have hnb:nb n<=8:=nP ae;refine cB1 14 Tryz.func164 hL0 ?_;refine nI ?_;refine El (ι:={x:Nat×Option Nat×Nat×Nat // x.1<=nb n∧x.1<=x.2.2.2∧x.2.2.2<=x.2.2.1}) (fun⟨⟨i,ob,oN,oc⟩,hi,h1,h2⟩=>([(0,bH (n/256^i)),(3,aA ob 0 i oc)],[⟨ob,3,NV .i64 (row i (Ef n)),oN,true⟩],nb n-i)) ⟨(0,none,0,0),Nat.zero_le _,Nat.le_refl _,Nat.le_refl _⟩ ?_ (ht:=⟨(aQ rfl (by rw[Nat.pow_zero,Nat.div_one])),rfl,trivial⟩) (hL:=(az [none] ⟨⟨rfl,rfl,rfl⟩,trivial⟩ rfl rfl));rintro⟨⟨i,ob,oN,oc⟩,hi,h1,h2⟩;(try dsimp only);replace hi:i<=nb n:=hi;replace h1:i<=oc:=h1;replace h2:oc<=oN:=h2;refine A7 ?_;refine Cd ?_ ?_<;>intro haQ
 ·have hgt:0<n/256^i:=iH
  have hlt:=PI hgt;have hle:n/256^i<=n:=Nat.div_le_self _ _;refine A7 ?_;refine(Dv ((Ef n i:Nat):Int)) (congrArg some (jg _ 256 rfl rfl)) ?_;refine(Bl 1 [(0,_)]) (pK) (fun g0=>?_);refine mV (s:=1) (len:=i) (n2:=1) 0 1 (fun r=>[⟨some r.g,3,NV .i64 (row (i+1) (Ef n)),r.n,true⟩,⟨some g0,3,_,1,true⟩]) yj el3 rfl rfl rfl rfl rfl rfl rfl rfl rfl rfl rfl rfl PV ae Vy rfl (Go.Via.one_cell _ _) ae (fun r=>congrArg (fun c=>[(⟨some r.g,3,c,r.n,true⟩:aH),⟨some g0,3,_,1,true⟩]) (FP _ _ _ _ (rfl))) (fun r=>?_);refine A5 ?_;refine(Dv ((n/256^(i+1):Nat):Int)) (by exact(congrArg some ((IG _ 256 rfl rfl ae).trans (by rw[Xv])))) ?_;refine A4 ?_;exact Nl ⟨(i+1,some r.g,r.n,r.cap),hlt,r.h,Vz⟩ (hμ:=(by show nb n-(i+1)<nb n-i;omega)) (hL:=fF.auto)
 ·have hge:=PK (n:=n) (i:=i) (by have:=of_decide_eq_false haQ;have:=Nat.zero_le (n/256^i);omega) hi;subst hge;refine nI ?_;refine aO rfl (au rfl) (fun w hL=>⟨⟨ob,oN,oc,h1⟩,rfl,?_⟩);rw[LQ] at hL;exact hL
def mZ(z:Int)(hz:jv z<=1073741824:=by omega):cZ Tryz.prog 116 [] [I z] (SR (nb z.natAbs)) SR.v (fun x=>[⟨x.b,3,NV .i64 (D8 z.natAbs),x.n,true⟩]):=by
 refine⟨ak,fun w hL0=>?_⟩;have hz:nb z.natAbs<=1073741824:=hz;refine cB1 23 Tryz.func116 hL0 ?_;refine A2 ?_;refine Bp 2 (fun g0=>?_);refine EK ?_;refine aS 7 (bH (nb z.natAbs)) rfl F5 ?_;refine Ar (((nb z.natAbs:Nat):Int)-1) ?_;refine A4 ?_;refine El (ι:={x:Nat×Option Nat×Nat×Nat // x.1<=nb z.natAbs∧x.1<=x.2.2.2∧x.2.2.2<=x.2.2.1}) (fun⟨⟨k,ob,oN,oc⟩,hk,h1,h2⟩=>([(1,bf g0),(3,aA ob 0 k oc),(4,.int .i64 ((nb z.natAbs-k:Nat)-1))],[⟨some g0,34,[.bool (decide (z<0)),.string (bQ z.natAbs)],2,true⟩,⟨ob,3,NV .i64 (row k (Ef z.natAbs)),oN,true⟩],nb z.natAbs-k)) ⟨(0,none,0,0),Nat.zero_le _,Nat.le_refl _,Nat.le_refl _⟩ ?_ (hL:=(az [some 0,none] ⟨pR,⟨rfl,rfl,rfl⟩,trivial⟩ rfl rfl));rintro⟨⟨k,ob,oN,oc⟩,hk,h1,h2⟩;(try dsimp only);replace hk:k<=nb z.natAbs:=hk;replace h1:k<=oc:=h1;replace h2:oc<=oN:=h2;refine A7 ?_;refine Cd ?_ ?_<;>intro haQ
 ·have hlt:k<nb z.natAbs:=iH
  refine dF 4 (bH (nb z.natAbs-1-k)) rfl (congrArg (Value.int .i64) ae) ?_;refine A9 ?_;refine Aj (b:=UInt8.ofNat (z.natAbs/256^k%256)) (r:=((z.natAbs/256^k%256:Nat):Int)) u9 rfl rfl rfl rfl ae (Zx z.natAbs k hlt) (QY _) ?_;refine(Cv ((Ef z.natAbs k:Nat):Int) u5 u3) (by exact(wi (by have:=AY z.natAbs k;omega) (by have:=AY z.natAbs k;omega) rfl)) ?_;refine(Bl 1 [(0,_)]) (pK) (fun g1=>?_);refine mV (s:=1) (len:=k) (n2:=1) 1 2 (fun r=>[_,⟨some r.g,3,NV .i64 (row (k+1) (Ef z.natAbs)),r.n,true⟩,⟨some g1,3,_,1,true⟩]) yj el3 rfl rfl rfl rfl rfl rfl rfl rfl rfl rfl rfl rfl PV ae Vy rfl (Go.Via.one_cell _ _) ae (fun r=>congrArg (fun c=>[_,(⟨some r.g,3,c,r.n,true⟩:aH),⟨some g1,3,_,1,true⟩]) (FP _ _ _ _ (rfl))) (fun r=>?_);refine A6 ?_;refine Ar (((nb z.natAbs-(k+1):Nat):Int)-1) ?_;refine A3 ?_;exact Nl ⟨(k+1,some r.g,r.n,r.cap),hlt,r.h,Vz⟩ (hμ:=(by show nb z.natAbs-(k+1)<nb z.natAbs-k;omega)) (hL:=fF.auto)
 ·have hge:k=nb z.natAbs:=iK
  subst hge;refine A8 ?_;refine gJ [_] [1] rfl rfl rfl (jU (row (nb z.natAbs) (Ef z.natAbs)) (kY fun j=>AY _ j) oz (dB _ _) ⟨ob,oN,oc,h1⟩) ⟨pS,trivial⟩ rfl ?_;refine aS 22 (aA ob 0 (nb z.natAbs) oc) rfl (by rw[U3]) ?_;refine A4 ?_;refine aO rfl (au rfl) (fun w hL=>⟨⟨ob,oN,oc,h1⟩,rfl,?_⟩);rw[LQ] at hL;exact hL.pk [some 1]
def oG(n:Nat)(neg:Bool)(hn:nb n<=1073741824)(x:SR (nb n)):cZ Tryz.prog 117 [⟨x.b,3,NV .i64 (D8 n),x.n,false⟩] [x.v,.bool neg] Unit (fun _=>I (if neg=true then-(n:Int) else(n:Int))) (fun _=>[]):=by
 refine Z5 39 Tryz.func117 fun w hL0=>?_;refine A2 ?_;refine Al 2 yh (fun g0=>?_);refine A5 ?_;refine(Sd [0]) (jU (D8 n) (qla n) F7 (jR n) x) ?_;refine aS 8 (aA x.b 0 (nb n) x.cap) rfl (by rw[IL]) ?_;refine A7 ?_;refine fG (c:=nb n) (NV .u8 (row (nb n) (xu n (nb n) 0))) (fun g=>[_,_,⟨some g,5,_,_,true⟩]) WW el5 rfl rfl rfl rfl rfl rfl ae (by rw[dh (g:=fun _=>0) (fun j _=>Pe n _ j),oC,iC]) (fun _=>rfl) (fun g1=>?_);refine lW ?_;refine El (ι:={i:Nat // i<=nb n}) (fun⟨i,hi⟩=>([(0,aA x.b 0 (nb n) x.cap),(1,.bool neg),(4,bf g0),(5,aA (some g1) 0 (nb n) (nb n)),(6,bH i)],[⟨x.b,3,NV .i64 (D8 n),x.n,false⟩,⟨some g0,34,[aT,aU],2,true⟩,⟨some g1,5,NV .u8 (row (nb n) (xu n (nb n) i)),nb n,true⟩],nb n-i)) ⟨0,Nat.zero_le _⟩ ?_;rintro⟨i,hi⟩;(try dsimp only);refine A9 ?_;refine Cd ?_ ?_<;>intro haQ
 ·have hlt:i<nb n:=iH;refine A8 ?_;refine Ar (((nb n-1:Nat):Int)) ?_;refine A1 ?_;refine Ar (((nb n-1-i:Nat):Int)) ?_;refine A2 ?_;refine PW ?_;refine(Cv ((n/256^i%256:Nat):Int) u3 u5) (by exact((c8 _ rfl).trans (by rw[Nat.mod_mod]))) ?_;refine Ix 2 (nb n-1-i) ?_;refine(S1 2 (nb n-1-i) [_,_,⟨some g1,5,_,_,true⟩] (NV .u8 (row (nb n) (xu n (nb n) (i+1))))) o8 (Pg n (nb n) i _ hlt rfl) ?_;refine A5 ?_;refine dP ?_;exact Nl ⟨i+1,hlt⟩
 ·have hge:i=nb n:=iK;subst hge;refine A9 ?_;refine Rs 31 ?_ ?_<;>intro hbQ
  ·refine A5 ?_;refine Ak 2 WW u5 u9 rfl rfl rfl rfl rfl qll qfg (KY n) ?_;refine(Bu [(0,_),(1,_)]) (QS) ?_;refine Ss 1 ?_;refine A3 ?_;refine Ec2 1 fun w hL=>⟨(),?_,hL.pk []⟩;exact congrArg Ending.returned (qjb n hbQ)
  ·refine A5 ?_;refine Ak 2 WW u5 u9 rfl rfl rfl rfl rfl qll qfg (KY n) ?_;refine(Bu [(0,_),(1,_)]) (QS) ?_;refine Ss 1 ?_;refine A3 ?_;refine Ec2 1 fun w hL=>⟨(),?_,hL.pk []⟩;exact congrArg Ending.returned (qjc n hbQ)
end Go.Proofs.YtaffcpfhedadhaaGreatDoor
