/-
  Part 27 (chapter 32): lemmas, walks. Each theorem states its own conditions.
-/
import Derived.Test.YtaffcpfhedadhaaGreatDoorA24
set_option linter.all false
set_option maxRecDepth 20000
set_option maxHeartbeats 20000000
section
variable{P Q:Prop}{T:Type}{R:T->Prop}
def XR(h:P:=by refine(Dv ((Ef (a+b) i:Nat):Int)) (by exact(congrArg some ((jg _ 256 rfl rfl).trans (by rw[qeK];rfl)))) ?_;refine(Bl 1 [(0,_)]) (pK) (fun g0=>?_);refine mV (s:=1) (len:=i) (n2:=1) 2 3 (fun r=>[_,_,⟨some r.g,3,NV .i64 (row (i+1) (Ef (a+b))),r.n,true⟩,⟨some g0,3,_,1,true⟩]) yj el3 rfl rfl rfl rfl rfl rfl rfl rfl rfl rfl rfl rfl PV ae Vy rfl (Go.Via.one_cell _ _) ae (fun r=>congrArg (fun c=>[_,_,(⟨some r.g,3,c,r.n,true⟩:aH),⟨some g0,3,_,1,true⟩]) (FP _ _ _ _ (rfl))) (fun r=>?_);refine A5 ?_;refine(Dv ((y8 a b (i+1):Nat):Int)) (by exact(congrArg some ((IG _ 256 rfl rfl ae).trans (by rw[Xw])))) ?_;refine A6 ?_;refine dP ?_;exact Nl ⟨(i+1,some r.g,r.n,r.cap),Nat.succ_le_succ hmx,r.h,Vz⟩ (hμ:=(by show max (nb a) (nb b)+1-(i+1)<max (nb a) (nb b)+1-i;omega)) (hL:=fF.auto)):=h
def P7(q:Q)(h:bI Q->P:=by intro q_;refine A4 ?_;refine aG 1 (i) yj Dt rfl rfl rfl rfl rfl ae ae (Dn F7) F6 ?_;refine(Lo 1 (i)) IX ?_;refine(Aq ((U4 a b i:Nat):Int)) (by exact(congrArg some (wi ae ae (by rw[Rk];omega)))) ?_;refine A7 ?_;exact q_.qq):=h ⟨q⟩
def P8(h:P:=by refine dF 6 (bH (U4 a b i)) rfl (by rw[Rk,yx hjb];rfl) ?_;refine A6 ?_;exact XR):=h
def XU(h:P:=by rw[yx hja];rfl):=h
def Es(h:P:=by have:=of_decide_eq_true heQ;omega):=h
def Et(h:P:=by have:=of_decide_eq_false heQ;omega):=h
end
namespace Go.Proofs.YtaffcpfhedadhaaGreatDoor
variable[Go.Via.Mo]
open Go Go.RowKit Go.Via
def kZ(a b:Nat)(ha:nb a<=1073741000)(hb:nb b<=1073741000)(x:SR (nb a))(y:SR (nb b)):cZ Tryz.prog 113 [⟨x.b,3,NV .i64 (D8 a),x.n,false⟩,⟨y.b,3,NV .i64 (D8 b),y.n,false⟩] [x.v,y.v] (SR (nb (a+b))) SR.v (fun x=>[⟨x.b,3,NV .i64 (D8 (a+b)),x.n,true⟩]):=by
 refine Z5 53 Tryz.func113 fun w hL0=>?_;refine A22 ?_;refine El (ι:={x:Nat×Option Nat×Nat×Nat // x.1<=max (nb a) (nb b)+1∧x.1<=x.2.2.2∧x.2.2.2<=x.2.2.1}) (fun⟨⟨i,ob,oN,oc⟩,hi,h1,h2⟩=>([(0,x.v),(1,y.v),(5,aA ob 0 i oc),(6,bH (y8 a b i)),(7,bH i)],[⟨x.b,3,NV .i64 (D8 a),x.n,false⟩,⟨y.b,3,NV .i64 (D8 b),y.n,false⟩,⟨ob,3,NV .i64 (row i (Ef (a+b))),oN,true⟩],max (nb a) (nb b)+1-i)) ⟨(0,none,0,0),Nat.zero_le _,Nat.le_refl _,Nat.le_refl _⟩ ?_ (ht:=⟨rfl,rfl,rfl,(aQ rfl (by rw[qbX];rfl)),rfl,trivial⟩) (hL:=(az [some 0,some 1,none] ⟨pR,pR,⟨rfl,rfl,rfl⟩,trivial⟩ rfl rfl));rintro⟨⟨i,ob,oN,oc⟩,hi,h1,h2⟩;(try dsimp only);replace hi:i<=max (nb a) (nb b)+1:=hi;replace h1:i<=oc:=h1;replace h2:oc<=oN:=h2;refine A8 ?_;refine Rs 12 ?_ ?_<;>intro haQ
 ·have hia:i<nb a:=iH;have hmx:i<=max (nb a) (nb b):=ae
  refine A25 ?_;refine Cd ?_ ?_<;>intro hbQ
  ·have hja:i<nb a:=lu;have hcl:=y9 a b i;have hax:=lZ (a/256^i);have hbx:=lZ (b/256^i);have hsl:=Ci a b i;refine A4 ?_;refine PW ?_;refine Ar (((y8 a b i+a/256^i%256:Nat):Int)) ?_;refine nI ?_;refine Cd ?_ ?_<;>intro hcQ
   ·have hjb:i<nb b:=qL;refine P7 ?_;exact XR
   ·have hjb:nb b<=i:=sJ;exact P8
  ·have hja:nb a<=i:=lw;have hcl:=y9 a b i;have hax:=lZ (a/256^i);have hbx:=lZ (b/256^i);have hsl:=Ci a b i;refine dF 6 (bH (y8 a b i+a/256^i%256)) rfl XU ?_;refine qC ?_;refine Cd ?_ ?_<;>intro hcQ
   ·have hjb:i<nb b:=qL;refine P7 ?_;exact XR
   ·have hjb:nb b<=i:=sJ;exact P8
 ·have hia:nb a<=i:=iK;refine A6 ?_;refine Rs 18 ?_ ?_<;>intro hbQ
  ·have hib:i<nb b:=lu;have hmx:i<=max (nb a) (nb b):=ae
   refine A19 ?_;refine Cd ?_ ?_<;>intro hcQ
   ·have hja:i<nb a:=qL;have hcl:=y9 a b i;have hax:=lZ (a/256^i);have hbx:=lZ (b/256^i);have hsl:=Ci a b i;refine A4 ?_;refine PW ?_;refine Ar (((y8 a b i+a/256^i%256:Nat):Int)) ?_;refine nI ?_;refine Cd ?_ ?_<;>intro hdQ
    ·have hjb:i<nb b:=uX;refine P7 ?_;exact XR
    ·have hjb:nb b<=i:=wR;exact P8
   ·have hja:nb a<=i:=sJ;have hcl:=y9 a b i;have hax:=lZ (a/256^i);have hbx:=lZ (b/256^i);have hsl:=Ci a b i;refine dF 6 (bH (y8 a b i+a/256^i%256)) rfl XU ?_;refine qC ?_;refine Cd ?_ ?_<;>intro hdQ
    ·have hjb:i<nb b:=uX;refine P7 ?_;exact XR
    ·have hjb:nb b<=i:=wR;exact P8
  ·have hib:nb b<=i:=lw;refine A5 ?_;refine Cd ?_ ?_<;>intro hcQ
   ·have hmx:=qbZ a b i qL hia hib;refine FN ?_;refine Cd ?_ ?_<;>intro hdQ
    ·have hja:i<nb a:=uX;have hcl:=y9 a b i;have hax:=lZ (a/256^i);have hbx:=lZ (b/256^i);have hsl:=Ci a b i;refine A4 ?_;refine PW ?_;refine Ar (((y8 a b i+a/256^i%256:Nat):Int)) ?_;refine nI ?_;refine Cd ?_ ?_<;>intro heQ
     ·have hjb:i<nb b:=Es;refine P7 ?_;exact XR
     ·have hjb:nb b<=i:=Et;exact P8
    ·have hja:nb a<=i:=wR;have hcl:=y9 a b i;have hax:=lZ (a/256^i);have hbx:=lZ (b/256^i);have hsl:=Ci a b i;refine dF 6 (bH (y8 a b i+a/256^i%256)) rfl XU ?_;refine qC ?_;refine Cd ?_ ?_<;>intro heQ
     ·have hjb:i<nb b:=Es;refine P7 ?_;exact XR
     ·have hjb:nb b<=i:=Et;exact P8
   ·have hab:=qeL a b i hia hib sJ;have hnab:nb (a+b)<=i:=nP hab;refine A8 ?_;refine gJ [_] [2] rfl rfl rfl (jU (row i (Ef (a+b))) (kY fun j=>AY _ j) oz (dB _ _) ⟨ob,oN,oc,h1⟩) ⟨pS,trivial⟩ rfl ?_;refine aS 52 (aA ob 0 (nb (a+b)) oc) rfl (by rw[LU _ _ hab];rfl) ?_;refine A4 ?_;refine aO rfl (au rfl) (fun w hL=>⟨⟨ob,oN,oc,ae⟩,rfl,?_⟩);exact hL.picks [some 2] ⟨⟨_,rfl,rfl,rfl,rfl,⟨nb (a+b),U5 _ _ hab⟩,fun _=>rfl⟩,trivial⟩ rfl rfl
end Go.Proofs.YtaffcpfhedadhaaGreatDoor
