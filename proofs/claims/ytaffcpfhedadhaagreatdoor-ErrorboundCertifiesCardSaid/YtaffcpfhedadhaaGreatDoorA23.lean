/-
  Part 23 (chapter 32): lemmas, walks. Each theorem states its own conditions.
-/
import Derived.Test.YtaffcpfhedadhaaGreatDoorA12
import Derived.Test.YtaffcpfhedadhaaGreatDoorA13
import Derived.Test.YtaffcpfhedadhaaGreatDoorA14
import Derived.Test.YtaffcpfhedadhaaGreatDoorA22
import Derived.Test.YtaffcpfhedadhaaGreatDoorA18
set_option linter.all false
set_option maxRecDepth 20000
set_option maxHeartbeats 20000000
section
variable{P Q:Prop}{T:Type}{R:T->Prop}
def G9(h:P:=by refine(Dv ((BN (a+b) i:Nat):Int)) (by exact(congrArg some ((jy _ 256 rfl rfl).trans (by rw[qaI];rfl)))) ?_;refine(Bl 1 [(0,_)]) (nT) (fun g0=>?_);refine kZ (s:=1) (len:=i) (n2:=1) 2 3 (fun r=>[_,_,⟨some r.g,3,NV .i64 (row (i+1) (BN (a+b))),r.n,true⟩,⟨some g0,3,_,1,true⟩]) nM el3 rfl rfl rfl rfl rfl rfl rfl rfl rfl rfl rfl rfl (by rw[aW,ax];omega) (by omega) (by show oc*1<=oN;omega) rfl (Go.Via.one_cell _ _) (by omega) (fun r=>congrArg (fun c=>[_,_,(⟨some r.g,3,c,r.n,true⟩:aC),⟨some g0,3,_,1,true⟩]) (AZ _ _ _ _ (rfl))) (fun r=>?_);refine A5 ?_;refine(Dv ((yB a b (i+1):Nat):Int)) (by exact(congrArg some ((DX _ 256 rfl rfl (by omega)).trans (by rw[Us])))) ?_;refine A6 ?_;refine dh ?_;exact Nl ⟨(i+1,some r.g,r.n,r.cap),Nat.succ_le_succ hmx,r.h,by have:=r.hn;show r.cap<=r.n;omega⟩ (hμ:=(by show max (nb a) (nb b)+1-(i+1)<max (nb a) (nb b)+1-i;omega)) (hL:=eH.auto)):=h
def Wv(h:P:=by refine(Bl 1 [(0,_)]) (nT) (fun g0=>?_);refine kZ (s:=1) (len:=i) (n2:=1) 2 3 (fun r=>[_,_,⟨some r.g,3,NV .i64 (row (i+1) (BN (a-b))),r.n,true⟩,⟨some g0,3,_,1,true⟩]) nM el3 rfl rfl rfl rfl rfl rfl rfl rfl rfl rfl rfl rfl (by rw[aW,ax];omega) (by omega) (by show oc*1<=oN;omega) rfl (Go.Via.one_cell _ _) (by omega) (fun r=>congrArg (fun c=>[_,_,(⟨some r.g,3,c,r.n,true⟩:aC),⟨some g0,3,_,1,true⟩]) (AZ _ _ _ _ (rfl))) (fun r=>?_);refine A6 ?_;refine dh ?_;exact Nl ⟨(i+1,some r.g,r.n,r.cap),hlt,r.h,by have:=r.hn;show r.cap<=r.n;omega⟩ (hμ:=(by show nb a-(i+1)<nb a-i;omega)) (ht:=⟨rfl,rfl,rfl,(aG rfl (by rw[hd2];rfl)),rfl,trivial⟩) (hL:=eH.auto)):=h
def ND(q:Q)(h:xJ Q->P:=by intro q_;refine A4 ?_;refine ai 1 (i) nM wF rfl rfl rfl rfl rfl (by omega) (by omega) (nK (by rw[dw];omega)) (by show 0+Int.toNat _*1=_;omega) ?_;refine(Lo 1 (i)) (by exact(bI (kV (by omega)))) ?_;refine(Aq ((FO a b i:Nat):Int)) (by exact(congrArg some (wi (by omega) (by omega) (by rw[vM];omega)))) ?_;refine A7 ?_;exact q_.qq):=h ⟨q⟩
end
namespace Go.Proofs.YtaffcpfhedadhaaGreatDoor
variable[Go.Via.Mo]
open Go Go.RowKit Go.Via
def jF(a b:Nat)(ha:nb a<=1073741000)(hb:nb b<=1073741000)(x:SR (nb a))(y:SR (nb b)):bW Tryz.prog 113 [⟨x.b,3,NV .i64 (D8 a),x.n,false⟩,⟨y.b,3,NV .i64 (D8 b),y.n,false⟩] [x.v,y.v] (SR (nb (a+b))) SR.v (fun x=>[⟨x.b,3,NV .i64 (D8 (a+b)),x.n,true⟩]):=by
 refine X5 53 Tryz.func113 fun w hL0=>?_;refine A22 ?_;refine El (ι:={x:Nat×Option Nat×Nat×Nat // x.1<=max (nb a) (nb b)+1∧x.1<=x.2.2.2∧x.2.2.2<=x.2.2.1}) (fun⟨⟨i,ob,oN,oc⟩,hi,h1,h2⟩=>([(0,x.v),(1,y.v),(5,az ob 0 i oc),(6,aZ (yB a b i)),(7,aZ i)],[⟨x.b,3,NV .i64 (D8 a),x.n,false⟩,⟨y.b,3,NV .i64 (D8 b),y.n,false⟩,⟨ob,3,NV .i64 (row i (BN (a+b))),oN,true⟩],max (nb a) (nb b)+1-i)) ⟨(0,none,0,0),Nat.zero_le _,Nat.le_refl _,Nat.le_refl _⟩ ?_ (ht:=⟨rfl,rfl,rfl,(aG rfl (by rw[Yg];rfl)),rfl,trivial⟩) (hL:=(ak [some 0,some 1,none] ⟨pR,pR,⟨rfl,rfl,rfl⟩,trivial⟩ rfl rfl));rintro⟨⟨i,ob,oN,oc⟩,hi,h1,h2⟩;(try dsimp only);replace hi:i<=max (nb a) (nb b)+1:=hi;replace h1:i<=oc:=h1;replace h2:oc<=oN:=h2;refine A8 ?_;refine Rs 12 ?_ ?_<;>intro haQ
 ·have hia:i<nb a:=(by have:=of_decide_eq_true haQ;omega);have hmx:i<=max (nb a) (nb b):=by omega
  refine A25 ?_;refine Cd ?_ ?_<;>intro hbQ
  ·have hja:i<nb a:=(by have:=of_decide_eq_true hbQ;omega);have hcl:=yC a b i;have hax:=jW (a/256^i);have hbx:=jW (b/256^i);have hsl:=Ba a b i;refine A4 ?_;refine ai 0 (i) nM wF rfl rfl rfl rfl rfl (by omega) (by omega) (nK (by rw[dw];omega)) (by show 0+Int.toNat _*1=_;omega) ?_;refine(Lo 0 (i)) (by exact(bI (kV (by omega)))) ?_;refine Ar (((yB a b i+a/256^i%256:Nat):Int)) ?_;refine lw ?_;refine Cd ?_ ?_<;>intro hcQ
   ·have hjb:i<nb b:=(by have:=of_decide_eq_true hcQ;omega);refine ND ?_;exact G9
   ·have hjb:nb b<=i:=(by have:=of_decide_eq_false hcQ;omega);refine bZ 6 (aZ (FO a b i)) rfl (by rw[vM,jh hjb];rfl) ?_;refine A6 ?_;exact G9
  ·have hja:nb a<=i:=(by have:=of_decide_eq_false hbQ;omega);have hcl:=yC a b i;have hax:=jW (a/256^i);have hbx:=jW (b/256^i);have hsl:=Ba a b i;refine bZ 6 (aZ (yB a b i+a/256^i%256)) rfl (by rw[jh hja];rfl) ?_;refine pq ?_;refine Cd ?_ ?_<;>intro hcQ
   ·have hjb:i<nb b:=(by have:=of_decide_eq_true hcQ;omega);refine ND ?_;exact G9
   ·have hjb:nb b<=i:=(by have:=of_decide_eq_false hcQ;omega);refine bZ 6 (aZ (FO a b i)) rfl (by rw[vM,jh hjb];rfl) ?_;refine A6 ?_;exact G9
 ·have hia:nb a<=i:=(by have:=of_decide_eq_false haQ;omega);refine A6 ?_;refine Rs 18 ?_ ?_<;>intro hbQ
  ·have hib:i<nb b:=(by have:=of_decide_eq_true hbQ;omega);have hmx:i<=max (nb a) (nb b):=by omega
   refine A19 ?_;refine Cd ?_ ?_<;>intro hcQ
   ·have hja:i<nb a:=(by have:=of_decide_eq_true hcQ;omega);have hcl:=yC a b i;have hax:=jW (a/256^i);have hbx:=jW (b/256^i);have hsl:=Ba a b i;refine A4 ?_;refine ai 0 (i) nM wF rfl rfl rfl rfl rfl (by omega) (by omega) (nK (by rw[dw];omega)) (by show 0+Int.toNat _*1=_;omega) ?_;refine(Lo 0 (i)) (by exact(bI (kV (by omega)))) ?_;refine Ar (((yB a b i+a/256^i%256:Nat):Int)) ?_;refine lw ?_;refine Cd ?_ ?_<;>intro hdQ
    ·have hjb:i<nb b:=(by have:=of_decide_eq_true hdQ;omega);refine ND ?_;exact G9
    ·have hjb:nb b<=i:=(by have:=of_decide_eq_false hdQ;omega);refine bZ 6 (aZ (FO a b i)) rfl (by rw[vM,jh hjb];rfl) ?_;refine A6 ?_;exact G9
   ·have hja:nb a<=i:=(by have:=of_decide_eq_false hcQ;omega);have hcl:=yC a b i;have hax:=jW (a/256^i);have hbx:=jW (b/256^i);have hsl:=Ba a b i;refine bZ 6 (aZ (yB a b i+a/256^i%256)) rfl (by rw[jh hja];rfl) ?_;refine pq ?_;refine Cd ?_ ?_<;>intro hdQ
    ·have hjb:i<nb b:=(by have:=of_decide_eq_true hdQ;omega);refine ND ?_;exact G9
    ·have hjb:nb b<=i:=(by have:=of_decide_eq_false hdQ;omega);refine bZ 6 (aZ (FO a b i)) rfl (by rw[vM,jh hjb];rfl) ?_;refine A6 ?_;exact G9
  ·have hib:nb b<=i:=(by have:=of_decide_eq_false hbQ;omega);refine A5 ?_;refine Cd ?_ ?_<;>intro hcQ
   ·have hmx:=Yi a b i (by have:=of_decide_eq_true hcQ;omega) hia hib;refine D5 ?_;refine Cd ?_ ?_<;>intro hdQ
    ·have hja:i<nb a:=(by have:=of_decide_eq_true hdQ;omega);have hcl:=yC a b i;have hax:=jW (a/256^i);have hbx:=jW (b/256^i);have hsl:=Ba a b i;refine A4 ?_;refine ai 0 (i) nM wF rfl rfl rfl rfl rfl (by omega) (by omega) (nK (by rw[dw];omega)) (by show 0+Int.toNat _*1=_;omega) ?_;refine(Lo 0 (i)) (by exact(bI (kV (by omega)))) ?_;refine Ar (((yB a b i+a/256^i%256:Nat):Int)) ?_;refine lw ?_;refine Cd ?_ ?_<;>intro heQ
     ·have hjb:i<nb b:=(by have:=of_decide_eq_true heQ;omega);refine ND ?_;exact G9
     ·have hjb:nb b<=i:=(by have:=of_decide_eq_false heQ;omega);refine bZ 6 (aZ (FO a b i)) rfl (by rw[vM,jh hjb];rfl) ?_;refine A6 ?_;exact G9
    ·have hja:nb a<=i:=(by have:=of_decide_eq_false hdQ;omega);have hcl:=yC a b i;have hax:=jW (a/256^i);have hbx:=jW (b/256^i);have hsl:=Ba a b i;refine bZ 6 (aZ (yB a b i+a/256^i%256)) rfl (by rw[jh hja];rfl) ?_;refine pq ?_;refine Cd ?_ ?_<;>intro heQ
     ·have hjb:i<nb b:=(by have:=of_decide_eq_true heQ;omega);refine ND ?_;exact G9
     ·have hjb:nb b<=i:=(by have:=of_decide_eq_false heQ;omega);refine bZ 6 (aZ (FO a b i)) rfl (by rw[vM,jh hjb];rfl) ?_;refine A6 ?_;exact G9
   ·have hab:=qaJ a b i hia hib (by have:=of_decide_eq_false hcQ;omega);have hnab:nb (a+b)<=i:=ng hab;refine A8 ?_;refine gU [_] [2] rfl rfl rfl (iZ (row i (BN (a+b))) (kC fun j=>zO _ j) (by rw[ax];omega) (ax _ _) ⟨ob,oN,oc,h1⟩) ⟨pS,trivial⟩ rfl ?_;refine aQ 52 (az ob 0 (nb (a+b)) oc) rfl (by rw[Jw _ _ hab];rfl) ?_;refine A4 ?_;refine aF rfl (aj rfl) (fun w hL=>⟨⟨ob,oN,oc,by omega⟩,rfl,?_⟩);exact hL.picks [some 2] ⟨⟨_,rfl,rfl,rfl,rfl,⟨nb (a+b),QV _ _ hab⟩,fun _=>rfl⟩,trivial⟩ rfl rfl
end Go.Proofs.YtaffcpfhedadhaaGreatDoor
namespace Go.Proofs.YtaffcpfhedadhaaGreatDoor
variable[Go.Via.Mo]
open Go Go.RowKit Go.Via
def lD(a b:Nat)(ha:nb a<=1073741000)(hle:b<=a)(x:SR (nb a))(y:SR (nb b)):bW Tryz.prog 115 [⟨x.b,3,NV .i64 (D8 a),x.n,false⟩,⟨y.b,3,NV .i64 (D8 b),y.n,false⟩] [x.v,y.v] (SR (nb (a-b))) SR.v (fun x=>[⟨x.b,3,NV .i64 (D8 (a-b)),x.n,true⟩]):=by
 refine⟨by kernel_rfl,fun w hL0=>?_⟩;have hb:nb b<=1073741000:=Nat.le_trans (gK hle) ha;refine XC 41 Tryz.func115 hL0 ?_;refine A22 ?_;refine El (ι:={x:Nat×Option Nat×Nat×Nat // x.1<=nb a∧x.1<=x.2.2.2∧x.2.2.2<=x.2.2.1}) (fun⟨⟨i,ob,oN,oc⟩,hi,h1,h2⟩=>([(0,x.v),(1,y.v),(5,az ob 0 i oc),(6,aZ (yD a b i)),(7,aZ i)],[⟨x.b,3,NV .i64 (D8 a),x.n,false⟩,⟨y.b,3,NV .i64 (D8 b),y.n,false⟩,⟨ob,3,NV .i64 (row i (BN (a-b))),oN,true⟩],nb a-i)) ⟨(0,none,0,0),Nat.zero_le _,Nat.le_refl _,Nat.le_refl _⟩ ?_ (ht:=⟨rfl,rfl,rfl,(aG rfl (by rw[Yh];rfl)),rfl,trivial⟩) (hL:=(ak [some 0,some 1,none] ⟨pR,pR,⟨rfl,rfl,rfl⟩,trivial⟩ rfl rfl));rintro⟨⟨i,ob,oN,oc⟩,hi,h1,h2⟩;(try dsimp only);replace hi:i<=nb a:=hi;replace h1:i<=oc:=h1;replace h2:oc<=oN:=h2;refine A9 ?_;refine Cd ?_ ?_<;>intro haQ
 ·have hlt:i<nb a:=(by have:=of_decide_eq_true haQ;omega);have haQ:=O0 a b i;have hax:=jW (a/256^i);have hbx:=jW (b/256^i);have hdx:=jW ((a-b)/256^i);refine A8 ?_;refine ai 0 (i) nM wF rfl rfl rfl rfl rfl (by omega) (by omega) (nK (by rw[dw];omega)) (by show 0+Int.toNat _*1=_;omega) ?_;refine(Lo 0 (i)) (by exact(bI (kV (by omega)))) ?_;refine A1 ?_;refine Ar ((((a/256^i%256:Nat):Int)-((yD a b i:Nat):Int))) ?_;refine lw ?_;refine Cd ?_ ?_<;>intro hbQ
  ·have hjb:i<nb b:=(by have:=of_decide_eq_true hbQ;omega);refine A4 ?_;refine ai 1 (i) nM wF rfl rfl rfl rfl rfl (by omega) (by omega) (nK (by rw[dw];omega)) (by show 0+Int.toNat _*1=_;omega) ?_;refine(Lo 1 (i)) (by exact(bI (kV (by omega)))) ?_;refine Ar ((((a/256^i%256:Nat):Int)-((yD a b i:Nat):Int)-((b/256^i%256:Nat):Int))) ?_;refine AL ?_;refine Cd ?_ ?_<;>intro hcQ
   ·obtain⟨hd1,hd2⟩:=VX (m:=a) (n:=b) (i:=i) hle (by have:=of_decide_eq_true hcQ;omega);refine A2 ?_;refine Ar ((((a-b)/256^i%256:Nat):Int)) ?_;refine A7 ?_;exact Wv
   ·obtain⟨hd1,hd2⟩:=VY (m:=a) (n:=b) (i:=i) hle (by have:=of_decide_eq_false hcQ;omega);refine bZ 8 (aZ ((a-b)/256^i%256)) rfl (congrArg (Value.int .i64) (by omega)) ?_;refine A5 ?_;exact Wv
  ·have hjb:nb b<=i:=(by have:=of_decide_eq_false hbQ;omega);refine bZ 8 (.int .i64 ((a/256^i%256:Nat)-(yD a b i:Nat)-(b/256^i%256:Nat))) rfl (congrArg (Value.int .i64) (by rw[jh hjb];omega)) ?_;refine D6 ?_;refine Cd ?_ ?_<;>intro hcQ
   ·obtain⟨hd1,hd2⟩:=VX (m:=a) (n:=b) (i:=i) hle (by have:=of_decide_eq_true hcQ;omega);refine A2 ?_;refine Ar ((((a-b)/256^i%256:Nat):Int)) ?_;refine A7 ?_;exact Wv
   ·obtain⟨hd1,hd2⟩:=VY (m:=a) (n:=b) (i:=i) hle (by have:=of_decide_eq_false hcQ;omega);refine bZ 8 (aZ ((a-b)/256^i%256)) rfl (congrArg (Value.int .i64) (by omega)) ?_;refine A5 ?_;exact Wv
 ·have hge:i=nb a:=(by have:=of_decide_eq_false haQ;omega);subst hge;have hab:a-b<256^nb a:=Nat.lt_of_le_of_lt (Nat.sub_le _ _) (jT a);have hnab:nb (a-b)<=nb a:=gK (Nat.sub_le _ _);refine A8 ?_;refine gU [_] [2] rfl rfl rfl (iZ (row (nb a) (BN (a-b))) (kC fun j=>zO _ j) (by rw[ax];omega) (ax _ _) ⟨ob,oN,oc,h1⟩) ⟨pS,trivial⟩ rfl ?_;refine aQ 40 (az ob 0 (nb (a-b)) oc) rfl (by rw[Jw _ _ hab];rfl) ?_;refine A4 ?_;refine aF rfl (aj rfl) (fun w hL=>⟨⟨ob,oN,oc,by omega⟩,rfl,?_⟩);exact hL.picks [some 2] ⟨⟨_,rfl,rfl,rfl,rfl,⟨nb (a-b),QV _ _ hab⟩,fun _=>rfl⟩,trivial⟩ rfl rfl
end Go.Proofs.YtaffcpfhedadhaaGreatDoor
