/-
  Part 26 (chapter 32): lemmas, walks. Each theorem states its own conditions.
-/
import Derived.Test.YtaffcpfhedadhaaGreatDoorA24
import Derived.Test.YtaffcpfhedadhaaGreatDoorA25
set_option linter.all false
set_option maxRecDepth 20000
set_option maxHeartbeats 20000000
section
variable{P Q:Prop}{T:Type}{R:T->Prop}
def qln(h:P:=by refine(Bl 1 [(0,_)]) (pK) (fun g0=>?_);refine mV (s:=1) (len:=i) (n2:=1) 2 3 (fun r=>[_,_,⟨some r.g,3,NV .i64 (row (i+1) (Ef (a-b))),r.n,true⟩,⟨some g0,3,_,1,true⟩]) yj el3 rfl rfl rfl rfl rfl rfl rfl rfl rfl rfl rfl rfl PV ae Vy rfl (Go.Via.one_cell _ _) ae (fun r=>congrArg (fun c=>[_,_,(⟨some r.g,3,c,r.n,true⟩:aH),⟨some g0,3,_,1,true⟩]) (FP _ _ _ _ (rfl))) (fun r=>?_);refine A6 ?_;refine dP ?_;exact Nl ⟨(i+1,some r.g,r.n,r.cap),hlt,r.h,Vz⟩ (hμ:=(by show nb a-(i+1)<nb a-i;omega)) (ht:=⟨rfl,rfl,rfl,(aQ rfl (by rw[hd2];rfl)),rfl,trivial⟩) (hL:=fF.auto)):=h
def qlo(h:P:=by refine Ar (((i+k:Nat):Int)) ?_;refine A1 ?_;refine(Dv ((Eg a b i k%256:Nat):Int)) (congrArg some (jg _ 256 rfl rfl)) ?_;refine A1 ?_;refine(Dv ((AZ a b i (k+1):Nat):Int)) (by exact(congrArg some ((IG _ 256 rfl rfl (by have:=qeQ a b i k;omega)).trans (by rw[LW])))) ?_;refine Ix 2 (i+k) ?_;refine(S1 2 (i+k) [_,_,⟨some g0,3,_,_,true⟩] (NV .i64 (row (nb a+nb b+1) (LV a b i (k+1))))) o8 (by exact(by rw[lH,jH (fun j _=>qb4 a b i k j)])) ?_;refine A6 ?_;refine Ar (((k+1:Nat):Int)) ?_;refine A3 ?_;exact Nl ⟨k+1,Nat.succ_le_succ hkm⟩ (hμ:=(by show nb b+1-(k+1)<nb b+1-k;omega))):=h
def qlp(h:P:=by have hcl:=Cj a b i k;have hvx:=lZ (tC a b i/256^(i+k));have hdm:=U7 (a/256^i) (b/256^k);have hax:=lZ (a/256^i);have hbx:=lZ (b/256^k);refine Di [] ?_;refine A3 ?_;refine PW ?_;refine A2 ?_;refine aG 1 (k) yj Dt rfl rfl rfl rfl rfl ae ae (Dn F7) F6 ?_;refine(Lo 1 (k)) IX ?_;refine(Aq ((a/256^i%256*(b/256^k%256):Nat):Int)) (by exact(congrArg some (wi (by rw[<-Int.natCast_mul];omega) (by rw[<-Int.natCast_mul];omega) (Int.natCast_mul _ _).symm))) ?_;refine(Aq ((Eg a b i k:Nat):Int)) (by exact(congrArg some (wi ae ae (by unfold Eg;omega)))) ?_;refine A7 ?_;exact qlo):=h
def qlq(h:P:=by
 refine Cd ?_ ?_<;>intro hcQ
 ·obtain⟨hd1,hd2⟩:=qjd (m:=a) (n:=b) (i:=i) hle qL;refine A2 ?_;refine Ar ((((a-b)/256^i%256:Nat):Int)) ?_;refine A7 ?_;exact qln
 ·obtain⟨hd1,hd2⟩:=qje (m:=a) (n:=b) (i:=i) hle sJ;refine dF 8 (bH ((a-b)/256^i%256)) rfl (congrArg (Value.int .i64) ae) ?_;refine A5 ?_;exact qln):=h
def qfn(h:P:=by
 have hcl:=Cj a b i k;have hvx:=lZ (tC a b i/256^(i+k));have hdm:=U7 (a/256^i) (b/256^k);have hax:=lZ (a/256^i);have hbx:=lZ (b/256^k);refine dF 9 (bH (Eg a b i k)) rfl (congrArg (Value.int .i64) (by unfold Eg;rw[yx hkj];omega)) ?_;have hS:Eg a b i k<131072:=by rw[Hw a b i hkj];omega
 refine A6 ?_;exact qlo):=h
def qlr(h:P:=by exact(fZ ((gm fM).trans (by rw[qjg])))):=h
end
namespace Go.Proofs.YtaffcpfhedadhaaGreatDoor
variable[Go.Via.Mo]
open Go Go.RowKit Go.Via
def xG(a b:Nat)(ha:nb a<=1073741000)(hle:b<=a)(x:SR (nb a))(y:SR (nb b)):cZ Tryz.prog 115 [⟨x.b,3,NV .i64 (D8 a),x.n,false⟩,⟨y.b,3,NV .i64 (D8 b),y.n,false⟩] [x.v,y.v] (SR (nb (a-b))) SR.v (fun x=>[⟨x.b,3,NV .i64 (D8 (a-b)),x.n,true⟩]):=by
 refine⟨ak,fun w hL0=>?_⟩;have hb:nb b<=1073741000:=Nat.le_trans (gG hle) ha;refine cB2 41 Tryz.func115 hL0 ?_;refine A22 ?_;refine El (ι:={x:Nat×Option Nat×Nat×Nat // x.1<=nb a∧x.1<=x.2.2.2∧x.2.2.2<=x.2.2.1}) (fun⟨⟨i,ob,oN,oc⟩,hi,h1,h2⟩=>([(0,x.v),(1,y.v),(5,aA ob 0 i oc),(6,bH (zf a b i)),(7,bH i)],[⟨x.b,3,NV .i64 (D8 a),x.n,false⟩,⟨y.b,3,NV .i64 (D8 b),y.n,false⟩,⟨ob,3,NV .i64 (row i (Ef (a-b))),oN,true⟩],nb a-i)) ⟨(0,none,0,0),Nat.zero_le _,Nat.le_refl _,Nat.le_refl _⟩ ?_ (ht:=⟨rfl,rfl,rfl,(aQ rfl (by rw[qbY];rfl)),rfl,trivial⟩) (hL:=(az [some 0,some 1,none] ⟨pR,pR,⟨rfl,rfl,rfl⟩,trivial⟩ rfl rfl));rintro⟨⟨i,ob,oN,oc⟩,hi,h1,h2⟩;(try dsimp only);replace hi:i<=nb a:=hi;replace h1:i<=oc:=h1;replace h2:oc<=oN:=h2;refine A9 ?_;refine Cd ?_ ?_<;>intro haQ
 ·have hlt:i<nb a:=iH;have haQ:=Rn a b i;have hax:=lZ (a/256^i);have hbx:=lZ (b/256^i);have hdx:=lZ ((a-b)/256^i);refine A8 ?_;refine PW ?_;refine A1 ?_;refine Ar ((((a/256^i%256:Nat):Int)-((zf a b i:Nat):Int))) ?_;refine nI ?_;refine Cd ?_ ?_<;>intro hbQ
  ·have hjb:i<nb b:=lu;refine A4 ?_;refine aG 1 (i) yj Dt rfl rfl rfl rfl rfl ae ae (Dn F7) F6 ?_;refine(Lo 1 (i)) IX ?_;refine Ar ((((a/256^i%256:Nat):Int)-((zf a b i:Nat):Int)-((b/256^i%256:Nat):Int))) ?_;refine Ed ?_;exact qlq
  ·have hjb:nb b<=i:=lw;refine dF 8 (.int .i64 ((a/256^i%256:Nat)-(zf a b i:Nat)-(b/256^i%256:Nat))) rfl (congrArg (Value.int .i64) (by rw[yx hjb];omega)) ?_;refine EK ?_;exact qlq
 ·have hge:i=nb a:=iK;subst hge;have hab:a-b<256^nb a:=Nat.lt_of_le_of_lt (Nat.sub_le _ _) (kH a);have hnab:nb (a-b)<=nb a:=gG (Nat.sub_le _ _);refine A8 ?_;refine gJ [_] [2] rfl rfl rfl (jU (row (nb a) (Ef (a-b))) (kY fun j=>AY _ j) oz (dB _ _) ⟨ob,oN,oc,h1⟩) ⟨pS,trivial⟩ rfl ?_;refine aS 40 (aA ob 0 (nb (a-b)) oc) rfl (by rw[LU _ _ hab];rfl) ?_;refine A4 ?_;refine aO rfl (au rfl) (fun w hL=>⟨⟨ob,oN,oc,ae⟩,rfl,?_⟩);exact hL.picks [some 2] ⟨⟨_,rfl,rfl,rfl,rfl,⟨nb (a-b),U5 _ _ hab⟩,fun _=>rfl⟩,trivial⟩ rfl rfl
end Go.Proofs.YtaffcpfhedadhaaGreatDoor
namespace Go.Proofs.YtaffcpfhedadhaaGreatDoor
variable[Go.Via.Mo]
open Go Go.RowKit Go.Via
def jh(a b:Nat)(ha:nb a<=500000000)(hb:nb b<=500000000)(x:SR (nb a))(y:SR (nb b)):cZ Tryz.prog 71 [⟨x.b,3,NV .i64 (D8 a),x.n,false⟩,⟨y.b,3,NV .i64 (D8 b),y.n,false⟩] [x.v,y.v] (SR (nb (a*b))) SR.v (fun x=>[⟨x.b,3,NV .i64 (D8 (a*b)),x.n,true⟩]):=by
 refine Z5 67 Tryz.func71 fun w hL0=>?_;refine qC ?_;refine Ar (((nb a+nb b:Nat):Int)) ?_;refine Ar ((((nb a+nb b+1):Nat):Int)) ?_;refine fG (c:=(nb a+nb b+1)) (NV .i64 (row (nb a+nb b+1) (Eh a b 0))) (fun g=>[_,_,⟨some g,3,_,_,true⟩]) yj el3 rfl rfl rfl rfl rfl rfl ae (by rw[dh (g:=fun _=>0) (fun j _=>qb6 a b j),oC,iC]) (fun _=>rfl) (fun g0=>?_);refine lW ?_;refine El (ι:={i:Nat // i<=nb a}) (fun⟨i,hi⟩=>([(0,x.v),(1,y.v),(5,aA (some g0) 0 (nb a+nb b+1) (nb a+nb b+1)),(6,bH i)],[⟨x.b,3,NV .i64 (D8 a),x.n,false⟩,⟨y.b,3,NV .i64 (D8 b),y.n,false⟩,⟨some g0,3,NV .i64 (row (nb a+nb b+1) (Eh a b i)),(nb a+nb b+1),true⟩],nb a-i)) ⟨0,Nat.zero_le _⟩ ?_;rintro⟨i,hi⟩;(try dsimp only);refine A9 ?_;refine Cd ?_ ?_<;>intro haQ
 ·have hlt:i<nb a:=iH;refine Ed ?_;refine El (ι:={k:Nat // k<=nb b+1}) (fun⟨k,hk⟩=>([(0,x.v),(1,y.v),(5,aA (some g0) 0 (nb a+nb b+1) (nb a+nb b+1)),(6,bH i),(7,bH (AZ a b i k)),(8,bH k)],[⟨x.b,3,NV .i64 (D8 a),x.n,false⟩,⟨y.b,3,NV .i64 (D8 b),y.n,false⟩,⟨some g0,3,NV .i64 (row (nb a+nb b+1) (LV a b i k)),(nb a+nb b+1),true⟩],nb b+1-k)) ⟨0,Nat.zero_le _⟩ ?_ (ht:=⟨rfl,rfl,rfl,rfl,(aQ rfl (by rw[qb3];rfl)),rfl,trivial⟩) (hL:=(oJ (congrArg (fun c=>[⟨x.b,3,NV .i64 (D8 a),x.n,false⟩,⟨y.b,3,NV .i64 (D8 b),y.n,false⟩,(⟨some g0,3,NV .i64 c,(nb a+nb b+1),true⟩:aH)]) (dh fun j _=>(qb5 a b i j).symm))));rintro⟨k,hk⟩;(try dsimp only);refine A8 ?_;refine Rs 27 ?_ ?_<;>intro hbQ
  ·have hkb:k<nb b:=lu;have hkm:k<=nb b:=ae
   have hcl:=Cj a b i k;have hvx:=lZ (tC a b i/256^(i+k));have hdm:=U7 (a/256^i) (b/256^k);have hax:=lZ (a/256^i);have hbx:=lZ (b/256^k);refine Ed ?_;refine Ar (((i+k:Nat):Int)) ?_;refine Ix 2 (i+k) ?_;refine(Lo 2 (i+k)) qlr ?_;refine A1 ?_;refine Ar (((tC a b i/256^(i+k)%256+AZ a b i k:Nat):Int)) ?_;refine nI ?_;refine Cd ?_ ?_<;>intro hcQ
   ·have hkj:k<nb b:=qL;exact qlp
   ·have hkj:nb b<=k:=sJ;exact qfn
  ·have hkb:nb b<=k:=lw;refine A5 ?_;refine Cd ?_ ?_<;>intro hcQ
   ·have hkm:=qeO a b i k qL;have hcl:=Cj a b i k;have hvx:=lZ (tC a b i/256^(i+k));have hdm:=U7 (a/256^i) (b/256^k);have hax:=lZ (a/256^i);have hbx:=lZ (b/256^k);refine A9 ?_;refine Ar (((i+k:Nat):Int)) ?_;refine Ix 2 (i+k) ?_;refine(Lo 2 (i+k)) qlr ?_;refine A1 ?_;refine Ar (((tC a b i/256^(i+k)%256+AZ a b i k:Nat):Int)) ?_;refine nI ?_;refine Cd ?_ ?_<;>intro hdQ
    ·have hkj:k<nb b:=uX;exact qlp
    ·have hkj:nb b<=k:=wR;exact qfn
   ·have hc0:AZ a b i k=0:=sJ
    refine A8 ?_;refine dP ?_;exact Nl ⟨i+1,hlt⟩ (hL:=(oJ (congrArg (fun c=>[⟨x.b,3,NV .i64 (D8 a),x.n,false⟩,⟨y.b,3,NV .i64 (D8 b),y.n,false⟩,(⟨some g0,3,NV .i64 c,(nb a+nb b+1),true⟩:aH)]) (dh fun j _=>qb7 a b i k j hkb hc0))))
 ·have hge:i=nb a:=iK;subst hge;refine A8 ?_;refine gJ [_] [2] rfl rfl rfl (jU (row (nb a+nb b+1) (Eh a b (nb a))) (kY fun j=>ZQ _ _ _ j) oz (dB _ _) ⟨some g0,_,_,Nat.le_refl _⟩) ⟨pS,trivial⟩ rfl ?_;refine aS 66 (aA (some g0) 0 (nb (a*b)) (nb a+nb b+1)) rfl (by rw[U8];rfl) ?_;refine A4 ?_;refine aO rfl (au rfl) (fun w hL=>⟨⟨some g0,(nb a+nb b+1),(nb a+nb b+1),Nat.le_trans (oK a b) ae⟩,rfl,?_⟩);exact hL.picks [some 2] ⟨⟨_,rfl,rfl,rfl,rfl,⟨nb (a*b),qeP a b⟩,fun _=>rfl⟩,trivial⟩ rfl rfl
end Go.Proofs.YtaffcpfhedadhaaGreatDoor
namespace Go.Via
open Go
structure qs0(m:Int)(lo hi:Int->Int)(w u:PU):Prop where
 f:gq w.i.f
 t:gq w.i.t
 b:aK iD w.i.b=lo (aK iD u.i.b)
 e:aK iD w.i.e=hi (aK iD u.i.e)
 lt:aK iD w.i.b<aK iD w.i.e
 agr:w.f=u.f∨(2*m<=aK iD w.i.b∧aK iD w.i.e<=2*m+1∧sG (qx w.f) (m:Rat)=sG (qx u.f) (m:Rat)∧sG (qy w.f) (m:Rat)=sG (qy u.f) (m:Rat))
structure qr4(z x:Iv×Qd):Prop where
 f:gq z.1.f
 t:gq z.1.t
 lt:aK iD z.1.b<aK iD z.1.e
 b:aK iD x.1.b<=aK iD z.1.b
 e:aK iD z.1.e<=aK iD x.1.e
 same:ay (z.1,x.2)=ay z
end Go.Via
namespace Go.Via
open Go
structure qs1(l:List lM)(M:Rat):Prop where
 le:∀p∈l,∀u,p.a=rl u∨p.b=rl u->u<=M
 mem:∃p∈l,p.a=rl M∨p.b=rl M
section
variable{m:Int}{a b:List PU}
theorem qfo{a b:List PU}{z:Iv×Qd}:z∈flatK uB a b↔∃x∈a,∃y∈b,uB x y=some z:=by
 unfold flatK;rw[List.mem_flatMap]
 constructor
 ·rintro⟨x,hx,h⟩;obtain⟨y,hy,e⟩:=List.mem_filterMap.1 h;exact⟨x,hx,y,hy,e⟩
 ·rintro⟨x,hx,y,hy,e⟩;exact⟨x,hx,List.mem_filterMap.2 ⟨y,hy,e⟩⟩
end
end Go.Via
