/-
  Part 11 (chapter 32): lemmas, walks. Each theorem states its own conditions.
-/
import Derived.Test.YtaffcpfhedadhaaGreatDoorA03
import Derived.Test.YtaffcpfhedadhaaGreatDoorA04
import Derived.Test.YtaffcpfhedadhaaGreatDoorA05
import Derived.Test.YtaffcpfhedadhaaGreatDoorA06
import Derived.Test.YtaffcpfhedadhaaGreatDoorA07
import Derived.Test.YtaffcpfhedadhaaGreatDoorA08
import Derived.Test.YtaffcpfhedadhaaGreatDoorA10
set_option linter.all false
set_option maxRecDepth 20000
set_option maxHeartbeats 20000000
namespace Go.Proofs.YtaffcpfhedadhaaGreatDoor
variable[Go.Via.Mo]
open Go Go.RowKit Go.Via
def iZ(a b:Nat)(ha:nb a<=500000000)(hb:nb b<=500000000)(x:SR (nb a))(y:SR (nb b)):bZ Tryz.prog 71 [⟨x.b,3,NV .i64 (D8 a),x.n,false⟩,⟨y.b,3,NV .i64 (D8 b),y.n,false⟩] [x.v,y.v] (SR (nb (a*b))) SR.v (fun x=>[⟨x.b,3,NV .i64 (D8 (a*b)),x.n,true⟩]):=by
 refine VU 67 Tryz.func71 fun w hL0=>?_;refine qf ?_;refine Ar (((nb a+nb b:Nat):Int)) ?_;refine Ar ((((nb a+nb b+1):Nat):Int)) ?_;refine fC (c:=(nb a+nb b+1)) (NV .i64 (row (nb a+nb b+1) (CQ a b 0))) (fun g=>[_,_,⟨some g,3,_,_,true⟩]) iG Hr rfl rfl rfl rfl rfl rfl (by omega) (by rw[bu (g:=fun _=>0) (fun j _=>Yi a b j),kX,dX]) (fun _=>rfl) (fun g0=>?_);refine kL ?_;refine El (ι:={i:Nat // i<=nb a}) (fun⟨i,hi⟩=>([(0,x.v),(1,y.v),(5,aI (some g0) 0 (nb a+nb b+1) (nb a+nb b+1)),(6,bV i)],[⟨x.b,3,NV .i64 (D8 a),x.n,false⟩,⟨y.b,3,NV .i64 (D8 b),y.n,false⟩,⟨some g0,3,NV .i64 (row (nb a+nb b+1) (CQ a b i)),(nb a+nb b+1),true⟩],nb a-i)) ⟨0,Nat.zero_le _⟩ ?_;rintro⟨i,hi⟩;(try dsimp only);refine A9 ?_;refine Cd ?_ ?_<;>intro hb1
 ·have hlt:i<nb a:=(by have:=of_decide_eq_true hb1;omega);refine y8 ?_;refine El (ι:={k:Nat // k<=nb b+1}) (fun⟨k,hk⟩=>([(0,x.v),(1,y.v),(5,aI (some g0) 0 (nb a+nb b+1) (nb a+nb b+1)),(6,bV i),(7,bV (wR a b i k)),(8,bV k)],[⟨x.b,3,NV .i64 (D8 a),x.n,false⟩,⟨y.b,3,NV .i64 (D8 b),y.n,false⟩,⟨some g0,3,NV .i64 (row (nb a+nb b+1) (Ef a b i k)),(nb a+nb b+1),true⟩],nb b+1-k)) ⟨0,Nat.zero_le _⟩ ?_ (ht:=⟨rfl,rfl,rfl,rfl,(aB rfl (by rw[Yg];rfl)),rfl,trivial⟩) (hL:=(jq (congrArg (fun c=>[⟨x.b,3,NV .i64 (D8 a),x.n,false⟩,⟨y.b,3,NV .i64 (D8 b),y.n,false⟩,(⟨some g0,3,NV .i64 c,(nb a+nb b+1),true⟩:aF)]) (bu fun j _=>(Yh a b i j).symm))));rintro⟨k,hk⟩;(try dsimp only);refine A8 ?_;refine Rs 27 ?_ ?_<;>intro hb3
  ·have hkb:k<nb b:=(by have:=of_decide_eq_true hb3;omega);have hkm:k<=nb b:=by omega
   have hcl:=uY a b i k;have hvx:=jS (qj a b i/256^(i+k));have hdm:=JK (a/256^i) (b/256^k);have hax:=jS (a/256^i);have hbx:=jS (b/256^k);refine y8 ?_;refine Ar (((i+k:Nat):Int)) ?_;refine Ix 2 (i+k) ?_;refine(Lo 2 (i+k)) (by exact(aZ ((bG (by omega)).trans (by rw[V9])))) ?_;refine A1 ?_;refine Ar (((qj a b i/256^(i+k)%256+wR a b i k:Nat):Int)) ?_;refine lK ?_;refine Cd ?_ ?_<;>intro hb4
   ·have hkj:k<nb b:=(by have:=of_decide_eq_true hb4;omega);have hcl:=uY a b i k;have hvx:=jS (qj a b i/256^(i+k));have hdm:=JK (a/256^i) (b/256^k);have hax:=jS (a/256^i);have hbx:=jS (b/256^k);refine Di [] ?_;refine A3 ?_;refine au 0 (i) iG sV rfl rfl rfl rfl rfl (by omega) (by omega) (kE (by rw[bI];omega)) (by show 0+Int.toNat _*1=_;omega) ?_;refine(Lo 0 (i)) (by exact(aZ (iQ (by omega)))) ?_;refine A2 ?_;refine au 1 (k) iG sV rfl rfl rfl rfl rfl (by omega) (by omega) (kE (by rw[bI];omega)) (by show 0+Int.toNat _*1=_;omega) ?_;refine(Lo 1 (k)) (by exact(aZ (iQ (by omega)))) ?_;refine(Aq ((a/256^i%256*(b/256^k%256):Nat):Int)) (by exact(congrArg some (wi (by rw[<-Int.natCast_mul];omega) (by rw[<-Int.natCast_mul];omega) (Int.natCast_mul _ _).symm))) ?_;refine(Aq ((tK a b i k:Nat):Int)) (by exact(congrArg some (wi (by omega) (by omega) (by unfold tK;omega)))) ?_;refine A7 ?_;refine Ar (((i+k:Nat):Int)) ?_;refine A1 ?_;refine(Dv ((tK a b i k%256:Nat):Int)) (congrArg some (dM _ 256 rfl rfl)) ?_;refine A1 ?_;refine(Dv ((wR a b i (k+1):Nat):Int)) (by exact(congrArg some ((lV _ 256 rfl rfl (by have:=Eg a b i k;omega)).trans (by rw[tN])))) ?_;refine Ix 2 (i+k) ?_;refine(S1 2 (i+k) [_,_,⟨some g0,3,_,_,true⟩] (NV .i64 (row (nb a+nb b+1) (Ef a b i (k+1))))) (by exact(by rw[az,ah];omega)) (by exact(by rw[cZ,bJ (fun j _=>AQ a b i k j)])) ?_;refine A6 ?_;refine Ar (((k+1:Nat):Int)) ?_;refine A3 ?_;exact Nl ⟨k+1,Nat.succ_le_succ hkm⟩ (hμ:=(by show nb b+1-(k+1)<nb b+1-k;omega))
   ·have hkj:nb b<=k:=(by have:=of_decide_eq_false hb4;omega);have hcl:=uY a b i k;have hvx:=jS (qj a b i/256^(i+k));have hdm:=JK (a/256^i) (b/256^k);have hax:=jS (a/256^i);have hbx:=jS (b/256^k);refine bQ 9 (bV (tK a b i k)) rfl (congrArg (Value.int .i64) (by unfold tK;rw[jc hkj];omega)) ?_;have hS:tK a b i k<131072:=by rw[AU a b i hkj];omega
    refine A6 ?_;refine Ar (((i+k:Nat):Int)) ?_;refine A1 ?_;refine(Dv ((tK a b i k%256:Nat):Int)) (congrArg some (dM _ 256 rfl rfl)) ?_;refine A1 ?_;refine(Dv ((wR a b i (k+1):Nat):Int)) (by exact(congrArg some ((lV _ 256 rfl rfl (by have:=Eg a b i k;omega)).trans (by rw[tN])))) ?_;refine Ix 2 (i+k) ?_;refine(S1 2 (i+k) [_,_,⟨some g0,3,_,_,true⟩] (NV .i64 (row (nb a+nb b+1) (Ef a b i (k+1))))) (by exact(by rw[az,ah];omega)) (by exact(by rw[cZ,bJ (fun j _=>AQ a b i k j)])) ?_;refine A6 ?_;refine Ar (((k+1:Nat):Int)) ?_;refine A3 ?_;exact Nl ⟨k+1,Nat.succ_le_succ hkm⟩ (hμ:=(by show nb b+1-(k+1)<nb b+1-k;omega))
  ·have hkb:nb b<=k:=(by have:=of_decide_eq_false hb3;omega);refine A5 ?_;refine Cd ?_ ?_<;>intro hb4
   ·have hkm:=qaC a b i k (by have:=of_decide_eq_true hb4;omega);have hcl:=uY a b i k;have hvx:=jS (qj a b i/256^(i+k));have hdm:=JK (a/256^i) (b/256^k);have hax:=jS (a/256^i);have hbx:=jS (b/256^k);refine A9 ?_;refine Ar (((i+k:Nat):Int)) ?_;refine Ix 2 (i+k) ?_;refine(Lo 2 (i+k)) (by exact(aZ ((bG (by omega)).trans (by rw[V9])))) ?_;refine A1 ?_;refine Ar (((qj a b i/256^(i+k)%256+wR a b i k:Nat):Int)) ?_;refine lK ?_;refine Cd ?_ ?_<;>intro hb5
    ·have hkj:k<nb b:=(by have:=of_decide_eq_true hb5;omega);have hcl:=uY a b i k;have hvx:=jS (qj a b i/256^(i+k));have hdm:=JK (a/256^i) (b/256^k);have hax:=jS (a/256^i);have hbx:=jS (b/256^k);refine Di [] ?_;refine A3 ?_;refine au 0 (i) iG sV rfl rfl rfl rfl rfl (by omega) (by omega) (kE (by rw[bI];omega)) (by show 0+Int.toNat _*1=_;omega) ?_;refine(Lo 0 (i)) (by exact(aZ (iQ (by omega)))) ?_;refine A2 ?_;refine au 1 (k) iG sV rfl rfl rfl rfl rfl (by omega) (by omega) (kE (by rw[bI];omega)) (by show 0+Int.toNat _*1=_;omega) ?_;refine(Lo 1 (k)) (by exact(aZ (iQ (by omega)))) ?_;refine(Aq ((a/256^i%256*(b/256^k%256):Nat):Int)) (by exact(congrArg some (wi (by rw[<-Int.natCast_mul];omega) (by rw[<-Int.natCast_mul];omega) (Int.natCast_mul _ _).symm))) ?_;refine(Aq ((tK a b i k:Nat):Int)) (by exact(congrArg some (wi (by omega) (by omega) (by unfold tK;omega)))) ?_;refine A7 ?_;refine Ar (((i+k:Nat):Int)) ?_;refine A1 ?_;refine(Dv ((tK a b i k%256:Nat):Int)) (congrArg some (dM _ 256 rfl rfl)) ?_;refine A1 ?_;refine(Dv ((wR a b i (k+1):Nat):Int)) (by exact(congrArg some ((lV _ 256 rfl rfl (by have:=Eg a b i k;omega)).trans (by rw[tN])))) ?_;refine Ix 2 (i+k) ?_;refine(S1 2 (i+k) [_,_,⟨some g0,3,_,_,true⟩] (NV .i64 (row (nb a+nb b+1) (Ef a b i (k+1))))) (by exact(by rw[az,ah];omega)) (by exact(by rw[cZ,bJ (fun j _=>AQ a b i k j)])) ?_;refine A6 ?_;refine Ar (((k+1:Nat):Int)) ?_;refine A3 ?_;exact Nl ⟨k+1,Nat.succ_le_succ hkm⟩ (hμ:=(by show nb b+1-(k+1)<nb b+1-k;omega))
    ·have hkj:nb b<=k:=(by have:=of_decide_eq_false hb5;omega);have hcl:=uY a b i k;have hvx:=jS (qj a b i/256^(i+k));have hdm:=JK (a/256^i) (b/256^k);have hax:=jS (a/256^i);have hbx:=jS (b/256^k);refine bQ 9 (bV (tK a b i k)) rfl (congrArg (Value.int .i64) (by unfold tK;rw[jc hkj];omega)) ?_;have hS:tK a b i k<131072:=by rw[AU a b i hkj];omega
     refine A6 ?_;refine Ar (((i+k:Nat):Int)) ?_;refine A1 ?_;refine(Dv ((tK a b i k%256:Nat):Int)) (congrArg some (dM _ 256 rfl rfl)) ?_;refine A1 ?_;refine(Dv ((wR a b i (k+1):Nat):Int)) (by exact(congrArg some ((lV _ 256 rfl rfl (by have:=Eg a b i k;omega)).trans (by rw[tN])))) ?_;refine Ix 2 (i+k) ?_;refine(S1 2 (i+k) [_,_,⟨some g0,3,_,_,true⟩] (NV .i64 (row (nb a+nb b+1) (Ef a b i (k+1))))) (by exact(by rw[az,ah];omega)) (by exact(by rw[cZ,bJ (fun j _=>AQ a b i k j)])) ?_;refine A6 ?_;refine Ar (((k+1:Nat):Int)) ?_;refine A3 ?_;exact Nl ⟨k+1,Nat.succ_le_succ hkm⟩ (hμ:=(by show nb b+1-(k+1)<nb b+1-k;omega))
   ·have hc0:wR a b i k=0:=by have:=of_decide_eq_false hb4;omega
    refine A8 ?_;refine Ar (((i+1:Nat):Int)) ?_;refine A3 ?_;exact Nl ⟨i+1,hlt⟩ (hL:=(jq (congrArg (fun c=>[⟨x.b,3,NV .i64 (D8 a),x.n,false⟩,⟨y.b,3,NV .i64 (D8 b),y.n,false⟩,(⟨some g0,3,NV .i64 c,(nb a+nb b+1),true⟩:aF)]) (bu fun j _=>Yj a b i k j hkb hc0))))
 ·have hge:i=nb a:=(by have:=of_decide_eq_false hb1;omega);subst hge;refine A8 ?_;refine gq [_] [2] rfl rfl rfl (iT (row (nb a+nb b+1) (CQ a b (nb a))) (jY fun j=>We _ _ _ j) (by rw[ah];omega) (ah _ _) ⟨some g0,_,_,Nat.le_refl _⟩) ⟨pS,trivial⟩ rfl ?_;refine aW 66 (aI (some g0) 0 (nb (a*b)) (nb a+nb b+1)) rfl (by rw[QU];rfl) ?_;refine A4 ?_;refine aO rfl (ai rfl) (fun w hL=>⟨⟨some g0,(nb a+nb b+1),(nb a+nb b+1),Nat.le_trans (nT a b) (by omega)⟩,rfl,?_⟩);exact hL.picks [some 2] ⟨⟨_,rfl,rfl,rfl,rfl,⟨nb (a*b),qaD a b⟩,fun _=>rfl⟩,trivial⟩ rfl rfl
end Go.Proofs.YtaffcpfhedadhaaGreatDoor
namespace Go.Via
open Go Go.RowKit
def qaY{q:Rat}:∀(z:SR (nb q.num.natAbs)×SR (nb q.den)),∀c∈([⟨z.1.b,3,NV .i64 (D8 q.num.natAbs),z.1.n,true⟩,⟨z.2.b,3,NV .i64 (D8 q.den),z.2.n,true⟩]:List aF),c.own=true:=by
 intro z c hc;simp only[List.mem_cons,List.mem_nil_iff,or_false] at hc;rcases hc with rfl|rfl<;>rfl
def im(z:Int)(i:Nat):Int:=if z<0 then-((z.natAbs/256^i:Nat):Int) else((z.natAbs/256^i:Nat):Int)
def imR(z:Int)(i:Nat):Int:=if z<0 then-((pz z.natAbs i:Nat):Int) else((pz z.natAbs i:Nat):Int)
def qep(z:Int):im z 0=z:=by unfold im;rw[Nat.pow_zero,Nat.div_one];split<;>omega
def qeq(z:Int)(i:Nat):(im z i).tmod 256=imR z i:=by
 unfold im imR pz
 split
 ·rw[Int.neg_tmod,show(256:Int)=((256:Nat):Int) from rfl,<-Int.ofNat_tmod]
 ·rw[show(256:Int)=((256:Nat):Int) from rfl,<-Int.ofNat_tmod]
def qer{z:Int}{i:Nat}(h:imR z i<0):IntKind.i64.wrap (0-imR z i)=((pz z.natAbs i:Nat):Int):=by
 have hd:=zG z.natAbs i;unfold imR at*
 by_cases hz:z<0
 ·rw[if_pos hz] at*;exact wi (by omega) (by omega) (by omega)
 ·rw[if_neg hz] at*;omega
def qes{z:Int}{i:Nat}(h:¬imR z i<0):imR z i=((pz z.natAbs i:Nat):Int):=by
 unfold imR at*
 by_cases hz:z<0
 ·rw[if_pos hz] at*;omega
 ·rw[if_neg hz] at*
def qaZ{z:Int}{i:Nat}(h1: -9223372036854775808<=z)(h2:z<=9223372036854775807): -9223372036854775808<=im z i∧im z i<=9223372036854775807:=by
 have h3:z.natAbs/256^i<=z.natAbs:=Nat.div_le_self _ _;unfold im
 generalize z.natAbs/256^i=k at*
 split<;>omega
def WF(z:Int)(i:Nat)(h1: -9223372036854775808<=z)(h2:z<=9223372036854775807):IntKind.i64.wrap ((im z i).tdiv 256)=im z (i+1):=by
 have e:(im z i).tdiv 256=im z (i+1):=by
  unfold im
  split
  ·rw[Int.neg_tdiv,show(256:Int)=((256:Nat):Int) from rfl,<-Int.ofNat_tdiv,UA]
  ·rw[show(256:Int)=((256:Nat):Int) from rfl,<-Int.ofNat_tdiv,UA]
 have:=qaZ (i:=i+1) h1 h2;exact wi (by rw[e];omega) (by rw[e];omega) e
def qjd{z:Int}{i:Nat}(h:(im z i !=0)=true):i<nb z.natAbs:=by
 have h1:im z i≠0:=(by simpa using h);refine Na (Nat.pos_of_ne_zero fun e=>h1 ?_);unfold im;rw[e];split<;>rfl
def qg8{z:Int}{i:Nat}(h:(im z i !=0)=false)(hi:i<=nb z.natAbs):i=nb z.natAbs:=by
 have h1:im z i=0:=(by simpa using h);refine Nb (n:=z.natAbs) ?_ hi;unfold im at h1
 split at h1<;>omega
def qfE{a:Int}(h1: -9223372036854775808<=a)(h2:a<=9223372036854775807):jf a<=8388608:=by
 have:jf a<=8:=nC (by omega);omega
def qa1(z:Int):bP (z:Rat)<=nb z.natAbs+1:=by
 show max (nb z.natAbs) (nb 1)<=_;rw[oU];omega
theorem qg9(q:Rat):dm (-q)=dm q:=by unfold dm;rw[Rat.neg_den]
theorem qfF(q:Rat):Q (-q)= .agg #[.bool (decide (-q.num<0)),.string (bF q.num.natAbs),.bool false,.string (dm q)]:=by
 unfold Q;rw[qg9,Rat.neg_num,Int.natAbs_neg]
theorem qha(n:Nat):(bF n !=⟨#[]⟩)=decide (n≠0):=by
 rw[sU]
def qhb{q:Rat}(h:(!decide (q.num<0))=true):Value.agg #[.bool (bF q.num.natAbs !=⟨#[]⟩),.string (bF q.num.natAbs),.bool false,.string (dm q)]=Q (-q):=by
 rw[qfF,qha];have h1:¬q.num<0:=by simpa using h
 rw[show decide (q.num.natAbs≠0)=decide (-q.num<0) from decide_eq_decide.2 ⟨fun _=>by omega,fun _=>by omega⟩]
def qhc{q:Rat}(h:(!decide (q.num<0))=false):Value.agg #[.bool false,.string (bF q.num.natAbs),.bool false,.string (dm q)]=Q (-q):=by
 rw[qfF];have h1:q.num<0:=by simpa using h
 rw[decide_eq_false (show¬ -q.num<0 by omega)]
end Go.Via
namespace Go.Proofs.YtaffcpfhedadhaaGreatDoor
variable[Go.Via.Mo]
open Go Go.RowKit Go.Via
def uh(q:Rat)(hq:bP q<=500000000:=by omega):bZ Tryz.prog 69 [] [Q q] (SR (nb q.num.natAbs)×SR (nb q.den)) (fun z=> .agg #[.bool (decide (q.num<0)),z.1.v,z.2.v]) (fun z=>[⟨z.1.b,3,NV .i64 (D8 q.num.natAbs),z.1.n,true⟩,⟨z.2.b,3,NV .i64 (D8 q.den),z.2.n,true⟩]):=by
 refine QF 19 Tryz.func69 fun w hL0=>?_;refine A2 ?_;refine Bp 4 (fun g0=>?_);refine Al 3 XU (fun g1=>?_);refine A5 ?_;refine L2 0 2 ?_;refine aW 5 (I (dz q)) rfl (qi2 q) ?_;refine(Sc []) (mO (dz q) (by have:=qi3 q;omega)) (fun xd=>?_);refine qf ?_;refine Cd ?_ ?_<;>intro hb0
 ·have hd1:q.den=1:=qkY (by simpa using hb0);have hd2:nb q.den=1:=by rw[hd1,oU]
  refine A1 ?_;refine(Bl 1 [(0,_)]) (fQ) (fun g2=>?_);refine A4 ?_;refine Dp [] [0,1,2,3,4,6,5,7,8] ?_;refine A4 ?_;refine L2 0 0 ?_;refine A1 ?_;refine(Sc []) (mO q.num (by have:=lH hq;omega)) (fun xn=>?_);refine(Bu [(0,_),(1,_),(2,_)]) (uQ) ?_;refine Ss 1 ?_;refine A3 ?_;refine aO rfl (bf 1 rfl rfl qfw (vs:=[_,_,_]) rfl rfl (Nat.le_of_ble_eq_true rfl) rfl) (fun w hL=>⟨(xn,⟨some g2,1,1,by rw[hd2];exact Nat.le_refl _⟩),?_,hL.picks [some 4,some 3] ⟨pR,⟨_,rfl,aP (congrArg (fun l=>(⟨some g2,3,NV .i64 l,1,true⟩:aF)) (show D8 q.den=[1] by rw[hd1,UE]))⟩,trivial⟩ rfl rfl⟩);exact congrArg (fun n=>Ending.returned (.agg #[.bool (decide (q.num<0)),xn.v,aI (some g2) 0 n 1])) hd2.symm
 ·have hd1:(dz q).natAbs=q.den:=qkZ (by simpa using hb0);refine A3 ?_;refine Dp [] [0,1,2,3,4,6,5,7,8] ?_;refine A4 ?_;refine L2 0 0 ?_;refine A1 ?_;refine(Sc []) (mO q.num (by have:=lH hq;omega)) (fun xn=>?_);refine(Bu [(0,_),(1,_),(2,_)]) (uQ) ?_;refine Ss 1 ?_;refine A3 ?_;refine aO rfl (bf 1 rfl rfl qfw (vs:=[_,_,_]) rfl rfl (Nat.le_of_ble_eq_true rfl) rfl) (fun w hL=>⟨(xn,⟨xd.b,xd.n,xd.cap,by rw[<-hd1];exact xd.h⟩),?_,hL.picks [some 3,some 2] ⟨pR,⟨_,rfl,aP (congrArg (fun n=>(⟨xd.b,3,NV .i64 (D8 n),xd.n,true⟩:aF)) hd1.symm)⟩,trivial⟩ rfl rfl⟩);exact congrArg (fun n=>Ending.returned (.agg #[.bool (decide (q.num<0)),xn.v,aI xd.b 0 (nb n) xd.cap])) hd1
def iC(n d:Nat)(neg:Bool)(hd:0<d)(hn:nb n<=1073740000)(hdn:nb d<=1073740000)(x:SR (nb n))(y:SR (nb d)):bZ Tryz.prog 70 [⟨x.b,3,NV .i64 (D8 n),x.n,false⟩,⟨y.b,3,NV .i64 (D8 d),y.n,false⟩] [.agg #[.bool neg,x.v,y.v]] Unit (fun _=>Q (Rat.divInt (sg neg n) (d:Int))) (fun _=>[]):=by
 refine⟨by kernel_rfl,fun w hL0=>?_⟩;have hg0:0<Nat.gcd n d:=Nat.gcd_pos_of_pos_right n hd;have hgn:nb (Nat.gcd n d)<=1073740000:=Nat.le_trans (fZ (Nat.gcd_le_right n hd)) hdn;refine cB1 43 Tryz.func70 hL0 ?_;refine A2 ?_;refine Bp 3 (fun g0=>?_);refine Al 4 pM (fun g1=>?_);refine A8 ?_;refine Ja [_,_] [0,1] rfl rfl rfl (J4 n d hn hdn x y) ⟨pS,pS,trivial⟩ rfl rfl (fun zg=>?_);refine A8 ?_;refine Ja [_,_] [0,4] rfl rfl rfl (Wp (fun g hg=>⟨_,List.mem_cons_self,hg⟩) rfl (o5 n (Nat.gcd n d) hg0 hn hgn x zg)) ⟨pS,pS,trivial⟩ rfl rfl (fun zn=>?_);refine lK ?_;refine Ja [_,_] [1,4] rfl rfl rfl (Wp (fun g hg=>⟨_,List.mem_cons_self,hg⟩) rfl (o5 d (Nat.gcd n d) hg0 hdn hgn y zg)) ⟨pS,pS,trivial⟩ rfl rfl (fun zd=>?_);refine DV ?_;refine Rs 30 ?_ ?_<;>intro hb0
 ·have hl1:nb (d/Nat.gcd n d)=1:=by have:=eq_of_beq hb0;omega
  refine A1 ?_;refine au 7 (0) iG sV rfl rfl rfl rfl rfl (by omega) (by omega) (kE (by rw[bI];omega)) (by show 0+Int.toNat _*1=_;omega) ?_;refine(Lo 7 (0)) (by exact(aZ (iQ (by omega)))) ?_;refine A4 ?_;refine Cd ?_ ?_<;>intro hb1
  ·have hd1:d/Nat.gcd n d=1:=by have:=eq_of_beq hb1;rw[Wq hl1] at this;omega
   refine Vr _ (aj (L':=[_,_,_,_,_,_,_,_,_,⟨none,3,NV .i64 (D8 0),0,false⟩]) [some 0,some 1,some 2,some 3,some 4,some 5,some 6,some 7,some 8,none] ⟨pR,pR,pR,pR,pR,pR,pR,pR,pR,⟨rfl,OY,rfl⟩,trivial⟩ rfl rfl) ?_;refine A9 ?_;refine(Sd [5]) (jO (n/Nat.gcd n d) neg (by have:=vJ n (Nat.gcd n d);omega) zn.1) ?_;refine A1 ?_;refine aW 40 (aI none 0 (nb 0) 0) rfl (by rw[jV];rfl) ?_;refine gq [_,_] [9] rfl rfl rfl (jO 0 false (by rw[jV];omega) ⟨none,0,0,by rw[jV];exact Nat.le_refl _⟩) ⟨pR,trivial⟩ rfl ?_;refine(Bu [(0,_),(1,_)]) (zq) ?_;refine Ss 3 ?_;refine A3 ?_;refine Ec4 3 fun w hL=>⟨(),?_,hL.pk []⟩;exact congrArg Ending.returned (Eq.trans (by rw[show(if false=true then-((0:Nat):Int) else((0:Nat):Int))=0 from rfl,show(0:Int).natAbs=0 from rfl,iK];rfl) (qaL neg hd hd1))
  ·have hd1:d/Nat.gcd n d≠1:=by have:=ne_of_beq_false hb1;rw[Wq hl1] at this;omega
   refine A7 ?_;refine(Sd [5]) (jO (n/Nat.gcd n d) neg (by have:=vJ n (Nat.gcd n d);omega) zn.1) ?_;refine A1 ?_;refine(Sd [7]) (jO (d/Nat.gcd n d) false (by have:=vJ d (Nat.gcd n d);omega) zd.1) ?_;refine(Bu [(0,_),(1,_)]) (zq) ?_;refine Ss 3 ?_;refine A3 ?_;refine Ec4 3 fun w hL=>⟨(),?_,hL.pk []⟩;exact congrArg Ending.returned (Q3 neg hd hd1)
 ·have hd1:d/Nat.gcd n d≠1:=Lp (by simpa using hb0);refine y8 ?_;refine(Sd [5]) (jO (n/Nat.gcd n d) neg (by have:=vJ n (Nat.gcd n d);omega) zn.1) ?_;refine A1 ?_;refine(Sd [7]) (jO (d/Nat.gcd n d) false (by have:=vJ d (Nat.gcd n d);omega) zd.1) ?_;refine(Bu [(0,_),(1,_)]) (zq) ?_;refine Ss 3 ?_;refine A3 ?_;refine Ec4 3 fun w hL=>⟨(),?_,hL.pk []⟩;exact congrArg Ending.returned (Q3 neg hd hd1)
end Go.Proofs.YtaffcpfhedadhaaGreatDoor
namespace Go.Proofs.YtaffcpfhedadhaaGreatDoor
variable[Go.Via.Mo]
open Go Go.RowKit Go.Via
def Pg(n d:Int)(hd:d≠0:=by omega)(hn:jf n<=8388608:=by omega)(hdn:jf d<=8388608:=by omega):aH Tryz.prog 64 #[I n,I d] (Q (Rat.divInt n d)):=by
 refine nG 16 Tryz.func64 fun w=>?_;refine A2 ?_;refine Bp 2 (fun g0=>?_);refine Bp 2 (fun g1=>?_);refine Al 4 pM (fun g2=>?_);refine A3 ?_;refine Dp [] [0,1,2,3,4,5,7,6,8,9,10,11] ?_;refine A4 ?_;refine ou rfl u4 rfl rfl rfl ?_;refine L2 0 0 ?_;refine L2 1 0 ?_;refine(Sc []) (mO n (Nat.le_trans hn (Nat.le_of_ble_eq_true rfl))) (fun xn=>?_);refine(Sc []) (mO d (Nat.le_trans hdn (Nat.le_of_ble_eq_true rfl))) (fun xd=>?_);refine(Bu [(0,_),(1,_),(2,_)]) (uQ) ?_;refine(Sd [3,4]) (iC n.natAbs d.natAbs (decide (n<0) !=decide (d<0)) (by omega) (Nat.le_trans hn (Nat.le_of_ble_eq_true rfl)) (Nat.le_trans hdn (Nat.le_of_ble_eq_true rfl)) xn xd) ?_;refine aW 15 (Q (Rat.divInt n d)) rfl (congrArg Q (qd6 n d hd)) ?_;refine Ss 2 ?_;refine A3 ?_;refine GL 2 ?_;exact rfl
def G6(z:Int)(h1: -9223372036854775808<=z:=by omega)(h2:z<=9223372036854775807:=by omega):aH Tryz.prog 65 #[.int .i64 z] (I z):=by
 have hnb:nb z.natAbs<=8:=nC (by omega);refine uU 25 Tryz.func65 fun w=>?_;refine A2 ?_;refine Al 2 wM (fun g0=>?_);refine y8 ?_;refine El (ι:={x:Nat×Option Nat×Nat×Nat // x.1<=nb z.natAbs∧x.1<=x.2.2.2∧x.2.2.2<=x.2.2.1}) (fun⟨⟨i,ob,oN,oc⟩,hi,h3,h4⟩=>([(0,.int .i64 z),(2,gU g0),(3,aI ob 0 i oc),(4,.int .i64 (im z i))],[⟨some g0,34,[aU,aV],2,true⟩,⟨ob,3,NV .i64 (row i (pz z.natAbs)),oN,true⟩],nb z.natAbs-i)) ⟨(0,none,0,0),Nat.zero_le _,Nat.le_refl _,Nat.le_refl _⟩ ?_ (ht:=⟨rfl,rfl,rfl,(aB rfl (congrArg (Value.int .i64) (qep z).symm)),trivial⟩) (hL:=(aj [some 0,none] ⟨pR,⟨rfl,rfl,rfl⟩,trivial⟩ rfl rfl));rintro⟨⟨i,ob,oN,oc⟩,hi,h3,h4⟩;(try dsimp only);replace hi:i<=nb z.natAbs:=hi;replace h3:i<=oc:=h3;replace h4:oc<=oN:=h4;have hdg:=zG z.natAbs i;refine A7 ?_;refine Cd ?_ ?_<;>intro hb1
 ·have hlt:=qjd hb1;refine A6 ?_;refine(Dv (imR z i)) (congrArg some (qeq z i)) ?_;refine kL ?_;refine Cd ?_ ?_<;>intro hb2
  ·have HB12:=hb2;refine A2 ?_;refine(Aq ((pz z.natAbs i:Nat):Int)) (congrArg some (qer (of_decide_eq_true HB12))) ?_;refine A7 ?_;refine(Bl 1 [(0,_)]) (fQ) (fun g1=>?_);refine eG (s:=1) (len:=i) (n2:=1) 1 2 (fun r=>[_,⟨some r.g,3,NV .i64 (row (i+1) (pz z.natAbs)),r.n,true⟩,⟨some g1,3,_,1,true⟩]) iG Hr rfl rfl rfl rfl rfl rfl rfl rfl rfl rfl rfl rfl (by rw[az,ah];omega) (by omega) (by show oc*1<=oN;omega) rfl (Go.Via.one_cell _ _) (by omega) (fun r=>congrArg (fun c=>[_,(⟨some r.g,3,c,r.n,true⟩:aF),⟨some g1,3,_,1,true⟩]) (iw _ _ _ _ (rfl))) (fun r=>?_);refine A5 ?_;refine(Dv (im z (i+1))) (congrArg some (WF z i h1 h2)) ?_;refine A4 ?_;exact Nl ⟨(i+1,some r.g,r.n,r.cap),hlt,r.h,by have:=r.hn;show r.cap<=r.n;omega⟩ (hμ:=(by show nb z.natAbs-(i+1)<nb z.natAbs-i;omega)) (hL:=eF.auto)
  ·refine bQ 5 (bV (pz z.natAbs i)) rfl (congrArg (Value.int .i64) (qes (of_decide_eq_false hb2))) ?_;refine A6 ?_;refine(Bl 1 [(0,_)]) (fQ) (fun g1=>?_);refine eG (s:=1) (len:=i) (n2:=1) 1 2 (fun r=>[_,⟨some r.g,3,NV .i64 (row (i+1) (pz z.natAbs)),r.n,true⟩,⟨some g1,3,_,1,true⟩]) iG Hr rfl rfl rfl rfl rfl rfl rfl rfl rfl rfl rfl rfl (by rw[az,ah];omega) (by omega) (by show oc*1<=oN;omega) rfl (Go.Via.one_cell _ _) (by omega) (fun r=>congrArg (fun c=>[_,(⟨some r.g,3,c,r.n,true⟩:aF),⟨some g1,3,_,1,true⟩]) (iw _ _ _ _ (rfl))) (fun r=>?_);refine A5 ?_;refine(Dv (im z (i+1))) (congrArg some (WF z i h1 h2)) ?_;refine A4 ?_;exact Nl ⟨(i+1,some r.g,r.n,r.cap),hlt,r.h,by have:=r.hn;show r.cap<=r.n;omega⟩ (hμ:=(by show nb z.natAbs-(i+1)<nb z.natAbs-i;omega)) (hL:=eF.auto)
 ·have hge:=qg8 hb1 hi;subst hge;refine kL ?_;refine gq [_,_] [1] rfl rfl rfl (jO z.natAbs (decide (z<0)) (by omega) ⟨ob,oN,oc,h3⟩) ⟨⟨_,rfl,⟨rfl,rfl,rfl,⟨nb z.natAbs,by rw[JI,List.take_of_length_le (by rw[az,bI];exact Nat.le_refl _)]⟩,fun h=>by cases h⟩⟩,trivial⟩ rfl ?_;refine aW 24 (I z) rfl (congrArg I (by by_cases hz:z<0<;>simp[hz]<;>omega)) ?_;refine Ss 0 ?_;refine A3 ?_;refine PP 0 ?_;exact rfl
def gu(a b:Int)(ha1: -9223372036854775808<=a:=by omega)(ha2:a<=9223372036854775807:=by omega)(hb1: -9223372036854775808<=b:=by omega)(hb2:b<=9223372036854775807:=by omega)(hb0:b≠0:=by omega):aH Tryz.prog 24 #[.int .i64 a,.int .i64 b] (Q (Rat.divInt a b)):=by
 refine nG 10 Tryz.func24 fun w=>?_;refine A2 ?_;refine Al 4 pM (fun g0=>?_);refine A5 ?_;refine Pc (G6 a ha1 ha2) ?_;refine A1 ?_;refine Pc (G6 b hb1 hb2) ?_;refine Pc (Pg a b hb0 (qfE ha1 ha2) (qfE hb1 hb2)) ?_;refine Ss 0 ?_;refine A3 ?_;refine GL 0 ?_;exact rfl
def G7(q:Rat):aH Tryz.prog 67 #[Q q] (Q (-q)):=by
 refine uU 16 Tryz.func67 fun w=>?_;refine A2 ?_;refine Bp 4 (fun g0=>?_);refine Al 4 pM (fun g1=>?_);refine A9 ?_;refine Rs 7 ?_ ?_<;>intro hb0
 ·refine A7 ?_;refine Ss 0 ?_;refine A4 ?_;refine L4 0 0 ?_;refine Ss 1 ?_;refine A3 ?_;refine GL 1 ?_;exact congrArg Ending.returned (qhb hb0)
 ·refine A7 ?_;refine Ss 0 ?_;refine A4 ?_;refine L4 0 0 ?_;refine Ss 1 ?_;refine A3 ?_;refine GL 1 ?_;exact congrArg Ending.returned (qhc hb0)
end Go.Proofs.YtaffcpfhedadhaaGreatDoor
namespace Go.Proofs.YtaffcpfhedadhaaGreatDoor
variable[Go.Via.Mo]
open Go Go.RowKit Go.Via
def fU(p q:Rat)(hp:bP p<=4194303:=by omega)(hq:bP q<=4194303:=by omega):aH Tryz.prog 63 #[Q p,Q q] (Q (p+q)):=by
 have e1:=Jl hp;have e2:=Jm hp;have e3:=Jl hq;have e4:=Jm hq;have m1:=nT p.num.natAbs q.num.natAbs;have m2:=nT p.num.natAbs q.den;have m3:=nT q.num.natAbs p.den;have m4:=nT p.den q.den;have m5:=nT p.den q.num.natAbs;have dp:0<p.den:=Nat.pos_of_ne_zero p.den_nz;have dq:0<q.den:=Nat.pos_of_ne_zero q.den_nz;have dpq:0<p.den*q.den:=Nat.mul_pos dp dq;have m6:=zf (p.num.natAbs*q.den) (q.num.natAbs*p.den);have m7:nb (p.num.natAbs*q.den-q.num.natAbs*p.den)<=nb (p.num.natAbs*q.den):=fZ (Nat.sub_le _ _);have m8:nb (q.num.natAbs*p.den-p.num.natAbs*q.den)<=nb (q.num.natAbs*p.den):=fZ (Nat.sub_le _ _);refine nG 64 Tryz.func63 fun w=>?_;refine A2 ?_;refine Bp 4 (fun g0=>?_);refine Bp 4 (fun g1=>?_);refine Al 4 pM (fun g2=>?_);refine A3 ?_;refine Dq [3000000] [0,2,1,3,4,5,6,7] ?_;refine L4 0 0 ?_;refine L4 1 0 ?_;refine iP [_] [] rfl rfl rfl (uh p (Nat.le_trans hp (Nat.le_of_ble_eq_true rfl))) trivial rfl (.inr qaY) (fun x=>?_);refine iP [_] [] rfl rfl rfl (uh q (Nat.le_trans hq (Nat.le_of_ble_eq_true rfl))) trivial rfl (.inr qaY) (fun y=>?_);refine Al 3 XU (fun g3=>?_);refine Al 3 XU (fun g4=>?_);refine Ss 7 ?_;refine Ss 8 ?_;refine A3 ?_;refine Dp [] [0,1,2,3,5,6,7,8,4,9,10,11] ?_;refine A8 ?_;refine(Sc [3,6]) (iZ (p.num.natAbs) (q.den) (by omega) (by omega) x.1 y.2) (fun zP=>?_);refine(Sc [5,4]) (iZ (q.num.natAbs) (p.den) (by omega) (by omega) y.1 x.2) (fun zQ=>?_);refine kL ?_;refine(Sc [4,6]) (iZ (p.den) (q.den) (by omega) (by omega) x.2 y.2) (fun zD=>?_);refine qf ?_;refine Fj rfl u4 rfl rfl rfl ?_;refine A3 ?_;refine Cd ?_ ?_<;>intro hb0
 ·have hs:=hb0;refine A1 ?_;refine Dp [] [0,1,2,3,5,4,6,7,8] ?_;refine A5 ?_;refine(Sc [9,10]) (jH (p.num.natAbs*q.den) (q.num.natAbs*p.den) (by omega) (by omega) zP zQ) (fun zS=>?_);refine(Bu [(0,_),(1,_),(2,_)]) (uQ) ?_;refine(Sd [12,11]) (iC (p.num.natAbs*q.den+q.num.natAbs*p.den) (p.den*q.den) (decide (p.num<0)) dpq (by omega) (by omega) zS zD) ?_;refine aW 42 (Q (p+q)) rfl (congrArg Q (qd7 p q hs)) ?_;refine Ss 2 ?_;refine A5 ?_;refine GL 2 ?_;exact rfl
 ·have hs:=hb0;refine A4 ?_;refine(Sd [9,10]) (eU (p.num.natAbs*q.den) (q.num.natAbs*p.den) (by omega) zP zQ) ?_;refine A4 ?_;refine Cd ?_ ?_<;>intro hb1
  ·have hle:q.num.natAbs*p.den<=p.num.natAbs*q.den:=kF.1 (of_decide_eq_true hb1);refine A1 ?_;refine Dp [] [0,1,2,3,5,4,6,7,8] ?_;refine A5 ?_;refine(Sc [9,10]) (lq (p.num.natAbs*q.den) (q.num.natAbs*p.den) (by omega) hle zP zQ) (fun zS=>?_);refine(Bu [(0,_),(1,_),(2,_)]) (uQ) ?_;refine(Sd [12,11]) (iC (p.num.natAbs*q.den-q.num.natAbs*p.den) (p.den*q.den) (decide (p.num<0)) dpq (by omega) (by omega) zS zD) ?_;refine aW 55 (Q (p+q)) rfl (congrArg Q (qd8 p q hs hle)) ?_;refine Ss 2 ?_;refine A5 ?_;refine GL 2 ?_;exact rfl
  ·have hle:p.num.natAbs*q.den<=q.num.natAbs*p.den:=by have:=of_decide_eq_false hb1;rw[kF] at this;omega
   refine A4 ?_;refine Dp [] [0,1,2,3,5,4,6,7,8] ?_;refine A5 ?_;refine(Sc [10,9]) (lq (q.num.natAbs*p.den) (p.num.natAbs*q.den) (by omega) hle zQ zP) (fun zS=>?_);refine(Bu [(0,_),(1,_),(2,_)]) (uQ) ?_;refine(Sd [12,11]) (iC (q.num.natAbs*p.den-p.num.natAbs*q.den) (p.den*q.den) (decide (q.num<0)) dpq (by omega) (by omega) zS zD) ?_;refine aW 63 (Q (p+q)) rfl (congrArg Q (qd9 p q hs hle)) ?_;refine Ss 2 ?_;refine A3 ?_;refine GL 2 ?_;exact rfl
end Go.Proofs.YtaffcpfhedadhaaGreatDoor
namespace Go.Via
open Go Go.RowKit
def qa3{b:Bool}{s:ByteArray}(h:pq b s=false):∃z:Int,b=decide (z<0)∧s=bF z.natAbs:=by
 unfold pq at h;rw[Bool.or_eq_false_iff] at h;obtain⟨h1,h2⟩:=h;have hs:bF (lX s.data.toList)=s:=ZK (s:=s) (fun e=>by rw[e] at h2;cases h2)
 by_cases h0:lX s.data.toList=0
 ·refine⟨0,?_,?_⟩
  ·rw[h0,iK] at hs;rw[<-hs,FK] at h1
   simpa using h1
  ·rw[h0] at hs;rw[<-hs];rfl
 ·refine⟨if b then-(lX s.data.toList:Int) else lX s.data.toList,?_,?_⟩
  ·cases b
   ·simp only[Bool.false_eq_true,if_false];rw[decide_eq_false (by omega)]
   ·simp only[if_true];rw[decide_eq_true (by omega)]
  ·cases b
   ·simpa using hs.symm
   ·simpa using hs.symm
noncomputable def YD(b1:Bool)(s1:ByteArray)(b2:Bool)(s2:ByteArray):Bool:= @decide (∃q:Rat,Value.agg #[.bool b1,.string s1,.bool b2,.string s2]=Q q) (Classical.propDecidable _)
theorem II{b1:Bool}{s1:ByteArray}{b2:Bool}{s2:ByteArray}:YD b1 s1 b2 s2=true↔∃q:Rat,b1=decide (q.num<0)∧s1=bF q.num.natAbs∧b2=false∧s2=dm q:=by
 unfold YD;rw[@decide_eq_true_iff _ (Classical.propDecidable _)]
 constructor
 ·rintro⟨q,h⟩;unfold Q at h;simp only[Value.agg.injEq,Array.mk.injEq,List.cons.injEq,Value.bool.injEq,Value.string.injEq,and_true] at h;exact⟨q,h⟩
 ·rintro⟨q,rfl,rfl,rfl,rfl⟩;exact⟨q,rfl⟩
def IJ{b1:Bool}{s1:ByteArray}{b2:Bool}{s2:ByteArray}(h:¬∃q:Rat,b1=decide (q.num<0)∧s1=bF q.num.natAbs∧b2=false∧s2=dm q):YD b1 s1 b2 s2=false:=by
 rw[<-II] at h;simpa using h
theorem qa4(z:Int):pq (decide (z<0)) (bF z.natAbs)=false:=by
 unfold pq;rw[Bool.or_eq_false_iff];refine⟨?_,?_⟩
 ·rw[mY]
  by_cases h:z.natAbs=0
  ·have:z=0:=by omega
   subst this;rfl
  ·simp[h]
 ·have:=ZL z.natAbs;unfold qcV at this
  simpa using this
theorem qhd(q:Rat):pq false (dm q)=false:=by
 have h1:(0:Int)<=q.den:=(by omega);unfold dm
 split
 ·unfold pq;rfl
 ·have:=qa4 (q.den:Int)
  rwa [decide_eq_false (by omega),Int.natAbs_natCast] at this
theorem qje{b1:Bool}{s1:ByteArray}{b2:Bool}{s2:ByteArray}(h:pq b1 s1=true):YD b1 s1 b2 s2=false:=IJ fun⟨q,h1,h2,_,_⟩=>by
 rw[h1,h2,qa4] at h;cases h
theorem qjf{b1:Bool}{s1:ByteArray}{b2:Bool}{s2:ByteArray}(h:pq b2 s2=true):YD b1 s1 b2 s2=false:=IJ fun⟨q,h1,h2,h3,h4⟩=>by
 rw[h3,h4,qhd] at h;cases h
def qjg{b1:Bool}{s1:ByteArray}{s2:ByteArray}:YD b1 s1 true s2=false:=IJ fun⟨q,h1,h2,h3,h4⟩=>by cases h3
theorem qjh{b1:Bool}{s1:ByteArray}{s2:ByteArray}(h:pq b1 s1=false)(h2:s2=⟨#[]⟩):YD b1 s1 false s2=true:=by
 obtain⟨z,rfl,rfl⟩:=qa3 h;exact II.2 ⟨(z:Rat),by rw[Rat.num_intCast],by rw[Rat.num_intCast],rfl,by unfold dm;rw[Rat.den_intCast,if_pos rfl,h2]⟩
def EI{m n:Nat}(h:bF m=bF n):m=n:=Ol.1 h
def qhe{z:Int}{d:Nat}(hd:0<d)(h:Nat.gcd z.natAbs d=1):∃q:Rat,q.num=z∧q.den=d:=⟨⟨z,d,by omega,h⟩,rfl,rfl⟩
def qet{z:Int}{d:Nat}(hd:0<d)(h1:d≠1)(h:Nat.gcd z.natAbs d=1):YD (decide (z<0)) (bF z.natAbs) false (bF d)=true:=by
 obtain⟨q,rfl,rfl⟩:=qhe hd h;exact II.2 ⟨q,rfl,rfl,rfl,by unfold dm;rw[if_neg h1]⟩
def qa5{z:Int}{d:Nat}(hd:0<d)(h:d=1∨Nat.gcd z.natAbs d≠1){b:Bool}:YD b (bF z.natAbs) false (bF d)=false:=IJ fun⟨q,h1,h2,h3,h4⟩=>by
 unfold dm at h4;have h2:=EI h2
 split at h4
 ·rename_i h5
  have:bF d=bF 0:=(by rw[h4,iK]);have:=EI this;omega
 ·rename_i h5
  have:=EI h4;subst this;rcases h with h|h
  ·exact h5 h
  ·exact h (by rw[h2];exact q.reduced)
def qfG{b:Bool}{s:ByteArray}(h:((if pq b s=true then(5:Int) else 0) !=0)=false):pq b s=false:=by
 cases hb:pq b s
 ·rfl
 ·rw[hb] at h;cases h
def qfH{b:Bool}{s:ByteArray}(h:((if pq b s=true then(5:Int) else 0) !=0)=true):pq b s=true:=by
 cases hb:pq b s
 ·rw[hb] at h;cases h
 ·rfl
def qhf{b:Bool}{s:ByteArray}(h:((b==false)&&(s==⟨#[]⟩))=true):b=false∧s=⟨#[]⟩:=by
 rw[Bool.and_eq_true] at h;exact⟨eq_of_beq h.1,qax h.2⟩
def qhg{z:Int}(h:((decide (z<0)==false)&&(bF z.natAbs==⟨#[]⟩))=false):z≠0:=fun e=>by
 subst e;rw[show(0:Int).natAbs=0 from rfl,iK,FK] at h;cases h
def qa6{e:Int}(h:decide (xM e 1<=0)=true):e<=1:=by
 have:=of_decide_eq_true h;unfold xM at this
 by_cases h1:e<1
 ·omega
 ·rw[if_neg h1] at this
  by_cases h2:1<e
  ·rw[if_pos h2] at this;omega
  ·omega
def qa7{e:Int}(h:decide (xM e 1<=0)=false):1<e:=by
 have:=of_decide_eq_false h;unfold xM at this
 by_cases h1:e<1
 ·rw[if_pos h1] at this;omega
 ·rw[if_neg h1] at this
  by_cases h2:1<e
  ·exact h2
  ·rw[if_neg h2] at this;omega
theorem qji{z e:Int}(h0:e≠0)(h:e<=1):YD (decide (z<0)) (bF z.natAbs) (decide (e<0)) (bF e.natAbs)=false:=by
 by_cases hn:e<0
 ·rw[decide_eq_true hn];exact qjg
 ·rw[decide_eq_false hn];exact qa5 (by omega) (.inl (by omega))
def qeu{z e:Int}(h:(!((decide (((Int.gcd z e:Nat):Int)<0)==decide ((1:Int)<0))&&(bF ((Int.gcd z e:Nat):Int).natAbs==bF (1:Int).natAbs)))=true):Int.gcd z e≠1:=fun e1=>by
 rw[e1] at h;simp[xK] at h
def qev{z e:Int}(h:(!((decide (((Int.gcd z e:Nat):Int)<0)==decide ((1:Int)<0))&&(bF ((Int.gcd z e:Nat):Int).natAbs==bF (1:Int).natAbs)))=false):Int.gcd z e=1:=by
 rw[Bool.not_eq_false',Bool.and_eq_true,xK] at h;have:=EI (of_decide_eq_true h.2)
 simpa using this
theorem qjj{z e:Int}(h:1<e)(hg:Int.gcd z e≠1):YD (decide (z<0)) (bF z.natAbs) (decide (e<0)) (bF e.natAbs)=false:=by
 rw[decide_eq_false (show¬e<0 by omega)];exact qa5 (by omega) (.inr hg)
theorem qhh{z e:Int}(h:1<e)(hg:Int.gcd z e=1):YD (decide (z<0)) (bF z.natAbs) (decide (e<0)) (bF e.natAbs)=true:=by
 rw[decide_eq_false (show¬e<0 by omega)];exact qet (by omega) (by omega) hg
end Go.Via
namespace Go.Proofs.YtaffcpfhedadhaaGreatDoor
variable[Go.Via.Mo]
open Go Go.RowKit Go.Via
def qC(z:Int):aH Tryz.prog 165 #[I z] (I (-z)):=by
 refine uU 9 Tryz.func165 fun w=>?_;refine A2 ?_;refine Bp 2 (fun g0=>?_);refine Al 2 wM (fun g1=>?_);refine A9 ?_;refine Pc (cu _ _) ?_;refine Ss 1 ?_;refine A3 ?_;refine PP 1 ?_;exact congrArg (fun z=>Ending.returned (I z)) (TW z)
def vY(a b:Int)(ha:jf a<=67108864:=by omega)(hb:jf b<=67108864:=by omega):aH Tryz.prog 190 #[I a,I b] (I (a+b)):=by
 refine nG 42 Tryz.func190 fun w=>?_;refine A2 ?_;refine Bp 2 (fun g0=>?_);refine Bp 2 (fun g1=>?_);refine Al 2 wM (fun g2=>?_);refine kL ?_;refine Fj rfl u4 rfl rfl rfl ?_;refine A3 ?_;refine Cd ?_ ?_<;>intro hb0
 ·refine A1 ?_;refine Di [] ?_;refine A6 ?_;refine Pc (vV _ _ ha hb) ?_;refine Pc (cu _ _) ?_;refine Ss 2 ?_;refine A5 ?_;refine PP 2 ?_;exact congrArg (fun z=>Ending.returned (I z)) (Qq a b hb0)
 ·refine A6 ?_;refine Pc (lI _ _) ?_;refine A4 ?_;refine Cd ?_ ?_<;>intro hb1
  ·refine A1 ?_;refine Di [] ?_;refine A6 ?_;refine Pc (vW _ _ ha (VC _ _ hb1)) ?_;refine Pc (cu _ _) ?_;refine Ss 2 ?_;refine A5 ?_;refine PP 2 ?_;exact congrArg (fun z=>Ending.returned (I z)) (LY a b hb0 (VC _ _ hb1))
  ·refine A4 ?_;refine Di [] ?_;refine A6 ?_;refine Pc (vW _ _ hb (VD _ _ hb1)) ?_;refine Pc (cu _ _) ?_;refine Ss 2 ?_;refine A3 ?_;refine PP 2 ?_;exact congrArg (fun z=>Ending.returned (I z)) (LZ a b hb0 (VD _ _ hb1))
def fK(a b:Int)(ha:jf a<=67108864:=by omega)(hb:jf b<=67108864:=by omega):aH Tryz.prog 123 #[I a,I b] (I (a*b)):=by
 refine nG 16 Tryz.func123 fun w=>?_;refine A2 ?_;refine Bp 2 (fun g0=>?_);refine Bp 2 (fun g1=>?_);refine Al 2 wM (fun g2=>?_);refine A3 ?_;refine Di [] ?_;refine A4 ?_;refine ou rfl u4 rfl rfl rfl ?_;refine A4 ?_;refine Pc (BO _ _ ha hb) ?_;refine Pc (cu _ _) ?_;refine Ss 2 ?_;refine A3 ?_;refine PP 2 ?_;exact congrArg (fun z=>Ending.returned (I z)) (VE a b)
def wZ(a b:Int)(ha:jf a<=33554432:=by omega)(hb:jf b<=33554432:=by omega)(h0:b≠0:=by omega):aH Tryz.prog 201 #[I a,I b] (.tuple #[I (a/b),I (a%b),.int .i64 0]):=by
 have szle:nb a.natAbs<=67108864:=Nat.le_trans ha (Nat.le_of_ble_eq_true rfl);have szle2:nb b.natAbs<=67108864:=Nat.le_trans hb (Nat.le_of_ble_eq_true rfl);refine nG 43 Tryz.func201 fun w=>?_;refine A2 ?_;refine Bp 2 (fun g0=>?_);refine Bp 2 (fun g1=>?_);refine Al 2 wM (fun g2=>?_);refine Al 2 wM (fun g3=>?_);refine qf ?_;refine Cd ?_ ?_<;>intro hb0
 ·exact absurd hb0 (by rw[mY];simp;omega)
 ·refine A8 ?_;refine bY [_,_] rfl rfl rfl (qO _ _ (by first|assumption|grind [dH,dI,dJ,dK,dL,dB,dC,bC,bz,aK,dE,dn,jg]) (by first|assumption|grind [dH,dI,dJ,dK,dL,dB,dC,bC,bz,aK,dE,dn,jg])) ?_;refine BC ?_;refine Rs 24 ?_ ?_<;>intro hb1
  ·refine A5 ?_;refine Cd ?_ ?_<;>intro hb2
   ·refine Dp [] [0,2,3,4,1,5,6,7] ?_;refine A4 ?_;refine bY [_,.string (bF 1)] rfl rfl (by rw[qcW];rfl) (vV _ _ (Nat.le_trans (vJ _ _) (Nat.le_trans ha (Nat.le_of_ble_eq_true rfl))) (Nat.le_trans (nC (k:=1) (by omega)) (Nat.le_of_ble_eq_true rfl))) ?_;refine bY [_,_] rfl rfl rfl (vW _ _ (by first|assumption|grind [dH,dI,dJ,dK,dL,dB,dC,bC,bz,aK,dE,dn,jg]) (Nat.le_of_lt (Nat.mod_lt _ (by omega)))) ?_;refine kL ?_;refine ou rfl u4 rfl rfl rfl ?_;refine A1 ?_;refine Pc (cu _ _) ?_;refine A1 ?_;refine Pc (cu _ _) ?_;refine Ss 2 ?_;refine Ss 3 ?_;refine A4 ?_;refine xG rfl (bf 2 rfl rfl xQ (vs:=[_,_]) rfl rfl (Nat.le_of_ble_eq_true rfl) rfl) (bf 3 rfl rfl xQ (vs:=[_,_]) rfl rfl (Nat.le_of_ble_eq_true rfl) rfl) (ai rfl) (fun w hL=>⟨?_,hL.below⟩);have e:=ZP (a:=a) (b:=b) h0 (by simpa using hb1) (by rw[sU] at hb2;simpa using hb2);rw[<-e.1,<-e.2];rfl
   ·refine A8 ?_;refine ou rfl u4 rfl rfl rfl ?_;refine A1 ?_;refine Pc (cu _ _) ?_;refine A1 ?_;refine Pc (cu _ _) ?_;refine Ss 2 ?_;refine Ss 3 ?_;refine A4 ?_;refine xG rfl (bf 2 rfl rfl xQ (vs:=[_,_]) rfl rfl (Nat.le_of_ble_eq_true rfl) rfl) (bf 3 rfl rfl xQ (vs:=[_,_]) rfl rfl (Nat.le_of_ble_eq_true rfl) rfl) (ai rfl) (fun w hL=>⟨?_,hL.below⟩);have e:=Qs (a:=a) (b:=b) h0 (.inr (by rw[sU] at hb2;simpa using hb2));rw[<-e.1,<-e.2];rfl
  ·refine DV ?_;refine ou rfl u4 rfl rfl rfl ?_;refine A1 ?_;refine Pc (cu _ _) ?_;refine A1 ?_;refine Pc (cu _ _) ?_;refine Ss 2 ?_;refine Ss 3 ?_;refine A4 ?_;refine xG rfl (bf 2 rfl rfl xQ (vs:=[_,_]) rfl rfl (Nat.le_of_ble_eq_true rfl) rfl) (bf 3 rfl rfl xQ (vs:=[_,_]) rfl rfl (Nat.le_of_ble_eq_true rfl) rfl) (ai rfl) (fun w hL=>⟨?_,hL.below⟩);have e:=Qs (a:=a) (b:=b) h0 (.inl (by simpa using hb1));rw[<-e.1,<-e.2];rfl
def mP:aH Tryz.prog 156 #[] (I 1):=by
 refine pB0 2 Tryz.func156 fun w=>?_;refine A2 ?_;refine Al 2 wM (fun g0=>?_);refine A4 ?_;refine Pc (lJ 1) ?_;refine Ss 0 ?_;refine A3 ?_;refine PP 0 ?_;exact rfl
def jW(a b:Int)(ha:jf a<=33554432:=by omega)(hb:jf b<=33554432:=by omega)(h0:b≠0:=by omega):aH Tryz.prog 166 #[I a,I b] (I (a/b)):=by
 refine nG 16 Tryz.func166 fun w=>?_;refine A2 ?_;refine Bp 2 (fun g0=>?_);refine Bp 2 (fun g1=>?_);refine Al 2 wM (fun g2=>?_);refine A4 ?_;refine L2 0 0 ?_;refine L2 1 0 ?_;refine Pc (wZ a b ha hb h0) ?_;refine A4 ?_;refine Al 2 wM (fun g3=>?_);refine Al 2 wM (fun g4=>?_);refine Ss 3 ?_;refine Ss 4 ?_;refine A5 ?_;refine L2 3 0 ?_;refine Ss 2 ?_;refine A3 ?_;refine PP 2 ?_;exact rfl
def jI(n d:Int)(hn:jf n<=8388608:=by omega)(hd:jf d<=8388608:=by omega)(h0:d≠0:=by omega):aH Tryz.prog 122 #[I n,I d] (Q (Rat.divInt n d)):=by
 refine nG 29 Tryz.func122 fun w=>?_;refine A2 ?_;refine Bp 2 (fun g0=>?_);refine Bp 2 (fun g1=>?_);refine Al 4 pM (fun g2=>?_);refine A5 ?_;refine L2 1 0 ?_;refine Pc (mM _) ?_;refine A3 ?_;refine Cd ?_ ?_<;>intro hb0
 ·refine Dp [] [0,2,1,3,4,5] ?_;refine L2 0 0 ?_;refine L2 1 0 ?_;refine Pc (qC _) ?_;refine Pc (qC _) ?_;refine Ss 0 ?_;refine Ss 1 ?_;refine A4 ?_;refine L2 0 0 ?_;refine L2 1 0 ?_;refine bY [_,_] rfl rfl rfl (vX _ _ (by first|assumption|grind [dH,dI,dJ,dK,dL,dB,dC,bC,bz,aK,dE,dn,jg]) (by first|assumption|grind [dH,dI,dJ,dK,dL,dB,dC,bC,bz,aK,dE,dn,jg])) ?_;refine Al 2 wM (fun g3=>?_);refine Ss 3 ?_;refine A3 ?_;refine Dp [] [0,1,3,4,2,5,6,7] ?_;refine L2 0 0 ?_;refine L2 3 0 ?_;refine L2 1 0 ?_;refine L2 3 0 ?_;refine bY [_,_] rfl rfl rfl (jW _ _ (by first|assumption|grind [dH,dI,dJ,dK,dL,dB,dC,bC,bz,aK,dE,dn,jg]) (by first|assumption|grind [dH,dI,dJ,dK,dL,dB,dC,bC,bz,aK,dE,dn,jg]) (Oq (by omega))) ?_;refine bY [_,_] rfl rfl rfl (jW _ _ (by first|assumption|grind [dH,dI,dJ,dK,dL,dB,dC,bC,bz,aK,dE,dn,jg]) (by first|assumption|grind [dH,dI,dJ,dK,dL,dB,dC,bC,bz,aK,dE,dn,jg]) (Oq (by omega))) ?_;refine Ss 0 ?_;refine Ss 1 ?_;refine A4 ?_;refine Di [] ?_;refine L2 1 0 ?_;refine Pc (mP) ?_;refine fG rfl rfl rfl rfl XY (qiU _ _) ?_;refine A2 ?_;refine Cd ?_ ?_<;>intro hb1
  ·refine A1 ?_;refine(Bu []) (FM) ?_;refine Ss 1 ?_;refine A4 ?_;refine L2 0 0 ?_;refine L2 1 0 ?_;refine(Bu [(0,_),(1,_)]) (zq) ?_;refine Ss 2 ?_;refine A3 ?_;refine GL 2 ?_;exact congrArg Ending.returned ((Om (n:= -n) (d:= -d) (by have:=VF hb0;omega) (by simpa using hb1)).trans (by rw[Rat.neg_divInt_neg]))
  ·refine A4 ?_;refine L2 0 0 ?_;refine L2 1 0 ?_;refine(Bu [(0,_),(1,_)]) (zq) ?_;refine Ss 2 ?_;refine A3 ?_;refine GL 2 ?_;exact congrArg Ending.returned ((Oo (n:= -n) (d:= -d) (by have:=VF hb0;omega) (by simpa using hb1)).trans (by rw[Rat.neg_divInt_neg]))
 ·refine A4 ?_;refine L2 0 0 ?_;refine L2 1 0 ?_;refine bY [_,_] rfl rfl rfl (vX _ _ (by first|assumption|grind [dH,dI,dJ,dK,dL,dB,dC,bC,bz,aK,dE,dn,jg]) (by first|assumption|grind [dH,dI,dJ,dK,dL,dB,dC,bC,bz,aK,dE,dn,jg])) ?_;refine Al 2 wM (fun g3=>?_);refine Ss 3 ?_;refine A3 ?_;refine Dp [] [0,1,3,4,2,5,6,7] ?_;refine L2 0 0 ?_;refine L2 3 0 ?_;refine L2 1 0 ?_;refine L2 3 0 ?_;refine bY [_,_] rfl rfl rfl (jW _ _ (by first|assumption|grind [dH,dI,dJ,dK,dL,dB,dC,bC,bz,aK,dE,dn,jg]) (by first|assumption|grind [dH,dI,dJ,dK,dL,dB,dC,bC,bz,aK,dE,dn,jg]) (Oq (by omega))) ?_;refine bY [_,_] rfl rfl rfl (jW _ _ (by first|assumption|grind [dH,dI,dJ,dK,dL,dB,dC,bC,bz,aK,dE,dn,jg]) (by first|assumption|grind [dH,dI,dJ,dK,dL,dB,dC,bC,bz,aK,dE,dn,jg]) (Oq (by omega))) ?_;refine Ss 0 ?_;refine Ss 1 ?_;refine A4 ?_;refine Di [] ?_;refine L2 1 0 ?_;refine Pc (mP) ?_;refine fG rfl rfl rfl rfl XY (qiU _ _) ?_;refine A2 ?_;refine Cd ?_ ?_<;>intro hb1
  ·refine A1 ?_;refine(Bu []) (FM) ?_;refine Ss 1 ?_;refine A4 ?_;refine L2 0 0 ?_;refine L2 1 0 ?_;refine(Bu [(0,_),(1,_)]) (zq) ?_;refine Ss 2 ?_;refine A3 ?_;refine GL 2 ?_;exact congrArg Ending.returned (Om (VG hb0 h0) (by simpa using hb1))
  ·refine A4 ?_;refine L2 0 0 ?_;refine L2 1 0 ?_;refine(Bu [(0,_),(1,_)]) (zq) ?_;refine Ss 2 ?_;refine A3 ?_;refine GL 2 ?_;exact congrArg Ending.returned (Oo (VG hb0 h0) (by simpa using hb1))
def ui(q:Rat):aH Tryz.prog 145 #[Q q] (Q (-q)):=by
 refine uU 9 Tryz.func145 fun w=>?_;refine A2 ?_;refine Bp 4 (fun g0=>?_);refine Al 4 pM (fun g1=>?_);refine A3 ?_;refine Dp [] [0,1,3,4,2,5,6] ?_;refine A1 ?_;refine L2 0 0 ?_;refine A1 ?_;refine L2 0 2 ?_;refine Pc (qC _) ?_;refine(Bu [(0,_),(1,_)]) (zq) ?_;refine Ss 1 ?_;refine A3 ?_;refine GL 1 ?_;exact rfl
def yE(n d:Int)(hn:jf n<=8388608:=by omega)(hd:jf d<=8388608:=by omega):aH Tryz.prog 213 #[I n,I d] (.tuple #[Q (Rat.divInt n d),.int .i64 (if d=0 then 6 else 0)]):=by
 refine nG 13 Tryz.func213 fun w=>?_;refine A2 ?_;refine Bp 2 (fun g0=>?_);refine Bp 2 (fun g1=>?_);refine Al 4 pM (fun g2=>?_);refine A6 ?_;refine L2 1 0 ?_;refine Pc (mM _) ?_;refine A3 ?_;refine Cd ?_ ?_<;>intro hb0
 ·refine A2 ?_;refine(Bu []) (xR) ?_;refine Ss 2 ?_;refine A5 ?_;refine bg rfl (bf 2 rfl rfl BD (vs:=[_,_,_,_]) rfl rfl (Nat.le_of_ble_eq_true rfl) rfl) (ai rfl) (fun w hL=>⟨?_,hL.below⟩);have e:d=0:=by simpa using hb0
  subst e;rw[Rat.divInt_zero,if_pos rfl,xO]
 ·refine A4 ?_;refine L2 0 0 ?_;refine L2 1 0 ?_;refine bY [_,_] rfl rfl rfl (jI _ _ hn hd (fun e=>absurd (show(d.sign==0)=true by rw[e];rfl) (by rw[hb0];decide))) ?_;refine Ss 2 ?_;refine A4 ?_;refine bg rfl (bf 2 rfl rfl BD (vs:=[_,_,_,_]) rfl rfl (Nat.le_of_ble_eq_true rfl) rfl) (ai rfl) (fun w hL=>⟨?_,hL.below⟩);rw[if_neg (fun e=>absurd (show(d.sign==0)=true by rw[e];rfl) (by rw[hb0];decide))];rfl
def fH(z:Int)(h1: -9223372036854775808<=z:=by omega)(h2:z<=9223372036854775807:=by omega):aH Tryz.prog 132 #[.int .i64 z] (Q (z:Rat)):=by
 refine uU 6 Tryz.func132 fun w=>?_;refine A2 ?_;refine Al 4 pM (fun g0=>?_);refine A5 ?_;refine bY [_] rfl rfl rfl (lJ _) ?_;refine(Bu [(0,_)]) (qgs) ?_;refine Ss 0 ?_;refine A3 ?_;refine GL 0 ?_;exact rfl
end Go.Proofs.YtaffcpfhedadhaaGreatDoor
namespace Go.Proofs.YtaffcpfhedadhaaGreatDoor
variable[Go.Via.Mo]
open Go Go.RowKit Go.Via
def jJ(p q:Rat)(hp:bP p<=4194303:=by omega)(hq:bP q<=4194303:=by omega):aH Tryz.prog 55 #[Q p,Q q] (Q (p-q)):=by
 refine nG 9 Tryz.func55 fun w=>?_;refine A2 ?_;refine Bp 4 (fun g0=>?_);refine Bp 4 (fun g1=>?_);refine Al 4 pM (fun g2=>?_);refine A3 ?_;refine Di [] ?_;refine L4 0 0 ?_;refine L4 1 0 ?_;refine Pc (G7 q) ?_;refine Pc (fU p (-q) hp (Nat.le_trans (dn q) hq)) ?_;refine Ss 2 ?_;refine A3 ?_;refine GL 2 ?_;exact congrArg (fun z=>Ending.returned (Q z)) (Rat.sub_eq_add_neg p q).symm
end Go.Proofs.YtaffcpfhedadhaaGreatDoor
namespace Go.Proofs.YtaffcpfhedadhaaGreatDoor
variable[Go.Via.Mo]
open Go Go.RowKit Go.Via
def kS(q:Rat):aH Tryz.prog 66 #[Q q] (.int .i64 q.num.sign):=by
 refine uU 12 Tryz.func66 fun w=>?_;refine A2 ?_;refine Bp 4 (fun g0=>?_);refine DV ?_;refine Cd ?_ ?_<;>intro hb0
 ·refine A8 ?_;refine E0 ?_;exact congrArg (fun z=>Ending.returned (.int .i64 z)) (L6 q.num hb0)
 ·refine A8 ?_;refine Cd ?_ ?_<;>intro hb1
  ·refine A8 ?_;refine E0 ?_;exact congrArg (fun z=>Ending.returned (.int .i64 z)) (sign_neg q.num hb1)
  ·refine A9 ?_;refine E0 ?_;exact congrArg (fun z=>Ending.returned (.int .i64 z)) (Qr q.num hb0 hb1)
def HY(p q:Rat)(hp:bP p<=4194303:=by omega)(hq:bP q<=4194303:=by omega):aH Tryz.prog 160 #[Q p,Q q] (.int .i64 (l9 p q)):=by
 refine nG 9 Tryz.func160 fun w=>?_;refine A2 ?_;refine Bp 4 (fun g0=>?_);refine Bp 4 (fun g1=>?_);refine A5 ?_;refine L4 0 0 ?_;refine L4 1 0 ?_;refine Pc (jJ p q hp hq) ?_;refine Pc (kS (p-q)) ?_;refine A4 ?_;refine E0 ?_;exact congrArg (fun z=>Ending.returned (.int .i64 z)) (Q7 p q)
def Gg(b1:Bool)(s1:ByteArray)(b2:Bool)(s2:ByteArray)(hs1:s1.size<=5000:=by omega)(hs2:s2.size<=5000:=by omega):aH Tryz.prog 105 #[.agg #[.bool b1,.string s1,.bool b2,.string s2]] (.int .i64 (if YD b1 s1 b2 s2=true then 0 else 5)):=by
 refine uU 31 Tryz.func105 fun w=>?_;refine A2 ?_;refine Bp 4 (fun g0=>?_);refine A7 ?_;refine L2 0 0 ?_;refine Pc (yD b1 s1) ?_;refine A2 ?_;refine Rs 7 ?_ ?_<;>intro hb0
 ·have hI1:pq b1 s1=true:=qfH hb0;refine y8 ?_;refine E0 ?_;rw[qje hI1];rfl
 ·have hI1:pq b1 s1=false:=qfG hb0;refine A1 ?_;refine L2 0 2 ?_;refine Pc (yD b2 s2) ?_;refine A4 ?_;refine Cd ?_ ?_<;>intro hb1
  ·have hI2:pq b2 s2=true:=qfH hb1;refine A7 ?_;refine E0 ?_;rw[qjf hI2];rfl
  ·have hI2:pq b2 s2=false:=qfG hb1;refine A6 ?_;refine L2 0 2 ?_;refine(Bu []) (FM) ?_;refine fG rfl rfl rfl rfl XY (Qy _ _ _ _) ?_;refine A2 ?_;refine Cd ?_ ?_<;>intro hb2
   ·obtain⟨hb2,he2⟩:=qhf hb2;refine A7 ?_;refine E0 ?_;rw[hb2,qjh hI1 he2];rfl
   ·obtain⟨z,rfl,rfl⟩:=qa3 hI1;obtain⟨e,rfl,rfl⟩:=qa3 hI2;have he0:=qhg hb2;rw[kV] at hs1 hs2;have hz1:jf z<=5000:=hs1;have hz2:jf e<=5000:=hs2;refine A4 ?_;refine Di [] ?_;refine A1 ?_;refine L2 0 2 ?_;refine Pc (mP) ?_;refine Pc (vg e 1) ?_;refine A2 ?_;refine Rs 22 ?_ ?_<;>intro hb3
    ·have hle:e<=1:=qa6 hb3;refine A18 ?_;refine E0 ?_;rw[qji he0 hle];rfl
    ·have hle:1<e:=qa7 hb3;refine A1 ?_;refine L2 0 0 ?_;refine A1 ?_;refine L2 0 2 ?_;refine Pc (vX z e) ?_;refine Pc (mP) ?_;refine DL rfl rfl rfl rfl XY (Qy _ _ _ _) ?_;refine A3 ?_;refine Cd ?_ ?_<;>intro hb4
     ·have hg:=qeu hb4;refine A7 ?_;refine E0 ?_;rw[qjj hle hg];rfl
     ·have hg:=qev hb4;refine A8 ?_;refine E0 ?_;rw[qhh hle hg];rfl
end Go.Proofs.YtaffcpfhedadhaaGreatDoor
namespace Go.Proofs.YtaffcpfhedadhaaGreatDoor
open Go Go.RowKit Go.Via
def zU(n:Nat)(hn:nb n<=33554432:=by omega):aH Tryz.prog 200 #[.string (bF n)] (.string (bF (bM n))):=by
 have hb8:=RF n;have hk8:=RG n;refine uU 50 Tryz.func200 fun w=>?_;refine lK ?_;refine Cd ?_ ?_<;>intro hb0
 ·have h0:n=0:=YC hb0;refine A7 ?_;refine E0 ?_;subst h0;rw[show bM 0=0 from rfl,iK]
 ·have h0:n≠0:=UU hb0;have hp:=CB h0;refine A6 ?_;refine aW 12 (bV (nb n)) rfl (by rw[kV]) ?_;refine Ar (((nb n-1:Nat):Int)) ?_;refine Ar (((8*(nb n-1):Nat):Int)) ?_;refine A1 ?_;refine yT (b:=UInt8.ofNat (yO n)) (r:=((yO n:Nat):Int)) u9 rfl rfl rfl rfl (by omega) (Ua n 0 hp) (Ot _) ?_;refine Pc (RN (yO n) (Pe n)) ?_;refine Ar (((8*(nb n-1)+Lib.bitLen (yO n):Nat):Int)) ?_;refine A6 ?_;refine Ar (((8*(nb n-1)+Lib.bitLen (yO n)+1:Nat):Int)) ?_;refine(Dv ((kG n:Nat):Int)) (by exact(congrArg some (lV _ 2 rfl rfl (by omega)))) ?_;refine A4 ?_;refine TS (X:=Nat) (l':=[⟨_,_,_,_,_,_⟩,⟨_,_,_,_,_,_⟩,⟨_,_,_,_,_,_⟩,⟨_,_,_,_,_,_⟩,⟨_,_,_,_,_,_⟩]) (fun g=>[(0,.string (bF n)),(4,.string (lw (RD (kG n))))]) (fun g=>[⟨some g,5,[.int .u8 (2^(kG n%8):Nat)],1,true⟩]) [0,1,2,5,6] 5 mixed (by kernel_rfl) rfl ?_ ?_
  ·refine A1 ?_;refine(Dv ((kG n%8:Nat):Int)) (congrArg some (dM _ _ rfl rfl)) ?_;refine(Sv ((2^(kG n%8):Nat):Int)) (by exact(congrArg some (qen _ rfl (Nat.mod_lt _ (by omega))))) ?_;refine A1 ?_;refine(Dv ((kG n/8:Nat):Int)) (by exact(congrArg some (lV _ 8 rfl rfl (by omega)))) ?_;refine A1 ?_
   repeat' first
    |exact⟨g0,rfl,⟨rfl,rfl,trivial⟩,List.Perm.refl _⟩
    |refine Vl ?_
    |refine yU (l:=[2^(kG n%8)]) 0 Ue u5 u9 rfl rfl rfl rfl rfl rfl rfl rfl ?_
    |refine bY [_,_] rfl rfl rfl (Gf (kG n/8)) ?_
    |refine qgF (p:=[UInt8.ofNat (2^(kG n%8))]) (q:=List.replicate (kG n/8) 0) rfl rfl rfl rfl rfl rfl rfl (by rw[List.length_replicate];show 1+kG n/8<=_;omega) ?_
    |refine P6 rfl rfl rfl ?_
    |refine(Bl 1 [(0,_)]) (qdt) (fun g0=>?_)
    |refine qgi (by decide+kernel) ?_
    |refine vI [8] (by decide+kernel) rfl ⟨⟨_,rfl,?_⟩,trivial⟩
    |refine vI [9] (by decide+kernel) rfl ⟨⟨_,rfl,?_⟩,trivial⟩
    |refine vI [4] (by decide+kernel) rfl ⟨⟨_,rfl,?_⟩,trivial⟩
    |refine vI [3,7] (by decide+kernel) rfl ⟨⟨_,rfl,?_⟩,⟨_,rfl,?_⟩,trivial⟩
    |refine vI [4,7] (by decide+kernel) rfl ⟨⟨_,rfl,?_⟩,⟨_,rfl,?_⟩,trivial⟩
    |refine vI [7] (by decide+kernel) rfl ⟨⟨_,rfl,?_⟩,trivial⟩
    |refine vI [3] (by decide+kernel) rfl ⟨⟨_,rfl,?_⟩,trivial⟩
  rintro g;show At _ ⟨50,[(0,.string (bF n)),(4,.string (lw (RD (kG n))))],[⟨some g,5,[.int .u8 (2^(kG n%8):Nat)],1,true⟩]⟩ _;refine A2 ?_;refine El (ι:={x:Nat // RH n x}) (fun⟨x,hx⟩=>([(0,.string (bF n)),(4,.string (bF x))],[],x)) ⟨2^kG n,RI h0⟩ ?_ (ht:=⟨rfl,(aB rfl (congrArg Value.string (WE _))),trivial⟩) (hL:=(aj [] trivial rfl rfl));rintro⟨x,hx⟩;(try dsimp only);have hx3:=hx.2.2;refine A5 ?_;refine Pc (qO n x (by omega) (by omega) (by have:=hx.1;omega)) ?_;refine qf ?_;refine Pc (vV x (n/x) (by omega) (by have:=vJ n x;omega)) ?_;refine bY [_,.string (bF 2)] rfl rfl (by rw[qem];rfl) (qO (x+n/x) 2 (by have:=vJ n x;have:=zf x (n/x);omega) (by have:=nC (n:=2) (k:=1) (by decide);omega) (by decide)) ?_;refine lK ?_;refine Pc (lI _ _) ?_;refine A3 ?_;refine Cd ?_ ?_<;>intro hb2
  ·have hge:¬(x+n/x)/2<x:=kF.1 (of_decide_eq_true hb2)|>Nat.not_lt.2;refine qf ?_;refine E0 ?_;rw[YB hx hge]
  ·have hlt:(x+n/x)/2<x:=Nat.lt_of_not_le fun e=>of_decide_eq_false hb2 (kF.2 e)
   refine A8 ?_;exact Nl ⟨(x+n/x)/2,UT h0 hx hlt⟩ (hμ:=hlt)
end Go.Proofs.YtaffcpfhedadhaaGreatDoor
namespace Go.Proofs.YtaffcpfhedadhaaGreatDoor
variable[Go.Via.Mo]
open Go Go.RowKit Go.Via
def dD(p q:Rat)(hp:bP p<=4194303:=by omega)(hq:bP q<=4194303:=by omega):aH Tryz.prog 27 #[Q p,Q q] (Q (p*q)):=by
 have e1:=Jl hp;have e2:=Jm hp;have e3:=Jl hq;have e4:=Jm hq;have m1:=nT p.num.natAbs q.num.natAbs;have m2:=nT p.num.natAbs q.den;have m3:=nT q.num.natAbs p.den;have m4:=nT p.den q.den;have m5:=nT p.den q.num.natAbs;have dp:0<p.den:=Nat.pos_of_ne_zero p.den_nz;have dq:0<q.den:=Nat.pos_of_ne_zero q.den_nz;have dpq:0<p.den*q.den:=Nat.mul_pos dp dq;refine nG 28 Tryz.func27 fun w=>?_;refine A2 ?_;refine Bp 4 (fun g0=>?_);refine Bp 4 (fun g1=>?_);refine Al 4 pM (fun g2=>?_);refine A3 ?_;refine Dq [3000000] [0,2,1,3,4,5,6,7] ?_;refine L4 0 0 ?_;refine L4 1 0 ?_;refine iP [_] [] rfl rfl rfl (uh p (Nat.le_trans hp (Nat.le_of_ble_eq_true rfl))) trivial rfl (.inr qaY) (fun x=>?_);refine iP [_] [] rfl rfl rfl (uh q (Nat.le_trans hq (Nat.le_of_ble_eq_true rfl))) trivial rfl (.inr qaY) (fun y=>?_);refine Al 3 XU (fun g3=>?_);refine Al 3 XU (fun g4=>?_);refine Ss 7 ?_;refine Ss 8 ?_;refine A3 ?_;refine Dp [] [0,1,2,3,4,5,6,7,8,10,11,12,13,9,14,15,16,17] ?_;refine A4 ?_;refine ou rfl u4 rfl rfl rfl ?_;refine A8 ?_;refine(Sc [3,5]) (iZ (p.num.natAbs) (q.num.natAbs) (by omega) (by omega) x.1 y.1) (fun zn=>?_);refine(Sc [4,6]) (iZ (p.den) (q.den) (by omega) (by omega) x.2 y.2) (fun zd=>?_);refine(Bu [(0,_),(1,_),(2,_)]) (uQ) ?_;refine(Sd [9,10]) (iC (p.num.natAbs*q.num.natAbs) (p.den*q.den) (decide (p.num<0) !=decide (q.num<0)) dpq (by omega) (by omega) zn zd) ?_;refine aW 27 (Q (p*q)) rfl (congrArg Q (qgW p q)) ?_;refine Ss 2 ?_;refine A3 ?_;refine GL 2 ?_;exact rfl
end Go.Proofs.YtaffcpfhedadhaaGreatDoor
namespace Go.Proofs.YtaffcpfhedadhaaGreatDoor
variable[Go.Via.Mo]
open Go Go.RowKit Go.Via
def eX(q:Rat):aH Tryz.prog 124 #[Q q] (I q.den):=by
 refine uU 10 Tryz.func124 fun w=>?_;refine A2 ?_;refine Bp 4 (fun g0=>?_);refine Al 2 wM (fun g1=>?_);refine A6 ?_;refine L2 0 2 ?_;refine(Bu []) (FM) ?_;refine fG rfl rfl rfl rfl XY (Qy _ _ _ _) ?_;refine A2 ?_;refine Cd ?_ ?_<;>intro hb0
 ·refine A2 ?_;refine Pc (mP) ?_;refine Ss 1 ?_;refine A4 ?_;refine PP 1 ?_;exact congrArg Ending.returned (qiE hb0)
 ·refine A5 ?_;refine L2 0 2 ?_;refine Ss 1 ?_;refine A3 ?_;refine PP 1 ?_;exact congrArg Ending.returned (qiF hb0)
def xe(p q:Rat)(hp:bP p<=4194303:=by omega)(hq:bP q<=4194303:=by omega):aH Tryz.prog 189 #[Q p,Q q] (.tuple #[I (kN p q),I (kQ p q),I (lu p q)]):=by
 refine nG 33 Tryz.func189 fun w=>?_;refine A2 ?_;refine Bp 4 (fun g0=>?_);refine Bp 4 (fun g1=>?_);refine Al 2 wM (fun g2=>?_);refine Al 2 wM (fun g3=>?_);refine Al 2 wM (fun g4=>?_);refine A6 ?_;refine L2 0 2 ?_;refine A1 ?_;refine L2 1 2 ?_;refine fG rfl rfl rfl rfl XY (Qy _ _ _ _) ?_;refine A2 ?_;refine Cd ?_ ?_<;>intro hb0
 ·refine A1 ?_;refine Di [2,3,4] ?_;refine A1 ?_;refine L2 0 0 ?_;refine A1 ?_;refine L2 1 0 ?_;refine L4 0 0 ?_;refine Pc (eX _) ?_;refine lU 2 0 [_,_,⟨some g2,34,_,2,true⟩,_,_] [_,_] rfl rfl rfl rfl xQ rfl rfl rfl rfl rfl rfl ?_;refine lU 3 0 [_,_,_,⟨some g3,34,_,2,true⟩,_] [_,_] rfl rfl rfl rfl xQ rfl rfl rfl rfl rfl rfl ?_;refine lU 4 0 [_,_,_,_,⟨some g4,34,_,2,true⟩] [_,_] rfl rfl rfl rfl xQ rfl rfl rfl rfl rfl rfl ?_;refine A4 ?_;refine xG rfl (bf 2 rfl rfl xQ (vs:=[_,_]) rfl rfl (Nat.le_of_ble_eq_true rfl) rfl) (bf 3 rfl rfl xQ (vs:=[_,_]) rfl rfl (Nat.le_of_ble_eq_true rfl) rfl) (bf 4 rfl rfl xQ (vs:=[_,_]) rfl rfl (Nat.le_of_ble_eq_true rfl) rfl) (fun w hL=>⟨?_,hL.below⟩);exact congrArg Ending.returned (qc7 hb0)
 ·refine A3 ?_;refine Dp [] [0,1,2,5,6,7,10,12,3,4,8,9,11,13,14,15,16,17] ?_;refine A1 ?_;refine L2 0 0 ?_;refine L4 1 0 ?_;refine A1 ?_;refine L2 1 0 ?_;refine L4 0 0 ?_;refine L4 0 0 ?_;refine L4 1 0 ?_;refine Pc (eX _) ?_;refine bY [_,_] rfl rfl rfl (fK _ _ (by first|assumption|grind [dH,dI,dJ,dK,dL,dB,dC,bC,bz,aK,dE,dn,jg]) (by first|assumption|grind [dH,dI,dJ,dK,dL,dB,dC,bC,bz,aK,dE,dn,jg])) ?_;refine Pc (eX _) ?_;refine bY [_,_] rfl rfl rfl (fK _ _ (by first|assumption|grind [dH,dI,dJ,dK,dL,dB,dC,bC,bz,aK,dE,dn,jg]) (by first|assumption|grind [dH,dI,dJ,dK,dL,dB,dC,bC,bz,aK,dE,dn,jg])) ?_;refine Pc (eX _) ?_;refine Pc (eX _) ?_;refine bY [_,_] rfl rfl rfl (fK _ _ (by first|assumption|grind [dH,dI,dJ,dK,dL,dB,dC,bC,bz,aK,dE,dn,jg]) (by first|assumption|grind [dH,dI,dJ,dK,dL,dB,dC,bC,bz,aK,dE,dn,jg])) ?_;refine Ss 2 ?_;refine Ss 3 ?_;refine Ss 4 ?_;refine A3 ?_;refine xG rfl (bf 2 rfl rfl xQ (vs:=[_,_]) rfl rfl (Nat.le_of_ble_eq_true rfl) rfl) (bf 3 rfl rfl xQ (vs:=[_,_]) rfl rfl (Nat.le_of_ble_eq_true rfl) rfl) (bf 4 rfl rfl xQ (vs:=[_,_]) rfl rfl (Nat.le_of_ble_eq_true rfl) rfl) (fun w hL=>⟨?_,hL.below⟩);exact congrArg Ending.returned (qc8 hb0)
def bK(p q:Rat)(hp:bP p<=4194303:=by omega)(hq:bP q<=4194303:=by omega):aH Tryz.prog 140 #[Q p,Q q] (Q (p+q)):=by
 refine nG 20 Tryz.func140 fun w=>?_;refine A2 ?_;refine Bp 4 (fun g0=>?_);refine Bp 4 (fun g1=>?_);refine Al 4 pM (fun g2=>?_);refine A4 ?_;refine L4 0 0 ?_;refine L4 1 0 ?_;refine bY [_,_] rfl rfl rfl (xe _ _ (by first|assumption|grind [dH,dI,dJ,dK,dL,dB,dC,bC,bz,aK,dE,dn,jg]) (by first|assumption|grind [dH,dI,dJ,dK,dL,dB,dC,bC,bz,aK,dE,dn,jg])) ?_;refine A4 ?_;refine Al 2 wM (fun g3=>?_);refine Al 2 wM (fun g4=>?_);refine Al 2 wM (fun g5=>?_);refine Ss 3 ?_;refine Ss 4 ?_;refine Ss 5 ?_;refine A3 ?_;refine Dp [] [0,1,3,2,4,5] ?_;refine L2 3 0 ?_;refine L2 4 0 ?_;refine L2 5 0 ?_;refine Pc (vY _ _ (Nat.le_trans (szX hp hq) (Nat.le_of_ble_eq_true rfl)) (Nat.le_trans (szY hp hq) (Nat.le_of_ble_eq_true rfl))) ?_;refine Pc (jI _ _ (Nat.le_trans (qkp hp hq) (Nat.le_of_ble_eq_true rfl)) (Nat.le_trans (szD hp hq) (Nat.le_of_ble_eq_true rfl)) (Mc p q)) ?_;refine Ss 2 ?_;refine A3 ?_;refine GL 2 ?_;exact congrArg (fun z=>Ending.returned (Q z)) (XH p q)
def eY(p q:Rat)(hp:bP p<=4194303:=by omega)(hq:bP q<=4194303:=by omega):aH Tryz.prog 126 #[Q p,Q q] (Q (p-q)):=by
 refine nG 9 Tryz.func126 fun w=>?_;refine A2 ?_;refine Bp 4 (fun g0=>?_);refine Bp 4 (fun g1=>?_);refine Al 4 pM (fun g2=>?_);refine A3 ?_;refine Di [] ?_;refine L4 0 0 ?_;refine L4 1 0 ?_;refine Pc (ui _) ?_;refine bY [_,_] rfl rfl rfl (bK _ _ (by first|assumption|grind [dH,dI,dJ,dK,dL,dB,dC,bC,bz,aK,dE,dn,jg]) (by first|assumption|grind [dH,dI,dJ,dK,dL,dB,dC,bC,bz,aK,dE,dn,jg])) ?_;refine Ss 2 ?_;refine A3 ?_;refine GL 2 ?_;exact congrArg (fun z=>Ending.returned (Q z)) (Rat.sub_eq_add_neg p q).symm
def aG(p q:Rat)(hp:bP p<=4194303:=by omega)(hq:bP q<=4194303:=by omega):aH Tryz.prog 75 #[Q p,Q q] (Q (p*q)):=by
 refine nG 16 Tryz.func75 fun w=>?_;refine A2 ?_;refine Bp 4 (fun g0=>?_);refine Bp 4 (fun g1=>?_);refine Al 4 pM (fun g2=>?_);refine A3 ?_;refine Dp [] [0,1,2,3,5,7,4,6,8,9,10,11] ?_;refine A1 ?_;refine L2 0 0 ?_;refine A1 ?_;refine L2 1 0 ?_;refine L4 0 0 ?_;refine L4 1 0 ?_;refine bY [_,_] rfl rfl rfl (fK _ _ (by first|assumption|grind [dH,dI,dJ,dK,dL,dB,dC,bC,bz,aK,dE,dn,jg]) (by first|assumption|grind [dH,dI,dJ,dK,dL,dB,dC,bC,bz,aK,dE,dn,jg])) ?_;refine Pc (eX _) ?_;refine Pc (eX _) ?_;refine bY [_,_] rfl rfl rfl (fK _ _ (by first|assumption|grind [dH,dI,dJ,dK,dL,dB,dC,bC,bz,aK,dE,dn,jg]) (by first|assumption|grind [dH,dI,dJ,dK,dL,dB,dC,bC,bz,aK,dE,dn,jg])) ?_;refine bY [_,_] rfl rfl rfl (jI _ _ (by first|assumption|grind [dH,dI,dJ,dK,dL,dB,dC,bC,bz,aK,dE,dn,jg]) (by first|assumption|grind [dH,dI,dJ,dK,dL,dB,dC,bC,bz,aK,dE,dn,jg]) (Jo p q)) ?_;refine Ss 2 ?_;refine A3 ?_;refine GL 2 ?_;exact congrArg (fun z=>Ending.returned (Q z)) (Jp p q)
def dZ(q:Rat):aH Tryz.prog 106 #[Q q] (.int .i64 q.num.sign):=by
 refine uU 6 Tryz.func106 fun w=>?_;refine A2 ?_;refine Bp 4 (fun g0=>?_);refine A6 ?_;refine L2 0 0 ?_;refine Pc (mM _) ?_;refine A4 ?_;refine E0 ?_;exact rfl
def zV(p q:Rat)(hp:bP p<=4194303:=by omega)(hq:bP q<=4194303:=by omega):aH Tryz.prog 183 #[Q p,Q q] (.tuple #[Q (p/q),.int .i64 (if q=0 then 6 else 0)]):=by
 refine nG 19 Tryz.func183 fun w=>?_;refine A2 ?_;refine Bp 4 (fun g0=>?_);refine Bp 4 (fun g1=>?_);refine Al 4 pM (fun g2=>?_);refine A4 ?_;refine Dp [] [0,1,2,5,7,8,3,4,6,9,10,11,12,13,14] ?_;refine A1 ?_;refine L2 0 0 ?_;refine L4 1 0 ?_;refine L4 0 0 ?_;refine A1 ?_;refine L2 1 0 ?_;refine Pc (eX _) ?_;refine bY [_,_] rfl rfl rfl (fK _ _ (by first|assumption|grind [dH,dI,dJ,dK,dL,dB,dC,bC,bz,aK,dE,dn,jg]) (by first|assumption|grind [dH,dI,dJ,dK,dL,dB,dC,bC,bz,aK,dE,dn,jg])) ?_;refine Pc (eX _) ?_;refine bY [_,_] rfl rfl rfl (fK _ _ (by first|assumption|grind [dH,dI,dJ,dK,dL,dB,dC,bC,bz,aK,dE,dn,jg]) (by first|assumption|grind [dH,dI,dJ,dK,dL,dB,dC,bC,bz,aK,dE,dn,jg])) ?_;refine bY [_,_] rfl rfl rfl (yE _ _ (by first|assumption|grind [dH,dI,dJ,dK,dL,dB,dC,bC,bz,aK,dE,dn,jg]) (by first|assumption|grind [dH,dI,dJ,dK,dL,dB,dC,bC,bz,aK,dE,dn,jg])) ?_;refine A2 ?_;refine Ss 2 ?_;refine A4 ?_;refine bg rfl (bf 2 rfl rfl BD (vs:=[_,_,_,_]) rfl rfl (Nat.le_of_ble_eq_true rfl) rfl) (ai rfl) (fun w hL=>⟨?_,hL.below⟩);rw[<-TZ p q,qc9 p q];rfl
def Dh(p q:Rat)(hp:bP p<=4194303:=by omega)(hq:bP q<=4194303:=by omega):aH Tryz.prog 212 #[Q p,Q q] (.int .i64 (l9 p q)):=by
 refine nG 21 Tryz.func212 fun w=>?_;refine A2 ?_;refine Bp 4 (fun g0=>?_);refine Bp 4 (fun g1=>?_);refine A6 ?_;refine L4 0 0 ?_;refine L4 1 0 ?_;refine fG rfl rfl rfl rfl Z5 (Z9 _ _) ?_;refine A2 ?_;refine Cd ?_ ?_<;>intro hb0
 ·refine A7 ?_;refine E0 ?_
  have e:p=q:=(by simpa using hb0);subst e;rw[XI]
 ·refine A4 ?_;refine L4 0 0 ?_;refine L4 1 0 ?_;refine bY [_,_] rfl rfl rfl (xe _ _ (by first|assumption|grind [dH,dI,dJ,dK,dL,dB,dC,bC,bz,aK,dE,dn,jg]) (by first|assumption|grind [dH,dI,dJ,dK,dL,dB,dC,bC,bz,aK,dE,dn,jg])) ?_;refine A4 ?_;refine Al 2 wM (fun g2=>?_);refine Al 2 wM (fun g3=>?_);refine Al 2 wM (fun g4=>?_);refine Ss 2 ?_;refine Ss 3 ?_;refine Ss 4 ?_;refine A4 ?_;refine L2 2 0 ?_;refine L2 3 0 ?_;refine Pc (vg _ _) ?_;refine A4 ?_;refine E0 ?_;exact congrArg (fun z=>Ending.returned (.int .i64 z)) (XJ p q)
end Go.Proofs.YtaffcpfhedadhaaGreatDoor
namespace Go.Via
open Go
def nD(z:Int):Bool:=decide (0<=z)&&(bM z.natAbs*bM z.natAbs==z.natAbs)
theorem qa8{z:Int}(h:decide (z<0)=true):nD z=false:=by
 have:=of_decide_eq_true h;unfold nD;rw[decide_eq_false (by omega)];rfl
theorem qew{z:Int}(h:(bF (bM z.natAbs*bM z.natAbs) !=bF z.natAbs)=true):nD z=false:=by
 unfold nD;have:¬bM z.natAbs*bM z.natAbs=z.natAbs:=fun e=>by rw[e,bne,xK] at h;simp at h
 rw[beq_eq_false_iff_ne.2 this,Bool.and_false]
theorem qa9{z:Int}(h0:decide (z<0)=false)(h:(bF (bM z.natAbs*bM z.natAbs) !=bF z.natAbs)=false):nD z=true:=by
 unfold nD;have h1:=of_decide_eq_false h0;have h2:bF (bM z.natAbs*bM z.natAbs)=bF z.natAbs:=by rw[bne,xK] at h;simpa using h
 rw[Ol.1 h2,decide_eq_true (by omega)];simp
def qba(n:Nat):bM n<=n:=by
 have h:=(JQ n).1
 by_cases h0:bM n=0
 ·omega
 ·exact Nat.le_trans (Nat.le_mul_of_pos_right _ (by omega)) h
def nR(n:Nat):nb (bM n)<=nb n:=fZ (qba n)
theorem Gh(q:Rat):qw q=(nD q.num&&nD (q.den:Int)):=by
 unfold qw nD;rw[Int.natAbs_natCast,decide_eq_true (show(0:Int)<=(q.den:Int) by omega),Bool.true_and]
def w3{a b:Int}(ha:a= -1∨a=0∨a=1)(hb:b= -1∨b=0∨b=1):IntKind.i64.wrap (a*b)=a*b:=by
 rcases ha with rfl|rfl|rfl<;>rcases hb with rfl|rfl|rfl<;>rfl
theorem Dj(q:Rat):cO q= -1∨cO q=0∨cO q=1:=by rcases dO q with h|h|h<;>simp[h.2]
def qbb(p q:Rat):l9 p q= -1∨l9 p q=0∨l9 p q=1:=by rcases jk p q with h|h|h<;>simp[h.2]
theorem qhi{a b r:Rat}(h:cO b*cO r=0):oK a b r=cO a:=by unfold oK;rw[if_pos (.inl h)]
theorem qhj{a b r:Rat}(h:cO a=cO b*cO r):oK a b r=cO a:=by unfold oK;rw[if_pos (.inr h)]
theorem qhk{a b r:Rat}(h0:cO b*cO r≠0)(h1:cO a≠cO b*cO r)(h2:cO a=0):oK a b r=cO b*cO r:=by unfold oK;rw[if_neg (by rintro(h|h);exact h0 h;exact h1 h),if_pos h2]
theorem qhl{a b r:Rat}(h0:cO b*cO r≠0)(h1:cO a≠cO b*cO r)(h2:cO a≠0):oK a b r=cO a*l9 (a*a) (b*b*r):=by unfold oK;rw[if_neg (by rintro(h|h);exact h0 h;exact h1 h),if_neg h2]
section
variable{x y:Rl}
theorem qex(h:cO (-jA y)*cO y.r=0):bH x y=oK (x.p-y.p) (jA x) x.r:=by unfold bH;rw[if_pos (.inl h)]
theorem qey(h:oK (x.p-y.p) (jA x) x.r=cO (-jA y)*cO y.r):bH x y=oK (x.p-y.p) (jA x) x.r:=by unfold bH;rw[if_pos (.inr h)]
theorem qez(h0:cO (-jA y)*cO y.r≠0)(h1:oK (x.p-y.p) (jA x) x.r≠cO (-jA y)*cO y.r)(h2:oK (x.p-y.p) (jA x) x.r=0):bH x y=cO (-jA y)*cO y.r:=by
 unfold bH;rw[if_neg (by rintro(h|h);exact h0 h;exact h1 h),if_pos h2]
theorem qeA(h0:cO (-jA y)*cO y.r≠0)(h1:oK (x.p-y.p) (jA x) x.r≠cO (-jA y)*cO y.r)(h2:oK (x.p-y.p) (jA x) x.r≠0):
 bH x y=oK (x.p-y.p) (jA x) x.r*oK ((x.p-y.p)*(x.p-y.p)+x.r-y.r) (2*((x.p-y.p)*jA x)) x.r:=by
 unfold bH;rw[if_neg (by rintro(h|h);exact h0 h;exact h1 h),if_neg h2]
end
theorem qjk{x:Rl}(h:x.n=true):jA x=((-1:Int):Rat):=by unfold jA;rw[if_pos h];rfl
theorem qjl{x:Rl}(h:x.n=false):jA x=((1:Int):Rat):=by unfold jA;rw[if_neg (by rw[h];decide)];rfl
def ny{z:Int}(h1: -255<=z)(h2:z<=255):bP (z:Rat)<=2:=Nat.le_trans (qa1 z) (by have:=jC h1 h2;unfold jf at this;omega)
def EJ:bP 2<=2:=ny (z:=2) (by omega) (by omega)
def vk:bP 0<=2:=ny (z:=0) (by omega) (by omega)
def UW(x:Rl):bP (jA x)<=2:=by
 unfold jA;split
 ·exact ny (z:= -1) (by omega) (by omega)
 ·exact ny (z:=1) (by omega) (by omega)
def ik(x:Rl):Nat:=max (bP x.p) (bP x.r)
def rD(x:Rl):bP x.p<=ik x:=Nat.le_max_left ..
def xg(x:Rl):bP x.r<=ik x:=Nat.le_max_right ..
def vZ{q:Rat}{n:Nat}(h:bP q<=n)(h2:2<=n):ik (rl q)<=n:=Nat.max_le.2 ⟨h,Nat.le_trans vk h2⟩
def YE{q:Rat}{n:Nat}(h:bP q<=n):bP (fP q)<=n:=by
 unfold fP;have h1:jf ((bM q.num.natAbs:Nat):Int)<=n:=zh (Nat.le_trans (nR _) (Nat.le_trans (dB q) h));have h2:jf ((bM q.den:Nat):Int)<=n:=zh (Nat.le_trans (nR _) (by have:=Nat.le_trans (dC q) h;unfold jf at this;simpa using this));have:=lY h1 h2 (Nat.le_trans (Ip q) h);omega
def EK(q:Rat):bP (fP q)<=bP q:=YE (Nat.le_refl _)
def qhm{p q r:Rat}:ik (mkR p q r)<=bP p+bP q+bP q+bP r+2:=by
 unfold mkR
 split
 ·refine vZ ?_ (by omega);have h1:=bC p (q*fP r);have h2:=aK q (fP r);have h3:=EK r;omega
 ·refine Nat.max_le.2 ⟨?_,?_⟩
  ·show bP p<=_;omega
  ·show bP (q*q*r)<=_;have h1:=aK (q*q) r;have h2:=aK q q;omega
def qeB(q:Rat):(dm q).size<=bP q:=by
 unfold dm
 split
 ·exact Nat.zero_le _
 ·rw[kV];exact Nat.le_max_right ..
end Go.Via
namespace Go.Proofs.YtaffcpfhedadhaaGreatDoor
open Go Go.Via
def RQ(q:Rat)(h:bP q<=5000:=by omega):aH Tryz.prog 105 #[Q q] (.int .i64 0):=by
 have:=Gg (decide (q.num<0)) (bF q.num.natAbs) false (dm q) (by rw[kV];exact Nat.le_trans (Nat.le_max_left ..) h) (Nat.le_trans (qeB q) h);rw[II.2 ⟨q,rfl,rfl,rfl,rfl⟩,if_pos rfl] at this;exact this
end Go.Proofs.YtaffcpfhedadhaaGreatDoor
namespace Go.Via
def qbc{q:Rat}(h:nD q.num=true){n:Nat}(h1:jf q.num<=n)(hn:n<=8388608:=by omega):jf (if nD q.num=true then((bM q.num.natAbs:Nat):Int) else 0)<=8388608:=by
 rw[if_pos h];exact zh (Nat.le_trans (nR _) (Nat.le_trans h1 hn))
def qbe{q:Rat}(h:nD (q.den:Int)=true){n:Nat}(h1:jf (q.den:Int)<=n)(hn:n<=8388608:=by omega):jf (if nD (q.den:Int)=true then((bM (q.den:Int).natAbs:Nat):Int) else 0)<=8388608:=by
 rw[if_pos h];exact zh (Nat.le_trans (nR _) (Nat.le_trans h1 hn))
def qbf{q:Rat}(h:nD (q.den:Int)=true):(if nD (q.den:Int)=true then((bM (q.den:Int).natAbs:Nat):Int) else 0)≠0:=by
 rw[if_pos h];have hd:=q.den_nz;unfold nD at h;simp only[Bool.and_eq_true,beq_iff_eq,Int.natAbs_natCast] at h;rw[Int.natAbs_natCast];intro e;have:bM q.den=0:=by omega
 have h2:=h.2;rw[this] at h2;omega
end Go.Via
namespace Go.Via
theorem WG:I 0= .agg #[aU,aV]:=by show Value.agg #[.bool (decide ((0:Int)<0)),.string (bF 0)]=_;rw[iK];rfl
end Go.Via
namespace Go.Via
theorem G8(q:Rat):RV (rl q)= .agg #[.bool (decide (q.num<0)),.string (bF q.num.natAbs),.bool false,.string (dm q),aU,aV,aU,aV,.bool false]:=by
 have h:bF (0:Rat).num.natAbs=⟨#[]⟩:=iK;have h2:dm 0=⟨#[]⟩:=rfl;show Value.agg #[_,_,_,_,.bool (decide ((0:Rat).num<0)),.string (bF (0:Rat).num.natAbs),_,.string (dm 0),_]=_;rw[h,h2];rfl
end Go.Via
namespace Go.Proofs.YtaffcpfhedadhaaGreatDoor
open Go Go.RowKit Go.Via
variable[Mo]
def zW(a b r:Rat)(ha:bP a<=500000:=by omega)(hb:bP b<=500000:=by omega)(hr:bP r<=500000:=by omega):aH Tryz.prog 181 #[Q a,Q b,Q r] (.int .i64 (oK a b r)):=by
 refine pB3 40 Tryz.func181 fun w=>?_;refine A2 ?_;refine Bp 4 (fun g0=>?_);refine Bp 4 (fun g1=>?_);refine Bp 4 (fun g2=>?_);refine A4 ?_;refine Dp [2000000] [0,2,4,1,3,5,6,7,8] ?_;refine L4 0 0 ?_;refine L4 1 0 ?_;refine L4 2 0 ?_;refine Pc (dZ _) ?_;refine Pc (dZ _) ?_;refine Pc (dZ _) ?_;refine(Aq (cO b*cO r)) (congrArg some (w3 (Dj b) (Dj r))) ?_;refine qf ?_;refine Rs 19 ?_ ?_<;>intro hb0
 ·have hs19:=eq_of_beq hb0;refine Qe ?_;refine E0 ?_;rw[qhi hs19];rfl
 ·have hs19:=ne_of_beq_false hb0;refine A7 ?_;refine Cd ?_ ?_<;>intro hb1
  ·have hs16:=eq_of_beq hb1;refine A9 ?_;refine E0 ?_;rw[qhj hs16];rfl
  ·have hs16:=ne_of_beq_false hb1;refine A7 ?_;refine Cd ?_ ?_<;>intro hb2
   ·have hs25:=eq_of_beq hb2;refine A9 ?_;refine E0 ?_;rw[qhk hs19 hs16 hs25]
   ·have hs25:=ne_of_beq_false hb2;refine A4 ?_;refine Dp [] [0,1,2,4,5,7,3,6,8,9,10,11] ?_;refine A1 ?_;refine L4 0 0 ?_;refine L4 0 0 ?_;refine L4 1 0 ?_;refine L4 1 0 ?_;refine L4 2 0 ?_;refine bY [_,_] rfl rfl rfl (aG _ _ (by first|assumption|grind [dH,dI,dJ,dK,dL,dB,dC,bC,bz,aK,dE,dn,jg]) (by first|assumption|grind [dH,dI,dJ,dK,dL,dB,dC,bC,bz,aK,dE,dn,jg])) ?_;refine bY [_,_] rfl rfl rfl (aG _ _ (by first|assumption|grind [dH,dI,dJ,dK,dL,dB,dC,bC,bz,aK,dE,dn,jg]) (by first|assumption|grind [dH,dI,dJ,dK,dL,dB,dC,bC,bz,aK,dE,dn,jg])) ?_;refine bY [_,_] rfl rfl rfl (aG _ _ (by first|assumption|grind [dH,dI,dJ,dK,dL,dB,dC,bC,bz,aK,dE,dn,jg]) (by first|assumption|grind [dH,dI,dJ,dK,dL,dB,dC,bC,bz,aK,dE,dn,jg])) ?_;refine bY [_,_] rfl rfl rfl (Dh _ _ (by first|assumption|grind [dH,dI,dJ,dK,dL,dB,dC,bC,bz,aK,dE,dn,jg]) (by first|assumption|grind [dH,dI,dJ,dK,dL,dB,dC,bC,bz,aK,dE,dn,jg])) ?_;refine(Aq (cO a*l9 (a*a) (b*b*r))) (congrArg some (w3 (Dj a) (qbb _ _))) ?_;refine A4 ?_;refine E0 ?_;rw[qhl hs19 hs16 hs25]
def wo(x:Rl):aH Tryz.prog 180 #[RV x] (Q (jA x)):=by
 refine uU 7 Tryz.func180 fun w=>?_;refine A2 ?_;refine Bp 9 (fun g0=>?_);refine Al 4 pM (fun g1=>?_);refine A9 ?_;refine Cd ?_ ?_<;>intro hb0
 ·refine A2 ?_;refine bY [_] rfl rfl rfl (fH _) ?_;refine Ss 1 ?_;refine A4 ?_;refine GL 1 ?_;rw[qjk hb0];rfl
 ·refine A4 ?_;refine bY [_] rfl rfl rfl (fH _) ?_;refine Ss 1 ?_;refine A3 ?_;refine GL 1 ?_;rw[qjl hb0];rfl
def zX(x:Rl)(hx:ik x<=400000:=by omega):aH Tryz.prog 236 #[RV x] (.int .i64 (oK x.p (jA x) x.r)):=by
 have e1:=Nat.le_trans (rD x) hx;have e2:=Nat.le_trans (xg x) hx;have e3:=UW x;refine uU 10 Tryz.func236 fun w=>?_;refine A2 ?_;refine Bp 9 (fun g0=>?_);refine A4 ?_;refine Dp [] [0,1,2,4,5,3,6,7] ?_;refine A1 ?_;refine L4 0 0 ?_;refine L9 0 0 ?_;refine A1 ?_;refine L4 0 4 ?_;refine Pc (wo x) ?_;refine Pc (zW x.p (jA x) x.r) ?_;refine A4 ?_;refine E0 ?_;exact rfl
def dw(x y:Rl)(hx:ik x<=50000:=by omega)(hy:ik y<=50000:=by omega):aH Tryz.prog 130 #[RV x,RV y] (.int .i64 (bH x y)):=by
 have x1:=Nat.le_trans (rD x) hx;have x2:=Nat.le_trans (xg x) hx;have y1:=Nat.le_trans (rD y) hy;have y2:=Nat.le_trans (xg y) hy;have fx:=UW x;have fy:=UW y;have l1:=bz x.p y.p;have l2:=aK (x.p-y.p) (x.p-y.p);have l3:=bC ((x.p-y.p)*(x.p-y.p)) x.r;have l4:=bz ((x.p-y.p)*(x.p-y.p)+x.r) y.r;have l5:=aK (x.p-y.p) (jA x);have l6:=aK 2 ((x.p-y.p)*jA x);have l7:=EJ;refine nG 65 Tryz.func130 fun w=>?_;refine A2 ?_;refine Bp 9 (fun g0=>?_);refine Bp 9 (fun g1=>?_);refine A4 ?_;refine Dq [3000000] [0,1,2,3,5,7,4,6,8,9,10,11,12,13,14,15] ?_;refine A1 ?_;refine L4 0 0 ?_;refine A1 ?_;refine L4 1 0 ?_;refine L9 0 0 ?_;refine L9 1 0 ?_;refine Pc (eY x.p y.p) ?_;refine Pc (wo x) ?_;refine Pc (wo y) ?_;refine Pc (ui (jA y)) ?_;refine Al 4 pM (fun g2=>?_);refine Al 4 pM (fun g3=>?_);refine Al 4 pM (fun g4=>?_);refine Ss 2 ?_;refine Ss 3 ?_;refine Ss 4 ?_;refine A3 ?_;refine Dp [2000000] [0,1,2,3,5,7,8,4,6,9,10,11,12] ?_;refine L4 2 0 ?_;refine L4 3 0 ?_;refine A1 ?_;refine L4 0 4 ?_;refine L4 4 0 ?_;refine A1 ?_;refine L4 1 4 ?_;refine Pc (zW (x.p-y.p) (jA x) x.r) ?_;refine Pc (dZ (-jA y)) ?_;refine Pc (dZ y.r) ?_;refine(Aq (cO (-jA y)*cO y.r)) (congrArg some (w3 (Dj _) (Dj _))) ?_;refine qf ?_;refine Rs 35 ?_ ?_<;>intro hb0
 ·have hs35:=eq_of_beq hb0;refine Qe ?_;refine E0 ?_;rw[qex hs35]
 ·have hs35:=ne_of_beq_false hb0;refine A7 ?_;refine Cd ?_ ?_<;>intro hb1
  ·have hs32:=eq_of_beq hb1;refine A9 ?_;refine E0 ?_;rw[qey hs32]
  ·have hs32:=ne_of_beq_false hb1;refine A7 ?_;refine Cd ?_ ?_<;>intro hb2
   ·have hs41:=eq_of_beq hb2;refine A9 ?_;refine E0 ?_;rw[qez hs35 hs32 hs41]
   ·have hs41:=ne_of_beq_false hb2;refine A4 ?_;refine Dq [3000000] [0,1,3,4,6,7,2,5,8,9,10] ?_;refine L4 2 0 ?_;refine L4 2 0 ?_;refine A1 ?_;refine L4 0 4 ?_;refine A1 ?_;refine L4 1 4 ?_;refine Pc (aG (x.p-y.p) (x.p-y.p)) ?_;refine Pc (bK ((x.p-y.p)*(x.p-y.p)) x.r) ?_;refine Pc (eY ((x.p-y.p)*(x.p-y.p)+x.r) y.r) ?_;refine Al 4 pM (fun g5=>?_);refine Ss 5 ?_;refine A3 ?_;refine Dp [] [0,1,3,4,7,8,2,5,6,9,10,11] ?_;refine A1 ?_;refine L4 5 0 ?_;refine L4 2 0 ?_;refine L4 3 0 ?_;refine A1 ?_;refine L4 0 4 ?_;refine Pc (fH 2) ?_;refine Kr 56 (Q 2) ?_;refine Pc (aG (x.p-y.p) (jA x)) ?_;refine Pc (aG 2 ((x.p-y.p)*jA x)) ?_;refine Pc (zW ((x.p-y.p)*(x.p-y.p)+x.r-y.r) (2*((x.p-y.p)*jA x)) x.r) ?_;refine(Aq (oK (x.p-y.p) (jA x) x.r*oK ((x.p-y.p)*(x.p-y.p)+x.r-y.r) (2*((x.p-y.p)*jA x)) x.r)) (congrArg some (w3 (Bj _ _ _) (Bj _ _ _))) ?_;refine A4 ?_;refine E0 ?_;rw[qeA hs35 hs32 hs41]
def kC(q:Rat):aH Tryz.prog 86 #[Q q] (RV (rl q)):=by
 refine uU 5 Tryz.func86 fun w=>?_;refine A2 ?_;refine Bp 4 (fun g0=>?_);refine Al 9 MC (fun g1=>?_);refine A4 ?_;refine L4 0 0 ?_;refine(Bu [(0,_)]) (zu) ?_;refine Ss 1 ?_;refine A3 ?_;refine QG 1 ?_;rw[G8]
def vw(x:Rl)(q:Rat)(hx:ik x<=50000:=by omega)(hq:bP q<=50000:=by omega):aH Tryz.prog 118 #[RV x,Q q] (.int .i64 (bH x (rl q))):=by
 refine nG 9 Tryz.func118 fun w=>?_;refine A2 ?_;refine Bp 9 (fun g0=>?_);refine Bp 4 (fun g1=>?_);refine A4 ?_;refine Di [] ?_;refine L9 0 0 ?_;refine L4 1 0 ?_;refine Pc (kC q) ?_;refine Pc (dw x (rl q) hx (vZ hq (by omega))) ?_;refine A4 ?_;refine E0 ?_;exact rfl
def J5(x y:Rl)(hx:ik x<=50000:=by omega)(hy:ik y<=50000:=by omega):aH Tryz.prog 83 #[RV x,RV y] (RV (jL x y)):=by
 refine nG 11 Tryz.func83 fun w=>?_;refine A2 ?_;refine Bp 9 (fun g0=>?_);refine Bp 9 (fun g1=>?_);refine Al 9 MC (fun g2=>?_);refine A5 ?_;refine L9 1 0 ?_;refine L9 0 0 ?_;refine Pc (dw y x hy hx) ?_;refine A3 ?_;refine Cd ?_ ?_<;>intro hb0
 ·refine A2 ?_;refine L9 1 0 ?_;refine Ss 2 ?_;refine A4 ?_;refine QG 2 ?_;rw[jL,if_pos (of_decide_eq_true hb0)];rfl
 ·refine A4 ?_;refine L9 0 0 ?_;refine Ss 2 ?_;refine A3 ?_;refine QG 2 ?_;rw[jL,if_neg (of_decide_eq_false hb0)];rfl
end Go.Proofs.YtaffcpfhedadhaaGreatDoor
namespace Go.Proofs.YtaffcpfhedadhaaGreatDoor
open Go Go.RowKit Go.Via
def uj(z:Int)(hz:jf z<=33554432:=by omega):aH Tryz.prog 159 #[I z] (.tuple #[I (if nD z=true then((bM z.natAbs:Nat):Int) else 0),.bool (nD z)]):=by
 have hr:=nR z.natAbs;have hz2:nb z.natAbs<=33554432:=hz;refine uU 20 Tryz.func159 fun w=>?_;refine A2 ?_;refine Bp 2 (fun g0=>?_);refine Al 2 wM (fun g1=>?_);refine kL ?_;refine Cd ?_ ?_<;>intro hb0
 ·refine A2 ?_;refine(Bu []) (FM) ?_;refine Ss 1 ?_;refine A5 ?_;refine bg rfl (bf 1 rfl rfl xQ (vs:=[_,_]) rfl rfl (Nat.le_of_ble_eq_true rfl) rfl) (ai rfl) (fun w hL=>⟨?_,hL.below⟩);rw[qa8 hb0,if_neg (by decide),WG]
 ·refine A6 ?_;refine Pc (zU z.natAbs hz2) ?_;refine A5 ?_;refine Dp [] [0,1,3,4,2,5] ?_;refine A4 ?_;refine bY [_,_] rfl rfl rfl (BO _ _) ?_;refine A3 ?_;refine Cd ?_ ?_<;>intro hb1
  ·refine A2 ?_;refine(Bu []) (FM) ?_;refine Ss 1 ?_;refine A5 ?_;refine bg rfl (bf 1 rfl rfl xQ (vs:=[_,_]) rfl rfl (Nat.le_of_ble_eq_true rfl) rfl) (ai rfl) (fun w hL=>⟨?_,hL.below⟩);rw[qew hb1,if_neg (by decide),WG]
  ·refine A5 ?_;refine Pc (cu false (bM z.natAbs)) ?_;refine Ss 1 ?_;refine A4 ?_;refine bg rfl (bf 1 rfl rfl xQ (vs:=[_,_]) rfl rfl (Nat.le_of_ble_eq_true rfl) rfl) (ai rfl) (fun w hL=>⟨?_,hL.below⟩);rw[qa9 hb0 hb1,if_pos rfl];rfl
def yF(q:Rat)(hq:bP q<=4194303:=by omega):aH Tryz.prog 107 #[Q q] (.tuple #[Q (if qw q=true then fP q else 0),.bool (qw q)]):=by
 have h1:=Nat.le_trans (dB q) hq;have h2:=Nat.le_trans (dC q) hq;have h3:=nR q.num.natAbs;have h4:=nR q.den;refine uU 30 Tryz.func107 fun w=>?_;refine A2 ?_;refine Bp 4 (fun g0=>?_);refine Al 4 pM (fun g1=>?_);refine A6 ?_;refine L2 0 0 ?_;refine Pc (uj q.num) ?_;refine A3 ?_;refine Al 2 wM (fun g2=>?_);refine Ss 2 ?_;refine A5 ?_;refine L4 0 0 ?_;refine Pc (eX q) ?_;refine Pc (uj (q.den:Int)) ?_;refine A3 ?_;refine Al 2 wM (fun g3=>?_);refine Ss 3 ?_;refine A9 ?_;refine Rs 22 ?_ ?_<;>intro hb0
 ·have hs22:nD q.num=false:=by have e:=hb0;simpa using e
  refine A8 ?_;refine(Bu []) (xR) ?_;refine Ss 1 ?_;refine A5 ?_;refine bg rfl (bf 1 rfl rfl BD (vs:=[_,_,_,_]) rfl rfl (Nat.le_of_ble_eq_true rfl) rfl) (ai rfl) (fun w hL=>⟨?_,hL.below⟩);rw[Gh,hs22,Bool.false_and,if_neg (by decide),xO]
 ·have hs22:nD q.num=true:=by have e:=hb0;simpa using e
  refine A5 ?_;refine Cd ?_ ?_<;>intro hb1
  ·have hs23:nD (q.den:Int)=false:=by have e:=hb1;simpa using e
   refine A2 ?_;refine(Bu []) (xR) ?_;refine Ss 1 ?_;refine A5 ?_;refine bg rfl (bf 1 rfl rfl BD (vs:=[_,_,_,_]) rfl rfl (Nat.le_of_ble_eq_true rfl) rfl) (ai rfl) (fun w hL=>⟨?_,hL.below⟩);rw[Gh,hs23,Bool.and_false,if_neg (by decide),xO]
  ·have hs23:nD (q.den:Int)=true:=by have e:=hb1;simpa using e
   refine A4 ?_;refine L2 2 0 ?_;refine L2 3 0 ?_;refine Pc (jI _ _ (qbc hs22 h1) (qbe hs23 h2) (qbf hs23)) ?_;refine Ss 1 ?_;refine A4 ?_;refine bg rfl (bf 1 rfl rfl BD (vs:=[_,_,_,_]) rfl rfl (Nat.le_of_ble_eq_true rfl) rfl) (ai rfl) (fun w hL=>⟨?_,hL.below⟩);rw[Gh,hs22,hs23];rfl
end Go.Proofs.YtaffcpfhedadhaaGreatDoor
namespace Go.Via
open Go
theorem RS{a b:Int}:xM a b<=0↔a<=b:=by unfold xM;split<;>(try split)<;>omega
def RU{S1 S2:Rl->Prop}{r1 r2:Rl->Int}(T1:fD S1 r1)(T2:fD S2 r2){a b:ru}(a1:S1 a.1)(b1:S1 b.1)(a2:S2 a.1)(b2:S2 b.1):aY r1 a<=aY r1 b↔aY r2 a<=aY r2 b:=by
 have e1:=Ep T1 a1 b1;have e2:=Ep T2 a2 b2;rw[<-RS,<-e1,e2,RS]
def RX{S1 S2:Rl->Prop}{r1 r2:Rl->Int}(T1:fD S1 r1)(T2:fD S2 r2){l:List PU}(e1:Ends S1 l)(e2:Ends S2 l)(h:nX r1 l):nX r2 l:=by
 refine⟨?_,fun x hx=>?_⟩
 ·refine List.Pairwise.imp_of_mem (fun {x y} hx hy hh=>?_) h.1;exact(RU T1 T2 (a:=x.i.e) (b:=y.i.b) (e1 x hx).2 (e1 y hy).1 (e2 x hx).2 (e2 y hy).1).1 hh
 ·have h0:=h.2 x hx;have:=(RU T1 T2 (a:=x.i.e) (b:=x.i.b) (e1 x hx).2 (e1 x hx).1 (e2 x hx).2 (e2 x hx).1);omega
def zY(l:List PU):List Rl:=l.flatMap fun u=>[u.i.f,u.i.t]
theorem Bq{l:List PU}{u:PU}(h:u∈l):u.i.f∈zY l∧u.i.t∈zY l:=⟨List.mem_flatMap.2 ⟨u,h,by simp⟩,List.mem_flatMap.2 ⟨u,h,by simp⟩⟩
def NC{l:List PU}(h:Ends jl l){x:Rl}(hx:x∈zY l):jl x:=by
 obtain⟨u,hu,he⟩:=List.mem_flatMap.1 hx;simp at he;rcases he with rfl|rfl
 ·exact(h u hu).1
 ·exact(h u hu).2
structure Two(a b:List PU)(m:Rl)(S:Rl->Prop)(ρ:Rl->Int):Prop where
 T:fD S ρ
 ea:Ends S a
 eb:Ends S b
 sa:nX ρ a
 sb:nX ρ b
 sm:S m
 only:∀x,S x->jl x∨x=m
def qhn{a b:List PU}{m:Rl}(hm:m.ok)(sa:nX iM a)(sb:nX iM b)(ea:Ends jl a)(eb:Ends jl b):∃S ρ,Two a b m S ρ:=by
 have O:=qi6 hm;have hE:∀x∈m::(zY a++zY b),jl x∨x=m:=fun x hx=>by
  rcases List.mem_cons.1 hx with e|e
  ·exact .inr e
  ·rcases List.mem_append.1 e with e|e
   ·exact .inl (NC ea e)
   ·exact .inl (NC eb e)
 have T:=qed O (E:=m::(zY a++zY b)) fun x hx=>by
  rcases hE x hx with⟨z,hz⟩|e
  ·exact .inl ⟨_,hz⟩
  ·exact .inr e
 have ea':Ends (fun x=>x∈m::(zY a++zY b)) a:=fun u hu=>⟨by simp[(Bq hu).1],by simp[(Bq hu).2]⟩
 have eb':Ends (fun x=>x∈m::(zY a++zY b)) b:=fun u hu=>⟨by simp[(Bq hu).1],by simp[(Bq hu).2]⟩
 exact⟨_,_,⟨T,ea',eb',RX zO T ea ea' sa,RX zO T eb eb' sb,List.mem_cons_self ..,hE⟩⟩
def xh(i:Iv)(t:Rl):Bool:=(decide (bH i.f t<0)||decide (bH i.f t=0)&& !i.fo)&&(decide (bH t i.t<0)||decide (bH t i.t=0)&& !i.tp)
def EL{S:Rl->Prop}{ρ:Rl->Int}(T:fD S ρ){i:Iv}{t:Rl}(h:S i.f∧S i.t)(ht:S t):xh i t=true↔aY ρ i.b<=2*ρ t∧2*ρ t<aY ρ i.e:=by
 unfold xh;have h1:=T.lt h.1 ht;have h2:=T.zero h.1 ht;have h3:=T.lt ht h.2;have h4:=T.zero ht h.2;simp only[Bool.or_eq_true,Bool.and_eq_true,Bool.not_eq_true',decide_eq_true_eq,h1,h2,h3,h4];unfold aY Iv.b Iv.e;dsimp only;cases i.fo<;>cases i.tp<;>simp<;>omega
def UX(a b:List PU)(t:Rl):Option Rl:=a.findSome? fun x=>b.findSome? fun y=>if(xh x.i t&&xh y.i t)=true then some (F8 (d2 x.f y.f) t) else none
def RY{a b:List PU}{t d:Rl}(h:UX a b t=some d):∃x∈a,∃y∈b,xh x.i t=true∧xh y.i t=true∧d=F8 (d2 x.f y.f) t:=by
 obtain⟨x,hx,h1⟩:=List.exists_of_findSome?_eq_some h;obtain⟨y,hy,h2⟩:=List.exists_of_findSome?_eq_some h1
 split at h2
 ·rename_i hc
  rw[Bool.and_eq_true] at hc;cases h2;exact⟨x,hx,y,hy,hc.1,hc.2,rfl⟩
 ·cases h2
def qeC{S:Rl->Prop}{ρ:Rl->Int}(T:fD S ρ){x y:PU}{t:Rl}(hx:S x.i.f∧S x.i.t)(hy:S y.i.f∧S y.i.t)(ht:S t)(h1:xh x.i t=true)(h2:xh y.i t=true):
 Dx x y=some (dR x.i y.i,d2 x.f y.f)∧xh (dR x.i y.i) t=true:=by
 have k1:=(EL T hx ht).1 h1;have k2:=(EL T hy ht).1 h2;have hS:=CX hx hy;have b:=JR T hx.1 hy.1;have e:=JS T hx.2 hy.2;have hi:xh (dR x.i y.i) t=true:=(EL T hS ht).2 (by
 rcases b with⟨e1,_⟩|⟨e1,_⟩<;>rcases e with⟨e2,_⟩|⟨e2,_⟩<;>rw[e1,e2]<;>omega)
 refine⟨?_,hi⟩;have ho:jr (dR x.i y.i)=true:=(tY T hS.1 hS.2).2 (by have:=(EL T hS ht).1 hi;omega);unfold Dx wU;rw[if_pos ho];rfl
def qho{S:Rl->Prop}{ρ:Rl->Int}(hS:∀x,S x->qk2 x)(T:fD S ρ){a b:List PU}(ea:Ends S a)(eb:Ends S b)(sa:nX ρ a)(sb:nX ρ b):Yu ((ay a b).map dV):=fun p hp=>by
 obtain⟨z,hz,rfl⟩:=List.mem_map.1 hp;rw[qB T sa sb ea eb] at hz;obtain⟨x,hx,y,hy,hm⟩:=(zN T sb eb sa ea).2 z hz;obtain⟨_,e2,s1,s2,_⟩:=uf T (ea x hx) (eb y hy) hm;obtain⟨u,hu⟩:=hS _ s1;obtain⟨v,hv⟩:=hS _ s2;refine⟨ry z.2 u,ry z.2 v,?_,?_,?_,?_⟩
 ·rw[e2];exact Nu _ _ _
 ·rw[e2];exact Nu _ _ _
 ·unfold dV;rw[hu,yh]
 ·unfold dV;rw[hv,yh]
def UY{a b:List PU}(sa:nX iM a)(sb:nX iM b)(ea:Ends jl a)(eb:Ends jl b):Yu ((ay a b).map dV):=
 qho (fun x ⟨z,hz⟩=>⟨_,hz⟩) zO ea eb sa sb
def RZ:∀{l:List qA} {q:Rat},Yu l->∃M,l.foldl (fun o x=>jL o (jL x.a x.b)) (rl q)=rl M∧q<=M∧∀p∈l,∀u v,p.a=rl u->p.b=rl v->u<=M∧v<=M
 |[],q,_=>⟨q,rfl,Rat.le_refl,by simp⟩
 |p::l,q,h=>by
  obtain⟨u,v,hu,hv,ea,eb⟩:=h p (List.mem_cons_self ..);obtain⟨M,h1,h2,h3⟩:=RZ (l:=l) (q:=Rt q (Rt u v)) fun x hx=>h x (List.mem_cons_of_mem _ hx)
  have hq:q<=Rt q (Rt u v)∧u<=Rt q (Rt u v)∧v<=Rt q (Rt u v):=(by unfold Rt;grind);refine⟨M,?_,Rat.le_trans hq.1 h2,fun x hx u' v' eu ev=>?_⟩
  ·rw[List.foldl_cons,ea,eb,qK,qK];exact h1
  ·rcases List.mem_cons.1 hx with rfl|hx
   ·rw[ea] at eu;rw[eb] at ev;have e1:u=u':=congrArg Rl.p eu;have e2:v=v':=congrArg Rl.p ev;rw[<-e1,<-e2];exact⟨Rat.le_trans hq.2.1 h2,Rat.le_trans hq.2.2 h2⟩
   ·exact h3 x hx u' v' eu ev
def Si{l:List qA}(h:Yu l)(hne:l≠[]):∃M,fF l=rl M∧∀p∈l,∀u v,p.a=rl u->p.b=rl v->u<=M∧v<=M:=by
 cases l with
 |nil=>exact absurd rfl hne
 |cons p l=>
  obtain⟨u,v,hu,hv,ea,eb⟩:=h p (List.mem_cons_self ..);obtain⟨M,h1,h2,h3⟩:=RZ (l:=p::l) (q:=u) h;exact⟨M,by show List.foldl _ p.a (p::l)=_;rw[ea];exact h1,h3⟩
def ND{a b:List PU}{m d:Rl}(hm:m.ok)(sa:nX iM a)(sb:nX iM b)(ea:Ends jl a)(eb:Ends jl b)(h:UX a b m=some d):
 ay a b≠[]∧bH d (fF ((ay a b).map dV))<=0:=by
 obtain⟨x,hx,y,hy,h1,h2,rfl⟩:=RY h;obtain⟨S,ρ,W⟩:=qhn hm sa sb ea eb;obtain⟨hz,hi⟩:=qeC W.T (W.ea x hx) (W.eb y hy) W.sm h1 h2;have hmem:(dR x.i y.i,d2 x.f y.f)∈ay a b:=by
  rw[qB W.T W.sa W.sb W.ea W.eb];exact List.mem_flatMap.2 ⟨x,hx,List.mem_filterMap.2 ⟨y,hy,hz⟩⟩
 have hne:ay a b≠[]:=fun e=>by rw[e] at hmem;cases hmem
 refine⟨hne,?_⟩;obtain⟨M,hM,hle⟩:=Si (UY sa sb ea eb) (by simpa using hne);obtain⟨⟨u,hu⟩,⟨v,hv⟩⟩:=CX (ea x hx) (eb y hy);have hle:=hle (dV (dR x.i y.i,d2 x.f y.f)) (List.mem_map.2 ⟨_,hmem,rfl⟩) (ry (d2 x.f y.f) u) (ry (d2 x.f y.f) v) (by unfold dV;dsimp only;rw[hu,yh]) (by unfold dV;dsimp only;rw[hv,yh]);rw[hM];have hS:=CX (W.ea x hx) (W.eb y hy);have hk:=(EL W.T hS W.sm).1 hi;have q1:=(zL ρ (dR x.i y.i).b).1;have q2:=(zL ρ (dR x.i y.i).e).2;have c1:bH (dR x.i y.i).f m<=0:=by
  have:=W.T.gt hS.1 W.sm;have e:(dR x.i y.i).b.1=(dR x.i y.i).f:=rfl;rw[e] at q1;omega
 have c2:bH m (dR x.i y.i).t<=0:=by
  have:=W.T.gt W.sm hS.2;have e:(dR x.i y.i).e.1=(dR x.i y.i).t:=rfl;rw[e] at q2;omega
 rw[hu] at c1;rw[hv] at c2;exact qg1 hm (qi7 _ _) c1 c2 hle.1 hle.2
end Go.Via
namespace Go.Via
open Go
theorem J6{a b:List PU}(sa:nX iM a)(sb:nX iM b)(ea:Ends jl a)(eb:Ends jl b)(hne:ay a b≠[]):Rq ((ay a b).map dV)=fF ((ay a b).map dV):=
 (UN (UY sa sb ea eb) (by simpa using hne)).symm
theorem Sj{a b:List PU}(sa:nX iM a)(sb:nX iM b)(ea:Ends jl a)(eb:Ends jl b):ay a b=ay b a:=UO zO sa sb ea eb
def qbg{a b:List PU}(sa:nX iM a)(sb:nX iM b)(ea:Ends jl a)(eb:Ends jl b)(hne:ay a b≠[]):∃M,fF ((ay a b).map dV)=rl M:=by
 obtain⟨M,h,_⟩:=Si (UY sa sb ea eb) (by simpa using hne);exact⟨M,h⟩
def qbh{a b:List PU}(sa:nX iM a)(sb:nX iM b)(ea:Ends jl a)(eb:Ends jl b)(hne:ay a b≠[]):wY a b ((ay a b).map dV) (fF ((ay a b).map dV))=0:=by
 obtain⟨M,h⟩:=qbg sa sb ea eb hne;exact qeh (fun x ⟨z,hz⟩=>⟨_,hz⟩) zO sa sb ea eb hne (by rw[h];exact IG M)
end Go.Via
namespace Go.Via
open Go
def Ph(x y:Rl):jL x y=x∨jL x y=y:=by unfold jL;split<;>simp
def YF{l:List qA}(hne:l≠[]):∃p∈l,fF l=p.a∨fF l=p.b:=by
 have step:∀(l:List qA) (o:Rl),l.foldl (fun o x=>jL o (jL x.a x.b)) o=o∨∃p∈l,l.foldl (fun o x=>jL o (jL x.a x.b)) o=p.a∨l.foldl (fun o x=>jL o (jL x.a x.b)) o=p.b:=by
  intro l
  induction l with
  |nil=>intro o;exact .inl rfl
  |cons p l ih=>
   intro o;rw[List.foldl_cons];rcases ih (jL o (jL p.a p.b)) with e|⟨q,hq,e⟩
   ·rw[e];rcases Ph o (jL p.a p.b) with e1|e1
    ·exact .inl e1
    ·right
     refine⟨p,List.mem_cons_self ..,?_⟩;rw[e1];exact Ph _ _
   ·exact .inr ⟨q,List.mem_cons_of_mem _ hq,e⟩
 cases l with
 |nil=>exact absurd rfl hne
 |cons p l=>
  rcases step (p::l) p.a with e|h
  ·exact⟨p,List.mem_cons_self ..,.inl e⟩
  ·exact h
end Go.Via
namespace Go.Via
open Go
def uk(f:Qd):Nat:=max (bP f.c0) (max (bP f.c1) (bP f.c2))
def o6(f:Qd):bP f.c0<=uk f:=Nat.le_max_left ..
def o7(f:Qd):bP f.c1<=uk f:=Nat.le_trans (Nat.le_max_left ..) (Nat.le_max_right ..)
def pV(f:Qd):bP f.c2<=uk f:=Nat.le_trans (Nat.le_max_right ..) (Nat.le_max_right ..)
def Gi{f:Qd}{n:Nat}(h0:bP f.c0<=n)(h1:bP f.c1<=n)(h2:bP f.c2<=n):uk f<=n:=Nat.max_le.2 ⟨h0,Nat.max_le.2 ⟨h1,h2⟩⟩
def BF(f:Qd):Int:=if f.c2≠0 then 2 else if f.c1≠0 then 1 else if f.c0≠0 then 0 else-1
theorem Pi{q:Rat}:cO q≠0↔q≠0:=by
 rcases dO q with⟨h,e⟩|⟨h,e⟩|⟨h,e⟩<;>rw[e]<;>simp
 ·grind
 ·grind
 ·exact h
def ww(f:Qd)(t:Rat):bP (ry f t)<=bP f.c0+(bP t+(bP f.c1+(bP t+bP f.c2)+1))+1:=by
 unfold ry;have h1:=aK t f.c2;have h2:=bC f.c1 (t*f.c2);have h3:=aK t (f.c1+t*f.c2);have h4:=bC f.c0 (t*(f.c1+t*f.c2));omega
def qbi(f:Qd)(t:Rat):bP (xE f t)<=bP f.c1+(bP f.c2+bP f.c2+1+bP t)+1:=by
 unfold xE;have h1:=bC f.c2 f.c2;have h2:=aK (f.c2+f.c2) t;have h3:=bC f.c1 ((f.c2+f.c2)*t);omega
def Pj{f:Qd}{t:Rl}{m n:Nat}(hf:uk f<=m)(ht:ik t<=n):ik (F8 f t)<=10*m+10*n+20:=by
 have e0:=Nat.le_trans (o6 f) hf;have e1:=Nat.le_trans (o7 f) hf;have e2:=Nat.le_trans (pV f) hf;have t1:=Nat.le_trans (rD t) ht;have t2:=Nat.le_trans (xg t) ht;have h1:=ww f t.p;have h2:=qbi f t.p;have h3:=aK f.c2 t.r;have h4:=bC (ry f t.p) (f.c2*t.r);unfold F8;refine Nat.le_trans qhm ?_;have h5:bP (if t.n=true then-xE f t.p else xE f t.p)<=bP (xE f t.p):=by
  split
  ·exact dn _
  ·exact Nat.le_refl _
 omega
end Go.Via
namespace Go.Via
theorem Sl:bF (0:Rat).num.natAbs=⟨#[]⟩:=iK
theorem dm0:dm 0=⟨#[]⟩:=rfl
theorem Sm:decide ((0:Rat).num<0)=false:=rfl
theorem WH(a b:Rat):qL ⟨a,b,0⟩= .agg #[.bool (decide (a.num<0)),.string (bF a.num.natAbs),.bool false,.string (dm a),.bool (decide (b.num<0)),.string (bF b.num.natAbs),.bool false,.string (dm b),aU,aV,aU,aV]:=by
 unfold qL;dsimp only;rw[Sl,dm0,Sm]
theorem NE(a:Rat):qL ⟨a,0,0⟩= .agg #[.bool (decide (a.num<0)),.string (bF a.num.natAbs),.bool false,.string (dm a),aU,aV,aU,aV,aU,aV,aU,aV]:=by
 unfold qL;dsimp only;rw[Sl,dm0,Sm]
def qbj:qL ⟨0,0,0⟩= .agg #[aU,aV,aU,aV,aU,aV,aU,aV,aU,aV,aU,aV]:=by
 unfold qL;dsimp only;rw[Sl,dm0,Sm]
def WI:RV (rl 0)= .agg #[aU,aV,aU,aV,aU,aV,aU,aV,.bool false]:=by
 rw[G8,Sl,dm0,Sm]
def ul(f:Qd)(t:Rl):Qd:=if t.r=0 then⟨ry f t.p,0,0⟩ else⟨f.c0+f.c2*(t.r-t.p*t.p),xE f t.p,0⟩
def o8(f g:Qd):Qd:=⟨f.c0-g.c0,f.c1-g.c1,f.c2-g.c2⟩
def qeD{f g:Qd}{m n:Nat}(hf:uk f<=m)(hg:uk g<=n):uk (o8 f g)<=m+n+1:=by
 have f0:=Nat.le_trans (o6 f) hf;have f1:=Nat.le_trans (o7 f) hf;have f2:=Nat.le_trans (pV f) hf;have g0:=Nat.le_trans (o6 g) hg;have g1:=Nat.le_trans (o7 g) hg;have g2:=Nat.le_trans (pV g) hg;refine Gi ?_ ?_ ?_
 ·have:=bz f.c0 g.c0;show bP (f.c0-g.c0)<=_;omega
 ·have:=bz f.c1 g.c1;show bP (f.c1-g.c1)<=_;omega
 ·have:=bz f.c2 g.c2;show bP (f.c2-g.c2)<=_;omega
def qk5(f:Qd)(n:Nat):Prop:=n<=3∧(n<=2->f.c2=0)∧(n<=1->f.c1=0)∧(n<=0->f.c0=0)
def qbk{q:Rat}(h:cO q=0):q=0:=Classical.byContradiction fun e=>Pi.2 e h
theorem qhp{f:Qd}(h:cO f.c2≠0):BF f=2:=by unfold BF;rw[if_pos (Pi.1 h)]
theorem qhq{f:Qd}(h2:f.c2=0)(h:cO f.c1≠0):BF f=1:=by unfold BF;rw[if_neg (fun e=>e h2),if_pos (Pi.1 h)]
theorem qhr{f:Qd}(h2:f.c2=0)(h1:f.c1=0)(h:cO f.c0≠0):BF f=0:=by unfold BF;rw[if_neg (fun e=>e h2),if_neg (fun e=>e h1),if_pos (Pi.1 h)]
theorem qhs{f:Qd}(h2:f.c2=0)(h1:f.c1=0)(h:f.c0=0):BF f= -1:=by unfold BF;rw[if_neg (fun e=>e h2),if_neg (fun e=>e h1),if_neg (fun e=>e h)]
def Sr{f:Qd}(h:f.c2=0):BF f<=1:=by unfold BF;rw[if_neg (fun e=>e h)];split<;>(try split)<;>omega
def WJ(f:Qd): -1<=BF f∧BF f<=2:=by
 unfold BF
 by_cases h2:f.c2=0<;>by_cases h1:f.c1=0<;>by_cases h0:f.c0=0<;>simp[h0,h1,h2]
def qht{r:Rat}(h:0<=r):¬r.num.sign<0:=by
 have:¬cO r<0:=by rcases dO r with⟨_,e⟩|⟨e1,_⟩|⟨_,e⟩<;>(try rw[e])<;>(try decide);grind
 exact this
end Go.Via
