/-
  Part 25 (chapter 32): lemmas, walks. Each theorem states its own conditions.
-/
import Derived.Lib.Repeat
import Derived.Test.YtaffcpfhedadhaaGreatDoorA22
import Derived.Test.YtaffcpfhedadhaaGreatDoorA23
set_option linter.all false
set_option maxRecDepth 20000
set_option maxHeartbeats 20000000
section
variable{P Q:Prop}{T:Type}{R:T->Prop}
def qk2(h:P:=by refine(Cv (((m-n)/ag^i%ag:Nat):Int) u2 jA) qe3 ?_;refine Ix 2 (i) ?_;refine(S1 2 (i) [_,_,⟨some g2,272,_,_,true⟩] (NV .u32 (row (ah ag m).length (DZ m n (i+1))))) pI (by exact(by rw[lK,jJ (fun j _=>qbb _ _ i j)])) ?_;refine A4 ?_;refine dP ?_;exact Nl ⟨i+1,hlt⟩ (ht:=⟨rfl,rfl,rfl,(aU rfl (by rw[hd2];rfl)),rfl,rfl,trivial⟩)):=h
def qfa(h:P:=by
 refine Cd ?_ ?_<;>intro hdQ
 ·obtain⟨hd1,hd2⟩:=Y3 (m:=m) (n:=n) (i:=i) h uV;refine A2 ?_;refine Ar ((((m-n)/ag^i%ag:Nat):Int)) ?_;refine A8 ?_;exact qk2
 ·obtain⟨hd1,hd2⟩:=Y4 (m:=m) (n:=n) (i:=i) h pX;refine dC 13 (bG ((m-n)/ag^i%ag)) rfl (congrArg (Value.int .i64) ae) ?_;refine A6 ?_;exact qk2):=h
end
namespace Go.Proofs.YtaffcpfhedadhaaGreatDoor
variable[Go.Via.Mo]
open Go Go.RowKit Go.Via
def xg(m n:Nat)(hm:nb m<=67108864:=by omega)(h:n<=m:=by omega):aP Tryz.prog 221 #[.string (bP m),.string (bP n)] (.string (bP (m-n))):=by
 have hdm:=jY hm;have hn:nb n<=67108864:=Nat.le_trans (gK h) hm;have hdn:=jY hn;have hdl:(ah ag n).length<=(ah ag m).length:=qI dD h;refine oz 71 Tryz.func221 fun w=>?_;refine lD ?_;refine Pc (lG _ _) ?_;refine Ew ?_;refine Cd ?_ ?_<;>intro haQ
 ·obtain⟨hw1,hw2,hw3,hw4⟩:=E8 haQ;refine dC 5 (.int .u64 (m:Nat)) rfl U6 ?_;refine dC 6 (.int .u64 (n:Nat)) rfl U7 ?_;refine A4 ?_;refine(Aq ((m-n:Nat):Int)) LU ?_;refine dY [_] rfl rfl rfl (dW _) ?_;refine A5 ?_;refine E0 ?_;exact rfl
 ·refine A5 ?_;refine(Sc []) (dG m) (fun g0=>?_);refine A1 ?_;refine(Sc []) (dG n) (fun g1=>?_);refine A8 ?_;refine fE (c:=(ah ag m).length) (NV .u32 (List.replicate (ah ag m).length 0)) (fun g=>[_,_,⟨some g,272,_,_,true⟩]) zJ uw rfl rfl rfl rfl rfl rfl ae LV (fun _=>rfl) (fun g2=>?_);refine A7 ?_;refine J6 2 0 [_,_,⟨some g2,272,_,_,true⟩] (NV .u32 (row (ah ag m).length (DZ m n 0))) zJ uw rfl rfl rfl rfl rfl rfl rfl rfl (ik _ _) (Nat.le_refl _) (by rw[ik,List.length_replicate];exact Nat.le_refl _) (GM _ _) (qbc _ _) rfl ?_;refine SG ?_;refine El (ι:={i:Nat // i<=(ah ag m).length}) (fun⟨i,hi⟩=>([(8,ay (some g0) 0 (ah ag m).length (ah ag m).length),(9,ay (some g1) 0 (ah ag n).length (ah ag n).length),(10,ay (some g2) 0 (ah ag m).length (ah ag m).length),(11,bG (lC m n i)),(37,bG ((ah ag m).length)),(38,bG i)],[⟨some g0,272,NV .u32 (ah ag m),(ah ag m).length,true⟩,⟨some g1,272,NV .u32 (ah ag n),(ah ag n).length,true⟩,⟨some g2,272,NV .u32 (row (ah ag m).length (DZ m n i)),(ah ag m).length,true⟩],(ah ag m).length-i)) ⟨0,Nat.zero_le _⟩ ?_ (ht:=⟨rfl,rfl,rfl,(aU rfl Xj),rfl,rfl,trivial⟩);rintro⟨i,hi⟩;(try dsimp only);refine A6 ?_;refine Cd ?_ ?_<;>intro hbQ
  ·have hlt:i<(ah ag m).length:=nG;have hb1:=yO m n i;have hx1:=bH (m/ag^i);have hy1:=bH (n/ag^i);have hz1:=bH ((m-n)/ag^i);refine Ew ?_;refine Ix 2 (i) ?_;refine(Lo 2 (i)) (by exact(fP ((fU ae).trans (by rw[qif])))) ?_;refine(Cv ((m/ag^i%ag:Nat):Int) jA u2) sU ?_;refine A1 ?_;refine Ar (((m/ag^i%ag:Nat)-(lC m n i:Nat):Int)) ?_;refine nT ?_;refine Cd ?_ ?_<;>intro hcQ
   ·have hly:i<(ah ag n).length:=qE;refine A4 ?_;refine Ix 1 (i) ?_;refine(Lo 1 (i)) (fP (lw dD hly)) ?_;refine(Cv ((n/ag^i%ag:Nat):Int) jA u2) sU ?_;refine Ar (((m/ag^i%ag:Nat)-(lC m n i:Nat)-(n/ag^i%ag:Nat):Int)) ?_;refine D7 ?_;exact qfa
   ·have hly:(ah ag n).length<=i:=sD;refine dC 13 (.int .i64 ((m/ag^i%ag:Nat)-(lC m n i:Nat)-(n/ag^i%ag:Nat))) rfl (congrArg (Value.int .i64) (by rw[yN hly];omega)) ?_;refine Ew ?_;exact qfa
  ·have hge:i=(ah ag m).length:=nH;subst hge;refine A8 ?_;refine gq [_] [2] rfl rfl rfl (jr (row (ah ag m).length (DZ m n (ah ag m).length)) (lh fun j=>qig _ _ _ j) oH (dw _ _) ⟨some g2,_,_,Nat.le_refl _⟩) ⟨pS,trivial⟩ rfl ?_;refine A4 ?_;refine E0 ?_;rw[qdG h]
end Go.Proofs.YtaffcpfhedadhaaGreatDoor
namespace Go.Via
open Go
theorem aX:jb PU aB 36:=⟨fun _=>rfl,fun x v hv=>List.all_eq_true.1 (show(aB x).all (·.oneCell')=true from rfl) v hv⟩
theorem bY:jb Iv aO 20:=⟨fun _=>rfl,fun x v hv=>List.all_eq_true.1 (show(aO x).all (·.oneCell')=true from rfl) v hv⟩
theorem iD:jb Rl je 9:=⟨fun _=>rfl,fun x v hv=>List.all_eq_true.1 (show(je x).all (·.oneCell')=true from rfl) v hv⟩
def o6:jb (Iv×Qd) uh 32:=⟨fun _=>rfl,fun x v hv=>List.all_eq_true.1 (show(uh x).all (·.oneCell')=true from rfl) v hv⟩
def QY:jb B3 Xa 52:=⟨fun _=>rfl,fun x v hv=>List.all_eq_true.1 (show(Xa x).all (·.oneCell')=true from rfl) v hv⟩
theorem dS:jb ny aQ 38:=⟨fun _=>rfl,fun x v hv=>List.all_eq_true.1 (show(aQ x).all (·.oneCell')=true from rfl) v hv⟩
def uY:jb (Iv×Int) FN 21:=⟨fun _=>rfl,fun x v hv=>List.all_eq_true.1 (show(FN x).all (·.oneCell')=true from rfl) v hv⟩
theorem xh:jb ((Rl×Bool)×Int×Int) kw 12:=⟨fun _=>rfl,fun x v hv=>List.all_eq_true.1 (show(kw x).all (·.oneCell')=true from rfl) v hv⟩
end Go.Via
