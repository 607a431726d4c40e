/-
  Part 23 (chapter 32): lemmas, walks. Each theorem states its own conditions.
-/
import Derived.Test.YtaffcpfhedadhaaGreatDoorA14
import Derived.Test.YtaffcpfhedadhaaGreatDoorA15
import Derived.Test.YtaffcpfhedadhaaGreatDoorA22
set_option linter.all false
set_option maxRecDepth 20000
set_option maxHeartbeats 20000000
section
variable{P Q:Prop}{T:Type}{R:T->Prop}
structure bI(Z:Prop):Prop where
 qq:Z
def dP(q:Q)(h:bI Q->P:=by intro q_;refine Ar (((i+1:Nat):Int)) ?_;refine A3 ?_;exact q_.qq):=h ⟨q⟩
def F5(h:P:=by rw[EP]):=h
def iH(h:P:=by have:=of_decide_eq_true haQ;omega):=h
def iK(h:P:=by have:=of_decide_eq_false haQ;omega):=h
def lu(h:P:=by have:=of_decide_eq_true hbQ;omega):=h
def kS(h:P:=by exact(c64 _ rfl fM)):=h
def lw(h:P:=by have:=of_decide_eq_false hbQ;omega):=h
def qff(h:P:=by have:=eq_of_beq haQ;omega):=h
def qlh(h:P:=by have:=Lib.bitLen_le n 64 fM fM;omega):=h
def qli(h:P:=by exact(congrArg some (Uy _ _ rfl rfl fM))):=h
def o8(h:P:=by exact(by rw[gY,dB];omega)):=h
def PV(h:P:=by rw[gY,dB];omega):=h
def qfg(h:P:=by rw[List.length_reverse];rfl):=h
def Z7(h:P:=by exact(congrArg some (qdK _ 32 rfl rfl fM fM))):=h
def F6(h:P:=by show 0+Int.toNat _*1=_;omega):=h
def qlj(h:P:=by exact(fZ (gm fM))):=h
def fM(h:P:=by omega):=h
end
namespace Go.Proofs.YtaffcpfhedadhaaGreatDoor
variable[Go.Via.Mo]
open Go Go.RowKit Go.Via
def uV(n:Nat):aJ Tryz.prog 133 #[.string (bQ n)] (.tuple #[.int .u64 (if nb n<=8 then(n:Int) else 0),.bool (decide (nb n<=8))]):=by
 refine wQ 23 Tryz.func133 fun w=>?_;refine qC ?_;refine aS 7 (bH (nb n)) rfl F5 ?_;refine A3 ?_;refine Cd ?_ ?_<;>intro haQ
 ·have h8:¬nb n<=8:=iH;refine A8 ?_;refine bM rfl (au rfl) (au rfl) (fun w hL=>⟨?_,hL.below⟩);rw[if_neg h8,decide_eq_false h8]
 ·have h8:nb n<=8:=iK;refine nI ?_;refine aS 10 (bH (nb n)) rfl F5 ?_;refine A4 ?_;refine El (ι:={i:Nat // i<=nb n}) (fun⟨i,hi⟩=>([(0,.string (bQ n)),(4,.int .u64 (n/256^(nb n-i):Nat)),(10,bH (nb n)),(11,bH i)],[],nb n-i)) ⟨0,Nat.zero_le _⟩ ?_ (ht:=⟨rfl,(aQ rfl (qbq n)),rfl,rfl,trivial⟩);rintro⟨i,hi⟩;(try dsimp only);refine A6 ?_;refine Cd ?_ ?_<;>intro hbQ
  ·have hlt:i<nb n:=lu;refine nI ?_;refine(Sv ((n/256^(nb n-i)*2^8:Nat):Int)) (by exact(congrArg some (qdK _ 8 rfl rfl ae (qdZ n i hi hlt h8)))) ?_;refine A2 ?_;refine Aj (r:=((n/256^(nb n-1-i)%256:Nat):Int)) u9 rfl rfl rfl rfl ae (WX n i hlt) (QY _) ?_;refine(Cv ((n/256^(nb n-1-i)%256:Nat):Int) u5 jy) kS ?_;refine WQ (r:=((n/256^(nb n-(i+1)):Nat):Int)) rfl rfl rfl rfl (qix n i hi hlt h8) ?_;refine A5 ?_;refine dP ?_;exact Nl ⟨i+1,hlt⟩
  ·have hge:i=nb n:=lw;refine FN ?_;refine bM rfl (au rfl) (au rfl) (fun w hL=>⟨?_,hL.below⟩);subst hge;rw[if_pos h8,decide_eq_true h8];simp
def lC(m n:Nat):aJ Tryz.prog 197 #[.string (bQ m),.string (bQ n)] (.tuple #[.int .u64 (if nb m<=8 then(m:Int) else 0),.int .u64 (if nb n<=8 then(n:Int) else 0),.bool (decide (nb m<=8)&&decide (nb n<=8))]):=by
 refine nV 24 Tryz.func197 fun w=>?_;refine lW ?_;refine Pc (uV _) ?_;refine lW ?_;refine Pc (uV _) ?_;refine FN ?_;refine Rs 21 ?_ ?_<;>intro haQ
 ·refine A8 ?_;refine yN rfl (au rfl) (au rfl) (au rfl) (fun w hL=>⟨?_,hL.below⟩);rw[haQ];rfl
 ·refine A8 ?_;refine yN rfl (au rfl) (au rfl) (au rfl) (fun w hL=>⟨?_,hL.below⟩);rw[haQ];rfl
def IW(x:Int):aJ Tryz.prog 224 #[.int .i64 x] (.bool false):=by
 refine wQ 6 Tryz.func224 fun w=>?_;refine EK ?_;refine E0 ?_;rw[bne_self_eq_false]
def xC(x y:Int):aJ Tryz.prog 195 #[.int .i64 x,.int .i64 y] (.int .i64 (if x<y then-1 else if y<x then 1 else 0)):=by
 refine nV 20 Tryz.func195 fun w=>?_;refine A8 ?_;refine Pc (IW _) ?_;refine A6 ?_;refine Pc (IW _) ?_;refine A29 ?_;refine Cd ?_ ?_<;>intro haQ
 ·refine A7 ?_;refine E0 ?_;rw[if_pos (of_decide_eq_true haQ)]
 ·refine lW ?_;refine Cd ?_ ?_<;>intro hbQ
  ·refine A7 ?_;refine E0 ?_;rw[if_neg (of_decide_eq_false haQ),if_pos (of_decide_eq_true hbQ)]
  ·refine A8 ?_;refine E0 ?_;rw[if_neg (of_decide_eq_false haQ),if_neg (of_decide_eq_false hbQ)]
def dS(n:Nat)(h:n<18446744073709551616:=by omega):aJ Tryz.prog 198 #[.int .u64 (n:Nat)] (.string (bQ n)):=by
 refine wQ 30 Tryz.func198 fun w=>?_;refine nI ?_;refine Cd ?_ ?_<;>intro haQ
 ·have h0:n=0:=qff
  refine A7 ?_;refine E0 ?_;subst h0;rw[iT]
 ·have h0:n≠0:=by have:=ne_of_beq_false haQ;omega
  have h8:=qm2 h;have hp:=Ea h0;refine A5 ?_;refine Pc (FB _ h) ?_;refine(Aq ((Lib.bitLen n+7:Nat):Int)) (by exact(congrArg some (wi ae qlh ae))) ?_;refine(Dv ((nb n:Nat):Int)) (by exact(congrArg some ((IG _ 8 rfl rfl qlh).trans (by rw[qbz h h0])))) ?_;refine A5 ?_;refine Al 8 qrv (fun g0=>?_);refine lW ?_;refine El (ι:={i:Nat // i<=nb n}) (fun⟨i,hi⟩=>([(0,.int .u64 (n:Nat)),(3,bH (nb n)),(4,bf g0),(12,bH (nb n)),(13,bH i)],[⟨some g0,286,NV .u8 (row 8 (Ov n i)),8,true⟩],nb n-i)) ⟨0,Nat.zero_le _⟩ ?_ (hL:=(oJ (congrArg (fun c=>[(⟨some g0,286,c,8,true⟩:aH)]) (qbs n).symm)));rintro⟨i,hi⟩;(try dsimp only);refine A6 ?_;refine Cd ?_ ?_<;>intro hbQ
  ·have hlt:i<nb n:=lu;refine nI ?_;refine Ar (((nb n-1:Nat):Int)) ?_;refine A1 ?_;refine Ar (((nb n-1-i:Nat):Int)) ?_;refine A2 ?_;refine Ar (((8*i:Nat):Int)) ?_;refine(Sv ((n/2^(8*i):Nat):Int)) qli ?_;refine(Cv ((n/2^(8*i)%256:Nat):Int) jy u5) (c8 _ rfl) ?_;refine(Iz (nb n-1-i) qpB ti5) ?_;refine(S1 0 (nb n-1-i) [⟨some g0,286,_,8,true⟩] (NV .u8 (row 8 (Ov n (i+1))))) o8 (qbt n i hlt) ?_;refine A4 ?_;refine dP ?_;exact Nl ⟨i+1,hlt⟩
  ·have hge:i=nb n:=lw;subst hge;refine A8 ?_;refine qdI (nb n) qpB ti5 rfl rfl rfl rfl ae ae ae ?_;refine Ak 0 WW u5 u9 rfl rfl rfl rfl rfl (qd0 n h8) qfg (KY n) ?_;refine A4 ?_;refine E0 ?_;exact rfl
end Go.Proofs.YtaffcpfhedadhaaGreatDoor
namespace Go.Proofs.YtaffcpfhedadhaaGreatDoor
variable[Go.Via.Mo]
open Go Go.RowKit Go.Via
def Vw(m y:Nat)(hm:nb m<=67108872)(hy:0<y)(hy2:y<4294967296)(g N cap:Nat):qkU Tryz.prog 227 ⟨some g,272,NV .u32 (ai ah m),N,true⟩ [aA (some g) 0 (ai ah m).length cap,.int .u32 (y:Nat)] (.int .u32 (m%y:Nat)) ⟨some g,272,NV .u32 (row (ai ah m).length (qiK m y)),N,true⟩:=by
 refine⟨ak,fun B w R hD hL0=>?_⟩;have hdm:=ku hm;refine cB2 36 Tryz.func227 hL0 ?_;refine Ed ?_;refine Ar ((((ai ah m).length:Nat):Int)-1) ?_;refine A4 ?_;refine El (ι:={p:Nat // p<=(ai ah m).length}) (fun⟨p,hp⟩=>([(0,aA (some g) 0 (ai ah m).length cap),(1,.int .u32 (y:Nat)),(5,.int .u64 (m/ah^p%y:Nat)),(6,.int .i64 ((p:Nat)-1))],(⟨some g,272,NV .u32 (row (ai ah m).length (Q4 m y p)),N,true⟩::R),p)) ⟨(ai ah m).length,Nat.le_refl _⟩ ?_ (ht:=⟨rfl,rfl,(aQ rfl (by rw[Xf];rfl)),rfl,trivial⟩) (hL:=(oJ (congrArg (fun c=>(⟨some g,272,NV .u32 c,N,true⟩:aH)::R) (Xe m y))));rintro⟨p,hp⟩;(try dsimp only);refine A7 ?_;refine Cd ?_ ?_<;>intro haQ
 ·obtain⟨q,rfl⟩:∃q,p=q+1:=⟨p-1,iH⟩;refine dF 6 (bH q) rfl (congrArg (Value.int .i64) ae) ?_;have hr1:=Nat.mod_lt (m/ah^(q+1)) hy;have hx1:=bJ (m/ah^q);have hw:=qbO m y q hy hy2;refine A7 ?_;refine(Sv ((m/ah^(q+1)%y*2^32:Nat):Int)) Z7 ?_;refine A1 ?_;refine Kr 16 (aA (some g) 0 (ai ah m).length cap) ?_;refine A1 ?_;refine Ix 0 q ?_;refine(Lo 0 (q)) (by exact(fZ ((gm ae).trans (by rw[qiJ])))) ?_;refine(Cv ((m/ah^q%ah:Nat):Int) jo jy) kS ?_;refine WQ (r:=((Ji m y q:Nat):Int)) rfl rfl rfl rfl (KN 32 (bJ _) (by rw[Nat.mul_comm];rfl) hw KX rfl) ?_;refine A3 ?_;refine Di [0] ?_;refine A4 ?_;refine(Cv ((y:Nat):Int) jo jy) kS ?_;refine(Dv ((Ji m y q/y:Nat):Int)) (congrArg some (qdJ _ _ rfl rfl (Nat.lt_of_le_of_lt (Nat.div_le_self _ _) hw))) ?_;refine(Cv ((Ji m y q/y%4294967296:Nat):Int) jy jo) (WA _ rfl) ?_;refine A2 ?_;refine(Cv ((y:Nat):Int) jo jy) kS ?_;refine(Dv ((m/ah^q%y:Nat):Int)) (by exact(congrArg some ((jg _ _ rfl rfl).trans (by rw[UO m y q hy])))) ?_;refine Fe (q) zT Zg rfl rfl rfl rfl ae ae F6 ?_;refine qbi 0 (q) (⟨some g,272,_,N,true⟩::R) (NV .u32 (row (ai ah m).length (Q4 m y q))) Zg rfl rfl rfl rfl rfl rfl rfl rfl PV (by rw[lH,jH (fun j _=>qbP m y q j hy)]) rfl rfl ?_;refine A6 ?_;refine Ar (((q:Nat):Int)-1) ?_;refine A3 ?_;exact Nl ⟨q,ae⟩
 ·have hp0:p=0:=iK
  subst hp0;refine A8 ?_;refine(Cv ((m%y:Nat):Int) jy jo) (by exact((WA _ (by rw[Nat.pow_zero,Nat.div_one])).trans (by rw[Nat.mod_eq_of_lt (Nat.lt_trans (Nat.mod_lt _ hy) hy2)]))) ?_;refine A4 ?_;refine aO rfl (au rfl) (fun w hL=>⟨?_,hL⟩);exact rfl
def DC(m s:Nat)(hm:nb m<=67108872)(hs:s<32)(x:SR (ai ah m).length):cZ Tryz.prog 229 [⟨x.b,272,NV .u32 (ai ah m),x.n,false⟩] [x.v,bH s] Nat (fun g=>aA (some g) 0 ((ai ah m).length+1) ((ai ah m).length+1)) (fun g=>[⟨some g,272,NV .u32 (row ((ai ah m).length+1) (Oi (m*2^s))),(ai ah m).length+1,true⟩]):=by
 refine⟨ak,fun w hL0=>?_⟩;have hdm:=ku hm;refine cB2 41 Tryz.func229 hL0 ?_;refine A9 ?_;refine Ar ((((ai ah m).length+1:Nat):Int)) ?_;refine fG (c:=(ai ah m).length+1) (NV .u32 (row ((ai ah m).length+1) (Pq m s 0))) (fun g=>[_,⟨some g,272,_,_,true⟩]) zT uH rfl rfl rfl rfl rfl rfl ae (by rw[dh (g:=fun _=>0) (fun j _=>qej m s j),oC,iC]) (fun _=>rfl) (fun g0=>?_);refine nI ?_;refine El (ι:={i:Nat // i<=(ai ah m).length}) (fun⟨i,hi⟩=>([(1,bH s),(5,aA (some g0) 0 ((ai ah m).length+1) ((ai ah m).length+1)),(13,x.v),(14,bH ((ai ah m).length)),(15,bH i)],[⟨x.b,272,NV .u32 (ai ah m),x.n,false⟩,⟨some g0,272,NV .u32 (row ((ai ah m).length+1) (Pq m s i)),(ai ah m).length+1,true⟩],(ai ah m).length-i)) ⟨0,Nat.zero_le _⟩ ?_;rintro⟨i,hi⟩;(try dsimp only);refine A6 ?_;refine Cd ?_ ?_<;>intro haQ
 ·have hlt:i<(ai ah m).length:=iH;have hx1:=bJ (m/ah^i);refine A7 ?_;refine Ix 0 (i) ?_;refine(Lo 0 (i)) (fZ (lm dE hlt)) ?_;refine A7 ?_;refine(Cv ((m/ah^i%ah:Nat):Int) jo jy) kS ?_;refine A1 ?_;refine(Sv ((Jj m s i:Nat):Int)) (by exact(congrArg some (qdK _ _ rfl rfl ae (qm7 m s i hs)))) ?_;refine A7 ?_;refine Ix 1 (i) ?_;refine(Lo 1 (i)) qlj ?_;refine A1 ?_;refine(Cv ((Jj m s i%4294967296:Nat):Int) jy jo) (WA _ rfl) ?_;refine WQ (r:=((Pq m s (i+1) i:Nat):Int)) rfl rfl rfl rfl (qpE m s i hs) ?_;refine Ix 1 (i) ?_;refine(S1 1 (i) [_,⟨some g0,272,_,_,true⟩] (NV .u32 (row ((ai ah m).length+1) (shM m s i)))) o8 (by exact(by rw[lH,jH (g:=shM m s i) (fun j _=>rfl)])) ?_;refine A5 ?_;refine Ar (((i+1:Nat):Int)) ?_;refine A1 ?_;refine(Sv ((Jj m s i/2^32:Nat):Int)) (by exact(congrArg some (Uy _ 32 rfl rfl ae))) ?_;refine(Cv ((Jj m s i/2^32%4294967296:Nat):Int) jy jo) (WA _ rfl) ?_;refine Ix 1 (i+1) ?_;refine(S1 1 (i+1) [_,⟨some g0,272,_,_,true⟩] (NV .u32 (row ((ai ah m).length+1) (Pq m s (i+1))))) o8 (by exact(by rw[lH,jH (fun j _=>qei m s i j hs)])) ?_;refine A4 ?_;refine dP ?_;exact Nl ⟨i+1,hlt⟩
 ·have hge:i=(ai ah m).length:=iK;subst hge;refine nI ?_;refine aO rfl (au rfl) (fun w hL=>⟨g0,?_,?_⟩)
  ·rfl
  ·rw[dh (fun j _=>qiM m s j)] at hL;exact hL.pk [some 1]
end Go.Proofs.YtaffcpfhedadhaaGreatDoor
