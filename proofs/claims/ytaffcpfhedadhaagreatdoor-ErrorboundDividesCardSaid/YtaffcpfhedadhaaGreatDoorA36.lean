/-
  Part 36 (chapter 32): lemmas, walks. Each theorem states its own conditions.
-/
import Derived.Lib.Repeat
import Derived.Shelf.SlSortCmp.WholeK
import Derived.Shelf.SlSortCmp.NoneTotal
import Derived.Sort.Grow
import Derived.Sort.EncStr
import Derived.Test.YtaffcpfhedadhaaGreatDoorA35
set_option linter.all false
set_option maxRecDepth 20000
set_option maxHeartbeats 20000000
namespace Go.Via
open Go
def qcy(out:List Iv)(t:Rl)(tp:Bool):(Qm out t tp).length<=out.length:=by
 rcases List.eq_nil_or_concat out with e|⟨o,i,e⟩
 ·subst e;unfold Qm;simp
 ·subst e;rw[List.concat_eq_append,vK];simp
def Qp(out:List Iv)(og h:Bool)(t:Rl):(kD out og h t).length<=out.length+1:=by
 unfold kD;have h1:=qcy out t (!h)
 repeat' split
 all_goals first|(simp;done)|omega|(simp;omega)
def V8{here:Rl->Bool}{btw:Rl->Rl->Bool}:∀{ts:List Rl} {out:List Iv} {og:Bool},(qG here btw ts out og).length<=out.length+2*ts.length
 |[],out,og=>by unfold qG;simp
 |[t],out,og=>by unfold qG;have:=Qp out og (here t) t;simp;omega
 |t::u::ts,out,og=>by
  unfold qG;have h1:=Qp out og (here t) t;have h2:=V8 (here:=here) (btw:=btw) (ts:=u::ts) (out:=if btw t u=true∧here t=false then kD out og (here t) t++[⟨t,u,true,true⟩] else kD out og (here t) t) (og:=btw t u)
  refine Nat.le_trans h2 ?_
  split
  ·simp only[List.length_append,List.length_cons,List.length_nil];omega
  ·simp only[List.length_cons];omega
def Qq(op:Bool->Bool->Bool)(a b:List Iv):(jV op a b).length<=4*(a.length+b.length):=by
 rw[SH];have h:=V8 (here:=fun t=>op (nT a t) (nT b t)) (btw:=fun t u=>op (nU a t u) (nU b t u)) (ts:=fB (cu (a++b))) (out:=[]) (og:=false)
 have h2:=SG (cu (a++b));rw[vM,List.length_append] at h2;simp only[List.length_nil] at h;omega
def qgk{S S':Rl->Prop}{ρ:Rl->Int}(T:dZ S ρ)(h:∀x,S' x->S x):dZ S' ρ:=⟨fun a b=>T.lt (h _ a) (h _ b),fun a b=>T.gt (h _ a) (h _ b),fun a b=>T.inj (h _ a) (h _ b)⟩
def SmE(n:Nat)(x:Rl):Prop:=gq x∧fV x<=n
def qgl(n:Nat):dZ (SmE n) iD:=qgk ng fun _ h=>h.1
def yG(c:List lM):Nat->Option Iv
 |0=>none
 |n+1=>(c[n]?).map (·.i)
theorem qaw{c:List lM}{i:Nat}{p:lM}(h:c[i]? =some p):yG c (i+1)=some p.i:=by show(c[i]?).map (·.i)=_;rw[h];rfl
theorem qax{c:List lM}{i:Nat}{p:lM}(h:c[i]? =some p):c.drop i=p::c.drop (i+1):=by
 obtain⟨h1,h2⟩:=List.getElem?_eq_some_iff.1 h;rw[<-h2,List.getElem_cons_drop]
def qqm{f:Option Iv->lM->Int}{c:List lM}{i:Nat}{p:lM}(h:c[i]? =some p)(hL:jL f none c=jL f (yG c i) (c.drop i))(h0:f (yG c i) p=0):jL f none c=jL f (yG c (i+1)) (c.drop (i+1)):=by
 rw[hL,qax h,qaw h]
 conv=>lhs;unfold jL
 rw[if_pos h0]
def qof{f:Option Iv->lM->Int}{c:List lM}{i:Nat}{p:lM}{e:Int}(h:c[i]? =some p)(hL:jL f none c=jL f (yG c i) (c.drop i))(he:f (yG c i) p=e)(h0:e≠0):jL f none c=e:=by
 rw[hL,qax h]
 conv=>lhs;unfold jL
 rw[if_neg (by rw[he];exact h0),he]
def qog{f:Option Iv->lM->Int}{c:List lM}(hL:jL f none c=jL f (yG c c.length) (c.drop c.length)):jL f none c=0:=by
 rw[hL,List.drop_length];cases yG c c.length<;>rfl
end Go.Via
namespace Go.Proofs.YtaffcpfhedadhaaGreatDoor
open Go Go.RowKit Go.Via
def nH(f:Ln):aJ Tryz.prog 315 #[zk f] (.tuple #[rH (qx f),rH (qy f)]):=by
 refine wQ 14 Tryz.func315 fun w=>?_;refine A2 ?_;refine Bp 16 (fun g0=>?_);refine Al 12 IJ (fun g1=>?_);refine Al 12 IJ (fun g2=>?_);refine A3 ?_;refine Dp [] [0,1,2,3,5,6,7,8,4,9,10,11] ?_;refine A1 ?_;refine L4 0 0 ?_;refine A1 ?_;refine L4 0 4 ?_;refine A1 ?_;refine L4 0 8 ?_;refine A1 ?_;refine L4 0 12 ?_;refine Pc (jC f.x0 f.x1) ?_;refine Pc (jC f.y0 f.y1) ?_;refine Ss 1 ?_;refine dW ?_;refine bM rfl (bF 1 rfl rfl qie (vs:=[_,_,_,_,_,_,_,_,_,_,_,_]) rfl rfl (Nat.le_of_ble_eq_true rfl) rfl) (bF 2 rfl rfl qie (vs:=[_,_,_,_,_,_,_,_,_,_,_,_]) rfl rfl (Nat.le_of_ble_eq_true rfl) rfl) (fun w hL=>⟨?_,hL.below⟩);exact rfl
def OI(f g:Ln):aJ Tryz.prog 312 #[.agg #[],zk f,zk g] (.bool (decide (f=g))):=by
 refine pB3 10 Tryz.func312 fun w=>?_;refine A2 ?_;refine Bo [] 0 (fun g=>[⟨some g,197,_,0,true⟩]) (fun g0=>?_);refine Bp 16 (fun g1=>?_);refine Bp 16 (fun g2=>?_);refine A5 ?_;refine L16 1 0 ?_;refine L16 2 0 ?_;refine fP rfl rfl rfl rfl qrz (qr3 _ _) ?_;refine A4 ?_;refine E0 ?_;exact rfl
def Gy(f g:Ln)(t:Rl)(hf:jP f<=10000:=by omega)(hg:jP g<=10000:=by omega)(ht:fV t<=10000:=by omega):aJ Tryz.prog 314 #[.agg #[],zk f,zk g,RV t] (.bool (pV f g t)):=by
 have f1:=Yh hf;have f2:=Yi hf;have q1:=Yh hg;have q2:=Yi hg;refine pB4 33 Tryz.func314 fun w=>?_;refine A2 ?_;refine Bo [] 0 (fun g=>[⟨some g,197,_,0,true⟩]) (fun g0=>?_);refine Bp 16 (fun g1=>?_);refine Bp 16 (fun g2=>?_);refine Bp 9 (fun g3=>?_);refine A5 ?_;refine L16 1 0 ?_;refine Pc (nH f) ?_;refine A3 ?_;refine Al 12 IJ (fun g4=>?_);refine Al 12 IJ (fun g5=>?_);refine Ss 4 ?_;refine Ss 5 ?_;refine A4 ?_;refine L16 2 0 ?_;refine Pc (nH g) ?_;refine A3 ?_;refine Al 12 IJ (fun g6=>?_);refine Al 12 IJ (fun g7=>?_);refine Ss 6 ?_;refine Ss 7 ?_;refine A4 ?_;refine vZ 4 0 ?_;refine vZ 6 0 ?_;refine L9 3 0 ?_;refine Pc (yF (qx f) (qx g) t f1 q1 ht) ?_;refine A1 ?_;refine Rs 27 ?_ ?_<;>intro haQ
 ·have hsx:decide (vH (ql (qx f) (qx g)) t=⟨0,0,0⟩)=true:=haQ;refine vZ 5 0 ?_;refine vZ 7 0 ?_;refine L9 3 0 ?_;refine Pc (yF (qy f) (qy g) t f2 q2 ht) ?_;refine A5 ?_;refine E0 ?_;rw[<-qau,hsx,Bool.true_and]
 ·have hsx:decide (vH (ql (qx f) (qx g)) t=⟨0,0,0⟩)=false:=haQ;refine A9 ?_;refine E0 ?_;rw[<-qau,hsx,Bool.false_and]
def Np(f:Ln)(t:Rl)(hf:jP f<=10000:=by omega)(ht:fV t<=10000:=by omega):aJ Tryz.prog 313 #[.agg #[],zk f,RV t] (zk (jJ f t)):=by
 have f1:=Yh hf;have f2:=Yi hf;obtain⟨e1,e2,e3,e4⟩:=qlJ f t;refine pB3 29 Tryz.func313 fun w=>?_;refine A2 ?_;refine Bo [] 0 (fun g=>[⟨some g,197,_,0,true⟩]) (fun g0=>?_);refine Bp 16 (fun g1=>?_);refine Bp 9 (fun g2=>?_);refine Al 16 z98 (fun g3=>?_);refine A4 ?_;refine L16 1 0 ?_;refine Pc (nH f) ?_;refine A3 ?_;refine Al 12 IJ (fun g4=>?_);refine Al 12 IJ (fun g5=>?_);refine Ss 4 ?_;refine Ss 5 ?_;refine A3 ?_;refine Dp [] [0,1,3,4,2,5,6,7] ?_;refine vZ 4 0 ?_;refine L9 2 0 ?_;refine vZ 5 0 ?_;refine L9 2 0 ?_;refine Pc (oP (qx f) t) ?_;refine Pc (oP (qy f) t) ?_;refine Ss 4 ?_;refine Ss 5 ?_;refine A5 ?_;refine L4 4 0 ?_;refine A1 ?_;refine L4 4 4 ?_;refine A1 ?_;refine L4 5 0 ?_;refine A1 ?_;refine L4 5 4 ?_;refine(Bu [(0,_),(1,_),(2,_),(3,_)]) (qdV) ?_;refine Ss 3 ?_;refine A3 ?_;refine qnK 3 ?_;show Ending.returned (zk ⟨(vH (qx f) t).c0,(vH (qx f) t).c1,(vH (qy f) t).c0,(vH (qy f) t).c1⟩)=_;rw[e1,e2,e3,e4]
def Jy(a b c d:Nat)(s:Bool)(ha:a<256:=by omega)(hb:b<256:=by omega)(hc:c<256:=by omega)(hd:d<256:=by omega):aJ Tryz.prog 53 #[.agg #[.int .u8 (a:Nat),.int .u8 (b:Nat),.int .u8 (c:Nat),.int .u8 (d:Nat),.bool s]] (RV (if qE (Rat.divInt ((c%12:Nat):Int) ((1+d%3:Nat):Int))=true then(if s=true then rl ((Rat.divInt ((a%64:Nat):Int) ((1+b%4:Nat):Int))-fQ (Rat.divInt ((c%12:Nat):Int) ((1+d%3:Nat):Int))) else rl ((Rat.divInt ((a%64:Nat):Int) ((1+b%4:Nat):Int))+fQ (Rat.divInt ((c%12:Nat):Int) ((1+d%3:Nat):Int)))) else⟨(Rat.divInt ((a%64:Nat):Int) ((1+b%4:Nat):Int)),(Rat.divInt ((c%12:Nat):Int) ((1+d%3:Nat):Int)),s⟩)):=by
 have z1:bY (Rat.divInt ((a%64:Nat):Int) ((1+b%4:Nat):Int))<=50000:=Nat.le_trans (mM (a:=1) (b:=1) (jQ ae ae) (jQ ae ae) (Nat.le_refl _)) ae;have z2:bY (Rat.divInt ((c%12:Nat):Int) ((1+d%3:Nat):Int))<=50000:=Nat.le_trans (mM (a:=1) (b:=1) (jQ ae ae) (jQ ae ae) (Nat.le_refl _)) ae;refine wQ 26 Tryz.func53 fun w=>?_;refine A2 ?_;refine Bp 5 (fun g0=>?_);refine Al 9 II (fun g1=>?_);refine A3 ?_;refine Dp [] [0,1,2,3,4,5,6,7,8,10,11,12,13,14,15,16,17,18,20,21,9,19,22,23] ?_ (hc:=(oL [0,1,3,7,0,16,48,112,240,511,0,1024,3072,7168,0,16384,49152,114688,245760,524287,0,1048576,4194303,8388607] ak));refine A2 ?_;refine(Dv ((a%64:Nat):Int)) (congrArg some (jg _ _ rfl rfl)) ?_;refine(Cv ((a%64:Nat):Int) u5 u3) oh ?_;refine A2 ?_;refine(Dv ((b%4:Nat):Int)) (congrArg some (jg _ _ rfl rfl)) ?_;refine(Cv ((b%4:Nat):Int) u5 u3) oh ?_;refine Ar (((1+b%4:Nat):Int)) ?_;refine A2 ?_;refine(Dv ((c%12:Nat):Int)) (congrArg some (jg _ _ rfl rfl)) ?_;refine(Cv ((c%12:Nat):Int) u5 u3) oh ?_;refine A2 ?_;refine(Dv ((d%3:Nat):Int)) (congrArg some (jg _ _ rfl rfl)) ?_;refine(Cv ((d%3:Nat):Int) u5 u3) oh ?_;refine Ar (((1+d%3:Nat):Int)) ?_;refine A2 ?_;refine Pc (gu (a%64:Nat) (1+b%4:Nat)) ?_;refine Pc (gu (c%12:Nat) (1+d%3:Nat)) ?_;refine Pc (Yj (Rat.divInt ((a%64:Nat):Int) ((1+b%4:Nat):Int)) (Rat.divInt ((c%12:Nat):Int) ((1+d%3:Nat):Int)) s z1 z2) ?_;refine Ss 1 ?_;refine A3 ?_;refine TM 1 ?_;exact rfl
end Go.Proofs.YtaffcpfhedadhaaGreatDoor
