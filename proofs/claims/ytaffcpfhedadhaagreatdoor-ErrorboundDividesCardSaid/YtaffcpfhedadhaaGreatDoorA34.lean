/-
  Part 34 (chapter 32): lemmas, walks. Each theorem states its own conditions.
-/
import Derived.Lib.Repeat
import Derived.Test.YtaffcpfhedadhaaGreatDoorA28
import Derived.Test.YtaffcpfhedadhaaGreatDoorA32
set_option linter.all false
set_option maxRecDepth 20000
set_option maxHeartbeats 20000000
section
variable{P Q:Prop}{T:Type}{R:T->Prop}
def MZ(q:Q)(h:bI Q->P:=by intro q_;refine dX [_,_] rfl rfl rfl (lG _ _ iR iR) ?_;exact q_.qq):=h ⟨q⟩
def qah(q:Q)(h:bI Q->P:=by intro q_;refine dX [_,_] rfl rfl rfl (Dc _ _ iR iR (qmA ae)) ?_;exact q_.qq):=h ⟨q⟩
def iR(h:P:=by first|assumption|grind [qmB,qmC,qmD,qmE,qmF,WJ,WL,iG,gW,bZ,qdB,KI,qrn]):=h
def qfU(h:P:=by rw[BZ] at hcQ;simpa using hcQ):=h
def Na(h:P:=by rw[haQ];decide):=h
def RY(h:P:=by rintro(h|h);exact h0 h;exact h1 h):=h
end
namespace Go.Proofs.YtaffcpfhedadhaaGreatDoor
variable[Go.Via.Mo]
open Go Go.RowKit Go.Via
def qZ(z:Int):aJ Tryz.prog 165 #[I z] (I (-z)):=by
 refine wQ 9 Tryz.func165 fun w=>?_;refine A2 ?_;refine Bp 2 (fun g0=>?_);refine Al 2 yh (fun g1=>?_);refine A9 ?_;refine Pc (dC _ _) ?_;refine Ss 1 ?_;refine A3 ?_;refine TL 1 ?_;exact congrArg (fun z=>Ending.returned (I z)) (WI z)
def xP(a b:Int)(ha:jv a<=67108864:=by omega)(hb:jv b<=67108864:=by omega):aJ Tryz.prog 190 #[I a,I b] (I (a+b)):=by
 refine nV 42 Tryz.func190 fun w=>?_;refine A2 ?_;refine Bp 2 (fun g0=>?_);refine Bp 2 (fun g1=>?_);refine Al 2 yh (fun g2=>?_);refine lW ?_;refine G9 rfl u4 rfl rfl rfl ?_;refine A3 ?_;refine Cd ?_ ?_<;>intro haQ
 ·refine A1 ?_;refine Di [] ?_;refine A6 ?_;refine Pc (xK _ _ ha hb) ?_;refine Pc (dC _ _) ?_;refine Ss 2 ?_;refine A5 ?_;refine TL 2 ?_;exact congrArg (fun z=>Ending.returned (I z)) (Us a b haQ)
 ·refine A6 ?_;refine Pc (lX _ _) ?_;refine A4 ?_;refine Cd ?_ ?_<;>intro hbQ
  ·refine A1 ?_;refine Di [] ?_;refine A6 ?_;refine Pc (xM _ _ ha (Y8 _ _ hbQ)) ?_;refine Pc (dC _ _) ?_;refine Ss 2 ?_;refine A5 ?_;refine TL 2 ?_;exact congrArg (fun z=>Ending.returned (I z)) (O3 a b haQ (Y8 _ _ hbQ))
  ·refine A4 ?_;refine Di [] ?_;refine A6 ?_;refine Pc (xM _ _ hb (Y9 _ _ hbQ)) ?_;refine Pc (dC _ _) ?_;refine dW ?_;refine TL 2 ?_;exact congrArg (fun z=>Ending.returned (I z)) (O4 a b haQ (Y9 _ _ hbQ))
def lG(a b:Int)(ha:jv a<=67108864:=by omega)(hb:jv b<=67108864:=by omega):aJ Tryz.prog 123 #[I a,I b] (I (a*b)):=by
 refine nV 16 Tryz.func123 fun w=>?_;refine A2 ?_;refine Bp 2 (fun g0=>?_);refine Bp 2 (fun g1=>?_);refine Al 2 yh (fun g2=>?_);refine A3 ?_;refine Di [] ?_;refine A4 ?_;refine o6 rfl u4 rfl rfl rfl ?_;refine A4 ?_;refine Pc (DI _ _ ha hb) ?_;refine Pc (dC _ _) ?_;refine dW ?_;refine TL 2 ?_;exact congrArg (fun z=>Ending.returned (I z)) (Za a b)
def yC(a b:Int)(ha:jv a<=33554432:=by omega)(hb:jv b<=33554432:=by omega)(h0:b≠0:=by omega):aJ Tryz.prog 201 #[I a,I b] (.tuple #[I (a/b),I (a%b),.int .i64 0]):=by
 have szle:nb a.natAbs<=67108864:=Nat.le_trans ha (Nat.le_of_ble_eq_true rfl);have szle2:nb b.natAbs<=67108864:=Nat.le_trans hb (Nat.le_of_ble_eq_true rfl);refine nV 43 Tryz.func201 fun w=>?_;refine A2 ?_;refine Bp 2 (fun g0=>?_);refine Bp 2 (fun g1=>?_);refine Al 2 yh (fun g2=>?_);refine Al 2 yh (fun g3=>?_);refine qC ?_;refine Cd ?_ ?_<;>intro haQ
 ·exact absurd haQ (by rw[nK];simp;omega)
 ·refine A8 ?_;refine dX [_,_] rfl rfl rfl (rM _ _ iR iR) ?_;refine FN ?_;refine Rs 24 ?_ ?_<;>intro hbQ
  ·refine A5 ?_;refine Cd ?_ ?_<;>intro hcQ
   ·refine Dp [] [0,2,3,4,1,5,6,7] ?_;refine A4 ?_;refine dX [_,.string (bQ 1)] rfl rfl (by rw[qhI];rfl) (xK _ _ (Nat.le_trans (DZ _ _) (Nat.le_trans ha (Nat.le_of_ble_eq_true rfl))) (Nat.le_trans (nP (k:=1) ae) (Nat.le_of_ble_eq_true rfl))) ?_;refine dX [_,_] rfl rfl rfl (xM _ _ iR (Nat.le_of_lt (Nat.mod_lt _ ae))) ?_;refine lW ?_;refine o6 rfl u4 rfl rfl rfl ?_;refine A1 ?_;refine Pc (dC _ _) ?_;refine A1 ?_;refine Pc (dC _ _) ?_;refine Ss 2 ?_;refine Ss 3 ?_;refine A4 ?_;refine yN rfl (bF 2 rfl rfl yS (vs:=[_,_]) rfl rfl (Nat.le_of_ble_eq_true rfl) rfl) (bF 3 rfl rfl yS (vs:=[_,_]) rfl rfl (Nat.le_of_ble_eq_true rfl) rfl) (au rfl) (fun w hL=>⟨?_,hL.below⟩);have e:=qdA (a:=a) (b:=b) h0 xJ qfU;rw[<-e.1,<-e.2];rfl
   ·refine A8 ?_;refine o6 rfl u4 rfl rfl rfl ?_;refine A1 ?_;refine Pc (dC _ _) ?_;refine A1 ?_;refine Pc (dC _ _) ?_;refine Ss 2 ?_;refine Ss 3 ?_;refine A4 ?_;refine yN rfl (bF 2 rfl rfl yS (vs:=[_,_]) rfl rfl (Nat.le_of_ble_eq_true rfl) rfl) (bF 3 rfl rfl yS (vs:=[_,_]) rfl rfl (Nat.le_of_ble_eq_true rfl) rfl) (au rfl) (fun w hL=>⟨?_,hL.below⟩);have e:=Uu (a:=a) (b:=b) h0 (.inr qfU);rw[<-e.1,<-e.2];rfl
  ·refine EK ?_;refine o6 rfl u4 rfl rfl rfl ?_;refine A1 ?_;refine Pc (dC _ _) ?_;refine A1 ?_;refine Pc (dC _ _) ?_;refine Ss 2 ?_;refine Ss 3 ?_;refine A4 ?_;refine yN rfl (bF 2 rfl rfl yS (vs:=[_,_]) rfl rfl (Nat.le_of_ble_eq_true rfl) rfl) (bF 3 rfl rfl yS (vs:=[_,_]) rfl rfl (Nat.le_of_ble_eq_true rfl) rfl) (au rfl) (fun w hL=>⟨?_,hL.below⟩);have e:=Uu (a:=a) (b:=b) h0 (.inl xJ);rw[<-e.1,<-e.2];rfl
def nz:aJ Tryz.prog 156 #[] (I 1):=by
 refine pB0 2 Tryz.func156 fun w=>?_;refine A2 ?_;refine Al 2 yh (fun g0=>?_);refine A4 ?_;refine Pc (lY 1) ?_;refine Ss 0 ?_;refine A3 ?_;refine TL 0 ?_;exact rfl
def Dc(a b:Int)(ha:jv a<=33554432:=by omega)(hb:jv b<=33554432:=by omega)(h0:b≠0:=by omega):aJ Tryz.prog 166 #[I a,I b] (I (a/b)):=by
 refine nV 16 Tryz.func166 fun w=>?_;refine A2 ?_;refine Bp 2 (fun g0=>?_);refine Bp 2 (fun g1=>?_);refine Al 2 yh (fun g2=>?_);refine A4 ?_;refine L2 0 0 ?_;refine L2 1 0 ?_;refine Pc (yC a b ha hb h0) ?_;refine A4 ?_;refine Al 2 yh (fun g3=>?_);refine Al 2 yh (fun g4=>?_);refine Ss 3 ?_;refine Ss 4 ?_;refine A5 ?_;refine L2 3 0 ?_;refine dW ?_;refine TL 2 ?_;exact rfl
def jZ(n d:Int)(hn:jv n<=8388608:=by omega)(hd:jv d<=8388608:=by omega)(h0:d≠0:=by omega):aJ Tryz.prog 122 #[I n,I d] (Q (Rat.divInt n d)):=by
 refine nV 29 Tryz.func122 fun w=>?_;refine A2 ?_;refine Bp 2 (fun g0=>?_);refine Bp 2 (fun g1=>?_);refine Al 4 qI (fun g2=>?_);refine A5 ?_;refine L2 1 0 ?_;refine Pc (ny _) ?_;refine A3 ?_;refine Cd ?_ ?_<;>intro haQ
 ·refine Dp [] [0,2,1,3,4,5] ?_;refine L2 0 0 ?_;refine L2 1 0 ?_;refine Pc (qZ _) ?_;refine Pc (qZ _) ?_;refine Ss 0 ?_;refine Ss 1 ?_;refine A4 ?_;refine L2 0 0 ?_;refine L2 1 0 ?_;refine dX [_,_] rfl rfl rfl (xO _ _ iR iR) ?_;refine Al 2 yh (fun g3=>?_);refine Ss 3 ?_;refine A3 ?_;refine Dp [] [0,1,3,4,2,5,6,7] ?_;refine L2 0 0 ?_;refine L2 3 0 ?_;refine L2 1 0 ?_;refine L2 3 0 ?_;refine qah ?_;refine qah ?_;refine Ss 0 ?_;refine Ss 1 ?_;refine A4 ?_;refine Di [] ?_;refine L2 1 0 ?_;refine Pc (nz) ?_;refine fP rfl rfl rfl rfl qbp (qpD _ _) ?_;refine A2 ?_;refine Cd ?_ ?_<;>intro hbQ
  ·refine A1 ?_;refine(Bu []) (Hm) ?_;refine Ss 1 ?_;refine A4 ?_;refine L2 0 0 ?_;refine L2 1 0 ?_;refine(Bu [(0,_),(1,_)]) (D7) ?_;refine dW ?_;refine IV 2 ?_;exact congrArg Ending.returned ((QM (n:= -n) (d:= -d) (by have:=Zb haQ;omega) xJ).trans (by rw[Rat.neg_divInt_neg]))
  ·refine A4 ?_;refine L2 0 0 ?_;refine L2 1 0 ?_;refine(Bu [(0,_),(1,_)]) (D7) ?_;refine dW ?_;refine IV 2 ?_;exact congrArg Ending.returned ((QN (n:= -n) (d:= -d) (by have:=Zb haQ;omega) xJ).trans (by rw[Rat.neg_divInt_neg]))
 ·refine A4 ?_;refine L2 0 0 ?_;refine L2 1 0 ?_;refine dX [_,_] rfl rfl rfl (xO _ _ iR iR) ?_;refine Al 2 yh (fun g3=>?_);refine Ss 3 ?_;refine A3 ?_;refine Dp [] [0,1,3,4,2,5,6,7] ?_;refine L2 0 0 ?_;refine L2 3 0 ?_;refine L2 1 0 ?_;refine L2 3 0 ?_;refine qah ?_;refine qah ?_;refine Ss 0 ?_;refine Ss 1 ?_;refine A4 ?_;refine Di [] ?_;refine L2 1 0 ?_;refine Pc (nz) ?_;refine fP rfl rfl rfl rfl qbp (qpD _ _) ?_;refine A2 ?_;refine Cd ?_ ?_<;>intro hbQ
  ·refine A1 ?_;refine(Bu []) (Hm) ?_;refine Ss 1 ?_;refine A4 ?_;refine L2 0 0 ?_;refine L2 1 0 ?_;refine(Bu [(0,_),(1,_)]) (D7) ?_;refine dW ?_;refine IV 2 ?_;exact congrArg Ending.returned (QM (Zc haQ h0) xJ)
  ·refine A4 ?_;refine L2 0 0 ?_;refine L2 1 0 ?_;refine(Bu [(0,_),(1,_)]) (D7) ?_;refine dW ?_;refine IV 2 ?_;exact congrArg Ending.returned (QN (Zc haQ h0) xJ)
def vw(q:Rat):aJ Tryz.prog 145 #[Q q] (Q (-q)):=by
 refine wQ 9 Tryz.func145 fun w=>?_;refine jl fun g0=>?_;refine Al 4 qI (fun g1=>?_);refine A3 ?_;refine Dp [] [0,1,3,4,2,5,6] ?_;refine A1 ?_;refine L2 0 0 ?_;refine A1 ?_;refine L2 0 2 ?_;refine Pc (qZ _) ?_;refine(Bu [(0,_),(1,_)]) (D7) ?_;refine Ss 1 ?_;refine A3 ?_;refine IV 1 ?_;exact rfl
def zH(n d:Int)(hn:jv n<=8388608:=by omega)(hd:jv d<=8388608:=by omega):aJ Tryz.prog 213 #[I n,I d] (.tuple #[Q (Rat.divInt n d),.int .i64 (if d=0 then 6 else 0)]):=by
 refine nV 13 Tryz.func213 fun w=>?_;refine A2 ?_;refine Bp 2 (fun g0=>?_);refine Bp 2 (fun g1=>?_);refine Al 4 qI (fun g2=>?_);refine A6 ?_;refine L2 1 0 ?_;refine Pc (ny _) ?_;refine A3 ?_;refine Cd ?_ ?_<;>intro haQ
 ·refine A2 ?_;refine(Bu []) (yT) ?_;refine Ss 2 ?_;refine A5 ?_;refine bM rfl (bF 2 rfl rfl CW (vs:=[_,_,_,_]) rfl rfl (Nat.le_of_ble_eq_true rfl) rfl) (au rfl) (fun w hL=>⟨?_,hL.below⟩);have e:d=0:=MX
  subst e;rw[Rat.divInt_zero,if_pos rfl,yQ]
 ·refine A4 ?_;refine L2 0 0 ?_;refine L2 1 0 ?_;refine dX [_,_] rfl rfl rfl (jZ _ _ hn hd (fun e=>absurd (show(d.sign==0)=true by rw[e];rfl) Na)) ?_;refine Ss 2 ?_;refine A4 ?_;refine bM rfl (bF 2 rfl rfl CW (vs:=[_,_,_,_]) rfl rfl (Nat.le_of_ble_eq_true rfl) rfl) (au rfl) (fun w hL=>⟨?_,hL.below⟩);rw[if_neg (fun e=>absurd (show(d.sign==0)=true by rw[e];rfl) Na)];rfl
def fK(z:Int)(h1: -9223372036854775808<=z:=by omega)(h2:z<=9223372036854775807:=by omega):aJ Tryz.prog 132 #[.int .i64 z] (Q (z:Rat)):=by
 refine wQ 6 Tryz.func132 fun w=>?_;refine A2 ?_;refine Al 4 qI (fun g0=>?_);refine A5 ?_;refine dX [_] rfl rfl rfl (lY _) ?_;refine(Bu [(0,_)]) (qmR) ?_;refine Ss 0 ?_;refine A3 ?_;refine IV 0 ?_;exact rfl
end Go.Proofs.YtaffcpfhedadhaaGreatDoor
namespace Go.Proofs.YtaffcpfhedadhaaGreatDoor
variable[Go.Via.Mo]
open Go Go.RowKit Go.Via
def lg(q:Rat):aJ Tryz.prog 66 #[Q q] (.int .i64 q.num.sign):=by
 refine wQ 12 Tryz.func66 fun w=>?_;refine jl fun g0=>?_;refine EK ?_;refine Cd ?_ ?_<;>intro haQ
 ·refine A8 ?_;refine E0 ?_;exact congrArg (fun z=>Ending.returned (.int .i64 z)) (O5 q.num haQ)
 ·refine A8 ?_;refine Cd ?_ ?_<;>intro hbQ
  ·refine A8 ?_;refine E0 ?_;exact congrArg (fun z=>Ending.returned (.int .i64 z)) (sign_neg q.num hbQ)
  ·refine A9 ?_;refine E0 ?_;exact congrArg (fun z=>Ending.returned (.int .i64 z)) (Ut q.num haQ hbQ)
def Jq(p q:Rat)(hp:bY p<=4194303:=by omega)(hq:bY q<=4194303:=by omega):aJ Tryz.prog 160 #[Q p,Q q] (.int .i64 (mP p q)):=by
 refine nV 9 Tryz.func160 fun w=>?_;refine jl fun g0=>?_;refine Bp 4 (fun g1=>?_);refine A5 ?_;refine jc ?_;refine Pc (jY p q hp hq) ?_;refine Pc (lg (p-q)) ?_;refine A4 ?_;refine E0 ?_;exact congrArg (fun z=>Ending.returned (.int .i64 z)) (Vd p q)
def H9(b1:Bool)(s1:ByteArray)(b2:Bool)(s2:ByteArray)(hs1:s1.size<=5000:=by omega)(hs2:s2.size<=5000:=by omega):aJ Tryz.prog 105 #[.agg #[.bool b1,.string s1,.bool b2,.string s2]] (.int .i64 (if isQ b1 s1 b2 s2=true then 0 else 5)):=by
 refine wQ 31 Tryz.func105 fun w=>?_;refine jl fun g0=>?_;refine A7 ?_;refine L2 0 0 ?_;refine Pc (zG b1 s1) ?_;refine A2 ?_;refine Rs 7 ?_ ?_<;>intro haQ
 ·have hI1:qB b1 s1=true:=qlg haQ;refine Ed ?_;refine E0 ?_;rw[qpU hI1];rfl
 ·have hI1:qB b1 s1=false:=qlf haQ;refine A1 ?_;refine L2 0 2 ?_;refine Pc (zG b2 s2) ?_;refine A4 ?_;refine Cd ?_ ?_<;>intro hbQ
  ·have hI2:qB b2 s2=true:=qlg hbQ;refine A7 ?_;refine E0 ?_;rw[qpV hI2];rfl
  ·have hI2:qB b2 s2=false:=qlf hbQ;refine A6 ?_;refine L2 0 2 ?_;refine(Bu []) (Hm) ?_;refine fP rfl rfl rfl rfl qbp (UF _ _ _ _) ?_;refine A2 ?_;refine Cd ?_ ?_<;>intro hcQ
   ·obtain⟨hcQ,he2⟩:=qnF hcQ;refine A7 ?_;refine E0 ?_;rw[hcQ,qpX hI1 he2];rfl
   ·obtain⟨z,rfl,rfl⟩:=qe9 hI1;obtain⟨e,rfl,rfl⟩:=qe9 hI2;have he0:=qnG hcQ;rw[EP] at hs1 hs2;have hz1:jv z<=5000:=hs1;have hz2:jv e<=5000:=hs2;refine A4 ?_;refine Di [] ?_;refine A1 ?_;refine L2 0 2 ?_;refine Pc (nz) ?_;refine Pc (wW e 1) ?_;refine A2 ?_;refine Rs 22 ?_ ?_<;>intro hdQ
    ·have hle:e<=1:=qfc hdQ;refine A18 ?_;refine E0 ?_;rw[qpY he0 hle];rfl
    ·have hle:1<e:=qfd hdQ;refine A1 ?_;refine L2 0 0 ?_;refine A1 ?_;refine L2 0 2 ?_;refine Pc (xO z e) ?_;refine Pc (nz) ?_;refine E5 rfl rfl rfl rfl qbp (UF _ _ _ _) ?_;refine A3 ?_;refine Cd ?_ ?_<;>intro heQ
     ·have hg:=qjF heQ;refine A7 ?_;refine E0 ?_;rw[qpZ hle hg];rfl
     ·have hg:=qjG heQ;refine A8 ?_;refine E0 ?_;rw[qnH hle hg];rfl
end Go.Proofs.YtaffcpfhedadhaaGreatDoor
namespace Go.Proofs.YtaffcpfhedadhaaGreatDoor
variable[Go.Via.Mo]
open Go Go.RowKit Go.Via
def eP(q:Rat):aJ Tryz.prog 124 #[Q q] (I q.den):=by
 refine wQ 10 Tryz.func124 fun w=>?_;refine jl fun g0=>?_;refine Al 2 yh (fun g1=>?_);refine A6 ?_;refine L2 0 2 ?_;refine(Bu []) (Hm) ?_;refine fP rfl rfl rfl rfl qbp (UF _ _ _ _) ?_;refine A2 ?_;refine Cd ?_ ?_<;>intro haQ
 ·refine A2 ?_;refine Pc (nz) ?_;refine Ss 1 ?_;refine A4 ?_;refine TL 1 ?_;exact congrArg Ending.returned (qpl haQ)
 ·refine A5 ?_;refine L2 0 2 ?_;refine Ss 1 ?_;refine A3 ?_;refine TL 1 ?_;exact congrArg Ending.returned (qpm haQ)
def yD(p q:Rat)(hp:bY p<=4194303:=by omega)(hq:bY q<=4194303:=by omega):aJ Tryz.prog 189 #[Q p,Q q] (.tuple #[I (kV p q),I (kX p q),I (lJ p q)]):=by
 refine nV 33 Tryz.func189 fun w=>?_;refine jl fun g0=>?_;refine Bp 4 (fun g1=>?_);refine Al 2 yh (fun g2=>?_);refine Al 2 yh (fun g3=>?_);refine Al 2 yh (fun g4=>?_);refine A6 ?_;refine L2 0 2 ?_;refine A1 ?_;refine L2 1 2 ?_;refine fP rfl rfl rfl rfl qbp (UF _ _ _ _) ?_;refine A2 ?_;refine Cd ?_ ?_<;>intro haQ
 ·refine A1 ?_;refine Di [2,3,4] ?_;refine A1 ?_;refine L2 0 0 ?_;refine A1 ?_;refine L2 1 0 ?_;refine L4 0 0 ?_;refine Pc (eP _) ?_;refine jS 2 0 [_,_,⟨some g2,34,_,2,true⟩,_,_] [_,_] rfl rfl rfl rfl yS rfl rfl rfl rfl rfl rfl ?_;refine jS 3 0 [_,_,_,⟨some g3,34,_,2,true⟩,_] [_,_] rfl rfl rfl rfl yS rfl rfl rfl rfl rfl rfl ?_;refine jS 4 0 [_,_,_,_,⟨some g4,34,_,2,true⟩] [_,_] rfl rfl rfl rfl yS rfl rfl rfl rfl rfl rfl ?_;refine A4 ?_;refine yN rfl (bF 2 rfl rfl yS (vs:=[_,_]) rfl rfl (Nat.le_of_ble_eq_true rfl) rfl) (bF 3 rfl rfl yS (vs:=[_,_]) rfl rfl (Nat.le_of_ble_eq_true rfl) rfl) (bF 4 rfl rfl yS (vs:=[_,_]) rfl rfl (Nat.le_of_ble_eq_true rfl) rfl) (fun w hL=>⟨?_,hL.below⟩);exact congrArg Ending.returned (qh4 haQ)
 ·refine A3 ?_;refine Dp [] [0,1,2,5,6,7,10,12,3,4,8,9,11,13,14,15,16,17] ?_;refine A1 ?_;refine L2 0 0 ?_;refine L4 1 0 ?_;refine A1 ?_;refine L2 1 0 ?_;refine L4 0 0 ?_;refine jc ?_;refine Pc (eP _) ?_;refine MZ ?_;refine Pc (eP _) ?_;refine MZ ?_;refine Pc (eP _) ?_;refine Pc (eP _) ?_;refine MZ ?_;refine Ss 2 ?_;refine Ss 3 ?_;refine Ss 4 ?_;refine A3 ?_;refine yN rfl (bF 2 rfl rfl yS (vs:=[_,_]) rfl rfl (Nat.le_of_ble_eq_true rfl) rfl) (bF 3 rfl rfl yS (vs:=[_,_]) rfl rfl (Nat.le_of_ble_eq_true rfl) rfl) (bF 4 rfl rfl yS (vs:=[_,_]) rfl rfl (Nat.le_of_ble_eq_true rfl) rfl) (fun w hL=>⟨?_,hL.below⟩);exact congrArg Ending.returned (qh5 haQ)
def dJ(p q:Rat)(hp:bY p<=4194303:=by omega)(hq:bY q<=4194303:=by omega):aJ Tryz.prog 140 #[Q p,Q q] (Q (p+q)):=by
 refine nV 20 Tryz.func140 fun w=>?_;refine jl fun g0=>?_;refine Bp 4 (fun g1=>?_);refine Al 4 qI (fun g2=>?_);refine A4 ?_;refine jc ?_;refine dX [_,_] rfl rfl rfl (yD _ _ iR iR) ?_;refine A4 ?_;refine Al 2 yh (fun g3=>?_);refine Al 2 yh (fun g4=>?_);refine Al 2 yh (fun g5=>?_);refine Ss 3 ?_;refine Ss 4 ?_;refine Ss 5 ?_;refine A3 ?_;refine Dp [] [0,1,3,2,4,5] ?_;refine L2 3 0 ?_;refine L2 4 0 ?_;refine L2 5 0 ?_;refine Pc (xP _ _ (Nat.le_trans (szX hp hq) (Nat.le_of_ble_eq_true rfl)) (Nat.le_trans (szY hp hq) (Nat.le_of_ble_eq_true rfl))) ?_;refine Pc (jZ _ _ (Nat.le_trans (qro hp hq) (Nat.le_of_ble_eq_true rfl)) (Nat.le_trans (szD hp hq) (Nat.le_of_ble_eq_true rfl)) (O6 p q)) ?_;refine dW ?_;refine IV 2 ?_;exact congrArg (fun z=>Ending.returned (Q z)) (qbf p q)
def eQ(p q:Rat)(hp:bY p<=4194303:=by omega)(hq:bY q<=4194303:=by omega):aJ Tryz.prog 126 #[Q p,Q q] (Q (p-q)):=by
 refine nV 9 Tryz.func126 fun w=>?_;refine jl fun g0=>?_;refine Bp 4 (fun g1=>?_);refine Al 4 qI (fun g2=>?_);refine A3 ?_;refine Di [] ?_;refine jc ?_;refine Pc (vw _) ?_;refine dX [_,_] rfl rfl rfl (dJ _ _ iR iR) ?_;refine dW ?_;refine IV 2 ?_;exact congrArg (fun z=>Ending.returned (Q z)) (Rat.sub_eq_add_neg p q).symm
def bK(p q:Rat)(hp:bY p<=4194303:=by omega)(hq:bY q<=4194303:=by omega):aJ Tryz.prog 75 #[Q p,Q q] (Q (p*q)):=by
 refine nV 16 Tryz.func75 fun w=>?_;refine jl fun g0=>?_;refine Bp 4 (fun g1=>?_);refine Al 4 qI (fun g2=>?_);refine A3 ?_;refine Dp [] [0,1,2,3,5,7,4,6,8,9,10,11] ?_;refine A1 ?_;refine L2 0 0 ?_;refine A1 ?_;refine L2 1 0 ?_;refine jc ?_;refine MZ ?_;refine Pc (eP _) ?_;refine Pc (eP _) ?_;refine MZ ?_;refine dX [_,_] rfl rfl rfl (jZ _ _ iR iR (KJ p q)) ?_;refine dW ?_;refine IV 2 ?_;exact congrArg (fun z=>Ending.returned (Q z)) (KL p q)
def dU(q:Rat):aJ Tryz.prog 106 #[Q q] (.int .i64 q.num.sign):=by
 refine wQ 6 Tryz.func106 fun w=>?_;refine jl fun g0=>?_;refine A6 ?_;refine L2 0 0 ?_;refine Pc (ny _) ?_;refine A4 ?_;refine E0 ?_;exact rfl
def Bq(p q:Rat)(hp:bY p<=4194303:=by omega)(hq:bY q<=4194303:=by omega):aJ Tryz.prog 183 #[Q p,Q q] (.tuple #[Q (p/q),.int .i64 (if q=0 then 6 else 0)]):=by
 refine nV 19 Tryz.func183 fun w=>?_;refine jl fun g0=>?_;refine Bp 4 (fun g1=>?_);refine Al 4 qI (fun g2=>?_);refine A4 ?_;refine Dp [] [0,1,2,5,7,8,3,4,6,9,10,11,12,13,14] ?_;refine A1 ?_;refine L2 0 0 ?_;refine L4 1 0 ?_;refine L4 0 0 ?_;refine A1 ?_;refine L2 1 0 ?_;refine Pc (eP _) ?_;refine MZ ?_;refine Pc (eP _) ?_;refine MZ ?_;refine dX [_,_] rfl rfl rfl (zH _ _ iR iR) ?_;refine A2 ?_;refine Ss 2 ?_;refine A4 ?_;refine bM rfl (bF 2 rfl rfl CW (vs:=[_,_,_,_]) rfl rfl (Nat.le_of_ble_eq_true rfl) rfl) (au rfl) (fun w hL=>⟨?_,hL.below⟩);rw[<-WN p q,qh6 p q];rfl
def Ew(p q:Rat)(hp:bY p<=4194303:=by omega)(hq:bY q<=4194303:=by omega):aJ Tryz.prog 212 #[Q p,Q q] (.int .i64 (mP p q)):=by
 refine nV 21 Tryz.func212 fun w=>?_;refine jl fun g0=>?_;refine Bp 4 (fun g1=>?_);refine A6 ?_;refine jc ?_;refine fP rfl rfl rfl rfl qdW (qdY _ _) ?_;refine A2 ?_;refine Cd ?_ ?_<;>intro haQ
 ·refine A7 ?_;refine E0 ?_
  have e:p=q:=MX;subst e;rw[qbg]
 ·refine A4 ?_;refine jc ?_;refine dX [_,_] rfl rfl rfl (yD _ _ iR iR) ?_;refine A4 ?_;refine Al 2 yh (fun g2=>?_);refine Al 2 yh (fun g3=>?_);refine Al 2 yh (fun g4=>?_);refine Ss 2 ?_;refine Ss 3 ?_;refine Ss 4 ?_;refine A4 ?_;refine L2 2 0 ?_;refine L2 3 0 ?_;refine Pc (wW _ _) ?_;refine A4 ?_;refine E0 ?_;exact congrArg (fun z=>Ending.returned (.int .i64 z)) (qbh p q)
end Go.Proofs.YtaffcpfhedadhaaGreatDoor
namespace Go.Via
open Go
def nX(z:Int):Bool:=decide (0<=z)&&(bV z.natAbs*bV z.natAbs==z.natAbs)
theorem qfV{z:Int}(h:decide (z<0)=true):nX z=false:=by
 have:=of_decide_eq_true h;unfold nX;rw[decide_eq_false ae];rfl
theorem qjS{z:Int}(h:(bQ (bV z.natAbs*bV z.natAbs) !=bQ z.natAbs)=true):nX z=false:=by
 unfold nX;have:¬bV z.natAbs*bV z.natAbs=z.natAbs:=fun e=>by rw[e,bne,yO] at h;simp at h
 rw[beq_eq_false_iff_ne.2 this,Bool.and_false]
theorem qfW{z:Int}(h0:decide (z<0)=false)(h:(bQ (bV z.natAbs*bV z.natAbs) !=bQ z.natAbs)=false):nX z=true:=by
 unfold nX;have h1:=of_decide_eq_false h0;have h2:bQ (bV z.natAbs*bV z.natAbs)=bQ z.natAbs:=by rw[bne,yO] at h;simpa using h
 rw[QD.1 h2,decide_eq_true ae];simp
def qfX(n:Nat):bV n<=n:=by
 have h:=(L6 n).1
 by_cases h0:bV n=0
 ·omega
 ·exact Nat.le_trans (Nat.le_mul_of_pos_right _ ae) h
def oH(n:Nat):nb (bV n)<=nb n:=gG (qfX n)
theorem Ia(q:Rat):qE q=(nX q.num&&nX (q.den:Int)):=by
 unfold qE nX;rw[Int.natAbs_natCast,decide_eq_true (show(0:Int)<=(q.den:Int) by omega),Bool.true_and]
def w3{a b:Int}(ha:a= -1∨a=0∨a=1)(hb:b= -1∨b=0∨b=1):IntKind.i64.wrap (a*b)=a*b:=by
 rcases ha with rfl|rfl|rfl<;>rcases hb with rfl|rfl|rfl<;>rfl
theorem Ey(q:Rat):dD q= -1∨dD q=0∨dD q=1:=qeu
def qfY(p q:Rat):mP p q= -1∨mP p q=0∨mP p q=1:=qev
theorem qnU{a b r:Rat}(h:dD b*dD r=0):pF a b r=dD a:=by unfold pF;rw[if_pos (.inl h)]
theorem qnV{a b r:Rat}(h:dD a=dD b*dD r):pF a b r=dD a:=by unfold pF;rw[if_pos (.inr h)]
theorem qnW{a b r:Rat}(h0:dD b*dD r≠0)(h1:dD a≠dD b*dD r)(h2:dD a=0):pF a b r=dD b*dD r:=by unfold pF;rw[if_neg RY,if_pos h2]
theorem qnX{a b r:Rat}(h0:dD b*dD r≠0)(h1:dD a≠dD b*dD r)(h2:dD a≠0):pF a b r=dD a*mP (a*a) (b*b*r):=by unfold pF;rw[if_neg RY,if_neg h2]
section
variable{x y:Rl}
theorem qjT(h:dD (-jI y)*dD y.r=0):aV x y=pF (x.p-y.p) (jI x) x.r:=by unfold aV;rw[if_pos (.inl h)]
theorem qjU(h:pF (x.p-y.p) (jI x) x.r=dD (-jI y)*dD y.r):aV x y=pF (x.p-y.p) (jI x) x.r:=by unfold aV;rw[if_pos (.inr h)]
theorem qjV(h0:dD (-jI y)*dD y.r≠0)(h1:pF (x.p-y.p) (jI x) x.r≠dD (-jI y)*dD y.r)(h2:pF (x.p-y.p) (jI x) x.r=0):aV x y=dD (-jI y)*dD y.r:=by
 unfold aV;rw[if_neg RY,if_pos h2]
theorem qjW(h0:dD (-jI y)*dD y.r≠0)(h1:pF (x.p-y.p) (jI x) x.r≠dD (-jI y)*dD y.r)(h2:pF (x.p-y.p) (jI x) x.r≠0):
 aV x y=pF (x.p-y.p) (jI x) x.r*pF ((x.p-y.p)*(x.p-y.p)+x.r-y.r) (2*((x.p-y.p)*jI x)) x.r:=by
 unfold aV;rw[if_neg RY,if_neg h2]
end
theorem qqd{x:Rl}(h:x.n=true):jI x=((-1:Int):Rat):=by unfold jI;rw[if_pos h];rfl
theorem qqe{x:Rl}(h:x.n=false):jI x=((1:Int):Rat):=by unfold jI;rw[if_neg UH];rfl
def lh{z:Int}(h1: -255<=z)(h2:z<=255):bY (z:Rat)<=2:=Nat.le_trans (qe8 z) (by have:=jQ h1 h2;unfold jv at this;omega)
def Gq:bY 2<=2:=lh (z:=2) ae ae
def vz:bY 0<=2:=lh (z:=0) ae ae
def Yd(x:Rl):bY (jI x)<=2:=by
 unfold jI;split
 ·exact lh (z:= -1) ae ae
 ·exact lh (z:=1) ae ae
def fV(x:Rl):Nat:=max (bY x.p) (bY x.r)
def qg(x:Rl):bY x.p<=fV x:=Nat.le_max_left ..
def wX(x:Rl):bY x.r<=fV x:=Nat.le_max_right ..
def vC{q:Rat}{n:Nat}(h:bY q<=n)(h2:2<=n):fV (rl q)<=n:=Nat.max_le.2 ⟨h,Nat.le_trans vz h2⟩
def qcu{q:Rat}{n:Nat}(h:bY q<=n):bY (fQ q)<=n:=by
 unfold fQ;have h1:jv ((bV q.num.natAbs:Nat):Int)<=n:=Ah (Nat.le_trans (oH _) (Nat.le_trans (WJ q) h));have h2:jv ((bV q.den:Nat):Int)<=n:=Ah (Nat.le_trans (oH _) (by have:=Nat.le_trans (WL q) h;unfold jv at this;simpa using this));have:=mM h1 h2 (Nat.le_trans (JJ q) h);omega
def Gs(q:Rat):bY (fQ q)<=bY q:=qcu (Nat.le_refl _)
def qnY{p q r:Rat}:fV (mkR p q r)<=bY p+bY q+bY q+bY r+2:=by
 unfold mkR
 split
 ·refine vC ?_ ae;have h1:=iG p (q*fQ r);have h2:=bZ q (fQ r);have h3:=Gs r;omega
 ·refine Nat.max_le.2 ⟨?_,?_⟩
  ·show bY p<=_;omega
  ·show bY (q*q*r)<=_;have h1:=bZ (q*q) r;have h2:=bZ q q;omega
def qjX(q:Rat):(dm q).size<=bY q:=by
 unfold dm
 split
 ·exact Nat.zero_le _
 ·rw[EP];exact Nat.le_max_right ..
end Go.Via
namespace Go.Proofs.YtaffcpfhedadhaaGreatDoor
open Go Go.Via
def VT(q:Rat)(h:bY q<=5000:=by omega):aJ Tryz.prog 105 #[Q q] (.int .i64 0):=by
 have:=H9 (decide (q.num<0)) (bQ q.num.natAbs) false (dm q) (by rw[EP];exact Nat.le_trans (Nat.le_max_left ..) h) (Nat.le_trans (qjX q) h);rw[JV.2 ⟨q,rfl,rfl,rfl,rfl⟩,if_pos rfl] at this;exact this
end Go.Proofs.YtaffcpfhedadhaaGreatDoor
namespace Go.Via
def qfZ{q:Rat}(h:nX q.num=true){n:Nat}(h1:jv q.num<=n)(hn:n<=8388608:=by omega):jv (if nX q.num=true then((bV q.num.natAbs:Nat):Int) else 0)<=8388608:=by
 rw[if_pos h];exact Ah (Nat.le_trans (oH _) (Nat.le_trans h1 hn))
def qf0{q:Rat}(h:nX (q.den:Int)=true){n:Nat}(h1:jv (q.den:Int)<=n)(hn:n<=8388608:=by omega):jv (if nX (q.den:Int)=true then((bV (q.den:Int).natAbs:Nat):Int) else 0)<=8388608:=by
 rw[if_pos h];exact Ah (Nat.le_trans (oH _) (Nat.le_trans h1 hn))
def qf1{q:Rat}(h:nX (q.den:Int)=true):(if nX (q.den:Int)=true then((bV (q.den:Int).natAbs:Nat):Int) else 0)≠0:=by
 rw[if_pos h];have hd:=q.den_nz;unfold nX at h;simp only[Bool.and_eq_true,beq_iff_eq,Int.natAbs_natCast] at h;rw[Int.natAbs_natCast];intro e;have:bV q.den=0:=ae
 have h2:=h.2;rw[this] at h2;omega
end Go.Via
namespace Go.Via
theorem qai:I 0= .agg #[aT,aU]:=by show Value.agg #[.bool (decide ((0:Int)<0)),.string (bQ 0)]=_;rw[iT];rfl
end Go.Via
namespace Go.Via
theorem I9(q:Rat):RV (rl q)= .agg #[.bool (decide (q.num<0)),.string (bQ q.num.natAbs),.bool false,.string (dm q),aT,aU,aT,aU,.bool false]:=by
 have h:bQ (0:Rat).num.natAbs=⟨#[]⟩:=iT;have h2:dm 0=⟨#[]⟩:=rfl;show Value.agg #[_,_,_,_,.bool (decide ((0:Rat).num<0)),.string (bQ (0:Rat).num.natAbs),_,.string (dm 0),_]=_;rw[h,h2];rfl
end Go.Via
namespace Go.Proofs.YtaffcpfhedadhaaGreatDoor
open Go Go.RowKit Go.Via
def vF(t x y:Int)(ht1: -9223372036854775808<=t:=by omega)(ht2:t<=9223372036854775807:=by omega)(hx1: -9223372036854775808<=x:=by omega)(hx2:x<=9223372036854775807:=by omega)(hy1: -9223372036854775808<=y:=by omega)(hy2:y<=9223372036854775807:=by omega):aJ Tryz.prog 84 #[.int .i64 t,.int .i64 x,.int .i64 y] (.agg #[.bool (decide (((t:Rat)).num<0)),.string (bQ ((t:Rat)).num.natAbs),.bool false,.string (dm ((t:Rat))),.bool (decide (((x:Rat)).num<0)),.string (bQ ((x:Rat)).num.natAbs),.bool false,.string (dm ((x:Rat))),.bool (decide (((y:Rat)).num<0)),.string (bQ ((y:Rat)).num.natAbs),.bool false,.string (dm ((y:Rat)))]):=by
 refine pB3 15 Tryz.func84 fun w=>?_;refine A2 ?_;refine Al 12 qig (fun g0=>?_);refine A5 ?_;refine Pc (fK t ht1 ht2) ?_;refine A1 ?_;refine Pc (fK x hx1 hx2) ?_;refine A1 ?_;refine Pc (fK y hy1 hy2) ?_;refine(Bu [(0,_),(1,_)]) (qik) ?_;refine(Bu [(0,_),(1,_)]) (qil) ?_;refine Ss 0 ?_;refine A3 ?_;refine Md 0 ?_;exact rfl
def DJ(x y:Rat):aJ Tryz.prog 88 #[.agg #[.bool (decide ((x).num<0)),.string (bQ (x).num.natAbs),.bool false,.string (dm (x)),.bool (decide ((y).num<0)),.string (bQ (y).num.natAbs),.bool false,.string (dm (y))]] (zk ⟨x,0,y,0⟩):=by
 refine wQ 8 Tryz.func88 fun w=>?_;refine A2 ?_;refine Bp 8 (fun g0=>?_);refine Al 16 z98 (fun g1=>?_);refine A5 ?_;refine L4 0 0 ?_;refine A1 ?_;refine L4 0 4 ?_;refine(Bu [(0,_),(2,_)]) (qbo) ?_;refine Ss 1 ?_;refine A3 ?_;refine qnK 1 ?_;rw[qct]
end Go.Proofs.YtaffcpfhedadhaaGreatDoor
