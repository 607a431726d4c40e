/-
  Part 31 (chapter 32): lemmas, walks. Each theorem states its own conditions.
-/
import Derived.Lib.Repeat
import Derived.Test.YtaffcpfhedadhaaGreatDoorA25
import Derived.Test.YtaffcpfhedadhaaGreatDoorA29
set_option linter.all false
set_option maxRecDepth 20000
set_option maxHeartbeats 20000000
section
variable{P Q:Prop}{T:Type}{R:T->Prop}
def Mc(q:Q)(h:bu Q->P:=by intro q_;refine dY [_,_] rfl rfl rfl (lJ _ _ iV iV) ?_;exact q_.qq):=h ⟨q⟩
def Zz(q:Q)(h:bu Q->P:=by intro q_;refine dY [_,_] rfl rfl rfl (CS _ _ iV iV (ql4 ae)) ?_;exact q_.qq):=h ⟨q⟩
def iV(h:P:=by first|assumption|grind [ql5,ql6,ql7,ql8,ql9,VR,VS,jf,iq,bV,qcX,JY,qqS]):=h
def qfo(h:P:=by rw[BQ] at hcQ;simpa using hcQ):=h
def Md(h:P:=by rw[haQ];decide):=h
def Q4(h:P:=by rintro(h|h);exact h0 h;exact h1 h):=h
end
namespace Go.Proofs.YtaffcpfhedadhaaGreatDoor
variable[Go.Via.Mo]
open Go Go.RowKit Go.Via
def qQ(z:Int):aP Tryz.prog 165 #[I z] (I (-z)):=by
 refine xI 9 Tryz.func165 fun w=>?_;refine nD fun g0=>?_;refine Al 2 xO (fun g1=>?_);refine A9 ?_;refine Pc (dA _ _) ?_;refine Ss 1 ?_;refine A3 ?_;refine SH 1 ?_;exact congrArg (fun z=>Ending.returned (I z)) (VQ z)
def xm(a b:Int)(ha:jD a<=67108864:=by omega)(hb:jD b<=67108864:=by omega):aP Tryz.prog 190 #[I a,I b] (I (a+b)):=by
 refine oz 42 Tryz.func190 fun w=>?_;refine nD fun g0=>?_;refine Bp 2 (fun g1=>?_);refine Al 2 xO (fun g2=>?_);refine lD ?_;refine BN rfl u4 rfl rfl rfl ?_;refine A3 ?_;refine Cd ?_ ?_<;>intro haQ
 ·refine A1 ?_;refine Di [] ?_;refine A6 ?_;refine Pc (wZ _ _ ha hb) ?_;refine Pc (dA _ _) ?_;refine Ss 2 ?_;refine A5 ?_;refine SH 2 ?_;exact congrArg (fun z=>Ending.returned (I z)) (TG a b haQ)
 ·refine A6 ?_;refine Pc (l9 _ _) ?_;refine A4 ?_;refine Cd ?_ ?_<;>intro hbQ
  ·refine A1 ?_;refine Di [] ?_;refine A6 ?_;refine Pc (xg _ _ ha (Yw _ _ hbQ)) ?_;refine Pc (dA _ _) ?_;refine Ss 2 ?_;refine A5 ?_;refine SH 2 ?_;exact congrArg (fun z=>Ending.returned (I z)) (Ou a b haQ (Yw _ _ hbQ))
  ·refine A4 ?_;refine Di [] ?_;refine A6 ?_;refine Pc (xg _ _ hb (Yx _ _ hbQ)) ?_;refine Pc (dA _ _) ?_;refine eG ?_;refine SH 2 ?_;exact congrArg (fun z=>Ending.returned (I z)) (Ov a b haQ (Yx _ _ hbQ))
def lJ(a b:Int)(ha:jD a<=67108864:=by omega)(hb:jD b<=67108864:=by omega):aP Tryz.prog 123 #[I a,I b] (I (a*b)):=by
 refine oz 16 Tryz.func123 fun w=>?_;refine nD fun g0=>?_;refine Bp 2 (fun g1=>?_);refine Al 2 xO (fun g2=>?_);refine A3 ?_;refine Di [] ?_;refine A4 ?_;refine pF rfl u4 rfl rfl rfl ?_;refine A4 ?_;refine Pc (Dn _ _ ha hb) ?_;refine Pc (dA _ _) ?_;refine eG ?_;refine SH 2 ?_;exact congrArg (fun z=>Ending.returned (I z)) (Yy a b)
def yf(a b:Int)(ha:jD a<=33554432:=by omega)(hb:jD b<=33554432:=by omega)(h0:b≠0:=by omega):aP Tryz.prog 201 #[I a,I b] (.tuple #[I (a/b),I (a%b),.int .i64 0]):=by
 have szle:nb a.natAbs<=67108864:=Nat.le_trans ha (Nat.le_of_ble_eq_true rfl);have szle2:nb b.natAbs<=67108864:=Nat.le_trans hb (Nat.le_of_ble_eq_true rfl);refine oz 43 Tryz.func201 fun w=>?_;refine nD fun g0=>?_;refine Bp 2 (fun g1=>?_);refine Al 2 xO (fun g2=>?_);refine Al 2 xO (fun g3=>?_);refine oJ ?_;refine Cd ?_ ?_<;>intro haQ
 ·exact absurd haQ (by rw[nS];simp;omega)
 ·refine A8 ?_;refine dY [_,_] rfl rfl rfl (rC _ _ iV iV) ?_;refine Gw ?_;refine Rs 24 ?_ ?_<;>intro hbQ
  ·refine A5 ?_;refine Cd ?_ ?_<;>intro hcQ
   ·refine Dp [] [0,2,3,4,1,5,6,7] ?_;refine A4 ?_;refine dY [_,.string (bP 1)] rfl rfl (by rw[qhh];rfl) (wZ _ _ (Nat.le_trans (DR _ _) (Nat.le_trans ha (Nat.le_of_ble_eq_true rfl))) (Nat.le_trans (nV (k:=1) ae) (Nat.le_of_ble_eq_true rfl))) ?_;refine dY [_,_] rfl rfl rfl (xg _ _ iV (Nat.le_of_lt (Nat.mod_lt _ ae))) ?_;refine lD ?_;refine pF rfl u4 rfl rfl rfl ?_;refine A1 ?_;refine Pc (dA _ _) ?_;refine A1 ?_;refine Pc (dA _ _) ?_;refine Ss 2 ?_;refine Ss 3 ?_;refine A4 ?_;refine yB rfl (bz 2 rfl rfl yH (vs:=[_,_]) rfl rfl (Nat.le_of_ble_eq_true rfl) rfl) (bz 3 rfl rfl yH (vs:=[_,_]) rfl rfl (Nat.le_of_ble_eq_true rfl) rfl) (au rfl) (fun w hL=>⟨?_,hL.below⟩);have e:=qcW (a:=a) (b:=b) h0 Dk qfo;rw[<-e.1,<-e.2];rfl
   ·refine A8 ?_;refine pF rfl u4 rfl rfl rfl ?_;refine A1 ?_;refine Pc (dA _ _) ?_;refine A1 ?_;refine Pc (dA _ _) ?_;refine Ss 2 ?_;refine Ss 3 ?_;refine A4 ?_;refine yB rfl (bz 2 rfl rfl yH (vs:=[_,_]) rfl rfl (Nat.le_of_ble_eq_true rfl) rfl) (bz 3 rfl rfl yH (vs:=[_,_]) rfl rfl (Nat.le_of_ble_eq_true rfl) rfl) (au rfl) (fun w hL=>⟨?_,hL.below⟩);have e:=TK (a:=a) (b:=b) h0 (.inr qfo);rw[<-e.1,<-e.2];rfl
  ·refine Ew ?_;refine pF rfl u4 rfl rfl rfl ?_;refine A1 ?_;refine Pc (dA _ _) ?_;refine A1 ?_;refine Pc (dA _ _) ?_;refine Ss 2 ?_;refine Ss 3 ?_;refine A4 ?_;refine yB rfl (bz 2 rfl rfl yH (vs:=[_,_]) rfl rfl (Nat.le_of_ble_eq_true rfl) rfl) (bz 3 rfl rfl yH (vs:=[_,_]) rfl rfl (Nat.le_of_ble_eq_true rfl) rfl) (au rfl) (fun w hL=>⟨?_,hL.below⟩);have e:=TK (a:=a) (b:=b) h0 (.inl Dk);rw[<-e.1,<-e.2];rfl
def nK:aP Tryz.prog 156 #[] (I 1):=by
 refine pB0 2 Tryz.func156 fun w=>?_;refine A2 ?_;refine Al 2 xO (fun g0=>?_);refine A4 ?_;refine Pc (mg 1) ?_;refine Ss 0 ?_;refine A3 ?_;refine SH 0 ?_;exact rfl
def CS(a b:Int)(ha:jD a<=33554432:=by omega)(hb:jD b<=33554432:=by omega)(h0:b≠0:=by omega):aP Tryz.prog 166 #[I a,I b] (I (a/b)):=by
 refine oz 16 Tryz.func166 fun w=>?_;refine nD fun g0=>?_;refine Bp 2 (fun g1=>?_);refine Al 2 xO (fun g2=>?_);refine A4 ?_;refine L2 0 0 ?_;refine L2 1 0 ?_;refine Pc (yf a b ha hb h0) ?_;refine A4 ?_;refine Al 2 xO (fun g3=>?_);refine Al 2 xO (fun g4=>?_);refine Ss 3 ?_;refine Ss 4 ?_;refine A5 ?_;refine L2 3 0 ?_;refine eG ?_;refine SH 2 ?_;exact rfl
def jV(n d:Int)(hn:jD n<=8388608:=by omega)(hd:jD d<=8388608:=by omega)(h0:d≠0:=by omega):aP Tryz.prog 122 #[I n,I d] (Q (Rat.divInt n d)):=by
 refine oz 29 Tryz.func122 fun w=>?_;refine nD fun g0=>?_;refine Bp 2 (fun g1=>?_);refine Al 4 qL (fun g2=>?_);refine A5 ?_;refine L2 1 0 ?_;refine Pc (nI _) ?_;refine A3 ?_;refine Cd ?_ ?_<;>intro haQ
 ·refine Dp [] [0,2,1,3,4,5] ?_;refine L2 0 0 ?_;refine L2 1 0 ?_;refine Pc (qQ _) ?_;refine Pc (qQ _) ?_;refine Ss 0 ?_;refine Ss 1 ?_;refine A4 ?_;refine L2 0 0 ?_;refine L2 1 0 ?_;refine dY [_,_] rfl rfl rfl (xk _ _ iV iV) ?_;refine Al 2 xO (fun g3=>?_);refine Ss 3 ?_;refine A3 ?_;refine Dp [] [0,1,3,4,2,5,6,7] ?_;refine L2 0 0 ?_;refine L2 3 0 ?_;refine L2 1 0 ?_;refine L2 3 0 ?_;refine Zz ?_;refine Zz ?_;refine Ss 0 ?_;refine Ss 1 ?_;refine A4 ?_;refine Di [] ?_;refine L2 1 0 ?_;refine Pc (nK) ?_;refine iY rfl rfl rfl rfl qaN (qo0 _ _) ?_;refine A2 ?_;refine Cd ?_ ?_<;>intro hbQ
  ·refine A1 ?_;refine(Bu []) (GV) ?_;refine Ss 1 ?_;refine A4 ?_;refine L2 0 0 ?_;refine L2 1 0 ?_;refine(Bu [(0,_),(1,_)]) (DV) ?_;refine eG ?_;refine Ip 2 ?_;exact congrArg Ending.returned ((Ql (n:= -n) (d:= -d) (by have:=Yz haQ;omega) Dk).trans (by rw[Rat.neg_divInt_neg]))
  ·refine A4 ?_;refine L2 0 0 ?_;refine L2 1 0 ?_;refine(Bu [(0,_),(1,_)]) (DV) ?_;refine eG ?_;refine Ip 2 ?_;exact congrArg Ending.returned ((Qm (n:= -n) (d:= -d) (by have:=Yz haQ;omega) Dk).trans (by rw[Rat.neg_divInt_neg]))
 ·refine A4 ?_;refine L2 0 0 ?_;refine L2 1 0 ?_;refine dY [_,_] rfl rfl rfl (xk _ _ iV iV) ?_;refine Al 2 xO (fun g3=>?_);refine Ss 3 ?_;refine A3 ?_;refine Dp [] [0,1,3,4,2,5,6,7] ?_;refine L2 0 0 ?_;refine L2 3 0 ?_;refine L2 1 0 ?_;refine L2 3 0 ?_;refine Zz ?_;refine Zz ?_;refine Ss 0 ?_;refine Ss 1 ?_;refine A4 ?_;refine Di [] ?_;refine L2 1 0 ?_;refine Pc (nK) ?_;refine iY rfl rfl rfl rfl qaN (qo0 _ _) ?_;refine A2 ?_;refine Cd ?_ ?_<;>intro hbQ
  ·refine A1 ?_;refine(Bu []) (GV) ?_;refine Ss 1 ?_;refine A4 ?_;refine L2 0 0 ?_;refine L2 1 0 ?_;refine(Bu [(0,_),(1,_)]) (DV) ?_;refine eG ?_;refine Ip 2 ?_;exact congrArg Ending.returned (Ql (YA haQ h0) Dk)
  ·refine A4 ?_;refine L2 0 0 ?_;refine L2 1 0 ?_;refine(Bu [(0,_),(1,_)]) (DV) ?_;refine eG ?_;refine Ip 2 ?_;exact congrArg Ending.returned (Qm (YA haQ h0) Dk)
def ve(q:Rat):aP Tryz.prog 145 #[Q q] (Q (-q)):=by
 refine xI 9 Tryz.func145 fun w=>?_;refine jd fun g0=>?_;refine Al 4 qL (fun g1=>?_);refine A3 ?_;refine Dp [] [0,1,3,4,2,5,6] ?_;refine A1 ?_;refine L2 0 0 ?_;refine A1 ?_;refine L2 0 2 ?_;refine Pc (qQ _) ?_;refine(Bu [(0,_),(1,_)]) (DV) ?_;refine Ss 1 ?_;refine A3 ?_;refine Ip 1 ?_;exact rfl
def zl(n d:Int)(hn:jD n<=8388608:=by omega)(hd:jD d<=8388608:=by omega):aP Tryz.prog 213 #[I n,I d] (.tuple #[Q (Rat.divInt n d),.int .i64 (if d=0 then 6 else 0)]):=by
 refine oz 13 Tryz.func213 fun w=>?_;refine nD fun g0=>?_;refine Bp 2 (fun g1=>?_);refine Al 4 qL (fun g2=>?_);refine A6 ?_;refine L2 1 0 ?_;refine Pc (nI _) ?_;refine A3 ?_;refine Cd ?_ ?_<;>intro haQ
 ·refine A2 ?_;refine(Bu []) (yJ) ?_;refine Ss 2 ?_;refine A5 ?_;refine bM rfl (bz 2 rfl rfl yI (vs:=[_,_,_,_]) rfl rfl (Nat.le_of_ble_eq_true rfl) rfl) (au rfl) (fun w hL=>⟨?_,hL.below⟩);have e:d=0:=LZ
  subst e;rw[Rat.divInt_zero,if_pos rfl,yE]
 ·refine A4 ?_;refine L2 0 0 ?_;refine L2 1 0 ?_;refine dY [_,_] rfl rfl rfl (jV _ _ hn hd (fun e=>absurd (show(d.sign==0)=true by rw[e];rfl) Md)) ?_;refine Ss 2 ?_;refine A4 ?_;refine bM rfl (bz 2 rfl rfl yI (vs:=[_,_,_,_]) rfl rfl (Nat.le_of_ble_eq_true rfl) rfl) (au rfl) (fun w hL=>⟨?_,hL.below⟩);rw[if_neg (fun e=>absurd (show(d.sign==0)=true by rw[e];rfl) Md)];rfl
def fH(z:Int)(h1: -9223372036854775808<=z:=by omega)(h2:z<=9223372036854775807:=by omega):aP Tryz.prog 132 #[.int .i64 z] (Q (z:Rat)):=by
 refine xI 6 Tryz.func132 fun w=>?_;refine A2 ?_;refine Al 4 qL (fun g0=>?_);refine A5 ?_;refine dY [_] rfl rfl rfl (mg _) ?_;refine(Bu [(0,_)]) (qmn) ?_;refine Ss 0 ?_;refine A3 ?_;refine Ip 0 ?_;exact rfl
end Go.Proofs.YtaffcpfhedadhaaGreatDoor
namespace Go.Proofs.YtaffcpfhedadhaaGreatDoor
variable[Go.Via.Mo]
open Go Go.RowKit Go.Via
def iG(q:Rat):aP Tryz.prog 66 #[Q q] (.int .i64 q.num.sign):=by
 refine xI 12 Tryz.func66 fun w=>?_;refine jd fun g0=>?_;refine Ew ?_;refine Cd ?_ ?_<;>intro haQ
 ·refine A8 ?_;refine E0 ?_;exact congrArg (fun z=>Ending.returned (.int .i64 z)) (Ox q.num haQ)
 ·refine A8 ?_;refine Cd ?_ ?_<;>intro hbQ
  ·refine A8 ?_;refine E0 ?_;exact congrArg (fun z=>Ending.returned (.int .i64 z)) (sign_neg q.num hbQ)
  ·refine A9 ?_;refine E0 ?_;exact congrArg (fun z=>Ending.returned (.int .i64 z)) (TJ q.num haQ hbQ)
def I5(p q:Rat)(hp:cO p<=4194303:=by omega)(hq:cO q<=4194303:=by omega):aP Tryz.prog 160 #[Q p,Q q] (.int .i64 (ou p q)):=by
 refine oz 9 Tryz.func160 fun w=>?_;refine jd fun g0=>?_;refine Bp 4 (fun g1=>?_);refine A5 ?_;refine jM ?_;refine Pc (kU p q hp hq) ?_;refine Pc (iG (p-q)) ?_;refine A4 ?_;refine E0 ?_;exact congrArg (fun z=>Ending.returned (.int .i64 z)) (UJ p q)
def Hg(b1:Bool)(s1:ByteArray)(b2:Bool)(s2:ByteArray)(hs1:s1.size<=5000:=by omega)(hs2:s2.size<=5000:=by omega):aP Tryz.prog 105 #[.agg #[.bool b1,.string s1,.bool b2,.string s2]] (.int .i64 (if isQ b1 s1 b2 s2=true then 0 else 5)):=by
 refine xI 31 Tryz.func105 fun w=>?_;refine jd fun g0=>?_;refine A7 ?_;refine L2 0 0 ?_;refine Pc (zk b1 s1) ?_;refine A2 ?_;refine Rs 7 ?_ ?_<;>intro haQ
 ·have hI1:qo b1 s1=true:=qkM haQ;refine D7 ?_;refine E0 ?_;rw[qpf hI1];rfl
 ·have hI1:qo b1 s1=false:=qkL haQ;refine A1 ?_;refine L2 0 2 ?_;refine Pc (zk b2 s2) ?_;refine A4 ?_;refine Cd ?_ ?_<;>intro hbQ
  ·have hI2:qo b2 s2=true:=qkM hbQ;refine A7 ?_;refine E0 ?_;rw[qpg hI2];rfl
  ·have hI2:qo b2 s2=false:=qkL hbQ;refine A6 ?_;refine L2 0 2 ?_;refine(Bu []) (GV) ?_;refine iY rfl rfl rfl rfl qaN (TV _ _ _ _) ?_;refine A2 ?_;refine Cd ?_ ?_<;>intro hcQ
   ·obtain⟨hcQ,he2⟩:=qnb hcQ;refine A7 ?_;refine E0 ?_;rw[hcQ,qpi hI1 he2];rfl
   ·obtain⟨z,rfl,rfl⟩:=qeA hI1;obtain⟨e,rfl,rfl⟩:=qeA hI2;have he0:=qnc hcQ;rw[ED] at hs1 hs2;have hz1:jD z<=5000:=hs1;have hz2:jD e<=5000:=hs2;refine A4 ?_;refine Di [] ?_;refine A1 ?_;refine L2 0 2 ?_;refine Pc (nK) ?_;refine Pc (wK e 1) ?_;refine A2 ?_;refine Rs 22 ?_ ?_<;>intro hdQ
    ·have hle:e<=1:=qeD hdQ;refine A18 ?_;refine E0 ?_;rw[qpj he0 hle];rfl
    ·have hle:1<e:=qeE hdQ;refine A1 ?_;refine L2 0 0 ?_;refine A1 ?_;refine L2 0 2 ?_;refine Pc (xk z e) ?_;refine Pc (nK) ?_;refine EN rfl rfl rfl rfl qaN (TV _ _ _ _) ?_;refine A3 ?_;refine Cd ?_ ?_<;>intro heQ
     ·have hg:=qi9 heQ;refine A7 ?_;refine E0 ?_;rw[qpk hle hg];rfl
     ·have hg:=qja heQ;refine A8 ?_;refine E0 ?_;rw[qnd hle hg];rfl
end Go.Proofs.YtaffcpfhedadhaaGreatDoor
namespace Go.Proofs.YtaffcpfhedadhaaGreatDoor
variable[Go.Via.Mo]
open Go Go.RowKit Go.Via
def eQ(q:Rat):aP Tryz.prog 124 #[Q q] (I q.den):=by
 refine xI 10 Tryz.func124 fun w=>?_;refine jd fun g0=>?_;refine Al 2 xO (fun g1=>?_);refine A6 ?_;refine L2 0 2 ?_;refine(Bu []) (GV) ?_;refine iY rfl rfl rfl rfl qaN (TV _ _ _ _) ?_;refine A2 ?_;refine Cd ?_ ?_<;>intro haQ
 ·refine A2 ?_;refine Pc (nK) ?_;refine Ss 1 ?_;refine A4 ?_;refine SH 1 ?_;exact congrArg Ending.returned (qoI haQ)
 ·refine A5 ?_;refine L2 0 2 ?_;refine Ss 1 ?_;refine A3 ?_;refine SH 1 ?_;exact congrArg Ending.returned (qoJ haQ)
def yg(p q:Rat)(hp:cO p<=4194303:=by omega)(hq:cO q<=4194303:=by omega):aP Tryz.prog 189 #[Q p,Q q] (.tuple #[I (kY p q),I (kZ p q),I (lM p q)]):=by
 refine oz 33 Tryz.func189 fun w=>?_;refine jd fun g0=>?_;refine Bp 4 (fun g1=>?_);refine Al 2 xO (fun g2=>?_);refine Al 2 xO (fun g3=>?_);refine Al 2 xO (fun g4=>?_);refine A6 ?_;refine L2 0 2 ?_;refine A1 ?_;refine L2 1 2 ?_;refine iY rfl rfl rfl rfl qaN (TV _ _ _ _) ?_;refine A2 ?_;refine Cd ?_ ?_<;>intro haQ
 ·refine A1 ?_;refine Di [2,3,4] ?_;refine A1 ?_;refine L2 0 0 ?_;refine A1 ?_;refine L2 1 0 ?_;refine L4 0 0 ?_;refine Pc (eQ _) ?_;refine rU 2 0 [_,_,⟨some g2,34,_,2,true⟩,_,_] [_,_] rfl rfl rfl rfl yH rfl rfl rfl rfl rfl rfl ?_;refine rU 3 0 [_,_,_,⟨some g3,34,_,2,true⟩,_] [_,_] rfl rfl rfl rfl yH rfl rfl rfl rfl rfl rfl ?_;refine rU 4 0 [_,_,_,_,⟨some g4,34,_,2,true⟩] [_,_] rfl rfl rfl rfl yH rfl rfl rfl rfl rfl rfl ?_;refine A4 ?_;refine yB rfl (bz 2 rfl rfl yH (vs:=[_,_]) rfl rfl (Nat.le_of_ble_eq_true rfl) rfl) (bz 3 rfl rfl yH (vs:=[_,_]) rfl rfl (Nat.le_of_ble_eq_true rfl) rfl) (bz 4 rfl rfl yH (vs:=[_,_]) rfl rfl (Nat.le_of_ble_eq_true rfl) rfl) (fun w hL=>⟨?_,hL.below⟩);exact congrArg Ending.returned (qhC haQ)
 ·refine A3 ?_;refine Dp [] [0,1,2,5,6,7,10,12,3,4,8,9,11,13,14,15,16,17] ?_;refine A1 ?_;refine L2 0 0 ?_;refine L4 1 0 ?_;refine A1 ?_;refine L2 1 0 ?_;refine L4 0 0 ?_;refine jM ?_;refine Pc (eQ _) ?_;refine Mc ?_;refine Pc (eQ _) ?_;refine Mc ?_;refine Pc (eQ _) ?_;refine Pc (eQ _) ?_;refine Mc ?_;refine Ss 2 ?_;refine Ss 3 ?_;refine Ss 4 ?_;refine A3 ?_;refine yB rfl (bz 2 rfl rfl yH (vs:=[_,_]) rfl rfl (Nat.le_of_ble_eq_true rfl) rfl) (bz 3 rfl rfl yH (vs:=[_,_]) rfl rfl (Nat.le_of_ble_eq_true rfl) rfl) (bz 4 rfl rfl yH (vs:=[_,_]) rfl rfl (Nat.le_of_ble_eq_true rfl) rfl) (fun w hL=>⟨?_,hL.below⟩);exact congrArg Ending.returned (qhD haQ)
def dH(p q:Rat)(hp:cO p<=4194303:=by omega)(hq:cO q<=4194303:=by omega):aP Tryz.prog 140 #[Q p,Q q] (Q (p+q)):=by
 refine oz 20 Tryz.func140 fun w=>?_;refine jd fun g0=>?_;refine Bp 4 (fun g1=>?_);refine Al 4 qL (fun g2=>?_);refine A4 ?_;refine jM ?_;refine dY [_,_] rfl rfl rfl (yg _ _ iV iV) ?_;refine A4 ?_;refine Al 2 xO (fun g3=>?_);refine Al 2 xO (fun g4=>?_);refine Al 2 xO (fun g5=>?_);refine Ss 3 ?_;refine Ss 4 ?_;refine Ss 5 ?_;refine A3 ?_;refine Dp [] [0,1,3,2,4,5] ?_;refine L2 3 0 ?_;refine L2 4 0 ?_;refine L2 5 0 ?_;refine Pc (xm _ _ (Nat.le_trans (szX hp hq) (Nat.le_of_ble_eq_true rfl)) (Nat.le_trans (szY hp hq) (Nat.le_of_ble_eq_true rfl))) ?_;refine Pc (jV _ _ (Nat.le_trans (qqT hp hq) (Nat.le_of_ble_eq_true rfl)) (Nat.le_trans (szD hp hq) (Nat.le_of_ble_eq_true rfl)) (Oy p q)) ?_;refine eG ?_;refine Ip 2 ?_;exact congrArg (fun z=>Ending.returned (Q z)) (qaD p q)
def eU(p q:Rat)(hp:cO p<=4194303:=by omega)(hq:cO q<=4194303:=by omega):aP Tryz.prog 126 #[Q p,Q q] (Q (p-q)):=by
 refine oz 9 Tryz.func126 fun w=>?_;refine jd fun g0=>?_;refine Bp 4 (fun g1=>?_);refine Al 4 qL (fun g2=>?_);refine A3 ?_;refine Di [] ?_;refine jM ?_;refine Pc (ve _) ?_;refine dY [_,_] rfl rfl rfl (dH _ _ iV iV) ?_;refine eG ?_;refine Ip 2 ?_;exact congrArg (fun z=>Ending.returned (Q z)) (Rat.sub_eq_add_neg p q).symm
def bK(p q:Rat)(hp:cO p<=4194303:=by omega)(hq:cO q<=4194303:=by omega):aP Tryz.prog 75 #[Q p,Q q] (Q (p*q)):=by
 refine oz 16 Tryz.func75 fun w=>?_;refine jd fun g0=>?_;refine Bp 4 (fun g1=>?_);refine Al 4 qL (fun g2=>?_);refine A3 ?_;refine Dp [] [0,1,2,3,5,7,4,6,8,9,10,11] ?_;refine A1 ?_;refine L2 0 0 ?_;refine A1 ?_;refine L2 1 0 ?_;refine jM ?_;refine Mc ?_;refine Pc (eQ _) ?_;refine Pc (eQ _) ?_;refine Mc ?_;refine dY [_,_] rfl rfl rfl (jV _ _ iV iV (JZ p q)) ?_;refine eG ?_;refine Ip 2 ?_;exact congrArg (fun z=>Ending.returned (Q z)) (J3 p q)
def dX(q:Rat):aP Tryz.prog 106 #[Q q] (.int .i64 q.num.sign):=by
 refine xI 6 Tryz.func106 fun w=>?_;refine jd fun g0=>?_;refine A6 ?_;refine L2 0 0 ?_;refine Pc (nI _) ?_;refine A4 ?_;refine E0 ?_;exact rfl
def Ba(p q:Rat)(hp:cO p<=4194303:=by omega)(hq:cO q<=4194303:=by omega):aP Tryz.prog 183 #[Q p,Q q] (.tuple #[Q (p/q),.int .i64 (if q=0 then 6 else 0)]):=by
 refine oz 19 Tryz.func183 fun w=>?_;refine jd fun g0=>?_;refine Bp 4 (fun g1=>?_);refine Al 4 qL (fun g2=>?_);refine A4 ?_;refine Dp [] [0,1,2,5,7,8,3,4,6,9,10,11,12,13,14] ?_;refine A1 ?_;refine L2 0 0 ?_;refine L4 1 0 ?_;refine L4 0 0 ?_;refine A1 ?_;refine L2 1 0 ?_;refine Pc (eQ _) ?_;refine Mc ?_;refine Pc (eQ _) ?_;refine Mc ?_;refine dY [_,_] rfl rfl rfl (zl _ _ iV iV) ?_;refine A2 ?_;refine Ss 2 ?_;refine A4 ?_;refine bM rfl (bz 2 rfl rfl yI (vs:=[_,_,_,_]) rfl rfl (Nat.le_of_ble_eq_true rfl) rfl) (au rfl) (fun w hL=>⟨?_,hL.below⟩);rw[<-VU p q,qhE p q];rfl
def Ei(p q:Rat)(hp:cO p<=4194303:=by omega)(hq:cO q<=4194303:=by omega):aP Tryz.prog 212 #[Q p,Q q] (.int .i64 (ou p q)):=by
 refine oz 21 Tryz.func212 fun w=>?_;refine jd fun g0=>?_;refine Bp 4 (fun g1=>?_);refine A6 ?_;refine jM ?_;refine iY rfl rfl rfl rfl qdr (qdt _ _) ?_;refine A2 ?_;refine Cd ?_ ?_<;>intro haQ
 ·refine A7 ?_;refine E0 ?_
  have e:p=q:=LZ;subst e;rw[qaE]
 ·refine A4 ?_;refine jM ?_;refine dY [_,_] rfl rfl rfl (yg _ _ iV iV) ?_;refine A4 ?_;refine Al 2 xO (fun g2=>?_);refine Al 2 xO (fun g3=>?_);refine Al 2 xO (fun g4=>?_);refine Ss 2 ?_;refine Ss 3 ?_;refine Ss 4 ?_;refine A4 ?_;refine L2 2 0 ?_;refine L2 3 0 ?_;refine Pc (wK _ _) ?_;refine A4 ?_;refine E0 ?_;exact congrArg (fun z=>Ending.returned (.int .i64 z)) (qaF p q)
end Go.Proofs.YtaffcpfhedadhaaGreatDoor
namespace Go.Via
open Go
def oq(z:Int):Bool:=decide (0<=z)&&(bT z.natAbs*bT z.natAbs==z.natAbs)
theorem qfp{z:Int}(h:decide (z<0)=true):oq z=false:=by
 have:=of_decide_eq_true h;unfold oq;rw[decide_eq_false ae];rfl
theorem qjn{z:Int}(h:(bP (bT z.natAbs*bT z.natAbs) !=bP z.natAbs)=true):oq z=false:=by
 unfold oq;have:¬bT z.natAbs*bT z.natAbs=z.natAbs:=fun e=>by rw[e,bne,yD] at h;simp at h
 rw[beq_eq_false_iff_ne.2 this,Bool.and_false]
theorem qfq{z:Int}(h0:decide (z<0)=false)(h:(bP (bT z.natAbs*bT z.natAbs) !=bP z.natAbs)=false):oq z=true:=by
 unfold oq;have h1:=of_decide_eq_false h0;have h2:bP (bT z.natAbs*bT z.natAbs)=bP z.natAbs:=by rw[bne,yD] at h;simpa using h
 rw[P9.1 h2,decide_eq_true ae];simp
def qfr(n:Nat):bT n<=n:=by
 have h:=(Lp n).1
 by_cases h0:bT n=0
 ·omega
 ·exact Nat.le_trans (Nat.le_mul_of_pos_right _ ae) h
def oO(n:Nat):nb (bT n)<=nb n:=gK (qfr n)
theorem Hl(q:Rat):Cc q=(oq q.num&&oq (q.den:Int)):=by
 unfold Cc oq;rw[Int.natAbs_natCast,decide_eq_true (show(0:Int)<=(q.den:Int) by omega),Bool.true_and]
def w3{a b:Int}(ha:a= -1∨a=0∨a=1)(hb:b= -1∨b=0∨b=1):IntKind.i64.wrap (a*b)=a*b:=by
 rcases ha with rfl|rfl|rfl<;>rcases hb with rfl|rfl|rfl<;>rfl
theorem Ej(q:Rat):dE q= -1∨dE q=0∨dE q=1:=Zc
def qfs(p q:Rat):ou p q= -1∨ou p q=0∨ou p q=1:=qd7
theorem qnm{a b r:Rat}(h:dE b*dE r=0):uo a b r=dE a:=by unfold uo;rw[if_pos (.inl h)]
theorem qnn{a b r:Rat}(h:dE a=dE b*dE r):uo a b r=dE a:=by unfold uo;rw[if_pos (.inr h)]
theorem qno{a b r:Rat}(h0:dE b*dE r≠0)(h1:dE a≠dE b*dE r)(h2:dE a=0):uo a b r=dE b*dE r:=by unfold uo;rw[if_neg Q4,if_pos h2]
theorem qnp{a b r:Rat}(h0:dE b*dE r≠0)(h1:dE a≠dE b*dE r)(h2:dE a≠0):uo a b r=dE a*ou (a*a) (b*b*r):=by unfold uo;rw[if_neg Q4,if_neg h2]
section
variable{x y:Rl}
theorem qjo(h:dE (-o5 y)*dE y.r=0):bQ x y=uo (x.p-y.p) (o5 x) x.r:=by unfold bQ;rw[if_pos (.inl h)]
theorem qjp(h:uo (x.p-y.p) (o5 x) x.r=dE (-o5 y)*dE y.r):bQ x y=uo (x.p-y.p) (o5 x) x.r:=by unfold bQ;rw[if_pos (.inr h)]
theorem qjq(h0:dE (-o5 y)*dE y.r≠0)(h1:uo (x.p-y.p) (o5 x) x.r≠dE (-o5 y)*dE y.r)(h2:uo (x.p-y.p) (o5 x) x.r=0):bQ x y=dE (-o5 y)*dE y.r:=by
 unfold bQ;rw[if_neg Q4,if_pos h2]
theorem qjr(h0:dE (-o5 y)*dE y.r≠0)(h1:uo (x.p-y.p) (o5 x) x.r≠dE (-o5 y)*dE y.r)(h2:uo (x.p-y.p) (o5 x) x.r≠0):
 bQ x y=uo (x.p-y.p) (o5 x) x.r*uo ((x.p-y.p)*(x.p-y.p)+x.r-y.r) (2*((x.p-y.p)*o5 x)) x.r:=by
 unfold bQ;rw[if_neg Q4,if_neg h2]
end
theorem qpx{x:Rl}(h:x.n=true):o5 x=((-1:Int):Rat):=by unfold o5;rw[if_pos h];rfl
theorem qpy{x:Rl}(h:x.n=false):o5 x=((1:Int):Rat):=by unfold o5;rw[if_neg Ue];rfl
def nU{z:Int}(h1: -255<=z)(h2:z<=255):cO (z:Rat)<=2:=Nat.le_trans (qez z) (by have:=BP h1 h2;unfold jD at this;omega)
def FY:cO 2<=2:=nU (z:=2) ae ae
def zo:cO 0<=2:=nU (z:=0) ae ae
def Xw(x:Rl):cO (o5 x)<=2:=by
 unfold o5;split
 ·exact nU (z:= -1) ae ae
 ·exact nU (z:=1) ae ae
def gJ(x:Rl):Nat:=max (cO x.p) (cO x.r)
def sF(x:Rl):cO x.p<=gJ x:=Nat.le_max_left ..
def yh(x:Rl):cO x.r<=gJ x:=Nat.le_max_right ..
def Em{q:Rat}{n:Nat}(h:cO q<=n)(h2:2<=n):gJ (rl q)<=n:=Nat.max_le.2 ⟨h,Nat.le_trans zo h2⟩
def qbT{q:Rat}{n:Nat}(h:cO q<=n):cO (mZ q)<=n:=by
 unfold mZ;have h1:jD ((bT q.num.natAbs:Nat):Int)<=n:=zY (Nat.le_trans (oO _) (Nat.le_trans (VR q) h));have h2:jD ((bT q.den:Nat):Int)<=n:=zY (Nat.le_trans (oO _) (by have:=Nat.le_trans (VS q) h;unfold jD at this;simpa using this));have:=yC h1 h2 (Nat.le_trans (Jn q) h);omega
def Q5(q:Rat):cO (mZ q)<=cO q:=qbT (Nat.le_refl _)
def qnq{p q r:Rat}:gJ (mkR p q r)<=cO p+cO q+cO q+cO r+2:=by
 unfold mkR
 split
 ·refine Em ?_ ae;have h1:=jf p (q*mZ r);have h2:=bV q (mZ r);have h3:=Q5 r;omega
 ·refine Nat.max_le.2 ⟨?_,?_⟩
  ·show cO p<=_;omega
  ·show cO (q*q*r)<=_;have h1:=bV (q*q) r;have h2:=bV q q;omega
def qjs(q:Rat):(dm q).size<=cO q:=by
 unfold dm
 split
 ·exact Nat.zero_le _
 ·rw[ED];exact Nat.le_max_right ..
end Go.Via
namespace Go.Proofs.YtaffcpfhedadhaaGreatDoor
open Go Go.Via
def Vd(q:Rat)(h:cO q<=5000:=by omega):aP Tryz.prog 105 #[Q q] (.int .i64 0):=by
 have:=Hg (decide (q.num<0)) (bP q.num.natAbs) false (dm q) (by rw[ED];exact Nat.le_trans (Nat.le_max_left ..) h) (Nat.le_trans (qjs q) h);rw[Jz.2 ⟨q,rfl,rfl,rfl,rfl⟩,if_pos rfl] at this;exact this
end Go.Proofs.YtaffcpfhedadhaaGreatDoor
namespace Go.Via
def qft{q:Rat}(h:oq q.num=true){n:Nat}(h1:jD q.num<=n)(hn:n<=8388608:=by omega):jD (if oq q.num=true then((bT q.num.natAbs:Nat):Int) else 0)<=8388608:=by
 rw[if_pos h];exact zY (Nat.le_trans (oO _) (Nat.le_trans h1 hn))
def qfu{q:Rat}(h:oq (q.den:Int)=true){n:Nat}(h1:jD (q.den:Int)<=n)(hn:n<=8388608:=by omega):jD (if oq (q.den:Int)=true then((bT (q.den:Int).natAbs:Nat):Int) else 0)<=8388608:=by
 rw[if_pos h];exact zY (Nat.le_trans (oO _) (Nat.le_trans h1 hn))
def qfv{q:Rat}(h:oq (q.den:Int)=true):(if oq (q.den:Int)=true then((bT (q.den:Int).natAbs:Nat):Int) else 0)≠0:=by
 rw[if_pos h];have hd:=q.den_nz;unfold oq at h;simp only[Bool.and_eq_true,beq_iff_eq,Int.natAbs_natCast] at h;rw[Int.natAbs_natCast];intro e;have:bT q.den=0:=ae
 have h2:=h.2;rw[this] at h2;omega
end Go.Via
namespace Go.Via
theorem ZA:I 0= .agg #[aZ,bf]:=by show Value.agg #[.bool (decide ((0:Int)<0)),.string (bP 0)]=_;rw[iW];rfl
end Go.Via
namespace Go.Via
theorem PH(q:Rat):RV (rl q)= .agg #[.bool (decide (q.num<0)),.string (bP q.num.natAbs),.bool false,.string (dm q),aZ,bf,aZ,bf,.bool false]:=by
 have h:bP (0:Rat).num.natAbs=⟨#[]⟩:=iW;have h2:dm 0=⟨#[]⟩:=rfl;show Value.agg #[_,_,_,_,.bool (decide ((0:Rat).num<0)),.string (bP (0:Rat).num.natAbs),_,.string (dm 0),_]=_;rw[h,h2];rfl
end Go.Via
namespace Go.Proofs.YtaffcpfhedadhaaGreatDoor
open Go Go.RowKit Go.Via
def vg(t x y:Int)(ht1: -9223372036854775808<=t:=by omega)(ht2:t<=9223372036854775807:=by omega)(hx1: -9223372036854775808<=x:=by omega)(hx2:x<=9223372036854775807:=by omega)(hy1: -9223372036854775808<=y:=by omega)(hy2:y<=9223372036854775807:=by omega):aP Tryz.prog 84 #[.int .i64 t,.int .i64 x,.int .i64 y] (.agg #[.bool (decide (((t:Rat)).num<0)),.string (bP ((t:Rat)).num.natAbs),.bool false,.string (dm ((t:Rat))),.bool (decide (((x:Rat)).num<0)),.string (bP ((x:Rat)).num.natAbs),.bool false,.string (dm ((x:Rat))),.bool (decide (((y:Rat)).num<0)),.string (bP ((y:Rat)).num.natAbs),.bool false,.string (dm ((y:Rat)))]):=by
 refine pB3 15 Tryz.func84 fun w=>?_;refine A2 ?_;refine Al 12 qhN (fun g0=>?_);refine A5 ?_;refine Pc (fH t ht1 ht2) ?_;refine A1 ?_;refine Pc (fH x hx1 hx2) ?_;refine A1 ?_;refine Pc (fH y hy1 hy2) ?_;refine(Bu [(0,_),(1,_)]) (qhR) ?_;refine(Bu [(0,_),(1,_)]) (qhS) ?_;refine Ss 0 ?_;refine A3 ?_;refine KY 0 ?_;exact rfl
def Dw(x y:Rat):aP Tryz.prog 88 #[.agg #[.bool (decide ((x).num<0)),.string (bP (x).num.natAbs),.bool false,.string (dm (x)),.bool (decide ((y).num<0)),.string (bP (y).num.natAbs),.bool false,.string (dm (y))]] (yV ⟨x,0,y,0⟩):=by
 refine xI 8 Tryz.func88 fun w=>?_;refine A2 ?_;refine Bp 8 (fun g0=>?_);refine Al 16 z98 (fun g1=>?_);refine A5 ?_;refine L4 0 0 ?_;refine A1 ?_;refine L4 0 4 ?_;refine(Bu [(0,_),(2,_)]) (qaM) ?_;refine Ss 1 ?_;refine A3 ?_;refine qmX 1 ?_;rw[qbQ]
end Go.Proofs.YtaffcpfhedadhaaGreatDoor
