/-
  Part 35 (chapter 32): lemmas, walks. Each theorem states its own conditions.
-/
import Derived.Lib.Repeat
import Derived.Shelf.SlSortCmp.WholeK
import Derived.Shelf.SlSortCmp.NoneTotal
import Derived.Sort.Grow
import Derived.Sort.EncStr
import Derived.Test.YtaffcpfhedadhaaGreatDoorA33
import Derived.Test.YtaffcpfhedadhaaGreatDoorA34
set_option linter.all false
set_option maxRecDepth 20000
set_option maxHeartbeats 20000000
section
variable{P Q:Prop}{T:Type}{R:T->Prop}
def qf2(h:P:=by refine Dp [] (0::1::2::3::4::6::7::8::9::10::12::13::14::15::16::19::20::21::22::23::25::26::27::28::29::32::33::34::35::36::5::11::17::18::24::30::31::37::38::39::40::41::[]) ?_ (hc:=(oL (0::0::2::0::8::31::0::0::128::0::512::2047::0::0::8192::0::32768::131071::262143::0::0::1048576::0::4194304::16777215::0::0::67108864::0::268435456::1073741823::2147483647::0::0::8589934592::0::34359738368::137438953471::274877906943::549755813887::1099511627775::2199023255551::[]) ak));refine A2 ?_;refine L4 0 0 ?_;refine A1 ?_;refine L4 1 0 ?_;refine A2 ?_;refine L4 0 0 ?_;refine A1 ?_;refine L4 1 4 ?_;refine A2 ?_;refine L4 0 4 ?_;refine A1 ?_;refine L4 1 0 ?_;refine A2 ?_;refine L4 0 0 ?_;refine A1 ?_;refine L4 1 8 ?_;refine A2 ?_;refine L4 0 8 ?_;refine A1 ?_;refine L4 1 0 ?_;refine A2 ?_;refine L4 0 4 ?_;refine A1 ?_;refine L4 1 4 ?_;refine oD [_,_] rfl rfl rfl rfl (bK f.c0 g.c0) ?_;refine oD [_,_] rfl rfl rfl rfl (bK f.c0 g.c1) ?_;refine oD [_,_] rfl rfl rfl rfl (bK f.c1 g.c0) ?_;refine Pc (dJ (f.c0*g.c1) (f.c1*g.c0)) ?_;refine oD [_,_] rfl rfl rfl rfl (bK f.c0 g.c2) ?_;refine oD [_,_] rfl rfl rfl rfl (bK f.c2 g.c0) ?_;refine Pc (dJ (f.c0*g.c2) (f.c2*g.c0)) ?_;refine oD [_,_] rfl rfl rfl rfl (bK f.c1 g.c1) ?_;refine Pc (dJ (f.c0*g.c2+f.c2*g.c0) (f.c1*g.c1)) ?_;refine(Bu [(0,_),(1,_),(2,_)]) (QV) ?_;refine Ss 2 ?_;refine A4 ?_;refine bM rfl (bF 2 rfl rfl qie (vs:=[_,_,_,_,_,_,_,_,_,_,_,_]) rfl rfl (Nat.le_of_ble_eq_true rfl) rfl) (au rfl) (fun w hL=>⟨?_,hL.below⟩);exact rfl):=h
def qaj(h:P:=by refine jS 2 0 [_,_,⟨some g2,61,_,20,true⟩,_] [_,_,_,_,_,_,_,_,_,_,_,_,_,_,_,_,_,_,_,_] rfl rfl rfl rfl pz rfl rfl rfl rfl rfl rfl ?_;refine A4 ?_;refine bM rfl (bF 2 rfl rfl pz (vs:=[_,_,_,_,_,_,_,_,_,_,_,_,_,_,_,_,_,_,_,_]) rfl rfl (Nat.le_of_ble_eq_true rfl) rfl) (au rfl) (fun w hL=>⟨?_,hL.below⟩);exact congrArg (fun z=>Ending.returned (.tuple #[nJ (fD a b),.bool z])) (by unfold lD fD;simp_all)):=h
def DK(q:Q)(h:bI Q->P:=by intro q_;refine aG 0 ((i)*36) u29 qdN rfl rfl rfl rfl rfl ae ae (aY.ne ax ae) qh ?_;exact q_.qq):=h ⟨q⟩
def qlG(h:P:=by
 refine A2 ?_;refine Bp 20 (fun g0=>?_);refine Bp 20 (fun g1=>?_);refine A6 ?_;refine L9 0 9 ?_;refine A1 ?_;refine L9 1 0 ?_;refine Pc (dK a.t b.f) ?_;refine A8 ?_;refine Rs 13 ?_ ?_<;>intro haQ
 ·refine Ed ?_;refine E0 ?_;exact eB Sm
 ·exact qqf):=h
def qqf(h:P:=by
 refine A3 ?_;refine Rs 16 ?_ ?_<;>intro hbQ
 ·refine A3 ?_;refine Rs 19 ?_ ?_<;>intro hcQ
  ·refine A9 ?_;refine E0 ?_;exact eB Sm
  ·refine A9 ?_;refine E0 ?_;exact eB Sm
 ·refine nI ?_;refine E0 ?_;exact eB Sm):=h
def VU(h:P:=by refine nI ?_;refine aO rfl (au rfl) (fun w hL=>⟨⟨ob,oN,oc,h3⟩,?_,hL.pk [some 1]⟩);exact rfl):=h
def qnZ(q:Q)(h:bI Q->P:=by intro q_;refine Ye ?_;refine Ye ?_;exact q_.qq):=h ⟨q⟩
def kL(q:∀x,R x)(h:bI (∀x,R x)->P:=by intro q_;refine A2 ?_;refine Bp 12 (fun g0=>?_);exact q_.qq g0):=h ⟨q⟩
def nC(q:∀x,R x)(h:bI (∀x,R x)->P:=by intro q_;refine A2 ?_;refine Bp 9 (fun g0=>?_);exact q_.qq g0):=h ⟨q⟩
def Ye(q:Q)(h:bI Q->P:=by intro q_;refine dX [_,_] rfl rfl rfl (bK _ _ iR iR) ?_;exact q_.qq):=h ⟨q⟩
def xQ(h:P:=by have e:=haQ;simpa using e):=h
def Ib(h:P:=by have e:=hbQ;simpa using e):=h
def Yf(h:P:=by show 0+Int.toNat _*4=_;rfl):=h
def Ic(h:P:=by have e:=haQ;revert e;unfold dD;simp):=h
def Nb(h:P:=by exact(congrArg some (by rfl))):=h
def oO(h:P:=by exact(congrArg some (wi fM fM rfl))):=h
def RZ(h:P:=by unfold jP;omega):=h
def Si(h:P:=by rw[uO];exact Nat.le_refl _):=h
def jB(h:P:=by rw[List.length_append];exact r.h):=h
def nD(h:P:=by show l.length-(i+1)<l.length-i;omega):=h
def jO(h:P:=by rw[List.length_append];rfl):=h
def kz(h:P:=by rw[qY]):=h
def Bv(h:P:=by rw[hI,List.take_length]):=h
def qf3(h:P:=by cases e:dO i.f<;>simp[e] at haQ ⊢):=h
def qf4(h:P:=by cases e:dO i.t<;>simp[e] at hbQ ⊢):=h
def qf5(h:P:=by rw[qcv];have e:=hcQ;simp at e ⊢;omega):=h
def Sj(h:P:=by unfold PX;first|(simp_all;done)|(simp_all;omega)|(simp_all;intros;omega)):=h
def Sl(h:P:=by cases x<;>cases y<;>simp_all):=h
def qh(h:P:=by show 0+Int.toNat _*36=_;omega):=h
def Sm(h:P:=by unfold XV;first|(simp_all;done)|(simp_all;omega)|(simp_all;intros;omega)):=h
end
namespace Go.Proofs.YtaffcpfhedadhaaGreatDoor
open Go Go.RowKit Go.Via
variable[Mo]
def Bz(a b r:Rat)(ha:bY a<=500000:=by omega)(hb:bY b<=500000:=by omega)(hr:bY r<=500000:=by omega):aJ Tryz.prog 181 #[Q a,Q b,Q r] (.int .i64 (pF a b r)):=by
 refine pB3 40 Tryz.func181 fun w=>?_;refine jl fun g0=>?_;refine Bp 4 (fun g1=>?_);refine Bp 4 (fun g2=>?_);refine A4 ?_;refine Dp [2000000] [0,2,4,1,3,5,6,7,8] ?_;refine jc ?_;refine L4 2 0 ?_;refine Pc (dU _) ?_;refine Pc (dU _) ?_;refine Pc (dU _) ?_;refine(Aq (dD b*dD r)) (congrArg some (w3 (Ey b) (Ey r))) ?_;refine qC ?_;refine Rs 19 ?_ ?_<;>intro haQ
 ·have hs19:=eq_of_beq haQ;refine Ri ?_;refine E0 ?_;rw[qnU hs19];rfl
 ·have hs19:=ne_of_beq_false haQ;refine A7 ?_;refine Cd ?_ ?_<;>intro hbQ
  ·have hs16:=eq_of_beq hbQ;refine A9 ?_;refine E0 ?_;rw[qnV hs16];rfl
  ·have hs16:=ne_of_beq_false hbQ;refine A7 ?_;refine Cd ?_ ?_<;>intro hcQ
   ·have hs25:=eq_of_beq hcQ;refine A9 ?_;refine E0 ?_;rw[qnW hs19 hs16 hs25]
   ·have hs25:=ne_of_beq_false hcQ;refine A4 ?_;refine Dp [] [0,1,2,4,5,7,3,6,8,9,10,11] ?_;refine A1 ?_;refine L4 0 0 ?_;refine jc ?_;refine L4 1 0 ?_;refine L4 2 0 ?_;refine qnZ ?_;refine Ye ?_;refine dX [_,_] rfl rfl rfl (Ew _ _ iR iR) ?_;refine(Aq (dD a*mP (a*a) (b*b*r))) (congrArg some (w3 (Ey a) (qfY _ _))) ?_;refine A4 ?_;refine E0 ?_;rw[qnX hs19 hs16 hs25]
def xR(x:Rl):aJ Tryz.prog 180 #[RV x] (Q (jI x)):=by
 refine wQ 7 Tryz.func180 fun w=>?_;refine nC fun g0=>?_;refine Al 4 qI (fun g1=>?_);refine A9 ?_;refine Cd ?_ ?_<;>intro haQ
 ·refine A2 ?_;refine dX [_] rfl rfl rfl (fK _) ?_;refine Ss 1 ?_;refine A4 ?_;refine IV 1 ?_;rw[qqd haQ];rfl
 ·refine A4 ?_;refine dX [_] rfl rfl rfl (fK _) ?_;refine Ss 1 ?_;refine A3 ?_;refine IV 1 ?_;rw[qqe haQ];rfl
def BA(x:Rl)(hx:fV x<=400000:=by omega):aJ Tryz.prog 236 #[RV x] (.int .i64 (pF x.p (jI x) x.r)):=by
 have e1:=Nat.le_trans (qg x) hx;have e2:=Nat.le_trans (wX x) hx;have e3:=Yd x;refine wQ 10 Tryz.func236 fun w=>?_;refine nC fun g0=>?_;refine A4 ?_;refine Dp [] [0,1,2,4,5,3,6,7] ?_;refine A1 ?_;refine L4 0 0 ?_;refine L9 0 0 ?_;refine A1 ?_;refine L4 0 4 ?_;refine Pc (xR x) ?_;refine Pc (Bz x.p (jI x) x.r) ?_;refine A4 ?_;refine E0 ?_;exact rfl
def dK(x y:Rl)(hx:fV x<=50000:=by omega)(hy:fV y<=50000:=by omega):aJ Tryz.prog 130 #[RV x,RV y] (.int .i64 (aV x y)):=by
 have x1:=Nat.le_trans (qg x) hx;have x2:=Nat.le_trans (wX x) hx;have y1:=Nat.le_trans (qg y) hy;have y2:=Nat.le_trans (wX y) hy;have fx:=Yd x;have fy:=Yd y;have l1:=gW x.p y.p;have l2:=bZ (x.p-y.p) (x.p-y.p);have l3:=iG ((x.p-y.p)*(x.p-y.p)) x.r;have l4:=gW ((x.p-y.p)*(x.p-y.p)+x.r) y.r;have l5:=bZ (x.p-y.p) (jI x);have l6:=bZ 2 ((x.p-y.p)*jI x);have l7:=Gq;refine nV 65 Tryz.func130 fun w=>?_;refine nC fun g0=>?_;refine Bp 9 (fun g1=>?_);refine A4 ?_;refine Dq [3000000] [0,1,2,3,5,7,4,6,8,9,10,11,12,13,14,15] ?_;refine A1 ?_;refine L4 0 0 ?_;refine A1 ?_;refine L4 1 0 ?_;refine L9 0 0 ?_;refine L9 1 0 ?_;refine Pc (eQ x.p y.p) ?_;refine Pc (xR x) ?_;refine Pc (xR y) ?_;refine Pc (vw (jI y)) ?_;refine Al 4 qI (fun g2=>?_);refine Al 4 qI (fun g3=>?_);refine Al 4 qI (fun g4=>?_);refine Ss 2 ?_;refine Ss 3 ?_;refine Ss 4 ?_;refine A3 ?_;refine Dp [2000000] [0,1,2,3,5,7,8,4,6,9,10,11,12] ?_;refine L4 2 0 ?_;refine L4 3 0 ?_;refine A1 ?_;refine L4 0 4 ?_;refine L4 4 0 ?_;refine A1 ?_;refine L4 1 4 ?_;refine Pc (Bz (x.p-y.p) (jI x) x.r) ?_;refine Pc (dU (-jI y)) ?_;refine Pc (dU y.r) ?_;refine(Aq (dD (-jI y)*dD y.r)) (congrArg some (w3 (Ey _) (Ey _))) ?_;refine qC ?_;refine Rs 35 ?_ ?_<;>intro haQ
 ·have hs35:=eq_of_beq haQ;refine Ri ?_;refine E0 ?_;rw[qjT hs35]
 ·have hs35:=ne_of_beq_false haQ;refine A7 ?_;refine Cd ?_ ?_<;>intro hbQ
  ·have hs32:=eq_of_beq hbQ;refine A9 ?_;refine E0 ?_;rw[qjU hs32]
  ·have hs32:=ne_of_beq_false hbQ;refine A7 ?_;refine Cd ?_ ?_<;>intro hcQ
   ·have hs41:=eq_of_beq hcQ;refine A9 ?_;refine E0 ?_;rw[qjV hs35 hs32 hs41]
   ·have hs41:=ne_of_beq_false hcQ;refine A4 ?_;refine Dq [3000000] [0,1,3,4,6,7,2,5,8,9,10] ?_;refine L4 2 0 ?_;refine L4 2 0 ?_;refine A1 ?_;refine L4 0 4 ?_;refine A1 ?_;refine L4 1 4 ?_;refine Pc (bK (x.p-y.p) (x.p-y.p)) ?_;refine Pc (dJ ((x.p-y.p)*(x.p-y.p)) x.r) ?_;refine Pc (eQ ((x.p-y.p)*(x.p-y.p)+x.r) y.r) ?_;refine Al 4 qI (fun g5=>?_);refine Ss 5 ?_;refine A3 ?_;refine Dp [] [0,1,3,4,7,8,2,5,6,9,10,11] ?_;refine A1 ?_;refine L4 5 0 ?_;refine L4 2 0 ?_;refine L4 3 0 ?_;refine A1 ?_;refine L4 0 4 ?_;refine Pc (fK 2) ?_;refine Kr 56 (Q 2) ?_;refine Pc (bK (x.p-y.p) (jI x)) ?_;refine Pc (bK 2 ((x.p-y.p)*jI x)) ?_;refine Pc (Bz ((x.p-y.p)*(x.p-y.p)+x.r-y.r) (2*((x.p-y.p)*jI x)) x.r) ?_;refine(Aq (pF (x.p-y.p) (jI x) x.r*pF ((x.p-y.p)*(x.p-y.p)+x.r-y.r) (2*((x.p-y.p)*jI x)) x.r)) (congrArg some (w3 (CQ _ _ _) (CQ _ _ _))) ?_;refine A4 ?_;refine E0 ?_;rw[qjW hs35 hs32 hs41]
def kM(q:Rat):aJ Tryz.prog 86 #[Q q] (RV (rl q)):=by
 refine wQ 5 Tryz.func86 fun w=>?_;refine jl fun g0=>?_;refine Al 9 II (fun g1=>?_);refine A4 ?_;refine L4 0 0 ?_;refine(Bu [(0,_)]) (Au) ?_;refine Ss 1 ?_;refine A3 ?_;refine TM 1 ?_;rw[I9]
def wY(x:Rl)(q:Rat)(hx:fV x<=50000:=by omega)(hq:bY q<=50000:=by omega):aJ Tryz.prog 118 #[RV x,Q q] (.int .i64 (aV x (rl q))):=by
 refine nV 9 Tryz.func118 fun w=>?_;refine nC fun g0=>?_;refine Bp 4 (fun g1=>?_);refine A4 ?_;refine Di [] ?_;refine L9 0 0 ?_;refine L4 1 0 ?_;refine Pc (kM q) ?_;refine Pc (dK x (rl q) hx (vC hq ae)) ?_;refine A4 ?_;refine E0 ?_;exact rfl
def Nc(x y:Rl)(hx:fV x<=50000:=by omega)(hy:fV y<=50000:=by omega):aJ Tryz.prog 83 #[RV x,RV y] (RV (fU x y)):=by
 refine nV 11 Tryz.func83 fun w=>?_;refine nC fun g0=>?_;refine Bp 9 (fun g1=>?_);refine Al 9 II (fun g2=>?_);refine A5 ?_;refine L9 1 0 ?_;refine L9 0 0 ?_;refine Pc (dK y x hy hx) ?_;refine A3 ?_;refine Cd ?_ ?_<;>intro haQ
 ·refine A2 ?_;refine L9 1 0 ?_;refine Ss 2 ?_;refine A4 ?_;refine TM 2 ?_;rw[fU,if_pos (of_decide_eq_true haQ)];rfl
 ·refine A4 ?_;refine L9 0 0 ?_;refine dW ?_;refine TM 2 ?_;rw[fU,if_neg (of_decide_eq_false haQ)];rfl
end Go.Proofs.YtaffcpfhedadhaaGreatDoor
namespace Go.Proofs.YtaffcpfhedadhaaGreatDoor
open Go Go.RowKit Go.Via
def vG(z:Int)(hz:jv z<=33554432:=by omega):aJ Tryz.prog 159 #[I z] (.tuple #[I (if nX z=true then((bV z.natAbs:Nat):Int) else 0),.bool (nX z)]):=by
 have hr:=oH z.natAbs;have hz2:nb z.natAbs<=33554432:=hz;refine wQ 20 Tryz.func159 fun w=>?_;refine A2 ?_;refine Bp 2 (fun g0=>?_);refine Al 2 yh (fun g1=>?_);refine lW ?_;refine Cd ?_ ?_<;>intro haQ
 ·refine A2 ?_;refine(Bu []) (Hm) ?_;refine Ss 1 ?_;refine A5 ?_;refine bM rfl (bF 1 rfl rfl yS (vs:=[_,_]) rfl rfl (Nat.le_of_ble_eq_true rfl) rfl) (au rfl) (fun w hL=>⟨?_,hL.below⟩);rw[qfV haQ,if_neg ax,qai]
 ·refine A6 ?_;refine Pc (Bj z.natAbs hz2) ?_;refine A5 ?_;refine Dp [] [0,1,3,4,2,5] ?_;refine A4 ?_;refine dX [_,_] rfl rfl rfl (DI _ _) ?_;refine A3 ?_;refine Cd ?_ ?_<;>intro hbQ
  ·refine A2 ?_;refine(Bu []) (Hm) ?_;refine Ss 1 ?_;refine A5 ?_;refine bM rfl (bF 1 rfl rfl yS (vs:=[_,_]) rfl rfl (Nat.le_of_ble_eq_true rfl) rfl) (au rfl) (fun w hL=>⟨?_,hL.below⟩);rw[qjS hbQ,if_neg ax,qai]
  ·refine A5 ?_;refine Pc (dC false (bV z.natAbs)) ?_;refine Ss 1 ?_;refine A4 ?_;refine bM rfl (bF 1 rfl rfl yS (vs:=[_,_]) rfl rfl (Nat.le_of_ble_eq_true rfl) rfl) (au rfl) (fun w hL=>⟨?_,hL.below⟩);rw[qfW haQ hbQ,if_pos rfl];rfl
def zI(q:Rat)(hq:bY q<=4194303:=by omega):aJ Tryz.prog 107 #[Q q] (.tuple #[Q (if qE q=true then fQ q else 0),.bool (qE q)]):=by
 have h1:=Nat.le_trans (WJ q) hq;have h2:=Nat.le_trans (WL q) hq;have h3:=oH q.num.natAbs;have h4:=oH q.den;refine wQ 30 Tryz.func107 fun w=>?_;refine jl fun g0=>?_;refine Al 4 qI (fun g1=>?_);refine A6 ?_;refine L2 0 0 ?_;refine Pc (vG q.num) ?_;refine A3 ?_;refine Al 2 yh (fun g2=>?_);refine Ss 2 ?_;refine A5 ?_;refine L4 0 0 ?_;refine Pc (eP q) ?_;refine Pc (vG (q.den:Int)) ?_;refine A3 ?_;refine Al 2 yh (fun g3=>?_);refine Ss 3 ?_;refine A9 ?_;refine Rs 22 ?_ ?_<;>intro haQ
 ·have hs22:nX q.num=false:=xQ
  refine A8 ?_;refine(Bu []) (yT) ?_;refine Ss 1 ?_;refine A5 ?_;refine bM rfl (bF 1 rfl rfl CW (vs:=[_,_,_,_]) rfl rfl (Nat.le_of_ble_eq_true rfl) rfl) (au rfl) (fun w hL=>⟨?_,hL.below⟩);rw[Ia,hs22,Bool.false_and,if_neg ax,yQ]
 ·have hs22:nX q.num=true:=xQ
  refine A5 ?_;refine Cd ?_ ?_<;>intro hbQ
  ·have hs23:nX (q.den:Int)=false:=Ib
   refine A2 ?_;refine(Bu []) (yT) ?_;refine Ss 1 ?_;refine A5 ?_;refine bM rfl (bF 1 rfl rfl CW (vs:=[_,_,_,_]) rfl rfl (Nat.le_of_ble_eq_true rfl) rfl) (au rfl) (fun w hL=>⟨?_,hL.below⟩);rw[Ia,hs23,Bool.and_false,if_neg ax,yQ]
  ·have hs23:nX (q.den:Int)=true:=Ib
   refine A4 ?_;refine L2 2 0 ?_;refine L2 3 0 ?_;refine Pc (jZ _ _ (qfZ hs22 h1) (qf0 hs23 h2) (qf1 hs23)) ?_;refine Ss 1 ?_;refine A4 ?_;refine bM rfl (bF 1 rfl rfl CW (vs:=[_,_,_,_]) rfl rfl (Nat.le_of_ble_eq_true rfl) rfl) (au rfl) (fun w hL=>⟨?_,hL.below⟩);rw[Ia,hs22,hs23];rfl
end Go.Proofs.YtaffcpfhedadhaaGreatDoor
namespace Go.Via
open Go
def uC(f:Qd):Nat:=max (bY f.c0) (max (bY f.c1) (bY f.c2))
def qi(f:Qd):bY f.c0<=uC f:=Nat.le_max_left ..
def qj(f:Qd):bY f.c1<=uC f:=Nat.le_trans (Nat.le_max_left ..) (Nat.le_max_right ..)
def qM(f:Qd):bY f.c2<=uC f:=Nat.le_trans (Nat.le_max_right ..) (Nat.le_max_right ..)
def Ie{f:Qd}{n:Nat}(h0:bY f.c0<=n)(h1:bY f.c1<=n)(h2:bY f.c2<=n):uC f<=n:=Nat.max_le.2 ⟨h0,Nat.max_le.2 ⟨h1,h2⟩⟩
def Df(f:Qd):Int:=if f.c2≠0 then 2 else if f.c1≠0 then 1 else if f.c0≠0 then 0 else-1
theorem Sr{q:Rat}:dD q≠0↔q≠0:=by
 rcases dV q with⟨h,e⟩|⟨h,e⟩|⟨h,e⟩<;>rw[e]<;>simp
 ·grind
 ·grind
 ·exact h
def xU(f:Qd)(t:Rat):bY (sG f t)<=bY f.c0+(bY t+(bY f.c1+(bY t+bY f.c2)+1))+1:=by
 unfold sG;have h1:=bZ t f.c2;have h2:=iG f.c1 (t*f.c2);have h3:=bZ t (f.c1+t*f.c2);have h4:=iG f.c0 (t*(f.c1+t*f.c2));omega
def qf6(f:Qd)(t:Rat):bY (uz f t)<=bY f.c1+(bY f.c2+bY f.c2+1+bY t)+1:=by
 unfold uz;have h1:=iG f.c2 f.c2;have h2:=bZ (f.c2+f.c2) t;have h3:=iG f.c1 ((f.c2+f.c2)*t);omega
def Su{f:Qd}{t:Rl}{m n:Nat}(hf:uC f<=m)(ht:fV t<=n):fV (Be f t)<=10*m+10*n+20:=by
 have e0:=Nat.le_trans (qi f) hf;have e1:=Nat.le_trans (qj f) hf;have e2:=Nat.le_trans (qM f) hf;have t1:=Nat.le_trans (qg t) ht;have t2:=Nat.le_trans (wX t) ht;have h1:=xU f t.p;have h2:=qf6 f t.p;have h3:=bZ f.c2 t.r;have h4:=iG (sG f t.p) (f.c2*t.r);unfold Be;refine Nat.le_trans qnY ?_;have h5:bY (if t.n=true then-uz f t.p else uz f t.p)<=bY (uz f t.p):=by
  split
  ·exact KI _
  ·exact Nat.le_refl _
 omega
end Go.Via
namespace Go.Via
theorem VV:bQ (0:Rat).num.natAbs=⟨#[]⟩:=iT
theorem dm0:dm 0=⟨#[]⟩:=rfl
theorem VW:decide ((0:Rat).num<0)=false:=rfl
theorem qak(a b:Rat):rH ⟨a,b,0⟩= .agg #[.bool (decide (a.num<0)),.string (bQ a.num.natAbs),.bool false,.string (dm a),.bool (decide (b.num<0)),.string (bQ b.num.natAbs),.bool false,.string (dm b),aT,aU,aT,aU]:=by
 unfold rH;dsimp only;rw[VV,dm0,VW]
theorem Qi(a:Rat):rH ⟨a,0,0⟩= .agg #[.bool (decide (a.num<0)),.string (bQ a.num.natAbs),.bool false,.string (dm a),aT,aU,aT,aU,aT,aU,aT,aU]:=by
 unfold rH;dsimp only;rw[VV,dm0,VW]
def qf7:rH ⟨0,0,0⟩= .agg #[aT,aU,aT,aU,aT,aU,aT,aU,aT,aU,aT,aU]:=by
 unfold rH;dsimp only;rw[VV,dm0,VW]
def Sz:RV (rl 0)= .agg #[aT,aU,aT,aU,aT,aU,aT,aU,.bool false]:=by
 rw[I9,VV,dm0,VW]
def vH(f:Qd)(t:Rl):Qd:=if t.r=0 then⟨sG f t.p,0,0⟩ else⟨f.c0+f.c2*(t.r-t.p*t.p),uz f t.p,0⟩
def ql(f g:Qd):Qd:=⟨f.c0-g.c0,f.c1-g.c1,f.c2-g.c2⟩
def qjY{f g:Qd}{m n:Nat}(hf:uC f<=m)(hg:uC g<=n):uC (ql f g)<=m+n+1:=by
 have f0:=Nat.le_trans (qi f) hf;have f1:=Nat.le_trans (qj f) hf;have f2:=Nat.le_trans (qM f) hf;have g0:=Nat.le_trans (qi g) hg;have g1:=Nat.le_trans (qj g) hg;have g2:=Nat.le_trans (qM g) hg;refine Ie ?_ ?_ ?_
 ·have:=gW f.c0 g.c0;show bY (f.c0-g.c0)<=_;omega
 ·have:=gW f.c1 g.c1;show bY (f.c1-g.c1)<=_;omega
 ·have:=gW f.c2 g.c2;show bY (f.c2-g.c2)<=_;omega
def qr9(f:Qd)(n:Nat):Prop:=n<=3∧(n<=2->f.c2=0)∧(n<=1->f.c1=0)∧(n<=0->f.c0=0)
def qf8{q:Rat}(h:dD q=0):q=0:=Classical.byContradiction fun e=>Sr.2 e h
theorem qn0{f:Qd}(h:dD f.c2≠0):Df f=2:=by unfold Df;rw[if_pos (Sr.1 h)]
theorem qn1{f:Qd}(h2:f.c2=0)(h:dD f.c1≠0):Df f=1:=by unfold Df;rw[if_neg (fun e=>e h2),if_pos (Sr.1 h)]
theorem qn2{f:Qd}(h2:f.c2=0)(h1:f.c1=0)(h:dD f.c0≠0):Df f=0:=by unfold Df;rw[if_neg (fun e=>e h2),if_neg (fun e=>e h1),if_pos (Sr.1 h)]
theorem qn3{f:Qd}(h2:f.c2=0)(h1:f.c1=0)(h:f.c0=0):Df f= -1:=by unfold Df;rw[if_neg (fun e=>e h2),if_neg (fun e=>e h1),if_neg (fun e=>e h)]
def VX{f:Qd}(h:f.c2=0):Df f<=1:=by unfold Df;rw[if_neg (fun e=>e h)];split<;>(try split)<;>omega
def qal(f:Qd): -1<=Df f∧Df f<=2:=by
 unfold Df
 by_cases h2:f.c2=0<;>by_cases h1:f.c1=0<;>by_cases h0:f.c0=0<;>simp[h0,h1,h2]
def qn4{r:Rat}(h:0<=r):¬r.num.sign<0:=by
 have:¬dD r<0:=by rcases dV r with⟨_,e⟩|⟨e1,_⟩|⟨_,e⟩<;>(try rw[e])<;>(try decide);grind
 exact this
end Go.Via
namespace Go.Proofs.YtaffcpfhedadhaaGreatDoor
open Go Go.RowKit Go.Via
def Jr(x:Rl):aJ Tryz.prog 318 #[RV x] (.tuple #[Q (if x.r=0 then x.p else 0),.bool (decide (x.r=0))]):=by
 refine wQ 11 Tryz.func318 fun w=>?_;refine nC fun g0=>?_;refine Al 4 qI (fun g1=>?_);refine A7 ?_;refine L4 0 4 ?_;refine(Bu []) (yT) ?_;refine aS 6 (Q 0) rfl yQ.symm ?_;refine E5 rfl rfl rfl rfl qdW (qdY _ _) ?_;refine A2 ?_;refine Cd ?_ ?_<;>intro haQ
 ·have hs7:x.r≠0:=xQ
  refine A2 ?_;refine(Bu []) (yT) ?_;refine aS 8 (Q 0) rfl yQ.symm ?_;refine Ss 1 ?_;refine A5 ?_;refine bM rfl (bF 1 rfl rfl CW (vs:=[_,_,_,_]) rfl rfl (Nat.le_of_ble_eq_true rfl) rfl) (au rfl) (fun w hL=>⟨?_,hL.below⟩);rw[if_neg hs7,decide_eq_false hs7];rfl
 ·have hs7:x.r=0:=xQ
  refine A5 ?_;refine L4 0 0 ?_;refine Ss 1 ?_;refine A4 ?_;refine bM rfl (bF 1 rfl rfl CW (vs:=[_,_,_,_]) rfl rfl (Nat.le_of_ble_eq_true rfl) rfl) (au rfl) (fun w hL=>⟨?_,hL.below⟩);rw[if_pos hs7,decide_eq_true hs7];rfl
def sU(c:Rat):aJ Tryz.prog 74 #[Q c] (rH ⟨c,0,0⟩):=by
 refine wQ 5 Tryz.func74 fun w=>?_;refine jl fun g0=>?_;refine Al 12 IJ (fun g1=>?_);refine A4 ?_;refine L4 0 0 ?_;refine(Bu [(0,_)]) (qdT) ?_;refine Ss 1 ?_;refine A3 ?_;refine Md 1 ?_;rw[Qi]
def jC(a b:Rat):aJ Tryz.prog 141 #[Q a,Q b] (rH ⟨a,b,0⟩):=by
 refine nV 8 Tryz.func141 fun w=>?_;refine jl fun g0=>?_;refine Bp 4 (fun g1=>?_);refine Al 12 IJ (fun g2=>?_);refine A4 ?_;refine jc ?_;refine(Bu [(0,_),(1,_)]) (qdU) ?_;refine dW ?_;refine Md 2 ?_;rw[qak]
def Js(f g:Qd)(hf:uC f<=1000000:=by omega)(hg:uC g<=1000000:=by omega):aJ Tryz.prog 92 #[rH f,rH g] (rH ⟨f.c0+g.c0,f.c1+g.c1,f.c2+g.c2⟩):=by
 have f0:=Nat.le_trans (qi f) hf;have f1:=Nat.le_trans (qj f) hf;have f2:=Nat.le_trans (qM f) hf;have g0:=Nat.le_trans (qi g) hg;have g1:=Nat.le_trans (qj g) hg;have g2:=Nat.le_trans (qM g) hg;refine nV 21 Tryz.func92 fun w=>?_;refine kL fun g0=>?_;refine Bp 12 (fun g1=>?_);refine Al 12 IJ (fun g2=>?_);refine A3 ?_;refine Dp [] [0,1,2,3,5,6,7,8,10,11,12,13,4,9,14,15,16] ?_;refine A1 ?_;refine L4 0 0 ?_;refine A1 ?_;refine L4 1 0 ?_;refine A1 ?_;refine L4 0 4 ?_;refine A1 ?_;refine L4 1 4 ?_;refine A1 ?_;refine L4 0 8 ?_;refine A1 ?_;refine L4 1 8 ?_;refine Pc (dJ f.c0 g.c0) ?_;refine Pc (dJ f.c1 g.c1) ?_;refine Pc (dJ f.c2 g.c2) ?_;refine(Bu [(0,_),(1,_),(2,_)]) (QV) ?_;refine dW ?_;refine Md 2 ?_;exact rfl
def zJ(f g:Qd)(hf:uC f<=1000000:=by omega)(hg:uC g<=1000000:=by omega):aJ Tryz.prog 77 #[rH f,rH g] (rH (ql f g)):=by
 have f0:=Nat.le_trans (qi f) hf;have f1:=Nat.le_trans (qj f) hf;have f2:=Nat.le_trans (qM f) hf;have g0:=Nat.le_trans (qi g) hg;have g1:=Nat.le_trans (qj g) hg;have g2:=Nat.le_trans (qM g) hg;refine nV 21 Tryz.func77 fun w=>?_;refine kL fun g0=>?_;refine Bp 12 (fun g1=>?_);refine Al 12 IJ (fun g2=>?_);refine A3 ?_;refine Dp [] [0,1,2,3,5,6,7,8,10,11,12,13,4,9,14,15,16] ?_;refine A1 ?_;refine L4 0 0 ?_;refine A1 ?_;refine L4 1 0 ?_;refine A1 ?_;refine L4 0 4 ?_;refine A1 ?_;refine L4 1 4 ?_;refine A1 ?_;refine L4 0 8 ?_;refine A1 ?_;refine L4 1 8 ?_;refine Pc (eQ f.c0 g.c0) ?_;refine Pc (eQ f.c1 g.c1) ?_;refine Pc (eQ f.c2 g.c2) ?_;refine(Bu [(0,_),(1,_),(2,_)]) (QV) ?_;refine dW ?_;refine Md 2 ?_;exact rfl
def yE(f:Qd)(t:Rat)(hf:uC f<=500000:=by omega)(ht:bY t<=500000:=by omega):aJ Tryz.prog 143 #[rH f,Q t] (Q (sG f t)):=by
 have f0:=Nat.le_trans (qi f) hf;have f1:=Nat.le_trans (qj f) hf;have f2:=Nat.le_trans (qM f) hf;have l1:=bZ t f.c2;have l2:=iG f.c1 (t*f.c2);have l3:=bZ t (f.c1+t*f.c2);refine nV 17 Tryz.func143 fun w=>?_;refine kL fun g0=>?_;refine Bp 4 (fun g1=>?_);refine Al 4 qI (fun g2=>?_);refine A3 ?_;refine Di [] ?_;refine A1 ?_;refine jc ?_;refine A1 ?_;refine L4 0 4 ?_;refine L4 1 0 ?_;refine A1 ?_;refine L4 0 8 ?_;refine Pc (bK t f.c2) ?_;refine Pc (dJ f.c1 (t*f.c2)) ?_;refine Pc (bK t (f.c1+t*f.c2)) ?_;refine Pc (dJ f.c0 (t*(f.c1+t*f.c2))) ?_;refine dW ?_;refine IV 2 ?_;exact rfl
def wZ(f:Qd)(t:Rat)(hf:uC f<=500000:=by omega)(ht:bY t<=500000:=by omega):aJ Tryz.prog 144 #[rH f,Q t] (Q (uz f t)):=by
 have f0:=Nat.le_trans (qi f) hf;have f1:=Nat.le_trans (qj f) hf;have f2:=Nat.le_trans (qM f) hf;have l1:=iG f.c2 f.c2;have l2:=bZ (f.c2+f.c2) t;refine nV 15 Tryz.func144 fun w=>?_;refine kL fun g0=>?_;refine Bp 4 (fun g1=>?_);refine Al 4 qI (fun g2=>?_);refine A3 ?_;refine Dp [] [0,1,2,3,4,5,7,6,8,9,10] ?_;refine A1 ?_;refine L4 0 4 ?_;refine A1 ?_;refine L4 0 8 ?_;refine A1 ?_;refine L4 0 8 ?_;refine L4 1 0 ?_;refine Pc (dJ f.c2 f.c2) ?_;refine Pc (bK (f.c2+f.c2) t) ?_;refine Pc (dJ f.c1 ((f.c2+f.c2)*t)) ?_;refine dW ?_;refine IV 2 ?_;exact rfl
def Ja(p q r:Rat)(h0:0<=r:=by omega)(hp:bY p<=500000:=by omega)(hq:bY q<=500000:=by omega)(hr:bY r<=500000:=by omega):aJ Tryz.prog 146 #[Q p,Q q,Q r] (.tuple #[RV (mkR p q r),.int .i64 0]):=by
 have l1:=bZ q q;have l2:=Gs r;have l3:=bZ q (fQ r);refine pB3 36 Tryz.func146 fun w=>?_;refine jl fun g0=>?_;refine Bp 4 (fun g1=>?_);refine Bp 4 (fun g2=>?_);refine Al 9 II (fun g3=>?_);refine A6 ?_;refine L4 2 0 ?_;refine Pc (dU r) ?_;refine A3 ?_;refine Cd ?_ ?_<;>intro haQ
 ·exact absurd (of_decide_eq_true haQ) (by have:=(qn4 h0);omega)
 ·refine A5 ?_;refine L4 2 0 ?_;refine Pc (zI r) ?_;refine A3 ?_;refine Al 4 qI (fun g4=>?_);refine Ss 4 ?_;refine A8 ?_;refine Cd ?_ ?_<;>intro hbQ
  ·have hs:qE r=true:=hbQ;refine A1 ?_;refine Di [] ?_;refine jc ?_;refine L4 4 0 ?_;refine aS 22 (Q (fQ r)) rfl (by rw[hs,if_pos rfl];rfl) ?_;refine Pc (bK q (fQ r)) ?_;refine Pc (dJ p (q*fQ r)) ?_;refine(Bu [(0,_)]) (Au) ?_;refine Ss 3 ?_;refine A5 ?_;refine bM rfl (bF 3 rfl rfl ja (vs:=[_,_,_,_,_,_,_,_,_]) rfl rfl (Nat.le_of_ble_eq_true rfl) rfl) (au rfl) (fun w hL=>⟨?_,hL.below⟩);rw[mkR,hs,if_pos rfl,I9]
  ·have hs:qE r=false:=hbQ;refine A3 ?_;refine Dp [] [0,1,2,4,6,3,5,7,8,9,10,11] ?_;refine jc ?_;refine L4 1 0 ?_;refine L4 2 0 ?_;refine L4 1 0 ?_;refine Pc (bK q q) ?_;refine Pc (bK (q*q) r) ?_;refine Pc (dU q) ?_;refine A1 ?_;refine(Bu [(0,_),(1,_),(2,_)]) (QT) ?_;refine Ss 3 ?_;refine A4 ?_;refine bM rfl (bF 3 rfl rfl ja (vs:=[_,_,_,_,_,_,_,_,_]) rfl rfl (Nat.le_of_ble_eq_true rfl) rfl) (au rfl) (fun w hL=>⟨?_,hL.below⟩);rw[mkR,hs,if_neg ax];rfl
def vI(f:Qd)(t:Rl)(h0:0<=t.r:=by omega)(hf:uC f<=10000:=by omega)(ht:fV t<=10000:=by omega):aJ Tryz.prog 94 #[rH f,RV t] (RV (Be f t)):=by
 have f0:=Nat.le_trans (qi f) hf;have f1:=Nat.le_trans (qj f) hf;have f2:=Nat.le_trans (qM f) hf;have t1:=Nat.le_trans (qg t) ht;have t2:=Nat.le_trans (wX t) ht;have l1:=xU f t.p;have l2:=qf6 f t.p;have l3:=bZ f.c2 t.r;have l4:=iG (sG f t.p) (f.c2*t.r);have l5:=KI (uz f t.p);refine nV 36 Tryz.func94 fun w=>?_;refine kL fun g0=>?_;refine Bp 9 (fun g1=>?_);refine Al 9 II (fun g2=>?_);refine A3 ?_;refine Dq [3000000] [0,1,2,4,5,6,7,3,8,9,10,11] ?_;refine vZ 0 0 ?_;refine A1 ?_;refine L4 1 0 ?_;refine A1 ?_;refine L4 0 8 ?_;refine A1 ?_;refine L4 1 4 ?_;refine Pc (yE f t.p) ?_;refine Pc (bK f.c2 t.r) ?_;refine Pc (dJ (sG f t.p) (f.c2*t.r)) ?_;refine Al 4 qI (fun g3=>?_);refine Ss 3 ?_;refine A4 ?_;refine vZ 0 0 ?_;refine A1 ?_;refine L4 1 0 ?_;refine Pc (wZ f t.p) ?_;refine Al 4 qI (fun g4=>?_);refine Ss 4 ?_;refine A9 ?_;refine Cd ?_ ?_<;>intro haQ
 ·refine A1 ?_;refine L4 4 0 ?_;refine Pc (vw (uz f t.p)) ?_;refine Ss 4 ?_;refine A4 ?_;refine L4 3 0 ?_;refine L4 4 0 ?_;refine A1 ?_;refine L4 1 4 ?_;refine Pc (Ja (sG f t.p+f.c2*t.r) (-uz f t.p) t.r h0) ?_;refine A3 ?_;refine Al 9 II (fun g5=>?_);refine Ss 5 ?_;refine A5 ?_;refine L9 5 0 ?_;refine dW ?_;refine TM 2 ?_;rw[Be,if_pos haQ];rfl
 ·refine A4 ?_;refine L4 3 0 ?_;refine L4 4 0 ?_;refine A1 ?_;refine L4 1 4 ?_;refine Pc (Ja (sG f t.p+f.c2*t.r) (uz f t.p) t.r h0) ?_;refine A3 ?_;refine Al 9 II (fun g5=>?_);refine Ss 5 ?_;refine A5 ?_;refine L9 5 0 ?_;refine dW ?_;refine TM 2 ?_;rw[Be,if_neg Na];rfl
def oP(f:Qd)(t:Rl)(hf:uC f<=100000:=by omega)(ht:fV t<=100000:=by omega):aJ Tryz.prog 316 #[rH f,RV t] (rH (vH f t)):=by
 have f0:=Nat.le_trans (qi f) hf;have f1:=Nat.le_trans (qj f) hf;have f2:=Nat.le_trans (qM f) hf;have t1:=Nat.le_trans (qg t) ht;have t2:=Nat.le_trans (wX t) ht;have l1:=bZ t.p t.p;have l2:=gW t.r (t.p*t.p);have l3:=bZ f.c2 (t.r-t.p*t.p);refine nV 38 Tryz.func316 fun w=>?_;refine kL fun g0=>?_;refine Bp 9 (fun g1=>?_);refine Al 12 IJ (fun g2=>?_);refine A5 ?_;refine L9 1 0 ?_;refine Pc (Jr t) ?_;refine A3 ?_;refine Al 4 qI (fun g3=>?_);refine Ss 3 ?_;refine A8 ?_;refine Cd ?_ ?_<;>intro haQ
 ·have hs13:t.r=0:=of_decide_eq_true haQ;refine A2 ?_;refine vZ 0 0 ?_;refine L4 3 0 ?_;refine aS 15 (Q t.p) rfl (by rw[if_pos hs13];rfl) ?_;refine Pc (yE f t.p) ?_;refine Pc (sU (sG f t.p)) ?_;refine Ss 2 ?_;refine A4 ?_;refine Md 2 ?_;rw[vH,if_pos hs13];rfl
 ·have hs13:¬t.r=0:=of_decide_eq_false haQ;refine A3 ?_;refine Dq [3000000] [0,1,2,3,4,5,6,7,8,9] ?_;refine A1 ?_;refine L4 1 4 ?_;refine A1 ?_;refine L4 1 0 ?_;refine A1 ?_;refine L4 1 0 ?_;refine Pc (bK t.p t.p) ?_;refine Pc (eQ t.r (t.p*t.p)) ?_;refine Al 4 qI (fun g4=>?_);refine Ss 4 ?_;refine A3 ?_;refine Dp [] [0,1,2,3,4,7,8,9,5,6,10,11,12] ?_;refine A1 ?_;refine L4 0 0 ?_;refine A1 ?_;refine L4 0 8 ?_;refine L4 4 0 ?_;refine vZ 0 0 ?_;refine A1 ?_;refine L4 1 0 ?_;refine Pc (bK f.c2 (t.r-t.p*t.p)) ?_;refine Pc (dJ f.c0 (f.c2*(t.r-t.p*t.p))) ?_;refine Pc (wZ f t.p) ?_;refine Pc (jC (f.c0+f.c2*(t.r-t.p*t.p)) (uz f t.p)) ?_;refine dW ?_;refine Md 2 ?_;rw[vH,if_neg hs13];rfl
def tV(t v u s:Rat)(h0:u-t≠0:=by omega)(h1:bY t<=100000:=by omega)(h2:bY v<=100000:=by omega)(h3:bY u<=100000:=by omega)(h4:bY s<=100000:=by omega):aJ Tryz.prog 134 #[Q t,Q v,Q u,Q s] (.tuple #[rH ⟨v-(s-v)/(u-t)*t,(s-v)/(u-t),0⟩,.int .i64 0]):=by
 have l1:=gW s v;have l2:=gW u t;have l3:=qdB (s-v) (u-t);have l4:=bZ ((s-v)/(u-t)) t;refine pB4 33 Tryz.func134 fun w=>?_;refine jl fun g0=>?_;refine Bp 4 (fun g1=>?_);refine Bp 4 (fun g2=>?_);refine Bp 4 (fun g3=>?_);refine Al 12 IJ (fun g4=>?_);refine A4 ?_;refine Dq [3000000] [0,1,3,4,2,5,6,7,8,10,11,9,12] ?_;refine L4 3 0 ?_;refine L4 1 0 ?_;refine L4 2 0 ?_;refine L4 0 0 ?_;refine Pc (eQ s v) ?_;refine Pc (eQ u t) ?_;refine Pc (Bq (s-v) (u-t)) ?_;refine A2 ?_;refine Al 4 qI (fun g5=>?_);refine Ss 5 ?_;refine A1 ?_;refine aS 21 (.int .i64 0) rfl (by rw[if_neg h0]) ?_;refine A8 ?_;refine Kr 23 (.bool false) ?_;refine A6 ?_;refine Dp [] [0,1,2,5,3,4,6,7,8] ?_;refine L4 1 0 ?_;refine L4 5 0 ?_;refine L4 0 0 ?_;refine L4 5 0 ?_;refine Pc (bK ((s-v)/(u-t)) t) ?_;refine Pc (eQ v ((s-v)/(u-t)*t)) ?_;refine Pc (jC (v-(s-v)/(u-t)*t) ((s-v)/(u-t))) ?_;refine Ss 4 ?_;refine A4 ?_;refine bM rfl (bF 4 rfl rfl qie (vs:=[_,_,_,_,_,_,_,_,_,_,_,_]) rfl rfl (Nat.le_of_ble_eq_true rfl) rfl) (au rfl) (fun w hL=>⟨?_,hL.below⟩);exact rfl
def vJ(f:Qd):aJ Tryz.prog 72 #[rH f] (.int .i64 (Df f)):=by
 refine wQ 22 Tryz.func72 fun w=>?_;refine kL fun g0=>?_;refine A6 ?_;refine L4 0 0 ?_;refine A1 ?_;refine L4 0 4 ?_;refine A1 ?_;refine L4 0 8 ?_;refine(Bu [(0,_),(1,_),(2,_)]) (qin) ?_;refine Al 12 qrt (fun g1=>?_);refine Ss 1 ?_;refine A9 ?_;refine El (ι:={n:Nat // qr9 f n}) (fun⟨n,hc⟩=>([(3,bf g1),(4,.int .i64 ((n:Int)-1))],[⟨some g0,91,qjJ f,12,true⟩,⟨some g1,174,qjJ f,12,true⟩],n)) ⟨3,ae,fun h=>absurd h ae,fun h=>absurd h ae,fun h=>absurd h ae⟩ ?_;rintro⟨n,hc⟩;(try dsimp only)
 have hn3:=hc.1;rcases(show n=3∨n=2∨n=1∨n=0 by omega) with rfl|rfl|rfl|rfl
 ·refine A5 ?_;refine Kr 13 (.bool true) ?_;refine lW ?_;refine uk 8 qm1 CW rfl rfl rfl rfl ae ae Yf ?_;refine L4 1 8 ?_;refine Pc (dU f.c2) ?_;refine A3 ?_;refine Cd ?_ ?_<;>intro haQ
  ·have hs20:dD f.c2≠0:=Ic
   refine nI ?_;refine E0 ?_;rw[qn0 hs20];rfl
  ·have hs20:dD f.c2=0:=Ic
   refine A5 ?_;refine(Aq (((2:Nat):Int)-1)) Nb ?_;refine A3 ?_;exact Nl ⟨2,⟨ae,fun _=>qf8 hs20,fun h=>absurd h ae,fun h=>absurd h ae⟩⟩ (hμ:=(by show 2<3;omega)) (hL:=fF.auto)
 ·refine A5 ?_;refine Kr 13 (.bool true) ?_;refine lW ?_;refine uk 4 qm1 CW rfl rfl rfl rfl ae ae Yf ?_;refine L4 1 4 ?_;refine Pc (dU f.c1) ?_;refine A3 ?_;refine Cd ?_ ?_<;>intro haQ
  ·have hs20:dD f.c1≠0:=Ic
   refine nI ?_;refine E0 ?_;rw[qn1 (hc.2.1 ae) hs20];rfl
  ·have hs20:dD f.c1=0:=Ic
   refine A5 ?_;refine(Aq (((1:Nat):Int)-1)) Nb ?_;refine A3 ?_;exact Nl ⟨1,⟨ae,fun _=>hc.2.1 ae,fun _=>qf8 hs20,fun h=>absurd h ae⟩⟩ (hμ:=(by show 1<2;omega)) (hL:=fF.auto)
 ·refine A5 ?_;refine Kr 13 (.bool true) ?_;refine lW ?_;refine uk 0 qm1 CW rfl rfl rfl rfl ae ae Yf ?_;refine L4 1 0 ?_;refine Pc (dU f.c0) ?_;refine A3 ?_;refine Cd ?_ ?_<;>intro haQ
  ·have hs20:dD f.c0≠0:=Ic
   refine nI ?_;refine E0 ?_;rw[qn2 (hc.2.1 ae) (hc.2.2.1 ae) hs20];rfl
  ·have hs20:dD f.c0=0:=Ic
   refine A5 ?_;refine(Aq (((0:Nat):Int)-1)) Nb ?_;refine A3 ?_;exact Nl ⟨0,⟨ae,fun _=>hc.2.1 ae,fun _=>hc.2.2.1 ae,fun _=>qf8 hs20⟩⟩ (hμ:=(by show 0<1;omega)) (hL:=fF.auto)
 ·refine A5 ?_;refine Kr 13 (.bool false) ?_;refine EK ?_;refine E0 ?_;rw[qn3 (hc.2.1 ae) (hc.2.2.1 ae) (hc.2.2.2 ae)]
def Jt(f g:Qd)(z1:f.c2=0)(z2:g.c2=0)(hf:uC f<=100000:=by omega)(hg:uC g<=100000:=by omega):aJ Tryz.prog 142 #[rH f,rH g] (.tuple #[rH ⟨f.c0*g.c0,f.c0*g.c1+f.c1*g.c0,f.c0*g.c2+f.c2*g.c0+f.c1*g.c1⟩,.int .i64 0]):=by
 have f0:=Nat.le_trans (qi f) hf;have f1:=Nat.le_trans (qj f) hf;have f2:=Nat.le_trans (qM f) hf;have g0:=Nat.le_trans (qi g) hg;have g1:=Nat.le_trans (qj g) hg;have g2:=Nat.le_trans (qM g) hg;have m0:=bZ f.c0 g.c0;have m1:=bZ f.c0 g.c1;have m2:=bZ f.c1 g.c0;have m3:=bZ f.c0 g.c2;have m4:=bZ f.c2 g.c0;have m5:=bZ f.c1 g.c1;have m6:=iG (f.c0*g.c2) (f.c2*g.c0);have d1:=VX z1;have d2:=VX z2;have d3:=qal f;have d4:=qal g;refine nV 66 Tryz.func142 fun w=>?_;refine kL fun g0=>?_;refine Bp 12 (fun g1=>?_);refine Al 12 IJ (fun g2=>?_);refine A4 ?_;refine Dp [] [0,2,1,3,4,5] ?_;refine vZ 0 0 ?_;refine vZ 1 0 ?_;refine Pc (vJ f) ?_;refine Pc (vJ g) ?_;refine lW ?_;refine Rs 15 ?_ ?_<;>intro haQ
 ·refine A4 ?_;refine Rs 19 ?_ ?_<;>intro hbQ
  ·refine A2 ?_;refine(Aq (Df f+Df g)) oO ?_;refine A1 ?_;refine aS 23 (.bool false) rfl (congrArg Value.bool (decide_eq_false ae)) ?_;refine nI ?_;exact qf2
  ·refine Rh ?_;exact qf2
 ·refine A20 ?_;exact qf2
def yF(f g:Qd)(t:Rl)(hf:uC f<=10000:=by omega)(hg:uC g<=10000:=by omega)(ht:fV t<=10000:=by omega):aJ Tryz.prog 317 #[rH f,rH g,RV t] (.bool (decide (vH (ql f g) t=⟨0,0,0⟩))):=by
 have hs:=qjY hf hg;refine pB3 14 Tryz.func317 fun w=>?_;refine kL fun g0=>?_;refine Bp 12 (fun g1=>?_);refine Bp 9 (fun g2=>?_);refine A4 ?_;refine Dp [] [0,1,3,5,2,4,6,7] ?_;refine vZ 0 0 ?_;refine vZ 1 0 ?_;refine L9 2 0 ?_;refine(Bu []) (qmS) ?_;refine aS 12 (rH ⟨0,0,0⟩) rfl qf7.symm ?_;refine Pc (zJ f g) ?_;refine Pc (oP (ql f g) t) ?_;refine fP rfl rfl rfl rfl qry (qr2 _ _) ?_;refine A4 ?_;refine E0 ?_;exact rfl
def Ez(f:Qd)(t:Rl)(h0:0<=t.r:=by omega)(hf:uC f<=10000:=by omega)(ht:fV t<=10000:=by omega):aJ Tryz.prog 207 #[rH f,RV t] (.int .i64 (pF (Be f t).p (jI (Be f t)) (Be f t).r)):=by
 have l1:=Su hf ht;refine nV 9 Tryz.func207 fun w=>?_;refine kL fun g0=>?_;refine Bp 9 (fun g1=>?_);refine A5 ?_;refine vZ 0 0 ?_;refine L9 1 0 ?_;refine Pc (vI f t h0 hf ht) ?_;refine Pc (BA (Be f t)) ?_;refine A4 ?_;refine E0 ?_;exact rfl
end Go.Proofs.YtaffcpfhedadhaaGreatDoor
namespace Go.Via
open Go
def jM(i:Iv):Nat:=max (fV i.f) (fV i.t)
def jD(i:Iv):fV i.f<=jM i:=Nat.le_max_left ..
def jE(i:Iv):fV i.t<=jM i:=Nat.le_max_right ..
def tJ{i:Iv}{n:Nat}(h1:fV i.f<=n)(h2:fV i.t<=n):jM i<=n:=Nat.max_le.2 ⟨h1,h2⟩
theorem qf9{x:Rl}(h:x.r.num.sign= -1):dO x=false:=by
 unfold dO;rw[if_pos];show x.r.num.sign<0;omega
theorem Qj{x:Rl}(h:x.r.num.sign=0):dO x= !x.n:=by
 unfold dO;have h:dD x.r=0:=h;rw[if_neg ae,if_pos h]
theorem VY{x:Rl}(h1:x.r.num.sign≠ -1)(h0:x.r.num.sign≠0):dO x= !qE x.r:=by
 unfold dO;have h1:dD x.r≠ -1:=h1;have h0:dD x.r≠0:=h0;rw[if_neg (by rcases Ey x.r with e|e|e<;>omega),if_neg h0]
theorem qcv(i:Iv):lD i=decide (xB i.b i.e<0):=by
 unfold lD xB Iv.b Iv.e;dsimp only;have h:=qV i.f i.t
 by_cases h0:aV i.f i.t=0
 ·clear h;rw[h0];cases i.fo<;>cases i.tp<;>rfl
 ·rw[if_pos h0,decide_eq_false h0];simp
def Qk{a b:Iv}{n:Nat}(ha:jM a<=n)(hb:jM b<=n):fV (sK a b).1<=n:=by
 have:=jD a;have:=jD b;unfold sK;split<;>(try split)<;>dsimp only<;>omega
def Ql{a b:Iv}{n:Nat}(ha:jM a<=n)(hb:jM b<=n):fV (uZ a b).1<=n:=by
 have:=jE a;have:=jE b;unfold uZ;split<;>(try split)<;>dsimp only<;>omega
def VZ{a b:Iv}{n:Nat}(ha:jM a<=n)(hb:jM b<=n):jM (fD a b)<=n:=tJ (Qk ha hb) (Ql ha hb)
theorem qjZ{a b:Iv}(h:aV a.f b.f<0):sK a b=(b.f,b.fo):=by unfold sK;rw[if_pos h]
theorem qam{a b:Iv}(h:¬aV a.f b.f<0)(h0:aV a.f b.f=0):sK a b=(a.f,a.fo||b.fo):=by unfold sK;rw[if_neg h,if_pos h0]
theorem qj0{a b:Iv}(h:¬aV a.f b.f<0)(h0:aV a.f b.f≠0):sK a b=(a.f,a.fo):=by unfold sK;rw[if_neg h,if_neg h0]
theorem qj1{a b:Iv}(h:0<aV a.t b.t):uZ a b=(b.t,b.tp):=by unfold uZ;rw[if_pos h]
theorem qan{a b:Iv}(h:¬0<aV a.t b.t)(h0:aV a.t b.t=0):uZ a b=(a.t,a.tp||b.tp):=by unfold uZ;rw[if_neg h,if_pos h0]
theorem qj2{a b:Iv}(h:¬0<aV a.t b.t)(h0:aV a.t b.t≠0):uZ a b=(a.t,a.tp):=by unfold uZ;rw[if_neg h,if_neg h0]
def qqg:List Value:=[aT,aU,aT,aU,aT,aU,aT,aU,.bool false,aT,aU,aT,aU,aT,aU,aT,aU,.bool false,.bool false,.bool false]
end Go.Via
namespace Go.Via
open Go
structure RtG(n:Nat) where
 lo:Nat
 hi:Nat
 lx:SR (nb lo)
 hx:SR (nb hi)
 h1:lo*lo<=n
 h2:n<hi*hi
 h3:hi<=n+1
def qga(n:Nat):n<(n+1)*(n+1):=Nat.lt_of_lt_of_le (Nat.lt_succ_self n) (Nat.le_mul_of_pos_right _ ae)
def qlI{n lo hi:Nat}(h1:lo*lo<=n)(h2:n<hi*hi):lo<hi:=XE (Nat.lt_of_le_of_lt h1 h2)
def qn5{n lo hi:Nat}(h1:lo*lo<=n)(h2:n<hi*hi)(h:¬lo+1<hi):bV n=lo:=by
 have h0:=qlI h1 h2;have:hi=lo+1:=ae;subst this;exact Ei h1 h2
theorem qn6:D8 2=[2]:=Aa ae ae ae
theorem SA:nb 2=1:=by have h1:=nP (n:=2) (k:=1) ae;have h2:=Ea (u:=2) ae;omega
theorem qj3{a r:Rat}{u:Int}(h:dD a=0):jK a u r=u*dD r:=by unfold jK;rw[if_pos h]
theorem qao{a r:Rat}{u:Int}(h:dD a≠0)(h2:u*dD r=0∨dD a=u*dD r):jK a u r=dD a:=by unfold jK;rw[if_neg h,if_pos h2]
theorem qj4{a r:Rat}{u:Int}(h:dD a≠0)(h2:u*dD r≠0)(h3:dD a≠u*dD r):jK a u r=dD a*mP (a*a) r:=by unfold jK;rw[if_neg h,if_neg (by rintro(e|e);exact h2 e;exact h3 e)]
theorem m3{a b:Int}(ha:a= -1∨a=0∨a=1)(hb:b= -1∨b=0∨b=1):a*b= -1∨a*b=0∨a*b=1:=by
 rcases ha with rfl|rfl|rfl<;>rcases hb with rfl|rfl|rfl<;>simp
def qgb(a r:Rat){u:Int}(hu:u= -1∨u=0∨u=1):jK a u r= -1∨jK a u r=0∨jK a u r=1:=by
 unfold jK
 split
 ·exact m3 hu (Ey r)
 ·split
  ·exact Ey a
  ·exact m3 (Ey a) (qfY _ _)
section
variable{a r s:Rat}{u v:Int}
theorem qap(h:jK a u r≠v*dD s∨jK a u r=0)(h2:v*dD s<jK a u r):OC a u r v s=1:=by unfold OC;rw[if_pos h,if_pos h2]
theorem qaq(h:jK a u r≠v*dD s∨jK a u r=0)(h2:¬v*dD s<jK a u r):OC a u r v s=jK a u r-v*dD s:=by unfold OC;rw[if_pos h,if_neg h2]
theorem qj5(h:¬jK a u r≠v*dD s)(h2:¬jK a u r=0):OC a u r v s=jK a u r*jK (a*a+r-s) (u*dD a) (4*(a*a*r)):=by
 unfold OC;rw[if_neg (by rintro(e|e);exact h e;exact h2 e)]
end
def qgc(x:Rl):ni x= -1∨ni x=0∨ni x=1:=by unfold ni;split<;>simp
def qgd:bY 4<=2:=lh (z:=4) ae ae
def qqh:Rat.divInt 2 1=2:=eX
def qsa:Rat.divInt 4 1=4:=eX
theorem qn7{f:Qd}{t:Rl}(h:dD t.r=0):lQ f t=⟨sG f t.p,0,0⟩:=by unfold lQ;rw[if_pos h]
theorem qn8{f:Qd}{t:Rl}(h:dD t.r≠0):lQ f t=⟨f.c0+f.c2*(t.r-t.p*t.p),f.c1+2*(t.p*f.c2),0⟩:=by unfold lQ;rw[if_neg h]
def qge{f:Qd}{t:Rl}{m n:Nat}(hf:uC f<=m)(ht:fV t<=n):uC (lQ f t)<=3*m+4*n+6:=by
 have e0:=Nat.le_trans (qi f) hf;have e1:=Nat.le_trans (qj f) hf;have e2:=Nat.le_trans (qM f) hf;have t1:=Nat.le_trans (qg t) ht;have t2:=Nat.le_trans (wX t) ht;have z0:=vz;unfold lQ
 split
 ·have h1:=xU f t.p;refine Ie ?_ ?_ ?_<;>dsimp only<;>omega
 ·have l1:=bZ t.p t.p;have l2:=gW t.r (t.p*t.p);have l3:=bZ f.c2 (t.r-t.p*t.p);have l4:=iG f.c0 (f.c2*(t.r-t.p*t.p));have l5:=bZ t.p f.c2;have l6:=bZ 2 (t.p*f.c2);have l7:=iG f.c1 (2*(t.p*f.c2));have l8:=Gq;refine Ie ?_ ?_ ?_<;>dsimp only<;>omega
def jP(f:Ln):Nat:=max (max (bY f.x0) (bY f.x1)) (max (bY f.y0) (bY f.y1))
def rO(f:Ln):bY f.x0<=jP f:=RZ
def rP(f:Ln):bY f.x1<=jP f:=RZ
def rQ(f:Ln):bY f.y0<=jP f:=RZ
def rU(f:Ln):bY f.y1<=jP f:=RZ
def SC{f g:Ln}{n:Nat}(hf:jP f<=n)(hg:jP g<=n):uC (d2 f g)<=8*n+20:=by
 have a0:=Nat.le_trans (rO f) hf;have a1:=Nat.le_trans (rP f) hf;have a2:=Nat.le_trans (rQ f) hf;have a3:=Nat.le_trans (rU f) hf;have b0:=Nat.le_trans (rO g) hg;have b1:=Nat.le_trans (rP g) hg;have b2:=Nat.le_trans (rQ g) hg;have b3:=Nat.le_trans (rU g) hg;have s0:=gW f.x0 g.x0;have s1:=gW f.x1 g.x1;have s2:=gW f.y0 g.y0;have s3:=gW f.y1 g.y1;have z:=Gq;unfold d2;refine Ie ?_ ?_ ?_<;>dsimp only
 ·have:=iG ((f.x0-g.x0)*(f.x0-g.x0)) ((f.y0-g.y0)*(f.y0-g.y0));have:=bZ (f.x0-g.x0) (f.x0-g.x0);have:=bZ (f.y0-g.y0) (f.y0-g.y0);omega
 ·have:=bZ 2 ((f.x0-g.x0)*(f.x1-g.x1)+(f.y0-g.y0)*(f.y1-g.y1));have:=iG ((f.x0-g.x0)*(f.x1-g.x1)) ((f.y0-g.y0)*(f.y1-g.y1));have:=bZ (f.x0-g.x0) (f.x1-g.x1);have:=bZ (f.y0-g.y0) (f.y1-g.y1);omega
 ·have:=iG ((f.x1-g.x1)*(f.x1-g.x1)) ((f.y1-g.y1)*(f.y1-g.y1));have:=bZ (f.x1-g.x1) (f.x1-g.x1);have:=bZ (f.y1-g.y1) (f.y1-g.y1);omega
def V3{m n:Nat}(h:(mO m n !=0)=true):m≠n:=fun e=>by subst e;unfold mO at h;simp at h
def V4{m n:Nat}(h:(mO m n !=0)=false):m=n:=by
 unfold mO at h
 by_cases h1:m<n
 ·simp[h1] at h
 ·by_cases h2:n<m
  ·simp[h1,h2] at h
  ·omega
theorem qqi{q:Rat}(h:decide (q.num<0)=true):qE q=false:=by
 have:=of_decide_eq_true h;unfold qE;rw[decide_eq_false ae];rfl
theorem qqj{q:Rat}(h:bV q.num.natAbs*bV q.num.natAbs≠q.num.natAbs):qE q=false:=by
 unfold qE;rw[beq_eq_false_iff_ne.2 h];simp
theorem qqk{q:Rat}(h:bV q.den*bV q.den≠q.den):qE q=false:=by
 unfold qE;rw[beq_eq_false_iff_ne.2 h];simp
theorem qql{q:Rat}(h:decide (q.num<0)=false)(h1:bV q.num.natAbs*bV q.num.natAbs=q.num.natAbs)(h2:bV q.den*bV q.den=q.den):qE q=true:=by
 have:=of_decide_eq_false h;unfold qE;rw[h1,h2,decide_eq_true ae];simp
def qcw(q:Rat)(h:bV q.den*bV q.den=q.den):0<bV q.den:=by
 have:=q.den_nz;exact Nat.pos_of_ne_zero fun e=>by rw[e] at h;omega
end Go.Via
namespace Go.Proofs.YtaffcpfhedadhaaGreatDoor
open Go Go.Via
end Go.Proofs.YtaffcpfhedadhaaGreatDoor
namespace Go.Via
open Go
def Qm(out:List Iv)(t:Rl)(tp:Bool):List Iv:=match out.getLast? with
 |some i=>out.dropLast++[⟨i.f,t,i.fo,tp⟩]
 |none=>out
def kD(out:List Iv)(op h:Bool)(t:Rl):List Iv:=if op=true then Qm out t (!h) else if h=true then out++[⟨t,t,false,false⟩] else out
def qG(here:Rl->Bool)(btw:Rl->Rl->Bool):List Rl->List Iv->Bool->List Iv
 |[],out,_=>out
 |[t],out,op=>kD out op (here t) t
 |t::u::ts,out,op=>qG here btw (u::ts) (if btw t u=true∧here t=false then kD out op (here t) t++[⟨t,u,true,true⟩] else kD out op (here t) t) (btw t u)
theorem vK(out:List Iv)(i:Iv)(t:Rl)(tp:Bool):Qm (out++[i]) t tp=out++[⟨i.f,t,i.fo,tp⟩]:=by
 unfold Qm;rw[List.getLast?_append];simp
theorem ut{here:Rl->Bool}{btw:Rl->Rl->Bool}:∀{ts:List Rl} {out:List Iv},(qG here btw ts out false=out++(PN here btw none ts).map fun p=>Oj p.1 p.2)∧∀i:Iv,ts≠[]->qG here btw ts (out++[i]) true=out++(PN here btw (some i.b) ts).map fun p=>Oj p.1 p.2
 |[],out=>by
  refine⟨by simp[qG,PN],fun i h=>absurd rfl h⟩
 |[t],out=>by
  refine⟨?_,fun i _=>?_⟩
  ·unfold qG PN kD;cases here t<;>simp[Oj]
  ·unfold qG PN kD;rw[if_pos rfl,vK];simp[Oj,Iv.b]
 |t::u::ts,out=>by
  refine⟨?_,fun i _=>?_⟩
  ·unfold qG PN kD;cases hh:here t<;>cases hb:btw t u<;>simp only[Bool.false_eq_true,if_false,if_true,and_true,and_false,true_and,false_and,reduceIte]
   ·exact(ut (ts:=u::ts) (out:=out)).1
   ·exact(ut (ts:=u::ts) (out:=out)).2 ⟨t,u,true,true⟩ bz
   ·rw[(ut (ts:=u::ts) (out:=out++[_])).1];simp[Oj]
   ·exact(ut (ts:=u::ts) (out:=out)).2 ⟨t,t,false,false⟩ bz
  ·unfold qG PN kD;rw[if_pos rfl,vK];cases hh:here t<;>cases hb:btw t u<;>simp only[Bool.false_eq_true,if_false,if_true,and_true,and_false,true_and,false_and,reduceIte]
   ·rw[(ut (ts:=u::ts) (out:=out++[_])).1];simp[Oj,Iv.b]
   ·rw[(ut (ts:=u::ts) (out:=out++[_])).2 ⟨t,u,true,true⟩ bz];simp[Oj,Iv.b]
   ·rw[(ut (ts:=u::ts) (out:=out++[_])).1];simp[Oj,Iv.b]
   ·exact(ut (ts:=u::ts) (out:=out)).2 ⟨i.f,t,i.fo,false⟩ bz
def iW.setf{α:Type}{c:α->List Value}{k:Nat}(h:iW α c k){l:List α}{i:Nat}{x y:α}{v:List Value}{o n:Nat}(hx:l[i]? =some x)(hy:(c x).take o++v++(c x).drop (o+n)=c y)(hn:o+n<=k):
 (aj c l).take (i*k+o)++v++(aj c l).drop (i*k+o+n)=aj c (l.set i y):=by
 have hi:i<l.length:=(List.getElem?_eq_some_iff.1 hx).1;have e1:(aj c l).take (i*k+o)=(aj c l).take (i*k)++(c x).take o:=by
  rw[List.take_add,<-h.get hx,List.take_take,Nat.min_eq_left ae]
 have e2:(aj c l).drop (i*k+o+n)=(c x).drop (o+n)++(aj c l).drop (i*k+k):=by
  have e3:(aj c l).drop (i*k)=c x++(aj c l).drop (i*k+k):=by
   rw[<-h.get hx,<-List.drop_drop];exact(List.take_append_drop k _).symm
  rw[Nat.add_assoc,<-List.drop_drop,e3,List.drop_append_of_le_length (by rw[h.len];exact hn)]
 rw[e1,e2,<-h.set y hi,<-hy];simp
theorem Qn{out:List Iv}{i:Iv}(h:out[out.length-1]? =some i)(t:Rl)(tp:Bool):Qm out t tp=out.set (out.length-1) ⟨i.f,t,i.fo,tp⟩:=by
 have hne:out≠[]:=fun e=>by subst e;simp at h
 obtain⟨l,j,rfl⟩:∃l j,out=l++[j]:=⟨out.dropLast,out.getLast hne,(List.dropLast_concat_getLast hne).symm⟩;simp at h;subst h;rw[vK];simp
def zW(op:Int)(a b:Bool):Bool:=if op=1 then a||b else if op=2 then a&&b else a&& !b
end Go.Via
namespace Go.Via
theorem BB{α:Type}{l:List α}{i:Nat}{x:α}{p:α->Bool}(hx:l[i]? =some x):(l.drop i).any p=(p x||(l.drop (i+1)).any p):=by
 have:l.drop i=x::l.drop (i+1):=by
  obtain⟨hlt,e⟩:=List.getElem?_eq_some_iff.1 hx;rw[List.drop_eq_getElem_cons hlt,e]
 rw[this,List.any_cons]
end Go.Via
namespace Go.Via
theorem SE{x:Rl}:∀{l:List Rl} {k:Nat},k<=l.length->(∀j y,j<k->l[j]? =some y->aV y x<0)->(∀y,l[k]? =some y->¬aV y x<0∧aV y x≠0)->sQ x l=l.take k++x::l.drop k
 |[],k,hk,_,_=>by simp at hk;subst hk;rfl
 |y::l,0,_,_,h=>by
  have:=h y rfl;unfold sQ;rw[if_neg this.1,if_neg this.2];rfl
 |y::l,k+1,hk,hall,h=>by
  have h0:=hall 0 y ae rfl;unfold sQ;rw[if_pos h0,SE (by simpa using hk) (fun j z hj hz=>hall (j+1) z ae Zq) (fun z hz=>h z Zq)]
  rfl
theorem qar{x:Rl}:∀{l:List Rl} {k:Nat} {y:Rl},l[k]? =some y->(∀j y,j<k->l[j]? =some y->aV y x<0)->¬aV y x<0->aV y x=0->sQ x l=l
 |[],k,y,hy,_,_,_=>by simp at hy
 |z::l,0,y,hy,_,h1,h2=>by
  simp at hy;subst hy;unfold sQ;rw[if_neg h1,if_pos h2]
 |z::l,k+1,y,hy,hall,h1,h2=>by
  unfold sQ;rw[if_pos (hall 0 z ae rfl),qar (l:=l) (k:=k) (by simpa using hy) (fun j w hj hw=>hall (j+1) w ae (by simpa using hw)) h1 h2]
theorem V5{l:List Rl}{i:Nat}{x:Rl}(hx:l[i]? =some x):fB (l.take (i+1))=sQ x (fB (l.take i)):=by
 rw[<-fO hx];unfold fB;rw[List.foldl_append];rfl
def V6(x:Rl):∀l:List Rl,(sQ x l).length<=l.length+1
 |[]=>by simp[sQ]
 |y::l=>by
  have:=V6 x l;unfold sQ;split
  ·simp;omega
  ·split<;>simp
def SG(l:List Rl):(fB l).length<=l.length:=by
 have:∀(l o:List Rl),(l.foldl (fun o x=>sQ x o) o).length<=o.length+l.length:=by
  intro l
  induction l with
  |nil=>intro o;simp
  |cons x l ih=>intro o;rw[List.foldl_cons];have:=ih (sQ x o);have:=V6 x o;simp;omega
 have:=this l [];unfold fB;simpa using this
def V7{p:Rl->Prop}{x:Rl}(hx:p x):∀{l:List Rl},(∀y∈l,p y)->∀y∈sQ x l,p y
 |[],_,y,hy=>by simp[sQ] at hy;rw[hy];exact hx
 |z::l,h,y,hy=>by
  unfold sQ at hy
  split at hy
  ·rcases List.mem_cons.1 hy with e|e
   ·rw[e];exact h z (List.mem_cons_self ..)
   ·exact V7 hx (fun w hw=>h w (List.mem_cons_of_mem _ hw)) y e
  ·split at hy
   ·exact h y hy
   ·rcases List.mem_cons.1 hy with e|e
    ·rw[e];exact hx
    ·exact h y e
def qas{p:Rl->Prop}{l:List Rl}(h:∀y∈l,p y):∀y∈fB l,p y:=by
 have:∀(l o:List Rl),(∀y∈l,p y)->(∀y∈o,p y)->∀y∈l.foldl (fun o x=>sQ x o) o,p y:=by
  intro l
  induction l with
  |nil=>intro o _ ho;exact ho
  |cons x l ih=>intro o hl ho;rw[List.foldl_cons];exact ih _ (fun y hy=>hl y (List.mem_cons_of_mem _ hy)) (V7 (hl x (List.mem_cons_self ..)) ho)
 exact this l [] h bz
section
variable{α:Type}{c:α->List Value}{k:Nat}
theorem iW.takeR(h:iW α c k):∀(l:List α) (n:Nat),(aj c l).take (n*k)=aj c (l.take n)
 |[],n=>by simp[aj]
 |x::l,0=>by simp[aj]
 |x::l,n+1=>by
  have e:(n+1)*k=(c x).length+n*k:=RI;rw[gU,e,List.take_length_add_append,List.take_succ_cons,gU,iW.takeR h l n]
theorem iW.dropR(h:iW α c k):∀(l:List α) (n:Nat),(aj c l).drop (n*k)=aj c (l.drop n)
 |[],n=>by simp[aj]
 |x::l,0=>by simp
 |x::l,n+1=>by
  have e:(n+1)*k=(c x).length+n*k:=RI;rw[gU,e,List.drop_length_add_append,List.drop_succ_cons,iW.dropR h l n]
theorem iW.lenTake(h:iW α c k){l:List α}{n:Nat}(hn:n<=l.length):(aj c (l.take n)).length=n*k:=by rw[h.length,List.length_take,Nat.min_eq_left hn]
theorem iW.lenDrop(h:iW α c k)(l:List α)(n:Nat):(aj c (l.drop n)).length=(l.length-n)*k:=by rw[h.length,List.length_drop]
def iW.dropT(h:iW α c k){l:List α}{n cap:Nat}(hc:l.length<=cap)(hn:n<=l.length):((aj c l).drop (if cap=n then 0 else n*k)).take ((l.length-n)*k)=aj c (l.drop n):=by
 by_cases e:cap=n
 ·have:l.length-n=0:=ae
  rw[if_pos e,this,Nat.zero_mul,List.take_zero,List.drop_of_length_le ae];rfl
 ·rw[if_neg e,h.dropR,List.take_of_length_le];rw[h.lenDrop];exact Nat.le_refl _
end
end Go.Via
namespace Go.Via
theorem vM:∀l:List Iv,(cu l).length=2*l.length
 |[]=>rfl
 |i::l=>by show(i.f::i.t::cu l).length=_;rw[List.length_cons,List.length_cons,vM l,List.length_cons];omega
def qat{l:List Iv}{n:Nat}(h:∀x∈l,jM x<=n):∀y∈cu l,fV y<=n:=fun y hy=>by
 obtain⟨i,hi,he⟩:=List.mem_flatMap.1 hy;have:=h i hi;simp at he;rcases he with rfl|rfl
 ·exact Nat.le_trans (jD i) this
 ·exact Nat.le_trans (jE i) this
def sV{α:Type}{c:α->List Value}{k:Nat}(h:iW α c k)(hk:0<k){l:List α}{b:Option Nat}(hb:b=none->aj c l=[]):l.length=0∨∃g,b=some g:=by
 by_cases e:l.length=0
 ·exact .inl e
 ·right
  cases b with
  |some g=>exact⟨g,rfl⟩
  |none=>exact absurd (hb rfl) (h.ne hk ae)
end Go.Via
namespace Go.Via
open Go
theorem zu{α:Type}{l:List α}{i:Nat}{x:α}(hx:l[i]? =some x):l.drop i=x::l.drop (i+1):=by
 obtain⟨hlt,e⟩:=List.getElem?_eq_some_iff.1 hx;rw[List.drop_eq_getElem_cons hlt,e]
theorem SH(op:Bool->Bool->Bool)(a b:List Iv):jV op a b=qG (fun t=>op (nT a t) (nT b t)) (fun t u=>op (nU a t u) (nU b t u)) (fB (cu (a++b))) [] false:=by
 rw[ut.1];rfl
section
variable{here:Rl->Bool}{btw:Rl->Rl->Bool}{E:List Rl}{i:Nat}{t u:Rl}{out o1:List Iv}{og h w:Bool}
def qcx(ht:E[i]? =some t)(he:i+1=E.length)(hh:here t=h):kD out og h t=qG here btw (E.drop i) out og:=by
 rw[zu ht,List.drop_of_length_le ae];unfold qG;rw[hh]
theorem Ig(ht:E[i]? =some t)(hu:E[i+1]? =some u)(hh:here t=h)(hw:btw t u=w):
 qG here btw (E.drop i) out og=qG here btw (E.drop (i+1)) (if w=true∧h=false then kD out og h t++[⟨t,u,true,true⟩] else kD out og h t) w:=by
 rw[zu ht,zu hu];rw[qG,hh,hw]
def qgf(ht:E[i]? =some t)(hu:E[i+1]? =some u)(hh:here t=h)(hw:btw t u=w)(h1:w=true)(h2:h=false)(ho:o1=kD out og h t):
 qG here btw (E.drop i) out og=qG here btw (E.drop (i+1)) (o1++[⟨t,u,true,true⟩]) true:=by
 rw[Ig ht hu hh hw,if_pos ⟨h1,h2⟩,ho,h1]
def qj6(ht:E[i]? =some t)(hu:E[i+1]? =some u)(hh:here t=h)(hw:btw t u=w)(h1:w=true)(h2:h=true)(ho:o1=kD out og h t):
 qG here btw (E.drop i) out og=qG here btw (E.drop (i+1)) o1 true:=by
 rw[Ig ht hu hh hw,if_neg (by rw[h2];simp),ho,h1]
def qj7(ht:E[i]? =some t)(hu:E[i+1]? =some u)(hh:here t=h)(hw:btw t u=w)(h1:w=false)(ho:o1=kD out og h t):
 qG here btw (E.drop i) out og=qG here btw (E.drop (i+1)) o1 false:=by
 rw[Ig ht hu hh hw,if_neg (by rw[h1];simp),ho,h1]
end
theorem qj8{out:List Iv}{og h:Bool}{t:Rl}{j:Iv}(h0:og=true)(h1:h=true)(hj:out[out.length-1]? =some j):kD out og h t=out.set (out.length-1) ⟨j.f,t,j.fo,false⟩:=by
 subst h0;subst h1;unfold kD;rw[if_pos rfl,Qn hj];rfl
theorem qj9{out:List Iv}{og h:Bool}{t:Rl}{j:Iv}(h0:og=true)(h1:h=false)(hj:out[out.length-1]? =some j):kD out og h t=out.set (out.length-1) ⟨j.f,t,j.fo,true⟩:=by
 subst h0;subst h1;unfold kD;rw[if_pos rfl,Qn hj];rfl
theorem qka{out:List Iv}{og h:Bool}{t:Rl}(h0:og=false)(h1:h=true):kD out og h t=out++[⟨t,t,false,false⟩]:=by subst h0;subst h1;rfl
theorem qkb{out:List Iv}{og h:Bool}{t:Rl}(h0:og=false)(h1:h=false):kD out og h t=out:=by subst h0;subst h1;rfl
def qgg(out:List Iv)(og:Bool)(t:Rl):og=true∧out=[]∨0<(kD out og true t).length:=by
 cases og
 ·right;simp[kD]
 ·by_cases h:out=[]
  ·exact .inl ⟨rfl,h⟩
  ·right
   obtain⟨l,j,rfl⟩:∃l j,out=l++[j]:=⟨out.dropLast,out.getLast h,(List.dropLast_concat_getLast h).symm⟩;unfold kD;rw[if_pos rfl,vK];simp
end Go.Via
namespace Go.Proofs.YtaffcpfhedadhaaGreatDoor
open Go Go.RowKit Go.Via
def Gt(n:Nat)(hn:nb n<=100000000)(x:SR (nb n)):cZ Tryz.prog 162 [⟨x.b,3,NV .i64 (D8 (n)),x.n,false⟩] [x.v] (SR (nb (bV n))) SR.v (fun z=>[⟨z.b,3,NV .i64 (D8 (bV n)),z.n,true⟩]):=by
 refine PR 34 Tryz.func162 fun w hL0=>?_;refine A7 ?_;refine(Bl 0 []) (qiq) (fun g0=>?_);refine A1 ?_;refine(Bl 1 [(0,_)]) (pK) (fun g1=>?_);refine jG [_,SR.v (len:=nb 1) ⟨some g1,1,1,Si⟩] [0,2] rfl rfl (by show _=[some _,some (aA (some g1) 0 (nb 1) 1)];rw[uO];rfl) (kZ n 1 ae (by rw[uO];omega) x ⟨some g1,1,1,Si⟩) ⟨pS,⟨_,rfl,by rw[Xz];exact su⟩,trivial⟩ rfl (.inr fun x b hb=>zq) (fun zp=>?_);refine A6 ?_;refine El (ι:=RtG n) (fun⟨lo,hi,lx,hx,h1,h2,h3⟩=>([(0,x.v),(3,lx.v),(4,hx.v)],[⟨x.b,3,NV .i64 (D8 (n)),x.n,false⟩,⟨lx.b,3,NV .i64 (D8 (lo)),lx.n,true⟩,⟨hx.b,3,NV .i64 (D8 (hi)),hx.n,true⟩],hi-lo)) ⟨0,n+1,⟨some g0,0,0,by rw[kT];exact Nat.le_refl _⟩,zp,Nat.zero_le _,qga n,Nat.le_refl _⟩ ?_ (ht:=⟨rfl,(aQ rfl (by show aA (some g0) 0 0 0=aA (some g0) 0 (nb 0) 0;rw[kT])),rfl,trivial⟩) (hL:=(az [some 0,some 1,some 3] ⟨pR,⟨_,rfl,by rw[Rz];exact aH.le_refl _⟩,pR,trivial⟩ rfl rfl));rintro⟨lo,hi,lx,hx,h1,h2,h3⟩;(try dsimp only);have hlo:=qlI h1 h2;have b1:nb lo<=nb n+1:=Nat.le_trans (gG (show lo<=n by omega)) ae;have b2:nb hi<=nb n+2:=Nat.le_trans (gG h3) (by have:=Ac n 1;rw[uO] at this;omega);have b3:=Ac lo hi;have b4:=Ac lo 1;have b5:=uO;have b6:=DZ (lo+hi) 2;have b7:=oK ((lo+hi)/2) ((lo+hi)/2);refine A4 ?_;refine(Bl 1 [(0,_)]) (pK) (fun g2=>?_);refine jG [_,SR.v (len:=nb 1) ⟨some g2,1,1,Si⟩] [1,3] rfl rfl (by show _=[some _,some (aA (some g2) 0 (nb 1) 1)];rw[uO];rfl) (kZ lo 1 ae (by rw[uO];omega) lx ⟨some g2,1,1,Si⟩) ⟨pS,⟨_,rfl,by rw[Xz];exact su⟩,trivial⟩ rfl (.inr fun x b hb=>zq) (fun z1=>?_);refine A1 ?_;refine(Sd [4,2]) (eH (lo+1) hi ae z1 hx) ?_;refine A3 ?_;refine Cd ?_ ?_<;>intro haQ
 ·have hlt:lo+1<hi:=PG haQ;refine A7 ?_;refine(Sc [1,2]) (kZ lo hi ae ae lx hx) (fun zs=>?_);refine(Bl 1 [(0,_)]) (pK) (fun g3=>?_);refine jG [_,SR.v (len:=nb 2) ⟨some g3,1,1,by rw[SA];exact Nat.le_refl _⟩] [5,6] rfl rfl (by show _=[some _,some (aA (some g3) 0 (nb 2) 1)];rw[SA];rfl) (qf (lo+hi) 2 ae ae (by rw[SA];omega) zs ⟨some g3,1,1,by rw[SA];exact Nat.le_refl _⟩) ⟨pS,⟨_,rfl,by rw[qn6];exact su⟩,trivial⟩ rfl (.inr LY) (fun zd0=>?_);obtain⟨zd,rfl⟩:∃z,zd0=Sum.inl z:=by cases zd0 with|inl z=>exact⟨z,rfl⟩|inr h=>exact absurd h.down ae
  refine qC ?_;refine(Sc [7,7]) (jh ((lo+hi)/2) ((lo+hi)/2) ae ae zd.1 zd.1) (fun zt=>?_);refine A1 ?_;refine(Sd [9,0]) (eH ((lo+hi)/2*((lo+hi)/2)) n ae zt x) ?_;refine A3 ?_;refine Cd ?_ ?_<;>intro hbQ
  ·have hc:(lo+hi)/2*((lo+hi)/2)<=n:=wP.1 (of_decide_eq_true hbQ);refine A6 ?_;exact Nl ⟨(lo+hi)/2,hi,zd.1,hx,hc,h2,h3⟩ (hμ:=(by show hi-(lo+hi)/2<hi-lo;omega)) (hL:=(wM [some 0,some 7,some 2]))
  ·have hc:n<(lo+hi)/2*((lo+hi)/2):=Nat.lt_of_not_le fun e=>of_decide_eq_false hbQ (wP.2 e)
   refine A6 ?_;exact Nl ⟨lo,(lo+hi)/2,lx,zd.1,h1,hc,ae⟩ (hμ:=(by show(lo+hi)/2-lo<hi-lo;omega)) (hL:=(wM [some 0,some 1,some 7]))
 ·have hge:¬lo+1<hi:=Nat.not_lt.2 (LP haQ);have he:=qn5 h1 h2 hge;obtain rfl:=he;refine nI ?_;refine aO rfl (au rfl) (fun w hL=>⟨lx,?_,hL.pk [some 1]⟩);exact rfl
def Gu(q:Rat)(hq:bY q<=4194303:=by omega):aJ Tryz.prog 112 #[Q q] (.tuple #[Q (if qE q=true then fQ q else 0),.bool (qE q)]):=by
 have e1:=KF hq;have e2:=KG hq;have r1:=oH q.num.natAbs;have r2:=oH q.den;have m1:=oK (bV q.num.natAbs) (bV q.num.natAbs);have m2:=oK (bV q.den) (bV q.den);refine wQ 40 Tryz.func112 fun w=>?_;refine jl fun g0=>?_;refine Al 4 qI (fun g1=>?_);refine A5 ?_;refine L4 0 0 ?_;refine jG [_] [] rfl rfl rfl (vk q (Nat.le_trans hq (Nat.le_of_ble_eq_true rfl))) trivial rfl (.inr qe6) (fun y=>?_);refine Al 3 qbn (fun g2=>?_);refine Ss 4 ?_;refine A3 ?_;refine Dp [] [0,1,3,4,2,5,6,7] ?_;refine A4 ?_;refine(Sc [2]) (Gt (q.num.natAbs) ae y.1) (fun zn=>?_);refine(Sc [3]) (Gt (q.den) ae y.2) (fun zd=>?_);refine A6 ?_;refine Dp [] [0,1,2,3,4,6,7,5,8,9,10,11,12,13,15,16,14,17,18,19] ?_ (hc:=(oL [0,1,3,7,7,31,7,71,255,511,1023,2047,4095,4095,16383,4095,36863,131071,262143,524287] ak));refine A3 ?_;refine Rs 17 ?_ ?_<;>intro haQ
 ·have hs17:decide (q.num<0)=true:=haQ;refine A22 ?_;refine(Bu []) (yT) ?_;refine aS 35 (Q 0) rfl yQ.symm ?_;refine Ss 1 ?_;refine A5 ?_;refine bM rfl (bF 1 rfl rfl CW (vs:=[_,_,_,_]) rfl rfl (Nat.le_of_ble_eq_true rfl) rfl) (au rfl) (fun w hL=>⟨?_,hL.below⟩);rw[qqi hs17,if_neg ax];rfl
 ·have hs17:decide (q.num<0)=false:=haQ;refine A4 ?_;refine(Sc [5,5]) (jh (bV q.num.natAbs) (bV q.num.natAbs) ae ae zn zn) (fun tn=>?_);refine(Sd [7,2]) (eH (bV q.num.natAbs*bV q.num.natAbs) q.num.natAbs ae tn y.1) ?_;refine A3 ?_;refine Rs 26 ?_ ?_<;>intro hbQ
  ·have hs24:bV q.num.natAbs*bV q.num.natAbs≠q.num.natAbs:=V3 hbQ;refine FN ?_;refine(Bu []) (yT) ?_;refine aS 35 (Q 0) rfl yQ.symm ?_;refine Ss 1 ?_;refine A5 ?_;refine bM rfl (bF 1 rfl rfl CW (vs:=[_,_,_,_]) rfl rfl (Nat.le_of_ble_eq_true rfl) rfl) (au rfl) (fun w hL=>⟨?_,hL.below⟩);rw[qqj hs24,if_neg ax];rfl
  ·have hs24:bV q.num.natAbs*bV q.num.natAbs=q.num.natAbs:=V4 hbQ;refine A4 ?_;refine(Sc [6,6]) (jh (bV q.den) (bV q.den) ae ae zd zd) (fun td=>?_);refine(Sd [8,3]) (eH (bV q.den*bV q.den) q.den ae td y.2) ?_;refine A4 ?_;refine Cd ?_ ?_<;>intro hcQ
   ·have hs33:bV q.den*bV q.den≠q.den:=V3 hcQ;refine A2 ?_;refine(Bu []) (yT) ?_;refine aS 35 (Q 0) rfl yQ.symm ?_;refine Ss 1 ?_;refine A5 ?_;refine bM rfl (bF 1 rfl rfl CW (vs:=[_,_,_,_]) rfl rfl (Nat.le_of_ble_eq_true rfl) rfl) (au rfl) (fun w hL=>⟨?_,hL.below⟩);rw[qqk hs33,if_neg ax];rfl
   ·have hs33:bV q.den*bV q.den=q.den:=V4 hcQ;refine A6 ?_;refine(Bu [(0,_),(1,_),(2,_)]) (wI) ?_;refine(Sd [5,6]) (iL (bV q.num.natAbs) (bV q.den) false (qcw q hs33) ae ae zn zd) ?_;refine Ss 1 ?_;refine A4 ?_;refine bM rfl (bF 1 rfl rfl CW (vs:=[_,_,_,_]) rfl rfl (Nat.le_of_ble_eq_true rfl) rfl) (au rfl) (fun w hL=>⟨?_,hL.below⟩);rw[qql hs17 hs24 hs33,if_pos rfl];rfl
def SI(f:Qd)(t:Rat)(hf:uC f<=500000:=by omega)(ht:bY t<=500000:=by omega):aJ Tryz.prog 80 #[rH f,Q t] (Q (sG f t)):=by
 have f0:=Nat.le_trans (qi f) hf;have f1:=Nat.le_trans (qj f) hf;have f2:=Nat.le_trans (qM f) hf;have l1:=bZ t f.c2;have l2:=iG f.c1 (t*f.c2);have l3:=bZ t (f.c1+t*f.c2);refine nV 17 Tryz.func80 fun w=>?_;refine kL fun g0=>?_;refine Bp 4 (fun g1=>?_);refine Al 4 qI (fun g2=>?_);refine A3 ?_;refine Di [] ?_;refine A1 ?_;refine jc ?_;refine A1 ?_;refine L4 0 4 ?_;refine L4 1 0 ?_;refine A1 ?_;refine L4 0 8 ?_;refine Pc (dG t f.c2) ?_;refine Pc (fJ f.c1 (t*f.c2)) ?_;refine Pc (dG t (f.c1+t*f.c2)) ?_;refine Pc (fJ f.c0 (t*(f.c1+t*f.c2))) ?_;refine dW ?_;refine IV 2 ?_;exact rfl
def Nh(f:Qd)(t:Rl)(hf:uC f<=100000:=by omega)(ht:fV t<=100000:=by omega):aJ Tryz.prog 99 #[rH f,RV t] (rH (lQ f t)):=by
 have f0:=Nat.le_trans (qi f) hf;have f1:=Nat.le_trans (qj f) hf;have f2:=Nat.le_trans (qM f) hf;have t1:=Nat.le_trans (qg t) ht;have t2:=Nat.le_trans (wX t) ht;have l1:=bZ t.p t.p;have l2:=gW t.r (t.p*t.p);have l3:=bZ f.c2 (t.r-t.p*t.p);have l4:=bZ t.p f.c2;have l5:=bZ 2 (t.p*f.c2);have l6:=Gq;refine nV 41 Tryz.func99 fun w=>?_;refine kL fun g0=>?_;refine Bp 9 (fun g1=>?_);refine Al 12 IJ (fun g2=>?_);refine A6 ?_;refine L4 1 4 ?_;refine Pc (lg t.r) ?_;refine A3 ?_;refine Cd ?_ ?_<;>intro haQ
 ·have hs9:=eq_of_beq haQ;refine A2 ?_;refine vZ 0 0 ?_;refine A1 ?_;refine L4 1 0 ?_;refine Pc (SI f t.p) ?_;refine(Bu [(0,_)]) (qdT) ?_;refine Ss 2 ?_;refine A4 ?_;refine Md 2 ?_;rw[qn7 hs9,Qi]
 ·have hs9:=ne_of_beq_false haQ;refine A4 ?_;refine Pc (gu 2 1) ?_;refine aS 15 (Q 2) rfl (congrArg Q qqh) ?_;refine Al 4 qI (fun g3=>?_);refine Ss 3 ?_;refine A3 ?_;refine Dp [] [0,1,2,3,4,5,6,7,8,9,14,15,16,17,18,19,20,10,11,12,13,21,22,23,24,25] ?_ (hc:=(oL [0,1,0,4,0,16,0,64,0,256,960,2032,4092,8191,0,16384,0,0,131072,0,524288,1982463,4145151,8388607,16777215,33554431] ak));refine A1 ?_;refine L4 0 0 ?_;refine A1 ?_;refine L4 0 8 ?_;refine A1 ?_;refine L4 1 4 ?_;refine A1 ?_;refine L4 1 0 ?_;refine A1 ?_;refine L4 1 0 ?_;refine A1 ?_;refine L4 0 4 ?_;refine L4 3 0 ?_;refine A1 ?_;refine L4 1 0 ?_;refine A1 ?_;refine L4 0 8 ?_;refine Pc (dG t.p t.p) ?_;refine Pc (jY t.r (t.p*t.p)) ?_;refine Pc (dG f.c2 (t.r-t.p*t.p)) ?_;refine Pc (fJ f.c0 (f.c2*(t.r-t.p*t.p))) ?_;refine Pc (dG t.p f.c2) ?_;refine Pc (dG 2 (t.p*f.c2)) ?_;refine Pc (fJ f.c1 (2*(t.p*f.c2))) ?_;refine(Bu [(0,_),(1,_)]) (qdU) ?_;refine dW ?_;refine Md 2 ?_;rw[qn8 hs9,qak]
def DL(a:Rat)(u:Int)(r:Rat)(hu:u= -1∨u=0∨u=1)(ha:bY a<=1000000:=by omega)(hr:bY r<=1000000:=by omega):aJ Tryz.prog 109 #[Q a,.int .i64 u,Q r] (.int .i64 (jK a u r)):=by
 have l1:=bZ a a;refine pB3 35 Tryz.func109 fun w=>?_;refine jl fun g0=>?_;refine Bp 4 (fun g1=>?_);refine A4 ?_;refine Dp [2000000] [0,2,3,1,4,5,6,7] ?_;refine L4 0 0 ?_;refine A1 ?_;refine L4 1 0 ?_;refine Pc (lg a) ?_;refine Pc (lg r) ?_;refine(Aq (u*dD r)) (congrArg some (w3 hu (Ey r))) ?_;refine FN ?_;refine Cd ?_ ?_<;>intro haQ
 ·have hs15:=eq_of_beq haQ;refine A9 ?_;refine E0 ?_;rw[qj3 hs15]
 ·have hs15:=ne_of_beq_false haQ;refine A5 ?_;refine Rs 22 ?_ ?_<;>intro hbQ
  ·have hs22:=eq_of_beq hbQ;refine Ri ?_;refine E0 ?_;rw[qao hs15 (.inl hs22)];rfl
  ·have hs22:=ne_of_beq_false hbQ;refine A7 ?_;refine Cd ?_ ?_<;>intro hcQ
   ·have hs19:=eq_of_beq hcQ;refine A9 ?_;refine E0 ?_;rw[qao hs15 (.inr hs19)];rfl
   ·have hs19:=ne_of_beq_false hcQ;refine A4 ?_;refine Dp [] [0,1,2,4,3,5,6,7] ?_;refine A1 ?_;refine L4 0 0 ?_;refine jc ?_;refine Pc (dG a a) ?_;refine Pc (Jq (a*a) r) ?_;refine(Aq (dD a*mP (a*a) r)) (congrArg some (w3 (Ey a) (qfY _ _))) ?_;refine A4 ?_;refine E0 ?_;rw[qj4 hs15 hs22 hs19]
def Gv(x:Rl):aJ Tryz.prog 56 #[RV x] (.int .i64 (ni x)):=by
 refine wQ 5 Tryz.func56 fun w=>?_;refine nC fun g0=>?_;refine lW ?_;refine Cd ?_ ?_<;>intro haQ
 ·refine A7 ?_;refine E0 ?_;rw[ni,if_pos haQ]
 ·refine A8 ?_;refine E0 ?_;rw[ni,if_neg Na]
def OE(a:Rat)(u:Int)(r:Rat)(v:Int)(s:Rat)(hu:u= -1∨u=0∨u=1)(hv:v= -1∨v=0∨v=1)(ha:bY a<=200000:=by omega)(hr:bY r<=200000:=by omega)(hs:bY s<=200000:=by omega):aJ Tryz.prog 54 #[Q a,.int .i64 u,Q r,.int .i64 v,Q s] (.int .i64 (OC a u r v s)):=by
 have l1:=bZ a a;have l2:=iG (a*a) r;have l3:=gW (a*a+r) s;have l4:=bZ (a*a) r;have l5:=bZ 4 (a*a*r);have l6:=qgd;have m1:=qgb a r hu;have m2:=m3 hv (Ey s);have m3_:=m3 hu (Ey a);refine pB5 60 Tryz.func54 fun w=>?_;refine jl fun g0=>?_;refine Bp 4 (fun g1=>?_);refine Bp 4 (fun g2=>?_);refine A4 ?_;refine Dp [2000000] [0,1,2,4,5,3,6,7,8,9] ?_;refine L4 0 0 ?_;refine A1 ?_;refine L4 1 0 ?_;refine A1 ?_;refine L4 2 0 ?_;refine Pc (DL a u r hu) ?_;refine Pc (lg s) ?_;refine(Aq (v*dD s)) (congrArg some (w3 hv (Ey s))) ?_;refine nI ?_;refine Rs 27 ?_ ?_<;>intro haQ
 ·have hs27:jK a u r≠v*dD s:=xQ
  refine Ed ?_;refine Cd ?_ ?_<;>intro hbQ
  ·have hs33:v*dD s<jK a u r:=of_decide_eq_true hbQ;refine A9 ?_;refine E0 ?_;rw[qap (.inl hs27) hs33]
  ·have hs33:¬v*dD s<jK a u r:=of_decide_eq_false hbQ;refine A6 ?_;refine(Aq (jK a u r-v*dD s)) oO ?_;refine A6 ?_;refine E0 ?_;rw[qaq (.inl hs27) hs33]
 ·have hs27:jK a u r=v*dD s:=xQ
  refine A6 ?_;refine Cd ?_ ?_<;>intro hbQ
  ·have hs29:jK a u r=0:=eq_of_beq hbQ;refine A8 ?_;refine Cd ?_ ?_<;>intro hcQ
   ·have hs33:v*dD s<jK a u r:=of_decide_eq_true hcQ;refine A9 ?_;refine E0 ?_;rw[qap (.inr hs29) hs33]
   ·have hs33:¬v*dD s<jK a u r:=of_decide_eq_false hcQ;refine A6 ?_;refine(Aq (jK a u r-v*dD s)) oO ?_;refine A6 ?_;refine E0 ?_;rw[qaq (.inr hs29) hs33]
  ·have hs29:jK a u r≠0:=ne_of_beq_false hbQ;refine A4 ?_;refine Dq [3000000] [0,1,3,2,4,5,6] ?_;refine L4 0 0 ?_;refine jc ?_;refine Pc (dG a a) ?_;refine Pc (fJ (a*a) r) ?_;refine Al 4 qI (fun g3=>?_);refine Ss 3 ?_;refine A3 ?_;refine Dq [3000000] [1,2,4,0,3,5,6,7,8] ?_;refine L4 0 0 ?_;refine jc ?_;refine Pc (gu 4 1) ?_;refine aS 42 (Q 4) rfl (congrArg Q qsa) ?_;refine Pc (dG a a) ?_;refine Pc (dG (a*a) r) ?_;refine Pc (dG 4 (a*a*r)) ?_;refine Al 4 qI (fun g4=>?_);refine Ss 4 ?_;refine A3 ?_;refine Dp [] [0,1,2,4,5,8,3,6,7,9,10,11] ?_;refine A1 ?_;refine L4 3 0 ?_;refine L4 2 0 ?_;refine A1 ?_;refine L4 0 0 ?_;refine L4 4 0 ?_;refine Pc (jY (a*a+r) s) ?_;refine Pc (lg a) ?_;refine(Aq (u*dD a)) (congrArg some (w3 hu (Ey a))) ?_;refine Pc (DL (a*a+r-s) (u*dD a) (4*(a*a*r)) m3_) ?_;refine(Aq (jK a u r*jK (a*a+r-s) (u*dD a) (4*(a*a*r)))) (congrArg some (w3 m1 (qgb _ _ m3_))) ?_;refine A4 ?_;refine E0 ?_;rw[qj5 (fun e=>e hs27) hs29]
def xe(f g:Ln)(hf:jP f<=100000:=by omega)(hg:jP g<=100000:=by omega):aJ Tryz.prog 45 #[zk f,zk g] (rH (d2 f g)):=by
 have f0:=Nat.le_trans (rO f) hf;have f1:=Nat.le_trans (rP f) hf;have f2:=Nat.le_trans (rQ f) hf;have f3:=Nat.le_trans (rU f) hf;have g0:=Nat.le_trans (rO g) hg;have g1:=Nat.le_trans (rP g) hg;have g2:=Nat.le_trans (rQ g) hg;have g3:=Nat.le_trans (rU g) hg;have s0:=gW f.x0 g.x0;have s1:=gW f.x1 g.x1;have s2:=gW f.y0 g.y0;have s3:=gW f.y1 g.y1;have m0:=bZ (f.x0-g.x0) (f.x0-g.x0);have m1:=bZ (f.y0-g.y0) (f.y0-g.y0);have m2:=bZ (f.x0-g.x0) (f.x1-g.x1);have m3:=bZ (f.y0-g.y0) (f.y1-g.y1);have m4:=bZ (f.x1-g.x1) (f.x1-g.x1);have m5:=bZ (f.y1-g.y1) (f.y1-g.y1);have m7:=iG ((f.x0-g.x0)*(f.x1-g.x1)) ((f.y0-g.y0)*(f.y1-g.y1));have z2:=Gq;refine nV 55 Tryz.func45 fun w=>?_;refine A2 ?_;refine Bp 16 (fun g0=>?_);refine Bp 16 (fun g1=>?_);refine Al 12 IJ (fun g2=>?_);refine A3 ?_;refine Ho (l':=[⟨_,_,_,_,_,_⟩,⟨_,_,_,_,_,_⟩,⟨_,_,_,_,_,_⟩,⟨_,_,_,_,_,_⟩,⟨_,_,_,_,_,_⟩,⟨_,_,_,_,_,_⟩,⟨_,_,_,_,_,_⟩,⟨_,_,_,_,_,_⟩,⟨_,_,_,_,_,_⟩,⟨_,_,_,_,_,_⟩,⟨_,_,_,_,_,_⟩,⟨_,_,_,_,_,_⟩,⟨_,_,_,_,_,_⟩,⟨_,_,_,_,_,_⟩,⟨_,_,_,_,_,_⟩,⟨_,_,_,_,_,_⟩,⟨_,_,_,_,_,_⟩,⟨_,_,_,_,_,_⟩,⟨_,_,_,_,_,_⟩,⟨_,_,_,_,_,_⟩,⟨_,_,_,_,_,_⟩,⟨_,_,_,_,_,_⟩,⟨_,_,_,_,_,_⟩,⟨_,_,_,_,_,_⟩,⟨_,_,_,_,_,_⟩,⟨_,_,_,_,_,_⟩,⟨_,_,_,_,_,_⟩,⟨_,_,_,_,_,_⟩]) [3000000] [0,1,2,3,5,6,7,8,10,11,12,13,15,16,17,18,4,9,14,19,20,21,22,23,24,25,26,27] mixed (Zw [0,1,0,4,15,0,32,0,128,511,0,1024,0,4096,16383,0,32768,0,131072,524287,0,0,0,0,16777215,33554431,67108863,134217727] ak) rfl ?_;refine A1 ?_;refine L4 0 0 ?_;refine A1 ?_;refine L4 1 0 ?_;refine A1 ?_;refine L4 0 4 ?_;refine A1 ?_;refine L4 1 4 ?_;refine A1 ?_;refine L4 0 8 ?_;refine A1 ?_;refine L4 1 8 ?_;refine A1 ?_;refine L4 0 12 ?_;refine A1 ?_;refine L4 1 12 ?_;refine Pc (jY f.x0 g.x0) ?_;refine Pc (jY f.x1 g.x1) ?_;refine Pc (jY f.y0 g.y0) ?_;refine Pc (jY f.y1 g.y1) ?_;refine Al 4 qI (fun g3=>?_);refine Al 4 qI (fun g4=>?_);refine Al 4 qI (fun g5=>?_);refine Al 4 qI (fun g6=>?_);refine Ss 3 ?_;refine Ss 4 ?_;refine Ss 5 ?_;refine Ss 6 ?_;refine A4 ?_;refine Pc (gu 2 1) ?_;refine aS 30 (Q 2) rfl (congrArg Q qqh) ?_;refine Al 4 qI (fun g7=>?_);refine Ss 7 ?_;refine A3 ?_;refine Dp [] [0,1,3,4,7,8,9,11,12,16,17,19,20,2,5,6,10,13,14,15,18,21,22,23,24] ?_ (hc:=(oL [0,0,3,0,0,31,63,0,0,0,895,0,0,8063,16255,32767,0,0,262143,0,0,2097151,4194303,8388607,16777215] ak));refine L4 3 0 ?_;refine L4 3 0 ?_;refine L4 5 0 ?_;refine L4 5 0 ?_;refine L4 7 0 ?_;refine L4 3 0 ?_;refine L4 4 0 ?_;refine L4 5 0 ?_;refine L4 6 0 ?_;refine L4 4 0 ?_;refine L4 4 0 ?_;refine L4 6 0 ?_;refine L4 6 0 ?_;refine Pc (dG (f.x0-g.x0) (f.x0-g.x0)) ?_;refine Pc (dG (f.y0-g.y0) (f.y0-g.y0)) ?_;refine Pc (fJ ((f.x0-g.x0)*(f.x0-g.x0)) ((f.y0-g.y0)*(f.y0-g.y0))) ?_;refine Pc (dG (f.x0-g.x0) (f.x1-g.x1)) ?_;refine Pc (dG (f.y0-g.y0) (f.y1-g.y1)) ?_;refine Pc (fJ ((f.x0-g.x0)*(f.x1-g.x1)) ((f.y0-g.y0)*(f.y1-g.y1))) ?_;refine Pc (dG 2 ((f.x0-g.x0)*(f.x1-g.x1)+(f.y0-g.y0)*(f.y1-g.y1))) ?_;refine Pc (dG (f.x1-g.x1) (f.x1-g.x1)) ?_;refine Pc (dG (f.y1-g.y1) (f.y1-g.y1)) ?_;refine Pc (fJ ((f.x1-g.x1)*(f.x1-g.x1)) ((f.y1-g.y1)*(f.y1-g.y1))) ?_;refine(Bu [(0,_),(1,_),(2,_)]) (QV) ?_;refine dW ?_;refine Md 2 ?_;exact rfl
def vO(l:List PU)(lb:Option Nat)(lN lc:Nat)(hlc:l.length<=lc:=by omega)(hln:l.length<=1000:=by omega):cZ Tryz.prog 91 [⟨lb,100,aj aP l,lN,false⟩] [aA lb 0 l.length lc] (SR ((id) l).length) SR.v (fun z=>[⟨z.b,201,aj aP ((id) l),z.n,true⟩]):=by
 refine PR 22 Tryz.func91 fun w hL0=>?_;refine A19 ?_;refine El (ι:={z:Nat×List PU×Option Nat×Nat×Nat // z.1<=l.length∧z.2.1=(id) (l.take z.1)∧z.2.1.length<=z.2.2.2.2∧z.2.2.2.2*36<=z.2.2.2.1}) (fun⟨⟨i,o,ob,oN,oc⟩,hi,hI,h3,h4⟩=>([(3,aA ob 0 o.length oc),(6,aA lb 0 l.length lc),(7,bH (l.length)),(8,bH i)],[⟨lb,100,aj aP l,lN,false⟩,⟨ob,201,aj aP o,oN,true⟩],l.length-i)) ⟨⟨0,[],none,0,0⟩,Nat.zero_le _,rfl,Nat.le_refl _,bz⟩ ?_ (hL:=(az [some 0,none] ⟨pR,⟨rfl,rfl,rfl⟩,trivial⟩ rfl rfl));rintro⟨⟨i,o,ob,oN,oc⟩,hi,hI,h3,h4⟩;(try dsimp only);replace hi:i<=l.length:=hi;replace hI:o=(id) (l.take i):=hI;replace h3:o.length<=oc:=h3;replace h4:oc*36<=oN:=h4
 have hol:o.length<=100000:=(by rw[hI];simp;omega);refine A6 ?_;refine Cd ?_ ?_<;>intro haQ
 ·have hlt:i<l.length:=iH;obtain⟨x,hx⟩:∃x,l[i]? =some x:=⟨l[i],List.getElem?_eq_getElem hlt⟩;refine dQ 0 rfl (aY.ne ax ae) (fun hbs=>?_);obtain⟨gl,hgl⟩:=Option.isSome_iff_exists.1 hbs;replace hgl:lb=some gl:=hgl;subst hgl;refine A6 ?_;refine DK ?_;refine bu (v:=PUV x) 0 ((i)*36) _ rfl rfl rfl rfl qdN (aY.sub hx 0 36 ax) rfl ax rfl ?_;refine Al 36 qrq (fun g0=>?_);refine Ss 2 ?_;refine A5 ?_;refine yK 2 0 ?_;refine A1 ?_;refine L16 2 20 ?_;refine(Bu [(0,_),(1,_)]) (Fh) ?_;refine(Bl 36 [(0,_)]) (wJ) (fun g1=>?_);refine(Qa (s:=36) (len:=o.length) (n2:=1) 1 3 (fun r=>[_,⟨some r.g,201,aj aP o++aP (x),r.n,true⟩,_,_]) vX Fj) (aY.length o) h3 h4 (aY.one (x)) (fun r=>?_);refine A5 ?_;refine dP ?_;exact Nl ⟨⟨i+1,o++[x],some r.g,r.n,r.cap⟩,hlt,by show o++[x]=l.take (i+1);rw[hI];exact fO hx,jB,r.hn⟩ (hμ:=nD) (ht:=⟨(aQ rfl jO),rfl,rfl,rfl,trivial⟩) (hL:=(az [some 0,some 1] ⟨pR,⟨_,rfl,bg kz⟩,trivial⟩ rfl rfl))
 ·have hge:i=l.length:=iK;subst hge;obtain rfl:o=(id) l:=Bv
  exact VU
def Yg(p r:Rat)(n:Bool)(hp:bY p<=1000000:=by omega)(hr:bY r<=1000000:=by omega):aJ Tryz.prog 100 #[Q p,Q r,.bool n] (RV (ofM p r n)):=by
 have l1:=Gs r;have l2:=KI (fQ r);refine pB3 26 Tryz.func100 fun w=>?_;refine jl fun g0=>?_;refine Bp 4 (fun g1=>?_);refine Al 9 II (fun g2=>?_);refine A5 ?_;refine L4 1 0 ?_;refine Pc (Gu r) ?_;refine A3 ?_;refine Al 4 qI (fun g3=>?_);refine Ss 3 ?_;refine A8 ?_;refine Cd ?_ ?_<;>intro haQ
 ·have hs14:qE r=true:=haQ;refine A6 ?_;refine Cd ?_ ?_<;>intro hbQ
  ·have hs15:n=true:=hbQ;refine A1 ?_;refine L4 3 0 ?_;refine aS 16 (Q (fQ r)) rfl (by rw[hs14,if_pos rfl];rfl) ?_;refine Pc (I8 (fQ r)) ?_;refine Ss 3 ?_;refine A4 ?_;refine L4 0 0 ?_;refine L4 3 0 ?_;refine Pc (fJ p (-fQ r)) ?_;refine(Bu [(0,_)]) (Au) ?_;refine Ss 2 ?_;refine A4 ?_;refine TM 2 ?_;rw[ofM,hs14,if_pos rfl,if_pos hs15,I9]
  ·have hs15:n=false:=hbQ;refine A4 ?_;refine L4 0 0 ?_;refine L4 3 0 ?_;refine aS 19 (Q (fQ r)) rfl (by rw[hs14,if_pos rfl];rfl) ?_;refine Pc (fJ p (fQ r)) ?_;refine(Bu [(0,_)]) (Au) ?_;refine Ss 2 ?_;refine A4 ?_;refine TM 2 ?_;rw[ofM,hs14,if_pos rfl,if_neg (by rw[hs15];decide),I9]
 ·have hs14:qE r=false:=haQ;refine A4 ?_;refine jc ?_;refine A1 ?_;refine(Bu [(0,_),(1,_),(2,_)]) (QT) ?_;refine dW ?_;refine TM 2 ?_;rw[ofM,hs14,if_neg ax];rfl
def EC(f:Qd)(t:Rl)(h0:t.ok)(hf:uC f<=10000:=by omega)(ht:fV t<=10000:=by omega):aJ Tryz.prog 46 #[rH f,RV t] (RV (Be f t)):=by
 have hz:=qge hf ht;have z0:=Nat.le_trans (qi (lQ f t)) hz;have z1:=Nat.le_trans (qj (lQ f t)) hz;have t1:=Nat.le_trans (qg t) ht;have t2:=Nat.le_trans (wX t) ht;have l1:=bZ (lQ f t).c1 t.p;have l2:=iG (lQ f t).c0 ((lQ f t).c1*t.p);have l3:=bZ (lQ f t).c1 (lQ f t).c1;have l4:=bZ ((lQ f t).c1*(lQ f t).c1) t.r;refine nV 35 Tryz.func46 fun w=>?_;refine kL fun g0=>?_;refine Bp 9 (fun g1=>?_);refine Al 9 II (fun g2=>?_);refine A4 ?_;refine vZ 0 0 ?_;refine L9 1 0 ?_;refine Pc (Nh f t) ?_;refine Al 12 IJ (fun g3=>?_);refine Ss 3 ?_;refine A3 ?_;refine Dq [3000000] [0,1,2,3,4,5,6,7,8,9] ?_;refine A1 ?_;refine L4 3 0 ?_;refine A1 ?_;refine L4 3 4 ?_;refine A1 ?_;refine L4 1 0 ?_;refine Pc (dG (lQ f t).c1 t.p) ?_;refine Pc (fJ (lQ f t).c0 ((lQ f t).c1*t.p)) ?_;refine Al 4 qI (fun g4=>?_);refine Ss 4 ?_;refine A3 ?_;refine Dp [] [0,1,2,3,4,6,7,9,10,11,12,5,8,13,14,15,16,17] ?_;refine L4 4 0 ?_;refine A1 ?_;refine L4 3 4 ?_;refine A1 ?_;refine L4 3 4 ?_;refine A1 ?_;refine L4 1 4 ?_;refine A3 ?_;refine L4 3 4 ?_;refine Pc (dG (lQ f t).c1 (lQ f t).c1) ?_;refine Pc (dG ((lQ f t).c1*(lQ f t).c1) t.r) ?_;refine Pc (lg (lQ f t).c1) ?_;refine A1 ?_;refine o6 rfl u4 rfl rfl rfl ?_;refine Pc (Yg ((lQ f t).c0+(lQ f t).c1*t.p) ((lQ f t).c1*(lQ f t).c1*t.r) (t.n !=decide (dD (lQ f t).c1<0))) ?_;refine dW ?_;refine TM 2 ?_;rw[<-qnQ h0];rfl
variable[Mo]
def rf(a b:pU)(ha:fV a.1<=50000:=by omega)(hb:fV b.1<=50000:=by omega):aJ Tryz.prog 148 #[BdV a,BdV b] (.int .i64 (xB a b)):=by
 refine nV 23 Tryz.func148 fun w=>?_;refine A2 ?_;refine Bp 10 (fun g0=>?_);refine Bp 10 (fun g1=>?_);refine A7 ?_;refine L9 0 0 ?_;refine A1 ?_;refine L9 1 0 ?_;refine Pc (dK a.1 b.1 ha hb) ?_;refine A9 ?_;refine Cd ?_ ?_<;>intro haQ
 ·have hs12:aV a.1 b.1≠0:=xQ
  refine A8 ?_;refine E0 ?_;rw[xB,if_pos hs12]
 ·have hs12:aV a.1 b.1=0:=xQ
  refine lW ?_;refine G9 rfl u4 rfl rfl rfl ?_;refine A3 ?_;refine Cd ?_ ?_<;>intro hbQ
  ·have hs19:a.2=b.2:=Ib
   refine A8 ?_;refine E0 ?_;rw[xB,if_neg (fun e=>e hs12),if_pos hs19]
  ·have hs19:a.2≠b.2:=Ib
   refine A7 ?_;refine Cd ?_ ?_<;>intro hcQ
   ·have hs20:b.2=true:=hcQ;refine A8 ?_;refine E0 ?_;rw[xB,if_neg (fun e=>e hs12),if_neg hs19,if_pos hs20]
   ·have hs20:b.2=false:=hcQ;refine A9 ?_;refine E0 ?_;rw[xB,if_neg (fun e=>e hs12),if_neg hs19,if_neg (by rw[hs20];decide)]
def vP(i:Iv):aJ Tryz.prog 149 #[nJ i] (BdV i.b):=by
 refine wQ 8 Tryz.func149 fun w=>?_;refine A2 ?_;refine Bp 20 (fun g0=>?_);refine Al 10 qmQ (fun g1=>?_);refine A5 ?_;refine L9 0 0 ?_;refine A2 ?_;refine(Bu [(0,_),(1,_)]) (Zi) ?_;refine Ss 1 ?_;refine A3 ?_;refine qp1 1 ?_;exact rfl
def xW(i:Iv):aJ Tryz.prog 150 #[nJ i] (BdV i.e):=by
 refine wQ 9 Tryz.func150 fun w=>?_;refine A2 ?_;refine Bp 20 (fun g0=>?_);refine Al 10 qmQ (fun g1=>?_);refine A5 ?_;refine L9 0 9 ?_;refine A3 ?_;refine(Bu [(0,_),(1,_)]) (Zi) ?_;refine Ss 1 ?_;refine A3 ?_;refine qp1 1 ?_;exact rfl
def Ih(a b:pU):aJ Tryz.prog 194 #[BdV a,BdV b] (nJ (Oj a b)):=by
 refine nV 15 Tryz.func194 fun w=>?_;refine A2 ?_;refine Bp 10 (fun g0=>?_);refine Bp 10 (fun g1=>?_);refine Al 20 z61 (fun g2=>?_);refine A5 ?_;refine L9 0 0 ?_;refine A1 ?_;refine L9 1 0 ?_;refine A5 ?_;refine(Bu [(0,_),(1,_),(2,_),(3,_)]) (KU) ?_;refine dW ?_;refine qrY 2 ?_;exact rfl
end Go.Proofs.YtaffcpfhedadhaaGreatDoor
namespace Go.Proofs.YtaffcpfhedadhaaGreatDoor
open Go Go.RowKit Go.Via
def jd(x:Rl)(hx:fV x<=5000:=by omega):aJ Tryz.prog 51 #[RV x] (.int .i64 (if dO x=true then 0 else 5)):=by
 have x1:=Nat.le_trans (qg x) hx;have x2:=Nat.le_trans (wX x) hx;refine wQ 31 Tryz.func51 fun w=>?_;refine nC fun g0=>?_;refine A7 ?_;refine L4 0 0 ?_;refine Pc (VT x.p) ?_;refine A1 ?_;refine Kr 8 (.bool false) ?_;refine A2 ?_;refine L4 0 4 ?_;refine Pc (VT x.r) ?_;refine A1 ?_;refine Kr 13 (.bool false) ?_;refine lW ?_;refine L4 0 4 ?_;refine Pc (dU x.r) ?_;refine A9 ?_;refine Cd ?_ ?_<;>intro haQ
 ·have hs18:x.r.num.sign= -1:=eq_of_beq haQ;refine A8 ?_;refine E0 ?_;rw[qf9 hs18];rfl
 ·have hs18:x.r.num.sign≠ -1:=ne_of_beq_false haQ;refine A6 ?_;refine Cd ?_ ?_<;>intro hbQ
  ·have hs20:x.r.num.sign=0:=eq_of_beq hbQ;refine A7 ?_;refine Cd ?_ ?_<;>intro hcQ
   ·have hs23:x.n=true:=hcQ;refine A9 ?_;refine E0 ?_;rw[Qj hs20,hs23];rfl
   ·have hs23:x.n=false:=hcQ;refine lW ?_;refine E0 ?_;rw[Qj hs20,hs23];rfl
  ·have hs20:x.r.num.sign≠0:=ne_of_beq_false hbQ;refine A7 ?_;refine L4 0 4 ?_;refine Pc (zI x.r) ?_;refine A3 ?_;refine Al 4 qI (fun g1=>?_);refine Ss 1 ?_;refine A8 ?_;refine Cd ?_ ?_<;>intro hcQ
   ·have hs30:qE x.r=true:=hcQ;refine A7 ?_;refine E0 ?_;rw[VY hs18 hs20,hs30];rfl
   ·have hs30:qE x.r=false:=hcQ;refine A8 ?_;refine E0 ?_;rw[VY hs18 hs20,hs30];rfl
def qo(i:Iv)(hi:jM i<=5000:=by omega):aJ Tryz.prog 101 #[nJ i] (.int .i64 (if(dO i.f&&dO i.t)=false then 5 else if lD i=false then 10 else 0)):=by
 have i1:=Nat.le_trans (jD i) hi;have i2:=Nat.le_trans (jE i) hi;refine wQ 19 Tryz.func101 fun w=>?_;refine A2 ?_;refine Bp 20 (fun g0=>?_);refine A7 ?_;refine L9 0 0 ?_;refine Pc (jd i.f) ?_;refine A2 ?_;refine Rs 7 ?_ ?_<;>intro haQ
 ·have hs7:dO i.f=false:=qf3
  refine Ed ?_;refine E0 ?_;rw[hs7];rfl
 ·have hs7:dO i.f=true:=qf3
  refine A1 ?_;refine L9 0 9 ?_;refine Pc (jd i.t) ?_;refine A4 ?_;refine Cd ?_ ?_<;>intro hbQ
  ·have hs12:dO i.t=false:=qf4
   refine A7 ?_;refine E0 ?_;rw[hs7,hs12];rfl
  ·have hs12:dO i.t=true:=qf4
   refine A4 ?_;refine Dp [] [0,2,1,3,4,5] ?_;refine yK 0 0 ?_;refine yK 0 0 ?_;refine Pc (vP i) ?_;refine Pc (xW i) ?_;refine dX [_,_] rfl rfl rfl (rf i.b i.e (by show fV i.f<=_;omega) (by show fV i.t<=_;omega)) ?_;refine A3 ?_;refine Cd ?_ ?_<;>intro hcQ
   ·have hs18:lD i=false:=qf5
    refine A7 ?_;refine E0 ?_;rw[hs7,hs12,hs18];rfl
   ·have hs18:lD i=true:=qf5
    refine A8 ?_;refine E0 ?_;rw[hs7,hs12,hs18];rfl
def vS(a b:Iv)(ha:jM a<=50000:=by omega)(hb:jM b<=50000:=by omega):aJ Tryz.prog 139 #[nJ a,nJ b] (.bool (PX a b)):=by
 have a1:=Nat.le_trans (jD a) ha;have a2:=Nat.le_trans (jE a) ha;have b1:=Nat.le_trans (jD b) hb;have b2:=Nat.le_trans (jE b) hb;refine nV 26 Tryz.func139 fun w=>?_;refine A2 ?_;refine Bp 20 (fun g0=>?_);refine Bp 20 (fun g1=>?_);refine A6 ?_;refine L9 0 9 ?_;refine A1 ?_;refine L9 1 9 ?_;refine Pc (dK a.t b.t) ?_;refine A8 ?_;refine Rs 13 ?_ ?_<;>intro haQ
 ·refine Rh ?_;refine E0 ?_;exact eB Sj
 ·refine A3 ?_;refine Rs 16 ?_ ?_<;>intro hbQ
  ·refine A3 ?_;refine Rs 19 ?_ ?_<;>intro hcQ
   ·refine lW ?_;refine E0 ?_;exact eB Sj
   ·refine lW ?_;refine E0 ?_;exact eB Sj
  ·refine FN ?_;refine E0 ?_;exact eB Sj
def Nj(a b:Iv)(ha:jM a<=50000:=by omega)(hb:jM b<=50000:=by omega):aJ Tryz.prog 185 #[nJ a,nJ b] (.bool (XV a b)):=by
 have a1:=Nat.le_trans (jD a) ha;have a2:=Nat.le_trans (jE a) ha;have b1:=Nat.le_trans (jD b) hb;have b2:=Nat.le_trans (jE b) hb;refine nV 25 Tryz.func185 fun w=>?_;exact qlG
def ik(i:Iv):aJ Tryz.prog 187 #[nJ i] (.bool (eF i)):=by
 refine wQ 8 Tryz.func187 fun w=>?_;refine A2 ?_;refine Bp 20 (fun g0=>?_);refine A6 ?_;refine L9 0 0 ?_;refine A1 ?_;refine L9 0 9 ?_;refine fP rfl rfl rfl rfl UE (VG _ _) ?_;refine A4 ?_;refine E0 ?_;exact rfl
def OG(a b:Iv)(ha:jM a<=50000:=by omega)(hb:jM b<=50000:=by omega):aJ Tryz.prog 138 #[nJ a,nJ b] (.tuple #[nJ (fD a b),.bool (lD (fD a b))]):=by
 have a1:=Nat.le_trans (jD a) ha;have a2:=Nat.le_trans (jE a) ha;have b1:=Nat.le_trans (jD b) hb;have b2:=Nat.le_trans (jE b) hb;have hmf:=Qk ha hb;have hmt:=Ql ha hb;refine nV 81 Tryz.func138 fun w=>?_;refine A2 ?_;refine Bp 20 (fun g0=>?_);refine Bp 20 (fun g1=>?_);refine Al 20 z61 (fun g2=>?_);refine A5 ?_;refine yK 0 0 ?_;refine Al 20 z61 (fun g3=>?_);refine Ss 3 ?_;refine A2 ?_;refine Q9 (nt:=81) [(2,bf g0),(3,bf g1),(4,bf g2),(5,.bool false),(6,bf g3)] [⟨some g0,61,bT a,20,true⟩,⟨some g1,61,bT b,20,true⟩,⟨some g2,61,qqg,20,true⟩,⟨some g3,61,bT ⟨(sK a b).1,a.t,(sK a b).2,a.tp⟩,20,true⟩] ?_ ?_
 ·refine A3 ?_;refine L9 0 0 ?_;refine A1 ?_;refine L9 1 0 ?_;refine Pc (dK a.f b.f) ?_;refine qC ?_;refine Cd ?_ ?_<;>intro haQ
  ·have hsA:aV a.f b.f<0:=of_decide_eq_true haQ;refine Di [3] ?_;refine A1 ?_;refine L9 1 0 ?_;refine A2 ?_;refine Fg 0 0 ?_;refine jS 3 0 [_,_,_,⟨some g3,61,_,20,true⟩] [_,_,_,_,_,_,_,_,_,_,_,_,_,_,_,_,_,_,_,_] rfl rfl rfl rfl ja rfl rfl rfl rfl rfl rfl ?_;refine Fg 0 18 ?_;refine jS 3 18 [_,_,_,⟨some g3,61,_,20,true⟩] [_,_,_,_,_,_,_,_,_,_,_,_,_,_,_,_,_,_,_,_] rfl rfl rfl rfl ti4 rfl rfl rfl rfl rfl rfl ?_;refine A3 ?_;exact rD ⟨rfl,rfl,rfl,rfl,rfl,trivial⟩ (az [some 0,some 1,some 2,some 3] ⟨pR,pR,pR,⟨_,rfl,bg (by rw[qjZ hsA]<;>rfl)⟩,trivial⟩ rfl rfl)
  ·have hsA:¬aV a.f b.f<0:=of_decide_eq_false haQ;refine A7 ?_;refine Cd ?_ ?_<;>intro hbQ
   ·have hsB:aV a.f b.f=0:=eq_of_beq hbQ;refine A4 ?_;refine Rs 30 ?_ ?_<;>intro hcQ
    ·have hsC:a.fo=true:=hcQ;refine A4 ?_;refine Ss 3 ?_;refine A3 ?_;exact rD ⟨rfl,rfl,rfl,rfl,rfl,trivial⟩ (az [some 0,some 1,some 2,some 3] ⟨pR,pR,pR,⟨_,rfl,bg (by rw[qam hsA hsB,hsC,Bool.true_or]<;>rfl)⟩,trivial⟩ rfl rfl)
    ·have hsC:a.fo=false:=hcQ;refine A4 ?_;refine Ss 3 ?_;refine A3 ?_;exact rD ⟨rfl,rfl,rfl,rfl,rfl,trivial⟩ (az [some 0,some 1,some 2,some 3] ⟨pR,pR,pR,⟨_,rfl,bg (by rw[qam hsA hsB,hsC,Bool.false_or]<;>rfl)⟩,trivial⟩ rfl rfl)
   ·have hsB:aV a.f b.f≠0:=ne_of_beq_false hbQ;refine A3 ?_;exact rD ⟨rfl,rfl,rfl,rfl,rfl,trivial⟩ (az [some 0,some 1,some 2,some 3] ⟨pR,pR,pR,⟨_,rfl,bg (by rw[qj0 hsA hsB]<;>rfl)⟩,trivial⟩ rfl rfl)
 refine Q9 (nt:=81) [(2,bf g0),(3,bf g1),(4,bf g2),(5,.bool false),(6,bf g3)] [⟨some g0,61,bT a,20,true⟩,⟨some g1,61,bT b,20,true⟩,⟨some g2,61,qqg,20,true⟩,⟨some g3,61,bT ⟨(sK a b).1,(uZ a b).1,(sK a b).2,(uZ a b).2⟩,20,true⟩] ?_ ?_
 ·refine A3 ?_;refine L9 0 9 ?_;refine A1 ?_;refine L9 1 9 ?_;refine Pc (dK a.t b.t) ?_;refine qC ?_;refine Cd ?_ ?_<;>intro haQ
  ·have hsA:0<aV a.t b.t:=of_decide_eq_true haQ;refine Di [3] ?_;refine A1 ?_;refine L9 1 9 ?_;refine A2 ?_;refine Fg 0 9 ?_;refine jS 3 9 [_,_,_,⟨some g3,61,_,20,true⟩] [_,_,_,_,_,_,_,_,_,_,_,_,_,_,_,_,_,_,_,_] rfl rfl rfl rfl ja rfl rfl rfl rfl rfl rfl ?_;refine Fg 0 19 ?_;refine jS 3 19 [_,_,_,⟨some g3,61,_,20,true⟩] [_,_,_,_,_,_,_,_,_,_,_,_,_,_,_,_,_,_,_,_] rfl rfl rfl rfl ti4 rfl rfl rfl rfl rfl rfl ?_;refine A3 ?_;exact rD ⟨rfl,rfl,rfl,rfl,rfl,trivial⟩ (az [some 0,some 1,some 2,some 3] ⟨pR,pR,pR,⟨_,rfl,bg (by rw[qj1 hsA]<;>rfl)⟩,trivial⟩ rfl rfl)
  ·have hsA:¬0<aV a.t b.t:=of_decide_eq_false haQ;refine A7 ?_;refine Cd ?_ ?_<;>intro hbQ
   ·have hsB:aV a.t b.t=0:=eq_of_beq hbQ;refine A4 ?_;refine Rs 54 ?_ ?_<;>intro hcQ
    ·have hsC:a.tp=true:=hcQ;refine A4 ?_;refine Ss 3 ?_;refine A3 ?_;exact rD ⟨rfl,rfl,rfl,rfl,rfl,trivial⟩ (az [some 0,some 1,some 2,some 3] ⟨pR,pR,pR,⟨_,rfl,bg (by rw[qan hsA hsB,hsC,Bool.true_or]<;>rfl)⟩,trivial⟩ rfl rfl)
    ·have hsC:a.tp=false:=hcQ;refine A4 ?_;refine Ss 3 ?_;refine A3 ?_;exact rD ⟨rfl,rfl,rfl,rfl,rfl,trivial⟩ (az [some 0,some 1,some 2,some 3] ⟨pR,pR,pR,⟨_,rfl,bg (by rw[qan hsA hsB,hsC,Bool.false_or]<;>rfl)⟩,trivial⟩ rfl rfl)
   ·have hsB:aV a.t b.t≠0:=ne_of_beq_false hbQ;refine A3 ?_;exact rD ⟨rfl,rfl,rfl,rfl,rfl,trivial⟩ (az [some 0,some 1,some 2,some 3] ⟨pR,pR,pR,⟨_,rfl,bg (by rw[qj2 hsA hsB]<;>rfl)⟩,trivial⟩ rfl rfl)
 refine A3 ?_;refine L9 3 0 ?_;refine A1 ?_;refine L9 3 9 ?_;refine Pc (dK (sK a b).1 (uZ a b).1 hmf hmt) ?_;refine A4 ?_;refine Di [2] ?_;refine yK 3 0 ?_;refine A3 ?_;refine Rs 67 ?_ ?_<;>intro haQ
 ·refine FN ?_;exact qaj
 ·refine A3 ?_;refine Rs 70 ?_ ?_<;>intro hbQ
  ·refine A5 ?_;refine Rs 75 ?_ ?_<;>intro hcQ
   ·refine A5 ?_;exact qaj
   ·refine A5 ?_;exact qaj
  ·refine lW ?_;exact qaj
def Dh(a b:Iv)(ha:jM a<=50000:=by omega)(hb:jM b<=50000:=by omega):aJ Tryz.prog 81 #[nJ a,nJ b] (.bool (XV a b)):=by
 have a1:=Nat.le_trans (jD a) ha;have a2:=Nat.le_trans (jE a) ha;have b1:=Nat.le_trans (jD b) hb;have b2:=Nat.le_trans (jE b) hb;refine nV 25 Tryz.func81 fun w=>?_;exact qlG
def OH(x:Rl)(q:Rat)(hx:fV x<=50000:=by omega)(hq:bY q<=50000:=by omega):aJ Tryz.prog 23 #[RV x,Q q] (RV ⟨x.p+q,x.r,x.n⟩):=by
 have hxp:=qg x;refine nV 11 Tryz.func23 fun w=>?_;refine nC fun g0=>?_;refine Bp 4 (fun g1=>?_);refine Al 9 II (fun g2=>?_);refine A5 ?_;refine jc ?_;refine Pc (fJ x.p q) ?_;refine A1 ?_;refine Ss 0 ?_;refine A4 ?_;refine L9 0 0 ?_;refine dW ?_;refine TM 2 ?_;exact rfl
variable[Mo]
def Ju(x y:Bool):aJ Tryz.prog 153 #[.bool x,.bool y] (.bool (x||y)):=by
 refine nV 9 Tryz.func153 fun w=>?_;refine A9 ?_;refine Rs 6 ?_ ?_<;>intro haQ
 ·refine A6 ?_;refine E0 ?_;exact eB Sl
 ·refine A6 ?_;refine E0 ?_;exact eB Sl
def Jv(x y:Bool):aJ Tryz.prog 191 #[.bool x,.bool y] (.bool (x&& !y)):=by
 refine nV 10 Tryz.func191 fun w=>?_;refine A9 ?_;refine Rs 6 ?_ ?_<;>intro haQ
 ·refine A7 ?_;refine E0 ?_;exact eB Sl
 ·refine A7 ?_;refine E0 ?_;exact eB Sl
def Jw(a b:(Rl×Bool)×Int×Int)(ha:fV a.1.1<=50000:=by omega)(hb:fV b.1.1<=50000:=by omega):aJ Tryz.prog 193 #[EvV a,EvV b] (.int .i64 (xB a.1 b.1)):=by
 refine nV 10 Tryz.func193 fun w=>?_;refine kL fun g0=>?_;refine Bp 12 (fun g1=>?_);refine A6 ?_;refine XM 0 0 ?_;refine A1 ?_;refine XM 1 0 ?_;refine Pc (rf a.1 b.1 ha hb) ?_;refine A4 ?_;refine E0 ?_;exact rfl
end Go.Proofs.YtaffcpfhedadhaaGreatDoor
namespace Go.Via
open Go
def qkc(a b c:Int)(i:Nat)(h:i<3):([.int .i64 a,.int .i64 b,.int .i64 c]:List Value)[i]? =some (.int .i64 ([a,b,c].getD i 0)):=by
 rcases(show i=0∨i=1∨i=2 by omega) with rfl|rfl|rfl<;>rfl
def or3(a b c:Int):Int:=if a≠0 then a else if b≠0 then b else c
theorem qkd{a b c:Int}{i:Nat}(hi:i<3)(h:∀j,j<i->[a,b,c].getD j 0=0)(hn:[a,b,c].getD i 0≠0):or3 a b c=[a,b,c].getD i 0:=by
 have h0:=h 0;have h1:=h 1;rcases(show i=0∨i=1∨i=2 by omega) with rfl|rfl|rfl<;>simp at hn h0 h1 ⊢ <;>unfold or3<;>simp_all
theorem qoa{a b c:Int}(h:∀j,j<3->[a,b,c].getD j 0=0):or3 a b c=0:=by
 have h0:=h 0 ae;have h1:=h 1 ae;have h2:=h 2 ae;simp at h0 h1 h2;unfold or3;simp_all
def qgh{a b c:Int}{i:Nat}(h:∀j,j<i->[a,b,c].getD j 0=0)(hn:[a,b,c].getD i 0=0):∀j,j<i+1->[a,b,c].getD j 0=0:=fun j hj=>by
 by_cases e:j=i
 ·rw[e];exact hn
 ·exact h j ae
def opI(i:Iv):Int:=if i.fo=true then 1 else 0
theorem qgi(a b:PU):or3 (aV a.i.f b.i.f) (if opI a.i<opI b.i then-1 else if opI b.i<opI a.i then 1 else 0) (aV a.i.t b.i.t)=OD a b:=by
 unfold or3 OD qnS opI;cases a.i.fo<;>cases b.i.fo<;>simp
def Yh{f:Ln}(h:jP f<=10000):uC (qx f)<=10000:=by
 have:=rO f;have:=rP f;have:=vz;unfold uC qx;dsimp only;omega
def Yi{f:Ln}(h:jP f<=10000):uC (qy f)<=10000:=by
 have:=rQ f;have:=rU f;have:=vz;unfold uC qy;dsimp only;omega
def qlJ(f:Ln)(t:Rl):(vH (qx f) t).c0=(jJ f t).x0∧(vH (qx f) t).c1=(jJ f t).x1∧(vH (qy f) t).c0=(jJ f t).y0∧(vH (qy f) t).c1=(jJ f t).y1:=by
 unfold vH jJ
 by_cases h:t.r=0
 ·rw[if_pos h,if_pos h,if_pos h];exact⟨rfl,rfl,rfl,rfl⟩
 ·rw[if_neg h,if_neg h,if_neg h];unfold uz qx qy;refine⟨?_,?_,?_,?_⟩<;>dsimp only<;>grind
theorem qau(f g:Ln)(t:Rl):(decide (vH (ql (qx f) (qx g)) t=⟨0,0,0⟩)&&decide (vH (ql (qy f) (qy g)) t=⟨0,0,0⟩))=pV f g t:=by
 have z0:(0:Rat)-0=0:=dY;have hx:ql (qx f) (qx g)=qx (En f g):=(by unfold ql qx En;dsimp only;rw[z0]);have hy:ql (qy f) (qy g)=qy (En f g):=(by unfold ql qy En;dsimp only;rw[z0]);rw[hx,hy];obtain⟨h1,h2,h3,h4⟩:=qlJ (En f g) t;have z1:(vH (qx (En f g)) t).c2=0:=by unfold vH;split<;>rfl
 have z2:(vH (qy (En f g)) t).c2=0:=by unfold vH;split<;>rfl
 have e1:vH (qx (En f g)) t=⟨(jJ (En f g) t).x0,(jJ (En f g) t).x1,0⟩:=(by rw[<-h1,<-h2,<-z1]);have e2:vH (qy (En f g)) t=⟨(jJ (En f g) t).y0,(jJ (En f g) t).y1,0⟩:=(by rw[<-h3,<-h4,<-z2]);unfold pV;rw[e1,e2,Bool.eq_iff_iff,Bool.and_eq_true,decide_eq_true_eq,decide_eq_true_eq,decide_eq_true_eq]
 generalize jJ (En f g) t=r
 obtain⟨a,b,c,d⟩:=r;simp[and_assoc]
end Go.Via
namespace Go.Proofs.YtaffcpfhedadhaaGreatDoor
open Go Go.RowKit Go.Via
def Yj(p r:Rat)(n:Bool)(hp:bY p<=50000:=by omega)(hr:bY r<=50000:=by omega):aJ Tryz.prog 108 #[Q p,Q r,.bool n] (RV (if qE r=true then(if n=true then rl (p-fQ r) else rl (p+fQ r)) else⟨p,r,n⟩)):=by
 have hro:=Gs r;have hz0:=vz;have hez:bY (if qE r=true then fQ r else 0)<=50000:=by split<;>omega
 refine pB3 33 Tryz.func108 fun w=>?_;refine jl fun g0=>?_;refine Bp 4 (fun g1=>?_);refine Al 9 II (fun g2=>?_);refine A4 ?_;refine L4 1 0 ?_;refine Pc (Gu r) ?_;refine A3 ?_;refine Al 4 qI (fun g3=>?_);refine Ss 3 ?_;refine A9 ?_;refine Rs 16 ?_ ?_<;>intro haQ
 ·have hsq:qE r=true:=haQ;refine A5 ?_;refine Cd ?_ ?_<;>intro hbQ
  ·have hn:n=true:=hbQ;refine A2 ?_;refine L4 0 0 ?_;refine L4 3 0 ?_;refine Pc (jY p (if qE r=true then fQ r else 0)) ?_;refine(Bu [(0,_)]) (Au) ?_;refine Ss 2 ?_;refine A5 ?_;refine TM 2 ?_;rw[<-I9];exact congrArg (fun x=>Ending.returned (RV x)) (show rl (p-(if qE r=true then fQ r else 0))=(if qE r=true then(if n=true then rl (p-fQ r) else rl (p+fQ r)) else⟨p,r,n⟩) by rw[hsq,if_pos rfl,if_pos rfl,hn,if_pos rfl])
  ·have hn:n=false:=hbQ;refine A6 ?_;refine Cd ?_ ?_<;>intro hcQ
   ·have hs2:qE r=true:=hcQ;refine A2 ?_;refine L4 0 0 ?_;refine L4 3 0 ?_;refine Pc (fJ p (if qE r=true then fQ r else 0)) ?_;refine(Bu [(0,_)]) (Au) ?_;refine Ss 2 ?_;refine A5 ?_;refine TM 2 ?_;rw[<-I9];exact congrArg (fun x=>Ending.returned (RV x)) (show rl (p+(if qE r=true then fQ r else 0))=(if qE r=true then(if n=true then rl (p-fQ r) else rl (p+fQ r)) else⟨p,r,n⟩) by rw[hsq,if_pos rfl,if_pos rfl,hn,if_neg ax])
   ·have hs2:qE r=false:=hcQ;refine A5 ?_;refine jc ?_;refine A1 ?_;refine(Bu [(0,_),(1,_),(2,_)]) (QT) ?_;refine dW ?_;refine TM 2 ?_;exact absurd (hsq.symm.trans hs2) ax
 ·have hsq:qE r=false:=haQ;refine nI ?_;refine Cd ?_ ?_<;>intro hbQ
  ·have hs2:qE r=true:=hbQ;refine A2 ?_;refine L4 0 0 ?_;refine L4 3 0 ?_;refine Pc (fJ p (if qE r=true then fQ r else 0)) ?_;refine(Bu [(0,_)]) (Au) ?_;refine Ss 2 ?_;refine A5 ?_;refine TM 2 ?_;exact absurd (hsq.symm.trans hs2) ax
  ·have hs2:qE r=false:=hbQ;refine A5 ?_;refine jc ?_;refine A1 ?_;refine(Bu [(0,_),(1,_),(2,_)]) (QT) ?_;refine dW ?_;refine TM 2 ?_;exact congrArg (fun x=>Ending.returned (RV x)) (show(⟨p,r,n⟩:Rl)=(if qE r=true then(if n=true then rl (p-fQ r) else rl (p+fQ r)) else⟨p,r,n⟩) by rw[hsq,if_neg ax])
end Go.Proofs.YtaffcpfhedadhaaGreatDoor
namespace Go.Via
open Go
def frP(a b:Nat):Rat:=Rat.divInt ((a%64:Nat):Int) ((1+b%4:Nat):Int)
def frR(c d:Nat):Rat:=Rat.divInt ((c%12:Nat):Int) ((1+d%3:Nat):Int)
def bn(a b c d:Nat)(s:Bool):Rl:=if qE (Rat.divInt ((c%12:Nat):Int) ((1+d%3:Nat):Int))=true then(if s=true then rl ((Rat.divInt ((a%64:Nat):Int) ((1+b%4:Nat):Int))-fQ (Rat.divInt ((c%12:Nat):Int) ((1+d%3:Nat):Int))) else rl ((Rat.divInt ((a%64:Nat):Int) ((1+b%4:Nat):Int))+fQ (Rat.divInt ((c%12:Nat):Int) ((1+d%3:Nat):Int)))) else⟨(Rat.divInt ((a%64:Nat):Int) ((1+b%4:Nat):Int)),(Rat.divInt ((c%12:Nat):Int) ((1+d%3:Nat):Int)),s⟩
def qoc(a b:Nat):bY (frP a b)<=4:=Nat.le_trans (mM (a:=1) (b:=1) (jQ ae ae) (jQ ae ae) (Nat.le_refl _)) ae
def qod(a b:Nat):bY (frR a b)<=4:=Nat.le_trans (mM (a:=1) (b:=1) (jQ ae ae) (jQ ae ae) (Nat.le_refl _)) ae
def qoe(c d:Nat):0<=frR c d:=Rat.divInt_nonneg ae ae
theorem qav(a b c d:Nat)(s:Bool):bn a b c d s=if qE (frR c d)=true then(if s=true then rl (frP a b-fQ (frR c d)) else rl (frP a b+fQ (frR c d))) else⟨frP a b,frR c d,s⟩:=rfl
def Gw(a b c d:Nat)(s:Bool):(bn a b c d s).ok:=by
 rw[qav]
 split
 ·split<;>exact PQ _
 ·rename_i h
  refine .inr ⟨?_,pI⟩;show 0<frR c d;have h1:=qoe c d;exact Rat.lt_of_le_of_ne h1 fun e=>h (by rw[<-e];exact FY)
def JZ(a b c d:Nat)(s:Bool):fV (bn a b c d s)<=20:=by
 rw[qav];have h1:=qoc a b;have h2:=qod c d;have h3:=Gs (frR c d);have h4:=gW (frP a b) (fQ (frR c d));have h5:=iG (frP a b) (fQ (frR c d))
 split
 ·split
  ·exact vC ae ae
  ·exact vC ae ae
 ·exact Nat.max_le.2 ⟨by show bY (frP a b)<=20;omega,by show bY (frR c d)<=20;omega⟩
end Go.Via
namespace Go.Via
open Go
def Yk(x:Rl):Int:=pF x.p (jI x) x.r
def lS(x:Rl):Int:=
 (if x.n=true then x.p.num*x.r.den-((bV ((x.p.den*x.p.den)*(x.r.num.natAbs*x.r.den)):Nat)+1) else x.p.num*x.r.den+(bV ((x.p.den*x.p.den)*(x.r.num.natAbs*x.r.den)):Nat))/((x.p.den*x.r.den:Nat):Int)
def dL(q:Qd):List Rl:=
 if q.c2=0 then(if q.c1=0 then[] else[rl (-(q.c0/q.c1))]) else
 let h:=q.c1/(-2*q.c2)
 let r:=h*h-q.c0/q.c2
 if r<0 then[] else if r=0 then[rl h] else[mkR h (-1) r,mkR h 1 r]
def tX(x y:Rl):Option Rat:=
 if dO x=true∧dO y=true∧fV x<=1000∧fV y<=1000∧¬Yk x<0∧0<Yk y∧0<aV y (rl ((lS x+1:Int):Rat))∧x.n=false∧jv (lS x)<=4000 then some ((lS x+1:Int):Rat) else none
def Gx(sm:Rl->Rl->Option Rat)(q:Qd)(i:Iv):Option Int:=
 if aV i.f i.t<0 then(sm i.f i.t).bind fun r=>if bY r<=5000 then some (Yk (Be q (rl r))) else none else none
def gK(sm:Rl->Rl->Option Rat)(q:Qd)(i:Iv):List Rl->Iv->List (Iv×Int)->Option (List (Iv×Int))
 |[],rest,out=>if lD rest=true then(Gx sm q rest).map fun s=>out++[(rest,s)] else some out
 |r::rs,rest,out=>
  if CZ i r=false then gK sm q i rs rest out else
  if aV rest.f r<0 then(Gx sm q ⟨rest.f,r,rest.fo,true⟩).bind fun s=>gK sm q i rs ⟨r,rest.t,true,rest.tp⟩ (out++[(⟨rest.f,r,rest.fo,true⟩,s),(⟨r,r,false,false⟩,0)])
  else gK sm q i rs ⟨r,rest.t,true,rest.tp⟩ (out++[(⟨r,r,false,false⟩,0)])
def qsb(l:List Iv)(i:Iv):List Iv:=match l.getLast? with
 |some u=>l.dropLast++[⟨u.f,i.t,u.fo,i.tp⟩]
 |none=>l
def nG(a b c:Bool)(s:Int):Bool:=if s<0 then a else if s=0 then b else c
def oq(w:Int->Bool):List (Iv×Int)->List Iv->Bool->List Iv
 |[],out,_=>out
 |p::ps,out,before=>if w p.2=true then oq w ps (if before=true then qsb out p.1 else out++[p.1]) true else oq w ps out false
def tK(sm:Rl->Rl->Option Rat)(w:Int->Bool)(q:Qd)(i:Iv):Option (List Iv):=(gK sm q i (dL q) i []).map fun l=>oq w l [] false
def Nk(sm:Rl->Rl->Option Rat)(r:Rat):List (Iv×Qd)->Option (List Iv)
 |[]=>some []
 |x::l=>(tK sm (nG false false true) (ql x.2 ⟨r*r,0,0⟩) x.1).bind fun a=>(Nk sm r l).map fun b=>a++b
end Go.Via
