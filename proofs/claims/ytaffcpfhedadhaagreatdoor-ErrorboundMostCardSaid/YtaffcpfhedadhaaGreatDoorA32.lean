/-
  Part 32 (chapter 32): lemmas, walks. Each theorem states its own conditions.
-/
import Derived.Lib.Repeat
import Derived.Shelf.SlSortCmp.WholeK
import Derived.Shelf.SlSortCmp.NoneTotal
import Derived.Sort.Grow
import Derived.Sort.EncStr
import Derived.Lib.SliceRun
import Derived.Test.YtaffcpfhedadhaaGreatDoorA30
import Derived.Test.YtaffcpfhedadhaaGreatDoorA31
set_option linter.all false
set_option maxRecDepth 20000
set_option maxHeartbeats 20000000
section
variable{P Q:Prop}{T:Type}{R:T->Prop}
def qfw(h:P:=by refine Dp [] (0::1::2::3::4::6::7::8::9::10::12::13::14::15::16::19::20::21::22::23::25::26::27::28::29::32::33::34::35::36::5::11::17::18::24::30::31::37::38::39::40::41::[]) ?_ (hc:=(pO (0::0::2::0::8::31::0::0::128::0::512::2047::0::0::8192::0::32768::131071::262143::0::0::1048576::0::4194304::16777215::0::0::67108864::0::268435456::1073741823::2147483647::0::0::8589934592::0::34359738368::137438953471::274877906943::549755813887::1099511627775::2199023255551::[]) ak));refine A2 ?_;refine L4 0 0 ?_;refine A1 ?_;refine L4 1 0 ?_;refine A2 ?_;refine L4 0 0 ?_;refine A1 ?_;refine L4 1 4 ?_;refine A2 ?_;refine L4 0 4 ?_;refine A1 ?_;refine L4 1 0 ?_;refine A2 ?_;refine L4 0 0 ?_;refine A1 ?_;refine L4 1 8 ?_;refine A2 ?_;refine L4 0 8 ?_;refine A1 ?_;refine L4 1 0 ?_;refine A2 ?_;refine L4 0 4 ?_;refine A1 ?_;refine L4 1 4 ?_;refine oK [_,_] rfl rfl rfl rfl (bK f.c0 g.c0) ?_;refine oK [_,_] rfl rfl rfl rfl (bK f.c0 g.c1) ?_;refine oK [_,_] rfl rfl rfl rfl (bK f.c1 g.c0) ?_;refine Pc (dH (f.c0*g.c1) (f.c1*g.c0)) ?_;refine oK [_,_] rfl rfl rfl rfl (bK f.c0 g.c2) ?_;refine oK [_,_] rfl rfl rfl rfl (bK f.c2 g.c0) ?_;refine Pc (dH (f.c0*g.c2) (f.c2*g.c0)) ?_;refine oK [_,_] rfl rfl rfl rfl (bK f.c1 g.c1) ?_;refine Pc (dH (f.c0*g.c2+f.c2*g.c0) (f.c1*g.c1)) ?_;refine(Bu [(0,_),(1,_),(2,_)]) (Qv) ?_;refine Ss 2 ?_;refine A4 ?_;refine bM rfl (bz 2 rfl rfl qdj (vs:=[_,_,_,_,_,_,_,_,_,_,_,_]) rfl rfl (Nat.le_of_ble_eq_true rfl) rfl) (au rfl) (fun w hL=>⟨?_,hL.below⟩);exact rfl):=h
def ZB(h:P:=by refine rU 2 0 [_,_,⟨some g2,61,_,20,true⟩,_] [_,_,_,_,_,_,_,_,_,_,_,_,_,_,_,_,_,_,_,_] rfl rfl rfl rfl mr rfl rfl rfl rfl rfl rfl ?_;refine A4 ?_;refine bM rfl (bz 2 rfl rfl mr (vs:=[_,_,_,_,_,_,_,_,_,_,_,_,_,_,_,_,_,_,_,_]) rfl rfl (Nat.le_of_ble_eq_true rfl) rfl) (au rfl) (fun w hL=>⟨?_,hL.below⟩);exact congrArg (fun z=>Ending.returned (.tuple #[fV (fC a b),.bool z])) (by unfold lF fC;simp_all)):=h
def FZ(q:Q)(h:bu Q->P:=by intro q_;refine aI 0 ((i)*36) u29 EU rfl rfl rfl rfl rfl ae ae (aX.ne ax ae) oD ?_;exact q_.qq):=h ⟨q⟩
def qk9(h:P:=by
 refine A2 ?_;refine Bp 20 (fun g0=>?_);refine Bp 20 (fun g1=>?_);refine A6 ?_;refine L9 0 9 ?_;refine A1 ?_;refine L9 1 0 ?_;refine Pc (dI a.t b.f) ?_;refine A8 ?_;refine Rs 13 ?_ ?_<;>intro haQ
 ·refine D7 ?_;refine E0 ?_;exact eB Rh
 ·exact qnr):=h
def qnr(h:P:=by
 refine A3 ?_;refine Rs 16 ?_ ?_<;>intro hbQ
 ·refine A3 ?_;refine Rs 19 ?_ ?_<;>intro hcQ
  ·refine A9 ?_;refine E0 ?_;exact eB Rh
  ·refine A9 ?_;refine E0 ?_;exact eB Rh
 ·refine nT ?_;refine E0 ?_;exact eB Rh):=h
def Me(h:P:=by refine nT ?_;refine aK rfl (au rfl) (fun w hL=>⟨⟨ob,oN,oc,h3⟩,?_,hL.pk [some 1]⟩);exact rfl):=h
def jO(q:Q)(h:bu Q->P:=by intro q_;refine iY rfl rfl rfl rfl qoT (qpl _ _) ?_;exact q_.qq):=h ⟨q⟩
def qns(q:Q)(h:bu Q->P:=by intro q_;refine Xx ?_;refine Xx ?_;exact q_.qq):=h ⟨q⟩
def kL(q:∀x,R x)(h:bu (∀x,R x)->P:=by intro q_;refine A2 ?_;refine Bp 12 (fun g0=>?_);exact q_.qq g0):=h ⟨q⟩
def Xx(q:Q)(h:bu Q->P:=by intro q_;refine dY [_,_] rfl rfl rfl (bK _ _ iV iV) ?_;exact q_.qq):=h ⟨q⟩
def xu(h:P:=by have e:=haQ;simpa using e):=h
def Hm(h:P:=by have e:=hbQ;simpa using e):=h
def Xy(h:P:=by show 0+Int.toNat _*4=_;rfl):=h
def Ho(h:P:=by have e:=haQ;revert e;unfold dE;simp):=h
def MB(h:P:=by exact(congrArg some (by rfl))):=h
def o7(h:P:=by exact(congrArg some (wi fK fK rfl))):=h
def Q7(h:P:=by unfold jP;omega):=h
def Q8(h:P:=by rw[uF];exact Nat.le_refl _):=h
def lq(h:P:=by rw[List.length_append];exact r.h):=h
def nM(h:P:=by show l.length-(i+1)<l.length-i;omega):=h
def lT(h:P:=by rw[List.length_append];rfl):=h
def lU(h:P:=by rw[qP]):=h
def Bc(h:P:=by rw[hI,List.take_length]):=h
def qfx(h:P:=by cases e:dV i.f<;>simp[e] at haQ ⊢):=h
def qfy(h:P:=by cases e:dV i.t<;>simp[e] at hbQ ⊢):=h
def qfz(h:P:=by rw[qbU];have e:=hcQ;simp at e ⊢;omega):=h
def Q9(h:P:=by unfold Pg;first|(simp_all;done)|(simp_all;omega)|(simp_all;intros;omega)):=h
def Rf(h:P:=by cases x<;>cases y<;>simp_all):=h
def oD(h:P:=by show 0+Int.toNat _*36=_;omega):=h
def Rh(h:P:=by unfold Xb;first|(simp_all;done)|(simp_all;omega)|(simp_all;intros;omega)):=h
end
namespace Go.Proofs.YtaffcpfhedadhaaGreatDoor
open Go Go.RowKit Go.Via
variable[Mo]
def Be(a b r:Rat)(ha:cO a<=500000:=by omega)(hb:cO b<=500000:=by omega)(hr:cO r<=500000:=by omega):aP Tryz.prog 181 #[Q a,Q b,Q r] (.int .i64 (uo a b r)):=by
 refine pB3 40 Tryz.func181 fun w=>?_;refine jd fun g0=>?_;refine Bp 4 (fun g1=>?_);refine Bp 4 (fun g2=>?_);refine A4 ?_;refine Dp [2000000] [0,2,4,1,3,5,6,7,8] ?_;refine jM ?_;refine L4 2 0 ?_;refine Pc (dX _) ?_;refine Pc (dX _) ?_;refine Pc (dX _) ?_;refine(Aq (dE b*dE r)) (congrArg some (w3 (Ej b) (Ej r))) ?_;refine oJ ?_;refine Rs 19 ?_ ?_<;>intro haQ
 ·have hs19:=eq_of_beq haQ;refine QI ?_;refine E0 ?_;rw[qnm hs19];rfl
 ·have hs19:=ne_of_beq_false haQ;refine A7 ?_;refine Cd ?_ ?_<;>intro hbQ
  ·have hs16:=eq_of_beq hbQ;refine A9 ?_;refine E0 ?_;rw[qnn hs16];rfl
  ·have hs16:=ne_of_beq_false hbQ;refine A7 ?_;refine Cd ?_ ?_<;>intro hcQ
   ·have hs25:=eq_of_beq hcQ;refine A9 ?_;refine E0 ?_;rw[qno hs19 hs16 hs25]
   ·have hs25:=ne_of_beq_false hcQ;refine A4 ?_;refine Dp [] [0,1,2,4,5,7,3,6,8,9,10,11] ?_;refine A1 ?_;refine L4 0 0 ?_;refine jM ?_;refine L4 1 0 ?_;refine L4 2 0 ?_;refine qns ?_;refine Xx ?_;refine dY [_,_] rfl rfl rfl (Ei _ _ iV iV) ?_;refine(Aq (dE a*ou (a*a) (b*b*r))) (congrArg some (w3 (Ej a) (qfs _ _))) ?_;refine A4 ?_;refine E0 ?_;rw[qnp hs19 hs16 hs25]
def xx(x:Rl):aP Tryz.prog 180 #[RV x] (Q (o5 x)):=by
 refine xI 7 Tryz.func180 fun w=>?_;refine A2 ?_;refine Bp 9 (fun g0=>?_);refine Al 4 qL (fun g1=>?_);refine A9 ?_;refine Cd ?_ ?_<;>intro haQ
 ·refine A2 ?_;refine dY [_] rfl rfl rfl (fH _) ?_;refine Ss 1 ?_;refine A4 ?_;refine Ip 1 ?_;rw[qpx haQ];rfl
 ·refine A4 ?_;refine dY [_] rfl rfl rfl (fH _) ?_;refine Ss 1 ?_;refine A3 ?_;refine Ip 1 ?_;rw[qpy haQ];rfl
def Bf(x:Rl)(hx:gJ x<=400000:=by omega):aP Tryz.prog 236 #[RV x] (.int .i64 (uo x.p (o5 x) x.r)):=by
 have e1:=Nat.le_trans (sF x) hx;have e2:=Nat.le_trans (yh x) hx;have e3:=Xw x;refine xI 10 Tryz.func236 fun w=>?_;refine A2 ?_;refine Bp 9 (fun g0=>?_);refine A4 ?_;refine Dp [] [0,1,2,4,5,3,6,7] ?_;refine A1 ?_;refine L4 0 0 ?_;refine L9 0 0 ?_;refine A1 ?_;refine L4 0 4 ?_;refine Pc (xx x) ?_;refine Pc (Be x.p (o5 x) x.r) ?_;refine A4 ?_;refine E0 ?_;exact rfl
def dI(x y:Rl)(hx:gJ x<=50000:=by omega)(hy:gJ y<=50000:=by omega):aP Tryz.prog 130 #[RV x,RV y] (.int .i64 (bQ x y)):=by
 have x1:=Nat.le_trans (sF x) hx;have x2:=Nat.le_trans (yh x) hx;have y1:=Nat.le_trans (sF y) hy;have y2:=Nat.le_trans (yh y) hy;have fx:=Xw x;have fy:=Xw y;have l1:=iq x.p y.p;have l2:=bV (x.p-y.p) (x.p-y.p);have l3:=jf ((x.p-y.p)*(x.p-y.p)) x.r;have l4:=iq ((x.p-y.p)*(x.p-y.p)+x.r) y.r;have l5:=bV (x.p-y.p) (o5 x);have l6:=bV 2 ((x.p-y.p)*o5 x);have l7:=FY;refine oz 65 Tryz.func130 fun w=>?_;refine A2 ?_;refine Bp 9 (fun g0=>?_);refine Bp 9 (fun g1=>?_);refine A4 ?_;refine Dq [3000000] [0,1,2,3,5,7,4,6,8,9,10,11,12,13,14,15] ?_;refine A1 ?_;refine L4 0 0 ?_;refine A1 ?_;refine L4 1 0 ?_;refine L9 0 0 ?_;refine L9 1 0 ?_;refine Pc (eU x.p y.p) ?_;refine Pc (xx x) ?_;refine Pc (xx y) ?_;refine Pc (ve (o5 y)) ?_;refine Al 4 qL (fun g2=>?_);refine Al 4 qL (fun g3=>?_);refine Al 4 qL (fun g4=>?_);refine Ss 2 ?_;refine Ss 3 ?_;refine Ss 4 ?_;refine A3 ?_;refine Dp [2000000] [0,1,2,3,5,7,8,4,6,9,10,11,12] ?_;refine L4 2 0 ?_;refine L4 3 0 ?_;refine A1 ?_;refine L4 0 4 ?_;refine L4 4 0 ?_;refine A1 ?_;refine L4 1 4 ?_;refine Pc (Be (x.p-y.p) (o5 x) x.r) ?_;refine Pc (dX (-o5 y)) ?_;refine Pc (dX y.r) ?_;refine(Aq (dE (-o5 y)*dE y.r)) (congrArg some (w3 (Ej _) (Ej _))) ?_;refine oJ ?_;refine Rs 35 ?_ ?_<;>intro haQ
 ·have hs35:=eq_of_beq haQ;refine QI ?_;refine E0 ?_;rw[qjo hs35]
 ·have hs35:=ne_of_beq_false haQ;refine A7 ?_;refine Cd ?_ ?_<;>intro hbQ
  ·have hs32:=eq_of_beq hbQ;refine A9 ?_;refine E0 ?_;rw[qjp hs32]
  ·have hs32:=ne_of_beq_false hbQ;refine A7 ?_;refine Cd ?_ ?_<;>intro hcQ
   ·have hs41:=eq_of_beq hcQ;refine A9 ?_;refine E0 ?_;rw[qjq hs35 hs32 hs41]
   ·have hs41:=ne_of_beq_false hcQ;refine A4 ?_;refine Dq [3000000] [0,1,3,4,6,7,2,5,8,9,10] ?_;refine L4 2 0 ?_;refine L4 2 0 ?_;refine A1 ?_;refine L4 0 4 ?_;refine A1 ?_;refine L4 1 4 ?_;refine Pc (bK (x.p-y.p) (x.p-y.p)) ?_;refine Pc (dH ((x.p-y.p)*(x.p-y.p)) x.r) ?_;refine Pc (eU ((x.p-y.p)*(x.p-y.p)+x.r) y.r) ?_;refine Al 4 qL (fun g5=>?_);refine Ss 5 ?_;refine A3 ?_;refine Dp [] [0,1,3,4,7,8,2,5,6,9,10,11] ?_;refine A1 ?_;refine L4 5 0 ?_;refine L4 2 0 ?_;refine L4 3 0 ?_;refine A1 ?_;refine L4 0 4 ?_;refine Pc (fH 2) ?_;refine Kr 56 (Q 2) ?_;refine Pc (bK (x.p-y.p) (o5 x)) ?_;refine Pc (bK 2 ((x.p-y.p)*o5 x)) ?_;refine Pc (Be ((x.p-y.p)*(x.p-y.p)+x.r-y.r) (2*((x.p-y.p)*o5 x)) x.r) ?_;refine(Aq (uo (x.p-y.p) (o5 x) x.r*uo ((x.p-y.p)*(x.p-y.p)+x.r-y.r) (2*((x.p-y.p)*o5 x)) x.r)) (congrArg some (w3 (CE _ _ _) (CE _ _ _))) ?_;refine A4 ?_;refine E0 ?_;rw[qjr hs35 hs32 hs41]
def kM(q:Rat):aP Tryz.prog 86 #[Q q] (RV (rl q)):=by
 refine xI 5 Tryz.func86 fun w=>?_;refine jd fun g0=>?_;refine Al 9 Jq (fun g1=>?_);refine A4 ?_;refine L4 0 0 ?_;refine(Bu [(0,_)]) (Kt) ?_;refine Ss 1 ?_;refine A3 ?_;refine Ed9 1 ?_;rw[PH]
def wL(x:Rl)(q:Rat)(hx:gJ x<=50000:=by omega)(hq:cO q<=50000:=by omega):aP Tryz.prog 118 #[RV x,Q q] (.int .i64 (bQ x (rl q))):=by
 refine oz 9 Tryz.func118 fun w=>?_;refine A2 ?_;refine Bp 9 (fun g0=>?_);refine Bp 4 (fun g1=>?_);refine A4 ?_;refine Di [] ?_;refine L9 0 0 ?_;refine L4 1 0 ?_;refine Pc (kM q) ?_;refine Pc (dI x (rl q) hx (Em hq ae)) ?_;refine A4 ?_;refine E0 ?_;exact rfl
def MC(x y:Rl)(hx:gJ x<=50000:=by omega)(hy:gJ y<=50000:=by omega):aP Tryz.prog 83 #[RV x,RV y] (RV (gU x y)):=by
 refine oz 11 Tryz.func83 fun w=>?_;refine A2 ?_;refine Bp 9 (fun g0=>?_);refine Bp 9 (fun g1=>?_);refine Al 9 Jq (fun g2=>?_);refine A5 ?_;refine L9 1 0 ?_;refine L9 0 0 ?_;refine Pc (dI y x hy hx) ?_;refine A3 ?_;refine Cd ?_ ?_<;>intro haQ
 ·refine A2 ?_;refine L9 1 0 ?_;refine Ss 2 ?_;refine A4 ?_;refine Ed9 2 ?_;rw[gU,if_pos (of_decide_eq_true haQ)];rfl
 ·refine A4 ?_;refine L9 0 0 ?_;refine eG ?_;refine Ed9 2 ?_;rw[gU,if_neg (of_decide_eq_false haQ)];rfl
end Go.Proofs.YtaffcpfhedadhaaGreatDoor
namespace Go.Proofs.YtaffcpfhedadhaaGreatDoor
open Go Go.RowKit Go.Via
def vk(z:Int)(hz:jD z<=33554432:=by omega):aP Tryz.prog 159 #[I z] (.tuple #[I (if oq z=true then((bT z.natAbs:Nat):Int) else 0),.bool (oq z)]):=by
 have hr:=oO z.natAbs;have hz2:nb z.natAbs<=33554432:=hz;refine xI 20 Tryz.func159 fun w=>?_;refine nD fun g0=>?_;refine Al 2 xO (fun g1=>?_);refine lD ?_;refine Cd ?_ ?_<;>intro haQ
 ·refine A2 ?_;refine(Bu []) (GV) ?_;refine Ss 1 ?_;refine A5 ?_;refine bM rfl (bz 1 rfl rfl yH (vs:=[_,_]) rfl rfl (Nat.le_of_ble_eq_true rfl) rfl) (au rfl) (fun w hL=>⟨?_,hL.below⟩);rw[qfp haQ,if_neg ax,ZA]
 ·refine A6 ?_;refine Pc (AZ z.natAbs hz2) ?_;refine A5 ?_;refine Dp [] [0,1,3,4,2,5] ?_;refine A4 ?_;refine dY [_,_] rfl rfl rfl (Dn _ _) ?_;refine A3 ?_;refine Cd ?_ ?_<;>intro hbQ
  ·refine A2 ?_;refine(Bu []) (GV) ?_;refine Ss 1 ?_;refine A5 ?_;refine bM rfl (bz 1 rfl rfl yH (vs:=[_,_]) rfl rfl (Nat.le_of_ble_eq_true rfl) rfl) (au rfl) (fun w hL=>⟨?_,hL.below⟩);rw[qjn hbQ,if_neg ax,ZA]
  ·refine A5 ?_;refine Pc (dA false (bT z.natAbs)) ?_;refine Ss 1 ?_;refine A4 ?_;refine bM rfl (bz 1 rfl rfl yH (vs:=[_,_]) rfl rfl (Nat.le_of_ble_eq_true rfl) rfl) (au rfl) (fun w hL=>⟨?_,hL.below⟩);rw[qfq haQ hbQ,if_pos rfl];rfl
def zq(q:Rat)(hq:cO q<=4194303:=by omega):aP Tryz.prog 107 #[Q q] (.tuple #[Q (if Cc q=true then mZ q else 0),.bool (Cc q)]):=by
 have h1:=Nat.le_trans (VR q) hq;have h2:=Nat.le_trans (VS q) hq;have h3:=oO q.num.natAbs;have h4:=oO q.den;refine xI 30 Tryz.func107 fun w=>?_;refine jd fun g0=>?_;refine Al 4 qL (fun g1=>?_);refine A6 ?_;refine L2 0 0 ?_;refine Pc (vk q.num) ?_;refine A3 ?_;refine Al 2 xO (fun g2=>?_);refine Ss 2 ?_;refine A5 ?_;refine L4 0 0 ?_;refine Pc (eQ q) ?_;refine Pc (vk (q.den:Int)) ?_;refine A3 ?_;refine Al 2 xO (fun g3=>?_);refine Ss 3 ?_;refine A9 ?_;refine Rs 22 ?_ ?_<;>intro haQ
 ·have hs22:oq q.num=false:=xu
  refine A8 ?_;refine(Bu []) (yJ) ?_;refine Ss 1 ?_;refine A5 ?_;refine bM rfl (bz 1 rfl rfl yI (vs:=[_,_,_,_]) rfl rfl (Nat.le_of_ble_eq_true rfl) rfl) (au rfl) (fun w hL=>⟨?_,hL.below⟩);rw[Hl,hs22,Bool.false_and,if_neg ax,yE]
 ·have hs22:oq q.num=true:=xu
  refine A5 ?_;refine Cd ?_ ?_<;>intro hbQ
  ·have hs23:oq (q.den:Int)=false:=Hm
   refine A2 ?_;refine(Bu []) (yJ) ?_;refine Ss 1 ?_;refine A5 ?_;refine bM rfl (bz 1 rfl rfl yI (vs:=[_,_,_,_]) rfl rfl (Nat.le_of_ble_eq_true rfl) rfl) (au rfl) (fun w hL=>⟨?_,hL.below⟩);rw[Hl,hs23,Bool.and_false,if_neg ax,yE]
  ·have hs23:oq (q.den:Int)=true:=Hm
   refine A4 ?_;refine L2 2 0 ?_;refine L2 3 0 ?_;refine Pc (jV _ _ (qft hs22 h1) (qfu hs23 h2) (qfv hs23)) ?_;refine Ss 1 ?_;refine A4 ?_;refine bM rfl (bz 1 rfl rfl yI (vs:=[_,_,_,_]) rfl rfl (Nat.le_of_ble_eq_true rfl) rfl) (au rfl) (fun w hL=>⟨?_,hL.below⟩);rw[Hl,hs22,hs23];rfl
end Go.Proofs.YtaffcpfhedadhaaGreatDoor
namespace Go.Via
open Go
def ui(f:Qd):Nat:=max (cO f.c0) (max (cO f.c1) (cO f.c2))
def qf(f:Qd):cO f.c0<=ui f:=Nat.le_max_left ..
def qg(f:Qd):cO f.c1<=ui f:=Nat.le_trans (Nat.le_max_left ..) (Nat.le_max_right ..)
def qF(f:Qd):cO f.c2<=ui f:=Nat.le_trans (Nat.le_max_right ..) (Nat.le_max_right ..)
def Hq{f:Qd}{n:Nat}(h0:cO f.c0<=n)(h1:cO f.c1<=n)(h2:cO f.c2<=n):ui f<=n:=Nat.max_le.2 ⟨h0,Nat.max_le.2 ⟨h1,h2⟩⟩
def uj(f:Qd):Int:=if f.c2≠0 then 2 else if f.c1≠0 then 1 else if f.c0≠0 then 0 else-1
theorem Ri{q:Rat}:dE q≠0↔q≠0:=by
 rcases lI q with⟨h,e⟩|⟨h,e⟩|⟨h,e⟩<;>rw[e]<;>simp
 ·grind
 ·grind
 ·exact h
def xy(f:Qd)(t:Rat):cO (uI f t)<=cO f.c0+(cO t+(cO f.c1+(cO t+cO f.c2)+1))+1:=by
 unfold uI;have h1:=bV t f.c2;have h2:=jf f.c1 (t*f.c2);have h3:=bV t (f.c1+t*f.c2);have h4:=jf f.c0 (t*(f.c1+t*f.c2));omega
def qfA(f:Qd)(t:Rat):cO (Dj f t)<=cO f.c1+(cO f.c2+cO f.c2+1+cO t)+1:=by
 unfold Dj;have h1:=jf f.c2 f.c2;have h2:=bV (f.c2+f.c2) t;have h3:=jf f.c1 ((f.c2+f.c2)*t);omega
def Xz{f:Qd}{t:Rl}{m n:Nat}(hf:ui f<=m)(ht:gJ t<=n):gJ (O8 f t)<=10*m+10*n+20:=by
 have e0:=Nat.le_trans (qf f) hf;have e1:=Nat.le_trans (qg f) hf;have e2:=Nat.le_trans (qF f) hf;have t1:=Nat.le_trans (sF t) ht;have t2:=Nat.le_trans (yh t) ht;have h1:=xy f t.p;have h2:=qfA f t.p;have h3:=bV f.c2 t.r;have h4:=jf (uI f t.p) (f.c2*t.r);unfold O8;refine Nat.le_trans qnq ?_;have h5:cO (if t.n=true then-Dj f t.p else Dj f t.p)<=cO (Dj f t.p):=by
  split
  ·exact JY _
  ·exact Nat.le_refl _
 omega
end Go.Via
namespace Go.Via
theorem Ve:bP (0:Rat).num.natAbs=⟨#[]⟩:=iW
theorem dm0:dm 0=⟨#[]⟩:=rfl
theorem Vf:decide ((0:Rat).num<0)=false:=rfl
theorem ZC(a b:Rat):qp ⟨a,b,0⟩= .agg #[.bool (decide (a.num<0)),.string (bP a.num.natAbs),.bool false,.string (dm a),.bool (decide (b.num<0)),.string (bP b.num.natAbs),.bool false,.string (dm b),aZ,bf,aZ,bf]:=by
 unfold qp;dsimp only;rw[Ve,dm0,Vf]
theorem PI(a:Rat):qp ⟨a,0,0⟩= .agg #[.bool (decide (a.num<0)),.string (bP a.num.natAbs),.bool false,.string (dm a),aZ,bf,aZ,bf,aZ,bf,aZ,bf]:=by
 unfold qp;dsimp only;rw[Ve,dm0,Vf]
def qfB:qp ⟨0,0,0⟩= .agg #[aZ,bf,aZ,bf,aZ,bf,aZ,bf,aZ,bf,aZ,bf]:=by
 unfold qp;dsimp only;rw[Ve,dm0,Vf]
theorem CJ:RV (rl 0)= .agg #[aZ,bf,aZ,bf,aZ,bf,aZ,bf,.bool false]:=by
 rw[PH,Ve,dm0,Vf]
def vw(f:Qd)(t:Rl):Qd:=if t.r=0 then⟨uI f t.p,0,0⟩ else⟨f.c0+f.c2*(t.r-t.p*t.p),Dj f t.p,0⟩
def qh(f g:Qd):Qd:=⟨f.c0-g.c0,f.c1-g.c1,f.c2-g.c2⟩
def qjt{f g:Qd}{m n:Nat}(hf:ui f<=m)(hg:ui g<=n):ui (qh f g)<=m+n+1:=by
 have f0:=Nat.le_trans (qf f) hf;have f1:=Nat.le_trans (qg f) hf;have f2:=Nat.le_trans (qF f) hf;have g0:=Nat.le_trans (qf g) hg;have g1:=Nat.le_trans (qg g) hg;have g2:=Nat.le_trans (qF g) hg;refine Hq ?_ ?_ ?_
 ·have:=iq f.c0 g.c0;show cO (f.c0-g.c0)<=_;omega
 ·have:=iq f.c1 g.c1;show cO (f.c1-g.c1)<=_;omega
 ·have:=iq f.c2 g.c2;show cO (f.c2-g.c2)<=_;omega
def qrG(f:Qd)(n:Nat):Prop:=n<=3∧(n<=2->f.c2=0)∧(n<=1->f.c1=0)∧(n<=0->f.c0=0)
def qfC{q:Rat}(h:dE q=0):q=0:=Classical.byContradiction fun e=>Ri.2 e h
theorem qnt{f:Qd}(h:dE f.c2≠0):uj f=2:=by unfold uj;rw[if_pos (Ri.1 h)]
theorem qnu{f:Qd}(h2:f.c2=0)(h:dE f.c1≠0):uj f=1:=by unfold uj;rw[if_neg (fun e=>e h2),if_pos (Ri.1 h)]
theorem qnv{f:Qd}(h2:f.c2=0)(h1:f.c1=0)(h:dE f.c0≠0):uj f=0:=by unfold uj;rw[if_neg (fun e=>e h2),if_neg (fun e=>e h1),if_pos (Ri.1 h)]
theorem qnw{f:Qd}(h2:f.c2=0)(h1:f.c1=0)(h:f.c0=0):uj f= -1:=by unfold uj;rw[if_neg (fun e=>e h2),if_neg (fun e=>e h1),if_neg (fun e=>e h)]
def Vg{f:Qd}(h:f.c2=0):uj f<=1:=by unfold uj;rw[if_neg (fun e=>e h)];split<;>(try split)<;>omega
def ZE(f:Qd): -1<=uj f∧uj f<=2:=by
 unfold uj
 by_cases h2:f.c2=0<;>by_cases h1:f.c1=0<;>by_cases h0:f.c0=0<;>simp[h0,h1,h2]
def qnx{r:Rat}(h:0<=r):¬r.num.sign<0:=by
 have:¬dE r<0:=by rcases lI r with⟨_,e⟩|⟨e1,_⟩|⟨_,e⟩<;>(try rw[e])<;>(try decide);grind
 exact this
end Go.Via
namespace Go.Proofs.YtaffcpfhedadhaaGreatDoor
open Go Go.RowKit Go.Via
def I7(x:Rl):aP Tryz.prog 318 #[RV x] (.tuple #[Q (if x.r=0 then x.p else 0),.bool (decide (x.r=0))]):=by
 refine xI 11 Tryz.func318 fun w=>?_;refine A2 ?_;refine Bp 9 (fun g0=>?_);refine Al 4 qL (fun g1=>?_);refine A7 ?_;refine L4 0 4 ?_;refine(Bu []) (yJ) ?_;refine aF 6 (Q 0) rfl yE.symm ?_;refine EN rfl rfl rfl rfl qdr (qdt _ _) ?_;refine A2 ?_;refine Cd ?_ ?_<;>intro haQ
 ·have hs7:x.r≠0:=xu
  refine A2 ?_;refine(Bu []) (yJ) ?_;refine aF 8 (Q 0) rfl yE.symm ?_;refine Ss 1 ?_;refine A5 ?_;refine bM rfl (bz 1 rfl rfl yI (vs:=[_,_,_,_]) rfl rfl (Nat.le_of_ble_eq_true rfl) rfl) (au rfl) (fun w hL=>⟨?_,hL.below⟩);rw[if_neg hs7,decide_eq_false hs7];rfl
 ·have hs7:x.r=0:=xu
  refine A5 ?_;refine L4 0 0 ?_;refine Ss 1 ?_;refine A4 ?_;refine bM rfl (bz 1 rfl rfl yI (vs:=[_,_,_,_]) rfl rfl (Nat.le_of_ble_eq_true rfl) rfl) (au rfl) (fun w hL=>⟨?_,hL.below⟩);rw[if_pos hs7,decide_eq_true hs7];rfl
def sG(c:Rat):aP Tryz.prog 74 #[Q c] (qp ⟨c,0,0⟩):=by
 refine xI 5 Tryz.func74 fun w=>?_;refine jd fun g0=>?_;refine Al 12 Ij (fun g1=>?_);refine A4 ?_;refine L4 0 0 ?_;refine(Bu [(0,_)]) (qdo) ?_;refine Ss 1 ?_;refine A3 ?_;refine KY 1 ?_;rw[PI]
def jG(a b:Rat):aP Tryz.prog 141 #[Q a,Q b] (qp ⟨a,b,0⟩):=by
 refine oz 8 Tryz.func141 fun w=>?_;refine jd fun g0=>?_;refine Bp 4 (fun g1=>?_);refine Al 12 Ij (fun g2=>?_);refine A4 ?_;refine jM ?_;refine(Bu [(0,_),(1,_)]) (qdp) ?_;refine eG ?_;refine KY 2 ?_;rw[ZC]
def I8(f g:Qd)(hf:ui f<=1000000:=by omega)(hg:ui g<=1000000:=by omega):aP Tryz.prog 92 #[qp f,qp g] (qp ⟨f.c0+g.c0,f.c1+g.c1,f.c2+g.c2⟩):=by
 have f0:=Nat.le_trans (qf f) hf;have f1:=Nat.le_trans (qg f) hf;have f2:=Nat.le_trans (qF f) hf;have g0:=Nat.le_trans (qf g) hg;have g1:=Nat.le_trans (qg g) hg;have g2:=Nat.le_trans (qF g) hg;refine oz 21 Tryz.func92 fun w=>?_;refine kL fun g0=>?_;refine Bp 12 (fun g1=>?_);refine Al 12 Ij (fun g2=>?_);refine A3 ?_;refine Dp [] [0,1,2,3,5,6,7,8,10,11,12,13,4,9,14,15,16] ?_;refine A1 ?_;refine L4 0 0 ?_;refine A1 ?_;refine L4 1 0 ?_;refine A1 ?_;refine L4 0 4 ?_;refine A1 ?_;refine L4 1 4 ?_;refine A1 ?_;refine L4 0 8 ?_;refine A1 ?_;refine L4 1 8 ?_;refine Pc (dH f.c0 g.c0) ?_;refine Pc (dH f.c1 g.c1) ?_;refine Pc (dH f.c2 g.c2) ?_;refine(Bu [(0,_),(1,_),(2,_)]) (Qv) ?_;refine eG ?_;refine KY 2 ?_;exact rfl
def zu(f g:Qd)(hf:ui f<=1000000:=by omega)(hg:ui g<=1000000:=by omega):aP Tryz.prog 77 #[qp f,qp g] (qp (qh f g)):=by
 have f0:=Nat.le_trans (qf f) hf;have f1:=Nat.le_trans (qg f) hf;have f2:=Nat.le_trans (qF f) hf;have g0:=Nat.le_trans (qf g) hg;have g1:=Nat.le_trans (qg g) hg;have g2:=Nat.le_trans (qF g) hg;refine oz 21 Tryz.func77 fun w=>?_;refine kL fun g0=>?_;refine Bp 12 (fun g1=>?_);refine Al 12 Ij (fun g2=>?_);refine A3 ?_;refine Dp [] [0,1,2,3,5,6,7,8,10,11,12,13,4,9,14,15,16] ?_;refine A1 ?_;refine L4 0 0 ?_;refine A1 ?_;refine L4 1 0 ?_;refine A1 ?_;refine L4 0 4 ?_;refine A1 ?_;refine L4 1 4 ?_;refine A1 ?_;refine L4 0 8 ?_;refine A1 ?_;refine L4 1 8 ?_;refine Pc (eU f.c0 g.c0) ?_;refine Pc (eU f.c1 g.c1) ?_;refine Pc (eU f.c2 g.c2) ?_;refine(Bu [(0,_),(1,_),(2,_)]) (Qv) ?_;refine eG ?_;refine KY 2 ?_;exact rfl
def yj(f:Qd)(t:Rat)(hf:ui f<=500000:=by omega)(ht:cO t<=500000:=by omega):aP Tryz.prog 143 #[qp f,Q t] (Q (uI f t)):=by
 have f0:=Nat.le_trans (qf f) hf;have f1:=Nat.le_trans (qg f) hf;have f2:=Nat.le_trans (qF f) hf;have l1:=bV t f.c2;have l2:=jf f.c1 (t*f.c2);have l3:=bV t (f.c1+t*f.c2);refine oz 17 Tryz.func143 fun w=>?_;refine kL fun g0=>?_;refine Bp 4 (fun g1=>?_);refine Al 4 qL (fun g2=>?_);refine A3 ?_;refine Di [] ?_;refine A1 ?_;refine jM ?_;refine A1 ?_;refine L4 0 4 ?_;refine L4 1 0 ?_;refine A1 ?_;refine L4 0 8 ?_;refine Pc (bK t f.c2) ?_;refine Pc (dH f.c1 (t*f.c2)) ?_;refine Pc (bK t (f.c1+t*f.c2)) ?_;refine Pc (dH f.c0 (t*(f.c1+t*f.c2))) ?_;refine eG ?_;refine Ip 2 ?_;exact rfl
def wM(f:Qd)(t:Rat)(hf:ui f<=500000:=by omega)(ht:cO t<=500000:=by omega):aP Tryz.prog 144 #[qp f,Q t] (Q (Dj f t)):=by
 have f0:=Nat.le_trans (qf f) hf;have f1:=Nat.le_trans (qg f) hf;have f2:=Nat.le_trans (qF f) hf;have l1:=jf f.c2 f.c2;have l2:=bV (f.c2+f.c2) t;refine oz 15 Tryz.func144 fun w=>?_;refine kL fun g0=>?_;refine Bp 4 (fun g1=>?_);refine Al 4 qL (fun g2=>?_);refine A3 ?_;refine Dp [] [0,1,2,3,4,5,7,6,8,9,10] ?_;refine A1 ?_;refine L4 0 4 ?_;refine A1 ?_;refine L4 0 8 ?_;refine A1 ?_;refine L4 0 8 ?_;refine L4 1 0 ?_;refine Pc (dH f.c2 f.c2) ?_;refine Pc (bK (f.c2+f.c2) t) ?_;refine Pc (dH f.c1 ((f.c2+f.c2)*t)) ?_;refine eG ?_;refine Ip 2 ?_;exact rfl
def IE(p q r:Rat)(h0:0<=r:=by omega)(hp:cO p<=500000:=by omega)(hq:cO q<=500000:=by omega)(hr:cO r<=500000:=by omega):aP Tryz.prog 146 #[Q p,Q q,Q r] (.tuple #[RV (mkR p q r),.int .i64 0]):=by
 have l1:=bV q q;have l2:=Q5 r;have l3:=bV q (mZ r);refine pB3 36 Tryz.func146 fun w=>?_;refine jd fun g0=>?_;refine Bp 4 (fun g1=>?_);refine Bp 4 (fun g2=>?_);refine Al 9 Jq (fun g3=>?_);refine A6 ?_;refine L4 2 0 ?_;refine Pc (dX r) ?_;refine A3 ?_;refine Cd ?_ ?_<;>intro haQ
 ·exact absurd (of_decide_eq_true haQ) (by have:=(qnx h0);omega)
 ·refine A5 ?_;refine L4 2 0 ?_;refine Pc (zq r) ?_;refine A3 ?_;refine Al 4 qL (fun g4=>?_);refine Ss 4 ?_;refine A8 ?_;refine Cd ?_ ?_<;>intro hbQ
  ·have hs:Cc r=true:=hbQ;refine A1 ?_;refine Di [] ?_;refine jM ?_;refine L4 4 0 ?_;refine aF 22 (Q (mZ r)) rfl (by rw[hs,if_pos rfl];rfl) ?_;refine Pc (bK q (mZ r)) ?_;refine Pc (dH p (q*mZ r)) ?_;refine(Bu [(0,_)]) (Kt) ?_;refine Ss 3 ?_;refine A5 ?_;refine bM rfl (bz 3 rfl rfl dZ (vs:=[_,_,_,_,_,_,_,_,_]) rfl rfl (Nat.le_of_ble_eq_true rfl) rfl) (au rfl) (fun w hL=>⟨?_,hL.below⟩);rw[mkR,hs,if_pos rfl,PH]
  ·have hs:Cc r=false:=hbQ;refine A3 ?_;refine Dp [] [0,1,2,4,6,3,5,7,8,9,10,11] ?_;refine jM ?_;refine L4 1 0 ?_;refine L4 2 0 ?_;refine L4 1 0 ?_;refine Pc (bK q q) ?_;refine Pc (bK (q*q) r) ?_;refine Pc (dX q) ?_;refine A1 ?_;refine(Bu [(0,_),(1,_),(2,_)]) (qdn) ?_;refine Ss 3 ?_;refine A4 ?_;refine bM rfl (bz 3 rfl rfl dZ (vs:=[_,_,_,_,_,_,_,_,_]) rfl rfl (Nat.le_of_ble_eq_true rfl) rfl) (au rfl) (fun w hL=>⟨?_,hL.below⟩);rw[mkR,hs,if_neg ax];rfl
def vz(f:Qd)(t:Rl)(h0:0<=t.r:=by omega)(hf:ui f<=10000:=by omega)(ht:gJ t<=10000:=by omega):aP Tryz.prog 94 #[qp f,RV t] (RV (O8 f t)):=by
 have f0:=Nat.le_trans (qf f) hf;have f1:=Nat.le_trans (qg f) hf;have f2:=Nat.le_trans (qF f) hf;have t1:=Nat.le_trans (sF t) ht;have t2:=Nat.le_trans (yh t) ht;have l1:=xy f t.p;have l2:=qfA f t.p;have l3:=bV f.c2 t.r;have l4:=jf (uI f t.p) (f.c2*t.r);have l5:=JY (Dj f t.p);refine oz 36 Tryz.func94 fun w=>?_;refine kL fun g0=>?_;refine Bp 9 (fun g1=>?_);refine Al 9 Jq (fun g2=>?_);refine A3 ?_;refine Dq [3000000] [0,1,2,4,5,6,7,3,8,9,10,11] ?_;refine vU 0 0 ?_;refine A1 ?_;refine L4 1 0 ?_;refine A1 ?_;refine L4 0 8 ?_;refine A1 ?_;refine L4 1 4 ?_;refine Pc (yj f t.p) ?_;refine Pc (bK f.c2 t.r) ?_;refine Pc (dH (uI f t.p) (f.c2*t.r)) ?_;refine Al 4 qL (fun g3=>?_);refine Ss 3 ?_;refine A4 ?_;refine vU 0 0 ?_;refine A1 ?_;refine L4 1 0 ?_;refine Pc (wM f t.p) ?_;refine Al 4 qL (fun g4=>?_);refine Ss 4 ?_;refine A9 ?_;refine Cd ?_ ?_<;>intro haQ
 ·refine A1 ?_;refine L4 4 0 ?_;refine Pc (ve (Dj f t.p)) ?_;refine Ss 4 ?_;refine A4 ?_;refine L4 3 0 ?_;refine L4 4 0 ?_;refine A1 ?_;refine L4 1 4 ?_;refine Pc (IE (uI f t.p+f.c2*t.r) (-Dj f t.p) t.r h0) ?_;refine A3 ?_;refine Al 9 Jq (fun g5=>?_);refine Ss 5 ?_;refine A5 ?_;refine L9 5 0 ?_;refine eG ?_;refine Ed9 2 ?_;rw[O8,if_pos haQ];rfl
 ·refine A4 ?_;refine L4 3 0 ?_;refine L4 4 0 ?_;refine A1 ?_;refine L4 1 4 ?_;refine Pc (IE (uI f t.p+f.c2*t.r) (Dj f t.p) t.r h0) ?_;refine A3 ?_;refine Al 9 Jq (fun g5=>?_);refine Ss 5 ?_;refine A5 ?_;refine L9 5 0 ?_;refine eG ?_;refine Ed9 2 ?_;rw[O8,if_neg Md];rfl
def o8(f:Qd)(t:Rl)(hf:ui f<=100000:=by omega)(ht:gJ t<=100000:=by omega):aP Tryz.prog 316 #[qp f,RV t] (qp (vw f t)):=by
 have f0:=Nat.le_trans (qf f) hf;have f1:=Nat.le_trans (qg f) hf;have f2:=Nat.le_trans (qF f) hf;have t1:=Nat.le_trans (sF t) ht;have t2:=Nat.le_trans (yh t) ht;have l1:=bV t.p t.p;have l2:=iq t.r (t.p*t.p);have l3:=bV f.c2 (t.r-t.p*t.p);refine oz 38 Tryz.func316 fun w=>?_;refine kL fun g0=>?_;refine Bp 9 (fun g1=>?_);refine Al 12 Ij (fun g2=>?_);refine A5 ?_;refine L9 1 0 ?_;refine Pc (I7 t) ?_;refine A3 ?_;refine Al 4 qL (fun g3=>?_);refine Ss 3 ?_;refine A8 ?_;refine Cd ?_ ?_<;>intro haQ
 ·have hs13:t.r=0:=of_decide_eq_true haQ;refine A2 ?_;refine vU 0 0 ?_;refine L4 3 0 ?_;refine aF 15 (Q t.p) rfl (by rw[if_pos hs13];rfl) ?_;refine Pc (yj f t.p) ?_;refine Pc (sG (uI f t.p)) ?_;refine Ss 2 ?_;refine A4 ?_;refine KY 2 ?_;rw[vw,if_pos hs13];rfl
 ·have hs13:¬t.r=0:=of_decide_eq_false haQ;refine A3 ?_;refine Dq [3000000] [0,1,2,3,4,5,6,7,8,9] ?_;refine A1 ?_;refine L4 1 4 ?_;refine A1 ?_;refine L4 1 0 ?_;refine A1 ?_;refine L4 1 0 ?_;refine Pc (bK t.p t.p) ?_;refine Pc (eU t.r (t.p*t.p)) ?_;refine Al 4 qL (fun g4=>?_);refine Ss 4 ?_;refine A3 ?_;refine Dp [] [0,1,2,3,4,7,8,9,5,6,10,11,12] ?_;refine A1 ?_;refine L4 0 0 ?_;refine A1 ?_;refine L4 0 8 ?_;refine L4 4 0 ?_;refine vU 0 0 ?_;refine A1 ?_;refine L4 1 0 ?_;refine Pc (bK f.c2 (t.r-t.p*t.p)) ?_;refine Pc (dH f.c0 (f.c2*(t.r-t.p*t.p))) ?_;refine Pc (wM f t.p) ?_;refine Pc (jG (f.c0+f.c2*(t.r-t.p*t.p)) (Dj f t.p)) ?_;refine eG ?_;refine KY 2 ?_;rw[vw,if_neg hs13];rfl
def tq(t v u s:Rat)(h0:u-t≠0:=by omega)(h1:cO t<=100000:=by omega)(h2:cO v<=100000:=by omega)(h3:cO u<=100000:=by omega)(h4:cO s<=100000:=by omega):aP Tryz.prog 134 #[Q t,Q v,Q u,Q s] (.tuple #[qp ⟨v-(s-v)/(u-t)*t,(s-v)/(u-t),0⟩,.int .i64 0]):=by
 have l1:=iq s v;have l2:=iq u t;have l3:=qcX (s-v) (u-t);have l4:=bV ((s-v)/(u-t)) t;refine pB4 33 Tryz.func134 fun w=>?_;refine jd fun g0=>?_;refine Bp 4 (fun g1=>?_);refine Bp 4 (fun g2=>?_);refine Bp 4 (fun g3=>?_);refine Al 12 Ij (fun g4=>?_);refine A4 ?_;refine Dq [3000000] [0,1,3,4,2,5,6,7,8,10,11,9,12] ?_;refine L4 3 0 ?_;refine L4 1 0 ?_;refine L4 2 0 ?_;refine L4 0 0 ?_;refine Pc (eU s v) ?_;refine Pc (eU u t) ?_;refine Pc (Ba (s-v) (u-t)) ?_;refine A2 ?_;refine Al 4 qL (fun g5=>?_);refine Ss 5 ?_;refine A1 ?_;refine aF 21 (.int .i64 0) rfl (by rw[if_neg h0]) ?_;refine A8 ?_;refine Kr 23 (.bool false) ?_;refine A6 ?_;refine Dp [] [0,1,2,5,3,4,6,7,8] ?_;refine L4 1 0 ?_;refine L4 5 0 ?_;refine L4 0 0 ?_;refine L4 5 0 ?_;refine Pc (bK ((s-v)/(u-t)) t) ?_;refine Pc (eU v ((s-v)/(u-t)*t)) ?_;refine Pc (jG (v-(s-v)/(u-t)*t) ((s-v)/(u-t))) ?_;refine Ss 4 ?_;refine A4 ?_;refine bM rfl (bz 4 rfl rfl qdj (vs:=[_,_,_,_,_,_,_,_,_,_,_,_]) rfl rfl (Nat.le_of_ble_eq_true rfl) rfl) (au rfl) (fun w hL=>⟨?_,hL.below⟩);exact rfl
def o9(f:Qd):aP Tryz.prog 72 #[qp f] (.int .i64 (uj f)):=by
 refine xI 22 Tryz.func72 fun w=>?_;refine kL fun g0=>?_;refine A6 ?_;refine L4 0 0 ?_;refine A1 ?_;refine L4 0 4 ?_;refine A1 ?_;refine L4 0 8 ?_;refine(Bu [(0,_),(1,_),(2,_)]) (qhU) ?_;refine Al 12 qqY (fun g1=>?_);refine Ss 1 ?_;refine A9 ?_;refine El (ι:={n:Nat // qrG f n}) (fun⟨n,hc⟩=>([(3,dJ g1),(4,.int .i64 ((n:Int)-1))],[⟨some g0,91,qjd f,12,true⟩,⟨some g1,174,qjd f,12,true⟩],n)) ⟨3,ae,fun h=>absurd h ae,fun h=>absurd h ae,fun h=>absurd h ae⟩ ?_;rintro⟨n,hc⟩;(try dsimp only)
 have hn3:=hc.1;rcases(show n=3∨n=2∨n=1∨n=0 by omega) with rfl|rfl|rfl|rfl
 ·refine A5 ?_;refine Kr 13 (.bool true) ?_;refine lD ?_;refine tV 8 qmw yI rfl rfl rfl rfl ae ae Xy ?_;refine L4 1 8 ?_;refine Pc (dX f.c2) ?_;refine A3 ?_;refine Cd ?_ ?_<;>intro haQ
  ·have hs20:dE f.c2≠0:=Ho
   refine nT ?_;refine E0 ?_;rw[qnt hs20];rfl
  ·have hs20:dE f.c2=0:=Ho
   refine A5 ?_;refine(Aq (((2:Nat):Int)-1)) MB ?_;refine A3 ?_;exact Nl ⟨2,⟨ae,fun _=>qfC hs20,fun h=>absurd h ae,fun h=>absurd h ae⟩⟩ (hμ:=(by show 2<3;omega)) (hL:=dR.auto)
 ·refine A5 ?_;refine Kr 13 (.bool true) ?_;refine lD ?_;refine tV 4 qmw yI rfl rfl rfl rfl ae ae Xy ?_;refine L4 1 4 ?_;refine Pc (dX f.c1) ?_;refine A3 ?_;refine Cd ?_ ?_<;>intro haQ
  ·have hs20:dE f.c1≠0:=Ho
   refine nT ?_;refine E0 ?_;rw[qnu (hc.2.1 ae) hs20];rfl
  ·have hs20:dE f.c1=0:=Ho
   refine A5 ?_;refine(Aq (((1:Nat):Int)-1)) MB ?_;refine A3 ?_;exact Nl ⟨1,⟨ae,fun _=>hc.2.1 ae,fun _=>qfC hs20,fun h=>absurd h ae⟩⟩ (hμ:=(by show 1<2;omega)) (hL:=dR.auto)
 ·refine A5 ?_;refine Kr 13 (.bool true) ?_;refine lD ?_;refine tV 0 qmw yI rfl rfl rfl rfl ae ae Xy ?_;refine L4 1 0 ?_;refine Pc (dX f.c0) ?_;refine A3 ?_;refine Cd ?_ ?_<;>intro haQ
  ·have hs20:dE f.c0≠0:=Ho
   refine nT ?_;refine E0 ?_;rw[qnv (hc.2.1 ae) (hc.2.2.1 ae) hs20];rfl
  ·have hs20:dE f.c0=0:=Ho
   refine A5 ?_;refine(Aq (((0:Nat):Int)-1)) MB ?_;refine A3 ?_;exact Nl ⟨0,⟨ae,fun _=>hc.2.1 ae,fun _=>hc.2.2.1 ae,fun _=>qfC hs20⟩⟩ (hμ:=(by show 0<1;omega)) (hL:=dR.auto)
 ·refine A5 ?_;refine Kr 13 (.bool false) ?_;refine Ew ?_;refine E0 ?_;rw[qnw (hc.2.1 ae) (hc.2.2.1 ae) (hc.2.2.2 ae)]
def I9(f g:Qd)(z1:f.c2=0)(z2:g.c2=0)(hf:ui f<=100000:=by omega)(hg:ui g<=100000:=by omega):aP Tryz.prog 142 #[qp f,qp g] (.tuple #[qp ⟨f.c0*g.c0,f.c0*g.c1+f.c1*g.c0,f.c0*g.c2+f.c2*g.c0+f.c1*g.c1⟩,.int .i64 0]):=by
 have f0:=Nat.le_trans (qf f) hf;have f1:=Nat.le_trans (qg f) hf;have f2:=Nat.le_trans (qF f) hf;have g0:=Nat.le_trans (qf g) hg;have g1:=Nat.le_trans (qg g) hg;have g2:=Nat.le_trans (qF g) hg;have m0:=bV f.c0 g.c0;have m1:=bV f.c0 g.c1;have m2:=bV f.c1 g.c0;have m3:=bV f.c0 g.c2;have m4:=bV f.c2 g.c0;have m5:=bV f.c1 g.c1;have m6:=jf (f.c0*g.c2) (f.c2*g.c0);have d1:=Vg z1;have d2:=Vg z2;have d3:=ZE f;have d4:=ZE g;refine oz 66 Tryz.func142 fun w=>?_;refine kL fun g0=>?_;refine Bp 12 (fun g1=>?_);refine Al 12 Ij (fun g2=>?_);refine A4 ?_;refine Dp [] [0,2,1,3,4,5] ?_;refine vU 0 0 ?_;refine vU 1 0 ?_;refine Pc (o9 f) ?_;refine Pc (o9 g) ?_;refine lD ?_;refine Rs 15 ?_ ?_<;>intro haQ
 ·refine A4 ?_;refine Rs 19 ?_ ?_<;>intro hbQ
  ·refine A2 ?_;refine(Aq (uj f+uj g)) o7 ?_;refine A1 ?_;refine aF 23 (.bool false) rfl (congrArg Value.bool (decide_eq_false ae)) ?_;refine nT ?_;exact qfw
  ·refine SG ?_;exact qfw
 ·refine A20 ?_;exact qfw
def yl(f g:Qd)(t:Rl)(hf:ui f<=10000:=by omega)(hg:ui g<=10000:=by omega)(ht:gJ t<=10000:=by omega):aP Tryz.prog 317 #[qp f,qp g,RV t] (.bool (decide (vw (qh f g) t=⟨0,0,0⟩))):=by
 have hs:=qjt hf hg;refine pB3 14 Tryz.func317 fun w=>?_;refine kL fun g0=>?_;refine Bp 12 (fun g1=>?_);refine Bp 9 (fun g2=>?_);refine A4 ?_;refine Dp [] [0,1,3,5,2,4,6,7] ?_;refine vU 0 0 ?_;refine vU 1 0 ?_;refine L9 2 0 ?_;refine(Bu []) (qmo) ?_;refine aF 12 (qp ⟨0,0,0⟩) rfl qfB.symm ?_;refine Pc (zu f g) ?_;refine Pc (o8 (qh f g) t) ?_;refine iY rfl rfl rfl rfl qq4 (qrz _ _) ?_;refine A4 ?_;refine E0 ?_;exact rfl
def En(f:Qd)(t:Rl)(h0:0<=t.r:=by omega)(hf:ui f<=10000:=by omega)(ht:gJ t<=10000:=by omega):aP Tryz.prog 207 #[qp f,RV t] (.int .i64 (uo (O8 f t).p (o5 (O8 f t)) (O8 f t).r)):=by
 have l1:=Xz hf ht;refine oz 9 Tryz.func207 fun w=>?_;refine kL fun g0=>?_;refine Bp 9 (fun g1=>?_);refine A5 ?_;refine vU 0 0 ?_;refine L9 1 0 ?_;refine Pc (vz f t h0 hf ht) ?_;refine Pc (Bf (O8 f t)) ?_;refine A4 ?_;refine E0 ?_;exact rfl
end Go.Proofs.YtaffcpfhedadhaaGreatDoor
namespace Go.Via
open Go
def jH(i:Iv):Nat:=max (gJ i.f) (gJ i.t)
def jW(i:Iv):gJ i.f<=jH i:=Nat.le_max_left ..
def jX(i:Iv):gJ i.t<=jH i:=Nat.le_max_right ..
def xA{i:Iv}{n:Nat}(h1:gJ i.f<=n)(h2:gJ i.t<=n):jH i<=n:=Nat.max_le.2 ⟨h1,h2⟩
theorem qfD{x:Rl}(h:x.r.num.sign= -1):dV x=false:=by
 unfold dV;rw[if_pos];show x.r.num.sign<0;omega
theorem PK{x:Rl}(h:x.r.num.sign=0):dV x= !x.n:=by
 unfold dV;have h:dE x.r=0:=h;rw[if_neg ae,if_pos h]
theorem Vh{x:Rl}(h1:x.r.num.sign≠ -1)(h0:x.r.num.sign≠0):dV x= !Cc x.r:=by
 unfold dV;have h1:dE x.r≠ -1:=h1;have h0:dE x.r≠0:=h0;rw[if_neg (by rcases Ej x.r with e|e|e<;>omega),if_neg h0]
theorem qbU(i:Iv):lF i=decide (wW i.b i.e<0):=by
 unfold lF wW Iv.b Iv.e;dsimp only;have h:=uH i.f i.t
 by_cases h0:bQ i.f i.t=0
 ·clear h;rw[h0];cases i.fo<;>cases i.tp<;>rfl
 ·rw[if_pos h0,decide_eq_false h0];simp
def PL{a b:Iv}{n:Nat}(ha:jH a<=n)(hb:jH b<=n):gJ (rW a b).1<=n:=by
 have:=jW a;have:=jW b;unfold rW;split<;>(try split)<;>dsimp only<;>omega
def PM{a b:Iv}{n:Nat}(ha:jH a<=n)(hb:jH b<=n):gJ (uK a b).1<=n:=by
 have:=jX a;have:=jX b;unfold uK;split<;>(try split)<;>dsimp only<;>omega
def Vj{a b:Iv}{n:Nat}(ha:jH a<=n)(hb:jH b<=n):jH (fC a b)<=n:=xA (PL ha hb) (PM ha hb)
theorem qju{a b:Iv}(h:bQ a.f b.f<0):rW a b=(b.f,b.fo):=by unfold rW;rw[if_pos h]
theorem ZF{a b:Iv}(h:¬bQ a.f b.f<0)(h0:bQ a.f b.f=0):rW a b=(a.f,a.fo||b.fo):=by unfold rW;rw[if_neg h,if_pos h0]
theorem qjv{a b:Iv}(h:¬bQ a.f b.f<0)(h0:bQ a.f b.f≠0):rW a b=(a.f,a.fo):=by unfold rW;rw[if_neg h,if_neg h0]
theorem qjw{a b:Iv}(h:0<bQ a.t b.t):uK a b=(b.t,b.tp):=by unfold uK;rw[if_pos h]
theorem ZG{a b:Iv}(h:¬0<bQ a.t b.t)(h0:bQ a.t b.t=0):uK a b=(a.t,a.tp||b.tp):=by unfold uK;rw[if_neg h,if_pos h0]
theorem qjx{a b:Iv}(h:¬0<bQ a.t b.t)(h0:bQ a.t b.t≠0):uK a b=(a.t,a.tp):=by unfold uK;rw[if_neg h,if_neg h0]
def qpz:List Value:=[aZ,bf,aZ,bf,aZ,bf,aZ,bf,.bool false,aZ,bf,aZ,bf,aZ,bf,aZ,bf,.bool false,.bool false,.bool false]
end Go.Via
namespace Go.Via
open Go
structure RtG(n:Nat) where
 lo:Nat
 hi:Nat
 lx:SR (nb lo)
 hx:SR (nb hi)
 h1:lo*lo<=n
 h2:n<hi*hi
 h3:hi<=n+1
def qfE(n:Nat):n<(n+1)*(n+1):=Nat.lt_of_lt_of_le (Nat.lt_succ_self n) (Nat.le_mul_of_pos_right _ ae)
def qlb{n lo hi:Nat}(h1:lo*lo<=n)(h2:n<hi*hi):lo<hi:=WQ (Nat.lt_of_le_of_lt h1 h2)
def qny{n lo hi:Nat}(h1:lo*lo<=n)(h2:n<hi*hi)(h:¬lo+1<hi):bT n=lo:=by
 have h0:=qlb h1 h2;have:hi=lo+1:=ae;subst this;exact Eb h1 h2
theorem qnz:D8 2=[2]:=zO ae ae ae
theorem Rj:nb 2=1:=by have h1:=nV (n:=2) (k:=1) ae;have h2:=DX (u:=2) ae;omega
theorem qjy{a r:Rat}{u:Int}(h:dE a=0):jL a u r=u*dE r:=by unfold jL;rw[if_pos h]
theorem ZH{a r:Rat}{u:Int}(h:dE a≠0)(h2:u*dE r=0∨dE a=u*dE r):jL a u r=dE a:=by unfold jL;rw[if_neg h,if_pos h2]
theorem qjz{a r:Rat}{u:Int}(h:dE a≠0)(h2:u*dE r≠0)(h3:dE a≠u*dE r):jL a u r=dE a*ou (a*a) r:=by unfold jL;rw[if_neg h,if_neg (by rintro(e|e);exact h2 e;exact h3 e)]
theorem m3{a b:Int}(ha:a= -1∨a=0∨a=1)(hb:b= -1∨b=0∨b=1):a*b= -1∨a*b=0∨a*b=1:=by
 rcases ha with rfl|rfl|rfl<;>rcases hb with rfl|rfl|rfl<;>simp
def qfF(a r:Rat){u:Int}(hu:u= -1∨u=0∨u=1):jL a u r= -1∨jL a u r=0∨jL a u r=1:=by
 unfold jL
 split
 ·exact m3 hu (Ej r)
 ·split
  ·exact Ej a
  ·exact m3 (Ej a) (qfs _ _)
section
variable{a r s:Rat}{u v:Int}
theorem ZI(h:jL a u r≠v*dE s∨jL a u r=0)(h2:v*dE s<jL a u r):NZ a u r v s=1:=by unfold NZ;rw[if_pos h,if_pos h2]
theorem ZJ(h:jL a u r≠v*dE s∨jL a u r=0)(h2:¬v*dE s<jL a u r):NZ a u r v s=jL a u r-v*dE s:=by unfold NZ;rw[if_pos h,if_neg h2]
theorem qjA(h:¬jL a u r≠v*dE s)(h2:¬jL a u r=0):NZ a u r v s=jL a u r*jL (a*a+r-s) (u*dE a) (4*(a*a*r)):=by
 unfold NZ;rw[if_neg (by rintro(e|e);exact h e;exact h2 e)]
end
def qfG(x:Rl):nC x= -1∨nC x=0∨nC x=1:=by unfold nC;split<;>simp
def qfH:cO 4<=2:=nU (z:=4) ae ae
def qpA:Rat.divInt 2 1=2:=eX
def qrH:Rat.divInt 4 1=4:=eX
theorem qnA{f:Qd}{t:Rl}(h:dE t.r=0):lS f t=⟨uI f t.p,0,0⟩:=by unfold lS;rw[if_pos h]
theorem qnB{f:Qd}{t:Rl}(h:dE t.r≠0):lS f t=⟨f.c0+f.c2*(t.r-t.p*t.p),f.c1+2*(t.p*f.c2),0⟩:=by unfold lS;rw[if_neg h]
def qfI{f:Qd}{t:Rl}{m n:Nat}(hf:ui f<=m)(ht:gJ t<=n):ui (lS f t)<=3*m+4*n+6:=by
 have e0:=Nat.le_trans (qf f) hf;have e1:=Nat.le_trans (qg f) hf;have e2:=Nat.le_trans (qF f) hf;have t1:=Nat.le_trans (sF t) ht;have t2:=Nat.le_trans (yh t) ht;have z0:=zo;unfold lS
 split
 ·have h1:=xy f t.p;refine Hq ?_ ?_ ?_<;>dsimp only<;>omega
 ·have l1:=bV t.p t.p;have l2:=iq t.r (t.p*t.p);have l3:=bV f.c2 (t.r-t.p*t.p);have l4:=jf f.c0 (f.c2*(t.r-t.p*t.p));have l5:=bV t.p f.c2;have l6:=bV 2 (t.p*f.c2);have l7:=jf f.c1 (2*(t.p*f.c2));have l8:=FY;refine Hq ?_ ?_ ?_<;>dsimp only<;>omega
def jP(f:Ln):Nat:=max (max (cO f.x0) (cO f.x1)) (max (cO f.y0) (cO f.y1))
def rD(f:Ln):cO f.x0<=jP f:=Q7
def rE(f:Ln):cO f.x1<=jP f:=Q7
def rF(f:Ln):cO f.y0<=jP f:=Q7
def rG(f:Ln):cO f.y1<=jP f:=Q7
def qfJ{f g:Ln}{n:Nat}(hf:jP f<=n)(hg:jP g<=n):ui (d2 f g)<=8*n+20:=by
 have a0:=Nat.le_trans (rD f) hf;have a1:=Nat.le_trans (rE f) hf;have a2:=Nat.le_trans (rF f) hf;have a3:=Nat.le_trans (rG f) hf;have b0:=Nat.le_trans (rD g) hg;have b1:=Nat.le_trans (rE g) hg;have b2:=Nat.le_trans (rF g) hg;have b3:=Nat.le_trans (rG g) hg;have s0:=iq f.x0 g.x0;have s1:=iq f.x1 g.x1;have s2:=iq f.y0 g.y0;have s3:=iq f.y1 g.y1;have z:=FY;unfold d2;refine Hq ?_ ?_ ?_<;>dsimp only
 ·have:=jf ((f.x0-g.x0)*(f.x0-g.x0)) ((f.y0-g.y0)*(f.y0-g.y0));have:=bV (f.x0-g.x0) (f.x0-g.x0);have:=bV (f.y0-g.y0) (f.y0-g.y0);omega
 ·have:=bV 2 ((f.x0-g.x0)*(f.x1-g.x1)+(f.y0-g.y0)*(f.y1-g.y1));have:=jf ((f.x0-g.x0)*(f.x1-g.x1)) ((f.y0-g.y0)*(f.y1-g.y1));have:=bV (f.x0-g.x0) (f.x1-g.x1);have:=bV (f.y0-g.y0) (f.y1-g.y1);omega
 ·have:=jf ((f.x1-g.x1)*(f.x1-g.x1)) ((f.y1-g.y1)*(f.y1-g.y1));have:=bV (f.x1-g.x1) (f.x1-g.x1);have:=bV (f.y1-g.y1) (f.y1-g.y1);omega
def Vk{m n:Nat}(h:(mV m n !=0)=true):m≠n:=fun e=>by subst e;unfold mV at h;simp at h
def Vl{m n:Nat}(h:(mV m n !=0)=false):m=n:=by
 unfold mV at h
 by_cases h1:m<n
 ·simp[h1] at h
 ·by_cases h2:n<m
  ·simp[h1,h2] at h
  ·omega
theorem qpB{q:Rat}(h:decide (q.num<0)=true):Cc q=false:=by
 have:=of_decide_eq_true h;unfold Cc;rw[decide_eq_false ae];rfl
theorem qpC{q:Rat}(h:bT q.num.natAbs*bT q.num.natAbs≠q.num.natAbs):Cc q=false:=by
 unfold Cc;rw[beq_eq_false_iff_ne.2 h];simp
theorem qpD{q:Rat}(h:bT q.den*bT q.den≠q.den):Cc q=false:=by
 unfold Cc;rw[beq_eq_false_iff_ne.2 h];simp
theorem qpE{q:Rat}(h:decide (q.num<0)=false)(h1:bT q.num.natAbs*bT q.num.natAbs=q.num.natAbs)(h2:bT q.den*bT q.den=q.den):Cc q=true:=by
 have:=of_decide_eq_false h;unfold Cc;rw[h1,h2,decide_eq_true ae];simp
def qbV(q:Rat)(h:bT q.den*bT q.den=q.den):0<bT q.den:=by
 have:=q.den_nz;exact Nat.pos_of_ne_zero fun e=>by rw[e] at h;omega
end Go.Via
namespace Go.Proofs.YtaffcpfhedadhaaGreatDoor
open Go Go.Via
end Go.Proofs.YtaffcpfhedadhaaGreatDoor
namespace Go.Via
open Go
def PN(out:List Iv)(t:Rl)(tp:Bool):List Iv:=match out.getLast? with
 |some i=>out.dropLast++[⟨i.f,t,i.fo,tp⟩]
 |none=>out
def kD(out:List Iv)(op h:Bool)(t:Rl):List Iv:=if op=true then PN out t (!h) else if h=true then out++[⟨t,t,false,false⟩] else out
def qw(here:Rl->Bool)(btw:Rl->Rl->Bool):List Rl->List Iv->Bool->List Iv
 |[],out,_=>out
 |[t],out,op=>kD out op (here t) t
 |t::u::ts,out,op=>qw here btw (u::ts) (if btw t u=true∧here t=false then kD out op (here t) t++[⟨t,u,true,true⟩] else kD out op (here t) t) (btw t u)
theorem vC(out:List Iv)(i:Iv)(t:Rl)(tp:Bool):PN (out++[i]) t tp=out++[⟨i.f,t,i.fo,tp⟩]:=by
 unfold PN;rw[List.getLast?_append];simp
theorem uk{here:Rl->Bool}{btw:Rl->Rl->Bool}:∀{ts:List Rl} {out:List Iv},(qw here btw ts out false=out++(O7 here btw none ts).map fun p=>NK p.1 p.2)∧∀i:Iv,ts≠[]->qw here btw ts (out++[i]) true=out++(O7 here btw (some i.b) ts).map fun p=>NK p.1 p.2
 |[],out=>by
  refine⟨by simp[qw,O7],fun i h=>absurd rfl h⟩
 |[t],out=>by
  refine⟨?_,fun i _=>?_⟩
  ·unfold qw O7 kD;cases here t<;>simp[NK]
  ·unfold qw O7 kD;rw[if_pos rfl,vC];simp[NK,Iv.b]
 |t::u::ts,out=>by
  refine⟨?_,fun i _=>?_⟩
  ·unfold qw O7 kD;cases hh:here t<;>cases hb:btw t u<;>simp only[Bool.false_eq_true,if_false,if_true,and_true,and_false,true_and,false_and,reduceIte]
   ·exact(uk (ts:=u::ts) (out:=out)).1
   ·exact(uk (ts:=u::ts) (out:=out)).2 ⟨t,u,true,true⟩ bI
   ·rw[(uk (ts:=u::ts) (out:=out++[_])).1];simp[NK]
   ·exact(uk (ts:=u::ts) (out:=out)).2 ⟨t,t,false,false⟩ bI
  ·unfold qw O7 kD;rw[if_pos rfl,vC];cases hh:here t<;>cases hb:btw t u<;>simp only[Bool.false_eq_true,if_false,if_true,and_true,and_false,true_and,false_and,reduceIte]
   ·rw[(uk (ts:=u::ts) (out:=out++[_])).1];simp[NK,Iv.b]
   ·rw[(uk (ts:=u::ts) (out:=out++[_])).2 ⟨t,u,true,true⟩ bI];simp[NK,Iv.b]
   ·rw[(uk (ts:=u::ts) (out:=out++[_])).1];simp[NK,Iv.b]
   ·exact(uk (ts:=u::ts) (out:=out)).2 ⟨i.f,t,i.fo,false⟩ bI
def jb.setf{α:Type}{c:α->List Value}{k:Nat}(h:jb α c k){l:List α}{i:Nat}{x y:α}{v:List Value}{o n:Nat}(hx:l[i]? =some x)(hy:(c x).take o++v++(c x).drop (o+n)=c y)(hn:o+n<=k):
 (ai c l).take (i*k+o)++v++(ai c l).drop (i*k+o+n)=ai c (l.set i y):=by
 have hi:i<l.length:=(List.getElem?_eq_some_iff.1 hx).1;have e1:(ai c l).take (i*k+o)=(ai c l).take (i*k)++(c x).take o:=by
  rw[List.take_add,<-h.get hx,List.take_take,Nat.min_eq_left ae]
 have e2:(ai c l).drop (i*k+o+n)=(c x).drop (o+n)++(ai c l).drop (i*k+k):=by
  have e3:(ai c l).drop (i*k)=c x++(ai c l).drop (i*k+k):=by
   rw[<-h.get hx,<-List.drop_drop];exact(List.take_append_drop k _).symm
  rw[Nat.add_assoc,<-List.drop_drop,e3,List.drop_append_of_le_length (by rw[h.len];exact hn)]
 rw[e1,e2,<-h.set y hi,<-hy];simp
theorem PO{out:List Iv}{i:Iv}(h:out[out.length-1]? =some i)(t:Rl)(tp:Bool):PN out t tp=out.set (out.length-1) ⟨i.f,t,i.fo,tp⟩:=by
 have hne:out≠[]:=fun e=>by subst e;simp at h
 obtain⟨l,j,rfl⟩:∃l j,out=l++[j]:=⟨out.dropLast,out.getLast hne,(List.dropLast_concat_getLast hne).symm⟩;simp at h;subst h;rw[vC];simp
def mF(op:Int)(a b:Bool):Bool:=if op=1 then a||b else if op=2 then a&&b else a&& !b
end Go.Via
namespace Go.Via
theorem Bg{α:Type}{l:List α}{i:Nat}{x:α}{p:α->Bool}(hx:l[i]? =some x):(l.drop i).any p=(p x||(l.drop (i+1)).any p):=by
 have:l.drop i=x::l.drop (i+1):=by
  obtain⟨hlt,e⟩:=List.getElem?_eq_some_iff.1 hx;rw[List.drop_eq_getElem_cons hlt,e]
 rw[this,List.any_cons]
end Go.Via
namespace Go.Via
theorem Rk{x:Rl}:∀{l:List Rl} {k:Nat},k<=l.length->(∀j y,j<k->l[j]? =some y->bQ y x<0)->(∀y,l[k]? =some y->¬bQ y x<0∧bQ y x≠0)->rX x l=l.take k++x::l.drop k
 |[],k,hk,_,_=>by simp at hk;subst hk;rfl
 |y::l,0,_,_,h=>by
  have:=h y rfl;unfold rX;rw[if_neg this.1,if_neg this.2];rfl
 |y::l,k+1,hk,hall,h=>by
  have h0:=hall 0 y ae rfl;unfold rX;rw[if_pos h0,Rk (by simpa using hk) (fun j z hj hz=>hall (j+1) z ae TW) (fun z hz=>h z TW)]
  rfl
theorem ZK{x:Rl}:∀{l:List Rl} {k:Nat} {y:Rl},l[k]? =some y->(∀j y,j<k->l[j]? =some y->bQ y x<0)->¬bQ y x<0->bQ y x=0->rX x l=l
 |[],k,y,hy,_,_,_=>by simp at hy
 |z::l,0,y,hy,_,h1,h2=>by
  simp at hy;subst hy;unfold rX;rw[if_neg h1,if_pos h2]
 |z::l,k+1,y,hy,hall,h1,h2=>by
  unfold rX;rw[if_pos (hall 0 z ae rfl),ZK (l:=l) (k:=k) (by simpa using hy) (fun j w hj hw=>hall (j+1) w ae (by simpa using hw)) h1 h2]
theorem Vm{l:List Rl}{i:Nat}{x:Rl}(hx:l[i]? =some x):eY (l.take (i+1))=rX x (eY (l.take i)):=by
 rw[<-fJ hx];unfold eY;rw[List.foldl_append];rfl
def Vo(x:Rl):∀l:List Rl,(rX x l).length<=l.length+1
 |[]=>by simp[rX]
 |y::l=>by
  have:=Vo x l;unfold rX;split
  ·simp;omega
  ·split<;>simp
def Rn(l:List Rl):(eY l).length<=l.length:=by
 have:∀(l o:List Rl),(l.foldl (fun o x=>rX x o) o).length<=o.length+l.length:=by
  intro l
  induction l with
  |nil=>intro o;simp
  |cons x l ih=>intro o;rw[List.foldl_cons];have:=ih (rX x o);have:=Vo x o;simp;omega
 have:=this l [];unfold eY;simpa using this
def Vp{p:Rl->Prop}{x:Rl}(hx:p x):∀{l:List Rl},(∀y∈l,p y)->∀y∈rX x l,p y
 |[],_,y,hy=>by simp[rX] at hy;rw[hy];exact hx
 |z::l,h,y,hy=>by
  unfold rX at hy
  split at hy
  ·rcases List.mem_cons.1 hy with e|e
   ·rw[e];exact h z (List.mem_cons_self ..)
   ·exact Vp hx (fun w hw=>h w (List.mem_cons_of_mem _ hw)) y e
  ·split at hy
   ·exact h y hy
   ·rcases List.mem_cons.1 hy with e|e
    ·rw[e];exact hx
    ·exact h y e
def ZL{p:Rl->Prop}{l:List Rl}(h:∀y∈l,p y):∀y∈eY l,p y:=by
 have:∀(l o:List Rl),(∀y∈l,p y)->(∀y∈o,p y)->∀y∈l.foldl (fun o x=>rX x o) o,p y:=by
  intro l
  induction l with
  |nil=>intro o _ ho;exact ho
  |cons x l ih=>intro o hl ho;rw[List.foldl_cons];exact ih _ (fun y hy=>hl y (List.mem_cons_of_mem _ hy)) (Vp (hl x (List.mem_cons_self ..)) ho)
 exact this l [] h bI
section
variable{α:Type}{c:α->List Value}{k:Nat}
theorem jb.takeR(h:jb α c k):∀(l:List α) (n:Nat),(ai c l).take (n*k)=ai c (l.take n)
 |[],n=>by simp[ai]
 |x::l,0=>by simp[ai]
 |x::l,n+1=>by
  have e:(n+1)*k=(c x).length+n*k:=Zp;rw[gY,e,List.take_length_add_append,List.take_succ_cons,gY,jb.takeR h l n]
theorem jb.dropR(h:jb α c k):∀(l:List α) (n:Nat),(ai c l).drop (n*k)=ai c (l.drop n)
 |[],n=>by simp[ai]
 |x::l,0=>by simp
 |x::l,n+1=>by
  have e:(n+1)*k=(c x).length+n*k:=Zp;rw[gY,e,List.drop_length_add_append,List.drop_succ_cons,jb.dropR h l n]
theorem jb.lenTake(h:jb α c k){l:List α}{n:Nat}(hn:n<=l.length):(ai c (l.take n)).length=n*k:=by rw[h.length,List.length_take,Nat.min_eq_left hn]
theorem jb.lenDrop(h:jb α c k)(l:List α)(n:Nat):(ai c (l.drop n)).length=(l.length-n)*k:=by rw[h.length,List.length_drop]
def jb.dropT(h:jb α c k){l:List α}{n cap:Nat}(hc:l.length<=cap)(hn:n<=l.length):((ai c l).drop (if cap=n then 0 else n*k)).take ((l.length-n)*k)=ai c (l.drop n):=by
 by_cases e:cap=n
 ·have:l.length-n=0:=ae
  rw[if_pos e,this,Nat.zero_mul,List.take_zero,List.drop_of_length_le ae];rfl
 ·rw[if_neg e,h.dropR,List.take_of_length_le];rw[h.lenDrop];exact Nat.le_refl _
end
end Go.Via
namespace Go.Via
theorem vF:∀l:List Iv,(bW l).length=2*l.length
 |[]=>rfl
 |i::l=>by show(i.f::i.t::bW l).length=_;rw[List.length_cons,List.length_cons,vF l,List.length_cons];omega
def ZM{l:List Iv}{n:Nat}(h:∀x∈l,jH x<=n):∀y∈bW l,gJ y<=n:=fun y hy=>by
 obtain⟨i,hi,he⟩:=List.mem_flatMap.1 hy;have:=h i hi;simp at he;rcases he with rfl|rfl
 ·exact Nat.le_trans (jW i) this
 ·exact Nat.le_trans (jX i) this
def sH{α:Type}{c:α->List Value}{k:Nat}(h:jb α c k)(hk:0<k){l:List α}{b:Option Nat}(hb:b=none->ai c l=[]):l.length=0∨∃g,b=some g:=by
 by_cases e:l.length=0
 ·exact .inl e
 ·right
  cases b with
  |some g=>exact⟨g,rfl⟩
  |none=>exact absurd (hb rfl) (h.ne hk ae)
end Go.Via
namespace Go.Via
open Go
theorem yY{α:Type}{l:List α}{i:Nat}{x:α}(hx:l[i]? =some x):l.drop i=x::l.drop (i+1):=by
 obtain⟨hlt,e⟩:=List.getElem?_eq_some_iff.1 hx;rw[List.drop_eq_getElem_cons hlt,e]
theorem Ro(op:Bool->Bool->Bool)(a b:List Iv):gm op a b=qw (fun t=>op (nZ a t) (nZ b t)) (fun t u=>op (oh a t u) (oh b t u)) (eY (bW (a++b))) [] false:=by
 rw[uk.1];rfl
section
variable{here:Rl->Bool}{btw:Rl->Rl->Bool}{E:List Rl}{i:Nat}{t u:Rl}{out o1:List Iv}{og h w:Bool}
def qbW(ht:E[i]? =some t)(he:i+1=E.length)(hh:here t=h):kD out og h t=qw here btw (E.drop i) out og:=by
 rw[yY ht,List.drop_of_length_le ae];unfold qw;rw[hh]
theorem Hr(ht:E[i]? =some t)(hu:E[i+1]? =some u)(hh:here t=h)(hw:btw t u=w):
 qw here btw (E.drop i) out og=qw here btw (E.drop (i+1)) (if w=true∧h=false then kD out og h t++[⟨t,u,true,true⟩] else kD out og h t) w:=by
 rw[yY ht,yY hu];rw[qw,hh,hw]
def qfK(ht:E[i]? =some t)(hu:E[i+1]? =some u)(hh:here t=h)(hw:btw t u=w)(h1:w=true)(h2:h=false)(ho:o1=kD out og h t):
 qw here btw (E.drop i) out og=qw here btw (E.drop (i+1)) (o1++[⟨t,u,true,true⟩]) true:=by
 rw[Hr ht hu hh hw,if_pos ⟨h1,h2⟩,ho,h1]
def qjB(ht:E[i]? =some t)(hu:E[i+1]? =some u)(hh:here t=h)(hw:btw t u=w)(h1:w=true)(h2:h=true)(ho:o1=kD out og h t):
 qw here btw (E.drop i) out og=qw here btw (E.drop (i+1)) o1 true:=by
 rw[Hr ht hu hh hw,if_neg (by rw[h2];simp),ho,h1]
def qjC(ht:E[i]? =some t)(hu:E[i+1]? =some u)(hh:here t=h)(hw:btw t u=w)(h1:w=false)(ho:o1=kD out og h t):
 qw here btw (E.drop i) out og=qw here btw (E.drop (i+1)) o1 false:=by
 rw[Hr ht hu hh hw,if_neg (by rw[h1];simp),ho,h1]
end
theorem qjD{out:List Iv}{og h:Bool}{t:Rl}{j:Iv}(h0:og=true)(h1:h=true)(hj:out[out.length-1]? =some j):kD out og h t=out.set (out.length-1) ⟨j.f,t,j.fo,false⟩:=by
 subst h0;subst h1;unfold kD;rw[if_pos rfl,PO hj];rfl
theorem qjE{out:List Iv}{og h:Bool}{t:Rl}{j:Iv}(h0:og=true)(h1:h=false)(hj:out[out.length-1]? =some j):kD out og h t=out.set (out.length-1) ⟨j.f,t,j.fo,true⟩:=by
 subst h0;subst h1;unfold kD;rw[if_pos rfl,PO hj];rfl
theorem qjF{out:List Iv}{og h:Bool}{t:Rl}(h0:og=false)(h1:h=true):kD out og h t=out++[⟨t,t,false,false⟩]:=by subst h0;subst h1;rfl
theorem qjG{out:List Iv}{og h:Bool}{t:Rl}(h0:og=false)(h1:h=false):kD out og h t=out:=by subst h0;subst h1;rfl
def qfL(out:List Iv)(og:Bool)(t:Rl):og=true∧out=[]∨0<(kD out og true t).length:=by
 cases og
 ·right;simp[kD]
 ·by_cases h:out=[]
  ·exact .inl ⟨rfl,h⟩
  ·right
   obtain⟨l,j,rfl⟩:∃l j,out=l++[j]:=⟨out.dropLast,out.getLast h,(List.dropLast_concat_getLast h).symm⟩;unfold kD;rw[if_pos rfl,vC];simp
end Go.Via
namespace Go.Proofs.YtaffcpfhedadhaaGreatDoor
open Go Go.RowKit Go.Via
def F5(n:Nat)(hn:nb n<=100000000)(x:SR (nb n)):bZ Tryz.prog 162 [⟨x.b,3,NV .i64 (D8 (n)),x.n,false⟩] [x.v] (SR (nb (bT n))) SR.v (fun z=>[⟨z.b,3,NV .i64 (D8 (bT n)),z.n,true⟩]):=by
 refine O3 34 Tryz.func162 fun w hL0=>?_;refine A7 ?_;refine(Bl 0 []) (qhX) (fun g0=>?_);refine A1 ?_;refine(Bl 1 [(0,_)]) (pK) (fun g1=>?_);refine fQ [_,SR.v (len:=nb 1) ⟨some g1,1,1,Q8⟩] [0,2] rfl rfl (by show _=[some _,some (ay (some g1) 0 (nb 1) 1)];rw[uF];rfl) (lm n 1 ae (by rw[uF];omega) x ⟨some g1,1,1,Q8⟩) ⟨pS,⟨_,rfl,by rw[WP];exact fM⟩,trivial⟩ rfl (.inr fun x b hb=>sZ) (fun zp=>?_);refine A6 ?_;refine El (ι:=RtG n) (fun⟨lo,hi,lx,hx,h1,h2,h3⟩=>([(0,x.v),(3,lx.v),(4,hx.v)],[⟨x.b,3,NV .i64 (D8 (n)),x.n,false⟩,⟨lx.b,3,NV .i64 (D8 (lo)),lx.n,true⟩,⟨hx.b,3,NV .i64 (D8 (hi)),hx.n,true⟩],hi-lo)) ⟨0,n+1,⟨some g0,0,0,by rw[kV];exact Nat.le_refl _⟩,zp,Nat.zero_le _,qfE n,Nat.le_refl _⟩ ?_ (ht:=⟨rfl,(aU rfl (by show ay (some g0) 0 0 0=ay (some g0) 0 (nb 0) 0;rw[kV])),rfl,trivial⟩) (hL:=(aA [some 0,some 1,some 3] ⟨pR,⟨_,rfl,by rw[QN];exact aJ.le_refl _⟩,pR,trivial⟩ rfl rfl));rintro⟨lo,hi,lx,hx,h1,h2,h3⟩;(try dsimp only);have hlo:=qlb h1 h2;have b1:nb lo<=nb n+1:=Nat.le_trans (gK (show lo<=n by omega)) ae;have b2:nb hi<=nb n+2:=Nat.le_trans (gK h3) (by have:=zT n 1;rw[uF] at this;omega);have b3:=zT lo hi;have b4:=zT lo 1;have b5:=uF;have b6:=DR (lo+hi) 2;have b7:=oZ ((lo+hi)/2) ((lo+hi)/2);refine A4 ?_;refine(Bl 1 [(0,_)]) (pK) (fun g2=>?_);refine fQ [_,SR.v (len:=nb 1) ⟨some g2,1,1,Q8⟩] [1,3] rfl rfl (by show _=[some _,some (ay (some g2) 0 (nb 1) 1)];rw[uF];rfl) (lm lo 1 ae (by rw[uF];omega) lx ⟨some g2,1,1,Q8⟩) ⟨pS,⟨_,rfl,by rw[WP];exact fM⟩,trivial⟩ rfl (.inr fun x b hb=>sZ) (fun z1=>?_);refine A1 ?_;refine(Sd [4,2]) (eP (lo+1) hi ae z1 hx) ?_;refine A3 ?_;refine Cd ?_ ?_<;>intro haQ
 ·have hlt:lo+1<hi:=OT haQ;refine A7 ?_;refine(Sc [1,2]) (lm lo hi ae ae lx hx) (fun zs=>?_);refine(Bl 1 [(0,_)]) (pK) (fun g3=>?_);refine fQ [_,SR.v (len:=nb 2) ⟨some g3,1,1,by rw[Rj];exact Nat.le_refl _⟩] [5,6] rfl rfl (by show _=[some _,some (ay (some g3) 0 (nb 2) 1)];rw[Rj];rfl) (pY (lo+hi) 2 ae ae (by rw[Rj];omega) zs ⟨some g3,1,1,by rw[Rj];exact Nat.le_refl _⟩) ⟨pS,⟨_,rfl,by rw[qnz];exact fM⟩,trivial⟩ rfl (.inr Lj) (fun zd0=>?_);obtain⟨zd,rfl⟩:∃z,zd0=Sum.inl z:=by cases zd0 with|inl z=>exact⟨z,rfl⟩|inr h=>exact absurd h.down ae
  refine oJ ?_;refine(Sc [7,7]) (jv ((lo+hi)/2) ((lo+hi)/2) ae ae zd.1 zd.1) (fun zt=>?_);refine A1 ?_;refine(Sd [9,0]) (eP ((lo+hi)/2*((lo+hi)/2)) n ae zt x) ?_;refine A3 ?_;refine Cd ?_ ?_<;>intro hbQ
  ·have hc:(lo+hi)/2*((lo+hi)/2)<=n:=wI.1 (of_decide_eq_true hbQ);refine A6 ?_;exact Nl ⟨(lo+hi)/2,hi,zd.1,hx,hc,h2,h3⟩ (hμ:=(by show hi-(lo+hi)/2<hi-lo;omega)) (hL:=(aT [some 0,some 7,some 2]))
  ·have hc:n<(lo+hi)/2*((lo+hi)/2):=Nat.lt_of_not_le fun e=>of_decide_eq_false hbQ (wI.2 e)
   refine A6 ?_;exact Nl ⟨lo,(lo+hi)/2,lx,zd.1,h1,hc,ae⟩ (hμ:=(by show(lo+hi)/2-lo<hi-lo;omega)) (hL:=(aT [some 0,some 1,some 7]))
 ·have hge:¬lo+1<hi:=Nat.not_lt.2 (KO haQ);have he:=qny h1 h2 hge;obtain rfl:=he;refine nT ?_;refine aK rfl (au rfl) (fun w hL=>⟨lx,?_,hL.pk [some 1]⟩);exact rfl
def Rq(q:Rat)(hq:cO q<=4194303:=by omega):aP Tryz.prog 112 #[Q q] (.tuple #[Q (if Cc q=true then mZ q else 0),.bool (Cc q)]):=by
 have e1:=JV hq;have e2:=JW hq;have r1:=oO q.num.natAbs;have r2:=oO q.den;have m1:=oZ (bT q.num.natAbs) (bT q.num.natAbs);have m2:=oZ (bT q.den) (bT q.den);refine xI 40 Tryz.func112 fun w=>?_;refine jd fun g0=>?_;refine Al 4 qL (fun g1=>?_);refine A5 ?_;refine L4 0 0 ?_;refine fQ [_] [] rfl rfl rfl (uZ q (Nat.le_trans hq (Nat.le_of_ble_eq_true rfl))) trivial rfl (.inr qex) (fun y=>?_);refine Al 3 qaL (fun g2=>?_);refine Ss 4 ?_;refine A3 ?_;refine Dp [] [0,1,3,4,2,5,6,7] ?_;refine A4 ?_;refine(Sc [2]) (F5 (q.num.natAbs) ae y.1) (fun zn=>?_);refine(Sc [3]) (F5 (q.den) ae y.2) (fun zd=>?_);refine A6 ?_;refine Dp [] [0,1,2,3,4,6,7,5,8,9,10,11,12,13,15,16,14,17,18,19] ?_ (hc:=(pO [0,1,3,7,7,31,7,71,255,511,1023,2047,4095,4095,16383,4095,36863,131071,262143,524287] ak));refine A3 ?_;refine Rs 17 ?_ ?_<;>intro haQ
 ·have hs17:decide (q.num<0)=true:=haQ;refine A22 ?_;refine(Bu []) (yJ) ?_;refine aF 35 (Q 0) rfl yE.symm ?_;refine Ss 1 ?_;refine A5 ?_;refine bM rfl (bz 1 rfl rfl yI (vs:=[_,_,_,_]) rfl rfl (Nat.le_of_ble_eq_true rfl) rfl) (au rfl) (fun w hL=>⟨?_,hL.below⟩);rw[qpB hs17,if_neg ax];rfl
 ·have hs17:decide (q.num<0)=false:=haQ;refine A4 ?_;refine(Sc [5,5]) (jv (bT q.num.natAbs) (bT q.num.natAbs) ae ae zn zn) (fun tn=>?_);refine(Sd [7,2]) (eP (bT q.num.natAbs*bT q.num.natAbs) q.num.natAbs ae tn y.1) ?_;refine A3 ?_;refine Rs 26 ?_ ?_<;>intro hbQ
  ·have hs24:bT q.num.natAbs*bT q.num.natAbs≠q.num.natAbs:=Vk hbQ;refine Gw ?_;refine(Bu []) (yJ) ?_;refine aF 35 (Q 0) rfl yE.symm ?_;refine Ss 1 ?_;refine A5 ?_;refine bM rfl (bz 1 rfl rfl yI (vs:=[_,_,_,_]) rfl rfl (Nat.le_of_ble_eq_true rfl) rfl) (au rfl) (fun w hL=>⟨?_,hL.below⟩);rw[qpC hs24,if_neg ax];rfl
  ·have hs24:bT q.num.natAbs*bT q.num.natAbs=q.num.natAbs:=Vl hbQ;refine A4 ?_;refine(Sc [6,6]) (jv (bT q.den) (bT q.den) ae ae zd zd) (fun td=>?_);refine(Sd [8,3]) (eP (bT q.den*bT q.den) q.den ae td y.2) ?_;refine A4 ?_;refine Cd ?_ ?_<;>intro hcQ
   ·have hs33:bT q.den*bT q.den≠q.den:=Vk hcQ;refine A2 ?_;refine(Bu []) (yJ) ?_;refine aF 35 (Q 0) rfl yE.symm ?_;refine Ss 1 ?_;refine A5 ?_;refine bM rfl (bz 1 rfl rfl yI (vs:=[_,_,_,_]) rfl rfl (Nat.le_of_ble_eq_true rfl) rfl) (au rfl) (fun w hL=>⟨?_,hL.below⟩);rw[qpD hs33,if_neg ax];rfl
   ·have hs33:bT q.den*bT q.den=q.den:=Vl hcQ;refine A6 ?_;refine(Bu [(0,_),(1,_),(2,_)]) (wC) ?_;refine(Sd [5,6]) (iM (bT q.num.natAbs) (bT q.den) false (qbV q hs33) ae ae zn zd) ?_;refine Ss 1 ?_;refine A4 ?_;refine bM rfl (bz 1 rfl rfl yI (vs:=[_,_,_,_]) rfl rfl (Nat.le_of_ble_eq_true rfl) rfl) (au rfl) (fun w hL=>⟨?_,hL.below⟩);rw[qpE hs17 hs24 hs33,if_pos rfl];rfl
def Rt(f:Qd)(t:Rat)(hf:ui f<=500000:=by omega)(ht:cO t<=500000:=by omega):aP Tryz.prog 80 #[qp f,Q t] (Q (uI f t)):=by
 have f0:=Nat.le_trans (qf f) hf;have f1:=Nat.le_trans (qg f) hf;have f2:=Nat.le_trans (qF f) hf;have l1:=bV t f.c2;have l2:=jf f.c1 (t*f.c2);have l3:=bV t (f.c1+t*f.c2);refine oz 17 Tryz.func80 fun w=>?_;refine kL fun g0=>?_;refine Bp 4 (fun g1=>?_);refine Al 4 qL (fun g2=>?_);refine A3 ?_;refine Di [] ?_;refine A1 ?_;refine jM ?_;refine A1 ?_;refine L4 0 4 ?_;refine L4 1 0 ?_;refine A1 ?_;refine L4 0 8 ?_;refine Pc (dF t f.c2) ?_;refine Pc (ig f.c1 (t*f.c2)) ?_;refine Pc (dF t (f.c1+t*f.c2)) ?_;refine Pc (ig f.c0 (t*(f.c1+t*f.c2))) ?_;refine eG ?_;refine Ip 2 ?_;exact rfl
def MF(f:Qd)(t:Rl)(hf:ui f<=100000:=by omega)(ht:gJ t<=100000:=by omega):aP Tryz.prog 99 #[qp f,RV t] (qp (lS f t)):=by
 have f0:=Nat.le_trans (qf f) hf;have f1:=Nat.le_trans (qg f) hf;have f2:=Nat.le_trans (qF f) hf;have t1:=Nat.le_trans (sF t) ht;have t2:=Nat.le_trans (yh t) ht;have l1:=bV t.p t.p;have l2:=iq t.r (t.p*t.p);have l3:=bV f.c2 (t.r-t.p*t.p);have l4:=bV t.p f.c2;have l5:=bV 2 (t.p*f.c2);have l6:=FY;refine oz 41 Tryz.func99 fun w=>?_;refine kL fun g0=>?_;refine Bp 9 (fun g1=>?_);refine Al 12 Ij (fun g2=>?_);refine A6 ?_;refine L4 1 4 ?_;refine Pc (iG t.r) ?_;refine A3 ?_;refine Cd ?_ ?_<;>intro haQ
 ·have hs9:=eq_of_beq haQ;refine A2 ?_;refine vU 0 0 ?_;refine A1 ?_;refine L4 1 0 ?_;refine Pc (Rt f t.p) ?_;refine(Bu [(0,_)]) (qdo) ?_;refine Ss 2 ?_;refine A4 ?_;refine KY 2 ?_;rw[qnA hs9,PI]
 ·have hs9:=ne_of_beq_false haQ;refine A4 ?_;refine Pc (iU 2 1) ?_;refine aF 15 (Q 2) rfl (congrArg Q qpA) ?_;refine Al 4 qL (fun g3=>?_);refine Ss 3 ?_;refine A3 ?_;refine Dp [] [0,1,2,3,4,5,6,7,8,9,14,15,16,17,18,19,20,10,11,12,13,21,22,23,24,25] ?_ (hc:=(pO [0,1,0,4,0,16,0,64,0,256,960,2032,4092,8191,0,16384,0,0,131072,0,524288,1982463,4145151,8388607,16777215,33554431] ak));refine A1 ?_;refine L4 0 0 ?_;refine A1 ?_;refine L4 0 8 ?_;refine A1 ?_;refine L4 1 4 ?_;refine A1 ?_;refine L4 1 0 ?_;refine A1 ?_;refine L4 1 0 ?_;refine A1 ?_;refine L4 0 4 ?_;refine L4 3 0 ?_;refine A1 ?_;refine L4 1 0 ?_;refine A1 ?_;refine L4 0 8 ?_;refine Pc (dF t.p t.p) ?_;refine Pc (kU t.r (t.p*t.p)) ?_;refine Pc (dF f.c2 (t.r-t.p*t.p)) ?_;refine Pc (ig f.c0 (f.c2*(t.r-t.p*t.p))) ?_;refine Pc (dF t.p f.c2) ?_;refine Pc (dF 2 (t.p*f.c2)) ?_;refine Pc (ig f.c1 (2*(t.p*f.c2))) ?_;refine(Bu [(0,_),(1,_)]) (qdp) ?_;refine eG ?_;refine KY 2 ?_;rw[qnB hs9,ZC]
def Dx(a:Rat)(u:Int)(r:Rat)(hu:u= -1∨u=0∨u=1)(ha:cO a<=1000000:=by omega)(hr:cO r<=1000000:=by omega):aP Tryz.prog 109 #[Q a,.int .i64 u,Q r] (.int .i64 (jL a u r)):=by
 have l1:=bV a a;refine pB3 35 Tryz.func109 fun w=>?_;refine jd fun g0=>?_;refine Bp 4 (fun g1=>?_);refine A4 ?_;refine Dp [2000000] [0,2,3,1,4,5,6,7] ?_;refine L4 0 0 ?_;refine A1 ?_;refine L4 1 0 ?_;refine Pc (iG a) ?_;refine Pc (iG r) ?_;refine(Aq (u*dE r)) (congrArg some (w3 hu (Ej r))) ?_;refine Gw ?_;refine Cd ?_ ?_<;>intro haQ
 ·have hs15:=eq_of_beq haQ;refine A9 ?_;refine E0 ?_;rw[qjy hs15]
 ·have hs15:=ne_of_beq_false haQ;refine A5 ?_;refine Rs 22 ?_ ?_<;>intro hbQ
  ·have hs22:=eq_of_beq hbQ;refine QI ?_;refine E0 ?_;rw[ZH hs15 (.inl hs22)];rfl
  ·have hs22:=ne_of_beq_false hbQ;refine A7 ?_;refine Cd ?_ ?_<;>intro hcQ
   ·have hs19:=eq_of_beq hcQ;refine A9 ?_;refine E0 ?_;rw[ZH hs15 (.inr hs19)];rfl
   ·have hs19:=ne_of_beq_false hcQ;refine A4 ?_;refine Dp [] [0,1,2,4,3,5,6,7] ?_;refine A1 ?_;refine L4 0 0 ?_;refine jM ?_;refine Pc (dF a a) ?_;refine Pc (I5 (a*a) r) ?_;refine(Aq (dE a*ou (a*a) r)) (congrArg some (w3 (Ej a) (qfs _ _))) ?_;refine A4 ?_;refine E0 ?_;rw[qjz hs15 hs22 hs19]
def F6(x:Rl):aP Tryz.prog 56 #[RV x] (.int .i64 (nC x)):=by
 refine xI 5 Tryz.func56 fun w=>?_;refine A2 ?_;refine Bp 9 (fun g0=>?_);refine lD ?_;refine Cd ?_ ?_<;>intro haQ
 ·refine A7 ?_;refine E0 ?_;rw[nC,if_pos haQ]
 ·refine A8 ?_;refine E0 ?_;rw[nC,if_neg Md]
def N8(a:Rat)(u:Int)(r:Rat)(v:Int)(s:Rat)(hu:u= -1∨u=0∨u=1)(hv:v= -1∨v=0∨v=1)(ha:cO a<=200000:=by omega)(hr:cO r<=200000:=by omega)(hs:cO s<=200000:=by omega):aP Tryz.prog 54 #[Q a,.int .i64 u,Q r,.int .i64 v,Q s] (.int .i64 (NZ a u r v s)):=by
 have l1:=bV a a;have l2:=jf (a*a) r;have l3:=iq (a*a+r) s;have l4:=bV (a*a) r;have l5:=bV 4 (a*a*r);have l6:=qfH;have m1:=qfF a r hu;have m2:=m3 hv (Ej s);have m3_:=m3 hu (Ej a);refine pB5 60 Tryz.func54 fun w=>?_;refine jd fun g0=>?_;refine Bp 4 (fun g1=>?_);refine Bp 4 (fun g2=>?_);refine A4 ?_;refine Dp [2000000] [0,1,2,4,5,3,6,7,8,9] ?_;refine L4 0 0 ?_;refine A1 ?_;refine L4 1 0 ?_;refine A1 ?_;refine L4 2 0 ?_;refine Pc (Dx a u r hu) ?_;refine Pc (iG s) ?_;refine(Aq (v*dE s)) (congrArg some (w3 hv (Ej s))) ?_;refine nT ?_;refine Rs 27 ?_ ?_<;>intro haQ
 ·have hs27:jL a u r≠v*dE s:=xu
  refine D7 ?_;refine Cd ?_ ?_<;>intro hbQ
  ·have hs33:v*dE s<jL a u r:=of_decide_eq_true hbQ;refine A9 ?_;refine E0 ?_;rw[ZI (.inl hs27) hs33]
  ·have hs33:¬v*dE s<jL a u r:=of_decide_eq_false hbQ;refine A6 ?_;refine(Aq (jL a u r-v*dE s)) o7 ?_;refine A6 ?_;refine E0 ?_;rw[ZJ (.inl hs27) hs33]
 ·have hs27:jL a u r=v*dE s:=xu
  refine A6 ?_;refine Cd ?_ ?_<;>intro hbQ
  ·have hs29:jL a u r=0:=eq_of_beq hbQ;refine A8 ?_;refine Cd ?_ ?_<;>intro hcQ
   ·have hs33:v*dE s<jL a u r:=of_decide_eq_true hcQ;refine A9 ?_;refine E0 ?_;rw[ZI (.inr hs29) hs33]
   ·have hs33:¬v*dE s<jL a u r:=of_decide_eq_false hcQ;refine A6 ?_;refine(Aq (jL a u r-v*dE s)) o7 ?_;refine A6 ?_;refine E0 ?_;rw[ZJ (.inr hs29) hs33]
  ·have hs29:jL a u r≠0:=ne_of_beq_false hbQ;refine A4 ?_;refine Dq [3000000] [0,1,3,2,4,5,6] ?_;refine L4 0 0 ?_;refine jM ?_;refine Pc (dF a a) ?_;refine Pc (ig (a*a) r) ?_;refine Al 4 qL (fun g3=>?_);refine Ss 3 ?_;refine A3 ?_;refine Dq [3000000] [1,2,4,0,3,5,6,7,8] ?_;refine L4 0 0 ?_;refine jM ?_;refine Pc (iU 4 1) ?_;refine aF 42 (Q 4) rfl (congrArg Q qrH) ?_;refine Pc (dF a a) ?_;refine Pc (dF (a*a) r) ?_;refine Pc (dF 4 (a*a*r)) ?_;refine Al 4 qL (fun g4=>?_);refine Ss 4 ?_;refine A3 ?_;refine Dp [] [0,1,2,4,5,8,3,6,7,9,10,11] ?_;refine A1 ?_;refine L4 3 0 ?_;refine L4 2 0 ?_;refine A1 ?_;refine L4 0 0 ?_;refine L4 4 0 ?_;refine Pc (kU (a*a+r) s) ?_;refine Pc (iG a) ?_;refine(Aq (u*dE a)) (congrArg some (w3 hu (Ej a))) ?_;refine Pc (Dx (a*a+r-s) (u*dE a) (4*(a*a*r)) m3_) ?_;refine(Aq (jL a u r*jL (a*a+r-s) (u*dE a) (4*(a*a*r)))) (congrArg some (w3 m1 (qfF _ _ m3_))) ?_;refine A4 ?_;refine E0 ?_;rw[qjA (fun e=>e hs27) hs29]
def wO(f g:Ln)(hf:jP f<=100000:=by omega)(hg:jP g<=100000:=by omega):aP Tryz.prog 45 #[yV f,yV g] (qp (d2 f g)):=by
 have f0:=Nat.le_trans (rD f) hf;have f1:=Nat.le_trans (rE f) hf;have f2:=Nat.le_trans (rF f) hf;have f3:=Nat.le_trans (rG f) hf;have g0:=Nat.le_trans (rD g) hg;have g1:=Nat.le_trans (rE g) hg;have g2:=Nat.le_trans (rF g) hg;have g3:=Nat.le_trans (rG g) hg;have s0:=iq f.x0 g.x0;have s1:=iq f.x1 g.x1;have s2:=iq f.y0 g.y0;have s3:=iq f.y1 g.y1;have m0:=bV (f.x0-g.x0) (f.x0-g.x0);have m1:=bV (f.y0-g.y0) (f.y0-g.y0);have m2:=bV (f.x0-g.x0) (f.x1-g.x1);have m3:=bV (f.y0-g.y0) (f.y1-g.y1);have m4:=bV (f.x1-g.x1) (f.x1-g.x1);have m5:=bV (f.y1-g.y1) (f.y1-g.y1);have m7:=jf ((f.x0-g.x0)*(f.x1-g.x1)) ((f.y0-g.y0)*(f.y1-g.y1));have z2:=FY;refine oz 55 Tryz.func45 fun w=>?_;refine A2 ?_;refine Bp 16 (fun g0=>?_);refine Bp 16 (fun g1=>?_);refine Al 12 Ij (fun g2=>?_);refine A3 ?_;refine GU (l':=[⟨_,_,_,_,_,_⟩,⟨_,_,_,_,_,_⟩,⟨_,_,_,_,_,_⟩,⟨_,_,_,_,_,_⟩,⟨_,_,_,_,_,_⟩,⟨_,_,_,_,_,_⟩,⟨_,_,_,_,_,_⟩,⟨_,_,_,_,_,_⟩,⟨_,_,_,_,_,_⟩,⟨_,_,_,_,_,_⟩,⟨_,_,_,_,_,_⟩,⟨_,_,_,_,_,_⟩,⟨_,_,_,_,_,_⟩,⟨_,_,_,_,_,_⟩,⟨_,_,_,_,_,_⟩,⟨_,_,_,_,_,_⟩,⟨_,_,_,_,_,_⟩,⟨_,_,_,_,_,_⟩,⟨_,_,_,_,_,_⟩,⟨_,_,_,_,_,_⟩,⟨_,_,_,_,_,_⟩,⟨_,_,_,_,_,_⟩,⟨_,_,_,_,_,_⟩,⟨_,_,_,_,_,_⟩,⟨_,_,_,_,_,_⟩,⟨_,_,_,_,_,_⟩,⟨_,_,_,_,_,_⟩,⟨_,_,_,_,_,_⟩]) [3000000] [0,1,2,3,5,6,7,8,10,11,12,13,15,16,17,18,4,9,14,19,20,21,22,23,24,25,26,27] mixed (YS [0,1,0,4,15,0,32,0,128,511,0,1024,0,4096,16383,0,32768,0,131072,524287,0,0,0,0,16777215,33554431,67108863,134217727] ak) rfl ?_;refine A1 ?_;refine L4 0 0 ?_;refine A1 ?_;refine L4 1 0 ?_;refine A1 ?_;refine L4 0 4 ?_;refine A1 ?_;refine L4 1 4 ?_;refine A1 ?_;refine L4 0 8 ?_;refine A1 ?_;refine L4 1 8 ?_;refine A1 ?_;refine L4 0 12 ?_;refine A1 ?_;refine L4 1 12 ?_;refine Pc (kU f.x0 g.x0) ?_;refine Pc (kU f.x1 g.x1) ?_;refine Pc (kU f.y0 g.y0) ?_;refine Pc (kU f.y1 g.y1) ?_;refine Al 4 qL (fun g3=>?_);refine Al 4 qL (fun g4=>?_);refine Al 4 qL (fun g5=>?_);refine Al 4 qL (fun g6=>?_);refine Ss 3 ?_;refine Ss 4 ?_;refine Ss 5 ?_;refine Ss 6 ?_;refine A4 ?_;refine Pc (iU 2 1) ?_;refine aF 30 (Q 2) rfl (congrArg Q qpA) ?_;refine Al 4 qL (fun g7=>?_);refine Ss 7 ?_;refine A3 ?_;refine Dp [] [0,1,3,4,7,8,9,11,12,16,17,19,20,2,5,6,10,13,14,15,18,21,22,23,24] ?_ (hc:=(pO [0,0,3,0,0,31,63,0,0,0,895,0,0,8063,16255,32767,0,0,262143,0,0,2097151,4194303,8388607,16777215] ak));refine L4 3 0 ?_;refine L4 3 0 ?_;refine L4 5 0 ?_;refine L4 5 0 ?_;refine L4 7 0 ?_;refine L4 3 0 ?_;refine L4 4 0 ?_;refine L4 5 0 ?_;refine L4 6 0 ?_;refine L4 4 0 ?_;refine L4 4 0 ?_;refine L4 6 0 ?_;refine L4 6 0 ?_;refine Pc (dF (f.x0-g.x0) (f.x0-g.x0)) ?_;refine Pc (dF (f.y0-g.y0) (f.y0-g.y0)) ?_;refine Pc (ig ((f.x0-g.x0)*(f.x0-g.x0)) ((f.y0-g.y0)*(f.y0-g.y0))) ?_;refine Pc (dF (f.x0-g.x0) (f.x1-g.x1)) ?_;refine Pc (dF (f.y0-g.y0) (f.y1-g.y1)) ?_;refine Pc (ig ((f.x0-g.x0)*(f.x1-g.x1)) ((f.y0-g.y0)*(f.y1-g.y1))) ?_;refine Pc (dF 2 ((f.x0-g.x0)*(f.x1-g.x1)+(f.y0-g.y0)*(f.y1-g.y1))) ?_;refine Pc (dF (f.x1-g.x1) (f.x1-g.x1)) ?_;refine Pc (dF (f.y1-g.y1) (f.y1-g.y1)) ?_;refine Pc (ig ((f.x1-g.x1)*(f.x1-g.x1)) ((f.y1-g.y1)*(f.y1-g.y1))) ?_;refine(Bu [(0,_),(1,_),(2,_)]) (Qv) ?_;refine eG ?_;refine KY 2 ?_;exact rfl
def vG(l:List PU)(lb:Option Nat)(lN lc:Nat)(hlc:l.length<=lc:=by omega)(hln:l.length<=1000:=by omega):bZ Tryz.prog 91 [⟨lb,100,ai aB l,lN,false⟩] [ay lb 0 l.length lc] (SR ((id) l).length) SR.v (fun z=>[⟨z.b,201,ai aB ((id) l),z.n,true⟩]):=by
 refine O3 22 Tryz.func91 fun w hL0=>?_;refine A19 ?_;refine El (ι:={z:Nat×List PU×Option Nat×Nat×Nat // z.1<=l.length∧z.2.1=(id) (l.take z.1)∧z.2.1.length<=z.2.2.2.2∧z.2.2.2.2*36<=z.2.2.2.1}) (fun⟨⟨i,o,ob,oN,oc⟩,hi,hI,h3,h4⟩=>([(3,ay ob 0 o.length oc),(6,ay lb 0 l.length lc),(7,bG (l.length)),(8,bG i)],[⟨lb,100,ai aB l,lN,false⟩,⟨ob,201,ai aB o,oN,true⟩],l.length-i)) ⟨⟨0,[],none,0,0⟩,Nat.zero_le _,rfl,Nat.le_refl _,bI⟩ ?_ (hL:=(aA [some 0,none] ⟨pR,⟨rfl,rfl,rfl⟩,trivial⟩ rfl rfl));rintro⟨⟨i,o,ob,oN,oc⟩,hi,hI,h3,h4⟩;(try dsimp only);replace hi:i<=l.length:=hi;replace hI:o=(id) (l.take i):=hI;replace h3:o.length<=oc:=h3;replace h4:oc*36<=oN:=h4
 have hol:o.length<=100000:=(by rw[hI];simp;omega);refine A6 ?_;refine Cd ?_ ?_<;>intro haQ
 ·have hlt:i<l.length:=iL;obtain⟨x,hx⟩:∃x,l[i]? =some x:=⟨l[i],List.getElem?_eq_getElem hlt⟩;refine dL 0 rfl (aX.ne ax ae) (fun hbs=>?_);obtain⟨gl,hgl⟩:=Option.isSome_iff_exists.1 hbs;replace hgl:lb=some gl:=hgl;subst hgl;refine A6 ?_;refine FZ ?_;refine aG (v:=PUV x) 0 ((i)*36) _ rfl rfl rfl rfl EU (aX.sub hx 0 36 ax) rfl ax rfl ?_;refine Al 36 qqV (fun g0=>?_);refine Ss 2 ?_;refine A5 ?_;refine yz 2 0 ?_;refine A1 ?_;refine L16 2 20 ?_;refine(Bu [(0,_),(1,_)]) (EW) ?_;refine(Bl 36 [(0,_)]) (wE) (fun g1=>?_);refine(Qa (s:=36) (len:=o.length) (n2:=1) 1 3 (fun r=>[_,⟨some r.g,201,ai aB o++aB (x),r.n,true⟩,_,_]) vS EX) (aX.length o) h3 h4 (aX.one (x)) (fun r=>?_);refine A5 ?_;refine dP ?_;exact Nl ⟨⟨i+1,o++[x],some r.g,r.n,r.cap⟩,hlt,by show o++[x]=l.take (i+1);rw[hI];exact fJ hx,lq,r.hn⟩ (hμ:=nM) (ht:=⟨(aU rfl lT),rfl,rfl,rfl,trivial⟩) (hL:=(aA [some 0,some 1] ⟨pR,⟨_,rfl,bn lU⟩,trivial⟩ rfl rfl))
 ·have hge:i=l.length:=jc;subst hge;obtain rfl:o=(id) l:=Bc
  exact Me
variable[Mo]
def qR(a b:qB)(ha:gJ a.1<=50000:=by omega)(hb:gJ b.1<=50000:=by omega):aP Tryz.prog 148 #[BdV a,BdV b] (.int .i64 (wW a b)):=by
 refine oz 23 Tryz.func148 fun w=>?_;refine A2 ?_;refine Bp 10 (fun g0=>?_);refine Bp 10 (fun g1=>?_);refine A7 ?_;refine L9 0 0 ?_;refine A1 ?_;refine L9 1 0 ?_;refine Pc (dI a.1 b.1 ha hb) ?_;refine A9 ?_;refine Cd ?_ ?_<;>intro haQ
 ·have hs12:bQ a.1 b.1≠0:=xu
  refine A8 ?_;refine E0 ?_;rw[wW,if_pos hs12]
 ·have hs12:bQ a.1 b.1=0:=xu
  refine lD ?_;refine BN rfl u4 rfl rfl rfl ?_;refine A3 ?_;refine Cd ?_ ?_<;>intro hbQ
  ·have hs19:a.2=b.2:=Hm
   refine A8 ?_;refine E0 ?_;rw[wW,if_neg (fun e=>e hs12),if_pos hs19]
  ·have hs19:a.2≠b.2:=Hm
   refine A7 ?_;refine Cd ?_ ?_<;>intro hcQ
   ·have hs20:b.2=true:=hcQ;refine A8 ?_;refine E0 ?_;rw[wW,if_neg (fun e=>e hs12),if_neg hs19,if_pos hs20]
   ·have hs20:b.2=false:=hcQ;refine A9 ?_;refine E0 ?_;rw[wW,if_neg (fun e=>e hs12),if_neg hs19,if_neg (by rw[hs20];decide)]
def vH(i:Iv):aP Tryz.prog 149 #[fV i] (BdV i.b):=by
 refine xI 8 Tryz.func149 fun w=>?_;refine A2 ?_;refine Bp 20 (fun g0=>?_);refine Al 10 qmm (fun g1=>?_);refine A5 ?_;refine L9 0 0 ?_;refine A2 ?_;refine(Bu [(0,_),(1,_)]) (YH) ?_;refine Ss 1 ?_;refine A3 ?_;refine qpb 1 ?_;exact rfl
def xB(i:Iv):aP Tryz.prog 150 #[fV i] (BdV i.e):=by
 refine xI 9 Tryz.func150 fun w=>?_;refine A2 ?_;refine Bp 20 (fun g0=>?_);refine Al 10 qmm (fun g1=>?_);refine A5 ?_;refine L9 0 9 ?_;refine A3 ?_;refine(Bu [(0,_),(1,_)]) (YH) ?_;refine Ss 1 ?_;refine A3 ?_;refine qpb 1 ?_;exact rfl
def Ht(a b:qB):aP Tryz.prog 194 #[BdV a,BdV b] (fV (NK a b)):=by
 refine oz 15 Tryz.func194 fun w=>?_;refine A2 ?_;refine Bp 10 (fun g0=>?_);refine Bp 10 (fun g1=>?_);refine Al 20 z61 (fun g2=>?_);refine A5 ?_;refine L9 0 0 ?_;refine A1 ?_;refine L9 1 0 ?_;refine A5 ?_;refine(Bu [(0,_),(1,_),(2,_),(3,_)]) (Kv) ?_;refine eG ?_;refine qrs 2 ?_;exact rfl
end Go.Proofs.YtaffcpfhedadhaaGreatDoor
namespace Go.Proofs.YtaffcpfhedadhaaGreatDoor
open Go Go.RowKit Go.Via
def jm(x:Rl)(hx:gJ x<=5000:=by omega):aP Tryz.prog 51 #[RV x] (.int .i64 (if dV x=true then 0 else 5)):=by
 have x1:=Nat.le_trans (sF x) hx;have x2:=Nat.le_trans (yh x) hx;refine xI 31 Tryz.func51 fun w=>?_;refine A2 ?_;refine Bp 9 (fun g0=>?_);refine A7 ?_;refine L4 0 0 ?_;refine Pc (Vd x.p) ?_;refine A1 ?_;refine Kr 8 (.bool false) ?_;refine A2 ?_;refine L4 0 4 ?_;refine Pc (Vd x.r) ?_;refine A1 ?_;refine Kr 13 (.bool false) ?_;refine lD ?_;refine L4 0 4 ?_;refine Pc (dX x.r) ?_;refine A9 ?_;refine Cd ?_ ?_<;>intro haQ
 ·have hs18:x.r.num.sign= -1:=eq_of_beq haQ;refine A8 ?_;refine E0 ?_;rw[qfD hs18];rfl
 ·have hs18:x.r.num.sign≠ -1:=ne_of_beq_false haQ;refine A6 ?_;refine Cd ?_ ?_<;>intro hbQ
  ·have hs20:x.r.num.sign=0:=eq_of_beq hbQ;refine A7 ?_;refine Cd ?_ ?_<;>intro hcQ
   ·have hs23:x.n=true:=hcQ;refine A9 ?_;refine E0 ?_;rw[PK hs20,hs23];rfl
   ·have hs23:x.n=false:=hcQ;refine lD ?_;refine E0 ?_;rw[PK hs20,hs23];rfl
  ·have hs20:x.r.num.sign≠0:=ne_of_beq_false hbQ;refine A7 ?_;refine L4 0 4 ?_;refine Pc (zq x.r) ?_;refine A3 ?_;refine Al 4 qL (fun g1=>?_);refine Ss 1 ?_;refine A8 ?_;refine Cd ?_ ?_<;>intro hcQ
   ·have hs30:Cc x.r=true:=hcQ;refine A7 ?_;refine E0 ?_;rw[Vh hs18 hs20,hs30];rfl
   ·have hs30:Cc x.r=false:=hcQ;refine A8 ?_;refine E0 ?_;rw[Vh hs18 hs20,hs30];rfl
def qi(i:Iv)(hi:jH i<=5000:=by omega):aP Tryz.prog 101 #[fV i] (.int .i64 (if(dV i.f&&dV i.t)=false then 5 else if lF i=false then 10 else 0)):=by
 have i1:=Nat.le_trans (jW i) hi;have i2:=Nat.le_trans (jX i) hi;refine xI 19 Tryz.func101 fun w=>?_;refine A2 ?_;refine Bp 20 (fun g0=>?_);refine A7 ?_;refine L9 0 0 ?_;refine Pc (jm i.f) ?_;refine A2 ?_;refine Rs 7 ?_ ?_<;>intro haQ
 ·have hs7:dV i.f=false:=qfx
  refine D7 ?_;refine E0 ?_;rw[hs7];rfl
 ·have hs7:dV i.f=true:=qfx
  refine A1 ?_;refine L9 0 9 ?_;refine Pc (jm i.t) ?_;refine A4 ?_;refine Cd ?_ ?_<;>intro hbQ
  ·have hs12:dV i.t=false:=qfy
   refine A7 ?_;refine E0 ?_;rw[hs7,hs12];rfl
  ·have hs12:dV i.t=true:=qfy
   refine A4 ?_;refine Dp [] [0,2,1,3,4,5] ?_;refine yz 0 0 ?_;refine yz 0 0 ?_;refine Pc (vH i) ?_;refine Pc (xB i) ?_;refine dY [_,_] rfl rfl rfl (qR i.b i.e (by show gJ i.f<=_;omega) (by show gJ i.t<=_;omega)) ?_;refine A3 ?_;refine Cd ?_ ?_<;>intro hcQ
   ·have hs18:lF i=false:=qfz
    refine A7 ?_;refine E0 ?_;rw[hs7,hs12,hs18];rfl
   ·have hs18:lF i=true:=qfz
    refine A8 ?_;refine E0 ?_;rw[hs7,hs12,hs18];rfl
def vI(a b:Iv)(ha:jH a<=50000:=by omega)(hb:jH b<=50000:=by omega):aP Tryz.prog 139 #[fV a,fV b] (.bool (Pg a b)):=by
 have a1:=Nat.le_trans (jW a) ha;have a2:=Nat.le_trans (jX a) ha;have b1:=Nat.le_trans (jW b) hb;have b2:=Nat.le_trans (jX b) hb;refine oz 26 Tryz.func139 fun w=>?_;refine A2 ?_;refine Bp 20 (fun g0=>?_);refine Bp 20 (fun g1=>?_);refine A6 ?_;refine L9 0 9 ?_;refine A1 ?_;refine L9 1 9 ?_;refine Pc (dI a.t b.t) ?_;refine A8 ?_;refine Rs 13 ?_ ?_<;>intro haQ
 ·refine SG ?_;refine E0 ?_;exact eB Q9
 ·refine A3 ?_;refine Rs 16 ?_ ?_<;>intro hbQ
  ·refine A3 ?_;refine Rs 19 ?_ ?_<;>intro hcQ
   ·refine lD ?_;refine E0 ?_;exact eB Q9
   ·refine lD ?_;refine E0 ?_;exact eB Q9
  ·refine Gw ?_;refine E0 ?_;exact eB Q9
def MG(a b:Iv)(ha:jH a<=50000:=by omega)(hb:jH b<=50000:=by omega):aP Tryz.prog 185 #[fV a,fV b] (.bool (Xb a b)):=by
 have a1:=Nat.le_trans (jW a) ha;have a2:=Nat.le_trans (jX a) ha;have b1:=Nat.le_trans (jW b) hb;have b2:=Nat.le_trans (jX b) hb;refine oz 25 Tryz.func185 fun w=>?_;exact qk9
def iy(i:Iv):aP Tryz.prog 187 #[fV i] (.bool (eF i)):=by
 refine xI 8 Tryz.func187 fun w=>?_;refine A2 ?_;refine Bp 20 (fun g0=>?_);refine A6 ?_;refine L9 0 0 ?_;refine A1 ?_;refine L9 0 9 ?_;refine jO ?_;refine A4 ?_;refine E0 ?_;exact rfl
def N9(a b:Iv)(ha:jH a<=50000:=by omega)(hb:jH b<=50000:=by omega):aP Tryz.prog 138 #[fV a,fV b] (.tuple #[fV (fC a b),.bool (lF (fC a b))]):=by
 have a1:=Nat.le_trans (jW a) ha;have a2:=Nat.le_trans (jX a) ha;have b1:=Nat.le_trans (jW b) hb;have b2:=Nat.le_trans (jX b) hb;have hmf:=PL ha hb;have hmt:=PM ha hb;refine oz 81 Tryz.func138 fun w=>?_;refine A2 ?_;refine Bp 20 (fun g0=>?_);refine Bp 20 (fun g1=>?_);refine Al 20 z61 (fun g2=>?_);refine A5 ?_;refine yz 0 0 ?_;refine Al 20 z61 (fun g3=>?_);refine Ss 3 ?_;refine A2 ?_;refine QA (nt:=81) [(2,dJ g0),(3,dJ g1),(4,dJ g2),(5,.bool false),(6,dJ g3)] [⟨some g0,61,aO a,20,true⟩,⟨some g1,61,aO b,20,true⟩,⟨some g2,61,qpz,20,true⟩,⟨some g3,61,aO ⟨(rW a b).1,a.t,(rW a b).2,a.tp⟩,20,true⟩] ?_ ?_
 ·refine A3 ?_;refine L9 0 0 ?_;refine A1 ?_;refine L9 1 0 ?_;refine Pc (dI a.f b.f) ?_;refine oJ ?_;refine Cd ?_ ?_<;>intro haQ
  ·have hsA:bQ a.f b.f<0:=of_decide_eq_true haQ;refine Di [3] ?_;refine A1 ?_;refine L9 1 0 ?_;refine A2 ?_;refine Fg 0 0 ?_;refine rU 3 0 [_,_,_,⟨some g3,61,_,20,true⟩] [_,_,_,_,_,_,_,_,_,_,_,_,_,_,_,_,_,_,_,_] rfl rfl rfl rfl dZ rfl rfl rfl rfl rfl rfl ?_;refine Fg 0 18 ?_;refine rU 3 18 [_,_,_,⟨some g3,61,_,20,true⟩] [_,_,_,_,_,_,_,_,_,_,_,_,_,_,_,_,_,_,_,_] rfl rfl rfl rfl ti4 rfl rfl rfl rfl rfl rfl ?_;refine A3 ?_;exact rf ⟨rfl,rfl,rfl,rfl,rfl,trivial⟩ (aA [some 0,some 1,some 2,some 3] ⟨pR,pR,pR,⟨_,rfl,bn (by rw[qju hsA]<;>rfl)⟩,trivial⟩ rfl rfl)
  ·have hsA:¬bQ a.f b.f<0:=of_decide_eq_false haQ;refine A7 ?_;refine Cd ?_ ?_<;>intro hbQ
   ·have hsB:bQ a.f b.f=0:=eq_of_beq hbQ;refine A4 ?_;refine Rs 30 ?_ ?_<;>intro hcQ
    ·have hsC:a.fo=true:=hcQ;refine A4 ?_;refine Ss 3 ?_;refine A3 ?_;exact rf ⟨rfl,rfl,rfl,rfl,rfl,trivial⟩ (aA [some 0,some 1,some 2,some 3] ⟨pR,pR,pR,⟨_,rfl,bn (by rw[ZF hsA hsB,hsC,Bool.true_or]<;>rfl)⟩,trivial⟩ rfl rfl)
    ·have hsC:a.fo=false:=hcQ;refine A4 ?_;refine Ss 3 ?_;refine A3 ?_;exact rf ⟨rfl,rfl,rfl,rfl,rfl,trivial⟩ (aA [some 0,some 1,some 2,some 3] ⟨pR,pR,pR,⟨_,rfl,bn (by rw[ZF hsA hsB,hsC,Bool.false_or]<;>rfl)⟩,trivial⟩ rfl rfl)
   ·have hsB:bQ a.f b.f≠0:=ne_of_beq_false hbQ;refine A3 ?_;exact rf ⟨rfl,rfl,rfl,rfl,rfl,trivial⟩ (aA [some 0,some 1,some 2,some 3] ⟨pR,pR,pR,⟨_,rfl,bn (by rw[qjv hsA hsB]<;>rfl)⟩,trivial⟩ rfl rfl)
 refine QA (nt:=81) [(2,dJ g0),(3,dJ g1),(4,dJ g2),(5,.bool false),(6,dJ g3)] [⟨some g0,61,aO a,20,true⟩,⟨some g1,61,aO b,20,true⟩,⟨some g2,61,qpz,20,true⟩,⟨some g3,61,aO ⟨(rW a b).1,(uK a b).1,(rW a b).2,(uK a b).2⟩,20,true⟩] ?_ ?_
 ·refine A3 ?_;refine L9 0 9 ?_;refine A1 ?_;refine L9 1 9 ?_;refine Pc (dI a.t b.t) ?_;refine oJ ?_;refine Cd ?_ ?_<;>intro haQ
  ·have hsA:0<bQ a.t b.t:=of_decide_eq_true haQ;refine Di [3] ?_;refine A1 ?_;refine L9 1 9 ?_;refine A2 ?_;refine Fg 0 9 ?_;refine rU 3 9 [_,_,_,⟨some g3,61,_,20,true⟩] [_,_,_,_,_,_,_,_,_,_,_,_,_,_,_,_,_,_,_,_] rfl rfl rfl rfl dZ rfl rfl rfl rfl rfl rfl ?_;refine Fg 0 19 ?_;refine rU 3 19 [_,_,_,⟨some g3,61,_,20,true⟩] [_,_,_,_,_,_,_,_,_,_,_,_,_,_,_,_,_,_,_,_] rfl rfl rfl rfl ti4 rfl rfl rfl rfl rfl rfl ?_;refine A3 ?_;exact rf ⟨rfl,rfl,rfl,rfl,rfl,trivial⟩ (aA [some 0,some 1,some 2,some 3] ⟨pR,pR,pR,⟨_,rfl,bn (by rw[qjw hsA]<;>rfl)⟩,trivial⟩ rfl rfl)
  ·have hsA:¬0<bQ a.t b.t:=of_decide_eq_false haQ;refine A7 ?_;refine Cd ?_ ?_<;>intro hbQ
   ·have hsB:bQ a.t b.t=0:=eq_of_beq hbQ;refine A4 ?_;refine Rs 54 ?_ ?_<;>intro hcQ
    ·have hsC:a.tp=true:=hcQ;refine A4 ?_;refine Ss 3 ?_;refine A3 ?_;exact rf ⟨rfl,rfl,rfl,rfl,rfl,trivial⟩ (aA [some 0,some 1,some 2,some 3] ⟨pR,pR,pR,⟨_,rfl,bn (by rw[ZG hsA hsB,hsC,Bool.true_or]<;>rfl)⟩,trivial⟩ rfl rfl)
    ·have hsC:a.tp=false:=hcQ;refine A4 ?_;refine Ss 3 ?_;refine A3 ?_;exact rf ⟨rfl,rfl,rfl,rfl,rfl,trivial⟩ (aA [some 0,some 1,some 2,some 3] ⟨pR,pR,pR,⟨_,rfl,bn (by rw[ZG hsA hsB,hsC,Bool.false_or]<;>rfl)⟩,trivial⟩ rfl rfl)
   ·have hsB:bQ a.t b.t≠0:=ne_of_beq_false hbQ;refine A3 ?_;exact rf ⟨rfl,rfl,rfl,rfl,rfl,trivial⟩ (aA [some 0,some 1,some 2,some 3] ⟨pR,pR,pR,⟨_,rfl,bn (by rw[qjx hsA hsB]<;>rfl)⟩,trivial⟩ rfl rfl)
 refine A3 ?_;refine L9 3 0 ?_;refine A1 ?_;refine L9 3 9 ?_;refine Pc (dI (rW a b).1 (uK a b).1 hmf hmt) ?_;refine A4 ?_;refine Di [2] ?_;refine yz 3 0 ?_;refine A3 ?_;refine Rs 67 ?_ ?_<;>intro haQ
 ·refine Gw ?_;exact ZB
 ·refine A3 ?_;refine Rs 70 ?_ ?_<;>intro hbQ
  ·refine A5 ?_;refine Rs 75 ?_ ?_<;>intro hcQ
   ·refine A5 ?_;exact ZB
   ·refine A5 ?_;exact ZB
  ·refine lD ?_;exact ZB
def CU(a b:Iv)(ha:jH a<=50000:=by omega)(hb:jH b<=50000:=by omega):aP Tryz.prog 81 #[fV a,fV b] (.bool (Xb a b)):=by
 have a1:=Nat.le_trans (jW a) ha;have a2:=Nat.le_trans (jX a) ha;have b1:=Nat.le_trans (jW b) hb;have b2:=Nat.le_trans (jX b) hb;refine oz 25 Tryz.func81 fun w=>?_;exact qk9
variable[Mo]
def Ja(x y:Bool):aP Tryz.prog 153 #[.bool x,.bool y] (.bool (x||y)):=by
 refine oz 9 Tryz.func153 fun w=>?_;refine A9 ?_;refine Rs 6 ?_ ?_<;>intro haQ
 ·refine A6 ?_;refine E0 ?_;exact eB Rf
 ·refine A6 ?_;refine E0 ?_;exact eB Rf
def Jb(x y:Bool):aP Tryz.prog 191 #[.bool x,.bool y] (.bool (x&& !y)):=by
 refine oz 10 Tryz.func191 fun w=>?_;refine A9 ?_;refine Rs 6 ?_ ?_<;>intro haQ
 ·refine A7 ?_;refine E0 ?_;exact eB Rf
 ·refine A7 ?_;refine E0 ?_;exact eB Rf
def Jc(a b:(Rl×Bool)×Int×Int)(ha:gJ a.1.1<=50000:=by omega)(hb:gJ b.1.1<=50000:=by omega):aP Tryz.prog 193 #[EvV a,EvV b] (.int .i64 (wW a.1 b.1)):=by
 refine oz 10 Tryz.func193 fun w=>?_;refine kL fun g0=>?_;refine Bp 12 (fun g1=>?_);refine A6 ?_;refine L10 0 0 ?_;refine A1 ?_;refine L10 1 0 ?_;refine Pc (qR a.1 b.1 ha hb) ?_;refine A4 ?_;refine E0 ?_;exact rfl
end Go.Proofs.YtaffcpfhedadhaaGreatDoor
namespace Go.Via
open Go
def qjH(a b c:Int)(i:Nat)(h:i<3):([.int .i64 a,.int .i64 b,.int .i64 c]:List Value)[i]? =some (.int .i64 ([a,b,c].getD i 0)):=by
 rcases(show i=0∨i=1∨i=2 by omega) with rfl|rfl|rfl<;>rfl
def or3(a b c:Int):Int:=if a≠0 then a else if b≠0 then b else c
theorem qjI{a b c:Int}{i:Nat}(hi:i<3)(h:∀j,j<i->[a,b,c].getD j 0=0)(hn:[a,b,c].getD i 0≠0):or3 a b c=[a,b,c].getD i 0:=by
 have h0:=h 0;have h1:=h 1;rcases(show i=0∨i=1∨i=2 by omega) with rfl|rfl|rfl<;>simp at hn h0 h1 ⊢ <;>unfold or3<;>simp_all
theorem qnD{a b c:Int}(h:∀j,j<3->[a,b,c].getD j 0=0):or3 a b c=0:=by
 have h0:=h 0 ae;have h1:=h 1 ae;have h2:=h 2 ae;simp at h0 h1 h2;unfold or3;simp_all
def qfM{a b c:Int}{i:Nat}(h:∀j,j<i->[a,b,c].getD j 0=0)(hn:[a,b,c].getD i 0=0):∀j,j<i+1->[a,b,c].getD j 0=0:=fun j hj=>by
 by_cases e:j=i
 ·rw[e];exact hn
 ·exact h j ae
def opI(i:Iv):Int:=if i.fo=true then 1 else 0
theorem qfN(a b:PU):or3 (bQ a.i.f b.i.f) (if opI a.i<opI b.i then-1 else if opI b.i<opI a.i then 1 else 0) (bQ a.i.t b.i.t)=N7 a b:=by
 unfold or3 N7 qnl opI;cases a.i.fo<;>cases b.i.fo<;>simp
def XA{f:Ln}(h:jP f<=10000):ui (qx f)<=10000:=by
 have:=rD f;have:=rE f;have:=zo;unfold ui qx;dsimp only;omega
def XB{f:Ln}(h:jP f<=10000):ui (qy f)<=10000:=by
 have:=rF f;have:=rG f;have:=zo;unfold ui qy;dsimp only;omega
def qlc(f:Ln)(t:Rl):(vw (qx f) t).c0=(jK f t).x0∧(vw (qx f) t).c1=(jK f t).x1∧(vw (qy f) t).c0=(jK f t).y0∧(vw (qy f) t).c1=(jK f t).y1:=by
 unfold vw jK
 by_cases h:t.r=0
 ·rw[if_pos h,if_pos h,if_pos h];exact⟨rfl,rfl,rfl,rfl⟩
 ·rw[if_neg h,if_neg h,if_neg h];unfold Dj qx qy;refine⟨?_,?_,?_,?_⟩<;>dsimp only<;>grind
theorem ZN(f g:Ln)(t:Rl):(decide (vw (qh (qx f) (qx g)) t=⟨0,0,0⟩)&&decide (vw (qh (qy f) (qy g)) t=⟨0,0,0⟩))=pU f g t:=by
 have z0:(0:Rat)-0=0:=kN;have hx:qh (qx f) (qx g)=qx (Ee f g):=(by unfold qh qx Ee;dsimp only;rw[z0]);have hy:qh (qy f) (qy g)=qy (Ee f g):=(by unfold qh qy Ee;dsimp only;rw[z0]);rw[hx,hy];obtain⟨h1,h2,h3,h4⟩:=qlc (Ee f g) t;have z1:(vw (qx (Ee f g)) t).c2=0:=by unfold vw;split<;>rfl
 have z2:(vw (qy (Ee f g)) t).c2=0:=by unfold vw;split<;>rfl
 have e1:vw (qx (Ee f g)) t=⟨(jK (Ee f g) t).x0,(jK (Ee f g) t).x1,0⟩:=(by rw[<-h1,<-h2,<-z1]);have e2:vw (qy (Ee f g)) t=⟨(jK (Ee f g) t).y0,(jK (Ee f g) t).y1,0⟩:=(by rw[<-h3,<-h4,<-z2]);unfold pU;rw[e1,e2,Bool.eq_iff_iff,Bool.and_eq_true,decide_eq_true_eq,decide_eq_true_eq,decide_eq_true_eq]
 generalize jK (Ee f g) t=r
 obtain⟨a,b,c,d⟩:=r;simp[and_assoc]
end Go.Via
namespace Go.Via
open Go
def qpF{α:Type}{p:α->Prop}{a:List α}{i:Nat}{x:α}(hx:a[i]? =some x)(h:∀u∈a.take i,p u)(hp:p x):∀u∈a.take (i+1),p u:=fun u hu=>by
 rw[<-fJ hx] at hu;rcases List.mem_append.1 hu with h1|h1
 ·exact h u h1
 ·rw[List.mem_singleton.1 h1];exact hp
end Go.Via
namespace Go.Via
open Go
def iO(a b:List PU):Rl×Rl×Bool×Int:=if((aj a b).map aC).length=0 then(rl 0,rl 0,false,36) else(bJ ((aj a b).map aC),(((aj a b).map aC).foldl (LP (bJ ((aj a b).map aC))) (false,rl 0)).2,(aj a b).foldl (VJ (bJ ((aj a b).map aC))) false,0)
section
variable{a b:List PU}
theorem ZO(h:((aj a b).map aC).length=0):iO a b=(rl 0,rl 0,false,36):=if_pos h
theorem F7(h:¬((aj a b).map aC).length=0):iO a b=(bJ ((aj a b).map aC),(((aj a b).map aC).foldl (LP (bJ ((aj a b).map aC))) (false,rl 0)).2,(aj a b).foldl (VJ (bJ ((aj a b).map aC))) false,0):=if_neg h
end
theorem qld(f:Qd):decide (uj f<1)=FU f:=by
 unfold uj FU
 by_cases h2:f.c2=0<;>by_cases h1:f.c1=0<;>by_cases h0:f.c0=0<;>simp[h0,h1,h2]
section
variable{M w:Rl}{sf:Bool}{p:ny}
def qnE(h:sf=true):(sf,w)=LP M (sf,w) p:=(if_pos h).symm
def qrI(h:sf=false)(ha:p.a=M):(true,p.i.f)=LP M (sf,w) p:=by subst h;unfold LP;rw[if_neg (show¬false=true by decide),if_pos ha]
def qrJ(h:sf=false)(ha:p.a≠M)(hb:p.b=M):(true,p.i.t)=LP M (sf,w) p:=by subst h;unfold LP;rw[if_neg (show¬false=true by decide),if_neg ha,if_pos hb]
def qrK(h:sf=false)(ha:p.a≠M)(hb:p.b≠M):(sf,w)=LP M (sf,w) p:=by subst h;unfold LP;rw[if_neg (show¬false=true by decide),if_neg ha,if_neg hb]
end
theorem gz{α β:Type}{f:β->α->β}{l:List α}{i:Nat}{x:α}(hx:l[i]? =some x)(b:β):(l.take (i+1)).foldl f b=f ((l.take i).foldl f b) x:=by
 rw[<-fJ hx,List.foldl_append];rfl
end Go.Via
namespace Go.Via
open Go
def XC(x:Rl):Int:=uo x.p (o5 x) x.r
def lV(x:Rl):Int:=
 (if x.n=true then x.p.num*x.r.den-((bT ((x.p.den*x.p.den)*(x.r.num.natAbs*x.r.den)):Nat)+1) else x.p.num*x.r.den+(bT ((x.p.den*x.p.den)*(x.r.num.natAbs*x.r.den)):Nat))/((x.p.den*x.r.den:Nat):Int)
def dK(q:Qd):List Rl:=
 if q.c2=0 then(if q.c1=0 then[] else[rl (-(q.c0/q.c1))]) else
 let h:=q.c1/(-2*q.c2)
 let r:=h*h-q.c0/q.c2
 if r<0 then[] else if r=0 then[rl h] else[mkR h (-1) r,mkR h 1 r]
def tu(x y:Rl):Option Rat:=
 if dV x=true∧dV y=true∧gJ x<=1000∧gJ y<=1000∧¬XC x<0∧0<XC y∧0<bQ y (rl ((lV x+1:Int):Rat))∧x.n=false∧jD (lV x)<=4000 then some ((lV x+1:Int):Rat) else none
def F8(sm:Rl->Rl->Option Rat)(q:Qd)(i:Iv):Option Int:=
 if bQ i.f i.t<0 then(sm i.f i.t).bind fun r=>if cO r<=5000 then some (XC (O8 q (rl r))) else none else none
def gW(sm:Rl->Rl->Option Rat)(q:Qd)(i:Iv):List Rl->Iv->List (Iv×Int)->Option (List (Iv×Int))
 |[],rest,out=>if lF rest=true then(F8 sm q rest).map fun s=>out++[(rest,s)] else some out
 |r::rs,rest,out=>
  if Xc i r=false then gW sm q i rs rest out else
  if bQ rest.f r<0 then(F8 sm q ⟨rest.f,r,rest.fo,true⟩).bind fun s=>gW sm q i rs ⟨r,rest.t,true,rest.tp⟩ (out++[(⟨rest.f,r,rest.fo,true⟩,s),(⟨r,r,false,false⟩,0)])
  else gW sm q i rs ⟨r,rest.t,true,rest.tp⟩ (out++[(⟨r,r,false,false⟩,0)])
def qrL(l:List Iv)(i:Iv):List Iv:=match l.getLast? with
 |some u=>l.dropLast++[⟨u.f,i.t,u.fo,i.tp⟩]
 |none=>l
def nO(a b c:Bool)(s:Int):Bool:=if s<0 then a else if s=0 then b else c
def oG(w:Int->Bool):List (Iv×Int)->List Iv->Bool->List Iv
 |[],out,_=>out
 |p::ps,out,before=>if w p.2=true then oG w ps (if before=true then qrL out p.1 else out++[p.1]) true else oG w ps out false
def sV(sm:Rl->Rl->Option Rat)(w:Int->Bool)(q:Qd)(i:Iv):Option (List Iv):=(gW sm q i (dK q) i []).map fun l=>oG w l [] false
def MH(sm:Rl->Rl->Option Rat)(r:Rat):List (Iv×Qd)->Option (List Iv)
 |[]=>some []
 |x::l=>(sV sm (nO false false true) (qh x.2 ⟨r*r,0,0⟩) x.1).bind fun a=>(MH sm r l).map fun b=>a++b
end Go.Via
