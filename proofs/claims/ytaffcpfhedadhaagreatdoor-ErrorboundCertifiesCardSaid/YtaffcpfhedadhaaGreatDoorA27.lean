/-
  Part 27 (chapter 32): lemmas, walks. Each theorem states its own conditions.
-/
import Derived.Sort.Grow
import Derived.Sort.EncStr
import Derived.Shelf.SlSortCmp.WholeK
import Derived.Shelf.SlSortCmp.NoneTotal
import Derived.Test.YtaffcpfhedadhaaGreatDoorA11
import Derived.Test.YtaffcpfhedadhaaGreatDoorA12
import Derived.Test.YtaffcpfhedadhaaGreatDoorA13
import Derived.Test.YtaffcpfhedadhaaGreatDoorA18
import Derived.Test.YtaffcpfhedadhaaGreatDoorA26
set_option linter.all false
set_option maxRecDepth 20000
set_option maxHeartbeats 20000000
section
variable{P Q:Prop}{T:Type}{R:T->Prop}
def qbA(h:P:=by refine Dp [] (0::1::2::3::4::6::7::8::9::10::12::13::14::15::16::19::20::21::22::23::25::26::27::28::29::32::33::34::35::36::5::11::17::18::24::30::31::37::38::39::40::41::[]) ?_ (hc:=(nV (0::0::2::0::8::31::0::0::128::0::512::2047::0::0::8192::0::32768::131071::262143::0::0::1048576::0::4194304::16777215::0::0::67108864::0::268435456::1073741823::2147483647::0::0::8589934592::0::34359738368::137438953471::274877906943::549755813887::1099511627775::2199023255551::[]) (by kernel_rfl)));refine A2 ?_;refine L4 0 0 ?_;refine A1 ?_;refine L4 1 0 ?_;refine A2 ?_;refine L4 0 0 ?_;refine A1 ?_;refine L4 1 4 ?_;refine A2 ?_;refine L4 0 4 ?_;refine A1 ?_;refine L4 1 0 ?_;refine A2 ?_;refine L4 0 0 ?_;refine A1 ?_;refine L4 1 8 ?_;refine A2 ?_;refine L4 0 8 ?_;refine A1 ?_;refine L4 1 0 ?_;refine A2 ?_;refine L4 0 4 ?_;refine A1 ?_;refine L4 1 4 ?_;refine nO [_,_] rfl rfl rfl rfl (aX f.c0 g.c0) ?_;refine nO [_,_] rfl rfl rfl rfl (aX f.c0 g.c1) ?_;refine nO [_,_] rfl rfl rfl rfl (aX f.c1 g.c0) ?_;refine Pc (dM (f.c0*g.c1) (f.c1*g.c0)) ?_;refine nO [_,_] rfl rfl rfl rfl (aX f.c0 g.c2) ?_;refine nO [_,_] rfl rfl rfl rfl (aX f.c2 g.c0) ?_;refine Pc (dM (f.c0*g.c2) (f.c2*g.c0)) ?_;refine nO [_,_] rfl rfl rfl rfl (aX f.c1 g.c1) ?_;refine Pc (dM (f.c0*g.c2+f.c2*g.c0) (f.c1*g.c1)) ?_;refine(Bu [(0,_),(1,_),(2,_)]) (OH) ?_;refine Ss 2 ?_;refine A4 ?_;refine bF rfl (bn 2 rfl rfl qdC (vs:=[_,_,_,_,_,_,_,_,_,_,_,_]) rfl rfl (Nat.le_of_ble_eq_true rfl) rfl) (aj rfl) (fun w hL=>⟨?_,hL.below⟩);exact rfl):=h
end
namespace Go.Proofs.YtaffcpfhedadhaaGreatDoor
open Go Go.RowKit Go.Via
def He(x:Rl):aH Tryz.prog 318 #[RV x] (.tuple #[Q (if x.r=0 then x.p else 0),.bool (decide (x.r=0))]):=by
 refine uX 11 Tryz.func318 fun w=>?_;refine A2 ?_;refine Bp 9 (fun g0=>?_);refine Al 4 oM (fun g1=>?_);refine A7 ?_;refine L4 0 4 ?_;refine(Bu []) (yt) ?_;refine aQ 6 (Q 0) rfl yh.symm ?_;refine DT rfl rfl rfl rfl qab (qad _ _) ?_;refine A2 ?_;refine Cd ?_ ?_<;>intro haQ
 ·have hs7:x.r≠0:=by have e:=haQ;simpa using e
  refine A2 ?_;refine(Bu []) (yt) ?_;refine aQ 8 (Q 0) rfl yh.symm ?_;refine Ss 1 ?_;refine A5 ?_;refine bF rfl (bn 1 rfl rfl BG (vs:=[_,_,_,_]) rfl rfl (Nat.le_of_ble_eq_true rfl) rfl) (aj rfl) (fun w hL=>⟨?_,hL.below⟩);rw[if_neg hs7,decide_eq_false hs7];rfl
 ·have hs7:x.r=0:=by have e:=haQ;simpa using e
  refine A5 ?_;refine L4 0 0 ?_;refine Ss 1 ?_;refine A4 ?_;refine bF rfl (bn 1 rfl rfl BG (vs:=[_,_,_,_]) rfl rfl (Nat.le_of_ble_eq_true rfl) rfl) (aj rfl) (fun w hL=>⟨?_,hL.below⟩);rw[if_pos hs7,decide_eq_true hs7];rfl
def rE(c:Rat):aH Tryz.prog 74 #[Q c] (qH ⟨c,0,0⟩):=by
 refine uX 5 Tryz.func74 fun w=>?_;refine A2 ?_;refine Bp 4 (fun g0=>?_);refine Al 12 Gv (fun g1=>?_);refine A4 ?_;refine L4 0 0 ?_;refine(Bu [(0,_)]) (Z7) ?_;refine Ss 1 ?_;refine A3 ?_;refine Jm 1 ?_;rw[NE]
def jo(a b:Rat):aH Tryz.prog 141 #[Q a,Q b] (qH ⟨a,b,0⟩):=by
 refine nG 8 Tryz.func141 fun w=>?_;refine A2 ?_;refine Bp 4 (fun g0=>?_);refine Bp 4 (fun g1=>?_);refine Al 12 Gv (fun g2=>?_);refine A4 ?_;refine L4 0 0 ?_;refine L4 1 0 ?_;refine(Bu [(0,_),(1,_)]) (Z8) ?_;refine Ss 2 ?_;refine A3 ?_;refine Jm 2 ?_;rw[WB]
def Hf(f g:Qd)(hf:tJ f<=1000000:=by omega)(hg:tJ g<=1000000:=by omega):aH Tryz.prog 92 #[qH f,qH g] (qH ⟨f.c0+g.c0,f.c1+g.c1,f.c2+g.c2⟩):=by
 have f0:=Nat.le_trans (o7 f) hf;have f1:=Nat.le_trans (o8 f) hf;have f2:=Nat.le_trans (pV f) hf;have g0:=Nat.le_trans (o7 g) hg;have g1:=Nat.le_trans (o8 g) hg;have g2:=Nat.le_trans (pV g) hg;refine nG 21 Tryz.func92 fun w=>?_;refine A2 ?_;refine Bp 12 (fun g0=>?_);refine Bp 12 (fun g1=>?_);refine Al 12 Gv (fun g2=>?_);refine A3 ?_;refine Dp [] [0,1,2,3,5,6,7,8,10,11,12,13,4,9,14,15,16] ?_;refine A1 ?_;refine L4 0 0 ?_;refine A1 ?_;refine L4 1 0 ?_;refine A1 ?_;refine L4 0 4 ?_;refine A1 ?_;refine L4 1 4 ?_;refine A1 ?_;refine L4 0 8 ?_;refine A1 ?_;refine L4 1 8 ?_;refine Pc (dM f.c0 g.c0) ?_;refine Pc (dM f.c1 g.c1) ?_;refine Pc (dM f.c2 g.c2) ?_;refine(Bu [(0,_),(1,_),(2,_)]) (OH) ?_;refine Ss 2 ?_;refine A3 ?_;refine Jm 2 ?_;exact rfl
def yO(f g:Qd)(hf:tJ f<=1000000:=by omega)(hg:tJ g<=1000000:=by omega):aH Tryz.prog 77 #[qH f,qH g] (qH (o9 f g)):=by
 have f0:=Nat.le_trans (o7 f) hf;have f1:=Nat.le_trans (o8 f) hf;have f2:=Nat.le_trans (pV f) hf;have g0:=Nat.le_trans (o7 g) hg;have g1:=Nat.le_trans (o8 g) hg;have g2:=Nat.le_trans (pV g) hg;refine nG 21 Tryz.func77 fun w=>?_;refine A2 ?_;refine Bp 12 (fun g0=>?_);refine Bp 12 (fun g1=>?_);refine Al 12 Gv (fun g2=>?_);refine A3 ?_;refine Dp [] [0,1,2,3,5,6,7,8,10,11,12,13,4,9,14,15,16] ?_;refine A1 ?_;refine L4 0 0 ?_;refine A1 ?_;refine L4 1 0 ?_;refine A1 ?_;refine L4 0 4 ?_;refine A1 ?_;refine L4 1 4 ?_;refine A1 ?_;refine L4 0 8 ?_;refine A1 ?_;refine L4 1 8 ?_;refine Pc (eU f.c0 g.c0) ?_;refine Pc (eU f.c1 g.c1) ?_;refine Pc (eU f.c2 g.c2) ?_;refine(Bu [(0,_),(1,_),(2,_)]) (OH) ?_;refine Ss 2 ?_;refine A3 ?_;refine Jm 2 ?_;exact rfl
def xP(f:Qd)(t:Rat)(hf:tJ f<=500000:=by omega)(ht:bV t<=500000:=by omega):aH Tryz.prog 143 #[qH f,Q t] (Q (vT f t)):=by
 have f0:=Nat.le_trans (o7 f) hf;have f1:=Nat.le_trans (o8 f) hf;have f2:=Nat.le_trans (pV f) hf;have l1:=aS t f.c2;have l2:=cO f.c1 (t*f.c2);have l3:=aS t (f.c1+t*f.c2);refine nG 17 Tryz.func143 fun w=>?_;refine A2 ?_;refine Bp 12 (fun g0=>?_);refine Bp 4 (fun g1=>?_);refine Al 4 oM (fun g2=>?_);refine A3 ?_;refine Di [] ?_;refine A1 ?_;refine L4 0 0 ?_;refine L4 1 0 ?_;refine A1 ?_;refine L4 0 4 ?_;refine L4 1 0 ?_;refine A1 ?_;refine L4 0 8 ?_;refine Pc (aX t f.c2) ?_;refine Pc (dM f.c1 (t*f.c2)) ?_;refine Pc (aX t (f.c1+t*f.c2)) ?_;refine Pc (dM f.c0 (t*(f.c1+t*f.c2))) ?_;refine Ss 2 ?_;refine A3 ?_;refine Dz 2 ?_;exact rfl
def vZ(f:Qd)(t:Rat)(hf:tJ f<=500000:=by omega)(ht:bV t<=500000:=by omega):aH Tryz.prog 144 #[qH f,Q t] (Q (BP f t)):=by
 have f0:=Nat.le_trans (o7 f) hf;have f1:=Nat.le_trans (o8 f) hf;have f2:=Nat.le_trans (pV f) hf;have l1:=cO f.c2 f.c2;have l2:=aS (f.c2+f.c2) t;refine nG 15 Tryz.func144 fun w=>?_;refine A2 ?_;refine Bp 12 (fun g0=>?_);refine Bp 4 (fun g1=>?_);refine Al 4 oM (fun g2=>?_);refine A3 ?_;refine Dp [] [0,1,2,3,4,5,7,6,8,9,10] ?_;refine A1 ?_;refine L4 0 4 ?_;refine A1 ?_;refine L4 0 8 ?_;refine A1 ?_;refine L4 0 8 ?_;refine L4 1 0 ?_;refine Pc (dM f.c2 f.c2) ?_;refine Pc (aX (f.c2+f.c2) t) ?_;refine Pc (dM f.c1 ((f.c2+f.c2)*t)) ?_;refine Ss 2 ?_;refine A3 ?_;refine Dz 2 ?_;exact rfl
def GI(p q r:Rat)(h0:0<=r:=by omega)(hp:bV p<=500000:=by omega)(hq:bV q<=500000:=by omega)(hr:bV r<=500000:=by omega):aH Tryz.prog 146 #[Q p,Q q,Q r] (.tuple #[RV (mkR p q r),.int .i64 0]):=by
 have l1:=aS q q;have l2:=Pi r;have l3:=aS q (mr r);refine pB3 36 Tryz.func146 fun w=>?_;refine A2 ?_;refine Bp 4 (fun g0=>?_);refine Bp 4 (fun g1=>?_);refine Bp 4 (fun g2=>?_);refine Al 9 OD (fun g3=>?_);refine A6 ?_;refine L4 2 0 ?_;refine Pc (dV r) ?_;refine A3 ?_;refine Cd ?_ ?_<;>intro haQ
 ·exact absurd (of_decide_eq_true haQ) (by have:=(qib h0);omega)
 ·refine A5 ?_;refine L4 2 0 ?_;refine Pc (yN r) ?_;refine A3 ?_;refine Al 4 oM (fun g4=>?_);refine Ss 4 ?_;refine A8 ?_;refine Cd ?_ ?_<;>intro hbQ
  ·have hs:Bj r=true:=hbQ;refine A1 ?_;refine Di [] ?_;refine L4 0 0 ?_;refine L4 1 0 ?_;refine L4 4 0 ?_;refine aQ 22 (Q (mr r)) rfl (by rw[hs,if_pos rfl];rfl) ?_;refine Pc (aX q (mr r)) ?_;refine Pc (dM p (q*mr r)) ?_;refine(Bu [(0,_)]) (FD) ?_;refine Ss 3 ?_;refine A5 ?_;refine bF rfl (bn 3 rfl rfl iH (vs:=[_,_,_,_,_,_,_,_,_]) rfl rfl (Nat.le_of_ble_eq_true rfl) rfl) (aj rfl) (fun w hL=>⟨?_,hL.below⟩);rw[mkR,hs,if_pos rfl,JV]
  ·have hs:Bj r=false:=hbQ;refine A3 ?_;refine Dp [] [0,1,2,4,6,3,5,7,8,9,10,11] ?_;refine L4 0 0 ?_;refine L4 1 0 ?_;refine L4 1 0 ?_;refine L4 2 0 ?_;refine L4 1 0 ?_;refine Pc (aX q q) ?_;refine Pc (aX (q*q) r) ?_;refine Pc (dV q) ?_;refine A1 ?_;refine(Bu [(0,_),(1,_),(2,_)]) (Z5) ?_;refine Ss 3 ?_;refine A4 ?_;refine bF rfl (bn 3 rfl rfl iH (vs:=[_,_,_,_,_,_,_,_,_]) rfl rfl (Nat.le_of_ble_eq_true rfl) rfl) (aj rfl) (fun w hL=>⟨?_,hL.below⟩);rw[mkR,hs,if_neg (by decide)];rfl
def uB(f:Qd)(t:Rl)(h0:0<=t.r:=by omega)(hf:tJ f<=10000:=by omega)(ht:gz t<=10000:=by omega):aH Tryz.prog 94 #[qH f,RV t] (RV (Nq f t)):=by
 have f0:=Nat.le_trans (o7 f) hf;have f1:=Nat.le_trans (o8 f) hf;have f2:=Nat.le_trans (pV f) hf;have t1:=Nat.le_trans (rD t) ht;have t2:=Nat.le_trans (xO t) ht;have l1:=wV f t.p;have l2:=qbx f t.p;have l3:=aS f.c2 t.r;have l4:=cO (vT f t.p) (f.c2*t.r);have l5:=dX (BP f t.p);refine nG 36 Tryz.func94 fun w=>?_;refine A2 ?_;refine Bp 12 (fun g0=>?_);refine Bp 9 (fun g1=>?_);refine Al 9 OD (fun g2=>?_);refine A3 ?_;refine Dq [3000000] [0,1,2,4,5,6,7,3,8,9,10,11] ?_;refine uV 0 0 ?_;refine A1 ?_;refine L4 1 0 ?_;refine A1 ?_;refine L4 0 8 ?_;refine A1 ?_;refine L4 1 4 ?_;refine Pc (xP f t.p) ?_;refine Pc (aX f.c2 t.r) ?_;refine Pc (dM (vT f t.p) (f.c2*t.r)) ?_;refine Al 4 oM (fun g3=>?_);refine Ss 3 ?_;refine A4 ?_;refine uV 0 0 ?_;refine A1 ?_;refine L4 1 0 ?_;refine Pc (vZ f t.p) ?_;refine Al 4 oM (fun g4=>?_);refine Ss 4 ?_;refine A9 ?_;refine Cd ?_ ?_<;>intro haQ
 ·refine A1 ?_;refine L4 4 0 ?_;refine Pc (uw (BP f t.p)) ?_;refine Ss 4 ?_;refine A4 ?_;refine L4 3 0 ?_;refine L4 4 0 ?_;refine A1 ?_;refine L4 1 4 ?_;refine Pc (GI (vT f t.p+f.c2*t.r) (-BP f t.p) t.r h0) ?_;refine A3 ?_;refine Al 9 OD (fun g5=>?_);refine Ss 5 ?_;refine A5 ?_;refine L9 5 0 ?_;refine Ss 2 ?_;refine A3 ?_;refine Ed9 2 ?_;rw[Nq,if_pos haQ];rfl
 ·refine A4 ?_;refine L4 3 0 ?_;refine L4 4 0 ?_;refine A1 ?_;refine L4 1 4 ?_;refine Pc (GI (vT f t.p+f.c2*t.r) (BP f t.p) t.r h0) ?_;refine A3 ?_;refine Al 9 OD (fun g5=>?_);refine Ss 5 ?_;refine A5 ?_;refine L9 5 0 ?_;refine Ss 2 ?_;refine A3 ?_;refine Ed9 2 ?_;rw[Nq,if_neg (by rw[haQ];decide)];rfl
def oq(f:Qd)(t:Rl)(hf:tJ f<=100000:=by omega)(ht:gz t<=100000:=by omega):aH Tryz.prog 316 #[qH f,RV t] (qH (uz f t)):=by
 have f0:=Nat.le_trans (o7 f) hf;have f1:=Nat.le_trans (o8 f) hf;have f2:=Nat.le_trans (pV f) hf;have t1:=Nat.le_trans (rD t) ht;have t2:=Nat.le_trans (xO t) ht;have l1:=aS t.p t.p;have l2:=bU t.r (t.p*t.p);have l3:=aS f.c2 (t.r-t.p*t.p);refine nG 38 Tryz.func316 fun w=>?_;refine A2 ?_;refine Bp 12 (fun g0=>?_);refine Bp 9 (fun g1=>?_);refine Al 12 Gv (fun g2=>?_);refine A5 ?_;refine L9 1 0 ?_;refine Pc (He t) ?_;refine A3 ?_;refine Al 4 oM (fun g3=>?_);refine Ss 3 ?_;refine A8 ?_;refine Cd ?_ ?_<;>intro haQ
 ·have hs13:t.r=0:=of_decide_eq_true haQ;refine A2 ?_;refine uV 0 0 ?_;refine L4 3 0 ?_;refine aQ 15 (Q t.p) rfl (by rw[if_pos hs13];rfl) ?_;refine Pc (xP f t.p) ?_;refine Pc (rE (vT f t.p)) ?_;refine Ss 2 ?_;refine A4 ?_;refine Jm 2 ?_;rw[uz,if_pos hs13];rfl
 ·have hs13:¬t.r=0:=of_decide_eq_false haQ;refine A3 ?_;refine Dq [3000000] [0,1,2,3,4,5,6,7,8,9] ?_;refine A1 ?_;refine L4 1 4 ?_;refine A1 ?_;refine L4 1 0 ?_;refine A1 ?_;refine L4 1 0 ?_;refine Pc (aX t.p t.p) ?_;refine Pc (eU t.r (t.p*t.p)) ?_;refine Al 4 oM (fun g4=>?_);refine Ss 4 ?_;refine A3 ?_;refine Dp [] [0,1,2,3,4,7,8,9,5,6,10,11,12] ?_;refine A1 ?_;refine L4 0 0 ?_;refine A1 ?_;refine L4 0 8 ?_;refine L4 4 0 ?_;refine uV 0 0 ?_;refine A1 ?_;refine L4 1 0 ?_;refine Pc (aX f.c2 (t.r-t.p*t.p)) ?_;refine Pc (dM f.c0 (f.c2*(t.r-t.p*t.p))) ?_;refine Pc (vZ f t.p) ?_;refine Pc (jo (f.c0+f.c2*(t.r-t.p*t.p)) (BP f t.p)) ?_;refine Ss 2 ?_;refine A3 ?_;refine Jm 2 ?_;rw[uz,if_neg hs13];rfl
def rW(t v u s:Rat)(h0:u-t≠0:=by omega)(h1:bV t<=100000:=by omega)(h2:bV v<=100000:=by omega)(h3:bV u<=100000:=by omega)(h4:bV s<=100000:=by omega):aH Tryz.prog 134 #[Q t,Q v,Q u,Q s] (.tuple #[qH ⟨v-(s-v)/(u-t)*t,(s-v)/(u-t),0⟩,.int .i64 0]):=by
 have l1:=bU s v;have l2:=bU u t;have l3:=fF (s-v) (u-t);have l4:=aS ((s-v)/(u-t)) t;refine pB4 33 Tryz.func134 fun w=>?_;refine A2 ?_;refine Bp 4 (fun g0=>?_);refine Bp 4 (fun g1=>?_);refine Bp 4 (fun g2=>?_);refine Bp 4 (fun g3=>?_);refine Al 12 Gv (fun g4=>?_);refine A4 ?_;refine Dq [3000000] [0,1,3,4,2,5,6,7,8,10,11,9,12] ?_;refine L4 3 0 ?_;refine L4 1 0 ?_;refine L4 2 0 ?_;refine L4 0 0 ?_;refine Pc (eU s v) ?_;refine Pc (eU u t) ?_;refine Pc (Aa (s-v) (u-t)) ?_;refine A2 ?_;refine Al 4 oM (fun g5=>?_);refine Ss 5 ?_;refine A1 ?_;refine aQ 21 (.int .i64 0) rfl (by rw[if_neg h0]) ?_;refine A8 ?_;refine Kr 23 (.bool false) ?_;refine A6 ?_;refine Dp [] [0,1,2,5,3,4,6,7,8] ?_;refine L4 1 0 ?_;refine L4 5 0 ?_;refine L4 0 0 ?_;refine L4 5 0 ?_;refine Pc (aX ((s-v)/(u-t)) t) ?_;refine Pc (eU v ((s-v)/(u-t)*t)) ?_;refine Pc (jo (v-(s-v)/(u-t)*t) ((s-v)/(u-t))) ?_;refine Ss 4 ?_;refine A4 ?_;refine bF rfl (bn 4 rfl rfl qdC (vs:=[_,_,_,_,_,_,_,_,_,_,_,_]) rfl rfl (Nat.le_of_ble_eq_true rfl) rfl) (aj rfl) (fun w hL=>⟨?_,hL.below⟩);exact rfl
def uC(f:Qd):aH Tryz.prog 72 #[qH f] (.int .i64 (BH f)):=by
 refine uX 22 Tryz.func72 fun w=>?_;refine A2 ?_;refine Bp 12 (fun g0=>?_);refine A6 ?_;refine L4 0 0 ?_;refine A1 ?_;refine L4 0 4 ?_;refine A1 ?_;refine L4 0 8 ?_;refine(Bu [(0,_),(1,_),(2,_)]) (qdL) ?_;refine Al 12 qlq (fun g1=>?_);refine Ss 1 ?_;refine A9 ?_;refine El (ι:={n:Nat // qlY f n}) (fun⟨n,hc⟩=>([(3,dD g1),(4,.int .i64 ((n:Int)-1))],[⟨some g0,91,qeE f,12,true⟩,⟨some g1,174,qeE f,12,true⟩],n)) ⟨3,by omega,fun h=>absurd h (by omega),fun h=>absurd h (by omega),fun h=>absurd h (by omega)⟩ ?_;rintro⟨n,hc⟩;(try dsimp only)
 have hn3:=hc.1;rcases(show n=3∨n=2∨n=1∨n=0 by omega) with rfl|rfl|rfl|rfl
 ·refine A5 ?_;refine Kr 13 (.bool true) ?_;refine kN ?_;refine sH 8 qhn BG rfl rfl rfl rfl (by omega) (by omega) (by show 0+Int.toNat _*4=_;rfl) ?_;refine L4 1 8 ?_;refine Pc (dV f.c2) ?_;refine A3 ?_;refine Cd ?_ ?_<;>intro haQ
  ·have hs20:dE f.c2≠0:=by have e:=haQ;revert e;unfold dE;simp
   refine lw ?_;refine E0 ?_;rw[qh7 hs20];rfl
  ·have hs20:dE f.c2=0:=by have e:=haQ;revert e;unfold dE;simp
   refine A5 ?_;refine(Aq (((2:Nat):Int)-1)) (by exact(congrArg some (by rfl))) ?_;refine A3 ?_;exact Nl ⟨2,⟨by omega,fun _=>qbz hs20,fun h=>absurd h (by omega),fun h=>absurd h (by omega)⟩⟩ (hμ:=(by show 2<3;omega)) (hL:=eH.auto)
 ·refine A5 ?_;refine Kr 13 (.bool true) ?_;refine kN ?_;refine sH 4 qhn BG rfl rfl rfl rfl (by omega) (by omega) (by show 0+Int.toNat _*4=_;rfl) ?_;refine L4 1 4 ?_;refine Pc (dV f.c1) ?_;refine A3 ?_;refine Cd ?_ ?_<;>intro haQ
  ·have hs20:dE f.c1≠0:=by have e:=haQ;revert e;unfold dE;simp
   refine lw ?_;refine E0 ?_;rw[qh8 (hc.2.1 (by omega)) hs20];rfl
  ·have hs20:dE f.c1=0:=by have e:=haQ;revert e;unfold dE;simp
   refine A5 ?_;refine(Aq (((1:Nat):Int)-1)) (by exact(congrArg some (by rfl))) ?_;refine A3 ?_;exact Nl ⟨1,⟨by omega,fun _=>hc.2.1 (by omega),fun _=>qbz hs20,fun h=>absurd h (by omega)⟩⟩ (hμ:=(by show 1<2;omega)) (hL:=eH.auto)
 ·refine A5 ?_;refine Kr 13 (.bool true) ?_;refine kN ?_;refine sH 0 qhn BG rfl rfl rfl rfl (by omega) (by omega) (by show 0+Int.toNat _*4=_;rfl) ?_;refine L4 1 0 ?_;refine Pc (dV f.c0) ?_;refine A3 ?_;refine Cd ?_ ?_<;>intro haQ
  ·have hs20:dE f.c0≠0:=by have e:=haQ;revert e;unfold dE;simp
   refine lw ?_;refine E0 ?_;rw[qh9 (hc.2.1 (by omega)) (hc.2.2.1 (by omega)) hs20];rfl
  ·have hs20:dE f.c0=0:=by have e:=haQ;revert e;unfold dE;simp
   refine A5 ?_;refine(Aq (((0:Nat):Int)-1)) (by exact(congrArg some (by rfl))) ?_;refine A3 ?_;exact Nl ⟨0,⟨by omega,fun _=>hc.2.1 (by omega),fun _=>hc.2.2.1 (by omega),fun _=>qbz hs20⟩⟩ (hμ:=(by show 0<1;omega)) (hL:=eH.auto)
 ·refine A5 ?_;refine Kr 13 (.bool false) ?_;refine D6 ?_;refine E0 ?_;rw[qia (hc.2.1 (by omega)) (hc.2.2.1 (by omega)) (hc.2.2.2 (by omega))]
def Hg(f g:Qd)(z1:f.c2=0)(z2:g.c2=0)(hf:tJ f<=100000:=by omega)(hg:tJ g<=100000:=by omega):aH Tryz.prog 142 #[qH f,qH g] (.tuple #[qH ⟨f.c0*g.c0,f.c0*g.c1+f.c1*g.c0,f.c0*g.c2+f.c2*g.c0+f.c1*g.c1⟩,.int .i64 0]):=by
 have f0:=Nat.le_trans (o7 f) hf;have f1:=Nat.le_trans (o8 f) hf;have f2:=Nat.le_trans (pV f) hf;have g0:=Nat.le_trans (o7 g) hg;have g1:=Nat.le_trans (o8 g) hg;have g2:=Nat.le_trans (pV g) hg;have m0:=aS f.c0 g.c0;have m1:=aS f.c0 g.c1;have m2:=aS f.c1 g.c0;have m3:=aS f.c0 g.c2;have m4:=aS f.c2 g.c0;have m5:=aS f.c1 g.c1;have m6:=cO (f.c0*g.c2) (f.c2*g.c0);have d1:=RZ z1;have d2:=RZ z2;have d3:=WE f;have d4:=WE g;refine nG 66 Tryz.func142 fun w=>?_;refine A2 ?_;refine Bp 12 (fun g0=>?_);refine Bp 12 (fun g1=>?_);refine Al 12 Gv (fun g2=>?_);refine A4 ?_;refine Dp [] [0,2,1,3,4,5] ?_;refine uV 0 0 ?_;refine uV 1 0 ?_;refine Pc (uC f) ?_;refine Pc (uC g) ?_;refine kN ?_;refine Rs 15 ?_ ?_<;>intro haQ
 ·refine A4 ?_;refine Rs 19 ?_ ?_<;>intro hbQ
  ·refine A2 ?_;refine(Aq (BH f+BH g)) (by exact(congrArg some (wi (by omega) (by omega) rfl))) ?_;refine A1 ?_;refine aQ 23 (.bool false) rfl (congrArg Value.bool (decide_eq_false (by omega))) ?_;refine lw ?_;exact qbA
  ·refine KT ?_;exact qbA
 ·refine A20 ?_;exact qbA
def xQ(f g:Qd)(t:Rl)(hf:tJ f<=10000:=by omega)(hg:tJ g<=10000:=by omega)(ht:gz t<=10000:=by omega):aH Tryz.prog 317 #[qH f,qH g,RV t] (.bool (decide (uz (o9 f g) t=⟨0,0,0⟩))):=by
 have hs:=qe1 hf hg;refine pB3 14 Tryz.func317 fun w=>?_;refine A2 ?_;refine Bp 12 (fun g0=>?_);refine Bp 12 (fun g1=>?_);refine Bp 9 (fun g2=>?_);refine A4 ?_;refine Dp [] [0,1,3,5,2,4,6,7] ?_;refine uV 0 0 ?_;refine uV 1 0 ?_;refine L9 2 0 ?_;refine(Bu []) (qhf) ?_;refine aQ 12 (qH ⟨0,0,0⟩) rfl qby.symm ?_;refine Pc (yO f g) ?_;refine Pc (oq (o9 f g) t) ?_;refine fH rfl rfl rfl rfl qlv (qlS _ _) ?_;refine A4 ?_;refine E0 ?_;exact rfl
def Dn(f:Qd)(t:Rl)(h0:0<=t.r:=by omega)(hf:tJ f<=10000:=by omega)(ht:gz t<=10000:=by omega):aH Tryz.prog 207 #[qH f,RV t] (.int .i64 (tu (Nq f t).p (nZ (Nq f t)) (Nq f t).r)):=by
 have l1:=UQ hf ht;refine nG 9 Tryz.func207 fun w=>?_;refine A2 ?_;refine Bp 12 (fun g0=>?_);refine Bp 9 (fun g1=>?_);refine A5 ?_;refine uV 0 0 ?_;refine L9 1 0 ?_;refine Pc (uB f t h0 hf ht) ?_;refine Pc (Ad (Nq f t)) ?_;refine A4 ?_;refine E0 ?_;exact rfl
end Go.Proofs.YtaffcpfhedadhaaGreatDoor
namespace Go.Via
open Go
def jB(i:Iv):Nat:=max (gz i.f) (gz i.t)
def jI(i:Iv):gz i.f<=jB i:=Nat.le_max_left ..
def jJ(i:Iv):gz i.t<=jB i:=Nat.le_max_right ..
def wW{i:Iv}{n:Nat}(h1:gz i.f<=n)(h2:gz i.t<=n):jB i<=n:=Nat.max_le.2 ⟨h1,h2⟩
theorem qbB{x:Rl}(h:x.r.num.sign= -1):dN x=false:=by
 unfold dN;rw[if_pos];show x.r.num.sign<0;omega
theorem NF{x:Rl}(h:x.r.num.sign=0):dN x= !x.n:=by
 unfold dN;have h:dE x.r=0:=h;rw[if_neg (by omega),if_pos h]
theorem Si{x:Rl}(h1:x.r.num.sign≠ -1)(h0:x.r.num.sign≠0):dN x= !Bj x.r:=by
 unfold dN;have h1:dE x.r≠ -1:=h1;have h0:dE x.r≠0:=h0;rw[if_neg (by rcases Dl x.r with e|e|e<;>omega),if_neg h0]
theorem NG(i:Iv):jP i=decide (wK i.b i.e<0):=by
 unfold jP wK Iv.b Iv.e;dsimp only;have h:=ui i.f i.t
 by_cases h0:bK i.f i.t=0
 ·clear h;rw[h0];cases i.fo<;>cases i.tp<;>rfl
 ·rw[if_pos h0,decide_eq_false h0];simp
def NH{a b:Iv}{n:Nat}(ha:jB a<=n)(hb:jB b<=n):gz (ru a b).1<=n:=by
 have:=jI a;have:=jI b;unfold ru;split<;>(try split)<;>dsimp only<;>omega
def NI{a b:Iv}{n:Nat}(ha:jB a<=n)(hb:jB b<=n):gz (uk a b).1<=n:=by
 have:=jJ a;have:=jJ b;unfold uk;split<;>(try split)<;>dsimp only<;>omega
def Sj{a b:Iv}{n:Nat}(ha:jB a<=n)(hb:jB b<=n):jB (fE a b)<=n:=wW (NH ha hb) (NI ha hb)
theorem qe2{a b:Iv}(h:bK a.f b.f<0):ru a b=(b.f,b.fo):=by unfold ru;rw[if_pos h]
theorem WF{a b:Iv}(h:¬bK a.f b.f<0)(h0:bK a.f b.f=0):ru a b=(a.f,a.fo||b.fo):=by unfold ru;rw[if_neg h,if_pos h0]
theorem qe3{a b:Iv}(h:¬bK a.f b.f<0)(h0:bK a.f b.f≠0):ru a b=(a.f,a.fo):=by unfold ru;rw[if_neg h,if_neg h0]
theorem qe4{a b:Iv}(h:0<bK a.t b.t):uk a b=(b.t,b.tp):=by unfold uk;rw[if_pos h]
theorem WG{a b:Iv}(h:¬0<bK a.t b.t)(h0:bK a.t b.t=0):uk a b=(a.t,a.tp||b.tp):=by unfold uk;rw[if_neg h,if_pos h0]
theorem qe5{a b:Iv}(h:¬0<bK a.t b.t)(h0:bK a.t b.t≠0):uk a b=(a.t,a.tp):=by unfold uk;rw[if_neg h,if_neg h0]
def qj1:List Value:=[aO,aP,aO,aP,aO,aP,aO,aP,.bool false,aO,aP,aO,aP,aO,aP,aO,aP,.bool false,.bool false,.bool false]
end Go.Via
namespace Go.Via
open Go
structure iV(α:Type)(c:α->List Value)(k:Nat):Prop where
 len:∀x,(c x).length=k
 one:∀x,∀v∈c x,v.oneCell'=true
section
variable{α:Type}{c:α->List Value}{k:Nat}
def ah(c:α->List Value)(l:List α):List Value:=l.flatMap c
theorem qbC:ah c []=[]:=rfl
theorem gX(x:α)(l:List α):ah c (x::l)=c x++ah c l:=List.flatMap_cons
theorem kM(l m:List α):ah c (l++m)=ah c l++ah c m:=List.flatMap_append
theorem dK(l:List α)(x:α):ah c l++c x=ah c (l++[x]):=by rw[kM,gX,qbC,List.append_nil]
theorem iV.length(h:iV α c k):∀(l:List α),(ah c l).length=l.length*k
 |[]=>by simp[ah]
 |x::l=>by rw[gX,List.length_append,h.len,iV.length h l,List.length_cons,Nat.succ_mul,Nat.add_comm]
theorem iV.get(h:iV α c k):∀{l:List α} {i:Nat} {x:α},l[i]? =some x->((ah c l).drop (i*k)).take k=c x
 |[],i,x,hx=>by simp at hx
 |y::l,0,x,hx=>by
  simp at hx;subst hx;rw[gX,Nat.zero_mul,List.drop_zero,List.take_append_of_le_length (by rw[h.len];exact Nat.le_refl _),List.take_of_length_le (by rw[h.len];exact Nat.le_refl _)]
 |y::l,i+1,x,hx=>by
  have e1:(i+1)*k=(c y).length+i*k:=(by rw[h.len,Nat.succ_mul,Nat.add_comm]);rw[gX,e1,List.drop_length_add_append];exact iV.get h (by simpa using hx)
def iV.sub(h:iV α c k){l:List α}{i:Nat}{x:α}(hx:l[i]? =some x)(o n:Nat)(hn:o+n<=k):((ah c l).drop (i*k+o)).take n=((c x).drop o).take n:=by
 rw[<-h.get hx,<-List.drop_drop,List.drop_take,List.take_take]
 congr 1
 omega
def iV.ones(h:iV α c k)(l:List α):∀v∈ah c l,v.oneCell'=true:=fun v hv=>by
 obtain⟨x,_,hv⟩:=List.mem_flatMap.1 hv;exact h.one x v hv
def iV.ne(h:iV α c k)(hk:0<k){l:List α}(hl:0<l.length):ah c l≠[]:=fun e=>by
 have:=h.length l;rw[e,List.length_nil] at this;have:=Nat.mul_pos hl hk;omega
theorem iV.set(h:iV α c k):∀{l:List α} {i:Nat} (x:α),i<l.length->(ah c l).take (i*k)++c x++(ah c l).drop (i*k+k)=ah c (l.set i x)
 |[],i,x,hi=>by simp at hi
 |y::l,0,x,_=>by
  rw[Nat.zero_mul,List.take_zero,List.nil_append,Nat.zero_add,gX,List.drop_append_of_le_length (by rw[h.len];exact Nat.le_refl _),List.drop_of_length_le (by rw[h.len];exact Nat.le_refl _),List.nil_append,List.set_cons_zero,gX]
 |y::l,i+1,x,hi=>by
  have ih:=iV.set h (l:=l) (i:=i) x (by simpa using hi);have e1:(i+1)*k=(c y).length+i*k:=(by rw[h.len,Nat.succ_mul,Nat.add_comm]);rw[gX,e1,Nat.add_assoc,List.take_length_add_append,List.drop_length_add_append,List.set_cons_succ,gX,<-ih];simp
end
theorem dZ{α:Type}{l:List α}{i:Nat}{x:α}(hx:l[i]? =some x):l.take i++[x]=l.take (i+1):=by
 rw[List.take_add_one,hx];rfl
end Go.Via
namespace Go.Via
variable[Mo]
open Go Go.RowKit Go.Sort Go.Proofs
def aV.rowMod{B:Bs}{w w':World}{L:List aC}(h:aV B L w){k:Nat}{b:aC}(hk:L[k]? =some b)(ho:b.own=true){g:Nat}(hg:b.base=some g)(hn0:b.n≠0)(f:Array Value->Array Value)(cs':List Value)
 (hf:∀cur:Array Value,cur.size=b.n->cur.toList.take b.cs.length=b.cs->(f cur).size=b.n∧(f cur).toList.take cs'.length=cs')
 (h1:w'.os=w.os)(h2:w'.tape=w.tape)(h3:w'.output=w.output)(h4:w.heap.size<=w'.heap.size)(h5:∀i,i<w.heap.size->i≠g->w'.heap[i]? =w.heap[i]?)
 (h6:∀cur:Array Value,w.heap[g]? =some (.cells cur b.e (0,0))->w'.heap[g]? =some (.cells (f cur) b.e (0,0)))(h7:w.drawn<=w'.drawn:=by first|exact Nat.le_refl _|exact Nat.le_add_right _ _):aV B (L.set k {b with cs:=cs'}) w':=by
 obtain⟨cur,⟨e',fr,a1,a2,_⟩,a3,a4⟩:=((h.blk k b hk).1 g hg).cells (.inl hn0);obtain⟨rfl,rfl⟩:=a2 ho;obtain⟨b1,b2⟩:=hf cur a3 a4;have hs:=h.set hk ho hg (f cur) cs' b1 b2;have hh:=setRow_heap w g cur (f cur) b.e (0,0) a1;have hsz:(w.setRow g (f cur)).heap.size=w.heap.size:=by simp
 refine hs.same ⟨h1,h2,h3,by rw[hsz];exact h4,fun i hi=>?_,fun _=>h7⟩
 rw[hsz] at hi
 by_cases e:i=g
 ·subst e;rw[h6 cur a1,hh]
 ·rw[h5 i hi e,setRow_other w g i _ e]
def SB(l:List Dy):List Value:=l.map fun s=> .string (lm s)
theorem YJ(l:List Dy):(SB l).length=l.length:=by simp[SB]
abbrev SBk(b:Option Nat)(l:List Dy)(n:Nat):aC:=⟨b,9,SB l,n,true⟩
def aV.loose{B:Bs}{w:World}{L:List aC}(h:aV B L w){k:Nat}{b:aC}(hk:L[k]? =some b)(ho:b.own=true){g:Nat}(hg:b.base=some g)(hn0:b.n≠0)(j:Nat):w.frozen? ⟨g,j,none⟩=false:=by
 obtain⟨cur,⟨e',fr,a1,a2,_⟩,a3,a4⟩:=((h.blk k b hk).1 g hg).cells (.inl hn0);obtain⟨rfl,rfl⟩:=a2 ho;simp[World.frozen?,a1]
def Sl{d:List Dy}{cur:Array Value}(h:d.length<=cur.size):(putCells encStr 0 d.toArray cur).size=cur.size∧(putCells encStr 0 d.toArray cur).toList.take (SB d).length=SB d:=by
 refine⟨by simp[putCells],?_⟩
 apply List.ext_getElem?
 intro i;rw[YJ,List.getElem?_take]
 split
 ·rename_i hi
  unfold SB;rw[List.getElem?_map,List.getElem?_eq_getElem hi,Array.getElem?_toList];unfold putCells;rw[Array.getElem?_mapIdx,Array.getElem?_eq_getElem (by omega)];simp only[Option.map_some,Nat.zero_le,true_and,List.size_toArray,Nat.zero_add,hi,if_true,Nat.sub_zero];rw[getElem!_pos d.toArray i (by simpa using hi)]
  rfl
 ·rename_i hi
  unfold SB;rw[List.getElem?_map,List.getElem?_eq_none (by omega)]
  rfl
def aV.putRow{B:Bs}{w:World}{L:List aC}(h:aV B L w){k g n m:Nat}{l l':List Dy}{os:Array Obj}(hk:L[k]? =some (SBk (some g) l n))(hl:l'.length<=n)(hn0:n≠0):
 aV B (L.set k (SBk (some g) l' n)) (grow (putRow encStr (Sort.ahead w m) g 0 l'.toArray) os):=by
 have hlt:=h.lt hk rfl;have e1:(grow (Go.Sort.putRow encStr (Sort.ahead w m) g 0 l'.toArray) os).heap=(w.heap.modify g (onCells (putCells encStr 0 l'.toArray)))++os:=rfl;refine h.rowMod hk rfl rfl hn0 (putCells encStr 0 l'.toArray) (SB l') (fun cur hc _=>by
 have hc':cur.size=n:=hc;obtain⟨p1,p2⟩:=Sl (d:=l') (cur:=cur) (by omega);exact⟨p1.trans hc,p2⟩) rfl rfl rfl (by rw[e1];simp) (fun i hi hne=>?_) (fun cur hcur=>?_)
 ·rw[e1,Array.getElem?_append_left (by simpa using hi),Array.getElem?_modify,if_neg (fun e=>hne e.symm)]
 ·rw[e1,Array.getElem?_append_left (by simpa using hlt),Array.getElem?_modify,if_pos rfl,hcur]
  rfl
end Go.Via
namespace Go.Via
open Go Go.RowKit Go.Sort Go.Shelf Go.Proofs
section
variable{α:Type}[Inhabited α]{c:α->List Value}{k:Nat}
theorem BC{α:Type}[Inhabited α]{l:List α}{i:Nat}(h:i<l.length):l.toArray[i]! =l[i]:=by
 rw[getElem!_pos l.toArray i (by simpa using h)];rfl
theorem YK{α:Type}[Inhabited α]{l:List α}{i:Nat}{x:α}(h:l[i]? =some x):l[i]! =x:=by
 rw[List.getElem!_eq_getElem?_getD,h];rfl
def qbD(h:iV α c k){l:List α}{t:Nat}(ht:t<l.length*k):∃x,l[t/k]? =some x∧(ah c l)[t]? =(c x)[t%k]? :=by
 have k0:0<k:=Nat.pos_of_ne_zero (by rintro rfl;simp at ht);have hi:t/k<l.length:=Nat.div_lt_of_lt_mul (by rw[Nat.mul_comm];exact ht);have hx:l[t/k]? =some l[t/k]:=List.getElem?_eq_getElem hi;refine⟨_,hx,?_⟩;have hm:t%k<k:=Nat.mod_lt _ k0;rw[<-h.get hx,List.getElem?_take,if_pos hm,List.getElem?_drop]
 congr 1
 rw[Nat.mul_comm];exact(Nat.div_add_mod t k).symm
theorem Sm(h:iV α c k)(l:List α):Go.Sort.flatK c k l.toArray=(ah c l).toArray:=by
 refine Go.Sort.ext_get! (by simp[h.length]) fun t ht=>?_
 have ht':t<l.length*k:=(by simpa using ht);obtain⟨x,hx,hc⟩:=qbD h ht';rw[get_flatK _ _ _ _ (by simpa using ht')];have k0:0<k:=Nat.pos_of_ne_zero (by rintro rfl;simp at ht');have hm:t%k<(c x).length:=(by rw[h.len];exact Nat.mod_lt _ k0);have hi:t/k<l.length:=(List.getElem?_eq_some_iff.1 hx).1;rw[BC hi,(List.getElem?_eq_some_iff.1 hx).2,YK (List.getElem?_eq_getElem hm)];have hr:t<(ah c l).length:=(by rw[h.length];exact ht');rw[BC hr];rw[List.getElem?_eq_getElem hr,List.getElem?_eq_getElem hm] at hc;exact(Option.some.inj hc).symm
def NJ(h:iV α c k){B:Bs}{w:World}{L:List aC}(hL:aV B L w){j g e n:Nat}{l:List α}(hk:L[j]? =some ⟨some g,e,ah c l,n,true⟩)(hn0:n≠0):HoldsK c k w g 0 l.toArray:=by
 unfold HoldsK;rw[Sm h];intro t ht;have ht':t<(ah c l).length:=by simpa using ht
 obtain⟨g',hg',h2⟩:=hL.cell (k:=j) hk (List.getElem?_eq_getElem ht');cases hg';rw[Nat.zero_add];exact⟨by rw[h2,BC ht'];rfl,hL.loose hk rfl rfl hn0 t⟩
def qe6{vs:List Value}{cur:Array Value}(h:vs.length<=cur.size):(putCells id 0 vs.toArray cur).size=cur.size∧(putCells id 0 vs.toArray cur).toList.take vs.length=vs:=by
 refine⟨by simp[putCells],?_⟩
 apply List.ext_getElem?
 intro i;rw[List.getElem?_take]
 split
 ·rename_i hi
  rw[List.getElem?_eq_getElem hi,Array.getElem?_toList];unfold putCells;rw[Array.getElem?_mapIdx,Array.getElem?_eq_getElem (by omega)];simp only[Option.map_some,Nat.zero_le,true_and,List.size_toArray,Nat.zero_add,hi,if_true,Nat.sub_zero];rw[BC hi]
  rfl
 ·rename_i hi
  rw[List.getElem?_eq_none (by omega)]
def EN(h:iV α c k){B:Bs}{w:World}{L:List aC}(hL:aV B L w){j g e n m:Nat}{l l':List α}{os:Array Obj}(hk:L[j]? =some ⟨some g,e,ah c l,n,true⟩)(hl:(ah c l').length<=n)(hn0:n≠0):
 aV B (L.set j ⟨some g,e,ah c l',n,true⟩) (sortWorldK c k w g 0 m l'.toArray os):=by
 have hlt:=hL.lt hk rfl;have e0:sortWorldK c k w g 0 m l'.toArray os=grow (Go.Sort.putRow id (Sort.ahead w m) g 0 (ah c l').toArray) os:=by
  unfold sortWorldK Go.Sort.putRowK;rw[Sm h]
 rw[e0];have e1:(grow (Go.Sort.putRow id (Sort.ahead w m) g 0 (ah c l').toArray) os).heap=(w.heap.modify g (onCells (putCells id 0 (ah c l').toArray)))++os:=rfl;refine hL.rowMod hk rfl rfl hn0 (putCells id 0 (ah c l').toArray) (ah c l') (fun cur hc _=>by
 have hc':cur.size=n:=hc;obtain⟨p1,p2⟩:=qe6 (vs:=ah c l') (cur:=cur) (by omega);exact⟨p1.trans hc,p2⟩) rfl rfl rfl (by rw[e1];simp) (fun i hi hne=>?_) (fun cur hcur=>?_) (Nat.le_add_right _ _)
 ·rw[e1,Array.getElem?_append_left (by simpa using hi),Array.getElem?_modify,if_neg (fun e=>hne e.symm)]
 ·rw[e1,Array.getElem?_append_left (by simpa using hlt),Array.getElem?_modify,if_pos rfl,hcur]
  rfl
abbrev mo1:Mo:=⟨True⟩
def qbE[Mo](hm:Mo.p){w w':World}(h:eG w.heap.size w w'):∃q os',w'=grow (w.drewN q) os':=by
 refine⟨w'.drawn-w.drawn,w'.heap.extract w.heap.size w'.heap.size,?_⟩;have hh:w'.heap=w.heap++w'.heap.extract w.heap.size w'.heap.size:=by
  apply Array.ext_getElem?
  intro i
  by_cases hi:i<w.heap.size
  ·rw[Array.getElem?_append_left hi,h.block i hi]
  ·rw[Array.getElem?_append_right (by omega),Array.getElem?_extract];have hs:=h.size
   split
   ·congr 1;omega
   ·rename_i h2
    have:w'.heap.size<=i:=(by omega);rw[Array.getElem?_eq_none this]
 cases w';have a1:=h.os;have a2:=h.tape;have a3:=h.output;have a4:=h.drawn hm;dsimp only at a1 a2 a3 a4 hh;unfold grow World.drewN;dsimp only;rw[<-hh,a1,a2,a3]
 congr 1
 omega
def WH[Mo](hm:Mo.p){P:Program}{g:Nat}{cf:α->α->Int}(H:∀x y,aH P g #[.agg (c x).toArray,.agg (c y).toArray] (.int .i64 (cf x y)))(blk off size:Nat)(w:World):CmpLays P g #[] c k cf blk off size w:=fun m os dk hs x y=>by
 refine((H x y).2 _).mono ?_;rintro e w' ⟨he,hb⟩;exact⟨he,qbE hm hb⟩
def qe7{l:List α}{d:Array α}(h:PermIn 0 l.toArray.size l.toArray d):d.toList.Perm l:=by
 obtain⟨h1,_,h3⟩:=h;have e1:d.extract 0 l.toArray.size=d:=by rw[<-h1];simp
 have e2:l.toArray.extract 0 l.toArray.size=l.toArray:=(by simp);rw[e1,e2] at h3;exact h3
def YL{lt:α->α->Bool}{n:Nat}{d:Array α}(h:SortedIn lt 0 n d)(hn:d.size=n):d.toList.Pairwise fun x y=>lt y x=false:=by
 rw[List.pairwise_iff_getElem];intro i j hi hj hij;have:=h i j (Nat.zero_le _) hij (by simp at hj;omega);rw[getElem!_pos d j (by simpa using hj),getElem!_pos d i (by simpa using hi)] at this
 simpa using this
theorem Sr{lt:α->α->Bool}{a:Nat}{d:Array α}:∀{i:Nat},(∀j,a<j->j<=i->lt d[j]! d[j-1]! =false)->insInner lt a i d=d
 |0,_=>rfl
 |i+1,h=>by
  unfold insInner
  by_cases hc:i+1>a
  ·have:=h (i+1) hc (Nat.le_refl _);rw[Nat.add_sub_cancel] at this;rw[this,Bool.and_false,if_neg (by decide)]
  ·rw[decide_eq_false hc,Bool.false_and,if_neg (by decide)]
def GK{lt:α->α->Bool}{a b:Nat}{d:Array α}(h:∀j,a<j->j<b->lt d[j]! d[j-1]! =false):∀(n i:Nat),b-i=n->insOuter lt a b i d=d
 |0,i,hn=>by unfold insOuter;rw[if_neg (by omega)]
 |n+1,i,hn=>by
  unfold insOuter;rw[if_pos (by omega),Sr fun j h1 h2=>h j h1 (by omega)]
  exact GK h n (i+1) (by omega)
def Pn{lt:α->α->Bool}{l:List α}(h:l.Pairwise fun x y=>lt y x=false):Sort.insertionSort lt l.toArray 0 l.length=l.toArray:=by
 refine GK (fun j h1 h2=>?_) _ _ rfl;rw[BC h2,BC (show j-1<l.length by omega)];exact List.pairwise_iff_getElem.1 h (j-1) j (by omega) h2 (by omega)
end
end Go.Via
namespace Go.Via
open Go
def qic(a b:Bool):Int:=if a=b then 0 else if b=true then-1 else 1
def Lp(a b:PU):Int:=if bK a.i.f b.i.f≠0 then bK a.i.f b.i.f else if qic a.i.fo b.i.fo≠0 then qic a.i.fo b.i.fo else bK a.i.t b.i.t
def qe8{S:Rl->Prop}{ρ:Rl->Int}(T:fZ S ρ){x y:PU}(hx:S x.i.f)(hy:S y.i.f)(h:aT ρ x.i.b<aT ρ y.i.b):¬Lp y x<0:=by
 have h1:=T.lt hy hx;have h2:=T.gt hy hx;unfold aT Iv.b at h;dsimp only at h;unfold Lp
 by_cases e:bK y.i.f x.i.f≠0
 ·rw[if_pos e];intro h3;have:=h1.1 h3
  revert h;split<;>split<;>omega
 ·rw[if_neg e];have e':ρ y.i.f=ρ x.i.f:=by
   have:¬ρ y.i.f<ρ x.i.f:=fun k=>e (by have:=h1.2 k;omega)
   have:¬ρ x.i.f<ρ y.i.f:=fun k=>e (by have:=h2.2 k;omega)
   omega
  rw[e'] at h;have hf:x.i.fo=false∧y.i.fo=true:=by
   cases hx':x.i.fo<;>cases hy':y.i.fo<;>rw[hx',hy'] at h<;>first|exact⟨rfl,rfl⟩|(exfalso;simp at h;done)|(exfalso;simp at h;omega)
  rw[hf.1,hf.2,if_pos (by decide)]
  decide
def UR{S:Rl->Prop}{ρ:Rl->Int}(T:fZ S ρ){l:List PU}(hs:pJ ρ l)(he:Ends S l):l.Pairwise fun x y=>decide (Lp y x<0)=false:=by
 refine hs.1.imp_of_mem fun {x y} hx hy h=>?_
 have:=hs.2 x hx;exact decide_eq_false (qe8 T (he x hx).1 (he y hy).1 (by omega))
end Go.Via
namespace Go.Via
open Go
theorem aB:iV PU aJ 36:=⟨fun _=>rfl,fun x v hv=>List.all_eq_true.1 (show(aJ x).all (·.oneCell')=true from rfl) v hv⟩
theorem bu:iV Iv bG 20:=⟨fun _=>rfl,fun x v hv=>List.all_eq_true.1 (show(bG x).all (·.oneCell')=true from rfl) v hv⟩
theorem gq:iV Rl jX 9:=⟨fun _=>rfl,fun x v hv=>List.all_eq_true.1 (show(jX x).all (·.oneCell')=true from rfl) v hv⟩
def nH:iV (Iv×Qd) Df 32:=⟨fun _=>rfl,fun x v hv=>List.all_eq_true.1 (show(Df x).all (·.oneCell')=true from rfl) v hv⟩
def Po:iV B3 UH 52:=⟨fun _=>rfl,fun x v hv=>List.all_eq_true.1 (show(UH x).all (·.oneCell')=true from rfl) v hv⟩
theorem dA:iV oL aY 38:=⟨fun _=>rfl,fun x v hv=>List.all_eq_true.1 (show(aY x).all (·.oneCell')=true from rfl) v hv⟩
def uD:iV (Iv×Int) EE 21:=⟨fun _=>rfl,fun x v hv=>List.all_eq_true.1 (show(EE x).all (·.oneCell')=true from rfl) v hv⟩
theorem wX:iV ((Rl×Bool)×Int×Int) jQ 12:=⟨fun _=>rfl,fun x v hv=>List.all_eq_true.1 (show(jQ x).all (·.oneCell')=true from rfl) v hv⟩
end Go.Via
