/-
  Part 12 (chapter 32): lemmas, walks. Each theorem states its own conditions.
-/
import Derived.Sort.Grow
import Derived.Sort.EncStr
import Derived.Shelf.SlSortCmp.WholeK
import Derived.Shelf.SlSortCmp.NoneTotal
import Derived.Test.YtaffcpfhedadhaaGreatDoorA05
import Derived.Test.YtaffcpfhedadhaaGreatDoorA06
import Derived.Test.YtaffcpfhedadhaaGreatDoorA08
import Derived.Test.YtaffcpfhedadhaaGreatDoorA11
set_option linter.all false
set_option maxRecDepth 20000
set_option maxHeartbeats 20000000
namespace Go.Proofs.YtaffcpfhedadhaaGreatDoor
open Go Go.RowKit Go.Via
def H5(x:Rl):aH Tryz.prog 318 #[RV x] (.tuple #[Q (if x.r=0 then x.p else 0),.bool (decide (x.r=0))]):=by
 refine uU 11 Tryz.func318 fun w=>?_;refine A2 ?_;refine Bp 9 (fun g0=>?_);refine Al 4 pM (fun g1=>?_);refine A7 ?_;refine L4 0 4 ?_;refine(Bu []) (xR) ?_;refine aW 6 (Q 0) rfl xO.symm ?_;refine DL rfl rfl rfl rfl Z5 (Z9 _ _) ?_;refine A2 ?_;refine Cd ?_ ?_<;>intro hb0
 ·have hs7:x.r≠0:=by have e:=hb0;simpa using e
  refine A2 ?_;refine(Bu []) (xR) ?_;refine aW 8 (Q 0) rfl xO.symm ?_;refine Ss 1 ?_;refine A5 ?_;refine bg rfl (bf 1 rfl rfl BD (vs:=[_,_,_,_]) rfl rfl (Nat.le_of_ble_eq_true rfl) rfl) (ai rfl) (fun w hL=>⟨?_,hL.below⟩);rw[if_neg hs7,decide_eq_false hs7];rfl
 ·have hs7:x.r=0:=by have e:=hb0;simpa using e
  refine A5 ?_;refine L4 0 0 ?_;refine Ss 1 ?_;refine A4 ?_;refine bg rfl (bf 1 rfl rfl BD (vs:=[_,_,_,_]) rfl rfl (Nat.le_of_ble_eq_true rfl) rfl) (ai rfl) (fun w hL=>⟨?_,hL.below⟩);rw[if_pos hs7,decide_eq_true hs7];rfl
def rE(c:Rat):aH Tryz.prog 74 #[Q c] (qL ⟨c,0,0⟩):=by
 refine uU 5 Tryz.func74 fun w=>?_;refine A2 ?_;refine Bp 4 (fun g0=>?_);refine Al 12 Hq (fun g1=>?_);refine A4 ?_;refine L4 0 0 ?_;refine(Bu [(0,_)]) (ZY) ?_;refine Ss 1 ?_;refine A3 ?_;refine Jz 1 ?_;rw[NE]
def jm(a b:Rat):aH Tryz.prog 141 #[Q a,Q b] (qL ⟨a,b,0⟩):=by
 refine nG 8 Tryz.func141 fun w=>?_;refine A2 ?_;refine Bp 4 (fun g0=>?_);refine Bp 4 (fun g1=>?_);refine Al 12 Hq (fun g2=>?_);refine A4 ?_;refine L4 0 0 ?_;refine L4 1 0 ?_;refine(Bu [(0,_),(1,_)]) (ZZ) ?_;refine Ss 2 ?_;refine A3 ?_;refine Jz 2 ?_;rw[WH]
def H6(f g:Qd)(hf:uk f<=1000000:=by omega)(hg:uk g<=1000000:=by omega):aH Tryz.prog 92 #[qL f,qL g] (qL ⟨f.c0+g.c0,f.c1+g.c1,f.c2+g.c2⟩):=by
 have f0:=Nat.le_trans (o6 f) hf;have f1:=Nat.le_trans (o7 f) hf;have f2:=Nat.le_trans (pV f) hf;have g0:=Nat.le_trans (o6 g) hg;have g1:=Nat.le_trans (o7 g) hg;have g2:=Nat.le_trans (pV g) hg;refine nG 21 Tryz.func92 fun w=>?_;refine A2 ?_;refine Bp 12 (fun g0=>?_);refine Bp 12 (fun g1=>?_);refine Al 12 Hq (fun g2=>?_);refine A3 ?_;refine Dp [] [0,1,2,3,5,6,7,8,10,11,12,13,4,9,14,15,16] ?_;refine A1 ?_;refine L4 0 0 ?_;refine A1 ?_;refine L4 1 0 ?_;refine A1 ?_;refine L4 0 4 ?_;refine A1 ?_;refine L4 1 4 ?_;refine A1 ?_;refine L4 0 8 ?_;refine A1 ?_;refine L4 1 8 ?_;refine Pc (bK f.c0 g.c0) ?_;refine Pc (bK f.c1 g.c1) ?_;refine Pc (bK f.c2 g.c2) ?_;refine(Bu [(0,_),(1,_),(2,_)]) (FN) ?_;refine Ss 2 ?_;refine A3 ?_;refine Jz 2 ?_;exact rfl
def yG(f g:Qd)(hf:uk f<=1000000:=by omega)(hg:uk g<=1000000:=by omega):aH Tryz.prog 77 #[qL f,qL g] (qL (o8 f g)):=by
 have f0:=Nat.le_trans (o6 f) hf;have f1:=Nat.le_trans (o7 f) hf;have f2:=Nat.le_trans (pV f) hf;have g0:=Nat.le_trans (o6 g) hg;have g1:=Nat.le_trans (o7 g) hg;have g2:=Nat.le_trans (pV g) hg;refine nG 21 Tryz.func77 fun w=>?_;refine A2 ?_;refine Bp 12 (fun g0=>?_);refine Bp 12 (fun g1=>?_);refine Al 12 Hq (fun g2=>?_);refine A3 ?_;refine Dp [] [0,1,2,3,5,6,7,8,10,11,12,13,4,9,14,15,16] ?_;refine A1 ?_;refine L4 0 0 ?_;refine A1 ?_;refine L4 1 0 ?_;refine A1 ?_;refine L4 0 4 ?_;refine A1 ?_;refine L4 1 4 ?_;refine A1 ?_;refine L4 0 8 ?_;refine A1 ?_;refine L4 1 8 ?_;refine Pc (eY f.c0 g.c0) ?_;refine Pc (eY f.c1 g.c1) ?_;refine Pc (eY f.c2 g.c2) ?_;refine(Bu [(0,_),(1,_),(2,_)]) (FN) ?_;refine Ss 2 ?_;refine A3 ?_;refine Jz 2 ?_;exact rfl
def xk(f:Qd)(t:Rat)(hf:uk f<=500000:=by omega)(ht:bP t<=500000:=by omega):aH Tryz.prog 143 #[qL f,Q t] (Q (ry f t)):=by
 have f0:=Nat.le_trans (o6 f) hf;have f1:=Nat.le_trans (o7 f) hf;have f2:=Nat.le_trans (pV f) hf;have l1:=aK t f.c2;have l2:=bC f.c1 (t*f.c2);have l3:=aK t (f.c1+t*f.c2);refine nG 17 Tryz.func143 fun w=>?_;refine A2 ?_;refine Bp 12 (fun g0=>?_);refine Bp 4 (fun g1=>?_);refine Al 4 pM (fun g2=>?_);refine A3 ?_;refine Di [] ?_;refine A1 ?_;refine L4 0 0 ?_;refine L4 1 0 ?_;refine A1 ?_;refine L4 0 4 ?_;refine L4 1 0 ?_;refine A1 ?_;refine L4 0 8 ?_;refine Pc (aG t f.c2) ?_;refine Pc (bK f.c1 (t*f.c2)) ?_;refine Pc (aG t (f.c1+t*f.c2)) ?_;refine Pc (bK f.c0 (t*(f.c1+t*f.c2))) ?_;refine Ss 2 ?_;refine A3 ?_;refine GL 2 ?_;exact rfl
def vz(f:Qd)(t:Rat)(hf:uk f<=500000:=by omega)(ht:bP t<=500000:=by omega):aH Tryz.prog 144 #[qL f,Q t] (Q (xE f t)):=by
 have f0:=Nat.le_trans (o6 f) hf;have f1:=Nat.le_trans (o7 f) hf;have f2:=Nat.le_trans (pV f) hf;have l1:=bC f.c2 f.c2;have l2:=aK (f.c2+f.c2) t;refine nG 15 Tryz.func144 fun w=>?_;refine A2 ?_;refine Bp 12 (fun g0=>?_);refine Bp 4 (fun g1=>?_);refine Al 4 pM (fun g2=>?_);refine A3 ?_;refine Dp [] [0,1,2,3,4,5,7,6,8,9,10] ?_;refine A1 ?_;refine L4 0 4 ?_;refine A1 ?_;refine L4 0 8 ?_;refine A1 ?_;refine L4 0 8 ?_;refine L4 1 0 ?_;refine Pc (bK f.c2 f.c2) ?_;refine Pc (aG (f.c2+f.c2) t) ?_;refine Pc (bK f.c1 ((f.c2+f.c2)*t)) ?_;refine Ss 2 ?_;refine A3 ?_;refine GL 2 ?_;exact rfl
def G9(p q r:Rat)(h0:0<=r:=by omega)(hp:bP p<=500000:=by omega)(hq:bP q<=500000:=by omega)(hr:bP r<=500000:=by omega):aH Tryz.prog 146 #[Q p,Q q,Q r] (.tuple #[RV (mkR p q r),.int .i64 0]):=by
 have l1:=aK q q;have l2:=EK r;have l3:=aK q (fP r);refine pB3 36 Tryz.func146 fun w=>?_;refine A2 ?_;refine Bp 4 (fun g0=>?_);refine Bp 4 (fun g1=>?_);refine Bp 4 (fun g2=>?_);refine Al 9 MC (fun g3=>?_);refine A6 ?_;refine L4 2 0 ?_;refine Pc (dZ r) ?_;refine A3 ?_;refine Cd ?_ ?_<;>intro hb0
 ·exact absurd (of_decide_eq_true hb0) (by have:=(qht h0);omega)
 ·refine A5 ?_;refine L4 2 0 ?_;refine Pc (yF r) ?_;refine A3 ?_;refine Al 4 pM (fun g4=>?_);refine Ss 4 ?_;refine A8 ?_;refine Cd ?_ ?_<;>intro hb1
  ·have hs:qw r=true:=hb1;refine A1 ?_;refine Di [] ?_;refine L4 0 0 ?_;refine L4 1 0 ?_;refine L4 4 0 ?_;refine aW 22 (Q (fP r)) rfl (by rw[hs,if_pos rfl];rfl) ?_;refine Pc (aG q (fP r)) ?_;refine Pc (bK p (q*fP r)) ?_;refine(Bu [(0,_)]) (zu) ?_;refine Ss 3 ?_;refine A5 ?_;refine bg rfl (bf 3 rfl rfl wL (vs:=[_,_,_,_,_,_,_,_,_]) rfl rfl (Nat.le_of_ble_eq_true rfl) rfl) (ai rfl) (fun w hL=>⟨?_,hL.below⟩);rw[mkR,hs,if_pos rfl,G8]
  ·have hs:qw r=false:=hb1;refine A3 ?_;refine Dp [] [0,1,2,4,6,3,5,7,8,9,10,11] ?_;refine L4 0 0 ?_;refine L4 1 0 ?_;refine L4 1 0 ?_;refine L4 2 0 ?_;refine L4 1 0 ?_;refine Pc (aG q q) ?_;refine Pc (aG (q*q) r) ?_;refine Pc (dZ q) ?_;refine A1 ?_;refine(Bu [(0,_),(1,_),(2,_)]) (Ov) ?_;refine Ss 3 ?_;refine A4 ?_;refine bg rfl (bf 3 rfl rfl wL (vs:=[_,_,_,_,_,_,_,_,_]) rfl rfl (Nat.le_of_ble_eq_true rfl) rfl) (ai rfl) (fun w hL=>⟨?_,hL.below⟩);rw[mkR,hs,if_neg (by decide)];rfl
def um(f:Qd)(t:Rl)(h0:0<=t.r:=by omega)(hf:uk f<=10000:=by omega)(ht:ik t<=10000:=by omega):aH Tryz.prog 94 #[qL f,RV t] (RV (F8 f t)):=by
 have f0:=Nat.le_trans (o6 f) hf;have f1:=Nat.le_trans (o7 f) hf;have f2:=Nat.le_trans (pV f) hf;have t1:=Nat.le_trans (rD t) ht;have t2:=Nat.le_trans (xg t) ht;have l1:=ww f t.p;have l2:=qbi f t.p;have l3:=aK f.c2 t.r;have l4:=bC (ry f t.p) (f.c2*t.r);have l5:=dn (xE f t.p);refine nG 36 Tryz.func94 fun w=>?_;refine A2 ?_;refine Bp 12 (fun g0=>?_);refine Bp 9 (fun g1=>?_);refine Al 9 MC (fun g2=>?_);refine A3 ?_;refine Dq [3000000] [0,1,2,4,5,6,7,3,8,9,10,11] ?_;refine uD 0 0 ?_;refine A1 ?_;refine L4 1 0 ?_;refine A1 ?_;refine L4 0 8 ?_;refine A1 ?_;refine L4 1 4 ?_;refine Pc (xk f t.p) ?_;refine Pc (aG f.c2 t.r) ?_;refine Pc (bK (ry f t.p) (f.c2*t.r)) ?_;refine Al 4 pM (fun g3=>?_);refine Ss 3 ?_;refine A4 ?_;refine uD 0 0 ?_;refine A1 ?_;refine L4 1 0 ?_;refine Pc (vz f t.p) ?_;refine Al 4 pM (fun g4=>?_);refine Ss 4 ?_;refine A9 ?_;refine Cd ?_ ?_<;>intro hb0
 ·refine A1 ?_;refine L4 4 0 ?_;refine Pc (ui (xE f t.p)) ?_;refine Ss 4 ?_;refine A4 ?_;refine L4 3 0 ?_;refine L4 4 0 ?_;refine A1 ?_;refine L4 1 4 ?_;refine Pc (G9 (ry f t.p+f.c2*t.r) (-xE f t.p) t.r h0) ?_;refine A3 ?_;refine Al 9 MC (fun g5=>?_);refine Ss 5 ?_;refine A5 ?_;refine L9 5 0 ?_;refine Ss 2 ?_;refine A3 ?_;refine QG 2 ?_;rw[F8,if_pos hb0];rfl
 ·refine A4 ?_;refine L4 3 0 ?_;refine L4 4 0 ?_;refine A1 ?_;refine L4 1 4 ?_;refine Pc (G9 (ry f t.p+f.c2*t.r) (xE f t.p) t.r h0) ?_;refine A3 ?_;refine Al 9 MC (fun g5=>?_);refine Ss 5 ?_;refine A5 ?_;refine L9 5 0 ?_;refine Ss 2 ?_;refine A3 ?_;refine QG 2 ?_;rw[F8,if_neg (by rw[hb0];decide)];rfl
def nY(f:Qd)(t:Rl)(hf:uk f<=100000:=by omega)(ht:ik t<=100000:=by omega):aH Tryz.prog 316 #[qL f,RV t] (qL (ul f t)):=by
 have f0:=Nat.le_trans (o6 f) hf;have f1:=Nat.le_trans (o7 f) hf;have f2:=Nat.le_trans (pV f) hf;have t1:=Nat.le_trans (rD t) ht;have t2:=Nat.le_trans (xg t) ht;have l1:=aK t.p t.p;have l2:=bz t.r (t.p*t.p);have l3:=aK f.c2 (t.r-t.p*t.p);refine nG 38 Tryz.func316 fun w=>?_;refine A2 ?_;refine Bp 12 (fun g0=>?_);refine Bp 9 (fun g1=>?_);refine Al 12 Hq (fun g2=>?_);refine A5 ?_;refine L9 1 0 ?_;refine Pc (H5 t) ?_;refine A3 ?_;refine Al 4 pM (fun g3=>?_);refine Ss 3 ?_;refine A8 ?_;refine Cd ?_ ?_<;>intro hb0
 ·have hs13:t.r=0:=of_decide_eq_true hb0;refine A2 ?_;refine uD 0 0 ?_;refine L4 3 0 ?_;refine aW 15 (Q t.p) rfl (by rw[if_pos hs13];rfl) ?_;refine Pc (xk f t.p) ?_;refine Pc (rE (ry f t.p)) ?_;refine Ss 2 ?_;refine A4 ?_;refine Jz 2 ?_;rw[ul,if_pos hs13];rfl
 ·have hs13:¬t.r=0:=of_decide_eq_false hb0;refine A3 ?_;refine Dq [3000000] [0,1,2,3,4,5,6,7,8,9] ?_;refine A1 ?_;refine L4 1 4 ?_;refine A1 ?_;refine L4 1 0 ?_;refine A1 ?_;refine L4 1 0 ?_;refine Pc (aG t.p t.p) ?_;refine Pc (eY t.r (t.p*t.p)) ?_;refine Al 4 pM (fun g4=>?_);refine Ss 4 ?_;refine A3 ?_;refine Dp [] [0,1,2,3,4,7,8,9,5,6,10,11,12] ?_;refine A1 ?_;refine L4 0 0 ?_;refine A1 ?_;refine L4 0 8 ?_;refine L4 4 0 ?_;refine uD 0 0 ?_;refine A1 ?_;refine L4 1 0 ?_;refine Pc (aG f.c2 (t.r-t.p*t.p)) ?_;refine Pc (bK f.c0 (f.c2*(t.r-t.p*t.p))) ?_;refine Pc (vz f t.p) ?_;refine Pc (jm (f.c0+f.c2*(t.r-t.p*t.p)) (xE f t.p)) ?_;refine Ss 2 ?_;refine A3 ?_;refine Jz 2 ?_;rw[ul,if_neg hs13];rfl
def rQ(t v u s:Rat)(h0:u-t≠0:=by omega)(h1:bP t<=100000:=by omega)(h2:bP v<=100000:=by omega)(h3:bP u<=100000:=by omega)(h4:bP s<=100000:=by omega):aH Tryz.prog 134 #[Q t,Q v,Q u,Q s] (.tuple #[qL ⟨v-(s-v)/(u-t)*t,(s-v)/(u-t),0⟩,.int .i64 0]):=by
 have l1:=bz s v;have l2:=bz u t;have l3:=dE (s-v) (u-t);have l4:=aK ((s-v)/(u-t)) t;refine pB4 33 Tryz.func134 fun w=>?_;refine A2 ?_;refine Bp 4 (fun g0=>?_);refine Bp 4 (fun g1=>?_);refine Bp 4 (fun g2=>?_);refine Bp 4 (fun g3=>?_);refine Al 12 Hq (fun g4=>?_);refine A4 ?_;refine Dq [3000000] [0,1,3,4,2,5,6,7,8,10,11,9,12] ?_;refine L4 3 0 ?_;refine L4 1 0 ?_;refine L4 2 0 ?_;refine L4 0 0 ?_;refine Pc (eY s v) ?_;refine Pc (eY u t) ?_;refine Pc (zV (s-v) (u-t)) ?_;refine A2 ?_;refine Al 4 pM (fun g5=>?_);refine Ss 5 ?_;refine A1 ?_;refine aW 21 (.int .i64 0) rfl (by rw[if_neg h0]) ?_;refine A8 ?_;refine Kr 23 (.bool false) ?_;refine A6 ?_;refine Dp [] [0,1,2,5,3,4,6,7,8] ?_;refine L4 1 0 ?_;refine L4 5 0 ?_;refine L4 0 0 ?_;refine L4 5 0 ?_;refine Pc (aG ((s-v)/(u-t)) t) ?_;refine Pc (eY v ((s-v)/(u-t)*t)) ?_;refine Pc (jm (v-(s-v)/(u-t)*t) ((s-v)/(u-t))) ?_;refine Ss 4 ?_;refine A4 ?_;refine bg rfl (bf 4 rfl rfl XR (vs:=[_,_,_,_,_,_,_,_,_,_,_,_]) rfl rfl (Nat.le_of_ble_eq_true rfl) rfl) (ai rfl) (fun w hL=>⟨?_,hL.below⟩);exact rfl
def uo(f:Qd):aH Tryz.prog 72 #[qL f] (.int .i64 (BF f)):=by
 refine uU 22 Tryz.func72 fun w=>?_;refine A2 ?_;refine Bp 12 (fun g0=>?_);refine A6 ?_;refine L4 0 0 ?_;refine A1 ?_;refine L4 0 4 ?_;refine A1 ?_;refine L4 0 8 ?_;refine(Bu [(0,_),(1,_),(2,_)]) (qdl) ?_;refine Al 12 qkz (fun g1=>?_);refine Ss 1 ?_;refine A9 ?_;refine El (ι:={n:Nat // qk5 f n}) (fun⟨n,hc⟩=>([(3,gU g1),(4,.int .i64 ((n:Int)-1))],[⟨some g0,91,qef f,12,true⟩,⟨some g1,174,qef f,12,true⟩],n)) ⟨3,by omega,fun h=>absurd h (by omega),fun h=>absurd h (by omega),fun h=>absurd h (by omega)⟩ ?_;rintro⟨n,hc⟩;(try dsimp only)
 have hn3:=hc.1;rcases(show n=3∨n=2∨n=1∨n=0 by omega) with rfl|rfl|rfl|rfl
 ·refine A5 ?_;refine Kr 13 (.bool true) ?_;refine kL ?_;refine rZ 8 qgC BD rfl rfl rfl rfl (by omega) (by omega) (by show 0+Int.toNat _*4=_;rfl) ?_;refine L4 1 8 ?_;refine Pc (dZ f.c2) ?_;refine A3 ?_;refine Cd ?_ ?_<;>intro hb2
  ·have hs20:cO f.c2≠0:=by have e:=hb2;revert e;unfold cO;simp
   refine lK ?_;refine E0 ?_;rw[qhp hs20];rfl
  ·have hs20:cO f.c2=0:=by have e:=hb2;revert e;unfold cO;simp
   refine A5 ?_;refine(Aq (((2:Nat):Int)-1)) (by exact(congrArg some (by rfl))) ?_;refine A3 ?_;exact Nl ⟨2,⟨by omega,fun _=>qbk hs20,fun h=>absurd h (by omega),fun h=>absurd h (by omega)⟩⟩ (hμ:=(by show 2<3;omega)) (hL:=eF.auto)
 ·refine A5 ?_;refine Kr 13 (.bool true) ?_;refine kL ?_;refine rZ 4 qgC BD rfl rfl rfl rfl (by omega) (by omega) (by show 0+Int.toNat _*4=_;rfl) ?_;refine L4 1 4 ?_;refine Pc (dZ f.c1) ?_;refine A3 ?_;refine Cd ?_ ?_<;>intro hb2
  ·have hs20:cO f.c1≠0:=by have e:=hb2;revert e;unfold cO;simp
   refine lK ?_;refine E0 ?_;rw[qhq (hc.2.1 (by omega)) hs20];rfl
  ·have hs20:cO f.c1=0:=by have e:=hb2;revert e;unfold cO;simp
   refine A5 ?_;refine(Aq (((1:Nat):Int)-1)) (by exact(congrArg some (by rfl))) ?_;refine A3 ?_;exact Nl ⟨1,⟨by omega,fun _=>hc.2.1 (by omega),fun _=>qbk hs20,fun h=>absurd h (by omega)⟩⟩ (hμ:=(by show 1<2;omega)) (hL:=eF.auto)
 ·refine A5 ?_;refine Kr 13 (.bool true) ?_;refine kL ?_;refine rZ 0 qgC BD rfl rfl rfl rfl (by omega) (by omega) (by show 0+Int.toNat _*4=_;rfl) ?_;refine L4 1 0 ?_;refine Pc (dZ f.c0) ?_;refine A3 ?_;refine Cd ?_ ?_<;>intro hb2
  ·have hs20:cO f.c0≠0:=by have e:=hb2;revert e;unfold cO;simp
   refine lK ?_;refine E0 ?_;rw[qhr (hc.2.1 (by omega)) (hc.2.2.1 (by omega)) hs20];rfl
  ·have hs20:cO f.c0=0:=by have e:=hb2;revert e;unfold cO;simp
   refine A5 ?_;refine(Aq (((0:Nat):Int)-1)) (by exact(congrArg some (by rfl))) ?_;refine A3 ?_;exact Nl ⟨0,⟨by omega,fun _=>hc.2.1 (by omega),fun _=>hc.2.2.1 (by omega),fun _=>qbk hs20⟩⟩ (hμ:=(by show 0<1;omega)) (hL:=eF.auto)
 ·refine A5 ?_;refine Kr 13 (.bool false) ?_;refine DV ?_;refine E0 ?_;rw[qhs (hc.2.1 (by omega)) (hc.2.2.1 (by omega)) (hc.2.2.2 (by omega))]
def H7(f g:Qd)(z1:f.c2=0)(z2:g.c2=0)(hf:uk f<=100000:=by omega)(hg:uk g<=100000:=by omega):aH Tryz.prog 142 #[qL f,qL g] (.tuple #[qL ⟨f.c0*g.c0,f.c0*g.c1+f.c1*g.c0,f.c0*g.c2+f.c2*g.c0+f.c1*g.c1⟩,.int .i64 0]):=by
 have f0:=Nat.le_trans (o6 f) hf;have f1:=Nat.le_trans (o7 f) hf;have f2:=Nat.le_trans (pV f) hf;have g0:=Nat.le_trans (o6 g) hg;have g1:=Nat.le_trans (o7 g) hg;have g2:=Nat.le_trans (pV g) hg;have m0:=aK f.c0 g.c0;have m1:=aK f.c0 g.c1;have m2:=aK f.c1 g.c0;have m3:=aK f.c0 g.c2;have m4:=aK f.c2 g.c0;have m5:=aK f.c1 g.c1;have m6:=bC (f.c0*g.c2) (f.c2*g.c0);have d1:=Sr z1;have d2:=Sr z2;have d3:=WJ f;have d4:=WJ g;refine nG 66 Tryz.func142 fun w=>?_;refine A2 ?_;refine Bp 12 (fun g0=>?_);refine Bp 12 (fun g1=>?_);refine Al 12 Hq (fun g2=>?_);refine A4 ?_;refine Dp [] [0,2,1,3,4,5] ?_;refine uD 0 0 ?_;refine uD 1 0 ?_;refine Pc (uo f) ?_;refine Pc (uo g) ?_;refine kL ?_;refine Rs 15 ?_ ?_<;>intro hb0
 ·refine A4 ?_;refine Rs 19 ?_ ?_<;>intro hb1
  ·refine A2 ?_;refine(Aq (BF f+BF g)) (by exact(congrArg some (wi (by omega) (by omega) rfl))) ?_;refine A1 ?_;refine aW 23 (.bool false) rfl (congrArg Value.bool (decide_eq_false (by omega))) ?_;refine lK ?_;refine Dp [] (0::1::2::3::4::6::7::8::9::10::12::13::14::15::16::19::20::21::22::23::25::26::27::28::29::32::33::34::35::36::5::11::17::18::24::30::31::37::38::39::40::41::[]) ?_ (hc:=(lW (0::0::2::0::8::31::0::0::128::0::512::2047::0::0::8192::0::32768::131071::262143::0::0::1048576::0::4194304::16777215::0::0::67108864::0::268435456::1073741823::2147483647::0::0::8589934592::0::34359738368::137438953471::274877906943::549755813887::1099511627775::2199023255551::[]) (by kernel_rfl)));refine A2 ?_;refine L4 0 0 ?_;refine A1 ?_;refine L4 1 0 ?_;refine A2 ?_;refine L4 0 0 ?_;refine A1 ?_;refine L4 1 4 ?_;refine A2 ?_;refine L4 0 4 ?_;refine A1 ?_;refine L4 1 0 ?_;refine A2 ?_;refine L4 0 0 ?_;refine A1 ?_;refine L4 1 8 ?_;refine A2 ?_;refine L4 0 8 ?_;refine A1 ?_;refine L4 1 0 ?_;refine A2 ?_;refine L4 0 4 ?_;refine A1 ?_;refine L4 1 4 ?_;refine fO [_,_] rfl rfl rfl rfl (aG f.c0 g.c0) ?_;refine fO [_,_] rfl rfl rfl rfl (aG f.c0 g.c1) ?_;refine fO [_,_] rfl rfl rfl rfl (aG f.c1 g.c0) ?_;refine Pc (bK (f.c0*g.c1) (f.c1*g.c0)) ?_;refine fO [_,_] rfl rfl rfl rfl (aG f.c0 g.c2) ?_;refine fO [_,_] rfl rfl rfl rfl (aG f.c2 g.c0) ?_;refine Pc (bK (f.c0*g.c2) (f.c2*g.c0)) ?_;refine fO [_,_] rfl rfl rfl rfl (aG f.c1 g.c1) ?_;refine Pc (bK (f.c0*g.c2+f.c2*g.c0) (f.c1*g.c1)) ?_;refine(Bu [(0,_),(1,_),(2,_)]) (FN) ?_;refine Ss 2 ?_;refine A4 ?_;refine bg rfl (bf 2 rfl rfl XR (vs:=[_,_,_,_,_,_,_,_,_,_,_,_]) rfl rfl (Nat.le_of_ble_eq_true rfl) rfl) (ai rfl) (fun w hL=>⟨?_,hL.below⟩);exact rfl
  ·refine KZ ?_;refine Dp [] (0::1::2::3::4::6::7::8::9::10::12::13::14::15::16::19::20::21::22::23::25::26::27::28::29::32::33::34::35::36::5::11::17::18::24::30::31::37::38::39::40::41::[]) ?_ (hc:=(lW (0::0::2::0::8::31::0::0::128::0::512::2047::0::0::8192::0::32768::131071::262143::0::0::1048576::0::4194304::16777215::0::0::67108864::0::268435456::1073741823::2147483647::0::0::8589934592::0::34359738368::137438953471::274877906943::549755813887::1099511627775::2199023255551::[]) (by kernel_rfl)));refine A2 ?_;refine L4 0 0 ?_;refine A1 ?_;refine L4 1 0 ?_;refine A2 ?_;refine L4 0 0 ?_;refine A1 ?_;refine L4 1 4 ?_;refine A2 ?_;refine L4 0 4 ?_;refine A1 ?_;refine L4 1 0 ?_;refine A2 ?_;refine L4 0 0 ?_;refine A1 ?_;refine L4 1 8 ?_;refine A2 ?_;refine L4 0 8 ?_;refine A1 ?_;refine L4 1 0 ?_;refine A2 ?_;refine L4 0 4 ?_;refine A1 ?_;refine L4 1 4 ?_;refine fO [_,_] rfl rfl rfl rfl (aG f.c0 g.c0) ?_;refine fO [_,_] rfl rfl rfl rfl (aG f.c0 g.c1) ?_;refine fO [_,_] rfl rfl rfl rfl (aG f.c1 g.c0) ?_;refine Pc (bK (f.c0*g.c1) (f.c1*g.c0)) ?_;refine fO [_,_] rfl rfl rfl rfl (aG f.c0 g.c2) ?_;refine fO [_,_] rfl rfl rfl rfl (aG f.c2 g.c0) ?_;refine Pc (bK (f.c0*g.c2) (f.c2*g.c0)) ?_;refine fO [_,_] rfl rfl rfl rfl (aG f.c1 g.c1) ?_;refine Pc (bK (f.c0*g.c2+f.c2*g.c0) (f.c1*g.c1)) ?_;refine(Bu [(0,_),(1,_),(2,_)]) (FN) ?_;refine Ss 2 ?_;refine A4 ?_;refine bg rfl (bf 2 rfl rfl XR (vs:=[_,_,_,_,_,_,_,_,_,_,_,_]) rfl rfl (Nat.le_of_ble_eq_true rfl) rfl) (ai rfl) (fun w hL=>⟨?_,hL.below⟩);exact rfl
 ·refine A20 ?_;refine Dp [] (0::1::2::3::4::6::7::8::9::10::12::13::14::15::16::19::20::21::22::23::25::26::27::28::29::32::33::34::35::36::5::11::17::18::24::30::31::37::38::39::40::41::[]) ?_ (hc:=(lW (0::0::2::0::8::31::0::0::128::0::512::2047::0::0::8192::0::32768::131071::262143::0::0::1048576::0::4194304::16777215::0::0::67108864::0::268435456::1073741823::2147483647::0::0::8589934592::0::34359738368::137438953471::274877906943::549755813887::1099511627775::2199023255551::[]) (by kernel_rfl)));refine A2 ?_;refine L4 0 0 ?_;refine A1 ?_;refine L4 1 0 ?_;refine A2 ?_;refine L4 0 0 ?_;refine A1 ?_;refine L4 1 4 ?_;refine A2 ?_;refine L4 0 4 ?_;refine A1 ?_;refine L4 1 0 ?_;refine A2 ?_;refine L4 0 0 ?_;refine A1 ?_;refine L4 1 8 ?_;refine A2 ?_;refine L4 0 8 ?_;refine A1 ?_;refine L4 1 0 ?_;refine A2 ?_;refine L4 0 4 ?_;refine A1 ?_;refine L4 1 4 ?_;refine fO [_,_] rfl rfl rfl rfl (aG f.c0 g.c0) ?_;refine fO [_,_] rfl rfl rfl rfl (aG f.c0 g.c1) ?_;refine fO [_,_] rfl rfl rfl rfl (aG f.c1 g.c0) ?_;refine Pc (bK (f.c0*g.c1) (f.c1*g.c0)) ?_;refine fO [_,_] rfl rfl rfl rfl (aG f.c0 g.c2) ?_;refine fO [_,_] rfl rfl rfl rfl (aG f.c2 g.c0) ?_;refine Pc (bK (f.c0*g.c2) (f.c2*g.c0)) ?_;refine fO [_,_] rfl rfl rfl rfl (aG f.c1 g.c1) ?_;refine Pc (bK (f.c0*g.c2+f.c2*g.c0) (f.c1*g.c1)) ?_;refine(Bu [(0,_),(1,_),(2,_)]) (FN) ?_;refine Ss 2 ?_;refine A4 ?_;refine bg rfl (bf 2 rfl rfl XR (vs:=[_,_,_,_,_,_,_,_,_,_,_,_]) rfl rfl (Nat.le_of_ble_eq_true rfl) rfl) (ai rfl) (fun w hL=>⟨?_,hL.below⟩);exact rfl
def xm(f g:Qd)(t:Rl)(hf:uk f<=10000:=by omega)(hg:uk g<=10000:=by omega)(ht:ik t<=10000:=by omega):aH Tryz.prog 317 #[qL f,qL g,RV t] (.bool (decide (ul (o8 f g) t=⟨0,0,0⟩))):=by
 have hs:=qeD hf hg;refine pB3 14 Tryz.func317 fun w=>?_;refine A2 ?_;refine Bp 12 (fun g0=>?_);refine Bp 12 (fun g1=>?_);refine Bp 9 (fun g2=>?_);refine A4 ?_;refine Dp [] [0,1,3,5,2,4,6,7] ?_;refine uD 0 0 ?_;refine uD 1 0 ?_;refine L9 2 0 ?_;refine(Bu []) (qgu) ?_;refine aW 12 (qL ⟨0,0,0⟩) rfl qbj.symm ?_;refine Pc (yG f g) ?_;refine Pc (nY (o8 f g) t) ?_;refine fG rfl rfl rfl rfl qkE (qk3 _ _) ?_;refine A4 ?_;refine E0 ?_;exact rfl
def Dk(f:Qd)(t:Rl)(h0:0<=t.r:=by omega)(hf:uk f<=10000:=by omega)(ht:ik t<=10000:=by omega):aH Tryz.prog 207 #[qL f,RV t] (.int .i64 (oK (F8 f t).p (jA (F8 f t)) (F8 f t).r)):=by
 have l1:=Pj hf ht;refine nG 9 Tryz.func207 fun w=>?_;refine A2 ?_;refine Bp 12 (fun g0=>?_);refine Bp 9 (fun g1=>?_);refine A5 ?_;refine uD 0 0 ?_;refine L9 1 0 ?_;refine Pc (um f t h0 hf ht) ?_;refine Pc (zX (F8 f t)) ?_;refine A4 ?_;refine E0 ?_;exact rfl
end Go.Proofs.YtaffcpfhedadhaaGreatDoor
namespace Go.Via
open Go
def kT(i:Iv):Nat:=max (ik i.f) (ik i.t)
def lg(i:Iv):ik i.f<=kT i:=Nat.le_max_left ..
def kH(i:Iv):ik i.t<=kT i:=Nat.le_max_right ..
def wB{i:Iv}{n:Nat}(h1:ik i.f<=n)(h2:ik i.t<=n):kT i<=n:=Nat.max_le.2 ⟨h1,h2⟩
theorem qbl{x:Rl}(h:x.r.num.sign= -1):dN x=false:=by
 unfold dN;rw[if_pos];show x.r.num.sign<0;omega
theorem NF{x:Rl}(h:x.r.num.sign=0):dN x= !x.n:=by
 unfold dN;have h:cO x.r=0:=h;rw[if_neg (by omega),if_pos h]
theorem Su{x:Rl}(h1:x.r.num.sign≠ -1)(h0:x.r.num.sign≠0):dN x= !qw x.r:=by
 unfold dN;have h1:cO x.r≠ -1:=h1;have h0:cO x.r≠0:=h0;rw[if_neg (by rcases Dj x.r with e|e|e<;>omega),if_neg h0]
theorem NG(i:Iv):jr i=decide (vS i.b i.e<0):=by
 unfold jr vS Iv.b Iv.e;dsimp only;have h:=ql i.f i.t
 by_cases h0:bH i.f i.t=0
 ·clear h;rw[h0];cases i.fo<;>cases i.tp<;>rfl
 ·rw[if_pos h0,decide_eq_false h0];simp
def NH{a b:Iv}{n:Nat}(ha:kT a<=n)(hb:kT b<=n):ik (rC a b).1<=n:=by
 have:=lg a;have:=lg b;unfold rC;split<;>(try split)<;>dsimp only<;>omega
def NI{a b:Iv}{n:Nat}(ha:kT a<=n)(hb:kT b<=n):ik (tX a b).1<=n:=by
 have:=kH a;have:=kH b;unfold tX;split<;>(try split)<;>dsimp only<;>omega
def Sz{a b:Iv}{n:Nat}(ha:kT a<=n)(hb:kT b<=n):kT (dR a b)<=n:=wB (NH ha hb) (NI ha hb)
theorem qeE{a b:Iv}(h:bH a.f b.f<0):rC a b=(b.f,b.fo):=by unfold rC;rw[if_pos h]
theorem WL{a b:Iv}(h:¬bH a.f b.f<0)(h0:bH a.f b.f=0):rC a b=(a.f,a.fo||b.fo):=by unfold rC;rw[if_neg h,if_pos h0]
theorem qeF{a b:Iv}(h:¬bH a.f b.f<0)(h0:bH a.f b.f≠0):rC a b=(a.f,a.fo):=by unfold rC;rw[if_neg h,if_neg h0]
theorem qeG{a b:Iv}(h:0<bH a.t b.t):tX a b=(b.t,b.tp):=by unfold tX;rw[if_pos h]
theorem WM{a b:Iv}(h:¬0<bH a.t b.t)(h0:bH a.t b.t=0):tX a b=(a.t,a.tp||b.tp):=by unfold tX;rw[if_neg h,if_pos h0]
theorem qeH{a b:Iv}(h:¬0<bH a.t b.t)(h0:bH a.t b.t≠0):tX a b=(a.t,a.tp):=by unfold tX;rw[if_neg h,if_neg h0]
def qjm:List Value:=[aU,aV,aU,aV,aU,aV,aU,aV,.bool false,aU,aV,aU,aV,aU,aV,aU,aV,.bool false,.bool false,.bool false]
end Go.Via
namespace Go.Via
open Go
structure lh(α:Type)(c:α->List Value)(k:Nat):Prop where
 len:∀x,(c x).length=k
 one:∀x,∀v∈c x,v.oneCell'=true
section
variable{α:Type}{c:α->List Value}{k:Nat}
def ak(c:α->List Value)(l:List α):List Value:=l.flatMap c
theorem qbm:ak c []=[]:=rfl
theorem jD(x:α)(l:List α):ak c (x::l)=c x++ak c l:=List.flatMap_cons
theorem vC(l m:List α):ak c (l++m)=ak c l++ak c m:=List.flatMap_append
theorem bD(l:List α)(x:α):ak c l++c x=ak c (l++[x]):=by rw[vC,jD,qbm,List.append_nil]
theorem lh.length(h:lh α c k):∀(l:List α),(ak c l).length=l.length*k
 |[]=>by simp[ak]
 |x::l=>by rw[jD,List.length_append,h.len,lh.length h l,List.length_cons,Nat.succ_mul,Nat.add_comm]
theorem lh.get(h:lh α c k):∀{l:List α} {i:Nat} {x:α},l[i]? =some x->((ak c l).drop (i*k)).take k=c x
 |[],i,x,hx=>by simp at hx
 |y::l,0,x,hx=>by
  simp at hx;subst hx;rw[jD,Nat.zero_mul,List.drop_zero,List.take_append_of_le_length (by rw[h.len];exact Nat.le_refl _),List.take_of_length_le (by rw[h.len];exact Nat.le_refl _)]
 |y::l,i+1,x,hx=>by
  have e1:(i+1)*k=(c y).length+i*k:=(by rw[h.len,Nat.succ_mul,Nat.add_comm]);rw[jD,e1,List.drop_length_add_append];exact lh.get h (by simpa using hx)
def lh.sub(h:lh α c k){l:List α}{i:Nat}{x:α}(hx:l[i]? =some x)(o n:Nat)(hn:o+n<=k):((ak c l).drop (i*k+o)).take n=((c x).drop o).take n:=by
 rw[<-h.get hx,<-List.drop_drop,List.drop_take,List.take_take]
 congr 1
 omega
def lh.ones(h:lh α c k)(l:List α):∀v∈ak c l,v.oneCell'=true:=fun v hv=>by
 obtain⟨x,_,hv⟩:=List.mem_flatMap.1 hv;exact h.one x v hv
def lh.ne(h:lh α c k)(hk:0<k){l:List α}(hl:0<l.length):ak c l≠[]:=fun e=>by
 have:=h.length l;rw[e,List.length_nil] at this;have:=Nat.mul_pos hl hk;omega
theorem lh.set(h:lh α c k):∀{l:List α} {i:Nat} (x:α),i<l.length->(ak c l).take (i*k)++c x++(ak c l).drop (i*k+k)=ak c (l.set i x)
 |[],i,x,hi=>by simp at hi
 |y::l,0,x,_=>by
  rw[Nat.zero_mul,List.take_zero,List.nil_append,Nat.zero_add,jD,List.drop_append_of_le_length (by rw[h.len];exact Nat.le_refl _),List.drop_of_length_le (by rw[h.len];exact Nat.le_refl _),List.nil_append,List.set_cons_zero,jD]
 |y::l,i+1,x,hi=>by
  have ih:=lh.set h (l:=l) (i:=i) x (by simpa using hi);have e1:(i+1)*k=(c y).length+i*k:=(by rw[h.len,Nat.succ_mul,Nat.add_comm]);rw[jD,e1,Nat.add_assoc,List.take_length_add_append,List.drop_length_add_append,List.set_cons_succ,jD,<-ih];simp
end
theorem fB{α:Type}{l:List α}{i:Nat}{x:α}(hx:l[i]? =some x):l.take i++[x]=l.take (i+1):=by
 rw[List.take_add_one,hx];rfl
end Go.Via
namespace Go.Via
variable[Mo]
open Go Go.RowKit Go.Sort Go.Proofs
def aT.rowMod{B:Bs}{w w':World}{L:List aF}(h:aT B L w){k:Nat}{b:aF}(hk:L[k]? =some b)(ho:b.own=true){g:Nat}(hg:b.base=some g)(hn0:b.n≠0)(f:Array Value->Array Value)(cs':List Value)
 (hf:∀cur:Array Value,cur.size=b.n->cur.toList.take b.cs.length=b.cs->(f cur).size=b.n∧(f cur).toList.take cs'.length=cs')
 (h1:w'.os=w.os)(h2:w'.tape=w.tape)(h3:w'.output=w.output)(h4:w.heap.size<=w'.heap.size)(h5:∀i,i<w.heap.size->i≠g->w'.heap[i]? =w.heap[i]?)
 (h6:∀cur:Array Value,w.heap[g]? =some (.cells cur b.e (0,0))->w'.heap[g]? =some (.cells (f cur) b.e (0,0)))(h7:w.drawn<=w'.drawn:=by first|exact Nat.le_refl _|exact Nat.le_add_right _ _):aT B (L.set k {b with cs:=cs'}) w':=by
 obtain⟨cur,⟨e',fr,a1,a2,_⟩,a3,a4⟩:=((h.blk k b hk).1 g hg).cells (.inl hn0);obtain⟨rfl,rfl⟩:=a2 ho;obtain⟨b1,b2⟩:=hf cur a3 a4;have hs:=h.set hk ho hg (f cur) cs' b1 b2;have hh:=setRow_heap w g cur (f cur) b.e (0,0) a1;have hsz:(w.setRow g (f cur)).heap.size=w.heap.size:=by simp
 refine hs.same ⟨h1,h2,h3,by rw[hsz];exact h4,fun i hi=>?_,fun _=>h7⟩
 rw[hsz] at hi
 by_cases e:i=g
 ·subst e;rw[h6 cur a1,hh]
 ·rw[h5 i hi e,setRow_other w g i _ e]
def SB(l:List Dw):List Value:=l.map fun s=> .string (lw s)
theorem YG(l:List Dw):(SB l).length=l.length:=by simp[SB]
abbrev SBk(b:Option Nat)(l:List Dw)(n:Nat):aF:=⟨b,9,SB l,n,true⟩
def aT.loose{B:Bs}{w:World}{L:List aF}(h:aT B L w){k:Nat}{b:aF}(hk:L[k]? =some b)(ho:b.own=true){g:Nat}(hg:b.base=some g)(hn0:b.n≠0)(j:Nat):w.frozen? ⟨g,j,none⟩=false:=by
 obtain⟨cur,⟨e',fr,a1,a2,_⟩,a3,a4⟩:=((h.blk k b hk).1 g hg).cells (.inl hn0);obtain⟨rfl,rfl⟩:=a2 ho;simp[World.frozen?,a1]
def SA{d:List Dw}{cur:Array Value}(h:d.length<=cur.size):(putCells encStr 0 d.toArray cur).size=cur.size∧(putCells encStr 0 d.toArray cur).toList.take (SB d).length=SB d:=by
 refine⟨by simp[putCells],?_⟩
 apply List.ext_getElem?
 intro i;rw[YG,List.getElem?_take]
 split
 ·rename_i hi
  unfold SB;rw[List.getElem?_map,List.getElem?_eq_getElem hi,Array.getElem?_toList];unfold putCells;rw[Array.getElem?_mapIdx,Array.getElem?_eq_getElem (by omega)];simp only[Option.map_some,Nat.zero_le,true_and,List.size_toArray,Nat.zero_add,hi,if_true,Nat.sub_zero];rw[getElem!_pos d.toArray i (by simpa using hi)]
  rfl
 ·rename_i hi
  unfold SB;rw[List.getElem?_map,List.getElem?_eq_none (by omega)]
  rfl
def aT.putRow{B:Bs}{w:World}{L:List aF}(h:aT B L w){k g n m:Nat}{l l':List Dw}{os:Array Obj}(hk:L[k]? =some (SBk (some g) l n))(hl:l'.length<=n)(hn0:n≠0):
 aT B (L.set k (SBk (some g) l' n)) (grow (putRow encStr (Sort.ahead w m) g 0 l'.toArray) os):=by
 have hlt:=h.lt hk rfl;have e1:(grow (Go.Sort.putRow encStr (Sort.ahead w m) g 0 l'.toArray) os).heap=(w.heap.modify g (onCells (putCells encStr 0 l'.toArray)))++os:=rfl;refine h.rowMod hk rfl rfl hn0 (putCells encStr 0 l'.toArray) (SB l') (fun cur hc _=>by
 have hc':cur.size=n:=hc;obtain⟨p1,p2⟩:=SA (d:=l') (cur:=cur) (by omega);exact⟨p1.trans hc,p2⟩) rfl rfl rfl (by rw[e1];simp) (fun i hi hne=>?_) (fun cur hcur=>?_)
 ·rw[e1,Array.getElem?_append_left (by simpa using hi),Array.getElem?_modify,if_neg (fun e=>hne e.symm)]
 ·rw[e1,Array.getElem?_append_left (by simpa using hlt),Array.getElem?_modify,if_pos rfl,hcur]
  rfl
end Go.Via
namespace Go.Via
open Go Go.RowKit Go.Sort Go.Shelf Go.Proofs
section
variable{α:Type}[Inhabited α]{c:α->List Value}{k:Nat}
theorem Bv{α:Type}[Inhabited α]{l:List α}{i:Nat}(h:i<l.length):l.toArray[i]! =l[i]:=by
 rw[getElem!_pos l.toArray i (by simpa using h)];rfl
theorem YH{α:Type}[Inhabited α]{l:List α}{i:Nat}{x:α}(h:l[i]? =some x):l[i]! =x:=by
 rw[List.getElem!_eq_getElem?_getD,h];rfl
def qbn(h:lh α c k){l:List α}{t:Nat}(ht:t<l.length*k):∃x,l[t/k]? =some x∧(ak c l)[t]? =(c x)[t%k]? :=by
 have k0:0<k:=Nat.pos_of_ne_zero (by rintro rfl;simp at ht);have hi:t/k<l.length:=Nat.div_lt_of_lt_mul (by rw[Nat.mul_comm];exact ht);have hx:l[t/k]? =some l[t/k]:=List.getElem?_eq_getElem hi;refine⟨_,hx,?_⟩;have hm:t%k<k:=Nat.mod_lt _ k0;rw[<-h.get hx,List.getElem?_take,if_pos hm,List.getElem?_drop]
 congr 1
 rw[Nat.mul_comm];exact(Nat.div_add_mod t k).symm
theorem SC(h:lh α c k)(l:List α):Go.Sort.flatK c k l.toArray=(ak c l).toArray:=by
 refine Go.Sort.ext_get! (by simp[h.length]) fun t ht=>?_
 have ht':t<l.length*k:=(by simpa using ht);obtain⟨x,hx,hc⟩:=qbn h ht';rw[get_flatK _ _ _ _ (by simpa using ht')];have k0:0<k:=Nat.pos_of_ne_zero (by rintro rfl;simp at ht');have hm:t%k<(c x).length:=(by rw[h.len];exact Nat.mod_lt _ k0);have hi:t/k<l.length:=(List.getElem?_eq_some_iff.1 hx).1;rw[Bv hi,(List.getElem?_eq_some_iff.1 hx).2,YH (List.getElem?_eq_getElem hm)];have hr:t<(ak c l).length:=(by rw[h.length];exact ht');rw[Bv hr];rw[List.getElem?_eq_getElem hr,List.getElem?_eq_getElem hm] at hc;exact(Option.some.inj hc).symm
def NJ(h:lh α c k){B:Bs}{w:World}{L:List aF}(hL:aT B L w){j g e n:Nat}{l:List α}(hk:L[j]? =some ⟨some g,e,ak c l,n,true⟩)(hn0:n≠0):HoldsK c k w g 0 l.toArray:=by
 unfold HoldsK;rw[SC h];intro t ht;have ht':t<(ak c l).length:=by simpa using ht
 obtain⟨g',hg',h2⟩:=hL.cell (k:=j) hk (List.getElem?_eq_getElem ht');cases hg';rw[Nat.zero_add];exact⟨by rw[h2,Bv ht'];rfl,hL.loose hk rfl rfl hn0 t⟩
def qeI{vs:List Value}{cur:Array Value}(h:vs.length<=cur.size):(putCells id 0 vs.toArray cur).size=cur.size∧(putCells id 0 vs.toArray cur).toList.take vs.length=vs:=by
 refine⟨by simp[putCells],?_⟩
 apply List.ext_getElem?
 intro i;rw[List.getElem?_take]
 split
 ·rename_i hi
  rw[List.getElem?_eq_getElem hi,Array.getElem?_toList];unfold putCells;rw[Array.getElem?_mapIdx,Array.getElem?_eq_getElem (by omega)];simp only[Option.map_some,Nat.zero_le,true_and,List.size_toArray,Nat.zero_add,hi,if_true,Nat.sub_zero];rw[Bv hi]
  rfl
 ·rename_i hi
  rw[List.getElem?_eq_none (by omega)]
def EM(h:lh α c k){B:Bs}{w:World}{L:List aF}(hL:aT B L w){j g e n m:Nat}{l l':List α}{os:Array Obj}(hk:L[j]? =some ⟨some g,e,ak c l,n,true⟩)(hl:(ak c l').length<=n)(hn0:n≠0):
 aT B (L.set j ⟨some g,e,ak c l',n,true⟩) (sortWorldK c k w g 0 m l'.toArray os):=by
 have hlt:=hL.lt hk rfl;have e0:sortWorldK c k w g 0 m l'.toArray os=grow (Go.Sort.putRow id (Sort.ahead w m) g 0 (ak c l').toArray) os:=by
  unfold sortWorldK Go.Sort.putRowK;rw[SC h]
 rw[e0];have e1:(grow (Go.Sort.putRow id (Sort.ahead w m) g 0 (ak c l').toArray) os).heap=(w.heap.modify g (onCells (putCells id 0 (ak c l').toArray)))++os:=rfl;refine hL.rowMod hk rfl rfl hn0 (putCells id 0 (ak c l').toArray) (ak c l') (fun cur hc _=>by
 have hc':cur.size=n:=hc;obtain⟨p1,p2⟩:=qeI (vs:=ak c l') (cur:=cur) (by omega);exact⟨p1.trans hc,p2⟩) rfl rfl rfl (by rw[e1];simp) (fun i hi hne=>?_) (fun cur hcur=>?_) (Nat.le_add_right _ _)
 ·rw[e1,Array.getElem?_append_left (by simpa using hi),Array.getElem?_modify,if_neg (fun e=>hne e.symm)]
 ·rw[e1,Array.getElem?_append_left (by simpa using hlt),Array.getElem?_modify,if_pos rfl,hcur]
  rfl
abbrev mo1:Mo:=⟨True⟩
def qbo[Mo](hm:Mo.p){w w':World}(h:eQ w.heap.size w w'):∃q os',w'=grow (w.drewN q) os':=by
 refine⟨w'.drawn-w.drawn,w'.heap.extract w.heap.size w'.heap.size,?_⟩;have hh:w'.heap=w.heap++w'.heap.extract w.heap.size w'.heap.size:=by
  apply Array.ext_getElem?
  intro i
  by_cases hi:i<w.heap.size
  ·rw[Array.getElem?_append_left hi,h.block i hi]
  ·rw[Array.getElem?_append_right (by omega),Array.getElem?_extract];have hs:=h.size
   split
   ·congr 1;omega
   ·rename_i h2
    have:w'.heap.size<=i:=(by omega);rw[Array.getElem?_eq_none this]
 cases w';have a1:=h.os;have a2:=h.tape;have a3:=h.output;have a4:=h.drawn hm;dsimp only at a1 a2 a3 a4 hh;unfold grow World.drewN;dsimp only;rw[<-hh,a1,a2,a3]
 congr 1
 omega
def WN[Mo](hm:Mo.p){P:Program}{g:Nat}{cf:α->α->Int}(H:∀x y,aH P g #[.agg (c x).toArray,.agg (c y).toArray] (.int .i64 (cf x y)))(blk off size:Nat)(w:World):CmpLays P g #[] c k cf blk off size w:=fun m os dk hs x y=>by
 refine((H x y).2 _).mono ?_;rintro e w' ⟨he,hb⟩;exact⟨he,qbo hm hb⟩
def qeJ{l:List α}{d:Array α}(h:PermIn 0 l.toArray.size l.toArray d):d.toList.Perm l:=by
 obtain⟨h1,_,h3⟩:=h;have e1:d.extract 0 l.toArray.size=d:=by rw[<-h1];simp
 have e2:l.toArray.extract 0 l.toArray.size=l.toArray:=(by simp);rw[e1,e2] at h3;exact h3
def YI{lt:α->α->Bool}{n:Nat}{d:Array α}(h:SortedIn lt 0 n d)(hn:d.size=n):d.toList.Pairwise fun x y=>lt y x=false:=by
 rw[List.pairwise_iff_getElem];intro i j hi hj hij;have:=h i j (Nat.zero_le _) hij (by simp at hj;omega);rw[getElem!_pos d j (by simpa using hj),getElem!_pos d i (by simpa using hi)] at this
 simpa using this
theorem SE{lt:α->α->Bool}{a:Nat}{d:Array α}:∀{i:Nat},(∀j,a<j->j<=i->lt d[j]! d[j-1]! =false)->insInner lt a i d=d
 |0,_=>rfl
 |i+1,h=>by
  unfold insInner
  by_cases hc:i+1>a
  ·have:=h (i+1) hc (Nat.le_refl _);rw[Nat.add_sub_cancel] at this;rw[this,Bool.and_false,if_neg (by decide)]
  ·rw[decide_eq_false hc,Bool.false_and,if_neg (by decide)]
def Ha{lt:α->α->Bool}{a b:Nat}{d:Array α}(h:∀j,a<j->j<b->lt d[j]! d[j-1]! =false):∀(n i:Nat),b-i=n->insOuter lt a b i d=d
 |0,i,hn=>by unfold insOuter;rw[if_neg (by omega)]
 |n+1,i,hn=>by
  unfold insOuter;rw[if_pos (by omega),SE fun j h1 h2=>h j h1 (by omega)]
  exact Ha h n (i+1) (by omega)
def Pm{lt:α->α->Bool}{l:List α}(h:l.Pairwise fun x y=>lt y x=false):Sort.insertionSort lt l.toArray 0 l.length=l.toArray:=by
 refine Ha (fun j h1 h2=>?_) _ _ rfl;rw[Bv h2,Bv (show j-1<l.length by omega)];exact List.pairwise_iff_getElem.1 h (j-1) j (by omega) h2 (by omega)
end
end Go.Via
namespace Go.Via
open Go
def qhu(a b:Bool):Int:=if a=b then 0 else if b=true then-1 else 1
def Ls(a b:PU):Int:=if bH a.i.f b.i.f≠0 then bH a.i.f b.i.f else if qhu a.i.fo b.i.fo≠0 then qhu a.i.fo b.i.fo else bH a.i.t b.i.t
def qeK{S:Rl->Prop}{ρ:Rl->Int}(T:fD S ρ){x y:PU}(hx:S x.i.f)(hy:S y.i.f)(h:aY ρ x.i.b<aY ρ y.i.b):¬Ls y x<0:=by
 have h1:=T.lt hy hx;have h2:=T.gt hy hx;unfold aY Iv.b at h;dsimp only at h;unfold Ls
 by_cases e:bH y.i.f x.i.f≠0
 ·rw[if_pos e];intro h3;have:=h1.1 h3
  revert h;split<;>split<;>omega
 ·rw[if_neg e];have e':ρ y.i.f=ρ x.i.f:=by
   have:¬ρ y.i.f<ρ x.i.f:=fun k=>e (by have:=h1.2 k;omega)
   have:¬ρ x.i.f<ρ y.i.f:=fun k=>e (by have:=h2.2 k;omega)
   omega
  rw[e'] at h;have hf:x.i.fo=false∧y.i.fo=true:=by
   cases hx':x.i.fo<;>cases hy':y.i.fo<;>rw[hx',hy'] at h<;>first|exact⟨rfl,rfl⟩|(exfalso;simp at h;done)|(exfalso;simp at h;omega)
  rw[hf.1,hf.2,if_pos (by decide)]
  decide
def UZ{S:Rl->Prop}{ρ:Rl->Int}(T:fD S ρ){l:List PU}(hs:nX ρ l)(he:Ends S l):l.Pairwise fun x y=>decide (Ls y x<0)=false:=by
 refine hs.1.imp_of_mem fun {x y} hx hy h=>?_
 have:=hs.2 x hx;exact decide_eq_false (qeK T (he x hx).1 (he y hy).1 (by omega))
end Go.Via
namespace Go.Via
open Go
theorem aC:lh PU aQ 36:=⟨fun _=>rfl,fun x v hv=>List.all_eq_true.1 (show(aQ x).all (·.oneCell')=true from rfl) v hv⟩
theorem gW:lh Iv dQ 20:=⟨fun _=>rfl,fun x v hv=>List.all_eq_true.1 (show(dQ x).all (·.oneCell')=true from rfl) v hv⟩
def qbp:lh Rl Fb 9:=⟨fun _=>rfl,fun x v hv=>List.all_eq_true.1 (show(Fb x).all (·.oneCell')=true from rfl) v hv⟩
def nH:lh (Iv×Qd) C9 32:=⟨fun _=>rfl,fun x v hv=>List.all_eq_true.1 (show(C9 x).all (·.oneCell')=true from rfl) v hv⟩
def Gj:lh B3 O7 52:=⟨fun _=>rfl,fun x v hv=>List.all_eq_true.1 (show(O7 x).all (·.oneCell')=true from rfl) v hv⟩
def iU:lh qA pJ 38:=⟨fun _=>rfl,fun x v hv=>List.all_eq_true.1 (show(pJ x).all (·.oneCell')=true from rfl) v hv⟩
def uq:lh (Iv×Int) EC 21:=⟨fun _=>rfl,fun x v hv=>List.all_eq_true.1 (show(EC x).all (·.oneCell')=true from rfl) v hv⟩
theorem wC:lh ((Rl×Bool)×Int×Int) jM 12:=⟨fun _=>rfl,fun x v hv=>List.all_eq_true.1 (show(jM x).all (·.oneCell')=true from rfl) v hv⟩
end Go.Via
namespace Go.Via
open Go
structure RtG(n:Nat) where
 lo:Nat
 hi:Nat
 lx:SR (nb lo)
 hx:SR (nb hi)
 h1:lo*lo<=n
 h2:n<hi*hi
 h3:hi<=n+1
def qbq(n:Nat):n<(n+1)*(n+1):=Nat.lt_of_lt_of_le (Nat.lt_succ_self n) (Nat.le_mul_of_pos_right _ (by omega))
def qfJ{n lo hi:Nat}(h1:lo*lo<=n)(h2:n<hi*hi):lo<hi:=UH (Nat.lt_of_le_of_lt h1 h2)
def qhv{n lo hi:Nat}(h1:lo*lo<=n)(h2:n<hi*hi)(h:¬lo+1<hi):bM n=lo:=by
 have h0:=qfJ h1 h2;have:hi=lo+1:=(by omega);subst this;exact CU h1 h2
theorem qhw:D8 2=[2]:=y9 (by omega) (by omega) (by omega)
theorem Pn:nb 2=1:=by have h1:=nC (n:=2) (k:=1) (by omega);have h2:=CB (u:=2) (by omega);omega
theorem qeL{a r:Rat}{u:Int}(h:cO a=0):jv a u r=u*cO r:=by unfold jv;rw[if_pos h]
theorem WO{a r:Rat}{u:Int}(h:cO a≠0)(h2:u*cO r=0∨cO a=u*cO r):jv a u r=cO a:=by unfold jv;rw[if_neg h,if_pos h2]
theorem qeM{a r:Rat}{u:Int}(h:cO a≠0)(h2:u*cO r≠0)(h3:cO a≠u*cO r):jv a u r=cO a*l9 (a*a) r:=by unfold jv;rw[if_neg h,if_neg (by rintro(e|e);exact h2 e;exact h3 e)]
theorem m3{a b:Int}(ha:a= -1∨a=0∨a=1)(hb:b= -1∨b=0∨b=1):a*b= -1∨a*b=0∨a*b=1:=by
 rcases ha with rfl|rfl|rfl<;>rcases hb with rfl|rfl|rfl<;>simp
def qbr(a r:Rat){u:Int}(hu:u= -1∨u=0∨u=1):jv a u r= -1∨jv a u r=0∨jv a u r=1:=by
 unfold jv
 split
 ·exact m3 hu (Dj r)
 ·split
  ·exact Dj a
  ·exact m3 (Dj a) (qbb _ _)
section
variable{a r s:Rat}{u v:Int}
theorem WP(h:jv a u r≠v*cO s∨jv a u r=0)(h2:v*cO s<jv a u r):Lr a u r v s=1:=by unfold Lr;rw[if_pos h,if_pos h2]
theorem WQ(h:jv a u r≠v*cO s∨jv a u r=0)(h2:¬v*cO s<jv a u r):Lr a u r v s=jv a u r-v*cO s:=by unfold Lr;rw[if_pos h,if_neg h2]
theorem qeN(h:¬jv a u r≠v*cO s)(h2:¬jv a u r=0):Lr a u r v s=jv a u r*jv (a*a+r-s) (u*cO a) (4*(a*a*r)):=by
 unfold Lr;rw[if_neg (by rintro(e|e);exact h e;exact h2 e)]
end
def qbs(x:Rl):mJ x= -1∨mJ x=0∨mJ x=1:=by unfold mJ;split<;>simp
def qbt:bP 4<=2:=ny (z:=4) (by omega) (by omega)
def qjn:Rat.divInt 2 1=2:=by decide+kernel
def qk6:Rat.divInt 4 1=4:=by decide+kernel
theorem qhx{f:Qd}{t:Rl}(h:cO t.r=0):lD f t=⟨ry f t.p,0,0⟩:=by unfold lD;rw[if_pos h]
theorem qhy{f:Qd}{t:Rl}(h:cO t.r≠0):lD f t=⟨f.c0+f.c2*(t.r-t.p*t.p),f.c1+2*(t.p*f.c2),0⟩:=by unfold lD;rw[if_neg h]
def qbu{f:Qd}{t:Rl}{m n:Nat}(hf:uk f<=m)(ht:ik t<=n):uk (lD f t)<=3*m+4*n+6:=by
 have e0:=Nat.le_trans (o6 f) hf;have e1:=Nat.le_trans (o7 f) hf;have e2:=Nat.le_trans (pV f) hf;have t1:=Nat.le_trans (rD t) ht;have t2:=Nat.le_trans (xg t) ht;have z0:=vk;unfold lD
 split
 ·have h1:=ww f t.p;refine Gi ?_ ?_ ?_<;>dsimp only<;>omega
 ·have l1:=aK t.p t.p;have l2:=bz t.r (t.p*t.p);have l3:=aK f.c2 (t.r-t.p*t.p);have l4:=bC f.c0 (f.c2*(t.r-t.p*t.p));have l5:=aK t.p f.c2;have l6:=aK 2 (t.p*f.c2);have l7:=bC f.c1 (2*(t.p*f.c2));have l8:=EJ;refine Gi ?_ ?_ ?_<;>dsimp only<;>omega
def iV(f:Ln):Nat:=max (max (bP f.x0) (bP f.x1)) (max (bP f.y0) (bP f.y1))
def qP(f:Ln):bP f.x0<=iV f:=by unfold iV;omega
def qQ(f:Ln):bP f.x1<=iV f:=by unfold iV;omega
def qR(f:Ln):bP f.y0<=iV f:=by unfold iV;omega
def qU(f:Ln):bP f.y1<=iV f:=by unfold iV;omega
def Po{f g:Ln}{n:Nat}(hf:iV f<=n)(hg:iV g<=n):uk (d2 f g)<=8*n+20:=by
 have a0:=Nat.le_trans (qP f) hf;have a1:=Nat.le_trans (qQ f) hf;have a2:=Nat.le_trans (qR f) hf;have a3:=Nat.le_trans (qU f) hf;have b0:=Nat.le_trans (qP g) hg;have b1:=Nat.le_trans (qQ g) hg;have b2:=Nat.le_trans (qR g) hg;have b3:=Nat.le_trans (qU g) hg;have s0:=bz f.x0 g.x0;have s1:=bz f.x1 g.x1;have s2:=bz f.y0 g.y0;have s3:=bz f.y1 g.y1;have z:=EJ;unfold d2;refine Gi ?_ ?_ ?_<;>dsimp only
 ·have:=bC ((f.x0-g.x0)*(f.x0-g.x0)) ((f.y0-g.y0)*(f.y0-g.y0));have:=aK (f.x0-g.x0) (f.x0-g.x0);have:=aK (f.y0-g.y0) (f.y0-g.y0);omega
 ·have:=aK 2 ((f.x0-g.x0)*(f.x1-g.x1)+(f.y0-g.y0)*(f.y1-g.y1));have:=bC ((f.x0-g.x0)*(f.x1-g.x1)) ((f.y0-g.y0)*(f.y1-g.y1));have:=aK (f.x0-g.x0) (f.x1-g.x1);have:=aK (f.y0-g.y0) (f.y1-g.y1);omega
 ·have:=bC ((f.x1-g.x1)*(f.x1-g.x1)) ((f.y1-g.y1)*(f.y1-g.y1));have:=aK (f.x1-g.x1) (f.x1-g.x1);have:=aK (f.y1-g.y1) (f.y1-g.y1);omega
def SG{m n:Nat}(h:(lZ m n !=0)=true):m≠n:=fun e=>by subst e;unfold lZ at h;simp at h
def SH{m n:Nat}(h:(lZ m n !=0)=false):m=n:=by
 unfold lZ at h
 by_cases h1:m<n
 ·simp[h1] at h
 ·by_cases h2:n<m
  ·simp[h1,h2] at h
  ·omega
theorem qjo{q:Rat}(h:decide (q.num<0)=true):qw q=false:=by
 have:=of_decide_eq_true h;unfold qw;rw[decide_eq_false (by omega)];rfl
theorem qjp{q:Rat}(h:bM q.num.natAbs*bM q.num.natAbs≠q.num.natAbs):qw q=false:=by
 unfold qw;rw[beq_eq_false_iff_ne.2 h];simp
theorem qjq{q:Rat}(h:bM q.den*bM q.den≠q.den):qw q=false:=by
 unfold qw;rw[beq_eq_false_iff_ne.2 h];simp
theorem qjr{q:Rat}(h:decide (q.num<0)=false)(h1:bM q.num.natAbs*bM q.num.natAbs=q.num.natAbs)(h2:bM q.den*bM q.den=q.den):qw q=true:=by
 have:=of_decide_eq_false h;unfold qw;rw[h1,h2,decide_eq_true (by omega)];simp
def YJ(q:Rat)(h:bM q.den*bM q.den=q.den):0<bM q.den:=by
 have:=q.den_nz;exact Nat.pos_of_ne_zero fun e=>by rw[e] at h;omega
end Go.Via
namespace Go.Proofs.YtaffcpfhedadhaaGreatDoor
open Go Go.Via
end Go.Proofs.YtaffcpfhedadhaaGreatDoor
namespace Go.Via
open Go
def SI(out:List Iv)(t:Rl)(tp:Bool):List Iv:=match out.getLast? with
 |some i=>out.dropLast++[⟨i.f,t,i.fo,tp⟩]
 |none=>out
def zZ(out:List Iv)(op h:Bool)(t:Rl):List Iv:=if op=true then SI out t (!h) else if h=true then out++[⟨t,t,false,false⟩] else out
def Gl(here:Rl->Bool)(btw:Rl->Rl->Bool):List Rl->List Iv->Bool->List Iv
 |[],out,_=>out
 |[t],out,op=>zZ out op (here t) t
 |t::u::ts,out,op=>Gl here btw (u::ts) (if btw t u=true∧here t=false then zZ out op (here t) t++[⟨t,u,true,true⟩] else zZ out op (here t) t) (btw t u)
theorem Dl(out:List Iv)(i:Iv)(t:Rl)(tp:Bool):SI (out++[i]) t tp=out++[⟨i.f,t,i.fo,tp⟩]:=by
 unfold SI;rw[List.getLast?_append];simp
theorem sJ{here:Rl->Bool}{btw:Rl->Rl->Bool}:∀{ts:List Rl} {out:List Iv},(Gl here btw ts out false=out++(Nk here btw none ts).map fun p=>Hw p.1 p.2)∧∀i:Iv,ts≠[]->Gl here btw ts (out++[i]) true=out++(Nk here btw (some i.b) ts).map fun p=>Hw p.1 p.2
 |[],out=>by
  refine⟨by simp[Gl,Nk],fun i h=>absurd rfl h⟩
 |[t],out=>by
  refine⟨?_,fun i _=>?_⟩
  ·unfold Gl Nk zZ;cases here t<;>simp[Hw]
  ·unfold Gl Nk zZ;rw[if_pos rfl,Dl];simp[Hw,Iv.b]
 |t::u::ts,out=>by
  refine⟨?_,fun i _=>?_⟩
  ·unfold Gl Nk zZ;cases hh:here t<;>cases hb:btw t u<;>simp only[Bool.false_eq_true,if_false,if_true,and_true,and_false,true_and,false_and,reduceIte]
   ·exact(sJ (ts:=u::ts) (out:=out)).1
   ·exact(sJ (ts:=u::ts) (out:=out)).2 ⟨t,u,true,true⟩ (by simp)
   ·rw[(sJ (ts:=u::ts) (out:=out++[_])).1];simp[Hw]
   ·exact(sJ (ts:=u::ts) (out:=out)).2 ⟨t,t,false,false⟩ (by simp)
  ·unfold Gl Nk zZ;rw[if_pos rfl,Dl];cases hh:here t<;>cases hb:btw t u<;>simp only[Bool.false_eq_true,if_false,if_true,and_true,and_false,true_and,false_and,reduceIte]
   ·rw[(sJ (ts:=u::ts) (out:=out++[_])).1];simp[Hw,Iv.b]
   ·rw[(sJ (ts:=u::ts) (out:=out++[_])).2 ⟨t,u,true,true⟩ (by simp)];simp[Hw,Iv.b]
   ·rw[(sJ (ts:=u::ts) (out:=out++[_])).1];simp[Hw,Iv.b]
   ·exact(sJ (ts:=u::ts) (out:=out)).2 ⟨i.f,t,i.fo,false⟩ (by simp)
def lh.setf{α:Type}{c:α->List Value}{k:Nat}(h:lh α c k){l:List α}{i:Nat}{x y:α}{v:List Value}{o n:Nat}(hx:l[i]? =some x)(hy:(c x).take o++v++(c x).drop (o+n)=c y)(hn:o+n<=k):
 (ak c l).take (i*k+o)++v++(ak c l).drop (i*k+o+n)=ak c (l.set i y):=by
 have hi:i<l.length:=(List.getElem?_eq_some_iff.1 hx).1;have e1:(ak c l).take (i*k+o)=(ak c l).take (i*k)++(c x).take o:=by
  rw[List.take_add,<-h.get hx,List.take_take,Nat.min_eq_left (by omega)]
 have e2:(ak c l).drop (i*k+o+n)=(c x).drop (o+n)++(ak c l).drop (i*k+k):=by
  have e3:(ak c l).drop (i*k)=c x++(ak c l).drop (i*k+k):=by
   rw[<-h.get hx,<-List.drop_drop];exact(List.take_append_drop k _).symm
  rw[Nat.add_assoc,<-List.drop_drop,e3,List.drop_append_of_le_length (by rw[h.len];exact hn)]
 rw[e1,e2,<-h.set y hi,<-hy];simp
end Go.Via
namespace Go.Via
theorem xu{α:Type}{l:List α}{i:Nat}{x:α}{p:α->Bool}(hx:l[i]? =some x):(l.drop i).any p=(p x||(l.drop (i+1)).any p):=by
 have:l.drop i=x::l.drop (i+1):=by
  obtain⟨hlt,e⟩:=List.getElem?_eq_some_iff.1 hx;rw[List.drop_eq_getElem_cons hlt,e]
 rw[this,List.any_cons]
end Go.Via
namespace Go.Via
def SK(x:Rl):∀l:List Rl,(CY x l).length<=l.length+1
 |[]=>by simp[CY]
 |y::l=>by
  have:=SK x l;unfold CY;split
  ·simp;omega
  ·split<;>simp
def qeO(l:List Rl):(yC l).length<=l.length:=by
 have:∀(l o:List Rl),(l.foldl (fun o x=>CY x o) o).length<=o.length+l.length:=by
  intro l
  induction l with
  |nil=>intro o;simp
  |cons x l ih=>intro o;rw[List.foldl_cons];have:=ih (CY x o);have:=SK x o;simp;omega
 have:=this l [];unfold yC;simpa using this
section
variable{α:Type}{c:α->List Value}{k:Nat}
end
end Go.Via
namespace Go.Via
theorem J7:∀l:List Iv,(gK l).length=2*l.length
 |[]=>rfl
 |i::l=>by show(i.f::i.t::gK l).length=_;rw[List.length_cons,List.length_cons,J7 l,List.length_cons];omega
def EN{α:Type}{c:α->List Value}{k:Nat}(h:lh α c k)(hk:0<k){l:List α}{b:Option Nat}(hb:b=none->ak c l=[]):l.length=0∨∃g,b=some g:=by
 by_cases e:l.length=0
 ·exact .inl e
 ·right
  cases b with
  |some g=>exact⟨g,rfl⟩
  |none=>exact absurd (hb rfl) (h.ne hk (by omega))
end Go.Via
namespace Go.Via
open Go
theorem IK{α:Type}{l:List α}{i:Nat}{x:α}(hx:l[i]? =some x):l.drop i=x::l.drop (i+1):=by
 obtain⟨hlt,e⟩:=List.getElem?_eq_some_iff.1 hx;rw[List.drop_eq_getElem_cons hlt,e]
theorem qeP(op:Bool->Bool->Bool)(a b:List Iv):nO op a b=Gl (fun t=>op (yA a t) (yA b t)) (fun t u=>op (yB a t u) (yB b t u)) (yC (gK (a++b))) [] false:=by
 rw[sJ.1];rfl
section
variable{here:Rl->Bool}{btw:Rl->Rl->Bool}{E:List Rl}{i:Nat}{t u:Rl}{out o1:List Iv}{og h w:Bool}
end
end Go.Via
namespace Go.Proofs.YtaffcpfhedadhaaGreatDoor
open Go Go.RowKit Go.Via
def EO(n:Nat)(hn:nb n<=100000000)(x:SR (nb n)):bZ Tryz.prog 162 [⟨x.b,3,NV .i64 (D8 (n)),x.n,false⟩] [x.v] (SR (nb (bM n))) SR.v (fun z=>[⟨z.b,3,NV .i64 (D8 (bM n)),z.n,true⟩]):=by
 refine QF 34 Tryz.func162 fun w hL0=>?_;refine A7 ?_;refine(Bl 0 []) (qdo) (fun g0=>?_);refine A1 ?_;refine(Bl 1 [(0,_)]) (fQ) (fun g1=>?_);refine iP [_,SR.v (len:=nb 1) ⟨some g1,1,1,by rw[oU];exact Nat.le_refl _⟩] [0,2] rfl rfl (by show _=[some _,some (aI (some g1) 0 (nb 1) 1)];rw[oU];rfl) (jH n 1 (by omega) (by rw[oU];omega) x ⟨some g1,1,1,by rw[oU];exact Nat.le_refl _⟩) ⟨pS,⟨_,rfl,by rw[UE];exact nK⟩,trivial⟩ rfl (.inr fun x b hb=>by rw[List.mem_singleton.1 hb]) (fun zp=>?_);refine A6 ?_;refine El (ι:=RtG n) (fun⟨lo,hi,lx,hx,h1,h2,h3⟩=>([(0,x.v),(3,lx.v),(4,hx.v)],[⟨x.b,3,NV .i64 (D8 (n)),x.n,false⟩,⟨lx.b,3,NV .i64 (D8 (lo)),lx.n,true⟩,⟨hx.b,3,NV .i64 (D8 (hi)),hx.n,true⟩],hi-lo)) ⟨0,n+1,⟨some g0,0,0,by rw[jV];exact Nat.le_refl _⟩,zp,Nat.zero_le _,qbq n,Nat.le_refl _⟩ ?_ (ht:=⟨rfl,(aB rfl (by show aI (some g0) 0 0 0=aI (some g0) 0 (nb 0) 0;rw[jV])),rfl,trivial⟩) (hL:=(aj [some 0,some 1,some 3] ⟨pR,⟨_,rfl,by rw[OY];exact aF.le_refl _⟩,pR,trivial⟩ rfl rfl));rintro⟨lo,hi,lx,hx,h1,h2,h3⟩;(try dsimp only);have hlo:=qfJ h1 h2;have b1:nb lo<=nb n+1:=Nat.le_trans (fZ (show lo<=n by omega)) (by omega);have b2:nb hi<=nb n+2:=Nat.le_trans (fZ h3) (by have:=zf n 1;rw[oU] at this;omega);have b3:=zf lo hi;have b4:=zf lo 1;have b5:=oU;have b6:=vJ (lo+hi) 2;have b7:=nT ((lo+hi)/2) ((lo+hi)/2);refine A4 ?_;refine(Bl 1 [(0,_)]) (fQ) (fun g2=>?_);refine iP [_,SR.v (len:=nb 1) ⟨some g2,1,1,by rw[oU];exact Nat.le_refl _⟩] [1,3] rfl rfl (by show _=[some _,some (aI (some g2) 0 (nb 1) 1)];rw[oU];rfl) (jH lo 1 (by omega) (by rw[oU];omega) lx ⟨some g2,1,1,by rw[oU];exact Nat.le_refl _⟩) ⟨pS,⟨_,rfl,by rw[UE];exact nK⟩,trivial⟩ rfl (.inr fun x b hb=>by rw[List.mem_singleton.1 hb]) (fun z1=>?_);refine A1 ?_;refine(Sd [4,2]) (eU (lo+1) hi (by omega) z1 hx) ?_;refine A3 ?_;refine Cd ?_ ?_<;>intro hb1
 ·have hlt:lo+1<hi:=MW hb1;refine A7 ?_;refine(Sc [1,2]) (jH lo hi (by omega) (by omega) lx hx) (fun zs=>?_);refine(Bl 1 [(0,_)]) (fQ) (fun g3=>?_);refine iP [_,SR.v (len:=nb 2) ⟨some g3,1,1,by rw[Pn];exact Nat.le_refl _⟩] [5,6] rfl rfl (by show _=[some _,some (aI (some g3) 0 (nb 2) 1)];rw[Pn];rfl) (o5 (lo+hi) 2 (by omega) (by omega) (by rw[Pn];omega) zs ⟨some g3,1,1,by rw[Pn];exact Nat.le_refl _⟩) ⟨pS,⟨_,rfl,by rw[qhw];exact nK⟩,trivial⟩ rfl (.inr JO) (fun zd0=>?_);obtain⟨zd,rfl⟩:∃z,zd0=Sum.inl z:=by cases zd0 with|inl z=>exact⟨z,rfl⟩|inr h=>exact absurd h.down (by omega)
  refine qf ?_;refine(Sc [7,7]) (iZ ((lo+hi)/2) ((lo+hi)/2) (by omega) (by omega) zd.1 zd.1) (fun zt=>?_);refine A1 ?_;refine(Sd [9,0]) (eU ((lo+hi)/2*((lo+hi)/2)) n (by omega) zt x) ?_;refine A3 ?_;refine Cd ?_ ?_<;>intro hb2
  ·have hc:(lo+hi)/2*((lo+hi)/2)<=n:=uZ.1 (of_decide_eq_true hb2);refine A6 ?_;exact Nl ⟨(lo+hi)/2,hi,zd.1,hx,hc,h2,h3⟩ (hμ:=(by show hi-(lo+hi)/2<hi-lo;omega)) (hL:=(xJ [some 0,some 7,some 2]))
  ·have hc:n<(lo+hi)/2*((lo+hi)/2):=Nat.lt_of_not_le fun e=>of_decide_eq_false hb2 (uZ.2 e)
   refine A6 ?_;exact Nl ⟨lo,(lo+hi)/2,lx,zd.1,h1,hc,by omega⟩ (hμ:=(by show(lo+hi)/2-lo<hi-lo;omega)) (hL:=(xJ [some 0,some 1,some 7]))
 ·have hge:¬lo+1<hi:=Nat.not_lt.2 (JH hb1);have he:=qhv h1 h2 hge;obtain rfl:=he;refine lK ?_;refine aO rfl (ai rfl) (fun w hL=>⟨lx,?_,hL.pk [some 1]⟩);exact rfl
def EP(q:Rat)(hq:bP q<=4194303:=by omega):aH Tryz.prog 112 #[Q q] (.tuple #[Q (if qw q=true then fP q else 0),.bool (qw q)]):=by
 have e1:=Jl hq;have e2:=Jm hq;have r1:=nR q.num.natAbs;have r2:=nR q.den;have m1:=nT (bM q.num.natAbs) (bM q.num.natAbs);have m2:=nT (bM q.den) (bM q.den);refine uU 40 Tryz.func112 fun w=>?_;refine A2 ?_;refine Bp 4 (fun g0=>?_);refine Al 4 pM (fun g1=>?_);refine A5 ?_;refine L4 0 0 ?_;refine iP [_] [] rfl rfl rfl (uh q (Nat.le_trans hq (Nat.le_of_ble_eq_true rfl))) trivial rfl (.inr qaY) (fun y=>?_);refine Al 3 XU (fun g2=>?_);refine Ss 4 ?_;refine A3 ?_;refine Dp [] [0,1,3,4,2,5,6,7] ?_;refine A4 ?_;refine(Sc [2]) (EO (q.num.natAbs) (by omega) y.1) (fun zn=>?_);refine(Sc [3]) (EO (q.den) (by omega) y.2) (fun zd=>?_);refine A6 ?_;refine Dp [] [0,1,2,3,4,6,7,5,8,9,10,11,12,13,15,16,14,17,18,19] ?_ (hc:=(lW [0,1,3,7,7,31,7,71,255,511,1023,2047,4095,4095,16383,4095,36863,131071,262143,524287] (by kernel_rfl)));refine A3 ?_;refine Rs 17 ?_ ?_<;>intro hb0
 ·have hs17:decide (q.num<0)=true:=hb0;refine A22 ?_;refine(Bu []) (xR) ?_;refine aW 35 (Q 0) rfl xO.symm ?_;refine Ss 1 ?_;refine A5 ?_;refine bg rfl (bf 1 rfl rfl BD (vs:=[_,_,_,_]) rfl rfl (Nat.le_of_ble_eq_true rfl) rfl) (ai rfl) (fun w hL=>⟨?_,hL.below⟩);rw[qjo hs17,if_neg (by decide)];rfl
 ·have hs17:decide (q.num<0)=false:=hb0;refine A4 ?_;refine(Sc [5,5]) (iZ (bM q.num.natAbs) (bM q.num.natAbs) (by omega) (by omega) zn zn) (fun tn=>?_);refine(Sd [7,2]) (eU (bM q.num.natAbs*bM q.num.natAbs) q.num.natAbs (by omega) tn y.1) ?_;refine A3 ?_;refine Rs 26 ?_ ?_<;>intro hb1
  ·have hs24:bM q.num.natAbs*bM q.num.natAbs≠q.num.natAbs:=SG hb1;refine BC ?_;refine(Bu []) (xR) ?_;refine aW 35 (Q 0) rfl xO.symm ?_;refine Ss 1 ?_;refine A5 ?_;refine bg rfl (bf 1 rfl rfl BD (vs:=[_,_,_,_]) rfl rfl (Nat.le_of_ble_eq_true rfl) rfl) (ai rfl) (fun w hL=>⟨?_,hL.below⟩);rw[qjp hs24,if_neg (by decide)];rfl
  ·have hs24:bM q.num.natAbs*bM q.num.natAbs=q.num.natAbs:=SH hb1;refine A4 ?_;refine(Sc [6,6]) (iZ (bM q.den) (bM q.den) (by omega) (by omega) zd zd) (fun td=>?_);refine(Sd [8,3]) (eU (bM q.den*bM q.den) q.den (by omega) td y.2) ?_;refine A4 ?_;refine Cd ?_ ?_<;>intro hb2
   ·have hs33:bM q.den*bM q.den≠q.den:=SG hb2;refine A2 ?_;refine(Bu []) (xR) ?_;refine aW 35 (Q 0) rfl xO.symm ?_;refine Ss 1 ?_;refine A5 ?_;refine bg rfl (bf 1 rfl rfl BD (vs:=[_,_,_,_]) rfl rfl (Nat.le_of_ble_eq_true rfl) rfl) (ai rfl) (fun w hL=>⟨?_,hL.below⟩);rw[qjq hs33,if_neg (by decide)];rfl
   ·have hs33:bM q.den*bM q.den=q.den:=SH hb2;refine A6 ?_;refine(Bu [(0,_),(1,_),(2,_)]) (uQ) ?_;refine(Sd [5,6]) (iC (bM q.num.natAbs) (bM q.den) false (YJ q hs33) (by omega) (by omega) zn zd) ?_;refine Ss 1 ?_;refine A4 ?_;refine bg rfl (bf 1 rfl rfl BD (vs:=[_,_,_,_]) rfl rfl (Nat.le_of_ble_eq_true rfl) rfl) (ai rfl) (fun w hL=>⟨?_,hL.below⟩);rw[qjr hs17 hs24 hs33,if_pos rfl];rfl
def Pq(f:Qd)(t:Rat)(hf:uk f<=500000:=by omega)(ht:bP t<=500000:=by omega):aH Tryz.prog 80 #[qL f,Q t] (Q (ry f t)):=by
 have f0:=Nat.le_trans (o6 f) hf;have f1:=Nat.le_trans (o7 f) hf;have f2:=Nat.le_trans (pV f) hf;have l1:=aK t f.c2;have l2:=bC f.c1 (t*f.c2);have l3:=aK t (f.c1+t*f.c2);refine nG 17 Tryz.func80 fun w=>?_;refine A2 ?_;refine Bp 12 (fun g0=>?_);refine Bp 4 (fun g1=>?_);refine Al 4 pM (fun g2=>?_);refine A3 ?_;refine Di [] ?_;refine A1 ?_;refine L4 0 0 ?_;refine L4 1 0 ?_;refine A1 ?_;refine L4 0 4 ?_;refine L4 1 0 ?_;refine A1 ?_;refine L4 0 8 ?_;refine Pc (dD t f.c2) ?_;refine Pc (fU f.c1 (t*f.c2)) ?_;refine Pc (dD t (f.c1+t*f.c2)) ?_;refine Pc (fU f.c0 (t*(f.c1+t*f.c2))) ?_;refine Ss 2 ?_;refine A3 ?_;refine GL 2 ?_;exact rfl
def J8(f:Qd)(t:Rl)(hf:uk f<=100000:=by omega)(ht:ik t<=100000:=by omega):aH Tryz.prog 99 #[qL f,RV t] (qL (lD f t)):=by
 have f0:=Nat.le_trans (o6 f) hf;have f1:=Nat.le_trans (o7 f) hf;have f2:=Nat.le_trans (pV f) hf;have t1:=Nat.le_trans (rD t) ht;have t2:=Nat.le_trans (xg t) ht;have l1:=aK t.p t.p;have l2:=bz t.r (t.p*t.p);have l3:=aK f.c2 (t.r-t.p*t.p);have l4:=aK t.p f.c2;have l5:=aK 2 (t.p*f.c2);have l6:=EJ;refine nG 41 Tryz.func99 fun w=>?_;refine A2 ?_;refine Bp 12 (fun g0=>?_);refine Bp 9 (fun g1=>?_);refine Al 12 Hq (fun g2=>?_);refine A6 ?_;refine L4 1 4 ?_;refine Pc (kS t.r) ?_;refine A3 ?_;refine Cd ?_ ?_<;>intro hb0
 ·have hs9:=eq_of_beq hb0;refine A2 ?_;refine uD 0 0 ?_;refine A1 ?_;refine L4 1 0 ?_;refine Pc (Pq f t.p) ?_;refine(Bu [(0,_)]) (ZY) ?_;refine Ss 2 ?_;refine A4 ?_;refine Jz 2 ?_;rw[qhx hs9,NE]
 ·have hs9:=ne_of_beq_false hb0;refine A4 ?_;refine Pc (gu 2 1) ?_;refine aW 15 (Q 2) rfl (congrArg Q qjn) ?_;refine Al 4 pM (fun g3=>?_);refine Ss 3 ?_;refine A3 ?_;refine Dp [] [0,1,2,3,4,5,6,7,8,9,14,15,16,17,18,19,20,10,11,12,13,21,22,23,24,25] ?_ (hc:=(lW [0,1,0,4,0,16,0,64,0,256,960,2032,4092,8191,0,16384,0,0,131072,0,524288,1982463,4145151,8388607,16777215,33554431] (by kernel_rfl)));refine A1 ?_;refine L4 0 0 ?_;refine A1 ?_;refine L4 0 8 ?_;refine A1 ?_;refine L4 1 4 ?_;refine A1 ?_;refine L4 1 0 ?_;refine A1 ?_;refine L4 1 0 ?_;refine A1 ?_;refine L4 0 4 ?_;refine L4 3 0 ?_;refine A1 ?_;refine L4 1 0 ?_;refine A1 ?_;refine L4 0 8 ?_;refine Pc (dD t.p t.p) ?_;refine Pc (jJ t.r (t.p*t.p)) ?_;refine Pc (dD f.c2 (t.r-t.p*t.p)) ?_;refine Pc (fU f.c0 (f.c2*(t.r-t.p*t.p))) ?_;refine Pc (dD t.p f.c2) ?_;refine Pc (dD 2 (t.p*f.c2)) ?_;refine Pc (fU f.c1 (2*(t.p*f.c2))) ?_;refine(Bu [(0,_),(1,_)]) (ZZ) ?_;refine Ss 2 ?_;refine A3 ?_;refine Jz 2 ?_;rw[qhy hs9,WH]
def BR(a:Rat)(u:Int)(r:Rat)(hu:u= -1∨u=0∨u=1)(ha:bP a<=1000000:=by omega)(hr:bP r<=1000000:=by omega):aH Tryz.prog 109 #[Q a,.int .i64 u,Q r] (.int .i64 (jv a u r)):=by
 have l1:=aK a a;refine pB3 35 Tryz.func109 fun w=>?_;refine A2 ?_;refine Bp 4 (fun g0=>?_);refine Bp 4 (fun g1=>?_);refine A4 ?_;refine Dp [2000000] [0,2,3,1,4,5,6,7] ?_;refine L4 0 0 ?_;refine A1 ?_;refine L4 1 0 ?_;refine Pc (kS a) ?_;refine Pc (kS r) ?_;refine(Aq (u*cO r)) (congrArg some (w3 hu (Dj r))) ?_;refine BC ?_;refine Cd ?_ ?_<;>intro hb0
 ·have hs15:=eq_of_beq hb0;refine A9 ?_;refine E0 ?_;rw[qeL hs15]
 ·have hs15:=ne_of_beq_false hb0;refine A5 ?_;refine Rs 22 ?_ ?_<;>intro hb1
  ·have hs22:=eq_of_beq hb1;refine Qe ?_;refine E0 ?_;rw[WO hs15 (.inl hs22)];rfl
  ·have hs22:=ne_of_beq_false hb1;refine A7 ?_;refine Cd ?_ ?_<;>intro hb2
   ·have hs19:=eq_of_beq hb2;refine A9 ?_;refine E0 ?_;rw[WO hs15 (.inr hs19)];rfl
   ·have hs19:=ne_of_beq_false hb2;refine A4 ?_;refine Dp [] [0,1,2,4,3,5,6,7] ?_;refine A1 ?_;refine L4 0 0 ?_;refine L4 0 0 ?_;refine L4 1 0 ?_;refine Pc (dD a a) ?_;refine Pc (HY (a*a) r) ?_;refine(Aq (cO a*l9 (a*a) r)) (congrArg some (w3 (Dj a) (qbb _ _))) ?_;refine A4 ?_;refine E0 ?_;rw[qeM hs15 hs22 hs19]
def EQ(x:Rl):aH Tryz.prog 56 #[RV x] (.int .i64 (mJ x)):=by
 refine uU 5 Tryz.func56 fun w=>?_;refine A2 ?_;refine Bp 9 (fun g0=>?_);refine kL ?_;refine Cd ?_ ?_<;>intro hb0
 ·refine A7 ?_;refine E0 ?_;rw[mJ,if_pos hb0]
 ·refine A8 ?_;refine E0 ?_;rw[mJ,if_neg (by rw[hb0];decide)]
def Lt(a:Rat)(u:Int)(r:Rat)(v:Int)(s:Rat)(hu:u= -1∨u=0∨u=1)(hv:v= -1∨v=0∨v=1)(ha:bP a<=200000:=by omega)(hr:bP r<=200000:=by omega)(hs:bP s<=200000:=by omega):aH Tryz.prog 54 #[Q a,.int .i64 u,Q r,.int .i64 v,Q s] (.int .i64 (Lr a u r v s)):=by
 have l1:=aK a a;have l2:=bC (a*a) r;have l3:=bz (a*a+r) s;have l4:=aK (a*a) r;have l5:=aK 4 (a*a*r);have l6:=qbt;have m1:=qbr a r hu;have m2:=m3 hv (Dj s);have m3_:=m3 hu (Dj a);refine pB5 60 Tryz.func54 fun w=>?_;refine A2 ?_;refine Bp 4 (fun g0=>?_);refine Bp 4 (fun g1=>?_);refine Bp 4 (fun g2=>?_);refine A4 ?_;refine Dp [2000000] [0,1,2,4,5,3,6,7,8,9] ?_;refine L4 0 0 ?_;refine A1 ?_;refine L4 1 0 ?_;refine A1 ?_;refine L4 2 0 ?_;refine Pc (BR a u r hu) ?_;refine Pc (kS s) ?_;refine(Aq (v*cO s)) (congrArg some (w3 hv (Dj s))) ?_;refine lK ?_;refine Rs 27 ?_ ?_<;>intro hb0
 ·have hs27:jv a u r≠v*cO s:=by have e:=hb0;simpa using e
  refine y8 ?_;refine Cd ?_ ?_<;>intro hb1
  ·have hs33:v*cO s<jv a u r:=of_decide_eq_true hb1;refine A9 ?_;refine E0 ?_;rw[WP (.inl hs27) hs33]
  ·have hs33:¬v*cO s<jv a u r:=of_decide_eq_false hb1;refine A6 ?_;refine(Aq (jv a u r-v*cO s)) (by exact(congrArg some (wi (by omega) (by omega) rfl))) ?_;refine A6 ?_;refine E0 ?_;rw[WQ (.inl hs27) hs33]
 ·have hs27:jv a u r=v*cO s:=by have e:=hb0;simpa using e
  refine A6 ?_;refine Cd ?_ ?_<;>intro hb1
  ·have hs29:jv a u r=0:=eq_of_beq hb1;refine A8 ?_;refine Cd ?_ ?_<;>intro hb2
   ·have hs33:v*cO s<jv a u r:=of_decide_eq_true hb2;refine A9 ?_;refine E0 ?_;rw[WP (.inr hs29) hs33]
   ·have hs33:¬v*cO s<jv a u r:=of_decide_eq_false hb2;refine A6 ?_;refine(Aq (jv a u r-v*cO s)) (by exact(congrArg some (wi (by omega) (by omega) rfl))) ?_;refine A6 ?_;refine E0 ?_;rw[WQ (.inr hs29) hs33]
  ·have hs29:jv a u r≠0:=ne_of_beq_false hb1;refine A4 ?_;refine Dq [3000000] [0,1,3,2,4,5,6] ?_;refine L4 0 0 ?_;refine L4 0 0 ?_;refine L4 1 0 ?_;refine Pc (dD a a) ?_;refine Pc (fU (a*a) r) ?_;refine Al 4 pM (fun g3=>?_);refine Ss 3 ?_;refine A3 ?_;refine Dq [3000000] [1,2,4,0,3,5,6,7,8] ?_;refine L4 0 0 ?_;refine L4 0 0 ?_;refine L4 1 0 ?_;refine Pc (gu 4 1) ?_;refine aW 42 (Q 4) rfl (congrArg Q qk6) ?_;refine Pc (dD a a) ?_;refine Pc (dD (a*a) r) ?_;refine Pc (dD 4 (a*a*r)) ?_;refine Al 4 pM (fun g4=>?_);refine Ss 4 ?_;refine A3 ?_;refine Dp [] [0,1,2,4,5,8,3,6,7,9,10,11] ?_;refine A1 ?_;refine L4 3 0 ?_;refine L4 2 0 ?_;refine A1 ?_;refine L4 0 0 ?_;refine L4 4 0 ?_;refine Pc (jJ (a*a+r) s) ?_;refine Pc (kS a) ?_;refine(Aq (u*cO a)) (congrArg some (w3 hu (Dj a))) ?_;refine Pc (BR (a*a+r-s) (u*cO a) (4*(a*a*r)) m3_) ?_;refine(Aq (jv a u r*jv (a*a+r-s) (u*cO a) (4*(a*a*r)))) (congrArg some (w3 m1 (qbr _ _ m3_))) ?_;refine A4 ?_;refine E0 ?_;rw[qeN (fun e=>e hs27) hs29]
def ER(f g:Ln)(hf:iV f<=100000:=by omega)(hg:iV g<=100000:=by omega):aH Tryz.prog 45 #[wH f,wH g] (qL (d2 f g)):=by
 have f0:=Nat.le_trans (qP f) hf;have f1:=Nat.le_trans (qQ f) hf;have f2:=Nat.le_trans (qR f) hf;have f3:=Nat.le_trans (qU f) hf;have g0:=Nat.le_trans (qP g) hg;have g1:=Nat.le_trans (qQ g) hg;have g2:=Nat.le_trans (qR g) hg;have g3:=Nat.le_trans (qU g) hg;have s0:=bz f.x0 g.x0;have s1:=bz f.x1 g.x1;have s2:=bz f.y0 g.y0;have s3:=bz f.y1 g.y1;have m0:=aK (f.x0-g.x0) (f.x0-g.x0);have m1:=aK (f.y0-g.y0) (f.y0-g.y0);have m2:=aK (f.x0-g.x0) (f.x1-g.x1);have m3:=aK (f.y0-g.y0) (f.y1-g.y1);have m4:=aK (f.x1-g.x1) (f.x1-g.x1);have m5:=aK (f.y1-g.y1) (f.y1-g.y1);have m7:=bC ((f.x0-g.x0)*(f.x1-g.x1)) ((f.y0-g.y0)*(f.y1-g.y1));have z2:=EJ;refine nG 55 Tryz.func45 fun w=>?_;refine A2 ?_;refine Bp 16 (fun g0=>?_);refine Bp 16 (fun g1=>?_);refine Al 12 Hq (fun g2=>?_);refine A3 ?_;refine Fv (l':=[⟨_,_,_,_,_,_⟩,⟨_,_,_,_,_,_⟩,⟨_,_,_,_,_,_⟩,⟨_,_,_,_,_,_⟩,⟨_,_,_,_,_,_⟩,⟨_,_,_,_,_,_⟩,⟨_,_,_,_,_,_⟩,⟨_,_,_,_,_,_⟩,⟨_,_,_,_,_,_⟩,⟨_,_,_,_,_,_⟩,⟨_,_,_,_,_,_⟩,⟨_,_,_,_,_,_⟩,⟨_,_,_,_,_,_⟩,⟨_,_,_,_,_,_⟩,⟨_,_,_,_,_,_⟩,⟨_,_,_,_,_,_⟩,⟨_,_,_,_,_,_⟩,⟨_,_,_,_,_,_⟩,⟨_,_,_,_,_,_⟩,⟨_,_,_,_,_,_⟩,⟨_,_,_,_,_,_⟩,⟨_,_,_,_,_,_⟩,⟨_,_,_,_,_,_⟩,⟨_,_,_,_,_,_⟩,⟨_,_,_,_,_,_⟩,⟨_,_,_,_,_,_⟩,⟨_,_,_,_,_,_⟩,⟨_,_,_,_,_,_⟩]) [3000000] [0,1,2,3,5,6,7,8,10,11,12,13,15,16,17,18,4,9,14,19,20,21,22,23,24,25,26,27] mixed (Vu [0,1,0,4,15,0,32,0,128,511,0,1024,0,4096,16383,0,32768,0,131072,524287,0,0,0,0,16777215,33554431,67108863,134217727] (by kernel_rfl)) rfl ?_;refine A1 ?_;refine L4 0 0 ?_;refine A1 ?_;refine L4 1 0 ?_;refine A1 ?_;refine L4 0 4 ?_;refine A1 ?_;refine L4 1 4 ?_;refine A1 ?_;refine L4 0 8 ?_;refine A1 ?_;refine L4 1 8 ?_;refine A1 ?_;refine L4 0 12 ?_;refine A1 ?_;refine L4 1 12 ?_;refine Pc (jJ f.x0 g.x0) ?_;refine Pc (jJ f.x1 g.x1) ?_;refine Pc (jJ f.y0 g.y0) ?_;refine Pc (jJ f.y1 g.y1) ?_;refine Al 4 pM (fun g3=>?_);refine Al 4 pM (fun g4=>?_);refine Al 4 pM (fun g5=>?_);refine Al 4 pM (fun g6=>?_);refine Ss 3 ?_;refine Ss 4 ?_;refine Ss 5 ?_;refine Ss 6 ?_;refine A4 ?_;refine Pc (gu 2 1) ?_;refine aW 30 (Q 2) rfl (congrArg Q qjn) ?_;refine Al 4 pM (fun g7=>?_);refine Ss 7 ?_;refine A3 ?_;refine Dp [] [0,1,3,4,7,8,9,11,12,16,17,19,20,2,5,6,10,13,14,15,18,21,22,23,24] ?_ (hc:=(lW [0,0,3,0,0,31,63,0,0,0,895,0,0,8063,16255,32767,0,0,262143,0,0,2097151,4194303,8388607,16777215] (by kernel_rfl)));refine L4 3 0 ?_;refine L4 3 0 ?_;refine L4 5 0 ?_;refine L4 5 0 ?_;refine L4 7 0 ?_;refine L4 3 0 ?_;refine L4 4 0 ?_;refine L4 5 0 ?_;refine L4 6 0 ?_;refine L4 4 0 ?_;refine L4 4 0 ?_;refine L4 6 0 ?_;refine L4 6 0 ?_;refine Pc (dD (f.x0-g.x0) (f.x0-g.x0)) ?_;refine Pc (dD (f.y0-g.y0) (f.y0-g.y0)) ?_;refine Pc (fU ((f.x0-g.x0)*(f.x0-g.x0)) ((f.y0-g.y0)*(f.y0-g.y0))) ?_;refine Pc (dD (f.x0-g.x0) (f.x1-g.x1)) ?_;refine Pc (dD (f.y0-g.y0) (f.y1-g.y1)) ?_;refine Pc (fU ((f.x0-g.x0)*(f.x1-g.x1)) ((f.y0-g.y0)*(f.y1-g.y1))) ?_;refine Pc (dD 2 ((f.x0-g.x0)*(f.x1-g.x1)+(f.y0-g.y0)*(f.y1-g.y1))) ?_;refine Pc (dD (f.x1-g.x1) (f.x1-g.x1)) ?_;refine Pc (dD (f.y1-g.y1) (f.y1-g.y1)) ?_;refine Pc (fU ((f.x1-g.x1)*(f.x1-g.x1)) ((f.y1-g.y1)*(f.y1-g.y1))) ?_;refine(Bu [(0,_),(1,_),(2,_)]) (FN) ?_;refine Ss 2 ?_;refine A3 ?_;refine Jz 2 ?_;exact rfl
def ut(l:List PU)(lb:Option Nat)(lN lc:Nat)(hlc:l.length<=lc:=by omega)(hln:l.length<=1000:=by omega):bZ Tryz.prog 91 [⟨lb,100,ak aQ l,lN,false⟩] [aI lb 0 l.length lc] (SR ((id) l).length) SR.v (fun z=>[⟨z.b,201,ak aQ ((id) l),z.n,true⟩]):=by
 refine QF 22 Tryz.func91 fun w hL0=>?_;refine A19 ?_;refine El (ι:={z:Nat×List PU×Option Nat×Nat×Nat // z.1<=l.length∧z.2.1=(id) (l.take z.1)∧z.2.1.length<=z.2.2.2.2∧z.2.2.2.2*36<=z.2.2.2.1}) (fun⟨⟨i,o,ob,oN,oc⟩,hi,hI,h3,h4⟩=>([(3,aI ob 0 o.length oc),(6,aI lb 0 l.length lc),(7,bV (l.length)),(8,bV i)],[⟨lb,100,ak aQ l,lN,false⟩,⟨ob,201,ak aQ o,oN,true⟩],l.length-i)) ⟨⟨0,[],none,0,0⟩,Nat.zero_le _,rfl,Nat.le_refl _,by simp⟩ ?_ (hL:=(aj [some 0,none] ⟨pR,⟨rfl,rfl,rfl⟩,trivial⟩ rfl rfl));rintro⟨⟨i,o,ob,oN,oc⟩,hi,hI,h3,h4⟩;(try dsimp only);replace hi:i<=l.length:=hi;replace hI:o=(id) (l.take i):=hI;replace h3:o.length<=oc:=h3;replace h4:oc*36<=oN:=h4
 have hol:o.length<=100000:=(by rw[hI];simp;omega);refine A6 ?_;refine Cd ?_ ?_<;>intro hb1
 ·have hlt:i<l.length:=(by have:=of_decide_eq_true hb1;omega);obtain⟨x,hx⟩:∃x,l[i]? =some x:=⟨l[i],List.getElem?_eq_getElem hlt⟩;refine gm 0 rfl (aC.ne (by decide) (by omega)) (fun hbs=>?_);obtain⟨gl,hgl⟩:=Option.isSome_iff_exists.1 hbs;replace hgl:lb=some gl:=hgl;subst hgl;refine A6 ?_;refine au 0 ((i)*36) Qx GK rfl rfl rfl rfl rfl (by omega) (by omega) (aC.ne (by decide) (by omega)) (by show 0+Int.toNat _*36=_;omega) ?_;refine bn (v:=UQ x) 0 ((i)*36) _ rfl rfl rfl rfl GK (aC.sub hx 0 36 (by decide)) rfl (by decide) rfl ?_;refine Al 36 qkw (fun g0=>?_);refine Ss 2 ?_;refine A5 ?_;refine xC 2 0 ?_;refine A1 ?_;refine X7 2 20 ?_;refine(Bu [(0,_),(1,_)]) (D6) ?_;refine(Bl 36 [(0,_)]) (qJ) (fun g1=>?_);refine(Qa (s:=36) (len:=o.length) (n2:=1) 1 3 (fun r=>[_,⟨some r.g,201,ak aQ o++aQ (x),r.n,true⟩,_,_]) ku zx) (aC.length o) h3 h4 (aC.one (x)) (fun r=>?_);refine A5 ?_;refine Ar (((i+1:Nat):Int)) ?_;refine A3 ?_;exact Nl ⟨⟨i+1,o++[x],some r.g,r.n,r.cap⟩,hlt,by show o++[x]=l.take (i+1);rw[hI];exact fB hx,by rw[List.length_append];exact r.h,r.hn⟩ (hμ:=(by show l.length-(i+1)<l.length-i;omega)) (ht:=⟨(aB rfl (by rw[List.length_append];rfl)),rfl,rfl,rfl,trivial⟩) (hL:=(aj [some 0,some 1] ⟨pR,⟨_,rfl,aP (by rw[bD])⟩,trivial⟩ rfl rfl))
 ·have hge:i=l.length:=(by have:=of_decide_eq_false hb1;omega);subst hge;obtain rfl:o=(id) l:=by rw[hI,List.take_length]
  refine lK ?_;refine aO rfl (ai rfl) (fun w hL=>⟨⟨ob,oN,oc,h3⟩,?_,hL.pk [some 1]⟩);exact rfl
def rJ(x y:Rl)(hx:ik x<=50000:=by omega)(hy:ik y<=50000:=by omega):aH Tryz.prog 20 #[RV x,RV y] (.int .i64 (bH x y)):=by
 have x1:=Nat.le_trans (rD x) hx;have x2:=Nat.le_trans (xg x) hx;have y1:=Nat.le_trans (rD y) hy;have y2:=Nat.le_trans (xg y) hy;have l1:=bz x.p y.p;have hcm:=qej x y;refine nG 26 Tryz.func20 fun w=>?_;refine A2 ?_;refine Bp 9 (fun g0=>?_);refine Bp 9 (fun g1=>?_);refine A4 ?_;refine Dp [] [0,1,2,3,5,7,8,9,11,12,4,6,10,13,14] ?_;refine A1 ?_;refine L4 0 0 ?_;refine A1 ?_;refine L4 1 0 ?_;refine L9 0 0 ?_;refine A1 ?_;refine L4 0 4 ?_;refine L9 1 0 ?_;refine A1 ?_;refine L4 1 4 ?_;refine Pc (jJ x.p y.p) ?_;refine Pc (EQ x) ?_;refine Pc (EQ y) ?_;refine Pc (Lt (x.p-y.p) (mJ x) x.r (mJ y) y.r (qbs x) (qbs y)) ?_;refine lK ?_;refine Cd ?_ ?_<;>intro hb0
 ·refine A8 ?_;refine E0 ?_;rw[<-hcm,qaW,if_pos (of_decide_eq_true hb0)]
 ·refine A7 ?_;refine Cd ?_ ?_<;>intro hb1
  ·refine A8 ?_;refine E0 ?_;rw[<-hcm,qaW,if_neg (of_decide_eq_false hb0),if_pos (of_decide_eq_true hb1)]
  ·refine A9 ?_;refine E0 ?_;rw[<-hcm,qaW,if_neg (of_decide_eq_false hb0),if_neg (of_decide_eq_false hb1)]
def J9(i:Iv)(t:Rl)(hi:kT i<=50000:=by omega)(ht:ik t<=50000:=by omega):aH Tryz.prog 52 #[mG i,RV t] (.bool (xh i t)):=by
 have i1:=Nat.le_trans (lg i) hi;have i2:=Nat.le_trans (kH i) hi;refine nG 39 Tryz.func52 fun w=>?_;refine A2 ?_;refine Bp 20 (fun g0=>?_);refine Bp 9 (fun g1=>?_);refine A4 ?_;refine Dp [] [0,1,2,4,5,6,3,7,8,9] ?_;refine A1 ?_;refine L9 0 0 ?_;refine L9 1 0 ?_;refine L9 1 0 ?_;refine A1 ?_;refine L9 0 9 ?_;refine Pc (rJ i.f t (by omega) ht) ?_;refine Pc (rJ t i.t ht) ?_;refine A9 ?_;refine Rs 17 ?_ ?_<;>intro hb0
 ·refine lK ?_;refine Rs 29 ?_ ?_<;>intro hb1
  ·refine BC ?_;refine E0 ?_;exact eB (by unfold xh;first|(simp_all;done)|(simp_all;omega)|(simp_all;intros;omega))
  ·refine A3 ?_;refine Rs 32 ?_ ?_<;>intro hb2
   ·refine kL ?_;refine E0 ?_;exact eB (by unfold xh;first|(simp_all;done)|(simp_all;omega)|(simp_all;intros;omega))
   ·refine kL ?_;refine E0 ?_;exact eB (by unfold xh;first|(simp_all;done)|(simp_all;omega)|(simp_all;intros;omega))
 ·refine A3 ?_;refine Rs 20 ?_ ?_<;>intro hb1
  ·refine A6 ?_;refine Rs 26 ?_ ?_<;>intro hb2
   ·refine A3 ?_;refine Rs 29 ?_ ?_<;>intro hb3
    ·refine BC ?_;refine E0 ?_;exact eB (by unfold xh;first|(simp_all;done)|(simp_all;omega)|(simp_all;intros;omega))
    ·refine A3 ?_;refine Rs 32 ?_ ?_<;>intro hb4
     ·refine kL ?_;refine E0 ?_;exact eB (by unfold xh;first|(simp_all;done)|(simp_all;omega)|(simp_all;intros;omega))
     ·refine kL ?_;refine E0 ?_;exact eB (by unfold xh;first|(simp_all;done)|(simp_all;omega)|(simp_all;intros;omega))
   ·refine KZ ?_;refine E0 ?_;exact eB (by unfold xh;first|(simp_all;done)|(simp_all;omega)|(simp_all;intros;omega))
  ·refine A22 ?_;refine E0 ?_;exact eB (by unfold xh;first|(simp_all;done)|(simp_all;omega)|(simp_all;intros;omega))
def U0(p r:Rat)(n:Bool)(hp:bP p<=1000000:=by omega)(hr:bP r<=1000000:=by omega):aH Tryz.prog 100 #[Q p,Q r,.bool n] (RV (ofM p r n)):=by
 have l1:=EK r;have l2:=dn (fP r);refine pB3 26 Tryz.func100 fun w=>?_;refine A2 ?_;refine Bp 4 (fun g0=>?_);refine Bp 4 (fun g1=>?_);refine Al 9 MC (fun g2=>?_);refine A5 ?_;refine L4 1 0 ?_;refine Pc (EP r) ?_;refine A3 ?_;refine Al 4 pM (fun g3=>?_);refine Ss 3 ?_;refine A8 ?_;refine Cd ?_ ?_<;>intro hb0
 ·have hs14:qw r=true:=hb0;refine A6 ?_;refine Cd ?_ ?_<;>intro hb1
  ·have hs15:n=true:=hb1;refine A1 ?_;refine L4 3 0 ?_;refine aW 16 (Q (fP r)) rfl (by rw[hs14,if_pos rfl];rfl) ?_;refine Pc (G7 (fP r)) ?_;refine Ss 3 ?_;refine A4 ?_;refine L4 0 0 ?_;refine L4 3 0 ?_;refine Pc (fU p (-fP r)) ?_;refine(Bu [(0,_)]) (zu) ?_;refine Ss 2 ?_;refine A4 ?_;refine QG 2 ?_;rw[ofM,hs14,if_pos rfl,if_pos hs15,G8]
  ·have hs15:n=false:=hb1;refine A4 ?_;refine L4 0 0 ?_;refine L4 3 0 ?_;refine aW 19 (Q (fP r)) rfl (by rw[hs14,if_pos rfl];rfl) ?_;refine Pc (fU p (fP r)) ?_;refine(Bu [(0,_)]) (zu) ?_;refine Ss 2 ?_;refine A4 ?_;refine QG 2 ?_;rw[ofM,hs14,if_pos rfl,if_neg (by rw[hs15];decide),G8]
 ·have hs14:qw r=false:=hb0;refine A4 ?_;refine L4 0 0 ?_;refine L4 1 0 ?_;refine A1 ?_;refine(Bu [(0,_),(1,_),(2,_)]) (Ov) ?_;refine Ss 2 ?_;refine A3 ?_;refine QG 2 ?_;rw[ofM,hs14,if_neg (by decide)];rfl
def U1(f:Qd)(t:Rl)(h0:t.ok)(hf:uk f<=10000:=by omega)(ht:ik t<=10000:=by omega):aH Tryz.prog 46 #[qL f,RV t] (RV (F8 f t)):=by
 have hz:=qbu hf ht;have z0:=Nat.le_trans (o6 (lD f t)) hz;have z1:=Nat.le_trans (o7 (lD f t)) hz;have t1:=Nat.le_trans (rD t) ht;have t2:=Nat.le_trans (xg t) ht;have l1:=aK (lD f t).c1 t.p;have l2:=bC (lD f t).c0 ((lD f t).c1*t.p);have l3:=aK (lD f t).c1 (lD f t).c1;have l4:=aK ((lD f t).c1*(lD f t).c1) t.r;refine nG 35 Tryz.func46 fun w=>?_;refine A2 ?_;refine Bp 12 (fun g0=>?_);refine Bp 9 (fun g1=>?_);refine Al 9 MC (fun g2=>?_);refine A4 ?_;refine uD 0 0 ?_;refine L9 1 0 ?_;refine Pc (J8 f t) ?_;refine Al 12 Hq (fun g3=>?_);refine Ss 3 ?_;refine A3 ?_;refine Dq [3000000] [0,1,2,3,4,5,6,7,8,9] ?_;refine A1 ?_;refine L4 3 0 ?_;refine A1 ?_;refine L4 3 4 ?_;refine A1 ?_;refine L4 1 0 ?_;refine Pc (dD (lD f t).c1 t.p) ?_;refine Pc (fU (lD f t).c0 ((lD f t).c1*t.p)) ?_;refine Al 4 pM (fun g4=>?_);refine Ss 4 ?_;refine A3 ?_;refine Dp [] [0,1,2,3,4,6,7,9,10,11,12,5,8,13,14,15,16,17] ?_;refine L4 4 0 ?_;refine A1 ?_;refine L4 3 4 ?_;refine A1 ?_;refine L4 3 4 ?_;refine A1 ?_;refine L4 1 4 ?_;refine A3 ?_;refine L4 3 4 ?_;refine Pc (dD (lD f t).c1 (lD f t).c1) ?_;refine Pc (dD ((lD f t).c1*(lD f t).c1) t.r) ?_;refine Pc (kS (lD f t).c1) ?_;refine A1 ?_;refine ou rfl u4 rfl rfl rfl ?_;refine Pc (U0 ((lD f t).c0+(lD f t).c1*t.p) ((lD f t).c1*(lD f t).c1*t.r) (t.n !=decide (cO (lD f t).c1<0))) ?_;refine Ss 2 ?_;refine A3 ?_;refine QG 2 ?_;rw[<-qg7 h0];rfl
end Go.Proofs.YtaffcpfhedadhaaGreatDoor
namespace Go.Via
open Go
def SN{α:Type}{a b:List α}(h:a.take a.length=b.take a.length)(hl:a.length=b.length):a=b:=by
 rw[List.take_length,hl,List.take_length] at h;exact h
def zRc:List Value:=[aU,aV,aU,aV,aU,aV,aU,aV,.bool false]
def qbv:Fb (rl 0)=zRc:=by
 have:=WI;unfold RV at this
 injection this with h
 have h2:=congrArg Array.toList h;exact h2
def Pv{x y:Rl}{n:Nat}(hx:ik x<=n)(hy:ik y<=n):ik (jL x y)<=n:=by rcases Ph x y with e|e<;>rw[e]<;>assumption
def Y2(x y:Rat):Qd:=⟨x*x,x*y+y*x,x*0+0*x+y*y⟩
def qhz(f g:Ln):(⟨(Y2 (f.x0-g.x0) (f.x1-g.x1)).c0+(Y2 (f.y0-g.y0) (f.y1-g.y1)).c0,(Y2 (f.x0-g.x0) (f.x1-g.x1)).c1+(Y2 (f.y0-g.y0) (f.y1-g.y1)).c1,(Y2 (f.x0-g.x0) (f.x1-g.x1)).c2+(Y2 (f.y0-g.y0) (f.y1-g.y1)).c2⟩:Qd)=d2 f g:=by
 unfold Y2 d2;dsimp only;congr 1<;>grind
def qeQ{l:List qA}{o:Rl}(h:∀p∈l,ik p.a<=50000∧ik p.b<=50000)(ho:ik o<=50000):ik (l.foldl (fun o x=>jL o (jL x.a x.b)) o)<=50000:=by
 induction l generalizing o with
 |nil=>exact ho
 |cons p l ih=>rw[List.foldl_cons];exact ih (fun q hq=>h q (List.mem_cons_of_mem _ hq)) (Pv ho (Pv (h p (List.mem_cons_self ..)).1 (h p (List.mem_cons_self ..)).2))
def U2{l:List qA}(h0:0<l.length):l.foldl (fun o x=>jL o (jL x.a x.b)) (l[0]'h0).a=fF l:=by
 cases l with
 |nil=>simp at h0
 |cons p l=>rfl
end Go.Via
namespace Go.Proofs.YtaffcpfhedadhaaGreatDoor
open Go Go.Via
def qbw:elW Tryz.prog 151 52 (.agg #[aU,aV,aU,aV,aU,aV,aU,aV,.bool false,aU,aV,aU,aV,aU,aV,aU,aV,.bool false,.bool false,.bool false,aU,aV,aU,aV,aU,aV,aU,aV,aU,aV,aU,aV,aU,aV,aU,aV,aU,aV,aU,aV,aU,aV,aU,aV,aU,aV,aU,aV,aU,aV,aU,aV]):=⟨by kernel_rfl,by decide⟩
end Go.Proofs.YtaffcpfhedadhaaGreatDoor
namespace Go.Via
def BG(x y:PU):Option B3:=(wU x.i y.i).map fun m=>⟨m,x.f,y.f⟩
def BU(x y:PU):Bool:=Ey x.i y.i
theorem IL{x y:PU}(h:jr (dR x.i y.i)=true):(BG x y).toList=[⟨dR x.i y.i,x.f,y.f⟩]:=by unfold BG wU;rw[if_pos h];rfl
theorem qbx{x y:PU}(h:jr (dR x.i y.i)=false):(BG x y).toList=[]:=by unfold BG wU;rw[if_neg (by rw[h];decide)];rfl
theorem U3{α β γ:Type}{mt:α->β->Option γ}{ef:α->β->Bool}{a:List α}{b:List β}{i k:Nat}{x:α}{y:β}(hx:a[i]? =some x)(hy:b[k]? =some y)(h:ef x y=true):gV mt ef (a.drop i) (b.drop k)=(mt x y).toList++gV mt ef (a.drop (i+1)) (b.drop k):=by
 rw[IK hx,IK hy,gV,if_pos h]
theorem U4{α β γ:Type}{mt:α->β->Option γ}{ef:α->β->Bool}{a:List α}{b:List β}{i k:Nat}{x:α}{y:β}(hx:a[i]? =some x)(hy:b[k]? =some y)(h:ef x y=false):gV mt ef (a.drop i) (b.drop k)=(mt x y).toList++gV mt ef (a.drop i) (b.drop (k+1)):=by
 rw[IK hx,IK hy,gV,if_neg (by rw[h];decide)]
theorem SQ{α β γ:Type}{mt:α->β->Option γ}{ef:α->β->Bool}{a:List α}{b:List β}{i k:Nat}(h:a.length<=i∨b.length<=k):gV mt ef (a.drop i) (b.drop k)=[]:=by
 rcases h with h|h
 ·rw[List.drop_of_length_le h];cases b.drop k<;>simp[gV]
 ·rw[List.drop_of_length_le h];cases a.drop i<;>simp[gV]
theorem Ko{α β γ δ:Type}{mt:α->β->Option γ}{ef:α->β->Bool}(f:γ->δ):∀(a:List α) (b:List β),(gV mt ef a b).map f=gV (fun x y=>(mt x y).map f) ef a b
 |[],_=>by simp[gV]
 |_::_,[]=>by simp[gV]
 |x::xs,y::ys=>by
  rw[gV,gV,List.map_append]
  congr 1
  ·cases mt x y<;>rfl
  ·split
   ·exact Ko f xs (y::ys)
   ·exact Ko f (x::xs) ys
termination_by a b=>a.length+b.length
def ES{α β γ:Type}{mt:α->β->Option γ}{ef:α->β->Bool}:∀{a:List α} {b:List β} {z:γ},z∈gV mt ef a b->∃x∈a,∃y∈b,mt x y=some z
 |[],_,z,h=>by simp[gV] at h
 |_::_,[],z,h=>by simp[gV] at h
 |x::xs,y::ys,z,h=>by
  rw[gV] at h;rcases List.mem_append.1 h with h|h
  ·exact⟨x,List.mem_cons_self ..,y,List.mem_cons_self ..,Option.mem_toList.1 h⟩
  ·split at h
   ·obtain⟨u,hu,v,hv,e⟩:=ES h;exact⟨u,List.mem_cons_of_mem _ hu,v,hv,e⟩
   ·obtain⟨u,hu,v,hv,e⟩:=ES h;exact⟨u,hu,v,List.mem_cons_of_mem _ hv,e⟩
termination_by a b=>a.length+b.length
def ET{α β γ:Type}{mt:α->β->Option γ}{ef:α->β->Bool}:∀(a:List α) (b:List β),(gV mt ef a b).length<=a.length+b.length
 |[],_=>by simp[gV]
 |_::_,[]=>by simp[gV]
 |x::xs,y::ys=>by
  rw[gV,List.length_append];have h1:(mt x y).toList.length<=1:=by cases mt x y<;>simp
  split
  ·have:=ET (mt:=mt) (ef:=ef) xs (y::ys);simp only[List.length_cons] at this ⊢;omega
  ·have:=ET (mt:=mt) (ef:=ef) (x::xs) ys;simp only[List.length_cons] at this ⊢;omega
termination_by a b=>a.length+b.length
theorem EU(a b:List PU):(gV BG BU a b).map (fun z=>(z.i,d2 z.f z.g))=ay a b:=by
 rw[Ko];unfold ay
 congr 1
 funext x y
 unfold BG Dx;cases wU x.i y.i<;>rfl
def WR{x y:Rat}{n:Nat}(hx:bP x<=n)(hy:bP y<=n):uk (Y2 x y)<=4*n+10:=by
 have z:=vk;unfold Y2;refine Gi ?_ ?_ ?_<;>dsimp only
 ·have:=aK x x;omega
 ·have:=aK x y;have:=aK y x;have:=bC (x*y) (y*x);omega
 ·have:=aK x 0;have:=aK 0 x;have:=aK y y;have:=bC (x*0) (0*x);have:=bC (x*0+0*x) (y*y);omega
def He(l:List PU):Prop:=∀u∈l,kT u.i<=100∧iV u.f<=100
theorem He.v{l:List PU}(h:He l):∀u∈l,kT u.i<=50000:=fun u hu=>Nat.le_trans (h u hu).1 (by omega)
def qfK{a b:List PU}(ha:He a)(hb:He b):∀z∈gV BG BU a b,kT z.i<=100∧iV z.f<=100∧iV z.g<=100:=fun z hz=>by
 obtain⟨x,hx,y,hy,e⟩:=ES hz;unfold BG wU at e
 split at e
 ·simp at e;subst e;exact⟨Sz (ha x hx).1 (hb y hy).1,(ha x hx).2,(hb y hy).2⟩
 ·simp at e
def Bz(a b:List PU):(ay a b).length<=a.length+b.length:=by rw[<-EU,List.length_map];exact ET a b
def EW{a b:List PU}(ha:He a)(hb:He b):∀z∈ay a b,kT z.1<=100∧uk z.2<=820:=fun z hz=>by
 rw[<-EU] at hz;obtain⟨w,hw,rfl⟩:=List.mem_map.1 hz;have:=qfK ha hb w hw;exact⟨this.1,Nat.le_trans (Po this.2.1 this.2.2) (by omega)⟩
end Go.Via
namespace Go.Proofs.YtaffcpfhedadhaaGreatDoor
open Go Go.RowKit Go.Via
variable[Mo]
def qE(a b:ru)(ha:ik a.1<=50000:=by omega)(hb:ik b.1<=50000:=by omega):aH Tryz.prog 148 #[BdV a,BdV b] (.int .i64 (vS a b)):=by
 refine nG 23 Tryz.func148 fun w=>?_;refine A2 ?_;refine Bp 10 (fun g0=>?_);refine Bp 10 (fun g1=>?_);refine A7 ?_;refine L9 0 0 ?_;refine A1 ?_;refine L9 1 0 ?_;refine Pc (dw a.1 b.1 ha hb) ?_;refine A9 ?_;refine Cd ?_ ?_<;>intro hb0
 ·have hs12:bH a.1 b.1≠0:=by have e:=hb0;simpa using e
  refine A8 ?_;refine E0 ?_;rw[vS,if_pos hs12]
 ·have hs12:bH a.1 b.1=0:=by have e:=hb0;simpa using e
  refine kL ?_;refine Fj rfl u4 rfl rfl rfl ?_;refine A3 ?_;refine Cd ?_ ?_<;>intro hb1
  ·have hs19:a.2=b.2:=by have e:=hb1;simpa using e
   refine A8 ?_;refine E0 ?_;rw[vS,if_neg (fun e=>e hs12),if_pos hs19]
  ·have hs19:a.2≠b.2:=by have e:=hb1;simpa using e
   refine A7 ?_;refine Cd ?_ ?_<;>intro hb2
   ·have hs20:b.2=true:=hb2;refine A8 ?_;refine E0 ?_;rw[vS,if_neg (fun e=>e hs12),if_neg hs19,if_pos hs20]
   ·have hs20:b.2=false:=hb2;refine A9 ?_;refine E0 ?_;rw[vS,if_neg (fun e=>e hs12),if_neg hs19,if_neg (by rw[hs20];decide)]
def uu(i:Iv):aH Tryz.prog 149 #[mG i] (BdV i.b):=by
 refine uU 8 Tryz.func149 fun w=>?_;refine A2 ?_;refine Bp 20 (fun g0=>?_);refine Al 10 qgr (fun g1=>?_);refine A5 ?_;refine L9 0 0 ?_;refine A2 ?_;refine(Bu [(0,_),(1,_)]) (VN) ?_;refine Ss 1 ?_;refine A3 ?_;refine qiV 1 ?_;exact rfl
def wE(i:Iv):aH Tryz.prog 150 #[mG i] (BdV i.e):=by
 refine uU 9 Tryz.func150 fun w=>?_;refine A2 ?_;refine Bp 20 (fun g0=>?_);refine Al 10 qgr (fun g1=>?_);refine A5 ?_;refine L9 0 9 ?_;refine A3 ?_;refine(Bu [(0,_),(1,_)]) (VN) ?_;refine Ss 1 ?_;refine A3 ?_;refine qiV 1 ?_;exact rfl
def xx(a b:ru):aH Tryz.prog 194 #[BdV a,BdV b] (mG (Hw a b)):=by
 refine nG 15 Tryz.func194 fun w=>?_;refine A2 ?_;refine Bp 10 (fun g0=>?_);refine Bp 10 (fun g1=>?_);refine Al 20 z61 (fun g2=>?_);refine A5 ?_;refine L9 0 0 ?_;refine A1 ?_;refine L9 1 0 ?_;refine A5 ?_;refine(Bu [(0,_),(1,_),(2,_),(3,_)]) (Oy) ?_;refine Ss 2 ?_;refine A3 ?_;refine qkS 2 ?_;exact rfl
end Go.Proofs.YtaffcpfhedadhaaGreatDoor
namespace Go.Proofs.YtaffcpfhedadhaaGreatDoor
open Go Go.RowKit Go.Via
def iW(x:Rl)(hx:ik x<=5000:=by omega):aH Tryz.prog 51 #[RV x] (.int .i64 (if dN x=true then 0 else 5)):=by
 have x1:=Nat.le_trans (rD x) hx;have x2:=Nat.le_trans (xg x) hx;refine uU 31 Tryz.func51 fun w=>?_;refine A2 ?_;refine Bp 9 (fun g0=>?_);refine A7 ?_;refine L4 0 0 ?_;refine Pc (RQ x.p) ?_;refine A1 ?_;refine Kr 8 (.bool false) ?_;refine A2 ?_;refine L4 0 4 ?_;refine Pc (RQ x.r) ?_;refine A1 ?_;refine Kr 13 (.bool false) ?_;refine kL ?_;refine L4 0 4 ?_;refine Pc (dZ x.r) ?_;refine A9 ?_;refine Cd ?_ ?_<;>intro hb0
 ·have hs18:x.r.num.sign= -1:=eq_of_beq hb0;refine A8 ?_;refine E0 ?_;rw[qbl hs18];rfl
 ·have hs18:x.r.num.sign≠ -1:=ne_of_beq_false hb0;refine A6 ?_;refine Cd ?_ ?_<;>intro hb1
  ·have hs20:x.r.num.sign=0:=eq_of_beq hb1;refine A7 ?_;refine Cd ?_ ?_<;>intro hb2
   ·have hs23:x.n=true:=hb2;refine A9 ?_;refine E0 ?_;rw[NF hs20,hs23];rfl
   ·have hs23:x.n=false:=hb2;refine kL ?_;refine E0 ?_;rw[NF hs20,hs23];rfl
  ·have hs20:x.r.num.sign≠0:=ne_of_beq_false hb1;refine A7 ?_;refine L4 0 4 ?_;refine Pc (yF x.r) ?_;refine A3 ?_;refine Al 4 pM (fun g1=>?_);refine Ss 1 ?_;refine A8 ?_;refine Cd ?_ ?_<;>intro hb2
   ·have hs30:qw x.r=true:=hb2;refine A7 ?_;refine E0 ?_;rw[Su hs18 hs20,hs30];rfl
   ·have hs30:qw x.r=false:=hb2;refine A8 ?_;refine E0 ?_;rw[Su hs18 hs20,hs30];rfl
end Go.Proofs.YtaffcpfhedadhaaGreatDoor
