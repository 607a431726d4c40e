/-
  Part 5 (chapter 32): lemmas, walks. Each theorem states its own conditions.
-/
import Derived.Sort.Grow
import Derived.Sort.EncStr
import Derived.Shelf.SlSortCmp.WholeK
import Derived.Shelf.SlSortCmp.NoneTotal
import Derived.Test.YtaffcpfhedadhaaGreatDoorA02
import Derived.Test.YtaffcpfhedadhaaGreatDoorA03
import Derived.Test.YtaffcpfhedadhaaGreatDoorA04
set_option linter.all false
set_option maxRecDepth 20000
set_option maxHeartbeats 20000000
namespace Go.Proofs.YtaffcpfhedadhaaGreatDoor
variable[Go.Via.Mo]
open Go Go.RowKit Go.Via
def jZ(a b:Nat)(ha:nb a<=1073741000)(hb:nb b<=1073741000)(x:SR (nb a))(y:SR (nb b)):dh Tryz.prog 113 [⟨x.b,3,NV .i64 (D8 a),x.n,false⟩,⟨y.b,3,NV .i64 (D8 b),y.n,false⟩] [x.v,y.v] (SR (nb (a+b))) SR.v (fun x=>[⟨x.b,3,NV .i64 (D8 (a+b)),x.n,true⟩]):=by
 refine VZ 53 Tryz.func113 fun w hL0=>?_;refine A22 ?_;refine El (ι:={x:Nat×Option Nat×Nat×Nat // x.1<=max (nb a) (nb b)+1∧x.1<=x.2.2.2∧x.2.2.2<=x.2.2.1}) (fun⟨⟨i,ob,oN,oc⟩,hi,h1,h2⟩=>([(0,x.v),(1,y.v),(5,az ob 0 i oc),(6,bz (pM a b i)),(7,bz i)],[⟨x.b,3,NV .i64 (D8 a),x.n,false⟩,⟨y.b,3,NV .i64 (D8 b),y.n,false⟩,⟨ob,3,NV .i64 (row i (qE (a+b))),oN,true⟩],max (nb a) (nb b)+1-i)) ⟨(0,none,0,0),Nat.zero_le _,Nat.le_refl _,Nat.le_refl _⟩ ?_ (ht:=⟨rfl,rfl,rfl,(aB rfl (by rw[Yd];rfl)),rfl,trivial⟩) (hL:=(au [some 0,some 1,none] ⟨pR,pR,⟨rfl,rfl,rfl⟩,trivial⟩ rfl rfl));rintro⟨⟨i,ob,oN,oc⟩,hi,h1,h2⟩;(try dsimp only);replace hi:i<=max (nb a) (nb b)+1:=hi;replace h1:i<=oc:=h1;replace h2:oc<=oN:=h2;refine A8 ?_;refine Rs 12 ?_ ?_<;>intro hb1
 ·have hia:i<nb a:=(by have:=of_decide_eq_true hb1;omega);have hmx:i<=max (nb a) (nb b):=by omega
  refine A25 ?_;refine Cd ?_ ?_<;>intro hb2
  ·have hja:i<nb a:=(by have:=of_decide_eq_true hb2;omega);have hcl:=yR a b i;have hax:=kN (a/256^i);have hbx:=kN (b/256^i);have hsl:=BD a b i;refine A4 ?_;refine ai 0 (i) jb uq rfl rfl rfl rfl rfl (by omega) (by omega) (lq (by rw[bY];omega)) (by show 0+Int.toNat _*1=_;omega) ?_;refine(Lo 0 (i)) (by exact(bn (jk (by omega)))) ?_;refine Ar (((pM a b i+a/256^i%256:Nat):Int)) ?_;refine lX ?_;refine Cd ?_ ?_<;>intro hb3
   ·have hjb:i<nb b:=(by have:=of_decide_eq_true hb3;omega);refine A4 ?_;refine ai 1 (i) jb uq rfl rfl rfl rfl rfl (by omega) (by omega) (lq (by rw[bY];omega)) (by show 0+Int.toNat _*1=_;omega) ?_;refine(Lo 1 (i)) (by exact(bn (jk (by omega)))) ?_;refine(Aq ((zx a b i:Nat):Int)) (by exact(congrArg some (wi (by omega) (by omega) (by rw[nU];omega)))) ?_;refine A7 ?_;refine(Dv ((qE (a+b) i:Nat):Int)) (by exact(congrArg some ((eY _ 256 rfl rfl).trans (by rw[lS];rfl)))) ?_;refine(Bl 1 [(0,_)]) (gW) (fun g0=>?_);refine fH (s:=1) (len:=i) (n2:=1) 2 3 (fun r=>[_,_,⟨some r.g,3,NV .i64 (row (i+1) (qE (a+b))),r.n,true⟩,⟨some g0,3,_,1,true⟩]) jb H8 rfl rfl rfl rfl rfl rfl rfl rfl rfl rfl rfl rfl (by rw[aA,ak];omega) (by omega) (by show oc*1<=oN;omega) rfl (Go.Via.one_cell _ _) (by omega) (fun r=>congrArg (fun c=>[_,_,(⟨some r.g,3,c,r.n,true⟩:aG),⟨some g0,3,_,1,true⟩]) (iV _ _ _ _ (rfl))) (fun r=>?_);refine A5 ?_;refine(Dv ((pM a b (i+1):Nat):Int)) (by exact(congrArg some ((mY _ 256 rfl rfl (by omega)).trans (by rw[jc])))) ?_;refine A6 ?_;refine Ar (((i+1:Nat):Int)) ?_;refine A3 ?_;exact Nl ⟨(i+1,some r.g,r.n,r.cap),Nat.succ_le_succ hmx,r.h,by have:=r.hn;show r.cap<=r.n;omega⟩ (hμ:=(by show max (nb a) (nb b)+1-(i+1)<max (nb a) (nb b)+1-i;omega)) (hL:=eG.auto)
   ·have hjb:nb b<=i:=(by have:=of_decide_eq_false hb3;omega);refine dn 6 (bz (zx a b i)) rfl (by rw[nU,jC hjb];rfl) ?_;refine A6 ?_;refine(Dv ((qE (a+b) i:Nat):Int)) (by exact(congrArg some ((eY _ 256 rfl rfl).trans (by rw[lS];rfl)))) ?_;refine(Bl 1 [(0,_)]) (gW) (fun g0=>?_);refine fH (s:=1) (len:=i) (n2:=1) 2 3 (fun r=>[_,_,⟨some r.g,3,NV .i64 (row (i+1) (qE (a+b))),r.n,true⟩,⟨some g0,3,_,1,true⟩]) jb H8 rfl rfl rfl rfl rfl rfl rfl rfl rfl rfl rfl rfl (by rw[aA,ak];omega) (by omega) (by show oc*1<=oN;omega) rfl (Go.Via.one_cell _ _) (by omega) (fun r=>congrArg (fun c=>[_,_,(⟨some r.g,3,c,r.n,true⟩:aG),⟨some g0,3,_,1,true⟩]) (iV _ _ _ _ (rfl))) (fun r=>?_);refine A5 ?_;refine(Dv ((pM a b (i+1):Nat):Int)) (by exact(congrArg some ((mY _ 256 rfl rfl (by omega)).trans (by rw[jc])))) ?_;refine A6 ?_;refine Ar (((i+1:Nat):Int)) ?_;refine A3 ?_;exact Nl ⟨(i+1,some r.g,r.n,r.cap),Nat.succ_le_succ hmx,r.h,by have:=r.hn;show r.cap<=r.n;omega⟩ (hμ:=(by show max (nb a) (nb b)+1-(i+1)<max (nb a) (nb b)+1-i;omega)) (hL:=eG.auto)
  ·have hja:nb a<=i:=(by have:=of_decide_eq_false hb2;omega);have hcl:=yR a b i;have hax:=kN (a/256^i);have hbx:=kN (b/256^i);have hsl:=BD a b i;refine dn 6 (bz (pM a b i+a/256^i%256)) rfl (by rw[jC hja];rfl) ?_;refine oO ?_;refine Cd ?_ ?_<;>intro hb3
   ·have hjb:i<nb b:=(by have:=of_decide_eq_true hb3;omega);refine A4 ?_;refine ai 1 (i) jb uq rfl rfl rfl rfl rfl (by omega) (by omega) (lq (by rw[bY];omega)) (by show 0+Int.toNat _*1=_;omega) ?_;refine(Lo 1 (i)) (by exact(bn (jk (by omega)))) ?_;refine(Aq ((zx a b i:Nat):Int)) (by exact(congrArg some (wi (by omega) (by omega) (by rw[nU];omega)))) ?_;refine A7 ?_;refine(Dv ((qE (a+b) i:Nat):Int)) (by exact(congrArg some ((eY _ 256 rfl rfl).trans (by rw[lS];rfl)))) ?_;refine(Bl 1 [(0,_)]) (gW) (fun g0=>?_);refine fH (s:=1) (len:=i) (n2:=1) 2 3 (fun r=>[_,_,⟨some r.g,3,NV .i64 (row (i+1) (qE (a+b))),r.n,true⟩,⟨some g0,3,_,1,true⟩]) jb H8 rfl rfl rfl rfl rfl rfl rfl rfl rfl rfl rfl rfl (by rw[aA,ak];omega) (by omega) (by show oc*1<=oN;omega) rfl (Go.Via.one_cell _ _) (by omega) (fun r=>congrArg (fun c=>[_,_,(⟨some r.g,3,c,r.n,true⟩:aG),⟨some g0,3,_,1,true⟩]) (iV _ _ _ _ (rfl))) (fun r=>?_);refine A5 ?_;refine(Dv ((pM a b (i+1):Nat):Int)) (by exact(congrArg some ((mY _ 256 rfl rfl (by omega)).trans (by rw[jc])))) ?_;refine A6 ?_;refine Ar (((i+1:Nat):Int)) ?_;refine A3 ?_;exact Nl ⟨(i+1,some r.g,r.n,r.cap),Nat.succ_le_succ hmx,r.h,by have:=r.hn;show r.cap<=r.n;omega⟩ (hμ:=(by show max (nb a) (nb b)+1-(i+1)<max (nb a) (nb b)+1-i;omega)) (hL:=eG.auto)
   ·have hjb:nb b<=i:=(by have:=of_decide_eq_false hb3;omega);refine dn 6 (bz (zx a b i)) rfl (by rw[nU,jC hjb];rfl) ?_;refine A6 ?_;refine(Dv ((qE (a+b) i:Nat):Int)) (by exact(congrArg some ((eY _ 256 rfl rfl).trans (by rw[lS];rfl)))) ?_;refine(Bl 1 [(0,_)]) (gW) (fun g0=>?_);refine fH (s:=1) (len:=i) (n2:=1) 2 3 (fun r=>[_,_,⟨some r.g,3,NV .i64 (row (i+1) (qE (a+b))),r.n,true⟩,⟨some g0,3,_,1,true⟩]) jb H8 rfl rfl rfl rfl rfl rfl rfl rfl rfl rfl rfl rfl (by rw[aA,ak];omega) (by omega) (by show oc*1<=oN;omega) rfl (Go.Via.one_cell _ _) (by omega) (fun r=>congrArg (fun c=>[_,_,(⟨some r.g,3,c,r.n,true⟩:aG),⟨some g0,3,_,1,true⟩]) (iV _ _ _ _ (rfl))) (fun r=>?_);refine A5 ?_;refine(Dv ((pM a b (i+1):Nat):Int)) (by exact(congrArg some ((mY _ 256 rfl rfl (by omega)).trans (by rw[jc])))) ?_;refine A6 ?_;refine Ar (((i+1:Nat):Int)) ?_;refine A3 ?_;exact Nl ⟨(i+1,some r.g,r.n,r.cap),Nat.succ_le_succ hmx,r.h,by have:=r.hn;show r.cap<=r.n;omega⟩ (hμ:=(by show max (nb a) (nb b)+1-(i+1)<max (nb a) (nb b)+1-i;omega)) (hL:=eG.auto)
 ·have hia:nb a<=i:=(by have:=of_decide_eq_false hb1;omega);refine A6 ?_;refine Rs 18 ?_ ?_<;>intro hb2
  ·have hib:i<nb b:=(by have:=of_decide_eq_true hb2;omega);have hmx:i<=max (nb a) (nb b):=by omega
   refine A19 ?_;refine Cd ?_ ?_<;>intro hb3
   ·have hja:i<nb a:=(by have:=of_decide_eq_true hb3;omega);have hcl:=yR a b i;have hax:=kN (a/256^i);have hbx:=kN (b/256^i);have hsl:=BD a b i;refine A4 ?_;refine ai 0 (i) jb uq rfl rfl rfl rfl rfl (by omega) (by omega) (lq (by rw[bY];omega)) (by show 0+Int.toNat _*1=_;omega) ?_;refine(Lo 0 (i)) (by exact(bn (jk (by omega)))) ?_;refine Ar (((pM a b i+a/256^i%256:Nat):Int)) ?_;refine lX ?_;refine Cd ?_ ?_<;>intro hb4
    ·have hjb:i<nb b:=(by have:=of_decide_eq_true hb4;omega);refine A4 ?_;refine ai 1 (i) jb uq rfl rfl rfl rfl rfl (by omega) (by omega) (lq (by rw[bY];omega)) (by show 0+Int.toNat _*1=_;omega) ?_;refine(Lo 1 (i)) (by exact(bn (jk (by omega)))) ?_;refine(Aq ((zx a b i:Nat):Int)) (by exact(congrArg some (wi (by omega) (by omega) (by rw[nU];omega)))) ?_;refine A7 ?_;refine(Dv ((qE (a+b) i:Nat):Int)) (by exact(congrArg some ((eY _ 256 rfl rfl).trans (by rw[lS];rfl)))) ?_;refine(Bl 1 [(0,_)]) (gW) (fun g0=>?_);refine fH (s:=1) (len:=i) (n2:=1) 2 3 (fun r=>[_,_,⟨some r.g,3,NV .i64 (row (i+1) (qE (a+b))),r.n,true⟩,⟨some g0,3,_,1,true⟩]) jb H8 rfl rfl rfl rfl rfl rfl rfl rfl rfl rfl rfl rfl (by rw[aA,ak];omega) (by omega) (by show oc*1<=oN;omega) rfl (Go.Via.one_cell _ _) (by omega) (fun r=>congrArg (fun c=>[_,_,(⟨some r.g,3,c,r.n,true⟩:aG),⟨some g0,3,_,1,true⟩]) (iV _ _ _ _ (rfl))) (fun r=>?_);refine A5 ?_;refine(Dv ((pM a b (i+1):Nat):Int)) (by exact(congrArg some ((mY _ 256 rfl rfl (by omega)).trans (by rw[jc])))) ?_;refine A6 ?_;refine Ar (((i+1:Nat):Int)) ?_;refine A3 ?_;exact Nl ⟨(i+1,some r.g,r.n,r.cap),Nat.succ_le_succ hmx,r.h,by have:=r.hn;show r.cap<=r.n;omega⟩ (hμ:=(by show max (nb a) (nb b)+1-(i+1)<max (nb a) (nb b)+1-i;omega)) (hL:=eG.auto)
    ·have hjb:nb b<=i:=(by have:=of_decide_eq_false hb4;omega);refine dn 6 (bz (zx a b i)) rfl (by rw[nU,jC hjb];rfl) ?_;refine A6 ?_;refine(Dv ((qE (a+b) i:Nat):Int)) (by exact(congrArg some ((eY _ 256 rfl rfl).trans (by rw[lS];rfl)))) ?_;refine(Bl 1 [(0,_)]) (gW) (fun g0=>?_);refine fH (s:=1) (len:=i) (n2:=1) 2 3 (fun r=>[_,_,⟨some r.g,3,NV .i64 (row (i+1) (qE (a+b))),r.n,true⟩,⟨some g0,3,_,1,true⟩]) jb H8 rfl rfl rfl rfl rfl rfl rfl rfl rfl rfl rfl rfl (by rw[aA,ak];omega) (by omega) (by show oc*1<=oN;omega) rfl (Go.Via.one_cell _ _) (by omega) (fun r=>congrArg (fun c=>[_,_,(⟨some r.g,3,c,r.n,true⟩:aG),⟨some g0,3,_,1,true⟩]) (iV _ _ _ _ (rfl))) (fun r=>?_);refine A5 ?_;refine(Dv ((pM a b (i+1):Nat):Int)) (by exact(congrArg some ((mY _ 256 rfl rfl (by omega)).trans (by rw[jc])))) ?_;refine A6 ?_;refine Ar (((i+1:Nat):Int)) ?_;refine A3 ?_;exact Nl ⟨(i+1,some r.g,r.n,r.cap),Nat.succ_le_succ hmx,r.h,by have:=r.hn;show r.cap<=r.n;omega⟩ (hμ:=(by show max (nb a) (nb b)+1-(i+1)<max (nb a) (nb b)+1-i;omega)) (hL:=eG.auto)
   ·have hja:nb a<=i:=(by have:=of_decide_eq_false hb3;omega);have hcl:=yR a b i;have hax:=kN (a/256^i);have hbx:=kN (b/256^i);have hsl:=BD a b i;refine dn 6 (bz (pM a b i+a/256^i%256)) rfl (by rw[jC hja];rfl) ?_;refine oO ?_;refine Cd ?_ ?_<;>intro hb4
    ·have hjb:i<nb b:=(by have:=of_decide_eq_true hb4;omega);refine A4 ?_;refine ai 1 (i) jb uq rfl rfl rfl rfl rfl (by omega) (by omega) (lq (by rw[bY];omega)) (by show 0+Int.toNat _*1=_;omega) ?_;refine(Lo 1 (i)) (by exact(bn (jk (by omega)))) ?_;refine(Aq ((zx a b i:Nat):Int)) (by exact(congrArg some (wi (by omega) (by omega) (by rw[nU];omega)))) ?_;refine A7 ?_;refine(Dv ((qE (a+b) i:Nat):Int)) (by exact(congrArg some ((eY _ 256 rfl rfl).trans (by rw[lS];rfl)))) ?_;refine(Bl 1 [(0,_)]) (gW) (fun g0=>?_);refine fH (s:=1) (len:=i) (n2:=1) 2 3 (fun r=>[_,_,⟨some r.g,3,NV .i64 (row (i+1) (qE (a+b))),r.n,true⟩,⟨some g0,3,_,1,true⟩]) jb H8 rfl rfl rfl rfl rfl rfl rfl rfl rfl rfl rfl rfl (by rw[aA,ak];omega) (by omega) (by show oc*1<=oN;omega) rfl (Go.Via.one_cell _ _) (by omega) (fun r=>congrArg (fun c=>[_,_,(⟨some r.g,3,c,r.n,true⟩:aG),⟨some g0,3,_,1,true⟩]) (iV _ _ _ _ (rfl))) (fun r=>?_);refine A5 ?_;refine(Dv ((pM a b (i+1):Nat):Int)) (by exact(congrArg some ((mY _ 256 rfl rfl (by omega)).trans (by rw[jc])))) ?_;refine A6 ?_;refine Ar (((i+1:Nat):Int)) ?_;refine A3 ?_;exact Nl ⟨(i+1,some r.g,r.n,r.cap),Nat.succ_le_succ hmx,r.h,by have:=r.hn;show r.cap<=r.n;omega⟩ (hμ:=(by show max (nb a) (nb b)+1-(i+1)<max (nb a) (nb b)+1-i;omega)) (hL:=eG.auto)
    ·have hjb:nb b<=i:=(by have:=of_decide_eq_false hb4;omega);refine dn 6 (bz (zx a b i)) rfl (by rw[nU,jC hjb];rfl) ?_;refine A6 ?_;refine(Dv ((qE (a+b) i:Nat):Int)) (by exact(congrArg some ((eY _ 256 rfl rfl).trans (by rw[lS];rfl)))) ?_;refine(Bl 1 [(0,_)]) (gW) (fun g0=>?_);refine fH (s:=1) (len:=i) (n2:=1) 2 3 (fun r=>[_,_,⟨some r.g,3,NV .i64 (row (i+1) (qE (a+b))),r.n,true⟩,⟨some g0,3,_,1,true⟩]) jb H8 rfl rfl rfl rfl rfl rfl rfl rfl rfl rfl rfl rfl (by rw[aA,ak];omega) (by omega) (by show oc*1<=oN;omega) rfl (Go.Via.one_cell _ _) (by omega) (fun r=>congrArg (fun c=>[_,_,(⟨some r.g,3,c,r.n,true⟩:aG),⟨some g0,3,_,1,true⟩]) (iV _ _ _ _ (rfl))) (fun r=>?_);refine A5 ?_;refine(Dv ((pM a b (i+1):Nat):Int)) (by exact(congrArg some ((mY _ 256 rfl rfl (by omega)).trans (by rw[jc])))) ?_;refine A6 ?_;refine Ar (((i+1:Nat):Int)) ?_;refine A3 ?_;exact Nl ⟨(i+1,some r.g,r.n,r.cap),Nat.succ_le_succ hmx,r.h,by have:=r.hn;show r.cap<=r.n;omega⟩ (hμ:=(by show max (nb a) (nb b)+1-(i+1)<max (nb a) (nb b)+1-i;omega)) (hL:=eG.auto)
  ·have hib:nb b<=i:=(by have:=of_decide_eq_false hb2;omega);refine A5 ?_;refine Cd ?_ ?_<;>intro hb3
   ·have hmx:=Yf a b i (by have:=of_decide_eq_true hb3;omega) hia hib;refine CB ?_;refine Cd ?_ ?_<;>intro hb4
    ·have hja:i<nb a:=(by have:=of_decide_eq_true hb4;omega);have hcl:=yR a b i;have hax:=kN (a/256^i);have hbx:=kN (b/256^i);have hsl:=BD a b i;refine A4 ?_;refine ai 0 (i) jb uq rfl rfl rfl rfl rfl (by omega) (by omega) (lq (by rw[bY];omega)) (by show 0+Int.toNat _*1=_;omega) ?_;refine(Lo 0 (i)) (by exact(bn (jk (by omega)))) ?_;refine Ar (((pM a b i+a/256^i%256:Nat):Int)) ?_;refine lX ?_;refine Cd ?_ ?_<;>intro hb5
     ·have hjb:i<nb b:=(by have:=of_decide_eq_true hb5;omega);refine A4 ?_;refine ai 1 (i) jb uq rfl rfl rfl rfl rfl (by omega) (by omega) (lq (by rw[bY];omega)) (by show 0+Int.toNat _*1=_;omega) ?_;refine(Lo 1 (i)) (by exact(bn (jk (by omega)))) ?_;refine(Aq ((zx a b i:Nat):Int)) (by exact(congrArg some (wi (by omega) (by omega) (by rw[nU];omega)))) ?_;refine A7 ?_;refine(Dv ((qE (a+b) i:Nat):Int)) (by exact(congrArg some ((eY _ 256 rfl rfl).trans (by rw[lS];rfl)))) ?_;refine(Bl 1 [(0,_)]) (gW) (fun g0=>?_);refine fH (s:=1) (len:=i) (n2:=1) 2 3 (fun r=>[_,_,⟨some r.g,3,NV .i64 (row (i+1) (qE (a+b))),r.n,true⟩,⟨some g0,3,_,1,true⟩]) jb H8 rfl rfl rfl rfl rfl rfl rfl rfl rfl rfl rfl rfl (by rw[aA,ak];omega) (by omega) (by show oc*1<=oN;omega) rfl (Go.Via.one_cell _ _) (by omega) (fun r=>congrArg (fun c=>[_,_,(⟨some r.g,3,c,r.n,true⟩:aG),⟨some g0,3,_,1,true⟩]) (iV _ _ _ _ (rfl))) (fun r=>?_);refine A5 ?_;refine(Dv ((pM a b (i+1):Nat):Int)) (by exact(congrArg some ((mY _ 256 rfl rfl (by omega)).trans (by rw[jc])))) ?_;refine A6 ?_;refine Ar (((i+1:Nat):Int)) ?_;refine A3 ?_;exact Nl ⟨(i+1,some r.g,r.n,r.cap),Nat.succ_le_succ hmx,r.h,by have:=r.hn;show r.cap<=r.n;omega⟩ (hμ:=(by show max (nb a) (nb b)+1-(i+1)<max (nb a) (nb b)+1-i;omega)) (hL:=eG.auto)
     ·have hjb:nb b<=i:=(by have:=of_decide_eq_false hb5;omega);refine dn 6 (bz (zx a b i)) rfl (by rw[nU,jC hjb];rfl) ?_;refine A6 ?_;refine(Dv ((qE (a+b) i:Nat):Int)) (by exact(congrArg some ((eY _ 256 rfl rfl).trans (by rw[lS];rfl)))) ?_;refine(Bl 1 [(0,_)]) (gW) (fun g0=>?_);refine fH (s:=1) (len:=i) (n2:=1) 2 3 (fun r=>[_,_,⟨some r.g,3,NV .i64 (row (i+1) (qE (a+b))),r.n,true⟩,⟨some g0,3,_,1,true⟩]) jb H8 rfl rfl rfl rfl rfl rfl rfl rfl rfl rfl rfl rfl (by rw[aA,ak];omega) (by omega) (by show oc*1<=oN;omega) rfl (Go.Via.one_cell _ _) (by omega) (fun r=>congrArg (fun c=>[_,_,(⟨some r.g,3,c,r.n,true⟩:aG),⟨some g0,3,_,1,true⟩]) (iV _ _ _ _ (rfl))) (fun r=>?_);refine A5 ?_;refine(Dv ((pM a b (i+1):Nat):Int)) (by exact(congrArg some ((mY _ 256 rfl rfl (by omega)).trans (by rw[jc])))) ?_;refine A6 ?_;refine Ar (((i+1:Nat):Int)) ?_;refine A3 ?_;exact Nl ⟨(i+1,some r.g,r.n,r.cap),Nat.succ_le_succ hmx,r.h,by have:=r.hn;show r.cap<=r.n;omega⟩ (hμ:=(by show max (nb a) (nb b)+1-(i+1)<max (nb a) (nb b)+1-i;omega)) (hL:=eG.auto)
    ·have hja:nb a<=i:=(by have:=of_decide_eq_false hb4;omega);have hcl:=yR a b i;have hax:=kN (a/256^i);have hbx:=kN (b/256^i);have hsl:=BD a b i;refine dn 6 (bz (pM a b i+a/256^i%256)) rfl (by rw[jC hja];rfl) ?_;refine oO ?_;refine Cd ?_ ?_<;>intro hb5
     ·have hjb:i<nb b:=(by have:=of_decide_eq_true hb5;omega);refine A4 ?_;refine ai 1 (i) jb uq rfl rfl rfl rfl rfl (by omega) (by omega) (lq (by rw[bY];omega)) (by show 0+Int.toNat _*1=_;omega) ?_;refine(Lo 1 (i)) (by exact(bn (jk (by omega)))) ?_;refine(Aq ((zx a b i:Nat):Int)) (by exact(congrArg some (wi (by omega) (by omega) (by rw[nU];omega)))) ?_;refine A7 ?_;refine(Dv ((qE (a+b) i:Nat):Int)) (by exact(congrArg some ((eY _ 256 rfl rfl).trans (by rw[lS];rfl)))) ?_;refine(Bl 1 [(0,_)]) (gW) (fun g0=>?_);refine fH (s:=1) (len:=i) (n2:=1) 2 3 (fun r=>[_,_,⟨some r.g,3,NV .i64 (row (i+1) (qE (a+b))),r.n,true⟩,⟨some g0,3,_,1,true⟩]) jb H8 rfl rfl rfl rfl rfl rfl rfl rfl rfl rfl rfl rfl (by rw[aA,ak];omega) (by omega) (by show oc*1<=oN;omega) rfl (Go.Via.one_cell _ _) (by omega) (fun r=>congrArg (fun c=>[_,_,(⟨some r.g,3,c,r.n,true⟩:aG),⟨some g0,3,_,1,true⟩]) (iV _ _ _ _ (rfl))) (fun r=>?_);refine A5 ?_;refine(Dv ((pM a b (i+1):Nat):Int)) (by exact(congrArg some ((mY _ 256 rfl rfl (by omega)).trans (by rw[jc])))) ?_;refine A6 ?_;refine Ar (((i+1:Nat):Int)) ?_;refine A3 ?_;exact Nl ⟨(i+1,some r.g,r.n,r.cap),Nat.succ_le_succ hmx,r.h,by have:=r.hn;show r.cap<=r.n;omega⟩ (hμ:=(by show max (nb a) (nb b)+1-(i+1)<max (nb a) (nb b)+1-i;omega)) (hL:=eG.auto)
     ·have hjb:nb b<=i:=(by have:=of_decide_eq_false hb5;omega);refine dn 6 (bz (zx a b i)) rfl (by rw[nU,jC hjb];rfl) ?_;refine A6 ?_;refine(Dv ((qE (a+b) i:Nat):Int)) (by exact(congrArg some ((eY _ 256 rfl rfl).trans (by rw[lS];rfl)))) ?_;refine(Bl 1 [(0,_)]) (gW) (fun g0=>?_);refine fH (s:=1) (len:=i) (n2:=1) 2 3 (fun r=>[_,_,⟨some r.g,3,NV .i64 (row (i+1) (qE (a+b))),r.n,true⟩,⟨some g0,3,_,1,true⟩]) jb H8 rfl rfl rfl rfl rfl rfl rfl rfl rfl rfl rfl rfl (by rw[aA,ak];omega) (by omega) (by show oc*1<=oN;omega) rfl (Go.Via.one_cell _ _) (by omega) (fun r=>congrArg (fun c=>[_,_,(⟨some r.g,3,c,r.n,true⟩:aG),⟨some g0,3,_,1,true⟩]) (iV _ _ _ _ (rfl))) (fun r=>?_);refine A5 ?_;refine(Dv ((pM a b (i+1):Nat):Int)) (by exact(congrArg some ((mY _ 256 rfl rfl (by omega)).trans (by rw[jc])))) ?_;refine A6 ?_;refine Ar (((i+1:Nat):Int)) ?_;refine A3 ?_;exact Nl ⟨(i+1,some r.g,r.n,r.cap),Nat.succ_le_succ hmx,r.h,by have:=r.hn;show r.cap<=r.n;omega⟩ (hμ:=(by show max (nb a) (nb b)+1-(i+1)<max (nb a) (nb b)+1-i;omega)) (hL:=eG.auto)
   ·have hab:=qax a b i hia hib (by have:=of_decide_eq_false hb3;omega);have hnab:nb (a+b)<=i:=nY hab;refine A8 ?_;refine iq [_] [2] rfl rfl rfl (jm (row i (qE (a+b))) (kU fun j=>Ak _ j) (by rw[ak];omega) (ak _ _) ⟨ob,oN,oc,h1⟩) ⟨pS,trivial⟩ rfl ?_;refine aT 52 (az ob 0 (nb (a+b)) oc) rfl (by rw[J5 _ _ hab];rfl) ?_;refine A4 ?_;refine aH rfl (aj rfl) (fun w hL=>⟨⟨ob,oN,oc,by omega⟩,rfl,?_⟩);exact hL.picks [some 2] ⟨⟨_,rfl,rfl,rfl,rfl,⟨nb (a+b),Ru _ _ hab⟩,fun _=>rfl⟩,trivial⟩ rfl rfl
end Go.Proofs.YtaffcpfhedadhaaGreatDoor
namespace Go.Proofs.YtaffcpfhedadhaaGreatDoor
variable[Go.Via.Mo]
open Go Go.RowKit Go.Via
def lV(a b:Nat)(ha:nb a<=1073741000)(hle:b<=a)(x:SR (nb a))(y:SR (nb b)):dh Tryz.prog 115 [⟨x.b,3,NV .i64 (D8 a),x.n,false⟩,⟨y.b,3,NV .i64 (D8 b),y.n,false⟩] [x.v,y.v] (SR (nb (a-b))) SR.v (fun x=>[⟨x.b,3,NV .i64 (D8 (a-b)),x.n,true⟩]):=by
 refine⟨by kernel_rfl,fun w hL0=>?_⟩;have hb:nb b<=1073741000:=Nat.le_trans (ik hle) ha;refine YZ 41 Tryz.func115 hL0 ?_;refine A22 ?_;refine El (ι:={x:Nat×Option Nat×Nat×Nat // x.1<=nb a∧x.1<=x.2.2.2∧x.2.2.2<=x.2.2.1}) (fun⟨⟨i,ob,oN,oc⟩,hi,h1,h2⟩=>([(0,x.v),(1,y.v),(5,az ob 0 i oc),(6,bz (yS a b i)),(7,bz i)],[⟨x.b,3,NV .i64 (D8 a),x.n,false⟩,⟨y.b,3,NV .i64 (D8 b),y.n,false⟩,⟨ob,3,NV .i64 (row i (qE (a-b))),oN,true⟩],nb a-i)) ⟨(0,none,0,0),Nat.zero_le _,Nat.le_refl _,Nat.le_refl _⟩ ?_ (ht:=⟨rfl,rfl,rfl,(aB rfl (by rw[Ye];rfl)),rfl,trivial⟩) (hL:=(au [some 0,some 1,none] ⟨pR,pR,⟨rfl,rfl,rfl⟩,trivial⟩ rfl rfl));rintro⟨⟨i,ob,oN,oc⟩,hi,h1,h2⟩;(try dsimp only);replace hi:i<=nb a:=hi;replace h1:i<=oc:=h1;replace h2:oc<=oN:=h2;refine A9 ?_;refine Cd ?_ ?_<;>intro hb1
 ·have hlt:i<nb a:=(by have:=of_decide_eq_true hb1;omega);have hb1:=Pz a b i;have hax:=kN (a/256^i);have hbx:=kN (b/256^i);have hdx:=kN ((a-b)/256^i);refine A8 ?_;refine ai 0 (i) jb uq rfl rfl rfl rfl rfl (by omega) (by omega) (lq (by rw[bY];omega)) (by show 0+Int.toNat _*1=_;omega) ?_;refine(Lo 0 (i)) (by exact(bn (jk (by omega)))) ?_;refine A1 ?_;refine Ar ((((a/256^i%256:Nat):Int)-((yS a b i:Nat):Int))) ?_;refine lX ?_;refine Cd ?_ ?_<;>intro hb2
  ·have hjb:i<nb b:=(by have:=of_decide_eq_true hb2;omega);refine A4 ?_;refine ai 1 (i) jb uq rfl rfl rfl rfl rfl (by omega) (by omega) (lq (by rw[bY];omega)) (by show 0+Int.toNat _*1=_;omega) ?_;refine(Lo 1 (i)) (by exact(bn (jk (by omega)))) ?_;refine Ar ((((a/256^i%256:Nat):Int)-((yS a b i:Nat):Int)-((b/256^i%256:Nat):Int))) ?_;refine zT ?_;refine Cd ?_ ?_<;>intro hb3
   ·obtain⟨hd1,hd2⟩:=Wi (m:=a) (n:=b) (i:=i) hle (by have:=of_decide_eq_true hb3;omega);refine A2 ?_;refine Ar ((((a-b)/256^i%256:Nat):Int)) ?_;refine A7 ?_;refine(Bl 1 [(0,_)]) (gW) (fun g0=>?_);refine fH (s:=1) (len:=i) (n2:=1) 2 3 (fun r=>[_,_,⟨some r.g,3,NV .i64 (row (i+1) (qE (a-b))),r.n,true⟩,⟨some g0,3,_,1,true⟩]) jb H8 rfl rfl rfl rfl rfl rfl rfl rfl rfl rfl rfl rfl (by rw[aA,ak];omega) (by omega) (by show oc*1<=oN;omega) rfl (Go.Via.one_cell _ _) (by omega) (fun r=>congrArg (fun c=>[_,_,(⟨some r.g,3,c,r.n,true⟩:aG),⟨some g0,3,_,1,true⟩]) (iV _ _ _ _ (rfl))) (fun r=>?_);refine A6 ?_;refine Ar (((i+1:Nat):Int)) ?_;refine A3 ?_;exact Nl ⟨(i+1,some r.g,r.n,r.cap),hlt,r.h,by have:=r.hn;show r.cap<=r.n;omega⟩ (hμ:=(by show nb a-(i+1)<nb a-i;omega)) (ht:=⟨rfl,rfl,rfl,(aB rfl (by rw[hd2];rfl)),rfl,trivial⟩) (hL:=eG.auto)
   ·obtain⟨hd1,hd2⟩:=Wj (m:=a) (n:=b) (i:=i) hle (by have:=of_decide_eq_false hb3;omega);refine dn 8 (bz ((a-b)/256^i%256)) rfl (congrArg (Value.int .i64) (by omega)) ?_;refine A5 ?_;refine(Bl 1 [(0,_)]) (gW) (fun g0=>?_);refine fH (s:=1) (len:=i) (n2:=1) 2 3 (fun r=>[_,_,⟨some r.g,3,NV .i64 (row (i+1) (qE (a-b))),r.n,true⟩,⟨some g0,3,_,1,true⟩]) jb H8 rfl rfl rfl rfl rfl rfl rfl rfl rfl rfl rfl rfl (by rw[aA,ak];omega) (by omega) (by show oc*1<=oN;omega) rfl (Go.Via.one_cell _ _) (by omega) (fun r=>congrArg (fun c=>[_,_,(⟨some r.g,3,c,r.n,true⟩:aG),⟨some g0,3,_,1,true⟩]) (iV _ _ _ _ (rfl))) (fun r=>?_);refine A6 ?_;refine Ar (((i+1:Nat):Int)) ?_;refine A3 ?_;exact Nl ⟨(i+1,some r.g,r.n,r.cap),hlt,r.h,by have:=r.hn;show r.cap<=r.n;omega⟩ (hμ:=(by show nb a-(i+1)<nb a-i;omega)) (ht:=⟨rfl,rfl,rfl,(aB rfl (by rw[hd2];rfl)),rfl,trivial⟩) (hL:=eG.auto)
  ·have hjb:nb b<=i:=(by have:=of_decide_eq_false hb2;omega);refine dn 8 (.int .i64 ((a/256^i%256:Nat)-(yS a b i:Nat)-(b/256^i%256:Nat))) rfl (congrArg (Value.int .i64) (by rw[jC hjb];omega)) ?_;refine D6 ?_;refine Cd ?_ ?_<;>intro hb3
   ·obtain⟨hd1,hd2⟩:=Wi (m:=a) (n:=b) (i:=i) hle (by have:=of_decide_eq_true hb3;omega);refine A2 ?_;refine Ar ((((a-b)/256^i%256:Nat):Int)) ?_;refine A7 ?_;refine(Bl 1 [(0,_)]) (gW) (fun g0=>?_);refine fH (s:=1) (len:=i) (n2:=1) 2 3 (fun r=>[_,_,⟨some r.g,3,NV .i64 (row (i+1) (qE (a-b))),r.n,true⟩,⟨some g0,3,_,1,true⟩]) jb H8 rfl rfl rfl rfl rfl rfl rfl rfl rfl rfl rfl rfl (by rw[aA,ak];omega) (by omega) (by show oc*1<=oN;omega) rfl (Go.Via.one_cell _ _) (by omega) (fun r=>congrArg (fun c=>[_,_,(⟨some r.g,3,c,r.n,true⟩:aG),⟨some g0,3,_,1,true⟩]) (iV _ _ _ _ (rfl))) (fun r=>?_);refine A6 ?_;refine Ar (((i+1:Nat):Int)) ?_;refine A3 ?_;exact Nl ⟨(i+1,some r.g,r.n,r.cap),hlt,r.h,by have:=r.hn;show r.cap<=r.n;omega⟩ (hμ:=(by show nb a-(i+1)<nb a-i;omega)) (ht:=⟨rfl,rfl,rfl,(aB rfl (by rw[hd2];rfl)),rfl,trivial⟩) (hL:=eG.auto)
   ·obtain⟨hd1,hd2⟩:=Wj (m:=a) (n:=b) (i:=i) hle (by have:=of_decide_eq_false hb3;omega);refine dn 8 (bz ((a-b)/256^i%256)) rfl (congrArg (Value.int .i64) (by omega)) ?_;refine A5 ?_;refine(Bl 1 [(0,_)]) (gW) (fun g0=>?_);refine fH (s:=1) (len:=i) (n2:=1) 2 3 (fun r=>[_,_,⟨some r.g,3,NV .i64 (row (i+1) (qE (a-b))),r.n,true⟩,⟨some g0,3,_,1,true⟩]) jb H8 rfl rfl rfl rfl rfl rfl rfl rfl rfl rfl rfl rfl (by rw[aA,ak];omega) (by omega) (by show oc*1<=oN;omega) rfl (Go.Via.one_cell _ _) (by omega) (fun r=>congrArg (fun c=>[_,_,(⟨some r.g,3,c,r.n,true⟩:aG),⟨some g0,3,_,1,true⟩]) (iV _ _ _ _ (rfl))) (fun r=>?_);refine A6 ?_;refine Ar (((i+1:Nat):Int)) ?_;refine A3 ?_;exact Nl ⟨(i+1,some r.g,r.n,r.cap),hlt,r.h,by have:=r.hn;show r.cap<=r.n;omega⟩ (hμ:=(by show nb a-(i+1)<nb a-i;omega)) (ht:=⟨rfl,rfl,rfl,(aB rfl (by rw[hd2];rfl)),rfl,trivial⟩) (hL:=eG.auto)
 ·have hge:i=nb a:=(by have:=of_decide_eq_false hb1;omega);subst hge;have hab:a-b<256^nb a:=Nat.lt_of_le_of_lt (Nat.sub_le _ _) (kK a);have hnab:nb (a-b)<=nb a:=ik (Nat.sub_le _ _);refine A8 ?_;refine iq [_] [2] rfl rfl rfl (jm (row (nb a) (qE (a-b))) (kU fun j=>Ak _ j) (by rw[ak];omega) (ak _ _) ⟨ob,oN,oc,h1⟩) ⟨pS,trivial⟩ rfl ?_;refine aT 40 (az ob 0 (nb (a-b)) oc) rfl (by rw[J5 _ _ hab];rfl) ?_;refine A4 ?_;refine aH rfl (aj rfl) (fun w hL=>⟨⟨ob,oN,oc,by omega⟩,rfl,?_⟩);exact hL.picks [some 2] ⟨⟨_,rfl,rfl,rfl,rfl,⟨nb (a-b),Ru _ _ hab⟩,fun _=>rfl⟩,trivial⟩ rfl rfl
end Go.Proofs.YtaffcpfhedadhaaGreatDoor
namespace Go.Proofs.YtaffcpfhedadhaaGreatDoor
variable[Go.Via.Mo]
open Go Go.RowKit Go.Via
def ql(a b:Nat)(hb:0<b)(ha:nb a<=1073740000)(hbn:nb b<=1073740000)(x:SR (nb a))(y:SR (nb b)):dh Tryz.prog 120 [⟨x.b,3,NV .i64 (D8 a),x.n,false⟩,⟨y.b,3,NV .i64 (D8 b),y.n,false⟩] [x.v,y.v] ((SR (nb (a/b))×SR (nb (a%b))) ⊕ PLift (a<b)) (qaE x) PE:=by
 refine VZ 105 Tryz.func120 fun w hL0=>?_;refine A9 ?_;refine(Sd [0]) (CS a (by omega) x) ?_;refine lm ?_;refine(Sd [1]) (CS b (by omega) y) ?_;refine lX ?_;refine Rs 24 ?_ ?_<;>intro hb0
 ·have h1:nb a<=7:=of_decide_eq_true hb0;refine A3 ?_;refine Rs 27 ?_ ?_<;>intro hb1
  ·have h2:nb b<=7:=of_decide_eq_true hb1;refine A5 ?_;refine Cd ?_ ?_<;>intro hb2
   ·have hA:a<72057594037927936:=Nat.lt_of_lt_of_le (kK a) (iy h1);have hB:b<72057594037927936:=Nat.lt_of_lt_of_le (kK b) (iy h2);have hq1:a/b<=a:=Nat.div_le_self _ _;have hr1:a%b<b:=Nat.mod_lt _ hb;refine dn 6 (bz a) rfl (by rw[if_pos h1]) ?_;refine dn 8 (bz b) rfl (by rw[if_pos h2]) ?_;refine A1 ?_;refine Dp [] [0,1,2,4,5,6,3,7,8,9] ?_;refine A2 ?_;refine(Dv ((a/b:Nat):Int)) (by exact(congrArg some (mY _ _ rfl rfl (by omega)))) ?_;refine A2 ?_;refine(Dv ((a%b:Nat):Int)) (congrArg some (eY _ _ rfl rfl)) ?_;refine(Sc []) (CU (a/b)) (fun xq=>?_);refine(Sc []) (CU (a%b)) (fun xr=>?_);refine A6 ?_;refine bF rfl (aj rfl) (aj rfl) (fun w hL=>⟨.inl (xq,xr),?_,hL.pk [some 2,some 3]⟩);exact rfl
   ·exact absurd hb2 (by rw[if_pos h2];simp;omega)
  ·refine CB ?_;refine(Sd [0,1]) (fU a b (by omega) x y) ?_;refine A3 ?_;refine Cd ?_ ?_<;>intro hb2
   ·have hlt:a<b:=EM.1 (of_decide_eq_true hb2);refine A9 ?_;refine bF rfl (aj rfl) (aj rfl) (fun w hL=>⟨.inr ⟨hlt⟩,?_,hL.pk []⟩);exact rfl
   ·have hge:b<=a:=by have:=of_decide_eq_false hb2;rw[EM] at this;omega
    refine A6 ?_;refine gm (c:=nb a) (NV .i64 (row (nb a) (PD a b (nb a)))) (fun g=>[_,_,⟨some g,3,_,_,true⟩]) jb H8 rfl rfl rfl rfl rfl rfl (by omega) (by rw[bG (g:=fun _=>0) (fun j hj=>Wu a b hj),lQ,fC]) (fun _=>rfl) (fun g0=>?_);refine A8 ?_;refine Ar (((nb a:Nat):Int)-1) ?_;refine A4 ?_;refine El (ι:=(p:{p:Nat // p<=nb a})×SR (nb (a/256^p.1%b))) (fun⟨⟨p,hp⟩,z⟩=>([(0,x.v),(1,y.v),(4,az (some g0) 0 (nb a) (nb a)),(5,z.v),(10,.int .i64 ((p:Nat)-1))],[⟨x.b,3,NV .i64 (D8 a),x.n,false⟩,⟨y.b,3,NV .i64 (D8 b),y.n,false⟩,⟨some g0,3,NV .i64 (row (nb a) (PD a b p)),nb a,true⟩,⟨z.b,3,NV .i64 (D8 (a/256^p%b)),z.n,true⟩],p)) ⟨⟨nb a,Nat.le_refl _⟩,⟨none,0,0,by rw[IY,kS];exact Nat.le_refl _⟩⟩ ?_ (ht:=⟨rfl,rfl,rfl,(aB rfl (Rz a b)),rfl,trivial⟩) (hL:=(au [some 0,some 1,some 2,none] ⟨pR,pR,pR,⟨rfl,Wq a b,rfl⟩,trivial⟩ rfl rfl));rintro⟨⟨p,hp⟩,z⟩;(try dsimp only);refine A7 ?_;refine Cd ?_ ?_<;>intro hb4
    ·obtain⟨q,rfl⟩:∃q,p=q+1:=⟨p-1,by have:=of_decide_eq_true hb4;omega⟩;refine dn 10 (bz q) rfl (congrArg (Value.int .i64) (by omega)) ?_;have hR:=Nat.mod_lt (a/256^(q+1)) hb;have hnR:nb (a/256^(q+1)%b)<=nb b:=ik (Nat.le_of_lt hR);have hdq:=kN (a/256^q);have hWn:=qaG a b q;refine rH 3 rfl (fun hbase=>?_);refine A8 ?_;refine ai 0 (q) jb uq rfl rfl rfl rfl rfl (by omega) (by omega) (lq (by rw[bY];omega)) (by show 0+Int.toNat _*1=_;omega) ?_;refine(Lo 0 (q)) (by exact(bn (jk (by omega)))) ?_;refine(Bl 1 [(0,_)]) (gW) (fun g1=>?_);refine A1 ?_;refine qaF 4 3 (fun b n=>[_,_,_,_,⟨b,3,_,n,true⟩]) jb H8 rfl rfl rfl rfl rfl hbase rfl rfl (by omega) (fun _ _=>rfl) (fun r=>?_);refine(Sd [4]) (jm (a/256^q%256::D8 (a/256^(q+1)%b)) (BH a b q) (by rw[List.length_cons,bY];omega) (by rw[List.length_cons,bY]) r) ?_;refine aT 61 (az r.b 0 (nb (Gj a b q)) r.cap) rfl (by rw[J7]) ?_;refine A4 ?_;refine El (ι:=(x:{x:Nat×Nat // x.1*b+x.2=Gj a b q})×SR (nb x.1.2)) (fun⟨⟨⟨m,rr⟩,hq⟩,z2⟩=>([(0,x.v),(1,y.v),(4,az (some g0) 0 (nb a) (nb a)),(5,z2.v),(10,bz q)],[⟨x.b,3,NV .i64 (D8 a),x.n,false⟩,⟨y.b,3,NV .i64 (D8 b),y.n,false⟩,⟨some g0,3,NV .i64 (row (nb a) (RD a b q m)),nb a,true⟩,⟨z2.b,3,NV .i64 (D8 (rr)),z2.n,true⟩],rr)) ⟨⟨(0,Gj a b q),by omega⟩,⟨r.b,r.n,r.cap,Nat.le_trans hWn r.h⟩⟩ ?_ (hL:=(au [some 0,some 1,some 2,some 4] ⟨pR,pR,⟨_,rfl,aI (congrArg (fun c=>(⟨some g0,3,NV .i64 c,nb a,true⟩:aG)) (bG fun j _=>RF a b q j))⟩,⟨_,rfl,rfl,rfl,rfl,⟨nb (Gj a b q),Ry a b q⟩,fun _=>rfl⟩,trivial⟩ rfl rfl));rintro⟨⟨⟨m,rr⟩,hq⟩,z2⟩;(try dsimp only);replace hq:m*b+rr=Gj a b q:=hq;have hrn:=Wv hb hq;refine A5 ?_;refine(Sd [3,1]) (fU rr b (by omega) z2 y) ?_;refine A2 ?_;refine Rs 66 ?_ ?_<;>intro hb6
     ·have hge2:b<=rr:=lu.1 (of_decide_eq_true hb6);have hm1:=qaD (s:=1) hb hq (by omega);refine A2 ?_;refine Ix 2 (q) ?_;refine(Lo 2 (q)) (by exact(bn ((bU (by omega)).trans (by rw[Gl])))) ?_;refine A4 ?_;refine Cd ?_ ?_<;>intro hb7
      ·refine lX ?_;refine El (ι:=(s:{s:Nat // 0<s∧s<=128∧s*b<=rr})×SR (nb (s.1*b))) (fun⟨⟨s,hs0,hs1,hs2⟩,z3⟩=>([(0,x.v),(1,y.v),(4,az (some g0) 0 (nb a) (nb a)),(5,z2.v),(10,bz q),(11,bz s),(12,z3.v)],[⟨x.b,3,NV .i64 (D8 a),x.n,false⟩,⟨y.b,3,NV .i64 (D8 b),y.n,false⟩,⟨some g0,3,NV .i64 (row (nb a) (RD a b q m)),nb a,true⟩,⟨z2.b,3,NV .i64 (D8 (rr)),z2.n,true⟩,⟨z3.b,3,NV .i64 (D8 (s*b)),z3.n,false⟩],128-s)) ⟨⟨1,by omega,by omega,by omega⟩,⟨y.b,y.n,y.cap,by rw[Nat.one_mul];exact y.h⟩⟩ ?_ (ht:=⟨rfl,rfl,rfl,rfl,rfl,rfl,(aB rfl (congrArg (fun n=>az y.b 0 (nb n) y.cap) (Nat.one_mul b).symm)),trivial⟩) (hL:=(au [some 0,some 1,some 2,some 3,some 1] ⟨pR,pR,pR,pR,⟨_,rfl,aI (congrArg (fun n=>(⟨y.b,3,NV .i64 (D8 n),y.n,false⟩:aG)) (Nat.one_mul b))⟩,trivial⟩ rfl rfl));rintro⟨⟨s,hs0,hs1,hs2⟩,z3⟩;(try dsimp only);have e2:2*s*b=s*b+s*b:=by rw[Nat.two_mul,Nat.add_mul]
       replace hs2:s*b<=rr:=hs2;have hsn:nb (s*b)<=nb rr:=ik hs2;have hsn2:nb (s*b+s*b)<=nb b+2:=nY (by have h1:=kK b;have h2:s*b<=128*b:=Nat.mul_le_mul_right _ hs1;rw[Nat.pow_succ,Nat.pow_succ];omega);refine A4 ?_;refine Ar (((2*s:Nat):Int)) ?_;refine A2 ?_;refine Rs 77 ?_ ?_<;>intro hb9
       ·have hs3:2*s<=128:=(by have:=of_decide_eq_true hb9;omega);refine A2 ?_;refine(Sc [4,4]) (jZ (s*b) (s*b) (by omega) (by omega) z3 z3) (fun z4=>?_);refine A1 ?_;refine(Sd [5,3]) (fU (s*b+s*b) rr (by omega) z4 z2) ?_;refine A4 ?_;refine Cd ?_ ?_<;>intro hb10
        ·have hs4:s*b+s*b<=rr:=wJ.1 (of_decide_eq_true hb10);refine A5 ?_;refine Ar (((2*s:Nat):Int)) ?_;refine A2 ?_;refine(Sc [4,4]) (jZ (s*b) (s*b) (by omega) (by omega) z3 z3) (fun z5=>?_);refine A5 ?_;exact Nl ⟨⟨2*s,by omega,hs3,by rw[Nat.two_mul,Nat.add_mul];exact hs4⟩,⟨z5.b,z5.n,z5.cap,by show nb (2*s*b)<=z5.cap;rw[e2];exact z5.h⟩⟩ (hμ:=(by show 128-2*s<128-s;omega)) (ht:=⟨rfl,rfl,rfl,rfl,rfl,rfl,(aB rfl (congrArg (fun n=>az z5.b 0 (nb n) z5.cap) e2.symm)),trivial⟩) (hL:=(au [some 0,some 1,some 2,some 3,some 6] ⟨pR,pR,pR,pR,⟨_,rfl,⟨rfl,rfl,rfl,⟨(NV .i64 (D8 (s*b+s*b))).length,by show NV .i64 (D8 (2*s*b))=_;rw[e2,List.take_length]⟩,fun h=>by cases h⟩⟩,trivial⟩ rfl rfl))
        ·refine A5 ?_;refine Dp [2000000] [0,1,2,3,5,6,7,8,9,10,4,11,12,13] ?_;refine A6 ?_;refine Ix 2 (q) ?_;refine(Lo 2 (q)) (by exact(bn ((bU (by omega)).trans (by rw[Gl])))) ?_;refine A1 ?_;refine Ar (((m+s:Nat):Int)) ?_;refine(Sc [3,4]) (lV rr (s*b) (by omega) hs2 z2 z3) (fun z6=>?_);refine A1 ?_;refine Ix 2 (q) ?_;refine(S1 2 (q) [_,_,⟨some g0,3,_,_,true⟩,_,_,_,_] (NV .i64 (row (nb a) (RD a b q (m+s))))) (by exact(by rw[aA,ak];omega)) (by exact(by rw[dG,bZ (fun j _=>EN a b q m (m+s) j)])) ?_;refine A3 ?_;exact Nl ⟨⟨(m+s,rr-s*b),EL hq hs2⟩,z6⟩ (hμ:=(by have:=Nat.mul_pos hs0 hb;show rr-s*b<rr;omega)) (hL:=(rD [some 0,some 1,some 2,some 6]))
       ·refine zT ?_;refine Dp [2000000] [0,1,2,3,5,6,7,8,9,10,4,11,12,13] ?_;refine A6 ?_;refine Ix 2 (q) ?_;refine(Lo 2 (q)) (by exact(bn ((bU (by omega)).trans (by rw[Gl])))) ?_;refine A1 ?_;refine Ar (((m+s:Nat):Int)) ?_;refine(Sc [3,4]) (lV rr (s*b) (by omega) hs2 z2 z3) (fun z6=>?_);refine A1 ?_;refine Ix 2 (q) ?_;refine(S1 2 (q) [_,_,⟨some g0,3,_,_,true⟩,_,_,_] (NV .i64 (row (nb a) (RD a b q (m+s))))) (by exact(by rw[aA,ak];omega)) (by exact(by rw[dG,bZ (fun j _=>EN a b q m (m+s) j)])) ?_;refine A3 ?_;exact Nl ⟨⟨(m+s,rr-s*b),EL hq hs2⟩,z6⟩ (hμ:=(by have:=Nat.mul_pos hs0 hb;show rr-s*b<rr;omega)) (hL:=(rD [some 0,some 1,some 2,some 5]))
      ·exact absurd (of_decide_eq_false hb7) (by omega)
     ·have hlt2:rr<b:=by have:=of_decide_eq_false hb6;rw[lu] at this;omega
      obtain⟨hm,hr⟩:=dq8 hb hq hlt2;subst hm;subst hr;refine MW ?_;refine Ar (((q:Nat):Int)-1) ?_;refine A3 ?_;exact Nl ⟨⟨q,by omega⟩,z2⟩ (hμ:=(Nat.lt_succ_self q)) (hL:=(au [some 0,some 1,some 2,some 3] ⟨pR,pR,⟨_,rfl,aI (congrArg (fun c=>(⟨some g0,3,NV .i64 c,nb a,true⟩:aG)) (bG fun j _=>(Ws a b q j).symm))⟩,pR,trivial⟩ rfl rfl))
    ·have hp0:p=0:=by have:=of_decide_eq_false hb4;omega
     subst hp0;refine A8 ?_;refine iq [_] [2] rfl rfl rfl (jm (row (nb a) (PD a b 0)) (kU fun j=>UR a b 0 j) (by rw[ak];omega) (ak _ _) ⟨some g0,nb a,nb a,Nat.le_refl _⟩) ⟨pS,trivial⟩ rfl ?_;refine aT 103 (az (some g0) 0 (nb (a/b)) (nb a)) rfl (by rw[J8];rfl) ?_;refine A6 ?_;refine bF rfl (aj rfl) (aj rfl) (fun w hL=>⟨.inl (⟨some g0,nb a,nb a,ik (Nat.div_le_self _ _)⟩,⟨z.b,z.n,z.cap,by have h:=z.h;simp only[Nat.pow_zero,Nat.div_one] at h;exact h⟩),?_,?_⟩)
     ·exact congrArg (fun n=>Ending.returned (.tuple #[az (some g0) 0 (nb (a/b)) (nb a),az z.b 0 (nb n) z.cap])) (show a/256^0%b=a%b by rw[Nat.pow_zero,Nat.div_one])
     ·exact hL.picks [some 2,some 3] ⟨⟨_,rfl,rfl,rfl,rfl,⟨nb (a/b),RG a b⟩,fun _=>rfl⟩,⟨_,rfl,aI (congrArg (fun n=>(⟨z.b,3,NV .i64 (D8 n),z.n,true⟩:aG)) (show a%b=a/256^0%b by rw[Nat.pow_zero,Nat.div_one]))⟩,trivial⟩ rfl rfl
 ·refine II ?_;refine(Sd [0,1]) (fU a b (by omega) x y) ?_;refine A3 ?_;refine Cd ?_ ?_<;>intro hb1
  ·have hlt:a<b:=EM.1 (of_decide_eq_true hb1);refine A9 ?_;refine bF rfl (aj rfl) (aj rfl) (fun w hL=>⟨.inr ⟨hlt⟩,?_,hL.pk []⟩);exact rfl
  ·have hge:b<=a:=by have:=of_decide_eq_false hb1;rw[EM] at this;omega
   refine A6 ?_;refine gm (c:=nb a) (NV .i64 (row (nb a) (PD a b (nb a)))) (fun g=>[_,_,⟨some g,3,_,_,true⟩]) jb H8 rfl rfl rfl rfl rfl rfl (by omega) (by rw[bG (g:=fun _=>0) (fun j hj=>Wu a b hj),lQ,fC]) (fun _=>rfl) (fun g0=>?_);refine A8 ?_;refine Ar (((nb a:Nat):Int)-1) ?_;refine A4 ?_;refine El (ι:=(p:{p:Nat // p<=nb a})×SR (nb (a/256^p.1%b))) (fun⟨⟨p,hp⟩,z⟩=>([(0,x.v),(1,y.v),(4,az (some g0) 0 (nb a) (nb a)),(5,z.v),(10,.int .i64 ((p:Nat)-1))],[⟨x.b,3,NV .i64 (D8 a),x.n,false⟩,⟨y.b,3,NV .i64 (D8 b),y.n,false⟩,⟨some g0,3,NV .i64 (row (nb a) (PD a b p)),nb a,true⟩,⟨z.b,3,NV .i64 (D8 (a/256^p%b)),z.n,true⟩],p)) ⟨⟨nb a,Nat.le_refl _⟩,⟨none,0,0,by rw[IY,kS];exact Nat.le_refl _⟩⟩ ?_ (ht:=⟨rfl,rfl,rfl,(aB rfl (Rz a b)),rfl,trivial⟩) (hL:=(au [some 0,some 1,some 2,none] ⟨pR,pR,pR,⟨rfl,Wq a b,rfl⟩,trivial⟩ rfl rfl));rintro⟨⟨p,hp⟩,z⟩;(try dsimp only);refine A7 ?_;refine Cd ?_ ?_<;>intro hb3
   ·obtain⟨q,rfl⟩:∃q,p=q+1:=⟨p-1,by have:=of_decide_eq_true hb3;omega⟩;refine dn 10 (bz q) rfl (congrArg (Value.int .i64) (by omega)) ?_;have hR:=Nat.mod_lt (a/256^(q+1)) hb;have hnR:nb (a/256^(q+1)%b)<=nb b:=ik (Nat.le_of_lt hR);have hdq:=kN (a/256^q);have hWn:=qaG a b q;refine rH 3 rfl (fun hbase=>?_);refine A8 ?_;refine ai 0 (q) jb uq rfl rfl rfl rfl rfl (by omega) (by omega) (lq (by rw[bY];omega)) (by show 0+Int.toNat _*1=_;omega) ?_;refine(Lo 0 (q)) (by exact(bn (jk (by omega)))) ?_;refine(Bl 1 [(0,_)]) (gW) (fun g1=>?_);refine A1 ?_;refine qaF 4 3 (fun b n=>[_,_,_,_,⟨b,3,_,n,true⟩]) jb H8 rfl rfl rfl rfl rfl hbase rfl rfl (by omega) (fun _ _=>rfl) (fun r=>?_);refine(Sd [4]) (jm (a/256^q%256::D8 (a/256^(q+1)%b)) (BH a b q) (by rw[List.length_cons,bY];omega) (by rw[List.length_cons,bY]) r) ?_;refine aT 61 (az r.b 0 (nb (Gj a b q)) r.cap) rfl (by rw[J7]) ?_;refine A4 ?_;refine El (ι:=(x:{x:Nat×Nat // x.1*b+x.2=Gj a b q})×SR (nb x.1.2)) (fun⟨⟨⟨m,rr⟩,hq⟩,z2⟩=>([(0,x.v),(1,y.v),(4,az (some g0) 0 (nb a) (nb a)),(5,z2.v),(10,bz q)],[⟨x.b,3,NV .i64 (D8 a),x.n,false⟩,⟨y.b,3,NV .i64 (D8 b),y.n,false⟩,⟨some g0,3,NV .i64 (row (nb a) (RD a b q m)),nb a,true⟩,⟨z2.b,3,NV .i64 (D8 (rr)),z2.n,true⟩],rr)) ⟨⟨(0,Gj a b q),by omega⟩,⟨r.b,r.n,r.cap,Nat.le_trans hWn r.h⟩⟩ ?_ (hL:=(au [some 0,some 1,some 2,some 4] ⟨pR,pR,⟨_,rfl,aI (congrArg (fun c=>(⟨some g0,3,NV .i64 c,nb a,true⟩:aG)) (bG fun j _=>RF a b q j))⟩,⟨_,rfl,rfl,rfl,rfl,⟨nb (Gj a b q),Ry a b q⟩,fun _=>rfl⟩,trivial⟩ rfl rfl));rintro⟨⟨⟨m,rr⟩,hq⟩,z2⟩;(try dsimp only);replace hq:m*b+rr=Gj a b q:=hq;have hrn:=Wv hb hq;refine A5 ?_;refine(Sd [3,1]) (fU rr b (by omega) z2 y) ?_;refine A2 ?_;refine Rs 66 ?_ ?_<;>intro hb5
    ·have hge2:b<=rr:=lu.1 (of_decide_eq_true hb5);have hm1:=qaD (s:=1) hb hq (by omega);refine A2 ?_;refine Ix 2 (q) ?_;refine(Lo 2 (q)) (by exact(bn ((bU (by omega)).trans (by rw[Gl])))) ?_;refine A4 ?_;refine Cd ?_ ?_<;>intro hb6
     ·refine lX ?_;refine El (ι:=(s:{s:Nat // 0<s∧s<=128∧s*b<=rr})×SR (nb (s.1*b))) (fun⟨⟨s,hs0,hs1,hs2⟩,z3⟩=>([(0,x.v),(1,y.v),(4,az (some g0) 0 (nb a) (nb a)),(5,z2.v),(10,bz q),(11,bz s),(12,z3.v)],[⟨x.b,3,NV .i64 (D8 a),x.n,false⟩,⟨y.b,3,NV .i64 (D8 b),y.n,false⟩,⟨some g0,3,NV .i64 (row (nb a) (RD a b q m)),nb a,true⟩,⟨z2.b,3,NV .i64 (D8 (rr)),z2.n,true⟩,⟨z3.b,3,NV .i64 (D8 (s*b)),z3.n,false⟩],128-s)) ⟨⟨1,by omega,by omega,by omega⟩,⟨y.b,y.n,y.cap,by rw[Nat.one_mul];exact y.h⟩⟩ ?_ (ht:=⟨rfl,rfl,rfl,rfl,rfl,rfl,(aB rfl (congrArg (fun n=>az y.b 0 (nb n) y.cap) (Nat.one_mul b).symm)),trivial⟩) (hL:=(au [some 0,some 1,some 2,some 3,some 1] ⟨pR,pR,pR,pR,⟨_,rfl,aI (congrArg (fun n=>(⟨y.b,3,NV .i64 (D8 n),y.n,false⟩:aG)) (Nat.one_mul b))⟩,trivial⟩ rfl rfl));rintro⟨⟨s,hs0,hs1,hs2⟩,z3⟩;(try dsimp only);have e2:2*s*b=s*b+s*b:=by rw[Nat.two_mul,Nat.add_mul]
      replace hs2:s*b<=rr:=hs2;have hsn:nb (s*b)<=nb rr:=ik hs2;have hsn2:nb (s*b+s*b)<=nb b+2:=nY (by have h1:=kK b;have h2:s*b<=128*b:=Nat.mul_le_mul_right _ hs1;rw[Nat.pow_succ,Nat.pow_succ];omega);refine A4 ?_;refine Ar (((2*s:Nat):Int)) ?_;refine A2 ?_;refine Rs 77 ?_ ?_<;>intro hb8
      ·have hs3:2*s<=128:=(by have:=of_decide_eq_true hb8;omega);refine A2 ?_;refine(Sc [4,4]) (jZ (s*b) (s*b) (by omega) (by omega) z3 z3) (fun z4=>?_);refine A1 ?_;refine(Sd [5,3]) (fU (s*b+s*b) rr (by omega) z4 z2) ?_;refine A4 ?_;refine Cd ?_ ?_<;>intro hb9
       ·have hs4:s*b+s*b<=rr:=wJ.1 (of_decide_eq_true hb9);refine A5 ?_;refine Ar (((2*s:Nat):Int)) ?_;refine A2 ?_;refine(Sc [4,4]) (jZ (s*b) (s*b) (by omega) (by omega) z3 z3) (fun z5=>?_);refine A5 ?_;exact Nl ⟨⟨2*s,by omega,hs3,by rw[Nat.two_mul,Nat.add_mul];exact hs4⟩,⟨z5.b,z5.n,z5.cap,by show nb (2*s*b)<=z5.cap;rw[e2];exact z5.h⟩⟩ (hμ:=(by show 128-2*s<128-s;omega)) (ht:=⟨rfl,rfl,rfl,rfl,rfl,rfl,(aB rfl (congrArg (fun n=>az z5.b 0 (nb n) z5.cap) e2.symm)),trivial⟩) (hL:=(au [some 0,some 1,some 2,some 3,some 6] ⟨pR,pR,pR,pR,⟨_,rfl,⟨rfl,rfl,rfl,⟨(NV .i64 (D8 (s*b+s*b))).length,by show NV .i64 (D8 (2*s*b))=_;rw[e2,List.take_length]⟩,fun h=>by cases h⟩⟩,trivial⟩ rfl rfl))
       ·refine A5 ?_;refine Dp [2000000] [0,1,2,3,5,6,7,8,9,10,4,11,12,13] ?_;refine A6 ?_;refine Ix 2 (q) ?_;refine(Lo 2 (q)) (by exact(bn ((bU (by omega)).trans (by rw[Gl])))) ?_;refine A1 ?_;refine Ar (((m+s:Nat):Int)) ?_;refine(Sc [3,4]) (lV rr (s*b) (by omega) hs2 z2 z3) (fun z6=>?_);refine A1 ?_;refine Ix 2 (q) ?_;refine(S1 2 (q) [_,_,⟨some g0,3,_,_,true⟩,_,_,_,_] (NV .i64 (row (nb a) (RD a b q (m+s))))) (by exact(by rw[aA,ak];omega)) (by exact(by rw[dG,bZ (fun j _=>EN a b q m (m+s) j)])) ?_;refine A3 ?_;exact Nl ⟨⟨(m+s,rr-s*b),EL hq hs2⟩,z6⟩ (hμ:=(by have:=Nat.mul_pos hs0 hb;show rr-s*b<rr;omega)) (hL:=(rD [some 0,some 1,some 2,some 6]))
      ·refine zT ?_;refine Dp [2000000] [0,1,2,3,5,6,7,8,9,10,4,11,12,13] ?_;refine A6 ?_;refine Ix 2 (q) ?_;refine(Lo 2 (q)) (by exact(bn ((bU (by omega)).trans (by rw[Gl])))) ?_;refine A1 ?_;refine Ar (((m+s:Nat):Int)) ?_;refine(Sc [3,4]) (lV rr (s*b) (by omega) hs2 z2 z3) (fun z6=>?_);refine A1 ?_;refine Ix 2 (q) ?_;refine(S1 2 (q) [_,_,⟨some g0,3,_,_,true⟩,_,_,_] (NV .i64 (row (nb a) (RD a b q (m+s))))) (by exact(by rw[aA,ak];omega)) (by exact(by rw[dG,bZ (fun j _=>EN a b q m (m+s) j)])) ?_;refine A3 ?_;exact Nl ⟨⟨(m+s,rr-s*b),EL hq hs2⟩,z6⟩ (hμ:=(by have:=Nat.mul_pos hs0 hb;show rr-s*b<rr;omega)) (hL:=(rD [some 0,some 1,some 2,some 5]))
     ·exact absurd (of_decide_eq_false hb6) (by omega)
    ·have hlt2:rr<b:=by have:=of_decide_eq_false hb5;rw[lu] at this;omega
     obtain⟨hm,hr⟩:=dq8 hb hq hlt2;subst hm;subst hr;refine MW ?_;refine Ar (((q:Nat):Int)-1) ?_;refine A3 ?_;exact Nl ⟨⟨q,by omega⟩,z2⟩ (hμ:=(Nat.lt_succ_self q)) (hL:=(au [some 0,some 1,some 2,some 3] ⟨pR,pR,⟨_,rfl,aI (congrArg (fun c=>(⟨some g0,3,NV .i64 c,nb a,true⟩:aG)) (bG fun j _=>(Ws a b q j).symm))⟩,pR,trivial⟩ rfl rfl))
   ·have hp0:p=0:=by have:=of_decide_eq_false hb3;omega
    subst hp0;refine A8 ?_;refine iq [_] [2] rfl rfl rfl (jm (row (nb a) (PD a b 0)) (kU fun j=>UR a b 0 j) (by rw[ak];omega) (ak _ _) ⟨some g0,nb a,nb a,Nat.le_refl _⟩) ⟨pS,trivial⟩ rfl ?_;refine aT 103 (az (some g0) 0 (nb (a/b)) (nb a)) rfl (by rw[J8];rfl) ?_;refine A6 ?_;refine bF rfl (aj rfl) (aj rfl) (fun w hL=>⟨.inl (⟨some g0,nb a,nb a,ik (Nat.div_le_self _ _)⟩,⟨z.b,z.n,z.cap,by have h:=z.h;simp only[Nat.pow_zero,Nat.div_one] at h;exact h⟩),?_,?_⟩)
    ·exact congrArg (fun n=>Ending.returned (.tuple #[az (some g0) 0 (nb (a/b)) (nb a),az z.b 0 (nb n) z.cap])) (show a/256^0%b=a%b by rw[Nat.pow_zero,Nat.div_one])
    ·exact hL.picks [some 2,some 3] ⟨⟨_,rfl,rfl,rfl,rfl,⟨nb (a/b),RG a b⟩,fun _=>rfl⟩,⟨_,rfl,aI (congrArg (fun n=>(⟨z.b,3,NV .i64 (D8 n),z.n,true⟩:aG)) (show a%b=a/256^0%b by rw[Nat.pow_zero,Nat.div_one]))⟩,trivial⟩ rfl rfl
end Go.Proofs.YtaffcpfhedadhaaGreatDoor
namespace Go.Proofs.YtaffcpfhedadhaaGreatDoor
variable[Go.Via.Mo]
open Go Go.RowKit Go.Via
def KG(a b:Nat)(ha:nb a<=1073740000)(hb:nb b<=1073740000)(x:SR (nb a))(y:SR (nb b)):FU Tryz.prog 119 [⟨x.b,3,NV .i64 (D8 a),x.n,false⟩,⟨y.b,3,NV .i64 (D8 b),y.n,false⟩] [x.v,y.v] (SR (nb (Nat.gcd a b))) SR.v (fun z=>[⟨z.b,3,NV .i64 (D8 (Nat.gcd a b)),z.n,false⟩]):=by
 refine⟨by kernel_rfl,fun w hL0=>?_⟩;refine YZ 19 Tryz.func119 hL0 ?_;refine A7 ?_;refine El (ι:=(p:{p:Nat×Nat // Nat.gcd p.1 p.2=Nat.gcd a b∧nb p.1<=1073740000∧nb p.2<=1073740000})×FS [x.b,y.b] (nb p.1.1)×FS [x.b,y.b] (nb p.1.2)) (fun⟨⟨⟨m,n⟩,hg,hm,hn⟩,⟨za,oa,hoa⟩,⟨zb,ob,hob⟩⟩=>([(0,za.v),(1,zb.v)],[⟨x.b,3,NV .i64 (D8 a),x.n,false⟩,⟨y.b,3,NV .i64 (D8 b),y.n,false⟩,⟨za.b,3,NV .i64 (D8 (m)),za.n,oa⟩,⟨zb.b,3,NV .i64 (D8 (n)),zb.n,ob⟩],n)) ⟨⟨(a,b),rfl,ha,hb⟩,⟨x,false,.inr (by simp)⟩,⟨y,false,.inr (by simp)⟩⟩ ?_ (hL:=(rD [some 0,some 1,some 0,some 1]));rintro⟨⟨⟨m,n⟩,hg,hm,hn⟩,⟨za,oa,hoa⟩,⟨zb,ob,hob⟩⟩;(try dsimp only);replace hm:nb m<=1073740000:=hm;replace hn:nb n<=1073740000:=hn;replace hg:Nat.gcd m n=Nat.gcd a b:=hg;refine A8 ?_;refine Cd ?_ ?_<;>intro hb1
 ·have hn0:0<n:=Nat.pos_of_ne_zero (fun e=>by subst e;rw[kS] at hb1;cases hb1);refine A7 ?_;refine iO [_,_] [2,3] rfl rfl rfl (ql m n hn0 hm hn za zb) ⟨pS,pS,trivial⟩ rfl (.inr J9) (fun z=>?_);rcases z with z|hlt
  ·refine zT ?_;exact Nl ⟨⟨(n,m%n),Yk hg,hn,Nat.le_trans (ik (Nat.mod_le _ _)) hm⟩,⟨zb,ob,hob⟩,⟨z.2,true,.inl rfl⟩⟩ (hμ:=(Nat.mod_lt _ hn0)) (hL:=(au [some 0,some 1,some 3,some 5] ⟨pR,pR,pR,pR,trivial⟩ rfl (by cases ob<;>rfl)))
  ·have hlt:=hlt.down;refine zT ?_;exact Nl ⟨⟨(n,m),(Nat.gcd_comm n m).trans hg,hn,hm⟩,⟨zb,ob,hob⟩,⟨za,oa,hoa⟩⟩ (hμ:=hlt) (hL:=(au [some 0,some 1,some 3,some 2] ⟨pR,pR,pR,pR,trivial⟩ rfl (by cases oa<;>cases ob<;>rfl)))
 ·have hn1:n=0:=Classical.byContradiction fun e=>by have:=Dw e;have hz:¬((0:Int)<((nb n:Nat):Int)):=of_decide_eq_false hb1;omega
  subst hn1;rw[Nat.gcd_zero_right] at hg;replace hg:m=Nat.gcd a b:=hg;subst hg;refine lX ?_;refine aH rfl (aj rfl) (fun w hL=>⟨za,?_,hL.picks [some 2] ⟨pS,trivial⟩ rfl rfl,fun c hc=>?_⟩)
  ·rfl
  ·rw[List.mem_singleton.1 hc];exact fun g hg=>(qg7 (x:=⟨x.b,3,NV .i64 (D8 a),x.n,false⟩) (y:=⟨y.b,3,NV .i64 (D8 b),y.n,false⟩) hL 2 rfl rfl rfl hoa rfl g hg).imp Ea id
end Go.Proofs.YtaffcpfhedadhaaGreatDoor
namespace Go.Proofs.YtaffcpfhedadhaaGreatDoor
variable[Go.Via.Mo]
open Go Go.RowKit Go.Via
def jy(a b:Nat)(ha:nb a<=500000000)(hb:nb b<=500000000)(x:SR (nb a))(y:SR (nb b)):dh Tryz.prog 71 [⟨x.b,3,NV .i64 (D8 a),x.n,false⟩,⟨y.b,3,NV .i64 (D8 b),y.n,false⟩] [x.v,y.v] (SR (nb (a*b))) SR.v (fun x=>[⟨x.b,3,NV .i64 (D8 (a*b)),x.n,true⟩]):=by
 refine VZ 67 Tryz.func71 fun w hL0=>?_;refine oO ?_;refine Ar (((nb a+nb b:Nat):Int)) ?_;refine Ar ((((nb a+nb b+1):Nat):Int)) ?_;refine gm (c:=(nb a+nb b+1)) (NV .i64 (row (nb a+nb b+1) (DI a b 0))) (fun g=>[_,_,⟨some g,3,_,_,true⟩]) jb H8 rfl rfl rfl rfl rfl rfl (by omega) (by rw[bG (g:=fun _=>0) (fun j _=>Yi a b j),lQ,fC]) (fun _=>rfl) (fun g0=>?_);refine lm ?_;refine El (ι:={i:Nat // i<=nb a}) (fun⟨i,hi⟩=>([(0,x.v),(1,y.v),(5,az (some g0) 0 (nb a+nb b+1) (nb a+nb b+1)),(6,bz i)],[⟨x.b,3,NV .i64 (D8 a),x.n,false⟩,⟨y.b,3,NV .i64 (D8 b),y.n,false⟩,⟨some g0,3,NV .i64 (row (nb a+nb b+1) (DI a b i)),(nb a+nb b+1),true⟩],nb a-i)) ⟨0,Nat.zero_le _⟩ ?_;rintro⟨i,hi⟩;(try dsimp only);refine A9 ?_;refine Cd ?_ ?_<;>intro hb1
 ·have hlt:i<nb a:=(by have:=of_decide_eq_true hb1;omega);refine zT ?_;refine El (ι:={k:Nat // k<=nb b+1}) (fun⟨k,hk⟩=>([(0,x.v),(1,y.v),(5,az (some g0) 0 (nb a+nb b+1) (nb a+nb b+1)),(6,bz i),(7,bz (xY a b i k)),(8,bz k)],[⟨x.b,3,NV .i64 (D8 a),x.n,false⟩,⟨y.b,3,NV .i64 (D8 b),y.n,false⟩,⟨some g0,3,NV .i64 (row (nb a+nb b+1) (EJ a b i k)),(nb a+nb b+1),true⟩],nb b+1-k)) ⟨0,Nat.zero_le _⟩ ?_ (ht:=⟨rfl,rfl,rfl,rfl,(aB rfl (by rw[Yg];rfl)),rfl,trivial⟩) (hL:=(jP (congrArg (fun c=>[⟨x.b,3,NV .i64 (D8 a),x.n,false⟩,⟨y.b,3,NV .i64 (D8 b),y.n,false⟩,(⟨some g0,3,NV .i64 c,(nb a+nb b+1),true⟩:aG)]) (bG fun j _=>(Yh a b i j).symm))));rintro⟨k,hk⟩;(try dsimp only);refine A8 ?_;refine Rs 27 ?_ ?_<;>intro hb3
  ·have hkb:k<nb b:=(by have:=of_decide_eq_true hb3;omega);have hkm:k<=nb b:=by omega
   have hcl:=wI a b i k;have hvx:=kN (qX a b i/256^(i+k));have hdm:=J6 (a/256^i) (b/256^k);have hax:=kN (a/256^i);have hbx:=kN (b/256^k);refine zT ?_;refine Ar (((i+k:Nat):Int)) ?_;refine Ix 2 (i+k) ?_;refine(Lo 2 (i+k)) (by exact(bn ((bU (by omega)).trans (by rw[Wl])))) ?_;refine A1 ?_;refine Ar (((qX a b i/256^(i+k)%256+xY a b i k:Nat):Int)) ?_;refine lX ?_;refine Cd ?_ ?_<;>intro hb4
   ·have hkj:k<nb b:=(by have:=of_decide_eq_true hb4;omega);have hcl:=wI a b i k;have hvx:=kN (qX a b i/256^(i+k));have hdm:=J6 (a/256^i) (b/256^k);have hax:=kN (a/256^i);have hbx:=kN (b/256^k);refine Di [] ?_;refine A3 ?_;refine ai 0 (i) jb uq rfl rfl rfl rfl rfl (by omega) (by omega) (lq (by rw[bY];omega)) (by show 0+Int.toNat _*1=_;omega) ?_;refine(Lo 0 (i)) (by exact(bn (jk (by omega)))) ?_;refine A2 ?_;refine ai 1 (k) jb uq rfl rfl rfl rfl rfl (by omega) (by omega) (lq (by rw[bY];omega)) (by show 0+Int.toNat _*1=_;omega) ?_;refine(Lo 1 (k)) (by exact(bn (jk (by omega)))) ?_;refine(Aq ((a/256^i%256*(b/256^k%256):Nat):Int)) (by exact(congrArg some (wi (by rw[<-Int.natCast_mul];omega) (by rw[<-Int.natCast_mul];omega) (Int.natCast_mul _ _).symm))) ?_;refine(Aq ((uM a b i k:Nat):Int)) (by exact(congrArg some (wi (by omega) (by omega) (by unfold uM;omega)))) ?_;refine A7 ?_;refine Ar (((i+k:Nat):Int)) ?_;refine A1 ?_;refine(Dv ((uM a b i k%256:Nat):Int)) (congrArg some (eY _ 256 rfl rfl)) ?_;refine A1 ?_;refine(Dv ((xY a b i (k+1):Nat):Int)) (by exact(congrArg some ((mY _ 256 rfl rfl (by have:=EK a b i k;omega)).trans (by rw[uO])))) ?_;refine Ix 2 (i+k) ?_;refine(S1 2 (i+k) [_,_,⟨some g0,3,_,_,true⟩] (NV .i64 (row (nb a+nb b+1) (EJ a b i (k+1))))) (by exact(by rw[aA,ak];omega)) (by exact(by rw[dG,bZ (fun j _=>BF a b i k j)])) ?_;refine A6 ?_;refine Ar (((k+1:Nat):Int)) ?_;refine A3 ?_;exact Nl ⟨k+1,Nat.succ_le_succ hkm⟩ (hμ:=(by show nb b+1-(k+1)<nb b+1-k;omega))
   ·have hkj:nb b<=k:=(by have:=of_decide_eq_false hb4;omega);have hcl:=wI a b i k;have hvx:=kN (qX a b i/256^(i+k));have hdm:=J6 (a/256^i) (b/256^k);have hax:=kN (a/256^i);have hbx:=kN (b/256^k);refine dn 9 (bz (uM a b i k)) rfl (congrArg (Value.int .i64) (by unfold uM;rw[jC hkj];omega)) ?_;have hS:uM a b i k<131072:=by rw[BG a b i hkj];omega
    refine A6 ?_;refine Ar (((i+k:Nat):Int)) ?_;refine A1 ?_;refine(Dv ((uM a b i k%256:Nat):Int)) (congrArg some (eY _ 256 rfl rfl)) ?_;refine A1 ?_;refine(Dv ((xY a b i (k+1):Nat):Int)) (by exact(congrArg some ((mY _ 256 rfl rfl (by have:=EK a b i k;omega)).trans (by rw[uO])))) ?_;refine Ix 2 (i+k) ?_;refine(S1 2 (i+k) [_,_,⟨some g0,3,_,_,true⟩] (NV .i64 (row (nb a+nb b+1) (EJ a b i (k+1))))) (by exact(by rw[aA,ak];omega)) (by exact(by rw[dG,bZ (fun j _=>BF a b i k j)])) ?_;refine A6 ?_;refine Ar (((k+1:Nat):Int)) ?_;refine A3 ?_;exact Nl ⟨k+1,Nat.succ_le_succ hkm⟩ (hμ:=(by show nb b+1-(k+1)<nb b+1-k;omega))
  ·have hkb:nb b<=k:=(by have:=of_decide_eq_false hb3;omega);refine A5 ?_;refine Cd ?_ ?_<;>intro hb4
   ·have hkm:=qaA a b i k (by have:=of_decide_eq_true hb4;omega);have hcl:=wI a b i k;have hvx:=kN (qX a b i/256^(i+k));have hdm:=J6 (a/256^i) (b/256^k);have hax:=kN (a/256^i);have hbx:=kN (b/256^k);refine A9 ?_;refine Ar (((i+k:Nat):Int)) ?_;refine Ix 2 (i+k) ?_;refine(Lo 2 (i+k)) (by exact(bn ((bU (by omega)).trans (by rw[Wl])))) ?_;refine A1 ?_;refine Ar (((qX a b i/256^(i+k)%256+xY a b i k:Nat):Int)) ?_;refine lX ?_;refine Cd ?_ ?_<;>intro hb5
    ·have hkj:k<nb b:=(by have:=of_decide_eq_true hb5;omega);have hcl:=wI a b i k;have hvx:=kN (qX a b i/256^(i+k));have hdm:=J6 (a/256^i) (b/256^k);have hax:=kN (a/256^i);have hbx:=kN (b/256^k);refine Di [] ?_;refine A3 ?_;refine ai 0 (i) jb uq rfl rfl rfl rfl rfl (by omega) (by omega) (lq (by rw[bY];omega)) (by show 0+Int.toNat _*1=_;omega) ?_;refine(Lo 0 (i)) (by exact(bn (jk (by omega)))) ?_;refine A2 ?_;refine ai 1 (k) jb uq rfl rfl rfl rfl rfl (by omega) (by omega) (lq (by rw[bY];omega)) (by show 0+Int.toNat _*1=_;omega) ?_;refine(Lo 1 (k)) (by exact(bn (jk (by omega)))) ?_;refine(Aq ((a/256^i%256*(b/256^k%256):Nat):Int)) (by exact(congrArg some (wi (by rw[<-Int.natCast_mul];omega) (by rw[<-Int.natCast_mul];omega) (Int.natCast_mul _ _).symm))) ?_;refine(Aq ((uM a b i k:Nat):Int)) (by exact(congrArg some (wi (by omega) (by omega) (by unfold uM;omega)))) ?_;refine A7 ?_;refine Ar (((i+k:Nat):Int)) ?_;refine A1 ?_;refine(Dv ((uM a b i k%256:Nat):Int)) (congrArg some (eY _ 256 rfl rfl)) ?_;refine A1 ?_;refine(Dv ((xY a b i (k+1):Nat):Int)) (by exact(congrArg some ((mY _ 256 rfl rfl (by have:=EK a b i k;omega)).trans (by rw[uO])))) ?_;refine Ix 2 (i+k) ?_;refine(S1 2 (i+k) [_,_,⟨some g0,3,_,_,true⟩] (NV .i64 (row (nb a+nb b+1) (EJ a b i (k+1))))) (by exact(by rw[aA,ak];omega)) (by exact(by rw[dG,bZ (fun j _=>BF a b i k j)])) ?_;refine A6 ?_;refine Ar (((k+1:Nat):Int)) ?_;refine A3 ?_;exact Nl ⟨k+1,Nat.succ_le_succ hkm⟩ (hμ:=(by show nb b+1-(k+1)<nb b+1-k;omega))
    ·have hkj:nb b<=k:=(by have:=of_decide_eq_false hb5;omega);have hcl:=wI a b i k;have hvx:=kN (qX a b i/256^(i+k));have hdm:=J6 (a/256^i) (b/256^k);have hax:=kN (a/256^i);have hbx:=kN (b/256^k);refine dn 9 (bz (uM a b i k)) rfl (congrArg (Value.int .i64) (by unfold uM;rw[jC hkj];omega)) ?_;have hS:uM a b i k<131072:=by rw[BG a b i hkj];omega
     refine A6 ?_;refine Ar (((i+k:Nat):Int)) ?_;refine A1 ?_;refine(Dv ((uM a b i k%256:Nat):Int)) (congrArg some (eY _ 256 rfl rfl)) ?_;refine A1 ?_;refine(Dv ((xY a b i (k+1):Nat):Int)) (by exact(congrArg some ((mY _ 256 rfl rfl (by have:=EK a b i k;omega)).trans (by rw[uO])))) ?_;refine Ix 2 (i+k) ?_;refine(S1 2 (i+k) [_,_,⟨some g0,3,_,_,true⟩] (NV .i64 (row (nb a+nb b+1) (EJ a b i (k+1))))) (by exact(by rw[aA,ak];omega)) (by exact(by rw[dG,bZ (fun j _=>BF a b i k j)])) ?_;refine A6 ?_;refine Ar (((k+1:Nat):Int)) ?_;refine A3 ?_;exact Nl ⟨k+1,Nat.succ_le_succ hkm⟩ (hμ:=(by show nb b+1-(k+1)<nb b+1-k;omega))
   ·have hc0:xY a b i k=0:=by have:=of_decide_eq_false hb4;omega
    refine A8 ?_;refine Ar (((i+1:Nat):Int)) ?_;refine A3 ?_;exact Nl ⟨i+1,hlt⟩ (hL:=(jP (congrArg (fun c=>[⟨x.b,3,NV .i64 (D8 a),x.n,false⟩,⟨y.b,3,NV .i64 (D8 b),y.n,false⟩,(⟨some g0,3,NV .i64 c,(nb a+nb b+1),true⟩:aG)]) (bG fun j _=>Yj a b i k j hkb hc0))))
 ·have hge:i=nb a:=(by have:=of_decide_eq_false hb1;omega);subst hge;refine A8 ?_;refine iq [_] [2] rfl rfl rfl (jm (row (nb a+nb b+1) (DI a b (nb a))) (kU fun j=>Wn _ _ _ j) (by rw[ak];omega) (ak _ _) ⟨some g0,_,_,Nat.le_refl _⟩) ⟨pS,trivial⟩ rfl ?_;refine aT 66 (az (some g0) 0 (nb (a*b)) (nb a+nb b+1)) rfl (by rw[Rx];rfl) ?_;refine A4 ?_;refine aH rfl (aj rfl) (fun w hL=>⟨⟨some g0,(nb a+nb b+1),(nb a+nb b+1),Nat.le_trans (oQ a b) (by omega)⟩,rfl,?_⟩);exact hL.picks [some 2] ⟨⟨_,rfl,rfl,rfl,rfl,⟨nb (a*b),qaB a b⟩,fun _=>rfl⟩,trivial⟩ rfl rfl
end Go.Proofs.YtaffcpfhedadhaaGreatDoor
namespace Go.Via
open Go Go.RowKit
def qaX{q:Rat}:∀(z:SR (nb q.num.natAbs)×SR (nb q.den)),∀c∈([⟨z.1.b,3,NV .i64 (D8 q.num.natAbs),z.1.n,true⟩,⟨z.2.b,3,NV .i64 (D8 q.den),z.2.n,true⟩]:List aG),c.own=true:=by
 intro z c hc;simp only[List.mem_cons,List.mem_nil_iff,or_false] at hc;rcases hc with rfl|rfl<;>rfl
def im(z:Int)(i:Nat):Int:=if z<0 then-((z.natAbs/256^i:Nat):Int) else((z.natAbs/256^i:Nat):Int)
def imR(z:Int)(i:Nat):Int:=if z<0 then-((qE z.natAbs i:Nat):Int) else((qE z.natAbs i:Nat):Int)
def qew(z:Int):im z 0=z:=by unfold im;rw[Nat.pow_zero,Nat.div_one];split<;>omega
def qex(z:Int)(i:Nat):(im z i).tmod 256=imR z i:=by
 unfold im imR qE
 split
 ·rw[Int.neg_tmod,show(256:Int)=((256:Nat):Int) from rfl,<-Int.ofNat_tmod]
 ·rw[show(256:Int)=((256:Nat):Int) from rfl,<-Int.ofNat_tmod]
def qey{z:Int}{i:Nat}(h:imR z i<0):IntKind.i64.wrap (0-imR z i)=((qE z.natAbs i:Nat):Int):=by
 have hd:=Ak z.natAbs i;unfold imR at*
 by_cases hz:z<0
 ·rw[if_pos hz] at*;exact wi (by omega) (by omega) (by omega)
 ·rw[if_neg hz] at*;omega
def qez{z:Int}{i:Nat}(h:¬imR z i<0):imR z i=((qE z.natAbs i:Nat):Int):=by
 unfold imR at*
 by_cases hz:z<0
 ·rw[if_pos hz] at*;omega
 ·rw[if_neg hz] at*
def qaY{z:Int}{i:Nat}(h1: -9223372036854775808<=z)(h2:z<=9223372036854775807): -9223372036854775808<=im z i∧im z i<=9223372036854775807:=by
 have h3:z.natAbs/256^i<=z.natAbs:=Nat.div_le_self _ _;unfold im
 generalize z.natAbs/256^i=k at*
 split<;>omega
def WG(z:Int)(i:Nat)(h1: -9223372036854775808<=z)(h2:z<=9223372036854775807):IntKind.i64.wrap ((im z i).tdiv 256)=im z (i+1):=by
 have e:(im z i).tdiv 256=im z (i+1):=by
  unfold im
  split
  ·rw[Int.neg_tdiv,show(256:Int)=((256:Nat):Int) from rfl,<-Int.ofNat_tdiv,UN]
  ·rw[show(256:Int)=((256:Nat):Int) from rfl,<-Int.ofNat_tdiv,UN]
 have:=qaY (i:=i+1) h1 h2;exact wi (by rw[e];omega) (by rw[e];omega) e
def qjf{z:Int}{i:Nat}(h:(im z i !=0)=true):i<nb z.natAbs:=by
 have h1:im z i≠0:=(by simpa using h);refine NM (Nat.pos_of_ne_zero fun e=>h1 ?_);unfold im;rw[e];split<;>rfl
def qhh{z:Int}{i:Nat}(h:(im z i !=0)=false)(hi:i<=nb z.natAbs):i=nb z.natAbs:=by
 have h1:im z i=0:=(by simpa using h);refine NP (n:=z.natAbs) ?_ hi;unfold im at h1
 split at h1<;>omega
def qfQ{a:Int}(h1: -9223372036854775808<=a)(h2:a<=9223372036854775807):jH a<=8388608:=by
 have:jH a<=8:=nY (by omega);omega
def qaZ(z:Int):dw (z:Rat)<=nb z.natAbs+1:=by
 show max (nb z.natAbs) (nb 1)<=_;rw[qg];omega
theorem qhi(q:Rat):dm (-q)=dm q:=by unfold dm;rw[Rat.neg_den]
theorem qfR(q:Rat):Q (-q)= .agg #[.bool (decide (-q.num<0)),.string (bQ q.num.natAbs),.bool false,.string (dm q)]:=by
 unfold Q;rw[qhi,Rat.neg_num,Int.natAbs_neg]
theorem qhj(n:Nat):(bQ n !=⟨#[]⟩)=decide (n≠0):=by
 rw[uo]
def qhk{q:Rat}(h:(!decide (q.num<0))=true):Value.agg #[.bool (bQ q.num.natAbs !=⟨#[]⟩),.string (bQ q.num.natAbs),.bool false,.string (dm q)]=Q (-q):=by
 rw[qfR,qhj];have h1:¬q.num<0:=by simpa using h
 rw[show decide (q.num.natAbs≠0)=decide (-q.num<0) from decide_eq_decide.2 ⟨fun _=>by omega,fun _=>by omega⟩]
def qhl{q:Rat}(h:(!decide (q.num<0))=false):Value.agg #[.bool false,.string (bQ q.num.natAbs),.bool false,.string (dm q)]=Q (-q):=by
 rw[qfR];have h1:q.num<0:=by simpa using h
 rw[decide_eq_false (show¬ -q.num<0 by omega)]
end Go.Via
namespace Go.Proofs.YtaffcpfhedadhaaGreatDoor
variable[Go.Via.Mo]
open Go Go.RowKit Go.Via
def ve(q:Rat)(hq:dw q<=500000000:=by omega):dh Tryz.prog 69 [] [Q q] (SR (nb q.num.natAbs)×SR (nb q.den)) (fun z=> .agg #[.bool (decide (q.num<0)),z.1.v,z.2.v]) (fun z=>[⟨z.1.b,3,NV .i64 (D8 q.num.natAbs),z.1.n,true⟩,⟨z.2.b,3,NV .i64 (D8 q.den),z.2.n,true⟩]):=by
 refine Md 19 Tryz.func69 fun w hL0=>?_;refine A2 ?_;refine Bp 4 (fun g0=>?_);refine Al 3 XV (fun g1=>?_);refine A5 ?_;refine L2 0 2 ?_;refine aT 5 (I (dz q)) rfl (qi7 q) ?_;refine(Sc []) (nJ (dz q) (by have:=qi8 q;omega)) (fun xd=>?_);refine oO ?_;refine Cd ?_ ?_<;>intro hb0
 ·have hd1:q.den=1:=qkZ (by simpa using hb0);have hd2:nb q.den=1:=by rw[hd1,qg]
  refine A1 ?_;refine(Bl 1 [(0,_)]) (gW) (fun g2=>?_);refine A4 ?_;refine Dp [] [0,1,2,3,4,6,5,7,8] ?_;refine A4 ?_;refine L2 0 0 ?_;refine A1 ?_;refine(Sc []) (nJ q.num (by have:=mF hq;omega)) (fun xn=>?_);refine(Bu [(0,_),(1,_),(2,_)]) (wE) ?_;refine Ss 1 ?_;refine A3 ?_;refine aH rfl (bu 1 rfl rfl qfG (vs:=[_,_,_]) rfl rfl (Nat.le_of_ble_eq_true rfl) rfl) (fun w hL=>⟨(xn,⟨some g2,1,1,by rw[hd2];exact Nat.le_refl _⟩),?_,hL.picks [some 4,some 3] ⟨pR,⟨_,rfl,aI (congrArg (fun l=>(⟨some g2,3,NV .i64 l,1,true⟩:aG)) (show D8 q.den=[1] by rw[hd1,UT]))⟩,trivial⟩ rfl rfl⟩);exact congrArg (fun n=>Ending.returned (.agg #[.bool (decide (q.num<0)),xn.v,az (some g2) 0 n 1])) hd2.symm
 ·have hd1:(dz q).natAbs=q.den:=qk0 (by simpa using hb0);refine A3 ?_;refine Dp [] [0,1,2,3,4,6,5,7,8] ?_;refine A4 ?_;refine L2 0 0 ?_;refine A1 ?_;refine(Sc []) (nJ q.num (by have:=mF hq;omega)) (fun xn=>?_);refine(Bu [(0,_),(1,_),(2,_)]) (wE) ?_;refine Ss 1 ?_;refine A3 ?_;refine aH rfl (bu 1 rfl rfl qfG (vs:=[_,_,_]) rfl rfl (Nat.le_of_ble_eq_true rfl) rfl) (fun w hL=>⟨(xn,⟨xd.b,xd.n,xd.cap,by rw[<-hd1];exact xd.h⟩),?_,hL.picks [some 3,some 2] ⟨pR,⟨_,rfl,aI (congrArg (fun n=>(⟨xd.b,3,NV .i64 (D8 n),xd.n,true⟩:aG)) hd1.symm)⟩,trivial⟩ rfl rfl⟩);exact congrArg (fun n=>Ending.returned (.agg #[.bool (decide (q.num<0)),xn.v,az xd.b 0 (nb n) xd.cap])) hd1
def iW(n d:Nat)(neg:Bool)(hd:0<d)(hn:nb n<=1073740000)(hdn:nb d<=1073740000)(x:SR (nb n))(y:SR (nb d)):dh Tryz.prog 70 [⟨x.b,3,NV .i64 (D8 n),x.n,false⟩,⟨y.b,3,NV .i64 (D8 d),y.n,false⟩] [.agg #[.bool neg,x.v,y.v]] Unit (fun _=>Q (Rat.divInt (sg neg n) (d:Int))) (fun _=>[]):=by
 refine⟨by kernel_rfl,fun w hL0=>?_⟩;have hg0:0<Nat.gcd n d:=Nat.gcd_pos_of_pos_right n hd;have hgn:nb (Nat.gcd n d)<=1073740000:=Nat.le_trans (ik (Nat.gcd_le_right n hd)) hdn;refine cB1 43 Tryz.func70 hL0 ?_;refine A2 ?_;refine Bp 3 (fun g0=>?_);refine Al 4 qV (fun g1=>?_);refine A8 ?_;refine Jo [_,_] [0,1] rfl rfl rfl (KG n d hn hdn x y) ⟨pS,pS,trivial⟩ rfl rfl (fun zg=>?_);refine A8 ?_;refine Jo [_,_] [0,4] rfl rfl rfl (Wx (fun g hg=>⟨_,List.mem_cons_self,hg⟩) rfl (ql n (Nat.gcd n d) hg0 hn hgn x zg)) ⟨pS,pS,trivial⟩ rfl rfl (fun zn=>?_);refine lX ?_;refine Jo [_,_] [1,4] rfl rfl rfl (Wx (fun g hg=>⟨_,List.mem_cons_self,hg⟩) rfl (ql d (Nat.gcd n d) hg0 hdn hgn y zg)) ⟨pS,pS,trivial⟩ rfl rfl (fun zd=>?_);refine D6 ?_;refine Rs 30 ?_ ?_<;>intro hb0
 ·have hl1:nb (d/Nat.gcd n d)=1:=by have:=eq_of_beq hb0;omega
  refine A1 ?_;refine ai 7 (0) jb uq rfl rfl rfl rfl rfl (by omega) (by omega) (lq (by rw[bY];omega)) (by show 0+Int.toNat _*1=_;omega) ?_;refine(Lo 7 (0)) (by exact(bn (jk (by omega)))) ?_;refine A4 ?_;refine Cd ?_ ?_<;>intro hb1
  ·have hd1:d/Nat.gcd n d=1:=by have:=eq_of_beq hb1;rw[Wy hl1] at this;omega
   refine Vz _ (au (L':=[_,_,_,_,_,_,_,_,_,⟨none,3,NV .i64 (D8 0),0,false⟩]) [some 0,some 1,some 2,some 3,some 4,some 5,some 6,some 7,some 8,none] ⟨pR,pR,pR,pR,pR,pR,pR,pR,pR,⟨rfl,PG,rfl⟩,trivial⟩ rfl rfl) ?_;refine A9 ?_;refine(Sd [5]) (kH (n/Nat.gcd n d) neg (by have:=wW n (Nat.gcd n d);omega) zn.1) ?_;refine A1 ?_;refine aT 40 (az none 0 (nb 0) 0) rfl (by rw[kS];rfl) ?_;refine iq [_,_] [9] rfl rfl rfl (kH 0 false (by rw[kS];omega) ⟨none,0,0,by rw[kS];exact Nat.le_refl _⟩) ⟨pR,trivial⟩ rfl ?_;refine(Bu [(0,_),(1,_)]) (Ad) ?_;refine Ss 3 ?_;refine A3 ?_;refine Ec4 3 fun w hL=>⟨(),?_,hL.pk []⟩;exact congrArg Ending.returned (Eq.trans (by rw[show(if false=true then-((0:Nat):Int) else((0:Nat):Int))=0 from rfl,show(0:Int).natAbs=0 from rfl,je];rfl) (qaJ neg hd hd1))
  ·have hd1:d/Nat.gcd n d≠1:=by have:=ne_of_beq_false hb1;rw[Wy hl1] at this;omega
   refine A7 ?_;refine(Sd [5]) (kH (n/Nat.gcd n d) neg (by have:=wW n (Nat.gcd n d);omega) zn.1) ?_;refine A1 ?_;refine(Sd [7]) (kH (d/Nat.gcd n d) false (by have:=wW d (Nat.gcd n d);omega) zd.1) ?_;refine(Bu [(0,_),(1,_)]) (Ad) ?_;refine Ss 3 ?_;refine A3 ?_;refine Ec4 3 fun w hL=>⟨(),?_,hL.pk []⟩;exact congrArg Ending.returned (RH neg hd hd1)
 ·have hd1:d/Nat.gcd n d≠1:=Me (by simpa using hb0);refine zT ?_;refine(Sd [5]) (kH (n/Nat.gcd n d) neg (by have:=wW n (Nat.gcd n d);omega) zn.1) ?_;refine A1 ?_;refine(Sd [7]) (kH (d/Nat.gcd n d) false (by have:=wW d (Nat.gcd n d);omega) zd.1) ?_;refine(Bu [(0,_),(1,_)]) (Ad) ?_;refine Ss 3 ?_;refine A3 ?_;refine Ec4 3 fun w hL=>⟨(),?_,hL.pk []⟩;exact congrArg Ending.returned (RH neg hd hd1)
end Go.Proofs.YtaffcpfhedadhaaGreatDoor
namespace Go.Proofs.YtaffcpfhedadhaaGreatDoor
variable[Go.Via.Mo]
open Go Go.RowKit Go.Via
def PQ(n d:Int)(hd:d≠0:=by omega)(hn:jH n<=8388608:=by omega)(hdn:jH d<=8388608:=by omega):aP Tryz.prog 64 #[I n,I d] (Q (Rat.divInt n d)):=by
 refine oG 16 Tryz.func64 fun w=>?_;refine A2 ?_;refine Bp 2 (fun g0=>?_);refine Bp 2 (fun g1=>?_);refine Al 4 qV (fun g2=>?_);refine A3 ?_;refine Dp [] [0,1,2,3,4,5,7,6,8,9,10,11] ?_;refine A4 ?_;refine pq rfl u4 rfl rfl rfl ?_;refine L2 0 0 ?_;refine L2 1 0 ?_;refine(Sc []) (nJ n (Nat.le_trans hn (Nat.le_of_ble_eq_true rfl))) (fun xn=>?_);refine(Sc []) (nJ d (Nat.le_trans hdn (Nat.le_of_ble_eq_true rfl))) (fun xd=>?_);refine(Bu [(0,_),(1,_),(2,_)]) (wE) ?_;refine(Sd [3,4]) (iW n.natAbs d.natAbs (decide (n<0) !=decide (d<0)) (by omega) (Nat.le_trans hn (Nat.le_of_ble_eq_true rfl)) (Nat.le_trans hdn (Nat.le_of_ble_eq_true rfl)) xn xd) ?_;refine aT 15 (Q (Rat.divInt n d)) rfl (congrArg Q (qec n d hd)) ?_;refine Ss 2 ?_;refine A3 ?_;refine G7 2 ?_;exact rfl
def Ho(z:Int)(h1: -9223372036854775808<=z:=by omega)(h2:z<=9223372036854775807:=by omega):aP Tryz.prog 65 #[.int .i64 z] (I z):=by
 have hnb:nb z.natAbs<=8:=nY (by omega);refine xJ 25 Tryz.func65 fun w=>?_;refine A2 ?_;refine Al 2 xR (fun g0=>?_);refine zT ?_;refine El (ι:={x:Nat×Option Nat×Nat×Nat // x.1<=nb z.natAbs∧x.1<=x.2.2.2∧x.2.2.2<=x.2.2.1}) (fun⟨⟨i,ob,oN,oc⟩,hi,h3,h4⟩=>([(0,.int .i64 z),(2,dV g0),(3,az ob 0 i oc),(4,.int .i64 (im z i))],[⟨some g0,34,[aX,aY],2,true⟩,⟨ob,3,NV .i64 (row i (qE z.natAbs)),oN,true⟩],nb z.natAbs-i)) ⟨(0,none,0,0),Nat.zero_le _,Nat.le_refl _,Nat.le_refl _⟩ ?_ (ht:=⟨rfl,rfl,rfl,(aB rfl (congrArg (Value.int .i64) (qew z).symm)),trivial⟩) (hL:=(au [some 0,none] ⟨pR,⟨rfl,rfl,rfl⟩,trivial⟩ rfl rfl));rintro⟨⟨i,ob,oN,oc⟩,hi,h3,h4⟩;(try dsimp only);replace hi:i<=nb z.natAbs:=hi;replace h3:i<=oc:=h3;replace h4:oc<=oN:=h4;have hdg:=Ak z.natAbs i;refine A7 ?_;refine Cd ?_ ?_<;>intro hb1
 ·have hlt:=qjf hb1;refine A6 ?_;refine(Dv (imR z i)) (congrArg some (qex z i)) ?_;refine lm ?_;refine Cd ?_ ?_<;>intro hb2
  ·have HB12:=hb2;refine A2 ?_;refine(Aq ((qE z.natAbs i:Nat):Int)) (congrArg some (qey (of_decide_eq_true HB12))) ?_;refine A7 ?_;refine(Bl 1 [(0,_)]) (gW) (fun g1=>?_);refine fH (s:=1) (len:=i) (n2:=1) 1 2 (fun r=>[_,⟨some r.g,3,NV .i64 (row (i+1) (qE z.natAbs)),r.n,true⟩,⟨some g1,3,_,1,true⟩]) jb H8 rfl rfl rfl rfl rfl rfl rfl rfl rfl rfl rfl rfl (by rw[aA,ak];omega) (by omega) (by show oc*1<=oN;omega) rfl (Go.Via.one_cell _ _) (by omega) (fun r=>congrArg (fun c=>[_,(⟨some r.g,3,c,r.n,true⟩:aG),⟨some g1,3,_,1,true⟩]) (iV _ _ _ _ (rfl))) (fun r=>?_);refine A5 ?_;refine(Dv (im z (i+1))) (congrArg some (WG z i h1 h2)) ?_;refine A4 ?_;exact Nl ⟨(i+1,some r.g,r.n,r.cap),hlt,r.h,by have:=r.hn;show r.cap<=r.n;omega⟩ (hμ:=(by show nb z.natAbs-(i+1)<nb z.natAbs-i;omega)) (hL:=eG.auto)
  ·refine dn 5 (bz (qE z.natAbs i)) rfl (congrArg (Value.int .i64) (qez (of_decide_eq_false hb2))) ?_;refine A6 ?_;refine(Bl 1 [(0,_)]) (gW) (fun g1=>?_);refine fH (s:=1) (len:=i) (n2:=1) 1 2 (fun r=>[_,⟨some r.g,3,NV .i64 (row (i+1) (qE z.natAbs)),r.n,true⟩,⟨some g1,3,_,1,true⟩]) jb H8 rfl rfl rfl rfl rfl rfl rfl rfl rfl rfl rfl rfl (by rw[aA,ak];omega) (by omega) (by show oc*1<=oN;omega) rfl (Go.Via.one_cell _ _) (by omega) (fun r=>congrArg (fun c=>[_,(⟨some r.g,3,c,r.n,true⟩:aG),⟨some g1,3,_,1,true⟩]) (iV _ _ _ _ (rfl))) (fun r=>?_);refine A5 ?_;refine(Dv (im z (i+1))) (congrArg some (WG z i h1 h2)) ?_;refine A4 ?_;exact Nl ⟨(i+1,some r.g,r.n,r.cap),hlt,r.h,by have:=r.hn;show r.cap<=r.n;omega⟩ (hμ:=(by show nb z.natAbs-(i+1)<nb z.natAbs-i;omega)) (hL:=eG.auto)
 ·have hge:=qhh hb1 hi;subst hge;refine lm ?_;refine iq [_,_] [1] rfl rfl rfl (kH z.natAbs (decide (z<0)) (by omega) ⟨ob,oN,oc,h3⟩) ⟨⟨_,rfl,⟨rfl,rfl,rfl,⟨nb z.natAbs,by rw[J4,List.take_of_length_le (by rw[aA,bY];exact Nat.le_refl _)]⟩,fun h=>by cases h⟩⟩,trivial⟩ rfl ?_;refine aT 24 (I z) rfl (congrArg I (by by_cases hz:z<0<;>simp[hz]<;>omega)) ?_;refine Ss 0 ?_;refine A3 ?_;refine Qs 0 ?_;exact rfl
def jd(a b:Int)(ha1: -9223372036854775808<=a:=by omega)(ha2:a<=9223372036854775807:=by omega)(hb1: -9223372036854775808<=b:=by omega)(hb2:b<=9223372036854775807:=by omega)(hb0:b≠0:=by omega):aP Tryz.prog 24 #[.int .i64 a,.int .i64 b] (Q (Rat.divInt a b)):=by
 refine oG 10 Tryz.func24 fun w=>?_;refine A2 ?_;refine Al 4 qV (fun g0=>?_);refine A5 ?_;refine Pc (Ho a ha1 ha2) ?_;refine A1 ?_;refine Pc (Ho b hb1 hb2) ?_;refine Pc (PQ a b hb0 (qfQ ha1 ha2) (qfQ hb1 hb2)) ?_;refine Ss 0 ?_;refine A3 ?_;refine G7 0 ?_;exact rfl
def Hq(q:Rat):aP Tryz.prog 67 #[Q q] (Q (-q)):=by
 refine xJ 16 Tryz.func67 fun w=>?_;refine A2 ?_;refine Bp 4 (fun g0=>?_);refine Al 4 qV (fun g1=>?_);refine A9 ?_;refine Rs 7 ?_ ?_<;>intro hb0
 ·refine A7 ?_;refine Ss 0 ?_;refine A4 ?_;refine L4 0 0 ?_;refine Ss 1 ?_;refine A3 ?_;refine G7 1 ?_;exact congrArg Ending.returned (qhk hb0)
 ·refine A7 ?_;refine Ss 0 ?_;refine A4 ?_;refine L4 0 0 ?_;refine Ss 1 ?_;refine A3 ?_;refine G7 1 ?_;exact congrArg Ending.returned (qhl hb0)
end Go.Proofs.YtaffcpfhedadhaaGreatDoor
namespace Go.Proofs.YtaffcpfhedadhaaGreatDoor
variable[Go.Via.Mo]
open Go Go.RowKit Go.Via
def iG(p q:Rat)(hp:dw p<=4194303:=by omega)(hq:dw q<=4194303:=by omega):aP Tryz.prog 63 #[Q p,Q q] (Q (p+q)):=by
 have e1:=JA hp;have e2:=JB hp;have e3:=JA hq;have e4:=JB hq;have m1:=oQ p.num.natAbs q.num.natAbs;have m2:=oQ p.num.natAbs q.den;have m3:=oQ q.num.natAbs p.den;have m4:=oQ p.den q.den;have m5:=oQ p.den q.num.natAbs;have dp:0<p.den:=Nat.pos_of_ne_zero p.den_nz;have dq:0<q.den:=Nat.pos_of_ne_zero q.den_nz;have dpq:0<p.den*q.den:=Nat.mul_pos dp dq;have m6:=zV (p.num.natAbs*q.den) (q.num.natAbs*p.den);have m7:nb (p.num.natAbs*q.den-q.num.natAbs*p.den)<=nb (p.num.natAbs*q.den):=ik (Nat.sub_le _ _);have m8:nb (q.num.natAbs*p.den-p.num.natAbs*q.den)<=nb (q.num.natAbs*p.den):=ik (Nat.sub_le _ _);refine oG 64 Tryz.func63 fun w=>?_;refine A2 ?_;refine Bp 4 (fun g0=>?_);refine Bp 4 (fun g1=>?_);refine Al 4 qV (fun g2=>?_);refine A3 ?_;refine Dq [3000000] [0,2,1,3,4,5,6,7] ?_;refine L4 0 0 ?_;refine L4 1 0 ?_;refine iO [_] [] rfl rfl rfl (ve p (Nat.le_trans hp (Nat.le_of_ble_eq_true rfl))) trivial rfl (.inr qaX) (fun x=>?_);refine iO [_] [] rfl rfl rfl (ve q (Nat.le_trans hq (Nat.le_of_ble_eq_true rfl))) trivial rfl (.inr qaX) (fun y=>?_);refine Al 3 XV (fun g3=>?_);refine Al 3 XV (fun g4=>?_);refine Ss 7 ?_;refine Ss 8 ?_;refine A3 ?_;refine Dp [] [0,1,2,3,5,6,7,8,4,9,10,11] ?_;refine A8 ?_;refine(Sc [3,6]) (jy (p.num.natAbs) (q.den) (by omega) (by omega) x.1 y.2) (fun zP=>?_);refine(Sc [5,4]) (jy (q.num.natAbs) (p.den) (by omega) (by omega) y.1 x.2) (fun zQ=>?_);refine lm ?_;refine(Sc [4,6]) (jy (p.den) (q.den) (by omega) (by omega) x.2 y.2) (fun zD=>?_);refine oO ?_;refine FQ rfl u4 rfl rfl rfl ?_;refine A3 ?_;refine Cd ?_ ?_<;>intro hb0
 ·have hs:=hb0;refine A1 ?_;refine Dp [] [0,1,2,3,5,4,6,7,8] ?_;refine A5 ?_;refine(Sc [9,10]) (jZ (p.num.natAbs*q.den) (q.num.natAbs*p.den) (by omega) (by omega) zP zQ) (fun zS=>?_);refine(Bu [(0,_),(1,_),(2,_)]) (wE) ?_;refine(Sd [12,11]) (iW (p.num.natAbs*q.den+q.num.natAbs*p.den) (p.den*q.den) (decide (p.num<0)) dpq (by omega) (by omega) zS zD) ?_;refine aT 42 (Q (p+q)) rfl (congrArg Q (qed p q hs)) ?_;refine Ss 2 ?_;refine A5 ?_;refine G7 2 ?_;exact rfl
 ·have hs:=hb0;refine A4 ?_;refine(Sd [9,10]) (fU (p.num.natAbs*q.den) (q.num.natAbs*p.den) (by omega) zP zQ) ?_;refine A4 ?_;refine Cd ?_ ?_<;>intro hb1
  ·have hle:q.num.natAbs*p.den<=p.num.natAbs*q.den:=lu.1 (of_decide_eq_true hb1);refine A1 ?_;refine Dp [] [0,1,2,3,5,4,6,7,8] ?_;refine A5 ?_;refine(Sc [9,10]) (lV (p.num.natAbs*q.den) (q.num.natAbs*p.den) (by omega) hle zP zQ) (fun zS=>?_);refine(Bu [(0,_),(1,_),(2,_)]) (wE) ?_;refine(Sd [12,11]) (iW (p.num.natAbs*q.den-q.num.natAbs*p.den) (p.den*q.den) (decide (p.num<0)) dpq (by omega) (by omega) zS zD) ?_;refine aT 55 (Q (p+q)) rfl (congrArg Q (qee p q hs hle)) ?_;refine Ss 2 ?_;refine A5 ?_;refine G7 2 ?_;exact rfl
  ·have hle:p.num.natAbs*q.den<=q.num.natAbs*p.den:=by have:=of_decide_eq_false hb1;rw[lu] at this;omega
   refine A4 ?_;refine Dp [] [0,1,2,3,5,4,6,7,8] ?_;refine A5 ?_;refine(Sc [10,9]) (lV (q.num.natAbs*p.den) (p.num.natAbs*q.den) (by omega) hle zQ zP) (fun zS=>?_);refine(Bu [(0,_),(1,_),(2,_)]) (wE) ?_;refine(Sd [12,11]) (iW (q.num.natAbs*p.den-p.num.natAbs*q.den) (p.den*q.den) (decide (q.num<0)) dpq (by omega) (by omega) zS zD) ?_;refine aT 63 (Q (p+q)) rfl (congrArg Q (qef p q hs hle)) ?_;refine Ss 2 ?_;refine A3 ?_;refine G7 2 ?_;exact rfl
end Go.Proofs.YtaffcpfhedadhaaGreatDoor
namespace Go.Via
open Go Go.RowKit
def qa1{b:Bool}{s:ByteArray}(h:qC b s=false):∃z:Int,b=decide (z<0)∧s=bQ z.natAbs:=by
 unfold qC at h;rw[Bool.or_eq_false_iff] at h;obtain⟨h1,h2⟩:=h;have hs:bQ (mZ s.data.toList)=s:=ZK (s:=s) (fun e=>by rw[e] at h2;cases h2)
 by_cases h0:mZ s.data.toList=0
 ·refine⟨0,?_,?_⟩
  ·rw[h0,je] at hs;rw[<-hs,FZ] at h1
   simpa using h1
  ·rw[h0] at hs;rw[<-hs];rfl
 ·refine⟨if b then-(mZ s.data.toList:Int) else mZ s.data.toList,?_,?_⟩
  ·cases b
   ·simp only[Bool.false_eq_true,if_false];rw[decide_eq_false (by omega)]
   ·simp only[if_true];rw[decide_eq_true (by omega)]
  ·cases b
   ·simpa using hs.symm
   ·simpa using hs.symm
noncomputable def YC(b1:Bool)(s1:ByteArray)(b2:Bool)(s2:ByteArray):Bool:= @decide (∃q:Rat,Value.agg #[.bool b1,.string s1,.bool b2,.string s2]=Q q) (Classical.propDecidable _)
theorem I5{b1:Bool}{s1:ByteArray}{b2:Bool}{s2:ByteArray}:YC b1 s1 b2 s2=true↔∃q:Rat,b1=decide (q.num<0)∧s1=bQ q.num.natAbs∧b2=false∧s2=dm q:=by
 unfold YC;rw[@decide_eq_true_iff _ (Classical.propDecidable _)]
 constructor
 ·rintro⟨q,h⟩;unfold Q at h;simp only[Value.agg.injEq,Array.mk.injEq,List.cons.injEq,Value.bool.injEq,Value.string.injEq,and_true] at h;exact⟨q,h⟩
 ·rintro⟨q,rfl,rfl,rfl,rfl⟩;exact⟨q,rfl⟩
def I7{b1:Bool}{s1:ByteArray}{b2:Bool}{s2:ByteArray}(h:¬∃q:Rat,b1=decide (q.num<0)∧s1=bQ q.num.natAbs∧b2=false∧s2=dm q):YC b1 s1 b2 s2=false:=by
 rw[<-I5] at h;simpa using h
theorem qa3(z:Int):qC (decide (z<0)) (bQ z.natAbs)=false:=by
 unfold qC;rw[Bool.or_eq_false_iff];refine⟨?_,?_⟩
 ·rw[nS]
  by_cases h:z.natAbs=0
  ·have:z=0:=by omega
   subst this;rfl
  ·simp[h]
 ·have:=ZL z.natAbs;unfold qc8 at this
  simpa using this
theorem qhm(q:Rat):qC false (dm q)=false:=by
 have h1:(0:Int)<=q.den:=(by omega);unfold dm
 split
 ·unfold qC;rfl
 ·have:=qa3 (q.den:Int)
  rwa [decide_eq_false (by omega),Int.natAbs_natCast] at this
theorem qjg{b1:Bool}{s1:ByteArray}{b2:Bool}{s2:ByteArray}(h:qC b1 s1=true):YC b1 s1 b2 s2=false:=I7 fun⟨q,h1,h2,_,_⟩=>by
 rw[h1,h2,qa3] at h;cases h
theorem qjh{b1:Bool}{s1:ByteArray}{b2:Bool}{s2:ByteArray}(h:qC b2 s2=true):YC b1 s1 b2 s2=false:=I7 fun⟨q,h1,h2,h3,h4⟩=>by
 rw[h3,h4,qhm] at h;cases h
def qji{b1:Bool}{s1:ByteArray}{s2:ByteArray}:YC b1 s1 true s2=false:=I7 fun⟨q,h1,h2,h3,h4⟩=>by cases h3
theorem qjj{b1:Bool}{s1:ByteArray}{s2:ByteArray}(h:qC b1 s1=false)(h2:s2=⟨#[]⟩):YC b1 s1 false s2=true:=by
 obtain⟨z,rfl,rfl⟩:=qa1 h;exact I5.2 ⟨(z:Rat),by rw[Rat.num_intCast],by rw[Rat.num_intCast],rfl,by unfold dm;rw[Rat.den_intCast,if_pos rfl,h2]⟩
def Fa{m n:Nat}(h:bQ m=bQ n):m=n:=OZ.1 h
def qhn{z:Int}{d:Nat}(hd:0<d)(h:Nat.gcd z.natAbs d=1):∃q:Rat,q.num=z∧q.den=d:=⟨⟨z,d,by omega,h⟩,rfl,rfl⟩
def qeA{z:Int}{d:Nat}(hd:0<d)(h1:d≠1)(h:Nat.gcd z.natAbs d=1):YC (decide (z<0)) (bQ z.natAbs) false (bQ d)=true:=by
 obtain⟨q,rfl,rfl⟩:=qhn hd h;exact I5.2 ⟨q,rfl,rfl,rfl,by unfold dm;rw[if_neg h1]⟩
def qa4{z:Int}{d:Nat}(hd:0<d)(h:d=1∨Nat.gcd z.natAbs d≠1){b:Bool}:YC b (bQ z.natAbs) false (bQ d)=false:=I7 fun⟨q,h1,h2,h3,h4⟩=>by
 unfold dm at h4;have h2:=Fa h2
 split at h4
 ·rename_i h5
  have:bQ d=bQ 0:=(by rw[h4,je]);have:=Fa this;omega
 ·rename_i h5
  have:=Fa h4;subst this;rcases h with h|h
  ·exact h5 h
  ·exact h (by rw[h2];exact q.reduced)
def qfS{b:Bool}{s:ByteArray}(h:((if qC b s=true then(5:Int) else 0) !=0)=false):qC b s=false:=by
 cases hb:qC b s
 ·rfl
 ·rw[hb] at h;cases h
def qfT{b:Bool}{s:ByteArray}(h:((if qC b s=true then(5:Int) else 0) !=0)=true):qC b s=true:=by
 cases hb:qC b s
 ·rw[hb] at h;cases h
 ·rfl
def qho{b:Bool}{s:ByteArray}(h:((b==false)&&(s==⟨#[]⟩))=true):b=false∧s=⟨#[]⟩:=by
 rw[Bool.and_eq_true] at h;exact⟨eq_of_beq h.1,qav h.2⟩
def qhp{z:Int}(h:((decide (z<0)==false)&&(bQ z.natAbs==⟨#[]⟩))=false):z≠0:=fun e=>by
 subst e;rw[show(0:Int).natAbs=0 from rfl,je,FZ] at h;cases h
def qa5{e:Int}(h:decide (zX e 1<=0)=true):e<=1:=by
 have:=of_decide_eq_true h;unfold zX at this
 by_cases h1:e<1
 ·omega
 ·rw[if_neg h1] at this
  by_cases h2:1<e
  ·rw[if_pos h2] at this;omega
  ·omega
def qa6{e:Int}(h:decide (zX e 1<=0)=false):1<e:=by
 have:=of_decide_eq_false h;unfold zX at this
 by_cases h1:e<1
 ·rw[if_pos h1] at this;omega
 ·rw[if_neg h1] at this
  by_cases h2:1<e
  ·exact h2
  ·rw[if_neg h2] at this;omega
theorem qjk{z e:Int}(h0:e≠0)(h:e<=1):YC (decide (z<0)) (bQ z.natAbs) (decide (e<0)) (bQ e.natAbs)=false:=by
 by_cases hn:e<0
 ·rw[decide_eq_true hn];exact qji
 ·rw[decide_eq_false hn];exact qa4 (by omega) (.inl (by omega))
def qeB{z e:Int}(h:(!((decide (((Int.gcd z e:Nat):Int)<0)==decide ((1:Int)<0))&&(bQ ((Int.gcd z e:Nat):Int).natAbs==bQ (1:Int).natAbs)))=true):Int.gcd z e≠1:=fun e1=>by
 rw[e1] at h;simp[yH] at h
def qeC{z e:Int}(h:(!((decide (((Int.gcd z e:Nat):Int)<0)==decide ((1:Int)<0))&&(bQ ((Int.gcd z e:Nat):Int).natAbs==bQ (1:Int).natAbs)))=false):Int.gcd z e=1:=by
 rw[Bool.not_eq_false',Bool.and_eq_true,yH] at h;have:=Fa (of_decide_eq_true h.2)
 simpa using this
theorem qjl{z e:Int}(h:1<e)(hg:Int.gcd z e≠1):YC (decide (z<0)) (bQ z.natAbs) (decide (e<0)) (bQ e.natAbs)=false:=by
 rw[decide_eq_false (show¬e<0 by omega)];exact qa4 (by omega) (.inr hg)
theorem qhq{z e:Int}(h:1<e)(hg:Int.gcd z e=1):YC (decide (z<0)) (bQ z.natAbs) (decide (e<0)) (bQ e.natAbs)=true:=by
 rw[decide_eq_false (show¬e<0 by omega)];exact qeA (by omega) (by omega) hg
end Go.Via
namespace Go.Proofs.YtaffcpfhedadhaaGreatDoor
variable[Go.Via.Mo]
open Go Go.RowKit Go.Via
def qZ(z:Int):aP Tryz.prog 165 #[I z] (I (-z)):=by
 refine xJ 9 Tryz.func165 fun w=>?_;refine A2 ?_;refine Bp 2 (fun g0=>?_);refine Al 2 xR (fun g1=>?_);refine A9 ?_;refine Pc (dF _ _) ?_;refine Ss 1 ?_;refine A3 ?_;refine Qs 1 ?_;exact congrArg (fun z=>Ending.returned (I z)) (Uj z)
def xy(a b:Int)(ha:jH a<=67108864:=by omega)(hb:jH b<=67108864:=by omega):aP Tryz.prog 190 #[I a,I b] (I (a+b)):=by
 refine oG 42 Tryz.func190 fun w=>?_;refine A2 ?_;refine Bp 2 (fun g0=>?_);refine Bp 2 (fun g1=>?_);refine Al 2 xR (fun g2=>?_);refine lm ?_;refine FQ rfl u4 rfl rfl rfl ?_;refine A3 ?_;refine Cd ?_ ?_<;>intro hb0
 ·refine A1 ?_;refine Di [] ?_;refine A6 ?_;refine Pc (xm _ _ ha hb) ?_;refine Pc (dF _ _) ?_;refine Ss 2 ?_;refine A5 ?_;refine Qs 2 ?_;exact congrArg (fun z=>Ending.returned (I z)) (QT a b hb0)
 ·refine A6 ?_;refine Pc (mG _ _) ?_;refine A4 ?_;refine Cd ?_ ?_<;>intro hb1
  ·refine A1 ?_;refine Di [] ?_;refine A6 ?_;refine Pc (xu _ _ ha (VI _ _ hb1)) ?_;refine Pc (dF _ _) ?_;refine Ss 2 ?_;refine A5 ?_;refine Qs 2 ?_;exact congrArg (fun z=>Ending.returned (I z)) (Na a b hb0 (VI _ _ hb1))
  ·refine A4 ?_;refine Di [] ?_;refine A6 ?_;refine Pc (xu _ _ hb (VJ _ _ hb1)) ?_;refine Pc (dF _ _) ?_;refine Ss 2 ?_;refine A3 ?_;refine Qs 2 ?_;exact congrArg (fun z=>Ending.returned (I z)) (Nb a b hb0 (VJ _ _ hb1))
def gK(a b:Int)(ha:jH a<=67108864:=by omega)(hb:jH b<=67108864:=by omega):aP Tryz.prog 123 #[I a,I b] (I (a*b)):=by
 refine oG 16 Tryz.func123 fun w=>?_;refine A2 ?_;refine Bp 2 (fun g0=>?_);refine Bp 2 (fun g1=>?_);refine Al 2 xR (fun g2=>?_);refine A3 ?_;refine Di [] ?_;refine A4 ?_;refine pq rfl u4 rfl rfl rfl ?_;refine A4 ?_;refine Pc (CQ _ _ ha hb) ?_;refine Pc (dF _ _) ?_;refine Ss 2 ?_;refine A3 ?_;refine Qs 2 ?_;exact congrArg (fun z=>Ending.returned (I z)) (VK a b)
def yg(a b:Int)(ha:jH a<=33554432:=by omega)(hb:jH b<=33554432:=by omega)(h0:b≠0:=by omega):aP Tryz.prog 201 #[I a,I b] (.tuple #[I (a/b),I (a%b),.int .i64 0]):=by
 have szle:nb a.natAbs<=67108864:=Nat.le_trans ha (Nat.le_of_ble_eq_true rfl);have szle2:nb b.natAbs<=67108864:=Nat.le_trans hb (Nat.le_of_ble_eq_true rfl);refine oG 43 Tryz.func201 fun w=>?_;refine A2 ?_;refine Bp 2 (fun g0=>?_);refine Bp 2 (fun g1=>?_);refine Al 2 xR (fun g2=>?_);refine Al 2 xR (fun g3=>?_);refine oO ?_;refine Cd ?_ ?_<;>intro hb0
 ·exact absurd hb0 (by rw[nS];simp;omega)
 ·refine A8 ?_;refine dE [_,_] rfl rfl rfl (rP _ _ (by first|assumption|grind [dW,dX,dY,dZ,eF,dO,dP,bT,bJ,aS,dR,dI,jI]) (by first|assumption|grind [dW,dX,dY,dZ,eF,dO,dP,bT,bJ,aS,dR,dI,jI])) ?_;refine CB ?_;refine Rs 24 ?_ ?_<;>intro hb1
  ·refine A5 ?_;refine Cd ?_ ?_<;>intro hb2
   ·refine Dp [] [0,2,3,4,1,5,6,7] ?_;refine A4 ?_;refine dE [_,.string (bQ 1)] rfl rfl (by rw[qc9];rfl) (xm _ _ (Nat.le_trans (wW _ _) (Nat.le_trans ha (Nat.le_of_ble_eq_true rfl))) (Nat.le_trans (nY (k:=1) (by omega)) (Nat.le_of_ble_eq_true rfl))) ?_;refine dE [_,_] rfl rfl rfl (xu _ _ (by first|assumption|grind [dW,dX,dY,dZ,eF,dO,dP,bT,bJ,aS,dR,dI,jI]) (Nat.le_of_lt (Nat.mod_lt _ (by omega)))) ?_;refine lm ?_;refine pq rfl u4 rfl rfl rfl ?_;refine A1 ?_;refine Pc (dF _ _) ?_;refine A1 ?_;refine Pc (dF _ _) ?_;refine Ss 2 ?_;refine Ss 3 ?_;refine A4 ?_;refine yD rfl (bu 2 rfl rfl yK (vs:=[_,_]) rfl rfl (Nat.le_of_ble_eq_true rfl) rfl) (bu 3 rfl rfl yK (vs:=[_,_]) rfl rfl (Nat.le_of_ble_eq_true rfl) rfl) (aj rfl) (fun w hL=>⟨?_,hL.below⟩);have e:=ZP (a:=a) (b:=b) h0 (by simpa using hb1) (by rw[uo] at hb2;simpa using hb2);rw[<-e.1,<-e.2];rfl
   ·refine A8 ?_;refine pq rfl u4 rfl rfl rfl ?_;refine A1 ?_;refine Pc (dF _ _) ?_;refine A1 ?_;refine Pc (dF _ _) ?_;refine Ss 2 ?_;refine Ss 3 ?_;refine A4 ?_;refine yD rfl (bu 2 rfl rfl yK (vs:=[_,_]) rfl rfl (Nat.le_of_ble_eq_true rfl) rfl) (bu 3 rfl rfl yK (vs:=[_,_]) rfl rfl (Nat.le_of_ble_eq_true rfl) rfl) (aj rfl) (fun w hL=>⟨?_,hL.below⟩);have e:=QV (a:=a) (b:=b) h0 (.inr (by rw[uo] at hb2;simpa using hb2));rw[<-e.1,<-e.2];rfl
  ·refine D6 ?_;refine pq rfl u4 rfl rfl rfl ?_;refine A1 ?_;refine Pc (dF _ _) ?_;refine A1 ?_;refine Pc (dF _ _) ?_;refine Ss 2 ?_;refine Ss 3 ?_;refine A4 ?_;refine yD rfl (bu 2 rfl rfl yK (vs:=[_,_]) rfl rfl (Nat.le_of_ble_eq_true rfl) rfl) (bu 3 rfl rfl yK (vs:=[_,_]) rfl rfl (Nat.le_of_ble_eq_true rfl) rfl) (aj rfl) (fun w hL=>⟨?_,hL.below⟩);have e:=QV (a:=a) (b:=b) h0 (.inl (by simpa using hb1));rw[<-e.1,<-e.2];rfl
def nK:aP Tryz.prog 156 #[] (I 1):=by
 refine pB0 2 Tryz.func156 fun w=>?_;refine A2 ?_;refine Al 2 xR (fun g0=>?_);refine A4 ?_;refine Pc (mJ 1) ?_;refine Ss 0 ?_;refine A3 ?_;refine Qs 0 ?_;exact rfl
def kT(a b:Int)(ha:jH a<=33554432:=by omega)(hb:jH b<=33554432:=by omega)(h0:b≠0:=by omega):aP Tryz.prog 166 #[I a,I b] (I (a/b)):=by
 refine oG 16 Tryz.func166 fun w=>?_;refine A2 ?_;refine Bp 2 (fun g0=>?_);refine Bp 2 (fun g1=>?_);refine Al 2 xR (fun g2=>?_);refine A4 ?_;refine L2 0 0 ?_;refine L2 1 0 ?_;refine Pc (yg a b ha hb h0) ?_;refine A4 ?_;refine Al 2 xR (fun g3=>?_);refine Al 2 xR (fun g4=>?_);refine Ss 3 ?_;refine Ss 4 ?_;refine A5 ?_;refine L2 3 0 ?_;refine Ss 2 ?_;refine A3 ?_;refine Qs 2 ?_;exact rfl
def ku(n d:Int)(hn:jH n<=8388608:=by omega)(hd:jH d<=8388608:=by omega)(h0:d≠0:=by omega):aP Tryz.prog 122 #[I n,I d] (Q (Rat.divInt n d)):=by
 refine oG 29 Tryz.func122 fun w=>?_;refine A2 ?_;refine Bp 2 (fun g0=>?_);refine Bp 2 (fun g1=>?_);refine Al 4 qV (fun g2=>?_);refine A5 ?_;refine L2 1 0 ?_;refine Pc (nI _) ?_;refine A3 ?_;refine Cd ?_ ?_<;>intro hb0
 ·refine Dp [] [0,2,1,3,4,5] ?_;refine L2 0 0 ?_;refine L2 1 0 ?_;refine Pc (qZ _) ?_;refine Pc (qZ _) ?_;refine Ss 0 ?_;refine Ss 1 ?_;refine A4 ?_;refine L2 0 0 ?_;refine L2 1 0 ?_;refine dE [_,_] rfl rfl rfl (xx _ _ (by first|assumption|grind [dW,dX,dY,dZ,eF,dO,dP,bT,bJ,aS,dR,dI,jI]) (by first|assumption|grind [dW,dX,dY,dZ,eF,dO,dP,bT,bJ,aS,dR,dI,jI])) ?_;refine Al 2 xR (fun g3=>?_);refine Ss 3 ?_;refine A3 ?_;refine Dp [] [0,1,3,4,2,5,6,7] ?_;refine L2 0 0 ?_;refine L2 3 0 ?_;refine L2 1 0 ?_;refine L2 3 0 ?_;refine dE [_,_] rfl rfl rfl (kT _ _ (by first|assumption|grind [dW,dX,dY,dZ,eF,dO,dP,bT,bJ,aS,dR,dI,jI]) (by first|assumption|grind [dW,dX,dY,dZ,eF,dO,dP,bT,bJ,aS,dR,dI,jI]) (O3 (by omega))) ?_;refine dE [_,_] rfl rfl rfl (kT _ _ (by first|assumption|grind [dW,dX,dY,dZ,eF,dO,dP,bT,bJ,aS,dR,dI,jI]) (by first|assumption|grind [dW,dX,dY,dZ,eF,dO,dP,bT,bJ,aS,dR,dI,jI]) (O3 (by omega))) ?_;refine Ss 0 ?_;refine Ss 1 ?_;refine A4 ?_;refine Di [] ?_;refine L2 1 0 ?_;refine Pc (nK) ?_;refine gu rfl rfl rfl rfl XX (qiY _ _) ?_;refine A2 ?_;refine Cd ?_ ?_<;>intro hb1
  ·refine A1 ?_;refine(Bu []) (F5) ?_;refine Ss 1 ?_;refine A4 ?_;refine L2 0 0 ?_;refine L2 1 0 ?_;refine(Bu [(0,_),(1,_)]) (Ad) ?_;refine Ss 2 ?_;refine A3 ?_;refine G7 2 ?_;exact congrArg Ending.returned ((O0 (n:= -n) (d:= -d) (by have:=VL hb0;omega) (by simpa using hb1)).trans (by rw[Rat.neg_divInt_neg]))
  ·refine A4 ?_;refine L2 0 0 ?_;refine L2 1 0 ?_;refine(Bu [(0,_),(1,_)]) (Ad) ?_;refine Ss 2 ?_;refine A3 ?_;refine G7 2 ?_;exact congrArg Ending.returned ((O1 (n:= -n) (d:= -d) (by have:=VL hb0;omega) (by simpa using hb1)).trans (by rw[Rat.neg_divInt_neg]))
 ·refine A4 ?_;refine L2 0 0 ?_;refine L2 1 0 ?_;refine dE [_,_] rfl rfl rfl (xx _ _ (by first|assumption|grind [dW,dX,dY,dZ,eF,dO,dP,bT,bJ,aS,dR,dI,jI]) (by first|assumption|grind [dW,dX,dY,dZ,eF,dO,dP,bT,bJ,aS,dR,dI,jI])) ?_;refine Al 2 xR (fun g3=>?_);refine Ss 3 ?_;refine A3 ?_;refine Dp [] [0,1,3,4,2,5,6,7] ?_;refine L2 0 0 ?_;refine L2 3 0 ?_;refine L2 1 0 ?_;refine L2 3 0 ?_;refine dE [_,_] rfl rfl rfl (kT _ _ (by first|assumption|grind [dW,dX,dY,dZ,eF,dO,dP,bT,bJ,aS,dR,dI,jI]) (by first|assumption|grind [dW,dX,dY,dZ,eF,dO,dP,bT,bJ,aS,dR,dI,jI]) (O3 (by omega))) ?_;refine dE [_,_] rfl rfl rfl (kT _ _ (by first|assumption|grind [dW,dX,dY,dZ,eF,dO,dP,bT,bJ,aS,dR,dI,jI]) (by first|assumption|grind [dW,dX,dY,dZ,eF,dO,dP,bT,bJ,aS,dR,dI,jI]) (O3 (by omega))) ?_;refine Ss 0 ?_;refine Ss 1 ?_;refine A4 ?_;refine Di [] ?_;refine L2 1 0 ?_;refine Pc (nK) ?_;refine gu rfl rfl rfl rfl XX (qiY _ _) ?_;refine A2 ?_;refine Cd ?_ ?_<;>intro hb1
  ·refine A1 ?_;refine(Bu []) (F5) ?_;refine Ss 1 ?_;refine A4 ?_;refine L2 0 0 ?_;refine L2 1 0 ?_;refine(Bu [(0,_),(1,_)]) (Ad) ?_;refine Ss 2 ?_;refine A3 ?_;refine G7 2 ?_;exact congrArg Ending.returned (O0 (VM hb0 h0) (by simpa using hb1))
  ·refine A4 ?_;refine L2 0 0 ?_;refine L2 1 0 ?_;refine(Bu [(0,_),(1,_)]) (Ad) ?_;refine Ss 2 ?_;refine A3 ?_;refine G7 2 ?_;exact congrArg Ending.returned (O1 (VM hb0 h0) (by simpa using hb1))
def vg(q:Rat):aP Tryz.prog 145 #[Q q] (Q (-q)):=by
 refine xJ 9 Tryz.func145 fun w=>?_;refine A2 ?_;refine Bp 4 (fun g0=>?_);refine Al 4 qV (fun g1=>?_);refine A3 ?_;refine Dp [] [0,1,3,4,2,5,6] ?_;refine A1 ?_;refine L2 0 0 ?_;refine A1 ?_;refine L2 0 2 ?_;refine Pc (qZ _) ?_;refine(Bu [(0,_),(1,_)]) (Ad) ?_;refine Ss 1 ?_;refine A3 ?_;refine G7 1 ?_;exact rfl
def zf(n d:Int)(hn:jH n<=8388608:=by omega)(hd:jH d<=8388608:=by omega):aP Tryz.prog 213 #[I n,I d] (.tuple #[Q (Rat.divInt n d),.int .i64 (if d=0 then 6 else 0)]):=by
 refine oG 13 Tryz.func213 fun w=>?_;refine A2 ?_;refine Bp 2 (fun g0=>?_);refine Bp 2 (fun g1=>?_);refine Al 4 qV (fun g2=>?_);refine A6 ?_;refine L2 1 0 ?_;refine Pc (nI _) ?_;refine A3 ?_;refine Cd ?_ ?_<;>intro hb0
 ·refine A2 ?_;refine(Bu []) (yL) ?_;refine Ss 2 ?_;refine A5 ?_;refine bF rfl (bu 2 rfl rfl BZ (vs:=[_,_,_,_]) rfl rfl (Nat.le_of_ble_eq_true rfl) rfl) (aj rfl) (fun w hL=>⟨?_,hL.below⟩);have e:d=0:=by simpa using hb0
  subst e;rw[Rat.divInt_zero,if_pos rfl,yI]
 ·refine A4 ?_;refine L2 0 0 ?_;refine L2 1 0 ?_;refine dE [_,_] rfl rfl rfl (ku _ _ hn hd (fun e=>absurd (show(d.sign==0)=true by rw[e];rfl) (by rw[hb0];decide))) ?_;refine Ss 2 ?_;refine A4 ?_;refine bF rfl (bu 2 rfl rfl BZ (vs:=[_,_,_,_]) rfl rfl (Nat.le_of_ble_eq_true rfl) rfl) (aj rfl) (fun w hL=>⟨?_,hL.below⟩);rw[if_neg (fun e=>absurd (show(d.sign==0)=true by rw[e];rfl) (by rw[hb0];decide))];rfl
def gG(z:Int)(h1: -9223372036854775808<=z:=by omega)(h2:z<=9223372036854775807:=by omega):aP Tryz.prog 132 #[.int .i64 z] (Q (z:Rat)):=by
 refine xJ 6 Tryz.func132 fun w=>?_;refine A2 ?_;refine Al 4 qV (fun g0=>?_);refine A5 ?_;refine dE [_] rfl rfl rfl (mJ _) ?_;refine(Bu [(0,_)]) (qgE) ?_;refine Ss 0 ?_;refine A3 ?_;refine G7 0 ?_;exact rfl
end Go.Proofs.YtaffcpfhedadhaaGreatDoor
namespace Go.Proofs.YtaffcpfhedadhaaGreatDoor
variable[Go.Via.Mo]
open Go Go.RowKit Go.Via
def lC(p q:Rat)(hp:dw p<=4194303:=by omega)(hq:dw q<=4194303:=by omega):aP Tryz.prog 55 #[Q p,Q q] (Q (p-q)):=by
 refine oG 9 Tryz.func55 fun w=>?_;refine A2 ?_;refine Bp 4 (fun g0=>?_);refine Bp 4 (fun g1=>?_);refine Al 4 qV (fun g2=>?_);refine A3 ?_;refine Di [] ?_;refine L4 0 0 ?_;refine L4 1 0 ?_;refine Pc (Hq q) ?_;refine Pc (iG p (-q) hp (Nat.le_trans (dI q) hq)) ?_;refine Ss 2 ?_;refine A3 ?_;refine G7 2 ?_;exact congrArg (fun z=>Ending.returned (Q z)) (Rat.sub_eq_add_neg p q).symm
end Go.Proofs.YtaffcpfhedadhaaGreatDoor
namespace Go.Proofs.YtaffcpfhedadhaaGreatDoor
variable[Go.Via.Mo]
open Go Go.RowKit Go.Via
def lK(q:Rat):aP Tryz.prog 66 #[Q q] (.int .i64 q.num.sign):=by
 refine xJ 12 Tryz.func66 fun w=>?_;refine A2 ?_;refine Bp 4 (fun g0=>?_);refine D6 ?_;refine Cd ?_ ?_<;>intro hb0
 ·refine A8 ?_;refine E0 ?_;exact congrArg (fun z=>Ending.returned (.int .i64 z)) (Nc q.num hb0)
 ·refine A8 ?_;refine Cd ?_ ?_<;>intro hb1
  ·refine A8 ?_;refine E0 ?_;exact congrArg (fun z=>Ending.returned (.int .i64 z)) (sign_neg q.num hb1)
  ·refine A9 ?_;refine E0 ?_;exact congrArg (fun z=>Ending.returned (.int .i64 z)) (QU q.num hb0 hb1)
def Ih(p q:Rat)(hp:dw p<=4194303:=by omega)(hq:dw q<=4194303:=by omega):aP Tryz.prog 160 #[Q p,Q q] (.int .i64 (oC p q)):=by
 refine oG 9 Tryz.func160 fun w=>?_;refine A2 ?_;refine Bp 4 (fun g0=>?_);refine Bp 4 (fun g1=>?_);refine A5 ?_;refine L4 0 0 ?_;refine L4 1 0 ?_;refine Pc (lC p q hp hq) ?_;refine Pc (lK (p-q)) ?_;refine A4 ?_;refine E0 ?_;exact congrArg (fun z=>Ending.returned (.int .i64 z)) (RN p q)
def Gv(b1:Bool)(s1:ByteArray)(b2:Bool)(s2:ByteArray)(hs1:s1.size<=5000:=by omega)(hs2:s2.size<=5000:=by omega):aP Tryz.prog 105 #[.agg #[.bool b1,.string s1,.bool b2,.string s2]] (.int .i64 (if YC b1 s1 b2 s2=true then 0 else 5)):=by
 refine xJ 31 Tryz.func105 fun w=>?_;refine A2 ?_;refine Bp 4 (fun g0=>?_);refine A7 ?_;refine L2 0 0 ?_;refine Pc (y9 b1 s1) ?_;refine A2 ?_;refine Rs 7 ?_ ?_<;>intro hb0
 ·have hI1:qC b1 s1=true:=qfT hb0;refine zT ?_;refine E0 ?_;rw[qjg hI1];rfl
 ·have hI1:qC b1 s1=false:=qfS hb0;refine A1 ?_;refine L2 0 2 ?_;refine Pc (y9 b2 s2) ?_;refine A4 ?_;refine Cd ?_ ?_<;>intro hb1
  ·have hI2:qC b2 s2=true:=qfT hb1;refine A7 ?_;refine E0 ?_;rw[qjh hI2];rfl
  ·have hI2:qC b2 s2=false:=qfS hb1;refine A6 ?_;refine L2 0 2 ?_;refine(Bu []) (F5) ?_;refine gu rfl rfl rfl rfl XX (QY _ _ _ _) ?_;refine A2 ?_;refine Cd ?_ ?_<;>intro hb2
   ·obtain⟨hb2,he2⟩:=qho hb2;refine A7 ?_;refine E0 ?_;rw[hb2,qjj hI1 he2];rfl
   ·obtain⟨z,rfl,rfl⟩:=qa1 hI1;obtain⟨e,rfl,rfl⟩:=qa1 hI2;have he0:=qhp hb2;rw[lM] at hs1 hs2;have hz1:jH z<=5000:=hs1;have hz2:jH e<=5000:=hs2;refine A4 ?_;refine Di [] ?_;refine A1 ?_;refine L2 0 2 ?_;refine Pc (nK) ?_;refine Pc (wO e 1) ?_;refine A2 ?_;refine Rs 22 ?_ ?_<;>intro hb3
    ·have hle:e<=1:=qa5 hb3;refine A18 ?_;refine E0 ?_;rw[qjk he0 hle];rfl
    ·have hle:1<e:=qa6 hb3;refine A1 ?_;refine L2 0 0 ?_;refine A1 ?_;refine L2 0 2 ?_;refine Pc (xx z e) ?_;refine Pc (nK) ?_;refine xM rfl rfl rfl rfl XX (QY _ _ _ _) ?_;refine A3 ?_;refine Cd ?_ ?_<;>intro hb4
     ·have hg:=qeB hb4;refine A7 ?_;refine E0 ?_;rw[qjl hle hg];rfl
     ·have hg:=qeC hb4;refine A8 ?_;refine E0 ?_;rw[qhq hle hg];rfl
end Go.Proofs.YtaffcpfhedadhaaGreatDoor
namespace Go.Proofs.YtaffcpfhedadhaaGreatDoor
open Go Go.RowKit Go.Via
def Az(n:Nat)(hn:nb n<=33554432:=by omega):aP Tryz.prog 200 #[.string (bQ n)] (.string (bQ (cO n))):=by
 have hb8:=SA n;have hk8:=SC n;refine xJ 50 Tryz.func200 fun w=>?_;refine lX ?_;refine Cd ?_ ?_<;>intro hb0
 ·have h0:n=0:=YB hb0;refine A7 ?_;refine E0 ?_;subst h0;rw[show cO 0=0 from rfl,je]
 ·have h0:n≠0:=U5 hb0;have hp:=Dw h0;refine A6 ?_;refine aT 12 (bz (nb n)) rfl (by rw[lM]) ?_;refine Ar (((nb n-1:Nat):Int)) ?_;refine Ar (((8*(nb n-1):Nat):Int)) ?_;refine A1 ?_;refine zH (b:=UInt8.ofNat (zA n)) (r:=((zA n:Nat):Int)) u9 rfl rfl rfl rfl (by omega) (Um n 0 hp) (O4 _) ?_;refine Pc (SI (zA n) (PP n)) ?_;refine Ar (((8*(nb n-1)+Lib.bitLen (zA n):Nat):Int)) ?_;refine A6 ?_;refine Ar (((8*(nb n-1)+Lib.bitLen (zA n)+1:Nat):Int)) ?_;refine(Dv ((lw n:Nat):Int)) (by exact(congrArg some (mY _ 2 rfl rfl (by omega)))) ?_;refine A4 ?_;refine Dl (X:=Nat) (l':=[⟨_,_,_,_,_,_⟩,⟨_,_,_,_,_,_⟩,⟨_,_,_,_,_,_⟩,⟨_,_,_,_,_,_⟩,⟨_,_,_,_,_,_⟩]) (fun g=>[(0,.string (bQ n)),(4,.string (lZ (Sz (lw n))))]) (fun g=>[⟨some g,5,[.int .u8 (2^(lw n%8):Nat)],1,true⟩]) [0,1,2,5,6] 5 mixed (by kernel_rfl) rfl ?_ ?_
  ·refine A1 ?_;refine(Dv ((lw n%8:Nat):Int)) (congrArg some (eY _ _ rfl rfl)) ?_;refine(Sv ((2^(lw n%8):Nat):Int)) (by exact(congrArg some (qeu _ rfl (Nat.mod_lt _ (by omega))))) ?_;refine A1 ?_;refine(Dv ((lw n/8:Nat):Int)) (by exact(congrArg some (mY _ 8 rfl rfl (by omega)))) ?_;refine A1 ?_
   repeat' first
    |exact⟨g0,rfl,⟨rfl,rfl,trivial⟩,List.Perm.refl _⟩
    |refine IG ?_
    |refine zI (l:=[2^(lw n%8)]) 0 Ut u5 u9 rfl rfl rfl rfl rfl rfl rfl rfl ?_
    |refine dE [_,_] rfl rfl rfl (Gu (lw n/8)) ?_
    |refine qgR (p:=[UInt8.ofNat (2^(lw n%8))]) (q:=List.replicate (lw n/8) 0) rfl rfl rfl rfl rfl rfl rfl (by rw[List.length_replicate];show 1+lw n/8<=_;omega) ?_
    |refine Eh rfl rfl rfl ?_
    |refine(Bl 1 [(0,_)]) (qdz) (fun g0=>?_)
    |refine Ud (by decide+kernel) ?_
    |refine fQ [8] (by decide+kernel) rfl ⟨⟨_,rfl,?_⟩,trivial⟩
    |refine fQ [9] (by decide+kernel) rfl ⟨⟨_,rfl,?_⟩,trivial⟩
    |refine fQ [4] (by decide+kernel) rfl ⟨⟨_,rfl,?_⟩,trivial⟩
    |refine fQ [3,7] (by decide+kernel) rfl ⟨⟨_,rfl,?_⟩,⟨_,rfl,?_⟩,trivial⟩
    |refine fQ [4,7] (by decide+kernel) rfl ⟨⟨_,rfl,?_⟩,⟨_,rfl,?_⟩,trivial⟩
    |refine fQ [7] (by decide+kernel) rfl ⟨⟨_,rfl,?_⟩,trivial⟩
    |refine fQ [3] (by decide+kernel) rfl ⟨⟨_,rfl,?_⟩,trivial⟩
  rintro g;show At _ ⟨50,[(0,.string (bQ n)),(4,.string (lZ (Sz (lw n))))],[⟨some g,5,[.int .u8 (2^(lw n%8):Nat)],1,true⟩]⟩ _;refine A2 ?_;refine El (ι:={x:Nat // SE n x}) (fun⟨x,hx⟩=>([(0,.string (bQ n)),(4,.string (bQ x))],[],x)) ⟨2^lw n,SG h0⟩ ?_ (ht:=⟨rfl,(aB rfl (congrArg Value.string (WF _))),trivial⟩) (hL:=(au [] trivial rfl rfl));rintro⟨x,hx⟩;(try dsimp only);have hx3:=hx.2.2;refine A5 ?_;refine Pc (rP n x (by omega) (by omega) (by have:=hx.1;omega)) ?_;refine oO ?_;refine Pc (xm x (n/x) (by omega) (by have:=wW n x;omega)) ?_;refine dE [_,.string (bQ 2)] rfl rfl (by rw[qet];rfl) (rP (x+n/x) 2 (by have:=wW n x;have:=zV x (n/x);omega) (by have:=nY (n:=2) (k:=1) (by decide);omega) (by decide)) ?_;refine lX ?_;refine Pc (mG _ _) ?_;refine A3 ?_;refine Cd ?_ ?_<;>intro hb2
  ·have hge:¬(x+n/x)/2<x:=lu.1 (of_decide_eq_true hb2)|>Nat.not_lt.2;refine oO ?_;refine E0 ?_;rw[YA hx hge]
  ·have hlt:(x+n/x)/2<x:=Nat.lt_of_not_le fun e=>of_decide_eq_false hb2 (lu.2 e)
   refine A8 ?_;exact Nl ⟨(x+n/x)/2,U4 h0 hx hlt⟩ (hμ:=hlt)
end Go.Proofs.YtaffcpfhedadhaaGreatDoor
namespace Go.Proofs.YtaffcpfhedadhaaGreatDoor
variable[Go.Via.Mo]
open Go Go.RowKit Go.Via
def dQ(p q:Rat)(hp:dw p<=4194303:=by omega)(hq:dw q<=4194303:=by omega):aP Tryz.prog 27 #[Q p,Q q] (Q (p*q)):=by
 have e1:=JA hp;have e2:=JB hp;have e3:=JA hq;have e4:=JB hq;have m1:=oQ p.num.natAbs q.num.natAbs;have m2:=oQ p.num.natAbs q.den;have m3:=oQ q.num.natAbs p.den;have m4:=oQ p.den q.den;have m5:=oQ p.den q.num.natAbs;have dp:0<p.den:=Nat.pos_of_ne_zero p.den_nz;have dq:0<q.den:=Nat.pos_of_ne_zero q.den_nz;have dpq:0<p.den*q.den:=Nat.mul_pos dp dq;refine oG 28 Tryz.func27 fun w=>?_;refine A2 ?_;refine Bp 4 (fun g0=>?_);refine Bp 4 (fun g1=>?_);refine Al 4 qV (fun g2=>?_);refine A3 ?_;refine Dq [3000000] [0,2,1,3,4,5,6,7] ?_;refine L4 0 0 ?_;refine L4 1 0 ?_;refine iO [_] [] rfl rfl rfl (ve p (Nat.le_trans hp (Nat.le_of_ble_eq_true rfl))) trivial rfl (.inr qaX) (fun x=>?_);refine iO [_] [] rfl rfl rfl (ve q (Nat.le_trans hq (Nat.le_of_ble_eq_true rfl))) trivial rfl (.inr qaX) (fun y=>?_);refine Al 3 XV (fun g3=>?_);refine Al 3 XV (fun g4=>?_);refine Ss 7 ?_;refine Ss 8 ?_;refine A3 ?_;refine Dp [] [0,1,2,3,4,5,6,7,8,10,11,12,13,9,14,15,16,17] ?_;refine A4 ?_;refine pq rfl u4 rfl rfl rfl ?_;refine A8 ?_;refine(Sc [3,5]) (jy (p.num.natAbs) (q.num.natAbs) (by omega) (by omega) x.1 y.1) (fun zn=>?_);refine(Sc [4,6]) (jy (p.den) (q.den) (by omega) (by omega) x.2 y.2) (fun zd=>?_);refine(Bu [(0,_),(1,_),(2,_)]) (wE) ?_;refine(Sd [9,10]) (iW (p.num.natAbs*q.num.natAbs) (p.den*q.den) (decide (p.num<0) !=decide (q.num<0)) dpq (by omega) (by omega) zn zd) ?_;refine aT 27 (Q (p*q)) rfl (congrArg Q (qg8 p q)) ?_;refine Ss 2 ?_;refine A3 ?_;refine G7 2 ?_;exact rfl
end Go.Proofs.YtaffcpfhedadhaaGreatDoor
namespace Go.Proofs.YtaffcpfhedadhaaGreatDoor
variable[Go.Via.Mo]
open Go Go.RowKit Go.Via
def fV(q:Rat):aP Tryz.prog 124 #[Q q] (I q.den):=by
 refine xJ 10 Tryz.func124 fun w=>?_;refine A2 ?_;refine Bp 4 (fun g0=>?_);refine Al 2 xR (fun g1=>?_);refine A6 ?_;refine L2 0 2 ?_;refine(Bu []) (F5) ?_;refine gu rfl rfl rfl rfl XX (QY _ _ _ _) ?_;refine A2 ?_;refine Cd ?_ ?_<;>intro hb0
 ·refine A2 ?_;refine Pc (nK) ?_;refine Ss 1 ?_;refine A4 ?_;refine Qs 1 ?_;exact congrArg Ending.returned (qiK hb0)
 ·refine A5 ?_;refine L2 0 2 ?_;refine Ss 1 ?_;refine A3 ?_;refine Qs 1 ?_;exact congrArg Ending.returned (qiL hb0)
def yh(p q:Rat)(hp:dw p<=4194303:=by omega)(hq:dw q<=4194303:=by omega):aP Tryz.prog 189 #[Q p,Q q] (.tuple #[I (lF p q),I (lG p q),I (lY p q)]):=by
 refine oG 33 Tryz.func189 fun w=>?_;refine A2 ?_;refine Bp 4 (fun g0=>?_);refine Bp 4 (fun g1=>?_);refine Al 2 xR (fun g2=>?_);refine Al 2 xR (fun g3=>?_);refine Al 2 xR (fun g4=>?_);refine A6 ?_;refine L2 0 2 ?_;refine A1 ?_;refine L2 1 2 ?_;refine gu rfl rfl rfl rfl XX (QY _ _ _ _) ?_;refine A2 ?_;refine Cd ?_ ?_<;>intro hb0
 ·refine A1 ?_;refine Di [2,3,4] ?_;refine A1 ?_;refine L2 0 0 ?_;refine A1 ?_;refine L2 1 0 ?_;refine L4 0 0 ?_;refine Pc (fV _) ?_;refine mW 2 0 [_,_,⟨some g2,34,_,2,true⟩,_,_] [_,_] rfl rfl rfl rfl yK rfl rfl rfl rfl rfl rfl ?_;refine mW 3 0 [_,_,_,⟨some g3,34,_,2,true⟩,_] [_,_] rfl rfl rfl rfl yK rfl rfl rfl rfl rfl rfl ?_;refine mW 4 0 [_,_,_,_,⟨some g4,34,_,2,true⟩] [_,_] rfl rfl rfl rfl yK rfl rfl rfl rfl rfl rfl ?_;refine A4 ?_;refine yD rfl (bu 2 rfl rfl yK (vs:=[_,_]) rfl rfl (Nat.le_of_ble_eq_true rfl) rfl) (bu 3 rfl rfl yK (vs:=[_,_]) rfl rfl (Nat.le_of_ble_eq_true rfl) rfl) (bu 4 rfl rfl yK (vs:=[_,_]) rfl rfl (Nat.le_of_ble_eq_true rfl) rfl) (fun w hL=>⟨?_,hL.below⟩);exact congrArg Ending.returned (qde hb0)
 ·refine A3 ?_;refine Dp [] [0,1,2,5,6,7,10,12,3,4,8,9,11,13,14,15,16,17] ?_;refine A1 ?_;refine L2 0 0 ?_;refine L4 1 0 ?_;refine A1 ?_;refine L2 1 0 ?_;refine L4 0 0 ?_;refine L4 0 0 ?_;refine L4 1 0 ?_;refine Pc (fV _) ?_;refine dE [_,_] rfl rfl rfl (gK _ _ (by first|assumption|grind [dW,dX,dY,dZ,eF,dO,dP,bT,bJ,aS,dR,dI,jI]) (by first|assumption|grind [dW,dX,dY,dZ,eF,dO,dP,bT,bJ,aS,dR,dI,jI])) ?_;refine Pc (fV _) ?_;refine dE [_,_] rfl rfl rfl (gK _ _ (by first|assumption|grind [dW,dX,dY,dZ,eF,dO,dP,bT,bJ,aS,dR,dI,jI]) (by first|assumption|grind [dW,dX,dY,dZ,eF,dO,dP,bT,bJ,aS,dR,dI,jI])) ?_;refine Pc (fV _) ?_;refine Pc (fV _) ?_;refine dE [_,_] rfl rfl rfl (gK _ _ (by first|assumption|grind [dW,dX,dY,dZ,eF,dO,dP,bT,bJ,aS,dR,dI,jI]) (by first|assumption|grind [dW,dX,dY,dZ,eF,dO,dP,bT,bJ,aS,dR,dI,jI])) ?_;refine Ss 2 ?_;refine Ss 3 ?_;refine Ss 4 ?_;refine A3 ?_;refine yD rfl (bu 2 rfl rfl yK (vs:=[_,_]) rfl rfl (Nat.le_of_ble_eq_true rfl) rfl) (bu 3 rfl rfl yK (vs:=[_,_]) rfl rfl (Nat.le_of_ble_eq_true rfl) rfl) (bu 4 rfl rfl yK (vs:=[_,_]) rfl rfl (Nat.le_of_ble_eq_true rfl) rfl) (fun w hL=>⟨?_,hL.below⟩);exact congrArg Ending.returned (qdf hb0)
def cu(p q:Rat)(hp:dw p<=4194303:=by omega)(hq:dw q<=4194303:=by omega):aP Tryz.prog 140 #[Q p,Q q] (Q (p+q)):=by
 refine oG 20 Tryz.func140 fun w=>?_;refine A2 ?_;refine Bp 4 (fun g0=>?_);refine Bp 4 (fun g1=>?_);refine Al 4 qV (fun g2=>?_);refine A4 ?_;refine L4 0 0 ?_;refine L4 1 0 ?_;refine dE [_,_] rfl rfl rfl (yh _ _ (by first|assumption|grind [dW,dX,dY,dZ,eF,dO,dP,bT,bJ,aS,dR,dI,jI]) (by first|assumption|grind [dW,dX,dY,dZ,eF,dO,dP,bT,bJ,aS,dR,dI,jI])) ?_;refine A4 ?_;refine Al 2 xR (fun g3=>?_);refine Al 2 xR (fun g4=>?_);refine Al 2 xR (fun g5=>?_);refine Ss 3 ?_;refine Ss 4 ?_;refine Ss 5 ?_;refine A3 ?_;refine Dp [] [0,1,3,2,4,5] ?_;refine L2 3 0 ?_;refine L2 4 0 ?_;refine L2 5 0 ?_;refine Pc (xy _ _ (Nat.le_trans (szX hp hq) (Nat.le_of_ble_eq_true rfl)) (Nat.le_trans (szY hp hq) (Nat.le_of_ble_eq_true rfl))) ?_;refine Pc (ku _ _ (Nat.le_trans (qks hp hq) (Nat.le_of_ble_eq_true rfl)) (Nat.le_trans (szD hp hq) (Nat.le_of_ble_eq_true rfl)) (Nh p q)) ?_;refine Ss 2 ?_;refine A3 ?_;refine G7 2 ?_;exact congrArg (fun z=>Ending.returned (Q z)) (XI p q)
def fZ(p q:Rat)(hp:dw p<=4194303:=by omega)(hq:dw q<=4194303:=by omega):aP Tryz.prog 126 #[Q p,Q q] (Q (p-q)):=by
 refine oG 9 Tryz.func126 fun w=>?_;refine A2 ?_;refine Bp 4 (fun g0=>?_);refine Bp 4 (fun g1=>?_);refine Al 4 qV (fun g2=>?_);refine A3 ?_;refine Di [] ?_;refine L4 0 0 ?_;refine L4 1 0 ?_;refine Pc (vg _) ?_;refine dE [_,_] rfl rfl rfl (cu _ _ (by first|assumption|grind [dW,dX,dY,dZ,eF,dO,dP,bT,bJ,aS,dR,dI,jI]) (by first|assumption|grind [dW,dX,dY,dZ,eF,dO,dP,bT,bJ,aS,dR,dI,jI])) ?_;refine Ss 2 ?_;refine A3 ?_;refine G7 2 ?_;exact congrArg (fun z=>Ending.returned (Q z)) (Rat.sub_eq_add_neg p q).symm
def aK(p q:Rat)(hp:dw p<=4194303:=by omega)(hq:dw q<=4194303:=by omega):aP Tryz.prog 75 #[Q p,Q q] (Q (p*q)):=by
 refine oG 16 Tryz.func75 fun w=>?_;refine A2 ?_;refine Bp 4 (fun g0=>?_);refine Bp 4 (fun g1=>?_);refine Al 4 qV (fun g2=>?_);refine A3 ?_;refine Dp [] [0,1,2,3,5,7,4,6,8,9,10,11] ?_;refine A1 ?_;refine L2 0 0 ?_;refine A1 ?_;refine L2 1 0 ?_;refine L4 0 0 ?_;refine L4 1 0 ?_;refine dE [_,_] rfl rfl rfl (gK _ _ (by first|assumption|grind [dW,dX,dY,dZ,eF,dO,dP,bT,bJ,aS,dR,dI,jI]) (by first|assumption|grind [dW,dX,dY,dZ,eF,dO,dP,bT,bJ,aS,dR,dI,jI])) ?_;refine Pc (fV _) ?_;refine Pc (fV _) ?_;refine dE [_,_] rfl rfl rfl (gK _ _ (by first|assumption|grind [dW,dX,dY,dZ,eF,dO,dP,bT,bJ,aS,dR,dI,jI]) (by first|assumption|grind [dW,dX,dY,dZ,eF,dO,dP,bT,bJ,aS,dR,dI,jI])) ?_;refine dE [_,_] rfl rfl rfl (ku _ _ (by first|assumption|grind [dW,dX,dY,dZ,eF,dO,dP,bT,bJ,aS,dR,dI,jI]) (by first|assumption|grind [dW,dX,dY,dZ,eF,dO,dP,bT,bJ,aS,dR,dI,jI]) (JD p q)) ?_;refine Ss 2 ?_;refine A3 ?_;refine G7 2 ?_;exact congrArg (fun z=>Ending.returned (Q z)) (JE p q)
def fF(q:Rat):aP Tryz.prog 106 #[Q q] (.int .i64 q.num.sign):=by
 refine xJ 6 Tryz.func106 fun w=>?_;refine A2 ?_;refine Bp 4 (fun g0=>?_);refine A6 ?_;refine L2 0 0 ?_;refine Pc (nI _) ?_;refine A4 ?_;refine E0 ?_;exact rfl
def AA(p q:Rat)(hp:dw p<=4194303:=by omega)(hq:dw q<=4194303:=by omega):aP Tryz.prog 183 #[Q p,Q q] (.tuple #[Q (p/q),.int .i64 (if q=0 then 6 else 0)]):=by
 refine oG 19 Tryz.func183 fun w=>?_;refine A2 ?_;refine Bp 4 (fun g0=>?_);refine Bp 4 (fun g1=>?_);refine Al 4 qV (fun g2=>?_);refine A4 ?_;refine Dp [] [0,1,2,5,7,8,3,4,6,9,10,11,12,13,14] ?_;refine A1 ?_;refine L2 0 0 ?_;refine L4 1 0 ?_;refine L4 0 0 ?_;refine A1 ?_;refine L2 1 0 ?_;refine Pc (fV _) ?_;refine dE [_,_] rfl rfl rfl (gK _ _ (by first|assumption|grind [dW,dX,dY,dZ,eF,dO,dP,bT,bJ,aS,dR,dI,jI]) (by first|assumption|grind [dW,dX,dY,dZ,eF,dO,dP,bT,bJ,aS,dR,dI,jI])) ?_;refine Pc (fV _) ?_;refine dE [_,_] rfl rfl rfl (gK _ _ (by first|assumption|grind [dW,dX,dY,dZ,eF,dO,dP,bT,bJ,aS,dR,dI,jI]) (by first|assumption|grind [dW,dX,dY,dZ,eF,dO,dP,bT,bJ,aS,dR,dI,jI])) ?_;refine dE [_,_] rfl rfl rfl (zf _ _ (by first|assumption|grind [dW,dX,dY,dZ,eF,dO,dP,bT,bJ,aS,dR,dI,jI]) (by first|assumption|grind [dW,dX,dY,dZ,eF,dO,dP,bT,bJ,aS,dR,dI,jI])) ?_;refine A2 ?_;refine Ss 2 ?_;refine A4 ?_;refine bF rfl (bu 2 rfl rfl BZ (vs:=[_,_,_,_]) rfl rfl (Nat.le_of_ble_eq_true rfl) rfl) (aj rfl) (fun w hL=>⟨?_,hL.below⟩);rw[<-Ul p q,qdg p q];rfl
def DV(p q:Rat)(hp:dw p<=4194303:=by omega)(hq:dw q<=4194303:=by omega):aP Tryz.prog 212 #[Q p,Q q] (.int .i64 (oC p q)):=by
 refine oG 21 Tryz.func212 fun w=>?_;refine A2 ?_;refine Bp 4 (fun g0=>?_);refine Bp 4 (fun g1=>?_);refine A6 ?_;refine L4 0 0 ?_;refine L4 1 0 ?_;refine gu rfl rfl rfl rfl Z5 (Z8 _ _) ?_;refine A2 ?_;refine Cd ?_ ?_<;>intro hb0
 ·refine A7 ?_;refine E0 ?_
  have e:p=q:=(by simpa using hb0);subst e;rw[XJ]
 ·refine A4 ?_;refine L4 0 0 ?_;refine L4 1 0 ?_;refine dE [_,_] rfl rfl rfl (yh _ _ (by first|assumption|grind [dW,dX,dY,dZ,eF,dO,dP,bT,bJ,aS,dR,dI,jI]) (by first|assumption|grind [dW,dX,dY,dZ,eF,dO,dP,bT,bJ,aS,dR,dI,jI])) ?_;refine A4 ?_;refine Al 2 xR (fun g2=>?_);refine Al 2 xR (fun g3=>?_);refine Al 2 xR (fun g4=>?_);refine Ss 2 ?_;refine Ss 3 ?_;refine Ss 4 ?_;refine A4 ?_;refine L2 2 0 ?_;refine L2 3 0 ?_;refine Pc (wO _ _) ?_;refine A4 ?_;refine E0 ?_;exact congrArg (fun z=>Ending.returned (.int .i64 z)) (XK p q)
end Go.Proofs.YtaffcpfhedadhaaGreatDoor
namespace Go.Via
open Go
def ou(z:Int):Bool:=decide (0<=z)&&(cO z.natAbs*cO z.natAbs==z.natAbs)
theorem qa7{z:Int}(h:decide (z<0)=true):ou z=false:=by
 have:=of_decide_eq_true h;unfold ou;rw[decide_eq_false (by omega)];rfl
theorem qeD{z:Int}(h:(bQ (cO z.natAbs*cO z.natAbs) !=bQ z.natAbs)=true):ou z=false:=by
 unfold ou;have:¬cO z.natAbs*cO z.natAbs=z.natAbs:=fun e=>by rw[e,bne,yH] at h;simp at h
 rw[beq_eq_false_iff_ne.2 this,Bool.and_false]
theorem qa8{z:Int}(h0:decide (z<0)=false)(h:(bQ (cO z.natAbs*cO z.natAbs) !=bQ z.natAbs)=false):ou z=true:=by
 unfold ou;have h1:=of_decide_eq_false h0;have h2:bQ (cO z.natAbs*cO z.natAbs)=bQ z.natAbs:=by rw[bne,yH] at h;simpa using h
 rw[OZ.1 h2,decide_eq_true (by omega)];simp
def qa9(n:Nat):cO n<=n:=by
 have h:=(Kq n).1
 by_cases h0:cO n=0
 ·omega
 ·exact Nat.le_trans (Nat.le_mul_of_pos_right _ (by omega)) h
def oM(n:Nat):nb (cO n)<=nb n:=ik (qa9 n)
theorem Gw(q:Rat):BM q=(ou q.num&&ou (q.den:Int)):=by
 unfold BM ou;rw[Int.natAbs_natCast,decide_eq_true (show(0:Int)<=(q.den:Int) by omega),Bool.true_and]
def w3{a b:Int}(ha:a= -1∨a=0∨a=1)(hb:b= -1∨b=0∨b=1):IntKind.i64.wrap (a*b)=a*b:=by
 rcases ha with rfl|rfl|rfl<;>rcases hb with rfl|rfl|rfl<;>rfl
theorem DW(q:Rat):dJ q= -1∨dJ q=0∨dJ q=1:=by rcases jD q with h|h|h<;>simp[h.2]
def qba(p q:Rat):oC p q= -1∨oC p q=0∨oC p q=1:=by rcases xZ p q with h|h|h<;>simp[h.2]
theorem qhr{a b r:Rat}(h:dJ b*dJ r=0):uw a b r=dJ a:=by unfold uw;rw[if_pos (.inl h)]
theorem qhs{a b r:Rat}(h:dJ a=dJ b*dJ r):uw a b r=dJ a:=by unfold uw;rw[if_pos (.inr h)]
theorem qht{a b r:Rat}(h0:dJ b*dJ r≠0)(h1:dJ a≠dJ b*dJ r)(h2:dJ a=0):uw a b r=dJ b*dJ r:=by unfold uw;rw[if_neg (by rintro(h|h);exact h0 h;exact h1 h),if_pos h2]
theorem qhu{a b r:Rat}(h0:dJ b*dJ r≠0)(h1:dJ a≠dJ b*dJ r)(h2:dJ a≠0):uw a b r=dJ a*oC (a*a) (b*b*r):=by unfold uw;rw[if_neg (by rintro(h|h);exact h0 h;exact h1 h),if_neg h2]
section
variable{x y:Rl}
theorem qeE(h:dJ (-oV y)*dJ y.r=0):bW x y=uw (x.p-y.p) (oV x) x.r:=by unfold bW;rw[if_pos (.inl h)]
theorem qeF(h:uw (x.p-y.p) (oV x) x.r=dJ (-oV y)*dJ y.r):bW x y=uw (x.p-y.p) (oV x) x.r:=by unfold bW;rw[if_pos (.inr h)]
theorem qeG(h0:dJ (-oV y)*dJ y.r≠0)(h1:uw (x.p-y.p) (oV x) x.r≠dJ (-oV y)*dJ y.r)(h2:uw (x.p-y.p) (oV x) x.r=0):bW x y=dJ (-oV y)*dJ y.r:=by
 unfold bW;rw[if_neg (by rintro(h|h);exact h0 h;exact h1 h),if_pos h2]
theorem qeH(h0:dJ (-oV y)*dJ y.r≠0)(h1:uw (x.p-y.p) (oV x) x.r≠dJ (-oV y)*dJ y.r)(h2:uw (x.p-y.p) (oV x) x.r≠0):
 bW x y=uw (x.p-y.p) (oV x) x.r*uw ((x.p-y.p)*(x.p-y.p)+x.r-y.r) (2*((x.p-y.p)*oV x)) x.r:=by
 unfold bW;rw[if_neg (by rintro(h|h);exact h0 h;exact h1 h),if_neg h2]
end
theorem qjm{x:Rl}(h:x.n=true):oV x=((-1:Int):Rat):=by unfold oV;rw[if_pos h];rfl
theorem qjn{x:Rl}(h:x.n=false):oV x=((1:Int):Rat):=by unfold oV;rw[if_neg (by rw[h];decide)];rfl
def nV{z:Int}(h1: -255<=z)(h2:z<=255):dw (z:Rat)<=2:=Nat.le_trans (qaZ z) (by have:=Bj h1 h2;unfold jH at this;omega)
def Fb:dw 2<=2:=nV (z:=2) (by omega) (by omega)
def wP:dw 0<=2:=nV (z:=0) (by omega) (by omega)
def U7(x:Rl):dw (oV x)<=2:=by
 unfold oV;split
 ·exact nV (z:= -1) (by omega) (by omega)
 ·exact nV (z:=1) (by omega) (by omega)
def gY(x:Rl):Nat:=max (dw x.p) (dw x.r)
def sO(x:Rl):dw x.p<=gY x:=Nat.le_max_left ..
def yj(x:Rl):dw x.r<=gY x:=Nat.le_max_right ..
def yV{q:Rat}{n:Nat}(h:dw q<=n)(h2:2<=n):gY (rl q)<=n:=Nat.max_le.2 ⟨h,Nat.le_trans wP h2⟩
def YD{q:Rat}{n:Nat}(h:dw q<=n):dw (nD q)<=n:=by
 unfold nD;have h1:jH ((cO q.num.natAbs:Nat):Int)<=n:=zW (Nat.le_trans (oM _) (Nat.le_trans (dO q) h));have h2:jH ((cO q.den:Nat):Int)<=n:=zW (Nat.le_trans (oM _) (by have:=Nat.le_trans (dP q) h;unfold jH at this;simpa using this));have:=yG h1 h2 (Nat.le_trans (IK q) h);omega
def PR(q:Rat):dw (nD q)<=dw q:=YD (Nat.le_refl _)
def qhv{p q r:Rat}:gY (mkR p q r)<=dw p+dw q+dw q+dw r+2:=by
 unfold mkR
 split
 ·refine yV ?_ (by omega);have h1:=bT p (q*nD r);have h2:=aS q (nD r);have h3:=PR r;omega
 ·refine Nat.max_le.2 ⟨?_,?_⟩
  ·show dw p<=_;omega
  ·show dw (q*q*r)<=_;have h1:=aS (q*q) r;have h2:=aS q q;omega
def qeI(q:Rat):(dm q).size<=dw q:=by
 unfold dm
 split
 ·exact Nat.zero_le _
 ·rw[lM];exact Nat.le_max_right ..
end Go.Via
namespace Go.Proofs.YtaffcpfhedadhaaGreatDoor
open Go Go.Via
def SN(q:Rat)(h:dw q<=5000:=by omega):aP Tryz.prog 105 #[Q q] (.int .i64 0):=by
 have:=Gv (decide (q.num<0)) (bQ q.num.natAbs) false (dm q) (by rw[lM];exact Nat.le_trans (Nat.le_max_left ..) h) (Nat.le_trans (qeI q) h);rw[I5.2 ⟨q,rfl,rfl,rfl,rfl⟩,if_pos rfl] at this;exact this
end Go.Proofs.YtaffcpfhedadhaaGreatDoor
namespace Go.Via
def qbb{q:Rat}(h:ou q.num=true){n:Nat}(h1:jH q.num<=n)(hn:n<=8388608:=by omega):jH (if ou q.num=true then((cO q.num.natAbs:Nat):Int) else 0)<=8388608:=by
 rw[if_pos h];exact zW (Nat.le_trans (oM _) (Nat.le_trans h1 hn))
def qbc{q:Rat}(h:ou (q.den:Int)=true){n:Nat}(h1:jH (q.den:Int)<=n)(hn:n<=8388608:=by omega):jH (if ou (q.den:Int)=true then((cO (q.den:Int).natAbs:Nat):Int) else 0)<=8388608:=by
 rw[if_pos h];exact zW (Nat.le_trans (oM _) (Nat.le_trans h1 hn))
def qbe{q:Rat}(h:ou (q.den:Int)=true):(if ou (q.den:Int)=true then((cO (q.den:Int).natAbs:Nat):Int) else 0)≠0:=by
 rw[if_pos h];have hd:=q.den_nz;unfold ou at h;simp only[Bool.and_eq_true,beq_iff_eq,Int.natAbs_natCast] at h;rw[Int.natAbs_natCast];intro e;have:cO q.den=0:=by omega
 have h2:=h.2;rw[this] at h2;omega
end Go.Via
namespace Go.Via
theorem WH:I 0= .agg #[aX,aY]:=by show Value.agg #[.bool (decide ((0:Int)<0)),.string (bQ 0)]=_;rw[je];rfl
end Go.Via
namespace Go.Via
theorem Ob(q:Rat):RV (rl q)= .agg #[.bool (decide (q.num<0)),.string (bQ q.num.natAbs),.bool false,.string (dm q),aX,aY,aX,aY,.bool false]:=by
 have h:bQ (0:Rat).num.natAbs=⟨#[]⟩:=je;have h2:dm 0=⟨#[]⟩:=rfl;show Value.agg #[_,_,_,_,.bool (decide ((0:Rat).num<0)),.string (bQ (0:Rat).num.natAbs),_,.string (dm 0),_]=_;rw[h,h2];rfl
end Go.Via
namespace Go.Proofs.YtaffcpfhedadhaaGreatDoor
open Go Go.RowKit Go.Via
variable[Mo]
def AB(a b r:Rat)(ha:dw a<=500000:=by omega)(hb:dw b<=500000:=by omega)(hr:dw r<=500000:=by omega):aP Tryz.prog 181 #[Q a,Q b,Q r] (.int .i64 (uw a b r)):=by
 refine pB3 40 Tryz.func181 fun w=>?_;refine A2 ?_;refine Bp 4 (fun g0=>?_);refine Bp 4 (fun g1=>?_);refine Bp 4 (fun g2=>?_);refine A4 ?_;refine Dp [2000000] [0,2,4,1,3,5,6,7,8] ?_;refine L4 0 0 ?_;refine L4 1 0 ?_;refine L4 2 0 ?_;refine Pc (fF _) ?_;refine Pc (fF _) ?_;refine Pc (fF _) ?_;refine(Aq (dJ b*dJ r)) (congrArg some (w3 (DW b) (DW r))) ?_;refine oO ?_;refine Rs 19 ?_ ?_<;>intro hb0
 ·have hs19:=eq_of_beq hb0;refine MW ?_;refine E0 ?_;rw[qhr hs19];rfl
 ·have hs19:=ne_of_beq_false hb0;refine A7 ?_;refine Cd ?_ ?_<;>intro hb1
  ·have hs16:=eq_of_beq hb1;refine A9 ?_;refine E0 ?_;rw[qhs hs16];rfl
  ·have hs16:=ne_of_beq_false hb1;refine A7 ?_;refine Cd ?_ ?_<;>intro hb2
   ·have hs25:=eq_of_beq hb2;refine A9 ?_;refine E0 ?_;rw[qht hs19 hs16 hs25]
   ·have hs25:=ne_of_beq_false hb2;refine A4 ?_;refine Dp [] [0,1,2,4,5,7,3,6,8,9,10,11] ?_;refine A1 ?_;refine L4 0 0 ?_;refine L4 0 0 ?_;refine L4 1 0 ?_;refine L4 1 0 ?_;refine L4 2 0 ?_;refine dE [_,_] rfl rfl rfl (aK _ _ (by first|assumption|grind [dW,dX,dY,dZ,eF,dO,dP,bT,bJ,aS,dR,dI,jI]) (by first|assumption|grind [dW,dX,dY,dZ,eF,dO,dP,bT,bJ,aS,dR,dI,jI])) ?_;refine dE [_,_] rfl rfl rfl (aK _ _ (by first|assumption|grind [dW,dX,dY,dZ,eF,dO,dP,bT,bJ,aS,dR,dI,jI]) (by first|assumption|grind [dW,dX,dY,dZ,eF,dO,dP,bT,bJ,aS,dR,dI,jI])) ?_;refine dE [_,_] rfl rfl rfl (aK _ _ (by first|assumption|grind [dW,dX,dY,dZ,eF,dO,dP,bT,bJ,aS,dR,dI,jI]) (by first|assumption|grind [dW,dX,dY,dZ,eF,dO,dP,bT,bJ,aS,dR,dI,jI])) ?_;refine dE [_,_] rfl rfl rfl (DV _ _ (by first|assumption|grind [dW,dX,dY,dZ,eF,dO,dP,bT,bJ,aS,dR,dI,jI]) (by first|assumption|grind [dW,dX,dY,dZ,eF,dO,dP,bT,bJ,aS,dR,dI,jI])) ?_;refine(Aq (dJ a*oC (a*a) (b*b*r))) (congrArg some (w3 (DW a) (qba _ _))) ?_;refine A4 ?_;refine E0 ?_;rw[qhu hs19 hs16 hs25]
def xA(x:Rl):aP Tryz.prog 180 #[RV x] (Q (oV x)):=by
 refine xJ 7 Tryz.func180 fun w=>?_;refine A2 ?_;refine Bp 9 (fun g0=>?_);refine Al 4 qV (fun g1=>?_);refine A9 ?_;refine Cd ?_ ?_<;>intro hb0
 ·refine A2 ?_;refine dE [_] rfl rfl rfl (gG _) ?_;refine Ss 1 ?_;refine A4 ?_;refine G7 1 ?_;rw[qjm hb0];rfl
 ·refine A4 ?_;refine dE [_] rfl rfl rfl (gG _) ?_;refine Ss 1 ?_;refine A3 ?_;refine G7 1 ?_;rw[qjn hb0];rfl
def AL(x:Rl)(hx:gY x<=400000:=by omega):aP Tryz.prog 236 #[RV x] (.int .i64 (uw x.p (oV x) x.r)):=by
 have e1:=Nat.le_trans (sO x) hx;have e2:=Nat.le_trans (yj x) hx;have e3:=U7 x;refine xJ 10 Tryz.func236 fun w=>?_;refine A2 ?_;refine Bp 9 (fun g0=>?_);refine A4 ?_;refine Dp [] [0,1,2,4,5,3,6,7] ?_;refine A1 ?_;refine L4 0 0 ?_;refine L9 0 0 ?_;refine A1 ?_;refine L4 0 4 ?_;refine Pc (xA x) ?_;refine Pc (AB x.p (oV x) x.r) ?_;refine A4 ?_;refine E0 ?_;exact rfl
def dL(x y:Rl)(hx:gY x<=50000:=by omega)(hy:gY y<=50000:=by omega):aP Tryz.prog 130 #[RV x,RV y] (.int .i64 (bW x y)):=by
 have x1:=Nat.le_trans (sO x) hx;have x2:=Nat.le_trans (yj x) hx;have y1:=Nat.le_trans (sO y) hy;have y2:=Nat.le_trans (yj y) hy;have fx:=U7 x;have fy:=U7 y;have l1:=bJ x.p y.p;have l2:=aS (x.p-y.p) (x.p-y.p);have l3:=bT ((x.p-y.p)*(x.p-y.p)) x.r;have l4:=bJ ((x.p-y.p)*(x.p-y.p)+x.r) y.r;have l5:=aS (x.p-y.p) (oV x);have l6:=aS 2 ((x.p-y.p)*oV x);have l7:=Fb;refine oG 65 Tryz.func130 fun w=>?_;refine A2 ?_;refine Bp 9 (fun g0=>?_);refine Bp 9 (fun g1=>?_);refine A4 ?_;refine Dq [3000000] [0,1,2,3,5,7,4,6,8,9,10,11,12,13,14,15] ?_;refine A1 ?_;refine L4 0 0 ?_;refine A1 ?_;refine L4 1 0 ?_;refine L9 0 0 ?_;refine L9 1 0 ?_;refine Pc (fZ x.p y.p) ?_;refine Pc (xA x) ?_;refine Pc (xA y) ?_;refine Pc (vg (oV y)) ?_;refine Al 4 qV (fun g2=>?_);refine Al 4 qV (fun g3=>?_);refine Al 4 qV (fun g4=>?_);refine Ss 2 ?_;refine Ss 3 ?_;refine Ss 4 ?_;refine A3 ?_;refine Dp [2000000] [0,1,2,3,5,7,8,4,6,9,10,11,12] ?_;refine L4 2 0 ?_;refine L4 3 0 ?_;refine A1 ?_;refine L4 0 4 ?_;refine L4 4 0 ?_;refine A1 ?_;refine L4 1 4 ?_;refine Pc (AB (x.p-y.p) (oV x) x.r) ?_;refine Pc (fF (-oV y)) ?_;refine Pc (fF y.r) ?_;refine(Aq (dJ (-oV y)*dJ y.r)) (congrArg some (w3 (DW _) (DW _))) ?_;refine oO ?_;refine Rs 35 ?_ ?_<;>intro hb0
 ·have hs35:=eq_of_beq hb0;refine MW ?_;refine E0 ?_;rw[qeE hs35]
 ·have hs35:=ne_of_beq_false hb0;refine A7 ?_;refine Cd ?_ ?_<;>intro hb1
  ·have hs32:=eq_of_beq hb1;refine A9 ?_;refine E0 ?_;rw[qeF hs32]
  ·have hs32:=ne_of_beq_false hb1;refine A7 ?_;refine Cd ?_ ?_<;>intro hb2
   ·have hs41:=eq_of_beq hb2;refine A9 ?_;refine E0 ?_;rw[qeG hs35 hs32 hs41]
   ·have hs41:=ne_of_beq_false hb2;refine A4 ?_;refine Dq [3000000] [0,1,3,4,6,7,2,5,8,9,10] ?_;refine L4 2 0 ?_;refine L4 2 0 ?_;refine A1 ?_;refine L4 0 4 ?_;refine A1 ?_;refine L4 1 4 ?_;refine Pc (aK (x.p-y.p) (x.p-y.p)) ?_;refine Pc (cu ((x.p-y.p)*(x.p-y.p)) x.r) ?_;refine Pc (fZ ((x.p-y.p)*(x.p-y.p)+x.r) y.r) ?_;refine Al 4 qV (fun g5=>?_);refine Ss 5 ?_;refine A3 ?_;refine Dp [] [0,1,3,4,7,8,2,5,6,9,10,11] ?_;refine A1 ?_;refine L4 5 0 ?_;refine L4 2 0 ?_;refine L4 3 0 ?_;refine A1 ?_;refine L4 0 4 ?_;refine Pc (gG 2) ?_;refine Kr 56 (Q 2) ?_;refine Pc (aK (x.p-y.p) (oV x)) ?_;refine Pc (aK 2 ((x.p-y.p)*oV x)) ?_;refine Pc (AB ((x.p-y.p)*(x.p-y.p)+x.r-y.r) (2*((x.p-y.p)*oV x)) x.r) ?_;refine(Aq (uw (x.p-y.p) (oV x) x.r*uw ((x.p-y.p)*(x.p-y.p)+x.r-y.r) (2*((x.p-y.p)*oV x)) x.r)) (congrArg some (w3 (BR _ _ _) (BR _ _ _))) ?_;refine A4 ?_;refine E0 ?_;rw[qeH hs35 hs32 hs41]
def lg(q:Rat):aP Tryz.prog 86 #[Q q] (RV (rl q)):=by
 refine xJ 5 Tryz.func86 fun w=>?_;refine A2 ?_;refine Bp 4 (fun g0=>?_);refine Al 9 O5 (fun g1=>?_);refine A4 ?_;refine L4 0 0 ?_;refine(Bu [(0,_)]) (JL) ?_;refine Ss 1 ?_;refine A3 ?_;refine Ed9 1 ?_;rw[Ob]
def wQ(x:Rl)(q:Rat)(hx:gY x<=50000:=by omega)(hq:dw q<=50000:=by omega):aP Tryz.prog 118 #[RV x,Q q] (.int .i64 (bW x (rl q))):=by
 refine oG 9 Tryz.func118 fun w=>?_;refine A2 ?_;refine Bp 9 (fun g0=>?_);refine Bp 4 (fun g1=>?_);refine A4 ?_;refine Di [] ?_;refine L9 0 0 ?_;refine L4 1 0 ?_;refine Pc (lg q) ?_;refine Pc (dL x (rl q) hx (yV hq (by omega))) ?_;refine A4 ?_;refine E0 ?_;exact rfl
def KH(x y:Rl)(hx:gY x<=50000:=by omega)(hy:gY y<=50000:=by omega):aP Tryz.prog 83 #[RV x,RV y] (RV (gX x y)):=by
 refine oG 11 Tryz.func83 fun w=>?_;refine A2 ?_;refine Bp 9 (fun g0=>?_);refine Bp 9 (fun g1=>?_);refine Al 9 O5 (fun g2=>?_);refine A5 ?_;refine L9 1 0 ?_;refine L9 0 0 ?_;refine Pc (dL y x hy hx) ?_;refine A3 ?_;refine Cd ?_ ?_<;>intro hb0
 ·refine A2 ?_;refine L9 1 0 ?_;refine Ss 2 ?_;refine A4 ?_;refine Ed9 2 ?_;rw[gX,if_pos (of_decide_eq_true hb0)];rfl
 ·refine A4 ?_;refine L9 0 0 ?_;refine Ss 2 ?_;refine A3 ?_;refine Ed9 2 ?_;rw[gX,if_neg (of_decide_eq_false hb0)];rfl
end Go.Proofs.YtaffcpfhedadhaaGreatDoor
namespace Go.Proofs.YtaffcpfhedadhaaGreatDoor
open Go Go.RowKit Go.Via
def vk(z:Int)(hz:jH z<=33554432:=by omega):aP Tryz.prog 159 #[I z] (.tuple #[I (if ou z=true then((cO z.natAbs:Nat):Int) else 0),.bool (ou z)]):=by
 have hr:=oM z.natAbs;have hz2:nb z.natAbs<=33554432:=hz;refine xJ 20 Tryz.func159 fun w=>?_;refine A2 ?_;refine Bp 2 (fun g0=>?_);refine Al 2 xR (fun g1=>?_);refine lm ?_;refine Cd ?_ ?_<;>intro hb0
 ·refine A2 ?_;refine(Bu []) (F5) ?_;refine Ss 1 ?_;refine A5 ?_;refine bF rfl (bu 1 rfl rfl yK (vs:=[_,_]) rfl rfl (Nat.le_of_ble_eq_true rfl) rfl) (aj rfl) (fun w hL=>⟨?_,hL.below⟩);rw[qa7 hb0,if_neg (by decide),WH]
 ·refine A6 ?_;refine Pc (Az z.natAbs hz2) ?_;refine A5 ?_;refine Dp [] [0,1,3,4,2,5] ?_;refine A4 ?_;refine dE [_,_] rfl rfl rfl (CQ _ _) ?_;refine A3 ?_;refine Cd ?_ ?_<;>intro hb1
  ·refine A2 ?_;refine(Bu []) (F5) ?_;refine Ss 1 ?_;refine A5 ?_;refine bF rfl (bu 1 rfl rfl yK (vs:=[_,_]) rfl rfl (Nat.le_of_ble_eq_true rfl) rfl) (aj rfl) (fun w hL=>⟨?_,hL.below⟩);rw[qeD hb1,if_neg (by decide),WH]
  ·refine A5 ?_;refine Pc (dF false (cO z.natAbs)) ?_;refine Ss 1 ?_;refine A4 ?_;refine bF rfl (bu 1 rfl rfl yK (vs:=[_,_]) rfl rfl (Nat.le_of_ble_eq_true rfl) rfl) (aj rfl) (fun w hL=>⟨?_,hL.below⟩);rw[qa8 hb0 hb1,if_pos rfl];rfl
def zh(q:Rat)(hq:dw q<=4194303:=by omega):aP Tryz.prog 107 #[Q q] (.tuple #[Q (if BM q=true then nD q else 0),.bool (BM q)]):=by
 have h1:=Nat.le_trans (dO q) hq;have h2:=Nat.le_trans (dP q) hq;have h3:=oM q.num.natAbs;have h4:=oM q.den;refine xJ 30 Tryz.func107 fun w=>?_;refine A2 ?_;refine Bp 4 (fun g0=>?_);refine Al 4 qV (fun g1=>?_);refine A6 ?_;refine L2 0 0 ?_;refine Pc (vk q.num) ?_;refine A3 ?_;refine Al 2 xR (fun g2=>?_);refine Ss 2 ?_;refine A5 ?_;refine L4 0 0 ?_;refine Pc (fV q) ?_;refine Pc (vk (q.den:Int)) ?_;refine A3 ?_;refine Al 2 xR (fun g3=>?_);refine Ss 3 ?_;refine A9 ?_;refine Rs 22 ?_ ?_<;>intro hb0
 ·have hs22:ou q.num=false:=by have e:=hb0;simpa using e
  refine A8 ?_;refine(Bu []) (yL) ?_;refine Ss 1 ?_;refine A5 ?_;refine bF rfl (bu 1 rfl rfl BZ (vs:=[_,_,_,_]) rfl rfl (Nat.le_of_ble_eq_true rfl) rfl) (aj rfl) (fun w hL=>⟨?_,hL.below⟩);rw[Gw,hs22,Bool.false_and,if_neg (by decide),yI]
 ·have hs22:ou q.num=true:=by have e:=hb0;simpa using e
  refine A5 ?_;refine Cd ?_ ?_<;>intro hb1
  ·have hs23:ou (q.den:Int)=false:=by have e:=hb1;simpa using e
   refine A2 ?_;refine(Bu []) (yL) ?_;refine Ss 1 ?_;refine A5 ?_;refine bF rfl (bu 1 rfl rfl BZ (vs:=[_,_,_,_]) rfl rfl (Nat.le_of_ble_eq_true rfl) rfl) (aj rfl) (fun w hL=>⟨?_,hL.below⟩);rw[Gw,hs23,Bool.and_false,if_neg (by decide),yI]
  ·have hs23:ou (q.den:Int)=true:=by have e:=hb1;simpa using e
   refine A4 ?_;refine L2 2 0 ?_;refine L2 3 0 ?_;refine Pc (ku _ _ (qbb hs22 h1) (qbc hs23 h2) (qbe hs23)) ?_;refine Ss 1 ?_;refine A4 ?_;refine bF rfl (bu 1 rfl rfl BZ (vs:=[_,_,_,_]) rfl rfl (Nat.le_of_ble_eq_true rfl) rfl) (aj rfl) (fun w hL=>⟨?_,hL.below⟩);rw[Gw,hs22,hs23];rfl
end Go.Proofs.YtaffcpfhedadhaaGreatDoor
namespace Go.Via
open Go
structure Two(a b:List PU)(m:Rl)(S:Rl->Prop)(ρ:Rl->Int):Prop where
 T:gU S ρ
 ea:Ends S a
 eb:Ends S b
 sa:qH ρ a
 sb:qH ρ b
 sm:S m
 only:∀x,S x->iR x∨x=m
def D9(i:Iv)(t:Rl):Bool:=(decide (bW i.f t<0)||decide (bW i.f t=0)&& !i.fo)&&(decide (bW t i.t<0)||decide (bW t i.t=0)&& !i.tp)
def qhw{S:Rl->Prop}{ρ:Rl->Int}(hS:∀x,S x->qk3 x)(T:gU S ρ){a b:List PU}(ea:Ends S a)(eb:Ends S b)(sa:qH ρ a)(sb:qH ρ b):Yu ((ay a b).map aZ):=fun p hp=>by
 obtain⟨z,hz,rfl⟩:=List.mem_map.1 hp;rw[lJ T sa sb ea eb] at hz;obtain⟨x,hx,y,hy,hm⟩:=(yf T sb eb sa ea).2 z hz;obtain⟨_,e2,s1,s2,_⟩:=uY T (ea x hx) (eb y hy) hm;obtain⟨u,hu⟩:=hS _ s1;obtain⟨v,hv⟩:=hS _ s2;refine⟨wL z.2 u,wL z.2 v,?_,?_,?_,?_⟩
 ·rw[e2];exact N8 _ _ _
 ·rw[e2];exact N8 _ _ _
 ·unfold aZ;rw[hu,Gq]
 ·unfold aZ;rw[hv,Gq]
def qbf{a b:List PU}(sa:qH jE a)(sb:qH jE b)(ea:Ends iR a)(eb:Ends iR b):Yu ((ay a b).map aZ):=
 qhw (fun x ⟨z,hz⟩=>⟨_,hz⟩) qj ea eb sa sb
def SQ:∀{l:List oZ} {q:Rat},Yu l->∃M,l.foldl (fun o x=>gX o (gX x.a x.b)) (rl q)=rl M∧q<=M∧∀p∈l,∀u v,p.a=rl u->p.b=rl v->u<=M∧v<=M
 |[],q,_=>⟨q,rfl,Rat.le_refl,by simp⟩
 |p::l,q,h=>by
  obtain⟨u,v,hu,hv,ea,eb⟩:=h p (List.mem_cons_self ..);obtain⟨M,h1,h2,h3⟩:=SQ (l:=l) (q:=Si q (Si u v)) fun x hx=>h x (List.mem_cons_of_mem _ hx)
  have hq:q<=Si q (Si u v)∧u<=Si q (Si u v)∧v<=Si q (Si u v):=(by unfold Si;grind);refine⟨M,?_,Rat.le_trans hq.1 h2,fun x hx u' v' eu ev=>?_⟩
  ·rw[List.foldl_cons,ea,eb,rJ,rJ];exact h1
  ·rcases List.mem_cons.1 hx with rfl|hx
   ·rw[ea] at eu;rw[eb] at ev;have e1:u=u':=congrArg Rl.p eu;have e2:v=v':=congrArg Rl.p ev;rw[<-e1,<-e2];exact⟨Rat.le_trans hq.2.1 h2,Rat.le_trans hq.2.2 h2⟩
   ·exact h3 x hx u' v' eu ev
def qbg{l:List oZ}(h:Yu l)(hne:l≠[]):∃M,fO l=rl M∧∀p∈l,∀u v,p.a=rl u->p.b=rl v->u<=M∧v<=M:=by
 cases l with
 |nil=>exact absurd rfl hne
 |cons p l=>
  obtain⟨u,v,hu,hv,ea,eb⟩:=h p (List.mem_cons_self ..);obtain⟨M,h1,h2,h3⟩:=SQ (l:=p::l) (q:=u) h;exact⟨M,by show List.foldl _ p.a (p::l)=_;rw[ea];exact h1,h3⟩
end Go.Via
namespace Go.Via
open Go
theorem KI{a b:List PU}(sa:qH jE a)(sb:qH jE b)(ea:Ends iR a)(eb:Ends iR b)(hne:ay a b≠[]):CO ((ay a b).map aZ)=fO ((ay a b).map aZ):=
 (U0 (qbf sa sb ea eb) (by simpa using hne)).symm
theorem SS{a b:List PU}(sa:qH jE a)(sb:qH jE b)(ea:Ends iR a)(eb:Ends iR b):ay a b=ay b a:=U1 qj sa sb ea eb
def qbh{a b:List PU}(sa:qH jE a)(sb:qH jE b)(ea:Ends iR a)(eb:Ends iR b)(hne:ay a b≠[]):∃M,fO ((ay a b).map aZ)=rl M:=by
 obtain⟨M,h,_⟩:=qbg (qbf sa sb ea eb) (by simpa using hne);exact⟨M,h⟩
def qbi{a b:List PU}(sa:qH jE a)(sb:qH jE b)(ea:Ends iR a)(eb:Ends iR b)(hne:ay a b≠[]):vW a b ((ay a b).map aZ) (fO ((ay a b).map aZ))=0:=by
 obtain⟨M,h⟩:=qbh sa sb ea eb hne;exact qeo (fun x ⟨z,hz⟩=>⟨_,hz⟩) qj sa sb ea eb hne (by rw[h];exact I4 M)
end Go.Via
namespace Go.Via
open Go
def PT(x y:Rl):gX x y=x∨gX x y=y:=by unfold gX;split<;>simp
def YE{l:List oZ}(hne:l≠[]):∃p∈l,fO l=p.a∨fO l=p.b:=by
 have step:∀(l:List oZ) (o:Rl),l.foldl (fun o x=>gX o (gX x.a x.b)) o=o∨∃p∈l,l.foldl (fun o x=>gX o (gX x.a x.b)) o=p.a∨l.foldl (fun o x=>gX o (gX x.a x.b)) o=p.b:=by
  intro l
  induction l with
  |nil=>intro o;exact .inl rfl
  |cons p l ih=>
   intro o;rw[List.foldl_cons];rcases ih (gX o (gX p.a p.b)) with e|⟨q,hq,e⟩
   ·rw[e];rcases PT o (gX p.a p.b) with e1|e1
    ·exact .inl e1
    ·right
     refine⟨p,List.mem_cons_self ..,?_⟩;rw[e1];exact PT _ _
   ·exact .inr ⟨q,List.mem_cons_of_mem _ hq,e⟩
 cases l with
 |nil=>exact absurd rfl hne
 |cons p l=>
  rcases step (p::l) p.a with e|h
  ·exact⟨p,List.mem_cons_self ..,.inl e⟩
  ·exact h
end Go.Via
namespace Go.Via
open Go
def uB(f:Qd):Nat:=max (dw f.c0) (max (dw f.c1) (dw f.c2))
def qo(f:Qd):dw f.c0<=uB f:=Nat.le_max_left ..
def qp(f:Qd):dw f.c1<=uB f:=Nat.le_trans (Nat.le_max_left ..) (Nat.le_max_right ..)
def qM(f:Qd):dw f.c2<=uB f:=Nat.le_trans (Nat.le_max_right ..) (Nat.le_max_right ..)
def Gx{f:Qd}{n:Nat}(h0:dw f.c0<=n)(h1:dw f.c1<=n)(h2:dw f.c2<=n):uB f<=n:=Nat.max_le.2 ⟨h0,Nat.max_le.2 ⟨h1,h2⟩⟩
def Cc(f:Qd):Int:=if f.c2≠0 then 2 else if f.c1≠0 then 1 else if f.c0≠0 then 0 else-1
theorem PV{q:Rat}:dJ q≠0↔q≠0:=by
 rcases jD q with⟨h,e⟩|⟨h,e⟩|⟨h,e⟩<;>rw[e]<;>simp
 ·grind
 ·grind
 ·exact h
def xB(f:Qd)(t:Rat):dw (wL f t)<=dw f.c0+(dw t+(dw f.c1+(dw t+dw f.c2)+1))+1:=by
 unfold wL;have h1:=aS t f.c2;have h2:=bT f.c1 (t*f.c2);have h3:=aS t (f.c1+t*f.c2);have h4:=bT f.c0 (t*(f.c1+t*f.c2));omega
def qbj(f:Qd)(t:Rat):dw (CJ f t)<=dw f.c1+(dw f.c2+dw f.c2+1+dw t)+1:=by
 unfold CJ;have h1:=bT f.c2 f.c2;have h2:=aS (f.c2+f.c2) t;have h3:=bT f.c1 ((f.c2+f.c2)*t);omega
def U8{f:Qd}{t:Rl}{m n:Nat}(hf:uB f<=m)(ht:gY t<=n):gY (NW f t)<=10*m+10*n+20:=by
 have e0:=Nat.le_trans (qo f) hf;have e1:=Nat.le_trans (qp f) hf;have e2:=Nat.le_trans (qM f) hf;have t1:=Nat.le_trans (sO t) ht;have t2:=Nat.le_trans (yj t) ht;have h1:=xB f t.p;have h2:=qbj f t.p;have h3:=aS f.c2 t.r;have h4:=bT (wL f t.p) (f.c2*t.r);unfold NW;refine Nat.le_trans qhv ?_;have h5:dw (if t.n=true then-CJ f t.p else CJ f t.p)<=dw (CJ f t.p):=by
  split
  ·exact dI _
  ·exact Nat.le_refl _
 omega
end Go.Via
namespace Go.Via
theorem SV:bQ (0:Rat).num.natAbs=⟨#[]⟩:=je
theorem dm0:dm 0=⟨#[]⟩:=rfl
theorem SX:decide ((0:Rat).num<0)=false:=rfl
theorem WI(a b:Rat):rM ⟨a,b,0⟩= .agg #[.bool (decide (a.num<0)),.string (bQ a.num.natAbs),.bool false,.string (dm a),.bool (decide (b.num<0)),.string (bQ b.num.natAbs),.bool false,.string (dm b),aX,aY,aX,aY]:=by
 unfold rM;dsimp only;rw[SV,dm0,SX]
theorem Oc(a:Rat):rM ⟨a,0,0⟩= .agg #[.bool (decide (a.num<0)),.string (bQ a.num.natAbs),.bool false,.string (dm a),aX,aY,aX,aY,aX,aY,aX,aY]:=by
 unfold rM;dsimp only;rw[SV,dm0,SX]
def qbk:rM ⟨0,0,0⟩= .agg #[aX,aY,aX,aY,aX,aY,aX,aY,aX,aY,aX,aY]:=by
 unfold rM;dsimp only;rw[SV,dm0,SX]
def WJ:RV (rl 0)= .agg #[aX,aY,aX,aY,aX,aY,aX,aY,.bool false]:=by
 rw[Ob,SV,dm0,SX]
def vw(f:Qd)(t:Rl):Qd:=if t.r=0 then⟨wL f t.p,0,0⟩ else⟨f.c0+f.c2*(t.r-t.p*t.p),CJ f t.p,0⟩
def qw(f g:Qd):Qd:=⟨f.c0-g.c0,f.c1-g.c1,f.c2-g.c2⟩
def qeJ{f g:Qd}{m n:Nat}(hf:uB f<=m)(hg:uB g<=n):uB (qw f g)<=m+n+1:=by
 have f0:=Nat.le_trans (qo f) hf;have f1:=Nat.le_trans (qp f) hf;have f2:=Nat.le_trans (qM f) hf;have g0:=Nat.le_trans (qo g) hg;have g1:=Nat.le_trans (qp g) hg;have g2:=Nat.le_trans (qM g) hg;refine Gx ?_ ?_ ?_
 ·have:=bJ f.c0 g.c0;show dw (f.c0-g.c0)<=_;omega
 ·have:=bJ f.c1 g.c1;show dw (f.c1-g.c1)<=_;omega
 ·have:=bJ f.c2 g.c2;show dw (f.c2-g.c2)<=_;omega
def qk7(f:Qd)(n:Nat):Prop:=n<=3∧(n<=2->f.c2=0)∧(n<=1->f.c1=0)∧(n<=0->f.c0=0)
def qbl{q:Rat}(h:dJ q=0):q=0:=Classical.byContradiction fun e=>PV.2 e h
theorem qhx{f:Qd}(h:dJ f.c2≠0):Cc f=2:=by unfold Cc;rw[if_pos (PV.1 h)]
theorem qhy{f:Qd}(h2:f.c2=0)(h:dJ f.c1≠0):Cc f=1:=by unfold Cc;rw[if_neg (fun e=>e h2),if_pos (PV.1 h)]
theorem qhz{f:Qd}(h2:f.c2=0)(h1:f.c1=0)(h:dJ f.c0≠0):Cc f=0:=by unfold Cc;rw[if_neg (fun e=>e h2),if_neg (fun e=>e h1),if_pos (PV.1 h)]
theorem qhA{f:Qd}(h2:f.c2=0)(h1:f.c1=0)(h:f.c0=0):Cc f= -1:=by unfold Cc;rw[if_neg (fun e=>e h2),if_neg (fun e=>e h1),if_neg (fun e=>e h)]
def SY{f:Qd}(h:f.c2=0):Cc f<=1:=by unfold Cc;rw[if_neg (fun e=>e h)];split<;>(try split)<;>omega
def WL(f:Qd): -1<=Cc f∧Cc f<=2:=by
 unfold Cc
 by_cases h2:f.c2=0<;>by_cases h1:f.c1=0<;>by_cases h0:f.c0=0<;>simp[h0,h1,h2]
def qhB{r:Rat}(h:0<=r):¬r.num.sign<0:=by
 have:¬dJ r<0:=by rcases jD r with⟨_,e⟩|⟨e1,_⟩|⟨_,e⟩<;>(try rw[e])<;>(try decide);grind
 exact this
end Go.Via
namespace Go.Proofs.YtaffcpfhedadhaaGreatDoor
open Go Go.RowKit Go.Via
def Ii(x:Rl):aP Tryz.prog 318 #[RV x] (.tuple #[Q (if x.r=0 then x.p else 0),.bool (decide (x.r=0))]):=by
 refine xJ 11 Tryz.func318 fun w=>?_;refine A2 ?_;refine Bp 9 (fun g0=>?_);refine Al 4 qV (fun g1=>?_);refine A7 ?_;refine L4 0 4 ?_;refine(Bu []) (yL) ?_;refine aT 6 (Q 0) rfl yI.symm ?_;refine xM rfl rfl rfl rfl Z5 (Z8 _ _) ?_;refine A2 ?_;refine Cd ?_ ?_<;>intro hb0
 ·have hs7:x.r≠0:=by have e:=hb0;simpa using e
  refine A2 ?_;refine(Bu []) (yL) ?_;refine aT 8 (Q 0) rfl yI.symm ?_;refine Ss 1 ?_;refine A5 ?_;refine bF rfl (bu 1 rfl rfl BZ (vs:=[_,_,_,_]) rfl rfl (Nat.le_of_ble_eq_true rfl) rfl) (aj rfl) (fun w hL=>⟨?_,hL.below⟩);rw[if_neg hs7,decide_eq_false hs7];rfl
 ·have hs7:x.r=0:=by have e:=hb0;simpa using e
  refine A5 ?_;refine L4 0 0 ?_;refine Ss 1 ?_;refine A4 ?_;refine bF rfl (bu 1 rfl rfl BZ (vs:=[_,_,_,_]) rfl rfl (Nat.le_of_ble_eq_true rfl) rfl) (aj rfl) (fun w hL=>⟨?_,hL.below⟩);rw[if_pos hs7,decide_eq_true hs7];rfl
def sQ(c:Rat):aP Tryz.prog 74 #[Q c] (rM ⟨c,0,0⟩):=by
 refine xJ 5 Tryz.func74 fun w=>?_;refine A2 ?_;refine Bp 4 (fun g0=>?_);refine Al 12 G6 (fun g1=>?_);refine A4 ?_;refine L4 0 0 ?_;refine(Bu [(0,_)]) (ZY) ?_;refine Ss 1 ?_;refine A3 ?_;refine JR 1 ?_;rw[Oc]
def jM(a b:Rat):aP Tryz.prog 141 #[Q a,Q b] (rM ⟨a,b,0⟩):=by
 refine oG 8 Tryz.func141 fun w=>?_;refine A2 ?_;refine Bp 4 (fun g0=>?_);refine Bp 4 (fun g1=>?_);refine Al 12 G6 (fun g2=>?_);refine A4 ?_;refine L4 0 0 ?_;refine L4 1 0 ?_;refine(Bu [(0,_),(1,_)]) (ZZ) ?_;refine Ss 2 ?_;refine A3 ?_;refine JR 2 ?_;rw[WI]
def Ij(f g:Qd)(hf:uB f<=1000000:=by omega)(hg:uB g<=1000000:=by omega):aP Tryz.prog 92 #[rM f,rM g] (rM ⟨f.c0+g.c0,f.c1+g.c1,f.c2+g.c2⟩):=by
 have f0:=Nat.le_trans (qo f) hf;have f1:=Nat.le_trans (qp f) hf;have f2:=Nat.le_trans (qM f) hf;have g0:=Nat.le_trans (qo g) hg;have g1:=Nat.le_trans (qp g) hg;have g2:=Nat.le_trans (qM g) hg;refine oG 21 Tryz.func92 fun w=>?_;refine A2 ?_;refine Bp 12 (fun g0=>?_);refine Bp 12 (fun g1=>?_);refine Al 12 G6 (fun g2=>?_);refine A3 ?_;refine Dp [] [0,1,2,3,5,6,7,8,10,11,12,13,4,9,14,15,16] ?_;refine A1 ?_;refine L4 0 0 ?_;refine A1 ?_;refine L4 1 0 ?_;refine A1 ?_;refine L4 0 4 ?_;refine A1 ?_;refine L4 1 4 ?_;refine A1 ?_;refine L4 0 8 ?_;refine A1 ?_;refine L4 1 8 ?_;refine Pc (cu f.c0 g.c0) ?_;refine Pc (cu f.c1 g.c1) ?_;refine Pc (cu f.c2 g.c2) ?_;refine(Bu [(0,_),(1,_),(2,_)]) (F6) ?_;refine Ss 2 ?_;refine A3 ?_;refine JR 2 ?_;exact rfl
def zi(f g:Qd)(hf:uB f<=1000000:=by omega)(hg:uB g<=1000000:=by omega):aP Tryz.prog 77 #[rM f,rM g] (rM (qw f g)):=by
 have f0:=Nat.le_trans (qo f) hf;have f1:=Nat.le_trans (qp f) hf;have f2:=Nat.le_trans (qM f) hf;have g0:=Nat.le_trans (qo g) hg;have g1:=Nat.le_trans (qp g) hg;have g2:=Nat.le_trans (qM g) hg;refine oG 21 Tryz.func77 fun w=>?_;refine A2 ?_;refine Bp 12 (fun g0=>?_);refine Bp 12 (fun g1=>?_);refine Al 12 G6 (fun g2=>?_);refine A3 ?_;refine Dp [] [0,1,2,3,5,6,7,8,10,11,12,13,4,9,14,15,16] ?_;refine A1 ?_;refine L4 0 0 ?_;refine A1 ?_;refine L4 1 0 ?_;refine A1 ?_;refine L4 0 4 ?_;refine A1 ?_;refine L4 1 4 ?_;refine A1 ?_;refine L4 0 8 ?_;refine A1 ?_;refine L4 1 8 ?_;refine Pc (fZ f.c0 g.c0) ?_;refine Pc (fZ f.c1 g.c1) ?_;refine Pc (fZ f.c2 g.c2) ?_;refine(Bu [(0,_),(1,_),(2,_)]) (F6) ?_;refine Ss 2 ?_;refine A3 ?_;refine JR 2 ?_;exact rfl
def yl(f:Qd)(t:Rat)(hf:uB f<=500000:=by omega)(ht:dw t<=500000:=by omega):aP Tryz.prog 143 #[rM f,Q t] (Q (wL f t)):=by
 have f0:=Nat.le_trans (qo f) hf;have f1:=Nat.le_trans (qp f) hf;have f2:=Nat.le_trans (qM f) hf;have l1:=aS t f.c2;have l2:=bT f.c1 (t*f.c2);have l3:=aS t (f.c1+t*f.c2);refine oG 17 Tryz.func143 fun w=>?_;refine A2 ?_;refine Bp 12 (fun g0=>?_);refine Bp 4 (fun g1=>?_);refine Al 4 qV (fun g2=>?_);refine A3 ?_;refine Di [] ?_;refine A1 ?_;refine L4 0 0 ?_;refine L4 1 0 ?_;refine A1 ?_;refine L4 0 4 ?_;refine L4 1 0 ?_;refine A1 ?_;refine L4 0 8 ?_;refine Pc (aK t f.c2) ?_;refine Pc (cu f.c1 (t*f.c2)) ?_;refine Pc (aK t (f.c1+t*f.c2)) ?_;refine Pc (cu f.c0 (t*(f.c1+t*f.c2))) ?_;refine Ss 2 ?_;refine A3 ?_;refine G7 2 ?_;exact rfl
def wR(f:Qd)(t:Rat)(hf:uB f<=500000:=by omega)(ht:dw t<=500000:=by omega):aP Tryz.prog 144 #[rM f,Q t] (Q (CJ f t)):=by
 have f0:=Nat.le_trans (qo f) hf;have f1:=Nat.le_trans (qp f) hf;have f2:=Nat.le_trans (qM f) hf;have l1:=bT f.c2 f.c2;have l2:=aS (f.c2+f.c2) t;refine oG 15 Tryz.func144 fun w=>?_;refine A2 ?_;refine Bp 12 (fun g0=>?_);refine Bp 4 (fun g1=>?_);refine Al 4 qV (fun g2=>?_);refine A3 ?_;refine Dp [] [0,1,2,3,4,5,7,6,8,9,10] ?_;refine A1 ?_;refine L4 0 4 ?_;refine A1 ?_;refine L4 0 8 ?_;refine A1 ?_;refine L4 0 8 ?_;refine L4 1 0 ?_;refine Pc (cu f.c2 f.c2) ?_;refine Pc (aK (f.c2+f.c2) t) ?_;refine Pc (cu f.c1 ((f.c2+f.c2)*t)) ?_;refine Ss 2 ?_;refine A3 ?_;refine G7 2 ?_;exact rfl
def Hr(p q r:Rat)(h0:0<=r:=by omega)(hp:dw p<=500000:=by omega)(hq:dw q<=500000:=by omega)(hr:dw r<=500000:=by omega):aP Tryz.prog 146 #[Q p,Q q,Q r] (.tuple #[RV (mkR p q r),.int .i64 0]):=by
 have l1:=aS q q;have l2:=PR r;have l3:=aS q (nD r);refine pB3 36 Tryz.func146 fun w=>?_;refine A2 ?_;refine Bp 4 (fun g0=>?_);refine Bp 4 (fun g1=>?_);refine Bp 4 (fun g2=>?_);refine Al 9 O5 (fun g3=>?_);refine A6 ?_;refine L4 2 0 ?_;refine Pc (fF r) ?_;refine A3 ?_;refine Cd ?_ ?_<;>intro hb0
 ·exact absurd (of_decide_eq_true hb0) (by have:=(qhB h0);omega)
 ·refine A5 ?_;refine L4 2 0 ?_;refine Pc (zh r) ?_;refine A3 ?_;refine Al 4 qV (fun g4=>?_);refine Ss 4 ?_;refine A8 ?_;refine Cd ?_ ?_<;>intro hb1
  ·have hs:BM r=true:=hb1;refine A1 ?_;refine Di [] ?_;refine L4 0 0 ?_;refine L4 1 0 ?_;refine L4 4 0 ?_;refine aT 22 (Q (nD r)) rfl (by rw[hs,if_pos rfl];rfl) ?_;refine Pc (aK q (nD r)) ?_;refine Pc (cu p (q*nD r)) ?_;refine(Bu [(0,_)]) (JL) ?_;refine Ss 3 ?_;refine A5 ?_;refine bF rfl (bu 3 rfl rfl iK (vs:=[_,_,_,_,_,_,_,_,_]) rfl rfl (Nat.le_of_ble_eq_true rfl) rfl) (aj rfl) (fun w hL=>⟨?_,hL.below⟩);rw[mkR,hs,if_pos rfl,Ob]
  ·have hs:BM r=false:=hb1;refine A3 ?_;refine Dp [] [0,1,2,4,6,3,5,7,8,9,10,11] ?_;refine L4 0 0 ?_;refine L4 1 0 ?_;refine L4 1 0 ?_;refine L4 2 0 ?_;refine L4 1 0 ?_;refine Pc (aK q q) ?_;refine Pc (aK (q*q) r) ?_;refine Pc (fF q) ?_;refine A1 ?_;refine(Bu [(0,_),(1,_),(2,_)]) (ZX) ?_;refine Ss 3 ?_;refine A4 ?_;refine bF rfl (bu 3 rfl rfl iK (vs:=[_,_,_,_,_,_,_,_,_]) rfl rfl (Nat.le_of_ble_eq_true rfl) rfl) (aj rfl) (fun w hL=>⟨?_,hL.below⟩);rw[mkR,hs,if_neg (by decide)];rfl
def vz(f:Qd)(t:Rl)(h0:0<=t.r:=by omega)(hf:uB f<=10000:=by omega)(ht:gY t<=10000:=by omega):aP Tryz.prog 94 #[rM f,RV t] (RV (NW f t)):=by
 have f0:=Nat.le_trans (qo f) hf;have f1:=Nat.le_trans (qp f) hf;have f2:=Nat.le_trans (qM f) hf;have t1:=Nat.le_trans (sO t) ht;have t2:=Nat.le_trans (yj t) ht;have l1:=xB f t.p;have l2:=qbj f t.p;have l3:=aS f.c2 t.r;have l4:=bT (wL f t.p) (f.c2*t.r);have l5:=dI (CJ f t.p);refine oG 36 Tryz.func94 fun w=>?_;refine A2 ?_;refine Bp 12 (fun g0=>?_);refine Bp 9 (fun g1=>?_);refine Al 9 O5 (fun g2=>?_);refine A3 ?_;refine Dq [3000000] [0,1,2,4,5,6,7,3,8,9,10,11] ?_;refine ut 0 0 ?_;refine A1 ?_;refine L4 1 0 ?_;refine A1 ?_;refine L4 0 8 ?_;refine A1 ?_;refine L4 1 4 ?_;refine Pc (yl f t.p) ?_;refine Pc (aK f.c2 t.r) ?_;refine Pc (cu (wL f t.p) (f.c2*t.r)) ?_;refine Al 4 qV (fun g3=>?_);refine Ss 3 ?_;refine A4 ?_;refine ut 0 0 ?_;refine A1 ?_;refine L4 1 0 ?_;refine Pc (wR f t.p) ?_;refine Al 4 qV (fun g4=>?_);refine Ss 4 ?_;refine A9 ?_;refine Cd ?_ ?_<;>intro hb0
 ·refine A1 ?_;refine L4 4 0 ?_;refine Pc (vg (CJ f t.p)) ?_;refine Ss 4 ?_;refine A4 ?_;refine L4 3 0 ?_;refine L4 4 0 ?_;refine A1 ?_;refine L4 1 4 ?_;refine Pc (Hr (wL f t.p+f.c2*t.r) (-CJ f t.p) t.r h0) ?_;refine A3 ?_;refine Al 9 O5 (fun g5=>?_);refine Ss 5 ?_;refine A5 ?_;refine L9 5 0 ?_;refine Ss 2 ?_;refine A3 ?_;refine Ed9 2 ?_;rw[NW,if_pos hb0];rfl
 ·refine A4 ?_;refine L4 3 0 ?_;refine L4 4 0 ?_;refine A1 ?_;refine L4 1 4 ?_;refine Pc (Hr (wL f t.p+f.c2*t.r) (CJ f t.p) t.r h0) ?_;refine A3 ?_;refine Al 9 O5 (fun g5=>?_);refine Ss 5 ?_;refine A5 ?_;refine L9 5 0 ?_;refine Ss 2 ?_;refine A3 ?_;refine Ed9 2 ?_;rw[NW,if_neg (by rw[hb0];decide)];rfl
def o5(f:Qd)(t:Rl)(hf:uB f<=100000:=by omega)(ht:gY t<=100000:=by omega):aP Tryz.prog 316 #[rM f,RV t] (rM (vw f t)):=by
 have f0:=Nat.le_trans (qo f) hf;have f1:=Nat.le_trans (qp f) hf;have f2:=Nat.le_trans (qM f) hf;have t1:=Nat.le_trans (sO t) ht;have t2:=Nat.le_trans (yj t) ht;have l1:=aS t.p t.p;have l2:=bJ t.r (t.p*t.p);have l3:=aS f.c2 (t.r-t.p*t.p);refine oG 38 Tryz.func316 fun w=>?_;refine A2 ?_;refine Bp 12 (fun g0=>?_);refine Bp 9 (fun g1=>?_);refine Al 12 G6 (fun g2=>?_);refine A5 ?_;refine L9 1 0 ?_;refine Pc (Ii t) ?_;refine A3 ?_;refine Al 4 qV (fun g3=>?_);refine Ss 3 ?_;refine A8 ?_;refine Cd ?_ ?_<;>intro hb0
 ·have hs13:t.r=0:=of_decide_eq_true hb0;refine A2 ?_;refine ut 0 0 ?_;refine L4 3 0 ?_;refine aT 15 (Q t.p) rfl (by rw[if_pos hs13];rfl) ?_;refine Pc (yl f t.p) ?_;refine Pc (sQ (wL f t.p)) ?_;refine Ss 2 ?_;refine A4 ?_;refine JR 2 ?_;rw[vw,if_pos hs13];rfl
 ·have hs13:¬t.r=0:=of_decide_eq_false hb0;refine A3 ?_;refine Dq [3000000] [0,1,2,3,4,5,6,7,8,9] ?_;refine A1 ?_;refine L4 1 4 ?_;refine A1 ?_;refine L4 1 0 ?_;refine A1 ?_;refine L4 1 0 ?_;refine Pc (aK t.p t.p) ?_;refine Pc (fZ t.r (t.p*t.p)) ?_;refine Al 4 qV (fun g4=>?_);refine Ss 4 ?_;refine A3 ?_;refine Dp [] [0,1,2,3,4,7,8,9,5,6,10,11,12] ?_;refine A1 ?_;refine L4 0 0 ?_;refine A1 ?_;refine L4 0 8 ?_;refine L4 4 0 ?_;refine ut 0 0 ?_;refine A1 ?_;refine L4 1 0 ?_;refine Pc (aK f.c2 (t.r-t.p*t.p)) ?_;refine Pc (cu f.c0 (f.c2*(t.r-t.p*t.p))) ?_;refine Pc (wR f t.p) ?_;refine Pc (jM (f.c0+f.c2*(t.r-t.p*t.p)) (CJ f t.p)) ?_;refine Ss 2 ?_;refine A3 ?_;refine JR 2 ?_;rw[vw,if_neg hs13];rfl
def tH(t v u s:Rat)(h0:u-t≠0:=by omega)(h1:dw t<=100000:=by omega)(h2:dw v<=100000:=by omega)(h3:dw u<=100000:=by omega)(h4:dw s<=100000:=by omega):aP Tryz.prog 134 #[Q t,Q v,Q u,Q s] (.tuple #[rM ⟨v-(s-v)/(u-t)*t,(s-v)/(u-t),0⟩,.int .i64 0]):=by
 have l1:=bJ s v;have l2:=bJ u t;have l3:=dR (s-v) (u-t);have l4:=aS ((s-v)/(u-t)) t;refine pB4 33 Tryz.func134 fun w=>?_;refine A2 ?_;refine Bp 4 (fun g0=>?_);refine Bp 4 (fun g1=>?_);refine Bp 4 (fun g2=>?_);refine Bp 4 (fun g3=>?_);refine Al 12 G6 (fun g4=>?_);refine A4 ?_;refine Dq [3000000] [0,1,3,4,2,5,6,7,8,10,11,9,12] ?_;refine L4 3 0 ?_;refine L4 1 0 ?_;refine L4 2 0 ?_;refine L4 0 0 ?_;refine Pc (fZ s v) ?_;refine Pc (fZ u t) ?_;refine Pc (AA (s-v) (u-t)) ?_;refine A2 ?_;refine Al 4 qV (fun g5=>?_);refine Ss 5 ?_;refine A1 ?_;refine aT 21 (.int .i64 0) rfl (by rw[if_neg h0]) ?_;refine A8 ?_;refine Kr 23 (.bool false) ?_;refine A6 ?_;refine Dp [] [0,1,2,5,3,4,6,7,8] ?_;refine L4 1 0 ?_;refine L4 5 0 ?_;refine L4 0 0 ?_;refine L4 5 0 ?_;refine Pc (aK ((s-v)/(u-t)) t) ?_;refine Pc (fZ v ((s-v)/(u-t)*t)) ?_;refine Pc (jM (v-(s-v)/(u-t)*t) ((s-v)/(u-t))) ?_;refine Ss 4 ?_;refine A4 ?_;refine bF rfl (bu 4 rfl rfl XU (vs:=[_,_,_,_,_,_,_,_,_,_,_,_]) rfl rfl (Nat.le_of_ble_eq_true rfl) rfl) (aj rfl) (fun w hL=>⟨?_,hL.below⟩);exact rfl
def vC(f:Qd):aP Tryz.prog 72 #[rM f] (.int .i64 (Cc f)):=by
 refine xJ 22 Tryz.func72 fun w=>?_;refine A2 ?_;refine Bp 12 (fun g0=>?_);refine A6 ?_;refine L4 0 0 ?_;refine A1 ?_;refine L4 0 4 ?_;refine A1 ?_;refine L4 0 8 ?_;refine(Bu [(0,_),(1,_),(2,_)]) (qds) ?_;refine Al 12 qkC (fun g1=>?_);refine Ss 1 ?_;refine A9 ?_;refine El (ι:={n:Nat // qk7 f n}) (fun⟨n,hc⟩=>([(3,dV g1),(4,.int .i64 ((n:Int)-1))],[⟨some g0,91,qel f,12,true⟩,⟨some g1,174,qel f,12,true⟩],n)) ⟨3,by omega,fun h=>absurd h (by omega),fun h=>absurd h (by omega),fun h=>absurd h (by omega)⟩ ?_;rintro⟨n,hc⟩;(try dsimp only)
 have hn3:=hc.1;rcases(show n=3∨n=2∨n=1∨n=0 by omega) with rfl|rfl|rfl|rfl
 ·refine A5 ?_;refine Kr 13 (.bool true) ?_;refine lm ?_;refine tY 8 qgO BZ rfl rfl rfl rfl (by omega) (by omega) (by show 0+Int.toNat _*4=_;rfl) ?_;refine L4 1 8 ?_;refine Pc (fF f.c2) ?_;refine A3 ?_;refine Cd ?_ ?_<;>intro hb2
  ·have hs20:dJ f.c2≠0:=by have e:=hb2;revert e;unfold dJ;simp
   refine lX ?_;refine E0 ?_;rw[qhx hs20];rfl
  ·have hs20:dJ f.c2=0:=by have e:=hb2;revert e;unfold dJ;simp
   refine A5 ?_;refine(Aq (((2:Nat):Int)-1)) (by exact(congrArg some (by rfl))) ?_;refine A3 ?_;exact Nl ⟨2,⟨by omega,fun _=>qbl hs20,fun h=>absurd h (by omega),fun h=>absurd h (by omega)⟩⟩ (hμ:=(by show 2<3;omega)) (hL:=eG.auto)
 ·refine A5 ?_;refine Kr 13 (.bool true) ?_;refine lm ?_;refine tY 4 qgO BZ rfl rfl rfl rfl (by omega) (by omega) (by show 0+Int.toNat _*4=_;rfl) ?_;refine L4 1 4 ?_;refine Pc (fF f.c1) ?_;refine A3 ?_;refine Cd ?_ ?_<;>intro hb2
  ·have hs20:dJ f.c1≠0:=by have e:=hb2;revert e;unfold dJ;simp
   refine lX ?_;refine E0 ?_;rw[qhy (hc.2.1 (by omega)) hs20];rfl
  ·have hs20:dJ f.c1=0:=by have e:=hb2;revert e;unfold dJ;simp
   refine A5 ?_;refine(Aq (((1:Nat):Int)-1)) (by exact(congrArg some (by rfl))) ?_;refine A3 ?_;exact Nl ⟨1,⟨by omega,fun _=>hc.2.1 (by omega),fun _=>qbl hs20,fun h=>absurd h (by omega)⟩⟩ (hμ:=(by show 1<2;omega)) (hL:=eG.auto)
 ·refine A5 ?_;refine Kr 13 (.bool true) ?_;refine lm ?_;refine tY 0 qgO BZ rfl rfl rfl rfl (by omega) (by omega) (by show 0+Int.toNat _*4=_;rfl) ?_;refine L4 1 0 ?_;refine Pc (fF f.c0) ?_;refine A3 ?_;refine Cd ?_ ?_<;>intro hb2
  ·have hs20:dJ f.c0≠0:=by have e:=hb2;revert e;unfold dJ;simp
   refine lX ?_;refine E0 ?_;rw[qhz (hc.2.1 (by omega)) (hc.2.2.1 (by omega)) hs20];rfl
  ·have hs20:dJ f.c0=0:=by have e:=hb2;revert e;unfold dJ;simp
   refine A5 ?_;refine(Aq (((0:Nat):Int)-1)) (by exact(congrArg some (by rfl))) ?_;refine A3 ?_;exact Nl ⟨0,⟨by omega,fun _=>hc.2.1 (by omega),fun _=>hc.2.2.1 (by omega),fun _=>qbl hs20⟩⟩ (hμ:=(by show 0<1;omega)) (hL:=eG.auto)
 ·refine A5 ?_;refine Kr 13 (.bool false) ?_;refine D6 ?_;refine E0 ?_;rw[qhA (hc.2.1 (by omega)) (hc.2.2.1 (by omega)) (hc.2.2.2 (by omega))]
def Ik(f g:Qd)(z1:f.c2=0)(z2:g.c2=0)(hf:uB f<=100000:=by omega)(hg:uB g<=100000:=by omega):aP Tryz.prog 142 #[rM f,rM g] (.tuple #[rM ⟨f.c0*g.c0,f.c0*g.c1+f.c1*g.c0,f.c0*g.c2+f.c2*g.c0+f.c1*g.c1⟩,.int .i64 0]):=by
 have f0:=Nat.le_trans (qo f) hf;have f1:=Nat.le_trans (qp f) hf;have f2:=Nat.le_trans (qM f) hf;have g0:=Nat.le_trans (qo g) hg;have g1:=Nat.le_trans (qp g) hg;have g2:=Nat.le_trans (qM g) hg;have m0:=aS f.c0 g.c0;have m1:=aS f.c0 g.c1;have m2:=aS f.c1 g.c0;have m3:=aS f.c0 g.c2;have m4:=aS f.c2 g.c0;have m5:=aS f.c1 g.c1;have m6:=bT (f.c0*g.c2) (f.c2*g.c0);have d1:=SY z1;have d2:=SY z2;have d3:=WL f;have d4:=WL g;refine oG 66 Tryz.func142 fun w=>?_;refine A2 ?_;refine Bp 12 (fun g0=>?_);refine Bp 12 (fun g1=>?_);refine Al 12 G6 (fun g2=>?_);refine A4 ?_;refine Dp [] [0,2,1,3,4,5] ?_;refine ut 0 0 ?_;refine ut 1 0 ?_;refine Pc (vC f) ?_;refine Pc (vC g) ?_;refine lm ?_;refine Rs 15 ?_ ?_<;>intro hb0
 ·refine A4 ?_;refine Rs 19 ?_ ?_<;>intro hb1
  ·refine A2 ?_;refine(Aq (Cc f+Cc g)) (by exact(congrArg some (wi (by omega) (by omega) rfl))) ?_;refine A1 ?_;refine aT 23 (.bool false) rfl (congrArg Value.bool (decide_eq_false (by omega))) ?_;refine lX ?_;refine Dp [] (0::1::2::3::4::6::7::8::9::10::12::13::14::15::16::19::20::21::22::23::25::26::27::28::29::32::33::34::35::36::5::11::17::18::24::30::31::37::38::39::40::41::[]) ?_ (hc:=(oz (0::0::2::0::8::31::0::0::128::0::512::2047::0::0::8192::0::32768::131071::262143::0::0::1048576::0::4194304::16777215::0::0::67108864::0::268435456::1073741823::2147483647::0::0::8589934592::0::34359738368::137438953471::274877906943::549755813887::1099511627775::2199023255551::[]) (by kernel_rfl)));refine A2 ?_;refine L4 0 0 ?_;refine A1 ?_;refine L4 1 0 ?_;refine A2 ?_;refine L4 0 0 ?_;refine A1 ?_;refine L4 1 4 ?_;refine A2 ?_;refine L4 0 4 ?_;refine A1 ?_;refine L4 1 0 ?_;refine A2 ?_;refine L4 0 0 ?_;refine A1 ?_;refine L4 1 8 ?_;refine A2 ?_;refine L4 0 8 ?_;refine A1 ?_;refine L4 1 0 ?_;refine A2 ?_;refine L4 0 4 ?_;refine A1 ?_;refine L4 1 4 ?_;refine gV [_,_] rfl rfl rfl rfl (aK f.c0 g.c0) ?_;refine gV [_,_] rfl rfl rfl rfl (aK f.c0 g.c1) ?_;refine gV [_,_] rfl rfl rfl rfl (aK f.c1 g.c0) ?_;refine Pc (cu (f.c0*g.c1) (f.c1*g.c0)) ?_;refine gV [_,_] rfl rfl rfl rfl (aK f.c0 g.c2) ?_;refine gV [_,_] rfl rfl rfl rfl (aK f.c2 g.c0) ?_;refine Pc (cu (f.c0*g.c2) (f.c2*g.c0)) ?_;refine gV [_,_] rfl rfl rfl rfl (aK f.c1 g.c1) ?_;refine Pc (cu (f.c0*g.c2+f.c2*g.c0) (f.c1*g.c1)) ?_;refine(Bu [(0,_),(1,_),(2,_)]) (F6) ?_;refine Ss 2 ?_;refine A4 ?_;refine bF rfl (bu 2 rfl rfl XU (vs:=[_,_,_,_,_,_,_,_,_,_,_,_]) rfl rfl (Nat.le_of_ble_eq_true rfl) rfl) (aj rfl) (fun w hL=>⟨?_,hL.below⟩);exact rfl
  ·refine II ?_;refine Dp [] (0::1::2::3::4::6::7::8::9::10::12::13::14::15::16::19::20::21::22::23::25::26::27::28::29::32::33::34::35::36::5::11::17::18::24::30::31::37::38::39::40::41::[]) ?_ (hc:=(oz (0::0::2::0::8::31::0::0::128::0::512::2047::0::0::8192::0::32768::131071::262143::0::0::1048576::0::4194304::16777215::0::0::67108864::0::268435456::1073741823::2147483647::0::0::8589934592::0::34359738368::137438953471::274877906943::549755813887::1099511627775::2199023255551::[]) (by kernel_rfl)));refine A2 ?_;refine L4 0 0 ?_;refine A1 ?_;refine L4 1 0 ?_;refine A2 ?_;refine L4 0 0 ?_;refine A1 ?_;refine L4 1 4 ?_;refine A2 ?_;refine L4 0 4 ?_;refine A1 ?_;refine L4 1 0 ?_;refine A2 ?_;refine L4 0 0 ?_;refine A1 ?_;refine L4 1 8 ?_;refine A2 ?_;refine L4 0 8 ?_;refine A1 ?_;refine L4 1 0 ?_;refine A2 ?_;refine L4 0 4 ?_;refine A1 ?_;refine L4 1 4 ?_;refine gV [_,_] rfl rfl rfl rfl (aK f.c0 g.c0) ?_;refine gV [_,_] rfl rfl rfl rfl (aK f.c0 g.c1) ?_;refine gV [_,_] rfl rfl rfl rfl (aK f.c1 g.c0) ?_;refine Pc (cu (f.c0*g.c1) (f.c1*g.c0)) ?_;refine gV [_,_] rfl rfl rfl rfl (aK f.c0 g.c2) ?_;refine gV [_,_] rfl rfl rfl rfl (aK f.c2 g.c0) ?_;refine Pc (cu (f.c0*g.c2) (f.c2*g.c0)) ?_;refine gV [_,_] rfl rfl rfl rfl (aK f.c1 g.c1) ?_;refine Pc (cu (f.c0*g.c2+f.c2*g.c0) (f.c1*g.c1)) ?_;refine(Bu [(0,_),(1,_),(2,_)]) (F6) ?_;refine Ss 2 ?_;refine A4 ?_;refine bF rfl (bu 2 rfl rfl XU (vs:=[_,_,_,_,_,_,_,_,_,_,_,_]) rfl rfl (Nat.le_of_ble_eq_true rfl) rfl) (aj rfl) (fun w hL=>⟨?_,hL.below⟩);exact rfl
 ·refine A20 ?_;refine Dp [] (0::1::2::3::4::6::7::8::9::10::12::13::14::15::16::19::20::21::22::23::25::26::27::28::29::32::33::34::35::36::5::11::17::18::24::30::31::37::38::39::40::41::[]) ?_ (hc:=(oz (0::0::2::0::8::31::0::0::128::0::512::2047::0::0::8192::0::32768::131071::262143::0::0::1048576::0::4194304::16777215::0::0::67108864::0::268435456::1073741823::2147483647::0::0::8589934592::0::34359738368::137438953471::274877906943::549755813887::1099511627775::2199023255551::[]) (by kernel_rfl)));refine A2 ?_;refine L4 0 0 ?_;refine A1 ?_;refine L4 1 0 ?_;refine A2 ?_;refine L4 0 0 ?_;refine A1 ?_;refine L4 1 4 ?_;refine A2 ?_;refine L4 0 4 ?_;refine A1 ?_;refine L4 1 0 ?_;refine A2 ?_;refine L4 0 0 ?_;refine A1 ?_;refine L4 1 8 ?_;refine A2 ?_;refine L4 0 8 ?_;refine A1 ?_;refine L4 1 0 ?_;refine A2 ?_;refine L4 0 4 ?_;refine A1 ?_;refine L4 1 4 ?_;refine gV [_,_] rfl rfl rfl rfl (aK f.c0 g.c0) ?_;refine gV [_,_] rfl rfl rfl rfl (aK f.c0 g.c1) ?_;refine gV [_,_] rfl rfl rfl rfl (aK f.c1 g.c0) ?_;refine Pc (cu (f.c0*g.c1) (f.c1*g.c0)) ?_;refine gV [_,_] rfl rfl rfl rfl (aK f.c0 g.c2) ?_;refine gV [_,_] rfl rfl rfl rfl (aK f.c2 g.c0) ?_;refine Pc (cu (f.c0*g.c2) (f.c2*g.c0)) ?_;refine gV [_,_] rfl rfl rfl rfl (aK f.c1 g.c1) ?_;refine Pc (cu (f.c0*g.c2+f.c2*g.c0) (f.c1*g.c1)) ?_;refine(Bu [(0,_),(1,_),(2,_)]) (F6) ?_;refine Ss 2 ?_;refine A4 ?_;refine bF rfl (bu 2 rfl rfl XU (vs:=[_,_,_,_,_,_,_,_,_,_,_,_]) rfl rfl (Nat.le_of_ble_eq_true rfl) rfl) (aj rfl) (fun w hL=>⟨?_,hL.below⟩);exact rfl
def yt(f g:Qd)(t:Rl)(hf:uB f<=10000:=by omega)(hg:uB g<=10000:=by omega)(ht:gY t<=10000:=by omega):aP Tryz.prog 317 #[rM f,rM g,RV t] (.bool (decide (vw (qw f g) t=⟨0,0,0⟩))):=by
 have hs:=qeJ hf hg;refine pB3 14 Tryz.func317 fun w=>?_;refine A2 ?_;refine Bp 12 (fun g0=>?_);refine Bp 12 (fun g1=>?_);refine Bp 9 (fun g2=>?_);refine A4 ?_;refine Dp [] [0,1,3,5,2,4,6,7] ?_;refine ut 0 0 ?_;refine ut 1 0 ?_;refine L9 2 0 ?_;refine(Bu []) (qgG) ?_;refine aT 12 (rM ⟨0,0,0⟩) rfl qbk.symm ?_;refine Pc (zi f g) ?_;refine Pc (o5 (qw f g) t) ?_;refine gu rfl rfl rfl rfl qkH (qk4 _ _) ?_;refine A4 ?_;refine E0 ?_;exact rfl
def DX(f:Qd)(t:Rl)(h0:0<=t.r:=by omega)(hf:uB f<=10000:=by omega)(ht:gY t<=10000:=by omega):aP Tryz.prog 207 #[rM f,RV t] (.int .i64 (uw (NW f t).p (oV (NW f t)) (NW f t).r)):=by
 have l1:=U8 hf ht;refine oG 9 Tryz.func207 fun w=>?_;refine A2 ?_;refine Bp 12 (fun g0=>?_);refine Bp 9 (fun g1=>?_);refine A5 ?_;refine ut 0 0 ?_;refine L9 1 0 ?_;refine Pc (vz f t h0 hf ht) ?_;refine Pc (AL (NW f t)) ?_;refine A4 ?_;refine E0 ?_;exact rfl
end Go.Proofs.YtaffcpfhedadhaaGreatDoor
namespace Go.Via
open Go
def jV(i:Iv):Nat:=max (gY i.f) (gY i.t)
def kw(i:Iv):gY i.f<=jV i:=Nat.le_max_left ..
def kz(i:Iv):gY i.t<=jV i:=Nat.le_max_right ..
def xC{i:Iv}{n:Nat}(h1:gY i.f<=n)(h2:gY i.t<=n):jV i<=n:=Nat.max_le.2 ⟨h1,h2⟩
theorem qbm{x:Rl}(h:x.r.num.sign= -1):eH x=false:=by
 unfold eH;rw[if_pos];show x.r.num.sign<0;omega
theorem Oe{x:Rl}(h:x.r.num.sign=0):eH x= !x.n:=by
 unfold eH;have h:dJ x.r=0:=h;rw[if_neg (by omega),if_pos h]
theorem S9{x:Rl}(h1:x.r.num.sign≠ -1)(h0:x.r.num.sign≠0):eH x= !BM x.r:=by
 unfold eH;have h1:dJ x.r≠ -1:=h1;have h0:dJ x.r≠0:=h0;rw[if_neg (by rcases DW x.r with e|e|e<;>omega),if_neg h0]
theorem Og(i:Iv):jQ i=decide (xg i.b i.e<0):=by
 unfold jQ xg Iv.b Iv.e;dsimp only;have h:=uP i.f i.t
 by_cases h0:bW i.f i.t=0
 ·clear h;rw[h0];cases i.fo<;>cases i.tp<;>rfl
 ·rw[if_pos h0,decide_eq_false h0];simp
def Oh{a b:Iv}{n:Nat}(ha:jV a<=n)(hb:jV b<=n):gY (sH a b).1<=n:=by
 have:=kw a;have:=kw b;unfold sH;split<;>(try split)<;>dsimp only<;>omega
def Oi{a b:Iv}{n:Nat}(ha:jV a<=n)(hb:jV b<=n):gY (uS a b).1<=n:=by
 have:=kz a;have:=kz b;unfold uS;split<;>(try split)<;>dsimp only<;>omega
def Tc{a b:Iv}{n:Nat}(ha:jV a<=n)(hb:jV b<=n):jV (eU a b)<=n:=xC (Oh ha hb) (Oi ha hb)
theorem qeK{a b:Iv}(h:bW a.f b.f<0):sH a b=(b.f,b.fo):=by unfold sH;rw[if_pos h]
theorem WM{a b:Iv}(h:¬bW a.f b.f<0)(h0:bW a.f b.f=0):sH a b=(a.f,a.fo||b.fo):=by unfold sH;rw[if_neg h,if_pos h0]
theorem qeL{a b:Iv}(h:¬bW a.f b.f<0)(h0:bW a.f b.f≠0):sH a b=(a.f,a.fo):=by unfold sH;rw[if_neg h,if_neg h0]
theorem qeM{a b:Iv}(h:0<bW a.t b.t):uS a b=(b.t,b.tp):=by unfold uS;rw[if_pos h]
theorem WN{a b:Iv}(h:¬0<bW a.t b.t)(h0:bW a.t b.t=0):uS a b=(a.t,a.tp||b.tp):=by unfold uS;rw[if_neg h,if_pos h0]
theorem qeN{a b:Iv}(h:¬0<bW a.t b.t)(h0:bW a.t b.t≠0):uS a b=(a.t,a.tp):=by unfold uS;rw[if_neg h,if_neg h0]
def qjo:List Value:=[aX,aY,aX,aY,aX,aY,aX,aY,.bool false,aX,aY,aX,aY,aX,aY,aX,aY,.bool false,.bool false,.bool false]
end Go.Via
namespace Go.Via
open Go
structure jh(α:Type)(c:α->List Value)(k:Nat):Prop where
 len:∀x,(c x).length=k
 one:∀x,∀v∈c x,v.oneCell'=true
section
variable{α:Type}{c:α->List Value}{k:Nat}
def ah(c:α->List Value)(l:List α):List Value:=l.flatMap c
theorem qbn:ah c []=[]:=rfl
theorem ig(x:α)(l:List α):ah c (x::l)=c x++ah c l:=List.flatMap_cons
theorem kC(l m:List α):ah c (l++m)=ah c l++ah c m:=List.flatMap_append
theorem bH(l:List α)(x:α):ah c l++c x=ah c (l++[x]):=by rw[kC,ig,qbn,List.append_nil]
theorem jh.length(h:jh α c k):∀(l:List α),(ah c l).length=l.length*k
 |[]=>by simp[ah]
 |x::l=>by rw[ig,List.length_append,h.len,jh.length h l,List.length_cons,Nat.succ_mul,Nat.add_comm]
theorem jh.get(h:jh α c k):∀{l:List α} {i:Nat} {x:α},l[i]? =some x->((ah c l).drop (i*k)).take k=c x
 |[],i,x,hx=>by simp at hx
 |y::l,0,x,hx=>by
  simp at hx;subst hx;rw[ig,Nat.zero_mul,List.drop_zero,List.take_append_of_le_length (by rw[h.len];exact Nat.le_refl _),List.take_of_length_le (by rw[h.len];exact Nat.le_refl _)]
 |y::l,i+1,x,hx=>by
  have e1:(i+1)*k=(c y).length+i*k:=(by rw[h.len,Nat.succ_mul,Nat.add_comm]);rw[ig,e1,List.drop_length_add_append];exact jh.get h (by simpa using hx)
def jh.sub(h:jh α c k){l:List α}{i:Nat}{x:α}(hx:l[i]? =some x)(o n:Nat)(hn:o+n<=k):((ah c l).drop (i*k+o)).take n=((c x).drop o).take n:=by
 rw[<-h.get hx,<-List.drop_drop,List.drop_take,List.take_take]
 congr 1
 omega
def jh.ones(h:jh α c k)(l:List α):∀v∈ah c l,v.oneCell'=true:=fun v hv=>by
 obtain⟨x,_,hv⟩:=List.mem_flatMap.1 hv;exact h.one x v hv
def jh.ne(h:jh α c k)(hk:0<k){l:List α}(hl:0<l.length):ah c l≠[]:=fun e=>by
 have:=h.length l;rw[e,List.length_nil] at this;have:=Nat.mul_pos hl hk;omega
theorem jh.set(h:jh α c k):∀{l:List α} {i:Nat} (x:α),i<l.length->(ah c l).take (i*k)++c x++(ah c l).drop (i*k+k)=ah c (l.set i x)
 |[],i,x,hi=>by simp at hi
 |y::l,0,x,_=>by
  rw[Nat.zero_mul,List.take_zero,List.nil_append,Nat.zero_add,ig,List.drop_append_of_le_length (by rw[h.len];exact Nat.le_refl _),List.drop_of_length_le (by rw[h.len];exact Nat.le_refl _),List.nil_append,List.set_cons_zero,ig]
 |y::l,i+1,x,hi=>by
  have ih:=jh.set h (l:=l) (i:=i) x (by simpa using hi);have e1:(i+1)*k=(c y).length+i*k:=(by rw[h.len,Nat.succ_mul,Nat.add_comm]);rw[ig,e1,Nat.add_assoc,List.take_length_add_append,List.drop_length_add_append,List.set_cons_succ,ig,<-ih];simp
end
theorem dD{α:Type}{l:List α}{i:Nat}{x:α}(hx:l[i]? =some x):l.take i++[x]=l.take (i+1):=by
 rw[List.take_add_one,hx];rfl
end Go.Via
namespace Go.Via
variable[Mo]
open Go Go.RowKit Go.Sort Go.Proofs
def bf.rowMod{B:Bs}{w w':World}{L:List aG}(h:bf B L w){k:Nat}{b:aG}(hk:L[k]? =some b)(ho:b.own=true){g:Nat}(hg:b.base=some g)(hn0:b.n≠0)(f:Array Value->Array Value)(cs':List Value)
 (hf:∀cur:Array Value,cur.size=b.n->cur.toList.take b.cs.length=b.cs->(f cur).size=b.n∧(f cur).toList.take cs'.length=cs')
 (h1:w'.os=w.os)(h2:w'.tape=w.tape)(h3:w'.output=w.output)(h4:w.heap.size<=w'.heap.size)(h5:∀i,i<w.heap.size->i≠g->w'.heap[i]? =w.heap[i]?)
 (h6:∀cur:Array Value,w.heap[g]? =some (.cells cur b.e (0,0))->w'.heap[g]? =some (.cells (f cur) b.e (0,0)))(h7:w.drawn<=w'.drawn:=by first|exact Nat.le_refl _|exact Nat.le_add_right _ _):bf B (L.set k {b with cs:=cs'}) w':=by
 obtain⟨cur,⟨e',fr,a1,a2,_⟩,a3,a4⟩:=((h.blk k b hk).1 g hg).cells (.inl hn0);obtain⟨rfl,rfl⟩:=a2 ho;obtain⟨b1,b2⟩:=hf cur a3 a4;have hs:=h.set hk ho hg (f cur) cs' b1 b2;have hh:=setRow_heap w g cur (f cur) b.e (0,0) a1;have hsz:(w.setRow g (f cur)).heap.size=w.heap.size:=by simp
 refine hs.same ⟨h1,h2,h3,by rw[hsz];exact h4,fun i hi=>?_,fun _=>h7⟩
 rw[hsz] at hi
 by_cases e:i=g
 ·subst e;rw[h6 cur a1,hh]
 ·rw[h5 i hi e,setRow_other w g i _ e]
def SB(l:List D7):List Value:=l.map fun s=> .string (lZ s)
theorem YF(l:List D7):(SB l).length=l.length:=by simp[SB]
abbrev SBk(b:Option Nat)(l:List D7)(n:Nat):aG:=⟨b,9,SB l,n,true⟩
def bf.loose{B:Bs}{w:World}{L:List aG}(h:bf B L w){k:Nat}{b:aG}(hk:L[k]? =some b)(ho:b.own=true){g:Nat}(hg:b.base=some g)(hn0:b.n≠0)(j:Nat):w.frozen? ⟨g,j,none⟩=false:=by
 obtain⟨cur,⟨e',fr,a1,a2,_⟩,a3,a4⟩:=((h.blk k b hk).1 g hg).cells (.inl hn0);obtain⟨rfl,rfl⟩:=a2 ho;simp[World.frozen?,a1]
def Td{d:List D7}{cur:Array Value}(h:d.length<=cur.size):(putCells encStr 0 d.toArray cur).size=cur.size∧(putCells encStr 0 d.toArray cur).toList.take (SB d).length=SB d:=by
 refine⟨by simp[putCells],?_⟩
 apply List.ext_getElem?
 intro i;rw[YF,List.getElem?_take]
 split
 ·rename_i hi
  unfold SB;rw[List.getElem?_map,List.getElem?_eq_getElem hi,Array.getElem?_toList];unfold putCells;rw[Array.getElem?_mapIdx,Array.getElem?_eq_getElem (by omega)];simp only[Option.map_some,Nat.zero_le,true_and,List.size_toArray,Nat.zero_add,hi,if_true,Nat.sub_zero];rw[getElem!_pos d.toArray i (by simpa using hi)]
  rfl
 ·rename_i hi
  unfold SB;rw[List.getElem?_map,List.getElem?_eq_none (by omega)]
  rfl
def bf.putRow{B:Bs}{w:World}{L:List aG}(h:bf B L w){k g n m:Nat}{l l':List D7}{os:Array Obj}(hk:L[k]? =some (SBk (some g) l n))(hl:l'.length<=n)(hn0:n≠0):
 bf B (L.set k (SBk (some g) l' n)) (grow (putRow encStr (Sort.ahead w m) g 0 l'.toArray) os):=by
 have hlt:=h.lt hk rfl;have e1:(grow (Go.Sort.putRow encStr (Sort.ahead w m) g 0 l'.toArray) os).heap=(w.heap.modify g (onCells (putCells encStr 0 l'.toArray)))++os:=rfl;refine h.rowMod hk rfl rfl hn0 (putCells encStr 0 l'.toArray) (SB l') (fun cur hc _=>by
 have hc':cur.size=n:=hc;obtain⟨p1,p2⟩:=Td (d:=l') (cur:=cur) (by omega);exact⟨p1.trans hc,p2⟩) rfl rfl rfl (by rw[e1];simp) (fun i hi hne=>?_) (fun cur hcur=>?_)
 ·rw[e1,Array.getElem?_append_left (by simpa using hi),Array.getElem?_modify,if_neg (fun e=>hne e.symm)]
 ·rw[e1,Array.getElem?_append_left (by simpa using hlt),Array.getElem?_modify,if_pos rfl,hcur]
  rfl
end Go.Via
namespace Go.Via
open Go Go.RowKit Go.Sort Go.Shelf Go.Proofs
section
variable{α:Type}[Inhabited α]{c:α->List Value}{k:Nat}
theorem BU{α:Type}[Inhabited α]{l:List α}{i:Nat}(h:i<l.length):l.toArray[i]! =l[i]:=by
 rw[getElem!_pos l.toArray i (by simpa using h)];rfl
theorem YG{α:Type}[Inhabited α]{l:List α}{i:Nat}{x:α}(h:l[i]? =some x):l[i]! =x:=by
 rw[List.getElem!_eq_getElem?_getD,h];rfl
def qbo(h:jh α c k){l:List α}{t:Nat}(ht:t<l.length*k):∃x,l[t/k]? =some x∧(ah c l)[t]? =(c x)[t%k]? :=by
 have k0:0<k:=Nat.pos_of_ne_zero (by rintro rfl;simp at ht);have hi:t/k<l.length:=Nat.div_lt_of_lt_mul (by rw[Nat.mul_comm];exact ht);have hx:l[t/k]? =some l[t/k]:=List.getElem?_eq_getElem hi;refine⟨_,hx,?_⟩;have hm:t%k<k:=Nat.mod_lt _ k0;rw[<-h.get hx,List.getElem?_take,if_pos hm,List.getElem?_drop]
 congr 1
 rw[Nat.mul_comm];exact(Nat.div_add_mod t k).symm
theorem Tf(h:jh α c k)(l:List α):Go.Sort.flatK c k l.toArray=(ah c l).toArray:=by
 refine Go.Sort.ext_get! (by simp[h.length]) fun t ht=>?_
 have ht':t<l.length*k:=(by simpa using ht);obtain⟨x,hx,hc⟩:=qbo h ht';rw[get_flatK _ _ _ _ (by simpa using ht')];have k0:0<k:=Nat.pos_of_ne_zero (by rintro rfl;simp at ht');have hm:t%k<(c x).length:=(by rw[h.len];exact Nat.mod_lt _ k0);have hi:t/k<l.length:=(List.getElem?_eq_some_iff.1 hx).1;rw[BU hi,(List.getElem?_eq_some_iff.1 hx).2,YG (List.getElem?_eq_getElem hm)];have hr:t<(ah c l).length:=(by rw[h.length];exact ht');rw[BU hr];rw[List.getElem?_eq_getElem hr,List.getElem?_eq_getElem hm] at hc;exact(Option.some.inj hc).symm
def Oj(h:jh α c k){B:Bs}{w:World}{L:List aG}(hL:bf B L w){j g e n:Nat}{l:List α}(hk:L[j]? =some ⟨some g,e,ah c l,n,true⟩)(hn0:n≠0):HoldsK c k w g 0 l.toArray:=by
 unfold HoldsK;rw[Tf h];intro t ht;have ht':t<(ah c l).length:=by simpa using ht
 obtain⟨g',hg',h2⟩:=hL.cell (k:=j) hk (List.getElem?_eq_getElem ht');cases hg';rw[Nat.zero_add];exact⟨by rw[h2,BU ht'];rfl,hL.loose hk rfl rfl hn0 t⟩
def qeO{vs:List Value}{cur:Array Value}(h:vs.length<=cur.size):(putCells id 0 vs.toArray cur).size=cur.size∧(putCells id 0 vs.toArray cur).toList.take vs.length=vs:=by
 refine⟨by simp[putCells],?_⟩
 apply List.ext_getElem?
 intro i;rw[List.getElem?_take]
 split
 ·rename_i hi
  rw[List.getElem?_eq_getElem hi,Array.getElem?_toList];unfold putCells;rw[Array.getElem?_mapIdx,Array.getElem?_eq_getElem (by omega)];simp only[Option.map_some,Nat.zero_le,true_and,List.size_toArray,Nat.zero_add,hi,if_true,Nat.sub_zero];rw[BU hi]
  rfl
 ·rename_i hi
  rw[List.getElem?_eq_none (by omega)]
def Fe(h:jh α c k){B:Bs}{w:World}{L:List aG}(hL:bf B L w){j g e n m:Nat}{l l':List α}{os:Array Obj}(hk:L[j]? =some ⟨some g,e,ah c l,n,true⟩)(hl:(ah c l').length<=n)(hn0:n≠0):
 bf B (L.set j ⟨some g,e,ah c l',n,true⟩) (sortWorldK c k w g 0 m l'.toArray os):=by
 have hlt:=hL.lt hk rfl;have e0:sortWorldK c k w g 0 m l'.toArray os=grow (Go.Sort.putRow id (Sort.ahead w m) g 0 (ah c l').toArray) os:=by
  unfold sortWorldK Go.Sort.putRowK;rw[Tf h]
 rw[e0];have e1:(grow (Go.Sort.putRow id (Sort.ahead w m) g 0 (ah c l').toArray) os).heap=(w.heap.modify g (onCells (putCells id 0 (ah c l').toArray)))++os:=rfl;refine hL.rowMod hk rfl rfl hn0 (putCells id 0 (ah c l').toArray) (ah c l') (fun cur hc _=>by
 have hc':cur.size=n:=hc;obtain⟨p1,p2⟩:=qeO (vs:=ah c l') (cur:=cur) (by omega);exact⟨p1.trans hc,p2⟩) rfl rfl rfl (by rw[e1];simp) (fun i hi hne=>?_) (fun cur hcur=>?_) (Nat.le_add_right _ _)
 ·rw[e1,Array.getElem?_append_left (by simpa using hi),Array.getElem?_modify,if_neg (fun e=>hne e.symm)]
 ·rw[e1,Array.getElem?_append_left (by simpa using hlt),Array.getElem?_modify,if_pos rfl,hcur]
  rfl
abbrev mo1:Mo:=⟨True⟩
def qbp[Mo](hm:Mo.p){w w':World}(h:fP w.heap.size w w'):∃q os',w'=grow (w.drewN q) os':=by
 refine⟨w'.drawn-w.drawn,w'.heap.extract w.heap.size w'.heap.size,?_⟩;have hh:w'.heap=w.heap++w'.heap.extract w.heap.size w'.heap.size:=by
  apply Array.ext_getElem?
  intro i
  by_cases hi:i<w.heap.size
  ·rw[Array.getElem?_append_left hi,h.block i hi]
  ·rw[Array.getElem?_append_right (by omega),Array.getElem?_extract];have hs:=h.size
   split
   ·congr 1;omega
   ·rename_i h2
    have:w'.heap.size<=i:=(by omega);rw[Array.getElem?_eq_none this]
 cases w';have a1:=h.os;have a2:=h.tape;have a3:=h.output;have a4:=h.drawn hm;dsimp only at a1 a2 a3 a4 hh;unfold grow World.drewN;dsimp only;rw[<-hh,a1,a2,a3]
 congr 1
 omega
def WO[Mo](hm:Mo.p){P:Program}{g:Nat}{cf:α->α->Int}(H:∀x y,aP P g #[.agg (c x).toArray,.agg (c y).toArray] (.int .i64 (cf x y)))(blk off size:Nat)(w:World):CmpLays P g #[] c k cf blk off size w:=fun m os dk hs x y=>by
 refine((H x y).2 _).mono ?_;rintro e w' ⟨he,hb⟩;exact⟨he,qbp hm hb⟩
def qeP{l:List α}{d:Array α}(h:PermIn 0 l.toArray.size l.toArray d):d.toList.Perm l:=by
 obtain⟨h1,_,h3⟩:=h;have e1:d.extract 0 l.toArray.size=d:=by rw[<-h1];simp
 have e2:l.toArray.extract 0 l.toArray.size=l.toArray:=(by simp);rw[e1,e2] at h3;exact h3
def YH{lt:α->α->Bool}{n:Nat}{d:Array α}(h:SortedIn lt 0 n d)(hn:d.size=n):d.toList.Pairwise fun x y=>lt y x=false:=by
 rw[List.pairwise_iff_getElem];intro i j hi hj hij;have:=h i j (Nat.zero_le _) hij (by simp at hj;omega);rw[getElem!_pos d j (by simpa using hj),getElem!_pos d i (by simpa using hi)] at this
 simpa using this
theorem Ti{lt:α->α->Bool}{a:Nat}{d:Array α}:∀{i:Nat},(∀j,a<j->j<=i->lt d[j]! d[j-1]! =false)->insInner lt a i d=d
 |0,_=>rfl
 |i+1,h=>by
  unfold insInner
  by_cases hc:i+1>a
  ·have:=h (i+1) hc (Nat.le_refl _);rw[Nat.add_sub_cancel] at this;rw[this,Bool.and_false,if_neg (by decide)]
  ·rw[decide_eq_false hc,Bool.false_and,if_neg (by decide)]
def Ht{lt:α->α->Bool}{a b:Nat}{d:Array α}(h:∀j,a<j->j<b->lt d[j]! d[j-1]! =false):∀(n i:Nat),b-i=n->insOuter lt a b i d=d
 |0,i,hn=>by unfold insOuter;rw[if_neg (by omega)]
 |n+1,i,hn=>by
  unfold insOuter;rw[if_pos (by omega),Ti fun j h1 h2=>h j h1 (by omega)]
  exact Ht h n (i+1) (by omega)
def PW{lt:α->α->Bool}{l:List α}(h:l.Pairwise fun x y=>lt y x=false):Sort.insertionSort lt l.toArray 0 l.length=l.toArray:=by
 refine Ht (fun j h1 h2=>?_) _ _ rfl;rw[BU h2,BU (show j-1<l.length by omega)];exact List.pairwise_iff_getElem.1 h (j-1) j (by omega) h2 (by omega)
end
end Go.Via
namespace Go.Via
open Go
def qhC(a b:Bool):Int:=if a=b then 0 else if b=true then-1 else 1
def MF(a b:PU):Int:=if bW a.i.f b.i.f≠0 then bW a.i.f b.i.f else if qhC a.i.fo b.i.fo≠0 then qhC a.i.fo b.i.fo else bW a.i.t b.i.t
def qeQ{S:Rl->Prop}{ρ:Rl->Int}(T:gU S ρ){x y:PU}(hx:S x.i.f)(hy:S y.i.f)(h:aV ρ x.i.b<aV ρ y.i.b):¬MF y x<0:=by
 have h1:=T.lt hy hx;have h2:=T.gt hy hx;unfold aV Iv.b at h;dsimp only at h;unfold MF
 by_cases e:bW y.i.f x.i.f≠0
 ·rw[if_pos e];intro h3;have:=h1.1 h3
  revert h;split<;>split<;>omega
 ·rw[if_neg e];have e':ρ y.i.f=ρ x.i.f:=by
   have:¬ρ y.i.f<ρ x.i.f:=fun k=>e (by have:=h1.2 k;omega)
   have:¬ρ x.i.f<ρ y.i.f:=fun k=>e (by have:=h2.2 k;omega)
   omega
  rw[e'] at h;have hf:x.i.fo=false∧y.i.fo=true:=by
   cases hx':x.i.fo<;>cases hy':y.i.fo<;>rw[hx',hy'] at h<;>first|exact⟨rfl,rfl⟩|(exfalso;simp at h;done)|(exfalso;simp at h;omega)
  rw[hf.1,hf.2,if_pos (by decide)]
  decide
def U9{S:Rl->Prop}{ρ:Rl->Int}(T:gU S ρ){l:List PU}(hs:qH ρ l)(he:Ends S l):l.Pairwise fun x y=>decide (MF y x<0)=false:=by
 refine hs.1.imp_of_mem fun {x y} hx hy h=>?_
 have:=hs.2 x hx;exact decide_eq_false (qeQ T (he x hx).1 (he y hy).1 (by omega))
end Go.Via
namespace Go.Via
open Go
theorem aC:jh PU aQ 36:=⟨fun _=>rfl,fun x v hv=>List.all_eq_true.1 (show(aQ x).all (·.oneCell')=true from rfl) v hv⟩
theorem bI:jh Iv bP 20:=⟨fun _=>rfl,fun x v hv=>List.all_eq_true.1 (show(bP x).all (·.oneCell')=true from rfl) v hv⟩
theorem dK:jh Rl iD 9:=⟨fun _=>rfl,fun x v hv=>List.all_eq_true.1 (show(iD x).all (·.oneCell')=true from rfl) v hv⟩
def oH:jh (Iv×Qd) DR 32:=⟨fun _=>rfl,fun x v hv=>List.all_eq_true.1 (show(DR x).all (·.oneCell')=true from rfl) v hv⟩
def Gy:jh B3 PN 52:=⟨fun _=>rfl,fun x v hv=>List.all_eq_true.1 (show(PN x).all (·.oneCell')=true from rfl) v hv⟩
theorem bM:jh oZ bg 38:=⟨fun _=>rfl,fun x v hv=>List.all_eq_true.1 (show(bg x).all (·.oneCell')=true from rfl) v hv⟩
def vF:jh (Iv×Int) EW 21:=⟨fun _=>rfl,fun x v hv=>List.all_eq_true.1 (show(EW x).all (·.oneCell')=true from rfl) v hv⟩
theorem xE:jh ((Rl×Bool)×Int×Int) kG 12:=⟨fun _=>rfl,fun x v hv=>List.all_eq_true.1 (show(kG x).all (·.oneCell')=true from rfl) v hv⟩
end Go.Via
namespace Go.Via
open Go
structure RtG(n:Nat) where
 lo:Nat
 hi:Nat
 lx:SR (nb lo)
 hx:SR (nb hi)
 h1:lo*lo<=n
 h2:n<hi*hi
 h3:hi<=n+1
def qbq(n:Nat):n<(n+1)*(n+1):=Nat.lt_of_lt_of_le (Nat.lt_succ_self n) (Nat.le_mul_of_pos_right _ (by omega))
def qfV{n lo hi:Nat}(h1:lo*lo<=n)(h2:n<hi*hi):lo<hi:=UW (Nat.lt_of_le_of_lt h1 h2)
def qhD{n lo hi:Nat}(h1:lo*lo<=n)(h2:n<hi*hi)(h:¬lo+1<hi):cO n=lo:=by
 have h0:=qfV h1 h2;have:hi=lo+1:=(by omega);subst this;exact DJ h1 h2
theorem qhE:D8 2=[2]:=zU (by omega) (by omega) (by omega)
theorem PX:nb 2=1:=by have h1:=nY (n:=2) (k:=1) (by omega);have h2:=Dw (u:=2) (by omega);omega
theorem qeR{a r:Rat}{u:Int}(h:dJ a=0):jR a u r=u*dJ r:=by unfold jR;rw[if_pos h]
theorem WP{a r:Rat}{u:Int}(h:dJ a≠0)(h2:u*dJ r=0∨dJ a=u*dJ r):jR a u r=dJ a:=by unfold jR;rw[if_neg h,if_pos h2]
theorem qeS{a r:Rat}{u:Int}(h:dJ a≠0)(h2:u*dJ r≠0)(h3:dJ a≠u*dJ r):jR a u r=dJ a*oC (a*a) r:=by unfold jR;rw[if_neg h,if_neg (by rintro(e|e);exact h2 e;exact h3 e)]
theorem m3{a b:Int}(ha:a= -1∨a=0∨a=1)(hb:b= -1∨b=0∨b=1):a*b= -1∨a*b=0∨a*b=1:=by
 rcases ha with rfl|rfl|rfl<;>rcases hb with rfl|rfl|rfl<;>simp
def qbr(a r:Rat){u:Int}(hu:u= -1∨u=0∨u=1):jR a u r= -1∨jR a u r=0∨jR a u r=1:=by
 unfold jR
 split
 ·exact m3 hu (DW r)
 ·split
  ·exact DW a
  ·exact m3 (DW a) (qba _ _)
section
variable{a r s:Rat}{u v:Int}
theorem WQ(h:jR a u r≠v*dJ s∨jR a u r=0)(h2:v*dJ s<jR a u r):MC a u r v s=1:=by unfold MC;rw[if_pos h,if_pos h2]
theorem WR(h:jR a u r≠v*dJ s∨jR a u r=0)(h2:¬v*dJ s<jR a u r):MC a u r v s=jR a u r-v*dJ s:=by unfold MC;rw[if_pos h,if_neg h2]
theorem qeT(h:¬jR a u r≠v*dJ s)(h2:¬jR a u r=0):MC a u r v s=jR a u r*jR (a*a+r-s) (u*dJ a) (4*(a*a*r)):=by
 unfold MC;rw[if_neg (by rintro(e|e);exact h e;exact h2 e)]
end
def qbs(x:Rl):nH x= -1∨nH x=0∨nH x=1:=by unfold nH;split<;>simp
def qbt:dw 4<=2:=nV (z:=4) (by omega) (by omega)
def qjp:Rat.divInt 2 1=2:=by decide+kernel
def qk8:Rat.divInt 4 1=4:=by decide+kernel
theorem qhF{f:Qd}{t:Rl}(h:dJ t.r=0):mg f t=⟨wL f t.p,0,0⟩:=by unfold mg;rw[if_pos h]
theorem qhG{f:Qd}{t:Rl}(h:dJ t.r≠0):mg f t=⟨f.c0+f.c2*(t.r-t.p*t.p),f.c1+2*(t.p*f.c2),0⟩:=by unfold mg;rw[if_neg h]
def qbu{f:Qd}{t:Rl}{m n:Nat}(hf:uB f<=m)(ht:gY t<=n):uB (mg f t)<=3*m+4*n+6:=by
 have e0:=Nat.le_trans (qo f) hf;have e1:=Nat.le_trans (qp f) hf;have e2:=Nat.le_trans (qM f) hf;have t1:=Nat.le_trans (sO t) ht;have t2:=Nat.le_trans (yj t) ht;have z0:=wP;unfold mg
 split
 ·have h1:=xB f t.p;refine Gx ?_ ?_ ?_<;>dsimp only<;>omega
 ·have l1:=aS t.p t.p;have l2:=bJ t.r (t.p*t.p);have l3:=aS f.c2 (t.r-t.p*t.p);have l4:=bT f.c0 (f.c2*(t.r-t.p*t.p));have l5:=aS t.p f.c2;have l6:=aS 2 (t.p*f.c2);have l7:=bT f.c1 (2*(t.p*f.c2));have l8:=Fb;refine Gx ?_ ?_ ?_<;>dsimp only<;>omega
def jo(f:Ln):Nat:=max (max (dw f.x0) (dw f.x1)) (max (dw f.y0) (dw f.y1))
def rQ(f:Ln):dw f.x0<=jo f:=by unfold jo;omega
def rU(f:Ln):dw f.x1<=jo f:=by unfold jo;omega
def rV(f:Ln):dw f.y0<=jo f:=by unfold jo;omega
def rW(f:Ln):dw f.y1<=jo f:=by unfold jo;omega
def qbv{f g:Ln}{n:Nat}(hf:jo f<=n)(hg:jo g<=n):uB (d2 f g)<=8*n+20:=by
 have a0:=Nat.le_trans (rQ f) hf;have a1:=Nat.le_trans (rU f) hf;have a2:=Nat.le_trans (rV f) hf;have a3:=Nat.le_trans (rW f) hf;have b0:=Nat.le_trans (rQ g) hg;have b1:=Nat.le_trans (rU g) hg;have b2:=Nat.le_trans (rV g) hg;have b3:=Nat.le_trans (rW g) hg;have s0:=bJ f.x0 g.x0;have s1:=bJ f.x1 g.x1;have s2:=bJ f.y0 g.y0;have s3:=bJ f.y1 g.y1;have z:=Fb;unfold d2;refine Gx ?_ ?_ ?_<;>dsimp only
 ·have:=bT ((f.x0-g.x0)*(f.x0-g.x0)) ((f.y0-g.y0)*(f.y0-g.y0));have:=aS (f.x0-g.x0) (f.x0-g.x0);have:=aS (f.y0-g.y0) (f.y0-g.y0);omega
 ·have:=aS 2 ((f.x0-g.x0)*(f.x1-g.x1)+(f.y0-g.y0)*(f.y1-g.y1));have:=bT ((f.x0-g.x0)*(f.x1-g.x1)) ((f.y0-g.y0)*(f.y1-g.y1));have:=aS (f.x0-g.x0) (f.x1-g.x1);have:=aS (f.y0-g.y0) (f.y1-g.y1);omega
 ·have:=bT ((f.x1-g.x1)*(f.x1-g.x1)) ((f.y1-g.y1)*(f.y1-g.y1));have:=aS (f.x1-g.x1) (f.x1-g.x1);have:=aS (f.y1-g.y1) (f.y1-g.y1);omega
def Tj{m n:Nat}(h:(ng m n !=0)=true):m≠n:=fun e=>by subst e;unfold ng at h;simp at h
def Tn{m n:Nat}(h:(ng m n !=0)=false):m=n:=by
 unfold ng at h
 by_cases h1:m<n
 ·simp[h1] at h
 ·by_cases h2:n<m
  ·simp[h1,h2] at h
  ·omega
theorem qjq{q:Rat}(h:decide (q.num<0)=true):BM q=false:=by
 have:=of_decide_eq_true h;unfold BM;rw[decide_eq_false (by omega)];rfl
theorem qjr{q:Rat}(h:cO q.num.natAbs*cO q.num.natAbs≠q.num.natAbs):BM q=false:=by
 unfold BM;rw[beq_eq_false_iff_ne.2 h];simp
theorem qjs{q:Rat}(h:cO q.den*cO q.den≠q.den):BM q=false:=by
 unfold BM;rw[beq_eq_false_iff_ne.2 h];simp
theorem qjt{q:Rat}(h:decide (q.num<0)=false)(h1:cO q.num.natAbs*cO q.num.natAbs=q.num.natAbs)(h2:cO q.den*cO q.den=q.den):BM q=true:=by
 have:=of_decide_eq_false h;unfold BM;rw[h1,h2,decide_eq_true (by omega)];simp
def YI(q:Rat)(h:cO q.den*cO q.den=q.den):0<cO q.den:=by
 have:=q.den_nz;exact Nat.pos_of_ne_zero fun e=>by rw[e] at h;omega
end Go.Via
namespace Go.Proofs.YtaffcpfhedadhaaGreatDoor
open Go Go.Via
end Go.Proofs.YtaffcpfhedadhaaGreatDoor
namespace Go.Via
open Go
def Ol(out:List Iv)(t:Rl)(tp:Bool):List Iv:=match out.getLast? with
 |some i=>out.dropLast++[⟨i.f,t,i.fo,tp⟩]
 |none=>out
def kM(out:List Iv)(op h:Bool)(t:Rl):List Iv:=if op=true then Ol out t (!h) else if h=true then out++[⟨t,t,false,false⟩] else out
def qI(here:Rl->Bool)(btw:Rl->Rl->Bool):List Rl->List Iv->Bool->List Iv
 |[],out,_=>out
 |[t],out,op=>kM out op (here t) t
 |t::u::ts,out,op=>qI here btw (u::ts) (if btw t u=true∧here t=false then kM out op (here t) t++[⟨t,u,true,true⟩] else kM out op (here t) t) (btw t u)
theorem vG(out:List Iv)(i:Iv)(t:Rl)(tp:Bool):Ol (out++[i]) t tp=out++[⟨i.f,t,i.fo,tp⟩]:=by
 unfold Ol;rw[List.getLast?_append];simp
theorem uj{here:Rl->Bool}{btw:Rl->Rl->Bool}:∀{ts:List Rl} {out:List Iv},(qI here btw ts out false=out++(NT here btw none ts).map fun p=>Ib p.1 p.2)∧∀i:Iv,ts≠[]->qI here btw ts (out++[i]) true=out++(NT here btw (some i.b) ts).map fun p=>Ib p.1 p.2
 |[],out=>by
  refine⟨by simp[qI,NT],fun i h=>absurd rfl h⟩
 |[t],out=>by
  refine⟨?_,fun i _=>?_⟩
  ·unfold qI NT kM;cases here t<;>simp[Ib]
  ·unfold qI NT kM;rw[if_pos rfl,vG];simp[Ib,Iv.b]
 |t::u::ts,out=>by
  refine⟨?_,fun i _=>?_⟩
  ·unfold qI NT kM;cases hh:here t<;>cases hb:btw t u<;>simp only[Bool.false_eq_true,if_false,if_true,and_true,and_false,true_and,false_and,reduceIte]
   ·exact(uj (ts:=u::ts) (out:=out)).1
   ·exact(uj (ts:=u::ts) (out:=out)).2 ⟨t,u,true,true⟩ (by simp)
   ·rw[(uj (ts:=u::ts) (out:=out++[_])).1];simp[Ib]
   ·exact(uj (ts:=u::ts) (out:=out)).2 ⟨t,t,false,false⟩ (by simp)
  ·unfold qI NT kM;rw[if_pos rfl,vG];cases hh:here t<;>cases hb:btw t u<;>simp only[Bool.false_eq_true,if_false,if_true,and_true,and_false,true_and,false_and,reduceIte]
   ·rw[(uj (ts:=u::ts) (out:=out++[_])).1];simp[Ib,Iv.b]
   ·rw[(uj (ts:=u::ts) (out:=out++[_])).2 ⟨t,u,true,true⟩ (by simp)];simp[Ib,Iv.b]
   ·rw[(uj (ts:=u::ts) (out:=out++[_])).1];simp[Ib,Iv.b]
   ·exact(uj (ts:=u::ts) (out:=out)).2 ⟨i.f,t,i.fo,false⟩ (by simp)
def jh.setf{α:Type}{c:α->List Value}{k:Nat}(h:jh α c k){l:List α}{i:Nat}{x y:α}{v:List Value}{o n:Nat}(hx:l[i]? =some x)(hy:(c x).take o++v++(c x).drop (o+n)=c y)(hn:o+n<=k):
 (ah c l).take (i*k+o)++v++(ah c l).drop (i*k+o+n)=ah c (l.set i y):=by
 have hi:i<l.length:=(List.getElem?_eq_some_iff.1 hx).1;have e1:(ah c l).take (i*k+o)=(ah c l).take (i*k)++(c x).take o:=by
  rw[List.take_add,<-h.get hx,List.take_take,Nat.min_eq_left (by omega)]
 have e2:(ah c l).drop (i*k+o+n)=(c x).drop (o+n)++(ah c l).drop (i*k+k):=by
  have e3:(ah c l).drop (i*k)=c x++(ah c l).drop (i*k+k):=by
   rw[<-h.get hx,<-List.drop_drop];exact(List.take_append_drop k _).symm
  rw[Nat.add_assoc,<-List.drop_drop,e3,List.drop_append_of_le_length (by rw[h.len];exact hn)]
 rw[e1,e2,<-h.set y hi,<-hy];simp
theorem Om{out:List Iv}{i:Iv}(h:out[out.length-1]? =some i)(t:Rl)(tp:Bool):Ol out t tp=out.set (out.length-1) ⟨i.f,t,i.fo,tp⟩:=by
 have hne:out≠[]:=fun e=>by subst e;simp at h
 obtain⟨l,j,rfl⟩:∃l j,out=l++[j]:=⟨out.dropLast,out.getLast hne,(List.dropLast_concat_getLast hne).symm⟩;simp at h;subst h;rw[vG];simp
def vH(op:Int)(a b:Bool):Bool:=if op=1 then a||b else if op=2 then a&&b else a&& !b
end Go.Via
namespace Go.Via
theorem nM{α:Type}{l:List α}{i:Nat}{x:α}{p:α->Bool}(hx:l[i]? =some x):(l.drop i).any p=(p x||(l.drop (i+1)).any p):=by
 have:l.drop i=x::l.drop (i+1):=by
  obtain⟨hlt,e⟩:=List.getElem?_eq_some_iff.1 hx;rw[List.drop_eq_getElem_cons hlt,e]
 rw[this,List.any_cons]
end Go.Via
namespace Go.Via
theorem PY{x:Rl}:∀{l:List Rl} {k:Nat},k<=l.length->(∀j y,j<k->l[j]? =some y->bW y x<0)->(∀y,l[k]? =some y->¬bW y x<0∧bW y x≠0)->sJ x l=l.take k++x::l.drop k
 |[],k,hk,_,_=>by simp at hk;subst hk;rfl
 |y::l,0,_,_,h=>by
  have:=h y rfl;unfold sJ;rw[if_neg this.1,if_neg this.2];rfl
 |y::l,k+1,hk,hall,h=>by
  have h0:=hall 0 y (by omega) rfl;unfold sJ;rw[if_pos h0,PY (by simpa using hk) (fun j z hj hz=>hall (j+1) z (by omega) (by simpa using hz)) (fun z hz=>h z (by simpa using hz))]
  rfl
theorem WS{x:Rl}:∀{l:List Rl} {k:Nat} {y:Rl},l[k]? =some y->(∀j y,j<k->l[j]? =some y->bW y x<0)->¬bW y x<0->bW y x=0->sJ x l=l
 |[],k,y,hy,_,_,_=>by simp at hy
 |z::l,0,y,hy,_,h1,h2=>by
  simp at hy;subst hy;unfold sJ;rw[if_neg h1,if_pos h2]
 |z::l,k+1,y,hy,hall,h1,h2=>by
  unfold sJ;rw[if_pos (hall 0 z (by omega) rfl),WS (l:=l) (k:=k) (by simpa using hy) (fun j w hj hw=>hall (j+1) w (by omega) (by simpa using hw)) h1 h2]
theorem KJ{l:List Rl}{i:Nat}{x:Rl}(hx:l[i]? =some x):fG (l.take (i+1))=sJ x (fG (l.take i)):=by
 rw[<-dD hx];unfold fG;rw[List.foldl_append];rfl
def Tq(x:Rl):∀l:List Rl,(sJ x l).length<=l.length+1
 |[]=>by simp[sJ]
 |y::l=>by
  have:=Tq x l;unfold sJ;split
  ·simp;omega
  ·split<;>simp
def PZ(l:List Rl):(fG l).length<=l.length:=by
 have:∀(l o:List Rl),(l.foldl (fun o x=>sJ x o) o).length<=o.length+l.length:=by
  intro l
  induction l with
  |nil=>intro o;simp
  |cons x l ih=>intro o;rw[List.foldl_cons];have:=ih (sJ x o);have:=Tq x o;simp;omega
 have:=this l [];unfold fG;simpa using this
def Tt{p:Rl->Prop}{x:Rl}(hx:p x):∀{l:List Rl},(∀y∈l,p y)->∀y∈sJ x l,p y
 |[],_,y,hy=>by simp[sJ] at hy;rw[hy];exact hx
 |z::l,h,y,hy=>by
  unfold sJ at hy
  split at hy
  ·rcases List.mem_cons.1 hy with e|e
   ·rw[e];exact h z (List.mem_cons_self ..)
   ·exact Tt hx (fun w hw=>h w (List.mem_cons_of_mem _ hw)) y e
  ·split at hy
   ·exact h y hy
   ·rcases List.mem_cons.1 hy with e|e
    ·rw[e];exact hx
    ·exact h y e
def WT{p:Rl->Prop}{l:List Rl}(h:∀y∈l,p y):∀y∈fG l,p y:=by
 have:∀(l o:List Rl),(∀y∈l,p y)->(∀y∈o,p y)->∀y∈l.foldl (fun o x=>sJ x o) o,p y:=by
  intro l
  induction l with
  |nil=>intro o _ ho;exact ho
  |cons x l ih=>intro o hl ho;rw[List.foldl_cons];exact ih _ (fun y hy=>hl y (List.mem_cons_of_mem _ hy)) (Tt (hl x (List.mem_cons_self ..)) ho)
 exact this l [] h (by simp)
section
variable{α:Type}{c:α->List Value}{k:Nat}
theorem jh.takeR(h:jh α c k):∀(l:List α) (n:Nat),(ah c l).take (n*k)=ah c (l.take n)
 |[],n=>by simp[ah]
 |x::l,0=>by simp[ah]
 |x::l,n+1=>by
  have e:(n+1)*k=(c x).length+n*k:=(by rw[h.len,Nat.succ_mul,Nat.add_comm]);rw[ig,e,List.take_length_add_append,List.take_succ_cons,ig,jh.takeR h l n]
theorem jh.dropR(h:jh α c k):∀(l:List α) (n:Nat),(ah c l).drop (n*k)=ah c (l.drop n)
 |[],n=>by simp[ah]
 |x::l,0=>by simp
 |x::l,n+1=>by
  have e:(n+1)*k=(c x).length+n*k:=(by rw[h.len,Nat.succ_mul,Nat.add_comm]);rw[ig,e,List.drop_length_add_append,List.drop_succ_cons,jh.dropR h l n]
theorem jh.lenTake(h:jh α c k){l:List α}{n:Nat}(hn:n<=l.length):(ah c (l.take n)).length=n*k:=by rw[h.length,List.length_take,Nat.min_eq_left hn]
theorem jh.lenDrop(h:jh α c k)(l:List α)(n:Nat):(ah c (l.drop n)).length=(l.length-n)*k:=by rw[h.length,List.length_drop]
def jh.dropT(h:jh α c k){l:List α}{n cap:Nat}(hc:l.length<=cap)(hn:n<=l.length):((ah c l).drop (if cap=n then 0 else n*k)).take ((l.length-n)*k)=ah c (l.drop n):=by
 by_cases e:cap=n
 ·have:l.length-n=0:=by omega
  rw[if_pos e,this,Nat.zero_mul,List.take_zero,List.drop_of_length_le (by omega)];rfl
 ·rw[if_neg e,h.dropR,List.take_of_length_le];rw[h.lenDrop];exact Nat.le_refl _
end
end Go.Via
namespace Go.Via
theorem vI:∀l:List Iv,(bV l).length=2*l.length
 |[]=>rfl
 |i::l=>by show(i.f::i.t::bV l).length=_;rw[List.length_cons,List.length_cons,vI l,List.length_cons];omega
def WU{l:List Iv}{n:Nat}(h:∀x∈l,jV x<=n):∀y∈bV l,gY y<=n:=fun y hy=>by
 obtain⟨i,hi,he⟩:=List.mem_flatMap.1 hy;have:=h i hi;simp at he;rcases he with rfl|rfl
 ·exact Nat.le_trans (kw i) this
 ·exact Nat.le_trans (kz i) this
def sS{α:Type}{c:α->List Value}{k:Nat}(h:jh α c k)(hk:0<k){l:List α}{b:Option Nat}(hb:b=none->ah c l=[]):l.length=0∨∃g,b=some g:=by
 by_cases e:l.length=0
 ·exact .inl e
 ·right
  cases b with
  |some g=>exact⟨g,rfl⟩
  |none=>exact absurd (hb rfl) (h.ne hk (by omega))
end Go.Via
namespace Go.Via
open Go
theorem yX{α:Type}{l:List α}{i:Nat}{x:α}(hx:l[i]? =some x):l.drop i=x::l.drop (i+1):=by
 obtain⟨hlt,e⟩:=List.getElem?_eq_some_iff.1 hx;rw[List.drop_eq_getElem_cons hlt,e]
theorem P5(op:Bool->Bool->Bool)(a b:List Iv):kY op a b=qI (fun t=>op (oh a t) (oh b t)) (fun t u=>op (oq a t u) (oq b t u)) (fG (bV (a++b))) [] false:=by
 rw[uj.1];rfl
section
variable{here:Rl->Bool}{btw:Rl->Rl->Bool}{E:List Rl}{i:Nat}{t u:Rl}{out o1:List Iv}{og h w:Bool}
def YJ(ht:E[i]? =some t)(he:i+1=E.length)(hh:here t=h):kM out og h t=qI here btw (E.drop i) out og:=by
 rw[yX ht,List.drop_of_length_le (by omega)];unfold qI;rw[hh]
theorem Gz(ht:E[i]? =some t)(hu:E[i+1]? =some u)(hh:here t=h)(hw:btw t u=w):
 qI here btw (E.drop i) out og=qI here btw (E.drop (i+1)) (if w=true∧h=false then kM out og h t++[⟨t,u,true,true⟩] else kM out og h t) w:=by
 rw[yX ht,yX hu];rw[qI,hh,hw]
def qbw(ht:E[i]? =some t)(hu:E[i+1]? =some u)(hh:here t=h)(hw:btw t u=w)(h1:w=true)(h2:h=false)(ho:o1=kM out og h t):
 qI here btw (E.drop i) out og=qI here btw (E.drop (i+1)) (o1++[⟨t,u,true,true⟩]) true:=by
 rw[Gz ht hu hh hw,if_pos ⟨h1,h2⟩,ho,h1]
def qeU(ht:E[i]? =some t)(hu:E[i+1]? =some u)(hh:here t=h)(hw:btw t u=w)(h1:w=true)(h2:h=true)(ho:o1=kM out og h t):
 qI here btw (E.drop i) out og=qI here btw (E.drop (i+1)) o1 true:=by
 rw[Gz ht hu hh hw,if_neg (by rw[h2];simp),ho,h1]
def qeV(ht:E[i]? =some t)(hu:E[i+1]? =some u)(hh:here t=h)(hw:btw t u=w)(h1:w=false)(ho:o1=kM out og h t):
 qI here btw (E.drop i) out og=qI here btw (E.drop (i+1)) o1 false:=by
 rw[Gz ht hu hh hw,if_neg (by rw[h1];simp),ho,h1]
end
theorem qeW{out:List Iv}{og h:Bool}{t:Rl}{j:Iv}(h0:og=true)(h1:h=true)(hj:out[out.length-1]? =some j):kM out og h t=out.set (out.length-1) ⟨j.f,t,j.fo,false⟩:=by
 subst h0;subst h1;unfold kM;rw[if_pos rfl,Om hj];rfl
theorem qeX{out:List Iv}{og h:Bool}{t:Rl}{j:Iv}(h0:og=true)(h1:h=false)(hj:out[out.length-1]? =some j):kM out og h t=out.set (out.length-1) ⟨j.f,t,j.fo,true⟩:=by
 subst h0;subst h1;unfold kM;rw[if_pos rfl,Om hj];rfl
theorem qeY{out:List Iv}{og h:Bool}{t:Rl}(h0:og=false)(h1:h=true):kM out og h t=out++[⟨t,t,false,false⟩]:=by subst h0;subst h1;rfl
theorem qeZ{out:List Iv}{og h:Bool}{t:Rl}(h0:og=false)(h1:h=false):kM out og h t=out:=by subst h0;subst h1;rfl
def qbx(out:List Iv)(og:Bool)(t:Rl):og=true∧out=[]∨0<(kM out og true t).length:=by
 cases og
 ·right;simp[kM]
 ·by_cases h:out=[]
  ·exact .inl ⟨rfl,h⟩
  ·right
   obtain⟨l,j,rfl⟩:∃l j,out=l++[j]:=⟨out.dropLast,out.getLast h,(List.dropLast_concat_getLast h).symm⟩;unfold kM;rw[if_pos rfl,vG];simp
end Go.Via
namespace Go.Proofs.YtaffcpfhedadhaaGreatDoor
open Go Go.RowKit Go.Via
def Ff(n:Nat)(hn:nb n<=100000000)(x:SR (nb n)):dh Tryz.prog 162 [⟨x.b,3,NV .i64 (D8 (n)),x.n,false⟩] [x.v] (SR (nb (cO n))) SR.v (fun z=>[⟨z.b,3,NV .i64 (D8 (cO n)),z.n,true⟩]):=by
 refine Md 34 Tryz.func162 fun w hL0=>?_;refine A7 ?_;refine(Bl 0 []) (qdv) (fun g0=>?_);refine A1 ?_;refine(Bl 1 [(0,_)]) (gW) (fun g1=>?_);refine iO [_,SR.v (len:=nb 1) ⟨some g1,1,1,by rw[qg];exact Nat.le_refl _⟩] [0,2] rfl rfl (by show _=[some _,some (az (some g1) 0 (nb 1) 1)];rw[qg];rfl) (jZ n 1 (by omega) (by rw[qg];omega) x ⟨some g1,1,1,by rw[qg];exact Nat.le_refl _⟩) ⟨pS,⟨_,rfl,by rw[UT];exact mX⟩,trivial⟩ rfl (.inr fun x b hb=>by rw[List.mem_singleton.1 hb]) (fun zp=>?_);refine A6 ?_;refine El (ι:=RtG n) (fun⟨lo,hi,lx,hx,h1,h2,h3⟩=>([(0,x.v),(3,lx.v),(4,hx.v)],[⟨x.b,3,NV .i64 (D8 (n)),x.n,false⟩,⟨lx.b,3,NV .i64 (D8 (lo)),lx.n,true⟩,⟨hx.b,3,NV .i64 (D8 (hi)),hx.n,true⟩],hi-lo)) ⟨0,n+1,⟨some g0,0,0,by rw[kS];exact Nat.le_refl _⟩,zp,Nat.zero_le _,qbq n,Nat.le_refl _⟩ ?_ (ht:=⟨rfl,(aB rfl (by show az (some g0) 0 0 0=az (some g0) 0 (nb 0) 0;rw[kS])),rfl,trivial⟩) (hL:=(au [some 0,some 1,some 3] ⟨pR,⟨_,rfl,by rw[PG];exact aG.le_refl _⟩,pR,trivial⟩ rfl rfl));rintro⟨lo,hi,lx,hx,h1,h2,h3⟩;(try dsimp only);have hlo:=qfV h1 h2;have b1:nb lo<=nb n+1:=Nat.le_trans (ik (show lo<=n by omega)) (by omega);have b2:nb hi<=nb n+2:=Nat.le_trans (ik h3) (by have:=zV n 1;rw[qg] at this;omega);have b3:=zV lo hi;have b4:=zV lo 1;have b5:=qg;have b6:=wW (lo+hi) 2;have b7:=oQ ((lo+hi)/2) ((lo+hi)/2);refine A4 ?_;refine(Bl 1 [(0,_)]) (gW) (fun g2=>?_);refine iO [_,SR.v (len:=nb 1) ⟨some g2,1,1,by rw[qg];exact Nat.le_refl _⟩] [1,3] rfl rfl (by show _=[some _,some (az (some g2) 0 (nb 1) 1)];rw[qg];rfl) (jZ lo 1 (by omega) (by rw[qg];omega) lx ⟨some g2,1,1,by rw[qg];exact Nat.le_refl _⟩) ⟨pS,⟨_,rfl,by rw[UT];exact mX⟩,trivial⟩ rfl (.inr fun x b hb=>by rw[List.mem_singleton.1 hb]) (fun z1=>?_);refine A1 ?_;refine(Sd [4,2]) (fU (lo+1) hi (by omega) z1 hx) ?_;refine A3 ?_;refine Cd ?_ ?_<;>intro hb1
 ·have hlt:lo+1<hi:=NJ hb1;refine A7 ?_;refine(Sc [1,2]) (jZ lo hi (by omega) (by omega) lx hx) (fun zs=>?_);refine(Bl 1 [(0,_)]) (gW) (fun g3=>?_);refine iO [_,SR.v (len:=nb 2) ⟨some g3,1,1,by rw[PX];exact Nat.le_refl _⟩] [5,6] rfl rfl (by show _=[some _,some (az (some g3) 0 (nb 2) 1)];rw[PX];rfl) (ql (lo+hi) 2 (by omega) (by omega) (by rw[PX];omega) zs ⟨some g3,1,1,by rw[PX];exact Nat.le_refl _⟩) ⟨pS,⟨_,rfl,by rw[qhE];exact mX⟩,trivial⟩ rfl (.inr J9) (fun zd0=>?_);obtain⟨zd,rfl⟩:∃z,zd0=Sum.inl z:=by cases zd0 with|inl z=>exact⟨z,rfl⟩|inr h=>exact absurd h.down (by omega)
  refine oO ?_;refine(Sc [7,7]) (jy ((lo+hi)/2) ((lo+hi)/2) (by omega) (by omega) zd.1 zd.1) (fun zt=>?_);refine A1 ?_;refine(Sd [9,0]) (fU ((lo+hi)/2*((lo+hi)/2)) n (by omega) zt x) ?_;refine A3 ?_;refine Cd ?_ ?_<;>intro hb2
  ·have hc:(lo+hi)/2*((lo+hi)/2)<=n:=wJ.1 (of_decide_eq_true hb2);refine A6 ?_;exact Nl ⟨(lo+hi)/2,hi,zd.1,hx,hc,h2,h3⟩ (hμ:=(by show hi-(lo+hi)/2<hi-lo;omega)) (hL:=(rD [some 0,some 7,some 2]))
  ·have hc:n<(lo+hi)/2*((lo+hi)/2):=Nat.lt_of_not_le fun e=>of_decide_eq_false hb2 (wJ.2 e)
   refine A6 ?_;exact Nl ⟨lo,(lo+hi)/2,lx,zd.1,h1,hc,by omega⟩ (hμ:=(by show(lo+hi)/2-lo<hi-lo;omega)) (hL:=(rD [some 0,some 1,some 7]))
 ·have hge:¬lo+1<hi:=Nat.not_lt.2 (J3 hb1);have he:=qhD h1 h2 hge;obtain rfl:=he;refine lX ?_;refine aH rfl (aj rfl) (fun w hL=>⟨lx,?_,hL.pk [some 1]⟩);exact rfl
def P6(q:Rat)(hq:dw q<=4194303:=by omega):aP Tryz.prog 112 #[Q q] (.tuple #[Q (if BM q=true then nD q else 0),.bool (BM q)]):=by
 have e1:=JA hq;have e2:=JB hq;have r1:=oM q.num.natAbs;have r2:=oM q.den;have m1:=oQ (cO q.num.natAbs) (cO q.num.natAbs);have m2:=oQ (cO q.den) (cO q.den);refine xJ 40 Tryz.func112 fun w=>?_;refine A2 ?_;refine Bp 4 (fun g0=>?_);refine Al 4 qV (fun g1=>?_);refine A5 ?_;refine L4 0 0 ?_;refine iO [_] [] rfl rfl rfl (ve q (Nat.le_trans hq (Nat.le_of_ble_eq_true rfl))) trivial rfl (.inr qaX) (fun y=>?_);refine Al 3 XV (fun g2=>?_);refine Ss 4 ?_;refine A3 ?_;refine Dp [] [0,1,3,4,2,5,6,7] ?_;refine A4 ?_;refine(Sc [2]) (Ff (q.num.natAbs) (by omega) y.1) (fun zn=>?_);refine(Sc [3]) (Ff (q.den) (by omega) y.2) (fun zd=>?_);refine A6 ?_;refine Dp [] [0,1,2,3,4,6,7,5,8,9,10,11,12,13,15,16,14,17,18,19] ?_ (hc:=(oz [0,1,3,7,7,31,7,71,255,511,1023,2047,4095,4095,16383,4095,36863,131071,262143,524287] (by kernel_rfl)));refine A3 ?_;refine Rs 17 ?_ ?_<;>intro hb0
 ·have hs17:decide (q.num<0)=true:=hb0;refine A22 ?_;refine(Bu []) (yL) ?_;refine aT 35 (Q 0) rfl yI.symm ?_;refine Ss 1 ?_;refine A5 ?_;refine bF rfl (bu 1 rfl rfl BZ (vs:=[_,_,_,_]) rfl rfl (Nat.le_of_ble_eq_true rfl) rfl) (aj rfl) (fun w hL=>⟨?_,hL.below⟩);rw[qjq hs17,if_neg (by decide)];rfl
 ·have hs17:decide (q.num<0)=false:=hb0;refine A4 ?_;refine(Sc [5,5]) (jy (cO q.num.natAbs) (cO q.num.natAbs) (by omega) (by omega) zn zn) (fun tn=>?_);refine(Sd [7,2]) (fU (cO q.num.natAbs*cO q.num.natAbs) q.num.natAbs (by omega) tn y.1) ?_;refine A3 ?_;refine Rs 26 ?_ ?_<;>intro hb1
  ·have hs24:cO q.num.natAbs*cO q.num.natAbs≠q.num.natAbs:=Tj hb1;refine CB ?_;refine(Bu []) (yL) ?_;refine aT 35 (Q 0) rfl yI.symm ?_;refine Ss 1 ?_;refine A5 ?_;refine bF rfl (bu 1 rfl rfl BZ (vs:=[_,_,_,_]) rfl rfl (Nat.le_of_ble_eq_true rfl) rfl) (aj rfl) (fun w hL=>⟨?_,hL.below⟩);rw[qjr hs24,if_neg (by decide)];rfl
  ·have hs24:cO q.num.natAbs*cO q.num.natAbs=q.num.natAbs:=Tn hb1;refine A4 ?_;refine(Sc [6,6]) (jy (cO q.den) (cO q.den) (by omega) (by omega) zd zd) (fun td=>?_);refine(Sd [8,3]) (fU (cO q.den*cO q.den) q.den (by omega) td y.2) ?_;refine A4 ?_;refine Cd ?_ ?_<;>intro hb2
   ·have hs33:cO q.den*cO q.den≠q.den:=Tj hb2;refine A2 ?_;refine(Bu []) (yL) ?_;refine aT 35 (Q 0) rfl yI.symm ?_;refine Ss 1 ?_;refine A5 ?_;refine bF rfl (bu 1 rfl rfl BZ (vs:=[_,_,_,_]) rfl rfl (Nat.le_of_ble_eq_true rfl) rfl) (aj rfl) (fun w hL=>⟨?_,hL.below⟩);rw[qjs hs33,if_neg (by decide)];rfl
   ·have hs33:cO q.den*cO q.den=q.den:=Tn hb2;refine A6 ?_;refine(Bu [(0,_),(1,_),(2,_)]) (wE) ?_;refine(Sd [5,6]) (iW (cO q.num.natAbs) (cO q.den) false (YI q hs33) (by omega) (by omega) zn zd) ?_;refine Ss 1 ?_;refine A4 ?_;refine bF rfl (bu 1 rfl rfl BZ (vs:=[_,_,_,_]) rfl rfl (Nat.le_of_ble_eq_true rfl) rfl) (aj rfl) (fun w hL=>⟨?_,hL.below⟩);rw[qjt hs17 hs24 hs33,if_pos rfl];rfl
def P7(f:Qd)(t:Rat)(hf:uB f<=500000:=by omega)(ht:dw t<=500000:=by omega):aP Tryz.prog 80 #[rM f,Q t] (Q (wL f t)):=by
 have f0:=Nat.le_trans (qo f) hf;have f1:=Nat.le_trans (qp f) hf;have f2:=Nat.le_trans (qM f) hf;have l1:=aS t f.c2;have l2:=bT f.c1 (t*f.c2);have l3:=aS t (f.c1+t*f.c2);refine oG 17 Tryz.func80 fun w=>?_;refine A2 ?_;refine Bp 12 (fun g0=>?_);refine Bp 4 (fun g1=>?_);refine Al 4 qV (fun g2=>?_);refine A3 ?_;refine Di [] ?_;refine A1 ?_;refine L4 0 0 ?_;refine L4 1 0 ?_;refine A1 ?_;refine L4 0 4 ?_;refine L4 1 0 ?_;refine A1 ?_;refine L4 0 8 ?_;refine Pc (dQ t f.c2) ?_;refine Pc (iG f.c1 (t*f.c2)) ?_;refine Pc (dQ t (f.c1+t*f.c2)) ?_;refine Pc (iG f.c0 (t*(f.c1+t*f.c2))) ?_;refine Ss 2 ?_;refine A3 ?_;refine G7 2 ?_;exact rfl
def KL(f:Qd)(t:Rl)(hf:uB f<=100000:=by omega)(ht:gY t<=100000:=by omega):aP Tryz.prog 99 #[rM f,RV t] (rM (mg f t)):=by
 have f0:=Nat.le_trans (qo f) hf;have f1:=Nat.le_trans (qp f) hf;have f2:=Nat.le_trans (qM f) hf;have t1:=Nat.le_trans (sO t) ht;have t2:=Nat.le_trans (yj t) ht;have l1:=aS t.p t.p;have l2:=bJ t.r (t.p*t.p);have l3:=aS f.c2 (t.r-t.p*t.p);have l4:=aS t.p f.c2;have l5:=aS 2 (t.p*f.c2);have l6:=Fb;refine oG 41 Tryz.func99 fun w=>?_;refine A2 ?_;refine Bp 12 (fun g0=>?_);refine Bp 9 (fun g1=>?_);refine Al 12 G6 (fun g2=>?_);refine A6 ?_;refine L4 1 4 ?_;refine Pc (lK t.r) ?_;refine A3 ?_;refine Cd ?_ ?_<;>intro hb0
 ·have hs9:=eq_of_beq hb0;refine A2 ?_;refine ut 0 0 ?_;refine A1 ?_;refine L4 1 0 ?_;refine Pc (P7 f t.p) ?_;refine(Bu [(0,_)]) (ZY) ?_;refine Ss 2 ?_;refine A4 ?_;refine JR 2 ?_;rw[qhF hs9,Oc]
 ·have hs9:=ne_of_beq_false hb0;refine A4 ?_;refine Pc (jd 2 1) ?_;refine aT 15 (Q 2) rfl (congrArg Q qjp) ?_;refine Al 4 qV (fun g3=>?_);refine Ss 3 ?_;refine A3 ?_;refine Dp [] [0,1,2,3,4,5,6,7,8,9,14,15,16,17,18,19,20,10,11,12,13,21,22,23,24,25] ?_ (hc:=(oz [0,1,0,4,0,16,0,64,0,256,960,2032,4092,8191,0,16384,0,0,131072,0,524288,1982463,4145151,8388607,16777215,33554431] (by kernel_rfl)));refine A1 ?_;refine L4 0 0 ?_;refine A1 ?_;refine L4 0 8 ?_;refine A1 ?_;refine L4 1 4 ?_;refine A1 ?_;refine L4 1 0 ?_;refine A1 ?_;refine L4 1 0 ?_;refine A1 ?_;refine L4 0 4 ?_;refine L4 3 0 ?_;refine A1 ?_;refine L4 1 0 ?_;refine A1 ?_;refine L4 0 8 ?_;refine Pc (dQ t.p t.p) ?_;refine Pc (lC t.r (t.p*t.p)) ?_;refine Pc (dQ f.c2 (t.r-t.p*t.p)) ?_;refine Pc (iG f.c0 (f.c2*(t.r-t.p*t.p))) ?_;refine Pc (dQ t.p f.c2) ?_;refine Pc (dQ 2 (t.p*f.c2)) ?_;refine Pc (iG f.c1 (2*(t.p*f.c2))) ?_;refine(Bu [(0,_),(1,_)]) (ZZ) ?_;refine Ss 2 ?_;refine A3 ?_;refine JR 2 ?_;rw[qhG hs9,WI]
def CV(a:Rat)(u:Int)(r:Rat)(hu:u= -1∨u=0∨u=1)(ha:dw a<=1000000:=by omega)(hr:dw r<=1000000:=by omega):aP Tryz.prog 109 #[Q a,.int .i64 u,Q r] (.int .i64 (jR a u r)):=by
 have l1:=aS a a;refine pB3 35 Tryz.func109 fun w=>?_;refine A2 ?_;refine Bp 4 (fun g0=>?_);refine Bp 4 (fun g1=>?_);refine A4 ?_;refine Dp [2000000] [0,2,3,1,4,5,6,7] ?_;refine L4 0 0 ?_;refine A1 ?_;refine L4 1 0 ?_;refine Pc (lK a) ?_;refine Pc (lK r) ?_;refine(Aq (u*dJ r)) (congrArg some (w3 hu (DW r))) ?_;refine CB ?_;refine Cd ?_ ?_<;>intro hb0
 ·have hs15:=eq_of_beq hb0;refine A9 ?_;refine E0 ?_;rw[qeR hs15]
 ·have hs15:=ne_of_beq_false hb0;refine A5 ?_;refine Rs 22 ?_ ?_<;>intro hb1
  ·have hs22:=eq_of_beq hb1;refine MW ?_;refine E0 ?_;rw[WP hs15 (.inl hs22)];rfl
  ·have hs22:=ne_of_beq_false hb1;refine A7 ?_;refine Cd ?_ ?_<;>intro hb2
   ·have hs19:=eq_of_beq hb2;refine A9 ?_;refine E0 ?_;rw[WP hs15 (.inr hs19)];rfl
   ·have hs19:=ne_of_beq_false hb2;refine A4 ?_;refine Dp [] [0,1,2,4,3,5,6,7] ?_;refine A1 ?_;refine L4 0 0 ?_;refine L4 0 0 ?_;refine L4 1 0 ?_;refine Pc (dQ a a) ?_;refine Pc (Ih (a*a) r) ?_;refine(Aq (dJ a*oC (a*a) r)) (congrArg some (w3 (DW a) (qba _ _))) ?_;refine A4 ?_;refine E0 ?_;rw[qeS hs15 hs22 hs19]
def Fh(x:Rl):aP Tryz.prog 56 #[RV x] (.int .i64 (nH x)):=by
 refine xJ 5 Tryz.func56 fun w=>?_;refine A2 ?_;refine Bp 9 (fun g0=>?_);refine lm ?_;refine Cd ?_ ?_<;>intro hb0
 ·refine A7 ?_;refine E0 ?_;rw[nH,if_pos hb0]
 ·refine A8 ?_;refine E0 ?_;rw[nH,if_neg (by rw[hb0];decide)]
def MG(a:Rat)(u:Int)(r:Rat)(v:Int)(s:Rat)(hu:u= -1∨u=0∨u=1)(hv:v= -1∨v=0∨v=1)(ha:dw a<=200000:=by omega)(hr:dw r<=200000:=by omega)(hs:dw s<=200000:=by omega):aP Tryz.prog 54 #[Q a,.int .i64 u,Q r,.int .i64 v,Q s] (.int .i64 (MC a u r v s)):=by
 have l1:=aS a a;have l2:=bT (a*a) r;have l3:=bJ (a*a+r) s;have l4:=aS (a*a) r;have l5:=aS 4 (a*a*r);have l6:=qbt;have m1:=qbr a r hu;have m2:=m3 hv (DW s);have m3_:=m3 hu (DW a);refine pB5 60 Tryz.func54 fun w=>?_;refine A2 ?_;refine Bp 4 (fun g0=>?_);refine Bp 4 (fun g1=>?_);refine Bp 4 (fun g2=>?_);refine A4 ?_;refine Dp [2000000] [0,1,2,4,5,3,6,7,8,9] ?_;refine L4 0 0 ?_;refine A1 ?_;refine L4 1 0 ?_;refine A1 ?_;refine L4 2 0 ?_;refine Pc (CV a u r hu) ?_;refine Pc (lK s) ?_;refine(Aq (v*dJ s)) (congrArg some (w3 hv (DW s))) ?_;refine lX ?_;refine Rs 27 ?_ ?_<;>intro hb0
 ·have hs27:jR a u r≠v*dJ s:=by have e:=hb0;simpa using e
  refine zT ?_;refine Cd ?_ ?_<;>intro hb1
  ·have hs33:v*dJ s<jR a u r:=of_decide_eq_true hb1;refine A9 ?_;refine E0 ?_;rw[WQ (.inl hs27) hs33]
  ·have hs33:¬v*dJ s<jR a u r:=of_decide_eq_false hb1;refine A6 ?_;refine(Aq (jR a u r-v*dJ s)) (by exact(congrArg some (wi (by omega) (by omega) rfl))) ?_;refine A6 ?_;refine E0 ?_;rw[WR (.inl hs27) hs33]
 ·have hs27:jR a u r=v*dJ s:=by have e:=hb0;simpa using e
  refine A6 ?_;refine Cd ?_ ?_<;>intro hb1
  ·have hs29:jR a u r=0:=eq_of_beq hb1;refine A8 ?_;refine Cd ?_ ?_<;>intro hb2
   ·have hs33:v*dJ s<jR a u r:=of_decide_eq_true hb2;refine A9 ?_;refine E0 ?_;rw[WQ (.inr hs29) hs33]
   ·have hs33:¬v*dJ s<jR a u r:=of_decide_eq_false hb2;refine A6 ?_;refine(Aq (jR a u r-v*dJ s)) (by exact(congrArg some (wi (by omega) (by omega) rfl))) ?_;refine A6 ?_;refine E0 ?_;rw[WR (.inr hs29) hs33]
  ·have hs29:jR a u r≠0:=ne_of_beq_false hb1;refine A4 ?_;refine Dq [3000000] [0,1,3,2,4,5,6] ?_;refine L4 0 0 ?_;refine L4 0 0 ?_;refine L4 1 0 ?_;refine Pc (dQ a a) ?_;refine Pc (iG (a*a) r) ?_;refine Al 4 qV (fun g3=>?_);refine Ss 3 ?_;refine A3 ?_;refine Dq [3000000] [1,2,4,0,3,5,6,7,8] ?_;refine L4 0 0 ?_;refine L4 0 0 ?_;refine L4 1 0 ?_;refine Pc (jd 4 1) ?_;refine aT 42 (Q 4) rfl (congrArg Q qk8) ?_;refine Pc (dQ a a) ?_;refine Pc (dQ (a*a) r) ?_;refine Pc (dQ 4 (a*a*r)) ?_;refine Al 4 qV (fun g4=>?_);refine Ss 4 ?_;refine A3 ?_;refine Dp [] [0,1,2,4,5,8,3,6,7,9,10,11] ?_;refine A1 ?_;refine L4 3 0 ?_;refine L4 2 0 ?_;refine A1 ?_;refine L4 0 0 ?_;refine L4 4 0 ?_;refine Pc (lC (a*a+r) s) ?_;refine Pc (lK a) ?_;refine(Aq (u*dJ a)) (congrArg some (w3 hu (DW a))) ?_;refine Pc (CV (a*a+r-s) (u*dJ a) (4*(a*a*r)) m3_) ?_;refine(Aq (jR a u r*jR (a*a+r-s) (u*dJ a) (4*(a*a*r)))) (congrArg some (w3 m1 (qbr _ _ m3_))) ?_;refine A4 ?_;refine E0 ?_;rw[qeT (fun e=>e hs27) hs29]
def Fj(f g:Ln)(hf:jo f<=100000:=by omega)(hg:jo g<=100000:=by omega):aP Tryz.prog 45 #[xK f,xK g] (rM (d2 f g)):=by
 have f0:=Nat.le_trans (rQ f) hf;have f1:=Nat.le_trans (rU f) hf;have f2:=Nat.le_trans (rV f) hf;have f3:=Nat.le_trans (rW f) hf;have g0:=Nat.le_trans (rQ g) hg;have g1:=Nat.le_trans (rU g) hg;have g2:=Nat.le_trans (rV g) hg;have g3:=Nat.le_trans (rW g) hg;have s0:=bJ f.x0 g.x0;have s1:=bJ f.x1 g.x1;have s2:=bJ f.y0 g.y0;have s3:=bJ f.y1 g.y1;have m0:=aS (f.x0-g.x0) (f.x0-g.x0);have m1:=aS (f.y0-g.y0) (f.y0-g.y0);have m2:=aS (f.x0-g.x0) (f.x1-g.x1);have m3:=aS (f.y0-g.y0) (f.y1-g.y1);have m4:=aS (f.x1-g.x1) (f.x1-g.x1);have m5:=aS (f.y1-g.y1) (f.y1-g.y1);have m7:=bT ((f.x0-g.x0)*(f.x1-g.x1)) ((f.y0-g.y0)*(f.y1-g.y1));have z2:=Fb;refine oG 55 Tryz.func45 fun w=>?_;refine A2 ?_;refine Bp 16 (fun g0=>?_);refine Bp 16 (fun g1=>?_);refine Al 12 G6 (fun g2=>?_);refine A3 ?_;refine FV (l':=[⟨_,_,_,_,_,_⟩,⟨_,_,_,_,_,_⟩,⟨_,_,_,_,_,_⟩,⟨_,_,_,_,_,_⟩,⟨_,_,_,_,_,_⟩,⟨_,_,_,_,_,_⟩,⟨_,_,_,_,_,_⟩,⟨_,_,_,_,_,_⟩,⟨_,_,_,_,_,_⟩,⟨_,_,_,_,_,_⟩,⟨_,_,_,_,_,_⟩,⟨_,_,_,_,_,_⟩,⟨_,_,_,_,_,_⟩,⟨_,_,_,_,_,_⟩,⟨_,_,_,_,_,_⟩,⟨_,_,_,_,_,_⟩,⟨_,_,_,_,_,_⟩,⟨_,_,_,_,_,_⟩,⟨_,_,_,_,_,_⟩,⟨_,_,_,_,_,_⟩,⟨_,_,_,_,_,_⟩,⟨_,_,_,_,_,_⟩,⟨_,_,_,_,_,_⟩,⟨_,_,_,_,_,_⟩,⟨_,_,_,_,_,_⟩,⟨_,_,_,_,_,_⟩,⟨_,_,_,_,_,_⟩,⟨_,_,_,_,_,_⟩]) [3000000] [0,1,2,3,5,6,7,8,10,11,12,13,15,16,17,18,4,9,14,19,20,21,22,23,24,25,26,27] mixed (VC [0,1,0,4,15,0,32,0,128,511,0,1024,0,4096,16383,0,32768,0,131072,524287,0,0,0,0,16777215,33554431,67108863,134217727] (by kernel_rfl)) rfl ?_;refine A1 ?_;refine L4 0 0 ?_;refine A1 ?_;refine L4 1 0 ?_;refine A1 ?_;refine L4 0 4 ?_;refine A1 ?_;refine L4 1 4 ?_;refine A1 ?_;refine L4 0 8 ?_;refine A1 ?_;refine L4 1 8 ?_;refine A1 ?_;refine L4 0 12 ?_;refine A1 ?_;refine L4 1 12 ?_;refine Pc (lC f.x0 g.x0) ?_;refine Pc (lC f.x1 g.x1) ?_;refine Pc (lC f.y0 g.y0) ?_;refine Pc (lC f.y1 g.y1) ?_;refine Al 4 qV (fun g3=>?_);refine Al 4 qV (fun g4=>?_);refine Al 4 qV (fun g5=>?_);refine Al 4 qV (fun g6=>?_);refine Ss 3 ?_;refine Ss 4 ?_;refine Ss 5 ?_;refine Ss 6 ?_;refine A4 ?_;refine Pc (jd 2 1) ?_;refine aT 30 (Q 2) rfl (congrArg Q qjp) ?_;refine Al 4 qV (fun g7=>?_);refine Ss 7 ?_;refine A3 ?_;refine Dp [] [0,1,3,4,7,8,9,11,12,16,17,19,20,2,5,6,10,13,14,15,18,21,22,23,24] ?_ (hc:=(oz [0,0,3,0,0,31,63,0,0,0,895,0,0,8063,16255,32767,0,0,262143,0,0,2097151,4194303,8388607,16777215] (by kernel_rfl)));refine L4 3 0 ?_;refine L4 3 0 ?_;refine L4 5 0 ?_;refine L4 5 0 ?_;refine L4 7 0 ?_;refine L4 3 0 ?_;refine L4 4 0 ?_;refine L4 5 0 ?_;refine L4 6 0 ?_;refine L4 4 0 ?_;refine L4 4 0 ?_;refine L4 6 0 ?_;refine L4 6 0 ?_;refine Pc (dQ (f.x0-g.x0) (f.x0-g.x0)) ?_;refine Pc (dQ (f.y0-g.y0) (f.y0-g.y0)) ?_;refine Pc (iG ((f.x0-g.x0)*(f.x0-g.x0)) ((f.y0-g.y0)*(f.y0-g.y0))) ?_;refine Pc (dQ (f.x0-g.x0) (f.x1-g.x1)) ?_;refine Pc (dQ (f.y0-g.y0) (f.y1-g.y1)) ?_;refine Pc (iG ((f.x0-g.x0)*(f.x1-g.x1)) ((f.y0-g.y0)*(f.y1-g.y1))) ?_;refine Pc (dQ 2 ((f.x0-g.x0)*(f.x1-g.x1)+(f.y0-g.y0)*(f.y1-g.y1))) ?_;refine Pc (dQ (f.x1-g.x1) (f.x1-g.x1)) ?_;refine Pc (dQ (f.y1-g.y1) (f.y1-g.y1)) ?_;refine Pc (iG ((f.x1-g.x1)*(f.x1-g.x1)) ((f.y1-g.y1)*(f.y1-g.y1))) ?_;refine(Bu [(0,_),(1,_),(2,_)]) (F6) ?_;refine Ss 2 ?_;refine A3 ?_;refine JR 2 ?_;exact rfl
def vJ(l:List PU)(lb:Option Nat)(lN lc:Nat)(hlc:l.length<=lc:=by omega)(hln:l.length<=1000:=by omega):dh Tryz.prog 91 [⟨lb,100,ah aQ l,lN,false⟩] [az lb 0 l.length lc] (SR ((id) l).length) SR.v (fun z=>[⟨z.b,201,ah aQ ((id) l),z.n,true⟩]):=by
 refine Md 22 Tryz.func91 fun w hL0=>?_;refine A19 ?_;refine El (ι:={z:Nat×List PU×Option Nat×Nat×Nat // z.1<=l.length∧z.2.1=(id) (l.take z.1)∧z.2.1.length<=z.2.2.2.2∧z.2.2.2.2*36<=z.2.2.2.1}) (fun⟨⟨i,o,ob,oN,oc⟩,hi,hI,h3,h4⟩=>([(3,az ob 0 o.length oc),(6,az lb 0 l.length lc),(7,bz (l.length)),(8,bz i)],[⟨lb,100,ah aQ l,lN,false⟩,⟨ob,201,ah aQ o,oN,true⟩],l.length-i)) ⟨⟨0,[],none,0,0⟩,Nat.zero_le _,rfl,Nat.le_refl _,by simp⟩ ?_ (hL:=(au [some 0,none] ⟨pR,⟨rfl,rfl,rfl⟩,trivial⟩ rfl rfl));rintro⟨⟨i,o,ob,oN,oc⟩,hi,hI,h3,h4⟩;(try dsimp only);replace hi:i<=l.length:=hi;replace hI:o=(id) (l.take i):=hI;replace h3:o.length<=oc:=h3;replace h4:oc*36<=oN:=h4
 have hol:o.length<=100000:=(by rw[hI];simp;omega);refine A6 ?_;refine Cd ?_ ?_<;>intro hb1
 ·have hlt:i<l.length:=(by have:=of_decide_eq_true hb1;omega);obtain⟨x,hx⟩:∃x,l[i]? =some x:=⟨l[i],List.getElem?_eq_getElem hlt⟩;refine fD 0 rfl (aC.ne (by decide) (by omega)) (fun hbs=>?_);obtain⟨gl,hgl⟩:=Option.isSome_iff_exists.1 hbs;replace hgl:lb=some gl:=hgl;subst hgl;refine A6 ?_;refine ai 0 ((i)*36) JP wC rfl rfl rfl rfl rfl (by omega) (by omega) (aC.ne (by decide) (by omega)) (by show 0+Int.toNat _*36=_;omega) ?_;refine aO (v:=U2 x) 0 ((i)*36) _ rfl rfl rfl rfl wC (aC.sub hx 0 36 (by decide)) rfl (by decide) rfl ?_;refine Al 36 qkz (fun g0=>?_);refine Ss 2 ?_;refine A5 ?_;refine yB 2 0 ?_;refine A1 ?_;refine X6 2 20 ?_;refine(Bu [(0,_),(1,_)]) (Ew) ?_;refine(Bl 36 [(0,_)]) (rF) (fun g1=>?_);refine(Qa (s:=36) (len:=o.length) (n2:=1) 1 3 (fun r=>[_,⟨some r.g,201,ah aQ o++aQ (x),r.n,true⟩,_,_]) kX Ae) (aC.length o) h3 h4 (aC.one (x)) (fun r=>?_);refine A5 ?_;refine Ar (((i+1:Nat):Int)) ?_;refine A3 ?_;exact Nl ⟨⟨i+1,o++[x],some r.g,r.n,r.cap⟩,hlt,by show o++[x]=l.take (i+1);rw[hI];exact dD hx,by rw[List.length_append];exact r.h,r.hn⟩ (hμ:=(by show l.length-(i+1)<l.length-i;omega)) (ht:=⟨(aB rfl (by rw[List.length_append];rfl)),rfl,rfl,rfl,trivial⟩) (hL:=(au [some 0,some 1] ⟨pR,⟨_,rfl,aI (by rw[bH])⟩,trivial⟩ rfl rfl))
 ·have hge:i=l.length:=(by have:=of_decide_eq_false hb1;omega);subst hge;obtain rfl:o=(id) l:=by rw[hI,List.take_length]
  refine lX ?_;refine aH rfl (aj rfl) (fun w hL=>⟨⟨ob,oN,oc,h3⟩,?_,hL.pk [some 1]⟩);exact rfl
def gQ(x y:Rl)(hx:gY x<=50000:=by omega)(hy:gY y<=50000:=by omega):aP Tryz.prog 20 #[RV x,RV y] (.int .i64 (bW x y)):=by
 have x1:=Nat.le_trans (sO x) hx;have x2:=Nat.le_trans (yj x) hx;have y1:=Nat.le_trans (sO y) hy;have y2:=Nat.le_trans (yj y) hy;have l1:=bJ x.p y.p;have hcm:=qeq x y;refine oG 26 Tryz.func20 fun w=>?_;refine A2 ?_;refine Bp 9 (fun g0=>?_);refine Bp 9 (fun g1=>?_);refine A4 ?_;refine Dp [] [0,1,2,3,5,7,8,9,11,12,4,6,10,13,14] ?_;refine A1 ?_;refine L4 0 0 ?_;refine A1 ?_;refine L4 1 0 ?_;refine L9 0 0 ?_;refine A1 ?_;refine L4 0 4 ?_;refine L9 1 0 ?_;refine A1 ?_;refine L4 1 4 ?_;refine Pc (lC x.p y.p) ?_;refine Pc (Fh x) ?_;refine Pc (Fh y) ?_;refine Pc (MG (x.p-y.p) (nH x) x.r (nH y) y.r (qbs x) (qbs y)) ?_;refine lX ?_;refine Cd ?_ ?_<;>intro hb0
 ·refine A8 ?_;refine E0 ?_;rw[<-hcm,qaV,if_pos (of_decide_eq_true hb0)]
 ·refine A7 ?_;refine Cd ?_ ?_<;>intro hb1
  ·refine A8 ?_;refine E0 ?_;rw[<-hcm,qaV,if_neg (of_decide_eq_false hb0),if_pos (of_decide_eq_true hb1)]
  ·refine A9 ?_;refine E0 ?_;rw[<-hcm,qaV,if_neg (of_decide_eq_false hb0),if_neg (of_decide_eq_false hb1)]
def Va(i:Iv)(t:Rl)(hi:jV i<=50000:=by omega)(ht:gY t<=50000:=by omega):aP Tryz.prog 52 #[kF i,RV t] (.bool (D9 i t)):=by
 have i1:=Nat.le_trans (kw i) hi;have i2:=Nat.le_trans (kz i) hi;refine oG 39 Tryz.func52 fun w=>?_;refine A2 ?_;refine Bp 20 (fun g0=>?_);refine Bp 9 (fun g1=>?_);refine A4 ?_;refine Dp [] [0,1,2,4,5,6,3,7,8,9] ?_;refine A1 ?_;refine L9 0 0 ?_;refine L9 1 0 ?_;refine L9 1 0 ?_;refine A1 ?_;refine L9 0 9 ?_;refine Pc (gQ i.f t (by omega) ht) ?_;refine Pc (gQ t i.t ht) ?_;refine A9 ?_;refine Rs 17 ?_ ?_<;>intro hb0
 ·refine lX ?_;refine Rs 29 ?_ ?_<;>intro hb1
  ·refine CB ?_;refine E0 ?_;exact eB (by unfold D9;first|(simp_all;done)|(simp_all;omega)|(simp_all;intros;omega))
  ·refine A3 ?_;refine Rs 32 ?_ ?_<;>intro hb2
   ·refine lm ?_;refine E0 ?_;exact eB (by unfold D9;first|(simp_all;done)|(simp_all;omega)|(simp_all;intros;omega))
   ·refine lm ?_;refine E0 ?_;exact eB (by unfold D9;first|(simp_all;done)|(simp_all;omega)|(simp_all;intros;omega))
 ·refine A3 ?_;refine Rs 20 ?_ ?_<;>intro hb1
  ·refine A6 ?_;refine Rs 26 ?_ ?_<;>intro hb2
   ·refine A3 ?_;refine Rs 29 ?_ ?_<;>intro hb3
    ·refine CB ?_;refine E0 ?_;exact eB (by unfold D9;first|(simp_all;done)|(simp_all;omega)|(simp_all;intros;omega))
    ·refine A3 ?_;refine Rs 32 ?_ ?_<;>intro hb4
     ·refine lm ?_;refine E0 ?_;exact eB (by unfold D9;first|(simp_all;done)|(simp_all;omega)|(simp_all;intros;omega))
     ·refine lm ?_;refine E0 ?_;exact eB (by unfold D9;first|(simp_all;done)|(simp_all;omega)|(simp_all;intros;omega))
   ·refine II ?_;refine E0 ?_;exact eB (by unfold D9;first|(simp_all;done)|(simp_all;omega)|(simp_all;intros;omega))
  ·refine A22 ?_;refine E0 ?_;exact eB (by unfold D9;first|(simp_all;done)|(simp_all;omega)|(simp_all;intros;omega))
end Go.Proofs.YtaffcpfhedadhaaGreatDoor
