/-
  Part 33 (chapter 32): lemmas, walks. Each theorem states its own conditions.
-/
import Derived.Lib.Repeat
import Derived.Test.YtaffcpfhedadhaaGreatDoorA21
import Derived.Test.YtaffcpfhedadhaaGreatDoorA29
set_option linter.all false
set_option maxRecDepth 20000
set_option maxHeartbeats 20000000
namespace Go.Proofs.YtaffcpfhedadhaaGreatDoor
open Go Go.RowKit Go.Via
def Bj(n:Nat)(hn:nb n<=33554432:=by omega):aJ Tryz.prog 200 #[.string (bQ n)] (.string (bQ (bV n))):=by
 have hb8:=Vp n;have hk8:=Vq n;refine wQ 50 Tryz.func200 fun w=>?_;refine nI ?_;refine Cd ?_ ?_<;>intro haQ
 ·have h0:n=0:=qce haQ;refine A7 ?_;refine E0 ?_;subst h0;rw[show bV 0=0 from rfl,iT]
 ·have h0:n≠0:=XL haQ;have hp:=Ea h0;refine A6 ?_;refine aS 12 (bH (nb n)) rfl F5 ?_;refine Ar (((nb n-1:Nat):Int)) ?_;refine Ar (((8*(nb n-1):Nat):Int)) ?_;refine A1 ?_;refine Aj (b:=UInt8.ofNat (zU n)) (r:=((zU n:Nat):Int)) u9 rfl rfl rfl rfl ae (WX n 0 hp) (QY _) ?_;refine Pc (Vu (zU n) (RG n)) ?_;refine Ar (((8*(nb n-1)+Lib.bitLen (zU n):Nat):Int)) ?_;refine A6 ?_;refine Ar (((8*(nb n-1)+Lib.bitLen (zU n)+1:Nat):Int)) ?_;refine(Dv ((kR n:Nat):Int)) (by exact(congrArg some (IG _ 2 rfl rfl ae))) ?_;refine A4 ?_;refine Ls (X:=Nat) (l':=[⟨_,_,_,_,_,_⟩,⟨_,_,_,_,_,_⟩,⟨_,_,_,_,_,_⟩,⟨_,_,_,_,_,_⟩,⟨_,_,_,_,_,_⟩]) (fun g=>[(0,.string (bQ n)),(4,.string (lL (Vo (kR n))))]) (fun g=>[⟨some g,5,[.int .u8 (2^(kR n%8):Nat)],1,true⟩]) [0,1,2,5,6] 5 mixed ak rfl ?_ ?_
  ·refine A1 ?_;refine(Dv ((kR n%8:Nat):Int)) (congrArg some (jg _ _ rfl rfl)) ?_;refine(Sv ((2^(kR n%8):Nat):Int)) (by exact(congrArg some (qjx _ rfl (Nat.mod_lt _ ae)))) ?_;refine A1 ?_;refine(Dv ((kR n/8:Nat):Int)) (by exact(congrArg some (IG _ 8 rfl rfl ae))) ?_;refine A1 ?_
   repeat' first
    |exact⟨g0,rfl,⟨rfl,rfl,trivial⟩,List.Perm.refl _⟩
    |refine QK ?_
    |refine Ak (l:=[2^(kR n%8)]) 0 WW u5 u9 rfl rfl rfl rfl rfl rfl rfl rfl ?_
    |refine dX [_,_] rfl rfl rfl (H5 (kR n/8)) ?_
    |refine qne (p:=[UInt8.ofNat (2^(kR n%8))]) (q:=List.replicate (kR n/8) 0) rfl rfl rfl rfl rfl rfl rfl (by rw[List.length_replicate];show 1+kR n/8<=_;omega) ?_
    |refine KE rfl rfl rfl ?_
    |refine(Bl 1 [(0,_)]) (qiu) (fun g0=>?_)
    |refine qel eX ?_
    |refine iZ [8] eX rfl ⟨⟨_,rfl,?_⟩,trivial⟩
    |refine iZ [9] eX rfl ⟨⟨_,rfl,?_⟩,trivial⟩
    |refine iZ [4] eX rfl ⟨⟨_,rfl,?_⟩,trivial⟩
    |refine iZ [3,7] eX rfl ⟨⟨_,rfl,?_⟩,⟨_,rfl,?_⟩,trivial⟩
    |refine iZ [4,7] eX rfl ⟨⟨_,rfl,?_⟩,⟨_,rfl,?_⟩,trivial⟩
    |refine iZ [7] eX rfl ⟨⟨_,rfl,?_⟩,trivial⟩
    |refine iZ [3] eX rfl ⟨⟨_,rfl,?_⟩,trivial⟩
  rintro g;show At _ ⟨50,[(0,.string (bQ n)),(4,.string (lL (Vo (kR n))))],[⟨some g,5,[.int .u8 (2^(kR n%8):Nat)],1,true⟩]⟩ _;refine A2 ?_;refine El (ι:={x:Nat // Vr n x}) (fun⟨x,hx⟩=>([(0,.string (bQ n)),(4,.string (bQ x))],[],x)) ⟨2^kR n,Vs h0⟩ ?_ (ht:=⟨rfl,(aQ rfl (congrArg Value.string (Z4 _))),trivial⟩) (hL:=(az [] trivial rfl rfl));rintro⟨x,hx⟩;(try dsimp only);have hx3:=hx.2.2;refine A5 ?_;refine Pc (rM n x ae ae (by have:=hx.1;omega)) ?_;refine qC ?_;refine Pc (xK x (n/x) ae (by have:=DZ n x;omega)) ?_;refine dX [_,.string (bQ 2)] rfl rfl (by rw[qjw];rfl) (rM (x+n/x) 2 (by have:=DZ n x;have:=Ac x (n/x);omega) (by have:=nP (n:=2) (k:=1) ax;omega) ax) ?_;refine nI ?_;refine Pc (lX _ _) ?_;refine A3 ?_;refine Cd ?_ ?_<;>intro hbQ
  ·have hge:¬(x+n/x)/2<x:=kQ.1 (of_decide_eq_true hbQ)|>Nat.not_lt.2;refine qC ?_;refine E0 ?_;rw[qcd hx hge]
  ·have hlt:(x+n/x)/2<x:=Nat.lt_of_not_le fun e=>of_decide_eq_false hbQ (kQ.2 e)
   refine A8 ?_;exact Nl ⟨(x+n/x)/2,XK h0 hx hlt⟩ (hμ:=hlt)
end Go.Proofs.YtaffcpfhedadhaaGreatDoor
