/-
  Part 30 (chapter 32): lemmas, walks. Each theorem states its own conditions.
-/
import Derived.Lib.Repeat
import Derived.Test.YtaffcpfhedadhaaGreatDoorA20
import Derived.Test.YtaffcpfhedadhaaGreatDoorA23
set_option linter.all false
set_option maxRecDepth 20000
set_option maxHeartbeats 20000000
namespace Go.Proofs.YtaffcpfhedadhaaGreatDoor
open Go Go.RowKit Go.Via
def AZ(n:Nat)(hn:nb n<=33554432:=by omega):aP Tryz.prog 200 #[.string (bP n)] (.string (bP (bT n))):=by
 have hb8:=UN n;have hk8:=UO n;refine xI 50 Tryz.func200 fun w=>?_;refine nT ?_;refine Cd ?_ ?_<;>intro haQ
 ·have h0:n=0:=qbD haQ;refine A7 ?_;refine E0 ?_;subst h0;rw[show bT 0=0 from rfl,iW]
 ·have h0:n≠0:=WV haQ;have hp:=DX h0;refine A6 ?_;refine aF 12 (bG (nb n)) rfl FV ?_;refine Ar (((nb n-1:Nat):Int)) ?_;refine Ar (((8*(nb n-1):Nat):Int)) ?_;refine A1 ?_;refine Ac (b:=UInt8.ofNat (zK n)) (r:=((zK n:Nat):Int)) u9 rfl rfl rfl rfl ae (V8 n 0 hp) (Qy _) ?_;refine Pc (UU (zK n) (QS n)) ?_;refine Ar (((8*(nb n-1)+Lib.bitLen (zK n):Nat):Int)) ?_;refine A6 ?_;refine Ar (((8*(nb n-1)+Lib.bitLen (zK n)+1:Nat):Int)) ?_;refine(Dv ((kS n:Nat):Int)) (by exact(congrArg some (Ii _ 2 rfl rfl ae))) ?_;refine A4 ?_;refine KH (X:=Nat) (l':=[⟨_,_,_,_,_,_⟩,⟨_,_,_,_,_,_⟩,⟨_,_,_,_,_,_⟩,⟨_,_,_,_,_,_⟩,⟨_,_,_,_,_,_⟩]) (fun g=>[(0,.string (bP n)),(4,.string (lQ (UM (kS n))))]) (fun g=>[⟨some g,5,[.int .u8 (2^(kS n%8):Nat)],1,true⟩]) [0,1,2,5,6] 5 mixed ak rfl ?_ ?_
  ·refine A1 ?_;refine(Dv ((kS n%8:Nat):Int)) (congrArg some (kz _ _ rfl rfl)) ?_;refine(Sv ((2^(kS n%8):Nat):Int)) (by exact(congrArg some (qi1 _ rfl (Nat.mod_lt _ ae)))) ?_;refine A1 ?_;refine(Dv ((kS n/8:Nat):Int)) (by exact(congrArg some (Ii _ 8 rfl rfl ae))) ?_;refine A1 ?_
   repeat' first
    |exact⟨g0,rfl,⟨rfl,rfl,trivial⟩,List.Perm.refl _⟩
    |refine Qj ?_
    |refine Ad (l:=[2^(kS n%8)]) 0 V7 u5 u9 rfl rfl rfl rfl rfl rfl rfl rfl ?_
    |refine dY [_,_] rfl rfl rfl (G8 (kS n/8)) ?_
    |refine qmT (p:=[UInt8.ofNat (2^(kS n%8))]) (q:=List.replicate (kS n/8) 0) rfl rfl rfl rfl rfl rfl rfl (by rw[List.length_replicate];show 1+kS n/8<=_;omega) ?_
    |refine JU rfl rfl rfl ?_
    |refine(Bl 1 [(0,_)]) (qh1) (fun g0=>?_)
    |refine Qz eX ?_
    |refine jg [8] eX rfl ⟨⟨_,rfl,?_⟩,trivial⟩
    |refine jg [9] eX rfl ⟨⟨_,rfl,?_⟩,trivial⟩
    |refine jg [4] eX rfl ⟨⟨_,rfl,?_⟩,trivial⟩
    |refine jg [3,7] eX rfl ⟨⟨_,rfl,?_⟩,⟨_,rfl,?_⟩,trivial⟩
    |refine jg [4,7] eX rfl ⟨⟨_,rfl,?_⟩,⟨_,rfl,?_⟩,trivial⟩
    |refine jg [7] eX rfl ⟨⟨_,rfl,?_⟩,trivial⟩
    |refine jg [3] eX rfl ⟨⟨_,rfl,?_⟩,trivial⟩
  rintro g;show At _ ⟨50,[(0,.string (bP n)),(4,.string (lQ (UM (kS n))))],[⟨some g,5,[.int .u8 (2^(kS n%8):Nat)],1,true⟩]⟩ _;refine A2 ?_;refine El (ι:={x:Nat // UQ n x}) (fun⟨x,hx⟩=>([(0,.string (bP n)),(4,.string (bP x))],[],x)) ⟨2^kS n,UR h0⟩ ?_ (ht:=⟨rfl,(aU rfl (congrArg Value.string (Zn _))),trivial⟩) (hL:=(aA [] trivial rfl rfl));rintro⟨x,hx⟩;(try dsimp only);have hx3:=hx.2.2;refine A5 ?_;refine Pc (rC n x ae ae (by have:=hx.1;omega)) ?_;refine oJ ?_;refine Pc (wZ x (n/x) ae (by have:=DR n x;omega)) ?_;refine dY [_,.string (bP 2)] rfl rfl (by rw[qi0];rfl) (rC (x+n/x) 2 (by have:=DR n x;have:=zT x (n/x);omega) (by have:=nV (n:=2) (k:=1) ax;omega) ax) ?_;refine nT ?_;refine Pc (l9 _ _) ?_;refine A3 ?_;refine Cd ?_ ?_<;>intro hbQ
  ·have hge:¬(x+n/x)/2<x:=kR.1 (of_decide_eq_true hbQ)|>Nat.not_lt.2;refine oJ ?_;refine E0 ?_;rw[qbC hx hge]
  ·have hlt:(x+n/x)/2<x:=Nat.lt_of_not_le fun e=>of_decide_eq_false hbQ (kR.2 e)
   refine A8 ?_;exact Nl ⟨(x+n/x)/2,WU h0 hx hlt⟩ (hμ:=hlt)
end Go.Proofs.YtaffcpfhedadhaaGreatDoor
