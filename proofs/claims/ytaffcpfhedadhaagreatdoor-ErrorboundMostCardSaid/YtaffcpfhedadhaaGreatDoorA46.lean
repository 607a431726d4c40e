/-
  Part 46 (chapter 32): lemmas, walks. Each theorem states its own conditions.
-/
import Derived.Shelf.SlSortCmp.WholeK
import Derived.Shelf.SlSortCmp.NoneTotal
import Derived.Lib.Repeat
import Derived.Sort.Grow
import Derived.Sort.EncStr
import Derived.Lib.SliceRun
import Derived.Test.YtaffcpfhedadhaaGreatDoorA38
import Derived.Test.YtaffcpfhedadhaaGreatDoorA42
import Derived.Test.YtaffcpfhedadhaaGreatDoorA43
import Derived.Test.YtaffcpfhedadhaaGreatDoorA45
set_option linter.all false
set_option maxRecDepth 20000
set_option maxHeartbeats 20000000
section
variable{P Q:Prop}{T:Type}{R:T->Prop}
def qat(q:Q)(h:bu Q->P:=by intro q_;refine aG 7 20 [_,_,_,_,_,_,_,_,_] rfl rfl rfl rfl dZ rfl rfl rfl rfl ?_;refine aF 125 (RV p.a) rfl rfl ?_;refine A1 ?_;refine y9 ?_;refine aF 127 (RV (fO ((aj A B).map aC))) rfl rfl ?_;refine jO ?_;refine A1 ?_;exact q_.qq):=h ⟨q⟩
def qlN(h:P:=by refine Dp [] [0,1,3,2,4,5,6] ?_;refine A1 ?_;refine L4 2 0 ?_;refine L4 3 0 ?_;refine(Sc [0]) (iC ta xa ya hta hxa hya a ab pa aN ac hac ha6 has) (fun z=>?_);obtain⟨ub,uN,uc,huc⟩:=z;refine(Sc [4]) (iC ta xa ya hta hxa hya a nb [] nN nc ae ha6 has) (fun z=>?_);obtain⟨vb,vN,vc,hvc⟩:=z;refine A5 ?_;refine bM rfl (au rfl) (au rfl) (fun w hL=>⟨(⟨ub,uN,uc,huc⟩,⟨vb,vN,vc,by rw[hW];exact hvc⟩),?_,hL.picks [some 5,some 6] ⟨pR,⟨_,rfl,bn Ye⟩,trivial⟩ rfl rfl⟩);show Ending.returned (.tuple #[ay ub 0 _ uc,ay vb 0 _ vc])=Ending.returned (.tuple #[ay ub 0 _ uc,ay vb 0 (ul ta xa ya a tb xb yb b ch).length vc]);rw[hW]):=h
def Sz(q:Q)(h:bu Q->P:=by intro q_;refine aG (v:= .int .u8 s.y) 4 ((k)*4+2) _ rfl rfl rfl rfl ti5 (lW.sub hx 2 1 ax) rfl ax rfl ?_;refine A1 ?_;refine Nt 14 ?_;refine(Aq (((s.y+1)%256:Nat):Int)) (congrArg some (qgU _ _ rfl rfl)) ?_;refine A1 ?_;exact q_.qq):=h ⟨q⟩
def y9(q:Q)(h:bu Q->P:=by intro q_;refine aG 5 1 [_,_,_,_,_,_,_,_,_] rfl rfl rfl rfl dZ rfl rfl rfl rfl ?_;exact q_.qq):=h ⟨q⟩
def NG(h:P:=by exact(congrArg some (qr4 _ _ fK rfl rfl))):=h
def Ye(h:P:=by rw[show ai aB (ul ta xa ya a tb xb yb b ch)=_ from congrArg _ hW]):=h
def SA(h:P:=by rw[ZO hw0]):=h
def BH(h:P:=by rw[gz hp,<-hI1];exact hst.trans qp4.symm):=h
def BI(h:P:=by show((aj A B).map aC).length-(k+1)<((aj A B).map aC).length-k;omega):=h
end
namespace Go.Proofs.YtaffcpfhedadhaaGreatDoor
open Go Go.RowKit Go.Via
def NH(ta xa ya tb xb yb ch:Nat)(hta:ta<256)(hxa:xa<256)(hya:ya<256)(htb:tb<256)(hxb:xb<256)(hyb:yb<256)(hch:ch<256)(a:List sJ)(ab:Option Nat)(pa:List Value)(aN ac:Nat)(hac:a.length<=ac)(ha6:a.length<=6)(has:∀s∈a,okS s)(b:List sJ)(bb:Option Nat)(pb:List Value)(bN bc:Nat)(hbc:b.length<=bc)(hb6:b.length<=6)(hbs:∀s∈b,okS s):bZ Tryz.prog 13 [⟨ab,86,pa++ai kF a,aN,false⟩,⟨bb,86,pb++ai kF b,bN,false⟩] [.agg #[.int .u8 (ta:Nat),.int .u8 (xa:Nat),.int .u8 (ya:Nat),ay ab pa.length a.length ac,.int .u8 (tb:Nat),.int .u8 (xb:Nat),.int .u8 (yb:Nat),ay bb pb.length b.length bc,.int .u8 (ch:Nat)]] (SR (jF ta xa ya a).length×SR (ul ta xa ya a tb xb yb b ch).length) (fun z=> .tuple #[z.1.v,z.2.v]) (fun z=>[⟨z.1.b,100,ai aB (jF ta xa ya a),z.1.n,true⟩,⟨z.2.b,100,ai aB (ul ta xa ya a tb xb yb b ch),z.2.n,true⟩]):=by
 refine O3 65 Tryz.func13 fun w hL0=>?_;refine A2 ?_;refine Bp 9 (fun g0=>?_);refine A7 ?_;refine L4 2 4 ?_;refine Al 4 z24 (fun g1=>?_);refine Ss 3 ?_;refine A7 ?_;refine(Dv ((ch%4:Nat):Int)) (congrArg some (kz _ _ rfl rfl)) ?_;refine A3 ?_;refine Cd ?_ ?_<;>intro haQ
 ·have hch:0<ch%4:=by have e:=of_decide_eq_true haQ;omega
  refine A3 ?_;refine L4 2 0 ?_;refine Ss 3 ?_;refine A3 ?_;refine rq 0 rfl (fun hba=>?_);have hab:=qcc lW ax pa hba;refine A1 ?_;refine(Bl 0 []) (qmr) (fun g2=>?_);refine A3 ?_;refine iK (s:=4) (len:=0) 4 0 (ai kF a) (fun r=>[_,_,_,_,⟨r.b,86,ai kF a,r.n,true⟩]) u22 qq1 rfl rfl rfl rfl rfl rfl rfl rfl rfl rfl rfl (Nat.le_refl _) (Nat.le_refl _) hab (by rw[List.drop_left];exact List.take_of_length_le (by rw[lW.length];exact Nat.le_refl _)) (lW.length a) (lW.ones _) ae (fun _=>rfl) (fun r=>?_);obtain⟨nb,nN,nc,hnc,hnN⟩:=r;refine aF 19 (ay nb 0 a.length nc) rfl (congrArg (fun z=>ay nb 0 z nc) (Nat.zero_add _)) ?_;refine A1 ?_;refine Ss 3 ?_;refine D7 ?_;refine Rs 26 ?_ ?_<;>intro hbQ
  ·have hl0:0<a.length:=by have e:=of_decide_eq_true hbQ;omega
   refine A2 ?_;refine(Dv ((ch%4:Nat):Int)) (congrArg some (kz _ _ rfl rfl)) ?_;refine A4 ?_;refine Cd ?_ ?_<;>intro hcQ
   ·have hc1:1<ch%4:=XY
    obtain⟨k,hk⟩:∃k,k=ch/4%a.length:=⟨_,rfl⟩;have hkl:k<a.length:=hk▸Nat.mod_lt _ hl0;obtain⟨s,hx⟩:∃s,a[k]? =some s:=⟨a[k],List.getElem?_eq_getElem hkl⟩;obtain⟨hs1,hs2,hs3,hs4⟩:=has s (List.mem_of_getElem? hx);have hcA:=qj9 hl0 hc1 hk hx;have hW:ul ta xa ya a tb xb yb b ch=jF ta xa ya ((a.set k ⟨s.time,(s.x+ch/16)%256,s.y,s.kind⟩).set k (Gu ch s)):=(NE hch).trans (by rw[hcA]);have hAo:∀v∈((a.set k ⟨s.time,(s.x+ch/16)%256,s.y,s.kind⟩).set k (Gu ch s)),okS v:=fun v hv=>qn2 has v (by rw[hcA];exact hv)
    have hAl:((a.set k ⟨s.time,(s.x+ch/16)%256,s.y,s.kind⟩).set k (Gu ch s)).length=a.length:=X5;refine A1 ?_;refine dL 4 rfl (lW.ne ax hl0) (fun hbs=>?_);obtain⟨gn,hgn⟩:=Option.isSome_iff_exists.1 hbs;replace hgn:nb=some gn:=hgn;subst hgn;refine Di [] ?_;refine A4 ?_;refine(Dv ((ch/4:Nat):Int)) NG ?_;refine(Cv ((ch/4:Nat):Int) u5 u3) (by exact(wi ae ae rfl)) ?_;refine A1 ?_;refine(Dv (k:Int)) (congrArg some ((kz _ _ rfl rfl).trans (congrArg Nat.cast hk.symm))) ?_;refine aI 4 ((k)*4) u22 qmk rfl rfl rfl rfl rfl ae ae (lW.ne ax ae) (by show 0+Int.toNat _*4=_;omega) ?_;refine A3 ?_;let sX:List (Nat×Value)->List (Nat×Value):=fun l=>(1,dJ g0)::(4,dJ g1)::l;let sY:List aJ->List aJ:=fun l=>⟨ab,86,pa++ai kF a,aN,false⟩::⟨bb,86,pb++ai kF b,bN,false⟩::⟨some g0,26,[.int .u8 (ta:Nat),.int .u8 (xa:Nat),.int .u8 (ya:Nat),ay ab pa.length a.length ac,.int .u8 (tb:Nat),.int .u8 (xb:Nat),.int .u8 (yb:Nat),ay bb pb.length b.length bc,.int .u8 (ch:Nat)],9,true⟩::⟨some g1,24,[.int .u8 (ta:Nat),.int .u8 (xa:Nat),.int .u8 (ya:Nat),ay (some gn) 0 a.length nc],4,true⟩::l;refine xY (nt:=65) (Z:=Unit) (fun _=>sX []) (fun _=>sY [⟨some gn,86,ai kF ((a.set k ⟨s.time,(s.x+ch/16)%256,s.y,s.kind⟩).set k (Gu ch s)),nN,true⟩]) 21 [0,1,2,3,4,5,6,7,8,9,10,11,12,13,14,15,16,17,18,19,20] mixed ak (fun hd0=>?_) ?_
    ·refine aS (nt:=65) (Z:=Unit) (fun _=>sX [(6,.pointer (some ⟨gn,k*4,none⟩)),(55,.int .u8 (((s.y+1)%256:Nat):Int)),(59,.pointer (some ⟨gn,k*4+2,none⟩))]) (fun _=>sY [⟨some gn,86,ai kF (a.set k ⟨s.time,(s.x+ch/16)%256,s.y,s.kind⟩),nN,true⟩]) 1 [20] (fun z=>?_) (fun hd1=>?_)
     ·(try dsimp only);refine Gx 20 ?_
      ·refine qY rfl 4 ((k)*4+2) [_,_,_,_,_] (ai kF ((a.set k ⟨s.time,(s.x+ch/16)%256,s.y,s.kind⟩).set k (Gu ch s))) rfl rfl rfl rfl ti5 rfl (by rw[Nat.ble_eq,lW.length];show k*4+2+1<=(a.set k ⟨s.time,(s.x+ch/16)%256,s.y,s.kind⟩).length*4;(try simp only[List.length_set]);omega) rfl (lW.setf (show(a.set k ⟨s.time,(s.x+ch/16)%256,s.y,s.kind⟩)[k]? =some ⟨s.time,(s.x+ch/16)%256,s.y,s.kind⟩ by rw[List.getElem?_set_self hkl]) rfl ax) rfl ?_;refine A1 ?_;exact Nw hd0 () [0,1,2,3,4]
     refine aS (nt:=65) (Z:=Unit) (fun _=>sX [(6,.pointer (some ⟨gn,k*4,none⟩)),(42,.pointer (some ⟨gn,k*4,none⟩)),(50,.int .u8 (((s.x+ch/16)%256:Nat):Int)),(55,.int .u8 (((s.y+1)%256:Nat):Int)),(57,.pointer (some ⟨gn,k*4+1,none⟩))]) (fun _=>sY [⟨some gn,86,ai kF a,nN,true⟩]) 4 [17,18,19,20] (fun z=>?_) (fun hd2=>?_)
     ·(try dsimp only);refine Gx 17 ?_
      ·refine qY rfl 4 ((k)*4+1) [_,_,_,_,_] (ai kF (a.set k ⟨s.time,(s.x+ch/16)%256,s.y,s.kind⟩)) rfl rfl rfl rfl ti5 rfl (by rw[Nat.ble_eq,lW.length];show k*4+1+1<=(a).length*4;(try simp only[List.length_set]);omega) rfl (lW.setf hx rfl ax) rfl ?_;refine A1 ?_;refine Nt 18 ?_;refine A2 ?_;refine Nt 19 ?_;refine Fg ((k)*4) 2 ?_;refine A1 ?_;exact Nw hd1 () [0,1,2,3,4]
     refine aS (nt:=65) (Z:=Unit) (fun _=>sX [(6,.pointer (some ⟨gn,k*4,none⟩)),(41,.pointer (some ⟨gn,k*4,none⟩)),(42,.pointer (some ⟨gn,k*4,none⟩)),(45,.pointer (some ⟨gn,k*4+1,none⟩)),(49,.int .u8 ((ch/16:Nat):Int)),(55,.int .u8 (((s.y+1)%256:Nat):Int))]) (fun _=>sY [⟨some gn,86,ai kF a,nN,true⟩]) 8 [5,9,15,16,17,18,19,20] (fun z=>?_) (fun hd3=>?_)
     ·(try dsimp only);refine Gx 5 ?_
      ·refine aG (v:= .int .u8 s.x) 4 ((k)*4+1) _ rfl rfl rfl rfl ti5 (lW.sub hx 1 1 ax) rfl ax rfl ?_;refine A1 ?_;refine Nt 9 ?_;refine(Aq (((s.x+ch/16)%256:Nat):Int)) (congrArg some (qgU _ _ rfl rfl)) ?_;refine A1 ?_;refine Nt 15 ?_;refine A2 ?_;refine Nt 16 ?_;refine Fg ((k)*4) 1 ?_;refine A1 ?_;exact Nw hd2 () [0,1,2,3,4]
     refine aS (nt:=65) (Z:=Unit) (fun _=>sX [(6,.pointer (some ⟨gn,k*4,none⟩)),(41,.pointer (some ⟨gn,k*4,none⟩)),(42,.pointer (some ⟨gn,k*4,none⟩)),(50,.int .u8 (((s.x+ch/16)%256:Nat):Int)),(53,.pointer (some ⟨gn,k*4+2,none⟩))]) (fun _=>sY [⟨some gn,86,ai kF a,nN,true⟩]) 8 [13,14,15,16,17,18,19,20] (fun z=>?_) (fun hd4=>?_)
     ·(try dsimp only);refine Gx 13 ?_
      ·refine Sz ?_;refine Nt 15 ?_;refine A2 ?_;refine Nt 16 ?_;refine Fg ((k)*4) 1 ?_;refine A1 ?_;exact Nw hd2 () [0,1,2,3,4]
     refine aS (nt:=65) (Z:=Unit) (fun _=>sX [(6,.pointer (some ⟨gn,k*4,none⟩)),(41,.pointer (some ⟨gn,k*4,none⟩)),(42,.pointer (some ⟨gn,k*4,none⟩)),(46,.int .u8 ((s.x:Nat):Int)),(47,.pointer (some ⟨g0,8,none⟩)),(55,.int .u8 (((s.y+1)%256:Nat):Int))]) (fun _=>sY [⟨some gn,86,ai kF a,nN,true⟩]) 9 [7,8,9,15,16,17,18,19,20] (fun z=>?_) (fun hd5=>?_)
     ·(try dsimp only);refine Gx 7 ?_
      ·refine A2 ?_;refine Nt 8 ?_;refine(Dv ((ch/16:Nat):Int)) NG ?_;refine A1 ?_;refine Nt 9 ?_;refine(Aq (((s.x+ch/16)%256:Nat):Int)) (congrArg some (qgU _ _ rfl rfl)) ?_;refine A1 ?_;refine Nt 15 ?_;refine A2 ?_;refine Nt 16 ?_;refine Fg ((k)*4) 1 ?_;refine A1 ?_;exact Nw hd2 () [0,1,2,3,4]
     refine aS (nt:=65) (Z:=Unit) (fun _=>sX [(6,.pointer (some ⟨gn,k*4,none⟩)),(41,.pointer (some ⟨gn,k*4,none⟩)),(42,.pointer (some ⟨gn,k*4,none⟩)),(45,.pointer (some ⟨gn,k*4+1,none⟩)),(47,.pointer (some ⟨g0,8,none⟩)),(55,.int .u8 (((s.y+1)%256:Nat):Int))]) (fun _=>sY [⟨some gn,86,ai kF a,nN,true⟩]) 10 [5,7,8,9,15,16,17,18,19,20] (fun z=>?_) (fun hd6=>?_)
     ·(try dsimp only);refine aV [5,7] ak rfl ⟨⟨_,rfl,?_⟩,⟨_,rfl,?_⟩,trivial⟩
      ·refine aG (v:= .int .u8 s.x) 4 ((k)*4+1) _ rfl rfl rfl rfl ti5 (lW.sub hx 1 1 ax) rfl ax rfl ?_;refine A1 ?_;exact Nw hd5 () [0,1,2,3,4]
      ·refine A2 ?_;refine Nt 8 ?_;refine(Dv ((ch/16:Nat):Int)) NG ?_;refine A1 ?_;exact Nw hd3 () [0,1,2,3,4]
     refine aS (nt:=65) (Z:=Unit) (fun _=>sX [(6,.pointer (some ⟨gn,k*4,none⟩)),(41,.pointer (some ⟨gn,k*4,none⟩)),(42,.pointer (some ⟨gn,k*4,none⟩)),(45,.pointer (some ⟨gn,k*4+1,none⟩)),(49,.int .u8 ((ch/16:Nat):Int)),(53,.pointer (some ⟨gn,k*4+2,none⟩))]) (fun _=>sY [⟨some gn,86,ai kF a,nN,true⟩]) 10 [5,9,13,14,15,16,17,18,19,20] (fun z=>?_) (fun hd7=>?_)
     ·(try dsimp only);refine aV [5,13] ak rfl ⟨⟨_,rfl,?_⟩,⟨_,rfl,?_⟩,trivial⟩
      ·refine aG (v:= .int .u8 s.x) 4 ((k)*4+1) _ rfl rfl rfl rfl ti5 (lW.sub hx 1 1 ax) rfl ax rfl ?_;refine A1 ?_;refine Nt 9 ?_;refine(Aq (((s.x+ch/16)%256:Nat):Int)) (congrArg some (qgU _ _ rfl rfl)) ?_;refine A1 ?_;exact Nw hd4 () [0,1,2,3,4]
      ·refine Sz ?_;exact Nw hd3 () [0,1,2,3,4]
     refine aS (nt:=65) (Z:=Unit) (fun _=>sX [(6,.pointer (some ⟨gn,k*4,none⟩)),(41,.pointer (some ⟨gn,k*4,none⟩)),(42,.pointer (some ⟨gn,k*4,none⟩)),(46,.int .u8 ((s.x:Nat):Int)),(47,.pointer (some ⟨g0,8,none⟩)),(53,.pointer (some ⟨gn,k*4+2,none⟩))]) (fun _=>sY [⟨some gn,86,ai kF a,nN,true⟩]) 11 [7,8,9,13,14,15,16,17,18,19,20] (fun z=>?_) (fun hd8=>?_)
     ·(try dsimp only);refine aV [7,13] ak rfl ⟨⟨_,rfl,?_⟩,⟨_,rfl,?_⟩,trivial⟩
      ·refine A2 ?_;refine Nt 8 ?_;refine(Dv ((ch/16:Nat):Int)) NG ?_;refine A1 ?_;refine Nt 9 ?_;refine(Aq (((s.x+ch/16)%256:Nat):Int)) (congrArg some (qgU _ _ rfl rfl)) ?_;refine A1 ?_;exact Nw hd4 () [0,1,2,3,4]
      ·refine Sz ?_;exact Nw hd5 () [0,1,2,3,4]
     refine Nt 0 ?_;refine A2 ?_;refine Nt 1 ?_;refine A2 ?_;refine Nt 2 ?_;refine A2 ?_;refine Nt 3 ?_;refine A2 ?_;refine Nt 4 ?_;refine Fg ((k)*4) 1 ?_;refine A1 ?_;refine Nt 6 ?_;refine Fg 0 8 ?_;refine A1 ?_;refine Nt 10 ?_;refine A2 ?_;refine Nt 11 ?_;refine A2 ?_;refine Nt 12 ?_;refine Fg ((k)*4) 2 ?_;refine A1 ?_;refine aV [5,7,13] ak rfl ⟨⟨_,rfl,?_⟩,⟨_,rfl,?_⟩,⟨_,rfl,?_⟩,trivial⟩
     ·refine aG (v:= .int .u8 s.x) 4 ((k)*4+1) _ rfl rfl rfl rfl ti5 (lW.sub hx 1 1 ax) rfl ax rfl ?_;refine A1 ?_;exact Nw hd8 () [0,1,2,3,4]
     ·refine A2 ?_;refine Nt 8 ?_;refine(Dv ((ch/16:Nat):Int)) NG ?_;refine A1 ?_;exact Nw hd7 () [0,1,2,3,4]
     ·refine Sz ?_;exact Nw hd6 () [0,1,2,3,4]
    intro _;show At _ ⟨65,[(1,dJ g0),(4,dJ g1)],[⟨ab,86,pa++ai kF a,aN,false⟩,⟨bb,86,pb++ai kF b,bN,false⟩,⟨some g0,26,[.int .u8 (ta:Nat),.int .u8 (xa:Nat),.int .u8 (ya:Nat),ay ab pa.length a.length ac,.int .u8 (tb:Nat),.int .u8 (xb:Nat),.int .u8 (yb:Nat),ay bb pb.length b.length bc,.int .u8 (ch:Nat)],9,true⟩,⟨some g1,24,[.int .u8 (ta:Nat),.int .u8 (xa:Nat),.int .u8 (ya:Nat),ay (some gn) 0 a.length nc],4,true⟩,⟨some gn,86,ai kF ((a.set k ⟨s.time,(s.x+ch/16)%256,s.y,s.kind⟩).set k (Gu ch s)),nN,true⟩]⟩ _;refine A2 ?_;refine Dp [] [0,1,3,2,4,5,6] ?_;refine A1 ?_;refine L4 2 0 ?_;refine L4 3 0 ?_;refine(Sc [0]) (iC ta xa ya hta hxa hya a ab pa aN ac hac ha6 has) (fun z=>?_);obtain⟨ub,uN,uc,huc⟩:=z;refine fQ [_] [4] rfl rfl (by show _=[some _];rw[hAl];rfl) (iC ta xa ya hta hxa hya ((a.set k ⟨s.time,(s.x+ch/16)%256,s.y,s.kind⟩).set k (Gu ch s)) (some gn) [] nN nc (by rw[hAl];omega) (by rw[hAl];exact ha6) hAo) ⟨pS,trivial⟩ rfl (.inr fun x b hb=>sZ) (fun z=>?_);obtain⟨vb,vN,vc,hvc⟩:=z;refine A5 ?_;refine bM rfl (au rfl) (au rfl) (fun w hL=>⟨(⟨ub,uN,uc,huc⟩,⟨vb,vN,vc,by rw[hW];exact hvc⟩),?_,hL.picks [some 5,some 6] ⟨pR,⟨_,rfl,bn Ye⟩,trivial⟩ rfl rfl⟩);show Ending.returned (.tuple #[ay ub 0 _ uc,ay vb 0 _ vc])=Ending.returned (.tuple #[ay ub 0 _ uc,ay vb 0 (ul ta xa ya a tb xb yb b ch).length vc]);rw[hW]
   ·have hc1:¬1<ch%4:=XZ
    have hW:ul ta xa ya a tb xb yb b ch=jF ta xa ya a:=(NE hch).trans (by rw[qgV (fun e=>hc1 e.2)]);refine A3 ?_;exact qlN
  ·have hl0:¬0<a.length:=by have e:=of_decide_eq_false hbQ;omega
   have hW:ul ta xa ya a tb xb yb b ch=jF ta xa ya a:=(NE hch).trans (by rw[qgV (fun e=>hl0 e.1)]);refine oJ ?_;exact qlN
 ·have hch:¬0<ch%4:=XP
  have hW:ul ta xa ya a tb xb yb b ch=jF tb xb yb b:=qka hch;refine A3 ?_;refine Dp [] [0,1,3,2,4,5,6] ?_;refine A1 ?_;refine L4 2 0 ?_;refine L4 3 0 ?_;refine(Sc [0]) (iC ta xa ya hta hxa hya a ab pa aN ac hac ha6 has) (fun z=>?_);obtain⟨ub,uN,uc,huc⟩:=z;refine(Sc [1]) (iC tb xb yb htb hxb hyb b bb pb bN bc hbc hb6 hbs) (fun z=>?_);obtain⟨vb,vN,vc,hvc⟩:=z;refine A5 ?_;refine bM rfl (au rfl) (au rfl) (fun w hL=>⟨(⟨ub,uN,uc,huc⟩,⟨vb,vN,vc,by rw[hW];exact hvc⟩),?_,hL.picks [some 4,some 5] ⟨pR,⟨_,rfl,bn Ye⟩,trivial⟩ rfl rfl⟩);show Ending.returned (.tuple #[ay ub 0 _ uc,ay vb 0 _ vc])=Ending.returned (.tuple #[ay ub 0 _ uc,ay vb 0 (ul ta xa ya a tb xb yb b ch).length vc]);rw[hW]
end Go.Proofs.YtaffcpfhedadhaaGreatDoor
namespace Go.Proofs.YtaffcpfhedadhaaGreatDoor
open Go Go.RowKit Go.Via
def qg5{ta xa ya tb xb yb ch:Nat}{a b:List sJ}{A B:List PU}(hA:jF ta xa ya a=A)(hB:ul ta xa ya a tb xb yb b ch=B)(hta:ta<256)(hxa:xa<256)(hya:ya<256)(htb:tb<256)(hxb:xb<256)(hyb:yb<256)(hch:ch<256)
 {ab:Option Nat}{pa:List Value}(aN ac:Nat)(hac:a.length<=ac)(ha6:a.length<=6)(has:∀s∈a,okS s){bb:Option Nat}{pb:List Value}(bN bc:Nat)(hbc:b.length<=bc)(hb6:b.length<=6)(hbs:∀s∈b,okS s):
 bZ Tryz.prog 13 [⟨ab,86,pa++ai kF a,aN,false⟩,⟨bb,86,pb++ai kF b,bN,false⟩] [.agg #[.int .u8 (ta:Nat),.int .u8 (xa:Nat),.int .u8 (ya:Nat),ay ab pa.length a.length ac,.int .u8 (tb:Nat),.int .u8 (xb:Nat),.int .u8 (yb:Nat),ay bb pb.length b.length bc,.int .u8 (ch:Nat)]] (SR A.length×SR B.length) (fun z=> .tuple #[z.1.v,z.2.v]) (fun z=>[⟨z.1.b,100,ai aB A,z.1.n,true⟩,⟨z.2.b,100,ai aB B,z.2.n,true⟩]):=by
 subst hA;subst hB;exact NH ta xa ya tb xb yb ch hta hxa hya htb hxb hyb hch a ab pa aN ac hac ha6 has b bb pb bN bc hbc hb6 hbs
section
variable{A B:List PU}
end
end Go.Proofs.YtaffcpfhedadhaaGreatDoor
namespace Go.Proofs.YtaffcpfhedadhaaGreatDoor
open Go Go.RowKit Go.Via
def Ie(ta xa ya tb xb yb ch:Nat)(hta:ta<256)(hxa:xa<256)(hya:ya<256)(htb:tb<256)(hxb:xb<256)(hyb:yb<256)(hch:ch<256)(a:List sJ)(ab:Option Nat)(pa:List Value)(aN ac:Nat)(hac:a.length<=ac)(has:∀s∈a,okS s)(b:List sJ)(bb:Option Nat)(pb:List Value)(bN bc:Nat)(hbc:b.length<=bc)(hbs:∀s∈b,okS s):bZ Tryz.prog 8 [⟨ab,86,pa++ai kF a,aN,false⟩,⟨bb,86,pb++ai kF b,bN,false⟩] [.agg #[.int .u8 (ta:Nat),.int .u8 (xa:Nat),.int .u8 (ya:Nat),ay ab pa.length a.length ac,.int .u8 (tb:Nat),.int .u8 (xb:Nat),.int .u8 (yb:Nat),ay bb pb.length b.length bc,.int .u8 (ch:Nat)]] Unit (fun _=> .bool true) (fun _=>[]):=by
 refine⟨ak,fun w hL0=>?_⟩;refine cB1 164 Tryz.func8 hL0 ?_;refine A2 ?_;refine Bo [_,_,_,_,_,_,_,_,_] 9 (fun g=>[_,_,⟨some g,26,_,9,true⟩]) (fun g0=>?_);refine A6 ?_;refine Pc (DJ) ?_;refine A1 ?_;refine aF 16 (.bool false) rfl rfl ?_;refine A1 ?_;refine aG 2 0 [_,_,_,_,_,_,_,_,_] rfl rfl rfl rfl qoO rfl rfl rfl rfl ?_;refine Pc (Oc ta xa ya tb xb yb ch a b ab bb pa pb ac bc) ?_;refine A4 ?_;refine gQ rfl (fun hb0=>?_) (fun hb0=>?_)
 ·
  refine A2 ?_;refine Pc (DJ) ?_;refine A5 ?_;refine aK rfl (au rfl) (fun w hL=>⟨(),?_,hL.pk []⟩);exact rfl
 ·
  have hf6:=hb0
  obtain⟨ha6,hb6⟩:a.length<=6∧b.length<=6:=by simpa using hf6
  obtain⟨A,hA⟩:∃A,jF ta xa ya a=A:=⟨_,rfl⟩
  obtain⟨B,hB⟩:∃B,ul ta xa ya a tb xb yb b ch=B:=⟨_,rfl⟩
  have F:Fl A B:=by rw[<-hA,<-hB];exact qn4 ha6 hb6
  have hn42:((aj A B).map aC).length<=42:=F.n;refine A4 ?_;refine aG 2 0 [_,_,_,_,_,_,_,_,_] rfl rfl rfl rfl qoO rfl rfl rfl rfl ?_;refine fQ [_] [0,1] rfl rfl rfl (qg5 hA hB hta hxa hya htb hxb hyb hch aN ac hac ha6 has bN bc hbc hb6 hbs) ⟨⟨_,rfl,aJ.le_refl _⟩,⟨_,rfl,aJ.le_refl _⟩,trivial⟩ rfl (.inr fun x b hb=>qkD) (fun z=>?_);obtain⟨⟨ub,uN,uc,huc⟩,⟨vb,vN,vc,hvc⟩⟩:=z;refine oJ ?_;refine gq [_,_] [3,4] rfl rfl rfl (Gn A ub uN uc huc (Nat.le_trans F.la ae) B vb vN vc hvc (Nat.le_trans F.lb ae) F.sa F.sb F.H.ea F.H.eb) ⟨⟨_,rfl,fM⟩,⟨_,rfl,fM⟩,trivial⟩ rfl ?_;refine A5 ?_;refine oQ [_,_,_,_,_,_,_,_,_] 9 (fun g=>[_,_,_,_,_,⟨some g,38,_,9,true⟩]) rfl rfl Jq rfl rfl (fun _=>rfl) (fun g1=>?_);refine oQ [_,_,_,_,_,_,_,_,_] 9 (fun g=>[_,_,_,_,_,_,⟨some g,38,_,9,true⟩]) rfl rfl Jq rfl rfl (fun _=>rfl) (fun g2=>?_);refine So 5 0 [_,_,_,_,_,⟨some g1,38,_,9,true⟩,_] [_,_,_,_,_,_,_,_,_] ?_;refine So 6 0 [_,_,_,_,_,_,⟨some g2,38,_,9,true⟩] [_,_,_,_,_,_,_,_,_] ?_;refine A8 ?_;refine fQ [_,_] [3,4] rfl rfl rfl (Oe A ub uN uc huc (Nat.le_trans F.la ae) B vb vN vc hvc (Nat.le_trans F.lb ae) F.sa F.sb F.H) ⟨⟨_,rfl,fM⟩,⟨_,rfl,fM⟩,trivial⟩ rfl (.inr fun x b hb=>sZ) (fun z=>?_);obtain⟨wb,wN,wc,hwc⟩:=z;refine oQ [_,_,_,_,_,_,_,_,_,_] 10 (fun g=>[_,_,_,_,_,_,_,_,⟨some g,40,_,10,true⟩]) rfl rfl z40 rfl rfl (fun _=>rfl) (fun g3=>?_);refine So 8 0 [_,_,_,_,_,_,_,_,⟨some g3,40,_,10,true⟩] [_,_,_,_,_,_,_,_,_,_] ?_;refine oJ ?_;refine gQ rfl (fun hb1=>?_) (fun hb1=>?_)
  ·
   have hw0:((aj A B).map aC).length=0:=Rw
   refine A4 ?_;refine aF 44 (.bool true) rfl (congrArg Value.bool (decide_eq_true SA)) ?_;refine A1 ?_;refine aG 5 0 [_,_,_,_,_,_,_,_,_] rfl rfl rfl rfl dZ rfl rfl rfl rfl ?_;refine aF 46 (RV (iO A B).1) rfl rfl ?_;refine Jl [] rfl rfl rfl (Qs) ?_;refine aF 47 (RV (rl 0)) rfl CJ.symm ?_;refine jO ?_;refine aF 48 (.bool true) rfl (congrArg Value.bool (decide_eq_true SA)) ?_;refine A2 ?_;refine aG 6 0 [_,_,_,_,_,_,_,_,_] rfl rfl rfl rfl dZ rfl rfl rfl rfl ?_;refine aF 51 (RV (iO A B).2.1) rfl rfl ?_;refine Jl [] rfl rfl rfl (Qs) ?_;refine aF 52 (RV (rl 0)) rfl CJ.symm ?_;refine jO ?_;refine aF 53 (.bool true) rfl (congrArg Value.bool (decide_eq_true SA)) ?_;refine A3 ?_;refine aF 56 (.bool false) rfl (congrArg Value.bool SA) ?_;refine A7 ?_;refine aK rfl (au rfl) (fun w hL=>⟨(),?_,hL.pk []⟩);exact rfl
  ·
   have hw1:((aj A B).map aC).length≠0:=Rx
   refine A4 ?_;refine Jl [] rfl rfl rfl (Qs) ?_;refine aF 59 (RV (rl 0)) rfl CJ.symm ?_;refine oQ [_,_,_,_,_,_,_,_,_] 9 (fun g=>[_,_,_,_,_,_,_,_,_,⟨some g,38,_,9,true⟩]) rfl rfl Jq rfl rfl (fun _=>rfl) (fun g4=>?_);refine So 9 0 [_,_,_,_,_,_,_,_,_,⟨some g4,38,_,9,true⟩] [_,_,_,_,_,_,_,_,_] ?_;refine oJ ?_;refine El (ι:={z:Nat×(Bool×Rl)×Bool // z.1<=((aj A B).map aC).length∧z.2.1=(((aj A B).map aC).take z.1).foldl (LP (fO ((aj A B).map aC))) (false,rl 0)∧z.2.2=(((aj A B).map aC).take z.1).foldl (Xe (fO ((aj A B).map aC)) (oC A B)) false}) (fun⟨⟨k,⟨sf,w⟩,tk⟩,hk,hI1,hI2⟩=>([(3,ay ub 0 A.length uc),(4,ay vb 0 B.length vc),(5,.pointer (some ⟨g1,0,none⟩)),(6,.pointer (some ⟨g2,0,none⟩)),(7,.bool (iO A B).2.2.1),(8,.int .i64 (iO A B).2.2.2),(9,.pointer (some ⟨g3,0,none⟩)),(10,.pointer (some ⟨g4,0,none⟩)),(11,.bool sf),(12,.bool tk),(13,.int .i64 (k:Nat))],[⟨ub,100,ai aB A,uN,true⟩,⟨vb,100,ai aB B,vN,true⟩,⟨some g1,38,je (iO A B).1,9,true⟩,⟨some g2,38,je (iO A B).2.1,9,true⟩,⟨wb,63,ai aQ ((aj A B).map aC),wN,true⟩,⟨some g3,40,iH (ay wb 0 ((aj A B).map aC).length wc) (fO ((aj A B).map aC)),10,true⟩,⟨some g4,38,je w,9,true⟩],((aj A B).map aC).length-k)) ⟨⟨0,(false,rl 0),false⟩,Nat.zero_le _,rfl,rfl⟩ ?_ (hL:=(aT [some 3,some 4,some 5,some 6,some 7,some 8,some 9]));rintro⟨⟨k,⟨sf,w⟩,tk⟩,hk,hI1,hI2⟩;(try dsimp only);replace hk:k<=((aj A B).map aC).length:=hk;replace hI1:(sf,w)=(((aj A B).map aC).take k).foldl (LP (fO ((aj A B).map aC))) (false,rl 0):=hI1;replace hI2:tk=(((aj A B).map aC).take k).foldl (Xe (fO ((aj A B).map aC)) (oC A B)) false:=hI2;refine lD ?_;refine gQ rfl (fun hb3=>?_) (fun hb3=>?_)
   ·
    have hlt:k<((aj A B).map aC).length:=(by have:=of_decide_eq_true hb3;omega)
    obtain⟨p,hp⟩:∃p,((aj A B).map aC)[k]? =some p:=⟨((aj A B).map aC)[k],List.getElem?_eq_getElem hlt⟩
    have hpm:=List.mem_of_getElem? hp;obtain⟨hz1,hz2,hz3⟩:=F.sz p hpm;refine dL 4 rfl (dS.ne ax ae) (fun hbs=>?_);obtain⟨gw,hgw⟩:=Option.isSome_iff_exists.1 hbs;replace hgw:wb=some gw:=hgw;subst hgw;refine A9 ?_;refine aI 4 ((k)*38) u32 Ag rfl rfl rfl rfl rfl ae ae (dS.ne ax ae) Bi ?_;refine aG (v:=Gy p) 4 ((k)*38) _ rfl rfl rfl rfl Ag (dS.sub hp 0 38 ax) rfl ax rfl ?_;refine aF 71 (Gy p) rfl rfl ?_;refine oQ [_,_,_,_,_,_,_,_,_,_,_,_,_,_,_,_,_,_,_,_,_,_,_,_,_,_,_,_,_,_,_,_,_,_,_,_,_,_] 38 (fun g=>[_,_,_,_,_,_,_,⟨some g,63,_,38,true⟩]) rfl rfl z63 rfl rfl (fun _=>rfl) (fun g5=>?_);refine So 7 0 [_,_,_,_,_,_,_,⟨some g5,63,_,38,true⟩] [_,_,_,_,_,_,_,_,_,_,_,_,_,_,_,_,_,_,_,_,_,_,_,_,_,_,_,_,_,_,_,_,_,_,_,_,_,_] ?_;refine A2 ?_;refine lZ (nt:=164) (X:={z:Bool×Rl // z=st1 (fO ((aj A B).map aC)) (sf,w) p}) (fun⟨⟨f2,w2⟩,h15⟩=>[(3,ay ub 0 A.length uc),(4,ay vb 0 B.length vc),(5,.pointer (some ⟨g1,0,none⟩)),(6,.pointer (some ⟨g2,0,none⟩)),(7,.bool (iO A B).2.2.1),(8,.int .i64 (iO A B).2.2.2),(9,.pointer (some ⟨g3,0,none⟩)),(10,.pointer (some ⟨g4,0,none⟩)),(11,.bool f2),(12,.bool tk),(13,.int .i64 (k:Nat)),(14,.pointer (some ⟨g5,0,none⟩))]) (fun⟨⟨f2,w2⟩,h15⟩=>[⟨ub,100,ai aB A,uN,true⟩,⟨vb,100,ai aB B,vN,true⟩,⟨some g1,38,je (iO A B).1,9,true⟩,⟨some g2,38,je (iO A B).2.1,9,true⟩,⟨some gw,63,ai aQ ((aj A B).map aC),wN,true⟩,⟨some g3,40,iH (ay (some gw) 0 ((aj A B).map aC).length wc) (fO ((aj A B).map aC)),10,true⟩,⟨some g4,38,je w2,9,true⟩,⟨some g5,63,aQ p,38,true⟩]) ?_ ?_
    ·
     refine A3 ?_;refine aG 7 20 [_,_,_,_,_,_,_,_,_] rfl rfl rfl rfl dZ rfl rfl rfl rfl ?_;refine aF 73 (RV p.a) rfl rfl ?_;refine A1 ?_;refine y9 ?_;refine aF 75 (RV (fO ((aj A B).map aC))) rfl rfl ?_;refine jO ?_;refine A1 ?_;refine fB 77 rfl (fun hb4=>?_) (fun hb4=>?_)
     ·
      have ha:p.a=(fO ((aj A B).map aC)):=of_decide_eq_true hb4;refine A5 ?_;refine gQ rfl (fun hb5=>?_) (fun hb5=>?_)
      ·
       have hs:sf=false:=by have e:=hb5;simpa using e
       refine A3 ?_;refine aG 7 0 [_,_,_,_,_,_,_,_,_] rfl rfl rfl rfl dZ rfl rfl rfl rfl ?_;refine aF 83 (RV p.i.f) rfl rfl ?_;refine So 6 0 [_,_,_,_,_,_,⟨some g4,38,_,9,true⟩,_] [_,_,_,_,_,_,_,_,_] ?_;refine A3 ?_;exact iZ ⟨(true,p.i.f),qp7 hs ha⟩ ⟨rfl,rfl,rfl,rfl,rfl,rfl,rfl,rfl,rfl,rfl,rfl,rfl,trivial⟩ (aT [some 0,some 1,some 2,some 3,some 4,some 5,some 6,some 7])
      ·
       have hs:sf=true:=by have e:=hb5;simpa using e
       refine A2 ?_;exact iZ ⟨(sf,w),qp5 hs⟩ ⟨rfl,rfl,rfl,rfl,rfl,rfl,rfl,rfl,rfl,rfl,rfl,rfl,trivial⟩ (aT [some 0,some 1,some 2,some 3,some 4,some 5,some 6,some 7])
     ·
      have ha:p.a≠(fO ((aj A B).map aC)):=of_decide_eq_false hb4;refine A8 ?_;exact iZ ⟨(sf,w),qp6 ha⟩ ⟨rfl,rfl,rfl,rfl,rfl,rfl,rfl,rfl,rfl,rfl,rfl,rfl,trivial⟩ (aT [some 0,some 1,some 2,some 3,some 4,some 5,some 6,some 7])
    rintro⟨⟨f2,w2⟩,h15⟩;show At _ ⟨164,[(3,ay ub 0 A.length uc),(4,ay vb 0 B.length vc),(5,.pointer (some ⟨g1,0,none⟩)),(6,.pointer (some ⟨g2,0,none⟩)),(7,.bool (iO A B).2.2.1),(8,.int .i64 (iO A B).2.2.2),(9,.pointer (some ⟨g3,0,none⟩)),(10,.pointer (some ⟨g4,0,none⟩)),(11,.bool f2),(12,.bool tk),(13,.int .i64 (k:Nat)),(14,.pointer (some ⟨g5,0,none⟩))],[⟨ub,100,ai aB A,uN,true⟩,⟨vb,100,ai aB B,vN,true⟩,⟨some g1,38,je (iO A B).1,9,true⟩,⟨some g2,38,je (iO A B).2.1,9,true⟩,⟨some gw,63,ai aQ ((aj A B).map aC),wN,true⟩,⟨some g3,40,iH (ay (some gw) 0 ((aj A B).map aC).length wc) (fO ((aj A B).map aC)),10,true⟩,⟨some g4,38,je w2,9,true⟩,⟨some g5,63,aQ p,38,true⟩]⟩ _;refine lZ (nt:=164) (X:={z:Bool×Rl // z=st2 (fO ((aj A B).map aC)) (st1 (fO ((aj A B).map aC)) (sf,w) p) p}) (fun⟨⟨f3,w3⟩,hst⟩=>[(3,ay ub 0 A.length uc),(4,ay vb 0 B.length vc),(5,.pointer (some ⟨g1,0,none⟩)),(6,.pointer (some ⟨g2,0,none⟩)),(7,.bool (iO A B).2.2.1),(8,.int .i64 (iO A B).2.2.2),(9,.pointer (some ⟨g3,0,none⟩)),(10,.pointer (some ⟨g4,0,none⟩)),(11,.bool f3),(12,.bool tk),(13,.int .i64 (k:Nat)),(14,.pointer (some ⟨g5,0,none⟩))]) (fun⟨⟨f3,w3⟩,hst⟩=>[⟨ub,100,ai aB A,uN,true⟩,⟨vb,100,ai aB B,vN,true⟩,⟨some g1,38,je (iO A B).1,9,true⟩,⟨some g2,38,je (iO A B).2.1,9,true⟩,⟨some gw,63,ai aQ ((aj A B).map aC),wN,true⟩,⟨some g3,40,iH (ay (some gw) 0 ((aj A B).map aC).length wc) (fO ((aj A B).map aC)),10,true⟩,⟨some g4,38,je w3,9,true⟩,⟨some g5,63,aQ p,38,true⟩]) ?_ ?_
    ·
     refine A3 ?_;refine aG 7 29 [_,_,_,_,_,_,_,_,_] rfl rfl rfl rfl dZ rfl rfl rfl rfl ?_;refine aF 85 (RV p.b) rfl rfl ?_;refine A1 ?_;refine y9 ?_;refine aF 87 (RV (fO ((aj A B).map aC))) rfl rfl ?_;refine jO ?_;refine A1 ?_;refine fB 89 rfl (fun hb5=>?_) (fun hb5=>?_)
     ·
      have hb:p.b=(fO ((aj A B).map aC)):=of_decide_eq_true hb5;refine A5 ?_;refine gQ rfl (fun hb6=>?_) (fun hb6=>?_)
      ·
       have hs2:f2=false:=by have e:=hb6;simpa using e
       refine A3 ?_;refine aG 7 9 [_,_,_,_,_,_,_,_,_] rfl rfl rfl rfl dZ rfl rfl rfl rfl ?_;refine aF 95 (RV p.i.t) rfl rfl ?_;refine So 6 0 [_,_,_,_,_,_,⟨some g4,38,_,9,true⟩,_] [_,_,_,_,_,_,_,_,_] ?_;refine A3 ?_;exact iZ ⟨(true,p.i.t),by rw[<-h15];exact qqa hs2 hb⟩ ⟨rfl,rfl,rfl,rfl,rfl,rfl,rfl,rfl,rfl,rfl,rfl,rfl,trivial⟩ (aT [some 0,some 1,some 2,some 3,some 4,some 5,some 6,some 7])
      ·
       have hs2:f2=true:=by have e:=hb6;simpa using e
       refine A2 ?_;exact iZ ⟨(f2,w2),by rw[<-h15];exact qp8 hs2⟩ ⟨rfl,rfl,rfl,rfl,rfl,rfl,rfl,rfl,rfl,rfl,rfl,rfl,trivial⟩ (aT [some 0,some 1,some 2,some 3,some 4,some 5,some 6,some 7])
     ·
      have hb:p.b≠(fO ((aj A B).map aC)):=of_decide_eq_false hb5;refine A8 ?_;exact iZ ⟨(f2,w2),by rw[<-h15];exact qp9 hb⟩ ⟨rfl,rfl,rfl,rfl,rfl,rfl,rfl,rfl,rfl,rfl,rfl,rfl,trivial⟩ (aT [some 0,some 1,some 2,some 3,some 4,some 5,some 6,some 7])
    rintro⟨⟨f3,w3⟩,hst⟩;show At _ ⟨164,[(3,ay ub 0 A.length uc),(4,ay vb 0 B.length vc),(5,.pointer (some ⟨g1,0,none⟩)),(6,.pointer (some ⟨g2,0,none⟩)),(7,.bool (iO A B).2.2.1),(8,.int .i64 (iO A B).2.2.2),(9,.pointer (some ⟨g3,0,none⟩)),(10,.pointer (some ⟨g4,0,none⟩)),(11,.bool f3),(12,.bool tk),(13,.int .i64 (k:Nat)),(14,.pointer (some ⟨g5,0,none⟩))],[⟨ub,100,ai aB A,uN,true⟩,⟨vb,100,ai aB B,vN,true⟩,⟨some g1,38,je (iO A B).1,9,true⟩,⟨some g2,38,je (iO A B).2.1,9,true⟩,⟨some gw,63,ai aQ ((aj A B).map aC),wN,true⟩,⟨some g3,40,iH (ay (some gw) 0 ((aj A B).map aC).length wc) (fO ((aj A B).map aC)),10,true⟩,⟨some g4,38,je w3,9,true⟩,⟨some g5,63,aQ p,38,true⟩]⟩ _;refine A3 ?_;refine fB 97 rfl (fun hb6=>?_) (fun hb6=>?_)
    ·
     have htk:tk=true:=hb6;refine A51 ?_;refine jl ?_;exact Nl ⟨⟨k+1,(f3,w3),true⟩,hlt,BH,by show true=_;rw[gz hp,<-hI2];unfold Xe;simp[htk]⟩ (hμ:=BI) (hL:=dR.auto)
    ·
     have htk:tk=false:=hb6;refine A1 ?_;refine aG 7 20 [_,_,_,_,_,_,_,_,_] rfl rfl rfl rfl dZ rfl rfl rfl rfl ?_;refine aF 99 (RV p.a) rfl rfl ?_;refine A1 ?_;refine y9 ?_;refine aF 101 (RV (fO ((aj A B).map aC))) rfl rfl ?_;refine jO ?_;refine A1 ?_;refine fB 103 rfl (fun hb7=>?_) (fun hb7=>?_)
     ·
      have h103:p.a=(fO ((aj A B).map aC)):=of_decide_eq_true hb7;refine A7 ?_;refine fB 110 rfl (fun hb8=>?_) (fun hb8=>?_)
      ·
       have h107:p.i.fo=false:=by have e:=hb8;simpa using e
       refine A38 ?_;refine jl ?_;exact Nl ⟨⟨k+1,(f3,w3),true⟩,hlt,BH,by show true=_;rw[gz hp,<-hI2];unfold Xe;simp[htk,h103,h107]⟩ (hμ:=BI) (hL:=dR.auto)
      ·
       have h107:p.i.fo=true:=by have e:=hb8;simpa using e
       refine A1 ?_;refine aG 7 29 [_,_,_,_,_,_,_,_,_] rfl rfl rfl rfl dZ rfl rfl rfl rfl ?_;refine aF 112 (RV p.b) rfl rfl ?_;refine A1 ?_;refine y9 ?_;refine aF 114 (RV (fO ((aj A B).map aC))) rfl rfl ?_;refine jO ?_;refine A1 ?_;refine fB 116 rfl (fun hb9=>?_) (fun hb9=>?_)
       ·
        have h116:p.b=(fO ((aj A B).map aC)):=of_decide_eq_true hb9;refine A7 ?_;refine fB 123 rfl (fun hb10=>?_) (fun hb10=>?_)
        ·
         have h120:p.i.tp=false:=by have e:=hb10;simpa using e
         refine A25 ?_;refine jl ?_;exact Nl ⟨⟨k+1,(f3,w3),true⟩,hlt,BH,by show true=_;rw[gz hp,<-hI2];unfold Xe;simp[htk,h103,h107,h116,h120]⟩ (hμ:=BI) (hL:=dR.auto)
        ·
         have h120:p.i.tp=true:=by have e:=hb10;simpa using e
         refine A1 ?_;refine qat ?_;refine fB 129 rfl (fun hb11=>?_) (fun hb11=>?_)
         ·
          refine A1 ?_;refine aG 7 29 [_,_,_,_,_,_,_,_,_] rfl rfl rfl rfl dZ rfl rfl rfl rfl ?_;refine aF 131 (RV p.b) rfl rfl ?_;refine A1 ?_;refine y9 ?_;refine aF 133 (RV (fO ((aj A B).map aC))) rfl rfl ?_;refine jO ?_;refine A2 ?_;refine fB 136 rfl (fun hb12=>?_) (fun hb12=>?_)
          ·
           refine A2 ?_;refine aG 7 0 [_,_,_,_,_,_,_,_,_,_,_,_,_,_,_,_,_,_,_,_,_,_,_,_,_,_,_,_,_,_,_,_,_,_,_,_,_,_] rfl rfl rfl rfl Ag rfl rfl rfl rfl ?_;refine aF 139 (Gy p) rfl rfl ?_;refine gq [_,_,_] [0,1] rfl rfl rfl (Ib A ub uN uc huc (Nat.le_trans F.la ae) B vb vN vc hvc (Nat.le_trans F.lb ae) F.sa F.sb F.H p (F.cS p hpm) (F.kp p hpm)) ⟨⟨_,rfl,fM⟩,⟨_,rfl,fM⟩,trivial⟩ rfl ?_;refine A8 ?_;refine jl ?_;exact Nl ⟨⟨k+1,(f3,w3),(oC A B p)⟩,hlt,BH,by show(oC A B p)=_;rw[gz hp,<-hI2];unfold Xe;simp[htk,h103,h107,h116,h120]⟩ (hμ:=BI) (hL:=dR.auto)
          ·exact absurd hb12 (by rw[decide_eq_true h116];decide)
         ·exact absurd hb11 (by rw[decide_eq_true h103];decide)
       ·
        have h116:p.b≠(fO ((aj A B).map aC)):=of_decide_eq_false hb9;refine A8 ?_;refine qat ?_;refine fB 129 rfl (fun hb10=>?_) (fun hb10=>?_)
        ·
         refine A1 ?_;refine aG 7 29 [_,_,_,_,_,_,_,_,_] rfl rfl rfl rfl dZ rfl rfl rfl rfl ?_;refine aF 131 (RV p.b) rfl rfl ?_;refine A1 ?_;refine y9 ?_;refine aF 133 (RV (fO ((aj A B).map aC))) rfl rfl ?_;refine jO ?_;refine A2 ?_;refine fB 136 rfl (fun hb11=>?_) (fun hb11=>?_)
         ·exact absurd hb11 (by rw[decide_eq_false h116];decide)
         ·
          refine nT ?_;refine jl ?_;exact Nl ⟨⟨k+1,(f3,w3),false⟩,hlt,BH,by show false=_;rw[gz hp,<-hI2];unfold Xe;simp[htk,h103,h107,h116]⟩ (hμ:=BI) (hL:=dR.auto)
        ·exact absurd hb10 (by rw[decide_eq_true h103];decide)
     ·
      have h103:p.a≠(fO ((aj A B).map aC)):=of_decide_eq_false hb7;refine A8 ?_;refine aG 7 29 [_,_,_,_,_,_,_,_,_] rfl rfl rfl rfl dZ rfl rfl rfl rfl ?_;refine aF 112 (RV p.b) rfl rfl ?_;refine A1 ?_;refine y9 ?_;refine aF 114 (RV (fO ((aj A B).map aC))) rfl rfl ?_;refine jO ?_;refine A1 ?_;refine fB 116 rfl (fun hb8=>?_) (fun hb8=>?_)
      ·
       have h116:p.b=(fO ((aj A B).map aC)):=of_decide_eq_true hb8;refine A7 ?_;refine fB 123 rfl (fun hb9=>?_) (fun hb9=>?_)
       ·
        have h120:p.i.tp=false:=by have e:=hb9;simpa using e
        refine A25 ?_;refine jl ?_;exact Nl ⟨⟨k+1,(f3,w3),true⟩,hlt,BH,by show true=_;rw[gz hp,<-hI2];unfold Xe;simp[htk,h103,h116,h120]⟩ (hμ:=BI) (hL:=dR.auto)
       ·
        have h120:p.i.tp=true:=by have e:=hb9;simpa using e
        refine A1 ?_;refine qat ?_;refine fB 129 rfl (fun hb10=>?_) (fun hb10=>?_)
        ·exact absurd hb10 (by rw[decide_eq_false h103];decide)
        ·
         refine A19 ?_;refine jl ?_;exact Nl ⟨⟨k+1,(f3,w3),false⟩,hlt,BH,by show false=_;rw[gz hp,<-hI2];unfold Xe;simp[htk,h103,h116,h120]⟩ (hμ:=BI) (hL:=dR.auto)
      ·
       have h116:p.b≠(fO ((aj A B).map aC)):=of_decide_eq_false hb8;refine A8 ?_;refine qat ?_;refine fB 129 rfl (fun hb9=>?_) (fun hb9=>?_)
       ·exact absurd hb9 (by rw[decide_eq_false h103];decide)
       ·
        refine A19 ?_;refine jl ?_;exact Nl ⟨⟨k+1,(f3,w3),false⟩,hlt,BH,by show false=_;rw[gz hp,<-hI2];unfold Xe;simp[htk,h103,h116]⟩ (hμ:=BI) (hL:=dR.auto)
   ·
    have hge:k=((aj A B).map aC).length:=qgI
    subst hge;rw[List.take_length] at hI1 hI2;have hsf:=F.found hw1 hI1;refine A9 ?_;refine aF 144 (.bool true) rfl (congrArg Value.bool (decide_eq_true (Fl.m4 hw1))) ?_;refine A2 ?_;refine aF 146 (.bool true) rfl (congrArg Value.bool hsf) ?_;refine A2 ?_;refine aG 2 0 [_,_,_,_,_,_,_,_,_] rfl rfl rfl rfl dZ rfl rfl rfl rfl ?_;refine aF 149 (RV (iO A B).1) rfl rfl ?_;refine A1 ?_;refine y9 ?_;refine aF 151 (RV (fO ((aj A B).map aC))) rfl rfl ?_;refine jO ?_;refine aF 152 (.bool true) rfl (congrArg Value.bool (decide_eq_true (F.m1 hw1))) ?_;refine A2 ?_;refine aG 3 0 [_,_,_,_,_,_,_,_,_] rfl rfl rfl rfl dZ rfl rfl rfl rfl ?_;refine aF 155 (RV (iO A B).2.1) rfl rfl ?_;refine aG 6 0 [_,_,_,_,_,_,_,_,_] rfl rfl rfl rfl dZ rfl rfl rfl rfl ?_;refine aF 156 (RV w) rfl rfl ?_;refine jO ?_;refine aF 157 (.bool true) rfl (congrArg Value.bool (decide_eq_true (F.m2 hw1 hI1))) ?_;refine A4 ?_;refine BN rfl u4 rfl rfl rfl ?_;refine aF 162 (.bool true) rfl (congrArg Value.bool (by rw[F.m3 hw1 hI2];exact beq_self_eq_true _)) ?_;refine A5 ?_;refine aK rfl (au rfl) (fun w hL=>⟨(),?_,hL.pk []⟩);exact rfl
end Go.Proofs.YtaffcpfhedadhaaGreatDoor
