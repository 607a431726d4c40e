/-
  Part 38 (chapter 32): lemmas, walks. Each theorem states its own conditions.
-/
import Derived.Lib.Repeat
import Derived.Lib.SliceRun
import Derived.Test.YtaffcpfhedadhaaGreatDoorA33
import Derived.Test.YtaffcpfhedadhaaGreatDoorA34
set_option linter.all false
set_option maxRecDepth 20000
set_option maxHeartbeats 20000000
section
variable{P Q:Prop}{T:Type}{R:T->Prop}
def tH(q:Q)(h:bu Q->P:=by intro q_;refine A2 ?_;refine Nt 12 ?_;refine Ub o.length u32 Ag rfl rfl rfl rfl (Nat.le_refl _) rfl rfl rfl ?_;refine A1 ?_;exact q_.qq):=h ⟨q⟩
def zC(q:∀x,R x)(h:bu (∀x,R x)->P:=by intro q_;refine lg [(0,_)] (fun g=>[_,_,_,_,⟨some g,61,_,20,true⟩]) rfl rfl rfl (jh) rfl (fun _=>rfl) (fun g2=>?_);exact q_.qq g2):=h ⟨q⟩
def zF(q:∀x,R x)(h:bu (∀x,R x)->P:=by intro q_;refine lg [(0,_)] (fun g=>[_,_,_,⟨some g,61,_,20,true⟩]) rfl rfl rfl (jh) rfl (fun _=>rfl) (fun g1=>?_);exact q_.qq g1):=h ⟨q⟩
def zG(q:Q)(h:bu Q->P:=by intro q_;refine A2 ?_;refine Nt 4 ?_;refine xM o.length u32 Ag rfl rfl rfl rfl ae ae rfl ?_;refine A1 ?_;exact q_.qq):=h ⟨q⟩
def qan(q:∀x,R x)(h:bu (∀x,R x)->P:=by intro q_;refine iK (s:=38) (len:=0) 6 4 (ai aQ o) (fun r=>[_,_,_,_,_,_,⟨r.b,63,ai aQ o,r.n,true⟩]) u32 V6 rfl rfl rfl rfl rfl rfl rfl rfl rfl rfl rfl (Nat.le_refl _) (Nat.le_refl _) hobs (List.take_of_length_le X8) (dS.length o) (dS.ones _) ae (fun _=>rfl) (fun r=>?_);exact q_.qq r):=h ⟨q⟩
def Gp(q:Q)(h:bu Q->P:=by intro q_;refine aG (v:=fV y.i) 1 ((j)*36) _ rfl rfl rfl rfl mr (aX.sub hy 0 20 ax) rfl ax rfl ?_;refine A1 ?_;exact q_.qq):=h ⟨q⟩
def Gq(q:Q)(h:bu Q->P:=by intro q_;refine aG (v:=fV x.i) 0 ((i)*36) _ rfl rfl rfl rfl mr (aX.sub hx 0 20 ax) rfl ax rfl ?_;refine A1 ?_;exact q_.qq):=h ⟨q⟩
def DF(q:Q)(h:bu Q->P:=by intro q_;refine aG 2 0 [_,_,_,_,_,_,_,_,_,_,_,_,_,_,_,_,_,_,_,_] rfl rfl rfl rfl mr rfl rfl rfl rfl ?_;refine A1 ?_;exact q_.qq):=h ⟨q⟩
def Ia(q:Q)(h:bu Q->P:=by intro q_;refine aI 1 ((j)*36) u29 EU rfl rfl rfl rfl rfl ae ae (aX.ne ax ae) oD ?_;exact q_.qq):=h ⟨q⟩
def X6(h:P:=by show 1<=1000;omega):=h
def X7(h:P:=by show b.length-(j+1)<b.length-j;omega):=h
def X8(h:P:=by show(ai aQ o).length<=_;rw[dS.length];exact Nat.le_refl _):=h
def qgI(h:P:=by have:=of_decide_eq_false hb3;omega):=h
end
namespace Go.Proofs.YtaffcpfhedadhaaGreatDoor
open Go Go.RowKit Go.Via
def qao(x y:PU)(ex:gV x.i.f∧gV x.i.t)(ey:gV y.i.f∧gV y.i.t)(hx:jH x.i<=50000)(hy:jH y.i<=50000)(g g' n n':Nat):bZ Tryz.prog 44 [⟨some g,61,aO x.i,n,false⟩,⟨some g',61,aO y.i,n',false⟩] [.int .i64 2,ay (some g) 0 1 1,ay (some g') 0 1 1] (SR (dB x.i y.i).toList.length) SR.v (fun z=>[⟨z.b,61,ai aO (dB x.i y.i).toList,z.n,true⟩]):=by
 have h:=zx 2 [x.i] (some g) n 1 (Nat.le_refl _) X6 [y.i] (some g') n' 1 (Nat.le_refl _) X6 (by simpa using hx) (by simpa using hy);rw[qbZ ex ey] at h;have e:∀i:Iv,ai aO [i]=aO i:=fun i=>by simp[ai]
 rw[e,e] at h;exact h
end Go.Proofs.YtaffcpfhedadhaaGreatDoor
namespace Go.Via
open Go
def NoR(a b:List PU)(p:Iv)(i:Nat):Prop:=∀z∈kE a b i,uU z.1 p=false
def NoC(a b:List PU)(p:Iv)(i:Nat)(x:PU)(j:Nat):Prop:=∀z∈kE a b i++yu x b j,uU z.1 p=false
def qrW{a b:List PU}{p:Iv}:NoR a b p 0:=fun z hz=>by simp[kE] at hz
def qrX{a b:List PU}{p:Iv}{i:Nat}{x:PU}(h:NoR a b p i):NoC a b p i x 0:=fun z hz=>by rw[Z4] at hz;exact h z hz
def qrY{a b:List PU}{p:Iv}{i:Nat}{x:PU}(hx:a[i]? =some x)(h:NoC a b p i x b.length):NoR a b p (i+1):=fun z hz=>by rw[ZZ hx] at hz;exact h z hz
def qpV{a b:List PU}{p:Iv}{i j:Nat}{x y:PU}(hy:b[j]? =some y)(hm:rZ x y=none)(h:NoC a b p i x j):NoC a b p i x (j+1):=fun z hz=>by
 rw[RN hy,hm] at hz;exact h z TW
def qpW{a b:List PU}{p:Iv}{i j:Nat}{x y:PU}{u:Iv×Qd}(hy:b[j]? =some y)(hm:rZ x y=some u)(hc:uU u.1 p=false)(h:NoC a b p i x j):NoC a b p i x (j+1):=fun z hz=>by
 rw[RN hy,hm,<-List.append_assoc] at hz;rcases List.mem_append.1 hz with h1|h1
 ·exact h z h1
 ·rw[show z=u by simpa using h1];exact hc
def P5{α:Type}{f:α->Bool}{l:List α}(h:∀z∈l,f z=false):l.find? f=none:=List.find?_eq_none.2 fun z hz=>by rw[h z hz];decide
def qnY{x m p:Iv}{l:List Iv}(hm:l=[m])(h:0<(gm (mF 3) [p] l).length):uU m p=false:=by
 subst hm;unfold uU;rw[<-qf0];cases hq:gm (mF 3) [p] [m]
 ·rw[hq] at h;exact absurd h bI
 ·rfl
theorem qj0{m p:Iv}{l:List Iv}(hm:l=[m])(h:(gm (mF 3) [p] l).length=0):uU m p=true:=by
 subst hm;unfold uU;rw[<-qf0,List.length_eq_zero_iff.1 h];rfl
end Go.Via
namespace Go.Proofs.YtaffcpfhedadhaaGreatDoor
open Go Go.RowKit Go.Via
def qj1(p:Iv)(hp:jH p<=50000)(g n:Nat)(l:List Iv)(cb:Option Nat)(cN cc:Nat)(hcc:l.length<=cc)(hl:l.length<=1000)(hs:∀x∈l,jH x<=50000):bZ Tryz.prog 44 [⟨some g,61,aO p,n,false⟩,⟨cb,61,ai aO l,cN,false⟩] [.int .i64 3,ay (some g) 0 1 1,ay cb 0 l.length cc] (SR (gm (mF 3) [p] l).length) SR.v (fun z=>[⟨z.b,61,ai aO (gm (mF 3) [p] l),z.n,true⟩]):=by
 have h:=zx 3 [p] (some g) n 1 (Nat.le_refl _) X6 l cb cN cc hcc hl (by simpa using hp) hs;have e:∀i:Iv,ai aO [i]=aO i:=fun i=>by simp[ai]
 rw[e] at h;exact h
def Oe(a:List PU)(ab:Option Nat)(aN ac:Nat)(hac:a.length<=ac)(han:a.length<=400)(b:List PU)(bb:Option Nat)(bN bc:Nat)(hbc:b.length<=bc)(hbn:b.length<=400)(hsa:DC a)(hsb:DC b)(H:CW a b):bZ Tryz.prog 15 [⟨ab,100,ai aB a,aN,false⟩,⟨bb,100,ai aB b,bN,false⟩] [ay ab 0 a.length ac,ay bb 0 b.length bc] (SR ((aj a b).map aC).length) (fun z=>CfV z.v (fO ((aj a b).map aC))) (fun z=>[⟨z.b,63,ai aQ ((aj a b).map aC),z.n,true⟩]):=by
 refine⟨ak,fun w hL0=>?_⟩;have hpl:=qU a b;refine cB2 109 Tryz.func15 hL0 ?_;refine A2 ?_;refine Al 10 z40 (fun g0=>?_);refine A4 ?_;refine Al 10 z40 (fun g1=>?_);refine A9 ?_;refine El (ι:={z:Nat×List ny×Option Nat×Nat×Nat // z.1<=a.length∧z.2.1=(kE a b z.1).map aC∧z.2.1.length<=z.2.2.2.2∧z.2.2.2.2*38<=z.2.2.2.1}) (fun⟨⟨i,o,ob,oN,oc⟩,hi,hI,h3,h4⟩=>([(0,ay ab 0 a.length ac),(1,ay bb 0 b.length bc),(4,dJ g0),(5,dJ g1),(6,bG i)],[⟨ab,100,ai aB a,aN,false⟩,⟨bb,100,ai aB b,bN,false⟩,⟨some g0,40,RJ,10,true⟩,⟨some g1,40,iH (ay ob 0 o.length oc) (rl 0),10,true⟩,⟨ob,63,ai aQ o,oN,true⟩],a.length-i)) ⟨⟨0,[],none,0,0⟩,Nat.zero_le _,rfl,Nat.le_refl _,bI⟩ ?_ (hL:=(aA [some 0,some 1,some 2,some 3,none] ⟨pR,pR,pR,⟨_,rfl,bn (by rw[qf5];rfl)⟩,⟨rfl,rfl,rfl⟩,trivial⟩ rfl rfl));rintro⟨⟨i,o,ob,oN,oc⟩,hi,hI,h3,h4⟩;(try dsimp only);replace hi:i<=a.length:=hi;replace hI:o=(kE a b i).map aC:=hI;replace h3:o.length<=oc:=h3;replace h4:oc*38<=oN:=h4;refine A9 ?_;refine Cd ?_ ?_<;>intro haQ
 ·have hlt:i<a.length:=iL;obtain⟨x,hx⟩:∃x,a[i]? =some x:=⟨a[i],List.getElem?_eq_getElem hlt⟩;have hxm:=List.mem_of_getElem? hx;have hxs:=hsa x hxm;have hxe:=H.ea x hxm;refine lD ?_;refine El (ι:={z:Nat×List ny×Option Nat×Nat×Nat // z.1<=b.length∧z.2.1=(kE a b i++yu x b z.1).map aC∧z.2.1.length<=z.2.2.2.2∧z.2.2.2.2*38<=z.2.2.2.1}) (fun⟨⟨j,o,ob,oN,oc⟩,hj,hI0,h30,h40⟩=>([(0,ay ab 0 a.length ac),(1,ay bb 0 b.length bc),(4,dJ g0),(5,dJ g1),(6,bG i),(7,bG j)],[⟨ab,100,ai aB a,aN,false⟩,⟨bb,100,ai aB b,bN,false⟩,⟨some g0,40,RJ,10,true⟩,⟨some g1,40,iH (ay ob 0 o.length oc) (rl 0),10,true⟩,⟨ob,63,ai aQ o,oN,true⟩],b.length-j)) ⟨⟨0,o,ob,oN,oc⟩,Nat.zero_le _,by show o=(kE a b i++yu x b 0).map aC;rw[Z4];exact hI,h3,h4⟩ ?_ (hL:=dR.auto);rintro⟨⟨j,o,ob,oN,oc⟩,hj,hI0,h30,h40⟩;(try dsimp only);replace hj:j<=b.length:=hj;have hI:o=(kE a b i++yu x b j).map aC:=hI0;have h3:o.length<=oc:=h30;have h4:oc*38<=oN:=h40;refine A9 ?_;refine Cd ?_ ?_<;>intro hbQ
  ·have hjt:j<b.length:=nG;obtain⟨y,hy⟩:∃y,b[j]? =some y:=⟨b[j],List.getElem?_eq_getElem hjt⟩;have hym:=List.mem_of_getElem? hy;have hys:=hsb y hym;have hye:=H.eb y hym;refine dL 0 rfl (aX.ne ax ae) (fun hbs=>?_);obtain⟨ga,hga⟩:=Option.isSome_iff_exists.1 hbs;replace hga:ab=some ga:=hga;subst hga;refine dL 1 rfl (aX.ne ax ae) (fun hbs=>?_);obtain⟨gb,hgb⟩:=Option.isSome_iff_exists.1 hbs;replace hgb:bb=some gb:=hgb;subst hgb;refine A5 ?_;let sX:List (Nat×Value)->List (Nat×Value):=fun l=>(0,ay (some ga) 0 a.length ac)::(1,ay (some gb) 0 b.length bc)::(4,dJ g0)::(5,dJ g1)::(6,bG i)::(7,bG j)::l;let sY:List aJ->List aJ:=fun l=>⟨some ga,100,ai aB a,aN,false⟩::⟨some gb,100,ai aB b,bN,false⟩::⟨some g0,40,RJ,10,true⟩::⟨some g1,40,iH (ay ob 0 o.length oc) (rl 0),10,true⟩::⟨ob,63,ai aQ o,oN,true⟩::l;refine xY (nt:=109) (Z:=Nat×Nat×(SR (dB x.i y.i).toList.length)) (fun⟨gx,gy,⟨cb,cN,cc,hcc⟩⟩=>sX [(8,ay cb 0 (dB x.i y.i).toList.length cc)]) (fun⟨gx,gy,⟨cb,cN,cc,hcc⟩⟩=>sY [⟨some gx,61,aO x.i,20,true⟩,⟨some gy,61,aO y.i,20,true⟩,⟨cb,61,ai aO (dB x.i y.i).toList,cN,true⟩]) 14 [0,1,2,3,4,5,6,7,8,9,10,11,12,13] mixed ak (fun hd0=>?_) ?_
   ·refine aS (nt:=109) (Z:=Nat×Nat×(SR (dB x.i y.i).toList.length)) (fun⟨gx,gy,⟨cb,cN,cc,hcc⟩⟩=>sX [(36,ay cb 0 (dB x.i y.i).toList.length cc)]) (fun⟨gx,gy,⟨cb,cN,cc,hcc⟩⟩=>sY [⟨some gx,61,aO x.i,20,true⟩,⟨some gy,61,aO y.i,20,true⟩,⟨cb,61,ai aO (dB x.i y.i).toList,cN,true⟩]) 1 [13] (fun z=>?_) (fun hd1=>?_)
    ·obtain⟨gx,gy,⟨cb,cN,cc,hcc⟩⟩:=z;(try dsimp only);refine Gx 13 ?_
     ·refine A2 ?_;exact Nw hd0 ⟨gx,gy,⟨cb,cN,cc,hcc⟩⟩ [0,1,2,3,4,5,6,7]
    refine aS (nt:=109) (Z:=Nat×Nat) (fun⟨gx,gy⟩=>sX [(29,ay (some gx) 0 1 1),(35,ay (some gy) 0 1 1)]) (fun⟨gx,gy⟩=>sY [⟨some gx,61,aO x.i,20,true⟩,⟨some gy,61,aO y.i,20,true⟩]) 2 [12,13] (fun z=>?_) (fun hd2=>?_)
    ·obtain⟨gx,gy⟩:=z;(try dsimp only);refine Gx 12 ?_
     ·refine fQ [_,_,_] [5,6] rfl rfl rfl (qao x y hxe hye ae ae gx gy _ _) ⟨pS,pS,trivial⟩ rfl (.inr fun x b hb=>sZ) (fun zc=>?_);obtain⟨cb,cN,cc,hcc⟩:=zc;refine A1 ?_;exact Nw hd1 ⟨gx,gy,⟨cb,cN,cc,hcc⟩⟩ [0,1,2,3,4,5,6,7]
    refine aS (nt:=109) (Z:=Nat) (fun gy=>sX [(28,fV x.i),(35,ay (some gy) 0 1 1)]) (fun gy=>sY [⟨some gy,61,aO y.i,20,true⟩]) 3 [5,12,13] (fun gy=>?_) (fun hd3=>?_)
    ·(try dsimp only);refine Gx 5 ?_
     ·refine(Bl 20 [(0,_)]) (jh) (fun g3=>?_);refine A1 ?_;exact Nw hd2 ⟨g3,gy⟩ [0,1,2,3,4,6,5]
    refine aS (nt:=109) (Z:=Nat) (fun gx=>sX [(29,ay (some gx) 0 1 1),(34,fV y.i)]) (fun gx=>sY [⟨some gx,61,aO x.i,20,true⟩]) 3 [11,12,13] (fun gx=>?_) (fun hd4=>?_)
    ·(try dsimp only);refine Gx 11 ?_
     ·refine(Bl 20 [(0,_)]) (jh) (fun g3=>?_);refine A1 ?_;exact Nw hd2 ⟨gx,g3⟩ [0,1,2,3,4,5,6]
    refine aS (nt:=109) (Z:=Nat) (fun gy=>sX [(27,.pointer (some ⟨ga,(i)*36,none⟩)),(35,ay (some gy) 0 1 1)]) (fun gy=>sY [⟨some gy,61,aO y.i,20,true⟩]) 4 [4,5,12,13] (fun gy=>?_) (fun hd5=>?_)
    ·(try dsimp only);refine Gx 4 ?_
     ·refine Hu ?_;refine A1 ?_;exact Nw hd3 gy [0,1,2,3,4,5]
    refine aS (nt:=109) (Z:=Unit) (fun _=>sX [(28,fV x.i),(34,fV y.i)]) (fun _=>sY []) 4 [5,11,12,13] (fun z=>?_) (fun hd6=>?_)
    ·(try dsimp only);refine aV [5,11] ak rfl ⟨⟨_,rfl,?_⟩,⟨_,rfl,?_⟩,trivial⟩
     ·refine(Bl 20 [(0,_)]) (jh) (fun g2=>?_);refine A1 ?_;exact Nw hd4 g2 [0,1,2,3,4,5]
     ·refine(Bl 20 [(0,_)]) (jh) (fun g2=>?_);refine A1 ?_;exact Nw hd3 g2 [0,1,2,3,4,5]
    refine aS (nt:=109) (Z:=Nat) (fun gx=>sX [(29,ay (some gx) 0 1 1),(33,.pointer (some ⟨gb,(j)*36,none⟩))]) (fun gx=>sY [⟨some gx,61,aO x.i,20,true⟩]) 4 [10,11,12,13] (fun gx=>?_) (fun hd7=>?_)
    ·(try dsimp only);refine Gx 10 ?_
     ·refine aG (v:=fV y.i) 1 ((j)*36+0) _ rfl rfl rfl rfl mr (aX.sub hy 0 20 ax) rfl ax rfl ?_;refine A1 ?_;exact Nw hd4 gx [0,1,2,3,4,5]
    refine aS (nt:=109) (Z:=Unit) (fun _=>sX [(27,.pointer (some ⟨ga,(i)*36,none⟩)),(34,fV y.i)]) (fun _=>sY []) 5 [4,5,11,12,13] (fun z=>?_) (fun hd8=>?_)
    ·(try dsimp only);refine aV [4,11] ak rfl ⟨⟨_,rfl,?_⟩,⟨_,rfl,?_⟩,trivial⟩
     ·refine Hu ?_;refine A1 ?_;exact Nw hd6 () [0,1,2,3,4]
     ·refine(Bl 20 [(0,_)]) (jh) (fun g2=>?_);refine A1 ?_;exact Nw hd5 g2 [0,1,2,3,4,5]
    refine aS (nt:=109) (Z:=Unit) (fun _=>sX [(28,fV x.i),(33,.pointer (some ⟨gb,(j)*36,none⟩))]) (fun _=>sY []) 5 [5,10,11,12,13] (fun z=>?_) (fun hd9=>?_)
    ·(try dsimp only);refine aV [5,10] ak rfl ⟨⟨_,rfl,?_⟩,⟨_,rfl,?_⟩,trivial⟩
     ·refine(Bl 20 [(0,_)]) (jh) (fun g2=>?_);refine A1 ?_;exact Nw hd7 g2 [0,1,2,3,4,5]
     ·refine aG (v:=fV y.i) 1 ((j)*36+0) _ rfl rfl rfl rfl mr (aX.sub hy 0 20 ax) rfl ax rfl ?_;refine A1 ?_;exact Nw hd6 () [0,1,2,3,4]
    refine aS (nt:=109) (Z:=Nat) (fun gy=>sX [(24,ay (some ga) 0 a.length ac),(25,bG i),(35,ay (some gy) 0 1 1)]) (fun gy=>sY [⟨some gy,61,aO y.i,20,true⟩]) 6 [2,3,4,5,12,13] (fun gy=>?_) (fun hd10=>?_)
    ·(try dsimp only);refine Gx 2 ?_
     ·refine FZ ?_;refine A1 ?_;refine Nt 3 ?_;refine Fg ((i)*36) 0 ?_;refine A1 ?_;exact Nw hd5 gy [0,1,2,3,4,5]
    refine aS (nt:=109) (Z:=Unit) (fun _=>sX [(27,.pointer (some ⟨ga,(i)*36,none⟩)),(33,.pointer (some ⟨gb,(j)*36,none⟩))]) (fun _=>sY []) 6 [4,5,10,11,12,13] (fun z=>?_) (fun hd11=>?_)
    ·(try dsimp only);refine aV [4,10] ak rfl ⟨⟨_,rfl,?_⟩,⟨_,rfl,?_⟩,trivial⟩
     ·refine Hu ?_;refine A1 ?_;exact Nw hd9 () [0,1,2,3,4]
     ·refine aG (v:=fV y.i) 1 ((j)*36+0) _ rfl rfl rfl rfl mr (aX.sub hy 0 20 ax) rfl ax rfl ?_;refine A1 ?_;exact Nw hd8 () [0,1,2,3,4]
    refine aS (nt:=109) (Z:=Nat) (fun gx=>sX [(29,ay (some gx) 0 1 1),(30,ay (some gb) 0 b.length bc),(31,bG j)]) (fun gx=>sY [⟨some gx,61,aO x.i,20,true⟩]) 6 [8,9,10,11,12,13] (fun gx=>?_) (fun hd12=>?_)
    ·(try dsimp only);refine Gx 8 ?_
     ·refine Ia ?_;refine A1 ?_;refine Nt 9 ?_;refine Fg ((j)*36) 0 ?_;refine A1 ?_;exact Nw hd7 gx [0,1,2,3,4,5]
    refine aS (nt:=109) (Z:=Unit) (fun _=>sX [(24,ay (some ga) 0 a.length ac),(25,bG i),(34,fV y.i)]) (fun _=>sY []) 7 [2,3,4,5,11,12,13] (fun z=>?_) (fun hd13=>?_)
    ·(try dsimp only);refine aV [2,11] ak rfl ⟨⟨_,rfl,?_⟩,⟨_,rfl,?_⟩,trivial⟩
     ·refine FZ ?_;refine A1 ?_;refine Nt 3 ?_;refine Fg ((i)*36) 0 ?_;refine A1 ?_;exact Nw hd8 () [0,1,2,3,4]
     ·refine(Bl 20 [(0,_)]) (jh) (fun g2=>?_);refine A1 ?_;exact Nw hd10 g2 [0,1,2,3,4,5]
    refine aS (nt:=109) (Z:=Unit) (fun _=>sX [(28,fV x.i),(30,ay (some gb) 0 b.length bc),(31,bG j)]) (fun _=>sY []) 7 [5,8,9,10,11,12,13] (fun z=>?_) (fun hd14=>?_)
    ·(try dsimp only);refine aV [5,8] ak rfl ⟨⟨_,rfl,?_⟩,⟨_,rfl,?_⟩,trivial⟩
     ·refine(Bl 20 [(0,_)]) (jh) (fun g2=>?_);refine A1 ?_;exact Nw hd12 g2 [0,1,2,3,4,5]
     ·refine Ia ?_;refine A1 ?_;refine Nt 9 ?_;refine Fg ((j)*36) 0 ?_;refine A1 ?_;exact Nw hd9 () [0,1,2,3,4]
    refine aS (nt:=109) (Z:=Unit) (fun _=>sX [(24,ay (some ga) 0 a.length ac),(25,bG i),(33,.pointer (some ⟨gb,(j)*36,none⟩))]) (fun _=>sY []) 8 [2,3,4,5,10,11,12,13] (fun z=>?_) (fun hd15=>?_)
    ·(try dsimp only);refine aV [2,10] ak rfl ⟨⟨_,rfl,?_⟩,⟨_,rfl,?_⟩,trivial⟩
     ·refine FZ ?_;refine A1 ?_;refine Nt 3 ?_;refine Fg ((i)*36) 0 ?_;refine A1 ?_;exact Nw hd11 () [0,1,2,3,4]
     ·refine aG (v:=fV y.i) 1 ((j)*36+0) _ rfl rfl rfl rfl mr (aX.sub hy 0 20 ax) rfl ax rfl ?_;refine A1 ?_;exact Nw hd13 () [0,1,2,3,4]
    refine aS (nt:=109) (Z:=Unit) (fun _=>sX [(27,.pointer (some ⟨ga,(i)*36,none⟩)),(30,ay (some gb) 0 b.length bc),(31,bG j)]) (fun _=>sY []) 8 [4,5,8,9,10,11,12,13] (fun z=>?_) (fun hd16=>?_)
    ·(try dsimp only);refine aV [4,8] ak rfl ⟨⟨_,rfl,?_⟩,⟨_,rfl,?_⟩,trivial⟩
     ·refine Hu ?_;refine A1 ?_;exact Nw hd14 () [0,1,2,3,4]
     ·refine Ia ?_;refine A1 ?_;refine Nt 9 ?_;refine Fg ((j)*36) 0 ?_;refine A1 ?_;exact Nw hd11 () [0,1,2,3,4]
    refine Nt 0 ?_;refine A2 ?_;refine Nt 1 ?_;refine A2 ?_;refine Nt 6 ?_;refine A2 ?_;refine Nt 7 ?_;refine A2 ?_;refine aV [2,8] ak rfl ⟨⟨_,rfl,?_⟩,⟨_,rfl,?_⟩,trivial⟩
    ·refine FZ ?_;refine A1 ?_;refine Nt 3 ?_;refine Fg ((i)*36) 0 ?_;refine A1 ?_;exact Nw hd16 () [0,1,2,3,4]
    ·refine Ia ?_;refine A1 ?_;refine Nt 9 ?_;refine Fg ((j)*36) 0 ?_;refine A1 ?_;exact Nw hd15 () [0,1,2,3,4]
   rintro⟨gx,gy,⟨cb,cN,cc,hcc⟩⟩;show At _ ⟨109,[(0,ay (some ga) 0 a.length ac),(1,ay (some gb) 0 b.length bc),(4,dJ g0),(5,dJ g1),(6,bG i),(7,bG j),(8,ay cb 0 (dB x.i y.i).toList.length cc)],[⟨some ga,100,ai aB a,aN,false⟩,⟨some gb,100,ai aB b,bN,false⟩,⟨some g0,40,RJ,10,true⟩,⟨some g1,40,iH (ay ob 0 o.length oc) (rl 0),10,true⟩,⟨ob,63,ai aQ o,oN,true⟩,⟨some gx,61,aO x.i,20,true⟩,⟨some gy,61,aO y.i,20,true⟩,⟨cb,61,ai aO (dB x.i y.i).toList,cN,true⟩]⟩ _;refine A9 ?_;refine Cd ?_ ?_<;>intro hcQ
   ·have hm:dB x.i y.i=none:=by rcases hq:dB x.i y.i with _|m;rfl;(have e:=hcQ;rw[hq] at e;simp at e)
    refine A6 ?_;refine Ar (((j+1:Nat):Int)) ?_;refine A3 ?_;exact Nl ⟨⟨j+1,o,ob,oN,oc⟩,hjt,by show o=(kE a b i++yu x b (j+1)).map aC;rw[RN hy,qf9 hm];simpa using hI,h3,h4⟩ (hμ:=X7) (hL:=dR.auto)
   ·obtain⟨m,hm⟩:∃m,dB x.i y.i=some m:=by rcases hq:dB x.i y.i with _|m;(exfalso;have e:=hcQ;rw[hq] at e;simp at e);exact⟨m,rfl⟩
    have hm0:(dB x.i y.i).toList[0]? =some m:=(by rw[hm];rfl);have hm1:0<(dB x.i y.i).toList.length:=(by rw[hm];exact Nat.one_pos);have hz:=RP hm;have hpm:=Z5 H hx hy hz;have hps:=vJ hsa hsb _ hpm;have hpe:=PT H.ea H.eb _ hpm;have hol:=qf8 H hx hy hz;replace hol:o.length<a.length+b.length:=(by rw[hI,List.length_map];exact hol);have l1:=jW m;have l2:=jX m;replace hps:jH m<=100∧ui (d2 x.f y.f)<=820:=hps;refine dL 7 rfl (bY.ne ax hm1) (fun hbs=>?_);obtain⟨gc,hgc⟩:=Option.isSome_iff_exists.1 hbs;replace hgc:cb=some gc:=hgc;subst hgc;refine rq 4 rfl (fun hbase=>?_);have hobs:o.length=0∨∃g,ob=some g:=sH dS ax hbase;refine A3 ?_;refine Dq [3000000] [0,1,2,3,4,5,6,7,8,9,10,11,12] ?_;refine A2 ?_;refine FZ ?_;refine Fg ((i)*36) 20 ?_;refine MN ?_;refine A2 ?_;refine Ia ?_;refine Fg ((j)*36) 20 ?_;refine aG (v:=yV y.f) 1 ((j)*36+20) _ rfl rfl rfl rfl IL (aX.sub hy 20 16 ax) rfl ax rfl ?_;refine Pc (wO x.f y.f) ?_;refine Al 12 Ij (fun g2=>?_);refine Ss 8 ?_;refine A3 ?_;refine Dq [3000000] [0,1,2,3,4,5,6,7,9,10,11,12,13,8,14,15,16,17] ?_;refine A1 ?_;refine aI 7 ((0)*20) SC mr rfl rfl rfl rfl rfl ae ae (bY.ne ax ae) yZ ?_;refine aG (v:=fV m) 7 ((0)*20) _ rfl rfl rfl rfl mr (bY.sub hm0 0 20 ax) rfl ax rfl ?_;refine vU 8 0 ?_;refine A1 ?_;refine aI 7 ((0)*20) SC mr rfl rfl rfl rfl rfl ae ae (bY.ne ax ae) yZ ?_;refine Fg ((0)*20) 0 ?_;refine aG (v:=RV m.f) 7 ((0)*20+0) _ rfl rfl rfl rfl dZ (bY.sub hm0 0 9 ax) rfl ax rfl ?_;refine vU 8 0 ?_;refine A1 ?_;refine aI 7 ((0)*20) SC mr rfl rfl rfl rfl rfl ae ae (bY.ne ax ae) yZ ?_;refine Fg ((0)*20) 9 ?_;refine aG (v:=RV m.t) 7 ((0)*20+9) _ rfl rfl rfl rfl dZ (bY.sub hm0 9 9 ax) rfl ax rfl ?_;refine Pc (MI (d2 x.f y.f) m.f (okZ hpe.1)) ?_;refine Pc (MI (d2 x.f y.f) m.t (okZ hpe.2)) ?_;refine(Bu [(0,_),(1,_),(2,_)]) (V5) ?_;refine Al 38 z63 (fun g3=>?_);refine Ss 9 ?_;refine lD ?_;refine QA (nt:=109) [(0,ay (some ga) 0 a.length ac),(1,ay (some gb) 0 b.length bc),(4,dJ g0),(5,dJ g1),(6,bG i),(7,bG j),(10,dJ g3),(11,bG (o.length))] [⟨some ga,100,ai aB a,aN,false⟩,⟨some gb,100,ai aB b,bN,false⟩,⟨some g0,40,RJ,10,true⟩,⟨some g1,40,iH (ay ob 0 o.length oc) (rl 0),10,true⟩,⟨ob,63,ai aQ o,oN,true⟩,⟨some g3,63,aQ (aC (m,d2 x.f y.f)),38,true⟩] ?_ ?_
    ·refine A1 ?_;refine El (ι:={u:Unit // True}) (fun⟨u,_⟩=>([(0,ay (some ga) 0 a.length ac),(1,ay (some gb) 0 b.length bc),(4,dJ g0),(5,dJ g1),(6,bG i),(7,bG j),(10,dJ g3),(11,bG (o.length))],[⟨some ga,100,ai aB a,aN,false⟩,⟨some gb,100,ai aB b,bN,false⟩,⟨some g0,40,RJ,10,true⟩,⟨some g1,40,iH (ay ob 0 o.length oc) (rl 0),10,true⟩,⟨ob,63,ai aQ o,oN,true⟩,⟨some g3,63,aQ (aC (m,d2 x.f y.f)),38,true⟩],0)) ⟨(),trivial⟩ ?_ (hL:=(aT [some 0,some 1,some 2,some 3,some 4,some 9]));rintro⟨u,_⟩;(try dsimp only);refine A2 ?_;refine Di [] ?_;refine A3 ?_;refine Rs 72 ?_ ?_<;>intro hdQ
     ·have hop:0<o.length:=uV;obtain⟨p,hp⟩:∃p,o[o.length-1]? =some p:=⟨_,List.getElem?_eq_getElem ae⟩;obtain⟨go,hgo⟩:=hobs.resolve_left ae;subst hgo;have hpq:=List.mem_of_getElem? hp;rw[hI] at hpq;obtain⟨q,hq,hqp⟩:=List.mem_map.1 hpq;have hord:¬bQ m.f p.i.f<0:=by rw[<-hqp];exact qf6 H hx hy hz hq
      have hqs:=(vJ hsa hsb _ (qf7 H hx hy hz hq)).1;have hqf:gJ p.i.f<=100:=(by rw[<-hqp];exact Nat.le_trans (jW q.1) hqs);refine A2 ?_;refine L9 5 0 ?_;refine A3 ?_;refine(Aq ((o.length:Int)-1)) o7 ?_;refine aI 4 ((o.length-1)*38) u32 Ag rfl rfl rfl rfl rfl ae ae (dS.ne ax ae) Bi ?_;refine Fg ((o.length-1)*38) 0 ?_;refine Fg ((o.length-1)*38+0) 0 ?_;refine aG (v:=RV p.i.f) 4 ((o.length-1)*38+0+0) _ rfl rfl rfl rfl dZ (dS.sub hp 0 9 ax) rfl ax rfl ?_;refine Pc (fZ m.f p.i.f) ?_;refine A4 ?_;refine Cd ?_ ?_<;>intro heQ
      ·exact absurd (of_decide_eq_true heQ) hord
      ·refine A5 ?_;exact rf ⟨rfl,rfl,rfl,rfl,rfl,rfl,rfl,rfl,trivial⟩ (aT [some 0,some 1,some 2,some 3,some 4,some 5])
     ·refine A22 ?_;exact rf ⟨rfl,rfl,rfl,rfl,rfl,rfl,rfl,rfl,trivial⟩ (aT [some 0,some 1,some 2,some 3,some 4,some 5])
    let sX:List (Nat×Value)->List (Nat×Value):=fun l=>(0,ay (some ga) 0 a.length ac)::(1,ay (some gb) 0 b.length bc)::(4,dJ g0)::(5,dJ g1)::(6,bG i)::(7,bG j)::l;let sY:List aJ->List aJ:=fun l=>⟨some ga,100,ai aB a,aN,false⟩::⟨some gb,100,ai aB b,bN,false⟩::⟨some g0,40,RJ,10,true⟩::l;refine xY (nt:=109) (Z:=Nat×(OR (0+o.length+1+(o.length-o.length)) 38)) (fun⟨g96,r3⟩=>sX []) (fun⟨g96,r3⟩=>sY [⟨some g1,40,iH (ay r3.b 0 (0+o.length+1+(o.length-o.length)) r3.cap) (rl 0),10,true⟩,⟨ob,63,ai aQ o,oN,true⟩,⟨some g3,63,aQ (aC (m,d2 x.f y.f)),38,true⟩,⟨r3.b,63,(ai aQ o++aQ (aC (m,d2 x.f y.f)))++ai aQ (o.drop o.length),r3.n,true⟩,⟨some g96,63,aQ (aC (m,d2 x.f y.f)),38,true⟩]) 16 [0,1,2,3,4,5,6,7,8,9,10,11,12,13,14,15] mixed ak (fun hd0=>?_) ?_
    ·refine aS (nt:=109) (Z:=Nat×(OR (0+o.length+1+(o.length-o.length)) 38)) (fun⟨g96,r3⟩=>sX [(10,dJ g3),(11,bG (o.length)),(102,ay r3.b 0 (0+o.length+1+(o.length-o.length)) r3.cap),(103,dJ g1)]) (fun⟨g96,r3⟩=>sY [⟨some g1,40,iH (ay ob 0 o.length oc) (rl 0),10,true⟩,⟨ob,63,ai aQ o,oN,true⟩,⟨some g3,63,aQ (aC (m,d2 x.f y.f)),38,true⟩,⟨r3.b,63,(ai aQ o++aQ (aC (m,d2 x.f y.f)))++ai aQ (o.drop o.length),r3.n,true⟩,⟨some g96,63,aQ (aC (m,d2 x.f y.f)),38,true⟩]) 1 [15] (fun z=>?_) (fun hd1=>?_)
     ·obtain⟨g96,r3⟩:=z;(try dsimp only);refine Gx 15 ?_
      ·refine Ss 3 ?_;refine A1 ?_;exact Nw hd0 ⟨g96,r3⟩ [0,1,2,3,4,5,6,7]
     refine aS (nt:=109) (Z:=Nat×(OR (0+o.length+1) 38)) (fun⟨g96,r2⟩=>sX [(10,dJ g3),(11,bG (o.length)),(97,ay r2.b 0 (0+o.length+1) r2.cap),(101,ay ob (if oc=o.length then 0 else o.length*38) (o.length-o.length) (oc-o.length))]) (fun⟨g96,r2⟩=>sY [⟨some g1,40,iH (ay ob 0 o.length oc) (rl 0),10,true⟩,⟨ob,63,ai aQ o,oN,true⟩,⟨some g3,63,aQ (aC (m,d2 x.f y.f)),38,true⟩,⟨r2.b,63,ai aQ o++aQ (aC (m,d2 x.f y.f)),r2.n,true⟩,⟨some g96,63,aQ (aC (m,d2 x.f y.f)),38,true⟩]) 3 [13,14,15] (fun z=>?_) (fun hd2=>?_)
     ·obtain⟨g96,r2⟩:=z;(try dsimp only);refine Gx 13 ?_
      ·refine(Qo (s:=38) (len:=0+o.length+1) 6 4 (ai aQ (o.drop o.length)) (fun r3=>[_,_,_,_,_,_,⟨r3.b,63,(ai aQ o++aQ (aC (m,d2 x.f y.f)))++ai aQ (o.drop o.length),r3.n,true⟩,_]) u32 V6) (by exact(by rw[List.length_append,dS.length];show o.length*38+38=_;omega)) r2.h r2.hn XI (dS.dropT h3 (Nat.le_refl _)) (dS.lenDrop o o.length) (dS.ones _) (fun r3=>?_);refine A1 ?_;refine Nt 14 ?_;refine Fg 0 0 ?_;refine A1 ?_;exact Nw hd1 ⟨g96,r3⟩ [0,1,2,3,4,5,6,7]
     refine aS (nt:=109) (Z:=(OR (0+o.length) 38)×Nat) (fun⟨r,g96⟩=>sX [(10,dJ g3),(11,bG (o.length)),(94,ay r.b 0 (0+o.length) r.cap),(96,ay (some g96) 0 1 1),(101,ay ob (if oc=o.length then 0 else o.length*38) (o.length-o.length) (oc-o.length))]) (fun⟨r,g96⟩=>sY [⟨some g1,40,iH (ay ob 0 o.length oc) (rl 0),10,true⟩,⟨ob,63,ai aQ o,oN,true⟩,⟨some g3,63,aQ (aC (m,d2 x.f y.f)),38,true⟩,⟨r.b,63,ai aQ o,r.n,true⟩,⟨some g96,63,aQ (aC (m,d2 x.f y.f)),38,true⟩]) 4 [8,13,14,15] (fun z=>?_) (fun hd3=>?_)
     ·obtain⟨r,g96⟩:=z;(try dsimp only);refine Gx 8 ?_
      ·refine iK (s:=38) (len:=0+o.length) (n2:=1) 6 7 (aQ (aC (m,d2 x.f y.f))) (fun r2=>[_,_,_,_,_,_,⟨r2.b,63,ai aQ o++aQ (aC (m,d2 x.f y.f)),r2.n,true⟩,_]) u32 V6 rfl rfl rfl rfl rfl rfl rfl rfl rfl rfl (by rw[dS.length,Nat.zero_add]) r.h r.hn (.inr ⟨_,rfl⟩) rfl rfl (dS.one (aC (m,d2 x.f y.f))) ae (fun _=>rfl) (fun r2=>?_);refine A1 ?_;exact Nw hd2 ⟨g96,r2⟩ [0,1,2,3,4,5,6,7]
     refine aS (nt:=109) (Z:=Nat×Nat) (fun⟨g89,g96⟩=>sX [(10,dJ g3),(11,bG (o.length)),(89,ay (some g89) 0 0 0),(93,ay ob 0 o.length oc),(96,ay (some g96) 0 1 1),(101,ay ob (if oc=o.length then 0 else o.length*38) (o.length-o.length) (oc-o.length))]) (fun⟨g89,g96⟩=>sY [⟨some g1,40,iH (ay ob 0 o.length oc) (rl 0),10,true⟩,⟨ob,63,ai aQ o,oN,true⟩,⟨some g3,63,aQ (aC (m,d2 x.f y.f)),38,true⟩,⟨some g89,63,[],0,true⟩,⟨some g96,63,aQ (aC (m,d2 x.f y.f)),38,true⟩]) 5 [5,8,13,14,15] (fun z=>?_) (fun hd4=>?_)
     ·obtain⟨g89,g96⟩:=z;(try dsimp only);refine Gx 5 ?_
      ·refine iK (s:=38) (len:=0) 6 4 (ai aQ o) (fun r=>[_,_,_,_,_,_,⟨r.b,63,ai aQ o,r.n,true⟩,_]) u32 V6 rfl rfl rfl rfl rfl rfl rfl rfl rfl rfl rfl (Nat.le_refl _) (Nat.le_refl _) hobs (List.take_of_length_le X8) (dS.length o) (dS.ones _) ae (fun _=>rfl) (fun r=>?_);refine A1 ?_;exact Nw hd3 ⟨r,g96⟩ [0,1,2,3,4,5,6,7]
     refine aS (nt:=109) (Z:=OR (0+o.length) 38) (fun r=>sX [(10,dJ g3),(11,bG (o.length)),(94,ay r.b 0 (0+o.length) r.cap),(95,Gy (aC (m,d2 x.f y.f))),(101,ay ob (if oc=o.length then 0 else o.length*38) (o.length-o.length) (oc-o.length))]) (fun r=>sY [⟨some g1,40,iH (ay ob 0 o.length oc) (rl 0),10,true⟩,⟨ob,63,ai aQ o,oN,true⟩,⟨some g3,63,aQ (aC (m,d2 x.f y.f)),38,true⟩,⟨r.b,63,ai aQ o,r.n,true⟩]) 5 [7,8,13,14,15] (fun r=>?_) (fun hd5=>?_)
     ·(try dsimp only);refine Gx 7 ?_
      ·refine(Bl 38 [(0,_)]) (qM) (fun g5=>?_);refine A1 ?_;exact Nw hd3 ⟨r,g5⟩ [0,1,2,3,4,5,6,7]
     refine aS (nt:=109) (Z:=Nat×(OR (0+o.length+1) 38)) (fun⟨g96,r2⟩=>sX [(10,dJ g3),(11,bG (o.length)),(97,ay r2.b 0 (0+o.length+1) r2.cap),(98,dJ g1),(100,bG (o.length))]) (fun⟨g96,r2⟩=>sY [⟨some g1,40,iH (ay ob 0 o.length oc) (rl 0),10,true⟩,⟨ob,63,ai aQ o,oN,true⟩,⟨some g3,63,aQ (aC (m,d2 x.f y.f)),38,true⟩,⟨r2.b,63,ai aQ o++aQ (aC (m,d2 x.f y.f)),r2.n,true⟩,⟨some g96,63,aQ (aC (m,d2 x.f y.f)),38,true⟩]) 5 [10,12,13,14,15] (fun z=>?_) (fun hd6=>?_)
     ·obtain⟨g96,r2⟩:=z;(try dsimp only);refine Gx 10 ?_
      ·refine tH ?_;exact Nw hd2 ⟨g96,r2⟩ [0,1,2,3,4,5,6,7]
     refine aS (nt:=109) (Z:=Nat) (fun g96=>sX [(10,dJ g3),(11,bG (o.length)),(93,ay ob 0 o.length oc),(96,ay (some g96) 0 1 1),(101,ay ob (if oc=o.length then 0 else o.length*38) (o.length-o.length) (oc-o.length))]) (fun g96=>sY [⟨some g1,40,iH (ay ob 0 o.length oc) (rl 0),10,true⟩,⟨ob,63,ai aQ o,oN,true⟩,⟨some g3,63,aQ (aC (m,d2 x.f y.f)),38,true⟩,⟨some g96,63,aQ (aC (m,d2 x.f y.f)),38,true⟩]) 6 [0,5,8,13,14,15] (fun g96=>?_) (fun hd7=>?_)
     ·(try dsimp only);refine Gx 0 ?_
      ·refine(Bl 0 []) (sO) (fun g5=>?_);refine A1 ?_;exact Nw hd4 ⟨g5,g96⟩ [0,1,2,3,4,5,7,6]
     refine aS (nt:=109) (Z:=Nat) (fun g89=>sX [(10,dJ g3),(11,bG (o.length)),(89,ay (some g89) 0 0 0),(93,ay ob 0 o.length oc),(95,Gy (aC (m,d2 x.f y.f))),(101,ay ob (if oc=o.length then 0 else o.length*38) (o.length-o.length) (oc-o.length))]) (fun g89=>sY [⟨some g1,40,iH (ay ob 0 o.length oc) (rl 0),10,true⟩,⟨ob,63,ai aQ o,oN,true⟩,⟨some g3,63,aQ (aC (m,d2 x.f y.f)),38,true⟩,⟨some g89,63,[],0,true⟩]) 6 [5,7,8,13,14,15] (fun g89=>?_) (fun hd8=>?_)
     ·(try dsimp only);refine aV [5,7] ak rfl ⟨⟨_,rfl,?_⟩,⟨_,rfl,?_⟩,trivial⟩
      ·refine qan fun r=>?_;refine A1 ?_;exact Nw hd5 r [0,1,2,3,4,5,6]
      ·refine(Bl 38 [(0,_)]) (qM) (fun g5=>?_);refine A1 ?_;exact Nw hd4 ⟨g89,g5⟩ [0,1,2,3,4,5,6,7]
     refine aS (nt:=109) (Z:=OR (0+o.length) 38) (fun r=>sX [(10,dJ g3),(11,bG (o.length)),(94,ay r.b 0 (0+o.length) r.cap),(101,ay ob (if oc=o.length then 0 else o.length*38) (o.length-o.length) (oc-o.length))]) (fun r=>sY [⟨some g1,40,iH (ay ob 0 o.length oc) (rl 0),10,true⟩,⟨ob,63,ai aQ o,oN,true⟩,⟨some g3,63,aQ (aC (m,d2 x.f y.f)),38,true⟩,⟨r.b,63,ai aQ o,r.n,true⟩]) 6 [6,7,8,13,14,15] (fun r=>?_) (fun hd9=>?_)
     ·(try dsimp only);refine Gx 6 ?_
      ·refine L38 5 0 ?_;refine A1 ?_;exact Nw hd5 r [0,1,2,3,4,5,6]
     refine aS (nt:=109) (Z:=(OR (0+o.length) 38)×Nat) (fun⟨r,g96⟩=>sX [(10,dJ g3),(11,bG (o.length)),(94,ay r.b 0 (0+o.length) r.cap),(96,ay (some g96) 0 1 1),(98,dJ g1),(100,bG (o.length))]) (fun⟨r,g96⟩=>sY [⟨some g1,40,iH (ay ob 0 o.length oc) (rl 0),10,true⟩,⟨ob,63,ai aQ o,oN,true⟩,⟨some g3,63,aQ (aC (m,d2 x.f y.f)),38,true⟩,⟨r.b,63,ai aQ o,r.n,true⟩,⟨some g96,63,aQ (aC (m,d2 x.f y.f)),38,true⟩]) 6 [8,10,12,13,14,15] (fun z=>?_) (fun hd10=>?_)
     ·obtain⟨r,g96⟩:=z;(try dsimp only);refine aV [8,10] ak rfl ⟨⟨_,rfl,?_⟩,⟨_,rfl,?_⟩,trivial⟩
      ·refine iK (s:=38) (len:=0+o.length) (n2:=1) 6 7 (aQ (aC (m,d2 x.f y.f))) (fun r2=>[_,_,_,_,_,_,⟨r2.b,63,ai aQ o++aQ (aC (m,d2 x.f y.f)),r2.n,true⟩,_]) u32 V6 rfl rfl rfl rfl rfl rfl rfl rfl rfl rfl (by rw[dS.length,Nat.zero_add]) r.h r.hn (.inr ⟨_,rfl⟩) rfl rfl (dS.one (aC (m,d2 x.f y.f))) ae (fun _=>rfl) (fun r2=>?_);refine A1 ?_;exact Nw hd6 ⟨g96,r2⟩ [0,1,2,3,4,5,6,7]
      ·refine tH ?_;exact Nw hd3 ⟨r,g96⟩ [0,1,2,3,4,5,6,7]
     refine aS (nt:=109) (Z:=Unit) (fun _=>sX [(10,dJ g3),(11,bG (o.length)),(93,ay ob 0 o.length oc),(95,Gy (aC (m,d2 x.f y.f))),(101,ay ob (if oc=o.length then 0 else o.length*38) (o.length-o.length) (oc-o.length))]) (fun _=>sY [⟨some g1,40,iH (ay ob 0 o.length oc) (rl 0),10,true⟩,⟨ob,63,ai aQ o,oN,true⟩,⟨some g3,63,aQ (aC (m,d2 x.f y.f)),38,true⟩]) 7 [0,5,7,8,13,14,15] (fun z=>?_) (fun hd11=>?_)
     ·(try dsimp only);refine aV [0,7] ak rfl ⟨⟨_,rfl,?_⟩,⟨_,rfl,?_⟩,trivial⟩
      ·refine(Bl 0 []) (sO) (fun g4=>?_);refine A1 ?_;exact Nw hd8 g4 [0,1,2,3,4,5,6]
      ·refine(Bl 38 [(0,_)]) (qM) (fun g4=>?_);refine A1 ?_;exact Nw hd7 g4 [0,1,2,3,4,5,6]
     refine aS (nt:=109) (Z:=Nat×Nat) (fun⟨g89,g96⟩=>sX [(10,dJ g3),(11,bG (o.length)),(89,ay (some g89) 0 0 0),(90,dJ g1),(92,bG (o.length)),(96,ay (some g96) 0 1 1),(101,ay ob (if oc=o.length then 0 else o.length*38) (o.length-o.length) (oc-o.length))]) (fun⟨g89,g96⟩=>sY [⟨some g1,40,iH (ay ob 0 o.length oc) (rl 0),10,true⟩,⟨ob,63,ai aQ o,oN,true⟩,⟨some g3,63,aQ (aC (m,d2 x.f y.f)),38,true⟩,⟨some g89,63,[],0,true⟩,⟨some g96,63,aQ (aC (m,d2 x.f y.f)),38,true⟩]) 7 [2,4,5,8,13,14,15] (fun z=>?_) (fun hd12=>?_)
     ·obtain⟨g89,g96⟩:=z;(try dsimp only);refine Gx 2 ?_
      ·refine zG ?_;exact Nw hd4 ⟨g89,g96⟩ [0,1,2,3,4,5,6,7]
     refine aS (nt:=109) (Z:=Nat) (fun g89=>sX [(10,dJ g3),(11,bG (o.length)),(89,ay (some g89) 0 0 0),(93,ay ob 0 o.length oc),(101,ay ob (if oc=o.length then 0 else o.length*38) (o.length-o.length) (oc-o.length))]) (fun g89=>sY [⟨some g1,40,iH (ay ob 0 o.length oc) (rl 0),10,true⟩,⟨ob,63,ai aQ o,oN,true⟩,⟨some g3,63,aQ (aC (m,d2 x.f y.f)),38,true⟩,⟨some g89,63,[],0,true⟩]) 7 [5,6,7,8,13,14,15] (fun g89=>?_) (fun hd13=>?_)
     ·(try dsimp only);refine aV [5,6] ak rfl ⟨⟨_,rfl,?_⟩,⟨_,rfl,?_⟩,trivial⟩
      ·refine qan fun r=>?_;refine A1 ?_;exact Nw hd9 r [0,1,2,3,4,5,6]
      ·refine L38 5 0 ?_;refine A1 ?_;exact Nw hd8 g89 [0,1,2,3,4,5,6]
     refine aS (nt:=109) (Z:=Nat×Nat) (fun⟨g89,g96⟩=>sX [(10,dJ g3),(11,bG (o.length)),(89,ay (some g89) 0 0 0),(93,ay ob 0 o.length oc),(96,ay (some g96) 0 1 1),(98,dJ g1),(100,bG (o.length))]) (fun⟨g89,g96⟩=>sY [⟨some g1,40,iH (ay ob 0 o.length oc) (rl 0),10,true⟩,⟨ob,63,ai aQ o,oN,true⟩,⟨some g3,63,aQ (aC (m,d2 x.f y.f)),38,true⟩,⟨some g89,63,[],0,true⟩,⟨some g96,63,aQ (aC (m,d2 x.f y.f)),38,true⟩]) 7 [5,8,10,12,13,14,15] (fun z=>?_) (fun hd14=>?_)
     ·obtain⟨g89,g96⟩:=z;(try dsimp only);refine aV [5,10] ak rfl ⟨⟨_,rfl,?_⟩,⟨_,rfl,?_⟩,trivial⟩
      ·refine iK (s:=38) (len:=0) 6 4 (ai aQ o) (fun r=>[_,_,_,_,_,_,⟨r.b,63,ai aQ o,r.n,true⟩,_]) u32 V6 rfl rfl rfl rfl rfl rfl rfl rfl rfl rfl rfl (Nat.le_refl _) (Nat.le_refl _) hobs (List.take_of_length_le X8) (dS.length o) (dS.ones _) ae (fun _=>rfl) (fun r=>?_);refine A1 ?_;exact Nw hd10 ⟨r,g96⟩ [0,1,2,3,4,5,6,7]
      ·refine tH ?_;exact Nw hd4 ⟨g89,g96⟩ [0,1,2,3,4,5,6,7]
     refine aS (nt:=109) (Z:=OR (0+o.length) 38) (fun r=>sX [(10,dJ g3),(11,bG (o.length)),(94,ay r.b 0 (0+o.length) r.cap),(95,Gy (aC (m,d2 x.f y.f))),(98,dJ g1),(100,bG (o.length))]) (fun r=>sY [⟨some g1,40,iH (ay ob 0 o.length oc) (rl 0),10,true⟩,⟨ob,63,ai aQ o,oN,true⟩,⟨some g3,63,aQ (aC (m,d2 x.f y.f)),38,true⟩,⟨r.b,63,ai aQ o,r.n,true⟩]) 7 [7,8,10,12,13,14,15] (fun r=>?_) (fun hd15=>?_)
     ·(try dsimp only);refine aV [7,10] ak rfl ⟨⟨_,rfl,?_⟩,⟨_,rfl,?_⟩,trivial⟩
      ·refine(Bl 38 [(0,_)]) (qM) (fun g5=>?_);refine A1 ?_;exact Nw hd10 ⟨r,g5⟩ [0,1,2,3,4,5,6,7]
      ·refine tH ?_;exact Nw hd5 r [0,1,2,3,4,5,6]
     refine aS (nt:=109) (Z:=Nat) (fun g96=>sX [(10,dJ g3),(11,bG (o.length)),(90,dJ g1),(92,bG (o.length)),(96,ay (some g96) 0 1 1),(101,ay ob (if oc=o.length then 0 else o.length*38) (o.length-o.length) (oc-o.length))]) (fun g96=>sY [⟨some g1,40,iH (ay ob 0 o.length oc) (rl 0),10,true⟩,⟨ob,63,ai aQ o,oN,true⟩,⟨some g3,63,aQ (aC (m,d2 x.f y.f)),38,true⟩,⟨some g96,63,aQ (aC (m,d2 x.f y.f)),38,true⟩]) 8 [0,2,4,5,8,13,14,15] (fun g96=>?_) (fun hd16=>?_)
     ·(try dsimp only);refine aV [0,2] ak rfl ⟨⟨_,rfl,?_⟩,⟨_,rfl,?_⟩,trivial⟩
      ·refine(Bl 0 []) (sO) (fun g5=>?_);refine A1 ?_;exact Nw hd12 ⟨g5,g96⟩ [0,1,2,3,4,5,7,6]
      ·refine zG ?_;exact Nw hd7 g96 [0,1,2,3,4,5,6]
     refine aS (nt:=109) (Z:=Unit) (fun _=>sX [(10,dJ g3),(11,bG (o.length)),(93,ay ob 0 o.length oc),(101,ay ob (if oc=o.length then 0 else o.length*38) (o.length-o.length) (oc-o.length))]) (fun _=>sY [⟨some g1,40,iH (ay ob 0 o.length oc) (rl 0),10,true⟩,⟨ob,63,ai aQ o,oN,true⟩,⟨some g3,63,aQ (aC (m,d2 x.f y.f)),38,true⟩]) 8 [0,5,6,7,8,13,14,15] (fun z=>?_) (fun hd17=>?_)
     ·(try dsimp only);refine aV [0,6] ak rfl ⟨⟨_,rfl,?_⟩,⟨_,rfl,?_⟩,trivial⟩
      ·refine(Bl 0 []) (sO) (fun g4=>?_);refine A1 ?_;exact Nw hd13 g4 [0,1,2,3,4,5,6]
      ·refine L38 5 0 ?_;refine A1 ?_;exact Nw hd11 () [0,1,2,3,4,5]
     refine aS (nt:=109) (Z:=Nat) (fun g96=>sX [(10,dJ g3),(11,bG (o.length)),(93,ay ob 0 o.length oc),(96,ay (some g96) 0 1 1),(98,dJ g1),(100,bG (o.length))]) (fun g96=>sY [⟨some g1,40,iH (ay ob 0 o.length oc) (rl 0),10,true⟩,⟨ob,63,ai aQ o,oN,true⟩,⟨some g3,63,aQ (aC (m,d2 x.f y.f)),38,true⟩,⟨some g96,63,aQ (aC (m,d2 x.f y.f)),38,true⟩]) 8 [0,5,8,10,12,13,14,15] (fun g96=>?_) (fun hd18=>?_)
     ·(try dsimp only);refine aV [0,10] ak rfl ⟨⟨_,rfl,?_⟩,⟨_,rfl,?_⟩,trivial⟩
      ·refine(Bl 0 []) (sO) (fun g5=>?_);refine A1 ?_;exact Nw hd14 ⟨g5,g96⟩ [0,1,2,3,4,5,7,6]
      ·refine tH ?_;exact Nw hd7 g96 [0,1,2,3,4,5,6]
     refine aS (nt:=109) (Z:=Nat) (fun g89=>sX [(10,dJ g3),(11,bG (o.length)),(89,ay (some g89) 0 0 0),(90,dJ g1),(92,bG (o.length)),(95,Gy (aC (m,d2 x.f y.f))),(101,ay ob (if oc=o.length then 0 else o.length*38) (o.length-o.length) (oc-o.length))]) (fun g89=>sY [⟨some g1,40,iH (ay ob 0 o.length oc) (rl 0),10,true⟩,⟨ob,63,ai aQ o,oN,true⟩,⟨some g3,63,aQ (aC (m,d2 x.f y.f)),38,true⟩,⟨some g89,63,[],0,true⟩]) 8 [2,4,5,7,8,13,14,15] (fun g89=>?_) (fun hd19=>?_)
     ·(try dsimp only);refine aV [2,7] ak rfl ⟨⟨_,rfl,?_⟩,⟨_,rfl,?_⟩,trivial⟩
      ·refine zG ?_;exact Nw hd8 g89 [0,1,2,3,4,5,6]
      ·refine(Bl 38 [(0,_)]) (qM) (fun g5=>?_);refine A1 ?_;exact Nw hd12 ⟨g89,g5⟩ [0,1,2,3,4,5,6,7]
     refine aS (nt:=109) (Z:=Nat) (fun g89=>sX [(10,dJ g3),(11,bG (o.length)),(89,ay (some g89) 0 0 0),(93,ay ob 0 o.length oc),(95,Gy (aC (m,d2 x.f y.f))),(98,dJ g1),(100,bG (o.length))]) (fun g89=>sY [⟨some g1,40,iH (ay ob 0 o.length oc) (rl 0),10,true⟩,⟨ob,63,ai aQ o,oN,true⟩,⟨some g3,63,aQ (aC (m,d2 x.f y.f)),38,true⟩,⟨some g89,63,[],0,true⟩]) 8 [5,7,8,10,12,13,14,15] (fun g89=>?_) (fun hd20=>?_)
     ·(try dsimp only);refine aV [5,7,10] ak rfl ⟨⟨_,rfl,?_⟩,⟨_,rfl,?_⟩,⟨_,rfl,?_⟩,trivial⟩
      ·refine qan fun r=>?_;refine A1 ?_;exact Nw hd15 r [0,1,2,3,4,5,6]
      ·refine(Bl 38 [(0,_)]) (qM) (fun g5=>?_);refine A1 ?_;exact Nw hd14 ⟨g89,g5⟩ [0,1,2,3,4,5,6,7]
      ·refine tH ?_;exact Nw hd8 g89 [0,1,2,3,4,5,6]
     refine aS (nt:=109) (Z:=OR (0+o.length) 38) (fun r=>sX [(10,dJ g3),(11,bG (o.length)),(94,ay r.b 0 (0+o.length) r.cap),(98,dJ g1),(100,bG (o.length))]) (fun r=>sY [⟨some g1,40,iH (ay ob 0 o.length oc) (rl 0),10,true⟩,⟨ob,63,ai aQ o,oN,true⟩,⟨some g3,63,aQ (aC (m,d2 x.f y.f)),38,true⟩,⟨r.b,63,ai aQ o,r.n,true⟩]) 8 [6,7,8,10,12,13,14,15] (fun r=>?_) (fun hd21=>?_)
     ·(try dsimp only);refine aV [6,10] ak rfl ⟨⟨_,rfl,?_⟩,⟨_,rfl,?_⟩,trivial⟩
      ·refine L38 5 0 ?_;refine A1 ?_;exact Nw hd15 r [0,1,2,3,4,5,6]
      ·refine tH ?_;exact Nw hd9 r [0,1,2,3,4,5,6]
     refine aS (nt:=109) (Z:=Unit) (fun _=>sX [(10,dJ g3),(11,bG (o.length)),(90,dJ g1),(92,bG (o.length)),(95,Gy (aC (m,d2 x.f y.f))),(101,ay ob (if oc=o.length then 0 else o.length*38) (o.length-o.length) (oc-o.length))]) (fun _=>sY [⟨some g1,40,iH (ay ob 0 o.length oc) (rl 0),10,true⟩,⟨ob,63,ai aQ o,oN,true⟩,⟨some g3,63,aQ (aC (m,d2 x.f y.f)),38,true⟩]) 9 [0,2,4,5,7,8,13,14,15] (fun z=>?_) (fun hd22=>?_)
     ·(try dsimp only);refine aV [0,2,7] ak rfl ⟨⟨_,rfl,?_⟩,⟨_,rfl,?_⟩,⟨_,rfl,?_⟩,trivial⟩
      ·refine(Bl 0 []) (sO) (fun g4=>?_);refine A1 ?_;exact Nw hd19 g4 [0,1,2,3,4,5,6]
      ·refine zG ?_;exact Nw hd11 () [0,1,2,3,4,5]
      ·refine(Bl 38 [(0,_)]) (qM) (fun g4=>?_);refine A1 ?_;exact Nw hd16 g4 [0,1,2,3,4,5,6]
     refine aS (nt:=109) (Z:=Unit) (fun _=>sX [(10,dJ g3),(11,bG (o.length)),(93,ay ob 0 o.length oc),(95,Gy (aC (m,d2 x.f y.f))),(98,dJ g1),(100,bG (o.length))]) (fun _=>sY [⟨some g1,40,iH (ay ob 0 o.length oc) (rl 0),10,true⟩,⟨ob,63,ai aQ o,oN,true⟩,⟨some g3,63,aQ (aC (m,d2 x.f y.f)),38,true⟩]) 9 [0,5,7,8,10,12,13,14,15] (fun z=>?_) (fun hd23=>?_)
     ·(try dsimp only);refine aV [0,7,10] ak rfl ⟨⟨_,rfl,?_⟩,⟨_,rfl,?_⟩,⟨_,rfl,?_⟩,trivial⟩
      ·refine(Bl 0 []) (sO) (fun g4=>?_);refine A1 ?_;exact Nw hd20 g4 [0,1,2,3,4,5,6]
      ·refine(Bl 38 [(0,_)]) (qM) (fun g4=>?_);refine A1 ?_;exact Nw hd18 g4 [0,1,2,3,4,5,6]
      ·refine tH ?_;exact Nw hd11 () [0,1,2,3,4,5]
     refine aS (nt:=109) (Z:=Nat) (fun g89=>sX [(10,dJ g3),(11,bG (o.length)),(89,ay (some g89) 0 0 0),(90,dJ g1),(92,bG (o.length)),(101,ay ob (if oc=o.length then 0 else o.length*38) (o.length-o.length) (oc-o.length))]) (fun g89=>sY [⟨some g1,40,iH (ay ob 0 o.length oc) (rl 0),10,true⟩,⟨ob,63,ai aQ o,oN,true⟩,⟨some g3,63,aQ (aC (m,d2 x.f y.f)),38,true⟩,⟨some g89,63,[],0,true⟩]) 9 [2,4,5,6,7,8,13,14,15] (fun g89=>?_) (fun hd24=>?_)
     ·(try dsimp only);refine aV [2,6] ak rfl ⟨⟨_,rfl,?_⟩,⟨_,rfl,?_⟩,trivial⟩
      ·refine zG ?_;exact Nw hd13 g89 [0,1,2,3,4,5,6]
      ·refine L38 5 0 ?_;refine A1 ?_;exact Nw hd19 g89 [0,1,2,3,4,5,6]
     refine aS (nt:=109) (Z:=Nat×Nat) (fun⟨g89,g96⟩=>sX [(10,dJ g3),(11,bG (o.length)),(89,ay (some g89) 0 0 0),(90,dJ g1),(92,bG (o.length)),(96,ay (some g96) 0 1 1),(98,dJ g1),(100,bG (o.length))]) (fun⟨g89,g96⟩=>sY [⟨some g1,40,iH (ay ob 0 o.length oc) (rl 0),10,true⟩,⟨ob,63,ai aQ o,oN,true⟩,⟨some g3,63,aQ (aC (m,d2 x.f y.f)),38,true⟩,⟨some g89,63,[],0,true⟩,⟨some g96,63,aQ (aC (m,d2 x.f y.f)),38,true⟩]) 9 [2,4,5,8,10,12,13,14,15] (fun z=>?_) (fun hd25=>?_)
     ·obtain⟨g89,g96⟩:=z;(try dsimp only);refine aV [2,10] ak rfl ⟨⟨_,rfl,?_⟩,⟨_,rfl,?_⟩,trivial⟩
      ·refine zG ?_;exact Nw hd14 ⟨g89,g96⟩ [0,1,2,3,4,5,6,7]
      ·refine tH ?_;exact Nw hd12 ⟨g89,g96⟩ [0,1,2,3,4,5,6,7]
     refine aS (nt:=109) (Z:=Nat) (fun g89=>sX [(10,dJ g3),(11,bG (o.length)),(89,ay (some g89) 0 0 0),(93,ay ob 0 o.length oc),(98,dJ g1),(100,bG (o.length))]) (fun g89=>sY [⟨some g1,40,iH (ay ob 0 o.length oc) (rl 0),10,true⟩,⟨ob,63,ai aQ o,oN,true⟩,⟨some g3,63,aQ (aC (m,d2 x.f y.f)),38,true⟩,⟨some g89,63,[],0,true⟩]) 9 [5,6,7,8,10,12,13,14,15] (fun g89=>?_) (fun hd26=>?_)
     ·(try dsimp only);refine aV [5,6,10] ak rfl ⟨⟨_,rfl,?_⟩,⟨_,rfl,?_⟩,⟨_,rfl,?_⟩,trivial⟩
      ·refine qan fun r=>?_;refine A1 ?_;exact Nw hd21 r [0,1,2,3,4,5,6]
      ·refine L38 5 0 ?_;refine A1 ?_;exact Nw hd20 g89 [0,1,2,3,4,5,6]
      ·refine tH ?_;exact Nw hd13 g89 [0,1,2,3,4,5,6]
     refine aS (nt:=109) (Z:=Unit) (fun _=>sX [(10,dJ g3),(11,bG (o.length)),(90,dJ g1),(92,bG (o.length)),(101,ay ob (if oc=o.length then 0 else o.length*38) (o.length-o.length) (oc-o.length))]) (fun _=>sY [⟨some g1,40,iH (ay ob 0 o.length oc) (rl 0),10,true⟩,⟨ob,63,ai aQ o,oN,true⟩,⟨some g3,63,aQ (aC (m,d2 x.f y.f)),38,true⟩]) 10 [0,2,4,5,6,7,8,13,14,15] (fun z=>?_) (fun hd27=>?_)
     ·(try dsimp only);refine aV [0,2,6] ak rfl ⟨⟨_,rfl,?_⟩,⟨_,rfl,?_⟩,⟨_,rfl,?_⟩,trivial⟩
      ·refine(Bl 0 []) (sO) (fun g4=>?_);refine A1 ?_;exact Nw hd24 g4 [0,1,2,3,4,5,6]
      ·refine zG ?_;exact Nw hd17 () [0,1,2,3,4,5]
      ·refine L38 5 0 ?_;refine A1 ?_;exact Nw hd22 () [0,1,2,3,4,5]
     refine aS (nt:=109) (Z:=Nat) (fun g96=>sX [(10,dJ g3),(11,bG (o.length)),(90,dJ g1),(92,bG (o.length)),(96,ay (some g96) 0 1 1),(98,dJ g1),(100,bG (o.length))]) (fun g96=>sY [⟨some g1,40,iH (ay ob 0 o.length oc) (rl 0),10,true⟩,⟨ob,63,ai aQ o,oN,true⟩,⟨some g3,63,aQ (aC (m,d2 x.f y.f)),38,true⟩,⟨some g96,63,aQ (aC (m,d2 x.f y.f)),38,true⟩]) 10 [0,2,4,5,8,10,12,13,14,15] (fun g96=>?_) (fun hd28=>?_)
     ·(try dsimp only);refine aV [0,2,10] ak rfl ⟨⟨_,rfl,?_⟩,⟨_,rfl,?_⟩,⟨_,rfl,?_⟩,trivial⟩
      ·refine(Bl 0 []) (sO) (fun g5=>?_);refine A1 ?_;exact Nw hd25 ⟨g5,g96⟩ [0,1,2,3,4,5,7,6]
      ·refine zG ?_;exact Nw hd18 g96 [0,1,2,3,4,5,6]
      ·refine tH ?_;exact Nw hd16 g96 [0,1,2,3,4,5,6]
     refine aS (nt:=109) (Z:=Unit) (fun _=>sX [(10,dJ g3),(11,bG (o.length)),(93,ay ob 0 o.length oc),(98,dJ g1),(100,bG (o.length))]) (fun _=>sY [⟨some g1,40,iH (ay ob 0 o.length oc) (rl 0),10,true⟩,⟨ob,63,ai aQ o,oN,true⟩,⟨some g3,63,aQ (aC (m,d2 x.f y.f)),38,true⟩]) 10 [0,5,6,7,8,10,12,13,14,15] (fun z=>?_) (fun hd29=>?_)
     ·(try dsimp only);refine aV [0,6,10] ak rfl ⟨⟨_,rfl,?_⟩,⟨_,rfl,?_⟩,⟨_,rfl,?_⟩,trivial⟩
      ·refine(Bl 0 []) (sO) (fun g4=>?_);refine A1 ?_;exact Nw hd26 g4 [0,1,2,3,4,5,6]
      ·refine L38 5 0 ?_;refine A1 ?_;exact Nw hd23 () [0,1,2,3,4,5]
      ·refine tH ?_;exact Nw hd17 () [0,1,2,3,4,5]
     refine aS (nt:=109) (Z:=Nat) (fun g89=>sX [(10,dJ g3),(11,bG (o.length)),(89,ay (some g89) 0 0 0),(90,dJ g1),(92,bG (o.length)),(95,Gy (aC (m,d2 x.f y.f))),(98,dJ g1),(100,bG (o.length))]) (fun g89=>sY [⟨some g1,40,iH (ay ob 0 o.length oc) (rl 0),10,true⟩,⟨ob,63,ai aQ o,oN,true⟩,⟨some g3,63,aQ (aC (m,d2 x.f y.f)),38,true⟩,⟨some g89,63,[],0,true⟩]) 10 [2,4,5,7,8,10,12,13,14,15] (fun g89=>?_) (fun hd30=>?_)
     ·(try dsimp only);refine aV [2,7,10] ak rfl ⟨⟨_,rfl,?_⟩,⟨_,rfl,?_⟩,⟨_,rfl,?_⟩,trivial⟩
      ·refine zG ?_;exact Nw hd20 g89 [0,1,2,3,4,5,6]
      ·refine(Bl 38 [(0,_)]) (qM) (fun g5=>?_);refine A1 ?_;exact Nw hd25 ⟨g89,g5⟩ [0,1,2,3,4,5,6,7]
      ·refine tH ?_;exact Nw hd19 g89 [0,1,2,3,4,5,6]
     refine aS (nt:=109) (Z:=Unit) (fun _=>sX [(10,dJ g3),(11,bG (o.length)),(90,dJ g1),(92,bG (o.length)),(95,Gy (aC (m,d2 x.f y.f))),(98,dJ g1),(100,bG (o.length))]) (fun _=>sY [⟨some g1,40,iH (ay ob 0 o.length oc) (rl 0),10,true⟩,⟨ob,63,ai aQ o,oN,true⟩,⟨some g3,63,aQ (aC (m,d2 x.f y.f)),38,true⟩]) 11 [0,2,4,5,7,8,10,12,13,14,15] (fun z=>?_) (fun hd31=>?_)
     ·(try dsimp only);refine aV [0,2,7,10] ak rfl ⟨⟨_,rfl,?_⟩,⟨_,rfl,?_⟩,⟨_,rfl,?_⟩,⟨_,rfl,?_⟩,trivial⟩
      ·refine(Bl 0 []) (sO) (fun g4=>?_);refine A1 ?_;exact Nw hd30 g4 [0,1,2,3,4,5,6]
      ·refine zG ?_;exact Nw hd23 () [0,1,2,3,4,5]
      ·refine(Bl 38 [(0,_)]) (qM) (fun g4=>?_);refine A1 ?_;exact Nw hd28 g4 [0,1,2,3,4,5,6]
      ·refine tH ?_;exact Nw hd22 () [0,1,2,3,4,5]
     refine aS (nt:=109) (Z:=Nat) (fun g89=>sX [(10,dJ g3),(11,bG (o.length)),(89,ay (some g89) 0 0 0),(90,dJ g1),(92,bG (o.length)),(98,dJ g1),(100,bG (o.length))]) (fun g89=>sY [⟨some g1,40,iH (ay ob 0 o.length oc) (rl 0),10,true⟩,⟨ob,63,ai aQ o,oN,true⟩,⟨some g3,63,aQ (aC (m,d2 x.f y.f)),38,true⟩,⟨some g89,63,[],0,true⟩]) 11 [2,4,5,6,7,8,10,12,13,14,15] (fun g89=>?_) (fun hd32=>?_)
     ·(try dsimp only);refine aV [2,6,10] ak rfl ⟨⟨_,rfl,?_⟩,⟨_,rfl,?_⟩,⟨_,rfl,?_⟩,trivial⟩
      ·refine zG ?_;exact Nw hd26 g89 [0,1,2,3,4,5,6]
      ·refine L38 5 0 ?_;refine A1 ?_;exact Nw hd30 g89 [0,1,2,3,4,5,6]
      ·refine tH ?_;exact Nw hd24 g89 [0,1,2,3,4,5,6]
     refine Nt 1 ?_;refine Fg 0 0 ?_;refine A1 ?_;refine Nt 3 ?_;refine A2 ?_;refine Nt 9 ?_;refine Fg 0 0 ?_;refine A1 ?_;refine Nt 11 ?_;refine A2 ?_;refine aV [0,2,6,10] ak rfl ⟨⟨_,rfl,?_⟩,⟨_,rfl,?_⟩,⟨_,rfl,?_⟩,⟨_,rfl,?_⟩,trivial⟩
     ·refine(Bl 0 []) (sO) (fun g4=>?_);refine A1 ?_;exact Nw hd32 g4 [0,1,2,3,4,5,6]
     ·refine zG ?_;exact Nw hd29 () [0,1,2,3,4,5]
     ·refine L38 5 0 ?_;refine A1 ?_;exact Nw hd31 () [0,1,2,3,4,5]
     ·refine tH ?_;exact Nw hd27 () [0,1,2,3,4,5]
    rintro⟨g96,r3⟩;show At _ ⟨109,[(0,ay (some ga) 0 a.length ac),(1,ay (some gb) 0 b.length bc),(4,dJ g0),(5,dJ g1),(6,bG i),(7,bG j)],[⟨some ga,100,ai aB a,aN,false⟩,⟨some gb,100,ai aB b,bN,false⟩,⟨some g0,40,RJ,10,true⟩,⟨some g1,40,iH (ay r3.b 0 (0+o.length+1+(o.length-o.length)) r3.cap) (rl 0),10,true⟩,⟨ob,63,ai aQ o,oN,true⟩,⟨some g3,63,aQ (aC (m,d2 x.f y.f)),38,true⟩,⟨r3.b,63,(ai aQ o++aQ (aC (m,d2 x.f y.f)))++ai aQ (o.drop o.length),r3.n,true⟩,⟨some g96,63,aQ (aC (m,d2 x.f y.f)),38,true⟩]⟩ _;refine A4 ?_;refine Ar (((j+1:Nat):Int)) ?_;refine A3 ?_;exact Nl ⟨⟨j+1,o++[aC (m,d2 x.f y.f)],r3.b,r3.n,r3.cap⟩,hjt,by show o++_=(kE a b i++yu x b (j+1)).map aC;rw[RN hy,hz,hI];simp,by have:=r3.h;simp at this ⊢;omega,r3.hn⟩ (hμ:=X7) (hL:=(aA [some 0,some 1,some 2,some 3,some 6] ⟨pR,pR,pR,⟨_,rfl,bn (by rw[show(o++[aC (m,d2 x.f y.f)]).length=(0+o.length+1+(o.length-o.length)) from bI])⟩,⟨_,rfl,bn (by rw[qP,List.drop_length];simp[ai])⟩,trivial⟩ rfl rfl))
  ·have hge:j=b.length:=nH;subst hge;refine A8 ?_;refine dP ?_;exact Nl ⟨⟨i+1,o,ob,oN,oc⟩,hlt,by show o=(kE a b (i+1)).map aC;rw[ZZ hx];exact hI,h3,h4⟩ (hμ:=XF) (hL:=dR.auto)
 ·have hge:i=a.length:=jc;subst hge;obtain rfl:o=(aj a b).map aC:=by rw[hI,qbY H]
  refine A9 ?_;refine(Sd [4]) (RI ((aj a b).map aC) ob oN oc h3 (by rw[List.length_map];omega) (PV hsa hsb)) ?_;refine A1 ?_;refine Ss 3 ?_;refine A4 ?_;refine L10 3 0 ?_;refine eG ?_;refine qpa 2 fun w hL=>⟨⟨ob,oN,oc,h3⟩,?_,hL.pk [some 4]⟩;exact rfl
end Go.Proofs.YtaffcpfhedadhaaGreatDoor
namespace Go.Via
open Go
section
variable{a b:List PU}{p:ny}{i j:Nat}{x y:PU}{z:Iv×Qd}
def Vz(h:NoR a b p.i a.length):oC a b p=false:=by
 have e:flatK rZ a b=kE a b a.length:=by unfold kE flatK;rw[List.take_length]
 have hn:(kE a b a.length).find? (fun x=>uU x.1 p.i)=none:=P5 fun z hz=>h z hz
 unfold oC;rw[e,hn];rfl
theorem VA(hx:a[i]? =some x)(hy:b[j]? =some y)(hz:rZ x y=some z)(h:NoC a b p.i i x j)(hc:uU z.1 p.i=true):oC a b p=FU z.2:=by
 obtain⟨r,e⟩:=Gl hx hy hz
 have hn:(kE a b i++yu x b j).find? (fun x=>uU x.1 p.i)=none:=P5 fun z hz=>h z hz
 have hf:(kE a b i++yu x b j++z::r).find? (fun x=>uU x.1 p.i)=some z:=by
  rw[List.find?_append,hn,Option.none_or,List.find?_cons,hc]
 unfold oC;rw[e,hf];rfl
def qgK{q:Iv}(hp:gV q.f∧gV q.t)(hk:aW gG q.b<aW gG q.e):gm (mF 3) [q] []≠[]:=fun h=>by
 have h1:=(He nz (op:=mF 3) rfl (AV hp) LM).1 h (aW gG q.b)
 have h3:memB gG [q] (aW gG q.b)=true:=Pn.2 ⟨q,List.mem_cons_self ..,Int.le_refl _,hk⟩
 rw[h3] at h1
 exact absurd h1 (show¬mF 3 true false=false by decide)
def qj2(hy:b[j]? =some y)(h:0<(gm (mF 3) [p.i] (dB x.i y.i).toList).length)(hN:NoC a b p.i i x j):NoC a b p.i i x (j+1):=by
 rcases hq:dB x.i y.i with _|m
 ·exact qpV hy (qf9 hq) hN
 ·exact qpW hy (RP hq) (qnY (x:=m) (by rw[hq];rfl) h) hN
def qgL(hx:a[i]? =some x)(hy:b[j]? =some y)(hN:NoC a b p.i i x j)(hp:gV p.i.f∧gV p.i.t)(hk:aW gG p.i.b<aW gG p.i.e)(h:(gm (mF 3) [p.i] (dB x.i y.i).toList).length=0):decide (uj (d2 x.f y.f)<1)=oC a b p:=by
 rcases hq:dB x.i y.i with _|m
 ·rw[hq] at h;exact absurd (List.length_eq_zero_iff.1 h) (qgK hp hk)
 ·rw[VA hx hy (RP hq) hN (qj0 (by rw[hq];rfl) h),qld]
def qcb{u v:Iv}:(dB u v).toList.length<=1000:=by cases dB u v<;>simp
def qgM(H:CW a b)(hsa:DC a)(hsb:DC b)(hx:a[i]? =some x)(hy:b[j]? =some y):∀u∈(dB x.i y.i).toList,jH u<=50000:=fun u hu=>by
 rcases hq:dB x.i y.i with _|m
 ·rw[hq] at hu;cases hu
 ·rw[hq] at hu
  have h:=vJ hsa hsb _ (Z5 H hx hy (RP hq))
  replace h:jH m<=100∧ui (d2 x.f y.f)<=820:=h
  rw[show u=m by simpa using hu];omega
end
end Go.Via
namespace Go.Proofs.YtaffcpfhedadhaaGreatDoor
open Go Go.RowKit Go.Via
def Ns(f:Qd):aP Tryz.prog 73 #[qp f] (.int .i64 (uj f)):=by
 refine⟨ak,fun w=>?_⟩;refine cB1 18 Tryz.func73 (bg.nil w) ?_;refine A2 ?_;refine Bo [_,_,_,_,_,_,_,_,_,_,_,_] 12 (fun g=>[⟨some g,91,_,12,true⟩]) (fun g0=>?_);refine A8 ?_;refine aG 0 8 [_,_,_,_] rfl rfl rfl rfl yI rfl rfl rfl rfl ?_;refine aF 5 (Q f.c2) rfl rfl ?_;refine Pc (iG f.c2) ?_;refine A4 ?_;refine gQ rfl (fun hb0=>?_) (fun hb0=>?_)
 ·
  have hc2:f.c2≠0:=by have e:=hb0;simpa using e
  refine A8 ?_;refine aK rfl (au rfl) (fun w hL=>⟨?_,hL.below⟩);exact congrArg (fun z=>Ending.returned (.int .i64 z)) (by unfold uj;rw[if_pos hc2])
 ·
  have hc2:f.c2=0:=by have e:=hb0;simpa using e
  refine A3 ?_;refine aG 0 4 [_,_,_,_] rfl rfl rfl rfl yI rfl rfl rfl rfl ?_;refine aF 10 (Q f.c1) rfl rfl ?_;refine Pc (iG f.c1) ?_;refine A4 ?_;refine gQ rfl (fun hb1=>?_) (fun hb1=>?_)
  ·
   have hc1:f.c1≠0:=by have e:=hb1;simpa using e
   refine A8 ?_;refine aK rfl (au rfl) (fun w hL=>⟨?_,hL.below⟩);exact congrArg (fun z=>Ending.returned (.int .i64 z)) (by unfold uj;rw[if_neg (fun e=>e hc2),if_pos hc1])
  ·
   have hc1:f.c1=0:=by have e:=hb1;simpa using e
   refine A3 ?_;refine aG 0 0 [_,_,_,_] rfl rfl rfl rfl yI rfl rfl rfl rfl ?_;refine aF 15 (Q f.c0) rfl rfl ?_;refine Pc (iG f.c0) ?_;refine A4 ?_;refine gQ rfl (fun hb2=>?_) (fun hb2=>?_)
   ·
    have hc0:f.c0≠0:=by have e:=hb2;simpa using e
    refine A8 ?_;refine aK rfl (au rfl) (fun w hL=>⟨?_,hL.below⟩);exact congrArg (fun z=>Ending.returned (.int .i64 z)) (by unfold uj;rw[if_neg (fun e=>e hc2),if_neg (fun e=>e hc1),if_pos hc0])
   ·
    have hc0:f.c0=0:=by have e:=hb2;simpa using e
    refine A9 ?_;refine aK rfl (au rfl) (fun w hL=>⟨?_,hL.below⟩);exact congrArg (fun z=>Ending.returned (.int .i64 z)) (by unfold uj;rw[if_neg (fun e=>e hc2),if_neg (fun e=>e hc1),if_neg (fun e=>e hc0)])
def Ib(a:List PU)(ab:Option Nat)(aN ac:Nat)(hac:a.length<=ac)(han:a.length<=400)(b:List PU)(bb:Option Nat)(bN bc:Nat)(hbc:b.length<=bc)(hbn:b.length<=400)(hsa:DC a)(hsb:DC b)(H:CW a b)(p:ny)(hpe:gV p.i.f∧gV p.i.t)(hpk:aW gG p.i.b<aW gG p.i.e:=by omega)(hps0:jH p.i<=10000:=by omega):bZ Tryz.prog 30 [⟨ab,100,ai aB a,aN,false⟩,⟨bb,100,ai aB b,bN,false⟩] [ay ab 0 a.length ac,ay bb 0 b.length bc,Gy p] Unit (fun _=> .bool (oC a b p)) (fun _=>[]):=by
 refine⟨ak,fun w hL0=>?_⟩;have hpi:jH p.i<=50000:=Nat.le_trans hps0 ae;refine cB3 53 Tryz.func30 hL0 ?_;refine A2 ?_;refine Bo [_,_,_,_,_,_,_,_,_,_,_,_,_,_,_,_,_,_,_,_,_,_,_,_,_,_,_,_,_,_,_,_,_,_,_,_,_,_] 38 (fun g=>[_,_,⟨some g,63,_,38,true⟩]) (fun g0=>?_);refine lD ?_;refine El (ι:={i:Nat // i<=a.length∧NoR a b p.i i}) (fun⟨i,hi,hN⟩=>([(0,ay ab 0 a.length ac),(1,ay bb 0 b.length bc),(5,.pointer (some ⟨g0,0,none⟩)),(6,.bool false),(7,.int .i64 (i:Nat))],[⟨ab,100,ai aB a,aN,false⟩,⟨bb,100,ai aB b,bN,false⟩,⟨some g0,63,aQ p,38,true⟩],a.length-i)) ⟨0,Nat.zero_le _,qrW⟩ ?_ (hL:=dR.auto);rintro⟨i,hi,hN⟩;(try dsimp only);refine A9 ?_;refine gQ rfl (fun hb1=>?_) (fun hb1=>?_)
 ·
  have hlt:i<a.length:=Rw
  obtain⟨x,hx⟩:∃x,a[i]? =some x:=⟨a[i],List.getElem?_eq_getElem hlt⟩
  have hxm:=List.mem_of_getElem? hx;have hxs:=hsa x hxm;have hxe:=H.ea x hxm;refine lD ?_;refine El (ι:={j:Nat // j<=b.length∧NoC a b p.i i x j}) (fun⟨j,hj,hM⟩=>([(0,ay ab 0 a.length ac),(1,ay bb 0 b.length bc),(5,.pointer (some ⟨g0,0,none⟩)),(6,.bool false),(7,.int .i64 (i:Nat)),(8,.int .i64 (j:Nat))],[⟨ab,100,ai aB a,aN,false⟩,⟨bb,100,ai aB b,bN,false⟩,⟨some g0,63,aQ p,38,true⟩],b.length-j)) ⟨0,Nat.zero_le _,qrX hN⟩ ?_ (hL:=dR.auto);rintro⟨j,hj,hM⟩;(try dsimp only);refine A9 ?_;refine gQ rfl (fun hb3=>?_) (fun hb3=>?_)
  ·
   have hjt:j<b.length:=(by have:=of_decide_eq_true hb3;omega)
   obtain⟨y,hy⟩:∃y,b[j]? =some y:=⟨b[j],List.getElem?_eq_getElem hjt⟩
   have hym:=List.mem_of_getElem? hy;have hys:=hsb y hym;have hye:=H.eb y hym;have hmz:=qgM H hsa hsb hx hy;have hmc:(dB x.i y.i).toList.length<=1000:=qcb;refine dL 0 rfl (aX.ne ax ae) (fun hbs=>?_);obtain⟨ga,hga⟩:=Option.isSome_iff_exists.1 hbs;replace hga:ab=some ga:=hga;subst hga;refine dL 1 rfl (aX.ne ax ae) (fun hbs=>?_);obtain⟨gb,hgb⟩:=Option.isSome_iff_exists.1 hbs;replace hgb:bb=some gb:=hgb;subst hgb;refine A5 ?_;refine xY (nt:=53) (Z:=Nat×Nat×Nat×(SR (dB x.i y.i).toList.length)×(SR (gm (mF 3) [p.i] (dB x.i y.i).toList).length)) (fun⟨gp,gx,gy,⟨cb,cN,cc,hcc⟩,⟨db,dN,dc,hdc⟩⟩=>[(0,ay (some ga) 0 a.length ac),(1,ay (some gb) 0 b.length bc),(5,.pointer (some ⟨g0,0,none⟩)),(6,.bool false),(7,.int .i64 (i:Nat)),(8,.int .i64 (j:Nat)),(39,.bool (decide (((gm (mF 3) [p.i] (dB x.i y.i).toList).length:Int)=0)))]) (fun⟨gp,gx,gy,⟨cb,cN,cc,hcc⟩,⟨db,dN,dc,hdc⟩⟩=>[⟨some ga,100,ai aB a,aN,false⟩,⟨some gb,100,ai aB b,bN,false⟩,⟨some g0,63,aQ p,38,true⟩,⟨some gp,61,aO p.i,20,true⟩,⟨some gx,61,aO x.i,20,true⟩,⟨some gy,61,aO y.i,20,true⟩,⟨cb,61,ai aO (dB x.i y.i).toList,cN,true⟩,⟨db,61,ai aO (gm (mF 3) [p.i] (dB x.i y.i).toList),dN,true⟩]) 19 [0,1,2,3,4,5,6,7,8,9,10,11,12,13,14,15,16,17,18] mixed ak (fun hd0=>?_) ?_
   ·
    refine aS (nt:=53) (Z:=Nat×Nat×Nat×(SR (dB x.i y.i).toList.length)) (fun⟨gp,gx,gy,⟨cb,cN,cc,hcc⟩⟩=>[(0,ay (some ga) 0 a.length ac),(1,ay (some gb) 0 b.length bc),(5,.pointer (some ⟨g0,0,none⟩)),(6,.bool false),(7,.int .i64 (i:Nat)),(8,.int .i64 (j:Nat)),(23,ay (some gp) 0 1 1),(36,ay cb 0 (dB x.i y.i).toList.length cc)]) (fun⟨gp,gx,gy,⟨cb,cN,cc,hcc⟩⟩=>[⟨some ga,100,ai aB a,aN,false⟩,⟨some gb,100,ai aB b,bN,false⟩,⟨some g0,63,aQ p,38,true⟩,⟨some gp,61,aO p.i,20,true⟩,⟨some gx,61,aO x.i,20,true⟩,⟨some gy,61,aO y.i,20,true⟩,⟨cb,61,ai aO (dB x.i y.i).toList,cN,true⟩]) 3 [16,17,18] (fun z=>?_) (fun hd1=>?_)
    ·
     obtain⟨gp,gx,gy,⟨cb,cN,cc,hcc⟩⟩:=z;show ja _ _ _ _ _ _ ⟨53,[(0,ay (some ga) 0 a.length ac),(1,ay (some gb) 0 b.length bc),(5,.pointer (some ⟨g0,0,none⟩)),(6,.bool false),(7,.int .i64 (i:Nat)),(8,.int .i64 (j:Nat)),(23,ay (some gp) 0 1 1),(36,ay cb 0 (dB x.i y.i).toList.length cc)],[⟨some ga,100,ai aB a,aN,false⟩,⟨some gb,100,ai aB b,bN,false⟩,⟨some g0,63,aQ p,38,true⟩,⟨some gp,61,aO p.i,20,true⟩,⟨some gx,61,aO x.i,20,true⟩,⟨some gy,61,aO y.i,20,true⟩,⟨cb,61,ai aO (dB x.i y.i).toList,cN,true⟩]⟩;refine aV [16] ak rfl ⟨⟨_,rfl,?_⟩,trivial⟩
     ·
      refine fQ [_,_,_] [3,6] rfl rfl rfl (qj1 p.i hpi gp _ (dB x.i y.i).toList cb cN cc hcc hmc hmz) ⟨⟨_,rfl,fM⟩,⟨_,rfl,fM⟩,trivial⟩ rfl (.inr fun x b hb=>sZ) (fun zd=>?_);obtain⟨db,dN,dc,hdc⟩:=zd;refine A1 ?_;refine oV 17 (l':=[⟨_,_,_,_,_,_⟩]) ak rfl ?_;refine A2 ?_;refine oV 18 (l':=[⟨_,_,_,_,_,_⟩]) ak rfl ?_;refine A2 ?_;exact bF hd0 ⟨gp,gx,gy,⟨cb,cN,cc,hcc⟩,⟨db,dN,dc,hdc⟩⟩ ⟨rfl,rfl,rfl,rfl,rfl,rfl,rfl,trivial⟩ (aT [some 0,some 1,some 2,some 3,some 4,some 5,some 6,some 7])
    refine aS (nt:=53) (Z:=Nat×Nat×(SR (dB x.i y.i).toList.length)) (fun⟨gx,gy,⟨cb,cN,cc,hcc⟩⟩=>[(0,ay (some ga) 0 a.length ac),(1,ay (some gb) 0 b.length bc),(5,.pointer (some ⟨g0,0,none⟩)),(6,.bool false),(7,.int .i64 (i:Nat)),(8,.int .i64 (j:Nat)),(22,fV p.i),(36,ay cb 0 (dB x.i y.i).toList.length cc)]) (fun⟨gx,gy,⟨cb,cN,cc,hcc⟩⟩=>[⟨some ga,100,ai aB a,aN,false⟩,⟨some gb,100,ai aB b,bN,false⟩,⟨some g0,63,aQ p,38,true⟩,⟨some gx,61,aO x.i,20,true⟩,⟨some gy,61,aO y.i,20,true⟩,⟨cb,61,ai aO (dB x.i y.i).toList,cN,true⟩]) 4 [2,16,17,18] (fun z=>?_) (fun hd2=>?_)
    ·
     obtain⟨gx,gy,⟨cb,cN,cc,hcc⟩⟩:=z;show ja _ _ _ _ _ _ ⟨53,[(0,ay (some ga) 0 a.length ac),(1,ay (some gb) 0 b.length bc),(5,.pointer (some ⟨g0,0,none⟩)),(6,.bool false),(7,.int .i64 (i:Nat)),(8,.int .i64 (j:Nat)),(22,fV p.i),(36,ay cb 0 (dB x.i y.i).toList.length cc)],[⟨some ga,100,ai aB a,aN,false⟩,⟨some gb,100,ai aB b,bN,false⟩,⟨some g0,63,aQ p,38,true⟩,⟨some gx,61,aO x.i,20,true⟩,⟨some gy,61,aO y.i,20,true⟩,⟨cb,61,ai aO (dB x.i y.i).toList,cN,true⟩]⟩;refine aV [2] ak rfl ⟨⟨_,rfl,?_⟩,trivial⟩
     ·
      refine lg [(0,_)] (fun g=>[_,_,_,_,_,_,⟨some g,61,_,20,true⟩]) rfl rfl rfl (jh) rfl (fun _=>rfl) (fun g3=>?_);refine A1 ?_;exact bF hd1 ⟨g3,gx,gy,⟨cb,cN,cc,hcc⟩⟩ ⟨rfl,rfl,rfl,rfl,rfl,rfl,rfl,rfl,trivial⟩ (aT [some 0,some 1,some 2,some 6,some 3,some 4,some 5])
    refine aS (nt:=53) (Z:=Nat×Nat×Nat) (fun⟨gp,gx,gy⟩=>[(0,ay (some ga) 0 a.length ac),(1,ay (some gb) 0 b.length bc),(5,.pointer (some ⟨g0,0,none⟩)),(6,.bool false),(7,.int .i64 (i:Nat)),(8,.int .i64 (j:Nat)),(23,ay (some gp) 0 1 1),(29,ay (some gx) 0 1 1),(35,ay (some gy) 0 1 1)]) (fun⟨gp,gx,gy⟩=>[⟨some ga,100,ai aB a,aN,false⟩,⟨some gb,100,ai aB b,bN,false⟩,⟨some g0,63,aQ p,38,true⟩,⟨some gp,61,aO p.i,20,true⟩,⟨some gx,61,aO x.i,20,true⟩,⟨some gy,61,aO y.i,20,true⟩]) 4 [15,16,17,18] (fun z=>?_) (fun hd3=>?_)
    ·
     obtain⟨gp,gx,gy⟩:=z;show ja _ _ _ _ _ _ ⟨53,[(0,ay (some ga) 0 a.length ac),(1,ay (some gb) 0 b.length bc),(5,.pointer (some ⟨g0,0,none⟩)),(6,.bool false),(7,.int .i64 (i:Nat)),(8,.int .i64 (j:Nat)),(23,ay (some gp) 0 1 1),(29,ay (some gx) 0 1 1),(35,ay (some gy) 0 1 1)],[⟨some ga,100,ai aB a,aN,false⟩,⟨some gb,100,ai aB b,bN,false⟩,⟨some g0,63,aQ p,38,true⟩,⟨some gp,61,aO p.i,20,true⟩,⟨some gx,61,aO x.i,20,true⟩,⟨some gy,61,aO y.i,20,true⟩]⟩;refine aV [15] ak rfl ⟨⟨_,rfl,?_⟩,trivial⟩
     ·
      refine fQ [_,_,_] [4,5] rfl rfl rfl (qao x y hxe hye ae ae gx gy _ _) ⟨⟨_,rfl,fM⟩,⟨_,rfl,fM⟩,trivial⟩ rfl (.inr fun x b hb=>sZ) (fun zc=>?_);obtain⟨cb,cN,cc,hcc⟩:=zc;refine A1 ?_;exact bF hd1 ⟨gp,gx,gy,⟨cb,cN,cc,hcc⟩⟩ ⟨rfl,rfl,rfl,rfl,rfl,rfl,rfl,rfl,trivial⟩ (aT [some 0,some 1,some 2,some 3,some 4,some 5,some 6])
    refine aS (nt:=53) (Z:=Nat×Nat×(SR (dB x.i y.i).toList.length)) (fun⟨gx,gy,⟨cb,cN,cc,hcc⟩⟩=>[(0,ay (some ga) 0 a.length ac),(1,ay (some gb) 0 b.length bc),(5,.pointer (some ⟨g0,0,none⟩)),(6,.bool false),(7,.int .i64 (i:Nat)),(8,.int .i64 (j:Nat)),(21,.pointer (some ⟨g0,0,none⟩)),(36,ay cb 0 (dB x.i y.i).toList.length cc)]) (fun⟨gx,gy,⟨cb,cN,cc,hcc⟩⟩=>[⟨some ga,100,ai aB a,aN,false⟩,⟨some gb,100,ai aB b,bN,false⟩,⟨some g0,63,aQ p,38,true⟩,⟨some gx,61,aO x.i,20,true⟩,⟨some gy,61,aO y.i,20,true⟩,⟨cb,61,ai aO (dB x.i y.i).toList,cN,true⟩]) 5 [1,2,16,17,18] (fun z=>?_) (fun hd4=>?_)
    ·
     obtain⟨gx,gy,⟨cb,cN,cc,hcc⟩⟩:=z;show ja _ _ _ _ _ _ ⟨53,[(0,ay (some ga) 0 a.length ac),(1,ay (some gb) 0 b.length bc),(5,.pointer (some ⟨g0,0,none⟩)),(6,.bool false),(7,.int .i64 (i:Nat)),(8,.int .i64 (j:Nat)),(21,.pointer (some ⟨g0,0,none⟩)),(36,ay cb 0 (dB x.i y.i).toList.length cc)],[⟨some ga,100,ai aB a,aN,false⟩,⟨some gb,100,ai aB b,bN,false⟩,⟨some g0,63,aQ p,38,true⟩,⟨some gx,61,aO x.i,20,true⟩,⟨some gy,61,aO y.i,20,true⟩,⟨cb,61,ai aO (dB x.i y.i).toList,cN,true⟩]⟩;refine aV [1] ak rfl ⟨⟨_,rfl,?_⟩,trivial⟩
     ·
      refine DF ?_;exact bF hd2 ⟨gx,gy,⟨cb,cN,cc,hcc⟩⟩ ⟨rfl,rfl,rfl,rfl,rfl,rfl,rfl,rfl,trivial⟩ (aT [some 0,some 1,some 2,some 3,some 4,some 5])
    refine aS (nt:=53) (Z:=Nat×Nat) (fun⟨gx,gy⟩=>[(0,ay (some ga) 0 a.length ac),(1,ay (some gb) 0 b.length bc),(5,.pointer (some ⟨g0,0,none⟩)),(6,.bool false),(7,.int .i64 (i:Nat)),(8,.int .i64 (j:Nat)),(22,fV p.i),(29,ay (some gx) 0 1 1),(35,ay (some gy) 0 1 1)]) (fun⟨gx,gy⟩=>[⟨some ga,100,ai aB a,aN,false⟩,⟨some gb,100,ai aB b,bN,false⟩,⟨some g0,63,aQ p,38,true⟩,⟨some gx,61,aO x.i,20,true⟩,⟨some gy,61,aO y.i,20,true⟩]) 5 [2,15,16,17,18] (fun z=>?_) (fun hd5=>?_)
    ·
     obtain⟨gx,gy⟩:=z;show ja _ _ _ _ _ _ ⟨53,[(0,ay (some ga) 0 a.length ac),(1,ay (some gb) 0 b.length bc),(5,.pointer (some ⟨g0,0,none⟩)),(6,.bool false),(7,.int .i64 (i:Nat)),(8,.int .i64 (j:Nat)),(22,fV p.i),(29,ay (some gx) 0 1 1),(35,ay (some gy) 0 1 1)],[⟨some ga,100,ai aB a,aN,false⟩,⟨some gb,100,ai aB b,bN,false⟩,⟨some g0,63,aQ p,38,true⟩,⟨some gx,61,aO x.i,20,true⟩,⟨some gy,61,aO y.i,20,true⟩]⟩;refine aV [2,15] ak rfl ⟨⟨_,rfl,?_⟩,⟨_,rfl,?_⟩,trivial⟩
     ·
      refine lg [(0,_)] (fun g=>[_,_,_,_,_,⟨some g,61,_,20,true⟩]) rfl rfl rfl (jh) rfl (fun _=>rfl) (fun g3=>?_);refine A1 ?_;exact bF hd3 ⟨g3,gx,gy⟩ ⟨rfl,rfl,rfl,rfl,rfl,rfl,rfl,rfl,rfl,trivial⟩ (aT [some 0,some 1,some 2,some 5,some 3,some 4])
     ·
      refine fQ [_,_,_] [3,4] rfl rfl rfl (qao x y hxe hye ae ae gx gy _ _) ⟨⟨_,rfl,fM⟩,⟨_,rfl,fM⟩,trivial⟩ rfl (.inr fun x b hb=>sZ) (fun zc=>?_);obtain⟨cb,cN,cc,hcc⟩:=zc;refine A1 ?_;exact bF hd2 ⟨gx,gy,⟨cb,cN,cc,hcc⟩⟩ ⟨rfl,rfl,rfl,rfl,rfl,rfl,rfl,rfl,trivial⟩ (aT [some 0,some 1,some 2,some 3,some 4,some 5])
    refine aS (nt:=53) (Z:=Nat×Nat) (fun⟨gp,gy⟩=>[(0,ay (some ga) 0 a.length ac),(1,ay (some gb) 0 b.length bc),(5,.pointer (some ⟨g0,0,none⟩)),(6,.bool false),(7,.int .i64 (i:Nat)),(8,.int .i64 (j:Nat)),(23,ay (some gp) 0 1 1),(28,fV x.i),(35,ay (some gy) 0 1 1)]) (fun⟨gp,gy⟩=>[⟨some ga,100,ai aB a,aN,false⟩,⟨some gb,100,ai aB b,bN,false⟩,⟨some g0,63,aQ p,38,true⟩,⟨some gp,61,aO p.i,20,true⟩,⟨some gy,61,aO y.i,20,true⟩]) 5 [8,15,16,17,18] (fun z=>?_) (fun hd6=>?_)
    ·
     obtain⟨gp,gy⟩:=z;show ja _ _ _ _ _ _ ⟨53,[(0,ay (some ga) 0 a.length ac),(1,ay (some gb) 0 b.length bc),(5,.pointer (some ⟨g0,0,none⟩)),(6,.bool false),(7,.int .i64 (i:Nat)),(8,.int .i64 (j:Nat)),(23,ay (some gp) 0 1 1),(28,fV x.i),(35,ay (some gy) 0 1 1)],[⟨some ga,100,ai aB a,aN,false⟩,⟨some gb,100,ai aB b,bN,false⟩,⟨some g0,63,aQ p,38,true⟩,⟨some gp,61,aO p.i,20,true⟩,⟨some gy,61,aO y.i,20,true⟩]⟩;refine aV [8] ak rfl ⟨⟨_,rfl,?_⟩,trivial⟩
     ·
      refine lg [(0,_)] (fun g=>[_,_,_,_,_,⟨some g,61,_,20,true⟩]) rfl rfl rfl (jh) rfl (fun _=>rfl) (fun g3=>?_);refine A1 ?_;exact bF hd3 ⟨gp,g3,gy⟩ ⟨rfl,rfl,rfl,rfl,rfl,rfl,rfl,rfl,rfl,trivial⟩ (aT [some 0,some 1,some 2,some 3,some 5,some 4])
    refine aS (nt:=53) (Z:=Nat×Nat) (fun⟨gp,gx⟩=>[(0,ay (some ga) 0 a.length ac),(1,ay (some gb) 0 b.length bc),(5,.pointer (some ⟨g0,0,none⟩)),(6,.bool false),(7,.int .i64 (i:Nat)),(8,.int .i64 (j:Nat)),(23,ay (some gp) 0 1 1),(29,ay (some gx) 0 1 1),(34,fV y.i)]) (fun⟨gp,gx⟩=>[⟨some ga,100,ai aB a,aN,false⟩,⟨some gb,100,ai aB b,bN,false⟩,⟨some g0,63,aQ p,38,true⟩,⟨some gp,61,aO p.i,20,true⟩,⟨some gx,61,aO x.i,20,true⟩]) 5 [14,15,16,17,18] (fun z=>?_) (fun hd7=>?_)
    ·
     obtain⟨gp,gx⟩:=z;show ja _ _ _ _ _ _ ⟨53,[(0,ay (some ga) 0 a.length ac),(1,ay (some gb) 0 b.length bc),(5,.pointer (some ⟨g0,0,none⟩)),(6,.bool false),(7,.int .i64 (i:Nat)),(8,.int .i64 (j:Nat)),(23,ay (some gp) 0 1 1),(29,ay (some gx) 0 1 1),(34,fV y.i)],[⟨some ga,100,ai aB a,aN,false⟩,⟨some gb,100,ai aB b,bN,false⟩,⟨some g0,63,aQ p,38,true⟩,⟨some gp,61,aO p.i,20,true⟩,⟨some gx,61,aO x.i,20,true⟩]⟩;refine aV [14] ak rfl ⟨⟨_,rfl,?_⟩,trivial⟩
     ·
      refine lg [(0,_)] (fun g=>[_,_,_,_,_,⟨some g,61,_,20,true⟩]) rfl rfl rfl (jh) rfl (fun _=>rfl) (fun g3=>?_);refine A1 ?_;exact bF hd3 ⟨gp,gx,g3⟩ ⟨rfl,rfl,rfl,rfl,rfl,rfl,rfl,rfl,rfl,trivial⟩ (aT [some 0,some 1,some 2,some 3,some 4,some 5])
    refine aS (nt:=53) (Z:=Nat×Nat) (fun⟨gx,gy⟩=>[(0,ay (some ga) 0 a.length ac),(1,ay (some gb) 0 b.length bc),(5,.pointer (some ⟨g0,0,none⟩)),(6,.bool false),(7,.int .i64 (i:Nat)),(8,.int .i64 (j:Nat)),(21,.pointer (some ⟨g0,0,none⟩)),(29,ay (some gx) 0 1 1),(35,ay (some gy) 0 1 1)]) (fun⟨gx,gy⟩=>[⟨some ga,100,ai aB a,aN,false⟩,⟨some gb,100,ai aB b,bN,false⟩,⟨some g0,63,aQ p,38,true⟩,⟨some gx,61,aO x.i,20,true⟩,⟨some gy,61,aO y.i,20,true⟩]) 6 [1,2,15,16,17,18] (fun z=>?_) (fun hd8=>?_)
    ·
     obtain⟨gx,gy⟩:=z;show ja _ _ _ _ _ _ ⟨53,[(0,ay (some ga) 0 a.length ac),(1,ay (some gb) 0 b.length bc),(5,.pointer (some ⟨g0,0,none⟩)),(6,.bool false),(7,.int .i64 (i:Nat)),(8,.int .i64 (j:Nat)),(21,.pointer (some ⟨g0,0,none⟩)),(29,ay (some gx) 0 1 1),(35,ay (some gy) 0 1 1)],[⟨some ga,100,ai aB a,aN,false⟩,⟨some gb,100,ai aB b,bN,false⟩,⟨some g0,63,aQ p,38,true⟩,⟨some gx,61,aO x.i,20,true⟩,⟨some gy,61,aO y.i,20,true⟩]⟩;refine aV [1,15] ak rfl ⟨⟨_,rfl,?_⟩,⟨_,rfl,?_⟩,trivial⟩
     ·
      refine DF ?_;exact bF hd5 ⟨gx,gy⟩ ⟨rfl,rfl,rfl,rfl,rfl,rfl,rfl,rfl,rfl,trivial⟩ (aT [some 0,some 1,some 2,some 3,some 4])
     ·
      refine fQ [_,_,_] [3,4] rfl rfl rfl (qao x y hxe hye ae ae gx gy _ _) ⟨⟨_,rfl,fM⟩,⟨_,rfl,fM⟩,trivial⟩ rfl (.inr fun x b hb=>sZ) (fun zc=>?_);obtain⟨cb,cN,cc,hcc⟩:=zc;refine A1 ?_;exact bF hd4 ⟨gx,gy,⟨cb,cN,cc,hcc⟩⟩ ⟨rfl,rfl,rfl,rfl,rfl,rfl,rfl,rfl,trivial⟩ (aT [some 0,some 1,some 2,some 3,some 4,some 5])
    refine aS (nt:=53) (Z:=Nat) (fun gy=>[(0,ay (some ga) 0 a.length ac),(1,ay (some gb) 0 b.length bc),(5,.pointer (some ⟨g0,0,none⟩)),(6,.bool false),(7,.int .i64 (i:Nat)),(8,.int .i64 (j:Nat)),(22,fV p.i),(28,fV x.i),(35,ay (some gy) 0 1 1)]) (fun gy=>[⟨some ga,100,ai aB a,aN,false⟩,⟨some gb,100,ai aB b,bN,false⟩,⟨some g0,63,aQ p,38,true⟩,⟨some gy,61,aO y.i,20,true⟩]) 6 [2,8,15,16,17,18] (fun gy=>?_) (fun hd9=>?_)
    ·
     show ja _ _ _ _ _ _ ⟨53,[(0,ay (some ga) 0 a.length ac),(1,ay (some gb) 0 b.length bc),(5,.pointer (some ⟨g0,0,none⟩)),(6,.bool false),(7,.int .i64 (i:Nat)),(8,.int .i64 (j:Nat)),(22,fV p.i),(28,fV x.i),(35,ay (some gy) 0 1 1)],[⟨some ga,100,ai aB a,aN,false⟩,⟨some gb,100,ai aB b,bN,false⟩,⟨some g0,63,aQ p,38,true⟩,⟨some gy,61,aO y.i,20,true⟩]⟩;refine aV [2,8] ak rfl ⟨⟨_,rfl,?_⟩,⟨_,rfl,?_⟩,trivial⟩
     ·
      refine zC fun g2=>?_;refine A1 ?_;exact bF hd6 ⟨g2,gy⟩ ⟨rfl,rfl,rfl,rfl,rfl,rfl,rfl,rfl,rfl,trivial⟩ (aT [some 0,some 1,some 2,some 4,some 3])
     ·
      refine zC fun g2=>?_;refine A1 ?_;exact bF hd5 ⟨g2,gy⟩ ⟨rfl,rfl,rfl,rfl,rfl,rfl,rfl,rfl,rfl,trivial⟩ (aT [some 0,some 1,some 2,some 4,some 3])
    refine aS (nt:=53) (Z:=Nat) (fun gx=>[(0,ay (some ga) 0 a.length ac),(1,ay (some gb) 0 b.length bc),(5,.pointer (some ⟨g0,0,none⟩)),(6,.bool false),(7,.int .i64 (i:Nat)),(8,.int .i64 (j:Nat)),(22,fV p.i),(29,ay (some gx) 0 1 1),(34,fV y.i)]) (fun gx=>[⟨some ga,100,ai aB a,aN,false⟩,⟨some gb,100,ai aB b,bN,false⟩,⟨some g0,63,aQ p,38,true⟩,⟨some gx,61,aO x.i,20,true⟩]) 6 [2,14,15,16,17,18] (fun gx=>?_) (fun hd10=>?_)
    ·
     show ja _ _ _ _ _ _ ⟨53,[(0,ay (some ga) 0 a.length ac),(1,ay (some gb) 0 b.length bc),(5,.pointer (some ⟨g0,0,none⟩)),(6,.bool false),(7,.int .i64 (i:Nat)),(8,.int .i64 (j:Nat)),(22,fV p.i),(29,ay (some gx) 0 1 1),(34,fV y.i)],[⟨some ga,100,ai aB a,aN,false⟩,⟨some gb,100,ai aB b,bN,false⟩,⟨some g0,63,aQ p,38,true⟩,⟨some gx,61,aO x.i,20,true⟩]⟩;refine aV [2,14] ak rfl ⟨⟨_,rfl,?_⟩,⟨_,rfl,?_⟩,trivial⟩
     ·
      refine zC fun g2=>?_;refine A1 ?_;exact bF hd7 ⟨g2,gx⟩ ⟨rfl,rfl,rfl,rfl,rfl,rfl,rfl,rfl,rfl,trivial⟩ (aT [some 0,some 1,some 2,some 4,some 3])
     ·
      refine zC fun g2=>?_;refine A1 ?_;exact bF hd5 ⟨gx,g2⟩ ⟨rfl,rfl,rfl,rfl,rfl,rfl,rfl,rfl,rfl,trivial⟩ (aT [some 0,some 1,some 2,some 3,some 4])
    refine aS (nt:=53) (Z:=Nat×Nat) (fun⟨gp,gy⟩=>[(0,ay (some ga) 0 a.length ac),(1,ay (some gb) 0 b.length bc),(5,.pointer (some ⟨g0,0,none⟩)),(6,.bool false),(7,.int .i64 (i:Nat)),(8,.int .i64 (j:Nat)),(23,ay (some gp) 0 1 1),(27,.pointer (some ⟨ga,(i)*36,none⟩)),(35,ay (some gy) 0 1 1)]) (fun⟨gp,gy⟩=>[⟨some ga,100,ai aB a,aN,false⟩,⟨some gb,100,ai aB b,bN,false⟩,⟨some g0,63,aQ p,38,true⟩,⟨some gp,61,aO p.i,20,true⟩,⟨some gy,61,aO y.i,20,true⟩]) 6 [7,8,15,16,17,18] (fun z=>?_) (fun hd11=>?_)
    ·
     obtain⟨gp,gy⟩:=z;show ja _ _ _ _ _ _ ⟨53,[(0,ay (some ga) 0 a.length ac),(1,ay (some gb) 0 b.length bc),(5,.pointer (some ⟨g0,0,none⟩)),(6,.bool false),(7,.int .i64 (i:Nat)),(8,.int .i64 (j:Nat)),(23,ay (some gp) 0 1 1),(27,.pointer (some ⟨ga,(i)*36,none⟩)),(35,ay (some gy) 0 1 1)],[⟨some ga,100,ai aB a,aN,false⟩,⟨some gb,100,ai aB b,bN,false⟩,⟨some g0,63,aQ p,38,true⟩,⟨some gp,61,aO p.i,20,true⟩,⟨some gy,61,aO y.i,20,true⟩]⟩;refine aV [7] ak rfl ⟨⟨_,rfl,?_⟩,trivial⟩
     ·
      refine Gq ?_;exact bF hd6 ⟨gp,gy⟩ ⟨rfl,rfl,rfl,rfl,rfl,rfl,rfl,rfl,rfl,trivial⟩ (aT [some 0,some 1,some 2,some 3,some 4])
    refine aS (nt:=53) (Z:=Nat) (fun gp=>[(0,ay (some ga) 0 a.length ac),(1,ay (some gb) 0 b.length bc),(5,.pointer (some ⟨g0,0,none⟩)),(6,.bool false),(7,.int .i64 (i:Nat)),(8,.int .i64 (j:Nat)),(23,ay (some gp) 0 1 1),(28,fV x.i),(34,fV y.i)]) (fun gp=>[⟨some ga,100,ai aB a,aN,false⟩,⟨some gb,100,ai aB b,bN,false⟩,⟨some g0,63,aQ p,38,true⟩,⟨some gp,61,aO p.i,20,true⟩]) 6 [8,14,15,16,17,18] (fun gp=>?_) (fun hd12=>?_)
    ·
     show ja _ _ _ _ _ _ ⟨53,[(0,ay (some ga) 0 a.length ac),(1,ay (some gb) 0 b.length bc),(5,.pointer (some ⟨g0,0,none⟩)),(6,.bool false),(7,.int .i64 (i:Nat)),(8,.int .i64 (j:Nat)),(23,ay (some gp) 0 1 1),(28,fV x.i),(34,fV y.i)],[⟨some ga,100,ai aB a,aN,false⟩,⟨some gb,100,ai aB b,bN,false⟩,⟨some g0,63,aQ p,38,true⟩,⟨some gp,61,aO p.i,20,true⟩]⟩;refine aV [8,14] ak rfl ⟨⟨_,rfl,?_⟩,⟨_,rfl,?_⟩,trivial⟩
     ·
      refine zC fun g2=>?_;refine A1 ?_;exact bF hd7 ⟨gp,g2⟩ ⟨rfl,rfl,rfl,rfl,rfl,rfl,rfl,rfl,rfl,trivial⟩ (aT [some 0,some 1,some 2,some 3,some 4])
     ·
      refine zC fun g2=>?_;refine A1 ?_;exact bF hd6 ⟨gp,g2⟩ ⟨rfl,rfl,rfl,rfl,rfl,rfl,rfl,rfl,rfl,trivial⟩ (aT [some 0,some 1,some 2,some 3,some 4])
    refine aS (nt:=53) (Z:=Nat×Nat) (fun⟨gp,gx⟩=>[(0,ay (some ga) 0 a.length ac),(1,ay (some gb) 0 b.length bc),(5,.pointer (some ⟨g0,0,none⟩)),(6,.bool false),(7,.int .i64 (i:Nat)),(8,.int .i64 (j:Nat)),(23,ay (some gp) 0 1 1),(29,ay (some gx) 0 1 1),(33,.pointer (some ⟨gb,(j)*36,none⟩))]) (fun⟨gp,gx⟩=>[⟨some ga,100,ai aB a,aN,false⟩,⟨some gb,100,ai aB b,bN,false⟩,⟨some g0,63,aQ p,38,true⟩,⟨some gp,61,aO p.i,20,true⟩,⟨some gx,61,aO x.i,20,true⟩]) 6 [13,14,15,16,17,18] (fun z=>?_) (fun hd13=>?_)
    ·
     obtain⟨gp,gx⟩:=z;show ja _ _ _ _ _ _ ⟨53,[(0,ay (some ga) 0 a.length ac),(1,ay (some gb) 0 b.length bc),(5,.pointer (some ⟨g0,0,none⟩)),(6,.bool false),(7,.int .i64 (i:Nat)),(8,.int .i64 (j:Nat)),(23,ay (some gp) 0 1 1),(29,ay (some gx) 0 1 1),(33,.pointer (some ⟨gb,(j)*36,none⟩))],[⟨some ga,100,ai aB a,aN,false⟩,⟨some gb,100,ai aB b,bN,false⟩,⟨some g0,63,aQ p,38,true⟩,⟨some gp,61,aO p.i,20,true⟩,⟨some gx,61,aO x.i,20,true⟩]⟩;refine aV [13] ak rfl ⟨⟨_,rfl,?_⟩,trivial⟩
     ·
      refine Gp ?_;exact bF hd7 ⟨gp,gx⟩ ⟨rfl,rfl,rfl,rfl,rfl,rfl,rfl,rfl,rfl,trivial⟩ (aT [some 0,some 1,some 2,some 3,some 4])
    refine aS (nt:=53) (Z:=Nat) (fun gy=>[(0,ay (some ga) 0 a.length ac),(1,ay (some gb) 0 b.length bc),(5,.pointer (some ⟨g0,0,none⟩)),(6,.bool false),(7,.int .i64 (i:Nat)),(8,.int .i64 (j:Nat)),(21,.pointer (some ⟨g0,0,none⟩)),(28,fV x.i),(35,ay (some gy) 0 1 1)]) (fun gy=>[⟨some ga,100,ai aB a,aN,false⟩,⟨some gb,100,ai aB b,bN,false⟩,⟨some g0,63,aQ p,38,true⟩,⟨some gy,61,aO y.i,20,true⟩]) 7 [1,2,8,15,16,17,18] (fun gy=>?_) (fun hd14=>?_)
    ·
     show ja _ _ _ _ _ _ ⟨53,[(0,ay (some ga) 0 a.length ac),(1,ay (some gb) 0 b.length bc),(5,.pointer (some ⟨g0,0,none⟩)),(6,.bool false),(7,.int .i64 (i:Nat)),(8,.int .i64 (j:Nat)),(21,.pointer (some ⟨g0,0,none⟩)),(28,fV x.i),(35,ay (some gy) 0 1 1)],[⟨some ga,100,ai aB a,aN,false⟩,⟨some gb,100,ai aB b,bN,false⟩,⟨some g0,63,aQ p,38,true⟩,⟨some gy,61,aO y.i,20,true⟩]⟩;refine aV [1,8] ak rfl ⟨⟨_,rfl,?_⟩,⟨_,rfl,?_⟩,trivial⟩
     ·
      refine DF ?_;exact bF hd9 gy ⟨rfl,rfl,rfl,rfl,rfl,rfl,rfl,rfl,rfl,trivial⟩ (aT [some 0,some 1,some 2,some 3])
     ·
      refine zC fun g2=>?_;refine A1 ?_;exact bF hd8 ⟨g2,gy⟩ ⟨rfl,rfl,rfl,rfl,rfl,rfl,rfl,rfl,rfl,trivial⟩ (aT [some 0,some 1,some 2,some 4,some 3])
    refine aS (nt:=53) (Z:=Nat) (fun gx=>[(0,ay (some ga) 0 a.length ac),(1,ay (some gb) 0 b.length bc),(5,.pointer (some ⟨g0,0,none⟩)),(6,.bool false),(7,.int .i64 (i:Nat)),(8,.int .i64 (j:Nat)),(21,.pointer (some ⟨g0,0,none⟩)),(29,ay (some gx) 0 1 1),(34,fV y.i)]) (fun gx=>[⟨some ga,100,ai aB a,aN,false⟩,⟨some gb,100,ai aB b,bN,false⟩,⟨some g0,63,aQ p,38,true⟩,⟨some gx,61,aO x.i,20,true⟩]) 7 [1,2,14,15,16,17,18] (fun gx=>?_) (fun hd15=>?_)
    ·
     show ja _ _ _ _ _ _ ⟨53,[(0,ay (some ga) 0 a.length ac),(1,ay (some gb) 0 b.length bc),(5,.pointer (some ⟨g0,0,none⟩)),(6,.bool false),(7,.int .i64 (i:Nat)),(8,.int .i64 (j:Nat)),(21,.pointer (some ⟨g0,0,none⟩)),(29,ay (some gx) 0 1 1),(34,fV y.i)],[⟨some ga,100,ai aB a,aN,false⟩,⟨some gb,100,ai aB b,bN,false⟩,⟨some g0,63,aQ p,38,true⟩,⟨some gx,61,aO x.i,20,true⟩]⟩;refine aV [1,14] ak rfl ⟨⟨_,rfl,?_⟩,⟨_,rfl,?_⟩,trivial⟩
     ·
      refine DF ?_;exact bF hd10 gx ⟨rfl,rfl,rfl,rfl,rfl,rfl,rfl,rfl,rfl,trivial⟩ (aT [some 0,some 1,some 2,some 3])
     ·
      refine zC fun g2=>?_;refine A1 ?_;exact bF hd8 ⟨gx,g2⟩ ⟨rfl,rfl,rfl,rfl,rfl,rfl,rfl,rfl,rfl,trivial⟩ (aT [some 0,some 1,some 2,some 3,some 4])
    refine aS (nt:=53) (Z:=Nat) (fun gy=>[(0,ay (some ga) 0 a.length ac),(1,ay (some gb) 0 b.length bc),(5,.pointer (some ⟨g0,0,none⟩)),(6,.bool false),(7,.int .i64 (i:Nat)),(8,.int .i64 (j:Nat)),(22,fV p.i),(27,.pointer (some ⟨ga,(i)*36,none⟩)),(35,ay (some gy) 0 1 1)]) (fun gy=>[⟨some ga,100,ai aB a,aN,false⟩,⟨some gb,100,ai aB b,bN,false⟩,⟨some g0,63,aQ p,38,true⟩,⟨some gy,61,aO y.i,20,true⟩]) 7 [2,7,8,15,16,17,18] (fun gy=>?_) (fun hd16=>?_)
    ·
     show ja _ _ _ _ _ _ ⟨53,[(0,ay (some ga) 0 a.length ac),(1,ay (some gb) 0 b.length bc),(5,.pointer (some ⟨g0,0,none⟩)),(6,.bool false),(7,.int .i64 (i:Nat)),(8,.int .i64 (j:Nat)),(22,fV p.i),(27,.pointer (some ⟨ga,(i)*36,none⟩)),(35,ay (some gy) 0 1 1)],[⟨some ga,100,ai aB a,aN,false⟩,⟨some gb,100,ai aB b,bN,false⟩,⟨some g0,63,aQ p,38,true⟩,⟨some gy,61,aO y.i,20,true⟩]⟩;refine aV [2,7] ak rfl ⟨⟨_,rfl,?_⟩,⟨_,rfl,?_⟩,trivial⟩
     ·
      refine zC fun g2=>?_;refine A1 ?_;exact bF hd11 ⟨g2,gy⟩ ⟨rfl,rfl,rfl,rfl,rfl,rfl,rfl,rfl,rfl,trivial⟩ (aT [some 0,some 1,some 2,some 4,some 3])
     ·
      refine Gq ?_;exact bF hd9 gy ⟨rfl,rfl,rfl,rfl,rfl,rfl,rfl,rfl,rfl,trivial⟩ (aT [some 0,some 1,some 2,some 3])
    refine aS (nt:=53) (Z:=Unit) (fun _=>[(0,ay (some ga) 0 a.length ac),(1,ay (some gb) 0 b.length bc),(5,.pointer (some ⟨g0,0,none⟩)),(6,.bool false),(7,.int .i64 (i:Nat)),(8,.int .i64 (j:Nat)),(22,fV p.i),(28,fV x.i),(34,fV y.i)]) (fun _=>[⟨some ga,100,ai aB a,aN,false⟩,⟨some gb,100,ai aB b,bN,false⟩,⟨some g0,63,aQ p,38,true⟩]) 7 [2,8,14,15,16,17,18] (fun z=>?_) (fun hd17=>?_)
    ·
     show ja _ _ _ _ _ _ ⟨53,[(0,ay (some ga) 0 a.length ac),(1,ay (some gb) 0 b.length bc),(5,.pointer (some ⟨g0,0,none⟩)),(6,.bool false),(7,.int .i64 (i:Nat)),(8,.int .i64 (j:Nat)),(22,fV p.i),(28,fV x.i),(34,fV y.i)],[⟨some ga,100,ai aB a,aN,false⟩,⟨some gb,100,ai aB b,bN,false⟩,⟨some g0,63,aQ p,38,true⟩]⟩;refine aV [2,8,14] ak rfl ⟨⟨_,rfl,?_⟩,⟨_,rfl,?_⟩,⟨_,rfl,?_⟩,trivial⟩
     ·
      refine zF fun g1=>?_;refine A1 ?_;exact bF hd12 g1 ⟨rfl,rfl,rfl,rfl,rfl,rfl,rfl,rfl,rfl,trivial⟩ (aT [some 0,some 1,some 2,some 3])
     ·
      refine zF fun g1=>?_;refine A1 ?_;exact bF hd10 g1 ⟨rfl,rfl,rfl,rfl,rfl,rfl,rfl,rfl,rfl,trivial⟩ (aT [some 0,some 1,some 2,some 3])
     ·
      refine zF fun g1=>?_;refine A1 ?_;exact bF hd9 g1 ⟨rfl,rfl,rfl,rfl,rfl,rfl,rfl,rfl,rfl,trivial⟩ (aT [some 0,some 1,some 2,some 3])
    refine aS (nt:=53) (Z:=Nat) (fun gx=>[(0,ay (some ga) 0 a.length ac),(1,ay (some gb) 0 b.length bc),(5,.pointer (some ⟨g0,0,none⟩)),(6,.bool false),(7,.int .i64 (i:Nat)),(8,.int .i64 (j:Nat)),(22,fV p.i),(29,ay (some gx) 0 1 1),(33,.pointer (some ⟨gb,(j)*36,none⟩))]) (fun gx=>[⟨some ga,100,ai aB a,aN,false⟩,⟨some gb,100,ai aB b,bN,false⟩,⟨some g0,63,aQ p,38,true⟩,⟨some gx,61,aO x.i,20,true⟩]) 7 [2,13,14,15,16,17,18] (fun gx=>?_) (fun hd18=>?_)
    ·
     show ja _ _ _ _ _ _ ⟨53,[(0,ay (some ga) 0 a.length ac),(1,ay (some gb) 0 b.length bc),(5,.pointer (some ⟨g0,0,none⟩)),(6,.bool false),(7,.int .i64 (i:Nat)),(8,.int .i64 (j:Nat)),(22,fV p.i),(29,ay (some gx) 0 1 1),(33,.pointer (some ⟨gb,(j)*36,none⟩))],[⟨some ga,100,ai aB a,aN,false⟩,⟨some gb,100,ai aB b,bN,false⟩,⟨some g0,63,aQ p,38,true⟩,⟨some gx,61,aO x.i,20,true⟩]⟩;refine aV [2,13] ak rfl ⟨⟨_,rfl,?_⟩,⟨_,rfl,?_⟩,trivial⟩
     ·
      refine zC fun g2=>?_;refine A1 ?_;exact bF hd13 ⟨g2,gx⟩ ⟨rfl,rfl,rfl,rfl,rfl,rfl,rfl,rfl,rfl,trivial⟩ (aT [some 0,some 1,some 2,some 4,some 3])
     ·
      refine Gp ?_;exact bF hd10 gx ⟨rfl,rfl,rfl,rfl,rfl,rfl,rfl,rfl,rfl,trivial⟩ (aT [some 0,some 1,some 2,some 3])
    refine aS (nt:=53) (Z:=Nat) (fun gp=>[(0,ay (some ga) 0 a.length ac),(1,ay (some gb) 0 b.length bc),(5,.pointer (some ⟨g0,0,none⟩)),(6,.bool false),(7,.int .i64 (i:Nat)),(8,.int .i64 (j:Nat)),(23,ay (some gp) 0 1 1),(27,.pointer (some ⟨ga,(i)*36,none⟩)),(34,fV y.i)]) (fun gp=>[⟨some ga,100,ai aB a,aN,false⟩,⟨some gb,100,ai aB b,bN,false⟩,⟨some g0,63,aQ p,38,true⟩,⟨some gp,61,aO p.i,20,true⟩]) 7 [7,8,14,15,16,17,18] (fun gp=>?_) (fun hd19=>?_)
    ·
     show ja _ _ _ _ _ _ ⟨53,[(0,ay (some ga) 0 a.length ac),(1,ay (some gb) 0 b.length bc),(5,.pointer (some ⟨g0,0,none⟩)),(6,.bool false),(7,.int .i64 (i:Nat)),(8,.int .i64 (j:Nat)),(23,ay (some gp) 0 1 1),(27,.pointer (some ⟨ga,(i)*36,none⟩)),(34,fV y.i)],[⟨some ga,100,ai aB a,aN,false⟩,⟨some gb,100,ai aB b,bN,false⟩,⟨some g0,63,aQ p,38,true⟩,⟨some gp,61,aO p.i,20,true⟩]⟩;refine aV [7,14] ak rfl ⟨⟨_,rfl,?_⟩,⟨_,rfl,?_⟩,trivial⟩
     ·
      refine Gq ?_;exact bF hd12 gp ⟨rfl,rfl,rfl,rfl,rfl,rfl,rfl,rfl,rfl,trivial⟩ (aT [some 0,some 1,some 2,some 3])
     ·
      refine zC fun g2=>?_;refine A1 ?_;exact bF hd11 ⟨gp,g2⟩ ⟨rfl,rfl,rfl,rfl,rfl,rfl,rfl,rfl,rfl,trivial⟩ (aT [some 0,some 1,some 2,some 3,some 4])
    refine aS (nt:=53) (Z:=Nat) (fun gp=>[(0,ay (some ga) 0 a.length ac),(1,ay (some gb) 0 b.length bc),(5,.pointer (some ⟨g0,0,none⟩)),(6,.bool false),(7,.int .i64 (i:Nat)),(8,.int .i64 (j:Nat)),(23,ay (some gp) 0 1 1),(28,fV x.i),(33,.pointer (some ⟨gb,(j)*36,none⟩))]) (fun gp=>[⟨some ga,100,ai aB a,aN,false⟩,⟨some gb,100,ai aB b,bN,false⟩,⟨some g0,63,aQ p,38,true⟩,⟨some gp,61,aO p.i,20,true⟩]) 7 [8,13,14,15,16,17,18] (fun gp=>?_) (fun hd20=>?_)
    ·
     show ja _ _ _ _ _ _ ⟨53,[(0,ay (some ga) 0 a.length ac),(1,ay (some gb) 0 b.length bc),(5,.pointer (some ⟨g0,0,none⟩)),(6,.bool false),(7,.int .i64 (i:Nat)),(8,.int .i64 (j:Nat)),(23,ay (some gp) 0 1 1),(28,fV x.i),(33,.pointer (some ⟨gb,(j)*36,none⟩))],[⟨some ga,100,ai aB a,aN,false⟩,⟨some gb,100,ai aB b,bN,false⟩,⟨some g0,63,aQ p,38,true⟩,⟨some gp,61,aO p.i,20,true⟩]⟩;refine aV [8,13] ak rfl ⟨⟨_,rfl,?_⟩,⟨_,rfl,?_⟩,trivial⟩
     ·
      refine zC fun g2=>?_;refine A1 ?_;exact bF hd13 ⟨gp,g2⟩ ⟨rfl,rfl,rfl,rfl,rfl,rfl,rfl,rfl,rfl,trivial⟩ (aT [some 0,some 1,some 2,some 3,some 4])
     ·
      refine Gp ?_;exact bF hd12 gp ⟨rfl,rfl,rfl,rfl,rfl,rfl,rfl,rfl,rfl,trivial⟩ (aT [some 0,some 1,some 2,some 3])
    refine aS (nt:=53) (Z:=Nat) (fun gy=>[(0,ay (some ga) 0 a.length ac),(1,ay (some gb) 0 b.length bc),(5,.pointer (some ⟨g0,0,none⟩)),(6,.bool false),(7,.int .i64 (i:Nat)),(8,.int .i64 (j:Nat)),(21,.pointer (some ⟨g0,0,none⟩)),(27,.pointer (some ⟨ga,(i)*36,none⟩)),(35,ay (some gy) 0 1 1)]) (fun gy=>[⟨some ga,100,ai aB a,aN,false⟩,⟨some gb,100,ai aB b,bN,false⟩,⟨some g0,63,aQ p,38,true⟩,⟨some gy,61,aO y.i,20,true⟩]) 8 [1,2,7,8,15,16,17,18] (fun gy=>?_) (fun hd21=>?_)
    ·
     show ja _ _ _ _ _ _ ⟨53,[(0,ay (some ga) 0 a.length ac),(1,ay (some gb) 0 b.length bc),(5,.pointer (some ⟨g0,0,none⟩)),(6,.bool false),(7,.int .i64 (i:Nat)),(8,.int .i64 (j:Nat)),(21,.pointer (some ⟨g0,0,none⟩)),(27,.pointer (some ⟨ga,(i)*36,none⟩)),(35,ay (some gy) 0 1 1)],[⟨some ga,100,ai aB a,aN,false⟩,⟨some gb,100,ai aB b,bN,false⟩,⟨some g0,63,aQ p,38,true⟩,⟨some gy,61,aO y.i,20,true⟩]⟩;refine aV [1,7] ak rfl ⟨⟨_,rfl,?_⟩,⟨_,rfl,?_⟩,trivial⟩
     ·
      refine DF ?_;exact bF hd16 gy ⟨rfl,rfl,rfl,rfl,rfl,rfl,rfl,rfl,rfl,trivial⟩ (aT [some 0,some 1,some 2,some 3])
     ·
      refine Gq ?_;exact bF hd14 gy ⟨rfl,rfl,rfl,rfl,rfl,rfl,rfl,rfl,rfl,trivial⟩ (aT [some 0,some 1,some 2,some 3])
    refine aS (nt:=53) (Z:=Unit) (fun _=>[(0,ay (some ga) 0 a.length ac),(1,ay (some gb) 0 b.length bc),(5,.pointer (some ⟨g0,0,none⟩)),(6,.bool false),(7,.int .i64 (i:Nat)),(8,.int .i64 (j:Nat)),(21,.pointer (some ⟨g0,0,none⟩)),(28,fV x.i),(34,fV y.i)]) (fun _=>[⟨some ga,100,ai aB a,aN,false⟩,⟨some gb,100,ai aB b,bN,false⟩,⟨some g0,63,aQ p,38,true⟩]) 8 [1,2,8,14,15,16,17,18] (fun z=>?_) (fun hd22=>?_)
    ·
     show ja _ _ _ _ _ _ ⟨53,[(0,ay (some ga) 0 a.length ac),(1,ay (some gb) 0 b.length bc),(5,.pointer (some ⟨g0,0,none⟩)),(6,.bool false),(7,.int .i64 (i:Nat)),(8,.int .i64 (j:Nat)),(21,.pointer (some ⟨g0,0,none⟩)),(28,fV x.i),(34,fV y.i)],[⟨some ga,100,ai aB a,aN,false⟩,⟨some gb,100,ai aB b,bN,false⟩,⟨some g0,63,aQ p,38,true⟩]⟩;refine aV [1,8,14] ak rfl ⟨⟨_,rfl,?_⟩,⟨_,rfl,?_⟩,⟨_,rfl,?_⟩,trivial⟩
     ·
      refine DF ?_;exact bF hd17 () ⟨rfl,rfl,rfl,rfl,rfl,rfl,rfl,rfl,rfl,trivial⟩ (aT [some 0,some 1,some 2])
     ·
      refine zF fun g1=>?_;refine A1 ?_;exact bF hd15 g1 ⟨rfl,rfl,rfl,rfl,rfl,rfl,rfl,rfl,rfl,trivial⟩ (aT [some 0,some 1,some 2,some 3])
     ·
      refine zF fun g1=>?_;refine A1 ?_;exact bF hd14 g1 ⟨rfl,rfl,rfl,rfl,rfl,rfl,rfl,rfl,rfl,trivial⟩ (aT [some 0,some 1,some 2,some 3])
    refine aS (nt:=53) (Z:=Nat) (fun gx=>[(0,ay (some ga) 0 a.length ac),(1,ay (some gb) 0 b.length bc),(5,.pointer (some ⟨g0,0,none⟩)),(6,.bool false),(7,.int .i64 (i:Nat)),(8,.int .i64 (j:Nat)),(21,.pointer (some ⟨g0,0,none⟩)),(29,ay (some gx) 0 1 1),(33,.pointer (some ⟨gb,(j)*36,none⟩))]) (fun gx=>[⟨some ga,100,ai aB a,aN,false⟩,⟨some gb,100,ai aB b,bN,false⟩,⟨some g0,63,aQ p,38,true⟩,⟨some gx,61,aO x.i,20,true⟩]) 8 [1,2,13,14,15,16,17,18] (fun gx=>?_) (fun hd23=>?_)
    ·
     show ja _ _ _ _ _ _ ⟨53,[(0,ay (some ga) 0 a.length ac),(1,ay (some gb) 0 b.length bc),(5,.pointer (some ⟨g0,0,none⟩)),(6,.bool false),(7,.int .i64 (i:Nat)),(8,.int .i64 (j:Nat)),(21,.pointer (some ⟨g0,0,none⟩)),(29,ay (some gx) 0 1 1),(33,.pointer (some ⟨gb,(j)*36,none⟩))],[⟨some ga,100,ai aB a,aN,false⟩,⟨some gb,100,ai aB b,bN,false⟩,⟨some g0,63,aQ p,38,true⟩,⟨some gx,61,aO x.i,20,true⟩]⟩;refine aV [1,13] ak rfl ⟨⟨_,rfl,?_⟩,⟨_,rfl,?_⟩,trivial⟩
     ·
      refine DF ?_;exact bF hd18 gx ⟨rfl,rfl,rfl,rfl,rfl,rfl,rfl,rfl,rfl,trivial⟩ (aT [some 0,some 1,some 2,some 3])
     ·
      refine Gp ?_;exact bF hd15 gx ⟨rfl,rfl,rfl,rfl,rfl,rfl,rfl,rfl,rfl,trivial⟩ (aT [some 0,some 1,some 2,some 3])
    refine aS (nt:=53) (Z:=Unit) (fun _=>[(0,ay (some ga) 0 a.length ac),(1,ay (some gb) 0 b.length bc),(5,.pointer (some ⟨g0,0,none⟩)),(6,.bool false),(7,.int .i64 (i:Nat)),(8,.int .i64 (j:Nat)),(22,fV p.i),(27,.pointer (some ⟨ga,(i)*36,none⟩)),(34,fV y.i)]) (fun _=>[⟨some ga,100,ai aB a,aN,false⟩,⟨some gb,100,ai aB b,bN,false⟩,⟨some g0,63,aQ p,38,true⟩]) 8 [2,7,8,14,15,16,17,18] (fun z=>?_) (fun hd24=>?_)
    ·
     show ja _ _ _ _ _ _ ⟨53,[(0,ay (some ga) 0 a.length ac),(1,ay (some gb) 0 b.length bc),(5,.pointer (some ⟨g0,0,none⟩)),(6,.bool false),(7,.int .i64 (i:Nat)),(8,.int .i64 (j:Nat)),(22,fV p.i),(27,.pointer (some ⟨ga,(i)*36,none⟩)),(34,fV y.i)],[⟨some ga,100,ai aB a,aN,false⟩,⟨some gb,100,ai aB b,bN,false⟩,⟨some g0,63,aQ p,38,true⟩]⟩;refine aV [2,7,14] ak rfl ⟨⟨_,rfl,?_⟩,⟨_,rfl,?_⟩,⟨_,rfl,?_⟩,trivial⟩
     ·
      refine zF fun g1=>?_;refine A1 ?_;exact bF hd19 g1 ⟨rfl,rfl,rfl,rfl,rfl,rfl,rfl,rfl,rfl,trivial⟩ (aT [some 0,some 1,some 2,some 3])
     ·
      refine Gq ?_;exact bF hd17 () ⟨rfl,rfl,rfl,rfl,rfl,rfl,rfl,rfl,rfl,trivial⟩ (aT [some 0,some 1,some 2])
     ·
      refine zF fun g1=>?_;refine A1 ?_;exact bF hd16 g1 ⟨rfl,rfl,rfl,rfl,rfl,rfl,rfl,rfl,rfl,trivial⟩ (aT [some 0,some 1,some 2,some 3])
    refine aS (nt:=53) (Z:=Unit) (fun _=>[(0,ay (some ga) 0 a.length ac),(1,ay (some gb) 0 b.length bc),(5,.pointer (some ⟨g0,0,none⟩)),(6,.bool false),(7,.int .i64 (i:Nat)),(8,.int .i64 (j:Nat)),(22,fV p.i),(28,fV x.i),(33,.pointer (some ⟨gb,(j)*36,none⟩))]) (fun _=>[⟨some ga,100,ai aB a,aN,false⟩,⟨some gb,100,ai aB b,bN,false⟩,⟨some g0,63,aQ p,38,true⟩]) 8 [2,8,13,14,15,16,17,18] (fun z=>?_) (fun hd25=>?_)
    ·
     show ja _ _ _ _ _ _ ⟨53,[(0,ay (some ga) 0 a.length ac),(1,ay (some gb) 0 b.length bc),(5,.pointer (some ⟨g0,0,none⟩)),(6,.bool false),(7,.int .i64 (i:Nat)),(8,.int .i64 (j:Nat)),(22,fV p.i),(28,fV x.i),(33,.pointer (some ⟨gb,(j)*36,none⟩))],[⟨some ga,100,ai aB a,aN,false⟩,⟨some gb,100,ai aB b,bN,false⟩,⟨some g0,63,aQ p,38,true⟩]⟩;refine aV [2,8,13] ak rfl ⟨⟨_,rfl,?_⟩,⟨_,rfl,?_⟩,⟨_,rfl,?_⟩,trivial⟩
     ·
      refine zF fun g1=>?_;refine A1 ?_;exact bF hd20 g1 ⟨rfl,rfl,rfl,rfl,rfl,rfl,rfl,rfl,rfl,trivial⟩ (aT [some 0,some 1,some 2,some 3])
     ·
      refine zF fun g1=>?_;refine A1 ?_;exact bF hd18 g1 ⟨rfl,rfl,rfl,rfl,rfl,rfl,rfl,rfl,rfl,trivial⟩ (aT [some 0,some 1,some 2,some 3])
     ·
      refine Gp ?_;exact bF hd17 () ⟨rfl,rfl,rfl,rfl,rfl,rfl,rfl,rfl,rfl,trivial⟩ (aT [some 0,some 1,some 2])
    refine aS (nt:=53) (Z:=Nat) (fun gp=>[(0,ay (some ga) 0 a.length ac),(1,ay (some gb) 0 b.length bc),(5,.pointer (some ⟨g0,0,none⟩)),(6,.bool false),(7,.int .i64 (i:Nat)),(8,.int .i64 (j:Nat)),(23,ay (some gp) 0 1 1),(27,.pointer (some ⟨ga,(i)*36,none⟩)),(33,.pointer (some ⟨gb,(j)*36,none⟩))]) (fun gp=>[⟨some ga,100,ai aB a,aN,false⟩,⟨some gb,100,ai aB b,bN,false⟩,⟨some g0,63,aQ p,38,true⟩,⟨some gp,61,aO p.i,20,true⟩]) 8 [7,8,13,14,15,16,17,18] (fun gp=>?_) (fun hd26=>?_)
    ·
     show ja _ _ _ _ _ _ ⟨53,[(0,ay (some ga) 0 a.length ac),(1,ay (some gb) 0 b.length bc),(5,.pointer (some ⟨g0,0,none⟩)),(6,.bool false),(7,.int .i64 (i:Nat)),(8,.int .i64 (j:Nat)),(23,ay (some gp) 0 1 1),(27,.pointer (some ⟨ga,(i)*36,none⟩)),(33,.pointer (some ⟨gb,(j)*36,none⟩))],[⟨some ga,100,ai aB a,aN,false⟩,⟨some gb,100,ai aB b,bN,false⟩,⟨some g0,63,aQ p,38,true⟩,⟨some gp,61,aO p.i,20,true⟩]⟩;refine aV [7,13] ak rfl ⟨⟨_,rfl,?_⟩,⟨_,rfl,?_⟩,trivial⟩
     ·
      refine Gq ?_;exact bF hd20 gp ⟨rfl,rfl,rfl,rfl,rfl,rfl,rfl,rfl,rfl,trivial⟩ (aT [some 0,some 1,some 2,some 3])
     ·
      refine Gp ?_;exact bF hd19 gp ⟨rfl,rfl,rfl,rfl,rfl,rfl,rfl,rfl,rfl,trivial⟩ (aT [some 0,some 1,some 2,some 3])
    refine aS (nt:=53) (Z:=Unit) (fun _=>[(0,ay (some ga) 0 a.length ac),(1,ay (some gb) 0 b.length bc),(5,.pointer (some ⟨g0,0,none⟩)),(6,.bool false),(7,.int .i64 (i:Nat)),(8,.int .i64 (j:Nat)),(21,.pointer (some ⟨g0,0,none⟩)),(27,.pointer (some ⟨ga,(i)*36,none⟩)),(34,fV y.i)]) (fun _=>[⟨some ga,100,ai aB a,aN,false⟩,⟨some gb,100,ai aB b,bN,false⟩,⟨some g0,63,aQ p,38,true⟩]) 9 [1,2,7,8,14,15,16,17,18] (fun z=>?_) (fun hd27=>?_)
    ·
     show ja _ _ _ _ _ _ ⟨53,[(0,ay (some ga) 0 a.length ac),(1,ay (some gb) 0 b.length bc),(5,.pointer (some ⟨g0,0,none⟩)),(6,.bool false),(7,.int .i64 (i:Nat)),(8,.int .i64 (j:Nat)),(21,.pointer (some ⟨g0,0,none⟩)),(27,.pointer (some ⟨ga,(i)*36,none⟩)),(34,fV y.i)],[⟨some ga,100,ai aB a,aN,false⟩,⟨some gb,100,ai aB b,bN,false⟩,⟨some g0,63,aQ p,38,true⟩]⟩;refine aV [1,7,14] ak rfl ⟨⟨_,rfl,?_⟩,⟨_,rfl,?_⟩,⟨_,rfl,?_⟩,trivial⟩
     ·
      refine DF ?_;exact bF hd24 () ⟨rfl,rfl,rfl,rfl,rfl,rfl,rfl,rfl,rfl,trivial⟩ (aT [some 0,some 1,some 2])
     ·
      refine Gq ?_;exact bF hd22 () ⟨rfl,rfl,rfl,rfl,rfl,rfl,rfl,rfl,rfl,trivial⟩ (aT [some 0,some 1,some 2])
     ·
      refine zF fun g1=>?_;refine A1 ?_;exact bF hd21 g1 ⟨rfl,rfl,rfl,rfl,rfl,rfl,rfl,rfl,rfl,trivial⟩ (aT [some 0,some 1,some 2,some 3])
    refine aS (nt:=53) (Z:=Unit) (fun _=>[(0,ay (some ga) 0 a.length ac),(1,ay (some gb) 0 b.length bc),(5,.pointer (some ⟨g0,0,none⟩)),(6,.bool false),(7,.int .i64 (i:Nat)),(8,.int .i64 (j:Nat)),(21,.pointer (some ⟨g0,0,none⟩)),(28,fV x.i),(33,.pointer (some ⟨gb,(j)*36,none⟩))]) (fun _=>[⟨some ga,100,ai aB a,aN,false⟩,⟨some gb,100,ai aB b,bN,false⟩,⟨some g0,63,aQ p,38,true⟩]) 9 [1,2,8,13,14,15,16,17,18] (fun z=>?_) (fun hd28=>?_)
    ·
     show ja _ _ _ _ _ _ ⟨53,[(0,ay (some ga) 0 a.length ac),(1,ay (some gb) 0 b.length bc),(5,.pointer (some ⟨g0,0,none⟩)),(6,.bool false),(7,.int .i64 (i:Nat)),(8,.int .i64 (j:Nat)),(21,.pointer (some ⟨g0,0,none⟩)),(28,fV x.i),(33,.pointer (some ⟨gb,(j)*36,none⟩))],[⟨some ga,100,ai aB a,aN,false⟩,⟨some gb,100,ai aB b,bN,false⟩,⟨some g0,63,aQ p,38,true⟩]⟩;refine aV [1,8,13] ak rfl ⟨⟨_,rfl,?_⟩,⟨_,rfl,?_⟩,⟨_,rfl,?_⟩,trivial⟩
     ·
      refine DF ?_;exact bF hd25 () ⟨rfl,rfl,rfl,rfl,rfl,rfl,rfl,rfl,rfl,trivial⟩ (aT [some 0,some 1,some 2])
     ·
      refine zF fun g1=>?_;refine A1 ?_;exact bF hd23 g1 ⟨rfl,rfl,rfl,rfl,rfl,rfl,rfl,rfl,rfl,trivial⟩ (aT [some 0,some 1,some 2,some 3])
     ·
      refine Gp ?_;exact bF hd22 () ⟨rfl,rfl,rfl,rfl,rfl,rfl,rfl,rfl,rfl,trivial⟩ (aT [some 0,some 1,some 2])
    refine aS (nt:=53) (Z:=Unit) (fun _=>[(0,ay (some ga) 0 a.length ac),(1,ay (some gb) 0 b.length bc),(5,.pointer (some ⟨g0,0,none⟩)),(6,.bool false),(7,.int .i64 (i:Nat)),(8,.int .i64 (j:Nat)),(22,fV p.i),(27,.pointer (some ⟨ga,(i)*36,none⟩)),(33,.pointer (some ⟨gb,(j)*36,none⟩))]) (fun _=>[⟨some ga,100,ai aB a,aN,false⟩,⟨some gb,100,ai aB b,bN,false⟩,⟨some g0,63,aQ p,38,true⟩]) 9 [2,7,8,13,14,15,16,17,18] (fun z=>?_) (fun hd29=>?_)
    ·
     show ja _ _ _ _ _ _ ⟨53,[(0,ay (some ga) 0 a.length ac),(1,ay (some gb) 0 b.length bc),(5,.pointer (some ⟨g0,0,none⟩)),(6,.bool false),(7,.int .i64 (i:Nat)),(8,.int .i64 (j:Nat)),(22,fV p.i),(27,.pointer (some ⟨ga,(i)*36,none⟩)),(33,.pointer (some ⟨gb,(j)*36,none⟩))],[⟨some ga,100,ai aB a,aN,false⟩,⟨some gb,100,ai aB b,bN,false⟩,⟨some g0,63,aQ p,38,true⟩]⟩;refine aV [2,7,13] ak rfl ⟨⟨_,rfl,?_⟩,⟨_,rfl,?_⟩,⟨_,rfl,?_⟩,trivial⟩
     ·
      refine zF fun g1=>?_;refine A1 ?_;exact bF hd26 g1 ⟨rfl,rfl,rfl,rfl,rfl,rfl,rfl,rfl,rfl,trivial⟩ (aT [some 0,some 1,some 2,some 3])
     ·
      refine Gq ?_;exact bF hd25 () ⟨rfl,rfl,rfl,rfl,rfl,rfl,rfl,rfl,rfl,trivial⟩ (aT [some 0,some 1,some 2])
     ·
      refine Gp ?_;exact bF hd24 () ⟨rfl,rfl,rfl,rfl,rfl,rfl,rfl,rfl,rfl,trivial⟩ (aT [some 0,some 1,some 2])
    refine oV 0 (l':=[⟨_,_,_,_,_,_⟩]) ak rfl ?_;refine ji 0 0 rfl rfl rfl Ag rfl rfl ?_;refine A1 ?_;refine oV 3 (l':=[⟨_,_,_,_,_,_⟩]) ak rfl ?_;refine A2 ?_;refine oV 4 (l':=[⟨_,_,_,_,_,_⟩]) ak rfl ?_;refine A2 ?_;refine oV 5 (l':=[⟨_,_,_,_,_,_⟩]) ak rfl ?_;refine Fq ((i)*36) u29 EU rfl rfl rfl rfl ae ae oD ?_;refine A1 ?_;refine oV 6 (l':=[⟨_,_,_,_,_,_⟩]) ak rfl ?_;refine ji ((i)*36) 0 rfl rfl rfl EU rfl rfl ?_;refine A1 ?_;refine oV 9 (l':=[⟨_,_,_,_,_,_⟩]) ak rfl ?_;refine A2 ?_;refine oV 10 (l':=[⟨_,_,_,_,_,_⟩]) ak rfl ?_;refine A2 ?_;refine oV 11 (l':=[⟨_,_,_,_,_,_⟩]) ak rfl ?_;refine Fq ((j)*36) u29 EU rfl rfl rfl rfl ae ae oD ?_;refine A1 ?_;refine oV 12 (l':=[⟨_,_,_,_,_,_⟩]) ak rfl ?_;refine ji ((j)*36) 0 rfl rfl rfl EU rfl rfl ?_;refine A1 ?_;refine aV [1,7,13] ak rfl ⟨⟨_,rfl,?_⟩,⟨_,rfl,?_⟩,⟨_,rfl,?_⟩,trivial⟩
    ·
     refine DF ?_;exact bF hd29 () ⟨rfl,rfl,rfl,rfl,rfl,rfl,rfl,rfl,rfl,trivial⟩ (aT [some 0,some 1,some 2])
    ·
     refine Gq ?_;exact bF hd28 () ⟨rfl,rfl,rfl,rfl,rfl,rfl,rfl,rfl,rfl,trivial⟩ (aT [some 0,some 1,some 2])
    ·
     refine Gp ?_;exact bF hd27 () ⟨rfl,rfl,rfl,rfl,rfl,rfl,rfl,rfl,rfl,trivial⟩ (aT [some 0,some 1,some 2])
   rintro⟨gp,gx,gy,⟨cb,cN,cc,hcc⟩,⟨db,dN,dc,hdc⟩⟩;show At _ ⟨53,[(0,ay (some ga) 0 a.length ac),(1,ay (some gb) 0 b.length bc),(5,.pointer (some ⟨g0,0,none⟩)),(6,.bool false),(7,.int .i64 (i:Nat)),(8,.int .i64 (j:Nat)),(39,.bool (decide (((gm (mF 3) [p.i] (dB x.i y.i).toList).length:Int)=0)))],[⟨some ga,100,ai aB a,aN,false⟩,⟨some gb,100,ai aB b,bN,false⟩,⟨some g0,63,aQ p,38,true⟩,⟨some gp,61,aO p.i,20,true⟩,⟨some gx,61,aO x.i,20,true⟩,⟨some gy,61,aO y.i,20,true⟩,⟨cb,61,ai aO (dB x.i y.i).toList,cN,true⟩,⟨db,61,ai aO (gm (mF 3) [p.i] (dB x.i y.i).toList),dN,true⟩]⟩ _;refine A1 ?_;refine gQ rfl (fun hb4=>?_) (fun hb4=>?_)
   ·
    have hcv:(gm (mF 3) [p.i] (dB x.i y.i).toList).length=0:=by have e:=of_decide_eq_true hb4;omega
    refine A1 ?_;refine xX [] mixed ak ak ?_;refine A2 ?_;refine FZ ?_;refine ji ((i)*36) 20 rfl rfl rfl EU rfl rfl ?_;refine MN ?_;refine A2 ?_;refine Ia ?_;refine ji ((j)*36) 20 rfl rfl rfl EU rfl rfl ?_;refine aG (v:=yV y.f) 1 ((j)*36+20) _ rfl rfl rfl rfl IL (aX.sub hy 20 16 ax) rfl ax rfl ?_;refine Pc (wO x.f y.f) ?_;refine aF 50 (qp (d2 x.f y.f)) rfl rfl ?_;refine Pc (Ns (d2 x.f y.f)) ?_;refine Ew ?_;refine aK rfl (au rfl) (fun w hL=>⟨(),?_,hL.pk []⟩);exact congrArg (fun b=>Ending.returned (.bool b)) (qgL hx hy hM hpe hpk hcv)
   ·
    have hcv:0<(gm (mF 3) [p.i] (dB x.i y.i).toList).length:=by have e:=of_decide_eq_false hb4;omega
    refine A5 ?_;refine Ar (((j+1:Nat):Int)) ?_;refine A3 ?_;exact Nl ⟨j+1,hjt,qj2 hy hcv hM⟩ (hμ:=X7) (hL:=dR.auto)
  ·
   have hge:j=b.length:=qgI
   subst hge;refine A8 ?_;refine dP ?_;exact Nl ⟨i+1,hlt,qrY hx hM⟩ (hμ:=XF) (hL:=dR.auto)
 ·
  have hge:i=a.length:=Rx
  subst hge;refine oJ ?_;refine aK rfl (au rfl) (fun w hL=>⟨(),?_,hL.pk []⟩);exact congrArg (fun b=>Ending.returned (.bool b)) ((Vz hN).symm)
end Go.Proofs.YtaffcpfhedadhaaGreatDoor
