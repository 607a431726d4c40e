/-
  Part 36 (chapter 32): lemmas, walks. Each theorem states its own conditions.
-/
import Derived.Lib.Repeat
import Derived.Test.YtaffcpfhedadhaaGreatDoorA35
set_option linter.all false
set_option maxRecDepth 20000
set_option maxHeartbeats 20000000
section
variable{P Q:Prop}{T:Type}{R:T->Prop}
def uH(q:Q)(h:aj Q->P:=by intro q_;refine A2 ?_;refine Nt 12 ?_;refine GV o.length u32 uj rfl rfl rfl rfl (Nat.le_refl _) rfl rfl rfl ?_;refine A1 ?_;exact q_.qq):=h ⟨q⟩
def KD(q:Q)(h:aj Q->P:=by intro q_;refine qlZ ?_;refine A1 ?_;refine Nt 9 ?_;refine Fg ((j)*36) 0 ?_;refine A1 ?_;exact q_.qq):=h ⟨q⟩
def AP(q:Q)(h:aj Q->P:=by intro q_;refine A2 ?_;refine Nt 4 ?_;refine yP o.length u32 uj rfl rfl rfl rfl ae ae rfl ?_;refine A1 ?_;exact q_.qq):=h ⟨q⟩
def qdc(q:∀x,R x)(h:aj (∀x,R x)->P:=by intro q_;refine jl (s:=38) (len:=0) 6 4 (ai bg o) (fun r=>[_,_,_,_,_,_,⟨r.b,63,ai bg o,r.n,true⟩]) u32 VN rfl rfl rfl rfl rfl rfl rfl rfl rfl rfl rfl (Nat.le_refl _) (Nat.le_refl _) hobs (List.take_of_length_le ql3) (bP.length o) (bP.ones _) ae (fun _=>rfl) (fun r=>?_);exact q_.qq r):=h ⟨q⟩
def KE(q:Q)(h:aj Q->P:=by intro q_;refine aT (v:=lC y.i) 1 ((j)*36+0) _ rfl rfl rfl rfl o7 (bu.sub hy 0 20 au) rfl au rfl ?_;refine A1 ?_;exact q_.qq):=h ⟨q⟩
def qlV(h:P:=by exact uQ ⟨rfl,rfl,rfl,rfl,rfl,rfl,rfl,rfl,trivial⟩ (xK [some 0,some 1,some 2,some 3,some 4,some 5])):=h
def qlW(q:∀x,R x)(h:aj (∀x,R x)->P:=by intro q_;refine A3 ?_;refine Dq [3000000] [0,1,2,3,4,5,6,7,8,9,10,11,12] ?_;refine A2 ?_;refine RS ?_;refine UW ?_;refine A2 ?_;refine qlZ ?_;refine Fg ((j)*36) 20 ?_;refine aT (v:=AU y.f) 1 ((j)*36+20) _ rfl rfl rfl rfl qdz (bu.sub hy 20 16 au) rfl au rfl ?_;refine Pc (Ih x.f y.f) ?_;refine Aa fun g2=>?_;exact q_.qq g2):=h ⟨q⟩
def Dt(q:Q)(h:aj Q->P:=by intro q_;refine RS ?_;refine A1 ?_;refine Nt 3 ?_;refine Fg ((i)*36) 0 ?_;refine A1 ?_;exact q_.qq):=h ⟨q⟩
def qlX(q:∀x,R x)(h:aj (∀x,R x)->P:=by intro q_;refine jl (s:=38) (len:=0) 6 4 (ai bg o) (fun r=>[_,_,_,_,_,_,⟨r.b,63,ai bg o,r.n,true⟩,_]) u32 VN rfl rfl rfl rfl rfl rfl rfl rfl rfl rfl rfl (Nat.le_refl _) (Nat.le_refl _) hobs (List.take_of_length_le ql3) (bP.length o) (bP.ones _) ae (fun _=>rfl) (fun r=>?_);exact q_.qq r):=h ⟨q⟩
def qlY(q:∀x,R x)(h:aj (∀x,R x)->P:=by intro q_;refine jl (s:=38) (len:=0+o.length) (n2:=1) 6 7 (bg (aW (m,d2 x.f y.f))) (fun r2=>[_,_,_,_,_,_,⟨r2.b,63,ai bg o++bg (aW (m,d2 x.f y.f)),r2.n,true⟩,_]) u32 VN rfl rfl rfl rfl rfl rfl rfl rfl rfl rfl (by rw[bP.length,Nat.zero_add]) r.h r.hn (.inr ⟨_,rfl⟩) rfl rfl (bP.one (aW (m,d2 x.f y.f))) ae (fun _=>rfl) (fun r2=>?_);exact q_.qq r2):=h ⟨q⟩
def qaV(q:Q)(h:aj Q->P:=by intro q_;refine aJ 7 ((0)*20) Yb o7 rfl rfl rfl rfl rfl ae ae (dw.ne au ae) Jv ?_;exact q_.qq):=h ⟨q⟩
def Du(q:∀x,R x)(h:aj (∀x,R x)->P:=by intro q_;refine(Bl 0 []) (IW) (fun g4=>?_);exact q_.qq g4):=h ⟨q⟩
def JM(q:∀x,R x)(h:aj (∀x,R x)->P:=by intro q_;refine(Bl 38 [(0,_)]) (BF) (fun g5=>?_);exact q_.qq g5):=h ⟨q⟩
def qlZ(q:Q)(h:aj Q->P:=by intro q_;refine aJ 1 ((j)*36) u29 qgf rfl rfl rfl rfl rfl ae ae (bu.ne au ae) wH ?_;exact q_.qq):=h ⟨q⟩
def yL(q:Q)(h:aj Q->P:=by intro q_;refine L38 5 0 ?_;refine A1 ?_;exact q_.qq):=h ⟨q⟩
def Dw(q:Q)(h:aj Q->P:=by intro q_;refine qcX ?_;refine A1 ?_;exact q_.qq):=h ⟨q⟩
def ql0(q:Q)(h:aj Q->P:=by intro q_;refine Nt 0 ?_;refine A2 ?_;refine Nt 1 ?_;refine A2 ?_;refine Nt 6 ?_;refine A2 ?_;refine Nt 7 ?_;refine A2 ?_;exact q_.qq):=h ⟨q⟩
def ql1(h:P:=by rcases hq:fC x.i y.i with _|m;rfl;(have e:=hcQ;rw[hq] at e;simp at e)):=h
def Va(h:P:=by show b.length-(j+1)<b.length-j;omega):=h
def ql2(h:P:=by rcases hq:fC x.i y.i with _|m;(exfalso;have e:=hcQ;rw[hq] at e;simp at e);exact⟨m,rfl⟩):=h
def ql3(h:P:=by show(ai bg o).length<=_;rw[bP.length];exact Nat.le_refl _):=h
end
namespace Go.Proofs.YtaffcpfhedadhaaGreatDoor
open Go Go.RowKit Go.Via
def Qs(a:List PU)(ab:Option Nat)(aN ac:Nat)(hac:a.length<=ac)(han:a.length<=400)(b:List PU)(bb:Option Nat)(bN bc:Nat)(hbc:b.length<=bc)(hbn:b.length<=400)(hsa:Ee a)(hsb:Ee b)(H:C9 a b):bQ Tryz.prog 15 [⟨ab,100,ai aK a,aN,false⟩,⟨bb,100,ai aK b,bN,false⟩] [aB ab 0 a.length ac,aB bb 0 b.length bc] (SR ((aA a b).map aW).length) (fun z=>UQ z.v (qZ ((aA a b).map aW))) (fun z=>[⟨z.b,63,ai bg ((aA a b).map aW),z.n,true⟩]):=by
 refine⟨ak,fun w hL0=>?_⟩;have hpl:=vG a b;refine cB2 109 Tryz.func15 hL0 ?_;refine A2 ?_;refine Al 10 z40 (fun g0=>?_);refine A4 ?_;refine Al 10 z40 (fun g1=>?_);refine A9 ?_;refine El (ι:={z:Nat×List iT×Option Nat×Nat×Nat // z.1<=a.length∧z.2.1=(jX a b z.1).map aW∧z.2.1.length<=z.2.2.2.2∧z.2.2.2.2*38<=z.2.2.2.1}) (fun⟨⟨i,o,ob,oN,oc⟩,hi,hI,h3,h4⟩=>([(0,aB ab 0 a.length ac),(1,aB bb 0 b.length bc),(4,dA g0),(5,dA g1),(6,bF i)],[⟨ab,100,ai aK a,aN,false⟩,⟨bb,100,ai aK b,bN,false⟩,⟨some g0,40,O0,10,true⟩,⟨some g1,40,jy (aB ob 0 o.length oc) (rl 0),10,true⟩,⟨ob,63,ai bg o,oN,true⟩],a.length-i)) ⟨⟨0,[],none,0,0⟩,Nat.zero_le _,rfl,Nat.le_refl _,bz⟩ ?_ (hL:=(ay [some 0,some 1,some 2,some 3,none] ⟨pR,pR,pR,⟨_,rfl,aV (by rw[qj3];rfl)⟩,⟨rfl,rfl,rfl⟩,trivial⟩ rfl rfl));rintro⟨⟨i,o,ob,oN,oc⟩,hi,hI,h3,h4⟩;(try dsimp only);replace hi:i<=a.length:=hi;replace hI:o=(jX a b i).map aW:=hI;replace h3:o.length<=oc:=h3;replace h4:oc*38<=oN:=h4;refine A9 ?_;refine Cd ?_ ?_<;>intro haQ
 ·have hlt:i<a.length:=iE;obtain⟨x,hx⟩:∃x,a[i]? =some x:=⟨a[i],List.getElem?_eq_getElem hlt⟩;have hxm:=List.mem_of_getElem? hx;have hxs:=hsa x hxm;have hxe:=H.ea x hxm;refine lh ?_;refine El (ι:={z:Nat×List iT×Option Nat×Nat×Nat // z.1<=b.length∧z.2.1=(jX a b i++zi x b z.1).map aW∧z.2.1.length<=z.2.2.2.2∧z.2.2.2.2*38<=z.2.2.2.1}) (fun⟨⟨j,o,ob,oN,oc⟩,hj,hI0,h30,h40⟩=>([(0,aB ab 0 a.length ac),(1,aB bb 0 b.length bc),(4,dA g0),(5,dA g1),(6,bF i),(7,bF j)],[⟨ab,100,ai aK a,aN,false⟩,⟨bb,100,ai aK b,bN,false⟩,⟨some g0,40,O0,10,true⟩,⟨some g1,40,jy (aB ob 0 o.length oc) (rl 0),10,true⟩,⟨ob,63,ai bg o,oN,true⟩],b.length-j)) ⟨⟨0,o,ob,oN,oc⟩,Nat.zero_le _,by show o=(jX a b i++zi x b 0).map aW;rw[qcL];exact hI,h3,h4⟩ ?_ (hL:=fE.auto);rintro⟨⟨j,o,ob,oN,oc⟩,hj,hI0,h30,h40⟩;(try dsimp only);replace hj:j<=b.length:=hj;have hI:o=(jX a b i++zi x b j).map aW:=hI0;have h3:o.length<=oc:=h30;have h4:oc*38<=oN:=h40;refine A9 ?_;refine Cd ?_ ?_<;>intro hbQ
  ·have hjt:j<b.length:=kN;obtain⟨y,hy⟩:∃y,b[j]? =some y:=⟨b[j],List.getElem?_eq_getElem hjt⟩;have hym:=List.mem_of_getElem? hy;have hys:=hsb y hym;have hye:=H.eb y hym;refine dK 0 rfl (bu.ne au ae) (fun hbs=>?_);obtain⟨ga,hga⟩:=Option.isSome_iff_exists.1 hbs;replace hga:ab=some ga:=hga;subst hga;refine dK 1 rfl (bu.ne au ae) (fun hbs=>?_);obtain⟨gb,hgb⟩:=Option.isSome_iff_exists.1 hbs;replace hgb:bb=some gb:=hgb;subst hgb;refine A5 ?_;let sX:List (Nat×Value)->List (Nat×Value):=fun l=>(0,aB (some ga) 0 a.length ac)::(1,aB (some gb) 0 b.length bc)::(4,dA g0)::(5,dA g1)::(6,bF i)::(7,bF j)::l;let sY:List aF->List aF:=fun l=>⟨some ga,100,ai aK a,aN,false⟩::⟨some gb,100,ai aK b,bN,false⟩::⟨some g0,40,O0,10,true⟩::⟨some g1,40,jy (aB ob 0 o.length oc) (rl 0),10,true⟩::⟨ob,63,ai bg o,oN,true⟩::l;refine yV (nt:=109) (Z:=Nat×Nat×(SR (fC x.i y.i).toList.length)) (fun⟨gx,gy,⟨cb,cN,cc,hcc⟩⟩=>sX [(8,aB cb 0 (fC x.i y.i).toList.length cc)]) (fun⟨gx,gy,⟨cb,cN,cc,hcc⟩⟩=>sY [⟨some gx,61,aZ x.i,20,true⟩,⟨some gy,61,aZ y.i,20,true⟩,⟨cb,61,ai aZ (fC x.i y.i).toList,cN,true⟩]) 14 [0,1,2,3,4,5,6,7,8,9,10,11,12,13] mixed ak (fun hd0=>?_) ?_
   ·refine bf (nt:=109) (Z:=Nat×Nat×(SR (fC x.i y.i).toList.length)) (fun⟨gx,gy,⟨cb,cN,cc,hcc⟩⟩=>sX [(36,aB cb 0 (fC x.i y.i).toList.length cc)]) (fun⟨gx,gy,⟨cb,cN,cc,hcc⟩⟩=>sY [⟨some gx,61,aZ x.i,20,true⟩,⟨some gy,61,aZ y.i,20,true⟩,⟨cb,61,ai aZ (fC x.i y.i).toList,cN,true⟩]) 1 [13] (fun z=>?_) (fun hd1=>?_)
    ·obtain⟨gx,gy,⟨cb,cN,cc,hcc⟩⟩:=z;(try dsimp only);refine AY 13 ?_
     ·refine A2 ?_;exact Nw hd0 ⟨gx,gy,⟨cb,cN,cc,hcc⟩⟩ [0,1,2,3,4,5,6,7]
    refine bf (nt:=109) (Z:=Nat×Nat) (fun⟨gx,gy⟩=>sX [(29,aB (some gx) 0 1 1),(35,aB (some gy) 0 1 1)]) (fun⟨gx,gy⟩=>sY [⟨some gx,61,aZ x.i,20,true⟩,⟨some gy,61,aZ y.i,20,true⟩]) 2 [12,13] (fun z=>?_) (fun hd2=>?_)
    ·obtain⟨gx,gy⟩:=z;(try dsimp only);refine AY 12 ?_
     ·refine iJ [_,_,_] [5,6] rfl rfl rfl (qrb x y hxe hye ae ae gx gy _ _) ⟨pS,pS,trivial⟩ rfl (.inr fun x b hb=>xO) (fun zc=>?_);obtain⟨cb,cN,cc,hcc⟩:=zc;refine A1 ?_;exact Nw hd1 ⟨gx,gy,⟨cb,cN,cc,hcc⟩⟩ [0,1,2,3,4,5,6,7]
    refine bf (nt:=109) (Z:=Nat) (fun gy=>sX [(28,lC x.i),(35,aB (some gy) 0 1 1)]) (fun gy=>sY [⟨some gy,61,aZ y.i,20,true⟩]) 3 [5,12,13] (fun gy=>?_) (fun hd3=>?_)
    ·(try dsimp only);refine AY 5 ?_
     ·refine Pi fun g3=>?_;refine A1 ?_;exact Nw hd2 ⟨g3,gy⟩ [0,1,2,3,4,6,5]
    refine bf (nt:=109) (Z:=Nat) (fun gx=>sX [(29,aB (some gx) 0 1 1),(34,lC y.i)]) (fun gx=>sY [⟨some gx,61,aZ x.i,20,true⟩]) 3 [11,12,13] (fun gx=>?_) (fun hd4=>?_)
    ·(try dsimp only);refine AY 11 ?_
     ·refine Pi fun g3=>?_;refine A1 ?_;exact Nw hd2 ⟨gx,g3⟩ [0,1,2,3,4,5,6]
    refine bf (nt:=109) (Z:=Nat) (fun gy=>sX [(27,.pointer (some ⟨ga,(i)*36,none⟩)),(35,aB (some gy) 0 1 1)]) (fun gy=>sY [⟨some gy,61,aZ y.i,20,true⟩]) 4 [4,5,12,13] (fun gy=>?_) (fun hd5=>?_)
    ·(try dsimp only);refine AY 4 ?_
     ·refine Dw ?_;exact Nw hd3 gy [0,1,2,3,4,5]
    refine bf (nt:=109) (Z:=Unit) (fun _=>sX [(28,lC x.i),(34,lC y.i)]) (fun _=>sY []) 4 [5,11,12,13] (fun z=>?_) (fun hd6=>?_)
    ·(try dsimp only);refine bI [5,11] ak rfl ⟨⟨_,rfl,?_⟩,⟨_,rfl,?_⟩,trivial⟩
     ·refine qM fun g2=>?_;refine A1 ?_;exact Nw hd4 g2 [0,1,2,3,4,5]
     ·refine qM fun g2=>?_;refine A1 ?_;exact Nw hd3 g2 [0,1,2,3,4,5]
    refine bf (nt:=109) (Z:=Nat) (fun gx=>sX [(29,aB (some gx) 0 1 1),(33,.pointer (some ⟨gb,(j)*36,none⟩))]) (fun gx=>sY [⟨some gx,61,aZ x.i,20,true⟩]) 4 [10,11,12,13] (fun gx=>?_) (fun hd7=>?_)
    ·(try dsimp only);refine AY 10 ?_
     ·refine KE ?_;exact Nw hd4 gx [0,1,2,3,4,5]
    refine bf (nt:=109) (Z:=Unit) (fun _=>sX [(27,.pointer (some ⟨ga,(i)*36,none⟩)),(34,lC y.i)]) (fun _=>sY []) 5 [4,5,11,12,13] (fun z=>?_) (fun hd8=>?_)
    ·(try dsimp only);refine bI [4,11] ak rfl ⟨⟨_,rfl,?_⟩,⟨_,rfl,?_⟩,trivial⟩
     ·refine Dw ?_;exact Nw hd6 () [0,1,2,3,4]
     ·refine qM fun g2=>?_;refine A1 ?_;exact Nw hd5 g2 [0,1,2,3,4,5]
    refine bf (nt:=109) (Z:=Unit) (fun _=>sX [(28,lC x.i),(33,.pointer (some ⟨gb,(j)*36,none⟩))]) (fun _=>sY []) 5 [5,10,11,12,13] (fun z=>?_) (fun hd9=>?_)
    ·(try dsimp only);refine bI [5,10] ak rfl ⟨⟨_,rfl,?_⟩,⟨_,rfl,?_⟩,trivial⟩
     ·refine qM fun g2=>?_;refine A1 ?_;exact Nw hd7 g2 [0,1,2,3,4,5]
     ·refine KE ?_;exact Nw hd6 () [0,1,2,3,4]
    refine bf (nt:=109) (Z:=Nat) (fun gy=>sX [(24,aB (some ga) 0 a.length ac),(25,bF i),(35,aB (some gy) 0 1 1)]) (fun gy=>sY [⟨some gy,61,aZ y.i,20,true⟩]) 6 [2,3,4,5,12,13] (fun gy=>?_) (fun hd10=>?_)
    ·(try dsimp only);refine AY 2 ?_
     ·refine Dt ?_;exact Nw hd5 gy [0,1,2,3,4,5]
    refine bf (nt:=109) (Z:=Unit) (fun _=>sX [(27,.pointer (some ⟨ga,(i)*36,none⟩)),(33,.pointer (some ⟨gb,(j)*36,none⟩))]) (fun _=>sY []) 6 [4,5,10,11,12,13] (fun z=>?_) (fun hd11=>?_)
    ·(try dsimp only);refine bI [4,10] ak rfl ⟨⟨_,rfl,?_⟩,⟨_,rfl,?_⟩,trivial⟩
     ·refine Dw ?_;exact Nw hd9 () [0,1,2,3,4]
     ·refine KE ?_;exact Nw hd8 () [0,1,2,3,4]
    refine bf (nt:=109) (Z:=Nat) (fun gx=>sX [(29,aB (some gx) 0 1 1),(30,aB (some gb) 0 b.length bc),(31,bF j)]) (fun gx=>sY [⟨some gx,61,aZ x.i,20,true⟩]) 6 [8,9,10,11,12,13] (fun gx=>?_) (fun hd12=>?_)
    ·(try dsimp only);refine AY 8 ?_
     ·refine KD ?_;exact Nw hd7 gx [0,1,2,3,4,5]
    refine bf (nt:=109) (Z:=Unit) (fun _=>sX [(24,aB (some ga) 0 a.length ac),(25,bF i),(34,lC y.i)]) (fun _=>sY []) 7 [2,3,4,5,11,12,13] (fun z=>?_) (fun hd13=>?_)
    ·(try dsimp only);refine bI [2,11] ak rfl ⟨⟨_,rfl,?_⟩,⟨_,rfl,?_⟩,trivial⟩
     ·refine Dt ?_;exact Nw hd8 () [0,1,2,3,4]
     ·refine qM fun g2=>?_;refine A1 ?_;exact Nw hd10 g2 [0,1,2,3,4,5]
    refine bf (nt:=109) (Z:=Unit) (fun _=>sX [(28,lC x.i),(30,aB (some gb) 0 b.length bc),(31,bF j)]) (fun _=>sY []) 7 [5,8,9,10,11,12,13] (fun z=>?_) (fun hd14=>?_)
    ·(try dsimp only);refine bI [5,8] ak rfl ⟨⟨_,rfl,?_⟩,⟨_,rfl,?_⟩,trivial⟩
     ·refine qM fun g2=>?_;refine A1 ?_;exact Nw hd12 g2 [0,1,2,3,4,5]
     ·refine KD ?_;exact Nw hd9 () [0,1,2,3,4]
    refine bf (nt:=109) (Z:=Unit) (fun _=>sX [(24,aB (some ga) 0 a.length ac),(25,bF i),(33,.pointer (some ⟨gb,(j)*36,none⟩))]) (fun _=>sY []) 8 [2,3,4,5,10,11,12,13] (fun z=>?_) (fun hd15=>?_)
    ·(try dsimp only);refine bI [2,10] ak rfl ⟨⟨_,rfl,?_⟩,⟨_,rfl,?_⟩,trivial⟩
     ·refine Dt ?_;exact Nw hd11 () [0,1,2,3,4]
     ·refine KE ?_;exact Nw hd13 () [0,1,2,3,4]
    refine bf (nt:=109) (Z:=Unit) (fun _=>sX [(27,.pointer (some ⟨ga,(i)*36,none⟩)),(30,aB (some gb) 0 b.length bc),(31,bF j)]) (fun _=>sY []) 8 [4,5,8,9,10,11,12,13] (fun z=>?_) (fun hd16=>?_)
    ·(try dsimp only);refine bI [4,8] ak rfl ⟨⟨_,rfl,?_⟩,⟨_,rfl,?_⟩,trivial⟩
     ·refine Dw ?_;exact Nw hd14 () [0,1,2,3,4]
     ·refine KD ?_;exact Nw hd11 () [0,1,2,3,4]
    refine ql0 ?_;refine bI [2,8] ak rfl ⟨⟨_,rfl,?_⟩,⟨_,rfl,?_⟩,trivial⟩
    ·refine Dt ?_;exact Nw hd16 () [0,1,2,3,4]
    ·refine KD ?_;exact Nw hd15 () [0,1,2,3,4]
   rintro⟨gx,gy,⟨cb,cN,cc,hcc⟩⟩;show At _ ⟨109,[(0,aB (some ga) 0 a.length ac),(1,aB (some gb) 0 b.length bc),(4,dA g0),(5,dA g1),(6,bF i),(7,bF j),(8,aB cb 0 (fC x.i y.i).toList.length cc)],[⟨some ga,100,ai aK a,aN,false⟩,⟨some gb,100,ai aK b,bN,false⟩,⟨some g0,40,O0,10,true⟩,⟨some g1,40,jy (aB ob 0 o.length oc) (rl 0),10,true⟩,⟨ob,63,ai bg o,oN,true⟩,⟨some gx,61,aZ x.i,20,true⟩,⟨some gy,61,aZ y.i,20,true⟩,⟨cb,61,ai aZ (fC x.i y.i).toList,cN,true⟩]⟩ _;refine A9 ?_;refine Cd ?_ ?_<;>intro hcQ
   ·have hm:fC x.i y.i=none:=ql1
    refine A6 ?_;refine PL ?_;exact Nl ⟨⟨j+1,o,ob,oN,oc⟩,hjt,by show o=(jX a b i++zi x b (j+1)).map aW;rw[UR hy,qj8 hm];simpa using hI,h3,h4⟩ (hμ:=Va) (hL:=fE.auto)
   ·obtain⟨m,hm⟩:∃m,fC x.i y.i=some m:=ql2
    have hm0:(fC x.i y.i).toList[0]? =some m:=(by rw[hm];rfl);have hm1:0<(fC x.i y.i).toList.length:=(by rw[hm];exact Nat.one_pos);have hz:=qj7 hm;have hpm:=qcM H hx hy hz;have hps:=wQ hsa hsb _ hpm;have hpe:=Sl H.ea H.eb _ hpm;have hol:=qj6 H hx hy hz;replace hol:o.length<a.length+b.length:=(by rw[hI,List.length_map];exact hol);have l1:=ig m;have l2:=gW m;replace hps:gV m<=100∧ve (d2 x.f y.f)<=820:=hps;refine dK 7 rfl (dw.ne au hm1) (fun hbs=>?_);obtain⟨gc,hgc⟩:=Option.isSome_iff_exists.1 hbs;replace hgc:cb=some gc:=hgc;subst hgc;refine qh 4 rfl (fun hbase=>?_);have hobs:o.length=0∨∃g,ob=some g:=qJ bP au hbase;refine qlW fun g2=>?_;refine Ss 8 ?_;refine A3 ?_;refine Dq [3000000] [0,1,2,3,4,5,6,7,9,10,11,12,13,8,14,15,16,17] ?_;refine A1 ?_;refine qaV ?_;refine aT (v:=lC m) 7 ((0)*20) _ rfl rfl rfl rfl o7 (dw.sub hm0 0 20 au) rfl au rfl ?_;refine xg 8 0 ?_;refine A1 ?_;refine qaV ?_;refine Fg ((0)*20) 0 ?_;refine aT (v:=RV m.f) 7 ((0)*20+0) _ rfl rfl rfl rfl jk (dw.sub hm0 0 9 au) rfl au rfl ?_;refine xg 8 0 ?_;refine A1 ?_;refine qaV ?_;refine Fg ((0)*20) 9 ?_;refine aT (v:=RV m.t) 7 ((0)*20+9) _ rfl rfl rfl rfl jk (dw.sub hm0 9 9 au) rfl au rfl ?_;refine Pc (Af (d2 x.f y.f) m.f (okZ hpe.1)) ?_;refine Pc (Af (d2 x.f y.f) m.t (okZ hpe.2)) ?_;refine(Bu [(0,_),(1,_),(2,_)]) (YE) ?_;refine Al 38 z63 (fun g3=>?_);refine Ss 9 ?_;refine lh ?_;refine TD (nt:=109) [(0,aB (some ga) 0 a.length ac),(1,aB (some gb) 0 b.length bc),(4,dA g0),(5,dA g1),(6,bF i),(7,bF j),(10,dA g3),(11,bF (o.length))] [⟨some ga,100,ai aK a,aN,false⟩,⟨some gb,100,ai aK b,bN,false⟩,⟨some g0,40,O0,10,true⟩,⟨some g1,40,jy (aB ob 0 o.length oc) (rl 0),10,true⟩,⟨ob,63,ai bg o,oN,true⟩,⟨some g3,63,bg (aW (m,d2 x.f y.f)),38,true⟩] ?_ ?_
    ·refine A1 ?_;refine El (ι:={u:Unit // True}) (fun⟨u,_⟩=>([(0,aB (some ga) 0 a.length ac),(1,aB (some gb) 0 b.length bc),(4,dA g0),(5,dA g1),(6,bF i),(7,bF j),(10,dA g3),(11,bF (o.length))],[⟨some ga,100,ai aK a,aN,false⟩,⟨some gb,100,ai aK b,bN,false⟩,⟨some g0,40,O0,10,true⟩,⟨some g1,40,jy (aB ob 0 o.length oc) (rl 0),10,true⟩,⟨ob,63,ai bg o,oN,true⟩,⟨some g3,63,bg (aW (m,d2 x.f y.f)),38,true⟩],0)) ⟨(),trivial⟩ ?_ (hL:=(xK [some 0,some 1,some 2,some 3,some 4,some 9]));rintro⟨u,_⟩;(try dsimp only);refine A2 ?_;refine Di [] ?_;refine A3 ?_;refine Rs 72 ?_ ?_<;>intro hdQ
     ·have hop:0<o.length:=xM;obtain⟨p,hp⟩:∃p,o[o.length-1]? =some p:=⟨_,List.getElem?_eq_getElem ae⟩;obtain⟨go,hgo⟩:=hobs.resolve_left ae;subst hgo;have hpq:=List.mem_of_getElem? hp;rw[hI] at hpq;obtain⟨q,hq,hqp⟩:=List.mem_map.1 hpq;have hord:¬aY m.f p.i.f<0:=by rw[<-hqp];exact qj4 H hx hy hz hq
      have hqs:=(wQ hsa hsb _ (qj5 H hx hy hz hq)).1;have hqf:eU p.i.f<=100:=(by rw[<-hqp];exact Nat.le_trans (ig q.1) hqs);refine A2 ?_;refine L9 5 0 ?_;refine A3 ?_;refine(Aq ((o.length:Int)-1)) uw ?_;refine aJ 4 ((o.length-1)*38) u32 uj rfl rfl rfl rfl rfl ae ae (bP.ne au ae) Ag ?_;refine Fg ((o.length-1)*38) 0 ?_;refine Fg ((o.length-1)*38+0) 0 ?_;refine aT (v:=RV p.i.f) 4 ((o.length-1)*38+0+0) _ rfl rfl rfl rfl jk (bP.sub hp 0 9 au) rfl au rfl ?_;refine Pc (eF m.f p.i.f) ?_;refine A4 ?_;refine Cd ?_ ?_<;>intro heQ
      ·exact absurd (of_decide_eq_true heQ) hord
      ·refine A5 ?_;exact qlV
     ·refine A22 ?_;exact qlV
    let sX:List (Nat×Value)->List (Nat×Value):=fun l=>(0,aB (some ga) 0 a.length ac)::(1,aB (some gb) 0 b.length bc)::(4,dA g0)::(5,dA g1)::(6,bF i)::(7,bF j)::l;let sY:List aF->List aF:=fun l=>⟨some ga,100,ai aK a,aN,false⟩::⟨some gb,100,ai aK b,bN,false⟩::⟨some g0,40,O0,10,true⟩::l;refine yV (nt:=109) (Z:=Nat×(OR (0+o.length+1+(o.length-o.length)) 38)) (fun⟨g96,r3⟩=>sX []) (fun⟨g96,r3⟩=>sY [⟨some g1,40,jy (aB r3.b 0 (0+o.length+1+(o.length-o.length)) r3.cap) (rl 0),10,true⟩,⟨ob,63,ai bg o,oN,true⟩,⟨some g3,63,bg (aW (m,d2 x.f y.f)),38,true⟩,⟨r3.b,63,(ai bg o++bg (aW (m,d2 x.f y.f)))++ai bg (o.drop o.length),r3.n,true⟩,⟨some g96,63,bg (aW (m,d2 x.f y.f)),38,true⟩]) 16 [0,1,2,3,4,5,6,7,8,9,10,11,12,13,14,15] mixed ak (fun hd0=>?_) ?_
    ·refine bf (nt:=109) (Z:=Nat×(OR (0+o.length+1+(o.length-o.length)) 38)) (fun⟨g96,r3⟩=>sX [(10,dA g3),(11,bF (o.length)),(102,aB r3.b 0 (0+o.length+1+(o.length-o.length)) r3.cap),(103,dA g1)]) (fun⟨g96,r3⟩=>sY [⟨some g1,40,jy (aB ob 0 o.length oc) (rl 0),10,true⟩,⟨ob,63,ai bg o,oN,true⟩,⟨some g3,63,bg (aW (m,d2 x.f y.f)),38,true⟩,⟨r3.b,63,(ai bg o++bg (aW (m,d2 x.f y.f)))++ai bg (o.drop o.length),r3.n,true⟩,⟨some g96,63,bg (aW (m,d2 x.f y.f)),38,true⟩]) 1 [15] (fun z=>?_) (fun hd1=>?_)
     ·obtain⟨g96,r3⟩:=z;(try dsimp only);refine AY 15 ?_
      ·refine Ss 3 ?_;refine A1 ?_;exact Nw hd0 ⟨g96,r3⟩ [0,1,2,3,4,5,6,7]
     refine bf (nt:=109) (Z:=Nat×(OR (0+o.length+1) 38)) (fun⟨g96,r2⟩=>sX [(10,dA g3),(11,bF (o.length)),(97,aB r2.b 0 (0+o.length+1) r2.cap),(101,aB ob (if oc=o.length then 0 else o.length*38) (o.length-o.length) (oc-o.length))]) (fun⟨g96,r2⟩=>sY [⟨some g1,40,jy (aB ob 0 o.length oc) (rl 0),10,true⟩,⟨ob,63,ai bg o,oN,true⟩,⟨some g3,63,bg (aW (m,d2 x.f y.f)),38,true⟩,⟨r2.b,63,ai bg o++bg (aW (m,d2 x.f y.f)),r2.n,true⟩,⟨some g96,63,bg (aW (m,d2 x.f y.f)),38,true⟩]) 3 [13,14,15] (fun z=>?_) (fun hd2=>?_)
     ·obtain⟨g96,r2⟩:=z;(try dsimp only);refine AY 13 ?_
      ·refine(Qo (s:=38) (len:=0+o.length+1) 6 4 (ai bg (o.drop o.length)) (fun r3=>[_,_,_,_,_,_,⟨r3.b,63,(ai bg o++bg (aW (m,d2 x.f y.f)))++ai bg (o.drop o.length),r3.n,true⟩,_]) u32 VN) (by exact(by rw[List.length_append,bP.length];show o.length*38+38=_;omega)) r2.h r2.hn qaf (bP.dropT h3 (Nat.le_refl _)) (bP.lenDrop o o.length) (bP.ones _) (fun r3=>?_);refine A1 ?_;refine Nt 14 ?_;refine Fg 0 0 ?_;refine A1 ?_;exact Nw hd1 ⟨g96,r3⟩ [0,1,2,3,4,5,6,7]
     refine bf (nt:=109) (Z:=(OR (0+o.length) 38)×Nat) (fun⟨r,g96⟩=>sX [(10,dA g3),(11,bF (o.length)),(94,aB r.b 0 (0+o.length) r.cap),(96,aB (some g96) 0 1 1),(101,aB ob (if oc=o.length then 0 else o.length*38) (o.length-o.length) (oc-o.length))]) (fun⟨r,g96⟩=>sY [⟨some g1,40,jy (aB ob 0 o.length oc) (rl 0),10,true⟩,⟨ob,63,ai bg o,oN,true⟩,⟨some g3,63,bg (aW (m,d2 x.f y.f)),38,true⟩,⟨r.b,63,ai bg o,r.n,true⟩,⟨some g96,63,bg (aW (m,d2 x.f y.f)),38,true⟩]) 4 [8,13,14,15] (fun z=>?_) (fun hd3=>?_)
     ·obtain⟨r,g96⟩:=z;(try dsimp only);refine AY 8 ?_
      ·refine qlY fun r2=>?_;refine A1 ?_;exact Nw hd2 ⟨g96,r2⟩ [0,1,2,3,4,5,6,7]
     refine bf (nt:=109) (Z:=Nat×Nat) (fun⟨g89,g96⟩=>sX [(10,dA g3),(11,bF (o.length)),(89,aB (some g89) 0 0 0),(93,aB ob 0 o.length oc),(96,aB (some g96) 0 1 1),(101,aB ob (if oc=o.length then 0 else o.length*38) (o.length-o.length) (oc-o.length))]) (fun⟨g89,g96⟩=>sY [⟨some g1,40,jy (aB ob 0 o.length oc) (rl 0),10,true⟩,⟨ob,63,ai bg o,oN,true⟩,⟨some g3,63,bg (aW (m,d2 x.f y.f)),38,true⟩,⟨some g89,63,[],0,true⟩,⟨some g96,63,bg (aW (m,d2 x.f y.f)),38,true⟩]) 5 [5,8,13,14,15] (fun z=>?_) (fun hd4=>?_)
     ·obtain⟨g89,g96⟩:=z;(try dsimp only);refine AY 5 ?_
      ·refine qlX fun r=>?_;refine A1 ?_;exact Nw hd3 ⟨r,g96⟩ [0,1,2,3,4,5,6,7]
     refine bf (nt:=109) (Z:=OR (0+o.length) 38) (fun r=>sX [(10,dA g3),(11,bF (o.length)),(94,aB r.b 0 (0+o.length) r.cap),(95,Kt (aW (m,d2 x.f y.f))),(101,aB ob (if oc=o.length then 0 else o.length*38) (o.length-o.length) (oc-o.length))]) (fun r=>sY [⟨some g1,40,jy (aB ob 0 o.length oc) (rl 0),10,true⟩,⟨ob,63,ai bg o,oN,true⟩,⟨some g3,63,bg (aW (m,d2 x.f y.f)),38,true⟩,⟨r.b,63,ai bg o,r.n,true⟩]) 5 [7,8,13,14,15] (fun r=>?_) (fun hd5=>?_)
     ·(try dsimp only);refine AY 7 ?_
      ·refine JM fun g5=>?_;refine A1 ?_;exact Nw hd3 ⟨r,g5⟩ [0,1,2,3,4,5,6,7]
     refine bf (nt:=109) (Z:=Nat×(OR (0+o.length+1) 38)) (fun⟨g96,r2⟩=>sX [(10,dA g3),(11,bF (o.length)),(97,aB r2.b 0 (0+o.length+1) r2.cap),(98,dA g1),(100,bF (o.length))]) (fun⟨g96,r2⟩=>sY [⟨some g1,40,jy (aB ob 0 o.length oc) (rl 0),10,true⟩,⟨ob,63,ai bg o,oN,true⟩,⟨some g3,63,bg (aW (m,d2 x.f y.f)),38,true⟩,⟨r2.b,63,ai bg o++bg (aW (m,d2 x.f y.f)),r2.n,true⟩,⟨some g96,63,bg (aW (m,d2 x.f y.f)),38,true⟩]) 5 [10,12,13,14,15] (fun z=>?_) (fun hd6=>?_)
     ·obtain⟨g96,r2⟩:=z;(try dsimp only);refine AY 10 ?_
      ·refine uH ?_;exact Nw hd2 ⟨g96,r2⟩ [0,1,2,3,4,5,6,7]
     refine bf (nt:=109) (Z:=Nat) (fun g96=>sX [(10,dA g3),(11,bF (o.length)),(93,aB ob 0 o.length oc),(96,aB (some g96) 0 1 1),(101,aB ob (if oc=o.length then 0 else o.length*38) (o.length-o.length) (oc-o.length))]) (fun g96=>sY [⟨some g1,40,jy (aB ob 0 o.length oc) (rl 0),10,true⟩,⟨ob,63,ai bg o,oN,true⟩,⟨some g3,63,bg (aW (m,d2 x.f y.f)),38,true⟩,⟨some g96,63,bg (aW (m,d2 x.f y.f)),38,true⟩]) 6 [0,5,8,13,14,15] (fun g96=>?_) (fun hd7=>?_)
     ·(try dsimp only);refine AY 0 ?_
      ·refine(Bl 0 []) (IW) (fun g5=>?_);refine A1 ?_;exact Nw hd4 ⟨g5,g96⟩ [0,1,2,3,4,5,7,6]
     refine bf (nt:=109) (Z:=Nat) (fun g89=>sX [(10,dA g3),(11,bF (o.length)),(89,aB (some g89) 0 0 0),(93,aB ob 0 o.length oc),(95,Kt (aW (m,d2 x.f y.f))),(101,aB ob (if oc=o.length then 0 else o.length*38) (o.length-o.length) (oc-o.length))]) (fun g89=>sY [⟨some g1,40,jy (aB ob 0 o.length oc) (rl 0),10,true⟩,⟨ob,63,ai bg o,oN,true⟩,⟨some g3,63,bg (aW (m,d2 x.f y.f)),38,true⟩,⟨some g89,63,[],0,true⟩]) 6 [5,7,8,13,14,15] (fun g89=>?_) (fun hd8=>?_)
     ·(try dsimp only);refine bI [5,7] ak rfl ⟨⟨_,rfl,?_⟩,⟨_,rfl,?_⟩,trivial⟩
      ·refine qdc fun r=>?_;refine A1 ?_;exact Nw hd5 r [0,1,2,3,4,5,6]
      ·refine JM fun g5=>?_;refine A1 ?_;exact Nw hd4 ⟨g89,g5⟩ [0,1,2,3,4,5,6,7]
     refine bf (nt:=109) (Z:=OR (0+o.length) 38) (fun r=>sX [(10,dA g3),(11,bF (o.length)),(94,aB r.b 0 (0+o.length) r.cap),(101,aB ob (if oc=o.length then 0 else o.length*38) (o.length-o.length) (oc-o.length))]) (fun r=>sY [⟨some g1,40,jy (aB ob 0 o.length oc) (rl 0),10,true⟩,⟨ob,63,ai bg o,oN,true⟩,⟨some g3,63,bg (aW (m,d2 x.f y.f)),38,true⟩,⟨r.b,63,ai bg o,r.n,true⟩]) 6 [6,7,8,13,14,15] (fun r=>?_) (fun hd9=>?_)
     ·(try dsimp only);refine AY 6 ?_
      ·refine yL ?_;exact Nw hd5 r [0,1,2,3,4,5,6]
     refine bf (nt:=109) (Z:=(OR (0+o.length) 38)×Nat) (fun⟨r,g96⟩=>sX [(10,dA g3),(11,bF (o.length)),(94,aB r.b 0 (0+o.length) r.cap),(96,aB (some g96) 0 1 1),(98,dA g1),(100,bF (o.length))]) (fun⟨r,g96⟩=>sY [⟨some g1,40,jy (aB ob 0 o.length oc) (rl 0),10,true⟩,⟨ob,63,ai bg o,oN,true⟩,⟨some g3,63,bg (aW (m,d2 x.f y.f)),38,true⟩,⟨r.b,63,ai bg o,r.n,true⟩,⟨some g96,63,bg (aW (m,d2 x.f y.f)),38,true⟩]) 6 [8,10,12,13,14,15] (fun z=>?_) (fun hd10=>?_)
     ·obtain⟨r,g96⟩:=z;(try dsimp only);refine bI [8,10] ak rfl ⟨⟨_,rfl,?_⟩,⟨_,rfl,?_⟩,trivial⟩
      ·refine qlY fun r2=>?_;refine A1 ?_;exact Nw hd6 ⟨g96,r2⟩ [0,1,2,3,4,5,6,7]
      ·refine uH ?_;exact Nw hd3 ⟨r,g96⟩ [0,1,2,3,4,5,6,7]
     refine bf (nt:=109) (Z:=Unit) (fun _=>sX [(10,dA g3),(11,bF (o.length)),(93,aB ob 0 o.length oc),(95,Kt (aW (m,d2 x.f y.f))),(101,aB ob (if oc=o.length then 0 else o.length*38) (o.length-o.length) (oc-o.length))]) (fun _=>sY [⟨some g1,40,jy (aB ob 0 o.length oc) (rl 0),10,true⟩,⟨ob,63,ai bg o,oN,true⟩,⟨some g3,63,bg (aW (m,d2 x.f y.f)),38,true⟩]) 7 [0,5,7,8,13,14,15] (fun z=>?_) (fun hd11=>?_)
     ·(try dsimp only);refine bI [0,7] ak rfl ⟨⟨_,rfl,?_⟩,⟨_,rfl,?_⟩,trivial⟩
      ·refine Du fun g4=>?_;refine A1 ?_;exact Nw hd8 g4 [0,1,2,3,4,5,6]
      ·refine(Bl 38 [(0,_)]) (BF) (fun g4=>?_);refine A1 ?_;exact Nw hd7 g4 [0,1,2,3,4,5,6]
     refine bf (nt:=109) (Z:=Nat×Nat) (fun⟨g89,g96⟩=>sX [(10,dA g3),(11,bF (o.length)),(89,aB (some g89) 0 0 0),(90,dA g1),(92,bF (o.length)),(96,aB (some g96) 0 1 1),(101,aB ob (if oc=o.length then 0 else o.length*38) (o.length-o.length) (oc-o.length))]) (fun⟨g89,g96⟩=>sY [⟨some g1,40,jy (aB ob 0 o.length oc) (rl 0),10,true⟩,⟨ob,63,ai bg o,oN,true⟩,⟨some g3,63,bg (aW (m,d2 x.f y.f)),38,true⟩,⟨some g89,63,[],0,true⟩,⟨some g96,63,bg (aW (m,d2 x.f y.f)),38,true⟩]) 7 [2,4,5,8,13,14,15] (fun z=>?_) (fun hd12=>?_)
     ·obtain⟨g89,g96⟩:=z;(try dsimp only);refine AY 2 ?_
      ·refine AP ?_;exact Nw hd4 ⟨g89,g96⟩ [0,1,2,3,4,5,6,7]
     refine bf (nt:=109) (Z:=Nat) (fun g89=>sX [(10,dA g3),(11,bF (o.length)),(89,aB (some g89) 0 0 0),(93,aB ob 0 o.length oc),(101,aB ob (if oc=o.length then 0 else o.length*38) (o.length-o.length) (oc-o.length))]) (fun g89=>sY [⟨some g1,40,jy (aB ob 0 o.length oc) (rl 0),10,true⟩,⟨ob,63,ai bg o,oN,true⟩,⟨some g3,63,bg (aW (m,d2 x.f y.f)),38,true⟩,⟨some g89,63,[],0,true⟩]) 7 [5,6,7,8,13,14,15] (fun g89=>?_) (fun hd13=>?_)
     ·(try dsimp only);refine bI [5,6] ak rfl ⟨⟨_,rfl,?_⟩,⟨_,rfl,?_⟩,trivial⟩
      ·refine qdc fun r=>?_;refine A1 ?_;exact Nw hd9 r [0,1,2,3,4,5,6]
      ·refine yL ?_;exact Nw hd8 g89 [0,1,2,3,4,5,6]
     refine bf (nt:=109) (Z:=Nat×Nat) (fun⟨g89,g96⟩=>sX [(10,dA g3),(11,bF (o.length)),(89,aB (some g89) 0 0 0),(93,aB ob 0 o.length oc),(96,aB (some g96) 0 1 1),(98,dA g1),(100,bF (o.length))]) (fun⟨g89,g96⟩=>sY [⟨some g1,40,jy (aB ob 0 o.length oc) (rl 0),10,true⟩,⟨ob,63,ai bg o,oN,true⟩,⟨some g3,63,bg (aW (m,d2 x.f y.f)),38,true⟩,⟨some g89,63,[],0,true⟩,⟨some g96,63,bg (aW (m,d2 x.f y.f)),38,true⟩]) 7 [5,8,10,12,13,14,15] (fun z=>?_) (fun hd14=>?_)
     ·obtain⟨g89,g96⟩:=z;(try dsimp only);refine bI [5,10] ak rfl ⟨⟨_,rfl,?_⟩,⟨_,rfl,?_⟩,trivial⟩
      ·refine qlX fun r=>?_;refine A1 ?_;exact Nw hd10 ⟨r,g96⟩ [0,1,2,3,4,5,6,7]
      ·refine uH ?_;exact Nw hd4 ⟨g89,g96⟩ [0,1,2,3,4,5,6,7]
     refine bf (nt:=109) (Z:=OR (0+o.length) 38) (fun r=>sX [(10,dA g3),(11,bF (o.length)),(94,aB r.b 0 (0+o.length) r.cap),(95,Kt (aW (m,d2 x.f y.f))),(98,dA g1),(100,bF (o.length))]) (fun r=>sY [⟨some g1,40,jy (aB ob 0 o.length oc) (rl 0),10,true⟩,⟨ob,63,ai bg o,oN,true⟩,⟨some g3,63,bg (aW (m,d2 x.f y.f)),38,true⟩,⟨r.b,63,ai bg o,r.n,true⟩]) 7 [7,8,10,12,13,14,15] (fun r=>?_) (fun hd15=>?_)
     ·(try dsimp only);refine bI [7,10] ak rfl ⟨⟨_,rfl,?_⟩,⟨_,rfl,?_⟩,trivial⟩
      ·refine JM fun g5=>?_;refine A1 ?_;exact Nw hd10 ⟨r,g5⟩ [0,1,2,3,4,5,6,7]
      ·refine uH ?_;exact Nw hd5 r [0,1,2,3,4,5,6]
     refine bf (nt:=109) (Z:=Nat) (fun g96=>sX [(10,dA g3),(11,bF (o.length)),(90,dA g1),(92,bF (o.length)),(96,aB (some g96) 0 1 1),(101,aB ob (if oc=o.length then 0 else o.length*38) (o.length-o.length) (oc-o.length))]) (fun g96=>sY [⟨some g1,40,jy (aB ob 0 o.length oc) (rl 0),10,true⟩,⟨ob,63,ai bg o,oN,true⟩,⟨some g3,63,bg (aW (m,d2 x.f y.f)),38,true⟩,⟨some g96,63,bg (aW (m,d2 x.f y.f)),38,true⟩]) 8 [0,2,4,5,8,13,14,15] (fun g96=>?_) (fun hd16=>?_)
     ·(try dsimp only);refine bI [0,2] ak rfl ⟨⟨_,rfl,?_⟩,⟨_,rfl,?_⟩,trivial⟩
      ·refine(Bl 0 []) (IW) (fun g5=>?_);refine A1 ?_;exact Nw hd12 ⟨g5,g96⟩ [0,1,2,3,4,5,7,6]
      ·refine AP ?_;exact Nw hd7 g96 [0,1,2,3,4,5,6]
     refine bf (nt:=109) (Z:=Unit) (fun _=>sX [(10,dA g3),(11,bF (o.length)),(93,aB ob 0 o.length oc),(101,aB ob (if oc=o.length then 0 else o.length*38) (o.length-o.length) (oc-o.length))]) (fun _=>sY [⟨some g1,40,jy (aB ob 0 o.length oc) (rl 0),10,true⟩,⟨ob,63,ai bg o,oN,true⟩,⟨some g3,63,bg (aW (m,d2 x.f y.f)),38,true⟩]) 8 [0,5,6,7,8,13,14,15] (fun z=>?_) (fun hd17=>?_)
     ·(try dsimp only);refine bI [0,6] ak rfl ⟨⟨_,rfl,?_⟩,⟨_,rfl,?_⟩,trivial⟩
      ·refine Du fun g4=>?_;refine A1 ?_;exact Nw hd13 g4 [0,1,2,3,4,5,6]
      ·refine yL ?_;exact Nw hd11 () [0,1,2,3,4,5]
     refine bf (nt:=109) (Z:=Nat) (fun g96=>sX [(10,dA g3),(11,bF (o.length)),(93,aB ob 0 o.length oc),(96,aB (some g96) 0 1 1),(98,dA g1),(100,bF (o.length))]) (fun g96=>sY [⟨some g1,40,jy (aB ob 0 o.length oc) (rl 0),10,true⟩,⟨ob,63,ai bg o,oN,true⟩,⟨some g3,63,bg (aW (m,d2 x.f y.f)),38,true⟩,⟨some g96,63,bg (aW (m,d2 x.f y.f)),38,true⟩]) 8 [0,5,8,10,12,13,14,15] (fun g96=>?_) (fun hd18=>?_)
     ·(try dsimp only);refine bI [0,10] ak rfl ⟨⟨_,rfl,?_⟩,⟨_,rfl,?_⟩,trivial⟩
      ·refine(Bl 0 []) (IW) (fun g5=>?_);refine A1 ?_;exact Nw hd14 ⟨g5,g96⟩ [0,1,2,3,4,5,7,6]
      ·refine uH ?_;exact Nw hd7 g96 [0,1,2,3,4,5,6]
     refine bf (nt:=109) (Z:=Nat) (fun g89=>sX [(10,dA g3),(11,bF (o.length)),(89,aB (some g89) 0 0 0),(90,dA g1),(92,bF (o.length)),(95,Kt (aW (m,d2 x.f y.f))),(101,aB ob (if oc=o.length then 0 else o.length*38) (o.length-o.length) (oc-o.length))]) (fun g89=>sY [⟨some g1,40,jy (aB ob 0 o.length oc) (rl 0),10,true⟩,⟨ob,63,ai bg o,oN,true⟩,⟨some g3,63,bg (aW (m,d2 x.f y.f)),38,true⟩,⟨some g89,63,[],0,true⟩]) 8 [2,4,5,7,8,13,14,15] (fun g89=>?_) (fun hd19=>?_)
     ·(try dsimp only);refine bI [2,7] ak rfl ⟨⟨_,rfl,?_⟩,⟨_,rfl,?_⟩,trivial⟩
      ·refine AP ?_;exact Nw hd8 g89 [0,1,2,3,4,5,6]
      ·refine JM fun g5=>?_;refine A1 ?_;exact Nw hd12 ⟨g89,g5⟩ [0,1,2,3,4,5,6,7]
     refine bf (nt:=109) (Z:=Nat) (fun g89=>sX [(10,dA g3),(11,bF (o.length)),(89,aB (some g89) 0 0 0),(93,aB ob 0 o.length oc),(95,Kt (aW (m,d2 x.f y.f))),(98,dA g1),(100,bF (o.length))]) (fun g89=>sY [⟨some g1,40,jy (aB ob 0 o.length oc) (rl 0),10,true⟩,⟨ob,63,ai bg o,oN,true⟩,⟨some g3,63,bg (aW (m,d2 x.f y.f)),38,true⟩,⟨some g89,63,[],0,true⟩]) 8 [5,7,8,10,12,13,14,15] (fun g89=>?_) (fun hd20=>?_)
     ·(try dsimp only);refine bI [5,7,10] ak rfl ⟨⟨_,rfl,?_⟩,⟨_,rfl,?_⟩,⟨_,rfl,?_⟩,trivial⟩
      ·refine qdc fun r=>?_;refine A1 ?_;exact Nw hd15 r [0,1,2,3,4,5,6]
      ·refine JM fun g5=>?_;refine A1 ?_;exact Nw hd14 ⟨g89,g5⟩ [0,1,2,3,4,5,6,7]
      ·refine uH ?_;exact Nw hd8 g89 [0,1,2,3,4,5,6]
     refine bf (nt:=109) (Z:=OR (0+o.length) 38) (fun r=>sX [(10,dA g3),(11,bF (o.length)),(94,aB r.b 0 (0+o.length) r.cap),(98,dA g1),(100,bF (o.length))]) (fun r=>sY [⟨some g1,40,jy (aB ob 0 o.length oc) (rl 0),10,true⟩,⟨ob,63,ai bg o,oN,true⟩,⟨some g3,63,bg (aW (m,d2 x.f y.f)),38,true⟩,⟨r.b,63,ai bg o,r.n,true⟩]) 8 [6,7,8,10,12,13,14,15] (fun r=>?_) (fun hd21=>?_)
     ·(try dsimp only);refine bI [6,10] ak rfl ⟨⟨_,rfl,?_⟩,⟨_,rfl,?_⟩,trivial⟩
      ·refine yL ?_;exact Nw hd15 r [0,1,2,3,4,5,6]
      ·refine uH ?_;exact Nw hd9 r [0,1,2,3,4,5,6]
     refine bf (nt:=109) (Z:=Unit) (fun _=>sX [(10,dA g3),(11,bF (o.length)),(90,dA g1),(92,bF (o.length)),(95,Kt (aW (m,d2 x.f y.f))),(101,aB ob (if oc=o.length then 0 else o.length*38) (o.length-o.length) (oc-o.length))]) (fun _=>sY [⟨some g1,40,jy (aB ob 0 o.length oc) (rl 0),10,true⟩,⟨ob,63,ai bg o,oN,true⟩,⟨some g3,63,bg (aW (m,d2 x.f y.f)),38,true⟩]) 9 [0,2,4,5,7,8,13,14,15] (fun z=>?_) (fun hd22=>?_)
     ·(try dsimp only);refine bI [0,2,7] ak rfl ⟨⟨_,rfl,?_⟩,⟨_,rfl,?_⟩,⟨_,rfl,?_⟩,trivial⟩
      ·refine Du fun g4=>?_;refine A1 ?_;exact Nw hd19 g4 [0,1,2,3,4,5,6]
      ·refine AP ?_;exact Nw hd11 () [0,1,2,3,4,5]
      ·refine(Bl 38 [(0,_)]) (BF) (fun g4=>?_);refine A1 ?_;exact Nw hd16 g4 [0,1,2,3,4,5,6]
     refine bf (nt:=109) (Z:=Unit) (fun _=>sX [(10,dA g3),(11,bF (o.length)),(93,aB ob 0 o.length oc),(95,Kt (aW (m,d2 x.f y.f))),(98,dA g1),(100,bF (o.length))]) (fun _=>sY [⟨some g1,40,jy (aB ob 0 o.length oc) (rl 0),10,true⟩,⟨ob,63,ai bg o,oN,true⟩,⟨some g3,63,bg (aW (m,d2 x.f y.f)),38,true⟩]) 9 [0,5,7,8,10,12,13,14,15] (fun z=>?_) (fun hd23=>?_)
     ·(try dsimp only);refine bI [0,7,10] ak rfl ⟨⟨_,rfl,?_⟩,⟨_,rfl,?_⟩,⟨_,rfl,?_⟩,trivial⟩
      ·refine Du fun g4=>?_;refine A1 ?_;exact Nw hd20 g4 [0,1,2,3,4,5,6]
      ·refine(Bl 38 [(0,_)]) (BF) (fun g4=>?_);refine A1 ?_;exact Nw hd18 g4 [0,1,2,3,4,5,6]
      ·refine uH ?_;exact Nw hd11 () [0,1,2,3,4,5]
     refine bf (nt:=109) (Z:=Nat) (fun g89=>sX [(10,dA g3),(11,bF (o.length)),(89,aB (some g89) 0 0 0),(90,dA g1),(92,bF (o.length)),(101,aB ob (if oc=o.length then 0 else o.length*38) (o.length-o.length) (oc-o.length))]) (fun g89=>sY [⟨some g1,40,jy (aB ob 0 o.length oc) (rl 0),10,true⟩,⟨ob,63,ai bg o,oN,true⟩,⟨some g3,63,bg (aW (m,d2 x.f y.f)),38,true⟩,⟨some g89,63,[],0,true⟩]) 9 [2,4,5,6,7,8,13,14,15] (fun g89=>?_) (fun hd24=>?_)
     ·(try dsimp only);refine bI [2,6] ak rfl ⟨⟨_,rfl,?_⟩,⟨_,rfl,?_⟩,trivial⟩
      ·refine AP ?_;exact Nw hd13 g89 [0,1,2,3,4,5,6]
      ·refine yL ?_;exact Nw hd19 g89 [0,1,2,3,4,5,6]
     refine bf (nt:=109) (Z:=Nat×Nat) (fun⟨g89,g96⟩=>sX [(10,dA g3),(11,bF (o.length)),(89,aB (some g89) 0 0 0),(90,dA g1),(92,bF (o.length)),(96,aB (some g96) 0 1 1),(98,dA g1),(100,bF (o.length))]) (fun⟨g89,g96⟩=>sY [⟨some g1,40,jy (aB ob 0 o.length oc) (rl 0),10,true⟩,⟨ob,63,ai bg o,oN,true⟩,⟨some g3,63,bg (aW (m,d2 x.f y.f)),38,true⟩,⟨some g89,63,[],0,true⟩,⟨some g96,63,bg (aW (m,d2 x.f y.f)),38,true⟩]) 9 [2,4,5,8,10,12,13,14,15] (fun z=>?_) (fun hd25=>?_)
     ·obtain⟨g89,g96⟩:=z;(try dsimp only);refine bI [2,10] ak rfl ⟨⟨_,rfl,?_⟩,⟨_,rfl,?_⟩,trivial⟩
      ·refine AP ?_;exact Nw hd14 ⟨g89,g96⟩ [0,1,2,3,4,5,6,7]
      ·refine uH ?_;exact Nw hd12 ⟨g89,g96⟩ [0,1,2,3,4,5,6,7]
     refine bf (nt:=109) (Z:=Nat) (fun g89=>sX [(10,dA g3),(11,bF (o.length)),(89,aB (some g89) 0 0 0),(93,aB ob 0 o.length oc),(98,dA g1),(100,bF (o.length))]) (fun g89=>sY [⟨some g1,40,jy (aB ob 0 o.length oc) (rl 0),10,true⟩,⟨ob,63,ai bg o,oN,true⟩,⟨some g3,63,bg (aW (m,d2 x.f y.f)),38,true⟩,⟨some g89,63,[],0,true⟩]) 9 [5,6,7,8,10,12,13,14,15] (fun g89=>?_) (fun hd26=>?_)
     ·(try dsimp only);refine bI [5,6,10] ak rfl ⟨⟨_,rfl,?_⟩,⟨_,rfl,?_⟩,⟨_,rfl,?_⟩,trivial⟩
      ·refine qdc fun r=>?_;refine A1 ?_;exact Nw hd21 r [0,1,2,3,4,5,6]
      ·refine yL ?_;exact Nw hd20 g89 [0,1,2,3,4,5,6]
      ·refine uH ?_;exact Nw hd13 g89 [0,1,2,3,4,5,6]
     refine bf (nt:=109) (Z:=Unit) (fun _=>sX [(10,dA g3),(11,bF (o.length)),(90,dA g1),(92,bF (o.length)),(101,aB ob (if oc=o.length then 0 else o.length*38) (o.length-o.length) (oc-o.length))]) (fun _=>sY [⟨some g1,40,jy (aB ob 0 o.length oc) (rl 0),10,true⟩,⟨ob,63,ai bg o,oN,true⟩,⟨some g3,63,bg (aW (m,d2 x.f y.f)),38,true⟩]) 10 [0,2,4,5,6,7,8,13,14,15] (fun z=>?_) (fun hd27=>?_)
     ·(try dsimp only);refine bI [0,2,6] ak rfl ⟨⟨_,rfl,?_⟩,⟨_,rfl,?_⟩,⟨_,rfl,?_⟩,trivial⟩
      ·refine Du fun g4=>?_;refine A1 ?_;exact Nw hd24 g4 [0,1,2,3,4,5,6]
      ·refine AP ?_;exact Nw hd17 () [0,1,2,3,4,5]
      ·refine yL ?_;exact Nw hd22 () [0,1,2,3,4,5]
     refine bf (nt:=109) (Z:=Nat) (fun g96=>sX [(10,dA g3),(11,bF (o.length)),(90,dA g1),(92,bF (o.length)),(96,aB (some g96) 0 1 1),(98,dA g1),(100,bF (o.length))]) (fun g96=>sY [⟨some g1,40,jy (aB ob 0 o.length oc) (rl 0),10,true⟩,⟨ob,63,ai bg o,oN,true⟩,⟨some g3,63,bg (aW (m,d2 x.f y.f)),38,true⟩,⟨some g96,63,bg (aW (m,d2 x.f y.f)),38,true⟩]) 10 [0,2,4,5,8,10,12,13,14,15] (fun g96=>?_) (fun hd28=>?_)
     ·(try dsimp only);refine bI [0,2,10] ak rfl ⟨⟨_,rfl,?_⟩,⟨_,rfl,?_⟩,⟨_,rfl,?_⟩,trivial⟩
      ·refine(Bl 0 []) (IW) (fun g5=>?_);refine A1 ?_;exact Nw hd25 ⟨g5,g96⟩ [0,1,2,3,4,5,7,6]
      ·refine AP ?_;exact Nw hd18 g96 [0,1,2,3,4,5,6]
      ·refine uH ?_;exact Nw hd16 g96 [0,1,2,3,4,5,6]
     refine bf (nt:=109) (Z:=Unit) (fun _=>sX [(10,dA g3),(11,bF (o.length)),(93,aB ob 0 o.length oc),(98,dA g1),(100,bF (o.length))]) (fun _=>sY [⟨some g1,40,jy (aB ob 0 o.length oc) (rl 0),10,true⟩,⟨ob,63,ai bg o,oN,true⟩,⟨some g3,63,bg (aW (m,d2 x.f y.f)),38,true⟩]) 10 [0,5,6,7,8,10,12,13,14,15] (fun z=>?_) (fun hd29=>?_)
     ·(try dsimp only);refine bI [0,6,10] ak rfl ⟨⟨_,rfl,?_⟩,⟨_,rfl,?_⟩,⟨_,rfl,?_⟩,trivial⟩
      ·refine Du fun g4=>?_;refine A1 ?_;exact Nw hd26 g4 [0,1,2,3,4,5,6]
      ·refine yL ?_;exact Nw hd23 () [0,1,2,3,4,5]
      ·refine uH ?_;exact Nw hd17 () [0,1,2,3,4,5]
     refine bf (nt:=109) (Z:=Nat) (fun g89=>sX [(10,dA g3),(11,bF (o.length)),(89,aB (some g89) 0 0 0),(90,dA g1),(92,bF (o.length)),(95,Kt (aW (m,d2 x.f y.f))),(98,dA g1),(100,bF (o.length))]) (fun g89=>sY [⟨some g1,40,jy (aB ob 0 o.length oc) (rl 0),10,true⟩,⟨ob,63,ai bg o,oN,true⟩,⟨some g3,63,bg (aW (m,d2 x.f y.f)),38,true⟩,⟨some g89,63,[],0,true⟩]) 10 [2,4,5,7,8,10,12,13,14,15] (fun g89=>?_) (fun hd30=>?_)
     ·(try dsimp only);refine bI [2,7,10] ak rfl ⟨⟨_,rfl,?_⟩,⟨_,rfl,?_⟩,⟨_,rfl,?_⟩,trivial⟩
      ·refine AP ?_;exact Nw hd20 g89 [0,1,2,3,4,5,6]
      ·refine JM fun g5=>?_;refine A1 ?_;exact Nw hd25 ⟨g89,g5⟩ [0,1,2,3,4,5,6,7]
      ·refine uH ?_;exact Nw hd19 g89 [0,1,2,3,4,5,6]
     refine bf (nt:=109) (Z:=Unit) (fun _=>sX [(10,dA g3),(11,bF (o.length)),(90,dA g1),(92,bF (o.length)),(95,Kt (aW (m,d2 x.f y.f))),(98,dA g1),(100,bF (o.length))]) (fun _=>sY [⟨some g1,40,jy (aB ob 0 o.length oc) (rl 0),10,true⟩,⟨ob,63,ai bg o,oN,true⟩,⟨some g3,63,bg (aW (m,d2 x.f y.f)),38,true⟩]) 11 [0,2,4,5,7,8,10,12,13,14,15] (fun z=>?_) (fun hd31=>?_)
     ·(try dsimp only);refine bI [0,2,7,10] ak rfl ⟨⟨_,rfl,?_⟩,⟨_,rfl,?_⟩,⟨_,rfl,?_⟩,⟨_,rfl,?_⟩,trivial⟩
      ·refine Du fun g4=>?_;refine A1 ?_;exact Nw hd30 g4 [0,1,2,3,4,5,6]
      ·refine AP ?_;exact Nw hd23 () [0,1,2,3,4,5]
      ·refine(Bl 38 [(0,_)]) (BF) (fun g4=>?_);refine A1 ?_;exact Nw hd28 g4 [0,1,2,3,4,5,6]
      ·refine uH ?_;exact Nw hd22 () [0,1,2,3,4,5]
     refine bf (nt:=109) (Z:=Nat) (fun g89=>sX [(10,dA g3),(11,bF (o.length)),(89,aB (some g89) 0 0 0),(90,dA g1),(92,bF (o.length)),(98,dA g1),(100,bF (o.length))]) (fun g89=>sY [⟨some g1,40,jy (aB ob 0 o.length oc) (rl 0),10,true⟩,⟨ob,63,ai bg o,oN,true⟩,⟨some g3,63,bg (aW (m,d2 x.f y.f)),38,true⟩,⟨some g89,63,[],0,true⟩]) 11 [2,4,5,6,7,8,10,12,13,14,15] (fun g89=>?_) (fun hd32=>?_)
     ·(try dsimp only);refine bI [2,6,10] ak rfl ⟨⟨_,rfl,?_⟩,⟨_,rfl,?_⟩,⟨_,rfl,?_⟩,trivial⟩
      ·refine AP ?_;exact Nw hd26 g89 [0,1,2,3,4,5,6]
      ·refine yL ?_;exact Nw hd30 g89 [0,1,2,3,4,5,6]
      ·refine uH ?_;exact Nw hd24 g89 [0,1,2,3,4,5,6]
     refine Nt 1 ?_;refine Fg 0 0 ?_;refine A1 ?_;refine Nt 3 ?_;refine A2 ?_;refine Nt 9 ?_;refine Fg 0 0 ?_;refine A1 ?_;refine Nt 11 ?_;refine A2 ?_;refine bI [0,2,6,10] ak rfl ⟨⟨_,rfl,?_⟩,⟨_,rfl,?_⟩,⟨_,rfl,?_⟩,⟨_,rfl,?_⟩,trivial⟩
     ·refine Du fun g4=>?_;refine A1 ?_;exact Nw hd32 g4 [0,1,2,3,4,5,6]
     ·refine AP ?_;exact Nw hd29 () [0,1,2,3,4,5]
     ·refine yL ?_;exact Nw hd31 () [0,1,2,3,4,5]
     ·refine uH ?_;exact Nw hd27 () [0,1,2,3,4,5]
    rintro⟨g96,r3⟩;show At _ ⟨109,[(0,aB (some ga) 0 a.length ac),(1,aB (some gb) 0 b.length bc),(4,dA g0),(5,dA g1),(6,bF i),(7,bF j)],[⟨some ga,100,ai aK a,aN,false⟩,⟨some gb,100,ai aK b,bN,false⟩,⟨some g0,40,O0,10,true⟩,⟨some g1,40,jy (aB r3.b 0 (0+o.length+1+(o.length-o.length)) r3.cap) (rl 0),10,true⟩,⟨ob,63,ai bg o,oN,true⟩,⟨some g3,63,bg (aW (m,d2 x.f y.f)),38,true⟩,⟨r3.b,63,(ai bg o++bg (aW (m,d2 x.f y.f)))++ai bg (o.drop o.length),r3.n,true⟩,⟨some g96,63,bg (aW (m,d2 x.f y.f)),38,true⟩]⟩ _;refine A4 ?_;refine PL ?_;exact Nl ⟨⟨j+1,o++[aW (m,d2 x.f y.f)],r3.b,r3.n,r3.cap⟩,hjt,by show o++_=(jX a b i++zi x b (j+1)).map aW;rw[UR hy,hz,hI];simp,by have:=r3.h;simp at this ⊢;omega,r3.hn⟩ (hμ:=Va) (hL:=(ay [some 0,some 1,some 2,some 3,some 6] ⟨pR,pR,pR,⟨_,rfl,aV (by rw[show(o++[aW (m,d2 x.f y.f)]).length=(0+o.length+1+(o.length-o.length)) from bz])⟩,⟨_,rfl,aV (by rw[rQ,List.drop_length];simp[ai])⟩,trivial⟩ rfl rfl))
  ·have hge:j=b.length:=lw;subst hge;refine A8 ?_;refine kM ?_;exact Nl ⟨⟨i+1,o,ob,oN,oc⟩,hlt,by show o=(jX a b (i+1)).map aW;rw[qcK hx];exact hI,h3,h4⟩ (hμ:=qas) (hL:=fE.auto)
 ·have hge:i=a.length:=iV;subst hge;obtain rfl:o=(aA a b).map aW:=by rw[hI,qeN H]
  refine A9 ?_;refine(Sd [4]) (Iw ((aA a b).map aW) ob oN oc h3 (by rw[List.length_map];omega) (Sm hsa hsb)) ?_;refine A1 ?_;refine CP ?_;refine L10 3 0 ?_;refine jq ?_;refine qvB 2 fun w hL=>⟨⟨ob,oN,oc,h3⟩,?_,hL.pk [some 4]⟩;exact rfl
end Go.Proofs.YtaffcpfhedadhaaGreatDoor
