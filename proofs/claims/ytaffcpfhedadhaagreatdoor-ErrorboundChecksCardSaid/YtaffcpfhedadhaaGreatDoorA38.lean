/-
  Part 38 (chapter 32): lemmas, walks. Each theorem states its own conditions.
-/
import Derived.Lib.Repeat
import Derived.Shelf.SlSortCmp.WholeK
import Derived.Shelf.SlSortCmp.NoneTotal
import Derived.Sort.Grow
import Derived.Sort.EncStr
import Derived.Lib.SliceRun
import Derived.Test.YtaffcpfhedadhaaGreatDoorA36
import Derived.Test.YtaffcpfhedadhaaGreatDoorA37
set_option linter.all false
set_option maxRecDepth 20000
set_option maxHeartbeats 20000000
section
variable{P Q:Prop}{T:Type}{R:T->Prop}
def qrs(h:P:=by
 refine bZ [7] ak ⟨⟨_,rfl,?_⟩,trivial⟩
 ·exact qwP):=h
def qrt(h:P:=by
 refine bZ [9] ak ⟨⟨_,rfl,?_⟩,trivial⟩
 ·exact qwQ):=h
def qwP(h:P:=by
 refine(Qa (s:=36) (len:=o.length) (n2:=1) 3 8 (fun r=>[_,_,_,⟨some r.g,100,ai aK o++aK (FZ o alone f (Ef last s)),r.n,true⟩,_,_,_,_,_]) u29 qgn) (bu.length o) h3 h4 (bu.one (FZ o alone f (Ef last s))) (fun r=>?_);refine A1 ?_;refine bZ [8] ak ⟨⟨_,rfl,?_⟩,trivial⟩
 ·refine A2 ?_;refine IZ rfl ?_;refine A5 ?_;refine Ve ?_;refine A5 ?_;refine xg 5 0 ?_;refine Ss 2 ?_;refine qC ?_;exact Nl ⟨⟨i+1,Ef last s,false,o++[FZ o alone f (Ef last s)],some r.g,r.n,r.cap⟩,hlt,hsn,by rw[hI];exact qwq hx hk0 hf,qme,jT,r.hn⟩ (hμ:=nJ) (ht:=⟨rfl,(aO rfl kG),rfl,(aO rfl (congrArg Value.bool hk0b)),rfl,trivial⟩) (hL:=(ay [some 0,some 1,some 2,some 3] ⟨pR,pR,pR,⟨_,rfl,aV kH⟩,trivial⟩ rfl rfl))):=h
def qwQ(h:P:=by
 refine(Qa (s:=36) (len:=o.length) (n2:=1) 3 5 (fun r=>[_,_,_,⟨some r.g,100,ai aK o++aK (yJ last),r.n,true⟩,_,_]) u29 qgn) (bu.length o) h3 h4 (bu.one (yJ last)) (fun r=>?_);refine A1 ?_;refine bZ [10] ak ⟨⟨_,rfl,?_⟩,trivial⟩
 ·refine A2 ?_;refine IZ rfl ?_;refine A4 ?_;refine iJ [_] [3] rfl rfl (by show _=[some _];rw[List.length_append];rfl) (Dx (qcN 2) (o++[yJ last]) (some r.g) r.n r.cap jT ae hq1 hq2 hq3.1 ae hq4) ⟨⟨_,rfl,by rw[<-rQ];exact iC⟩,trivial⟩ rfl (.inr fun x b hb=>xO) (fun z=>?_);obtain⟨nb,nN,nc,hnc⟩:=z;refine EE ?_;refine aH rfl (ax rfl) (fun w hL=>⟨⟨nb,nN,nc,by rw[hT];exact hnc⟩,?_,hL.picks [some 6] ⟨⟨_,rfl,aV qmp⟩,trivial⟩ rfl rfl⟩);exact qmi):=h
def qru(h:P:=by
 refine bZ [6] ak ⟨⟨_,rfl,?_⟩,trivial⟩
 ·refine(Bl 36 [(0,_)]) (Fe) (fun g5=>?_);refine A1 ?_;exact qrs):=h
def qrv(h:P:=by
 refine bZ [8] ak ⟨⟨_,rfl,?_⟩,trivial⟩
 ·refine(Bl 36 [(0,_)]) (Fe) (fun g3=>?_);refine A1 ?_;exact qrt):=h
def qrw(h:P:=by
 refine bZ [5] ak ⟨⟨_,rfl,?_⟩,trivial⟩
 ·refine PP ?_;exact qru):=h
def qrx(h:P:=by
 refine bZ [7] ak ⟨⟨_,rfl,?_⟩,trivial⟩
 ·refine PP ?_;exact qrv):=h
def qry(h:P:=by refine A6 ?_;refine zO 6 0 ?_;refine qM fun g2=>?_;refine qlL fun r=>?_;refine A6 ?_;refine kM ?_;exact Nl ⟨⟨i+1,o++[p.i],some r.g,r.n,r.cap⟩,hlt,qlP,jT,r.hn,qq0 hp hLL (qwc r1 r2 r3 r4 r5 r6 r7)⟩ (hμ:=qlQ) (ht:=⟨rfl,rfl,rfl,rfl,(aO rfl kG),rfl,trivial⟩) (hL:=(ay [some 0,some 1,some 2,some 3,some 4,some 5] ⟨pR,pR,pR,pR,pR,⟨_,rfl,aV kH⟩,trivial⟩ rfl rfl))):=h
def qmg(h:P:=by
 refine bZ [13] ak ⟨⟨_,rfl,?_⟩,trivial⟩
 ·refine(Qa (s:=36) (len:=o.length) (n2:=1) 1 2 (fun r=>[_,⟨some r.g,100,ai aK o++aK (x),r.n,true⟩,_]) u29 qgn) (bu.length o) h3 h4 (bu.one (x)) (fun r=>?_);exact qq3):=h
def qmh(h:P:=by refine EE ?_;refine aH rfl (ax rfl) (fun w hL=>⟨(),?_,hL.pk []⟩);exact congrArg (fun e:Int=>Ending.returned (.int .i64 e)) (O6 hk0 (Dc hp hLL (qwb r1 r2 r3 r4 r5 r6 r7) au) au)):=h
def qmi(h:P:=by show Ending.returned (aB nb 0 _ nc)=Ending.returned (aB nb 0 (jF t x y l).length nc);rw[hT]):=h
def qmj(q:Q)(h:aj Q->P:=by intro q_;refine Pc (Le (f.t:Rat) (f.x:Rat) (f.y:Rat) ((Ef last s).t:Rat) ((Ef last s).x:Rat) ((Ef last s).y:Rat) (qpA hft) (Nat.le_trans hfs.t ae) (Nat.le_trans hfs.x ae) (Nat.le_trans hfs.y ae) (Nat.le_trans hsn.t ae) (Nat.le_trans hsn.x ae) (Nat.le_trans hsn.y ae)) ?_;refine A1 ?_;exact q_.qq):=h ⟨q⟩
def F9(q:∀x,R x)(h:aj (∀x,R x)->P:=by intro q_;refine(Bl 20 [(0,_)]) (IX) (fun g1=>?_);exact q_.qq g1):=h ⟨q⟩
def Ve(q:Q)(h:aj Q->P:=by intro q_;refine(Dv ((s.kind%8:Nat):Int)) (congrArg some (lW _ _ rfl rfl)) ?_;exact q_.qq):=h ⟨q⟩
def qmk(q:Q)(h:aj Q->P:=by intro q_;refine(Dv ((s.y%64:Nat):Int)) (congrArg some (lW _ _ rfl rfl)) ?_;refine(Cv ((s.y%64:Nat):Int) u5 u3) yl ?_;exact q_.qq):=h ⟨q⟩
def qml(q:Q)(h:aj Q->P:=by intro q_;refine(Dv ((s.x%64:Nat):Int)) (congrArg some (lW _ _ rfl rfl)) ?_;refine(Cv ((s.x%64:Nat):Int) u5 u3) yl ?_;exact q_.qq):=h ⟨q⟩
def PP(q:Q)(h:aj Q->P:=by intro q_;refine(Bu [(0,_),(1,_)]) (LK) ?_;refine A1 ?_;exact q_.qq):=h ⟨q⟩
def qmm(q:Q)(h:aj Q->P:=by intro q_;refine L38 6 0 ?_;refine(Sd [0,1]) (Qu a ab aN ac hac ae b bb bN bc hbc ae hsa hsb H p hpf hpt) ?_;refine A4 ?_;exact q_.qq):=h ⟨q⟩
def qmn(h:P:=by have e:=haQ;first|(simpa using e;done)|(simp at e ⊢;omega)):=h
def qmo(h:P:=by have e:=hcQ;rw[hoe] at e;simpa using e):=h
def qmp(h:P:=by rw[show ai aK (jF t x y l)=_ from congrArg _ hT]):=h
end
namespace Go.Proofs.YtaffcpfhedadhaaGreatDoor
open Go Go.RowKit Go.Via
def Qu(a:List PU)(ab:Option Nat)(aN ac:Nat)(hac:a.length<=ac)(han:a.length<=400)(b:List PU)(bb:Option Nat)(bN bc:Nat)(hbc:b.length<=bc)(hbn:b.length<=400)(hsa:Ee a)(hsb:Ee b)(H:C9 a b)(p:iT)(hpf:p.i.f.ok)(hpt:p.i.t.ok)(hps0:gV p.i<=10000:=by omega):bQ Tryz.prog 61 [⟨ab,100,ai aK a,aN,false⟩,⟨bb,100,ai aK b,bN,false⟩] [aB ab 0 a.length ac,aB bb 0 b.length bc,Kt p] Unit (fun _=> .bool (oL (flatK jP a b) p)) (fun _=>[]):=by
 refine⟨ak,fun w hL0=>?_⟩;have hpi:gV p.i<=50000:=Nat.le_trans hps0 ae;have hp1:=ig p.i;have hp2:=gW p.i;refine cB3 77 Tryz.func61 hL0 ?_;refine A2 ?_;refine Bp 38 (fun g0=>?_);refine lh ?_;refine El (ι:={i:Nat // i<=a.length∧NoR a b p.i i}) (fun⟨i,hi,hN⟩=>([(0,aB ab 0 a.length ac),(1,aB bb 0 b.length bc),(5,dA g0),(7,bF i)],[⟨ab,100,ai aK a,aN,false⟩,⟨bb,100,ai aK b,bN,false⟩,⟨some g0,63,bg p,38,true⟩],a.length-i)) ⟨0,Nat.zero_le _,qyp⟩ ?_ (hL:=fE.auto);rintro⟨i,hi,hN⟩;(try dsimp only);refine A9 ?_;refine Cd ?_ ?_<;>intro haQ
 ·have hlt:i<a.length:=iE;obtain⟨x,hx⟩:∃x,a[i]? =some x:=⟨a[i],List.getElem?_eq_getElem hlt⟩;have hxm:=List.mem_of_getElem? hx;have hxs:=hsa x hxm;have hxe:=H.ea x hxm;refine lh ?_;refine El (ι:={j:Nat // j<=b.length∧NoC a b p.i i x j}) (fun⟨j,hj,hM⟩=>([(0,aB ab 0 a.length ac),(1,aB bb 0 b.length bc),(5,dA g0),(7,bF i),(8,bF j)],[⟨ab,100,ai aK a,aN,false⟩,⟨bb,100,ai aK b,bN,false⟩,⟨some g0,63,bg p,38,true⟩],b.length-j)) ⟨0,Nat.zero_le _,qyq hN⟩ ?_ (hL:=fE.auto);rintro⟨j,hj,hM⟩;(try dsimp only);refine A9 ?_;refine Cd ?_ ?_<;>intro hbQ
  ·have hjt:j<b.length:=kN;obtain⟨y,hy⟩:∃y,b[j]? =some y:=⟨b[j],List.getElem?_eq_getElem hjt⟩;have hym:=List.mem_of_getElem? hy;have hys:=hsb y hym;have hye:=H.eb y hym;refine dK 0 rfl (bu.ne au ae) (fun hbs=>?_);obtain⟨ga,hga⟩:=Option.isSome_iff_exists.1 hbs;replace hga:ab=some ga:=hga;subst hga;refine dK 1 rfl (bu.ne au ae) (fun hbs=>?_);obtain⟨gb,hgb⟩:=Option.isSome_iff_exists.1 hbs;replace hgb:bb=some gb:=hgb;subst hgb;refine A5 ?_;let sX:List (Nat×Value)->List (Nat×Value):=fun l=>(0,aB (some ga) 0 a.length ac)::(1,aB (some gb) 0 b.length bc)::(5,dA g0)::(7,bF i)::(8,bF j)::l;let sY:List aF->List aF:=fun l=>⟨some ga,100,ai aK a,aN,false⟩::⟨some gb,100,ai aK b,bN,false⟩::⟨some g0,63,bg p,38,true⟩::l;refine yV (nt:=77) (Z:=Nat×Nat×(SR (fC x.i y.i).toList.length)) (fun⟨gx,gy,⟨cb,cN,cc,hcc⟩⟩=>sX [(9,aB cb 0 (fC x.i y.i).toList.length cc)]) (fun⟨gx,gy,⟨cb,cN,cc,hcc⟩⟩=>sY [⟨some gx,61,aZ x.i,20,true⟩,⟨some gy,61,aZ y.i,20,true⟩,⟨cb,61,ai aZ (fC x.i y.i).toList,cN,true⟩]) 14 [0,1,2,3,4,5,6,7,8,9,10,11,12,13] mixed ak (fun hd0=>?_) ?_
   ·refine bf (nt:=77) (Z:=Nat×Nat×(SR (fC x.i y.i).toList.length)) (fun⟨gx,gy,⟨cb,cN,cc,hcc⟩⟩=>sX [(35,aB cb 0 (fC x.i y.i).toList.length cc)]) (fun⟨gx,gy,⟨cb,cN,cc,hcc⟩⟩=>sY [⟨some gx,61,aZ x.i,20,true⟩,⟨some gy,61,aZ y.i,20,true⟩,⟨cb,61,ai aZ (fC x.i y.i).toList,cN,true⟩]) 1 [13] (fun z=>?_) (fun hd1=>?_)
    ·obtain⟨gx,gy,⟨cb,cN,cc,hcc⟩⟩:=z;(try dsimp only);refine AY 13 ?_
     ·refine A2 ?_;exact Nw hd0 ⟨gx,gy,⟨cb,cN,cc,hcc⟩⟩ [0,1,2,3,4,5]
    refine bf (nt:=77) (Z:=Nat×Nat) (fun⟨gx,gy⟩=>sX [(28,aB (some gx) 0 1 1),(34,aB (some gy) 0 1 1)]) (fun⟨gx,gy⟩=>sY [⟨some gx,61,aZ x.i,20,true⟩,⟨some gy,61,aZ y.i,20,true⟩]) 2 [12,13] (fun z=>?_) (fun hd2=>?_)
    ·obtain⟨gx,gy⟩:=z;(try dsimp only);refine AY 12 ?_
     ·refine iJ [_,_,_] [3,4] rfl rfl rfl (qrb x y hxe hye ae ae gx gy _ _) ⟨pS,pS,trivial⟩ rfl (.inr fun x b hb=>xO) (fun zc=>?_);obtain⟨cb,cN,cc,hcc⟩:=zc;refine A1 ?_;exact Nw hd1 ⟨gx,gy,⟨cb,cN,cc,hcc⟩⟩ [0,1,2,3,4,5]
    refine bf (nt:=77) (Z:=Nat) (fun gy=>sX [(27,lC x.i),(34,aB (some gy) 0 1 1)]) (fun gy=>sY [⟨some gy,61,aZ y.i,20,true⟩]) 3 [5,12,13] (fun gy=>?_) (fun hd3=>?_)
    ·(try dsimp only);refine AY 5 ?_
     ·refine qM fun g2=>?_;refine A1 ?_;exact Nw hd2 ⟨g2,gy⟩ [0,1,2,4,3]
    refine bf (nt:=77) (Z:=Nat) (fun gx=>sX [(28,aB (some gx) 0 1 1),(33,lC y.i)]) (fun gx=>sY [⟨some gx,61,aZ x.i,20,true⟩]) 3 [11,12,13] (fun gx=>?_) (fun hd4=>?_)
    ·(try dsimp only);refine AY 11 ?_
     ·refine qM fun g2=>?_;refine A1 ?_;exact Nw hd2 ⟨gx,g2⟩ [0,1,2,3,4]
    refine bf (nt:=77) (Z:=Nat) (fun gy=>sX [(26,.pointer (some ⟨ga,(i)*36,none⟩)),(34,aB (some gy) 0 1 1)]) (fun gy=>sY [⟨some gy,61,aZ y.i,20,true⟩]) 4 [4,5,12,13] (fun gy=>?_) (fun hd5=>?_)
    ·(try dsimp only);refine AY 4 ?_
     ·refine Dw ?_;exact Nw hd3 gy [0,1,2,3]
    refine bf (nt:=77) (Z:=Unit) (fun _=>sX [(27,lC x.i),(33,lC y.i)]) (fun _=>sY []) 4 [5,11,12,13] (fun z=>?_) (fun hd6=>?_)
    ·(try dsimp only);refine bI [5,11] ak rfl ⟨⟨_,rfl,?_⟩,⟨_,rfl,?_⟩,trivial⟩
     ·refine F9 fun g1=>?_;refine A1 ?_;exact Nw hd4 g1 [0,1,2,3]
     ·refine F9 fun g1=>?_;refine A1 ?_;exact Nw hd3 g1 [0,1,2,3]
    refine bf (nt:=77) (Z:=Nat) (fun gx=>sX [(28,aB (some gx) 0 1 1),(32,.pointer (some ⟨gb,(j)*36,none⟩))]) (fun gx=>sY [⟨some gx,61,aZ x.i,20,true⟩]) 4 [10,11,12,13] (fun gx=>?_) (fun hd7=>?_)
    ·(try dsimp only);refine AY 10 ?_
     ·refine KE ?_;exact Nw hd4 gx [0,1,2,3]
    refine bf (nt:=77) (Z:=Unit) (fun _=>sX [(26,.pointer (some ⟨ga,(i)*36,none⟩)),(33,lC y.i)]) (fun _=>sY []) 5 [4,5,11,12,13] (fun z=>?_) (fun hd8=>?_)
    ·(try dsimp only);refine bI [4,11] ak rfl ⟨⟨_,rfl,?_⟩,⟨_,rfl,?_⟩,trivial⟩
     ·refine Dw ?_;exact Nw hd6 () [0,1,2]
     ·refine F9 fun g1=>?_;refine A1 ?_;exact Nw hd5 g1 [0,1,2,3]
    refine bf (nt:=77) (Z:=Unit) (fun _=>sX [(27,lC x.i),(32,.pointer (some ⟨gb,(j)*36,none⟩))]) (fun _=>sY []) 5 [5,10,11,12,13] (fun z=>?_) (fun hd9=>?_)
    ·(try dsimp only);refine bI [5,10] ak rfl ⟨⟨_,rfl,?_⟩,⟨_,rfl,?_⟩,trivial⟩
     ·refine F9 fun g1=>?_;refine A1 ?_;exact Nw hd7 g1 [0,1,2,3]
     ·refine KE ?_;exact Nw hd6 () [0,1,2]
    refine bf (nt:=77) (Z:=Nat) (fun gy=>sX [(23,aB (some ga) 0 a.length ac),(24,bF i),(34,aB (some gy) 0 1 1)]) (fun gy=>sY [⟨some gy,61,aZ y.i,20,true⟩]) 6 [2,3,4,5,12,13] (fun gy=>?_) (fun hd10=>?_)
    ·(try dsimp only);refine AY 2 ?_
     ·refine Dt ?_;exact Nw hd5 gy [0,1,2,3]
    refine bf (nt:=77) (Z:=Unit) (fun _=>sX [(26,.pointer (some ⟨ga,(i)*36,none⟩)),(32,.pointer (some ⟨gb,(j)*36,none⟩))]) (fun _=>sY []) 6 [4,5,10,11,12,13] (fun z=>?_) (fun hd11=>?_)
    ·(try dsimp only);refine bI [4,10] ak rfl ⟨⟨_,rfl,?_⟩,⟨_,rfl,?_⟩,trivial⟩
     ·refine Dw ?_;exact Nw hd9 () [0,1,2]
     ·refine KE ?_;exact Nw hd8 () [0,1,2]
    refine bf (nt:=77) (Z:=Nat) (fun gx=>sX [(28,aB (some gx) 0 1 1),(29,aB (some gb) 0 b.length bc),(30,bF j)]) (fun gx=>sY [⟨some gx,61,aZ x.i,20,true⟩]) 6 [8,9,10,11,12,13] (fun gx=>?_) (fun hd12=>?_)
    ·(try dsimp only);refine AY 8 ?_
     ·refine KD ?_;exact Nw hd7 gx [0,1,2,3]
    refine bf (nt:=77) (Z:=Unit) (fun _=>sX [(23,aB (some ga) 0 a.length ac),(24,bF i),(33,lC y.i)]) (fun _=>sY []) 7 [2,3,4,5,11,12,13] (fun z=>?_) (fun hd13=>?_)
    ·(try dsimp only);refine bI [2,11] ak rfl ⟨⟨_,rfl,?_⟩,⟨_,rfl,?_⟩,trivial⟩
     ·refine Dt ?_;exact Nw hd8 () [0,1,2]
     ·refine F9 fun g1=>?_;refine A1 ?_;exact Nw hd10 g1 [0,1,2,3]
    refine bf (nt:=77) (Z:=Unit) (fun _=>sX [(27,lC x.i),(29,aB (some gb) 0 b.length bc),(30,bF j)]) (fun _=>sY []) 7 [5,8,9,10,11,12,13] (fun z=>?_) (fun hd14=>?_)
    ·(try dsimp only);refine bI [5,8] ak rfl ⟨⟨_,rfl,?_⟩,⟨_,rfl,?_⟩,trivial⟩
     ·refine F9 fun g1=>?_;refine A1 ?_;exact Nw hd12 g1 [0,1,2,3]
     ·refine KD ?_;exact Nw hd9 () [0,1,2]
    refine bf (nt:=77) (Z:=Unit) (fun _=>sX [(23,aB (some ga) 0 a.length ac),(24,bF i),(32,.pointer (some ⟨gb,(j)*36,none⟩))]) (fun _=>sY []) 8 [2,3,4,5,10,11,12,13] (fun z=>?_) (fun hd15=>?_)
    ·(try dsimp only);refine bI [2,10] ak rfl ⟨⟨_,rfl,?_⟩,⟨_,rfl,?_⟩,trivial⟩
     ·refine Dt ?_;exact Nw hd11 () [0,1,2]
     ·refine KE ?_;exact Nw hd13 () [0,1,2]
    refine bf (nt:=77) (Z:=Unit) (fun _=>sX [(26,.pointer (some ⟨ga,(i)*36,none⟩)),(29,aB (some gb) 0 b.length bc),(30,bF j)]) (fun _=>sY []) 8 [4,5,8,9,10,11,12,13] (fun z=>?_) (fun hd16=>?_)
    ·(try dsimp only);refine bI [4,8] ak rfl ⟨⟨_,rfl,?_⟩,⟨_,rfl,?_⟩,trivial⟩
     ·refine Dw ?_;exact Nw hd14 () [0,1,2]
     ·refine KD ?_;exact Nw hd11 () [0,1,2]
    refine ql0 ?_;refine bI [2,8] ak rfl ⟨⟨_,rfl,?_⟩,⟨_,rfl,?_⟩,trivial⟩
    ·refine Dt ?_;exact Nw hd16 () [0,1,2]
    ·refine KD ?_;exact Nw hd15 () [0,1,2]
   rintro⟨gx,gy,⟨cb,cN,cc,hcc⟩⟩;show At _ ⟨77,[(0,aB (some ga) 0 a.length ac),(1,aB (some gb) 0 b.length bc),(5,dA g0),(7,bF i),(8,bF j),(9,aB cb 0 (fC x.i y.i).toList.length cc)],[⟨some ga,100,ai aK a,aN,false⟩,⟨some gb,100,ai aK b,bN,false⟩,⟨some g0,63,bg p,38,true⟩,⟨some gx,61,aZ x.i,20,true⟩,⟨some gy,61,aZ y.i,20,true⟩,⟨cb,61,ai aZ (fC x.i y.i).toList,cN,true⟩]⟩ _;refine A8 ?_;refine Rs 39 ?_ ?_<;>intro hcQ
   ·have hm:fC x.i y.i=none:=ql1
    refine PX ?_;refine PL ?_;exact Nl ⟨j+1,hjt,qwk hy (qj8 hm) hM⟩ (hμ:=Va) (hL:=fE.auto)
   ·obtain⟨m,hm⟩:∃m,fC x.i y.i=some m:=ql2
    have hz:=qj7 hm;have hpm:=qcM H hx hy hz;have hps:=wQ hsa hsb _ hpm;replace hps:gV m<=100∧ve (d2 x.f y.f)<=820:=hps;have hml:(fC x.i y.i).toList=[m]:=(by rw[hm];rfl);have hmz:∀u∈(fC x.i y.i).toList,gV u<=50000:=fun u hu=>by rw[hml] at hu;rw[List.mem_singleton.1 hu];omega
    have hmc:(fC x.i y.i).toList.length<=1000:=(by rw[hml];show 1<=1000;omega);refine A1 ?_;refine zO 2 0 ?_;refine F9 fun g1=>?_;refine A1 ?_;refine(Sc [6,5]) (qps p.i hpi g1 _ (fC x.i y.i).toList cb cN cc hcc hmc hmz) (fun zd=>?_);obtain⟨db,dN,dc,hdc⟩:=zd;refine A5 ?_;refine Cd ?_ ?_<;>intro hdQ
    ·have hcv:rO m p.i=false:=qt0 (x:=m) hml U3;refine A6 ?_;refine PL ?_;exact Nl ⟨j+1,hjt,qwl hy hz hcv hM⟩ (hμ:=Va) (hL:=fE.auto)
    ·have hcv:rO m p.i=true:=qpr hml qaH;refine qlW fun g2=>?_;refine Ss 8 ?_;refine A3 ?_;refine wE ?_;refine L9 2 20 ?_;refine xg 8 0 ?_;refine A2 ?_;refine L9 2 0 ?_;refine Pc (Af (d2 x.f y.f) p.i.f hpf) ?_;refine zZ ?_;refine A1 ?_;refine Rs 67 ?_ ?_<;>intro heQ
     ·have hpa:p.a=zN (d2 x.f y.f) p.i.f:=yI
      refine A1 ?_;refine L9 2 29 ?_;refine xg 8 0 ?_;refine A2 ?_;refine L9 2 9 ?_;refine Pc (Af (d2 x.f y.f) p.i.t hpt) ?_;refine zZ ?_;refine FH ?_;refine aH rfl (ax rfl) (fun w hL=>⟨(),?_,hL.pk []⟩);exact eB (qpp hx hy hz hM hcv hpa)
     ·have hpa:p.a≠zN (d2 x.f y.f) p.i.f:=yI
      refine A22 ?_;refine aH rfl (ax rfl) (fun w hL=>⟨(),?_,hL.pk []⟩);exact eB (qpq hx hy hz hM hcv hpa)
  ·have hge:j=b.length:=lw;subst hge;refine A8 ?_;refine kM ?_;exact Nl ⟨i+1,hlt,qyr hx hM⟩ (hμ:=qas) (hL:=fE.auto)
 ·have hge:i=a.length:=iV;subst hge;refine qX ?_;refine aH rfl (ax rfl) (fun w hL=>⟨(),?_,hL.pk []⟩);exact eB ((qaB hN).symm)
end Go.Proofs.YtaffcpfhedadhaaGreatDoor
namespace Go.Proofs.YtaffcpfhedadhaaGreatDoor
open Go Go.RowKit Go.Via
def qum(l:List Iv)(lb:Option Nat)(lN lc:Nat)(hlc:l.length<=lc)(hln:l.length<=1000)(hsz:∀x∈l,gV x<=50000):bQ Tryz.prog 62 [⟨lb,61,ai aZ l,lN,false⟩] [aB lb 0 l.length lc] (SR (dY l).length) SR.v (fun z=>[⟨z.b,61,ai aZ (dY l),z.n,true⟩]):=by
 have h:=Dh l lb lN lc hlc hln hsz;rw[qjV] at h;exact h
def qrz(l:List PU)(lb:Option Nat)(lN lc:Nat)(hlc:l.length<=lc)(hln:l.length<=1000)(hsz:∀u∈l,gV u.i<=50000):bQ Tryz.prog 35 [⟨lb,100,ai aK l,lN,false⟩] [aB lb 0 l.length lc] (SR (gq l).length) SR.v (fun z=>[⟨z.b,61,ai aZ (gq l),z.n,true⟩]):=by
 have h:=Pn l lb lN lc hlc hln hsz;rw[qjV] at h;exact h
def qun{a b:List PU}(hsa:Ee a)(hsb:Ee b)(H:C9 a b)(ha:a.length<=200)(hb:b.length<=200)(ab:Option Nat)(aN ac:Nat)(hac:(gq a).length<=ac)(bb:Option Nat)(bN bc:Nat)(hbc:(gq b).length<=bc:=by omega):bQ Tryz.prog 44 [⟨ab,61,ai aZ (gq a),aN,false⟩,⟨bb,61,ai aZ (gq b),bN,false⟩] [.int .i64 2,aB ab 0 (gq a).length ac,aB bb 0 (gq b).length bc] (SR (dI uY (gq a) (gq b)).length) SR.v (fun z=>[⟨z.b,61,ai aZ (dI uY (gq a) (gq b)),z.n,true⟩]):=by
 have la:=Ip a;have lb:=Ip b;have h:=o5 2 (gq a) ab aN ac hac ae (gq b) bb bN bc hbc ae (fun x hx=>Nat.le_trans (qkb (XO hsa H.ea) x hx) ae) (fun x hx=>Nat.le_trans (qkb (XO hsb H.eb) x hx) ae);rw[qjW] at h;exact h
def Qv(a:List PU)(ab:Option Nat)(aN ac:Nat)(hac:a.length<=ac)(han:a.length<=200)(b:List PU)(bb:Option Nat)(bN bc:Nat)(hbc:b.length<=bc)(hbn:b.length<=200)(hsa:Ee a)(hsb:Ee b)(H:C9 a b)(c:List iT)(cb:Option Nat)(cN cc:Nat)(hcc:c.length<=cc)(hcn:c.length<=400)(m:Rl)(hcz:∀p∈c,gV p.i<=5000∧eU p.a<=5000∧eU p.b<=5000)(hmz:eU m<=5000:=by omega):bQ Tryz.prog 22 [⟨ab,100,ai aK a,aN,false⟩,⟨bb,100,ai aK b,bN,false⟩,⟨cb,63,ai bg c,cN,false⟩] [aB ab 0 a.length ac,aB bb 0 b.length bc,UQ (aB cb 0 c.length cc) m] Unit (fun _=> .int .i64 (CJ a b c m)) (fun _=>[]):=by
 refine⟨ak,fun w hL0=>?_⟩
 have hcm:∀p∈c,eU p.a<=50000∧eU p.b<=50000:=fun p hp=>⟨Nat.le_trans (hcz p hp).2.1 ae,Nat.le_trans (hcz p hp).2.2 ae⟩
 have hnl:=zk orB (c.map (·.i)) [];have hal:=Ip a;have hbl:=Ip b;have hdl:=zk uY (gq a) (gq b);replace hnl:(dY (c.map (·.i))).length<=4*c.length:=(by rw[List.length_map] at hnl;exact hnl);have hpok:∀x:Rl,bK x=true->x.ok:=fun x h=>(zX x).1 h
 refine cB3 104 Tryz.func22 hL0 ?_;refine A2 ?_;refine Bp 10 (fun g0=>?_);refine A6 ?_;refine(Sc [0]) (qrz a ab aN ac hac ae hsa.v) (fun da=>?_);obtain⟨dab,daN,dac,hdac⟩:=da;refine A1 ?_;refine(Sc [1]) (qrz b bb bN bc hbc ae hsb.v) (fun db=>?_);obtain⟨dbb,dbN,dbc,hdbc⟩:=db;refine(Sc [4,5]) (qun hsa hsb H ae ae dab daN dac hdac dbb dbN dbc hdbc) (fun ze=>?_);obtain⟨eb,eN,ec,hec⟩:=ze;refine qX ?_;refine Cd ?_ ?_<;>intro haQ
 ·have hk0:(dI uY (gq a) (gq b)).length=0:=qmn
  refine A7 ?_;refine aH rfl (ax rfl) (fun w hL=>⟨(),?_,hL.pk []⟩);exact congrArg (fun e:Int=>Ending.returned (.int .i64 e)) (qtX hk0)
 ·have hk0:(dI uY (gq a) (gq b)).length≠0:=qmn
  refine FH ?_;refine El (ι:={z:Nat×List Iv×Option Nat×Nat×Nat // z.1<=c.length∧z.2.1=(c.take z.1).map (·.i)∧z.2.1.length<=z.2.2.2.2∧z.2.2.2.2*20<=z.2.2.2.1∧fD (oU (flatK jP a b)) none c=fD (oU (flatK jP a b)) (pO c z.1) (c.drop z.1)}) (fun⟨⟨i,o,ob,oN,oc⟩,hi,hI,h3,h4,hLL⟩=>([(0,aB ab 0 a.length ac),(1,aB bb 0 b.length bc),(5,dA g0),(7,aB eb 0 (dI uY (gq a) (gq b)).length ec),(8,aB ob 0 o.length oc),(9,bF i)],[⟨ab,100,ai aK a,aN,false⟩,⟨bb,100,ai aK b,bN,false⟩,⟨cb,63,ai bg c,cN,false⟩,⟨some g0,40,jy (aB cb 0 c.length cc) m,10,true⟩,⟨eb,61,ai aZ (dI uY (gq a) (gq b)),eN,true⟩,⟨ob,61,ai aZ o,oN,true⟩],c.length-i)) ⟨⟨0,[],none,0,0⟩,Nat.zero_le _,rfl,Nat.le_refl _,bz,rfl⟩ ?_ (hL:=(ay [some 0,some 1,some 2,some 3,some 6,none] ⟨pR,pR,pR,pR,pR,⟨rfl,rfl,rfl⟩,trivial⟩ rfl rfl));rintro⟨⟨i,o,ob,oN,oc⟩,hi,hI,h3,h4,hLL⟩;(try dsimp only);replace hi:i<=c.length:=hi;replace hI:o=(c.take i).map (·.i):=hI;replace h3:o.length<=oc:=h3;replace h4:oc*20<=oN:=h4;replace hLL:fD (oU (flatK jP a b)) none c=fD (oU (flatK jP a b)) (pO c i) (c.drop i):=hLL;have hol:o.length<=400:=Pj
  have hoz:∀x∈o,gV x<=50000:=fun x hx=>by rw[hI] at hx;obtain⟨q,hq,rfl⟩:=List.mem_map.1 hx;exact Nat.le_trans (hcz q (List.mem_of_mem_take hq)).1 ae
  refine lh ?_;refine Cd ?_ ?_<;>intro hbQ
  ·have hlt:i<c.length:=kN;obtain⟨p,hp⟩:∃p,c[i]? =some p:=⟨c[i],List.getElem?_eq_getElem hlt⟩;obtain⟨hpz,hpa,hpb⟩:=hcz p (List.mem_of_getElem? hp);have hp1:=ig p.i;have hp2:=gW p.i;refine dK 2 rfl (bP.ne au ae) (fun hbs=>?_);obtain⟨gc,hgc⟩:=Option.isSome_iff_exists.1 hbs;replace hgc:cb=some gc:=hgc;subst hgc;refine A9 ?_;refine qlG fun g1=>?_;refine Ss 6 ?_;refine A8 ?_;refine L9 6 0 ?_;refine Pc (nK p.i.f) ?_;refine A2 ?_;refine Rs 37 ?_ ?_<;>intro hcQ
   ·have r1:bK p.i.f=false:=rX
    refine A23 ?_;refine aH rfl (ax rfl) (fun w hL=>⟨(),?_,hL.pk []⟩);exact congrArg (fun e:Int=>Ending.returned (.int .i64 e)) (O6 hk0 (Dc hp hLL (qv5 r1) au) au)
   ·have r1:bK p.i.f=true:=rX
    refine A2 ?_;refine L9 6 9 ?_;refine Pc (nK p.i.t) ?_;refine A5 ?_;refine Cd ?_ ?_<;>intro hdQ
    ·have r2:bK p.i.t=false:=uB
     refine EE ?_;refine aH rfl (ax rfl) (fun w hL=>⟨(),?_,hL.pk []⟩);exact congrArg (fun e:Int=>Ending.returned (.int .i64 e)) (O6 hk0 (Dc hp hLL (qv6 r1 r2) au) au)
    ·have r2:bK p.i.t=true:=uB
     refine A3 ?_;refine zO 6 0 ?_;refine Pc (FY p.i) ?_;refine A4 ?_;refine Cd ?_ ?_<;>intro heQ
     ·have r3:ja p.i=false:=yI
      refine EE ?_;refine aH rfl (ax rfl) (fun w hL=>⟨(),?_,hL.pk []⟩);exact congrArg (fun e:Int=>Ending.returned (.int .i64 e)) (O6 hk0 (Dc hp hLL (qv7 r1 r2 r3) au) au)
     ·have r3:ja p.i=true:=yI
      refine A3 ?_;refine L9 6 20 ?_;refine Pc (nK p.a) ?_;refine A2 ?_;refine Rs 54 ?_ ?_<;>intro hfQ
      ·have r4:bK p.a=false:=JD
       refine A22 ?_;refine aH rfl (ax rfl) (fun w hL=>⟨(),?_,hL.pk []⟩);exact congrArg (fun e:Int=>Ending.returned (.int .i64 e)) (O6 hk0 (Dc hp hLL (qv8 r1 r2 r3 r4) au) au)
      ·have r4:bK p.a=true:=JD
       refine A1 ?_;refine L9 6 29 ?_;refine Pc (nK p.b) ?_;refine A5 ?_;refine Cd ?_ ?_<;>intro hgQ
       ·have r5:bK p.b=false:=U4
        refine EE ?_;refine aH rfl (ax rfl) (fun w hL=>⟨(),?_,hL.pk []⟩);exact congrArg (fun e:Int=>Ending.returned (.int .i64 e)) (O6 hk0 (Dc hp hLL (qv9 r1 r2 r3 r4 r5) au) au)
       ·have r5:bK p.b=true:=U4
        refine A1 ?_;refine Di [] ?_;refine A3 ?_;refine Rs 63 ?_ ?_<;>intro hhQ
        ·have hip:0<i:=qcj;obtain⟨q,hq⟩:∃q,c[i-1]? =some q:=⟨_,List.getElem?_eq_getElem ae⟩;obtain⟨hqz,_,_⟩:=hcz q (List.mem_of_getElem? hq);refine A1 ?_;refine zO 6 0 ?_;refine A3 ?_;refine qaE ?_;refine aJ 2 ((i-1)*38) u32 uj rfl rfl rfl rfl rfl ae ae (bP.ne au ae) Ag ?_;refine Fg ((i-1)*38) 0 ?_;refine aT (v:=lC q.i) 2 ((i-1)*38) _ rfl rfl rfl rfl o7 (bP.sub hq 0 20 au) rfl au rfl ?_;refine Pc (Pm p.i q.i) ?_;refine A4 ?_;refine Cd ?_ ?_<;>intro hiQ
         ·have r6:yz (pO c i) p.i=true:=by rw[qwd hip hq];exact hiQ
          refine EE ?_;refine aH rfl (ax rfl) (fun w hL=>⟨(),?_,hL.pk []⟩);exact congrArg (fun e:Int=>Ending.returned (.int .i64 e)) (O6 hk0 (Dc hp hLL (qwa r1 r2 r3 r4 r5 r6) au) au)
         ·have r6:yz (pO c i) p.i=false:=by rw[qwd hip hq];exact hiQ
          refine A1 ?_;have hpf:=hpok _ r1;have hpt:=hpok _ r2;refine A3 ?_;refine qmm ?_;refine Cd ?_ ?_<;>intro hjQ
          ·have r7:oL (flatK jP a b) p=false:=by have e:=hjQ;simpa using e
           exact qmh
          ·have r7:oL (flatK jP a b) p=true:=by have e:=hjQ;simpa using e
           exact qry
        ·have hi0:i=0:=Ui;have r6:yz (pO c i) p.i=false:=qyo hi0;refine Yc ?_;have hpf:=hpok _ r1;have hpt:=hpok _ r2;refine A3 ?_;refine qmm ?_;refine Cd ?_ ?_<;>intro hiQ
         ·have r7:oL (flatK jP a b) p=false:=by have e:=hiQ;simpa using e
          exact qmh
         ·have r7:oL (flatK jP a b) p=true:=by have e:=hiQ;simpa using e
          exact qry
  ·have hge:i=c.length:=lw;subst hge;have hl0:=qkc hLL;have hoe:o=c.map (·.i):=Ad
   have hno:(dY o).length<=2000000:=(by rw[hoe];omega);refine lh ?_;refine(Sc [5]) (qum o ob oN oc h3 ae hoz) (fun zn=>?_);obtain⟨nb_,nN,nc,hnc⟩:=zn;refine A1 ?_;refine(Sd [6,4]) (Qp (dY o) nb_ nN nc hnc hno (dI uY (gq a) (gq b)) eb eN ec hec) ?_;refine A4 ?_;refine Cd ?_ ?_<;>intro hcQ
   ·have r8:dY (c.map (·.i))≠dI uY (gq a) (gq b):=qmo
    refine A8 ?_;refine aH rfl (ax rfl) (fun w hL=>⟨(),?_,hL.pk []⟩);exact congrArg (fun e:Int=>Ending.returned (.int .i64 e)) (qtY hk0 hl0 r8)
   ·have r8:dY (c.map (·.i))=dI uY (gq a) (gq b):=qmo
    refine A3 ?_;refine L9 3 1 ?_;refine Pc (nK m hmz) ?_;refine A4 ?_;refine Cd ?_ ?_<;>intro hdQ
    ·have r9:bK m=false:=uB
     refine A8 ?_;refine aH rfl (ax rfl) (fun w hL=>⟨(),?_,hL.pk []⟩);exact congrArg (fun e:Int=>Ending.returned (.int .i64 e)) (qwe hk0 hl0 r8 r9)
    ·have r9:bK m=true:=uB
     refine A1 ?_;refine wE ?_;refine L9 3 1 ?_;refine A2 ?_;refine(Sd [2]) (Iw c cb cN cc hcc ae hcm) ?_;refine BB rfl rfl rfl rfl qsi (qtg _ _) ?_;refine A3 ?_;refine Cd ?_ ?_<;>intro heQ
     ·have rx:m≠qZ c:=yI
      refine A8 ?_;refine aH rfl (ax rfl) (fun w hL=>⟨(),?_,hL.pk []⟩);exact congrArg (fun e:Int=>Ending.returned (.int .i64 e)) (qtZ hk0 hl0 r8 r9 rx)
     ·have rx:m=qZ c:=yI
      refine A9 ?_;refine aH rfl (ax rfl) (fun w hL=>⟨(),?_,hL.pk []⟩);exact congrArg (fun e:Int=>Ending.returned (.int .i64 e)) (qwf hk0 hl0 r8 r9 rx)
def PQ(l:List PU)(lb:Option Nat)(lN lc:Nat)(hlc:l.length<=lc:=by omega)(hln:l.length<=1000:=by omega):bQ Tryz.prog 137 [⟨lb,201,ai aK l,lN,false⟩] [aB lb 0 l.length lc] (SR (l).length) SR.v (fun z=>[⟨z.b,100,ai aK (l),z.n,true⟩]):=by
 refine Qg 26 Tryz.func137 fun w hL0=>?_;refine PX ?_;refine El (ι:={z:Nat×List PU×Option Nat×Nat×Nat // z.1<=l.length∧z.2.1=l.take z.1∧z.2.1.length<=z.2.2.2.2∧z.2.2.2.2*36<=z.2.2.2.1}) (fun⟨⟨i,o,ob,oN,oc⟩,hi,hI,h3,h4⟩=>([(0,aB lb 0 l.length lc),(3,aB ob 0 o.length oc),(4,bF i)],[⟨lb,201,ai aK l,lN,false⟩,⟨ob,100,ai aK o,oN,true⟩],l.length-i)) ⟨⟨0,[],none,0,0⟩,Nat.zero_le _,rfl,Nat.le_refl _,bz⟩ ?_ (hL:=(ay [some 0,none] ⟨pR,⟨rfl,rfl,rfl⟩,trivial⟩ rfl rfl));rintro⟨⟨i,o,ob,oN,oc⟩,hi,hI,h3,h4⟩;(try dsimp only);replace hi:i<=l.length:=hi;replace hI:o=l.take i:=hI;replace h3:o.length<=oc:=h3;replace h4:oc*36<=oN:=h4
 have hol:o.length<=100000:=(by rw[hI,List.length_take];omega);refine A9 ?_;refine Cd ?_ ?_<;>intro haQ
 ·have hlt:i<l.length:=iE;obtain⟨x,hx⟩:∃x,l[i]? =some x:=⟨l[i],List.getElem?_eq_getElem hlt⟩;refine dK 0 rfl (bu.ne au ae) (fun hbs=>?_);obtain⟨gl,hgl⟩:=Option.isSome_iff_exists.1 hbs;replace hgl:lb=some gl:=hgl;subst hgl;refine A4 ?_;refine qkz ?_;refine A2 ?_;refine XP ?_;refine Fg ((i)*36) 0 ?_;refine aT (v:=lC x.i) 0 ((i)*36) _ rfl rfl rfl rfl o7 (bu.sub hx 0 20 au) rfl au rfl ?_;refine A2 ?_;refine XP ?_;refine UW ?_;refine PP ?_;refine bZ [0,12] ak ⟨⟨_,rfl,?_⟩,⟨_,rfl,?_⟩,trivial⟩
  ·refine A2 ?_;refine bZ [12] ak ⟨⟨_,rfl,?_⟩,trivial⟩
   ·refine(Bl 36 [(0,_)]) (Fe) (fun g0=>?_);refine A1 ?_;exact qmg
  ·refine(Bl 36 [(0,_)]) (Fe) (fun g0=>?_);refine A1 ?_;refine bZ [0] ak ⟨⟨_,rfl,?_⟩,trivial⟩
   ·refine A2 ?_;exact qmg
 ·exact qkA
def Dx{S:Rl->Prop}{ρ:Rl->Int}(T:dM S ρ)(l:List PU)(lb:Option Nat)(lN lc:Nat)(hlc:l.length<=lc)(hln:l.length<=1000)(hsep:nR ρ l)(hE:Go.Via.Ends S l)(h0:0<l.length)(h20:l.length<20)(hz:∀u∈l,gV u.i<=1000∧jI u.f<=1000):bQ Tryz.prog 89 [⟨lb,100,ai aK l,lN,false⟩] [aB lb 0 l.length lc] (SR (qY l).length) (fun z=> .tuple #[z.v,.int .i64 0]) (fun z=>[⟨z.b,100,ai aK (qY l),z.n,true⟩]):=by
 refine⟨ak,fun w hL0=>?_⟩;have hnl:(qY l).length<=1000:=Nat.le_trans (RD (l:=l)) ae;refine cB1 17 Tryz.func89 hL0 ?_;refine A8 ?_;refine(Bu []) (qnn) ?_;refine WR rfl rfl rfl (fun _=>ak) ?_;refine A1 ?_;refine(Sc [0]) (Qn l lb lN lc hlc hln) (fun z=>?_);obtain⟨ub,uN,uc,huc⟩:=z;refine(Sc [1]) (Lr T l ub uN uc huc hln hsep hE h0 h20 hz) (fun z=>?_);obtain⟨nb,nN,nc,hnc⟩:=z;refine lh ?_;refine(Sc [2]) (PQ (qY l) nb nN nc hnc hnl) (fun z=>?_);obtain⟨pb,pN,pc,hpc⟩:=z;refine A6 ?_;refine bT rfl (ax rfl) (ax rfl) (fun w hL=>⟨⟨pb,pN,pc,hpc⟩,?_,hL.pk [some 3]⟩);exact rfl
def fG(t x y:Nat)(ht:t<256)(hx:x<256)(hy:y<256)(l:List ug)(lb:Option Nat)(pre:List Value)(lN lc:Nat)(hlc:l.length<=lc)(h6:l.length<=6)(hs:∀s∈l,okS s):bQ Tryz.prog 40 [⟨lb,86,pre++ai jZ l,lN,false⟩] [.agg #[.int .u8 (t:Nat),.int .u8 (x:Nat),.int .u8 (y:Nat),aB lb pre.length l.length lc]] (SR (jF t x y l).length) SR.v (fun z=>[⟨z.b,100,ai aK (jF t x y l),z.n,true⟩]):=by
 refine Qg 133 Tryz.func40 fun w hL0=>?_;refine iH fun g0=>?_;refine oH ?_;refine(Dv ((t%16:Nat):Int)) (congrArg some (lW _ _ rfl rfl)) ?_;refine(Cv ((t%16:Nat):Int) u5 u3) yl ?_;refine A2 ?_;refine(Dv ((x%64:Nat):Int)) (congrArg some (lW _ _ rfl rfl)) ?_;refine(Cv ((x%64:Nat):Int) u5 u3) yl ?_;refine A2 ?_;refine(Dv ((y%64:Nat):Int)) (congrArg some (lW _ _ rfl rfl)) ?_;refine(Cv ((y%64:Nat):Int) u5 u3) yl ?_;refine Pc (wU (t%16:Nat) (x%64:Nat) (y%64:Nat)) ?_;refine Al 12 qnb (fun g1=>?_);refine Ss 2 ?_;refine FH ?_;refine El (ι:={z:Nat×AV×Bool×List PU×Option Nat×Nat×Nat // z.1<=l.length∧Md z.2.1 (l.length-z.1)∧JI t x y l=iG (l.drop z.1) z.2.1 z.2.2.1 z.2.2.2.1∧z.2.2.2.1.length<=z.1∧z.2.2.2.1.length<=z.2.2.2.2.2.2∧z.2.2.2.2.2.2*36<=z.2.2.2.2.2.1}) (fun⟨⟨i,last,alone,o,ob,oN,oc⟩,hi,hsm,hI,ho,h3,h4⟩=>([(1,dA g0),(3,aB ob 0 o.length oc),(4,dA g1),(5,.bool alone),(6,bF i)],[⟨lb,86,pre++ai jZ l,lN,false⟩,⟨some g0,24,[.int .u8 (t:Nat),.int .u8 (x:Nat),.int .u8 (y:Nat),aB lb pre.length l.length lc],4,true⟩,⟨some g1,137,JG last,12,true⟩,⟨ob,100,ai aK o,oN,true⟩],l.length-i)) ⟨⟨0,st0 t x y,true,[],none,0,0⟩,Nat.zero_le _,Pv h6,rfl,Nat.le_refl _,Nat.le_refl _,bz⟩ ?_ (hL:=(ay [some 0,some 1,some 2,none] ⟨pR,pR,pR,⟨rfl,rfl,rfl⟩,trivial⟩ rfl rfl));rintro⟨⟨i,last,alone,o,ob,oN,oc⟩,hi,hsm,hI,ho,h3,h4⟩;(try dsimp only);replace hi:i<=l.length:=hi;replace hsm:Md last (l.length-i):=hsm;replace hI:JI t x y l=iG (l.drop i) last alone o:=hI;replace ho:o.length<=i:=ho;replace h3:o.length<=oc:=h3;replace h4:oc*36<=oN:=h4;have ht0:=hsm.t0;have ht1:=hsm.t1;refine A9 ?_;refine Rs 32 ?_ ?_<;>intro haQ
 ·have hlt:i<l.length:=iE;obtain⟨s,hx⟩:∃s,l[i]? =some s:=⟨l[i],List.getElem?_eq_getElem hlt⟩;obtain⟨hs1,hs2,hs3,hs4⟩:=hs s (List.mem_of_getElem? hx);have hsn:Md (Ef last s) (l.length-(i+1)):=JH (by rw[show l.length-(i+1)+1=l.length-i by omega];exact hsm);refine A5 ?_;refine Cd ?_ ?_<;>intro hbQ
  ·refine A5 ?_;refine dK 0 rfl (jU.neP (l:=l) au pre ae) (fun hbs=>?_);obtain⟨gl,hgl⟩:=Option.isSome_iff_exists.1 hbs;replace hgl:lb=some gl:=hgl;subst hgl;refine A4 ?_;refine GG (pre.length+i*4) u22 qr4 rfl rfl rfl rfl ae ae (by show pre.length+Int.toNat _*4=_;omega) ?_;refine aT (v:=SpV s) 0 (pre.length+i*4) _ rfl rfl rfl rfl qr4 (jU.subP pre hx 0 4 au) rfl au rfl ?_;refine Al 4 z86 (fun g2=>?_);refine Ss 4 ?_;refine A6 ?_;refine L2 2 0 ?_;refine Pc (KT ((last.t:Rat).num)) ?_;refine A2 ?_;refine aP 48 (.int .i64 last.t) rfl (congrArg (Value.int .i64) (qpB hsm)) ?_;refine A8 ?_;refine(Aq (last.t+1)) uw ?_;refine A2 ?_;refine(Dv ((s.time%8:Nat):Int)) (congrArg some (lW _ _ rfl rfl)) ?_;refine(Cv ((s.time%8:Nat):Int) u5 u3) yl ?_;refine(Aq (last.t+1+((s.time%8:Nat):Int))) uw ?_;refine A2 ?_;refine qml ?_;refine A2 ?_;refine qmk ?_;refine Pc (wU (last.t+1+((s.time%8:Nat):Int)) (s.x%64:Nat) (s.y%64:Nat)) ?_;refine Kr 65 (SmV (Ef last s)) ?_;refine Al 12 qnb (fun g3=>?_);refine Ss 5 ?_;refine A4 ?_;refine xg 2 0 ?_;refine Al 12 qnb (fun g4=>?_);refine Ss 6 ?_;refine A2 ?_;refine nV (nt:=133) (X:={f:AV // f=if s.kind%8=1 then swS last s else last}) (fun⟨f,hf⟩=>[(1,dA g0),(3,aB ob 0 o.length oc),(4,dA g1),(5,.bool alone),(6,bF i),(7,dA g2),(10,dA g3),(11,dA g4)]) (fun⟨f,hf⟩=>[⟨some gl,86,pre++ai jZ l,lN,false⟩,⟨some g0,24,[.int .u8 (t:Nat),.int .u8 (x:Nat),.int .u8 (y:Nat),aB (some gl) pre.length l.length lc],4,true⟩,⟨some g1,137,JG last,12,true⟩,⟨ob,100,ai aK o,oN,true⟩,⟨some g2,86,jZ s,4,true⟩,⟨some g3,137,JG (Ef last s),12,true⟩,⟨some g4,137,JG f,12,true⟩]) ?_ ?_
   ·refine A4 ?_;refine Ve ?_;refine A3 ?_;refine Cd ?_ ?_<;>intro hcQ
    ·have hk1:s.kind%8=1:=by have e:=of_decide_eq_true hcQ;omega
     refine A3 ?_;refine qmk ?_;refine A2 ?_;refine qml ?_;refine Pc (wU 0 (s.y%64:Nat) (s.x%64:Nat)) ?_;refine qnA (v:= .agg #[.bool (decide ((((0:Int):Rat)).num<0)),.string (bH (((0:Int):Rat)).num.natAbs),.bool false,.string (dm (((0:Int):Rat))),.bool (decide (((((s.y%64:Nat):Int):Rat)).num<0)),.string (bH ((((s.y%64:Nat):Int):Rat)).num.natAbs),.bool false,.string (dm ((((s.y%64:Nat):Int):Rat))),.bool (decide (((((s.x%64:Nat):Int):Rat)).num<0)),.string (bH ((((s.x%64:Nat):Int):Rat)).num.natAbs),.bool false,.string (dm ((((s.x%64:Nat):Int):Rat)))]) (u:= .agg #[.bool (decide (((((s.y%64:Nat):Int):Rat)).num<0)),.string (bH ((((s.y%64:Nat):Int):Rat)).num.natAbs),.bool false,.string (dm ((((s.y%64:Nat):Int):Rat))),.bool (decide (((((s.x%64:Nat):Int):Rat)).num<0)),.string (bH ((((s.x%64:Nat):Int):Rat)).num.natAbs),.bool false,.string (dm ((((s.x%64:Nat):Int):Rat)))]) rfl rfl rfl (fun _=>ak) ?_;refine A1 ?_;refine Ss 6 ?_;refine A2 ?_;exact Ni ⟨swS last s,(if_pos hk1).symm⟩ [0,1,2,3,4,5,6]
    ·have hk1:s.kind%8≠1:=qld
     refine A2 ?_;exact Ni ⟨last,(if_neg hk1).symm⟩ [0,1,2,3,4,5,6]
   rintro⟨f,hf⟩;show At _ ⟨133,[(1,dA g0),(3,aB ob 0 o.length oc),(4,dA g1),(5,.bool alone),(6,bF i),(7,dA g2),(10,dA g3),(11,dA g4)],[⟨some gl,86,pre++ai jZ l,lN,false⟩,⟨some g0,24,[.int .u8 (t:Nat),.int .u8 (x:Nat),.int .u8 (y:Nat),aB (some gl) pre.length l.length lc],4,true⟩,⟨some g1,137,JG last,12,true⟩,⟨ob,100,ai aK o,oN,true⟩,⟨some g2,86,jZ s,4,true⟩,⟨some g3,137,JG (Ef last s),12,true⟩,⟨some g4,137,JG f,12,true⟩]⟩ _;obtain⟨hfs,hft⟩:=qt9 hsm hf;refine A5 ?_;refine Ve ?_;refine A3 ?_;refine Cd ?_ ?_<;>intro hcQ
   ·have hk0:s.kind%8≠0:=by have e:=hcQ;simp at e;omega
    have hk0b:decide (((s.kind%8:Nat):Int)=0)=false:=(by exact decide_eq_false ae);refine nV (nt:=133) (X:=Nat) (fun gI=>[(1,dA g0),(3,aB ob 0 o.length oc),(4,dA g1),(5,.bool alone),(6,bF i),(7,dA g2),(10,dA g3),(11,dA g4),(12,dA gI)]) (fun gI=>[⟨some gl,86,pre++ai jZ l,lN,false⟩,⟨some g0,24,[.int .u8 (t:Nat),.int .u8 (x:Nat),.int .u8 (y:Nat),aB (some gl) pre.length l.length lc],4,true⟩,⟨some g1,137,JG last,12,true⟩,⟨ob,100,ai aK o,oN,true⟩,⟨some g2,86,jZ s,4,true⟩,⟨some g3,137,JG (Ef last s),12,true⟩,⟨some g4,137,JG f,12,true⟩,⟨some gI,61,aZ (FZ o alone f (Ef last s)).i,20,true⟩]) ?_ ?_
    ·refine Dq [3000000] [0,1,3,4,6,7,8,2,5,9,10,11,12,13,14,15] ?_;refine A1 ?_;refine L4 6 0 ?_;refine A1 ?_;refine L4 5 0 ?_;refine A3 ?_;refine Pc (kJ ((f.t:Rat))) ?_;refine Pc (kJ (((Ef last s).t:Rat))) ?_;refine A1 ?_;refine Rs 95 ?_ ?_<;>intro hdQ
     ·have hoe:o.isEmpty=false:=by have e:=of_decide_eq_true hdQ;cases o<;>simp at e ⊢
      refine A3 ?_;refine(Bu [(0,_),(1,_),(2,_)]) (YD) ?_;refine Al 20 z61 (fun g5=>?_);refine Ss 7 ?_;refine A2 ?_;exact Cb g5 ⟨rfl,rfl,rfl,rfl,rfl,rfl,rfl,rfl,rfl,trivial⟩ (ay [some 0,some 1,some 2,some 3,some 4,some 5,some 6,some 7] ⟨pR,pR,pR,pR,pR,pR,pR,⟨_,rfl,aV (by rw[qpC hoe];rfl)⟩,trivial⟩ rfl rfl)
     ·have hoe:o.isEmpty=true:=by have e:=of_decide_eq_false hdQ;cases o<;>simp at e ⊢
      refine A3 ?_;refine(Bu [(0,_),(1,_),(2,_)]) (YD) ?_;refine Al 20 z61 (fun g5=>?_);refine Ss 7 ?_;refine A2 ?_;exact Cb g5 ⟨rfl,rfl,rfl,rfl,rfl,rfl,rfl,rfl,rfl,trivial⟩ (ay [some 0,some 1,some 2,some 3,some 4,some 5,some 6,some 7] ⟨pR,pR,pR,pR,pR,pR,pR,⟨_,rfl,aV (by rw[qpD hoe];rfl)⟩,trivial⟩ rfl rfl)
    rintro gI;show At _ ⟨133,[(1,dA g0),(3,aB ob 0 o.length oc),(4,dA g1),(5,.bool alone),(6,bF i),(7,dA g2),(10,dA g3),(11,dA g4),(12,dA gI)],[⟨some gl,86,pre++ai jZ l,lN,false⟩,⟨some g0,24,[.int .u8 (t:Nat),.int .u8 (x:Nat),.int .u8 (y:Nat),aB (some gl) pre.length l.length lc],4,true⟩,⟨some g1,137,JG last,12,true⟩,⟨ob,100,ai aK o,oN,true⟩,⟨some g2,86,jZ s,4,true⟩,⟨some g3,137,JG (Ef last s),12,true⟩,⟨some g4,137,JG f,12,true⟩,⟨some gI,61,aZ (FZ o alone f (Ef last s)).i,20,true⟩]⟩ _;refine vw (l':=[⟨_,_,_,_,_,_⟩,⟨_,_,_,_,_,_⟩,⟨_,_,_,_,_,_⟩]) [2000000] [1,2,3] [0,4,5,6,7,8] mixed ak rfl ?_;refine zO 7 0 ?_;refine xg 6 0 ?_;refine xg 5 0 ?_;refine A1 ?_;refine bZ [0,4] ak ⟨⟨_,rfl,?_⟩,⟨_,rfl,?_⟩,trivial⟩
    ·refine A2 ?_;refine bZ [4] ak ⟨⟨_,rfl,?_⟩,trivial⟩
     ·refine qmj ?_;exact qrw
    ·refine qmj ?_;refine bZ [0,5] ak ⟨⟨_,rfl,?_⟩,⟨_,rfl,?_⟩,trivial⟩
     ·refine A2 ?_;exact qrw
     ·refine PP ?_;refine bZ [0,6] ak ⟨⟨_,rfl,?_⟩,⟨_,rfl,?_⟩,trivial⟩
      ·refine A2 ?_;exact qru
      ·refine(Bl 36 [(0,_)]) (Fe) (fun g5=>?_);refine A1 ?_;refine bZ [0] ak ⟨⟨_,rfl,?_⟩,trivial⟩
       ·refine A2 ?_;exact qrs
   ·have hk0:s.kind%8=0:=by have e:=hcQ;simp at e;omega
    have hk0b:decide (((s.kind%8:Nat):Int)=0)=true:=(by exact decide_eq_true ae);refine A6 ?_;refine Ve ?_;refine A5 ?_;refine xg 5 0 ?_;refine Ss 2 ?_;refine qC ?_;exact Nl ⟨⟨i+1,Ef last s,true,o,ob,oN,oc⟩,hlt,hsn,by rw[hI];exact qlq hx hk0,Nat.le_succ_of_le ho,h3,h4⟩ (hμ:=nJ) (ht:=⟨rfl,rfl,rfl,(aO rfl (congrArg Value.bool hk0b)),rfl,trivial⟩) (hL:=fE.auto)
  ·exact absurd (of_decide_eq_false hbQ) ae
 ·have hge:i=l.length:=iV;subst hge;refine PX ?_;refine Cd ?_ ?_<;>intro hbQ
  ·have hal:alone=true:=hbQ;have hr:JI t x y l=o++[yJ last]:=by rw[hI,qcZ,hal];rfl
   have hT:jF t x y l=qY (o++[yJ last]):=(by rw[zl h6,hr]);have hq1:nR gU (o++[yJ last]):=hr▸Px;have hq2:Go.Via.Ends (SmE 2) (o++[yJ last]):=hr▸JJ h6;have hq3:=Py (t:=t) (x:=x) (y:=y) h6;rw[hr] at hq3;have hq4:∀u∈(o++[yJ last]),gV u.i<=1000∧jI u.f<=1000:=hr▸qc8 h6;refine A3 ?_;refine L4 2 0 ?_;refine Pc (kJ ((last.t:Rat))) ?_;refine Al 9 QI (fun g2=>?_);refine Ss 4 ?_;refine A2 ?_;refine vw (l':=[⟨_,_,_,_,_,_⟩,⟨_,_,_,_,_,_⟩,⟨_,_,_,_,_,_⟩,⟨_,_,_,_,_,_⟩,⟨_,_,_,_,_,_⟩]) [2000000] [1,2,3,4,5] [0,6,7,8,9,10] mixed ak rfl ?_;refine L9 4 0 ?_;refine L9 4 0 ?_;refine(Bu [(0,_),(1,_)]) (Tu) ?_;refine A1 ?_;refine L8 2 4 ?_;refine A1 ?_;refine bZ [0,6] ak ⟨⟨_,rfl,?_⟩,⟨_,rfl,?_⟩,trivial⟩
   ·refine A2 ?_;refine bZ [6] ak ⟨⟨_,rfl,?_⟩,trivial⟩
    ·refine Pc (ER (last.x:Rat) (last.y:Rat)) ?_;refine A1 ?_;exact qrx
   ·refine Pc (ER (last.x:Rat) (last.y:Rat)) ?_;refine A1 ?_;refine bZ [0,7] ak ⟨⟨_,rfl,?_⟩,⟨_,rfl,?_⟩,trivial⟩
    ·refine A2 ?_;exact qrx
    ·refine PP ?_;refine bZ [0,8] ak ⟨⟨_,rfl,?_⟩,⟨_,rfl,?_⟩,trivial⟩
     ·refine A2 ?_;exact qrv
     ·refine(Bl 36 [(0,_)]) (Fe) (fun g3=>?_);refine A1 ?_;refine bZ [0] ak ⟨⟨_,rfl,?_⟩,trivial⟩
      ·refine A2 ?_;exact qrt
  ·have hal:alone=false:=hbQ;have hr:JI t x y l=o:=by rw[hI,qcZ,hal];rfl
   have hT:jF t x y l=qY (o):=(by rw[zl h6,hr]);have hq1:nR gU (o):=hr▸Px;have hq2:Go.Via.Ends (SmE 2) (o):=hr▸JJ h6;have hq3:=Py (t:=t) (x:=x) (y:=y) h6;rw[hr] at hq3;have hq4:∀u∈(o),gV u.i<=1000∧jI u.f<=1000:=hr▸qc8 h6;refine A5 ?_;refine(Sc [3]) (Dx (qcN 2) o ob oN oc h3 ae hq1 hq2 hq3.1 ae hq4) (fun z=>?_);obtain⟨nb,nN,nc,hnc⟩:=z;refine EE ?_;refine aH rfl (ax rfl) (fun w hL=>⟨⟨nb,nN,nc,by rw[hT];exact hnc⟩,?_,hL.picks [some 4] ⟨⟨_,rfl,aV qmp⟩,trivial⟩ rfl rfl⟩);exact qmi
end Go.Proofs.YtaffcpfhedadhaaGreatDoor
