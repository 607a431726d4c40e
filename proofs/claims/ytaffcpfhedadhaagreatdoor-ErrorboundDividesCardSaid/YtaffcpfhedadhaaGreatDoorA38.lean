/-
  Part 38 (chapter 32): lemmas, walks. Each theorem states its own conditions.
-/
import Derived.Lib.Repeat
import Derived.Shelf.SlSortCmp.WholeK
import Derived.Shelf.SlSortCmp.NoneTotal
import Derived.Sort.Grow
import Derived.Sort.EncStr
import Derived.Test.YtaffcpfhedadhaaGreatDoorA36
import Derived.Test.YtaffcpfhedadhaaGreatDoorA37
set_option linter.all false
set_option maxRecDepth 20000
set_option maxHeartbeats 20000000
section
variable{P Q:Prop}{T:Type}{R:T->Prop}
def qqs(h:P:=by
 refine bW [8] ak ⟨⟨_,rfl,?_⟩,trivial⟩
 ·exact qsl):=h
def qsl(h:P:=by
 refine(Qa (s:=38) (len:=o.length) (n2:=1) 3 5 (fun r=>[_,_,_,⟨some r.g,63,aj aZ o++aZ (ay x),r.n,true⟩,_,_]) u32 KW) (dH.length o) h3 h4 (dH.one (ay x)) (fun r=>?_);refine A1 ?_;refine bW [9] ak ⟨⟨_,rfl,?_⟩,trivial⟩
 ·exact qqt):=h
def qqt(h:P:=by
 refine A2 ?_;refine bW [10] ak ⟨⟨_,rfl,?_⟩,trivial⟩
 ·refine Ss 2 ?_;refine A1 ?_;refine Hf rfl ?_;refine A3 ?_;refine dP ?_;exact Nl ⟨⟨i+1,o++[ay x],some r.g,r.n,r.cap⟩,hlt,by show o++[ay x]=((ag a b).take (i+1)).map ay;rw[<-fO hx,List.map_append,<-hI];rfl,jB,r.hn⟩ (hμ:=(by show(ag a b).length-(i+1)<(ag a b).length-i;omega)) (hL:=(az [some 0,some 1,some 2,some 3] ⟨pR,pR,⟨_,rfl,bg jO⟩,⟨_,rfl,bg kz⟩,trivial⟩ rfl rfl))):=h
def qlW(h:P:=by
 refine bW [1,7] ak ⟨⟨_,rfl,?_⟩,⟨_,rfl,?_⟩,trivial⟩
 ·refine A2 ?_;exact qlX
 ·refine(Bl 38 [(0,_)]) (nY) (fun g3=>?_);refine A1 ?_;exact qlY):=h
def qlX(h:P:=by
 refine bW [7] ak ⟨⟨_,rfl,?_⟩,trivial⟩
 ·refine(Bl 38 [(0,_)]) (nY) (fun g3=>?_);refine A1 ?_;exact qqs):=h
def qlY(h:P:=by
 refine bW [1] ak ⟨⟨_,rfl,?_⟩,trivial⟩
 ·refine A2 ?_;exact qqs):=h
def Yu(q:Q)(h:bI Q->P:=by intro q_;refine A6 ?_;refine aG 0 ((i)*32) u88 qbm rfl rfl rfl rfl rfl ae ae (tH.ne ax ae) Yz ?_;refine bu (v:=PtV x) 0 ((i)*32) _ rfl rfl rfl rfl qbm (tH.sub hx 0 32 ax) rfl ax rfl ?_;exact q_.qq):=h ⟨q⟩
def Yv(h:P:=by rw[hI,List.length_map,List.length_take];omega):=h
def Yw(h:P:=by rw[qgA hxi.1];exact Rat.le_refl):=h
def Yx(h:P:=by rw[qgA hxi.2];exact Rat.le_refl):=h
def Yy(h:P:=by have e:=of_decide_eq_false haQ;omega):=h
def Yz(h:P:=by show 0+Int.toNat _*32=_;omega):=h
end
namespace Go.Proofs.YtaffcpfhedadhaaGreatDoor
open Go Go.RowKit Go.Via
def oU(a:List PU)(ab:Option Nat)(aN ac:Nat)(hac:a.length<=ac)(han:a.length<=1000)(b:List PU)(bb:Option Nat)(bN bc:Nat)(hbc:b.length<=bc)(hbn:b.length<=1000)(hsa:GX a)(hsb:GX b):cZ Tryz.prog 41 [⟨ab,100,aj aP a,aN,false⟩,⟨bb,100,aj aP b,bN,false⟩] [aA ab 0 a.length ac,aA bb 0 b.length bc] (SR (ag a b).length) SR.v (fun z=>[⟨z.b,93,aj Ep (ag a b),z.n,true⟩]):=by
 refine⟨ak,fun w hL0=>?_⟩;have hrl:=GI (mt:=Dj) (ef:=EM) a b;refine cB2 55 Tryz.func41 hL0 ?_;refine EK ?_;refine(Sc [0]) (vO a ab aN ac hac han) (fun za=>?_);obtain⟨zab,zaN,zac,hzac⟩:=za;refine A1 ?_;refine(Sc [1]) (vO b bb bN bc hbc hbn) (fun zb=>?_);obtain⟨zbb,zbN,zbc,hzbc⟩:=zb;refine(Sc [2,3]) (Jz a zab zaN zac hzac han b zbb zbN zbc hzbc hbn hsa.v hsb.v) (fun zr=>?_);obtain⟨rb,rN,rc,hrc⟩:=zr;refine A5 ?_;refine El (ι:={z:Nat×List (Iv×Qd)×Option Nat×Nat×Nat // z.1<=(gZ Dj EM a b).length∧z.2.1=((gZ Dj EM a b).take z.1).map (fun z:B3=>(z.i,d2 z.f z.g))∧z.2.1.length<=z.2.2.2.2∧z.2.2.2.2*32<=z.2.2.2.1}) (fun⟨⟨i,o,ob,oN,oc⟩,hi,hI,h3,h4⟩=>([(5,aA ob 0 o.length oc),(13,aA rb 0 (gZ Dj EM a b).length rc),(14,bH ((gZ Dj EM a b).length)),(15,bH i)],[⟨rb,151,aj XQ (gZ Dj EM a b),rN,true⟩,⟨ob,93,aj Ep o,oN,true⟩],(gZ Dj EM a b).length-i)) ⟨⟨0,[],none,0,0⟩,Nat.zero_le _,rfl,Nat.le_refl _,bz⟩ ?_ (hL:=(az [some 4,none] ⟨pR,⟨rfl,rfl,rfl⟩,trivial⟩ rfl rfl));rintro⟨⟨i,o,ob,oN,oc⟩,hi,hI,h3,h4⟩;(try dsimp only);replace hi:i<=(gZ Dj EM a b).length:=hi;replace hI:o=((gZ Dj EM a b).take i).map (fun z:B3=>(z.i,d2 z.f z.g)):=hI;replace h3:o.length<=oc:=h3;replace h4:oc*32<=oN:=h4
 have hol:o.length<=100000:=Yv;refine A6 ?_;refine Cd ?_ ?_<;>intro haQ
 ·have hlt:i<(gZ Dj EM a b).length:=iH;obtain⟨x,hx⟩:∃x,(gZ Dj EM a b)[i]? =some x:=⟨_,List.getElem?_eq_getElem hlt⟩;have hxs:=qlS hsa hsb x (List.mem_of_getElem? hx);have f0:=Nat.le_trans (rO x.f) hxs.2.1;have f1:=Nat.le_trans (rP x.f) hxs.2.1;have f2:=Nat.le_trans (rQ x.f) hxs.2.1;have f3:=Nat.le_trans (rU x.f) hxs.2.1;have g0:=Nat.le_trans (rO x.g) hxs.2.2;have g1:=Nat.le_trans (rP x.g) hxs.2.2;have g2:=Nat.le_trans (rQ x.g) hxs.2.2;have g3:=Nat.le_trans (rU x.g) hxs.2.2;have s0:=gW x.f.x0 x.g.x0;have s1:=gW x.f.x1 x.g.x1;have s2:=gW x.f.y0 x.g.y0;have s3:=gW x.f.y1 x.g.y1;refine A6 ?_;refine aG 0 ((i)*52) qpz qkW rfl rfl rfl rfl rfl ae ae (RP.ne ax ae) (by show 0+Int.toNat _*52=_;omega) ?_;refine bu (v:=B3V x) 0 ((i)*52) _ rfl rfl rfl rfl qkW (RP.sub hx 0 52 ax) rfl ax rfl ?_;refine Al 52 qrs (fun g0=>?_);refine dW ?_;refine Ho (l':=[⟨_,_,_,_,_,_⟩,⟨_,_,_,_,_,_⟩,⟨_,_,_,_,_,_⟩,⟨_,_,_,_,_,_⟩,⟨_,_,_,_,_,_⟩,⟨_,_,_,_,_,_⟩,⟨_,_,_,_,_,_⟩,⟨_,_,_,_,_,_⟩,⟨_,_,_,_,_,_⟩,⟨_,_,_,_,_,_⟩,⟨_,_,_,_,_,_⟩,⟨_,_,_,_,_,_⟩,⟨_,_,_,_,_,_⟩,⟨_,_,_,_,_,_⟩,⟨_,_,_,_,_,_⟩,⟨_,_,_,_,_,_⟩,⟨_,_,_,_,_,_⟩,⟨_,_,_,_,_,_⟩,⟨_,_,_,_,_,_⟩,⟨_,_,_,_,_,_⟩,⟨_,_,_,_,_,_⟩,⟨_,_,_,_,_,_⟩,⟨_,_,_,_,_,_⟩,⟨_,_,_,_,_,_⟩,⟨_,_,_,_,_,_⟩,⟨_,_,_,_,_,_⟩,⟨_,_,_,_,_,_⟩,⟨_,_,_,_,_,_⟩,⟨_,_,_,_,_,_⟩]) [3000000] [0,1,2,3,4,5,6,7,8,9,10,11,13,14,15,16,17,18,19,20,21,22,23,24,12,25,26,27,28] mixed (Zw [0,1,3,0,8,24,0,64,192,0,512,1536,4095,0,8192,24576,0,65536,196608,0,524288,1572864,0,4194304,12582912,33554431,67108863,0,268435455] ak) rfl ?_;refine A2 ?_;refine L4 2 20 ?_;refine A2 ?_;refine L4 2 24 ?_;refine A2 ?_;refine L4 2 36 ?_;refine A2 ?_;refine L4 2 40 ?_;refine A2 ?_;refine L4 2 28 ?_;refine A2 ?_;refine L4 2 32 ?_;refine A2 ?_;refine L4 2 44 ?_;refine A2 ?_;refine L4 2 48 ?_;refine Pc (tY x.f.x0 x.f.x1 x.g.x0 x.g.x1) ?_;refine Pc (tY x.f.y0 x.f.y1 x.g.y0 x.g.y1) ?_;refine Pc (Js (sqL (x.f.x0-x.g.x0) (x.f.x1-x.g.x1)) (sqL (x.f.y0-x.g.y0) (x.f.y1-x.g.y1)) (Nat.le_trans (qaE (n:=300) ae ae) ae) (Nat.le_trans (qaE (n:=300) ae ae) ae)) ?_;refine aS 45 (rH (d2 x.f x.g)) rfl (congrArg rH (qoi _ _)) ?_;refine Al 12 IJ (fun g1=>?_);refine Ss 3 ?_;refine A5 ?_;refine yK 2 0 ?_;refine vZ 3 0 ?_;refine(Bu [(0,_),(1,_)]) (qmT) ?_;refine(Bl 32 [(0,_)]) (qmZ) (fun g2=>?_);refine(Qa (s:=32) (len:=o.length) (n2:=1) 1 4 (fun r=>[_,⟨some r.g,93,aj Ep o++Ep ((x.i,d2 x.f x.g)),r.n,true⟩,_,_,_]) u88 qrx) (tH.length o) h3 h4 (tH.one ((x.i,d2 x.f x.g))) (fun r=>?_);refine A5 ?_;refine dP ?_;exact Nl ⟨⟨i+1,o++[(x.i,d2 x.f x.g)],some r.g,r.n,r.cap⟩,hlt,by show o++[(x.i,d2 x.f x.g)]=((gZ Dj EM a b).take (i+1)).map (fun z:B3=>(z.i,d2 z.f z.g));rw[<-fO hx,List.map_append,<-hI];rfl,jB,r.hn⟩ (hμ:=(by show(gZ Dj EM a b).length-(i+1)<(gZ Dj EM a b).length-i;omega)) (ht:=⟨(aQ rfl jO),rfl,rfl,rfl,trivial⟩) (hL:=(az [some 0,some 1] ⟨pR,⟨_,rfl,bg kz⟩,trivial⟩ rfl rfl))
 ·have hge:i=(gZ Dj EM a b).length:=iK;subst hge;obtain rfl:o=ag a b:=by rw[hI,List.take_length];exact GK a b
  exact VU
def EG(a:List PU)(ab:Option Nat)(aN ac:Nat)(hac:a.length<=ac)(han:a.length<=400)(b:List PU)(bb:Option Nat)(bN bc:Nat)(hbc:b.length<=bc)(hbn:b.length<=400)(hsa:GX a)(hsb:GX b)(ea:qcz a)(eb:qcz b):cZ Tryz.prog 14 [⟨ab,100,aj aP a,aN,false⟩,⟨bb,100,aj aP b,bN,false⟩] [aA ab 0 a.length ac,aA bb 0 b.length bc] (SR ((ag a b).map ay).length) (fun z=> .tuple #[BD z.v (fH ((ag a b).map ay)),.int .i64 (if((ag a b).map ay).length=0 then 36 else 0)]) (fun z=>[⟨z.b,63,aj aZ ((ag a b).map ay),z.n,true⟩]):=by
 refine⟨ak,fun w hL0=>?_⟩;have hpl:=uD a b;refine cB2 38 Tryz.func14 hL0 ?_;refine A2 ?_;refine Al 10 vV (fun g0=>?_);refine A5 ?_;refine Al 10 vV (fun g1=>?_);refine A7 ?_;refine(Sc [0,1]) (oU a ab aN ac hac ae b bb bN bc hbc ae hsa hsb) (fun zr=>?_);obtain⟨rb,rN,rc,hrc⟩:=zr;refine A5 ?_;refine El (ι:={z:Nat×List lM×Option Nat×Nat×Nat // z.1<=(ag a b).length∧z.2.1=((ag a b).take z.1).map ay∧z.2.1.length<=z.2.2.2.2∧z.2.2.2.2*38<=z.2.2.2.1}) (fun⟨⟨i,o,ob,oN,oc⟩,hi,hI,h3,h4⟩=>([(4,bf g0),(5,.int .i64 0),(6,bf g1),(11,aA rb 0 (ag a b).length rc),(12,bH ((ag a b).length)),(13,bH i)],[⟨rb,93,aj Ep (ag a b),rN,true⟩,⟨some g0,40,iY,10,true⟩,⟨some g1,40,iE (aA ob 0 o.length oc) (rl 0),10,true⟩,⟨ob,63,aj aZ o,oN,true⟩],(ag a b).length-i)) ⟨⟨0,[],none,0,0⟩,Nat.zero_le _,rfl,Nat.le_refl _,bz⟩ ?_ (hL:=(az [some 4,some 2,some 3,none] ⟨pR,pR,⟨_,rfl,bg (by rw[qgB];rfl)⟩,⟨rfl,rfl,rfl⟩,trivial⟩ rfl rfl));rintro⟨⟨i,o,ob,oN,oc⟩,hi,hI,h3,h4⟩;(try dsimp only);replace hi:i<=(ag a b).length:=hi;replace hI:o=((ag a b).take i).map ay:=hI;replace h3:o.length<=oc:=h3;replace h4:oc*38<=oN:=h4
 have hol:o.length<=100000:=Yv;refine A6 ?_;refine Cd ?_ ?_<;>intro haQ
 ·have hlt:i<(ag a b).length:=iH;obtain⟨x,hx⟩:∃x,(ag a b)[i]? =some x:=⟨_,List.getElem?_eq_getElem hlt⟩;have hxs:=yH hsa hsb x (List.mem_of_getElem? hx);have hxi:=Qs ea eb x (List.mem_of_getElem? hx);refine Yu ?_;refine Al 32 z93 (fun g2=>?_);refine Ss 4 ?_;refine A2 ?_;refine qU (l':=[⟨_,_,_,_,_,_⟩,⟨_,_,_,_,_,_⟩,⟨_,_,_,_,_,_⟩,⟨_,_,_,_,_,_⟩]) [2000000] [2,3,4,5] [0,1,6,7,8,9,10] mixed ak rfl ?_;refine A1 ?_;refine yK 4 0 ?_;refine A1 ?_;refine vZ 4 20 ?_;refine A1 ?_;refine bW [0,6] ak ⟨⟨_,rfl,?_⟩,⟨_,rfl,?_⟩,trivial⟩
  ·refine A2 ?_;refine bW [1,6] ak ⟨⟨_,rfl,?_⟩,⟨_,rfl,?_⟩,trivial⟩
   ·refine A2 ?_;refine bW [6] ak ⟨⟨_,rfl,?_⟩,trivial⟩
    ·refine Pc (jF x.1 x.2 Yw Yx) ?_;refine A1 ?_;exact qlX
   ·refine Pc (jF x.1 x.2 Yw Yx) ?_;refine A1 ?_;exact qlW
  ·refine Pc (jF x.1 x.2 Yw Yx) ?_;refine A1 ?_;refine bW [0,7] ak ⟨⟨_,rfl,?_⟩,⟨_,rfl,?_⟩,trivial⟩
   ·refine A2 ?_;exact qlW
   ·refine(Bl 38 [(0,_)]) (nY) (fun g3=>?_);refine A1 ?_;refine bW [0] ak ⟨⟨_,rfl,?_⟩,trivial⟩
    ·refine A2 ?_;exact qlY
 ·have hge:i=(ag a b).length:=iK;subst hge;obtain rfl:o=(ag a b).map ay:=Bv
  refine EK ?_;refine Cd ?_ ?_<;>intro hbQ
  ·have hz:((ag a b).map ay).length=0:=by have e:=hbQ;simp at e ⊢;omega
   refine A2 ?_;refine XM 2 0 ?_;refine Ss 1 ?_;refine A5 ?_;refine bM rfl (bF 1 rfl rfl qpr (vs:=[_,_,_,_,_,_,_,_,_,_]) rfl rfl (Nat.le_of_ble_eq_true rfl) rfl) (au rfl) (fun w hL=>⟨⟨ob,oN,oc,h3⟩,?_,hL.pk [some 3]⟩);rw[if_pos hz,show fH ((ag a b).map ay)=rl 0 from by rw[List.length_eq_zero_iff.1 hz];rfl];exact rfl
  ·have hz:((ag a b).map ay).length≠0:=by have e:=hbQ;simp at e ⊢;omega
   refine A6 ?_;refine(Sd [3]) (qO ((ag a b).map ay) ob oN oc h3 (by rw[List.length_map];omega) (Qu hsa hsb)) ?_;refine A1 ?_;refine Ss 2 ?_;refine A4 ?_;refine XM 2 0 ?_;refine Ss 1 ?_;refine A4 ?_;refine bM rfl (bF 1 rfl rfl qpr (vs:=[_,_,_,_,_,_,_,_,_,_]) rfl rfl (Nat.le_of_ble_eq_true rfl) rfl) (au rfl) (fun w hL=>⟨⟨ob,oN,oc,h3⟩,?_,hL.pk [some 3]⟩);rw[if_neg hz];exact rfl
def OL(ta xa ya tb xb yb ch:Nat)(a b:List sW)(ab bb:Option Nat)(pa pb:List Value)(ac bc:Nat):aJ Tryz.prog 12 #[.agg #[.int .u8 (ta:Nat),.int .u8 (xa:Nat),.int .u8 (ya:Nat),aA ab pa.length a.length ac,.int .u8 (tb:Nat),.int .u8 (xb:Nat),.int .u8 (yb:Nat),aA bb pb.length b.length bc,.int .u8 (ch:Nat)]] (.bool (decide (a.length<=6)&&decide (b.length<=6))):=by
 refine wQ 15 Tryz.func12 fun w=>?_;refine nC fun g0=>?_;refine qC ?_;refine Rs 8 ?_ ?_<;>intro haQ
 ·have hs1:a.length<=6:=by have e:=of_decide_eq_true haQ;omega
  refine lW ?_;refine E0 ?_;exact congrArg (fun z=>Ending.returned (.bool z)) (by rw[decide_eq_true hs1,Bool.true_and];exact decide_eq_decide.2 ae)
 ·have hs1:¬a.length<=6:=Yy
  refine lW ?_;refine E0 ?_;exact congrArg (fun z=>Ending.returned (.bool z)) (by rw[decide_eq_false hs1];rfl)
def Tj(ia ib ic id:Nat)(s:Bool)(hia:ia<256:=by omega)(hib:ib<256:=by omega)(hic:ic<256:=by omega)(hid:id<256:=by omega):aJ Tryz.prog 19 #[.agg #[.int .u8 (ia:Nat),.int .u8 (ib:Nat),.int .u8 (ic:Nat),.int .u8 (id:Nat),.bool s]] (RV (bn ia ib ic id s)):=by
 refine wQ 5 Tryz.func19 fun w=>?_;refine A2 ?_;refine Bp 5 (fun g0=>?_);refine Al 9 II (fun g1=>?_);refine A4 ?_;refine Ld 0 0 [_,_,_,_,_] qps ?_;refine Pc (Jy ia ib ic id s hia hib hic hid) ?_;refine Ss 1 ?_;refine A3 ?_;refine TM 1 ?_;exact rfl
end Go.Proofs.YtaffcpfhedadhaaGreatDoor
