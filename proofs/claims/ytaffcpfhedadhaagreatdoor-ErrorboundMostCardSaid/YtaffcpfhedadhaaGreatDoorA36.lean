/-
  Part 36 (chapter 32): lemmas, walks. Each theorem states its own conditions.
-/
import Derived.Lib.Repeat
import Derived.Lib.SliceRun
import Derived.Test.YtaffcpfhedadhaaGreatDoorA34
set_option linter.all false
set_option maxRecDepth 20000
set_option maxHeartbeats 20000000
section
variable{P Q:Prop}{T:Type}{R:T->Prop}
def qpQ(h:P:=by
 refine bU [8] ak ⟨⟨_,rfl,?_⟩,trivial⟩
 ·exact qrV):=h
def qrV(h:P:=by
 refine(Qa (s:=38) (len:=o.length) (n2:=1) 3 5 (fun r=>[_,_,_,⟨some r.g,63,ai aQ o++aQ (aC x),r.n,true⟩,_,_]) u32 V6) (dS.length o) h3 h4 (dS.one (aC x)) (fun r=>?_);refine A1 ?_;refine bU [9] ak ⟨⟨_,rfl,?_⟩,trivial⟩
 ·exact qpR):=h
def qpR(h:P:=by
 refine A2 ?_;refine bU [10] ak ⟨⟨_,rfl,?_⟩,trivial⟩
 ·refine Ss 2 ?_;refine A1 ?_;refine GN rfl ?_;refine A3 ?_;refine dP ?_;exact Nl ⟨⟨i+1,o++[aC x],some r.g,r.n,r.cap⟩,hlt,by show o++[aC x]=((aj a b).take (i+1)).map aC;rw[<-fJ hx,List.map_append,<-hI];rfl,lq,r.hn⟩ (hμ:=(by show(aj a b).length-(i+1)<(aj a b).length-i;omega)) (hL:=(aA [some 0,some 1,some 2,some 3] ⟨pR,pR,⟨_,rfl,bn lT⟩,⟨_,rfl,bn lU⟩,trivial⟩ rfl rfl))):=h
def qlt(h:P:=by
 refine bU [1,7] ak ⟨⟨_,rfl,?_⟩,⟨_,rfl,?_⟩,trivial⟩
 ·refine A2 ?_;exact qlu
 ·refine(Bl 38 [(0,_)]) (qM) (fun g3=>?_);refine A1 ?_;exact qlv):=h
def qlu(h:P:=by
 refine bU [7] ak ⟨⟨_,rfl,?_⟩,trivial⟩
 ·refine(Bl 38 [(0,_)]) (qM) (fun g3=>?_);refine A1 ?_;exact qpQ):=h
def qlv(h:P:=by
 refine bU [1] ak ⟨⟨_,rfl,?_⟩,trivial⟩
 ·refine A2 ?_;exact qpQ):=h
def qgC(h:P:=by
 refine A1 ?_;refine IX 4 ?_
 ·exact qpS):=h
def qgD(h:P:=by
 refine A1 ?_;refine IX 5 ?_
 ·exact qpT):=h
def qpS(h:P:=by
 
 refine So 3 0 [_,_,_,⟨some g1,38,_,9,true⟩,_,_] [_,_,_,_,_,_,_,_,_] ?_;refine A1 ?_;refine IX 5 ?_
 ·
  refine A2 ?_;refine IX 6 ?_
  ·
   refine A2 ?_;refine Qz ak ?_;refine A3 ?_;refine Zb rfl (bz 2 rfl rfl dZ (vs:=[_,_,_,_,_,_,_,_,_]) rfl rfl (Nat.le_of_ble_eq_true rfl) rfl) (bz 3 rfl rfl dZ (vs:=[_,_,_,_,_,_,_,_,_]) rfl rfl (Nat.le_of_ble_eq_true rfl) rfl) (au rfl) (au rfl) (fun w hL=>⟨(),?_,hL.pk []⟩);rw[ZO hz,if_pos hz];dsimp only;rw[CJ]):=h
def qpT(h:P:=by
 
 refine So 1 0 [_,⟨some g1,38,_,9,true⟩,_,_,_] [_,_,_,_,_,_,_,_,_] ?_;refine A1 ?_;refine IX 6 ?_
 ·
  refine A2 ?_;refine IX 7 ?_
  ·
   refine A2 ?_;refine Qz ak ?_;refine A2 ?_;refine Zb rfl (bz 0 rfl rfl dZ (vs:=[_,_,_,_,_,_,_,_,_]) rfl rfl (Nat.le_of_ble_eq_true rfl) rfl) (bz 1 rfl rfl dZ (vs:=[_,_,_,_,_,_,_,_,_]) rfl rfl (Nat.le_of_ble_eq_true rfl) rfl) (au rfl) (au rfl) (fun w hL=>⟨(),?_,hL.pk []⟩);rw[F7 hz,<-hI1,<-hI2];rfl):=h
def XR(q:Q)(h:bu Q->P:=by intro q_;refine A6 ?_;refine aI 0 ((i)*32) u88 TS rfl rfl rfl rfl rfl ae ae (o6.ne ax ae) RY ?_;refine aG (v:=PtV x) 0 ((i)*32) _ rfl rfl rfl rfl TS (o6.sub hx 0 32 ax) rfl ax rfl ?_;exact q_.qq):=h ⟨q⟩
def XU(h:P:=by rw[hI,List.length_map,List.length_take];omega):=h
def XV(h:P:=by rw[qf4 hxi.1];exact Rat.le_refl):=h
def XW(h:P:=by rw[qf4 hxi.2];exact Rat.le_refl):=h
def RY(h:P:=by show 0+Int.toNat _*32=_;omega):=h
def Et(h:P:=by rw[gz hpx,<-hI1];exact hst):=h
def BB(h:P:=by show(aj a b).length-(k+1)<(aj a b).length-k;omega):=h
end
namespace Go.Proofs.YtaffcpfhedadhaaGreatDoor
open Go Go.RowKit Go.Via
def lu(a:List PU)(ab:Option Nat)(aN ac:Nat)(hac:a.length<=ac)(han:a.length<=1000)(b:List PU)(bb:Option Nat)(bN bc:Nat)(hbc:b.length<=bc)(hbn:b.length<=1000)(hsa:DC a)(hsb:DC b):bZ Tryz.prog 41 [⟨ab,100,ai aB a,aN,false⟩,⟨bb,100,ai aB b,bN,false⟩] [ay ab 0 a.length ac,ay bb 0 b.length bc] (SR (aj a b).length) SR.v (fun z=>[⟨z.b,93,ai uh (aj a b),z.n,true⟩]):=by
 refine⟨ak,fun w hL0=>?_⟩;have hrl:=Gi (mt:=CV) (ef:=Ez) a b;refine cB2 55 Tryz.func41 hL0 ?_;refine Ew ?_;refine(Sc [0]) (vG a ab aN ac hac han) (fun za=>?_);obtain⟨zab,zaN,zac,hzac⟩:=za;refine A1 ?_;refine(Sc [1]) (vG b bb bN bc hbc hbn) (fun zb=>?_);obtain⟨zbb,zbN,zbc,hzbc⟩:=zb;refine(Sc [2,3]) (Jd a zab zaN zac hzac han b zbb zbN zbc hzbc hbn hsa.v hsb.v) (fun zr=>?_);obtain⟨rb,rN,rc,hrc⟩:=zr;refine A5 ?_;refine El (ι:={z:Nat×List (Iv×Qd)×Option Nat×Nat×Nat // z.1<=(iw CV Ez a b).length∧z.2.1=((iw CV Ez a b).take z.1).map (fun z:B3=>(z.i,d2 z.f z.g))∧z.2.1.length<=z.2.2.2.2∧z.2.2.2.2*32<=z.2.2.2.1}) (fun⟨⟨i,o,ob,oN,oc⟩,hi,hI,h3,h4⟩=>([(5,ay ob 0 o.length oc),(13,ay rb 0 (iw CV Ez a b).length rc),(14,bG ((iw CV Ez a b).length)),(15,bG i)],[⟨rb,151,ai Xa (iw CV Ez a b),rN,true⟩,⟨ob,93,ai uh o,oN,true⟩],(iw CV Ez a b).length-i)) ⟨⟨0,[],none,0,0⟩,Nat.zero_le _,rfl,Nat.le_refl _,bI⟩ ?_ (hL:=(aA [some 4,none] ⟨pR,⟨rfl,rfl,rfl⟩,trivial⟩ rfl rfl));rintro⟨⟨i,o,ob,oN,oc⟩,hi,hI,h3,h4⟩;(try dsimp only);replace hi:i<=(iw CV Ez a b).length:=hi;replace hI:o=((iw CV Ez a b).take i).map (fun z:B3=>(z.i,d2 z.f z.g)):=hI;replace h3:o.length<=oc:=h3;replace h4:oc*32<=oN:=h4
 have hol:o.length<=100000:=XU;refine A6 ?_;refine Cd ?_ ?_<;>intro haQ
 ·have hlt:i<(iw CV Ez a b).length:=iL;obtain⟨x,hx⟩:∃x,(iw CV Ez a b)[i]? =some x:=⟨_,List.getElem?_eq_getElem hlt⟩;have hxs:=qln hsa hsb x (List.mem_of_getElem? hx);have f0:=Nat.le_trans (rD x.f) hxs.2.1;have f1:=Nat.le_trans (rE x.f) hxs.2.1;have f2:=Nat.le_trans (rF x.f) hxs.2.1;have f3:=Nat.le_trans (rG x.f) hxs.2.1;have g0:=Nat.le_trans (rD x.g) hxs.2.2;have g1:=Nat.le_trans (rE x.g) hxs.2.2;have g2:=Nat.le_trans (rF x.g) hxs.2.2;have g3:=Nat.le_trans (rG x.g) hxs.2.2;have s0:=iq x.f.x0 x.g.x0;have s1:=iq x.f.x1 x.g.x1;have s2:=iq x.f.y0 x.g.y0;have s3:=iq x.f.y1 x.g.y1;refine A6 ?_;refine aI 0 ((i)*52) qoW qkr rfl rfl rfl rfl rfl ae ae (QY.ne ax ae) (by show 0+Int.toNat _*52=_;omega) ?_;refine aG (v:=B3V x) 0 ((i)*52) _ rfl rfl rfl rfl qkr (QY.sub hx 0 52 ax) rfl ax rfl ?_;refine Al 52 qqX (fun g0=>?_);refine eG ?_;refine GU (l':=[⟨_,_,_,_,_,_⟩,⟨_,_,_,_,_,_⟩,⟨_,_,_,_,_,_⟩,⟨_,_,_,_,_,_⟩,⟨_,_,_,_,_,_⟩,⟨_,_,_,_,_,_⟩,⟨_,_,_,_,_,_⟩,⟨_,_,_,_,_,_⟩,⟨_,_,_,_,_,_⟩,⟨_,_,_,_,_,_⟩,⟨_,_,_,_,_,_⟩,⟨_,_,_,_,_,_⟩,⟨_,_,_,_,_,_⟩,⟨_,_,_,_,_,_⟩,⟨_,_,_,_,_,_⟩,⟨_,_,_,_,_,_⟩,⟨_,_,_,_,_,_⟩,⟨_,_,_,_,_,_⟩,⟨_,_,_,_,_,_⟩,⟨_,_,_,_,_,_⟩,⟨_,_,_,_,_,_⟩,⟨_,_,_,_,_,_⟩,⟨_,_,_,_,_,_⟩,⟨_,_,_,_,_,_⟩,⟨_,_,_,_,_,_⟩,⟨_,_,_,_,_,_⟩,⟨_,_,_,_,_,_⟩,⟨_,_,_,_,_,_⟩,⟨_,_,_,_,_,_⟩]) [3000000] [0,1,2,3,4,5,6,7,8,9,10,11,13,14,15,16,17,18,19,20,21,22,23,24,12,25,26,27,28] mixed (YS [0,1,3,0,8,24,0,64,192,0,512,1536,4095,0,8192,24576,0,65536,196608,0,524288,1572864,0,4194304,12582912,33554431,67108863,0,268435455] ak) rfl ?_;refine A2 ?_;refine L4 2 20 ?_;refine A2 ?_;refine L4 2 24 ?_;refine A2 ?_;refine L4 2 36 ?_;refine A2 ?_;refine L4 2 40 ?_;refine A2 ?_;refine L4 2 28 ?_;refine A2 ?_;refine L4 2 32 ?_;refine A2 ?_;refine L4 2 44 ?_;refine A2 ?_;refine L4 2 48 ?_;refine Pc (tC x.f.x0 x.f.x1 x.g.x0 x.g.x1) ?_;refine Pc (tC x.f.y0 x.f.y1 x.g.y0 x.g.y1) ?_;refine Pc (I8 (sqL (x.f.x0-x.g.x0) (x.f.x1-x.g.x1)) (sqL (x.f.y0-x.g.y0) (x.f.y1-x.g.y1)) (Nat.le_trans (ZY (n:=300) ae ae) ae) (Nat.le_trans (ZY (n:=300) ae ae) ae)) ?_;refine aF 45 (qp (d2 x.f x.g)) rfl (congrArg qp (qnI _ _)) ?_;refine Al 12 Ij (fun g1=>?_);refine Ss 3 ?_;refine A5 ?_;refine yz 2 0 ?_;refine vU 3 0 ?_;refine(Bu [(0,_),(1,_)]) (qmp) ?_;refine(Bl 32 [(0,_)]) (qmu) (fun g2=>?_);refine(Qa (s:=32) (len:=o.length) (n2:=1) 1 4 (fun r=>[_,⟨some r.g,93,ai uh o++uh ((x.i,d2 x.f x.g)),r.n,true⟩,_,_,_]) u88 qq3) (o6.length o) h3 h4 (o6.one ((x.i,d2 x.f x.g))) (fun r=>?_);refine A5 ?_;refine dP ?_;exact Nl ⟨⟨i+1,o++[(x.i,d2 x.f x.g)],some r.g,r.n,r.cap⟩,hlt,by show o++[(x.i,d2 x.f x.g)]=((iw CV Ez a b).take (i+1)).map (fun z:B3=>(z.i,d2 z.f z.g));rw[<-fJ hx,List.map_append,<-hI];rfl,lq,r.hn⟩ (hμ:=(by show(iw CV Ez a b).length-(i+1)<(iw CV Ez a b).length-i;omega)) (ht:=⟨(aU rfl lT),rfl,rfl,rfl,trivial⟩) (hL:=(aA [some 0,some 1] ⟨pR,⟨_,rfl,bn lU⟩,trivial⟩ rfl rfl))
 ·have hge:i=(iw CV Ez a b).length:=jc;subst hge;obtain rfl:o=aj a b:=by rw[hI,List.take_length];exact Gj a b
  exact Me
def vM(a:List PU)(ab:Option Nat)(aN ac:Nat)(hac:a.length<=ac)(han:a.length<=400)(b:List PU)(bb:Option Nat)(bN bc:Nat)(hbc:b.length<=bc)(hbn:b.length<=400)(hsa:DC a)(hsb:DC b)(ea:Vt a)(eb:Vt b):bZ Tryz.prog 14 [⟨ab,100,ai aB a,aN,false⟩,⟨bb,100,ai aB b,bN,false⟩] [ay ab 0 a.length ac,ay bb 0 b.length bc] (SR ((aj a b).map aC).length) (fun z=> .tuple #[CfV z.v (bJ ((aj a b).map aC)),.int .i64 (if((aj a b).map aC).length=0 then 36 else 0)]) (fun z=>[⟨z.b,63,ai aQ ((aj a b).map aC),z.n,true⟩]):=by
 refine⟨ak,fun w hL0=>?_⟩;have hpl:=qU a b;refine cB2 38 Tryz.func14 hL0 ?_;refine A2 ?_;refine Al 10 z40 (fun g0=>?_);refine A5 ?_;refine Al 10 z40 (fun g1=>?_);refine A7 ?_;refine(Sc [0,1]) (lu a ab aN ac hac ae b bb bN bc hbc ae hsa hsb) (fun zr=>?_);obtain⟨rb,rN,rc,hrc⟩:=zr;refine A5 ?_;refine El (ι:={z:Nat×List ny×Option Nat×Nat×Nat // z.1<=(aj a b).length∧z.2.1=((aj a b).take z.1).map aC∧z.2.1.length<=z.2.2.2.2∧z.2.2.2.2*38<=z.2.2.2.1}) (fun⟨⟨i,o,ob,oN,oc⟩,hi,hI,h3,h4⟩=>([(4,dJ g0),(5,.int .i64 0),(6,dJ g1),(11,ay rb 0 (aj a b).length rc),(12,bG ((aj a b).length)),(13,bG i)],[⟨rb,93,ai uh (aj a b),rN,true⟩,⟨some g0,40,RJ,10,true⟩,⟨some g1,40,iH (ay ob 0 o.length oc) (rl 0),10,true⟩,⟨ob,63,ai aQ o,oN,true⟩],(aj a b).length-i)) ⟨⟨0,[],none,0,0⟩,Nat.zero_le _,rfl,Nat.le_refl _,bI⟩ ?_ (hL:=(aA [some 4,some 2,some 3,none] ⟨pR,pR,⟨_,rfl,bn (by rw[qf5];rfl)⟩,⟨rfl,rfl,rfl⟩,trivial⟩ rfl rfl));rintro⟨⟨i,o,ob,oN,oc⟩,hi,hI,h3,h4⟩;(try dsimp only);replace hi:i<=(aj a b).length:=hi;replace hI:o=((aj a b).take i).map aC:=hI;replace h3:o.length<=oc:=h3;replace h4:oc*38<=oN:=h4
 have hol:o.length<=100000:=XU;refine A6 ?_;refine Cd ?_ ?_<;>intro haQ
 ·have hlt:i<(aj a b).length:=iL;obtain⟨x,hx⟩:∃x,(aj a b)[i]? =some x:=⟨_,List.getElem?_eq_getElem hlt⟩;have hxs:=vJ hsa hsb x (List.mem_of_getElem? hx);have hxi:=PT ea eb x (List.mem_of_getElem? hx);refine XR ?_;refine Al 32 z93 (fun g2=>?_);refine Ss 4 ?_;refine A2 ?_;refine qK (l':=[⟨_,_,_,_,_,_⟩,⟨_,_,_,_,_,_⟩,⟨_,_,_,_,_,_⟩,⟨_,_,_,_,_,_⟩]) [2000000] [2,3,4,5] [0,1,6,7,8,9,10] mixed ak rfl ?_;refine A1 ?_;refine yz 4 0 ?_;refine A1 ?_;refine vU 4 20 ?_;refine A1 ?_;refine bU [0,6] ak ⟨⟨_,rfl,?_⟩,⟨_,rfl,?_⟩,trivial⟩
  ·refine A2 ?_;refine bU [1,6] ak ⟨⟨_,rfl,?_⟩,⟨_,rfl,?_⟩,trivial⟩
   ·refine A2 ?_;refine bU [6] ak ⟨⟨_,rfl,?_⟩,trivial⟩
    ·refine Pc (jI x.1 x.2 XV XW) ?_;refine A1 ?_;exact qlu
   ·refine Pc (jI x.1 x.2 XV XW) ?_;refine A1 ?_;exact qlt
  ·refine Pc (jI x.1 x.2 XV XW) ?_;refine A1 ?_;refine bU [0,7] ak ⟨⟨_,rfl,?_⟩,⟨_,rfl,?_⟩,trivial⟩
   ·refine A2 ?_;exact qlt
   ·refine(Bl 38 [(0,_)]) (qM) (fun g3=>?_);refine A1 ?_;refine bU [0] ak ⟨⟨_,rfl,?_⟩,trivial⟩
    ·refine A2 ?_;exact qlv
 ·have hge:i=(aj a b).length:=jc;subst hge;obtain rfl:o=(aj a b).map aC:=Bc
  refine Ew ?_;refine Cd ?_ ?_<;>intro hbQ
  ·have hz:((aj a b).map aC).length=0:=by have e:=hbQ;simp at e ⊢;omega
   refine A2 ?_;refine L10 2 0 ?_;refine Ss 1 ?_;refine A5 ?_;refine bM rfl (bz 1 rfl rfl qmj (vs:=[_,_,_,_,_,_,_,_,_,_]) rfl rfl (Nat.le_of_ble_eq_true rfl) rfl) (au rfl) (fun w hL=>⟨⟨ob,oN,oc,h3⟩,?_,hL.pk [some 3]⟩);rw[if_pos hz,show bJ ((aj a b).map aC)=rl 0 from by rw[List.length_eq_zero_iff.1 hz];rfl];exact rfl
  ·have hz:((aj a b).map aC).length≠0:=by have e:=hbQ;simp at e ⊢;omega
   refine A6 ?_;refine(Sd [3]) (qG ((aj a b).map aC) ob oN oc h3 (by rw[List.length_map];omega) (PV hsa hsb)) ?_;refine A1 ?_;refine Ss 2 ?_;refine A4 ?_;refine L10 2 0 ?_;refine Ss 1 ?_;refine A4 ?_;refine bM rfl (bz 1 rfl rfl qmj (vs:=[_,_,_,_,_,_,_,_,_,_]) rfl rfl (Nat.le_of_ble_eq_true rfl) rfl) (au rfl) (fun w hL=>⟨⟨ob,oN,oc,h3⟩,?_,hL.pk [some 3]⟩);rw[if_neg hz];exact rfl
def Gn(a:List PU)(ab:Option Nat)(aN ac:Nat)(hac:a.length<=ac)(han:a.length<=400)(b:List PU)(bb:Option Nat)(bN bc:Nat)(hbc:b.length<=bc)(hbn:b.length<=400)(hsa:DC a)(hsb:DC b)(ea:Vt a)(eb:Vt b):bZ Tryz.prog 29 [⟨ab,100,ai aB a,aN,false⟩,⟨bb,100,ai aB b,bN,false⟩] [ay ab 0 a.length ac,ay bb 0 b.length bc] Unit (fun _=> .tuple #[RV (iO a b).1,RV (iO a b).2.1,.bool (iO a b).2.2.1,.int .i64 (iO a b).2.2.2]) (fun _=>[]):=by
 refine⟨ak,fun w hL0=>?_⟩;have hpl:=qU a b;refine cB2 100 Tryz.func29 hL0 ?_;refine A2 ?_;refine oQ [_,_,_,_,_,_,_,_,_] 9 (fun g=>[_,_,⟨some g,38,_,9,true⟩]) rfl rfl Jq rfl rfl (fun _=>rfl) (fun g0=>?_);refine oQ [_,_,_,_,_,_,_,_,_] 9 (fun g=>[_,_,_,⟨some g,38,_,9,true⟩]) rfl rfl Jq rfl rfl (fun _=>rfl) (fun g1=>?_);refine A8 ?_;refine fQ [_,_] [0,1] rfl rfl rfl (vM a ab aN ac hac han b bb bN bc hbc hbn hsa hsb ea eb) ⟨⟨_,rfl,aJ.le_refl _⟩,⟨_,rfl,aJ.le_refl _⟩,trivial⟩ rfl (.inr fun x b hb=>sZ) (fun z=>?_);obtain⟨cb,cN,cc,hcc⟩:=z;refine A3 ?_;refine oQ [_,_,_,_,_,_,_,_,_,_] 10 (fun g=>[_,_,_,_,_,⟨some g,40,_,10,true⟩]) rfl rfl z40 rfl rfl (fun _=>rfl) (fun g2=>?_);refine So 5 0 [_,_,_,_,_,⟨some g2,40,_,10,true⟩] [_,_,_,_,_,_,_,_,_,_] ?_;refine lD ?_;refine gQ rfl (fun hb0=>?_) (fun hb0=>?_)
 ·
  have hz:((aj a b).map aC).length=0:=Classical.byContradiction fun e=>by rw[if_neg e] at hb0;exact absurd hb0 ax
  refine A1 ?_;refine OE (l':=[⟨_,_,_,_,_,_⟩]) [2] 6 mixed ak rfl ?_;refine A2 ?_;refine Tn2 0 1 ?_ ?_
  ·
   refine aG 2 0 [_,_,_,_,_,_,_,_,_] rfl rfl rfl rfl dZ rfl rfl rfl rfl ?_;refine A1 ?_;refine Tn2 1 3 ?_ ?_
   ·
    refine aG 3 0 [_,_,_,_,_,_,_,_,_] rfl rfl rfl rfl dZ rfl rfl rfl rfl ?_;refine A1 ?_;refine IX 3 ?_
    ·
     refine So 2 0 [_,_,⟨some g0,38,_,9,true⟩,_,_,_] [_,_,_,_,_,_,_,_,_] ?_;exact qgC
   ·
    refine So 2 0 [_,_,⟨some g0,38,_,9,true⟩,_,_,_] [_,_,_,_,_,_,_,_,_] ?_;refine A1 ?_;refine IX 1 ?_
    ·
     refine aG 3 0 [_,_,_,_,_,_,_,_,_] rfl rfl rfl rfl dZ rfl rfl rfl rfl ?_;exact qgC
  ·
   refine aG 3 0 [_,_,_,_,_,_,_,_,_] rfl rfl rfl rfl dZ rfl rfl rfl rfl ?_;refine A1 ?_;refine IX 0 ?_
   ·
    refine aG 2 0 [_,_,_,_,_,_,_,_,_] rfl rfl rfl rfl dZ rfl rfl rfl rfl ?_;refine A1 ?_;refine IX 3 ?_
    ·
     refine So 2 0 [_,_,⟨some g0,38,_,9,true⟩,_,_,_] [_,_,_,_,_,_,_,_,_] ?_;exact qgC
 ·
  have hz:¬((aj a b).map aC).length=0:=fun e=>by rw[if_pos e] at hb0;exact absurd hb0 ax
  have he0:(if((aj a b).map aC).length=0 then(36:Int) else 0)=0:=if_neg hz;have hpl2:((aj a b).map aC).length=(aj a b).length:=List.length_map _;refine A3 ?_;refine dC 7 (.int .i64 0) rfl (congrArg (Value.int .i64) he0) ?_;refine A9 ?_;refine fQ [_,_] [0,1] rfl rfl rfl (lu a ab aN ac hac ae b bb bN bc hbc ae hsa hsb) ⟨⟨_,rfl,aJ.le_refl _⟩,⟨_,rfl,aJ.le_refl _⟩,trivial⟩ rfl (.inr fun x b hb=>sZ) (fun z=>?_);obtain⟨rb,rN,rc,hrc⟩:=z;refine A5 ?_;refine El (ι:={z:Nat×(Bool×Rl)×Bool // z.1<=(aj a b).length∧z.2.1=(((aj a b).map aC).take z.1).foldl (LP (bJ ((aj a b).map aC))) (false,rl 0)∧z.2.2=((aj a b).take z.1).foldl (VJ (bJ ((aj a b).map aC))) false}) (fun⟨⟨k,⟨sf,w⟩,tk⟩,hk,hI1,hI2⟩=>([(4,.pointer (some ⟨g0,0,none⟩)),(5,.pointer (some ⟨g1,0,none⟩)),(6,.bool tk),(7,.int .i64 0),(8,.pointer (some ⟨g2,0,none⟩)),(9,.bool sf),(29,ay rb 0 (aj a b).length rc),(30,.int .i64 ((aj a b).length:Nat)),(31,.int .i64 (k:Nat))],[⟨some g0,38,zRc,9,true⟩,⟨some g1,38,je w,9,true⟩,⟨cb,63,ai aQ ((aj a b).map aC),cN,true⟩,⟨some g2,40,iH (ay cb 0 ((aj a b).map aC).length cc) (bJ ((aj a b).map aC)),10,true⟩,⟨rb,93,ai uh (aj a b),rN,true⟩],(aj a b).length-k)) ⟨⟨0,(false,rl 0),false⟩,Nat.zero_le _,rfl,rfl⟩ ?_ (hL:=(aA [some 2,some 3,some 4,some 5,some 6] ⟨⟨_,rfl,aJ.le_refl _⟩,⟨_,rfl,bn (by rw[XL];rfl)⟩,⟨_,rfl,aJ.le_refl _⟩,⟨_,rfl,aJ.le_refl _⟩,⟨_,rfl,aJ.le_refl _⟩,trivial⟩ rfl rfl));rintro⟨⟨k,⟨sf,w⟩,tk⟩,hk,hI1,hI2⟩;(try dsimp only);replace hk:k<=(aj a b).length:=hk;replace hI1:(sf,w)=(((aj a b).map aC).take k).foldl (LP (bJ ((aj a b).map aC))) (false,rl 0):=hI1;replace hI2:tk=((aj a b).take k).foldl (VJ (bJ ((aj a b).map aC))) false:=hI2;refine A6 ?_;refine gQ rfl (fun hb2=>?_) (fun hb2=>?_)
  ·
   have hlt:k<(aj a b).length:=(by have:=of_decide_eq_true hb2;omega)
   obtain⟨x,hx⟩:∃x,(aj a b)[k]? =some x:=⟨(aj a b)[k],List.getElem?_eq_getElem hlt⟩
   have hpx:((aj a b).map aC)[k]? =some (aC x):=by rw[List.getElem?_map,hx];rfl
   refine dL 4 rfl (o6.ne ax ae) (fun hbs=>?_);obtain⟨gr,hgr⟩:=Option.isSome_iff_exists.1 hbs;replace hgr:rb=some gr:=hgr;subst hgr;refine dL 2 rfl (dS.ne ax ae) (fun hbs=>?_);obtain⟨gc,hgc⟩:=Option.isSome_iff_exists.1 hbs;replace hgc:cb=some gc:=hgc;subst hgc;refine A7 ?_;refine aI 4 ((k)*32) u88 TS rfl rfl rfl rfl rfl ae ae (o6.ne ax ae) RY ?_;refine aG (v:=PtV x) 4 ((k)*32) _ rfl rfl rfl rfl TS (o6.sub hx 0 32 ax) rfl ax rfl ?_;refine oQ [_,_,_,_,_,_,_,_,_,_,_,_,_,_,_,_,_,_,_,_,_,_,_,_,_,_,_,_,_,_,_,_] 32 (fun g=>[_,_,_,_,_,⟨some g,93,_,32,true⟩]) rfl rfl z93 rfl rfl (fun _=>rfl) (fun g3=>?_);refine A1 ?_;refine So 5 0 [_,_,_,_,_,⟨some g3,93,_,32,true⟩] [_,_,_,_,_,_,_,_,_,_,_,_,_,_,_,_,_,_,_,_,_,_,_,_,_,_,_,_,_,_,_,_] ?_;refine A7 ?_;refine aI 2 ((k)*38) u32 Ag rfl rfl rfl rfl rfl ae ae (dS.ne ax ae) Bi ?_;refine aG (v:=Gy (aC x)) 2 ((k)*38) _ rfl rfl rfl rfl Ag (dS.sub hpx 0 38 ax) rfl ax rfl ?_;refine oQ [_,_,_,_,_,_,_,_,_,_,_,_,_,_,_,_,_,_,_,_,_,_,_,_,_,_,_,_,_,_,_,_,_,_,_,_,_,_] 38 (fun g=>[_,_,_,_,_,_,⟨some g,63,_,38,true⟩]) rfl rfl z63 rfl rfl (fun _=>rfl) (fun g4=>?_);refine So 6 0 [_,_,_,_,_,_,⟨some g4,63,_,38,true⟩] [_,_,_,_,_,_,_,_,_,_,_,_,_,_,_,_,_,_,_,_,_,_,_,_,_,_,_,_,_,_,_,_,_,_,_,_,_,_] ?_;refine A3 ?_;refine xX [2000000] mixed ak ak ?_;refine A1 ?_;refine aG 6 20 [_,_,_,_,_,_,_,_,_] rfl rfl rfl rfl dZ rfl rfl rfl rfl ?_;refine aF 42 (RV (aC x).a) rfl rfl ?_;refine A1 ?_;refine aG 3 1 [_,_,_,_,_,_,_,_,_] rfl rfl rfl rfl dZ rfl rfl rfl rfl ?_;refine aF 44 (RV (bJ ((aj a b).map aC))) rfl rfl ?_;refine jO ?_;refine A1 ?_;refine aG 6 29 [_,_,_,_,_,_,_,_,_] rfl rfl rfl rfl dZ rfl rfl rfl rfl ?_;refine aF 47 (RV (aC x).b) rfl rfl ?_;refine A1 ?_;refine aG 3 1 [_,_,_,_,_,_,_,_,_] rfl rfl rfl rfl dZ rfl rfl rfl rfl ?_;refine aF 49 (RV (bJ ((aj a b).map aC))) rfl rfl ?_;refine jO ?_;refine A4 ?_;refine lZ (nt:=100) (X:={z:Bool×Rl // z=LP (bJ ((aj a b).map aC)) (sf,w) (aC x)}) (fun⟨⟨f2,w2⟩,hst⟩=>[(4,.pointer (some ⟨g0,0,none⟩)),(5,.pointer (some ⟨g1,0,none⟩)),(6,.bool tk),(7,.int .i64 0),(8,.pointer (some ⟨g2,0,none⟩)),(9,.bool f2),(11,.pointer (some ⟨g3,0,none⟩)),(12,.pointer (some ⟨g4,0,none⟩)),(13,.bool (decide ((aC x).a=(bJ ((aj a b).map aC))))),(14,.bool (decide ((aC x).b=(bJ ((aj a b).map aC))))),(29,ay (some gr) 0 (aj a b).length rc),(30,.int .i64 ((aj a b).length:Nat)),(31,.int .i64 (k:Nat))]) (fun⟨⟨f2,w2⟩,hst⟩=>[⟨some g0,38,zRc,9,true⟩,⟨some g1,38,je w2,9,true⟩,⟨some gc,63,ai aQ ((aj a b).map aC),cN,true⟩,⟨some g2,40,iH (ay (some gc) 0 ((aj a b).map aC).length cc) (bJ ((aj a b).map aC)),10,true⟩,⟨some gr,93,ai uh (aj a b),rN,true⟩,⟨some g3,93,uh x,32,true⟩,⟨some g4,63,aQ (aC x),38,true⟩]) ?_ ?_
   ·
    refine A5 ?_;refine fB 53 rfl (fun hb3=>?_) (fun hb3=>?_)
    ·
     have hs:sf=false:=by simpa using hb3
     refine A2 ?_;refine fB 55 rfl (fun hb4=>?_) (fun hb4=>?_)
     ·
      have h13:(aC x).a=(bJ ((aj a b).map aC)):=of_decide_eq_true hb4;refine lD ?_;refine aG 6 9 [_,_,_,_,_,_,_,_,_] rfl rfl rfl rfl dZ rfl rfl rfl rfl ?_;refine So 1 0 [_,⟨some g1,38,_,9,true⟩,_,_,_,_,_] [_,_,_,_,_,_,_,_,_] ?_;refine A8 ?_;refine gQ rfl (fun hb5=>?_) (fun hb5=>?_)
      ·
       refine A3 ?_;refine aG 6 0 [_,_,_,_,_,_,_,_,_] rfl rfl rfl rfl dZ rfl rfl rfl rfl ?_;refine So 1 0 [_,⟨some g1,38,_,9,true⟩,_,_,_,_,_] [_,_,_,_,_,_,_,_,_] ?_;refine A2 ?_;exact iZ ⟨(true,x.1.f),qrI hs h13⟩ ⟨rfl,rfl,rfl,rfl,rfl,rfl,rfl,rfl,rfl,rfl,rfl,rfl,rfl,trivial⟩ (aT [some 0,some 1,some 2,some 3,some 4,some 5,some 6])
      ·exact absurd hb5 (by rw[decide_eq_true h13];decide)
     ·
      have h13:(aC x).a≠(bJ ((aj a b).map aC)):=of_decide_eq_false hb4;refine A5 ?_;refine gQ rfl (fun hb5=>?_) (fun hb5=>?_)
      ·
       have h14:(aC x).b=(bJ ((aj a b).map aC)):=of_decide_eq_true hb5;refine A4 ?_;refine aG 6 9 [_,_,_,_,_,_,_,_,_] rfl rfl rfl rfl dZ rfl rfl rfl rfl ?_;refine So 1 0 [_,⟨some g1,38,_,9,true⟩,_,_,_,_,_] [_,_,_,_,_,_,_,_,_] ?_;refine A8 ?_;refine gQ rfl (fun hb6=>?_) (fun hb6=>?_)
       ·exact absurd hb6 (by rw[decide_eq_false h13];decide)
       ·
        refine A2 ?_;exact iZ ⟨(true,x.1.t),qrJ hs h13 h14⟩ ⟨rfl,rfl,rfl,rfl,rfl,rfl,rfl,rfl,rfl,rfl,rfl,rfl,rfl,trivial⟩ (aT [some 0,some 1,some 2,some 3,some 4,some 5,some 6])
      ·
       have h14:(aC x).b≠(bJ ((aj a b).map aC)):=of_decide_eq_false hb5;refine A2 ?_;exact iZ ⟨(sf,w),qrK hs h13 h14⟩ ⟨rfl,rfl,rfl,rfl,rfl,rfl,rfl,rfl,rfl,rfl,rfl,rfl,rfl,trivial⟩ (aT [some 0,some 1,some 2,some 3,some 4,some 5,some 6])
    ·
     have hs:sf=true:=by simpa using hb3
     refine lD ?_;exact iZ ⟨(sf,w),qnE hs⟩ ⟨rfl,rfl,rfl,rfl,rfl,rfl,rfl,rfl,rfl,rfl,rfl,rfl,rfl,trivial⟩ (aT [some 0,some 1,some 2,some 3,some 4,some 5,some 6])
   rintro⟨⟨f2,w2⟩,hst⟩;show At _ ⟨100,[(4,.pointer (some ⟨g0,0,none⟩)),(5,.pointer (some ⟨g1,0,none⟩)),(6,.bool tk),(7,.int .i64 0),(8,.pointer (some ⟨g2,0,none⟩)),(9,.bool f2),(11,.pointer (some ⟨g3,0,none⟩)),(12,.pointer (some ⟨g4,0,none⟩)),(13,.bool (decide ((aC x).a=(bJ ((aj a b).map aC))))),(14,.bool (decide ((aC x).b=(bJ ((aj a b).map aC))))),(29,ay (some gr) 0 (aj a b).length rc),(30,.int .i64 ((aj a b).length:Nat)),(31,.int .i64 (k:Nat))],[⟨some g0,38,zRc,9,true⟩,⟨some g1,38,je w2,9,true⟩,⟨some gc,63,ai aQ ((aj a b).map aC),cN,true⟩,⟨some g2,40,iH (ay (some gc) 0 ((aj a b).map aC).length cc) (bJ ((aj a b).map aC)),10,true⟩,⟨some gr,93,ai uh (aj a b),rN,true⟩,⟨some g3,93,uh x,32,true⟩,⟨some g4,63,aQ (aC x),38,true⟩]⟩ _;refine lZ (nt:=100) (X:={c:Bool // c=(FU x.2&&decide ((aC x).a=(bJ ((aj a b).map aC))))}) (fun⟨c,hcx⟩=>[(4,.pointer (some ⟨g0,0,none⟩)),(5,.pointer (some ⟨g1,0,none⟩)),(6,.bool tk),(7,.int .i64 0),(8,.pointer (some ⟨g2,0,none⟩)),(9,.bool f2),(11,.pointer (some ⟨g3,0,none⟩)),(12,.pointer (some ⟨g4,0,none⟩)),(13,.bool (decide ((aC x).a=(bJ ((aj a b).map aC))))),(14,.bool (decide ((aC x).b=(bJ ((aj a b).map aC))))),(29,ay (some gr) 0 (aj a b).length rc),(30,.int .i64 ((aj a b).length:Nat)),(31,.int .i64 (k:Nat)),(15,.bool c)]) (fun⟨c,hcx⟩=>[⟨some g0,38,zRc,9,true⟩,⟨some g1,38,je w2,9,true⟩,⟨some gc,63,ai aQ ((aj a b).map aC),cN,true⟩,⟨some g2,40,iH (ay (some gc) 0 ((aj a b).map aC).length cc) (bJ ((aj a b).map aC)),10,true⟩,⟨some gr,93,ai uh (aj a b),rN,true⟩,⟨some g3,93,uh x,32,true⟩,⟨some g4,63,aQ (aC x),38,true⟩]) ?_ ?_
   ·
    refine A2 ?_;refine aG 5 20 [_,_,_,_,_,_,_,_,_,_,_,_] rfl rfl rfl rfl qdj rfl rfl rfl rfl ?_;refine aF 67 (qp x.2) rfl rfl ?_;refine Pc (o9 x.2) ?_;refine A1 ?_;refine aF 69 (.bool (FU x.2)) rfl (congrArg Value.bool (qld x.2)) ?_;refine A1 ?_;refine fB 70 rfl (fun hb4=>?_) (fun hb4=>?_)
    ·
     have hdg:FU x.2=true:=hb4;refine A5 ?_;exact iZ ⟨_,by rw[hdg,Bool.true_and]⟩ ⟨rfl,rfl,rfl,rfl,rfl,rfl,rfl,rfl,rfl,rfl,rfl,rfl,rfl,rfl,trivial⟩ (aT [some 0,some 1,some 2,some 3,some 4,some 5,some 6])
    ·
     have hdg:FU x.2=false:=hb4;refine A5 ?_;exact iZ ⟨false,by rw[hdg];rfl⟩ ⟨rfl,rfl,rfl,rfl,rfl,rfl,rfl,rfl,rfl,rfl,rfl,rfl,rfl,rfl,trivial⟩ (aT [some 0,some 1,some 2,some 3,some 4,some 5,some 6])
   rintro⟨c,hcx⟩;show At _ ⟨100,[(4,.pointer (some ⟨g0,0,none⟩)),(5,.pointer (some ⟨g1,0,none⟩)),(6,.bool tk),(7,.int .i64 0),(8,.pointer (some ⟨g2,0,none⟩)),(9,.bool f2),(11,.pointer (some ⟨g3,0,none⟩)),(12,.pointer (some ⟨g4,0,none⟩)),(13,.bool (decide ((aC x).a=(bJ ((aj a b).map aC))))),(14,.bool (decide ((aC x).b=(bJ ((aj a b).map aC))))),(29,ay (some gr) 0 (aj a b).length rc),(30,.int .i64 ((aj a b).length:Nat)),(31,.int .i64 (k:Nat)),(15,.bool c)],[⟨some g0,38,zRc,9,true⟩,⟨some g1,38,je w2,9,true⟩,⟨some gc,63,ai aQ ((aj a b).map aC),cN,true⟩,⟨some g2,40,iH (ay (some gc) 0 ((aj a b).map aC).length cc) (bJ ((aj a b).map aC)),10,true⟩,⟨some gr,93,ai uh (aj a b),rN,true⟩,⟨some g3,93,uh x,32,true⟩,⟨some g4,63,aQ (aC x),38,true⟩]⟩ _;refine A3 ?_;refine fB 74 rfl (fun hb5=>?_) (fun hb5=>?_)
   ·
    have htk:tk=true:=hb5;refine A25 ?_;refine jl ?_;exact Nl ⟨⟨k+1,(f2,w2),true⟩,hlt,Et,by show true=_;rw[gz hx,<-hI2];unfold VJ;rw[<-hcx];simp[htk]⟩ (hμ:=BB) (hL:=dR.auto)
   ·
    have htk:tk=false:=hb5;refine A3 ?_;refine fB 77 rfl (fun hb6=>?_) (fun hb6=>?_)
    ·
     have h77:c=true:=hb6;refine A22 ?_;refine jl ?_;exact Nl ⟨⟨k+1,(f2,w2),true⟩,hlt,Et,by show true=_;rw[gz hx,<-hI2];unfold VJ;rw[<-hcx];simp[htk,h77]⟩ (hμ:=BB) (hL:=dR.auto)
    ·
     have h77:c=false:=hb6;refine A2 ?_;refine fB 79 rfl (fun hb7=>?_) (fun hb7=>?_)
     ·
      have h79:decide ((aC x).a=(bJ ((aj a b).map aC)))=true:=hb7;refine A7 ?_;refine fB 86 rfl (fun hb8=>?_) (fun hb8=>?_)
      ·
       have h86:x.1.fo=false:=by have e:(!x.1.fo)=true:=hb8;simpa using e
       refine Gw ?_;refine jl ?_;exact Nl ⟨⟨k+1,(f2,w2),true⟩,hlt,Et,by show true=_;rw[gz hx,<-hI2];unfold VJ;rw[<-hcx];simp[htk,h77,h79,h86]⟩ (hμ:=BB) (hL:=dR.auto)
      ·
       have h86:x.1.fo=true:=by have e:(!x.1.fo)=false:=hb8;simpa using e
       refine A2 ?_;refine fB 88 rfl (fun hb9=>?_) (fun hb9=>?_)
       ·
        have h88:decide ((aC x).b=(bJ ((aj a b).map aC)))=true:=hb9;refine oJ ?_;refine jl ?_;exact Nl ⟨⟨k+1,(f2,w2),(!x.1.tp)⟩,hlt,Et,by show(!x.1.tp)=_;rw[gz hx,<-hI2];unfold VJ;rw[<-hcx];simp[htk,h77,h79,h86,h88]⟩ (hμ:=BB) (hL:=dR.auto)
       ·
        have h88:decide ((aC x).b=(bJ ((aj a b).map aC)))=false:=hb9;refine oJ ?_;refine jl ?_;exact Nl ⟨⟨k+1,(f2,w2),false⟩,hlt,Et,by show false=_;rw[gz hx,<-hI2];unfold VJ;rw[<-hcx];simp[htk,h77,h79,h86,h88]⟩ (hμ:=BB) (hL:=dR.auto)
     ·
      have h79:decide ((aC x).a=(bJ ((aj a b).map aC)))=false:=hb7;refine A9 ?_;refine fB 88 rfl (fun hb8=>?_) (fun hb8=>?_)
      ·
       have h88:decide ((aC x).b=(bJ ((aj a b).map aC)))=true:=hb8;refine oJ ?_;refine jl ?_;exact Nl ⟨⟨k+1,(f2,w2),(!x.1.tp)⟩,hlt,Et,by show(!x.1.tp)=_;rw[gz hx,<-hI2];unfold VJ;rw[<-hcx];simp[htk,h77,h79,h88]⟩ (hμ:=BB) (hL:=dR.auto)
      ·
       have h88:decide ((aC x).b=(bJ ((aj a b).map aC)))=false:=hb8;refine oJ ?_;refine jl ?_;exact Nl ⟨⟨k+1,(f2,w2),false⟩,hlt,Et,by show false=_;rw[gz hx,<-hI2];unfold VJ;rw[<-hcx];simp[htk,h77,h79,h88]⟩ (hμ:=BB) (hL:=dR.auto)
  ·
   have hge:k=(aj a b).length:=(by have:=of_decide_eq_false hb2;omega)
   subst hge;rw[<-hpl2,List.take_length] at hI1;rw[List.take_length] at hI2;refine A6 ?_;refine OE (l':=[⟨_,_,_,_,_,_⟩,⟨_,_,_,_,_,_⟩]) [0,3] 6 mixed ak rfl ?_;refine ji 0 1 rfl rfl rfl qmj rfl rfl ?_;refine A2 ?_;refine Tn2 1 2 ?_ ?_
   ·
    refine aG 3 1 [_,_,_,_,_,_,_,_,_] rfl rfl rfl rfl dZ rfl rfl rfl rfl ?_;refine A1 ?_;refine Tn2 2 4 ?_ ?_
    ·
     refine aG 1 0 [_,_,_,_,_,_,_,_,_] rfl rfl rfl rfl dZ rfl rfl rfl rfl ?_;refine A1 ?_;refine IX 4 ?_
     ·
      refine So 0 0 [⟨some g0,38,_,9,true⟩,_,_,_,_] [_,_,_,_,_,_,_,_,_] ?_;exact qgD
    ·
     refine So 0 0 [⟨some g0,38,_,9,true⟩,_,_,_,_] [_,_,_,_,_,_,_,_,_] ?_;refine A1 ?_;refine IX 2 ?_
     ·
      refine aG 1 0 [_,_,_,_,_,_,_,_,_] rfl rfl rfl rfl dZ rfl rfl rfl rfl ?_;exact qgD
   ·
    refine aG 1 0 [_,_,_,_,_,_,_,_,_] rfl rfl rfl rfl dZ rfl rfl rfl rfl ?_;refine A1 ?_;refine IX 1 ?_
    ·
     refine aG 3 1 [_,_,_,_,_,_,_,_,_] rfl rfl rfl rfl dZ rfl rfl rfl rfl ?_;refine A1 ?_;refine IX 4 ?_
     ·
      refine So 0 0 [⟨some g0,38,_,9,true⟩,_,_,_,_] [_,_,_,_,_,_,_,_,_] ?_;exact qgD
end Go.Proofs.YtaffcpfhedadhaaGreatDoor
