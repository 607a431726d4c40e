/-
  Part 35 (chapter 32): lemmas, walks. Each theorem states its own conditions.
-/
import Derived.Lib.Repeat
import Derived.Shelf.SlSortCmp.WholeK
import Derived.Shelf.SlSortCmp.NoneTotal
import Derived.Sort.Grow
import Derived.Sort.EncStr
import Derived.ChangeSame
import Derived.OpenShut
import Derived.RowKit3
import Derived.ProofKit
import Derived.Deep.Slices
import Derived.Carry
import Derived.ChangeMaps5
import Derived.Lib.SliceRun
import Derived.Test.YtaffcpfhedadhaaGreatDoorA34
set_option linter.all false
set_option maxRecDepth 20000
set_option maxHeartbeats 20000000
section
variable{P Q:Prop}{T:Type}{R:T->Prop}
def qww(h:P:=by
 refine bZ [8] ak ⟨⟨_,rfl,?_⟩,trivial⟩
 ·exact qyH):=h
def qyH(h:P:=by
 refine(Qa (s:=38) (len:=o.length) (n2:=1) 3 5 (fun r=>[_,_,_,⟨some r.g,63,ai bg o++bg (aW x),r.n,true⟩,_,_]) u32 VN) (bP.length o) h3 h4 (bP.one (aW x)) (fun r=>?_);refine A1 ?_;refine bZ [9] ak ⟨⟨_,rfl,?_⟩,trivial⟩
 ·exact qwx):=h
def qwx(h:P:=by
 refine A2 ?_;refine bZ [10] ak ⟨⟨_,rfl,?_⟩,trivial⟩
 ·refine Ss 2 ?_;refine A1 ?_;refine IZ rfl ?_;refine A3 ?_;refine kM ?_;exact Nl ⟨⟨i+1,o++[aW x],some r.g,r.n,r.cap⟩,hlt,by show o++[aW x]=((aA a b).take (i+1)).map aW;rw[<-fH hx,List.map_append,<-hI];rfl,jT,r.hn⟩ (hμ:=(by show(aA a b).length-(i+1)<(aA a b).length-i;omega)) (hL:=(ay [some 0,some 1,some 2,some 3] ⟨pR,pR,⟨_,rfl,aV kG⟩,⟨_,rfl,aV kH⟩,trivial⟩ rfl rfl))):=h
def qrk(h:P:=by
 refine bZ [1,7] ak ⟨⟨_,rfl,?_⟩,⟨_,rfl,?_⟩,trivial⟩
 ·refine A2 ?_;exact qrl
 ·refine(Bl 38 [(0,_)]) (BF) (fun g3=>?_);refine A1 ?_;exact qrm):=h
def qrl(h:P:=by
 refine bZ [7] ak ⟨⟨_,rfl,?_⟩,trivial⟩
 ·refine(Bl 38 [(0,_)]) (BF) (fun g3=>?_);refine A1 ?_;exact qww):=h
def qrm(h:P:=by
 refine bZ [1] ak ⟨⟨_,rfl,?_⟩,trivial⟩
 ·refine A2 ?_;exact qww):=h
def qlD(h:P:=by
 have r6:bK p.b=false:=qaR
 refine A8 ?_;refine aH rfl (ax rfl) (fun w hL=>⟨(),?_,hL.pk []⟩);exact congrArg (fun e:Int=>Ending.returned (.int .i64 e)) (qwE r1 (by rw[r6,Bool.and_false])).symm):=h
def qlE(h:P:=by
 have r5:bK p.a=false:=qaQ
 refine PX ?_;refine aH rfl (ax rfl) (fun w hL=>⟨(),?_,hL.pk []⟩);exact congrArg (fun e:Int=>Ending.returned (.int .i64 e)) (qwE r1 (by rw[r5];rfl)).symm):=h
def qlF(h:P:=by
 have r1:ckI p.i≠0:=qaP
 refine A8 ?_;refine aH rfl (ax rfl) (fun w hL=>⟨(),?_,hL.pk []⟩);exact congrArg (fun e:Int=>Ending.returned (.int .i64 e)) (qyM r1).symm):=h
def qaN(q:Q)(h:aj Q->P:=by intro q_;refine A6 ?_;refine aJ 0 ((i)*32) u88 qdy rfl rfl rfl rfl rfl ae ae (um.ne au ae) (by show 0+Int.toNat _*32=_;omega) ?_;refine aT (v:=PtV x) 0 ((i)*32) _ rfl rfl rfl rfl qdy (um.sub hx 0 32 au) rfl au rfl ?_;exact q_.qq):=h ⟨q⟩
def qlG(q:∀x,R x)(h:aj (∀x,R x)->P:=by intro q_;refine qlM ?_;refine aT (v:=Kt p) 2 ((i)*38) _ rfl rfl rfl rfl uj (bP.sub hp 0 38 au) rfl au rfl ?_;refine Al 38 z63 (fun g1=>?_);exact q_.qq g1):=h ⟨q⟩
def qlH(h:P:=by cases h1:bK p.i.f<;>cases h2:bK p.i.t<;>cases h3:ja p.i<;>simp[h1,h2,h3] at h ⊢):=h
def qlI(h:P:=by
 have hno:shP p x=false:=by unfold shP;rw[r8,Bool.false_and]
 refine II ?_;exact XC):=h
def qlJ(h:P:=by
 have hno:shP p x=false:=qaS
 refine A4 ?_;exact XC):=h
def qlK(q:Q)(h:aj Q->P:=by intro q_;refine A1 ?_;refine zO 2 0 ?_;refine A1 ?_;refine xg 3 20 ?_;refine L38 2 0 ?_;refine fJ [_,_] rfl rfl rfl (wV p.i x.2 ((zX _).1 r2).r0 ((zX _).1 r3).r0) ?_;refine mM rfl rfl rfl rfl qva (qvR _ _) ?_;refine A3 ?_;exact q_.qq):=h ⟨q⟩
def qaO(q:Q)(h:aj Q->P:=by intro q_;refine Pc (wV x.1 x.2 (by rw[qj2 hxi.1];exact Rat.le_refl) (by rw[qj2 hxi.2];exact Rat.le_refl)) ?_;exact q_.qq):=h ⟨q⟩
def qlL(q:∀x,R x)(h:aj (∀x,R x)->P:=by intro q_;refine(Qa (s:=20) (len:=o.length) (n2:=1) 5 7 (fun r=>[_,_,_,_,_,⟨some r.g,61,ai aZ o++aZ (p.i),r.n,true⟩,_,_]) Yb P7) (dw.length o) h3 h4 (dw.one (p.i)) (fun r=>?_);exact q_.qq r):=h ⟨q⟩
def qlM(q:Q)(h:aj Q->P:=by intro q_;refine aJ 2 ((i)*38) u32 uj rfl rfl rfl rfl rfl ae ae (bP.ne au ae) Ag ?_;exact q_.qq):=h ⟨q⟩
def qlN(q:Q)(h:aj Q->P:=by intro q_;refine oK ?_;refine Dq [3000000] [0,1,3,4,2,5,6,7,8,9,10,11,13,12,14,15] ?_;refine A1 ?_;refine zO 3 0 ?_;refine A1 ?_;refine zO 2 0 ?_;exact q_.qq):=h ⟨q⟩
def PL(q:Q)(h:aj Q->P:=by intro q_;refine Ar (((j+1:Nat):Int)) ?_;refine A3 ?_;exact q_.qq):=h ⟨q⟩
def qlO(q:∀x,R x)(h:aj (∀x,R x)->P:=by intro q_;refine A7 ?_;refine(Sc [0,1]) (wX a ab aN ac hac ae b bb bN bc hbc ae hsa hsb) (fun zr=>?_);exact q_.qq zr):=h ⟨q⟩
def qaP(h:P:=by have e:=haQ;simpa[ckI] using e):=h
def qaQ(h:P:=by cases e:bK p.a<;>simp[e] at hbQ ⊢):=h
def qaR(h:P:=by cases e:bK p.b<;>simp[e] at hcQ ⊢):=h
def qaS(h:P:=by unfold shP;rw[r8,r9];rfl):=h
def PM(h:P:=by rw[r5,r6];rfl):=h
def qlP(h:P:=by show o++[p.i]=(c.take (i+1)).map (·.i);rw[<-fH hp,List.map_append,<-hI];rfl):=h
def qlQ(h:P:=by show c.length-(i+1)<c.length-i;omega):=h
def qlR(h:P:=by have e:=hdQ;rw[hoe,hqe] at e;simpa using e):=h
end
namespace Go.Proofs.YtaffcpfhedadhaaGreatDoor
open Go Go.RowKit Go.Via
def wX(a:List PU)(ab:Option Nat)(aN ac:Nat)(hac:a.length<=ac)(han:a.length<=1000)(b:List PU)(bb:Option Nat)(bN bc:Nat)(hbc:b.length<=bc)(hbn:b.length<=1000)(hsa:Ee a)(hsb:Ee b):bQ Tryz.prog 41 [⟨ab,100,ai aK a,aN,false⟩,⟨bb,100,ai aK b,bN,false⟩] [aB ab 0 a.length ac,aB bb 0 b.length bc] (SR (aA a b).length) SR.v (fun z=>[⟨z.b,93,ai FO (aA a b),z.n,true⟩]):=by
 refine⟨ak,fun w hL0=>?_⟩;have hrl:=Ik (mt:=Ep) (ef:=Gh) a b;refine cB2 55 Tryz.func41 hL0 ?_;refine FH ?_;refine(Sc [0]) (wP a ab aN ac hac han) (fun za=>?_);obtain⟨zab,zaN,zac,hzac⟩:=za;refine A1 ?_;refine(Sc [1]) (wP b bb bN bc hbc hbn) (fun zb=>?_);obtain⟨zbb,zbN,zbc,hzbc⟩:=zb;refine(Sc [2,3]) (Lj a zab zaN zac hzac han b zbb zbN zbc hzbc hbn hsa.v hsb.v) (fun zr=>?_);obtain⟨rb,rN,rc,hrc⟩:=zr;refine A5 ?_;refine El (ι:={z:Nat×List (Iv×Qd)×Option Nat×Nat×Nat // z.1<=(gY Ep Gh a b).length∧z.2.1=((gY Ep Gh a b).take z.1).map (fun z:B3=>(z.i,d2 z.f z.g))∧z.2.1.length<=z.2.2.2.2∧z.2.2.2.2*32<=z.2.2.2.1}) (fun⟨⟨i,o,ob,oN,oc⟩,hi,hI,h3,h4⟩=>([(5,aB ob 0 o.length oc),(13,aB rb 0 (gY Ep Gh a b).length rc),(14,bF ((gY Ep Gh a b).length)),(15,bF i)],[⟨rb,151,ai ZF (gY Ep Gh a b),rN,true⟩,⟨ob,93,ai FO o,oN,true⟩],(gY Ep Gh a b).length-i)) ⟨⟨0,[],none,0,0⟩,Nat.zero_le _,rfl,Nat.le_refl _,bz⟩ ?_ (hL:=(ay [some 4,none] ⟨pR,⟨rfl,rfl,rfl⟩,trivial⟩ rfl rfl));rintro⟨⟨i,o,ob,oN,oc⟩,hi,hI,h3,h4⟩;(try dsimp only);replace hi:i<=(gY Ep Gh a b).length:=hi;replace hI:o=((gY Ep Gh a b).take i).map (fun z:B3=>(z.i,d2 z.f z.g)):=hI;replace h3:o.length<=oc:=h3;replace h4:oc*32<=oN:=h4
 have hol:o.length<=100000:=Pj;refine A6 ?_;refine Cd ?_ ?_<;>intro haQ
 ·have hlt:i<(gY Ep Gh a b).length:=iE;obtain⟨x,hx⟩:∃x,(gY Ep Gh a b)[i]? =some x:=⟨_,List.getElem?_eq_getElem hlt⟩;have hxs:=qqZ hsa hsb x (List.mem_of_getElem? hx);have f0:=Nat.le_trans (sK x.f) hxs.2.1;have f1:=Nat.le_trans (sO x.f) hxs.2.1;have f2:=Nat.le_trans (sQ x.f) hxs.2.1;have f3:=Nat.le_trans (sS x.f) hxs.2.1;have g0:=Nat.le_trans (sK x.g) hxs.2.2;have g1:=Nat.le_trans (sO x.g) hxs.2.2;have g2:=Nat.le_trans (sQ x.g) hxs.2.2;have g3:=Nat.le_trans (sS x.g) hxs.2.2;have s0:=gX x.f.x0 x.g.x0;have s1:=gX x.f.x1 x.g.x1;have s2:=gX x.f.y0 x.g.y0;have s3:=gX x.f.y1 x.g.y1;refine A6 ?_;refine aJ 0 ((i)*52) qvc qp3 rfl rfl rfl rfl rfl ae ae (Uw.ne au ae) (by show 0+Int.toNat _*52=_;omega) ?_;refine aT (v:=B3V x) 0 ((i)*52) _ rfl rfl rfl rfl qp3 (Uw.sub hx 0 52 au) rfl au rfl ?_;refine Al 52 qxA (fun g0=>?_);refine jq ?_;refine DT (l':=[⟨_,_,_,_,_,_⟩,⟨_,_,_,_,_,_⟩,⟨_,_,_,_,_,_⟩,⟨_,_,_,_,_,_⟩,⟨_,_,_,_,_,_⟩,⟨_,_,_,_,_,_⟩,⟨_,_,_,_,_,_⟩,⟨_,_,_,_,_,_⟩,⟨_,_,_,_,_,_⟩,⟨_,_,_,_,_,_⟩,⟨_,_,_,_,_,_⟩,⟨_,_,_,_,_,_⟩,⟨_,_,_,_,_,_⟩,⟨_,_,_,_,_,_⟩,⟨_,_,_,_,_,_⟩,⟨_,_,_,_,_,_⟩,⟨_,_,_,_,_,_⟩,⟨_,_,_,_,_,_⟩,⟨_,_,_,_,_,_⟩,⟨_,_,_,_,_,_⟩,⟨_,_,_,_,_,_⟩,⟨_,_,_,_,_,_⟩,⟨_,_,_,_,_,_⟩,⟨_,_,_,_,_,_⟩,⟨_,_,_,_,_,_⟩,⟨_,_,_,_,_,_⟩,⟨_,_,_,_,_,_⟩,⟨_,_,_,_,_,_⟩,⟨_,_,_,_,_,_⟩]) [3000000] [0,1,2,3,4,5,6,7,8,9,10,11,13,14,15,16,17,18,19,20,21,22,23,24,12,25,26,27,28] mixed (qbI [0,1,3,0,8,24,0,64,192,0,512,1536,4095,0,8192,24576,0,65536,196608,0,524288,1572864,0,4194304,12582912,33554431,67108863,0,268435455] ak) rfl ?_;refine A2 ?_;refine L4 2 20 ?_;refine A2 ?_;refine L4 2 24 ?_;refine A2 ?_;refine L4 2 36 ?_;refine A2 ?_;refine L4 2 40 ?_;refine A2 ?_;refine L4 2 28 ?_;refine A2 ?_;refine L4 2 32 ?_;refine A2 ?_;refine L4 2 44 ?_;refine A2 ?_;refine L4 2 48 ?_;refine Pc (uG x.f.x0 x.f.x1 x.g.x0 x.g.x1) ?_;refine Pc (uG x.f.y0 x.f.y1 x.g.y0 x.g.y1) ?_;refine Pc (KX (sqL (x.f.x0-x.g.x0) (x.f.x1-x.g.x1)) (sqL (x.f.y0-x.g.y0) (x.f.y1-x.g.y1)) (Nat.le_trans (qcJ (n:=300) ae ae) ae) (Nat.le_trans (qcJ (n:=300) ae ae) ae)) ?_;refine aP 45 (uf (d2 x.f x.g)) rfl (congrArg uf (qtO _ _)) ?_;refine Al 12 Vf (fun g1=>?_);refine Ss 3 ?_;refine A5 ?_;refine zO 2 0 ?_;refine xg 3 0 ?_;refine(Bu [(0,_),(1,_)]) (qsb) ?_;refine(Bl 32 [(0,_)]) (qsg) (fun g2=>?_);refine(Qa (s:=32) (len:=o.length) (n2:=1) 1 4 (fun r=>[_,⟨some r.g,93,ai FO o++FO ((x.i,d2 x.f x.g)),r.n,true⟩,_,_,_]) u88 qxF) (um.length o) h3 h4 (um.one ((x.i,d2 x.f x.g))) (fun r=>?_);refine qC ?_;exact Nl ⟨⟨i+1,o++[(x.i,d2 x.f x.g)],some r.g,r.n,r.cap⟩,hlt,by show o++[(x.i,d2 x.f x.g)]=((gY Ep Gh a b).take (i+1)).map (fun z:B3=>(z.i,d2 z.f z.g));rw[<-fH hx,List.map_append,<-hI];rfl,jT,r.hn⟩ (hμ:=(by show(gY Ep Gh a b).length-(i+1)<(gY Ep Gh a b).length-i;omega)) (ht:=⟨(aO rfl kG),rfl,rfl,rfl,trivial⟩) (hL:=(ay [some 0,some 1] ⟨pR,⟨_,rfl,aV kH⟩,trivial⟩ rfl rfl))
 ·have hge:i=(gY Ep Gh a b).length:=iV;subst hge;obtain rfl:o=aA a b:=by rw[hI,List.take_length];exact Il a b
  exact UA
def F7(a:List PU)(ab:Option Nat)(aN ac:Nat)(hac:a.length<=ac)(han:a.length<=400)(b:List PU)(bb:Option Nat)(bN bc:Nat)(hbc:b.length<=bc)(hbn:b.length<=400)(hsa:Ee a)(hsb:Ee b)(ea:XM a)(eb:XM b):bQ Tryz.prog 14 [⟨ab,100,ai aK a,aN,false⟩,⟨bb,100,ai aK b,bN,false⟩] [aB ab 0 a.length ac,aB bb 0 b.length bc] (SR ((aA a b).map aW).length) (fun z=> .tuple #[UQ z.v (fB ((aA a b).map aW)),.int .i64 (if((aA a b).map aW).length=0 then 36 else 0)]) (fun z=>[⟨z.b,63,ai bg ((aA a b).map aW),z.n,true⟩]):=by
 refine⟨ak,fun w hL0=>?_⟩;have hpl:=vG a b;refine cB2 38 Tryz.func14 hL0 ?_;refine A2 ?_;refine Al 10 z40 (fun g0=>?_);refine A5 ?_;refine Al 10 z40 (fun g1=>?_);refine qlO fun zr=>?_;obtain⟨rb,rN,rc,hrc⟩:=zr;refine A5 ?_;refine El (ι:={z:Nat×List iT×Option Nat×Nat×Nat // z.1<=(aA a b).length∧z.2.1=((aA a b).take z.1).map aW∧z.2.1.length<=z.2.2.2.2∧z.2.2.2.2*38<=z.2.2.2.1}) (fun⟨⟨i,o,ob,oN,oc⟩,hi,hI,h3,h4⟩=>([(4,dA g0),(5,.int .i64 0),(6,dA g1),(11,aB rb 0 (aA a b).length rc),(12,bF ((aA a b).length)),(13,bF i)],[⟨rb,93,ai FO (aA a b),rN,true⟩,⟨some g0,40,O0,10,true⟩,⟨some g1,40,jy (aB ob 0 o.length oc) (rl 0),10,true⟩,⟨ob,63,ai bg o,oN,true⟩],(aA a b).length-i)) ⟨⟨0,[],none,0,0⟩,Nat.zero_le _,rfl,Nat.le_refl _,bz⟩ ?_ (hL:=(ay [some 4,some 2,some 3,none] ⟨pR,pR,⟨_,rfl,aV (by rw[qj3];rfl)⟩,⟨rfl,rfl,rfl⟩,trivial⟩ rfl rfl));rintro⟨⟨i,o,ob,oN,oc⟩,hi,hI,h3,h4⟩;(try dsimp only);replace hi:i<=(aA a b).length:=hi;replace hI:o=((aA a b).take i).map aW:=hI;replace h3:o.length<=oc:=h3;replace h4:oc*38<=oN:=h4
 have hol:o.length<=100000:=Pj;refine A6 ?_;refine Cd ?_ ?_<;>intro haQ
 ·have hlt:i<(aA a b).length:=iE;obtain⟨x,hx⟩:∃x,(aA a b)[i]? =some x:=⟨_,List.getElem?_eq_getElem hlt⟩;have hxs:=wQ hsa hsb x (List.mem_of_getElem? hx);have hxi:=Sl ea eb x (List.mem_of_getElem? hx);refine qaN ?_;refine Al 32 z93 (fun g2=>?_);refine Ss 4 ?_;refine A2 ?_;refine vw (l':=[⟨_,_,_,_,_,_⟩,⟨_,_,_,_,_,_⟩,⟨_,_,_,_,_,_⟩,⟨_,_,_,_,_,_⟩]) [2000000] [2,3,4,5] [0,1,6,7,8,9,10] mixed ak rfl ?_;refine A1 ?_;refine zO 4 0 ?_;refine A1 ?_;refine xg 4 20 ?_;refine A1 ?_;refine bZ [0,6] ak ⟨⟨_,rfl,?_⟩,⟨_,rfl,?_⟩,trivial⟩
  ·refine A2 ?_;refine bZ [1,6] ak ⟨⟨_,rfl,?_⟩,⟨_,rfl,?_⟩,trivial⟩
   ·refine A2 ?_;refine bZ [6] ak ⟨⟨_,rfl,?_⟩,trivial⟩
    ·refine qaO ?_;refine A1 ?_;exact qrl
   ·refine qaO ?_;refine A1 ?_;exact qrk
  ·refine qaO ?_;refine A1 ?_;refine bZ [0,7] ak ⟨⟨_,rfl,?_⟩,⟨_,rfl,?_⟩,trivial⟩
   ·refine A2 ?_;exact qrk
   ·refine(Bl 38 [(0,_)]) (BF) (fun g3=>?_);refine A1 ?_;refine bZ [0] ak ⟨⟨_,rfl,?_⟩,trivial⟩
    ·refine A2 ?_;exact qrm
 ·have hge:i=(aA a b).length:=iV;subst hge;obtain rfl:o=(aA a b).map aW:=Ad
  refine FH ?_;refine Cd ?_ ?_<;>intro hbQ
  ·have hz:((aA a b).map aW).length=0:=by have e:=hbQ;simp at e ⊢;omega
   refine A2 ?_;refine L10 2 0 ?_;refine Ss 1 ?_;refine A5 ?_;refine bT rfl (bn 1 rfl rfl P6 (vs:=[_,_,_,_,_,_,_,_,_,_]) rfl rfl (Nat.le_of_ble_eq_true rfl) rfl) (ax rfl) (fun w hL=>⟨⟨ob,oN,oc,h3⟩,?_,hL.pk [some 3]⟩);rw[if_pos hz,show fB ((aA a b).map aW)=rl 0 from by rw[List.length_eq_zero_iff.1 hz];rfl];exact rfl
  ·have hz:((aA a b).map aW).length≠0:=by have e:=hbQ;simp at e ⊢;omega
   refine A6 ?_;refine(Sd [3]) (rq ((aA a b).map aW) ob oN oc h3 (by rw[List.length_map];omega) (Sm hsa hsb)) ?_;refine A1 ?_;refine uo ?_;refine L10 2 0 ?_;refine uq ?_;refine bT rfl (bn 1 rfl rfl P6 (vs:=[_,_,_,_,_,_,_,_,_,_]) rfl rfl (Nat.le_of_ble_eq_true rfl) rfl) (ax rfl) (fun w hL=>⟨⟨ob,oN,oc,h3⟩,?_,hL.pk [some 3]⟩);rw[if_neg hz];exact rfl
end Go.Proofs.YtaffcpfhedadhaaGreatDoor
namespace Go.Proofs.YtaffcpfhedadhaaGreatDoor
open Go Go.RowKit Go.Via Go.ChangeShapes Go.WideShapes
def qaT{w w':World}(h:Below w.heap.size w w')(may:MemPlace->Prop):w.keptBut w' may:=by
 have hb:∀b,b<w.heap.size->w'.heap[b]? =w.heap[b]? :=h.block;refine⟨h.os,h.output,fun i hi=>?_⟩
 rw[hb i hi]
 split
 ·rename_i e1 e2
  rw[e1] at e2;cases e2;exact⟨rfl,rfl,rfl,fun _ _=>rfl⟩
 ·rename_i e1 e2
  rw[e1] at e2;cases e2;exact Or.inr ⟨rfl,rfl⟩
 ·rfl
def qlS{α:Type}(a0:α){n:Nat}{p:Nat->α->Prop}(h:∀i,i<n->∃x,p i x):∃f:Nat->α,∀i,i<n->p i (f i):=by
 classical
 refine⟨fun i=>if h':i<n then Classical.choose (h i h') else a0,fun i hi=>?_⟩
 show p i (if h':i<n then Classical.choose (h i h') else a0)
 rw[dif_pos hi];exact Classical.choose_spec (h i hi)
def qlT{w:World}{a:Addr}{cs:List Value}(e:TypeId)(he:e<cO)(hne:cs≠[])(h:∀(j:Nat) (v:Value),cs[j]? =some v->w.cell? (a.add j)=some v):
 ∃(g:Nat) (pre:List Value) (N:Nat),a=⟨g,pre.length,none⟩∧tq (Bs.of w) w ⟨some g,e,pre++cs,N,false⟩ g:=by
 obtain⟨c0,l,rfl⟩:=List.exists_cons_of_ne_nil hne;have h0:=h 0 c0 rfl;rw[show a.add 0=a by simp[Addr.add]] at h0;obtain⟨g,off,spot⟩:=a;have h0':=h0;unfold World.cell? at h0'
 split at h0'
 ·rename_i cur e0 fr heq
  split at h0'
  ·cases h0'
  ·rename_i hsp
   have hsn:spot=none:=by cases spot with|none=>rfl|some z=>simp at hsp
   subst hsn;have hoff:off<cur.size:=(Array.getElem?_eq_some_iff.1 h0').1;have hpl:(cur.toList.take off).length=off:=Et
   refine⟨g,cur.toList.take off,cur.size,by rw[hpl],?_⟩;refine⟨.inl ⟨cur,⟨e0,fr,heq,(fun h=>Ak),he⟩,rfl,?_⟩,fun h=>Ak⟩
   refine List.ext_getElem? fun j=>?_
   show(cur.toList.take (cur.toList.take off++c0::l).length)[j]? =_;rw[List.length_append,hpl]
   by_cases hj:j<off
   ·rw[List.getElem?_append_left (by rw[hpl];exact hj),List.getElem?_take,List.getElem?_take,if_pos ae,if_pos hj]
   ·rw[List.getElem?_append_right (by rw[hpl];omega),hpl,List.getElem?_take]
    split
    ·rename_i hj2
     obtain⟨v,hv⟩:∃v,(c0::l)[j-off]? =some v:=⟨_,List.getElem?_eq_getElem ae⟩;have k2:=h _ _ hv;rw[iI] at k2;unfold World.cell? at k2;simp only[heq] at k2;rw[show off+(j-off)=j by omega] at k2;rw[hv,<-k2];simp
    ·rename_i hj2
     rw[List.getElem?_eq_none ae]
 ·cases h0'
theorem X4{f:Nat->List Value}{k:Nat}:∀{n:Nat},(∀i,i<n->(f i).length=k)->((List.range n).flatMap f).length=n*k
 |0,_=>by simp
 |n+1,h=>by rw[List.range_succ,List.flatMap_append,List.length_append,X4 (n:=n) (fun i hi=>h i ae)];simp[h n ae];rw[Nat.succ_mul]
def qaU{w:World}{a:Addr}{k n:Nat}{f:Nat->List Value}(hf:∀i,i<n->w.cells? 0 (a.add (i*k)) k=some (f i))(hk:∀i,i<n->(f i).length=k)(h0:0<k):
 ∀(j:Nat) (v:Value),((List.range n).flatMap f)[j]? =some v->w.cell? (a.add j)=some v:=by
 induction n with
 |zero=>intro j v h;simp at h
 |succ n ih=>
  intro j v h;rw[List.range_succ,List.flatMap_append] at h;have hl:=X4 (f:=f) (k:=k) (n:=n) (fun i hi=>hk i ae)
  by_cases hj:j<n*k
  ·rw[List.getElem?_append_left (by rw[hl];exact hj)] at h;exact ih (fun i hi=>hf i ae) (fun i hi=>hk i ae) j v h
  ·rw[List.getElem?_append_right (by rw[hl];omega),hl] at h;simp only[List.flatMap_cons,List.flatMap_nil,List.append_nil] at h;have hjl:j-n*k<k:=by
    have:=(List.getElem?_eq_some_iff.1 h).1
    rwa [hk n ae] at this
   obtain⟨_,_,hc⟩:=World.cells?_some (hf n ae);have:=hc (j-n*k) hjl;rw[h,Addr.add_add] at this;rw[<-this]
   congr 2
   omega
def quh{W:World}{L:List aF}(ho:∀b∈L,b.own=false)(h:∀b∈L,(∀g,b.base=some g->tq (Bs.of W) W b g)∧(b.base=none->b.cs=[]∧b.n=0∧∀T:P5,KG T=true->b.e=gE T->∀p∈T,uK W p)):aX (Bs.of W) L W:=by
 refine⟨mD.of (dV.refl _ _),fun k b hk=>?_,fun i j g bi bj hij hi hj hio=>?_,fun b hb hn T hT he p hp=>?_⟩
 ·have:=h b (List.mem_of_getElem? hk);exact⟨this.1,fun hn=>⟨(this.2 hn).1,(this.2 hn).2.1⟩⟩
 ·rw[ho bi (List.mem_of_getElem? hi)] at hio;cases hio
 ·refine⟨((h b hb).2 hn).2.2 T hT he p hp,fun hbo=>?_,fun c hc hco=>?_⟩
  ·rw[ho b hb] at hbo;cases hbo
  ·rw[ho c hc] at hco;cases hco
def qlU{p:Program}{fits:TypeId->Bool}{d e count off n:Nat}(h:rowAt p fits d e count off n=true):off<=count*p.cellsOf e:=by
 cases d with
 |zero=>cases h
 |succ d=>
  unfold rowAt at h;dsimp only at h
  split at h
  ·cases h
  ·rename_i hs
   have hd:=Nat.div_add_mod off (p.cellsOf e);have hlt:=Nat.mod_lt off (Nat.pos_of_ne_zero hs);rw[Bool.or_eq_true] at h;rcases h with h|h
   ·simp only[Bool.and_eq_true,beq_iff_eq,decide_eq_true_eq] at h;have:p.cellsOf e*(off/p.cellsOf e)<=p.cellsOf e*count:=Nat.mul_le_mul_left _ ae;rw[Nat.mul_comm count];omega
   ·rw[Bool.and_eq_true,decide_eq_true_eq] at h;have:p.cellsOf e*(off/p.cellsOf e+1)<=p.cellsOf e*count:=Nat.mul_le_mul_left _ ae;rw[Nat.mul_add,Nat.mul_one] at this;rw[Nat.mul_comm count];omega
def SH{p:Program}:∀{d e count off u n:Nat},liesAt p d e count off u n=true->off<=count*p.cellsOf e
 |0,_,_,_,_,_,h=>by cases h
 |d+1,e,count,off,u,n,h=>by
  unfold liesAt at h;rw[Bool.or_eq_true] at h;rcases h with h|h
  ·exact qlU h
  ·split at h
   ·exact SH h
   ·cases h
def qpJ{W:World}{r:Reach}{base:Nat}{a:Addr}{e n:Nat}(h:W.has Tryz.prog r base a e n):∃(g:Nat) (pre:List Value) (N:Nat),a=⟨g,pre.length,none⟩∧tq (Bs.of W) W ⟨some g,86,pre++[],N,false⟩ g:=by
 obtain⟨_,hsp,row,cells,hsh,hl⟩:=h;obtain⟨g,off,spot⟩:=a;simp only at hsp hsh hl;subst hsp;unfold World.shape? at hsh
 split at hsh
 ·rename_i cur elem fr heq
  cases hsh;have h1:=SH hl;have h2:off<=cur.size:=Nat.le_trans h1 (Nat.div_mul_le_self _ _);have hpl:(cur.toList.take off).length=off:=Et
  refine⟨g,cur.toList.take off,cur.size,by rw[hpl],.inl ⟨cur,⟨_,_,heq,(fun h=>Ak),(show 86<cO by decide)⟩,rfl,?_⟩,fun h=>Ak⟩
  show cur.toList.take (cur.toList.take off++[]).length=cur.toList.take off++[];rw[List.append_nil,hpl]
 ·cases hsh
abbrev X5(W:World)(b:aF):Prop:=(∀g,b.base=some g->tq (Bs.of W) W b g)∧(b.base=none->b.cs=[]∧b.n=0∧∀T:P5,KG T=true->b.e=gE T->∀p∈T,uK W p)
def qwy{W:World}:∀{L:List aF},List.foldr (fun b p=>(b.own=false∧X5 W b)∧p) True L->aX (Bs.of W) L W:=fun {L} h=>by
 have key:∀L:List aF,List.foldr (fun b p=>(b.own=false∧X5 W b)∧p) True L->∀b∈L,b.own=false∧X5 W b:=by
  intro L
  induction L with
  |nil=>intro _ b hb;cases hb
  |cons a L ih=>
   intro h b hb;rcases List.mem_cons.1 hb with rfl|hb
   ·exact h.1
   ·exact ih h.2 b hb
 exact quh (fun b hb=>(key L h b hb).1) (fun b hb=>(key L h b hb).2)
def U8{W:World}{b:Option Nat}{e N:Nat}{cs:List Value}(he:e<cO)(h1:∀g,b=some g->tq (Bs.of W) W ⟨b,e,cs,N,false⟩ g)(h2:b=none->cs=[]∧N=0):X5 W ⟨b,e,cs,N,false⟩:=
 ⟨h1,fun hn=>⟨(h2 hn).1,(h2 hn).2,fun T _ he'=>absurd (he'▸he) (ML T)⟩⟩
section
variable{H:Type}{enc:TypeId×Value->H}{w:World}
theorem ce3:Tryz.prog.cellsOf 3=1:=ak
theorem ce5:Tryz.prog.cellsOf 5=1:=ak
theorem qyI:Tryz.prog.cellsOf 22=1:=ak
theorem qyJ:Tryz.prog.cellsOf 24=4:=ak
theorem qyK:Tryz.prog.cellsOf 26=9:=ak
theorem qwA:Tryz.prog.cellsOf 55=4:=ak
theorem qwB:Tryz.prog.cellsOf 86=4:=ak
abbrev Rd(w:World)(enc:TypeId×Value->H)(fuel t:Nat)(cs:List Value)(x:DataW H×List MemPlace):Prop:=DataW.trod enc Tryz.prog w 0 (fun _=>true) true fuel t cs=some x
def oU8{fuel:Nat}{c:Value}{x:DataW H×List MemPlace}(h:Rd w enc fuel 5 [c] x):∃m:Nat,m<256∧c= .int .u8 (m:Nat):=by
 obtain⟨n,e,_,hk⟩:=DataW.trod_int Tryz.underlying5 h;simp only[Lit.wf,Bool.and_eq_true,decide_eq_true_eq] at hk;have h1:0<=n:=hk.1;have h2:n<=255:=hk.2;refine⟨n.toNat,ae,?_⟩;rw[Int.toNat_of_nonneg h1]
 simpa using e
def qwC{fuel:Nat}{c:Value}{x:DataW H×List MemPlace}(h:Rd w enc fuel 3 [c] x):∃n:Int,(-9223372036854775808<=n∧n<=9223372036854775807)∧c= .int .i64 n:=by
 obtain⟨n,e,_,hk⟩:=DataW.trod_int Tryz.underlying3 h;simp only[Lit.wf,Bool.and_eq_true,decide_eq_true_eq] at hk;exact⟨n,hk,by simpa using e⟩
def qyL{fuel:Nat}{cs:List Value}{x:DataW H×List MemPlace}(h:Rd w enc fuel 86 cs x):∃s:ug,okS s∧cs=jZ s:=by
 obtain⟨xs,n,_,rfl,hl,hlen,hf⟩:=DataW.trod_struct Tryz.underlying86 h;rw[qwB] at hl
 match cs,hl,xs,hlen with
 |[c0,c1,c2,c3],_,[y0,y1,y2,y3],_=>
  have f0:Rd w enc n 5 ((([c0,c1,c2,c3]:List Value).drop 0).take (Tryz.prog.cellsOf 5)) y0:=hf 0 _ rfl;have f1:Rd w enc n 5 ((([c0,c1,c2,c3]:List Value).drop 1).take (Tryz.prog.cellsOf 5)) y1:=hf 1 _ rfl;have f2:Rd w enc n 5 ((([c0,c1,c2,c3]:List Value).drop 2).take (Tryz.prog.cellsOf 5)) y2:=hf 2 _ rfl;have f3:Rd w enc n 5 ((([c0,c1,c2,c3]:List Value).drop 3).take (Tryz.prog.cellsOf 5)) y3:=hf 3 _ rfl;rw[ce5] at f0 f1 f2 f3;obtain⟨a,ha,rfl⟩:=oU8 f0;obtain⟨b,hb,rfl⟩:=oU8 f1;obtain⟨c,hc,rfl⟩:=oU8 f2;obtain⟨d,hd,rfl⟩:=oU8 f3;exact⟨⟨a,b,c,d⟩,⟨ha,hb,hc,hd⟩,rfl⟩
structure qpK(w:World)(l:List ug)(b:Option Nat)(pre:List Value)(N cap:Nat):Prop where
 le:l.length<=cap
 ok:∀s∈l,okS s
 blk:X5 w ⟨b,86,pre++ai jZ l,N,false⟩
def qui{r:Reach}{b0 fuel:Nat}{v:Value}{x:DataW H×List MemPlace}(hval:Cell.ok Tryz.prog w r b0 22 v)(h:Rd w enc fuel 22 [v] x):
 ∃(l:List ug) (b:Option Nat) (pre:List Value) (N cap:Nat),v=aB b pre.length l.length cap∧qpK w l b pre N cap:=by
 rcases DataW.trod_slice Tryz.underlying22 h with⟨h1,_⟩|⟨a,len,cap,elems,rest,m,hm,h1,h2,_,hlc,_,hel,hx,_,_⟩
 ·obtain rfl:v= .slice none 0 0:=by simpa using h1
  exact⟨[],none,[],0,0,rfl,Nat.le_refl _,bz,U8 au (fun g hg=>by cases hg) fun _=>⟨rfl,rfl⟩⟩
 ·obtain rfl:v= .slice (some a) len cap:=by simpa using h1
  rw[qwB] at hx;obtain⟨F,hF⟩:=qlS (α:=ug) ⟨0,0,0,0⟩ (n:=len) (p:=fun i s=>okS s∧w.cells? 0 (a.add (i*4)) 4=some (jZ s)) (fun i hi=>by
 obtain⟨y,hy⟩:∃y,elems[i]? =some y:=⟨_,List.getElem?_eq_getElem (by omega)⟩;have hxi:=hx i hi;rw[hy] at hxi;obtain⟨row,r1,r2⟩:=Option.bind_eq_some_iff.1 hxi;obtain⟨s,hs,rfl⟩:=qyL r2;exact⟨s,hs,r1⟩)
  by_cases h0:len=0
  ·subst h0;unfold Cell.ok at hval;rw[Tryz.underlying22] at hval;obtain⟨g,pre,N,rfl,hB⟩:=qpJ hval.2.2;exact⟨[],some g,pre,N,cap,rfl,Nat.zero_le _,bz,U8 au (fun g' hg'=>by cases hg';exact hB) fun h=>Ak⟩
  ·have hSB:ai jZ ((List.range len).map F)=(List.range len).flatMap fun i=>jZ (F i):=by
    unfold ai;rw[List.flatMap_map]
   have hlen:((List.range len).map F).length=len:=bz;have hne:ai jZ ((List.range len).map F)≠[]:=fun e=>by
    have:=congrArg List.length e;rw[jU.length,hlen] at this;simp at this;omega
   obtain⟨g,pre,N,rfl,hB⟩:=qlT (w:=w) (a:=a) 86 au hne (by
 rw[hSB];exact qaU (k:=4) (fun i hi=>(hF i hi).2) (fun i hi=>rfl) (by decide))
   refine⟨(List.range len).map F,some g,pre,N,cap,by rw[hlen];rfl,by rw[hlen];exact hlc,fun s hs=>?_,U8 au (fun g' hg'=>by cases hg';exact hB) fun h=>Ak⟩
   obtain⟨i,hi,rfl⟩:=List.mem_map.1 hs;exact(hF i (List.mem_range.1 hi)).1
def qwD{r:Reach}{b0 fuel:Nat}{c0 c1 c2 c3:Value}{x:DataW H×List MemPlace}(hval:Cell.ok Tryz.prog w r b0 22 c3)(h:Rd w enc fuel 24 [c0,c1,c2,c3] x):
 ∃(t x y:Nat) (l:List ug) (b:Option Nat) (pre:List Value) (N cap:Nat),(t<256∧x<256∧y<256)∧[c0,c1,c2,c3]=[.int .u8 (t:Nat),.int .u8 (x:Nat),.int .u8 (y:Nat),aB b pre.length l.length cap]∧qpK w l b pre N cap:=by
 obtain⟨xs,n,_,rfl,hl,hlen,hf⟩:=DataW.trod_struct Tryz.underlying24 h
 match xs,hlen with
 |[y0,y1,y2,y3],_=>
  have f0:Rd w enc n 5 ((([c0,c1,c2,c3]:List Value).drop 0).take (Tryz.prog.cellsOf 5)) y0:=hf 0 _ rfl;have f1:Rd w enc n 5 ((([c0,c1,c2,c3]:List Value).drop 1).take (Tryz.prog.cellsOf 5)) y1:=hf 1 _ rfl;have f2:Rd w enc n 5 ((([c0,c1,c2,c3]:List Value).drop 2).take (Tryz.prog.cellsOf 5)) y2:=hf 2 _ rfl;have f3:Rd w enc n 22 ((([c0,c1,c2,c3]:List Value).drop 3).take (Tryz.prog.cellsOf 22)) y3:=hf 3 _ rfl;rw[ce5] at f0 f1 f2;rw[qyI] at f3;obtain⟨a,ha,rfl⟩:=oU8 f0;obtain⟨b,hb,rfl⟩:=oU8 f1;obtain⟨c,hc,rfl⟩:=oU8 f2;obtain⟨l,bb,pre,N,cap,rfl,hs⟩:=qui hval f3;exact⟨a,b,c,l,bb,pre,N,cap,⟨ha,hb,hc⟩,rfl,hs⟩
def qpL{r:Reach}{b0:Nat}{v:Value}{d:DataW H}{ps:List MemPlace}(hval:Value.okWide Tryz.prog w r b0 26 v)(hd:DataW.Trod enc Tryz.prog w 0 (fun _=>true) true 26 v d ps):
 ∃(ta xa ya tb xb yb ch:Nat) (a b:List ug) (ab:Option Nat) (pa:List Value) (aN ac:Nat) (bb:Option Nat) (pb:List Value) (bN bc:Nat),(ta<256∧xa<256∧ya<256∧tb<256∧xb<256∧yb<256∧ch<256)∧
  v= .agg #[.int .u8 (ta:Nat),.int .u8 (xa:Nat),.int .u8 (ya:Nat),aB ab pa.length a.length ac,.int .u8 (tb:Nat),.int .u8 (xb:Nat),.int .u8 (yb:Nat),aB bb pb.length b.length bc,.int .u8 (ch:Nat)]∧qpK w a ab pa aN ac∧qpK w b bb pb bN bc:=by
 obtain⟨cs,rfl,hcs⟩:=okWide_struct Tryz.underlying26 hval;obtain⟨fuel,hf⟩:=hd;have hrow:Row.okWide Tryz.prog w r b0 26 cs:=by
  unfold Value.okWide at hval;rw[Tryz.underlying26] at hval;obtain⟨cs',e,_,h⟩:=hval;cases e;exact h
 obtain⟨ts,hts,_,hall⟩:=hrow;obtain rfl:ts=[5,5,5,22,5,5,5,22,5]:=Option.some.inj (hts.symm.trans (show Tryz.prog.cellTypes Tryz.prog.depth 26=some [5,5,5,22,5,5,5,22,5] by kernel_rfl));obtain⟨xs,n,hn,hx,hl,hlen,hf⟩:=DataW.trod_struct Tryz.underlying26 hf;rw[qyK] at hl;obtain⟨cl⟩:=cs
 match cl,hl,xs,hlen with
 |[c0,c1,c2,c3,c4,c5,c6,c7,c8],_,[y0,y1,y2],_=>
  have f0:Rd w enc n 24 ((([c0,c1,c2,c3,c4,c5,c6,c7,c8]:List Value).drop 0).take (Tryz.prog.cellsOf 24)) y0:=hf 0 _ rfl;have f1:Rd w enc n 24 ((([c0,c1,c2,c3,c4,c5,c6,c7,c8]:List Value).drop 4).take (Tryz.prog.cellsOf 24)) y1:=hf 1 _ rfl;have f2:Rd w enc n 5 ((([c0,c1,c2,c3,c4,c5,c6,c7,c8]:List Value).drop 8).take (Tryz.prog.cellsOf 5)) y2:=hf 2 _ rfl;rw[qyJ] at f0 f1;rw[ce5] at f2;obtain⟨u3,hu3,hok3⟩:=hall 3 c3 rfl;obtain rfl:u3=22:=(by simpa using hu3.symm);obtain⟨u7,hu7,hok7⟩:=hall 7 c7 rfl;obtain rfl:u7=22:=(by simpa using hu7.symm);have ok:∀c,Cell.okWide Tryz.prog w r b0 22 c->Cell.ok Tryz.prog w r b0 22 c:=fun c hok=>by
   unfold Cell.okWide at hok;rw[Tryz.underlying22] at hok;exact hok
  obtain⟨ta,xa,ya,a,ab,pa,aN,ac,⟨h1,h2,h3⟩,e1,sa⟩:=qwD (ok c3 hok3) f0;obtain⟨tb,xb,yb,b,bb,pb,bN,bc,⟨h4,h5,h6⟩,e2,sb⟩:=qwD (ok c7 hok7) f1;obtain⟨ch,h7,rfl⟩:=oU8 f2;simp only[List.cons.injEq,and_true] at e1 e2;obtain⟨rfl,rfl,rfl,rfl⟩:=e1;obtain⟨rfl,rfl,rfl,rfl⟩:=e2;exact⟨ta,xa,ya,tb,xb,yb,ch,a,b,ab,pa,aN,ac,bb,pb,bN,bc,⟨h1,h2,h3,h4,h5,h6,h7⟩,rfl,sa,sb⟩
end
end Go.Proofs.YtaffcpfhedadhaaGreatDoor
namespace Go.Via
open Go
def ckI(i:Iv):Int:=if(bK i.f&&bK i.t)=false then 5 else if ja i=false then 10 else 0
section
variable{l:List (Iv×Qd)}{pv:Option Iv}{p:iT}
def SI{i:Iv}(h:ckI i=0):bK i.f=true∧bK i.t=true∧ja i=true:=by
 unfold ckI at h;cases h1:bK i.f<;>cases h2:bK i.t<;>cases h3:ja i<;>simp[h1,h2,h3] at h ⊢
def qyM(h:ckI p.i≠0):jY l pv p=ckI p.i:=by
 unfold jY ckI at*;exact qlH
def qwE(h:ckI p.i=0)(h2:(bK p.a&&bK p.b)=false):jY l pv p=5:=by
 obtain⟨a,b,c⟩:=SI h;unfold jY;rw[a,b,c,h2];rfl
def qyN(h:ckI p.i=0)(h2:(bK p.a&&bK p.b)=true)(h4:ul pv p.i=true):jY l pv p=7:=by
 obtain⟨a,b,c⟩:=SI h;unfold jY;rw[a,b,c,h2,h4];rfl
def qwF(h:ckI p.i=0)(h2:(bK p.a&&bK p.b)=true)(h4:ul pv p.i=false)(h5:o8 l p=true):jY l pv p=0:=by
 obtain⟨a,b,c⟩:=SI h;unfold jY;rw[a,b,c,h2,h4,h5];rfl
def qrn(h:ckI p.i=0)(h2:(bK p.a&&bK p.b)=true)(h4:ul pv p.i=false)(h5:o8 l p=false):jY l pv p=30:=by
 obtain⟨a,b,c⟩:=SI h;unfold jY;rw[a,b,c,h2,h4,h5];rfl
def qpM(h:jY l pv p=0):ja p.i=true:=by
 unfold jY at h;exact qlH
end
def shP(p:iT)(x:Iv×Qd):Bool:=rO x.1 p.i&&decide (aW (p.i,x.2)=p)
def ckB(cb:Option Nat):Nat->Option Addr
 |0=>none
 |i+1=>some ⟨cb.getD 0,i*38,none⟩
section
variable{a b:List PU}{c:List iT}{m:Rl}
def qwG(h:(aA a b).length=0):36=qQ a b c m:=by unfold qQ;rw[if_pos qkD]
theorem X6(h:(aA a b).length≠0):¬(aA a b).isEmpty=true:=fun e=>h (by rw[List.isEmpty_iff.1 e];rfl)
def qyO{e:Int}(h:(aA a b).length≠0)(hl:fD (jY (aA a b)) none c=e)(h0:e≠0):e=qQ a b c m:=by unfold qQ;rw[if_neg (X6 h),hl,if_pos h0]
def qwH(h:(aA a b).length≠0)(hl:fD (jY (aA a b)) none c=0)(hn:dY (c.map (·.i))≠dY ((aA a b).map (·.1))):12=qQ a b c m:=by
 unfold qQ;rw[if_neg (X6 h),hl,if_neg au,if_pos hn]
def qyP(h:(aA a b).length≠0)(hl:fD (jY (aA a b)) none c=0)(hn:dY (c.map (·.i))=dY ((aA a b).map (·.1)))(hm:bK m=false):5=qQ a b c m:=by
 unfold qQ;rw[if_neg (X6 h),hl,if_neg au,if_neg (fun k=>k hn),if_pos hm]
def qwI(h:(aA a b).length≠0)(hl:fD (jY (aA a b)) none c=0)(hn:dY (c.map (·.i))=dY ((aA a b).map (·.1)))(hm:bK m=true)(hx:m≠fB c):30=qQ a b c m:=by
 unfold qQ;rw[if_neg (X6 h),hl,if_neg au,if_neg (fun k=>k hn),hm,if_neg au,if_pos hx]
def qyQ(h:(aA a b).length≠0)(hl:fD (jY (aA a b)) none c=0)(hn:dY (c.map (·.i))=dY ((aA a b).map (·.1)))(hm:bK m=true)(hx:m=fB c):0=qQ a b c m:=by
 unfold qQ;rw[if_neg (X6 h),hl,if_neg au,if_neg (fun k=>k hn),hm,if_neg au,if_neg (fun k=>k hx)]
def qpN{S:Rl->Prop}{ρ:Rl->Int}(T:dM S ρ)(hP:∀x∈aA a b,(S x.1.f∧S x.1.t)∧aI ρ x.1.b<aI ρ x.1.e)(h:(aA a b).length≠0)(hn:dY (c.map (·.i))=dY ((aA a b).map (·.1))):0<c.length:=by
 rcases Nat.eq_zero_or_pos c.length with h0|h0
 ·rw[List.length_eq_zero_iff.1 h0] at hn;have hS:fU S ((aA a b).map (·.1)):=fun i hi=>by obtain⟨x,hx,rfl⟩:=List.mem_map.1 hi;exact(hP x hx).1
  have hO:IG ρ ((aA a b).map (·.1)):=fun i hi=>by obtain⟨x,hx,rfl⟩:=List.mem_map.1 hi;exact(hP x hx).2
  have:=Ku T hS hO;rw[<-hn] at this;have e:(dY (([]:List iT).map (·.i))).isEmpty=true:=rfl;rw[e] at this;have e2:=List.isEmpty_iff.1 this.symm;exact absurd (by simpa using congrArg List.length e2) h
 ·exact h0
end
end Go.Via
namespace Go.Proofs.YtaffcpfhedadhaaGreatDoor
def qwJ:Tryz.prog.underlying 103=some (.pointer 63):=ak
open Go Go.Via
def qrp{S:Rl->Prop}{ρ:Rl->Int}(T:dM S ρ){x p:Iv}{v:Bool}(hx:S x.f∧S x.t)(hp:S p.f∧S p.t)(ox:aI ρ x.b<aI ρ x.e)(op:aI ρ p.b<aI ρ p.e)(sx:gV x<=50000)(sp:gV p<=50000)(h:rO x p=v)(gx gp:Nat):
 bQ Tryz.prog 102 [⟨some gx,61,aZ x,20,false⟩,⟨some gp,61,aZ p,20,false⟩] [aB (some gx) 0 1 1,aB (some gp) 0 1 1] Unit (fun _=> .bool v) (fun _=>[]):=by
 subst h;exact Lh T [x] (some gx) 20 1 (Nat.le_refl _) bz [p] (some gp) 20 1 (Nat.le_refl _) bz (Hz hx) (Hz hp) (fun j hj=>by rw[List.mem_singleton.1 hj];exact ox) (fun j hj=>by rw[List.mem_singleton.1 hj];exact op) (fun j hj=>by rw[List.mem_singleton.1 hj];exact sx) (fun j hj=>by rw[List.mem_singleton.1 hj];exact sp)
end Go.Proofs.YtaffcpfhedadhaaGreatDoor
namespace Go.Proofs.YtaffcpfhedadhaaGreatDoor
open Go Go.RowKit Go.Via
def PN{S:Rl->Prop}{ρ:Rl->Int}(T:dM S ρ)(l:List (Iv×Qd))(lb:Option Nat)(lN lc:Nat)(hlc:l.length<=lc)(hln:l.length<=1000)(hlS:∀x∈l,(S x.1.f∧S x.1.t)∧aI ρ x.1.b<aI ρ x.1.e)(hlz:∀x∈l,gV x.1<=1000∧ve x.2<=10000)(c:List iT)(cb:Option Nat)(cN cc:Nat)(hcc:c.length<=cc)(hcn:c.length<=1000)(p:iT)(hp:S p.i.f∧S p.i.t)(hpz:gV p.i<=5000∧eU p.a<=5000∧eU p.b<=5000):bQ Tryz.prog 48 [⟨lb,93,ai FO l,lN,false⟩,⟨cb,63,ai bg c,cN,false⟩] [aB lb 0 l.length lc,Kt p,.pointer none] Unit (fun _=> .int .i64 (jY l none p)) (fun _=>[]):=by
 refine⟨ak,fun w hL0=>?_⟩;obtain⟨hz1,hz2,hz3⟩:=hpz;refine cB3 63 Tryz.func48 hL0 ?_;refine A2 ?_;refine Bp 38 (fun g0=>?_);refine A7 ?_;refine zO 2 0 ?_;refine Pc (qK p.i) ?_;refine A9 ?_;refine Cd ?_ ?_<;>intro haQ
 ·exact qlF
 ·have r1:ckI p.i=0:=qaP
  obtain⟨r2,r3,r4⟩:=SI r1;have hpo:=(oQ T hp.1 hp.2).1 r4;refine A7 ?_;refine L9 2 20 ?_;refine Pc (jd p.a) ?_;refine A2 ?_;refine Rs 21 ?_ ?_<;>intro hbQ
  ·exact qlE
  ·have r5:bK p.a=true:=qaQ
   refine A1 ?_;refine L9 2 29 ?_;refine Pc (jd p.b) ?_;refine A5 ?_;refine Cd ?_ ?_<;>intro hcQ
   ·exact qlD
   ·have r6:bK p.b=true:=qaR
    refine A1 ?_;refine wE ?_;refine DY qwJ rfl rfl rfl rfl rfl ?_;refine A26 ?_;refine El (ι:={i:Nat // i<=l.length∧o8 l p=(l.drop i).any (shP p)}) (fun⟨i,hi,hI⟩=>([(0,aB lb 0 l.length lc),(40,aB lb 0 l.length lc),(41,bF (l.length)),(42,bF i),(4,dA g0)],[⟨lb,93,ai FO l,lN,false⟩,⟨cb,63,ai bg c,cN,false⟩,⟨some g0,63,bg p,38,true⟩],l.length-i)) ⟨0,Nat.zero_le _,rfl⟩ ?_ (hL:=fE.auto);rintro⟨i,hi,hI⟩;(try dsimp only);refine A6 ?_;refine Cd ?_ ?_<;>intro hdQ
    ·have hlt:i<l.length:=xM;obtain⟨x,hx⟩:∃x,l[i]? =some x:=⟨l[i],List.getElem?_eq_getElem hlt⟩;obtain⟨hxS,hxo⟩:=hlS x (List.mem_of_getElem? hx);obtain⟨hxz,hxf⟩:=hlz x (List.mem_of_getElem? hx);refine dK 0 rfl (um.ne au ae) (fun hbs=>?_);obtain⟨gl,hgl⟩:=Option.isSome_iff_exists.1 hbs;replace hgl:lb=some gl:=hgl;subst hgl;refine qaN ?_;refine Al 32 z93 (fun g1=>?_);refine qlN ?_;refine qM fun g2=>?_;refine Pi fun g3=>?_;refine(Sd [4,5]) (qrp T hxS hp hxo hpo ae ae rfl g2 g3) ?_;refine A1 ?_;refine Rs 53 ?_ ?_<;>intro heQ
     ·have r8:rO x.1 p.i=true:=heQ;refine qlK ?_;refine Cd ?_ ?_<;>intro hfQ
      ·have r9:decide (aW (p.i,x.2)=p)=true:=hfQ;have hyes:shP p x=true:=qaS
       refine qX ?_;refine aH rfl (ax rfl) (fun w hL=>⟨(),?_,hL.pk []⟩);exact congrArg (fun e:Int=>Ending.returned (.int .i64 e)) (qwF r1 PM rfl (by rw[hI,Ib hx,hyes];rfl)).symm
      ·have r9:decide (aW (p.i,x.2)=p)=false:=hfQ;exact qlJ
     ·have r8:rO x.1 p.i=false:=heQ;exact qlI
    ·have hge:i=l.length:=yX;subst hge;refine qX ?_;refine aH rfl (ax rfl) (fun w hL=>⟨(),?_,hL.pk []⟩);exact congrArg (fun e:Int=>Ending.returned (.int .i64 e)) (qrn r1 PM rfl (by rw[hI,List.drop_length];rfl)).symm
def PO{S:Rl->Prop}{ρ:Rl->Int}(T:dM S ρ)(l:List (Iv×Qd))(lb:Option Nat)(lN lc:Nat)(hlc:l.length<=lc)(hln:l.length<=1000)(hlS:∀x∈l,(S x.1.f∧S x.1.t)∧aI ρ x.1.b<aI ρ x.1.e)(hlz:∀x∈l,gV x.1<=1000∧ve x.2<=10000)(c:List iT)(gc cN cc:Nat)(hcc:c.length<=cc)(hcn:c.length<=1000)(p:iT)(hp:S p.i.f∧S p.i.t)(hpz:gV p.i<=5000∧eU p.a<=5000∧eU p.b<=5000)(j:Nat)(q:iT)(hq:c[j]? =some q)(hqz:gV q.i<=50000:=by omega):bQ Tryz.prog 48 [⟨lb,93,ai FO l,lN,false⟩,⟨some gc,63,ai bg c,cN,false⟩] [aB lb 0 l.length lc,Kt p,.pointer (some ⟨gc,j*38,none⟩)] Unit (fun _=> .int .i64 (jY l (some q.i) p)) (fun _=>[]):=by
 refine⟨ak,fun w hL0=>?_⟩;obtain⟨hz1,hz2,hz3⟩:=hpz;refine cB3 63 Tryz.func48 hL0 ?_;refine A2 ?_;refine Bp 38 (fun g0=>?_);refine A7 ?_;refine zO 2 0 ?_;refine Pc (qK p.i) ?_;refine A9 ?_;refine Cd ?_ ?_<;>intro haQ
 ·exact qlF
 ·have r1:ckI p.i=0:=qaP
  obtain⟨r2,r3,r4⟩:=SI r1;have hpo:=(oQ T hp.1 hp.2).1 r4;refine A7 ?_;refine L9 2 20 ?_;refine Pc (jd p.a) ?_;refine A2 ?_;refine Rs 21 ?_ ?_<;>intro hbQ
  ·exact qlE
  ·have r5:bK p.a=true:=qaQ
   refine A1 ?_;refine L9 2 29 ?_;refine Pc (jd p.b) ?_;refine A5 ?_;refine Cd ?_ ?_<;>intro hcQ
   ·exact qlD
   ·have r6:bK p.b=true:=qaR
    refine A1 ?_;refine wE ?_;refine DY qwJ rfl rfl rfl rfl rfl ?_;refine A3 ?_;refine Fg (j*38) 0 ?_;refine aT (v:=lC q.i) 1 (j*38) _ rfl rfl rfl rfl o7 (bP.sub hq 0 20 au) rfl au rfl ?_;refine A1 ?_;refine zO 2 0 ?_;refine Pc (Es q.i p.i) ?_;refine A5 ?_;refine Cd ?_ ?_<;>intro hdQ
    ·have r7:ul (some q.i) p.i=true:=hdQ;refine A8 ?_;refine aH rfl (ax rfl) (fun w hL=>⟨(),?_,hL.pk []⟩);exact congrArg (fun e:Int=>Ending.returned (.int .i64 e)) (qyN r1 PM r7).symm
    ·have r7:ul (some q.i) p.i=false:=hdQ;refine oH ?_;refine El (ι:={i:Nat // i<=l.length∧o8 l p=(l.drop i).any (shP p)}) (fun⟨i,hi,hI⟩=>([(0,aB lb 0 l.length lc),(40,aB lb 0 l.length lc),(41,bF (l.length)),(42,bF i),(4,dA g0)],[⟨lb,93,ai FO l,lN,false⟩,⟨some gc,63,ai bg c,cN,false⟩,⟨some g0,63,bg p,38,true⟩],l.length-i)) ⟨0,Nat.zero_le _,rfl⟩ ?_ (hL:=fE.auto);rintro⟨i,hi,hI⟩;(try dsimp only);refine A6 ?_;refine Cd ?_ ?_<;>intro heQ
     ·have hlt:i<l.length:=Rq;obtain⟨x,hx⟩:∃x,l[i]? =some x:=⟨l[i],List.getElem?_eq_getElem hlt⟩;obtain⟨hxS,hxo⟩:=hlS x (List.mem_of_getElem? hx);obtain⟨hxz,hxf⟩:=hlz x (List.mem_of_getElem? hx);refine dK 0 rfl (um.ne au ae) (fun hbs=>?_);obtain⟨gl,hgl⟩:=Option.isSome_iff_exists.1 hbs;replace hgl:lb=some gl:=hgl;subst hgl;refine qaN ?_;refine Al 32 z93 (fun g1=>?_);refine qlN ?_;refine qM fun g2=>?_;refine Pi fun g3=>?_;refine(Sd [4,5]) (qrp T hxS hp hxo hpo ae ae rfl g2 g3) ?_;refine A1 ?_;refine Rs 53 ?_ ?_<;>intro hfQ
      ·have r8:rO x.1 p.i=true:=hfQ;refine qlK ?_;refine Cd ?_ ?_<;>intro hgQ
       ·have r9:decide (aW (p.i,x.2)=p)=true:=hgQ;have hyes:shP p x=true:=qaS
        refine qX ?_;refine aH rfl (ax rfl) (fun w hL=>⟨(),?_,hL.pk []⟩);exact congrArg (fun e:Int=>Ending.returned (.int .i64 e)) (qwF r1 PM r7 (by rw[hI,Ib hx,hyes];rfl)).symm
       ·have r9:decide (aW (p.i,x.2)=p)=false:=hgQ;exact qlJ
      ·have r8:rO x.1 p.i=false:=hfQ;exact qlI
     ·have hge:i=l.length:=Rt;subst hge;refine qX ?_;refine aH rfl (ax rfl) (fun w hL=>⟨(),?_,hL.pk []⟩);exact congrArg (fun e:Int=>Ending.returned (.int .i64 e)) (qrn r1 PM r7 (by rw[hI,List.drop_length];rfl)).symm
end Go.Proofs.YtaffcpfhedadhaaGreatDoor
namespace Go.Proofs.YtaffcpfhedadhaaGreatDoor
open Go Go.RowKit Go.Via
def U9{S:Rl->Prop}{ρ:Rl->Int}(T:dM S ρ)(l:List (Iv×Qd))(lb:Option Nat)(lN lc:Nat)(hlc:l.length<=lc)(hln:l.length<=1000)(hlS:∀x∈l,(S x.1.f∧S x.1.t)∧aI ρ x.1.b<aI ρ x.1.e)(hlz:∀x∈l,gV x.1<=1000∧ve x.2<=10000)
 (c:List iT)(gc cN cc:Nat)(hcc:c.length<=cc)(hcn:c.length<=1000)(hcz:∀q∈c,gV q.i<=50000)(p:iT)(hp:S p.i.f∧S p.i.t)(hpz:gV p.i<=5000∧eU p.a<=5000∧eU p.b<=5000)(i:Nat)(hi:i<=c.length):
 bQ Tryz.prog 48 [⟨lb,93,ai FO l,lN,false⟩,⟨some gc,63,ai bg c,cN,false⟩] [aB lb 0 l.length lc,Kt p,.pointer (ckB (some gc) i)] Unit (fun _=> .int .i64 (jY l (pO c i) p)) (fun _=>[]):=by
 cases i with
 |zero=>exact PN T l lb lN lc hlc hln hlS hlz c (some gc) cN cc hcc hcn p hp hpz
 |succ i=>
  have hq:c[i]? =some c[i]:=List.getElem?_eq_getElem hi;rw[UT hq];exact PO T l lb lN lc hlc hln hlS hlz c gc cN cc hcc hcn p hp hpz i _ hq (hcz _ (List.mem_of_getElem? hq))
def wY{S:Rl->Prop}{ρ:Rl->Int}(T:dM S ρ)(a:List PU)(ab:Option Nat)(aN ac:Nat)(hac:a.length<=ac)(han:a.length<=200)(b:List PU)(bb:Option Nat)(bN bc:Nat)(hbc:b.length<=bc)(hbn:b.length<=200)(hsa:Ee a)(hsb:Ee b)(H:C9 a b)(c:List iT)(cb:Option Nat)(cN cc:Nat)(hcc:c.length<=cc)(hcn:c.length<=400)(m:Rl)(hcz:∀p∈c,gV p.i<=5000∧eU p.a<=5000∧eU p.b<=5000)(hmz:eU m<=5000)(hPS:∀x∈(aA a b),(S x.1.f∧S x.1.t)∧aI ρ x.1.b<aI ρ x.1.e)(hcS:∀p∈c,S p.i.f∧S p.i.t):bQ Tryz.prog 16 [⟨ab,100,ai aK a,aN,false⟩,⟨bb,100,ai aK b,bN,false⟩,⟨cb,63,ai bg c,cN,false⟩] [aB ab 0 a.length ac,aB bb 0 b.length bc,UQ (aB cb 0 c.length cc) m] Unit (fun _=> .int .i64 (qQ a b c m)) (fun _=>[]):=by
 refine⟨ak,fun w hL0=>?_⟩;have hpl:=vG a b;have hpz:=wQ hsa hsb;refine cB3 78 Tryz.func16 hL0 ?_;refine A2 ?_;refine Bp 10 (fun g0=>?_);refine qlO fun zr=>?_;obtain⟨rb,rN,rc,hrc⟩:=zr;refine qX ?_;refine Cd ?_ ?_<;>intro haQ
 ·have hk0:(aA a b).length=0:=yF
  refine A7 ?_;refine aH rfl (ax rfl) (fun w hL=>⟨(),?_,hL.pk []⟩);exact congrArg (fun e:Int=>Ending.returned (.int .i64 e)) (qwG hk0)
 ·have hk0:(aA a b).length≠0:=yF
  refine A23 ?_;refine El (ι:={z:Nat×List Iv×Option Nat×Nat×Nat // z.1<=c.length∧z.2.1=(c.take z.1).map (·.i)∧z.2.1.length<=z.2.2.2.2∧z.2.2.2.2*20<=z.2.2.2.1∧fD (jY (aA a b)) none c=fD (jY (aA a b)) (pO c z.1) (c.drop z.1)∧∀q∈c.take z.1,ja q.i=true}) (fun⟨⟨i,o,ob,oN,oc⟩,hi,hI,h3,h4,hLL,hOK⟩=>([(5,dA g0),(7,aB rb 0 (aA a b).length rc),(8,.pointer (ckB cb i)),(9,aB ob 0 o.length oc),(10,.slice none 0 0),(23,aB cb 0 c.length cc),(24,bF (c.length)),(25,bF i)],[⟨ab,100,ai aK a,aN,false⟩,⟨bb,100,ai aK b,bN,false⟩,⟨cb,63,ai bg c,cN,false⟩,⟨some g0,40,jy (aB cb 0 c.length cc) m,10,true⟩,⟨rb,93,ai FO (aA a b),rN,true⟩,⟨ob,61,ai aZ o,oN,true⟩],c.length-i)) ⟨⟨0,[],none,0,0⟩,Nat.zero_le _,rfl,Nat.le_refl _,bz,rfl,fun q hq=>by simp at hq⟩ ?_ (hL:=(ay [some 0,some 1,some 2,some 3,some 4,none] ⟨pR,pR,pR,pR,pR,⟨rfl,rfl,rfl⟩,trivial⟩ rfl rfl));rintro⟨⟨i,o,ob,oN,oc⟩,hi,hI,h3,h4,hLL,hOK⟩;(try dsimp only);replace hi:i<=c.length:=hi;replace hI:o=(c.take i).map (·.i):=hI;replace h3:o.length<=oc:=h3;replace h4:oc*20<=oN:=h4;replace hLL:fD (jY (aA a b)) none c=fD (jY (aA a b)) (pO c i) (c.drop i):=hLL;replace hOK:∀q∈c.take i,ja q.i=true:=hOK
  have hol:o.length<=400:=Pj;refine A6 ?_;refine Cd ?_ ?_<;>intro hbQ
  ·have hlt:i<c.length:=kN;obtain⟨p,hp⟩:∃p,c[i]? =some p:=⟨c[i],List.getElem?_eq_getElem hlt⟩;have hpm:=List.mem_of_getElem? hp;refine dK 2 rfl (bP.ne au ae) (fun hbs=>?_);obtain⟨gc,hgc⟩:=Option.isSome_iff_exists.1 hbs;replace hgc:cb=some gc:=hgc;subst hgc;refine A7 ?_;refine qlG fun g1=>?_;refine A1 ?_;refine Ss 6 ?_;refine A6 ?_;refine L38 6 0 ?_;refine A1 ?_;refine(Sd [4,2]) (U9 T (aA a b) rb rN rc hrc ae hPS (fun x hx=>⟨Nat.le_trans (hpz x hx).1 ae,Nat.le_trans (hpz x hx).2 ae⟩) c gc cN cc hcc ae (fun q hq=>Nat.le_trans (hcz q hq).1 ae) p (hcS p hpm) (hcz p hpm) i hi) ?_;refine A9 ?_;refine Cd ?_ ?_<;>intro hcQ
   ·have he:jY (aA a b) (pO c i) p≠0:=rX
    refine EE ?_;refine aH rfl (ax rfl) (fun w hL=>⟨(),?_,hL.pk []⟩);exact congrArg (fun e:Int=>Ending.returned (.int .i64 e)) (qyO hk0 (Dc hp hLL rfl he) he)
   ·have he:jY (aA a b) (pO c i) p=0:=rX
    refine A7 ?_;refine qlM ?_;refine A6 ?_;refine zO 6 0 ?_;refine qM fun g2=>?_;refine qlL fun r=>?_;refine qC ?_;exact Nl ⟨⟨i+1,o++[p.i],some r.g,r.n,r.cap⟩,hlt,qlP,jT,r.hn,qq0 hp hLL he,qv3 hp hOK (qpM he)⟩ (hμ:=qlQ) (ht:=⟨rfl,rfl,rfl,(aO rfl kG),rfl,rfl,rfl,rfl,trivial⟩) (hL:=(ay [some 0,some 1,some 2,some 3,some 4,some 5] ⟨pR,pR,pR,pR,pR,⟨_,rfl,aV kH⟩,trivial⟩ rfl rfl))
  ·have hge:i=c.length:=lw;subst hge;have hl0:=qkc hLL;have hoe:o=c.map (·.i):=Ad
   refine FH ?_;refine El (ι:={z:Nat×List Iv×Option Nat×Nat×Nat // z.1<=(aA a b).length∧z.2.1=((aA a b).take z.1).map (·.1)∧z.2.1.length<=z.2.2.2.2∧z.2.2.2.2*20<=z.2.2.2.1}) (fun⟨⟨j,q,qb,qN,qc⟩,hj,hJ,h5,h6⟩=>([(5,dA g0),(7,aB rb 0 (aA a b).length rc),(9,aB ob 0 o.length oc),(10,aB qb 0 q.length qc),(47,aB rb 0 (aA a b).length rc),(48,bF ((aA a b).length)),(49,bF j)],[⟨ab,100,ai aK a,aN,false⟩,⟨bb,100,ai aK b,bN,false⟩,⟨cb,63,ai bg c,cN,false⟩,⟨some g0,40,jy (aB cb 0 c.length cc) m,10,true⟩,⟨rb,93,ai FO (aA a b),rN,true⟩,⟨ob,61,ai aZ o,oN,true⟩,⟨qb,61,ai aZ q,qN,true⟩],(aA a b).length-j)) ⟨⟨0,[],none,0,0⟩,Nat.zero_le _,rfl,Nat.le_refl _,bz⟩ ?_ (hL:=(ay [some 0,some 1,some 2,some 3,some 4,some 5,none] ⟨pR,pR,pR,pR,pR,pR,⟨rfl,rfl,rfl⟩,trivial⟩ rfl rfl));rintro⟨⟨j,q,qb,qN,qc⟩,hj,hJ,h5,h6⟩;(try dsimp only);replace hj:j<=(aA a b).length:=hj;replace hJ:q=((aA a b).take j).map (·.1):=hJ;replace h5:q.length<=qc:=h5;replace h6:qc*20<=qN:=h6;have hql:q.length<=400:=by rw[hJ,List.length_map,List.length_take];omega
   refine A6 ?_;refine Cd ?_ ?_<;>intro hcQ
   ·have hjt:j<(aA a b).length:=tJ;obtain⟨y,hy⟩:∃y,(aA a b)[j]? =some y:=⟨_,List.getElem?_eq_getElem hjt⟩;refine dK 4 rfl (um.ne au ae) (fun hbs=>?_);obtain⟨gr,hgr⟩:=Option.isSome_iff_exists.1 hbs;replace hgr:rb=some gr:=hgr;subst hgr;refine A6 ?_;refine aJ 4 ((j)*32) u88 qdy rfl rfl rfl rfl rfl ae ae (um.ne au ae) (by show 0+Int.toNat _*32=_;omega) ?_;refine aT (v:=PtV y) 4 ((j)*32) _ rfl rfl rfl rfl qdy (um.sub hy 0 32 au) rfl au rfl ?_;refine Al 32 z93 (fun g1=>?_);refine Ss 7 ?_;refine A5 ?_;refine zO 7 0 ?_;refine qM fun g2=>?_;refine(Qa (s:=20) (len:=q.length) (n2:=1) 6 8 (fun r=>[_,_,_,_,_,_,⟨some r.g,61,ai aZ q++aZ (y.1),r.n,true⟩,_,_]) Yb P7) (dw.length q) h5 h6 (dw.one (y.1)) (fun r=>?_);refine A5 ?_;refine PL ?_;exact Nl ⟨⟨j+1,q++[y.1],some r.g,r.n,r.cap⟩,hjt,by show q++[y.1]=((aA a b).take (j+1)).map (·.1);rw[<-fH hy,List.map_append,<-hJ];rfl,jT,r.hn⟩ (hμ:=(by show(aA a b).length-(j+1)<(aA a b).length-j;omega)) (ht:=⟨rfl,rfl,rfl,(aO rfl kG),rfl,rfl,rfl,trivial⟩) (hL:=(ay [some 0,some 1,some 2,some 3,some 4,some 5,some 6] ⟨pR,pR,pR,pR,pR,pR,⟨_,rfl,aV kH⟩,trivial⟩ rfl rfl))
   ·have hge2:j=(aA a b).length:=uC;subst hge2;have hqe:q=(aA a b).map (·.1):=by rw[hJ,List.take_length]
    refine lh ?_;have hoS:fU S o:=fun x hx=>by rw[hoe] at hx;obtain⟨z,hz,rfl⟩:=List.mem_map.1 hx;exact hcS z hz
    have hoK:IG ρ o:=fun x hx=>by rw[hoe] at hx;obtain⟨z,hz,rfl⟩:=List.mem_map.1 hx;exact(oQ T (hcS z hz).1 (hcS z hz).2).1 (hOK z (by rw[List.take_length];exact hz))
    have hoz:∀x∈o,gV x<=50000:=fun x hx=>by rw[hoe] at hx;obtain⟨z,hz,rfl⟩:=List.mem_map.1 hx;exact Nat.le_trans (hcz z hz).1 ae
    have hqS:fU S q:=fun x hx=>by rw[hqe] at hx;obtain⟨z,hz,rfl⟩:=List.mem_map.1 hx;exact(hPS z hz).1
    have hqK:IG ρ q:=fun x hx=>by rw[hqe] at hx;obtain⟨z,hz,rfl⟩:=List.mem_map.1 hx;exact(hPS z hz).2
    have hqz:∀x∈q,gV x<=50000:=fun x hx=>by rw[hqe] at hx;obtain⟨z,hz,rfl⟩:=List.mem_map.1 hx;exact Nat.le_trans (hpz z hz).1 ae
    have hno:=zk orB o [];have hnq:=zk orB q [];replace hno:(dY o).length<=4*o.length:=hno;replace hnq:(dY q).length<=4*q.length:=hnq;refine(Sc [5]) (uz T o ob oN oc h3 ae hoS hoK hoz) (fun z1=>?_);refine A1 ?_;refine(Sc [6]) (uz T q qb qN qc h5 ae hqS hqK hqz) (fun z2=>?_);refine(Sd [7,8]) (O7 (dY o) z1.b z1.n z1.cap z1.h ae (dY q) z2.b z2.n z2.cap z2.h) ?_;refine A4 ?_;refine Cd ?_ ?_<;>intro hdQ
    ·have r8:dY (c.map (·.i))≠dY ((aA a b).map (·.1)):=qlR
     refine A8 ?_;refine aH rfl (ax rfl) (fun w hL=>⟨(),?_,hL.pk []⟩);exact congrArg (fun e:Int=>Ending.returned (.int .i64 e)) (qwH hk0 hl0 r8)
    ·have r8:dY (c.map (·.i))=dY ((aA a b).map (·.1)):=qlR
     have hc0:=qpN T hPS hk0 r8;refine A3 ?_;refine L9 3 1 ?_;refine Pc (jd m hmz) ?_;refine A4 ?_;refine Cd ?_ ?_<;>intro heQ
     ·have r9:bK m=false:=by cases e:bK m<;>simp[e] at heQ ⊢
      refine A8 ?_;refine aH rfl (ax rfl) (fun w hL=>⟨(),?_,hL.pk []⟩);exact congrArg (fun e:Int=>Ending.returned (.int .i64 e)) (qyP hk0 hl0 r8 r9)
     ·have r9:bK m=true:=by cases e:bK m<;>simp[e] at heQ ⊢
      refine A1 ?_;refine wE ?_;refine L9 3 1 ?_;refine A2 ?_;refine(Sd [2]) (rq c cb cN cc hcc ae (fun p hp=>⟨Nat.le_trans (hcz p hp).2.1 ae,Nat.le_trans (hcz p hp).2.2 ae⟩) hc0) ?_;refine BB rfl rfl rfl rfl qsi (qtg _ _) ?_;refine A3 ?_;refine Cd ?_ ?_<;>intro hfQ
      ·have rx:m≠fB c:=JD
       refine A8 ?_;refine aH rfl (ax rfl) (fun w hL=>⟨(),?_,hL.pk []⟩);exact congrArg (fun e:Int=>Ending.returned (.int .i64 e)) (qwI hk0 hl0 r8 r9 rx)
      ·have rx:m=fB c:=JD
       refine A9 ?_;refine aH rfl (ax rfl) (fun w hL=>⟨(),?_,hL.pk []⟩);exact congrArg (fun e:Int=>Ending.returned (.int .i64 e)) (qyQ hk0 hl0 r8 r9 rx)
end Go.Proofs.YtaffcpfhedadhaaGreatDoor
