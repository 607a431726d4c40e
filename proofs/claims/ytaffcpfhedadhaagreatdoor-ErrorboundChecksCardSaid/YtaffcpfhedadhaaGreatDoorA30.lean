/-
  Part 30 (chapter 32): lemmas, walks. Each theorem states its own conditions.
-/
import Derived.Lib.Repeat
import Derived.Shelf.SlSortCmp.WholeK
import Derived.Shelf.SlSortCmp.NoneTotal
import Derived.Sort.Grow
import Derived.Sort.EncStr
import Derived.Test.YtaffcpfhedadhaaGreatDoorA28
import Derived.Test.YtaffcpfhedadhaaGreatDoorA29
set_option linter.all false
set_option maxRecDepth 20000
set_option maxHeartbeats 20000000
section
variable{P Q:Prop}{T:Type}{R:T->Prop}
def qvV(h:P:=by
 refine NI (X:={z:Option Nat×Nat×Nat×Nat // 0+k+1+(o.length-k)<=z.2.2.1∧z.2.2.1*9<=z.2.1}) (l':=[⟨_,_,_,_,_,_⟩,⟨_,_,_,_,_,_⟩,⟨_,_,_,_,_,_⟩,⟨_,_,_,_,_,_⟩,⟨_,_,_,_,_,_⟩,⟨_,_,_,_,_,_⟩,⟨_,_,_,_,_,_⟩,⟨_,_,_,_,_,_⟩]) (fun⟨⟨rb,rn,rc,gx⟩,rh,rhn⟩=>[(0,aB lb 0 l.length lc),(3,aB rb 0 (0+k+1+(o.length-k)) rc),(4,bF i)]) (fun⟨⟨rb,rn,rc,gx⟩,rh,rhn⟩=>[⟨lb,38,ai kQ l,lN,false⟩,⟨ob,38,ai kQ o,oN,true⟩,⟨rb,38,(ai kQ (o.take k)++kQ x)++ai kQ (o.drop k),rn,true⟩,⟨some gx,38,kQ x,9,true⟩]) [1,2,3,5,6,11,12,13] 8 mixed ak rfl ?_ ?_
 ·exact qyh
 rintro⟨⟨rb,rn,rc,gx⟩,rh,rhn⟩;show At _ ⟨62,[(0,aB lb 0 l.length lc),(3,aB rb 0 (0+k+1+(o.length-k)) rc),(4,bF i)],[⟨lb,38,ai kQ l,lN,false⟩,⟨ob,38,ai kQ o,oN,true⟩,⟨rb,38,(ai kQ (o.take k)++kQ x)++ai kQ (o.drop k),rn,true⟩,⟨some gx,38,kQ x,9,true⟩]⟩ _;refine vW ?_;exact Nl ⟨⟨i+1,o.take k++x::o.drop k,rb,rn,rc⟩,hlt,by show _=dX (l.take (i+1));rw[XH hx,<-hI,hins],by have:=rh;simp at this ⊢;omega,rhn⟩ (hμ:=nJ) (ht:=⟨rfl,(aO rfl (by show aB rb 0 (0+k+1+(o.length-k)) rc=aB rb 0 (o.take k++x::o.drop k).length rc;congr 1;simp;omega)),rfl,trivial⟩) (hL:=(ay [some 0,some 2] ⟨pR,⟨_,rfl,aV (by rw[pK,iL,List.append_assoc])⟩,trivial⟩ rfl rfl))):=h
def qyh(h:P:=by
 refine A2 ?_;refine yP k Eg jk rfl rfl rfl rfl ae ae rfl ?_;refine A4 ?_;refine GV k Eg jk rfl rfl rfl rfl ae rfl rfl rfl ?_;refine A1 ?_
 repeat' first
  |exact⟨⟨(r3.b,r3.n,r3.cap,g1),r3.h,r3.hn⟩,rfl,⟨rfl,rfl,rfl,trivial⟩,qjG⟩
  |exact⟨⟨(r3.b,r3.n,r3.cap,g0),r3.h,r3.hn⟩,rfl,⟨rfl,rfl,rfl,trivial⟩,qjG⟩
  |refine Tc ?_
  |refine Nh rfl rfl rfl ?_
  |refine(Bl 9 [(0,_)]) (TA) (fun g1=>?_)
  |refine jl (s:=9) (len:=0+k) (n2:=1) 2 3 (kQ x) (fun r2=>[_,_,⟨r2.b,38,ai kQ (o.take k)++kQ x,r2.n,true⟩,_]) Eg VO rfl rfl rfl rfl rfl rfl rfl rfl rfl rfl (by rw[gZ.lenTake hk,Nat.zero_add]) r.h r.hn (.inr ⟨_,rfl⟩) rfl rfl (gZ.one x) ae (fun _=>rfl) (fun r2=>?_)
  |refine(Qo (s:=9) (len:=0+k+1) 2 1 (ai kQ (o.drop k)) (fun r3=>[_,_,⟨r3.b,38,(ai kQ (o.take k)++kQ x)++ai kQ (o.drop k),r3.n,true⟩,_]) Eg VO) qjH r2.h r2.hn qaf (gZ.dropT h3 hk) (gZ.lenDrop o k) (gZ.ones _) (fun r3=>?_)
  |refine jl (s:=9) (len:=0) 2 1 (ai kQ (o.take k)) (fun r=>[_,_,⟨r.b,38,ai kQ (o.take k),r.n,true⟩]) Eg VO rfl rfl rfl rfl rfl rfl rfl rfl rfl rfl rfl (Nat.le_refl _) (Nat.le_refl _) (hobs.imp (fun e=>ae) id) (gZ.takeR o k) (gZ.lenTake hk) (gZ.ones _) ae (fun _=>rfl) (fun r=>?_)
  |refine aT (v:=RV x) 0 ((i)*9) _ rfl rfl rfl rfl jk (gZ.sub hx 0 9 au) rfl au rfl ?_
  |refine(Bl 0 []) (qby) (fun g0=>?_)
  |refine aJ 0 ((i)*9) Eg jk rfl rfl rfl rfl rfl ae ae (gZ.ne au ae) Ju ?_
  |refine jl (s:=9) (len:=0) 2 1 (ai kQ (o.take k)) (fun r=>[_,_,⟨r.b,38,ai kQ (o.take k),r.n,true⟩,_]) Eg VO rfl rfl rfl rfl rfl rfl rfl rfl rfl rfl rfl (Nat.le_refl _) (Nat.le_refl _) (hobs.imp (fun e=>ae) id) (gZ.takeR o k) (gZ.lenTake hk) (gZ.ones _) ae (fun _=>rfl) (fun r=>?_)
  |refine(Bl 9 [(0,_)]) (TA) (fun g0=>?_)
  |refine(Bl 0 []) (qby) (fun g1=>?_)
  |refine jl (s:=9) (len:=0) 3 1 (ai kQ (o.take k)) (fun r=>[_,_,_,⟨r.b,38,ai kQ (o.take k),r.n,true⟩]) Eg VO rfl rfl rfl rfl rfl rfl rfl rfl rfl rfl rfl (Nat.le_refl _) (Nat.le_refl _) (hobs.imp (fun e=>ae) id) (gZ.takeR o k) (gZ.lenTake hk) (gZ.ones _) ae (fun _=>rfl) (fun r=>?_)
  |refine jl (s:=9) (len:=0+k) (n2:=1) 3 2 (kQ x) (fun r2=>[_,_,_,⟨r2.b,38,ai kQ (o.take k)++kQ x,r2.n,true⟩]) Eg VO rfl rfl rfl rfl rfl rfl rfl rfl rfl rfl (by rw[gZ.lenTake hk,Nat.zero_add]) r.h r.hn (.inr ⟨_,rfl⟩) rfl rfl (gZ.one x) ae (fun _=>rfl) (fun r2=>?_)
  |refine(Qo (s:=9) (len:=0+k+1) 3 1 (ai kQ (o.drop k)) (fun r3=>[_,_,_,⟨r3.b,38,(ai kQ (o.take k)++kQ x)++ai kQ (o.drop k),r3.n,true⟩]) Eg VO) qjH r2.h r2.hn qaf (gZ.dropT h3 hk) (gZ.lenDrop o k) (gZ.ones _) (fun r3=>?_)
  |refine NG eP ?_
  |refine iZ [10] eP rfl ⟨⟨_,rfl,?_⟩,trivial⟩
  |refine iZ [14] eP rfl ⟨⟨_,rfl,?_⟩,trivial⟩
  |refine iZ [15] eP rfl ⟨⟨_,rfl,?_⟩,trivial⟩
  |refine iZ [9] eP rfl ⟨⟨_,rfl,?_⟩,trivial⟩
  |refine iZ [4] eP rfl ⟨⟨_,rfl,?_⟩,trivial⟩
  |refine iZ [8] eP rfl ⟨⟨_,rfl,?_⟩,trivial⟩
  |refine iZ [4,9] eP rfl ⟨⟨_,rfl,?_⟩,⟨_,rfl,?_⟩,trivial⟩
  |refine iZ [4,8] eP rfl ⟨⟨_,rfl,?_⟩,⟨_,rfl,?_⟩,trivial⟩
  |refine iZ [0,7] eP rfl ⟨⟨_,rfl,?_⟩,⟨_,rfl,?_⟩,trivial⟩
  |refine iZ [4,7] eP rfl ⟨⟨_,rfl,?_⟩,⟨_,rfl,?_⟩,trivial⟩
  |refine iZ [7] eP rfl ⟨⟨_,rfl,?_⟩,trivial⟩
  |refine iZ [0,8] eP rfl ⟨⟨_,rfl,?_⟩,⟨_,rfl,?_⟩,trivial⟩
  |refine iZ [0,9] eP rfl ⟨⟨_,rfl,?_⟩,⟨_,rfl,?_⟩,trivial⟩
  |refine iZ [0] eP rfl ⟨⟨_,rfl,?_⟩,trivial⟩):=h
def qjs(h:P:=by refine Dp [] (0::1::2::3::4::6::7::8::9::10::12::13::14::15::16::19::20::21::22::23::25::26::27::28::29::32::33::34::35::36::5::11::17::18::24::30::31::37::38::39::40::41::[]) ?_ (hc:=(qg (0::0::2::0::8::31::0::0::128::0::512::2047::0::0::8192::0::32768::131071::262143::0::0::1048576::0::4194304::16777215::0::0::67108864::0::268435456::1073741823::2147483647::0::0::8589934592::0::34359738368::137438953471::274877906943::549755813887::1099511627775::2199023255551::[]) ak));refine A2 ?_;refine L4 0 0 ?_;refine kF ?_;refine A2 ?_;refine L4 0 0 ?_;refine ut ?_;refine A2 ?_;refine L4 0 4 ?_;refine kF ?_;refine A2 ?_;refine L4 0 0 ?_;refine A1 ?_;refine L4 1 8 ?_;refine A2 ?_;refine L4 0 8 ?_;refine kF ?_;refine A2 ?_;refine L4 0 4 ?_;refine ut ?_;refine qi [_,_] rfl rfl rfl rfl (bJ f.c0 g.c0) ?_;refine qi [_,_] rfl rfl rfl rfl (bJ f.c0 g.c1) ?_;refine qi [_,_] rfl rfl rfl rfl (bJ f.c1 g.c0) ?_;refine Pc (dE (f.c0*g.c1) (f.c1*g.c0)) ?_;refine qi [_,_] rfl rfl rfl rfl (bJ f.c0 g.c2) ?_;refine qi [_,_] rfl rfl rfl rfl (bJ f.c2 g.c0) ?_;refine Pc (dE (f.c0*g.c2) (f.c2*g.c0)) ?_;refine qi [_,_] rfl rfl rfl rfl (bJ f.c1 g.c1) ?_;refine Pc (dE (f.c0*g.c2+f.c2*g.c0) (f.c1*g.c1)) ?_;refine(Bu [(0,_),(1,_),(2,_)]) (qgl) ?_;refine uo ?_;refine bT rfl (bn 2 rfl rfl qm9 (vs:=[_,_,_,_,_,_,_,_,_,_,_,_]) rfl rfl (Nat.le_of_ble_eq_true rfl) rfl) (ax rfl) (fun w hL=>⟨?_,hL.below⟩);exact rfl):=h
def Ky(h:P:=by refine E0 ?_;exact eB (by unfold Jl;first|(simp_all;done)|(simp_all;omega)|(simp_all;intros;omega))):=h
def qcu(h:P:=by refine tC 2 0 [_,_,⟨some g2,61,_,20,true⟩,_] [_,_,_,_,_,_,_,_,_,_,_,_,_,_,_,_,_,_,_,_] rfl rfl rfl rfl o7 rfl rfl rfl rfl rfl rfl ?_;refine A4 ?_;refine bT rfl (bn 2 rfl rfl o7 (vs:=[_,_,_,_,_,_,_,_,_,_,_,_,_,_,_,_,_,_,_,_]) rfl rfl (Nat.le_of_ble_eq_true rfl) rfl) (ax rfl) (fun w hL=>⟨?_,hL.below⟩);exact congrArg (fun z=>Ending.returned (.tuple #[lC (dR a b),.bool z])) (by unfold ja dR;simp_all)):=h
def RS(q:Q)(h:aj Q->P:=by intro q_;refine aJ 0 ((i)*36) u29 qgf rfl rfl rfl rfl rfl ae ae (bu.ne au ae) wH ?_;exact q_.qq):=h ⟨q⟩
def XB(q:Q)(h:aj Q->P:=by intro q_;refine aJ 0 ((i)*20) Yb o7 rfl rfl rfl rfl rfl ae ae (dw.ne au ae) Jv ?_;exact q_.qq):=h ⟨q⟩
def RU(h:P:=by refine aH rfl (ax rfl) (fun w hL=>⟨?_,hL.below⟩);exact congrArg (fun b=>Ending.returned (.bool b)) (by unfold qI;first|(simp_all;done)|(revert hb0;cases a<;>cases b<;>simp_all))):=h
def qqW(h:P:=by
 refine qB fun g0=>?_;refine Bp 20 (fun g1=>?_);refine A6 ?_;refine L9 0 9 ?_;refine A1 ?_;refine L9 1 0 ?_;refine Pc (dF a.t b.f) ?_;refine A8 ?_;refine Rs 13 ?_ ?_<;>intro haQ
 ·refine II ?_;exact UE
 ·exact qtv):=h
def XC(h:P:=by refine kM ?_;exact Nl ⟨i+1,hlt,by rw[hI,Ib hx];simp only[hno,Bool.false_or]⟩ (hL:=fE.auto)):=h
def qqX(h:P:=by
 refine A9 ?_;refine Rs 17 ?_ ?_<;>intro haQ
 ·exact qtA
 ·exact qtw):=h
def qtv(h:P:=by
 refine A3 ?_;refine Rs 16 ?_ ?_<;>intro hbQ
 ·exact qtx
 ·refine oH ?_;exact UE):=h
def UA(h:P:=by refine oH ?_;refine aH rfl (ax rfl) (fun w hL=>⟨⟨ob,oN,oc,h3⟩,?_,hL.pk [some 1]⟩);exact rfl):=h
def qtw(h:P:=by
 refine A3 ?_;refine Rs 20 ?_ ?_<;>intro hbQ
 ·exact qtz
 ·refine A22 ?_;exact Ky):=h
def UB(h:P:=by refine E0 ?_;exact eB (by unfold Rx;first|(simp_all;done)|(simp_all;omega)|(simp_all;intros;omega))):=h
def UC(h:P:=by refine E0 ?_;exact eB qjI):=h
def qtx(h:P:=by
 refine A3 ?_;refine Rs 19 ?_ ?_<;>intro hcQ
 ·refine A9 ?_;exact UE
 ·refine A9 ?_;exact UE):=h
def qtz(h:P:=by
 refine A6 ?_;refine Rs 26 ?_ ?_<;>intro hcQ
 ·exact qtB
 ·refine Yc ?_;exact Ky):=h
def Z5(h:P:=by refine(Bu [(0,_),(1,_),(2,_)]) (qgl) ?_;refine jq ?_;refine Ue 2 ?_;exact rfl):=h
def qjt(h:P:=by
 
 have hge:i=l.length:=qjF
 subst hge;refine qX ?_;refine aH rfl (ax rfl) (fun w hL=>⟨(),?_,hL.pk []⟩);rw[hI,List.drop_length];rfl):=h
def qtA(h:P:=by
 refine oH ?_;refine Rs 29 ?_ ?_<;>intro hbQ
 ·refine EE ?_;exact Ky
 ·exact qtD):=h
def qtB(h:P:=by
 refine A3 ?_;refine Rs 29 ?_ ?_<;>intro hdQ
 ·refine EE ?_;exact Ky
 ·exact qtC):=h
def UD(h:P:=by refine E0 ?_;exact eB (by cases x<;>cases y<;>simp_all)):=h
def qju(h:P:=by refine qX ?_;refine aH rfl (ax rfl) (fun w hL=>⟨(),?_,hL.pk []⟩);rw[hI,Ib hx,hyes];rfl):=h
def qtC(h:P:=by
 refine A3 ?_;refine Rs 32 ?_ ?_<;>intro heQ
 ·refine lh ?_;exact Ky
 ·refine lh ?_;exact Ky):=h
def qtD(h:P:=by
 refine A3 ?_;refine Rs 32 ?_ ?_<;>intro hcQ
 ·refine lh ?_;exact Ky
 ·refine lh ?_;exact Ky):=h
def qjv(q:Q)(h:aj Q->P:=by intro q_;refine A2 ?_;refine aJ 1 ((k)*9) Eg jk rfl rfl rfl rfl rfl ae ae (gZ.ne au ae) Ju ?_;refine aT (v:=RV y) 1 ((k)*9) _ rfl rfl rfl rfl jk (gZ.sub hy 0 9 au) rfl au rfl ?_;refine A2 ?_;refine aJ 0 ((i)*9) Eg jk rfl rfl rfl rfl rfl ae ae (gZ.ne au ae) Ju ?_;refine aT (v:=RV x) 0 ((i)*9) _ rfl rfl rfl rfl jk (gZ.sub hx 0 9 au) rfl au rfl ?_;refine Pc (eF y x hys hxs) ?_;refine A4 ?_;exact q_.qq):=h ⟨q⟩
def qtE(q:Q)(h:aj Q->P:=by intro q_;refine Z9 ?_;refine Z9 ?_;exact q_.qq):=h ⟨q⟩
def kE(q:∀x,R x)(h:aj (∀x,R x)->P:=by intro q_;refine A2 ?_;refine Bp 12 (fun g0=>?_);exact q_.qq g0):=h ⟨q⟩
def nI(q:∀x,R x)(h:aj (∀x,R x)->P:=by intro q_;refine A2 ?_;refine Bp 9 (fun g0=>?_);exact q_.qq g0):=h ⟨q⟩
def qB(q:∀x,R x)(h:aj (∀x,R x)->P:=by intro q_;refine A2 ?_;refine Bp 20 (fun g0=>?_);exact q_.qq g0):=h ⟨q⟩
def Z7(q:Q)(h:aj Q->P:=by intro q_;refine L4 0 0 ?_;refine kF ?_;refine oM ?_;refine ut ?_;refine rV ?_;refine A1 ?_;refine L4 1 8 ?_;exact q_.qq):=h ⟨q⟩
def UE(h:P:=by refine E0 ?_;exact eB (by unfold Us;first|(simp_all;done)|(simp_all;omega)|(simp_all;intros;omega))):=h
def qjw(h:P:=by refine(Bu [(0,_),(1,_)]) (qno) ?_;refine mY ?_;refine qxY 1 ?_;exact rfl):=h
def qjx(h:P:=by
 induction l with
 |nil=>rfl
 |cons x l ih=>rw[iL,List.map_cons,iL,ih];rfl):=h
def Z8(h:P:=by unfold uf;dsimp only;rw[qeI,dm0,qeJ]):=h
def Z9(q:Q)(h:aj Q->P:=by intro q_;refine fJ [_,_] rfl rfl rfl (bJ _ _ jS jS) ?_;exact q_.qq):=h ⟨q⟩
def kF(q:Q)(h:aj Q->P:=by intro q_;refine A1 ?_;refine L4 1 0 ?_;exact q_.qq):=h ⟨q⟩
def zZ(q:Q)(h:aj Q->P:=by intro q_;refine mM rfl rfl rfl rfl qsi (qtg _ _) ?_;exact q_.qq):=h ⟨q⟩
def oM(q:Q)(h:aj Q->P:=by intro q_;refine A1 ?_;refine L4 0 4 ?_;exact q_.qq):=h ⟨q⟩
def qaa(q:Q)(h:aj Q->P:=by intro q_;refine XB ?_;refine aT (v:=lC x) 0 ((i)*20) _ rfl rfl rfl rfl o7 (dw.sub hx 0 20 au) rfl au rfl ?_;exact q_.qq):=h ⟨q⟩
def qC(q:Q)(h:aj Q->P:=by intro q_;refine A5 ?_;refine kM ?_;exact q_.qq):=h ⟨q⟩
def rV(q:Q)(h:aj Q->P:=by intro q_;refine A1 ?_;refine L4 0 8 ?_;exact q_.qq):=h ⟨q⟩
def OQ(q:Q)(h:aj Q->P:=by intro q_;refine Ri [] mixed ak ak ?_;exact q_.qq):=h ⟨q⟩
def ut(q:Q)(h:aj Q->P:=by intro q_;refine A1 ?_;refine L4 1 4 ?_;exact q_.qq):=h ⟨q⟩
def uu(q:Q)(h:aj Q->P:=by intro q_;refine A1 ?_;refine L4 0 0 ?_;exact q_.qq):=h ⟨q⟩
def qab(q:Q)(h:aj Q->P:=by intro q_;refine(Bu []) (Fb) ?_;refine aP 35 (Q 0) rfl Fa.symm ?_;refine Ss 1 ?_;exact q_.qq):=h ⟨q⟩
def yE(q:∀x,R x)(h:aj (∀x,R x)->P:=by intro q_;refine Al 4 z36 (fun g4=>?_);exact q_.qq g4):=h ⟨q⟩
def Aa(q:∀x,R x)(h:aj (∀x,R x)->P:=by intro q_;refine Al 12 Vf (fun g2=>?_);exact q_.qq g2):=h ⟨q⟩
def qac(q:∀x,R x)(h:aj (∀x,R x)->P:=by intro q_;refine A2 ?_;refine Bo [] 0 (fun g=>[⟨some g,197,_,0,true⟩]) (fun g0=>?_);exact q_.qq g0):=h ⟨q⟩
def Ac(q:∀x,R x)(h:aj (∀x,R x)->P:=by intro q_;refine Al 4 z36 (fun g3=>?_);exact q_.qq g3):=h ⟨q⟩
def qjy(q:Q)(h:aj Q->P:=by intro q_;refine Dp [] [0,1,2,4,5,6,3,7,8,9] ?_;refine A1 ?_;refine L9 0 0 ?_;refine L9 1 0 ?_;refine L9 1 0 ?_;refine A1 ?_;refine L9 0 9 ?_;exact q_.qq):=h ⟨q⟩
def qjz(q:Q)(h:aj Q->P:=by intro q_;refine A6 ?_;refine(Aq (jG a u r-v*dB s)) uw ?_;refine A6 ?_;refine E0 ?_;exact q_.qq):=h ⟨q⟩
def UF(q:Q)(h:aj Q->P:=by intro q_;refine(Bu [(0,_),(1,_),(2,_),(3,_)]) (qr9) ?_;exact q_.qq):=h ⟨q⟩
def qjA(q:Q)(h:aj Q->P:=by intro q_;refine aT (v:=RV x.t) 0 ((i)*20+9) _ rfl rfl rfl rfl jk (dw.sub hx 9 9 au) rfl au rfl ?_;exact q_.qq):=h ⟨q⟩
def qjB(q:Q)(h:aj Q->P:=by intro q_;refine aT (v:=RV x.f) 0 ((i)*20+0) _ rfl rfl rfl rfl jk (dw.sub hx 0 9 au) rfl au rfl ?_;exact q_.qq):=h ⟨q⟩
def FW(q:Q)(h:aj Q->P:=by intro q_;refine L9 0 0 ?_;refine A1 ?_;exact q_.qq):=h ⟨q⟩
def Jr(q:Q)(h:aj Q->P:=by intro q_;refine jq ?_;refine Ed9 2 ?_;exact q_.qq):=h ⟨q⟩
def yF(h:P:=by have e:=haQ;simpa using e):=h
def Js(h:P:=by have e:=hbQ;simpa using e):=h
def qad(h:P:=by show 0+Int.toNat _*4=_;rfl):=h
def Jt(h:P:=by have e:=haQ;revert e;unfold dB;simp):=h
def OT(h:P:=by exact(congrArg some (by rfl))):=h
def uw(h:P:=by exact(congrArg some (wi fZ fZ rfl))):=h
def UG(h:P:=by unfold jI;omega):=h
def UH(h:P:=by rw[vT];exact Nat.le_refl _):=h
def jT(h:P:=by rw[List.length_append];exact r.h):=h
def nJ(h:P:=by show l.length-(i+1)<l.length-i;omega):=h
def kG(h:P:=by rw[List.length_append];rfl):=h
def kH(h:P:=by rw[rQ]):=h
def Ad(h:P:=by rw[hI,List.take_length]):=h
def qae(h:P:=by have:=of_decide_eq_true hb1;omega):=h
def qjC(h:P:=by cases e:bK i.f<;>simp[e] at haQ ⊢):=h
def qjD(h:P:=by cases e:bK i.t<;>simp[e] at hbQ ⊢):=h
def qjE(h:P:=by rw[qeK];have e:=hcQ;simp at e ⊢;omega):=h
def UI(h:P:=by dsimp only;decide):=h
def Ju(h:P:=by show 0+Int.toNat _*9=_;omega):=h
def wH(h:P:=by show 0+Int.toNat _*36=_;omega):=h
def qaf(h:P:=by exact(hobs.imp (fun e=>fZ) id)):=h
def qjF(h:P:=by have:=of_decide_eq_false hb1;omega):=h
def Jv(h:P:=by show 0+Int.toNat _*20=_;omega):=h
def qjG(h:P:=by first|exact List.Perm.refl _|exact((List.Perm.swap _ _ _).cons _).cons _):=h
def qjH(h:P:=by exact(by rw[List.length_append,gZ.lenTake hk,gZ.len];omega)):=h
def qjI(h:P:=by unfold ja;first|(simp_all;done)|(simp_all;omega)|(simp_all;intros;omega)):=h
end
namespace Go.Proofs.YtaffcpfhedadhaaGreatDoor
open Go Go.RowKit Go.Via
variable[Mo]
def CV(a b r:Rat)(ha:bY a<=500000:=by omega)(hb:bY b<=500000:=by omega)(hr:bY r<=500000:=by omega):aG Tryz.prog 181 #[Q a,Q b,Q r] (.int .i64 (pU a b r)):=by
 refine pB3 40 Tryz.func181 fun w=>?_;refine iH fun g0=>?_;refine Bp 4 (fun g1=>?_);refine Bp 4 (fun g2=>?_);refine A4 ?_;refine Dp [2000000] [0,2,4,1,3,5,6,7,8] ?_;refine jH ?_;refine L4 2 0 ?_;refine Pc (dP _) ?_;refine Pc (dP _) ?_;refine Pc (dP _) ?_;refine(Aq (dB b*dB r)) (congrArg some (w3 (FV b) (FV r))) ?_;refine qX ?_;refine Rs 19 ?_ ?_<;>intro haQ
 ·have hs19:=eq_of_beq haQ;refine PX ?_;refine E0 ?_;rw[qtq hs19];rfl
 ·have hs19:=ne_of_beq_false haQ;refine A7 ?_;refine Cd ?_ ?_<;>intro hbQ
  ·have hs16:=eq_of_beq hbQ;refine oJ ?_;rw[qtr hs16];rfl
  ·have hs16:=ne_of_beq_false hbQ;refine A7 ?_;refine Cd ?_ ?_<;>intro hcQ
   ·have hs25:=eq_of_beq hcQ;refine oJ ?_;rw[qts hs19 hs16 hs25]
   ·have hs25:=ne_of_beq_false hcQ;refine A4 ?_;refine Dp [] [0,1,2,4,5,7,3,6,8,9,10,11] ?_;refine uu ?_;refine jH ?_;refine L4 1 0 ?_;refine L4 2 0 ?_;refine qtE ?_;refine Z9 ?_;refine fJ [_,_] rfl rfl rfl (FU _ _ jS jS) ?_;refine(Aq (dB a*mJ (a*a) (b*b*r))) (congrArg some (w3 (FV a) (qjo _ _))) ?_;refine rH ?_;rw[qtt hs19 hs16 hs25]
def yG(x:Rl):aG Tryz.prog 180 #[RV x] (Q (jD x)):=by
 refine vC 7 Tryz.func180 fun w=>?_;refine nI fun g0=>?_;refine rM fun g1=>?_;refine A9 ?_;refine Cd ?_ ?_<;>intro haQ
 ·refine A2 ?_;refine fJ [_] rfl rfl rfl (fF _) ?_;refine uq ?_;refine Yd 1 ?_;rw[qvT haQ];rfl
 ·refine A4 ?_;refine fJ [_] rfl rfl rfl (fF _) ?_;refine mY ?_;refine Yd 1 ?_;rw[qvU haQ];rfl
def CW(x:Rl)(hx:eU x<=400000:=by omega):aG Tryz.prog 236 #[RV x] (.int .i64 (pU x.p (jD x) x.r)):=by
 have e1:=Nat.le_trans (pM x) hx;have e2:=Nat.le_trans (wG x) hx;have e3:=Z4 x;refine vC 10 Tryz.func236 fun w=>?_;refine nI fun g0=>?_;refine A4 ?_;refine Dp [] [0,1,2,4,5,3,6,7] ?_;refine uu ?_;refine L9 0 0 ?_;refine oM ?_;refine Pc (yG x) ?_;refine Pc (CV x.p (jD x) x.r) ?_;exact zT
def dF(x y:Rl)(hx:eU x<=50000:=by omega)(hy:eU y<=50000:=by omega):aG Tryz.prog 130 #[RV x,RV y] (.int .i64 (aY x y)):=by
 have x1:=Nat.le_trans (pM x) hx;have x2:=Nat.le_trans (wG x) hx;have y1:=Nat.le_trans (pM y) hy;have y2:=Nat.le_trans (wG y) hy;have fx:=Z4 x;have fy:=Z4 y;have l1:=gX x.p y.p;have l2:=bW (x.p-y.p) (x.p-y.p);have l3:=iQ ((x.p-y.p)*(x.p-y.p)) x.r;have l4:=gX ((x.p-y.p)*(x.p-y.p)+x.r) y.r;have l5:=bW (x.p-y.p) (jD x);have l6:=bW 2 ((x.p-y.p)*jD x);have l7:=Ia;refine nX 65 Tryz.func130 fun w=>?_;refine nI fun g0=>?_;refine Bp 9 (fun g1=>?_);refine A4 ?_;refine Dq [3000000] [0,1,2,3,5,7,4,6,8,9,10,11,12,13,14,15] ?_;refine uu ?_;refine kF ?_;refine L9 0 0 ?_;refine L9 1 0 ?_;refine Pc (dZ x.p y.p) ?_;refine Pc (yG x) ?_;refine Pc (yG y) ?_;refine Pc (wF (jD y)) ?_;refine lg fun g2=>?_;refine Ac fun g3=>?_;refine yE fun g4=>?_;refine Ss 2 ?_;refine Ss 3 ?_;refine zY ?_;refine Dp [2000000] [0,1,2,3,5,7,8,4,6,9,10,11,12] ?_;refine L4 2 0 ?_;refine L4 3 0 ?_;refine oM ?_;refine L4 4 0 ?_;refine ut ?_;refine Pc (CV (x.p-y.p) (jD x) x.r) ?_;refine Pc (dP (-jD y)) ?_;refine Pc (dP y.r) ?_;refine(Aq (dB (-jD y)*dB y.r)) (congrArg some (w3 (FV _) (FV _))) ?_;refine qX ?_;refine Rs 35 ?_ ?_<;>intro haQ
 ·have hs35:=eq_of_beq haQ;refine PX ?_;refine E0 ?_;rw[qoY hs35]
 ·have hs35:=ne_of_beq_false haQ;refine A7 ?_;refine Cd ?_ ?_<;>intro hbQ
  ·have hs32:=eq_of_beq hbQ;refine oJ ?_;rw[qoZ hs32]
  ·have hs32:=ne_of_beq_false hbQ;refine A7 ?_;refine Cd ?_ ?_<;>intro hcQ
   ·have hs41:=eq_of_beq hcQ;refine oJ ?_;rw[qo0 hs35 hs32 hs41]
   ·have hs41:=ne_of_beq_false hcQ;refine A4 ?_;refine Dq [3000000] [0,1,3,4,6,7,2,5,8,9,10] ?_;refine L4 2 0 ?_;refine L4 2 0 ?_;refine oM ?_;refine ut ?_;refine Pc (bJ (x.p-y.p) (x.p-y.p)) ?_;refine Pc (dE ((x.p-y.p)*(x.p-y.p)) x.r) ?_;refine Pc (dZ ((x.p-y.p)*(x.p-y.p)+x.r) y.r) ?_;refine Al 4 z36 (fun g5=>?_);refine Ss 5 ?_;refine A3 ?_;refine Dp [] [0,1,3,4,7,8,2,5,6,9,10,11] ?_;refine A1 ?_;refine L4 5 0 ?_;refine L4 2 0 ?_;refine L4 3 0 ?_;refine oM ?_;refine Pc (fF 2) ?_;refine Kr 56 (Q 2) ?_;refine Pc (bJ (x.p-y.p) (jD x)) ?_;refine Pc (bJ 2 ((x.p-y.p)*jD x)) ?_;refine Pc (CV ((x.p-y.p)*(x.p-y.p)+x.r-y.r) (2*((x.p-y.p)*jD x)) x.r) ?_;refine(Aq (pU (x.p-y.p) (jD x) x.r*pU ((x.p-y.p)*(x.p-y.p)+x.r-y.r) (2*((x.p-y.p)*jD x)) x.r)) (congrArg some (w3 (Ec _ _ _) (Ec _ _ _))) ?_;refine rH ?_;rw[qo1 hs35 hs32 hs41]
def kJ(q:Rat):aG Tryz.prog 86 #[Q q] (RV (rl q)):=by
 refine vC 5 Tryz.func86 fun w=>?_;refine iH fun g0=>?_;refine Al 9 QI (fun g1=>?_);refine A4 ?_;refine L4 0 0 ?_;refine(Bu [(0,_)]) (Nq) ?_;refine mY ?_;refine Ed9 1 ?_;rw[RQ]
def xW(x:Rl)(q:Rat)(hx:eU x<=50000:=by omega)(hq:bY q<=50000:=by omega):aG Tryz.prog 118 #[RV x,Q q] (.int .i64 (aY x (rl q))):=by
 refine nX 9 Tryz.func118 fun w=>?_;refine nI fun g0=>?_;refine Bp 4 (fun g1=>?_);refine A4 ?_;refine Di [] ?_;refine L9 0 0 ?_;refine L4 1 0 ?_;refine Pc (kJ q) ?_;refine Pc (dF x (rl q) hx (CU hq ae)) ?_;exact zT
def OU(x y:Rl)(hx:eU x<=50000:=by omega)(hy:eU y<=50000:=by omega):aG Tryz.prog 83 #[RV x,RV y] (RV (fM x y)):=by
 refine nX 11 Tryz.func83 fun w=>?_;refine nI fun g0=>?_;refine Bp 9 (fun g1=>?_);refine Al 9 QI (fun g2=>?_);refine A5 ?_;refine L9 1 0 ?_;refine L9 0 0 ?_;refine Pc (dF y x hy hx) ?_;refine A3 ?_;refine Cd ?_ ?_<;>intro haQ
 ·refine A2 ?_;refine L9 1 0 ?_;refine uo ?_;refine Ed9 2 ?_;rw[fM,if_pos (of_decide_eq_true haQ)];rfl
 ·refine A4 ?_;refine L9 0 0 ?_;refine Jr ?_;rw[fM,if_neg (of_decide_eq_false haQ)];rfl
end Go.Proofs.YtaffcpfhedadhaaGreatDoor
namespace Go.Proofs.YtaffcpfhedadhaaGreatDoor
open Go Go.RowKit Go.Via
def wI(z:Int)(hz:ji z<=33554432:=by omega):aG Tryz.prog 159 #[I z] (.tuple #[I (if oC z=true then((bU z.natAbs:Nat):Int) else 0),.bool (oC z)]):=by
 have hr:=qA z.natAbs;have hz2:nb z.natAbs<=33554432:=hz;refine vC 20 Tryz.func159 fun w=>?_;refine lQ fun g0=>?_;refine Al 2 QH (fun g1=>?_);refine lh ?_;refine Cd ?_ ?_<;>intro haQ
 ·refine A2 ?_;refine(Bu []) (Np) ?_;refine Ss 1 ?_;refine A5 ?_;refine bT rfl (bn 1 rfl rfl zy (vs:=[_,_]) rfl rfl (Nat.le_of_ble_eq_true rfl) rfl) (ax rfl) (fun w hL=>⟨?_,hL.below⟩);rw[qjl haQ,if_neg au,qct]
 ·refine A6 ?_;refine Pc (CO z.natAbs hz2) ?_;refine A5 ?_;refine Dp [] [0,1,3,4,2,5] ?_;refine A4 ?_;refine fJ [_,_] rfl rfl rfl (EK _ _) ?_;refine A3 ?_;refine Cd ?_ ?_<;>intro hbQ
  ·refine A2 ?_;refine(Bu []) (Np) ?_;refine Ss 1 ?_;refine A5 ?_;refine bT rfl (bn 1 rfl rfl zy (vs:=[_,_]) rfl rfl (Nat.le_of_ble_eq_true rfl) rfl) (ax rfl) (fun w hL=>⟨?_,hL.below⟩);rw[qoX hbQ,if_neg au,qct]
  ·refine A5 ?_;refine Pc (wB false (bU z.natAbs)) ?_;refine uq ?_;refine bT rfl (bn 1 rfl rfl zy (vs:=[_,_]) rfl rfl (Nat.le_of_ble_eq_true rfl) rfl) (ax rfl) (fun w hL=>⟨?_,hL.below⟩);rw[qjm haQ hbQ,if_pos rfl];rfl
def AA(q:Rat)(hq:bY q<=4194303:=by omega):aG Tryz.prog 107 #[Q q] (.tuple #[Q (if Ap q=true then mX q else 0),.bool (Ap q)]):=by
 have h1:=Nat.le_trans (Yl q) hq;have h2:=Nat.le_trans (Ym q) hq;have h3:=qA q.num.natAbs;have h4:=qA q.den;refine vC 30 Tryz.func107 fun w=>?_;refine iH fun g0=>?_;refine rM fun g1=>?_;refine A6 ?_;refine L2 0 0 ?_;refine Pc (wI q.num) ?_;refine A3 ?_;refine yC fun g2=>?_;refine CQ ?_;refine L4 0 0 ?_;refine Pc (jr q) ?_;refine Pc (wI (q.den:Int)) ?_;refine A3 ?_;refine yB fun g3=>?_;refine Ss 3 ?_;refine A9 ?_;refine Rs 22 ?_ ?_<;>intro haQ
 ·have hs22:oC q.num=false:=yF
  refine A8 ?_;refine(Bu []) (Fb) ?_;refine Ss 1 ?_;refine A5 ?_;refine bT rfl (bn 1 rfl rfl BC (vs:=[_,_,_,_]) rfl rfl (Nat.le_of_ble_eq_true rfl) rfl) (ax rfl) (fun w hL=>⟨?_,hL.below⟩);rw[Jq,hs22,Bool.false_and,if_neg au,Fa]
 ·have hs22:oC q.num=true:=yF
  refine A5 ?_;refine Cd ?_ ?_<;>intro hbQ
  ·have hs23:oC (q.den:Int)=false:=Js
   refine A2 ?_;refine(Bu []) (Fb) ?_;refine Ss 1 ?_;refine A5 ?_;refine bT rfl (bn 1 rfl rfl BC (vs:=[_,_,_,_]) rfl rfl (Nat.le_of_ble_eq_true rfl) rfl) (ax rfl) (fun w hL=>⟨?_,hL.below⟩);rw[Jq,hs23,Bool.and_false,if_neg au,Fa]
  ·have hs23:oC (q.den:Int)=true:=Js
   refine A4 ?_;refine L2 2 0 ?_;refine L2 3 0 ?_;refine Pc (jO _ _ (qjp hs22 h1) (qjq hs23 h2) (qjr hs23)) ?_;refine uq ?_;refine bT rfl (bn 1 rfl rfl BC (vs:=[_,_,_,_]) rfl rfl (Nat.le_of_ble_eq_true rfl) rfl) (ax rfl) (fun w hL=>⟨?_,hL.below⟩);rw[Jq,hs22,hs23];rfl
end Go.Proofs.YtaffcpfhedadhaaGreatDoor
namespace Go.Via
open Go
def ve(f:Qd):Nat:=max (bY f.c0) (max (bY f.c1) (bY f.c2))
def qE(f:Qd):bY f.c0<=ve f:=Nat.le_max_left ..
def qF(f:Qd):bY f.c1<=ve f:=Nat.le_trans (Nat.le_max_left ..) (Nat.le_max_right ..)
def rf(f:Qd):bY f.c2<=ve f:=Nat.le_trans (Nat.le_max_right ..) (Nat.le_max_right ..)
def Jw{f:Qd}{n:Nat}(h0:bY f.c0<=n)(h1:bY f.c1<=n)(h2:bY f.c2<=n):ve f<=n:=Nat.max_le.2 ⟨h0,Nat.max_le.2 ⟨h1,h2⟩⟩
def Eo(f:Qd):Int:=if f.c2≠0 then 2 else if f.c1≠0 then 1 else if f.c0≠0 then 0 else-1
theorem UJ{q:Rat}:dB q≠0↔q≠0:=by
 rcases eH q with⟨h,e⟩|⟨h,e⟩|⟨h,e⟩<;>rw[e]<;>simp
 ·grind
 ·grind
 ·exact h
def yH(f:Qd)(t:Rat):bY (rE f t)<=bY f.c0+(bY t+(bY f.c1+(bY t+bY f.c2)+1))+1:=by
 unfold rE;have h1:=bW t f.c2;have h2:=iQ f.c1 (t*f.c2);have h3:=bW t (f.c1+t*f.c2);have h4:=iQ f.c0 (t*(f.c1+t*f.c2));omega
def qjJ(f:Qd)(t:Rat):bY (vz f t)<=bY f.c1+(bY f.c2+bY f.c2+1+bY t)+1:=by
 unfold vz;have h1:=iQ f.c2 f.c2;have h2:=bW (f.c2+f.c2) t;have h3:=iQ f.c1 ((f.c2+f.c2)*t);omega
def qag{f:Qd}{t:Rl}{m n:Nat}(hf:ve f<=m)(ht:eU t<=n):eU (zN f t)<=10*m+10*n+20:=by
 have e0:=Nat.le_trans (qE f) hf;have e1:=Nat.le_trans (qF f) hf;have e2:=Nat.le_trans (rf f) hf;have t1:=Nat.le_trans (pM t) ht;have t2:=Nat.le_trans (wG t) ht;have h1:=yH f t.p;have h2:=qjJ f t.p;have h3:=bW f.c2 t.r;have h4:=iQ (rE f t.p) (f.c2*t.r);unfold zN;refine Nat.le_trans qtu ?_;have h5:bY (if t.n=true then-vz f t.p else vz f t.p)<=bY (vz f t.p):=by
  split
  ·exact Na _
  ·exact Nat.le_refl _
 omega
end Go.Via
namespace Go.Via
theorem qeI:bH (0:Rat).num.natAbs=⟨#[]⟩:=iy
theorem dm0:dm 0=⟨#[]⟩:=rfl
theorem qeJ:decide ((0:Rat).num<0)=false:=rfl
theorem qcv(a b:Rat):uf ⟨a,b,0⟩= .agg #[.bool (decide (a.num<0)),.string (bH a.num.natAbs),.bool false,.string (dm a),.bool (decide (b.num<0)),.string (bH b.num.natAbs),.bool false,.string (dm b),aQ,aS,aQ,aS]:=by
 exact Z8
theorem RX(a:Rat):uf ⟨a,0,0⟩= .agg #[.bool (decide (a.num<0)),.string (bH a.num.natAbs),.bool false,.string (dm a),aQ,aS,aQ,aS,aQ,aS,aQ,aS]:=by
 exact Z8
def qjK:uf ⟨0,0,0⟩= .agg #[aQ,aS,aQ,aS,aQ,aS,aQ,aS,aQ,aS,aQ,aS]:=by
 exact Z8
def qcw:RV (rl 0)= .agg #[aQ,aS,aQ,aS,aQ,aS,aQ,aS,.bool false]:=by
 rw[RQ,qeI,dm0,qeJ]
def wJ(f:Qd)(t:Rl):Qd:=if t.r=0 then⟨rE f t.p,0,0⟩ else⟨f.c0+f.c2*(t.r-t.p*t.p),vz f t.p,0⟩
def qG(f g:Qd):Qd:=⟨f.c0-g.c0,f.c1-g.c1,f.c2-g.c2⟩
def qo2{f g:Qd}{m n:Nat}(hf:ve f<=m)(hg:ve g<=n):ve (qG f g)<=m+n+1:=by
 have f0:=Nat.le_trans (qE f) hf;have f1:=Nat.le_trans (qF f) hf;have f2:=Nat.le_trans (rf f) hf;have g0:=Nat.le_trans (qE g) hg;have g1:=Nat.le_trans (qF g) hg;have g2:=Nat.le_trans (rf g) hg;refine Jw ?_ ?_ ?_
 ·have:=gX f.c0 g.c0;show bY (f.c0-g.c0)<=_;omega
 ·have:=gX f.c1 g.c1;show bY (f.c1-g.c1)<=_;omega
 ·have:=gX f.c2 g.c2;show bY (f.c2-g.c2)<=_;omega
def qyi(f:Qd)(n:Nat):Prop:=n<=3∧(n<=2->f.c2=0)∧(n<=1->f.c1=0)∧(n<=0->f.c0=0)
def qjL{q:Rat}(h:dB q=0):q=0:=Classical.byContradiction fun e=>UJ.2 e h
theorem qtF{f:Qd}(h:dB f.c2≠0):Eo f=2:=by unfold Eo;rw[if_pos (UJ.1 h)]
theorem qtG{f:Qd}(h2:f.c2=0)(h:dB f.c1≠0):Eo f=1:=by unfold Eo;rw[if_neg (fun e=>e h2),if_pos (UJ.1 h)]
theorem qtH{f:Qd}(h2:f.c2=0)(h1:f.c1=0)(h:dB f.c0≠0):Eo f=0:=by unfold Eo;rw[if_neg (fun e=>e h2),if_neg (fun e=>e h1),if_pos (UJ.1 h)]
theorem qtI{f:Qd}(h2:f.c2=0)(h1:f.c1=0)(h:f.c0=0):Eo f= -1:=by unfold Eo;rw[if_neg (fun e=>e h2),if_neg (fun e=>e h1),if_neg (fun e=>e h)]
def XD{f:Qd}(h:f.c2=0):Eo f<=1:=by unfold Eo;rw[if_neg (fun e=>e h)];split<;>(try split)<;>omega
def qcx(f:Qd): -1<=Eo f∧Eo f<=2:=by
 unfold Eo
 by_cases h2:f.c2=0<;>by_cases h1:f.c1=0<;>by_cases h0:f.c0=0<;>simp[h0,h1,h2]
def qtJ{r:Rat}(h:0<=r):¬r.num.sign<0:=by
 have:¬dB r<0:=by rcases eH r with⟨_,e⟩|⟨e1,_⟩|⟨_,e⟩<;>(try rw[e])<;>(try decide);grind
 exact this
end Go.Via
namespace Go.Proofs.YtaffcpfhedadhaaGreatDoor
open Go Go.RowKit Go.Via
def KW(x:Rl):aG Tryz.prog 318 #[RV x] (.tuple #[Q (if x.r=0 then x.p else 0),.bool (decide (x.r=0))]):=by
 refine vC 11 Tryz.func318 fun w=>?_;refine nI fun g0=>?_;refine rM fun g1=>?_;refine A7 ?_;refine L4 0 4 ?_;refine(Bu []) (Fb) ?_;refine aP 6 (Q 0) rfl Fa.symm ?_;refine BB rfl rfl rfl rfl qsh (qsk _ _) ?_;refine A2 ?_;refine Cd ?_ ?_<;>intro haQ
 ·have hs7:x.r≠0:=yF
  refine A2 ?_;refine(Bu []) (Fb) ?_;refine aP 8 (Q 0) rfl Fa.symm ?_;refine Ss 1 ?_;refine A5 ?_;refine bT rfl (bn 1 rfl rfl BC (vs:=[_,_,_,_]) rfl rfl (Nat.le_of_ble_eq_true rfl) rfl) (ax rfl) (fun w hL=>⟨?_,hL.below⟩);rw[if_neg hs7,decide_eq_false hs7];rfl
 ·have hs7:x.r=0:=yF
  refine A5 ?_;refine L4 0 0 ?_;refine uq ?_;refine bT rfl (bn 1 rfl rfl BC (vs:=[_,_,_,_]) rfl rfl (Nat.le_of_ble_eq_true rfl) rfl) (ax rfl) (fun w hL=>⟨?_,hL.below⟩);rw[if_pos hs7,decide_eq_true hs7];rfl
def tZ(c:Rat):aG Tryz.prog 74 #[Q c] (uf ⟨c,0,0⟩):=by
 refine vC 5 Tryz.func74 fun w=>?_;refine iH fun g0=>?_;refine Al 12 Vf (fun g1=>?_);refine A4 ?_;refine L4 0 0 ?_;refine(Bu [(0,_)]) (qgj) ?_;refine mY ?_;refine Ue 1 ?_;rw[RX]
def jv(a b:Rat):aG Tryz.prog 141 #[Q a,Q b] (uf ⟨a,b,0⟩):=by
 refine nX 8 Tryz.func141 fun w=>?_;refine iH fun g0=>?_;refine Bp 4 (fun g1=>?_);refine Aa fun g2=>?_;refine A4 ?_;refine jH ?_;refine(Bu [(0,_),(1,_)]) (qgk) ?_;refine jq ?_;refine Ue 2 ?_;rw[qcv]
def KX(f g:Qd)(hf:ve f<=1000000:=by omega)(hg:ve g<=1000000:=by omega):aG Tryz.prog 92 #[uf f,uf g] (uf ⟨f.c0+g.c0,f.c1+g.c1,f.c2+g.c2⟩):=by
 have f0:=Nat.le_trans (qE f) hf;have f1:=Nat.le_trans (qF f) hf;have f2:=Nat.le_trans (rf f) hf;have g0:=Nat.le_trans (qE g) hg;have g1:=Nat.le_trans (qF g) hg;have g2:=Nat.le_trans (rf g) hg;refine nX 21 Tryz.func92 fun w=>?_;refine kE fun g0=>?_;refine Bp 12 (fun g1=>?_);refine Aa fun g2=>?_;refine A3 ?_;refine Dp [] [0,1,2,3,5,6,7,8,10,11,12,13,4,9,14,15,16] ?_;refine A1 ?_;refine Z7 ?_;refine Pc (dE f.c0 g.c0) ?_;refine Pc (dE f.c1 g.c1) ?_;refine Pc (dE f.c2 g.c2) ?_;exact Z5
def AB(f g:Qd)(hf:ve f<=1000000:=by omega)(hg:ve g<=1000000:=by omega):aG Tryz.prog 77 #[uf f,uf g] (uf (qG f g)):=by
 have f0:=Nat.le_trans (qE f) hf;have f1:=Nat.le_trans (qF f) hf;have f2:=Nat.le_trans (rf f) hf;have g0:=Nat.le_trans (qE g) hg;have g1:=Nat.le_trans (qF g) hg;have g2:=Nat.le_trans (rf g) hg;refine nX 21 Tryz.func77 fun w=>?_;refine kE fun g0=>?_;refine Bp 12 (fun g1=>?_);refine Aa fun g2=>?_;refine A3 ?_;refine Dp [] [0,1,2,3,5,6,7,8,10,11,12,13,4,9,14,15,16] ?_;refine A1 ?_;refine Z7 ?_;refine Pc (dZ f.c0 g.c0) ?_;refine Pc (dZ f.c1 g.c1) ?_;refine Pc (dZ f.c2 g.c2) ?_;exact Z5
def zf(f:Qd)(t:Rat)(hf:ve f<=500000:=by omega)(ht:bY t<=500000:=by omega):aG Tryz.prog 143 #[uf f,Q t] (Q (rE f t)):=by
 have f0:=Nat.le_trans (qE f) hf;have f1:=Nat.le_trans (qF f) hf;have f2:=Nat.le_trans (rf f) hf;have l1:=bW t f.c2;have l2:=iQ f.c1 (t*f.c2);have l3:=bW t (f.c1+t*f.c2);refine nX 17 Tryz.func143 fun w=>?_;refine kE fun g0=>?_;refine Bp 4 (fun g1=>?_);refine lg fun g2=>?_;refine A3 ?_;refine wE ?_;refine jH ?_;refine oM ?_;refine L4 1 0 ?_;refine rV ?_;refine Pc (bJ t f.c2) ?_;refine Pc (dE f.c1 (t*f.c2)) ?_;refine Pc (bJ t (f.c1+t*f.c2)) ?_;refine Pc (dE f.c0 (t*(f.c1+t*f.c2))) ?_;exact FT
def xX(f:Qd)(t:Rat)(hf:ve f<=500000:=by omega)(ht:bY t<=500000:=by omega):aG Tryz.prog 144 #[uf f,Q t] (Q (vz f t)):=by
 have f0:=Nat.le_trans (qE f) hf;have f1:=Nat.le_trans (qF f) hf;have f2:=Nat.le_trans (rf f) hf;have l1:=iQ f.c2 f.c2;have l2:=bW (f.c2+f.c2) t;refine nX 15 Tryz.func144 fun w=>?_;refine kE fun g0=>?_;refine Bp 4 (fun g1=>?_);refine lg fun g2=>?_;refine A3 ?_;refine Dp [] [0,1,2,3,4,5,7,6,8,9,10] ?_;refine oM ?_;refine rV ?_;refine rV ?_;refine L4 1 0 ?_;refine Pc (dE f.c2 f.c2) ?_;refine Pc (bJ (f.c2+f.c2) t) ?_;refine Pc (dE f.c1 ((f.c2+f.c2)*t)) ?_;exact FT
def Kz(p q r:Rat)(h0:0<=r:=by omega)(hp:bY p<=500000:=by omega)(hq:bY q<=500000:=by omega)(hr:bY r<=500000:=by omega):aG Tryz.prog 146 #[Q p,Q q,Q r] (.tuple #[RV (mkR p q r),.int .i64 0]):=by
 have l1:=bW q q;have l2:=Uz r;have l3:=bW q (mX r);refine pB3 36 Tryz.func146 fun w=>?_;refine iH fun g0=>?_;refine Bp 4 (fun g1=>?_);refine Bp 4 (fun g2=>?_);refine Al 9 QI (fun g3=>?_);refine A6 ?_;refine L4 2 0 ?_;refine Pc (dP r) ?_;refine A3 ?_;refine Cd ?_ ?_<;>intro haQ
 ·exact absurd (of_decide_eq_true haQ) (by have:=(qtJ h0);omega)
 ·refine A5 ?_;refine L4 2 0 ?_;refine Pc (AA r) ?_;refine A3 ?_;refine yE fun g4=>?_;refine Ss 4 ?_;refine A8 ?_;refine Cd ?_ ?_<;>intro hbQ
  ·have hs:Ap r=true:=hbQ;refine A1 ?_;refine Di [] ?_;refine jH ?_;refine L4 4 0 ?_;refine aP 22 (Q (mX r)) rfl (by rw[hs,if_pos rfl];rfl) ?_;refine Pc (bJ q (mX r)) ?_;refine Pc (dE p (q*mX r)) ?_;refine(Bu [(0,_)]) (Nq) ?_;refine Ss 3 ?_;refine A5 ?_;refine bT rfl (bn 3 rfl rfl jk (vs:=[_,_,_,_,_,_,_,_,_]) rfl rfl (Nat.le_of_ble_eq_true rfl) rfl) (ax rfl) (fun w hL=>⟨?_,hL.below⟩);rw[mkR,hs,if_pos rfl,RQ]
  ·have hs:Ap r=false:=hbQ;refine A3 ?_;refine Dp [] [0,1,2,4,6,3,5,7,8,9,10,11] ?_;refine jH ?_;refine L4 1 0 ?_;refine L4 2 0 ?_;refine L4 1 0 ?_;refine Pc (bJ q q) ?_;refine Pc (bJ (q*q) r) ?_;refine Pc (dP q) ?_;refine A1 ?_;refine(Bu [(0,_),(1,_),(2,_)]) (qgi) ?_;refine CP ?_;refine bT rfl (bn 3 rfl rfl jk (vs:=[_,_,_,_,_,_,_,_,_]) rfl rfl (Nat.le_of_ble_eq_true rfl) rfl) (ax rfl) (fun w hL=>⟨?_,hL.below⟩);rw[mkR,hs,if_neg au];rfl
def wK(f:Qd)(t:Rl)(h0:0<=t.r:=by omega)(hf:ve f<=10000:=by omega)(ht:eU t<=10000:=by omega):aG Tryz.prog 94 #[uf f,RV t] (RV (zN f t)):=by
 have f0:=Nat.le_trans (qE f) hf;have f1:=Nat.le_trans (qF f) hf;have f2:=Nat.le_trans (rf f) hf;have t1:=Nat.le_trans (pM t) ht;have t2:=Nat.le_trans (wG t) ht;have l1:=yH f t.p;have l2:=qjJ f t.p;have l3:=bW f.c2 t.r;have l4:=iQ (rE f t.p) (f.c2*t.r);have l5:=Na (vz f t.p);refine nX 36 Tryz.func94 fun w=>?_;refine kE fun g0=>?_;refine Bp 9 (fun g1=>?_);refine Al 9 QI (fun g2=>?_);refine A3 ?_;refine Dq [3000000] [0,1,2,4,5,6,7,3,8,9,10,11] ?_;refine xg 0 0 ?_;refine kF ?_;refine rV ?_;refine ut ?_;refine Pc (zf f t.p) ?_;refine Pc (bJ f.c2 t.r) ?_;refine Pc (dE (rE f t.p) (f.c2*t.r)) ?_;refine Ac fun g3=>?_;refine CP ?_;refine xg 0 0 ?_;refine kF ?_;refine Pc (xX f t.p) ?_;refine yE fun g4=>?_;refine Ss 4 ?_;refine A9 ?_;refine Cd ?_ ?_<;>intro haQ
 ·refine A1 ?_;refine L4 4 0 ?_;refine Pc (wF (vz f t.p)) ?_;refine Ss 4 ?_;refine A4 ?_;refine L4 3 0 ?_;refine L4 4 0 ?_;refine ut ?_;refine Pc (Kz (rE f t.p+f.c2*t.r) (-vz f t.p) t.r h0) ?_;refine A3 ?_;refine Al 9 QI (fun g5=>?_);refine Ss 5 ?_;refine A5 ?_;refine L9 5 0 ?_;refine Jr ?_;rw[zN,if_pos haQ];rfl
 ·refine A4 ?_;refine L4 3 0 ?_;refine L4 4 0 ?_;refine ut ?_;refine Pc (Kz (rE f t.p+f.c2*t.r) (vz f t.p) t.r h0) ?_;refine A3 ?_;refine Al 9 QI (fun g5=>?_);refine Ss 5 ?_;refine A5 ?_;refine L9 5 0 ?_;refine Jr ?_;rw[zN,if_neg OO];rfl
def o9(f:Qd)(t:Rl)(hf:ve f<=100000:=by omega)(ht:eU t<=100000:=by omega):aG Tryz.prog 316 #[uf f,RV t] (uf (wJ f t)):=by
 have f0:=Nat.le_trans (qE f) hf;have f1:=Nat.le_trans (qF f) hf;have f2:=Nat.le_trans (rf f) hf;have t1:=Nat.le_trans (pM t) ht;have t2:=Nat.le_trans (wG t) ht;have l1:=bW t.p t.p;have l2:=gX t.r (t.p*t.p);have l3:=bW f.c2 (t.r-t.p*t.p);refine nX 38 Tryz.func316 fun w=>?_;refine kE fun g0=>?_;refine Bp 9 (fun g1=>?_);refine Aa fun g2=>?_;refine A5 ?_;refine L9 1 0 ?_;refine Pc (KW t) ?_;refine A3 ?_;refine Ac fun g3=>?_;refine Ss 3 ?_;refine A8 ?_;refine Cd ?_ ?_<;>intro haQ
 ·have hs13:t.r=0:=of_decide_eq_true haQ;refine A2 ?_;refine xg 0 0 ?_;refine L4 3 0 ?_;refine aP 15 (Q t.p) rfl (by rw[if_pos hs13];rfl) ?_;refine Pc (zf f t.p) ?_;refine Pc (tZ (rE f t.p)) ?_;refine uo ?_;refine Ue 2 ?_;rw[wJ,if_pos hs13];rfl
 ·have hs13:¬t.r=0:=of_decide_eq_false haQ;refine A3 ?_;refine Dq [3000000] [0,1,2,3,4,5,6,7,8,9] ?_;refine ut ?_;refine kF ?_;refine kF ?_;refine Pc (bJ t.p t.p) ?_;refine Pc (dZ t.r (t.p*t.p)) ?_;refine yE fun g4=>?_;refine zY ?_;refine Dp [] [0,1,2,3,4,7,8,9,5,6,10,11,12] ?_;refine uu ?_;refine rV ?_;refine L4 4 0 ?_;refine xg 0 0 ?_;refine kF ?_;refine Pc (bJ f.c2 (t.r-t.p*t.p)) ?_;refine Pc (dE f.c0 (f.c2*(t.r-t.p*t.p))) ?_;refine Pc (xX f t.p) ?_;refine Pc (jv (f.c0+f.c2*(t.r-t.p*t.p)) (vz f t.p)) ?_;refine jq ?_;refine Ue 2 ?_;rw[wJ,if_neg hs13];rfl
def uD(t v u s:Rat)(h0:u-t≠0:=by omega)(h1:bY t<=100000:=by omega)(h2:bY v<=100000:=by omega)(h3:bY u<=100000:=by omega)(h4:bY s<=100000:=by omega):aG Tryz.prog 134 #[Q t,Q v,Q u,Q s] (.tuple #[uf ⟨v-(s-v)/(u-t)*t,(s-v)/(u-t),0⟩,.int .i64 0]):=by
 have l1:=gX s v;have l2:=gX u t;have l3:=qfM (s-v) (u-t);have l4:=bW ((s-v)/(u-t)) t;refine pB4 33 Tryz.func134 fun w=>?_;refine iH fun g0=>?_;refine Bp 4 (fun g1=>?_);refine Bp 4 (fun g2=>?_);refine Bp 4 (fun g3=>?_);refine Al 12 Vf (fun g4=>?_);refine A4 ?_;refine Dq [3000000] [0,1,3,4,2,5,6,7,8,10,11,9,12] ?_;refine L4 3 0 ?_;refine L4 1 0 ?_;refine L4 2 0 ?_;refine L4 0 0 ?_;refine Pc (dZ s v) ?_;refine Pc (dZ u t) ?_;refine Pc (CS (s-v) (u-t)) ?_;refine A2 ?_;refine Al 4 z36 (fun g5=>?_);refine Ss 5 ?_;refine A1 ?_;refine aP 21 (.int .i64 0) rfl (by rw[if_neg h0]) ?_;refine A8 ?_;refine Kr 23 (.bool false) ?_;refine A6 ?_;refine Dp [] [0,1,2,5,3,4,6,7,8] ?_;refine L4 1 0 ?_;refine L4 5 0 ?_;refine L4 0 0 ?_;refine L4 5 0 ?_;refine Pc (bJ ((s-v)/(u-t)) t) ?_;refine Pc (dZ v ((s-v)/(u-t)*t)) ?_;refine Pc (jv (v-(s-v)/(u-t)*t) ((s-v)/(u-t))) ?_;refine Ss 4 ?_;refine A4 ?_;refine bT rfl (bn 4 rfl rfl qm9 (vs:=[_,_,_,_,_,_,_,_,_,_,_,_]) rfl rfl (Nat.le_of_ble_eq_true rfl) rfl) (ax rfl) (fun w hL=>⟨?_,hL.below⟩);exact rfl
def wL(f:Qd):aG Tryz.prog 72 #[uf f] (.int .i64 (Eo f)):=by
 refine vC 22 Tryz.func72 fun w=>?_;refine kE fun g0=>?_;refine A6 ?_;refine L4 0 0 ?_;refine oM ?_;refine rV ?_;refine(Bu [(0,_),(1,_),(2,_)]) (qnk) ?_;refine Al 12 qxB (fun g1=>?_);refine Ss 1 ?_;refine A9 ?_;refine El (ι:={n:Nat // qyi f n}) (fun⟨n,hc⟩=>([(3,dA g1),(4,.int .i64 ((n:Int)-1))],[⟨some g0,91,qoJ f,12,true⟩,⟨some g1,174,qoJ f,12,true⟩],n)) ⟨3,ae,fun h=>absurd h ae,fun h=>absurd h ae,fun h=>absurd h ae⟩ ?_;rintro⟨n,hc⟩;(try dsimp only)
 have hn3:=hc.1;rcases(show n=3∨n=2∨n=1∨n=0 by omega) with rfl|rfl|rfl|rfl
 ·refine A5 ?_;refine Kr 13 (.bool true) ?_;refine lh ?_;refine uO 8 qsj BC rfl rfl rfl rfl ae ae qad ?_;refine L4 1 8 ?_;refine Pc (dP f.c2) ?_;refine A3 ?_;refine Cd ?_ ?_<;>intro haQ
  ·have hs20:dB f.c2≠0:=Jt
   refine oH ?_;refine E0 ?_;rw[qtF hs20];rfl
  ·have hs20:dB f.c2=0:=Jt
   refine A5 ?_;refine(Aq (((2:Nat):Int)-1)) OT ?_;refine A3 ?_;exact Nl ⟨2,⟨ae,fun _=>qjL hs20,fun h=>absurd h ae,fun h=>absurd h ae⟩⟩ (hμ:=(by show 2<3;omega)) (hL:=fE.auto)
 ·refine A5 ?_;refine Kr 13 (.bool true) ?_;refine lh ?_;refine uO 4 qsj BC rfl rfl rfl rfl ae ae qad ?_;refine L4 1 4 ?_;refine Pc (dP f.c1) ?_;refine A3 ?_;refine Cd ?_ ?_<;>intro haQ
  ·have hs20:dB f.c1≠0:=Jt
   refine oH ?_;refine E0 ?_;rw[qtG (hc.2.1 ae) hs20];rfl
  ·have hs20:dB f.c1=0:=Jt
   refine A5 ?_;refine(Aq (((1:Nat):Int)-1)) OT ?_;refine A3 ?_;exact Nl ⟨1,⟨ae,fun _=>hc.2.1 ae,fun _=>qjL hs20,fun h=>absurd h ae⟩⟩ (hμ:=(by show 1<2;omega)) (hL:=fE.auto)
 ·refine A5 ?_;refine Kr 13 (.bool true) ?_;refine lh ?_;refine uO 0 qsj BC rfl rfl rfl rfl ae ae qad ?_;refine L4 1 0 ?_;refine Pc (dP f.c0) ?_;refine A3 ?_;refine Cd ?_ ?_<;>intro haQ
  ·have hs20:dB f.c0≠0:=Jt
   refine oH ?_;refine E0 ?_;rw[qtH (hc.2.1 ae) (hc.2.2.1 ae) hs20];rfl
  ·have hs20:dB f.c0=0:=Jt
   refine A5 ?_;refine(Aq (((0:Nat):Int)-1)) OT ?_;refine A3 ?_;exact Nl ⟨0,⟨ae,fun _=>hc.2.1 ae,fun _=>hc.2.2.1 ae,fun _=>qjL hs20⟩⟩ (hμ:=(by show 0<1;omega)) (hL:=fE.auto)
 ·refine A5 ?_;refine Kr 13 (.bool false) ?_;refine FH ?_;refine E0 ?_;rw[qtI (hc.2.1 ae) (hc.2.2.1 ae) (hc.2.2.2 ae)]
def KY(f g:Qd)(z1:f.c2=0)(z2:g.c2=0)(hf:ve f<=100000:=by omega)(hg:ve g<=100000:=by omega):aG Tryz.prog 142 #[uf f,uf g] (.tuple #[uf ⟨f.c0*g.c0,f.c0*g.c1+f.c1*g.c0,f.c0*g.c2+f.c2*g.c0+f.c1*g.c1⟩,.int .i64 0]):=by
 have f0:=Nat.le_trans (qE f) hf;have f1:=Nat.le_trans (qF f) hf;have f2:=Nat.le_trans (rf f) hf;have g0:=Nat.le_trans (qE g) hg;have g1:=Nat.le_trans (qF g) hg;have g2:=Nat.le_trans (rf g) hg;have m0:=bW f.c0 g.c0;have m1:=bW f.c0 g.c1;have m2:=bW f.c1 g.c0;have m3:=bW f.c0 g.c2;have m4:=bW f.c2 g.c0;have m5:=bW f.c1 g.c1;have m6:=iQ (f.c0*g.c2) (f.c2*g.c0);have d1:=XD z1;have d2:=XD z2;have d3:=qcx f;have d4:=qcx g;refine nX 66 Tryz.func142 fun w=>?_;refine kE fun g0=>?_;refine Bp 12 (fun g1=>?_);refine Aa fun g2=>?_;refine A4 ?_;refine Dp [] [0,2,1,3,4,5] ?_;refine xg 0 0 ?_;refine xg 1 0 ?_;refine Pc (wL f) ?_;refine Pc (wL g) ?_;refine lh ?_;refine Rs 15 ?_ ?_<;>intro haQ
 ·refine A4 ?_;refine Rs 19 ?_ ?_<;>intro hbQ
  ·refine A2 ?_;refine(Aq (Eo f+Eo g)) uw ?_;refine A1 ?_;refine aP 23 (.bool false) rfl (congrArg Value.bool (decide_eq_false ae)) ?_;refine oH ?_;exact qjs
  ·refine Yc ?_;exact qjs
 ·refine A20 ?_;exact qjs
def zh(f g:Qd)(t:Rl)(hf:ve f<=10000:=by omega)(hg:ve g<=10000:=by omega)(ht:eU t<=10000:=by omega):aG Tryz.prog 317 #[uf f,uf g,RV t] (.bool (decide (wJ (qG f g) t=⟨0,0,0⟩))):=by
 have hs:=qo2 hf hg;refine pB3 14 Tryz.func317 fun w=>?_;refine kE fun g0=>?_;refine Bp 12 (fun g1=>?_);refine Bp 9 (fun g2=>?_);refine A4 ?_;refine Dp [] [0,1,3,5,2,4,6,7] ?_;refine xg 0 0 ?_;refine xg 1 0 ?_;refine L9 2 0 ?_;refine(Bu []) (qsa) ?_;refine aP 12 (uf ⟨0,0,0⟩) rfl qjK.symm ?_;refine Pc (AB f g) ?_;refine Pc (o9 (qG f g) t) ?_;refine mM rfl rfl rfl rfl qxG (qye _ _) ?_;exact zT
def FX(f:Qd)(t:Rl)(h0:0<=t.r:=by omega)(hf:ve f<=10000:=by omega)(ht:eU t<=10000:=by omega):aG Tryz.prog 207 #[uf f,RV t] (.int .i64 (pU (zN f t).p (jD (zN f t)) (zN f t).r)):=by
 have l1:=qag hf ht;refine nX 9 Tryz.func207 fun w=>?_;refine kE fun g0=>?_;refine Bp 9 (fun g1=>?_);refine A5 ?_;refine xg 0 0 ?_;refine L9 1 0 ?_;refine Pc (wK f t h0 hf ht) ?_;refine Pc (CW (zN f t)) ?_;exact zT
end Go.Proofs.YtaffcpfhedadhaaGreatDoor
namespace Go.Via
open Go
def gV(i:Iv):Nat:=max (eU i.f) (eU i.t)
def ig(i:Iv):eU i.f<=gV i:=Nat.le_max_left ..
def gW(i:Iv):eU i.t<=gV i:=Nat.le_max_right ..
def qH{i:Iv}{n:Nat}(h1:eU i.f<=n)(h2:eU i.t<=n):gV i<=n:=Nat.max_le.2 ⟨h1,h2⟩
theorem qjM{x:Rl}(h:x.r.num.sign= -1):bK x=false:=by
 unfold bK;rw[if_pos];show x.r.num.sign<0;omega
theorem Jy{x:Rl}(h:x.r.num.sign=0):bK x= !x.n:=by
 unfold bK;have h:dB x.r=0:=h;rw[if_neg ae,if_pos h]
theorem OV{x:Rl}(h1:x.r.num.sign≠ -1)(h0:x.r.num.sign≠0):bK x= !Ap x.r:=by
 unfold bK;have h1:dB x.r≠ -1:=h1;have h0:dB x.r≠0:=h0;rw[if_neg (by rcases FV x.r with e|e|e<;>omega),if_neg h0]
theorem qeK(i:Iv):ja i=decide (yg i.b i.e<0):=by
 unfold ja yg Iv.b Iv.e;dsimp only;have h:=rD i.f i.t
 by_cases h0:aY i.f i.t=0
 ·clear h;rw[h0];cases i.fo<;>cases i.tp<;>rfl
 ·rw[if_pos h0,decide_eq_false h0];simp
def RY{a b:Iv}{n:Nat}(ha:gV a<=n)(hb:gV b<=n):eU (tN a b).1<=n:=by
 have:=ig a;have:=ig b;unfold tN;split<;>(try split)<;>dsimp only<;>omega
def RZ{a b:Iv}{n:Nat}(ha:gV a<=n)(hb:gV b<=n):eU (vZ a b).1<=n:=by
 have:=gW a;have:=gW b;unfold vZ;split<;>(try split)<;>dsimp only<;>omega
def XE{a b:Iv}{n:Nat}(ha:gV a<=n)(hb:gV b<=n):gV (dR a b)<=n:=qH (RY ha hb) (RZ ha hb)
theorem qo3{a b:Iv}(h:aY a.f b.f<0):tN a b=(b.f,b.fo):=by unfold tN;rw[if_pos h]
theorem qcy{a b:Iv}(h:¬aY a.f b.f<0)(h0:aY a.f b.f=0):tN a b=(a.f,a.fo||b.fo):=by unfold tN;rw[if_neg h,if_pos h0]
theorem qo4{a b:Iv}(h:¬aY a.f b.f<0)(h0:aY a.f b.f≠0):tN a b=(a.f,a.fo):=by unfold tN;rw[if_neg h,if_neg h0]
theorem qo5{a b:Iv}(h:0<aY a.t b.t):vZ a b=(b.t,b.tp):=by unfold vZ;rw[if_pos h]
theorem qcz{a b:Iv}(h:¬0<aY a.t b.t)(h0:aY a.t b.t=0):vZ a b=(a.t,a.tp||b.tp):=by unfold vZ;rw[if_neg h,if_pos h0]
theorem qo6{a b:Iv}(h:¬0<aY a.t b.t)(h0:aY a.t b.t≠0):vZ a b=(a.t,a.tp):=by unfold vZ;rw[if_neg h,if_neg h0]
def qvW:List Value:=[aQ,aS,aQ,aS,aQ,aS,aQ,aS,.bool false,aQ,aS,aQ,aS,aQ,aS,aQ,aS,.bool false,.bool false,.bool false]
end Go.Via
namespace Go.Via
open Go
structure RtG(n:Nat) where
 lo:Nat
 hi:Nat
 lx:SR (nb lo)
 hx:SR (nb hi)
 h1:lo*lo<=n
 h2:n<hi*hi
 h3:hi<=n+1
def qjN(n:Nat):n<(n+1)*(n+1):=Nat.lt_of_lt_of_le (Nat.lt_succ_self n) (Nat.le_mul_of_pos_right _ ae)
def qqY{n lo hi:Nat}(h1:lo*lo<=n)(h2:n<hi*hi):lo<hi:=Zi (Nat.lt_of_le_of_lt h1 h2)
def qtK{n lo hi:Nat}(h1:lo*lo<=n)(h2:n<hi*hi)(h:¬lo+1<hi):bU n=lo:=by
 have h0:=qqY h1 h2;have:hi=lo+1:=ae;subst this;exact FC h1 h2
theorem qtL:D8 2=[2]:=Ba ae ae ae
theorem UK:nb 2=1:=by have h1:=oh (n:=2) (k:=1) ae;have h2:=Fh (u:=2) ae;omega
theorem qo7{a r:Rat}{u:Int}(h:dB a=0):jG a u r=u*dB r:=by unfold jG;rw[if_pos h]
theorem qcA{a r:Rat}{u:Int}(h:dB a≠0)(h2:u*dB r=0∨dB a=u*dB r):jG a u r=dB a:=by unfold jG;rw[if_neg h,if_pos h2]
theorem qo8{a r:Rat}{u:Int}(h:dB a≠0)(h2:u*dB r≠0)(h3:dB a≠u*dB r):jG a u r=dB a*mJ (a*a) r:=by unfold jG;rw[if_neg h,if_neg (by rintro(e|e);exact h2 e;exact h3 e)]
theorem m3{a b:Int}(ha:a= -1∨a=0∨a=1)(hb:b= -1∨b=0∨b=1):a*b= -1∨a*b=0∨a*b=1:=by
 rcases ha with rfl|rfl|rfl<;>rcases hb with rfl|rfl|rfl<;>simp
def qjO(a r:Rat){u:Int}(hu:u= -1∨u=0∨u=1):jG a u r= -1∨jG a u r=0∨jG a u r=1:=by
 unfold jG
 split
 ·exact m3 hu (FV r)
 ·split
  ·exact FV a
  ·exact m3 (FV a) (qjo _ _)
section
variable{a r s:Rat}{u v:Int}
theorem qcB(h:jG a u r≠v*dB s∨jG a u r=0)(h2:v*dB s<jG a u r):Qh a u r v s=1:=by unfold Qh;rw[if_pos h,if_pos h2]
theorem qcC(h:jG a u r≠v*dB s∨jG a u r=0)(h2:¬v*dB s<jG a u r):Qh a u r v s=jG a u r-v*dB s:=by unfold Qh;rw[if_pos h,if_neg h2]
theorem qo9(h:¬jG a u r≠v*dB s)(h2:¬jG a u r=0):Qh a u r v s=jG a u r*jG (a*a+r-s) (u*dB a) (4*(a*a*r)):=by
 unfold Qh;rw[if_neg (by rintro(e|e);exact h e;exact h2 e)]
end
def qjP(x:Rl):nH x= -1∨nH x=0∨nH x=1:=by unfold nH;split<;>simp
def qjQ:bY 4<=2:=nZ (z:=4) ae ae
def qvX:Rat.divInt 2 1=2:=eP
def qyj:Rat.divInt 4 1=4:=eP
theorem qtM{f:Qd}{t:Rl}(h:dB t.r=0):lS f t=⟨rE f t.p,0,0⟩:=by unfold lS;rw[if_pos h]
theorem qtN{f:Qd}{t:Rl}(h:dB t.r≠0):lS f t=⟨f.c0+f.c2*(t.r-t.p*t.p),f.c1+2*(t.p*f.c2),0⟩:=by unfold lS;rw[if_neg h]
def qjR{f:Qd}{t:Rl}{m n:Nat}(hf:ve f<=m)(ht:eU t<=n):ve (lS f t)<=3*m+4*n+6:=by
 have e0:=Nat.le_trans (qE f) hf;have e1:=Nat.le_trans (qF f) hf;have e2:=Nat.le_trans (rf f) hf;have t1:=Nat.le_trans (pM t) ht;have t2:=Nat.le_trans (wG t) ht;have z0:=y9;unfold lS
 split
 ·have h1:=yH f t.p;refine Jw ?_ ?_ ?_<;>dsimp only<;>omega
 ·have l1:=bW t.p t.p;have l2:=gX t.r (t.p*t.p);have l3:=bW f.c2 (t.r-t.p*t.p);have l4:=iQ f.c0 (f.c2*(t.r-t.p*t.p));have l5:=bW t.p f.c2;have l6:=bW 2 (t.p*f.c2);have l7:=iQ f.c1 (2*(t.p*f.c2));have l8:=Ia;refine Jw ?_ ?_ ?_<;>dsimp only<;>omega
def jI(f:Ln):Nat:=max (max (bY f.x0) (bY f.x1)) (max (bY f.y0) (bY f.y1))
def sK(f:Ln):bY f.x0<=jI f:=UG
def sO(f:Ln):bY f.x1<=jI f:=UG
def sQ(f:Ln):bY f.y0<=jI f:=UG
def sS(f:Ln):bY f.y1<=jI f:=UG
def qjS{f g:Ln}{n:Nat}(hf:jI f<=n)(hg:jI g<=n):ve (d2 f g)<=8*n+20:=by
 have a0:=Nat.le_trans (sK f) hf;have a1:=Nat.le_trans (sO f) hf;have a2:=Nat.le_trans (sQ f) hf;have a3:=Nat.le_trans (sS f) hf;have b0:=Nat.le_trans (sK g) hg;have b1:=Nat.le_trans (sO g) hg;have b2:=Nat.le_trans (sQ g) hg;have b3:=Nat.le_trans (sS g) hg;have s0:=gX f.x0 g.x0;have s1:=gX f.x1 g.x1;have s2:=gX f.y0 g.y0;have s3:=gX f.y1 g.y1;have z:=Ia;unfold d2;refine Jw ?_ ?_ ?_<;>dsimp only
 ·have:=iQ ((f.x0-g.x0)*(f.x0-g.x0)) ((f.y0-g.y0)*(f.y0-g.y0));have:=bW (f.x0-g.x0) (f.x0-g.x0);have:=bW (f.y0-g.y0) (f.y0-g.y0);omega
 ·have:=bW 2 ((f.x0-g.x0)*(f.x1-g.x1)+(f.y0-g.y0)*(f.y1-g.y1));have:=iQ ((f.x0-g.x0)*(f.x1-g.x1)) ((f.y0-g.y0)*(f.y1-g.y1));have:=bW (f.x0-g.x0) (f.x1-g.x1);have:=bW (f.y0-g.y0) (f.y1-g.y1);omega
 ·have:=iQ ((f.x1-g.x1)*(f.x1-g.x1)) ((f.y1-g.y1)*(f.y1-g.y1));have:=bW (f.x1-g.x1) (f.x1-g.x1);have:=bW (f.y1-g.y1) (f.y1-g.y1);omega
def XF{m n:Nat}(h:(oD m n !=0)=true):m≠n:=fun e=>by subst e;unfold oD at h;simp at h
def XG{m n:Nat}(h:(oD m n !=0)=false):m=n:=by
 unfold oD at h
 by_cases h1:m<n
 ·simp[h1] at h
 ·by_cases h2:n<m
  ·simp[h1,h2] at h
  ·omega
theorem qvY{q:Rat}(h:decide (q.num<0)=true):Ap q=false:=by
 have:=of_decide_eq_true h;unfold Ap;rw[decide_eq_false ae];rfl
theorem qvZ{q:Rat}(h:bU q.num.natAbs*bU q.num.natAbs≠q.num.natAbs):Ap q=false:=by
 unfold Ap;rw[beq_eq_false_iff_ne.2 h];simp
theorem qv0{q:Rat}(h:bU q.den*bU q.den≠q.den):Ap q=false:=by
 unfold Ap;rw[beq_eq_false_iff_ne.2 h];simp
theorem qv1{q:Rat}(h:decide (q.num<0)=false)(h1:bU q.num.natAbs*bU q.num.natAbs=q.num.natAbs)(h2:bU q.den*bU q.den=q.den):Ap q=true:=by
 have:=of_decide_eq_false h;unfold Ap;rw[h1,h2,decide_eq_true ae];simp
def qeL(q:Rat)(h:bU q.den*bU q.den=q.den):0<bU q.den:=by
 have:=q.den_nz;exact Nat.pos_of_ne_zero fun e=>by rw[e] at h;omega
end Go.Via
namespace Go.Proofs.YtaffcpfhedadhaaGreatDoor
open Go Go.Via
def CX(q:Rat)(h:bY q<=5000:=by omega):aG Tryz.prog 111 #[Q q] (.bool true):=by
 have:=Qj (decide (q.num<0)) (bH q.num.natAbs) false (dm q) qjk (Nat.le_trans (qcs q) h);rw[Hm.2 ⟨q,rfl,rfl,rfl,rfl⟩] at this;exact this
end Go.Proofs.YtaffcpfhedadhaaGreatDoor
namespace Go.Via
open Go
def Si(out:List Iv)(t:Rl)(tp:Bool):List Iv:=match out.getLast? with
 |some i=>out.dropLast++[⟨i.f,t,i.fo,tp⟩]
 |none=>out
def jW(out:List Iv)(op h:Bool)(t:Rl):List Iv:=if op=true then Si out t (!h) else if h=true then out++[⟨t,t,false,false⟩] else out
def qR(here:Rl->Bool)(btw:Rl->Rl->Bool):List Rl->List Iv->Bool->List Iv
 |[],out,_=>out
 |[t],out,op=>jW out op (here t) t
 |t::u::ts,out,op=>qR here btw (u::ts) (if btw t u=true∧here t=false then jW out op (here t) t++[⟨t,u,true,true⟩] else jW out op (here t) t) (btw t u)
theorem wM(out:List Iv)(i:Iv)(t:Rl)(tp:Bool):Si (out++[i]) t tp=out++[⟨i.f,t,i.fo,tp⟩]:=by
 unfold Si;rw[List.getLast?_append];simp
theorem vg{here:Rl->Bool}{btw:Rl->Rl->Bool}:∀{ts:List Rl} {out:List Iv},(qR here btw ts out false=out++(Rf here btw none ts).map fun p=>PW p.1 p.2)∧∀i:Iv,ts≠[]->qR here btw ts (out++[i]) true=out++(Rf here btw (some i.b) ts).map fun p=>PW p.1 p.2
 |[],out=>by
  refine⟨by simp[qR,Rf],fun i h=>absurd rfl h⟩
 |[t],out=>by
  refine⟨?_,fun i _=>?_⟩
  ·unfold qR Rf jW;cases here t<;>simp[PW]
  ·unfold qR Rf jW;rw[if_pos rfl,wM];simp[PW,Iv.b]
 |t::u::ts,out=>by
  refine⟨?_,fun i _=>?_⟩
  ·unfold qR Rf jW;cases hh:here t<;>cases hb:btw t u<;>simp only[Bool.false_eq_true,if_false,if_true,and_true,and_false,true_and,false_and,reduceIte]
   ·exact(vg (ts:=u::ts) (out:=out)).1
   ·exact(vg (ts:=u::ts) (out:=out)).2 ⟨t,u,true,true⟩ bz
   ·rw[(vg (ts:=u::ts) (out:=out++[_])).1];simp[PW]
   ·exact(vg (ts:=u::ts) (out:=out)).2 ⟨t,t,false,false⟩ bz
  ·unfold qR Rf jW;rw[if_pos rfl,wM];cases hh:here t<;>cases hb:btw t u<;>simp only[Bool.false_eq_true,if_false,if_true,and_true,and_false,true_and,false_and,reduceIte]
   ·rw[(vg (ts:=u::ts) (out:=out++[_])).1];simp[PW,Iv.b]
   ·rw[(vg (ts:=u::ts) (out:=out++[_])).2 ⟨t,u,true,true⟩ bz];simp[PW,Iv.b]
   ·rw[(vg (ts:=u::ts) (out:=out++[_])).1];simp[PW,Iv.b]
   ·exact(vg (ts:=u::ts) (out:=out)).2 ⟨i.f,t,i.fo,false⟩ bz
def iY.setf{α:Type}{c:α->List Value}{k:Nat}(h:iY α c k){l:List α}{i:Nat}{x y:α}{v:List Value}{o n:Nat}(hx:l[i]? =some x)(hy:(c x).take o++v++(c x).drop (o+n)=c y)(hn:o+n<=k):
 (ai c l).take (i*k+o)++v++(ai c l).drop (i*k+o+n)=ai c (l.set i y):=by
 have hi:i<l.length:=(List.getElem?_eq_some_iff.1 hx).1;have e1:(ai c l).take (i*k+o)=(ai c l).take (i*k)++(c x).take o:=by
  rw[List.take_add,<-h.get hx,List.take_take,Nat.min_eq_left ae]
 have e2:(ai c l).drop (i*k+o+n)=(c x).drop (o+n)++(ai c l).drop (i*k+k):=by
  have e3:(ai c l).drop (i*k)=c x++(ai c l).drop (i*k+k):=by
   rw[<-h.get hx,<-List.drop_drop];exact(List.take_append_drop k _).symm
  rw[Nat.add_assoc,<-List.drop_drop,e3,List.drop_append_of_le_length (by rw[h.len];exact hn)]
 rw[e1,e2,<-h.set y hi,<-hy];simp
theorem Sj{out:List Iv}{i:Iv}(h:out[out.length-1]? =some i)(t:Rl)(tp:Bool):Si out t tp=out.set (out.length-1) ⟨i.f,t,i.fo,tp⟩:=by
 have hne:out≠[]:=fun e=>by subst e;simp at h
 obtain⟨l,j,rfl⟩:∃l j,out=l++[j]:=⟨out.dropLast,out.getLast hne,(List.dropLast_concat_getLast hne).symm⟩;simp at h;subst h;rw[wM];simp
def qI(op:Int)(a b:Bool):Bool:=if op=1 then a||b else if op=2 then a&&b else a&& !b
end Go.Via
namespace Go.Via
theorem Ib{α:Type}{l:List α}{i:Nat}{x:α}{p:α->Bool}(hx:l[i]? =some x):(l.drop i).any p=(p x||(l.drop (i+1)).any p):=by
 have:l.drop i=x::l.drop (i+1):=by
  obtain⟨hlt,e⟩:=List.getElem?_eq_some_iff.1 hx;rw[List.drop_eq_getElem_cons hlt,e]
 rw[this,List.any_cons]
end Go.Via
namespace Go.Via
theorem UL{x:Rl}:∀{l:List Rl} {k:Nat},k<=l.length->(∀j y,j<k->l[j]? =some y->aY y x<0)->(∀y,l[k]? =some y->¬aY y x<0∧aY y x≠0)->tV x l=l.take k++x::l.drop k
 |[],k,hk,_,_=>by simp at hk;subst hk;rfl
 |y::l,0,_,_,h=>by
  have:=h y rfl;unfold tV;rw[if_neg this.1,if_neg this.2];rfl
 |y::l,k+1,hk,hall,h=>by
  have h0:=hall 0 y ae rfl;unfold tV;rw[if_pos h0,UL (by simpa using hk) (fun j z hj hz=>hall (j+1) z ae VQ) (fun z hz=>h z VQ)]
  rfl
theorem qcD{x:Rl}:∀{l:List Rl} {k:Nat} {y:Rl},l[k]? =some y->(∀j y,j<k->l[j]? =some y->aY y x<0)->¬aY y x<0->aY y x=0->tV x l=l
 |[],k,y,hy,_,_,_=>by simp at hy
 |z::l,0,y,hy,_,h1,h2=>by
  simp at hy;subst hy;unfold tV;rw[if_neg h1,if_pos h2]
 |z::l,k+1,y,hy,hall,h1,h2=>by
  unfold tV;rw[if_pos (hall 0 z ae rfl),qcD (l:=l) (k:=k) (by simpa using hy) (fun j w hj hw=>hall (j+1) w ae (by simpa using hw)) h1 h2]
theorem XH{l:List Rl}{i:Nat}{x:Rl}(hx:l[i]? =some x):dX (l.take (i+1))=tV x (dX (l.take i)):=by
 rw[<-fH hx];unfold dX;rw[List.foldl_append];rfl
def XI(x:Rl):∀l:List Rl,(tV x l).length<=l.length+1
 |[]=>by simp[tV]
 |y::l=>by
  have:=XI x l;unfold tV;split
  ·simp;omega
  ·split<;>simp
def UM(l:List Rl):(dX l).length<=l.length:=by
 have:∀(l o:List Rl),(l.foldl (fun o x=>tV x o) o).length<=o.length+l.length:=by
  intro l
  induction l with
  |nil=>intro o;simp
  |cons x l ih=>intro o;rw[List.foldl_cons];have:=ih (tV x o);have:=XI x o;simp;omega
 have:=this l [];unfold dX;simpa using this
def XJ{p:Rl->Prop}{x:Rl}(hx:p x):∀{l:List Rl},(∀y∈l,p y)->∀y∈tV x l,p y
 |[],_,y,hy=>by simp[tV] at hy;rw[hy];exact hx
 |z::l,h,y,hy=>by
  unfold tV at hy
  split at hy
  ·rcases List.mem_cons.1 hy with e|e
   ·rw[e];exact h z (List.mem_cons_self ..)
   ·exact XJ hx (fun w hw=>h w (List.mem_cons_of_mem _ hw)) y e
  ·split at hy
   ·exact h y hy
   ·rcases List.mem_cons.1 hy with e|e
    ·rw[e];exact hx
    ·exact h y e
def qcE{p:Rl->Prop}{l:List Rl}(h:∀y∈l,p y):∀y∈dX l,p y:=by
 have:∀(l o:List Rl),(∀y∈l,p y)->(∀y∈o,p y)->∀y∈l.foldl (fun o x=>tV x o) o,p y:=by
  intro l
  induction l with
  |nil=>intro o _ ho;exact ho
  |cons x l ih=>intro o hl ho;rw[List.foldl_cons];exact ih _ (fun y hy=>hl y (List.mem_cons_of_mem _ hy)) (XJ (hl x (List.mem_cons_self ..)) ho)
 exact this l [] h bz
section
variable{α:Type}{c:α->List Value}{k:Nat}
theorem iY.takeR(h:iY α c k):∀(l:List α) (n:Nat),(ai c l).take (n*k)=ai c (l.take n)
 |[],n=>by simp[ai]
 |x::l,0=>by simp[ai]
 |x::l,n+1=>by
  have e:(n+1)*k=(c x).length+n*k:=Ur;rw[iL,e,List.take_length_add_append,List.take_succ_cons,iL,iY.takeR h l n]
theorem iY.dropR(h:iY α c k):∀(l:List α) (n:Nat),(ai c l).drop (n*k)=ai c (l.drop n)
 |[],n=>by simp[ai]
 |x::l,0=>by simp
 |x::l,n+1=>by
  have e:(n+1)*k=(c x).length+n*k:=Ur;rw[iL,e,List.drop_length_add_append,List.drop_succ_cons,iY.dropR h l n]
theorem iY.lenTake(h:iY α c k){l:List α}{n:Nat}(hn:n<=l.length):(ai c (l.take n)).length=n*k:=by rw[h.length,List.length_take,Nat.min_eq_left hn]
theorem iY.lenDrop(h:iY α c k)(l:List α)(n:Nat):(ai c (l.drop n)).length=(l.length-n)*k:=by rw[h.length,List.length_drop]
def iY.dropT(h:iY α c k){l:List α}{n cap:Nat}(hc:l.length<=cap)(hn:n<=l.length):((ai c l).drop (if cap=n then 0 else n*k)).take ((l.length-n)*k)=ai c (l.drop n):=by
 by_cases e:cap=n
 ·have:l.length-n=0:=ae
  rw[if_pos e,this,Nat.zero_mul,List.take_zero,List.drop_of_length_le ae];rfl
 ·rw[if_neg e,h.dropR,List.take_of_length_le];rw[h.lenDrop];exact Nat.le_refl _
end
end Go.Via
namespace Go.Via
theorem wO:∀l:List Iv,(bV l).length=2*l.length
 |[]=>rfl
 |i::l=>by show(i.f::i.t::bV l).length=_;rw[List.length_cons,List.length_cons,wO l,List.length_cons];omega
def qcF{l:List Iv}{n:Nat}(h:∀x∈l,gV x<=n):∀y∈bV l,eU y<=n:=fun y hy=>by
 obtain⟨i,hi,he⟩:=List.mem_flatMap.1 hy;have:=h i hi;simp at he;rcases he with rfl|rfl
 ·exact Nat.le_trans (ig i) this
 ·exact Nat.le_trans (gW i) this
def qJ{α:Type}{c:α->List Value}{k:Nat}(h:iY α c k)(hk:0<k){l:List α}{b:Option Nat}(hb:b=none->ai c l=[]):l.length=0∨∃g,b=some g:=by
 by_cases e:l.length=0
 ·exact .inl e
 ·right
  cases b with
  |some g=>exact⟨g,rfl⟩
  |none=>exact absurd (hb rfl) (h.ne hk ae)
end Go.Via
namespace Go.Via
open Go
theorem Ae{α:Type}{l:List α}{i:Nat}{x:α}(hx:l[i]? =some x):l.drop i=x::l.drop (i+1):=by
 obtain⟨hlt,e⟩:=List.getElem?_eq_some_iff.1 hx;rw[List.drop_eq_getElem_cons hlt,e]
theorem UN(op:Bool->Bool->Bool)(a b:List Iv):dI op a b=qR (fun t=>op (ou a t) (ou b t)) (fun t u=>op (oz a t u) (oz b t u)) (dX (bV (a++b))) [] false:=by
 rw[vg.1];rfl
section
variable{here:Rl->Bool}{btw:Rl->Rl->Bool}{E:List Rl}{i:Nat}{t u:Rl}{out o1:List Iv}{og h w:Bool}
def qeM(ht:E[i]? =some t)(he:i+1=E.length)(hh:here t=h):jW out og h t=qR here btw (E.drop i) out og:=by
 rw[Ae ht,List.drop_of_length_le ae];unfold qR;rw[hh]
theorem Jz(ht:E[i]? =some t)(hu:E[i+1]? =some u)(hh:here t=h)(hw:btw t u=w):
 qR here btw (E.drop i) out og=qR here btw (E.drop (i+1)) (if w=true∧h=false then jW out og h t++[⟨t,u,true,true⟩] else jW out og h t) w:=by
 rw[Ae ht,Ae hu];rw[qR,hh,hw]
def qjT(ht:E[i]? =some t)(hu:E[i+1]? =some u)(hh:here t=h)(hw:btw t u=w)(h1:w=true)(h2:h=false)(ho:o1=jW out og h t):
 qR here btw (E.drop i) out og=qR here btw (E.drop (i+1)) (o1++[⟨t,u,true,true⟩]) true:=by
 rw[Jz ht hu hh hw,if_pos ⟨h1,h2⟩,ho,h1]
def qpa(ht:E[i]? =some t)(hu:E[i+1]? =some u)(hh:here t=h)(hw:btw t u=w)(h1:w=true)(h2:h=true)(ho:o1=jW out og h t):
 qR here btw (E.drop i) out og=qR here btw (E.drop (i+1)) o1 true:=by
 rw[Jz ht hu hh hw,if_neg (by rw[h2];simp),ho,h1]
def qpb(ht:E[i]? =some t)(hu:E[i+1]? =some u)(hh:here t=h)(hw:btw t u=w)(h1:w=false)(ho:o1=jW out og h t):
 qR here btw (E.drop i) out og=qR here btw (E.drop (i+1)) o1 false:=by
 rw[Jz ht hu hh hw,if_neg (by rw[h1];simp),ho,h1]
end
theorem qpc{out:List Iv}{og h:Bool}{t:Rl}{j:Iv}(h0:og=true)(h1:h=true)(hj:out[out.length-1]? =some j):jW out og h t=out.set (out.length-1) ⟨j.f,t,j.fo,false⟩:=by
 subst h0;subst h1;unfold jW;rw[if_pos rfl,Sj hj];rfl
theorem qpd{out:List Iv}{og h:Bool}{t:Rl}{j:Iv}(h0:og=true)(h1:h=false)(hj:out[out.length-1]? =some j):jW out og h t=out.set (out.length-1) ⟨j.f,t,j.fo,true⟩:=by
 subst h0;subst h1;unfold jW;rw[if_pos rfl,Sj hj];rfl
theorem qpe{out:List Iv}{og h:Bool}{t:Rl}(h0:og=false)(h1:h=true):jW out og h t=out++[⟨t,t,false,false⟩]:=by subst h0;subst h1;rfl
theorem qpf{out:List Iv}{og h:Bool}{t:Rl}(h0:og=false)(h1:h=false):jW out og h t=out:=by subst h0;subst h1;rfl
def qjU(out:List Iv)(og:Bool)(t:Rl):og=true∧out=[]∨0<(jW out og true t).length:=by
 cases og
 ·right;simp[jW]
 ·by_cases h:out=[]
  ·exact .inl ⟨rfl,h⟩
  ·right
   obtain⟨l,j,rfl⟩:∃l j,out=l++[j]:=⟨out.dropLast,out.getLast h,(List.dropLast_concat_getLast h).symm⟩;unfold jW;rw[if_pos rfl,wM];simp
end Go.Via
namespace Go.Proofs.YtaffcpfhedadhaaGreatDoor
open Go Go.RowKit Go.Via
def Ic(n:Nat)(hn:nb n<=100000000)(x:SR (nb n)):bQ Tryz.prog 162 [⟨x.b,3,NV .i64 (D8 (n)),x.n,false⟩] [x.v] (SR (nb (bU n))) SR.v (fun z=>[⟨z.b,3,NV .i64 (D8 (bU n)),z.n,true⟩]):=by
 refine Qg 34 Tryz.func162 fun w hL0=>?_;refine A7 ?_;refine(Bl 0 []) (qnp) (fun g0=>?_);refine A1 ?_;refine Om fun g1=>?_;refine iJ [_,SR.v (len:=nb 1) ⟨some g1,1,1,UH⟩] [0,2] rfl rfl (by show _=[some _,some (aB (some g1) 0 (nb 1) 1)];rw[vT];rfl) (kZ n 1 ae (by rw[vT];omega) x ⟨some g1,1,1,UH⟩) ⟨pS,⟨_,rfl,by rw[Zg];exact iC⟩,trivial⟩ rfl (.inr fun x b hb=>xO) (fun zp=>?_);refine A6 ?_;refine El (ι:=RtG n) (fun⟨lo,hi,lx,hx,h1,h2,h3⟩=>([(0,x.v),(3,lx.v),(4,hx.v)],[⟨x.b,3,NV .i64 (D8 (n)),x.n,false⟩,⟨lx.b,3,NV .i64 (D8 (lo)),lx.n,true⟩,⟨hx.b,3,NV .i64 (D8 (hi)),hx.n,true⟩],hi-lo)) ⟨0,n+1,⟨some g0,0,0,by rw[lU];exact Nat.le_refl _⟩,zp,Nat.zero_le _,qjN n,Nat.le_refl _⟩ ?_ (ht:=⟨rfl,(aO rfl (by show aB (some g0) 0 0 0=aB (some g0) 0 (nb 0) 0;rw[lU])),rfl,trivial⟩) (hL:=(ay [some 0,some 1,some 3] ⟨pR,⟨_,rfl,by rw[TU];exact aF.le_refl _⟩,pR,trivial⟩ rfl rfl));rintro⟨lo,hi,lx,hx,h1,h2,h3⟩;(try dsimp only);have hlo:=qqY h1 h2;have b1:nb lo<=nb n+1:=Nat.le_trans (gu (show lo<=n by omega)) ae;have b2:nb hi<=nb n+2:=Nat.le_trans (gu h3) (by have:=Bf n 1;rw[vT] at this;omega);have b3:=Bf lo hi;have b4:=Bf lo 1;have b5:=vT;have b6:=EZ (lo+hi) 2;have b7:=o6 ((lo+hi)/2) ((lo+hi)/2);refine A4 ?_;refine(Bl 1 [(0,_)]) (zA) (fun g2=>?_);refine iJ [_,SR.v (len:=nb 1) ⟨some g2,1,1,UH⟩] [1,3] rfl rfl (by show _=[some _,some (aB (some g2) 0 (nb 1) 1)];rw[vT];rfl) (kZ lo 1 ae (by rw[vT];omega) lx ⟨some g2,1,1,UH⟩) ⟨pS,⟨_,rfl,by rw[Zg];exact iC⟩,trivial⟩ rfl (.inr fun x b hb=>xO) (fun z1=>?_);refine A1 ?_;refine(Sd [4,2]) (dW (lo+1) hi ae z1 hx) ?_;refine A3 ?_;refine Cd ?_ ?_<;>intro haQ
 ·have hlt:lo+1<hi:=QY haQ;refine A7 ?_;refine(Sc [1,2]) (kZ lo hi ae ae lx hx) (fun zs=>?_);refine(Bl 1 [(0,_)]) (zA) (fun g3=>?_);refine iJ [_,SR.v (len:=nb 2) ⟨some g3,1,1,by rw[UK];exact Nat.le_refl _⟩] [5,6] rfl rfl (by show _=[some _,some (aB (some g3) 0 (nb 2) 1)];rw[UK];rfl) (qo (lo+hi) 2 ae ae (by rw[UK];omega) zs ⟨some g3,1,1,by rw[UK];exact Nat.le_refl _⟩) ⟨pS,⟨_,rfl,by rw[qtL];exact iC⟩,trivial⟩ rfl (.inr N8) (fun zd0=>?_);obtain⟨zd,rfl⟩:∃z,zd0=Sum.inl z:=by cases zd0 with|inl z=>exact⟨z,rfl⟩|inr h=>exact absurd h.down ae
  refine qX ?_;refine(Sc [7,7]) (jg ((lo+hi)/2) ((lo+hi)/2) ae ae zd.1 zd.1) (fun zt=>?_);refine A1 ?_;refine(Sd [9,0]) (dW ((lo+hi)/2*((lo+hi)/2)) n ae zt x) ?_;refine A3 ?_;refine Cd ?_ ?_<;>intro hbQ
  ·have hc:(lo+hi)/2*((lo+hi)/2)<=n:=xJ.1 (of_decide_eq_true hbQ);refine A6 ?_;exact Nl ⟨(lo+hi)/2,hi,zd.1,hx,hc,h2,h3⟩ (hμ:=(by show hi-(lo+hi)/2<hi-lo;omega)) (hL:=(xK [some 0,some 7,some 2]))
  ·have hc:n<(lo+hi)/2*((lo+hi)/2):=Nat.lt_of_not_le fun e=>of_decide_eq_false hbQ (xJ.2 e)
   refine A6 ?_;exact Nl ⟨lo,(lo+hi)/2,lx,zd.1,h1,hc,ae⟩ (hμ:=(by show(lo+hi)/2-lo<hi-lo;omega)) (hL:=(xK [some 0,some 1,some 7]))
 ·have hge:¬lo+1<hi:=Nat.not_lt.2 (NS haQ);have he:=qtK h1 h2 hge;obtain rfl:=he;refine oH ?_;refine aH rfl (ax rfl) (fun w hL=>⟨lx,?_,hL.pk [some 1]⟩);exact rfl
def Ie(q:Rat)(hq:bY q<=4194303:=by omega):aG Tryz.prog 112 #[Q q] (.tuple #[Q (if Ap q=true then mX q else 0),.bool (Ap q)]):=by
 have e1:=MW hq;have e2:=MX hq;have r1:=qA q.num.natAbs;have r2:=qA q.den;have m1:=o6 (bU q.num.natAbs) (bU q.num.natAbs);have m2:=o6 (bU q.den) (bU q.den);refine vC 40 Tryz.func112 fun w=>?_;refine iH fun g0=>?_;refine rM fun g1=>?_;refine A5 ?_;refine L4 0 0 ?_;refine ZU fun y=>?_;refine Al 3 qdA (fun g2=>?_);refine zY ?_;refine Dp [] [0,1,3,4,2,5,6,7] ?_;refine A4 ?_;refine(Sc [2]) (Ic (q.num.natAbs) ae y.1) (fun zn=>?_);refine(Sc [3]) (Ic (q.den) ae y.2) (fun zd=>?_);refine A6 ?_;refine Dp [] [0,1,2,3,4,6,7,5,8,9,10,11,12,13,15,16,14,17,18,19] ?_ (hc:=(qg [0,1,3,7,7,31,7,71,255,511,1023,2047,4095,4095,16383,4095,36863,131071,262143,524287] ak));refine A3 ?_;refine Rs 17 ?_ ?_<;>intro haQ
 ·have hs17:decide (q.num<0)=true:=haQ;refine A22 ?_;refine qab ?_;refine A5 ?_;refine bT rfl (bn 1 rfl rfl BC (vs:=[_,_,_,_]) rfl rfl (Nat.le_of_ble_eq_true rfl) rfl) (ax rfl) (fun w hL=>⟨?_,hL.below⟩);rw[qvY hs17,if_neg au];rfl
 ·have hs17:decide (q.num<0)=false:=haQ;refine A4 ?_;refine(Sc [5,5]) (jg (bU q.num.natAbs) (bU q.num.natAbs) ae ae zn zn) (fun tn=>?_);refine(Sd [7,2]) (dW (bU q.num.natAbs*bU q.num.natAbs) q.num.natAbs ae tn y.1) ?_;refine A3 ?_;refine Rs 26 ?_ ?_<;>intro hbQ
  ·have hs24:bU q.num.natAbs*bU q.num.natAbs≠q.num.natAbs:=XF hbQ;refine EE ?_;refine qab ?_;refine A5 ?_;refine bT rfl (bn 1 rfl rfl BC (vs:=[_,_,_,_]) rfl rfl (Nat.le_of_ble_eq_true rfl) rfl) (ax rfl) (fun w hL=>⟨?_,hL.below⟩);rw[qvZ hs24,if_neg au];rfl
  ·have hs24:bU q.num.natAbs*bU q.num.natAbs=q.num.natAbs:=XG hbQ;refine A4 ?_;refine(Sc [6,6]) (jg (bU q.den) (bU q.den) ae ae zd zd) (fun td=>?_);refine(Sd [8,3]) (dW (bU q.den*bU q.den) q.den ae td y.2) ?_;refine A4 ?_;refine Cd ?_ ?_<;>intro hcQ
   ·have hs33:bU q.den*bU q.den≠q.den:=XF hcQ;refine A2 ?_;refine qab ?_;refine A5 ?_;refine bT rfl (bn 1 rfl rfl BC (vs:=[_,_,_,_]) rfl rfl (Nat.le_of_ble_eq_true rfl) rfl) (ax rfl) (fun w hL=>⟨?_,hL.below⟩);rw[qv0 hs33,if_neg au];rfl
   ·have hs33:bU q.den*bU q.den=q.den:=XG hcQ;refine A6 ?_;refine CB ?_;refine(Sd [5,6]) (iK (bU q.num.natAbs) (bU q.den) false (qeL q hs33) ae ae zn zd) ?_;refine uq ?_;refine bT rfl (bn 1 rfl rfl BC (vs:=[_,_,_,_]) rfl rfl (Nat.le_of_ble_eq_true rfl) rfl) (ax rfl) (fun w hL=>⟨?_,hL.below⟩);rw[qv1 hs17 hs24 hs33,if_pos rfl];rfl
def UO(f:Qd)(t:Rat)(hf:ve f<=500000:=by omega)(ht:bY t<=500000:=by omega):aG Tryz.prog 80 #[uf f,Q t] (Q (rE f t)):=by
 have f0:=Nat.le_trans (qE f) hf;have f1:=Nat.le_trans (qF f) hf;have f2:=Nat.le_trans (rf f) hf;have l1:=bW t f.c2;have l2:=iQ f.c1 (t*f.c2);have l3:=bW t (f.c1+t*f.c2);refine nX 17 Tryz.func80 fun w=>?_;refine kE fun g0=>?_;refine Bp 4 (fun g1=>?_);refine lg fun g2=>?_;refine A3 ?_;refine wE ?_;refine jH ?_;refine oM ?_;refine L4 1 0 ?_;refine rV ?_;refine Pc (dC t f.c2) ?_;refine Pc (fV f.c1 (t*f.c2)) ?_;refine Pc (dC t (f.c1+t*f.c2)) ?_;refine Pc (fV f.c0 (t*(f.c1+t*f.c2))) ?_;exact FT
def OW(f:Qd)(t:Rl)(hf:ve f<=100000:=by omega)(ht:eU t<=100000:=by omega):aG Tryz.prog 99 #[uf f,RV t] (uf (lS f t)):=by
 have f0:=Nat.le_trans (qE f) hf;have f1:=Nat.le_trans (qF f) hf;have f2:=Nat.le_trans (rf f) hf;have t1:=Nat.le_trans (pM t) ht;have t2:=Nat.le_trans (wG t) ht;have l1:=bW t.p t.p;have l2:=gX t.r (t.p*t.p);have l3:=bW f.c2 (t.r-t.p*t.p);have l4:=bW t.p f.c2;have l5:=bW 2 (t.p*f.c2);have l6:=Ia;refine nX 41 Tryz.func99 fun w=>?_;refine kE fun g0=>?_;refine Bp 9 (fun g1=>?_);refine Aa fun g2=>?_;refine A6 ?_;refine L4 1 4 ?_;refine Pc (jc t.r) ?_;refine A3 ?_;refine Cd ?_ ?_<;>intro haQ
 ·have hs9:=eq_of_beq haQ;refine A2 ?_;refine xg 0 0 ?_;refine kF ?_;refine Pc (UO f t.p) ?_;refine(Bu [(0,_)]) (qgj) ?_;refine uo ?_;refine Ue 2 ?_;rw[qtM hs9,RX]
 ·have hs9:=ne_of_beq_false haQ;refine A4 ?_;refine Pc (iU 2 1) ?_;refine aP 15 (Q 2) rfl (congrArg Q qvX) ?_;refine Ac fun g3=>?_;refine oK ?_;refine Dp [] [0,1,2,3,4,5,6,7,8,9,14,15,16,17,18,19,20,10,11,12,13,21,22,23,24,25] ?_ (hc:=(qg [0,1,0,4,0,16,0,64,0,256,960,2032,4092,8191,0,16384,0,0,131072,0,524288,1982463,4145151,8388607,16777215,33554431] ak));refine uu ?_;refine rV ?_;refine ut ?_;refine kF ?_;refine kF ?_;refine oM ?_;refine L4 3 0 ?_;refine kF ?_;refine rV ?_;refine Pc (dC t.p t.p) ?_;refine Pc (kS t.r (t.p*t.p)) ?_;refine Pc (dC f.c2 (t.r-t.p*t.p)) ?_;refine Pc (fV f.c0 (f.c2*(t.r-t.p*t.p))) ?_;refine Pc (dC t.p f.c2) ?_;refine Pc (dC 2 (t.p*f.c2)) ?_;refine Pc (fV f.c1 (2*(t.p*f.c2))) ?_;refine(Bu [(0,_),(1,_)]) (qgk) ?_;refine jq ?_;refine Ue 2 ?_;rw[qtN hs9,qcv]
def EN(a:Rat)(u:Int)(r:Rat)(hu:u= -1∨u=0∨u=1)(ha:bY a<=1000000:=by omega)(hr:bY r<=1000000:=by omega):aG Tryz.prog 109 #[Q a,.int .i64 u,Q r] (.int .i64 (jG a u r)):=by
 have l1:=bW a a;refine pB3 35 Tryz.func109 fun w=>?_;refine iH fun g0=>?_;refine Bp 4 (fun g1=>?_);refine A4 ?_;refine Dp [2000000] [0,2,3,1,4,5,6,7] ?_;refine L4 0 0 ?_;refine kF ?_;refine Pc (jc a) ?_;refine Pc (jc r) ?_;refine(Aq (u*dB r)) (congrArg some (w3 hu (FV r))) ?_;refine EE ?_;refine Cd ?_ ?_<;>intro haQ
 ·have hs15:=eq_of_beq haQ;refine oJ ?_;rw[qo7 hs15]
 ·have hs15:=ne_of_beq_false haQ;refine A5 ?_;refine Rs 22 ?_ ?_<;>intro hbQ
  ·have hs22:=eq_of_beq hbQ;refine PX ?_;refine E0 ?_;rw[qcA hs15 (.inl hs22)];rfl
  ·have hs22:=ne_of_beq_false hbQ;refine A7 ?_;refine Cd ?_ ?_<;>intro hcQ
   ·have hs19:=eq_of_beq hcQ;refine oJ ?_;rw[qcA hs15 (.inr hs19)];rfl
   ·have hs19:=ne_of_beq_false hcQ;refine A4 ?_;refine Dp [] [0,1,2,4,3,5,6,7] ?_;refine uu ?_;refine jH ?_;refine Pc (dC a a) ?_;refine Pc (KU (a*a) r) ?_;refine(Aq (dB a*mJ (a*a) r)) (congrArg some (w3 (FV a) (qjo _ _))) ?_;refine rH ?_;rw[qo8 hs15 hs22 hs19]
def Ig(x:Rl):aG Tryz.prog 56 #[RV x] (.int .i64 (nH x)):=by
 refine vC 5 Tryz.func56 fun w=>?_;refine nI fun g0=>?_;refine lh ?_;refine Cd ?_ ?_<;>intro haQ
 ·refine ng ?_;rw[nH,if_pos haQ]
 ·refine mZ ?_;rw[nH,if_neg OO]
def Qk(a:Rat)(u:Int)(r:Rat)(v:Int)(s:Rat)(hu:u= -1∨u=0∨u=1)(hv:v= -1∨v=0∨v=1)(ha:bY a<=200000:=by omega)(hr:bY r<=200000:=by omega)(hs:bY s<=200000:=by omega):aG Tryz.prog 54 #[Q a,.int .i64 u,Q r,.int .i64 v,Q s] (.int .i64 (Qh a u r v s)):=by
 have l1:=bW a a;have l2:=iQ (a*a) r;have l3:=gX (a*a+r) s;have l4:=bW (a*a) r;have l5:=bW 4 (a*a*r);have l6:=qjQ;have m1:=qjO a r hu;have m2:=m3 hv (FV s);have m3_:=m3 hu (FV a);refine pB5 60 Tryz.func54 fun w=>?_;refine iH fun g0=>?_;refine Bp 4 (fun g1=>?_);refine Bp 4 (fun g2=>?_);refine A4 ?_;refine Dp [2000000] [0,1,2,4,5,3,6,7,8,9] ?_;refine L4 0 0 ?_;refine kF ?_;refine A1 ?_;refine L4 2 0 ?_;refine Pc (EN a u r hu) ?_;refine Pc (jc s) ?_;refine(Aq (v*dB s)) (congrArg some (w3 hv (FV s))) ?_;refine oH ?_;refine Rs 27 ?_ ?_<;>intro haQ
 ·have hs27:jG a u r≠v*dB s:=yF
  refine II ?_;refine Cd ?_ ?_<;>intro hbQ
  ·have hs33:v*dB s<jG a u r:=of_decide_eq_true hbQ;refine oJ ?_;rw[qcB (.inl hs27) hs33]
  ·have hs33:¬v*dB s<jG a u r:=of_decide_eq_false hbQ;refine qjz ?_;rw[qcC (.inl hs27) hs33]
 ·have hs27:jG a u r=v*dB s:=yF
  refine A6 ?_;refine Cd ?_ ?_<;>intro hbQ
  ·have hs29:jG a u r=0:=eq_of_beq hbQ;refine A8 ?_;refine Cd ?_ ?_<;>intro hcQ
   ·have hs33:v*dB s<jG a u r:=of_decide_eq_true hcQ;refine oJ ?_;rw[qcB (.inr hs29) hs33]
   ·have hs33:¬v*dB s<jG a u r:=of_decide_eq_false hcQ;refine qjz ?_;rw[qcC (.inr hs29) hs33]
  ·have hs29:jG a u r≠0:=ne_of_beq_false hbQ;refine A4 ?_;refine Dq [3000000] [0,1,3,2,4,5,6] ?_;refine L4 0 0 ?_;refine jH ?_;refine Pc (dC a a) ?_;refine Pc (fV (a*a) r) ?_;refine Ac fun g3=>?_;refine oK ?_;refine Dq [3000000] [1,2,4,0,3,5,6,7,8] ?_;refine L4 0 0 ?_;refine jH ?_;refine Pc (iU 4 1) ?_;refine aP 42 (Q 4) rfl (congrArg Q qyj) ?_;refine Pc (dC a a) ?_;refine Pc (dC (a*a) r) ?_;refine Pc (dC 4 (a*a*r)) ?_;refine yE fun g4=>?_;refine zY ?_;refine Dp [] [0,1,2,4,5,8,3,6,7,9,10,11] ?_;refine A1 ?_;refine L4 3 0 ?_;refine L4 2 0 ?_;refine uu ?_;refine L4 4 0 ?_;refine Pc (kS (a*a+r) s) ?_;refine Pc (jc a) ?_;refine(Aq (u*dB a)) (congrArg some (w3 hu (FV a))) ?_;refine Pc (EN (a*a+r-s) (u*dB a) (4*(a*a*r)) m3_) ?_;refine(Aq (jG a u r*jG (a*a+r-s) (u*dB a) (4*(a*a*r)))) (congrArg some (w3 m1 (qjO _ _ m3_))) ?_;refine rH ?_;rw[qo9 (fun e=>e hs27) hs29]
def Ih(f g:Ln)(hf:jI f<=100000:=by omega)(hg:jI g<=100000:=by omega):aG Tryz.prog 45 #[AU f,AU g] (uf (d2 f g)):=by
 have f0:=Nat.le_trans (sK f) hf;have f1:=Nat.le_trans (sO f) hf;have f2:=Nat.le_trans (sQ f) hf;have f3:=Nat.le_trans (sS f) hf;have g0:=Nat.le_trans (sK g) hg;have g1:=Nat.le_trans (sO g) hg;have g2:=Nat.le_trans (sQ g) hg;have g3:=Nat.le_trans (sS g) hg;have s0:=gX f.x0 g.x0;have s1:=gX f.x1 g.x1;have s2:=gX f.y0 g.y0;have s3:=gX f.y1 g.y1;have m0:=bW (f.x0-g.x0) (f.x0-g.x0);have m1:=bW (f.y0-g.y0) (f.y0-g.y0);have m2:=bW (f.x0-g.x0) (f.x1-g.x1);have m3:=bW (f.y0-g.y0) (f.y1-g.y1);have m4:=bW (f.x1-g.x1) (f.x1-g.x1);have m5:=bW (f.y1-g.y1) (f.y1-g.y1);have m7:=iQ ((f.x0-g.x0)*(f.x1-g.x1)) ((f.y0-g.y0)*(f.y1-g.y1));have z2:=Ia;refine nX 55 Tryz.func45 fun w=>?_;refine A2 ?_;refine Bp 16 (fun g0=>?_);refine Bp 16 (fun g1=>?_);refine Aa fun g2=>?_;refine A3 ?_;refine DT (l':=[⟨_,_,_,_,_,_⟩,⟨_,_,_,_,_,_⟩,⟨_,_,_,_,_,_⟩,⟨_,_,_,_,_,_⟩,⟨_,_,_,_,_,_⟩,⟨_,_,_,_,_,_⟩,⟨_,_,_,_,_,_⟩,⟨_,_,_,_,_,_⟩,⟨_,_,_,_,_,_⟩,⟨_,_,_,_,_,_⟩,⟨_,_,_,_,_,_⟩,⟨_,_,_,_,_,_⟩,⟨_,_,_,_,_,_⟩,⟨_,_,_,_,_,_⟩,⟨_,_,_,_,_,_⟩,⟨_,_,_,_,_,_⟩,⟨_,_,_,_,_,_⟩,⟨_,_,_,_,_,_⟩,⟨_,_,_,_,_,_⟩,⟨_,_,_,_,_,_⟩,⟨_,_,_,_,_,_⟩,⟨_,_,_,_,_,_⟩,⟨_,_,_,_,_,_⟩,⟨_,_,_,_,_,_⟩,⟨_,_,_,_,_,_⟩,⟨_,_,_,_,_,_⟩,⟨_,_,_,_,_,_⟩,⟨_,_,_,_,_,_⟩]) [3000000] [0,1,2,3,5,6,7,8,10,11,12,13,15,16,17,18,4,9,14,19,20,21,22,23,24,25,26,27] mixed (qbI [0,1,0,4,15,0,32,0,128,511,0,1024,0,4096,16383,0,32768,0,131072,524287,0,0,0,0,16777215,33554431,67108863,134217727] ak) rfl ?_;refine A1 ?_;refine Z7 ?_;refine A1 ?_;refine L4 0 12 ?_;refine A1 ?_;refine L4 1 12 ?_;refine Pc (kS f.x0 g.x0) ?_;refine Pc (kS f.x1 g.x1) ?_;refine Pc (kS f.y0 g.y0) ?_;refine Pc (kS f.y1 g.y1) ?_;refine Ac fun g3=>?_;refine yE fun g4=>?_;refine Al 4 z36 (fun g5=>?_);refine Al 4 z36 (fun g6=>?_);refine Ss 3 ?_;refine Ss 4 ?_;refine Ss 5 ?_;refine Ss 6 ?_;refine A4 ?_;refine Pc (iU 2 1) ?_;refine aP 30 (Q 2) rfl (congrArg Q qvX) ?_;refine Al 4 z36 (fun g7=>?_);refine Ss 7 ?_;refine A3 ?_;refine Dp [] [0,1,3,4,7,8,9,11,12,16,17,19,20,2,5,6,10,13,14,15,18,21,22,23,24] ?_ (hc:=(qg [0,0,3,0,0,31,63,0,0,0,895,0,0,8063,16255,32767,0,0,262143,0,0,2097151,4194303,8388607,16777215] ak));refine L4 3 0 ?_;refine L4 3 0 ?_;refine L4 5 0 ?_;refine L4 5 0 ?_;refine L4 7 0 ?_;refine L4 3 0 ?_;refine L4 4 0 ?_;refine L4 5 0 ?_;refine L4 6 0 ?_;refine L4 4 0 ?_;refine L4 4 0 ?_;refine L4 6 0 ?_;refine L4 6 0 ?_;refine Pc (dC (f.x0-g.x0) (f.x0-g.x0)) ?_;refine Pc (dC (f.y0-g.y0) (f.y0-g.y0)) ?_;refine Pc (fV ((f.x0-g.x0)*(f.x0-g.x0)) ((f.y0-g.y0)*(f.y0-g.y0))) ?_;refine Pc (dC (f.x0-g.x0) (f.x1-g.x1)) ?_;refine Pc (dC (f.y0-g.y0) (f.y1-g.y1)) ?_;refine Pc (fV ((f.x0-g.x0)*(f.x1-g.x1)) ((f.y0-g.y0)*(f.y1-g.y1))) ?_;refine Pc (dC 2 ((f.x0-g.x0)*(f.x1-g.x1)+(f.y0-g.y0)*(f.y1-g.y1))) ?_;refine Pc (dC (f.x1-g.x1) (f.x1-g.x1)) ?_;refine Pc (dC (f.y1-g.y1) (f.y1-g.y1)) ?_;refine Pc (fV ((f.x1-g.x1)*(f.x1-g.x1)) ((f.y1-g.y1)*(f.y1-g.y1))) ?_;exact Z5
def wP(l:List PU)(lb:Option Nat)(lN lc:Nat)(hlc:l.length<=lc:=by omega)(hln:l.length<=1000:=by omega):bQ Tryz.prog 91 [⟨lb,100,ai aK l,lN,false⟩] [aB lb 0 l.length lc] (SR ((id) l).length) SR.v (fun z=>[⟨z.b,201,ai aK ((id) l),z.n,true⟩]):=by
 refine Qg 22 Tryz.func91 fun w hL0=>?_;refine A19 ?_;refine El (ι:={z:Nat×List PU×Option Nat×Nat×Nat // z.1<=l.length∧z.2.1=(id) (l.take z.1)∧z.2.1.length<=z.2.2.2.2∧z.2.2.2.2*36<=z.2.2.2.1}) (fun⟨⟨i,o,ob,oN,oc⟩,hi,hI,h3,h4⟩=>([(3,aB ob 0 o.length oc),(6,aB lb 0 l.length lc),(7,bF (l.length)),(8,bF i)],[⟨lb,100,ai aK l,lN,false⟩,⟨ob,201,ai aK o,oN,true⟩],l.length-i)) ⟨⟨0,[],none,0,0⟩,Nat.zero_le _,rfl,Nat.le_refl _,bz⟩ ?_ (hL:=(ay [some 0,none] ⟨pR,⟨rfl,rfl,rfl⟩,trivial⟩ rfl rfl));rintro⟨⟨i,o,ob,oN,oc⟩,hi,hI,h3,h4⟩;(try dsimp only);replace hi:i<=l.length:=hi;replace hI:o=(id) (l.take i):=hI;replace h3:o.length<=oc:=h3;replace h4:oc*36<=oN:=h4
 have hol:o.length<=100000:=(by rw[hI];simp;omega);refine A6 ?_;refine Cd ?_ ?_<;>intro haQ
 ·have hlt:i<l.length:=iE;obtain⟨x,hx⟩:∃x,l[i]? =some x:=⟨l[i],List.getElem?_eq_getElem hlt⟩;refine dK 0 rfl (bu.ne au ae) (fun hbs=>?_);obtain⟨gl,hgl⟩:=Option.isSome_iff_exists.1 hbs;replace hgl:lb=some gl:=hgl;subst hgl;refine A6 ?_;refine RS ?_;refine aT (v:=PUV x) 0 ((i)*36) _ rfl rfl rfl rfl qgf (bu.sub hx 0 36 au) rfl au rfl ?_;refine Al 36 qxy (fun g0=>?_);refine CQ ?_;refine zO 2 0 ?_;refine A1 ?_;refine L16 2 20 ?_;refine(Bu [(0,_),(1,_)]) (LM) ?_;refine(Bl 36 [(0,_)]) (zB) (fun g1=>?_);refine(Qa (s:=36) (len:=o.length) (n2:=1) 1 3 (fun r=>[_,⟨some r.g,201,ai aK o++aK (x),r.n,true⟩,_,_]) AQ JW) (bu.length o) h3 h4 (bu.one (x)) (fun r=>?_);refine qC ?_;exact Nl ⟨⟨i+1,o++[x],some r.g,r.n,r.cap⟩,hlt,by show o++[x]=l.take (i+1);rw[hI];exact fH hx,jT,r.hn⟩ (hμ:=nJ) (ht:=⟨(aO rfl kG),rfl,rfl,rfl,trivial⟩) (hL:=(ay [some 0,some 1] ⟨pR,⟨_,rfl,aV kH⟩,trivial⟩ rfl rfl))
 ·have hge:i=l.length:=iV;subst hge;obtain rfl:o=(id) l:=Ad
  exact UA
def eF(x y:Rl)(hx:eU x<=50000:=by omega)(hy:eU y<=50000:=by omega):aG Tryz.prog 20 #[RV x,RV y] (.int .i64 (aY x y)):=by
 have x1:=Nat.le_trans (pM x) hx;have x2:=Nat.le_trans (wG x) hx;have y1:=Nat.le_trans (pM y) hy;have y2:=Nat.le_trans (wG y) hy;have l1:=gX x.p y.p;have hcm:=qoR x y;refine nX 26 Tryz.func20 fun w=>?_;refine nI fun g0=>?_;refine Bp 9 (fun g1=>?_);refine A4 ?_;refine Dp [] [0,1,2,3,5,7,8,9,11,12,4,6,10,13,14] ?_;refine uu ?_;refine kF ?_;refine L9 0 0 ?_;refine oM ?_;refine L9 1 0 ?_;refine ut ?_;refine Pc (kS x.p y.p) ?_;refine Pc (Ig x) ?_;refine Pc (Ig y) ?_;refine Pc (Qk (x.p-y.p) (nH x) x.r (nH y) y.r (qjP x) (qjP y)) ?_;refine oH ?_;refine Cd ?_ ?_<;>intro haQ
 ·refine mZ ?_;rw[<-hcm,qiV,if_pos (of_decide_eq_true haQ)]
 ·refine A7 ?_;refine Cd ?_ ?_<;>intro hbQ
  ·refine mZ ?_;rw[<-hcm,qiV,if_neg (of_decide_eq_false haQ),if_pos (of_decide_eq_true hbQ)]
  ·refine oJ ?_;rw[<-hcm,qiV,if_neg (of_decide_eq_false haQ),if_neg (of_decide_eq_false hbQ)]
def qah(i:Iv)(t:Rl)(hi:gV i<=50000:=by omega)(ht:eU t<=50000:=by omega):aG Tryz.prog 52 #[lC i,RV t] (.bool (Jl i t)):=by
 have i1:=Nat.le_trans (ig i) hi;have i2:=Nat.le_trans (gW i) hi;refine nX 39 Tryz.func52 fun w=>?_;refine qB fun g0=>?_;refine Bp 9 (fun g1=>?_);refine A4 ?_;refine qjy ?_;refine Pc (eF i.f t ae ht) ?_;refine Pc (eF t i.t ht) ?_;exact qqX
def FY(i:Iv)(hi:gV i<=50000:=by omega):aG Tryz.prog 59 #[lC i] (.bool (ja i)):=by
 have i1:=Nat.le_trans (ig i) hi;have i2:=Nat.le_trans (gW i) hi;refine vC 25 Tryz.func59 fun w=>?_;refine qB fun g0=>?_;refine A6 ?_;refine FW ?_;refine L9 0 9 ?_;refine Pc (eF i.f i.t) ?_;refine A8 ?_;refine Rs 11 ?_ ?_<;>intro haQ
 ·refine PX ?_;exact UC
 ·refine A3 ?_;refine Rs 14 ?_ ?_<;>intro hbQ
  ·refine A5 ?_;refine Rs 19 ?_ ?_<;>intro hcQ
   ·refine A9 ?_;exact UC
   ·refine A9 ?_;exact UC
  ·refine FH ?_;exact UC
def qai(p r:Rat)(n:Bool)(hp:bY p<=1000000:=by omega)(hr:bY r<=1000000:=by omega):aG Tryz.prog 100 #[Q p,Q r,.bool n] (RV (ofM p r n)):=by
 have l1:=Uz r;have l2:=Na (mX r);refine pB3 26 Tryz.func100 fun w=>?_;refine iH fun g0=>?_;refine Bp 4 (fun g1=>?_);refine Al 9 QI (fun g2=>?_);refine A5 ?_;refine L4 1 0 ?_;refine Pc (Ie r) ?_;refine A3 ?_;refine Ac fun g3=>?_;refine Ss 3 ?_;refine A8 ?_;refine Cd ?_ ?_<;>intro haQ
 ·have hs14:Ap r=true:=haQ;refine A6 ?_;refine Cd ?_ ?_<;>intro hbQ
  ·have hs15:n=true:=hbQ;refine A1 ?_;refine L4 3 0 ?_;refine aP 16 (Q (mX r)) rfl (by rw[hs14,if_pos rfl];rfl) ?_;refine Pc (Kw (mX r)) ?_;refine CP ?_;refine L4 0 0 ?_;refine L4 3 0 ?_;refine Pc (fV p (-mX r)) ?_;refine(Bu [(0,_)]) (Nq) ?_;refine uo ?_;refine Ed9 2 ?_;rw[ofM,hs14,if_pos rfl,if_pos hs15,RQ]
  ·have hs15:n=false:=hbQ;refine A4 ?_;refine L4 0 0 ?_;refine L4 3 0 ?_;refine aP 19 (Q (mX r)) rfl (by rw[hs14,if_pos rfl];rfl) ?_;refine Pc (fV p (mX r)) ?_;refine(Bu [(0,_)]) (Nq) ?_;refine uo ?_;refine Ed9 2 ?_;rw[ofM,hs14,if_pos rfl,if_neg (by rw[hs15];decide),RQ]
 ·have hs14:Ap r=false:=haQ;refine A4 ?_;refine jH ?_;refine A1 ?_;refine(Bu [(0,_),(1,_),(2,_)]) (qgi) ?_;refine Jr ?_;rw[ofM,hs14,if_neg au];rfl
def Af(f:Qd)(t:Rl)(h0:t.ok)(hf:ve f<=10000:=by omega)(ht:eU t<=10000:=by omega):aG Tryz.prog 46 #[uf f,RV t] (RV (zN f t)):=by
 have hz:=qjR hf ht;have z0:=Nat.le_trans (qE (lS f t)) hz;have z1:=Nat.le_trans (qF (lS f t)) hz;have t1:=Nat.le_trans (pM t) ht;have t2:=Nat.le_trans (wG t) ht;have l1:=bW (lS f t).c1 t.p;have l2:=iQ (lS f t).c0 ((lS f t).c1*t.p);have l3:=bW (lS f t).c1 (lS f t).c1;have l4:=bW ((lS f t).c1*(lS f t).c1) t.r;refine nX 35 Tryz.func46 fun w=>?_;refine kE fun g0=>?_;refine Bp 9 (fun g1=>?_);refine Al 9 QI (fun g2=>?_);refine A4 ?_;refine xg 0 0 ?_;refine L9 1 0 ?_;refine Pc (OW f t) ?_;refine Al 12 Vf (fun g3=>?_);refine oK ?_;refine Dq [3000000] [0,1,2,3,4,5,6,7,8,9] ?_;refine A1 ?_;refine L4 3 0 ?_;refine A1 ?_;refine L4 3 4 ?_;refine kF ?_;refine Pc (dC (lS f t).c1 t.p) ?_;refine Pc (fV (lS f t).c0 ((lS f t).c1*t.p)) ?_;refine yE fun g4=>?_;refine zY ?_;refine Dp [] [0,1,2,3,4,6,7,9,10,11,12,5,8,13,14,15,16,17] ?_;refine L4 4 0 ?_;refine A1 ?_;refine L4 3 4 ?_;refine A1 ?_;refine L4 3 4 ?_;refine ut ?_;refine A3 ?_;refine L4 3 4 ?_;refine Pc (dC (lS f t).c1 (lS f t).c1) ?_;refine Pc (dC ((lS f t).c1*(lS f t).c1) t.r) ?_;refine Pc (jc (lS f t).c1) ?_;refine A1 ?_;refine Jk ?_;refine Pc (qai ((lS f t).c0+(lS f t).c1*t.p) ((lS f t).c1*(lS f t).c1*t.r) (t.n !=decide (dB (lS f t).c1<0))) ?_;refine Jr ?_;rw[<-qtk h0];rfl
def nK(x:Rl)(hx:eU x<=5000:=by omega):aG Tryz.prog 58 #[RV x] (.bool (bK x)):=by
 have x1:=Nat.le_trans (pM x) hx;have x2:=Nat.le_trans (wG x) hx;refine vC 36 Tryz.func58 fun w=>?_;refine nI fun g0=>?_;refine A7 ?_;refine L4 0 0 ?_;refine Pc (CX x.p) ?_;refine A1 ?_;refine Kr 8 (.bool false) ?_;refine A2 ?_;refine L4 0 4 ?_;refine Pc (CX x.r) ?_;refine A1 ?_;refine Kr 13 (.bool false) ?_;refine A3 ?_;refine L4 0 4 ?_;refine Pc (jc x.r) ?_;refine A4 ?_;refine Cd ?_ ?_<;>intro haQ
 ·have hs19:x.r.num.sign<0:=of_decide_eq_true haQ;refine ng ?_;rw[bK,if_pos (show dB x.r<0 from hs19)]
 ·have hs19:¬x.r.num.sign<0:=of_decide_eq_false haQ;refine A6 ?_;refine L4 0 4 ?_;refine Pc (jc x.r) ?_;refine A3 ?_;refine Cd ?_ ?_<;>intro hbQ
  ·have hs24:x.r.num.sign=0:=eq_of_beq hbQ;refine lh ?_;refine E0 ?_;rw[Jy hs24]
  ·have hs24:x.r.num.sign≠0:=ne_of_beq_false hbQ;refine A5 ?_;refine L4 0 4 ?_;refine Pc (Ie x.r) ?_;refine A3 ?_;refine rM fun g1=>?_;refine Ss 1 ?_;refine qX ?_;refine E0 ?_;rw[OV ae hs24]
def OX(l:List Rl)(lb:Option Nat)(lN lc:Nat)(hlc:l.length<=lc)(hln:l.length<=4000)(hsz:∀x∈l,eU x<=50000):bQ Tryz.prog 147 [⟨lb,38,ai kQ l,lN,false⟩] [aB lb 0 l.length lc] (SR (dX l).length) SR.v (fun z=>[⟨z.b,38,ai kQ (dX l),z.n,true⟩]):=by
 refine Qg 62 Tryz.func147 fun w hL0=>?_;refine PX ?_;refine El (ι:={z:Nat×List Rl×Option Nat×Nat×Nat // z.1<=l.length∧z.2.1=dX (l.take z.1)∧z.2.1.length<=z.2.2.2.2∧z.2.2.2.2*9<=z.2.2.2.1}) (fun⟨⟨i,o,ob,oN,oc⟩,hi,hI,h3,h4⟩=>([(0,aB lb 0 l.length lc),(3,aB ob 0 o.length oc),(4,bF i)],[⟨lb,38,ai kQ l,lN,false⟩,⟨ob,38,ai kQ o,oN,true⟩],l.length-i)) ⟨⟨0,[],none,0,0⟩,Nat.zero_le _,rfl,Nat.le_refl _,bz⟩ ?_ (hL:=(ay [some 0,none] ⟨pR,⟨rfl,rfl,rfl⟩,trivial⟩ rfl rfl));rintro⟨⟨i,o,ob,oN,oc⟩,hi,hI,h3,h4⟩;(try dsimp only);replace hi:i<=l.length:=hi;replace hI:o=dX (l.take i):=hI;replace h3:o.length<=oc:=h3;replace h4:oc*9<=oN:=h4
 have hos:∀y∈o,eU y<=50000:=(by rw[hI];exact qcE (p:=fun y=>eU y<=50000) fun y hy=>hsz y (List.mem_of_mem_take hy));have hol:o.length<=4000:=(by rw[hI];have:=UM (l.take i);rw[List.length_take] at this;omega);refine qh 1 rfl (fun hbase=>?_);have hobs:o.length=0∨∃g,ob=some g:=qJ gZ au hbase;refine A9 ?_;refine Cd ?_ ?_<;>intro haQ
 ·have hlt:i<l.length:=iE;obtain⟨x,hx⟩:∃x,l[i]? =some x:=⟨l[i],List.getElem?_eq_getElem hlt⟩;have hxs:=hsz x (List.mem_of_getElem? hx);refine qX ?_;refine El (ι:={k:Nat // k<=o.length∧∀j y,j<k->o[j]? =some y->aY y x<0}) (fun⟨k,hk,hall⟩=>([(0,aB lb 0 l.length lc),(3,aB ob 0 o.length oc),(4,bF i),(5,bF k)],[⟨lb,38,ai kQ l,lN,false⟩,⟨ob,38,ai kQ o,oN,true⟩],o.length-k)) ⟨0,Nat.zero_le _,fun j y hj=>absurd hj ae⟩ ?_ (hL:=fE.auto);rintro⟨k,hk,hall⟩;(try dsimp only);refine A2 ?_;refine Di [] ?_;refine A5 ?_;refine Rs 16 ?_ ?_<;>intro hbQ
  ·have hklt:k<o.length:=kN;obtain⟨y,hy⟩:∃y,o[k]? =some y:=⟨o[k],List.getElem?_eq_getElem hklt⟩;have hys:=hos y (List.mem_of_getElem? hy);refine qjv ?_;refine Cd ?_ ?_<;>intro hcQ
   ·have hylt:aY y x<0:=of_decide_eq_true hcQ;refine A5 ?_;refine Ar (((k+1:Nat):Int)) ?_;refine A4 ?_;exact Nl ⟨k+1,hklt,fun j z hj hz=>by by_cases e:j<k;exact hall j z e hz;(have:j=k:=by omega);subst this;rw[hy] at hz;cases hz;exact hylt⟩ (hL:=fE.auto)
   ·have hyge:¬aY y x<0:=of_decide_eq_false hcQ;refine A7 ?_;refine Di [] ?_;refine A5 ?_;refine Rs 34 ?_ ?_<;>intro hdQ
    ·refine qjv ?_;refine Cd ?_ ?_<;>intro heQ
     ·have hye:aY y x=0:=eq_of_beq heQ;have hsame:=qcD hy hall hyge hye;refine A6 ?_;refine kM ?_;exact Nl ⟨⟨i+1,o,ob,oN,oc⟩,hlt,by show o=dX (l.take (i+1));rw[XH hx,<-hI,hsame],h3,h4⟩ (hμ:=nJ) (hL:=fE.auto)
     ·have hye:aY y x≠0:=ne_of_beq_false heQ;have hins:=UL (x:=x) hk hall (fun z hz=>by rw[hy] at hz;cases hz;exact⟨hyge,hye⟩);refine A2 ?_;exact qvV
    ·exfalso;have:=of_decide_eq_false hdQ;omega
  ·have hkl:k=o.length:=lw;have hins:=UL (x:=x) hk hall (fun y hy=>absurd (List.getElem?_eq_some_iff.1 hy).1 ae);refine A21 ?_;refine Di [] ?_;refine A5 ?_;refine Rs 34 ?_ ?_<;>intro hcQ
   ·exfalso;have:=of_decide_eq_true hcQ;omega
   ·refine Yc ?_;exact qvV
 ·have hge:i=l.length:=iV;subst hge;obtain rfl:o=dX l:=Ad
  exact UA
def EO(l:List Iv)(lb:Option Nat)(lN lc:Nat)(hlc:l.length<=lc)(hln:l.length<=1000)(hsz:∀x∈l,gV x<=50000)(t:Rl)(ht:eU t<=50000:=by omega):bQ Tryz.prog 97 [⟨lb,61,ai aZ l,lN,false⟩] [aB lb 0 l.length lc,RV t] Unit (fun _=> .bool (l.any (fun i=>Jl i t))) (fun _=>[]):=by
 refine⟨ak,fun w hL0=>?_⟩;refine cB2 18 Tryz.func97 hL0 ?_;refine A2 ?_;refine Bo [_,_,_,_,_,_,_,_,_] 9 (fun g=>[_,⟨some g,38,_,9,true⟩]) (fun g0=>?_);refine lh ?_;refine El (ι:={i:Nat // i<=l.length∧l.any (fun i=>Jl i t)=(l.drop i).any (fun i=>Jl i t)}) (fun⟨i,hi,hI⟩=>([(0,aB lb 0 l.length lc),(5,.int .i64 (i:Nat)),(3,.pointer (some ⟨g0,0,none⟩))],[⟨lb,61,ai aZ l,lN,false⟩,⟨some g0,38,kQ t,9,true⟩],l.length-i)) ⟨0,Nat.zero_le _,rfl⟩ ?_;rintro⟨i,hi,hI⟩;(try dsimp only);refine A9 ?_;refine jA rfl (fun hb1=>?_) (fun hb1=>?_)
 ·
  have hlt:i<l.length:=qae
  obtain⟨x,hx⟩:∃x,l[i]? =some x:=⟨l[i],List.getElem?_eq_getElem hlt⟩
  have hxs:=hsz x (List.mem_of_getElem? hx);refine dK 0 rfl (dw.ne au ae) (fun hbs=>?_);obtain⟨gl,hgl⟩:=Option.isSome_iff_exists.1 hbs;replace hgl:lb=some gl:=hgl;subst hgl;refine A5 ?_;refine OQ ?_;refine A2 ?_;refine qaa ?_;refine aT 1 0 [_,_,_,_,_,_,_,_,_] rfl rfl rfl rfl jk rfl rfl rfl rfl ?_;refine Pc (qah x t hxs ht) ?_;refine A2 ?_;refine jA rfl (fun hb2=>?_) (fun hb2=>?_)
  ·
   have hyes:Jl x t=true:=hb2;exact qju
  ·
   have hno:Jl x t=false:=hb2;refine A5 ?_;exact XC
 ·exact qjt
def EP(l:List Iv)(lb:Option Nat)(lN lc:Nat)(hlc:l.length<=lc)(hln:l.length<=1000)(hsz:∀x∈l,gV x<=50000)(a c:Rl)(ha:eU a<=50000:=by omega)(hc:eU c<=50000:=by omega):bQ Tryz.prog 98 [⟨lb,61,ai aZ l,lN,false⟩] [aB lb 0 l.length lc,RV a,RV c] Unit (fun _=> .bool (l.any (fun i=>decide (aY i.f a<=0)&&decide (aY c i.t<=0)))) (fun _=>[]):=by
 refine⟨ak,fun w hL0=>?_⟩;refine cB3 32 Tryz.func98 hL0 ?_;refine A2 ?_;refine Bo [_,_,_,_,_,_,_,_,_] 9 (fun g=>[_,⟨some g,38,_,9,true⟩]) (fun g0=>?_);refine Bo [_,_,_,_,_,_,_,_,_] 9 (fun g=>[_,_,⟨some g,38,_,9,true⟩]) (fun g1=>?_);refine lh ?_;refine El (ι:={i:Nat // i<=l.length∧l.any (fun i=>decide (aY i.f a<=0)&&decide (aY c i.t<=0))=(l.drop i).any (fun i=>decide (aY i.f a<=0)&&decide (aY c i.t<=0))}) (fun⟨i,hi,hI⟩=>([(0,aB lb 0 l.length lc),(7,.int .i64 (i:Nat)),(4,.pointer (some ⟨g0,0,none⟩)),(5,.pointer (some ⟨g1,0,none⟩))],[⟨lb,61,ai aZ l,lN,false⟩,⟨some g0,38,kQ a,9,true⟩,⟨some g1,38,kQ c,9,true⟩],l.length-i)) ⟨0,Nat.zero_le _,rfl⟩ ?_;rintro⟨i,hi,hI⟩;(try dsimp only);refine A9 ?_;refine jA rfl (fun hb1=>?_) (fun hb1=>?_)
 ·
  have hlt:i<l.length:=qae
  obtain⟨x,hx⟩:∃x,l[i]? =some x:=⟨l[i],List.getElem?_eq_getElem hlt⟩
  have hxs:=hsz x (List.mem_of_getElem? hx);refine dK 0 rfl (dw.ne au ae) (fun hbs=>?_);obtain⟨gl,hgl⟩:=Option.isSome_iff_exists.1 hbs;replace hgl:lb=some gl:=hgl;subst hgl;refine A5 ?_;refine OQ ?_;refine A2 ?_;refine XB ?_;refine dS ((i)*20) 0 rfl rfl rfl o7 rfl rfl ?_;refine qjB ?_;refine aT 1 0 [_,_,_,_,_,_,_,_,_] rfl rfl rfl rfl jk rfl rfl rfl rfl ?_;refine Pc (eF x.f a (Nat.le_trans (ig x) hxs) ha) ?_;refine A2 ?_;refine Gz 22 rfl (fun hb2=>?_) (fun hb2=>?_)
  ·
   have hs22:aY x.f a<=0:=of_decide_eq_true hb2;refine aT 2 0 [_,_,_,_,_,_,_,_,_] rfl rfl rfl rfl jk rfl rfl rfl rfl ?_;refine A2 ?_;refine XB ?_;refine dS ((i)*20) 9 rfl rfl rfl o7 rfl rfl ?_;refine qjA ?_;refine Pc (eF c x.t hc (Nat.le_trans (gW x) hxs)) ?_;refine A4 ?_;refine jA rfl (fun hb3=>?_) (fun hb3=>?_)
   ·
    have hs30:aY c x.t<=0:=of_decide_eq_true hb3
    have hyes:(decide (aY x.f a<=0)&&decide (aY c x.t<=0))=true:=by rw[decide_eq_true hs22,decide_eq_true hs30];rfl
    exact qju
   ·
    have hs30:¬aY c x.t<=0:=of_decide_eq_false hb3
    have hno:(decide (aY x.f a<=0)&&decide (aY c x.t<=0))=false:=by rw[decide_eq_false hs30,Bool.and_false]
    refine A5 ?_;exact XC
  ·
   have hs22:¬aY x.f a<=0:=of_decide_eq_false hb2
   have hno:(decide (aY x.f a<=0)&&decide (aY c x.t<=0))=false:=by rw[decide_eq_false hs22];rfl
   refine PX ?_;exact XC
 ·exact qjt
def CY(op:Int)(a b:Bool):aG Tryz.prog 96 #[.int .i64 op,.bool a,.bool b] (.bool (qI op a b)):=by
 refine⟨ak,fun w=>?_⟩;refine cB3 25 Tryz.func96 (aX.nil w) ?_;refine A18 ?_;refine jA rfl (fun hb0=>?_) (fun hb0=>?_)
 ·
  refine A4 ?_;refine Gz 11 rfl (fun hb1=>?_) (fun hb1=>?_)
  ·
   refine A8 ?_;exact RU
  ·
   refine A8 ?_;exact RU
 ·
  refine A6 ?_;refine jA rfl (fun hb1=>?_) (fun hb1=>?_)
  ·
   refine A4 ?_;refine Gz 17 rfl (fun hb2=>?_) (fun hb2=>?_)
   ·
    refine A8 ?_;exact RU
   ·
    refine A8 ?_;exact RU
  ·
   refine A7 ?_;refine Gz 21 rfl (fun hb2=>?_) (fun hb2=>?_)
   ·
    refine A7 ?_;exact RU
   ·
    refine A7 ?_;exact RU
end Go.Proofs.YtaffcpfhedadhaaGreatDoor
namespace Go.Via
open Go
def XK{α:Type}{a b:List α}(h:a.take a.length=b.take a.length)(hl:a.length=b.length):a=b:=by
 rw[List.take_length,hl,List.take_length] at h;exact h
theorem qjV:qI 1=orB:=by funext a b;rfl
theorem qjW:qI 2=uY:=by funext a b;rfl
theorem qjX:qI 3=fun a b=>a&& !b:=by funext a b;rfl
def zRc:List Value:=[aQ,aS,aQ,aS,aQ,aS,aQ,aS,.bool false]
def qjY:kQ (rl 0)=zRc:=by
 have:=qcw;unfold RV at this
 injection this with h
 have h2:=congrArg Array.toList h;exact h2
def Ii{x y:Rl}{n:Nat}(hx:eU x<=n)(hy:eU y<=n):eU (fM x y)<=n:=by rcases Mc x y with e|e<;>rw[e]<;>assumption
def qpg{l:List iT}(h:∀p∈l,eU p.a<=50000∧eU p.b<=50000):eU (l.foldl CG (rl 0))<=50000:=by
 have:∀(l:List iT) (o:Rl),(∀p∈l,eU p.a<=50000∧eU p.b<=50000)->eU o<=50000->eU (l.foldl CG o)<=50000:=by
  intro l
  induction l with
  |nil=>intro o _ ho;exact ho
  |cons p l ih=>intro o hl ho;rw[List.foldl_cons];exact ih _ (fun q hq=>hl q (List.mem_cons_of_mem _ hq)) (Ii (Ii ho (hl p (List.mem_cons_self ..)).1) (hl p (List.mem_cons_self ..)).2)
 exact this l _ h (CU (by have:=y9;omega) ae)
def qcG{x y:Rl}(h:aY y x>0):fM x y=y:=by unfold fM;rw[if_pos h]
def qcH{x y:Rl}(h:¬aY y x>0):fM x y=x:=by unfold fM;rw[if_neg h]
def sqL(x y:Rat):Qd:=⟨x*x,x*y+y*x,x*0+0*x+y*y⟩
def qtO(f g:Ln):(⟨(sqL (f.x0-g.x0) (f.x1-g.x1)).c0+(sqL (f.y0-g.y0) (f.y1-g.y1)).c0,(sqL (f.x0-g.x0) (f.x1-g.x1)).c1+(sqL (f.y0-g.y0) (f.y1-g.y1)).c1,(sqL (f.x0-g.x0) (f.x1-g.x1)).c2+(sqL (f.y0-g.y0) (f.y1-g.y1)).c2⟩:Qd)=d2 f g:=by
 unfold sqL d2;dsimp only;congr 1<;>grind
def qph{l:List iT}{o:Rl}(h:∀p∈l,eU p.a<=50000∧eU p.b<=50000)(ho:eU o<=50000):eU (l.foldl (fun o x=>fM o (fM x.a x.b)) o)<=50000:=by
 induction l generalizing o with
 |nil=>exact ho
 |cons p l ih=>rw[List.foldl_cons];exact ih (fun q hq=>h q (List.mem_cons_of_mem _ hq)) (Ii ho (Ii (h p (List.mem_cons_self ..)).1 (h p (List.mem_cons_self ..)).2))
def qaj{l:List iT}(h0:0<l.length):l.foldl (fun o x=>fM o (fM x.a x.b)) (l[0]'h0).a=fB l:=by
 cases l with
 |nil=>simp at h0
 |cons p l=>rfl
end Go.Via
namespace Go.Proofs.YtaffcpfhedadhaaGreatDoor
open Go Go.Via
def qtP:elW Tryz.prog 151 52 (.agg #[aQ,aS,aQ,aS,aQ,aS,aQ,aS,.bool false,aQ,aS,aQ,aS,aQ,aS,aQ,aS,.bool false,.bool false,.bool false,aQ,aS,aQ,aS,aQ,aS,aQ,aS,aQ,aS,aQ,aS,aQ,aS,aQ,aS,aQ,aS,aQ,aS,aQ,aS,aQ,aS,aQ,aS,aQ,aS,aQ,aS,aQ,aS]):=⟨ak,au⟩
end Go.Proofs.YtaffcpfhedadhaaGreatDoor
namespace Go.Via
def Ep(x y:PU):Option B3:=(fC x.i y.i).map fun m=>⟨m,x.f,y.f⟩
def Gh(x y:PU):Bool:=Rx x.i y.i
theorem qcI{x y:PU}(h:ja (dR x.i y.i)=true):(Ep x y).toList=[⟨dR x.i y.i,x.f,y.f⟩]:=by unfold Ep fC;rw[if_pos h];rfl
theorem qjZ{x y:PU}(h:ja (dR x.i y.i)=false):(Ep x y).toList=[]:=by unfold Ep fC;rw[if_neg VW];rfl
theorem qj0{α β γ:Type}{mt:α->β->Option γ}{ef:α->β->Bool}{a:List α}{b:List β}{i k:Nat}{x:α}{y:β}(hx:a[i]? =some x)(hy:b[k]? =some y)(h:ef x y=true):gY mt ef (a.drop i) (b.drop k)=(mt x y).toList++gY mt ef (a.drop (i+1)) (b.drop k):=by
 rw[Ae hx,Ae hy,gY,if_pos h]
theorem qj1{α β γ:Type}{mt:α->β->Option γ}{ef:α->β->Bool}{a:List α}{b:List β}{i k:Nat}{x:α}{y:β}(hx:a[i]? =some x)(hy:b[k]? =some y)(h:ef x y=false):gY mt ef (a.drop i) (b.drop k)=(mt x y).toList++gY mt ef (a.drop i) (b.drop (k+1)):=by
 rw[Ae hx,Ae hy,gY,if_neg VW]
theorem XL{α β γ:Type}{mt:α->β->Option γ}{ef:α->β->Bool}{a:List α}{b:List β}{i k:Nat}(h:a.length<=i∨b.length<=k):gY mt ef (a.drop i) (b.drop k)=[]:=by
 rcases h with h|h
 ·rw[List.drop_of_length_le h];cases b.drop k<;>simp[gY]
 ·rw[List.drop_of_length_le h];cases a.drop i<;>simp[gY]
theorem OY{α β γ δ:Type}{mt:α->β->Option γ}{ef:α->β->Bool}(f:γ->δ):∀(a:List α) (b:List β),(gY mt ef a b).map f=gY (fun x y=>(mt x y).map f) ef a b
 |[],_=>by simp[gY]
 |_::_,[]=>by simp[gY]
 |x::xs,y::ys=>by
  rw[gY,gY,List.map_append]
  congr 1
  ·cases mt x y<;>rfl
  ·split
   ·exact OY f xs (y::ys)
   ·exact OY f (x::xs) ys
termination_by a b=>a.length+b.length
def Ij{α β γ:Type}{mt:α->β->Option γ}{ef:α->β->Bool}:∀{a:List α} {b:List β} {z:γ},z∈gY mt ef a b->∃x∈a,∃y∈b,mt x y=some z
 |[],_,z,h=>by simp[gY] at h
 |_::_,[],z,h=>by simp[gY] at h
 |x::xs,y::ys,z,h=>by
  rw[gY] at h;rcases List.mem_append.1 h with h|h
  ·exact⟨x,List.mem_cons_self ..,y,List.mem_cons_self ..,Option.mem_toList.1 h⟩
  ·split at h
   ·obtain⟨u,hu,v,hv,e⟩:=Ij h;exact⟨u,List.mem_cons_of_mem _ hu,v,hv,e⟩
   ·obtain⟨u,hu,v,hv,e⟩:=Ij h;exact⟨u,hu,v,List.mem_cons_of_mem _ hv,e⟩
termination_by a b=>a.length+b.length
def Ik{α β γ:Type}{mt:α->β->Option γ}{ef:α->β->Bool}:∀(a:List α) (b:List β),(gY mt ef a b).length<=a.length+b.length
 |[],_=>by simp[gY]
 |_::_,[]=>by simp[gY]
 |x::xs,y::ys=>by
  rw[gY,List.length_append];have h1:(mt x y).toList.length<=1:=by cases mt x y<;>simp
  split
  ·have:=Ik (mt:=mt) (ef:=ef) xs (y::ys);simp only[List.length_cons] at this ⊢;omega
  ·have:=Ik (mt:=mt) (ef:=ef) (x::xs) ys;simp only[List.length_cons] at this ⊢;omega
termination_by a b=>a.length+b.length
theorem Il(a b:List PU):(gY Ep Gh a b).map (fun z=>(z.i,d2 z.f z.g))=aA a b:=by
 rw[OY];unfold aA
 congr 1
 funext x y
 unfold Ep jP;cases fC x.i y.i<;>rfl
def qcJ{x y:Rat}{n:Nat}(hx:bY x<=n)(hy:bY y<=n):ve (sqL x y)<=4*n+10:=by
 have z:=y9;unfold sqL;refine Jw ?_ ?_ ?_<;>dsimp only
 ·have:=bW x x;omega
 ·have:=bW x y;have:=bW y x;have:=iQ (x*y) (y*x);omega
 ·have:=bW x 0;have:=bW 0 x;have:=bW y y;have:=iQ (x*0) (0*x);have:=iQ (x*0+0*x) (y*y);omega
def Ee(l:List PU):Prop:=∀u∈l,gV u.i<=100∧jI u.f<=100
theorem Ee.v{l:List PU}(h:Ee l):∀u∈l,gV u.i<=50000:=fun u hu=>Nat.le_trans (h u hu).1 ae
def qqZ{a b:List PU}(ha:Ee a)(hb:Ee b):∀z∈gY Ep Gh a b,gV z.i<=100∧jI z.f<=100∧jI z.g<=100:=fun z hz=>by
 obtain⟨x,hx,y,hy,e⟩:=Ij hz;unfold Ep fC at e
 split at e
 ·simp at e;subst e;exact⟨XE (ha x hx).1 (hb y hy).1,(ha x hx).2,(hb y hy).2⟩
 ·simp at e
def vG(a b:List PU):(aA a b).length<=a.length+b.length:=by rw[<-Il,List.length_map];exact Ik a b
def wQ{a b:List PU}(ha:Ee a)(hb:Ee b):∀z∈aA a b,gV z.1<=100∧ve z.2<=820:=fun z hz=>by
 rw[<-Il] at hz;obtain⟨w,hw,rfl⟩:=List.mem_map.1 hz;have:=qqZ ha hb w hw;exact⟨this.1,Nat.le_trans (qjS this.2.1 this.2.2) ae⟩
end Go.Via
namespace Go.Proofs.YtaffcpfhedadhaaGreatDoor
open Go Go.RowKit Go.Via
variable[Mo]
def rW(a b:oZ)(ha:eU a.1<=50000:=by omega)(hb:eU b.1<=50000:=by omega):aG Tryz.prog 148 #[BdV a,BdV b] (.int .i64 (yg a b)):=by
 refine nX 23 Tryz.func148 fun w=>?_;refine A2 ?_;refine Bp 10 (fun g0=>?_);refine Bp 10 (fun g1=>?_);refine A7 ?_;refine FW ?_;refine L9 1 0 ?_;refine Pc (dF a.1 b.1 ha hb) ?_;refine A9 ?_;refine Cd ?_ ?_<;>intro haQ
 ·have hs12:aY a.1 b.1≠0:=yF
  refine mZ ?_;rw[yg,if_pos hs12]
 ·have hs12:aY a.1 b.1=0:=yF
  refine lh ?_;refine IV rfl u4 rfl rfl rfl ?_;refine A3 ?_;refine Cd ?_ ?_<;>intro hbQ
  ·have hs19:a.2=b.2:=Js
   refine mZ ?_;rw[yg,if_neg (fun e=>e hs12),if_pos hs19]
  ·have hs19:a.2≠b.2:=Js
   refine A7 ?_;refine Cd ?_ ?_<;>intro hcQ
   ·have hs20:b.2=true:=hcQ;refine mZ ?_;rw[yg,if_neg (fun e=>e hs12),if_neg hs19,if_pos hs20]
   ·have hs20:b.2=false:=hcQ;refine oJ ?_;rw[yg,if_neg (fun e=>e hs12),if_neg hs19,if_neg (by rw[hs20];decide)]
def CZ(i:Iv):aG Tryz.prog 149 #[lC i] (BdV i.b):=by
 refine vC 8 Tryz.func149 fun w=>?_;refine qB fun g0=>?_;refine Al 10 qr5 (fun g1=>?_);refine A5 ?_;refine L9 0 0 ?_;refine A2 ?_;exact qjw
def EQ(i:Iv):aG Tryz.prog 150 #[lC i] (BdV i.e):=by
 refine vC 9 Tryz.func150 fun w=>?_;refine qB fun g0=>?_;refine Al 10 qr5 (fun g1=>?_);refine A5 ?_;refine L9 0 9 ?_;refine A3 ?_;exact qjw
def JA(a b:oZ):aG Tryz.prog 194 #[BdV a,BdV b] (lC (PW a b)):=by
 refine nX 15 Tryz.func194 fun w=>?_;refine A2 ?_;refine Bp 10 (fun g0=>?_);refine Bp 10 (fun g1=>?_);refine Al 20 z61 (fun g2=>?_);refine A5 ?_;refine FW ?_;refine L9 1 0 ?_;refine A5 ?_;refine UF ?_;refine jq ?_;refine qx2 2 ?_;exact rfl
end Go.Proofs.YtaffcpfhedadhaaGreatDoor
namespace Go.Proofs.YtaffcpfhedadhaaGreatDoor
open Go Go.RowKit Go.Via
def jd(x:Rl)(hx:eU x<=5000:=by omega):aG Tryz.prog 51 #[RV x] (.int .i64 (if bK x=true then 0 else 5)):=by
 have x1:=Nat.le_trans (pM x) hx;have x2:=Nat.le_trans (wG x) hx;refine vC 31 Tryz.func51 fun w=>?_;refine nI fun g0=>?_;refine A7 ?_;refine L4 0 0 ?_;refine Pc (XA x.p) ?_;refine A1 ?_;refine Kr 8 (.bool false) ?_;refine A2 ?_;refine L4 0 4 ?_;refine Pc (XA x.r) ?_;refine A1 ?_;refine Kr 13 (.bool false) ?_;refine lh ?_;refine L4 0 4 ?_;refine Pc (dP x.r) ?_;refine A9 ?_;refine Cd ?_ ?_<;>intro haQ
 ·have hs18:x.r.num.sign= -1:=eq_of_beq haQ;refine mZ ?_;rw[qjM hs18];rfl
 ·have hs18:x.r.num.sign≠ -1:=ne_of_beq_false haQ;refine A6 ?_;refine Cd ?_ ?_<;>intro hbQ
  ·have hs20:x.r.num.sign=0:=eq_of_beq hbQ;refine A7 ?_;refine Cd ?_ ?_<;>intro hcQ
   ·have hs23:x.n=true:=hcQ;refine oJ ?_;rw[Jy hs20,hs23];rfl
   ·have hs23:x.n=false:=hcQ;refine lh ?_;refine E0 ?_;rw[Jy hs20,hs23];rfl
  ·have hs20:x.r.num.sign≠0:=ne_of_beq_false hbQ;refine A7 ?_;refine L4 0 4 ?_;refine Pc (AA x.r) ?_;refine A3 ?_;refine rM fun g1=>?_;refine Ss 1 ?_;refine A8 ?_;refine Cd ?_ ?_<;>intro hcQ
   ·have hs30:Ap x.r=true:=hcQ;refine ng ?_;rw[OV hs18 hs20,hs30];rfl
   ·have hs30:Ap x.r=false:=hcQ;refine mZ ?_;rw[OV hs18 hs20,hs30];rfl
def qK(i:Iv)(hi:gV i<=5000:=by omega):aG Tryz.prog 101 #[lC i] (.int .i64 (if(bK i.f&&bK i.t)=false then 5 else if ja i=false then 10 else 0)):=by
 have i1:=Nat.le_trans (ig i) hi;have i2:=Nat.le_trans (gW i) hi;refine vC 19 Tryz.func101 fun w=>?_;refine qB fun g0=>?_;refine A7 ?_;refine L9 0 0 ?_;refine Pc (jd i.f) ?_;refine A2 ?_;refine Rs 7 ?_ ?_<;>intro haQ
 ·have hs7:bK i.f=false:=qjC
  refine II ?_;refine E0 ?_;rw[hs7];rfl
 ·have hs7:bK i.f=true:=qjC
  refine A1 ?_;refine L9 0 9 ?_;refine Pc (jd i.t) ?_;refine A4 ?_;refine Cd ?_ ?_<;>intro hbQ
  ·have hs12:bK i.t=false:=qjD
   refine ng ?_;rw[hs7,hs12];rfl
  ·have hs12:bK i.t=true:=qjD
   refine A4 ?_;refine Dp [] [0,2,1,3,4,5] ?_;refine zO 0 0 ?_;refine zO 0 0 ?_;refine Pc (CZ i) ?_;refine Pc (EQ i) ?_;refine fJ [_,_] rfl rfl rfl (rW i.b i.e (by show eU i.f<=_;omega) (by show eU i.t<=_;omega)) ?_;refine A3 ?_;refine Cd ?_ ?_<;>intro hcQ
   ·have hs18:ja i=false:=qjE
    refine ng ?_;rw[hs7,hs12,hs18];rfl
   ·have hs18:ja i=true:=qjE
    refine mZ ?_;rw[hs7,hs12,hs18];rfl
def wR(a b:Iv)(ha:gV a<=50000:=by omega)(hb:gV b<=50000:=by omega):aG Tryz.prog 139 #[lC a,lC b] (.bool (Rx a b)):=by
 have a1:=Nat.le_trans (ig a) ha;have a2:=Nat.le_trans (gW a) ha;have b1:=Nat.le_trans (ig b) hb;have b2:=Nat.le_trans (gW b) hb;refine nX 26 Tryz.func139 fun w=>?_;refine qB fun g0=>?_;refine Bp 20 (fun g1=>?_);refine A6 ?_;refine L9 0 9 ?_;refine A1 ?_;refine L9 1 9 ?_;refine Pc (dF a.t b.t) ?_;refine A8 ?_;refine Rs 13 ?_ ?_<;>intro haQ
 ·refine Yc ?_;exact UB
 ·refine A3 ?_;refine Rs 16 ?_ ?_<;>intro hbQ
  ·refine A3 ?_;refine Rs 19 ?_ ?_<;>intro hcQ
   ·refine lh ?_;exact UB
   ·refine lh ?_;exact UB
  ·refine EE ?_;exact UB
def OZ(a b:Iv)(ha:gV a<=50000:=by omega)(hb:gV b<=50000:=by omega):aG Tryz.prog 185 #[lC a,lC b] (.bool (Us a b)):=by
 have a1:=Nat.le_trans (ig a) ha;have a2:=Nat.le_trans (gW a) ha;have b1:=Nat.le_trans (ig b) hb;have b2:=Nat.le_trans (gW b) hb;refine nX 25 Tryz.func185 fun w=>?_;exact qqW
def jm(i:Iv):aG Tryz.prog 187 #[lC i] (.bool (dU i)):=by
 refine vC 8 Tryz.func187 fun w=>?_;refine qB fun g0=>?_;refine A6 ?_;refine FW ?_;refine L9 0 9 ?_;refine zZ ?_;exact zT
def Ql(a b:Iv)(ha:gV a<=50000:=by omega)(hb:gV b<=50000:=by omega):aG Tryz.prog 138 #[lC a,lC b] (.tuple #[lC (dR a b),.bool (ja (dR a b))]):=by
 have a1:=Nat.le_trans (ig a) ha;have a2:=Nat.le_trans (gW a) ha;have b1:=Nat.le_trans (ig b) hb;have b2:=Nat.le_trans (gW b) hb;have hmf:=RY ha hb;have hmt:=RZ ha hb;refine nX 81 Tryz.func138 fun w=>?_;refine qB fun g0=>?_;refine Bp 20 (fun g1=>?_);refine Al 20 z61 (fun g2=>?_);refine A5 ?_;refine zO 0 0 ?_;refine Al 20 z61 (fun g3=>?_);refine Ss 3 ?_;refine A2 ?_;refine TD (nt:=81) [(2,dA g0),(3,dA g1),(4,dA g2),(5,.bool false),(6,dA g3)] [⟨some g0,61,aZ a,20,true⟩,⟨some g1,61,aZ b,20,true⟩,⟨some g2,61,qvW,20,true⟩,⟨some g3,61,aZ ⟨(tN a b).1,a.t,(tN a b).2,a.tp⟩,20,true⟩] ?_ ?_
 ·refine A3 ?_;refine FW ?_;refine L9 1 0 ?_;refine Pc (dF a.f b.f) ?_;refine qX ?_;refine Cd ?_ ?_<;>intro haQ
  ·have hsA:aY a.f b.f<0:=of_decide_eq_true haQ;refine Di [3] ?_;refine A1 ?_;refine L9 1 0 ?_;refine A2 ?_;refine Fg 0 0 ?_;refine tC 3 0 [_,_,_,⟨some g3,61,_,20,true⟩] [_,_,_,_,_,_,_,_,_,_,_,_,_,_,_,_,_,_,_,_] rfl rfl rfl rfl jk rfl rfl rfl rfl rfl rfl ?_;refine Fg 0 18 ?_;refine tC 3 18 [_,_,_,⟨some g3,61,_,20,true⟩] [_,_,_,_,_,_,_,_,_,_,_,_,_,_,_,_,_,_,_,_] rfl rfl rfl rfl Ya rfl rfl rfl rfl rfl rfl ?_;refine A3 ?_;exact uQ ⟨rfl,rfl,rfl,rfl,rfl,trivial⟩ (ay [some 0,some 1,some 2,some 3] ⟨pR,pR,pR,⟨_,rfl,aV (by rw[qo3 hsA]<;>rfl)⟩,trivial⟩ rfl rfl)
  ·have hsA:¬aY a.f b.f<0:=of_decide_eq_false haQ;refine A7 ?_;refine Cd ?_ ?_<;>intro hbQ
   ·have hsB:aY a.f b.f=0:=eq_of_beq hbQ;refine A4 ?_;refine Rs 30 ?_ ?_<;>intro hcQ
    ·have hsC:a.fo=true:=hcQ;refine A4 ?_;refine oK ?_;exact uQ ⟨rfl,rfl,rfl,rfl,rfl,trivial⟩ (ay [some 0,some 1,some 2,some 3] ⟨pR,pR,pR,⟨_,rfl,aV (by rw[qcy hsA hsB,hsC,Bool.true_or]<;>rfl)⟩,trivial⟩ rfl rfl)
    ·have hsC:a.fo=false:=hcQ;refine A4 ?_;refine oK ?_;exact uQ ⟨rfl,rfl,rfl,rfl,rfl,trivial⟩ (ay [some 0,some 1,some 2,some 3] ⟨pR,pR,pR,⟨_,rfl,aV (by rw[qcy hsA hsB,hsC,Bool.false_or]<;>rfl)⟩,trivial⟩ rfl rfl)
   ·have hsB:aY a.f b.f≠0:=ne_of_beq_false hbQ;refine A3 ?_;exact uQ ⟨rfl,rfl,rfl,rfl,rfl,trivial⟩ (ay [some 0,some 1,some 2,some 3] ⟨pR,pR,pR,⟨_,rfl,aV (by rw[qo4 hsA hsB]<;>rfl)⟩,trivial⟩ rfl rfl)
 refine TD (nt:=81) [(2,dA g0),(3,dA g1),(4,dA g2),(5,.bool false),(6,dA g3)] [⟨some g0,61,aZ a,20,true⟩,⟨some g1,61,aZ b,20,true⟩,⟨some g2,61,qvW,20,true⟩,⟨some g3,61,aZ ⟨(tN a b).1,(vZ a b).1,(tN a b).2,(vZ a b).2⟩,20,true⟩] ?_ ?_
 ·refine A3 ?_;refine L9 0 9 ?_;refine A1 ?_;refine L9 1 9 ?_;refine Pc (dF a.t b.t) ?_;refine qX ?_;refine Cd ?_ ?_<;>intro haQ
  ·have hsA:0<aY a.t b.t:=of_decide_eq_true haQ;refine Di [3] ?_;refine A1 ?_;refine L9 1 9 ?_;refine A2 ?_;refine Fg 0 9 ?_;refine tC 3 9 [_,_,_,⟨some g3,61,_,20,true⟩] [_,_,_,_,_,_,_,_,_,_,_,_,_,_,_,_,_,_,_,_] rfl rfl rfl rfl jk rfl rfl rfl rfl rfl rfl ?_;refine Fg 0 19 ?_;refine tC 3 19 [_,_,_,⟨some g3,61,_,20,true⟩] [_,_,_,_,_,_,_,_,_,_,_,_,_,_,_,_,_,_,_,_] rfl rfl rfl rfl Ya rfl rfl rfl rfl rfl rfl ?_;refine A3 ?_;exact uQ ⟨rfl,rfl,rfl,rfl,rfl,trivial⟩ (ay [some 0,some 1,some 2,some 3] ⟨pR,pR,pR,⟨_,rfl,aV (by rw[qo5 hsA]<;>rfl)⟩,trivial⟩ rfl rfl)
  ·have hsA:¬0<aY a.t b.t:=of_decide_eq_false haQ;refine A7 ?_;refine Cd ?_ ?_<;>intro hbQ
   ·have hsB:aY a.t b.t=0:=eq_of_beq hbQ;refine A4 ?_;refine Rs 54 ?_ ?_<;>intro hcQ
    ·have hsC:a.tp=true:=hcQ;refine A4 ?_;refine oK ?_;exact uQ ⟨rfl,rfl,rfl,rfl,rfl,trivial⟩ (ay [some 0,some 1,some 2,some 3] ⟨pR,pR,pR,⟨_,rfl,aV (by rw[qcz hsA hsB,hsC,Bool.true_or]<;>rfl)⟩,trivial⟩ rfl rfl)
    ·have hsC:a.tp=false:=hcQ;refine A4 ?_;refine oK ?_;exact uQ ⟨rfl,rfl,rfl,rfl,rfl,trivial⟩ (ay [some 0,some 1,some 2,some 3] ⟨pR,pR,pR,⟨_,rfl,aV (by rw[qcz hsA hsB,hsC,Bool.false_or]<;>rfl)⟩,trivial⟩ rfl rfl)
   ·have hsB:aY a.t b.t≠0:=ne_of_beq_false hbQ;refine A3 ?_;exact uQ ⟨rfl,rfl,rfl,rfl,rfl,trivial⟩ (ay [some 0,some 1,some 2,some 3] ⟨pR,pR,pR,⟨_,rfl,aV (by rw[qo6 hsA hsB]<;>rfl)⟩,trivial⟩ rfl rfl)
 refine A3 ?_;refine L9 3 0 ?_;refine A1 ?_;refine L9 3 9 ?_;refine Pc (dF (tN a b).1 (vZ a b).1 hmf hmt) ?_;refine A4 ?_;refine Di [2] ?_;refine zO 3 0 ?_;refine A3 ?_;refine Rs 67 ?_ ?_<;>intro haQ
 ·refine EE ?_;exact qcu
 ·refine A3 ?_;refine Rs 70 ?_ ?_<;>intro hbQ
  ·refine A5 ?_;refine Rs 75 ?_ ?_<;>intro hcQ
   ·refine A5 ?_;exact qcu
   ·refine A5 ?_;exact qcu
  ·refine lh ?_;exact qcu
def Es(a b:Iv)(ha:gV a<=50000:=by omega)(hb:gV b<=50000:=by omega):aG Tryz.prog 81 #[lC a,lC b] (.bool (Us a b)):=by
 have a1:=Nat.le_trans (ig a) ha;have a2:=Nat.le_trans (gW a) ha;have b1:=Nat.le_trans (ig b) hb;have b2:=Nat.le_trans (gW b) hb;refine nX 25 Tryz.func81 fun w=>?_;exact qqW
end Go.Proofs.YtaffcpfhedadhaaGreatDoor
namespace Go.Via
abbrev XM(l:List PU):Prop:=Ends fO l
def qtQ{a b:List PU}(ha:Ends fO a)(hb:Ends fO b):∀z∈gY Ep Gh a b,fO z.i.f∧fO z.i.t:=fun z hz=>by
 obtain⟨x,hx,y,hy,e⟩:=Ij hz;unfold Ep fC at e
 split at e
 ·simp at e;subst e;exact Cj (ha x hx) (hb y hy)
 ·simp at e
def Sl{a b:List PU}(ha:Ends fO a)(hb:Ends fO b):∀z∈aA a b,fO z.1.f∧fO z.1.t:=fun z hz=>by
 rw[<-Il] at hz;obtain⟨w,hw,rfl⟩:=List.mem_map.1 hz;exact qtQ ha hb w hw
theorem qj2{x:Rl}(h:fO x):x.r=0:=by obtain⟨z,rfl⟩:=h;rfl
def Sm{a b:List PU}(ha:Ee a)(hb:Ee b):∀p∈(aA a b).map aW,eU p.a<=50000∧eU p.b<=50000:=fun p hp=>by
 obtain⟨z,hz,rfl⟩:=List.mem_map.1 hp;obtain⟨h1,h2⟩:=wQ ha hb z hz;have l1:=Nat.le_trans (ig z.1) h1;have l2:=Nat.le_trans (gW z.1) h1;exact⟨Nat.le_trans (qag h2 l1) ae,Nat.le_trans (qag h2 l2) ae⟩
def UQ(s:Value)(m:Rl):Value:= .agg #[s,.bool (decide (m.p.num<0)),.string (bH m.p.num.natAbs),.bool false,.string (dm m.p),.bool (decide (m.r.num<0)),.string (bH m.r.num.natAbs),.bool false,.string (dm m.r),.bool m.n]
def jy(s:Value)(m:Rl):List Value:=[s,.bool (decide (m.p.num<0)),.string (bH m.p.num.natAbs),.bool false,.string (dm m.p),.bool (decide (m.r.num<0)),.string (bH m.r.num.natAbs),.bool false,.string (dm m.r),.bool m.n]
def O0:List Value:=[.slice none 0 0,aQ,aS,aQ,aS,aQ,aS,aQ,aS,.bool false]
theorem qj3(s:Value):jy s (rl 0)=s::zRc:=congrArg (fun l=>s::l) qjY
end Go.Via
namespace Go.Via
open Go
structure C9(a b:List PU):Prop where
 sa:nR gU a
 sb:nR gU b
 ea:XM a
 eb:XM b
def jX(a b:List PU)(i:Nat):List (Iv×Qd):=(a.take i).flatMap fun x=>b.filterMap (jP x)
def zi(x:PU)(b:List PU)(k:Nat):List (Iv×Qd):=(b.take k).filterMap (jP x)
theorem qcK{a b:List PU}{i:Nat}{x:PU}(hx:a[i]? =some x):jX a b (i+1)=jX a b i++zi x b b.length:=by
 unfold jX zi;rw[<-fH hx,List.flatMap_append,List.take_length];simp
theorem qcL{a b:List PU}{i:Nat}{x:PU}:jX a b i++zi x b 0=jX a b i:=by unfold zi;simp
theorem UR{x y:PU}{b:List PU}{k:Nat}(hy:b[k]? =some y):zi x b (k+1)=zi x b k++(jP x y).toList:=by
 unfold zi;rw[<-fH hy,List.filterMap_append];exact congrArg (_++ ·) (by rw[List.filterMap_cons];cases jP x y<;>rfl)
theorem qeN{a b:List PU}(h:C9 a b):jX a b a.length=aA a b:=by
 rw[fP jM h.sa h.sb h.ea h.eb];unfold jX flatK;rw[List.take_length]
def Io{a b:List PU}{i k:Nat}{x y:PU}{z:Iv×Qd}(hx:a[i]? =some x)(hy:b[k]? =some y)(hz:jP x y=some z):∃r,flatK jP a b=jX a b i++zi x b k++z::r:=by
 have ha:a=a.take i++x::a.drop (i+1):=by
  obtain⟨h1,h2⟩:=List.getElem?_eq_some_iff.1 hx;rw[<-h2,List.getElem_cons_drop,List.take_append_drop]
 have hb:b=b.take k++y::b.drop (k+1):=by
  obtain⟨h1,h2⟩:=List.getElem?_eq_some_iff.1 hy;rw[<-h2,List.getElem_cons_drop,List.take_append_drop]
 refine⟨(b.drop (k+1)).filterMap (jP x)++(a.drop (i+1)).flatMap fun x=>b.filterMap (jP x),?_⟩
 have e:b.filterMap (jP x)=zi x b k++z::(b.drop (k+1)).filterMap (jP x):=by
  conv=>lhs;rw[hb]
  rw[List.filterMap_append,List.filterMap_cons_some hz];rfl
 unfold flatK jX
 conv=>lhs;rw[ha]
 rw[List.flatMap_append,List.flatMap_cons,e];simp
def qcM{a b:List PU}(h:C9 a b){i k:Nat}{x y:PU}{z:Iv×Qd}(hx:a[i]? =some x)(hy:b[k]? =some y)(hz:jP x y=some z):z∈aA a b:=by
 obtain⟨r,e⟩:=Io hx hy hz;rw[fP jM h.sa h.sb h.ea h.eb,e];simp
def qj4{a b:List PU}(h:C9 a b){i k:Nat}{x y:PU}{z:Iv×Qd}(hx:a[i]? =some x)(hy:b[k]? =some y)(hz:jP x y=some z){p:Iv×Qd}(hp:p∈jX a b i++zi x b k):¬aY z.1.f p.1.f<0:=by
 obtain⟨r,e⟩:=Io hx hy hz;have hs:=(nD jM h.sb h.eb h.sa h.ea).1;rw[e] at hs;have hk:=(List.pairwise_append.1 hs).2.2 p hp z (List.mem_cons_self ..);have hm:p∈flatK jP a b:=by rw[e];exact List.mem_append_left _ hp
 have hm2:z∈flatK jP a b:=(by rw[e];simp);have h1:=uZ jM h.ea h.eb p hm;have h2:=uZ jM h.ea h.eb z hm2;rw[jM.lt h2.1.1 h1.1.1];have q1:=oI gU p.1.b;have q2:=oI gU z.1.b;have e1:p.1.b.1=p.1.f:=rfl;have e2:z.1.b.1=z.1.f:=rfl;have o1:=h1.2;rw[e1] at q1;rw[e2] at q2;omega
def qj5{a b:List PU}(h:C9 a b){i k:Nat}{x y:PU}{z:Iv×Qd}(hx:a[i]? =some x)(hy:b[k]? =some y)(hz:jP x y=some z){p:Iv×Qd}(hp:p∈jX a b i++zi x b k):p∈aA a b:=by
 obtain⟨r,e⟩:=Io hx hy hz;rw[fP jM h.sa h.sb h.ea h.eb,e];exact List.mem_append_left _ hp
def qj6{a b:List PU}(h:C9 a b){i k:Nat}{x y:PU}{z:Iv×Qd}(hx:a[i]? =some x)(hy:b[k]? =some y)(hz:jP x y=some z):(jX a b i++zi x b k).length<a.length+b.length:=by
 obtain⟨r,e⟩:=Io hx hy hz;have:=vG a b;rw[fP jM h.sa h.sb h.ea h.eb,e] at this;simp at this ⊢;omega
def qj7{x y:PU}{m:Iv}(h:fC x.i y.i=some m):jP x y=some (m,d2 x.f y.f):=by unfold jP;rw[h];rfl
theorem qj8{x y:PU}(h:fC x.i y.i=none):jP x y=none:=by unfold jP;rw[h];rfl
def okZ{x:Rl}(h:fO x):x.ok:=by obtain⟨z,rfl⟩:=h;exact Oc _
theorem qeO{x y:PU}(hx:fO x.i.f∧fO x.i.t)(hy:fO y.i.f∧fO y.i.t):dI (qI 2) [x.i] [y.i]=(fC x.i y.i).toList:=by
 rw[qjW];exact qio jM hx hy
end Go.Via
namespace Go.Via
open Go
def qeP(out:List Iv)(t:Rl)(tp:Bool):(Si out t tp).length<=out.length:=by
 rcases List.eq_nil_or_concat out with e|⟨o,i,e⟩
 ·subst e;unfold Si;simp
 ·subst e;rw[List.concat_eq_append,wM];simp
def Sr(out:List Iv)(og h:Bool)(t:Rl):(jW out og h t).length<=out.length+1:=by
 unfold jW;have h1:=qeP out t (!h)
 repeat' split
 all_goals first|(simp;done)|omega|(simp;omega)
def XN{here:Rl->Bool}{btw:Rl->Rl->Bool}:∀{ts:List Rl} {out:List Iv} {og:Bool},(qR here btw ts out og).length<=out.length+2*ts.length
 |[],out,og=>by unfold qR;simp
 |[t],out,og=>by unfold qR;have:=Sr out og (here t) t;simp;omega
 |t::u::ts,out,og=>by
  unfold qR;have h1:=Sr out og (here t) t;have h2:=XN (here:=here) (btw:=btw) (ts:=u::ts) (out:=if btw t u=true∧here t=false then jW out og (here t) t++[⟨t,u,true,true⟩] else jW out og (here t) t) (og:=btw t u)
  refine Nat.le_trans h2 ?_
  split
  ·simp only[List.length_append,List.length_cons,List.length_nil];omega
  ·simp only[List.length_cons];omega
def zk(op:Bool->Bool->Bool)(a b:List Iv):(dI op a b).length<=4*(a.length+b.length):=by
 rw[UN];have h:=XN (here:=fun t=>op (ou a t) (ou b t)) (btw:=fun t u=>op (oz a t u) (oz b t u)) (ts:=dX (bV (a++b))) (out:=[]) (og:=false)
 have h2:=UM (bV (a++b));rw[wO,List.length_append] at h2;simp only[List.length_nil] at h;omega
def qj9{S S':Rl->Prop}{ρ:Rl->Int}(T:dM S ρ)(h:∀x,S' x->S x):dM S' ρ:=⟨fun a b=>T.lt (h _ a) (h _ b),fun a b=>T.gt (h _ a) (h _ b),fun a b=>T.inj (h _ a) (h _ b)⟩
def SmE(n:Nat)(x:Rl):Prop:=fO x∧eU x<=n
def qcN(n:Nat):dM (SmE n) gU:=qj9 jM fun _ h=>h.1
def qkb{n:Nat}{l:List Iv}(h:fU (SmE n) l):∀i∈l,gV i<=n:=fun i hi=>qH (h i hi).1.2 (h i hi).2.2
def qpi{l:List PU}(hs:Ee l)(he:XM l):fU (SmE 100) (l.map (·.i)):=fun i hi=>by
 obtain⟨u,hu,rfl⟩:=List.mem_map.1 hi;have h1:=(hs u hu).1;exact⟨⟨(he u hu).1,Nat.le_trans (ig _) h1⟩,⟨(he u hu).2,Nat.le_trans (gW _) h1⟩⟩
def XO{l:List PU}(hs:Ee l)(he:XM l):fU (SmE 100) (gq l):=Ul (qcN 100) rfl (qpi hs he) (fun i hi=>MJ)
def Ip(l:List PU):(gq l).length<=4*l.length:=by
 have:=zk orB (l.map (·.i)) [];rw[List.length_map] at this;exact this
def pO(c:List iT):Nat->Option Iv
 |0=>none
 |n+1=>(c[n]?).map (·.i)
theorem UT{c:List iT}{i:Nat}{p:iT}(h:c[i]? =some p):pO c (i+1)=some p.i:=by show(c[i]?).map (·.i)=_;rw[h];rfl
theorem qcO{c:List iT}{i:Nat}{p:iT}(h:c[i]? =some p):c.drop i=p::c.drop (i+1):=by
 obtain⟨h1,h2⟩:=List.getElem?_eq_some_iff.1 h;rw[<-h2,List.getElem_cons_drop]
def qq0{f:Option Iv->iT->Int}{c:List iT}{i:Nat}{p:iT}(h:c[i]? =some p)(hL:fD f none c=fD f (pO c i) (c.drop i))(h0:f (pO c i) p=0):fD f none c=fD f (pO c (i+1)) (c.drop (i+1)):=by
 rw[hL,qcO h,UT h]
 conv=>lhs;unfold fD
 rw[if_pos h0]
def Dc{f:Option Iv->iT->Int}{c:List iT}{i:Nat}{p:iT}{e:Int}(h:c[i]? =some p)(hL:fD f none c=fD f (pO c i) (c.drop i))(he:f (pO c i) p=e)(h0:e≠0):fD f none c=e:=by
 rw[hL,qcO h]
 conv=>lhs;unfold fD
 rw[if_neg (by rw[he];exact h0),he]
def qkc{f:Option Iv->iT->Int}{c:List iT}(hL:fD f none c=fD f (pO c c.length) (c.drop c.length)):fD f none c=0:=by
 rw[hL,List.drop_length];cases pO c c.length<;>rfl
end Go.Via
namespace Go.Proofs.YtaffcpfhedadhaaGreatDoor
open Go Go.RowKit Go.Via
def sU(x:Rl)(q:Rat)(hx:eU x<=50000:=by omega)(hq:bY q<=50000:=by omega):aG Tryz.prog 23 #[RV x,Q q] (RV ⟨x.p+q,x.r,x.n⟩):=by
 have hxp:=pM x;refine nX 11 Tryz.func23 fun w=>?_;refine nI fun g0=>?_;refine Bp 4 (fun g1=>?_);refine Al 9 QI (fun g2=>?_);refine A5 ?_;refine jH ?_;refine Pc (fV x.p q) ?_;refine A1 ?_;refine Ss 0 ?_;refine A4 ?_;refine L9 0 0 ?_;refine Jr ?_;exact rfl
variable[Mo]
def KZ(x y:Bool):aG Tryz.prog 153 #[.bool x,.bool y] (.bool (x||y)):=by
 refine nX 9 Tryz.func153 fun w=>?_;refine A9 ?_;refine Rs 6 ?_ ?_<;>intro haQ
 ·refine A6 ?_;exact UD
 ·refine A6 ?_;exact UD
def La(x y:Bool):aG Tryz.prog 191 #[.bool x,.bool y] (.bool (x&& !y)):=by
 refine nX 10 Tryz.func191 fun w=>?_;refine A9 ?_;refine Rs 6 ?_ ?_<;>intro haQ
 ·refine A7 ?_;exact UD
 ·refine A7 ?_;exact UD
def Lc(a b:(Rl×Bool)×Int×Int)(ha:eU a.1.1<=50000:=by omega)(hb:eU b.1.1<=50000:=by omega):aG Tryz.prog 193 #[EvV a,EvV b] (.int .i64 (yg a.1 b.1)):=by
 refine nX 10 Tryz.func193 fun w=>?_;refine kE fun g0=>?_;refine Bp 12 (fun g1=>?_);refine A6 ?_;refine L10 0 0 ?_;refine A1 ?_;refine L10 1 0 ?_;refine Pc (rW a.1 b.1 ha hb) ?_;exact zT
end Go.Proofs.YtaffcpfhedadhaaGreatDoor
namespace Go.Via
open Go Go.Sort Go.Proofs
abbrev O1:=(Rl×Bool)×Int×Int
theorem qkd{l:List Iv}{i:Nat}{x:Iv}(hx:l[i]? =some x):EC (l.take i)++[(x.b,1,0),(x.e,-1,0)]=EC (l.take (i+1)):=by
 rw[<-fH hx];unfold EC;rw[List.flatMap_append];rfl
theorem qke{l:List Iv}{i:Nat}{x:Iv}(hx:l[i]? =some x):KO (l.take i)++[(x.b,0,1),(x.e,0,-1)]=KO (l.take (i+1)):=by
 rw[<-fH hx];unfold KO;rw[List.flatMap_append];rfl
def evK(a b:List Iv):Nat->List O1
 |0=>[]
 |1=>EC a
 |_=>EC a++KO b
theorem qcP(l:List Iv):(EC l).length=2*l.length:=by
 induction l with
 |nil=>rfl
 |cons x l ih=>show(_++EC l).length=_;rw[List.length_append,ih];simp;omega
theorem qcQ(l:List Iv):(KO l).length=2*l.length:=by
 induction l with
 |nil=>rfl
 |cons x l ih=>show(_++KO l).length=_;rw[List.length_append,ih];simp;omega
def qkf{a b:List Iv}{e:O1}(h:e∈EC a++KO b):(∃i∈a++b,e.1=i.b∨e.1=i.e)∧(-1<=e.2.1∧e.2.1<=1)∧ -1<=e.2.2∧e.2.2<=1:=by
 rcases List.mem_append.1 h with h|h
 ·obtain⟨i,hi,h⟩:=List.mem_flatMap.1 h;simp only[List.mem_cons,List.not_mem_nil,or_false] at h;rcases h with rfl|rfl
  ·exact⟨⟨i,List.mem_append_left _ hi,.inl rfl⟩,UI⟩
  ·exact⟨⟨i,List.mem_append_left _ hi,.inr rfl⟩,UI⟩
 ·obtain⟨i,hi,h⟩:=List.mem_flatMap.1 h;simp only[List.mem_cons,List.not_mem_nil,or_false] at h;rcases h with rfl|rfl
  ·exact⟨⟨i,List.mem_append_right _ hi,.inl rfl⟩,UI⟩
  ·exact⟨⟨i,List.mem_append_right _ hi,.inr rfl⟩,UI⟩
def qv2{S:Rl->Prop}{a b:List Iv}(ha:fU S a)(hb:fU S b){e:O1}(h:e∈EC a++KO b):S e.1.1:=by
 obtain⟨⟨i,hi,h1⟩,_⟩:=qkf h;have h2:S i.f∧S i.t:=by
  rcases List.mem_append.1 hi with h|h;exact ha i h;exact hb i h
 rcases h1 with h1|h1<;>rw[h1];exact h2.1;exact h2.2
section
variable{α:Type}{κ:α->Int}{keep:Bool->Bool->Bool}
def stO(inn:Bool)(f:α):Option α:=if inn=true then some f else none
theorem wS{β:Type}{l:List β}{i:Nat}{x:β}(h:l[i]? =some x):l.drop i=x::l.drop (i+1):=by
 obtain⟨hl,rfl⟩:=List.getElem?_eq_some_iff.1 h;exact List.drop_eq_getElem_cons hl
theorem qkg{l:List (α×Int×Int)}{i:Nat}{x y:α×Int×Int}{m n:Int}{st:Option α}(hx:l[i]? =some x)(hy:l[i+1]? =some y)(h:κ x.1=κ y.1):PT κ keep (l.drop i) m n st=PT κ keep (l.drop (i+1)) (m+x.2.1) (n+x.2.2) st:=by
 rw[wS hx,wS hy];conv=>lhs;unfold PT;rw[if_pos h]
theorem qkh{l:List (α×Int×Int)}{i:Nat}{x:α×Int×Int}{m n:Int}{st:Option α}(hx:l[i]? =some x)(h:∀y,l[i+1]? =some y->κ x.1≠κ y.1):
 PT κ keep (l.drop i) m n st=match st,keep (decide (0<m+x.2.1)) (decide (0<n+x.2.2)) with
  |none,true=>PT κ keep (l.drop (i+1)) (m+x.2.1) (n+x.2.2) (some x.1)
  |some f,false=>(f,x.1)::PT κ keep (l.drop (i+1)) (m+x.2.1) (n+x.2.2) none
  |st,_=>PT κ keep (l.drop (i+1)) (m+x.2.1) (n+x.2.2) st:=by
 rw[wS hx];cases hy:l[i+1]? with
 |none=>
  have e:l.drop (i+1)=[]:=List.drop_eq_nil_of_le (List.getElem?_eq_none_iff.1 hy);rw[e];cases st<;>cases hk:keep (decide (0<m+x.2.1)) (decide (0<n+x.2.2))<;>simp[PT,hk]
 |some y=>
  rw[wS hy]
  conv=>lhs;unfold PT
  rw[if_neg (h y hy)];cases st<;>cases hk:keep (decide (0<m+x.2.1)) (decide (0<n+x.2.2))<;>simp
theorem qtR{l:List (α×Int×Int)}{i:Nat}{x:α×Int×Int}{m n:Int}{inn now:Bool}{fb:α}(hx:l[i]? =some x)(h:∀y,l[i+1]? =some y->κ x.1≠κ y.1)(hn:keep (decide (0<m+x.2.1)) (decide (0<n+x.2.2))=now):
 PT κ keep (l.drop i) m n (stO inn fb)=(if inn=true∧now=false then[(fb,x.1)] else[])++PT κ keep (l.drop (i+1)) (m+x.2.1) (n+x.2.2) (stO now (if now=true∧inn=false then x.1 else fb)):=by
 rw[qkh hx h,hn];cases inn<;>cases now<;>rfl
end
def ivP(p:oZ×oZ):Iv:=PW p.1 p.2
def swO(κ:oZ->Int)(keep:Bool->Bool->Bool)(l:List O1)(i:Nat)(m n:Int)(inn:Bool)(fb:oZ):List Iv:=(PT κ keep (l.drop i) m n (stO inn fb)).map ivP
theorem qpj{κ:oZ->Int}{keep:Bool->Bool->Bool}{l:List O1}{m n:Int}{inn:Bool}{fb:oZ}:swO κ keep l l.length m n inn fb=[]:=by
 unfold swO;rw[List.drop_length];rfl
def qki{S:Rl->Prop}{ρ:Rl->Int}(T:dM S ρ){op:Bool->Bool->Bool}(h0:op false false=false){a b:List Iv}(ha:fU S a)(hb:fU S b)(oa:IG ρ a)(ob:IG ρ b)
 {l:List O1}(hp:l.Perm (EC a++KO b))(hl:l.Pairwise (fun x y=>aI ρ x.1<=aI ρ y.1))(fb:oZ):swO (aI ρ) op l 0 0 0 false fb=dI op a b:=by
 obtain⟨s1,s2⟩:=nz T (lH (iF ha hb));unfold swO dI;rw[List.drop_zero];show List.map ivP (PT (aI ρ) op l 0 0 none)=_;rw[ZC T h0 ha hb oa ob s1 (fun x=>by rw[s2,xP]) hp hl]
 rfl
theorem qkj{S:Rl->Prop}{ρ:Rl->Int}(T:dM S ρ){a b:oZ}(ha:S a.1)(hb:S b.1):yg a b=0↔aI ρ a=aI ρ b:=by
 rw[Hf T ha hb];exact ZN
theorem qcR{S:Rl->Prop}{ρ:Rl->Int}(T:dM S ρ){a b:oZ}(ha:S a.1)(hb:S b.1):yg a b<0↔aI ρ a<aI ρ b:=by
 rw[Hf T ha hb];exact ZN
theorem qkk{S:Rl->Prop}{ρ:Rl->Int}(T:dM S ρ){keep:Bool->Bool->Bool}{l:List O1}{i:Nat}{x y:O1}{m n:Int}{inn:Bool}{fb:oZ}(hx:l[i]? =some x)(hy:l[i+1]? =some y)(sx:S x.1.1)(sy:S y.1.1)(h:yg x.1 y.1=0):swO (aI ρ) keep l i m n inn fb=swO (aI ρ) keep l (i+1) (m+x.2.1) (n+x.2.2) inn fb:=by
 unfold swO;rw[qkg hx hy ((qkj T sx sy).1 h)]
def Far(ρ:Rl->Int)(l:List O1)(i:Nat)(x:O1):Prop:=∀y,l[i+1]? =some y->aI ρ x.1≠aI ρ y.1
def qpk{ρ:Rl->Int}{l:List O1}{i:Nat}{x:O1}(h:¬i+1<l.length):Far ρ l i x:=fun y hy=>by
 rw[List.getElem?_eq_none ae] at hy;cases hy
def qtS{S:Rl->Prop}{ρ:Rl->Int}(T:dM S ρ){l:List O1}{i:Nat}{x y:O1}(hy:l[i+1]? =some y)(sx:S x.1.1)(sy:S y.1.1)(h:yg x.1 y.1≠0):Far ρ l i x:=fun z hz e=>by
 rw[hy] at hz;cases hz;exact h ((qkj T sx sy).2 e)
theorem qkl{ρ:Rl->Int}{keep:Bool->Bool->Bool}{l:List O1}{i:Nat}{x:O1}{m n:Int}{inn now:Bool}{fb:oZ}(hx:l[i]? =some x)(h:Far ρ l i x)(hn:keep (decide (0<m+x.2.1)) (decide (0<n+x.2.2))=now):
 swO (aI ρ) keep l i m n inn fb=(if inn=true∧now=false then[PW fb x.1] else[])++swO (aI ρ) keep l (i+1) (m+x.2.1) (n+x.2.2) now (if now=true∧inn=false then x.1 else fb):=by
 unfold swO;rw[qtR hx h hn,List.map_append]
 congr 1
 split<;>rfl
def qyl:List Value:=[aQ,aS,aQ,aS,aQ,aS,aQ,aS,.bool false,.bool false]
theorem qtT:yu (rl 0,false)=qyl:=by
 have h:=qjY;show kQ (rl 0)++[.bool false]=_;rw[h];rfl
abbrev EvS(S:Rl->Prop):={e:O1 // S e.1.1∧eU e.1.1<=50000}
def evc{S:Rl->Prop}(x:EvS S):List Value:=jR x.1
theorem UU{S:Rl->Prop}:iY (EvS S) evc 12:=⟨fun _=>rfl,fun x v hv=>yA.one x.1 v hv⟩
theorem Su{S:Rl->Prop}(l:List (EvS S)):ai evc l=ai jR (l.map (·.1)):=by
 exact qjx
def qtU{S:Rl->Prop}{ρ:Rl->Int}(T:dM S ρ):SWO (Go.Proofs.ltOf fun x y:EvS S=>yg x.1.1 y.1.1):=by
 have h:∀x y:EvS S,Go.Proofs.ltOf (fun x y:EvS S=>yg x.1.1 y.1.1) x y=decide (aI ρ x.1.1<aI ρ y.1.1):=fun x y=>by
  unfold Go.Proofs.ltOf;exact decide_eq_decide.2 (qcR T x.2.1 y.2.1)
 refine⟨fun x=>?_,fun x y z=>?_,fun x y z=>?_⟩
 ·rw[h];simp
 ·rw[h,h,h];simp only[decide_eq_true_eq];omega
 ·rw[h,h,h];simp only[decide_eq_false_iff_not];omega
def qcS{S:Rl->Prop}:∀{l:List O1},(∀e∈l,S e.1.1∧eU e.1.1<=50000)->∃l':List (EvS S),l'.map (·.1)=l
 |[],_=>⟨[],rfl⟩
 |e::l,h=>by
  obtain⟨l',e'⟩:=qcS fun x hx=>h x (List.mem_cons_of_mem _ hx)
  exact⟨⟨e,h e (List.mem_cons_self ..)⟩::l',by rw[List.map_cons,e']⟩
end Go.Via
namespace Go.Proofs.YtaffcpfhedadhaaGreatDoor
open Go Go.RowKit Go.Via Go.Sort Go.Shelf
def qkn{S:Rl->Prop}{ρ:Rl->Int}(T:dM S ρ)(l:List O1)(b:Option Nat)(n cap:Nat)(hl:l.length<=cap)(hn:cap*12<=n)(hS:∀e∈l,S e.1.1∧eU e.1.1<=50000)(hc:l.length<=1000000:=by omega):
 Ey Tryz.prog 192 [⟨b,253,ai jR l,n,true⟩] [aB b 0 l.length cap,.func (.func 193) #[] #[]] {l':List O1 // l'.Perm l∧l'.Pairwise (fun x y=>aI ρ x.1<=aI ρ y.1)} (fun _=> .tuple #[]) (fun z=>[⟨b,253,ai jR z.1,n,true⟩]):=by
 refine⟨ak,fun B w hD hL=>?_⟩
 by_cases h0:l=[]
 ·subst h0;have h1:=AnyF.slices_SortFunc_none Tryz.sortEv (b.map fun g=>⟨g,0,none⟩) cap (.func (.func 193) #[] #[]) w;refine Calls.mono h1 ?_;rintro e w' ⟨rfl,rfl⟩;exact⟨⟨[],List.Perm.refl _,List.Pairwise.nil⟩,rfl,hL⟩
 ·cases b with
  |none=>
   have h2:=((hL.blk 0 _ rfl).2 rfl).1;have h3:=congrArg List.length h2;rw[yA.length] at h3;exact absurd (List.eq_nil_of_length_eq_zero (by rw[List.length_nil] at h3;omega)) h0
  |some g=>
   have hl0:=List.length_pos_iff.2 h0;have hn0:n≠0:=ae;obtain⟨l',rfl⟩:=qcS hS;have hd:∃x:EvS S,x∈l':=List.exists_mem_of_ne_nil _ (fun e=>h0 (by rw[e];rfl));obtain⟨d,_⟩:=hd
   letI:Inhabited (EvS S):=⟨d⟩
   rw[<-Su] at hL;have hlen:(l'.map (·.1)).length=l'.toArray.size:=bz
   have h1:=AnyQ.slices_SortFunc Tryz.sortEv 12 Tryz.isAgg253 Tryz.sizeOf253 evc (fun x=>rfl) (fun x v hv=>yA.one x.1 v hv) (fun x y:EvS S=>yg x.1.1 y.1.1) (qtU T) 193 #[] g 0 cap l'.toArray w
    (enters_of Tryz.func193 ak rfl) (@qcq (EvS S) _ evc 12 mo1 trivial Tryz.prog 193 (fun x y=>yg x.1.1 y.1.1) (fun x y=> @Lc mo1 x.1 y.1 x.2.2 y.2.2) g 0 l'.toArray.size w)
    (RN UU (j:=0) hL rfl hn0) (hL.lt (k:=0) rfl rfl) (by simp at hc ⊢;omega)
   rw[<-hlen] at h1;refine Calls.mono h1 ?_;rintro e w' ⟨rfl,d',m,os,hp,hs,rfl⟩;rw[hlen] at hp hs;have hp':=qoT hp;have hs':=qeF hs hp.1;refine⟨⟨d'.toList.map (·.1),hp'.map _,?_⟩,rfl,?_⟩
   ·rw[List.pairwise_map];refine hs'.imp fun {x y} h=>?_
    have h2:¬yg y.1.1 x.1.1<0:=of_decide_eq_false h;rw[qcR T y.2.1 x.2.1] at h2;omega
   ·show aX B [⟨some g,253,ai jR (d'.toList.map (·.1)),n,true⟩] _;rw[<-Su];have hx:=H8 UU (j:=0) (m:=m) (os:=os) (l':=d'.toList) hL rfl (by rw[UU.length,hp'.length_eq];simp at hl;omega) hn0
    simpa using hx
end Go.Proofs.YtaffcpfhedadhaaGreatDoor
namespace Go.Via
open Go
def qpl(a b c:Int)(i:Nat)(h:i<3):([.int .i64 a,.int .i64 b,.int .i64 c]:List Value)[i]? =some (.int .i64 ([a,b,c].getD i 0)):=by
 rcases(show i=0∨i=1∨i=2 by omega) with rfl|rfl|rfl<;>rfl
def or3(a b c:Int):Int:=if a≠0 then a else if b≠0 then b else c
theorem qpm{a b c:Int}{i:Nat}(hi:i<3)(h:∀j,j<i->[a,b,c].getD j 0=0)(hn:[a,b,c].getD i 0≠0):or3 a b c=[a,b,c].getD i 0:=by
 have h0:=h 0;have h1:=h 1;rcases(show i=0∨i=1∨i=2 by omega) with rfl|rfl|rfl<;>simp at hn h0 h1 ⊢ <;>unfold or3<;>simp_all
theorem qtW{a b c:Int}(h:∀j,j<3->[a,b,c].getD j 0=0):or3 a b c=0:=by
 have h0:=h 0 ae;have h1:=h 1 ae;have h2:=h 2 ae;simp at h0 h1 h2;unfold or3;simp_all
def qko{a b c:Int}{i:Nat}(h:∀j,j<i->[a,b,c].getD j 0=0)(hn:[a,b,c].getD i 0=0):∀j,j<i+1->[a,b,c].getD j 0=0:=fun j hj=>by
 by_cases e:j=i
 ·rw[e];exact hn
 ·exact h j ae
def opI(i:Iv):Int:=if i.fo=true then 1 else 0
theorem qkp(a b:PU):or3 (aY a.i.f b.i.f) (if opI a.i<opI b.i then-1 else if opI b.i<opI a.i then 1 else 0) (aY a.i.t b.i.t)=Qi a b:=by
 unfold or3 Qi qtn opI;cases a.i.fo<;>cases b.i.fo<;>simp
def qak{f:Ln}(h:jI f<=10000):ve (qx f)<=10000:=by
 have:=sK f;have:=sO f;have:=y9;unfold ve qx;dsimp only;omega
def qal{f:Ln}(h:jI f<=10000):ve (qy f)<=10000:=by
 have:=sQ f;have:=sS f;have:=y9;unfold ve qy;dsimp only;omega
def qq1(f:Ln)(t:Rl):(wJ (qx f) t).c0=(jE f t).x0∧(wJ (qx f) t).c1=(jE f t).x1∧(wJ (qy f) t).c0=(jE f t).y0∧(wJ (qy f) t).c1=(jE f t).y1:=by
 unfold wJ jE
 by_cases h:t.r=0
 ·rw[if_pos h,if_pos h,if_pos h];exact⟨rfl,rfl,rfl,rfl⟩
 ·rw[if_neg h,if_neg h,if_neg h];unfold vz qx qy;refine⟨?_,?_,?_,?_⟩<;>dsimp only<;>grind
theorem qcT(f g:Ln)(t:Rl):(decide (wJ (qG (qx f) (qx g)) t=⟨0,0,0⟩)&&decide (wJ (qG (qy f) (qy g)) t=⟨0,0,0⟩))=qj f g t:=by
 have z0:(0:Rat)-0=0:=dQ;have hx:qG (qx f) (qx g)=qx (FN f g):=(by unfold qG qx FN;dsimp only;rw[z0]);have hy:qG (qy f) (qy g)=qy (FN f g):=(by unfold qG qy FN;dsimp only;rw[z0]);rw[hx,hy];obtain⟨h1,h2,h3,h4⟩:=qq1 (FN f g) t;have z1:(wJ (qx (FN f g)) t).c2=0:=by unfold wJ;split<;>rfl
 have z2:(wJ (qy (FN f g)) t).c2=0:=by unfold wJ;split<;>rfl
 have e1:wJ (qx (FN f g)) t=⟨(jE (FN f g) t).x0,(jE (FN f g) t).x1,0⟩:=(by rw[<-h1,<-h2,<-z1]);have e2:wJ (qy (FN f g)) t=⟨(jE (FN f g) t).y0,(jE (FN f g) t).y1,0⟩:=(by rw[<-h3,<-h4,<-z2]);unfold qj;rw[e1,e2,Bool.eq_iff_iff,Bool.and_eq_true,decide_eq_true_eq,decide_eq_true_eq,decide_eq_true_eq]
 generalize jE (FN f g) t=r
 obtain⟨a,b,c,d⟩:=r;simp[and_assoc]
end Go.Via
namespace Go.Proofs.YtaffcpfhedadhaaGreatDoor
open Go Go.RowKit Go.Via
variable[Mo]
def qeQ(a b c:Int)(g:Nat):bQ Tryz.prog 218 [⟨some g,3,[.int .i64 a,.int .i64 b,.int .i64 c],3,false⟩] [aB (some g) 0 3 3] Unit (fun _=> .int .i64 (or3 a b c)) (fun _=>[]):=by
 refine Qg 18 Tryz.func218 fun w hL0=>?_;refine A19 ?_;refine El (ι:={i:Nat // i<=3∧∀j,j<i->[a,b,c].getD j 0=0}) (fun⟨i,hi,ha⟩=>([(3,.int .i64 0),(6,aB (some g) 0 3 3),(7,.int .i64 3),(8,bF i)],[⟨some g,3,[.int .i64 a,.int .i64 b,.int .i64 c],3,false⟩],3-i)) ⟨0,ae,fun j h=>absurd h ae⟩ ?_;rintro⟨i,hi,ha⟩;(try dsimp only);refine A6 ?_;refine Cd ?_ ?_<;>intro haQ
 ·have hlt:i<3:=iE;refine A6 ?_;refine Ix 0 i ?_;refine Tn (v:= .int .i64 ([a,b,c].getD i 0)) 0 i LJ rfl rfl rfl rfl (qpl a b c i hlt) ?_;refine lh ?_;refine Cd ?_ ?_<;>intro hbQ
  ·have hne:[a,b,c].getD i 0≠0:=Au
   refine oH ?_;refine aH rfl (ax rfl) (fun w hL=>⟨(),?_,hL.pk []⟩);rw[qpm hlt ha hne]
  ·have he:[a,b,c].getD i 0=0:=Au
   refine vW ?_;exact Nl ⟨i+1,hlt,qko ha he⟩
 ·have hge:i=3:=iV;subst hge;refine oH ?_;refine aH rfl (ax rfl) (fun w hL=>⟨(),?_,hL.pk []⟩);rw[qtW ha]
def O3(i:Iv):aG Tryz.prog 217 #[lC i] (.int .i64 (opI i)):=by
 refine vC 5 Tryz.func217 fun w=>?_;refine qB fun g0=>?_;refine lh ?_;refine Cd ?_ ?_<;>intro haQ
 ·refine ng ?_;rw[opI,if_pos haQ]
 ·refine mZ ?_;rw[opI,if_neg OO]
def qeR(a b:PU)(ha:gV a.i<=50000:=by omega)(hb:gV b.i<=50000:=by omega):aG Tryz.prog 216 #[PUV a,PUV b] (.int .i64 (Qi a b)):=by
 have a1:=Nat.le_trans (ig a.i) ha;have a2:=Nat.le_trans (gW a.i) ha;have b1:=Nat.le_trans (ig b.i) hb;have b2:=Nat.le_trans (gW b.i) hb;refine nX 31 Tryz.func216 fun w=>?_;refine A2 ?_;refine Bp 36 (fun g0=>?_);refine Bp 36 (fun g1=>?_);refine A9 ?_;refine Dp [] [0,1,2,3,4,5,7,8,9,11,12,13,16,17,18,19,20,21,6,10,14,15,22,23,24,25] ?_ (hc:=(qg [0,1,3,0,8,24,63,0,0,256,1023,0,0,4096,16383,32767,0,65536,196608,0,524288,1572864,4194303,8388607,16777215,33554431] ak));refine A2 ?_;refine L9 0 0 ?_;refine A2 ?_;refine L9 1 0 ?_;refine A2 ?_;refine zO 0 0 ?_;refine A2 ?_;refine zO 1 0 ?_;refine A2 ?_;refine L9 0 9 ?_;refine A2 ?_;refine L9 1 9 ?_;refine Pc (dF a.i.f b.i.f) ?_;refine qi [_] rfl rfl rfl rfl (O3 a.i) ?_;refine qi [_] rfl rfl rfl rfl (O3 b.i) ?_;refine Pc (yt (opI a.i) (opI b.i)) ?_;refine Pc (dF a.i.t b.i.t) ?_;refine(Bl 3 [(0,_),(1,_),(2,_)]) (qnr) (fun g2=>?_);refine(Sd [2]) (qeQ _ _ _ _) ?_;refine rH ?_;rw[qkp]
end Go.Proofs.YtaffcpfhedadhaaGreatDoor
namespace Go.Via
open Go Go.Sort Go.Proofs
abbrev PUS:={u:PU // gV u.i<=50000}
def puc(x:PUS):List Value:=aK x.1
theorem UV:iY PUS puc 36:=⟨fun _=>rfl,fun x v hv=>bu.one x.1 v hv⟩
theorem Sz(l:List PUS):ai puc l=ai aK (l.map (·.1)):=by
 exact qjx
def qcU:∀{l:List PU},(∀u∈l,gV u.i<=50000)->∃l':List PUS,l'.map (·.1)=l
 |[],_=>⟨[],rfl⟩
 |e::l,h=>by
  obtain⟨l',e'⟩:=qcU fun x hx=>h x (List.mem_cons_of_mem _ hx)
  exact⟨⟨e,h e (List.mem_cons_self ..)⟩::l',by rw[List.map_cons,e']⟩
def qcV(l:List PU):Prop:=l.Pairwise fun x y=>decide (Qi y x<0)=false
end Go.Via
namespace Go.Proofs.YtaffcpfhedadhaaGreatDoor
open Go Go.RowKit Go.Via Go.Sort Go.Shelf
def qpo(l:List PU)(b:Option Nat)(n cap:Nat)(hs:qcV l)(hz:∀u∈l,gV u.i<=50000)(hl:l.length<=cap:=by omega)(hn:cap*36<=n:=by omega)(hc:l.length<=1000000:=by omega):
 Ey Tryz.prog 264 [⟨b,201,ai aK l,n,true⟩] [aB b 0 l.length cap,.int .i64 0,.int .i64 (l.length:Nat),.func (.func 216) #[] #[]] Unit (fun _=> .tuple #[]) (fun _=>[⟨b,201,ai aK l,n,true⟩]):=by
 refine⟨ak,fun B w hD hL=>?_⟩
 by_cases h0:l=[]
 ·subst h0;have h1:=AnyF.insertionSortCmpFunc_none Tryz.insPU (b.map fun g=>⟨g,0,none⟩) cap (.func (.func 216) #[] #[]) w;refine Calls.mono h1 ?_;rintro e w' ⟨rfl,rfl⟩;exact⟨(),rfl,hL⟩
 ·cases b with
  |none=>
   have h2:=((hL.blk 0 _ rfl).2 rfl).1;have h3:=congrArg List.length h2;rw[bu.length] at h3;exact absurd (List.eq_nil_of_length_eq_zero (by rw[List.length_nil] at h3;omega)) h0
  |some g=>
   have hl0:=List.length_pos_iff.2 h0;have hn0:n≠0:=ae;obtain⟨l',rfl⟩:=qcU hz;have hd:∃x:PUS,x∈l':=List.exists_mem_of_ne_nil _ (fun e=>h0 (by rw[e];rfl));obtain⟨d,_⟩:=hd
   letI:Inhabited PUS:=⟨d⟩
   rw[<-Sz] at hL;have hlen:(l'.map (·.1)).length=l'.toArray.size:=bz
   have h1:=AnyQ.insertionSortCmpFunc Tryz.insPU 36 Tryz.isAgg201 Tryz.sizeOf201 puc (fun x=>rfl) (fun x v hv=>bu.one x.1 v hv) (fun x y:PUS=>Qi x.1 y.1) 216 #[] g 0 cap 0 l'.toArray.size l'.toArray w
    (enters_of Tryz.func216 ak rfl) (@qcq PUS _ puc 36 mo1 trivial Tryz.prog 216 (fun x y=>Qi x.1 y.1) (fun x y=> @qeR mo1 x.1 y.1 x.2 y.2) g 0 l'.toArray.size w)
    (RN UV (j:=0) hL rfl hn0) (hL.lt (k:=0) rfl rfl) (Nat.zero_le _) (Nat.le_refl _) (by simp at hc ⊢;omega)
   rw[<-hlen] at h1;refine Calls.mono h1 ?_;rintro e w' ⟨rfl,m,os,rfl⟩;have hid:Sort.insertionSort (ltOf fun x y:PUS=>Qi x.1 y.1) l'.toArray 0 (l'.map (·.1)).length=l'.toArray:=by
    rw[List.length_map];refine Uu ?_;have:=List.pairwise_map.1 hs;exact this
   rw[hid];refine⟨(),rfl,?_⟩;rw[<-Sz];have hx:=H8 UV (j:=0) (m:=m) (os:=os) (l':=l') hL rfl (by rw[UV.length];simp at hl;omega) hn0
   simpa using hx
end Go.Proofs.YtaffcpfhedadhaaGreatDoor
namespace Go.Via
open Go
def qv3{α:Type}{p:α->Prop}{a:List α}{i:Nat}{x:α}(hx:a[i]? =some x)(h:∀u∈a.take i,p u)(hp:p x):∀u∈a.take (i+1),p u:=fun u hu=>by
 rw[<-fH hx] at hu;rcases List.mem_append.1 hu with h1|h1
 ·exact h u h1
 ·rw[List.mem_singleton.1 h1];exact hp
end Go.Via
namespace Go.Proofs.YtaffcpfhedadhaaGreatDoor
open Go Go.RowKit Go.Via
def nM(f:Ln):aG Tryz.prog 315 #[AU f] (.tuple #[uf (qx f),uf (qy f)]):=by
 refine vC 14 Tryz.func315 fun w=>?_;refine A2 ?_;refine Bp 16 (fun g0=>?_);refine Al 12 Vf (fun g1=>?_);refine Aa fun g2=>?_;refine A3 ?_;refine Dp [] [0,1,2,3,5,6,7,8,4,9,10,11] ?_;refine uu ?_;refine oM ?_;refine rV ?_;refine A1 ?_;refine L4 0 12 ?_;refine Pc (jv f.x0 f.x1) ?_;refine Pc (jv f.y0 f.y1) ?_;refine Ss 1 ?_;refine jq ?_;refine bT rfl (bn 1 rfl rfl qm9 (vs:=[_,_,_,_,_,_,_,_,_,_,_,_]) rfl rfl (Nat.le_of_ble_eq_true rfl) rfl) (bn 2 rfl rfl qm9 (vs:=[_,_,_,_,_,_,_,_,_,_,_,_]) rfl rfl (Nat.le_of_ble_eq_true rfl) rfl) (fun w hL=>⟨?_,hL.below⟩);exact rfl
def Qm(f g:Ln):aG Tryz.prog 312 #[.agg #[],AU f,AU g] (.bool (decide (f=g))):=by
 refine pB3 10 Tryz.func312 fun w=>?_;refine qac fun g0=>?_;refine Bp 16 (fun g1=>?_);refine Bp 16 (fun g2=>?_);refine A5 ?_;refine L16 1 0 ?_;refine L16 2 0 ?_;refine mM rfl rfl rfl rfl qxH (qyf _ _) ?_;exact zT
def Iq(f g:Ln)(t:Rl)(hf:jI f<=10000:=by omega)(hg:jI g<=10000:=by omega)(ht:eU t<=10000:=by omega):aG Tryz.prog 314 #[.agg #[],AU f,AU g,RV t] (.bool (qj f g t)):=by
 have f1:=qak hf;have f2:=qal hf;have q1:=qak hg;have q2:=qal hg;refine pB4 33 Tryz.func314 fun w=>?_;refine qac fun g0=>?_;refine Bp 16 (fun g1=>?_);refine Bp 16 (fun g2=>?_);refine Bp 9 (fun g3=>?_);refine A5 ?_;refine L16 1 0 ?_;refine Pc (nM f) ?_;refine A3 ?_;refine Al 12 Vf (fun g4=>?_);refine Al 12 Vf (fun g5=>?_);refine Ss 4 ?_;refine Ss 5 ?_;refine A4 ?_;refine L16 2 0 ?_;refine Pc (nM g) ?_;refine A3 ?_;refine Al 12 Vf (fun g6=>?_);refine Al 12 Vf (fun g7=>?_);refine Ss 6 ?_;refine Ss 7 ?_;refine A4 ?_;refine xg 4 0 ?_;refine xg 6 0 ?_;refine L9 3 0 ?_;refine Pc (zh (qx f) (qx g) t f1 q1 ht) ?_;refine A1 ?_;refine Rs 27 ?_ ?_<;>intro haQ
 ·have hsx:decide (wJ (qG (qx f) (qx g)) t=⟨0,0,0⟩)=true:=haQ;refine xg 5 0 ?_;refine xg 7 0 ?_;refine L9 3 0 ?_;refine Pc (zh (qy f) (qy g) t f2 q2 ht) ?_;refine zU ?_;rw[<-qcT,hsx,Bool.true_and]
 ·have hsx:decide (wJ (qG (qx f) (qx g)) t=⟨0,0,0⟩)=false:=haQ;refine oJ ?_;rw[<-qcT,hsx,Bool.false_and]
def O4(f:Ln)(t:Rl)(hf:jI f<=10000:=by omega)(ht:eU t<=10000:=by omega):aG Tryz.prog 313 #[.agg #[],AU f,RV t] (AU (jE f t)):=by
 have f1:=qak hf;have f2:=qal hf;obtain⟨e1,e2,e3,e4⟩:=qq1 f t;refine pB3 29 Tryz.func313 fun w=>?_;refine qac fun g0=>?_;refine Bp 16 (fun g1=>?_);refine Bp 9 (fun g2=>?_);refine Al 16 z98 (fun g3=>?_);refine A4 ?_;refine L16 1 0 ?_;refine Pc (nM f) ?_;refine A3 ?_;refine Al 12 Vf (fun g4=>?_);refine Al 12 Vf (fun g5=>?_);refine Ss 4 ?_;refine Ss 5 ?_;refine A3 ?_;refine Dp [] [0,1,3,4,2,5,6,7] ?_;refine xg 4 0 ?_;refine L9 2 0 ?_;refine xg 5 0 ?_;refine L9 2 0 ?_;refine Pc (o9 (qx f) t) ?_;refine Pc (o9 (qy f) t) ?_;refine Ss 4 ?_;refine Ss 5 ?_;refine A5 ?_;refine L4 4 0 ?_;refine A1 ?_;refine L4 4 4 ?_;refine A1 ?_;refine L4 5 0 ?_;refine A1 ?_;refine L4 5 4 ?_;refine(Bu [(0,_),(1,_),(2,_),(3,_)]) (qgm) ?_;refine oK ?_;refine qtc 3 ?_;show Ending.returned (AU ⟨(wJ (qx f) t).c0,(wJ (qx f) t).c1,(wJ (qy f) t).c0,(wJ (qy f) t).c1⟩)=_;rw[e1,e2,e3,e4]
end Go.Proofs.YtaffcpfhedadhaaGreatDoor
namespace Go.Via
open Go
theorem qeS(x y:Rat):AU ⟨x,0,y,0⟩= .agg #[.bool (decide (x.num<0)),.string (bH x.num.natAbs),.bool false,.string (dm x),aQ,aS,aQ,aS,.bool (decide (y.num<0)),.string (bH y.num.natAbs),.bool false,.string (dm y),aQ,aS,aQ,aS]:=by
 unfold AU;have e1:decide ((0:Rat).num<0)=false:=au
 have e2:bH (0:Rat).num.natAbs=⟨#[]⟩:=iy;have e3:dm (0:Rat)=⟨#[]⟩:=rfl;simp only[e1,e2,e3]
end Go.Via
namespace Go.Proofs.YtaffcpfhedadhaaGreatDoor
open Go Go.RowKit Go.Via
def wU(t x y:Int)(ht1: -9223372036854775808<=t:=by omega)(ht2:t<=9223372036854775807:=by omega)(hx1: -9223372036854775808<=x:=by omega)(hx2:x<=9223372036854775807:=by omega)(hy1: -9223372036854775808<=y:=by omega)(hy2:y<=9223372036854775807:=by omega):aG Tryz.prog 84 #[.int .i64 t,.int .i64 x,.int .i64 y] (.agg #[.bool (decide (((t:Rat)).num<0)),.string (bH ((t:Rat)).num.natAbs),.bool false,.string (dm ((t:Rat))),.bool (decide (((x:Rat)).num<0)),.string (bH ((x:Rat)).num.natAbs),.bool false,.string (dm ((x:Rat))),.bool (decide (((y:Rat)).num<0)),.string (bH ((y:Rat)).num.natAbs),.bool false,.string (dm ((y:Rat)))]):=by
 refine pB3 15 Tryz.func84 fun w=>?_;refine A2 ?_;refine Al 12 qnb (fun g0=>?_);refine A5 ?_;refine Pc (fF t ht1 ht2) ?_;refine A1 ?_;refine Pc (fF x hx1 hx2) ?_;refine A1 ?_;refine Pc (fF y hy1 hy2) ?_;refine(Bu [(0,_),(1,_)]) (qnh) ?_;refine(Bu [(0,_),(1,_)]) (qni) ?_;refine Ss 0 ?_;refine A3 ?_;refine Ue 0 ?_;exact rfl
def ER(x y:Rat):aG Tryz.prog 88 #[.agg #[.bool (decide ((x).num<0)),.string (bH (x).num.natAbs),.bool false,.string (dm (x)),.bool (decide ((y).num<0)),.string (bH (y).num.natAbs),.bool false,.string (dm (y))]] (AU ⟨x,0,y,0⟩):=by
 refine vC 8 Tryz.func88 fun w=>?_;refine A2 ?_;refine Bp 8 (fun g0=>?_);refine Al 16 z98 (fun g1=>?_);refine A5 ?_;refine L4 0 0 ?_;refine oM ?_;refine(Bu [(0,_),(2,_)]) (qdB) ?_;refine mY ?_;refine qtc 1 ?_;rw[qeS]
end Go.Proofs.YtaffcpfhedadhaaGreatDoor
namespace Go.Via
open Go
def qL(n e:Int)(up dn:Nat):Rat:=Rat.divInt (n*256^(up%9)) ((if e=0 then 1 else e)*256^(dn%9))
abbrev ICc(z:Int):List Value:=[.bool (decide (z<0)),.string (bH z.natAbs)]
def SA{n:Nat}(h:n≠0):uI n++[0]=uI (n*256):=by
 unfold uI;rw[pW (n:=n*256) ae ae,Nat.mul_mod_left,Nat.mul_div_cancel n ae,List.reverse_cons,List.map_append]
 rfl
def qcW{z n:Int}(h:z≠0)(i:Nat)(hz:z=n*256^i):[.bool (decide (z<0)),.string (lm (uI (z.natAbs*256)))]=ICc (n*256^(i+1)):=by
 have e:n*256^(i+1)=z*256:=(by rw[hz,Int.pow_succ,Int.mul_assoc]);rw[e];show[Value.bool _,Value.string (bH (z.natAbs*256))]=[Value.bool _,Value.string _];rw[Int.natAbs_mul,decide_eq_decide.2 (show z<0↔z*256<0 by omega)];rfl
def SC{z n:Int}{i:Nat}(hz:z=n*256^i)(hn1: -9223372036854775808<=n)(hn2:n<=9223372036854775807)(hi:i<=8):nb z.natAbs<=16:=by
 have h:z.natAbs<256^16:=by
  rw[hz,Int.natAbs_mul,Int.natAbs_pow];have h1:n.natAbs<=256^8-1:=ae
  have h2:(256:Int).natAbs^i<=256^8:=Nat.pow_le_pow_right au hi;have h3:=Nat.mul_le_mul h1 h2;omega
 exact iw ae h
def qkr{n e:Int}{up dn:Nat}(hn1: -9223372036854775808<=n)(hn2:n<=9223372036854775807)(he1: -9223372036854775808<=e)(he2:e<=9223372036854775807):bY (qL n e up dn)<=40:=by
 have h1:=SC (z:=n*256^(up%9)) rfl hn1 hn2 ae;have h2:=SC (z:=(if e=0 then 1 else e)*256^(dn%9)) (n:=if e=0 then 1 else e) rfl (by split<;>omega) (by split<;>omega) ae
 exact Nat.le_trans (vJ (a:=16) (b:=16) h1 h2 ae) ae
def qym{e E:Int}(h:E=if e=0 then 1 else e):E≠0:=by subst h;split<;>omega
def qks{E:Int}(h:E≠0)(j:Nat):E*256^j≠0:=Int.mul_ne_zero h (Int.pow_ne_zero ae)
def qv4{i:Nat}(h:i<9):IntKind.u8.wrap ((i:Int)+1)=((i+1:Nat):Int):=by exact Yv
end Go.Via
namespace Go.Via
open Go
def sgR(x:Rl):Int:=pU x.p (jD x) x.r
def lT(x:Rl):Int:=
 (if x.n=true then x.p.num*x.r.den-((bU ((x.p.den*x.p.den)*(x.r.num.natAbs*x.r.den)):Nat)+1) else x.p.num*x.r.den+(bU ((x.p.den*x.p.den)*(x.r.num.natAbs*x.r.den)):Nat))/((x.p.den*x.r.den:Nat):Int)
def dG(q:Qd):List Rl:=
 if q.c2=0 then(if q.c1=0 then[] else[rl (-(q.c0/q.c1))]) else
 let h:=q.c1/(-2*q.c2)
 let r:=h*h-q.c0/q.c2
 if r<0 then[] else if r=0 then[rl h] else[mkR h (-1) r,mkR h 1 r]
def uF(x y:Rl):Option Rat:=
 if bK x=true∧bK y=true∧eU x<=1000∧eU y<=1000∧¬sgR x<0∧0<sgR y∧0<aY y (rl ((lT x+1:Int):Rat))∧x.n=false∧ji (lT x)<=4000 then some ((lT x+1:Int):Rat) else none
def Ir(sm:Rl->Rl->Option Rat)(q:Qd)(i:Iv):Option Int:=
 if aY i.f i.t<0 then(sm i.f i.t).bind fun r=>if bY r<=5000 then some (sgR (zN q (rl r))) else none else none
def gG(sm:Rl->Rl->Option Rat)(q:Qd)(i:Iv):List Rl->Iv->List (Iv×Int)->Option (List (Iv×Int))
 |[],rest,out=>if ja rest=true then(Ir sm q rest).map fun s=>out++[(rest,s)] else some out
 |r::rs,rest,out=>
  if Jl i r=false then gG sm q i rs rest out else
  if aY rest.f r<0 then(Ir sm q ⟨rest.f,r,rest.fo,true⟩).bind fun s=>gG sm q i rs ⟨r,rest.t,true,rest.tp⟩ (out++[(⟨rest.f,r,rest.fo,true⟩,s),(⟨r,r,false,false⟩,0)])
  else gG sm q i rs ⟨r,rest.t,true,rest.tp⟩ (out++[(⟨r,r,false,false⟩,0)])
def qyn(l:List Iv)(i:Iv):List Iv:=match l.getLast? with
 |some u=>l.dropLast++[⟨u.f,i.t,u.fo,i.tp⟩]
 |none=>l
def nO(a b c:Bool)(s:Int):Bool:=if s<0 then a else if s=0 then b else c
def oO(w:Int->Bool):List (Iv×Int)->List Iv->Bool->List Iv
 |[],out,_=>out
 |p::ps,out,before=>if w p.2=true then oO w ps (if before=true then qyn out p.1 else out++[p.1]) true else oO w ps out false
def uy(sm:Rl->Rl->Option Rat)(w:Int->Bool)(q:Qd)(i:Iv):Option (List Iv):=(gG sm q i (dG q) i []).map fun l=>oO w l [] false
def O5(sm:Rl->Rl->Option Rat)(r:Rat):List (Iv×Qd)->Option (List Iv)
 |[]=>some []
 |x::l=>(uy sm (nO false false true) (qG x.2 ⟨r*r,0,0⟩) x.1).bind fun a=>(O5 sm r l).map fun b=>a++b
end Go.Via
