/-
  Part 34 (chapter 32): lemmas, walks. Each theorem states its own conditions.
-/
import Derived.Lib.Repeat
import Derived.Shelf.SlSortCmp.WholeK
import Derived.Shelf.SlSortCmp.NoneTotal
import Derived.Sort.Grow
import Derived.Sort.EncStr
import Derived.Test.YtaffcpfhedadhaaGreatDoorA26
import Derived.Test.YtaffcpfhedadhaaGreatDoorA32
set_option linter.all false
set_option maxRecDepth 20000
set_option maxHeartbeats 20000000
section
variable{P Q:Prop}{T:Type}{R:T->Prop}
def qpH(h:P:=by
 refine KH (X:={z:Option Nat×Nat×Nat×Nat // 0+k+1+(o.length-k)<=z.2.2.1∧z.2.2.1*9<=z.2.1}) (l':=[⟨_,_,_,_,_,_⟩,⟨_,_,_,_,_,_⟩,⟨_,_,_,_,_,_⟩,⟨_,_,_,_,_,_⟩,⟨_,_,_,_,_,_⟩,⟨_,_,_,_,_,_⟩,⟨_,_,_,_,_,_⟩,⟨_,_,_,_,_,_⟩]) (fun⟨⟨rb,rn,rc,gx⟩,rh,rhn⟩=>[(0,ay lb 0 l.length lc),(3,ay rb 0 (0+k+1+(o.length-k)) rc),(4,bG i)]) (fun⟨⟨rb,rn,rc,gx⟩,rh,rhn⟩=>[⟨lb,38,ai je l,lN,false⟩,⟨ob,38,ai je o,oN,true⟩,⟨rb,38,(ai je (o.take k)++je x)++ai je (o.drop k),rn,true⟩,⟨some gx,38,je x,9,true⟩]) [1,2,3,5,6,11,12,13] 8 mixed ak rfl ?_ ?_
 ·exact qrM
 rintro⟨⟨rb,rn,rc,gx⟩,rh,rhn⟩;show At _ ⟨62,[(0,ay lb 0 l.length lc),(3,ay rb 0 (0+k+1+(o.length-k)) rc),(4,bG i)],[⟨lb,38,ai je l,lN,false⟩,⟨ob,38,ai je o,oN,true⟩,⟨rb,38,(ai je (o.take k)++je x)++ai je (o.drop k),rn,true⟩,⟨some gx,38,je x,9,true⟩]⟩ _;refine A4 ?_;refine dP ?_;exact Nl ⟨⟨i+1,o.take k++x::o.drop k,rb,rn,rc⟩,hlt,by show _=eY (l.take (i+1));rw[Vm hx,<-hI,hins],by have:=rh;simp at this ⊢;omega,rhn⟩ (hμ:=nM) (ht:=⟨rfl,(aU rfl (by show ay rb 0 (0+k+1+(o.length-k)) rc=ay rb 0 (o.take k++x::o.drop k).length rc;congr 1;simp;omega)),rfl,trivial⟩) (hL:=(aA [some 0,some 2] ⟨pR,⟨_,rfl,bn (by rw[su,gY,List.append_assoc])⟩,trivial⟩ rfl rfl))):=h
def qrM(h:P:=by
 refine A2 ?_;refine xM k CP dZ rfl rfl rfl rfl ae ae rfl ?_;refine A4 ?_;refine Ub k CP dZ rfl rfl rfl rfl ae rfl rfl rfl ?_;refine A1 ?_
 repeat' first
  |exact⟨⟨(r3.b,r3.n,r3.cap,g1),r3.h,r3.hn⟩,rfl,⟨rfl,rfl,rfl,trivial⟩,qfY⟩
  |exact⟨⟨(r3.b,r3.n,r3.cap,g0),r3.h,r3.hn⟩,rfl,⟨rfl,rfl,rfl,trivial⟩,qfY⟩
  |refine Qj ?_
  |refine JU rfl rfl rfl ?_
  |refine(Bl 9 [(0,_)]) (Qw) (fun g1=>?_)
  |refine iK (s:=9) (len:=0+k) (n2:=1) 2 3 (je x) (fun r2=>[_,_,⟨r2.b,38,ai je (o.take k)++je x,r2.n,true⟩,_]) CP TU rfl rfl rfl rfl rfl rfl rfl rfl rfl rfl (by rw[iD.lenTake hk,Nat.zero_add]) r.h r.hn (.inr ⟨_,rfl⟩) rfl rfl (iD.one x) ae (fun _=>rfl) (fun r2=>?_)
  |refine(Qo (s:=9) (len:=0+k+1) 2 1 (ai je (o.drop k)) (fun r3=>[_,_,⟨r3.b,38,(ai je (o.take k)++je x)++ai je (o.drop k),r3.n,true⟩,_]) CP TU) qfZ r2.h r2.hn XI (iD.dropT h3 hk) (iD.lenDrop o k) (iD.ones _) (fun r3=>?_)
  |refine iK (s:=9) (len:=0) 2 1 (ai je (o.take k)) (fun r=>[_,_,⟨r.b,38,ai je (o.take k),r.n,true⟩]) CP TU rfl rfl rfl rfl rfl rfl rfl rfl rfl rfl rfl (Nat.le_refl _) (Nat.le_refl _) (hobs.imp (fun e=>ae) id) (iD.takeR o k) (iD.lenTake hk) (iD.ones _) ae (fun _=>rfl) (fun r=>?_)
  |refine aG (v:=RV x) 0 ((i)*9) _ rfl rfl rfl rfl dZ (iD.sub hx 0 9 ax) rfl ax rfl ?_
  |refine(Bl 0 []) (YJ) (fun g0=>?_)
  |refine aI 0 ((i)*9) CP dZ rfl rfl rfl rfl rfl ae ae (iD.ne ax ae) Hw ?_
  |refine iK (s:=9) (len:=0) 2 1 (ai je (o.take k)) (fun r=>[_,_,⟨r.b,38,ai je (o.take k),r.n,true⟩,_]) CP TU rfl rfl rfl rfl rfl rfl rfl rfl rfl rfl rfl (Nat.le_refl _) (Nat.le_refl _) (hobs.imp (fun e=>ae) id) (iD.takeR o k) (iD.lenTake hk) (iD.ones _) ae (fun _=>rfl) (fun r=>?_)
  |refine(Bl 9 [(0,_)]) (Qw) (fun g0=>?_)
  |refine(Bl 0 []) (YJ) (fun g1=>?_)
  |refine iK (s:=9) (len:=0) 3 1 (ai je (o.take k)) (fun r=>[_,_,_,⟨r.b,38,ai je (o.take k),r.n,true⟩]) CP TU rfl rfl rfl rfl rfl rfl rfl rfl rfl rfl rfl (Nat.le_refl _) (Nat.le_refl _) (hobs.imp (fun e=>ae) id) (iD.takeR o k) (iD.lenTake hk) (iD.ones _) ae (fun _=>rfl) (fun r=>?_)
  |refine iK (s:=9) (len:=0+k) (n2:=1) 3 2 (je x) (fun r2=>[_,_,_,⟨r2.b,38,ai je (o.take k)++je x,r2.n,true⟩]) CP TU rfl rfl rfl rfl rfl rfl rfl rfl rfl rfl (by rw[iD.lenTake hk,Nat.zero_add]) r.h r.hn (.inr ⟨_,rfl⟩) rfl rfl (iD.one x) ae (fun _=>rfl) (fun r2=>?_)
  |refine(Qo (s:=9) (len:=0+k+1) 3 1 (ai je (o.drop k)) (fun r3=>[_,_,_,⟨r3.b,38,(ai je (o.take k)++je x)++ai je (o.drop k),r3.n,true⟩]) CP TU) qfZ r2.h r2.hn XI (iD.dropT h3 hk) (iD.lenDrop o k) (iD.ones _) (fun r3=>?_)
  |refine Qz eX ?_
  |refine jg [10] eX rfl ⟨⟨_,rfl,?_⟩,trivial⟩
  |refine jg [14] eX rfl ⟨⟨_,rfl,?_⟩,trivial⟩
  |refine jg [15] eX rfl ⟨⟨_,rfl,?_⟩,trivial⟩
  |refine jg [9] eX rfl ⟨⟨_,rfl,?_⟩,trivial⟩
  |refine jg [4] eX rfl ⟨⟨_,rfl,?_⟩,trivial⟩
  |refine jg [8] eX rfl ⟨⟨_,rfl,?_⟩,trivial⟩
  |refine jg [4,9] eX rfl ⟨⟨_,rfl,?_⟩,⟨_,rfl,?_⟩,trivial⟩
  |refine jg [4,8] eX rfl ⟨⟨_,rfl,?_⟩,⟨_,rfl,?_⟩,trivial⟩
  |refine jg [0,7] eX rfl ⟨⟨_,rfl,?_⟩,⟨_,rfl,?_⟩,trivial⟩
  |refine jg [4,7] eX rfl ⟨⟨_,rfl,?_⟩,⟨_,rfl,?_⟩,trivial⟩
  |refine jg [7] eX rfl ⟨⟨_,rfl,?_⟩,trivial⟩
  |refine jg [0,8] eX rfl ⟨⟨_,rfl,?_⟩,⟨_,rfl,?_⟩,trivial⟩
  |refine jg [0,9] eX rfl ⟨⟨_,rfl,?_⟩,⟨_,rfl,?_⟩,trivial⟩
  |refine jg [0] eX rfl ⟨⟨_,rfl,?_⟩,trivial⟩):=h
def qlf(h:P:=by
 refine bU [14] ak ⟨⟨_,rfl,?_⟩,trivial⟩
 ·exact qpI):=h
def qpI(h:P:=by
 refine qbl (s:=52) (len:=o.length) (n2:=1) 2 4 (fun r=>[_,_,⟨some r.g,151,ai Xa o++Xa (⟨fC x.i y.i,x.f,y.f⟩),r.n,true⟩,_,_]) qoW qnJ rfl rfl rfl rfl rfl rfl rfl rfl rfl rfl rfl rfl (QY.length o) h3 h4 rfl (QY.one (⟨fC x.i y.i,x.f,y.f⟩)) ae (fun _=>rfl) (fun r=>?_);refine A1 ?_;refine bU [15] ak ⟨⟨_,rfl,?_⟩,trivial⟩
 ·exact qpJ):=h
def qpJ(h:P:=by
 refine A2 ?_;refine GN rfl ?_;refine A2 ?_;refine Di [] ?_;refine qfQ ?_;refine Pc (vI x.i y.i hxs hys) ?_;refine A2 ?_;refine Cd ?_ ?_<;>intro hdQ
 ·have hef:Ez x y=true:=hdQ;refine A2 ?_;refine Ar (((i+1:Nat):Int)) ?_;refine A4 ?_;exact Nl ⟨⟨i+1,k,o++[⟨fC x.i y.i,x.f,y.f⟩],some r.g,r.n,r.cap⟩,hlt,hk,by rw[<-hI,qf2 hx hy hef,ZX hok,List.append_assoc],lq,r.hn,by show(o++[_]).length<=i+1+k;rw[List.length_append];show o.length+1<=i+1+k;omega⟩ (hμ:=qfT) (ht:=⟨rfl,rfl,(aU rfl lT),rfl,rfl,trivial⟩) (hL:=(aA [some 0,some 1,some 2] ⟨pR,pR,⟨_,rfl,bn lU⟩,trivial⟩ rfl rfl))
 ·have hef:Ez x y=false:=hdQ;refine A2 ?_;refine Ar (((k+1:Nat):Int)) ?_;refine A4 ?_;exact Nl ⟨⟨i,k+1,o++[⟨fC x.i y.i,x.f,y.f⟩],some r.g,r.n,r.cap⟩,hi,hlk,by rw[<-hI,qf3 hx hy hef,ZX hok,List.append_assoc],lq,r.hn,by show(o++[_]).length<=i+(k+1);rw[List.length_append];show o.length+1<=i+(k+1);omega⟩ (hμ:=qfU) (ht:=⟨rfl,rfl,(aU rfl lT),rfl,rfl,trivial⟩) (hL:=(aA [some 0,some 1,some 2] ⟨pR,pR,⟨_,rfl,bn lU⟩,trivial⟩ rfl rfl))):=h
def ZR(h:P:=by
 refine A1 ?_;refine bU [14] ak ⟨⟨_,rfl,?_⟩,trivial⟩
 ·refine A2 ?_;refine GN rfl ?_;refine A4 ?_;refine dP ?_;exact Nl ⟨⟨i+1,o++[x],some r.g,r.n,r.cap⟩,hlt,by show o++[x]=l.take (i+1);rw[<-fJ hx,<-hI],lq,r.hn⟩ (hμ:=nM) (ht:=⟨rfl,(aU rfl lT),rfl,trivial⟩) (hL:=(aA [some 0,some 1] ⟨pR,⟨_,rfl,bn lU⟩,trivial⟩ rfl rfl))):=h
def IG(h:P:=by refine E0 ?_;exact eB (by unfold Xc;first|(simp_all;done)|(simp_all;omega)|(simp_all;intros;omega))):=h
def qlg(h:P:=by refine A2 ?_;refine L10 5 0 ?_;refine A1 ?_;refine L10 7 0 ?_;refine Pc (Ht fb x.1) ?_;refine(Bl 20 [(0,_)]) (jh) (fun g4=>?_);refine(Qa (s:=20) (len:=q.length) (n2:=1) 6 8 (fun r=>[_,_,_,_,_,_,⟨some r.g,61,ai aO q++aO (NK fb x.1),r.n,true⟩,_,_]) SC Qx) (bY.length q) h5 h6 (bY.one (NK fb x.1)) (fun r=>?_);refine oJ ?_;refine dP ?_;exact Nl ⟨⟨i+1,m+x.2.1,n+x.2.2,false,fb,q++[NK fb x.1],some r.g,r.n,r.cap⟩,hlt,MO,MP,by rw[hI2,qgi hx hfar hnow];rw[hin,List.append_assoc];rfl,by rw[List.length_append];exact Nat.succ_le_succ hq,lq,r.hn⟩ (hμ:=MQ) (ht:=⟨rfl,rfl,(aU rfl lT),rfl,rfl,(aU rfl (congrArg Value.bool hnow)),rfl,rfl,rfl,trivial⟩) (hL:=(aA [some 0,some 1,some 2,some 3,some 4,some 5,some 6] ⟨pR,pR,pR,pR,pR,pR,⟨_,rfl,bn lU⟩,trivial⟩ rfl rfl))):=h
def ZT(h:P:=by refine A5 ?_;refine dP ?_;exact Nl ⟨⟨i+1,gU (gU m x.a) x.b⟩,hlt,by show _=(l.take (i+1)).foldl AU (rl 0);rw[<-fJ hx,List.foldl_append,<-hI];rfl⟩ (hμ:=nM) (hL:=(aA [some 0,some 1,some 2] ⟨pR,pR,⟨_,rfl,bn (by rw[hm2]<;>rfl)⟩,trivial⟩ rfl rfl))):=h
def PR(h:P:=by refine aK rfl (au rfl) (fun w hL=>⟨?_,hL.below⟩);exact congrArg (fun b=>Ending.returned (.bool b)) (by unfold mF;first|(simp_all;done)|(revert hb0;cases a<;>cases b<;>simp_all))):=h
def qlh(h:P:=by
 refine bU [12] ak ⟨⟨_,rfl,?_⟩,trivial⟩
 ·refine(Qa (s:=9) (len:=o.length) (n2:=2) 1 2 (fun r=>[_,⟨some r.g,38,ai je o++(je x.f++je x.t),r.n,true⟩,_]) CP TU) (iD.length o) h3 h4 (fun v hv=>List.all_eq_true.1 (show(je x.f++je x.t).all (·.oneCell')=true from rfl) v hv) (fun r=>?_);refine A1 ?_;refine bU [13] ak ⟨⟨_,rfl,?_⟩,trivial⟩
  ·refine A2 ?_;refine GN rfl ?_;refine A4 ?_;refine dP ?_;exact Nl ⟨⟨i+1,o++[x.f,x.t],some r.g,r.n,r.cap⟩,hlt,by show o++[x.f,x.t]=bW (l.take (i+1));rw[<-fJ hx,wJ,<-hI];rfl,lq,r.hn⟩ (hμ:=nM) (ht:=⟨rfl,(aU rfl lT),rfl,trivial⟩) (hL:=(aA [some 0,some 1] ⟨pR,⟨_,rfl,bn XG⟩,trivial⟩ rfl rfl))):=h
def qfQ(q:Q)(h:bu Q->P:=by intro q_;refine A2 ?_;refine MM ?_;refine Fg ((i)*36) 0 ?_;refine Hu ?_;refine A2 ?_;refine aI 1 ((k)*36) vS ww rfl rfl rfl rfl rfl ae ae (aX.ne ax ae) oD ?_;refine Fg ((k)*36) 0 ?_;refine aG (v:=fV y.i) 1 ((k)*36+0) _ rfl rfl rfl rfl mr (aX.sub hy 0 20 ax) rfl ax rfl ?_;exact q_.qq):=h ⟨q⟩
def Gf(q:Q)(h:bu Q->P:=by intro q_;refine A2 ?_;refine Nt 11 ?_;refine(Aq (n+x.2.2)) o7 ?_;refine A1 ?_;exact q_.qq):=h ⟨q⟩
def ZU(q:Q)(h:bu Q->P:=by intro q_;refine Ru ?_;refine Fg ((i)*38) 29 ?_;refine aG (v:=RV x.b) 0 ((i)*38+29) _ rfl rfl rfl rfl dZ (dS.sub hx 29 9 ax) rfl ax rfl ?_;exact q_.qq):=h ⟨q⟩
def MK(q:Q)(h:bu Q->P:=by intro q_;refine aI 0 ((i)*20) SC mr rfl rfl rfl rfl rfl ae ae (bY.ne ax ae) yZ ?_;exact q_.qq):=h ⟨q⟩
def II(q:Q)(h:bu Q->P:=by intro q_;refine A2 ?_;refine Nt 5 ?_;refine(Aq (m+x.2.1)) o7 ?_;refine A1 ?_;exact q_.qq):=h ⟨q⟩
def qli(q:Q)(h:bu Q->P:=by intro q_;refine L9 4 0 ?_;refine aI 3 ((out.length-1)*20) SC mr rfl rfl rfl rfl rfl ae ae (bY.ne ax ae) yZ ?_;refine Fg ((out.length-1)*20) 9 ?_;refine qY rfl 3 ((out.length-1)*20+9) [_,_,_,_,_] (ai aO (out.set (out.length-1) ⟨j.f,t,j.fo,j.tp⟩)) rfl rfl rfl rfl dZ rfl (by rw[Nat.ble_eq,bY.length];show(out.length-1)*20+9+9<=(out).length*20;(try simp only[List.length_set]);omega) rfl (bY.setf hj rfl ax) rfl ?_;refine aI 3 ((out.length-1)*20) SC mr rfl rfl rfl rfl rfl ae ae (bY.ne ax XH) yZ ?_;refine Fg ((out.length-1)*20) 19 ?_;exact q_.qq):=h ⟨q⟩
def ML(h:P:=by refine dP ?_;exact Nl ⟨i+1,hlt,by rw[hI,Bg hx];simp only[hno,Bool.false_or]⟩ (hL:=dR.auto)):=h
def qlj(h:P:=by
 refine A9 ?_;refine Rs 17 ?_ ?_<;>intro haQ
 ·refine nT ?_;refine Rs 29 ?_ ?_<;>intro hbQ
  ·refine Gw ?_;exact IG
  ·refine A3 ?_;refine Rs 32 ?_ ?_<;>intro hcQ
   ·refine lD ?_;exact IG
   ·refine lD ?_;exact IG
 ·refine A3 ?_;refine Rs 20 ?_ ?_<;>intro hbQ
  ·refine A6 ?_;refine Rs 26 ?_ ?_<;>intro hcQ
   ·refine A3 ?_;refine Rs 29 ?_ ?_<;>intro hdQ
    ·refine Gw ?_;exact IG
    ·refine A3 ?_;refine Rs 32 ?_ ?_<;>intro heQ
     ·refine lD ?_;exact IG
     ·refine lD ?_;exact IG
   ·refine SG ?_;exact IG
  ·refine A22 ?_;exact IG):=h
def qlk(h:P:=by refine A2 ?_;refine L10 7 0 ?_;refine Ss 5 ?_;refine lD ?_;refine dP ?_;exact Nl ⟨⟨i+1,m+x.2.1,n+x.2.2,true,x.1,q,qb,qN,qc⟩,hlt,MO,MP,XJ,Nat.le_succ_of_le hq,h5,h6⟩ (hμ:=MQ) (ht:=⟨rfl,rfl,rfl,rfl,rfl,(aU rfl (congrArg Value.bool hnow)),rfl,rfl,rfl,trivial⟩) (hL:=dR.auto)):=h
def qll(h:P:=by refine lD ?_;refine dP ?_;exact Nl ⟨⟨i+1,m+x.2.1,n+x.2.2,false,fb,q,qb,qN,qc⟩,hlt,MO,MP,XJ,Nat.le_succ_of_le hq,h5,h6⟩ (hμ:=MQ) (ht:=⟨rfl,rfl,rfl,rfl,rfl,(aU rfl (congrArg Value.bool hnow)),rfl,rfl,rfl,trivial⟩) (hL:=dR.auto)):=h
def qlm(h:P:=by refine SG ?_;refine dP ?_;exact Nl ⟨⟨i+1,m+x.2.1,n+x.2.2,true,fb,q,qb,qN,qc⟩,hlt,MO,MP,XJ,Nat.le_succ_of_le hq,h5,h6⟩ (hμ:=MQ) (ht:=⟨rfl,rfl,rfl,rfl,rfl,(aU rfl (congrArg Value.bool hnow)),rfl,rfl,rfl,trivial⟩) (hL:=dR.auto)):=h
def qfR(q:Q)(h:bu Q->P:=by intro q_;refine A2 ?_;refine aI 1 ((k)*9) CP dZ rfl rfl rfl rfl rfl ae ae (iD.ne ax ae) Hw ?_;refine aG (v:=RV y) 1 ((k)*9) _ rfl rfl rfl rfl dZ (iD.sub hy 0 9 ax) rfl ax rfl ?_;refine A2 ?_;refine aI 0 ((i)*9) CP dZ rfl rfl rfl rfl rfl ae ae (iD.ne ax ae) Hw ?_;refine aG (v:=RV x) 0 ((i)*9) _ rfl rfl rfl rfl dZ (iD.sub hx 0 9 ax) rfl ax rfl ?_;refine Pc (fZ y x hys hxs) ?_;refine A4 ?_;exact q_.qq):=h ⟨q⟩
def MM(q:Q)(h:bu Q->P:=by intro q_;refine aI 0 ((i)*36) vS ww rfl rfl rfl rfl rfl ae ae (aX.ne ax ae) oD ?_;exact q_.qq):=h ⟨q⟩
def Hu(q:Q)(h:bu Q->P:=by intro q_;refine aG (v:=fV x.i) 0 ((i)*36+0) _ rfl rfl rfl rfl mr (aX.sub hx 0 20 ax) rfl ax rfl ?_;exact q_.qq):=h ⟨q⟩
def MN(q:Q)(h:bu Q->P:=by intro q_;refine aG (v:=yV x.f) 0 ((i)*36+20) _ rfl rfl rfl rfl IL (aX.sub hx 20 16 ax) rfl ax rfl ?_;exact q_.qq):=h ⟨q⟩
def Ru(q:Q)(h:bu Q->P:=by intro q_;refine aI 0 ((i)*38) u32 Ag rfl rfl rfl rfl rfl ae ae (dS.ne ax ae) Bi ?_;exact q_.qq):=h ⟨q⟩
def Rw(h:P:=by have:=of_decide_eq_true hb1;omega):=h
def Rx(h:P:=by have:=of_decide_eq_false hb1;omega):=h
def Hw(h:P:=by show 0+Int.toNat _*9=_;omega):=h
def qfS(h:P:=by rw[Nat.ble_eq,bY.length];show(out.length-1)*20+19+1<=(out.set (out.length-1) ⟨j.f,t,j.fo,j.tp⟩).length*20;(try simp only[List.length_set]);omega):=h
def Bh(h:P:=by have e:=hdQ;simpa using e):=h
def XE(h:P:=by show(eY (bW (a++b))).length-(i+1)<(eY (bW (a++b))).length-i;omega):=h
def qfT(h:P:=by show a.length+b.length-(i+1)-k<a.length+b.length-i-k;omega):=h
def qfU(h:P:=by show a.length+b.length-i-(k+1)<a.length+b.length-i-k;omega):=h
def qfV(h:P:=by rw[hm1];exact ZV (of_decide_eq_true hcQ)):=h
def qfW(h:P:=by rw[hm1];exact ZW (of_decide_eq_false hcQ)):=h
def Bi(h:P:=by show 0+Int.toNat _*38=_;omega):=h
def yZ(h:P:=by show 0+Int.toNat _*20=_;omega):=h
def xC(h:P:=by have e:=hcQ;simpa using e):=h
def Ry(h:P:=by dsimp only;decide):=h
def Rz(h:P:=by unfold iT;rw[h1,h2,h3];rfl):=h
def qfX(h:P:=by rw[hI];simp only[List.length_append,Z7,Z8,List.length_take];omega):=h
def XF(h:P:=by show a.length-(i+1)<a.length-i;omega):=h
def XG(h:P:=by rw[su];rfl):=h
def MO(h:P:=by show-((i+1:Nat):Int)<=m+x.2.1∧m+x.2.1<=((i+1:Nat):Int);omega):=h
def MP(h:P:=by show-((i+1:Nat):Int)<=n+x.2.2∧n+x.2.2<=((i+1:Nat):Int);omega):=h
def MQ(h:P:=by show l2.length-(i+1)<l2.length-i;omega):=h
def RD(h:P:=by have e:=hfQ;simpa using e):=h
def RF(h:P:=by rw[hnow];decide):=h
def RG(h:P:=by have e:=heQ;simpa using e):=h
def XH(h:P:=by simp only[List.length_set];omega):=h
def XI(h:P:=by exact(hobs.imp (fun e=>fK) id)):=h
def qfY(h:P:=by first|exact List.Perm.refl _|exact((List.Perm.swap _ _ _).cons _).cons _):=h
def qfZ(h:P:=by exact(by rw[List.length_append,iD.lenTake hk,iD.len];omega)):=h
def XJ(h:P:=by rw[hI2,qgi hx hfar hnow];rw[hin];rfl):=h
end
namespace Go.Proofs.YtaffcpfhedadhaaGreatDoor
open Go Go.RowKit Go.Via
def fZ(x y:Rl)(hx:gJ x<=50000:=by omega)(hy:gJ y<=50000:=by omega):aP Tryz.prog 20 #[RV x,RV y] (.int .i64 (bQ x y)):=by
 have x1:=Nat.le_trans (sF x) hx;have x2:=Nat.le_trans (yh x) hx;have y1:=Nat.le_trans (sF y) hy;have y2:=Nat.le_trans (yh y) hy;have l1:=iq x.p y.p;have hcm:=qjh x y;refine oz 26 Tryz.func20 fun w=>?_;refine A2 ?_;refine Bp 9 (fun g0=>?_);refine Bp 9 (fun g1=>?_);refine A4 ?_;refine Dp [] [0,1,2,3,5,7,8,9,11,12,4,6,10,13,14] ?_;refine A1 ?_;refine L4 0 0 ?_;refine A1 ?_;refine L4 1 0 ?_;refine L9 0 0 ?_;refine A1 ?_;refine L4 0 4 ?_;refine L9 1 0 ?_;refine A1 ?_;refine L4 1 4 ?_;refine Pc (kU x.p y.p) ?_;refine Pc (F6 x) ?_;refine Pc (F6 y) ?_;refine Pc (N8 (x.p-y.p) (nC x) x.r (nC y) y.r (qfG x) (qfG y)) ?_;refine nT ?_;refine Cd ?_ ?_<;>intro haQ
 ·refine A8 ?_;refine E0 ?_;rw[<-hcm,qeK,if_pos (of_decide_eq_true haQ)]
 ·refine A7 ?_;refine Cd ?_ ?_<;>intro hbQ
  ·refine A8 ?_;refine E0 ?_;rw[<-hcm,qeK,if_neg (of_decide_eq_false haQ),if_pos (of_decide_eq_true hbQ)]
  ·refine A9 ?_;refine E0 ?_;rw[<-hcm,qeK,if_neg (of_decide_eq_false haQ),if_neg (of_decide_eq_false hbQ)]
def XK(i:Iv)(t:Rl)(hi:jH i<=50000:=by omega)(ht:gJ t<=50000:=by omega):aP Tryz.prog 52 #[fV i,RV t] (.bool (Xc i t)):=by
 have i1:=Nat.le_trans (jW i) hi;have i2:=Nat.le_trans (jX i) hi;refine oz 39 Tryz.func52 fun w=>?_;refine A2 ?_;refine Bp 20 (fun g0=>?_);refine Bp 9 (fun g1=>?_);refine A4 ?_;refine Dp [] [0,1,2,4,5,6,3,7,8,9] ?_;refine A1 ?_;refine L9 0 0 ?_;refine L9 1 0 ?_;refine L9 1 0 ?_;refine A1 ?_;refine L9 0 9 ?_;refine Pc (fZ i.f t ae ht) ?_;refine Pc (fZ t i.t ht) ?_;exact qlj
def MR(l:List Rl)(lb:Option Nat)(lN lc:Nat)(hlc:l.length<=lc)(hln:l.length<=4000)(hsz:∀x∈l,gJ x<=50000):bZ Tryz.prog 147 [⟨lb,38,ai je l,lN,false⟩] [ay lb 0 l.length lc] (SR (eY l).length) SR.v (fun z=>[⟨z.b,38,ai je (eY l),z.n,true⟩]):=by
 refine O3 62 Tryz.func147 fun w hL0=>?_;refine QI ?_;refine El (ι:={z:Nat×List Rl×Option Nat×Nat×Nat // z.1<=l.length∧z.2.1=eY (l.take z.1)∧z.2.1.length<=z.2.2.2.2∧z.2.2.2.2*9<=z.2.2.2.1}) (fun⟨⟨i,o,ob,oN,oc⟩,hi,hI,h3,h4⟩=>([(0,ay lb 0 l.length lc),(3,ay ob 0 o.length oc),(4,bG i)],[⟨lb,38,ai je l,lN,false⟩,⟨ob,38,ai je o,oN,true⟩],l.length-i)) ⟨⟨0,[],none,0,0⟩,Nat.zero_le _,rfl,Nat.le_refl _,bI⟩ ?_ (hL:=(aA [some 0,none] ⟨pR,⟨rfl,rfl,rfl⟩,trivial⟩ rfl rfl));rintro⟨⟨i,o,ob,oN,oc⟩,hi,hI,h3,h4⟩;(try dsimp only);replace hi:i<=l.length:=hi;replace hI:o=eY (l.take i):=hI;replace h3:o.length<=oc:=h3;replace h4:oc*9<=oN:=h4
 have hos:∀y∈o,gJ y<=50000:=(by rw[hI];exact ZL (p:=fun y=>gJ y<=50000) fun y hy=>hsz y (List.mem_of_mem_take hy));have hol:o.length<=4000:=(by rw[hI];have:=Rn (l.take i);rw[List.length_take] at this;omega);refine rq 1 rfl (fun hbase=>?_);have hobs:o.length=0∨∃g,ob=some g:=sH iD ax hbase;refine A9 ?_;refine Cd ?_ ?_<;>intro haQ
 ·have hlt:i<l.length:=iL;obtain⟨x,hx⟩:∃x,l[i]? =some x:=⟨l[i],List.getElem?_eq_getElem hlt⟩;have hxs:=hsz x (List.mem_of_getElem? hx);refine oJ ?_;refine El (ι:={k:Nat // k<=o.length∧∀j y,j<k->o[j]? =some y->bQ y x<0}) (fun⟨k,hk,hall⟩=>([(0,ay lb 0 l.length lc),(3,ay ob 0 o.length oc),(4,bG i),(5,bG k)],[⟨lb,38,ai je l,lN,false⟩,⟨ob,38,ai je o,oN,true⟩],o.length-k)) ⟨0,Nat.zero_le _,fun j y hj=>absurd hj ae⟩ ?_ (hL:=dR.auto);rintro⟨k,hk,hall⟩;(try dsimp only);refine A2 ?_;refine Di [] ?_;refine A5 ?_;refine Rs 16 ?_ ?_<;>intro hbQ
  ·have hklt:k<o.length:=nG;obtain⟨y,hy⟩:∃y,o[k]? =some y:=⟨o[k],List.getElem?_eq_getElem hklt⟩;have hys:=hos y (List.mem_of_getElem? hy);refine qfR ?_;refine Cd ?_ ?_<;>intro hcQ
   ·have hylt:bQ y x<0:=of_decide_eq_true hcQ;refine A5 ?_;refine Ar (((k+1:Nat):Int)) ?_;refine A4 ?_;exact Nl ⟨k+1,hklt,fun j z hj hz=>by by_cases e:j<k;exact hall j z e hz;(have:j=k:=by omega);subst this;rw[hy] at hz;cases hz;exact hylt⟩ (hL:=dR.auto)
   ·have hyge:¬bQ y x<0:=of_decide_eq_false hcQ;refine A7 ?_;refine Di [] ?_;refine A5 ?_;refine Rs 34 ?_ ?_<;>intro hdQ
    ·refine qfR ?_;refine Cd ?_ ?_<;>intro heQ
     ·have hye:bQ y x=0:=eq_of_beq heQ;have hsame:=ZK hy hall hyge hye;refine A6 ?_;refine dP ?_;exact Nl ⟨⟨i+1,o,ob,oN,oc⟩,hlt,by show o=eY (l.take (i+1));rw[Vm hx,<-hI,hsame],h3,h4⟩ (hμ:=nM) (hL:=dR.auto)
     ·have hye:bQ y x≠0:=ne_of_beq_false heQ;have hins:=Rk (x:=x) hk hall (fun z hz=>by rw[hy] at hz;cases hz;exact⟨hyge,hye⟩);refine A2 ?_;exact qpH
    ·exfalso;have:=of_decide_eq_false hdQ;omega
  ·have hkl:k=o.length:=nH;have hins:=Rk (x:=x) hk hall (fun y hy=>absurd (List.getElem?_eq_some_iff.1 hy).1 ae);refine A21 ?_;refine Di [] ?_;refine A5 ?_;refine Rs 34 ?_ ?_<;>intro hcQ
   ·exfalso;have:=of_decide_eq_true hcQ;omega
   ·refine SG ?_;exact qpH
 ·have hge:i=l.length:=jc;subst hge;obtain rfl:o=eY l:=Bc
  exact Me
def Dy(l:List Iv)(lb:Option Nat)(lN lc:Nat)(hlc:l.length<=lc)(hln:l.length<=1000)(hsz:∀x∈l,jH x<=50000)(t:Rl)(ht:gJ t<=50000:=by omega):bZ Tryz.prog 97 [⟨lb,61,ai aO l,lN,false⟩] [ay lb 0 l.length lc,RV t] Unit (fun _=> .bool (l.any (fun i=>Xc i t))) (fun _=>[]):=by
 refine⟨ak,fun w hL0=>?_⟩;refine cB2 18 Tryz.func97 hL0 ?_;refine A2 ?_;refine Bo [_,_,_,_,_,_,_,_,_] 9 (fun g=>[_,⟨some g,38,_,9,true⟩]) (fun g0=>?_);refine lD ?_;refine El (ι:={i:Nat // i<=l.length∧l.any (fun i=>Xc i t)=(l.drop i).any (fun i=>Xc i t)}) (fun⟨i,hi,hI⟩=>([(0,ay lb 0 l.length lc),(5,.int .i64 (i:Nat)),(3,.pointer (some ⟨g0,0,none⟩))],[⟨lb,61,ai aO l,lN,false⟩,⟨some g0,38,je t,9,true⟩],l.length-i)) ⟨0,Nat.zero_le _,rfl⟩ ?_;rintro⟨i,hi,hI⟩;(try dsimp only);refine A9 ?_;refine gQ rfl (fun hb1=>?_) (fun hb1=>?_)
 ·
  have hlt:i<l.length:=Rw
  obtain⟨x,hx⟩:∃x,l[i]? =some x:=⟨l[i],List.getElem?_eq_getElem hlt⟩
  have hxs:=hsz x (List.mem_of_getElem? hx);refine dL 0 rfl (bY.ne ax ae) (fun hbs=>?_);obtain⟨gl,hgl⟩:=Option.isSome_iff_exists.1 hbs;replace hgl:lb=some gl:=hgl;subst hgl;refine A5 ?_;refine xX [] mixed ak ak ?_;refine A2 ?_;refine MK ?_;refine aG (v:=fV x) 0 ((i)*20) _ rfl rfl rfl rfl mr (bY.sub hx 0 20 ax) rfl ax rfl ?_;refine aG 1 0 [_,_,_,_,_,_,_,_,_] rfl rfl rfl rfl dZ rfl rfl rfl rfl ?_;refine Pc (XK x t hxs ht) ?_;refine A2 ?_;refine gQ rfl (fun hb2=>?_) (fun hb2=>?_)
  ·
   have hyes:Xc x t=true:=hb2;refine oJ ?_;refine aK rfl (au rfl) (fun w hL=>⟨(),?_,hL.pk []⟩);rw[hI,Bg hx,hyes];rfl
  ·
   have hno:Xc x t=false:=hb2;refine A5 ?_;exact ML
 ·
  have hge:i=l.length:=Rx
  subst hge;refine oJ ?_;refine aK rfl (au rfl) (fun w hL=>⟨(),?_,hL.pk []⟩);rw[hI,List.drop_length];rfl
def Dz(l:List Iv)(lb:Option Nat)(lN lc:Nat)(hlc:l.length<=lc)(hln:l.length<=1000)(hsz:∀x∈l,jH x<=50000)(a c:Rl)(ha:gJ a<=50000:=by omega)(hc:gJ c<=50000:=by omega):bZ Tryz.prog 98 [⟨lb,61,ai aO l,lN,false⟩] [ay lb 0 l.length lc,RV a,RV c] Unit (fun _=> .bool (l.any (fun i=>decide (bQ i.f a<=0)&&decide (bQ c i.t<=0)))) (fun _=>[]):=by
 refine⟨ak,fun w hL0=>?_⟩;refine cB3 32 Tryz.func98 hL0 ?_;refine A2 ?_;refine Bo [_,_,_,_,_,_,_,_,_] 9 (fun g=>[_,⟨some g,38,_,9,true⟩]) (fun g0=>?_);refine Bo [_,_,_,_,_,_,_,_,_] 9 (fun g=>[_,_,⟨some g,38,_,9,true⟩]) (fun g1=>?_);refine lD ?_;refine El (ι:={i:Nat // i<=l.length∧l.any (fun i=>decide (bQ i.f a<=0)&&decide (bQ c i.t<=0))=(l.drop i).any (fun i=>decide (bQ i.f a<=0)&&decide (bQ c i.t<=0))}) (fun⟨i,hi,hI⟩=>([(0,ay lb 0 l.length lc),(7,.int .i64 (i:Nat)),(4,.pointer (some ⟨g0,0,none⟩)),(5,.pointer (some ⟨g1,0,none⟩))],[⟨lb,61,ai aO l,lN,false⟩,⟨some g0,38,je a,9,true⟩,⟨some g1,38,je c,9,true⟩],l.length-i)) ⟨0,Nat.zero_le _,rfl⟩ ?_;rintro⟨i,hi,hI⟩;(try dsimp only);refine A9 ?_;refine gQ rfl (fun hb1=>?_) (fun hb1=>?_)
 ·
  have hlt:i<l.length:=Rw
  obtain⟨x,hx⟩:∃x,l[i]? =some x:=⟨l[i],List.getElem?_eq_getElem hlt⟩
  have hxs:=hsz x (List.mem_of_getElem? hx);refine dL 0 rfl (bY.ne ax ae) (fun hbs=>?_);obtain⟨gl,hgl⟩:=Option.isSome_iff_exists.1 hbs;replace hgl:lb=some gl:=hgl;subst hgl;refine A5 ?_;refine xX [] mixed ak ak ?_;refine A2 ?_;refine MK ?_;refine ji ((i)*20) 0 rfl rfl rfl mr rfl rfl ?_;refine aG (v:=RV x.f) 0 ((i)*20+0) _ rfl rfl rfl rfl dZ (bY.sub hx 0 9 ax) rfl ax rfl ?_;refine aG 1 0 [_,_,_,_,_,_,_,_,_] rfl rfl rfl rfl dZ rfl rfl rfl rfl ?_;refine Pc (fZ x.f a (Nat.le_trans (jW x) hxs) ha) ?_;refine A2 ?_;refine fB 22 rfl (fun hb2=>?_) (fun hb2=>?_)
  ·
   have hs22:bQ x.f a<=0:=of_decide_eq_true hb2;refine aG 2 0 [_,_,_,_,_,_,_,_,_] rfl rfl rfl rfl dZ rfl rfl rfl rfl ?_;refine A2 ?_;refine MK ?_;refine ji ((i)*20) 9 rfl rfl rfl mr rfl rfl ?_;refine aG (v:=RV x.t) 0 ((i)*20+9) _ rfl rfl rfl rfl dZ (bY.sub hx 9 9 ax) rfl ax rfl ?_;refine Pc (fZ c x.t hc (Nat.le_trans (jX x) hxs)) ?_;refine A4 ?_;refine gQ rfl (fun hb3=>?_) (fun hb3=>?_)
   ·
    have hs30:bQ c x.t<=0:=of_decide_eq_true hb3
    have hyes:(decide (bQ x.f a<=0)&&decide (bQ c x.t<=0))=true:=by rw[decide_eq_true hs22,decide_eq_true hs30];rfl
    refine oJ ?_;refine aK rfl (au rfl) (fun w hL=>⟨(),?_,hL.pk []⟩);rw[hI,Bg hx,hyes];rfl
   ·
    have hs30:¬bQ c x.t<=0:=of_decide_eq_false hb3
    have hno:(decide (bQ x.f a<=0)&&decide (bQ c x.t<=0))=false:=by rw[decide_eq_false hs30,Bool.and_false]
    refine A5 ?_;exact ML
  ·
   have hs22:¬bQ x.f a<=0:=of_decide_eq_false hb2
   have hno:(decide (bQ x.f a<=0)&&decide (bQ c x.t<=0))=false:=by rw[decide_eq_false hs22];rfl
   refine QI ?_;exact ML
 ·
  have hge:i=l.length:=Rx
  subst hge;refine oJ ?_;refine aK rfl (au rfl) (fun w hL=>⟨(),?_,hL.pk []⟩);rw[hI,List.drop_length];rfl
def Bj(op:Int)(a b:Bool):aP Tryz.prog 96 #[.int .i64 op,.bool a,.bool b] (.bool (mF op a b)):=by
 refine⟨ak,fun w=>?_⟩;refine cB3 25 Tryz.func96 (bg.nil w) ?_;refine A18 ?_;refine gQ rfl (fun hb0=>?_) (fun hb0=>?_)
 ·
  refine A4 ?_;refine fB 11 rfl (fun hb1=>?_) (fun hb1=>?_)
  ·
   refine A8 ?_;exact PR
  ·
   refine A8 ?_;exact PR
 ·
  refine A6 ?_;refine gQ rfl (fun hb1=>?_) (fun hb1=>?_)
  ·
   refine A4 ?_;refine fB 17 rfl (fun hb2=>?_) (fun hb2=>?_)
   ·
    refine A8 ?_;exact PR
   ·
    refine A8 ?_;exact PR
  ·
   refine A7 ?_;refine fB 21 rfl (fun hb2=>?_) (fun hb2=>?_)
   ·
    refine A7 ?_;exact PR
   ·
    refine A7 ?_;exact PR
def RH(l:List Iv)(lb:Option Nat)(lN lc:Nat)(hlc:l.length<=lc)(hln:l.length<=2000)(hsz:∀x∈l,jH x<=50000):bZ Tryz.prog 95 [⟨lb,61,ai aO l,lN,false⟩] [ay lb 0 l.length lc] (SR (eY (bW l)).length) SR.v (fun z=>[⟨z.b,38,ai je (eY (bW l)),z.n,true⟩]):=by
 refine O3 26 Tryz.func95 fun w hL0=>?_;refine QI ?_;refine El (ι:={z:Nat×List Rl×Option Nat×Nat×Nat // z.1<=l.length∧z.2.1=bW (l.take z.1)∧z.2.1.length<=z.2.2.2.2∧z.2.2.2.2*9<=z.2.2.2.1}) (fun⟨⟨i,o,ob,oN,oc⟩,hi,hI,h3,h4⟩=>([(0,ay lb 0 l.length lc),(3,ay ob 0 o.length oc),(4,bG i)],[⟨lb,61,ai aO l,lN,false⟩,⟨ob,38,ai je o,oN,true⟩],l.length-i)) ⟨⟨0,[],none,0,0⟩,Nat.zero_le _,rfl,Nat.le_refl _,bI⟩ ?_ (hL:=(aA [some 0,none] ⟨pR,⟨rfl,rfl,rfl⟩,trivial⟩ rfl rfl));rintro⟨⟨i,o,ob,oN,oc⟩,hi,hI,h3,h4⟩;(try dsimp only);replace hi:i<=l.length:=hi;replace hI:o=bW (l.take i):=hI;replace h3:o.length<=oc:=h3;replace h4:oc*9<=oN:=h4
 have hol:o.length<=100000:=(by rw[hI,vF,List.length_take];omega);refine A9 ?_;refine Cd ?_ ?_<;>intro haQ
 ·have hlt:i<l.length:=iL;obtain⟨x,hx⟩:∃x,l[i]? =some x:=⟨l[i],List.getElem?_eq_getElem hlt⟩;refine dL 0 rfl (bY.ne ax ae) (fun hbs=>?_);obtain⟨gl,hgl⟩:=Option.isSome_iff_exists.1 hbs;replace hgl:lb=some gl:=hgl;subst hgl;refine A4 ?_;refine qK (l':=[⟨_,_,_,_,_,_⟩,⟨_,_,_,_,_,_⟩,⟨_,_,_,_,_,_⟩,⟨_,_,_,_,_,_⟩,⟨_,_,_,_,_,_⟩,⟨_,_,_,_,_,_⟩,⟨_,_,_,_,_,_⟩,⟨_,_,_,_,_,_⟩,⟨_,_,_,_,_,_⟩,⟨_,_,_,_,_,_⟩]) [2000000] [1,2,3,4,5,6,7,8,9,10] [0,11,12,13] mixed ak rfl ?_;refine A2 ?_;refine MK ?_;refine Fg ((i)*20) 0 ?_;refine aG (v:=RV x.f) 0 ((i)*20+0) _ rfl rfl rfl rfl dZ (bY.sub hx 0 9 ax) rfl ax rfl ?_;refine A2 ?_;refine MK ?_;refine Fg ((i)*20) 9 ?_;refine aG (v:=RV x.t) 0 ((i)*20+9) _ rfl rfl rfl rfl dZ (bY.sub hx 9 9 ax) rfl ax rfl ?_;refine A1 ?_;refine bU [0,11] ak ⟨⟨_,rfl,?_⟩,⟨_,rfl,?_⟩,trivial⟩
  ·refine A2 ?_;refine bU [11] ak ⟨⟨_,rfl,?_⟩,trivial⟩
   ·refine(Bl 18 [(0,_),(1,_)]) (YK) (fun g0=>?_);refine A1 ?_;exact qlh
  ·refine(Bl 18 [(0,_),(1,_)]) (YK) (fun g0=>?_);refine A1 ?_;refine bU [0] ak ⟨⟨_,rfl,?_⟩,trivial⟩
   ·refine A2 ?_;exact qlh
 ·have hge:i=l.length:=jc;subst hge;obtain rfl:o=bW l:=Bc
  refine A8 ?_;refine(Sc [1]) (MR (bW l) ob oN oc h3 (by rw[vF];omega) (ZM hsz)) (fun z=>?_);refine A4 ?_;refine aK rfl (au rfl) (fun w hL=>⟨z,?_,hL.pk [some 2]⟩);exact rfl
def zx(op:Int)(a:List Iv)(ab:Option Nat)(aN ac:Nat)(hac:a.length<=ac)(han:a.length<=1000)(b:List Iv)(bb:Option Nat)(bN bc:Nat)(hbc:b.length<=bc)(hbn:b.length<=1000)(hsa:∀x∈a,jH x<=50000)(hsb:∀x∈b,jH x<=50000):bZ Tryz.prog 44 [⟨ab,61,ai aO a,aN,false⟩,⟨bb,61,ai aO b,bN,false⟩] [.int .i64 op,ay ab 0 a.length ac,ay bb 0 b.length bc] (SR (gm (mF op) a b).length) SR.v (fun z=>[⟨z.b,61,ai aO (gm (mF op) a b),z.n,true⟩]):=by
 refine sB3 109 Tryz.func44 fun w hL0=>?_;refine A6 ?_;refine rq 0 rfl (fun hba=>?_);refine rq 1 rfl (fun hbb=>?_);have hoa:a.length=0∨∃g,ab=some g:=sH bY ax hba;have hob:b.length=0∨∃g,bb=some g:=sH bY ax hbb
 have hsab:∀x∈a++b,jH x<=50000:=fun x hx=>(List.mem_append.1 hx).elim (hsa x) (hsb x)
 refine A1 ?_;refine(Bl 0 []) (qmt) (fun g0=>?_);refine A1 ?_;refine iK (s:=20) (len:=0) 2 0 (ai aO a) (fun r=>[_,_,⟨r.b,61,ai aO a,r.n,true⟩]) SC Qx rfl rfl rfl rfl rfl rfl rfl rfl rfl rfl rfl (Nat.le_refl _) (Nat.le_refl _) hoa (List.take_of_length_le (by show(ai aO a).length<=_;rw[bY.length];exact Nat.le_refl _)) (bY.length a) (bY.ones _) ae (fun _=>rfl) (fun r=>?_);refine A1 ?_;refine(Qo (s:=20) (len:=0+a.length) 2 1 (ai aO b) (fun r2=>[_,_,⟨r2.b,61,ai aO a++ai aO b,r2.n,true⟩]) SC Qx) (by exact(by rw[bY.length,Nat.zero_add])) r.h r.hn hob (by exact(List.take_of_length_le (by show(ai aO b).length<=_;rw[bY.length];exact Nat.le_refl _))) (bY.length b) (bY.ones _) (fun r2=>?_);obtain⟨rb2,rn2,rc2,rh2,rhn2⟩:=r2;refine aF 20 (ay rb2 0 (a++b).length rc2) rfl (by show ay rb2 0 (0+a.length+b.length) rc2=_;rw[List.length_append,Nat.zero_add]) ?_;refine fQ [_] [2] rfl rfl rfl (RH (a++b) rb2 rn2 rc2 (by simp at rh2 ⊢;omega) CX hsab) ⟨⟨_,rfl,by rw[su];exact fM⟩,trivial⟩ rfl (.inr fun x b hb=>sZ) (fun z=>?_);obtain⟨eb,eN,ec,hec⟩:=z;refine A4 ?_;have hes:∀y∈eY (bW (a++b)),gJ y<=50000:=ZL (p:=fun y=>gJ y<=50000) (ZM hsab);have hel:(eY (bW (a++b))).length<=4000:=by have:=Rn (bW (a++b));rw[vF,List.length_append] at this;omega
 refine SG ?_;refine El (ι:={z:Nat×List Iv×Bool×Option Nat×Nat×Nat // z.1<=(eY (bW (a++b))).length∧qw (fun t=>mF op (nZ a t) (nZ b t)) (fun t u=>mF op (oh a t u) (oh b t u)) ((eY (bW (a++b))).drop z.1) z.2.1 z.2.2.1=qw (fun t=>mF op (nZ a t) (nZ b t)) (fun t u=>mF op (oh a t u) (oh b t u)) (eY (bW (a++b))) [] false∧(z.2.2.1=true->0<z.2.1.length)∧z.2.1.length<=z.2.2.2.2.2∧z.2.2.2.2.2*20<=z.2.2.2.2.1∧z.2.1.length<=2*z.1}) (fun⟨⟨i,out,og,ob,oN,oc⟩,hi,hI,hne,h3,h4,hol⟩=>([(0,.int .i64 op),(1,ay ab 0 a.length ac),(2,ay bb 0 b.length bc),(7,ay eb 0 (eY (bW (a++b))).length ec),(8,ay ob 0 out.length oc),(9,.bool og),(10,bG i)],[⟨ab,61,ai aO a,aN,false⟩,⟨bb,61,ai aO b,bN,false⟩,⟨eb,38,ai je (eY (bW (a++b))),eN,true⟩,⟨ob,61,ai aO out,oN,true⟩],(eY (bW (a++b))).length-i)) ⟨⟨0,[],false,none,0,0⟩,Nat.zero_le _,rfl,fun e=>(by cases e),Nat.le_refl _,bI,bI⟩ ?_ (hL:=(aA [some 0,some 1,some 3,none] ⟨pR,pR,pR,⟨rfl,rfl,rfl⟩,trivial⟩ rfl rfl));rintro⟨⟨i,out,og,ob,oN,oc⟩,hi,hI,hne,h3,h4,hol⟩;(try dsimp only);replace hi:i<=(eY (bW (a++b))).length:=hi;replace hI:qw (fun t=>mF op (nZ a t) (nZ b t)) (fun t u=>mF op (oh a t u) (oh b t u)) ((eY (bW (a++b))).drop i) out og=qw (fun t=>mF op (nZ a t) (nZ b t)) (fun t u=>mF op (oh a t u) (oh b t u)) (eY (bW (a++b))) [] false:=hI;replace hne:og=true->0<out.length:=hne;replace h3:out.length<=oc:=h3;replace h4:oc*20<=oN:=h4;replace hol:out.length<=2*i:=hol;refine A9 ?_;refine Cd ?_ ?_<;>intro haQ
 ·have hlt:i<(eY (bW (a++b))).length:=iL;obtain⟨t,ht⟩:∃t,(eY (bW (a++b)))[i]? =some t:=⟨_,List.getElem?_eq_getElem hlt⟩;have hts:=hes t (List.mem_of_getElem? ht);obtain⟨h,hh⟩:∃h,mF op (nZ a t) (nZ b t)=h:=⟨_,rfl⟩;refine A8 ?_;refine aI 2 ((i)*9) CP dZ rfl rfl rfl rfl rfl ae ae (iD.ne ax ae) Hw ?_;refine aG (v:=RV t) 2 ((i)*9) _ rfl rfl rfl rfl dZ (iD.sub ht 0 9 ax) rfl ax rfl ?_;refine Al 9 Jq (fun g1=>?_);refine Ss 4 ?_;refine A3 ?_;refine Dp [] [0,1,2,4,5,3,6,7,8] ?_;refine A2 ?_;refine L9 4 0 ?_;refine A1 ?_;refine L9 4 0 ?_;refine(Sd [0]) (Dy a ab aN ac hac han hsa t hts) ?_;refine(Sd [1]) (Dy b bb bN bc hbc hbn hsb t hts) ?_;refine Pc (Bj op _ _) ?_;refine aF 39 (.bool h) rfl (congrArg Value.bool hh) ?_;refine A7 ?_;refine(Aq ((out.length:Int)-1)) o7 ?_;refine A3 ?_;refine lZ (nt:=109) (X:={z:List Iv×Nat×Option Nat×Nat×Nat // z.1=kD out og h t∧z.2.1=z.1.length∧z.1.length<=z.2.2.2.2∧z.2.2.2.2*20<=z.2.2.2.1∧z.1.length<=out.length+1}) (fun⟨⟨o1,ln,b1,n1,c1⟩,ho1,hln,h31,h41,hl1⟩=>[(0,.int .i64 op),(1,ay ab 0 a.length ac),(2,ay bb 0 b.length bc),(7,ay eb 0 (eY (bW (a++b))).length ec),(8,ay b1 0 ln c1),(10,bG i),(11,dJ g1),(12,.bool h)]) (fun⟨⟨o1,ln,b1,n1,c1⟩,ho1,hln,h31,h41,hl1⟩=>[⟨ab,61,ai aO a,aN,false⟩,⟨bb,61,ai aO b,bN,false⟩,⟨eb,38,ai je (eY (bW (a++b))),eN,true⟩,⟨b1,61,ai aO o1,n1,true⟩,⟨some g1,38,je t,9,true⟩]) ?_ ?_
  ·refine A5 ?_;refine Rs 45 ?_ ?_<;>intro hbQ
   ·have hog:og=true:=hbQ;refine A5 ?_;refine Cd ?_ ?_<;>intro hcQ
    ·have hhv:h=true:=hcQ;have hon:=hne hog;obtain⟨j,hj⟩:∃j,out[out.length-1]? =some j:=⟨_,List.getElem?_eq_getElem ae⟩;refine dL 3 rfl (bY.ne ax ae) (fun hbs=>?_);obtain⟨go,hgo⟩:=Option.isSome_iff_exists.1 hbs;replace hgo:ob=some go:=hgo;subst hgo;refine A5 ?_;refine qli ?_;refine qY rfl 3 ((out.length-1)*20+19) [_,_,_,_,_] (ai aO ((out.set (out.length-1) ⟨j.f,t,j.fo,j.tp⟩).set (out.length-1) ⟨j.f,t,j.fo,false⟩)) rfl rfl rfl rfl ti4 rfl qfS rfl (bY.setf (show(out.set (out.length-1) ⟨j.f,t,j.fo,j.tp⟩)[out.length-1]? =some ⟨j.f,t,j.fo,j.tp⟩ by rw[List.getElem?_set_self ae]) rfl ax) rfl ?_;refine A3 ?_;exact Ni ⟨((out.set (out.length-1) ⟨j.f,t,j.fo,j.tp⟩).set (out.length-1) ⟨j.f,t,j.fo,false⟩,out.length,some go,oN,oc),by show(out.set (out.length-1) ⟨j.f,t,j.fo,j.tp⟩).set _ _=_;rw[qjD hog hhv hj,List.set_set],bI,TR,h4,bI⟩ [0,1,2,3,4]
    ·have hhv:h=false:=hcQ;refine A6 ?_;refine Cd ?_ ?_<;>intro hdQ
     ·have hon:=hne hog;obtain⟨j,hj⟩:∃j,out[out.length-1]? =some j:=⟨_,List.getElem?_eq_getElem ae⟩;refine dL 3 rfl (bY.ne ax ae) (fun hbs=>?_);obtain⟨go,hgo⟩:=Option.isSome_iff_exists.1 hbs;replace hgo:ob=some go:=hgo;subst hgo;refine A5 ?_;refine qli ?_;refine qY rfl 3 ((out.length-1)*20+19) [_,_,_,_,_] (ai aO ((out.set (out.length-1) ⟨j.f,t,j.fo,j.tp⟩).set (out.length-1) ⟨j.f,t,j.fo,true⟩)) rfl rfl rfl rfl ti4 rfl qfS rfl (bY.setf (show(out.set (out.length-1) ⟨j.f,t,j.fo,j.tp⟩)[out.length-1]? =some ⟨j.f,t,j.fo,j.tp⟩ by rw[List.getElem?_set_self ae]) rfl ax) rfl ?_;refine A3 ?_;exact Ni ⟨((out.set (out.length-1) ⟨j.f,t,j.fo,j.tp⟩).set (out.length-1) ⟨j.f,t,j.fo,true⟩,out.length,some go,oN,oc),by show(out.set (out.length-1) ⟨j.f,t,j.fo,j.tp⟩).set _ _=_;rw[qjE hog hhv hj,List.set_set],bI,TR,h4,bI⟩ [0,1,2,3,4]
     ·exact absurd hdQ (by rw[hog];decide)
   ·have hog:og=false:=hbQ;refine nT ?_;refine Cd ?_ ?_<;>intro hcQ
    ·exact absurd hcQ (by rw[hog];decide)
    ·refine A6 ?_;refine Cd ?_ ?_<;>intro hdQ
     ·have hhv:h=true:=hdQ;refine A2 ?_;refine L9 4 0 ?_;refine L9 4 0 ?_;refine(Bu [(0,_),(1,_)]) (Ku) ?_;refine(Bl 20 [(0,_)]) (jh) (fun g2=>?_);refine(Qa (s:=20) (len:=out.length) (n2:=1) 3 5 (fun r=>[_,_,_,⟨some r.g,61,ai aO out++aO (⟨t,t,false,false⟩),r.n,true⟩,_,_]) SC Qx) (bY.length out) h3 h4 (bY.one (⟨t,t,false,false⟩)) (fun r=>?_);refine A4 ?_;exact iZ ⟨(out++[⟨t,t,false,false⟩],out.length+1,some r.g,r.n,r.cap),by rw[qjF hog hhv],bI,lq,r.hn,bI⟩ ⟨rfl,rfl,rfl,rfl,rfl,rfl,rfl,rfl,trivial⟩ (aA [some 0,some 1,some 2,some 3,some 4] ⟨pR,pR,pR,⟨_,rfl,bn lU⟩,pR,trivial⟩ rfl rfl)
     ·have hhv:h=false:=hdQ;refine A3 ?_;exact Ni ⟨(out,out.length,ob,oN,oc),by rw[qjG hog hhv],rfl,h3,h4,Nat.le_succ _⟩ [0,1,2,3,4]
  rintro⟨⟨o1,ln,b1,n1,c1⟩,ho1,hln,h31,h41,hl1⟩;show At _ ⟨109,[(0,.int .i64 op),(1,ay ab 0 a.length ac),(2,ay bb 0 b.length bc),(7,ay eb 0 (eY (bW (a++b))).length ec),(8,ay b1 0 ln c1),(10,bG i),(11,dJ g1),(12,.bool h)],[⟨ab,61,ai aO a,aN,false⟩,⟨bb,61,ai aO b,bN,false⟩,⟨eb,38,ai je (eY (bW (a++b))),eN,true⟩,⟨b1,61,ai aO o1,n1,true⟩,⟨some g1,38,je t,9,true⟩]⟩ _;replace hln:ln=o1.length:=hln;subst hln;replace ho1:o1=kD out og h t:=ho1;replace h31:o1.length<=c1:=h31;replace h41:c1*20<=n1:=h41;replace hl1:o1.length<=out.length+1:=hl1;refine A4 ?_;refine Ar (((i+1:Nat):Int)) ?_;refine A5 ?_;refine Cd ?_ ?_<;>intro hbQ
  ·have hend:i+1=(eY (bW (a++b))).length:=by have e:=eq_of_beq hbQ;omega
   obtain rfl:o1=gm (mF op) a b:=by rw[Ro,<-hI,ho1];exact qbW ht hend hh
   refine A2 ?_;refine Qk rfl ?_;refine oJ ?_;refine aK rfl (au rfl) (fun w hL=>⟨⟨b1,n1,c1,h31⟩,?_,hL.pk [some 3]⟩);exact rfl
  ·have hmore:i+1<(eY (bW (a++b))).length:=by have e:=ne_of_beq_false hbQ;omega
   obtain⟨u,hu⟩:∃u,(eY (bW (a++b)))[i+1]? =some u:=⟨_,List.getElem?_eq_getElem hmore⟩;have hus:=hes u (List.mem_of_getElem? hu);obtain⟨w_,hw_⟩:∃w_,mF op (oh a t u) (oh b t u)=w_:=⟨_,rfl⟩;refine A6 ?_;refine Ar (((i+1:Nat):Int)) ?_;refine aI 2 ((i+1)*9) CP dZ rfl rfl rfl rfl rfl ae ae (iD.ne ax ae) Hw ?_;refine aG (v:=RV u) 2 ((i+1)*9) _ rfl rfl rfl rfl dZ (iD.sub hu 0 9 ax) rfl ax rfl ?_;refine Al 9 Jq (fun g2=>?_);refine Ss 5 ?_;refine A3 ?_;refine Dp [] [0,1,2,3,5,6,7,4,8,9,10] ?_;refine A2 ?_;refine L9 4 0 ?_;refine L9 5 0 ?_;refine A1 ?_;refine L9 4 0 ?_;refine L9 5 0 ?_;refine(Sd [0]) (Dz a ab aN ac hac han hsa t u hts hus) ?_;refine(Sd [1]) (Dz b bb bN bc hbc hbn hsb t u hts hus) ?_;refine Pc (Bj op _ _) ?_;refine aF 95 (.bool w_) rfl (congrArg Value.bool hw_) ?_;refine A8 ?_;refine Rs 97 ?_ ?_<;>intro hcQ
   ·have hwv:w_=true:=hcQ;refine A5 ?_;refine Cd ?_ ?_<;>intro hdQ
    ·have hhv2:h=false:=Bh
     refine A2 ?_;refine L9 4 0 ?_;refine L9 5 0 ?_;refine(Bu [(0,_),(1,_),(2,_),(3,_)]) (Kv) ?_;refine(Bl 20 [(0,_)]) (jh) (fun g3=>?_);refine(Qa (s:=20) (len:=o1.length) (n2:=1) 3 6 (fun r=>[_,_,_,⟨some r.g,61,ai aO o1++aO (⟨t,u,true,true⟩),r.n,true⟩,_,_,_]) SC Qx) (bY.length o1) h31 h41 (bY.one (⟨t,u,true,true⟩)) (fun r=>?_);refine oJ ?_;refine dP ?_;exact Nl ⟨⟨i+1,o1++[⟨t,u,true,true⟩],true,some r.g,r.n,r.cap⟩,hlt,(qfK ht hu hh hw_ hwv hhv2 ho1).symm.trans hI,fun _=>bI,lq,r.hn,by show(o1++_).length<=2*(i+1);rw[List.length_append];simp;omega⟩ (hμ:=XE) (ht:=⟨rfl,rfl,rfl,rfl,(aU rfl lT),(aU rfl (congrArg Value.bool hwv)),rfl,trivial⟩) (hL:=(aA [some 0,some 1,some 2,some 3] ⟨pR,pR,pR,⟨_,rfl,bn lU⟩,trivial⟩ rfl rfl))
    ·have hhv2:h=true:=Bh
     refine lD ?_;refine dP ?_;exact Nl ⟨⟨i+1,o1,true,b1,n1,c1⟩,hlt,(qjB ht hu hh hw_ hwv hhv2 ho1).symm.trans hI,fun _=>by show 0<o1.length;rw[ho1,hhv2];exact(qfL out og t).resolve_left fun e=>by have:=hne e.1;rw[e.2] at this;simp at this,h31,h41,by show o1.length<=2*(i+1);omega⟩ (hμ:=XE) (ht:=⟨rfl,rfl,rfl,rfl,rfl,(aU rfl (congrArg Value.bool hwv)),rfl,trivial⟩) (hL:=dR.auto)
   ·have hwv:w_=false:=hcQ;refine SG ?_;refine dP ?_;exact Nl ⟨⟨i+1,o1,false,b1,n1,c1⟩,hlt,(qjC ht hu hh hw_ hwv ho1).symm.trans hI,fun e=>(by cases e),h31,h41,by show o1.length<=2*(i+1);omega⟩ (hμ:=XE) (ht:=⟨rfl,rfl,rfl,rfl,rfl,(aU rfl (congrArg Value.bool hwv)),rfl,trivial⟩) (hL:=dR.auto)
 ·have hge:i=(eY (bW (a++b))).length:=jc;subst hge;obtain rfl:out=gm (mF op) a b:=by rw[Ro,<-hI,List.drop_length];rfl
  refine nT ?_;refine aK rfl (au rfl) (fun w hL=>⟨⟨ob,oN,oc,h3⟩,?_,hL.pk [some 3]⟩);exact rfl
end Go.Proofs.YtaffcpfhedadhaaGreatDoor
namespace Go.Via
open Go
def Vr{α:Type}{a b:List α}(h:a.take a.length=b.take a.length)(hl:a.length=b.length):a=b:=by
 rw[List.take_length,hl,List.take_length] at h;exact h
theorem qnH:mF 2=qrB:=by funext a b;rfl
theorem qf0:mF 3=fun a b=>a&& !b:=by funext a b;rfl
def zRc:List Value:=[aZ,bf,aZ,bf,aZ,bf,aZ,bf,.bool false]
theorem XL:je (rl 0)=zRc:=by
 have:=CJ;unfold RV at this
 injection this with h
 have h2:=congrArg Array.toList h;exact h2
def Gg{x y:Rl}{n:Nat}(hx:gJ x<=n)(hy:gJ y<=n):gJ (gU x y)<=n:=by rcases QU x y with e|e<;>rw[e]<;>assumption
def qjK{l:List ny}(h:∀p∈l,gJ p.a<=50000∧gJ p.b<=50000):gJ (l.foldl AU (rl 0))<=50000:=by
 have:∀(l:List ny) (o:Rl),(∀p∈l,gJ p.a<=50000∧gJ p.b<=50000)->gJ o<=50000->gJ (l.foldl AU o)<=50000:=by
  intro l
  induction l with
  |nil=>intro o _ ho;exact ho
  |cons p l ih=>intro o hl ho;rw[List.foldl_cons];exact ih _ (fun q hq=>hl q (List.mem_cons_of_mem _ hq)) (Gg (Gg ho (hl p (List.mem_cons_self ..)).1) (hl p (List.mem_cons_self ..)).2)
 exact this l _ h (Em (by have:=zo;omega) ae)
def ZV{x y:Rl}(h:bQ y x>0):gU x y=y:=by unfold gU;rw[if_pos h]
def ZW{x y:Rl}(h:¬bQ y x>0):gU x y=x:=by unfold gU;rw[if_neg h]
def sqL(x y:Rat):Qd:=⟨x*x,x*y+y*x,x*0+0*x+y*y⟩
def qnI(f g:Ln):(⟨(sqL (f.x0-g.x0) (f.x1-g.x1)).c0+(sqL (f.y0-g.y0) (f.y1-g.y1)).c0,(sqL (f.x0-g.x0) (f.x1-g.x1)).c1+(sqL (f.y0-g.y0) (f.y1-g.y1)).c1,(sqL (f.x0-g.x0) (f.x1-g.x1)).c2+(sqL (f.y0-g.y0) (f.y1-g.y1)).c2⟩:Qd)=d2 f g:=by
 unfold sqL d2;dsimp only;congr 1<;>grind
def qjL{l:List ny}{o:Rl}(h:∀p∈l,gJ p.a<=50000∧gJ p.b<=50000)(ho:gJ o<=50000):gJ (l.foldl (fun o x=>gU o (gU x.a x.b)) o)<=50000:=by
 induction l generalizing o with
 |nil=>exact ho
 |cons p l ih=>rw[List.foldl_cons];exact ih (fun q hq=>h q (List.mem_cons_of_mem _ hq)) (Gg ho (Gg (h p (List.mem_cons_self ..)).1 (h p (List.mem_cons_self ..)).2))
def XM{l:List ny}(h0:0<l.length):l.foldl (fun o x=>gU o (gU x.a x.b)) (l[0]'h0).a=bJ l:=by
 cases l with
 |nil=>simp at h0
 |cons p l=>rfl
end Go.Via
namespace Go.Proofs.YtaffcpfhedadhaaGreatDoor
open Go Go.Via
def qnJ:elW Tryz.prog 151 52 (.agg #[aZ,bf,aZ,bf,aZ,bf,aZ,bf,.bool false,aZ,bf,aZ,bf,aZ,bf,aZ,bf,.bool false,.bool false,.bool false,aZ,bf,aZ,bf,aZ,bf,aZ,bf,aZ,bf,aZ,bf,aZ,bf,aZ,bf,aZ,bf,aZ,bf,aZ,bf,aZ,bf,aZ,bf,aZ,bf,aZ,bf,aZ,bf]):=⟨ak,ax⟩
end Go.Proofs.YtaffcpfhedadhaaGreatDoor
namespace Go.Via
def CV(x y:PU):Option B3:=(dB x.i y.i).map fun m=>⟨m,x.f,y.f⟩
def Ez(x y:PU):Bool:=Pg x.i y.i
theorem ZX{x y:PU}(h:lF (fC x.i y.i)=true):(CV x y).toList=[⟨fC x.i y.i,x.f,y.f⟩]:=by unfold CV dB;rw[if_pos h];rfl
theorem qf1{x y:PU}(h:lF (fC x.i y.i)=false):(CV x y).toList=[]:=by unfold CV dB;rw[if_neg Ue];rfl
theorem qf2{α β γ:Type}{mt:α->β->Option γ}{ef:α->β->Bool}{a:List α}{b:List β}{i k:Nat}{x:α}{y:β}(hx:a[i]? =some x)(hy:b[k]? =some y)(h:ef x y=true):iw mt ef (a.drop i) (b.drop k)=(mt x y).toList++iw mt ef (a.drop (i+1)) (b.drop k):=by
 rw[yY hx,yY hy,iw,if_pos h]
theorem qf3{α β γ:Type}{mt:α->β->Option γ}{ef:α->β->Bool}{a:List α}{b:List β}{i k:Nat}{x:α}{y:β}(hx:a[i]? =some x)(hy:b[k]? =some y)(h:ef x y=false):iw mt ef (a.drop i) (b.drop k)=(mt x y).toList++iw mt ef (a.drop i) (b.drop (k+1)):=by
 rw[yY hx,yY hy,iw,if_neg Ue]
theorem Vs{α β γ:Type}{mt:α->β->Option γ}{ef:α->β->Bool}{a:List α}{b:List β}{i k:Nat}(h:a.length<=i∨b.length<=k):iw mt ef (a.drop i) (b.drop k)=[]:=by
 rcases h with h|h
 ·rw[List.drop_of_length_le h];cases b.drop k<;>simp[iw]
 ·rw[List.drop_of_length_le h];cases a.drop i<;>simp[iw]
theorem MS{α β γ δ:Type}{mt:α->β->Option γ}{ef:α->β->Bool}(f:γ->δ):∀(a:List α) (b:List β),(iw mt ef a b).map f=iw (fun x y=>(mt x y).map f) ef a b
 |[],_=>by simp[iw]
 |_::_,[]=>by simp[iw]
 |x::xs,y::ys=>by
  rw[iw,iw,List.map_append]
  congr 1
  ·cases mt x y<;>rfl
  ·split
   ·exact MS f xs (y::ys)
   ·exact MS f (x::xs) ys
termination_by a b=>a.length+b.length
def Gh{α β γ:Type}{mt:α->β->Option γ}{ef:α->β->Bool}:∀{a:List α} {b:List β} {z:γ},z∈iw mt ef a b->∃x∈a,∃y∈b,mt x y=some z
 |[],_,z,h=>by simp[iw] at h
 |_::_,[],z,h=>by simp[iw] at h
 |x::xs,y::ys,z,h=>by
  rw[iw] at h;rcases List.mem_append.1 h with h|h
  ·exact⟨x,List.mem_cons_self ..,y,List.mem_cons_self ..,Option.mem_toList.1 h⟩
  ·split at h
   ·obtain⟨u,hu,v,hv,e⟩:=Gh h;exact⟨u,List.mem_cons_of_mem _ hu,v,hv,e⟩
   ·obtain⟨u,hu,v,hv,e⟩:=Gh h;exact⟨u,hu,v,List.mem_cons_of_mem _ hv,e⟩
termination_by a b=>a.length+b.length
def Gi{α β γ:Type}{mt:α->β->Option γ}{ef:α->β->Bool}:∀(a:List α) (b:List β),(iw mt ef a b).length<=a.length+b.length
 |[],_=>by simp[iw]
 |_::_,[]=>by simp[iw]
 |x::xs,y::ys=>by
  rw[iw,List.length_append];have h1:(mt x y).toList.length<=1:=by cases mt x y<;>simp
  split
  ·have:=Gi (mt:=mt) (ef:=ef) xs (y::ys);simp only[List.length_cons] at this ⊢;omega
  ·have:=Gi (mt:=mt) (ef:=ef) (x::xs) ys;simp only[List.length_cons] at this ⊢;omega
termination_by a b=>a.length+b.length
theorem Gj(a b:List PU):(iw CV Ez a b).map (fun z=>(z.i,d2 z.f z.g))=aj a b:=by
 rw[MS];unfold aj
 congr 1
 funext x y
 unfold CV rZ;cases dB x.i y.i<;>rfl
def ZY{x y:Rat}{n:Nat}(hx:cO x<=n)(hy:cO y<=n):ui (sqL x y)<=4*n+10:=by
 have z:=zo;unfold sqL;refine Hq ?_ ?_ ?_<;>dsimp only
 ·have:=bV x x;omega
 ·have:=bV x y;have:=bV y x;have:=jf (x*y) (y*x);omega
 ·have:=bV x 0;have:=bV 0 x;have:=bV y y;have:=jf (x*0) (0*x);have:=jf (x*0+0*x) (y*y);omega
def DC(l:List PU):Prop:=∀u∈l,jH u.i<=100∧jP u.f<=100
theorem DC.v{l:List PU}(h:DC l):∀u∈l,jH u.i<=50000:=fun u hu=>Nat.le_trans (h u hu).1 ae
def qln{a b:List PU}(ha:DC a)(hb:DC b):∀z∈iw CV Ez a b,jH z.i<=100∧jP z.f<=100∧jP z.g<=100:=fun z hz=>by
 obtain⟨x,hx,y,hy,e⟩:=Gh hz;unfold CV dB at e
 split at e
 ·simp at e;subst e;exact⟨Vj (ha x hx).1 (hb y hy).1,(ha x hx).2,(hb y hy).2⟩
 ·simp at e
def qU(a b:List PU):(aj a b).length<=a.length+b.length:=by rw[<-Gj,List.length_map];exact Gi a b
def vJ{a b:List PU}(ha:DC a)(hb:DC b):∀z∈aj a b,jH z.1<=100∧ui z.2<=820:=fun z hz=>by
 rw[<-Gj] at hz;obtain⟨w,hw,rfl⟩:=List.mem_map.1 hz;have:=qln ha hb w hw;exact⟨this.1,Nat.le_trans (qfJ this.2.1 this.2.2) ae⟩
end Go.Via
namespace Go.Proofs.YtaffcpfhedadhaaGreatDoor
open Go Go.RowKit Go.Via
def Jd(a:List PU)(ab:Option Nat)(aN ac:Nat)(hac:a.length<=ac)(han:a.length<=1000)(b:List PU)(bb:Option Nat)(bN bc:Nat)(hbc:b.length<=bc)(hbn:b.length<=1000)(hsa:∀u∈a,jH u.i<=50000)(hsb:∀u∈b,jH u.i<=50000):bZ Tryz.prog 90 [⟨ab,201,ai aB a,aN,false⟩,⟨bb,201,ai aB b,bN,false⟩] [ay ab 0 a.length ac,ay bb 0 b.length bc] (SR (iw CV Ez a b).length) SR.v (fun z=>[⟨z.b,151,ai Xa (iw CV Ez a b),z.n,true⟩]):=by
 refine sB2 66 Tryz.func90 fun w hL0=>?_;refine A18 ?_;refine El (ι:={z:Nat×Nat×List B3×Option Nat×Nat×Nat // z.1<=a.length∧z.2.1<=b.length∧z.2.2.1++iw CV Ez (a.drop z.1) (b.drop z.2.1)=iw CV Ez a b∧z.2.2.1.length<=z.2.2.2.2.2∧z.2.2.2.2.2*52<=z.2.2.2.2.1∧z.2.2.1.length<=z.1+z.2.1}) (fun⟨⟨i,k,o,ob,oN,oc⟩,hi,hk,hI,h3,h4,hol⟩=>([(0,ay ab 0 a.length ac),(1,ay bb 0 b.length bc),(5,ay ob 0 o.length oc),(6,bG i),(7,bG k)],[⟨ab,201,ai aB a,aN,false⟩,⟨bb,201,ai aB b,bN,false⟩,⟨ob,151,ai Xa o,oN,true⟩],a.length+b.length-i-k)) ⟨⟨0,0,[],none,0,0⟩,Nat.zero_le _,Nat.zero_le _,rfl,Nat.le_refl _,bI,Nat.le_refl _⟩ ?_ (hL:=(aA [some 0,some 1,none] ⟨pR,pR,⟨rfl,rfl,rfl⟩,trivial⟩ rfl rfl));rintro⟨⟨i,k,o,ob,oN,oc⟩,hi,hk,hI,h3,h4,hol⟩;(try dsimp only);replace hi:i<=a.length:=hi;replace hk:k<=b.length:=hk;replace hI:o++iw CV Ez (a.drop i) (b.drop k)=iw CV Ez a b:=hI;replace h3:o.length<=oc:=h3;replace h4:oc*52<=oN:=h4;replace hol:o.length<=i+k:=hol;refine A8 ?_;refine Rs 14 ?_ ?_<;>intro haQ
 ·have hlt:i<a.length:=iL;obtain⟨x,hx⟩:∃x,a[i]? =some x:=⟨a[i],List.getElem?_eq_getElem hlt⟩;have hxs:=hsa x (List.mem_of_getElem? hx);refine A7 ?_;refine Cd ?_ ?_<;>intro hbQ
  ·have hlk:k<b.length:=nG;obtain⟨y,hy⟩:∃y,b[k]? =some y:=⟨b[k],List.getElem?_eq_getElem hlk⟩;have hys:=hsb y (List.mem_of_getElem? hy)
   refine A5 ?_;refine dL 0 rfl (aX.ne ax ae) (fun hbs=>?_);obtain⟨ga,hga⟩:=Option.isSome_iff_exists.1 hbs;replace hga:ab=some ga:=hga;subst hga;refine dL 1 rfl (aX.ne ax ae) (fun hbs=>?_);obtain⟨gb,hgb⟩:=Option.isSome_iff_exists.1 hbs;replace hgb:bb=some gb:=hgb;subst hgb;refine Dq [3000000] [0,1,2,3,4,5,6,7,8,9,10,11,12,14,15,13,16] ?_;refine qfQ ?_;refine Pc (N9 x.i y.i hxs hys) ?_;refine A2 ?_;refine Al 20 z61 (fun g0=>?_);refine Ss 3 ?_;refine A9 ?_;refine Cd ?_ ?_<;>intro hcQ
   ·have hok:lF (fC x.i y.i)=true:=hcQ;refine qK (l':=[⟨_,_,_,_,_,_⟩,⟨_,_,_,_,_,_⟩,⟨_,_,_,_,_,_⟩,⟨_,_,_,_,_,_⟩,⟨_,_,_,_,_,_⟩,⟨_,_,_,_,_,_⟩,⟨_,_,_,_,_,_⟩,⟨_,_,_,_,_,_⟩,⟨_,_,_,_,_,_⟩,⟨_,_,_,_,_,_⟩,⟨_,_,_,_,_,_⟩,⟨_,_,_,_,_,_⟩]) [2000000] [1,2,3,4,5,6,7,8,9,10,11,12] [0,13,14,15] mixed ak rfl ?_;refine yz 3 0 ?_;refine A2 ?_;refine MM ?_;refine Fg ((i)*36) 20 ?_;refine MN ?_;refine A2 ?_;refine aI 1 ((k)*36) vS ww rfl rfl rfl rfl rfl ae ae (aX.ne ax ae) oD ?_;refine Fg ((k)*36) 20 ?_;refine aG (v:=yV y.f) 1 ((k)*36+20) _ rfl rfl rfl rfl IL (aX.sub hy 20 16 ax) rfl ax rfl ?_;refine(Bu [(0,_),(1,_),(2,_)]) (qhT) ?_;refine A1 ?_;refine bU [0,13] ak ⟨⟨_,rfl,?_⟩,⟨_,rfl,?_⟩,trivial⟩
    ·refine A2 ?_;refine bU [13] ak ⟨⟨_,rfl,?_⟩,trivial⟩
     ·refine(Bl 52 [(0,_)]) (YI) (fun g1=>?_);refine A1 ?_;exact qlf
    ·refine(Bl 52 [(0,_)]) (YI) (fun g1=>?_);refine A1 ?_;refine bU [0] ak ⟨⟨_,rfl,?_⟩,trivial⟩
     ·refine A2 ?_;exact qlf
   ·have hok:lF (fC x.i y.i)=false:=hcQ;refine A3 ?_;refine Di [] ?_;refine qfQ ?_;refine Pc (vI x.i y.i hxs hys) ?_;refine A2 ?_;refine Cd ?_ ?_<;>intro hdQ
    ·have hef:Ez x y=true:=hdQ;refine A2 ?_;refine Ar (((i+1:Nat):Int)) ?_;refine A4 ?_;exact Nl ⟨⟨i+1,k,o,ob,oN,oc⟩,hlt,hk,by rw[<-hI,qf2 hx hy hef,qf1 hok,List.nil_append],h3,h4,by show o.length<=i+1+k;omega⟩ (hμ:=qfT) (hL:=dR.auto)
    ·have hef:Ez x y=false:=hdQ;refine A2 ?_;refine Ar (((k+1:Nat):Int)) ?_;refine A4 ?_;exact Nl ⟨⟨i,k+1,o,ob,oN,oc⟩,hi,hlk,by rw[<-hI,qf3 hx hy hef,qf1 hok,List.nil_append],h3,h4,by show o.length<=i+(k+1);omega⟩ (hμ:=qfU) (hL:=dR.auto)
  ·have hge:b.length<=k:=nH;obtain rfl:o=iw CV Ez a b:=by rw[<-hI,Vs (.inr hge),List.append_nil]
   refine nT ?_;refine aK rfl (au rfl) (fun w hL=>⟨⟨ob,oN,oc,h3⟩,?_,hL.pk [some 2]⟩);exact rfl
 ·have hge:a.length<=i:=jc;obtain rfl:o=iw CV Ez a b:=by rw[<-hI,Vs (.inl hge),List.append_nil]
  refine A20 ?_;refine aK rfl (au rfl) (fun w hL=>⟨⟨ob,oN,oc,h3⟩,?_,hL.pk [some 2]⟩);exact rfl
def RI(l:List ny)(lb:Option Nat)(lN lc:Nat)(hlc:l.length<=lc)(hln:l.length<=1000)(hsz:∀p∈l,gJ p.a<=50000∧gJ p.b<=50000):bZ Tryz.prog 47 [⟨lb,63,ai aQ l,lN,false⟩] [ay lb 0 l.length lc] Unit (fun _=>RV (fO l)) (fun _=>[]):=by
 refine O3 39 Tryz.func47 fun w hL0=>?_;refine A2 ?_;refine Al 9 Jq (fun g0=>?_);refine A4 ?_;refine(Bu []) (Qs) ?_;refine aF 5 (RV (rl 0)) rfl CJ.symm ?_;refine Al 9 Jq (fun g1=>?_);refine Ss 2 ?_;refine A9 ?_;refine El (ι:={z:Nat×Rl // z.1<=l.length∧z.2=(l.take z.1).foldl AU (rl 0)}) (fun⟨⟨i,m⟩,hi,hI⟩=>([(0,ay lb 0 l.length lc),(2,dJ g0),(3,dJ g1),(4,bG i)],[⟨lb,63,ai aQ l,lN,false⟩,⟨some g0,38,zRc,9,true⟩,⟨some g1,38,je m,9,true⟩],l.length-i)) ⟨⟨0,rl 0⟩,Nat.zero_le _,rfl⟩ ?_ (hL:=dR.auto);rintro⟨⟨i,m⟩,hi,hI⟩;(try dsimp only);replace hi:i<=l.length:=hi;replace hI:m=(l.take i).foldl AU (rl 0):=hI
 have hms:gJ m<=50000:=(by rw[hI];exact qjK fun p hp=>hsz p (List.mem_of_mem_take hp));refine A9 ?_;refine Cd ?_ ?_<;>intro haQ
 ·have hlt:i<l.length:=iL;obtain⟨x,hx⟩:∃x,l[i]? =some x:=⟨l[i],List.getElem?_eq_getElem hlt⟩;refine dL 0 rfl (dS.ne ax ae) (fun hbs=>?_);obtain⟨gl,hgl⟩:=Option.isSome_iff_exists.1 hbs;replace hgl:lb=some gl:=hgl;subst hgl;have hxs:=hsz x (List.mem_of_getElem? hx);refine A6 ?_;refine Di [] ?_;refine A2 ?_;refine Ru ?_;refine Fg ((i)*38) 20 ?_;refine aG (v:=RV x.a) 0 ((i)*38+20) _ rfl rfl rfl rfl dZ (dS.sub hx 20 9 ax) rfl ax rfl ?_;refine L9 2 0 ?_;refine Pc (fZ x.a m hxs.1 hms) ?_;refine A3 ?_;refine Cd ?_ ?_<;>intro hbQ
  ·have hm1:gU m x.a=x.a:=ZV (of_decide_eq_true hbQ);refine A3 ?_;refine Ru ?_;refine Fg ((i)*38) 20 ?_;refine aG (v:=RV x.a) 0 ((i)*38+20) _ rfl rfl rfl rfl dZ (dS.sub hx 20 9 ax) rfl ax rfl ?_;refine eG ?_;refine Di [] ?_;refine A2 ?_;refine ZU ?_;refine L9 2 0 ?_;refine Pc (fZ x.b x.a hxs.2 hxs.1) ?_;refine A3 ?_;refine Cd ?_ ?_<;>intro hcQ
   ·have hm2:gU (gU m x.a) x.b=x.b:=qfV
    refine A3 ?_;refine ZU ?_;refine Ss 2 ?_;exact ZT
   ·have hm2:gU (gU m x.a) x.b=x.a:=qfW
    exact ZT
  ·have hm1:gU m x.a=m:=ZW (of_decide_eq_false hbQ);refine A3 ?_;refine Di [] ?_;refine A2 ?_;refine ZU ?_;refine L9 2 0 ?_;refine Pc (fZ x.b m hxs.2 hms) ?_;refine A3 ?_;refine Cd ?_ ?_<;>intro hcQ
   ·have hm2:gU (gU m x.a) x.b=x.b:=qfV
    refine A3 ?_;refine ZU ?_;refine Ss 2 ?_;exact ZT
   ·have hm2:gU (gU m x.a) x.b=m:=qfW
    exact ZT
 ·have hge:i=l.length:=jc;subst hge;obtain rfl:m=fO l:=by rw[hI,List.take_length];rfl
  refine A7 ?_;refine L9 2 0 ?_;refine Ss 1 ?_;refine A3 ?_;refine Ec9 1 fun w hL=>⟨(),?_,hL.pk []⟩;exact rfl
def tC(a b c d:Rat)(ha:cO a<=40000:=by omega)(hb:cO b<=40000:=by omega)(hc:cO c<=40000:=by omega)(hd:cO d<=40000:=by omega):aP Tryz.prog 93 #[Q a,Q b,Q c,Q d] (qp (sqL (a-c) (b-d))):=by
 have l1:=iq a c;have l2:=iq b d;have z0:=zo;have hs:ui ⟨a-c,b-d,0⟩<=100000:=Hq (by show cO (a-c)<=_;omega) (by show cO (b-d)<=_;omega) (by show cO 0<=_;omega);refine pB4 26 Tryz.func93 fun w=>?_;refine jd fun g0=>?_;refine Bp 4 (fun g1=>?_);refine Bp 4 (fun g2=>?_);refine Bp 4 (fun g3=>?_);refine Al 12 Ij (fun g4=>?_);refine A3 ?_;refine Dq [3000000] [0,1,3,4,2,5,6,7,8] ?_;refine L4 0 0 ?_;refine L4 2 0 ?_;refine L4 1 0 ?_;refine L4 3 0 ?_;refine Pc (eU a c) ?_;refine Pc (eU b d) ?_;refine Pc (jG (a-c) (b-d)) ?_;refine Al 12 Ij (fun g5=>?_);refine Ss 5 ?_;refine A4 ?_;refine vU 5 0 ?_;refine vU 5 0 ?_;refine Pc (I9 ⟨a-c,b-d,0⟩ ⟨a-c,b-d,0⟩ rfl rfl hs hs) ?_;refine A3 ?_;refine Al 12 Ij (fun g6=>?_);refine Ss 6 ?_;refine A5 ?_;refine vU 6 0 ?_;refine Ss 4 ?_;refine A3 ?_;refine KY 4 ?_;exact rfl
def jI(i:Iv)(f:Qd)(h1:0<=i.f.r:=by omega)(h2:0<=i.t.r:=by omega)(hi:jH i<=10000:=by omega)(hf:ui f<=10000:=by omega):aP Tryz.prog 42 #[fV i,qp f] (Gy (aC (i,f))):=by
 have i1:=Nat.le_trans (jW i) hi;have i2:=Nat.le_trans (jX i) hi;refine oz 15 Tryz.func42 fun w=>?_;refine A2 ?_;refine Bp 20 (fun g0=>?_);refine Bp 12 (fun g1=>?_);refine Al 38 z63 (fun g2=>?_);refine A3 ?_;refine Dp [] [0,1,2,3,5,6,7,4,8,9,10] ?_;refine yz 0 0 ?_;refine vU 1 0 ?_;refine A1 ?_;refine L9 0 0 ?_;refine vU 1 0 ?_;refine A1 ?_;refine L9 0 9 ?_;refine Pc (vz f i.f h1 hf) ?_;refine Pc (vz f i.t h2 hf) ?_;refine(Bu [(0,_),(1,_),(2,_)]) (V5) ?_;refine eG ?_;refine qru 2 ?_;exact rfl
def qG(l:List ny)(lb:Option Nat)(lN lc:Nat)(hlc:l.length<=lc)(hln:l.length<=1000)(hsz:∀p∈l,gJ p.a<=50000∧gJ p.b<=50000)(h0:0<l.length:=by omega):bZ Tryz.prog 43 [⟨lb,63,ai aQ l,lN,false⟩] [ay lb 0 l.length lc] Unit (fun _=>RV (bJ l)) (fun _=>[]):=by
 refine O3 25 Tryz.func43 fun w hL0=>?_;refine A2 ?_;refine Al 9 Jq (fun g0=>?_);refine A3 ?_;have hx0:l[0]? =some (l[0]'h0):=List.getElem?_eq_getElem h0;refine dL 0 rfl (dS.ne ax h0) (fun hbs=>?_);obtain⟨gl,hgl⟩:=Option.isSome_iff_exists.1 hbs;replace hgl:lb=some gl:=hgl;subst hgl;refine A2 ?_;refine aI 0 ((0)*38) u32 Ag rfl rfl rfl rfl rfl ae ae (dS.ne ax ae) Bi ?_;refine Fg ((0)*38) 20 ?_;refine aG (v:=RV (l[0]'h0).a) 0 ((0)*38+20) _ rfl rfl rfl rfl dZ (dS.sub hx0 20 9 ax) rfl ax rfl ?_;refine Al 9 Jq (fun g1=>?_);refine Ss 2 ?_;refine oJ ?_;refine El (ι:={z:Nat×Rl // z.1<=l.length∧z.2=(l.take z.1).foldl (fun o x=>gU o (gU x.a x.b)) (l[0]'h0).a}) (fun⟨⟨i,m⟩,hi,hI⟩=>([(2,dJ g0),(3,dJ g1),(10,ay (some gl) 0 l.length lc),(11,bG (l.length)),(12,bG i)],[⟨some gl,63,ai aQ l,lN,false⟩,⟨some g0,38,zRc,9,true⟩,⟨some g1,38,je m,9,true⟩],l.length-i)) ⟨⟨0,(l[0]'h0).a⟩,Nat.zero_le _,rfl⟩ ?_ (hL:=dR.auto);rintro⟨⟨i,m⟩,hi,hI⟩;(try dsimp only);replace hi:i<=l.length:=hi;replace hI:m=(l.take i).foldl (fun o x=>gU o (gU x.a x.b)) (l[0]'h0).a:=hI
 have hms:gJ m<=50000:=(by rw[hI];exact qjL (fun p hp=>hsz p (List.mem_of_mem_take hp)) (hsz _ (List.getElem_mem h0)).1);refine A6 ?_;refine Cd ?_ ?_<;>intro haQ
 ·have hlt:i<l.length:=iL;obtain⟨x,hx⟩:∃x,l[i]? =some x:=⟨l[i],List.getElem?_eq_getElem hlt⟩;have hxs:=hsz x (List.mem_of_getElem? hx);refine A6 ?_;refine Ru ?_;refine aG (v:=Gy x) 0 ((i)*38) _ rfl rfl rfl rfl Ag (dS.sub hx 0 38 ax) rfl ax rfl ?_;refine Al 38 z63 (fun g2=>?_);refine Ss 3 ?_;refine A2 ?_;refine Di [] ?_;refine L9 2 0 ?_;refine A1 ?_;refine L9 3 20 ?_;refine A1 ?_;refine L9 3 29 ?_;refine Pc (MC x.a x.b hxs.1 hxs.2) ?_;refine Pc (MC m (gU x.a x.b) hms (Gg hxs.1 hxs.2)) ?_;refine Ss 2 ?_;refine A4 ?_;refine dP ?_;exact Nl ⟨⟨i+1,gU m (gU x.a x.b)⟩,hlt,by show _=(l.take (i+1)).foldl (fun o x=>gU o (gU x.a x.b)) _;rw[<-fJ hx,List.foldl_append,<-hI];rfl⟩ (hμ:=nM) (hL:=dR.auto)
 ·have hge:i=l.length:=jc;subst hge;obtain rfl:m=bJ l:=by rw[hI,List.take_length];exact XM h0
  refine A7 ?_;refine L9 2 0 ?_;refine Ss 1 ?_;refine A3 ?_;refine Ec9 1 fun w hL=>⟨(),?_,hL.pk []⟩;exact rfl
end Go.Proofs.YtaffcpfhedadhaaGreatDoor
namespace Go.Via
abbrev Vt(l:List PU):Prop:=Ends gV l
def qnK{a b:List PU}(ha:Ends gV a)(hb:Ends gV b):∀z∈iw CV Ez a b,gV z.i.f∧gV z.i.t:=fun z hz=>by
 obtain⟨x,hx,y,hy,e⟩:=Gh hz;unfold CV dB at e
 split at e
 ·simp at e;subst e;exact Ha (ha x hx) (hb y hy)
 ·simp at e
def PT{a b:List PU}(ha:Ends gV a)(hb:Ends gV b):∀z∈aj a b,gV z.1.f∧gV z.1.t:=fun z hz=>by
 rw[<-Gj] at hz;obtain⟨w,hw,rfl⟩:=List.mem_map.1 hz;exact qnK ha hb w hw
theorem qf4{x:Rl}(h:gV x):x.r=0:=by obtain⟨z,rfl⟩:=h;rfl
def PV{a b:List PU}(ha:DC a)(hb:DC b):∀p∈(aj a b).map aC,gJ p.a<=50000∧gJ p.b<=50000:=fun p hp=>by
 obtain⟨z,hz,rfl⟩:=List.mem_map.1 hp;obtain⟨h1,h2⟩:=vJ ha hb z hz;have l1:=Nat.le_trans (jW z.1) h1;have l2:=Nat.le_trans (jX z.1) h1;exact⟨Nat.le_trans (Xz h2 l1) ae,Nat.le_trans (Xz h2 l2) ae⟩
def CfV(s:Value)(m:Rl):Value:= .agg #[s,.bool (decide (m.p.num<0)),.string (bP m.p.num.natAbs),.bool false,.string (dm m.p),.bool (decide (m.r.num<0)),.string (bP m.r.num.natAbs),.bool false,.string (dm m.r),.bool m.n]
def iH(s:Value)(m:Rl):List Value:=[s,.bool (decide (m.p.num<0)),.string (bP m.p.num.natAbs),.bool false,.string (dm m.p),.bool (decide (m.r.num<0)),.string (bP m.r.num.natAbs),.bool false,.string (dm m.r),.bool m.n]
def RJ:List Value:=[.slice none 0 0,aZ,bf,aZ,bf,aZ,bf,aZ,bf,.bool false]
theorem qf5(s:Value):iH s (rl 0)=s::zRc:=congrArg (fun l=>s::l) XL
end Go.Via
namespace Go.Via
open Go
structure CW(a b:List PU):Prop where
 sa:pV gG a
 sb:pV gG b
 ea:Vt a
 eb:Vt b
def kE(a b:List PU)(i:Nat):List (Iv×Qd):=(a.take i).flatMap fun x=>b.filterMap (rZ x)
def yu(x:PU)(b:List PU)(k:Nat):List (Iv×Qd):=(b.take k).filterMap (rZ x)
theorem ZZ{a b:List PU}{i:Nat}{x:PU}(hx:a[i]? =some x):kE a b (i+1)=kE a b i++yu x b b.length:=by
 unfold kE yu;rw[<-fJ hx,List.flatMap_append,List.take_length];simp
theorem Z4{a b:List PU}{i:Nat}{x:PU}:kE a b i++yu x b 0=kE a b i:=by unfold yu;simp
theorem RN{x y:PU}{b:List PU}{k:Nat}(hy:b[k]? =some y):yu x b (k+1)=yu x b k++(rZ x y).toList:=by
 unfold yu;rw[<-fJ hy,List.filterMap_append];exact congrArg (_++ ·) (by rw[List.filterMap_cons];cases rZ x y<;>rfl)
theorem qbY{a b:List PU}(h:CW a b):kE a b a.length=aj a b:=by
 rw[ku nz h.sa h.sb h.ea h.eb];unfold kE flatK;rw[List.take_length]
def Gl{a b:List PU}{i k:Nat}{x y:PU}{z:Iv×Qd}(hx:a[i]? =some x)(hy:b[k]? =some y)(hz:rZ x y=some z):∃r,flatK rZ a b=kE a b i++yu x b k++z::r:=by
 have ha:a=a.take i++x::a.drop (i+1):=by
  obtain⟨h1,h2⟩:=List.getElem?_eq_some_iff.1 hx;rw[<-h2,List.getElem_cons_drop,List.take_append_drop]
 have hb:b=b.take k++y::b.drop (k+1):=by
  obtain⟨h1,h2⟩:=List.getElem?_eq_some_iff.1 hy;rw[<-h2,List.getElem_cons_drop,List.take_append_drop]
 refine⟨(b.drop (k+1)).filterMap (rZ x)++(a.drop (i+1)).flatMap fun x=>b.filterMap (rZ x),?_⟩
 have e:b.filterMap (rZ x)=yu x b k++z::(b.drop (k+1)).filterMap (rZ x):=by
  conv=>lhs;rw[hb]
  rw[List.filterMap_append,List.filterMap_cons_some hz];rfl
 unfold flatK kE
 conv=>lhs;rw[ha]
 rw[List.flatMap_append,List.flatMap_cons,e];simp
def Z5{a b:List PU}(h:CW a b){i k:Nat}{x y:PU}{z:Iv×Qd}(hx:a[i]? =some x)(hy:b[k]? =some y)(hz:rZ x y=some z):z∈aj a b:=by
 obtain⟨r,e⟩:=Gl hx hy hz;rw[ku nz h.sa h.sb h.ea h.eb,e];simp
def qf6{a b:List PU}(h:CW a b){i k:Nat}{x y:PU}{z:Iv×Qd}(hx:a[i]? =some x)(hy:b[k]? =some y)(hz:rZ x y=some z){p:Iv×Qd}(hp:p∈kE a b i++yu x b k):¬bQ z.1.f p.1.f<0:=by
 obtain⟨r,e⟩:=Gl hx hy hz;have hs:=(uS nz h.sb h.eb h.sa h.ea).1;rw[e] at hs;have hk:=(List.pairwise_append.1 hs).2.2 p hp z (List.mem_cons_self ..);have hm:p∈flatK rZ a b:=by rw[e];exact List.mem_append_left _ hp
 have hm2:z∈flatK rZ a b:=(by rw[e];simp);have h1:=FQ nz h.ea h.eb p hm;have h2:=FQ nz h.ea h.eb z hm2;rw[nz.lt h2.1.1 h1.1.1];have q1:=AP gG p.1.b;have q2:=AP gG z.1.b;have e1:p.1.b.1=p.1.f:=rfl;have e2:z.1.b.1=z.1.f:=rfl;have o1:=h1.2;rw[e1] at q1;rw[e2] at q2;omega
def qf7{a b:List PU}(h:CW a b){i k:Nat}{x y:PU}{z:Iv×Qd}(hx:a[i]? =some x)(hy:b[k]? =some y)(hz:rZ x y=some z){p:Iv×Qd}(hp:p∈kE a b i++yu x b k):p∈aj a b:=by
 obtain⟨r,e⟩:=Gl hx hy hz;rw[ku nz h.sa h.sb h.ea h.eb,e];exact List.mem_append_left _ hp
def qf8{a b:List PU}(h:CW a b){i k:Nat}{x y:PU}{z:Iv×Qd}(hx:a[i]? =some x)(hy:b[k]? =some y)(hz:rZ x y=some z):(kE a b i++yu x b k).length<a.length+b.length:=by
 obtain⟨r,e⟩:=Gl hx hy hz;have:=qU a b;rw[ku nz h.sa h.sb h.ea h.eb,e] at this;simp at this ⊢;omega
theorem RP{x y:PU}{m:Iv}(h:dB x.i y.i=some m):rZ x y=some (m,d2 x.f y.f):=by unfold rZ;rw[h];rfl
theorem qf9{x y:PU}(h:dB x.i y.i=none):rZ x y=none:=by unfold rZ;rw[h];rfl
def okZ{x:Rl}(h:gV x):x.ok:=by obtain⟨z,rfl⟩:=h;exact qkI _
theorem qbZ{x y:PU}(hx:gV x.i.f∧gV x.i.t)(hy:gV y.i.f∧gV y.i.t):gm (mF 2) [x.i] [y.i]=(dB x.i y.i).toList:=by
 rw[qnH];exact qeH nz hx hy
end Go.Via
namespace Go.Proofs.YtaffcpfhedadhaaGreatDoor
open Go Go.RowKit Go.Via
def Hy(a:List Iv)(ab:Option Nat)(aN ac:Nat)(hac:a.length<=ac)(han:a.length<=2000000)(b:List Iv)(bb:Option Nat)(bN bc:Nat)(hbc:b.length<=bc:=by omega)(hbn:b.length<=2000000:=by omega):bZ Tryz.prog 103 [⟨ab,61,ai aO a,aN,false⟩,⟨bb,61,ai aO b,bN,false⟩] [ay ab 0 a.length ac,ay bb 0 b.length bc] Unit (fun _=> .bool (decide (a=b))) (fun _=>[]):=by
 refine sB2 26 Tryz.func103 fun w hL0=>?_;refine D7 ?_;refine Cd ?_ ?_<;>intro haQ
 ·have hle:a.length≠b.length:=by have e:=haQ;simp at e;omega
  refine A7 ?_;refine aK rfl (au rfl) (fun w hL=>⟨(),?_,hL.pk []⟩);exact eB (decide_eq_false (fun e=>hle (by rw[e]))).symm
 ·have hle:a.length=b.length:=by have e:=haQ;simp at e;omega
  refine oJ ?_;refine El (ι:={i:Nat // i<=a.length∧a.take i=b.take i}) (fun⟨i,hi,hI⟩=>([(0,ay ab 0 a.length ac),(1,ay bb 0 b.length bc),(11,ay ab 0 a.length ac),(12,bG (a.length)),(13,bG i)],[⟨ab,61,ai aO a,aN,false⟩,⟨bb,61,ai aO b,bN,false⟩],a.length-i)) ⟨0,Nat.zero_le _,rfl⟩ ?_;rintro⟨i,hi,hI⟩;(try dsimp only);refine A6 ?_;refine Cd ?_ ?_<;>intro hbQ
  ·have hlt:i<a.length:=nG;obtain⟨x,hx⟩:∃x,a[i]? =some x:=⟨a[i],List.getElem?_eq_getElem hlt⟩;obtain⟨y,hy⟩:∃y,b[i]? =some y:=⟨_,List.getElem?_eq_getElem ae⟩;refine oJ ?_;refine Di [] ?_;refine A2 ?_;refine MK ?_;refine aG (v:=fV x) 0 ((i)*20) _ rfl rfl rfl rfl mr (bY.sub hx 0 20 ax) rfl ax rfl ?_;refine A2 ?_;refine aI 1 ((i)*20) SC mr rfl rfl rfl rfl rfl ae ae (bY.ne ax ae) yZ ?_;refine aG (v:=fV y) 1 ((i)*20) _ rfl rfl rfl rfl mr (bY.sub hy 0 20 ax) rfl ax rfl ?_;refine EN rfl rfl rfl rfl qoU (qpm _ _) ?_;refine A2 ?_;refine Cd ?_ ?_<;>intro hcQ
   ·have hxy:x≠y:=xC
    refine oJ ?_;refine aK rfl (au rfl) (fun w hL=>⟨(),?_,hL.pk []⟩);exact eB (decide_eq_false (fun e=>hxy (by rw[e,hy] at hx;cases hx;rfl))).symm
   ·have hxy:x=y:=xC
    refine A4 ?_;refine dP ?_;exact Nl ⟨i+1,hlt,by rw[<-fJ hx,<-fJ hy,hI,hxy]⟩ (hL:=dR.auto)
  ·have hge:i=a.length:=nH;subst hge;refine oJ ?_;refine aK rfl (au rfl) (fun w hL=>⟨(),?_,hL.pk []⟩);exact eB (decide_eq_true (Vr hI hle)).symm
def MV(a:List Iv)(ab:Option Nat)(aN ac:Nat)(hac:a.length<=ac)(han:a.length<=2000000)(b:List Iv)(bb:Option Nat)(bN bc:Nat)(hbc:b.length<=bc:=by omega)(hbn:b.length<=2000000:=by omega):bZ Tryz.prog 49 [⟨ab,61,ai aO a,aN,false⟩,⟨bb,61,ai aO b,bN,false⟩] [ay ab 0 a.length ac,ay bb 0 b.length bc] Unit (fun _=> .bool (decide (a=b))) (fun _=>[]):=by
 refine sB2 8 Tryz.func49 fun w hL0=>?_;refine A9 ?_;refine(Sd [0,1]) (Hy a ab aN ac hac han b bb bN bc hbc hbn) ?_;refine A4 ?_;refine aK rfl (au rfl) (fun w hL=>⟨(),?_,hL.pk []⟩);exact rfl
end Go.Proofs.YtaffcpfhedadhaaGreatDoor
namespace Go.Via
open Go Go.Sort Go.Proofs
abbrev MW:=(Rl×Bool)×Int×Int
theorem qga{l:List Iv}{i:Nat}{x:Iv}(hx:l[i]? =some x):Dh (l.take i)++[(x.b,1,0),(x.e,-1,0)]=Dh (l.take (i+1)):=by
 rw[<-fJ hx];unfold Dh;rw[List.flatMap_append];rfl
theorem qgb{l:List Iv}{i:Nat}{x:Iv}(hx:l[i]? =some x):IZ (l.take i)++[(x.b,0,1),(x.e,0,-1)]=IZ (l.take (i+1)):=by
 rw[<-fJ hx];unfold IZ;rw[List.flatMap_append];rfl
def evK(a b:List Iv):Nat->List MW
 |0=>[]
 |1=>Dh a
 |_=>Dh a++IZ b
theorem Z7(l:List Iv):(Dh l).length=2*l.length:=by
 induction l with
 |nil=>rfl
 |cons x l ih=>show(_++Dh l).length=_;rw[List.length_append,ih];simp;omega
theorem Z8(l:List Iv):(IZ l).length=2*l.length:=by
 induction l with
 |nil=>rfl
 |cons x l ih=>show(_++IZ l).length=_;rw[List.length_append,ih];simp;omega
def qgc{a b:List Iv}{e:MW}(h:e∈Dh a++IZ b):(∃i∈a++b,e.1=i.b∨e.1=i.e)∧(-1<=e.2.1∧e.2.1<=1)∧ -1<=e.2.2∧e.2.2<=1:=by
 rcases List.mem_append.1 h with h|h
 ·obtain⟨i,hi,h⟩:=List.mem_flatMap.1 h;simp only[List.mem_cons,List.not_mem_nil,or_false] at h;rcases h with rfl|rfl
  ·exact⟨⟨i,List.mem_append_left _ hi,.inl rfl⟩,Ry⟩
  ·exact⟨⟨i,List.mem_append_left _ hi,.inr rfl⟩,Ry⟩
 ·obtain⟨i,hi,h⟩:=List.mem_flatMap.1 h;simp only[List.mem_cons,List.not_mem_nil,or_false] at h;rcases h with rfl|rfl
  ·exact⟨⟨i,List.mem_append_right _ hi,.inl rfl⟩,Ry⟩
  ·exact⟨⟨i,List.mem_append_right _ hi,.inr rfl⟩,Ry⟩
def qpK{S:Rl->Prop}{a b:List Iv}(ha:jZ S a)(hb:jZ S b){e:MW}(h:e∈Dh a++IZ b):S e.1.1:=by
 obtain⟨⟨i,hi,h1⟩,_⟩:=qgc h;have h2:S i.f∧S i.t:=by
  rcases List.mem_append.1 hi with h|h;exact ha i h;exact hb i h
 rcases h1 with h1|h1<;>rw[h1];exact h2.1;exact h2.2
section
variable{α:Type}{κ:α->Int}{keep:Bool->Bool->Bool}
def stO(inn:Bool)(f:α):Option α:=if inn=true then some f else none
theorem vK{β:Type}{l:List β}{i:Nat}{x:β}(h:l[i]? =some x):l.drop i=x::l.drop (i+1):=by
 obtain⟨hl,rfl⟩:=List.getElem?_eq_some_iff.1 h;exact List.drop_eq_getElem_cons hl
theorem qgd{l:List (α×Int×Int)}{i:Nat}{x y:α×Int×Int}{m n:Int}{st:Option α}(hx:l[i]? =some x)(hy:l[i+1]? =some y)(h:κ x.1=κ y.1):NI κ keep (l.drop i) m n st=NI κ keep (l.drop (i+1)) (m+x.2.1) (n+x.2.2) st:=by
 rw[vK hx,vK hy];conv=>lhs;unfold NI;rw[if_pos h]
theorem qge{l:List (α×Int×Int)}{i:Nat}{x:α×Int×Int}{m n:Int}{st:Option α}(hx:l[i]? =some x)(h:∀y,l[i+1]? =some y->κ x.1≠κ y.1):
 NI κ keep (l.drop i) m n st=match st,keep (decide (0<m+x.2.1)) (decide (0<n+x.2.2)) with
  |none,true=>NI κ keep (l.drop (i+1)) (m+x.2.1) (n+x.2.2) (some x.1)
  |some f,false=>(f,x.1)::NI κ keep (l.drop (i+1)) (m+x.2.1) (n+x.2.2) none
  |st,_=>NI κ keep (l.drop (i+1)) (m+x.2.1) (n+x.2.2) st:=by
 rw[vK hx];cases hy:l[i+1]? with
 |none=>
  have e:l.drop (i+1)=[]:=List.drop_eq_nil_of_le (List.getElem?_eq_none_iff.1 hy);rw[e];cases st<;>cases hk:keep (decide (0<m+x.2.1)) (decide (0<n+x.2.2))<;>simp[NI,hk]
 |some y=>
  rw[vK hy]
  conv=>lhs;unfold NI
  rw[if_neg (h y hy)];cases st<;>cases hk:keep (decide (0<m+x.2.1)) (decide (0<n+x.2.2))<;>simp
theorem qnL{l:List (α×Int×Int)}{i:Nat}{x:α×Int×Int}{m n:Int}{inn now:Bool}{fb:α}(hx:l[i]? =some x)(h:∀y,l[i+1]? =some y->κ x.1≠κ y.1)(hn:keep (decide (0<m+x.2.1)) (decide (0<n+x.2.2))=now):
 NI κ keep (l.drop i) m n (stO inn fb)=(if inn=true∧now=false then[(fb,x.1)] else[])++NI κ keep (l.drop (i+1)) (m+x.2.1) (n+x.2.2) (stO now (if now=true∧inn=false then x.1 else fb)):=by
 rw[qge hx h,hn];cases inn<;>cases now<;>rfl
end
def ivP(p:qB×qB):Iv:=NK p.1 p.2
def swO(κ:qB->Int)(keep:Bool->Bool->Bool)(l:List MW)(i:Nat)(m n:Int)(inn:Bool)(fb:qB):List Iv:=(NI κ keep (l.drop i) m n (stO inn fb)).map ivP
theorem qjM{κ:qB->Int}{keep:Bool->Bool->Bool}{l:List MW}{m n:Int}{inn:Bool}{fb:qB}:swO κ keep l l.length m n inn fb=[]:=by
 unfold swO;rw[List.drop_length];rfl
def qgf{S:Rl->Prop}{ρ:Rl->Int}(T:fF S ρ){op:Bool->Bool->Bool}(h0:op false false=false){a b:List Iv}(ha:jZ S a)(hb:jZ S b)(oa:G7 ρ a)(ob:G7 ρ b)
 {l:List MW}(hp:l.Perm (Dh a++IZ b))(hl:l.Pairwise (fun x y=>aW ρ x.1<=aW ρ y.1))(fb:qB):swO (aW ρ) op l 0 0 0 false fb=gm op a b:=by
 obtain⟨s1,s2⟩:=uO T (uq (ni ha hb));unfold swO gm;rw[List.drop_zero];show List.map ivP (NI (aW ρ) op l 0 0 none)=_;rw[WX T h0 ha hb oa ob s1 (fun x=>by rw[s2,wJ]) hp hl]
 rfl
theorem qgg{S:Rl->Prop}{ρ:Rl->Int}(T:fF S ρ){a b:qB}(ha:S a.1)(hb:S b.1):wW a b=0↔aW ρ a=aW ρ b:=by
 rw[UK T ha hb];unfold zZ;split<;>(try split)<;>omega
theorem Z9{S:Rl->Prop}{ρ:Rl->Int}(T:fF S ρ){a b:qB}(ha:S a.1)(hb:S b.1):wW a b<0↔aW ρ a<aW ρ b:=by
 rw[UK T ha hb];unfold zZ;split<;>(try split)<;>omega
theorem qgh{S:Rl->Prop}{ρ:Rl->Int}(T:fF S ρ){keep:Bool->Bool->Bool}{l:List MW}{i:Nat}{x y:MW}{m n:Int}{inn:Bool}{fb:qB}(hx:l[i]? =some x)(hy:l[i+1]? =some y)(sx:S x.1.1)(sy:S y.1.1)(h:wW x.1 y.1=0):swO (aW ρ) keep l i m n inn fb=swO (aW ρ) keep l (i+1) (m+x.2.1) (n+x.2.2) inn fb:=by
 unfold swO;rw[qgd hx hy ((qgg T sx sy).1 h)]
def Far(ρ:Rl->Int)(l:List MW)(i:Nat)(x:MW):Prop:=∀y,l[i+1]? =some y->aW ρ x.1≠aW ρ y.1
def qjN{ρ:Rl->Int}{l:List MW}{i:Nat}{x:MW}(h:¬i+1<l.length):Far ρ l i x:=fun y hy=>by
 rw[List.getElem?_eq_none ae] at hy;cases hy
def qnM{S:Rl->Prop}{ρ:Rl->Int}(T:fF S ρ){l:List MW}{i:Nat}{x y:MW}(hy:l[i+1]? =some y)(sx:S x.1.1)(sy:S y.1.1)(h:wW x.1 y.1≠0):Far ρ l i x:=fun z hz e=>by
 rw[hy] at hz;cases hz;exact h ((qgg T sx sy).2 e)
theorem qgi{ρ:Rl->Int}{keep:Bool->Bool->Bool}{l:List MW}{i:Nat}{x:MW}{m n:Int}{inn now:Bool}{fb:qB}(hx:l[i]? =some x)(h:Far ρ l i x)(hn:keep (decide (0<m+x.2.1)) (decide (0<n+x.2.2))=now):
 swO (aW ρ) keep l i m n inn fb=(if inn=true∧now=false then[NK fb x.1] else[])++swO (aW ρ) keep l (i+1) (m+x.2.1) (n+x.2.2) now (if now=true∧inn=false then x.1 else fb):=by
 unfold swO;rw[qnL hx h hn,List.map_append]
 congr 1
 split<;>rfl
def qrO:List Value:=[aZ,bf,aZ,bf,aZ,bf,aZ,bf,.bool false,.bool false]
theorem qnN:wX (rl 0,false)=qrO:=by
 have h:=XL;show je (rl 0)++[.bool false]=_;rw[h];rfl
abbrev EvS(S:Rl->Prop):={e:MW // S e.1.1∧gJ e.1.1<=50000}
def evc{S:Rl->Prop}(x:EvS S):List Value:=kw x.1
theorem RQ{S:Rl->Prop}:jb (EvS S) evc 12:=⟨fun _=>rfl,fun x v hv=>xh.one x.1 v hv⟩
theorem PW{S:Rl->Prop}(l:List (EvS S)):ai evc l=ai kw (l.map (·.1)):=by
 induction l with
 |nil=>rfl
 |cons x l ih=>rw[gY,List.map_cons,gY,ih];rfl
def qnO{S:Rl->Prop}{ρ:Rl->Int}(T:fF S ρ):SWO (Go.Proofs.ltOf fun x y:EvS S=>wW x.1.1 y.1.1):=by
 have h:∀x y:EvS S,Go.Proofs.ltOf (fun x y:EvS S=>wW x.1.1 y.1.1) x y=decide (aW ρ x.1.1<aW ρ y.1.1):=fun x y=>by
  unfold Go.Proofs.ltOf;exact decide_eq_decide.2 (Z9 T x.2.1 y.2.1)
 refine⟨fun x=>?_,fun x y z=>?_,fun x y z=>?_⟩
 ·rw[h];simp
 ·rw[h,h,h];simp only[decide_eq_true_eq];omega
 ·rw[h,h,h];simp only[decide_eq_false_iff_not];omega
def qaa{S:Rl->Prop}:∀{l:List MW},(∀e∈l,S e.1.1∧gJ e.1.1<=50000)->∃l':List (EvS S),l'.map (·.1)=l
 |[],_=>⟨[],rfl⟩
 |e::l,h=>by
  obtain⟨l',e'⟩:=qaa fun x hx=>h x (List.mem_cons_of_mem _ hx)
  exact⟨⟨e,h e (List.mem_cons_self ..)⟩::l',by rw[List.map_cons,e']⟩
end Go.Via
namespace Go.Proofs.YtaffcpfhedadhaaGreatDoor
open Go Go.RowKit Go.Via Go.Sort Go.Shelf
def qgk{S:Rl->Prop}{ρ:Rl->Int}(T:fF S ρ)(l:List MW)(b:Option Nat)(n cap:Nat)(hl:l.length<=cap)(hn:cap*12<=n)(hS:∀e∈l,S e.1.1∧gJ e.1.1<=50000)(hc:l.length<=1000000:=by omega):
 Dc Tryz.prog 192 [⟨b,253,ai kw l,n,true⟩] [ay b 0 l.length cap,.func (.func 193) #[] #[]] {l':List MW // l'.Perm l∧l'.Pairwise (fun x y=>aW ρ x.1<=aW ρ y.1)} (fun _=> .tuple #[]) (fun z=>[⟨b,253,ai kw z.1,n,true⟩]):=by
 refine⟨ak,fun B w hD hL=>?_⟩
 by_cases h0:l=[]
 ·subst h0;have h1:=AnyF.slices_SortFunc_none Tryz.sortEv (b.map fun g=>⟨g,0,none⟩) cap (.func (.func 193) #[] #[]) w;refine Calls.mono h1 ?_;rintro e w' ⟨rfl,rfl⟩;exact⟨⟨[],List.Perm.refl _,List.Pairwise.nil⟩,rfl,hL⟩
 ·cases b with
  |none=>
   have h2:=((hL.blk 0 _ rfl).2 rfl).1;have h3:=congrArg List.length h2;rw[xh.length] at h3;exact absurd (List.eq_nil_of_length_eq_zero (by rw[List.length_nil] at h3;omega)) h0
  |some g=>
   have hl0:=List.length_pos_iff.2 h0;have hn0:n≠0:=ae;obtain⟨l',rfl⟩:=qaa hS;have hd:∃x:EvS S,x∈l':=List.exists_mem_of_ne_nil _ (fun e=>h0 (by rw[e];rfl));obtain⟨d,_⟩:=hd
   letI:Inhabited (EvS S):=⟨d⟩
   rw[<-PW] at hL;have hlen:(l'.map (·.1)).length=l'.toArray.size:=bI
   have h1:=AnyQ.slices_SortFunc Tryz.sortEv 12 Tryz.isAgg253 Tryz.sizeOf253 evc (fun x=>rfl) (fun x v hv=>xh.one x.1 v hv) (fun x y:EvS S=>wW x.1.1 y.1.1) (qnO T) 193 #[] g 0 cap l'.toArray w
    (enters_of Tryz.func193 ak rfl) (@Zx (EvS S) _ evc 12 mo1 trivial Tryz.prog 193 (fun x y=>wW x.1.1 y.1.1) (fun x y=> @Jc mo1 x.1 y.1 x.2.2 y.2.2) g 0 l'.toArray.size w)
    (PE RQ (j:=0) hL rfl hn0) (hL.lt (k:=0) rfl rfl) (by simp at hc ⊢;omega)
   rw[<-hlen] at h1;refine Calls.mono h1 ?_;rintro e w' ⟨rfl,d',m,os,hp,hs,rfl⟩;rw[hlen] at hp hs;have hp':=qjm hp;have hs':=qbS hs hp.1;refine⟨⟨d'.toList.map (·.1),hp'.map _,?_⟩,rfl,?_⟩
   ·rw[List.pairwise_map];refine hs'.imp fun {x y} h=>?_
    have h2:¬wW y.1.1 x.1.1<0:=of_decide_eq_false h;rw[Z9 T y.2.1 x.2.1] at h2;omega
   ·show bg B [⟨some g,253,ai kw (d'.toList.map (·.1)),n,true⟩] _;rw[<-PW];have hx:=FX RQ (j:=0) (m:=m) (os:=os) (l':=d'.toList) hL rfl (by rw[RQ.length,hp'.length_eq];simp at hl;omega) hn0
    simpa using hx
end Go.Proofs.YtaffcpfhedadhaaGreatDoor
namespace Go.Proofs.YtaffcpfhedadhaaGreatDoor
open Go Go.RowKit Go.Via
variable[Mo]
def qb3(a b c:Int)(g:Nat):bZ Tryz.prog 218 [⟨some g,3,[.int .i64 a,.int .i64 b,.int .i64 c],3,false⟩] [ay (some g) 0 3 3] Unit (fun _=> .int .i64 (or3 a b c)) (fun _=>[]):=by
 refine O3 18 Tryz.func218 fun w hL0=>?_;refine A19 ?_;refine El (ι:={i:Nat // i<=3∧∀j,j<i->[a,b,c].getD j 0=0}) (fun⟨i,hi,ha⟩=>([(3,.int .i64 0),(6,ay (some g) 0 3 3),(7,.int .i64 3),(8,bG i)],[⟨some g,3,[.int .i64 a,.int .i64 b,.int .i64 c],3,false⟩],3-i)) ⟨0,ae,fun j h=>absurd h ae⟩ ?_;rintro⟨i,hi,ha⟩;(try dsimp only);refine A6 ?_;refine Cd ?_ ?_<;>intro haQ
 ·have hlt:i<3:=iL;refine A6 ?_;refine Ix 0 i ?_;refine Qn (v:= .int .i64 ([a,b,c].getD i 0)) 0 i C9 rfl rfl rfl rfl (qjH a b c i hlt) ?_;refine lD ?_;refine Cd ?_ ?_<;>intro hbQ
  ·have hne:[a,b,c].getD i 0≠0:=Dk
   refine nT ?_;refine aK rfl (au rfl) (fun w hL=>⟨(),?_,hL.pk []⟩);rw[qjI hlt ha hne]
  ·have he:[a,b,c].getD i 0=0:=Dk
   refine A4 ?_;refine dP ?_;exact Nl ⟨i+1,hlt,qfM ha he⟩
 ·have hge:i=3:=jc;subst hge;refine nT ?_;refine aK rfl (au rfl) (fun w hL=>⟨(),?_,hL.pk []⟩);rw[qnD ha]
def MX(i:Iv):aP Tryz.prog 217 #[fV i] (.int .i64 (opI i)):=by
 refine xI 5 Tryz.func217 fun w=>?_;refine A2 ?_;refine Bp 20 (fun g0=>?_);refine lD ?_;refine Cd ?_ ?_<;>intro haQ
 ·refine A7 ?_;refine E0 ?_;rw[opI,if_pos haQ]
 ·refine A8 ?_;refine E0 ?_;rw[opI,if_neg Md]
def qb4(a b:PU)(ha:jH a.i<=50000:=by omega)(hb:jH b.i<=50000:=by omega):aP Tryz.prog 216 #[PUV a,PUV b] (.int .i64 (N7 a b)):=by
 have a1:=Nat.le_trans (jW a.i) ha;have a2:=Nat.le_trans (jX a.i) ha;have b1:=Nat.le_trans (jW b.i) hb;have b2:=Nat.le_trans (jX b.i) hb;refine oz 31 Tryz.func216 fun w=>?_;refine A2 ?_;refine Bp 36 (fun g0=>?_);refine Bp 36 (fun g1=>?_);refine A9 ?_;refine Dp [] [0,1,2,3,4,5,7,8,9,11,12,13,16,17,18,19,20,21,6,10,14,15,22,23,24,25] ?_ (hc:=(pO [0,1,3,0,8,24,63,0,0,256,1023,0,0,4096,16383,32767,0,65536,196608,0,524288,1572864,4194303,8388607,16777215,33554431] ak));refine A2 ?_;refine L9 0 0 ?_;refine A2 ?_;refine L9 1 0 ?_;refine A2 ?_;refine yz 0 0 ?_;refine A2 ?_;refine yz 1 0 ?_;refine A2 ?_;refine L9 0 9 ?_;refine A2 ?_;refine L9 1 9 ?_;refine Pc (dI a.i.f b.i.f) ?_;refine oK [_] rfl rfl rfl rfl (MX a.i) ?_;refine oK [_] rfl rfl rfl rfl (MX b.i) ?_;refine Pc (wY (opI a.i) (opI b.i)) ?_;refine Pc (dI a.i.t b.i.t) ?_;refine(Bl 3 [(0,_),(1,_),(2,_)]) (qhZ) (fun g2=>?_);refine(Sd [2]) (qb3 _ _ _ _) ?_;refine A4 ?_;refine E0 ?_;rw[qfN]
end Go.Proofs.YtaffcpfhedadhaaGreatDoor
namespace Go.Via
open Go Go.Sort Go.Proofs
abbrev PUS:={u:PU // jH u.i<=50000}
def puc(x:PUS):List Value:=aB x.1
theorem RS:jb PUS puc 36:=⟨fun _=>rfl,fun x v hv=>aX.one x.1 v hv⟩
theorem PX(l:List PUS):ai puc l=ai aB (l.map (·.1)):=by
 induction l with
 |nil=>rfl
 |cons x l ih=>rw[gY,List.map_cons,gY,ih];rfl
def qab:∀{l:List PU},(∀u∈l,jH u.i<=50000)->∃l':List PUS,l'.map (·.1)=l
 |[],_=>⟨[],rfl⟩
 |e::l,h=>by
  obtain⟨l',e'⟩:=qab fun x hx=>h x (List.mem_cons_of_mem _ hx)
  exact⟨⟨e,h e (List.mem_cons_self ..)⟩::l',by rw[List.map_cons,e']⟩
def qac(l:List PU):Prop:=l.Pairwise fun x y=>decide (N7 y x<0)=false
end Go.Via
namespace Go.Proofs.YtaffcpfhedadhaaGreatDoor
open Go Go.RowKit Go.Via Go.Sort Go.Shelf
def qjP(l:List PU)(b:Option Nat)(n cap:Nat)(hs:qac l)(hz:∀u∈l,jH u.i<=50000)(hl:l.length<=cap:=by omega)(hn:cap*36<=n:=by omega)(hc:l.length<=1000000:=by omega):
 Dc Tryz.prog 264 [⟨b,201,ai aB l,n,true⟩] [ay b 0 l.length cap,.int .i64 0,.int .i64 (l.length:Nat),.func (.func 216) #[] #[]] Unit (fun _=> .tuple #[]) (fun _=>[⟨b,201,ai aB l,n,true⟩]):=by
 refine⟨ak,fun B w hD hL=>?_⟩
 by_cases h0:l=[]
 ·subst h0;have h1:=AnyF.insertionSortCmpFunc_none Tryz.insPU (b.map fun g=>⟨g,0,none⟩) cap (.func (.func 216) #[] #[]) w;refine Calls.mono h1 ?_;rintro e w' ⟨rfl,rfl⟩;exact⟨(),rfl,hL⟩
 ·cases b with
  |none=>
   have h2:=((hL.blk 0 _ rfl).2 rfl).1;have h3:=congrArg List.length h2;rw[aX.length] at h3;exact absurd (List.eq_nil_of_length_eq_zero (by rw[List.length_nil] at h3;omega)) h0
  |some g=>
   have hl0:=List.length_pos_iff.2 h0;have hn0:n≠0:=ae;obtain⟨l',rfl⟩:=qab hz;have hd:∃x:PUS,x∈l':=List.exists_mem_of_ne_nil _ (fun e=>h0 (by rw[e];rfl));obtain⟨d,_⟩:=hd
   letI:Inhabited PUS:=⟨d⟩
   rw[<-PX] at hL;have hlen:(l'.map (·.1)).length=l'.toArray.size:=bI
   have h1:=AnyQ.insertionSortCmpFunc Tryz.insPU 36 Tryz.isAgg201 Tryz.sizeOf201 puc (fun x=>rfl) (fun x v hv=>aX.one x.1 v hv) (fun x y:PUS=>N7 x.1 y.1) 216 #[] g 0 cap 0 l'.toArray.size l'.toArray w
    (enters_of Tryz.func216 ak rfl) (@Zx PUS _ puc 36 mo1 trivial Tryz.prog 216 (fun x y=>N7 x.1 y.1) (fun x y=> @qb4 mo1 x.1 y.1 x.2 y.2) g 0 l'.toArray.size w)
    (PE RS (j:=0) hL rfl hn0) (hL.lt (k:=0) rfl rfl) (Nat.zero_le _) (Nat.le_refl _) (by simp at hc ⊢;omega)
   rw[<-hlen] at h1;refine Calls.mono h1 ?_;rintro e w' ⟨rfl,m,os,rfl⟩;have hid:Sort.insertionSort (ltOf fun x y:PUS=>N7 x.1 y.1) l'.toArray 0 (l'.map (·.1)).length=l'.toArray:=by
    rw[List.length_map];refine QZ ?_;have:=List.pairwise_map.1 hs;exact this
   rw[hid];refine⟨(),rfl,?_⟩;rw[<-PX];have hx:=FX RS (j:=0) (m:=m) (os:=os) (l':=l') hL rfl (by rw[RS.length];simp at hl;omega) hn0
   simpa using hx
end Go.Proofs.YtaffcpfhedadhaaGreatDoor
namespace Go.Via
open Go
instance{n s:Nat}:Nonempty (OR n s):=⟨⟨none,n*s,n,Nat.le_refl _,Nat.le_refl _⟩⟩
theorem qV{l:List PU}{i:Nat}{x:PU}(hx:l[i]? =some x):aH (l.take i)++iT x=aH (l.take (i+1)):=by
 rw[<-fJ hx];unfold aH;rw[List.flatMap_append];simp
def y5(t:Rl)(f:Ln):PU:=⟨⟨t,t,false,false⟩,f⟩
def mG(x:PU):PU:=⟨⟨x.i.f,x.i.t,true,true⟩,x.f⟩
theorem qgl{x:PU}(h1:x.i.fo=false)(h2:eF x.i=true):iT x=[y5 x.i.f x.f]:=by unfold iT;rw[h1,h2];rfl
theorem qgm{x:PU}(h1:x.i.fo=false)(h2:eF x.i=false)(h3:x.i.tp=false):iT x=[y5 x.i.f x.f,mG x,y5 x.i.t x.f]:=Rz
theorem qgn{x:PU}(h1:x.i.fo=false)(h2:eF x.i=false)(h3:x.i.tp=true):iT x=[y5 x.i.f x.f,mG x]:=Rz
theorem qgo{x:PU}(h1:x.i.fo=true)(h2:eF x.i=true):iT x=[]:=by unfold iT;rw[h1,h2];rfl
theorem qgp{x:PU}(h1:x.i.fo=true)(h2:eF x.i=false)(h3:x.i.tp=false):iT x=[mG x,y5 x.i.t x.f]:=Rz
theorem qgq{x:PU}(h1:x.i.fo=true)(h2:eF x.i=false)(h3:x.i.tp=true):iT x=[mG x]:=Rz
theorem PY{l:List PU}{u:PU}{t:Rl}(h:l[l.length-1]? =some u):rY l t=(decide (u.i.t=t)&& !u.i.tp):=by
 unfold rY;rw[List.getLast?_eq_getElem?,h]
theorem qb5{l:List PU}{t:Rl}(h:¬0<l.length):rY l t=false:=by
 have:l=[]:=List.eq_nil_of_length_eq_zero ae;subst this;rfl
def qb6{l:List PU}{t:Rl}(h:¬0<l.length):ug l t=none:=by
 have:l=[]:=List.eq_nil_of_length_eq_zero ae;subst this;rfl
def qjQ{l:List PU}{u:PU}{t:Rl}(h:l[l.length-1]? =some u)(h1:u.i.t≠t):ug l t=none:=by
 unfold ug;rw[List.getLast?_eq_getElem?,h];dsimp only;rw[if_neg fun e=>h1 e.1]
def qjR{l:List PU}{u:PU}{t:Rl}(h:l[l.length-1]? =some u)(h1:eF u.i=true):ug l t=none:=by
 unfold ug;rw[List.getLast?_eq_getElem?,h];dsimp only;rw[if_neg fun e=>by rw[e.2] at h1;cases h1]
def qjS{l:List PU}{u:PU}{t:Rl}(h:l[l.length-1]? =some u)(h1:u.i.t=t)(h2:eF u.i=false):ug l t=some u:=by
 unfold ug;rw[List.getLast?_eq_getElem?,h];dsimp only;rw[if_pos ⟨h1,h2⟩]
def qgr{l:List PU}{u:PU}{t:Rl}(h:ug l t=some u):l[l.length-1]? =some u∧u.i.t=t∧eF u.i=false:=by
 obtain⟨h1,h2⟩:=x9 h;rw[List.getLast?_eq_getElem?] at h1;exact⟨h1,h2⟩
def bfP(ob:Option Nat)(n:Nat):Option PU->Option Addr
 |none=>none
 |some _=>some ⟨ob.getD 0,(n-1)*36,none⟩
def pg(A:List PU):Nat->Option PU
 |0=>none
 |i+1=>A[i]?
def nrm(A:List PU)(i:Nat)(o:List PU):List PU:=uP (pg A i) o (A.drop i)
theorem Bq{A:List PU}{i:Nat}{x:PU}{o:List PU}(hx:A[i]? =some x):nrm A i o=nrm A (i+1) (kC o (pg A i) x A[i+1]?):=by
 unfold nrm;rw[vK hx];show uP (some x) (kC o (pg A i) x (A.drop (i+1)).head?) (A.drop (i+1))=_;rw[List.head?_drop];show _=uP (A[i]?) _ _;rw[hx]
def qjT{A o:List PU}:nrm A A.length o=o:=by unfold nrm;rw[List.drop_length];cases pg A A.length<;>rfl
theorem Vu{o:List PU}{u v:PU}(h:o[o.length-1]? =some u):o.set (o.length-1) v=jk o v:=by
 have hne:o≠[]:=fun e=>by rw[e] at h;simp at h
 have e:o=o.dropLast++[u]:=by
  have h2:o.getLast? =some u:=(by rw[List.getLast?_eq_getElem?];exact h);exact pW h2
 unfold jk;rw[e];simp
def Bv(o:List PU)(prev:Option PU)(x:PU):Bool:=match prev with
 |some p=>if eF p.i=true∧p.i.f=x.i.f∧rY o x.i.f=false then false else x.i.fo
 |none=>x.i.fo
section
variable{o:List PU}{prev next:Option PU}{x b:PU}
theorem qrP(hi:eF x.i=false)(hb:ug o x.i.f=some b)(h1:b.i.tp=false)(h2:b.f=x.f):kC o prev x next=jk o ⟨⟨b.i.f,x.i.t,b.i.fo,true⟩,b.f⟩:=by
 unfold kC;rw[hi,hb];dsimp only;rw[if_pos ⟨h1,h2⟩]
def qpL(hi:eF x.i=false)(hb:ug o x.i.f=some b)(h:¬(b.i.tp=false∧b.f=x.f)):kC o prev x next=o++[⟨⟨x.i.f,x.i.t,Bv o prev x,x.i.tp⟩,x.f⟩]:=by
 unfold kC;rw[hi,hb];dsimp only;rw[if_neg h];rfl
def qrQ(hi:eF x.i=false)(hb:ug o x.i.f=none):kC o prev x next=o++[⟨⟨x.i.f,x.i.t,Bv o prev x,x.i.tp⟩,x.f⟩]:=by
 unfold kC;rw[hi,hb];rfl
theorem qrR(hi:eF x.i=true)(hb:ug o x.i.f=some b)(h:pU b.f x.f x.i.f=true):kC o prev x next=jk o ⟨⟨b.i.f,b.i.t,b.i.fo,false⟩,b.f⟩:=by
 unfold kC;rw[hi,hb];dsimp only;rw[if_pos h]
def zy(o:List PU)(next:Option PU)(x:PU):List PU:=match next with
 |some n=>if n.i.f=x.i.f∧pU n.f x.f x.i.f=true then o else o++[⟨x.i,jK x.f x.i.f⟩]
 |none=>o++[⟨x.i,jK x.f x.i.f⟩]
def qrS(hi:eF x.i=true)(hb:ug o x.i.f=some b)(h:pU b.f x.f x.i.f=false):kC o prev x next=zy o next x:=by
 unfold kC;rw[hi,hb];dsimp only;rw[if_neg Ue];rfl
def qrT(hi:eF x.i=true)(hb:ug o x.i.f=none):kC o prev x next=zy o next x:=by
 unfold kC;rw[hi,hb];rfl
def qlo(h:prev=none):Bv o prev x=x.i.fo:=by rw[h];rfl
def MZ{p:PU}(h:prev=some p)(h1:¬(eF p.i=true∧p.i.f=x.i.f∧rY o x.i.f=false)):Bv o prev x=x.i.fo:=by
 rw[h];unfold Bv;dsimp only;rw[if_neg h1]
def qnQ{p:PU}(h:prev=some p)(h1:eF p.i=true)(h2:p.i.f=x.i.f)(h3:rY o x.i.f=false):Bv o prev x=false:=by
 rw[h];unfold Bv;dsimp only;rw[if_pos ⟨h1,h2,h3⟩]
theorem qlp(h:next=none):zy o next x=o++[⟨x.i,jK x.f x.i.f⟩]:=by rw[h];rfl
theorem qnR{n:PU}(h:next=some n)(h1:n.i.f=x.i.f)(h2:pU n.f x.f x.i.f=true):zy o next x=o:=by rw[h];unfold zy;dsimp only;rw[if_pos ⟨h1,h2⟩]
theorem XN{n:PU}(h:next=some n)(h1:¬(n.i.f=x.i.f∧pU n.f x.f x.i.f=true)):zy o next x=o++[⟨x.i,jK x.f x.i.f⟩]:=by rw[h];unfold zy;dsimp only;rw[if_neg h1]
end
def qrU{o:List PU}{next:Option PU}{x n:PU}(h:next=some n)(h1:n.i.f=x.i.f):zy o next x=if pU n.f x.f x.i.f=true then o else o++[⟨x.i,jK x.f x.i.f⟩]:=by
 cases hs:pU n.f x.f x.i.f
 ·rw[XN h (fun e=>by rw[hs] at e;cases e.2)];rfl
 ·rw[qnR h h1 hs];rfl
def Vw{A:List PU}{i:Nat}{p:PU}(hi:0<i)(hp:A[i-1]? =some p):pg A i=some p:=by
 obtain⟨j,rfl⟩:∃j,i=j+1:=⟨i-1,ae⟩;exact hp
def qb7{S:Rl->Prop}{ρ:Rl->Int}(T:fF S ρ){l:List PU}(hs:pV ρ l)(he:Go.Via.Ends S l){i:Nat}{u x:PU}(hi:0<i)(hu:l[i-1]? =some u)(hx:l[i]? =some x):Xb u.i x.i=true:=by
 obtain⟨h1,rfl⟩:=List.getElem?_eq_some_iff.1 hu;obtain⟨h2,rfl⟩:=List.getElem?_eq_some_iff.1 hx;have:=List.pairwise_iff_getElem.1 hs.1 (i-1) i h1 h2 ae;exact(U3 T (he _ (List.getElem_mem h1)).2 (he _ (List.getElem_mem h2)).1).2 this
def Na{l:List PU}{a b:Nat}(hz:∀u∈l,jH u.i<=a∧jP u.f<=b):∀x∈aH l,jH x.i<=a∧jP x.f<=b:=fun x hx=>by
 obtain⟨u,hu,hx⟩:=List.mem_flatMap.1 hx;obtain⟨h1,h2⟩:=hz u hu;have h3:=jW u.i;have h4:=jX u.i;unfold iT at hx;rcases List.mem_append.1 hx with hx|hx
 ·split at hx
  ·cases hx
  ·rw[List.mem_singleton] at hx;subst hx;exact⟨xA (Nat.le_trans h3 h1) (Nat.le_trans h3 h1),h2⟩
 ·split at hx
  ·cases hx
  ·rcases List.mem_cons.1 hx with hx|hx
   ·subst hx;exact⟨xA (Nat.le_trans h3 h1) (Nat.le_trans h4 h1),h2⟩
   ·split at hx
    ·cases hx
    ·rw[List.mem_singleton] at hx;subst hx;exact⟨xA (Nat.le_trans h4 h1) (Nat.le_trans h4 h1),h2⟩
def XO{o:List PU}{k n:Nat}{i:Iv}{f:Ln}(h:∀u∈o,jP u.f<=n)(hf:jP f<=n):∀u∈o.set k ⟨i,f⟩,jP u.f<=n:=fun u hu=>by
 rcases List.mem_or_eq_of_mem_set hu with h1|h1
 ·exact h u h1
 ·subst h1;exact hf
def qgs{o:List PU}{n:Nat}{i:Iv}{f:Ln}(h:∀u∈o,jP u.f<=n)(hf:jP f<=n):∀u∈o++[⟨i,f⟩],jP u.f<=n:=fun u hu=>by
 rcases List.mem_append.1 hu with h1|h1
 ·exact h u h1
 ·rw[List.mem_singleton] at h1;subst h1;exact hf
def qjU{f:Ln}{t:Rl}(hf:jP f<=1000)(ht:gJ t<=1000):jP (jK f t)<=8000:=by
 have h3:=sF t;have a0:=rD f;have a1:=rE f;have a2:=rF f;have a3:=rG f;have z:=zo;have h1:cO (uI (qx f) t.p)<=5000:=by
  have h:=xy (qx f) t.p;have e:cO (qx f).c2<=2:=z;have e0:cO (qx f).c0=cO f.x0:=rfl;have e1:cO (qx f).c1=cO f.x1:=rfl;omega
 have h2:cO (uI (qy f) t.p)<=5000:=by
  have h:=xy (qy f) t.p;have e:cO (qy f).c2<=2:=z;have e0:cO (qy f).c0=cO f.y0:=rfl;have e1:cO (qy f).c1=cO f.y1:=rfl;omega
 unfold jK
 split
 ·show max (max (cO (uI (qx f) t.p)) (cO 0)) (max (cO (uI (qy f) t.p)) (cO 0))<=8000;omega
 ·omega
end Go.Via
namespace Go.Proofs.YtaffcpfhedadhaaGreatDoor
open Go
def qjV:Tryz.prog.underlying 242=some (.pointer 201):=ak
end Go.Proofs.YtaffcpfhedadhaaGreatDoor
namespace Go.Proofs.YtaffcpfhedadhaaGreatDoor
open Go Go.RowKit Go.Via
def Bz{S:Rl->Prop}{ρ:Rl->Int}(T:fF S ρ)(kf:Nat)(keep:Bool->Bool->Bool)(hkp:∀x y,aP Tryz.prog kf #[.bool x,.bool y] (.bool (keep x y)))(h0:keep false false=false)(a:List Iv)(ab:Option Nat)(aN ac:Nat)(hac:a.length<=ac)(han:a.length<=1000)(b:List Iv)(bb:Option Nat)(bN bc:Nat)(hbc:b.length<=bc)(hbn:b.length<=1000)(ha:jZ S a)(hb:jZ S b)(oka:G7 ρ a)(okb:G7 ρ b)(hza:∀x∈a,jH x<=50000)(hzb:∀x∈b,jH x<=50000):bZ Tryz.prog 152 [⟨ab,61,ai aO a,aN,false⟩,⟨bb,61,ai aO b,bN,false⟩] [ay ab 0 a.length ac,ay bb 0 b.length bc,.func (.func kf) #[] #[]] (SR (gm keep a b).length) SR.v (fun z=>[⟨z.b,61,ai aO (gm keep a b),z.n,true⟩]):=by
 refine⟨ak,fun w hL0=>?_⟩
 have hha:jZ (fun x=>S x∧gJ x<=50000) a:=fun i hi=>⟨⟨(ha i hi).1,Nat.le_trans (jW i) (hza i hi)⟩,(ha i hi).2,Nat.le_trans (jX i) (hza i hi)⟩
 have hhb:jZ (fun x=>S x∧gJ x<=50000) b:=fun i hi=>⟨⟨(hb i hi).1,Nat.le_trans (jW i) (hzb i hi)⟩,(hb i hi).2,Nat.le_trans (jX i) (hzb i hi)⟩
 refine cB3 127 Tryz.func152 hL0 ?_;refine D7 ?_;refine(Bl 2 [(0,_),(1,_)]) (qh2) (fun g0=>?_);refine A5 ?_;refine El (ι:={z:Nat×List MW×Option Nat×Nat×Nat // z.1<=2∧z.2.1=evK a b z.1∧z.2.1.length<=z.2.2.2.2∧z.2.2.2.2*12<=z.2.2.2.1}) (fun⟨⟨k,o,ob,oN,oc⟩,hk,hI,h3,h4⟩=>([(2,.func (.func kf) #[] #[]),(7,ay ob 0 o.length oc),(23,ay (some g0) 0 2 2),(24,.int .i64 2),(25,.int .i64 ((k:Nat):Int))],[⟨ab,61,ai aO a,aN,false⟩,⟨bb,61,ai aO b,bN,false⟩,⟨some g0,74,[ay ab 0 a.length ac,ay bb 0 b.length bc],2,true⟩,⟨ob,253,ai kw o,oN,true⟩],2-k)) ⟨⟨0,[],none,0,0⟩,Nat.zero_le _,rfl,Nat.le_refl _,bI⟩ ?_ (hL:=(aA [some 0,some 1,some 2,none] ⟨pR,pR,pR,⟨rfl,rfl,rfl⟩,trivial⟩ rfl rfl));rintro⟨⟨k,o,ob,oN,oc⟩,hk,hI,h3,h4⟩;(try dsimp only);replace hk:k<=2:=hk;replace hI:o=evK a b k:=hI;replace h3:o.length<=oc:=h3;replace h4:oc*12<=oN:=h4;rcases(show k=0∨k=1∨k=2 by omega) with rfl|rfl|rfl
 ·refine A6 ?_;refine Cd ?_ ?_<;>intro haQ
  ·refine A7 ?_;refine aI 2 0 qoX qoP rfl rfl rfl rfl rfl ae ae bI (by show 0+Int.toNat _*1=_;rfl) ?_;refine Gw ?_;refine El (ι:={z:Nat×List MW×Option Nat×Nat×Nat // z.1<=a.length∧z.2.1=Dh (a.take z.1)∧z.2.1.length<=z.2.2.2.2∧z.2.2.2.2*12<=z.2.2.2.1}) (fun⟨⟨i,o,ob,oN,oc⟩,hi,hI,h3,h4⟩=>([(2,.func (.func kf) #[] #[]),(7,ay ob 0 o.length oc),(23,ay (some g0) 0 2 2),(24,.int .i64 2),(25,.int .i64 ((0:Nat):Int)),(8,.int .i64 ((0:Nat):Int)),(30,ay ab 0 a.length ac),(31,bG (a.length)),(32,bG i)],[⟨ab,61,ai aO a,aN,false⟩,⟨bb,61,ai aO b,bN,false⟩,⟨some g0,74,[ay ab 0 a.length ac,ay bb 0 b.length bc],2,true⟩,⟨ob,253,ai kw o,oN,true⟩],a.length-i)) ⟨⟨0,o,ob,oN,oc⟩,Nat.zero_le _,hI,h3,h4⟩ ?_ (hL:=dR.auto);rintro⟨⟨i,o,ob,oN,oc⟩,hi,hI,h3,h4⟩;(try dsimp only);replace hi:i<=a.length:=hi;replace hI:o=Dh (a.take i):=hI;replace h3:o.length<=oc:=h3;replace h4:oc*12<=oN:=h4;have hol:o.length<=10000:=qfX
   refine A6 ?_;refine Cd ?_ ?_<;>intro hbQ
   ·have hlt:i<a.length:=nG;obtain⟨x,hx⟩:∃x,a[i]? =some x:=⟨a[i],List.getElem?_eq_getElem hlt⟩;refine dL 0 rfl (bY.ne ax ae) (fun hbs=>?_);obtain⟨ga,hga⟩:=Option.isSome_iff_exists.1 hbs;replace hga:ab=some ga:=hga;subst hga;refine A6 ?_;refine MK ?_;refine aG (v:=fV x) 0 ((i)*20) _ rfl rfl rfl rfl mr (bY.sub hx 0 20 ax) rfl ax rfl ?_;refine Al 20 z61 (fun g1=>?_);refine Ss 4 ?_;refine A3 ?_;refine Dq [3000000] [0,3,1,2,4,6,7,8,5,9] ?_;refine yz 4 0 ?_;refine yz 4 0 ?_;refine Pc (vH x) ?_;refine(Bu [(0,_)]) (Jr) ?_;refine Kr 38 (EvV (x.b,0,0)) ?_;refine Pc (xB x) ?_;refine Al 12 qdm (fun g2=>?_);refine Al 12 qdm (fun g3=>?_);refine Ss 5 ?_;refine(Bu [(0,_)]) (Jr) ?_;refine Kr 41 (EvV (x.e,0,0)) ?_;refine Ss 6 ?_;refine A7 ?_;refine(Iz 10 xQ C9) ?_;refine Ss 5 ?_;refine A1 ?_;refine(Iz 10 xQ C9) ?_;refine Ss 6 ?_;refine A4 ?_;refine vU 5 0 ?_;refine Kr 49 (EvV (x.b,1,0)) ?_;refine vU 6 0 ?_;refine Kr 50 (EvV (x.e,-1,0)) ?_;refine(Bl 24 [(0,_),(1,_)]) (YL) (fun g4=>?_);refine(Qa (s:=12) (len:=o.length) (n2:=2) 3 7 (fun r=>[_,_,_,⟨some r.g,253,ai kw o++(kw (x.b,1,0)++kw (x.e,-1,0)),r.n,true⟩,_,_,_,_]) qh3 qks) (xh.length o) h3 h4 (fun v hv=>List.all_eq_true.1 (show(kw (x.b,1,0)++kw (x.e,-1,0)).all (·.oneCell')=true from rfl) v hv) (fun r=>?_);refine A5 ?_;refine dP ?_;exact Nl ⟨⟨i+1,o++[(x.b,1,0),(x.e,-1,0)],some r.g,r.n,r.cap⟩,hlt,by show o++_=Dh (a.take (i+1));rw[<-qga hx,<-hI],lq,r.hn⟩ (hμ:=XF) (ht:=⟨rfl,(aU rfl lT),rfl,rfl,rfl,rfl,rfl,rfl,rfl,trivial⟩) (hL:=(aA [some 0,some 1,some 2,some 3] ⟨pR,pR,pR,⟨_,rfl,bn XG⟩,trivial⟩ rfl rfl))
   ·have hge:i=a.length:=nH;subst hge;refine A7 ?_;refine(Aq ((0+1:Nat):Int)) MB ?_;refine A3 ?_;exact Nl ⟨⟨0+1,o,ob,oN,oc⟩,(by show 0+1<=2;decide),by show o=Dh a;rw[hI,List.take_length],h3,h4⟩ (hμ:=(by show 2-(0+1)<2-0;decide)) (hL:=dR.auto)
  ·exact absurd ax (of_decide_eq_false haQ)
 ·refine A6 ?_;refine Cd ?_ ?_<;>intro haQ
  ·refine A7 ?_;refine aI 2 1 qoX qoP rfl rfl rfl rfl rfl ae ae bI (by show 0+Int.toNat _*1=_;rfl) ?_;refine Gw ?_;refine El (ι:={z:Nat×List MW×Option Nat×Nat×Nat // z.1<=b.length∧z.2.1=Dh a++IZ (b.take z.1)∧z.2.1.length<=z.2.2.2.2∧z.2.2.2.2*12<=z.2.2.2.1}) (fun⟨⟨i,o,ob,oN,oc⟩,hi,hI,h3,h4⟩=>([(2,.func (.func kf) #[] #[]),(7,ay ob 0 o.length oc),(23,ay (some g0) 0 2 2),(24,.int .i64 2),(25,.int .i64 ((1:Nat):Int)),(8,.int .i64 ((1:Nat):Int)),(30,ay bb 0 b.length bc),(31,bG (b.length)),(32,bG i)],[⟨ab,61,ai aO a,aN,false⟩,⟨bb,61,ai aO b,bN,false⟩,⟨some g0,74,[ay ab 0 a.length ac,ay bb 0 b.length bc],2,true⟩,⟨ob,253,ai kw o,oN,true⟩],b.length-i)) ⟨⟨0,o,ob,oN,oc⟩,Nat.zero_le _,by rw[hI];show Dh a=Dh a++[];simp,h3,h4⟩ ?_ (hL:=dR.auto);rintro⟨⟨i,o,ob,oN,oc⟩,hi,hI,h3,h4⟩;(try dsimp only);replace hi:i<=b.length:=hi;replace hI:o=Dh a++IZ (b.take i):=hI;replace h3:o.length<=oc:=h3;replace h4:oc*12<=oN:=h4;have hol:o.length<=10000:=qfX
   refine A6 ?_;refine Cd ?_ ?_<;>intro hbQ
   ·have hlt:i<b.length:=nG;obtain⟨x,hx⟩:∃x,b[i]? =some x:=⟨b[i],List.getElem?_eq_getElem hlt⟩;refine dL 1 rfl (bY.ne ax ae) (fun hbs=>?_);obtain⟨gb,hgb⟩:=Option.isSome_iff_exists.1 hbs;replace hgb:bb=some gb:=hgb;subst hgb;refine A6 ?_;refine aI 1 ((i)*20) SC mr rfl rfl rfl rfl rfl ae ae (bY.ne ax ae) yZ ?_;refine aG (v:=fV x) 1 ((i)*20) _ rfl rfl rfl rfl mr (bY.sub hx 0 20 ax) rfl ax rfl ?_;refine Al 20 z61 (fun g1=>?_);refine Ss 4 ?_;refine A3 ?_;refine Dq [3000000] [0,3,1,2,4,6,7,8,5,9] ?_;refine yz 4 0 ?_;refine yz 4 0 ?_;refine Pc (vH x) ?_;refine(Bu [(0,_)]) (Jr) ?_;refine Kr 38 (EvV (x.b,0,0)) ?_;refine Pc (xB x) ?_;refine Al 12 qdm (fun g2=>?_);refine Al 12 qdm (fun g3=>?_);refine Ss 5 ?_;refine(Bu [(0,_)]) (Jr) ?_;refine Kr 41 (EvV (x.e,0,0)) ?_;refine Ss 6 ?_;refine A7 ?_;refine(Iz 11 xQ C9) ?_;refine Ss 5 ?_;refine A1 ?_;refine(Iz 11 xQ C9) ?_;refine Ss 6 ?_;refine A4 ?_;refine vU 5 0 ?_;refine Kr 49 (EvV (x.b,0,1)) ?_;refine vU 6 0 ?_;refine Kr 50 (EvV (x.e,0,-1)) ?_;refine(Bl 24 [(0,_),(1,_)]) (YL) (fun g4=>?_);refine(Qa (s:=12) (len:=o.length) (n2:=2) 3 7 (fun r=>[_,_,_,⟨some r.g,253,ai kw o++(kw (x.b,0,1)++kw (x.e,0,-1)),r.n,true⟩,_,_,_,_]) qh3 qks) (xh.length o) h3 h4 (fun v hv=>List.all_eq_true.1 (show(kw (x.b,0,1)++kw (x.e,0,-1)).all (·.oneCell')=true from rfl) v hv) (fun r=>?_);refine A5 ?_;refine dP ?_;exact Nl ⟨⟨i+1,o++[(x.b,0,1),(x.e,0,-1)],some r.g,r.n,r.cap⟩,hlt,by show o++_=Dh a++IZ (b.take (i+1));rw[<-qgb hx,<-List.append_assoc,<-hI],lq,r.hn⟩ (hμ:=(by show b.length-(i+1)<b.length-i;omega)) (ht:=⟨rfl,(aU rfl lT),rfl,rfl,rfl,rfl,rfl,rfl,rfl,trivial⟩) (hL:=(aA [some 0,some 1,some 2,some 3] ⟨pR,pR,pR,⟨_,rfl,bn XG⟩,trivial⟩ rfl rfl))
   ·have hge:i=b.length:=nH;subst hge;refine A7 ?_;refine(Aq ((1+1:Nat):Int)) MB ?_;refine A3 ?_;exact Nl ⟨⟨1+1,o,ob,oN,oc⟩,(by show 1+1<=2;decide),by show o=Dh a++IZ b;rw[hI,List.take_length],h3,h4⟩ (hμ:=(by show 2-(1+1)<2-1;decide)) (hL:=dR.auto)
  ·exact absurd ax (of_decide_eq_false haQ)
 ·refine A6 ?_;refine Cd ?_ ?_<;>intro haQ
  ·exact absurd (of_decide_eq_true haQ) ax
  ·refine A6 ?_;refine mP ?_;refine A1 ?_;have hp0:o=Dh a++IZ b:=hI;have hol:o.length<=10000:=by rw[hp0,List.length_append,Z7,Z8];omega
   have hos:∀e∈o,S e.1.1∧gJ e.1.1<=50000:=fun e he=>by rw[hp0] at he;exact qpK (S:=fun x=>S x∧gJ x<=50000) hha hhb he
   refine Gm 1 [3] [] (fun z=>[_,_,_,⟨ob,253,ai kw z.1,oN,true⟩]) (qgk T o ob oN oc h3 h4 hos) (fun z=>?_);obtain⟨l2,hp2,hs2⟩:=z;have hl2:l2.length=o.length:=hp2.length_eq;have hev:∀e∈l2,(S e.1.1∧gJ e.1.1<=50000)∧ -1<=e.2.1∧e.2.1<=1∧ -1<=e.2.2∧e.2.2<=1:=fun e he=>by
    have he':=hp2.subset he;refine⟨hos e he',?_⟩;rw[hp0] at he';obtain⟨_,h1,h2⟩:=qgc he';exact⟨h1.1,h1.2,h2.1,h2.2⟩
   rw[hp0] at hp2;refine A9 ?_;refine Al 2 qqZ (fun g1=>?_);refine A4 ?_;refine Al 10 qmm (fun g2=>?_);refine SG ?_;refine El (ι:={z:Nat×Int×Int×Bool×qB×List Iv×Option Nat×Nat×Nat // z.1<=l2.length∧(-(z.1:Int)<=z.2.1∧z.2.1<=z.1)∧(-(z.1:Int)<=z.2.2.1∧z.2.2.1<=z.1)∧gm keep a b=z.2.2.2.2.2.1++swO (aW ρ) keep l2 z.1 z.2.1 z.2.2.1 z.2.2.2.1 z.2.2.2.2.1∧z.2.2.2.2.2.1.length<=z.1∧z.2.2.2.2.2.1.length<=z.2.2.2.2.2.2.2.2∧z.2.2.2.2.2.2.2.2*20<=z.2.2.2.2.2.2.2.1}) (fun⟨⟨i,m,n,inn,fb,q,qb,qN,qc⟩,hi,hm,hn,hI2,hq,h5,h6⟩=>([(2,.func (.func kf) #[] #[]),(7,ay ob 0 l2.length oc),(14,ay qb 0 q.length qc),(15,dJ g1),(16,dJ g2),(17,.bool inn),(57,ay ob 0 l2.length oc),(58,bG (l2.length)),(59,bG i)],[⟨ab,61,ai aO a,aN,false⟩,⟨bb,61,ai aO b,bN,false⟩,⟨some g0,74,[ay ab 0 a.length ac,ay bb 0 b.length bc],2,true⟩,⟨ob,253,ai kw l2,oN,true⟩,⟨some g1,251,[.int .i64 m,.int .i64 n],2,true⟩,⟨some g2,209,wX fb,10,true⟩,⟨qb,61,ai aO q,qN,true⟩],l2.length-i)) ⟨⟨0,0,0,false,(rl 0,false),[],none,0,0⟩,Nat.zero_le _,ax,ax,(qgf T h0 ha hb oka okb hp2 hs2 _).symm,Nat.le_refl _,Nat.le_refl _,bI⟩ ?_ (ht:=⟨rfl,(aU rfl (by rw[hl2])),rfl,rfl,rfl,rfl,(aU rfl (by rw[hl2])),(aU rfl (by rw[hl2])),rfl,trivial⟩) (hL:=(aA [some 0,some 1,some 2,some 3,some 4,some 5,none] ⟨pR,pR,pR,pR,pR,⟨_,rfl,bn (by rw[qnN];rfl)⟩,⟨rfl,rfl,rfl⟩,trivial⟩ rfl rfl));rintro⟨⟨i,m,n,inn,fb,q,qb,qN,qc⟩,hi,hm,hn,hI2,hq,h5,h6⟩;(try dsimp only);replace hi:i<=l2.length:=hi;replace hm: -(i:Int)<=m∧m<=i:=hm;replace hn: -(i:Int)<=n∧n<=i:=hn;replace hI2:gm keep a b=q++swO (aW ρ) keep l2 i m n inn fb:=hI2;replace hq:q.length<=i:=hq;replace h5:q.length<=qc:=h5;replace h6:qc*20<=qN:=h6;refine A6 ?_;refine Cd ?_ ?_<;>intro hbQ
   ·have hlt:i<l2.length:=nG;obtain⟨x,hx⟩:∃x,l2[i]? =some x:=⟨l2[i],List.getElem?_eq_getElem hlt⟩;obtain⟨hex,hx1,hx2,hx3,hx4⟩:=hev x (List.mem_of_getElem? hx);refine dL 3 rfl (xh.ne ax ae) (fun hbs=>?_);obtain⟨go,hgo⟩:=Option.isSome_iff_exists.1 hbs;replace hgo:ob=some go:=hgo;subst hgo;refine A7 ?_;refine aI 3 ((i)*12) qh3 qdl rfl rfl rfl rfl rfl ae ae (xh.ne ax ae) (by show 0+Int.toNat _*12=_;omega) ?_;refine aG (v:=EvV x) 3 ((i)*12) _ rfl rfl rfl rfl qdl (xh.sub hx 0 12 ax) rfl ax rfl ?_;refine Al 12 qdm (fun g3=>?_);refine A1 ?_;refine Ss 7 ?_;refine A3 ?_;let sX:List (Nat×Value)->List (Nat×Value):=fun l=>(2,.func (.func kf) #[] #[])::(7,ay (some go) 0 l2.length oc)::(14,ay qb 0 q.length qc)::(15,dJ g1)::(16,dJ g2)::(17,.bool inn)::(57,ay (some go) 0 l2.length oc)::(58,bG (l2.length))::(59,bG i)::(18,bG i)::(19,dJ g3)::l;let sY:List aJ->List aJ:=fun l=>⟨ab,61,ai aO a,aN,false⟩::⟨bb,61,ai aO b,bN,false⟩::⟨some g0,74,[ay ab 0 a.length ac,ay bb 0 b.length bc],2,true⟩::⟨some go,253,ai kw l2,oN,true⟩::l;refine xY (nt:=127) (Z:=Unit) (fun _=>sX []) (fun _=>sY [⟨some g1,251,[.int .i64 (m+x.2.1),.int .i64 (n+x.2.2)],2,true⟩,⟨some g2,209,wX fb,10,true⟩,⟨qb,61,ai aO q,qN,true⟩,⟨some g3,253,kw x,12,true⟩]) 16 [0,1,2,3,4,5,6,7,8,9,10,11,12,13,14,15] mixed ak (fun hd0=>?_) ?_
    ·refine aS (nt:=127) (Z:=Unit) (fun _=>sX [(75,.int .i64 (n+x.2.2)),(77,.pointer (some ⟨g1,1,none⟩))]) (fun _=>sY [⟨some g1,251,[.int .i64 (m+x.2.1),.int .i64 (n)],2,true⟩,⟨some g2,209,wX fb,10,true⟩,⟨qb,61,ai aO q,qN,true⟩,⟨some g3,253,kw x,12,true⟩]) 1 [15] (fun z=>?_) (fun hd1=>?_)
     ·(try dsimp only);refine Gx 15 ?_
      ·refine Ss 4 ?_;refine A1 ?_;exact Nw hd0 () [0,1,2,3,4,5,6,7]
     refine aS (nt:=127) (Z:=Unit) (fun _=>sX [(69,.int .i64 (m+x.2.1)),(75,.int .i64 (n+x.2.2)),(76,dJ g1)]) (fun _=>sY [⟨some g1,251,[.int .i64 m,.int .i64 n],2,true⟩,⟨some g2,209,wX fb,10,true⟩,⟨qb,61,ai aO q,qN,true⟩,⟨some g3,253,kw x,12,true⟩]) 3 [13,14,15] (fun z=>?_) (fun hd2=>?_)
     ·(try dsimp only);refine Gx 13 ?_
      ·refine Ss 4 ?_;refine A1 ?_;refine Nt 14 ?_;refine(Iz 1 xQ C9) ?_;refine A1 ?_;exact Nw hd1 () [0,1,2,3,4,5,6,7]
     refine aS (nt:=127) (Z:=Unit) (fun _=>sX [(71,.int .i64 n),(73,.pointer (some ⟨g3,11,none⟩))]) (fun _=>sY [⟨some g1,251,[.int .i64 (m+x.2.1),.int .i64 (n)],2,true⟩,⟨some g2,209,wX fb,10,true⟩,⟨qb,61,ai aO q,qN,true⟩,⟨some g3,253,kw x,12,true⟩]) 4 [10,11,14,15] (fun z=>?_) (fun hd3=>?_)
     ·(try dsimp only);refine Gx 10 ?_
      ·refine Gf ?_;refine Nt 14 ?_;refine(Iz 1 xQ C9) ?_;refine A1 ?_;exact Nw hd1 () [0,1,2,3,4,5,6,7]
     refine aS (nt:=127) (Z:=Unit) (fun _=>sX [(69,.int .i64 (m+x.2.1)),(71,.int .i64 n),(73,.pointer (some ⟨g3,11,none⟩)),(76,dJ g1)]) (fun _=>sY [⟨some g1,251,[.int .i64 m,.int .i64 n],2,true⟩,⟨some g2,209,wX fb,10,true⟩,⟨qb,61,ai aO q,qN,true⟩,⟨some g3,253,kw x,12,true⟩]) 5 [10,11,13,14,15] (fun z=>?_) (fun hd4=>?_)
     ·(try dsimp only);refine aV [10,13] ak rfl ⟨⟨_,rfl,?_⟩,⟨_,rfl,?_⟩,trivial⟩
      ·refine Gf ?_;exact Nw hd2 () [0,1,2,3,4,5,6,7]
      ·refine Ss 4 ?_;refine A1 ?_;exact Nw hd3 () [0,1,2,3,4,5,6,7]
     refine aS (nt:=127) (Z:=Unit) (fun _=>sX [(64,dJ g1),(68,.int .i64 x.2.1),(75,.int .i64 (n+x.2.2))]) (fun _=>sY [⟨some g1,251,[.int .i64 m,.int .i64 n],2,true⟩,⟨some g2,209,wX fb,10,true⟩,⟨qb,61,ai aO q,qN,true⟩,⟨some g3,253,kw x,12,true⟩]) 6 [1,5,12,13,14,15] (fun z=>?_) (fun hd5=>?_)
     ·(try dsimp only);refine Gx 1 ?_
      ·refine II ?_;refine Nt 12 ?_;refine(Iz 0 xQ C9) ?_;refine A1 ?_;exact Nw hd2 () [0,1,2,3,4,5,6,7]
     refine aS (nt:=127) (Z:=Unit) (fun _=>sX [(65,.int .i64 m),(67,.pointer (some ⟨g3,10,none⟩)),(75,.int .i64 (n+x.2.2))]) (fun _=>sY [⟨some g1,251,[.int .i64 m,.int .i64 n],2,true⟩,⟨some g2,209,wX fb,10,true⟩,⟨qb,61,ai aO q,qN,true⟩,⟨some g3,253,kw x,12,true⟩]) 6 [4,5,12,13,14,15] (fun z=>?_) (fun hd6=>?_)
     ·(try dsimp only);refine Gx 4 ?_
      ·refine II ?_;refine Nt 12 ?_;refine(Iz 0 xQ C9) ?_;refine A1 ?_;exact Nw hd2 () [0,1,2,3,4,5,6,7]
     refine aS (nt:=127) (Z:=Unit) (fun _=>sX [(69,.int .i64 (m+x.2.1)),(70,.pointer (some ⟨g1,1,none⟩)),(74,.int .i64 x.2.2)]) (fun _=>sY [⟨some g1,251,[.int .i64 m,.int .i64 n],2,true⟩,⟨some g2,209,wX fb,10,true⟩,⟨qb,61,ai aO q,qN,true⟩,⟨some g3,253,kw x,12,true⟩]) 6 [7,11,12,13,14,15] (fun z=>?_) (fun hd7=>?_)
     ·(try dsimp only);refine Gx 7 ?_
      ·refine Gf ?_;refine Nt 12 ?_;refine(Iz 0 xQ C9) ?_;refine A1 ?_;exact Nw hd2 () [0,1,2,3,4,5,6,7]
     refine aS (nt:=127) (Z:=Unit) (fun _=>sX [(64,dJ g1),(67,.pointer (some ⟨g3,10,none⟩)),(75,.int .i64 (n+x.2.2))]) (fun _=>sY [⟨some g1,251,[.int .i64 m,.int .i64 n],2,true⟩,⟨some g2,209,wX fb,10,true⟩,⟨qb,61,ai aO q,qN,true⟩,⟨some g3,253,kw x,12,true⟩]) 7 [1,4,5,12,13,14,15] (fun z=>?_) (fun hd8=>?_)
     ·(try dsimp only);refine aV [1,4] ak rfl ⟨⟨_,rfl,?_⟩,⟨_,rfl,?_⟩,trivial⟩
      ·refine A2 ?_;exact Nw hd6 () [0,1,2,3,4,5,6,7]
      ·refine A2 ?_;exact Nw hd5 () [0,1,2,3,4,5,6,7]
     refine aS (nt:=127) (Z:=Unit) (fun _=>sX [(69,.int .i64 (m+x.2.1)),(70,.pointer (some ⟨g1,1,none⟩)),(73,.pointer (some ⟨g3,11,none⟩))]) (fun _=>sY [⟨some g1,251,[.int .i64 m,.int .i64 n],2,true⟩,⟨some g2,209,wX fb,10,true⟩,⟨qb,61,ai aO q,qN,true⟩,⟨some g3,253,kw x,12,true⟩]) 7 [7,10,11,12,13,14,15] (fun z=>?_) (fun hd9=>?_)
     ·(try dsimp only);refine aV [7,10] ak rfl ⟨⟨_,rfl,?_⟩,⟨_,rfl,?_⟩,trivial⟩
      ·refine A2 ?_;refine Nt 12 ?_;refine(Iz 0 xQ C9) ?_;refine A1 ?_;exact Nw hd4 () [0,1,2,3,4,5,6,7]
      ·refine A2 ?_;exact Nw hd7 () [0,1,2,3,4,5,6,7]
     refine aS (nt:=127) (Z:=Unit) (fun _=>sX [(64,dJ g1),(68,.int .i64 x.2.1),(70,.pointer (some ⟨g1,1,none⟩)),(74,.int .i64 x.2.2)]) (fun _=>sY [⟨some g1,251,[.int .i64 m,.int .i64 n],2,true⟩,⟨some g2,209,wX fb,10,true⟩,⟨qb,61,ai aO q,qN,true⟩,⟨some g3,253,kw x,12,true⟩]) 8 [1,5,7,11,12,13,14,15] (fun z=>?_) (fun hd10=>?_)
     ·(try dsimp only);refine aV [1,7] ak rfl ⟨⟨_,rfl,?_⟩,⟨_,rfl,?_⟩,trivial⟩
      ·refine II ?_;exact Nw hd7 () [0,1,2,3,4,5,6,7]
      ·refine Gf ?_;exact Nw hd5 () [0,1,2,3,4,5,6,7]
     refine aS (nt:=127) (Z:=Unit) (fun _=>sX [(64,dJ g1),(68,.int .i64 x.2.1),(71,.int .i64 n),(73,.pointer (some ⟨g3,11,none⟩))]) (fun _=>sY [⟨some g1,251,[.int .i64 m,.int .i64 n],2,true⟩,⟨some g2,209,wX fb,10,true⟩,⟨qb,61,ai aO q,qN,true⟩,⟨some g3,253,kw x,12,true⟩]) 8 [1,5,10,11,12,13,14,15] (fun z=>?_) (fun hd11=>?_)
     ·(try dsimp only);refine aV [1,10] ak rfl ⟨⟨_,rfl,?_⟩,⟨_,rfl,?_⟩,trivial⟩
      ·refine II ?_;refine Nt 12 ?_;refine(Iz 0 xQ C9) ?_;refine A1 ?_;exact Nw hd4 () [0,1,2,3,4,5,6,7]
      ·refine Gf ?_;exact Nw hd5 () [0,1,2,3,4,5,6,7]
     refine aS (nt:=127) (Z:=Unit) (fun _=>sX [(65,.int .i64 m),(67,.pointer (some ⟨g3,10,none⟩)),(70,.pointer (some ⟨g1,1,none⟩)),(74,.int .i64 x.2.2)]) (fun _=>sY [⟨some g1,251,[.int .i64 m,.int .i64 n],2,true⟩,⟨some g2,209,wX fb,10,true⟩,⟨qb,61,ai aO q,qN,true⟩,⟨some g3,253,kw x,12,true⟩]) 8 [4,5,7,11,12,13,14,15] (fun z=>?_) (fun hd12=>?_)
     ·(try dsimp only);refine aV [4,7] ak rfl ⟨⟨_,rfl,?_⟩,⟨_,rfl,?_⟩,trivial⟩
      ·refine II ?_;exact Nw hd7 () [0,1,2,3,4,5,6,7]
      ·refine Gf ?_;exact Nw hd6 () [0,1,2,3,4,5,6,7]
     refine aS (nt:=127) (Z:=Unit) (fun _=>sX [(65,.int .i64 m),(67,.pointer (some ⟨g3,10,none⟩)),(71,.int .i64 n),(73,.pointer (some ⟨g3,11,none⟩))]) (fun _=>sY [⟨some g1,251,[.int .i64 m,.int .i64 n],2,true⟩,⟨some g2,209,wX fb,10,true⟩,⟨qb,61,ai aO q,qN,true⟩,⟨some g3,253,kw x,12,true⟩]) 8 [4,5,10,11,12,13,14,15] (fun z=>?_) (fun hd13=>?_)
     ·(try dsimp only);refine aV [4,10] ak rfl ⟨⟨_,rfl,?_⟩,⟨_,rfl,?_⟩,trivial⟩
      ·refine II ?_;refine Nt 12 ?_;refine(Iz 0 xQ C9) ?_;refine A1 ?_;exact Nw hd4 () [0,1,2,3,4,5,6,7]
      ·refine Gf ?_;exact Nw hd6 () [0,1,2,3,4,5,6,7]
     refine aS (nt:=127) (Z:=Unit) (fun _=>sX [(64,dJ g1),(67,.pointer (some ⟨g3,10,none⟩)),(70,.pointer (some ⟨g1,1,none⟩)),(74,.int .i64 x.2.2)]) (fun _=>sY [⟨some g1,251,[.int .i64 m,.int .i64 n],2,true⟩,⟨some g2,209,wX fb,10,true⟩,⟨qb,61,ai aO q,qN,true⟩,⟨some g3,253,kw x,12,true⟩]) 9 [1,4,5,7,11,12,13,14,15] (fun z=>?_) (fun hd14=>?_)
     ·(try dsimp only);refine aV [1,4,7] ak rfl ⟨⟨_,rfl,?_⟩,⟨_,rfl,?_⟩,⟨_,rfl,?_⟩,trivial⟩
      ·refine A2 ?_;exact Nw hd12 () [0,1,2,3,4,5,6,7]
      ·refine A2 ?_;exact Nw hd10 () [0,1,2,3,4,5,6,7]
      ·refine Gf ?_;exact Nw hd8 () [0,1,2,3,4,5,6,7]
     refine aS (nt:=127) (Z:=Unit) (fun _=>sX [(64,dJ g1),(67,.pointer (some ⟨g3,10,none⟩)),(71,.int .i64 n),(73,.pointer (some ⟨g3,11,none⟩))]) (fun _=>sY [⟨some g1,251,[.int .i64 m,.int .i64 n],2,true⟩,⟨some g2,209,wX fb,10,true⟩,⟨qb,61,ai aO q,qN,true⟩,⟨some g3,253,kw x,12,true⟩]) 9 [1,4,5,10,11,12,13,14,15] (fun z=>?_) (fun hd15=>?_)
     ·(try dsimp only);refine aV [1,4,10] ak rfl ⟨⟨_,rfl,?_⟩,⟨_,rfl,?_⟩,⟨_,rfl,?_⟩,trivial⟩
      ·refine A2 ?_;exact Nw hd13 () [0,1,2,3,4,5,6,7]
      ·refine A2 ?_;exact Nw hd11 () [0,1,2,3,4,5,6,7]
      ·refine Gf ?_;exact Nw hd8 () [0,1,2,3,4,5,6,7]
     refine aS (nt:=127) (Z:=Unit) (fun _=>sX [(64,dJ g1),(68,.int .i64 x.2.1),(70,.pointer (some ⟨g1,1,none⟩)),(73,.pointer (some ⟨g3,11,none⟩))]) (fun _=>sY [⟨some g1,251,[.int .i64 m,.int .i64 n],2,true⟩,⟨some g2,209,wX fb,10,true⟩,⟨qb,61,ai aO q,qN,true⟩,⟨some g3,253,kw x,12,true⟩]) 9 [1,5,7,10,11,12,13,14,15] (fun z=>?_) (fun hd16=>?_)
     ·(try dsimp only);refine aV [1,7,10] ak rfl ⟨⟨_,rfl,?_⟩,⟨_,rfl,?_⟩,⟨_,rfl,?_⟩,trivial⟩
      ·refine II ?_;exact Nw hd9 () [0,1,2,3,4,5,6,7]
      ·refine A2 ?_;exact Nw hd11 () [0,1,2,3,4,5,6,7]
      ·refine A2 ?_;exact Nw hd10 () [0,1,2,3,4,5,6,7]
     refine aS (nt:=127) (Z:=Unit) (fun _=>sX [(65,.int .i64 m),(67,.pointer (some ⟨g3,10,none⟩)),(70,.pointer (some ⟨g1,1,none⟩)),(73,.pointer (some ⟨g3,11,none⟩))]) (fun _=>sY [⟨some g1,251,[.int .i64 m,.int .i64 n],2,true⟩,⟨some g2,209,wX fb,10,true⟩,⟨qb,61,ai aO q,qN,true⟩,⟨some g3,253,kw x,12,true⟩]) 9 [4,5,7,10,11,12,13,14,15] (fun z=>?_) (fun hd17=>?_)
     ·(try dsimp only);refine aV [4,7,10] ak rfl ⟨⟨_,rfl,?_⟩,⟨_,rfl,?_⟩,⟨_,rfl,?_⟩,trivial⟩
      ·refine II ?_;exact Nw hd9 () [0,1,2,3,4,5,6,7]
      ·refine A2 ?_;exact Nw hd13 () [0,1,2,3,4,5,6,7]
      ·refine A2 ?_;exact Nw hd12 () [0,1,2,3,4,5,6,7]
     refine Nt 0 ?_;refine(Iz 0 xQ C9) ?_;refine A1 ?_;refine Nt 2 ?_;refine Fg 0 10 ?_;refine A1 ?_;refine Nt 3 ?_;refine(Iz 10 xQ C9) ?_;refine A1 ?_;refine Nt 6 ?_;refine(Iz 1 xQ C9) ?_;refine A1 ?_;refine Nt 8 ?_;refine Fg 0 10 ?_;refine A1 ?_;refine Nt 9 ?_;refine(Iz 11 xQ C9) ?_;refine A1 ?_;refine aV [1,4,7,10] ak rfl ⟨⟨_,rfl,?_⟩,⟨_,rfl,?_⟩,⟨_,rfl,?_⟩,⟨_,rfl,?_⟩,trivial⟩
     ·refine A2 ?_;exact Nw hd17 () [0,1,2,3,4,5,6,7]
     ·refine A2 ?_;exact Nw hd16 () [0,1,2,3,4,5,6,7]
     ·refine A2 ?_;exact Nw hd15 () [0,1,2,3,4,5,6,7]
     ·refine A2 ?_;exact Nw hd14 () [0,1,2,3,4,5,6,7]
    intro _;show At _ ⟨127,[(2,.func (.func kf) #[] #[]),(7,ay (some go) 0 l2.length oc),(14,ay qb 0 q.length qc),(15,dJ g1),(16,dJ g2),(17,.bool inn),(57,ay (some go) 0 l2.length oc),(58,bG (l2.length)),(59,bG i),(18,bG i),(19,dJ g3)],[⟨ab,61,ai aO a,aN,false⟩,⟨bb,61,ai aO b,bN,false⟩,⟨some g0,74,[ay ab 0 a.length ac,ay bb 0 b.length bc],2,true⟩,⟨some go,253,ai kw l2,oN,true⟩,⟨some g1,251,[.int .i64 (m+x.2.1),.int .i64 (n+x.2.2)],2,true⟩,⟨some g2,209,wX fb,10,true⟩,⟨qb,61,ai aO q,qN,true⟩,⟨some g3,253,kw x,12,true⟩]⟩ _;refine A3 ?_;refine Di [] ?_;refine A1 ?_;refine Ar (((i+1:Nat):Int)) ?_;refine A4 ?_;refine Rs 83 ?_ ?_<;>intro hcQ
    ·have hjt:i+1<l2.length:=qE;obtain⟨y,hy⟩:∃y,l2[i+1]? =some y:=⟨l2[i+1],List.getElem?_eq_getElem hjt⟩;have hey:=(hev y (List.mem_of_getElem? hy)).1;refine A1 ?_;refine L10 7 0 ?_;refine A2 ?_;refine Ar (((i+1:Nat):Int)) ?_;refine aI 3 ((i+1)*12) qh3 qdl rfl rfl rfl rfl rfl ae ae (xh.ne ax ae) (by show 0+Int.toNat _*12=_;omega) ?_;refine Fg ((i+1)*12) 0 ?_;refine aG (v:=BdV y.1) 3 ((i+1)*12+0) _ rfl rfl rfl rfl qoQ (xh.sub hy 0 10 ax) rfl ax rfl ?_;refine Pc (qR x.1 y.1 hex.2 hey.2) ?_;refine A4 ?_;refine Cd ?_ ?_<;>intro hdQ
     ·have hc0:wW x.1 y.1=0:=eq_of_beq hdQ;refine A5 ?_;refine dP ?_;exact Nl ⟨⟨i+1,m+x.2.1,n+x.2.2,inn,fb,q,qb,qN,qc⟩,hlt,MO,MP,by rw[<-qgh T hx hy hex.1 hey.1 hc0];exact hI2,Nat.le_succ_of_le hq,h5,h6⟩ (hμ:=MQ) (hL:=dR.auto)
     ·have hc0:wW x.1 y.1≠0:=ne_of_beq_false hdQ;have hfar:=qnM T hy hex.1 hey.1 hc0;refine A5 ?_;refine(Iz 0 xQ C9) ?_;refine A2 ?_;refine(Iz 1 xQ C9) ?_;refine A2 ?_;refine oK [_,_] rfl rfl rfl rfl (hkp _ _) ?_;refine A9 ?_;refine Rs 105 ?_ ?_<;>intro heQ
      ·have hnow:keep (decide (0<m+x.2.1)) (decide (0<n+x.2.2))=true:=heQ;refine A6 ?_;refine Cd ?_ ?_<;>intro hfQ
       ·have hin:inn=false:=RD
        exact qlk
       ·have hin:inn=true:=RD
        refine A5 ?_;refine Rs 114 ?_ ?_<;>intro hgQ
        ·exact absurd hgQ RF
        ·exact qlm
      ·have hnow:keep (decide (0<m+x.2.1)) (decide (0<n+x.2.2))=false:=heQ;refine nT ?_;refine Rs 114 ?_ ?_<;>intro hfQ
       ·refine A5 ?_;refine Cd ?_ ?_<;>intro hgQ
        ·have hin:inn=true:=hgQ;exact qlg
        ·have hin:inn=false:=hgQ;exact qll
       ·exact absurd hfQ RF
    ·have hfar:Far ρ l2 i x:=qjN (of_decide_eq_false hcQ|>fun e=>ae);refine A19 ?_;refine(Iz 0 xQ C9) ?_;refine A2 ?_;refine(Iz 1 xQ C9) ?_;refine A2 ?_;refine oK [_,_] rfl rfl rfl rfl (hkp _ _) ?_;refine A9 ?_;refine Rs 105 ?_ ?_<;>intro hdQ
     ·have hnow:keep (decide (0<m+x.2.1)) (decide (0<n+x.2.2))=true:=hdQ;refine A6 ?_;refine Cd ?_ ?_<;>intro heQ
      ·have hin:inn=false:=RG
       exact qlk
      ·have hin:inn=true:=RG
       refine A5 ?_;refine Rs 114 ?_ ?_<;>intro hfQ
       ·exact absurd hfQ RF
       ·exact qlm
     ·have hnow:keep (decide (0<m+x.2.1)) (decide (0<n+x.2.2))=false:=hdQ;refine nT ?_;refine Rs 114 ?_ ?_<;>intro heQ
      ·refine A5 ?_;refine Cd ?_ ?_<;>intro hfQ
       ·have hin:inn=true:=hfQ;exact qlg
       ·have hin:inn=false:=hfQ;exact qll
      ·exact absurd heQ RF
   ·have hge:i=l2.length:=nH;subst hge;obtain rfl:q=gm keep a b:=by rw[hI2,qjM,List.append_nil]
    refine nT ?_;refine aK rfl (au rfl) (fun w hL=>⟨⟨qb,qN,qc,h5⟩,?_,hL.pk [some 6]⟩);exact rfl
def zA(t x y u v z:Rat)(h0:u-t≠0:=by omega)(ht:cO t<=100000:=by omega)(hx:cO x<=100000:=by omega)(hy:cO y<=100000:=by omega)(hu:cO u<=100000:=by omega)(hv:cO v<=100000:=by omega)(hz:cO z<=100000:=by omega):aP Tryz.prog 87 #[.agg #[.bool (decide ((t).num<0)),.string (bP (t).num.natAbs),.bool false,.string (dm (t)),.bool (decide ((x).num<0)),.string (bP (x).num.natAbs),.bool false,.string (dm (x)),.bool (decide ((y).num<0)),.string (bP (y).num.natAbs),.bool false,.string (dm (y))],.agg #[.bool (decide ((u).num<0)),.string (bP (u).num.natAbs),.bool false,.string (dm (u)),.bool (decide ((v).num<0)),.string (bP (v).num.natAbs),.bool false,.string (dm (v)),.bool (decide ((z).num<0)),.string (bP (z).num.natAbs),.bool false,.string (dm (z))]] (yV ⟨(x-(v-x)/(u-t)*t),((v-x)/(u-t)),(y-(z-y)/(u-t)*t),((z-y)/(u-t))⟩):=by
 refine oz 46 Tryz.func87 fun w=>?_;refine kL fun g0=>?_;refine Bp 12 (fun g1=>?_);refine Al 16 z98 (fun g2=>?_);refine A5 ?_;refine L4 0 0 ?_;refine A2 ?_;refine L4 0 4 ?_;refine A1 ?_;refine L4 1 0 ?_;refine A2 ?_;refine L4 1 4 ?_;refine Pc (tq t x u v h0 ht hx hu hv) ?_;refine A3 ?_;refine Al 12 Ij (fun g3=>?_);refine Ss 3 ?_;refine A6 ?_;refine L4 0 0 ?_;refine A2 ?_;refine L4 0 8 ?_;refine A1 ?_;refine L4 1 0 ?_;refine A2 ?_;refine L4 1 8 ?_;refine Pc (tq t y u z h0 ht hy hu hz) ?_;refine A3 ?_;refine Al 12 Ij (fun g4=>?_);refine Ss 4 ?_;refine A6 ?_;refine L4 3 0 ?_;refine A1 ?_;refine L4 3 4 ?_;refine A1 ?_;refine L4 4 0 ?_;refine A1 ?_;refine L4 4 4 ?_;refine(Bu [(0,_),(1,_),(2,_),(3,_)]) (qdq) ?_;refine eG ?_;refine qmX 2 ?_;exact rfl
def Ob(l:List PU)(lb:Option Nat)(lN lc:Nat)(hlc:l.length<=lc:=by omega)(hln:l.length<=1000:=by omega):bZ Tryz.prog 136 [⟨lb,100,ai aB l,lN,false⟩] [ay lb 0 l.length lc] (SR (l).length) SR.v (fun z=>[⟨z.b,201,ai aB (l),z.n,true⟩]):=by
 refine O3 26 Tryz.func136 fun w hL0=>?_;refine QI ?_;refine El (ι:={z:Nat×List PU×Option Nat×Nat×Nat // z.1<=l.length∧z.2.1=l.take z.1∧z.2.1.length<=z.2.2.2.2∧z.2.2.2.2*36<=z.2.2.2.1}) (fun⟨⟨i,o,ob,oN,oc⟩,hi,hI,h3,h4⟩=>([(0,ay lb 0 l.length lc),(3,ay ob 0 o.length oc),(4,bG i)],[⟨lb,100,ai aB l,lN,false⟩,⟨ob,201,ai aB o,oN,true⟩],l.length-i)) ⟨⟨0,[],none,0,0⟩,Nat.zero_le _,rfl,Nat.le_refl _,bI⟩ ?_ (hL:=(aA [some 0,none] ⟨pR,⟨rfl,rfl,rfl⟩,trivial⟩ rfl rfl));rintro⟨⟨i,o,ob,oN,oc⟩,hi,hI,h3,h4⟩;(try dsimp only);replace hi:i<=l.length:=hi;replace hI:o=l.take i:=hI;replace h3:o.length<=oc:=h3;replace h4:oc*36<=oN:=h4
 have hol:o.length<=100000:=(by rw[hI,List.length_take];omega);refine A9 ?_;refine Cd ?_ ?_<;>intro haQ
 ·have hlt:i<l.length:=iL;obtain⟨x,hx⟩:∃x,l[i]? =some x:=⟨l[i],List.getElem?_eq_getElem hlt⟩;refine dL 0 rfl (aX.ne ax ae) (fun hbs=>?_);obtain⟨gl,hgl⟩:=Option.isSome_iff_exists.1 hbs;replace hgl:lb=some gl:=hgl;subst hgl;refine A4 ?_;refine qK (l':=[⟨_,_,_,_,_,_⟩,⟨_,_,_,_,_,_⟩,⟨_,_,_,_,_,_⟩,⟨_,_,_,_,_,_⟩,⟨_,_,_,_,_,_⟩,⟨_,_,_,_,_,_⟩,⟨_,_,_,_,_,_⟩,⟨_,_,_,_,_,_⟩,⟨_,_,_,_,_,_⟩,⟨_,_,_,_,_,_⟩,⟨_,_,_,_,_,_⟩]) [2000000] [1,2,3,4,5,6,7,8,9,10,11] [0,12,13,14] mixed ak rfl ?_;refine A2 ?_;refine FZ ?_;refine Fg ((i)*36) 0 ?_;refine Hu ?_;refine A2 ?_;refine FZ ?_;refine Fg ((i)*36) 20 ?_;refine MN ?_;refine(Bu [(0,_),(1,_)]) (EW) ?_;refine A1 ?_;refine bU [0,12] ak ⟨⟨_,rfl,?_⟩,⟨_,rfl,?_⟩,trivial⟩
  ·refine A2 ?_;refine bU [12] ak ⟨⟨_,rfl,?_⟩,trivial⟩
   ·refine(Bl 36 [(0,_)]) (wE) (fun g0=>?_);refine A1 ?_;refine bU [13] ak ⟨⟨_,rfl,?_⟩,trivial⟩
    ·refine(Qa (s:=36) (len:=o.length) (n2:=1) 1 2 (fun r=>[_,⟨some r.g,201,ai aB o++aB (x),r.n,true⟩,_]) vS EX) (aX.length o) h3 h4 (aX.one (x)) (fun r=>?_);exact ZR
  ·refine(Bl 36 [(0,_)]) (wE) (fun g0=>?_);refine A1 ?_;refine bU [0] ak ⟨⟨_,rfl,?_⟩,trivial⟩
   ·refine A2 ?_;refine bU [13] ak ⟨⟨_,rfl,?_⟩,trivial⟩
    ·refine(Qa (s:=36) (len:=o.length) (n2:=1) 1 2 (fun r=>[_,⟨some r.g,201,ai aB o++aB (x),r.n,true⟩,_]) vS EX) (aX.length o) h3 h4 (aX.one (x)) (fun r=>?_);exact ZR
 ·have hge:i=l.length:=jc;subst hge;obtain rfl:o=l:=Bc
  exact Me
end Go.Proofs.YtaffcpfhedadhaaGreatDoor
