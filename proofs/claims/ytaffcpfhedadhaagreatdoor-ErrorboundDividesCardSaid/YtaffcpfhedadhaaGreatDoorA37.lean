/-
  Part 37 (chapter 32): lemmas, walks. Each theorem states its own conditions.
-/
import Derived.Lib.Repeat
import Derived.Shelf.SlSortCmp.WholeK
import Derived.Shelf.SlSortCmp.NoneTotal
import Derived.Sort.Grow
import Derived.Sort.EncStr
import Derived.Test.YtaffcpfhedadhaaGreatDoorA35
set_option linter.all false
set_option maxRecDepth 20000
set_option maxHeartbeats 20000000
section
variable{P Q:Prop}{T:Type}{R:T->Prop}
def qqn(h:P:=by
 refine Ls (X:={z:Option Nat×Nat×Nat×Nat // 0+k+1+(o.length-k)<=z.2.2.1∧z.2.2.1*9<=z.2.1}) (l':=[⟨_,_,_,_,_,_⟩,⟨_,_,_,_,_,_⟩,⟨_,_,_,_,_,_⟩,⟨_,_,_,_,_,_⟩,⟨_,_,_,_,_,_⟩,⟨_,_,_,_,_,_⟩,⟨_,_,_,_,_,_⟩,⟨_,_,_,_,_,_⟩]) (fun⟨⟨rb,rn,rc,gx⟩,rh,rhn⟩=>[(0,aA lb 0 l.length lc),(3,aA rb 0 (0+k+1+(o.length-k)) rc),(4,bH i)]) (fun⟨⟨rb,rn,rc,gx⟩,rh,rhn⟩=>[⟨lb,38,aj jX l,lN,false⟩,⟨ob,38,aj jX o,oN,true⟩,⟨rb,38,(aj jX (o.take k)++jX x)++aj jX (o.drop k),rn,true⟩,⟨some gx,38,jX x,9,true⟩]) [1,2,3,5,6,11,12,13] 8 mixed ak rfl ?_ ?_
 ·exact qsc
 rintro⟨⟨rb,rn,rc,gx⟩,rh,rhn⟩;show At _ ⟨62,[(0,aA lb 0 l.length lc),(3,aA rb 0 (0+k+1+(o.length-k)) rc),(4,bH i)],[⟨lb,38,aj jX l,lN,false⟩,⟨ob,38,aj jX o,oN,true⟩,⟨rb,38,(aj jX (o.take k)++jX x)++aj jX (o.drop k),rn,true⟩,⟨some gx,38,jX x,9,true⟩]⟩ _;refine A4 ?_;refine dP ?_;exact Nl ⟨⟨i+1,o.take k++x::o.drop k,rb,rn,rc⟩,hlt,by show _=fB (l.take (i+1));rw[V5 hx,<-hI,hins],by have:=rh;simp at this ⊢;omega,rhn⟩ (hμ:=nD) (ht:=⟨rfl,(aQ rfl (by show aA rb 0 (0+k+1+(o.length-k)) rc=aA rb 0 (o.take k++x::o.drop k).length rc;congr 1;simp;omega)),rfl,trivial⟩) (hL:=(az [some 0,some 2] ⟨pR,⟨_,rfl,bg (by rw[sS,gU,List.append_assoc])⟩,trivial⟩ rfl rfl))):=h
def qsc(h:P:=by
 refine A2 ?_;refine yg k CX ja rfl rfl rfl rfl ae ae rfl ?_;refine A4 ?_;refine UQ k CX ja rfl rfl rfl rfl ae rfl rfl rfl ?_;refine A1 ?_
 repeat' first
  |exact⟨⟨(r3.b,r3.n,r3.cap,g1),r3.h,r3.hn⟩,rfl,⟨rfl,rfl,rfl,trivial⟩,qgu⟩
  |exact⟨⟨(r3.b,r3.n,r3.cap,g0),r3.h,r3.hn⟩,rfl,⟨rfl,rfl,rfl,trivial⟩,qgu⟩
  |refine QK ?_
  |refine KE rfl rfl rfl ?_
  |refine(Bl 9 [(0,_)]) (QW) (fun g1=>?_)
  |refine iJ (s:=9) (len:=0+k) (n2:=1) 2 3 (jX x) (fun r2=>[_,_,⟨r2.b,38,aj jX (o.take k)++jX x,r2.n,true⟩,_]) CX UD rfl rfl rfl rfl rfl rfl rfl rfl rfl rfl (by rw[iw.lenTake hk,Nat.zero_add]) r.h r.hn (.inr ⟨_,rfl⟩) rfl rfl (iw.one x) ae (fun _=>rfl) (fun r2=>?_)
  |refine(Qo (s:=9) (len:=0+k+1) 2 1 (aj jX (o.drop k)) (fun r3=>[_,_,⟨r3.b,38,(aj jX (o.take k)++jX x)++aj jX (o.drop k),r3.n,true⟩,_]) CX UD) qgv r2.h r2.hn Ym (iw.dropT h3 hk) (iw.lenDrop o k) (iw.ones _) (fun r3=>?_)
  |refine iJ (s:=9) (len:=0) 2 1 (aj jX (o.take k)) (fun r=>[_,_,⟨r.b,38,aj jX (o.take k),r.n,true⟩]) CX UD rfl rfl rfl rfl rfl rfl rfl rfl rfl rfl rfl (Nat.le_refl _) (Nat.le_refl _) (hobs.imp (fun e=>ae) id) (iw.takeR o k) (iw.lenTake hk) (iw.ones _) ae (fun _=>rfl) (fun r=>?_)
  |refine bu (v:=RV x) 0 ((i)*9) _ rfl rfl rfl rfl ja (iw.sub hx 0 9 ax) rfl ax rfl ?_
  |refine(Bl 0 []) (Zk) (fun g0=>?_)
  |refine aG 0 ((i)*9) CX ja rfl rfl rfl rfl rfl ae ae (iw.ne ax ae) Ii ?_
  |refine iJ (s:=9) (len:=0) 2 1 (aj jX (o.take k)) (fun r=>[_,_,⟨r.b,38,aj jX (o.take k),r.n,true⟩,_]) CX UD rfl rfl rfl rfl rfl rfl rfl rfl rfl rfl rfl (Nat.le_refl _) (Nat.le_refl _) (hobs.imp (fun e=>ae) id) (iw.takeR o k) (iw.lenTake hk) (iw.ones _) ae (fun _=>rfl) (fun r=>?_)
  |refine(Bl 9 [(0,_)]) (QW) (fun g0=>?_)
  |refine(Bl 0 []) (Zk) (fun g1=>?_)
  |refine iJ (s:=9) (len:=0) 3 1 (aj jX (o.take k)) (fun r=>[_,_,_,⟨r.b,38,aj jX (o.take k),r.n,true⟩]) CX UD rfl rfl rfl rfl rfl rfl rfl rfl rfl rfl rfl (Nat.le_refl _) (Nat.le_refl _) (hobs.imp (fun e=>ae) id) (iw.takeR o k) (iw.lenTake hk) (iw.ones _) ae (fun _=>rfl) (fun r=>?_)
  |refine iJ (s:=9) (len:=0+k) (n2:=1) 3 2 (jX x) (fun r2=>[_,_,_,⟨r2.b,38,aj jX (o.take k)++jX x,r2.n,true⟩]) CX UD rfl rfl rfl rfl rfl rfl rfl rfl rfl rfl (by rw[iw.lenTake hk,Nat.zero_add]) r.h r.hn (.inr ⟨_,rfl⟩) rfl rfl (iw.one x) ae (fun _=>rfl) (fun r2=>?_)
  |refine(Qo (s:=9) (len:=0+k+1) 3 1 (aj jX (o.drop k)) (fun r3=>[_,_,_,⟨r3.b,38,(aj jX (o.take k)++jX x)++aj jX (o.drop k),r3.n,true⟩]) CX UD) qgv r2.h r2.hn Ym (iw.dropT h3 hk) (iw.lenDrop o k) (iw.ones _) (fun r3=>?_)
  |refine qel eX ?_
  |refine iZ [10] eX rfl ⟨⟨_,rfl,?_⟩,trivial⟩
  |refine iZ [14] eX rfl ⟨⟨_,rfl,?_⟩,trivial⟩
  |refine iZ [15] eX rfl ⟨⟨_,rfl,?_⟩,trivial⟩
  |refine iZ [9] eX rfl ⟨⟨_,rfl,?_⟩,trivial⟩
  |refine iZ [4] eX rfl ⟨⟨_,rfl,?_⟩,trivial⟩
  |refine iZ [8] eX rfl ⟨⟨_,rfl,?_⟩,trivial⟩
  |refine iZ [4,9] eX rfl ⟨⟨_,rfl,?_⟩,⟨_,rfl,?_⟩,trivial⟩
  |refine iZ [4,8] eX rfl ⟨⟨_,rfl,?_⟩,⟨_,rfl,?_⟩,trivial⟩
  |refine iZ [0,7] eX rfl ⟨⟨_,rfl,?_⟩,⟨_,rfl,?_⟩,trivial⟩
  |refine iZ [4,7] eX rfl ⟨⟨_,rfl,?_⟩,⟨_,rfl,?_⟩,trivial⟩
  |refine iZ [7] eX rfl ⟨⟨_,rfl,?_⟩,trivial⟩
  |refine iZ [0,8] eX rfl ⟨⟨_,rfl,?_⟩,⟨_,rfl,?_⟩,trivial⟩
  |refine iZ [0,9] eX rfl ⟨⟨_,rfl,?_⟩,⟨_,rfl,?_⟩,trivial⟩
  |refine iZ [0] eX rfl ⟨⟨_,rfl,?_⟩,trivial⟩):=h
def qlL(h:P:=by
 refine bW [14] ak ⟨⟨_,rfl,?_⟩,trivial⟩
 ·exact qqo):=h
def qqo(h:P:=by
 refine qbR (s:=52) (len:=o.length) (n2:=1) 2 4 (fun r=>[_,_,⟨some r.g,151,aj XQ o++XQ (⟨fD x.i y.i,x.f,y.f⟩),r.n,true⟩,_,_]) qpz qoj rfl rfl rfl rfl rfl rfl rfl rfl rfl rfl rfl rfl (RP.length o) h3 h4 rfl (RP.one (⟨fD x.i y.i,x.f,y.f⟩)) ae (fun _=>rfl) (fun r=>?_);refine A1 ?_;refine bW [15] ak ⟨⟨_,rfl,?_⟩,trivial⟩
 ·exact qqp):=h
def qqp(h:P:=by
 refine A2 ?_;refine Hf rfl ?_;refine A2 ?_;refine Di [] ?_;refine qgm ?_;refine Pc (vS x.i y.i hxs hys) ?_;refine A2 ?_;refine Cd ?_ ?_<;>intro hdQ
 ·have hef:EM x y=true:=hdQ;refine A2 ?_;refine Ar (((i+1:Nat):Int)) ?_;refine A4 ?_;exact Nl ⟨⟨i+1,k,o++[⟨fD x.i y.i,x.f,y.f⟩],some r.g,r.n,r.cap⟩,hlt,hk,by rw[<-hI,qgy hx hy hef,qaD hok,List.append_assoc],jB,r.hn,by show(o++[_]).length<=i+1+k;rw[List.length_append];show o.length+1<=i+1+k;omega⟩ (hμ:=qgp) (ht:=⟨rfl,rfl,(aQ rfl jO),rfl,rfl,trivial⟩) (hL:=(az [some 0,some 1,some 2] ⟨pR,pR,⟨_,rfl,bg kz⟩,trivial⟩ rfl rfl))
 ·have hef:EM x y=false:=hdQ;refine A2 ?_;refine Ar (((k+1:Nat):Int)) ?_;refine A4 ?_;exact Nl ⟨⟨i,k+1,o++[⟨fD x.i y.i,x.f,y.f⟩],some r.g,r.n,r.cap⟩,hi,hlk,by rw[<-hI,qgz hx hy hef,qaD hok,List.append_assoc],jB,r.hn,by show(o++[_]).length<=i+(k+1);rw[List.length_append];show o.length+1<=i+(k+1);omega⟩ (hμ:=qgq) (ht:=⟨rfl,rfl,(aQ rfl jO),rfl,rfl,trivial⟩) (hL:=(az [some 0,some 1,some 2] ⟨pR,pR,⟨_,rfl,bg kz⟩,trivial⟩ rfl rfl))):=h
def qay(h:P:=by
 refine A1 ?_;refine bW [14] ak ⟨⟨_,rfl,?_⟩,trivial⟩
 ·refine A2 ?_;refine Hf rfl ?_;refine A4 ?_;refine dP ?_;exact Nl ⟨⟨i+1,o++[x],some r.g,r.n,r.cap⟩,hlt,by show o++[x]=l.take (i+1);rw[<-fO hx,<-hI],jB,r.hn⟩ (hμ:=nD) (ht:=⟨rfl,(aQ rfl jO),rfl,trivial⟩) (hL:=(az [some 0,some 1] ⟨pR,⟨_,rfl,bg kz⟩,trivial⟩ rfl rfl))):=h
def Jb(h:P:=by refine E0 ?_;exact eB (by unfold CZ;first|(simp_all;done)|(simp_all;omega)|(simp_all;intros;omega))):=h
def qlM(h:P:=by refine A2 ?_;refine XM 5 0 ?_;refine A1 ?_;refine XM 7 0 ?_;refine Pc (Ih fb x.1) ?_;refine(Bl 20 [(0,_)]) (lK) (fun g4=>?_);refine(Qa (s:=20) (len:=q.length) (n2:=1) 6 8 (fun r=>[_,_,_,_,_,_,⟨some r.g,61,aj bT q++bT (Oj fb x.1),r.n,true⟩,_,_]) TG QX) (cO.length q) h5 h6 (cO.one (Oj fb x.1)) (fun r=>?_);refine qC ?_;refine dP ?_;exact Nl ⟨⟨i+1,m+x.2.1,n+x.2.2,false,fb,q++[Oj fb x.1],some r.g,r.n,r.cap⟩,hlt,Nz,NC,by rw[hI2,qgO hx hfar hnow];rw[hin,List.append_assoc];rfl,by rw[List.length_append];exact Nat.succ_le_succ hq,jB,r.hn⟩ (hμ:=ND) (ht:=⟨rfl,rfl,(aQ rfl jO),rfl,rfl,(aQ rfl (congrArg Value.bool hnow)),rfl,rfl,rfl,trivial⟩) (hL:=(az [some 0,some 1,some 2,some 3,some 4,some 5,some 6] ⟨pR,pR,pR,pR,pR,pR,⟨_,rfl,bg kz⟩,trivial⟩ rfl rfl))):=h
def qaz(h:P:=by refine A5 ?_;refine dP ?_;exact Nl ⟨⟨i+1,fU (fU m x.a) x.b⟩,hlt,by show _=(l.take (i+1)).foldl Bh (rl 0);rw[<-fO hx,List.foldl_append,<-hI];rfl⟩ (hμ:=nD) (hL:=(az [some 0,some 1,some 2] ⟨pR,pR,⟨_,rfl,bg (by rw[hm2]<;>rfl)⟩,trivial⟩ rfl rfl))):=h
def Qr(h:P:=by refine aO rfl (au rfl) (fun w hL=>⟨?_,hL.below⟩);exact congrArg (fun b=>Ending.returned (.bool b)) (by unfold zW;first|(simp_all;done)|(revert hb0;cases a<;>cases b<;>simp_all))):=h
def qlN(h:P:=by
 refine bW [12] ak ⟨⟨_,rfl,?_⟩,trivial⟩
 ·refine(Qa (s:=9) (len:=o.length) (n2:=2) 1 2 (fun r=>[_,⟨some r.g,38,aj jX o++(jX x.f++jX x.t),r.n,true⟩,_]) CX UD) (iw.length o) h3 h4 (fun v hv=>List.all_eq_true.1 (show(jX x.f++jX x.t).all (·.oneCell')=true from rfl) v hv) (fun r=>?_);refine A1 ?_;refine bW [13] ak ⟨⟨_,rfl,?_⟩,trivial⟩
  ·refine A2 ?_;refine Hf rfl ?_;refine A4 ?_;refine dP ?_;exact Nl ⟨⟨i+1,o++[x.f,x.t],some r.g,r.n,r.cap⟩,hlt,by show o++[x.f,x.t]=cu (l.take (i+1));rw[<-fO hx,wS,<-hI];rfl,jB,r.hn⟩ (hμ:=nD) (ht:=⟨rfl,(aQ rfl jO),rfl,trivial⟩) (hL:=(az [some 0,some 1] ⟨pR,⟨_,rfl,bg SS⟩,trivial⟩ rfl rfl))):=h
def qgm(q:Q)(h:bI Q->P:=by intro q_;refine A2 ?_;refine Nu ?_;refine Fg ((i)*36) 0 ?_;refine ED ?_;refine A2 ?_;refine aG 1 ((k)*36) vX wG rfl rfl rfl rfl rfl ae ae (aY.ne ax ae) qh ?_;refine Fg ((k)*36) 0 ?_;refine bu (v:=nJ y.i) 1 ((k)*36+0) _ rfl rfl rfl rfl pz (aY.sub hy 0 20 ax) rfl ax rfl ?_;exact q_.qq):=h ⟨q⟩
def Gz(q:Q)(h:bI Q->P:=by intro q_;refine A2 ?_;refine Nt 11 ?_;refine(Aq (n+x.2.2)) oO ?_;refine A1 ?_;exact q_.qq):=h ⟨q⟩
def qaA(q:Q)(h:bI Q->P:=by intro q_;refine SK ?_;refine Fg ((i)*38) 29 ?_;refine bu (v:=RV x.b) 0 ((i)*38+29) _ rfl rfl rfl rfl ja (dH.sub hx 29 9 ax) rfl ax rfl ?_;exact q_.qq):=h ⟨q⟩
def Nq(q:Q)(h:bI Q->P:=by intro q_;refine aG 1 ((j)*36) u29 qdN rfl rfl rfl rfl rfl ae ae (aY.ne ax ae) qh ?_;exact q_.qq):=h ⟨q⟩
def Nr(q:Q)(h:bI Q->P:=by intro q_;refine aG 0 ((i)*20) TG pz rfl rfl rfl rfl rfl ae ae (cO.ne ax ae) zx ?_;exact q_.qq):=h ⟨q⟩
def Jc(q:Q)(h:bI Q->P:=by intro q_;refine A2 ?_;refine Nt 5 ?_;refine(Aq (m+x.2.1)) oO ?_;refine A1 ?_;exact q_.qq):=h ⟨q⟩
def Ns(h:P:=by refine dP ?_;exact Nl ⟨i+1,hlt,by rw[hI,BB hx];simp only[hno,Bool.false_or]⟩ (hL:=fF.auto)):=h
def qlO(h:P:=by
 refine A9 ?_;refine Rs 17 ?_ ?_<;>intro haQ
 ·refine nI ?_;refine Rs 29 ?_ ?_<;>intro hbQ
  ·refine FN ?_;exact Jb
  ·refine A3 ?_;refine Rs 32 ?_ ?_<;>intro hcQ
   ·refine lW ?_;exact Jb
   ·refine lW ?_;exact Jb
 ·refine A3 ?_;refine Rs 20 ?_ ?_<;>intro hbQ
  ·refine A6 ?_;refine Rs 26 ?_ ?_<;>intro hcQ
   ·refine A3 ?_;refine Rs 29 ?_ ?_<;>intro hdQ
    ·refine FN ?_;exact Jb
    ·refine A3 ?_;refine Rs 32 ?_ ?_<;>intro heQ
     ·refine lW ?_;exact Jb
     ·refine lW ?_;exact Jb
   ·refine Rh ?_;exact Jb
  ·refine A22 ?_;exact Jb):=h
def qlP(h:P:=by refine A2 ?_;refine XM 7 0 ?_;refine Ss 5 ?_;refine lW ?_;refine dP ?_;exact Nl ⟨⟨i+1,m+x.2.1,n+x.2.2,true,x.1,q,qb,qN,qc⟩,hlt,Nz,NC,Yn,Nat.le_succ_of_le hq,h5,h6⟩ (hμ:=ND) (ht:=⟨rfl,rfl,rfl,rfl,rfl,(aQ rfl (congrArg Value.bool hnow)),rfl,rfl,rfl,trivial⟩) (hL:=fF.auto)):=h
def qlQ(h:P:=by refine lW ?_;refine dP ?_;exact Nl ⟨⟨i+1,m+x.2.1,n+x.2.2,false,fb,q,qb,qN,qc⟩,hlt,Nz,NC,Yn,Nat.le_succ_of_le hq,h5,h6⟩ (hμ:=ND) (ht:=⟨rfl,rfl,rfl,rfl,rfl,(aQ rfl (congrArg Value.bool hnow)),rfl,rfl,rfl,trivial⟩) (hL:=fF.auto)):=h
def qlR(h:P:=by refine Rh ?_;refine dP ?_;exact Nl ⟨⟨i+1,m+x.2.1,n+x.2.2,true,fb,q,qb,qN,qc⟩,hlt,Nz,NC,Yn,Nat.le_succ_of_le hq,h5,h6⟩ (hμ:=ND) (ht:=⟨rfl,rfl,rfl,rfl,rfl,(aQ rfl (congrArg Value.bool hnow)),rfl,rfl,rfl,trivial⟩) (hL:=fF.auto)):=h
def ED(q:Q)(h:bI Q->P:=by intro q_;refine bu (v:=nJ x.i) 0 ((i)*36+0) _ rfl rfl rfl rfl pz (aY.sub hx 0 20 ax) rfl ax rfl ?_;exact q_.qq):=h ⟨q⟩
def qgn(q:Q)(h:bI Q->P:=by intro q_;refine A2 ?_;refine aG 1 ((k)*9) CX ja rfl rfl rfl rfl rfl ae ae (iw.ne ax ae) Ii ?_;refine bu (v:=RV y) 1 ((k)*9) _ rfl rfl rfl rfl ja (iw.sub hy 0 9 ax) rfl ax rfl ?_;refine A2 ?_;refine aG 0 ((i)*9) CX ja rfl rfl rfl rfl rfl ae ae (iw.ne ax ae) Ii ?_;refine bu (v:=RV x) 0 ((i)*9) _ rfl rfl rfl rfl ja (iw.sub hx 0 9 ax) rfl ax rfl ?_;refine Pc (eU y x hys hxs) ?_;refine A4 ?_;exact q_.qq):=h ⟨q⟩
def Nu(q:Q)(h:bI Q->P:=by intro q_;refine aG 0 ((i)*36) vX wG rfl rfl rfl rfl rfl ae ae (aY.ne ax ae) qh ?_;exact q_.qq):=h ⟨q⟩
def Nv(q:Q)(h:bI Q->P:=by intro q_;refine Fg ((i)*36) 20 ?_;refine bu (v:=zk x.f) 0 ((i)*36+20) _ rfl rfl rfl rfl Jg (aY.sub hx 20 16 ax) rfl ax rfl ?_;exact q_.qq):=h ⟨q⟩
def Ny(q:Q)(h:bI Q->P:=by intro q_;refine bu (v:=nJ y.i) 1 ((j)*36+0) _ rfl rfl rfl rfl pz (aY.sub hy 0 20 ax) rfl ax rfl ?_;exact q_.qq):=h ⟨q⟩
def SK(q:Q)(h:bI Q->P:=by intro q_;refine aG 0 ((i)*38) u32 Hl rfl rfl rfl rfl rfl ae ae (dH.ne ax ae) EE ?_;exact q_.qq):=h ⟨q⟩
def qgo(h:P:=by have:=of_decide_eq_false hb1;omega):=h
def qgp(h:P:=by show a.length+b.length-(i+1)-k<a.length+b.length-i-k;omega):=h
def qgq(h:P:=by show a.length+b.length-i-(k+1)<a.length+b.length-i-k;omega):=h
def qgr(h:P:=by rw[hm1];exact qaB (of_decide_eq_true hcQ)):=h
def qgs(h:P:=by rw[hm1];exact qaC (of_decide_eq_false hcQ)):=h
def EE(h:P:=by show 0+Int.toNat _*38=_;omega):=h
def zx(h:P:=by show 0+Int.toNat _*20=_;omega):=h
def xX(h:P:=by have e:=hcQ;simpa using e):=h
def SN(h:P:=by dsimp only;decide):=h
def SQ(h:P:=by unfold iQ;rw[h1,h2,h3];rfl):=h
def qgt(h:P:=by rw[hI];simp only[List.length_append,qaF,qaG,List.length_take];omega):=h
def Yl(h:P:=by show a.length-(i+1)<a.length-i;omega):=h
def SS(h:P:=by rw[sS];rfl):=h
def Nz(h:P:=by show-((i+1:Nat):Int)<=m+x.2.1∧m+x.2.1<=((i+1:Nat):Int);omega):=h
def NC(h:P:=by show-((i+1:Nat):Int)<=n+x.2.2∧n+x.2.2<=((i+1:Nat):Int);omega):=h
def ND(h:P:=by show l2.length-(i+1)<l2.length-i;omega):=h
def SV(h:P:=by have e:=hfQ;simpa using e):=h
def SX(h:P:=by rw[hnow];decide):=h
def SY(h:P:=by have e:=heQ;simpa using e):=h
def S9(h:P:=by show b.length-(j+1)<b.length-j;omega):=h
def Ii(h:P:=by show 0+Int.toNat _*9=_;omega):=h
def Ym(h:P:=by exact(hobs.imp (fun e=>fM) id)):=h
def qgu(h:P:=by first|exact List.Perm.refl _|exact((List.Perm.swap _ _ _).cons _).cons _):=h
def qgv(h:P:=by exact(by rw[List.length_append,iw.lenTake hk,iw.len];omega)):=h
def Yn(h:P:=by rw[hI2,qgO hx hfar hnow];rw[hin];rfl):=h
end
namespace Go.Proofs.YtaffcpfhedadhaaGreatDoor
open Go Go.RowKit Go.Via
def eU(x y:Rl)(hx:fV x<=50000:=by omega)(hy:fV y<=50000:=by omega):aJ Tryz.prog 20 #[RV x,RV y] (.int .i64 (aV x y)):=by
 have x1:=Nat.le_trans (qg x) hx;have x2:=Nat.le_trans (wX x) hx;have y1:=Nat.le_trans (qg y) hy;have y2:=Nat.le_trans (wX y) hy;have l1:=gW x.p y.p;have hcm:=qjN x y;refine nV 26 Tryz.func20 fun w=>?_;refine nC fun g0=>?_;refine Bp 9 (fun g1=>?_);refine A4 ?_;refine Dp [] [0,1,2,3,5,7,8,9,11,12,4,6,10,13,14] ?_;refine A1 ?_;refine L4 0 0 ?_;refine A1 ?_;refine L4 1 0 ?_;refine L9 0 0 ?_;refine A1 ?_;refine L4 0 4 ?_;refine L9 1 0 ?_;refine A1 ?_;refine L4 1 4 ?_;refine Pc (jY x.p y.p) ?_;refine Pc (Gv x) ?_;refine Pc (Gv y) ?_;refine Pc (OE (x.p-y.p) (ni x) x.r (ni y) y.r (qgc x) (qgc y)) ?_;refine nI ?_;refine Cd ?_ ?_<;>intro haQ
 ·refine A8 ?_;refine E0 ?_;rw[<-hcm,qfp,if_pos (of_decide_eq_true haQ)]
 ·refine A7 ?_;refine Cd ?_ ?_<;>intro hbQ
  ·refine A8 ?_;refine E0 ?_;rw[<-hcm,qfp,if_neg (of_decide_eq_false haQ),if_pos (of_decide_eq_true hbQ)]
  ·refine A9 ?_;refine E0 ?_;rw[<-hcm,qfp,if_neg (of_decide_eq_false haQ),if_neg (of_decide_eq_false hbQ)]
def EF(i:Iv)(t:Rl)(hi:jM i<=50000:=by omega)(ht:fV t<=50000:=by omega):aJ Tryz.prog 52 #[nJ i,RV t] (.bool (CZ i t)):=by
 have i1:=Nat.le_trans (jD i) hi;have i2:=Nat.le_trans (jE i) hi;refine nV 39 Tryz.func52 fun w=>?_;refine A2 ?_;refine Bp 20 (fun g0=>?_);refine Bp 9 (fun g1=>?_);refine A4 ?_;refine Dp [] [0,1,2,4,5,6,3,7,8,9] ?_;refine A1 ?_;refine L9 0 0 ?_;refine L9 1 0 ?_;refine L9 1 0 ?_;refine A1 ?_;refine L9 0 9 ?_;refine Pc (eU i.f t ae ht) ?_;refine Pc (eU t i.t ht) ?_;exact qlO
def NE(l:List Rl)(lb:Option Nat)(lN lc:Nat)(hlc:l.length<=lc)(hln:l.length<=4000)(hsz:∀x∈l,fV x<=50000):cZ Tryz.prog 147 [⟨lb,38,aj jX l,lN,false⟩] [aA lb 0 l.length lc] (SR (fB l).length) SR.v (fun z=>[⟨z.b,38,aj jX (fB l),z.n,true⟩]):=by
 refine PR 62 Tryz.func147 fun w hL0=>?_;refine Ri ?_;refine El (ι:={z:Nat×List Rl×Option Nat×Nat×Nat // z.1<=l.length∧z.2.1=fB (l.take z.1)∧z.2.1.length<=z.2.2.2.2∧z.2.2.2.2*9<=z.2.2.2.1}) (fun⟨⟨i,o,ob,oN,oc⟩,hi,hI,h3,h4⟩=>([(0,aA lb 0 l.length lc),(3,aA ob 0 o.length oc),(4,bH i)],[⟨lb,38,aj jX l,lN,false⟩,⟨ob,38,aj jX o,oN,true⟩],l.length-i)) ⟨⟨0,[],none,0,0⟩,Nat.zero_le _,rfl,Nat.le_refl _,bz⟩ ?_ (hL:=(az [some 0,none] ⟨pR,⟨rfl,rfl,rfl⟩,trivial⟩ rfl rfl));rintro⟨⟨i,o,ob,oN,oc⟩,hi,hI,h3,h4⟩;(try dsimp only);replace hi:i<=l.length:=hi;replace hI:o=fB (l.take i):=hI;replace h3:o.length<=oc:=h3;replace h4:oc*9<=oN:=h4
 have hos:∀y∈o,fV y<=50000:=(by rw[hI];exact qas (p:=fun y=>fV y<=50000) fun y hy=>hsz y (List.mem_of_mem_take hy));have hol:o.length<=4000:=(by rw[hI];have:=SG (l.take i);rw[List.length_take] at this;omega);refine rF 1 rfl (fun hbase=>?_);have hobs:o.length=0∨∃g,ob=some g:=sV iw ax hbase;refine A9 ?_;refine Cd ?_ ?_<;>intro haQ
 ·have hlt:i<l.length:=iH;obtain⟨x,hx⟩:∃x,l[i]? =some x:=⟨l[i],List.getElem?_eq_getElem hlt⟩;have hxs:=hsz x (List.mem_of_getElem? hx);refine qC ?_;refine El (ι:={k:Nat // k<=o.length∧∀j y,j<k->o[j]? =some y->aV y x<0}) (fun⟨k,hk,hall⟩=>([(0,aA lb 0 l.length lc),(3,aA ob 0 o.length oc),(4,bH i),(5,bH k)],[⟨lb,38,aj jX l,lN,false⟩,⟨ob,38,aj jX o,oN,true⟩],o.length-k)) ⟨0,Nat.zero_le _,fun j y hj=>absurd hj ae⟩ ?_ (hL:=fF.auto);rintro⟨k,hk,hall⟩;(try dsimp only);refine A2 ?_;refine Di [] ?_;refine A5 ?_;refine Rs 16 ?_ ?_<;>intro hbQ
  ·have hklt:k<o.length:=lu;obtain⟨y,hy⟩:∃y,o[k]? =some y:=⟨o[k],List.getElem?_eq_getElem hklt⟩;have hys:=hos y (List.mem_of_getElem? hy);refine qgn ?_;refine Cd ?_ ?_<;>intro hcQ
   ·have hylt:aV y x<0:=of_decide_eq_true hcQ;refine A5 ?_;refine Ar (((k+1:Nat):Int)) ?_;refine A4 ?_;exact Nl ⟨k+1,hklt,fun j z hj hz=>by by_cases e:j<k;exact hall j z e hz;(have:j=k:=by omega);subst this;rw[hy] at hz;cases hz;exact hylt⟩ (hL:=fF.auto)
   ·have hyge:¬aV y x<0:=of_decide_eq_false hcQ;refine A7 ?_;refine Di [] ?_;refine A5 ?_;refine Rs 34 ?_ ?_<;>intro hdQ
    ·refine qgn ?_;refine Cd ?_ ?_<;>intro heQ
     ·have hye:aV y x=0:=eq_of_beq heQ;have hsame:=qar hy hall hyge hye;refine A6 ?_;refine dP ?_;exact Nl ⟨⟨i+1,o,ob,oN,oc⟩,hlt,by show o=fB (l.take (i+1));rw[V5 hx,<-hI,hsame],h3,h4⟩ (hμ:=nD) (hL:=fF.auto)
     ·have hye:aV y x≠0:=ne_of_beq_false heQ;have hins:=SE (x:=x) hk hall (fun z hz=>by rw[hy] at hz;cases hz;exact⟨hyge,hye⟩);refine A2 ?_;exact qqn
    ·exfalso;have:=of_decide_eq_false hdQ;omega
  ·have hkl:k=o.length:=lw;have hins:=SE (x:=x) hk hall (fun y hy=>absurd (List.getElem?_eq_some_iff.1 hy).1 ae);refine A21 ?_;refine Di [] ?_;refine A5 ?_;refine Rs 34 ?_ ?_<;>intro hcQ
   ·exfalso;have:=of_decide_eq_true hcQ;omega
   ·refine Rh ?_;exact qqn
 ·have hge:i=l.length:=iK;subst hge;obtain rfl:o=fB l:=Bv
  exact VU
def DN(l:List Iv)(lb:Option Nat)(lN lc:Nat)(hlc:l.length<=lc)(hln:l.length<=1000)(hsz:∀x∈l,jM x<=50000)(t:Rl)(ht:fV t<=50000:=by omega):cZ Tryz.prog 97 [⟨lb,61,aj bT l,lN,false⟩] [aA lb 0 l.length lc,RV t] Unit (fun _=> .bool (l.any (fun i=>CZ i t))) (fun _=>[]):=by
 refine⟨ak,fun w hL0=>?_⟩;refine cB2 18 Tryz.func97 hL0 ?_;refine A2 ?_;refine Bo [_,_,_,_,_,_,_,_,_] 9 (fun g=>[_,⟨some g,38,_,9,true⟩]) (fun g0=>?_);refine lW ?_;refine El (ι:={i:Nat // i<=l.length∧l.any (fun i=>CZ i t)=(l.drop i).any (fun i=>CZ i t)}) (fun⟨i,hi,hI⟩=>([(0,aA lb 0 l.length lc),(5,.int .i64 (i:Nat)),(3,.pointer (some ⟨g0,0,none⟩))],[⟨lb,61,aj bT l,lN,false⟩,⟨some g0,38,jX t,9,true⟩],l.length-i)) ⟨0,Nat.zero_le _,rfl⟩ ?_;rintro⟨i,hi,hI⟩;(try dsimp only);refine A9 ?_;refine yM rfl (fun hb1=>?_) (fun hb1=>?_)
 ·
  have hlt:i<l.length:=(by have:=of_decide_eq_true hb1;omega)
  obtain⟨x,hx⟩:∃x,l[i]? =some x:=⟨l[i],List.getElem?_eq_getElem hlt⟩
  have hxs:=hsz x (List.mem_of_getElem? hx);refine dQ 0 rfl (cO.ne ax ae) (fun hbs=>?_);obtain⟨gl,hgl⟩:=Option.isSome_iff_exists.1 hbs;replace hgl:lb=some gl:=hgl;subst hgl;refine A5 ?_;refine Ht [] mixed ak ak ?_;refine A2 ?_;refine Nr ?_;refine bu (v:=nJ x) 0 ((i)*20) _ rfl rfl rfl rfl pz (cO.sub hx 0 20 ax) rfl ax rfl ?_;refine bu 1 0 [_,_,_,_,_,_,_,_,_] rfl rfl rfl rfl ja rfl rfl rfl rfl ?_;refine Pc (EF x t hxs ht) ?_;refine A2 ?_;refine yM rfl (fun hb2=>?_) (fun hb2=>?_)
  ·
   have hyes:CZ x t=true:=hb2;refine qC ?_;refine aO rfl (au rfl) (fun w hL=>⟨(),?_,hL.pk []⟩);rw[hI,BB hx,hyes];rfl
  ·
   have hno:CZ x t=false:=hb2;refine A5 ?_;exact Ns
 ·
  have hge:i=l.length:=qgo
  subst hge;refine qC ?_;refine aO rfl (au rfl) (fun w hL=>⟨(),?_,hL.pk []⟩);rw[hI,List.drop_length];rfl
def DR(l:List Iv)(lb:Option Nat)(lN lc:Nat)(hlc:l.length<=lc)(hln:l.length<=1000)(hsz:∀x∈l,jM x<=50000)(a c:Rl)(ha:fV a<=50000:=by omega)(hc:fV c<=50000:=by omega):cZ Tryz.prog 98 [⟨lb,61,aj bT l,lN,false⟩] [aA lb 0 l.length lc,RV a,RV c] Unit (fun _=> .bool (l.any (fun i=>decide (aV i.f a<=0)&&decide (aV c i.t<=0)))) (fun _=>[]):=by
 refine⟨ak,fun w hL0=>?_⟩;refine cB3 32 Tryz.func98 hL0 ?_;refine A2 ?_;refine Bo [_,_,_,_,_,_,_,_,_] 9 (fun g=>[_,⟨some g,38,_,9,true⟩]) (fun g0=>?_);refine Bo [_,_,_,_,_,_,_,_,_] 9 (fun g=>[_,_,⟨some g,38,_,9,true⟩]) (fun g1=>?_);refine lW ?_;refine El (ι:={i:Nat // i<=l.length∧l.any (fun i=>decide (aV i.f a<=0)&&decide (aV c i.t<=0))=(l.drop i).any (fun i=>decide (aV i.f a<=0)&&decide (aV c i.t<=0))}) (fun⟨i,hi,hI⟩=>([(0,aA lb 0 l.length lc),(7,.int .i64 (i:Nat)),(4,.pointer (some ⟨g0,0,none⟩)),(5,.pointer (some ⟨g1,0,none⟩))],[⟨lb,61,aj bT l,lN,false⟩,⟨some g0,38,jX a,9,true⟩,⟨some g1,38,jX c,9,true⟩],l.length-i)) ⟨0,Nat.zero_le _,rfl⟩ ?_;rintro⟨i,hi,hI⟩;(try dsimp only);refine A9 ?_;refine yM rfl (fun hb1=>?_) (fun hb1=>?_)
 ·
  have hlt:i<l.length:=(by have:=of_decide_eq_true hb1;omega)
  obtain⟨x,hx⟩:∃x,l[i]? =some x:=⟨l[i],List.getElem?_eq_getElem hlt⟩
  have hxs:=hsz x (List.mem_of_getElem? hx);refine dQ 0 rfl (cO.ne ax ae) (fun hbs=>?_);obtain⟨gl,hgl⟩:=Option.isSome_iff_exists.1 hbs;replace hgl:lb=some gl:=hgl;subst hgl;refine A5 ?_;refine Ht [] mixed ak ak ?_;refine A2 ?_;refine Nr ?_;refine y5 ((i)*20) 0 rfl rfl rfl pz rfl rfl ?_;refine bu (v:=RV x.f) 0 ((i)*20+0) _ rfl rfl rfl rfl ja (cO.sub hx 0 9 ax) rfl ax rfl ?_;refine bu 1 0 [_,_,_,_,_,_,_,_,_] rfl rfl rfl rfl ja rfl rfl rfl rfl ?_;refine Pc (eU x.f a (Nat.le_trans (jD x) hxs) ha) ?_;refine A2 ?_;refine E8 22 rfl (fun hb2=>?_) (fun hb2=>?_)
  ·
   have hs22:aV x.f a<=0:=of_decide_eq_true hb2;refine bu 2 0 [_,_,_,_,_,_,_,_,_] rfl rfl rfl rfl ja rfl rfl rfl rfl ?_;refine A2 ?_;refine Nr ?_;refine y5 ((i)*20) 9 rfl rfl rfl pz rfl rfl ?_;refine bu (v:=RV x.t) 0 ((i)*20+9) _ rfl rfl rfl rfl ja (cO.sub hx 9 9 ax) rfl ax rfl ?_;refine Pc (eU c x.t hc (Nat.le_trans (jE x) hxs)) ?_;refine A4 ?_;refine yM rfl (fun hb3=>?_) (fun hb3=>?_)
   ·
    have hs30:aV c x.t<=0:=of_decide_eq_true hb3
    have hyes:(decide (aV x.f a<=0)&&decide (aV c x.t<=0))=true:=by rw[decide_eq_true hs22,decide_eq_true hs30];rfl
    refine qC ?_;refine aO rfl (au rfl) (fun w hL=>⟨(),?_,hL.pk []⟩);rw[hI,BB hx,hyes];rfl
   ·
    have hs30:¬aV c x.t<=0:=of_decide_eq_false hb3
    have hno:(decide (aV x.f a<=0)&&decide (aV c x.t<=0))=false:=by rw[decide_eq_false hs30,Bool.and_false]
    refine A5 ?_;exact Ns
  ·
   have hs22:¬aV x.f a<=0:=of_decide_eq_false hb2
   have hno:(decide (aV x.f a<=0)&&decide (aV c x.t<=0))=false:=by rw[decide_eq_false hs22];rfl
   refine Ri ?_;exact Ns
 ·
  have hge:i=l.length:=qgo
  subst hge;refine qC ?_;refine aO rfl (au rfl) (fun w hL=>⟨(),?_,hL.pk []⟩);rw[hI,List.drop_length];rfl
def BC(op:Int)(a b:Bool):aJ Tryz.prog 96 #[.int .i64 op,.bool a,.bool b] (.bool (zW op a b)):=by
 refine⟨ak,fun w=>?_⟩;refine cB3 25 Tryz.func96 (aX.nil w) ?_;refine A18 ?_;refine yM rfl (fun hb0=>?_) (fun hb0=>?_)
 ·
  refine A4 ?_;refine E8 11 rfl (fun hb1=>?_) (fun hb1=>?_)
  ·
   refine A8 ?_;exact Qr
  ·
   refine A8 ?_;exact Qr
 ·
  refine A6 ?_;refine yM rfl (fun hb1=>?_) (fun hb1=>?_)
  ·
   refine A4 ?_;refine E8 17 rfl (fun hb2=>?_) (fun hb2=>?_)
   ·
    refine A8 ?_;exact Qr
   ·
    refine A8 ?_;exact Qr
  ·
   refine A7 ?_;refine E8 21 rfl (fun hb2=>?_) (fun hb2=>?_)
   ·
    refine A7 ?_;exact Qr
   ·
    refine A7 ?_;exact Qr
def Tc(l:List Iv)(lb:Option Nat)(lN lc:Nat)(hlc:l.length<=lc)(hln:l.length<=2000)(hsz:∀x∈l,jM x<=50000):cZ Tryz.prog 95 [⟨lb,61,aj bT l,lN,false⟩] [aA lb 0 l.length lc] (SR (fB (cu l)).length) SR.v (fun z=>[⟨z.b,38,aj jX (fB (cu l)),z.n,true⟩]):=by
 refine PR 26 Tryz.func95 fun w hL0=>?_;refine Ri ?_;refine El (ι:={z:Nat×List Rl×Option Nat×Nat×Nat // z.1<=l.length∧z.2.1=cu (l.take z.1)∧z.2.1.length<=z.2.2.2.2∧z.2.2.2.2*9<=z.2.2.2.1}) (fun⟨⟨i,o,ob,oN,oc⟩,hi,hI,h3,h4⟩=>([(0,aA lb 0 l.length lc),(3,aA ob 0 o.length oc),(4,bH i)],[⟨lb,61,aj bT l,lN,false⟩,⟨ob,38,aj jX o,oN,true⟩],l.length-i)) ⟨⟨0,[],none,0,0⟩,Nat.zero_le _,rfl,Nat.le_refl _,bz⟩ ?_ (hL:=(az [some 0,none] ⟨pR,⟨rfl,rfl,rfl⟩,trivial⟩ rfl rfl));rintro⟨⟨i,o,ob,oN,oc⟩,hi,hI,h3,h4⟩;(try dsimp only);replace hi:i<=l.length:=hi;replace hI:o=cu (l.take i):=hI;replace h3:o.length<=oc:=h3;replace h4:oc*9<=oN:=h4
 have hol:o.length<=100000:=(by rw[hI,vM,List.length_take];omega);refine A9 ?_;refine Cd ?_ ?_<;>intro haQ
 ·have hlt:i<l.length:=iH;obtain⟨x,hx⟩:∃x,l[i]? =some x:=⟨l[i],List.getElem?_eq_getElem hlt⟩;refine dQ 0 rfl (cO.ne ax ae) (fun hbs=>?_);obtain⟨gl,hgl⟩:=Option.isSome_iff_exists.1 hbs;replace hgl:lb=some gl:=hgl;subst hgl;refine A4 ?_;refine qU (l':=[⟨_,_,_,_,_,_⟩,⟨_,_,_,_,_,_⟩,⟨_,_,_,_,_,_⟩,⟨_,_,_,_,_,_⟩,⟨_,_,_,_,_,_⟩,⟨_,_,_,_,_,_⟩,⟨_,_,_,_,_,_⟩,⟨_,_,_,_,_,_⟩,⟨_,_,_,_,_,_⟩,⟨_,_,_,_,_,_⟩]) [2000000] [1,2,3,4,5,6,7,8,9,10] [0,11,12,13] mixed ak rfl ?_;refine A2 ?_;refine Nr ?_;refine Fg ((i)*20) 0 ?_;refine bu (v:=RV x.f) 0 ((i)*20+0) _ rfl rfl rfl rfl ja (cO.sub hx 0 9 ax) rfl ax rfl ?_;refine A2 ?_;refine Nr ?_;refine Fg ((i)*20) 9 ?_;refine bu (v:=RV x.t) 0 ((i)*20+9) _ rfl rfl rfl rfl ja (cO.sub hx 9 9 ax) rfl ax rfl ?_;refine A1 ?_;refine bW [0,11] ak ⟨⟨_,rfl,?_⟩,⟨_,rfl,?_⟩,trivial⟩
  ·refine A2 ?_;refine bW [11] ak ⟨⟨_,rfl,?_⟩,trivial⟩
   ·refine(Bl 18 [(0,_),(1,_)]) (Zl) (fun g0=>?_);refine A1 ?_;exact qlN
  ·refine(Bl 18 [(0,_),(1,_)]) (Zl) (fun g0=>?_);refine A1 ?_;refine bW [0] ak ⟨⟨_,rfl,?_⟩,trivial⟩
   ·refine A2 ?_;exact qlN
 ·have hge:i=l.length:=iK;subst hge;obtain rfl:o=cu l:=Bv
  refine A8 ?_;refine(Sc [1]) (NE (cu l) ob oN oc h3 (by rw[vM];omega) (qat hsz)) (fun z=>?_);refine A4 ?_;refine aO rfl (au rfl) (fun w hL=>⟨z,?_,hL.pk [some 2]⟩);exact rfl
end Go.Proofs.YtaffcpfhedadhaaGreatDoor
namespace Go.Via
open Go
def V9{α:Type}{a b:List α}(h:a.take a.length=b.take a.length)(hl:a.length=b.length):a=b:=by
 rw[List.take_length,hl,List.take_length] at h;exact h
theorem qoh:zW 2=qr5:=by funext a b;rfl
def zRc:List Value:=[aT,aU,aT,aU,aT,aU,aT,aU,.bool false]
def qgw:jX (rl 0)=zRc:=by
 have:=Sz;unfold RV at this
 injection this with h
 have h2:=congrArg Array.toList h;exact h2
def GG{x y:Rl}{n:Nat}(hx:fV x<=n)(hy:fV y<=n):fV (fU x y)<=n:=by rcases JY x y with e|e<;>rw[e]<;>assumption
def qke{l:List lM}(h:∀p∈l,fV p.a<=50000∧fV p.b<=50000):fV (l.foldl Bh (rl 0))<=50000:=by
 have:∀(l:List lM) (o:Rl),(∀p∈l,fV p.a<=50000∧fV p.b<=50000)->fV o<=50000->fV (l.foldl Bh o)<=50000:=by
  intro l
  induction l with
  |nil=>intro o _ ho;exact ho
  |cons p l ih=>intro o hl ho;rw[List.foldl_cons];exact ih _ (fun q hq=>hl q (List.mem_cons_of_mem _ hq)) (GG (GG ho (hl p (List.mem_cons_self ..)).1) (hl p (List.mem_cons_self ..)).2)
 exact this l _ h (vC (by have:=vz;omega) ae)
def qaB{x y:Rl}(h:aV y x>0):fU x y=y:=by unfold fU;rw[if_pos h]
def qaC{x y:Rl}(h:¬aV y x>0):fU x y=x:=by unfold fU;rw[if_neg h]
def sqL(x y:Rat):Qd:=⟨x*x,x*y+y*x,x*0+0*x+y*y⟩
def qoi(f g:Ln):(⟨(sqL (f.x0-g.x0) (f.x1-g.x1)).c0+(sqL (f.y0-g.y0) (f.y1-g.y1)).c0,(sqL (f.x0-g.x0) (f.x1-g.x1)).c1+(sqL (f.y0-g.y0) (f.y1-g.y1)).c1,(sqL (f.x0-g.x0) (f.x1-g.x1)).c2+(sqL (f.y0-g.y0) (f.y1-g.y1)).c2⟩:Qd)=d2 f g:=by
 unfold sqL d2;dsimp only;congr 1<;>grind
def qkf{l:List lM}{o:Rl}(h:∀p∈l,fV p.a<=50000∧fV p.b<=50000)(ho:fV o<=50000):fV (l.foldl (fun o x=>fU o (fU x.a x.b)) o)<=50000:=by
 induction l generalizing o with
 |nil=>exact ho
 |cons p l ih=>rw[List.foldl_cons];exact ih (fun q hq=>h q (List.mem_cons_of_mem _ hq)) (GG ho (GG (h p (List.mem_cons_self ..)).1 (h p (List.mem_cons_self ..)).2))
def Yo{l:List lM}(h0:0<l.length):l.foldl (fun o x=>fU o (fU x.a x.b)) (l[0]'h0).a=fH l:=by
 cases l with
 |nil=>simp at h0
 |cons p l=>rfl
end Go.Via
namespace Go.Proofs.YtaffcpfhedadhaaGreatDoor
open Go Go.Via
def qoj:elW Tryz.prog 151 52 (.agg #[aT,aU,aT,aU,aT,aU,aT,aU,.bool false,aT,aU,aT,aU,aT,aU,aT,aU,.bool false,.bool false,.bool false,aT,aU,aT,aU,aT,aU,aT,aU,aT,aU,aT,aU,aT,aU,aT,aU,aT,aU,aT,aU,aT,aU,aT,aU,aT,aU,aT,aU,aT,aU,aT,aU]):=⟨ak,ax⟩
end Go.Proofs.YtaffcpfhedadhaaGreatDoor
namespace Go.Via
def Dj(x y:PU):Option B3:=(iV x.i y.i).map fun m=>⟨m,x.f,y.f⟩
def EM(x y:PU):Bool:=PX x.i y.i
theorem qaD{x y:PU}(h:lD (fD x.i y.i)=true):(Dj x y).toList=[⟨fD x.i y.i,x.f,y.f⟩]:=by unfold Dj iV;rw[if_pos h];rfl
theorem qgx{x y:PU}(h:lD (fD x.i y.i)=false):(Dj x y).toList=[]:=by unfold Dj iV;rw[if_neg UH];rfl
theorem qgy{α β γ:Type}{mt:α->β->Option γ}{ef:α->β->Bool}{a:List α}{b:List β}{i k:Nat}{x:α}{y:β}(hx:a[i]? =some x)(hy:b[k]? =some y)(h:ef x y=true):gZ mt ef (a.drop i) (b.drop k)=(mt x y).toList++gZ mt ef (a.drop (i+1)) (b.drop k):=by
 rw[zu hx,zu hy,gZ,if_pos h]
theorem qgz{α β γ:Type}{mt:α->β->Option γ}{ef:α->β->Bool}{a:List α}{b:List β}{i k:Nat}{x:α}{y:β}(hx:a[i]? =some x)(hy:b[k]? =some y)(h:ef x y=false):gZ mt ef (a.drop i) (b.drop k)=(mt x y).toList++gZ mt ef (a.drop i) (b.drop (k+1)):=by
 rw[zu hx,zu hy,gZ,if_neg UH]
theorem We{α β γ:Type}{mt:α->β->Option γ}{ef:α->β->Bool}{a:List α}{b:List β}{i k:Nat}(h:a.length<=i∨b.length<=k):gZ mt ef (a.drop i) (b.drop k)=[]:=by
 rcases h with h|h
 ·rw[List.drop_of_length_le h];cases b.drop k<;>simp[gZ]
 ·rw[List.drop_of_length_le h];cases a.drop i<;>simp[gZ]
theorem NF{α β γ δ:Type}{mt:α->β->Option γ}{ef:α->β->Bool}(f:γ->δ):∀(a:List α) (b:List β),(gZ mt ef a b).map f=gZ (fun x y=>(mt x y).map f) ef a b
 |[],_=>by simp[gZ]
 |_::_,[]=>by simp[gZ]
 |x::xs,y::ys=>by
  rw[gZ,gZ,List.map_append]
  congr 1
  ·cases mt x y<;>rfl
  ·split
   ·exact NF f xs (y::ys)
   ·exact NF f (x::xs) ys
termination_by a b=>a.length+b.length
def GH{α β γ:Type}{mt:α->β->Option γ}{ef:α->β->Bool}:∀{a:List α} {b:List β} {z:γ},z∈gZ mt ef a b->∃x∈a,∃y∈b,mt x y=some z
 |[],_,z,h=>by simp[gZ] at h
 |_::_,[],z,h=>by simp[gZ] at h
 |x::xs,y::ys,z,h=>by
  rw[gZ] at h;rcases List.mem_append.1 h with h|h
  ·exact⟨x,List.mem_cons_self ..,y,List.mem_cons_self ..,Option.mem_toList.1 h⟩
  ·split at h
   ·obtain⟨u,hu,v,hv,e⟩:=GH h;exact⟨u,List.mem_cons_of_mem _ hu,v,hv,e⟩
   ·obtain⟨u,hu,v,hv,e⟩:=GH h;exact⟨u,hu,v,List.mem_cons_of_mem _ hv,e⟩
termination_by a b=>a.length+b.length
def GI{α β γ:Type}{mt:α->β->Option γ}{ef:α->β->Bool}:∀(a:List α) (b:List β),(gZ mt ef a b).length<=a.length+b.length
 |[],_=>by simp[gZ]
 |_::_,[]=>by simp[gZ]
 |x::xs,y::ys=>by
  rw[gZ,List.length_append];have h1:(mt x y).toList.length<=1:=by cases mt x y<;>simp
  split
  ·have:=GI (mt:=mt) (ef:=ef) xs (y::ys);simp only[List.length_cons] at this ⊢;omega
  ·have:=GI (mt:=mt) (ef:=ef) (x::xs) ys;simp only[List.length_cons] at this ⊢;omega
termination_by a b=>a.length+b.length
theorem GK(a b:List PU):(gZ Dj EM a b).map (fun z=>(z.i,d2 z.f z.g))=ag a b:=by
 rw[NF];unfold ag
 congr 1
 funext x y
 unfold Dj uB;cases iV x.i y.i<;>rfl
def qaE{x y:Rat}{n:Nat}(hx:bY x<=n)(hy:bY y<=n):uC (sqL x y)<=4*n+10:=by
 have z:=vz;unfold sqL;refine Ie ?_ ?_ ?_<;>dsimp only
 ·have:=bZ x x;omega
 ·have:=bZ x y;have:=bZ y x;have:=iG (x*y) (y*x);omega
 ·have:=bZ x 0;have:=bZ 0 x;have:=bZ y y;have:=iG (x*0) (0*x);have:=iG (x*0+0*x) (y*y);omega
def GX(l:List PU):Prop:=∀u∈l,jM u.i<=100∧jP u.f<=100
theorem GX.v{l:List PU}(h:GX l):∀u∈l,jM u.i<=50000:=fun u hu=>Nat.le_trans (h u hu).1 ae
def qlS{a b:List PU}(ha:GX a)(hb:GX b):∀z∈gZ Dj EM a b,jM z.i<=100∧jP z.f<=100∧jP z.g<=100:=fun z hz=>by
 obtain⟨x,hx,y,hy,e⟩:=GH hz;unfold Dj iV at e
 split at e
 ·simp at e;subst e;exact⟨VZ (ha x hx).1 (hb y hy).1,(ha x hx).2,(hb y hy).2⟩
 ·simp at e
def uD(a b:List PU):(ag a b).length<=a.length+b.length:=by rw[<-GK,List.length_map];exact GI a b
def yH{a b:List PU}(ha:GX a)(hb:GX b):∀z∈ag a b,jM z.1<=100∧uC z.2<=820:=fun z hz=>by
 rw[<-GK] at hz;obtain⟨w,hw,rfl⟩:=List.mem_map.1 hz;have:=qlS ha hb w hw;exact⟨this.1,Nat.le_trans (SC this.2.1 this.2.2) ae⟩
end Go.Via
namespace Go.Proofs.YtaffcpfhedadhaaGreatDoor
open Go Go.RowKit Go.Via
def Jz(a:List PU)(ab:Option Nat)(aN ac:Nat)(hac:a.length<=ac)(han:a.length<=1000)(b:List PU)(bb:Option Nat)(bN bc:Nat)(hbc:b.length<=bc)(hbn:b.length<=1000)(hsa:∀u∈a,jM u.i<=50000)(hsb:∀u∈b,jM u.i<=50000):cZ Tryz.prog 90 [⟨ab,201,aj aP a,aN,false⟩,⟨bb,201,aj aP b,bN,false⟩] [aA ab 0 a.length ac,aA bb 0 b.length bc] (SR (gZ Dj EM a b).length) SR.v (fun z=>[⟨z.b,151,aj XQ (gZ Dj EM a b),z.n,true⟩]):=by
 refine Z5 66 Tryz.func90 fun w hL0=>?_;refine A18 ?_;refine El (ι:={z:Nat×Nat×List B3×Option Nat×Nat×Nat // z.1<=a.length∧z.2.1<=b.length∧z.2.2.1++gZ Dj EM (a.drop z.1) (b.drop z.2.1)=gZ Dj EM a b∧z.2.2.1.length<=z.2.2.2.2.2∧z.2.2.2.2.2*52<=z.2.2.2.2.1∧z.2.2.1.length<=z.1+z.2.1}) (fun⟨⟨i,k,o,ob,oN,oc⟩,hi,hk,hI,h3,h4,hol⟩=>([(0,aA ab 0 a.length ac),(1,aA bb 0 b.length bc),(5,aA ob 0 o.length oc),(6,bH i),(7,bH k)],[⟨ab,201,aj aP a,aN,false⟩,⟨bb,201,aj aP b,bN,false⟩,⟨ob,151,aj XQ o,oN,true⟩],a.length+b.length-i-k)) ⟨⟨0,0,[],none,0,0⟩,Nat.zero_le _,Nat.zero_le _,rfl,Nat.le_refl _,bz,Nat.le_refl _⟩ ?_ (hL:=(az [some 0,some 1,none] ⟨pR,pR,⟨rfl,rfl,rfl⟩,trivial⟩ rfl rfl));rintro⟨⟨i,k,o,ob,oN,oc⟩,hi,hk,hI,h3,h4,hol⟩;(try dsimp only);replace hi:i<=a.length:=hi;replace hk:k<=b.length:=hk;replace hI:o++gZ Dj EM (a.drop i) (b.drop k)=gZ Dj EM a b:=hI;replace h3:o.length<=oc:=h3;replace h4:oc*52<=oN:=h4;replace hol:o.length<=i+k:=hol;refine A8 ?_;refine Rs 14 ?_ ?_<;>intro haQ
 ·have hlt:i<a.length:=iH;obtain⟨x,hx⟩:∃x,a[i]? =some x:=⟨a[i],List.getElem?_eq_getElem hlt⟩;have hxs:=hsa x (List.mem_of_getElem? hx);refine A7 ?_;refine Cd ?_ ?_<;>intro hbQ
  ·have hlk:k<b.length:=lu;obtain⟨y,hy⟩:∃y,b[k]? =some y:=⟨b[k],List.getElem?_eq_getElem hlk⟩;have hys:=hsb y (List.mem_of_getElem? hy)
   refine A5 ?_;refine dQ 0 rfl (aY.ne ax ae) (fun hbs=>?_);obtain⟨ga,hga⟩:=Option.isSome_iff_exists.1 hbs;replace hga:ab=some ga:=hga;subst hga;refine dQ 1 rfl (aY.ne ax ae) (fun hbs=>?_);obtain⟨gb,hgb⟩:=Option.isSome_iff_exists.1 hbs;replace hgb:bb=some gb:=hgb;subst hgb;refine Dq [3000000] [0,1,2,3,4,5,6,7,8,9,10,11,12,14,15,13,16] ?_;refine qgm ?_;refine Pc (OG x.i y.i hxs hys) ?_;refine A2 ?_;refine Al 20 z61 (fun g0=>?_);refine Ss 3 ?_;refine A9 ?_;refine Cd ?_ ?_<;>intro hcQ
   ·have hok:lD (fD x.i y.i)=true:=hcQ;refine qU (l':=[⟨_,_,_,_,_,_⟩,⟨_,_,_,_,_,_⟩,⟨_,_,_,_,_,_⟩,⟨_,_,_,_,_,_⟩,⟨_,_,_,_,_,_⟩,⟨_,_,_,_,_,_⟩,⟨_,_,_,_,_,_⟩,⟨_,_,_,_,_,_⟩,⟨_,_,_,_,_,_⟩,⟨_,_,_,_,_,_⟩,⟨_,_,_,_,_,_⟩,⟨_,_,_,_,_,_⟩]) [2000000] [1,2,3,4,5,6,7,8,9,10,11,12] [0,13,14,15] mixed ak rfl ?_;refine yK 3 0 ?_;refine A2 ?_;refine Nu ?_;refine Nv ?_;refine A2 ?_;refine aG 1 ((k)*36) vX wG rfl rfl rfl rfl rfl ae ae (aY.ne ax ae) qh ?_;refine Fg ((k)*36) 20 ?_;refine bu (v:=zk y.f) 1 ((k)*36+20) _ rfl rfl rfl rfl Jg (aY.sub hy 20 16 ax) rfl ax rfl ?_;refine(Bu [(0,_),(1,_),(2,_)]) (qim) ?_;refine A1 ?_;refine bW [0,13] ak ⟨⟨_,rfl,?_⟩,⟨_,rfl,?_⟩,trivial⟩
    ·refine A2 ?_;refine bW [13] ak ⟨⟨_,rfl,?_⟩,trivial⟩
     ·refine(Bl 52 [(0,_)]) (Zj) (fun g1=>?_);refine A1 ?_;exact qlL
    ·refine(Bl 52 [(0,_)]) (Zj) (fun g1=>?_);refine A1 ?_;refine bW [0] ak ⟨⟨_,rfl,?_⟩,trivial⟩
     ·refine A2 ?_;exact qlL
   ·have hok:lD (fD x.i y.i)=false:=hcQ;refine A3 ?_;refine Di [] ?_;refine qgm ?_;refine Pc (vS x.i y.i hxs hys) ?_;refine A2 ?_;refine Cd ?_ ?_<;>intro hdQ
    ·have hef:EM x y=true:=hdQ;refine A2 ?_;refine Ar (((i+1:Nat):Int)) ?_;refine A4 ?_;exact Nl ⟨⟨i+1,k,o,ob,oN,oc⟩,hlt,hk,by rw[<-hI,qgy hx hy hef,qgx hok,List.nil_append],h3,h4,by show o.length<=i+1+k;omega⟩ (hμ:=qgp) (hL:=fF.auto)
    ·have hef:EM x y=false:=hdQ;refine A2 ?_;refine Ar (((k+1:Nat):Int)) ?_;refine A4 ?_;exact Nl ⟨⟨i,k+1,o,ob,oN,oc⟩,hi,hlk,by rw[<-hI,qgz hx hy hef,qgx hok,List.nil_append],h3,h4,by show o.length<=i+(k+1);omega⟩ (hμ:=qgq) (hL:=fF.auto)
  ·have hge:b.length<=k:=lw;obtain rfl:o=gZ Dj EM a b:=by rw[<-hI,We (.inr hge),List.append_nil]
   refine nI ?_;refine aO rfl (au rfl) (fun w hL=>⟨⟨ob,oN,oc,h3⟩,?_,hL.pk [some 2]⟩);exact rfl
 ·have hge:a.length<=i:=iK;obtain rfl:o=gZ Dj EM a b:=by rw[<-hI,We (.inl hge),List.append_nil]
  refine A20 ?_;refine aO rfl (au rfl) (fun w hL=>⟨⟨ob,oN,oc,h3⟩,?_,hL.pk [some 2]⟩);exact rfl
def Td(l:List lM)(lb:Option Nat)(lN lc:Nat)(hlc:l.length<=lc)(hln:l.length<=1000)(hsz:∀p∈l,fV p.a<=50000∧fV p.b<=50000):cZ Tryz.prog 47 [⟨lb,63,aj aZ l,lN,false⟩] [aA lb 0 l.length lc] Unit (fun _=>RV (bG l)) (fun _=>[]):=by
 refine PR 39 Tryz.func47 fun w hL0=>?_;refine A2 ?_;refine Al 9 II (fun g0=>?_);refine A4 ?_;refine(Bu []) (qdR) ?_;refine aS 5 (RV (rl 0)) rfl Sz.symm ?_;refine Al 9 II (fun g1=>?_);refine Ss 2 ?_;refine A9 ?_;refine El (ι:={z:Nat×Rl // z.1<=l.length∧z.2=(l.take z.1).foldl Bh (rl 0)}) (fun⟨⟨i,m⟩,hi,hI⟩=>([(0,aA lb 0 l.length lc),(2,bf g0),(3,bf g1),(4,bH i)],[⟨lb,63,aj aZ l,lN,false⟩,⟨some g0,38,zRc,9,true⟩,⟨some g1,38,jX m,9,true⟩],l.length-i)) ⟨⟨0,rl 0⟩,Nat.zero_le _,rfl⟩ ?_ (hL:=fF.auto);rintro⟨⟨i,m⟩,hi,hI⟩;(try dsimp only);replace hi:i<=l.length:=hi;replace hI:m=(l.take i).foldl Bh (rl 0):=hI
 have hms:fV m<=50000:=(by rw[hI];exact qke fun p hp=>hsz p (List.mem_of_mem_take hp));refine A9 ?_;refine Cd ?_ ?_<;>intro haQ
 ·have hlt:i<l.length:=iH;obtain⟨x,hx⟩:∃x,l[i]? =some x:=⟨l[i],List.getElem?_eq_getElem hlt⟩;refine dQ 0 rfl (dH.ne ax ae) (fun hbs=>?_);obtain⟨gl,hgl⟩:=Option.isSome_iff_exists.1 hbs;replace hgl:lb=some gl:=hgl;subst hgl;have hxs:=hsz x (List.mem_of_getElem? hx);refine A6 ?_;refine Di [] ?_;refine A2 ?_;refine SK ?_;refine Fg ((i)*38) 20 ?_;refine bu (v:=RV x.a) 0 ((i)*38+20) _ rfl rfl rfl rfl ja (dH.sub hx 20 9 ax) rfl ax rfl ?_;refine L9 2 0 ?_;refine Pc (eU x.a m hxs.1 hms) ?_;refine A3 ?_;refine Cd ?_ ?_<;>intro hbQ
  ·have hm1:fU m x.a=x.a:=qaB (of_decide_eq_true hbQ);refine A3 ?_;refine SK ?_;refine Fg ((i)*38) 20 ?_;refine bu (v:=RV x.a) 0 ((i)*38+20) _ rfl rfl rfl rfl ja (dH.sub hx 20 9 ax) rfl ax rfl ?_;refine dW ?_;refine Di [] ?_;refine A2 ?_;refine qaA ?_;refine L9 2 0 ?_;refine Pc (eU x.b x.a hxs.2 hxs.1) ?_;refine A3 ?_;refine Cd ?_ ?_<;>intro hcQ
   ·have hm2:fU (fU m x.a) x.b=x.b:=qgr
    refine A3 ?_;refine qaA ?_;refine Ss 2 ?_;exact qaz
   ·have hm2:fU (fU m x.a) x.b=x.a:=qgs
    exact qaz
  ·have hm1:fU m x.a=m:=qaC (of_decide_eq_false hbQ);refine A3 ?_;refine Di [] ?_;refine A2 ?_;refine qaA ?_;refine L9 2 0 ?_;refine Pc (eU x.b m hxs.2 hms) ?_;refine A3 ?_;refine Cd ?_ ?_<;>intro hcQ
   ·have hm2:fU (fU m x.a) x.b=x.b:=qgr
    refine A3 ?_;refine qaA ?_;refine Ss 2 ?_;exact qaz
   ·have hm2:fU (fU m x.a) x.b=m:=qgs
    exact qaz
 ·have hge:i=l.length:=iK;subst hge;obtain rfl:m=bG l:=by rw[hI,List.take_length];rfl
  refine A7 ?_;refine L9 2 0 ?_;refine Ss 1 ?_;refine A3 ?_;refine Ec9 1 fun w hL=>⟨(),?_,hL.pk []⟩;exact rfl
def tY(a b c d:Rat)(ha:bY a<=40000:=by omega)(hb:bY b<=40000:=by omega)(hc:bY c<=40000:=by omega)(hd:bY d<=40000:=by omega):aJ Tryz.prog 93 #[Q a,Q b,Q c,Q d] (rH (sqL (a-c) (b-d))):=by
 have l1:=gW a c;have l2:=gW b d;have z0:=vz;have hs:uC ⟨a-c,b-d,0⟩<=100000:=Ie (by show bY (a-c)<=_;omega) (by show bY (b-d)<=_;omega) (by show bY 0<=_;omega);refine pB4 26 Tryz.func93 fun w=>?_;refine jl fun g0=>?_;refine Bp 4 (fun g1=>?_);refine Bp 4 (fun g2=>?_);refine Bp 4 (fun g3=>?_);refine Al 12 IJ (fun g4=>?_);refine A3 ?_;refine Dq [3000000] [0,1,3,4,2,5,6,7,8] ?_;refine L4 0 0 ?_;refine L4 2 0 ?_;refine L4 1 0 ?_;refine L4 3 0 ?_;refine Pc (eQ a c) ?_;refine Pc (eQ b d) ?_;refine Pc (jC (a-c) (b-d)) ?_;refine Al 12 IJ (fun g5=>?_);refine Ss 5 ?_;refine A4 ?_;refine vZ 5 0 ?_;refine vZ 5 0 ?_;refine Pc (Jt ⟨a-c,b-d,0⟩ ⟨a-c,b-d,0⟩ rfl rfl hs hs) ?_;refine A3 ?_;refine Al 12 IJ (fun g6=>?_);refine Ss 6 ?_;refine A5 ?_;refine vZ 6 0 ?_;refine Ss 4 ?_;refine A3 ?_;refine Md 4 ?_;exact rfl
def jF(i:Iv)(f:Qd)(h1:0<=i.f.r:=by omega)(h2:0<=i.t.r:=by omega)(hi:jM i<=10000:=by omega)(hf:uC f<=10000:=by omega):aJ Tryz.prog 42 #[nJ i,rH f] (wU (ay (i,f))):=by
 have i1:=Nat.le_trans (jD i) hi;have i2:=Nat.le_trans (jE i) hi;refine nV 15 Tryz.func42 fun w=>?_;refine A2 ?_;refine Bp 20 (fun g0=>?_);refine Bp 12 (fun g1=>?_);refine Al 38 Ou (fun g2=>?_);refine A3 ?_;refine Dp [] [0,1,2,3,5,6,7,4,8,9,10] ?_;refine yK 0 0 ?_;refine vZ 1 0 ?_;refine A1 ?_;refine L9 0 0 ?_;refine vZ 1 0 ?_;refine A1 ?_;refine L9 0 9 ?_;refine Pc (vI f i.f h1 hf) ?_;refine Pc (vI f i.t h2 hf) ?_;refine(Bu [(0,_),(1,_),(2,_)]) (WV) ?_;refine dW ?_;refine qr0 2 ?_;exact rfl
def qO(l:List lM)(lb:Option Nat)(lN lc:Nat)(hlc:l.length<=lc)(hln:l.length<=1000)(hsz:∀p∈l,fV p.a<=50000∧fV p.b<=50000)(h0:0<l.length:=by omega):cZ Tryz.prog 43 [⟨lb,63,aj aZ l,lN,false⟩] [aA lb 0 l.length lc] Unit (fun _=>RV (fH l)) (fun _=>[]):=by
 refine PR 25 Tryz.func43 fun w hL0=>?_;refine A2 ?_;refine Al 9 II (fun g0=>?_);refine A3 ?_;have hx0:l[0]? =some (l[0]'h0):=List.getElem?_eq_getElem h0;refine dQ 0 rfl (dH.ne ax h0) (fun hbs=>?_);obtain⟨gl,hgl⟩:=Option.isSome_iff_exists.1 hbs;replace hgl:lb=some gl:=hgl;subst hgl;refine A2 ?_;refine aG 0 ((0)*38) u32 Hl rfl rfl rfl rfl rfl ae ae (dH.ne ax ae) EE ?_;refine Fg ((0)*38) 20 ?_;refine bu (v:=RV (l[0]'h0).a) 0 ((0)*38+20) _ rfl rfl rfl rfl ja (dH.sub hx0 20 9 ax) rfl ax rfl ?_;refine Al 9 II (fun g1=>?_);refine Ss 2 ?_;refine qC ?_;refine El (ι:={z:Nat×Rl // z.1<=l.length∧z.2=(l.take z.1).foldl (fun o x=>fU o (fU x.a x.b)) (l[0]'h0).a}) (fun⟨⟨i,m⟩,hi,hI⟩=>([(2,bf g0),(3,bf g1),(10,aA (some gl) 0 l.length lc),(11,bH (l.length)),(12,bH i)],[⟨some gl,63,aj aZ l,lN,false⟩,⟨some g0,38,zRc,9,true⟩,⟨some g1,38,jX m,9,true⟩],l.length-i)) ⟨⟨0,(l[0]'h0).a⟩,Nat.zero_le _,rfl⟩ ?_ (hL:=fF.auto);rintro⟨⟨i,m⟩,hi,hI⟩;(try dsimp only);replace hi:i<=l.length:=hi;replace hI:m=(l.take i).foldl (fun o x=>fU o (fU x.a x.b)) (l[0]'h0).a:=hI
 have hms:fV m<=50000:=(by rw[hI];exact qkf (fun p hp=>hsz p (List.mem_of_mem_take hp)) (hsz _ (List.getElem_mem h0)).1);refine A6 ?_;refine Cd ?_ ?_<;>intro haQ
 ·have hlt:i<l.length:=iH;obtain⟨x,hx⟩:∃x,l[i]? =some x:=⟨l[i],List.getElem?_eq_getElem hlt⟩;have hxs:=hsz x (List.mem_of_getElem? hx);refine A6 ?_;refine SK ?_;refine bu (v:=wU x) 0 ((i)*38) _ rfl rfl rfl rfl Hl (dH.sub hx 0 38 ax) rfl ax rfl ?_;refine Al 38 Ou (fun g2=>?_);refine Ss 3 ?_;refine A2 ?_;refine Di [] ?_;refine L9 2 0 ?_;refine A1 ?_;refine L9 3 20 ?_;refine A1 ?_;refine L9 3 29 ?_;refine Pc (Nc x.a x.b hxs.1 hxs.2) ?_;refine Pc (Nc m (fU x.a x.b) hms (GG hxs.1 hxs.2)) ?_;refine Ss 2 ?_;refine A4 ?_;refine dP ?_;exact Nl ⟨⟨i+1,fU m (fU x.a x.b)⟩,hlt,by show _=(l.take (i+1)).foldl (fun o x=>fU o (fU x.a x.b)) _;rw[<-fO hx,List.foldl_append,<-hI];rfl⟩ (hμ:=nD) (hL:=fF.auto)
 ·have hge:i=l.length:=iK;subst hge;obtain rfl:m=fH l:=by rw[hI,List.take_length];exact Yo h0
  refine A7 ?_;refine L9 2 0 ?_;refine Ss 1 ?_;refine A3 ?_;refine Ec9 1 fun w hL=>⟨(),?_,hL.pk []⟩;exact rfl
end Go.Proofs.YtaffcpfhedadhaaGreatDoor
namespace Go.Via
abbrev qcz(l:List PU):Prop:=Ends gq l
def qok{a b:List PU}(ha:Ends gq a)(hb:Ends gq b):∀z∈gZ Dj EM a b,gq z.i.f∧gq z.i.t:=fun z hz=>by
 obtain⟨x,hx,y,hy,e⟩:=GH hz;unfold Dj iV at e
 split at e
 ·simp at e;subst e;exact Eo (ha x hx) (hb y hy)
 ·simp at e
def Qs{a b:List PU}(ha:Ends gq a)(hb:Ends gq b):∀z∈ag a b,gq z.1.f∧gq z.1.t:=fun z hz=>by
 rw[<-GK] at hz;obtain⟨w,hw,rfl⟩:=List.mem_map.1 hz;exact qok ha hb w hw
theorem qgA{x:Rl}(h:gq x):x.r=0:=by obtain⟨z,rfl⟩:=h;rfl
def Qu{a b:List PU}(ha:GX a)(hb:GX b):∀p∈(ag a b).map ay,fV p.a<=50000∧fV p.b<=50000:=fun p hp=>by
 obtain⟨z,hz,rfl⟩:=List.mem_map.1 hp;obtain⟨h1,h2⟩:=yH ha hb z hz;have l1:=Nat.le_trans (jD z.1) h1;have l2:=Nat.le_trans (jE z.1) h1;exact⟨Nat.le_trans (Su h2 l1) ae,Nat.le_trans (Su h2 l2) ae⟩
def BD(s:Value)(m:Rl):Value:= .agg #[s,.bool (decide (m.p.num<0)),.string (bQ m.p.num.natAbs),.bool false,.string (dm m.p),.bool (decide (m.r.num<0)),.string (bQ m.r.num.natAbs),.bool false,.string (dm m.r),.bool m.n]
def iE(s:Value)(m:Rl):List Value:=[s,.bool (decide (m.p.num<0)),.string (bQ m.p.num.natAbs),.bool false,.string (dm m.p),.bool (decide (m.r.num<0)),.string (bQ m.r.num.natAbs),.bool false,.string (dm m.r),.bool m.n]
def iY:List Value:=[.slice none 0 0,aT,aU,aT,aU,aT,aU,aT,aU,.bool false]
theorem qgB(s:Value):iE s (rl 0)=s::zRc:=congrArg (fun l=>s::l) qgw
end Go.Via
namespace Go.Via
open Go
structure GL(a b:List PU):Prop where
 sa:ou iD a
 sb:ou iD b
 ea:qcz a
 eb:qcz b
def pg(a b:List PU)(i:Nat):List (Iv×Qd):=(a.take i).flatMap fun x=>b.filterMap (uB x)
def BF(x:PU)(b:List PU)(k:Nat):List (Iv×Qd):=(b.take k).filterMap (uB x)
theorem qkg{a b:List PU}{i:Nat}{x:PU}(hx:a[i]? =some x):pg a b (i+1)=pg a b i++BF x b b.length:=by
 unfold pg BF;rw[<-fO hx,List.flatMap_append,List.take_length];simp
theorem qkh{a b:List PU}{i:Nat}{x:PU}:pg a b i++BF x b 0=pg a b i:=by unfold BF;simp
theorem qgC{x y:PU}{b:List PU}{k:Nat}(hy:b[k]? =some y):BF x b (k+1)=BF x b k++(uB x y).toList:=by
 unfold BF;rw[<-fO hy,List.filterMap_append];exact congrArg (_++ ·) (by rw[List.filterMap_cons];cases uB x y<;>rfl)
theorem qcA{a b:List PU}(h:GL a b):pg a b a.length=ag a b:=by
 rw[ig ng h.sa h.sb h.ea h.eb];unfold pg flatK;rw[List.take_length]
def J3{a b:List PU}{i k:Nat}{x y:PU}{z:Iv×Qd}(hx:a[i]? =some x)(hy:b[k]? =some y)(hz:uB x y=some z):∃r,flatK uB a b=pg a b i++BF x b k++z::r:=by
 have ha:a=a.take i++x::a.drop (i+1):=by
  obtain⟨h1,h2⟩:=List.getElem?_eq_some_iff.1 hx;rw[<-h2,List.getElem_cons_drop,List.take_append_drop]
 have hb:b=b.take k++y::b.drop (k+1):=by
  obtain⟨h1,h2⟩:=List.getElem?_eq_some_iff.1 hy;rw[<-h2,List.getElem_cons_drop,List.take_append_drop]
 refine⟨(b.drop (k+1)).filterMap (uB x)++(a.drop (i+1)).flatMap fun x=>b.filterMap (uB x),?_⟩
 have e:b.filterMap (uB x)=BF x b k++z::(b.drop (k+1)).filterMap (uB x):=by
  conv=>lhs;rw[hb]
  rw[List.filterMap_append,List.filterMap_cons_some hz];rfl
 unfold flatK pg
 conv=>lhs;rw[ha]
 rw[List.flatMap_append,List.flatMap_cons,e];simp
def qki{a b:List PU}(h:GL a b){i k:Nat}{x y:PU}{z:Iv×Qd}(hx:a[i]? =some x)(hy:b[k]? =some y)(hz:uB x y=some z):z∈ag a b:=by
 obtain⟨r,e⟩:=J3 hx hy hz;rw[ig ng h.sa h.sb h.ea h.eb,e];simp
def qgD{a b:List PU}(h:GL a b){i k:Nat}{x y:PU}{z:Iv×Qd}(hx:a[i]? =some x)(hy:b[k]? =some y)(hz:uB x y=some z){p:Iv×Qd}(hp:p∈pg a b i++BF x b k):¬aV z.1.f p.1.f<0:=by
 obtain⟨r,e⟩:=J3 hx hy hz;have hs:=(pY ng h.sb h.eb h.sa h.ea).1;rw[e] at hs;have hk:=(List.pairwise_append.1 hs).2.2 p hp z (List.mem_cons_self ..);have hm:p∈flatK uB a b:=by rw[e];exact List.mem_append_left _ hp
 have hm2:z∈flatK uB a b:=(by rw[e];simp);have h1:=zo ng h.ea h.eb p hm;have h2:=zo ng h.ea h.eb z hm2;rw[ng.lt h2.1.1 h1.1.1];have q1:=nZ iD p.1.b;have q2:=nZ iD z.1.b;have e1:p.1.b.1=p.1.f:=rfl;have e2:z.1.b.1=z.1.f:=rfl;have o1:=h1.2;rw[e1] at q1;rw[e2] at q2;omega
def qgE{a b:List PU}(h:GL a b){i k:Nat}{x y:PU}{z:Iv×Qd}(hx:a[i]? =some x)(hy:b[k]? =some y)(hz:uB x y=some z){p:Iv×Qd}(hp:p∈pg a b i++BF x b k):p∈ag a b:=by
 obtain⟨r,e⟩:=J3 hx hy hz;rw[ig ng h.sa h.sb h.ea h.eb,e];exact List.mem_append_left _ hp
def qgF{a b:List PU}(h:GL a b){i k:Nat}{x y:PU}{z:Iv×Qd}(hx:a[i]? =some x)(hy:b[k]? =some y)(hz:uB x y=some z):(pg a b i++BF x b k).length<a.length+b.length:=by
 obtain⟨r,e⟩:=J3 hx hy hz;have:=uD a b;rw[ig ng h.sa h.sb h.ea h.eb,e] at this;simp at this ⊢;omega
def qol{x y:PU}{m:Iv}(h:iV x.i y.i=some m):uB x y=some (m,d2 x.f y.f):=by unfold uB;rw[h];rfl
theorem qom{x y:PU}(h:iV x.i y.i=none):uB x y=none:=by unfold uB;rw[h];rfl
def okZ{x:Rl}(h:gq x):x.ok:=by obtain⟨z,rfl⟩:=h;exact PQ _
theorem qcB{x y:PU}(hx:gq x.i.f∧gq x.i.t)(hy:gq y.i.f∧gq y.i.t):jV (zW 2) [x.i] [y.i]=(iV x.i y.i).toList:=by
 rw[qoh];exact qfk ng hx hy
end Go.Via
namespace Go.Proofs.YtaffcpfhedadhaaGreatDoor
open Go Go.RowKit Go.Via
def Ij(a:List Iv)(ab:Option Nat)(aN ac:Nat)(hac:a.length<=ac)(han:a.length<=2000000)(b:List Iv)(bb:Option Nat)(bN bc:Nat)(hbc:b.length<=bc:=by omega)(hbn:b.length<=2000000:=by omega):cZ Tryz.prog 103 [⟨ab,61,aj bT a,aN,false⟩,⟨bb,61,aj bT b,bN,false⟩] [aA ab 0 a.length ac,aA bb 0 b.length bc] Unit (fun _=> .bool (decide (a=b))) (fun _=>[]):=by
 refine Z5 26 Tryz.func103 fun w hL0=>?_;refine Ed ?_;refine Cd ?_ ?_<;>intro haQ
 ·have hle:a.length≠b.length:=by have e:=haQ;simp at e;omega
  refine A7 ?_;refine aO rfl (au rfl) (fun w hL=>⟨(),?_,hL.pk []⟩);exact eB (decide_eq_false (fun e=>hle (by rw[e]))).symm
 ·have hle:a.length=b.length:=by have e:=haQ;simp at e;omega
  refine qC ?_;refine El (ι:={i:Nat // i<=a.length∧a.take i=b.take i}) (fun⟨i,hi,hI⟩=>([(0,aA ab 0 a.length ac),(1,aA bb 0 b.length bc),(11,aA ab 0 a.length ac),(12,bH (a.length)),(13,bH i)],[⟨ab,61,aj bT a,aN,false⟩,⟨bb,61,aj bT b,bN,false⟩],a.length-i)) ⟨0,Nat.zero_le _,rfl⟩ ?_;rintro⟨i,hi,hI⟩;(try dsimp only);refine A6 ?_;refine Cd ?_ ?_<;>intro hbQ
  ·have hlt:i<a.length:=lu;obtain⟨x,hx⟩:∃x,a[i]? =some x:=⟨a[i],List.getElem?_eq_getElem hlt⟩;obtain⟨y,hy⟩:∃y,b[i]? =some y:=⟨_,List.getElem?_eq_getElem ae⟩;refine qC ?_;refine Di [] ?_;refine A2 ?_;refine Nr ?_;refine bu (v:=nJ x) 0 ((i)*20) _ rfl rfl rfl rfl pz (cO.sub hx 0 20 ax) rfl ax rfl ?_;refine A2 ?_;refine aG 1 ((i)*20) TG pz rfl rfl rfl rfl rfl ae ae (cO.ne ax ae) zx ?_;refine bu (v:=nJ y) 1 ((i)*20) _ rfl rfl rfl rfl pz (cO.sub hy 0 20 ax) rfl ax rfl ?_;refine E5 rfl rfl rfl rfl qpy (qp3 _ _) ?_;refine A2 ?_;refine Cd ?_ ?_<;>intro hcQ
   ·have hxy:x≠y:=xX
    refine qC ?_;refine aO rfl (au rfl) (fun w hL=>⟨(),?_,hL.pk []⟩);exact eB (decide_eq_false (fun e=>hxy (by rw[e,hy] at hx;cases hx;rfl))).symm
   ·have hxy:x=y:=xX
    refine A4 ?_;refine dP ?_;exact Nl ⟨i+1,hlt,by rw[<-fO hx,<-fO hy,hI,hxy]⟩ (hL:=fF.auto)
  ·have hge:i=a.length:=lw;subst hge;refine qC ?_;refine aO rfl (au rfl) (fun w hL=>⟨(),?_,hL.pk []⟩);exact eB (decide_eq_true (V9 hI hle)).symm
def NG(a:List Iv)(ab:Option Nat)(aN ac:Nat)(hac:a.length<=ac)(han:a.length<=2000000)(b:List Iv)(bb:Option Nat)(bN bc:Nat)(hbc:b.length<=bc:=by omega)(hbn:b.length<=2000000:=by omega):cZ Tryz.prog 49 [⟨ab,61,aj bT a,aN,false⟩,⟨bb,61,aj bT b,bN,false⟩] [aA ab 0 a.length ac,aA bb 0 b.length bc] Unit (fun _=> .bool (decide (a=b))) (fun _=>[]):=by
 refine Z5 8 Tryz.func49 fun w hL0=>?_;refine A9 ?_;refine(Sd [0,1]) (Ij a ab aN ac hac han b bb bN bc hbc hbn) ?_;refine A4 ?_;refine aO rfl (au rfl) (fun w hL=>⟨(),?_,hL.pk []⟩);exact rfl
end Go.Proofs.YtaffcpfhedadhaaGreatDoor
namespace Go.Via
open Go Go.Sort Go.Proofs
abbrev NH:=(Rl×Bool)×Int×Int
theorem qgG{l:List Iv}{i:Nat}{x:Iv}(hx:l[i]? =some x):Dw (l.take i)++[(x.b,1,0),(x.e,-1,0)]=Dw (l.take (i+1)):=by
 rw[<-fO hx];unfold Dw;rw[List.flatMap_append];rfl
theorem qgH{l:List Iv}{i:Nat}{x:Iv}(hx:l[i]? =some x):Jo (l.take i)++[(x.b,0,1),(x.e,0,-1)]=Jo (l.take (i+1)):=by
 rw[<-fO hx];unfold Jo;rw[List.flatMap_append];rfl
def evK(a b:List Iv):Nat->List NH
 |0=>[]
 |1=>Dw a
 |_=>Dw a++Jo b
theorem qaF(l:List Iv):(Dw l).length=2*l.length:=by
 induction l with
 |nil=>rfl
 |cons x l ih=>show(_++Dw l).length=_;rw[List.length_append,ih];simp;omega
theorem qaG(l:List Iv):(Jo l).length=2*l.length:=by
 induction l with
 |nil=>rfl
 |cons x l ih=>show(_++Jo l).length=_;rw[List.length_append,ih];simp;omega
def qgI{a b:List Iv}{e:NH}(h:e∈Dw a++Jo b):(∃i∈a++b,e.1=i.b∨e.1=i.e)∧(-1<=e.2.1∧e.2.1<=1)∧ -1<=e.2.2∧e.2.2<=1:=by
 rcases List.mem_append.1 h with h|h
 ·obtain⟨i,hi,h⟩:=List.mem_flatMap.1 h;simp only[List.mem_cons,List.not_mem_nil,or_false] at h;rcases h with rfl|rfl
  ·exact⟨⟨i,List.mem_append_left _ hi,.inl rfl⟩,SN⟩
  ·exact⟨⟨i,List.mem_append_left _ hi,.inr rfl⟩,SN⟩
 ·obtain⟨i,hi,h⟩:=List.mem_flatMap.1 h;simp only[List.mem_cons,List.not_mem_nil,or_false] at h;rcases h with rfl|rfl
  ·exact⟨⟨i,List.mem_append_right _ hi,.inl rfl⟩,SN⟩
  ·exact⟨⟨i,List.mem_append_right _ hi,.inr rfl⟩,SN⟩
def qqq{S:Rl->Prop}{a b:List Iv}(ha:iU S a)(hb:iU S b){e:NH}(h:e∈Dw a++Jo b):S e.1.1:=by
 obtain⟨⟨i,hi,h1⟩,_⟩:=qgI h;have h2:S i.f∧S i.t:=by
  rcases List.mem_append.1 hi with h|h;exact ha i h;exact hb i h
 rcases h1 with h1|h1<;>rw[h1];exact h2.1;exact h2.2
section
variable{α:Type}{κ:α->Int}{keep:Bool->Bool->Bool}
def stO(inn:Bool)(f:α):Option α:=if inn=true then some f else none
theorem vT{β:Type}{l:List β}{i:Nat}{x:β}(h:l[i]? =some x):l.drop i=x::l.drop (i+1):=by
 obtain⟨hl,rfl⟩:=List.getElem?_eq_some_iff.1 h;exact List.drop_eq_getElem_cons hl
theorem qgJ{l:List (α×Int×Int)}{i:Nat}{x y:α×Int×Int}{m n:Int}{st:Option α}(hx:l[i]? =some x)(hy:l[i+1]? =some y)(h:κ x.1=κ y.1):Oh κ keep (l.drop i) m n st=Oh κ keep (l.drop (i+1)) (m+x.2.1) (n+x.2.2) st:=by
 rw[vT hx,vT hy];conv=>lhs;unfold Oh;rw[if_pos h]
theorem qgK{l:List (α×Int×Int)}{i:Nat}{x:α×Int×Int}{m n:Int}{st:Option α}(hx:l[i]? =some x)(h:∀y,l[i+1]? =some y->κ x.1≠κ y.1):
 Oh κ keep (l.drop i) m n st=match st,keep (decide (0<m+x.2.1)) (decide (0<n+x.2.2)) with
  |none,true=>Oh κ keep (l.drop (i+1)) (m+x.2.1) (n+x.2.2) (some x.1)
  |some f,false=>(f,x.1)::Oh κ keep (l.drop (i+1)) (m+x.2.1) (n+x.2.2) none
  |st,_=>Oh κ keep (l.drop (i+1)) (m+x.2.1) (n+x.2.2) st:=by
 rw[vT hx];cases hy:l[i+1]? with
 |none=>
  have e:l.drop (i+1)=[]:=List.drop_eq_nil_of_le (List.getElem?_eq_none_iff.1 hy);rw[e];cases st<;>cases hk:keep (decide (0<m+x.2.1)) (decide (0<n+x.2.2))<;>simp[Oh,hk]
 |some y=>
  rw[vT hy]
  conv=>lhs;unfold Oh
  rw[if_neg (h y hy)];cases st<;>cases hk:keep (decide (0<m+x.2.1)) (decide (0<n+x.2.2))<;>simp
theorem qon{l:List (α×Int×Int)}{i:Nat}{x:α×Int×Int}{m n:Int}{inn now:Bool}{fb:α}(hx:l[i]? =some x)(h:∀y,l[i+1]? =some y->κ x.1≠κ y.1)(hn:keep (decide (0<m+x.2.1)) (decide (0<n+x.2.2))=now):
 Oh κ keep (l.drop i) m n (stO inn fb)=(if inn=true∧now=false then[(fb,x.1)] else[])++Oh κ keep (l.drop (i+1)) (m+x.2.1) (n+x.2.2) (stO now (if now=true∧inn=false then x.1 else fb)):=by
 rw[qgK hx h,hn];cases inn<;>cases now<;>rfl
end
def ivP(p:pU×pU):Iv:=Oj p.1 p.2
def swO(κ:pU->Int)(keep:Bool->Bool->Bool)(l:List NH)(i:Nat)(m n:Int)(inn:Bool)(fb:pU):List Iv:=(Oh κ keep (l.drop i) m n (stO inn fb)).map ivP
theorem qkj{κ:pU->Int}{keep:Bool->Bool->Bool}{l:List NH}{m n:Int}{inn:Bool}{fb:pU}:swO κ keep l l.length m n inn fb=[]:=by
 unfold swO;rw[List.drop_length];rfl
def qgL{S:Rl->Prop}{ρ:Rl->Int}(T:dZ S ρ){op:Bool->Bool->Bool}(h0:op false false=false){a b:List Iv}(ha:iU S a)(hb:iU S b)(oa:HY ρ a)(ob:HY ρ b)
 {l:List NH}(hp:l.Perm (Dw a++Jo b))(hl:l.Pairwise (fun x y=>aK ρ x.1<=aK ρ y.1))(fb:pU):swO (aK ρ) op l 0 0 0 false fb=jV op a b:=by
 obtain⟨s1,s2⟩:=oM T (o9 (jW ha hb));unfold swO jV;rw[List.drop_zero];show List.map ivP (Oh (aK ρ) op l 0 0 none)=_;rw[XD T h0 ha hb oa ob s1 (fun x=>by rw[s2,wS]) hp hl]
 rfl
theorem qgM{S:Rl->Prop}{ρ:Rl->Int}(T:dZ S ρ){a b:pU}(ha:S a.1)(hb:S b.1):xB a b=0↔aK ρ a=aK ρ b:=by
 rw[FV T ha hb];unfold yP;split<;>(try split)<;>omega
theorem qaH{S:Rl->Prop}{ρ:Rl->Int}(T:dZ S ρ){a b:pU}(ha:S a.1)(hb:S b.1):xB a b<0↔aK ρ a<aK ρ b:=by
 rw[FV T ha hb];unfold yP;split<;>(try split)<;>omega
theorem qgN{S:Rl->Prop}{ρ:Rl->Int}(T:dZ S ρ){keep:Bool->Bool->Bool}{l:List NH}{i:Nat}{x y:NH}{m n:Int}{inn:Bool}{fb:pU}(hx:l[i]? =some x)(hy:l[i+1]? =some y)(sx:S x.1.1)(sy:S y.1.1)(h:xB x.1 y.1=0):swO (aK ρ) keep l i m n inn fb=swO (aK ρ) keep l (i+1) (m+x.2.1) (n+x.2.2) inn fb:=by
 unfold swO;rw[qgJ hx hy ((qgM T sx sy).1 h)]
def Far(ρ:Rl->Int)(l:List NH)(i:Nat)(x:NH):Prop:=∀y,l[i+1]? =some y->aK ρ x.1≠aK ρ y.1
def qkk{ρ:Rl->Int}{l:List NH}{i:Nat}{x:NH}(h:¬i+1<l.length):Far ρ l i x:=fun y hy=>by
 rw[List.getElem?_eq_none ae] at hy;cases hy
def qoo{S:Rl->Prop}{ρ:Rl->Int}(T:dZ S ρ){l:List NH}{i:Nat}{x y:NH}(hy:l[i+1]? =some y)(sx:S x.1.1)(sy:S y.1.1)(h:xB x.1 y.1≠0):Far ρ l i x:=fun z hz e=>by
 rw[hy] at hz;cases hz;exact h ((qgM T sx sy).2 e)
theorem qgO{ρ:Rl->Int}{keep:Bool->Bool->Bool}{l:List NH}{i:Nat}{x:NH}{m n:Int}{inn now:Bool}{fb:pU}(hx:l[i]? =some x)(h:Far ρ l i x)(hn:keep (decide (0<m+x.2.1)) (decide (0<n+x.2.2))=now):
 swO (aK ρ) keep l i m n inn fb=(if inn=true∧now=false then[Oj fb x.1] else[])++swO (aK ρ) keep l (i+1) (m+x.2.1) (n+x.2.2) now (if now=true∧inn=false then x.1 else fb):=by
 unfold swO;rw[qon hx h hn,List.map_append]
 congr 1
 split<;>rfl
def qse:List Value:=[aT,aU,aT,aU,aT,aU,aT,aU,.bool false,.bool false]
theorem qop:xE (rl 0,false)=qse:=by
 have h:=qgw;show jX (rl 0)++[.bool false]=_;rw[h];rfl
abbrev EvS(S:Rl->Prop):={e:NH // S e.1.1∧fV e.1.1<=50000}
def evc{S:Rl->Prop}(x:EvS S):List Value:=kw x.1
theorem Tf{S:Rl->Prop}:iW (EvS S) evc 12:=⟨fun _=>rfl,fun x v hv=>xI.one x.1 v hv⟩
theorem Qv{S:Rl->Prop}(l:List (EvS S)):aj evc l=aj kw (l.map (·.1)):=by
 induction l with
 |nil=>rfl
 |cons x l ih=>rw[gU,List.map_cons,gU,ih];rfl
def qoq{S:Rl->Prop}{ρ:Rl->Int}(T:dZ S ρ):SWO (Go.Proofs.ltOf fun x y:EvS S=>xB x.1.1 y.1.1):=by
 have h:∀x y:EvS S,Go.Proofs.ltOf (fun x y:EvS S=>xB x.1.1 y.1.1) x y=decide (aK ρ x.1.1<aK ρ y.1.1):=fun x y=>by
  unfold Go.Proofs.ltOf;exact decide_eq_decide.2 (qaH T x.2.1 y.2.1)
 refine⟨fun x=>?_,fun x y z=>?_,fun x y z=>?_⟩
 ·rw[h];simp
 ·rw[h,h,h];simp only[decide_eq_true_eq];omega
 ·rw[h,h,h];simp only[decide_eq_false_iff_not];omega
def qaI{S:Rl->Prop}:∀{l:List NH},(∀e∈l,S e.1.1∧fV e.1.1<=50000)->∃l':List (EvS S),l'.map (·.1)=l
 |[],_=>⟨[],rfl⟩
 |e::l,h=>by
  obtain⟨l',e'⟩:=qaI fun x hx=>h x (List.mem_cons_of_mem _ hx)
  exact⟨⟨e,h e (List.mem_cons_self ..)⟩::l',by rw[List.map_cons,e']⟩
end Go.Via
namespace Go.Proofs.YtaffcpfhedadhaaGreatDoor
open Go Go.RowKit Go.Via Go.Sort Go.Shelf
def qgQ{S:Rl->Prop}{ρ:Rl->Int}(T:dZ S ρ)(l:List NH)(b:Option Nat)(n cap:Nat)(hl:l.length<=cap)(hn:cap*12<=n)(hS:∀e∈l,S e.1.1∧fV e.1.1<=50000)(hc:l.length<=1000000:=by omega):
 Du Tryz.prog 192 [⟨b,253,aj kw l,n,true⟩] [aA b 0 l.length cap,.func (.func 193) #[] #[]] {l':List NH // l'.Perm l∧l'.Pairwise (fun x y=>aK ρ x.1<=aK ρ y.1)} (fun _=> .tuple #[]) (fun z=>[⟨b,253,aj kw z.1,n,true⟩]):=by
 refine⟨ak,fun B w hD hL=>?_⟩
 by_cases h0:l=[]
 ·subst h0;have h1:=AnyF.slices_SortFunc_none Tryz.sortEv (b.map fun g=>⟨g,0,none⟩) cap (.func (.func 193) #[] #[]) w;refine Calls.mono h1 ?_;rintro e w' ⟨rfl,rfl⟩;exact⟨⟨[],List.Perm.refl _,List.Pairwise.nil⟩,rfl,hL⟩
 ·cases b with
  |none=>
   have h2:=((hL.blk 0 _ rfl).2 rfl).1;have h3:=congrArg List.length h2;rw[xI.length] at h3;exact absurd (List.eq_nil_of_length_eq_zero (by rw[List.length_nil] at h3;omega)) h0
  |some g=>
   have hl0:=List.length_pos_iff.2 h0;have hn0:n≠0:=ae;obtain⟨l',rfl⟩:=qaI hS;have hd:∃x:EvS S,x∈l':=List.exists_mem_of_ne_nil _ (fun e=>h0 (by rw[e];rfl));obtain⟨d,_⟩:=hd
   letI:Inhabited (EvS S):=⟨d⟩
   rw[<-Qv] at hL;have hlen:(l'.map (·.1)).length=l'.toArray.size:=bz
   have h1:=AnyQ.slices_SortFunc Tryz.sortEv 12 Tryz.isAgg253 Tryz.sizeOf253 evc (fun x=>rfl) (fun x v hv=>xI.one x.1 v hv) (fun x y:EvS S=>xB x.1.1 y.1.1) (qoq T) 193 #[] g 0 cap l'.toArray w
    (enters_of Tryz.func193 ak rfl) (@qab (EvS S) _ evc 12 mo1 trivial Tryz.prog 193 (fun x y=>xB x.1.1 y.1.1) (fun x y=> @Jw mo1 x.1 y.1 x.2.2 y.2.2) g 0 l'.toArray.size w)
    (Qg Tf (j:=0) hL rfl hn0) (hL.lt (k:=0) rfl rfl) (by simp at hc ⊢;omega)
   rw[<-hlen] at h1;refine Calls.mono h1 ?_;rintro e w' ⟨rfl,d',m,os,hp,hs,rfl⟩;rw[hlen] at hp hs;have hp':=qjQ hp;have hs':=qcs hs hp.1;refine⟨⟨d'.toList.map (·.1),hp'.map _,?_⟩,rfl,?_⟩
   ·rw[List.pairwise_map];refine hs'.imp fun {x y} h=>?_
    have h2:¬xB y.1.1 x.1.1<0:=of_decide_eq_false h;rw[qaH T y.2.1 x.2.1] at h2;omega
   ·show aX B [⟨some g,253,aj kw (d'.toList.map (·.1)),n,true⟩] _;rw[<-Qv];have hx:=Gp Tf (j:=0) (m:=m) (os:=os) (l':=d'.toList) hL rfl (by rw[Tf.length,hp'.length_eq];simp at hl;omega) hn0
    simpa using hx
end Go.Proofs.YtaffcpfhedadhaaGreatDoor
namespace Go.Proofs.YtaffcpfhedadhaaGreatDoor
open Go Go.RowKit Go.Via
variable[Mo]
def qcC(a b c:Int)(g:Nat):cZ Tryz.prog 218 [⟨some g,3,[.int .i64 a,.int .i64 b,.int .i64 c],3,false⟩] [aA (some g) 0 3 3] Unit (fun _=> .int .i64 (or3 a b c)) (fun _=>[]):=by
 refine PR 18 Tryz.func218 fun w hL0=>?_;refine A19 ?_;refine El (ι:={i:Nat // i<=3∧∀j,j<i->[a,b,c].getD j 0=0}) (fun⟨i,hi,ha⟩=>([(3,.int .i64 0),(6,aA (some g) 0 3 3),(7,.int .i64 3),(8,bH i)],[⟨some g,3,[.int .i64 a,.int .i64 b,.int .i64 c],3,false⟩],3-i)) ⟨0,ae,fun j h=>absurd h ae⟩ ?_;rintro⟨i,hi,ha⟩;(try dsimp only);refine A6 ?_;refine Cd ?_ ?_<;>intro haQ
 ·have hlt:i<3:=iH;refine A6 ?_;refine Ix 0 i ?_;refine QO (v:= .int .i64 ([a,b,c].getD i 0)) 0 i Dt rfl rfl rfl rfl (qkc a b c i hlt) ?_;refine lW ?_;refine Cd ?_ ?_<;>intro hbQ
  ·have hne:[a,b,c].getD i 0≠0:=xJ
   refine nI ?_;refine aO rfl (au rfl) (fun w hL=>⟨(),?_,hL.pk []⟩);rw[qkd hlt ha hne]
  ·have he:[a,b,c].getD i 0=0:=xJ
   refine A4 ?_;refine dP ?_;exact Nl ⟨i+1,hlt,qgh ha he⟩
 ·have hge:i=3:=iK;subst hge;refine nI ?_;refine aO rfl (au rfl) (fun w hL=>⟨(),?_,hL.pk []⟩);rw[qoa ha]
def NI(i:Iv):aJ Tryz.prog 217 #[nJ i] (.int .i64 (opI i)):=by
 refine wQ 5 Tryz.func217 fun w=>?_;refine A2 ?_;refine Bp 20 (fun g0=>?_);refine lW ?_;refine Cd ?_ ?_<;>intro haQ
 ·refine A7 ?_;refine E0 ?_;rw[opI,if_pos haQ]
 ·refine A8 ?_;refine E0 ?_;rw[opI,if_neg Na]
def qcD(a b:PU)(ha:jM a.i<=50000:=by omega)(hb:jM b.i<=50000:=by omega):aJ Tryz.prog 216 #[PUV a,PUV b] (.int .i64 (OD a b)):=by
 have a1:=Nat.le_trans (jD a.i) ha;have a2:=Nat.le_trans (jE a.i) ha;have b1:=Nat.le_trans (jD b.i) hb;have b2:=Nat.le_trans (jE b.i) hb;refine nV 31 Tryz.func216 fun w=>?_;refine A2 ?_;refine Bp 36 (fun g0=>?_);refine Bp 36 (fun g1=>?_);refine A9 ?_;refine Dp [] [0,1,2,3,4,5,7,8,9,11,12,13,16,17,18,19,20,21,6,10,14,15,22,23,24,25] ?_ (hc:=(oL [0,1,3,0,8,24,63,0,0,256,1023,0,0,4096,16383,32767,0,65536,196608,0,524288,1572864,4194303,8388607,16777215,33554431] ak));refine A2 ?_;refine L9 0 0 ?_;refine A2 ?_;refine L9 1 0 ?_;refine A2 ?_;refine yK 0 0 ?_;refine A2 ?_;refine yK 1 0 ?_;refine A2 ?_;refine L9 0 9 ?_;refine A2 ?_;refine L9 1 9 ?_;refine Pc (dK a.i.f b.i.f) ?_;refine oD [_] rfl rfl rfl rfl (NI a.i) ?_;refine oD [_] rfl rfl rfl rfl (NI b.i) ?_;refine Pc (xC (opI a.i) (opI b.i)) ?_;refine Pc (dK a.i.t b.i.t) ?_;refine(Bl 3 [(0,_),(1,_),(2,_)]) (qis) (fun g2=>?_);refine(Sd [2]) (qcC _ _ _ _) ?_;refine A4 ?_;refine E0 ?_;rw[qgi]
end Go.Proofs.YtaffcpfhedadhaaGreatDoor
namespace Go.Via
open Go Go.Sort Go.Proofs
abbrev PUS:={u:PU // jM u.i<=50000}
def puc(x:PUS):List Value:=aP x.1
theorem Ti:iW PUS puc 36:=⟨fun _=>rfl,fun x v hv=>aY.one x.1 v hv⟩
theorem Qw(l:List PUS):aj puc l=aj aP (l.map (·.1)):=by
 induction l with
 |nil=>rfl
 |cons x l ih=>rw[gU,List.map_cons,gU,ih];rfl
def qaJ:∀{l:List PU},(∀u∈l,jM u.i<=50000)->∃l':List PUS,l'.map (·.1)=l
 |[],_=>⟨[],rfl⟩
 |e::l,h=>by
  obtain⟨l',e'⟩:=qaJ fun x hx=>h x (List.mem_cons_of_mem _ hx)
  exact⟨⟨e,h e (List.mem_cons_self ..)⟩::l',by rw[List.map_cons,e']⟩
def qaK(l:List PU):Prop:=l.Pairwise fun x y=>decide (OD y x<0)=false
end Go.Via
namespace Go.Proofs.YtaffcpfhedadhaaGreatDoor
open Go Go.RowKit Go.Via Go.Sort Go.Shelf
def qkm(l:List PU)(b:Option Nat)(n cap:Nat)(hs:qaK l)(hz:∀u∈l,jM u.i<=50000)(hl:l.length<=cap:=by omega)(hn:cap*36<=n:=by omega)(hc:l.length<=1000000:=by omega):
 Du Tryz.prog 264 [⟨b,201,aj aP l,n,true⟩] [aA b 0 l.length cap,.int .i64 0,.int .i64 (l.length:Nat),.func (.func 216) #[] #[]] Unit (fun _=> .tuple #[]) (fun _=>[⟨b,201,aj aP l,n,true⟩]):=by
 refine⟨ak,fun B w hD hL=>?_⟩
 by_cases h0:l=[]
 ·subst h0;have h1:=AnyF.insertionSortCmpFunc_none Tryz.insPU (b.map fun g=>⟨g,0,none⟩) cap (.func (.func 216) #[] #[]) w;refine Calls.mono h1 ?_;rintro e w' ⟨rfl,rfl⟩;exact⟨(),rfl,hL⟩
 ·cases b with
  |none=>
   have h2:=((hL.blk 0 _ rfl).2 rfl).1;have h3:=congrArg List.length h2;rw[aY.length] at h3;exact absurd (List.eq_nil_of_length_eq_zero (by rw[List.length_nil] at h3;omega)) h0
  |some g=>
   have hl0:=List.length_pos_iff.2 h0;have hn0:n≠0:=ae;obtain⟨l',rfl⟩:=qaJ hz;have hd:∃x:PUS,x∈l':=List.exists_mem_of_ne_nil _ (fun e=>h0 (by rw[e];rfl));obtain⟨d,_⟩:=hd
   letI:Inhabited PUS:=⟨d⟩
   rw[<-Qw] at hL;have hlen:(l'.map (·.1)).length=l'.toArray.size:=bz
   have h1:=AnyQ.insertionSortCmpFunc Tryz.insPU 36 Tryz.isAgg201 Tryz.sizeOf201 puc (fun x=>rfl) (fun x v hv=>aY.one x.1 v hv) (fun x y:PUS=>OD x.1 y.1) 216 #[] g 0 cap 0 l'.toArray.size l'.toArray w
    (enters_of Tryz.func216 ak rfl) (@qab PUS _ puc 36 mo1 trivial Tryz.prog 216 (fun x y=>OD x.1 y.1) (fun x y=> @qcD mo1 x.1 y.1 x.2 y.2) g 0 l'.toArray.size w)
    (Qg Ti (j:=0) hL rfl hn0) (hL.lt (k:=0) rfl rfl) (Nat.zero_le _) (Nat.le_refl _) (by simp at hc ⊢;omega)
   rw[<-hlen] at h1;refine Calls.mono h1 ?_;rintro e w' ⟨rfl,m,os,rfl⟩;have hid:Sort.insertionSort (ltOf fun x y:PUS=>OD x.1 y.1) l'.toArray 0 (l'.map (·.1)).length=l'.toArray:=by
    rw[List.length_map];refine RN ?_;have:=List.pairwise_map.1 hs;exact this
   rw[hid];refine⟨(),rfl,?_⟩;rw[<-Qw];have hx:=Gp Ti (j:=0) (m:=m) (os:=os) (l':=l') hL rfl (by rw[Ti.length];simp at hl;omega) hn0
   simpa using hx
end Go.Proofs.YtaffcpfhedadhaaGreatDoor
namespace Go.Via
open Go
instance{n s:Nat}:Nonempty (OR n s):=⟨⟨none,n*s,n,Nat.le_refl _,Nat.le_refl _⟩⟩
theorem rq{l:List PU}{i:Nat}{x:PU}(hx:l[i]? =some x):aF (l.take i)++iQ x=aF (l.take (i+1)):=by
 rw[<-fO hx];unfold aF;rw[List.flatMap_append];simp
def zy(t:Rl)(f:Ln):PU:=⟨⟨t,t,false,false⟩,f⟩
def mg(x:PU):PU:=⟨⟨x.i.f,x.i.t,true,true⟩,x.f⟩
theorem qgR{x:PU}(h1:x.i.fo=false)(h2:eF x.i=true):iQ x=[zy x.i.f x.f]:=by unfold iQ;rw[h1,h2];rfl
theorem qgS{x:PU}(h1:x.i.fo=false)(h2:eF x.i=false)(h3:x.i.tp=false):iQ x=[zy x.i.f x.f,mg x,zy x.i.t x.f]:=SQ
theorem qgT{x:PU}(h1:x.i.fo=false)(h2:eF x.i=false)(h3:x.i.tp=true):iQ x=[zy x.i.f x.f,mg x]:=SQ
theorem qgU{x:PU}(h1:x.i.fo=true)(h2:eF x.i=true):iQ x=[]:=by unfold iQ;rw[h1,h2];rfl
theorem qgV{x:PU}(h1:x.i.fo=true)(h2:eF x.i=false)(h3:x.i.tp=false):iQ x=[mg x,zy x.i.t x.f]:=SQ
theorem qgW{x:PU}(h1:x.i.fo=true)(h2:eF x.i=false)(h3:x.i.tp=true):iQ x=[mg x]:=SQ
theorem Qx{l:List PU}{u:PU}{t:Rl}(h:l[l.length-1]? =some u):sH l t=(decide (u.i.t=t)&& !u.i.tp):=by
 unfold sH;rw[List.getLast?_eq_getElem?,h]
theorem qcE{l:List PU}{t:Rl}(h:¬0<l.length):sH l t=false:=by
 have:l=[]:=List.eq_nil_of_length_eq_zero ae;subst this;rfl
def qcF{l:List PU}{t:Rl}(h:¬0<l.length):uq l t=none:=by
 have:l=[]:=List.eq_nil_of_length_eq_zero ae;subst this;rfl
def qkn{l:List PU}{u:PU}{t:Rl}(h:l[l.length-1]? =some u)(h1:u.i.t≠t):uq l t=none:=by
 unfold uq;rw[List.getLast?_eq_getElem?,h];dsimp only;rw[if_neg fun e=>h1 e.1]
def qko{l:List PU}{u:PU}{t:Rl}(h:l[l.length-1]? =some u)(h1:eF u.i=true):uq l t=none:=by
 unfold uq;rw[List.getLast?_eq_getElem?,h];dsimp only;rw[if_neg fun e=>by rw[e.2] at h1;cases h1]
def qkp{l:List PU}{u:PU}{t:Rl}(h:l[l.length-1]? =some u)(h1:u.i.t=t)(h2:eF u.i=false):uq l t=some u:=by
 unfold uq;rw[List.getLast?_eq_getElem?,h];dsimp only;rw[if_pos ⟨h1,h2⟩]
def qgX{l:List PU}{u:PU}{t:Rl}(h:uq l t=some u):l[l.length-1]? =some u∧u.i.t=t∧eF u.i=false:=by
 obtain⟨h1,h2⟩:=yB h;rw[List.getLast?_eq_getElem?] at h1;exact⟨h1,h2⟩
def bfP(ob:Option Nat)(n:Nat):Option PU->Option Addr
 |none=>none
 |some _=>some ⟨ob.getD 0,(n-1)*36,none⟩
def oQ(A:List PU):Nat->Option PU
 |0=>none
 |i+1=>A[i]?
def nrm(A:List PU)(i:Nat)(o:List PU):List PU:=uS (oQ A i) o (A.drop i)
theorem BG{A:List PU}{i:Nat}{x:PU}{o:List PU}(hx:A[i]? =some x):nrm A i o=nrm A (i+1) (kC o (oQ A i) x A[i+1]?):=by
 unfold nrm;rw[vT hx];show uS (some x) (kC o (oQ A i) x (A.drop (i+1)).head?) (A.drop (i+1))=_;rw[List.head?_drop];show _=uS (A[i]?) _ _;rw[hx]
def qkq{A o:List PU}:nrm A A.length o=o:=by unfold nrm;rw[List.drop_length];cases oQ A A.length<;>rfl
theorem Wh{o:List PU}{u v:PU}(h:o[o.length-1]? =some u):o.set (o.length-1) v=jb o v:=by
 have hne:o≠[]:=fun e=>by rw[e] at h;simp at h
 have e:o=o.dropLast++[u]:=by
  have h2:o.getLast? =some u:=(by rw[List.getLast?_eq_getElem?];exact h);exact pW h2
 unfold jb;rw[e];simp
def BH(o:List PU)(prev:Option PU)(x:PU):Bool:=match prev with
 |some p=>if eF p.i=true∧p.i.f=x.i.f∧sH o x.i.f=false then false else x.i.fo
 |none=>x.i.fo
section
variable{o:List PU}{prev next:Option PU}{x b:PU}
theorem qsf(hi:eF x.i=false)(hb:uq o x.i.f=some b)(h1:b.i.tp=false)(h2:b.f=x.f):kC o prev x next=jb o ⟨⟨b.i.f,x.i.t,b.i.fo,true⟩,b.f⟩:=by
 unfold kC;rw[hi,hb];dsimp only;rw[if_pos ⟨h1,h2⟩]
def qqr(hi:eF x.i=false)(hb:uq o x.i.f=some b)(h:¬(b.i.tp=false∧b.f=x.f)):kC o prev x next=o++[⟨⟨x.i.f,x.i.t,BH o prev x,x.i.tp⟩,x.f⟩]:=by
 unfold kC;rw[hi,hb];dsimp only;rw[if_neg h];rfl
def qsg(hi:eF x.i=false)(hb:uq o x.i.f=none):kC o prev x next=o++[⟨⟨x.i.f,x.i.t,BH o prev x,x.i.tp⟩,x.f⟩]:=by
 unfold kC;rw[hi,hb];rfl
theorem qsh(hi:eF x.i=true)(hb:uq o x.i.f=some b)(h:pV b.f x.f x.i.f=true):kC o prev x next=jb o ⟨⟨b.i.f,b.i.t,b.i.fo,false⟩,b.f⟩:=by
 unfold kC;rw[hi,hb];dsimp only;rw[if_pos h]
def zK(o:List PU)(next:Option PU)(x:PU):List PU:=match next with
 |some n=>if n.i.f=x.i.f∧pV n.f x.f x.i.f=true then o else o++[⟨x.i,jJ x.f x.i.f⟩]
 |none=>o++[⟨x.i,jJ x.f x.i.f⟩]
def qsi(hi:eF x.i=true)(hb:uq o x.i.f=some b)(h:pV b.f x.f x.i.f=false):kC o prev x next=zK o next x:=by
 unfold kC;rw[hi,hb];dsimp only;rw[if_neg UH];rfl
def qsj(hi:eF x.i=true)(hb:uq o x.i.f=none):kC o prev x next=zK o next x:=by
 unfold kC;rw[hi,hb];rfl
def qlT(h:prev=none):BH o prev x=x.i.fo:=by rw[h];rfl
def NJ{p:PU}(h:prev=some p)(h1:¬(eF p.i=true∧p.i.f=x.i.f∧sH o x.i.f=false)):BH o prev x=x.i.fo:=by
 rw[h];unfold BH;dsimp only;rw[if_neg h1]
def qot{p:PU}(h:prev=some p)(h1:eF p.i=true)(h2:p.i.f=x.i.f)(h3:sH o x.i.f=false):BH o prev x=false:=by
 rw[h];unfold BH;dsimp only;rw[if_pos ⟨h1,h2,h3⟩]
theorem qlU(h:next=none):zK o next x=o++[⟨x.i,jJ x.f x.i.f⟩]:=by rw[h];rfl
theorem qou{n:PU}(h:next=some n)(h1:n.i.f=x.i.f)(h2:pV n.f x.f x.i.f=true):zK o next x=o:=by rw[h];unfold zK;dsimp only;rw[if_pos ⟨h1,h2⟩]
theorem Yp{n:PU}(h:next=some n)(h1:¬(n.i.f=x.i.f∧pV n.f x.f x.i.f=true)):zK o next x=o++[⟨x.i,jJ x.f x.i.f⟩]:=by rw[h];unfold zK;dsimp only;rw[if_neg h1]
end
def qsk{o:List PU}{next:Option PU}{x n:PU}(h:next=some n)(h1:n.i.f=x.i.f):zK o next x=if pV n.f x.f x.i.f=true then o else o++[⟨x.i,jJ x.f x.i.f⟩]:=by
 cases hs:pV n.f x.f x.i.f
 ·rw[Yp h (fun e=>by rw[hs] at e;cases e.2)];rfl
 ·rw[qou h h1 hs];rfl
def Wi{A:List PU}{i:Nat}{p:PU}(hi:0<i)(hp:A[i-1]? =some p):oQ A i=some p:=by
 obtain⟨j,rfl⟩:∃j,i=j+1:=⟨i-1,ae⟩;exact hp
def qcG{S:Rl->Prop}{ρ:Rl->Int}(T:dZ S ρ){l:List PU}(hs:ou ρ l)(he:Go.Via.Ends S l){i:Nat}{u x:PU}(hi:0<i)(hu:l[i-1]? =some u)(hx:l[i]? =some x):XV u.i x.i=true:=by
 obtain⟨h1,rfl⟩:=List.getElem?_eq_some_iff.1 hu;obtain⟨h2,rfl⟩:=List.getElem?_eq_some_iff.1 hx;have:=List.pairwise_iff_getElem.1 hs.1 (i-1) i h1 h2 ae;exact(MM T (he _ (List.getElem_mem h1)).2 (he _ (List.getElem_mem h2)).1).2 this
def NK{l:List PU}{a b:Nat}(hz:∀u∈l,jM u.i<=a∧jP u.f<=b):∀x∈aF l,jM x.i<=a∧jP x.f<=b:=fun x hx=>by
 obtain⟨u,hu,hx⟩:=List.mem_flatMap.1 hx;obtain⟨h1,h2⟩:=hz u hu;have h3:=jD u.i;have h4:=jE u.i;unfold iQ at hx;rcases List.mem_append.1 hx with hx|hx
 ·split at hx
  ·cases hx
  ·rw[List.mem_singleton] at hx;subst hx;exact⟨tJ (Nat.le_trans h3 h1) (Nat.le_trans h3 h1),h2⟩
 ·split at hx
  ·cases hx
  ·rcases List.mem_cons.1 hx with hx|hx
   ·subst hx;exact⟨tJ (Nat.le_trans h3 h1) (Nat.le_trans h4 h1),h2⟩
   ·split at hx
    ·cases hx
    ·rw[List.mem_singleton] at hx;subst hx;exact⟨tJ (Nat.le_trans h4 h1) (Nat.le_trans h4 h1),h2⟩
def Yq{o:List PU}{k n:Nat}{i:Iv}{f:Ln}(h:∀u∈o,jP u.f<=n)(hf:jP f<=n):∀u∈o.set k ⟨i,f⟩,jP u.f<=n:=fun u hu=>by
 rcases List.mem_or_eq_of_mem_set hu with h1|h1
 ·exact h u h1
 ·subst h1;exact hf
def qgY{o:List PU}{n:Nat}{i:Iv}{f:Ln}(h:∀u∈o,jP u.f<=n)(hf:jP f<=n):∀u∈o++[⟨i,f⟩],jP u.f<=n:=fun u hu=>by
 rcases List.mem_append.1 hu with h1|h1
 ·exact h u h1
 ·rw[List.mem_singleton] at h1;subst h1;exact hf
def qkr{f:Ln}{t:Rl}(hf:jP f<=1000)(ht:fV t<=1000):jP (jJ f t)<=8000:=by
 have h3:=qg t;have a0:=rO f;have a1:=rP f;have a2:=rQ f;have a3:=rU f;have z:=vz;have h1:bY (sG (qx f) t.p)<=5000:=by
  have h:=xU (qx f) t.p;have e:bY (qx f).c2<=2:=z;have e0:bY (qx f).c0=bY f.x0:=rfl;have e1:bY (qx f).c1=bY f.x1:=rfl;omega
 have h2:bY (sG (qy f) t.p)<=5000:=by
  have h:=xU (qy f) t.p;have e:bY (qy f).c2<=2:=z;have e0:bY (qy f).c0=bY f.y0:=rfl;have e1:bY (qy f).c1=bY f.y1:=rfl;omega
 unfold jJ
 split
 ·show max (max (bY (sG (qx f) t.p)) (bY 0)) (max (bY (sG (qy f) t.p)) (bY 0))<=8000;omega
 ·omega
end Go.Via
namespace Go.Proofs.YtaffcpfhedadhaaGreatDoor
open Go
def qks:Tryz.prog.underlying 242=some (.pointer 201):=ak
end Go.Proofs.YtaffcpfhedadhaaGreatDoor
namespace Go.Proofs.YtaffcpfhedadhaaGreatDoor
open Go Go.RowKit Go.Via
def BI{S:Rl->Prop}{ρ:Rl->Int}(T:dZ S ρ)(kf:Nat)(keep:Bool->Bool->Bool)(hkp:∀x y,aJ Tryz.prog kf #[.bool x,.bool y] (.bool (keep x y)))(h0:keep false false=false)(a:List Iv)(ab:Option Nat)(aN ac:Nat)(hac:a.length<=ac)(han:a.length<=1000)(b:List Iv)(bb:Option Nat)(bN bc:Nat)(hbc:b.length<=bc)(hbn:b.length<=1000)(ha:iU S a)(hb:iU S b)(oka:HY ρ a)(okb:HY ρ b)(hza:∀x∈a,jM x<=50000)(hzb:∀x∈b,jM x<=50000):cZ Tryz.prog 152 [⟨ab,61,aj bT a,aN,false⟩,⟨bb,61,aj bT b,bN,false⟩] [aA ab 0 a.length ac,aA bb 0 b.length bc,.func (.func kf) #[] #[]] (SR (jV keep a b).length) SR.v (fun z=>[⟨z.b,61,aj bT (jV keep a b),z.n,true⟩]):=by
 refine⟨ak,fun w hL0=>?_⟩
 have hha:iU (fun x=>S x∧fV x<=50000) a:=fun i hi=>⟨⟨(ha i hi).1,Nat.le_trans (jD i) (hza i hi)⟩,(ha i hi).2,Nat.le_trans (jE i) (hza i hi)⟩
 have hhb:iU (fun x=>S x∧fV x<=50000) b:=fun i hi=>⟨⟨(hb i hi).1,Nat.le_trans (jD i) (hzb i hi)⟩,(hb i hi).2,Nat.le_trans (jE i) (hzb i hi)⟩
 refine cB3 127 Tryz.func152 hL0 ?_;refine Ed ?_;refine(Bl 2 [(0,_),(1,_)]) (qiv) (fun g0=>?_);refine A5 ?_;refine El (ι:={z:Nat×List NH×Option Nat×Nat×Nat // z.1<=2∧z.2.1=evK a b z.1∧z.2.1.length<=z.2.2.2.2∧z.2.2.2.2*12<=z.2.2.2.1}) (fun⟨⟨k,o,ob,oN,oc⟩,hk,hI,h3,h4⟩=>([(2,.func (.func kf) #[] #[]),(7,aA ob 0 o.length oc),(23,aA (some g0) 0 2 2),(24,.int .i64 2),(25,.int .i64 ((k:Nat):Int))],[⟨ab,61,aj bT a,aN,false⟩,⟨bb,61,aj bT b,bN,false⟩,⟨some g0,74,[aA ab 0 a.length ac,aA bb 0 b.length bc],2,true⟩,⟨ob,253,aj kw o,oN,true⟩],2-k)) ⟨⟨0,[],none,0,0⟩,Nat.zero_le _,rfl,Nat.le_refl _,bz⟩ ?_ (hL:=(az [some 0,some 1,some 2,none] ⟨pR,pR,pR,⟨rfl,rfl,rfl⟩,trivial⟩ rfl rfl));rintro⟨⟨k,o,ob,oN,oc⟩,hk,hI,h3,h4⟩;(try dsimp only);replace hk:k<=2:=hk;replace hI:o=evK a b k:=hI;replace h3:o.length<=oc:=h3;replace h4:oc*12<=oN:=h4;rcases(show k=0∨k=1∨k=2 by omega) with rfl|rfl|rfl
 ·refine A6 ?_;refine Cd ?_ ?_<;>intro haQ
  ·refine A7 ?_;refine aG 2 0 qpA qpt rfl rfl rfl rfl rfl ae ae bz (by show 0+Int.toNat _*1=_;rfl) ?_;refine FN ?_;refine El (ι:={z:Nat×List NH×Option Nat×Nat×Nat // z.1<=a.length∧z.2.1=Dw (a.take z.1)∧z.2.1.length<=z.2.2.2.2∧z.2.2.2.2*12<=z.2.2.2.1}) (fun⟨⟨i,o,ob,oN,oc⟩,hi,hI,h3,h4⟩=>([(2,.func (.func kf) #[] #[]),(7,aA ob 0 o.length oc),(23,aA (some g0) 0 2 2),(24,.int .i64 2),(25,.int .i64 ((0:Nat):Int)),(8,.int .i64 ((0:Nat):Int)),(30,aA ab 0 a.length ac),(31,bH (a.length)),(32,bH i)],[⟨ab,61,aj bT a,aN,false⟩,⟨bb,61,aj bT b,bN,false⟩,⟨some g0,74,[aA ab 0 a.length ac,aA bb 0 b.length bc],2,true⟩,⟨ob,253,aj kw o,oN,true⟩],a.length-i)) ⟨⟨0,o,ob,oN,oc⟩,Nat.zero_le _,hI,h3,h4⟩ ?_ (hL:=fF.auto);rintro⟨⟨i,o,ob,oN,oc⟩,hi,hI,h3,h4⟩;(try dsimp only);replace hi:i<=a.length:=hi;replace hI:o=Dw (a.take i):=hI;replace h3:o.length<=oc:=h3;replace h4:oc*12<=oN:=h4;have hol:o.length<=10000:=qgt
   refine A6 ?_;refine Cd ?_ ?_<;>intro hbQ
   ·have hlt:i<a.length:=lu;obtain⟨x,hx⟩:∃x,a[i]? =some x:=⟨a[i],List.getElem?_eq_getElem hlt⟩;refine dQ 0 rfl (cO.ne ax ae) (fun hbs=>?_);obtain⟨ga,hga⟩:=Option.isSome_iff_exists.1 hbs;replace hga:ab=some ga:=hga;subst hga;refine A6 ?_;refine Nr ?_;refine bu (v:=nJ x) 0 ((i)*20) _ rfl rfl rfl rfl pz (cO.sub hx 0 20 ax) rfl ax rfl ?_;refine Al 20 z61 (fun g1=>?_);refine Ss 4 ?_;refine A3 ?_;refine Dq [3000000] [0,3,1,2,4,6,7,8,5,9] ?_;refine yK 4 0 ?_;refine yK 4 0 ?_;refine Pc (vP x) ?_;refine(Bu [(0,_)]) (JL) ?_;refine Kr 38 (EvV (x.b,0,0)) ?_;refine Pc (xW x) ?_;refine Al 12 qdQ (fun g2=>?_);refine Al 12 qdQ (fun g3=>?_);refine Ss 5 ?_;refine(Bu [(0,_)]) (JL) ?_;refine Kr 41 (EvV (x.e,0,0)) ?_;refine Ss 6 ?_;refine A7 ?_;refine(Iz 10 yl Dt) ?_;refine Ss 5 ?_;refine A1 ?_;refine(Iz 10 yl Dt) ?_;refine Ss 6 ?_;refine A4 ?_;refine vZ 5 0 ?_;refine Kr 49 (EvV (x.b,1,0)) ?_;refine vZ 6 0 ?_;refine Kr 50 (EvV (x.e,-1,0)) ?_;refine(Bl 24 [(0,_),(1,_)]) (Zm) (fun g4=>?_);refine(Qa (s:=12) (len:=o.length) (n2:=2) 3 7 (fun r=>[_,_,_,⟨some r.g,253,aj kw o++(kw (x.b,1,0)++kw (x.e,-1,0)),r.n,true⟩,_,_,_,_]) qiw qkX) (xI.length o) h3 h4 (fun v hv=>List.all_eq_true.1 (show(kw (x.b,1,0)++kw (x.e,-1,0)).all (·.oneCell')=true from rfl) v hv) (fun r=>?_);refine A5 ?_;refine dP ?_;exact Nl ⟨⟨i+1,o++[(x.b,1,0),(x.e,-1,0)],some r.g,r.n,r.cap⟩,hlt,by show o++_=Dw (a.take (i+1));rw[<-qgG hx,<-hI],jB,r.hn⟩ (hμ:=Yl) (ht:=⟨rfl,(aQ rfl jO),rfl,rfl,rfl,rfl,rfl,rfl,rfl,trivial⟩) (hL:=(az [some 0,some 1,some 2,some 3] ⟨pR,pR,pR,⟨_,rfl,bg SS⟩,trivial⟩ rfl rfl))
   ·have hge:i=a.length:=lw;subst hge;refine A7 ?_;refine(Aq ((0+1:Nat):Int)) Nb ?_;refine A3 ?_;exact Nl ⟨⟨0+1,o,ob,oN,oc⟩,(by show 0+1<=2;decide),by show o=Dw a;rw[hI,List.take_length],h3,h4⟩ (hμ:=(by show 2-(0+1)<2-0;decide)) (hL:=fF.auto)
  ·exact absurd ax (of_decide_eq_false haQ)
 ·refine A6 ?_;refine Cd ?_ ?_<;>intro haQ
  ·refine A7 ?_;refine aG 2 1 qpA qpt rfl rfl rfl rfl rfl ae ae bz (by show 0+Int.toNat _*1=_;rfl) ?_;refine FN ?_;refine El (ι:={z:Nat×List NH×Option Nat×Nat×Nat // z.1<=b.length∧z.2.1=Dw a++Jo (b.take z.1)∧z.2.1.length<=z.2.2.2.2∧z.2.2.2.2*12<=z.2.2.2.1}) (fun⟨⟨i,o,ob,oN,oc⟩,hi,hI,h3,h4⟩=>([(2,.func (.func kf) #[] #[]),(7,aA ob 0 o.length oc),(23,aA (some g0) 0 2 2),(24,.int .i64 2),(25,.int .i64 ((1:Nat):Int)),(8,.int .i64 ((1:Nat):Int)),(30,aA bb 0 b.length bc),(31,bH (b.length)),(32,bH i)],[⟨ab,61,aj bT a,aN,false⟩,⟨bb,61,aj bT b,bN,false⟩,⟨some g0,74,[aA ab 0 a.length ac,aA bb 0 b.length bc],2,true⟩,⟨ob,253,aj kw o,oN,true⟩],b.length-i)) ⟨⟨0,o,ob,oN,oc⟩,Nat.zero_le _,by rw[hI];show Dw a=Dw a++[];simp,h3,h4⟩ ?_ (hL:=fF.auto);rintro⟨⟨i,o,ob,oN,oc⟩,hi,hI,h3,h4⟩;(try dsimp only);replace hi:i<=b.length:=hi;replace hI:o=Dw a++Jo (b.take i):=hI;replace h3:o.length<=oc:=h3;replace h4:oc*12<=oN:=h4;have hol:o.length<=10000:=qgt
   refine A6 ?_;refine Cd ?_ ?_<;>intro hbQ
   ·have hlt:i<b.length:=lu;obtain⟨x,hx⟩:∃x,b[i]? =some x:=⟨b[i],List.getElem?_eq_getElem hlt⟩;refine dQ 1 rfl (cO.ne ax ae) (fun hbs=>?_);obtain⟨gb,hgb⟩:=Option.isSome_iff_exists.1 hbs;replace hgb:bb=some gb:=hgb;subst hgb;refine A6 ?_;refine aG 1 ((i)*20) TG pz rfl rfl rfl rfl rfl ae ae (cO.ne ax ae) zx ?_;refine bu (v:=nJ x) 1 ((i)*20) _ rfl rfl rfl rfl pz (cO.sub hx 0 20 ax) rfl ax rfl ?_;refine Al 20 z61 (fun g1=>?_);refine Ss 4 ?_;refine A3 ?_;refine Dq [3000000] [0,3,1,2,4,6,7,8,5,9] ?_;refine yK 4 0 ?_;refine yK 4 0 ?_;refine Pc (vP x) ?_;refine(Bu [(0,_)]) (JL) ?_;refine Kr 38 (EvV (x.b,0,0)) ?_;refine Pc (xW x) ?_;refine Al 12 qdQ (fun g2=>?_);refine Al 12 qdQ (fun g3=>?_);refine Ss 5 ?_;refine(Bu [(0,_)]) (JL) ?_;refine Kr 41 (EvV (x.e,0,0)) ?_;refine Ss 6 ?_;refine A7 ?_;refine(Iz 11 yl Dt) ?_;refine Ss 5 ?_;refine A1 ?_;refine(Iz 11 yl Dt) ?_;refine Ss 6 ?_;refine A4 ?_;refine vZ 5 0 ?_;refine Kr 49 (EvV (x.b,0,1)) ?_;refine vZ 6 0 ?_;refine Kr 50 (EvV (x.e,0,-1)) ?_;refine(Bl 24 [(0,_),(1,_)]) (Zm) (fun g4=>?_);refine(Qa (s:=12) (len:=o.length) (n2:=2) 3 7 (fun r=>[_,_,_,⟨some r.g,253,aj kw o++(kw (x.b,0,1)++kw (x.e,0,-1)),r.n,true⟩,_,_,_,_]) qiw qkX) (xI.length o) h3 h4 (fun v hv=>List.all_eq_true.1 (show(kw (x.b,0,1)++kw (x.e,0,-1)).all (·.oneCell')=true from rfl) v hv) (fun r=>?_);refine A5 ?_;refine dP ?_;exact Nl ⟨⟨i+1,o++[(x.b,0,1),(x.e,0,-1)],some r.g,r.n,r.cap⟩,hlt,by show o++_=Dw a++Jo (b.take (i+1));rw[<-qgH hx,<-List.append_assoc,<-hI],jB,r.hn⟩ (hμ:=(by show b.length-(i+1)<b.length-i;omega)) (ht:=⟨rfl,(aQ rfl jO),rfl,rfl,rfl,rfl,rfl,rfl,rfl,trivial⟩) (hL:=(az [some 0,some 1,some 2,some 3] ⟨pR,pR,pR,⟨_,rfl,bg SS⟩,trivial⟩ rfl rfl))
   ·have hge:i=b.length:=lw;subst hge;refine A7 ?_;refine(Aq ((1+1:Nat):Int)) Nb ?_;refine A3 ?_;exact Nl ⟨⟨1+1,o,ob,oN,oc⟩,(by show 1+1<=2;decide),by show o=Dw a++Jo b;rw[hI,List.take_length],h3,h4⟩ (hμ:=(by show 2-(1+1)<2-1;decide)) (hL:=fF.auto)
  ·exact absurd ax (of_decide_eq_false haQ)
 ·refine A6 ?_;refine Cd ?_ ?_<;>intro haQ
  ·exact absurd (of_decide_eq_true haQ) ax
  ·refine A6 ?_;refine mJ ?_;refine A1 ?_;have hp0:o=Dw a++Jo b:=hI;have hol:o.length<=10000:=by rw[hp0,List.length_append,qaF,qaG];omega
   have hos:∀e∈o,S e.1.1∧fV e.1.1<=50000:=fun e he=>by rw[hp0] at he;exact qqq (S:=fun x=>S x∧fV x<=50000) hha hhb he
   refine Gm 1 [3] [] (fun z=>[_,_,_,⟨ob,253,aj kw z.1,oN,true⟩]) (qgQ T o ob oN oc h3 h4 hos) (fun z=>?_);obtain⟨l2,hp2,hs2⟩:=z;have hl2:l2.length=o.length:=hp2.length_eq;have hev:∀e∈l2,(S e.1.1∧fV e.1.1<=50000)∧ -1<=e.2.1∧e.2.1<=1∧ -1<=e.2.2∧e.2.2<=1:=fun e he=>by
    have he':=hp2.subset he;refine⟨hos e he',?_⟩;rw[hp0] at he';obtain⟨_,h1,h2⟩:=qgI he';exact⟨h1.1,h1.2,h2.1,h2.2⟩
   rw[hp0] at hp2;refine A9 ?_;refine Al 2 qru (fun g1=>?_);refine A4 ?_;refine Al 10 qmQ (fun g2=>?_);refine Rh ?_;refine El (ι:={z:Nat×Int×Int×Bool×pU×List Iv×Option Nat×Nat×Nat // z.1<=l2.length∧(-(z.1:Int)<=z.2.1∧z.2.1<=z.1)∧(-(z.1:Int)<=z.2.2.1∧z.2.2.1<=z.1)∧jV keep a b=z.2.2.2.2.2.1++swO (aK ρ) keep l2 z.1 z.2.1 z.2.2.1 z.2.2.2.1 z.2.2.2.2.1∧z.2.2.2.2.2.1.length<=z.1∧z.2.2.2.2.2.1.length<=z.2.2.2.2.2.2.2.2∧z.2.2.2.2.2.2.2.2*20<=z.2.2.2.2.2.2.2.1}) (fun⟨⟨i,m,n,inn,fb,q,qb,qN,qc⟩,hi,hm,hn,hI2,hq,h5,h6⟩=>([(2,.func (.func kf) #[] #[]),(7,aA ob 0 l2.length oc),(14,aA qb 0 q.length qc),(15,bf g1),(16,bf g2),(17,.bool inn),(57,aA ob 0 l2.length oc),(58,bH (l2.length)),(59,bH i)],[⟨ab,61,aj bT a,aN,false⟩,⟨bb,61,aj bT b,bN,false⟩,⟨some g0,74,[aA ab 0 a.length ac,aA bb 0 b.length bc],2,true⟩,⟨ob,253,aj kw l2,oN,true⟩,⟨some g1,251,[.int .i64 m,.int .i64 n],2,true⟩,⟨some g2,209,xE fb,10,true⟩,⟨qb,61,aj bT q,qN,true⟩],l2.length-i)) ⟨⟨0,0,0,false,(rl 0,false),[],none,0,0⟩,Nat.zero_le _,ax,ax,(qgL T h0 ha hb oka okb hp2 hs2 _).symm,Nat.le_refl _,Nat.le_refl _,bz⟩ ?_ (ht:=⟨rfl,(aQ rfl (by rw[hl2])),rfl,rfl,rfl,rfl,(aQ rfl (by rw[hl2])),(aQ rfl (by rw[hl2])),rfl,trivial⟩) (hL:=(az [some 0,some 1,some 2,some 3,some 4,some 5,none] ⟨pR,pR,pR,pR,pR,⟨_,rfl,bg (by rw[qop];rfl)⟩,⟨rfl,rfl,rfl⟩,trivial⟩ rfl rfl));rintro⟨⟨i,m,n,inn,fb,q,qb,qN,qc⟩,hi,hm,hn,hI2,hq,h5,h6⟩;(try dsimp only);replace hi:i<=l2.length:=hi;replace hm: -(i:Int)<=m∧m<=i:=hm;replace hn: -(i:Int)<=n∧n<=i:=hn;replace hI2:jV keep a b=q++swO (aK ρ) keep l2 i m n inn fb:=hI2;replace hq:q.length<=i:=hq;replace h5:q.length<=qc:=h5;replace h6:qc*20<=qN:=h6;refine A6 ?_;refine Cd ?_ ?_<;>intro hbQ
   ·have hlt:i<l2.length:=lu;obtain⟨x,hx⟩:∃x,l2[i]? =some x:=⟨l2[i],List.getElem?_eq_getElem hlt⟩;obtain⟨hex,hx1,hx2,hx3,hx4⟩:=hev x (List.mem_of_getElem? hx);refine dQ 3 rfl (xI.ne ax ae) (fun hbs=>?_);obtain⟨go,hgo⟩:=Option.isSome_iff_exists.1 hbs;replace hgo:ob=some go:=hgo;subst hgo;refine A7 ?_;refine aG 3 ((i)*12) qiw qdP rfl rfl rfl rfl rfl ae ae (xI.ne ax ae) (by show 0+Int.toNat _*12=_;omega) ?_;refine bu (v:=EvV x) 3 ((i)*12) _ rfl rfl rfl rfl qdP (xI.sub hx 0 12 ax) rfl ax rfl ?_;refine Al 12 qdQ (fun g3=>?_);refine A1 ?_;refine Ss 7 ?_;refine A3 ?_;let sX:List (Nat×Value)->List (Nat×Value):=fun l=>(2,.func (.func kf) #[] #[])::(7,aA (some go) 0 l2.length oc)::(14,aA qb 0 q.length qc)::(15,bf g1)::(16,bf g2)::(17,.bool inn)::(57,aA (some go) 0 l2.length oc)::(58,bH (l2.length))::(59,bH i)::(18,bH i)::(19,bf g3)::l;let sY:List aH->List aH:=fun l=>⟨ab,61,aj bT a,aN,false⟩::⟨bb,61,aj bT b,bN,false⟩::⟨some g0,74,[aA ab 0 a.length ac,aA bb 0 b.length bc],2,true⟩::⟨some go,253,aj kw l2,oN,true⟩::l;refine uy (nt:=127) (Z:=Unit) (fun _=>sX []) (fun _=>sY [⟨some g1,251,[.int .i64 (m+x.2.1),.int .i64 (n+x.2.2)],2,true⟩,⟨some g2,209,xE fb,10,true⟩,⟨qb,61,aj bT q,qN,true⟩,⟨some g3,253,kw x,12,true⟩]) 16 [0,1,2,3,4,5,6,7,8,9,10,11,12,13,14,15] mixed ak (fun hd0=>?_) ?_
    ·refine aC (nt:=127) (Z:=Unit) (fun _=>sX [(75,.int .i64 (n+x.2.2)),(77,.pointer (some ⟨g1,1,none⟩))]) (fun _=>sY [⟨some g1,251,[.int .i64 (m+x.2.1),.int .i64 (n)],2,true⟩,⟨some g2,209,xE fb,10,true⟩,⟨qb,61,aj bT q,qN,true⟩,⟨some g3,253,kw x,12,true⟩]) 1 [15] (fun z=>?_) (fun hd1=>?_)
     ·(try dsimp only);refine x9 15 ?_
      ·refine Ss 4 ?_;refine A1 ?_;exact Nw hd0 () [0,1,2,3,4,5,6,7]
     refine aC (nt:=127) (Z:=Unit) (fun _=>sX [(69,.int .i64 (m+x.2.1)),(75,.int .i64 (n+x.2.2)),(76,bf g1)]) (fun _=>sY [⟨some g1,251,[.int .i64 m,.int .i64 n],2,true⟩,⟨some g2,209,xE fb,10,true⟩,⟨qb,61,aj bT q,qN,true⟩,⟨some g3,253,kw x,12,true⟩]) 3 [13,14,15] (fun z=>?_) (fun hd2=>?_)
     ·(try dsimp only);refine x9 13 ?_
      ·refine Ss 4 ?_;refine A1 ?_;refine Nt 14 ?_;refine(Iz 1 yl Dt) ?_;refine A1 ?_;exact Nw hd1 () [0,1,2,3,4,5,6,7]
     refine aC (nt:=127) (Z:=Unit) (fun _=>sX [(71,.int .i64 n),(73,.pointer (some ⟨g3,11,none⟩))]) (fun _=>sY [⟨some g1,251,[.int .i64 (m+x.2.1),.int .i64 (n)],2,true⟩,⟨some g2,209,xE fb,10,true⟩,⟨qb,61,aj bT q,qN,true⟩,⟨some g3,253,kw x,12,true⟩]) 4 [10,11,14,15] (fun z=>?_) (fun hd3=>?_)
     ·(try dsimp only);refine x9 10 ?_
      ·refine Gz ?_;refine Nt 14 ?_;refine(Iz 1 yl Dt) ?_;refine A1 ?_;exact Nw hd1 () [0,1,2,3,4,5,6,7]
     refine aC (nt:=127) (Z:=Unit) (fun _=>sX [(69,.int .i64 (m+x.2.1)),(71,.int .i64 n),(73,.pointer (some ⟨g3,11,none⟩)),(76,bf g1)]) (fun _=>sY [⟨some g1,251,[.int .i64 m,.int .i64 n],2,true⟩,⟨some g2,209,xE fb,10,true⟩,⟨qb,61,aj bT q,qN,true⟩,⟨some g3,253,kw x,12,true⟩]) 5 [10,11,13,14,15] (fun z=>?_) (fun hd4=>?_)
     ·(try dsimp only);refine aI [10,13] ak rfl ⟨⟨_,rfl,?_⟩,⟨_,rfl,?_⟩,trivial⟩
      ·refine Gz ?_;exact Nw hd2 () [0,1,2,3,4,5,6,7]
      ·refine Ss 4 ?_;refine A1 ?_;exact Nw hd3 () [0,1,2,3,4,5,6,7]
     refine aC (nt:=127) (Z:=Unit) (fun _=>sX [(64,bf g1),(68,.int .i64 x.2.1),(75,.int .i64 (n+x.2.2))]) (fun _=>sY [⟨some g1,251,[.int .i64 m,.int .i64 n],2,true⟩,⟨some g2,209,xE fb,10,true⟩,⟨qb,61,aj bT q,qN,true⟩,⟨some g3,253,kw x,12,true⟩]) 6 [1,5,12,13,14,15] (fun z=>?_) (fun hd5=>?_)
     ·(try dsimp only);refine x9 1 ?_
      ·refine Jc ?_;refine Nt 12 ?_;refine(Iz 0 yl Dt) ?_;refine A1 ?_;exact Nw hd2 () [0,1,2,3,4,5,6,7]
     refine aC (nt:=127) (Z:=Unit) (fun _=>sX [(65,.int .i64 m),(67,.pointer (some ⟨g3,10,none⟩)),(75,.int .i64 (n+x.2.2))]) (fun _=>sY [⟨some g1,251,[.int .i64 m,.int .i64 n],2,true⟩,⟨some g2,209,xE fb,10,true⟩,⟨qb,61,aj bT q,qN,true⟩,⟨some g3,253,kw x,12,true⟩]) 6 [4,5,12,13,14,15] (fun z=>?_) (fun hd6=>?_)
     ·(try dsimp only);refine x9 4 ?_
      ·refine Jc ?_;refine Nt 12 ?_;refine(Iz 0 yl Dt) ?_;refine A1 ?_;exact Nw hd2 () [0,1,2,3,4,5,6,7]
     refine aC (nt:=127) (Z:=Unit) (fun _=>sX [(69,.int .i64 (m+x.2.1)),(70,.pointer (some ⟨g1,1,none⟩)),(74,.int .i64 x.2.2)]) (fun _=>sY [⟨some g1,251,[.int .i64 m,.int .i64 n],2,true⟩,⟨some g2,209,xE fb,10,true⟩,⟨qb,61,aj bT q,qN,true⟩,⟨some g3,253,kw x,12,true⟩]) 6 [7,11,12,13,14,15] (fun z=>?_) (fun hd7=>?_)
     ·(try dsimp only);refine x9 7 ?_
      ·refine Gz ?_;refine Nt 12 ?_;refine(Iz 0 yl Dt) ?_;refine A1 ?_;exact Nw hd2 () [0,1,2,3,4,5,6,7]
     refine aC (nt:=127) (Z:=Unit) (fun _=>sX [(64,bf g1),(67,.pointer (some ⟨g3,10,none⟩)),(75,.int .i64 (n+x.2.2))]) (fun _=>sY [⟨some g1,251,[.int .i64 m,.int .i64 n],2,true⟩,⟨some g2,209,xE fb,10,true⟩,⟨qb,61,aj bT q,qN,true⟩,⟨some g3,253,kw x,12,true⟩]) 7 [1,4,5,12,13,14,15] (fun z=>?_) (fun hd8=>?_)
     ·(try dsimp only);refine aI [1,4] ak rfl ⟨⟨_,rfl,?_⟩,⟨_,rfl,?_⟩,trivial⟩
      ·refine A2 ?_;exact Nw hd6 () [0,1,2,3,4,5,6,7]
      ·refine A2 ?_;exact Nw hd5 () [0,1,2,3,4,5,6,7]
     refine aC (nt:=127) (Z:=Unit) (fun _=>sX [(69,.int .i64 (m+x.2.1)),(70,.pointer (some ⟨g1,1,none⟩)),(73,.pointer (some ⟨g3,11,none⟩))]) (fun _=>sY [⟨some g1,251,[.int .i64 m,.int .i64 n],2,true⟩,⟨some g2,209,xE fb,10,true⟩,⟨qb,61,aj bT q,qN,true⟩,⟨some g3,253,kw x,12,true⟩]) 7 [7,10,11,12,13,14,15] (fun z=>?_) (fun hd9=>?_)
     ·(try dsimp only);refine aI [7,10] ak rfl ⟨⟨_,rfl,?_⟩,⟨_,rfl,?_⟩,trivial⟩
      ·refine A2 ?_;refine Nt 12 ?_;refine(Iz 0 yl Dt) ?_;refine A1 ?_;exact Nw hd4 () [0,1,2,3,4,5,6,7]
      ·refine A2 ?_;exact Nw hd7 () [0,1,2,3,4,5,6,7]
     refine aC (nt:=127) (Z:=Unit) (fun _=>sX [(64,bf g1),(68,.int .i64 x.2.1),(70,.pointer (some ⟨g1,1,none⟩)),(74,.int .i64 x.2.2)]) (fun _=>sY [⟨some g1,251,[.int .i64 m,.int .i64 n],2,true⟩,⟨some g2,209,xE fb,10,true⟩,⟨qb,61,aj bT q,qN,true⟩,⟨some g3,253,kw x,12,true⟩]) 8 [1,5,7,11,12,13,14,15] (fun z=>?_) (fun hd10=>?_)
     ·(try dsimp only);refine aI [1,7] ak rfl ⟨⟨_,rfl,?_⟩,⟨_,rfl,?_⟩,trivial⟩
      ·refine Jc ?_;exact Nw hd7 () [0,1,2,3,4,5,6,7]
      ·refine Gz ?_;exact Nw hd5 () [0,1,2,3,4,5,6,7]
     refine aC (nt:=127) (Z:=Unit) (fun _=>sX [(64,bf g1),(68,.int .i64 x.2.1),(71,.int .i64 n),(73,.pointer (some ⟨g3,11,none⟩))]) (fun _=>sY [⟨some g1,251,[.int .i64 m,.int .i64 n],2,true⟩,⟨some g2,209,xE fb,10,true⟩,⟨qb,61,aj bT q,qN,true⟩,⟨some g3,253,kw x,12,true⟩]) 8 [1,5,10,11,12,13,14,15] (fun z=>?_) (fun hd11=>?_)
     ·(try dsimp only);refine aI [1,10] ak rfl ⟨⟨_,rfl,?_⟩,⟨_,rfl,?_⟩,trivial⟩
      ·refine Jc ?_;refine Nt 12 ?_;refine(Iz 0 yl Dt) ?_;refine A1 ?_;exact Nw hd4 () [0,1,2,3,4,5,6,7]
      ·refine Gz ?_;exact Nw hd5 () [0,1,2,3,4,5,6,7]
     refine aC (nt:=127) (Z:=Unit) (fun _=>sX [(65,.int .i64 m),(67,.pointer (some ⟨g3,10,none⟩)),(70,.pointer (some ⟨g1,1,none⟩)),(74,.int .i64 x.2.2)]) (fun _=>sY [⟨some g1,251,[.int .i64 m,.int .i64 n],2,true⟩,⟨some g2,209,xE fb,10,true⟩,⟨qb,61,aj bT q,qN,true⟩,⟨some g3,253,kw x,12,true⟩]) 8 [4,5,7,11,12,13,14,15] (fun z=>?_) (fun hd12=>?_)
     ·(try dsimp only);refine aI [4,7] ak rfl ⟨⟨_,rfl,?_⟩,⟨_,rfl,?_⟩,trivial⟩
      ·refine Jc ?_;exact Nw hd7 () [0,1,2,3,4,5,6,7]
      ·refine Gz ?_;exact Nw hd6 () [0,1,2,3,4,5,6,7]
     refine aC (nt:=127) (Z:=Unit) (fun _=>sX [(65,.int .i64 m),(67,.pointer (some ⟨g3,10,none⟩)),(71,.int .i64 n),(73,.pointer (some ⟨g3,11,none⟩))]) (fun _=>sY [⟨some g1,251,[.int .i64 m,.int .i64 n],2,true⟩,⟨some g2,209,xE fb,10,true⟩,⟨qb,61,aj bT q,qN,true⟩,⟨some g3,253,kw x,12,true⟩]) 8 [4,5,10,11,12,13,14,15] (fun z=>?_) (fun hd13=>?_)
     ·(try dsimp only);refine aI [4,10] ak rfl ⟨⟨_,rfl,?_⟩,⟨_,rfl,?_⟩,trivial⟩
      ·refine Jc ?_;refine Nt 12 ?_;refine(Iz 0 yl Dt) ?_;refine A1 ?_;exact Nw hd4 () [0,1,2,3,4,5,6,7]
      ·refine Gz ?_;exact Nw hd6 () [0,1,2,3,4,5,6,7]
     refine aC (nt:=127) (Z:=Unit) (fun _=>sX [(64,bf g1),(67,.pointer (some ⟨g3,10,none⟩)),(70,.pointer (some ⟨g1,1,none⟩)),(74,.int .i64 x.2.2)]) (fun _=>sY [⟨some g1,251,[.int .i64 m,.int .i64 n],2,true⟩,⟨some g2,209,xE fb,10,true⟩,⟨qb,61,aj bT q,qN,true⟩,⟨some g3,253,kw x,12,true⟩]) 9 [1,4,5,7,11,12,13,14,15] (fun z=>?_) (fun hd14=>?_)
     ·(try dsimp only);refine aI [1,4,7] ak rfl ⟨⟨_,rfl,?_⟩,⟨_,rfl,?_⟩,⟨_,rfl,?_⟩,trivial⟩
      ·refine A2 ?_;exact Nw hd12 () [0,1,2,3,4,5,6,7]
      ·refine A2 ?_;exact Nw hd10 () [0,1,2,3,4,5,6,7]
      ·refine Gz ?_;exact Nw hd8 () [0,1,2,3,4,5,6,7]
     refine aC (nt:=127) (Z:=Unit) (fun _=>sX [(64,bf g1),(67,.pointer (some ⟨g3,10,none⟩)),(71,.int .i64 n),(73,.pointer (some ⟨g3,11,none⟩))]) (fun _=>sY [⟨some g1,251,[.int .i64 m,.int .i64 n],2,true⟩,⟨some g2,209,xE fb,10,true⟩,⟨qb,61,aj bT q,qN,true⟩,⟨some g3,253,kw x,12,true⟩]) 9 [1,4,5,10,11,12,13,14,15] (fun z=>?_) (fun hd15=>?_)
     ·(try dsimp only);refine aI [1,4,10] ak rfl ⟨⟨_,rfl,?_⟩,⟨_,rfl,?_⟩,⟨_,rfl,?_⟩,trivial⟩
      ·refine A2 ?_;exact Nw hd13 () [0,1,2,3,4,5,6,7]
      ·refine A2 ?_;exact Nw hd11 () [0,1,2,3,4,5,6,7]
      ·refine Gz ?_;exact Nw hd8 () [0,1,2,3,4,5,6,7]
     refine aC (nt:=127) (Z:=Unit) (fun _=>sX [(64,bf g1),(68,.int .i64 x.2.1),(70,.pointer (some ⟨g1,1,none⟩)),(73,.pointer (some ⟨g3,11,none⟩))]) (fun _=>sY [⟨some g1,251,[.int .i64 m,.int .i64 n],2,true⟩,⟨some g2,209,xE fb,10,true⟩,⟨qb,61,aj bT q,qN,true⟩,⟨some g3,253,kw x,12,true⟩]) 9 [1,5,7,10,11,12,13,14,15] (fun z=>?_) (fun hd16=>?_)
     ·(try dsimp only);refine aI [1,7,10] ak rfl ⟨⟨_,rfl,?_⟩,⟨_,rfl,?_⟩,⟨_,rfl,?_⟩,trivial⟩
      ·refine Jc ?_;exact Nw hd9 () [0,1,2,3,4,5,6,7]
      ·refine A2 ?_;exact Nw hd11 () [0,1,2,3,4,5,6,7]
      ·refine A2 ?_;exact Nw hd10 () [0,1,2,3,4,5,6,7]
     refine aC (nt:=127) (Z:=Unit) (fun _=>sX [(65,.int .i64 m),(67,.pointer (some ⟨g3,10,none⟩)),(70,.pointer (some ⟨g1,1,none⟩)),(73,.pointer (some ⟨g3,11,none⟩))]) (fun _=>sY [⟨some g1,251,[.int .i64 m,.int .i64 n],2,true⟩,⟨some g2,209,xE fb,10,true⟩,⟨qb,61,aj bT q,qN,true⟩,⟨some g3,253,kw x,12,true⟩]) 9 [4,5,7,10,11,12,13,14,15] (fun z=>?_) (fun hd17=>?_)
     ·(try dsimp only);refine aI [4,7,10] ak rfl ⟨⟨_,rfl,?_⟩,⟨_,rfl,?_⟩,⟨_,rfl,?_⟩,trivial⟩
      ·refine Jc ?_;exact Nw hd9 () [0,1,2,3,4,5,6,7]
      ·refine A2 ?_;exact Nw hd13 () [0,1,2,3,4,5,6,7]
      ·refine A2 ?_;exact Nw hd12 () [0,1,2,3,4,5,6,7]
     refine Nt 0 ?_;refine(Iz 0 yl Dt) ?_;refine A1 ?_;refine Nt 2 ?_;refine Fg 0 10 ?_;refine A1 ?_;refine Nt 3 ?_;refine(Iz 10 yl Dt) ?_;refine A1 ?_;refine Nt 6 ?_;refine(Iz 1 yl Dt) ?_;refine A1 ?_;refine Nt 8 ?_;refine Fg 0 10 ?_;refine A1 ?_;refine Nt 9 ?_;refine(Iz 11 yl Dt) ?_;refine A1 ?_;refine aI [1,4,7,10] ak rfl ⟨⟨_,rfl,?_⟩,⟨_,rfl,?_⟩,⟨_,rfl,?_⟩,⟨_,rfl,?_⟩,trivial⟩
     ·refine A2 ?_;exact Nw hd17 () [0,1,2,3,4,5,6,7]
     ·refine A2 ?_;exact Nw hd16 () [0,1,2,3,4,5,6,7]
     ·refine A2 ?_;exact Nw hd15 () [0,1,2,3,4,5,6,7]
     ·refine A2 ?_;exact Nw hd14 () [0,1,2,3,4,5,6,7]
    intro _;show At _ ⟨127,[(2,.func (.func kf) #[] #[]),(7,aA (some go) 0 l2.length oc),(14,aA qb 0 q.length qc),(15,bf g1),(16,bf g2),(17,.bool inn),(57,aA (some go) 0 l2.length oc),(58,bH (l2.length)),(59,bH i),(18,bH i),(19,bf g3)],[⟨ab,61,aj bT a,aN,false⟩,⟨bb,61,aj bT b,bN,false⟩,⟨some g0,74,[aA ab 0 a.length ac,aA bb 0 b.length bc],2,true⟩,⟨some go,253,aj kw l2,oN,true⟩,⟨some g1,251,[.int .i64 (m+x.2.1),.int .i64 (n+x.2.2)],2,true⟩,⟨some g2,209,xE fb,10,true⟩,⟨qb,61,aj bT q,qN,true⟩,⟨some g3,253,kw x,12,true⟩]⟩ _;refine A3 ?_;refine Di [] ?_;refine A1 ?_;refine Ar (((i+1:Nat):Int)) ?_;refine A4 ?_;refine Rs 83 ?_ ?_<;>intro hcQ
    ·have hjt:i+1<l2.length:=qL;obtain⟨y,hy⟩:∃y,l2[i+1]? =some y:=⟨l2[i+1],List.getElem?_eq_getElem hjt⟩;have hey:=(hev y (List.mem_of_getElem? hy)).1;refine A1 ?_;refine XM 7 0 ?_;refine A2 ?_;refine Ar (((i+1:Nat):Int)) ?_;refine aG 3 ((i+1)*12) qiw qdP rfl rfl rfl rfl rfl ae ae (xI.ne ax ae) (by show 0+Int.toNat _*12=_;omega) ?_;refine Fg ((i+1)*12) 0 ?_;refine bu (v:=BdV y.1) 3 ((i+1)*12+0) _ rfl rfl rfl rfl qpu (xI.sub hy 0 10 ax) rfl ax rfl ?_;refine Pc (rf x.1 y.1 hex.2 hey.2) ?_;refine A4 ?_;refine Cd ?_ ?_<;>intro hdQ
     ·have hc0:xB x.1 y.1=0:=eq_of_beq hdQ;refine A5 ?_;refine dP ?_;exact Nl ⟨⟨i+1,m+x.2.1,n+x.2.2,inn,fb,q,qb,qN,qc⟩,hlt,Nz,NC,by rw[<-qgN T hx hy hex.1 hey.1 hc0];exact hI2,Nat.le_succ_of_le hq,h5,h6⟩ (hμ:=ND) (hL:=fF.auto)
     ·have hc0:xB x.1 y.1≠0:=ne_of_beq_false hdQ;have hfar:=qoo T hy hex.1 hey.1 hc0;refine A5 ?_;refine(Iz 0 yl Dt) ?_;refine A2 ?_;refine(Iz 1 yl Dt) ?_;refine A2 ?_;refine oD [_,_] rfl rfl rfl rfl (hkp _ _) ?_;refine A9 ?_;refine Rs 105 ?_ ?_<;>intro heQ
      ·have hnow:keep (decide (0<m+x.2.1)) (decide (0<n+x.2.2))=true:=heQ;refine A6 ?_;refine Cd ?_ ?_<;>intro hfQ
       ·have hin:inn=false:=SV
        exact qlP
       ·have hin:inn=true:=SV
        refine A5 ?_;refine Rs 114 ?_ ?_<;>intro hgQ
        ·exact absurd hgQ SX
        ·exact qlR
      ·have hnow:keep (decide (0<m+x.2.1)) (decide (0<n+x.2.2))=false:=heQ;refine nI ?_;refine Rs 114 ?_ ?_<;>intro hfQ
       ·refine A5 ?_;refine Cd ?_ ?_<;>intro hgQ
        ·have hin:inn=true:=hgQ;exact qlM
        ·have hin:inn=false:=hgQ;exact qlQ
       ·exact absurd hfQ SX
    ·have hfar:Far ρ l2 i x:=qkk (of_decide_eq_false hcQ|>fun e=>ae);refine A19 ?_;refine(Iz 0 yl Dt) ?_;refine A2 ?_;refine(Iz 1 yl Dt) ?_;refine A2 ?_;refine oD [_,_] rfl rfl rfl rfl (hkp _ _) ?_;refine A9 ?_;refine Rs 105 ?_ ?_<;>intro hdQ
     ·have hnow:keep (decide (0<m+x.2.1)) (decide (0<n+x.2.2))=true:=hdQ;refine A6 ?_;refine Cd ?_ ?_<;>intro heQ
      ·have hin:inn=false:=SY
       exact qlP
      ·have hin:inn=true:=SY
       refine A5 ?_;refine Rs 114 ?_ ?_<;>intro hfQ
       ·exact absurd hfQ SX
       ·exact qlR
     ·have hnow:keep (decide (0<m+x.2.1)) (decide (0<n+x.2.2))=false:=hdQ;refine nI ?_;refine Rs 114 ?_ ?_<;>intro heQ
      ·refine A5 ?_;refine Cd ?_ ?_<;>intro hfQ
       ·have hin:inn=true:=hfQ;exact qlM
       ·have hin:inn=false:=hfQ;exact qlQ
      ·exact absurd heQ SX
   ·have hge:i=l2.length:=lw;subst hge;obtain rfl:q=jV keep a b:=by rw[hI2,qkj,List.append_nil]
    refine nI ?_;refine aO rfl (au rfl) (fun w hL=>⟨⟨qb,qN,qc,h5⟩,?_,hL.pk [some 6]⟩);exact rfl
end Go.Proofs.YtaffcpfhedadhaaGreatDoor
namespace Go.Via
open Go
def BJ(x y:PU)(t:Rl):Bool:=CZ x.i t&&CZ y.i t
theorem qgZ{α β:Type}{f:α->Option β}{a:List α}{i:Nat}{x:α}(hx:a[i]? =some x)(hN:∀u∈a.take i,f u=none):a.findSome? f=(f x).or ((a.drop (i+1)).findSome? f):=by
 have ha:a=a.take i++x::a.drop (i+1):=by
  obtain⟨h1,h2⟩:=List.getElem?_eq_some_iff.1 hx;rw[<-h2,List.getElem_cons_drop,List.take_append_drop]
 conv=>lhs;rw[ha]
 rw[List.findSome?_append,List.findSome?_eq_none_iff.2 hN,List.findSome?_cons];cases f x<;>rfl
def atR(b:List PU)(x:PU)(t:Rl):Option Rl:=b.findSome? fun y=>if BJ x y t=true then some (Be (d2 x.f y.f) t) else none
theorem qlV(a b:List PU)(t:Rl):zF a b t=a.findSome? fun x=>atR b x t:=rfl
def qkt{a b:List PU}{t:Rl}(h:∀u∈a.take a.length,atR b u t=none):zF a b t=none:=by
 rw[qlV];exact List.findSome?_eq_none_iff.2 fun u hu=>h u (by rw[List.take_length];exact hu)
def qg0{b:List PU}{x:PU}{t:Rl}(h:∀v∈b.take b.length,BJ x v t=false):atR b x t=none:=
 List.findSome?_eq_none_iff.2 fun v hv=>by rw[h v (by rw[List.take_length];exact hv)];rfl
def qg1{a b:List PU}{t:Rl}{i j:Nat}{x y:PU}(hx:a[i]? =some x)(hy:b[j]? =some y)(hN:∀u∈a.take i,atR b u t=none)(hM:∀v∈b.take j,BJ x v t=false)(h:BJ x y t=true):zF a b t=some (Be (d2 x.f y.f) t):=by
 rw[qlV,qgZ hx hN];have:atR b x t=some (Be (d2 x.f y.f) t):=by
  unfold atR;rw[qgZ hy fun v hv=>by rw[hM v hv];rfl,h];rfl
 rw[this];rfl
def qaM{α:Type}{p:α->Prop}{a:List α}{i:Nat}{x:α}(hx:a[i]? =some x)(h:∀u∈a.take i,p u)(hp:p x):∀u∈a.take (i+1),p u:=fun u hu=>by
 rw[<-fO hx] at hu;rcases List.mem_append.1 hu with h1|h1
 ·exact h u h1
 ·rw[List.mem_singleton.1 h1];exact hp
end Go.Via
namespace Go.Proofs.YtaffcpfhedadhaaGreatDoor
open Go Go.RowKit Go.Via
def Yt(a:List PU)(ab:Option Nat)(aN ac:Nat)(hac:a.length<=ac)(han:a.length<=400)(b:List PU)(bb:Option Nat)(bN bc:Nat)(hbc:b.length<=bc)(hbn:b.length<=400)(hsa:GX a)(hsb:GX b)(m:Rl)(hm:m.ok)(hmz:fV m<=10000:=by omega):cZ Tryz.prog 18 [⟨ab,100,aj aP a,aN,false⟩,⟨bb,100,aj aP b,bN,false⟩] [aA ab 0 a.length ac,aA bb 0 b.length bc,RV m] Unit (fun _=> .tuple #[RV ((zF a b m).getD (rl 0)),.bool (zF a b m).isSome]) (fun _=>[]):=by
 refine sB3 52 Tryz.func18 fun w hL0=>?_;refine nC fun g0=>?_;refine Al 9 II (fun g1=>?_);refine lW ?_;refine El (ι:={i:Nat // i<=a.length∧∀u∈a.take i,atR b u m=none}) (fun⟨i,hi,hN⟩=>([(0,aA ab 0 a.length ac),(1,aA bb 0 b.length bc),(5,bf g0),(6,bf g1),(8,bH i)],[⟨ab,100,aj aP a,aN,false⟩,⟨bb,100,aj aP b,bN,false⟩,⟨some g0,38,jX m,9,true⟩,⟨some g1,38,zRc,9,true⟩],a.length-i)) ⟨0,Nat.zero_le _,fun u hu=>by simp at hu⟩ ?_ (hL:=fF.auto);rintro⟨i,hi,hN⟩;(try dsimp only);refine A9 ?_;refine Cd ?_ ?_<;>intro haQ
 ·have hlt:i<a.length:=iH;obtain⟨x,hx⟩:∃x,a[i]? =some x:=⟨a[i],List.getElem?_eq_getElem hlt⟩;have hxs:=hsa x (List.mem_of_getElem? hx);refine lW ?_;refine El (ι:={j:Nat // j<=b.length∧∀v∈b.take j,BJ x v m=false}) (fun⟨j,hj,hM⟩=>([(0,aA ab 0 a.length ac),(1,aA bb 0 b.length bc),(5,bf g0),(6,bf g1),(8,bH i),(9,bH j)],[⟨ab,100,aj aP a,aN,false⟩,⟨bb,100,aj aP b,bN,false⟩,⟨some g0,38,jX m,9,true⟩,⟨some g1,38,zRc,9,true⟩],b.length-j)) ⟨0,Nat.zero_le _,fun u hu=>by simp at hu⟩ ?_ (hL:=fF.auto);rintro⟨j,hj,hM⟩;(try dsimp only);refine A9 ?_;refine Cd ?_ ?_<;>intro hbQ
  ·have hjt:j<b.length:=lu;obtain⟨y,hy⟩:∃y,b[j]? =some y:=⟨b[j],List.getElem?_eq_getElem hjt⟩;have hys:=hsb y (List.mem_of_getElem? hy);refine dQ 0 rfl (aY.ne ax ae) (fun hbs=>?_);obtain⟨ga,hga⟩:=Option.isSome_iff_exists.1 hbs;replace hga:ab=some ga:=hga;subst hga;refine dQ 1 rfl (aY.ne ax ae) (fun hbs=>?_);obtain⟨gb,hgb⟩:=Option.isSome_iff_exists.1 hbs;replace hgb:bb=some gb:=hgb;subst hgb;refine A5 ?_;refine Di [] ?_;refine A2 ?_;refine DK ?_;refine Fg ((i)*36) 0 ?_;refine ED ?_;refine L9 2 0 ?_;refine Pc (EF x.i m) ?_;refine A1 ?_;refine Rs 29 ?_ ?_<;>intro hcQ
   ·have ix:CZ x.i m=true:=hcQ;refine A2 ?_;refine Nq ?_;refine Fg ((j)*36) 0 ?_;refine Ny ?_;refine L9 2 0 ?_;refine Pc (EF y.i m) ?_;refine A3 ?_;refine Cd ?_ ?_<;>intro hdQ
    ·have iy:CZ y.i m=true:=hdQ;have hbo:BJ x y m=true:=by unfold BJ;rw[ix,iy];rfl
     refine A1 ?_;refine Dp [] [0,1,2,3,4,5,6,7,8,9,11,10,12,13,14] ?_;refine A2 ?_;refine DK ?_;refine Nv ?_;refine A2 ?_;refine Nq ?_;refine Fg ((j)*36) 20 ?_;refine bu (v:=zk y.f) 1 ((j)*36+20) _ rfl rfl rfl rfl Jg (aY.sub hy 20 16 ax) rfl ax rfl ?_;refine L9 2 0 ?_;refine Pc (xe x.f y.f) ?_;refine Pc (EC (d2 x.f y.f) m hm (by have:=SC hxs.2 hys.2;omega)) ?_;refine Ss 3 ?_;refine FN ?_;refine bM rfl (bF 3 rfl rfl ja (vs:=[_,_,_,_,_,_,_,_,_]) rfl rfl (Nat.le_of_ble_eq_true rfl) rfl) (au rfl) (fun w hL=>⟨(),?_,hL.pk []⟩);exact congrArg (fun o:Option Rl=>Ending.returned (.tuple #[RV (o.getD (rl 0)),.bool o.isSome])) (qg1 hx hy hN hM hbo).symm
    ·have iy:CZ y.i m=false:=hdQ;have hbo:BJ x y m=false:=by unfold BJ;rw[ix,iy];rfl
     refine A5 ?_;refine Ar (((j+1:Nat):Int)) ?_;refine A3 ?_;exact Nl ⟨j+1,hjt,qaM hy hM hbo⟩ (hμ:=S9) (hL:=fF.auto)
   ·have ix:CZ x.i m=false:=hcQ;have hbo:BJ x y m=false:=by unfold BJ;rw[ix];rfl
    refine Rh ?_;refine Ar (((j+1:Nat):Int)) ?_;refine A3 ?_;exact Nl ⟨j+1,hjt,qaM hy hM hbo⟩ (hμ:=S9) (hL:=fF.auto)
  ·have hge:j=b.length:=lw;subst hge;refine A8 ?_;refine dP ?_;exact Nl ⟨i+1,hlt,qaM hx hN (qg0 hM)⟩ (hμ:=Yl) (hL:=fF.auto)
 ·have hge:i=a.length:=iK;subst hge;refine A7 ?_;refine(Bu []) (qdR) ?_;refine aS 51 (RV (rl 0)) rfl Sz.symm ?_;refine Ss 3 ?_;refine A4 ?_;refine bM rfl (bF 3 rfl rfl ja (vs:=[_,_,_,_,_,_,_,_,_]) rfl rfl (Nat.le_of_ble_eq_true rfl) rfl) (au rfl) (fun w hL=>⟨(),?_,hL.pk []⟩);exact congrArg (fun o:Option Rl=>Ending.returned (.tuple #[RV (o.getD (rl 0)),.bool o.isSome])) (qkt hN).symm
def zL(t x y u v z:Rat)(h0:u-t≠0:=by omega)(ht:bY t<=100000:=by omega)(hx:bY x<=100000:=by omega)(hy:bY y<=100000:=by omega)(hu:bY u<=100000:=by omega)(hv:bY v<=100000:=by omega)(hz:bY z<=100000:=by omega):aJ Tryz.prog 87 #[.agg #[.bool (decide ((t).num<0)),.string (bQ (t).num.natAbs),.bool false,.string (dm (t)),.bool (decide ((x).num<0)),.string (bQ (x).num.natAbs),.bool false,.string (dm (x)),.bool (decide ((y).num<0)),.string (bQ (y).num.natAbs),.bool false,.string (dm (y))],.agg #[.bool (decide ((u).num<0)),.string (bQ (u).num.natAbs),.bool false,.string (dm (u)),.bool (decide ((v).num<0)),.string (bQ (v).num.natAbs),.bool false,.string (dm (v)),.bool (decide ((z).num<0)),.string (bQ (z).num.natAbs),.bool false,.string (dm (z))]] (zk ⟨(x-(v-x)/(u-t)*t),((v-x)/(u-t)),(y-(z-y)/(u-t)*t),((z-y)/(u-t))⟩):=by
 refine nV 46 Tryz.func87 fun w=>?_;refine kL fun g0=>?_;refine Bp 12 (fun g1=>?_);refine Al 16 z98 (fun g2=>?_);refine A5 ?_;refine L4 0 0 ?_;refine A2 ?_;refine L4 0 4 ?_;refine A1 ?_;refine L4 1 0 ?_;refine A2 ?_;refine L4 1 4 ?_;refine Pc (tV t x u v h0 ht hx hu hv) ?_;refine A3 ?_;refine Al 12 IJ (fun g3=>?_);refine Ss 3 ?_;refine A6 ?_;refine L4 0 0 ?_;refine A2 ?_;refine L4 0 8 ?_;refine A1 ?_;refine L4 1 0 ?_;refine A2 ?_;refine L4 1 8 ?_;refine Pc (tV t y u z h0 ht hy hu hz) ?_;refine A3 ?_;refine Al 12 IJ (fun g4=>?_);refine Ss 4 ?_;refine A6 ?_;refine L4 3 0 ?_;refine A1 ?_;refine L4 3 4 ?_;refine A1 ?_;refine L4 4 0 ?_;refine A1 ?_;refine L4 4 4 ?_;refine(Bu [(0,_),(1,_),(2,_),(3,_)]) (qdV) ?_;refine dW ?_;refine qnK 2 ?_;exact rfl
def OJ(l:List PU)(lb:Option Nat)(lN lc:Nat)(hlc:l.length<=lc:=by omega)(hln:l.length<=1000:=by omega):cZ Tryz.prog 136 [⟨lb,100,aj aP l,lN,false⟩] [aA lb 0 l.length lc] (SR (l).length) SR.v (fun z=>[⟨z.b,201,aj aP (l),z.n,true⟩]):=by
 refine PR 26 Tryz.func136 fun w hL0=>?_;refine Ri ?_;refine El (ι:={z:Nat×List PU×Option Nat×Nat×Nat // z.1<=l.length∧z.2.1=l.take z.1∧z.2.1.length<=z.2.2.2.2∧z.2.2.2.2*36<=z.2.2.2.1}) (fun⟨⟨i,o,ob,oN,oc⟩,hi,hI,h3,h4⟩=>([(0,aA lb 0 l.length lc),(3,aA ob 0 o.length oc),(4,bH i)],[⟨lb,100,aj aP l,lN,false⟩,⟨ob,201,aj aP o,oN,true⟩],l.length-i)) ⟨⟨0,[],none,0,0⟩,Nat.zero_le _,rfl,Nat.le_refl _,bz⟩ ?_ (hL:=(az [some 0,none] ⟨pR,⟨rfl,rfl,rfl⟩,trivial⟩ rfl rfl));rintro⟨⟨i,o,ob,oN,oc⟩,hi,hI,h3,h4⟩;(try dsimp only);replace hi:i<=l.length:=hi;replace hI:o=l.take i:=hI;replace h3:o.length<=oc:=h3;replace h4:oc*36<=oN:=h4
 have hol:o.length<=100000:=(by rw[hI,List.length_take];omega);refine A9 ?_;refine Cd ?_ ?_<;>intro haQ
 ·have hlt:i<l.length:=iH;obtain⟨x,hx⟩:∃x,l[i]? =some x:=⟨l[i],List.getElem?_eq_getElem hlt⟩;refine dQ 0 rfl (aY.ne ax ae) (fun hbs=>?_);obtain⟨gl,hgl⟩:=Option.isSome_iff_exists.1 hbs;replace hgl:lb=some gl:=hgl;subst hgl;refine A4 ?_;refine qU (l':=[⟨_,_,_,_,_,_⟩,⟨_,_,_,_,_,_⟩,⟨_,_,_,_,_,_⟩,⟨_,_,_,_,_,_⟩,⟨_,_,_,_,_,_⟩,⟨_,_,_,_,_,_⟩,⟨_,_,_,_,_,_⟩,⟨_,_,_,_,_,_⟩,⟨_,_,_,_,_,_⟩,⟨_,_,_,_,_,_⟩,⟨_,_,_,_,_,_⟩]) [2000000] [1,2,3,4,5,6,7,8,9,10,11] [0,12,13,14] mixed ak rfl ?_;refine A2 ?_;refine DK ?_;refine Fg ((i)*36) 0 ?_;refine ED ?_;refine A2 ?_;refine DK ?_;refine Nv ?_;refine(Bu [(0,_),(1,_)]) (Fh) ?_;refine A1 ?_;refine bW [0,12] ak ⟨⟨_,rfl,?_⟩,⟨_,rfl,?_⟩,trivial⟩
  ·refine A2 ?_;refine bW [12] ak ⟨⟨_,rfl,?_⟩,trivial⟩
   ·refine(Bl 36 [(0,_)]) (wJ) (fun g0=>?_);refine A1 ?_;refine bW [13] ak ⟨⟨_,rfl,?_⟩,trivial⟩
    ·refine(Qa (s:=36) (len:=o.length) (n2:=1) 1 2 (fun r=>[_,⟨some r.g,201,aj aP o++aP (x),r.n,true⟩,_]) vX Fj) (aY.length o) h3 h4 (aY.one (x)) (fun r=>?_);exact qay
  ·refine(Bl 36 [(0,_)]) (wJ) (fun g0=>?_);refine A1 ?_;refine bW [0] ak ⟨⟨_,rfl,?_⟩,trivial⟩
   ·refine A2 ?_;refine bW [13] ak ⟨⟨_,rfl,?_⟩,trivial⟩
    ·refine(Qa (s:=36) (len:=o.length) (n2:=1) 1 2 (fun r=>[_,⟨some r.g,201,aj aP o++aP (x),r.n,true⟩,_]) vX Fj) (aY.length o) h3 h4 (aY.one (x)) (fun r=>?_);exact qay
 ·have hge:i=l.length:=iK;subst hge;obtain rfl:o=l:=Bv
  exact VU
end Go.Proofs.YtaffcpfhedadhaaGreatDoor
