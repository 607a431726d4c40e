/-
  Part 33 (chapter 32): lemmas, walks. Each theorem states its own conditions.
-/
import Derived.Lib.Repeat
import Derived.Test.YtaffcpfhedadhaaGreatDoorA32
set_option linter.all false
set_option maxRecDepth 20000
set_option maxHeartbeats 20000000
section
variable{P Q:Prop}{T:Type}{R:T->Prop}
def qq8(h:P:=by
 refine bZ [14] ak ⟨⟨_,rfl,?_⟩,trivial⟩
 ·exact qwg):=h
def qwg(h:P:=by
 refine qen (s:=52) (len:=o.length) (n2:=1) 2 4 (fun r=>[_,_,⟨some r.g,151,ai ZF o++ZF (⟨dR x.i y.i,x.f,y.f⟩),r.n,true⟩,_,_]) qvc qtP rfl rfl rfl rfl rfl rfl rfl rfl rfl rfl rfl rfl (Uw.length o) h3 h4 rfl (Uw.one (⟨dR x.i y.i,x.f,y.f⟩)) ae (fun _=>rfl) (fun r=>?_);refine A1 ?_;refine bZ [15] ak ⟨⟨_,rfl,?_⟩,trivial⟩
 ·exact qwh):=h
def qwh(h:P:=by
 refine A2 ?_;refine IZ rfl ?_;refine A2 ?_;refine Di [] ?_;refine qaw ?_;refine Pc (wR x.i y.i hxs hys) ?_;refine A2 ?_;refine Cd ?_ ?_<;>intro hdQ
 ·have hef:Gh x y=true:=hdQ;refine A2 ?_;refine rG ?_;refine A4 ?_;exact Nl ⟨⟨i+1,k,o++[⟨dR x.i y.i,x.f,y.f⟩],some r.g,r.n,r.cap⟩,hlt,hk,by rw[<-hI,qj0 hx hy hef,qcI hok,List.append_assoc],jT,r.hn,by show(o++[_]).length<=i+1+k;rw[List.length_append];show o.length+1<=i+1+k;omega⟩ (hμ:=qkR) (ht:=⟨rfl,rfl,(aO rfl kG),rfl,rfl,trivial⟩) (hL:=(ay [some 0,some 1,some 2] ⟨pR,pR,⟨_,rfl,aV kH⟩,trivial⟩ rfl rfl))
 ·have hef:Gh x y=false:=hdQ;refine A2 ?_;refine Ar (((k+1:Nat):Int)) ?_;refine A4 ?_;exact Nl ⟨⟨i,k+1,o++[⟨dR x.i y.i,x.f,y.f⟩],some r.g,r.n,r.cap⟩,hi,hlk,by rw[<-hI,qj1 hx hy hef,qcI hok,List.append_assoc],jT,r.hn,by show(o++[_]).length<=i+(k+1);rw[List.length_append];show o.length+1<=i+(k+1);omega⟩ (hμ:=qkS) (ht:=⟨rfl,rfl,(aO rfl kG),rfl,rfl,trivial⟩) (hL:=(ay [some 0,some 1,some 2] ⟨pR,pR,⟨_,rfl,aV kH⟩,trivial⟩ rfl rfl))):=h
def qkK(h:P:=by refine qC ?_;exact Nl ⟨⟨i+1,fM (fM m x.a) x.b⟩,hlt,by show _=(l.take (i+1)).foldl CG (rl 0);rw[<-fH hx,List.foldl_append,<-hI];rfl⟩ (hμ:=nJ) (hL:=(ay [some 0,some 1,some 2] ⟨pR,pR,⟨_,rfl,aV (by rw[hm2]<;>rfl)⟩,trivial⟩ rfl rfl))):=h
def qkL(q:Q)(h:aj Q->P:=by intro q_;refine qax ?_;refine Fg ((i)*38) 29 ?_;refine aT (v:=RV x.b) 0 ((i)*38+29) _ rfl rfl rfl rfl jk (bP.sub hx 29 9 au) rfl au rfl ?_;exact q_.qq):=h ⟨q⟩
def XP(q:Q)(h:aj Q->P:=by intro q_;refine aJ 0 ((i)*36) AQ BD rfl rfl rfl rfl rfl ae ae (bu.ne au ae) wH ?_;exact q_.qq):=h ⟨q⟩
def qq9(q:Q)(h:aj Q->P:=by intro q_;refine L9 4 0 ?_;refine aJ 3 ((out.length-1)*20) Yb o7 rfl rfl rfl rfl rfl ae ae (dw.ne au ae) Jv ?_;refine Fg ((out.length-1)*20) 9 ?_;refine jB rfl 3 ((out.length-1)*20+9) [_,_,_,_,_] (ai aZ (out.set (out.length-1) ⟨j.f,t,j.fo,j.tp⟩)) rfl rfl rfl rfl jk rfl (by rw[Nat.ble_eq,dw.length];show(out.length-1)*20+9+9<=(out).length*20;(try simp only[List.length_set]);omega) rfl (dw.setf hj rfl au) rfl ?_;refine aJ 3 ((out.length-1)*20) Yb o7 rfl rfl rfl rfl rfl ae ae (dw.ne au qaA) Jv ?_;refine Fg ((out.length-1)*20) 19 ?_;exact q_.qq):=h ⟨q⟩
def qra(h:P:=by
 refine bZ [12] ak ⟨⟨_,rfl,?_⟩,trivial⟩
 ·exact qwi):=h
def qwi(h:P:=by
 refine(Qa (s:=9) (len:=o.length) (n2:=2) 1 2 (fun r=>[_,⟨some r.g,38,ai kQ o++(kQ x.f++kQ x.t),r.n,true⟩,_]) Eg VO) (gZ.length o) h3 h4 (fun v hv=>List.all_eq_true.1 (show(kQ x.f++kQ x.t).all (·.oneCell')=true from rfl) v hv) (fun r=>?_);refine A1 ?_;refine bZ [13] ak ⟨⟨_,rfl,?_⟩,trivial⟩
 ·refine A2 ?_;refine IZ rfl ?_;refine vW ?_;exact Nl ⟨⟨i+1,o++[x.f,x.t],some r.g,r.n,r.cap⟩,hlt,by show o++[x.f,x.t]=bV (l.take (i+1));rw[<-fH hx,xP,<-hI];rfl,jT,r.hn⟩ (hμ:=nJ) (ht:=⟨rfl,(aO rfl kG),rfl,trivial⟩) (hL:=(ay [some 0,some 1] ⟨pR,⟨_,rfl,aV qat⟩,trivial⟩ rfl rfl))):=h
def UY(h:P:=by refine E0 ?_;exact eB (by unfold qeB;first|(simp_all;done)|(simp_all;omega)|(simp_all;intros;omega))):=h
def qav(h:P:=by refine aH rfl (ax rfl) (fun w hL=>⟨⟨ob,oN,oc,h3⟩,?_,hL.pk [some 2]⟩);exact rfl):=h
def qkM(h:P:=by
 have hm2:fM (fM m x.a) x.b=x.b:=by rw[hm1];exact qcG (of_decide_eq_true hcQ)
 refine A3 ?_;refine qkL ?_;refine Ss 2 ?_;exact qkK):=h
def qkN(h:P:=by refine A7 ?_;refine L9 2 0 ?_;refine mY ?_;refine Ec9 1 fun w hL=>⟨(),?_,hL.pk []⟩;exact rfl):=h
def qaw(q:Q)(h:aj Q->P:=by intro q_;refine A2 ?_;refine XP ?_;refine Fg ((i)*36) 0 ?_;refine qcX ?_;refine A2 ?_;refine qkP ?_;refine Fg ((k)*36) 0 ?_;refine aT (v:=lC y.i) 1 ((k)*36+0) _ rfl rfl rfl rfl o7 (bu.sub hy 0 20 au) rfl au rfl ?_;exact q_.qq):=h ⟨q⟩
def qax(q:Q)(h:aj Q->P:=by intro q_;refine aJ 0 ((i)*38) u32 uj rfl rfl rfl rfl rfl ae ae (bP.ne au ae) Ag ?_;exact q_.qq):=h ⟨q⟩
def qM(q:∀x,R x)(h:aj (∀x,R x)->P:=by intro q_;refine(Bl 20 [(0,_)]) (IX) (fun g2=>?_);exact q_.qq g2):=h ⟨q⟩
def qkO(q:Q)(h:aj Q->P:=by intro q_;refine qax ?_;refine Fg ((i)*38) 20 ?_;refine aT (v:=RV x.a) 0 ((i)*38+20) _ rfl rfl rfl rfl jk (bP.sub hx 20 9 au) rfl au rfl ?_;exact q_.qq):=h ⟨q⟩
def qkP(q:Q)(h:aj Q->P:=by intro q_;refine aJ 1 ((k)*36) AQ BD rfl rfl rfl rfl rfl ae ae (bu.ne au ae) wH ?_;exact q_.qq):=h ⟨q⟩
def Pi(q:∀x,R x)(h:aj (∀x,R x)->P:=by intro q_;refine(Bl 20 [(0,_)]) (IX) (fun g3=>?_);exact q_.qq g3):=h ⟨q⟩
def qkQ(h:P:=by rw[Nat.ble_eq,dw.length];show(out.length-1)*20+19+1<=(out.set (out.length-1) ⟨j.f,t,j.fo,j.tp⟩).length*20;(try simp only[List.length_set]);omega):=h
def uB(h:P:=by have e:=hdQ;simpa using e):=h
def qay(h:P:=by show(dX (bV (a++b))).length-(i+1)<(dX (bV (a++b))).length-i;omega):=h
def qkR(h:P:=by show a.length+b.length-(i+1)-k<a.length+b.length-i-k;omega):=h
def qkS(h:P:=by show a.length+b.length-i-(k+1)<a.length+b.length-i-k;omega):=h
def Pj(h:P:=by rw[hI,List.length_map,List.length_take];omega):=h
def qkT(h:P:=by rw[hm1];exact qcH (of_decide_eq_false hcQ)):=h
def Ag(h:P:=by show 0+Int.toNat _*38=_;omega):=h
def qaz(h:P:=by show 1<=1000;omega):=h
def qaA(h:P:=by simp only[List.length_set];omega):=h
end
namespace Go.Proofs.YtaffcpfhedadhaaGreatDoor
open Go Go.RowKit Go.Via
def UZ(l:List Iv)(lb:Option Nat)(lN lc:Nat)(hlc:l.length<=lc)(hln:l.length<=2000)(hsz:∀x∈l,gV x<=50000):bQ Tryz.prog 95 [⟨lb,61,ai aZ l,lN,false⟩] [aB lb 0 l.length lc] (SR (dX (bV l)).length) SR.v (fun z=>[⟨z.b,38,ai kQ (dX (bV l)),z.n,true⟩]):=by
 refine Qg 26 Tryz.func95 fun w hL0=>?_;refine PX ?_;refine El (ι:={z:Nat×List Rl×Option Nat×Nat×Nat // z.1<=l.length∧z.2.1=bV (l.take z.1)∧z.2.1.length<=z.2.2.2.2∧z.2.2.2.2*9<=z.2.2.2.1}) (fun⟨⟨i,o,ob,oN,oc⟩,hi,hI,h3,h4⟩=>([(0,aB lb 0 l.length lc),(3,aB ob 0 o.length oc),(4,bF i)],[⟨lb,61,ai aZ l,lN,false⟩,⟨ob,38,ai kQ o,oN,true⟩],l.length-i)) ⟨⟨0,[],none,0,0⟩,Nat.zero_le _,rfl,Nat.le_refl _,bz⟩ ?_ (hL:=(ay [some 0,none] ⟨pR,⟨rfl,rfl,rfl⟩,trivial⟩ rfl rfl));rintro⟨⟨i,o,ob,oN,oc⟩,hi,hI,h3,h4⟩;(try dsimp only);replace hi:i<=l.length:=hi;replace hI:o=bV (l.take i):=hI;replace h3:o.length<=oc:=h3;replace h4:oc*9<=oN:=h4
 have hol:o.length<=100000:=(by rw[hI,wO,List.length_take];omega);refine A9 ?_;refine Cd ?_ ?_<;>intro haQ
 ·have hlt:i<l.length:=iE;obtain⟨x,hx⟩:∃x,l[i]? =some x:=⟨l[i],List.getElem?_eq_getElem hlt⟩;refine dK 0 rfl (dw.ne au ae) (fun hbs=>?_);obtain⟨gl,hgl⟩:=Option.isSome_iff_exists.1 hbs;replace hgl:lb=some gl:=hgl;subst hgl;refine A4 ?_;refine vw (l':=[⟨_,_,_,_,_,_⟩,⟨_,_,_,_,_,_⟩,⟨_,_,_,_,_,_⟩,⟨_,_,_,_,_,_⟩,⟨_,_,_,_,_,_⟩,⟨_,_,_,_,_,_⟩,⟨_,_,_,_,_,_⟩,⟨_,_,_,_,_,_⟩,⟨_,_,_,_,_,_⟩,⟨_,_,_,_,_,_⟩]) [2000000] [1,2,3,4,5,6,7,8,9,10] [0,11,12,13] mixed ak rfl ?_;refine A2 ?_;refine XB ?_;refine Fg ((i)*20) 0 ?_;refine qjB ?_;refine A2 ?_;refine XB ?_;refine Fg ((i)*20) 9 ?_;refine qjA ?_;refine A1 ?_;refine bZ [0,11] ak ⟨⟨_,rfl,?_⟩,⟨_,rfl,?_⟩,trivial⟩
  ·refine A2 ?_;refine bZ [11] ak ⟨⟨_,rfl,?_⟩,trivial⟩
   ·refine(Bl 18 [(0,_),(1,_)]) (qbz) (fun g0=>?_);refine A1 ?_;exact qra
  ·refine(Bl 18 [(0,_),(1,_)]) (qbz) (fun g0=>?_);refine A1 ?_;refine bZ [0] ak ⟨⟨_,rfl,?_⟩,trivial⟩
   ·refine A2 ?_;exact qra
 ·have hge:i=l.length:=iV;subst hge;obtain rfl:o=bV l:=Ad
  refine A8 ?_;refine(Sc [1]) (OX (bV l) ob oN oc h3 (by rw[wO];omega) (qcF hsz)) (fun z=>?_);exact JC
def o5(op:Int)(a:List Iv)(ab:Option Nat)(aN ac:Nat)(hac:a.length<=ac)(han:a.length<=1000)(b:List Iv)(bb:Option Nat)(bN bc:Nat)(hbc:b.length<=bc)(hbn:b.length<=1000)(hsa:∀x∈a,gV x<=50000)(hsb:∀x∈b,gV x<=50000):bQ Tryz.prog 44 [⟨ab,61,ai aZ a,aN,false⟩,⟨bb,61,ai aZ b,bN,false⟩] [.int .i64 op,aB ab 0 a.length ac,aB bb 0 b.length bc] (SR (dI (qI op) a b).length) SR.v (fun z=>[⟨z.b,61,ai aZ (dI (qI op) a b),z.n,true⟩]):=by
 refine sB3 109 Tryz.func44 fun w hL0=>?_;refine A6 ?_;refine qh 0 rfl (fun hba=>?_);refine qh 1 rfl (fun hbb=>?_);have hoa:a.length=0∨∃g,ab=some g:=qJ dw au hba;have hob:b.length=0∨∃g,bb=some g:=qJ dw au hbb
 have hsab:∀x∈a++b,gV x<=50000:=fun x hx=>(List.mem_append.1 hx).elim (hsa x) (hsb x)
 refine A1 ?_;refine(Bl 0 []) (qsf) (fun g0=>?_);refine A1 ?_;refine jl (s:=20) (len:=0) 2 0 (ai aZ a) (fun r=>[_,_,⟨r.b,61,ai aZ a,r.n,true⟩]) Yb P7 rfl rfl rfl rfl rfl rfl rfl rfl rfl rfl rfl (Nat.le_refl _) (Nat.le_refl _) hoa (List.take_of_length_le (by show(ai aZ a).length<=_;rw[dw.length];exact Nat.le_refl _)) (dw.length a) (dw.ones _) ae (fun _=>rfl) (fun r=>?_);refine A1 ?_;refine(Qo (s:=20) (len:=0+a.length) 2 1 (ai aZ b) (fun r2=>[_,_,⟨r2.b,61,ai aZ a++ai aZ b,r2.n,true⟩]) Yb P7) (by exact(by rw[dw.length,Nat.zero_add])) r.h r.hn hob (by exact(List.take_of_length_le (by show(ai aZ b).length<=_;rw[dw.length];exact Nat.le_refl _))) (dw.length b) (dw.ones _) (fun r2=>?_);obtain⟨rb2,rn2,rc2,rh2,rhn2⟩:=r2;refine aP 20 (aB rb2 0 (a++b).length rc2) rfl (by show aB rb2 0 (0+a.length+b.length) rc2=_;rw[List.length_append,Nat.zero_add]) ?_;refine iJ [_] [2] rfl rfl rfl (UZ (a++b) rb2 rn2 rc2 (by simp at rh2 ⊢;omega) Et hsab) ⟨⟨_,rfl,by rw[pK];exact iC⟩,trivial⟩ rfl (.inr fun x b hb=>xO) (fun z=>?_);obtain⟨eb,eN,ec,hec⟩:=z;refine A4 ?_;have hes:∀y∈dX (bV (a++b)),eU y<=50000:=qcE (p:=fun y=>eU y<=50000) (qcF hsab);have hel:(dX (bV (a++b))).length<=4000:=by have:=UM (bV (a++b));rw[wO,List.length_append] at this;omega
 refine Yc ?_;refine El (ι:={z:Nat×List Iv×Bool×Option Nat×Nat×Nat // z.1<=(dX (bV (a++b))).length∧qR (fun t=>qI op (ou a t) (ou b t)) (fun t u=>qI op (oz a t u) (oz b t u)) ((dX (bV (a++b))).drop z.1) z.2.1 z.2.2.1=qR (fun t=>qI op (ou a t) (ou b t)) (fun t u=>qI op (oz a t u) (oz b t u)) (dX (bV (a++b))) [] false∧(z.2.2.1=true->0<z.2.1.length)∧z.2.1.length<=z.2.2.2.2.2∧z.2.2.2.2.2*20<=z.2.2.2.2.1∧z.2.1.length<=2*z.1}) (fun⟨⟨i,out,og,ob,oN,oc⟩,hi,hI,hne,h3,h4,hol⟩=>([(0,.int .i64 op),(1,aB ab 0 a.length ac),(2,aB bb 0 b.length bc),(7,aB eb 0 (dX (bV (a++b))).length ec),(8,aB ob 0 out.length oc),(9,.bool og),(10,bF i)],[⟨ab,61,ai aZ a,aN,false⟩,⟨bb,61,ai aZ b,bN,false⟩,⟨eb,38,ai kQ (dX (bV (a++b))),eN,true⟩,⟨ob,61,ai aZ out,oN,true⟩],(dX (bV (a++b))).length-i)) ⟨⟨0,[],false,none,0,0⟩,Nat.zero_le _,rfl,fun e=>(by cases e),Nat.le_refl _,bz,bz⟩ ?_ (hL:=(ay [some 0,some 1,some 3,none] ⟨pR,pR,pR,⟨rfl,rfl,rfl⟩,trivial⟩ rfl rfl));rintro⟨⟨i,out,og,ob,oN,oc⟩,hi,hI,hne,h3,h4,hol⟩;(try dsimp only);replace hi:i<=(dX (bV (a++b))).length:=hi;replace hI:qR (fun t=>qI op (ou a t) (ou b t)) (fun t u=>qI op (oz a t u) (oz b t u)) ((dX (bV (a++b))).drop i) out og=qR (fun t=>qI op (ou a t) (ou b t)) (fun t u=>qI op (oz a t u) (oz b t u)) (dX (bV (a++b))) [] false:=hI;replace hne:og=true->0<out.length:=hne;replace h3:out.length<=oc:=h3;replace h4:oc*20<=oN:=h4;replace hol:out.length<=2*i:=hol;refine A9 ?_;refine Cd ?_ ?_<;>intro haQ
 ·have hlt:i<(dX (bV (a++b))).length:=iE;obtain⟨t,ht⟩:∃t,(dX (bV (a++b)))[i]? =some t:=⟨_,List.getElem?_eq_getElem hlt⟩;have hts:=hes t (List.mem_of_getElem? ht);obtain⟨h,hh⟩:∃h,qI op (ou a t) (ou b t)=h:=⟨_,rfl⟩;refine A8 ?_;refine aJ 2 ((i)*9) Eg jk rfl rfl rfl rfl rfl ae ae (gZ.ne au ae) Ju ?_;refine aT (v:=RV t) 2 ((i)*9) _ rfl rfl rfl rfl jk (gZ.sub ht 0 9 au) rfl au rfl ?_;refine Al 9 QI (fun g1=>?_);refine zY ?_;refine Dp [] [0,1,2,4,5,3,6,7,8] ?_;refine A2 ?_;refine L9 4 0 ?_;refine A1 ?_;refine L9 4 0 ?_;refine(Sd [0]) (EO a ab aN ac hac han hsa t hts) ?_;refine(Sd [1]) (EO b bb bN bc hbc hbn hsb t hts) ?_;refine Pc (CY op _ _) ?_;refine aP 39 (.bool h) rfl (congrArg Value.bool hh) ?_;refine A7 ?_;refine(Aq ((out.length:Int)-1)) uw ?_;refine A3 ?_;refine nV (nt:=109) (X:={z:List Iv×Nat×Option Nat×Nat×Nat // z.1=jW out og h t∧z.2.1=z.1.length∧z.1.length<=z.2.2.2.2∧z.2.2.2.2*20<=z.2.2.2.1∧z.1.length<=out.length+1}) (fun⟨⟨o1,ln,b1,n1,c1⟩,ho1,hln,h31,h41,hl1⟩=>[(0,.int .i64 op),(1,aB ab 0 a.length ac),(2,aB bb 0 b.length bc),(7,aB eb 0 (dX (bV (a++b))).length ec),(8,aB b1 0 ln c1),(10,bF i),(11,dA g1),(12,.bool h)]) (fun⟨⟨o1,ln,b1,n1,c1⟩,ho1,hln,h31,h41,hl1⟩=>[⟨ab,61,ai aZ a,aN,false⟩,⟨bb,61,ai aZ b,bN,false⟩,⟨eb,38,ai kQ (dX (bV (a++b))),eN,true⟩,⟨b1,61,ai aZ o1,n1,true⟩,⟨some g1,38,kQ t,9,true⟩]) ?_ ?_
  ·refine A5 ?_;refine Rs 45 ?_ ?_<;>intro hbQ
   ·have hog:og=true:=hbQ;refine A5 ?_;refine Cd ?_ ?_<;>intro hcQ
    ·have hhv:h=true:=hcQ;have hon:=hne hog;obtain⟨j,hj⟩:∃j,out[out.length-1]? =some j:=⟨_,List.getElem?_eq_getElem ae⟩;refine dK 3 rfl (dw.ne au ae) (fun hbs=>?_);obtain⟨go,hgo⟩:=Option.isSome_iff_exists.1 hbs;replace hgo:ob=some go:=hgo;subst hgo;refine A5 ?_;refine qq9 ?_;refine jB rfl 3 ((out.length-1)*20+19) [_,_,_,_,_] (ai aZ ((out.set (out.length-1) ⟨j.f,t,j.fo,j.tp⟩).set (out.length-1) ⟨j.f,t,j.fo,false⟩)) rfl rfl rfl rfl Ya rfl qkQ rfl (dw.setf (show(out.set (out.length-1) ⟨j.f,t,j.fo,j.tp⟩)[out.length-1]? =some ⟨j.f,t,j.fo,j.tp⟩ by rw[List.getElem?_set_self ae]) rfl au) rfl ?_;refine A3 ?_;exact Ni ⟨((out.set (out.length-1) ⟨j.f,t,j.fo,j.tp⟩).set (out.length-1) ⟨j.f,t,j.fo,false⟩,out.length,some go,oN,oc),by show(out.set (out.length-1) ⟨j.f,t,j.fo,j.tp⟩).set _ _=_;rw[qpc hog hhv hj,List.set_set],bz,VP,h4,bz⟩ [0,1,2,3,4]
    ·have hhv:h=false:=hcQ;refine A6 ?_;refine Cd ?_ ?_<;>intro hdQ
     ·have hon:=hne hog;obtain⟨j,hj⟩:∃j,out[out.length-1]? =some j:=⟨_,List.getElem?_eq_getElem ae⟩;refine dK 3 rfl (dw.ne au ae) (fun hbs=>?_);obtain⟨go,hgo⟩:=Option.isSome_iff_exists.1 hbs;replace hgo:ob=some go:=hgo;subst hgo;refine A5 ?_;refine qq9 ?_;refine jB rfl 3 ((out.length-1)*20+19) [_,_,_,_,_] (ai aZ ((out.set (out.length-1) ⟨j.f,t,j.fo,j.tp⟩).set (out.length-1) ⟨j.f,t,j.fo,true⟩)) rfl rfl rfl rfl Ya rfl qkQ rfl (dw.setf (show(out.set (out.length-1) ⟨j.f,t,j.fo,j.tp⟩)[out.length-1]? =some ⟨j.f,t,j.fo,j.tp⟩ by rw[List.getElem?_set_self ae]) rfl au) rfl ?_;refine A3 ?_;exact Ni ⟨((out.set (out.length-1) ⟨j.f,t,j.fo,j.tp⟩).set (out.length-1) ⟨j.f,t,j.fo,true⟩,out.length,some go,oN,oc),by show(out.set (out.length-1) ⟨j.f,t,j.fo,j.tp⟩).set _ _=_;rw[qpd hog hhv hj,List.set_set],bz,VP,h4,bz⟩ [0,1,2,3,4]
     ·exact absurd hdQ (by rw[hog];decide)
   ·have hog:og=false:=hbQ;refine oH ?_;refine Cd ?_ ?_<;>intro hcQ
    ·exact absurd hcQ (by rw[hog];decide)
    ·refine A6 ?_;refine Cd ?_ ?_<;>intro hdQ
     ·have hhv:h=true:=hdQ;refine A2 ?_;refine L9 4 0 ?_;refine L9 4 0 ?_;refine(Bu [(0,_),(1,_)]) (Tu) ?_;refine qM fun g2=>?_;refine(Qa (s:=20) (len:=out.length) (n2:=1) 3 5 (fun r=>[_,_,_,⟨some r.g,61,ai aZ out++aZ (⟨t,t,false,false⟩),r.n,true⟩,_,_]) Yb P7) (dw.length out) h3 h4 (dw.one (⟨t,t,false,false⟩)) (fun r=>?_);refine A4 ?_;exact Cb ⟨(out++[⟨t,t,false,false⟩],out.length+1,some r.g,r.n,r.cap),by rw[qpe hog hhv],bz,jT,r.hn,bz⟩ ⟨rfl,rfl,rfl,rfl,rfl,rfl,rfl,rfl,trivial⟩ (ay [some 0,some 1,some 2,some 3,some 4] ⟨pR,pR,pR,⟨_,rfl,aV kH⟩,pR,trivial⟩ rfl rfl)
     ·have hhv:h=false:=hdQ;refine A3 ?_;exact Ni ⟨(out,out.length,ob,oN,oc),by rw[qpf hog hhv],rfl,h3,h4,Nat.le_succ _⟩ [0,1,2,3,4]
  rintro⟨⟨o1,ln,b1,n1,c1⟩,ho1,hln,h31,h41,hl1⟩;show At _ ⟨109,[(0,.int .i64 op),(1,aB ab 0 a.length ac),(2,aB bb 0 b.length bc),(7,aB eb 0 (dX (bV (a++b))).length ec),(8,aB b1 0 ln c1),(10,bF i),(11,dA g1),(12,.bool h)],[⟨ab,61,ai aZ a,aN,false⟩,⟨bb,61,ai aZ b,bN,false⟩,⟨eb,38,ai kQ (dX (bV (a++b))),eN,true⟩,⟨b1,61,ai aZ o1,n1,true⟩,⟨some g1,38,kQ t,9,true⟩]⟩ _;replace hln:ln=o1.length:=hln;subst hln;replace ho1:o1=jW out og h t:=ho1;replace h31:o1.length<=c1:=h31;replace h41:c1*20<=n1:=h41;replace hl1:o1.length<=out.length+1:=hl1;refine A4 ?_;refine rG ?_;refine A5 ?_;refine Cd ?_ ?_<;>intro hbQ
  ·have hend:i+1=(dX (bV (a++b))).length:=by have e:=eq_of_beq hbQ;omega
   obtain rfl:o1=dI (qI op) a b:=by rw[UN,<-hI,ho1];exact qeM ht hend hh
   refine A2 ?_;refine Td rfl ?_;refine qX ?_;refine aH rfl (ax rfl) (fun w hL=>⟨⟨b1,n1,c1,h31⟩,?_,hL.pk [some 3]⟩);exact rfl
  ·have hmore:i+1<(dX (bV (a++b))).length:=by have e:=ne_of_beq_false hbQ;omega
   obtain⟨u,hu⟩:∃u,(dX (bV (a++b)))[i+1]? =some u:=⟨_,List.getElem?_eq_getElem hmore⟩;have hus:=hes u (List.mem_of_getElem? hu);obtain⟨w_,hw_⟩:∃w_,qI op (oz a t u) (oz b t u)=w_:=⟨_,rfl⟩;refine A6 ?_;refine rG ?_;refine aJ 2 ((i+1)*9) Eg jk rfl rfl rfl rfl rfl ae ae (gZ.ne au ae) Ju ?_;refine aT (v:=RV u) 2 ((i+1)*9) _ rfl rfl rfl rfl jk (gZ.sub hu 0 9 au) rfl au rfl ?_;refine Al 9 QI (fun g2=>?_);refine Ss 5 ?_;refine A3 ?_;refine Dp [] [0,1,2,3,5,6,7,4,8,9,10] ?_;refine A2 ?_;refine L9 4 0 ?_;refine L9 5 0 ?_;refine A1 ?_;refine L9 4 0 ?_;refine L9 5 0 ?_;refine(Sd [0]) (EP a ab aN ac hac han hsa t u hts hus) ?_;refine(Sd [1]) (EP b bb bN bc hbc hbn hsb t u hts hus) ?_;refine Pc (CY op _ _) ?_;refine aP 95 (.bool w_) rfl (congrArg Value.bool hw_) ?_;refine A8 ?_;refine Rs 97 ?_ ?_<;>intro hcQ
   ·have hwv:w_=true:=hcQ;refine A5 ?_;refine Cd ?_ ?_<;>intro hdQ
    ·have hhv2:h=false:=uB
     refine A2 ?_;refine L9 4 0 ?_;refine L9 5 0 ?_;refine UF ?_;refine Pi fun g3=>?_;refine(Qa (s:=20) (len:=o1.length) (n2:=1) 3 6 (fun r=>[_,_,_,⟨some r.g,61,ai aZ o1++aZ (⟨t,u,true,true⟩),r.n,true⟩,_,_,_]) Yb P7) (dw.length o1) h31 h41 (dw.one (⟨t,u,true,true⟩)) (fun r=>?_);refine qX ?_;refine kM ?_;exact Nl ⟨⟨i+1,o1++[⟨t,u,true,true⟩],true,some r.g,r.n,r.cap⟩,hlt,(qjT ht hu hh hw_ hwv hhv2 ho1).symm.trans hI,fun _=>bz,jT,r.hn,by show(o1++_).length<=2*(i+1);rw[List.length_append];simp;omega⟩ (hμ:=qay) (ht:=⟨rfl,rfl,rfl,rfl,(aO rfl kG),(aO rfl (congrArg Value.bool hwv)),rfl,trivial⟩) (hL:=(ay [some 0,some 1,some 2,some 3] ⟨pR,pR,pR,⟨_,rfl,aV kH⟩,trivial⟩ rfl rfl))
    ·have hhv2:h=true:=uB
     refine lh ?_;refine kM ?_;exact Nl ⟨⟨i+1,o1,true,b1,n1,c1⟩,hlt,(qpa ht hu hh hw_ hwv hhv2 ho1).symm.trans hI,fun _=>by show 0<o1.length;rw[ho1,hhv2];exact(qjU out og t).resolve_left fun e=>by have:=hne e.1;rw[e.2] at this;simp at this,h31,h41,by show o1.length<=2*(i+1);omega⟩ (hμ:=qay) (ht:=⟨rfl,rfl,rfl,rfl,rfl,(aO rfl (congrArg Value.bool hwv)),rfl,trivial⟩) (hL:=fE.auto)
   ·have hwv:w_=false:=hcQ;refine Yc ?_;refine kM ?_;exact Nl ⟨⟨i+1,o1,false,b1,n1,c1⟩,hlt,(qpb ht hu hh hw_ hwv ho1).symm.trans hI,fun e=>(by cases e),h31,h41,by show o1.length<=2*(i+1);omega⟩ (hμ:=qay) (ht:=⟨rfl,rfl,rfl,rfl,rfl,(aO rfl (congrArg Value.bool hwv)),rfl,trivial⟩) (hL:=fE.auto)
 ·have hge:i=(dX (bV (a++b))).length:=iV;subst hge;obtain rfl:out=dI (qI op) a b:=by rw[UN,<-hI,List.drop_length];rfl
  refine oH ?_;refine aH rfl (ax rfl) (fun w hL=>⟨⟨ob,oN,oc,h3⟩,?_,hL.pk [some 3]⟩);exact rfl
def Dh(l:List Iv)(lb:Option Nat)(lN lc:Nat)(hlc:l.length<=lc)(hln:l.length<=1000)(hsz:∀x∈l,gV x<=50000):bQ Tryz.prog 62 [⟨lb,61,ai aZ l,lN,false⟩] [aB lb 0 l.length lc] (SR (dI (qI 1) l []).length) SR.v (fun z=>[⟨z.b,61,ai aZ (dI (qI 1) l []),z.n,true⟩]):=by
 refine Qg 5 Tryz.func62 fun w hL0=>?_;refine qkH ?_;refine iJ [_,_,aB none 0 ([]:List Iv).length 0] [0,1] rfl rfl rfl (o5 1 l lb lN lc hlc hln [] none 0 0 (Nat.le_refl _) (Nat.zero_le _) hsz (fun x hx=>by cases hx)) ⟨pR,pR,trivial⟩ rfl (.inr fun x b hb=>xO) (fun z=>?_);exact JC
def Qp(a:List Iv)(ab:Option Nat)(aN ac:Nat)(hac:a.length<=ac)(han:a.length<=2000000)(b:List Iv)(bb:Option Nat)(bN bc:Nat)(hbc:b.length<=bc:=by omega)(hbn:b.length<=2000000:=by omega):bQ Tryz.prog 33 [⟨ab,61,ai aZ a,aN,false⟩,⟨bb,61,ai aZ b,bN,false⟩] [aB ab 0 a.length ac,aB bb 0 b.length bc] Unit (fun _=> .bool (decide (a=b))) (fun _=>[]):=by
 refine sB2 26 Tryz.func33 fun w hL0=>?_;refine II ?_;refine Cd ?_ ?_<;>intro haQ
 ·exact qkw
 ·have hle:a.length=b.length:=qao
  refine A9 ?_;refine El (ι:={i:Nat // i<=a.length∧a.take i=b.take i}) (fun⟨i,hi,hI⟩=>([(0,aB ab 0 a.length ac),(1,aB bb 0 b.length bc),(5,bF i)],[⟨ab,61,ai aZ a,aN,false⟩,⟨bb,61,ai aZ b,bN,false⟩],a.length-i)) ⟨0,Nat.zero_le _,rfl⟩ ?_;rintro⟨i,hi,hI⟩;(try dsimp only);refine A9 ?_;refine Cd ?_ ?_<;>intro hbQ
  ·have hlt:i<a.length:=kN;obtain⟨x,hx⟩:∃x,a[i]? =some x:=⟨a[i],List.getElem?_eq_getElem hlt⟩;obtain⟨y,hy⟩:∃y,b[i]? =some y:=⟨_,List.getElem?_eq_getElem ae⟩;refine A5 ?_;refine qky ?_;refine A2 ?_;refine Cd ?_ ?_<;>intro hcQ
   ·exact qku
   ·have hxy:x=y:=rX
    refine A5 ?_;exact qkx
  ·exact qkv
def Pm(a b:Iv)(ha:gV a<=50000:=by omega)(hb:gV b<=50000:=by omega):aG Tryz.prog 60 #[lC a,lC b] (.bool (qeB a b)):=by
 have a1:=Nat.le_trans (ig a) ha;have a2:=Nat.le_trans (gW a) ha;have b1:=Nat.le_trans (ig b) hb;have b2:=Nat.le_trans (gW b) hb;refine nX 27 Tryz.func60 fun w=>?_;refine qB fun g0=>?_;refine Bp 20 (fun g1=>?_);refine A6 ?_;refine FW ?_;refine L9 1 9 ?_;refine Pc (eF a.f b.t) ?_;refine A8 ?_;refine Rs 13 ?_ ?_<;>intro haQ
 ·refine PX ?_;exact UY
 ·refine A3 ?_;refine Rs 16 ?_ ?_<;>intro hbQ
  ·refine A5 ?_;refine Rs 21 ?_ ?_<;>intro hcQ
   ·refine A9 ?_;exact UY
   ·refine A9 ?_;exact UY
  ·refine FH ?_;exact UY
def Lj(a:List PU)(ab:Option Nat)(aN ac:Nat)(hac:a.length<=ac)(han:a.length<=1000)(b:List PU)(bb:Option Nat)(bN bc:Nat)(hbc:b.length<=bc)(hbn:b.length<=1000)(hsa:∀u∈a,gV u.i<=50000)(hsb:∀u∈b,gV u.i<=50000):bQ Tryz.prog 90 [⟨ab,201,ai aK a,aN,false⟩,⟨bb,201,ai aK b,bN,false⟩] [aB ab 0 a.length ac,aB bb 0 b.length bc] (SR (gY Ep Gh a b).length) SR.v (fun z=>[⟨z.b,151,ai ZF (gY Ep Gh a b),z.n,true⟩]):=by
 refine sB2 66 Tryz.func90 fun w hL0=>?_;refine A18 ?_;refine El (ι:={z:Nat×Nat×List B3×Option Nat×Nat×Nat // z.1<=a.length∧z.2.1<=b.length∧z.2.2.1++gY Ep Gh (a.drop z.1) (b.drop z.2.1)=gY Ep Gh a b∧z.2.2.1.length<=z.2.2.2.2.2∧z.2.2.2.2.2*52<=z.2.2.2.2.1∧z.2.2.1.length<=z.1+z.2.1}) (fun⟨⟨i,k,o,ob,oN,oc⟩,hi,hk,hI,h3,h4,hol⟩=>([(0,aB ab 0 a.length ac),(1,aB bb 0 b.length bc),(5,aB ob 0 o.length oc),(6,bF i),(7,bF k)],[⟨ab,201,ai aK a,aN,false⟩,⟨bb,201,ai aK b,bN,false⟩,⟨ob,151,ai ZF o,oN,true⟩],a.length+b.length-i-k)) ⟨⟨0,0,[],none,0,0⟩,Nat.zero_le _,Nat.zero_le _,rfl,Nat.le_refl _,bz,Nat.le_refl _⟩ ?_ (hL:=(ay [some 0,some 1,none] ⟨pR,pR,⟨rfl,rfl,rfl⟩,trivial⟩ rfl rfl));rintro⟨⟨i,k,o,ob,oN,oc⟩,hi,hk,hI,h3,h4,hol⟩;(try dsimp only);replace hi:i<=a.length:=hi;replace hk:k<=b.length:=hk;replace hI:o++gY Ep Gh (a.drop i) (b.drop k)=gY Ep Gh a b:=hI;replace h3:o.length<=oc:=h3;replace h4:oc*52<=oN:=h4;replace hol:o.length<=i+k:=hol;refine A8 ?_;refine Rs 14 ?_ ?_<;>intro haQ
 ·have hlt:i<a.length:=iE;obtain⟨x,hx⟩:∃x,a[i]? =some x:=⟨a[i],List.getElem?_eq_getElem hlt⟩;have hxs:=hsa x (List.mem_of_getElem? hx);refine A7 ?_;refine Cd ?_ ?_<;>intro hbQ
  ·have hlk:k<b.length:=kN;obtain⟨y,hy⟩:∃y,b[k]? =some y:=⟨b[k],List.getElem?_eq_getElem hlk⟩;have hys:=hsb y (List.mem_of_getElem? hy)
   refine A5 ?_;refine dK 0 rfl (bu.ne au ae) (fun hbs=>?_);obtain⟨ga,hga⟩:=Option.isSome_iff_exists.1 hbs;replace hga:ab=some ga:=hga;subst hga;refine dK 1 rfl (bu.ne au ae) (fun hbs=>?_);obtain⟨gb,hgb⟩:=Option.isSome_iff_exists.1 hbs;replace hgb:bb=some gb:=hgb;subst hgb;refine Dq [3000000] [0,1,2,3,4,5,6,7,8,9,10,11,12,14,15,13,16] ?_;refine qaw ?_;refine Pc (Ql x.i y.i hxs hys) ?_;refine A2 ?_;refine Al 20 z61 (fun g0=>?_);refine Ss 3 ?_;refine A9 ?_;refine Cd ?_ ?_<;>intro hcQ
   ·have hok:ja (dR x.i y.i)=true:=hcQ;refine vw (l':=[⟨_,_,_,_,_,_⟩,⟨_,_,_,_,_,_⟩,⟨_,_,_,_,_,_⟩,⟨_,_,_,_,_,_⟩,⟨_,_,_,_,_,_⟩,⟨_,_,_,_,_,_⟩,⟨_,_,_,_,_,_⟩,⟨_,_,_,_,_,_⟩,⟨_,_,_,_,_,_⟩,⟨_,_,_,_,_,_⟩,⟨_,_,_,_,_,_⟩,⟨_,_,_,_,_,_⟩]) [2000000] [1,2,3,4,5,6,7,8,9,10,11,12] [0,13,14,15] mixed ak rfl ?_;refine zO 3 0 ?_;refine A2 ?_;refine XP ?_;refine UW ?_;refine A2 ?_;refine qkP ?_;refine Fg ((k)*36) 20 ?_;refine aT (v:=AU y.f) 1 ((k)*36+20) _ rfl rfl rfl rfl qdz (bu.sub hy 20 16 au) rfl au rfl ?_;refine(Bu [(0,_),(1,_),(2,_)]) (qnj) ?_;refine A1 ?_;refine bZ [0,13] ak ⟨⟨_,rfl,?_⟩,⟨_,rfl,?_⟩,trivial⟩
    ·refine A2 ?_;refine bZ [13] ak ⟨⟨_,rfl,?_⟩,trivial⟩
     ·refine(Bl 52 [(0,_)]) (qbx) (fun g1=>?_);refine A1 ?_;exact qq8
    ·refine(Bl 52 [(0,_)]) (qbx) (fun g1=>?_);refine A1 ?_;refine bZ [0] ak ⟨⟨_,rfl,?_⟩,trivial⟩
     ·refine A2 ?_;exact qq8
   ·have hok:ja (dR x.i y.i)=false:=hcQ;refine A3 ?_;refine Di [] ?_;refine qaw ?_;refine Pc (wR x.i y.i hxs hys) ?_;refine A2 ?_;refine Cd ?_ ?_<;>intro hdQ
    ·have hef:Gh x y=true:=hdQ;refine A2 ?_;refine rG ?_;refine A4 ?_;exact Nl ⟨⟨i+1,k,o,ob,oN,oc⟩,hlt,hk,by rw[<-hI,qj0 hx hy hef,qjZ hok,List.nil_append],h3,h4,by show o.length<=i+1+k;omega⟩ (hμ:=qkR) (hL:=fE.auto)
    ·have hef:Gh x y=false:=hdQ;refine A2 ?_;refine Ar (((k+1:Nat):Int)) ?_;refine A4 ?_;exact Nl ⟨⟨i,k+1,o,ob,oN,oc⟩,hi,hlk,by rw[<-hI,qj1 hx hy hef,qjZ hok,List.nil_append],h3,h4,by show o.length<=i+(k+1);omega⟩ (hμ:=qkS) (hL:=fE.auto)
  ·have hge:b.length<=k:=lw;obtain rfl:o=gY Ep Gh a b:=by rw[<-hI,XL (.inr hge),List.append_nil]
   refine oH ?_;exact qav
 ·have hge:a.length<=i:=iV;obtain rfl:o=gY Ep Gh a b:=by rw[<-hI,XL (.inl hge),List.append_nil]
  refine A20 ?_;exact qav
def Pn(l:List PU)(lb:Option Nat)(lN lc:Nat)(hlc:l.length<=lc)(hln:l.length<=1000)(hsz:∀u∈l,gV u.i<=50000):bQ Tryz.prog 35 [⟨lb,100,ai aK l,lN,false⟩] [aB lb 0 l.length lc] (SR (dI (qI 1) (l.map (·.i)) []).length) SR.v (fun z=>[⟨z.b,61,ai aZ (dI (qI 1) (l.map (·.i)) []),z.n,true⟩]):=by
 refine⟨ak,fun w hL0=>?_⟩
 have hdl:(l.map (·.i)).length<=1000:=(by rw[List.length_map];exact hln);have hds:∀x∈l.map (·.i),gV x<=50000:=fun x hx=>by obtain⟨u,hu,rfl⟩:=List.mem_map.1 hx;exact hsz u hu
 refine cB1 21 Tryz.func35 hL0 ?_;refine PX ?_;refine El (ι:={z:Nat×List Iv×Option Nat×Nat×Nat // z.1<=l.length∧z.2.1=(l.take z.1).map (·.i)∧z.2.1.length<=z.2.2.2.2∧z.2.2.2.2*20<=z.2.2.2.1}) (fun⟨⟨i,o,ob,oN,oc⟩,hi,hI,h3,h4⟩=>([(0,aB lb 0 l.length lc),(3,aB ob 0 o.length oc),(4,bF i)],[⟨lb,100,ai aK l,lN,false⟩,⟨ob,61,ai aZ o,oN,true⟩],l.length-i)) ⟨⟨0,[],none,0,0⟩,Nat.zero_le _,rfl,Nat.le_refl _,bz⟩ ?_ (hL:=(ay [some 0,none] ⟨pR,⟨rfl,rfl,rfl⟩,trivial⟩ rfl rfl));rintro⟨⟨i,o,ob,oN,oc⟩,hi,hI,h3,h4⟩;(try dsimp only);replace hi:i<=l.length:=hi;replace hI:o=(l.take i).map (·.i):=hI;replace h3:o.length<=oc:=h3;replace h4:oc*20<=oN:=h4;have hol:o.length<=100000:=Pj
 refine A9 ?_;refine Cd ?_ ?_<;>intro haQ
 ·have hlt:i<l.length:=iE;obtain⟨x,hx⟩:∃x,l[i]? =some x:=⟨l[i],List.getElem?_eq_getElem hlt⟩;refine dK 0 rfl (bu.ne au ae) (fun hbs=>?_);obtain⟨gl,hgl⟩:=Option.isSome_iff_exists.1 hbs;replace hgl:lb=some gl:=hgl;subst hgl;refine A8 ?_;refine RS ?_;refine Fg ((i)*36) 0 ?_;refine qcX ?_;refine(Bl 20 [(0,_)]) (IX) (fun g0=>?_);refine(Qa (s:=20) (len:=o.length) (n2:=1) 1 2 (fun r=>[_,⟨some r.g,61,ai aZ o++aZ (x.i),r.n,true⟩,_]) Yb P7) (dw.length o) h3 h4 (dw.one (x.i)) (fun r=>?_);refine A6 ?_;refine kM ?_;exact Nl ⟨⟨i+1,o++[x.i],some r.g,r.n,r.cap⟩,hlt,by show o++[x.i]=(l.take (i+1)).map (·.i);rw[<-fH hx,List.map_append,<-hI];rfl,jT,r.hn⟩ (hμ:=nJ) (ht:=⟨rfl,(aO rfl kG),rfl,trivial⟩) (hL:=(ay [some 0,some 1] ⟨pR,⟨_,rfl,aV kH⟩,trivial⟩ rfl rfl))
 ·have hge:i=l.length:=iV;subst hge;have hF:o=l.map (·.i):=Ad
  refine A8 ?_;refine(Sc [1]) (Dh o ob oN oc h3 (by rw[hF];exact hdl) (by rw[hF];exact hds)) (fun z=>?_);subst hF;exact JC
def Iw(l:List iT)(lb:Option Nat)(lN lc:Nat)(hlc:l.length<=lc)(hln:l.length<=1000)(hsz:∀p∈l,eU p.a<=50000∧eU p.b<=50000):bQ Tryz.prog 47 [⟨lb,63,ai bg l,lN,false⟩] [aB lb 0 l.length lc] Unit (fun _=>RV (qZ l)) (fun _=>[]):=by
 refine Qg 39 Tryz.func47 fun w hL0=>?_;refine A2 ?_;refine Al 9 QI (fun g0=>?_);refine A4 ?_;refine(Bu []) (qr7) ?_;refine aP 5 (RV (rl 0)) rfl qcw.symm ?_;refine Al 9 QI (fun g1=>?_);refine Ss 2 ?_;refine A9 ?_;refine El (ι:={z:Nat×Rl // z.1<=l.length∧z.2=(l.take z.1).foldl CG (rl 0)}) (fun⟨⟨i,m⟩,hi,hI⟩=>([(0,aB lb 0 l.length lc),(2,dA g0),(3,dA g1),(4,bF i)],[⟨lb,63,ai bg l,lN,false⟩,⟨some g0,38,zRc,9,true⟩,⟨some g1,38,kQ m,9,true⟩],l.length-i)) ⟨⟨0,rl 0⟩,Nat.zero_le _,rfl⟩ ?_ (hL:=fE.auto);rintro⟨⟨i,m⟩,hi,hI⟩;(try dsimp only);replace hi:i<=l.length:=hi;replace hI:m=(l.take i).foldl CG (rl 0):=hI
 have hms:eU m<=50000:=(by rw[hI];exact qpg fun p hp=>hsz p (List.mem_of_mem_take hp));refine A9 ?_;refine Cd ?_ ?_<;>intro haQ
 ·have hlt:i<l.length:=iE;obtain⟨x,hx⟩:∃x,l[i]? =some x:=⟨l[i],List.getElem?_eq_getElem hlt⟩;refine dK 0 rfl (bP.ne au ae) (fun hbs=>?_);obtain⟨gl,hgl⟩:=Option.isSome_iff_exists.1 hbs;replace hgl:lb=some gl:=hgl;subst hgl;have hxs:=hsz x (List.mem_of_getElem? hx);refine A6 ?_;refine Di [] ?_;refine A2 ?_;refine qkO ?_;refine L9 2 0 ?_;refine Pc (eF x.a m hxs.1 hms) ?_;refine A3 ?_;refine Cd ?_ ?_<;>intro hbQ
  ·have hm1:fM m x.a=x.a:=qcG (of_decide_eq_true hbQ);refine A3 ?_;refine qkO ?_;refine jq ?_;refine Di [] ?_;refine A2 ?_;refine qkL ?_;refine L9 2 0 ?_;refine Pc (eF x.b x.a hxs.2 hxs.1) ?_;refine A3 ?_;refine Cd ?_ ?_<;>intro hcQ
   ·exact qkM
   ·have hm2:fM (fM m x.a) x.b=x.a:=qkT
    exact qkK
  ·have hm1:fM m x.a=m:=qcH (of_decide_eq_false hbQ);refine A3 ?_;refine Di [] ?_;refine A2 ?_;refine qkL ?_;refine L9 2 0 ?_;refine Pc (eF x.b m hxs.2 hms) ?_;refine A3 ?_;refine Cd ?_ ?_<;>intro hcQ
   ·exact qkM
   ·have hm2:fM (fM m x.a) x.b=m:=qkT
    exact qkK
 ·have hge:i=l.length:=iV;subst hge;obtain rfl:m=qZ l:=by rw[hI,List.take_length];rfl
  exact qkN
def uG(a b c d:Rat)(ha:bY a<=40000:=by omega)(hb:bY b<=40000:=by omega)(hc:bY c<=40000:=by omega)(hd:bY d<=40000:=by omega):aG Tryz.prog 93 #[Q a,Q b,Q c,Q d] (uf (sqL (a-c) (b-d))):=by
 have l1:=gX a c;have l2:=gX b d;have z0:=y9;have hs:ve ⟨a-c,b-d,0⟩<=100000:=Jw (by show bY (a-c)<=_;omega) (by show bY (b-d)<=_;omega) (by show bY 0<=_;omega);refine pB4 26 Tryz.func93 fun w=>?_;refine iH fun g0=>?_;refine Bp 4 (fun g1=>?_);refine Bp 4 (fun g2=>?_);refine Bp 4 (fun g3=>?_);refine Al 12 Vf (fun g4=>?_);refine A3 ?_;refine Dq [3000000] [0,1,3,4,2,5,6,7,8] ?_;refine L4 0 0 ?_;refine L4 2 0 ?_;refine L4 1 0 ?_;refine L4 3 0 ?_;refine Pc (dZ a c) ?_;refine Pc (dZ b d) ?_;refine Pc (jv (a-c) (b-d)) ?_;refine Al 12 Vf (fun g5=>?_);refine Ss 5 ?_;refine A4 ?_;refine xg 5 0 ?_;refine xg 5 0 ?_;refine Pc (KY ⟨a-c,b-d,0⟩ ⟨a-c,b-d,0⟩ rfl rfl hs hs) ?_;refine A3 ?_;refine Al 12 Vf (fun g6=>?_);refine Ss 6 ?_;refine A5 ?_;refine xg 6 0 ?_;refine zY ?_;refine Ue 4 ?_;exact rfl
def wV(i:Iv)(f:Qd)(h1:0<=i.f.r:=by omega)(h2:0<=i.t.r:=by omega)(hi:gV i<=10000:=by omega)(hf:ve f<=10000:=by omega):aG Tryz.prog 42 #[lC i,uf f] (Kt (aW (i,f))):=by
 have i1:=Nat.le_trans (ig i) hi;have i2:=Nat.le_trans (gW i) hi;refine nX 15 Tryz.func42 fun w=>?_;refine qB fun g0=>?_;refine Bp 12 (fun g1=>?_);refine Al 38 z63 (fun g2=>?_);refine A3 ?_;refine Dp [] [0,1,2,3,5,6,7,4,8,9,10] ?_;refine zO 0 0 ?_;refine xg 1 0 ?_;refine A1 ?_;refine L9 0 0 ?_;refine xg 1 0 ?_;refine A1 ?_;refine L9 0 9 ?_;refine Pc (wK f i.f h1 hf) ?_;refine Pc (wK f i.t h2 hf) ?_;refine(Bu [(0,_),(1,_),(2,_)]) (YE) ?_;refine jq ?_;refine qx4 2 ?_;exact rfl
def rq(l:List iT)(lb:Option Nat)(lN lc:Nat)(hlc:l.length<=lc)(hln:l.length<=1000)(hsz:∀p∈l,eU p.a<=50000∧eU p.b<=50000)(h0:0<l.length:=by omega):bQ Tryz.prog 43 [⟨lb,63,ai bg l,lN,false⟩] [aB lb 0 l.length lc] Unit (fun _=>RV (fB l)) (fun _=>[]):=by
 refine Qg 25 Tryz.func43 fun w hL0=>?_;refine A2 ?_;refine Al 9 QI (fun g0=>?_);refine A3 ?_;have hx0:l[0]? =some (l[0]'h0):=List.getElem?_eq_getElem h0;refine dK 0 rfl (bP.ne au h0) (fun hbs=>?_);obtain⟨gl,hgl⟩:=Option.isSome_iff_exists.1 hbs;replace hgl:lb=some gl:=hgl;subst hgl;refine A2 ?_;refine aJ 0 ((0)*38) u32 uj rfl rfl rfl rfl rfl ae ae (bP.ne au ae) Ag ?_;refine Fg ((0)*38) 20 ?_;refine aT (v:=RV (l[0]'h0).a) 0 ((0)*38+20) _ rfl rfl rfl rfl jk (bP.sub hx0 20 9 au) rfl au rfl ?_;refine Al 9 QI (fun g1=>?_);refine Ss 2 ?_;refine qX ?_;refine El (ι:={z:Nat×Rl // z.1<=l.length∧z.2=(l.take z.1).foldl (fun o x=>fM o (fM x.a x.b)) (l[0]'h0).a}) (fun⟨⟨i,m⟩,hi,hI⟩=>([(2,dA g0),(3,dA g1),(10,aB (some gl) 0 l.length lc),(11,bF (l.length)),(12,bF i)],[⟨some gl,63,ai bg l,lN,false⟩,⟨some g0,38,zRc,9,true⟩,⟨some g1,38,kQ m,9,true⟩],l.length-i)) ⟨⟨0,(l[0]'h0).a⟩,Nat.zero_le _,rfl⟩ ?_ (hL:=fE.auto);rintro⟨⟨i,m⟩,hi,hI⟩;(try dsimp only);replace hi:i<=l.length:=hi;replace hI:m=(l.take i).foldl (fun o x=>fM o (fM x.a x.b)) (l[0]'h0).a:=hI
 have hms:eU m<=50000:=(by rw[hI];exact qph (fun p hp=>hsz p (List.mem_of_mem_take hp)) (hsz _ (List.getElem_mem h0)).1);refine A6 ?_;refine Cd ?_ ?_<;>intro haQ
 ·have hlt:i<l.length:=iE;obtain⟨x,hx⟩:∃x,l[i]? =some x:=⟨l[i],List.getElem?_eq_getElem hlt⟩;have hxs:=hsz x (List.mem_of_getElem? hx);refine A6 ?_;refine qax ?_;refine aT (v:=Kt x) 0 ((i)*38) _ rfl rfl rfl rfl uj (bP.sub hx 0 38 au) rfl au rfl ?_;refine Al 38 z63 (fun g2=>?_);refine Ss 3 ?_;refine A2 ?_;refine Di [] ?_;refine L9 2 0 ?_;refine A1 ?_;refine L9 3 20 ?_;refine A1 ?_;refine L9 3 29 ?_;refine Pc (OU x.a x.b hxs.1 hxs.2) ?_;refine Pc (OU m (fM x.a x.b) hms (Ii hxs.1 hxs.2)) ?_;refine uo ?_;refine kM ?_;exact Nl ⟨⟨i+1,fM m (fM x.a x.b)⟩,hlt,by show _=(l.take (i+1)).foldl (fun o x=>fM o (fM x.a x.b)) _;rw[<-fH hx,List.foldl_append,<-hI];rfl⟩ (hμ:=nJ) (hL:=fE.auto)
 ·have hge:i=l.length:=iV;subst hge;obtain rfl:m=fB l:=by rw[hI,List.take_length];exact qaj h0
  exact qkN
end Go.Proofs.YtaffcpfhedadhaaGreatDoor
namespace Go.Proofs.YtaffcpfhedadhaaGreatDoor
open Go Go.RowKit Go.Via
def qrb(x y:PU)(ex:fO x.i.f∧fO x.i.t)(ey:fO y.i.f∧fO y.i.t)(hx:gV x.i<=50000)(hy:gV y.i<=50000)(g g' n n':Nat):bQ Tryz.prog 44 [⟨some g,61,aZ x.i,n,false⟩,⟨some g',61,aZ y.i,n',false⟩] [.int .i64 2,aB (some g) 0 1 1,aB (some g') 0 1 1] (SR (fC x.i y.i).toList.length) SR.v (fun z=>[⟨z.b,61,ai aZ (fC x.i y.i).toList,z.n,true⟩]):=by
 have h:=o5 2 [x.i] (some g) n 1 (Nat.le_refl _) qaz [y.i] (some g') n' 1 (Nat.le_refl _) qaz qb4 (by simpa using hy);rw[qeO ex ey] at h;have e:∀i:Iv,ai aZ [i]=aZ i:=fun i=>by simp[ai]
 rw[e,e] at h;exact h
end Go.Proofs.YtaffcpfhedadhaaGreatDoor
namespace Go.Via
open Go
def NoR(a b:List PU)(p:Iv)(i:Nat):Prop:=∀z∈jX a b i,rO z.1 p=false
def NoC(a b:List PU)(p:Iv)(i:Nat)(x:PU)(j:Nat):Prop:=∀z∈jX a b i++zi x b j,rO z.1 p=false
def qyp{a b:List PU}{p:Iv}:NoR a b p 0:=fun z hz=>by simp[jX] at hz
def qyq{a b:List PU}{p:Iv}{i:Nat}{x:PU}(h:NoR a b p i):NoC a b p i x 0:=fun z hz=>by rw[qcL] at hz;exact h z hz
def qyr{a b:List PU}{p:Iv}{i:Nat}{x:PU}(hx:a[i]? =some x)(h:NoC a b p i x b.length):NoR a b p (i+1):=fun z hz=>by rw[qcK hx] at hz;exact h z hz
def qwk{a b:List PU}{p:Iv}{i j:Nat}{x y:PU}(hy:b[j]? =some y)(hm:jP x y=none)(h:NoC a b p i x j):NoC a b p i x (j+1):=fun z hz=>by
 rw[UR hy,hm] at hz;exact h z VQ
def qwl{a b:List PU}{p:Iv}{i j:Nat}{x y:PU}{u:Iv×Qd}(hy:b[j]? =some y)(hm:jP x y=some u)(hc:rO u.1 p=false)(h:NoC a b p i x j):NoC a b p i x (j+1):=fun z hz=>by
 rw[UR hy,hm,<-List.append_assoc] at hz;rcases List.mem_append.1 hz with h1|h1
 ·exact h z h1
 ·rw[show z=u by simpa using h1];exact hc
def SE{α:Type}{f:α->Bool}{l:List α}(h:∀z∈l,f z=false):l.find? f=none:=List.find?_eq_none.2 fun z hz=>by rw[h z hz];decide
def qaB{a b:List PU}{p:iT}(h:NoR a b p.i a.length):oL (flatK jP a b) p=false:=by
 have e:flatK jP a b=jX a b a.length:=(by unfold jX flatK;rw[List.take_length]);have hn:(jX a b a.length).find? (fun x=>rO x.1 p.i)=none:=SE fun z hz=>h z hz
 unfold oL;rw[e,hn]
theorem Po{a b:List PU}{p:iT}{i j:Nat}{x y:PU}{z:Iv×Qd}(hx:a[i]? =some x)(hy:b[j]? =some y)(hz:jP x y=some z)(h:NoC a b p.i i x j)(hc:rO z.1 p.i=true):oL (flatK jP a b) p=decide (aW (p.i,z.2)=p):=by
 obtain⟨r,e⟩:=Io hx hy hz;have hn:(jX a b i++zi x b j).find? (fun x=>rO x.1 p.i)=none:=SE fun z hz=>h z hz
 have hf:(jX a b i++zi x b j++z::r).find? (fun x=>rO x.1 p.i)=some z:=by
  rw[List.find?_append,hn,Option.none_or,List.find?_cons,hc]
 unfold oL;rw[e,hf]
def qkU{p:iT}{q:Qd}:aW (p.i,q)=p↔p.a=zN q p.i.f∧p.b=zN q p.i.t:=by
 obtain⟨i,a,b⟩:=p;unfold aW;dsimp only
 constructor
 ·intro h;injection h with _ h1 h2;exact⟨h1.symm,h2.symm⟩
 ·rintro⟨rfl,rfl⟩;rfl
def qpp{a b:List PU}{p:iT}{i j:Nat}{x y:PU}{z:Iv×Qd}(hx:a[i]? =some x)(hy:b[j]? =some y)(hz:jP x y=some z)(h:NoC a b p.i i x j)(hc:rO z.1 p.i=true)(ha:p.a=zN z.2 p.i.f):decide (p.b=zN z.2 p.i.t)=oL (flatK jP a b) p:=by
 rw[Po hx hy hz h hc];exact decide_eq_decide.2 ⟨fun e=>qkU.2 ⟨ha,e⟩,fun e=>(qkU.1 e).2⟩
def qpq{a b:List PU}{p:iT}{i j:Nat}{x y:PU}{z:Iv×Qd}(hx:a[i]? =some x)(hy:b[j]? =some y)(hz:jP x y=some z)(h:NoC a b p.i i x j)(hc:rO z.1 p.i=true)(ha:p.a≠zN z.2 p.i.f):false=oL (flatK jP a b) p:=by
 rw[Po hx hy hz h hc];exact(decide_eq_false fun e=>ha (qkU.1 e).1).symm
def qt0{x m p:Iv}{l:List Iv}(hm:l=[m])(h:0<(dI (qI 3) [p] l).length):rO m p=false:=by
 subst hm;unfold rO;rw[<-qjX];cases hq:dI (qI 3) [p] [m]
 ·rw[hq] at h;exact absurd h bz
 ·rfl
def qpr{m p:Iv}{l:List Iv}(hm:l=[m])(h:(dI (qI 3) [p] l).length=0):rO m p=true:=by
 subst hm;unfold rO;rw[<-qjX,List.length_eq_zero_iff.1 h];rfl
end Go.Via
namespace Go.Proofs.YtaffcpfhedadhaaGreatDoor
open Go Go.RowKit Go.Via
def qps(p:Iv)(hp:gV p<=50000)(g n:Nat)(l:List Iv)(cb:Option Nat)(cN cc:Nat)(hcc:l.length<=cc)(hl:l.length<=1000)(hs:∀x∈l,gV x<=50000):bQ Tryz.prog 44 [⟨some g,61,aZ p,n,false⟩,⟨cb,61,ai aZ l,cN,false⟩] [.int .i64 3,aB (some g) 0 1 1,aB cb 0 l.length cc] (SR (dI (qI 3) [p] l).length) SR.v (fun z=>[⟨z.b,61,ai aZ (dI (qI 3) [p] l),z.n,true⟩]):=by
 have h:=o5 3 [p] (some g) n 1 (Nat.le_refl _) qaz l cb cN cc hcc hl (by simpa using hp) hs;have e:∀i:Iv,ai aZ [i]=aZ i:=fun i=>by simp[ai]
 rw[e] at h;exact h
end Go.Proofs.YtaffcpfhedadhaaGreatDoor
