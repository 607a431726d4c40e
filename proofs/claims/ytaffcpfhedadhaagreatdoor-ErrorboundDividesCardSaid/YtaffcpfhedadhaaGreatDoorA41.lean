/-
  Part 41 (chapter 32): lemmas, walks. Each theorem states its own conditions.
-/
import Derived.Lib.Repeat
import Derived.Test.YtaffcpfhedadhaaGreatDoorA39
set_option linter.all false
set_option maxRecDepth 20000
set_option maxHeartbeats 20000000
section
variable{P Q:Prop}{T:Type}{R:T->Prop}
def tZ(q:Q)(h:bI Q->P:=by intro q_;refine A2 ?_;refine Nt 12 ?_;refine UQ o.length u32 Hl rfl rfl rfl rfl (Nat.le_refl _) rfl rfl rfl ?_;refine A1 ?_;exact q_.qq):=h ⟨q⟩
def zN(q:Q)(h:bI Q->P:=by intro q_;refine A2 ?_;refine Nt 4 ?_;refine yg o.length u32 Hl rfl rfl rfl rfl ae ae rfl ?_;refine A1 ?_;exact q_.qq):=h ⟨q⟩
def qaZ(q:∀x,R x)(h:bI (∀x,R x)->P:=by intro q_;refine iJ (s:=38) (len:=0) 6 4 (aj aZ o) (fun r=>[_,_,_,_,_,_,⟨r.b,63,aj aZ o,r.n,true⟩]) u32 KW rfl rfl rfl rfl rfl rfl rfl rfl rfl rfl rfl (Nat.le_refl _) (Nat.le_refl _) hobs (List.take_of_length_le YL) (dH.length o) (dH.ones _) ae (fun _=>rfl) (fun r=>?_);exact q_.qq r):=h ⟨q⟩
def qma(q:Q)(h:bI Q->P:=by intro q_;refine L9 4 0 ?_;refine aG 3 ((out.length-1)*20) TG pz rfl rfl rfl rfl rfl ae ae (cO.ne ax ae) zx ?_;refine Fg ((out.length-1)*20) 9 ?_;refine rC rfl 3 ((out.length-1)*20+9) [_,_,_,_,_] (aj bT (out.set (out.length-1) ⟨j.f,t,j.fo,j.tp⟩)) rfl rfl rfl rfl ja rfl (by rw[Nat.ble_eq,cO.length];show(out.length-1)*20+9+9<=(out).length*20;(try simp only[List.length_set]);omega) rfl (cO.setf hj rfl ax) rfl ?_;refine aG 3 ((out.length-1)*20) TG pz rfl rfl rfl rfl rfl ae ae (cO.ne ax YF) zx ?_;refine Fg ((out.length-1)*20) 19 ?_;exact q_.qq):=h ⟨q⟩
def qhn(h:P:=by rw[Nat.ble_eq,cO.length];show(out.length-1)*20+19+1<=(out.set (out.length-1) ⟨j.f,t,j.fo,j.tp⟩).length*20;(try simp only[List.length_set]);omega):=h
def YK(h:P:=by show(fB (cu (a++b))).length-(i+1)<(fB (cu (a++b))).length-i;omega):=h
def YL(h:P:=by show(aj aZ o).length<=_;rw[dH.length];exact Nat.le_refl _):=h
end
namespace Go.Proofs.YtaffcpfhedadhaaGreatDoor
open Go Go.RowKit Go.Via
def JE(op:Int)(a:List Iv)(ab:Option Nat)(aN ac:Nat)(hac:a.length<=ac)(han:a.length<=1000)(b:List Iv)(bb:Option Nat)(bN bc:Nat)(hbc:b.length<=bc)(hbn:b.length<=1000)(hsa:∀x∈a,jM x<=50000)(hsb:∀x∈b,jM x<=50000):cZ Tryz.prog 44 [⟨ab,61,aj bT a,aN,false⟩,⟨bb,61,aj bT b,bN,false⟩] [.int .i64 op,aA ab 0 a.length ac,aA bb 0 b.length bc] (SR (jV (zW op) a b).length) SR.v (fun z=>[⟨z.b,61,aj bT (jV (zW op) a b),z.n,true⟩]):=by
 refine sB3 109 Tryz.func44 fun w hL0=>?_;refine A6 ?_;refine rF 0 rfl (fun hba=>?_);refine rF 1 rfl (fun hbb=>?_);have hoa:a.length=0∨∃g,ab=some g:=sV cO ax hba;have hob:b.length=0∨∃g,bb=some g:=sV cO ax hbb
 have hsab:∀x∈a++b,jM x<=50000:=fun x hx=>(List.mem_append.1 hx).elim (hsa x) (hsb x)
 refine A1 ?_;refine(Bl 0 []) (qmY) (fun g0=>?_);refine A1 ?_;refine iJ (s:=20) (len:=0) 2 0 (aj bT a) (fun r=>[_,_,⟨r.b,61,aj bT a,r.n,true⟩]) TG QX rfl rfl rfl rfl rfl rfl rfl rfl rfl rfl rfl (Nat.le_refl _) (Nat.le_refl _) hoa (List.take_of_length_le (by show(aj bT a).length<=_;rw[cO.length];exact Nat.le_refl _)) (cO.length a) (cO.ones _) ae (fun _=>rfl) (fun r=>?_);refine A1 ?_;refine(Qo (s:=20) (len:=0+a.length) 2 1 (aj bT b) (fun r2=>[_,_,⟨r2.b,61,aj bT a++aj bT b,r2.n,true⟩]) TG QX) (by exact(by rw[cO.length,Nat.zero_add])) r.h r.hn hob (by exact(List.take_of_length_le (by show(aj bT b).length<=_;rw[cO.length];exact Nat.le_refl _))) (cO.length b) (cO.ones _) (fun r2=>?_);obtain⟨rb2,rn2,rc2,rh2,rhn2⟩:=r2;refine aS 20 (aA rb2 0 (a++b).length rc2) rfl (by show aA rb2 0 (0+a.length+b.length) rc2=_;rw[List.length_append,Nat.zero_add]) ?_;refine jG [_] [2] rfl rfl rfl (Tc (a++b) rb2 rn2 rc2 (by simp at rh2 ⊢;omega) Iy hsab) ⟨⟨_,rfl,by rw[sS];exact su⟩,trivial⟩ rfl (.inr fun x b hb=>zq) (fun z=>?_);obtain⟨eb,eN,ec,hec⟩:=z;refine A4 ?_;have hes:∀y∈fB (cu (a++b)),fV y<=50000:=qas (p:=fun y=>fV y<=50000) (qat hsab);have hel:(fB (cu (a++b))).length<=4000:=by have:=SG (cu (a++b));rw[vM,List.length_append] at this;omega
 refine Rh ?_;refine El (ι:={z:Nat×List Iv×Bool×Option Nat×Nat×Nat // z.1<=(fB (cu (a++b))).length∧qG (fun t=>zW op (nT a t) (nT b t)) (fun t u=>zW op (nU a t u) (nU b t u)) ((fB (cu (a++b))).drop z.1) z.2.1 z.2.2.1=qG (fun t=>zW op (nT a t) (nT b t)) (fun t u=>zW op (nU a t u) (nU b t u)) (fB (cu (a++b))) [] false∧(z.2.2.1=true->0<z.2.1.length)∧z.2.1.length<=z.2.2.2.2.2∧z.2.2.2.2.2*20<=z.2.2.2.2.1∧z.2.1.length<=2*z.1}) (fun⟨⟨i,out,og,ob,oN,oc⟩,hi,hI,hne,h3,h4,hol⟩=>([(0,.int .i64 op),(1,aA ab 0 a.length ac),(2,aA bb 0 b.length bc),(7,aA eb 0 (fB (cu (a++b))).length ec),(8,aA ob 0 out.length oc),(9,.bool og),(10,bH i)],[⟨ab,61,aj bT a,aN,false⟩,⟨bb,61,aj bT b,bN,false⟩,⟨eb,38,aj jX (fB (cu (a++b))),eN,true⟩,⟨ob,61,aj bT out,oN,true⟩],(fB (cu (a++b))).length-i)) ⟨⟨0,[],false,none,0,0⟩,Nat.zero_le _,rfl,fun e=>(by cases e),Nat.le_refl _,bz,bz⟩ ?_ (hL:=(az [some 0,some 1,some 3,none] ⟨pR,pR,pR,⟨rfl,rfl,rfl⟩,trivial⟩ rfl rfl));rintro⟨⟨i,out,og,ob,oN,oc⟩,hi,hI,hne,h3,h4,hol⟩;(try dsimp only);replace hi:i<=(fB (cu (a++b))).length:=hi;replace hI:qG (fun t=>zW op (nT a t) (nT b t)) (fun t u=>zW op (nU a t u) (nU b t u)) ((fB (cu (a++b))).drop i) out og=qG (fun t=>zW op (nT a t) (nT b t)) (fun t u=>zW op (nU a t u) (nU b t u)) (fB (cu (a++b))) [] false:=hI;replace hne:og=true->0<out.length:=hne;replace h3:out.length<=oc:=h3;replace h4:oc*20<=oN:=h4;replace hol:out.length<=2*i:=hol;refine A9 ?_;refine Cd ?_ ?_<;>intro haQ
 ·have hlt:i<(fB (cu (a++b))).length:=iH;obtain⟨t,ht⟩:∃t,(fB (cu (a++b)))[i]? =some t:=⟨_,List.getElem?_eq_getElem hlt⟩;have hts:=hes t (List.mem_of_getElem? ht);obtain⟨h,hh⟩:∃h,zW op (nT a t) (nT b t)=h:=⟨_,rfl⟩;refine A8 ?_;refine aG 2 ((i)*9) CX ja rfl rfl rfl rfl rfl ae ae (iw.ne ax ae) Ii ?_;refine bu (v:=RV t) 2 ((i)*9) _ rfl rfl rfl rfl ja (iw.sub ht 0 9 ax) rfl ax rfl ?_;refine Al 9 II (fun g1=>?_);refine Ss 4 ?_;refine A3 ?_;refine Dp [] [0,1,2,4,5,3,6,7,8] ?_;refine A2 ?_;refine L9 4 0 ?_;refine A1 ?_;refine L9 4 0 ?_;refine(Sd [0]) (DN a ab aN ac hac han hsa t hts) ?_;refine(Sd [1]) (DN b bb bN bc hbc hbn hsb t hts) ?_;refine Pc (BC op _ _) ?_;refine aS 39 (.bool h) rfl (congrArg Value.bool hh) ?_;refine A7 ?_;refine(Aq ((out.length:Int)-1)) oO ?_;refine A3 ?_;refine rE (nt:=109) (X:={z:List Iv×Nat×Option Nat×Nat×Nat // z.1=kD out og h t∧z.2.1=z.1.length∧z.1.length<=z.2.2.2.2∧z.2.2.2.2*20<=z.2.2.2.1∧z.1.length<=out.length+1}) (fun⟨⟨o1,ln,b1,n1,c1⟩,ho1,hln,h31,h41,hl1⟩=>[(0,.int .i64 op),(1,aA ab 0 a.length ac),(2,aA bb 0 b.length bc),(7,aA eb 0 (fB (cu (a++b))).length ec),(8,aA b1 0 ln c1),(10,bH i),(11,bf g1),(12,.bool h)]) (fun⟨⟨o1,ln,b1,n1,c1⟩,ho1,hln,h31,h41,hl1⟩=>[⟨ab,61,aj bT a,aN,false⟩,⟨bb,61,aj bT b,bN,false⟩,⟨eb,38,aj jX (fB (cu (a++b))),eN,true⟩,⟨b1,61,aj bT o1,n1,true⟩,⟨some g1,38,jX t,9,true⟩]) ?_ ?_
  ·refine A5 ?_;refine Rs 45 ?_ ?_<;>intro hbQ
   ·have hog:og=true:=hbQ;refine A5 ?_;refine Cd ?_ ?_<;>intro hcQ
    ·have hhv:h=true:=hcQ;have hon:=hne hog;obtain⟨j,hj⟩:∃j,out[out.length-1]? =some j:=⟨_,List.getElem?_eq_getElem ae⟩;refine dQ 3 rfl (cO.ne ax ae) (fun hbs=>?_);obtain⟨go,hgo⟩:=Option.isSome_iff_exists.1 hbs;replace hgo:ob=some go:=hgo;subst hgo;refine A5 ?_;refine qma ?_;refine rC rfl 3 ((out.length-1)*20+19) [_,_,_,_,_] (aj bT ((out.set (out.length-1) ⟨j.f,t,j.fo,j.tp⟩).set (out.length-1) ⟨j.f,t,j.fo,false⟩)) rfl rfl rfl rfl ti4 rfl qhn rfl (cO.setf (show(out.set (out.length-1) ⟨j.f,t,j.fo,j.tp⟩)[out.length-1]? =some ⟨j.f,t,j.fo,j.tp⟩ by rw[List.getElem?_set_self ae]) rfl ax) rfl ?_;refine A3 ?_;exact Ni ⟨((out.set (out.length-1) ⟨j.f,t,j.fo,j.tp⟩).set (out.length-1) ⟨j.f,t,j.fo,false⟩,out.length,some go,oN,oc),by show(out.set (out.length-1) ⟨j.f,t,j.fo,j.tp⟩).set _ _=_;rw[qj8 hog hhv hj,List.set_set],bz,UB,h4,bz⟩ [0,1,2,3,4]
    ·have hhv:h=false:=hcQ;refine A6 ?_;refine Cd ?_ ?_<;>intro hdQ
     ·have hon:=hne hog;obtain⟨j,hj⟩:∃j,out[out.length-1]? =some j:=⟨_,List.getElem?_eq_getElem ae⟩;refine dQ 3 rfl (cO.ne ax ae) (fun hbs=>?_);obtain⟨go,hgo⟩:=Option.isSome_iff_exists.1 hbs;replace hgo:ob=some go:=hgo;subst hgo;refine A5 ?_;refine qma ?_;refine rC rfl 3 ((out.length-1)*20+19) [_,_,_,_,_] (aj bT ((out.set (out.length-1) ⟨j.f,t,j.fo,j.tp⟩).set (out.length-1) ⟨j.f,t,j.fo,true⟩)) rfl rfl rfl rfl ti4 rfl qhn rfl (cO.setf (show(out.set (out.length-1) ⟨j.f,t,j.fo,j.tp⟩)[out.length-1]? =some ⟨j.f,t,j.fo,j.tp⟩ by rw[List.getElem?_set_self ae]) rfl ax) rfl ?_;refine A3 ?_;exact Ni ⟨((out.set (out.length-1) ⟨j.f,t,j.fo,j.tp⟩).set (out.length-1) ⟨j.f,t,j.fo,true⟩,out.length,some go,oN,oc),by show(out.set (out.length-1) ⟨j.f,t,j.fo,j.tp⟩).set _ _=_;rw[qj9 hog hhv hj,List.set_set],bz,UB,h4,bz⟩ [0,1,2,3,4]
     ·exact absurd hdQ (by rw[hog];decide)
   ·have hog:og=false:=hbQ;refine nI ?_;refine Cd ?_ ?_<;>intro hcQ
    ·exact absurd hcQ (by rw[hog];decide)
    ·refine A6 ?_;refine Cd ?_ ?_<;>intro hdQ
     ·have hhv:h=true:=hdQ;refine A2 ?_;refine L9 4 0 ?_;refine L9 4 0 ?_;refine(Bu [(0,_),(1,_)]) (KT) ?_;refine(Bl 20 [(0,_)]) (lK) (fun g2=>?_);refine(Qa (s:=20) (len:=out.length) (n2:=1) 3 5 (fun r=>[_,_,_,⟨some r.g,61,aj bT out++bT (⟨t,t,false,false⟩),r.n,true⟩,_,_]) TG QX) (cO.length out) h3 h4 (cO.one (⟨t,t,false,false⟩)) (fun r=>?_);refine A4 ?_;exact FO ⟨(out++[⟨t,t,false,false⟩],out.length+1,some r.g,r.n,r.cap),by rw[qka hog hhv],bz,jB,r.hn,bz⟩ ⟨rfl,rfl,rfl,rfl,rfl,rfl,rfl,rfl,trivial⟩ (az [some 0,some 1,some 2,some 3,some 4] ⟨pR,pR,pR,⟨_,rfl,bg kz⟩,pR,trivial⟩ rfl rfl)
     ·have hhv:h=false:=hdQ;refine A3 ?_;exact Ni ⟨(out,out.length,ob,oN,oc),by rw[qkb hog hhv],rfl,h3,h4,Nat.le_succ _⟩ [0,1,2,3,4]
  rintro⟨⟨o1,ln,b1,n1,c1⟩,ho1,hln,h31,h41,hl1⟩;show At _ ⟨109,[(0,.int .i64 op),(1,aA ab 0 a.length ac),(2,aA bb 0 b.length bc),(7,aA eb 0 (fB (cu (a++b))).length ec),(8,aA b1 0 ln c1),(10,bH i),(11,bf g1),(12,.bool h)],[⟨ab,61,aj bT a,aN,false⟩,⟨bb,61,aj bT b,bN,false⟩,⟨eb,38,aj jX (fB (cu (a++b))),eN,true⟩,⟨b1,61,aj bT o1,n1,true⟩,⟨some g1,38,jX t,9,true⟩]⟩ _;replace hln:ln=o1.length:=hln;subst hln;replace ho1:o1=kD out og h t:=ho1;replace h31:o1.length<=c1:=h31;replace h41:c1*20<=n1:=h41;replace hl1:o1.length<=out.length+1:=hl1;refine A4 ?_;refine Ar (((i+1:Nat):Int)) ?_;refine A5 ?_;refine Cd ?_ ?_<;>intro hbQ
  ·have hend:i+1=(fB (cu (a++b))).length:=by have e:=eq_of_beq hbQ;omega
   obtain rfl:o1=jV (zW op) a b:=by rw[SH,<-hI,ho1];exact qcx ht hend hh
   refine A2 ?_;refine QL rfl ?_;refine qC ?_;refine aO rfl (au rfl) (fun w hL=>⟨⟨b1,n1,c1,h31⟩,?_,hL.pk [some 3]⟩);exact rfl
  ·have hmore:i+1<(fB (cu (a++b))).length:=by have e:=ne_of_beq_false hbQ;omega
   obtain⟨u,hu⟩:∃u,(fB (cu (a++b)))[i+1]? =some u:=⟨_,List.getElem?_eq_getElem hmore⟩;have hus:=hes u (List.mem_of_getElem? hu);obtain⟨w_,hw_⟩:∃w_,zW op (nU a t u) (nU b t u)=w_:=⟨_,rfl⟩;refine A6 ?_;refine Ar (((i+1:Nat):Int)) ?_;refine aG 2 ((i+1)*9) CX ja rfl rfl rfl rfl rfl ae ae (iw.ne ax ae) Ii ?_;refine bu (v:=RV u) 2 ((i+1)*9) _ rfl rfl rfl rfl ja (iw.sub hu 0 9 ax) rfl ax rfl ?_;refine Al 9 II (fun g2=>?_);refine Ss 5 ?_;refine A3 ?_;refine Dp [] [0,1,2,3,5,6,7,4,8,9,10] ?_;refine A2 ?_;refine L9 4 0 ?_;refine L9 5 0 ?_;refine A1 ?_;refine L9 4 0 ?_;refine L9 5 0 ?_;refine(Sd [0]) (DR a ab aN ac hac han hsa t u hts hus) ?_;refine(Sd [1]) (DR b bb bN bc hbc hbn hsb t u hts hus) ?_;refine Pc (BC op _ _) ?_;refine aS 95 (.bool w_) rfl (congrArg Value.bool hw_) ?_;refine A8 ?_;refine Rs 97 ?_ ?_<;>intro hcQ
   ·have hwv:w_=true:=hcQ;refine A5 ?_;refine Cd ?_ ?_<;>intro hdQ
    ·have hhv2:h=false:=BK
     refine A2 ?_;refine L9 4 0 ?_;refine L9 5 0 ?_;refine(Bu [(0,_),(1,_),(2,_),(3,_)]) (KU) ?_;refine(Bl 20 [(0,_)]) (lK) (fun g3=>?_);refine(Qa (s:=20) (len:=o1.length) (n2:=1) 3 6 (fun r=>[_,_,_,⟨some r.g,61,aj bT o1++bT (⟨t,u,true,true⟩),r.n,true⟩,_,_,_]) TG QX) (cO.length o1) h31 h41 (cO.one (⟨t,u,true,true⟩)) (fun r=>?_);refine qC ?_;refine dP ?_;exact Nl ⟨⟨i+1,o1++[⟨t,u,true,true⟩],true,some r.g,r.n,r.cap⟩,hlt,(qgf ht hu hh hw_ hwv hhv2 ho1).symm.trans hI,fun _=>bz,jB,r.hn,by show(o1++_).length<=2*(i+1);rw[List.length_append];simp;omega⟩ (hμ:=YK) (ht:=⟨rfl,rfl,rfl,rfl,(aQ rfl jO),(aQ rfl (congrArg Value.bool hwv)),rfl,trivial⟩) (hL:=(az [some 0,some 1,some 2,some 3] ⟨pR,pR,pR,⟨_,rfl,bg kz⟩,trivial⟩ rfl rfl))
    ·have hhv2:h=true:=BK
     refine lW ?_;refine dP ?_;exact Nl ⟨⟨i+1,o1,true,b1,n1,c1⟩,hlt,(qj6 ht hu hh hw_ hwv hhv2 ho1).symm.trans hI,fun _=>by show 0<o1.length;rw[ho1,hhv2];exact(qgg out og t).resolve_left fun e=>by have:=hne e.1;rw[e.2] at this;simp at this,h31,h41,by show o1.length<=2*(i+1);omega⟩ (hμ:=YK) (ht:=⟨rfl,rfl,rfl,rfl,rfl,(aQ rfl (congrArg Value.bool hwv)),rfl,trivial⟩) (hL:=fF.auto)
   ·have hwv:w_=false:=hcQ;refine Rh ?_;refine dP ?_;exact Nl ⟨⟨i+1,o1,false,b1,n1,c1⟩,hlt,(qj7 ht hu hh hw_ hwv ho1).symm.trans hI,fun e=>(by cases e),h31,h41,by show o1.length<=2*(i+1);omega⟩ (hμ:=YK) (ht:=⟨rfl,rfl,rfl,rfl,rfl,(aQ rfl (congrArg Value.bool hwv)),rfl,trivial⟩) (hL:=fF.auto)
 ·have hge:i=(fB (cu (a++b))).length:=iK;subst hge;obtain rfl:out=jV (zW op) a b:=by rw[SH,<-hI,List.drop_length];rfl
  refine nI ?_;refine aO rfl (au rfl) (fun w hL=>⟨⟨ob,oN,oc,h3⟩,?_,hL.pk [some 3]⟩);exact rfl
end Go.Proofs.YtaffcpfhedadhaaGreatDoor
namespace Go.Proofs.YtaffcpfhedadhaaGreatDoor
open Go Go.RowKit Go.Via
def qqK(x y:PU)(ex:gq x.i.f∧gq x.i.t)(ey:gq y.i.f∧gq y.i.t)(hx:jM x.i<=50000)(hy:jM y.i<=50000)(g g' n n':Nat):cZ Tryz.prog 44 [⟨some g,61,bT x.i,n,false⟩,⟨some g',61,bT y.i,n',false⟩] [.int .i64 2,aA (some g) 0 1 1,aA (some g') 0 1 1] (SR (iV x.i y.i).toList.length) SR.v (fun z=>[⟨z.b,61,aj bT (iV x.i y.i).toList,z.n,true⟩]):=by
 have h:=JE 2 [x.i] (some g) n 1 (Nat.le_refl _) (by show 1<=1000;omega) [y.i] (some g') n' 1 (Nat.le_refl _) (by show 1<=1000;omega) (by simpa using hx) (by simpa using hy);rw[qcB ex ey] at h;have e:∀i:Iv,aj bT [i]=bT i:=fun i=>by simp[aj]
 rw[e,e] at h;exact h
def OM(a:List PU)(ab:Option Nat)(aN ac:Nat)(hac:a.length<=ac)(han:a.length<=400)(b:List PU)(bb:Option Nat)(bN bc:Nat)(hbc:b.length<=bc)(hbn:b.length<=400)(hsa:GX a)(hsb:GX b)(H:GL a b):cZ Tryz.prog 15 [⟨ab,100,aj aP a,aN,false⟩,⟨bb,100,aj aP b,bN,false⟩] [aA ab 0 a.length ac,aA bb 0 b.length bc] (SR ((ag a b).map ay).length) (fun z=>BD z.v (bG ((ag a b).map ay))) (fun z=>[⟨z.b,63,aj aZ ((ag a b).map ay),z.n,true⟩]):=by
 refine⟨ak,fun w hL0=>?_⟩;have hpl:=uD a b;refine cB2 109 Tryz.func15 hL0 ?_;refine A2 ?_;refine Al 10 vV (fun g0=>?_);refine A4 ?_;refine Al 10 vV (fun g1=>?_);refine A9 ?_;refine El (ι:={z:Nat×List lM×Option Nat×Nat×Nat // z.1<=a.length∧z.2.1=(pg a b z.1).map ay∧z.2.1.length<=z.2.2.2.2∧z.2.2.2.2*38<=z.2.2.2.1}) (fun⟨⟨i,o,ob,oN,oc⟩,hi,hI,h3,h4⟩=>([(0,aA ab 0 a.length ac),(1,aA bb 0 b.length bc),(4,bf g0),(5,bf g1),(6,bH i)],[⟨ab,100,aj aP a,aN,false⟩,⟨bb,100,aj aP b,bN,false⟩,⟨some g0,40,iY,10,true⟩,⟨some g1,40,iE (aA ob 0 o.length oc) (rl 0),10,true⟩,⟨ob,63,aj aZ o,oN,true⟩],a.length-i)) ⟨⟨0,[],none,0,0⟩,Nat.zero_le _,rfl,Nat.le_refl _,bz⟩ ?_ (hL:=(az [some 0,some 1,some 2,some 3,none] ⟨pR,pR,pR,⟨_,rfl,bg (by rw[qgB];rfl)⟩,⟨rfl,rfl,rfl⟩,trivial⟩ rfl rfl));rintro⟨⟨i,o,ob,oN,oc⟩,hi,hI,h3,h4⟩;(try dsimp only);replace hi:i<=a.length:=hi;replace hI:o=(pg a b i).map ay:=hI;replace h3:o.length<=oc:=h3;replace h4:oc*38<=oN:=h4;refine A9 ?_;refine Cd ?_ ?_<;>intro haQ
 ·have hlt:i<a.length:=iH;obtain⟨x,hx⟩:∃x,a[i]? =some x:=⟨a[i],List.getElem?_eq_getElem hlt⟩;have hxm:=List.mem_of_getElem? hx;have hxs:=hsa x hxm;have hxe:=H.ea x hxm;refine lW ?_;refine El (ι:={z:Nat×List lM×Option Nat×Nat×Nat // z.1<=b.length∧z.2.1=(pg a b i++BF x b z.1).map ay∧z.2.1.length<=z.2.2.2.2∧z.2.2.2.2*38<=z.2.2.2.1}) (fun⟨⟨j,o,ob,oN,oc⟩,hj,hI0,h30,h40⟩=>([(0,aA ab 0 a.length ac),(1,aA bb 0 b.length bc),(4,bf g0),(5,bf g1),(6,bH i),(7,bH j)],[⟨ab,100,aj aP a,aN,false⟩,⟨bb,100,aj aP b,bN,false⟩,⟨some g0,40,iY,10,true⟩,⟨some g1,40,iE (aA ob 0 o.length oc) (rl 0),10,true⟩,⟨ob,63,aj aZ o,oN,true⟩],b.length-j)) ⟨⟨0,o,ob,oN,oc⟩,Nat.zero_le _,by show o=(pg a b i++BF x b 0).map ay;rw[qkh];exact hI,h3,h4⟩ ?_ (hL:=fF.auto);rintro⟨⟨j,o,ob,oN,oc⟩,hj,hI0,h30,h40⟩;(try dsimp only);replace hj:j<=b.length:=hj;have hI:o=(pg a b i++BF x b j).map ay:=hI0;have h3:o.length<=oc:=h30;have h4:oc*38<=oN:=h40;refine A9 ?_;refine Cd ?_ ?_<;>intro hbQ
  ·have hjt:j<b.length:=lu;obtain⟨y,hy⟩:∃y,b[j]? =some y:=⟨b[j],List.getElem?_eq_getElem hjt⟩;have hym:=List.mem_of_getElem? hy;have hys:=hsb y hym;have hye:=H.eb y hym;refine dQ 0 rfl (aY.ne ax ae) (fun hbs=>?_);obtain⟨ga,hga⟩:=Option.isSome_iff_exists.1 hbs;replace hga:ab=some ga:=hga;subst hga;refine dQ 1 rfl (aY.ne ax ae) (fun hbs=>?_);obtain⟨gb,hgb⟩:=Option.isSome_iff_exists.1 hbs;replace hgb:bb=some gb:=hgb;subst hgb;refine A5 ?_;let sX:List (Nat×Value)->List (Nat×Value):=fun l=>(0,aA (some ga) 0 a.length ac)::(1,aA (some gb) 0 b.length bc)::(4,bf g0)::(5,bf g1)::(6,bH i)::(7,bH j)::l;let sY:List aH->List aH:=fun l=>⟨some ga,100,aj aP a,aN,false⟩::⟨some gb,100,aj aP b,bN,false⟩::⟨some g0,40,iY,10,true⟩::⟨some g1,40,iE (aA ob 0 o.length oc) (rl 0),10,true⟩::⟨ob,63,aj aZ o,oN,true⟩::l;refine uy (nt:=109) (Z:=Nat×Nat×(SR (iV x.i y.i).toList.length)) (fun⟨gx,gy,⟨cb,cN,cc,hcc⟩⟩=>sX [(8,aA cb 0 (iV x.i y.i).toList.length cc)]) (fun⟨gx,gy,⟨cb,cN,cc,hcc⟩⟩=>sY [⟨some gx,61,bT x.i,20,true⟩,⟨some gy,61,bT y.i,20,true⟩,⟨cb,61,aj bT (iV x.i y.i).toList,cN,true⟩]) 14 [0,1,2,3,4,5,6,7,8,9,10,11,12,13] mixed ak (fun hd0=>?_) ?_
   ·refine aC (nt:=109) (Z:=Nat×Nat×(SR (iV x.i y.i).toList.length)) (fun⟨gx,gy,⟨cb,cN,cc,hcc⟩⟩=>sX [(36,aA cb 0 (iV x.i y.i).toList.length cc)]) (fun⟨gx,gy,⟨cb,cN,cc,hcc⟩⟩=>sY [⟨some gx,61,bT x.i,20,true⟩,⟨some gy,61,bT y.i,20,true⟩,⟨cb,61,aj bT (iV x.i y.i).toList,cN,true⟩]) 1 [13] (fun z=>?_) (fun hd1=>?_)
    ·obtain⟨gx,gy,⟨cb,cN,cc,hcc⟩⟩:=z;(try dsimp only);refine x9 13 ?_
     ·refine A2 ?_;exact Nw hd0 ⟨gx,gy,⟨cb,cN,cc,hcc⟩⟩ [0,1,2,3,4,5,6,7]
    refine aC (nt:=109) (Z:=Nat×Nat) (fun⟨gx,gy⟩=>sX [(29,aA (some gx) 0 1 1),(35,aA (some gy) 0 1 1)]) (fun⟨gx,gy⟩=>sY [⟨some gx,61,bT x.i,20,true⟩,⟨some gy,61,bT y.i,20,true⟩]) 2 [12,13] (fun z=>?_) (fun hd2=>?_)
    ·obtain⟨gx,gy⟩:=z;(try dsimp only);refine x9 12 ?_
     ·refine jG [_,_,_] [5,6] rfl rfl rfl (qqK x y hxe hye ae ae gx gy _ _) ⟨pS,pS,trivial⟩ rfl (.inr fun x b hb=>zq) (fun zc=>?_);obtain⟨cb,cN,cc,hcc⟩:=zc;refine A1 ?_;exact Nw hd1 ⟨gx,gy,⟨cb,cN,cc,hcc⟩⟩ [0,1,2,3,4,5,6,7]
    refine aC (nt:=109) (Z:=Nat) (fun gy=>sX [(28,nJ x.i),(35,aA (some gy) 0 1 1)]) (fun gy=>sY [⟨some gy,61,bT y.i,20,true⟩]) 3 [5,12,13] (fun gy=>?_) (fun hd3=>?_)
    ·(try dsimp only);refine x9 5 ?_
     ·refine(Bl 20 [(0,_)]) (lK) (fun g3=>?_);refine A1 ?_;exact Nw hd2 ⟨g3,gy⟩ [0,1,2,3,4,6,5]
    refine aC (nt:=109) (Z:=Nat) (fun gx=>sX [(29,aA (some gx) 0 1 1),(34,nJ y.i)]) (fun gx=>sY [⟨some gx,61,bT x.i,20,true⟩]) 3 [11,12,13] (fun gx=>?_) (fun hd4=>?_)
    ·(try dsimp only);refine x9 11 ?_
     ·refine(Bl 20 [(0,_)]) (lK) (fun g3=>?_);refine A1 ?_;exact Nw hd2 ⟨gx,g3⟩ [0,1,2,3,4,5,6]
    refine aC (nt:=109) (Z:=Nat) (fun gy=>sX [(27,.pointer (some ⟨ga,(i)*36,none⟩)),(35,aA (some gy) 0 1 1)]) (fun gy=>sY [⟨some gy,61,bT y.i,20,true⟩]) 4 [4,5,12,13] (fun gy=>?_) (fun hd5=>?_)
    ·(try dsimp only);refine x9 4 ?_
     ·refine ED ?_;refine A1 ?_;exact Nw hd3 gy [0,1,2,3,4,5]
    refine aC (nt:=109) (Z:=Unit) (fun _=>sX [(28,nJ x.i),(34,nJ y.i)]) (fun _=>sY []) 4 [5,11,12,13] (fun z=>?_) (fun hd6=>?_)
    ·(try dsimp only);refine aI [5,11] ak rfl ⟨⟨_,rfl,?_⟩,⟨_,rfl,?_⟩,trivial⟩
     ·refine(Bl 20 [(0,_)]) (lK) (fun g2=>?_);refine A1 ?_;exact Nw hd4 g2 [0,1,2,3,4,5]
     ·refine(Bl 20 [(0,_)]) (lK) (fun g2=>?_);refine A1 ?_;exact Nw hd3 g2 [0,1,2,3,4,5]
    refine aC (nt:=109) (Z:=Nat) (fun gx=>sX [(29,aA (some gx) 0 1 1),(33,.pointer (some ⟨gb,(j)*36,none⟩))]) (fun gx=>sY [⟨some gx,61,bT x.i,20,true⟩]) 4 [10,11,12,13] (fun gx=>?_) (fun hd7=>?_)
    ·(try dsimp only);refine x9 10 ?_
     ·refine Ny ?_;refine A1 ?_;exact Nw hd4 gx [0,1,2,3,4,5]
    refine aC (nt:=109) (Z:=Unit) (fun _=>sX [(27,.pointer (some ⟨ga,(i)*36,none⟩)),(34,nJ y.i)]) (fun _=>sY []) 5 [4,5,11,12,13] (fun z=>?_) (fun hd8=>?_)
    ·(try dsimp only);refine aI [4,11] ak rfl ⟨⟨_,rfl,?_⟩,⟨_,rfl,?_⟩,trivial⟩
     ·refine ED ?_;refine A1 ?_;exact Nw hd6 () [0,1,2,3,4]
     ·refine(Bl 20 [(0,_)]) (lK) (fun g2=>?_);refine A1 ?_;exact Nw hd5 g2 [0,1,2,3,4,5]
    refine aC (nt:=109) (Z:=Unit) (fun _=>sX [(28,nJ x.i),(33,.pointer (some ⟨gb,(j)*36,none⟩))]) (fun _=>sY []) 5 [5,10,11,12,13] (fun z=>?_) (fun hd9=>?_)
    ·(try dsimp only);refine aI [5,10] ak rfl ⟨⟨_,rfl,?_⟩,⟨_,rfl,?_⟩,trivial⟩
     ·refine(Bl 20 [(0,_)]) (lK) (fun g2=>?_);refine A1 ?_;exact Nw hd7 g2 [0,1,2,3,4,5]
     ·refine Ny ?_;refine A1 ?_;exact Nw hd6 () [0,1,2,3,4]
    refine aC (nt:=109) (Z:=Nat) (fun gy=>sX [(24,aA (some ga) 0 a.length ac),(25,bH i),(35,aA (some gy) 0 1 1)]) (fun gy=>sY [⟨some gy,61,bT y.i,20,true⟩]) 6 [2,3,4,5,12,13] (fun gy=>?_) (fun hd10=>?_)
    ·(try dsimp only);refine x9 2 ?_
     ·refine DK ?_;refine A1 ?_;refine Nt 3 ?_;refine Fg ((i)*36) 0 ?_;refine A1 ?_;exact Nw hd5 gy [0,1,2,3,4,5]
    refine aC (nt:=109) (Z:=Unit) (fun _=>sX [(27,.pointer (some ⟨ga,(i)*36,none⟩)),(33,.pointer (some ⟨gb,(j)*36,none⟩))]) (fun _=>sY []) 6 [4,5,10,11,12,13] (fun z=>?_) (fun hd11=>?_)
    ·(try dsimp only);refine aI [4,10] ak rfl ⟨⟨_,rfl,?_⟩,⟨_,rfl,?_⟩,trivial⟩
     ·refine ED ?_;refine A1 ?_;exact Nw hd9 () [0,1,2,3,4]
     ·refine Ny ?_;refine A1 ?_;exact Nw hd8 () [0,1,2,3,4]
    refine aC (nt:=109) (Z:=Nat) (fun gx=>sX [(29,aA (some gx) 0 1 1),(30,aA (some gb) 0 b.length bc),(31,bH j)]) (fun gx=>sY [⟨some gx,61,bT x.i,20,true⟩]) 6 [8,9,10,11,12,13] (fun gx=>?_) (fun hd12=>?_)
    ·(try dsimp only);refine x9 8 ?_
     ·refine Nq ?_;refine A1 ?_;refine Nt 9 ?_;refine Fg ((j)*36) 0 ?_;refine A1 ?_;exact Nw hd7 gx [0,1,2,3,4,5]
    refine aC (nt:=109) (Z:=Unit) (fun _=>sX [(24,aA (some ga) 0 a.length ac),(25,bH i),(34,nJ y.i)]) (fun _=>sY []) 7 [2,3,4,5,11,12,13] (fun z=>?_) (fun hd13=>?_)
    ·(try dsimp only);refine aI [2,11] ak rfl ⟨⟨_,rfl,?_⟩,⟨_,rfl,?_⟩,trivial⟩
     ·refine DK ?_;refine A1 ?_;refine Nt 3 ?_;refine Fg ((i)*36) 0 ?_;refine A1 ?_;exact Nw hd8 () [0,1,2,3,4]
     ·refine(Bl 20 [(0,_)]) (lK) (fun g2=>?_);refine A1 ?_;exact Nw hd10 g2 [0,1,2,3,4,5]
    refine aC (nt:=109) (Z:=Unit) (fun _=>sX [(28,nJ x.i),(30,aA (some gb) 0 b.length bc),(31,bH j)]) (fun _=>sY []) 7 [5,8,9,10,11,12,13] (fun z=>?_) (fun hd14=>?_)
    ·(try dsimp only);refine aI [5,8] ak rfl ⟨⟨_,rfl,?_⟩,⟨_,rfl,?_⟩,trivial⟩
     ·refine(Bl 20 [(0,_)]) (lK) (fun g2=>?_);refine A1 ?_;exact Nw hd12 g2 [0,1,2,3,4,5]
     ·refine Nq ?_;refine A1 ?_;refine Nt 9 ?_;refine Fg ((j)*36) 0 ?_;refine A1 ?_;exact Nw hd9 () [0,1,2,3,4]
    refine aC (nt:=109) (Z:=Unit) (fun _=>sX [(24,aA (some ga) 0 a.length ac),(25,bH i),(33,.pointer (some ⟨gb,(j)*36,none⟩))]) (fun _=>sY []) 8 [2,3,4,5,10,11,12,13] (fun z=>?_) (fun hd15=>?_)
    ·(try dsimp only);refine aI [2,10] ak rfl ⟨⟨_,rfl,?_⟩,⟨_,rfl,?_⟩,trivial⟩
     ·refine DK ?_;refine A1 ?_;refine Nt 3 ?_;refine Fg ((i)*36) 0 ?_;refine A1 ?_;exact Nw hd11 () [0,1,2,3,4]
     ·refine Ny ?_;refine A1 ?_;exact Nw hd13 () [0,1,2,3,4]
    refine aC (nt:=109) (Z:=Unit) (fun _=>sX [(27,.pointer (some ⟨ga,(i)*36,none⟩)),(30,aA (some gb) 0 b.length bc),(31,bH j)]) (fun _=>sY []) 8 [4,5,8,9,10,11,12,13] (fun z=>?_) (fun hd16=>?_)
    ·(try dsimp only);refine aI [4,8] ak rfl ⟨⟨_,rfl,?_⟩,⟨_,rfl,?_⟩,trivial⟩
     ·refine ED ?_;refine A1 ?_;exact Nw hd14 () [0,1,2,3,4]
     ·refine Nq ?_;refine A1 ?_;refine Nt 9 ?_;refine Fg ((j)*36) 0 ?_;refine A1 ?_;exact Nw hd11 () [0,1,2,3,4]
    refine Nt 0 ?_;refine A2 ?_;refine Nt 1 ?_;refine A2 ?_;refine Nt 6 ?_;refine A2 ?_;refine Nt 7 ?_;refine A2 ?_;refine aI [2,8] ak rfl ⟨⟨_,rfl,?_⟩,⟨_,rfl,?_⟩,trivial⟩
    ·refine DK ?_;refine A1 ?_;refine Nt 3 ?_;refine Fg ((i)*36) 0 ?_;refine A1 ?_;exact Nw hd16 () [0,1,2,3,4]
    ·refine Nq ?_;refine A1 ?_;refine Nt 9 ?_;refine Fg ((j)*36) 0 ?_;refine A1 ?_;exact Nw hd15 () [0,1,2,3,4]
   rintro⟨gx,gy,⟨cb,cN,cc,hcc⟩⟩;show At _ ⟨109,[(0,aA (some ga) 0 a.length ac),(1,aA (some gb) 0 b.length bc),(4,bf g0),(5,bf g1),(6,bH i),(7,bH j),(8,aA cb 0 (iV x.i y.i).toList.length cc)],[⟨some ga,100,aj aP a,aN,false⟩,⟨some gb,100,aj aP b,bN,false⟩,⟨some g0,40,iY,10,true⟩,⟨some g1,40,iE (aA ob 0 o.length oc) (rl 0),10,true⟩,⟨ob,63,aj aZ o,oN,true⟩,⟨some gx,61,bT x.i,20,true⟩,⟨some gy,61,bT y.i,20,true⟩,⟨cb,61,aj bT (iV x.i y.i).toList,cN,true⟩]⟩ _;refine A9 ?_;refine Cd ?_ ?_<;>intro hcQ
   ·have hm:iV x.i y.i=none:=by rcases hq:iV x.i y.i with _|m;rfl;(have e:=hcQ;rw[hq] at e;simp at e)
    refine A6 ?_;refine Ar (((j+1:Nat):Int)) ?_;refine A3 ?_;exact Nl ⟨⟨j+1,o,ob,oN,oc⟩,hjt,by show o=(pg a b i++BF x b (j+1)).map ay;rw[qgC hy,qom hm];simpa using hI,h3,h4⟩ (hμ:=S9) (hL:=fF.auto)
   ·obtain⟨m,hm⟩:∃m,iV x.i y.i=some m:=by rcases hq:iV x.i y.i with _|m;(exfalso;have e:=hcQ;rw[hq] at e;simp at e);exact⟨m,rfl⟩
    have hm0:(iV x.i y.i).toList[0]? =some m:=(by rw[hm];rfl);have hm1:0<(iV x.i y.i).toList.length:=(by rw[hm];exact Nat.one_pos);have hz:=qol hm;have hpm:=qki H hx hy hz;have hps:=yH hsa hsb _ hpm;have hpe:=Qs H.ea H.eb _ hpm;have hol:=qgF H hx hy hz;replace hol:o.length<a.length+b.length:=(by rw[hI,List.length_map];exact hol);have l1:=jD m;have l2:=jE m;replace hps:jM m<=100∧uC (d2 x.f y.f)<=820:=hps;refine dQ 7 rfl (cO.ne ax hm1) (fun hbs=>?_);obtain⟨gc,hgc⟩:=Option.isSome_iff_exists.1 hbs;replace hgc:cb=some gc:=hgc;subst hgc;refine rF 4 rfl (fun hbase=>?_);have hobs:o.length=0∨∃g,ob=some g:=sV dH ax hbase;refine A3 ?_;refine Dq [3000000] [0,1,2,3,4,5,6,7,8,9,10,11,12] ?_;refine A2 ?_;refine DK ?_;refine Nv ?_;refine A2 ?_;refine Nq ?_;refine Fg ((j)*36) 20 ?_;refine bu (v:=zk y.f) 1 ((j)*36+20) _ rfl rfl rfl rfl Jg (aY.sub hy 20 16 ax) rfl ax rfl ?_;refine Pc (xe x.f y.f) ?_;refine Al 12 IJ (fun g2=>?_);refine Ss 8 ?_;refine A3 ?_;refine Dq [3000000] [0,1,2,3,4,5,6,7,9,10,11,12,13,8,14,15,16,17] ?_;refine A1 ?_;refine aG 7 ((0)*20) TG pz rfl rfl rfl rfl rfl ae ae (cO.ne ax ae) zx ?_;refine bu (v:=nJ m) 7 ((0)*20) _ rfl rfl rfl rfl pz (cO.sub hm0 0 20 ax) rfl ax rfl ?_;refine vZ 8 0 ?_;refine A1 ?_;refine aG 7 ((0)*20) TG pz rfl rfl rfl rfl rfl ae ae (cO.ne ax ae) zx ?_;refine Fg ((0)*20) 0 ?_;refine bu (v:=RV m.f) 7 ((0)*20+0) _ rfl rfl rfl rfl ja (cO.sub hm0 0 9 ax) rfl ax rfl ?_;refine vZ 8 0 ?_;refine A1 ?_;refine aG 7 ((0)*20) TG pz rfl rfl rfl rfl rfl ae ae (cO.ne ax ae) zx ?_;refine Fg ((0)*20) 9 ?_;refine bu (v:=RV m.t) 7 ((0)*20+9) _ rfl rfl rfl rfl ja (cO.sub hm0 9 9 ax) rfl ax rfl ?_;refine Pc (EC (d2 x.f y.f) m.f (okZ hpe.1)) ?_;refine Pc (EC (d2 x.f y.f) m.t (okZ hpe.2)) ?_;refine(Bu [(0,_),(1,_),(2,_)]) (WV) ?_;refine Al 38 Ou (fun g3=>?_);refine Ss 9 ?_;refine lW ?_;refine Q9 (nt:=109) [(0,aA (some ga) 0 a.length ac),(1,aA (some gb) 0 b.length bc),(4,bf g0),(5,bf g1),(6,bH i),(7,bH j),(10,bf g3),(11,bH (o.length))] [⟨some ga,100,aj aP a,aN,false⟩,⟨some gb,100,aj aP b,bN,false⟩,⟨some g0,40,iY,10,true⟩,⟨some g1,40,iE (aA ob 0 o.length oc) (rl 0),10,true⟩,⟨ob,63,aj aZ o,oN,true⟩,⟨some g3,63,aZ (ay (m,d2 x.f y.f)),38,true⟩] ?_ ?_
    ·refine A1 ?_;refine El (ι:={u:Unit // True}) (fun⟨u,_⟩=>([(0,aA (some ga) 0 a.length ac),(1,aA (some gb) 0 b.length bc),(4,bf g0),(5,bf g1),(6,bH i),(7,bH j),(10,bf g3),(11,bH (o.length))],[⟨some ga,100,aj aP a,aN,false⟩,⟨some gb,100,aj aP b,bN,false⟩,⟨some g0,40,iY,10,true⟩,⟨some g1,40,iE (aA ob 0 o.length oc) (rl 0),10,true⟩,⟨ob,63,aj aZ o,oN,true⟩,⟨some g3,63,aZ (ay (m,d2 x.f y.f)),38,true⟩],0)) ⟨(),trivial⟩ ?_ (hL:=(wM [some 0,some 1,some 2,some 3,some 4,some 9]));rintro⟨u,_⟩;(try dsimp only);refine A2 ?_;refine Di [] ?_;refine A3 ?_;refine Rs 72 ?_ ?_<;>intro hdQ
     ·have hop:0<o.length:=uX;obtain⟨p,hp⟩:∃p,o[o.length-1]? =some p:=⟨_,List.getElem?_eq_getElem ae⟩;obtain⟨go,hgo⟩:=hobs.resolve_left ae;subst hgo;have hpq:=List.mem_of_getElem? hp;rw[hI] at hpq;obtain⟨q,hq,hqp⟩:=List.mem_map.1 hpq;have hord:¬aV m.f p.i.f<0:=by rw[<-hqp];exact qgD H hx hy hz hq
      have hqs:=(yH hsa hsb _ (qgE H hx hy hz hq)).1;have hqf:fV p.i.f<=100:=(by rw[<-hqp];exact Nat.le_trans (jD q.1) hqs);refine A2 ?_;refine L9 5 0 ?_;refine A3 ?_;refine(Aq ((o.length:Int)-1)) oO ?_;refine aG 4 ((o.length-1)*38) u32 Hl rfl rfl rfl rfl rfl ae ae (dH.ne ax ae) EE ?_;refine Fg ((o.length-1)*38) 0 ?_;refine Fg ((o.length-1)*38+0) 0 ?_;refine bu (v:=RV p.i.f) 4 ((o.length-1)*38+0+0) _ rfl rfl rfl rfl ja (dH.sub hp 0 9 ax) rfl ax rfl ?_;refine Pc (eU m.f p.i.f) ?_;refine A4 ?_;refine Cd ?_ ?_<;>intro heQ
      ·exact absurd (of_decide_eq_true heQ) hord
      ·refine A5 ?_;exact rD ⟨rfl,rfl,rfl,rfl,rfl,rfl,rfl,rfl,trivial⟩ (wM [some 0,some 1,some 2,some 3,some 4,some 5])
     ·refine A22 ?_;exact rD ⟨rfl,rfl,rfl,rfl,rfl,rfl,rfl,rfl,trivial⟩ (wM [some 0,some 1,some 2,some 3,some 4,some 5])
    let sX:List (Nat×Value)->List (Nat×Value):=fun l=>(0,aA (some ga) 0 a.length ac)::(1,aA (some gb) 0 b.length bc)::(4,bf g0)::(5,bf g1)::(6,bH i)::(7,bH j)::l;let sY:List aH->List aH:=fun l=>⟨some ga,100,aj aP a,aN,false⟩::⟨some gb,100,aj aP b,bN,false⟩::⟨some g0,40,iY,10,true⟩::l;refine uy (nt:=109) (Z:=Nat×(OR (0+o.length+1+(o.length-o.length)) 38)) (fun⟨g96,r3⟩=>sX []) (fun⟨g96,r3⟩=>sY [⟨some g1,40,iE (aA r3.b 0 (0+o.length+1+(o.length-o.length)) r3.cap) (rl 0),10,true⟩,⟨ob,63,aj aZ o,oN,true⟩,⟨some g3,63,aZ (ay (m,d2 x.f y.f)),38,true⟩,⟨r3.b,63,(aj aZ o++aZ (ay (m,d2 x.f y.f)))++aj aZ (o.drop o.length),r3.n,true⟩,⟨some g96,63,aZ (ay (m,d2 x.f y.f)),38,true⟩]) 16 [0,1,2,3,4,5,6,7,8,9,10,11,12,13,14,15] mixed ak (fun hd0=>?_) ?_
    ·refine aC (nt:=109) (Z:=Nat×(OR (0+o.length+1+(o.length-o.length)) 38)) (fun⟨g96,r3⟩=>sX [(10,bf g3),(11,bH (o.length)),(102,aA r3.b 0 (0+o.length+1+(o.length-o.length)) r3.cap),(103,bf g1)]) (fun⟨g96,r3⟩=>sY [⟨some g1,40,iE (aA ob 0 o.length oc) (rl 0),10,true⟩,⟨ob,63,aj aZ o,oN,true⟩,⟨some g3,63,aZ (ay (m,d2 x.f y.f)),38,true⟩,⟨r3.b,63,(aj aZ o++aZ (ay (m,d2 x.f y.f)))++aj aZ (o.drop o.length),r3.n,true⟩,⟨some g96,63,aZ (ay (m,d2 x.f y.f)),38,true⟩]) 1 [15] (fun z=>?_) (fun hd1=>?_)
     ·obtain⟨g96,r3⟩:=z;(try dsimp only);refine x9 15 ?_
      ·refine Ss 3 ?_;refine A1 ?_;exact Nw hd0 ⟨g96,r3⟩ [0,1,2,3,4,5,6,7]
     refine aC (nt:=109) (Z:=Nat×(OR (0+o.length+1) 38)) (fun⟨g96,r2⟩=>sX [(10,bf g3),(11,bH (o.length)),(97,aA r2.b 0 (0+o.length+1) r2.cap),(101,aA ob (if oc=o.length then 0 else o.length*38) (o.length-o.length) (oc-o.length))]) (fun⟨g96,r2⟩=>sY [⟨some g1,40,iE (aA ob 0 o.length oc) (rl 0),10,true⟩,⟨ob,63,aj aZ o,oN,true⟩,⟨some g3,63,aZ (ay (m,d2 x.f y.f)),38,true⟩,⟨r2.b,63,aj aZ o++aZ (ay (m,d2 x.f y.f)),r2.n,true⟩,⟨some g96,63,aZ (ay (m,d2 x.f y.f)),38,true⟩]) 3 [13,14,15] (fun z=>?_) (fun hd2=>?_)
     ·obtain⟨g96,r2⟩:=z;(try dsimp only);refine x9 13 ?_
      ·refine(Qo (s:=38) (len:=0+o.length+1) 6 4 (aj aZ (o.drop o.length)) (fun r3=>[_,_,_,_,_,_,⟨r3.b,63,(aj aZ o++aZ (ay (m,d2 x.f y.f)))++aj aZ (o.drop o.length),r3.n,true⟩,_]) u32 KW) (by exact(by rw[List.length_append,dH.length];show o.length*38+38=_;omega)) r2.h r2.hn Ym (dH.dropT h3 (Nat.le_refl _)) (dH.lenDrop o o.length) (dH.ones _) (fun r3=>?_);refine A1 ?_;refine Nt 14 ?_;refine Fg 0 0 ?_;refine A1 ?_;exact Nw hd1 ⟨g96,r3⟩ [0,1,2,3,4,5,6,7]
     refine aC (nt:=109) (Z:=(OR (0+o.length) 38)×Nat) (fun⟨r,g96⟩=>sX [(10,bf g3),(11,bH (o.length)),(94,aA r.b 0 (0+o.length) r.cap),(96,aA (some g96) 0 1 1),(101,aA ob (if oc=o.length then 0 else o.length*38) (o.length-o.length) (oc-o.length))]) (fun⟨r,g96⟩=>sY [⟨some g1,40,iE (aA ob 0 o.length oc) (rl 0),10,true⟩,⟨ob,63,aj aZ o,oN,true⟩,⟨some g3,63,aZ (ay (m,d2 x.f y.f)),38,true⟩,⟨r.b,63,aj aZ o,r.n,true⟩,⟨some g96,63,aZ (ay (m,d2 x.f y.f)),38,true⟩]) 4 [8,13,14,15] (fun z=>?_) (fun hd3=>?_)
     ·obtain⟨r,g96⟩:=z;(try dsimp only);refine x9 8 ?_
      ·refine iJ (s:=38) (len:=0+o.length) (n2:=1) 6 7 (aZ (ay (m,d2 x.f y.f))) (fun r2=>[_,_,_,_,_,_,⟨r2.b,63,aj aZ o++aZ (ay (m,d2 x.f y.f)),r2.n,true⟩,_]) u32 KW rfl rfl rfl rfl rfl rfl rfl rfl rfl rfl (by rw[dH.length,Nat.zero_add]) r.h r.hn (.inr ⟨_,rfl⟩) rfl rfl (dH.one (ay (m,d2 x.f y.f))) ae (fun _=>rfl) (fun r2=>?_);refine A1 ?_;exact Nw hd2 ⟨g96,r2⟩ [0,1,2,3,4,5,6,7]
     refine aC (nt:=109) (Z:=Nat×Nat) (fun⟨g89,g96⟩=>sX [(10,bf g3),(11,bH (o.length)),(89,aA (some g89) 0 0 0),(93,aA ob 0 o.length oc),(96,aA (some g96) 0 1 1),(101,aA ob (if oc=o.length then 0 else o.length*38) (o.length-o.length) (oc-o.length))]) (fun⟨g89,g96⟩=>sY [⟨some g1,40,iE (aA ob 0 o.length oc) (rl 0),10,true⟩,⟨ob,63,aj aZ o,oN,true⟩,⟨some g3,63,aZ (ay (m,d2 x.f y.f)),38,true⟩,⟨some g89,63,[],0,true⟩,⟨some g96,63,aZ (ay (m,d2 x.f y.f)),38,true⟩]) 5 [5,8,13,14,15] (fun z=>?_) (fun hd4=>?_)
     ·obtain⟨g89,g96⟩:=z;(try dsimp only);refine x9 5 ?_
      ·refine iJ (s:=38) (len:=0) 6 4 (aj aZ o) (fun r=>[_,_,_,_,_,_,⟨r.b,63,aj aZ o,r.n,true⟩,_]) u32 KW rfl rfl rfl rfl rfl rfl rfl rfl rfl rfl rfl (Nat.le_refl _) (Nat.le_refl _) hobs (List.take_of_length_le YL) (dH.length o) (dH.ones _) ae (fun _=>rfl) (fun r=>?_);refine A1 ?_;exact Nw hd3 ⟨r,g96⟩ [0,1,2,3,4,5,6,7]
     refine aC (nt:=109) (Z:=OR (0+o.length) 38) (fun r=>sX [(10,bf g3),(11,bH (o.length)),(94,aA r.b 0 (0+o.length) r.cap),(95,wU (ay (m,d2 x.f y.f))),(101,aA ob (if oc=o.length then 0 else o.length*38) (o.length-o.length) (oc-o.length))]) (fun r=>sY [⟨some g1,40,iE (aA ob 0 o.length oc) (rl 0),10,true⟩,⟨ob,63,aj aZ o,oN,true⟩,⟨some g3,63,aZ (ay (m,d2 x.f y.f)),38,true⟩,⟨r.b,63,aj aZ o,r.n,true⟩]) 5 [7,8,13,14,15] (fun r=>?_) (fun hd5=>?_)
     ·(try dsimp only);refine x9 7 ?_
      ·refine(Bl 38 [(0,_)]) (nY) (fun g5=>?_);refine A1 ?_;exact Nw hd3 ⟨r,g5⟩ [0,1,2,3,4,5,6,7]
     refine aC (nt:=109) (Z:=Nat×(OR (0+o.length+1) 38)) (fun⟨g96,r2⟩=>sX [(10,bf g3),(11,bH (o.length)),(97,aA r2.b 0 (0+o.length+1) r2.cap),(98,bf g1),(100,bH (o.length))]) (fun⟨g96,r2⟩=>sY [⟨some g1,40,iE (aA ob 0 o.length oc) (rl 0),10,true⟩,⟨ob,63,aj aZ o,oN,true⟩,⟨some g3,63,aZ (ay (m,d2 x.f y.f)),38,true⟩,⟨r2.b,63,aj aZ o++aZ (ay (m,d2 x.f y.f)),r2.n,true⟩,⟨some g96,63,aZ (ay (m,d2 x.f y.f)),38,true⟩]) 5 [10,12,13,14,15] (fun z=>?_) (fun hd6=>?_)
     ·obtain⟨g96,r2⟩:=z;(try dsimp only);refine x9 10 ?_
      ·refine tZ ?_;exact Nw hd2 ⟨g96,r2⟩ [0,1,2,3,4,5,6,7]
     refine aC (nt:=109) (Z:=Nat) (fun g96=>sX [(10,bf g3),(11,bH (o.length)),(93,aA ob 0 o.length oc),(96,aA (some g96) 0 1 1),(101,aA ob (if oc=o.length then 0 else o.length*38) (o.length-o.length) (oc-o.length))]) (fun g96=>sY [⟨some g1,40,iE (aA ob 0 o.length oc) (rl 0),10,true⟩,⟨ob,63,aj aZ o,oN,true⟩,⟨some g3,63,aZ (ay (m,d2 x.f y.f)),38,true⟩,⟨some g96,63,aZ (ay (m,d2 x.f y.f)),38,true⟩]) 6 [0,5,8,13,14,15] (fun g96=>?_) (fun hd7=>?_)
     ·(try dsimp only);refine x9 0 ?_
      ·refine(Bl 0 []) (tq) (fun g5=>?_);refine A1 ?_;exact Nw hd4 ⟨g5,g96⟩ [0,1,2,3,4,5,7,6]
     refine aC (nt:=109) (Z:=Nat) (fun g89=>sX [(10,bf g3),(11,bH (o.length)),(89,aA (some g89) 0 0 0),(93,aA ob 0 o.length oc),(95,wU (ay (m,d2 x.f y.f))),(101,aA ob (if oc=o.length then 0 else o.length*38) (o.length-o.length) (oc-o.length))]) (fun g89=>sY [⟨some g1,40,iE (aA ob 0 o.length oc) (rl 0),10,true⟩,⟨ob,63,aj aZ o,oN,true⟩,⟨some g3,63,aZ (ay (m,d2 x.f y.f)),38,true⟩,⟨some g89,63,[],0,true⟩]) 6 [5,7,8,13,14,15] (fun g89=>?_) (fun hd8=>?_)
     ·(try dsimp only);refine aI [5,7] ak rfl ⟨⟨_,rfl,?_⟩,⟨_,rfl,?_⟩,trivial⟩
      ·refine qaZ fun r=>?_;refine A1 ?_;exact Nw hd5 r [0,1,2,3,4,5,6]
      ·refine(Bl 38 [(0,_)]) (nY) (fun g5=>?_);refine A1 ?_;exact Nw hd4 ⟨g89,g5⟩ [0,1,2,3,4,5,6,7]
     refine aC (nt:=109) (Z:=OR (0+o.length) 38) (fun r=>sX [(10,bf g3),(11,bH (o.length)),(94,aA r.b 0 (0+o.length) r.cap),(101,aA ob (if oc=o.length then 0 else o.length*38) (o.length-o.length) (oc-o.length))]) (fun r=>sY [⟨some g1,40,iE (aA ob 0 o.length oc) (rl 0),10,true⟩,⟨ob,63,aj aZ o,oN,true⟩,⟨some g3,63,aZ (ay (m,d2 x.f y.f)),38,true⟩,⟨r.b,63,aj aZ o,r.n,true⟩]) 6 [6,7,8,13,14,15] (fun r=>?_) (fun hd9=>?_)
     ·(try dsimp only);refine x9 6 ?_
      ·refine Bg 5 0 ?_;refine A1 ?_;exact Nw hd5 r [0,1,2,3,4,5,6]
     refine aC (nt:=109) (Z:=(OR (0+o.length) 38)×Nat) (fun⟨r,g96⟩=>sX [(10,bf g3),(11,bH (o.length)),(94,aA r.b 0 (0+o.length) r.cap),(96,aA (some g96) 0 1 1),(98,bf g1),(100,bH (o.length))]) (fun⟨r,g96⟩=>sY [⟨some g1,40,iE (aA ob 0 o.length oc) (rl 0),10,true⟩,⟨ob,63,aj aZ o,oN,true⟩,⟨some g3,63,aZ (ay (m,d2 x.f y.f)),38,true⟩,⟨r.b,63,aj aZ o,r.n,true⟩,⟨some g96,63,aZ (ay (m,d2 x.f y.f)),38,true⟩]) 6 [8,10,12,13,14,15] (fun z=>?_) (fun hd10=>?_)
     ·obtain⟨r,g96⟩:=z;(try dsimp only);refine aI [8,10] ak rfl ⟨⟨_,rfl,?_⟩,⟨_,rfl,?_⟩,trivial⟩
      ·refine iJ (s:=38) (len:=0+o.length) (n2:=1) 6 7 (aZ (ay (m,d2 x.f y.f))) (fun r2=>[_,_,_,_,_,_,⟨r2.b,63,aj aZ o++aZ (ay (m,d2 x.f y.f)),r2.n,true⟩,_]) u32 KW rfl rfl rfl rfl rfl rfl rfl rfl rfl rfl (by rw[dH.length,Nat.zero_add]) r.h r.hn (.inr ⟨_,rfl⟩) rfl rfl (dH.one (ay (m,d2 x.f y.f))) ae (fun _=>rfl) (fun r2=>?_);refine A1 ?_;exact Nw hd6 ⟨g96,r2⟩ [0,1,2,3,4,5,6,7]
      ·refine tZ ?_;exact Nw hd3 ⟨r,g96⟩ [0,1,2,3,4,5,6,7]
     refine aC (nt:=109) (Z:=Unit) (fun _=>sX [(10,bf g3),(11,bH (o.length)),(93,aA ob 0 o.length oc),(95,wU (ay (m,d2 x.f y.f))),(101,aA ob (if oc=o.length then 0 else o.length*38) (o.length-o.length) (oc-o.length))]) (fun _=>sY [⟨some g1,40,iE (aA ob 0 o.length oc) (rl 0),10,true⟩,⟨ob,63,aj aZ o,oN,true⟩,⟨some g3,63,aZ (ay (m,d2 x.f y.f)),38,true⟩]) 7 [0,5,7,8,13,14,15] (fun z=>?_) (fun hd11=>?_)
     ·(try dsimp only);refine aI [0,7] ak rfl ⟨⟨_,rfl,?_⟩,⟨_,rfl,?_⟩,trivial⟩
      ·refine(Bl 0 []) (tq) (fun g4=>?_);refine A1 ?_;exact Nw hd8 g4 [0,1,2,3,4,5,6]
      ·refine(Bl 38 [(0,_)]) (nY) (fun g4=>?_);refine A1 ?_;exact Nw hd7 g4 [0,1,2,3,4,5,6]
     refine aC (nt:=109) (Z:=Nat×Nat) (fun⟨g89,g96⟩=>sX [(10,bf g3),(11,bH (o.length)),(89,aA (some g89) 0 0 0),(90,bf g1),(92,bH (o.length)),(96,aA (some g96) 0 1 1),(101,aA ob (if oc=o.length then 0 else o.length*38) (o.length-o.length) (oc-o.length))]) (fun⟨g89,g96⟩=>sY [⟨some g1,40,iE (aA ob 0 o.length oc) (rl 0),10,true⟩,⟨ob,63,aj aZ o,oN,true⟩,⟨some g3,63,aZ (ay (m,d2 x.f y.f)),38,true⟩,⟨some g89,63,[],0,true⟩,⟨some g96,63,aZ (ay (m,d2 x.f y.f)),38,true⟩]) 7 [2,4,5,8,13,14,15] (fun z=>?_) (fun hd12=>?_)
     ·obtain⟨g89,g96⟩:=z;(try dsimp only);refine x9 2 ?_
      ·refine zN ?_;exact Nw hd4 ⟨g89,g96⟩ [0,1,2,3,4,5,6,7]
     refine aC (nt:=109) (Z:=Nat) (fun g89=>sX [(10,bf g3),(11,bH (o.length)),(89,aA (some g89) 0 0 0),(93,aA ob 0 o.length oc),(101,aA ob (if oc=o.length then 0 else o.length*38) (o.length-o.length) (oc-o.length))]) (fun g89=>sY [⟨some g1,40,iE (aA ob 0 o.length oc) (rl 0),10,true⟩,⟨ob,63,aj aZ o,oN,true⟩,⟨some g3,63,aZ (ay (m,d2 x.f y.f)),38,true⟩,⟨some g89,63,[],0,true⟩]) 7 [5,6,7,8,13,14,15] (fun g89=>?_) (fun hd13=>?_)
     ·(try dsimp only);refine aI [5,6] ak rfl ⟨⟨_,rfl,?_⟩,⟨_,rfl,?_⟩,trivial⟩
      ·refine qaZ fun r=>?_;refine A1 ?_;exact Nw hd9 r [0,1,2,3,4,5,6]
      ·refine Bg 5 0 ?_;refine A1 ?_;exact Nw hd8 g89 [0,1,2,3,4,5,6]
     refine aC (nt:=109) (Z:=Nat×Nat) (fun⟨g89,g96⟩=>sX [(10,bf g3),(11,bH (o.length)),(89,aA (some g89) 0 0 0),(93,aA ob 0 o.length oc),(96,aA (some g96) 0 1 1),(98,bf g1),(100,bH (o.length))]) (fun⟨g89,g96⟩=>sY [⟨some g1,40,iE (aA ob 0 o.length oc) (rl 0),10,true⟩,⟨ob,63,aj aZ o,oN,true⟩,⟨some g3,63,aZ (ay (m,d2 x.f y.f)),38,true⟩,⟨some g89,63,[],0,true⟩,⟨some g96,63,aZ (ay (m,d2 x.f y.f)),38,true⟩]) 7 [5,8,10,12,13,14,15] (fun z=>?_) (fun hd14=>?_)
     ·obtain⟨g89,g96⟩:=z;(try dsimp only);refine aI [5,10] ak rfl ⟨⟨_,rfl,?_⟩,⟨_,rfl,?_⟩,trivial⟩
      ·refine iJ (s:=38) (len:=0) 6 4 (aj aZ o) (fun r=>[_,_,_,_,_,_,⟨r.b,63,aj aZ o,r.n,true⟩,_]) u32 KW rfl rfl rfl rfl rfl rfl rfl rfl rfl rfl rfl (Nat.le_refl _) (Nat.le_refl _) hobs (List.take_of_length_le YL) (dH.length o) (dH.ones _) ae (fun _=>rfl) (fun r=>?_);refine A1 ?_;exact Nw hd10 ⟨r,g96⟩ [0,1,2,3,4,5,6,7]
      ·refine tZ ?_;exact Nw hd4 ⟨g89,g96⟩ [0,1,2,3,4,5,6,7]
     refine aC (nt:=109) (Z:=OR (0+o.length) 38) (fun r=>sX [(10,bf g3),(11,bH (o.length)),(94,aA r.b 0 (0+o.length) r.cap),(95,wU (ay (m,d2 x.f y.f))),(98,bf g1),(100,bH (o.length))]) (fun r=>sY [⟨some g1,40,iE (aA ob 0 o.length oc) (rl 0),10,true⟩,⟨ob,63,aj aZ o,oN,true⟩,⟨some g3,63,aZ (ay (m,d2 x.f y.f)),38,true⟩,⟨r.b,63,aj aZ o,r.n,true⟩]) 7 [7,8,10,12,13,14,15] (fun r=>?_) (fun hd15=>?_)
     ·(try dsimp only);refine aI [7,10] ak rfl ⟨⟨_,rfl,?_⟩,⟨_,rfl,?_⟩,trivial⟩
      ·refine(Bl 38 [(0,_)]) (nY) (fun g5=>?_);refine A1 ?_;exact Nw hd10 ⟨r,g5⟩ [0,1,2,3,4,5,6,7]
      ·refine tZ ?_;exact Nw hd5 r [0,1,2,3,4,5,6]
     refine aC (nt:=109) (Z:=Nat) (fun g96=>sX [(10,bf g3),(11,bH (o.length)),(90,bf g1),(92,bH (o.length)),(96,aA (some g96) 0 1 1),(101,aA ob (if oc=o.length then 0 else o.length*38) (o.length-o.length) (oc-o.length))]) (fun g96=>sY [⟨some g1,40,iE (aA ob 0 o.length oc) (rl 0),10,true⟩,⟨ob,63,aj aZ o,oN,true⟩,⟨some g3,63,aZ (ay (m,d2 x.f y.f)),38,true⟩,⟨some g96,63,aZ (ay (m,d2 x.f y.f)),38,true⟩]) 8 [0,2,4,5,8,13,14,15] (fun g96=>?_) (fun hd16=>?_)
     ·(try dsimp only);refine aI [0,2] ak rfl ⟨⟨_,rfl,?_⟩,⟨_,rfl,?_⟩,trivial⟩
      ·refine(Bl 0 []) (tq) (fun g5=>?_);refine A1 ?_;exact Nw hd12 ⟨g5,g96⟩ [0,1,2,3,4,5,7,6]
      ·refine zN ?_;exact Nw hd7 g96 [0,1,2,3,4,5,6]
     refine aC (nt:=109) (Z:=Unit) (fun _=>sX [(10,bf g3),(11,bH (o.length)),(93,aA ob 0 o.length oc),(101,aA ob (if oc=o.length then 0 else o.length*38) (o.length-o.length) (oc-o.length))]) (fun _=>sY [⟨some g1,40,iE (aA ob 0 o.length oc) (rl 0),10,true⟩,⟨ob,63,aj aZ o,oN,true⟩,⟨some g3,63,aZ (ay (m,d2 x.f y.f)),38,true⟩]) 8 [0,5,6,7,8,13,14,15] (fun z=>?_) (fun hd17=>?_)
     ·(try dsimp only);refine aI [0,6] ak rfl ⟨⟨_,rfl,?_⟩,⟨_,rfl,?_⟩,trivial⟩
      ·refine(Bl 0 []) (tq) (fun g4=>?_);refine A1 ?_;exact Nw hd13 g4 [0,1,2,3,4,5,6]
      ·refine Bg 5 0 ?_;refine A1 ?_;exact Nw hd11 () [0,1,2,3,4,5]
     refine aC (nt:=109) (Z:=Nat) (fun g96=>sX [(10,bf g3),(11,bH (o.length)),(93,aA ob 0 o.length oc),(96,aA (some g96) 0 1 1),(98,bf g1),(100,bH (o.length))]) (fun g96=>sY [⟨some g1,40,iE (aA ob 0 o.length oc) (rl 0),10,true⟩,⟨ob,63,aj aZ o,oN,true⟩,⟨some g3,63,aZ (ay (m,d2 x.f y.f)),38,true⟩,⟨some g96,63,aZ (ay (m,d2 x.f y.f)),38,true⟩]) 8 [0,5,8,10,12,13,14,15] (fun g96=>?_) (fun hd18=>?_)
     ·(try dsimp only);refine aI [0,10] ak rfl ⟨⟨_,rfl,?_⟩,⟨_,rfl,?_⟩,trivial⟩
      ·refine(Bl 0 []) (tq) (fun g5=>?_);refine A1 ?_;exact Nw hd14 ⟨g5,g96⟩ [0,1,2,3,4,5,7,6]
      ·refine tZ ?_;exact Nw hd7 g96 [0,1,2,3,4,5,6]
     refine aC (nt:=109) (Z:=Nat) (fun g89=>sX [(10,bf g3),(11,bH (o.length)),(89,aA (some g89) 0 0 0),(90,bf g1),(92,bH (o.length)),(95,wU (ay (m,d2 x.f y.f))),(101,aA ob (if oc=o.length then 0 else o.length*38) (o.length-o.length) (oc-o.length))]) (fun g89=>sY [⟨some g1,40,iE (aA ob 0 o.length oc) (rl 0),10,true⟩,⟨ob,63,aj aZ o,oN,true⟩,⟨some g3,63,aZ (ay (m,d2 x.f y.f)),38,true⟩,⟨some g89,63,[],0,true⟩]) 8 [2,4,5,7,8,13,14,15] (fun g89=>?_) (fun hd19=>?_)
     ·(try dsimp only);refine aI [2,7] ak rfl ⟨⟨_,rfl,?_⟩,⟨_,rfl,?_⟩,trivial⟩
      ·refine zN ?_;exact Nw hd8 g89 [0,1,2,3,4,5,6]
      ·refine(Bl 38 [(0,_)]) (nY) (fun g5=>?_);refine A1 ?_;exact Nw hd12 ⟨g89,g5⟩ [0,1,2,3,4,5,6,7]
     refine aC (nt:=109) (Z:=Nat) (fun g89=>sX [(10,bf g3),(11,bH (o.length)),(89,aA (some g89) 0 0 0),(93,aA ob 0 o.length oc),(95,wU (ay (m,d2 x.f y.f))),(98,bf g1),(100,bH (o.length))]) (fun g89=>sY [⟨some g1,40,iE (aA ob 0 o.length oc) (rl 0),10,true⟩,⟨ob,63,aj aZ o,oN,true⟩,⟨some g3,63,aZ (ay (m,d2 x.f y.f)),38,true⟩,⟨some g89,63,[],0,true⟩]) 8 [5,7,8,10,12,13,14,15] (fun g89=>?_) (fun hd20=>?_)
     ·(try dsimp only);refine aI [5,7,10] ak rfl ⟨⟨_,rfl,?_⟩,⟨_,rfl,?_⟩,⟨_,rfl,?_⟩,trivial⟩
      ·refine qaZ fun r=>?_;refine A1 ?_;exact Nw hd15 r [0,1,2,3,4,5,6]
      ·refine(Bl 38 [(0,_)]) (nY) (fun g5=>?_);refine A1 ?_;exact Nw hd14 ⟨g89,g5⟩ [0,1,2,3,4,5,6,7]
      ·refine tZ ?_;exact Nw hd8 g89 [0,1,2,3,4,5,6]
     refine aC (nt:=109) (Z:=OR (0+o.length) 38) (fun r=>sX [(10,bf g3),(11,bH (o.length)),(94,aA r.b 0 (0+o.length) r.cap),(98,bf g1),(100,bH (o.length))]) (fun r=>sY [⟨some g1,40,iE (aA ob 0 o.length oc) (rl 0),10,true⟩,⟨ob,63,aj aZ o,oN,true⟩,⟨some g3,63,aZ (ay (m,d2 x.f y.f)),38,true⟩,⟨r.b,63,aj aZ o,r.n,true⟩]) 8 [6,7,8,10,12,13,14,15] (fun r=>?_) (fun hd21=>?_)
     ·(try dsimp only);refine aI [6,10] ak rfl ⟨⟨_,rfl,?_⟩,⟨_,rfl,?_⟩,trivial⟩
      ·refine Bg 5 0 ?_;refine A1 ?_;exact Nw hd15 r [0,1,2,3,4,5,6]
      ·refine tZ ?_;exact Nw hd9 r [0,1,2,3,4,5,6]
     refine aC (nt:=109) (Z:=Unit) (fun _=>sX [(10,bf g3),(11,bH (o.length)),(90,bf g1),(92,bH (o.length)),(95,wU (ay (m,d2 x.f y.f))),(101,aA ob (if oc=o.length then 0 else o.length*38) (o.length-o.length) (oc-o.length))]) (fun _=>sY [⟨some g1,40,iE (aA ob 0 o.length oc) (rl 0),10,true⟩,⟨ob,63,aj aZ o,oN,true⟩,⟨some g3,63,aZ (ay (m,d2 x.f y.f)),38,true⟩]) 9 [0,2,4,5,7,8,13,14,15] (fun z=>?_) (fun hd22=>?_)
     ·(try dsimp only);refine aI [0,2,7] ak rfl ⟨⟨_,rfl,?_⟩,⟨_,rfl,?_⟩,⟨_,rfl,?_⟩,trivial⟩
      ·refine(Bl 0 []) (tq) (fun g4=>?_);refine A1 ?_;exact Nw hd19 g4 [0,1,2,3,4,5,6]
      ·refine zN ?_;exact Nw hd11 () [0,1,2,3,4,5]
      ·refine(Bl 38 [(0,_)]) (nY) (fun g4=>?_);refine A1 ?_;exact Nw hd16 g4 [0,1,2,3,4,5,6]
     refine aC (nt:=109) (Z:=Unit) (fun _=>sX [(10,bf g3),(11,bH (o.length)),(93,aA ob 0 o.length oc),(95,wU (ay (m,d2 x.f y.f))),(98,bf g1),(100,bH (o.length))]) (fun _=>sY [⟨some g1,40,iE (aA ob 0 o.length oc) (rl 0),10,true⟩,⟨ob,63,aj aZ o,oN,true⟩,⟨some g3,63,aZ (ay (m,d2 x.f y.f)),38,true⟩]) 9 [0,5,7,8,10,12,13,14,15] (fun z=>?_) (fun hd23=>?_)
     ·(try dsimp only);refine aI [0,7,10] ak rfl ⟨⟨_,rfl,?_⟩,⟨_,rfl,?_⟩,⟨_,rfl,?_⟩,trivial⟩
      ·refine(Bl 0 []) (tq) (fun g4=>?_);refine A1 ?_;exact Nw hd20 g4 [0,1,2,3,4,5,6]
      ·refine(Bl 38 [(0,_)]) (nY) (fun g4=>?_);refine A1 ?_;exact Nw hd18 g4 [0,1,2,3,4,5,6]
      ·refine tZ ?_;exact Nw hd11 () [0,1,2,3,4,5]
     refine aC (nt:=109) (Z:=Nat) (fun g89=>sX [(10,bf g3),(11,bH (o.length)),(89,aA (some g89) 0 0 0),(90,bf g1),(92,bH (o.length)),(101,aA ob (if oc=o.length then 0 else o.length*38) (o.length-o.length) (oc-o.length))]) (fun g89=>sY [⟨some g1,40,iE (aA ob 0 o.length oc) (rl 0),10,true⟩,⟨ob,63,aj aZ o,oN,true⟩,⟨some g3,63,aZ (ay (m,d2 x.f y.f)),38,true⟩,⟨some g89,63,[],0,true⟩]) 9 [2,4,5,6,7,8,13,14,15] (fun g89=>?_) (fun hd24=>?_)
     ·(try dsimp only);refine aI [2,6] ak rfl ⟨⟨_,rfl,?_⟩,⟨_,rfl,?_⟩,trivial⟩
      ·refine zN ?_;exact Nw hd13 g89 [0,1,2,3,4,5,6]
      ·refine Bg 5 0 ?_;refine A1 ?_;exact Nw hd19 g89 [0,1,2,3,4,5,6]
     refine aC (nt:=109) (Z:=Nat×Nat) (fun⟨g89,g96⟩=>sX [(10,bf g3),(11,bH (o.length)),(89,aA (some g89) 0 0 0),(90,bf g1),(92,bH (o.length)),(96,aA (some g96) 0 1 1),(98,bf g1),(100,bH (o.length))]) (fun⟨g89,g96⟩=>sY [⟨some g1,40,iE (aA ob 0 o.length oc) (rl 0),10,true⟩,⟨ob,63,aj aZ o,oN,true⟩,⟨some g3,63,aZ (ay (m,d2 x.f y.f)),38,true⟩,⟨some g89,63,[],0,true⟩,⟨some g96,63,aZ (ay (m,d2 x.f y.f)),38,true⟩]) 9 [2,4,5,8,10,12,13,14,15] (fun z=>?_) (fun hd25=>?_)
     ·obtain⟨g89,g96⟩:=z;(try dsimp only);refine aI [2,10] ak rfl ⟨⟨_,rfl,?_⟩,⟨_,rfl,?_⟩,trivial⟩
      ·refine zN ?_;exact Nw hd14 ⟨g89,g96⟩ [0,1,2,3,4,5,6,7]
      ·refine tZ ?_;exact Nw hd12 ⟨g89,g96⟩ [0,1,2,3,4,5,6,7]
     refine aC (nt:=109) (Z:=Nat) (fun g89=>sX [(10,bf g3),(11,bH (o.length)),(89,aA (some g89) 0 0 0),(93,aA ob 0 o.length oc),(98,bf g1),(100,bH (o.length))]) (fun g89=>sY [⟨some g1,40,iE (aA ob 0 o.length oc) (rl 0),10,true⟩,⟨ob,63,aj aZ o,oN,true⟩,⟨some g3,63,aZ (ay (m,d2 x.f y.f)),38,true⟩,⟨some g89,63,[],0,true⟩]) 9 [5,6,7,8,10,12,13,14,15] (fun g89=>?_) (fun hd26=>?_)
     ·(try dsimp only);refine aI [5,6,10] ak rfl ⟨⟨_,rfl,?_⟩,⟨_,rfl,?_⟩,⟨_,rfl,?_⟩,trivial⟩
      ·refine qaZ fun r=>?_;refine A1 ?_;exact Nw hd21 r [0,1,2,3,4,5,6]
      ·refine Bg 5 0 ?_;refine A1 ?_;exact Nw hd20 g89 [0,1,2,3,4,5,6]
      ·refine tZ ?_;exact Nw hd13 g89 [0,1,2,3,4,5,6]
     refine aC (nt:=109) (Z:=Unit) (fun _=>sX [(10,bf g3),(11,bH (o.length)),(90,bf g1),(92,bH (o.length)),(101,aA ob (if oc=o.length then 0 else o.length*38) (o.length-o.length) (oc-o.length))]) (fun _=>sY [⟨some g1,40,iE (aA ob 0 o.length oc) (rl 0),10,true⟩,⟨ob,63,aj aZ o,oN,true⟩,⟨some g3,63,aZ (ay (m,d2 x.f y.f)),38,true⟩]) 10 [0,2,4,5,6,7,8,13,14,15] (fun z=>?_) (fun hd27=>?_)
     ·(try dsimp only);refine aI [0,2,6] ak rfl ⟨⟨_,rfl,?_⟩,⟨_,rfl,?_⟩,⟨_,rfl,?_⟩,trivial⟩
      ·refine(Bl 0 []) (tq) (fun g4=>?_);refine A1 ?_;exact Nw hd24 g4 [0,1,2,3,4,5,6]
      ·refine zN ?_;exact Nw hd17 () [0,1,2,3,4,5]
      ·refine Bg 5 0 ?_;refine A1 ?_;exact Nw hd22 () [0,1,2,3,4,5]
     refine aC (nt:=109) (Z:=Nat) (fun g96=>sX [(10,bf g3),(11,bH (o.length)),(90,bf g1),(92,bH (o.length)),(96,aA (some g96) 0 1 1),(98,bf g1),(100,bH (o.length))]) (fun g96=>sY [⟨some g1,40,iE (aA ob 0 o.length oc) (rl 0),10,true⟩,⟨ob,63,aj aZ o,oN,true⟩,⟨some g3,63,aZ (ay (m,d2 x.f y.f)),38,true⟩,⟨some g96,63,aZ (ay (m,d2 x.f y.f)),38,true⟩]) 10 [0,2,4,5,8,10,12,13,14,15] (fun g96=>?_) (fun hd28=>?_)
     ·(try dsimp only);refine aI [0,2,10] ak rfl ⟨⟨_,rfl,?_⟩,⟨_,rfl,?_⟩,⟨_,rfl,?_⟩,trivial⟩
      ·refine(Bl 0 []) (tq) (fun g5=>?_);refine A1 ?_;exact Nw hd25 ⟨g5,g96⟩ [0,1,2,3,4,5,7,6]
      ·refine zN ?_;exact Nw hd18 g96 [0,1,2,3,4,5,6]
      ·refine tZ ?_;exact Nw hd16 g96 [0,1,2,3,4,5,6]
     refine aC (nt:=109) (Z:=Unit) (fun _=>sX [(10,bf g3),(11,bH (o.length)),(93,aA ob 0 o.length oc),(98,bf g1),(100,bH (o.length))]) (fun _=>sY [⟨some g1,40,iE (aA ob 0 o.length oc) (rl 0),10,true⟩,⟨ob,63,aj aZ o,oN,true⟩,⟨some g3,63,aZ (ay (m,d2 x.f y.f)),38,true⟩]) 10 [0,5,6,7,8,10,12,13,14,15] (fun z=>?_) (fun hd29=>?_)
     ·(try dsimp only);refine aI [0,6,10] ak rfl ⟨⟨_,rfl,?_⟩,⟨_,rfl,?_⟩,⟨_,rfl,?_⟩,trivial⟩
      ·refine(Bl 0 []) (tq) (fun g4=>?_);refine A1 ?_;exact Nw hd26 g4 [0,1,2,3,4,5,6]
      ·refine Bg 5 0 ?_;refine A1 ?_;exact Nw hd23 () [0,1,2,3,4,5]
      ·refine tZ ?_;exact Nw hd17 () [0,1,2,3,4,5]
     refine aC (nt:=109) (Z:=Nat) (fun g89=>sX [(10,bf g3),(11,bH (o.length)),(89,aA (some g89) 0 0 0),(90,bf g1),(92,bH (o.length)),(95,wU (ay (m,d2 x.f y.f))),(98,bf g1),(100,bH (o.length))]) (fun g89=>sY [⟨some g1,40,iE (aA ob 0 o.length oc) (rl 0),10,true⟩,⟨ob,63,aj aZ o,oN,true⟩,⟨some g3,63,aZ (ay (m,d2 x.f y.f)),38,true⟩,⟨some g89,63,[],0,true⟩]) 10 [2,4,5,7,8,10,12,13,14,15] (fun g89=>?_) (fun hd30=>?_)
     ·(try dsimp only);refine aI [2,7,10] ak rfl ⟨⟨_,rfl,?_⟩,⟨_,rfl,?_⟩,⟨_,rfl,?_⟩,trivial⟩
      ·refine zN ?_;exact Nw hd20 g89 [0,1,2,3,4,5,6]
      ·refine(Bl 38 [(0,_)]) (nY) (fun g5=>?_);refine A1 ?_;exact Nw hd25 ⟨g89,g5⟩ [0,1,2,3,4,5,6,7]
      ·refine tZ ?_;exact Nw hd19 g89 [0,1,2,3,4,5,6]
     refine aC (nt:=109) (Z:=Unit) (fun _=>sX [(10,bf g3),(11,bH (o.length)),(90,bf g1),(92,bH (o.length)),(95,wU (ay (m,d2 x.f y.f))),(98,bf g1),(100,bH (o.length))]) (fun _=>sY [⟨some g1,40,iE (aA ob 0 o.length oc) (rl 0),10,true⟩,⟨ob,63,aj aZ o,oN,true⟩,⟨some g3,63,aZ (ay (m,d2 x.f y.f)),38,true⟩]) 11 [0,2,4,5,7,8,10,12,13,14,15] (fun z=>?_) (fun hd31=>?_)
     ·(try dsimp only);refine aI [0,2,7,10] ak rfl ⟨⟨_,rfl,?_⟩,⟨_,rfl,?_⟩,⟨_,rfl,?_⟩,⟨_,rfl,?_⟩,trivial⟩
      ·refine(Bl 0 []) (tq) (fun g4=>?_);refine A1 ?_;exact Nw hd30 g4 [0,1,2,3,4,5,6]
      ·refine zN ?_;exact Nw hd23 () [0,1,2,3,4,5]
      ·refine(Bl 38 [(0,_)]) (nY) (fun g4=>?_);refine A1 ?_;exact Nw hd28 g4 [0,1,2,3,4,5,6]
      ·refine tZ ?_;exact Nw hd22 () [0,1,2,3,4,5]
     refine aC (nt:=109) (Z:=Nat) (fun g89=>sX [(10,bf g3),(11,bH (o.length)),(89,aA (some g89) 0 0 0),(90,bf g1),(92,bH (o.length)),(98,bf g1),(100,bH (o.length))]) (fun g89=>sY [⟨some g1,40,iE (aA ob 0 o.length oc) (rl 0),10,true⟩,⟨ob,63,aj aZ o,oN,true⟩,⟨some g3,63,aZ (ay (m,d2 x.f y.f)),38,true⟩,⟨some g89,63,[],0,true⟩]) 11 [2,4,5,6,7,8,10,12,13,14,15] (fun g89=>?_) (fun hd32=>?_)
     ·(try dsimp only);refine aI [2,6,10] ak rfl ⟨⟨_,rfl,?_⟩,⟨_,rfl,?_⟩,⟨_,rfl,?_⟩,trivial⟩
      ·refine zN ?_;exact Nw hd26 g89 [0,1,2,3,4,5,6]
      ·refine Bg 5 0 ?_;refine A1 ?_;exact Nw hd30 g89 [0,1,2,3,4,5,6]
      ·refine tZ ?_;exact Nw hd24 g89 [0,1,2,3,4,5,6]
     refine Nt 1 ?_;refine Fg 0 0 ?_;refine A1 ?_;refine Nt 3 ?_;refine A2 ?_;refine Nt 9 ?_;refine Fg 0 0 ?_;refine A1 ?_;refine Nt 11 ?_;refine A2 ?_;refine aI [0,2,6,10] ak rfl ⟨⟨_,rfl,?_⟩,⟨_,rfl,?_⟩,⟨_,rfl,?_⟩,⟨_,rfl,?_⟩,trivial⟩
     ·refine(Bl 0 []) (tq) (fun g4=>?_);refine A1 ?_;exact Nw hd32 g4 [0,1,2,3,4,5,6]
     ·refine zN ?_;exact Nw hd29 () [0,1,2,3,4,5]
     ·refine Bg 5 0 ?_;refine A1 ?_;exact Nw hd31 () [0,1,2,3,4,5]
     ·refine tZ ?_;exact Nw hd27 () [0,1,2,3,4,5]
    rintro⟨g96,r3⟩;show At _ ⟨109,[(0,aA (some ga) 0 a.length ac),(1,aA (some gb) 0 b.length bc),(4,bf g0),(5,bf g1),(6,bH i),(7,bH j)],[⟨some ga,100,aj aP a,aN,false⟩,⟨some gb,100,aj aP b,bN,false⟩,⟨some g0,40,iY,10,true⟩,⟨some g1,40,iE (aA r3.b 0 (0+o.length+1+(o.length-o.length)) r3.cap) (rl 0),10,true⟩,⟨ob,63,aj aZ o,oN,true⟩,⟨some g3,63,aZ (ay (m,d2 x.f y.f)),38,true⟩,⟨r3.b,63,(aj aZ o++aZ (ay (m,d2 x.f y.f)))++aj aZ (o.drop o.length),r3.n,true⟩,⟨some g96,63,aZ (ay (m,d2 x.f y.f)),38,true⟩]⟩ _;refine A4 ?_;refine Ar (((j+1:Nat):Int)) ?_;refine A3 ?_;exact Nl ⟨⟨j+1,o++[ay (m,d2 x.f y.f)],r3.b,r3.n,r3.cap⟩,hjt,by show o++_=(pg a b i++BF x b (j+1)).map ay;rw[qgC hy,hz,hI];simp,by have:=r3.h;simp at this ⊢;omega,r3.hn⟩ (hμ:=S9) (hL:=(az [some 0,some 1,some 2,some 3,some 6] ⟨pR,pR,pR,⟨_,rfl,bg (by rw[show(o++[ay (m,d2 x.f y.f)]).length=(0+o.length+1+(o.length-o.length)) from bz])⟩,⟨_,rfl,bg (by rw[qY,List.drop_length];simp[aj])⟩,trivial⟩ rfl rfl))
  ·have hge:j=b.length:=lw;subst hge;refine A8 ?_;refine dP ?_;exact Nl ⟨⟨i+1,o,ob,oN,oc⟩,hlt,by show o=(pg a b (i+1)).map ay;rw[qkg hx];exact hI,h3,h4⟩ (hμ:=Yl) (hL:=fF.auto)
 ·have hge:i=a.length:=iK;subst hge;obtain rfl:o=(ag a b).map ay:=by rw[hI,qcA H]
  refine A9 ?_;refine(Sd [4]) (Td ((ag a b).map ay) ob oN oc h3 (by rw[List.length_map];omega) (Qu hsa hsb)) ?_;refine A1 ?_;refine Ss 3 ?_;refine A4 ?_;refine XM 3 0 ?_;refine dW ?_;refine qp0 2 fun w hL=>⟨⟨ob,oN,oc,h3⟩,?_,hL.pk [some 4]⟩;exact rfl
end Go.Proofs.YtaffcpfhedadhaaGreatDoor
