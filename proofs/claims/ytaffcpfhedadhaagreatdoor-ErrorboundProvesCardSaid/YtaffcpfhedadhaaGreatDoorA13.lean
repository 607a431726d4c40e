/-
  Part 13 (chapter 32): lemmas, walks. Each theorem states its own conditions.
-/
import Derived.Test.YtaffcpfhedadhaaGreatDoorA06
import Derived.Test.YtaffcpfhedadhaaGreatDoorA08
import Derived.Test.YtaffcpfhedadhaaGreatDoorA11
import Derived.Test.YtaffcpfhedadhaaGreatDoorA12
set_option linter.all false
set_option maxRecDepth 20000
set_option maxHeartbeats 20000000
namespace Go.Proofs.YtaffcpfhedadhaaGreatDoor
open Go Go.RowKit Go.Via
def Ik(op:Int)(a:List Iv)(ab:Option Nat)(aN ac:Nat)(hac:a.length<=ac)(han:a.length<=1000)(b:List Iv)(bb:Option Nat)(bN bc:Nat)(hbc:b.length<=bc)(hbn:b.length<=1000)(hsa:∀x∈a,jV x<=50000)(hsb:∀x∈b,jV x<=50000):dh Tryz.prog 44 [⟨ab,61,ah bP a,aN,false⟩,⟨bb,61,ah bP b,bN,false⟩] [.int .i64 op,az ab 0 a.length ac,az bb 0 b.length bc] (SR (kY (vH op) a b).length) SR.v (fun z=>[⟨z.b,61,ah bP (kY (vH op) a b),z.n,true⟩]):=by
 refine sB3 109 Tryz.func44 fun w hL0=>?_;refine A6 ?_;refine rH 0 rfl (fun hba=>?_);refine rH 1 rfl (fun hbb=>?_);have hoa:a.length=0∨∃g,ab=some g:=sS bI (by decide) hba;have hob:b.length=0∨∃g,bb=some g:=sS bI (by decide) hbb
 have hsab:∀x∈a++b,jV x<=50000:=fun x hx=>(List.mem_append.1 hx).elim (hsa x) (hsb x)
 refine A1 ?_;refine(Bl 0 []) (qgL) (fun g0=>?_);refine A1 ?_;refine fK (s:=20) (len:=0) 2 0 (ah bP a) (fun r=>[_,_,⟨r.b,61,ah bP a,r.n,true⟩]) F6 L6 rfl rfl rfl rfl rfl rfl rfl rfl rfl rfl rfl (Nat.le_refl _) (Nat.le_refl _) hoa (List.take_of_length_le (by show(ah bP a).length<=_;rw[bI.length];exact Nat.le_refl _)) (bI.length a) (bI.ones _) (by omega) (fun _=>rfl) (fun r=>?_);refine A1 ?_;refine(Qo (s:=20) (len:=0+a.length) 2 1 (ah bP b) (fun r2=>[_,_,⟨r2.b,61,ah bP a++ah bP b,r2.n,true⟩]) F6 L6) (by exact(by rw[bI.length,Nat.zero_add])) r.h r.hn hob (by exact(List.take_of_length_le (by show(ah bP b).length<=_;rw[bI.length];exact Nat.le_refl _))) (bI.length b) (bI.ones _) (fun r2=>?_);obtain⟨rb2,rn2,rc2,rh2,rhn2⟩:=r2;refine aT 20 (az rb2 0 (a++b).length rc2) rfl (by show az rb2 0 (0+a.length+b.length) rc2=_;rw[List.length_append,Nat.zero_add]) ?_;refine iM [_] [2] rfl rfl rfl (P8 (a++b) rb2 rn2 rc2 (by simp at rh2 ⊢;omega) (by simp;omega) hsab) ⟨⟨_,rfl,by rw[kC];exact mX⟩,trivial⟩ rfl (.inr fun x b hb=>by rw[List.mem_singleton.1 hb]) (fun z=>?_);obtain⟨eb,eN,ec,hec⟩:=z;refine A4 ?_;have hes:∀y∈fG (bV (a++b)),gY y<=50000:=WU (p:=fun y=>gY y<=50000) (WV hsab);have hel:(fG (bV (a++b))).length<=4000:=by have:=PZ (bV (a++b));rw[vI,List.length_append] at this;omega
 refine IG ?_;refine El (ι:={z:Nat×List Iv×Bool×Option Nat×Nat×Nat // z.1<=(fG (bV (a++b))).length∧qH (fun t=>vH op (oh a t) (oh b t)) (fun t u=>vH op (oq a t u) (oq b t u)) ((fG (bV (a++b))).drop z.1) z.2.1 z.2.2.1=qH (fun t=>vH op (oh a t) (oh b t)) (fun t u=>vH op (oq a t u) (oq b t u)) (fG (bV (a++b))) [] false∧(z.2.2.1=true->0<z.2.1.length)∧z.2.1.length<=z.2.2.2.2.2∧z.2.2.2.2.2*20<=z.2.2.2.2.1∧z.2.1.length<=2*z.1}) (fun⟨⟨i,out,og,ob,oN,oc⟩,hi,hI,hne,h3,h4,hol⟩=>([(0,.int .i64 op),(1,az ab 0 a.length ac),(2,az bb 0 b.length bc),(7,az eb 0 (fG (bV (a++b))).length ec),(8,az ob 0 out.length oc),(9,.bool og),(10,bz i)],[⟨ab,61,ah bP a,aN,false⟩,⟨bb,61,ah bP b,bN,false⟩,⟨eb,38,ah iD (fG (bV (a++b))),eN,true⟩,⟨ob,61,ah bP out,oN,true⟩],(fG (bV (a++b))).length-i)) ⟨⟨0,[],false,none,0,0⟩,Nat.zero_le _,rfl,fun e=>(by cases e),Nat.le_refl _,by simp,by simp⟩ ?_ (hL:=(au [some 0,some 1,some 3,none] ⟨pR,pR,pR,⟨rfl,rfl,rfl⟩,trivial⟩ rfl rfl));rintro⟨⟨i,out,og,ob,oN,oc⟩,hi,hI,hne,h3,h4,hol⟩;(try dsimp only);replace hi:i<=(fG (bV (a++b))).length:=hi;replace hI:qH (fun t=>vH op (oh a t) (oh b t)) (fun t u=>vH op (oq a t u) (oq b t u)) ((fG (bV (a++b))).drop i) out og=qH (fun t=>vH op (oh a t) (oh b t)) (fun t u=>vH op (oq a t u) (oq b t u)) (fG (bV (a++b))) [] false:=hI;replace hne:og=true->0<out.length:=hne;replace h3:out.length<=oc:=h3;replace h4:oc*20<=oN:=h4;replace hol:out.length<=2*i:=hol;refine A9 ?_;refine Cd ?_ ?_<;>intro hb1
 ·have hlt:i<(fG (bV (a++b))).length:=(by have:=of_decide_eq_true hb1;omega);obtain⟨t,ht⟩:∃t,(fG (bV (a++b)))[i]? =some t:=⟨_,List.getElem?_eq_getElem hlt⟩;have hts:=hes t (List.mem_of_getElem? ht);obtain⟨h,hh⟩:∃h,vH op (oh a t) (oh b t)=h:=⟨_,rfl⟩;refine A8 ?_;refine ai 2 ((i)*9) pW iT rfl rfl rfl rfl rfl (by omega) (by omega) (dK.ne (by decide) (by omega)) (by show 0+Int.toNat _*9=_;omega) ?_;refine aO (v:=RV t) 2 ((i)*9) _ rfl rfl rfl rfl iT (dK.sub ht 0 9 (by decide)) rfl (by decide) rfl ?_;refine Al 9 O5 (fun g1=>?_);refine Ss 4 ?_;refine A3 ?_;refine Dp [] [0,1,2,4,5,3,6,7,8] ?_;refine A2 ?_;refine L9 4 0 ?_;refine A1 ?_;refine L9 4 0 ?_;refine(Sd [0]) (CW a ab aN ac hac han hsa t hts) ?_;refine(Sd [1]) (CW b bb bN bc hbc hbn hsb t hts) ?_;refine Pc (AO op _ _) ?_;refine aT 39 (.bool h) rfl (congrArg Value.bool hh) ?_;refine A7 ?_;refine(Aq ((out.length:Int)-1)) (by exact(congrArg some (wi (by omega) (by omega) rfl))) ?_;refine A3 ?_;refine rG (nt:=109) (X:={z:List Iv×Nat×Option Nat×Nat×Nat // z.1=kM out og h t∧z.2.1=z.1.length∧z.1.length<=z.2.2.2.2∧z.2.2.2.2*20<=z.2.2.2.1∧z.1.length<=out.length+1}) (fun⟨⟨o1,ln,b1,n1,c1⟩,ho1,hln,h31,h41,hl1⟩=>[(0,.int .i64 op),(1,az ab 0 a.length ac),(2,az bb 0 b.length bc),(7,az eb 0 (fG (bV (a++b))).length ec),(8,az b1 0 ln c1),(10,bz i),(11,dV g1),(12,.bool h)]) (fun⟨⟨o1,ln,b1,n1,c1⟩,ho1,hln,h31,h41,hl1⟩=>[⟨ab,61,ah bP a,aN,false⟩,⟨bb,61,ah bP b,bN,false⟩,⟨eb,38,ah iD (fG (bV (a++b))),eN,true⟩,⟨b1,61,ah bP o1,n1,true⟩,⟨some g1,38,iD t,9,true⟩]) ?_ ?_
  ·refine A5 ?_;refine Rs 45 ?_ ?_<;>intro hb2
   ·have hog:og=true:=hb2;refine A5 ?_;refine Cd ?_ ?_<;>intro hb3
    ·have hhv:h=true:=hb3;have hon:=hne hog;obtain⟨j,hj⟩:∃j,out[out.length-1]? =some j:=⟨_,List.getElem?_eq_getElem (by omega)⟩;refine fD 3 rfl (bI.ne (by decide) (by omega)) (fun hbs=>?_);obtain⟨go,hgo⟩:=Option.isSome_iff_exists.1 hbs;replace hgo:ob=some go:=hgo;subst hgo;refine A5 ?_;refine L9 4 0 ?_;refine ai 3 ((out.length-1)*20) F6 iC rfl rfl rfl rfl rfl (by omega) (by omega) (bI.ne (by decide) (by omega)) (by show 0+Int.toNat _*20=_;omega) ?_;refine Fg ((out.length-1)*20) 9 ?_;refine ry rfl 3 ((out.length-1)*20+9) [_,_,_,_,_] (ah bP (out.set (out.length-1) ⟨j.f,t,j.fo,j.tp⟩)) rfl rfl rfl rfl iT rfl (by rw[Nat.ble_eq,bI.length];show(out.length-1)*20+9+9<=(out).length*20;(try simp only[List.length_set]);omega) rfl (bI.setf hj rfl (by decide)) rfl ?_;refine ai 3 ((out.length-1)*20) F6 iC rfl rfl rfl rfl rfl (by omega) (by omega) (bI.ne (by decide) (by simp only[List.length_set];omega)) (by show 0+Int.toNat _*20=_;omega) ?_;refine Fg ((out.length-1)*20) 19 ?_;refine ry rfl 3 ((out.length-1)*20+19) [_,_,_,_,_] (ah bP ((out.set (out.length-1) ⟨j.f,t,j.fo,j.tp⟩).set (out.length-1) ⟨j.f,t,j.fo,false⟩)) rfl rfl rfl rfl ti4 rfl (by rw[Nat.ble_eq,bI.length];show(out.length-1)*20+19+1<=(out.set (out.length-1) ⟨j.f,t,j.fo,j.tp⟩).length*20;(try simp only[List.length_set]);omega) rfl (bI.setf (show(out.set (out.length-1) ⟨j.f,t,j.fo,j.tp⟩)[out.length-1]? =some ⟨j.f,t,j.fo,j.tp⟩ by rw[List.getElem?_set_self (by omega)]) rfl (by decide)) rfl ?_;refine A3 ?_;exact Ni ⟨((out.set (out.length-1) ⟨j.f,t,j.fo,j.tp⟩).set (out.length-1) ⟨j.f,t,j.fo,false⟩,out.length,some go,oN,oc),by show(out.set (out.length-1) ⟨j.f,t,j.fo,j.tp⟩).set _ _=_;rw[qeW hog hhv hj,List.set_set],by simp,by simpa using h3,h4,by simp⟩ [0,1,2,3,4]
    ·have hhv:h=false:=hb3;refine A6 ?_;refine Cd ?_ ?_<;>intro hb4
     ·have hon:=hne hog;obtain⟨j,hj⟩:∃j,out[out.length-1]? =some j:=⟨_,List.getElem?_eq_getElem (by omega)⟩;refine fD 3 rfl (bI.ne (by decide) (by omega)) (fun hbs=>?_);obtain⟨go,hgo⟩:=Option.isSome_iff_exists.1 hbs;replace hgo:ob=some go:=hgo;subst hgo;refine A5 ?_;refine L9 4 0 ?_;refine ai 3 ((out.length-1)*20) F6 iC rfl rfl rfl rfl rfl (by omega) (by omega) (bI.ne (by decide) (by omega)) (by show 0+Int.toNat _*20=_;omega) ?_;refine Fg ((out.length-1)*20) 9 ?_;refine ry rfl 3 ((out.length-1)*20+9) [_,_,_,_,_] (ah bP (out.set (out.length-1) ⟨j.f,t,j.fo,j.tp⟩)) rfl rfl rfl rfl iT rfl (by rw[Nat.ble_eq,bI.length];show(out.length-1)*20+9+9<=(out).length*20;(try simp only[List.length_set]);omega) rfl (bI.setf hj rfl (by decide)) rfl ?_;refine ai 3 ((out.length-1)*20) F6 iC rfl rfl rfl rfl rfl (by omega) (by omega) (bI.ne (by decide) (by simp only[List.length_set];omega)) (by show 0+Int.toNat _*20=_;omega) ?_;refine Fg ((out.length-1)*20) 19 ?_;refine ry rfl 3 ((out.length-1)*20+19) [_,_,_,_,_] (ah bP ((out.set (out.length-1) ⟨j.f,t,j.fo,j.tp⟩).set (out.length-1) ⟨j.f,t,j.fo,true⟩)) rfl rfl rfl rfl ti4 rfl (by rw[Nat.ble_eq,bI.length];show(out.length-1)*20+19+1<=(out.set (out.length-1) ⟨j.f,t,j.fo,j.tp⟩).length*20;(try simp only[List.length_set]);omega) rfl (bI.setf (show(out.set (out.length-1) ⟨j.f,t,j.fo,j.tp⟩)[out.length-1]? =some ⟨j.f,t,j.fo,j.tp⟩ by rw[List.getElem?_set_self (by omega)]) rfl (by decide)) rfl ?_;refine A3 ?_;exact Ni ⟨((out.set (out.length-1) ⟨j.f,t,j.fo,j.tp⟩).set (out.length-1) ⟨j.f,t,j.fo,true⟩,out.length,some go,oN,oc),by show(out.set (out.length-1) ⟨j.f,t,j.fo,j.tp⟩).set _ _=_;rw[qeX hog hhv hj,List.set_set],by simp,by simpa using h3,h4,by simp⟩ [0,1,2,3,4]
     ·exact absurd hb4 (by rw[hog];decide)
   ·have hog:og=false:=hb2;refine lX ?_;refine Cd ?_ ?_<;>intro hb3
    ·exact absurd hb3 (by rw[hog];decide)
    ·refine A6 ?_;refine Cd ?_ ?_<;>intro hb4
     ·have hhv:h=true:=hb4;refine A2 ?_;refine L9 4 0 ?_;refine L9 4 0 ?_;refine(Bu [(0,_),(1,_)]) (JL) ?_;refine(Bl 20 [(0,_)]) (lH) (fun g2=>?_);refine(Qa (s:=20) (len:=out.length) (n2:=1) 3 5 (fun r=>[_,_,_,⟨some r.g,61,ah bP out++bP (⟨t,t,false,false⟩),r.n,true⟩,_,_]) F6 L6) (bI.length out) h3 h4 (bI.one (⟨t,t,false,false⟩)) (fun r=>?_);refine A4 ?_;exact ED ⟨(out++[⟨t,t,false,false⟩],out.length+1,some r.g,r.n,r.cap),by rw[qeY hog hhv],by simp,by rw[List.length_append];exact r.h,r.hn,by simp⟩ ⟨rfl,rfl,rfl,rfl,rfl,rfl,rfl,rfl,trivial⟩ (au [some 0,some 1,some 2,some 3,some 4] ⟨pR,pR,pR,⟨_,rfl,aI (by rw[bH])⟩,pR,trivial⟩ rfl rfl)
     ·have hhv:h=false:=hb4;refine A3 ?_;exact Ni ⟨(out,out.length,ob,oN,oc),by rw[qeZ hog hhv],rfl,h3,h4,Nat.le_succ _⟩ [0,1,2,3,4]
  rintro⟨⟨o1,ln,b1,n1,c1⟩,ho1,hln,h31,h41,hl1⟩;show At _ ⟨109,[(0,.int .i64 op),(1,az ab 0 a.length ac),(2,az bb 0 b.length bc),(7,az eb 0 (fG (bV (a++b))).length ec),(8,az b1 0 ln c1),(10,bz i),(11,dV g1),(12,.bool h)],[⟨ab,61,ah bP a,aN,false⟩,⟨bb,61,ah bP b,bN,false⟩,⟨eb,38,ah iD (fG (bV (a++b))),eN,true⟩,⟨b1,61,ah bP o1,n1,true⟩,⟨some g1,38,iD t,9,true⟩]⟩ _;replace hln:ln=o1.length:=hln;subst hln;replace ho1:o1=kM out og h t:=ho1;replace h31:o1.length<=c1:=h31;replace h41:c1*20<=n1:=h41;replace hl1:o1.length<=out.length+1:=hl1;refine A4 ?_;refine Ar (((i+1:Nat):Int)) ?_;refine A5 ?_;refine Cd ?_ ?_<;>intro hb3
  ·have hend:i+1=(fG (bV (a++b))).length:=by have e:=eq_of_beq hb3;omega
   obtain rfl:o1=kY (vH op) a b:=by rw[P5,<-hI,ho1];exact YJ ht hend hh
   refine A2 ?_;refine OM rfl ?_;refine oO ?_;refine aH rfl (aj rfl) (fun w hL=>⟨⟨b1,n1,c1,h31⟩,?_,hL.pk [some 3]⟩);exact rfl
  ·have hmore:i+1<(fG (bV (a++b))).length:=by have e:=ne_of_beq_false hb3;omega
   obtain⟨u,hu⟩:∃u,(fG (bV (a++b)))[i+1]? =some u:=⟨_,List.getElem?_eq_getElem hmore⟩;have hus:=hes u (List.mem_of_getElem? hu);obtain⟨w_,hw_⟩:∃w_,vH op (oq a t u) (oq b t u)=w_:=⟨_,rfl⟩;refine A6 ?_;refine Ar (((i+1:Nat):Int)) ?_;refine ai 2 ((i+1)*9) pW iT rfl rfl rfl rfl rfl (by omega) (by omega) (dK.ne (by decide) (by omega)) (by show 0+Int.toNat _*9=_;omega) ?_;refine aO (v:=RV u) 2 ((i+1)*9) _ rfl rfl rfl rfl iT (dK.sub hu 0 9 (by decide)) rfl (by decide) rfl ?_;refine Al 9 O5 (fun g2=>?_);refine Ss 5 ?_;refine A3 ?_;refine Dp [] [0,1,2,3,5,6,7,4,8,9,10] ?_;refine A2 ?_;refine L9 4 0 ?_;refine L9 5 0 ?_;refine A1 ?_;refine L9 4 0 ?_;refine L9 5 0 ?_;refine(Sd [0]) (CX a ab aN ac hac han hsa t u hts hus) ?_;refine(Sd [1]) (CX b bb bN bc hbc hbn hsb t u hts hus) ?_;refine Pc (AO op _ _) ?_;refine aT 95 (.bool w_) rfl (congrArg Value.bool hw_) ?_;refine A8 ?_;refine Rs 97 ?_ ?_<;>intro hb4
   ·have hwv:w_=true:=hb4;refine A5 ?_;refine Cd ?_ ?_<;>intro hb5
    ·have hhv2:h=false:=by have e:=hb5;simpa using e
     refine A2 ?_;refine L9 4 0 ?_;refine L9 5 0 ?_;refine(Bu [(0,_),(1,_),(2,_),(3,_)]) (JM) ?_;refine(Bl 20 [(0,_)]) (lH) (fun g3=>?_);refine(Qa (s:=20) (len:=o1.length) (n2:=1) 3 6 (fun r=>[_,_,_,⟨some r.g,61,ah bP o1++bP (⟨t,u,true,true⟩),r.n,true⟩,_,_,_]) F6 L6) (bI.length o1) h31 h41 (bI.one (⟨t,u,true,true⟩)) (fun r=>?_);refine oO ?_;refine Ar (((i+1:Nat):Int)) ?_;refine A3 ?_;exact Nl ⟨⟨i+1,o1++[⟨t,u,true,true⟩],true,some r.g,r.n,r.cap⟩,hlt,(qbw ht hu hh hw_ hwv hhv2 ho1).symm.trans hI,fun _=>by simp,by rw[List.length_append];exact r.h,r.hn,by show(o1++_).length<=2*(i+1);rw[List.length_append];simp;omega⟩ (hμ:=(by show(fG (bV (a++b))).length-(i+1)<(fG (bV (a++b))).length-i;omega)) (ht:=⟨rfl,rfl,rfl,rfl,(aB rfl (by rw[List.length_append];rfl)),(aB rfl (congrArg Value.bool hwv)),rfl,trivial⟩) (hL:=(au [some 0,some 1,some 2,some 3] ⟨pR,pR,pR,⟨_,rfl,aI (by rw[bH])⟩,trivial⟩ rfl rfl))
    ·have hhv2:h=true:=by have e:=hb5;simpa using e
     refine lm ?_;refine Ar (((i+1:Nat):Int)) ?_;refine A3 ?_;exact Nl ⟨⟨i+1,o1,true,b1,n1,c1⟩,hlt,(qeU ht hu hh hw_ hwv hhv2 ho1).symm.trans hI,fun _=>by show 0<o1.length;rw[ho1,hhv2];exact(qbx out og t).resolve_left fun e=>by have:=hne e.1;rw[e.2] at this;simp at this,h31,h41,by show o1.length<=2*(i+1);omega⟩ (hμ:=(by show(fG (bV (a++b))).length-(i+1)<(fG (bV (a++b))).length-i;omega)) (ht:=⟨rfl,rfl,rfl,rfl,rfl,(aB rfl (congrArg Value.bool hwv)),rfl,trivial⟩) (hL:=eG.auto)
   ·have hwv:w_=false:=hb4;refine IG ?_;refine Ar (((i+1:Nat):Int)) ?_;refine A3 ?_;exact Nl ⟨⟨i+1,o1,false,b1,n1,c1⟩,hlt,(qeV ht hu hh hw_ hwv ho1).symm.trans hI,fun e=>(by cases e),h31,h41,by show o1.length<=2*(i+1);omega⟩ (hμ:=(by show(fG (bV (a++b))).length-(i+1)<(fG (bV (a++b))).length-i;omega)) (ht:=⟨rfl,rfl,rfl,rfl,rfl,(aB rfl (congrArg Value.bool hwv)),rfl,trivial⟩) (hL:=eG.auto)
 ·have hge:i=(fG (bV (a++b))).length:=(by have:=of_decide_eq_false hb1;omega);subst hge;obtain rfl:out=kY (vH op) a b:=by rw[P5,<-hI,List.drop_length];rfl
  refine lX ?_;refine aH rfl (aj rfl) (fun w hL=>⟨⟨ob,oN,oc,h3⟩,?_,hL.pk [some 3]⟩);exact rfl
end Go.Proofs.YtaffcpfhedadhaaGreatDoor
namespace Go.Via
open Go
def Ht{α:Type}{a b:List α}(h:a.take a.length=b.take a.length)(hl:a.length=b.length):a=b:=by
 rw[List.take_length,hl,List.take_length] at h;exact h
def qhH:vH 2=qk5:=by funext a b;rfl
def zRc:List Value:=[aW,aX,aW,aX,aW,aX,aW,aX,.bool false]
def qby:iD (rl 0)=zRc:=by
 have:=WL;unfold RV at this
 injection this with h
 have h2:=congrArg Array.toList h;exact h2
def Fj{x y:Rl}{n:Nat}(hx:gY x<=n)(hy:gY y<=n):gY (gX x y)<=n:=by rcases PT x y with e|e<;>rw[e]<;>assumption
def qe0{l:List oZ}(h:∀p∈l,gY p.a<=50000∧gY p.b<=50000):gY (l.foldl wM (rl 0))<=50000:=by
 have:∀(l:List oZ) (o:Rl),(∀p∈l,gY p.a<=50000∧gY p.b<=50000)->gY o<=50000->gY (l.foldl wM o)<=50000:=by
  intro l
  induction l with
  |nil=>intro o _ ho;exact ho
  |cons p l ih=>intro o hl ho;rw[List.foldl_cons];exact ih _ (fun q hq=>hl q (List.mem_cons_of_mem _ hq)) (Fj (Fj ho (hl p (List.mem_cons_self ..)).1) (hl p (List.mem_cons_self ..)).2)
 exact this l _ h (yV (by have:=wP;omega) (by omega))
def P9{x y:Rl}(h:bW y x>0):gX x y=y:=by unfold gX;rw[if_pos h]
def Qb{x y:Rl}(h:¬bW y x>0):gX x y=x:=by unfold gX;rw[if_neg h]
def Y3(x y:Rat):Qd:=⟨x*x,x*y+y*x,x*0+0*x+y*y⟩
def qhI(f g:Ln):(⟨(Y3 (f.x0-g.x0) (f.x1-g.x1)).c0+(Y3 (f.y0-g.y0) (f.y1-g.y1)).c0,(Y3 (f.x0-g.x0) (f.x1-g.x1)).c1+(Y3 (f.y0-g.y0) (f.y1-g.y1)).c1,(Y3 (f.x0-g.x0) (f.x1-g.x1)).c2+(Y3 (f.y0-g.y0) (f.y1-g.y1)).c2⟩:Qd)=d2 f g:=by
 unfold Y3 d2;dsimp only;congr 1<;>grind
def qe1{l:List oZ}{o:Rl}(h:∀p∈l,gY p.a<=50000∧gY p.b<=50000)(ho:gY o<=50000):gY (l.foldl (fun o x=>gX o (gX x.a x.b)) o)<=50000:=by
 induction l generalizing o with
 |nil=>exact ho
 |cons p l ih=>rw[List.foldl_cons];exact ih (fun q hq=>h q (List.mem_cons_of_mem _ hq)) (Fj ho (Fj (h p (List.mem_cons_self ..)).1 (h p (List.mem_cons_self ..)).2))
def Ve{l:List oZ}(h0:0<l.length):l.foldl (fun o x=>gX o (gX x.a x.b)) (l[0]'h0).a=fO l:=by
 cases l with
 |nil=>simp at h0
 |cons p l=>rfl
end Go.Via
namespace Go.Proofs.YtaffcpfhedadhaaGreatDoor
open Go Go.Via
def qbz:elW Tryz.prog 151 52 (.agg #[aW,aX,aW,aX,aW,aX,aW,aX,.bool false,aW,aX,aW,aX,aW,aX,aW,aX,.bool false,.bool false,.bool false,aW,aX,aW,aX,aW,aX,aW,aX,aW,aX,aW,aX,aW,aX,aW,aX,aW,aX,aW,aX,aW,aX,aW,aX,aW,aX,aW,aX,aW,aX,aW,aX]):=⟨by kernel_rfl,by decide⟩
end Go.Proofs.YtaffcpfhedadhaaGreatDoor
namespace Go.Via
def Ce(x y:PU):Option B3:=(jf x.i y.i).map fun m=>⟨m,x.f,y.f⟩
def CY(x y:PU):Bool:=ER x.i y.i
def I7{x y:PU}(h:jQ (eU x.i y.i)=true):(Ce x y).toList=[⟨eU x.i y.i,x.f,y.f⟩]:=by unfold Ce jf;rw[if_pos h];rfl
def qbA{x y:PU}(h:jQ (eU x.i y.i)=false):(Ce x y).toList=[]:=by unfold Ce jf;rw[if_neg (by rw[h];decide)];rfl
def Vf{α β γ:Type}{mt:α->β->Option γ}{ef:α->β->Bool}{a:List α}{b:List β}{i k:Nat}{x:α}{y:β}(hx:a[i]? =some x)(hy:b[k]? =some y)(h:ef x y=true):iK mt ef (a.drop i) (b.drop k)=(mt x y).toList++iK mt ef (a.drop (i+1)) (b.drop k):=by
 rw[yX hx,yX hy,iK,if_pos h]
def Vg{α β γ:Type}{mt:α->β->Option γ}{ef:α->β->Bool}{a:List α}{b:List β}{i k:Nat}{x:α}{y:β}(hx:a[i]? =some x)(hy:b[k]? =some y)(h:ef x y=false):iK mt ef (a.drop i) (b.drop k)=(mt x y).toList++iK mt ef (a.drop i) (b.drop (k+1)):=by
 rw[yX hx,yX hy,iK,if_neg (by rw[h];decide)]
def Tv{α β γ:Type}{mt:α->β->Option γ}{ef:α->β->Bool}{a:List α}{b:List β}{i k:Nat}(h:a.length<=i∨b.length<=k):iK mt ef (a.drop i) (b.drop k)=[]:=by
 rcases h with h|h
 ·rw[List.drop_of_length_le h];cases b.drop k<;>simp[iK]
 ·rw[List.drop_of_length_le h];cases a.drop i<;>simp[iK]
def KO{α β γ δ:Type}{mt:α->β->Option γ}{ef:α->β->Bool}(f:γ->δ):∀(a:List α) (b:List β),(iK mt ef a b).map f=iK (fun x y=>(mt x y).map f) ef a b
 |[],_=>by simp[iK]
 |_::_,[]=>by simp[iK]
 |x::xs,y::ys=>by
  rw[iK,iK,List.map_append]
  congr 1
  ·cases mt x y<;>rfl
  ·split
   ·exact KO f xs (y::ys)
   ·exact KO f (x::xs) ys
termination_by a b=>a.length+b.length
def Fp{α β γ:Type}{mt:α->β->Option γ}{ef:α->β->Bool}:∀{a:List α} {b:List β} {z:γ},z∈iK mt ef a b->∃x∈a,∃y∈b,mt x y=some z
 |[],_,z,h=>by simp[iK] at h
 |_::_,[],z,h=>by simp[iK] at h
 |x::xs,y::ys,z,h=>by
  rw[iK] at h;rcases List.mem_append.1 h with h|h
  ·exact⟨x,List.mem_cons_self ..,y,List.mem_cons_self ..,Option.mem_toList.1 h⟩
  ·split at h
   ·obtain⟨u,hu,v,hv,e⟩:=Fp h;exact⟨u,List.mem_cons_of_mem _ hu,v,hv,e⟩
   ·obtain⟨u,hu,v,hv,e⟩:=Fp h;exact⟨u,hu,v,List.mem_cons_of_mem _ hv,e⟩
termination_by a b=>a.length+b.length
def Fq{α β γ:Type}{mt:α->β->Option γ}{ef:α->β->Bool}:∀(a:List α) (b:List β),(iK mt ef a b).length<=a.length+b.length
 |[],_=>by simp[iK]
 |_::_,[]=>by simp[iK]
 |x::xs,y::ys=>by
  rw[iK,List.length_append];have h1:(mt x y).toList.length<=1:=by cases mt x y<;>simp
  split
  ·have:=Fq (mt:=mt) (ef:=ef) xs (y::ys);simp only[List.length_cons] at this ⊢;omega
  ·have:=Fq (mt:=mt) (ef:=ef) (x::xs) ys;simp only[List.length_cons] at this ⊢;omega
termination_by a b=>a.length+b.length
def Fv(a b:List PU):(iK Ce CY a b).map (fun z=>(z.i,d2 z.f z.g))=ay a b:=by
 rw[KO];unfold ay
 congr 1
 funext x y
 unfold Ce uz;cases jf x.i y.i<;>rfl
def WW{x y:Rat}{n:Nat}(hx:dw x<=n)(hy:dw y<=n):uB (Y3 x y)<=4*n+10:=by
 have z:=wP;unfold Y3;refine Gw ?_ ?_ ?_<;>dsimp only
 ·have:=aS x x;omega
 ·have:=aS x y;have:=aS y x;have:=bT (x*y) (y*x);omega
 ·have:=aS x 0;have:=aS 0 x;have:=aS y y;have:=bT (x*0) (0*x);have:=bT (x*0+0*x) (y*y);omega
def Hu(l:List PU):Prop:=∀u∈l,jV u.i<=100∧jo u.f<=100
def Hu.v{l:List PU}(h:Hu l):∀u∈l,jV u.i<=50000:=fun u hu=>Nat.le_trans (h u hu).1 (by omega)
def qfW{a b:List PU}(ha:Hu a)(hb:Hu b):∀z∈iK Ce CY a b,jV z.i<=100∧jo z.f<=100∧jo z.g<=100:=fun z hz=>by
 obtain⟨x,hx,y,hy,e⟩:=Fp hz;unfold Ce jf at e
 split at e
 ·simp at e;subst e;exact⟨Td (ha x hx).1 (hb y hy).1,(ha x hx).2,(hb y hy).2⟩
 ·simp at e
def uC(a b:List PU):(ay a b).length<=a.length+b.length:=by rw[<-Fv,List.length_map];exact Fq a b
def yu{a b:List PU}(ha:Hu a)(hb:Hu b):∀z∈ay a b,jV z.1<=100∧uB z.2<=820:=fun z hz=>by
 rw[<-Fv] at hz;obtain⟨w,hw,rfl⟩:=List.mem_map.1 hz;have:=qfW ha hb w hw;exact⟨this.1,Nat.le_trans (qbv this.2.1 this.2.2) (by omega)⟩
end Go.Via
namespace Go.Proofs.YtaffcpfhedadhaaGreatDoor
open Go Go.RowKit Go.Via
variable[Mo]
def qZ(a b:qJ)(ha:gY a.1<=50000:=by omega)(hb:gY b.1<=50000:=by omega):aP Tryz.prog 148 #[BdV a,BdV b] (.int .i64 (xg a b)):=by
 refine oG 23 Tryz.func148 fun w=>?_;refine A2 ?_;refine Bp 10 (fun g0=>?_);refine Bp 10 (fun g1=>?_);refine A7 ?_;refine L9 0 0 ?_;refine A1 ?_;refine L9 1 0 ?_;refine Pc (dL a.1 b.1 ha hb) ?_;refine A9 ?_;refine Cd ?_ ?_<;>intro hb0
 ·have hs12:bW a.1 b.1≠0:=by have e:=hb0;simpa using e
  refine A8 ?_;refine E0 ?_;rw[xg,if_pos hs12]
 ·have hs12:bW a.1 b.1=0:=by have e:=hb0;simpa using e
  refine lm ?_;refine FP rfl u4 rfl rfl rfl ?_;refine A3 ?_;refine Cd ?_ ?_<;>intro hb1
  ·have hs19:a.2=b.2:=by have e:=hb1;simpa using e
   refine A8 ?_;refine E0 ?_;rw[xg,if_neg (fun e=>e hs12),if_pos hs19]
  ·have hs19:a.2≠b.2:=by have e:=hb1;simpa using e
   refine A7 ?_;refine Cd ?_ ?_<;>intro hb2
   ·have hs20:b.2=true:=hb2;refine A8 ?_;refine E0 ?_;rw[xg,if_neg (fun e=>e hs12),if_neg hs19,if_pos hs20]
   ·have hs20:b.2=false:=hb2;refine A9 ?_;refine E0 ?_;rw[xg,if_neg (fun e=>e hs12),if_neg hs19,if_neg (by rw[hs20];decide)]
def vK(i:Iv):aP Tryz.prog 149 #[kF i] (BdV i.b):=by
 refine xJ 8 Tryz.func149 fun w=>?_;refine A2 ?_;refine Bp 20 (fun g0=>?_);refine Al 10 qgD (fun g1=>?_);refine A5 ?_;refine L9 0 0 ?_;refine A2 ?_;refine(Bu [(0,_),(1,_)]) (VT) ?_;refine Ss 1 ?_;refine A3 ?_;refine qi0 1 ?_;exact rfl
def xG(i:Iv):aP Tryz.prog 150 #[kF i] (BdV i.e):=by
 refine xJ 9 Tryz.func150 fun w=>?_;refine A2 ?_;refine Bp 20 (fun g0=>?_);refine Al 10 qgD (fun g1=>?_);refine A5 ?_;refine L9 0 9 ?_;refine A3 ?_;refine(Bu [(0,_),(1,_)]) (VT) ?_;refine Ss 1 ?_;refine A3 ?_;refine qi0 1 ?_;exact rfl
def yw(a b:qJ):aP Tryz.prog 194 #[BdV a,BdV b] (kF (Ia a b)):=by
 refine oG 15 Tryz.func194 fun w=>?_;refine A2 ?_;refine Bp 10 (fun g0=>?_);refine Bp 10 (fun g1=>?_);refine Al 20 z61 (fun g2=>?_);refine A5 ?_;refine L9 0 0 ?_;refine A1 ?_;refine L9 1 0 ?_;refine A5 ?_;refine(Bu [(0,_),(1,_),(2,_),(3,_)]) (JM) ?_;refine Ss 2 ?_;refine A3 ?_;refine qkS 2 ?_;exact rfl
def jq(x:Rl)(hx:gY x<=5000:=by omega):aP Tryz.prog 51 #[RV x] (.int .i64 (if eH x=true then 0 else 5)):=by
 have x1:=Nat.le_trans (sO x) hx;have x2:=Nat.le_trans (yj x) hx;refine xJ 31 Tryz.func51 fun w=>?_;refine A2 ?_;refine Bp 9 (fun g0=>?_);refine A7 ?_;refine L4 0 0 ?_;refine Pc (SQ x.p) ?_;refine A1 ?_;refine Kr 8 (.bool false) ?_;refine A2 ?_;refine L4 0 4 ?_;refine Pc (SQ x.r) ?_;refine A1 ?_;refine Kr 13 (.bool false) ?_;refine lm ?_;refine L4 0 4 ?_;refine Pc (fF x.r) ?_;refine A9 ?_;refine Cd ?_ ?_<;>intro hb0
 ·have hs18:x.r.num.sign= -1:=eq_of_beq hb0;refine A8 ?_;refine E0 ?_;rw[qbm hs18];rfl
 ·have hs18:x.r.num.sign≠ -1:=ne_of_beq_false hb0;refine A6 ?_;refine Cd ?_ ?_<;>intro hb1
  ·have hs20:x.r.num.sign=0:=eq_of_beq hb1;refine A7 ?_;refine Cd ?_ ?_<;>intro hb2
   ·have hs23:x.n=true:=hb2;refine A9 ?_;refine E0 ?_;rw[Oe hs20,hs23];rfl
   ·have hs23:x.n=false:=hb2;refine lm ?_;refine E0 ?_;rw[Oe hs20,hs23];rfl
  ·have hs20:x.r.num.sign≠0:=ne_of_beq_false hb1;refine A7 ?_;refine L4 0 4 ?_;refine Pc (zh x.r) ?_;refine A3 ?_;refine Al 4 qU (fun g1=>?_);refine Ss 1 ?_;refine A8 ?_;refine Cd ?_ ?_<;>intro hb2
   ·have hs30:BM x.r=true:=hb2;refine A7 ?_;refine E0 ?_;rw[Tc hs18 hs20,hs30];rfl
   ·have hs30:BM x.r=false:=hb2;refine A8 ?_;refine E0 ?_;rw[Tc hs18 hs20,hs30];rfl
def qw(i:Iv)(hi:jV i<=5000:=by omega):aP Tryz.prog 101 #[kF i] (.int .i64 (if(eH i.f&&eH i.t)=false then 5 else if jQ i=false then 10 else 0)):=by
 have i1:=Nat.le_trans (kw i) hi;have i2:=Nat.le_trans (kz i) hi;refine xJ 19 Tryz.func101 fun w=>?_;refine A2 ?_;refine Bp 20 (fun g0=>?_);refine A7 ?_;refine L9 0 0 ?_;refine Pc (jq i.f) ?_;refine A2 ?_;refine Rs 7 ?_ ?_<;>intro hb0
 ·have hs7:eH i.f=false:=by cases e:eH i.f<;>simp[e] at hb0 ⊢
  refine zT ?_;refine E0 ?_;rw[hs7];rfl
 ·have hs7:eH i.f=true:=by cases e:eH i.f<;>simp[e] at hb0 ⊢
  refine A1 ?_;refine L9 0 9 ?_;refine Pc (jq i.t) ?_;refine A4 ?_;refine Cd ?_ ?_<;>intro hb1
  ·have hs12:eH i.t=false:=by cases e:eH i.t<;>simp[e] at hb1 ⊢
   refine A7 ?_;refine E0 ?_;rw[hs7,hs12];rfl
  ·have hs12:eH i.t=true:=by cases e:eH i.t<;>simp[e] at hb1 ⊢
   refine A4 ?_;refine Dp [] [0,2,1,3,4,5] ?_;refine yB 0 0 ?_;refine yB 0 0 ?_;refine Pc (vK i) ?_;refine Pc (xG i) ?_;refine dE [_,_] rfl rfl rfl (qZ i.b i.e (by show gY i.f<=_;omega) (by show gY i.t<=_;omega)) ?_;refine A3 ?_;refine Cd ?_ ?_<;>intro hb2
   ·have hs18:jQ i=false:=by rw[Og];have e:=hb2;simp at e ⊢;omega
    refine A7 ?_;refine E0 ?_;rw[hs7,hs12,hs18];rfl
   ·have hs18:jQ i=true:=by rw[Og];have e:=hb2;simp at e ⊢;omega
    refine A8 ?_;refine E0 ?_;rw[hs7,hs12,hs18];rfl
def o6(a b:Iv)(ha:jV a<=50000:=by omega)(hb:jV b<=50000:=by omega):aP Tryz.prog 139 #[kF a,kF b] (.bool (ER a b)):=by
 have a1:=Nat.le_trans (kw a) ha;have a2:=Nat.le_trans (kz a) ha;have b1:=Nat.le_trans (kw b) hb;have b2:=Nat.le_trans (kz b) hb;refine oG 26 Tryz.func139 fun w=>?_;refine A2 ?_;refine Bp 20 (fun g0=>?_);refine Bp 20 (fun g1=>?_);refine A6 ?_;refine L9 0 9 ?_;refine A1 ?_;refine L9 1 9 ?_;refine Pc (dL a.t b.t) ?_;refine A8 ?_;refine Rs 13 ?_ ?_<;>intro hb0
 ·refine IG ?_;refine E0 ?_;exact eB (by unfold ER;first|(simp_all;done)|(simp_all;omega)|(simp_all;intros;omega))
 ·refine A3 ?_;refine Rs 16 ?_ ?_<;>intro hb1
  ·refine A3 ?_;refine Rs 19 ?_ ?_<;>intro hb2
   ·refine lm ?_;refine E0 ?_;exact eB (by unfold ER;first|(simp_all;done)|(simp_all;omega)|(simp_all;intros;omega))
   ·refine lm ?_;refine E0 ?_;exact eB (by unfold ER;first|(simp_all;done)|(simp_all;omega)|(simp_all;intros;omega))
  ·refine CB ?_;refine E0 ?_;exact eB (by unfold ER;first|(simp_all;done)|(simp_all;omega)|(simp_all;intros;omega))
def KP(a b:Iv)(ha:jV a<=50000:=by omega)(hb:jV b<=50000:=by omega):aP Tryz.prog 185 #[kF a,kF b] (.bool (EZ a b)):=by
 have a1:=Nat.le_trans (kw a) ha;have a2:=Nat.le_trans (kz a) ha;have b1:=Nat.le_trans (kw b) hb;have b2:=Nat.le_trans (kz b) hb;refine oG 25 Tryz.func185 fun w=>?_;refine A2 ?_;refine Bp 20 (fun g0=>?_);refine Bp 20 (fun g1=>?_);refine A6 ?_;refine L9 0 9 ?_;refine A1 ?_;refine L9 1 0 ?_;refine Pc (dL a.t b.f) ?_;refine A8 ?_;refine Rs 13 ?_ ?_<;>intro hb0
 ·refine zT ?_;refine E0 ?_;exact eB (by unfold EZ;first|(simp_all;done)|(simp_all;omega)|(simp_all;intros;omega))
 ·refine A3 ?_;refine Rs 16 ?_ ?_<;>intro hb1
  ·refine A3 ?_;refine Rs 19 ?_ ?_<;>intro hb2
   ·refine A9 ?_;refine E0 ?_;exact eB (by unfold EZ;first|(simp_all;done)|(simp_all;omega)|(simp_all;intros;omega))
   ·refine A9 ?_;refine E0 ?_;exact eB (by unfold EZ;first|(simp_all;done)|(simp_all;omega)|(simp_all;intros;omega))
  ·refine lX ?_;refine E0 ?_;exact eB (by unfold EZ;first|(simp_all;done)|(simp_all;omega)|(simp_all;intros;omega))
def iL(i:Iv):aP Tryz.prog 187 #[kF i] (.bool (fJ i)):=by
 refine xJ 8 Tryz.func187 fun w=>?_;refine A2 ?_;refine Bp 20 (fun g0=>?_);refine A6 ?_;refine L9 0 0 ?_;refine A1 ?_;refine L9 0 9 ?_;refine gu rfl rfl rfl rfl Mc (MB _ _) ?_;refine A4 ?_;refine E0 ?_;exact rfl
def MH(a b:Iv)(ha:jV a<=50000:=by omega)(hb:jV b<=50000:=by omega):aP Tryz.prog 138 #[kF a,kF b] (.tuple #[kF (eU a b),.bool (jQ (eU a b))]):=by
 have a1:=Nat.le_trans (kw a) ha;have a2:=Nat.le_trans (kz a) ha;have b1:=Nat.le_trans (kw b) hb;have b2:=Nat.le_trans (kz b) hb;have hmf:=Oh ha hb;have hmt:=Oi ha hb;refine oG 81 Tryz.func138 fun w=>?_;refine A2 ?_;refine Bp 20 (fun g0=>?_);refine Bp 20 (fun g1=>?_);refine Al 20 z61 (fun g2=>?_);refine A5 ?_;refine yB 0 0 ?_;refine Al 20 z61 (fun g3=>?_);refine Ss 3 ?_;refine A2 ?_;refine OW (nt:=81) [(2,dV g0),(3,dV g1),(4,dV g2),(5,.bool false),(6,dV g3)] [⟨some g0,61,bP a,20,true⟩,⟨some g1,61,bP b,20,true⟩,⟨some g2,61,qjo,20,true⟩,⟨some g3,61,bP ⟨(sH a b).1,a.t,(sH a b).2,a.tp⟩,20,true⟩] ?_ ?_
 ·refine A3 ?_;refine L9 0 0 ?_;refine A1 ?_;refine L9 1 0 ?_;refine Pc (dL a.f b.f) ?_;refine oO ?_;refine Cd ?_ ?_<;>intro hb0
  ·have hsA:bW a.f b.f<0:=of_decide_eq_true hb0;refine Di [3] ?_;refine A1 ?_;refine L9 1 0 ?_;refine A2 ?_;refine Fg 0 0 ?_;refine mW 3 0 [_,_,_,⟨some g3,61,_,20,true⟩] [_,_,_,_,_,_,_,_,_,_,_,_,_,_,_,_,_,_,_,_] rfl rfl rfl rfl iT rfl rfl rfl rfl rfl rfl ?_;refine Fg 0 18 ?_;refine mW 3 18 [_,_,_,⟨some g3,61,_,20,true⟩] [_,_,_,_,_,_,_,_,_,_,_,_,_,_,_,_,_,_,_,_] rfl rfl rfl rfl ti4 rfl rfl rfl rfl rfl rfl ?_;refine A3 ?_;exact rC ⟨rfl,rfl,rfl,rfl,rfl,trivial⟩ (au [some 0,some 1,some 2,some 3] ⟨pR,pR,pR,⟨_,rfl,aI (by rw[qeK hsA]<;>rfl)⟩,trivial⟩ rfl rfl)
  ·have hsA:¬bW a.f b.f<0:=of_decide_eq_false hb0;refine A7 ?_;refine Cd ?_ ?_<;>intro hb1
   ·have hsB:bW a.f b.f=0:=eq_of_beq hb1;refine A4 ?_;refine Rs 30 ?_ ?_<;>intro hb2
    ·have hsC:a.fo=true:=hb2;refine A4 ?_;refine Ss 3 ?_;refine A3 ?_;exact rC ⟨rfl,rfl,rfl,rfl,rfl,trivial⟩ (au [some 0,some 1,some 2,some 3] ⟨pR,pR,pR,⟨_,rfl,aI (by rw[WN hsA hsB,hsC,Bool.true_or]<;>rfl)⟩,trivial⟩ rfl rfl)
    ·have hsC:a.fo=false:=hb2;refine A4 ?_;refine Ss 3 ?_;refine A3 ?_;exact rC ⟨rfl,rfl,rfl,rfl,rfl,trivial⟩ (au [some 0,some 1,some 2,some 3] ⟨pR,pR,pR,⟨_,rfl,aI (by rw[WN hsA hsB,hsC,Bool.false_or]<;>rfl)⟩,trivial⟩ rfl rfl)
   ·have hsB:bW a.f b.f≠0:=ne_of_beq_false hb1;refine A3 ?_;exact rC ⟨rfl,rfl,rfl,rfl,rfl,trivial⟩ (au [some 0,some 1,some 2,some 3] ⟨pR,pR,pR,⟨_,rfl,aI (by rw[qeL hsA hsB]<;>rfl)⟩,trivial⟩ rfl rfl)
 refine OW (nt:=81) [(2,dV g0),(3,dV g1),(4,dV g2),(5,.bool false),(6,dV g3)] [⟨some g0,61,bP a,20,true⟩,⟨some g1,61,bP b,20,true⟩,⟨some g2,61,qjo,20,true⟩,⟨some g3,61,bP ⟨(sH a b).1,(uS a b).1,(sH a b).2,(uS a b).2⟩,20,true⟩] ?_ ?_
 ·refine A3 ?_;refine L9 0 9 ?_;refine A1 ?_;refine L9 1 9 ?_;refine Pc (dL a.t b.t) ?_;refine oO ?_;refine Cd ?_ ?_<;>intro hb1
  ·have hsA:0<bW a.t b.t:=of_decide_eq_true hb1;refine Di [3] ?_;refine A1 ?_;refine L9 1 9 ?_;refine A2 ?_;refine Fg 0 9 ?_;refine mW 3 9 [_,_,_,⟨some g3,61,_,20,true⟩] [_,_,_,_,_,_,_,_,_,_,_,_,_,_,_,_,_,_,_,_] rfl rfl rfl rfl iT rfl rfl rfl rfl rfl rfl ?_;refine Fg 0 19 ?_;refine mW 3 19 [_,_,_,⟨some g3,61,_,20,true⟩] [_,_,_,_,_,_,_,_,_,_,_,_,_,_,_,_,_,_,_,_] rfl rfl rfl rfl ti4 rfl rfl rfl rfl rfl rfl ?_;refine A3 ?_;exact rC ⟨rfl,rfl,rfl,rfl,rfl,trivial⟩ (au [some 0,some 1,some 2,some 3] ⟨pR,pR,pR,⟨_,rfl,aI (by rw[qeM hsA]<;>rfl)⟩,trivial⟩ rfl rfl)
  ·have hsA:¬0<bW a.t b.t:=of_decide_eq_false hb1;refine A7 ?_;refine Cd ?_ ?_<;>intro hb2
   ·have hsB:bW a.t b.t=0:=eq_of_beq hb2;refine A4 ?_;refine Rs 54 ?_ ?_<;>intro hb3
    ·have hsC:a.tp=true:=hb3;refine A4 ?_;refine Ss 3 ?_;refine A3 ?_;exact rC ⟨rfl,rfl,rfl,rfl,rfl,trivial⟩ (au [some 0,some 1,some 2,some 3] ⟨pR,pR,pR,⟨_,rfl,aI (by rw[WO hsA hsB,hsC,Bool.true_or]<;>rfl)⟩,trivial⟩ rfl rfl)
    ·have hsC:a.tp=false:=hb3;refine A4 ?_;refine Ss 3 ?_;refine A3 ?_;exact rC ⟨rfl,rfl,rfl,rfl,rfl,trivial⟩ (au [some 0,some 1,some 2,some 3] ⟨pR,pR,pR,⟨_,rfl,aI (by rw[WO hsA hsB,hsC,Bool.false_or]<;>rfl)⟩,trivial⟩ rfl rfl)
   ·have hsB:bW a.t b.t≠0:=ne_of_beq_false hb2;refine A3 ?_;exact rC ⟨rfl,rfl,rfl,rfl,rfl,trivial⟩ (au [some 0,some 1,some 2,some 3] ⟨pR,pR,pR,⟨_,rfl,aI (by rw[qeN hsA hsB]<;>rfl)⟩,trivial⟩ rfl rfl)
 refine A3 ?_;refine L9 3 0 ?_;refine A1 ?_;refine L9 3 9 ?_;refine Pc (dL (sH a b).1 (uS a b).1 hmf hmt) ?_;refine A4 ?_;refine Di [2] ?_;refine yB 3 0 ?_;refine A3 ?_;refine Rs 67 ?_ ?_<;>intro hb2
 ·refine CB ?_;refine mW 2 0 [_,_,⟨some g2,61,_,20,true⟩,_] [_,_,_,_,_,_,_,_,_,_,_,_,_,_,_,_,_,_,_,_] rfl rfl rfl rfl iC rfl rfl rfl rfl rfl rfl ?_;refine A4 ?_;refine bF rfl (bu 2 rfl rfl iC (vs:=[_,_,_,_,_,_,_,_,_,_,_,_,_,_,_,_,_,_,_,_]) rfl rfl (Nat.le_of_ble_eq_true rfl) rfl) (aj rfl) (fun w hL=>⟨?_,hL.below⟩);exact congrArg (fun z=>Ending.returned (.tuple #[kF (eU a b),.bool z])) (by unfold jQ eU;simp_all)
 ·refine A3 ?_;refine Rs 70 ?_ ?_<;>intro hb3
  ·refine A5 ?_;refine Rs 75 ?_ ?_<;>intro hb4
   ·refine A5 ?_;refine mW 2 0 [_,_,⟨some g2,61,_,20,true⟩,_] [_,_,_,_,_,_,_,_,_,_,_,_,_,_,_,_,_,_,_,_] rfl rfl rfl rfl iC rfl rfl rfl rfl rfl rfl ?_;refine A4 ?_;refine bF rfl (bu 2 rfl rfl iC (vs:=[_,_,_,_,_,_,_,_,_,_,_,_,_,_,_,_,_,_,_,_]) rfl rfl (Nat.le_of_ble_eq_true rfl) rfl) (aj rfl) (fun w hL=>⟨?_,hL.below⟩);exact congrArg (fun z=>Ending.returned (.tuple #[kF (eU a b),.bool z])) (by unfold jQ eU;simp_all)
   ·refine A5 ?_;refine mW 2 0 [_,_,⟨some g2,61,_,20,true⟩,_] [_,_,_,_,_,_,_,_,_,_,_,_,_,_,_,_,_,_,_,_] rfl rfl rfl rfl iC rfl rfl rfl rfl rfl rfl ?_;refine A4 ?_;refine bF rfl (bu 2 rfl rfl iC (vs:=[_,_,_,_,_,_,_,_,_,_,_,_,_,_,_,_,_,_,_,_]) rfl rfl (Nat.le_of_ble_eq_true rfl) rfl) (aj rfl) (fun w hL=>⟨?_,hL.below⟩);exact congrArg (fun z=>Ending.returned (.tuple #[kF (eU a b),.bool z])) (by unfold jQ eU;simp_all)
  ·refine lm ?_;refine mW 2 0 [_,_,⟨some g2,61,_,20,true⟩,_] [_,_,_,_,_,_,_,_,_,_,_,_,_,_,_,_,_,_,_,_] rfl rfl rfl rfl iC rfl rfl rfl rfl rfl rfl ?_;refine A4 ?_;refine bF rfl (bu 2 rfl rfl iC (vs:=[_,_,_,_,_,_,_,_,_,_,_,_,_,_,_,_,_,_,_,_]) rfl rfl (Nat.le_of_ble_eq_true rfl) rfl) (aj rfl) (fun w hL=>⟨?_,hL.below⟩);exact congrArg (fun z=>Ending.returned (.tuple #[kF (eU a b),.bool z])) (by unfold jQ eU;simp_all)
def Cf(a b:Iv)(ha:jV a<=50000:=by omega)(hb:jV b<=50000:=by omega):aP Tryz.prog 81 #[kF a,kF b] (.bool (EZ a b)):=by
 have a1:=Nat.le_trans (kw a) ha;have a2:=Nat.le_trans (kz a) ha;have b1:=Nat.le_trans (kw b) hb;have b2:=Nat.le_trans (kz b) hb;refine oG 25 Tryz.func81 fun w=>?_;refine A2 ?_;refine Bp 20 (fun g0=>?_);refine Bp 20 (fun g1=>?_);refine A6 ?_;refine L9 0 9 ?_;refine A1 ?_;refine L9 1 0 ?_;refine Pc (dL a.t b.f) ?_;refine A8 ?_;refine Rs 13 ?_ ?_<;>intro hb0
 ·refine zT ?_;refine E0 ?_;exact eB (by unfold EZ;first|(simp_all;done)|(simp_all;omega)|(simp_all;intros;omega))
 ·refine A3 ?_;refine Rs 16 ?_ ?_<;>intro hb1
  ·refine A3 ?_;refine Rs 19 ?_ ?_<;>intro hb2
   ·refine A9 ?_;refine E0 ?_;exact eB (by unfold EZ;first|(simp_all;done)|(simp_all;omega)|(simp_all;intros;omega))
   ·refine A9 ?_;refine E0 ?_;exact eB (by unfold EZ;first|(simp_all;done)|(simp_all;omega)|(simp_all;intros;omega))
  ·refine lX ?_;refine E0 ?_;exact eB (by unfold EZ;first|(simp_all;done)|(simp_all;omega)|(simp_all;intros;omega))
def Il(a:List PU)(ab:Option Nat)(aN ac:Nat)(hac:a.length<=ac)(han:a.length<=1000)(b:List PU)(bb:Option Nat)(bN bc:Nat)(hbc:b.length<=bc)(hbn:b.length<=1000)(hsa:∀u∈a,jV u.i<=50000)(hsb:∀u∈b,jV u.i<=50000):dh Tryz.prog 90 [⟨ab,201,ah aQ a,aN,false⟩,⟨bb,201,ah aQ b,bN,false⟩] [az ab 0 a.length ac,az bb 0 b.length bc] (SR (iK Ce CY a b).length) SR.v (fun z=>[⟨z.b,151,ah PN (iK Ce CY a b),z.n,true⟩]):=by
 refine V3 66 Tryz.func90 fun w hL0=>?_;refine A18 ?_;refine El (ι:={z:Nat×Nat×List B3×Option Nat×Nat×Nat // z.1<=a.length∧z.2.1<=b.length∧z.2.2.1++iK Ce CY (a.drop z.1) (b.drop z.2.1)=iK Ce CY a b∧z.2.2.1.length<=z.2.2.2.2.2∧z.2.2.2.2.2*52<=z.2.2.2.2.1∧z.2.2.1.length<=z.1+z.2.1}) (fun⟨⟨i,k,o,ob,oN,oc⟩,hi,hk,hI,h3,h4,hol⟩=>([(0,az ab 0 a.length ac),(1,az bb 0 b.length bc),(5,az ob 0 o.length oc),(6,bz i),(7,bz k)],[⟨ab,201,ah aQ a,aN,false⟩,⟨bb,201,ah aQ b,bN,false⟩,⟨ob,151,ah PN o,oN,true⟩],a.length+b.length-i-k)) ⟨⟨0,0,[],none,0,0⟩,Nat.zero_le _,Nat.zero_le _,rfl,Nat.le_refl _,by simp,Nat.le_refl _⟩ ?_ (hL:=(au [some 0,some 1,none] ⟨pR,pR,⟨rfl,rfl,rfl⟩,trivial⟩ rfl rfl));rintro⟨⟨i,k,o,ob,oN,oc⟩,hi,hk,hI,h3,h4,hol⟩;(try dsimp only);replace hi:i<=a.length:=hi;replace hk:k<=b.length:=hk;replace hI:o++iK Ce CY (a.drop i) (b.drop k)=iK Ce CY a b:=hI;replace h3:o.length<=oc:=h3;replace h4:oc*52<=oN:=h4;replace hol:o.length<=i+k:=hol;refine A8 ?_;refine Rs 14 ?_ ?_<;>intro hb1
 ·have hlt:i<a.length:=(by have:=of_decide_eq_true hb1;omega);obtain⟨x,hx⟩:∃x,a[i]? =some x:=⟨a[i],List.getElem?_eq_getElem hlt⟩;have hxs:=hsa x (List.mem_of_getElem? hx);refine A7 ?_;refine Cd ?_ ?_<;>intro hb2
  ·have hlk:k<b.length:=(by have:=of_decide_eq_true hb2;omega);obtain⟨y,hy⟩:∃y,b[k]? =some y:=⟨b[k],List.getElem?_eq_getElem hlk⟩;have hys:=hsb y (List.mem_of_getElem? hy)
   refine A5 ?_;refine fD 0 rfl (aC.ne (by decide) (by omega)) (fun hbs=>?_);obtain⟨ga,hga⟩:=Option.isSome_iff_exists.1 hbs;replace hga:ab=some ga:=hga;subst hga;refine fD 1 rfl (aC.ne (by decide) (by omega)) (fun hbs=>?_);obtain⟨gb,hgb⟩:=Option.isSome_iff_exists.1 hbs;replace hgb:bb=some gb:=hgb;subst hgb;refine Dq [3000000] [0,1,2,3,4,5,6,7,8,9,10,11,12,14,15,13,16] ?_;refine A2 ?_;refine ai 0 ((i)*36) kX jK rfl rfl rfl rfl rfl (by omega) (by omega) (aC.ne (by decide) (by omega)) (by show 0+Int.toNat _*36=_;omega) ?_;refine Fg ((i)*36) 0 ?_;refine aO (v:=kF x.i) 0 ((i)*36+0) _ rfl rfl rfl rfl iC (aC.sub hx 0 20 (by decide)) rfl (by decide) rfl ?_;refine A2 ?_;refine ai 1 ((k)*36) kX jK rfl rfl rfl rfl rfl (by omega) (by omega) (aC.ne (by decide) (by omega)) (by show 0+Int.toNat _*36=_;omega) ?_;refine Fg ((k)*36) 0 ?_;refine aO (v:=kF y.i) 1 ((k)*36+0) _ rfl rfl rfl rfl iC (aC.sub hy 0 20 (by decide)) rfl (by decide) rfl ?_;refine Pc (MH x.i y.i hxs hys) ?_;refine A2 ?_;refine Al 20 z61 (fun g0=>?_);refine Ss 3 ?_;refine A9 ?_;refine Cd ?_ ?_<;>intro hb3
   ·have hok:jQ (eU x.i y.i)=true:=hb3;refine qP (l':=[⟨_,_,_,_,_,_⟩,⟨_,_,_,_,_,_⟩,⟨_,_,_,_,_,_⟩,⟨_,_,_,_,_,_⟩,⟨_,_,_,_,_,_⟩,⟨_,_,_,_,_,_⟩,⟨_,_,_,_,_,_⟩,⟨_,_,_,_,_,_⟩,⟨_,_,_,_,_,_⟩,⟨_,_,_,_,_,_⟩,⟨_,_,_,_,_,_⟩,⟨_,_,_,_,_,_⟩]) [2000000] [1,2,3,4,5,6,7,8,9,10,11,12] [0,13,14,15] mixed (by kernel_rfl) rfl ?_;refine yB 3 0 ?_;refine A2 ?_;refine ai 0 ((i)*36) kX jK rfl rfl rfl rfl rfl (by omega) (by omega) (aC.ne (by decide) (by omega)) (by show 0+Int.toNat _*36=_;omega) ?_;refine Fg ((i)*36) 20 ?_;refine aO (v:=xK x.f) 0 ((i)*36+20) _ rfl rfl rfl rfl LZ (aC.sub hx 20 16 (by decide)) rfl (by decide) rfl ?_;refine A2 ?_;refine ai 1 ((k)*36) kX jK rfl rfl rfl rfl rfl (by omega) (by omega) (aC.ne (by decide) (by omega)) (by show 0+Int.toNat _*36=_;omega) ?_;refine Fg ((k)*36) 20 ?_;refine aO (v:=xK y.f) 1 ((k)*36+20) _ rfl rfl rfl rfl LZ (aC.sub hy 20 16 (by decide)) rfl (by decide) rfl ?_;refine(Bu [(0,_),(1,_),(2,_)]) (qdr) ?_;refine A1 ?_;refine aJ [0,13] (by kernel_rfl) ⟨⟨_,rfl,?_⟩,⟨_,rfl,?_⟩,trivial⟩
    ·refine A2 ?_;refine aJ [13] (by kernel_rfl) ⟨⟨_,rfl,?_⟩,trivial⟩
     ·refine(Bl 52 [(0,_)]) (VU) (fun g1=>?_);refine A1 ?_;refine aJ [14] (by kernel_rfl) ⟨⟨_,rfl,?_⟩,trivial⟩
      ·refine Ns (s:=52) (len:=o.length) (n2:=1) 2 4 (fun r=>[_,_,⟨some r.g,151,ah PN o++PN (⟨eU x.i y.i,x.f,y.f⟩),r.n,true⟩,_,_]) qgN qbz rfl rfl rfl rfl rfl rfl rfl rfl rfl rfl rfl rfl (Gx.length o) h3 h4 rfl (Gx.one (⟨eU x.i y.i,x.f,y.f⟩)) (by omega) (fun _=>rfl) (fun r=>?_);refine A1 ?_;refine aJ [15] (by kernel_rfl) ⟨⟨_,rfl,?_⟩,trivial⟩
       ·refine A2 ?_;refine jU rfl ?_;refine A2 ?_;refine Di [] ?_;refine A2 ?_;refine ai 0 ((i)*36) kX jK rfl rfl rfl rfl rfl (by omega) (by omega) (aC.ne (by decide) (by omega)) (by show 0+Int.toNat _*36=_;omega) ?_;refine Fg ((i)*36) 0 ?_;refine aO (v:=kF x.i) 0 ((i)*36+0) _ rfl rfl rfl rfl iC (aC.sub hx 0 20 (by decide)) rfl (by decide) rfl ?_;refine A2 ?_;refine ai 1 ((k)*36) kX jK rfl rfl rfl rfl rfl (by omega) (by omega) (aC.ne (by decide) (by omega)) (by show 0+Int.toNat _*36=_;omega) ?_;refine Fg ((k)*36) 0 ?_;refine aO (v:=kF y.i) 1 ((k)*36+0) _ rfl rfl rfl rfl iC (aC.sub hy 0 20 (by decide)) rfl (by decide) rfl ?_;refine Pc (o6 x.i y.i hxs hys) ?_;refine A2 ?_;refine Cd ?_ ?_<;>intro hb4
        ·have hef:CY x y=true:=hb4;refine A2 ?_;refine Ar (((i+1:Nat):Int)) ?_;refine A4 ?_;exact Nl ⟨⟨i+1,k,o++[⟨eU x.i y.i,x.f,y.f⟩],some r.g,r.n,r.cap⟩,hlt,hk,by rw[<-hI,Vf hx hy hef,I7 hok,List.append_assoc],by rw[List.length_append];exact r.h,r.hn,by show(o++[_]).length<=i+1+k;rw[List.length_append];show o.length+1<=i+1+k;omega⟩ (hμ:=(by show a.length+b.length-(i+1)-k<a.length+b.length-i-k;omega)) (ht:=⟨rfl,rfl,(aB rfl (by rw[List.length_append];rfl)),rfl,rfl,trivial⟩) (hL:=(au [some 0,some 1,some 2] ⟨pR,pR,⟨_,rfl,aI (by rw[bH])⟩,trivial⟩ rfl rfl))
        ·have hef:CY x y=false:=hb4;refine A2 ?_;refine Ar (((k+1:Nat):Int)) ?_;refine A4 ?_;exact Nl ⟨⟨i,k+1,o++[⟨eU x.i y.i,x.f,y.f⟩],some r.g,r.n,r.cap⟩,hi,hlk,by rw[<-hI,Vg hx hy hef,I7 hok,List.append_assoc],by rw[List.length_append];exact r.h,r.hn,by show(o++[_]).length<=i+(k+1);rw[List.length_append];show o.length+1<=i+(k+1);omega⟩ (hμ:=(by show a.length+b.length-i-(k+1)<a.length+b.length-i-k;omega)) (ht:=⟨rfl,rfl,(aB rfl (by rw[List.length_append];rfl)),rfl,rfl,trivial⟩) (hL:=(au [some 0,some 1,some 2] ⟨pR,pR,⟨_,rfl,aI (by rw[bH])⟩,trivial⟩ rfl rfl))
    ·refine(Bl 52 [(0,_)]) (VU) (fun g1=>?_);refine A1 ?_;refine aJ [0] (by kernel_rfl) ⟨⟨_,rfl,?_⟩,trivial⟩
     ·refine A2 ?_;refine aJ [14] (by kernel_rfl) ⟨⟨_,rfl,?_⟩,trivial⟩
      ·refine Ns (s:=52) (len:=o.length) (n2:=1) 2 4 (fun r=>[_,_,⟨some r.g,151,ah PN o++PN (⟨eU x.i y.i,x.f,y.f⟩),r.n,true⟩,_,_]) qgN qbz rfl rfl rfl rfl rfl rfl rfl rfl rfl rfl rfl rfl (Gx.length o) h3 h4 rfl (Gx.one (⟨eU x.i y.i,x.f,y.f⟩)) (by omega) (fun _=>rfl) (fun r=>?_);refine A1 ?_;refine aJ [15] (by kernel_rfl) ⟨⟨_,rfl,?_⟩,trivial⟩
       ·refine A2 ?_;refine jU rfl ?_;refine A2 ?_;refine Di [] ?_;refine A2 ?_;refine ai 0 ((i)*36) kX jK rfl rfl rfl rfl rfl (by omega) (by omega) (aC.ne (by decide) (by omega)) (by show 0+Int.toNat _*36=_;omega) ?_;refine Fg ((i)*36) 0 ?_;refine aO (v:=kF x.i) 0 ((i)*36+0) _ rfl rfl rfl rfl iC (aC.sub hx 0 20 (by decide)) rfl (by decide) rfl ?_;refine A2 ?_;refine ai 1 ((k)*36) kX jK rfl rfl rfl rfl rfl (by omega) (by omega) (aC.ne (by decide) (by omega)) (by show 0+Int.toNat _*36=_;omega) ?_;refine Fg ((k)*36) 0 ?_;refine aO (v:=kF y.i) 1 ((k)*36+0) _ rfl rfl rfl rfl iC (aC.sub hy 0 20 (by decide)) rfl (by decide) rfl ?_;refine Pc (o6 x.i y.i hxs hys) ?_;refine A2 ?_;refine Cd ?_ ?_<;>intro hb4
        ·have hef:CY x y=true:=hb4;refine A2 ?_;refine Ar (((i+1:Nat):Int)) ?_;refine A4 ?_;exact Nl ⟨⟨i+1,k,o++[⟨eU x.i y.i,x.f,y.f⟩],some r.g,r.n,r.cap⟩,hlt,hk,by rw[<-hI,Vf hx hy hef,I7 hok,List.append_assoc],by rw[List.length_append];exact r.h,r.hn,by show(o++[_]).length<=i+1+k;rw[List.length_append];show o.length+1<=i+1+k;omega⟩ (hμ:=(by show a.length+b.length-(i+1)-k<a.length+b.length-i-k;omega)) (ht:=⟨rfl,rfl,(aB rfl (by rw[List.length_append];rfl)),rfl,rfl,trivial⟩) (hL:=(au [some 0,some 1,some 2] ⟨pR,pR,⟨_,rfl,aI (by rw[bH])⟩,trivial⟩ rfl rfl))
        ·have hef:CY x y=false:=hb4;refine A2 ?_;refine Ar (((k+1:Nat):Int)) ?_;refine A4 ?_;exact Nl ⟨⟨i,k+1,o++[⟨eU x.i y.i,x.f,y.f⟩],some r.g,r.n,r.cap⟩,hi,hlk,by rw[<-hI,Vg hx hy hef,I7 hok,List.append_assoc],by rw[List.length_append];exact r.h,r.hn,by show(o++[_]).length<=i+(k+1);rw[List.length_append];show o.length+1<=i+(k+1);omega⟩ (hμ:=(by show a.length+b.length-i-(k+1)<a.length+b.length-i-k;omega)) (ht:=⟨rfl,rfl,(aB rfl (by rw[List.length_append];rfl)),rfl,rfl,trivial⟩) (hL:=(au [some 0,some 1,some 2] ⟨pR,pR,⟨_,rfl,aI (by rw[bH])⟩,trivial⟩ rfl rfl))
   ·have hok:jQ (eU x.i y.i)=false:=hb3;refine A3 ?_;refine Di [] ?_;refine A2 ?_;refine ai 0 ((i)*36) kX jK rfl rfl rfl rfl rfl (by omega) (by omega) (aC.ne (by decide) (by omega)) (by show 0+Int.toNat _*36=_;omega) ?_;refine Fg ((i)*36) 0 ?_;refine aO (v:=kF x.i) 0 ((i)*36+0) _ rfl rfl rfl rfl iC (aC.sub hx 0 20 (by decide)) rfl (by decide) rfl ?_;refine A2 ?_;refine ai 1 ((k)*36) kX jK rfl rfl rfl rfl rfl (by omega) (by omega) (aC.ne (by decide) (by omega)) (by show 0+Int.toNat _*36=_;omega) ?_;refine Fg ((k)*36) 0 ?_;refine aO (v:=kF y.i) 1 ((k)*36+0) _ rfl rfl rfl rfl iC (aC.sub hy 0 20 (by decide)) rfl (by decide) rfl ?_;refine Pc (o6 x.i y.i hxs hys) ?_;refine A2 ?_;refine Cd ?_ ?_<;>intro hb4
    ·have hef:CY x y=true:=hb4;refine A2 ?_;refine Ar (((i+1:Nat):Int)) ?_;refine A4 ?_;exact Nl ⟨⟨i+1,k,o,ob,oN,oc⟩,hlt,hk,by rw[<-hI,Vf hx hy hef,qbA hok,List.nil_append],h3,h4,by show o.length<=i+1+k;omega⟩ (hμ:=(by show a.length+b.length-(i+1)-k<a.length+b.length-i-k;omega)) (hL:=eG.auto)
    ·have hef:CY x y=false:=hb4;refine A2 ?_;refine Ar (((k+1:Nat):Int)) ?_;refine A4 ?_;exact Nl ⟨⟨i,k+1,o,ob,oN,oc⟩,hi,hlk,by rw[<-hI,Vg hx hy hef,qbA hok,List.nil_append],h3,h4,by show o.length<=i+(k+1);omega⟩ (hμ:=(by show a.length+b.length-i-(k+1)<a.length+b.length-i-k;omega)) (hL:=eG.auto)
  ·have hge:b.length<=k:=(by have:=of_decide_eq_false hb2;omega);obtain rfl:o=iK Ce CY a b:=by rw[<-hI,Tv (.inr hge),List.append_nil]
   refine lX ?_;refine aH rfl (aj rfl) (fun w hL=>⟨⟨ob,oN,oc,h3⟩,?_,hL.pk [some 2]⟩);exact rfl
 ·have hge:a.length<=i:=(by have:=of_decide_eq_false hb1;omega);obtain rfl:o=iK Ce CY a b:=by rw[<-hI,Tv (.inl hge),List.append_nil]
  refine A20 ?_;refine aH rfl (aj rfl) (fun w hL=>⟨⟨ob,oN,oc,h3⟩,?_,hL.pk [some 2]⟩);exact rfl
def Qc(l:List oZ)(lb:Option Nat)(lN lc:Nat)(hlc:l.length<=lc)(hln:l.length<=1000)(hsz:∀p∈l,gY p.a<=50000∧gY p.b<=50000):dh Tryz.prog 47 [⟨lb,63,ah bg l,lN,false⟩] [az lb 0 l.length lc] Unit (fun _=>RV (CO l)) (fun _=>[]):=by
 refine Md 39 Tryz.func47 fun w hL0=>?_;refine A2 ?_;refine Al 9 O5 (fun g0=>?_);refine A4 ?_;refine(Bu []) (qgF) ?_;refine aT 5 (RV (rl 0)) rfl WL.symm ?_;refine Al 9 O5 (fun g1=>?_);refine Ss 2 ?_;refine A9 ?_;refine El (ι:={z:Nat×Rl // z.1<=l.length∧z.2=(l.take z.1).foldl wM (rl 0)}) (fun⟨⟨i,m⟩,hi,hI⟩=>([(0,az lb 0 l.length lc),(2,dV g0),(3,dV g1),(4,bz i)],[⟨lb,63,ah bg l,lN,false⟩,⟨some g0,38,zRc,9,true⟩,⟨some g1,38,iD m,9,true⟩],l.length-i)) ⟨⟨0,rl 0⟩,Nat.zero_le _,rfl⟩ ?_ (hL:=eG.auto);rintro⟨⟨i,m⟩,hi,hI⟩;(try dsimp only);replace hi:i<=l.length:=hi;replace hI:m=(l.take i).foldl wM (rl 0):=hI
 have hms:gY m<=50000:=(by rw[hI];exact qe0 fun p hp=>hsz p (List.mem_of_mem_take hp));refine A9 ?_;refine Cd ?_ ?_<;>intro hb1
 ·have hlt:i<l.length:=(by have:=of_decide_eq_true hb1;omega);obtain⟨x,hx⟩:∃x,l[i]? =some x:=⟨l[i],List.getElem?_eq_getElem hlt⟩;refine fD 0 rfl (bM.ne (by decide) (by omega)) (fun hbs=>?_);obtain⟨gl,hgl⟩:=Option.isSome_iff_exists.1 hbs;replace hgl:lb=some gl:=hgl;subst hgl;have hxs:=hsz x (List.mem_of_getElem? hx);refine A6 ?_;refine Di [] ?_;refine A2 ?_;refine ai 0 ((i)*38) u32 jJ rfl rfl rfl rfl rfl (by omega) (by omega) (bM.ne (by decide) (by omega)) (by show 0+Int.toNat _*38=_;omega) ?_;refine Fg ((i)*38) 20 ?_;refine aO (v:=RV x.a) 0 ((i)*38+20) _ rfl rfl rfl rfl iT (bM.sub hx 20 9 (by decide)) rfl (by decide) rfl ?_;refine L9 2 0 ?_;refine Pc (gQ x.a m hxs.1 hms) ?_;refine A3 ?_;refine Cd ?_ ?_<;>intro hb2
  ·have hm1:gX m x.a=x.a:=P9 (of_decide_eq_true hb2);refine A3 ?_;refine ai 0 ((i)*38) u32 jJ rfl rfl rfl rfl rfl (by omega) (by omega) (bM.ne (by decide) (by omega)) (by show 0+Int.toNat _*38=_;omega) ?_;refine Fg ((i)*38) 20 ?_;refine aO (v:=RV x.a) 0 ((i)*38+20) _ rfl rfl rfl rfl iT (bM.sub hx 20 9 (by decide)) rfl (by decide) rfl ?_;refine Ss 2 ?_;refine A3 ?_;refine Di [] ?_;refine A2 ?_;refine ai 0 ((i)*38) u32 jJ rfl rfl rfl rfl rfl (by omega) (by omega) (bM.ne (by decide) (by omega)) (by show 0+Int.toNat _*38=_;omega) ?_;refine Fg ((i)*38) 29 ?_;refine aO (v:=RV x.b) 0 ((i)*38+29) _ rfl rfl rfl rfl iT (bM.sub hx 29 9 (by decide)) rfl (by decide) rfl ?_;refine L9 2 0 ?_;refine Pc (gQ x.b x.a hxs.2 hxs.1) ?_;refine A3 ?_;refine Cd ?_ ?_<;>intro hb3
   ·have hm2:gX (gX m x.a) x.b=x.b:=by rw[hm1];exact P9 (of_decide_eq_true hb3)
    refine A3 ?_;refine ai 0 ((i)*38) u32 jJ rfl rfl rfl rfl rfl (by omega) (by omega) (bM.ne (by decide) (by omega)) (by show 0+Int.toNat _*38=_;omega) ?_;refine Fg ((i)*38) 29 ?_;refine aO (v:=RV x.b) 0 ((i)*38+29) _ rfl rfl rfl rfl iT (bM.sub hx 29 9 (by decide)) rfl (by decide) rfl ?_;refine Ss 2 ?_;refine A5 ?_;refine Ar (((i+1:Nat):Int)) ?_;refine A3 ?_;exact Nl ⟨⟨i+1,gX (gX m x.a) x.b⟩,hlt,by show _=(l.take (i+1)).foldl wM (rl 0);rw[<-dD hx,List.foldl_append,<-hI];rfl⟩ (hμ:=(by show l.length-(i+1)<l.length-i;omega)) (hL:=(au [some 0,some 1,some 2] ⟨pR,pR,⟨_,rfl,aI (by rw[hm2]<;>rfl)⟩,trivial⟩ rfl rfl))
   ·have hm2:gX (gX m x.a) x.b=x.a:=by rw[hm1];exact Qb (of_decide_eq_false hb3)
    refine A5 ?_;refine Ar (((i+1:Nat):Int)) ?_;refine A3 ?_;exact Nl ⟨⟨i+1,gX (gX m x.a) x.b⟩,hlt,by show _=(l.take (i+1)).foldl wM (rl 0);rw[<-dD hx,List.foldl_append,<-hI];rfl⟩ (hμ:=(by show l.length-(i+1)<l.length-i;omega)) (hL:=(au [some 0,some 1,some 2] ⟨pR,pR,⟨_,rfl,aI (by rw[hm2]<;>rfl)⟩,trivial⟩ rfl rfl))
  ·have hm1:gX m x.a=m:=Qb (of_decide_eq_false hb2);refine A3 ?_;refine Di [] ?_;refine A2 ?_;refine ai 0 ((i)*38) u32 jJ rfl rfl rfl rfl rfl (by omega) (by omega) (bM.ne (by decide) (by omega)) (by show 0+Int.toNat _*38=_;omega) ?_;refine Fg ((i)*38) 29 ?_;refine aO (v:=RV x.b) 0 ((i)*38+29) _ rfl rfl rfl rfl iT (bM.sub hx 29 9 (by decide)) rfl (by decide) rfl ?_;refine L9 2 0 ?_;refine Pc (gQ x.b m hxs.2 hms) ?_;refine A3 ?_;refine Cd ?_ ?_<;>intro hb3
   ·have hm2:gX (gX m x.a) x.b=x.b:=by rw[hm1];exact P9 (of_decide_eq_true hb3)
    refine A3 ?_;refine ai 0 ((i)*38) u32 jJ rfl rfl rfl rfl rfl (by omega) (by omega) (bM.ne (by decide) (by omega)) (by show 0+Int.toNat _*38=_;omega) ?_;refine Fg ((i)*38) 29 ?_;refine aO (v:=RV x.b) 0 ((i)*38+29) _ rfl rfl rfl rfl iT (bM.sub hx 29 9 (by decide)) rfl (by decide) rfl ?_;refine Ss 2 ?_;refine A5 ?_;refine Ar (((i+1:Nat):Int)) ?_;refine A3 ?_;exact Nl ⟨⟨i+1,gX (gX m x.a) x.b⟩,hlt,by show _=(l.take (i+1)).foldl wM (rl 0);rw[<-dD hx,List.foldl_append,<-hI];rfl⟩ (hμ:=(by show l.length-(i+1)<l.length-i;omega)) (hL:=(au [some 0,some 1,some 2] ⟨pR,pR,⟨_,rfl,aI (by rw[hm2]<;>rfl)⟩,trivial⟩ rfl rfl))
   ·have hm2:gX (gX m x.a) x.b=m:=by rw[hm1];exact Qb (of_decide_eq_false hb3)
    refine A5 ?_;refine Ar (((i+1:Nat):Int)) ?_;refine A3 ?_;exact Nl ⟨⟨i+1,gX (gX m x.a) x.b⟩,hlt,by show _=(l.take (i+1)).foldl wM (rl 0);rw[<-dD hx,List.foldl_append,<-hI];rfl⟩ (hμ:=(by show l.length-(i+1)<l.length-i;omega)) (hL:=(au [some 0,some 1,some 2] ⟨pR,pR,⟨_,rfl,aI (by rw[hm2]<;>rfl)⟩,trivial⟩ rfl rfl))
 ·have hge:i=l.length:=(by have:=of_decide_eq_false hb1;omega);subst hge;obtain rfl:m=CO l:=by rw[hI,List.take_length];rfl
  refine A7 ?_;refine L9 2 0 ?_;refine Ss 1 ?_;refine A3 ?_;refine Ec9 1 fun w hL=>⟨(),?_,hL.pk []⟩;exact rfl
def tJ(a b c d:Rat)(ha:dw a<=40000:=by omega)(hb:dw b<=40000:=by omega)(hc:dw c<=40000:=by omega)(hd:dw d<=40000:=by omega):aP Tryz.prog 93 #[Q a,Q b,Q c,Q d] (rM (Y3 (a-c) (b-d))):=by
 have l1:=bJ a c;have l2:=bJ b d;have z0:=wP;have hs:uB ⟨a-c,b-d,0⟩<=100000:=Gw (by show dw (a-c)<=_;omega) (by show dw (b-d)<=_;omega) (by show dw 0<=_;omega);refine pB4 26 Tryz.func93 fun w=>?_;refine A2 ?_;refine Bp 4 (fun g0=>?_);refine Bp 4 (fun g1=>?_);refine Bp 4 (fun g2=>?_);refine Bp 4 (fun g3=>?_);refine Al 12 G5 (fun g4=>?_);refine A3 ?_;refine Dq [3000000] [0,1,3,4,2,5,6,7,8] ?_;refine L4 0 0 ?_;refine L4 2 0 ?_;refine L4 1 0 ?_;refine L4 3 0 ?_;refine Pc (fZ a c) ?_;refine Pc (fZ b d) ?_;refine Pc (jM (a-c) (b-d)) ?_;refine Al 12 G5 (fun g5=>?_);refine Ss 5 ?_;refine A4 ?_;refine ut 5 0 ?_;refine ut 5 0 ?_;refine Pc (Ij ⟨a-c,b-d,0⟩ ⟨a-c,b-d,0⟩ rfl rfl hs hs) ?_;refine A3 ?_;refine Al 12 G5 (fun g6=>?_);refine Ss 6 ?_;refine A5 ?_;refine ut 6 0 ?_;refine Ss 4 ?_;refine A3 ?_;refine JQ 4 ?_;exact rfl
def jO(i:Iv)(f:Qd)(h1:0<=i.f.r:=by omega)(h2:0<=i.t.r:=by omega)(hi:jV i<=10000:=by omega)(hf:uB f<=10000:=by omega):aP Tryz.prog 42 #[kF i,rM f] (Ic (aZ (i,f))):=by
 have i1:=Nat.le_trans (kw i) hi;have i2:=Nat.le_trans (kz i) hi;refine oG 15 Tryz.func42 fun w=>?_;refine A2 ?_;refine Bp 20 (fun g0=>?_);refine Bp 12 (fun g1=>?_);refine Al 38 z63 (fun g2=>?_);refine A3 ?_;refine Dp [] [0,1,2,3,5,6,7,4,8,9,10] ?_;refine yB 0 0 ?_;refine ut 1 0 ?_;refine A1 ?_;refine L9 0 0 ?_;refine ut 1 0 ?_;refine A1 ?_;refine L9 0 9 ?_;refine Pc (vz f i.f h1 hf) ?_;refine Pc (vz f i.t h2 hf) ?_;refine(Bu [(0,_),(1,_),(2,_)]) (Ut) ?_;refine Ss 2 ?_;refine A3 ?_;refine qkU 2 ?_;exact rfl
def qM(l:List oZ)(lb:Option Nat)(lN lc:Nat)(hlc:l.length<=lc)(hln:l.length<=1000)(hsz:∀p∈l,gY p.a<=50000∧gY p.b<=50000)(h0:0<l.length:=by omega):dh Tryz.prog 43 [⟨lb,63,ah bg l,lN,false⟩] [az lb 0 l.length lc] Unit (fun _=>RV (fO l)) (fun _=>[]):=by
 refine Md 25 Tryz.func43 fun w hL0=>?_;refine A2 ?_;refine Al 9 O5 (fun g0=>?_);refine A3 ?_;have hx0:l[0]? =some (l[0]'h0):=List.getElem?_eq_getElem h0;refine fD 0 rfl (bM.ne (by decide) h0) (fun hbs=>?_);obtain⟨gl,hgl⟩:=Option.isSome_iff_exists.1 hbs;replace hgl:lb=some gl:=hgl;subst hgl;refine A2 ?_;refine ai 0 ((0)*38) u32 jJ rfl rfl rfl rfl rfl (by omega) (by omega) (bM.ne (by decide) (by omega)) (by show 0+Int.toNat _*38=_;omega) ?_;refine Fg ((0)*38) 20 ?_;refine aO (v:=RV (l[0]'h0).a) 0 ((0)*38+20) _ rfl rfl rfl rfl iT (bM.sub hx0 20 9 (by decide)) rfl (by decide) rfl ?_;refine Al 9 O5 (fun g1=>?_);refine Ss 2 ?_;refine oO ?_;refine El (ι:={z:Nat×Rl // z.1<=l.length∧z.2=(l.take z.1).foldl (fun o x=>gX o (gX x.a x.b)) (l[0]'h0).a}) (fun⟨⟨i,m⟩,hi,hI⟩=>([(2,dV g0),(3,dV g1),(10,az (some gl) 0 l.length lc),(11,bz (l.length)),(12,bz i)],[⟨some gl,63,ah bg l,lN,false⟩,⟨some g0,38,zRc,9,true⟩,⟨some g1,38,iD m,9,true⟩],l.length-i)) ⟨⟨0,(l[0]'h0).a⟩,Nat.zero_le _,rfl⟩ ?_ (hL:=eG.auto);rintro⟨⟨i,m⟩,hi,hI⟩;(try dsimp only);replace hi:i<=l.length:=hi;replace hI:m=(l.take i).foldl (fun o x=>gX o (gX x.a x.b)) (l[0]'h0).a:=hI
 have hms:gY m<=50000:=(by rw[hI];exact qe1 (fun p hp=>hsz p (List.mem_of_mem_take hp)) (hsz _ (List.getElem_mem h0)).1);refine A6 ?_;refine Cd ?_ ?_<;>intro hb1
 ·have hlt:i<l.length:=(by have:=of_decide_eq_true hb1;omega);obtain⟨x,hx⟩:∃x,l[i]? =some x:=⟨l[i],List.getElem?_eq_getElem hlt⟩;have hxs:=hsz x (List.mem_of_getElem? hx);refine A6 ?_;refine ai 0 ((i)*38) u32 jJ rfl rfl rfl rfl rfl (by omega) (by omega) (bM.ne (by decide) (by omega)) (by show 0+Int.toNat _*38=_;omega) ?_;refine aO (v:=Ic x) 0 ((i)*38) _ rfl rfl rfl rfl jJ (bM.sub hx 0 38 (by decide)) rfl (by decide) rfl ?_;refine Al 38 z63 (fun g2=>?_);refine Ss 3 ?_;refine A2 ?_;refine Di [] ?_;refine L9 2 0 ?_;refine A1 ?_;refine L9 3 20 ?_;refine A1 ?_;refine L9 3 29 ?_;refine Pc (KG x.a x.b hxs.1 hxs.2) ?_;refine Pc (KG m (gX x.a x.b) hms (Fj hxs.1 hxs.2)) ?_;refine Ss 2 ?_;refine A4 ?_;refine Ar (((i+1:Nat):Int)) ?_;refine A3 ?_;exact Nl ⟨⟨i+1,gX m (gX x.a x.b)⟩,hlt,by show _=(l.take (i+1)).foldl (fun o x=>gX o (gX x.a x.b)) _;rw[<-dD hx,List.foldl_append,<-hI];rfl⟩ (hμ:=(by show l.length-(i+1)<l.length-i;omega)) (hL:=eG.auto)
 ·have hge:i=l.length:=(by have:=of_decide_eq_false hb1;omega);subst hge;obtain rfl:m=fO l:=by rw[hI,List.take_length];exact Ve h0
  refine A7 ?_;refine L9 2 0 ?_;refine Ss 1 ?_;refine A3 ?_;refine Ec9 1 fun w hL=>⟨(),?_,hL.pk []⟩;exact rfl
end Go.Proofs.YtaffcpfhedadhaaGreatDoor
namespace Go.Via
abbrev YK(l:List PU):Prop:=Ends iQ l
def qhJ{a b:List PU}(ha:Ends iQ a)(hb:Ends iQ b):∀z∈iK Ce CY a b,iQ z.i.f∧iQ z.i.t:=fun z hz=>by
 obtain⟨x,hx,y,hy,e⟩:=Fp hz;unfold Ce jf at e
 split at e
 ·simp at e;subst e;exact Gs (ha x hx) (hb y hy)
 ·simp at e
def Oo{a b:List PU}(ha:Ends iQ a)(hb:Ends iQ b):∀z∈ay a b,iQ z.1.f∧iQ z.1.t:=fun z hz=>by
 rw[<-Fv] at hz;obtain⟨w,hw,rfl⟩:=List.mem_map.1 hz;exact qhJ ha hb w hw
def Gz{x:Rl}(h:iQ x):x.r=0:=by obtain⟨z,rfl⟩:=h;rfl
def Oq{a b:List PU}(ha:Hu a)(hb:Hu b):∀p∈(ay a b).map aZ,gY p.a<=50000∧gY p.b<=50000:=fun p hp=>by
 obtain⟨z,hz,rfl⟩:=List.mem_map.1 hp;obtain⟨h1,h2⟩:=yu ha hb z hz;have l1:=Nat.le_trans (kw z.1) h1;have l2:=Nat.le_trans (kz z.1) h1;exact⟨Nat.le_trans (U9 h2 l1) (by omega),Nat.le_trans (U9 h2 l2) (by omega)⟩
def CfV(s:Value)(m:Rl):Value:= .agg #[s,.bool (decide (m.p.num<0)),.string (bQ m.p.num.natAbs),.bool false,.string (dm m.p),.bool (decide (m.r.num<0)),.string (bQ m.r.num.natAbs),.bool false,.string (dm m.r),.bool m.n]
def jS(s:Value)(m:Rl):List Value:=[s,.bool (decide (m.p.num<0)),.string (bQ m.p.num.natAbs),.bool false,.string (dm m.p),.bool (decide (m.r.num<0)),.string (bQ m.r.num.natAbs),.bool false,.string (dm m.r),.bool m.n]
def Qe:List Value:=[.slice none 0 0,aW,aX,aW,aX,aW,aX,aW,aX,.bool false]
def qbB(s:Value):jS s (rl 0)=s::zRc:=congrArg (fun l=>s::l) qby
end Go.Via
namespace Go.Via
open Go
structure Fz(a b:List PU):Prop where
 sa:qG jE a
 sb:qG jE b
 ea:YK a
 eb:YK b
def pK(a b:List PU)(i:Nat):List (Iv×Qd):=(a.take i).flatMap fun x=>b.filterMap (uz x)
def AP(x:PU)(b:List PU)(k:Nat):List (Iv×Qd):=(b.take k).filterMap (uz x)
def qe2{a b:List PU}{i:Nat}{x:PU}(hx:a[i]? =some x):pK a b (i+1)=pK a b i++AP x b b.length:=by
 unfold pK AP;rw[<-dD hx,List.flatMap_append,List.take_length];simp
def qe3{a b:List PU}{i:Nat}{x:PU}:pK a b i++AP x b 0=pK a b i:=by unfold AP;simp
def qbC{x y:PU}{b:List PU}{k:Nat}(hy:b[k]? =some y):AP x b (k+1)=AP x b k++(uz x y).toList:=by
 unfold AP;rw[<-dD hy,List.filterMap_append];exact congrArg (_++ ·) (by rw[List.filterMap_cons];cases uz x y<;>rfl)
def YL{a b:List PU}(h:Fz a b):pK a b a.length=ay a b:=by
 rw[lJ qi h.sa h.sb h.ea h.eb];unfold pK flatK;rw[List.take_length]
def I8{a b:List PU}{i k:Nat}{x y:PU}{z:Iv×Qd}(hx:a[i]? =some x)(hy:b[k]? =some y)(hz:uz x y=some z):∃r,flatK uz a b=pK a b i++AP x b k++z::r:=by
 have ha:a=a.take i++x::a.drop (i+1):=by
  obtain⟨h1,h2⟩:=List.getElem?_eq_some_iff.1 hx;rw[<-h2,List.getElem_cons_drop,List.take_append_drop]
 have hb:b=b.take k++y::b.drop (k+1):=by
  obtain⟨h1,h2⟩:=List.getElem?_eq_some_iff.1 hy;rw[<-h2,List.getElem_cons_drop,List.take_append_drop]
 refine⟨(b.drop (k+1)).filterMap (uz x)++(a.drop (i+1)).flatMap fun x=>b.filterMap (uz x),?_⟩
 have e:b.filterMap (uz x)=AP x b k++z::(b.drop (k+1)).filterMap (uz x):=by
  conv=>lhs;rw[hb]
  rw[List.filterMap_append,List.filterMap_cons_some hz];rfl
 unfold flatK pK
 conv=>lhs;rw[ha]
 rw[List.flatMap_append,List.flatMap_cons,e];simp
def qe4{a b:List PU}(h:Fz a b){i k:Nat}{x y:PU}{z:Iv×Qd}(hx:a[i]? =some x)(hy:b[k]? =some y)(hz:uz x y=some z):z∈ay a b:=by
 obtain⟨r,e⟩:=I8 hx hy hz;rw[lJ qi h.sa h.sb h.ea h.eb,e];simp
def qbD{a b:List PU}(h:Fz a b){i k:Nat}{x y:PU}{z:Iv×Qd}(hx:a[i]? =some x)(hy:b[k]? =some y)(hz:uz x y=some z){p:Iv×Qd}(hp:p∈pK a b i++AP x b k):¬bW z.1.f p.1.f<0:=by
 obtain⟨r,e⟩:=I8 hx hy hz;have hs:=(yf qi h.sb h.eb h.sa h.ea).1;rw[e] at hs;have hk:=(List.pairwise_append.1 hs).2.2 p hp z (List.mem_cons_self ..);have hm:p∈flatK uz a b:=by rw[e];exact List.mem_append_left _ hp
 have hm2:z∈flatK uz a b:=(by rw[e];simp);have h1:=IY qi h.ea h.eb p hm;have h2:=IY qi h.ea h.eb z hm2;rw[qi.lt h2.1.1 h1.1.1];have q1:=Ap jE p.1.b;have q2:=Ap jE z.1.b;have e1:p.1.b.1=p.1.f:=rfl;have e2:z.1.b.1=z.1.f:=rfl;have o1:=h1.2;rw[e1] at q1;rw[e2] at q2;omega
def qbE{a b:List PU}(h:Fz a b){i k:Nat}{x y:PU}{z:Iv×Qd}(hx:a[i]? =some x)(hy:b[k]? =some y)(hz:uz x y=some z){p:Iv×Qd}(hp:p∈pK a b i++AP x b k):p∈ay a b:=by
 obtain⟨r,e⟩:=I8 hx hy hz;rw[lJ qi h.sa h.sb h.ea h.eb,e];exact List.mem_append_left _ hp
def qbF{a b:List PU}(h:Fz a b){i k:Nat}{x y:PU}{z:Iv×Qd}(hx:a[i]? =some x)(hy:b[k]? =some y)(hz:uz x y=some z):(pK a b i++AP x b k).length<a.length+b.length:=by
 obtain⟨r,e⟩:=I8 hx hy hz;have:=uC a b;rw[lJ qi h.sa h.sb h.ea h.eb,e] at this;simp at this ⊢;omega
def qhK{x y:PU}{m:Iv}(h:jf x.i y.i=some m):uz x y=some (m,d2 x.f y.f):=by unfold uz;rw[h];rfl
def qhL{x y:PU}(h:jf x.i y.i=none):uz x y=none:=by unfold uz;rw[h];rfl
def okZ{x:Rl}(h:iQ x):x.ok:=by obtain⟨z,rfl⟩:=h;exact qfO _
def YM{x y:PU}(hx:iQ x.i.f∧iQ x.i.t)(hy:iQ y.i.f∧iQ y.i.t):kY (vH 2) [x.i] [y.i]=(jf x.i y.i).toList:=by
 rw[qhH];exact qaR qi hx hy
end Go.Via
namespace Go.Proofs.YtaffcpfhedadhaaGreatDoor
open Go Go.RowKit Go.Via
def qju(x y:PU)(ex:iQ x.i.f∧iQ x.i.t)(ey:iQ y.i.f∧iQ y.i.t)(hx:jV x.i<=50000)(hy:jV y.i<=50000)(g g' n n':Nat):dh Tryz.prog 44 [⟨some g,61,bP x.i,n,false⟩,⟨some g',61,bP y.i,n',false⟩] [.int .i64 2,az (some g) 0 1 1,az (some g') 0 1 1] (SR (jf x.i y.i).toList.length) SR.v (fun z=>[⟨z.b,61,ah bP (jf x.i y.i).toList,z.n,true⟩]):=by
 have h:=Ik 2 [x.i] (some g) n 1 (Nat.le_refl _) (by show 1<=1000;omega) [y.i] (some g') n' 1 (Nat.le_refl _) (by show 1<=1000;omega) (by simpa using hx) (by simpa using hy);rw[YM ex ey] at h;have e:∀i:Iv,ah bP [i]=bP i:=fun i=>by simp[ah]
 rw[e,e] at h;exact h
end Go.Proofs.YtaffcpfhedadhaaGreatDoor
namespace Go.Via
open Go
def YN(out:List Iv)(t:Rl)(tp:Bool):(Ol out t tp).length<=out.length:=by
 rcases List.eq_nil_or_concat out with e|⟨o,i,e⟩
 ·subst e;unfold Ol;simp
 ·subst e;rw[List.concat_eq_append,vG];simp
def Ot(out:List Iv)(og h:Bool)(t:Rl):(kM out og h t).length<=out.length+1:=by
 unfold kM;have h1:=YN out t (!h)
 repeat' split
 all_goals first|(simp;done)|omega|(simp;omega)
def Tz{here:Rl->Bool}{btw:Rl->Rl->Bool}:∀{ts:List Rl} {out:List Iv} {og:Bool},(qH here btw ts out og).length<=out.length+2*ts.length
 |[],out,og=>by unfold qH;simp
 |[t],out,og=>by unfold qH;have:=Ot out og (here t) t;simp;omega
 |t::u::ts,out,og=>by
  unfold qH;have h1:=Ot out og (here t) t;have h2:=Tz (here:=here) (btw:=btw) (ts:=u::ts) (out:=if btw t u=true∧here t=false then kM out og (here t) t++[⟨t,u,true,true⟩] else kM out og (here t) t) (og:=btw t u)
  refine Nat.le_trans h2 ?_
  split
  ·simp only[List.length_append,List.length_cons,List.length_nil];omega
  ·simp only[List.length_cons];omega
def Ou(op:Bool->Bool->Bool)(a b:List Iv):(kY op a b).length<=4*(a.length+b.length):=by
 rw[P5];have h:=Tz (here:=fun t=>op (oh a t) (oh b t)) (btw:=fun t u=>op (oq a t u) (oq b t u)) (ts:=fG (bV (a++b))) (out:=[]) (og:=false)
 have h2:=PZ (bV (a++b));rw[vI,List.length_append] at h2;simp only[List.length_nil] at h;omega
def qbG{S S':Rl->Prop}{ρ:Rl->Int}(T:gU S ρ)(h:∀x,S' x->S x):gU S' ρ:=⟨fun a b=>T.lt (h _ a) (h _ b),fun a b=>T.gt (h _ a) (h _ b),fun a b=>T.inj (h _ a) (h _ b)⟩
def SmE(n:Nat)(x:Rl):Prop:=iQ x∧gY x<=n
def Ov(n:Nat):gU (SmE n) jE:=qbG qi fun _ h=>h.1
def yx(c:List oZ):Nat->Option Iv
 |0=>none
 |n+1=>(c[n]?).map (·.i)
def WX{c:List oZ}{i:Nat}{p:oZ}(h:c[i]? =some p):yx c (i+1)=some p.i:=by show(c[i]?).map (·.i)=_;rw[h];rfl
def WY{c:List oZ}{i:Nat}{p:oZ}(h:c[i]? =some p):c.drop i=p::c.drop (i+1):=by
 obtain⟨h1,h2⟩:=List.getElem?_eq_some_iff.1 h;rw[<-h2,List.getElem_cons_drop]
def qjv{f:Option Iv->oZ->Int}{c:List oZ}{i:Nat}{p:oZ}(h:c[i]? =some p)(hL:kZ f none c=kZ f (yx c i) (c.drop i))(h0:f (yx c i) p=0):kZ f none c=kZ f (yx c (i+1)) (c.drop (i+1)):=by
 rw[hL,WY h,WX h]
 conv=>lhs;unfold kZ
 rw[if_pos h0]
def qhM{f:Option Iv->oZ->Int}{c:List oZ}{i:Nat}{p:oZ}{e:Int}(h:c[i]? =some p)(hL:kZ f none c=kZ f (yx c i) (c.drop i))(he:f (yx c i) p=e)(h0:e≠0):kZ f none c=e:=by
 rw[hL,WY h]
 conv=>lhs;unfold kZ
 rw[if_neg (by rw[he];exact h0),he]
def qhN{f:Option Iv->oZ->Int}{c:List oZ}(hL:kZ f none c=kZ f (yx c c.length) (c.drop c.length)):kZ f none c=0:=by
 rw[hL,List.drop_length];cases yx c c.length<;>rfl
end Go.Via
namespace Go.Proofs.YtaffcpfhedadhaaGreatDoor
open Go Go.RowKit Go.Via
def o7(a:List PU)(ab:Option Nat)(aN ac:Nat)(hac:a.length<=ac)(han:a.length<=1000)(b:List PU)(bb:Option Nat)(bN bc:Nat)(hbc:b.length<=bc)(hbn:b.length<=1000)(hsa:Hu a)(hsb:Hu b):dh Tryz.prog 41 [⟨ab,100,ah aQ a,aN,false⟩,⟨bb,100,ah aQ b,bN,false⟩] [az ab 0 a.length ac,az bb 0 b.length bc] (SR (ay a b).length) SR.v (fun z=>[⟨z.b,93,ah DN (ay a b),z.n,true⟩]):=by
 refine⟨by kernel_rfl,fun w hL0=>?_⟩;have hrl:=Fq (mt:=Ce) (ef:=CY) a b;refine YZ 55 Tryz.func41 hL0 ?_;refine D5 ?_;refine(Sc [0]) (vJ a ab aN ac hac han) (fun za=>?_);obtain⟨zab,zaN,zac,hzac⟩:=za;refine A1 ?_;refine(Sc [1]) (vJ b bb bN bc hbc hbn) (fun zb=>?_);obtain⟨zbb,zbN,zbc,hzbc⟩:=zb;refine(Sc [2,3]) (Il a zab zaN zac hzac han b zbb zbN zbc hzbc hbn hsa.v hsb.v) (fun zr=>?_);obtain⟨rb,rN,rc,hrc⟩:=zr;refine A5 ?_;refine El (ι:={z:Nat×List (Iv×Qd)×Option Nat×Nat×Nat // z.1<=(iK Ce CY a b).length∧z.2.1=((iK Ce CY a b).take z.1).map (fun z:B3=>(z.i,d2 z.f z.g))∧z.2.1.length<=z.2.2.2.2∧z.2.2.2.2*32<=z.2.2.2.1}) (fun⟨⟨i,o,ob,oN,oc⟩,hi,hI,h3,h4⟩=>([(5,az ob 0 o.length oc),(13,az rb 0 (iK Ce CY a b).length rc),(14,bz ((iK Ce CY a b).length)),(15,bz i)],[⟨rb,151,ah PN (iK Ce CY a b),rN,true⟩,⟨ob,93,ah DN o,oN,true⟩],(iK Ce CY a b).length-i)) ⟨⟨0,[],none,0,0⟩,Nat.zero_le _,rfl,Nat.le_refl _,by simp⟩ ?_ (hL:=(au [some 4,none] ⟨pR,⟨rfl,rfl,rfl⟩,trivial⟩ rfl rfl));rintro⟨⟨i,o,ob,oN,oc⟩,hi,hI,h3,h4⟩;(try dsimp only);replace hi:i<=(iK Ce CY a b).length:=hi;replace hI:o=((iK Ce CY a b).take i).map (fun z:B3=>(z.i,d2 z.f z.g)):=hI;replace h3:o.length<=oc:=h3;replace h4:oc*32<=oN:=h4
 have hol:o.length<=100000:=(by rw[hI,List.length_map,List.length_take];omega);refine A6 ?_;refine Cd ?_ ?_<;>intro hb1
 ·have hlt:i<(iK Ce CY a b).length:=(by have:=of_decide_eq_true hb1;omega);obtain⟨x,hx⟩:∃x,(iK Ce CY a b)[i]? =some x:=⟨_,List.getElem?_eq_getElem hlt⟩;have hxs:=qfW hsa hsb x (List.mem_of_getElem? hx);have f0:=Nat.le_trans (rQ x.f) hxs.2.1;have f1:=Nat.le_trans (rU x.f) hxs.2.1;have f2:=Nat.le_trans (rV x.f) hxs.2.1;have f3:=Nat.le_trans (rW x.f) hxs.2.1;have g0:=Nat.le_trans (rQ x.g) hxs.2.2;have g1:=Nat.le_trans (rU x.g) hxs.2.2;have g2:=Nat.le_trans (rV x.g) hxs.2.2;have g3:=Nat.le_trans (rW x.g) hxs.2.2;have s0:=bJ x.f.x0 x.g.x0;have s1:=bJ x.f.x1 x.g.x1;have s2:=bJ x.f.y0 x.g.y0;have s3:=bJ x.f.y1 x.g.y1;refine A6 ?_;refine ai 0 ((i)*52) qgN qfH rfl rfl rfl rfl rfl (by omega) (by omega) (Gx.ne (by decide) (by omega)) (by show 0+Int.toNat _*52=_;omega) ?_;refine aO (v:=B3V x) 0 ((i)*52) _ rfl rfl rfl rfl qfH (Gx.sub hx 0 52 (by decide)) rfl (by decide) rfl ?_;refine Al 52 qkA (fun g0=>?_);refine Ss 2 ?_;refine A3 ?_;refine FU (l':=[⟨_,_,_,_,_,_⟩,⟨_,_,_,_,_,_⟩,⟨_,_,_,_,_,_⟩,⟨_,_,_,_,_,_⟩,⟨_,_,_,_,_,_⟩,⟨_,_,_,_,_,_⟩,⟨_,_,_,_,_,_⟩,⟨_,_,_,_,_,_⟩,⟨_,_,_,_,_,_⟩,⟨_,_,_,_,_,_⟩,⟨_,_,_,_,_,_⟩,⟨_,_,_,_,_,_⟩,⟨_,_,_,_,_,_⟩,⟨_,_,_,_,_,_⟩,⟨_,_,_,_,_,_⟩,⟨_,_,_,_,_,_⟩,⟨_,_,_,_,_,_⟩,⟨_,_,_,_,_,_⟩,⟨_,_,_,_,_,_⟩,⟨_,_,_,_,_,_⟩,⟨_,_,_,_,_,_⟩,⟨_,_,_,_,_,_⟩,⟨_,_,_,_,_,_⟩,⟨_,_,_,_,_,_⟩,⟨_,_,_,_,_,_⟩,⟨_,_,_,_,_,_⟩,⟨_,_,_,_,_,_⟩,⟨_,_,_,_,_,_⟩,⟨_,_,_,_,_,_⟩]) [3000000] [0,1,2,3,4,5,6,7,8,9,10,11,13,14,15,16,17,18,19,20,21,22,23,24,12,25,26,27,28] mixed (VD [0,1,3,0,8,24,0,64,192,0,512,1536,4095,0,8192,24576,0,65536,196608,0,524288,1572864,0,4194304,12582912,33554431,67108863,0,268435455] (by kernel_rfl)) rfl ?_;refine A2 ?_;refine L4 2 20 ?_;refine A2 ?_;refine L4 2 24 ?_;refine A2 ?_;refine L4 2 36 ?_;refine A2 ?_;refine L4 2 40 ?_;refine A2 ?_;refine L4 2 28 ?_;refine A2 ?_;refine L4 2 32 ?_;refine A2 ?_;refine L4 2 44 ?_;refine A2 ?_;refine L4 2 48 ?_;refine Pc (tJ x.f.x0 x.f.x1 x.g.x0 x.g.x1) ?_;refine Pc (tJ x.f.y0 x.f.y1 x.g.y0 x.g.y1) ?_;refine Pc (Ii (Y3 (x.f.x0-x.g.x0) (x.f.x1-x.g.x1)) (Y3 (x.f.y0-x.g.y0) (x.f.y1-x.g.y1)) (Nat.le_trans (WW (n:=300) (by omega) (by omega)) (by omega)) (Nat.le_trans (WW (n:=300) (by omega) (by omega)) (by omega))) ?_;refine aT 45 (rM (d2 x.f x.g)) rfl (congrArg rM (qhI _ _)) ?_;refine Al 12 G5 (fun g1=>?_);refine Ss 3 ?_;refine A5 ?_;refine yB 2 0 ?_;refine ut 3 0 ?_;refine(Bu [(0,_),(1,_)]) (qgH) ?_;refine(Bl 32 [(0,_)]) (qgM) (fun g2=>?_);refine(Qa (s:=32) (len:=o.length) (n2:=1) 1 4 (fun r=>[_,⟨some r.g,93,ah DN o++DN ((x.i,d2 x.f x.g)),r.n,true⟩,_,_,_]) u88 qkF) (oH.length o) h3 h4 (oH.one ((x.i,d2 x.f x.g))) (fun r=>?_);refine A5 ?_;refine Ar (((i+1:Nat):Int)) ?_;refine A3 ?_;exact Nl ⟨⟨i+1,o++[(x.i,d2 x.f x.g)],some r.g,r.n,r.cap⟩,hlt,by show o++[(x.i,d2 x.f x.g)]=((iK Ce CY a b).take (i+1)).map (fun z:B3=>(z.i,d2 z.f z.g));rw[<-dD hx,List.map_append,<-hI];rfl,by rw[List.length_append];exact r.h,r.hn⟩ (hμ:=(by show(iK Ce CY a b).length-(i+1)<(iK Ce CY a b).length-i;omega)) (ht:=⟨(aB rfl (by rw[List.length_append];rfl)),rfl,rfl,rfl,trivial⟩) (hL:=(au [some 0,some 1] ⟨pR,⟨_,rfl,aI (by rw[bH])⟩,trivial⟩ rfl rfl))
 ·have hge:i=(iK Ce CY a b).length:=(by have:=of_decide_eq_false hb1;omega);subst hge;obtain rfl:o=ay a b:=by rw[hI,List.take_length];exact Fv a b
  refine lX ?_;refine aH rfl (aj rfl) (fun w hL=>⟨⟨ob,oN,oc,h3⟩,?_,hL.pk [some 1]⟩);exact rfl
def o8(a:List PU)(ab:Option Nat)(aN ac:Nat)(hac:a.length<=ac)(han:a.length<=400)(b:List PU)(bb:Option Nat)(bN bc:Nat)(hbc:b.length<=bc)(hbn:b.length<=400)(hsa:Hu a)(hsb:Hu b)(ea:YK a)(eb:YK b):dh Tryz.prog 14 [⟨ab,100,ah aQ a,aN,false⟩,⟨bb,100,ah aQ b,bN,false⟩] [az ab 0 a.length ac,az bb 0 b.length bc] (SR ((ay a b).map aZ).length) (fun z=> .tuple #[CfV z.v (fO ((ay a b).map aZ)),.int .i64 (if((ay a b).map aZ).length=0 then 36 else 0)]) (fun z=>[⟨z.b,63,ah bg ((ay a b).map aZ),z.n,true⟩]):=by
 refine⟨by kernel_rfl,fun w hL0=>?_⟩;have hpl:=uC a b;refine YZ 38 Tryz.func14 hL0 ?_;refine A2 ?_;refine Al 10 z40 (fun g0=>?_);refine A5 ?_;refine Al 10 z40 (fun g1=>?_);refine A7 ?_;refine(Sc [0,1]) (o7 a ab aN ac hac (by omega) b bb bN bc hbc (by omega) hsa hsb) (fun zr=>?_);obtain⟨rb,rN,rc,hrc⟩:=zr;refine A5 ?_;refine El (ι:={z:Nat×List oZ×Option Nat×Nat×Nat // z.1<=(ay a b).length∧z.2.1=((ay a b).take z.1).map aZ∧z.2.1.length<=z.2.2.2.2∧z.2.2.2.2*38<=z.2.2.2.1}) (fun⟨⟨i,o,ob,oN,oc⟩,hi,hI,h3,h4⟩=>([(4,dV g0),(5,.int .i64 0),(6,dV g1),(11,az rb 0 (ay a b).length rc),(12,bz ((ay a b).length)),(13,bz i)],[⟨rb,93,ah DN (ay a b),rN,true⟩,⟨some g0,40,Qe,10,true⟩,⟨some g1,40,jS (az ob 0 o.length oc) (rl 0),10,true⟩,⟨ob,63,ah bg o,oN,true⟩],(ay a b).length-i)) ⟨⟨0,[],none,0,0⟩,Nat.zero_le _,rfl,Nat.le_refl _,by simp⟩ ?_ (hL:=(au [some 4,some 2,some 3,none] ⟨pR,pR,⟨_,rfl,aI (by rw[qbB];rfl)⟩,⟨rfl,rfl,rfl⟩,trivial⟩ rfl rfl));rintro⟨⟨i,o,ob,oN,oc⟩,hi,hI,h3,h4⟩;(try dsimp only);replace hi:i<=(ay a b).length:=hi;replace hI:o=((ay a b).take i).map aZ:=hI;replace h3:o.length<=oc:=h3;replace h4:oc*38<=oN:=h4
 have hol:o.length<=100000:=(by rw[hI,List.length_map,List.length_take];omega);refine A6 ?_;refine Cd ?_ ?_<;>intro hb1
 ·have hlt:i<(ay a b).length:=(by have:=of_decide_eq_true hb1;omega);obtain⟨x,hx⟩:∃x,(ay a b)[i]? =some x:=⟨_,List.getElem?_eq_getElem hlt⟩;have hxs:=yu hsa hsb x (List.mem_of_getElem? hx);have hxi:=Oo ea eb x (List.mem_of_getElem? hx);refine A6 ?_;refine ai 0 ((i)*32) u88 LY rfl rfl rfl rfl rfl (by omega) (by omega) (oH.ne (by decide) (by omega)) (by show 0+Int.toNat _*32=_;omega) ?_;refine aO (v:=PtV x) 0 ((i)*32) _ rfl rfl rfl rfl LY (oH.sub hx 0 32 (by decide)) rfl (by decide) rfl ?_;refine Al 32 z93 (fun g2=>?_);refine Ss 4 ?_;refine A2 ?_;refine qP (l':=[⟨_,_,_,_,_,_⟩,⟨_,_,_,_,_,_⟩,⟨_,_,_,_,_,_⟩,⟨_,_,_,_,_,_⟩]) [2000000] [2,3,4,5] [0,1,6,7,8,9,10] mixed (by kernel_rfl) rfl ?_;refine A1 ?_;refine yB 4 0 ?_;refine A1 ?_;refine ut 4 20 ?_;refine A1 ?_;refine aJ [0,6] (by kernel_rfl) ⟨⟨_,rfl,?_⟩,⟨_,rfl,?_⟩,trivial⟩
  ·refine A2 ?_;refine aJ [1,6] (by kernel_rfl) ⟨⟨_,rfl,?_⟩,⟨_,rfl,?_⟩,trivial⟩
   ·refine A2 ?_;refine aJ [6] (by kernel_rfl) ⟨⟨_,rfl,?_⟩,trivial⟩
    ·refine Pc (jO x.1 x.2 (by rw[Gz hxi.1];exact Rat.le_refl) (by rw[Gz hxi.2];exact Rat.le_refl)) ?_;refine A1 ?_;refine aJ [7] (by kernel_rfl) ⟨⟨_,rfl,?_⟩,trivial⟩
     ·refine(Bl 38 [(0,_)]) (oD) (fun g3=>?_);refine A1 ?_;refine aJ [8] (by kernel_rfl) ⟨⟨_,rfl,?_⟩,trivial⟩
      ·refine(Qa (s:=38) (len:=o.length) (n2:=1) 3 5 (fun r=>[_,_,_,⟨some r.g,63,ah bg o++bg (aZ x),r.n,true⟩,_,_]) u32 Dx) (bM.length o) h3 h4 (bM.one (aZ x)) (fun r=>?_);refine A1 ?_;refine aJ [9] (by kernel_rfl) ⟨⟨_,rfl,?_⟩,trivial⟩
       ·refine A2 ?_;refine aJ [10] (by kernel_rfl) ⟨⟨_,rfl,?_⟩,trivial⟩
        ·refine Ss 2 ?_;refine A1 ?_;refine jU rfl ?_;refine A3 ?_;refine Ar (((i+1:Nat):Int)) ?_;refine A3 ?_;exact Nl ⟨⟨i+1,o++[aZ x],some r.g,r.n,r.cap⟩,hlt,by show o++[aZ x]=((ay a b).take (i+1)).map aZ;rw[<-dD hx,List.map_append,<-hI];rfl,by rw[List.length_append];exact r.h,r.hn⟩ (hμ:=(by show(ay a b).length-(i+1)<(ay a b).length-i;omega)) (hL:=(au [some 0,some 1,some 2,some 3] ⟨pR,pR,⟨_,rfl,aI (by rw[List.length_append];rfl)⟩,⟨_,rfl,aI (by rw[bH])⟩,trivial⟩ rfl rfl))
   ·refine Pc (jO x.1 x.2 (by rw[Gz hxi.1];exact Rat.le_refl) (by rw[Gz hxi.2];exact Rat.le_refl)) ?_;refine A1 ?_;refine aJ [1,7] (by kernel_rfl) ⟨⟨_,rfl,?_⟩,⟨_,rfl,?_⟩,trivial⟩
    ·refine A2 ?_;refine aJ [7] (by kernel_rfl) ⟨⟨_,rfl,?_⟩,trivial⟩
     ·refine(Bl 38 [(0,_)]) (oD) (fun g3=>?_);refine A1 ?_;refine aJ [8] (by kernel_rfl) ⟨⟨_,rfl,?_⟩,trivial⟩
      ·refine(Qa (s:=38) (len:=o.length) (n2:=1) 3 5 (fun r=>[_,_,_,⟨some r.g,63,ah bg o++bg (aZ x),r.n,true⟩,_,_]) u32 Dx) (bM.length o) h3 h4 (bM.one (aZ x)) (fun r=>?_);refine A1 ?_;refine aJ [9] (by kernel_rfl) ⟨⟨_,rfl,?_⟩,trivial⟩
       ·refine A2 ?_;refine aJ [10] (by kernel_rfl) ⟨⟨_,rfl,?_⟩,trivial⟩
        ·refine Ss 2 ?_;refine A1 ?_;refine jU rfl ?_;refine A3 ?_;refine Ar (((i+1:Nat):Int)) ?_;refine A3 ?_;exact Nl ⟨⟨i+1,o++[aZ x],some r.g,r.n,r.cap⟩,hlt,by show o++[aZ x]=((ay a b).take (i+1)).map aZ;rw[<-dD hx,List.map_append,<-hI];rfl,by rw[List.length_append];exact r.h,r.hn⟩ (hμ:=(by show(ay a b).length-(i+1)<(ay a b).length-i;omega)) (hL:=(au [some 0,some 1,some 2,some 3] ⟨pR,pR,⟨_,rfl,aI (by rw[List.length_append];rfl)⟩,⟨_,rfl,aI (by rw[bH])⟩,trivial⟩ rfl rfl))
    ·refine(Bl 38 [(0,_)]) (oD) (fun g3=>?_);refine A1 ?_;refine aJ [1] (by kernel_rfl) ⟨⟨_,rfl,?_⟩,trivial⟩
     ·refine A2 ?_;refine aJ [8] (by kernel_rfl) ⟨⟨_,rfl,?_⟩,trivial⟩
      ·refine(Qa (s:=38) (len:=o.length) (n2:=1) 3 5 (fun r=>[_,_,_,⟨some r.g,63,ah bg o++bg (aZ x),r.n,true⟩,_,_]) u32 Dx) (bM.length o) h3 h4 (bM.one (aZ x)) (fun r=>?_);refine A1 ?_;refine aJ [9] (by kernel_rfl) ⟨⟨_,rfl,?_⟩,trivial⟩
       ·refine A2 ?_;refine aJ [10] (by kernel_rfl) ⟨⟨_,rfl,?_⟩,trivial⟩
        ·refine Ss 2 ?_;refine A1 ?_;refine jU rfl ?_;refine A3 ?_;refine Ar (((i+1:Nat):Int)) ?_;refine A3 ?_;exact Nl ⟨⟨i+1,o++[aZ x],some r.g,r.n,r.cap⟩,hlt,by show o++[aZ x]=((ay a b).take (i+1)).map aZ;rw[<-dD hx,List.map_append,<-hI];rfl,by rw[List.length_append];exact r.h,r.hn⟩ (hμ:=(by show(ay a b).length-(i+1)<(ay a b).length-i;omega)) (hL:=(au [some 0,some 1,some 2,some 3] ⟨pR,pR,⟨_,rfl,aI (by rw[List.length_append];rfl)⟩,⟨_,rfl,aI (by rw[bH])⟩,trivial⟩ rfl rfl))
  ·refine Pc (jO x.1 x.2 (by rw[Gz hxi.1];exact Rat.le_refl) (by rw[Gz hxi.2];exact Rat.le_refl)) ?_;refine A1 ?_;refine aJ [0,7] (by kernel_rfl) ⟨⟨_,rfl,?_⟩,⟨_,rfl,?_⟩,trivial⟩
   ·refine A2 ?_;refine aJ [1,7] (by kernel_rfl) ⟨⟨_,rfl,?_⟩,⟨_,rfl,?_⟩,trivial⟩
    ·refine A2 ?_;refine aJ [7] (by kernel_rfl) ⟨⟨_,rfl,?_⟩,trivial⟩
     ·refine(Bl 38 [(0,_)]) (oD) (fun g3=>?_);refine A1 ?_;refine aJ [8] (by kernel_rfl) ⟨⟨_,rfl,?_⟩,trivial⟩
      ·refine(Qa (s:=38) (len:=o.length) (n2:=1) 3 5 (fun r=>[_,_,_,⟨some r.g,63,ah bg o++bg (aZ x),r.n,true⟩,_,_]) u32 Dx) (bM.length o) h3 h4 (bM.one (aZ x)) (fun r=>?_);refine A1 ?_;refine aJ [9] (by kernel_rfl) ⟨⟨_,rfl,?_⟩,trivial⟩
       ·refine A2 ?_;refine aJ [10] (by kernel_rfl) ⟨⟨_,rfl,?_⟩,trivial⟩
        ·refine Ss 2 ?_;refine A1 ?_;refine jU rfl ?_;refine A3 ?_;refine Ar (((i+1:Nat):Int)) ?_;refine A3 ?_;exact Nl ⟨⟨i+1,o++[aZ x],some r.g,r.n,r.cap⟩,hlt,by show o++[aZ x]=((ay a b).take (i+1)).map aZ;rw[<-dD hx,List.map_append,<-hI];rfl,by rw[List.length_append];exact r.h,r.hn⟩ (hμ:=(by show(ay a b).length-(i+1)<(ay a b).length-i;omega)) (hL:=(au [some 0,some 1,some 2,some 3] ⟨pR,pR,⟨_,rfl,aI (by rw[List.length_append];rfl)⟩,⟨_,rfl,aI (by rw[bH])⟩,trivial⟩ rfl rfl))
    ·refine(Bl 38 [(0,_)]) (oD) (fun g3=>?_);refine A1 ?_;refine aJ [1] (by kernel_rfl) ⟨⟨_,rfl,?_⟩,trivial⟩
     ·refine A2 ?_;refine aJ [8] (by kernel_rfl) ⟨⟨_,rfl,?_⟩,trivial⟩
      ·refine(Qa (s:=38) (len:=o.length) (n2:=1) 3 5 (fun r=>[_,_,_,⟨some r.g,63,ah bg o++bg (aZ x),r.n,true⟩,_,_]) u32 Dx) (bM.length o) h3 h4 (bM.one (aZ x)) (fun r=>?_);refine A1 ?_;refine aJ [9] (by kernel_rfl) ⟨⟨_,rfl,?_⟩,trivial⟩
       ·refine A2 ?_;refine aJ [10] (by kernel_rfl) ⟨⟨_,rfl,?_⟩,trivial⟩
        ·refine Ss 2 ?_;refine A1 ?_;refine jU rfl ?_;refine A3 ?_;refine Ar (((i+1:Nat):Int)) ?_;refine A3 ?_;exact Nl ⟨⟨i+1,o++[aZ x],some r.g,r.n,r.cap⟩,hlt,by show o++[aZ x]=((ay a b).take (i+1)).map aZ;rw[<-dD hx,List.map_append,<-hI];rfl,by rw[List.length_append];exact r.h,r.hn⟩ (hμ:=(by show(ay a b).length-(i+1)<(ay a b).length-i;omega)) (hL:=(au [some 0,some 1,some 2,some 3] ⟨pR,pR,⟨_,rfl,aI (by rw[List.length_append];rfl)⟩,⟨_,rfl,aI (by rw[bH])⟩,trivial⟩ rfl rfl))
   ·refine(Bl 38 [(0,_)]) (oD) (fun g3=>?_);refine A1 ?_;refine aJ [0] (by kernel_rfl) ⟨⟨_,rfl,?_⟩,trivial⟩
    ·refine A2 ?_;refine aJ [1] (by kernel_rfl) ⟨⟨_,rfl,?_⟩,trivial⟩
     ·refine A2 ?_;refine aJ [8] (by kernel_rfl) ⟨⟨_,rfl,?_⟩,trivial⟩
      ·refine(Qa (s:=38) (len:=o.length) (n2:=1) 3 5 (fun r=>[_,_,_,⟨some r.g,63,ah bg o++bg (aZ x),r.n,true⟩,_,_]) u32 Dx) (bM.length o) h3 h4 (bM.one (aZ x)) (fun r=>?_);refine A1 ?_;refine aJ [9] (by kernel_rfl) ⟨⟨_,rfl,?_⟩,trivial⟩
       ·refine A2 ?_;refine aJ [10] (by kernel_rfl) ⟨⟨_,rfl,?_⟩,trivial⟩
        ·refine Ss 2 ?_;refine A1 ?_;refine jU rfl ?_;refine A3 ?_;refine Ar (((i+1:Nat):Int)) ?_;refine A3 ?_;exact Nl ⟨⟨i+1,o++[aZ x],some r.g,r.n,r.cap⟩,hlt,by show o++[aZ x]=((ay a b).take (i+1)).map aZ;rw[<-dD hx,List.map_append,<-hI];rfl,by rw[List.length_append];exact r.h,r.hn⟩ (hμ:=(by show(ay a b).length-(i+1)<(ay a b).length-i;omega)) (hL:=(au [some 0,some 1,some 2,some 3] ⟨pR,pR,⟨_,rfl,aI (by rw[List.length_append];rfl)⟩,⟨_,rfl,aI (by rw[bH])⟩,trivial⟩ rfl rfl))
 ·have hge:i=(ay a b).length:=(by have:=of_decide_eq_false hb1;omega);subst hge;obtain rfl:o=(ay a b).map aZ:=by rw[hI,List.take_length]
  refine D5 ?_;refine Cd ?_ ?_<;>intro hb2
  ·have hz:((ay a b).map aZ).length=0:=by have e:=hb2;simp at e ⊢;omega
   refine A2 ?_;refine LG 2 0 ?_;refine Ss 1 ?_;refine A5 ?_;refine bF rfl (bu 1 rfl rfl qgB (vs:=[_,_,_,_,_,_,_,_,_,_]) rfl rfl (Nat.le_of_ble_eq_true rfl) rfl) (aj rfl) (fun w hL=>⟨⟨ob,oN,oc,h3⟩,?_,hL.pk [some 3]⟩);rw[if_pos hz,show fO ((ay a b).map aZ)=rl 0 from by rw[List.length_eq_zero_iff.1 hz];rfl];exact rfl
  ·have hz:((ay a b).map aZ).length≠0:=by have e:=hb2;simp at e ⊢;omega
   refine A6 ?_;refine(Sd [3]) (qM ((ay a b).map aZ) ob oN oc h3 (by rw[List.length_map];omega) (Oq hsa hsb)) ?_;refine A1 ?_;refine Ss 2 ?_;refine A4 ?_;refine LG 2 0 ?_;refine Ss 1 ?_;refine A4 ?_;refine bF rfl (bu 1 rfl rfl qgB (vs:=[_,_,_,_,_,_,_,_,_,_]) rfl rfl (Nat.le_of_ble_eq_true rfl) rfl) (aj rfl) (fun w hL=>⟨⟨ob,oN,oc,h3⟩,?_,hL.pk [some 3]⟩);rw[if_neg hz];exact rfl
def FB(a:List oZ)(ab:Option Nat)(aN ac:Nat)(hac:a.length<=ac)(han:a.length<=1000)(b:List oZ)(bb:Option Nat)(bN bc:Nat)(hbc:b.length<=bc)(hbn:b.length<=1000)(m n:Rl):dh Tryz.prog 17 [⟨ab,63,ah bg a,aN,false⟩,⟨bb,63,ah bg b,bN,false⟩] [CfV (az ab 0 a.length ac) m,CfV (az bb 0 b.length bc) n] Unit (fun _=> .bool (decide (a=b∧m=n))) (fun _=>[]):=by
 refine V3 38 Tryz.func17 fun w hL0=>?_;refine A2 ?_;refine Bp 10 (fun g0=>?_);refine Bp 10 (fun g1=>?_);refine D5 ?_;refine Rs 13 ?_ ?_<;>intro hb0
 ·have hle:a.length≠b.length:=by have e:=hb0;simp at e;omega
  refine IG ?_;refine aH rfl (aj rfl) (fun w hL=>⟨(),?_,hL.pk []⟩);exact eB (decide_eq_false (fun e=>hle (by rw[e.1]))).symm
 ·have hle:a.length=b.length:=by have e:=hb0;simp at e;omega
  refine A1 ?_;refine L9 2 1 ?_;refine A1 ?_;refine L9 3 1 ?_;refine xM rfl rfl rfl rfl Mc (MB _ _) ?_;refine A3 ?_;refine Cd ?_ ?_<;>intro hb1
  ·have hmn:m≠n:=by have e:=hb1;simpa using e
   refine A7 ?_;refine aH rfl (aj rfl) (fun w hL=>⟨(),?_,hL.pk []⟩);exact eB (decide_eq_false (fun e=>hmn e.2)).symm
  ·have hmn:m=n:=by have e:=hb1;simpa using e
   refine A9 ?_;refine El (ι:={i:Nat // i<=a.length∧a.take i=b.take i}) (fun⟨i,hi,hI⟩=>([(2,dV g0),(3,dV g1),(5,bz i)],[⟨ab,63,ah bg a,aN,false⟩,⟨bb,63,ah bg b,bN,false⟩,⟨some g0,40,jS (az ab 0 a.length ac) m,10,true⟩,⟨some g1,40,jS (az bb 0 b.length bc) n,10,true⟩],a.length-i)) ⟨0,Nat.zero_le _,rfl⟩ ?_ (hL:=eG.auto);rintro⟨i,hi,hI⟩;(try dsimp only);refine lm ?_;refine Cd ?_ ?_<;>intro hb3
   ·have hlt:i<a.length:=(by have:=of_decide_eq_true hb3;omega);obtain⟨x,hx⟩:∃x,a[i]? =some x:=⟨a[i],List.getElem?_eq_getElem hlt⟩;obtain⟨y,hy⟩:∃y,b[i]? =some y:=⟨_,List.getElem?_eq_getElem (by omega)⟩;refine fD 0 rfl (bM.ne (by decide) (by omega)) (fun hbs=>?_);obtain⟨ga,hga⟩:=Option.isSome_iff_exists.1 hbs;replace hga:ab=some ga:=hga;subst hga;refine fD 1 rfl (bM.ne (by decide) (by omega)) (fun hbs=>?_);obtain⟨gb,hgb⟩:=Option.isSome_iff_exists.1 hbs;replace hgb:bb=some gb:=hgb;subst hgb;refine A5 ?_;refine Di [] ?_;refine A3 ?_;refine ai 0 ((i)*38) u32 jJ rfl rfl rfl rfl rfl (by omega) (by omega) (bM.ne (by decide) (by omega)) (by show 0+Int.toNat _*38=_;omega) ?_;refine aO (v:=Ic x) 0 ((i)*38) _ rfl rfl rfl rfl jJ (bM.sub hx 0 38 (by decide)) rfl (by decide) rfl ?_;refine A3 ?_;refine ai 1 ((i)*38) u32 jJ rfl rfl rfl rfl rfl (by omega) (by omega) (bM.ne (by decide) (by omega)) (by show 0+Int.toNat _*38=_;omega) ?_;refine aO (v:=Ic y) 1 ((i)*38) _ rfl rfl rfl rfl jJ (bM.sub hy 0 38 (by decide)) rfl (by decide) rfl ?_;refine xM rfl rfl rfl rfl qdB (qem _ _) ?_;refine A2 ?_;refine Cd ?_ ?_<;>intro hb4
    ·have hxy:x≠y:=by have e:=hb4;simpa using e
     refine oO ?_;refine aH rfl (aj rfl) (fun w hL=>⟨(),?_,hL.pk []⟩);exact eB (decide_eq_false (fun e=>hxy (by rw[e.1,hy] at hx;cases hx;rfl))).symm
    ·have hxy:x=y:=by have e:=hb4;simpa using e
     refine A5 ?_;refine Ar (((i+1:Nat):Int)) ?_;refine A3 ?_;exact Nl ⟨i+1,hlt,by rw[<-dD hx,<-dD hy,hI,hxy]⟩ (hL:=eG.auto)
   ·have hge:i=a.length:=(by have:=of_decide_eq_false hb3;omega);subst hge;refine oO ?_;refine aH rfl (aj rfl) (fun w hL=>⟨(),?_,hL.pk []⟩);exact eB (decide_eq_true ⟨Ht hI hle,hmn⟩).symm
end Go.Proofs.YtaffcpfhedadhaaGreatDoor
