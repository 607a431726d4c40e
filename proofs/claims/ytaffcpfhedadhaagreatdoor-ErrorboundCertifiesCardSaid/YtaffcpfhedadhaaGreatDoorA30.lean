/-
  Part 30 (chapter 32): lemmas, walks. Each theorem states its own conditions.
-/
import Derived.Test.YtaffcpfhedadhaaGreatDoorA12
import Derived.Test.YtaffcpfhedadhaaGreatDoorA13
import Derived.Test.YtaffcpfhedadhaaGreatDoorA27
import Derived.Test.YtaffcpfhedadhaaGreatDoorA28
import Derived.Test.YtaffcpfhedadhaaGreatDoorA29
import Derived.Test.YtaffcpfhedadhaaGreatDoorA18
set_option linter.all false
set_option maxRecDepth 20000
set_option maxHeartbeats 20000000
section
variable{P Q:Prop}{T:Type}{R:T->Prop}
def WP(h:P:=by refine qU 2 0 [_,_,⟨some g2,61,_,20,true⟩,_] [_,_,_,_,_,_,_,_,_,_,_,_,_,_,_,_,_,_,_,_] rfl rfl rfl rfl iR rfl rfl rfl rfl rfl rfl ?_;refine A4 ?_;refine bF rfl (bn 2 rfl rfl iR (vs:=[_,_,_,_,_,_,_,_,_,_,_,_,_,_,_,_,_,_,_,_]) rfl rfl (Nat.le_of_ble_eq_true rfl) rfl) (aj rfl) (fun w hL=>⟨?_,hL.below⟩);exact congrArg (fun z=>Ending.returned (.tuple #[kG (fE a b),.bool z])) (by unfold jP fE;simp_all)):=h
end
namespace Go.Proofs.YtaffcpfhedadhaaGreatDoor
open Go Go.RowKit Go.Via
def Hl(op:Int)(a:List Iv)(ab:Option Nat)(aN ac:Nat)(hac:a.length<=ac)(han:a.length<=1000)(b:List Iv)(bb:Option Nat)(bN bc:Nat)(hbc:b.length<=bc)(hbn:b.length<=1000)(hsa:∀x∈a,jB x<=50000)(hsb:∀x∈b,jB x<=50000):bW Tryz.prog 44 [⟨ab,61,ah bG a,aN,false⟩,⟨bb,61,ah bG b,bN,false⟩] [.int .i64 op,az ab 0 a.length ac,az bb 0 b.length bc] (SR (kD (uG op) a b).length) SR.v (fun z=>[⟨z.b,61,ah bG (kD (uG op) a b),z.n,true⟩]):=by
 refine sB3 109 Tryz.func44 fun w hL0=>?_;refine A6 ?_;refine qF 0 rfl (fun hba=>?_);refine qF 1 rfl (fun hbb=>?_);have hoa:a.length=0∨∃g,ab=some g:=rF bu (by decide) hba;have hob:b.length=0∨∃g,bb=some g:=rF bu (by decide) hbb
 have hsab:∀x∈a++b,jB x<=50000:=fun x hx=>(List.mem_append.1 hx).elim (hsa x) (hsb x)
 refine A1 ?_;refine(Bl 0 []) (qhk) (fun g0=>?_);refine A1 ?_;refine gG (s:=20) (len:=0) 2 0 (ah bG a) (fun r=>[_,_,⟨r.b,61,ah bG a,r.n,true⟩]) FH Lh rfl rfl rfl rfl rfl rfl rfl rfl rfl rfl rfl (Nat.le_refl _) (Nat.le_refl _) hoa (List.take_of_length_le (by show(ah bG a).length<=_;rw[bu.length];exact Nat.le_refl _)) (bu.length a) (bu.ones _) (by omega) (fun _=>rfl) (fun r=>?_);refine A1 ?_;refine(Qo (s:=20) (len:=0+a.length) 2 1 (ah bG b) (fun r2=>[_,_,⟨r2.b,61,ah bG a++ah bG b,r2.n,true⟩]) FH Lh) (by exact(by rw[bu.length,Nat.zero_add])) r.h r.hn hob (by exact(List.take_of_length_le (by show(ah bG b).length<=_;rw[bu.length];exact Nat.le_refl _))) (bu.length b) (bu.ones _) (fun r2=>?_);obtain⟨rb2,rn2,rc2,rh2,rhn2⟩:=r2;refine aQ 20 (az rb2 0 (a++b).length rc2) rfl (by show az rb2 0 (0+a.length+b.length) rc2=_;rw[List.length_append,Nat.zero_add]) ?_;refine jr [_] [2] rfl rfl rfl (PE (a++b) rb2 rn2 rc2 (by simp at rh2 ⊢;omega) (by simp;omega) hsab) ⟨⟨_,rfl,by rw[kM];exact qV⟩,trivial⟩ rfl (.inr fun x b hb=>by rw[List.mem_singleton.1 hb]) (fun z=>?_);obtain⟨eb,eN,ec,hec⟩:=z;refine A4 ?_;have hes:∀y∈dW (bM (a++b)),gz y<=50000:=WN (p:=fun y=>gz y<=50000) (WO hsab);have hel:(dW (bM (a++b))).length<=4000:=by have:=Px (bM (a++b));rw[uH,List.length_append] at this;omega
 refine KT ?_;refine El (ι:={z:Nat×List Iv×Bool×Option Nat×Nat×Nat // z.1<=(dW (bM (a++b))).length∧pK (fun t=>uG op (ny a t) (ny b t)) (fun t u=>uG op (nz a t u) (nz b t u)) ((dW (bM (a++b))).drop z.1) z.2.1 z.2.2.1=pK (fun t=>uG op (ny a t) (ny b t)) (fun t u=>uG op (nz a t u) (nz b t u)) (dW (bM (a++b))) [] false∧(z.2.2.1=true->0<z.2.1.length)∧z.2.1.length<=z.2.2.2.2.2∧z.2.2.2.2.2*20<=z.2.2.2.2.1∧z.2.1.length<=2*z.1}) (fun⟨⟨i,out,og,ob,oN,oc⟩,hi,hI,hne,h3,h4,hol⟩=>([(0,.int .i64 op),(1,az ab 0 a.length ac),(2,az bb 0 b.length bc),(7,az eb 0 (dW (bM (a++b))).length ec),(8,az ob 0 out.length oc),(9,.bool og),(10,aZ i)],[⟨ab,61,ah bG a,aN,false⟩,⟨bb,61,ah bG b,bN,false⟩,⟨eb,38,ah jX (dW (bM (a++b))),eN,true⟩,⟨ob,61,ah bG out,oN,true⟩],(dW (bM (a++b))).length-i)) ⟨⟨0,[],false,none,0,0⟩,Nat.zero_le _,rfl,fun e=>(by cases e),Nat.le_refl _,by simp,by simp⟩ ?_ (hL:=(ak [some 0,some 1,some 3,none] ⟨pR,pR,pR,⟨rfl,rfl,rfl⟩,trivial⟩ rfl rfl));rintro⟨⟨i,out,og,ob,oN,oc⟩,hi,hI,hne,h3,h4,hol⟩;(try dsimp only);replace hi:i<=(dW (bM (a++b))).length:=hi;replace hI:pK (fun t=>uG op (ny a t) (ny b t)) (fun t u=>uG op (nz a t u) (nz b t u)) ((dW (bM (a++b))).drop i) out og=pK (fun t=>uG op (ny a t) (ny b t)) (fun t u=>uG op (nz a t u) (nz b t u)) (dW (bM (a++b))) [] false:=hI;replace hne:og=true->0<out.length:=hne;replace h3:out.length<=oc:=h3;replace h4:oc*20<=oN:=h4;replace hol:out.length<=2*i:=hol;refine A9 ?_;refine Cd ?_ ?_<;>intro haQ
 ·have hlt:i<(dW (bM (a++b))).length:=(by have:=of_decide_eq_true haQ;omega);obtain⟨t,ht⟩:∃t,(dW (bM (a++b)))[i]? =some t:=⟨_,List.getElem?_eq_getElem hlt⟩;have hts:=hes t (List.mem_of_getElem? ht);obtain⟨h,hh⟩:∃h,uG op (ny a t) (ny b t)=h:=⟨_,rfl⟩;refine A8 ?_;refine ai 2 ((i)*9) yu iH rfl rfl rfl rfl rfl (by omega) (by omega) (gq.ne (by decide) (by omega)) (by show 0+Int.toNat _*9=_;omega) ?_;refine aI (v:=RV t) 2 ((i)*9) _ rfl rfl rfl rfl iH (gq.sub ht 0 9 (by decide)) rfl (by decide) rfl ?_;refine Al 9 OD (fun g1=>?_);refine Ss 4 ?_;refine A3 ?_;refine Dp [] [0,1,2,4,5,3,6,7,8] ?_;refine A2 ?_;refine L9 4 0 ?_;refine A1 ?_;refine L9 4 0 ?_;refine(Sd [0]) (BZ a ab aN ac hac han hsa t hts) ?_;refine(Sd [1]) (BZ b bb bN bc hbc hbn hsb t hts) ?_;refine Pc (Ae op _ _) ?_;refine aQ 39 (.bool h) rfl (congrArg Value.bool hh) ?_;refine A7 ?_;refine(Aq ((out.length:Int)-1)) (by exact(congrArg some (wi (by omega) (by omega) rfl))) ?_;refine A3 ?_;refine nU (nt:=109) (X:={z:List Iv×Nat×Option Nat×Nat×Nat // z.1=jV out og h t∧z.2.1=z.1.length∧z.1.length<=z.2.2.2.2∧z.2.2.2.2*20<=z.2.2.2.1∧z.1.length<=out.length+1}) (fun⟨⟨o1,ln,b1,n1,c1⟩,ho1,hln,h31,h41,hl1⟩=>[(0,.int .i64 op),(1,az ab 0 a.length ac),(2,az bb 0 b.length bc),(7,az eb 0 (dW (bM (a++b))).length ec),(8,az b1 0 ln c1),(10,aZ i),(11,dD g1),(12,.bool h)]) (fun⟨⟨o1,ln,b1,n1,c1⟩,ho1,hln,h31,h41,hl1⟩=>[⟨ab,61,ah bG a,aN,false⟩,⟨bb,61,ah bG b,bN,false⟩,⟨eb,38,ah jX (dW (bM (a++b))),eN,true⟩,⟨b1,61,ah bG o1,n1,true⟩,⟨some g1,38,jX t,9,true⟩]) ?_ ?_
  ·refine A5 ?_;refine Rs 45 ?_ ?_<;>intro hbQ
   ·have hog:og=true:=hbQ;refine A5 ?_;refine Cd ?_ ?_<;>intro hcQ
    ·have hhv:h=true:=hcQ;have hon:=hne hog;obtain⟨j,hj⟩:∃j,out[out.length-1]? =some j:=⟨_,List.getElem?_eq_getElem (by omega)⟩;refine eF 3 rfl (bu.ne (by decide) (by omega)) (fun hbs=>?_);obtain⟨go,hgo⟩:=Option.isSome_iff_exists.1 hbs;replace hgo:ob=some go:=hgo;subst hgo;refine A5 ?_;refine L9 4 0 ?_;refine ai 3 ((out.length-1)*20) FH iR rfl rfl rfl rfl rfl (by omega) (by omega) (bu.ne (by decide) (by omega)) (by show 0+Int.toNat _*20=_;omega) ?_;refine Fg ((out.length-1)*20) 9 ?_;refine oO rfl 3 ((out.length-1)*20+9) [_,_,_,_,_] (ah bG (out.set (out.length-1) ⟨j.f,t,j.fo,j.tp⟩)) rfl rfl rfl rfl iH rfl (by rw[Nat.ble_eq,bu.length];show(out.length-1)*20+9+9<=(out).length*20;(try simp only[List.length_set]);omega) rfl (bu.setf hj rfl (by decide)) rfl ?_;refine ai 3 ((out.length-1)*20) FH iR rfl rfl rfl rfl rfl (by omega) (by omega) (bu.ne (by decide) (by simp only[List.length_set];omega)) (by show 0+Int.toNat _*20=_;omega) ?_;refine Fg ((out.length-1)*20) 19 ?_;refine oO rfl 3 ((out.length-1)*20+19) [_,_,_,_,_] (ah bG ((out.set (out.length-1) ⟨j.f,t,j.fo,j.tp⟩).set (out.length-1) ⟨j.f,t,j.fo,false⟩)) rfl rfl rfl rfl ti4 rfl (by rw[Nat.ble_eq,bu.length];show(out.length-1)*20+19+1<=(out.set (out.length-1) ⟨j.f,t,j.fo,j.tp⟩).length*20;(try simp only[List.length_set]);omega) rfl (bu.setf (show(out.set (out.length-1) ⟨j.f,t,j.fo,j.tp⟩)[out.length-1]? =some ⟨j.f,t,j.fo,j.tp⟩ by rw[List.getElem?_set_self (by omega)]) rfl (by decide)) rfl ?_;refine A3 ?_;exact Ni ⟨((out.set (out.length-1) ⟨j.f,t,j.fo,j.tp⟩).set (out.length-1) ⟨j.f,t,j.fo,false⟩,out.length,some go,oN,oc),by show(out.set (out.length-1) ⟨j.f,t,j.fo,j.tp⟩).set _ _=_;rw[qfe hog hhv hj,List.set_set],by simp,by simpa using h3,h4,by simp⟩ [0,1,2,3,4]
    ·have hhv:h=false:=hcQ;refine A6 ?_;refine Cd ?_ ?_<;>intro hdQ
     ·have hon:=hne hog;obtain⟨j,hj⟩:∃j,out[out.length-1]? =some j:=⟨_,List.getElem?_eq_getElem (by omega)⟩;refine eF 3 rfl (bu.ne (by decide) (by omega)) (fun hbs=>?_);obtain⟨go,hgo⟩:=Option.isSome_iff_exists.1 hbs;replace hgo:ob=some go:=hgo;subst hgo;refine A5 ?_;refine L9 4 0 ?_;refine ai 3 ((out.length-1)*20) FH iR rfl rfl rfl rfl rfl (by omega) (by omega) (bu.ne (by decide) (by omega)) (by show 0+Int.toNat _*20=_;omega) ?_;refine Fg ((out.length-1)*20) 9 ?_;refine oO rfl 3 ((out.length-1)*20+9) [_,_,_,_,_] (ah bG (out.set (out.length-1) ⟨j.f,t,j.fo,j.tp⟩)) rfl rfl rfl rfl iH rfl (by rw[Nat.ble_eq,bu.length];show(out.length-1)*20+9+9<=(out).length*20;(try simp only[List.length_set]);omega) rfl (bu.setf hj rfl (by decide)) rfl ?_;refine ai 3 ((out.length-1)*20) FH iR rfl rfl rfl rfl rfl (by omega) (by omega) (bu.ne (by decide) (by simp only[List.length_set];omega)) (by show 0+Int.toNat _*20=_;omega) ?_;refine Fg ((out.length-1)*20) 19 ?_;refine oO rfl 3 ((out.length-1)*20+19) [_,_,_,_,_] (ah bG ((out.set (out.length-1) ⟨j.f,t,j.fo,j.tp⟩).set (out.length-1) ⟨j.f,t,j.fo,true⟩)) rfl rfl rfl rfl ti4 rfl (by rw[Nat.ble_eq,bu.length];show(out.length-1)*20+19+1<=(out.set (out.length-1) ⟨j.f,t,j.fo,j.tp⟩).length*20;(try simp only[List.length_set]);omega) rfl (bu.setf (show(out.set (out.length-1) ⟨j.f,t,j.fo,j.tp⟩)[out.length-1]? =some ⟨j.f,t,j.fo,j.tp⟩ by rw[List.getElem?_set_self (by omega)]) rfl (by decide)) rfl ?_;refine A3 ?_;exact Ni ⟨((out.set (out.length-1) ⟨j.f,t,j.fo,j.tp⟩).set (out.length-1) ⟨j.f,t,j.fo,true⟩,out.length,some go,oN,oc),by show(out.set (out.length-1) ⟨j.f,t,j.fo,j.tp⟩).set _ _=_;rw[qff hog hhv hj,List.set_set],by simp,by simpa using h3,h4,by simp⟩ [0,1,2,3,4]
     ·exact absurd hdQ (by rw[hog];decide)
   ·have hog:og=false:=hbQ;refine lw ?_;refine Cd ?_ ?_<;>intro hcQ
    ·exact absurd hcQ (by rw[hog];decide)
    ·refine A6 ?_;refine Cd ?_ ?_<;>intro hdQ
     ·have hhv:h=true:=hdQ;refine A2 ?_;refine L9 4 0 ?_;refine L9 4 0 ?_;refine(Bu [(0,_),(1,_)]) (Jj) ?_;refine(Bl 20 [(0,_)]) (kT) (fun g2=>?_);refine(Qa (s:=20) (len:=out.length) (n2:=1) 3 5 (fun r=>[_,_,_,⟨some r.g,61,ah bG out++bG (⟨t,t,false,false⟩),r.n,true⟩,_,_]) FH Lh) (bu.length out) h3 h4 (bu.one (⟨t,t,false,false⟩)) (fun r=>?_);refine A4 ?_;exact Eh ⟨(out++[⟨t,t,false,false⟩],out.length+1,some r.g,r.n,r.cap),by rw[qfg hog hhv],by simp,by rw[List.length_append];exact r.h,r.hn,by simp⟩ ⟨rfl,rfl,rfl,rfl,rfl,rfl,rfl,rfl,trivial⟩ (ak [some 0,some 1,some 2,some 3,some 4] ⟨pR,pR,pR,⟨_,rfl,aK (by rw[dK])⟩,pR,trivial⟩ rfl rfl)
     ·have hhv:h=false:=hdQ;refine A3 ?_;exact Ni ⟨(out,out.length,ob,oN,oc),by rw[qfh hog hhv],rfl,h3,h4,Nat.le_succ _⟩ [0,1,2,3,4]
  rintro⟨⟨o1,ln,b1,n1,c1⟩,ho1,hln,h31,h41,hl1⟩;show At _ ⟨109,[(0,.int .i64 op),(1,az ab 0 a.length ac),(2,az bb 0 b.length bc),(7,az eb 0 (dW (bM (a++b))).length ec),(8,az b1 0 ln c1),(10,aZ i),(11,dD g1),(12,.bool h)],[⟨ab,61,ah bG a,aN,false⟩,⟨bb,61,ah bG b,bN,false⟩,⟨eb,38,ah jX (dW (bM (a++b))),eN,true⟩,⟨b1,61,ah bG o1,n1,true⟩,⟨some g1,38,jX t,9,true⟩]⟩ _;replace hln:ln=o1.length:=hln;subst hln;replace ho1:o1=jV out og h t:=ho1;replace h31:o1.length<=c1:=h31;replace h41:c1*20<=n1:=h41;replace hl1:o1.length<=out.length+1:=hl1;refine A4 ?_;refine Ar (((i+1:Nat):Int)) ?_;refine A5 ?_;refine Cd ?_ ?_<;>intro hbQ
  ·have hend:i+1=(dW (bM (a++b))).length:=by have e:=eq_of_beq hbQ;omega
   obtain rfl:o1=kD (uG op) a b:=by rw[Py,<-hI,ho1];exact YN ht hend hh
   refine A2 ?_;refine Oi rfl ?_;refine pq ?_;refine aF rfl (aj rfl) (fun w hL=>⟨⟨b1,n1,c1,h31⟩,?_,hL.pk [some 3]⟩);exact rfl
  ·have hmore:i+1<(dW (bM (a++b))).length:=by have e:=ne_of_beq_false hbQ;omega
   obtain⟨u,hu⟩:∃u,(dW (bM (a++b)))[i+1]? =some u:=⟨_,List.getElem?_eq_getElem hmore⟩;have hus:=hes u (List.mem_of_getElem? hu);obtain⟨w_,hw_⟩:∃w_,uG op (nz a t u) (nz b t u)=w_:=⟨_,rfl⟩;refine A6 ?_;refine Ar (((i+1:Nat):Int)) ?_;refine ai 2 ((i+1)*9) yu iH rfl rfl rfl rfl rfl (by omega) (by omega) (gq.ne (by decide) (by omega)) (by show 0+Int.toNat _*9=_;omega) ?_;refine aI (v:=RV u) 2 ((i+1)*9) _ rfl rfl rfl rfl iH (gq.sub hu 0 9 (by decide)) rfl (by decide) rfl ?_;refine Al 9 OD (fun g2=>?_);refine Ss 5 ?_;refine A3 ?_;refine Dp [] [0,1,2,3,5,6,7,4,8,9,10] ?_;refine A2 ?_;refine L9 4 0 ?_;refine L9 5 0 ?_;refine A1 ?_;refine L9 4 0 ?_;refine L9 5 0 ?_;refine(Sd [0]) (Cb a ab aN ac hac han hsa t u hts hus) ?_;refine(Sd [1]) (Cb b bb bN bc hbc hbn hsb t u hts hus) ?_;refine Pc (Ae op _ _) ?_;refine aQ 95 (.bool w_) rfl (congrArg Value.bool hw_) ?_;refine A8 ?_;refine Rs 97 ?_ ?_<;>intro hcQ
   ·have hwv:w_=true:=hcQ;refine A5 ?_;refine Cd ?_ ?_<;>intro hdQ
    ·have hhv2:h=false:=by have e:=hdQ;simpa using e
     refine A2 ?_;refine L9 4 0 ?_;refine L9 5 0 ?_;refine(Bu [(0,_),(1,_),(2,_),(3,_)]) (Jk) ?_;refine(Bl 20 [(0,_)]) (kT) (fun g3=>?_);refine(Qa (s:=20) (len:=o1.length) (n2:=1) 3 6 (fun r=>[_,_,_,⟨some r.g,61,ah bG o1++bG (⟨t,u,true,true⟩),r.n,true⟩,_,_,_]) FH Lh) (bu.length o1) h31 h41 (bu.one (⟨t,u,true,true⟩)) (fun r=>?_);refine pq ?_;refine dh ?_;exact Nl ⟨⟨i+1,o1++[⟨t,u,true,true⟩],true,some r.g,r.n,r.cap⟩,hlt,(qbL ht hu hh hw_ hwv hhv2 ho1).symm.trans hI,fun _=>by simp,by rw[List.length_append];exact r.h,r.hn,by show(o1++_).length<=2*(i+1);rw[List.length_append];simp;omega⟩ (hμ:=(by show(dW (bM (a++b))).length-(i+1)<(dW (bM (a++b))).length-i;omega)) (ht:=⟨rfl,rfl,rfl,rfl,(aG rfl (by rw[List.length_append];rfl)),(aG rfl (congrArg Value.bool hwv)),rfl,trivial⟩) (hL:=(ak [some 0,some 1,some 2,some 3] ⟨pR,pR,pR,⟨_,rfl,aK (by rw[dK])⟩,trivial⟩ rfl rfl))
    ·have hhv2:h=true:=by have e:=hdQ;simpa using e
     refine kN ?_;refine dh ?_;exact Nl ⟨⟨i+1,o1,true,b1,n1,c1⟩,hlt,(qfc ht hu hh hw_ hwv hhv2 ho1).symm.trans hI,fun _=>by show 0<o1.length;rw[ho1,hhv2];exact(qbM out og t).resolve_left fun e=>by have:=hne e.1;rw[e.2] at this;simp at this,h31,h41,by show o1.length<=2*(i+1);omega⟩ (hμ:=(by show(dW (bM (a++b))).length-(i+1)<(dW (bM (a++b))).length-i;omega)) (ht:=⟨rfl,rfl,rfl,rfl,rfl,(aG rfl (congrArg Value.bool hwv)),rfl,trivial⟩) (hL:=eH.auto)
   ·have hwv:w_=false:=hcQ;refine KT ?_;refine dh ?_;exact Nl ⟨⟨i+1,o1,false,b1,n1,c1⟩,hlt,(qfd ht hu hh hw_ hwv ho1).symm.trans hI,fun e=>(by cases e),h31,h41,by show o1.length<=2*(i+1);omega⟩ (hμ:=(by show(dW (bM (a++b))).length-(i+1)<(dW (bM (a++b))).length-i;omega)) (ht:=⟨rfl,rfl,rfl,rfl,rfl,(aG rfl (congrArg Value.bool hwv)),rfl,trivial⟩) (hL:=eH.auto)
 ·have hge:i=(dW (bM (a++b))).length:=(by have:=of_decide_eq_false haQ;omega);subst hge;obtain rfl:out=kD (uG op) a b:=by rw[Py,<-hI,List.drop_length];rfl
  refine lw ?_;refine aF rfl (aj rfl) (fun w hL=>⟨⟨ob,oN,oc,h3⟩,?_,hL.pk [some 3]⟩);exact rfl
end Go.Proofs.YtaffcpfhedadhaaGreatDoor
namespace Go.Via
open Go
def SG{α:Type}{a b:List α}(h:a.take a.length=b.take a.length)(hl:a.length=b.length):a=b:=by
 rw[List.take_length,hl,List.take_length] at h;exact h
theorem qih:uG 2=qlU:=by funext a b;rfl
def zRc:List Value:=[aO,aP,aO,aP,aO,aP,aO,aP,.bool false]
def qbN:jX (rl 0)=zRc:=by
 have:=WC;unfold RV at this
 injection this with h
 have h2:=congrArg Array.toList h;exact h2
def ER{x y:Rl}{n:Nat}(hx:gz x<=n)(hy:gz y<=n):gz (gm x y)<=n:=by rcases Pj x y with e|e<;>rw[e]<;>assumption
def qfi{l:List oL}(h:∀p∈l,gz p.a<=50000∧gz p.b<=50000):gz (l.foldl vU (rl 0))<=50000:=by
 have:∀(l:List oL) (o:Rl),(∀p∈l,gz p.a<=50000∧gz p.b<=50000)->gz o<=50000->gz (l.foldl vU o)<=50000:=by
  intro l
  induction l with
  |nil=>intro o _ ho;exact ho
  |cons p l ih=>intro o hl ho;rw[List.foldl_cons];exact ih _ (fun q hq=>hl q (List.mem_cons_of_mem _ hq)) (ER (ER ho (hl p (List.mem_cons_self ..)).1) (hl p (List.mem_cons_self ..)).2)
 exact this l _ h (wS (by have:=vX;omega) (by omega))
def PG{x y:Rl}(h:bK y x>0):gm x y=y:=by unfold gm;rw[if_pos h]
def PH{x y:Rl}(h:¬bK y x>0):gm x y=x:=by unfold gm;rw[if_neg h]
def Y5(x y:Rat):Qd:=⟨x*x,x*y+y*x,x*0+0*x+y*y⟩
def qii(f g:Ln):(⟨(Y5 (f.x0-g.x0) (f.x1-g.x1)).c0+(Y5 (f.y0-g.y0) (f.y1-g.y1)).c0,(Y5 (f.x0-g.x0) (f.x1-g.x1)).c1+(Y5 (f.y0-g.y0) (f.y1-g.y1)).c1,(Y5 (f.x0-g.x0) (f.x1-g.x1)).c2+(Y5 (f.y0-g.y0) (f.y1-g.y1)).c2⟩:Qd)=d2 f g:=by
 unfold Y5 d2;dsimp only;congr 1<;>grind
def qfj{l:List oL}{o:Rl}(h:∀p∈l,gz p.a<=50000∧gz p.b<=50000)(ho:gz o<=50000):gz (l.foldl (fun o x=>gm o (gm x.a x.b)) o)<=50000:=by
 induction l generalizing o with
 |nil=>exact ho
 |cons p l ih=>rw[List.foldl_cons];exact ih (fun q hq=>h q (List.mem_cons_of_mem _ hq)) (ER ho (ER (h p (List.mem_cons_self ..)).1 (h p (List.mem_cons_self ..)).2))
def UV{l:List oL}(h0:0<l.length):l.foldl (fun o x=>gm o (gm x.a x.b)) (l[0]'h0).a=fD l:=by
 cases l with
 |nil=>simp at h0
 |cons p l=>rfl
end Go.Via
namespace Go.Proofs.YtaffcpfhedadhaaGreatDoor
open Go Go.Via
def qij:elW Tryz.prog 151 52 (.agg #[aO,aP,aO,aP,aO,aP,aO,aP,.bool false,aO,aP,aO,aP,aO,aP,aO,aP,.bool false,.bool false,.bool false,aO,aP,aO,aP,aO,aP,aO,aP,aO,aP,aO,aP,aO,aP,aO,aP,aO,aP,aO,aP,aO,aP,aO,aP,aO,aP,aO,aP,aO,aP,aO,aP]):=⟨by kernel_rfl,by decide⟩
end Go.Proofs.YtaffcpfhedadhaaGreatDoor
namespace Go.Via
def BI(x y:PU):Option B3:=(iT x.i y.i).map fun m=>⟨m,x.f,y.f⟩
def DC(x y:PU):Bool:=Ez x.i y.i
theorem WQ{x y:PU}(h:jP (fE x.i y.i)=true):(BI x y).toList=[⟨fE x.i y.i,x.f,y.f⟩]:=by unfold BI iT;rw[if_pos h];rfl
theorem qbO{x y:PU}(h:jP (fE x.i y.i)=false):(BI x y).toList=[]:=by unfold BI iT;rw[if_neg (by rw[h];decide)];rfl
theorem qbP{α β γ:Type}{mt:α->β->Option γ}{ef:α->β->Bool}{a:List α}{b:List β}{i k:Nat}{x:α}{y:β}(hx:a[i]? =some x)(hy:b[k]? =some y)(h:ef x y=true):ik mt ef (a.drop i) (b.drop k)=(mt x y).toList++ik mt ef (a.drop (i+1)) (b.drop k):=by
 rw[yG hx,yG hy,ik,if_pos h]
theorem qbQ{α β γ:Type}{mt:α->β->Option γ}{ef:α->β->Bool}{a:List α}{b:List β}{i k:Nat}{x:α}{y:β}(hx:a[i]? =some x)(hy:b[k]? =some y)(h:ef x y=false):ik mt ef (a.drop i) (b.drop k)=(mt x y).toList++ik mt ef (a.drop i) (b.drop (k+1)):=by
 rw[yG hx,yG hy,ik,if_neg (by rw[h];decide)]
theorem SH{α β γ:Type}{mt:α->β->Option γ}{ef:α->β->Bool}{a:List α}{b:List β}{i k:Nat}(h:a.length<=i∨b.length<=k):ik mt ef (a.drop i) (b.drop k)=[]:=by
 rcases h with h|h
 ·rw[List.drop_of_length_le h];cases b.drop k<;>simp[ik]
 ·rw[List.drop_of_length_le h];cases a.drop i<;>simp[ik]
theorem J4{α β γ δ:Type}{mt:α->β->Option γ}{ef:α->β->Bool}(f:γ->δ):∀(a:List α) (b:List β),(ik mt ef a b).map f=ik (fun x y=>(mt x y).map f) ef a b
 |[],_=>by simp[ik]
 |_::_,[]=>by simp[ik]
 |x::xs,y::ys=>by
  rw[ik,ik,List.map_append]
  congr 1
  ·cases mt x y<;>rfl
  ·split
   ·exact J4 f xs (y::ys)
   ·exact J4 f (x::xs) ys
termination_by a b=>a.length+b.length
def ES{α β γ:Type}{mt:α->β->Option γ}{ef:α->β->Bool}:∀{a:List α} {b:List β} {z:γ},z∈ik mt ef a b->∃x∈a,∃y∈b,mt x y=some z
 |[],_,z,h=>by simp[ik] at h
 |_::_,[],z,h=>by simp[ik] at h
 |x::xs,y::ys,z,h=>by
  rw[ik] at h;rcases List.mem_append.1 h with h|h
  ·exact⟨x,List.mem_cons_self ..,y,List.mem_cons_self ..,Option.mem_toList.1 h⟩
  ·split at h
   ·obtain⟨u,hu,v,hv,e⟩:=ES h;exact⟨u,List.mem_cons_of_mem _ hu,v,hv,e⟩
   ·obtain⟨u,hu,v,hv,e⟩:=ES h;exact⟨u,hu,v,List.mem_cons_of_mem _ hv,e⟩
termination_by a b=>a.length+b.length
def ET{α β γ:Type}{mt:α->β->Option γ}{ef:α->β->Bool}:∀(a:List α) (b:List β),(ik mt ef a b).length<=a.length+b.length
 |[],_=>by simp[ik]
 |_::_,[]=>by simp[ik]
 |x::xs,y::ys=>by
  rw[ik,List.length_append];have h1:(mt x y).toList.length<=1:=by cases mt x y<;>simp
  split
  ·have:=ET (mt:=mt) (ef:=ef) xs (y::ys);simp only[List.length_cons] at this ⊢;omega
  ·have:=ET (mt:=mt) (ef:=ef) (x::xs) ys;simp only[List.length_cons] at this ⊢;omega
termination_by a b=>a.length+b.length
theorem EU(a b:List PU):(ik BI DC a b).map (fun z=>(z.i,d2 z.f z.g))=ay a b:=by
 rw[J4];unfold ay
 congr 1
 funext x y
 unfold BI tH;cases iT x.i y.i<;>rfl
def WR{x y:Rat}{n:Nat}(hx:bV x<=n)(hy:bV y<=n):tJ (Y5 x y)<=4*n+10:=by
 have z:=vX;unfold Y5;refine F6 ?_ ?_ ?_<;>dsimp only
 ·have:=aS x x;omega
 ·have:=aS x y;have:=aS y x;have:=cO (x*y) (y*x);omega
 ·have:=aS x 0;have:=aS 0 x;have:=aS y y;have:=cO (x*0) (0*x);have:=cO (x*0+0*x) (y*y);omega
def Fb(l:List PU):Prop:=∀u∈l,jB u.i<=100∧ja u.f<=100
theorem Fb.v{l:List PU}(h:Fb l):∀u∈l,jB u.i<=50000:=fun u hu=>Nat.le_trans (h u hu).1 (by omega)
def qgm{a b:List PU}(ha:Fb a)(hb:Fb b):∀z∈ik BI DC a b,jB z.i<=100∧ja z.f<=100∧ja z.g<=100:=fun z hz=>by
 obtain⟨x,hx,y,hy,e⟩:=ES hz;unfold BI iT at e
 split at e
 ·simp at e;subst e;exact⟨Sj (ha x hx).1 (hb y hy).1,(ha x hx).2,(hb y hy).2⟩
 ·simp at e
def tK(a b:List PU):(ay a b).length<=a.length+b.length:=by rw[<-EU,List.length_map];exact ET a b
def xR{a b:List PU}(ha:Fb a)(hb:Fb b):∀z∈ay a b,jB z.1<=100∧tJ z.2<=820:=fun z hz=>by
 rw[<-EU] at hz;obtain⟨w,hw,rfl⟩:=List.mem_map.1 hz;have:=qgm ha hb w hw;exact⟨this.1,Nat.le_trans (qbK this.2.1 this.2.2) (by omega)⟩
end Go.Via
namespace Go.Proofs.YtaffcpfhedadhaaGreatDoor
open Go Go.RowKit Go.Via
variable[Mo]
def qo(a b:pO)(ha:gz a.1<=50000:=by omega)(hb:gz b.1<=50000:=by omega):aH Tryz.prog 148 #[BdV a,BdV b] (.int .i64 (wK a b)):=by
 refine nG 23 Tryz.func148 fun w=>?_;refine A2 ?_;refine Bp 10 (fun g0=>?_);refine Bp 10 (fun g1=>?_);refine A7 ?_;refine L9 0 0 ?_;refine A1 ?_;refine L9 1 0 ?_;refine Pc (dH a.1 b.1 ha hb) ?_;refine A9 ?_;refine Cd ?_ ?_<;>intro haQ
 ·have hs12:bK a.1 b.1≠0:=by have e:=haQ;simpa using e
  refine A8 ?_;refine E0 ?_;rw[wK,if_pos hs12]
 ·have hs12:bK a.1 b.1=0:=by have e:=haQ;simpa using e
  refine kN ?_;refine AA rfl u4 rfl rfl rfl ?_;refine A3 ?_;refine Cd ?_ ?_<;>intro hbQ
  ·have hs19:a.2=b.2:=by have e:=hbQ;simpa using e
   refine A8 ?_;refine E0 ?_;rw[wK,if_neg (fun e=>e hs12),if_pos hs19]
  ·have hs19:a.2≠b.2:=by have e:=hbQ;simpa using e
   refine A7 ?_;refine Cd ?_ ?_<;>intro hcQ
   ·have hs20:b.2=true:=hcQ;refine A8 ?_;refine E0 ?_;rw[wK,if_neg (fun e=>e hs12),if_neg hs19,if_pos hs20]
   ·have hs20:b.2=false:=hcQ;refine A9 ?_;refine E0 ?_;rw[wK,if_neg (fun e=>e hs12),if_neg hs19,if_neg (by rw[hs20];decide)]
def uJ(i:Iv):aH Tryz.prog 149 #[kG i] (BdV i.b):=by
 refine uX 8 Tryz.func149 fun w=>?_;refine A2 ?_;refine Bp 20 (fun g0=>?_);refine Al 10 qhc (fun g1=>?_);refine A5 ?_;refine L9 0 0 ?_;refine A2 ?_;refine(Bu [(0,_),(1,_)]) (VA) ?_;refine Ss 1 ?_;refine A3 ?_;refine qjC 1 ?_;exact rfl
def wY(i:Iv):aH Tryz.prog 150 #[kG i] (BdV i.e):=by
 refine uX 9 Tryz.func150 fun w=>?_;refine A2 ?_;refine Bp 20 (fun g0=>?_);refine Al 10 qhc (fun g1=>?_);refine A5 ?_;refine L9 0 9 ?_;refine A3 ?_;refine(Bu [(0,_),(1,_)]) (VA) ?_;refine Ss 1 ?_;refine A3 ?_;refine qjC 1 ?_;exact rfl
def xU(a b:pO):aH Tryz.prog 194 #[BdV a,BdV b] (kG (G6 a b)):=by
 refine nG 15 Tryz.func194 fun w=>?_;refine A2 ?_;refine Bp 10 (fun g0=>?_);refine Bp 10 (fun g1=>?_);refine Al 20 z61 (fun g2=>?_);refine A5 ?_;refine L9 0 0 ?_;refine A1 ?_;refine L9 1 0 ?_;refine A5 ?_;refine(Bu [(0,_),(1,_),(2,_),(3,_)]) (Jk) ?_;refine Ss 2 ?_;refine A3 ?_;refine qlH 2 ?_;exact rfl
end Go.Proofs.YtaffcpfhedadhaaGreatDoor
namespace Go.Proofs.YtaffcpfhedadhaaGreatDoor
open Go Go.RowKit Go.Via
def jb(x:Rl)(hx:gz x<=5000:=by omega):aH Tryz.prog 51 #[RV x] (.int .i64 (if dN x=true then 0 else 5)):=by
 have x1:=Nat.le_trans (rD x) hx;have x2:=Nat.le_trans (xO x) hx;refine uX 31 Tryz.func51 fun w=>?_;refine A2 ?_;refine Bp 9 (fun g0=>?_);refine A7 ?_;refine L4 0 0 ?_;refine Pc (RQ x.p) ?_;refine A1 ?_;refine Kr 8 (.bool false) ?_;refine A2 ?_;refine L4 0 4 ?_;refine Pc (RQ x.r) ?_;refine A1 ?_;refine Kr 13 (.bool false) ?_;refine kN ?_;refine L4 0 4 ?_;refine Pc (dV x.r) ?_;refine A9 ?_;refine Cd ?_ ?_<;>intro haQ
 ·have hs18:x.r.num.sign= -1:=eq_of_beq haQ;refine A8 ?_;refine E0 ?_;rw[qbB hs18];rfl
 ·have hs18:x.r.num.sign≠ -1:=ne_of_beq_false haQ;refine A6 ?_;refine Cd ?_ ?_<;>intro hbQ
  ·have hs20:x.r.num.sign=0:=eq_of_beq hbQ;refine A7 ?_;refine Cd ?_ ?_<;>intro hcQ
   ·have hs23:x.n=true:=hcQ;refine A9 ?_;refine E0 ?_;rw[NF hs20,hs23];rfl
   ·have hs23:x.n=false:=hcQ;refine kN ?_;refine E0 ?_;rw[NF hs20,hs23];rfl
  ·have hs20:x.r.num.sign≠0:=ne_of_beq_false hbQ;refine A7 ?_;refine L4 0 4 ?_;refine Pc (yN x.r) ?_;refine A3 ?_;refine Al 4 oM (fun g1=>?_);refine Ss 1 ?_;refine A8 ?_;refine Cd ?_ ?_<;>intro hcQ
   ·have hs30:Bj x.r=true:=hcQ;refine A7 ?_;refine E0 ?_;rw[Si hs18 hs20,hs30];rfl
   ·have hs30:Bj x.r=false:=hcQ;refine A8 ?_;refine E0 ?_;rw[Si hs18 hs20,hs30];rfl
def pg(i:Iv)(hi:jB i<=5000:=by omega):aH Tryz.prog 101 #[kG i] (.int .i64 (if(dN i.f&&dN i.t)=false then 5 else if jP i=false then 10 else 0)):=by
 have i1:=Nat.le_trans (jI i) hi;have i2:=Nat.le_trans (jJ i) hi;refine uX 19 Tryz.func101 fun w=>?_;refine A2 ?_;refine Bp 20 (fun g0=>?_);refine A7 ?_;refine L9 0 0 ?_;refine Pc (jb i.f) ?_;refine A2 ?_;refine Rs 7 ?_ ?_<;>intro haQ
 ·have hs7:dN i.f=false:=by cases e:dN i.f<;>simp[e] at haQ ⊢
  refine AL ?_;refine E0 ?_;rw[hs7];rfl
 ·have hs7:dN i.f=true:=by cases e:dN i.f<;>simp[e] at haQ ⊢
  refine A1 ?_;refine L9 0 9 ?_;refine Pc (jb i.t) ?_;refine A4 ?_;refine Cd ?_ ?_<;>intro hbQ
  ·have hs12:dN i.t=false:=by cases e:dN i.t<;>simp[e] at hbQ ⊢
   refine A7 ?_;refine E0 ?_;rw[hs7,hs12];rfl
  ·have hs12:dN i.t=true:=by cases e:dN i.t<;>simp[e] at hbQ ⊢
   refine A4 ?_;refine Dp [] [0,2,1,3,4,5] ?_;refine xZ 0 0 ?_;refine xZ 0 0 ?_;refine Pc (uJ i) ?_;refine Pc (wY i) ?_;refine dL [_,_] rfl rfl rfl (qo i.b i.e (by show gz i.f<=_;omega) (by show gz i.t<=_;omega)) ?_;refine A3 ?_;refine Cd ?_ ?_<;>intro hcQ
   ·have hs18:jP i=false:=by rw[NG];have e:=hcQ;simp at e ⊢;omega
    refine A7 ?_;refine E0 ?_;rw[hs7,hs12,hs18];rfl
   ·have hs18:jP i=true:=by rw[NG];have e:=hcQ;simp at e ⊢;omega
    refine A8 ?_;refine E0 ?_;rw[hs7,hs12,hs18];rfl
def uK(a b:Iv)(ha:jB a<=50000:=by omega)(hb:jB b<=50000:=by omega):aH Tryz.prog 139 #[kG a,kG b] (.bool (Ez a b)):=by
 have a1:=Nat.le_trans (jI a) ha;have a2:=Nat.le_trans (jJ a) ha;have b1:=Nat.le_trans (jI b) hb;have b2:=Nat.le_trans (jJ b) hb;refine nG 26 Tryz.func139 fun w=>?_;refine A2 ?_;refine Bp 20 (fun g0=>?_);refine Bp 20 (fun g1=>?_);refine A6 ?_;refine L9 0 9 ?_;refine A1 ?_;refine L9 1 9 ?_;refine Pc (dH a.t b.t) ?_;refine A8 ?_;refine Rs 13 ?_ ?_<;>intro haQ
 ·refine KT ?_;refine E0 ?_;exact eB (by unfold Ez;first|(simp_all;done)|(simp_all;omega)|(simp_all;intros;omega))
 ·refine A3 ?_;refine Rs 16 ?_ ?_<;>intro hbQ
  ·refine A3 ?_;refine Rs 19 ?_ ?_<;>intro hcQ
   ·refine kN ?_;refine E0 ?_;exact eB (by unfold Ez;first|(simp_all;done)|(simp_all;omega)|(simp_all;intros;omega))
   ·refine kN ?_;refine E0 ?_;exact eB (by unfold Ez;first|(simp_all;done)|(simp_all;omega)|(simp_all;intros;omega))
  ·refine D5 ?_;refine E0 ?_;exact eB (by unfold Ez;first|(simp_all;done)|(simp_all;omega)|(simp_all;intros;omega))
def J5(a b:Iv)(ha:jB a<=50000:=by omega)(hb:jB b<=50000:=by omega):aH Tryz.prog 185 #[kG a,kG b] (.bool (EI a b)):=by
 have a1:=Nat.le_trans (jI a) ha;have a2:=Nat.le_trans (jJ a) ha;have b1:=Nat.le_trans (jI b) hb;have b2:=Nat.le_trans (jJ b) hb;refine nG 25 Tryz.func185 fun w=>?_;refine A2 ?_;refine Bp 20 (fun g0=>?_);refine Bp 20 (fun g1=>?_);refine A6 ?_;refine L9 0 9 ?_;refine A1 ?_;refine L9 1 0 ?_;refine Pc (dH a.t b.f) ?_;refine A8 ?_;refine Rs 13 ?_ ?_<;>intro haQ
 ·refine AL ?_;refine E0 ?_;exact eB (by unfold EI;first|(simp_all;done)|(simp_all;omega)|(simp_all;intros;omega))
 ·refine A3 ?_;refine Rs 16 ?_ ?_<;>intro hbQ
  ·refine A3 ?_;refine Rs 19 ?_ ?_<;>intro hcQ
   ·refine A9 ?_;refine E0 ?_;exact eB (by unfold EI;first|(simp_all;done)|(simp_all;omega)|(simp_all;intros;omega))
   ·refine A9 ?_;refine E0 ?_;exact eB (by unfold EI;first|(simp_all;done)|(simp_all;omega)|(simp_all;intros;omega))
  ·refine lw ?_;refine E0 ?_;exact eB (by unfold EI;first|(simp_all;done)|(simp_all;omega)|(simp_all;intros;omega))
def iq(i:Iv):aH Tryz.prog 187 #[kG i] (.bool (dY i)):=by
 refine uX 8 Tryz.func187 fun w=>?_;refine A2 ?_;refine Bp 20 (fun g0=>?_);refine A6 ?_;refine L9 0 0 ?_;refine A1 ?_;refine L9 0 9 ?_;refine fH rfl rfl rfl rfl OL (Pe _ _) ?_;refine A4 ?_;refine E0 ?_;exact rfl
def Ls(a b:Iv)(ha:jB a<=50000:=by omega)(hb:jB b<=50000:=by omega):aH Tryz.prog 138 #[kG a,kG b] (.tuple #[kG (fE a b),.bool (jP (fE a b))]):=by
 have a1:=Nat.le_trans (jI a) ha;have a2:=Nat.le_trans (jJ a) ha;have b1:=Nat.le_trans (jI b) hb;have b2:=Nat.le_trans (jJ b) hb;have hmf:=NH ha hb;have hmt:=NI ha hb;refine nG 81 Tryz.func138 fun w=>?_;refine A2 ?_;refine Bp 20 (fun g0=>?_);refine Bp 20 (fun g1=>?_);refine Al 20 z61 (fun g2=>?_);refine A5 ?_;refine xZ 0 0 ?_;refine Al 20 z61 (fun g3=>?_);refine Ss 3 ?_;refine A2 ?_;refine Ot (nt:=81) [(2,dD g0),(3,dD g1),(4,dD g2),(5,.bool false),(6,dD g3)] [⟨some g0,61,bG a,20,true⟩,⟨some g1,61,bG b,20,true⟩,⟨some g2,61,qj1,20,true⟩,⟨some g3,61,bG ⟨(ru a b).1,a.t,(ru a b).2,a.tp⟩,20,true⟩] ?_ ?_
 ·refine A3 ?_;refine L9 0 0 ?_;refine A1 ?_;refine L9 1 0 ?_;refine Pc (dH a.f b.f) ?_;refine pq ?_;refine Cd ?_ ?_<;>intro haQ
  ·have hsA:bK a.f b.f<0:=of_decide_eq_true haQ;refine Di [3] ?_;refine A1 ?_;refine L9 1 0 ?_;refine A2 ?_;refine Fg 0 0 ?_;refine qU 3 0 [_,_,_,⟨some g3,61,_,20,true⟩] [_,_,_,_,_,_,_,_,_,_,_,_,_,_,_,_,_,_,_,_] rfl rfl rfl rfl iH rfl rfl rfl rfl rfl rfl ?_;refine Fg 0 18 ?_;refine qU 3 18 [_,_,_,⟨some g3,61,_,20,true⟩] [_,_,_,_,_,_,_,_,_,_,_,_,_,_,_,_,_,_,_,_] rfl rfl rfl rfl ti4 rfl rfl rfl rfl rfl rfl ?_;refine A3 ?_;exact qB ⟨rfl,rfl,rfl,rfl,rfl,trivial⟩ (ak [some 0,some 1,some 2,some 3] ⟨pR,pR,pR,⟨_,rfl,aK (by rw[qe2 hsA]<;>rfl)⟩,trivial⟩ rfl rfl)
  ·have hsA:¬bK a.f b.f<0:=of_decide_eq_false haQ;refine A7 ?_;refine Cd ?_ ?_<;>intro hbQ
   ·have hsB:bK a.f b.f=0:=eq_of_beq hbQ;refine A4 ?_;refine Rs 30 ?_ ?_<;>intro hcQ
    ·have hsC:a.fo=true:=hcQ;refine A4 ?_;refine Ss 3 ?_;refine A3 ?_;exact qB ⟨rfl,rfl,rfl,rfl,rfl,trivial⟩ (ak [some 0,some 1,some 2,some 3] ⟨pR,pR,pR,⟨_,rfl,aK (by rw[WF hsA hsB,hsC,Bool.true_or]<;>rfl)⟩,trivial⟩ rfl rfl)
    ·have hsC:a.fo=false:=hcQ;refine A4 ?_;refine Ss 3 ?_;refine A3 ?_;exact qB ⟨rfl,rfl,rfl,rfl,rfl,trivial⟩ (ak [some 0,some 1,some 2,some 3] ⟨pR,pR,pR,⟨_,rfl,aK (by rw[WF hsA hsB,hsC,Bool.false_or]<;>rfl)⟩,trivial⟩ rfl rfl)
   ·have hsB:bK a.f b.f≠0:=ne_of_beq_false hbQ;refine A3 ?_;exact qB ⟨rfl,rfl,rfl,rfl,rfl,trivial⟩ (ak [some 0,some 1,some 2,some 3] ⟨pR,pR,pR,⟨_,rfl,aK (by rw[qe3 hsA hsB]<;>rfl)⟩,trivial⟩ rfl rfl)
 refine Ot (nt:=81) [(2,dD g0),(3,dD g1),(4,dD g2),(5,.bool false),(6,dD g3)] [⟨some g0,61,bG a,20,true⟩,⟨some g1,61,bG b,20,true⟩,⟨some g2,61,qj1,20,true⟩,⟨some g3,61,bG ⟨(ru a b).1,(uk a b).1,(ru a b).2,(uk a b).2⟩,20,true⟩] ?_ ?_
 ·refine A3 ?_;refine L9 0 9 ?_;refine A1 ?_;refine L9 1 9 ?_;refine Pc (dH a.t b.t) ?_;refine pq ?_;refine Cd ?_ ?_<;>intro haQ
  ·have hsA:0<bK a.t b.t:=of_decide_eq_true haQ;refine Di [3] ?_;refine A1 ?_;refine L9 1 9 ?_;refine A2 ?_;refine Fg 0 9 ?_;refine qU 3 9 [_,_,_,⟨some g3,61,_,20,true⟩] [_,_,_,_,_,_,_,_,_,_,_,_,_,_,_,_,_,_,_,_] rfl rfl rfl rfl iH rfl rfl rfl rfl rfl rfl ?_;refine Fg 0 19 ?_;refine qU 3 19 [_,_,_,⟨some g3,61,_,20,true⟩] [_,_,_,_,_,_,_,_,_,_,_,_,_,_,_,_,_,_,_,_] rfl rfl rfl rfl ti4 rfl rfl rfl rfl rfl rfl ?_;refine A3 ?_;exact qB ⟨rfl,rfl,rfl,rfl,rfl,trivial⟩ (ak [some 0,some 1,some 2,some 3] ⟨pR,pR,pR,⟨_,rfl,aK (by rw[qe4 hsA]<;>rfl)⟩,trivial⟩ rfl rfl)
  ·have hsA:¬0<bK a.t b.t:=of_decide_eq_false haQ;refine A7 ?_;refine Cd ?_ ?_<;>intro hbQ
   ·have hsB:bK a.t b.t=0:=eq_of_beq hbQ;refine A4 ?_;refine Rs 54 ?_ ?_<;>intro hcQ
    ·have hsC:a.tp=true:=hcQ;refine A4 ?_;refine Ss 3 ?_;refine A3 ?_;exact qB ⟨rfl,rfl,rfl,rfl,rfl,trivial⟩ (ak [some 0,some 1,some 2,some 3] ⟨pR,pR,pR,⟨_,rfl,aK (by rw[WG hsA hsB,hsC,Bool.true_or]<;>rfl)⟩,trivial⟩ rfl rfl)
    ·have hsC:a.tp=false:=hcQ;refine A4 ?_;refine Ss 3 ?_;refine A3 ?_;exact qB ⟨rfl,rfl,rfl,rfl,rfl,trivial⟩ (ak [some 0,some 1,some 2,some 3] ⟨pR,pR,pR,⟨_,rfl,aK (by rw[WG hsA hsB,hsC,Bool.false_or]<;>rfl)⟩,trivial⟩ rfl rfl)
   ·have hsB:bK a.t b.t≠0:=ne_of_beq_false hbQ;refine A3 ?_;exact qB ⟨rfl,rfl,rfl,rfl,rfl,trivial⟩ (ak [some 0,some 1,some 2,some 3] ⟨pR,pR,pR,⟨_,rfl,aK (by rw[qe5 hsA hsB]<;>rfl)⟩,trivial⟩ rfl rfl)
 refine A3 ?_;refine L9 3 0 ?_;refine A1 ?_;refine L9 3 9 ?_;refine Pc (dH (ru a b).1 (uk a b).1 hmf hmt) ?_;refine A4 ?_;refine Di [2] ?_;refine xZ 3 0 ?_;refine A3 ?_;refine Rs 67 ?_ ?_<;>intro haQ
 ·refine D5 ?_;exact WP
 ·refine A3 ?_;refine Rs 70 ?_ ?_<;>intro hbQ
  ·refine A5 ?_;refine Rs 75 ?_ ?_<;>intro hcQ
   ·refine A5 ?_;exact WP
   ·refine A5 ?_;exact WP
  ·refine kN ?_;exact WP
def BJ(a b:Iv)(ha:jB a<=50000:=by omega)(hb:jB b<=50000:=by omega):aH Tryz.prog 81 #[kG a,kG b] (.bool (EI a b)):=by
 have a1:=Nat.le_trans (jI a) ha;have a2:=Nat.le_trans (jJ a) ha;have b1:=Nat.le_trans (jI b) hb;have b2:=Nat.le_trans (jJ b) hb;refine nG 25 Tryz.func81 fun w=>?_;refine A2 ?_;refine Bp 20 (fun g0=>?_);refine Bp 20 (fun g1=>?_);refine A6 ?_;refine L9 0 9 ?_;refine A1 ?_;refine L9 1 0 ?_;refine Pc (dH a.t b.f) ?_;refine A8 ?_;refine Rs 13 ?_ ?_<;>intro haQ
 ·refine AL ?_;refine E0 ?_;exact eB (by unfold EI;first|(simp_all;done)|(simp_all;omega)|(simp_all;intros;omega))
 ·refine A3 ?_;refine Rs 16 ?_ ?_<;>intro hbQ
  ·refine A3 ?_;refine Rs 19 ?_ ?_<;>intro hcQ
   ·refine A9 ?_;refine E0 ?_;exact eB (by unfold EI;first|(simp_all;done)|(simp_all;omega)|(simp_all;intros;omega))
   ·refine A9 ?_;refine E0 ?_;exact eB (by unfold EI;first|(simp_all;done)|(simp_all;omega)|(simp_all;intros;omega))
  ·refine lw ?_;refine E0 ?_;exact eB (by unfold EI;first|(simp_all;done)|(simp_all;omega)|(simp_all;intros;omega))
end Go.Proofs.YtaffcpfhedadhaaGreatDoor
