/-
  Part 29 (chapter 32): lemmas, walks. Each theorem states its own conditions.
-/
import Derived.Test.YtaffcpfhedadhaaGreatDoorA12
import Derived.Test.YtaffcpfhedadhaaGreatDoorA13
import Derived.Test.YtaffcpfhedadhaaGreatDoorA28
import Derived.Test.YtaffcpfhedadhaaGreatDoorA18
set_option linter.all false
set_option maxRecDepth 20000
set_option maxHeartbeats 20000000
section
variable{P Q:Prop}{T:Type}{R:T->Prop}
def qj7(h:P:=by
 refine IW (X:={z:Option Nat×Nat×Nat×Nat // 0+k+1+(o.length-k)<=z.2.2.1∧z.2.2.1*9<=z.2.1}) (l':=[⟨_,_,_,_,_,_⟩,⟨_,_,_,_,_,_⟩,⟨_,_,_,_,_,_⟩,⟨_,_,_,_,_,_⟩,⟨_,_,_,_,_,_⟩,⟨_,_,_,_,_,_⟩,⟨_,_,_,_,_,_⟩,⟨_,_,_,_,_,_⟩]) (fun⟨⟨rb,rn,rc,gx⟩,rh,rhn⟩=>[(0,az lb 0 l.length lc),(3,az rb 0 (0+k+1+(o.length-k)) rc),(4,aZ i)]) (fun⟨⟨rb,rn,rc,gx⟩,rh,rhn⟩=>[⟨lb,38,ah jX l,lN,false⟩,⟨ob,38,ah jX o,oN,true⟩,⟨rb,38,(ah jX (o.take k)++jX x)++ah jX (o.drop k),rn,true⟩,⟨some gx,38,jX x,9,true⟩]) [1,2,3,5,6,11,12,13] 8 mixed (by kernel_rfl) rfl ?_ ?_
 ·exact ql0
 rintro⟨⟨rb,rn,rc,gx⟩,rh,rhn⟩;show At _ ⟨62,[(0,az lb 0 l.length lc),(3,az rb 0 (0+k+1+(o.length-k)) rc),(4,aZ i)],[⟨lb,38,ah jX l,lN,false⟩,⟨ob,38,ah jX o,oN,true⟩,⟨rb,38,(ah jX (o.take k)++jX x)++ah jX (o.drop k),rn,true⟩,⟨some gx,38,jX x,9,true⟩]⟩ _;refine A4 ?_;refine dh ?_;exact Nl ⟨⟨i+1,o.take k++x::o.drop k,rb,rn,rc⟩,hlt,by show _=dW (l.take (i+1));rw[SA hx,<-hI,hins],by have:=rh;simp at this ⊢;omega,rhn⟩ (hμ:=(by show l.length-(i+1)<l.length-i;omega)) (ht:=⟨rfl,(aG rfl (by show az rb 0 (0+k+1+(o.length-k)) rc=az rb 0 (o.take k++x::o.drop k).length rc;congr 1;simp;omega)),rfl,trivial⟩) (hL:=(ak [some 0,some 2] ⟨pR,⟨_,rfl,aK (by rw[kM,gX,List.append_assoc])⟩,trivial⟩ rfl rfl))):=h
def ql0(h:P:=by
 refine A2 ?_;refine iD k yu iH rfl rfl rfl rfl (by omega) (by omega) rfl ?_;refine A4 ?_;refine Qi k yu iH rfl rfl rfl rfl (by omega) rfl rfl rfl ?_;refine A1 ?_
 repeat' first
  |exact⟨⟨(r3.b,r3.n,r3.cap,g1),r3.h,r3.hn⟩,rfl,⟨rfl,rfl,rfl,trivial⟩,(by first|exact List.Perm.refl _|exact((List.Perm.swap _ _ _).cons _).cons _)⟩
  |exact⟨⟨(r3.b,r3.n,r3.cap,g0),r3.h,r3.hn⟩,rfl,⟨rfl,rfl,rfl,trivial⟩,(by first|exact List.Perm.refl _|exact((List.Perm.swap _ _ _).cons _).cons _)⟩
  |refine Oh ?_
  |refine IG rfl rfl rfl ?_
  |refine(Bl 9 [(0,_)]) (OI) (fun g1=>?_)
  |refine gG (s:=9) (len:=0+k) (n2:=1) 2 3 (jX x) (fun r2=>[_,_,⟨r2.b,38,ah jX (o.take k)++jX x,r2.n,true⟩,_]) yu OJ rfl rfl rfl rfl rfl rfl rfl rfl rfl rfl (by rw[gq.lenTake hk,Nat.zero_add]) r.h r.hn (.inr ⟨_,rfl⟩) rfl rfl (gq.one x) (by omega) (fun _=>rfl) (fun r2=>?_)
  |refine(Qo (s:=9) (len:=0+k+1) 2 1 (ah jX (o.drop k)) (fun r3=>[_,_,⟨r3.b,38,(ah jX (o.take k)++jX x)++ah jX (o.drop k),r3.n,true⟩,_]) yu OJ) (by exact(by rw[List.length_append,gq.lenTake hk,gq.len];omega)) r2.h r2.hn (by exact(hobs.imp (fun e=>by omega) id)) (gq.dropT h3 hk) (gq.lenDrop o k) (gq.ones _) (fun r3=>?_)
  |refine gG (s:=9) (len:=0) 2 1 (ah jX (o.take k)) (fun r=>[_,_,⟨r.b,38,ah jX (o.take k),r.n,true⟩]) yu OJ rfl rfl rfl rfl rfl rfl rfl rfl rfl rfl rfl (Nat.le_refl _) (Nat.le_refl _) (hobs.imp (fun e=>by omega) id) (gq.takeR o k) (gq.lenTake hk) (gq.ones _) (by omega) (fun _=>rfl) (fun r=>?_)
  |refine aI (v:=RV x) 0 ((i)*9) _ rfl rfl rfl rfl iH (gq.sub hx 0 9 (by decide)) rfl (by decide) rfl ?_
  |refine(Bl 0 []) (VC) (fun g0=>?_)
  |refine ai 0 ((i)*9) yu iH rfl rfl rfl rfl rfl (by omega) (by omega) (gq.ne (by decide) (by omega)) (by show 0+Int.toNat _*9=_;omega) ?_
  |refine gG (s:=9) (len:=0) 2 1 (ah jX (o.take k)) (fun r=>[_,_,⟨r.b,38,ah jX (o.take k),r.n,true⟩,_]) yu OJ rfl rfl rfl rfl rfl rfl rfl rfl rfl rfl rfl (Nat.le_refl _) (Nat.le_refl _) (hobs.imp (fun e=>by omega) id) (gq.takeR o k) (gq.lenTake hk) (gq.ones _) (by omega) (fun _=>rfl) (fun r=>?_)
  |refine(Bl 9 [(0,_)]) (OI) (fun g0=>?_)
  |refine(Bl 0 []) (VC) (fun g1=>?_)
  |refine gG (s:=9) (len:=0) 3 1 (ah jX (o.take k)) (fun r=>[_,_,_,⟨r.b,38,ah jX (o.take k),r.n,true⟩]) yu OJ rfl rfl rfl rfl rfl rfl rfl rfl rfl rfl rfl (Nat.le_refl _) (Nat.le_refl _) (hobs.imp (fun e=>by omega) id) (gq.takeR o k) (gq.lenTake hk) (gq.ones _) (by omega) (fun _=>rfl) (fun r=>?_)
  |refine gG (s:=9) (len:=0+k) (n2:=1) 3 2 (jX x) (fun r2=>[_,_,_,⟨r2.b,38,ah jX (o.take k)++jX x,r2.n,true⟩]) yu OJ rfl rfl rfl rfl rfl rfl rfl rfl rfl rfl (by rw[gq.lenTake hk,Nat.zero_add]) r.h r.hn (.inr ⟨_,rfl⟩) rfl rfl (gq.one x) (by omega) (fun _=>rfl) (fun r2=>?_)
  |refine(Qo (s:=9) (len:=0+k+1) 3 1 (ah jX (o.drop k)) (fun r3=>[_,_,_,⟨r3.b,38,(ah jX (o.take k)++jX x)++ah jX (o.drop k),r3.n,true⟩]) yu OJ) (by exact(by rw[List.length_append,gq.lenTake hk,gq.len];omega)) r2.h r2.hn (by exact(hobs.imp (fun e=>by omega) id)) (gq.dropT h3 hk) (gq.lenDrop o k) (gq.ones _) (fun r3=>?_)
  |refine ZJ (by decide+kernel) ?_
  |refine iW [10] (by decide+kernel) rfl ⟨⟨_,rfl,?_⟩,trivial⟩
  |refine iW [14] (by decide+kernel) rfl ⟨⟨_,rfl,?_⟩,trivial⟩
  |refine iW [15] (by decide+kernel) rfl ⟨⟨_,rfl,?_⟩,trivial⟩
  |refine iW [9] (by decide+kernel) rfl ⟨⟨_,rfl,?_⟩,trivial⟩
  |refine iW [4] (by decide+kernel) rfl ⟨⟨_,rfl,?_⟩,trivial⟩
  |refine iW [8] (by decide+kernel) rfl ⟨⟨_,rfl,?_⟩,trivial⟩
  |refine iW [4,9] (by decide+kernel) rfl ⟨⟨_,rfl,?_⟩,⟨_,rfl,?_⟩,trivial⟩
  |refine iW [4,8] (by decide+kernel) rfl ⟨⟨_,rfl,?_⟩,⟨_,rfl,?_⟩,trivial⟩
  |refine iW [0,7] (by decide+kernel) rfl ⟨⟨_,rfl,?_⟩,⟨_,rfl,?_⟩,trivial⟩
  |refine iW [4,7] (by decide+kernel) rfl ⟨⟨_,rfl,?_⟩,⟨_,rfl,?_⟩,trivial⟩
  |refine iW [7] (by decide+kernel) rfl ⟨⟨_,rfl,?_⟩,trivial⟩
  |refine iW [0,8] (by decide+kernel) rfl ⟨⟨_,rfl,?_⟩,⟨_,rfl,?_⟩,trivial⟩
  |refine iW [0,9] (by decide+kernel) rfl ⟨⟨_,rfl,?_⟩,⟨_,rfl,?_⟩,trivial⟩
  |refine iW [0] (by decide+kernel) rfl ⟨⟨_,rfl,?_⟩,trivial⟩):=h
end
namespace Go.Proofs.YtaffcpfhedadhaaGreatDoor
open Go Go.RowKit Go.Via
def UU(p r:Rat)(n:Bool)(hp:bV p<=1000000:=by omega)(hr:bV r<=1000000:=by omega):aH Tryz.prog 100 #[Q p,Q r,.bool n] (RV (ofM p r n)):=by
 have l1:=Pi r;have l2:=dX (mr r);refine pB3 26 Tryz.func100 fun w=>?_;refine A2 ?_;refine Bp 4 (fun g0=>?_);refine Bp 4 (fun g1=>?_);refine Al 9 OD (fun g2=>?_);refine A5 ?_;refine L4 1 0 ?_;refine Pc (Pz r) ?_;refine A3 ?_;refine Al 4 oM (fun g3=>?_);refine Ss 3 ?_;refine A8 ?_;refine Cd ?_ ?_<;>intro haQ
 ·have hs14:Bj r=true:=haQ;refine A6 ?_;refine Cd ?_ ?_<;>intro hbQ
  ·have hs15:n=true:=hbQ;refine A1 ?_;refine L4 3 0 ?_;refine aQ 16 (Q (mr r)) rfl (by rw[hs14,if_pos rfl];rfl) ?_;refine Pc (zY (mr r)) ?_;refine Ss 3 ?_;refine A4 ?_;refine L4 0 0 ?_;refine L4 3 0 ?_;refine Pc (gZ p (-mr r)) ?_;refine(Bu [(0,_)]) (FD) ?_;refine Ss 2 ?_;refine A4 ?_;refine Ed9 2 ?_;rw[ofM,hs14,if_pos rfl,if_pos hs15,JV]
  ·have hs15:n=false:=hbQ;refine A4 ?_;refine L4 0 0 ?_;refine L4 3 0 ?_;refine aQ 19 (Q (mr r)) rfl (by rw[hs14,if_pos rfl];rfl) ?_;refine Pc (gZ p (mr r)) ?_;refine(Bu [(0,_)]) (FD) ?_;refine Ss 2 ?_;refine A4 ?_;refine Ed9 2 ?_;rw[ofM,hs14,if_pos rfl,if_neg (by rw[hs15];decide),JV]
 ·have hs14:Bj r=false:=haQ;refine A4 ?_;refine L4 0 0 ?_;refine L4 1 0 ?_;refine A1 ?_;refine(Bu [(0,_),(1,_),(2,_)]) (Z5) ?_;refine Ss 2 ?_;refine A3 ?_;refine Ed9 2 ?_;rw[ofM,hs14,if_neg (by decide)];rfl
def JZ(f:Qd)(t:Rl)(h0:t.ok)(hf:tJ f<=10000:=by omega)(ht:gz t<=10000:=by omega):aH Tryz.prog 46 #[qH f,RV t] (RV (Nq f t)):=by
 have hz:=qbJ hf ht;have z0:=Nat.le_trans (o7 (lI f t)) hz;have z1:=Nat.le_trans (o8 (lI f t)) hz;have t1:=Nat.le_trans (rD t) ht;have t2:=Nat.le_trans (xO t) ht;have l1:=aS (lI f t).c1 t.p;have l2:=cO (lI f t).c0 ((lI f t).c1*t.p);have l3:=aS (lI f t).c1 (lI f t).c1;have l4:=aS ((lI f t).c1*(lI f t).c1) t.r;refine nG 35 Tryz.func46 fun w=>?_;refine A2 ?_;refine Bp 12 (fun g0=>?_);refine Bp 9 (fun g1=>?_);refine Al 9 OD (fun g2=>?_);refine A4 ?_;refine uV 0 0 ?_;refine L9 1 0 ?_;refine Pc (JY f t) ?_;refine Al 12 Gv (fun g3=>?_);refine Ss 3 ?_;refine A3 ?_;refine Dq [3000000] [0,1,2,3,4,5,6,7,8,9] ?_;refine A1 ?_;refine L4 3 0 ?_;refine A1 ?_;refine L4 3 4 ?_;refine A1 ?_;refine L4 1 0 ?_;refine Pc (dF (lI f t).c1 t.p) ?_;refine Pc (gZ (lI f t).c0 ((lI f t).c1*t.p)) ?_;refine Al 4 oM (fun g4=>?_);refine Ss 4 ?_;refine A3 ?_;refine Dp [] [0,1,2,3,4,6,7,9,10,11,12,5,8,13,14,15,16,17] ?_;refine L4 4 0 ?_;refine A1 ?_;refine L4 3 4 ?_;refine A1 ?_;refine L4 3 4 ?_;refine A1 ?_;refine L4 1 4 ?_;refine A3 ?_;refine L4 3 4 ?_;refine Pc (dF (lI f t).c1 (lI f t).c1) ?_;refine Pc (dF ((lI f t).c1*(lI f t).c1) t.r) ?_;refine Pc (jH (lI f t).c1) ?_;refine A1 ?_;refine oG rfl u4 rfl rfl rfl ?_;refine Pc (UU ((lI f t).c0+(lI f t).c1*t.p) ((lI f t).c1*(lI f t).c1*t.r) (t.n !=decide (dE (lI f t).c1<0))) ?_;refine Ss 2 ?_;refine A3 ?_;refine Ed9 2 ?_;rw[<-qhR h0];rfl
def J3(l:List Rl)(lb:Option Nat)(lN lc:Nat)(hlc:l.length<=lc)(hln:l.length<=4000)(hsz:∀x∈l,gz x<=50000):bW Tryz.prog 147 [⟨lb,38,ah jX l,lN,false⟩] [az lb 0 l.length lc] (SR (dW l).length) SR.v (fun z=>[⟨z.b,38,ah jX (dW l),z.n,true⟩]):=by
 refine MI 62 Tryz.func147 fun w hL0=>?_;refine KU ?_;refine El (ι:={z:Nat×List Rl×Option Nat×Nat×Nat // z.1<=l.length∧z.2.1=dW (l.take z.1)∧z.2.1.length<=z.2.2.2.2∧z.2.2.2.2*9<=z.2.2.2.1}) (fun⟨⟨i,o,ob,oN,oc⟩,hi,hI,h3,h4⟩=>([(0,az lb 0 l.length lc),(3,az ob 0 o.length oc),(4,aZ i)],[⟨lb,38,ah jX l,lN,false⟩,⟨ob,38,ah jX o,oN,true⟩],l.length-i)) ⟨⟨0,[],none,0,0⟩,Nat.zero_le _,rfl,Nat.le_refl _,by simp⟩ ?_ (hL:=(ak [some 0,none] ⟨pR,⟨rfl,rfl,rfl⟩,trivial⟩ rfl rfl));rintro⟨⟨i,o,ob,oN,oc⟩,hi,hI,h3,h4⟩;(try dsimp only);replace hi:i<=l.length:=hi;replace hI:o=dW (l.take i):=hI;replace h3:o.length<=oc:=h3;replace h4:oc*9<=oN:=h4
 have hos:∀y∈o,gz y<=50000:=(by rw[hI];exact WN (p:=fun y=>gz y<=50000) fun y hy=>hsz y (List.mem_of_mem_take hy));have hol:o.length<=4000:=(by rw[hI];have:=Px (l.take i);rw[List.length_take] at this;omega);refine qF 1 rfl (fun hbase=>?_);have hobs:o.length=0∨∃g,ob=some g:=rF gq (by decide) hbase;refine A9 ?_;refine Cd ?_ ?_<;>intro haQ
 ·have hlt:i<l.length:=(by have:=of_decide_eq_true haQ;omega);obtain⟨x,hx⟩:∃x,l[i]? =some x:=⟨l[i],List.getElem?_eq_getElem hlt⟩;have hxs:=hsz x (List.mem_of_getElem? hx);refine pq ?_;refine El (ι:={k:Nat // k<=o.length∧∀j y,j<k->o[j]? =some y->bK y x<0}) (fun⟨k,hk,hall⟩=>([(0,az lb 0 l.length lc),(3,az ob 0 o.length oc),(4,aZ i),(5,aZ k)],[⟨lb,38,ah jX l,lN,false⟩,⟨ob,38,ah jX o,oN,true⟩],o.length-k)) ⟨0,Nat.zero_le _,fun j y hj=>absurd hj (by omega)⟩ ?_ (hL:=eH.auto);rintro⟨k,hk,hall⟩;(try dsimp only);refine A2 ?_;refine Di [] ?_;refine A5 ?_;refine Rs 16 ?_ ?_<;>intro hbQ
  ·have hklt:k<o.length:=(by have:=of_decide_eq_true hbQ;omega);obtain⟨y,hy⟩:∃y,o[k]? =some y:=⟨o[k],List.getElem?_eq_getElem hklt⟩;have hys:=hos y (List.mem_of_getElem? hy);refine A2 ?_;refine ai 1 ((k)*9) yu iH rfl rfl rfl rfl rfl (by omega) (by omega) (gq.ne (by decide) (by omega)) (by show 0+Int.toNat _*9=_;omega) ?_;refine aI (v:=RV y) 1 ((k)*9) _ rfl rfl rfl rfl iH (gq.sub hy 0 9 (by decide)) rfl (by decide) rfl ?_;refine A2 ?_;refine ai 0 ((i)*9) yu iH rfl rfl rfl rfl rfl (by omega) (by omega) (gq.ne (by decide) (by omega)) (by show 0+Int.toNat _*9=_;omega) ?_;refine aI (v:=RV x) 0 ((i)*9) _ rfl rfl rfl rfl iH (gq.sub hx 0 9 (by decide)) rfl (by decide) rfl ?_;refine Pc (eX y x hys hxs) ?_;refine A4 ?_;refine Cd ?_ ?_<;>intro hcQ
   ·have hylt:bK y x<0:=of_decide_eq_true hcQ;refine A5 ?_;refine Ar (((k+1:Nat):Int)) ?_;refine A4 ?_;exact Nl ⟨k+1,hklt,fun j z hj hz=>by by_cases e:j<k;exact hall j z e hz;(have:j=k:=by omega);subst this;rw[hy] at hz;cases hz;exact hylt⟩ (hL:=eH.auto)
   ·have hyge:¬bK y x<0:=of_decide_eq_false hcQ;refine A7 ?_;refine Di [] ?_;refine A5 ?_;refine Rs 34 ?_ ?_<;>intro hdQ
    ·refine A2 ?_;refine ai 1 ((k)*9) yu iH rfl rfl rfl rfl rfl (by omega) (by omega) (gq.ne (by decide) (by omega)) (by show 0+Int.toNat _*9=_;omega) ?_;refine aI (v:=RV y) 1 ((k)*9) _ rfl rfl rfl rfl iH (gq.sub hy 0 9 (by decide)) rfl (by decide) rfl ?_;refine A2 ?_;refine ai 0 ((i)*9) yu iH rfl rfl rfl rfl rfl (by omega) (by omega) (gq.ne (by decide) (by omega)) (by show 0+Int.toNat _*9=_;omega) ?_;refine aI (v:=RV x) 0 ((i)*9) _ rfl rfl rfl rfl iH (gq.sub hx 0 9 (by decide)) rfl (by decide) rfl ?_;refine Pc (eX y x hys hxs) ?_;refine A4 ?_;refine Cd ?_ ?_<;>intro heQ
     ·have hye:bK y x=0:=eq_of_beq heQ;have hsame:=WM hy hall hyge hye;refine A6 ?_;refine dh ?_;exact Nl ⟨⟨i+1,o,ob,oN,oc⟩,hlt,by show o=dW (l.take (i+1));rw[SA hx,<-hI,hsame],h3,h4⟩ (hμ:=(by show l.length-(i+1)<l.length-i;omega)) (hL:=eH.auto)
     ·have hye:bK y x≠0:=ne_of_beq_false heQ;have hins:=Pv (x:=x) hk hall (fun z hz=>by rw[hy] at hz;cases hz;exact⟨hyge,hye⟩);refine A2 ?_;exact qj7
    ·exfalso;have:=of_decide_eq_false hdQ;omega
  ·have hkl:k=o.length:=(by have:=of_decide_eq_false hbQ;omega);have hins:=Pv (x:=x) hk hall (fun y hy=>absurd (List.getElem?_eq_some_iff.1 hy).1 (by omega));refine A21 ?_;refine Di [] ?_;refine A5 ?_;refine Rs 34 ?_ ?_<;>intro hcQ
   ·exfalso;have:=of_decide_eq_true hcQ;omega
   ·refine KT ?_;exact qj7
 ·have hge:i=l.length:=(by have:=of_decide_eq_false haQ;omega);subst hge;obtain rfl:o=dW l:=by rw[hI,List.take_length]
  refine lw ?_;refine aF rfl (aj rfl) (fun w hL=>⟨⟨ob,oN,oc,h3⟩,?_,hL.pk [some 1]⟩);exact rfl
def BZ(l:List Iv)(lb:Option Nat)(lN lc:Nat)(hlc:l.length<=lc)(hln:l.length<=1000)(hsz:∀x∈l,jB x<=50000)(t:Rl)(ht:gz t<=50000:=by omega):bW Tryz.prog 97 [⟨lb,61,ah bG l,lN,false⟩] [az lb 0 l.length lc,RV t] Unit (fun _=> .bool (l.any (fun i=>UO i t))) (fun _=>[]):=by
 refine⟨by kernel_rfl,fun w hL0=>?_⟩;refine XC 18 Tryz.func97 hL0 ?_;refine A2 ?_;refine Bo [_,_,_,_,_,_,_,_,_] 9 (fun g=>[_,⟨some g,38,_,9,true⟩]) (fun g0=>?_);refine kN ?_;refine El (ι:={i:Nat // i<=l.length∧l.any (fun i=>UO i t)=(l.drop i).any (fun i=>UO i t)}) (fun⟨i,hi,hI⟩=>([(0,az lb 0 l.length lc),(5,.int .i64 (i:Nat)),(3,.pointer (some ⟨g0,0,none⟩))],[⟨lb,61,ah bG l,lN,false⟩,⟨some g0,38,jX t,9,true⟩],l.length-i)) ⟨0,Nat.zero_le _,rfl⟩ ?_;rintro⟨i,hi,hI⟩;(try dsimp only);refine A9 ?_;refine x8 rfl (fun hb1=>?_) (fun hb1=>?_)
 ·
  have hlt:i<l.length:=(by have:=of_decide_eq_true hb1;omega)
  obtain⟨x,hx⟩:∃x,l[i]? =some x:=⟨l[i],List.getElem?_eq_getElem hlt⟩
  have hxs:=hsz x (List.mem_of_getElem? hx);refine eF 0 rfl (bu.ne (by decide) (by omega)) (fun hbs=>?_);obtain⟨gl,hgl⟩:=Option.isSome_iff_exists.1 hbs;replace hgl:lb=some gl:=hgl;subst hgl;refine A5 ?_;refine Fq [] mixed (by kernel_rfl) (by kernel_rfl) ?_;refine A2 ?_;refine ai 0 ((i)*20) FH iR rfl rfl rfl rfl rfl (by omega) (by omega) (bu.ne (by decide) (by omega)) (by show 0+Int.toNat _*20=_;omega) ?_;refine aI (v:=kG x) 0 ((i)*20) _ rfl rfl rfl rfl iR (bu.sub hx 0 20 (by decide)) rfl (by decide) rfl ?_;refine aI 1 0 [_,_,_,_,_,_,_,_,_] rfl rfl rfl rfl iH rfl rfl rfl rfl ?_;refine Pc (UT x t hxs ht) ?_;refine A2 ?_;refine x8 rfl (fun hb2=>?_) (fun hb2=>?_)
  ·
   have hyes:UO x t=true:=hb2;refine pq ?_;refine aF rfl (aj rfl) (fun w hL=>⟨(),?_,hL.pk []⟩);rw[hI,mO hx,hyes];rfl
  ·
   have hno:UO x t=false:=hb2;refine A5 ?_;refine dh ?_;exact Nl ⟨i+1,hlt,by rw[hI,mO hx];simp only[hno,Bool.false_or]⟩ (hL:=eH.auto)
 ·
  have hge:i=l.length:=(by have:=of_decide_eq_false hb1;omega)
  subst hge;refine pq ?_;refine aF rfl (aj rfl) (fun w hL=>⟨(),?_,hL.pk []⟩);rw[hI,List.drop_length];rfl
def Cb(l:List Iv)(lb:Option Nat)(lN lc:Nat)(hlc:l.length<=lc)(hln:l.length<=1000)(hsz:∀x∈l,jB x<=50000)(a c:Rl)(ha:gz a<=50000:=by omega)(hc:gz c<=50000:=by omega):bW Tryz.prog 98 [⟨lb,61,ah bG l,lN,false⟩] [az lb 0 l.length lc,RV a,RV c] Unit (fun _=> .bool (l.any (fun i=>decide (bK i.f a<=0)&&decide (bK c i.t<=0)))) (fun _=>[]):=by
 refine⟨by kernel_rfl,fun w hL0=>?_⟩;refine ZM 32 Tryz.func98 hL0 ?_;refine A2 ?_;refine Bo [_,_,_,_,_,_,_,_,_] 9 (fun g=>[_,⟨some g,38,_,9,true⟩]) (fun g0=>?_);refine Bo [_,_,_,_,_,_,_,_,_] 9 (fun g=>[_,_,⟨some g,38,_,9,true⟩]) (fun g1=>?_);refine kN ?_;refine El (ι:={i:Nat // i<=l.length∧l.any (fun i=>decide (bK i.f a<=0)&&decide (bK c i.t<=0))=(l.drop i).any (fun i=>decide (bK i.f a<=0)&&decide (bK c i.t<=0))}) (fun⟨i,hi,hI⟩=>([(0,az lb 0 l.length lc),(7,.int .i64 (i:Nat)),(4,.pointer (some ⟨g0,0,none⟩)),(5,.pointer (some ⟨g1,0,none⟩))],[⟨lb,61,ah bG l,lN,false⟩,⟨some g0,38,jX a,9,true⟩,⟨some g1,38,jX c,9,true⟩],l.length-i)) ⟨0,Nat.zero_le _,rfl⟩ ?_;rintro⟨i,hi,hI⟩;(try dsimp only);refine A9 ?_;refine x8 rfl (fun hb1=>?_) (fun hb1=>?_)
 ·
  have hlt:i<l.length:=(by have:=of_decide_eq_true hb1;omega)
  obtain⟨x,hx⟩:∃x,l[i]? =some x:=⟨l[i],List.getElem?_eq_getElem hlt⟩
  have hxs:=hsz x (List.mem_of_getElem? hx);refine eF 0 rfl (bu.ne (by decide) (by omega)) (fun hbs=>?_);obtain⟨gl,hgl⟩:=Option.isSome_iff_exists.1 hbs;replace hgl:lb=some gl:=hgl;subst hgl;refine A5 ?_;refine Fq [] mixed (by kernel_rfl) (by kernel_rfl) ?_;refine A2 ?_;refine ai 0 ((i)*20) FH iR rfl rfl rfl rfl rfl (by omega) (by omega) (bu.ne (by decide) (by omega)) (by show 0+Int.toNat _*20=_;omega) ?_;refine yf ((i)*20) 0 rfl rfl rfl iR rfl rfl ?_;refine aI (v:=RV x.f) 0 ((i)*20+0) _ rfl rfl rfl rfl iH (bu.sub hx 0 9 (by decide)) rfl (by decide) rfl ?_;refine aI 1 0 [_,_,_,_,_,_,_,_,_] rfl rfl rfl rfl iH rfl rfl rfl rfl ?_;refine Pc (eX x.f a (Nat.le_trans (jI x) hxs) ha) ?_;refine A2 ?_;refine DU 22 rfl (fun hb2=>?_) (fun hb2=>?_)
  ·
   have hs22:bK x.f a<=0:=of_decide_eq_true hb2;refine aI 2 0 [_,_,_,_,_,_,_,_,_] rfl rfl rfl rfl iH rfl rfl rfl rfl ?_;refine A2 ?_;refine ai 0 ((i)*20) FH iR rfl rfl rfl rfl rfl (by omega) (by omega) (bu.ne (by decide) (by omega)) (by show 0+Int.toNat _*20=_;omega) ?_;refine yf ((i)*20) 9 rfl rfl rfl iR rfl rfl ?_;refine aI (v:=RV x.t) 0 ((i)*20+9) _ rfl rfl rfl rfl iH (bu.sub hx 9 9 (by decide)) rfl (by decide) rfl ?_;refine Pc (eX c x.t hc (Nat.le_trans (jJ x) hxs)) ?_;refine A4 ?_;refine x8 rfl (fun hb3=>?_) (fun hb3=>?_)
   ·
    have hs30:bK c x.t<=0:=of_decide_eq_true hb3
    have hyes:(decide (bK x.f a<=0)&&decide (bK c x.t<=0))=true:=by rw[decide_eq_true hs22,decide_eq_true hs30];rfl
    refine pq ?_;refine aF rfl (aj rfl) (fun w hL=>⟨(),?_,hL.pk []⟩);rw[hI,mO hx,hyes];rfl
   ·
    have hs30:¬bK c x.t<=0:=of_decide_eq_false hb3
    have hno:(decide (bK x.f a<=0)&&decide (bK c x.t<=0))=false:=by rw[decide_eq_false hs30,Bool.and_false]
    refine A5 ?_;refine dh ?_;exact Nl ⟨i+1,hlt,by rw[hI,mO hx];simp only[hno,Bool.false_or]⟩ (hL:=eH.auto)
  ·
   have hs22:¬bK x.f a<=0:=of_decide_eq_false hb2
   have hno:(decide (bK x.f a<=0)&&decide (bK c x.t<=0))=false:=by rw[decide_eq_false hs22];rfl
   refine KU ?_;refine dh ?_;exact Nl ⟨i+1,hlt,by rw[hI,mO hx];simp only[hno,Bool.false_or]⟩ (hL:=eH.auto)
 ·
  have hge:i=l.length:=(by have:=of_decide_eq_false hb1;omega)
  subst hge;refine pq ?_;refine aF rfl (aj rfl) (fun w hL=>⟨(),?_,hL.pk []⟩);rw[hI,List.drop_length];rfl
def Ae(op:Int)(a b:Bool):aH Tryz.prog 96 #[.int .i64 op,.bool a,.bool b] (.bool (uG op a b)):=by
 refine⟨by kernel_rfl,fun w=>?_⟩;refine ZM 25 Tryz.func96 (aV.nil w) ?_;refine A18 ?_;refine x8 rfl (fun hb0=>?_) (fun hb0=>?_)
 ·
  refine A4 ?_;refine DU 11 rfl (fun hb1=>?_) (fun hb1=>?_)
  ·
   refine A8 ?_;refine aF rfl (aj rfl) (fun w hL=>⟨?_,hL.below⟩);exact congrArg (fun b=>Ending.returned (.bool b)) (by unfold uG;first|(simp_all;done)|(revert hb0;cases a<;>cases b<;>simp_all))
  ·
   refine A8 ?_;refine aF rfl (aj rfl) (fun w hL=>⟨?_,hL.below⟩);exact congrArg (fun b=>Ending.returned (.bool b)) (by unfold uG;first|(simp_all;done)|(revert hb0;cases a<;>cases b<;>simp_all))
 ·
  refine A6 ?_;refine x8 rfl (fun hb1=>?_) (fun hb1=>?_)
  ·
   refine A4 ?_;refine DU 17 rfl (fun hb2=>?_) (fun hb2=>?_)
   ·
    refine A8 ?_;refine aF rfl (aj rfl) (fun w hL=>⟨?_,hL.below⟩);exact congrArg (fun b=>Ending.returned (.bool b)) (by unfold uG;first|(simp_all;done)|(revert hb0;cases a<;>cases b<;>simp_all))
   ·
    refine A8 ?_;refine aF rfl (aj rfl) (fun w hL=>⟨?_,hL.below⟩);exact congrArg (fun b=>Ending.returned (.bool b)) (by unfold uG;first|(simp_all;done)|(revert hb0;cases a<;>cases b<;>simp_all))
  ·
   refine A7 ?_;refine DU 21 rfl (fun hb2=>?_) (fun hb2=>?_)
   ·
    refine A7 ?_;refine aF rfl (aj rfl) (fun w hL=>⟨?_,hL.below⟩);exact congrArg (fun b=>Ending.returned (.bool b)) (by unfold uG;first|(simp_all;done)|(revert hb0;cases a<;>cases b<;>simp_all))
   ·
    refine A7 ?_;refine aF rfl (aj rfl) (fun w hL=>⟨?_,hL.below⟩);exact congrArg (fun b=>Ending.returned (.bool b)) (by unfold uG;first|(simp_all;done)|(revert hb0;cases a<;>cases b<;>simp_all))
def PE(l:List Iv)(lb:Option Nat)(lN lc:Nat)(hlc:l.length<=lc)(hln:l.length<=2000)(hsz:∀x∈l,jB x<=50000):bW Tryz.prog 95 [⟨lb,61,ah bG l,lN,false⟩] [az lb 0 l.length lc] (SR (dW (bM l)).length) SR.v (fun z=>[⟨z.b,38,ah jX (dW (bM l)),z.n,true⟩]):=by
 refine MI 26 Tryz.func95 fun w hL0=>?_;refine KU ?_;refine El (ι:={z:Nat×List Rl×Option Nat×Nat×Nat // z.1<=l.length∧z.2.1=bM (l.take z.1)∧z.2.1.length<=z.2.2.2.2∧z.2.2.2.2*9<=z.2.2.2.1}) (fun⟨⟨i,o,ob,oN,oc⟩,hi,hI,h3,h4⟩=>([(0,az lb 0 l.length lc),(3,az ob 0 o.length oc),(4,aZ i)],[⟨lb,61,ah bG l,lN,false⟩,⟨ob,38,ah jX o,oN,true⟩],l.length-i)) ⟨⟨0,[],none,0,0⟩,Nat.zero_le _,rfl,Nat.le_refl _,by simp⟩ ?_ (hL:=(ak [some 0,none] ⟨pR,⟨rfl,rfl,rfl⟩,trivial⟩ rfl rfl));rintro⟨⟨i,o,ob,oN,oc⟩,hi,hI,h3,h4⟩;(try dsimp only);replace hi:i<=l.length:=hi;replace hI:o=bM (l.take i):=hI;replace h3:o.length<=oc:=h3;replace h4:oc*9<=oN:=h4
 have hol:o.length<=100000:=(by rw[hI,uH,List.length_take];omega);refine A9 ?_;refine Cd ?_ ?_<;>intro haQ
 ·have hlt:i<l.length:=(by have:=of_decide_eq_true haQ;omega);obtain⟨x,hx⟩:∃x,l[i]? =some x:=⟨l[i],List.getElem?_eq_getElem hlt⟩;refine eF 0 rfl (bu.ne (by decide) (by omega)) (fun hbs=>?_);obtain⟨gl,hgl⟩:=Option.isSome_iff_exists.1 hbs;replace hgl:lb=some gl:=hgl;subst hgl;refine A4 ?_;refine pY (l':=[⟨_,_,_,_,_,_⟩,⟨_,_,_,_,_,_⟩,⟨_,_,_,_,_,_⟩,⟨_,_,_,_,_,_⟩,⟨_,_,_,_,_,_⟩,⟨_,_,_,_,_,_⟩,⟨_,_,_,_,_,_⟩,⟨_,_,_,_,_,_⟩,⟨_,_,_,_,_,_⟩,⟨_,_,_,_,_,_⟩]) [2000000] [1,2,3,4,5,6,7,8,9,10] [0,11,12,13] mixed (by kernel_rfl) rfl ?_;refine A2 ?_;refine ai 0 ((i)*20) FH iR rfl rfl rfl rfl rfl (by omega) (by omega) (bu.ne (by decide) (by omega)) (by show 0+Int.toNat _*20=_;omega) ?_;refine Fg ((i)*20) 0 ?_;refine aI (v:=RV x.f) 0 ((i)*20+0) _ rfl rfl rfl rfl iH (bu.sub hx 0 9 (by decide)) rfl (by decide) rfl ?_;refine A2 ?_;refine ai 0 ((i)*20) FH iR rfl rfl rfl rfl rfl (by omega) (by omega) (bu.ne (by decide) (by omega)) (by show 0+Int.toNat _*20=_;omega) ?_;refine Fg ((i)*20) 9 ?_;refine aI (v:=RV x.t) 0 ((i)*20+9) _ rfl rfl rfl rfl iH (bu.sub hx 9 9 (by decide)) rfl (by decide) rfl ?_;refine A1 ?_;refine bP [0,11] (by kernel_rfl) ⟨⟨_,rfl,?_⟩,⟨_,rfl,?_⟩,trivial⟩
  ·refine A2 ?_;refine bP [11] (by kernel_rfl) ⟨⟨_,rfl,?_⟩,trivial⟩
   ·refine(Bl 18 [(0,_),(1,_)]) (VD) (fun g0=>?_);refine A1 ?_;refine bP [12] (by kernel_rfl) ⟨⟨_,rfl,?_⟩,trivial⟩
    ·refine(Qa (s:=9) (len:=o.length) (n2:=2) 1 2 (fun r=>[_,⟨some r.g,38,ah jX o++(jX x.f++jX x.t),r.n,true⟩,_]) yu OJ) (gq.length o) h3 h4 (fun v hv=>List.all_eq_true.1 (show(jX x.f++jX x.t).all (·.oneCell')=true from rfl) v hv) (fun r=>?_);refine A1 ?_;refine bP [13] (by kernel_rfl) ⟨⟨_,rfl,?_⟩,trivial⟩
     ·refine A2 ?_;refine CB rfl ?_;refine A4 ?_;refine dh ?_;exact Nl ⟨⟨i+1,o++[x.f,x.t],some r.g,r.n,r.cap⟩,hlt,by show o++[x.f,x.t]=bM (l.take (i+1));rw[<-dZ hx,rC,<-hI];rfl,by rw[List.length_append];exact r.h,r.hn⟩ (hμ:=(by show l.length-(i+1)<l.length-i;omega)) (ht:=⟨rfl,(aG rfl (by rw[List.length_append];rfl)),rfl,trivial⟩) (hL:=(ak [some 0,some 1] ⟨pR,⟨_,rfl,aK (by rw[kM];rfl)⟩,trivial⟩ rfl rfl))
  ·refine(Bl 18 [(0,_),(1,_)]) (VD) (fun g0=>?_);refine A1 ?_;refine bP [0] (by kernel_rfl) ⟨⟨_,rfl,?_⟩,trivial⟩
   ·refine A2 ?_;refine bP [12] (by kernel_rfl) ⟨⟨_,rfl,?_⟩,trivial⟩
    ·refine(Qa (s:=9) (len:=o.length) (n2:=2) 1 2 (fun r=>[_,⟨some r.g,38,ah jX o++(jX x.f++jX x.t),r.n,true⟩,_]) yu OJ) (gq.length o) h3 h4 (fun v hv=>List.all_eq_true.1 (show(jX x.f++jX x.t).all (·.oneCell')=true from rfl) v hv) (fun r=>?_);refine A1 ?_;refine bP [13] (by kernel_rfl) ⟨⟨_,rfl,?_⟩,trivial⟩
     ·refine A2 ?_;refine CB rfl ?_;refine A4 ?_;refine dh ?_;exact Nl ⟨⟨i+1,o++[x.f,x.t],some r.g,r.n,r.cap⟩,hlt,by show o++[x.f,x.t]=bM (l.take (i+1));rw[<-dZ hx,rC,<-hI];rfl,by rw[List.length_append];exact r.h,r.hn⟩ (hμ:=(by show l.length-(i+1)<l.length-i;omega)) (ht:=⟨rfl,(aG rfl (by rw[List.length_append];rfl)),rfl,trivial⟩) (hL:=(ak [some 0,some 1] ⟨pR,⟨_,rfl,aK (by rw[kM];rfl)⟩,trivial⟩ rfl rfl))
 ·have hge:i=l.length:=(by have:=of_decide_eq_false haQ;omega);subst hge;obtain rfl:o=bM l:=by rw[hI,List.take_length]
  refine A8 ?_;refine(Sc [1]) (J3 (bM l) ob oN oc h3 (by rw[uH];omega) (WO hsz)) (fun z=>?_);refine A4 ?_;refine aF rfl (aj rfl) (fun w hL=>⟨z,?_,hL.pk [some 2]⟩);exact rfl
end Go.Proofs.YtaffcpfhedadhaaGreatDoor
