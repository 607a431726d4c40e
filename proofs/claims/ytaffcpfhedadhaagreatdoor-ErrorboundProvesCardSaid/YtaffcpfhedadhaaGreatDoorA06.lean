/-
  Part 6 (chapter 32): lemmas, walks. Each theorem states its own conditions.
-/
import Derived.Test.YtaffcpfhedadhaaGreatDoorA03
import Derived.Test.YtaffcpfhedadhaaGreatDoorA04
import Derived.Test.YtaffcpfhedadhaaGreatDoorA05
set_option linter.all false
set_option maxRecDepth 20000
set_option maxHeartbeats 20000000
namespace Go.Proofs.YtaffcpfhedadhaaGreatDoor
open Go Go.RowKit Go.Via
def Vb(p r:Rat)(n:Bool)(hp:dw p<=1000000:=by omega)(hr:dw r<=1000000:=by omega):aP Tryz.prog 100 #[Q p,Q r,.bool n] (RV (ofM p r n)):=by
 have l1:=PR r;have l2:=dI (nD r);refine pB3 26 Tryz.func100 fun w=>?_;refine A2 ?_;refine Bp 4 (fun g0=>?_);refine Bp 4 (fun g1=>?_);refine Al 9 O5 (fun g2=>?_);refine A5 ?_;refine L4 1 0 ?_;refine Pc (P6 r) ?_;refine A3 ?_;refine Al 4 qV (fun g3=>?_);refine Ss 3 ?_;refine A8 ?_;refine Cd ?_ ?_<;>intro hb0
 ·have hs14:BM r=true:=hb0;refine A6 ?_;refine Cd ?_ ?_<;>intro hb1
  ·have hs15:n=true:=hb1;refine A1 ?_;refine L4 3 0 ?_;refine aT 16 (Q (nD r)) rfl (by rw[hs14,if_pos rfl];rfl) ?_;refine Pc (Hq (nD r)) ?_;refine Ss 3 ?_;refine A4 ?_;refine L4 0 0 ?_;refine L4 3 0 ?_;refine Pc (iG p (-nD r)) ?_;refine(Bu [(0,_)]) (JL) ?_;refine Ss 2 ?_;refine A4 ?_;refine Ed9 2 ?_;rw[ofM,hs14,if_pos rfl,if_pos hs15,Ob]
  ·have hs15:n=false:=hb1;refine A4 ?_;refine L4 0 0 ?_;refine L4 3 0 ?_;refine aT 19 (Q (nD r)) rfl (by rw[hs14,if_pos rfl];rfl) ?_;refine Pc (iG p (nD r)) ?_;refine(Bu [(0,_)]) (JL) ?_;refine Ss 2 ?_;refine A4 ?_;refine Ed9 2 ?_;rw[ofM,hs14,if_pos rfl,if_neg (by rw[hs15];decide),Ob]
 ·have hs14:BM r=false:=hb0;refine A4 ?_;refine L4 0 0 ?_;refine L4 1 0 ?_;refine A1 ?_;refine(Bu [(0,_),(1,_),(2,_)]) (ZX) ?_;refine Ss 2 ?_;refine A3 ?_;refine Ed9 2 ?_;rw[ofM,hs14,if_neg (by decide)];rfl
def KN(f:Qd)(t:Rl)(h0:t.ok)(hf:uB f<=10000:=by omega)(ht:gY t<=10000:=by omega):aP Tryz.prog 46 #[rM f,RV t] (RV (NW f t)):=by
 have hz:=qbu hf ht;have z0:=Nat.le_trans (qo (mg f t)) hz;have z1:=Nat.le_trans (qp (mg f t)) hz;have t1:=Nat.le_trans (sO t) ht;have t2:=Nat.le_trans (yj t) ht;have l1:=aS (mg f t).c1 t.p;have l2:=bT (mg f t).c0 ((mg f t).c1*t.p);have l3:=aS (mg f t).c1 (mg f t).c1;have l4:=aS ((mg f t).c1*(mg f t).c1) t.r;refine oG 35 Tryz.func46 fun w=>?_;refine A2 ?_;refine Bp 12 (fun g0=>?_);refine Bp 9 (fun g1=>?_);refine Al 9 O5 (fun g2=>?_);refine A4 ?_;refine ut 0 0 ?_;refine L9 1 0 ?_;refine Pc (KL f t) ?_;refine Al 12 G6 (fun g3=>?_);refine Ss 3 ?_;refine A3 ?_;refine Dq [3000000] [0,1,2,3,4,5,6,7,8,9] ?_;refine A1 ?_;refine L4 3 0 ?_;refine A1 ?_;refine L4 3 4 ?_;refine A1 ?_;refine L4 1 0 ?_;refine Pc (dQ (mg f t).c1 t.p) ?_;refine Pc (iG (mg f t).c0 ((mg f t).c1*t.p)) ?_;refine Al 4 qV (fun g4=>?_);refine Ss 4 ?_;refine A3 ?_;refine Dp [] [0,1,2,3,4,6,7,9,10,11,12,5,8,13,14,15,16,17] ?_;refine L4 4 0 ?_;refine A1 ?_;refine L4 3 4 ?_;refine A1 ?_;refine L4 3 4 ?_;refine A1 ?_;refine L4 1 4 ?_;refine A3 ?_;refine L4 3 4 ?_;refine Pc (dQ (mg f t).c1 (mg f t).c1) ?_;refine Pc (dQ ((mg f t).c1*(mg f t).c1) t.r) ?_;refine Pc (lK (mg f t).c1) ?_;refine A1 ?_;refine pq rfl u4 rfl rfl rfl ?_;refine Pc (Vb ((mg f t).c0+(mg f t).c1*t.p) ((mg f t).c1*(mg f t).c1*t.r) (t.n !=decide (dJ (mg f t).c1<0))) ?_;refine Ss 2 ?_;refine A3 ?_;refine Ed9 2 ?_;rw[<-qhg h0];rfl
def KO(l:List Rl)(lb:Option Nat)(lN lc:Nat)(hlc:l.length<=lc)(hln:l.length<=4000)(hsz:∀x∈l,gY x<=50000):dh Tryz.prog 147 [⟨lb,38,ah iD l,lN,false⟩] [az lb 0 l.length lc] (SR (fG l).length) SR.v (fun z=>[⟨z.b,38,ah iD (fG l),z.n,true⟩]):=by
 refine Md 62 Tryz.func147 fun w hL0=>?_;refine MW ?_;refine El (ι:={z:Nat×List Rl×Option Nat×Nat×Nat // z.1<=l.length∧z.2.1=fG (l.take z.1)∧z.2.1.length<=z.2.2.2.2∧z.2.2.2.2*9<=z.2.2.2.1}) (fun⟨⟨i,o,ob,oN,oc⟩,hi,hI,h3,h4⟩=>([(0,az lb 0 l.length lc),(3,az ob 0 o.length oc),(4,bz i)],[⟨lb,38,ah iD l,lN,false⟩,⟨ob,38,ah iD o,oN,true⟩],l.length-i)) ⟨⟨0,[],none,0,0⟩,Nat.zero_le _,rfl,Nat.le_refl _,by simp⟩ ?_ (hL:=(au [some 0,none] ⟨pR,⟨rfl,rfl,rfl⟩,trivial⟩ rfl rfl));rintro⟨⟨i,o,ob,oN,oc⟩,hi,hI,h3,h4⟩;(try dsimp only);replace hi:i<=l.length:=hi;replace hI:o=fG (l.take i):=hI;replace h3:o.length<=oc:=h3;replace h4:oc*9<=oN:=h4
 have hos:∀y∈o,gY y<=50000:=(by rw[hI];exact WT (p:=fun y=>gY y<=50000) fun y hy=>hsz y (List.mem_of_mem_take hy));have hol:o.length<=4000:=(by rw[hI];have:=PZ (l.take i);rw[List.length_take] at this;omega);refine rH 1 rfl (fun hbase=>?_);have hobs:o.length=0∨∃g,ob=some g:=sS dK (by decide) hbase;refine A9 ?_;refine Cd ?_ ?_<;>intro hb1
 ·have hlt:i<l.length:=(by have:=of_decide_eq_true hb1;omega);obtain⟨x,hx⟩:∃x,l[i]? =some x:=⟨l[i],List.getElem?_eq_getElem hlt⟩;have hxs:=hsz x (List.mem_of_getElem? hx);refine oO ?_;refine El (ι:={k:Nat // k<=o.length∧∀j y,j<k->o[j]? =some y->bW y x<0}) (fun⟨k,hk,hall⟩=>([(0,az lb 0 l.length lc),(3,az ob 0 o.length oc),(4,bz i),(5,bz k)],[⟨lb,38,ah iD l,lN,false⟩,⟨ob,38,ah iD o,oN,true⟩],o.length-k)) ⟨0,Nat.zero_le _,fun j y hj=>absurd hj (by omega)⟩ ?_ (hL:=eG.auto);rintro⟨k,hk,hall⟩;(try dsimp only);refine A2 ?_;refine Di [] ?_;refine A5 ?_;refine Rs 16 ?_ ?_<;>intro hb3
  ·have hklt:k<o.length:=(by have:=of_decide_eq_true hb3;omega);obtain⟨y,hy⟩:∃y,o[k]? =some y:=⟨o[k],List.getElem?_eq_getElem hklt⟩;have hys:=hos y (List.mem_of_getElem? hy);refine A2 ?_;refine ai 1 ((k)*9) pX iK rfl rfl rfl rfl rfl (by omega) (by omega) (dK.ne (by decide) (by omega)) (by show 0+Int.toNat _*9=_;omega) ?_;refine aO (v:=RV y) 1 ((k)*9) _ rfl rfl rfl rfl iK (dK.sub hy 0 9 (by decide)) rfl (by decide) rfl ?_;refine A2 ?_;refine ai 0 ((i)*9) pX iK rfl rfl rfl rfl rfl (by omega) (by omega) (dK.ne (by decide) (by omega)) (by show 0+Int.toNat _*9=_;omega) ?_;refine aO (v:=RV x) 0 ((i)*9) _ rfl rfl rfl rfl iK (dK.sub hx 0 9 (by decide)) rfl (by decide) rfl ?_;refine Pc (gQ y x hys hxs) ?_;refine A4 ?_;refine Cd ?_ ?_<;>intro hb4
   ·have hylt:bW y x<0:=of_decide_eq_true hb4;refine A5 ?_;refine Ar (((k+1:Nat):Int)) ?_;refine A4 ?_;exact Nl ⟨k+1,hklt,fun j z hj hz=>by by_cases e:j<k;exact hall j z e hz;(have:j=k:=by omega);subst this;rw[hy] at hz;cases hz;exact hylt⟩ (hL:=eG.auto)
   ·have hyge:¬bW y x<0:=of_decide_eq_false hb4;refine A7 ?_;refine Di [] ?_;refine A5 ?_;refine Rs 34 ?_ ?_<;>intro hb5
    ·refine A2 ?_;refine ai 1 ((k)*9) pX iK rfl rfl rfl rfl rfl (by omega) (by omega) (dK.ne (by decide) (by omega)) (by show 0+Int.toNat _*9=_;omega) ?_;refine aO (v:=RV y) 1 ((k)*9) _ rfl rfl rfl rfl iK (dK.sub hy 0 9 (by decide)) rfl (by decide) rfl ?_;refine A2 ?_;refine ai 0 ((i)*9) pX iK rfl rfl rfl rfl rfl (by omega) (by omega) (dK.ne (by decide) (by omega)) (by show 0+Int.toNat _*9=_;omega) ?_;refine aO (v:=RV x) 0 ((i)*9) _ rfl rfl rfl rfl iK (dK.sub hx 0 9 (by decide)) rfl (by decide) rfl ?_;refine Pc (gQ y x hys hxs) ?_;refine A4 ?_;refine Cd ?_ ?_<;>intro hb6
     ·have hye:bW y x=0:=eq_of_beq hb6;have hsame:=WS hy hall hyge hye;refine A6 ?_;refine Ar (((i+1:Nat):Int)) ?_;refine A3 ?_;exact Nl ⟨⟨i+1,o,ob,oN,oc⟩,hlt,by show o=fG (l.take (i+1));rw[KJ hx,<-hI,hsame],h3,h4⟩ (hμ:=(by show l.length-(i+1)<l.length-i;omega)) (hL:=eG.auto)
     ·have hye:bW y x≠0:=ne_of_beq_false hb6;have hins:=PY (x:=x) hk hall (fun z hz=>by rw[hy] at hz;cases hz;exact⟨hyge,hye⟩);refine A2 ?_;refine Dl (X:={z:Option Nat×Nat×Nat×Nat // 0+k+1+(o.length-k)<=z.2.2.1∧z.2.2.1*9<=z.2.1}) (l':=[⟨_,_,_,_,_,_⟩,⟨_,_,_,_,_,_⟩,⟨_,_,_,_,_,_⟩,⟨_,_,_,_,_,_⟩,⟨_,_,_,_,_,_⟩,⟨_,_,_,_,_,_⟩,⟨_,_,_,_,_,_⟩,⟨_,_,_,_,_,_⟩]) (fun⟨⟨rb,rn,rc,gx⟩,rh,rhn⟩=>[(0,az lb 0 l.length lc),(3,az rb 0 (0+k+1+(o.length-k)) rc),(4,bz i)]) (fun⟨⟨rb,rn,rc,gx⟩,rh,rhn⟩=>[⟨lb,38,ah iD l,lN,false⟩,⟨ob,38,ah iD o,oN,true⟩,⟨rb,38,(ah iD (o.take k)++iD x)++ah iD (o.drop k),rn,true⟩,⟨some gx,38,iD x,9,true⟩]) [1,2,3,5,6,11,12,13] 8 mixed (by kernel_rfl) rfl ?_ ?_
      ·refine A2 ?_;refine iI k pX iK rfl rfl rfl rfl (by omega) (by omega) rfl ?_;refine A4 ?_;refine iJ k pX iK rfl rfl rfl rfl (by omega) rfl rfl rfl ?_;refine A1 ?_
       repeat' first
        |exact⟨⟨(r3.b,r3.n,r3.cap,g1),r3.h,r3.hn⟩,rfl,⟨rfl,rfl,rfl,trivial⟩,(by first|exact List.Perm.refl _|exact((List.Perm.swap _ _ _).cons _).cons _)⟩
        |exact⟨⟨(r3.b,r3.n,r3.cap,g0),r3.h,r3.hn⟩,rfl,⟨rfl,rfl,rfl,trivial⟩,(by first|exact List.Perm.refl _|exact((List.Perm.swap _ _ _).cons _).cons _)⟩
        |refine IG ?_
        |refine Eh rfl rfl rfl ?_
        |refine(Bl 9 [(0,_)]) (Ey) (fun g1=>?_)
        |refine fK (s:=9) (len:=0+k) (n2:=1) 2 3 (iD x) (fun r2=>[_,_,⟨r2.b,38,ah iD (o.take k)++iD x,r2.n,true⟩,_]) pX Cb rfl rfl rfl rfl rfl rfl rfl rfl rfl rfl (by rw[dK.lenTake hk,Nat.zero_add]) r.h r.hn (.inr ⟨_,rfl⟩) rfl rfl (dK.one x) (by omega) (fun _=>rfl) (fun r2=>?_)
        |refine(Qo (s:=9) (len:=0+k+1) 2 1 (ah iD (o.drop k)) (fun r3=>[_,_,⟨r3.b,38,(ah iD (o.take k)++iD x)++ah iD (o.drop k),r3.n,true⟩,_]) pX Cb) (by exact(by rw[List.length_append,dK.lenTake hk,dK.len];omega)) r2.h r2.hn (by exact(hobs.imp (fun e=>by omega) id)) (dK.dropT h3 hk) (dK.lenDrop o k) (dK.ones _) (fun r3=>?_)
        |refine fK (s:=9) (len:=0) 2 1 (ah iD (o.take k)) (fun r=>[_,_,⟨r.b,38,ah iD (o.take k),r.n,true⟩]) pX Cb rfl rfl rfl rfl rfl rfl rfl rfl rfl rfl rfl (Nat.le_refl _) (Nat.le_refl _) (hobs.imp (fun e=>by omega) id) (dK.takeR o k) (dK.lenTake hk) (dK.ones _) (by omega) (fun _=>rfl) (fun r=>?_)
        |refine aO (v:=RV x) 0 ((i)*9) _ rfl rfl rfl rfl iK (dK.sub hx 0 9 (by decide)) rfl (by decide) rfl ?_
        |refine(Bl 0 []) (IQ) (fun g0=>?_)
        |refine ai 0 ((i)*9) pX iK rfl rfl rfl rfl rfl (by omega) (by omega) (dK.ne (by decide) (by omega)) (by show 0+Int.toNat _*9=_;omega) ?_
        |refine fK (s:=9) (len:=0) 2 1 (ah iD (o.take k)) (fun r=>[_,_,⟨r.b,38,ah iD (o.take k),r.n,true⟩,_]) pX Cb rfl rfl rfl rfl rfl rfl rfl rfl rfl rfl rfl (Nat.le_refl _) (Nat.le_refl _) (hobs.imp (fun e=>by omega) id) (dK.takeR o k) (dK.lenTake hk) (dK.ones _) (by omega) (fun _=>rfl) (fun r=>?_)
        |refine(Bl 9 [(0,_)]) (Ey) (fun g0=>?_)
        |refine(Bl 0 []) (IQ) (fun g1=>?_)
        |refine fK (s:=9) (len:=0) 3 1 (ah iD (o.take k)) (fun r=>[_,_,_,⟨r.b,38,ah iD (o.take k),r.n,true⟩]) pX Cb rfl rfl rfl rfl rfl rfl rfl rfl rfl rfl rfl (Nat.le_refl _) (Nat.le_refl _) (hobs.imp (fun e=>by omega) id) (dK.takeR o k) (dK.lenTake hk) (dK.ones _) (by omega) (fun _=>rfl) (fun r=>?_)
        |refine fK (s:=9) (len:=0+k) (n2:=1) 3 2 (iD x) (fun r2=>[_,_,_,⟨r2.b,38,ah iD (o.take k)++iD x,r2.n,true⟩]) pX Cb rfl rfl rfl rfl rfl rfl rfl rfl rfl rfl (by rw[dK.lenTake hk,Nat.zero_add]) r.h r.hn (.inr ⟨_,rfl⟩) rfl rfl (dK.one x) (by omega) (fun _=>rfl) (fun r2=>?_)
        |refine(Qo (s:=9) (len:=0+k+1) 3 1 (ah iD (o.drop k)) (fun r3=>[_,_,_,⟨r3.b,38,(ah iD (o.take k)++iD x)++ah iD (o.drop k),r3.n,true⟩]) pX Cb) (by exact(by rw[List.length_append,dK.lenTake hk,dK.len];omega)) r2.h r2.hn (by exact(hobs.imp (fun e=>by omega) id)) (dK.dropT h3 hk) (dK.lenDrop o k) (dK.ones _) (fun r3=>?_)
        |refine Ud (by decide+kernel) ?_
        |refine fQ [10] (by decide+kernel) rfl ⟨⟨_,rfl,?_⟩,trivial⟩
        |refine fQ [14] (by decide+kernel) rfl ⟨⟨_,rfl,?_⟩,trivial⟩
        |refine fQ [15] (by decide+kernel) rfl ⟨⟨_,rfl,?_⟩,trivial⟩
        |refine fQ [9] (by decide+kernel) rfl ⟨⟨_,rfl,?_⟩,trivial⟩
        |refine fQ [4] (by decide+kernel) rfl ⟨⟨_,rfl,?_⟩,trivial⟩
        |refine fQ [8] (by decide+kernel) rfl ⟨⟨_,rfl,?_⟩,trivial⟩
        |refine fQ [4,9] (by decide+kernel) rfl ⟨⟨_,rfl,?_⟩,⟨_,rfl,?_⟩,trivial⟩
        |refine fQ [4,8] (by decide+kernel) rfl ⟨⟨_,rfl,?_⟩,⟨_,rfl,?_⟩,trivial⟩
        |refine fQ [0,7] (by decide+kernel) rfl ⟨⟨_,rfl,?_⟩,⟨_,rfl,?_⟩,trivial⟩
        |refine fQ [4,7] (by decide+kernel) rfl ⟨⟨_,rfl,?_⟩,⟨_,rfl,?_⟩,trivial⟩
        |refine fQ [7] (by decide+kernel) rfl ⟨⟨_,rfl,?_⟩,trivial⟩
        |refine fQ [0,8] (by decide+kernel) rfl ⟨⟨_,rfl,?_⟩,⟨_,rfl,?_⟩,trivial⟩
        |refine fQ [0,9] (by decide+kernel) rfl ⟨⟨_,rfl,?_⟩,⟨_,rfl,?_⟩,trivial⟩
        |refine fQ [0] (by decide+kernel) rfl ⟨⟨_,rfl,?_⟩,trivial⟩
      rintro⟨⟨rb,rn,rc,gx⟩,rh,rhn⟩;show At _ ⟨62,[(0,az lb 0 l.length lc),(3,az rb 0 (0+k+1+(o.length-k)) rc),(4,bz i)],[⟨lb,38,ah iD l,lN,false⟩,⟨ob,38,ah iD o,oN,true⟩,⟨rb,38,(ah iD (o.take k)++iD x)++ah iD (o.drop k),rn,true⟩,⟨some gx,38,iD x,9,true⟩]⟩ _;refine A4 ?_;refine Ar (((i+1:Nat):Int)) ?_;refine A3 ?_;exact Nl ⟨⟨i+1,o.take k++x::o.drop k,rb,rn,rc⟩,hlt,by show _=fG (l.take (i+1));rw[KJ hx,<-hI,hins],by have:=rh;simp at this ⊢;omega,rhn⟩ (hμ:=(by show l.length-(i+1)<l.length-i;omega)) (ht:=⟨rfl,(aB rfl (by show az rb 0 (0+k+1+(o.length-k)) rc=az rb 0 (o.take k++x::o.drop k).length rc;congr 1;simp;omega)),rfl,trivial⟩) (hL:=(au [some 0,some 2] ⟨pR,⟨_,rfl,aI (by rw[kC,ig,List.append_assoc])⟩,trivial⟩ rfl rfl))
    ·exfalso;have:=of_decide_eq_false hb5;omega
  ·have hkl:k=o.length:=(by have:=of_decide_eq_false hb3;omega);have hins:=PY (x:=x) hk hall (fun y hy=>absurd (List.getElem?_eq_some_iff.1 hy).1 (by omega));refine A21 ?_;refine Di [] ?_;refine A5 ?_;refine Rs 34 ?_ ?_<;>intro hb4
   ·exfalso;have:=of_decide_eq_true hb4;omega
   ·refine II ?_;refine Dl (X:={z:Option Nat×Nat×Nat×Nat // 0+k+1+(o.length-k)<=z.2.2.1∧z.2.2.1*9<=z.2.1}) (l':=[⟨_,_,_,_,_,_⟩,⟨_,_,_,_,_,_⟩,⟨_,_,_,_,_,_⟩,⟨_,_,_,_,_,_⟩,⟨_,_,_,_,_,_⟩,⟨_,_,_,_,_,_⟩,⟨_,_,_,_,_,_⟩,⟨_,_,_,_,_,_⟩]) (fun⟨⟨rb,rn,rc,gx⟩,rh,rhn⟩=>[(0,az lb 0 l.length lc),(3,az rb 0 (0+k+1+(o.length-k)) rc),(4,bz i)]) (fun⟨⟨rb,rn,rc,gx⟩,rh,rhn⟩=>[⟨lb,38,ah iD l,lN,false⟩,⟨ob,38,ah iD o,oN,true⟩,⟨rb,38,(ah iD (o.take k)++iD x)++ah iD (o.drop k),rn,true⟩,⟨some gx,38,iD x,9,true⟩]) [1,2,3,5,6,11,12,13] 8 mixed (by kernel_rfl) rfl ?_ ?_
    ·refine A2 ?_;refine iI k pX iK rfl rfl rfl rfl (by omega) (by omega) rfl ?_;refine A4 ?_;refine iJ k pX iK rfl rfl rfl rfl (by omega) rfl rfl rfl ?_;refine A1 ?_
     repeat' first
      |exact⟨⟨(r3.b,r3.n,r3.cap,g1),r3.h,r3.hn⟩,rfl,⟨rfl,rfl,rfl,trivial⟩,(by first|exact List.Perm.refl _|exact((List.Perm.swap _ _ _).cons _).cons _)⟩
      |exact⟨⟨(r3.b,r3.n,r3.cap,g0),r3.h,r3.hn⟩,rfl,⟨rfl,rfl,rfl,trivial⟩,(by first|exact List.Perm.refl _|exact((List.Perm.swap _ _ _).cons _).cons _)⟩
      |refine IG ?_
      |refine Eh rfl rfl rfl ?_
      |refine(Bl 9 [(0,_)]) (Ey) (fun g1=>?_)
      |refine fK (s:=9) (len:=0+k) (n2:=1) 2 3 (iD x) (fun r2=>[_,_,⟨r2.b,38,ah iD (o.take k)++iD x,r2.n,true⟩,_]) pX Cb rfl rfl rfl rfl rfl rfl rfl rfl rfl rfl (by rw[dK.lenTake hk,Nat.zero_add]) r.h r.hn (.inr ⟨_,rfl⟩) rfl rfl (dK.one x) (by omega) (fun _=>rfl) (fun r2=>?_)
      |refine(Qo (s:=9) (len:=0+k+1) 2 1 (ah iD (o.drop k)) (fun r3=>[_,_,⟨r3.b,38,(ah iD (o.take k)++iD x)++ah iD (o.drop k),r3.n,true⟩,_]) pX Cb) (by exact(by rw[List.length_append,dK.lenTake hk,dK.len];omega)) r2.h r2.hn (by exact(hobs.imp (fun e=>by omega) id)) (dK.dropT h3 hk) (dK.lenDrop o k) (dK.ones _) (fun r3=>?_)
      |refine fK (s:=9) (len:=0) 2 1 (ah iD (o.take k)) (fun r=>[_,_,⟨r.b,38,ah iD (o.take k),r.n,true⟩]) pX Cb rfl rfl rfl rfl rfl rfl rfl rfl rfl rfl rfl (Nat.le_refl _) (Nat.le_refl _) (hobs.imp (fun e=>by omega) id) (dK.takeR o k) (dK.lenTake hk) (dK.ones _) (by omega) (fun _=>rfl) (fun r=>?_)
      |refine aO (v:=RV x) 0 ((i)*9) _ rfl rfl rfl rfl iK (dK.sub hx 0 9 (by decide)) rfl (by decide) rfl ?_
      |refine(Bl 0 []) (IQ) (fun g0=>?_)
      |refine ai 0 ((i)*9) pX iK rfl rfl rfl rfl rfl (by omega) (by omega) (dK.ne (by decide) (by omega)) (by show 0+Int.toNat _*9=_;omega) ?_
      |refine fK (s:=9) (len:=0) 2 1 (ah iD (o.take k)) (fun r=>[_,_,⟨r.b,38,ah iD (o.take k),r.n,true⟩,_]) pX Cb rfl rfl rfl rfl rfl rfl rfl rfl rfl rfl rfl (Nat.le_refl _) (Nat.le_refl _) (hobs.imp (fun e=>by omega) id) (dK.takeR o k) (dK.lenTake hk) (dK.ones _) (by omega) (fun _=>rfl) (fun r=>?_)
      |refine(Bl 9 [(0,_)]) (Ey) (fun g0=>?_)
      |refine(Bl 0 []) (IQ) (fun g1=>?_)
      |refine fK (s:=9) (len:=0) 3 1 (ah iD (o.take k)) (fun r=>[_,_,_,⟨r.b,38,ah iD (o.take k),r.n,true⟩]) pX Cb rfl rfl rfl rfl rfl rfl rfl rfl rfl rfl rfl (Nat.le_refl _) (Nat.le_refl _) (hobs.imp (fun e=>by omega) id) (dK.takeR o k) (dK.lenTake hk) (dK.ones _) (by omega) (fun _=>rfl) (fun r=>?_)
      |refine fK (s:=9) (len:=0+k) (n2:=1) 3 2 (iD x) (fun r2=>[_,_,_,⟨r2.b,38,ah iD (o.take k)++iD x,r2.n,true⟩]) pX Cb rfl rfl rfl rfl rfl rfl rfl rfl rfl rfl (by rw[dK.lenTake hk,Nat.zero_add]) r.h r.hn (.inr ⟨_,rfl⟩) rfl rfl (dK.one x) (by omega) (fun _=>rfl) (fun r2=>?_)
      |refine(Qo (s:=9) (len:=0+k+1) 3 1 (ah iD (o.drop k)) (fun r3=>[_,_,_,⟨r3.b,38,(ah iD (o.take k)++iD x)++ah iD (o.drop k),r3.n,true⟩]) pX Cb) (by exact(by rw[List.length_append,dK.lenTake hk,dK.len];omega)) r2.h r2.hn (by exact(hobs.imp (fun e=>by omega) id)) (dK.dropT h3 hk) (dK.lenDrop o k) (dK.ones _) (fun r3=>?_)
      |refine Ud (by decide+kernel) ?_
      |refine fQ [10] (by decide+kernel) rfl ⟨⟨_,rfl,?_⟩,trivial⟩
      |refine fQ [14] (by decide+kernel) rfl ⟨⟨_,rfl,?_⟩,trivial⟩
      |refine fQ [15] (by decide+kernel) rfl ⟨⟨_,rfl,?_⟩,trivial⟩
      |refine fQ [9] (by decide+kernel) rfl ⟨⟨_,rfl,?_⟩,trivial⟩
      |refine fQ [4] (by decide+kernel) rfl ⟨⟨_,rfl,?_⟩,trivial⟩
      |refine fQ [8] (by decide+kernel) rfl ⟨⟨_,rfl,?_⟩,trivial⟩
      |refine fQ [4,9] (by decide+kernel) rfl ⟨⟨_,rfl,?_⟩,⟨_,rfl,?_⟩,trivial⟩
      |refine fQ [4,8] (by decide+kernel) rfl ⟨⟨_,rfl,?_⟩,⟨_,rfl,?_⟩,trivial⟩
      |refine fQ [0,7] (by decide+kernel) rfl ⟨⟨_,rfl,?_⟩,⟨_,rfl,?_⟩,trivial⟩
      |refine fQ [4,7] (by decide+kernel) rfl ⟨⟨_,rfl,?_⟩,⟨_,rfl,?_⟩,trivial⟩
      |refine fQ [7] (by decide+kernel) rfl ⟨⟨_,rfl,?_⟩,trivial⟩
      |refine fQ [0,8] (by decide+kernel) rfl ⟨⟨_,rfl,?_⟩,⟨_,rfl,?_⟩,trivial⟩
      |refine fQ [0,9] (by decide+kernel) rfl ⟨⟨_,rfl,?_⟩,⟨_,rfl,?_⟩,trivial⟩
      |refine fQ [0] (by decide+kernel) rfl ⟨⟨_,rfl,?_⟩,trivial⟩
    rintro⟨⟨rb,rn,rc,gx⟩,rh,rhn⟩;show At _ ⟨62,[(0,az lb 0 l.length lc),(3,az rb 0 (0+k+1+(o.length-k)) rc),(4,bz i)],[⟨lb,38,ah iD l,lN,false⟩,⟨ob,38,ah iD o,oN,true⟩,⟨rb,38,(ah iD (o.take k)++iD x)++ah iD (o.drop k),rn,true⟩,⟨some gx,38,iD x,9,true⟩]⟩ _;refine A4 ?_;refine Ar (((i+1:Nat):Int)) ?_;refine A3 ?_;exact Nl ⟨⟨i+1,o.take k++x::o.drop k,rb,rn,rc⟩,hlt,by show _=fG (l.take (i+1));rw[KJ hx,<-hI,hins],by have:=rh;simp at this ⊢;omega,rhn⟩ (hμ:=(by show l.length-(i+1)<l.length-i;omega)) (ht:=⟨rfl,(aB rfl (by show az rb 0 (0+k+1+(o.length-k)) rc=az rb 0 (o.take k++x::o.drop k).length rc;congr 1;simp;omega)),rfl,trivial⟩) (hL:=(au [some 0,some 2] ⟨pR,⟨_,rfl,aI (by rw[kC,ig,List.append_assoc])⟩,trivial⟩ rfl rfl))
 ·have hge:i=l.length:=(by have:=of_decide_eq_false hb1;omega);subst hge;obtain rfl:o=fG l:=by rw[hI,List.take_length]
  refine lX ?_;refine aH rfl (aj rfl) (fun w hL=>⟨⟨ob,oN,oc,h3⟩,?_,hL.pk [some 1]⟩);exact rfl
def CW(l:List Iv)(lb:Option Nat)(lN lc:Nat)(hlc:l.length<=lc)(hln:l.length<=1000)(hsz:∀x∈l,jV x<=50000)(t:Rl)(ht:gY t<=50000:=by omega):dh Tryz.prog 97 [⟨lb,61,ah bP l,lN,false⟩] [az lb 0 l.length lc,RV t] Unit (fun _=> .bool (l.any (fun i=>D9 i t))) (fun _=>[]):=by
 refine⟨by kernel_rfl,fun w hL0=>?_⟩;refine YZ 18 Tryz.func97 hL0 ?_;refine A2 ?_;refine Bo [_,_,_,_,_,_,_,_,_] 9 (fun g=>[_,⟨some g,38,_,9,true⟩]) (fun g0=>?_);refine lm ?_;refine El (ι:={i:Nat // i<=l.length∧l.any (fun i=>D9 i t)=(l.drop i).any (fun i=>D9 i t)}) (fun⟨i,hi,hI⟩=>([(0,az lb 0 l.length lc),(5,.int .i64 (i:Nat)),(3,.pointer (some ⟨g0,0,none⟩))],[⟨lb,61,ah bP l,lN,false⟩,⟨some g0,38,iD t,9,true⟩],l.length-i)) ⟨0,Nat.zero_le _,rfl⟩ ?_;rintro⟨i,hi,hI⟩;(try dsimp only);refine A9 ?_;refine yC rfl (fun hb1=>?_) (fun hb1=>?_)
 ·
  have hlt:i<l.length:=(by have:=of_decide_eq_true hb1;omega)
  obtain⟨x,hx⟩:∃x,l[i]? =some x:=⟨l[i],List.getElem?_eq_getElem hlt⟩
  have hxs:=hsz x (List.mem_of_getElem? hx);refine fD 0 rfl (bI.ne (by decide) (by omega)) (fun hbs=>?_);obtain⟨gl,hgl⟩:=Option.isSome_iff_exists.1 hbs;replace hgl:lb=some gl:=hgl;subst hgl;refine A5 ?_;refine FW [] mixed (by kernel_rfl) (by kernel_rfl) ?_;refine A2 ?_;refine ai 0 ((i)*20) F7 iC rfl rfl rfl rfl rfl (by omega) (by omega) (bI.ne (by decide) (by omega)) (by show 0+Int.toNat _*20=_;omega) ?_;refine aO (v:=kF x) 0 ((i)*20) _ rfl rfl rfl rfl iC (bI.sub hx 0 20 (by decide)) rfl (by decide) rfl ?_;refine aO 1 0 [_,_,_,_,_,_,_,_,_] rfl rfl rfl rfl iK rfl rfl rfl rfl ?_;refine Pc (Va x t hxs ht) ?_;refine A2 ?_;refine yC rfl (fun hb2=>?_) (fun hb2=>?_)
  ·
   have hyes:D9 x t=true:=hb2;refine oO ?_;refine aH rfl (aj rfl) (fun w hL=>⟨(),?_,hL.pk []⟩);rw[hI,nM hx,hyes];rfl
  ·
   have hno:D9 x t=false:=hb2;refine A5 ?_;refine Ar (((i+1:Nat):Int)) ?_;refine A3 ?_;exact Nl ⟨i+1,hlt,by rw[hI,nM hx];simp only[hno,Bool.false_or]⟩ (hL:=eG.auto)
 ·
  have hge:i=l.length:=(by have:=of_decide_eq_false hb1;omega)
  subst hge;refine oO ?_;refine aH rfl (aj rfl) (fun w hL=>⟨(),?_,hL.pk []⟩);rw[hI,List.drop_length];rfl
def CX(l:List Iv)(lb:Option Nat)(lN lc:Nat)(hlc:l.length<=lc)(hln:l.length<=1000)(hsz:∀x∈l,jV x<=50000)(a c:Rl)(ha:gY a<=50000:=by omega)(hc:gY c<=50000:=by omega):dh Tryz.prog 98 [⟨lb,61,ah bP l,lN,false⟩] [az lb 0 l.length lc,RV a,RV c] Unit (fun _=> .bool (l.any (fun i=>decide (bW i.f a<=0)&&decide (bW c i.t<=0)))) (fun _=>[]):=by
 refine⟨by kernel_rfl,fun w hL0=>?_⟩;refine ZI 32 Tryz.func98 hL0 ?_;refine A2 ?_;refine Bo [_,_,_,_,_,_,_,_,_] 9 (fun g=>[_,⟨some g,38,_,9,true⟩]) (fun g0=>?_);refine Bo [_,_,_,_,_,_,_,_,_] 9 (fun g=>[_,_,⟨some g,38,_,9,true⟩]) (fun g1=>?_);refine lm ?_;refine El (ι:={i:Nat // i<=l.length∧l.any (fun i=>decide (bW i.f a<=0)&&decide (bW c i.t<=0))=(l.drop i).any (fun i=>decide (bW i.f a<=0)&&decide (bW c i.t<=0))}) (fun⟨i,hi,hI⟩=>([(0,az lb 0 l.length lc),(7,.int .i64 (i:Nat)),(4,.pointer (some ⟨g0,0,none⟩)),(5,.pointer (some ⟨g1,0,none⟩))],[⟨lb,61,ah bP l,lN,false⟩,⟨some g0,38,iD a,9,true⟩,⟨some g1,38,iD c,9,true⟩],l.length-i)) ⟨0,Nat.zero_le _,rfl⟩ ?_;rintro⟨i,hi,hI⟩;(try dsimp only);refine A9 ?_;refine yC rfl (fun hb1=>?_) (fun hb1=>?_)
 ·
  have hlt:i<l.length:=(by have:=of_decide_eq_true hb1;omega)
  obtain⟨x,hx⟩:∃x,l[i]? =some x:=⟨l[i],List.getElem?_eq_getElem hlt⟩
  have hxs:=hsz x (List.mem_of_getElem? hx);refine fD 0 rfl (bI.ne (by decide) (by omega)) (fun hbs=>?_);obtain⟨gl,hgl⟩:=Option.isSome_iff_exists.1 hbs;replace hgl:lb=some gl:=hgl;subst hgl;refine A5 ?_;refine FW [] mixed (by kernel_rfl) (by kernel_rfl) ?_;refine A2 ?_;refine ai 0 ((i)*20) F7 iC rfl rfl rfl rfl rfl (by omega) (by omega) (bI.ne (by decide) (by omega)) (by show 0+Int.toNat _*20=_;omega) ?_;refine yF ((i)*20) 0 rfl rfl rfl iC rfl rfl ?_;refine aO (v:=RV x.f) 0 ((i)*20+0) _ rfl rfl rfl rfl iK (bI.sub hx 0 9 (by decide)) rfl (by decide) rfl ?_;refine aO 1 0 [_,_,_,_,_,_,_,_,_] rfl rfl rfl rfl iK rfl rfl rfl rfl ?_;refine Pc (gQ x.f a (Nat.le_trans (kw x) hxs) ha) ?_;refine A2 ?_;refine Ei 22 rfl (fun hb2=>?_) (fun hb2=>?_)
  ·
   have hs22:bW x.f a<=0:=of_decide_eq_true hb2;refine aO 2 0 [_,_,_,_,_,_,_,_,_] rfl rfl rfl rfl iK rfl rfl rfl rfl ?_;refine A2 ?_;refine ai 0 ((i)*20) F7 iC rfl rfl rfl rfl rfl (by omega) (by omega) (bI.ne (by decide) (by omega)) (by show 0+Int.toNat _*20=_;omega) ?_;refine yF ((i)*20) 9 rfl rfl rfl iC rfl rfl ?_;refine aO (v:=RV x.t) 0 ((i)*20+9) _ rfl rfl rfl rfl iK (bI.sub hx 9 9 (by decide)) rfl (by decide) rfl ?_;refine Pc (gQ c x.t hc (Nat.le_trans (kz x) hxs)) ?_;refine A4 ?_;refine yC rfl (fun hb3=>?_) (fun hb3=>?_)
   ·
    have hs30:bW c x.t<=0:=of_decide_eq_true hb3
    have hyes:(decide (bW x.f a<=0)&&decide (bW c x.t<=0))=true:=by rw[decide_eq_true hs22,decide_eq_true hs30];rfl
    refine oO ?_;refine aH rfl (aj rfl) (fun w hL=>⟨(),?_,hL.pk []⟩);rw[hI,nM hx,hyes];rfl
   ·
    have hs30:¬bW c x.t<=0:=of_decide_eq_false hb3
    have hno:(decide (bW x.f a<=0)&&decide (bW c x.t<=0))=false:=by rw[decide_eq_false hs30,Bool.and_false]
    refine A5 ?_;refine Ar (((i+1:Nat):Int)) ?_;refine A3 ?_;exact Nl ⟨i+1,hlt,by rw[hI,nM hx];simp only[hno,Bool.false_or]⟩ (hL:=eG.auto)
  ·
   have hs22:¬bW x.f a<=0:=of_decide_eq_false hb2
   have hno:(decide (bW x.f a<=0)&&decide (bW c x.t<=0))=false:=by rw[decide_eq_false hs22];rfl
   refine MW ?_;refine Ar (((i+1:Nat):Int)) ?_;refine A3 ?_;exact Nl ⟨i+1,hlt,by rw[hI,nM hx];simp only[hno,Bool.false_or]⟩ (hL:=eG.auto)
 ·
  have hge:i=l.length:=(by have:=of_decide_eq_false hb1;omega)
  subst hge;refine oO ?_;refine aH rfl (aj rfl) (fun w hL=>⟨(),?_,hL.pk []⟩);rw[hI,List.drop_length];rfl
def AO(op:Int)(a b:Bool):aP Tryz.prog 96 #[.int .i64 op,.bool a,.bool b] (.bool (vH op a b)):=by
 refine⟨by kernel_rfl,fun w=>?_⟩;refine ZI 25 Tryz.func96 (bf.nil w) ?_;refine A18 ?_;refine yC rfl (fun hb0=>?_) (fun hb0=>?_)
 ·
  refine A4 ?_;refine Ei 11 rfl (fun hb1=>?_) (fun hb1=>?_)
  ·
   refine A8 ?_;refine aH rfl (aj rfl) (fun w hL=>⟨?_,hL.below⟩);exact congrArg (fun b=>Ending.returned (.bool b)) (by unfold vH;first|(simp_all;done)|(revert hb0;cases a<;>cases b<;>simp_all))
  ·
   refine A8 ?_;refine aH rfl (aj rfl) (fun w hL=>⟨?_,hL.below⟩);exact congrArg (fun b=>Ending.returned (.bool b)) (by unfold vH;first|(simp_all;done)|(revert hb0;cases a<;>cases b<;>simp_all))
 ·
  refine A6 ?_;refine yC rfl (fun hb1=>?_) (fun hb1=>?_)
  ·
   refine A4 ?_;refine Ei 17 rfl (fun hb2=>?_) (fun hb2=>?_)
   ·
    refine A8 ?_;refine aH rfl (aj rfl) (fun w hL=>⟨?_,hL.below⟩);exact congrArg (fun b=>Ending.returned (.bool b)) (by unfold vH;first|(simp_all;done)|(revert hb0;cases a<;>cases b<;>simp_all))
   ·
    refine A8 ?_;refine aH rfl (aj rfl) (fun w hL=>⟨?_,hL.below⟩);exact congrArg (fun b=>Ending.returned (.bool b)) (by unfold vH;first|(simp_all;done)|(revert hb0;cases a<;>cases b<;>simp_all))
  ·
   refine A7 ?_;refine Ei 21 rfl (fun hb2=>?_) (fun hb2=>?_)
   ·
    refine A7 ?_;refine aH rfl (aj rfl) (fun w hL=>⟨?_,hL.below⟩);exact congrArg (fun b=>Ending.returned (.bool b)) (by unfold vH;first|(simp_all;done)|(revert hb0;cases a<;>cases b<;>simp_all))
   ·
    refine A7 ?_;refine aH rfl (aj rfl) (fun w hL=>⟨?_,hL.below⟩);exact congrArg (fun b=>Ending.returned (.bool b)) (by unfold vH;first|(simp_all;done)|(revert hb0;cases a<;>cases b<;>simp_all))
def P8(l:List Iv)(lb:Option Nat)(lN lc:Nat)(hlc:l.length<=lc)(hln:l.length<=2000)(hsz:∀x∈l,jV x<=50000):dh Tryz.prog 95 [⟨lb,61,ah bP l,lN,false⟩] [az lb 0 l.length lc] (SR (fG (bV l)).length) SR.v (fun z=>[⟨z.b,38,ah iD (fG (bV l)),z.n,true⟩]):=by
 refine Md 26 Tryz.func95 fun w hL0=>?_;refine MW ?_;refine El (ι:={z:Nat×List Rl×Option Nat×Nat×Nat // z.1<=l.length∧z.2.1=bV (l.take z.1)∧z.2.1.length<=z.2.2.2.2∧z.2.2.2.2*9<=z.2.2.2.1}) (fun⟨⟨i,o,ob,oN,oc⟩,hi,hI,h3,h4⟩=>([(0,az lb 0 l.length lc),(3,az ob 0 o.length oc),(4,bz i)],[⟨lb,61,ah bP l,lN,false⟩,⟨ob,38,ah iD o,oN,true⟩],l.length-i)) ⟨⟨0,[],none,0,0⟩,Nat.zero_le _,rfl,Nat.le_refl _,by simp⟩ ?_ (hL:=(au [some 0,none] ⟨pR,⟨rfl,rfl,rfl⟩,trivial⟩ rfl rfl));rintro⟨⟨i,o,ob,oN,oc⟩,hi,hI,h3,h4⟩;(try dsimp only);replace hi:i<=l.length:=hi;replace hI:o=bV (l.take i):=hI;replace h3:o.length<=oc:=h3;replace h4:oc*9<=oN:=h4
 have hol:o.length<=100000:=(by rw[hI,vI,List.length_take];omega);refine A9 ?_;refine Cd ?_ ?_<;>intro hb1
 ·have hlt:i<l.length:=(by have:=of_decide_eq_true hb1;omega);obtain⟨x,hx⟩:∃x,l[i]? =some x:=⟨l[i],List.getElem?_eq_getElem hlt⟩;refine fD 0 rfl (bI.ne (by decide) (by omega)) (fun hbs=>?_);obtain⟨gl,hgl⟩:=Option.isSome_iff_exists.1 hbs;replace hgl:lb=some gl:=hgl;subst hgl;refine A4 ?_;refine qQ (l':=[⟨_,_,_,_,_,_⟩,⟨_,_,_,_,_,_⟩,⟨_,_,_,_,_,_⟩,⟨_,_,_,_,_,_⟩,⟨_,_,_,_,_,_⟩,⟨_,_,_,_,_,_⟩,⟨_,_,_,_,_,_⟩,⟨_,_,_,_,_,_⟩,⟨_,_,_,_,_,_⟩,⟨_,_,_,_,_,_⟩]) [2000000] [1,2,3,4,5,6,7,8,9,10] [0,11,12,13] mixed (by kernel_rfl) rfl ?_;refine A2 ?_;refine ai 0 ((i)*20) F7 iC rfl rfl rfl rfl rfl (by omega) (by omega) (bI.ne (by decide) (by omega)) (by show 0+Int.toNat _*20=_;omega) ?_;refine Fg ((i)*20) 0 ?_;refine aO (v:=RV x.f) 0 ((i)*20+0) _ rfl rfl rfl rfl iK (bI.sub hx 0 9 (by decide)) rfl (by decide) rfl ?_;refine A2 ?_;refine ai 0 ((i)*20) F7 iC rfl rfl rfl rfl rfl (by omega) (by omega) (bI.ne (by decide) (by omega)) (by show 0+Int.toNat _*20=_;omega) ?_;refine Fg ((i)*20) 9 ?_;refine aO (v:=RV x.t) 0 ((i)*20+9) _ rfl rfl rfl rfl iK (bI.sub hx 9 9 (by decide)) rfl (by decide) rfl ?_;refine A1 ?_;refine aJ [0,11] (by kernel_rfl) ⟨⟨_,rfl,?_⟩,⟨_,rfl,?_⟩,trivial⟩
  ·refine A2 ?_;refine aJ [11] (by kernel_rfl) ⟨⟨_,rfl,?_⟩,trivial⟩
   ·refine(Bl 18 [(0,_),(1,_)]) (VU) (fun g0=>?_);refine A1 ?_;refine aJ [12] (by kernel_rfl) ⟨⟨_,rfl,?_⟩,trivial⟩
    ·refine(Qa (s:=9) (len:=o.length) (n2:=2) 1 2 (fun r=>[_,⟨some r.g,38,ah iD o++(iD x.f++iD x.t),r.n,true⟩,_]) pX Cb) (dK.length o) h3 h4 (fun v hv=>List.all_eq_true.1 (show(iD x.f++iD x.t).all (·.oneCell')=true from rfl) v hv) (fun r=>?_);refine A1 ?_;refine aJ [13] (by kernel_rfl) ⟨⟨_,rfl,?_⟩,trivial⟩
     ·refine A2 ?_;refine jU rfl ?_;refine A4 ?_;refine Ar (((i+1:Nat):Int)) ?_;refine A3 ?_;exact Nl ⟨⟨i+1,o++[x.f,x.t],some r.g,r.n,r.cap⟩,hlt,by show o++[x.f,x.t]=bV (l.take (i+1));rw[<-dD hx,sK,<-hI];rfl,by rw[List.length_append];exact r.h,r.hn⟩ (hμ:=(by show l.length-(i+1)<l.length-i;omega)) (ht:=⟨rfl,(aB rfl (by rw[List.length_append];rfl)),rfl,trivial⟩) (hL:=(au [some 0,some 1] ⟨pR,⟨_,rfl,aI (by rw[kC];rfl)⟩,trivial⟩ rfl rfl))
  ·refine(Bl 18 [(0,_),(1,_)]) (VU) (fun g0=>?_);refine A1 ?_;refine aJ [0] (by kernel_rfl) ⟨⟨_,rfl,?_⟩,trivial⟩
   ·refine A2 ?_;refine aJ [12] (by kernel_rfl) ⟨⟨_,rfl,?_⟩,trivial⟩
    ·refine(Qa (s:=9) (len:=o.length) (n2:=2) 1 2 (fun r=>[_,⟨some r.g,38,ah iD o++(iD x.f++iD x.t),r.n,true⟩,_]) pX Cb) (dK.length o) h3 h4 (fun v hv=>List.all_eq_true.1 (show(iD x.f++iD x.t).all (·.oneCell')=true from rfl) v hv) (fun r=>?_);refine A1 ?_;refine aJ [13] (by kernel_rfl) ⟨⟨_,rfl,?_⟩,trivial⟩
     ·refine A2 ?_;refine jU rfl ?_;refine A4 ?_;refine Ar (((i+1:Nat):Int)) ?_;refine A3 ?_;exact Nl ⟨⟨i+1,o++[x.f,x.t],some r.g,r.n,r.cap⟩,hlt,by show o++[x.f,x.t]=bV (l.take (i+1));rw[<-dD hx,sK,<-hI];rfl,by rw[List.length_append];exact r.h,r.hn⟩ (hμ:=(by show l.length-(i+1)<l.length-i;omega)) (ht:=⟨rfl,(aB rfl (by rw[List.length_append];rfl)),rfl,trivial⟩) (hL:=(au [some 0,some 1] ⟨pR,⟨_,rfl,aI (by rw[kC];rfl)⟩,trivial⟩ rfl rfl))
 ·have hge:i=l.length:=(by have:=of_decide_eq_false hb1;omega);subst hge;obtain rfl:o=bV l:=by rw[hI,List.take_length]
  refine A8 ?_;refine(Sc [1]) (KO (bV l) ob oN oc h3 (by rw[vI];omega) (WU hsz)) (fun z=>?_);refine A4 ?_;refine aH rfl (aj rfl) (fun w hL=>⟨z,?_,hL.pk [some 2]⟩);exact rfl
def Il(op:Int)(a:List Iv)(ab:Option Nat)(aN ac:Nat)(hac:a.length<=ac)(han:a.length<=1000)(b:List Iv)(bb:Option Nat)(bN bc:Nat)(hbc:b.length<=bc)(hbn:b.length<=1000)(hsa:∀x∈a,jV x<=50000)(hsb:∀x∈b,jV x<=50000):dh Tryz.prog 44 [⟨ab,61,ah bP a,aN,false⟩,⟨bb,61,ah bP b,bN,false⟩] [.int .i64 op,az ab 0 a.length ac,az bb 0 b.length bc] (SR (kY (vH op) a b).length) SR.v (fun z=>[⟨z.b,61,ah bP (kY (vH op) a b),z.n,true⟩]):=by
 refine sB3 109 Tryz.func44 fun w hL0=>?_;refine A6 ?_;refine rH 0 rfl (fun hba=>?_);refine rH 1 rfl (fun hbb=>?_);have hoa:a.length=0∨∃g,ab=some g:=sS bI (by decide) hba;have hob:b.length=0∨∃g,bb=some g:=sS bI (by decide) hbb
 have hsab:∀x∈a++b,jV x<=50000:=fun x hx=>(List.mem_append.1 hx).elim (hsa x) (hsb x)
 refine A1 ?_;refine(Bl 0 []) (qgL) (fun g0=>?_);refine A1 ?_;refine fK (s:=20) (len:=0) 2 0 (ah bP a) (fun r=>[_,_,⟨r.b,61,ah bP a,r.n,true⟩]) F7 L6 rfl rfl rfl rfl rfl rfl rfl rfl rfl rfl rfl (Nat.le_refl _) (Nat.le_refl _) hoa (List.take_of_length_le (by show(ah bP a).length<=_;rw[bI.length];exact Nat.le_refl _)) (bI.length a) (bI.ones _) (by omega) (fun _=>rfl) (fun r=>?_);refine A1 ?_;refine(Qo (s:=20) (len:=0+a.length) 2 1 (ah bP b) (fun r2=>[_,_,⟨r2.b,61,ah bP a++ah bP b,r2.n,true⟩]) F7 L6) (by exact(by rw[bI.length,Nat.zero_add])) r.h r.hn hob (by exact(List.take_of_length_le (by show(ah bP b).length<=_;rw[bI.length];exact Nat.le_refl _))) (bI.length b) (bI.ones _) (fun r2=>?_);obtain⟨rb2,rn2,rc2,rh2,rhn2⟩:=r2;refine aT 20 (az rb2 0 (a++b).length rc2) rfl (by show az rb2 0 (0+a.length+b.length) rc2=_;rw[List.length_append,Nat.zero_add]) ?_;refine iO [_] [2] rfl rfl rfl (P8 (a++b) rb2 rn2 rc2 (by simp at rh2 ⊢;omega) (by simp;omega) hsab) ⟨⟨_,rfl,by rw[kC];exact mX⟩,trivial⟩ rfl (.inr fun x b hb=>by rw[List.mem_singleton.1 hb]) (fun z=>?_);obtain⟨eb,eN,ec,hec⟩:=z;refine A4 ?_;have hes:∀y∈fG (bV (a++b)),gY y<=50000:=WT (p:=fun y=>gY y<=50000) (WU hsab);have hel:(fG (bV (a++b))).length<=4000:=by have:=PZ (bV (a++b));rw[vI,List.length_append] at this;omega
 refine II ?_;refine El (ι:={z:Nat×List Iv×Bool×Option Nat×Nat×Nat // z.1<=(fG (bV (a++b))).length∧qI (fun t=>vH op (oh a t) (oh b t)) (fun t u=>vH op (oq a t u) (oq b t u)) ((fG (bV (a++b))).drop z.1) z.2.1 z.2.2.1=qI (fun t=>vH op (oh a t) (oh b t)) (fun t u=>vH op (oq a t u) (oq b t u)) (fG (bV (a++b))) [] false∧(z.2.2.1=true->0<z.2.1.length)∧z.2.1.length<=z.2.2.2.2.2∧z.2.2.2.2.2*20<=z.2.2.2.2.1∧z.2.1.length<=2*z.1}) (fun⟨⟨i,out,og,ob,oN,oc⟩,hi,hI,hne,h3,h4,hol⟩=>([(0,.int .i64 op),(1,az ab 0 a.length ac),(2,az bb 0 b.length bc),(7,az eb 0 (fG (bV (a++b))).length ec),(8,az ob 0 out.length oc),(9,.bool og),(10,bz i)],[⟨ab,61,ah bP a,aN,false⟩,⟨bb,61,ah bP b,bN,false⟩,⟨eb,38,ah iD (fG (bV (a++b))),eN,true⟩,⟨ob,61,ah bP out,oN,true⟩],(fG (bV (a++b))).length-i)) ⟨⟨0,[],false,none,0,0⟩,Nat.zero_le _,rfl,fun e=>(by cases e),Nat.le_refl _,by simp,by simp⟩ ?_ (hL:=(au [some 0,some 1,some 3,none] ⟨pR,pR,pR,⟨rfl,rfl,rfl⟩,trivial⟩ rfl rfl));rintro⟨⟨i,out,og,ob,oN,oc⟩,hi,hI,hne,h3,h4,hol⟩;(try dsimp only);replace hi:i<=(fG (bV (a++b))).length:=hi;replace hI:qI (fun t=>vH op (oh a t) (oh b t)) (fun t u=>vH op (oq a t u) (oq b t u)) ((fG (bV (a++b))).drop i) out og=qI (fun t=>vH op (oh a t) (oh b t)) (fun t u=>vH op (oq a t u) (oq b t u)) (fG (bV (a++b))) [] false:=hI;replace hne:og=true->0<out.length:=hne;replace h3:out.length<=oc:=h3;replace h4:oc*20<=oN:=h4;replace hol:out.length<=2*i:=hol;refine A9 ?_;refine Cd ?_ ?_<;>intro hb1
 ·have hlt:i<(fG (bV (a++b))).length:=(by have:=of_decide_eq_true hb1;omega);obtain⟨t,ht⟩:∃t,(fG (bV (a++b)))[i]? =some t:=⟨_,List.getElem?_eq_getElem hlt⟩;have hts:=hes t (List.mem_of_getElem? ht);obtain⟨h,hh⟩:∃h,vH op (oh a t) (oh b t)=h:=⟨_,rfl⟩;refine A8 ?_;refine ai 2 ((i)*9) pX iK rfl rfl rfl rfl rfl (by omega) (by omega) (dK.ne (by decide) (by omega)) (by show 0+Int.toNat _*9=_;omega) ?_;refine aO (v:=RV t) 2 ((i)*9) _ rfl rfl rfl rfl iK (dK.sub ht 0 9 (by decide)) rfl (by decide) rfl ?_;refine Al 9 O5 (fun g1=>?_);refine Ss 4 ?_;refine A3 ?_;refine Dp [] [0,1,2,4,5,3,6,7,8] ?_;refine A2 ?_;refine L9 4 0 ?_;refine A1 ?_;refine L9 4 0 ?_;refine(Sd [0]) (CW a ab aN ac hac han hsa t hts) ?_;refine(Sd [1]) (CW b bb bN bc hbc hbn hsb t hts) ?_;refine Pc (AO op _ _) ?_;refine aT 39 (.bool h) rfl (congrArg Value.bool hh) ?_;refine A7 ?_;refine(Aq ((out.length:Int)-1)) (by exact(congrArg some (wi (by omega) (by omega) rfl))) ?_;refine A3 ?_;refine rG (nt:=109) (X:={z:List Iv×Nat×Option Nat×Nat×Nat // z.1=kM out og h t∧z.2.1=z.1.length∧z.1.length<=z.2.2.2.2∧z.2.2.2.2*20<=z.2.2.2.1∧z.1.length<=out.length+1}) (fun⟨⟨o1,ln,b1,n1,c1⟩,ho1,hln,h31,h41,hl1⟩=>[(0,.int .i64 op),(1,az ab 0 a.length ac),(2,az bb 0 b.length bc),(7,az eb 0 (fG (bV (a++b))).length ec),(8,az b1 0 ln c1),(10,bz i),(11,dV g1),(12,.bool h)]) (fun⟨⟨o1,ln,b1,n1,c1⟩,ho1,hln,h31,h41,hl1⟩=>[⟨ab,61,ah bP a,aN,false⟩,⟨bb,61,ah bP b,bN,false⟩,⟨eb,38,ah iD (fG (bV (a++b))),eN,true⟩,⟨b1,61,ah bP o1,n1,true⟩,⟨some g1,38,iD t,9,true⟩]) ?_ ?_
  ·refine A5 ?_;refine Rs 45 ?_ ?_<;>intro hb2
   ·have hog:og=true:=hb2;refine A5 ?_;refine Cd ?_ ?_<;>intro hb3
    ·have hhv:h=true:=hb3;have hon:=hne hog;obtain⟨j,hj⟩:∃j,out[out.length-1]? =some j:=⟨_,List.getElem?_eq_getElem (by omega)⟩;refine fD 3 rfl (bI.ne (by decide) (by omega)) (fun hbs=>?_);obtain⟨go,hgo⟩:=Option.isSome_iff_exists.1 hbs;replace hgo:ob=some go:=hgo;subst hgo;refine A5 ?_;refine L9 4 0 ?_;refine ai 3 ((out.length-1)*20) F7 iC rfl rfl rfl rfl rfl (by omega) (by omega) (bI.ne (by decide) (by omega)) (by show 0+Int.toNat _*20=_;omega) ?_;refine Fg ((out.length-1)*20) 9 ?_;refine pO rfl 3 ((out.length-1)*20+9) [_,_,_,_,_] (ah bP (out.set (out.length-1) ⟨j.f,t,j.fo,j.tp⟩)) rfl rfl rfl rfl iK rfl (by rw[Nat.ble_eq,bI.length];show(out.length-1)*20+9+9<=(out).length*20;(try simp only[List.length_set]);omega) rfl (bI.setf hj rfl (by decide)) rfl ?_;refine ai 3 ((out.length-1)*20) F7 iC rfl rfl rfl rfl rfl (by omega) (by omega) (bI.ne (by decide) (by simp only[List.length_set];omega)) (by show 0+Int.toNat _*20=_;omega) ?_;refine Fg ((out.length-1)*20) 19 ?_;refine pO rfl 3 ((out.length-1)*20+19) [_,_,_,_,_] (ah bP ((out.set (out.length-1) ⟨j.f,t,j.fo,j.tp⟩).set (out.length-1) ⟨j.f,t,j.fo,false⟩)) rfl rfl rfl rfl ti4 rfl (by rw[Nat.ble_eq,bI.length];show(out.length-1)*20+19+1<=(out.set (out.length-1) ⟨j.f,t,j.fo,j.tp⟩).length*20;(try simp only[List.length_set]);omega) rfl (bI.setf (show(out.set (out.length-1) ⟨j.f,t,j.fo,j.tp⟩)[out.length-1]? =some ⟨j.f,t,j.fo,j.tp⟩ by rw[List.getElem?_set_self (by omega)]) rfl (by decide)) rfl ?_;refine A3 ?_;exact Ni ⟨((out.set (out.length-1) ⟨j.f,t,j.fo,j.tp⟩).set (out.length-1) ⟨j.f,t,j.fo,false⟩,out.length,some go,oN,oc),by show(out.set (out.length-1) ⟨j.f,t,j.fo,j.tp⟩).set _ _=_;rw[qeW hog hhv hj,List.set_set],by simp,by simpa using h3,h4,by simp⟩ [0,1,2,3,4]
    ·have hhv:h=false:=hb3;refine A6 ?_;refine Cd ?_ ?_<;>intro hb4
     ·have hon:=hne hog;obtain⟨j,hj⟩:∃j,out[out.length-1]? =some j:=⟨_,List.getElem?_eq_getElem (by omega)⟩;refine fD 3 rfl (bI.ne (by decide) (by omega)) (fun hbs=>?_);obtain⟨go,hgo⟩:=Option.isSome_iff_exists.1 hbs;replace hgo:ob=some go:=hgo;subst hgo;refine A5 ?_;refine L9 4 0 ?_;refine ai 3 ((out.length-1)*20) F7 iC rfl rfl rfl rfl rfl (by omega) (by omega) (bI.ne (by decide) (by omega)) (by show 0+Int.toNat _*20=_;omega) ?_;refine Fg ((out.length-1)*20) 9 ?_;refine pO rfl 3 ((out.length-1)*20+9) [_,_,_,_,_] (ah bP (out.set (out.length-1) ⟨j.f,t,j.fo,j.tp⟩)) rfl rfl rfl rfl iK rfl (by rw[Nat.ble_eq,bI.length];show(out.length-1)*20+9+9<=(out).length*20;(try simp only[List.length_set]);omega) rfl (bI.setf hj rfl (by decide)) rfl ?_;refine ai 3 ((out.length-1)*20) F7 iC rfl rfl rfl rfl rfl (by omega) (by omega) (bI.ne (by decide) (by simp only[List.length_set];omega)) (by show 0+Int.toNat _*20=_;omega) ?_;refine Fg ((out.length-1)*20) 19 ?_;refine pO rfl 3 ((out.length-1)*20+19) [_,_,_,_,_] (ah bP ((out.set (out.length-1) ⟨j.f,t,j.fo,j.tp⟩).set (out.length-1) ⟨j.f,t,j.fo,true⟩)) rfl rfl rfl rfl ti4 rfl (by rw[Nat.ble_eq,bI.length];show(out.length-1)*20+19+1<=(out.set (out.length-1) ⟨j.f,t,j.fo,j.tp⟩).length*20;(try simp only[List.length_set]);omega) rfl (bI.setf (show(out.set (out.length-1) ⟨j.f,t,j.fo,j.tp⟩)[out.length-1]? =some ⟨j.f,t,j.fo,j.tp⟩ by rw[List.getElem?_set_self (by omega)]) rfl (by decide)) rfl ?_;refine A3 ?_;exact Ni ⟨((out.set (out.length-1) ⟨j.f,t,j.fo,j.tp⟩).set (out.length-1) ⟨j.f,t,j.fo,true⟩,out.length,some go,oN,oc),by show(out.set (out.length-1) ⟨j.f,t,j.fo,j.tp⟩).set _ _=_;rw[qeX hog hhv hj,List.set_set],by simp,by simpa using h3,h4,by simp⟩ [0,1,2,3,4]
     ·exact absurd hb4 (by rw[hog];decide)
   ·have hog:og=false:=hb2;refine lX ?_;refine Cd ?_ ?_<;>intro hb3
    ·exact absurd hb3 (by rw[hog];decide)
    ·refine A6 ?_;refine Cd ?_ ?_<;>intro hb4
     ·have hhv:h=true:=hb4;refine A2 ?_;refine L9 4 0 ?_;refine L9 4 0 ?_;refine(Bu [(0,_),(1,_)]) (JM) ?_;refine(Bl 20 [(0,_)]) (lH) (fun g2=>?_);refine(Qa (s:=20) (len:=out.length) (n2:=1) 3 5 (fun r=>[_,_,_,⟨some r.g,61,ah bP out++bP (⟨t,t,false,false⟩),r.n,true⟩,_,_]) F7 L6) (bI.length out) h3 h4 (bI.one (⟨t,t,false,false⟩)) (fun r=>?_);refine A4 ?_;exact EE ⟨(out++[⟨t,t,false,false⟩],out.length+1,some r.g,r.n,r.cap),by rw[qeY hog hhv],by simp,by rw[List.length_append];exact r.h,r.hn,by simp⟩ ⟨rfl,rfl,rfl,rfl,rfl,rfl,rfl,rfl,trivial⟩ (au [some 0,some 1,some 2,some 3,some 4] ⟨pR,pR,pR,⟨_,rfl,aI (by rw[bH])⟩,pR,trivial⟩ rfl rfl)
     ·have hhv:h=false:=hb4;refine A3 ?_;exact Ni ⟨(out,out.length,ob,oN,oc),by rw[qeZ hog hhv],rfl,h3,h4,Nat.le_succ _⟩ [0,1,2,3,4]
  rintro⟨⟨o1,ln,b1,n1,c1⟩,ho1,hln,h31,h41,hl1⟩;show At _ ⟨109,[(0,.int .i64 op),(1,az ab 0 a.length ac),(2,az bb 0 b.length bc),(7,az eb 0 (fG (bV (a++b))).length ec),(8,az b1 0 ln c1),(10,bz i),(11,dV g1),(12,.bool h)],[⟨ab,61,ah bP a,aN,false⟩,⟨bb,61,ah bP b,bN,false⟩,⟨eb,38,ah iD (fG (bV (a++b))),eN,true⟩,⟨b1,61,ah bP o1,n1,true⟩,⟨some g1,38,iD t,9,true⟩]⟩ _;replace hln:ln=o1.length:=hln;subst hln;replace ho1:o1=kM out og h t:=ho1;replace h31:o1.length<=c1:=h31;replace h41:c1*20<=n1:=h41;replace hl1:o1.length<=out.length+1:=hl1;refine A4 ?_;refine Ar (((i+1:Nat):Int)) ?_;refine A5 ?_;refine Cd ?_ ?_<;>intro hb3
  ·have hend:i+1=(fG (bV (a++b))).length:=by have e:=eq_of_beq hb3;omega
   obtain rfl:o1=kY (vH op) a b:=by rw[P5,<-hI,ho1];exact YJ ht hend hh
   refine A2 ?_;refine OM rfl ?_;refine oO ?_;refine aH rfl (aj rfl) (fun w hL=>⟨⟨b1,n1,c1,h31⟩,?_,hL.pk [some 3]⟩);exact rfl
  ·have hmore:i+1<(fG (bV (a++b))).length:=by have e:=ne_of_beq_false hb3;omega
   obtain⟨u,hu⟩:∃u,(fG (bV (a++b)))[i+1]? =some u:=⟨_,List.getElem?_eq_getElem hmore⟩;have hus:=hes u (List.mem_of_getElem? hu);obtain⟨w_,hw_⟩:∃w_,vH op (oq a t u) (oq b t u)=w_:=⟨_,rfl⟩;refine A6 ?_;refine Ar (((i+1:Nat):Int)) ?_;refine ai 2 ((i+1)*9) pX iK rfl rfl rfl rfl rfl (by omega) (by omega) (dK.ne (by decide) (by omega)) (by show 0+Int.toNat _*9=_;omega) ?_;refine aO (v:=RV u) 2 ((i+1)*9) _ rfl rfl rfl rfl iK (dK.sub hu 0 9 (by decide)) rfl (by decide) rfl ?_;refine Al 9 O5 (fun g2=>?_);refine Ss 5 ?_;refine A3 ?_;refine Dp [] [0,1,2,3,5,6,7,4,8,9,10] ?_;refine A2 ?_;refine L9 4 0 ?_;refine L9 5 0 ?_;refine A1 ?_;refine L9 4 0 ?_;refine L9 5 0 ?_;refine(Sd [0]) (CX a ab aN ac hac han hsa t u hts hus) ?_;refine(Sd [1]) (CX b bb bN bc hbc hbn hsb t u hts hus) ?_;refine Pc (AO op _ _) ?_;refine aT 95 (.bool w_) rfl (congrArg Value.bool hw_) ?_;refine A8 ?_;refine Rs 97 ?_ ?_<;>intro hb4
   ·have hwv:w_=true:=hb4;refine A5 ?_;refine Cd ?_ ?_<;>intro hb5
    ·have hhv2:h=false:=by have e:=hb5;simpa using e
     refine A2 ?_;refine L9 4 0 ?_;refine L9 5 0 ?_;refine(Bu [(0,_),(1,_),(2,_),(3,_)]) (JO) ?_;refine(Bl 20 [(0,_)]) (lH) (fun g3=>?_);refine(Qa (s:=20) (len:=o1.length) (n2:=1) 3 6 (fun r=>[_,_,_,⟨some r.g,61,ah bP o1++bP (⟨t,u,true,true⟩),r.n,true⟩,_,_,_]) F7 L6) (bI.length o1) h31 h41 (bI.one (⟨t,u,true,true⟩)) (fun r=>?_);refine oO ?_;refine Ar (((i+1:Nat):Int)) ?_;refine A3 ?_;exact Nl ⟨⟨i+1,o1++[⟨t,u,true,true⟩],true,some r.g,r.n,r.cap⟩,hlt,(qbw ht hu hh hw_ hwv hhv2 ho1).symm.trans hI,fun _=>by simp,by rw[List.length_append];exact r.h,r.hn,by show(o1++_).length<=2*(i+1);rw[List.length_append];simp;omega⟩ (hμ:=(by show(fG (bV (a++b))).length-(i+1)<(fG (bV (a++b))).length-i;omega)) (ht:=⟨rfl,rfl,rfl,rfl,(aB rfl (by rw[List.length_append];rfl)),(aB rfl (congrArg Value.bool hwv)),rfl,trivial⟩) (hL:=(au [some 0,some 1,some 2,some 3] ⟨pR,pR,pR,⟨_,rfl,aI (by rw[bH])⟩,trivial⟩ rfl rfl))
    ·have hhv2:h=true:=by have e:=hb5;simpa using e
     refine lm ?_;refine Ar (((i+1:Nat):Int)) ?_;refine A3 ?_;exact Nl ⟨⟨i+1,o1,true,b1,n1,c1⟩,hlt,(qeU ht hu hh hw_ hwv hhv2 ho1).symm.trans hI,fun _=>by show 0<o1.length;rw[ho1,hhv2];exact(qbx out og t).resolve_left fun e=>by have:=hne e.1;rw[e.2] at this;simp at this,h31,h41,by show o1.length<=2*(i+1);omega⟩ (hμ:=(by show(fG (bV (a++b))).length-(i+1)<(fG (bV (a++b))).length-i;omega)) (ht:=⟨rfl,rfl,rfl,rfl,rfl,(aB rfl (congrArg Value.bool hwv)),rfl,trivial⟩) (hL:=eG.auto)
   ·have hwv:w_=false:=hb4;refine II ?_;refine Ar (((i+1:Nat):Int)) ?_;refine A3 ?_;exact Nl ⟨⟨i+1,o1,false,b1,n1,c1⟩,hlt,(qeV ht hu hh hw_ hwv ho1).symm.trans hI,fun e=>(by cases e),h31,h41,by show o1.length<=2*(i+1);omega⟩ (hμ:=(by show(fG (bV (a++b))).length-(i+1)<(fG (bV (a++b))).length-i;omega)) (ht:=⟨rfl,rfl,rfl,rfl,rfl,(aB rfl (congrArg Value.bool hwv)),rfl,trivial⟩) (hL:=eG.auto)
 ·have hge:i=(fG (bV (a++b))).length:=(by have:=of_decide_eq_false hb1;omega);subst hge;obtain rfl:out=kY (vH op) a b:=by rw[P5,<-hI,List.drop_length];rfl
  refine lX ?_;refine aH rfl (aj rfl) (fun w hL=>⟨⟨ob,oN,oc,h3⟩,?_,hL.pk [some 3]⟩);exact rfl
end Go.Proofs.YtaffcpfhedadhaaGreatDoor
namespace Go.Via
open Go
def Hu{α:Type}{a b:List α}(h:a.take a.length=b.take a.length)(hl:a.length=b.length):a=b:=by
 rw[List.take_length,hl,List.take_length] at h;exact h
theorem qhH:vH 2=qk6:=by funext a b;rfl
def zRc:List Value:=[aX,aY,aX,aY,aX,aY,aX,aY,.bool false]
def qby:iD (rl 0)=zRc:=by
 have:=WJ;unfold RV at this
 injection this with h
 have h2:=congrArg Array.toList h;exact h2
def Fp{x y:Rl}{n:Nat}(hx:gY x<=n)(hy:gY y<=n):gY (gX x y)<=n:=by rcases PT x y with e|e<;>rw[e]<;>assumption
def qe0{l:List oZ}(h:∀p∈l,gY p.a<=50000∧gY p.b<=50000):gY (l.foldl wM (rl 0))<=50000:=by
 have:∀(l:List oZ) (o:Rl),(∀p∈l,gY p.a<=50000∧gY p.b<=50000)->gY o<=50000->gY (l.foldl wM o)<=50000:=by
  intro l
  induction l with
  |nil=>intro o _ ho;exact ho
  |cons p l ih=>intro o hl ho;rw[List.foldl_cons];exact ih _ (fun q hq=>hl q (List.mem_cons_of_mem _ hq)) (Fp (Fp ho (hl p (List.mem_cons_self ..)).1) (hl p (List.mem_cons_self ..)).2)
 exact this l _ h (yV (by have:=wP;omega) (by omega))
def P9{x y:Rl}(h:bW y x>0):gX x y=y:=by unfold gX;rw[if_pos h]
def Qb{x y:Rl}(h:¬bW y x>0):gX x y=x:=by unfold gX;rw[if_neg h]
def Y3(x y:Rat):Qd:=⟨x*x,x*y+y*x,x*0+0*x+y*y⟩
def qhI(f g:Ln):(⟨(Y3 (f.x0-g.x0) (f.x1-g.x1)).c0+(Y3 (f.y0-g.y0) (f.y1-g.y1)).c0,(Y3 (f.x0-g.x0) (f.x1-g.x1)).c1+(Y3 (f.y0-g.y0) (f.y1-g.y1)).c1,(Y3 (f.x0-g.x0) (f.x1-g.x1)).c2+(Y3 (f.y0-g.y0) (f.y1-g.y1)).c2⟩:Qd)=d2 f g:=by
 unfold Y3 d2;dsimp only;congr 1<;>grind
def qe1{l:List oZ}{o:Rl}(h:∀p∈l,gY p.a<=50000∧gY p.b<=50000)(ho:gY o<=50000):gY (l.foldl (fun o x=>gX o (gX x.a x.b)) o)<=50000:=by
 induction l generalizing o with
 |nil=>exact ho
 |cons p l ih=>rw[List.foldl_cons];exact ih (fun q hq=>h q (List.mem_cons_of_mem _ hq)) (Fp ho (Fp (h p (List.mem_cons_self ..)).1 (h p (List.mem_cons_self ..)).2))
def Vd{l:List oZ}(h0:0<l.length):l.foldl (fun o x=>gX o (gX x.a x.b)) (l[0]'h0).a=fO l:=by
 cases l with
 |nil=>simp at h0
 |cons p l=>rfl
end Go.Via
namespace Go.Proofs.YtaffcpfhedadhaaGreatDoor
open Go Go.Via
def qbz:elW Tryz.prog 151 52 (.agg #[aX,aY,aX,aY,aX,aY,aX,aY,.bool false,aX,aY,aX,aY,aX,aY,aX,aY,.bool false,.bool false,.bool false,aX,aY,aX,aY,aX,aY,aX,aY,aX,aY,aX,aY,aX,aY,aX,aY,aX,aY,aX,aY,aX,aY,aX,aY,aX,aY,aX,aY,aX,aY,aX,aY]):=⟨by kernel_rfl,by decide⟩
end Go.Proofs.YtaffcpfhedadhaaGreatDoor
namespace Go.Via
def Ce(x y:PU):Option B3:=(jf x.i y.i).map fun m=>⟨m,x.f,y.f⟩
def CY(x y:PU):Bool:=ES x.i y.i
theorem I8{x y:PU}(h:jQ (eU x.i y.i)=true):(Ce x y).toList=[⟨eU x.i y.i,x.f,y.f⟩]:=by unfold Ce jf;rw[if_pos h];rfl
theorem qbA{x y:PU}(h:jQ (eU x.i y.i)=false):(Ce x y).toList=[]:=by unfold Ce jf;rw[if_neg (by rw[h];decide)];rfl
theorem Ve{α β γ:Type}{mt:α->β->Option γ}{ef:α->β->Bool}{a:List α}{b:List β}{i k:Nat}{x:α}{y:β}(hx:a[i]? =some x)(hy:b[k]? =some y)(h:ef x y=true):iL mt ef (a.drop i) (b.drop k)=(mt x y).toList++iL mt ef (a.drop (i+1)) (b.drop k):=by
 rw[yX hx,yX hy,iL,if_pos h]
theorem Vf{α β γ:Type}{mt:α->β->Option γ}{ef:α->β->Bool}{a:List α}{b:List β}{i k:Nat}{x:α}{y:β}(hx:a[i]? =some x)(hy:b[k]? =some y)(h:ef x y=false):iL mt ef (a.drop i) (b.drop k)=(mt x y).toList++iL mt ef (a.drop i) (b.drop (k+1)):=by
 rw[yX hx,yX hy,iL,if_neg (by rw[h];decide)]
theorem Tu{α β γ:Type}{mt:α->β->Option γ}{ef:α->β->Bool}{a:List α}{b:List β}{i k:Nat}(h:a.length<=i∨b.length<=k):iL mt ef (a.drop i) (b.drop k)=[]:=by
 rcases h with h|h
 ·rw[List.drop_of_length_le h];cases b.drop k<;>simp[iL]
 ·rw[List.drop_of_length_le h];cases a.drop i<;>simp[iL]
theorem KP{α β γ δ:Type}{mt:α->β->Option γ}{ef:α->β->Bool}(f:γ->δ):∀(a:List α) (b:List β),(iL mt ef a b).map f=iL (fun x y=>(mt x y).map f) ef a b
 |[],_=>by simp[iL]
 |_::_,[]=>by simp[iL]
 |x::xs,y::ys=>by
  rw[iL,iL,List.map_append]
  congr 1
  ·cases mt x y<;>rfl
  ·split
   ·exact KP f xs (y::ys)
   ·exact KP f (x::xs) ys
termination_by a b=>a.length+b.length
def Fq{α β γ:Type}{mt:α->β->Option γ}{ef:α->β->Bool}:∀{a:List α} {b:List β} {z:γ},z∈iL mt ef a b->∃x∈a,∃y∈b,mt x y=some z
 |[],_,z,h=>by simp[iL] at h
 |_::_,[],z,h=>by simp[iL] at h
 |x::xs,y::ys,z,h=>by
  rw[iL] at h;rcases List.mem_append.1 h with h|h
  ·exact⟨x,List.mem_cons_self ..,y,List.mem_cons_self ..,Option.mem_toList.1 h⟩
  ·split at h
   ·obtain⟨u,hu,v,hv,e⟩:=Fq h;exact⟨u,List.mem_cons_of_mem _ hu,v,hv,e⟩
   ·obtain⟨u,hu,v,hv,e⟩:=Fq h;exact⟨u,hu,v,List.mem_cons_of_mem _ hv,e⟩
termination_by a b=>a.length+b.length
def Fv{α β γ:Type}{mt:α->β->Option γ}{ef:α->β->Bool}:∀(a:List α) (b:List β),(iL mt ef a b).length<=a.length+b.length
 |[],_=>by simp[iL]
 |_::_,[]=>by simp[iL]
 |x::xs,y::ys=>by
  rw[iL,List.length_append];have h1:(mt x y).toList.length<=1:=by cases mt x y<;>simp
  split
  ·have:=Fv (mt:=mt) (ef:=ef) xs (y::ys);simp only[List.length_cons] at this ⊢;omega
  ·have:=Fv (mt:=mt) (ef:=ef) (x::xs) ys;simp only[List.length_cons] at this ⊢;omega
termination_by a b=>a.length+b.length
theorem Fz(a b:List PU):(iL Ce CY a b).map (fun z=>(z.i,d2 z.f z.g))=ay a b:=by
 rw[KP];unfold ay
 congr 1
 funext x y
 unfold Ce uz;cases jf x.i y.i<;>rfl
def WV{x y:Rat}{n:Nat}(hx:dw x<=n)(hy:dw y<=n):uB (Y3 x y)<=4*n+10:=by
 have z:=wP;unfold Y3;refine Gx ?_ ?_ ?_<;>dsimp only
 ·have:=aS x x;omega
 ·have:=aS x y;have:=aS y x;have:=bT (x*y) (y*x);omega
 ·have:=aS x 0;have:=aS 0 x;have:=aS y y;have:=bT (x*0) (0*x);have:=bT (x*0+0*x) (y*y);omega
def Hw(l:List PU):Prop:=∀u∈l,jV u.i<=100∧jo u.f<=100
theorem Hw.v{l:List PU}(h:Hw l):∀u∈l,jV u.i<=50000:=fun u hu=>Nat.le_trans (h u hu).1 (by omega)
def qfW{a b:List PU}(ha:Hw a)(hb:Hw b):∀z∈iL Ce CY a b,jV z.i<=100∧jo z.f<=100∧jo z.g<=100:=fun z hz=>by
 obtain⟨x,hx,y,hy,e⟩:=Fq hz;unfold Ce jf at e
 split at e
 ·simp at e;subst e;exact⟨Tc (ha x hx).1 (hb y hy).1,(ha x hx).2,(hb y hy).2⟩
 ·simp at e
def uC(a b:List PU):(ay a b).length<=a.length+b.length:=by rw[<-Fz,List.length_map];exact Fv a b
def yu{a b:List PU}(ha:Hw a)(hb:Hw b):∀z∈ay a b,jV z.1<=100∧uB z.2<=820:=fun z hz=>by
 rw[<-Fz] at hz;obtain⟨w,hw,rfl⟩:=List.mem_map.1 hz;have:=qfW ha hb w hw;exact⟨this.1,Nat.le_trans (qbv this.2.1 this.2.2) (by omega)⟩
end Go.Via
namespace Go.Proofs.YtaffcpfhedadhaaGreatDoor
open Go Go.RowKit Go.Via
variable[Mo]
def rf(a b:qK)(ha:gY a.1<=50000:=by omega)(hb:gY b.1<=50000:=by omega):aP Tryz.prog 148 #[BdV a,BdV b] (.int .i64 (xg a b)):=by
 refine oG 23 Tryz.func148 fun w=>?_;refine A2 ?_;refine Bp 10 (fun g0=>?_);refine Bp 10 (fun g1=>?_);refine A7 ?_;refine L9 0 0 ?_;refine A1 ?_;refine L9 1 0 ?_;refine Pc (dL a.1 b.1 ha hb) ?_;refine A9 ?_;refine Cd ?_ ?_<;>intro hb0
 ·have hs12:bW a.1 b.1≠0:=by have e:=hb0;simpa using e
  refine A8 ?_;refine E0 ?_;rw[xg,if_pos hs12]
 ·have hs12:bW a.1 b.1=0:=by have e:=hb0;simpa using e
  refine lm ?_;refine FQ rfl u4 rfl rfl rfl ?_;refine A3 ?_;refine Cd ?_ ?_<;>intro hb1
  ·have hs19:a.2=b.2:=by have e:=hb1;simpa using e
   refine A8 ?_;refine E0 ?_;rw[xg,if_neg (fun e=>e hs12),if_pos hs19]
  ·have hs19:a.2≠b.2:=by have e:=hb1;simpa using e
   refine A7 ?_;refine Cd ?_ ?_<;>intro hb2
   ·have hs20:b.2=true:=hb2;refine A8 ?_;refine E0 ?_;rw[xg,if_neg (fun e=>e hs12),if_neg hs19,if_pos hs20]
   ·have hs20:b.2=false:=hb2;refine A9 ?_;refine E0 ?_;rw[xg,if_neg (fun e=>e hs12),if_neg hs19,if_neg (by rw[hs20];decide)]
def vK(i:Iv):aP Tryz.prog 149 #[kF i] (BdV i.b):=by
 refine xJ 8 Tryz.func149 fun w=>?_;refine A2 ?_;refine Bp 20 (fun g0=>?_);refine Al 10 qgD (fun g1=>?_);refine A5 ?_;refine L9 0 0 ?_;refine A2 ?_;refine(Bu [(0,_),(1,_)]) (VS) ?_;refine Ss 1 ?_;refine A3 ?_;refine qi0 1 ?_;exact rfl
def xG(i:Iv):aP Tryz.prog 150 #[kF i] (BdV i.e):=by
 refine xJ 9 Tryz.func150 fun w=>?_;refine A2 ?_;refine Bp 20 (fun g0=>?_);refine Al 10 qgD (fun g1=>?_);refine A5 ?_;refine L9 0 9 ?_;refine A3 ?_;refine(Bu [(0,_),(1,_)]) (VS) ?_;refine Ss 1 ?_;refine A3 ?_;refine qi0 1 ?_;exact rfl
def yw(a b:qK):aP Tryz.prog 194 #[BdV a,BdV b] (kF (Ib a b)):=by
 refine oG 15 Tryz.func194 fun w=>?_;refine A2 ?_;refine Bp 10 (fun g0=>?_);refine Bp 10 (fun g1=>?_);refine Al 20 z61 (fun g2=>?_);refine A5 ?_;refine L9 0 0 ?_;refine A1 ?_;refine L9 1 0 ?_;refine A5 ?_;refine(Bu [(0,_),(1,_),(2,_),(3,_)]) (JO) ?_;refine Ss 2 ?_;refine A3 ?_;refine qkT 2 ?_;exact rfl
end Go.Proofs.YtaffcpfhedadhaaGreatDoor
namespace Go.Proofs.YtaffcpfhedadhaaGreatDoor
open Go Go.RowKit Go.Via
def jq(x:Rl)(hx:gY x<=5000:=by omega):aP Tryz.prog 51 #[RV x] (.int .i64 (if eH x=true then 0 else 5)):=by
 have x1:=Nat.le_trans (sO x) hx;have x2:=Nat.le_trans (yj x) hx;refine xJ 31 Tryz.func51 fun w=>?_;refine A2 ?_;refine Bp 9 (fun g0=>?_);refine A7 ?_;refine L4 0 0 ?_;refine Pc (SN x.p) ?_;refine A1 ?_;refine Kr 8 (.bool false) ?_;refine A2 ?_;refine L4 0 4 ?_;refine Pc (SN x.r) ?_;refine A1 ?_;refine Kr 13 (.bool false) ?_;refine lm ?_;refine L4 0 4 ?_;refine Pc (fF x.r) ?_;refine A9 ?_;refine Cd ?_ ?_<;>intro hb0
 ·have hs18:x.r.num.sign= -1:=eq_of_beq hb0;refine A8 ?_;refine E0 ?_;rw[qbm hs18];rfl
 ·have hs18:x.r.num.sign≠ -1:=ne_of_beq_false hb0;refine A6 ?_;refine Cd ?_ ?_<;>intro hb1
  ·have hs20:x.r.num.sign=0:=eq_of_beq hb1;refine A7 ?_;refine Cd ?_ ?_<;>intro hb2
   ·have hs23:x.n=true:=hb2;refine A9 ?_;refine E0 ?_;rw[Oe hs20,hs23];rfl
   ·have hs23:x.n=false:=hb2;refine lm ?_;refine E0 ?_;rw[Oe hs20,hs23];rfl
  ·have hs20:x.r.num.sign≠0:=ne_of_beq_false hb1;refine A7 ?_;refine L4 0 4 ?_;refine Pc (zh x.r) ?_;refine A3 ?_;refine Al 4 qV (fun g1=>?_);refine Ss 1 ?_;refine A8 ?_;refine Cd ?_ ?_<;>intro hb2
   ·have hs30:BM x.r=true:=hb2;refine A7 ?_;refine E0 ?_;rw[S9 hs18 hs20,hs30];rfl
   ·have hs30:BM x.r=false:=hb2;refine A8 ?_;refine E0 ?_;rw[S9 hs18 hs20,hs30];rfl
def qA(i:Iv)(hi:jV i<=5000:=by omega):aP Tryz.prog 101 #[kF i] (.int .i64 (if(eH i.f&&eH i.t)=false then 5 else if jQ i=false then 10 else 0)):=by
 have i1:=Nat.le_trans (kw i) hi;have i2:=Nat.le_trans (kz i) hi;refine xJ 19 Tryz.func101 fun w=>?_;refine A2 ?_;refine Bp 20 (fun g0=>?_);refine A7 ?_;refine L9 0 0 ?_;refine Pc (jq i.f) ?_;refine A2 ?_;refine Rs 7 ?_ ?_<;>intro hb0
 ·have hs7:eH i.f=false:=by cases e:eH i.f<;>simp[e] at hb0 ⊢
  refine zT ?_;refine E0 ?_;rw[hs7];rfl
 ·have hs7:eH i.f=true:=by cases e:eH i.f<;>simp[e] at hb0 ⊢
  refine A1 ?_;refine L9 0 9 ?_;refine Pc (jq i.t) ?_;refine A4 ?_;refine Cd ?_ ?_<;>intro hb1
  ·have hs12:eH i.t=false:=by cases e:eH i.t<;>simp[e] at hb1 ⊢
   refine A7 ?_;refine E0 ?_;rw[hs7,hs12];rfl
  ·have hs12:eH i.t=true:=by cases e:eH i.t<;>simp[e] at hb1 ⊢
   refine A4 ?_;refine Dp [] [0,2,1,3,4,5] ?_;refine yB 0 0 ?_;refine yB 0 0 ?_;refine Pc (vK i) ?_;refine Pc (xG i) ?_;refine dE [_,_] rfl rfl rfl (rf i.b i.e (by show gY i.f<=_;omega) (by show gY i.t<=_;omega)) ?_;refine A3 ?_;refine Cd ?_ ?_<;>intro hb2
   ·have hs18:jQ i=false:=by rw[Og];have e:=hb2;simp at e ⊢;omega
    refine A7 ?_;refine E0 ?_;rw[hs7,hs12,hs18];rfl
   ·have hs18:jQ i=true:=by rw[Og];have e:=hb2;simp at e ⊢;omega
    refine A8 ?_;refine E0 ?_;rw[hs7,hs12,hs18];rfl
def o6(a b:Iv)(ha:jV a<=50000:=by omega)(hb:jV b<=50000:=by omega):aP Tryz.prog 139 #[kF a,kF b] (.bool (ES a b)):=by
 have a1:=Nat.le_trans (kw a) ha;have a2:=Nat.le_trans (kz a) ha;have b1:=Nat.le_trans (kw b) hb;have b2:=Nat.le_trans (kz b) hb;refine oG 26 Tryz.func139 fun w=>?_;refine A2 ?_;refine Bp 20 (fun g0=>?_);refine Bp 20 (fun g1=>?_);refine A6 ?_;refine L9 0 9 ?_;refine A1 ?_;refine L9 1 9 ?_;refine Pc (dL a.t b.t) ?_;refine A8 ?_;refine Rs 13 ?_ ?_<;>intro hb0
 ·refine II ?_;refine E0 ?_;exact eB (by unfold ES;first|(simp_all;done)|(simp_all;omega)|(simp_all;intros;omega))
 ·refine A3 ?_;refine Rs 16 ?_ ?_<;>intro hb1
  ·refine A3 ?_;refine Rs 19 ?_ ?_<;>intro hb2
   ·refine lm ?_;refine E0 ?_;exact eB (by unfold ES;first|(simp_all;done)|(simp_all;omega)|(simp_all;intros;omega))
   ·refine lm ?_;refine E0 ?_;exact eB (by unfold ES;first|(simp_all;done)|(simp_all;omega)|(simp_all;intros;omega))
  ·refine CB ?_;refine E0 ?_;exact eB (by unfold ES;first|(simp_all;done)|(simp_all;omega)|(simp_all;intros;omega))
def KQ(a b:Iv)(ha:jV a<=50000:=by omega)(hb:jV b<=50000:=by omega):aP Tryz.prog 185 #[kF a,kF b] (.bool (E5 a b)):=by
 have a1:=Nat.le_trans (kw a) ha;have a2:=Nat.le_trans (kz a) ha;have b1:=Nat.le_trans (kw b) hb;have b2:=Nat.le_trans (kz b) hb;refine oG 25 Tryz.func185 fun w=>?_;refine A2 ?_;refine Bp 20 (fun g0=>?_);refine Bp 20 (fun g1=>?_);refine A6 ?_;refine L9 0 9 ?_;refine A1 ?_;refine L9 1 0 ?_;refine Pc (dL a.t b.f) ?_;refine A8 ?_;refine Rs 13 ?_ ?_<;>intro hb0
 ·refine zT ?_;refine E0 ?_;exact eB (by unfold E5;first|(simp_all;done)|(simp_all;omega)|(simp_all;intros;omega))
 ·refine A3 ?_;refine Rs 16 ?_ ?_<;>intro hb1
  ·refine A3 ?_;refine Rs 19 ?_ ?_<;>intro hb2
   ·refine A9 ?_;refine E0 ?_;exact eB (by unfold E5;first|(simp_all;done)|(simp_all;omega)|(simp_all;intros;omega))
   ·refine A9 ?_;refine E0 ?_;exact eB (by unfold E5;first|(simp_all;done)|(simp_all;omega)|(simp_all;intros;omega))
  ·refine lX ?_;refine E0 ?_;exact eB (by unfold E5;first|(simp_all;done)|(simp_all;omega)|(simp_all;intros;omega))
def iM(i:Iv):aP Tryz.prog 187 #[kF i] (.bool (fJ i)):=by
 refine xJ 8 Tryz.func187 fun w=>?_;refine A2 ?_;refine Bp 20 (fun g0=>?_);refine A6 ?_;refine L9 0 0 ?_;refine A1 ?_;refine L9 0 9 ?_;refine gu rfl rfl rfl rfl Mc (MB _ _) ?_;refine A4 ?_;refine E0 ?_;exact rfl
def MH(a b:Iv)(ha:jV a<=50000:=by omega)(hb:jV b<=50000:=by omega):aP Tryz.prog 138 #[kF a,kF b] (.tuple #[kF (eU a b),.bool (jQ (eU a b))]):=by
 have a1:=Nat.le_trans (kw a) ha;have a2:=Nat.le_trans (kz a) ha;have b1:=Nat.le_trans (kw b) hb;have b2:=Nat.le_trans (kz b) hb;have hmf:=Oh ha hb;have hmt:=Oi ha hb;refine oG 81 Tryz.func138 fun w=>?_;refine A2 ?_;refine Bp 20 (fun g0=>?_);refine Bp 20 (fun g1=>?_);refine Al 20 z61 (fun g2=>?_);refine A5 ?_;refine yB 0 0 ?_;refine Al 20 z61 (fun g3=>?_);refine Ss 3 ?_;refine A2 ?_;refine OW (nt:=81) [(2,dV g0),(3,dV g1),(4,dV g2),(5,.bool false),(6,dV g3)] [⟨some g0,61,bP a,20,true⟩,⟨some g1,61,bP b,20,true⟩,⟨some g2,61,qjo,20,true⟩,⟨some g3,61,bP ⟨(sH a b).1,a.t,(sH a b).2,a.tp⟩,20,true⟩] ?_ ?_
 ·refine A3 ?_;refine L9 0 0 ?_;refine A1 ?_;refine L9 1 0 ?_;refine Pc (dL a.f b.f) ?_;refine oO ?_;refine Cd ?_ ?_<;>intro hb0
  ·have hsA:bW a.f b.f<0:=of_decide_eq_true hb0;refine Di [3] ?_;refine A1 ?_;refine L9 1 0 ?_;refine A2 ?_;refine Fg 0 0 ?_;refine mW 3 0 [_,_,_,⟨some g3,61,_,20,true⟩] [_,_,_,_,_,_,_,_,_,_,_,_,_,_,_,_,_,_,_,_] rfl rfl rfl rfl iK rfl rfl rfl rfl rfl rfl ?_;refine Fg 0 18 ?_;refine mW 3 18 [_,_,_,⟨some g3,61,_,20,true⟩] [_,_,_,_,_,_,_,_,_,_,_,_,_,_,_,_,_,_,_,_] rfl rfl rfl rfl ti4 rfl rfl rfl rfl rfl rfl ?_;refine A3 ?_;exact rC ⟨rfl,rfl,rfl,rfl,rfl,trivial⟩ (au [some 0,some 1,some 2,some 3] ⟨pR,pR,pR,⟨_,rfl,aI (by rw[qeK hsA]<;>rfl)⟩,trivial⟩ rfl rfl)
  ·have hsA:¬bW a.f b.f<0:=of_decide_eq_false hb0;refine A7 ?_;refine Cd ?_ ?_<;>intro hb1
   ·have hsB:bW a.f b.f=0:=eq_of_beq hb1;refine A4 ?_;refine Rs 30 ?_ ?_<;>intro hb2
    ·have hsC:a.fo=true:=hb2;refine A4 ?_;refine Ss 3 ?_;refine A3 ?_;exact rC ⟨rfl,rfl,rfl,rfl,rfl,trivial⟩ (au [some 0,some 1,some 2,some 3] ⟨pR,pR,pR,⟨_,rfl,aI (by rw[WM hsA hsB,hsC,Bool.true_or]<;>rfl)⟩,trivial⟩ rfl rfl)
    ·have hsC:a.fo=false:=hb2;refine A4 ?_;refine Ss 3 ?_;refine A3 ?_;exact rC ⟨rfl,rfl,rfl,rfl,rfl,trivial⟩ (au [some 0,some 1,some 2,some 3] ⟨pR,pR,pR,⟨_,rfl,aI (by rw[WM hsA hsB,hsC,Bool.false_or]<;>rfl)⟩,trivial⟩ rfl rfl)
   ·have hsB:bW a.f b.f≠0:=ne_of_beq_false hb1;refine A3 ?_;exact rC ⟨rfl,rfl,rfl,rfl,rfl,trivial⟩ (au [some 0,some 1,some 2,some 3] ⟨pR,pR,pR,⟨_,rfl,aI (by rw[qeL hsA hsB]<;>rfl)⟩,trivial⟩ rfl rfl)
 refine OW (nt:=81) [(2,dV g0),(3,dV g1),(4,dV g2),(5,.bool false),(6,dV g3)] [⟨some g0,61,bP a,20,true⟩,⟨some g1,61,bP b,20,true⟩,⟨some g2,61,qjo,20,true⟩,⟨some g3,61,bP ⟨(sH a b).1,(uS a b).1,(sH a b).2,(uS a b).2⟩,20,true⟩] ?_ ?_
 ·refine A3 ?_;refine L9 0 9 ?_;refine A1 ?_;refine L9 1 9 ?_;refine Pc (dL a.t b.t) ?_;refine oO ?_;refine Cd ?_ ?_<;>intro hb1
  ·have hsA:0<bW a.t b.t:=of_decide_eq_true hb1;refine Di [3] ?_;refine A1 ?_;refine L9 1 9 ?_;refine A2 ?_;refine Fg 0 9 ?_;refine mW 3 9 [_,_,_,⟨some g3,61,_,20,true⟩] [_,_,_,_,_,_,_,_,_,_,_,_,_,_,_,_,_,_,_,_] rfl rfl rfl rfl iK rfl rfl rfl rfl rfl rfl ?_;refine Fg 0 19 ?_;refine mW 3 19 [_,_,_,⟨some g3,61,_,20,true⟩] [_,_,_,_,_,_,_,_,_,_,_,_,_,_,_,_,_,_,_,_] rfl rfl rfl rfl ti4 rfl rfl rfl rfl rfl rfl ?_;refine A3 ?_;exact rC ⟨rfl,rfl,rfl,rfl,rfl,trivial⟩ (au [some 0,some 1,some 2,some 3] ⟨pR,pR,pR,⟨_,rfl,aI (by rw[qeM hsA]<;>rfl)⟩,trivial⟩ rfl rfl)
  ·have hsA:¬0<bW a.t b.t:=of_decide_eq_false hb1;refine A7 ?_;refine Cd ?_ ?_<;>intro hb2
   ·have hsB:bW a.t b.t=0:=eq_of_beq hb2;refine A4 ?_;refine Rs 54 ?_ ?_<;>intro hb3
    ·have hsC:a.tp=true:=hb3;refine A4 ?_;refine Ss 3 ?_;refine A3 ?_;exact rC ⟨rfl,rfl,rfl,rfl,rfl,trivial⟩ (au [some 0,some 1,some 2,some 3] ⟨pR,pR,pR,⟨_,rfl,aI (by rw[WN hsA hsB,hsC,Bool.true_or]<;>rfl)⟩,trivial⟩ rfl rfl)
    ·have hsC:a.tp=false:=hb3;refine A4 ?_;refine Ss 3 ?_;refine A3 ?_;exact rC ⟨rfl,rfl,rfl,rfl,rfl,trivial⟩ (au [some 0,some 1,some 2,some 3] ⟨pR,pR,pR,⟨_,rfl,aI (by rw[WN hsA hsB,hsC,Bool.false_or]<;>rfl)⟩,trivial⟩ rfl rfl)
   ·have hsB:bW a.t b.t≠0:=ne_of_beq_false hb2;refine A3 ?_;exact rC ⟨rfl,rfl,rfl,rfl,rfl,trivial⟩ (au [some 0,some 1,some 2,some 3] ⟨pR,pR,pR,⟨_,rfl,aI (by rw[qeN hsA hsB]<;>rfl)⟩,trivial⟩ rfl rfl)
 refine A3 ?_;refine L9 3 0 ?_;refine A1 ?_;refine L9 3 9 ?_;refine Pc (dL (sH a b).1 (uS a b).1 hmf hmt) ?_;refine A4 ?_;refine Di [2] ?_;refine yB 3 0 ?_;refine A3 ?_;refine Rs 67 ?_ ?_<;>intro hb2
 ·refine CB ?_;refine mW 2 0 [_,_,⟨some g2,61,_,20,true⟩,_] [_,_,_,_,_,_,_,_,_,_,_,_,_,_,_,_,_,_,_,_] rfl rfl rfl rfl iC rfl rfl rfl rfl rfl rfl ?_;refine A4 ?_;refine bF rfl (bu 2 rfl rfl iC (vs:=[_,_,_,_,_,_,_,_,_,_,_,_,_,_,_,_,_,_,_,_]) rfl rfl (Nat.le_of_ble_eq_true rfl) rfl) (aj rfl) (fun w hL=>⟨?_,hL.below⟩);exact congrArg (fun z=>Ending.returned (.tuple #[kF (eU a b),.bool z])) (by unfold jQ eU;simp_all)
 ·refine A3 ?_;refine Rs 70 ?_ ?_<;>intro hb3
  ·refine A5 ?_;refine Rs 75 ?_ ?_<;>intro hb4
   ·refine A5 ?_;refine mW 2 0 [_,_,⟨some g2,61,_,20,true⟩,_] [_,_,_,_,_,_,_,_,_,_,_,_,_,_,_,_,_,_,_,_] rfl rfl rfl rfl iC rfl rfl rfl rfl rfl rfl ?_;refine A4 ?_;refine bF rfl (bu 2 rfl rfl iC (vs:=[_,_,_,_,_,_,_,_,_,_,_,_,_,_,_,_,_,_,_,_]) rfl rfl (Nat.le_of_ble_eq_true rfl) rfl) (aj rfl) (fun w hL=>⟨?_,hL.below⟩);exact congrArg (fun z=>Ending.returned (.tuple #[kF (eU a b),.bool z])) (by unfold jQ eU;simp_all)
   ·refine A5 ?_;refine mW 2 0 [_,_,⟨some g2,61,_,20,true⟩,_] [_,_,_,_,_,_,_,_,_,_,_,_,_,_,_,_,_,_,_,_] rfl rfl rfl rfl iC rfl rfl rfl rfl rfl rfl ?_;refine A4 ?_;refine bF rfl (bu 2 rfl rfl iC (vs:=[_,_,_,_,_,_,_,_,_,_,_,_,_,_,_,_,_,_,_,_]) rfl rfl (Nat.le_of_ble_eq_true rfl) rfl) (aj rfl) (fun w hL=>⟨?_,hL.below⟩);exact congrArg (fun z=>Ending.returned (.tuple #[kF (eU a b),.bool z])) (by unfold jQ eU;simp_all)
  ·refine lm ?_;refine mW 2 0 [_,_,⟨some g2,61,_,20,true⟩,_] [_,_,_,_,_,_,_,_,_,_,_,_,_,_,_,_,_,_,_,_] rfl rfl rfl rfl iC rfl rfl rfl rfl rfl rfl ?_;refine A4 ?_;refine bF rfl (bu 2 rfl rfl iC (vs:=[_,_,_,_,_,_,_,_,_,_,_,_,_,_,_,_,_,_,_,_]) rfl rfl (Nat.le_of_ble_eq_true rfl) rfl) (aj rfl) (fun w hL=>⟨?_,hL.below⟩);exact congrArg (fun z=>Ending.returned (.tuple #[kF (eU a b),.bool z])) (by unfold jQ eU;simp_all)
def Cf(a b:Iv)(ha:jV a<=50000:=by omega)(hb:jV b<=50000:=by omega):aP Tryz.prog 81 #[kF a,kF b] (.bool (E5 a b)):=by
 have a1:=Nat.le_trans (kw a) ha;have a2:=Nat.le_trans (kz a) ha;have b1:=Nat.le_trans (kw b) hb;have b2:=Nat.le_trans (kz b) hb;refine oG 25 Tryz.func81 fun w=>?_;refine A2 ?_;refine Bp 20 (fun g0=>?_);refine Bp 20 (fun g1=>?_);refine A6 ?_;refine L9 0 9 ?_;refine A1 ?_;refine L9 1 0 ?_;refine Pc (dL a.t b.f) ?_;refine A8 ?_;refine Rs 13 ?_ ?_<;>intro hb0
 ·refine zT ?_;refine E0 ?_;exact eB (by unfold E5;first|(simp_all;done)|(simp_all;omega)|(simp_all;intros;omega))
 ·refine A3 ?_;refine Rs 16 ?_ ?_<;>intro hb1
  ·refine A3 ?_;refine Rs 19 ?_ ?_<;>intro hb2
   ·refine A9 ?_;refine E0 ?_;exact eB (by unfold E5;first|(simp_all;done)|(simp_all;omega)|(simp_all;intros;omega))
   ·refine A9 ?_;refine E0 ?_;exact eB (by unfold E5;first|(simp_all;done)|(simp_all;omega)|(simp_all;intros;omega))
  ·refine lX ?_;refine E0 ?_;exact eB (by unfold E5;first|(simp_all;done)|(simp_all;omega)|(simp_all;intros;omega))
def Io(a:List PU)(ab:Option Nat)(aN ac:Nat)(hac:a.length<=ac)(han:a.length<=1000)(b:List PU)(bb:Option Nat)(bN bc:Nat)(hbc:b.length<=bc)(hbn:b.length<=1000)(hsa:∀u∈a,jV u.i<=50000)(hsb:∀u∈b,jV u.i<=50000):dh Tryz.prog 90 [⟨ab,201,ah aQ a,aN,false⟩,⟨bb,201,ah aQ b,bN,false⟩] [az ab 0 a.length ac,az bb 0 b.length bc] (SR (iL Ce CY a b).length) SR.v (fun z=>[⟨z.b,151,ah PN (iL Ce CY a b),z.n,true⟩]):=by
 refine VZ 66 Tryz.func90 fun w hL0=>?_;refine A18 ?_;refine El (ι:={z:Nat×Nat×List B3×Option Nat×Nat×Nat // z.1<=a.length∧z.2.1<=b.length∧z.2.2.1++iL Ce CY (a.drop z.1) (b.drop z.2.1)=iL Ce CY a b∧z.2.2.1.length<=z.2.2.2.2.2∧z.2.2.2.2.2*52<=z.2.2.2.2.1∧z.2.2.1.length<=z.1+z.2.1}) (fun⟨⟨i,k,o,ob,oN,oc⟩,hi,hk,hI,h3,h4,hol⟩=>([(0,az ab 0 a.length ac),(1,az bb 0 b.length bc),(5,az ob 0 o.length oc),(6,bz i),(7,bz k)],[⟨ab,201,ah aQ a,aN,false⟩,⟨bb,201,ah aQ b,bN,false⟩,⟨ob,151,ah PN o,oN,true⟩],a.length+b.length-i-k)) ⟨⟨0,0,[],none,0,0⟩,Nat.zero_le _,Nat.zero_le _,rfl,Nat.le_refl _,by simp,Nat.le_refl _⟩ ?_ (hL:=(au [some 0,some 1,none] ⟨pR,pR,⟨rfl,rfl,rfl⟩,trivial⟩ rfl rfl));rintro⟨⟨i,k,o,ob,oN,oc⟩,hi,hk,hI,h3,h4,hol⟩;(try dsimp only);replace hi:i<=a.length:=hi;replace hk:k<=b.length:=hk;replace hI:o++iL Ce CY (a.drop i) (b.drop k)=iL Ce CY a b:=hI;replace h3:o.length<=oc:=h3;replace h4:oc*52<=oN:=h4;replace hol:o.length<=i+k:=hol;refine A8 ?_;refine Rs 14 ?_ ?_<;>intro hb1
 ·have hlt:i<a.length:=(by have:=of_decide_eq_true hb1;omega);obtain⟨x,hx⟩:∃x,a[i]? =some x:=⟨a[i],List.getElem?_eq_getElem hlt⟩;have hxs:=hsa x (List.mem_of_getElem? hx);refine A7 ?_;refine Cd ?_ ?_<;>intro hb2
  ·have hlk:k<b.length:=(by have:=of_decide_eq_true hb2;omega);obtain⟨y,hy⟩:∃y,b[k]? =some y:=⟨b[k],List.getElem?_eq_getElem hlk⟩;have hys:=hsb y (List.mem_of_getElem? hy)
   refine A5 ?_;refine fD 0 rfl (aC.ne (by decide) (by omega)) (fun hbs=>?_);obtain⟨ga,hga⟩:=Option.isSome_iff_exists.1 hbs;replace hga:ab=some ga:=hga;subst hga;refine fD 1 rfl (aC.ne (by decide) (by omega)) (fun hbs=>?_);obtain⟨gb,hgb⟩:=Option.isSome_iff_exists.1 hbs;replace hgb:bb=some gb:=hgb;subst hgb;refine Dq [3000000] [0,1,2,3,4,5,6,7,8,9,10,11,12,14,15,13,16] ?_;refine A2 ?_;refine ai 0 ((i)*36) kX jK rfl rfl rfl rfl rfl (by omega) (by omega) (aC.ne (by decide) (by omega)) (by show 0+Int.toNat _*36=_;omega) ?_;refine Fg ((i)*36) 0 ?_;refine aO (v:=kF x.i) 0 ((i)*36+0) _ rfl rfl rfl rfl iC (aC.sub hx 0 20 (by decide)) rfl (by decide) rfl ?_;refine A2 ?_;refine ai 1 ((k)*36) kX jK rfl rfl rfl rfl rfl (by omega) (by omega) (aC.ne (by decide) (by omega)) (by show 0+Int.toNat _*36=_;omega) ?_;refine Fg ((k)*36) 0 ?_;refine aO (v:=kF y.i) 1 ((k)*36+0) _ rfl rfl rfl rfl iC (aC.sub hy 0 20 (by decide)) rfl (by decide) rfl ?_;refine Pc (MH x.i y.i hxs hys) ?_;refine A2 ?_;refine Al 20 z61 (fun g0=>?_);refine Ss 3 ?_;refine A9 ?_;refine Cd ?_ ?_<;>intro hb3
   ·have hok:jQ (eU x.i y.i)=true:=hb3;refine qQ (l':=[⟨_,_,_,_,_,_⟩,⟨_,_,_,_,_,_⟩,⟨_,_,_,_,_,_⟩,⟨_,_,_,_,_,_⟩,⟨_,_,_,_,_,_⟩,⟨_,_,_,_,_,_⟩,⟨_,_,_,_,_,_⟩,⟨_,_,_,_,_,_⟩,⟨_,_,_,_,_,_⟩,⟨_,_,_,_,_,_⟩,⟨_,_,_,_,_,_⟩,⟨_,_,_,_,_,_⟩]) [2000000] [1,2,3,4,5,6,7,8,9,10,11,12] [0,13,14,15] mixed (by kernel_rfl) rfl ?_;refine yB 3 0 ?_;refine A2 ?_;refine ai 0 ((i)*36) kX jK rfl rfl rfl rfl rfl (by omega) (by omega) (aC.ne (by decide) (by omega)) (by show 0+Int.toNat _*36=_;omega) ?_;refine Fg ((i)*36) 20 ?_;refine aO (v:=xK x.f) 0 ((i)*36+20) _ rfl rfl rfl rfl Dx (aC.sub hx 20 16 (by decide)) rfl (by decide) rfl ?_;refine A2 ?_;refine ai 1 ((k)*36) kX jK rfl rfl rfl rfl rfl (by omega) (by omega) (aC.ne (by decide) (by omega)) (by show 0+Int.toNat _*36=_;omega) ?_;refine Fg ((k)*36) 20 ?_;refine aO (v:=xK y.f) 1 ((k)*36+20) _ rfl rfl rfl rfl Dx (aC.sub hy 20 16 (by decide)) rfl (by decide) rfl ?_;refine(Bu [(0,_),(1,_),(2,_)]) (qdr) ?_;refine A1 ?_;refine aJ [0,13] (by kernel_rfl) ⟨⟨_,rfl,?_⟩,⟨_,rfl,?_⟩,trivial⟩
    ·refine A2 ?_;refine aJ [13] (by kernel_rfl) ⟨⟨_,rfl,?_⟩,trivial⟩
     ·refine(Bl 52 [(0,_)]) (VT) (fun g1=>?_);refine A1 ?_;refine aJ [14] (by kernel_rfl) ⟨⟨_,rfl,?_⟩,trivial⟩
      ·refine Ns (s:=52) (len:=o.length) (n2:=1) 2 4 (fun r=>[_,_,⟨some r.g,151,ah PN o++PN (⟨eU x.i y.i,x.f,y.f⟩),r.n,true⟩,_,_]) qgN qbz rfl rfl rfl rfl rfl rfl rfl rfl rfl rfl rfl rfl (Gy.length o) h3 h4 rfl (Gy.one (⟨eU x.i y.i,x.f,y.f⟩)) (by omega) (fun _=>rfl) (fun r=>?_);refine A1 ?_;refine aJ [15] (by kernel_rfl) ⟨⟨_,rfl,?_⟩,trivial⟩
       ·refine A2 ?_;refine jU rfl ?_;refine A2 ?_;refine Di [] ?_;refine A2 ?_;refine ai 0 ((i)*36) kX jK rfl rfl rfl rfl rfl (by omega) (by omega) (aC.ne (by decide) (by omega)) (by show 0+Int.toNat _*36=_;omega) ?_;refine Fg ((i)*36) 0 ?_;refine aO (v:=kF x.i) 0 ((i)*36+0) _ rfl rfl rfl rfl iC (aC.sub hx 0 20 (by decide)) rfl (by decide) rfl ?_;refine A2 ?_;refine ai 1 ((k)*36) kX jK rfl rfl rfl rfl rfl (by omega) (by omega) (aC.ne (by decide) (by omega)) (by show 0+Int.toNat _*36=_;omega) ?_;refine Fg ((k)*36) 0 ?_;refine aO (v:=kF y.i) 1 ((k)*36+0) _ rfl rfl rfl rfl iC (aC.sub hy 0 20 (by decide)) rfl (by decide) rfl ?_;refine Pc (o6 x.i y.i hxs hys) ?_;refine A2 ?_;refine Cd ?_ ?_<;>intro hb4
        ·have hef:CY x y=true:=hb4;refine A2 ?_;refine Ar (((i+1:Nat):Int)) ?_;refine A4 ?_;exact Nl ⟨⟨i+1,k,o++[⟨eU x.i y.i,x.f,y.f⟩],some r.g,r.n,r.cap⟩,hlt,hk,by rw[<-hI,Ve hx hy hef,I8 hok,List.append_assoc],by rw[List.length_append];exact r.h,r.hn,by show(o++[_]).length<=i+1+k;rw[List.length_append];show o.length+1<=i+1+k;omega⟩ (hμ:=(by show a.length+b.length-(i+1)-k<a.length+b.length-i-k;omega)) (ht:=⟨rfl,rfl,(aB rfl (by rw[List.length_append];rfl)),rfl,rfl,trivial⟩) (hL:=(au [some 0,some 1,some 2] ⟨pR,pR,⟨_,rfl,aI (by rw[bH])⟩,trivial⟩ rfl rfl))
        ·have hef:CY x y=false:=hb4;refine A2 ?_;refine Ar (((k+1:Nat):Int)) ?_;refine A4 ?_;exact Nl ⟨⟨i,k+1,o++[⟨eU x.i y.i,x.f,y.f⟩],some r.g,r.n,r.cap⟩,hi,hlk,by rw[<-hI,Vf hx hy hef,I8 hok,List.append_assoc],by rw[List.length_append];exact r.h,r.hn,by show(o++[_]).length<=i+(k+1);rw[List.length_append];show o.length+1<=i+(k+1);omega⟩ (hμ:=(by show a.length+b.length-i-(k+1)<a.length+b.length-i-k;omega)) (ht:=⟨rfl,rfl,(aB rfl (by rw[List.length_append];rfl)),rfl,rfl,trivial⟩) (hL:=(au [some 0,some 1,some 2] ⟨pR,pR,⟨_,rfl,aI (by rw[bH])⟩,trivial⟩ rfl rfl))
    ·refine(Bl 52 [(0,_)]) (VT) (fun g1=>?_);refine A1 ?_;refine aJ [0] (by kernel_rfl) ⟨⟨_,rfl,?_⟩,trivial⟩
     ·refine A2 ?_;refine aJ [14] (by kernel_rfl) ⟨⟨_,rfl,?_⟩,trivial⟩
      ·refine Ns (s:=52) (len:=o.length) (n2:=1) 2 4 (fun r=>[_,_,⟨some r.g,151,ah PN o++PN (⟨eU x.i y.i,x.f,y.f⟩),r.n,true⟩,_,_]) qgN qbz rfl rfl rfl rfl rfl rfl rfl rfl rfl rfl rfl rfl (Gy.length o) h3 h4 rfl (Gy.one (⟨eU x.i y.i,x.f,y.f⟩)) (by omega) (fun _=>rfl) (fun r=>?_);refine A1 ?_;refine aJ [15] (by kernel_rfl) ⟨⟨_,rfl,?_⟩,trivial⟩
       ·refine A2 ?_;refine jU rfl ?_;refine A2 ?_;refine Di [] ?_;refine A2 ?_;refine ai 0 ((i)*36) kX jK rfl rfl rfl rfl rfl (by omega) (by omega) (aC.ne (by decide) (by omega)) (by show 0+Int.toNat _*36=_;omega) ?_;refine Fg ((i)*36) 0 ?_;refine aO (v:=kF x.i) 0 ((i)*36+0) _ rfl rfl rfl rfl iC (aC.sub hx 0 20 (by decide)) rfl (by decide) rfl ?_;refine A2 ?_;refine ai 1 ((k)*36) kX jK rfl rfl rfl rfl rfl (by omega) (by omega) (aC.ne (by decide) (by omega)) (by show 0+Int.toNat _*36=_;omega) ?_;refine Fg ((k)*36) 0 ?_;refine aO (v:=kF y.i) 1 ((k)*36+0) _ rfl rfl rfl rfl iC (aC.sub hy 0 20 (by decide)) rfl (by decide) rfl ?_;refine Pc (o6 x.i y.i hxs hys) ?_;refine A2 ?_;refine Cd ?_ ?_<;>intro hb4
        ·have hef:CY x y=true:=hb4;refine A2 ?_;refine Ar (((i+1:Nat):Int)) ?_;refine A4 ?_;exact Nl ⟨⟨i+1,k,o++[⟨eU x.i y.i,x.f,y.f⟩],some r.g,r.n,r.cap⟩,hlt,hk,by rw[<-hI,Ve hx hy hef,I8 hok,List.append_assoc],by rw[List.length_append];exact r.h,r.hn,by show(o++[_]).length<=i+1+k;rw[List.length_append];show o.length+1<=i+1+k;omega⟩ (hμ:=(by show a.length+b.length-(i+1)-k<a.length+b.length-i-k;omega)) (ht:=⟨rfl,rfl,(aB rfl (by rw[List.length_append];rfl)),rfl,rfl,trivial⟩) (hL:=(au [some 0,some 1,some 2] ⟨pR,pR,⟨_,rfl,aI (by rw[bH])⟩,trivial⟩ rfl rfl))
        ·have hef:CY x y=false:=hb4;refine A2 ?_;refine Ar (((k+1:Nat):Int)) ?_;refine A4 ?_;exact Nl ⟨⟨i,k+1,o++[⟨eU x.i y.i,x.f,y.f⟩],some r.g,r.n,r.cap⟩,hi,hlk,by rw[<-hI,Vf hx hy hef,I8 hok,List.append_assoc],by rw[List.length_append];exact r.h,r.hn,by show(o++[_]).length<=i+(k+1);rw[List.length_append];show o.length+1<=i+(k+1);omega⟩ (hμ:=(by show a.length+b.length-i-(k+1)<a.length+b.length-i-k;omega)) (ht:=⟨rfl,rfl,(aB rfl (by rw[List.length_append];rfl)),rfl,rfl,trivial⟩) (hL:=(au [some 0,some 1,some 2] ⟨pR,pR,⟨_,rfl,aI (by rw[bH])⟩,trivial⟩ rfl rfl))
   ·have hok:jQ (eU x.i y.i)=false:=hb3;refine A3 ?_;refine Di [] ?_;refine A2 ?_;refine ai 0 ((i)*36) kX jK rfl rfl rfl rfl rfl (by omega) (by omega) (aC.ne (by decide) (by omega)) (by show 0+Int.toNat _*36=_;omega) ?_;refine Fg ((i)*36) 0 ?_;refine aO (v:=kF x.i) 0 ((i)*36+0) _ rfl rfl rfl rfl iC (aC.sub hx 0 20 (by decide)) rfl (by decide) rfl ?_;refine A2 ?_;refine ai 1 ((k)*36) kX jK rfl rfl rfl rfl rfl (by omega) (by omega) (aC.ne (by decide) (by omega)) (by show 0+Int.toNat _*36=_;omega) ?_;refine Fg ((k)*36) 0 ?_;refine aO (v:=kF y.i) 1 ((k)*36+0) _ rfl rfl rfl rfl iC (aC.sub hy 0 20 (by decide)) rfl (by decide) rfl ?_;refine Pc (o6 x.i y.i hxs hys) ?_;refine A2 ?_;refine Cd ?_ ?_<;>intro hb4
    ·have hef:CY x y=true:=hb4;refine A2 ?_;refine Ar (((i+1:Nat):Int)) ?_;refine A4 ?_;exact Nl ⟨⟨i+1,k,o,ob,oN,oc⟩,hlt,hk,by rw[<-hI,Ve hx hy hef,qbA hok,List.nil_append],h3,h4,by show o.length<=i+1+k;omega⟩ (hμ:=(by show a.length+b.length-(i+1)-k<a.length+b.length-i-k;omega)) (hL:=eG.auto)
    ·have hef:CY x y=false:=hb4;refine A2 ?_;refine Ar (((k+1:Nat):Int)) ?_;refine A4 ?_;exact Nl ⟨⟨i,k+1,o,ob,oN,oc⟩,hi,hlk,by rw[<-hI,Vf hx hy hef,qbA hok,List.nil_append],h3,h4,by show o.length<=i+(k+1);omega⟩ (hμ:=(by show a.length+b.length-i-(k+1)<a.length+b.length-i-k;omega)) (hL:=eG.auto)
  ·have hge:b.length<=k:=(by have:=of_decide_eq_false hb2;omega);obtain rfl:o=iL Ce CY a b:=by rw[<-hI,Tu (.inr hge),List.append_nil]
   refine lX ?_;refine aH rfl (aj rfl) (fun w hL=>⟨⟨ob,oN,oc,h3⟩,?_,hL.pk [some 2]⟩);exact rfl
 ·have hge:a.length<=i:=(by have:=of_decide_eq_false hb1;omega);obtain rfl:o=iL Ce CY a b:=by rw[<-hI,Tu (.inl hge),List.append_nil]
  refine A20 ?_;refine aH rfl (aj rfl) (fun w hL=>⟨⟨ob,oN,oc,h3⟩,?_,hL.pk [some 2]⟩);exact rfl
def Qc(l:List oZ)(lb:Option Nat)(lN lc:Nat)(hlc:l.length<=lc)(hln:l.length<=1000)(hsz:∀p∈l,gY p.a<=50000∧gY p.b<=50000):dh Tryz.prog 47 [⟨lb,63,ah bg l,lN,false⟩] [az lb 0 l.length lc] Unit (fun _=>RV (CO l)) (fun _=>[]):=by
 refine Md 39 Tryz.func47 fun w hL0=>?_;refine A2 ?_;refine Al 9 O5 (fun g0=>?_);refine A4 ?_;refine(Bu []) (qgF) ?_;refine aT 5 (RV (rl 0)) rfl WJ.symm ?_;refine Al 9 O5 (fun g1=>?_);refine Ss 2 ?_;refine A9 ?_;refine El (ι:={z:Nat×Rl // z.1<=l.length∧z.2=(l.take z.1).foldl wM (rl 0)}) (fun⟨⟨i,m⟩,hi,hI⟩=>([(0,az lb 0 l.length lc),(2,dV g0),(3,dV g1),(4,bz i)],[⟨lb,63,ah bg l,lN,false⟩,⟨some g0,38,zRc,9,true⟩,⟨some g1,38,iD m,9,true⟩],l.length-i)) ⟨⟨0,rl 0⟩,Nat.zero_le _,rfl⟩ ?_ (hL:=eG.auto);rintro⟨⟨i,m⟩,hi,hI⟩;(try dsimp only);replace hi:i<=l.length:=hi;replace hI:m=(l.take i).foldl wM (rl 0):=hI
 have hms:gY m<=50000:=(by rw[hI];exact qe0 fun p hp=>hsz p (List.mem_of_mem_take hp));refine A9 ?_;refine Cd ?_ ?_<;>intro hb1
 ·have hlt:i<l.length:=(by have:=of_decide_eq_true hb1;omega);obtain⟨x,hx⟩:∃x,l[i]? =some x:=⟨l[i],List.getElem?_eq_getElem hlt⟩;refine fD 0 rfl (bM.ne (by decide) (by omega)) (fun hbs=>?_);obtain⟨gl,hgl⟩:=Option.isSome_iff_exists.1 hbs;replace hgl:lb=some gl:=hgl;subst hgl;have hxs:=hsz x (List.mem_of_getElem? hx);refine A6 ?_;refine Di [] ?_;refine A2 ?_;refine ai 0 ((i)*38) u32 jJ rfl rfl rfl rfl rfl (by omega) (by omega) (bM.ne (by decide) (by omega)) (by show 0+Int.toNat _*38=_;omega) ?_;refine Fg ((i)*38) 20 ?_;refine aO (v:=RV x.a) 0 ((i)*38+20) _ rfl rfl rfl rfl iK (bM.sub hx 20 9 (by decide)) rfl (by decide) rfl ?_;refine L9 2 0 ?_;refine Pc (gQ x.a m hxs.1 hms) ?_;refine A3 ?_;refine Cd ?_ ?_<;>intro hb2
  ·have hm1:gX m x.a=x.a:=P9 (of_decide_eq_true hb2);refine A3 ?_;refine ai 0 ((i)*38) u32 jJ rfl rfl rfl rfl rfl (by omega) (by omega) (bM.ne (by decide) (by omega)) (by show 0+Int.toNat _*38=_;omega) ?_;refine Fg ((i)*38) 20 ?_;refine aO (v:=RV x.a) 0 ((i)*38+20) _ rfl rfl rfl rfl iK (bM.sub hx 20 9 (by decide)) rfl (by decide) rfl ?_;refine Ss 2 ?_;refine A3 ?_;refine Di [] ?_;refine A2 ?_;refine ai 0 ((i)*38) u32 jJ rfl rfl rfl rfl rfl (by omega) (by omega) (bM.ne (by decide) (by omega)) (by show 0+Int.toNat _*38=_;omega) ?_;refine Fg ((i)*38) 29 ?_;refine aO (v:=RV x.b) 0 ((i)*38+29) _ rfl rfl rfl rfl iK (bM.sub hx 29 9 (by decide)) rfl (by decide) rfl ?_;refine L9 2 0 ?_;refine Pc (gQ x.b x.a hxs.2 hxs.1) ?_;refine A3 ?_;refine Cd ?_ ?_<;>intro hb3
   ·have hm2:gX (gX m x.a) x.b=x.b:=by rw[hm1];exact P9 (of_decide_eq_true hb3)
    refine A3 ?_;refine ai 0 ((i)*38) u32 jJ rfl rfl rfl rfl rfl (by omega) (by omega) (bM.ne (by decide) (by omega)) (by show 0+Int.toNat _*38=_;omega) ?_;refine Fg ((i)*38) 29 ?_;refine aO (v:=RV x.b) 0 ((i)*38+29) _ rfl rfl rfl rfl iK (bM.sub hx 29 9 (by decide)) rfl (by decide) rfl ?_;refine Ss 2 ?_;refine A5 ?_;refine Ar (((i+1:Nat):Int)) ?_;refine A3 ?_;exact Nl ⟨⟨i+1,gX (gX m x.a) x.b⟩,hlt,by show _=(l.take (i+1)).foldl wM (rl 0);rw[<-dD hx,List.foldl_append,<-hI];rfl⟩ (hμ:=(by show l.length-(i+1)<l.length-i;omega)) (hL:=(au [some 0,some 1,some 2] ⟨pR,pR,⟨_,rfl,aI (by rw[hm2]<;>rfl)⟩,trivial⟩ rfl rfl))
   ·have hm2:gX (gX m x.a) x.b=x.a:=by rw[hm1];exact Qb (of_decide_eq_false hb3)
    refine A5 ?_;refine Ar (((i+1:Nat):Int)) ?_;refine A3 ?_;exact Nl ⟨⟨i+1,gX (gX m x.a) x.b⟩,hlt,by show _=(l.take (i+1)).foldl wM (rl 0);rw[<-dD hx,List.foldl_append,<-hI];rfl⟩ (hμ:=(by show l.length-(i+1)<l.length-i;omega)) (hL:=(au [some 0,some 1,some 2] ⟨pR,pR,⟨_,rfl,aI (by rw[hm2]<;>rfl)⟩,trivial⟩ rfl rfl))
  ·have hm1:gX m x.a=m:=Qb (of_decide_eq_false hb2);refine A3 ?_;refine Di [] ?_;refine A2 ?_;refine ai 0 ((i)*38) u32 jJ rfl rfl rfl rfl rfl (by omega) (by omega) (bM.ne (by decide) (by omega)) (by show 0+Int.toNat _*38=_;omega) ?_;refine Fg ((i)*38) 29 ?_;refine aO (v:=RV x.b) 0 ((i)*38+29) _ rfl rfl rfl rfl iK (bM.sub hx 29 9 (by decide)) rfl (by decide) rfl ?_;refine L9 2 0 ?_;refine Pc (gQ x.b m hxs.2 hms) ?_;refine A3 ?_;refine Cd ?_ ?_<;>intro hb3
   ·have hm2:gX (gX m x.a) x.b=x.b:=by rw[hm1];exact P9 (of_decide_eq_true hb3)
    refine A3 ?_;refine ai 0 ((i)*38) u32 jJ rfl rfl rfl rfl rfl (by omega) (by omega) (bM.ne (by decide) (by omega)) (by show 0+Int.toNat _*38=_;omega) ?_;refine Fg ((i)*38) 29 ?_;refine aO (v:=RV x.b) 0 ((i)*38+29) _ rfl rfl rfl rfl iK (bM.sub hx 29 9 (by decide)) rfl (by decide) rfl ?_;refine Ss 2 ?_;refine A5 ?_;refine Ar (((i+1:Nat):Int)) ?_;refine A3 ?_;exact Nl ⟨⟨i+1,gX (gX m x.a) x.b⟩,hlt,by show _=(l.take (i+1)).foldl wM (rl 0);rw[<-dD hx,List.foldl_append,<-hI];rfl⟩ (hμ:=(by show l.length-(i+1)<l.length-i;omega)) (hL:=(au [some 0,some 1,some 2] ⟨pR,pR,⟨_,rfl,aI (by rw[hm2]<;>rfl)⟩,trivial⟩ rfl rfl))
   ·have hm2:gX (gX m x.a) x.b=m:=by rw[hm1];exact Qb (of_decide_eq_false hb3)
    refine A5 ?_;refine Ar (((i+1:Nat):Int)) ?_;refine A3 ?_;exact Nl ⟨⟨i+1,gX (gX m x.a) x.b⟩,hlt,by show _=(l.take (i+1)).foldl wM (rl 0);rw[<-dD hx,List.foldl_append,<-hI];rfl⟩ (hμ:=(by show l.length-(i+1)<l.length-i;omega)) (hL:=(au [some 0,some 1,some 2] ⟨pR,pR,⟨_,rfl,aI (by rw[hm2]<;>rfl)⟩,trivial⟩ rfl rfl))
 ·have hge:i=l.length:=(by have:=of_decide_eq_false hb1;omega);subst hge;obtain rfl:m=CO l:=by rw[hI,List.take_length];rfl
  refine A7 ?_;refine L9 2 0 ?_;refine Ss 1 ?_;refine A3 ?_;refine Ec9 1 fun w hL=>⟨(),?_,hL.pk []⟩;exact rfl
def tJ(a b c d:Rat)(ha:dw a<=40000:=by omega)(hb:dw b<=40000:=by omega)(hc:dw c<=40000:=by omega)(hd:dw d<=40000:=by omega):aP Tryz.prog 93 #[Q a,Q b,Q c,Q d] (rM (Y3 (a-c) (b-d))):=by
 have l1:=bJ a c;have l2:=bJ b d;have z0:=wP;have hs:uB ⟨a-c,b-d,0⟩<=100000:=Gx (by show dw (a-c)<=_;omega) (by show dw (b-d)<=_;omega) (by show dw 0<=_;omega);refine pB4 26 Tryz.func93 fun w=>?_;refine A2 ?_;refine Bp 4 (fun g0=>?_);refine Bp 4 (fun g1=>?_);refine Bp 4 (fun g2=>?_);refine Bp 4 (fun g3=>?_);refine Al 12 G6 (fun g4=>?_);refine A3 ?_;refine Dq [3000000] [0,1,3,4,2,5,6,7,8] ?_;refine L4 0 0 ?_;refine L4 2 0 ?_;refine L4 1 0 ?_;refine L4 3 0 ?_;refine Pc (fZ a c) ?_;refine Pc (fZ b d) ?_;refine Pc (jM (a-c) (b-d)) ?_;refine Al 12 G6 (fun g5=>?_);refine Ss 5 ?_;refine A4 ?_;refine ut 5 0 ?_;refine ut 5 0 ?_;refine Pc (Ik ⟨a-c,b-d,0⟩ ⟨a-c,b-d,0⟩ rfl rfl hs hs) ?_;refine A3 ?_;refine Al 12 G6 (fun g6=>?_);refine Ss 6 ?_;refine A5 ?_;refine ut 6 0 ?_;refine Ss 4 ?_;refine A3 ?_;refine JR 4 ?_;exact rfl
def jO(i:Iv)(f:Qd)(h1:0<=i.f.r:=by omega)(h2:0<=i.t.r:=by omega)(hi:jV i<=10000:=by omega)(hf:uB f<=10000:=by omega):aP Tryz.prog 42 #[kF i,rM f] (Ie (aZ (i,f))):=by
 have i1:=Nat.le_trans (kw i) hi;have i2:=Nat.le_trans (kz i) hi;refine oG 15 Tryz.func42 fun w=>?_;refine A2 ?_;refine Bp 20 (fun g0=>?_);refine Bp 12 (fun g1=>?_);refine Al 38 z63 (fun g2=>?_);refine A3 ?_;refine Dp [] [0,1,2,3,5,6,7,4,8,9,10] ?_;refine yB 0 0 ?_;refine ut 1 0 ?_;refine A1 ?_;refine L9 0 0 ?_;refine ut 1 0 ?_;refine A1 ?_;refine L9 0 9 ?_;refine Pc (vz f i.f h1 hf) ?_;refine Pc (vz f i.t h2 hf) ?_;refine(Bu [(0,_),(1,_),(2,_)]) (Us) ?_;refine Ss 2 ?_;refine A3 ?_;refine qkV 2 ?_;exact rfl
def qO(l:List oZ)(lb:Option Nat)(lN lc:Nat)(hlc:l.length<=lc)(hln:l.length<=1000)(hsz:∀p∈l,gY p.a<=50000∧gY p.b<=50000)(h0:0<l.length:=by omega):dh Tryz.prog 43 [⟨lb,63,ah bg l,lN,false⟩] [az lb 0 l.length lc] Unit (fun _=>RV (fO l)) (fun _=>[]):=by
 refine Md 25 Tryz.func43 fun w hL0=>?_;refine A2 ?_;refine Al 9 O5 (fun g0=>?_);refine A3 ?_;have hx0:l[0]? =some (l[0]'h0):=List.getElem?_eq_getElem h0;refine fD 0 rfl (bM.ne (by decide) h0) (fun hbs=>?_);obtain⟨gl,hgl⟩:=Option.isSome_iff_exists.1 hbs;replace hgl:lb=some gl:=hgl;subst hgl;refine A2 ?_;refine ai 0 ((0)*38) u32 jJ rfl rfl rfl rfl rfl (by omega) (by omega) (bM.ne (by decide) (by omega)) (by show 0+Int.toNat _*38=_;omega) ?_;refine Fg ((0)*38) 20 ?_;refine aO (v:=RV (l[0]'h0).a) 0 ((0)*38+20) _ rfl rfl rfl rfl iK (bM.sub hx0 20 9 (by decide)) rfl (by decide) rfl ?_;refine Al 9 O5 (fun g1=>?_);refine Ss 2 ?_;refine oO ?_;refine El (ι:={z:Nat×Rl // z.1<=l.length∧z.2=(l.take z.1).foldl (fun o x=>gX o (gX x.a x.b)) (l[0]'h0).a}) (fun⟨⟨i,m⟩,hi,hI⟩=>([(2,dV g0),(3,dV g1),(10,az (some gl) 0 l.length lc),(11,bz (l.length)),(12,bz i)],[⟨some gl,63,ah bg l,lN,false⟩,⟨some g0,38,zRc,9,true⟩,⟨some g1,38,iD m,9,true⟩],l.length-i)) ⟨⟨0,(l[0]'h0).a⟩,Nat.zero_le _,rfl⟩ ?_ (hL:=eG.auto);rintro⟨⟨i,m⟩,hi,hI⟩;(try dsimp only);replace hi:i<=l.length:=hi;replace hI:m=(l.take i).foldl (fun o x=>gX o (gX x.a x.b)) (l[0]'h0).a:=hI
 have hms:gY m<=50000:=(by rw[hI];exact qe1 (fun p hp=>hsz p (List.mem_of_mem_take hp)) (hsz _ (List.getElem_mem h0)).1);refine A6 ?_;refine Cd ?_ ?_<;>intro hb1
 ·have hlt:i<l.length:=(by have:=of_decide_eq_true hb1;omega);obtain⟨x,hx⟩:∃x,l[i]? =some x:=⟨l[i],List.getElem?_eq_getElem hlt⟩;have hxs:=hsz x (List.mem_of_getElem? hx);refine A6 ?_;refine ai 0 ((i)*38) u32 jJ rfl rfl rfl rfl rfl (by omega) (by omega) (bM.ne (by decide) (by omega)) (by show 0+Int.toNat _*38=_;omega) ?_;refine aO (v:=Ie x) 0 ((i)*38) _ rfl rfl rfl rfl jJ (bM.sub hx 0 38 (by decide)) rfl (by decide) rfl ?_;refine Al 38 z63 (fun g2=>?_);refine Ss 3 ?_;refine A2 ?_;refine Di [] ?_;refine L9 2 0 ?_;refine A1 ?_;refine L9 3 20 ?_;refine A1 ?_;refine L9 3 29 ?_;refine Pc (KH x.a x.b hxs.1 hxs.2) ?_;refine Pc (KH m (gX x.a x.b) hms (Fp hxs.1 hxs.2)) ?_;refine Ss 2 ?_;refine A4 ?_;refine Ar (((i+1:Nat):Int)) ?_;refine A3 ?_;exact Nl ⟨⟨i+1,gX m (gX x.a x.b)⟩,hlt,by show _=(l.take (i+1)).foldl (fun o x=>gX o (gX x.a x.b)) _;rw[<-dD hx,List.foldl_append,<-hI];rfl⟩ (hμ:=(by show l.length-(i+1)<l.length-i;omega)) (hL:=eG.auto)
 ·have hge:i=l.length:=(by have:=of_decide_eq_false hb1;omega);subst hge;obtain rfl:m=fO l:=by rw[hI,List.take_length];exact Vd h0
  refine A7 ?_;refine L9 2 0 ?_;refine Ss 1 ?_;refine A3 ?_;refine Ec9 1 fun w hL=>⟨(),?_,hL.pk []⟩;exact rfl
end Go.Proofs.YtaffcpfhedadhaaGreatDoor
namespace Go.Via
abbrev YK(l:List PU):Prop:=Ends iR l
def qhJ{a b:List PU}(ha:Ends iR a)(hb:Ends iR b):∀z∈iL Ce CY a b,iR z.i.f∧iR z.i.t:=fun z hz=>by
 obtain⟨x,hx,y,hy,e⟩:=Fq hz;unfold Ce jf at e
 split at e
 ·simp at e;subst e;exact Gt (ha x hx) (hb y hy)
 ·simp at e
def Oo{a b:List PU}(ha:Ends iR a)(hb:Ends iR b):∀z∈ay a b,iR z.1.f∧iR z.1.t:=fun z hz=>by
 rw[<-Fz] at hz;obtain⟨w,hw,rfl⟩:=List.mem_map.1 hz;exact qhJ ha hb w hw
theorem GG{x:Rl}(h:iR x):x.r=0:=by obtain⟨z,rfl⟩:=h;rfl
def Oq{a b:List PU}(ha:Hw a)(hb:Hw b):∀p∈(ay a b).map aZ,gY p.a<=50000∧gY p.b<=50000:=fun p hp=>by
 obtain⟨z,hz,rfl⟩:=List.mem_map.1 hp;obtain⟨h1,h2⟩:=yu ha hb z hz;have l1:=Nat.le_trans (kw z.1) h1;have l2:=Nat.le_trans (kz z.1) h1;exact⟨Nat.le_trans (U8 h2 l1) (by omega),Nat.le_trans (U8 h2 l2) (by omega)⟩
def CfV(s:Value)(m:Rl):Value:= .agg #[s,.bool (decide (m.p.num<0)),.string (bQ m.p.num.natAbs),.bool false,.string (dm m.p),.bool (decide (m.r.num<0)),.string (bQ m.r.num.natAbs),.bool false,.string (dm m.r),.bool m.n]
def jS(s:Value)(m:Rl):List Value:=[s,.bool (decide (m.p.num<0)),.string (bQ m.p.num.natAbs),.bool false,.string (dm m.p),.bool (decide (m.r.num<0)),.string (bQ m.r.num.natAbs),.bool false,.string (dm m.r),.bool m.n]
def Qe:List Value:=[.slice none 0 0,aX,aY,aX,aY,aX,aY,aX,aY,.bool false]
theorem qbB(s:Value):jS s (rl 0)=s::zRc:=congrArg (fun l=>s::l) qby
end Go.Via
namespace Go.Via
open Go
structure FB(a b:List PU):Prop where
 sa:qH jE a
 sb:qH jE b
 ea:YK a
 eb:YK b
def pK(a b:List PU)(i:Nat):List (Iv×Qd):=(a.take i).flatMap fun x=>b.filterMap (uz x)
def AP(x:PU)(b:List PU)(k:Nat):List (Iv×Qd):=(b.take k).filterMap (uz x)
theorem qe2{a b:List PU}{i:Nat}{x:PU}(hx:a[i]? =some x):pK a b (i+1)=pK a b i++AP x b b.length:=by
 unfold pK AP;rw[<-dD hx,List.flatMap_append,List.take_length];simp
theorem qe3{a b:List PU}{i:Nat}{x:PU}:pK a b i++AP x b 0=pK a b i:=by unfold AP;simp
theorem qbC{x y:PU}{b:List PU}{k:Nat}(hy:b[k]? =some y):AP x b (k+1)=AP x b k++(uz x y).toList:=by
 unfold AP;rw[<-dD hy,List.filterMap_append];exact congrArg (_++ ·) (by rw[List.filterMap_cons];cases uz x y<;>rfl)
theorem YL{a b:List PU}(h:FB a b):pK a b a.length=ay a b:=by
 rw[lJ qj h.sa h.sb h.ea h.eb];unfold pK flatK;rw[List.take_length]
def I9{a b:List PU}{i k:Nat}{x y:PU}{z:Iv×Qd}(hx:a[i]? =some x)(hy:b[k]? =some y)(hz:uz x y=some z):∃r,flatK uz a b=pK a b i++AP x b k++z::r:=by
 have ha:a=a.take i++x::a.drop (i+1):=by
  obtain⟨h1,h2⟩:=List.getElem?_eq_some_iff.1 hx;rw[<-h2,List.getElem_cons_drop,List.take_append_drop]
 have hb:b=b.take k++y::b.drop (k+1):=by
  obtain⟨h1,h2⟩:=List.getElem?_eq_some_iff.1 hy;rw[<-h2,List.getElem_cons_drop,List.take_append_drop]
 refine⟨(b.drop (k+1)).filterMap (uz x)++(a.drop (i+1)).flatMap fun x=>b.filterMap (uz x),?_⟩
 have e:b.filterMap (uz x)=AP x b k++z::(b.drop (k+1)).filterMap (uz x):=by
  conv=>lhs;rw[hb]
  rw[List.filterMap_append,List.filterMap_cons_some hz];rfl
 unfold flatK pK
 conv=>lhs;rw[ha]
 rw[List.flatMap_append,List.flatMap_cons,e];simp
def qe4{a b:List PU}(h:FB a b){i k:Nat}{x y:PU}{z:Iv×Qd}(hx:a[i]? =some x)(hy:b[k]? =some y)(hz:uz x y=some z):z∈ay a b:=by
 obtain⟨r,e⟩:=I9 hx hy hz;rw[lJ qj h.sa h.sb h.ea h.eb,e];simp
def qbD{a b:List PU}(h:FB a b){i k:Nat}{x y:PU}{z:Iv×Qd}(hx:a[i]? =some x)(hy:b[k]? =some y)(hz:uz x y=some z){p:Iv×Qd}(hp:p∈pK a b i++AP x b k):¬bW z.1.f p.1.f<0:=by
 obtain⟨r,e⟩:=I9 hx hy hz;have hs:=(yf qj h.sb h.eb h.sa h.ea).1;rw[e] at hs;have hk:=(List.pairwise_append.1 hs).2.2 p hp z (List.mem_cons_self ..);have hm:p∈flatK uz a b:=by rw[e];exact List.mem_append_left _ hp
 have hm2:z∈flatK uz a b:=(by rw[e];simp);have h1:=IZ qj h.ea h.eb p hm;have h2:=IZ qj h.ea h.eb z hm2;rw[qj.lt h2.1.1 h1.1.1];have q1:=Ap jE p.1.b;have q2:=Ap jE z.1.b;have e1:p.1.b.1=p.1.f:=rfl;have e2:z.1.b.1=z.1.f:=rfl;have o1:=h1.2;rw[e1] at q1;rw[e2] at q2;omega
def qbE{a b:List PU}(h:FB a b){i k:Nat}{x y:PU}{z:Iv×Qd}(hx:a[i]? =some x)(hy:b[k]? =some y)(hz:uz x y=some z){p:Iv×Qd}(hp:p∈pK a b i++AP x b k):p∈ay a b:=by
 obtain⟨r,e⟩:=I9 hx hy hz;rw[lJ qj h.sa h.sb h.ea h.eb,e];exact List.mem_append_left _ hp
def qbF{a b:List PU}(h:FB a b){i k:Nat}{x y:PU}{z:Iv×Qd}(hx:a[i]? =some x)(hy:b[k]? =some y)(hz:uz x y=some z):(pK a b i++AP x b k).length<a.length+b.length:=by
 obtain⟨r,e⟩:=I9 hx hy hz;have:=uC a b;rw[lJ qj h.sa h.sb h.ea h.eb,e] at this;simp at this ⊢;omega
def qhK{x y:PU}{m:Iv}(h:jf x.i y.i=some m):uz x y=some (m,d2 x.f y.f):=by unfold uz;rw[h];rfl
theorem qhL{x y:PU}(h:jf x.i y.i=none):uz x y=none:=by unfold uz;rw[h];rfl
def okZ{x:Rl}(h:iR x):x.ok:=by obtain⟨z,rfl⟩:=h;exact qfO _
theorem YM{x y:PU}(hx:iR x.i.f∧iR x.i.t)(hy:iR y.i.f∧iR y.i.t):kY (vH 2) [x.i] [y.i]=(jf x.i y.i).toList:=by
 rw[qhH];exact qaR qj hx hy
end Go.Via
namespace Go.Proofs.YtaffcpfhedadhaaGreatDoor
open Go Go.RowKit Go.Via
def qju(x y:PU)(ex:iR x.i.f∧iR x.i.t)(ey:iR y.i.f∧iR y.i.t)(hx:jV x.i<=50000)(hy:jV y.i<=50000)(g g' n n':Nat):dh Tryz.prog 44 [⟨some g,61,bP x.i,n,false⟩,⟨some g',61,bP y.i,n',false⟩] [.int .i64 2,az (some g) 0 1 1,az (some g') 0 1 1] (SR (jf x.i y.i).toList.length) SR.v (fun z=>[⟨z.b,61,ah bP (jf x.i y.i).toList,z.n,true⟩]):=by
 have h:=Il 2 [x.i] (some g) n 1 (Nat.le_refl _) (by show 1<=1000;omega) [y.i] (some g') n' 1 (Nat.le_refl _) (by show 1<=1000;omega) (by simpa using hx) (by simpa using hy);rw[YM ex ey] at h;have e:∀i:Iv,ah bP [i]=bP i:=fun i=>by simp[ah]
 rw[e,e] at h;exact h
end Go.Proofs.YtaffcpfhedadhaaGreatDoor
namespace Go.Via
open Go
def YN(out:List Iv)(t:Rl)(tp:Bool):(Ol out t tp).length<=out.length:=by
 rcases List.eq_nil_or_concat out with e|⟨o,i,e⟩
 ·subst e;unfold Ol;simp
 ·subst e;rw[List.concat_eq_append,vG];simp
def Ot(out:List Iv)(og h:Bool)(t:Rl):(kM out og h t).length<=out.length+1:=by
 unfold kM;have h1:=YN out t (!h)
 repeat' split
 all_goals first|(simp;done)|omega|(simp;omega)
def Tv{here:Rl->Bool}{btw:Rl->Rl->Bool}:∀{ts:List Rl} {out:List Iv} {og:Bool},(qI here btw ts out og).length<=out.length+2*ts.length
 |[],out,og=>by unfold qI;simp
 |[t],out,og=>by unfold qI;have:=Ot out og (here t) t;simp;omega
 |t::u::ts,out,og=>by
  unfold qI;have h1:=Ot out og (here t) t;have h2:=Tv (here:=here) (btw:=btw) (ts:=u::ts) (out:=if btw t u=true∧here t=false then kM out og (here t) t++[⟨t,u,true,true⟩] else kM out og (here t) t) (og:=btw t u)
  refine Nat.le_trans h2 ?_
  split
  ·simp only[List.length_append,List.length_cons,List.length_nil];omega
  ·simp only[List.length_cons];omega
def Ou(op:Bool->Bool->Bool)(a b:List Iv):(kY op a b).length<=4*(a.length+b.length):=by
 rw[P5];have h:=Tv (here:=fun t=>op (oh a t) (oh b t)) (btw:=fun t u=>op (oq a t u) (oq b t u)) (ts:=fG (bV (a++b))) (out:=[]) (og:=false)
 have h2:=PZ (bV (a++b));rw[vI,List.length_append] at h2;simp only[List.length_nil] at h;omega
def qbG{S S':Rl->Prop}{ρ:Rl->Int}(T:gU S ρ)(h:∀x,S' x->S x):gU S' ρ:=⟨fun a b=>T.lt (h _ a) (h _ b),fun a b=>T.gt (h _ a) (h _ b),fun a b=>T.inj (h _ a) (h _ b)⟩
def SmE(n:Nat)(x:Rl):Prop:=iR x∧gY x<=n
def Ov(n:Nat):gU (SmE n) jE:=qbG qj fun _ h=>h.1
def yx(c:List oZ):Nat->Option Iv
 |0=>none
 |n+1=>(c[n]?).map (·.i)
theorem WW{c:List oZ}{i:Nat}{p:oZ}(h:c[i]? =some p):yx c (i+1)=some p.i:=by show(c[i]?).map (·.i)=_;rw[h];rfl
theorem WX{c:List oZ}{i:Nat}{p:oZ}(h:c[i]? =some p):c.drop i=p::c.drop (i+1):=by
 obtain⟨h1,h2⟩:=List.getElem?_eq_some_iff.1 h;rw[<-h2,List.getElem_cons_drop]
def qjv{f:Option Iv->oZ->Int}{c:List oZ}{i:Nat}{p:oZ}(h:c[i]? =some p)(hL:kZ f none c=kZ f (yx c i) (c.drop i))(h0:f (yx c i) p=0):kZ f none c=kZ f (yx c (i+1)) (c.drop (i+1)):=by
 rw[hL,WX h,WW h]
 conv=>lhs;unfold kZ
 rw[if_pos h0]
def qhM{f:Option Iv->oZ->Int}{c:List oZ}{i:Nat}{p:oZ}{e:Int}(h:c[i]? =some p)(hL:kZ f none c=kZ f (yx c i) (c.drop i))(he:f (yx c i) p=e)(h0:e≠0):kZ f none c=e:=by
 rw[hL,WX h]
 conv=>lhs;unfold kZ
 rw[if_neg (by rw[he];exact h0),he]
def qhN{f:Option Iv->oZ->Int}{c:List oZ}(hL:kZ f none c=kZ f (yx c c.length) (c.drop c.length)):kZ f none c=0:=by
 rw[hL,List.drop_length];cases yx c c.length<;>rfl
end Go.Via
namespace Go.Proofs.YtaffcpfhedadhaaGreatDoor
open Go Go.RowKit Go.Via
def o7(a:List PU)(ab:Option Nat)(aN ac:Nat)(hac:a.length<=ac)(han:a.length<=1000)(b:List PU)(bb:Option Nat)(bN bc:Nat)(hbc:b.length<=bc)(hbn:b.length<=1000)(hsa:Hw a)(hsb:Hw b):dh Tryz.prog 41 [⟨ab,100,ah aQ a,aN,false⟩,⟨bb,100,ah aQ b,bN,false⟩] [az ab 0 a.length ac,az bb 0 b.length bc] (SR (ay a b).length) SR.v (fun z=>[⟨z.b,93,ah DR (ay a b),z.n,true⟩]):=by
 refine⟨by kernel_rfl,fun w hL0=>?_⟩;have hrl:=Fv (mt:=Ce) (ef:=CY) a b;refine YZ 55 Tryz.func41 hL0 ?_;refine D6 ?_;refine(Sc [0]) (vJ a ab aN ac hac han) (fun za=>?_);obtain⟨zab,zaN,zac,hzac⟩:=za;refine A1 ?_;refine(Sc [1]) (vJ b bb bN bc hbc hbn) (fun zb=>?_);obtain⟨zbb,zbN,zbc,hzbc⟩:=zb;refine(Sc [2,3]) (Io a zab zaN zac hzac han b zbb zbN zbc hzbc hbn hsa.v hsb.v) (fun zr=>?_);obtain⟨rb,rN,rc,hrc⟩:=zr;refine A5 ?_;refine El (ι:={z:Nat×List (Iv×Qd)×Option Nat×Nat×Nat // z.1<=(iL Ce CY a b).length∧z.2.1=((iL Ce CY a b).take z.1).map (fun z:B3=>(z.i,d2 z.f z.g))∧z.2.1.length<=z.2.2.2.2∧z.2.2.2.2*32<=z.2.2.2.1}) (fun⟨⟨i,o,ob,oN,oc⟩,hi,hI,h3,h4⟩=>([(5,az ob 0 o.length oc),(13,az rb 0 (iL Ce CY a b).length rc),(14,bz ((iL Ce CY a b).length)),(15,bz i)],[⟨rb,151,ah PN (iL Ce CY a b),rN,true⟩,⟨ob,93,ah DR o,oN,true⟩],(iL Ce CY a b).length-i)) ⟨⟨0,[],none,0,0⟩,Nat.zero_le _,rfl,Nat.le_refl _,by simp⟩ ?_ (hL:=(au [some 4,none] ⟨pR,⟨rfl,rfl,rfl⟩,trivial⟩ rfl rfl));rintro⟨⟨i,o,ob,oN,oc⟩,hi,hI,h3,h4⟩;(try dsimp only);replace hi:i<=(iL Ce CY a b).length:=hi;replace hI:o=((iL Ce CY a b).take i).map (fun z:B3=>(z.i,d2 z.f z.g)):=hI;replace h3:o.length<=oc:=h3;replace h4:oc*32<=oN:=h4
 have hol:o.length<=100000:=(by rw[hI,List.length_map,List.length_take];omega);refine A6 ?_;refine Cd ?_ ?_<;>intro hb1
 ·have hlt:i<(iL Ce CY a b).length:=(by have:=of_decide_eq_true hb1;omega);obtain⟨x,hx⟩:∃x,(iL Ce CY a b)[i]? =some x:=⟨_,List.getElem?_eq_getElem hlt⟩;have hxs:=qfW hsa hsb x (List.mem_of_getElem? hx);have f0:=Nat.le_trans (rQ x.f) hxs.2.1;have f1:=Nat.le_trans (rU x.f) hxs.2.1;have f2:=Nat.le_trans (rV x.f) hxs.2.1;have f3:=Nat.le_trans (rW x.f) hxs.2.1;have g0:=Nat.le_trans (rQ x.g) hxs.2.2;have g1:=Nat.le_trans (rU x.g) hxs.2.2;have g2:=Nat.le_trans (rV x.g) hxs.2.2;have g3:=Nat.le_trans (rW x.g) hxs.2.2;have s0:=bJ x.f.x0 x.g.x0;have s1:=bJ x.f.x1 x.g.x1;have s2:=bJ x.f.y0 x.g.y0;have s3:=bJ x.f.y1 x.g.y1;refine A6 ?_;refine ai 0 ((i)*52) qgN qfH rfl rfl rfl rfl rfl (by omega) (by omega) (Gy.ne (by decide) (by omega)) (by show 0+Int.toNat _*52=_;omega) ?_;refine aO (v:=B3V x) 0 ((i)*52) _ rfl rfl rfl rfl qfH (Gy.sub hx 0 52 (by decide)) rfl (by decide) rfl ?_;refine Al 52 qkB (fun g0=>?_);refine Ss 2 ?_;refine A3 ?_;refine FV (l':=[⟨_,_,_,_,_,_⟩,⟨_,_,_,_,_,_⟩,⟨_,_,_,_,_,_⟩,⟨_,_,_,_,_,_⟩,⟨_,_,_,_,_,_⟩,⟨_,_,_,_,_,_⟩,⟨_,_,_,_,_,_⟩,⟨_,_,_,_,_,_⟩,⟨_,_,_,_,_,_⟩,⟨_,_,_,_,_,_⟩,⟨_,_,_,_,_,_⟩,⟨_,_,_,_,_,_⟩,⟨_,_,_,_,_,_⟩,⟨_,_,_,_,_,_⟩,⟨_,_,_,_,_,_⟩,⟨_,_,_,_,_,_⟩,⟨_,_,_,_,_,_⟩,⟨_,_,_,_,_,_⟩,⟨_,_,_,_,_,_⟩,⟨_,_,_,_,_,_⟩,⟨_,_,_,_,_,_⟩,⟨_,_,_,_,_,_⟩,⟨_,_,_,_,_,_⟩,⟨_,_,_,_,_,_⟩,⟨_,_,_,_,_,_⟩,⟨_,_,_,_,_,_⟩,⟨_,_,_,_,_,_⟩,⟨_,_,_,_,_,_⟩,⟨_,_,_,_,_,_⟩]) [3000000] [0,1,2,3,4,5,6,7,8,9,10,11,13,14,15,16,17,18,19,20,21,22,23,24,12,25,26,27,28] mixed (VC [0,1,3,0,8,24,0,64,192,0,512,1536,4095,0,8192,24576,0,65536,196608,0,524288,1572864,0,4194304,12582912,33554431,67108863,0,268435455] (by kernel_rfl)) rfl ?_;refine A2 ?_;refine L4 2 20 ?_;refine A2 ?_;refine L4 2 24 ?_;refine A2 ?_;refine L4 2 36 ?_;refine A2 ?_;refine L4 2 40 ?_;refine A2 ?_;refine L4 2 28 ?_;refine A2 ?_;refine L4 2 32 ?_;refine A2 ?_;refine L4 2 44 ?_;refine A2 ?_;refine L4 2 48 ?_;refine Pc (tJ x.f.x0 x.f.x1 x.g.x0 x.g.x1) ?_;refine Pc (tJ x.f.y0 x.f.y1 x.g.y0 x.g.y1) ?_;refine Pc (Ij (Y3 (x.f.x0-x.g.x0) (x.f.x1-x.g.x1)) (Y3 (x.f.y0-x.g.y0) (x.f.y1-x.g.y1)) (Nat.le_trans (WV (n:=300) (by omega) (by omega)) (by omega)) (Nat.le_trans (WV (n:=300) (by omega) (by omega)) (by omega))) ?_;refine aT 45 (rM (d2 x.f x.g)) rfl (congrArg rM (qhI _ _)) ?_;refine Al 12 G6 (fun g1=>?_);refine Ss 3 ?_;refine A5 ?_;refine yB 2 0 ?_;refine ut 3 0 ?_;refine(Bu [(0,_),(1,_)]) (qgH) ?_;refine(Bl 32 [(0,_)]) (qgM) (fun g2=>?_);refine(Qa (s:=32) (len:=o.length) (n2:=1) 1 4 (fun r=>[_,⟨some r.g,93,ah DR o++DR ((x.i,d2 x.f x.g)),r.n,true⟩,_,_,_]) u88 qkG) (oH.length o) h3 h4 (oH.one ((x.i,d2 x.f x.g))) (fun r=>?_);refine A5 ?_;refine Ar (((i+1:Nat):Int)) ?_;refine A3 ?_;exact Nl ⟨⟨i+1,o++[(x.i,d2 x.f x.g)],some r.g,r.n,r.cap⟩,hlt,by show o++[(x.i,d2 x.f x.g)]=((iL Ce CY a b).take (i+1)).map (fun z:B3=>(z.i,d2 z.f z.g));rw[<-dD hx,List.map_append,<-hI];rfl,by rw[List.length_append];exact r.h,r.hn⟩ (hμ:=(by show(iL Ce CY a b).length-(i+1)<(iL Ce CY a b).length-i;omega)) (ht:=⟨(aB rfl (by rw[List.length_append];rfl)),rfl,rfl,rfl,trivial⟩) (hL:=(au [some 0,some 1] ⟨pR,⟨_,rfl,aI (by rw[bH])⟩,trivial⟩ rfl rfl))
 ·have hge:i=(iL Ce CY a b).length:=(by have:=of_decide_eq_false hb1;omega);subst hge;obtain rfl:o=ay a b:=by rw[hI,List.take_length];exact Fz a b
  refine lX ?_;refine aH rfl (aj rfl) (fun w hL=>⟨⟨ob,oN,oc,h3⟩,?_,hL.pk [some 1]⟩);exact rfl
def o8(a:List PU)(ab:Option Nat)(aN ac:Nat)(hac:a.length<=ac)(han:a.length<=400)(b:List PU)(bb:Option Nat)(bN bc:Nat)(hbc:b.length<=bc)(hbn:b.length<=400)(hsa:Hw a)(hsb:Hw b)(ea:YK a)(eb:YK b):dh Tryz.prog 14 [⟨ab,100,ah aQ a,aN,false⟩,⟨bb,100,ah aQ b,bN,false⟩] [az ab 0 a.length ac,az bb 0 b.length bc] (SR ((ay a b).map aZ).length) (fun z=> .tuple #[CfV z.v (fO ((ay a b).map aZ)),.int .i64 (if((ay a b).map aZ).length=0 then 36 else 0)]) (fun z=>[⟨z.b,63,ah bg ((ay a b).map aZ),z.n,true⟩]):=by
 refine⟨by kernel_rfl,fun w hL0=>?_⟩;have hpl:=uC a b;refine YZ 38 Tryz.func14 hL0 ?_;refine A2 ?_;refine Al 10 z40 (fun g0=>?_);refine A5 ?_;refine Al 10 z40 (fun g1=>?_);refine A7 ?_;refine(Sc [0,1]) (o7 a ab aN ac hac (by omega) b bb bN bc hbc (by omega) hsa hsb) (fun zr=>?_);obtain⟨rb,rN,rc,hrc⟩:=zr;refine A5 ?_;refine El (ι:={z:Nat×List oZ×Option Nat×Nat×Nat // z.1<=(ay a b).length∧z.2.1=((ay a b).take z.1).map aZ∧z.2.1.length<=z.2.2.2.2∧z.2.2.2.2*38<=z.2.2.2.1}) (fun⟨⟨i,o,ob,oN,oc⟩,hi,hI,h3,h4⟩=>([(4,dV g0),(5,.int .i64 0),(6,dV g1),(11,az rb 0 (ay a b).length rc),(12,bz ((ay a b).length)),(13,bz i)],[⟨rb,93,ah DR (ay a b),rN,true⟩,⟨some g0,40,Qe,10,true⟩,⟨some g1,40,jS (az ob 0 o.length oc) (rl 0),10,true⟩,⟨ob,63,ah bg o,oN,true⟩],(ay a b).length-i)) ⟨⟨0,[],none,0,0⟩,Nat.zero_le _,rfl,Nat.le_refl _,by simp⟩ ?_ (hL:=(au [some 4,some 2,some 3,none] ⟨pR,pR,⟨_,rfl,aI (by rw[qbB];rfl)⟩,⟨rfl,rfl,rfl⟩,trivial⟩ rfl rfl));rintro⟨⟨i,o,ob,oN,oc⟩,hi,hI,h3,h4⟩;(try dsimp only);replace hi:i<=(ay a b).length:=hi;replace hI:o=((ay a b).take i).map aZ:=hI;replace h3:o.length<=oc:=h3;replace h4:oc*38<=oN:=h4
 have hol:o.length<=100000:=(by rw[hI,List.length_map,List.length_take];omega);refine A6 ?_;refine Cd ?_ ?_<;>intro hb1
 ·have hlt:i<(ay a b).length:=(by have:=of_decide_eq_true hb1;omega);obtain⟨x,hx⟩:∃x,(ay a b)[i]? =some x:=⟨_,List.getElem?_eq_getElem hlt⟩;have hxs:=yu hsa hsb x (List.mem_of_getElem? hx);have hxi:=Oo ea eb x (List.mem_of_getElem? hx);refine A6 ?_;refine ai 0 ((i)*32) u88 LZ rfl rfl rfl rfl rfl (by omega) (by omega) (oH.ne (by decide) (by omega)) (by show 0+Int.toNat _*32=_;omega) ?_;refine aO (v:=PtV x) 0 ((i)*32) _ rfl rfl rfl rfl LZ (oH.sub hx 0 32 (by decide)) rfl (by decide) rfl ?_;refine Al 32 z93 (fun g2=>?_);refine Ss 4 ?_;refine A2 ?_;refine qQ (l':=[⟨_,_,_,_,_,_⟩,⟨_,_,_,_,_,_⟩,⟨_,_,_,_,_,_⟩,⟨_,_,_,_,_,_⟩]) [2000000] [2,3,4,5] [0,1,6,7,8,9,10] mixed (by kernel_rfl) rfl ?_;refine A1 ?_;refine yB 4 0 ?_;refine A1 ?_;refine ut 4 20 ?_;refine A1 ?_;refine aJ [0,6] (by kernel_rfl) ⟨⟨_,rfl,?_⟩,⟨_,rfl,?_⟩,trivial⟩
  ·refine A2 ?_;refine aJ [1,6] (by kernel_rfl) ⟨⟨_,rfl,?_⟩,⟨_,rfl,?_⟩,trivial⟩
   ·refine A2 ?_;refine aJ [6] (by kernel_rfl) ⟨⟨_,rfl,?_⟩,trivial⟩
    ·refine Pc (jO x.1 x.2 (by rw[GG hxi.1];exact Rat.le_refl) (by rw[GG hxi.2];exact Rat.le_refl)) ?_;refine A1 ?_;refine aJ [7] (by kernel_rfl) ⟨⟨_,rfl,?_⟩,trivial⟩
     ·refine(Bl 38 [(0,_)]) (oD) (fun g3=>?_);refine A1 ?_;refine aJ [8] (by kernel_rfl) ⟨⟨_,rfl,?_⟩,trivial⟩
      ·refine(Qa (s:=38) (len:=o.length) (n2:=1) 3 5 (fun r=>[_,_,_,⟨some r.g,63,ah bg o++bg (aZ x),r.n,true⟩,_,_]) u32 Dy) (bM.length o) h3 h4 (bM.one (aZ x)) (fun r=>?_);refine A1 ?_;refine aJ [9] (by kernel_rfl) ⟨⟨_,rfl,?_⟩,trivial⟩
       ·refine A2 ?_;refine aJ [10] (by kernel_rfl) ⟨⟨_,rfl,?_⟩,trivial⟩
        ·refine Ss 2 ?_;refine A1 ?_;refine jU rfl ?_;refine A3 ?_;refine Ar (((i+1:Nat):Int)) ?_;refine A3 ?_;exact Nl ⟨⟨i+1,o++[aZ x],some r.g,r.n,r.cap⟩,hlt,by show o++[aZ x]=((ay a b).take (i+1)).map aZ;rw[<-dD hx,List.map_append,<-hI];rfl,by rw[List.length_append];exact r.h,r.hn⟩ (hμ:=(by show(ay a b).length-(i+1)<(ay a b).length-i;omega)) (hL:=(au [some 0,some 1,some 2,some 3] ⟨pR,pR,⟨_,rfl,aI (by rw[List.length_append];rfl)⟩,⟨_,rfl,aI (by rw[bH])⟩,trivial⟩ rfl rfl))
   ·refine Pc (jO x.1 x.2 (by rw[GG hxi.1];exact Rat.le_refl) (by rw[GG hxi.2];exact Rat.le_refl)) ?_;refine A1 ?_;refine aJ [1,7] (by kernel_rfl) ⟨⟨_,rfl,?_⟩,⟨_,rfl,?_⟩,trivial⟩
    ·refine A2 ?_;refine aJ [7] (by kernel_rfl) ⟨⟨_,rfl,?_⟩,trivial⟩
     ·refine(Bl 38 [(0,_)]) (oD) (fun g3=>?_);refine A1 ?_;refine aJ [8] (by kernel_rfl) ⟨⟨_,rfl,?_⟩,trivial⟩
      ·refine(Qa (s:=38) (len:=o.length) (n2:=1) 3 5 (fun r=>[_,_,_,⟨some r.g,63,ah bg o++bg (aZ x),r.n,true⟩,_,_]) u32 Dy) (bM.length o) h3 h4 (bM.one (aZ x)) (fun r=>?_);refine A1 ?_;refine aJ [9] (by kernel_rfl) ⟨⟨_,rfl,?_⟩,trivial⟩
       ·refine A2 ?_;refine aJ [10] (by kernel_rfl) ⟨⟨_,rfl,?_⟩,trivial⟩
        ·refine Ss 2 ?_;refine A1 ?_;refine jU rfl ?_;refine A3 ?_;refine Ar (((i+1:Nat):Int)) ?_;refine A3 ?_;exact Nl ⟨⟨i+1,o++[aZ x],some r.g,r.n,r.cap⟩,hlt,by show o++[aZ x]=((ay a b).take (i+1)).map aZ;rw[<-dD hx,List.map_append,<-hI];rfl,by rw[List.length_append];exact r.h,r.hn⟩ (hμ:=(by show(ay a b).length-(i+1)<(ay a b).length-i;omega)) (hL:=(au [some 0,some 1,some 2,some 3] ⟨pR,pR,⟨_,rfl,aI (by rw[List.length_append];rfl)⟩,⟨_,rfl,aI (by rw[bH])⟩,trivial⟩ rfl rfl))
    ·refine(Bl 38 [(0,_)]) (oD) (fun g3=>?_);refine A1 ?_;refine aJ [1] (by kernel_rfl) ⟨⟨_,rfl,?_⟩,trivial⟩
     ·refine A2 ?_;refine aJ [8] (by kernel_rfl) ⟨⟨_,rfl,?_⟩,trivial⟩
      ·refine(Qa (s:=38) (len:=o.length) (n2:=1) 3 5 (fun r=>[_,_,_,⟨some r.g,63,ah bg o++bg (aZ x),r.n,true⟩,_,_]) u32 Dy) (bM.length o) h3 h4 (bM.one (aZ x)) (fun r=>?_);refine A1 ?_;refine aJ [9] (by kernel_rfl) ⟨⟨_,rfl,?_⟩,trivial⟩
       ·refine A2 ?_;refine aJ [10] (by kernel_rfl) ⟨⟨_,rfl,?_⟩,trivial⟩
        ·refine Ss 2 ?_;refine A1 ?_;refine jU rfl ?_;refine A3 ?_;refine Ar (((i+1:Nat):Int)) ?_;refine A3 ?_;exact Nl ⟨⟨i+1,o++[aZ x],some r.g,r.n,r.cap⟩,hlt,by show o++[aZ x]=((ay a b).take (i+1)).map aZ;rw[<-dD hx,List.map_append,<-hI];rfl,by rw[List.length_append];exact r.h,r.hn⟩ (hμ:=(by show(ay a b).length-(i+1)<(ay a b).length-i;omega)) (hL:=(au [some 0,some 1,some 2,some 3] ⟨pR,pR,⟨_,rfl,aI (by rw[List.length_append];rfl)⟩,⟨_,rfl,aI (by rw[bH])⟩,trivial⟩ rfl rfl))
  ·refine Pc (jO x.1 x.2 (by rw[GG hxi.1];exact Rat.le_refl) (by rw[GG hxi.2];exact Rat.le_refl)) ?_;refine A1 ?_;refine aJ [0,7] (by kernel_rfl) ⟨⟨_,rfl,?_⟩,⟨_,rfl,?_⟩,trivial⟩
   ·refine A2 ?_;refine aJ [1,7] (by kernel_rfl) ⟨⟨_,rfl,?_⟩,⟨_,rfl,?_⟩,trivial⟩
    ·refine A2 ?_;refine aJ [7] (by kernel_rfl) ⟨⟨_,rfl,?_⟩,trivial⟩
     ·refine(Bl 38 [(0,_)]) (oD) (fun g3=>?_);refine A1 ?_;refine aJ [8] (by kernel_rfl) ⟨⟨_,rfl,?_⟩,trivial⟩
      ·refine(Qa (s:=38) (len:=o.length) (n2:=1) 3 5 (fun r=>[_,_,_,⟨some r.g,63,ah bg o++bg (aZ x),r.n,true⟩,_,_]) u32 Dy) (bM.length o) h3 h4 (bM.one (aZ x)) (fun r=>?_);refine A1 ?_;refine aJ [9] (by kernel_rfl) ⟨⟨_,rfl,?_⟩,trivial⟩
       ·refine A2 ?_;refine aJ [10] (by kernel_rfl) ⟨⟨_,rfl,?_⟩,trivial⟩
        ·refine Ss 2 ?_;refine A1 ?_;refine jU rfl ?_;refine A3 ?_;refine Ar (((i+1:Nat):Int)) ?_;refine A3 ?_;exact Nl ⟨⟨i+1,o++[aZ x],some r.g,r.n,r.cap⟩,hlt,by show o++[aZ x]=((ay a b).take (i+1)).map aZ;rw[<-dD hx,List.map_append,<-hI];rfl,by rw[List.length_append];exact r.h,r.hn⟩ (hμ:=(by show(ay a b).length-(i+1)<(ay a b).length-i;omega)) (hL:=(au [some 0,some 1,some 2,some 3] ⟨pR,pR,⟨_,rfl,aI (by rw[List.length_append];rfl)⟩,⟨_,rfl,aI (by rw[bH])⟩,trivial⟩ rfl rfl))
    ·refine(Bl 38 [(0,_)]) (oD) (fun g3=>?_);refine A1 ?_;refine aJ [1] (by kernel_rfl) ⟨⟨_,rfl,?_⟩,trivial⟩
     ·refine A2 ?_;refine aJ [8] (by kernel_rfl) ⟨⟨_,rfl,?_⟩,trivial⟩
      ·refine(Qa (s:=38) (len:=o.length) (n2:=1) 3 5 (fun r=>[_,_,_,⟨some r.g,63,ah bg o++bg (aZ x),r.n,true⟩,_,_]) u32 Dy) (bM.length o) h3 h4 (bM.one (aZ x)) (fun r=>?_);refine A1 ?_;refine aJ [9] (by kernel_rfl) ⟨⟨_,rfl,?_⟩,trivial⟩
       ·refine A2 ?_;refine aJ [10] (by kernel_rfl) ⟨⟨_,rfl,?_⟩,trivial⟩
        ·refine Ss 2 ?_;refine A1 ?_;refine jU rfl ?_;refine A3 ?_;refine Ar (((i+1:Nat):Int)) ?_;refine A3 ?_;exact Nl ⟨⟨i+1,o++[aZ x],some r.g,r.n,r.cap⟩,hlt,by show o++[aZ x]=((ay a b).take (i+1)).map aZ;rw[<-dD hx,List.map_append,<-hI];rfl,by rw[List.length_append];exact r.h,r.hn⟩ (hμ:=(by show(ay a b).length-(i+1)<(ay a b).length-i;omega)) (hL:=(au [some 0,some 1,some 2,some 3] ⟨pR,pR,⟨_,rfl,aI (by rw[List.length_append];rfl)⟩,⟨_,rfl,aI (by rw[bH])⟩,trivial⟩ rfl rfl))
   ·refine(Bl 38 [(0,_)]) (oD) (fun g3=>?_);refine A1 ?_;refine aJ [0] (by kernel_rfl) ⟨⟨_,rfl,?_⟩,trivial⟩
    ·refine A2 ?_;refine aJ [1] (by kernel_rfl) ⟨⟨_,rfl,?_⟩,trivial⟩
     ·refine A2 ?_;refine aJ [8] (by kernel_rfl) ⟨⟨_,rfl,?_⟩,trivial⟩
      ·refine(Qa (s:=38) (len:=o.length) (n2:=1) 3 5 (fun r=>[_,_,_,⟨some r.g,63,ah bg o++bg (aZ x),r.n,true⟩,_,_]) u32 Dy) (bM.length o) h3 h4 (bM.one (aZ x)) (fun r=>?_);refine A1 ?_;refine aJ [9] (by kernel_rfl) ⟨⟨_,rfl,?_⟩,trivial⟩
       ·refine A2 ?_;refine aJ [10] (by kernel_rfl) ⟨⟨_,rfl,?_⟩,trivial⟩
        ·refine Ss 2 ?_;refine A1 ?_;refine jU rfl ?_;refine A3 ?_;refine Ar (((i+1:Nat):Int)) ?_;refine A3 ?_;exact Nl ⟨⟨i+1,o++[aZ x],some r.g,r.n,r.cap⟩,hlt,by show o++[aZ x]=((ay a b).take (i+1)).map aZ;rw[<-dD hx,List.map_append,<-hI];rfl,by rw[List.length_append];exact r.h,r.hn⟩ (hμ:=(by show(ay a b).length-(i+1)<(ay a b).length-i;omega)) (hL:=(au [some 0,some 1,some 2,some 3] ⟨pR,pR,⟨_,rfl,aI (by rw[List.length_append];rfl)⟩,⟨_,rfl,aI (by rw[bH])⟩,trivial⟩ rfl rfl))
 ·have hge:i=(ay a b).length:=(by have:=of_decide_eq_false hb1;omega);subst hge;obtain rfl:o=(ay a b).map aZ:=by rw[hI,List.take_length]
  refine D6 ?_;refine Cd ?_ ?_<;>intro hb2
  ·have hz:((ay a b).map aZ).length=0:=by have e:=hb2;simp at e ⊢;omega
   refine A2 ?_;refine LH 2 0 ?_;refine Ss 1 ?_;refine A5 ?_;refine bF rfl (bu 1 rfl rfl qgB (vs:=[_,_,_,_,_,_,_,_,_,_]) rfl rfl (Nat.le_of_ble_eq_true rfl) rfl) (aj rfl) (fun w hL=>⟨⟨ob,oN,oc,h3⟩,?_,hL.pk [some 3]⟩);rw[if_pos hz,show fO ((ay a b).map aZ)=rl 0 from by rw[List.length_eq_zero_iff.1 hz];rfl];exact rfl
  ·have hz:((ay a b).map aZ).length≠0:=by have e:=hb2;simp at e ⊢;omega
   refine A6 ?_;refine(Sd [3]) (qO ((ay a b).map aZ) ob oN oc h3 (by rw[List.length_map];omega) (Oq hsa hsb)) ?_;refine A1 ?_;refine Ss 2 ?_;refine A4 ?_;refine LH 2 0 ?_;refine Ss 1 ?_;refine A4 ?_;refine bF rfl (bu 1 rfl rfl qgB (vs:=[_,_,_,_,_,_,_,_,_,_]) rfl rfl (Nat.le_of_ble_eq_true rfl) rfl) (aj rfl) (fun w hL=>⟨⟨ob,oN,oc,h3⟩,?_,hL.pk [some 3]⟩);rw[if_neg hz];exact rfl
def FC(a:List oZ)(ab:Option Nat)(aN ac:Nat)(hac:a.length<=ac)(han:a.length<=1000)(b:List oZ)(bb:Option Nat)(bN bc:Nat)(hbc:b.length<=bc)(hbn:b.length<=1000)(m n:Rl):dh Tryz.prog 17 [⟨ab,63,ah bg a,aN,false⟩,⟨bb,63,ah bg b,bN,false⟩] [CfV (az ab 0 a.length ac) m,CfV (az bb 0 b.length bc) n] Unit (fun _=> .bool (decide (a=b∧m=n))) (fun _=>[]):=by
 refine VZ 38 Tryz.func17 fun w hL0=>?_;refine A2 ?_;refine Bp 10 (fun g0=>?_);refine Bp 10 (fun g1=>?_);refine D6 ?_;refine Rs 13 ?_ ?_<;>intro hb0
 ·have hle:a.length≠b.length:=by have e:=hb0;simp at e;omega
  refine II ?_;refine aH rfl (aj rfl) (fun w hL=>⟨(),?_,hL.pk []⟩);exact eB (decide_eq_false (fun e=>hle (by rw[e.1]))).symm
 ·have hle:a.length=b.length:=by have e:=hb0;simp at e;omega
  refine A1 ?_;refine L9 2 1 ?_;refine A1 ?_;refine L9 3 1 ?_;refine xM rfl rfl rfl rfl Mc (MB _ _) ?_;refine A3 ?_;refine Cd ?_ ?_<;>intro hb1
  ·have hmn:m≠n:=by have e:=hb1;simpa using e
   refine A7 ?_;refine aH rfl (aj rfl) (fun w hL=>⟨(),?_,hL.pk []⟩);exact eB (decide_eq_false (fun e=>hmn e.2)).symm
  ·have hmn:m=n:=by have e:=hb1;simpa using e
   refine A9 ?_;refine El (ι:={i:Nat // i<=a.length∧a.take i=b.take i}) (fun⟨i,hi,hI⟩=>([(2,dV g0),(3,dV g1),(5,bz i)],[⟨ab,63,ah bg a,aN,false⟩,⟨bb,63,ah bg b,bN,false⟩,⟨some g0,40,jS (az ab 0 a.length ac) m,10,true⟩,⟨some g1,40,jS (az bb 0 b.length bc) n,10,true⟩],a.length-i)) ⟨0,Nat.zero_le _,rfl⟩ ?_ (hL:=eG.auto);rintro⟨i,hi,hI⟩;(try dsimp only);refine lm ?_;refine Cd ?_ ?_<;>intro hb3
   ·have hlt:i<a.length:=(by have:=of_decide_eq_true hb3;omega);obtain⟨x,hx⟩:∃x,a[i]? =some x:=⟨a[i],List.getElem?_eq_getElem hlt⟩;obtain⟨y,hy⟩:∃y,b[i]? =some y:=⟨_,List.getElem?_eq_getElem (by omega)⟩;refine fD 0 rfl (bM.ne (by decide) (by omega)) (fun hbs=>?_);obtain⟨ga,hga⟩:=Option.isSome_iff_exists.1 hbs;replace hga:ab=some ga:=hga;subst hga;refine fD 1 rfl (bM.ne (by decide) (by omega)) (fun hbs=>?_);obtain⟨gb,hgb⟩:=Option.isSome_iff_exists.1 hbs;replace hgb:bb=some gb:=hgb;subst hgb;refine A5 ?_;refine Di [] ?_;refine A3 ?_;refine ai 0 ((i)*38) u32 jJ rfl rfl rfl rfl rfl (by omega) (by omega) (bM.ne (by decide) (by omega)) (by show 0+Int.toNat _*38=_;omega) ?_;refine aO (v:=Ie x) 0 ((i)*38) _ rfl rfl rfl rfl jJ (bM.sub hx 0 38 (by decide)) rfl (by decide) rfl ?_;refine A3 ?_;refine ai 1 ((i)*38) u32 jJ rfl rfl rfl rfl rfl (by omega) (by omega) (bM.ne (by decide) (by omega)) (by show 0+Int.toNat _*38=_;omega) ?_;refine aO (v:=Ie y) 1 ((i)*38) _ rfl rfl rfl rfl jJ (bM.sub hy 0 38 (by decide)) rfl (by decide) rfl ?_;refine xM rfl rfl rfl rfl qdB (qem _ _) ?_;refine A2 ?_;refine Cd ?_ ?_<;>intro hb4
    ·have hxy:x≠y:=by have e:=hb4;simpa using e
     refine oO ?_;refine aH rfl (aj rfl) (fun w hL=>⟨(),?_,hL.pk []⟩);exact eB (decide_eq_false (fun e=>hxy (by rw[e.1,hy] at hx;cases hx;rfl))).symm
    ·have hxy:x=y:=by have e:=hb4;simpa using e
     refine A5 ?_;refine Ar (((i+1:Nat):Int)) ?_;refine A3 ?_;exact Nl ⟨i+1,hlt,by rw[<-dD hx,<-dD hy,hI,hxy]⟩ (hL:=eG.auto)
   ·have hge:i=a.length:=(by have:=of_decide_eq_false hb3;omega);subst hge;refine oO ?_;refine aH rfl (aj rfl) (fun w hL=>⟨(),?_,hL.pk []⟩);exact eB (decide_eq_true ⟨Hu hI hle,hmn⟩).symm
def MI(a:List PU)(ab:Option Nat)(aN ac:Nat)(hac:a.length<=ac)(han:a.length<=400)(b:List PU)(bb:Option Nat)(bN bc:Nat)(hbc:b.length<=bc)(hbn:b.length<=400)(hsa:Hw a)(hsb:Hw b)(H:FB a b):dh Tryz.prog 15 [⟨ab,100,ah aQ a,aN,false⟩,⟨bb,100,ah aQ b,bN,false⟩] [az ab 0 a.length ac,az bb 0 b.length bc] (SR ((ay a b).map aZ).length) (fun z=>CfV z.v (CO ((ay a b).map aZ))) (fun z=>[⟨z.b,63,ah bg ((ay a b).map aZ),z.n,true⟩]):=by
 refine⟨by kernel_rfl,fun w hL0=>?_⟩;have hpl:=uC a b;refine YZ 109 Tryz.func15 hL0 ?_;refine A2 ?_;refine Al 10 z40 (fun g0=>?_);refine A4 ?_;refine Al 10 z40 (fun g1=>?_);refine A9 ?_;refine El (ι:={z:Nat×List oZ×Option Nat×Nat×Nat // z.1<=a.length∧z.2.1=(pK a b z.1).map aZ∧z.2.1.length<=z.2.2.2.2∧z.2.2.2.2*38<=z.2.2.2.1}) (fun⟨⟨i,o,ob,oN,oc⟩,hi,hI,h3,h4⟩=>([(0,az ab 0 a.length ac),(1,az bb 0 b.length bc),(4,dV g0),(5,dV g1),(6,bz i)],[⟨ab,100,ah aQ a,aN,false⟩,⟨bb,100,ah aQ b,bN,false⟩,⟨some g0,40,Qe,10,true⟩,⟨some g1,40,jS (az ob 0 o.length oc) (rl 0),10,true⟩,⟨ob,63,ah bg o,oN,true⟩],a.length-i)) ⟨⟨0,[],none,0,0⟩,Nat.zero_le _,rfl,Nat.le_refl _,by simp⟩ ?_ (hL:=(au [some 0,some 1,some 2,some 3,none] ⟨pR,pR,pR,⟨_,rfl,aI (by rw[qbB];rfl)⟩,⟨rfl,rfl,rfl⟩,trivial⟩ rfl rfl));rintro⟨⟨i,o,ob,oN,oc⟩,hi,hI,h3,h4⟩;(try dsimp only);replace hi:i<=a.length:=hi;replace hI:o=(pK a b i).map aZ:=hI;replace h3:o.length<=oc:=h3;replace h4:oc*38<=oN:=h4;refine A9 ?_;refine Cd ?_ ?_<;>intro hb1
 ·have hlt:i<a.length:=(by have:=of_decide_eq_true hb1;omega);obtain⟨x,hx⟩:∃x,a[i]? =some x:=⟨a[i],List.getElem?_eq_getElem hlt⟩;have hxm:=List.mem_of_getElem? hx;have hxs:=hsa x hxm;have hxe:=H.ea x hxm;refine lm ?_;refine El (ι:={z:Nat×List oZ×Option Nat×Nat×Nat // z.1<=b.length∧z.2.1=(pK a b i++AP x b z.1).map aZ∧z.2.1.length<=z.2.2.2.2∧z.2.2.2.2*38<=z.2.2.2.1}) (fun⟨⟨j,o,ob,oN,oc⟩,hj,hI0,h30,h40⟩=>([(0,az ab 0 a.length ac),(1,az bb 0 b.length bc),(4,dV g0),(5,dV g1),(6,bz i),(7,bz j)],[⟨ab,100,ah aQ a,aN,false⟩,⟨bb,100,ah aQ b,bN,false⟩,⟨some g0,40,Qe,10,true⟩,⟨some g1,40,jS (az ob 0 o.length oc) (rl 0),10,true⟩,⟨ob,63,ah bg o,oN,true⟩],b.length-j)) ⟨⟨0,o,ob,oN,oc⟩,Nat.zero_le _,by show o=(pK a b i++AP x b 0).map aZ;rw[qe3];exact hI,h3,h4⟩ ?_ (hL:=eG.auto);rintro⟨⟨j,o,ob,oN,oc⟩,hj,hI0,h30,h40⟩;(try dsimp only);replace hj:j<=b.length:=hj;have hI:o=(pK a b i++AP x b j).map aZ:=hI0;have h3:o.length<=oc:=h30;have h4:oc*38<=oN:=h40;refine A9 ?_;refine Cd ?_ ?_<;>intro hb3
  ·have hjt:j<b.length:=(by have:=of_decide_eq_true hb3;omega);obtain⟨y,hy⟩:∃y,b[j]? =some y:=⟨b[j],List.getElem?_eq_getElem hjt⟩;have hym:=List.mem_of_getElem? hy;have hys:=hsb y hym;have hye:=H.eb y hym;refine fD 0 rfl (aC.ne (by decide) (by omega)) (fun hbs=>?_);obtain⟨ga,hga⟩:=Option.isSome_iff_exists.1 hbs;replace hga:ab=some ga:=hga;subst hga;refine fD 1 rfl (aC.ne (by decide) (by omega)) (fun hbs=>?_);obtain⟨gb,hgb⟩:=Option.isSome_iff_exists.1 hbs;replace hgb:bb=some gb:=hgb;subst hgb;refine A5 ?_;let sX:List (Nat×Value)->List (Nat×Value):=fun l=>(0,az (some ga) 0 a.length ac)::(1,az (some gb) 0 b.length bc)::(4,dV g0)::(5,dV g1)::(6,bz i)::(7,bz j)::l;let sY:List aG->List aG:=fun l=>⟨some ga,100,ah aQ a,aN,false⟩::⟨some gb,100,ah aQ b,bN,false⟩::⟨some g0,40,Qe,10,true⟩::⟨some g1,40,jS (az ob 0 o.length oc) (rl 0),10,true⟩::⟨ob,63,ah bg o,oN,true⟩::l;refine Bv (nt:=109) (Z:=Nat×Nat×(SR (jf x.i y.i).toList.length)) (fun⟨gx,gy,⟨cb,cN,cc,hcc⟩⟩=>sX [(8,az cb 0 (jf x.i y.i).toList.length cc)]) (fun⟨gx,gy,⟨cb,cN,cc,hcc⟩⟩=>sY [⟨some gx,61,bP x.i,20,true⟩,⟨some gy,61,bP y.i,20,true⟩,⟨cb,61,ah bP (jf x.i y.i).toList,cN,true⟩]) 14 [0,1,2,3,4,5,6,7,8,9,10,11,12,13] mixed (by kernel_rfl) (fun hd0=>?_) ?_
   ·refine bK (nt:=109) (Z:=Nat×Nat×(SR (jf x.i y.i).toList.length)) (fun⟨gx,gy,⟨cb,cN,cc,hcc⟩⟩=>sX [(36,az cb 0 (jf x.i y.i).toList.length cc)]) (fun⟨gx,gy,⟨cb,cN,cc,hcc⟩⟩=>sY [⟨some gx,61,bP x.i,20,true⟩,⟨some gy,61,bP y.i,20,true⟩,⟨cb,61,ah bP (jf x.i y.i).toList,cN,true⟩]) 1 [13] (fun z=>?_) (fun hd1=>?_)
    ·obtain⟨gx,gy,⟨cb,cN,cc,hcc⟩⟩:=z;(try dsimp only);refine FN 13 ?_
     ·refine A2 ?_;exact Nw hd0 ⟨gx,gy,⟨cb,cN,cc,hcc⟩⟩ [0,1,2,3,4,5,6,7]
    refine bK (nt:=109) (Z:=Nat×Nat) (fun⟨gx,gy⟩=>sX [(29,az (some gx) 0 1 1),(35,az (some gy) 0 1 1)]) (fun⟨gx,gy⟩=>sY [⟨some gx,61,bP x.i,20,true⟩,⟨some gy,61,bP y.i,20,true⟩]) 2 [12,13] (fun z=>?_) (fun hd2=>?_)
    ·obtain⟨gx,gy⟩:=z;(try dsimp only);refine FN 12 ?_
     ·refine iO [_,_,_] [5,6] rfl rfl rfl (qju x y hxe hye (by omega) (by omega) gx gy _ _) ⟨pS,pS,trivial⟩ rfl (.inr fun x b hb=>by rw[List.mem_singleton.1 hb]) (fun zc=>?_);obtain⟨cb,cN,cc,hcc⟩:=zc;refine A1 ?_;exact Nw hd1 ⟨gx,gy,⟨cb,cN,cc,hcc⟩⟩ [0,1,2,3,4,5,6,7]
    refine bK (nt:=109) (Z:=Nat) (fun gy=>sX [(28,kF x.i),(35,az (some gy) 0 1 1)]) (fun gy=>sY [⟨some gy,61,bP y.i,20,true⟩]) 3 [5,12,13] (fun gy=>?_) (fun hd3=>?_)
    ·(try dsimp only);refine FN 5 ?_
     ·refine(Bl 20 [(0,_)]) (lH) (fun g3=>?_);refine A1 ?_;exact Nw hd2 ⟨g3,gy⟩ [0,1,2,3,4,6,5]
    refine bK (nt:=109) (Z:=Nat) (fun gx=>sX [(29,az (some gx) 0 1 1),(34,kF y.i)]) (fun gx=>sY [⟨some gx,61,bP x.i,20,true⟩]) 3 [11,12,13] (fun gx=>?_) (fun hd4=>?_)
    ·(try dsimp only);refine FN 11 ?_
     ·refine(Bl 20 [(0,_)]) (lH) (fun g3=>?_);refine A1 ?_;exact Nw hd2 ⟨gx,g3⟩ [0,1,2,3,4,5,6]
    refine bK (nt:=109) (Z:=Nat) (fun gy=>sX [(27,.pointer (some ⟨ga,(i)*36,none⟩)),(35,az (some gy) 0 1 1)]) (fun gy=>sY [⟨some gy,61,bP y.i,20,true⟩]) 4 [4,5,12,13] (fun gy=>?_) (fun hd5=>?_)
    ·(try dsimp only);refine FN 4 ?_
     ·refine aO (v:=kF x.i) 0 ((i)*36+0) _ rfl rfl rfl rfl iC (aC.sub hx 0 20 (by decide)) rfl (by decide) rfl ?_;refine A1 ?_;exact Nw hd3 gy [0,1,2,3,4,5]
    refine bK (nt:=109) (Z:=Unit) (fun _=>sX [(28,kF x.i),(34,kF y.i)]) (fun _=>sY []) 4 [5,11,12,13] (fun z=>?_) (fun hd6=>?_)
    ·(try dsimp only);refine cZ [5,11] (by kernel_rfl) rfl ⟨⟨_,rfl,?_⟩,⟨_,rfl,?_⟩,trivial⟩
     ·refine(Bl 20 [(0,_)]) (lH) (fun g2=>?_);refine A1 ?_;exact Nw hd4 g2 [0,1,2,3,4,5]
     ·refine(Bl 20 [(0,_)]) (lH) (fun g2=>?_);refine A1 ?_;exact Nw hd3 g2 [0,1,2,3,4,5]
    refine bK (nt:=109) (Z:=Nat) (fun gx=>sX [(29,az (some gx) 0 1 1),(33,.pointer (some ⟨gb,(j)*36,none⟩))]) (fun gx=>sY [⟨some gx,61,bP x.i,20,true⟩]) 4 [10,11,12,13] (fun gx=>?_) (fun hd7=>?_)
    ·(try dsimp only);refine FN 10 ?_
     ·refine aO (v:=kF y.i) 1 ((j)*36+0) _ rfl rfl rfl rfl iC (aC.sub hy 0 20 (by decide)) rfl (by decide) rfl ?_;refine A1 ?_;exact Nw hd4 gx [0,1,2,3,4,5]
    refine bK (nt:=109) (Z:=Unit) (fun _=>sX [(27,.pointer (some ⟨ga,(i)*36,none⟩)),(34,kF y.i)]) (fun _=>sY []) 5 [4,5,11,12,13] (fun z=>?_) (fun hd8=>?_)
    ·(try dsimp only);refine cZ [4,11] (by kernel_rfl) rfl ⟨⟨_,rfl,?_⟩,⟨_,rfl,?_⟩,trivial⟩
     ·refine aO (v:=kF x.i) 0 ((i)*36+0) _ rfl rfl rfl rfl iC (aC.sub hx 0 20 (by decide)) rfl (by decide) rfl ?_;refine A1 ?_;exact Nw hd6 () [0,1,2,3,4]
     ·refine(Bl 20 [(0,_)]) (lH) (fun g2=>?_);refine A1 ?_;exact Nw hd5 g2 [0,1,2,3,4,5]
    refine bK (nt:=109) (Z:=Unit) (fun _=>sX [(28,kF x.i),(33,.pointer (some ⟨gb,(j)*36,none⟩))]) (fun _=>sY []) 5 [5,10,11,12,13] (fun z=>?_) (fun hd9=>?_)
    ·(try dsimp only);refine cZ [5,10] (by kernel_rfl) rfl ⟨⟨_,rfl,?_⟩,⟨_,rfl,?_⟩,trivial⟩
     ·refine(Bl 20 [(0,_)]) (lH) (fun g2=>?_);refine A1 ?_;exact Nw hd7 g2 [0,1,2,3,4,5]
     ·refine aO (v:=kF y.i) 1 ((j)*36+0) _ rfl rfl rfl rfl iC (aC.sub hy 0 20 (by decide)) rfl (by decide) rfl ?_;refine A1 ?_;exact Nw hd6 () [0,1,2,3,4]
    refine bK (nt:=109) (Z:=Nat) (fun gy=>sX [(24,az (some ga) 0 a.length ac),(25,bz i),(35,az (some gy) 0 1 1)]) (fun gy=>sY [⟨some gy,61,bP y.i,20,true⟩]) 6 [2,3,4,5,12,13] (fun gy=>?_) (fun hd10=>?_)
    ·(try dsimp only);refine FN 2 ?_
     ·refine ai 0 ((i)*36) JP wC rfl rfl rfl rfl rfl (by omega) (by omega) (aC.ne (by decide) (by omega)) (by show 0+Int.toNat _*36=_;omega) ?_;refine A1 ?_;refine Nt 3 ?_;refine Fg ((i)*36) 0 ?_;refine A1 ?_;exact Nw hd5 gy [0,1,2,3,4,5]
    refine bK (nt:=109) (Z:=Unit) (fun _=>sX [(27,.pointer (some ⟨ga,(i)*36,none⟩)),(33,.pointer (some ⟨gb,(j)*36,none⟩))]) (fun _=>sY []) 6 [4,5,10,11,12,13] (fun z=>?_) (fun hd11=>?_)
    ·(try dsimp only);refine cZ [4,10] (by kernel_rfl) rfl ⟨⟨_,rfl,?_⟩,⟨_,rfl,?_⟩,trivial⟩
     ·refine aO (v:=kF x.i) 0 ((i)*36+0) _ rfl rfl rfl rfl iC (aC.sub hx 0 20 (by decide)) rfl (by decide) rfl ?_;refine A1 ?_;exact Nw hd9 () [0,1,2,3,4]
     ·refine aO (v:=kF y.i) 1 ((j)*36+0) _ rfl rfl rfl rfl iC (aC.sub hy 0 20 (by decide)) rfl (by decide) rfl ?_;refine A1 ?_;exact Nw hd8 () [0,1,2,3,4]
    refine bK (nt:=109) (Z:=Nat) (fun gx=>sX [(29,az (some gx) 0 1 1),(30,az (some gb) 0 b.length bc),(31,bz j)]) (fun gx=>sY [⟨some gx,61,bP x.i,20,true⟩]) 6 [8,9,10,11,12,13] (fun gx=>?_) (fun hd12=>?_)
    ·(try dsimp only);refine FN 8 ?_
     ·refine ai 1 ((j)*36) JP wC rfl rfl rfl rfl rfl (by omega) (by omega) (aC.ne (by decide) (by omega)) (by show 0+Int.toNat _*36=_;omega) ?_;refine A1 ?_;refine Nt 9 ?_;refine Fg ((j)*36) 0 ?_;refine A1 ?_;exact Nw hd7 gx [0,1,2,3,4,5]
    refine bK (nt:=109) (Z:=Unit) (fun _=>sX [(24,az (some ga) 0 a.length ac),(25,bz i),(34,kF y.i)]) (fun _=>sY []) 7 [2,3,4,5,11,12,13] (fun z=>?_) (fun hd13=>?_)
    ·(try dsimp only);refine cZ [2,11] (by kernel_rfl) rfl ⟨⟨_,rfl,?_⟩,⟨_,rfl,?_⟩,trivial⟩
     ·refine ai 0 ((i)*36) JP wC rfl rfl rfl rfl rfl (by omega) (by omega) (aC.ne (by decide) (by omega)) (by show 0+Int.toNat _*36=_;omega) ?_;refine A1 ?_;refine Nt 3 ?_;refine Fg ((i)*36) 0 ?_;refine A1 ?_;exact Nw hd8 () [0,1,2,3,4]
     ·refine(Bl 20 [(0,_)]) (lH) (fun g2=>?_);refine A1 ?_;exact Nw hd10 g2 [0,1,2,3,4,5]
    refine bK (nt:=109) (Z:=Unit) (fun _=>sX [(28,kF x.i),(30,az (some gb) 0 b.length bc),(31,bz j)]) (fun _=>sY []) 7 [5,8,9,10,11,12,13] (fun z=>?_) (fun hd14=>?_)
    ·(try dsimp only);refine cZ [5,8] (by kernel_rfl) rfl ⟨⟨_,rfl,?_⟩,⟨_,rfl,?_⟩,trivial⟩
     ·refine(Bl 20 [(0,_)]) (lH) (fun g2=>?_);refine A1 ?_;exact Nw hd12 g2 [0,1,2,3,4,5]
     ·refine ai 1 ((j)*36) JP wC rfl rfl rfl rfl rfl (by omega) (by omega) (aC.ne (by decide) (by omega)) (by show 0+Int.toNat _*36=_;omega) ?_;refine A1 ?_;refine Nt 9 ?_;refine Fg ((j)*36) 0 ?_;refine A1 ?_;exact Nw hd9 () [0,1,2,3,4]
    refine bK (nt:=109) (Z:=Unit) (fun _=>sX [(24,az (some ga) 0 a.length ac),(25,bz i),(33,.pointer (some ⟨gb,(j)*36,none⟩))]) (fun _=>sY []) 8 [2,3,4,5,10,11,12,13] (fun z=>?_) (fun hd15=>?_)
    ·(try dsimp only);refine cZ [2,10] (by kernel_rfl) rfl ⟨⟨_,rfl,?_⟩,⟨_,rfl,?_⟩,trivial⟩
     ·refine ai 0 ((i)*36) JP wC rfl rfl rfl rfl rfl (by omega) (by omega) (aC.ne (by decide) (by omega)) (by show 0+Int.toNat _*36=_;omega) ?_;refine A1 ?_;refine Nt 3 ?_;refine Fg ((i)*36) 0 ?_;refine A1 ?_;exact Nw hd11 () [0,1,2,3,4]
     ·refine aO (v:=kF y.i) 1 ((j)*36+0) _ rfl rfl rfl rfl iC (aC.sub hy 0 20 (by decide)) rfl (by decide) rfl ?_;refine A1 ?_;exact Nw hd13 () [0,1,2,3,4]
    refine bK (nt:=109) (Z:=Unit) (fun _=>sX [(27,.pointer (some ⟨ga,(i)*36,none⟩)),(30,az (some gb) 0 b.length bc),(31,bz j)]) (fun _=>sY []) 8 [4,5,8,9,10,11,12,13] (fun z=>?_) (fun hd16=>?_)
    ·(try dsimp only);refine cZ [4,8] (by kernel_rfl) rfl ⟨⟨_,rfl,?_⟩,⟨_,rfl,?_⟩,trivial⟩
     ·refine aO (v:=kF x.i) 0 ((i)*36+0) _ rfl rfl rfl rfl iC (aC.sub hx 0 20 (by decide)) rfl (by decide) rfl ?_;refine A1 ?_;exact Nw hd14 () [0,1,2,3,4]
     ·refine ai 1 ((j)*36) JP wC rfl rfl rfl rfl rfl (by omega) (by omega) (aC.ne (by decide) (by omega)) (by show 0+Int.toNat _*36=_;omega) ?_;refine A1 ?_;refine Nt 9 ?_;refine Fg ((j)*36) 0 ?_;refine A1 ?_;exact Nw hd11 () [0,1,2,3,4]
    refine Nt 0 ?_;refine A2 ?_;refine Nt 1 ?_;refine A2 ?_;refine Nt 6 ?_;refine A2 ?_;refine Nt 7 ?_;refine A2 ?_;refine cZ [2,8] (by kernel_rfl) rfl ⟨⟨_,rfl,?_⟩,⟨_,rfl,?_⟩,trivial⟩
    ·refine ai 0 ((i)*36) JP wC rfl rfl rfl rfl rfl (by omega) (by omega) (aC.ne (by decide) (by omega)) (by show 0+Int.toNat _*36=_;omega) ?_;refine A1 ?_;refine Nt 3 ?_;refine Fg ((i)*36) 0 ?_;refine A1 ?_;exact Nw hd16 () [0,1,2,3,4]
    ·refine ai 1 ((j)*36) JP wC rfl rfl rfl rfl rfl (by omega) (by omega) (aC.ne (by decide) (by omega)) (by show 0+Int.toNat _*36=_;omega) ?_;refine A1 ?_;refine Nt 9 ?_;refine Fg ((j)*36) 0 ?_;refine A1 ?_;exact Nw hd15 () [0,1,2,3,4]
   rintro⟨gx,gy,⟨cb,cN,cc,hcc⟩⟩;show At _ ⟨109,[(0,az (some ga) 0 a.length ac),(1,az (some gb) 0 b.length bc),(4,dV g0),(5,dV g1),(6,bz i),(7,bz j),(8,az cb 0 (jf x.i y.i).toList.length cc)],[⟨some ga,100,ah aQ a,aN,false⟩,⟨some gb,100,ah aQ b,bN,false⟩,⟨some g0,40,Qe,10,true⟩,⟨some g1,40,jS (az ob 0 o.length oc) (rl 0),10,true⟩,⟨ob,63,ah bg o,oN,true⟩,⟨some gx,61,bP x.i,20,true⟩,⟨some gy,61,bP y.i,20,true⟩,⟨cb,61,ah bP (jf x.i y.i).toList,cN,true⟩]⟩ _;refine A9 ?_;refine Cd ?_ ?_<;>intro hb4
   ·have hm:jf x.i y.i=none:=by rcases hq:jf x.i y.i with _|m;rfl;(have e:=hb4;rw[hq] at e;simp at e)
    refine A6 ?_;refine Ar (((j+1:Nat):Int)) ?_;refine A3 ?_;exact Nl ⟨⟨j+1,o,ob,oN,oc⟩,hjt,by show o=(pK a b i++AP x b (j+1)).map aZ;rw[qbC hy,qhL hm];simpa using hI,h3,h4⟩ (hμ:=(by show b.length-(j+1)<b.length-j;omega)) (hL:=eG.auto)
   ·obtain⟨m,hm⟩:∃m,jf x.i y.i=some m:=by rcases hq:jf x.i y.i with _|m;(exfalso;have e:=hb4;rw[hq] at e;simp at e);exact⟨m,rfl⟩
    have hm0:(jf x.i y.i).toList[0]? =some m:=(by rw[hm];rfl);have hm1:0<(jf x.i y.i).toList.length:=(by rw[hm];exact Nat.one_pos);have hz:=qhK hm;have hpm:=qe4 H hx hy hz;have hps:=yu hsa hsb _ hpm;have hpe:=Oo H.ea H.eb _ hpm;have hol:=qbF H hx hy hz;replace hol:o.length<a.length+b.length:=(by rw[hI,List.length_map];exact hol);have l1:=kw m;have l2:=kz m;replace hps:jV m<=100∧uB (d2 x.f y.f)<=820:=hps;refine fD 7 rfl (bI.ne (by decide) hm1) (fun hbs=>?_);obtain⟨gc,hgc⟩:=Option.isSome_iff_exists.1 hbs;replace hgc:cb=some gc:=hgc;subst hgc;refine rH 4 rfl (fun hbase=>?_);have hobs:o.length=0∨∃g,ob=some g:=sS bM (by decide) hbase;refine A3 ?_;refine Dq [3000000] [0,1,2,3,4,5,6,7,8,9,10,11,12] ?_;refine A2 ?_;refine ai 0 ((i)*36) JP wC rfl rfl rfl rfl rfl (by omega) (by omega) (aC.ne (by decide) (by omega)) (by show 0+Int.toNat _*36=_;omega) ?_;refine Fg ((i)*36) 20 ?_;refine aO (v:=xK x.f) 0 ((i)*36+20) _ rfl rfl rfl rfl Dx (aC.sub hx 20 16 (by decide)) rfl (by decide) rfl ?_;refine A2 ?_;refine ai 1 ((j)*36) JP wC rfl rfl rfl rfl rfl (by omega) (by omega) (aC.ne (by decide) (by omega)) (by show 0+Int.toNat _*36=_;omega) ?_;refine Fg ((j)*36) 20 ?_;refine aO (v:=xK y.f) 1 ((j)*36+20) _ rfl rfl rfl rfl Dx (aC.sub hy 20 16 (by decide)) rfl (by decide) rfl ?_;refine Pc (Fj x.f y.f) ?_;refine Al 12 G6 (fun g2=>?_);refine Ss 8 ?_;refine A3 ?_;refine Dq [3000000] [0,1,2,3,4,5,6,7,9,10,11,12,13,8,14,15,16,17] ?_;refine A1 ?_;refine ai 7 ((0)*20) F7 iC rfl rfl rfl rfl rfl (by omega) (by omega) (bI.ne (by decide) (by omega)) (by show 0+Int.toNat _*20=_;omega) ?_;refine aO (v:=kF m) 7 ((0)*20) _ rfl rfl rfl rfl iC (bI.sub hm0 0 20 (by decide)) rfl (by decide) rfl ?_;refine ut 8 0 ?_;refine A1 ?_;refine ai 7 ((0)*20) F7 iC rfl rfl rfl rfl rfl (by omega) (by omega) (bI.ne (by decide) (by omega)) (by show 0+Int.toNat _*20=_;omega) ?_;refine Fg ((0)*20) 0 ?_;refine aO (v:=RV m.f) 7 ((0)*20+0) _ rfl rfl rfl rfl iK (bI.sub hm0 0 9 (by decide)) rfl (by decide) rfl ?_;refine ut 8 0 ?_;refine A1 ?_;refine ai 7 ((0)*20) F7 iC rfl rfl rfl rfl rfl (by omega) (by omega) (bI.ne (by decide) (by omega)) (by show 0+Int.toNat _*20=_;omega) ?_;refine Fg ((0)*20) 9 ?_;refine aO (v:=RV m.t) 7 ((0)*20+9) _ rfl rfl rfl rfl iK (bI.sub hm0 9 9 (by decide)) rfl (by decide) rfl ?_;refine Pc (KN (d2 x.f y.f) m.f (okZ hpe.1)) ?_;refine Pc (KN (d2 x.f y.f) m.t (okZ hpe.2)) ?_;refine(Bu [(0,_),(1,_),(2,_)]) (Us) ?_;refine Al 38 z63 (fun g3=>?_);refine Ss 9 ?_;refine lm ?_;refine OW (nt:=109) [(0,az (some ga) 0 a.length ac),(1,az (some gb) 0 b.length bc),(4,dV g0),(5,dV g1),(6,bz i),(7,bz j),(10,dV g3),(11,bz (o.length))] [⟨some ga,100,ah aQ a,aN,false⟩,⟨some gb,100,ah aQ b,bN,false⟩,⟨some g0,40,Qe,10,true⟩,⟨some g1,40,jS (az ob 0 o.length oc) (rl 0),10,true⟩,⟨ob,63,ah bg o,oN,true⟩,⟨some g3,63,bg (aZ (m,d2 x.f y.f)),38,true⟩] ?_ ?_
    ·refine A1 ?_;refine El (ι:={u:Unit // True}) (fun⟨u,_⟩=>([(0,az (some ga) 0 a.length ac),(1,az (some gb) 0 b.length bc),(4,dV g0),(5,dV g1),(6,bz i),(7,bz j),(10,dV g3),(11,bz (o.length))],[⟨some ga,100,ah aQ a,aN,false⟩,⟨some gb,100,ah aQ b,bN,false⟩,⟨some g0,40,Qe,10,true⟩,⟨some g1,40,jS (az ob 0 o.length oc) (rl 0),10,true⟩,⟨ob,63,ah bg o,oN,true⟩,⟨some g3,63,bg (aZ (m,d2 x.f y.f)),38,true⟩],0)) ⟨(),trivial⟩ ?_ (hL:=(rD [some 0,some 1,some 2,some 3,some 4,some 9]));rintro⟨u,_⟩;(try dsimp only);refine A2 ?_;refine Di [] ?_;refine A3 ?_;refine Rs 72 ?_ ?_<;>intro hb6
     ·have hop:0<o.length:=(by have:=of_decide_eq_true hb6;omega);obtain⟨p,hp⟩:∃p,o[o.length-1]? =some p:=⟨_,List.getElem?_eq_getElem (by omega)⟩;obtain⟨go,hgo⟩:=hobs.resolve_left (by omega);subst hgo;have hpq:=List.mem_of_getElem? hp;rw[hI] at hpq;obtain⟨q,hq,hqp⟩:=List.mem_map.1 hpq;have hord:¬bW m.f p.i.f<0:=by rw[<-hqp];exact qbD H hx hy hz hq
      have hqs:=(yu hsa hsb _ (qbE H hx hy hz hq)).1;have hqf:gY p.i.f<=100:=(by rw[<-hqp];exact Nat.le_trans (kw q.1) hqs);refine A2 ?_;refine L9 5 0 ?_;refine A3 ?_;refine(Aq ((o.length:Int)-1)) (by exact(congrArg some (wi (by omega) (by omega) rfl))) ?_;refine ai 4 ((o.length-1)*38) u32 jJ rfl rfl rfl rfl rfl (by omega) (by omega) (bM.ne (by decide) (by omega)) (by show 0+Int.toNat _*38=_;omega) ?_;refine Fg ((o.length-1)*38) 0 ?_;refine Fg ((o.length-1)*38+0) 0 ?_;refine aO (v:=RV p.i.f) 4 ((o.length-1)*38+0+0) _ rfl rfl rfl rfl iK (bM.sub hp 0 9 (by decide)) rfl (by decide) rfl ?_;refine Pc (gQ m.f p.i.f) ?_;refine A4 ?_;refine Cd ?_ ?_<;>intro hb7
      ·exact absurd (of_decide_eq_true hb7) hord
      ·refine A5 ?_;exact rC ⟨rfl,rfl,rfl,rfl,rfl,rfl,rfl,rfl,trivial⟩ (rD [some 0,some 1,some 2,some 3,some 4,some 5])
     ·refine A22 ?_;exact rC ⟨rfl,rfl,rfl,rfl,rfl,rfl,rfl,rfl,trivial⟩ (rD [some 0,some 1,some 2,some 3,some 4,some 5])
    let sX:List (Nat×Value)->List (Nat×Value):=fun l=>(0,az (some ga) 0 a.length ac)::(1,az (some gb) 0 b.length bc)::(4,dV g0)::(5,dV g1)::(6,bz i)::(7,bz j)::l;let sY:List aG->List aG:=fun l=>⟨some ga,100,ah aQ a,aN,false⟩::⟨some gb,100,ah aQ b,bN,false⟩::⟨some g0,40,Qe,10,true⟩::l;refine Bv (nt:=109) (Z:=Nat×(OR (0+o.length+1+(o.length-o.length)) 38)) (fun⟨g96,r3⟩=>sX []) (fun⟨g96,r3⟩=>sY [⟨some g1,40,jS (az r3.b 0 (0+o.length+1+(o.length-o.length)) r3.cap) (rl 0),10,true⟩,⟨ob,63,ah bg o,oN,true⟩,⟨some g3,63,bg (aZ (m,d2 x.f y.f)),38,true⟩,⟨r3.b,63,(ah bg o++bg (aZ (m,d2 x.f y.f)))++ah bg (o.drop o.length),r3.n,true⟩,⟨some g96,63,bg (aZ (m,d2 x.f y.f)),38,true⟩]) 16 [0,1,2,3,4,5,6,7,8,9,10,11,12,13,14,15] mixed (by kernel_rfl) (fun hd0=>?_) ?_
    ·refine bK (nt:=109) (Z:=Nat×(OR (0+o.length+1+(o.length-o.length)) 38)) (fun⟨g96,r3⟩=>sX [(10,dV g3),(11,bz (o.length)),(102,az r3.b 0 (0+o.length+1+(o.length-o.length)) r3.cap),(103,dV g1)]) (fun⟨g96,r3⟩=>sY [⟨some g1,40,jS (az ob 0 o.length oc) (rl 0),10,true⟩,⟨ob,63,ah bg o,oN,true⟩,⟨some g3,63,bg (aZ (m,d2 x.f y.f)),38,true⟩,⟨r3.b,63,(ah bg o++bg (aZ (m,d2 x.f y.f)))++ah bg (o.drop o.length),r3.n,true⟩,⟨some g96,63,bg (aZ (m,d2 x.f y.f)),38,true⟩]) 1 [15] (fun z=>?_) (fun hd1=>?_)
     ·obtain⟨g96,r3⟩:=z;(try dsimp only);refine FN 15 ?_
      ·refine Ss 3 ?_;refine A1 ?_;exact Nw hd0 ⟨g96,r3⟩ [0,1,2,3,4,5,6,7]
     refine bK (nt:=109) (Z:=Nat×(OR (0+o.length+1) 38)) (fun⟨g96,r2⟩=>sX [(10,dV g3),(11,bz (o.length)),(97,az r2.b 0 (0+o.length+1) r2.cap),(101,az ob (if oc=o.length then 0 else o.length*38) (o.length-o.length) (oc-o.length))]) (fun⟨g96,r2⟩=>sY [⟨some g1,40,jS (az ob 0 o.length oc) (rl 0),10,true⟩,⟨ob,63,ah bg o,oN,true⟩,⟨some g3,63,bg (aZ (m,d2 x.f y.f)),38,true⟩,⟨r2.b,63,ah bg o++bg (aZ (m,d2 x.f y.f)),r2.n,true⟩,⟨some g96,63,bg (aZ (m,d2 x.f y.f)),38,true⟩]) 3 [13,14,15] (fun z=>?_) (fun hd2=>?_)
     ·obtain⟨g96,r2⟩:=z;(try dsimp only);refine FN 13 ?_
      ·refine(Qo (s:=38) (len:=0+o.length+1) 6 4 (ah bg (o.drop o.length)) (fun r3=>[_,_,_,_,_,_,⟨r3.b,63,(ah bg o++bg (aZ (m,d2 x.f y.f)))++ah bg (o.drop o.length),r3.n,true⟩,_]) u32 Dy) (by exact(by rw[List.length_append,bM.length];show o.length*38+38=_;omega)) r2.h r2.hn (by exact(hobs.imp (fun e=>by omega) id)) (bM.dropT h3 (Nat.le_refl _)) (bM.lenDrop o o.length) (bM.ones _) (fun r3=>?_);refine A1 ?_;refine Nt 14 ?_;refine Fg 0 0 ?_;refine A1 ?_;exact Nw hd1 ⟨g96,r3⟩ [0,1,2,3,4,5,6,7]
     refine bK (nt:=109) (Z:=(OR (0+o.length) 38)×Nat) (fun⟨r,g96⟩=>sX [(10,dV g3),(11,bz (o.length)),(94,az r.b 0 (0+o.length) r.cap),(96,az (some g96) 0 1 1),(101,az ob (if oc=o.length then 0 else o.length*38) (o.length-o.length) (oc-o.length))]) (fun⟨r,g96⟩=>sY [⟨some g1,40,jS (az ob 0 o.length oc) (rl 0),10,true⟩,⟨ob,63,ah bg o,oN,true⟩,⟨some g3,63,bg (aZ (m,d2 x.f y.f)),38,true⟩,⟨r.b,63,ah bg o,r.n,true⟩,⟨some g96,63,bg (aZ (m,d2 x.f y.f)),38,true⟩]) 4 [8,13,14,15] (fun z=>?_) (fun hd3=>?_)
     ·obtain⟨r,g96⟩:=z;(try dsimp only);refine FN 8 ?_
      ·refine fK (s:=38) (len:=0+o.length) (n2:=1) 6 7 (bg (aZ (m,d2 x.f y.f))) (fun r2=>[_,_,_,_,_,_,⟨r2.b,63,ah bg o++bg (aZ (m,d2 x.f y.f)),r2.n,true⟩,_]) u32 Dy rfl rfl rfl rfl rfl rfl rfl rfl rfl rfl (by rw[bM.length,Nat.zero_add]) r.h r.hn (.inr ⟨_,rfl⟩) rfl rfl (bM.one (aZ (m,d2 x.f y.f))) (by omega) (fun _=>rfl) (fun r2=>?_);refine A1 ?_;exact Nw hd2 ⟨g96,r2⟩ [0,1,2,3,4,5,6,7]
     refine bK (nt:=109) (Z:=Nat×Nat) (fun⟨g89,g96⟩=>sX [(10,dV g3),(11,bz (o.length)),(89,az (some g89) 0 0 0),(93,az ob 0 o.length oc),(96,az (some g96) 0 1 1),(101,az ob (if oc=o.length then 0 else o.length*38) (o.length-o.length) (oc-o.length))]) (fun⟨g89,g96⟩=>sY [⟨some g1,40,jS (az ob 0 o.length oc) (rl 0),10,true⟩,⟨ob,63,ah bg o,oN,true⟩,⟨some g3,63,bg (aZ (m,d2 x.f y.f)),38,true⟩,⟨some g89,63,[],0,true⟩,⟨some g96,63,bg (aZ (m,d2 x.f y.f)),38,true⟩]) 5 [5,8,13,14,15] (fun z=>?_) (fun hd4=>?_)
     ·obtain⟨g89,g96⟩:=z;(try dsimp only);refine FN 5 ?_
      ·refine fK (s:=38) (len:=0) 6 4 (ah bg o) (fun r=>[_,_,_,_,_,_,⟨r.b,63,ah bg o,r.n,true⟩,_]) u32 Dy rfl rfl rfl rfl rfl rfl rfl rfl rfl rfl rfl (Nat.le_refl _) (Nat.le_refl _) hobs (List.take_of_length_le (by show(ah bg o).length<=_;rw[bM.length];exact Nat.le_refl _)) (bM.length o) (bM.ones _) (by omega) (fun _=>rfl) (fun r=>?_);refine A1 ?_;exact Nw hd3 ⟨r,g96⟩ [0,1,2,3,4,5,6,7]
     refine bK (nt:=109) (Z:=OR (0+o.length) 38) (fun r=>sX [(10,dV g3),(11,bz (o.length)),(94,az r.b 0 (0+o.length) r.cap),(95,Ie (aZ (m,d2 x.f y.f))),(101,az ob (if oc=o.length then 0 else o.length*38) (o.length-o.length) (oc-o.length))]) (fun r=>sY [⟨some g1,40,jS (az ob 0 o.length oc) (rl 0),10,true⟩,⟨ob,63,ah bg o,oN,true⟩,⟨some g3,63,bg (aZ (m,d2 x.f y.f)),38,true⟩,⟨r.b,63,ah bg o,r.n,true⟩]) 5 [7,8,13,14,15] (fun r=>?_) (fun hd5=>?_)
     ·(try dsimp only);refine FN 7 ?_
      ·refine(Bl 38 [(0,_)]) (oD) (fun g5=>?_);refine A1 ?_;exact Nw hd3 ⟨r,g5⟩ [0,1,2,3,4,5,6,7]
     refine bK (nt:=109) (Z:=Nat×(OR (0+o.length+1) 38)) (fun⟨g96,r2⟩=>sX [(10,dV g3),(11,bz (o.length)),(97,az r2.b 0 (0+o.length+1) r2.cap),(98,dV g1),(100,bz (o.length))]) (fun⟨g96,r2⟩=>sY [⟨some g1,40,jS (az ob 0 o.length oc) (rl 0),10,true⟩,⟨ob,63,ah bg o,oN,true⟩,⟨some g3,63,bg (aZ (m,d2 x.f y.f)),38,true⟩,⟨r2.b,63,ah bg o++bg (aZ (m,d2 x.f y.f)),r2.n,true⟩,⟨some g96,63,bg (aZ (m,d2 x.f y.f)),38,true⟩]) 5 [10,12,13,14,15] (fun z=>?_) (fun hd6=>?_)
     ·obtain⟨g96,r2⟩:=z;(try dsimp only);refine FN 10 ?_
      ·refine A2 ?_;refine Nt 12 ?_;refine iJ o.length u32 jJ rfl rfl rfl rfl (Nat.le_refl _) rfl rfl rfl ?_;refine A1 ?_;exact Nw hd2 ⟨g96,r2⟩ [0,1,2,3,4,5,6,7]
     refine bK (nt:=109) (Z:=Nat) (fun g96=>sX [(10,dV g3),(11,bz (o.length)),(93,az ob 0 o.length oc),(96,az (some g96) 0 1 1),(101,az ob (if oc=o.length then 0 else o.length*38) (o.length-o.length) (oc-o.length))]) (fun g96=>sY [⟨some g1,40,jS (az ob 0 o.length oc) (rl 0),10,true⟩,⟨ob,63,ah bg o,oN,true⟩,⟨some g3,63,bg (aZ (m,d2 x.f y.f)),38,true⟩,⟨some g96,63,bg (aZ (m,d2 x.f y.f)),38,true⟩]) 6 [0,5,8,13,14,15] (fun g96=>?_) (fun hd7=>?_)
     ·(try dsimp only);refine FN 0 ?_
      ·refine(Bl 0 []) (sZ) (fun g5=>?_);refine A1 ?_;exact Nw hd4 ⟨g5,g96⟩ [0,1,2,3,4,5,7,6]
     refine bK (nt:=109) (Z:=Nat) (fun g89=>sX [(10,dV g3),(11,bz (o.length)),(89,az (some g89) 0 0 0),(93,az ob 0 o.length oc),(95,Ie (aZ (m,d2 x.f y.f))),(101,az ob (if oc=o.length then 0 else o.length*38) (o.length-o.length) (oc-o.length))]) (fun g89=>sY [⟨some g1,40,jS (az ob 0 o.length oc) (rl 0),10,true⟩,⟨ob,63,ah bg o,oN,true⟩,⟨some g3,63,bg (aZ (m,d2 x.f y.f)),38,true⟩,⟨some g89,63,[],0,true⟩]) 6 [5,7,8,13,14,15] (fun g89=>?_) (fun hd8=>?_)
     ·(try dsimp only);refine cZ [5,7] (by kernel_rfl) rfl ⟨⟨_,rfl,?_⟩,⟨_,rfl,?_⟩,trivial⟩
      ·refine fK (s:=38) (len:=0) 6 4 (ah bg o) (fun r=>[_,_,_,_,_,_,⟨r.b,63,ah bg o,r.n,true⟩]) u32 Dy rfl rfl rfl rfl rfl rfl rfl rfl rfl rfl rfl (Nat.le_refl _) (Nat.le_refl _) hobs (List.take_of_length_le (by show(ah bg o).length<=_;rw[bM.length];exact Nat.le_refl _)) (bM.length o) (bM.ones _) (by omega) (fun _=>rfl) (fun r=>?_);refine A1 ?_;exact Nw hd5 r [0,1,2,3,4,5,6]
      ·refine(Bl 38 [(0,_)]) (oD) (fun g5=>?_);refine A1 ?_;exact Nw hd4 ⟨g89,g5⟩ [0,1,2,3,4,5,6,7]
     refine bK (nt:=109) (Z:=OR (0+o.length) 38) (fun r=>sX [(10,dV g3),(11,bz (o.length)),(94,az r.b 0 (0+o.length) r.cap),(101,az ob (if oc=o.length then 0 else o.length*38) (o.length-o.length) (oc-o.length))]) (fun r=>sY [⟨some g1,40,jS (az ob 0 o.length oc) (rl 0),10,true⟩,⟨ob,63,ah bg o,oN,true⟩,⟨some g3,63,bg (aZ (m,d2 x.f y.f)),38,true⟩,⟨r.b,63,ah bg o,r.n,true⟩]) 6 [6,7,8,13,14,15] (fun r=>?_) (fun hd9=>?_)
     ·(try dsimp only);refine FN 6 ?_
      ·refine X7 5 0 ?_;refine A1 ?_;exact Nw hd5 r [0,1,2,3,4,5,6]
     refine bK (nt:=109) (Z:=(OR (0+o.length) 38)×Nat) (fun⟨r,g96⟩=>sX [(10,dV g3),(11,bz (o.length)),(94,az r.b 0 (0+o.length) r.cap),(96,az (some g96) 0 1 1),(98,dV g1),(100,bz (o.length))]) (fun⟨r,g96⟩=>sY [⟨some g1,40,jS (az ob 0 o.length oc) (rl 0),10,true⟩,⟨ob,63,ah bg o,oN,true⟩,⟨some g3,63,bg (aZ (m,d2 x.f y.f)),38,true⟩,⟨r.b,63,ah bg o,r.n,true⟩,⟨some g96,63,bg (aZ (m,d2 x.f y.f)),38,true⟩]) 6 [8,10,12,13,14,15] (fun z=>?_) (fun hd10=>?_)
     ·obtain⟨r,g96⟩:=z;(try dsimp only);refine cZ [8,10] (by kernel_rfl) rfl ⟨⟨_,rfl,?_⟩,⟨_,rfl,?_⟩,trivial⟩
      ·refine fK (s:=38) (len:=0+o.length) (n2:=1) 6 7 (bg (aZ (m,d2 x.f y.f))) (fun r2=>[_,_,_,_,_,_,⟨r2.b,63,ah bg o++bg (aZ (m,d2 x.f y.f)),r2.n,true⟩,_]) u32 Dy rfl rfl rfl rfl rfl rfl rfl rfl rfl rfl (by rw[bM.length,Nat.zero_add]) r.h r.hn (.inr ⟨_,rfl⟩) rfl rfl (bM.one (aZ (m,d2 x.f y.f))) (by omega) (fun _=>rfl) (fun r2=>?_);refine A1 ?_;exact Nw hd6 ⟨g96,r2⟩ [0,1,2,3,4,5,6,7]
      ·refine A2 ?_;refine Nt 12 ?_;refine iJ o.length u32 jJ rfl rfl rfl rfl (Nat.le_refl _) rfl rfl rfl ?_;refine A1 ?_;exact Nw hd3 ⟨r,g96⟩ [0,1,2,3,4,5,6,7]
     refine bK (nt:=109) (Z:=Unit) (fun _=>sX [(10,dV g3),(11,bz (o.length)),(93,az ob 0 o.length oc),(95,Ie (aZ (m,d2 x.f y.f))),(101,az ob (if oc=o.length then 0 else o.length*38) (o.length-o.length) (oc-o.length))]) (fun _=>sY [⟨some g1,40,jS (az ob 0 o.length oc) (rl 0),10,true⟩,⟨ob,63,ah bg o,oN,true⟩,⟨some g3,63,bg (aZ (m,d2 x.f y.f)),38,true⟩]) 7 [0,5,7,8,13,14,15] (fun z=>?_) (fun hd11=>?_)
     ·(try dsimp only);refine cZ [0,7] (by kernel_rfl) rfl ⟨⟨_,rfl,?_⟩,⟨_,rfl,?_⟩,trivial⟩
      ·refine(Bl 0 []) (sZ) (fun g4=>?_);refine A1 ?_;exact Nw hd8 g4 [0,1,2,3,4,5,6]
      ·refine(Bl 38 [(0,_)]) (oD) (fun g4=>?_);refine A1 ?_;exact Nw hd7 g4 [0,1,2,3,4,5,6]
     refine bK (nt:=109) (Z:=Nat×Nat) (fun⟨g89,g96⟩=>sX [(10,dV g3),(11,bz (o.length)),(89,az (some g89) 0 0 0),(90,dV g1),(92,bz (o.length)),(96,az (some g96) 0 1 1),(101,az ob (if oc=o.length then 0 else o.length*38) (o.length-o.length) (oc-o.length))]) (fun⟨g89,g96⟩=>sY [⟨some g1,40,jS (az ob 0 o.length oc) (rl 0),10,true⟩,⟨ob,63,ah bg o,oN,true⟩,⟨some g3,63,bg (aZ (m,d2 x.f y.f)),38,true⟩,⟨some g89,63,[],0,true⟩,⟨some g96,63,bg (aZ (m,d2 x.f y.f)),38,true⟩]) 7 [2,4,5,8,13,14,15] (fun z=>?_) (fun hd12=>?_)
     ·obtain⟨g89,g96⟩:=z;(try dsimp only);refine FN 2 ?_
      ·refine A2 ?_;refine Nt 4 ?_;refine iI o.length u32 jJ rfl rfl rfl rfl (by omega) (by omega) rfl ?_;refine A1 ?_;exact Nw hd4 ⟨g89,g96⟩ [0,1,2,3,4,5,6,7]
     refine bK (nt:=109) (Z:=Nat) (fun g89=>sX [(10,dV g3),(11,bz (o.length)),(89,az (some g89) 0 0 0),(93,az ob 0 o.length oc),(101,az ob (if oc=o.length then 0 else o.length*38) (o.length-o.length) (oc-o.length))]) (fun g89=>sY [⟨some g1,40,jS (az ob 0 o.length oc) (rl 0),10,true⟩,⟨ob,63,ah bg o,oN,true⟩,⟨some g3,63,bg (aZ (m,d2 x.f y.f)),38,true⟩,⟨some g89,63,[],0,true⟩]) 7 [5,6,7,8,13,14,15] (fun g89=>?_) (fun hd13=>?_)
     ·(try dsimp only);refine cZ [5,6] (by kernel_rfl) rfl ⟨⟨_,rfl,?_⟩,⟨_,rfl,?_⟩,trivial⟩
      ·refine fK (s:=38) (len:=0) 6 4 (ah bg o) (fun r=>[_,_,_,_,_,_,⟨r.b,63,ah bg o,r.n,true⟩]) u32 Dy rfl rfl rfl rfl rfl rfl rfl rfl rfl rfl rfl (Nat.le_refl _) (Nat.le_refl _) hobs (List.take_of_length_le (by show(ah bg o).length<=_;rw[bM.length];exact Nat.le_refl _)) (bM.length o) (bM.ones _) (by omega) (fun _=>rfl) (fun r=>?_);refine A1 ?_;exact Nw hd9 r [0,1,2,3,4,5,6]
      ·refine X7 5 0 ?_;refine A1 ?_;exact Nw hd8 g89 [0,1,2,3,4,5,6]
     refine bK (nt:=109) (Z:=Nat×Nat) (fun⟨g89,g96⟩=>sX [(10,dV g3),(11,bz (o.length)),(89,az (some g89) 0 0 0),(93,az ob 0 o.length oc),(96,az (some g96) 0 1 1),(98,dV g1),(100,bz (o.length))]) (fun⟨g89,g96⟩=>sY [⟨some g1,40,jS (az ob 0 o.length oc) (rl 0),10,true⟩,⟨ob,63,ah bg o,oN,true⟩,⟨some g3,63,bg (aZ (m,d2 x.f y.f)),38,true⟩,⟨some g89,63,[],0,true⟩,⟨some g96,63,bg (aZ (m,d2 x.f y.f)),38,true⟩]) 7 [5,8,10,12,13,14,15] (fun z=>?_) (fun hd14=>?_)
     ·obtain⟨g89,g96⟩:=z;(try dsimp only);refine cZ [5,10] (by kernel_rfl) rfl ⟨⟨_,rfl,?_⟩,⟨_,rfl,?_⟩,trivial⟩
      ·refine fK (s:=38) (len:=0) 6 4 (ah bg o) (fun r=>[_,_,_,_,_,_,⟨r.b,63,ah bg o,r.n,true⟩,_]) u32 Dy rfl rfl rfl rfl rfl rfl rfl rfl rfl rfl rfl (Nat.le_refl _) (Nat.le_refl _) hobs (List.take_of_length_le (by show(ah bg o).length<=_;rw[bM.length];exact Nat.le_refl _)) (bM.length o) (bM.ones _) (by omega) (fun _=>rfl) (fun r=>?_);refine A1 ?_;exact Nw hd10 ⟨r,g96⟩ [0,1,2,3,4,5,6,7]
      ·refine A2 ?_;refine Nt 12 ?_;refine iJ o.length u32 jJ rfl rfl rfl rfl (Nat.le_refl _) rfl rfl rfl ?_;refine A1 ?_;exact Nw hd4 ⟨g89,g96⟩ [0,1,2,3,4,5,6,7]
     refine bK (nt:=109) (Z:=OR (0+o.length) 38) (fun r=>sX [(10,dV g3),(11,bz (o.length)),(94,az r.b 0 (0+o.length) r.cap),(95,Ie (aZ (m,d2 x.f y.f))),(98,dV g1),(100,bz (o.length))]) (fun r=>sY [⟨some g1,40,jS (az ob 0 o.length oc) (rl 0),10,true⟩,⟨ob,63,ah bg o,oN,true⟩,⟨some g3,63,bg (aZ (m,d2 x.f y.f)),38,true⟩,⟨r.b,63,ah bg o,r.n,true⟩]) 7 [7,8,10,12,13,14,15] (fun r=>?_) (fun hd15=>?_)
     ·(try dsimp only);refine cZ [7,10] (by kernel_rfl) rfl ⟨⟨_,rfl,?_⟩,⟨_,rfl,?_⟩,trivial⟩
      ·refine(Bl 38 [(0,_)]) (oD) (fun g5=>?_);refine A1 ?_;exact Nw hd10 ⟨r,g5⟩ [0,1,2,3,4,5,6,7]
      ·refine A2 ?_;refine Nt 12 ?_;refine iJ o.length u32 jJ rfl rfl rfl rfl (Nat.le_refl _) rfl rfl rfl ?_;refine A1 ?_;exact Nw hd5 r [0,1,2,3,4,5,6]
     refine bK (nt:=109) (Z:=Nat) (fun g96=>sX [(10,dV g3),(11,bz (o.length)),(90,dV g1),(92,bz (o.length)),(96,az (some g96) 0 1 1),(101,az ob (if oc=o.length then 0 else o.length*38) (o.length-o.length) (oc-o.length))]) (fun g96=>sY [⟨some g1,40,jS (az ob 0 o.length oc) (rl 0),10,true⟩,⟨ob,63,ah bg o,oN,true⟩,⟨some g3,63,bg (aZ (m,d2 x.f y.f)),38,true⟩,⟨some g96,63,bg (aZ (m,d2 x.f y.f)),38,true⟩]) 8 [0,2,4,5,8,13,14,15] (fun g96=>?_) (fun hd16=>?_)
     ·(try dsimp only);refine cZ [0,2] (by kernel_rfl) rfl ⟨⟨_,rfl,?_⟩,⟨_,rfl,?_⟩,trivial⟩
      ·refine(Bl 0 []) (sZ) (fun g5=>?_);refine A1 ?_;exact Nw hd12 ⟨g5,g96⟩ [0,1,2,3,4,5,7,6]
      ·refine A2 ?_;refine Nt 4 ?_;refine iI o.length u32 jJ rfl rfl rfl rfl (by omega) (by omega) rfl ?_;refine A1 ?_;exact Nw hd7 g96 [0,1,2,3,4,5,6]
     refine bK (nt:=109) (Z:=Unit) (fun _=>sX [(10,dV g3),(11,bz (o.length)),(93,az ob 0 o.length oc),(101,az ob (if oc=o.length then 0 else o.length*38) (o.length-o.length) (oc-o.length))]) (fun _=>sY [⟨some g1,40,jS (az ob 0 o.length oc) (rl 0),10,true⟩,⟨ob,63,ah bg o,oN,true⟩,⟨some g3,63,bg (aZ (m,d2 x.f y.f)),38,true⟩]) 8 [0,5,6,7,8,13,14,15] (fun z=>?_) (fun hd17=>?_)
     ·(try dsimp only);refine cZ [0,6] (by kernel_rfl) rfl ⟨⟨_,rfl,?_⟩,⟨_,rfl,?_⟩,trivial⟩
      ·refine(Bl 0 []) (sZ) (fun g4=>?_);refine A1 ?_;exact Nw hd13 g4 [0,1,2,3,4,5,6]
      ·refine X7 5 0 ?_;refine A1 ?_;exact Nw hd11 () [0,1,2,3,4,5]
     refine bK (nt:=109) (Z:=Nat) (fun g96=>sX [(10,dV g3),(11,bz (o.length)),(93,az ob 0 o.length oc),(96,az (some g96) 0 1 1),(98,dV g1),(100,bz (o.length))]) (fun g96=>sY [⟨some g1,40,jS (az ob 0 o.length oc) (rl 0),10,true⟩,⟨ob,63,ah bg o,oN,true⟩,⟨some g3,63,bg (aZ (m,d2 x.f y.f)),38,true⟩,⟨some g96,63,bg (aZ (m,d2 x.f y.f)),38,true⟩]) 8 [0,5,8,10,12,13,14,15] (fun g96=>?_) (fun hd18=>?_)
     ·(try dsimp only);refine cZ [0,10] (by kernel_rfl) rfl ⟨⟨_,rfl,?_⟩,⟨_,rfl,?_⟩,trivial⟩
      ·refine(Bl 0 []) (sZ) (fun g5=>?_);refine A1 ?_;exact Nw hd14 ⟨g5,g96⟩ [0,1,2,3,4,5,7,6]
      ·refine A2 ?_;refine Nt 12 ?_;refine iJ o.length u32 jJ rfl rfl rfl rfl (Nat.le_refl _) rfl rfl rfl ?_;refine A1 ?_;exact Nw hd7 g96 [0,1,2,3,4,5,6]
     refine bK (nt:=109) (Z:=Nat) (fun g89=>sX [(10,dV g3),(11,bz (o.length)),(89,az (some g89) 0 0 0),(90,dV g1),(92,bz (o.length)),(95,Ie (aZ (m,d2 x.f y.f))),(101,az ob (if oc=o.length then 0 else o.length*38) (o.length-o.length) (oc-o.length))]) (fun g89=>sY [⟨some g1,40,jS (az ob 0 o.length oc) (rl 0),10,true⟩,⟨ob,63,ah bg o,oN,true⟩,⟨some g3,63,bg (aZ (m,d2 x.f y.f)),38,true⟩,⟨some g89,63,[],0,true⟩]) 8 [2,4,5,7,8,13,14,15] (fun g89=>?_) (fun hd19=>?_)
     ·(try dsimp only);refine cZ [2,7] (by kernel_rfl) rfl ⟨⟨_,rfl,?_⟩,⟨_,rfl,?_⟩,trivial⟩
      ·refine A2 ?_;refine Nt 4 ?_;refine iI o.length u32 jJ rfl rfl rfl rfl (by omega) (by omega) rfl ?_;refine A1 ?_;exact Nw hd8 g89 [0,1,2,3,4,5,6]
      ·refine(Bl 38 [(0,_)]) (oD) (fun g5=>?_);refine A1 ?_;exact Nw hd12 ⟨g89,g5⟩ [0,1,2,3,4,5,6,7]
     refine bK (nt:=109) (Z:=Nat) (fun g89=>sX [(10,dV g3),(11,bz (o.length)),(89,az (some g89) 0 0 0),(93,az ob 0 o.length oc),(95,Ie (aZ (m,d2 x.f y.f))),(98,dV g1),(100,bz (o.length))]) (fun g89=>sY [⟨some g1,40,jS (az ob 0 o.length oc) (rl 0),10,true⟩,⟨ob,63,ah bg o,oN,true⟩,⟨some g3,63,bg (aZ (m,d2 x.f y.f)),38,true⟩,⟨some g89,63,[],0,true⟩]) 8 [5,7,8,10,12,13,14,15] (fun g89=>?_) (fun hd20=>?_)
     ·(try dsimp only);refine cZ [5,7,10] (by kernel_rfl) rfl ⟨⟨_,rfl,?_⟩,⟨_,rfl,?_⟩,⟨_,rfl,?_⟩,trivial⟩
      ·refine fK (s:=38) (len:=0) 6 4 (ah bg o) (fun r=>[_,_,_,_,_,_,⟨r.b,63,ah bg o,r.n,true⟩]) u32 Dy rfl rfl rfl rfl rfl rfl rfl rfl rfl rfl rfl (Nat.le_refl _) (Nat.le_refl _) hobs (List.take_of_length_le (by show(ah bg o).length<=_;rw[bM.length];exact Nat.le_refl _)) (bM.length o) (bM.ones _) (by omega) (fun _=>rfl) (fun r=>?_);refine A1 ?_;exact Nw hd15 r [0,1,2,3,4,5,6]
      ·refine(Bl 38 [(0,_)]) (oD) (fun g5=>?_);refine A1 ?_;exact Nw hd14 ⟨g89,g5⟩ [0,1,2,3,4,5,6,7]
      ·refine A2 ?_;refine Nt 12 ?_;refine iJ o.length u32 jJ rfl rfl rfl rfl (Nat.le_refl _) rfl rfl rfl ?_;refine A1 ?_;exact Nw hd8 g89 [0,1,2,3,4,5,6]
     refine bK (nt:=109) (Z:=OR (0+o.length) 38) (fun r=>sX [(10,dV g3),(11,bz (o.length)),(94,az r.b 0 (0+o.length) r.cap),(98,dV g1),(100,bz (o.length))]) (fun r=>sY [⟨some g1,40,jS (az ob 0 o.length oc) (rl 0),10,true⟩,⟨ob,63,ah bg o,oN,true⟩,⟨some g3,63,bg (aZ (m,d2 x.f y.f)),38,true⟩,⟨r.b,63,ah bg o,r.n,true⟩]) 8 [6,7,8,10,12,13,14,15] (fun r=>?_) (fun hd21=>?_)
     ·(try dsimp only);refine cZ [6,10] (by kernel_rfl) rfl ⟨⟨_,rfl,?_⟩,⟨_,rfl,?_⟩,trivial⟩
      ·refine X7 5 0 ?_;refine A1 ?_;exact Nw hd15 r [0,1,2,3,4,5,6]
      ·refine A2 ?_;refine Nt 12 ?_;refine iJ o.length u32 jJ rfl rfl rfl rfl (Nat.le_refl _) rfl rfl rfl ?_;refine A1 ?_;exact Nw hd9 r [0,1,2,3,4,5,6]
     refine bK (nt:=109) (Z:=Unit) (fun _=>sX [(10,dV g3),(11,bz (o.length)),(90,dV g1),(92,bz (o.length)),(95,Ie (aZ (m,d2 x.f y.f))),(101,az ob (if oc=o.length then 0 else o.length*38) (o.length-o.length) (oc-o.length))]) (fun _=>sY [⟨some g1,40,jS (az ob 0 o.length oc) (rl 0),10,true⟩,⟨ob,63,ah bg o,oN,true⟩,⟨some g3,63,bg (aZ (m,d2 x.f y.f)),38,true⟩]) 9 [0,2,4,5,7,8,13,14,15] (fun z=>?_) (fun hd22=>?_)
     ·(try dsimp only);refine cZ [0,2,7] (by kernel_rfl) rfl ⟨⟨_,rfl,?_⟩,⟨_,rfl,?_⟩,⟨_,rfl,?_⟩,trivial⟩
      ·refine(Bl 0 []) (sZ) (fun g4=>?_);refine A1 ?_;exact Nw hd19 g4 [0,1,2,3,4,5,6]
      ·refine A2 ?_;refine Nt 4 ?_;refine iI o.length u32 jJ rfl rfl rfl rfl (by omega) (by omega) rfl ?_;refine A1 ?_;exact Nw hd11 () [0,1,2,3,4,5]
      ·refine(Bl 38 [(0,_)]) (oD) (fun g4=>?_);refine A1 ?_;exact Nw hd16 g4 [0,1,2,3,4,5,6]
     refine bK (nt:=109) (Z:=Unit) (fun _=>sX [(10,dV g3),(11,bz (o.length)),(93,az ob 0 o.length oc),(95,Ie (aZ (m,d2 x.f y.f))),(98,dV g1),(100,bz (o.length))]) (fun _=>sY [⟨some g1,40,jS (az ob 0 o.length oc) (rl 0),10,true⟩,⟨ob,63,ah bg o,oN,true⟩,⟨some g3,63,bg (aZ (m,d2 x.f y.f)),38,true⟩]) 9 [0,5,7,8,10,12,13,14,15] (fun z=>?_) (fun hd23=>?_)
     ·(try dsimp only);refine cZ [0,7,10] (by kernel_rfl) rfl ⟨⟨_,rfl,?_⟩,⟨_,rfl,?_⟩,⟨_,rfl,?_⟩,trivial⟩
      ·refine(Bl 0 []) (sZ) (fun g4=>?_);refine A1 ?_;exact Nw hd20 g4 [0,1,2,3,4,5,6]
      ·refine(Bl 38 [(0,_)]) (oD) (fun g4=>?_);refine A1 ?_;exact Nw hd18 g4 [0,1,2,3,4,5,6]
      ·refine A2 ?_;refine Nt 12 ?_;refine iJ o.length u32 jJ rfl rfl rfl rfl (Nat.le_refl _) rfl rfl rfl ?_;refine A1 ?_;exact Nw hd11 () [0,1,2,3,4,5]
     refine bK (nt:=109) (Z:=Nat) (fun g89=>sX [(10,dV g3),(11,bz (o.length)),(89,az (some g89) 0 0 0),(90,dV g1),(92,bz (o.length)),(101,az ob (if oc=o.length then 0 else o.length*38) (o.length-o.length) (oc-o.length))]) (fun g89=>sY [⟨some g1,40,jS (az ob 0 o.length oc) (rl 0),10,true⟩,⟨ob,63,ah bg o,oN,true⟩,⟨some g3,63,bg (aZ (m,d2 x.f y.f)),38,true⟩,⟨some g89,63,[],0,true⟩]) 9 [2,4,5,6,7,8,13,14,15] (fun g89=>?_) (fun hd24=>?_)
     ·(try dsimp only);refine cZ [2,6] (by kernel_rfl) rfl ⟨⟨_,rfl,?_⟩,⟨_,rfl,?_⟩,trivial⟩
      ·refine A2 ?_;refine Nt 4 ?_;refine iI o.length u32 jJ rfl rfl rfl rfl (by omega) (by omega) rfl ?_;refine A1 ?_;exact Nw hd13 g89 [0,1,2,3,4,5,6]
      ·refine X7 5 0 ?_;refine A1 ?_;exact Nw hd19 g89 [0,1,2,3,4,5,6]
     refine bK (nt:=109) (Z:=Nat×Nat) (fun⟨g89,g96⟩=>sX [(10,dV g3),(11,bz (o.length)),(89,az (some g89) 0 0 0),(90,dV g1),(92,bz (o.length)),(96,az (some g96) 0 1 1),(98,dV g1),(100,bz (o.length))]) (fun⟨g89,g96⟩=>sY [⟨some g1,40,jS (az ob 0 o.length oc) (rl 0),10,true⟩,⟨ob,63,ah bg o,oN,true⟩,⟨some g3,63,bg (aZ (m,d2 x.f y.f)),38,true⟩,⟨some g89,63,[],0,true⟩,⟨some g96,63,bg (aZ (m,d2 x.f y.f)),38,true⟩]) 9 [2,4,5,8,10,12,13,14,15] (fun z=>?_) (fun hd25=>?_)
     ·obtain⟨g89,g96⟩:=z;(try dsimp only);refine cZ [2,10] (by kernel_rfl) rfl ⟨⟨_,rfl,?_⟩,⟨_,rfl,?_⟩,trivial⟩
      ·refine A2 ?_;refine Nt 4 ?_;refine iI o.length u32 jJ rfl rfl rfl rfl (by omega) (by omega) rfl ?_;refine A1 ?_;exact Nw hd14 ⟨g89,g96⟩ [0,1,2,3,4,5,6,7]
      ·refine A2 ?_;refine Nt 12 ?_;refine iJ o.length u32 jJ rfl rfl rfl rfl (Nat.le_refl _) rfl rfl rfl ?_;refine A1 ?_;exact Nw hd12 ⟨g89,g96⟩ [0,1,2,3,4,5,6,7]
     refine bK (nt:=109) (Z:=Nat) (fun g89=>sX [(10,dV g3),(11,bz (o.length)),(89,az (some g89) 0 0 0),(93,az ob 0 o.length oc),(98,dV g1),(100,bz (o.length))]) (fun g89=>sY [⟨some g1,40,jS (az ob 0 o.length oc) (rl 0),10,true⟩,⟨ob,63,ah bg o,oN,true⟩,⟨some g3,63,bg (aZ (m,d2 x.f y.f)),38,true⟩,⟨some g89,63,[],0,true⟩]) 9 [5,6,7,8,10,12,13,14,15] (fun g89=>?_) (fun hd26=>?_)
     ·(try dsimp only);refine cZ [5,6,10] (by kernel_rfl) rfl ⟨⟨_,rfl,?_⟩,⟨_,rfl,?_⟩,⟨_,rfl,?_⟩,trivial⟩
      ·refine fK (s:=38) (len:=0) 6 4 (ah bg o) (fun r=>[_,_,_,_,_,_,⟨r.b,63,ah bg o,r.n,true⟩]) u32 Dy rfl rfl rfl rfl rfl rfl rfl rfl rfl rfl rfl (Nat.le_refl _) (Nat.le_refl _) hobs (List.take_of_length_le (by show(ah bg o).length<=_;rw[bM.length];exact Nat.le_refl _)) (bM.length o) (bM.ones _) (by omega) (fun _=>rfl) (fun r=>?_);refine A1 ?_;exact Nw hd21 r [0,1,2,3,4,5,6]
      ·refine X7 5 0 ?_;refine A1 ?_;exact Nw hd20 g89 [0,1,2,3,4,5,6]
      ·refine A2 ?_;refine Nt 12 ?_;refine iJ o.length u32 jJ rfl rfl rfl rfl (Nat.le_refl _) rfl rfl rfl ?_;refine A1 ?_;exact Nw hd13 g89 [0,1,2,3,4,5,6]
     refine bK (nt:=109) (Z:=Unit) (fun _=>sX [(10,dV g3),(11,bz (o.length)),(90,dV g1),(92,bz (o.length)),(101,az ob (if oc=o.length then 0 else o.length*38) (o.length-o.length) (oc-o.length))]) (fun _=>sY [⟨some g1,40,jS (az ob 0 o.length oc) (rl 0),10,true⟩,⟨ob,63,ah bg o,oN,true⟩,⟨some g3,63,bg (aZ (m,d2 x.f y.f)),38,true⟩]) 10 [0,2,4,5,6,7,8,13,14,15] (fun z=>?_) (fun hd27=>?_)
     ·(try dsimp only);refine cZ [0,2,6] (by kernel_rfl) rfl ⟨⟨_,rfl,?_⟩,⟨_,rfl,?_⟩,⟨_,rfl,?_⟩,trivial⟩
      ·refine(Bl 0 []) (sZ) (fun g4=>?_);refine A1 ?_;exact Nw hd24 g4 [0,1,2,3,4,5,6]
      ·refine A2 ?_;refine Nt 4 ?_;refine iI o.length u32 jJ rfl rfl rfl rfl (by omega) (by omega) rfl ?_;refine A1 ?_;exact Nw hd17 () [0,1,2,3,4,5]
      ·refine X7 5 0 ?_;refine A1 ?_;exact Nw hd22 () [0,1,2,3,4,5]
     refine bK (nt:=109) (Z:=Nat) (fun g96=>sX [(10,dV g3),(11,bz (o.length)),(90,dV g1),(92,bz (o.length)),(96,az (some g96) 0 1 1),(98,dV g1),(100,bz (o.length))]) (fun g96=>sY [⟨some g1,40,jS (az ob 0 o.length oc) (rl 0),10,true⟩,⟨ob,63,ah bg o,oN,true⟩,⟨some g3,63,bg (aZ (m,d2 x.f y.f)),38,true⟩,⟨some g96,63,bg (aZ (m,d2 x.f y.f)),38,true⟩]) 10 [0,2,4,5,8,10,12,13,14,15] (fun g96=>?_) (fun hd28=>?_)
     ·(try dsimp only);refine cZ [0,2,10] (by kernel_rfl) rfl ⟨⟨_,rfl,?_⟩,⟨_,rfl,?_⟩,⟨_,rfl,?_⟩,trivial⟩
      ·refine(Bl 0 []) (sZ) (fun g5=>?_);refine A1 ?_;exact Nw hd25 ⟨g5,g96⟩ [0,1,2,3,4,5,7,6]
      ·refine A2 ?_;refine Nt 4 ?_;refine iI o.length u32 jJ rfl rfl rfl rfl (by omega) (by omega) rfl ?_;refine A1 ?_;exact Nw hd18 g96 [0,1,2,3,4,5,6]
      ·refine A2 ?_;refine Nt 12 ?_;refine iJ o.length u32 jJ rfl rfl rfl rfl (Nat.le_refl _) rfl rfl rfl ?_;refine A1 ?_;exact Nw hd16 g96 [0,1,2,3,4,5,6]
     refine bK (nt:=109) (Z:=Unit) (fun _=>sX [(10,dV g3),(11,bz (o.length)),(93,az ob 0 o.length oc),(98,dV g1),(100,bz (o.length))]) (fun _=>sY [⟨some g1,40,jS (az ob 0 o.length oc) (rl 0),10,true⟩,⟨ob,63,ah bg o,oN,true⟩,⟨some g3,63,bg (aZ (m,d2 x.f y.f)),38,true⟩]) 10 [0,5,6,7,8,10,12,13,14,15] (fun z=>?_) (fun hd29=>?_)
     ·(try dsimp only);refine cZ [0,6,10] (by kernel_rfl) rfl ⟨⟨_,rfl,?_⟩,⟨_,rfl,?_⟩,⟨_,rfl,?_⟩,trivial⟩
      ·refine(Bl 0 []) (sZ) (fun g4=>?_);refine A1 ?_;exact Nw hd26 g4 [0,1,2,3,4,5,6]
      ·refine X7 5 0 ?_;refine A1 ?_;exact Nw hd23 () [0,1,2,3,4,5]
      ·refine A2 ?_;refine Nt 12 ?_;refine iJ o.length u32 jJ rfl rfl rfl rfl (Nat.le_refl _) rfl rfl rfl ?_;refine A1 ?_;exact Nw hd17 () [0,1,2,3,4,5]
     refine bK (nt:=109) (Z:=Nat) (fun g89=>sX [(10,dV g3),(11,bz (o.length)),(89,az (some g89) 0 0 0),(90,dV g1),(92,bz (o.length)),(95,Ie (aZ (m,d2 x.f y.f))),(98,dV g1),(100,bz (o.length))]) (fun g89=>sY [⟨some g1,40,jS (az ob 0 o.length oc) (rl 0),10,true⟩,⟨ob,63,ah bg o,oN,true⟩,⟨some g3,63,bg (aZ (m,d2 x.f y.f)),38,true⟩,⟨some g89,63,[],0,true⟩]) 10 [2,4,5,7,8,10,12,13,14,15] (fun g89=>?_) (fun hd30=>?_)
     ·(try dsimp only);refine cZ [2,7,10] (by kernel_rfl) rfl ⟨⟨_,rfl,?_⟩,⟨_,rfl,?_⟩,⟨_,rfl,?_⟩,trivial⟩
      ·refine A2 ?_;refine Nt 4 ?_;refine iI o.length u32 jJ rfl rfl rfl rfl (by omega) (by omega) rfl ?_;refine A1 ?_;exact Nw hd20 g89 [0,1,2,3,4,5,6]
      ·refine(Bl 38 [(0,_)]) (oD) (fun g5=>?_);refine A1 ?_;exact Nw hd25 ⟨g89,g5⟩ [0,1,2,3,4,5,6,7]
      ·refine A2 ?_;refine Nt 12 ?_;refine iJ o.length u32 jJ rfl rfl rfl rfl (Nat.le_refl _) rfl rfl rfl ?_;refine A1 ?_;exact Nw hd19 g89 [0,1,2,3,4,5,6]
     refine bK (nt:=109) (Z:=Unit) (fun _=>sX [(10,dV g3),(11,bz (o.length)),(90,dV g1),(92,bz (o.length)),(95,Ie (aZ (m,d2 x.f y.f))),(98,dV g1),(100,bz (o.length))]) (fun _=>sY [⟨some g1,40,jS (az ob 0 o.length oc) (rl 0),10,true⟩,⟨ob,63,ah bg o,oN,true⟩,⟨some g3,63,bg (aZ (m,d2 x.f y.f)),38,true⟩]) 11 [0,2,4,5,7,8,10,12,13,14,15] (fun z=>?_) (fun hd31=>?_)
     ·(try dsimp only);refine cZ [0,2,7,10] (by kernel_rfl) rfl ⟨⟨_,rfl,?_⟩,⟨_,rfl,?_⟩,⟨_,rfl,?_⟩,⟨_,rfl,?_⟩,trivial⟩
      ·refine(Bl 0 []) (sZ) (fun g4=>?_);refine A1 ?_;exact Nw hd30 g4 [0,1,2,3,4,5,6]
      ·refine A2 ?_;refine Nt 4 ?_;refine iI o.length u32 jJ rfl rfl rfl rfl (by omega) (by omega) rfl ?_;refine A1 ?_;exact Nw hd23 () [0,1,2,3,4,5]
      ·refine(Bl 38 [(0,_)]) (oD) (fun g4=>?_);refine A1 ?_;exact Nw hd28 g4 [0,1,2,3,4,5,6]
      ·refine A2 ?_;refine Nt 12 ?_;refine iJ o.length u32 jJ rfl rfl rfl rfl (Nat.le_refl _) rfl rfl rfl ?_;refine A1 ?_;exact Nw hd22 () [0,1,2,3,4,5]
     refine bK (nt:=109) (Z:=Nat) (fun g89=>sX [(10,dV g3),(11,bz (o.length)),(89,az (some g89) 0 0 0),(90,dV g1),(92,bz (o.length)),(98,dV g1),(100,bz (o.length))]) (fun g89=>sY [⟨some g1,40,jS (az ob 0 o.length oc) (rl 0),10,true⟩,⟨ob,63,ah bg o,oN,true⟩,⟨some g3,63,bg (aZ (m,d2 x.f y.f)),38,true⟩,⟨some g89,63,[],0,true⟩]) 11 [2,4,5,6,7,8,10,12,13,14,15] (fun g89=>?_) (fun hd32=>?_)
     ·(try dsimp only);refine cZ [2,6,10] (by kernel_rfl) rfl ⟨⟨_,rfl,?_⟩,⟨_,rfl,?_⟩,⟨_,rfl,?_⟩,trivial⟩
      ·refine A2 ?_;refine Nt 4 ?_;refine iI o.length u32 jJ rfl rfl rfl rfl (by omega) (by omega) rfl ?_;refine A1 ?_;exact Nw hd26 g89 [0,1,2,3,4,5,6]
      ·refine X7 5 0 ?_;refine A1 ?_;exact Nw hd30 g89 [0,1,2,3,4,5,6]
      ·refine A2 ?_;refine Nt 12 ?_;refine iJ o.length u32 jJ rfl rfl rfl rfl (Nat.le_refl _) rfl rfl rfl ?_;refine A1 ?_;exact Nw hd24 g89 [0,1,2,3,4,5,6]
     refine Nt 1 ?_;refine Fg 0 0 ?_;refine A1 ?_;refine Nt 3 ?_;refine A2 ?_;refine Nt 9 ?_;refine Fg 0 0 ?_;refine A1 ?_;refine Nt 11 ?_;refine A2 ?_;refine cZ [0,2,6,10] (by kernel_rfl) rfl ⟨⟨_,rfl,?_⟩,⟨_,rfl,?_⟩,⟨_,rfl,?_⟩,⟨_,rfl,?_⟩,trivial⟩
     ·refine(Bl 0 []) (sZ) (fun g4=>?_);refine A1 ?_;exact Nw hd32 g4 [0,1,2,3,4,5,6]
     ·refine A2 ?_;refine Nt 4 ?_;refine iI o.length u32 jJ rfl rfl rfl rfl (by omega) (by omega) rfl ?_;refine A1 ?_;exact Nw hd29 () [0,1,2,3,4,5]
     ·refine X7 5 0 ?_;refine A1 ?_;exact Nw hd31 () [0,1,2,3,4,5]
     ·refine A2 ?_;refine Nt 12 ?_;refine iJ o.length u32 jJ rfl rfl rfl rfl (Nat.le_refl _) rfl rfl rfl ?_;refine A1 ?_;exact Nw hd27 () [0,1,2,3,4,5]
    rintro⟨g96,r3⟩;show At _ ⟨109,[(0,az (some ga) 0 a.length ac),(1,az (some gb) 0 b.length bc),(4,dV g0),(5,dV g1),(6,bz i),(7,bz j)],[⟨some ga,100,ah aQ a,aN,false⟩,⟨some gb,100,ah aQ b,bN,false⟩,⟨some g0,40,Qe,10,true⟩,⟨some g1,40,jS (az r3.b 0 (0+o.length+1+(o.length-o.length)) r3.cap) (rl 0),10,true⟩,⟨ob,63,ah bg o,oN,true⟩,⟨some g3,63,bg (aZ (m,d2 x.f y.f)),38,true⟩,⟨r3.b,63,(ah bg o++bg (aZ (m,d2 x.f y.f)))++ah bg (o.drop o.length),r3.n,true⟩,⟨some g96,63,bg (aZ (m,d2 x.f y.f)),38,true⟩]⟩ _;refine A4 ?_;refine Ar (((j+1:Nat):Int)) ?_;refine A3 ?_;exact Nl ⟨⟨j+1,o++[aZ (m,d2 x.f y.f)],r3.b,r3.n,r3.cap⟩,hjt,by show o++_=(pK a b i++AP x b (j+1)).map aZ;rw[qbC hy,hz,hI];simp,by have:=r3.h;simp at this ⊢;omega,r3.hn⟩ (hμ:=(by show b.length-(j+1)<b.length-j;omega)) (hL:=(au [some 0,some 1,some 2,some 3,some 6] ⟨pR,pR,pR,⟨_,rfl,aI (by rw[show(o++[aZ (m,d2 x.f y.f)]).length=(0+o.length+1+(o.length-o.length)) from by simp])⟩,⟨_,rfl,aI (by rw[bH,List.drop_length];simp[ah])⟩,trivial⟩ rfl rfl))
  ·have hge:j=b.length:=(by have:=of_decide_eq_false hb3;omega);subst hge;refine A8 ?_;refine Ar (((i+1:Nat):Int)) ?_;refine A3 ?_;exact Nl ⟨⟨i+1,o,ob,oN,oc⟩,hlt,by show o=(pK a b (i+1)).map aZ;rw[qe2 hx];exact hI,h3,h4⟩ (hμ:=(by show a.length-(i+1)<a.length-i;omega)) (hL:=eG.auto)
 ·have hge:i=a.length:=(by have:=of_decide_eq_false hb1;omega);subst hge;obtain rfl:o=(ay a b).map aZ:=by rw[hI,YL H]
  refine A9 ?_;refine(Sd [4]) (Qc ((ay a b).map aZ) ob oN oc h3 (by rw[List.length_map];omega) (Oq hsa hsb)) ?_;refine A1 ?_;refine Ss 3 ?_;refine A4 ?_;refine LH 3 0 ?_;refine Ss 2 ?_;refine A3 ?_;refine qiZ 2 fun w hL=>⟨⟨ob,oN,oc,h3⟩,?_,hL.pk [some 4]⟩;exact rfl
def GH(a:List Iv)(ab:Option Nat)(aN ac:Nat)(hac:a.length<=ac)(han:a.length<=2000000)(b:List Iv)(bb:Option Nat)(bN bc:Nat)(hbc:b.length<=bc:=by omega)(hbn:b.length<=2000000:=by omega):dh Tryz.prog 103 [⟨ab,61,ah bP a,aN,false⟩,⟨bb,61,ah bP b,bN,false⟩] [az ab 0 a.length ac,az bb 0 b.length bc] Unit (fun _=> .bool (decide (a=b))) (fun _=>[]):=by
 refine VZ 26 Tryz.func103 fun w hL0=>?_;refine zT ?_;refine Cd ?_ ?_<;>intro hb0
 ·have hle:a.length≠b.length:=by have e:=hb0;simp at e;omega
  refine A7 ?_;refine aH rfl (aj rfl) (fun w hL=>⟨(),?_,hL.pk []⟩);exact eB (decide_eq_false (fun e=>hle (by rw[e]))).symm
 ·have hle:a.length=b.length:=by have e:=hb0;simp at e;omega
  refine oO ?_;refine El (ι:={i:Nat // i<=a.length∧a.take i=b.take i}) (fun⟨i,hi,hI⟩=>([(0,az ab 0 a.length ac),(1,az bb 0 b.length bc),(11,az ab 0 a.length ac),(12,bz (a.length)),(13,bz i)],[⟨ab,61,ah bP a,aN,false⟩,⟨bb,61,ah bP b,bN,false⟩],a.length-i)) ⟨0,Nat.zero_le _,rfl⟩ ?_;rintro⟨i,hi,hI⟩;(try dsimp only);refine A6 ?_;refine Cd ?_ ?_<;>intro hb2
  ·have hlt:i<a.length:=(by have:=of_decide_eq_true hb2;omega);obtain⟨x,hx⟩:∃x,a[i]? =some x:=⟨a[i],List.getElem?_eq_getElem hlt⟩;obtain⟨y,hy⟩:∃y,b[i]? =some y:=⟨_,List.getElem?_eq_getElem (by omega)⟩;refine oO ?_;refine Di [] ?_;refine A2 ?_;refine ai 0 ((i)*20) F7 iC rfl rfl rfl rfl rfl (by omega) (by omega) (bI.ne (by decide) (by omega)) (by show 0+Int.toNat _*20=_;omega) ?_;refine aO (v:=kF x) 0 ((i)*20) _ rfl rfl rfl rfl iC (bI.sub hx 0 20 (by decide)) rfl (by decide) rfl ?_;refine A2 ?_;refine ai 1 ((i)*20) F7 iC rfl rfl rfl rfl rfl (by omega) (by omega) (bI.ne (by decide) (by omega)) (by show 0+Int.toNat _*20=_;omega) ?_;refine aO (v:=kF y) 1 ((i)*20) _ rfl rfl rfl rfl iC (bI.sub hy 0 20 (by decide)) rfl (by decide) rfl ?_;refine xM rfl rfl rfl rfl qiU (qjb _ _) ?_;refine A2 ?_;refine Cd ?_ ?_<;>intro hb3
   ·have hxy:x≠y:=by have e:=hb3;simpa using e
    refine oO ?_;refine aH rfl (aj rfl) (fun w hL=>⟨(),?_,hL.pk []⟩);exact eB (decide_eq_false (fun e=>hxy (by rw[e,hy] at hx;cases hx;rfl))).symm
   ·have hxy:x=y:=by have e:=hb3;simpa using e
    refine A4 ?_;refine Ar (((i+1:Nat):Int)) ?_;refine A3 ?_;exact Nl ⟨i+1,hlt,by rw[<-dD hx,<-dD hy,hI,hxy]⟩ (hL:=eG.auto)
  ·have hge:i=a.length:=(by have:=of_decide_eq_false hb2;omega);subst hge;refine oO ?_;refine aH rfl (aj rfl) (fun w hL=>⟨(),?_,hL.pk []⟩);exact eB (decide_eq_true (Hu hI hle)).symm
def KR(a:List Iv)(ab:Option Nat)(aN ac:Nat)(hac:a.length<=ac)(han:a.length<=2000000)(b:List Iv)(bb:Option Nat)(bN bc:Nat)(hbc:b.length<=bc:=by omega)(hbn:b.length<=2000000:=by omega):dh Tryz.prog 49 [⟨ab,61,ah bP a,aN,false⟩,⟨bb,61,ah bP b,bN,false⟩] [az ab 0 a.length ac,az bb 0 b.length bc] Unit (fun _=> .bool (decide (a=b))) (fun _=>[]):=by
 refine VZ 8 Tryz.func49 fun w hL0=>?_;refine A9 ?_;refine(Sd [0,1]) (GH a ab aN ac hac han b bb bN bc hbc hbn) ?_;refine A4 ?_;refine aH rfl (aj rfl) (fun w hL=>⟨(),?_,hL.pk []⟩);exact rfl
variable[Mo]
def Ip(x y:Bool):aP Tryz.prog 153 #[.bool x,.bool y] (.bool (x||y)):=by
 refine oG 9 Tryz.func153 fun w=>?_;refine A9 ?_;refine Rs 6 ?_ ?_<;>intro hb0
 ·refine A6 ?_;refine E0 ?_;exact eB (by cases x<;>cases y<;>simp_all)
 ·refine A6 ?_;refine E0 ?_;exact eB (by cases x<;>cases y<;>simp_all)
def Iq(x y:Bool):aP Tryz.prog 191 #[.bool x,.bool y] (.bool (x&& !y)):=by
 refine oG 10 Tryz.func191 fun w=>?_;refine A9 ?_;refine Rs 6 ?_ ?_<;>intro hb0
 ·refine A7 ?_;refine E0 ?_;exact eB (by cases x<;>cases y<;>simp_all)
 ·refine A7 ?_;refine E0 ?_;exact eB (by cases x<;>cases y<;>simp_all)
def Ir(a b:(Rl×Bool)×Int×Int)(ha:gY a.1.1<=50000:=by omega)(hb:gY b.1.1<=50000:=by omega):aP Tryz.prog 193 #[EvV a,EvV b] (.int .i64 (xg a.1 b.1)):=by
 refine oG 10 Tryz.func193 fun w=>?_;refine A2 ?_;refine Bp 12 (fun g0=>?_);refine Bp 12 (fun g1=>?_);refine A6 ?_;refine LH 0 0 ?_;refine A1 ?_;refine LH 1 0 ?_;refine Pc (rf a.1 b.1 ha hb) ?_;refine A4 ?_;refine E0 ?_;exact rfl
end Go.Proofs.YtaffcpfhedadhaaGreatDoor
namespace Go.Via
open Go Go.Sort Go.Proofs
abbrev KT:=(Rl×Bool)×Int×Int
theorem qbH{l:List Iv}{i:Nat}{x:Iv}(hx:l[i]? =some x):CG (l.take i)++[(x.b,1,0),(x.e,-1,0)]=CG (l.take (i+1)):=by
 rw[<-dD hx];unfold CG;rw[List.flatMap_append];rfl
theorem qbI{l:List Iv}{i:Nat}{x:Iv}(hx:l[i]? =some x):Ic (l.take i)++[(x.b,0,1),(x.e,0,-1)]=Ic (l.take (i+1)):=by
 rw[<-dD hx];unfold Ic;rw[List.flatMap_append];rfl
def evK(a b:List Iv):Nat->List KT
 |0=>[]
 |1=>CG a
 |_=>CG a++Ic b
theorem Qg(l:List Iv):(CG l).length=2*l.length:=by
 induction l with
 |nil=>rfl
 |cons x l ih=>show(_++CG l).length=_;rw[List.length_append,ih];simp;omega
theorem Qh(l:List Iv):(Ic l).length=2*l.length:=by
 induction l with
 |nil=>rfl
 |cons x l ih=>show(_++Ic l).length=_;rw[List.length_append,ih];simp;omega
def qbJ{a b:List Iv}{e:KT}(h:e∈CG a++Ic b):(∃i∈a++b,e.1=i.b∨e.1=i.e)∧(-1<=e.2.1∧e.2.1<=1)∧ -1<=e.2.2∧e.2.2<=1:=by
 rcases List.mem_append.1 h with h|h
 ·obtain⟨i,hi,h⟩:=List.mem_flatMap.1 h;simp only[List.mem_cons,List.not_mem_nil,or_false] at h;rcases h with rfl|rfl
  ·exact⟨⟨i,List.mem_append_left _ hi,.inl rfl⟩,by dsimp only;decide⟩
  ·exact⟨⟨i,List.mem_append_left _ hi,.inr rfl⟩,by dsimp only;decide⟩
 ·obtain⟨i,hi,h⟩:=List.mem_flatMap.1 h;simp only[List.mem_cons,List.not_mem_nil,or_false] at h;rcases h with rfl|rfl
  ·exact⟨⟨i,List.mem_append_right _ hi,.inl rfl⟩,by dsimp only;decide⟩
  ·exact⟨⟨i,List.mem_append_right _ hi,.inr rfl⟩,by dsimp only;decide⟩
def qjw{S:Rl->Prop}{a b:List Iv}(ha:kE S a)(hb:kE S b){e:KT}(h:e∈CG a++Ic b):S e.1.1:=by
 obtain⟨⟨i,hi,h1⟩,_⟩:=qbJ h;have h2:S i.f∧S i.t:=by
  rcases List.mem_append.1 hi with h|h;exact ha i h;exact hb i h
 rcases h1 with h1|h1<;>rw[h1];exact h2.1;exact h2.2
section
variable{α:Type}{κ:α->Int}{keep:Bool->Bool->Bool}
def stO(inn:Bool)(f:α):Option α:=if inn=true then some f else none
theorem vM{β:Type}{l:List β}{i:Nat}{x:β}(h:l[i]? =some x):l.drop i=x::l.drop (i+1):=by
 obtain⟨hl,rfl⟩:=List.getElem?_eq_some_iff.1 h;exact List.drop_eq_getElem_cons hl
theorem qbK{l:List (α×Int×Int)}{i:Nat}{x y:α×Int×Int}{m n:Int}{st:Option α}(hx:l[i]? =some x)(hy:l[i+1]? =some y)(h:κ x.1=κ y.1):LJ κ keep (l.drop i) m n st=LJ κ keep (l.drop (i+1)) (m+x.2.1) (n+x.2.2) st:=by
 rw[vM hx,vM hy];conv=>lhs;unfold LJ;rw[if_pos h]
theorem qbL{l:List (α×Int×Int)}{i:Nat}{x:α×Int×Int}{m n:Int}{st:Option α}(hx:l[i]? =some x)(h:∀y,l[i+1]? =some y->κ x.1≠κ y.1):
 LJ κ keep (l.drop i) m n st=match st,keep (decide (0<m+x.2.1)) (decide (0<n+x.2.2)) with
  |none,true=>LJ κ keep (l.drop (i+1)) (m+x.2.1) (n+x.2.2) (some x.1)
  |some f,false=>(f,x.1)::LJ κ keep (l.drop (i+1)) (m+x.2.1) (n+x.2.2) none
  |st,_=>LJ κ keep (l.drop (i+1)) (m+x.2.1) (n+x.2.2) st:=by
 rw[vM hx];cases hy:l[i+1]? with
 |none=>
  have e:l.drop (i+1)=[]:=List.drop_eq_nil_of_le (List.getElem?_eq_none_iff.1 hy);rw[e];cases st<;>cases hk:keep (decide (0<m+x.2.1)) (decide (0<n+x.2.2))<;>simp[LJ,hk]
 |some y=>
  rw[vM hy]
  conv=>lhs;unfold LJ
  rw[if_neg (h y hy)];cases st<;>cases hk:keep (decide (0<m+x.2.1)) (decide (0<n+x.2.2))<;>simp
theorem qhO{l:List (α×Int×Int)}{i:Nat}{x:α×Int×Int}{m n:Int}{inn now:Bool}{fb:α}(hx:l[i]? =some x)(h:∀y,l[i+1]? =some y->κ x.1≠κ y.1)(hn:keep (decide (0<m+x.2.1)) (decide (0<n+x.2.2))=now):
 LJ κ keep (l.drop i) m n (stO inn fb)=(if inn=true∧now=false then[(fb,x.1)] else[])++LJ κ keep (l.drop (i+1)) (m+x.2.1) (n+x.2.2) (stO now (if now=true∧inn=false then x.1 else fb)):=by
 rw[qbL hx h,hn];cases inn<;>cases now<;>rfl
end
def ivP(p:qK×qK):Iv:=Ib p.1 p.2
def Y4(κ:qK->Int)(keep:Bool->Bool->Bool)(l:List KT)(i:Nat)(m n:Int)(inn:Bool)(fb:qK):List Iv:=(LJ κ keep (l.drop i) m n (stO inn fb)).map ivP
theorem qe5{κ:qK->Int}{keep:Bool->Bool->Bool}{l:List KT}{m n:Int}{inn:Bool}{fb:qK}:Y4 κ keep l l.length m n inn fb=[]:=by
 unfold Y4;rw[List.drop_length];rfl
def qbM{S:Rl->Prop}{ρ:Rl->Int}(T:gU S ρ){op:Bool->Bool->Bool}(h0:op false false=false){a b:List Iv}(ha:kE S a)(hb:kE S b)(oa:Gp ρ a)(ob:Gp ρ b)
 {l:List KT}(hp:l.Perm (CG a++Ic b))(hl:l.Pairwise (fun x y=>aV ρ x.1<=aV ρ y.1))(fb:qK):Y4 (aV ρ) op l 0 0 0 false fb=kY op a b:=by
 obtain⟨s1,s2⟩:=uV T (uy (nG ha hb));unfold Y4 kY;rw[List.drop_zero];show List.map ivP (LJ (aV ρ) op l 0 0 none)=_;rw[UV T h0 ha hb oa ob s1 (fun x=>by rw[s2,sK]) hp hl]
 rfl
theorem qbN{S:Rl->Prop}{ρ:Rl->Int}(T:gU S ρ){a b:qK}(ha:S a.1)(hb:S b.1):xg a b=0↔aV ρ a=aV ρ b:=by
 rw[RQ T ha hb];unfold zX;split<;>(try split)<;>omega
theorem WY{S:Rl->Prop}{ρ:Rl->Int}(T:gU S ρ){a b:qK}(ha:S a.1)(hb:S b.1):xg a b<0↔aV ρ a<aV ρ b:=by
 rw[RQ T ha hb];unfold zX;split<;>(try split)<;>omega
theorem qbO{S:Rl->Prop}{ρ:Rl->Int}(T:gU S ρ){keep:Bool->Bool->Bool}{l:List KT}{i:Nat}{x y:KT}{m n:Int}{inn:Bool}{fb:qK}(hx:l[i]? =some x)(hy:l[i+1]? =some y)(sx:S x.1.1)(sy:S y.1.1)(h:xg x.1 y.1=0):Y4 (aV ρ) keep l i m n inn fb=Y4 (aV ρ) keep l (i+1) (m+x.2.1) (n+x.2.2) inn fb:=by
 unfold Y4;rw[qbK hx hy ((qbN T sx sy).1 h)]
def Far(ρ:Rl->Int)(l:List KT)(i:Nat)(x:KT):Prop:=∀y,l[i+1]? =some y->aV ρ x.1≠aV ρ y.1
def qe6{ρ:Rl->Int}{l:List KT}{i:Nat}{x:KT}(h:¬i+1<l.length):Far ρ l i x:=fun y hy=>by
 rw[List.getElem?_eq_none (by omega)] at hy;cases hy
def qhP{S:Rl->Prop}{ρ:Rl->Int}(T:gU S ρ){l:List KT}{i:Nat}{x y:KT}(hy:l[i+1]? =some y)(sx:S x.1.1)(sy:S y.1.1)(h:xg x.1 y.1≠0):Far ρ l i x:=fun z hz e=>by
 rw[hy] at hz;cases hz;exact h ((qbN T sx sy).2 e)
theorem AQ{ρ:Rl->Int}{keep:Bool->Bool->Bool}{l:List KT}{i:Nat}{x:KT}{m n:Int}{inn now:Bool}{fb:qK}(hx:l[i]? =some x)(h:Far ρ l i x)(hn:keep (decide (0<m+x.2.1)) (decide (0<n+x.2.2))=now):
 Y4 (aV ρ) keep l i m n inn fb=(if inn=true∧now=false then[Ib fb x.1] else[])++Y4 (aV ρ) keep l (i+1) (m+x.2.1) (n+x.2.2) now (if now=true∧inn=false then x.1 else fb):=by
 unfold Y4;rw[qhO hx h hn,List.map_append]
 congr 1
 split<;>rfl
def qla:List Value:=[aX,aY,aX,aY,aX,aY,aX,aY,.bool false,.bool false]
theorem qhQ:xh (rl 0,false)=qla:=by
 have h:=qby;show iD (rl 0)++[.bool false]=_;rw[h];rfl
abbrev EvS(S:Rl->Prop):={e:KT // S e.1.1∧gY e.1.1<=50000}
def evc{S:Rl->Prop}(x:EvS S):List Value:=kG x.1
theorem Qi{S:Rl->Prop}:jh (EvS S) evc 12:=⟨fun _=>rfl,fun x v hv=>xE.one x.1 v hv⟩
theorem Ox{S:Rl->Prop}(l:List (EvS S)):ah evc l=ah kG (l.map (·.1)):=by
 induction l with
 |nil=>rfl
 |cons x l ih=>rw[ig,List.map_cons,ig,ih];rfl
def qhR{S:Rl->Prop}{ρ:Rl->Int}(T:gU S ρ):SWO (Go.Proofs.ltOf fun x y:EvS S=>xg x.1.1 y.1.1):=by
 have h:∀x y:EvS S,Go.Proofs.ltOf (fun x y:EvS S=>xg x.1.1 y.1.1) x y=decide (aV ρ x.1.1<aV ρ y.1.1):=fun x y=>by
  unfold Go.Proofs.ltOf;exact decide_eq_decide.2 (WY T x.2.1 y.2.1)
 refine⟨fun x=>?_,fun x y z=>?_,fun x y z=>?_⟩
 ·rw[h];simp
 ·rw[h,h,h];simp only[decide_eq_true_eq];omega
 ·rw[h,h,h];simp only[decide_eq_false_iff_not];omega
def WZ{S:Rl->Prop}:∀{l:List KT},(∀e∈l,S e.1.1∧gY e.1.1<=50000)->∃l':List (EvS S),l'.map (·.1)=l
 |[],_=>⟨[],rfl⟩
 |e::l,h=>by
  obtain⟨l',e'⟩:=WZ fun x hx=>h x (List.mem_cons_of_mem _ hx)
  exact⟨⟨e,h e (List.mem_cons_self ..)⟩::l',by rw[List.map_cons,e']⟩
end Go.Via
namespace Go.Proofs.YtaffcpfhedadhaaGreatDoor
open Go Go.RowKit Go.Via Go.Sort Go.Shelf
def qbQ{S:Rl->Prop}{ρ:Rl->Int}(T:gU S ρ)(l:List KT)(b:Option Nat)(n cap:Nat)(hl:l.length<=cap)(hn:cap*12<=n)(hS:∀e∈l,S e.1.1∧gY e.1.1<=50000)(hc:l.length<=1000000:=by omega):
 Cm Tryz.prog 192 [⟨b,253,ah kG l,n,true⟩] [az b 0 l.length cap,.func (.func 193) #[] #[]] {l':List KT // l'.Perm l∧l'.Pairwise (fun x y=>aV ρ x.1<=aV ρ y.1)} (fun _=> .tuple #[]) (fun z=>[⟨b,253,ah kG z.1,n,true⟩]):=by
 refine⟨by kernel_rfl,fun B w hD hL=>?_⟩
 by_cases h0:l=[]
 ·subst h0;have h1:=AnyF.slices_SortFunc_none Tryz.sortEv (b.map fun g=>⟨g,0,none⟩) cap (.func (.func 193) #[] #[]) w;refine Calls.mono h1 ?_;rintro e w' ⟨rfl,rfl⟩;exact⟨⟨[],List.Perm.refl _,List.Pairwise.nil⟩,rfl,hL⟩
 ·cases b with
  |none=>
   have h2:=((hL.blk 0 _ rfl).2 rfl).1;have h3:=congrArg List.length h2;rw[xE.length] at h3;exact absurd (List.eq_nil_of_length_eq_zero (by rw[List.length_nil] at h3;omega)) h0
  |some g=>
   have hl0:=List.length_pos_iff.2 h0;have hn0:n≠0:=(by omega);obtain⟨l',rfl⟩:=WZ hS;have hd:∃x:EvS S,x∈l':=List.exists_mem_of_ne_nil _ (fun e=>h0 (by rw[e];rfl));obtain⟨d,_⟩:=hd
   letI:Inhabited (EvS S):=⟨d⟩
   rw[<-Ox] at hL;have hlen:(l'.map (·.1)).length=l'.toArray.size:=by simp
   have h1:=AnyQ.slices_SortFunc Tryz.sortEv 12 Tryz.isAgg253 Tryz.sizeOf253 evc (fun x=>rfl) (fun x v hv=>xE.one x.1 v hv) (fun x y:EvS S=>xg x.1.1 y.1.1) (qhR T) 193 #[] g 0 cap l'.toArray w
    (enters_of Tryz.func193 (by kernel_rfl) rfl) (@WO (EvS S) _ evc 12 mo1 trivial Tryz.prog 193 (fun x y=>xg x.1.1 y.1.1) (fun x y=> @Ir mo1 x.1 y.1 x.2.2 y.2.2) g 0 l'.toArray.size w)
    (Oj Qi (j:=0) hL rfl hn0) (hL.lt (k:=0) rfl rfl) (by simp at hc ⊢;omega)
   rw[<-hlen] at h1;refine Calls.mono h1 ?_;rintro e w' ⟨rfl,d',m,os,hp,hs,rfl⟩;rw[hlen] at hp hs;have hp':=qeP hp;have hs':=YH hs hp.1;refine⟨⟨d'.toList.map (·.1),hp'.map _,?_⟩,rfl,?_⟩
   ·rw[List.pairwise_map];refine hs'.imp fun {x y} h=>?_
    have h2:¬xg y.1.1 x.1.1<0:=of_decide_eq_false h;rw[WY T y.2.1 x.2.1] at h2;omega
   ·show bf B [⟨some g,253,ah kG (d'.toList.map (·.1)),n,true⟩] _;rw[<-Ox];have hx:=Fe Qi (j:=0) (m:=m) (os:=os) (l':=d'.toList) hL rfl (by rw[Qi.length,hp'.length_eq];simp at hl;omega) hn0
    simpa using hx
end Go.Proofs.YtaffcpfhedadhaaGreatDoor
namespace Go.Via
open Go
def qe7(a b c:Int)(i:Nat)(h:i<3):([.int .i64 a,.int .i64 b,.int .i64 c]:List Value)[i]? =some (.int .i64 ([a,b,c].getD i 0)):=by
 rcases(show i=0∨i=1∨i=2 by omega) with rfl|rfl|rfl<;>rfl
def or3(a b c:Int):Int:=if a≠0 then a else if b≠0 then b else c
theorem qe8{a b c:Int}{i:Nat}(hi:i<3)(h:∀j,j<i->[a,b,c].getD j 0=0)(hn:[a,b,c].getD i 0≠0):or3 a b c=[a,b,c].getD i 0:=by
 have h0:=h 0;have h1:=h 1;rcases(show i=0∨i=1∨i=2 by omega) with rfl|rfl|rfl<;>simp at hn h0 h1 ⊢ <;>unfold or3<;>simp_all
theorem qhT{a b c:Int}(h:∀j,j<3->[a,b,c].getD j 0=0):or3 a b c=0:=by
 have h0:=h 0 (by omega);have h1:=h 1 (by omega);have h2:=h 2 (by omega);simp at h0 h1 h2;unfold or3;simp_all
def qbR{a b c:Int}{i:Nat}(h:∀j,j<i->[a,b,c].getD j 0=0)(hn:[a,b,c].getD i 0=0):∀j,j<i+1->[a,b,c].getD j 0=0:=fun j hj=>by
 by_cases e:j=i
 ·rw[e];exact hn
 ·exact h j (by omega)
def opI(i:Iv):Int:=if i.fo=true then 1 else 0
theorem qbS(a b:PU):or3 (bW a.i.f b.i.f) (if opI a.i<opI b.i then-1 else if opI b.i<opI a.i then 1 else 0) (bW a.i.t b.i.t)=MF a b:=by
 unfold or3 MF qhC opI;cases a.i.fo<;>cases b.i.fo<;>simp
def Vg{f:Ln}(h:jo f<=10000):uB (qx f)<=10000:=by
 have:=rQ f;have:=rU f;have:=wP;unfold uB qx;dsimp only;omega
def Vh{f:Ln}(h:jo f<=10000):uB (qy f)<=10000:=by
 have:=rV f;have:=rW f;have:=wP;unfold uB qy;dsimp only;omega
def qfY(f:Ln)(t:Rl):(vw (qx f) t).c0=(jg f t).x0∧(vw (qx f) t).c1=(jg f t).x1∧(vw (qy f) t).c0=(jg f t).y0∧(vw (qy f) t).c1=(jg f t).y1:=by
 unfold vw jg
 by_cases h:t.r=0
 ·rw[if_pos h,if_pos h,if_pos h];exact⟨rfl,rfl,rfl,rfl⟩
 ·rw[if_neg h,if_neg h,if_neg h];unfold CJ qx qy;refine⟨?_,?_,?_,?_⟩<;>dsimp only<;>grind
theorem W9(f g:Ln)(t:Rl):(decide (vw (qw (qx f) (qx g)) t=⟨0,0,0⟩)&&decide (vw (qw (qy f) (qy g)) t=⟨0,0,0⟩))=pJ f g t:=by
 have z0:(0:Rat)-0=0:=(by grind);have hx:qw (qx f) (qx g)=qx (DN f g):=(by unfold qw qx DN;dsimp only;rw[z0]);have hy:qw (qy f) (qy g)=qy (DN f g):=(by unfold qw qy DN;dsimp only;rw[z0]);rw[hx,hy];obtain⟨h1,h2,h3,h4⟩:=qfY (DN f g) t;have z1:(vw (qx (DN f g)) t).c2=0:=by unfold vw;split<;>rfl
 have z2:(vw (qy (DN f g)) t).c2=0:=by unfold vw;split<;>rfl
 have e1:vw (qx (DN f g)) t=⟨(jg (DN f g) t).x0,(jg (DN f g) t).x1,0⟩:=(by rw[<-h1,<-h2,<-z1]);have e2:vw (qy (DN f g)) t=⟨(jg (DN f g) t).y0,(jg (DN f g) t).y1,0⟩:=(by rw[<-h3,<-h4,<-z2]);unfold pJ;rw[e1,e2,Bool.eq_iff_iff,Bool.and_eq_true,decide_eq_true_eq,decide_eq_true_eq,decide_eq_true_eq]
 generalize jg (DN f g) t=r
 obtain⟨a,b,c,d⟩:=r;simp[and_assoc]
end Go.Via
namespace Go.Proofs.YtaffcpfhedadhaaGreatDoor
open Go Go.RowKit Go.Via
variable[Mo]
def YO(a b c:Int)(g:Nat):dh Tryz.prog 218 [⟨some g,3,[.int .i64 a,.int .i64 b,.int .i64 c],3,false⟩] [az (some g) 0 3 3] Unit (fun _=> .int .i64 (or3 a b c)) (fun _=>[]):=by
 refine Md 18 Tryz.func218 fun w hL0=>?_;refine A19 ?_;refine El (ι:={i:Nat // i<=3∧∀j,j<i->[a,b,c].getD j 0=0}) (fun⟨i,hi,ha⟩=>([(3,.int .i64 0),(6,az (some g) 0 3 3),(7,.int .i64 3),(8,bz i)],[⟨some g,3,[.int .i64 a,.int .i64 b,.int .i64 c],3,false⟩],3-i)) ⟨0,by omega,fun j h=>absurd h (by omega)⟩ ?_;rintro⟨i,hi,ha⟩;(try dsimp only);refine A6 ?_;refine Cd ?_ ?_<;>intro hb1
 ·have hlt:i<3:=(by have:=of_decide_eq_true hb1;omega);refine A6 ?_;refine Ix 0 i ?_;refine OO (v:= .int .i64 ([a,b,c].getD i 0)) 0 i uq rfl rfl rfl rfl (qe7 a b c i hlt) ?_;refine lm ?_;refine Cd ?_ ?_<;>intro hb2
  ·have hne:[a,b,c].getD i 0≠0:=by simpa using hb2
   refine lX ?_;refine aH rfl (aj rfl) (fun w hL=>⟨(),?_,hL.pk []⟩);rw[qe8 hlt ha hne]
  ·have he:[a,b,c].getD i 0=0:=by simpa using hb2
   refine A4 ?_;refine Ar (((i+1:Nat):Int)) ?_;refine A3 ?_;exact Nl ⟨i+1,hlt,qbR ha he⟩
 ·have hge:i=3:=(by have:=of_decide_eq_false hb1;omega);subst hge;refine lX ?_;refine aH rfl (aj rfl) (fun w hL=>⟨(),?_,hL.pk []⟩);rw[qhT ha]
def KU(i:Iv):aP Tryz.prog 217 #[kF i] (.int .i64 (opI i)):=by
 refine xJ 5 Tryz.func217 fun w=>?_;refine A2 ?_;refine Bp 20 (fun g0=>?_);refine lm ?_;refine Cd ?_ ?_<;>intro hb0
 ·refine A7 ?_;refine E0 ?_;rw[opI,if_pos hb0]
 ·refine A8 ?_;refine E0 ?_;rw[opI,if_neg (by rw[hb0];decide)]
def YP(a b:PU)(ha:jV a.i<=50000:=by omega)(hb:jV b.i<=50000:=by omega):aP Tryz.prog 216 #[U2 a,U2 b] (.int .i64 (MF a b)):=by
 have a1:=Nat.le_trans (kw a.i) ha;have a2:=Nat.le_trans (kz a.i) ha;have b1:=Nat.le_trans (kw b.i) hb;have b2:=Nat.le_trans (kz b.i) hb;refine oG 31 Tryz.func216 fun w=>?_;refine A2 ?_;refine Bp 36 (fun g0=>?_);refine Bp 36 (fun g1=>?_);refine A9 ?_;refine Dp [] [0,1,2,3,4,5,7,8,9,11,12,13,16,17,18,19,20,21,6,10,14,15,22,23,24,25] ?_ (hc:=(oz [0,1,3,0,8,24,63,0,0,256,1023,0,0,4096,16383,32767,0,65536,196608,0,524288,1572864,4194303,8388607,16777215,33554431] (by kernel_rfl)));refine A2 ?_;refine L9 0 0 ?_;refine A2 ?_;refine L9 1 0 ?_;refine A2 ?_;refine yB 0 0 ?_;refine A2 ?_;refine yB 1 0 ?_;refine A2 ?_;refine L9 0 9 ?_;refine A2 ?_;refine L9 1 9 ?_;refine Pc (dL a.i.f b.i.f) ?_;refine gV [_] rfl rfl rfl rfl (KU a.i) ?_;refine gV [_] rfl rfl rfl rfl (KU b.i) ?_;refine Pc (xk (opI a.i) (opI b.i)) ?_;refine Pc (dL a.i.t b.i.t) ?_;refine(Bl 3 [(0,_),(1,_),(2,_)]) (qdx) (fun g2=>?_);refine(Sd [2]) (YO _ _ _ _) ?_;refine A4 ?_;refine E0 ?_;rw[qbS]
end Go.Proofs.YtaffcpfhedadhaaGreatDoor
namespace Go.Via
open Go Go.Sort Go.Proofs
abbrev PUS:={u:PU // jV u.i<=50000}
def puc(x:PUS):List Value:=aQ x.1
theorem Qj:jh PUS puc 36:=⟨fun _=>rfl,fun x v hv=>aC.one x.1 v hv⟩
theorem Oy(l:List PUS):ah puc l=ah aQ (l.map (·.1)):=by
 induction l with
 |nil=>rfl
 |cons x l ih=>rw[ig,List.map_cons,ig,ih];rfl
def Xa:∀{l:List PU},(∀u∈l,jV u.i<=50000)->∃l':List PUS,l'.map (·.1)=l
 |[],_=>⟨[],rfl⟩
 |e::l,h=>by
  obtain⟨l',e'⟩:=Xa fun x hx=>h x (List.mem_cons_of_mem _ hx)
  exact⟨⟨e,h e (List.mem_cons_self ..)⟩::l',by rw[List.map_cons,e']⟩
def Xb(l:List PU):Prop:=l.Pairwise fun x y=>decide (MF y x<0)=false
end Go.Via
namespace Go.Proofs.YtaffcpfhedadhaaGreatDoor
open Go Go.RowKit Go.Via Go.Sort Go.Shelf
def qfa(l:List PU)(b:Option Nat)(n cap:Nat)(hs:Xb l)(hz:∀u∈l,jV u.i<=50000)(hl:l.length<=cap:=by omega)(hn:cap*36<=n:=by omega)(hc:l.length<=1000000:=by omega):
 Cm Tryz.prog 264 [⟨b,201,ah aQ l,n,true⟩] [az b 0 l.length cap,.int .i64 0,.int .i64 (l.length:Nat),.func (.func 216) #[] #[]] Unit (fun _=> .tuple #[]) (fun _=>[⟨b,201,ah aQ l,n,true⟩]):=by
 refine⟨by kernel_rfl,fun B w hD hL=>?_⟩
 by_cases h0:l=[]
 ·subst h0;have h1:=AnyF.insertionSortCmpFunc_none Tryz.insPU (b.map fun g=>⟨g,0,none⟩) cap (.func (.func 216) #[] #[]) w;refine Calls.mono h1 ?_;rintro e w' ⟨rfl,rfl⟩;exact⟨(),rfl,hL⟩
 ·cases b with
  |none=>
   have h2:=((hL.blk 0 _ rfl).2 rfl).1;have h3:=congrArg List.length h2;rw[aC.length] at h3;exact absurd (List.eq_nil_of_length_eq_zero (by rw[List.length_nil] at h3;omega)) h0
  |some g=>
   have hl0:=List.length_pos_iff.2 h0;have hn0:n≠0:=(by omega);obtain⟨l',rfl⟩:=Xa hz;have hd:∃x:PUS,x∈l':=List.exists_mem_of_ne_nil _ (fun e=>h0 (by rw[e];rfl));obtain⟨d,_⟩:=hd
   letI:Inhabited PUS:=⟨d⟩
   rw[<-Oy] at hL;have hlen:(l'.map (·.1)).length=l'.toArray.size:=by simp
   have h1:=AnyQ.insertionSortCmpFunc Tryz.insPU 36 Tryz.isAgg201 Tryz.sizeOf201 puc (fun x=>rfl) (fun x v hv=>aC.one x.1 v hv) (fun x y:PUS=>MF x.1 y.1) 216 #[] g 0 cap 0 l'.toArray.size l'.toArray w
    (enters_of Tryz.func216 (by kernel_rfl) rfl) (@WO PUS _ puc 36 mo1 trivial Tryz.prog 216 (fun x y=>MF x.1 y.1) (fun x y=> @YP mo1 x.1 y.1 x.2 y.2) g 0 l'.toArray.size w)
    (Oj Qj (j:=0) hL rfl hn0) (hL.lt (k:=0) rfl rfl) (Nat.zero_le _) (Nat.le_refl _) (by simp at hc ⊢;omega)
   rw[<-hlen] at h1;refine Calls.mono h1 ?_;rintro e w' ⟨rfl,m,os,rfl⟩;have hid:Sort.insertionSort (ltOf fun x y:PUS=>MF x.1 y.1) l'.toArray 0 (l'.map (·.1)).length=l'.toArray:=by
    rw[List.length_map];refine PW ?_;have:=List.pairwise_map.1 hs;exact this
   rw[hid];refine⟨(),rfl,?_⟩;rw[<-Oy];have hx:=Fe Qj (j:=0) (m:=m) (os:=os) (l':=l') hL rfl (by rw[Qj.length];simp at hl;omega) hn0
   simpa using hx
end Go.Proofs.YtaffcpfhedadhaaGreatDoor
namespace Go.Via
open Go
instance{n s:Nat}:Nonempty (OR n s):=⟨⟨none,n*s,n,Nat.le_refl _,Nat.le_refl _⟩⟩
theorem rq{l:List PU}{i:Nat}{x:PU}(hx:l[i]? =some x):aF (l.take i)++iH x=aF (l.take (i+1)):=by
 rw[<-dD hx];unfold aF;rw[List.flatMap_append];simp
def yY(t:Rl)(f:Ln):PU:=⟨⟨t,t,false,false⟩,f⟩
def mM(x:PU):PU:=⟨⟨x.i.f,x.i.t,true,true⟩,x.f⟩
theorem qbT{x:PU}(h1:x.i.fo=false)(h2:fJ x.i=true):iH x=[yY x.i.f x.f]:=by unfold iH;rw[h1,h2];rfl
theorem qbU{x:PU}(h1:x.i.fo=false)(h2:fJ x.i=false)(h3:x.i.tp=false):iH x=[yY x.i.f x.f,mM x,yY x.i.t x.f]:=by unfold iH;rw[h1,h2,h3];rfl
theorem qbV{x:PU}(h1:x.i.fo=false)(h2:fJ x.i=false)(h3:x.i.tp=true):iH x=[yY x.i.f x.f,mM x]:=by unfold iH;rw[h1,h2,h3];rfl
theorem qbW{x:PU}(h1:x.i.fo=true)(h2:fJ x.i=true):iH x=[]:=by unfold iH;rw[h1,h2];rfl
theorem qbX{x:PU}(h1:x.i.fo=true)(h2:fJ x.i=false)(h3:x.i.tp=false):iH x=[mM x,yY x.i.t x.f]:=by unfold iH;rw[h1,h2,h3];rfl
theorem qbY{x:PU}(h1:x.i.fo=true)(h2:fJ x.i=false)(h3:x.i.tp=true):iH x=[mM x]:=by unfold iH;rw[h1,h2,h3];rfl
theorem Oz{l:List PU}{u:PU}{t:Rl}(h:l[l.length-1]? =some u):qh l t=(decide (u.i.t=t)&& !u.i.tp):=by
 unfold qh;rw[List.getLast?_eq_getElem?,h]
theorem YQ{l:List PU}{t:Rl}(h:¬0<l.length):qh l t=false:=by
 have:l=[]:=List.eq_nil_of_length_eq_zero (by omega);subst this;rfl
def YR{l:List PU}{t:Rl}(h:¬0<l.length):ui l t=none:=by
 have:l=[]:=List.eq_nil_of_length_eq_zero (by omega);subst this;rfl
def qfb{l:List PU}{u:PU}{t:Rl}(h:l[l.length-1]? =some u)(h1:u.i.t≠t):ui l t=none:=by
 unfold ui;rw[List.getLast?_eq_getElem?,h];dsimp only;rw[if_neg fun e=>h1 e.1]
def qfc{l:List PU}{u:PU}{t:Rl}(h:l[l.length-1]? =some u)(h1:fJ u.i=true):ui l t=none:=by
 unfold ui;rw[List.getLast?_eq_getElem?,h];dsimp only;rw[if_neg fun e=>by rw[e.2] at h1;cases h1]
def qfd{l:List PU}{u:PU}{t:Rl}(h:l[l.length-1]? =some u)(h1:u.i.t=t)(h2:fJ u.i=false):ui l t=some u:=by
 unfold ui;rw[List.getLast?_eq_getElem?,h];dsimp only;rw[if_pos ⟨h1,h2⟩]
def qbZ{l:List PU}{u:PU}{t:Rl}(h:ui l t=some u):l[l.length-1]? =some u∧u.i.t=t∧fJ u.i=false:=by
 obtain⟨h1,h2⟩:=yc h;rw[List.getLast?_eq_getElem?] at h1;exact⟨h1,h2⟩
def Xc(ob:Option Nat)(n:Nat):Option PU->Option Addr
 |none=>none
 |some _=>some ⟨ob.getD 0,(n-1)*36,none⟩
def o9(A:List PU):Nat->Option PU
 |0=>none
 |i+1=>A[i]?
def nrm(A:List PU)(i:Nat)(o:List PU):List PU:=uX (o9 A i) o (A.drop i)
theorem sU{A:List PU}{i:Nat}{x:PU}{o:List PU}(hx:A[i]? =some x):nrm A i o=nrm A (i+1) (kL o (o9 A i) x A[i+1]?):=by
 unfold nrm;rw[vM hx];show uX (some x) (kL o (o9 A i) x (A.drop (i+1)).head?) (A.drop (i+1))=_;rw[List.head?_drop];show _=uX (A[i]?) _ _;rw[hx]
def qfe{A o:List PU}:nrm A A.length o=o:=by unfold nrm;rw[List.drop_length];cases o9 A A.length<;>rfl
theorem Tz{o:List PU}{u v:PU}(h:o[o.length-1]? =some u):o.set (o.length-1) v=jl o v:=by
 have hne:o≠[]:=fun e=>by rw[e] at h;simp at h
 have e:o=o.dropLast++[u]:=by
  have h2:o.getLast? =some u:=(by rw[List.getLast?_eq_getElem?];exact h);exact qi h2
 unfold jl;rw[e];simp
def AU(o:List PU)(prev:Option PU)(x:PU):Bool:=match prev with
 |some p=>if fJ p.i=true∧p.i.f=x.i.f∧qh o x.i.f=false then false else x.i.fo
 |none=>x.i.fo
section
variable{o:List PU}{prev next:Option PU}{x b:PU}
theorem qlb(hi:fJ x.i=false)(hb:ui o x.i.f=some b)(h1:b.i.tp=false)(h2:b.f=x.f):kL o prev x next=jl o ⟨⟨b.i.f,x.i.t,b.i.fo,true⟩,b.f⟩:=by
 unfold kL;rw[hi,hb];dsimp only;rw[if_pos ⟨h1,h2⟩]
def qjx(hi:fJ x.i=false)(hb:ui o x.i.f=some b)(h:¬(b.i.tp=false∧b.f=x.f)):kL o prev x next=o++[⟨⟨x.i.f,x.i.t,AU o prev x,x.i.tp⟩,x.f⟩]:=by
 unfold kL;rw[hi,hb];dsimp only;rw[if_neg h];rfl
def qlc(hi:fJ x.i=false)(hb:ui o x.i.f=none):kL o prev x next=o++[⟨⟨x.i.f,x.i.t,AU o prev x,x.i.tp⟩,x.f⟩]:=by
 unfold kL;rw[hi,hb];rfl
theorem qld(hi:fJ x.i=true)(hb:ui o x.i.f=some b)(h:pJ b.f x.f x.i.f=true):kL o prev x next=jl o ⟨⟨b.i.f,b.i.t,b.i.fo,false⟩,b.f⟩:=by
 unfold kL;rw[hi,hb];dsimp only;rw[if_pos h]
def zk(o:List PU)(next:Option PU)(x:PU):List PU:=match next with
 |some n=>if n.i.f=x.i.f∧pJ n.f x.f x.i.f=true then o else o++[⟨x.i,jg x.f x.i.f⟩]
 |none=>o++[⟨x.i,jg x.f x.i.f⟩]
def qle(hi:fJ x.i=true)(hb:ui o x.i.f=some b)(h:pJ b.f x.f x.i.f=false):kL o prev x next=zk o next x:=by
 unfold kL;rw[hi,hb];dsimp only;rw[if_neg (by rw[h];decide)];rfl
def qlf(hi:fJ x.i=true)(hb:ui o x.i.f=none):kL o prev x next=zk o next x:=by
 unfold kL;rw[hi,hb];rfl
def qfZ(h:prev=none):AU o prev x=x.i.fo:=by rw[h];rfl
def GI{p:PU}(h:prev=some p)(h1:¬(fJ p.i=true∧p.i.f=x.i.f∧qh o x.i.f=false)):AU o prev x=x.i.fo:=by
 rw[h];unfold AU;dsimp only;rw[if_neg h1]
def qb3{p:PU}(h:prev=some p)(h1:fJ p.i=true)(h2:p.i.f=x.i.f)(h3:qh o x.i.f=false):AU o prev x=false:=by
 rw[h];unfold AU;dsimp only;rw[if_pos ⟨h1,h2,h3⟩]
theorem qf0(h:next=none):zk o next x=o++[⟨x.i,jg x.f x.i.f⟩]:=by rw[h];rfl
theorem qhV{n:PU}(h:next=some n)(h1:n.i.f=x.i.f)(h2:pJ n.f x.f x.i.f=true):zk o next x=o:=by rw[h];unfold zk;dsimp only;rw[if_pos ⟨h1,h2⟩]
theorem Vj{n:PU}(h:next=some n)(h1:¬(n.i.f=x.i.f∧pJ n.f x.f x.i.f=true)):zk o next x=o++[⟨x.i,jg x.f x.i.f⟩]:=by rw[h];unfold zk;dsimp only;rw[if_neg h1]
end
def qjy{o:List PU}{next:Option PU}{x n:PU}(h:next=some n)(h1:n.i.f=x.i.f):zk o next x=if pJ n.f x.f x.i.f=true then o else o++[⟨x.i,jg x.f x.i.f⟩]:=by
 cases hs:pJ n.f x.f x.i.f
 ·rw[Vj h (fun e=>by rw[hs] at e;cases e.2)];rfl
 ·rw[qhV h h1 hs];rfl
def TA{A:List PU}{i:Nat}{p:PU}(hi:0<i)(hp:A[i-1]? =some p):o9 A i=some p:=by
 obtain⟨j,rfl⟩:∃j,i=j+1:=⟨i-1,by omega⟩;exact hp
def YS{S:Rl->Prop}{ρ:Rl->Int}(T:gU S ρ){l:List PU}(hs:qH ρ l)(he:Go.Via.Ends S l){i:Nat}{u x:PU}(hi:0<i)(hu:l[i-1]? =some u)(hx:l[i]? =some x):E5 u.i x.i=true:=by
 obtain⟨h1,rfl⟩:=List.getElem?_eq_some_iff.1 hu;obtain⟨h2,rfl⟩:=List.getElem?_eq_some_iff.1 hx;have:=List.pairwise_iff_getElem.1 hs.1 (i-1) i h1 h2 (by omega);exact(Su T (he _ (List.getElem_mem h1)).2 (he _ (List.getElem_mem h2)).1).2 this
def KW{l:List PU}{a b:Nat}(hz:∀u∈l,jV u.i<=a∧jo u.f<=b):∀x∈aF l,jV x.i<=a∧jo x.f<=b:=fun x hx=>by
 obtain⟨u,hu,hx⟩:=List.mem_flatMap.1 hx;obtain⟨h1,h2⟩:=hz u hu;have h3:=kw u.i;have h4:=kz u.i;unfold iH at hx;rcases List.mem_append.1 hx with hx|hx
 ·split at hx
  ·cases hx
  ·rw[List.mem_singleton] at hx;subst hx;exact⟨xC (Nat.le_trans h3 h1) (Nat.le_trans h3 h1),h2⟩
 ·split at hx
  ·cases hx
  ·rcases List.mem_cons.1 hx with hx|hx
   ·subst hx;exact⟨xC (Nat.le_trans h3 h1) (Nat.le_trans h4 h1),h2⟩
   ·split at hx
    ·cases hx
    ·rw[List.mem_singleton] at hx;subst hx;exact⟨xC (Nat.le_trans h4 h1) (Nat.le_trans h4 h1),h2⟩
def Vk{o:List PU}{k n:Nat}{i:Iv}{f:Ln}(h:∀u∈o,jo u.f<=n)(hf:jo f<=n):∀u∈o.set k ⟨i,f⟩,jo u.f<=n:=fun u hu=>by
 rcases List.mem_or_eq_of_mem_set hu with h1|h1
 ·exact h u h1
 ·subst h1;exact hf
def Qk{o:List PU}{n:Nat}{i:Iv}{f:Ln}(h:∀u∈o,jo u.f<=n)(hf:jo f<=n):∀u∈o++[⟨i,f⟩],jo u.f<=n:=fun u hu=>by
 rcases List.mem_append.1 hu with h1|h1
 ·exact h u h1
 ·rw[List.mem_singleton] at h1;subst h1;exact hf
def Xd{f:Ln}{t:Rl}(hf:jo f<=1000)(ht:gY t<=1000):jo (jg f t)<=8000:=by
 have h3:=sO t;have a0:=rQ f;have a1:=rU f;have a2:=rV f;have a3:=rW f;have z:=wP;have h1:dw (wL (qx f) t.p)<=5000:=by
  have h:=xB (qx f) t.p;have e:dw (qx f).c2<=2:=z;have e0:dw (qx f).c0=dw f.x0:=rfl;have e1:dw (qx f).c1=dw f.x1:=rfl;omega
 have h2:dw (wL (qy f) t.p)<=5000:=by
  have h:=xB (qy f) t.p;have e:dw (qy f).c2<=2:=z;have e0:dw (qy f).c0=dw f.y0:=rfl;have e1:dw (qy f).c1=dw f.y1:=rfl;omega
 unfold jg
 split
 ·show max (max (dw (wL (qx f) t.p)) (dw 0)) (max (dw (wL (qy f) t.p)) (dw 0))<=8000;omega
 ·omega
end Go.Via
namespace Go.Proofs.YtaffcpfhedadhaaGreatDoor
open Go
def qff:Tryz.prog.underlying 242=some (.pointer 201):=by kernel_rfl
end Go.Proofs.YtaffcpfhedadhaaGreatDoor
namespace Go.Via
open Go
def kQ(s:sV):List Value:=[.int .u8 (s.time:Nat),.int .u8 (s.x:Nat),.int .u8 (s.y:Nat),.int .u8 (s.kind:Nat)]
def SpV(s:sV):Value:= .agg #[.int .u8 (s.time:Nat),.int .u8 (s.x:Nat),.int .u8 (s.y:Nat),.int .u8 (s.kind:Nat)]
theorem kJ:jh sV kQ 4:=⟨fun _=>rfl,fun x v hv=>List.all_eq_true.1 (show(kQ x).all (·.oneCell')=true from rfl) v hv⟩
def YT(s:sV):Prop:=s.time<256∧s.x<256∧s.y<256∧s.kind<256
def GK(s:zy):List Value:=[.bool (decide ((s.t:Rat).num<0)),.string (bQ (s.t:Rat).num.natAbs),.bool false,.string (dm (s.t:Rat)),.bool (decide ((s.x:Rat).num<0)),.string (bQ (s.x:Rat).num.natAbs),.bool false,.string (dm (s.x:Rat)),.bool (decide ((s.y:Rat).num<0)),.string (bQ (s.y:Rat).num.natAbs),.bool false,.string (dm (s.y:Rat))]
def SmV(s:zy):Value:= .agg #[.bool (decide ((s.t:Rat).num<0)),.string (bQ (s.t:Rat).num.natAbs),.bool false,.string (dm (s.t:Rat)),.bool (decide ((s.x:Rat).num<0)),.string (bQ (s.x:Rat).num.natAbs),.bool false,.string (dm (s.x:Rat)),.bool (decide ((s.y:Rat).num<0)),.string (bQ (s.y:Rat).num.natAbs),.bool false,.string (dm (s.y:Rat))]
def jh.subP{α:Type}{c:α->List Value}{k:Nat}(h:jh α c k)(pre:List Value){l:List α}{i:Nat}{x:α}(hx:l[i]? =some x)(o n:Nat)(hn:o+n<=k):((pre++ah c l).drop (pre.length+(i*k+o))).take n=((c x).drop o).take n:=by
 rw[List.drop_length_add_append];exact h.sub hx o n hn
def uk(last:zy)(s:sV):zy:=⟨last.t+1+(s.time%8:Nat),(s.x%64:Nat),(s.y%64:Nat)⟩
def swS(last:zy)(s:sV):zy:=⟨last.t,(s.y%64:Nat),(s.x%64:Nat)⟩
def ul(o:List PU)(alone:Bool)(f n:zy):PU:=⟨⟨rl (f.t:Rat),rl (n.t:Rat),!o.isEmpty&& !alone,false⟩,qen f n⟩
def lL(s:zy):PU:=⟨⟨rl (s.t:Rat),rl (s.t:Rat),false,false⟩,⟨(s.x:Rat),0,(s.y:Rat),0⟩⟩
theorem xH{α:Type}{l:List α}{i:Nat}{s:α}(hx:l[i]? =some s):l.drop i=s::l.drop (i+1):=by
 obtain⟨h1,h2⟩:=List.getElem?_eq_some_iff.1 hx;rw[<-h2,List.getElem_cons_drop]
section
variable{l:List sV}{i:Nat}{s:sV}{last:zy}{alone:Bool}{o:List PU}
theorem qb4(hx:l[i]? =some s)(hk:s.kind%8=0):iT (l.drop i) last alone o=iT (l.drop (i+1)) (uk last s) true o:=by
 rw[xH hx,iT];simp only[hk];rfl
theorem qb5(hx:l[i]? =some s)(hk:s.kind%8=1):iT (l.drop i) last alone o=iT (l.drop (i+1)) (uk last s) false (o++[ul o alone (swS last s) (uk last s)]):=by
 rw[xH hx,iT];simp only[hk];rfl
theorem qb6(hx:l[i]? =some s)(h0:s.kind%8≠0)(hk:s.kind%8≠1):iT (l.drop i) last alone o=iT (l.drop (i+1)) (uk last s) false (o++[ul o alone last (uk last s)]):=by
 rw[xH hx,iT];simp only[if_neg h0,if_neg hk,decide_eq_false h0];rfl
theorem Xe:iT (l.drop l.length) last alone o=if alone=true then o++[lL last] else o:=by
 rw[List.drop_length,iT];rfl
end
structure Ja(s:zy)(n:Nat):Prop where
 t0:0<=s.t
 t1:s.t+8*n<=100
 x0:0<=s.x
 x1:s.x<=63
 y0:0<=s.y
 y1:s.y<=63
def GL{a:zy}{s:sV}{n:Nat}(h:Ja a (n+1)):Ja (uk a s) n:=by
 have h0:=h.t0;have h1:=h.t1;exact⟨by show 0<=a.t+1+_;omega,by show a.t+1+((s.time%8:Nat):Int)+8*n<=100;omega,by show(0:Int)<=((s.x%64:Nat):Int);omega,by show((s.x%64:Nat):Int)<=63;omega,by show(0:Int)<=((s.y%64:Nat):Int);omega,by show((s.y%64:Nat):Int)<=63;omega⟩
def qb7{a:zy}{s:sV}{n:Nat}(h:Ja a n):Ja (swS a s) n:=
 ⟨h.t0,h.t1,by show(0:Int)<=((s.y%64:Nat):Int);omega,by show((s.y%64:Nat):Int)<=63;omega,by show(0:Int)<=((s.x%64:Nat):Int);omega,by show((s.x%64:Nat):Int)<=63;omega⟩
theorem Ja.t{a:zy}{n:Nat}(h:Ja a n):dw (a.t:Rat)<=2:=nV (by have:=h.t0;omega) (by have:=h.t1;omega)
theorem Ja.x{a:zy}{n:Nat}(h:Ja a n):dw (a.x:Rat)<=2:=nV (by have:=h.x0;omega) (by have:=h.x1;omega)
theorem Ja.y{a:zy}{n:Nat}(h:Ja a n):dw (a.y:Rat)<=2:=nV (by have:=h.y0;omega) (by have:=h.y1;omega)
def qfg{a b:zy}{m n:Nat}(ha:Ja a m)(hb:Ja b n):jo (qen a b)<=15:=by
 have dt:=Bi hb.t ha.t;have dx:=Bi hb.x ha.x;have dy:=Bi hb.y ha.y;have sx:=Ep dx dt;have sy:=Ep dy dt;have qx:=Bi ha.x (wB sx ha.t);have qy:=Bi ha.y (wB sy ha.t);unfold jo qen;dsimp only;omega
def Sm2(u:PU):Prop:=SmE 2 u.i.f∧SmE 2 u.i.t∧jo u.f<=15
def Xf{a:zy}{n:Nat}(h:Ja a n):SmE 2 (rl (a.t:Rat)):=⟨⟨_,rfl⟩,yV h.t (Nat.le_refl _)⟩
def Xg{o:List PU}{alone:Bool}{a b:zy}{m n:Nat}(ha:Ja a m)(hb:Ja b n):Sm2 (ul o alone a b):=⟨Xf ha,Xf hb,qfg ha hb⟩
def YU{a:zy}{n:Nat}(h:Ja a n):Sm2 (lL a):=⟨Xf h,Xf h,by
 have:=h.x;have:=h.y;have:=wP;show max (max (dw (a.x:Rat)) (dw 0)) (max (dw (a.y:Rat)) (dw 0))<=15;omega⟩
def yZ{α:Type}{P:α->Prop}{o:List α}{x:α}(ho:∀u∈o,P u)(hx:P x):∀u∈o++[x],P u:=fun u hu=>by
 rcases List.mem_append.1 hu with h|h
 ·exact ho u h
 ·rw[List.mem_singleton] at h;exact h▸hx
def DY:∀{l:List sV} {last:zy} {alone:Bool} {o:List PU},Ja last l.length->(∀u∈o,Sm2 u)->∀u∈iT l last alone o,Sm2 u
 |[],last,alone,o,h,ho=>by
  rw[iT]
  split
  ·exact yZ ho (YU h)
  ·exact ho
 |s::l,last,alone,o,h,ho=>by
  by_cases h0:s.kind%8=0
  ·rw[show iT (s::l) last alone o=iT l (uk last s) true o from qb4 (l:=s::l) (i:=0) rfl h0];exact DY (GL h) ho
  ·by_cases h1:s.kind%8=1
   ·rw[show iT (s::l) last alone o=_ from qb5 (l:=s::l) (i:=0) rfl h1];exact DY (l:=l) (GL h) (yZ ho (Xg (qb7 h) (GL h)))
   ·rw[show iT (s::l) last alone o=_ from qb6 (l:=s::l) (i:=0) rfl h0 h1];exact DY (l:=l) (GL h) (yZ ho (Xg h (GL h)))
def Jb:∀{l:List sV} {last:zy} {alone:Bool} {o:List PU},(alone=true∨0<o.length)->0<(iT l last alone o).length∧(iT l last alone o).length<=o.length+l.length+1
 |[],last,alone,o,h=>by
  rw[iT]
  split
  ·simp
  ·rename_i ha;exact⟨h.resolve_left ha,by simp⟩
 |s::l,last,alone,o,h=>by
  by_cases h0:s.kind%8=0
  ·rw[show iT (s::l) last alone o=iT l (uk last s) true o from qb4 (l:=s::l) (i:=0) rfl h0];have:=Jb (l:=l) (last:=uk last s) (alone:=true) (o:=o) (.inl rfl);simp only[List.length_cons];omega
  ·by_cases h1:s.kind%8=1
   ·rw[show iT (s::l) last alone o=_ from qb5 (l:=s::l) (i:=0) rfl h1];have:=Jb (l:=l) (last:=uk last s) (alone:=false) (o:=o++[ul o alone (swS last s) (uk last s)]) (.inr (by simp));simp only[List.length_append,List.length_cons,List.length_nil] at this ⊢;rw[show List.drop (0+1) (s::l)=l from rfl];omega
   ·rw[show iT (s::l) last alone o=_ from qb6 (l:=s::l) (i:=0) rfl h0 h1];have:=Jb (l:=l) (last:=uk last s) (alone:=false) (o:=o++[ul o alone last (uk last s)]) (.inr (by simp));simp only[List.length_append,List.length_cons,List.length_nil] at this ⊢;rw[show List.drop (0+1) (s::l)=l from rfl];omega
def st0(t x y:Nat):zy:=⟨(t%16:Nat),(x%64:Nat),(y%64:Nat)⟩
def KX{t x y n:Nat}(hn:n<=6):Ja (st0 t x y) n:=⟨by show(0:Int)<=((t%16:Nat):Int);omega,by show((t%16:Nat):Int)+8*n<=100;omega,by show(0:Int)<=((x%64:Nat):Int);omega,by show((x%64:Nat):Int)<=63;omega,by show(0:Int)<=((y%64:Nat):Int);omega,by show((y%64:Nat):Int)<=63;omega⟩
def GM(t x y:Nat)(l:List sV):List PU:=iT l (st0 t x y) true []
theorem yz{t x y:Nat}{l:List sV}(h6:l.length<=6):iF t x y l=qL (GM t x y l):=by
 unfold iF GM;rw[List.take_of_length_le h6];rfl
section
variable{t x y:Nat}{l:List sV}
def GN(h6:l.length<=6):Go.Via.Ends (SmE 2) (GM t x y l):=fun u hu=>by
 have h:=DY (l:=l) (KX h6) (o:=[]) (by simp) u hu;exact⟨h.1,h.2.1⟩
def KY{t x y:Nat}{l:List sV}:qH jE (GM t x y l):=(BO (l:=l) (last:=st0 t x y) (alone:=true) (out:=[]) ⟨List.Pairwise.nil,by simp⟩ (by simp[Go.Via.Ends]) (by simp)).1
def KZ(h6:l.length<=6):0<(GM t x y l).length∧(GM t x y l).length<=7:=by
 have:=Jb (l:=l) (last:=st0 t x y) (alone:=true) (o:=[]) (.inl rfl);unfold GM;simp only[List.length_nil] at this;omega
def Xh(h6:l.length<=6):∀u∈GM t x y l,jV u.i<=1000∧jo u.f<=1000:=fun u hu=>by
 have h:=DY (l:=l) (KX h6) (o:=[]) (by simp) u hu;exact⟨xC (Nat.le_trans h.1.2 (by omega)) (Nat.le_trans h.2.1.2 (by omega)),Nat.le_trans h.2.2 (by omega)⟩
def TB{f:Ln}{t:Rl}(hf:jo f<=15)(ht:gY t<=2):jo (jg f t)<=100:=by
 have h3:=sO t;have a0:=rQ f;have a1:=rU f;have a2:=rV f;have a3:=rW f;have z:=wP;have h1:dw (wL (qx f) t.p)<=50:=by
  have h:=xB (qx f) t.p;have e:dw (qx f).c2<=2:=z;have e0:dw (qx f).c0=dw f.x0:=rfl;have e1:dw (qx f).c1=dw f.x1:=rfl;omega
 have h2:dw (wL (qy f) t.p)<=50:=by
  have h:=xB (qy f) t.p;have e:dw (qy f).c2<=2:=z;have e0:dw (qy f).c0=dw f.y0:=rfl;have e1:dw (qy f).c1=dw f.y1:=rfl;omega
 unfold jg
 split
 ·show max (max (dw (wL (qx f) t.p)) (dw 0)) (max (dw (wL (qy f) t.p)) (dw 0))<=100;omega
 ·omega
def OA(h6:l.length<=6):Go.Via.Ends (SmE 2) (iF t x y l):=by
 rw[yz h6];exact(NY (Ov 2) (KY) (GN h6)).2
def La(h6:l.length<=6):Hw (iF t x y l):=fun u hu=>by
 have he:=OA h6 u hu;refine⟨xC (Nat.le_trans he.1.2 (by omega)) (Nat.le_trans he.2.2 (by omega)),?_⟩;rw[yz h6] at hu;refine NZ (P:=fun f=>jo f<=100) (fun v hv=>?_) u hu;have h:=DY (l:=l) (KX h6) (o:=[]) (by simp) v hv;exact⟨Nat.le_trans h.2.2 (by omega),TB h.2.2 h.1.2,TB h.2.2 h.2.1.2⟩
def Lc(h6:l.length<=6):(iF t x y l).length<=21:=by
 rw[yz h6];have:= @N7 (GM t x y l);have:=(KZ (t:=t) (x:=x) (y:=y) h6).2;omega
end
def TC{t x y u v w:Nat}{l m:List sV}:FB (iF t x y l) (iF u v w m):=⟨(EY t x y l).1,(EY u v w m).1,(EY t x y l).2,(EY u v w m).2⟩
def jh.neP{α:Type}{c:α->List Value}{k:Nat}(h:jh α c k)(hk:0<k)(pre:List Value){l:List α}(hl:0<l.length):pre++ah c l≠[]:=fun e=>h.ne hk hl (List.append_eq_nil_iff.1 e).2
def Xi{f a:zy}{s:sV}(h:f.t=a.t):((uk a s).t:Rat)-(f.t:Rat)≠0:=fun e=>by
 have e1:((uk a s).t:Rat)=(f.t:Rat):=(by grind);have e2:=Rat.intCast_inj.1 e1;rw[h] at e2;have e3:a.t+1+((s.time%8:Nat):Int)=a.t:=e2;omega
def qfh{n:Nat}{a:zy}(h:Ja a n):(if-9223372036854775808<=(a.t:Rat).num∧(a.t:Rat).num<=9223372036854775807 then(a.t:Rat).num else 0)=a.t:=by
 have h0:=h.t0;have h1:=h.t1;rw[Rat.num_intCast,if_pos ⟨by omega,by omega⟩]
def qhX{last:zy}{s:sV}{n:Nat}{f:zy}(h:Ja last n)(hf:f=if s.kind%8=1 then swS last s else last):Ja f n∧f.t=last.t:=by
 subst hf;split
 ·exact⟨qb7 h,rfl⟩
 ·exact⟨h,rfl⟩
def Xj{l:List sV}{i:Nat}{s:sV}{last f:zy}{alone:Bool}{o:List PU}(hx:l[i]? =some s)(h0:s.kind%8≠0)(hf:f=if s.kind%8=1 then swS last s else last):iT (l.drop i) last alone o=iT (l.drop (i+1)) (uk last s) false (o++[ul o alone f (uk last s)]):=by
 subst hf
 by_cases h1:s.kind%8=1
 ·rw[if_pos h1];exact qb5 hx h1
 ·rw[if_neg h1];exact qb6 hx h0 h1
theorem qfi{o:List PU}{alone:Bool}{f n:zy}(h:o.isEmpty=false):(ul o alone f n).i=⟨rl (f.t:Rat),rl (n.t:Rat),!alone,false⟩:=by unfold ul;rw[h];rfl
theorem qfj{o:List PU}{alone:Bool}{f n:zy}(h:o.isEmpty=true):(ul o alone f n).i=⟨rl (f.t:Rat),rl (n.t:Rat),false,false⟩:=by unfold ul;rw[h];rfl
end Go.Via
