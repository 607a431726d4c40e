/-
  Part 31 (chapter 32): lemmas, walks. Each theorem states its own conditions.
-/
import Derived.Test.YtaffcpfhedadhaaGreatDoorA12
import Derived.Test.YtaffcpfhedadhaaGreatDoorA13
import Derived.Test.YtaffcpfhedadhaaGreatDoorA18
import Derived.Test.YtaffcpfhedadhaaGreatDoorA26
import Derived.Test.YtaffcpfhedadhaaGreatDoorA30
set_option linter.all false
set_option maxRecDepth 20000
set_option maxHeartbeats 20000000
section
variable{P Q:Prop}{T:Type}{R:T->Prop}
def qgn(h:P:=by
 refine bP [14] (by kernel_rfl) ⟨⟨_,rfl,?_⟩,trivial⟩
 ·exact qj8):=h
def qj8(h:P:=by
 refine XY (s:=52) (len:=o.length) (n2:=1) 2 4 (fun r=>[_,_,⟨some r.g,151,ah UH o++UH (⟨fE x.i y.i,x.f,y.f⟩),r.n,true⟩,_,_]) qjw qij rfl rfl rfl rfl rfl rfl rfl rfl rfl rfl rfl rfl (Po.length o) h3 h4 rfl (Po.one (⟨fE x.i y.i,x.f,y.f⟩)) (by omega) (fun _=>rfl) (fun r=>?_);refine A1 ?_;refine bP [15] (by kernel_rfl) ⟨⟨_,rfl,?_⟩,trivial⟩
 ·exact qj9):=h
def qj9(h:P:=by
 refine A2 ?_;refine CB rfl ?_;refine A2 ?_;refine Di [] ?_;refine A2 ?_;refine ai 0 ((i)*36) kU jD rfl rfl rfl rfl rfl (by omega) (by omega) (aB.ne (by decide) (by omega)) (by show 0+Int.toNat _*36=_;omega) ?_;refine Fg ((i)*36) 0 ?_;refine aI (v:=kG x.i) 0 ((i)*36+0) _ rfl rfl rfl rfl iR (aB.sub hx 0 20 (by decide)) rfl (by decide) rfl ?_;refine A2 ?_;refine ai 1 ((k)*36) kU jD rfl rfl rfl rfl rfl (by omega) (by omega) (aB.ne (by decide) (by omega)) (by show 0+Int.toNat _*36=_;omega) ?_;refine Fg ((k)*36) 0 ?_;refine aI (v:=kG y.i) 1 ((k)*36+0) _ rfl rfl rfl rfl iR (aB.sub hy 0 20 (by decide)) rfl (by decide) rfl ?_;refine Pc (uK x.i y.i hxs hys) ?_;refine A2 ?_;refine Cd ?_ ?_<;>intro hdQ
 ·have hef:DC x y=true:=hdQ;refine A2 ?_;refine Ar (((i+1:Nat):Int)) ?_;refine A4 ?_;exact Nl ⟨⟨i+1,k,o++[⟨fE x.i y.i,x.f,y.f⟩],some r.g,r.n,r.cap⟩,hlt,hk,by rw[<-hI,qbP hx hy hef,WQ hok,List.append_assoc],by rw[List.length_append];exact r.h,r.hn,by show(o++[_]).length<=i+1+k;rw[List.length_append];show o.length+1<=i+1+k;omega⟩ (hμ:=(by show a.length+b.length-(i+1)-k<a.length+b.length-i-k;omega)) (ht:=⟨rfl,rfl,(aG rfl (by rw[List.length_append];rfl)),rfl,rfl,trivial⟩) (hL:=(ak [some 0,some 1,some 2] ⟨pR,pR,⟨_,rfl,aK (by rw[dK])⟩,trivial⟩ rfl rfl))
 ·have hef:DC x y=false:=hdQ;refine A2 ?_;refine Ar (((k+1:Nat):Int)) ?_;refine A4 ?_;exact Nl ⟨⟨i,k+1,o++[⟨fE x.i y.i,x.f,y.f⟩],some r.g,r.n,r.cap⟩,hi,hlk,by rw[<-hI,qbQ hx hy hef,WQ hok,List.append_assoc],by rw[List.length_append];exact r.h,r.hn,by show(o++[_]).length<=i+(k+1);rw[List.length_append];show o.length+1<=i+(k+1);omega⟩ (hμ:=(by show a.length+b.length-i-(k+1)<a.length+b.length-i-k;omega)) (ht:=⟨rfl,rfl,(aG rfl (by rw[List.length_append];rfl)),rfl,rfl,trivial⟩) (hL:=(ak [some 0,some 1,some 2] ⟨pR,pR,⟨_,rfl,aK (by rw[dK])⟩,trivial⟩ rfl rfl))):=h
end
namespace Go.Proofs.YtaffcpfhedadhaaGreatDoor
open Go Go.RowKit Go.Via
def Hm(a:List PU)(ab:Option Nat)(aN ac:Nat)(hac:a.length<=ac)(han:a.length<=1000)(b:List PU)(bb:Option Nat)(bN bc:Nat)(hbc:b.length<=bc)(hbn:b.length<=1000)(hsa:∀u∈a,jB u.i<=50000)(hsb:∀u∈b,jB u.i<=50000):bW Tryz.prog 90 [⟨ab,201,ah aJ a,aN,false⟩,⟨bb,201,ah aJ b,bN,false⟩] [az ab 0 a.length ac,az bb 0 b.length bc] (SR (ik BI DC a b).length) SR.v (fun z=>[⟨z.b,151,ah UH (ik BI DC a b),z.n,true⟩]):=by
 refine X5 66 Tryz.func90 fun w hL0=>?_;refine A18 ?_;refine El (ι:={z:Nat×Nat×List B3×Option Nat×Nat×Nat // z.1<=a.length∧z.2.1<=b.length∧z.2.2.1++ik BI DC (a.drop z.1) (b.drop z.2.1)=ik BI DC a b∧z.2.2.1.length<=z.2.2.2.2.2∧z.2.2.2.2.2*52<=z.2.2.2.2.1∧z.2.2.1.length<=z.1+z.2.1}) (fun⟨⟨i,k,o,ob,oN,oc⟩,hi,hk,hI,h3,h4,hol⟩=>([(0,az ab 0 a.length ac),(1,az bb 0 b.length bc),(5,az ob 0 o.length oc),(6,aZ i),(7,aZ k)],[⟨ab,201,ah aJ a,aN,false⟩,⟨bb,201,ah aJ b,bN,false⟩,⟨ob,151,ah UH o,oN,true⟩],a.length+b.length-i-k)) ⟨⟨0,0,[],none,0,0⟩,Nat.zero_le _,Nat.zero_le _,rfl,Nat.le_refl _,by simp,Nat.le_refl _⟩ ?_ (hL:=(ak [some 0,some 1,none] ⟨pR,pR,⟨rfl,rfl,rfl⟩,trivial⟩ rfl rfl));rintro⟨⟨i,k,o,ob,oN,oc⟩,hi,hk,hI,h3,h4,hol⟩;(try dsimp only);replace hi:i<=a.length:=hi;replace hk:k<=b.length:=hk;replace hI:o++ik BI DC (a.drop i) (b.drop k)=ik BI DC a b:=hI;replace h3:o.length<=oc:=h3;replace h4:oc*52<=oN:=h4;replace hol:o.length<=i+k:=hol;refine A8 ?_;refine Rs 14 ?_ ?_<;>intro haQ
 ·have hlt:i<a.length:=(by have:=of_decide_eq_true haQ;omega);obtain⟨x,hx⟩:∃x,a[i]? =some x:=⟨a[i],List.getElem?_eq_getElem hlt⟩;have hxs:=hsa x (List.mem_of_getElem? hx);refine A7 ?_;refine Cd ?_ ?_<;>intro hbQ
  ·have hlk:k<b.length:=(by have:=of_decide_eq_true hbQ;omega);obtain⟨y,hy⟩:∃y,b[k]? =some y:=⟨b[k],List.getElem?_eq_getElem hlk⟩;have hys:=hsb y (List.mem_of_getElem? hy)
   refine A5 ?_;refine eF 0 rfl (aB.ne (by decide) (by omega)) (fun hbs=>?_);obtain⟨ga,hga⟩:=Option.isSome_iff_exists.1 hbs;replace hga:ab=some ga:=hga;subst hga;refine eF 1 rfl (aB.ne (by decide) (by omega)) (fun hbs=>?_);obtain⟨gb,hgb⟩:=Option.isSome_iff_exists.1 hbs;replace hgb:bb=some gb:=hgb;subst hgb;refine Dq [3000000] [0,1,2,3,4,5,6,7,8,9,10,11,12,14,15,13,16] ?_;refine A2 ?_;refine ai 0 ((i)*36) kU jD rfl rfl rfl rfl rfl (by omega) (by omega) (aB.ne (by decide) (by omega)) (by show 0+Int.toNat _*36=_;omega) ?_;refine Fg ((i)*36) 0 ?_;refine aI (v:=kG x.i) 0 ((i)*36+0) _ rfl rfl rfl rfl iR (aB.sub hx 0 20 (by decide)) rfl (by decide) rfl ?_;refine A2 ?_;refine ai 1 ((k)*36) kU jD rfl rfl rfl rfl rfl (by omega) (by omega) (aB.ne (by decide) (by omega)) (by show 0+Int.toNat _*36=_;omega) ?_;refine Fg ((k)*36) 0 ?_;refine aI (v:=kG y.i) 1 ((k)*36+0) _ rfl rfl rfl rfl iR (aB.sub hy 0 20 (by decide)) rfl (by decide) rfl ?_;refine Pc (Ls x.i y.i hxs hys) ?_;refine A2 ?_;refine Al 20 z61 (fun g0=>?_);refine Ss 3 ?_;refine A9 ?_;refine Cd ?_ ?_<;>intro hcQ
   ·have hok:jP (fE x.i y.i)=true:=hcQ;refine pY (l':=[⟨_,_,_,_,_,_⟩,⟨_,_,_,_,_,_⟩,⟨_,_,_,_,_,_⟩,⟨_,_,_,_,_,_⟩,⟨_,_,_,_,_,_⟩,⟨_,_,_,_,_,_⟩,⟨_,_,_,_,_,_⟩,⟨_,_,_,_,_,_⟩,⟨_,_,_,_,_,_⟩,⟨_,_,_,_,_,_⟩,⟨_,_,_,_,_,_⟩,⟨_,_,_,_,_,_⟩]) [2000000] [1,2,3,4,5,6,7,8,9,10,11,12] [0,13,14,15] mixed (by kernel_rfl) rfl ?_;refine xZ 3 0 ?_;refine A2 ?_;refine ai 0 ((i)*36) kU jD rfl rfl rfl rfl rfl (by omega) (by omega) (aB.ne (by decide) (by omega)) (by show 0+Int.toNat _*36=_;omega) ?_;refine Fg ((i)*36) 20 ?_;refine aI (v:=xh x.f) 0 ((i)*36+20) _ rfl rfl rfl rfl CQ (aB.sub hx 20 16 (by decide)) rfl (by decide) rfl ?_;refine A2 ?_;refine ai 1 ((k)*36) kU jD rfl rfl rfl rfl rfl (by omega) (by omega) (aB.ne (by decide) (by omega)) (by show 0+Int.toNat _*36=_;omega) ?_;refine Fg ((k)*36) 20 ?_;refine aI (v:=xh y.f) 1 ((k)*36+20) _ rfl rfl rfl rfl CQ (aB.sub hy 20 16 (by decide)) rfl (by decide) rfl ?_;refine(Bu [(0,_),(1,_),(2,_)]) (qdK) ?_;refine A1 ?_;refine bP [0,13] (by kernel_rfl) ⟨⟨_,rfl,?_⟩,⟨_,rfl,?_⟩,trivial⟩
    ·refine A2 ?_;refine bP [13] (by kernel_rfl) ⟨⟨_,rfl,?_⟩,trivial⟩
     ·refine(Bl 52 [(0,_)]) (VB) (fun g1=>?_);refine A1 ?_;exact qgn
    ·refine(Bl 52 [(0,_)]) (VB) (fun g1=>?_);refine A1 ?_;refine bP [0] (by kernel_rfl) ⟨⟨_,rfl,?_⟩,trivial⟩
     ·refine A2 ?_;exact qgn
   ·have hok:jP (fE x.i y.i)=false:=hcQ;refine A3 ?_;refine Di [] ?_;refine A2 ?_;refine ai 0 ((i)*36) kU jD rfl rfl rfl rfl rfl (by omega) (by omega) (aB.ne (by decide) (by omega)) (by show 0+Int.toNat _*36=_;omega) ?_;refine Fg ((i)*36) 0 ?_;refine aI (v:=kG x.i) 0 ((i)*36+0) _ rfl rfl rfl rfl iR (aB.sub hx 0 20 (by decide)) rfl (by decide) rfl ?_;refine A2 ?_;refine ai 1 ((k)*36) kU jD rfl rfl rfl rfl rfl (by omega) (by omega) (aB.ne (by decide) (by omega)) (by show 0+Int.toNat _*36=_;omega) ?_;refine Fg ((k)*36) 0 ?_;refine aI (v:=kG y.i) 1 ((k)*36+0) _ rfl rfl rfl rfl iR (aB.sub hy 0 20 (by decide)) rfl (by decide) rfl ?_;refine Pc (uK x.i y.i hxs hys) ?_;refine A2 ?_;refine Cd ?_ ?_<;>intro hdQ
    ·have hef:DC x y=true:=hdQ;refine A2 ?_;refine Ar (((i+1:Nat):Int)) ?_;refine A4 ?_;exact Nl ⟨⟨i+1,k,o,ob,oN,oc⟩,hlt,hk,by rw[<-hI,qbP hx hy hef,qbO hok,List.nil_append],h3,h4,by show o.length<=i+1+k;omega⟩ (hμ:=(by show a.length+b.length-(i+1)-k<a.length+b.length-i-k;omega)) (hL:=eH.auto)
    ·have hef:DC x y=false:=hdQ;refine A2 ?_;refine Ar (((k+1:Nat):Int)) ?_;refine A4 ?_;exact Nl ⟨⟨i,k+1,o,ob,oN,oc⟩,hi,hlk,by rw[<-hI,qbQ hx hy hef,qbO hok,List.nil_append],h3,h4,by show o.length<=i+(k+1);omega⟩ (hμ:=(by show a.length+b.length-i-(k+1)<a.length+b.length-i-k;omega)) (hL:=eH.auto)
  ·have hge:b.length<=k:=(by have:=of_decide_eq_false hbQ;omega);obtain rfl:o=ik BI DC a b:=by rw[<-hI,SH (.inr hge),List.append_nil]
   refine lw ?_;refine aF rfl (aj rfl) (fun w hL=>⟨⟨ob,oN,oc,h3⟩,?_,hL.pk [some 2]⟩);exact rfl
 ·have hge:a.length<=i:=(by have:=of_decide_eq_false haQ;omega);obtain rfl:o=ik BI DC a b:=by rw[<-hI,SH (.inl hge),List.append_nil]
  refine A20 ?_;refine aF rfl (aj rfl) (fun w hL=>⟨⟨ob,oN,oc,h3⟩,?_,hL.pk [some 2]⟩);exact rfl
def PI(l:List oL)(lb:Option Nat)(lN lc:Nat)(hlc:l.length<=lc)(hln:l.length<=1000)(hsz:∀p∈l,gz p.a<=50000∧gz p.b<=50000):bW Tryz.prog 47 [⟨lb,63,ah aY l,lN,false⟩] [az lb 0 l.length lc] Unit (fun _=>RV (xI l)) (fun _=>[]):=by
 refine MI 39 Tryz.func47 fun w hL0=>?_;refine A2 ?_;refine Al 9 OD (fun g0=>?_);refine A4 ?_;refine(Bu []) (qhe) ?_;refine aQ 5 (RV (rl 0)) rfl WC.symm ?_;refine Al 9 OD (fun g1=>?_);refine Ss 2 ?_;refine A9 ?_;refine El (ι:={z:Nat×Rl // z.1<=l.length∧z.2=(l.take z.1).foldl vU (rl 0)}) (fun⟨⟨i,m⟩,hi,hI⟩=>([(0,az lb 0 l.length lc),(2,dD g0),(3,dD g1),(4,aZ i)],[⟨lb,63,ah aY l,lN,false⟩,⟨some g0,38,zRc,9,true⟩,⟨some g1,38,jX m,9,true⟩],l.length-i)) ⟨⟨0,rl 0⟩,Nat.zero_le _,rfl⟩ ?_ (hL:=eH.auto);rintro⟨⟨i,m⟩,hi,hI⟩;(try dsimp only);replace hi:i<=l.length:=hi;replace hI:m=(l.take i).foldl vU (rl 0):=hI
 have hms:gz m<=50000:=(by rw[hI];exact qfi fun p hp=>hsz p (List.mem_of_mem_take hp));refine A9 ?_;refine Cd ?_ ?_<;>intro haQ
 ·have hlt:i<l.length:=(by have:=of_decide_eq_true haQ;omega);obtain⟨x,hx⟩:∃x,l[i]? =some x:=⟨l[i],List.getElem?_eq_getElem hlt⟩;refine eF 0 rfl (dA.ne (by decide) (by omega)) (fun hbs=>?_);obtain⟨gl,hgl⟩:=Option.isSome_iff_exists.1 hbs;replace hgl:lb=some gl:=hgl;subst hgl;have hxs:=hsz x (List.mem_of_getElem? hx);refine A6 ?_;refine Di [] ?_;refine A2 ?_;refine ai 0 ((i)*38) u32 pz rfl rfl rfl rfl rfl (by omega) (by omega) (dA.ne (by decide) (by omega)) (by show 0+Int.toNat _*38=_;omega) ?_;refine Fg ((i)*38) 20 ?_;refine aI (v:=RV x.a) 0 ((i)*38+20) _ rfl rfl rfl rfl iH (dA.sub hx 20 9 (by decide)) rfl (by decide) rfl ?_;refine L9 2 0 ?_;refine Pc (eX x.a m hxs.1 hms) ?_;refine A3 ?_;refine Cd ?_ ?_<;>intro hbQ
  ·have hm1:gm m x.a=x.a:=PG (of_decide_eq_true hbQ);refine A3 ?_;refine ai 0 ((i)*38) u32 pz rfl rfl rfl rfl rfl (by omega) (by omega) (dA.ne (by decide) (by omega)) (by show 0+Int.toNat _*38=_;omega) ?_;refine Fg ((i)*38) 20 ?_;refine aI (v:=RV x.a) 0 ((i)*38+20) _ rfl rfl rfl rfl iH (dA.sub hx 20 9 (by decide)) rfl (by decide) rfl ?_;refine Ss 2 ?_;refine A3 ?_;refine Di [] ?_;refine A2 ?_;refine ai 0 ((i)*38) u32 pz rfl rfl rfl rfl rfl (by omega) (by omega) (dA.ne (by decide) (by omega)) (by show 0+Int.toNat _*38=_;omega) ?_;refine Fg ((i)*38) 29 ?_;refine aI (v:=RV x.b) 0 ((i)*38+29) _ rfl rfl rfl rfl iH (dA.sub hx 29 9 (by decide)) rfl (by decide) rfl ?_;refine L9 2 0 ?_;refine Pc (eX x.b x.a hxs.2 hxs.1) ?_;refine A3 ?_;refine Cd ?_ ?_<;>intro hcQ
   ·have hm2:gm (gm m x.a) x.b=x.b:=by rw[hm1];exact PG (of_decide_eq_true hcQ)
    refine A3 ?_;refine ai 0 ((i)*38) u32 pz rfl rfl rfl rfl rfl (by omega) (by omega) (dA.ne (by decide) (by omega)) (by show 0+Int.toNat _*38=_;omega) ?_;refine Fg ((i)*38) 29 ?_;refine aI (v:=RV x.b) 0 ((i)*38+29) _ rfl rfl rfl rfl iH (dA.sub hx 29 9 (by decide)) rfl (by decide) rfl ?_;refine Ss 2 ?_;refine A5 ?_;refine dh ?_;exact Nl ⟨⟨i+1,gm (gm m x.a) x.b⟩,hlt,by show _=(l.take (i+1)).foldl vU (rl 0);rw[<-dZ hx,List.foldl_append,<-hI];rfl⟩ (hμ:=(by show l.length-(i+1)<l.length-i;omega)) (hL:=(ak [some 0,some 1,some 2] ⟨pR,pR,⟨_,rfl,aK (by rw[hm2]<;>rfl)⟩,trivial⟩ rfl rfl))
   ·have hm2:gm (gm m x.a) x.b=x.a:=by rw[hm1];exact PH (of_decide_eq_false hcQ)
    refine A5 ?_;refine dh ?_;exact Nl ⟨⟨i+1,gm (gm m x.a) x.b⟩,hlt,by show _=(l.take (i+1)).foldl vU (rl 0);rw[<-dZ hx,List.foldl_append,<-hI];rfl⟩ (hμ:=(by show l.length-(i+1)<l.length-i;omega)) (hL:=(ak [some 0,some 1,some 2] ⟨pR,pR,⟨_,rfl,aK (by rw[hm2]<;>rfl)⟩,trivial⟩ rfl rfl))
  ·have hm1:gm m x.a=m:=PH (of_decide_eq_false hbQ);refine A3 ?_;refine Di [] ?_;refine A2 ?_;refine ai 0 ((i)*38) u32 pz rfl rfl rfl rfl rfl (by omega) (by omega) (dA.ne (by decide) (by omega)) (by show 0+Int.toNat _*38=_;omega) ?_;refine Fg ((i)*38) 29 ?_;refine aI (v:=RV x.b) 0 ((i)*38+29) _ rfl rfl rfl rfl iH (dA.sub hx 29 9 (by decide)) rfl (by decide) rfl ?_;refine L9 2 0 ?_;refine Pc (eX x.b m hxs.2 hms) ?_;refine A3 ?_;refine Cd ?_ ?_<;>intro hcQ
   ·have hm2:gm (gm m x.a) x.b=x.b:=by rw[hm1];exact PG (of_decide_eq_true hcQ)
    refine A3 ?_;refine ai 0 ((i)*38) u32 pz rfl rfl rfl rfl rfl (by omega) (by omega) (dA.ne (by decide) (by omega)) (by show 0+Int.toNat _*38=_;omega) ?_;refine Fg ((i)*38) 29 ?_;refine aI (v:=RV x.b) 0 ((i)*38+29) _ rfl rfl rfl rfl iH (dA.sub hx 29 9 (by decide)) rfl (by decide) rfl ?_;refine Ss 2 ?_;refine A5 ?_;refine dh ?_;exact Nl ⟨⟨i+1,gm (gm m x.a) x.b⟩,hlt,by show _=(l.take (i+1)).foldl vU (rl 0);rw[<-dZ hx,List.foldl_append,<-hI];rfl⟩ (hμ:=(by show l.length-(i+1)<l.length-i;omega)) (hL:=(ak [some 0,some 1,some 2] ⟨pR,pR,⟨_,rfl,aK (by rw[hm2]<;>rfl)⟩,trivial⟩ rfl rfl))
   ·have hm2:gm (gm m x.a) x.b=m:=by rw[hm1];exact PH (of_decide_eq_false hcQ)
    refine A5 ?_;refine dh ?_;exact Nl ⟨⟨i+1,gm (gm m x.a) x.b⟩,hlt,by show _=(l.take (i+1)).foldl vU (rl 0);rw[<-dZ hx,List.foldl_append,<-hI];rfl⟩ (hμ:=(by show l.length-(i+1)<l.length-i;omega)) (hL:=(ak [some 0,some 1,some 2] ⟨pR,pR,⟨_,rfl,aK (by rw[hm2]<;>rfl)⟩,trivial⟩ rfl rfl))
 ·have hge:i=l.length:=(by have:=of_decide_eq_false haQ;omega);subst hge;obtain rfl:m=xI l:=by rw[hI,List.take_length];rfl
  refine A7 ?_;refine L9 2 0 ?_;refine Ss 1 ?_;refine A3 ?_;refine Ec9 1 fun w hL=>⟨(),?_,hL.pk []⟩;exact rfl
def rY(a b c d:Rat)(ha:bV a<=40000:=by omega)(hb:bV b<=40000:=by omega)(hc:bV c<=40000:=by omega)(hd:bV d<=40000:=by omega):aH Tryz.prog 93 #[Q a,Q b,Q c,Q d] (qH (Y5 (a-c) (b-d))):=by
 have l1:=bU a c;have l2:=bU b d;have z0:=vX;have hs:tJ ⟨a-c,b-d,0⟩<=100000:=F6 (by show bV (a-c)<=_;omega) (by show bV (b-d)<=_;omega) (by show bV 0<=_;omega);refine pB4 26 Tryz.func93 fun w=>?_;refine A2 ?_;refine Bp 4 (fun g0=>?_);refine Bp 4 (fun g1=>?_);refine Bp 4 (fun g2=>?_);refine Bp 4 (fun g3=>?_);refine Al 12 Gv (fun g4=>?_);refine A3 ?_;refine Dq [3000000] [0,1,3,4,2,5,6,7,8] ?_;refine L4 0 0 ?_;refine L4 2 0 ?_;refine L4 1 0 ?_;refine L4 3 0 ?_;refine Pc (eU a c) ?_;refine Pc (eU b d) ?_;refine Pc (jo (a-c) (b-d)) ?_;refine Al 12 Gv (fun g5=>?_);refine Ss 5 ?_;refine A4 ?_;refine uV 5 0 ?_;refine uV 5 0 ?_;refine Pc (Hg ⟨a-c,b-d,0⟩ ⟨a-c,b-d,0⟩ rfl rfl hs hs) ?_;refine A3 ?_;refine Al 12 Gv (fun g6=>?_);refine Ss 6 ?_;refine A5 ?_;refine uV 6 0 ?_;refine Ss 4 ?_;refine A3 ?_;refine Jm 4 ?_;exact rfl
def jq(i:Iv)(f:Qd)(h1:0<=i.f.r:=by omega)(h2:0<=i.t.r:=by omega)(hi:jB i<=10000:=by omega)(hf:tJ f<=10000:=by omega):aH Tryz.prog 42 #[kG i,qH f] (JP (bg (i,f))):=by
 have i1:=Nat.le_trans (jI i) hi;have i2:=Nat.le_trans (jJ i) hi;refine nG 15 Tryz.func42 fun w=>?_;refine A2 ?_;refine Bp 20 (fun g0=>?_);refine Bp 12 (fun g1=>?_);refine Al 38 z63 (fun g2=>?_);refine A3 ?_;refine Dp [] [0,1,2,3,5,6,7,4,8,9,10] ?_;refine xZ 0 0 ?_;refine uV 1 0 ?_;refine A1 ?_;refine L9 0 0 ?_;refine uV 1 0 ?_;refine A1 ?_;refine L9 0 9 ?_;refine Pc (uB f i.f h1 hf) ?_;refine Pc (uB f i.t h2 hf) ?_;refine(Bu [(0,_),(1,_),(2,_)]) (TZ) ?_;refine Ss 2 ?_;refine A3 ?_;refine qlJ 2 ?_;exact rfl
def pW(l:List oL)(lb:Option Nat)(lN lc:Nat)(hlc:l.length<=lc)(hln:l.length<=1000)(hsz:∀p∈l,gz p.a<=50000∧gz p.b<=50000)(h0:0<l.length:=by omega):bW Tryz.prog 43 [⟨lb,63,ah aY l,lN,false⟩] [az lb 0 l.length lc] Unit (fun _=>RV (fD l)) (fun _=>[]):=by
 refine MI 25 Tryz.func43 fun w hL0=>?_;refine A2 ?_;refine Al 9 OD (fun g0=>?_);refine A3 ?_;have hx0:l[0]? =some (l[0]'h0):=List.getElem?_eq_getElem h0;refine eF 0 rfl (dA.ne (by decide) h0) (fun hbs=>?_);obtain⟨gl,hgl⟩:=Option.isSome_iff_exists.1 hbs;replace hgl:lb=some gl:=hgl;subst hgl;refine A2 ?_;refine ai 0 ((0)*38) u32 pz rfl rfl rfl rfl rfl (by omega) (by omega) (dA.ne (by decide) (by omega)) (by show 0+Int.toNat _*38=_;omega) ?_;refine Fg ((0)*38) 20 ?_;refine aI (v:=RV (l[0]'h0).a) 0 ((0)*38+20) _ rfl rfl rfl rfl iH (dA.sub hx0 20 9 (by decide)) rfl (by decide) rfl ?_;refine Al 9 OD (fun g1=>?_);refine Ss 2 ?_;refine pq ?_;refine El (ι:={z:Nat×Rl // z.1<=l.length∧z.2=(l.take z.1).foldl (fun o x=>gm o (gm x.a x.b)) (l[0]'h0).a}) (fun⟨⟨i,m⟩,hi,hI⟩=>([(2,dD g0),(3,dD g1),(10,az (some gl) 0 l.length lc),(11,aZ (l.length)),(12,aZ i)],[⟨some gl,63,ah aY l,lN,false⟩,⟨some g0,38,zRc,9,true⟩,⟨some g1,38,jX m,9,true⟩],l.length-i)) ⟨⟨0,(l[0]'h0).a⟩,Nat.zero_le _,rfl⟩ ?_ (hL:=eH.auto);rintro⟨⟨i,m⟩,hi,hI⟩;(try dsimp only);replace hi:i<=l.length:=hi;replace hI:m=(l.take i).foldl (fun o x=>gm o (gm x.a x.b)) (l[0]'h0).a:=hI
 have hms:gz m<=50000:=(by rw[hI];exact qfj (fun p hp=>hsz p (List.mem_of_mem_take hp)) (hsz _ (List.getElem_mem h0)).1);refine A6 ?_;refine Cd ?_ ?_<;>intro haQ
 ·have hlt:i<l.length:=(by have:=of_decide_eq_true haQ;omega);obtain⟨x,hx⟩:∃x,l[i]? =some x:=⟨l[i],List.getElem?_eq_getElem hlt⟩;have hxs:=hsz x (List.mem_of_getElem? hx);refine A6 ?_;refine ai 0 ((i)*38) u32 pz rfl rfl rfl rfl rfl (by omega) (by omega) (dA.ne (by decide) (by omega)) (by show 0+Int.toNat _*38=_;omega) ?_;refine aI (v:=JP x) 0 ((i)*38) _ rfl rfl rfl rfl pz (dA.sub hx 0 38 (by decide)) rfl (by decide) rfl ?_;refine Al 38 z63 (fun g2=>?_);refine Ss 3 ?_;refine A2 ?_;refine Di [] ?_;refine L9 2 0 ?_;refine A1 ?_;refine L9 3 20 ?_;refine A1 ?_;refine L9 3 29 ?_;refine Pc (JW x.a x.b hxs.1 hxs.2) ?_;refine Pc (JW m (gm x.a x.b) hms (ER hxs.1 hxs.2)) ?_;refine Ss 2 ?_;refine A4 ?_;refine dh ?_;exact Nl ⟨⟨i+1,gm m (gm x.a x.b)⟩,hlt,by show _=(l.take (i+1)).foldl (fun o x=>gm o (gm x.a x.b)) _;rw[<-dZ hx,List.foldl_append,<-hI];rfl⟩ (hμ:=(by show l.length-(i+1)<l.length-i;omega)) (hL:=eH.auto)
 ·have hge:i=l.length:=(by have:=of_decide_eq_false haQ;omega);subst hge;obtain rfl:m=fD l:=by rw[hI,List.take_length];exact UV h0
  refine A7 ?_;refine L9 2 0 ?_;refine Ss 1 ?_;refine A3 ?_;refine Ec9 1 fun w hL=>⟨(),?_,hL.pk []⟩;exact rfl
end Go.Proofs.YtaffcpfhedadhaaGreatDoor
namespace Go.Via
abbrev SI(l:List PU):Prop:=Ends iF l
def qik{a b:List PU}(ha:Ends iF a)(hb:Ends iF b):∀z∈ik BI DC a b,iF z.i.f∧iF z.i.t:=fun z hz=>by
 obtain⟨x,hx,y,hy,e⟩:=ES hz;unfold BI iT at e
 split at e
 ·simp at e;subst e;exact FX (ha x hx) (hb y hy)
 ·simp at e
def NM{a b:List PU}(ha:Ends iF a)(hb:Ends iF b):∀z∈ay a b,iF z.1.f∧iF z.1.t:=fun z hz=>by
 rw[<-EU] at hz;obtain⟨w,hw,rfl⟩:=List.mem_map.1 hz;exact qik ha hb w hw
theorem F8{x:Rl}(h:iF x):x.r=0:=by obtain⟨z,rfl⟩:=h;rfl
def NP{a b:List PU}(ha:Fb a)(hb:Fb b):∀p∈(ay a b).map bg,gz p.a<=50000∧gz p.b<=50000:=fun p hp=>by
 obtain⟨z,hz,rfl⟩:=List.mem_map.1 hp;obtain⟨h1,h2⟩:=xR ha hb z hz;have l1:=Nat.le_trans (jI z.1) h1;have l2:=Nat.le_trans (jJ z.1) h1;exact⟨Nat.le_trans (UQ h2 l1) (by omega),Nat.le_trans (UQ h2 l2) (by omega)⟩
def CfV(s:Value)(m:Rl):Value:= .agg #[s,.bool (decide (m.p.num<0)),.string (bH m.p.num.natAbs),.bool false,.string (dm m.p),.bool (decide (m.r.num<0)),.string (bH m.r.num.natAbs),.bool false,.string (dm m.r),.bool m.n]
def jK(s:Value)(m:Rl):List Value:=[s,.bool (decide (m.p.num<0)),.string (bH m.p.num.natAbs),.bool false,.string (dm m.p),.bool (decide (m.r.num<0)),.string (bH m.r.num.natAbs),.bool false,.string (dm m.r),.bool m.n]
def PK:List Value:=[.slice none 0 0,aO,aP,aO,aP,aO,aP,aO,aP,.bool false]
theorem qbR(s:Value):jK s (rl 0)=s::zRc:=congrArg (fun l=>s::l) qbN
end Go.Via
namespace Go.Via
open Go
structure EW(a b:List PU):Prop where
 sa:pJ jk a
 sb:pJ jk b
 ea:SI a
 eb:SI b
def oK(a b:List PU)(i:Nat):List (Iv×Qd):=(a.take i).flatMap fun x=>b.filterMap (tH x)
def Af(x:PU)(b:List PU)(k:Nat):List (Iv×Qd):=(b.take k).filterMap (tH x)
theorem qfk{a b:List PU}{i:Nat}{x:PU}(hx:a[i]? =some x):oK a b (i+1)=oK a b i++Af x b b.length:=by
 unfold oK Af;rw[<-dZ hx,List.flatMap_append,List.take_length];simp
theorem qfl{a b:List PU}{i:Nat}{x:PU}:oK a b i++Af x b 0=oK a b i:=by unfold Af;simp
theorem qbS{x y:PU}{b:List PU}{k:Nat}(hy:b[k]? =some y):Af x b (k+1)=Af x b k++(tH x y).toList:=by
 unfold Af;rw[<-dZ hy,List.filterMap_append];exact congrArg (_++ ·) (by rw[List.filterMap_cons];cases tH x y<;>rfl)
theorem YO{a b:List PU}(h:EW a b):oK a b a.length=ay a b:=by
 rw[kY o5 h.sa h.sb h.ea h.eb];unfold oK flatK;rw[List.take_length]
def Io{a b:List PU}{i k:Nat}{x y:PU}{z:Iv×Qd}(hx:a[i]? =some x)(hy:b[k]? =some y)(hz:tH x y=some z):∃r,flatK tH a b=oK a b i++Af x b k++z::r:=by
 have ha:a=a.take i++x::a.drop (i+1):=by
  obtain⟨h1,h2⟩:=List.getElem?_eq_some_iff.1 hx;rw[<-h2,List.getElem_cons_drop,List.take_append_drop]
 have hb:b=b.take k++y::b.drop (k+1):=by
  obtain⟨h1,h2⟩:=List.getElem?_eq_some_iff.1 hy;rw[<-h2,List.getElem_cons_drop,List.take_append_drop]
 refine⟨(b.drop (k+1)).filterMap (tH x)++(a.drop (i+1)).flatMap fun x=>b.filterMap (tH x),?_⟩
 have e:b.filterMap (tH x)=Af x b k++z::(b.drop (k+1)).filterMap (tH x):=by
  conv=>lhs;rw[hb]
  rw[List.filterMap_append,List.filterMap_cons_some hz];rfl
 unfold flatK oK
 conv=>lhs;rw[ha]
 rw[List.flatMap_append,List.flatMap_cons,e];simp
def qfm{a b:List PU}(h:EW a b){i k:Nat}{x y:PU}{z:Iv×Qd}(hx:a[i]? =some x)(hy:b[k]? =some y)(hz:tH x y=some z):z∈ay a b:=by
 obtain⟨r,e⟩:=Io hx hy hz;rw[kY o5 h.sa h.sb h.ea h.eb,e];simp
def qbT{a b:List PU}(h:EW a b){i k:Nat}{x y:PU}{z:Iv×Qd}(hx:a[i]? =some x)(hy:b[k]? =some y)(hz:tH x y=some z){p:Iv×Qd}(hp:p∈oK a b i++Af x b k):¬bK z.1.f p.1.f<0:=by
 obtain⟨r,e⟩:=Io hx hy hz;have hs:=(xH o5 h.sb h.eb h.sa h.ea).1;rw[e] at hs;have hk:=(List.pairwise_append.1 hs).2.2 p hp z (List.mem_cons_self ..);have hm:p∈flatK tH a b:=by rw[e];exact List.mem_append_left _ hp
 have hm2:z∈flatK tH a b:=(by rw[e];simp);have h1:=Ii o5 h.ea h.eb p hm;have h2:=Ii o5 h.ea h.eb z hm2;rw[o5.lt h2.1.1 h1.1.1];have q1:=zV jk p.1.b;have q2:=zV jk z.1.b;have e1:p.1.b.1=p.1.f:=rfl;have e2:z.1.b.1=z.1.f:=rfl;have o1:=h1.2;rw[e1] at q1;rw[e2] at q2;omega
def qbU{a b:List PU}(h:EW a b){i k:Nat}{x y:PU}{z:Iv×Qd}(hx:a[i]? =some x)(hy:b[k]? =some y)(hz:tH x y=some z){p:Iv×Qd}(hp:p∈oK a b i++Af x b k):p∈ay a b:=by
 obtain⟨r,e⟩:=Io hx hy hz;rw[kY o5 h.sa h.sb h.ea h.eb,e];exact List.mem_append_left _ hp
def qbV{a b:List PU}(h:EW a b){i k:Nat}{x y:PU}{z:Iv×Qd}(hx:a[i]? =some x)(hy:b[k]? =some y)(hz:tH x y=some z):(oK a b i++Af x b k).length<a.length+b.length:=by
 obtain⟨r,e⟩:=Io hx hy hz;have:=tK a b;rw[kY o5 h.sa h.sb h.ea h.eb,e] at this;simp at this ⊢;omega
def qil{x y:PU}{m:Iv}(h:iT x.i y.i=some m):tH x y=some (m,d2 x.f y.f):=by unfold tH;rw[h];rfl
theorem qim{x y:PU}(h:iT x.i y.i=none):tH x y=none:=by unfold tH;rw[h];rfl
def okZ{x:Rl}(h:iF x):x.ok:=by obtain⟨z,rfl⟩:=h;exact qga _
theorem YP{x y:PU}(hx:iF x.i.f∧iF x.i.t)(hy:iF y.i.f∧iF y.i.t):kD (uG 2) [x.i] [y.i]=(iT x.i y.i).toList:=by
 rw[qih];exact qa6 o5 hx hy
end Go.Via
namespace Go.Proofs.YtaffcpfhedadhaaGreatDoor
open Go Go.RowKit Go.Via
def qkb(x y:PU)(ex:iF x.i.f∧iF x.i.t)(ey:iF y.i.f∧iF y.i.t)(hx:jB x.i<=50000)(hy:jB y.i<=50000)(g g' n n':Nat):bW Tryz.prog 44 [⟨some g,61,bG x.i,n,false⟩,⟨some g',61,bG y.i,n',false⟩] [.int .i64 2,az (some g) 0 1 1,az (some g') 0 1 1] (SR (iT x.i y.i).toList.length) SR.v (fun z=>[⟨z.b,61,ah bG (iT x.i y.i).toList,z.n,true⟩]):=by
 have h:=Hl 2 [x.i] (some g) n 1 (Nat.le_refl _) (by show 1<=1000;omega) [y.i] (some g') n' 1 (Nat.le_refl _) (by show 1<=1000;omega) (by simpa using hx) (by simpa using hy);rw[YP ex ey] at h;have e:∀i:Iv,ah bG [i]=bG i:=fun i=>by simp[ah]
 rw[e,e] at h;exact h
end Go.Proofs.YtaffcpfhedadhaaGreatDoor
namespace Go.Via
open Go
def YQ(out:List Iv)(t:Rl)(tp:Bool):(NK out t tp).length<=out.length:=by
 rcases List.eq_nil_or_concat out with e|⟨o,i,e⟩
 ·subst e;unfold NK;simp
 ·subst e;rw[List.concat_eq_append,uF];simp
def NQ(out:List Iv)(og h:Bool)(t:Rl):(jV out og h t).length<=out.length+1:=by
 unfold jV;have h1:=YQ out t (!h)
 repeat' split
 all_goals first|(simp;done)|omega|(simp;omega)
def SK{here:Rl->Bool}{btw:Rl->Rl->Bool}:∀{ts:List Rl} {out:List Iv} {og:Bool},(pK here btw ts out og).length<=out.length+2*ts.length
 |[],out,og=>by unfold pK;simp
 |[t],out,og=>by unfold pK;have:=NQ out og (here t) t;simp;omega
 |t::u::ts,out,og=>by
  unfold pK;have h1:=NQ out og (here t) t;have h2:=SK (here:=here) (btw:=btw) (ts:=u::ts) (out:=if btw t u=true∧here t=false then jV out og (here t) t++[⟨t,u,true,true⟩] else jV out og (here t) t) (og:=btw t u)
  refine Nat.le_trans h2 ?_
  split
  ·simp only[List.length_append,List.length_cons,List.length_nil];omega
  ·simp only[List.length_cons];omega
def NR(op:Bool->Bool->Bool)(a b:List Iv):(kD op a b).length<=4*(a.length+b.length):=by
 rw[Py];have h:=SK (here:=fun t=>op (ny a t) (ny b t)) (btw:=fun t u=>op (nz a t u) (nz b t u)) (ts:=dW (bM (a++b))) (out:=[]) (og:=false)
 have h2:=Px (bM (a++b));rw[uH,List.length_append] at h2;simp only[List.length_nil] at h;omega
def qbW{S S':Rl->Prop}{ρ:Rl->Int}(T:fZ S ρ)(h:∀x,S' x->S x):fZ S' ρ:=⟨fun a b=>T.lt (h _ a) (h _ b),fun a b=>T.gt (h _ a) (h _ b),fun a b=>T.inj (h _ a) (h _ b)⟩
def SmE(n:Nat)(x:Rl):Prop:=iF x∧gz x<=n
def qbX(n:Nat):fZ (SmE n) jk:=qbW o5 fun _ h=>h.1
def xW(c:List oL):Nat->Option Iv
 |0=>none
 |n+1=>(c[n]?).map (·.i)
theorem WS{c:List oL}{i:Nat}{p:oL}(h:c[i]? =some p):xW c (i+1)=some p.i:=by show(c[i]?).map (·.i)=_;rw[h];rfl
theorem WT{c:List oL}{i:Nat}{p:oL}(h:c[i]? =some p):c.drop i=p::c.drop (i+1):=by
 obtain⟨h1,h2⟩:=List.getElem?_eq_some_iff.1 h;rw[<-h2,List.getElem_cons_drop]
def qkc{f:Option Iv->oL->Int}{c:List oL}{i:Nat}{p:oL}(h:c[i]? =some p)(hL:kE f none c=kE f (xW c i) (c.drop i))(h0:f (xW c i) p=0):kE f none c=kE f (xW c (i+1)) (c.drop (i+1)):=by
 rw[hL,WT h,WS h]
 conv=>lhs;unfold kE
 rw[if_pos h0]
def qin{f:Option Iv->oL->Int}{c:List oL}{i:Nat}{p:oL}{e:Int}(h:c[i]? =some p)(hL:kE f none c=kE f (xW c i) (c.drop i))(he:f (xW c i) p=e)(h0:e≠0):kE f none c=e:=by
 rw[hL,WT h]
 conv=>lhs;unfold kE
 rw[if_neg (by rw[he];exact h0),he]
def qio{f:Option Iv->oL->Int}{c:List oL}(hL:kE f none c=kE f (xW c c.length) (c.drop c.length)):kE f none c=0:=by
 rw[hL,List.drop_length];cases xW c c.length<;>rfl
end Go.Via
namespace Go.Proofs.YtaffcpfhedadhaaGreatDoor
open Go Go.RowKit Go.Via
def ou(a:List PU)(ab:Option Nat)(aN ac:Nat)(hac:a.length<=ac)(han:a.length<=1000)(b:List PU)(bb:Option Nat)(bN bc:Nat)(hbc:b.length<=bc)(hbn:b.length<=1000)(hsa:Fb a)(hsb:Fb b):bW Tryz.prog 41 [⟨ab,100,ah aJ a,aN,false⟩,⟨bb,100,ah aJ b,bN,false⟩] [az ab 0 a.length ac,az bb 0 b.length bc] (SR (ay a b).length) SR.v (fun z=>[⟨z.b,93,ah Df (ay a b),z.n,true⟩]):=by
 refine⟨by kernel_rfl,fun w hL0=>?_⟩;have hrl:=ET (mt:=BI) (ef:=DC) a b;refine XC 55 Tryz.func41 hL0 ?_;refine D6 ?_;refine(Sc [0]) (uI a ab aN ac hac han) (fun za=>?_);obtain⟨zab,zaN,zac,hzac⟩:=za;refine A1 ?_;refine(Sc [1]) (uI b bb bN bc hbc hbn) (fun zb=>?_);obtain⟨zbb,zbN,zbc,hzbc⟩:=zb;refine(Sc [2,3]) (Hm a zab zaN zac hzac han b zbb zbN zbc hzbc hbn hsa.v hsb.v) (fun zr=>?_);obtain⟨rb,rN,rc,hrc⟩:=zr;refine A5 ?_;refine El (ι:={z:Nat×List (Iv×Qd)×Option Nat×Nat×Nat // z.1<=(ik BI DC a b).length∧z.2.1=((ik BI DC a b).take z.1).map (fun z:B3=>(z.i,d2 z.f z.g))∧z.2.1.length<=z.2.2.2.2∧z.2.2.2.2*32<=z.2.2.2.1}) (fun⟨⟨i,o,ob,oN,oc⟩,hi,hI,h3,h4⟩=>([(5,az ob 0 o.length oc),(13,az rb 0 (ik BI DC a b).length rc),(14,aZ ((ik BI DC a b).length)),(15,aZ i)],[⟨rb,151,ah UH (ik BI DC a b),rN,true⟩,⟨ob,93,ah Df o,oN,true⟩],(ik BI DC a b).length-i)) ⟨⟨0,[],none,0,0⟩,Nat.zero_le _,rfl,Nat.le_refl _,by simp⟩ ?_ (hL:=(ak [some 4,none] ⟨pR,⟨rfl,rfl,rfl⟩,trivial⟩ rfl rfl));rintro⟨⟨i,o,ob,oN,oc⟩,hi,hI,h3,h4⟩;(try dsimp only);replace hi:i<=(ik BI DC a b).length:=hi;replace hI:o=((ik BI DC a b).take i).map (fun z:B3=>(z.i,d2 z.f z.g)):=hI;replace h3:o.length<=oc:=h3;replace h4:oc*32<=oN:=h4
 have hol:o.length<=100000:=(by rw[hI,List.length_map,List.length_take];omega);refine A6 ?_;refine Cd ?_ ?_<;>intro haQ
 ·have hlt:i<(ik BI DC a b).length:=(by have:=of_decide_eq_true haQ;omega);obtain⟨x,hx⟩:∃x,(ik BI DC a b)[i]? =some x:=⟨_,List.getElem?_eq_getElem hlt⟩;have hxs:=qgm hsa hsb x (List.mem_of_getElem? hx);have f0:=Nat.le_trans (qK x.f) hxs.2.1;have f1:=Nat.le_trans (qL x.f) hxs.2.1;have f2:=Nat.le_trans (qM x.f) hxs.2.1;have f3:=Nat.le_trans (qO x.f) hxs.2.1;have g0:=Nat.le_trans (qK x.g) hxs.2.2;have g1:=Nat.le_trans (qL x.g) hxs.2.2;have g2:=Nat.le_trans (qM x.g) hxs.2.2;have g3:=Nat.le_trans (qO x.g) hxs.2.2;have s0:=bU x.f.x0 x.g.x0;have s1:=bU x.f.x1 x.g.x1;have s2:=bU x.f.y0 x.g.y0;have s3:=bU x.f.y1 x.g.y1;refine A6 ?_;refine ai 0 ((i)*52) qjw qf3 rfl rfl rfl rfl rfl (by omega) (by omega) (Po.ne (by decide) (by omega)) (by show 0+Int.toNat _*52=_;omega) ?_;refine aI (v:=B3V x) 0 ((i)*52) _ rfl rfl rfl rfl qf3 (Po.sub hx 0 52 (by decide)) rfl (by decide) rfl ?_;refine Al 52 qlp (fun g0=>?_);refine Ss 2 ?_;refine A3 ?_;refine Fp (l':=[⟨_,_,_,_,_,_⟩,⟨_,_,_,_,_,_⟩,⟨_,_,_,_,_,_⟩,⟨_,_,_,_,_,_⟩,⟨_,_,_,_,_,_⟩,⟨_,_,_,_,_,_⟩,⟨_,_,_,_,_,_⟩,⟨_,_,_,_,_,_⟩,⟨_,_,_,_,_,_⟩,⟨_,_,_,_,_,_⟩,⟨_,_,_,_,_,_⟩,⟨_,_,_,_,_,_⟩,⟨_,_,_,_,_,_⟩,⟨_,_,_,_,_,_⟩,⟨_,_,_,_,_,_⟩,⟨_,_,_,_,_,_⟩,⟨_,_,_,_,_,_⟩,⟨_,_,_,_,_,_⟩,⟨_,_,_,_,_,_⟩,⟨_,_,_,_,_,_⟩,⟨_,_,_,_,_,_⟩,⟨_,_,_,_,_,_⟩,⟨_,_,_,_,_,_⟩,⟨_,_,_,_,_,_⟩,⟨_,_,_,_,_,_⟩,⟨_,_,_,_,_,_⟩,⟨_,_,_,_,_,_⟩,⟨_,_,_,_,_,_⟩,⟨_,_,_,_,_,_⟩]) [3000000] [0,1,2,3,4,5,6,7,8,9,10,11,13,14,15,16,17,18,19,20,21,22,23,24,12,25,26,27,28] mixed (Vg [0,1,3,0,8,24,0,64,192,0,512,1536,4095,0,8192,24576,0,65536,196608,0,524288,1572864,0,4194304,12582912,33554431,67108863,0,268435455] (by kernel_rfl)) rfl ?_;refine A2 ?_;refine L4 2 20 ?_;refine A2 ?_;refine L4 2 24 ?_;refine A2 ?_;refine L4 2 36 ?_;refine A2 ?_;refine L4 2 40 ?_;refine A2 ?_;refine L4 2 28 ?_;refine A2 ?_;refine L4 2 32 ?_;refine A2 ?_;refine L4 2 44 ?_;refine A2 ?_;refine L4 2 48 ?_;refine Pc (rY x.f.x0 x.f.x1 x.g.x0 x.g.x1) ?_;refine Pc (rY x.f.y0 x.f.y1 x.g.y0 x.g.y1) ?_;refine Pc (Hf (Y5 (x.f.x0-x.g.x0) (x.f.x1-x.g.x1)) (Y5 (x.f.y0-x.g.y0) (x.f.y1-x.g.y1)) (Nat.le_trans (WR (n:=300) (by omega) (by omega)) (by omega)) (Nat.le_trans (WR (n:=300) (by omega) (by omega)) (by omega))) ?_;refine aQ 45 (qH (d2 x.f x.g)) rfl (congrArg qH (qii _ _)) ?_;refine Al 12 Gv (fun g1=>?_);refine Ss 3 ?_;refine A5 ?_;refine xZ 2 0 ?_;refine uV 3 0 ?_;refine(Bu [(0,_),(1,_)]) (qhg) ?_;refine(Bl 32 [(0,_)]) (qhl) (fun g2=>?_);refine(Qa (s:=32) (len:=o.length) (n2:=1) 1 4 (fun r=>[_,⟨some r.g,93,ah Df o++Df ((x.i,d2 x.f x.g)),r.n,true⟩,_,_,_]) u88 qlu) (nH.length o) h3 h4 (nH.one ((x.i,d2 x.f x.g))) (fun r=>?_);refine A5 ?_;refine dh ?_;exact Nl ⟨⟨i+1,o++[(x.i,d2 x.f x.g)],some r.g,r.n,r.cap⟩,hlt,by show o++[(x.i,d2 x.f x.g)]=((ik BI DC a b).take (i+1)).map (fun z:B3=>(z.i,d2 z.f z.g));rw[<-dZ hx,List.map_append,<-hI];rfl,by rw[List.length_append];exact r.h,r.hn⟩ (hμ:=(by show(ik BI DC a b).length-(i+1)<(ik BI DC a b).length-i;omega)) (ht:=⟨(aG rfl (by rw[List.length_append];rfl)),rfl,rfl,rfl,trivial⟩) (hL:=(ak [some 0,some 1] ⟨pR,⟨_,rfl,aK (by rw[dK])⟩,trivial⟩ rfl rfl))
 ·have hge:i=(ik BI DC a b).length:=(by have:=of_decide_eq_false haQ;omega);subst hge;obtain rfl:o=ay a b:=by rw[hI,List.take_length];exact EU a b
  refine lw ?_;refine aF rfl (aj rfl) (fun w hL=>⟨⟨ob,oN,oc,h3⟩,?_,hL.pk [some 1]⟩);exact rfl
end Go.Proofs.YtaffcpfhedadhaaGreatDoor
