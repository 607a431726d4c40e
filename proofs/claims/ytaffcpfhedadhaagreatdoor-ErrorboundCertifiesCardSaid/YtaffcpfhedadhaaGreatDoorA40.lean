/-
  Part 40 (chapter 32): lemmas, walks. Each theorem states its own conditions.
-/
import Derived.Test.YtaffcpfhedadhaaGreatDoorA12
import Derived.Test.YtaffcpfhedadhaaGreatDoorA13
import Derived.Test.YtaffcpfhedadhaaGreatDoorA35
import Derived.Test.YtaffcpfhedadhaaGreatDoorA39
import Derived.Test.YtaffcpfhedadhaaGreatDoorA18
set_option linter.all false
set_option maxRecDepth 20000
set_option maxHeartbeats 20000000
section
variable{P Q:Prop}{T:Type}{R:T->Prop}
def qkv(h:P:=by
 refine bP [7] (by kernel_rfl) ⟨⟨_,rfl,?_⟩,trivial⟩
 ·exact qkw):=h
def qgx(h:P:=by
 refine bP [9] (by kernel_rfl) ⟨⟨_,rfl,?_⟩,trivial⟩
 ·exact qkx):=h
def qkw(h:P:=by
 refine(Qa (s:=36) (len:=o.length) (n2:=1) 3 8 (fun r=>[_,_,_,⟨some r.g,100,ah aJ o++aJ (Dt o alone f (yU last s)),r.n,true⟩,_,_,_,_,_]) QA VF) (aB.length o) h3 h4 (aB.one (Dt o alone f (yU last s))) (fun r=>?_);refine A1 ?_;refine bP [8] (by kernel_rfl) ⟨⟨_,rfl,?_⟩,trivial⟩
 ·refine A2 ?_;refine CB rfl ?_;refine A5 ?_;refine(Dv ((s.kind%8:Nat):Int)) (congrArg some (jy _ _ rfl rfl)) ?_;refine A5 ?_;refine uV 5 0 ?_;refine Ss 2 ?_;refine A5 ?_;refine dh ?_;exact Nl ⟨⟨i+1,yU last s,false,o++[Dt o alone f (yU last s)],some r.g,r.n,r.cap⟩,hlt,hsn,by rw[hI];exact qkj hx hk0 hf,by rw[List.length_append];exact Nat.succ_le_succ ho,by rw[List.length_append];exact r.h,r.hn⟩ (hμ:=(by show l.length-(i+1)<l.length-i;omega)) (ht:=⟨rfl,(aG rfl (by rw[List.length_append];rfl)),rfl,(aG rfl (congrArg Value.bool hk0b)),rfl,trivial⟩) (hL:=(ak [some 0,some 1,some 2,some 3] ⟨pR,pR,pR,⟨_,rfl,aK (by rw[dK])⟩,trivial⟩ rfl rfl))):=h
def qkx(h:P:=by
 refine(Qa (s:=36) (len:=o.length) (n2:=1) 3 5 (fun r=>[_,_,_,⟨some r.g,100,ah aJ o++aJ (wZ last),r.n,true⟩,_,_]) QA VF) (aB.length o) h3 h4 (aB.one (wZ last)) (fun r=>?_);refine A1 ?_;refine bP [10] (by kernel_rfl) ⟨⟨_,rfl,?_⟩,trivial⟩
 ·refine A2 ?_;refine CB rfl ?_;refine A4 ?_;refine jr [_] [3] rfl rfl (by show _=[some _];rw[List.length_append];rfl) (Ak (qbX 2) (o++[wZ last]) (some r.g) r.n r.cap (by rw[List.length_append];exact r.h) (by omega) hq1 hq2 hq3.1 (by omega) hq4) ⟨⟨_,rfl,by rw[<-dK];exact qV⟩,trivial⟩ rfl (.inr fun x b hb=>by rw[List.mem_singleton.1 hb]) (fun z=>?_);obtain⟨nb,nN,nc,hnc⟩:=z;refine D5 ?_;refine aF rfl (aj rfl) (fun w hL=>⟨⟨nb,nN,nc,by rw[hT];exact hnc⟩,?_,hL.picks [some 6] ⟨⟨_,rfl,aK (by rw[show ah aJ (jd t x y l)=_ from congrArg _ hT])⟩,trivial⟩ rfl rfl⟩);show Ending.returned (az nb 0 _ nc)=Ending.returned (az nb 0 (jd t x y l).length nc);rw[hT]):=h
def qgy(h:P:=by
 refine bP [6] (by kernel_rfl) ⟨⟨_,rfl,?_⟩,trivial⟩
 ·refine(Bl 36 [(0,_)]) (CS) (fun g5=>?_);refine A1 ?_;exact qkv):=h
def qgz(h:P:=by
 refine bP [8] (by kernel_rfl) ⟨⟨_,rfl,?_⟩,trivial⟩
 ·refine(Bl 36 [(0,_)]) (CS) (fun g3=>?_);refine A1 ?_;exact qgx):=h
def Xg(h:P:=by
 refine A1 ?_;refine bP [14] (by kernel_rfl) ⟨⟨_,rfl,?_⟩,trivial⟩
 ·refine A2 ?_;refine CB rfl ?_;refine A4 ?_;refine dh ?_;exact Nl ⟨⟨i+1,o++[x],some r.g,r.n,r.cap⟩,hlt,by show o++[x]=l.take (i+1);rw[<-dZ hx,<-hI],by rw[List.length_append];exact r.h,r.hn⟩ (hμ:=(by show l.length-(i+1)<l.length-i;omega)) (ht:=⟨rfl,(aG rfl (by rw[List.length_append];rfl)),rfl,trivial⟩) (hL:=(ak [some 0,some 1] ⟨pR,⟨_,rfl,aK (by rw[dK])⟩,trivial⟩ rfl rfl))):=h
def qgA(h:P:=by
 refine bP [5] (by kernel_rfl) ⟨⟨_,rfl,?_⟩,trivial⟩
 ·refine(Bu [(0,_),(1,_)]) (vF) ?_;refine A1 ?_;exact qgy):=h
def qgB(h:P:=by
 refine bP [7] (by kernel_rfl) ⟨⟨_,rfl,?_⟩,trivial⟩
 ·refine(Bu [(0,_),(1,_)]) (vF) ?_;refine A1 ?_;exact qgz):=h
end
namespace Go.Proofs.YtaffcpfhedadhaaGreatDoor
open Go Go.RowKit Go.Via
def LC(l:List PU)(lb:Option Nat)(lN lc:Nat)(hlc:l.length<=lc:=by omega)(hln:l.length<=1000:=by omega):bW Tryz.prog 136 [⟨lb,100,ah aJ l,lN,false⟩] [az lb 0 l.length lc] (SR (l).length) SR.v (fun z=>[⟨z.b,201,ah aJ (l),z.n,true⟩]):=by
 refine MI 26 Tryz.func136 fun w hL0=>?_;refine KU ?_;refine El (ι:={z:Nat×List PU×Option Nat×Nat×Nat // z.1<=l.length∧z.2.1=l.take z.1∧z.2.1.length<=z.2.2.2.2∧z.2.2.2.2*36<=z.2.2.2.1}) (fun⟨⟨i,o,ob,oN,oc⟩,hi,hI,h3,h4⟩=>([(0,az lb 0 l.length lc),(3,az ob 0 o.length oc),(4,aZ i)],[⟨lb,100,ah aJ l,lN,false⟩,⟨ob,201,ah aJ o,oN,true⟩],l.length-i)) ⟨⟨0,[],none,0,0⟩,Nat.zero_le _,rfl,Nat.le_refl _,by simp⟩ ?_ (hL:=(ak [some 0,none] ⟨pR,⟨rfl,rfl,rfl⟩,trivial⟩ rfl rfl));rintro⟨⟨i,o,ob,oN,oc⟩,hi,hI,h3,h4⟩;(try dsimp only);replace hi:i<=l.length:=hi;replace hI:o=l.take i:=hI;replace h3:o.length<=oc:=h3;replace h4:oc*36<=oN:=h4
 have hol:o.length<=100000:=(by rw[hI,List.length_take];omega);refine A9 ?_;refine Cd ?_ ?_<;>intro haQ
 ·have hlt:i<l.length:=(by have:=of_decide_eq_true haQ;omega);obtain⟨x,hx⟩:∃x,l[i]? =some x:=⟨l[i],List.getElem?_eq_getElem hlt⟩;refine eF 0 rfl (aB.ne (by decide) (by omega)) (fun hbs=>?_);obtain⟨gl,hgl⟩:=Option.isSome_iff_exists.1 hbs;replace hgl:lb=some gl:=hgl;subst hgl;refine A4 ?_;refine pY (l':=[⟨_,_,_,_,_,_⟩,⟨_,_,_,_,_,_⟩,⟨_,_,_,_,_,_⟩,⟨_,_,_,_,_,_⟩,⟨_,_,_,_,_,_⟩,⟨_,_,_,_,_,_⟩,⟨_,_,_,_,_,_⟩,⟨_,_,_,_,_,_⟩,⟨_,_,_,_,_,_⟩,⟨_,_,_,_,_,_⟩,⟨_,_,_,_,_,_⟩]) [2000000] [1,2,3,4,5,6,7,8,9,10,11] [0,12,13,14] mixed (by kernel_rfl) rfl ?_;refine A2 ?_;refine ai 0 ((i)*36) QA vC rfl rfl rfl rfl rfl (by omega) (by omega) (aB.ne (by decide) (by omega)) (by show 0+Int.toNat _*36=_;omega) ?_;refine Fg ((i)*36) 0 ?_;refine aI (v:=kG x.i) 0 ((i)*36+0) _ rfl rfl rfl rfl iR (aB.sub hx 0 20 (by decide)) rfl (by decide) rfl ?_;refine A2 ?_;refine ai 0 ((i)*36) QA vC rfl rfl rfl rfl rfl (by omega) (by omega) (aB.ne (by decide) (by omega)) (by show 0+Int.toNat _*36=_;omega) ?_;refine Fg ((i)*36) 20 ?_;refine aI (v:=xh x.f) 0 ((i)*36+20) _ rfl rfl rfl rfl CQ (aB.sub hx 20 16 (by decide)) rfl (by decide) rfl ?_;refine(Bu [(0,_),(1,_)]) (Ed) ?_;refine A1 ?_;refine bP [0,12] (by kernel_rfl) ⟨⟨_,rfl,?_⟩,⟨_,rfl,?_⟩,trivial⟩
  ·refine A2 ?_;refine bP [12] (by kernel_rfl) ⟨⟨_,rfl,?_⟩,trivial⟩
   ·refine(Bl 36 [(0,_)]) (qE) (fun g0=>?_);refine A1 ?_;refine bP [13] (by kernel_rfl) ⟨⟨_,rfl,?_⟩,trivial⟩
    ·refine(Qa (s:=36) (len:=o.length) (n2:=1) 1 2 (fun r=>[_,⟨some r.g,201,ah aJ o++aJ (x),r.n,true⟩,_]) kU zI) (aB.length o) h3 h4 (aB.one (x)) (fun r=>?_);exact Xg
  ·refine(Bl 36 [(0,_)]) (qE) (fun g0=>?_);refine A1 ?_;refine bP [0] (by kernel_rfl) ⟨⟨_,rfl,?_⟩,trivial⟩
   ·refine A2 ?_;refine bP [13] (by kernel_rfl) ⟨⟨_,rfl,?_⟩,trivial⟩
    ·refine(Qa (s:=36) (len:=o.length) (n2:=1) 1 2 (fun r=>[_,⟨some r.g,201,ah aJ o++aJ (x),r.n,true⟩,_]) kU zI) (aB.length o) h3 h4 (aB.one (x)) (fun r=>?_);exact Xg
 ·have hge:i=l.length:=(by have:=of_decide_eq_false haQ;omega);subst hge;obtain rfl:o=l:=by rw[hI,List.take_length]
  refine lw ?_;refine aF rfl (aj rfl) (fun w hL=>⟨⟨ob,oN,oc,h3⟩,?_,hL.pk [some 1]⟩);exact rfl
def KF(l:List PU)(lb:Option Nat)(lN lc:Nat)(hlc:l.length<=lc:=by omega)(hln:l.length<=1000:=by omega):bW Tryz.prog 137 [⟨lb,201,ah aJ l,lN,false⟩] [az lb 0 l.length lc] (SR (l).length) SR.v (fun z=>[⟨z.b,100,ah aJ (l),z.n,true⟩]):=by
 refine MI 26 Tryz.func137 fun w hL0=>?_;refine KU ?_;refine El (ι:={z:Nat×List PU×Option Nat×Nat×Nat // z.1<=l.length∧z.2.1=l.take z.1∧z.2.1.length<=z.2.2.2.2∧z.2.2.2.2*36<=z.2.2.2.1}) (fun⟨⟨i,o,ob,oN,oc⟩,hi,hI,h3,h4⟩=>([(0,az lb 0 l.length lc),(3,az ob 0 o.length oc),(4,aZ i)],[⟨lb,201,ah aJ l,lN,false⟩,⟨ob,100,ah aJ o,oN,true⟩],l.length-i)) ⟨⟨0,[],none,0,0⟩,Nat.zero_le _,rfl,Nat.le_refl _,by simp⟩ ?_ (hL:=(ak [some 0,none] ⟨pR,⟨rfl,rfl,rfl⟩,trivial⟩ rfl rfl));rintro⟨⟨i,o,ob,oN,oc⟩,hi,hI,h3,h4⟩;(try dsimp only);replace hi:i<=l.length:=hi;replace hI:o=l.take i:=hI;replace h3:o.length<=oc:=h3;replace h4:oc*36<=oN:=h4
 have hol:o.length<=100000:=(by rw[hI,List.length_take];omega);refine A9 ?_;refine Cd ?_ ?_<;>intro haQ
 ·have hlt:i<l.length:=(by have:=of_decide_eq_true haQ;omega);obtain⟨x,hx⟩:∃x,l[i]? =some x:=⟨l[i],List.getElem?_eq_getElem hlt⟩;refine eF 0 rfl (aB.ne (by decide) (by omega)) (fun hbs=>?_);obtain⟨gl,hgl⟩:=Option.isSome_iff_exists.1 hbs;replace hgl:lb=some gl:=hgl;subst hgl;refine A4 ?_;refine pY (l':=[⟨_,_,_,_,_,_⟩,⟨_,_,_,_,_,_⟩,⟨_,_,_,_,_,_⟩,⟨_,_,_,_,_,_⟩,⟨_,_,_,_,_,_⟩,⟨_,_,_,_,_,_⟩,⟨_,_,_,_,_,_⟩,⟨_,_,_,_,_,_⟩,⟨_,_,_,_,_,_⟩,⟨_,_,_,_,_,_⟩,⟨_,_,_,_,_,_⟩]) [2000000] [1,2,3,4,5,6,7,8,9,10,11] [0,12,13,14] mixed (by kernel_rfl) rfl ?_;refine A2 ?_;refine ai 0 ((i)*36) kU jD rfl rfl rfl rfl rfl (by omega) (by omega) (aB.ne (by decide) (by omega)) (by show 0+Int.toNat _*36=_;omega) ?_;refine Fg ((i)*36) 0 ?_;refine aI (v:=kG x.i) 0 ((i)*36) _ rfl rfl rfl rfl iR (aB.sub hx 0 20 (by decide)) rfl (by decide) rfl ?_;refine A2 ?_;refine ai 0 ((i)*36) kU jD rfl rfl rfl rfl rfl (by omega) (by omega) (aB.ne (by decide) (by omega)) (by show 0+Int.toNat _*36=_;omega) ?_;refine Fg ((i)*36) 20 ?_;refine aI (v:=xh x.f) 0 ((i)*36+20) _ rfl rfl rfl rfl CQ (aB.sub hx 20 16 (by decide)) rfl (by decide) rfl ?_;refine(Bu [(0,_),(1,_)]) (vF) ?_;refine A1 ?_;refine bP [0,12] (by kernel_rfl) ⟨⟨_,rfl,?_⟩,⟨_,rfl,?_⟩,trivial⟩
  ·refine A2 ?_;refine bP [12] (by kernel_rfl) ⟨⟨_,rfl,?_⟩,trivial⟩
   ·refine(Bl 36 [(0,_)]) (CS) (fun g0=>?_);refine A1 ?_;refine bP [13] (by kernel_rfl) ⟨⟨_,rfl,?_⟩,trivial⟩
    ·refine(Qa (s:=36) (len:=o.length) (n2:=1) 1 2 (fun r=>[_,⟨some r.g,100,ah aJ o++aJ (x),r.n,true⟩,_]) QA VF) (aB.length o) h3 h4 (aB.one (x)) (fun r=>?_);exact Xg
  ·refine(Bl 36 [(0,_)]) (CS) (fun g0=>?_);refine A1 ?_;refine bP [0] (by kernel_rfl) ⟨⟨_,rfl,?_⟩,trivial⟩
   ·refine A2 ?_;refine bP [13] (by kernel_rfl) ⟨⟨_,rfl,?_⟩,trivial⟩
    ·refine(Qa (s:=36) (len:=o.length) (n2:=1) 1 2 (fun r=>[_,⟨some r.g,100,ah aJ o++aJ (x),r.n,true⟩,_]) QA VF) (aB.length o) h3 h4 (aB.one (x)) (fun r=>?_);exact Xg
 ·have hge:i=l.length:=(by have:=of_decide_eq_false haQ;omega);subst hge;obtain rfl:o=l:=by rw[hI,List.take_length]
  refine lw ?_;refine aF rfl (aj rfl) (fun w hL=>⟨⟨ob,oN,oc,h3⟩,?_,hL.pk [some 1]⟩);exact rfl
def Ak{S:Rl->Prop}{ρ:Rl->Int}(T:fZ S ρ)(l:List PU)(lb:Option Nat)(lN lc:Nat)(hlc:l.length<=lc)(hln:l.length<=1000)(hsep:pJ ρ l)(hE:Go.Via.Ends S l)(h0:0<l.length)(h20:l.length<20)(hz:∀u∈l,jB u.i<=1000∧ja u.f<=1000):bW Tryz.prog 89 [⟨lb,100,ah aJ l,lN,false⟩] [az lb 0 l.length lc] (SR (pU l).length) (fun z=> .tuple #[z.v,.int .i64 0]) (fun z=>[⟨z.b,100,ah aJ (pU l),z.n,true⟩]):=by
 refine⟨by kernel_rfl,fun w hL0=>?_⟩;have hnl:(pU l).length<=1000:=Nat.le_trans (Nu (l:=l)) (by omega);refine cB1 17 Tryz.func89 hL0 ?_;refine A8 ?_;refine(Bu []) (qdN) ?_;refine QF rfl rfl rfl (fun _=>by kernel_rfl) ?_;refine A1 ?_;refine(Sc [0]) (LC l lb lN lc hlc hln) (fun z=>?_);obtain⟨ub,uN,uc,huc⟩:=z;refine(Sc [1]) (Hy T l ub uN uc huc hln hsep hE h0 h20 hz) (fun z=>?_);obtain⟨nb,nN,nc,hnc⟩:=z;refine kN ?_;refine(Sc [2]) (KF (pU l) nb nN nc hnc hnl) (fun z=>?_);obtain⟨pb,pN,pc,hpc⟩:=z;refine A6 ?_;refine bF rfl (aj rfl) (aj rfl) (fun w hL=>⟨⟨pb,pN,pc,hpc⟩,?_,hL.pk [some 3]⟩);exact rfl
def fV(t x y:Nat)(ht:t<256)(hx:x<256)(hy:y<256)(l:List rJ)(lb:Option Nat)(pre:List Value)(lN lc:Nat)(hlc:l.length<=lc)(h6:l.length<=6)(hs:∀s∈l,YW s):bW Tryz.prog 40 [⟨lb,86,pre++ah jY l,lN,false⟩] [.agg #[.int .u8 (t:Nat),.int .u8 (x:Nat),.int .u8 (y:Nat),az lb pre.length l.length lc]] (SR (jd t x y l).length) SR.v (fun z=>[⟨z.b,100,ah aJ (jd t x y l),z.n,true⟩]):=by
 refine MI 133 Tryz.func40 fun w hL0=>?_;refine A2 ?_;refine Bp 4 (fun g0=>?_);refine lw ?_;refine(Dv ((t%16:Nat):Int)) (congrArg some (jy _ _ rfl rfl)) ?_;refine(Cv ((t%16:Nat):Int) u5 u3) (by exact(wi (by omega) (by omega) (by omega))) ?_;refine A2 ?_;refine(Dv ((x%64:Nat):Int)) (congrArg some (jy _ _ rfl rfl)) ?_;refine(Cv ((x%64:Nat):Int) u5 u3) (by exact(wi (by omega) (by omega) (by omega))) ?_;refine A2 ?_;refine(Dv ((y%64:Nat):Int)) (congrArg some (jy _ _ rfl rfl)) ?_;refine(Cv ((y%64:Nat):Int) u5 u3) (by exact(wi (by omega) (by omega) (by omega))) ?_;refine Pc (uQ (t%16:Nat) (x%64:Nat) (y%64:Nat)) ?_;refine Al 12 qdE (fun g1=>?_);refine Ss 2 ?_;refine D6 ?_;refine El (ι:={z:Nat×yS×Bool×List PU×Option Nat×Nat×Nat // z.1<=l.length∧Ip z.2.1 (l.length-z.1)∧Gi t x y l=iG (l.drop z.1) z.2.1 z.2.2.1 z.2.2.2.1∧z.2.2.2.1.length<=z.1∧z.2.2.2.1.length<=z.2.2.2.2.2.2∧z.2.2.2.2.2.2*36<=z.2.2.2.2.2.1}) (fun⟨⟨i,last,alone,o,ob,oN,oc⟩,hi,hsm,hI,ho,h3,h4⟩=>([(1,dD g0),(3,az ob 0 o.length oc),(4,dD g1),(5,.bool alone),(6,aZ i)],[⟨lb,86,pre++ah jY l,lN,false⟩,⟨some g0,24,[.int .u8 (t:Nat),.int .u8 (x:Nat),.int .u8 (y:Nat),az lb pre.length l.length lc],4,true⟩,⟨some g1,137,Gg last,12,true⟩,⟨ob,100,ah aJ o,oN,true⟩],l.length-i)) ⟨⟨0,st0 t x y,true,[],none,0,0⟩,Nat.zero_le _,Ko h6,rfl,Nat.le_refl _,Nat.le_refl _,by simp⟩ ?_ (hL:=(ak [some 0,some 1,some 2,none] ⟨pR,pR,pR,⟨rfl,rfl,rfl⟩,trivial⟩ rfl rfl));rintro⟨⟨i,last,alone,o,ob,oN,oc⟩,hi,hsm,hI,ho,h3,h4⟩;(try dsimp only);replace hi:i<=l.length:=hi;replace hsm:Ip last (l.length-i):=hsm;replace hI:Gi t x y l=iG (l.drop i) last alone o:=hI;replace ho:o.length<=i:=ho;replace h3:o.length<=oc:=h3;replace h4:oc*36<=oN:=h4;have ht0:=hsm.t0;have ht1:=hsm.t1;refine A9 ?_;refine Rs 32 ?_ ?_<;>intro haQ
 ·have hlt:i<l.length:=(by have:=of_decide_eq_true haQ;omega);obtain⟨s,hx⟩:∃s,l[i]? =some s:=⟨l[i],List.getElem?_eq_getElem hlt⟩;obtain⟨hs1,hs2,hs3,hs4⟩:=hs s (List.mem_of_getElem? hx);have hsn:Ip (yU last s) (l.length-(i+1)):=Gh (by rw[show l.length-(i+1)+1=l.length-i by omega];exact hsm);refine A5 ?_;refine Cd ?_ ?_<;>intro hbQ
  ·refine A5 ?_;refine eF 0 rfl (jS.neP (l:=l) (by decide) pre (by omega)) (fun hbs=>?_);obtain⟨gl,hgl⟩:=Option.isSome_iff_exists.1 hbs;replace hgl:lb=some gl:=hgl;subst hgl;refine A4 ?_;refine DW (pre.length+i*4) u22 qha rfl rfl rfl rfl (by omega) (by omega) (by show pre.length+Int.toNat _*4=_;omega) ?_;refine aI (v:=SpV s) 0 (pre.length+i*4) _ rfl rfl rfl rfl qha (jS.subP pre hx 0 4 (by decide)) rfl (by decide) rfl ?_;refine Al 4 z86 (fun g2=>?_);refine Ss 4 ?_;refine A6 ?_;refine L2 2 0 ?_;refine Pc (G8 ((last.t:Rat).num)) ?_;refine A2 ?_;refine aQ 48 (.int .i64 last.t) rfl (congrArg (Value.int .i64) (qfz hsm)) ?_;refine A8 ?_;refine(Aq (last.t+1)) (by exact(congrArg some (wi (by omega) (by omega) rfl))) ?_;refine A2 ?_;refine(Dv ((s.time%8:Nat):Int)) (congrArg some (jy _ _ rfl rfl)) ?_;refine(Cv ((s.time%8:Nat):Int) u5 u3) (by exact(wi (by omega) (by omega) (by omega))) ?_;refine(Aq (last.t+1+((s.time%8:Nat):Int))) (by exact(congrArg some (wi (by omega) (by omega) rfl))) ?_;refine A2 ?_;refine(Dv ((s.x%64:Nat):Int)) (congrArg some (jy _ _ rfl rfl)) ?_;refine(Cv ((s.x%64:Nat):Int) u5 u3) (by exact(wi (by omega) (by omega) (by omega))) ?_;refine A2 ?_;refine(Dv ((s.y%64:Nat):Int)) (congrArg some (jy _ _ rfl rfl)) ?_;refine(Cv ((s.y%64:Nat):Int) u5 u3) (by exact(wi (by omega) (by omega) (by omega))) ?_;refine Pc (uQ (last.t+1+((s.time%8:Nat):Int)) (s.x%64:Nat) (s.y%64:Nat)) ?_;refine Kr 65 (SmV (yU last s)) ?_;refine Al 12 qdE (fun g3=>?_);refine Ss 5 ?_;refine A4 ?_;refine uV 2 0 ?_;refine Al 12 qdE (fun g4=>?_);refine Ss 6 ?_;refine A2 ?_;refine nU (nt:=133) (X:={f:yS // f=if s.kind%8=1 then swS last s else last}) (fun⟨f,hf⟩=>[(1,dD g0),(3,az ob 0 o.length oc),(4,dD g1),(5,.bool alone),(6,aZ i),(7,dD g2),(10,dD g3),(11,dD g4)]) (fun⟨f,hf⟩=>[⟨some gl,86,pre++ah jY l,lN,false⟩,⟨some g0,24,[.int .u8 (t:Nat),.int .u8 (x:Nat),.int .u8 (y:Nat),az (some gl) pre.length l.length lc],4,true⟩,⟨some g1,137,Gg last,12,true⟩,⟨ob,100,ah aJ o,oN,true⟩,⟨some g2,86,jY s,4,true⟩,⟨some g3,137,Gg (yU last s),12,true⟩,⟨some g4,137,Gg f,12,true⟩]) ?_ ?_
   ·refine A4 ?_;refine(Dv ((s.kind%8:Nat):Int)) (congrArg some (jy _ _ rfl rfl)) ?_;refine A3 ?_;refine Cd ?_ ?_<;>intro hcQ
    ·have hk1:s.kind%8=1:=by have e:=of_decide_eq_true hcQ;omega
     refine A3 ?_;refine(Dv ((s.y%64:Nat):Int)) (congrArg some (jy _ _ rfl rfl)) ?_;refine(Cv ((s.y%64:Nat):Int) u5 u3) (by exact(wi (by omega) (by omega) (by omega))) ?_;refine A2 ?_;refine(Dv ((s.x%64:Nat):Int)) (congrArg some (jy _ _ rfl rfl)) ?_;refine(Cv ((s.x%64:Nat):Int) u5 u3) (by exact(wi (by omega) (by omega) (by omega))) ?_;refine Pc (uQ 0 (s.y%64:Nat) (s.x%64:Nat)) ?_;refine qdl (v:= .agg #[.bool (decide ((((0:Int):Rat)).num<0)),.string (bH (((0:Int):Rat)).num.natAbs),.bool false,.string (dm (((0:Int):Rat))),.bool (decide (((((s.y%64:Nat):Int):Rat)).num<0)),.string (bH ((((s.y%64:Nat):Int):Rat)).num.natAbs),.bool false,.string (dm ((((s.y%64:Nat):Int):Rat))),.bool (decide (((((s.x%64:Nat):Int):Rat)).num<0)),.string (bH ((((s.x%64:Nat):Int):Rat)).num.natAbs),.bool false,.string (dm ((((s.x%64:Nat):Int):Rat)))]) (u:= .agg #[.bool (decide (((((s.y%64:Nat):Int):Rat)).num<0)),.string (bH ((((s.y%64:Nat):Int):Rat)).num.natAbs),.bool false,.string (dm ((((s.y%64:Nat):Int):Rat))),.bool (decide (((((s.x%64:Nat):Int):Rat)).num<0)),.string (bH ((((s.x%64:Nat):Int):Rat)).num.natAbs),.bool false,.string (dm ((((s.x%64:Nat):Int):Rat)))]) rfl rfl rfl (fun _=>by kernel_rfl) ?_;refine A1 ?_;refine Ss 6 ?_;refine A2 ?_;exact Ni ⟨swS last s,(if_pos hk1).symm⟩ [0,1,2,3,4,5,6]
    ·have hk1:s.kind%8≠1:=by have e:=of_decide_eq_false hcQ;omega
     refine A2 ?_;exact Ni ⟨last,(if_neg hk1).symm⟩ [0,1,2,3,4,5,6]
   rintro⟨f,hf⟩;show At _ ⟨133,[(1,dD g0),(3,az ob 0 o.length oc),(4,dD g1),(5,.bool alone),(6,aZ i),(7,dD g2),(10,dD g3),(11,dD g4)],[⟨some gl,86,pre++ah jY l,lN,false⟩,⟨some g0,24,[.int .u8 (t:Nat),.int .u8 (x:Nat),.int .u8 (y:Nat),az (some gl) pre.length l.length lc],4,true⟩,⟨some g1,137,Gg last,12,true⟩,⟨ob,100,ah aJ o,oN,true⟩,⟨some g2,86,jY s,4,true⟩,⟨some g3,137,Gg (yU last s),12,true⟩,⟨some g4,137,Gg f,12,true⟩]⟩ _;obtain⟨hfs,hft⟩:=qiy hsm hf;refine A5 ?_;refine(Dv ((s.kind%8:Nat):Int)) (congrArg some (jy _ _ rfl rfl)) ?_;refine A3 ?_;refine Cd ?_ ?_<;>intro hcQ
   ·have hk0:s.kind%8≠0:=by have e:=hcQ;simp at e;omega
    have hk0b:decide (((s.kind%8:Nat):Int)=0)=false:=(by exact decide_eq_false (by omega));refine nU (nt:=133) (X:=Nat) (fun gI=>[(1,dD g0),(3,az ob 0 o.length oc),(4,dD g1),(5,.bool alone),(6,aZ i),(7,dD g2),(10,dD g3),(11,dD g4),(12,dD gI)]) (fun gI=>[⟨some gl,86,pre++ah jY l,lN,false⟩,⟨some g0,24,[.int .u8 (t:Nat),.int .u8 (x:Nat),.int .u8 (y:Nat),az (some gl) pre.length l.length lc],4,true⟩,⟨some g1,137,Gg last,12,true⟩,⟨ob,100,ah aJ o,oN,true⟩,⟨some g2,86,jY s,4,true⟩,⟨some g3,137,Gg (yU last s),12,true⟩,⟨some g4,137,Gg f,12,true⟩,⟨some gI,61,bG (Dt o alone f (yU last s)).i,20,true⟩]) ?_ ?_
    ·refine Dq [3000000] [0,1,3,4,6,7,8,2,5,9,10,11,12,13,14,15] ?_;refine A1 ?_;refine L4 6 0 ?_;refine A1 ?_;refine L4 5 0 ?_;refine A3 ?_;refine Pc (kF ((f.t:Rat))) ?_;refine Pc (kF (((yU last s).t:Rat))) ?_;refine A1 ?_;refine Rs 95 ?_ ?_<;>intro hdQ
     ·have hoe:o.isEmpty=false:=by have e:=of_decide_eq_true hdQ;cases o<;>simp at e ⊢
      refine A3 ?_;refine(Bu [(0,_),(1,_),(2,_)]) (TY) ?_;refine Al 20 z61 (fun g5=>?_);refine Ss 7 ?_;refine A2 ?_;exact Eh g5 ⟨rfl,rfl,rfl,rfl,rfl,rfl,rfl,rfl,rfl,trivial⟩ (ak [some 0,some 1,some 2,some 3,some 4,some 5,some 6,some 7] ⟨pR,pR,pR,pR,pR,pR,pR,⟨_,rfl,aK (by rw[qfA hoe];rfl)⟩,trivial⟩ rfl rfl)
     ·have hoe:o.isEmpty=true:=by have e:=of_decide_eq_false hdQ;cases o<;>simp at e ⊢
      refine A3 ?_;refine(Bu [(0,_),(1,_),(2,_)]) (TY) ?_;refine Al 20 z61 (fun g5=>?_);refine Ss 7 ?_;refine A2 ?_;exact Eh g5 ⟨rfl,rfl,rfl,rfl,rfl,rfl,rfl,rfl,rfl,trivial⟩ (ak [some 0,some 1,some 2,some 3,some 4,some 5,some 6,some 7] ⟨pR,pR,pR,pR,pR,pR,pR,⟨_,rfl,aK (by rw[qfB hoe];rfl)⟩,trivial⟩ rfl rfl)
    rintro gI;show At _ ⟨133,[(1,dD g0),(3,az ob 0 o.length oc),(4,dD g1),(5,.bool alone),(6,aZ i),(7,dD g2),(10,dD g3),(11,dD g4),(12,dD gI)],[⟨some gl,86,pre++ah jY l,lN,false⟩,⟨some g0,24,[.int .u8 (t:Nat),.int .u8 (x:Nat),.int .u8 (y:Nat),az (some gl) pre.length l.length lc],4,true⟩,⟨some g1,137,Gg last,12,true⟩,⟨ob,100,ah aJ o,oN,true⟩,⟨some g2,86,jY s,4,true⟩,⟨some g3,137,Gg (yU last s),12,true⟩,⟨some g4,137,Gg f,12,true⟩,⟨some gI,61,bG (Dt o alone f (yU last s)).i,20,true⟩]⟩ _;refine pY (l':=[⟨_,_,_,_,_,_⟩,⟨_,_,_,_,_,_⟩,⟨_,_,_,_,_,_⟩]) [2000000] [1,2,3] [0,4,5,6,7,8] mixed (by kernel_rfl) rfl ?_;refine xZ 7 0 ?_;refine uV 6 0 ?_;refine uV 5 0 ?_;refine A1 ?_;refine bP [0,4] (by kernel_rfl) ⟨⟨_,rfl,?_⟩,⟨_,rfl,?_⟩,trivial⟩
    ·refine A2 ?_;refine bP [4] (by kernel_rfl) ⟨⟨_,rfl,?_⟩,trivial⟩
     ·refine Pc (yQ (f.t:Rat) (f.x:Rat) (f.y:Rat) ((yU last s).t:Rat) ((yU last s).x:Rat) ((yU last s).y:Rat) (Xe hft) (Nat.le_trans hfs.t (by omega)) (Nat.le_trans hfs.x (by omega)) (Nat.le_trans hfs.y (by omega)) (Nat.le_trans hsn.t (by omega)) (Nat.le_trans hsn.x (by omega)) (Nat.le_trans hsn.y (by omega))) ?_;refine A1 ?_;exact qgA
    ·refine Pc (yQ (f.t:Rat) (f.x:Rat) (f.y:Rat) ((yU last s).t:Rat) ((yU last s).x:Rat) ((yU last s).y:Rat) (Xe hft) (Nat.le_trans hfs.t (by omega)) (Nat.le_trans hfs.x (by omega)) (Nat.le_trans hfs.y (by omega)) (Nat.le_trans hsn.t (by omega)) (Nat.le_trans hsn.x (by omega)) (Nat.le_trans hsn.y (by omega))) ?_;refine A1 ?_;refine bP [0,5] (by kernel_rfl) ⟨⟨_,rfl,?_⟩,⟨_,rfl,?_⟩,trivial⟩
     ·refine A2 ?_;exact qgA
     ·refine(Bu [(0,_),(1,_)]) (vF) ?_;refine A1 ?_;refine bP [0,6] (by kernel_rfl) ⟨⟨_,rfl,?_⟩,⟨_,rfl,?_⟩,trivial⟩
      ·refine A2 ?_;exact qgy
      ·refine(Bl 36 [(0,_)]) (CS) (fun g5=>?_);refine A1 ?_;refine bP [0] (by kernel_rfl) ⟨⟨_,rfl,?_⟩,trivial⟩
       ·refine A2 ?_;exact qkv
   ·have hk0:s.kind%8=0:=by have e:=hcQ;simp at e;omega
    have hk0b:decide (((s.kind%8:Nat):Int)=0)=true:=(by exact decide_eq_true (by omega));refine A6 ?_;refine(Dv ((s.kind%8:Nat):Int)) (congrArg some (jy _ _ rfl rfl)) ?_;refine A5 ?_;refine uV 5 0 ?_;refine Ss 2 ?_;refine A5 ?_;refine dh ?_;exact Nl ⟨⟨i+1,yU last s,true,o,ob,oN,oc⟩,hlt,hsn,by rw[hI];exact qcl hx hk0,Nat.le_succ_of_le ho,h3,h4⟩ (hμ:=(by show l.length-(i+1)<l.length-i;omega)) (ht:=⟨rfl,rfl,rfl,(aG rfl (congrArg Value.bool hk0b)),rfl,trivial⟩) (hL:=eH.auto)
  ·exact absurd (of_decide_eq_false hbQ) (by omega)
 ·have hge:i=l.length:=(by have:=of_decide_eq_false haQ;omega);subst hge;refine KU ?_;refine Cd ?_ ?_<;>intro hbQ
  ·have hal:alone=true:=hbQ;have hr:Gi t x y l=o++[wZ last]:=by rw[hI,Xa,hal];rfl
   have hT:jd t x y l=pU (o++[wZ last]):=(by rw[xX h6,hr]);have hq1:pJ jk (o++[wZ last]):=hr▸Kq;have hq2:Go.Via.Ends (SmE 2) (o++[wZ last]):=hr▸Gj h6;have hq3:=Kt (t:=t) (x:=x) (y:=y) h6;rw[hr] at hq3;have hq4:∀u∈(o++[wZ last]),jB u.i<=1000∧ja u.f<=1000:=hr▸Xd h6;refine A3 ?_;refine L4 2 0 ?_;refine Pc (kF ((last.t:Rat))) ?_;refine Al 9 OD (fun g2=>?_);refine Ss 4 ?_;refine A2 ?_;refine pY (l':=[⟨_,_,_,_,_,_⟩,⟨_,_,_,_,_,_⟩,⟨_,_,_,_,_,_⟩,⟨_,_,_,_,_,_⟩,⟨_,_,_,_,_,_⟩]) [2000000] [1,2,3,4,5] [0,6,7,8,9,10] mixed (by kernel_rfl) rfl ?_;refine L9 4 0 ?_;refine L9 4 0 ?_;refine(Bu [(0,_),(1,_)]) (Jj) ?_;refine A1 ?_;refine L8 2 4 ?_;refine A1 ?_;refine bP [0,6] (by kernel_rfl) ⟨⟨_,rfl,?_⟩,⟨_,rfl,?_⟩,trivial⟩
   ·refine A2 ?_;refine bP [6] (by kernel_rfl) ⟨⟨_,rfl,?_⟩,trivial⟩
    ·refine Pc (Ce (last.x:Rat) (last.y:Rat)) ?_;refine A1 ?_;exact qgB
   ·refine Pc (Ce (last.x:Rat) (last.y:Rat)) ?_;refine A1 ?_;refine bP [0,7] (by kernel_rfl) ⟨⟨_,rfl,?_⟩,⟨_,rfl,?_⟩,trivial⟩
    ·refine A2 ?_;exact qgB
    ·refine(Bu [(0,_),(1,_)]) (vF) ?_;refine A1 ?_;refine bP [0,8] (by kernel_rfl) ⟨⟨_,rfl,?_⟩,⟨_,rfl,?_⟩,trivial⟩
     ·refine A2 ?_;exact qgz
     ·refine(Bl 36 [(0,_)]) (CS) (fun g3=>?_);refine A1 ?_;refine bP [0] (by kernel_rfl) ⟨⟨_,rfl,?_⟩,trivial⟩
      ·refine A2 ?_;exact qgx
  ·have hal:alone=false:=hbQ;have hr:Gi t x y l=o:=by rw[hI,Xa,hal];rfl
   have hT:jd t x y l=pU (o):=(by rw[xX h6,hr]);have hq1:pJ jk (o):=hr▸Kq;have hq2:Go.Via.Ends (SmE 2) (o):=hr▸Gj h6;have hq3:=Kt (t:=t) (x:=x) (y:=y) h6;rw[hr] at hq3;have hq4:∀u∈(o),jB u.i<=1000∧ja u.f<=1000:=hr▸Xd h6;refine A5 ?_;refine(Sc [3]) (Ak (qbX 2) o ob oN oc h3 (by omega) hq1 hq2 hq3.1 (by omega) hq4) (fun z=>?_);obtain⟨nb,nN,nc,hnc⟩:=z;refine D5 ?_;refine aF rfl (aj rfl) (fun w hL=>⟨⟨nb,nN,nc,by rw[hT];exact hnc⟩,?_,hL.picks [some 4] ⟨⟨_,rfl,aK (by rw[show ah aJ (jd t x y l)=_ from congrArg _ hT])⟩,trivial⟩ rfl rfl⟩);show Ending.returned (az nb 0 _ nc)=Ending.returned (az nb 0 (jd t x y l).length nc);rw[hT]
end Go.Proofs.YtaffcpfhedadhaaGreatDoor
namespace Go.Via
open Go
def Y2{α:Type}{c:α->List Value}{k:Nat}(h:iV α c k)(hk:0<k)(pre:List Value){l:List α}{b:Option Nat}(hb:b=none->pre++ah c l=[]):l.length=0∨∃g,b=some g:=
 rF h hk fun e=>(List.append_eq_nil_iff.1 (hb e)).2
def qct{x y:Int}(m n:Nat)(hm:m<256)(hx:x=(m:Int))(hy:y=(n:Int)):IntKind.u8.wrap (x.tdiv y)=((m/n:Nat):Int):=by
 subst hx;subst hy;rw[show(m:Int).tdiv (n:Int)=((m/n:Nat):Int) from(Int.ofNat_tdiv m n).symm];have h:=Nat.div_le_self m n
 generalize m/n=q at h ⊢
 simp[IntKind.wrap,IntKind.bits,IntKind.signed];omega
def Td{x y:Int}(m n:Nat)(hx:x=(m:Int))(hy:y=(n:Int)):IntKind.u8.wrap (x+y)=(((m+n)%256:Nat):Int):=by
 subst hx;subst hy;simp[IntKind.wrap,IntKind.bits,IntKind.signed]
def EX(ch:Nat)(s:rJ):rJ:=⟨s.time,(s.x+ch/16)%256,(s.y+1)%256,s.kind⟩
def chS(ch:Nat)(l:List rJ):List rJ:=if 0<l.length∧1<ch%4 then(match l[ch/4%l.length]? with
 |some s=>l.set (ch/4%l.length) (EX ch s)
 |none=>l) else l
theorem PT(ch:Nat)(l:List rJ):(chS ch l).length=l.length:=by
 unfold chS
 split
 ·split
  ·rw[List.length_set]
  ·rfl
 ·rfl
def qiB{ch:Nat}{l:List rJ}(h:∀s∈l,YW s):∀s∈chS ch l,YW s:=fun s hs=>by
 unfold chS at hs
 split at hs
 ·split at hs
  ·rename_i u hu
   rcases List.mem_or_eq_of_mem_set hs with e|e
   ·exact h s e
   ·have hu':=h u (List.mem_of_getElem? hu);subst e;exact⟨hu'.1,Nat.mod_lt _ (by decide),Nat.mod_lt _ (by decide),hu'.2.2.2⟩
  ·exact h s hs
 ·exact h s hs
def qfK{ch k:Nat}{l:List rJ}{s:rJ}(h0:0<l.length)(h1:1<ch%4)(hk:k=ch/4%l.length)(hx:l[k]? =some s):chS ch l=(l.set k ⟨s.time,(s.x+ch/16)%256,s.y,s.kind⟩).set k (EX ch s):=by
 subst hk;unfold chS;rw[if_pos ⟨h0,h1⟩,hx,List.set_set]
theorem qcu{ch:Nat}{l:List rJ}(h:¬(0<l.length∧1<ch%4)):chS ch l=l:=by unfold chS;rw[if_neg h]
def pM(ta xa ya:Nat)(a:List rJ)(tb xb yb:Nat)(b:List rJ)(ch:Nat):List PU:=if 0<ch%4 then jd ta xa ya (chS ch a) else jd tb xb yb b
section
variable{ta xa ya tb xb yb ch:Nat}{a b:List rJ}
def qfL(h:¬0<ch%4):pM ta xa ya a tb xb yb b ch=jd tb xb yb b:=by unfold pM;rw[if_neg h]
def KG(h:0<ch%4):pM ta xa ya a tb xb yb b ch=jd ta xa ya (chS ch a):=by unfold pM;rw[if_pos h]
def qcv(ha:a.length<=6)(hb:b.length<=6):(pM ta xa ya a tb xb yb b ch).length<=21:=by
 unfold pM;split
 ·exact Kv (by rw[PT];exact ha)
 ·exact Kv hb
def qcw(ha:a.length<=6)(hb:b.length<=6):Fb (pM ta xa ya a tb xb yb b ch):=by
 unfold pM;split
 ·exact Ku (by rw[PT];exact ha)
 ·exact Ku hb
def qcx:EW (jd ta xa ya a) (pM ta xa ya a tb xb yb b ch):=by
 unfold pM;split
 ·exact SV
 ·exact SV
end
end Go.Via
