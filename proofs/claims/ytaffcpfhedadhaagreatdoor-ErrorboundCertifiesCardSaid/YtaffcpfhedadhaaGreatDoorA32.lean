/-
  Part 32 (chapter 32): lemmas, walks. Each theorem states its own conditions.
-/
import Derived.Test.YtaffcpfhedadhaaGreatDoorA12
import Derived.Test.YtaffcpfhedadhaaGreatDoorA13
import Derived.Test.YtaffcpfhedadhaaGreatDoorA31
import Derived.Test.YtaffcpfhedadhaaGreatDoorA18
set_option linter.all false
set_option maxRecDepth 20000
set_option maxHeartbeats 20000000
section
variable{P Q:Prop}{T:Type}{R:T->Prop}
def qkd(h:P:=by
 refine bP [8] (by kernel_rfl) ⟨⟨_,rfl,?_⟩,trivial⟩
 ·exact ql1):=h
def ql1(h:P:=by
 refine(Qa (s:=38) (len:=o.length) (n2:=1) 3 5 (fun r=>[_,_,_,⟨some r.g,63,ah aY o++aY (bg x),r.n,true⟩,_,_]) u32 Le) (dA.length o) h3 h4 (dA.one (bg x)) (fun r=>?_);refine A1 ?_;refine bP [9] (by kernel_rfl) ⟨⟨_,rfl,?_⟩,trivial⟩
 ·exact qke):=h
def qke(h:P:=by
 refine A2 ?_;refine bP [10] (by kernel_rfl) ⟨⟨_,rfl,?_⟩,trivial⟩
 ·refine Ss 2 ?_;refine A1 ?_;refine CB rfl ?_;refine A3 ?_;refine dh ?_;exact Nl ⟨⟨i+1,o++[bg x],some r.g,r.n,r.cap⟩,hlt,by show o++[bg x]=((ay a b).take (i+1)).map bg;rw[<-dZ hx,List.map_append,<-hI];rfl,by rw[List.length_append];exact r.h,r.hn⟩ (hμ:=(by show(ay a b).length-(i+1)<(ay a b).length-i;omega)) (hL:=(ak [some 0,some 1,some 2,some 3] ⟨pR,pR,⟨_,rfl,aK (by rw[List.length_append];rfl)⟩,⟨_,rfl,aK (by rw[dK])⟩,trivial⟩ rfl rfl))):=h
def qgp(h:P:=by
 refine bP [1,7] (by kernel_rfl) ⟨⟨_,rfl,?_⟩,⟨_,rfl,?_⟩,trivial⟩
 ·refine A2 ?_;exact qgq
 ·refine(Bl 38 [(0,_)]) (qh) (fun g3=>?_);refine A1 ?_;exact qgr):=h
def qgq(h:P:=by
 refine bP [7] (by kernel_rfl) ⟨⟨_,rfl,?_⟩,trivial⟩
 ·refine(Bl 38 [(0,_)]) (qh) (fun g3=>?_);refine A1 ?_;exact qkd):=h
def qgr(h:P:=by
 refine bP [1] (by kernel_rfl) ⟨⟨_,rfl,?_⟩,trivial⟩
 ·refine A2 ?_;exact qkd):=h
end
namespace Go.Proofs.YtaffcpfhedadhaaGreatDoor
open Go Go.RowKit Go.Via
def uM(a:List PU)(ab:Option Nat)(aN ac:Nat)(hac:a.length<=ac)(han:a.length<=400)(b:List PU)(bb:Option Nat)(bN bc:Nat)(hbc:b.length<=bc)(hbn:b.length<=400)(hsa:Fb a)(hsb:Fb b)(ea:SI a)(eb:SI b):bW Tryz.prog 14 [⟨ab,100,ah aJ a,aN,false⟩,⟨bb,100,ah aJ b,bN,false⟩] [az ab 0 a.length ac,az bb 0 b.length bc] (SR ((ay a b).map bg).length) (fun z=> .tuple #[CfV z.v (fD ((ay a b).map bg)),.int .i64 (if((ay a b).map bg).length=0 then 36 else 0)]) (fun z=>[⟨z.b,63,ah aY ((ay a b).map bg),z.n,true⟩]):=by
 refine⟨by kernel_rfl,fun w hL0=>?_⟩;have hpl:=tK a b;refine XC 38 Tryz.func14 hL0 ?_;refine A2 ?_;refine Al 10 z40 (fun g0=>?_);refine A5 ?_;refine Al 10 z40 (fun g1=>?_);refine A7 ?_;refine(Sc [0,1]) (ou a ab aN ac hac (by omega) b bb bN bc hbc (by omega) hsa hsb) (fun zr=>?_);obtain⟨rb,rN,rc,hrc⟩:=zr;refine A5 ?_;refine El (ι:={z:Nat×List oL×Option Nat×Nat×Nat // z.1<=(ay a b).length∧z.2.1=((ay a b).take z.1).map bg∧z.2.1.length<=z.2.2.2.2∧z.2.2.2.2*38<=z.2.2.2.1}) (fun⟨⟨i,o,ob,oN,oc⟩,hi,hI,h3,h4⟩=>([(4,dD g0),(5,.int .i64 0),(6,dD g1),(11,az rb 0 (ay a b).length rc),(12,aZ ((ay a b).length)),(13,aZ i)],[⟨rb,93,ah Df (ay a b),rN,true⟩,⟨some g0,40,PK,10,true⟩,⟨some g1,40,jK (az ob 0 o.length oc) (rl 0),10,true⟩,⟨ob,63,ah aY o,oN,true⟩],(ay a b).length-i)) ⟨⟨0,[],none,0,0⟩,Nat.zero_le _,rfl,Nat.le_refl _,by simp⟩ ?_ (hL:=(ak [some 4,some 2,some 3,none] ⟨pR,pR,⟨_,rfl,aK (by rw[qbR];rfl)⟩,⟨rfl,rfl,rfl⟩,trivial⟩ rfl rfl));rintro⟨⟨i,o,ob,oN,oc⟩,hi,hI,h3,h4⟩;(try dsimp only);replace hi:i<=(ay a b).length:=hi;replace hI:o=((ay a b).take i).map bg:=hI;replace h3:o.length<=oc:=h3;replace h4:oc*38<=oN:=h4
 have hol:o.length<=100000:=(by rw[hI,List.length_map,List.length_take];omega);refine A6 ?_;refine Cd ?_ ?_<;>intro haQ
 ·have hlt:i<(ay a b).length:=(by have:=of_decide_eq_true haQ;omega);obtain⟨x,hx⟩:∃x,(ay a b)[i]? =some x:=⟨_,List.getElem?_eq_getElem hlt⟩;have hxs:=xR hsa hsb x (List.mem_of_getElem? hx);have hxi:=NM ea eb x (List.mem_of_getElem? hx);refine A6 ?_;refine ai 0 ((i)*32) u88 Lc rfl rfl rfl rfl rfl (by omega) (by omega) (nH.ne (by decide) (by omega)) (by show 0+Int.toNat _*32=_;omega) ?_;refine aI (v:=PtV x) 0 ((i)*32) _ rfl rfl rfl rfl Lc (nH.sub hx 0 32 (by decide)) rfl (by decide) rfl ?_;refine Al 32 z93 (fun g2=>?_);refine Ss 4 ?_;refine A2 ?_;refine pY (l':=[⟨_,_,_,_,_,_⟩,⟨_,_,_,_,_,_⟩,⟨_,_,_,_,_,_⟩,⟨_,_,_,_,_,_⟩]) [2000000] [2,3,4,5] [0,1,6,7,8,9,10] mixed (by kernel_rfl) rfl ?_;refine A1 ?_;refine xZ 4 0 ?_;refine A1 ?_;refine uV 4 20 ?_;refine A1 ?_;refine bP [0,6] (by kernel_rfl) ⟨⟨_,rfl,?_⟩,⟨_,rfl,?_⟩,trivial⟩
  ·refine A2 ?_;refine bP [1,6] (by kernel_rfl) ⟨⟨_,rfl,?_⟩,⟨_,rfl,?_⟩,trivial⟩
   ·refine A2 ?_;refine bP [6] (by kernel_rfl) ⟨⟨_,rfl,?_⟩,trivial⟩
    ·refine Pc (jq x.1 x.2 (by rw[F8 hxi.1];exact Rat.le_refl) (by rw[F8 hxi.2];exact Rat.le_refl)) ?_;refine A1 ?_;exact qgq
   ·refine Pc (jq x.1 x.2 (by rw[F8 hxi.1];exact Rat.le_refl) (by rw[F8 hxi.2];exact Rat.le_refl)) ?_;refine A1 ?_;exact qgp
  ·refine Pc (jq x.1 x.2 (by rw[F8 hxi.1];exact Rat.le_refl) (by rw[F8 hxi.2];exact Rat.le_refl)) ?_;refine A1 ?_;refine bP [0,7] (by kernel_rfl) ⟨⟨_,rfl,?_⟩,⟨_,rfl,?_⟩,trivial⟩
   ·refine A2 ?_;exact qgp
   ·refine(Bl 38 [(0,_)]) (qh) (fun g3=>?_);refine A1 ?_;refine bP [0] (by kernel_rfl) ⟨⟨_,rfl,?_⟩,trivial⟩
    ·refine A2 ?_;exact qgr
 ·have hge:i=(ay a b).length:=(by have:=of_decide_eq_false haQ;omega);subst hge;obtain rfl:o=(ay a b).map bg:=by rw[hI,List.take_length]
  refine D6 ?_;refine Cd ?_ ?_<;>intro hbQ
  ·have hz:((ay a b).map bg).length=0:=by have e:=hbQ;simp at e ⊢;omega
   refine A2 ?_;refine QH 2 0 ?_;refine Ss 1 ?_;refine A5 ?_;refine bF rfl (bn 1 rfl rfl qjp (vs:=[_,_,_,_,_,_,_,_,_,_]) rfl rfl (Nat.le_of_ble_eq_true rfl) rfl) (aj rfl) (fun w hL=>⟨⟨ob,oN,oc,h3⟩,?_,hL.pk [some 3]⟩);rw[if_pos hz,show fD ((ay a b).map bg)=rl 0 from by rw[List.length_eq_zero_iff.1 hz];rfl];exact rfl
  ·have hz:((ay a b).map bg).length≠0:=by have e:=hbQ;simp at e ⊢;omega
   refine A6 ?_;refine(Sd [3]) (pW ((ay a b).map bg) ob oN oc h3 (by rw[List.length_map];omega) (NP hsa hsb)) ?_;refine A1 ?_;refine Ss 2 ?_;refine A4 ?_;refine QH 2 0 ?_;refine Ss 1 ?_;refine A4 ?_;refine bF rfl (bn 1 rfl rfl qjp (vs:=[_,_,_,_,_,_,_,_,_,_]) rfl rfl (Nat.le_of_ble_eq_true rfl) rfl) (aj rfl) (fun w hL=>⟨⟨ob,oN,oc,h3⟩,?_,hL.pk [some 3]⟩);rw[if_neg hz];exact rfl
end Go.Proofs.YtaffcpfhedadhaaGreatDoor
