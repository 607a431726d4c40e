/-
  Part 40 (chapter 32): lemmas, walks. Each theorem states its own conditions.
-/
import Derived.Shelf.SlSortCmp.WholeK
import Derived.Shelf.SlSortCmp.NoneTotal
import Derived.Lib.Repeat
import Derived.Sort.Grow
import Derived.Sort.EncStr
import Derived.Lib.SliceRun
import Derived.Test.YtaffcpfhedadhaaGreatDoorA36
import Derived.Test.YtaffcpfhedadhaaGreatDoorA39
set_option linter.all false
set_option maxRecDepth 20000
set_option maxHeartbeats 20000000
section
variable{P Q:Prop}{T:Type}{R:T->Prop}
def RZ(h:P:=by have e:=haQ;simpa[ckI] using e):=h
def Si(h:P:=by cases e:dV p.a<;>simp[e] at hbQ ⊢):=h
def Sj(h:P:=by cases e:dV p.b<;>simp[e] at hcQ ⊢):=h
def Sl(h:P:=by unfold shP;rw[r8,r9];rfl):=h
def Nv(h:P:=by rw[r5,r6];rfl):=h
def qgS(h:P:=by have e:=hdQ;rw[hoe,hqe] at e;simpa using e):=h
end
namespace Go.Proofs.YtaffcpfhedadhaaGreatDoor
open Go Go.RowKit Go.Via
def Ny{S:Rl->Prop}{ρ:Rl->Int}(T:fF S ρ)(a:List Iv)(ab:Option Nat)(aN ac:Nat)(hac:a.length<=ac)(han:a.length<=1000)(b:List Iv)(bb:Option Nat)(bN bc:Nat)(hbc:b.length<=bc)(hbn:b.length<=1000)(ha:jZ S a)(hb:jZ S b)(oka:G7 ρ a)(okb:G7 ρ b)(hza:∀x∈a,jH x<=50000)(hzb:∀x∈b,jH x<=50000):bZ Tryz.prog 104 [⟨ab,61,ai aO a,aN,false⟩,⟨bb,61,ai aO b,bN,false⟩] [ay ab 0 a.length ac,ay bb 0 b.length bc] (SR (gm orB a b).length) SR.v (fun z=>[⟨z.b,61,ai aO (gm orB a b),z.n,true⟩]):=by
 refine sB2 8 Tryz.func104 fun w hL0=>?_;refine A9 ?_;refine(Sc [0,1]) (Bz T 153 orB Ja rfl a ab aN ac hac han b bb bN bc hbc hbn ha hb oka okb hza hzb) (fun z=>?_);refine A4 ?_;refine aK rfl (au rfl) (fun w hL=>⟨z,?_,hL.pk [some 2]⟩);exact rfl
def Nz{S:Rl->Prop}{ρ:Rl->Int}(T:fF S ρ)(a:List Iv)(ab:Option Nat)(aN ac:Nat)(hac:a.length<=ac)(han:a.length<=1000)(b:List Iv)(bb:Option Nat)(bN bc:Nat)(hbc:b.length<=bc)(hbn:b.length<=1000)(ha:jZ S a)(hb:jZ S b)(oka:G7 ρ a)(okb:G7 ρ b)(hza:∀x∈a,jH x<=50000)(hzb:∀x∈b,jH x<=50000):bZ Tryz.prog 151 [⟨ab,61,ai aO a,aN,false⟩,⟨bb,61,ai aO b,bN,false⟩] [ay ab 0 a.length ac,ay bb 0 b.length bc] (SR (gm (fun x y=>x&& !y) a b).length) SR.v (fun z=>[⟨z.b,61,ai aO (gm (fun x y=>x&& !y) a b),z.n,true⟩]):=by
 refine sB2 8 Tryz.func151 fun w hL0=>?_;refine A9 ?_;refine(Sc [0,1]) (Bz T 191 (fun x y=>x&& !y) Jb rfl a ab aN ac hac han b bb bN bc hbc hbn ha hb oka okb hza hzb) (fun z=>?_);refine A4 ?_;refine aK rfl (au rfl) (fun w hL=>⟨z,?_,hL.pk [some 2]⟩);exact rfl
def sW{S:Rl->Prop}{ρ:Rl->Int}(T:fF S ρ)(l:List Iv)(lb:Option Nat)(lN lc:Nat)(hlc:l.length<=lc)(hln:l.length<=1000)(hs:jZ S l)(hok:G7 ρ l)(hsz:∀x∈l,jH x<=50000):bZ Tryz.prog 50 [⟨lb,61,ai aO l,lN,false⟩] [ay lb 0 l.length lc] (SR (jT l).length) SR.v (fun z=>[⟨z.b,61,ai aO (jT l),z.n,true⟩]):=by
 refine O3 5 Tryz.func50 fun w hL0=>?_;refine A6 ?_;refine Yq _ (aA (L':=[_,⟨none,61,[],0,false⟩]) [some 0,none] ⟨pR,⟨rfl,rfl,rfl⟩,trivial⟩ rfl rfl) ?_;refine A2 ?_;refine fQ [_,ay none 0 ([]:List Iv).length 0] [0,1] rfl rfl rfl (Ny T l lb lN lc hlc hln [] none 0 0 (Nat.le_refl _) (Nat.zero_le _) hs LM hok (fun x hx=>by cases hx) hsz (fun x hx=>by cases hx)) ⟨pR,pR,trivial⟩ rfl (.inr fun x b hb=>sZ) (fun z=>?_);refine A4 ?_;refine aK rfl (au rfl) (fun w hL=>⟨z,?_,hL.pk [some 2]⟩);exact rfl
def Jh{S:Rl->Prop}{ρ:Rl->Int}(T:fF S ρ)(a:List Iv)(ab:Option Nat)(aN ac:Nat)(hac:a.length<=ac)(han:a.length<=1000)(b:List Iv)(bb:Option Nat)(bN bc:Nat)(hbc:b.length<=bc)(hbn:b.length<=1000)(ha:jZ S a)(hb:jZ S b)(oka:G7 ρ a)(okb:G7 ρ b)(hza:∀x∈a,jH x<=50000)(hzb:∀x∈b,jH x<=50000):bZ Tryz.prog 102 [⟨ab,61,ai aO a,aN,false⟩,⟨bb,61,ai aO b,bN,false⟩] [ay ab 0 a.length ac,ay bb 0 b.length bc] Unit (fun _=> .bool (gm (fun x y=>x&& !y) b a).isEmpty) (fun _=>[]):=by
 refine sB2 10 Tryz.func102 fun w hL0=>?_;refine A9 ?_;refine(Sc [1,0]) (Nz T b bb bN bc hbc hbn a ab aN ac hac han hb ha okb oka hzb hza) (fun z=>?_);refine A6 ?_;refine aK rfl (au rfl) (fun w hL=>⟨(),?_,hL.pk []⟩);exact eB (by cases gm (fun x y=>x&& !y) b a<;>rfl)
end Go.Proofs.YtaffcpfhedadhaaGreatDoor
namespace Go.Via
open Go
def ckI(i:Iv):Int:=if(dV i.f&&dV i.t)=false then 5 else if lF i=false then 10 else 0
section
variable{l:List (Iv×Qd)}{pv:Option Iv}{p:ny}
def P6{i:Iv}(h:ckI i=0):dV i.f=true∧dV i.t=true∧lF i=true:=by
 unfold ckI at h;cases h1:dV i.f<;>cases h2:dV i.t<;>cases h3:lF i<;>simp[h1,h2,h3] at h ⊢
def qpY(h:ckI p.i≠0):oL l pv p=ckI p.i:=by
 unfold oL ckI at*;cases h1:dV p.i.f<;>cases h2:dV p.i.t<;>cases h3:lF p.i<;>simp[h1,h2,h3] at h ⊢
def qj4(h:ckI p.i=0)(h2:(dV p.a&&dV p.b)=false):oL l pv p=5:=by
 obtain⟨a,b,c⟩:=P6 h;unfold oL;rw[a,b,c,h2];rfl
def qr0(h:ckI p.i=0)(h2:(dV p.a&&dV p.b)=true)(h4:AX pv p.i=true):oL l pv p=7:=by
 obtain⟨a,b,c⟩:=P6 h;unfold oL;rw[a,b,c,h2,h4];rfl
def qpZ(h:ckI p.i=0)(h2:(dV p.a&&dV p.b)=true)(h4:AX pv p.i=false)(h5:Ef l p=true):oL l pv p=0:=by
 obtain⟨a,b,c⟩:=P6 h;unfold oL;rw[a,b,c,h2,h4,h5];rfl
def qlA(h:ckI p.i=0)(h2:(dV p.a&&dV p.b)=true)(h4:AX pv p.i=false)(h5:Ef l p=false):oL l pv p=30:=by
 obtain⟨a,b,c⟩:=P6 h;unfold oL;rw[a,b,c,h2,h4,h5];rfl
def qj5(h:oL l pv p=0):lF p.i=true:=by
 unfold oL at h;cases h1:dV p.i.f<;>cases h2:dV p.i.t<;>cases h3:lF p.i<;>simp[h1,h2,h3] at h ⊢
end
def shP(p:ny)(x:Iv×Qd):Bool:=uU x.1 p.i&&decide (aC (p.i,x.2)=p)
def ckB(cb:Option Nat):Nat->Option Addr
 |0=>none
 |i+1=>some ⟨cb.getD 0,i*38,none⟩
section
variable{a b:List PU}{c:List ny}{m:Rl}
def qp0(h:(aj a b).length=0):36=yc a b c m:=by unfold yc;rw[if_pos (by rw[List.length_eq_zero_iff.1 h];rfl)]
theorem VD(h:(aj a b).length≠0):¬(aj a b).isEmpty=true:=fun e=>h (by rw[List.isEmpty_iff.1 e];rfl)
def qr1{e:Int}(h:(aj a b).length≠0)(hl:kK (oL (aj a b)) none c=e)(h0:e≠0):e=yc a b c m:=by unfold yc;rw[if_neg (VD h),hl,if_pos h0]
def qp1(h:(aj a b).length≠0)(hl:kK (oL (aj a b)) none c=0)(hn:jT (c.map (·.i))≠jT ((aj a b).map (·.1))):12=yc a b c m:=by
 unfold yc;rw[if_neg (VD h),hl,if_neg ax,if_pos hn]
def qr2(h:(aj a b).length≠0)(hl:kK (oL (aj a b)) none c=0)(hn:jT (c.map (·.i))=jT ((aj a b).map (·.1)))(hm:dV m=false):5=yc a b c m:=by
 unfold yc;rw[if_neg (VD h),hl,if_neg ax,if_neg (fun k=>k hn),if_pos hm]
def qp2(h:(aj a b).length≠0)(hl:kK (oL (aj a b)) none c=0)(hn:jT (c.map (·.i))=jT ((aj a b).map (·.1)))(hm:dV m=true)(hx:m≠bJ c):30=yc a b c m:=by
 unfold yc;rw[if_neg (VD h),hl,if_neg ax,if_neg (fun k=>k hn),hm,if_neg ax,if_pos hx]
def qr3(h:(aj a b).length≠0)(hl:kK (oL (aj a b)) none c=0)(hn:jT (c.map (·.i))=jT ((aj a b).map (·.1)))(hm:dV m=true)(hx:m=bJ c):0=yc a b c m:=by
 unfold yc;rw[if_neg (VD h),hl,if_neg ax,if_neg (fun k=>k hn),hm,if_neg ax,if_neg (fun k=>k hx)]
def qj6{S:Rl->Prop}{ρ:Rl->Int}(T:fF S ρ)(hP:∀x∈aj a b,(S x.1.f∧S x.1.t)∧aW ρ x.1.b<aW ρ x.1.e)(h:(aj a b).length≠0)(hn:jT (c.map (·.i))=jT ((aj a b).map (·.1))):0<c.length:=by
 rcases Nat.eq_zero_or_pos c.length with h0|h0
 ·rw[List.length_eq_zero_iff.1 h0] at hn;have hS:jZ S ((aj a b).map (·.1)):=fun i hi=>by obtain⟨x,hx,rfl⟩:=List.mem_map.1 hi;exact(hP x hx).1
  have hO:G7 ρ ((aj a b).map (·.1)):=fun i hi=>by obtain⟨x,hx,rfl⟩:=List.mem_map.1 hi;exact(hP x hx).2
  have:=U2 T hS hO;rw[<-hn] at this;have e:(jT (([]:List ny).map (·.i))).isEmpty=true:=rfl;rw[e] at this;have e2:=List.isEmpty_iff.1 this.symm;exact absurd (by simpa using congrArg List.length e2) h
 ·exact h0
end
end Go.Via
namespace Go.Proofs.YtaffcpfhedadhaaGreatDoor
def qp3:Tryz.prog.underlying 103=some (.pointer 63):=ak
open Go Go.Via
def qlB{S:Rl->Prop}{ρ:Rl->Int}(T:fF S ρ){x p:Iv}{v:Bool}(hx:S x.f∧S x.t)(hp:S p.f∧S p.t)(ox:aW ρ x.b<aW ρ x.e)(op:aW ρ p.b<aW ρ p.e)(sx:jH x<=50000)(sp:jH p<=50000)(h:uU x p=v)(gx gp:Nat):
 bZ Tryz.prog 102 [⟨some gx,61,aO x,20,false⟩,⟨some gp,61,aO p,20,false⟩] [ay (some gx) 0 1 1,ay (some gp) 0 1 1] Unit (fun _=> .bool v) (fun _=>[]):=by
 subst h;exact Jh T [x] (some gx) 20 1 (Nat.le_refl _) bI [p] (some gp) 20 1 (Nat.le_refl _) bI (AV hx) (AV hp) (fun j hj=>by rw[List.mem_singleton.1 hj];exact ox) (fun j hj=>by rw[List.mem_singleton.1 hj];exact op) (fun j hj=>by rw[List.mem_singleton.1 hj];exact sx) (fun j hj=>by rw[List.mem_singleton.1 hj];exact sp)
end Go.Proofs.YtaffcpfhedadhaaGreatDoor
namespace Go.Proofs.YtaffcpfhedadhaaGreatDoor
open Go Go.RowKit Go.Via
def NC{S:Rl->Prop}{ρ:Rl->Int}(T:fF S ρ)(l:List (Iv×Qd))(lb:Option Nat)(lN lc:Nat)(hlc:l.length<=lc)(hln:l.length<=1000)(hlS:∀x∈l,(S x.1.f∧S x.1.t)∧aW ρ x.1.b<aW ρ x.1.e)(hlz:∀x∈l,jH x.1<=1000∧ui x.2<=10000)(c:List ny)(cb:Option Nat)(cN cc:Nat)(hcc:c.length<=cc)(hcn:c.length<=1000)(p:ny)(hp:S p.i.f∧S p.i.t)(hpz:jH p.i<=5000∧gJ p.a<=5000∧gJ p.b<=5000):bZ Tryz.prog 48 [⟨lb,93,ai uh l,lN,false⟩,⟨cb,63,ai aQ c,cN,false⟩] [ay lb 0 l.length lc,Gy p,.pointer none] Unit (fun _=> .int .i64 (oL l none p)) (fun _=>[]):=by
 refine⟨ak,fun w hL0=>?_⟩;obtain⟨hz1,hz2,hz3⟩:=hpz;refine cB3 63 Tryz.func48 hL0 ?_;refine A2 ?_;refine Bp 38 (fun g0=>?_);refine A7 ?_;refine yz 2 0 ?_;refine Pc (qi p.i) ?_;refine A9 ?_;refine Cd ?_ ?_<;>intro haQ
 ·have r1:ckI p.i≠0:=RZ
  refine A8 ?_;refine aK rfl (au rfl) (fun w hL=>⟨(),?_,hL.pk []⟩);exact congrArg (fun e:Int=>Ending.returned (.int .i64 e)) (qpY r1).symm
 ·have r1:ckI p.i=0:=RZ
  obtain⟨r2,r3,r4⟩:=P6 r1;have hpo:=(uM T hp.1 hp.2).1 r4;refine A7 ?_;refine L9 2 20 ?_;refine Pc (jm p.a) ?_;refine A2 ?_;refine Rs 21 ?_ ?_<;>intro hbQ
  ·have r5:dV p.a=false:=Si
   refine QI ?_;refine aK rfl (au rfl) (fun w hL=>⟨(),?_,hL.pk []⟩);exact congrArg (fun e:Int=>Ending.returned (.int .i64 e)) (qj4 r1 (by rw[r5];rfl)).symm
  ·have r5:dV p.a=true:=Si
   refine A1 ?_;refine L9 2 29 ?_;refine Pc (jm p.b) ?_;refine A5 ?_;refine Cd ?_ ?_<;>intro hcQ
   ·have r6:dV p.b=false:=Sj
    refine A8 ?_;refine aK rfl (au rfl) (fun w hL=>⟨(),?_,hL.pk []⟩);exact congrArg (fun e:Int=>Ending.returned (.int .i64 e)) (qj4 r1 (by rw[r6,Bool.and_false])).symm
   ·have r6:dV p.b=true:=Sj
    refine A1 ?_;refine Di [] ?_;refine A1 ?_;refine BV qp3 rfl rfl rfl rfl rfl ?_;refine A26 ?_;refine El (ι:={i:Nat // i<=l.length∧Ef l p=(l.drop i).any (shP p)}) (fun⟨i,hi,hI⟩=>([(0,ay lb 0 l.length lc),(40,ay lb 0 l.length lc),(41,bG (l.length)),(42,bG i),(4,dJ g0)],[⟨lb,93,ai uh l,lN,false⟩,⟨cb,63,ai aQ c,cN,false⟩,⟨some g0,63,aQ p,38,true⟩],l.length-i)) ⟨0,Nat.zero_le _,rfl⟩ ?_ (hL:=dR.auto);rintro⟨i,hi,hI⟩;(try dsimp only);refine A6 ?_;refine Cd ?_ ?_<;>intro hdQ
    ·have hlt:i<l.length:=uV;obtain⟨x,hx⟩:∃x,l[i]? =some x:=⟨l[i],List.getElem?_eq_getElem hlt⟩;obtain⟨hxS,hxo⟩:=hlS x (List.mem_of_getElem? hx);obtain⟨hxz,hxf⟩:=hlz x (List.mem_of_getElem? hx);refine dL 0 rfl (o6.ne ax ae) (fun hbs=>?_);obtain⟨gl,hgl⟩:=Option.isSome_iff_exists.1 hbs;replace hgl:lb=some gl:=hgl;subst hgl;refine XR ?_;refine Al 32 z93 (fun g1=>?_);refine Ss 3 ?_;refine A3 ?_;refine Dq [3000000] [0,1,3,4,2,5,6,7,8,9,10,11,13,12,14,15] ?_;refine A1 ?_;refine yz 3 0 ?_;refine A1 ?_;refine yz 2 0 ?_;refine(Bl 20 [(0,_)]) (jh) (fun g2=>?_);refine(Bl 20 [(0,_)]) (jh) (fun g3=>?_);refine(Sd [4,5]) (qlB T hxS hp hxo hpo ae ae rfl g2 g3) ?_;refine A1 ?_;refine Rs 53 ?_ ?_<;>intro heQ
     ·have r8:uU x.1 p.i=true:=heQ;refine A1 ?_;refine yz 2 0 ?_;refine A1 ?_;refine vU 3 20 ?_;refine L38 2 0 ?_;refine dY [_,_] rfl rfl rfl (jI p.i x.2 ((Cm _).1 r2).r0 ((Cm _).1 r3).r0) ?_;refine iY rfl rfl rfl rfl qmv (qnf _ _) ?_;refine A3 ?_;refine Cd ?_ ?_<;>intro hfQ
      ·have r9:decide (aC (p.i,x.2)=p)=true:=hfQ;have hyes:shP p x=true:=Sl
       refine oJ ?_;refine aK rfl (au rfl) (fun w hL=>⟨(),?_,hL.pk []⟩);exact congrArg (fun e:Int=>Ending.returned (.int .i64 e)) (qpZ r1 Nv rfl (by rw[hI,Bg hx,hyes];rfl)).symm
      ·have r9:decide (aC (p.i,x.2)=p)=false:=hfQ;have hno:shP p x=false:=Sl
       refine A4 ?_;exact ML
     ·have r8:uU x.1 p.i=false:=heQ;have hno:shP p x=false:=by unfold shP;rw[r8,Bool.false_and]
      refine D7 ?_;exact ML
    ·have hge:i=l.length:=pX;subst hge;refine oJ ?_;refine aK rfl (au rfl) (fun w hL=>⟨(),?_,hL.pk []⟩);exact congrArg (fun e:Int=>Ending.returned (.int .i64 e)) (qlA r1 Nv rfl (by rw[hI,List.drop_length];rfl)).symm
def ND{S:Rl->Prop}{ρ:Rl->Int}(T:fF S ρ)(l:List (Iv×Qd))(lb:Option Nat)(lN lc:Nat)(hlc:l.length<=lc)(hln:l.length<=1000)(hlS:∀x∈l,(S x.1.f∧S x.1.t)∧aW ρ x.1.b<aW ρ x.1.e)(hlz:∀x∈l,jH x.1<=1000∧ui x.2<=10000)(c:List ny)(gc cN cc:Nat)(hcc:c.length<=cc)(hcn:c.length<=1000)(p:ny)(hp:S p.i.f∧S p.i.t)(hpz:jH p.i<=5000∧gJ p.a<=5000∧gJ p.b<=5000)(j:Nat)(q:ny)(hq:c[j]? =some q)(hqz:jH q.i<=50000:=by omega):bZ Tryz.prog 48 [⟨lb,93,ai uh l,lN,false⟩,⟨some gc,63,ai aQ c,cN,false⟩] [ay lb 0 l.length lc,Gy p,.pointer (some ⟨gc,j*38,none⟩)] Unit (fun _=> .int .i64 (oL l (some q.i) p)) (fun _=>[]):=by
 refine⟨ak,fun w hL0=>?_⟩;obtain⟨hz1,hz2,hz3⟩:=hpz;refine cB3 63 Tryz.func48 hL0 ?_;refine A2 ?_;refine Bp 38 (fun g0=>?_);refine A7 ?_;refine yz 2 0 ?_;refine Pc (qi p.i) ?_;refine A9 ?_;refine Cd ?_ ?_<;>intro haQ
 ·have r1:ckI p.i≠0:=RZ
  refine A8 ?_;refine aK rfl (au rfl) (fun w hL=>⟨(),?_,hL.pk []⟩);exact congrArg (fun e:Int=>Ending.returned (.int .i64 e)) (qpY r1).symm
 ·have r1:ckI p.i=0:=RZ
  obtain⟨r2,r3,r4⟩:=P6 r1;have hpo:=(uM T hp.1 hp.2).1 r4;refine A7 ?_;refine L9 2 20 ?_;refine Pc (jm p.a) ?_;refine A2 ?_;refine Rs 21 ?_ ?_<;>intro hbQ
  ·have r5:dV p.a=false:=Si
   refine QI ?_;refine aK rfl (au rfl) (fun w hL=>⟨(),?_,hL.pk []⟩);exact congrArg (fun e:Int=>Ending.returned (.int .i64 e)) (qj4 r1 (by rw[r5];rfl)).symm
  ·have r5:dV p.a=true:=Si
   refine A1 ?_;refine L9 2 29 ?_;refine Pc (jm p.b) ?_;refine A5 ?_;refine Cd ?_ ?_<;>intro hcQ
   ·have r6:dV p.b=false:=Sj
    refine A8 ?_;refine aK rfl (au rfl) (fun w hL=>⟨(),?_,hL.pk []⟩);exact congrArg (fun e:Int=>Ending.returned (.int .i64 e)) (qj4 r1 (by rw[r6,Bool.and_false])).symm
   ·have r6:dV p.b=true:=Sj
    refine A1 ?_;refine Di [] ?_;refine A1 ?_;refine BV qp3 rfl rfl rfl rfl rfl ?_;refine A3 ?_;refine Fg (j*38) 0 ?_;refine aG (v:=fV q.i) 1 (j*38) _ rfl rfl rfl rfl mr (dS.sub hq 0 20 ax) rfl ax rfl ?_;refine A1 ?_;refine yz 2 0 ?_;refine Pc (CU q.i p.i) ?_;refine A5 ?_;refine Cd ?_ ?_<;>intro hdQ
    ·have r7:AX (some q.i) p.i=true:=hdQ;refine A8 ?_;refine aK rfl (au rfl) (fun w hL=>⟨(),?_,hL.pk []⟩);exact congrArg (fun e:Int=>Ending.returned (.int .i64 e)) (qr0 r1 Nv r7).symm
    ·have r7:AX (some q.i) p.i=false:=hdQ;refine nT ?_;refine El (ι:={i:Nat // i<=l.length∧Ef l p=(l.drop i).any (shP p)}) (fun⟨i,hi,hI⟩=>([(0,ay lb 0 l.length lc),(40,ay lb 0 l.length lc),(41,bG (l.length)),(42,bG i),(4,dJ g0)],[⟨lb,93,ai uh l,lN,false⟩,⟨some gc,63,ai aQ c,cN,false⟩,⟨some g0,63,aQ p,38,true⟩],l.length-i)) ⟨0,Nat.zero_le _,rfl⟩ ?_ (hL:=dR.auto);rintro⟨i,hi,hI⟩;(try dsimp only);refine A6 ?_;refine Cd ?_ ?_<;>intro heQ
     ·have hlt:i<l.length:=LQ;obtain⟨x,hx⟩:∃x,l[i]? =some x:=⟨l[i],List.getElem?_eq_getElem hlt⟩;obtain⟨hxS,hxo⟩:=hlS x (List.mem_of_getElem? hx);obtain⟨hxz,hxf⟩:=hlz x (List.mem_of_getElem? hx);refine dL 0 rfl (o6.ne ax ae) (fun hbs=>?_);obtain⟨gl,hgl⟩:=Option.isSome_iff_exists.1 hbs;replace hgl:lb=some gl:=hgl;subst hgl;refine XR ?_;refine Al 32 z93 (fun g1=>?_);refine Ss 3 ?_;refine A3 ?_;refine Dq [3000000] [0,1,3,4,2,5,6,7,8,9,10,11,13,12,14,15] ?_;refine A1 ?_;refine yz 3 0 ?_;refine A1 ?_;refine yz 2 0 ?_;refine(Bl 20 [(0,_)]) (jh) (fun g2=>?_);refine(Bl 20 [(0,_)]) (jh) (fun g3=>?_);refine(Sd [4,5]) (qlB T hxS hp hxo hpo ae ae rfl g2 g3) ?_;refine A1 ?_;refine Rs 53 ?_ ?_<;>intro hfQ
      ·have r8:uU x.1 p.i=true:=hfQ;refine A1 ?_;refine yz 2 0 ?_;refine A1 ?_;refine vU 3 20 ?_;refine L38 2 0 ?_;refine dY [_,_] rfl rfl rfl (jI p.i x.2 ((Cm _).1 r2).r0 ((Cm _).1 r3).r0) ?_;refine iY rfl rfl rfl rfl qmv (qnf _ _) ?_;refine A3 ?_;refine Cd ?_ ?_<;>intro hgQ
       ·have r9:decide (aC (p.i,x.2)=p)=true:=hgQ;have hyes:shP p x=true:=Sl
        refine oJ ?_;refine aK rfl (au rfl) (fun w hL=>⟨(),?_,hL.pk []⟩);exact congrArg (fun e:Int=>Ending.returned (.int .i64 e)) (qpZ r1 Nv r7 (by rw[hI,Bg hx,hyes];rfl)).symm
       ·have r9:decide (aC (p.i,x.2)=p)=false:=hgQ;have hno:shP p x=false:=Sl
        refine A4 ?_;exact ML
      ·have r8:uU x.1 p.i=false:=hfQ;have hno:shP p x=false:=by unfold shP;rw[r8,Bool.false_and]
       refine D7 ?_;exact ML
     ·have hge:i=l.length:=Eg;subst hge;refine oJ ?_;refine aK rfl (au rfl) (fun w hL=>⟨(),?_,hL.pk []⟩);exact congrArg (fun e:Int=>Ending.returned (.int .i64 e)) (qlA r1 Nv r7 (by rw[hI,List.drop_length];rfl)).symm
end Go.Proofs.YtaffcpfhedadhaaGreatDoor
namespace Go.Proofs.YtaffcpfhedadhaaGreatDoor
open Go Go.RowKit Go.Via
def Sm{S:Rl->Prop}{ρ:Rl->Int}(T:fF S ρ)(l:List (Iv×Qd))(lb:Option Nat)(lN lc:Nat)(hlc:l.length<=lc)(hln:l.length<=1000)(hlS:∀x∈l,(S x.1.f∧S x.1.t)∧aW ρ x.1.b<aW ρ x.1.e)(hlz:∀x∈l,jH x.1<=1000∧ui x.2<=10000)
 (c:List ny)(gc cN cc:Nat)(hcc:c.length<=cc)(hcn:c.length<=1000)(hcz:∀q∈c,jH q.i<=50000)(p:ny)(hp:S p.i.f∧S p.i.t)(hpz:jH p.i<=5000∧gJ p.a<=5000∧gJ p.b<=5000)(i:Nat)(hi:i<=c.length):
 bZ Tryz.prog 48 [⟨lb,93,ai uh l,lN,false⟩,⟨some gc,63,ai aQ c,cN,false⟩] [ay lb 0 l.length lc,Gy p,.pointer (ckB (some gc) i)] Unit (fun _=> .int .i64 (oL l (yt c i) p)) (fun _=>[]):=by
 cases i with
 |zero=>exact NC T l lb lN lc hlc hln hlS hlz c (some gc) cN cc hcc hcn p hp hpz
 |succ i=>
  have hq:c[i]? =some c[i]:=List.getElem?_eq_getElem hi;rw[ZP hq];exact ND T l lb lN lc hlc hln hlS hlz c gc cN cc hcc hcn p hp hpz i _ hq (hcz _ (List.mem_of_getElem? hq))
def Eu{S:Rl->Prop}{ρ:Rl->Int}(T:fF S ρ)(a:List PU)(ab:Option Nat)(aN ac:Nat)(hac:a.length<=ac)(han:a.length<=200)(b:List PU)(bb:Option Nat)(bN bc:Nat)(hbc:b.length<=bc)(hbn:b.length<=200)(hsa:DC a)(hsb:DC b)(H:CW a b)(c:List ny)(cb:Option Nat)(cN cc:Nat)(hcc:c.length<=cc)(hcn:c.length<=400)(m:Rl)(hcz:∀p∈c,jH p.i<=5000∧gJ p.a<=5000∧gJ p.b<=5000)(hmz:gJ m<=5000)(hPS:∀x∈(aj a b),(S x.1.f∧S x.1.t)∧aW ρ x.1.b<aW ρ x.1.e)(hcS:∀p∈c,S p.i.f∧S p.i.t):bZ Tryz.prog 16 [⟨ab,100,ai aB a,aN,false⟩,⟨bb,100,ai aB b,bN,false⟩,⟨cb,63,ai aQ c,cN,false⟩] [ay ab 0 a.length ac,ay bb 0 b.length bc,CfV (ay cb 0 c.length cc) m] Unit (fun _=> .int .i64 (yc a b c m)) (fun _=>[]):=by
 refine⟨ak,fun w hL0=>?_⟩;have hpl:=qU a b;have hpz:=vJ hsa hsb;refine cB3 78 Tryz.func16 hL0 ?_;refine A2 ?_;refine Bp 10 (fun g0=>?_);refine A7 ?_;refine(Sc [0,1]) (lu a ab aN ac hac ae b bb bN bc hbc ae hsa hsb) (fun zr=>?_);obtain⟨rb,rN,rc,hrc⟩:=zr;refine oJ ?_;refine Cd ?_ ?_<;>intro haQ
 ·have hk0:(aj a b).length=0:=xu
  refine A7 ?_;refine aK rfl (au rfl) (fun w hL=>⟨(),?_,hL.pk []⟩);exact congrArg (fun e:Int=>Ending.returned (.int .i64 e)) (qp0 hk0)
 ·have hk0:(aj a b).length≠0:=xu
  refine A23 ?_;refine El (ι:={z:Nat×List Iv×Option Nat×Nat×Nat // z.1<=c.length∧z.2.1=(c.take z.1).map (·.i)∧z.2.1.length<=z.2.2.2.2∧z.2.2.2.2*20<=z.2.2.2.1∧kK (oL (aj a b)) none c=kK (oL (aj a b)) (yt c z.1) (c.drop z.1)∧∀q∈c.take z.1,lF q.i=true}) (fun⟨⟨i,o,ob,oN,oc⟩,hi,hI,h3,h4,hLL,hOK⟩=>([(5,dJ g0),(7,ay rb 0 (aj a b).length rc),(8,.pointer (ckB cb i)),(9,ay ob 0 o.length oc),(10,.slice none 0 0),(23,ay cb 0 c.length cc),(24,bG (c.length)),(25,bG i)],[⟨ab,100,ai aB a,aN,false⟩,⟨bb,100,ai aB b,bN,false⟩,⟨cb,63,ai aQ c,cN,false⟩,⟨some g0,40,iH (ay cb 0 c.length cc) m,10,true⟩,⟨rb,93,ai uh (aj a b),rN,true⟩,⟨ob,61,ai aO o,oN,true⟩],c.length-i)) ⟨⟨0,[],none,0,0⟩,Nat.zero_le _,rfl,Nat.le_refl _,bI,rfl,fun q hq=>by simp at hq⟩ ?_ (hL:=(aA [some 0,some 1,some 2,some 3,some 4,none] ⟨pR,pR,pR,pR,pR,⟨rfl,rfl,rfl⟩,trivial⟩ rfl rfl));rintro⟨⟨i,o,ob,oN,oc⟩,hi,hI,h3,h4,hLL,hOK⟩;(try dsimp only);replace hi:i<=c.length:=hi;replace hI:o=(c.take i).map (·.i):=hI;replace h3:o.length<=oc:=h3;replace h4:oc*20<=oN:=h4;replace hLL:kK (oL (aj a b)) none c=kK (oL (aj a b)) (yt c i) (c.drop i):=hLL;replace hOK:∀q∈c.take i,lF q.i=true:=hOK
  have hol:o.length<=400:=XU;refine A6 ?_;refine Cd ?_ ?_<;>intro hbQ
  ·have hlt:i<c.length:=nG;obtain⟨p,hp⟩:∃p,c[i]? =some p:=⟨c[i],List.getElem?_eq_getElem hlt⟩;have hpm:=List.mem_of_getElem? hp;refine dL 2 rfl (dS.ne ax ae) (fun hbs=>?_);obtain⟨gc,hgc⟩:=Option.isSome_iff_exists.1 hbs;replace hgc:cb=some gc:=hgc;subst hgc;refine A7 ?_;refine aI 2 ((i)*38) u32 Ag rfl rfl rfl rfl rfl ae ae (dS.ne ax ae) Bi ?_;refine aG (v:=Gy p) 2 ((i)*38) _ rfl rfl rfl rfl Ag (dS.sub hp 0 38 ax) rfl ax rfl ?_;refine Al 38 z63 (fun g1=>?_);refine A1 ?_;refine Ss 6 ?_;refine A6 ?_;refine L38 6 0 ?_;refine A1 ?_;refine(Sd [4,2]) (Sm T (aj a b) rb rN rc hrc ae hPS (fun x hx=>⟨Nat.le_trans (hpz x hx).1 ae,Nat.le_trans (hpz x hx).2 ae⟩) c gc cN cc hcc ae (fun q hq=>Nat.le_trans (hcz q hq).1 ae) p (hcS p hpm) (hcz p hpm) i hi) ?_;refine A9 ?_;refine Cd ?_ ?_<;>intro hcQ
   ·have he:oL (aj a b) (yt c i) p≠0:=xC
    refine Gw ?_;refine aK rfl (au rfl) (fun w hL=>⟨(),?_,hL.pk []⟩);exact congrArg (fun e:Int=>Ending.returned (.int .i64 e)) (qr1 hk0 (qnF hp hLL rfl he) he)
   ·have he:oL (aj a b) (yt c i) p=0:=xC
    refine A7 ?_;refine aI 2 ((i)*38) u32 Ag rfl rfl rfl rfl rfl ae ae (dS.ne ax ae) Bi ?_;refine A6 ?_;refine yz 6 0 ?_;refine(Bl 20 [(0,_)]) (jh) (fun g2=>?_);refine(Qa (s:=20) (len:=o.length) (n2:=1) 5 7 (fun r=>[_,_,_,_,_,⟨some r.g,61,ai aO o++aO (p.i),r.n,true⟩,_,_]) SC Qx) (bY.length o) h3 h4 (bY.one (p.i)) (fun r=>?_);refine A5 ?_;refine dP ?_;exact Nl ⟨⟨i+1,o++[p.i],some r.g,r.n,r.cap⟩,hlt,by show o++[p.i]=(c.take (i+1)).map (·.i);rw[<-fJ hp,List.map_append,<-hI];rfl,lq,r.hn,qpG hp hLL he,qpF hp hOK (qj5 he)⟩ (hμ:=(by show c.length-(i+1)<c.length-i;omega)) (ht:=⟨rfl,rfl,rfl,(aU rfl lT),rfl,rfl,rfl,rfl,trivial⟩) (hL:=(aA [some 0,some 1,some 2,some 3,some 4,some 5] ⟨pR,pR,pR,pR,pR,⟨_,rfl,bn lU⟩,trivial⟩ rfl rfl))
  ·have hge:i=c.length:=nH;subst hge;have hl0:=qnG hLL;have hoe:o=c.map (·.i):=Bc
   refine Ew ?_;refine El (ι:={z:Nat×List Iv×Option Nat×Nat×Nat // z.1<=(aj a b).length∧z.2.1=((aj a b).take z.1).map (·.1)∧z.2.1.length<=z.2.2.2.2∧z.2.2.2.2*20<=z.2.2.2.1}) (fun⟨⟨j,q,qb,qN,qc⟩,hj,hJ,h5,h6⟩=>([(5,dJ g0),(7,ay rb 0 (aj a b).length rc),(9,ay ob 0 o.length oc),(10,ay qb 0 q.length qc),(47,ay rb 0 (aj a b).length rc),(48,bG ((aj a b).length)),(49,bG j)],[⟨ab,100,ai aB a,aN,false⟩,⟨bb,100,ai aB b,bN,false⟩,⟨cb,63,ai aQ c,cN,false⟩,⟨some g0,40,iH (ay cb 0 c.length cc) m,10,true⟩,⟨rb,93,ai uh (aj a b),rN,true⟩,⟨ob,61,ai aO o,oN,true⟩,⟨qb,61,ai aO q,qN,true⟩],(aj a b).length-j)) ⟨⟨0,[],none,0,0⟩,Nat.zero_le _,rfl,Nat.le_refl _,bI⟩ ?_ (hL:=(aA [some 0,some 1,some 2,some 3,some 4,some 5,none] ⟨pR,pR,pR,pR,pR,pR,⟨rfl,rfl,rfl⟩,trivial⟩ rfl rfl));rintro⟨⟨j,q,qb,qN,qc⟩,hj,hJ,h5,h6⟩;(try dsimp only);replace hj:j<=(aj a b).length:=hj;replace hJ:q=((aj a b).take j).map (·.1):=hJ;replace h5:q.length<=qc:=h5;replace h6:qc*20<=qN:=h6;have hql:q.length<=400:=by rw[hJ,List.length_map,List.length_take];omega
   refine A6 ?_;refine Cd ?_ ?_<;>intro hcQ
   ·have hjt:j<(aj a b).length:=qE;obtain⟨y,hy⟩:∃y,(aj a b)[j]? =some y:=⟨_,List.getElem?_eq_getElem hjt⟩;refine dL 4 rfl (o6.ne ax ae) (fun hbs=>?_);obtain⟨gr,hgr⟩:=Option.isSome_iff_exists.1 hbs;replace hgr:rb=some gr:=hgr;subst hgr;refine A6 ?_;refine aI 4 ((j)*32) u88 TS rfl rfl rfl rfl rfl ae ae (o6.ne ax ae) RY ?_;refine aG (v:=PtV y) 4 ((j)*32) _ rfl rfl rfl rfl TS (o6.sub hy 0 32 ax) rfl ax rfl ?_;refine Al 32 z93 (fun g1=>?_);refine Ss 7 ?_;refine A5 ?_;refine yz 7 0 ?_;refine(Bl 20 [(0,_)]) (jh) (fun g2=>?_);refine(Qa (s:=20) (len:=q.length) (n2:=1) 6 8 (fun r=>[_,_,_,_,_,_,⟨some r.g,61,ai aO q++aO (y.1),r.n,true⟩,_,_]) SC Qx) (bY.length q) h5 h6 (bY.one (y.1)) (fun r=>?_);refine A5 ?_;refine Ar (((j+1:Nat):Int)) ?_;refine A3 ?_;exact Nl ⟨⟨j+1,q++[y.1],some r.g,r.n,r.cap⟩,hjt,by show q++[y.1]=((aj a b).take (j+1)).map (·.1);rw[<-fJ hy,List.map_append,<-hJ];rfl,lq,r.hn⟩ (hμ:=(by show(aj a b).length-(j+1)<(aj a b).length-j;omega)) (ht:=⟨rfl,rfl,rfl,(aU rfl lT),rfl,rfl,rfl,trivial⟩) (hL:=(aA [some 0,some 1,some 2,some 3,some 4,some 5,some 6] ⟨pR,pR,pR,pR,pR,pR,⟨_,rfl,bn lU⟩,trivial⟩ rfl rfl))
   ·have hge2:j=(aj a b).length:=sD;subst hge2;have hqe:q=(aj a b).map (·.1):=by rw[hJ,List.take_length]
    refine lD ?_;have hoS:jZ S o:=fun x hx=>by rw[hoe] at hx;obtain⟨z,hz,rfl⟩:=List.mem_map.1 hx;exact hcS z hz
    have hoK:G7 ρ o:=fun x hx=>by rw[hoe] at hx;obtain⟨z,hz,rfl⟩:=List.mem_map.1 hx;exact(uM T (hcS z hz).1 (hcS z hz).2).1 (hOK z (by rw[List.take_length];exact hz))
    have hoz:∀x∈o,jH x<=50000:=fun x hx=>by rw[hoe] at hx;obtain⟨z,hz,rfl⟩:=List.mem_map.1 hx;exact Nat.le_trans (hcz z hz).1 ae
    have hqS:jZ S q:=fun x hx=>by rw[hqe] at hx;obtain⟨z,hz,rfl⟩:=List.mem_map.1 hx;exact(hPS z hz).1
    have hqK:G7 ρ q:=fun x hx=>by rw[hqe] at hx;obtain⟨z,hz,rfl⟩:=List.mem_map.1 hx;exact(hPS z hz).2
    have hqz:∀x∈q,jH x<=50000:=fun x hx=>by rw[hqe] at hx;obtain⟨z,hz,rfl⟩:=List.mem_map.1 hx;exact Nat.le_trans (hpz z hz).1 ae
    have hno:=PQ orB o [];have hnq:=PQ orB q [];replace hno:(jT o).length<=4*o.length:=hno;replace hnq:(jT q).length<=4*q.length:=hnq;refine(Sc [5]) (sW T o ob oN oc h3 ae hoS hoK hoz) (fun z1=>?_);refine A1 ?_;refine(Sc [6]) (sW T q qb qN qc h5 ae hqS hqK hqz) (fun z2=>?_);refine(Sd [7,8]) (MV (jT o) z1.b z1.n z1.cap z1.h ae (jT q) z2.b z2.n z2.cap z2.h) ?_;refine A4 ?_;refine Cd ?_ ?_<;>intro hdQ
    ·have r8:jT (c.map (·.i))≠jT ((aj a b).map (·.1)):=qgS
     refine A8 ?_;refine aK rfl (au rfl) (fun w hL=>⟨(),?_,hL.pk []⟩);exact congrArg (fun e:Int=>Ending.returned (.int .i64 e)) (qp1 hk0 hl0 r8)
    ·have r8:jT (c.map (·.i))=jT ((aj a b).map (·.1)):=qgS
     have hc0:=qj6 T hPS hk0 r8;refine A3 ?_;refine L9 3 1 ?_;refine Pc (jm m hmz) ?_;refine A4 ?_;refine Cd ?_ ?_<;>intro heQ
     ·have r9:dV m=false:=by cases e:dV m<;>simp[e] at heQ ⊢
      refine A8 ?_;refine aK rfl (au rfl) (fun w hL=>⟨(),?_,hL.pk []⟩);exact congrArg (fun e:Int=>Ending.returned (.int .i64 e)) (qr2 hk0 hl0 r8 r9)
     ·have r9:dV m=true:=by cases e:dV m<;>simp[e] at heQ ⊢
      refine A1 ?_;refine Di [] ?_;refine A1 ?_;refine L9 3 1 ?_;refine A2 ?_;refine(Sd [2]) (qG c cb cN cc hcc ae (fun p hp=>⟨Nat.le_trans (hcz p hp).2.1 ae,Nat.le_trans (hcz p hp).2.2 ae⟩) hc0) ?_;refine EN rfl rfl rfl rfl qoT (qpl _ _) ?_;refine A3 ?_;refine Cd ?_ ?_<;>intro hfQ
      ·have rx:m≠bJ c:=RD
       refine A8 ?_;refine aK rfl (au rfl) (fun w hL=>⟨(),?_,hL.pk []⟩);exact congrArg (fun e:Int=>Ending.returned (.int .i64 e)) (qp2 hk0 hl0 r8 r9 rx)
      ·have rx:m=bJ c:=RD
       refine A9 ?_;refine aK rfl (au rfl) (fun w hL=>⟨(),?_,hL.pk []⟩);exact congrArg (fun e:Int=>Ending.returned (.int .i64 e)) (qr3 hk0 hl0 r8 r9 rx)
end Go.Proofs.YtaffcpfhedadhaaGreatDoor
namespace Go.Via
open Go
section
variable{sm:Rl->Rl->Option Rat}{bd:Rat}{P:List (Iv×Qd)}{k:Nat}{x:Iv×Qd}{m:List Iv}
def qj7(hx:P[k]? =some x)(h:MH sm bd (P.drop k)=some m):∃v m',sV sm (nO false false true) (qh x.2 ⟨bd*bd,0,0⟩) x.1=some v∧MH sm bd (P.drop (k+1))=some m'∧m=v++m':=by
 rw[xG hx,MH] at h;rcases hv:sV sm (nO false false true) (qh x.2 ⟨bd*bd,0,0⟩) x.1 with _|v
 ·rw[hv] at h;cases h
 ·rw[hv] at h;rcases hm:MH sm bd (P.drop (k+1)) with _|m'
  ·simp only[Option.bind_some] at h;rw[hm] at h;cases h
  ·simp only[Option.bind_some] at h;rw[hm] at h;injection h with e;exact⟨v,m',rfl,rfl,e.symm⟩
theorem qn1(h:MH sm bd (P.drop P.length)=some m):m=[]:=by
 rw[List.drop_length,MH] at h;injection h with e;exact e.symm
end
end Go.Via
namespace Go.Proofs.YtaffcpfhedadhaaGreatDoor
open Go Go.RowKit Go.Via
def BD{S:Rl->Prop}{ρ:Rl->Int}(T:fF S ρ)(sm:Rl->Rl->Option Rat)(a:List PU)(ab:Option Nat)(aN ac:Nat)(hac:a.length<=ac)(han:a.length<=400)(b:List PU)(bb:Option Nat)(bN bc:Nat)(hbc:b.length<=bc)(hbn:b.length<=400)(hsa:DC a)(hsb:DC b)(bd:Rat)(hbd:cO bd<=20000)(ex:List Iv)(h:MH sm bd (aj a b)=some ex)(hW:∀x∈aj a b,∀v,sV sm (nO false false true) (qh x.2 ⟨bd*bd,0,0⟩) x.1=some v->bZ Tryz.prog 76 [] [qp (qh x.2 ⟨bd*bd,0,0⟩),fV x.1,.bool false,.bool false,.bool true] (SR v.length) (fun z=> .tuple #[z.v,.int .i64 0]) (fun z=>[⟨z.b,61,ai aO v,z.n,true⟩])∧v.length<=10)(hwS:jZ S ex)(hwo:G7 ρ ex)(hwz:∀x∈ex,jH x<=50000)(hwl:ex.length<=1000:=by omega):bZ Tryz.prog 31 [⟨ab,100,ai aB a,aN,false⟩,⟨bb,100,ai aB b,bN,false⟩] [ay ab 0 a.length ac,ay bb 0 b.length bc,Q bd] (SR (jT ex).length) SR.v (fun z=>[⟨z.b,61,ai aO (jT ex),z.n,true⟩]):=by
 refine⟨ak,fun w hL0=>?_⟩;have hpl:=qU a b;have hps:=vJ hsa hsb;have hb2:=wo hbd hbd;have hq0:=zo
 have hb3:ui ⟨bd*bd,0,0⟩<=1000000:=(by show max (cO (bd*bd)) (max (cO 0) (cO 0))<=1000000;omega);refine cB3 41 Tryz.func31 hL0 ?_;refine jd fun g0=>?_;refine A5 ?_;refine L4 2 0 ?_;refine L4 2 0 ?_;refine Pc (bK bd bd) ?_;refine Pc (sG (bd*bd)) ?_;refine Al 12 Ij (fun g1=>?_);refine Ss 3 ?_;refine nT ?_;refine(Sc [0,1]) (lu a ab aN ac hac ae b bb bN bc hbc ae hsa hsb) (fun z=>?_);obtain⟨pb,pN,pc,hpc⟩:=z;refine A5 ?_;refine El (ι:={z:Nat×List Iv×Option Nat×Nat×Nat // z.1<=(aj a b).length∧(∃m,MH sm bd ((aj a b).drop z.1)=some m∧ex=z.2.1++m)∧z.2.1.length<=z.2.2.2.2∧z.2.2.2.2*20<=z.2.2.2.1}) (fun⟨⟨k,o,ob,oN,oc⟩,hk,hI,h3,h4⟩=>([(7,dJ g1),(8,ay ob 0 o.length oc),(19,ay pb 0 (aj a b).length pc),(20,bG ((aj a b).length)),(21,bG k)],[⟨some g1,91,qjd ⟨bd*bd,0,0⟩,12,true⟩,⟨pb,93,ai uh (aj a b),pN,true⟩,⟨ob,61,ai aO o,oN,true⟩],(aj a b).length-k)) ⟨⟨0,[],none,0,0⟩,Nat.zero_le _,⟨ex,h,rfl⟩,Nat.le_refl _,bI⟩ ?_ (hL:=(aA [some 3,some 4,none] ⟨pR,pR,⟨rfl,rfl,rfl⟩,trivial⟩ rfl rfl));rintro⟨⟨k,o,ob,oN,oc⟩,hk,hI,h3,h4⟩;(try dsimp only);replace hk:k<=(aj a b).length:=hk;obtain⟨m,hm,hwm⟩:=hI;replace hm:MH sm bd ((aj a b).drop k)=some m:=hm;replace hwm:ex=o++m:=hwm;replace h3:o.length<=oc:=h3;replace h4:oc*20<=oN:=h4;have hol:o.length<=1000:=Nat.le_trans (by rw[hwm,List.length_append];exact Nat.le_add_right _ _) hwl;refine A6 ?_;refine Cd ?_ ?_<;>intro haQ
 ·have hlt:k<(aj a b).length:=iL;obtain⟨x,hx⟩:∃x,(aj a b)[k]? =some x:=⟨(aj a b)[k],List.getElem?_eq_getElem hlt⟩;have hxm:=List.mem_of_getElem? hx;have hxz:=hps x hxm;obtain⟨v,m2,hv,hm2,hm3⟩:=qj7 hx hm;obtain⟨hsc,hvl⟩:=hW x hxm v hv;refine dL 1 rfl (o6.ne ax ae) (fun hbs=>?_);obtain⟨gp,hgp⟩:=Option.isSome_iff_exists.1 hbs;replace hgp:pb=some gp:=hgp;subst hgp;refine A6 ?_;refine aI 1 ((k)*32) u88 TS rfl rfl rfl rfl rfl ae ae (o6.ne ax ae) RY ?_;refine aG (v:=PtV x) 1 ((k)*32) _ rfl rfl rfl rfl TS (o6.sub hx 0 32 ax) rfl ax rfl ?_;refine Al 32 z93 (fun g2=>?_);refine Ss 3 ?_;refine A3 ?_;refine Dp [2000000] [0,1,2,4,5,3,6,7,8,9,10,11] ?_;refine A1 ?_;refine vU 3 20 ?_;refine vU 0 0 ?_;refine A1 ?_;refine yz 3 0 ?_;refine Pc (zu x.2 ⟨bd*bd,0,0⟩) ?_;refine(Sc []) hsc (fun z=>?_);obtain⟨vb,vN,vc,hvc⟩:=z;refine A7 ?_;refine rq 4 rfl (fun hba=>?_);have hvb:=sH bY ax hba;refine A3 ?_;refine(Qo (s:=20) (len:=o.length) 2 4 (ai aO v) (fun r2=>[_,_,⟨r2.b,61,ai aO o++ai aO v,r2.n,true⟩,_,_]) SC Qx) (bY.length o) h3 h4 hvb (by exact(by rw[List.drop_zero,<-bY.length v,List.take_length])) (bY.length v) (bY.ones _) (fun r2=>?_);refine A5 ?_;refine jl ?_;exact Nl ⟨⟨k+1,o++v,r2.b,r2.n,r2.cap⟩,hlt,⟨m2,hm2,by rw[hwm,hm3,List.append_assoc]⟩,Ya,r2.hn⟩ (hμ:=BB) (ht:=⟨rfl,(aU rfl (congrArg (fun z=>ay r2.b 0 z r2.cap) List.length_append.symm)),rfl,rfl,rfl,trivial⟩) (hL:=(aA [some 0,some 1,some 2] ⟨pR,pR,⟨_,rfl,bn (by rw[su])⟩,trivial⟩ rfl rfl))
 ·have hge:k=(aj a b).length:=jc;subst hge;have hwo2:ex=o:=by rw[hwm,qn1 hm,List.append_nil]
  subst hwo2;refine A8 ?_;refine(Sc [2]) (sW T ex ob oN oc h3 hwl hwS hwo hwz) (fun z=>?_);obtain⟨nb,nN,nc,hnc⟩:=z;refine A4 ?_;refine aK rfl (au rfl) (fun w hL=>⟨⟨nb,nN,nc,hnc⟩,?_,hL.pk [some 3]⟩);exact rfl
end Go.Proofs.YtaffcpfhedadhaaGreatDoor
