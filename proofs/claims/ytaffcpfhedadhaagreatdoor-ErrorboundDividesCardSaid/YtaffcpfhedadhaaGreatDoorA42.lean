/-
  Part 42 (chapter 32): lemmas, walks. Each theorem states its own conditions.
-/
import Derived.Shelf.SlSortCmp.WholeK
import Derived.Shelf.SlSortCmp.NoneTotal
import Derived.Lib.Repeat
import Derived.Sort.Grow
import Derived.Sort.EncStr
import Derived.Lib.SliceRun
import Derived.Test.YtaffcpfhedadhaaGreatDoorA38
import Derived.Test.YtaffcpfhedadhaaGreatDoorA40
set_option linter.all false
set_option maxRecDepth 20000
set_option maxHeartbeats 20000000
section
variable{P Q:Prop}{T:Type}{R:T->Prop}
def Tz(h:P:=by have e:=haQ;simpa[ckI] using e):=h
def TA(h:P:=by cases e:dO p.a<;>simp[e] at hbQ ⊢):=h
def TB(h:P:=by cases e:dO p.b<;>simp[e] at hcQ ⊢):=h
def TC(h:P:=by unfold shP;rw[r8,r9];rfl):=h
def NY(h:P:=by rw[r5,r6];rfl):=h
def YM(h:P:=by rw[List.length_append];exact r2.h):=h
end
namespace Go.Proofs.YtaffcpfhedadhaaGreatDoor
open Go Go.RowKit Go.Via
def NZ{S:Rl->Prop}{ρ:Rl->Int}(T:dZ S ρ)(a:List Iv)(ab:Option Nat)(aN ac:Nat)(hac:a.length<=ac)(han:a.length<=1000)(b:List Iv)(bb:Option Nat)(bN bc:Nat)(hbc:b.length<=bc)(hbn:b.length<=1000)(ha:iU S a)(hb:iU S b)(oka:HY ρ a)(okb:HY ρ b)(hza:∀x∈a,jM x<=50000)(hzb:∀x∈b,jM x<=50000):cZ Tryz.prog 104 [⟨ab,61,aj bT a,aN,false⟩,⟨bb,61,aj bT b,bN,false⟩] [aA ab 0 a.length ac,aA bb 0 b.length bc] (SR (jV orB a b).length) SR.v (fun z=>[⟨z.b,61,aj bT (jV orB a b),z.n,true⟩]):=by
 refine Z5 8 Tryz.func104 fun w hL0=>?_;refine A9 ?_;refine(Sc [0,1]) (BI T 153 orB Ju rfl a ab aN ac hac han b bb bN bc hbc hbn ha hb oka okb hza hzb) (fun z=>?_);refine A4 ?_;refine aO rfl (au rfl) (fun w hL=>⟨z,?_,hL.pk [some 2]⟩);exact rfl
def N7{S:Rl->Prop}{ρ:Rl->Int}(T:dZ S ρ)(a:List Iv)(ab:Option Nat)(aN ac:Nat)(hac:a.length<=ac)(han:a.length<=1000)(b:List Iv)(bb:Option Nat)(bN bc:Nat)(hbc:b.length<=bc)(hbn:b.length<=1000)(ha:iU S a)(hb:iU S b)(oka:HY ρ a)(okb:HY ρ b)(hza:∀x∈a,jM x<=50000)(hzb:∀x∈b,jM x<=50000):cZ Tryz.prog 151 [⟨ab,61,aj bT a,aN,false⟩,⟨bb,61,aj bT b,bN,false⟩] [aA ab 0 a.length ac,aA bb 0 b.length bc] (SR (jV (fun x y=>x&& !y) a b).length) SR.v (fun z=>[⟨z.b,61,aj bT (jV (fun x y=>x&& !y) a b),z.n,true⟩]):=by
 refine Z5 8 Tryz.func151 fun w hL0=>?_;refine A9 ?_;refine(Sc [0,1]) (BI T 191 (fun x y=>x&& !y) Jv rfl a ab aN ac hac han b bb bN bc hbc hbn ha hb oka okb hza hzb) (fun z=>?_);refine A4 ?_;refine aO rfl (au rfl) (fun w hL=>⟨z,?_,hL.pk [some 2]⟩);exact rfl
def tN{S:Rl->Prop}{ρ:Rl->Int}(T:dZ S ρ)(l:List Iv)(lb:Option Nat)(lN lc:Nat)(hlc:l.length<=lc)(hln:l.length<=1000)(hs:iU S l)(hok:HY ρ l)(hsz:∀x∈l,jM x<=50000):cZ Tryz.prog 50 [⟨lb,61,aj bT l,lN,false⟩] [aA lb 0 l.length lc] (SR (ji l).length) SR.v (fun z=>[⟨z.b,61,aj bT (ji l),z.n,true⟩]):=by
 refine PR 5 Tryz.func50 fun w hL0=>?_;refine A6 ?_;refine Y4 _ (az (L':=[_,⟨none,61,[],0,false⟩]) [some 0,none] ⟨pR,⟨rfl,rfl,rfl⟩,trivial⟩ rfl rfl) ?_;refine A2 ?_;refine jG [_,aA none 0 ([]:List Iv).length 0] [0,1] rfl rfl rfl (NZ T l lb lN lc hlc hln [] none 0 0 (Nat.le_refl _) (Nat.zero_le _) hs Gj hok (fun x hx=>by cases hx) hsz (fun x hx=>by cases hx)) ⟨pR,pR,trivial⟩ rfl (.inr fun x b hb=>zq) (fun z=>?_);refine A4 ?_;refine aO rfl (au rfl) (fun w hL=>⟨z,?_,hL.pk [some 2]⟩);exact rfl
def JF{S:Rl->Prop}{ρ:Rl->Int}(T:dZ S ρ)(a:List Iv)(ab:Option Nat)(aN ac:Nat)(hac:a.length<=ac)(han:a.length<=1000)(b:List Iv)(bb:Option Nat)(bN bc:Nat)(hbc:b.length<=bc)(hbn:b.length<=1000)(ha:iU S a)(hb:iU S b)(oka:HY ρ a)(okb:HY ρ b)(hza:∀x∈a,jM x<=50000)(hzb:∀x∈b,jM x<=50000):cZ Tryz.prog 102 [⟨ab,61,aj bT a,aN,false⟩,⟨bb,61,aj bT b,bN,false⟩] [aA ab 0 a.length ac,aA bb 0 b.length bc] Unit (fun _=> .bool (jV (fun x y=>x&& !y) b a).isEmpty) (fun _=>[]):=by
 refine Z5 10 Tryz.func102 fun w hL0=>?_;refine A9 ?_;refine(Sc [1,0]) (N7 T b bb bN bc hbc hbn a ab aN ac hac han hb ha okb oka hzb hza) (fun z=>?_);refine A6 ?_;refine aO rfl (au rfl) (fun w hL=>⟨(),?_,hL.pk []⟩);exact eB (by cases jV (fun x y=>x&& !y) b a<;>rfl)
end Go.Proofs.YtaffcpfhedadhaaGreatDoor
namespace Go.Via
open Go
def ckI(i:Iv):Int:=if(dO i.f&&dO i.t)=false then 5 else if lD i=false then 10 else 0
section
variable{l:List (Iv×Qd)}{pv:Option Iv}{p:lM}
def QA{i:Iv}(h:ckI i=0):dO i.f=true∧dO i.t=true∧lD i=true:=by
 unfold ckI at h;cases h1:dO i.f<;>cases h2:dO i.t<;>cases h3:lD i<;>simp[h1,h2,h3] at h ⊢
def qqL(h:ckI p.i≠0):l9 l pv p=ckI p.i:=by
 unfold l9 ckI at*;cases h1:dO p.i.f<;>cases h2:dO p.i.t<;>cases h3:lD p.i<;>simp[h1,h2,h3] at h ⊢
def qkG(h:ckI p.i=0)(h2:(dO p.a&&dO p.b)=false):l9 l pv p=5:=by
 obtain⟨a,b,c⟩:=QA h;unfold l9;rw[a,b,c,h2];rfl
def qsF(h:ckI p.i=0)(h2:(dO p.a&&dO p.b)=true)(h4:xH pv p.i=true):l9 l pv p=7:=by
 obtain⟨a,b,c⟩:=QA h;unfold l9;rw[a,b,c,h2,h4];rfl
def qqM(h:ckI p.i=0)(h2:(dO p.a&&dO p.b)=true)(h4:xH pv p.i=false)(h5:zl l p=true):l9 l pv p=0:=by
 obtain⟨a,b,c⟩:=QA h;unfold l9;rw[a,b,c,h2,h4,h5];rfl
def qmb(h:ckI p.i=0)(h2:(dO p.a&&dO p.b)=true)(h4:xH pv p.i=false)(h5:zl l p=false):l9 l pv p=30:=by
 obtain⟨a,b,c⟩:=QA h;unfold l9;rw[a,b,c,h2,h4,h5];rfl
def qkH(h:l9 l pv p=0):lD p.i=true:=by
 unfold l9 at h;cases h1:dO p.i.f<;>cases h2:dO p.i.t<;>cases h3:lD p.i<;>simp[h1,h2,h3] at h ⊢
end
def shP(p:lM)(x:Iv×Qd):Bool:=RJ x.1 p.i&&decide (ay (p.i,x.2)=p)
def ckB(cb:Option Nat):Nat->Option Addr
 |0=>none
 |i+1=>some ⟨cb.getD 0,i*38,none⟩
section
variable{a b:List PU}{c:List lM}{m:Rl}
def qqN(h:(ag a b).length=0):36=qF a b c m:=by unfold qF;rw[if_pos (by rw[List.length_eq_zero_iff.1 h];rfl)]
theorem Wu(h:(ag a b).length≠0):¬(ag a b).isEmpty=true:=fun e=>h (by rw[List.isEmpty_iff.1 e];rfl)
def qsG{e:Int}(h:(ag a b).length≠0)(hl:jL (l9 (ag a b)) none c=e)(h0:e≠0):e=qF a b c m:=by unfold qF;rw[if_neg (Wu h),hl,if_pos h0]
def qqO(h:(ag a b).length≠0)(hl:jL (l9 (ag a b)) none c=0)(hn:ji (c.map (·.i))≠ji ((ag a b).map (·.1))):12=qF a b c m:=by
 unfold qF;rw[if_neg (Wu h),hl,if_neg ax,if_pos hn]
def qsH(h:(ag a b).length≠0)(hl:jL (l9 (ag a b)) none c=0)(hn:ji (c.map (·.i))=ji ((ag a b).map (·.1)))(hm:dO m=false):5=qF a b c m:=by
 unfold qF;rw[if_neg (Wu h),hl,if_neg ax,if_neg (fun k=>k hn),if_pos hm]
def qqP(h:(ag a b).length≠0)(hl:jL (l9 (ag a b)) none c=0)(hn:ji (c.map (·.i))=ji ((ag a b).map (·.1)))(hm:dO m=true)(hx:m≠fH c):30=qF a b c m:=by
 unfold qF;rw[if_neg (Wu h),hl,if_neg ax,if_neg (fun k=>k hn),hm,if_neg ax,if_pos hx]
def qsI(h:(ag a b).length≠0)(hl:jL (l9 (ag a b)) none c=0)(hn:ji (c.map (·.i))=ji ((ag a b).map (·.1)))(hm:dO m=true)(hx:m=fH c):0=qF a b c m:=by
 unfold qF;rw[if_neg (Wu h),hl,if_neg ax,if_neg (fun k=>k hn),hm,if_neg ax,if_neg (fun k=>k hx)]
def qkI{S:Rl->Prop}{ρ:Rl->Int}(T:dZ S ρ)(hP:∀x∈ag a b,(S x.1.f∧S x.1.t)∧aK ρ x.1.b<aK ρ x.1.e)(h:(ag a b).length≠0)(hn:ji (c.map (·.i))=ji ((ag a b).map (·.1))):0<c.length:=by
 rcases Nat.eq_zero_or_pos c.length with h0|h0
 ·rw[List.length_eq_zero_iff.1 h0] at hn;have hS:iU S ((ag a b).map (·.1)):=fun i hi=>by obtain⟨x,hx,rfl⟩:=List.mem_map.1 hi;exact(hP x hx).1
  have hO:HY ρ ((ag a b).map (·.1)):=fun i hi=>by obtain⟨x,hx,rfl⟩:=List.mem_map.1 hi;exact(hP x hx).2
  have:=VJ T hS hO;rw[<-hn] at this;have e:(ji (([]:List lM).map (·.i))).isEmpty=true:=rfl;rw[e] at this;have e2:=List.isEmpty_iff.1 this.symm;exact absurd (by simpa using congrArg List.length e2) h
 ·exact h0
end
end Go.Via
namespace Go.Proofs.YtaffcpfhedadhaaGreatDoor
def qqQ:Tryz.prog.underlying 103=some (.pointer 63):=ak
open Go Go.Via
def qmc{S:Rl->Prop}{ρ:Rl->Int}(T:dZ S ρ){x p:Iv}{v:Bool}(hx:S x.f∧S x.t)(hp:S p.f∧S p.t)(ox:aK ρ x.b<aK ρ x.e)(op:aK ρ p.b<aK ρ p.e)(sx:jM x<=50000)(sp:jM p<=50000)(h:RJ x p=v)(gx gp:Nat):
 cZ Tryz.prog 102 [⟨some gx,61,bT x,20,false⟩,⟨some gp,61,bT p,20,false⟩] [aA (some gx) 0 1 1,aA (some gp) 0 1 1] Unit (fun _=> .bool v) (fun _=>[]):=by
 subst h;exact JF T [x] (some gx) 20 1 (Nat.le_refl _) bz [p] (some gp) 20 1 (Nat.le_refl _) bz (Gi hx) (Gi hp) (fun j hj=>by rw[List.mem_singleton.1 hj];exact ox) (fun j hj=>by rw[List.mem_singleton.1 hj];exact op) (fun j hj=>by rw[List.mem_singleton.1 hj];exact sx) (fun j hj=>by rw[List.mem_singleton.1 hj];exact sp)
end Go.Proofs.YtaffcpfhedadhaaGreatDoor
namespace Go.Proofs.YtaffcpfhedadhaaGreatDoor
open Go Go.RowKit Go.Via
def N8{S:Rl->Prop}{ρ:Rl->Int}(T:dZ S ρ)(l:List (Iv×Qd))(lb:Option Nat)(lN lc:Nat)(hlc:l.length<=lc)(hln:l.length<=1000)(hlS:∀x∈l,(S x.1.f∧S x.1.t)∧aK ρ x.1.b<aK ρ x.1.e)(hlz:∀x∈l,jM x.1<=1000∧uC x.2<=10000)(c:List lM)(cb:Option Nat)(cN cc:Nat)(hcc:c.length<=cc)(hcn:c.length<=1000)(p:lM)(hp:S p.i.f∧S p.i.t)(hpz:jM p.i<=5000∧fV p.a<=5000∧fV p.b<=5000):cZ Tryz.prog 48 [⟨lb,93,aj Ep l,lN,false⟩,⟨cb,63,aj aZ c,cN,false⟩] [aA lb 0 l.length lc,wU p,.pointer none] Unit (fun _=> .int .i64 (l9 l none p)) (fun _=>[]):=by
 refine⟨ak,fun w hL0=>?_⟩;obtain⟨hz1,hz2,hz3⟩:=hpz;refine cB3 63 Tryz.func48 hL0 ?_;refine A2 ?_;refine Bp 38 (fun g0=>?_);refine A7 ?_;refine yK 2 0 ?_;refine Pc (qo p.i) ?_;refine A9 ?_;refine Cd ?_ ?_<;>intro haQ
 ·have r1:ckI p.i≠0:=Tz
  refine A8 ?_;refine aO rfl (au rfl) (fun w hL=>⟨(),?_,hL.pk []⟩);exact congrArg (fun e:Int=>Ending.returned (.int .i64 e)) (qqL r1).symm
 ·have r1:ckI p.i=0:=Tz
  obtain⟨r2,r3,r4⟩:=QA r1;have hpo:=(sO T hp.1 hp.2).1 r4;refine A7 ?_;refine L9 2 20 ?_;refine Pc (jd p.a) ?_;refine A2 ?_;refine Rs 21 ?_ ?_<;>intro hbQ
  ·have r5:dO p.a=false:=TA
   refine Ri ?_;refine aO rfl (au rfl) (fun w hL=>⟨(),?_,hL.pk []⟩);exact congrArg (fun e:Int=>Ending.returned (.int .i64 e)) (qkG r1 (by rw[r5];rfl)).symm
  ·have r5:dO p.a=true:=TA
   refine A1 ?_;refine L9 2 29 ?_;refine Pc (jd p.b) ?_;refine A5 ?_;refine Cd ?_ ?_<;>intro hcQ
   ·have r6:dO p.b=false:=TB
    refine A8 ?_;refine aO rfl (au rfl) (fun w hL=>⟨(),?_,hL.pk []⟩);exact congrArg (fun e:Int=>Ending.returned (.int .i64 e)) (qkG r1 (by rw[r6,Bool.and_false])).symm
   ·have r6:dO p.b=true:=TB
    refine A1 ?_;refine Di [] ?_;refine A1 ?_;refine Cf qqQ rfl rfl rfl rfl rfl ?_;refine A26 ?_;refine El (ι:={i:Nat // i<=l.length∧zl l p=(l.drop i).any (shP p)}) (fun⟨i,hi,hI⟩=>([(0,aA lb 0 l.length lc),(40,aA lb 0 l.length lc),(41,bH (l.length)),(42,bH i),(4,bf g0)],[⟨lb,93,aj Ep l,lN,false⟩,⟨cb,63,aj aZ c,cN,false⟩,⟨some g0,63,aZ p,38,true⟩],l.length-i)) ⟨0,Nat.zero_le _,rfl⟩ ?_ (hL:=fF.auto);rintro⟨i,hi,hI⟩;(try dsimp only);refine A6 ?_;refine Cd ?_ ?_<;>intro hdQ
    ·have hlt:i<l.length:=uX;obtain⟨x,hx⟩:∃x,l[i]? =some x:=⟨l[i],List.getElem?_eq_getElem hlt⟩;obtain⟨hxS,hxo⟩:=hlS x (List.mem_of_getElem? hx);obtain⟨hxz,hxf⟩:=hlz x (List.mem_of_getElem? hx);refine dQ 0 rfl (tH.ne ax ae) (fun hbs=>?_);obtain⟨gl,hgl⟩:=Option.isSome_iff_exists.1 hbs;replace hgl:lb=some gl:=hgl;subst hgl;refine Yu ?_;refine Al 32 z93 (fun g1=>?_);refine Ss 3 ?_;refine A3 ?_;refine Dq [3000000] [0,1,3,4,2,5,6,7,8,9,10,11,13,12,14,15] ?_;refine A1 ?_;refine yK 3 0 ?_;refine A1 ?_;refine yK 2 0 ?_;refine(Bl 20 [(0,_)]) (lK) (fun g2=>?_);refine(Bl 20 [(0,_)]) (lK) (fun g3=>?_);refine(Sd [4,5]) (qmc T hxS hp hxo hpo ae ae rfl g2 g3) ?_;refine A1 ?_;refine Rs 53 ?_ ?_<;>intro heQ
     ·have r8:RJ x.1 p.i=true:=heQ;refine A1 ?_;refine yK 2 0 ?_;refine A1 ?_;refine vZ 3 20 ?_;refine Bg 2 0 ?_;refine dX [_,_] rfl rfl rfl (jF p.i x.2 ((wV _).1 r2).r0 ((wV _).1 r3).r0) ?_;refine fP rfl rfl rfl rfl qm0 (qnM _ _) ?_;refine A3 ?_;refine Cd ?_ ?_<;>intro hfQ
      ·have r9:decide (ay (p.i,x.2)=p)=true:=hfQ;have hyes:shP p x=true:=TC
       refine qC ?_;refine aO rfl (au rfl) (fun w hL=>⟨(),?_,hL.pk []⟩);exact congrArg (fun e:Int=>Ending.returned (.int .i64 e)) (qqM r1 NY rfl (by rw[hI,BB hx,hyes];rfl)).symm
      ·have r9:decide (ay (p.i,x.2)=p)=false:=hfQ;have hno:shP p x=false:=TC
       refine A4 ?_;exact Ns
     ·have r8:RJ x.1 p.i=false:=heQ;have hno:shP p x=false:=by unfold shP;rw[r8,Bool.false_and]
      refine Ed ?_;exact Ns
    ·have hge:i=l.length:=wR;subst hge;refine qC ?_;refine aO rfl (au rfl) (fun w hL=>⟨(),?_,hL.pk []⟩);exact congrArg (fun e:Int=>Ending.returned (.int .i64 e)) (qmb r1 NY rfl (by rw[hI,List.drop_length];rfl)).symm
def N9{S:Rl->Prop}{ρ:Rl->Int}(T:dZ S ρ)(l:List (Iv×Qd))(lb:Option Nat)(lN lc:Nat)(hlc:l.length<=lc)(hln:l.length<=1000)(hlS:∀x∈l,(S x.1.f∧S x.1.t)∧aK ρ x.1.b<aK ρ x.1.e)(hlz:∀x∈l,jM x.1<=1000∧uC x.2<=10000)(c:List lM)(gc cN cc:Nat)(hcc:c.length<=cc)(hcn:c.length<=1000)(p:lM)(hp:S p.i.f∧S p.i.t)(hpz:jM p.i<=5000∧fV p.a<=5000∧fV p.b<=5000)(j:Nat)(q:lM)(hq:c[j]? =some q)(hqz:jM q.i<=50000:=by omega):cZ Tryz.prog 48 [⟨lb,93,aj Ep l,lN,false⟩,⟨some gc,63,aj aZ c,cN,false⟩] [aA lb 0 l.length lc,wU p,.pointer (some ⟨gc,j*38,none⟩)] Unit (fun _=> .int .i64 (l9 l (some q.i) p)) (fun _=>[]):=by
 refine⟨ak,fun w hL0=>?_⟩;obtain⟨hz1,hz2,hz3⟩:=hpz;refine cB3 63 Tryz.func48 hL0 ?_;refine A2 ?_;refine Bp 38 (fun g0=>?_);refine A7 ?_;refine yK 2 0 ?_;refine Pc (qo p.i) ?_;refine A9 ?_;refine Cd ?_ ?_<;>intro haQ
 ·have r1:ckI p.i≠0:=Tz
  refine A8 ?_;refine aO rfl (au rfl) (fun w hL=>⟨(),?_,hL.pk []⟩);exact congrArg (fun e:Int=>Ending.returned (.int .i64 e)) (qqL r1).symm
 ·have r1:ckI p.i=0:=Tz
  obtain⟨r2,r3,r4⟩:=QA r1;have hpo:=(sO T hp.1 hp.2).1 r4;refine A7 ?_;refine L9 2 20 ?_;refine Pc (jd p.a) ?_;refine A2 ?_;refine Rs 21 ?_ ?_<;>intro hbQ
  ·have r5:dO p.a=false:=TA
   refine Ri ?_;refine aO rfl (au rfl) (fun w hL=>⟨(),?_,hL.pk []⟩);exact congrArg (fun e:Int=>Ending.returned (.int .i64 e)) (qkG r1 (by rw[r5];rfl)).symm
  ·have r5:dO p.a=true:=TA
   refine A1 ?_;refine L9 2 29 ?_;refine Pc (jd p.b) ?_;refine A5 ?_;refine Cd ?_ ?_<;>intro hcQ
   ·have r6:dO p.b=false:=TB
    refine A8 ?_;refine aO rfl (au rfl) (fun w hL=>⟨(),?_,hL.pk []⟩);exact congrArg (fun e:Int=>Ending.returned (.int .i64 e)) (qkG r1 (by rw[r6,Bool.and_false])).symm
   ·have r6:dO p.b=true:=TB
    refine A1 ?_;refine Di [] ?_;refine A1 ?_;refine Cf qqQ rfl rfl rfl rfl rfl ?_;refine A3 ?_;refine Fg (j*38) 0 ?_;refine bu (v:=nJ q.i) 1 (j*38) _ rfl rfl rfl rfl pz (dH.sub hq 0 20 ax) rfl ax rfl ?_;refine A1 ?_;refine yK 2 0 ?_;refine Pc (Dh q.i p.i) ?_;refine A5 ?_;refine Cd ?_ ?_<;>intro hdQ
    ·have r7:xH (some q.i) p.i=true:=hdQ;refine A8 ?_;refine aO rfl (au rfl) (fun w hL=>⟨(),?_,hL.pk []⟩);exact congrArg (fun e:Int=>Ending.returned (.int .i64 e)) (qsF r1 NY r7).symm
    ·have r7:xH (some q.i) p.i=false:=hdQ;refine nI ?_;refine El (ι:={i:Nat // i<=l.length∧zl l p=(l.drop i).any (shP p)}) (fun⟨i,hi,hI⟩=>([(0,aA lb 0 l.length lc),(40,aA lb 0 l.length lc),(41,bH (l.length)),(42,bH i),(4,bf g0)],[⟨lb,93,aj Ep l,lN,false⟩,⟨some gc,63,aj aZ c,cN,false⟩,⟨some g0,63,aZ p,38,true⟩],l.length-i)) ⟨0,Nat.zero_le _,rfl⟩ ?_ (hL:=fF.auto);rintro⟨i,hi,hI⟩;(try dsimp only);refine A6 ?_;refine Cd ?_ ?_<;>intro heQ
     ·have hlt:i<l.length:=Es;obtain⟨x,hx⟩:∃x,l[i]? =some x:=⟨l[i],List.getElem?_eq_getElem hlt⟩;obtain⟨hxS,hxo⟩:=hlS x (List.mem_of_getElem? hx);obtain⟨hxz,hxf⟩:=hlz x (List.mem_of_getElem? hx);refine dQ 0 rfl (tH.ne ax ae) (fun hbs=>?_);obtain⟨gl,hgl⟩:=Option.isSome_iff_exists.1 hbs;replace hgl:lb=some gl:=hgl;subst hgl;refine Yu ?_;refine Al 32 z93 (fun g1=>?_);refine Ss 3 ?_;refine A3 ?_;refine Dq [3000000] [0,1,3,4,2,5,6,7,8,9,10,11,13,12,14,15] ?_;refine A1 ?_;refine yK 3 0 ?_;refine A1 ?_;refine yK 2 0 ?_;refine(Bl 20 [(0,_)]) (lK) (fun g2=>?_);refine(Bl 20 [(0,_)]) (lK) (fun g3=>?_);refine(Sd [4,5]) (qmc T hxS hp hxo hpo ae ae rfl g2 g3) ?_;refine A1 ?_;refine Rs 53 ?_ ?_<;>intro hfQ
      ·have r8:RJ x.1 p.i=true:=hfQ;refine A1 ?_;refine yK 2 0 ?_;refine A1 ?_;refine vZ 3 20 ?_;refine Bg 2 0 ?_;refine dX [_,_] rfl rfl rfl (jF p.i x.2 ((wV _).1 r2).r0 ((wV _).1 r3).r0) ?_;refine fP rfl rfl rfl rfl qm0 (qnM _ _) ?_;refine A3 ?_;refine Cd ?_ ?_<;>intro hgQ
       ·have r9:decide (ay (p.i,x.2)=p)=true:=hgQ;have hyes:shP p x=true:=TC
        refine qC ?_;refine aO rfl (au rfl) (fun w hL=>⟨(),?_,hL.pk []⟩);exact congrArg (fun e:Int=>Ending.returned (.int .i64 e)) (qqM r1 NY r7 (by rw[hI,BB hx,hyes];rfl)).symm
       ·have r9:decide (ay (p.i,x.2)=p)=false:=hgQ;have hno:shP p x=false:=TC
        refine A4 ?_;exact Ns
      ·have r8:RJ x.1 p.i=false:=hfQ;have hno:shP p x=false:=by unfold shP;rw[r8,Bool.false_and]
       refine Ed ?_;exact Ns
     ·have hge:i=l.length:=Et;subst hge;refine qC ?_;refine aO rfl (au rfl) (fun w hL=>⟨(),?_,hL.pk []⟩);exact congrArg (fun e:Int=>Ending.returned (.int .i64 e)) (qmb r1 NY r7 (by rw[hI,List.drop_length];rfl)).symm
end Go.Proofs.YtaffcpfhedadhaaGreatDoor
namespace Go.Proofs.YtaffcpfhedadhaaGreatDoor
open Go Go.RowKit Go.Via
def TD{S:Rl->Prop}{ρ:Rl->Int}(T:dZ S ρ)(l:List (Iv×Qd))(lb:Option Nat)(lN lc:Nat)(hlc:l.length<=lc)(hln:l.length<=1000)(hlS:∀x∈l,(S x.1.f∧S x.1.t)∧aK ρ x.1.b<aK ρ x.1.e)(hlz:∀x∈l,jM x.1<=1000∧uC x.2<=10000)
 (c:List lM)(gc cN cc:Nat)(hcc:c.length<=cc)(hcn:c.length<=1000)(hcz:∀q∈c,jM q.i<=50000)(p:lM)(hp:S p.i.f∧S p.i.t)(hpz:jM p.i<=5000∧fV p.a<=5000∧fV p.b<=5000)(i:Nat)(hi:i<=c.length):
 cZ Tryz.prog 48 [⟨lb,93,aj Ep l,lN,false⟩,⟨some gc,63,aj aZ c,cN,false⟩] [aA lb 0 l.length lc,wU p,.pointer (ckB (some gc) i)] Unit (fun _=> .int .i64 (l9 l (yG c i) p)) (fun _=>[]):=by
 cases i with
 |zero=>exact N8 T l lb lN lc hlc hln hlS hlz c (some gc) cN cc hcc hcn p hp hpz
 |succ i=>
  have hq:c[i]? =some c[i]:=List.getElem?_eq_getElem hi;rw[qaw hq];exact N9 T l lb lN lc hlc hln hlS hlz c gc cN cc hcc hcn p hp hpz i _ hq (hcz _ (List.mem_of_getElem? hq))
def BN{S:Rl->Prop}{ρ:Rl->Int}(T:dZ S ρ)(sm:Rl->Rl->Option Rat)(a:List PU)(ab:Option Nat)(aN ac:Nat)(hac:a.length<=ac)(han:a.length<=400)(b:List PU)(bb:Option Nat)(bN bc:Nat)(hbc:b.length<=bc)(hbn:b.length<=400)(hsa:GX a)(hsb:GX b)(bd:Rat)(hbd:bY bd<=20000)(ex:List Iv)(h:Nk sm bd (ag a b)=some ex)(hW:∀x∈ag a b,∀v,tK sm (nG false false true) (ql x.2 ⟨bd*bd,0,0⟩) x.1=some v->cZ Tryz.prog 76 [] [rH (ql x.2 ⟨bd*bd,0,0⟩),nJ x.1,.bool false,.bool false,.bool true] (SR v.length) (fun z=> .tuple #[z.v,.int .i64 0]) (fun z=>[⟨z.b,61,aj bT v,z.n,true⟩])∧v.length<=10)(hwS:iU S ex)(hwo:HY ρ ex)(hwz:∀x∈ex,jM x<=50000)(hwl:ex.length<=1000:=by omega):cZ Tryz.prog 31 [⟨ab,100,aj aP a,aN,false⟩,⟨bb,100,aj aP b,bN,false⟩] [aA ab 0 a.length ac,aA bb 0 b.length bc,Q bd] (SR (ji ex).length) SR.v (fun z=>[⟨z.b,61,aj bT (ji ex),z.n,true⟩]):=by
 refine⟨ak,fun w hL0=>?_⟩;have hpl:=uD a b;have hps:=yH hsa hsb;have hb2:=wF hbd hbd;have hq0:=vz
 have hb3:uC ⟨bd*bd,0,0⟩<=1000000:=(by show max (bY (bd*bd)) (max (bY 0) (bY 0))<=1000000;omega);refine cB3 41 Tryz.func31 hL0 ?_;refine jl fun g0=>?_;refine A5 ?_;refine L4 2 0 ?_;refine L4 2 0 ?_;refine Pc (bK bd bd) ?_;refine Pc (sU (bd*bd)) ?_;refine Al 12 IJ (fun g1=>?_);refine Ss 3 ?_;refine nI ?_;refine(Sc [0,1]) (oU a ab aN ac hac ae b bb bN bc hbc ae hsa hsb) (fun z=>?_);obtain⟨pb,pN,pc,hpc⟩:=z;refine A5 ?_;refine El (ι:={z:Nat×List Iv×Option Nat×Nat×Nat // z.1<=(ag a b).length∧(∃m,Nk sm bd ((ag a b).drop z.1)=some m∧ex=z.2.1++m)∧z.2.1.length<=z.2.2.2.2∧z.2.2.2.2*20<=z.2.2.2.1}) (fun⟨⟨k,o,ob,oN,oc⟩,hk,hI,h3,h4⟩=>([(7,bf g1),(8,aA ob 0 o.length oc),(19,aA pb 0 (ag a b).length pc),(20,bH ((ag a b).length)),(21,bH k)],[⟨some g1,91,qjJ ⟨bd*bd,0,0⟩,12,true⟩,⟨pb,93,aj Ep (ag a b),pN,true⟩,⟨ob,61,aj bT o,oN,true⟩],(ag a b).length-k)) ⟨⟨0,[],none,0,0⟩,Nat.zero_le _,⟨ex,h,rfl⟩,Nat.le_refl _,bz⟩ ?_ (hL:=(az [some 3,some 4,none] ⟨pR,pR,⟨rfl,rfl,rfl⟩,trivial⟩ rfl rfl));rintro⟨⟨k,o,ob,oN,oc⟩,hk,hI,h3,h4⟩;(try dsimp only);replace hk:k<=(ag a b).length:=hk;obtain⟨m,hm,hwm⟩:=hI;replace hm:Nk sm bd ((ag a b).drop k)=some m:=hm;replace hwm:ex=o++m:=hwm;replace h3:o.length<=oc:=h3;replace h4:oc*20<=oN:=h4;have hol:o.length<=1000:=Nat.le_trans (by rw[hwm,List.length_append];exact Nat.le_add_right _ _) hwl;refine A6 ?_;refine Cd ?_ ?_<;>intro haQ
 ·have hlt:k<(ag a b).length:=iH;obtain⟨x,hx⟩:∃x,(ag a b)[k]? =some x:=⟨(ag a b)[k],List.getElem?_eq_getElem hlt⟩;have hxm:=List.mem_of_getElem? hx;have hxz:=hps x hxm;obtain⟨v,m2,hv,hm2,hm3⟩:=qkF hx hm;obtain⟨hsc,hvl⟩:=hW x hxm v hv;refine dQ 1 rfl (tH.ne ax ae) (fun hbs=>?_);obtain⟨gp,hgp⟩:=Option.isSome_iff_exists.1 hbs;replace hgp:pb=some gp:=hgp;subst hgp;refine A6 ?_;refine aG 1 ((k)*32) u88 qbm rfl rfl rfl rfl rfl ae ae (tH.ne ax ae) Yz ?_;refine bu (v:=PtV x) 1 ((k)*32) _ rfl rfl rfl rfl qbm (tH.sub hx 0 32 ax) rfl ax rfl ?_;refine Al 32 z93 (fun g2=>?_);refine Ss 3 ?_;refine A3 ?_;refine Dp [2000000] [0,1,2,4,5,3,6,7,8,9,10,11] ?_;refine A1 ?_;refine vZ 3 20 ?_;refine vZ 0 0 ?_;refine A1 ?_;refine yK 3 0 ?_;refine Pc (zJ x.2 ⟨bd*bd,0,0⟩) ?_;refine(Sc []) hsc (fun z=>?_);obtain⟨vb,vN,vc,hvc⟩:=z;refine A7 ?_;refine rF 4 rfl (fun hba=>?_);have hvb:=sV cO ax hba;refine A3 ?_;refine(Qo (s:=20) (len:=o.length) 2 4 (aj bT v) (fun r2=>[_,_,⟨r2.b,61,aj bT o++aj bT v,r2.n,true⟩,_,_]) TG QX) (cO.length o) h3 h4 hvb (by exact(by rw[List.drop_zero,<-cO.length v,List.take_length])) (cO.length v) (cO.ones _) (fun r2=>?_);refine A5 ?_;refine Ar (((k+1:Nat):Int)) ?_;refine A3 ?_;exact Nl ⟨⟨k+1,o++v,r2.b,r2.n,r2.cap⟩,hlt,⟨m2,hm2,by rw[hwm,hm3,List.append_assoc]⟩,YM,r2.hn⟩ (hμ:=(by show(ag a b).length-(k+1)<(ag a b).length-k;omega)) (ht:=⟨rfl,(aQ rfl (congrArg (fun z=>aA r2.b 0 z r2.cap) List.length_append.symm)),rfl,rfl,rfl,trivial⟩) (hL:=(az [some 0,some 1,some 2] ⟨pR,pR,⟨_,rfl,bg (by rw[sS])⟩,trivial⟩ rfl rfl))
 ·have hge:k=(ag a b).length:=iK;subst hge;have hwo2:ex=o:=by rw[hwm,qoJ hm,List.append_nil]
  subst hwo2;refine A8 ?_;refine(Sc [2]) (tN T ex ob oN oc h3 hwl hwS hwo hwz) (fun z=>?_);obtain⟨nb,nN,nc,hnc⟩:=z;refine A4 ?_;refine aO rfl (au rfl) (fun w hL=>⟨⟨nb,nN,nc,hnc⟩,?_,hL.pk [some 3]⟩);exact rfl
end Go.Proofs.YtaffcpfhedadhaaGreatDoor
