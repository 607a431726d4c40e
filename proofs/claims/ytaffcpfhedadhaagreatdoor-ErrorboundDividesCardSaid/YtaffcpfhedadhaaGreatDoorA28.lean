/-
  Part 28 (chapter 32): lemmas, walks. Each theorem states its own conditions.
-/
import Derived.Lib.Repeat
import Derived.Sort.Grow
import Derived.Sort.EncStr
import Derived.Shelf.SlSortCmp.WholeK
import Derived.Shelf.SlSortCmp.NoneTotal
import Derived.Test.YtaffcpfhedadhaaGreatDoorA19
import Derived.Test.YtaffcpfhedadhaaGreatDoorA25
set_option linter.all false
set_option maxRecDepth 20000
set_option maxHeartbeats 20000000
section
variable{P Q:Prop}{T:Type}{R:T->Prop}
def RH(h:P:=by rw[h.len];exact Nat.le_refl _):=h
def RI(h:P:=by rw[h.len,Nat.succ_mul,Nat.add_comm]):=h
end
namespace Go.Via
open Go
theorem ML{g:pU->Bool}(h:∀c,g c=false):∀{C:List pU},gX g none C=[]
 |[]=>rfl
 |c::C=>by unfold gX;rw[h,if_neg ax,ML h]
theorem P9{S:Rl->Prop}{ρ:Rl->Int}(T:dZ S ρ){op:Bool->Bool->Bool}(h0:op false false=false){a b:List Iv}(ha:iU S a)(hb:iU S b):jV op a b=[]↔∀k,op (memB ρ a k) (memB ρ b k)=false:=by
 constructor
 ·intro h k;rw[<-qcn T h0 ha hb,h];rfl
 ·intro h;rw[ve T h0 ha hb,ML fun c=>h _];rfl
def RJ(x p:Iv):Bool:=(jV (fun a b=>a&& !b) [p] [x]).isEmpty
theorem Gi{S:Rl->Prop}{i:Iv}(h:S i.f∧S i.t):iU S [i]:=fun j hj=>by rw[List.mem_singleton] at hj;rw[hj];exact h
def VI{S:Rl->Prop}{ρ:Rl->Int}(T:dZ S ρ){x p:Iv}(hx:S x.f∧S x.t)(hp:S p.f∧S p.t)(op:aK ρ p.b<aK ρ p.e):RJ x p=true↔aK ρ x.b<=aK ρ p.b∧aK ρ p.e<=aK ρ x.e:=by
 unfold RJ;rw[List.isEmpty_iff,P9 T rfl (Gi hp) (Gi hx)];have e:∀k,(memB ρ [p] k&& !memB ρ [x] k)=false↔(aK ρ p.b<=k->k<aK ρ p.e->aK ρ x.b<=k∧k<aK ρ x.e):=fun k=>by
  rw[F9,F9]
  by_cases h1:aK ρ p.b<=k<;>by_cases h2:k<aK ρ p.e<;>by_cases h3:aK ρ x.b<=k<;>by_cases h4:k<aK ρ x.e<;>simp[h1,h2,h3,h4]
 constructor
 ·intro h;have h1:=(e _).1 (h (aK ρ p.b)) (Int.le_refl _) op;have h2:=(e _).1 (h (aK ρ p.e-1)) ae ae;omega
 ·rintro⟨h1,h2⟩ k;rw[e];intro h3 h4;omega
def dO(x:Rl):Bool:=if dD x.r<0 then false else if dD x.r=0 then !x.n else !qE x.r
def wV(x:Rl):dO x=true↔x.ok:=by
 unfold dO Rl.ok;rcases dV x.r with⟨h,e⟩|⟨h,e⟩|⟨h,e⟩<;>rw[e]
 ·simp;have:x.r≠0:=dY
  simp[h,this]
 ·simp
  constructor
  ·intro hh;grind
  ·intro hh;grind
 ·simp[h]
def zl(l:List (Iv×Qd))(p:lM):Bool:=l.any fun x=>RJ x.1 p.i&&decide (ay (p.i,x.2)=p)
end Go.Via
namespace Go.Via
open Go
def XV(a b:Iv):Bool:=decide (aV a.t b.f<0)||decide (aV a.t b.f=0)&&(a.tp||b.fo)
def xH(before:Option Iv)(i:Iv):Bool:=match before with|some b=> !XV b i|none=>false
def l9(l:List (Iv×Qd))(before:Option Iv)(p:lM):Int:=
 if(dO p.i.f&&dO p.i.t)=false then 5 else if lD p.i=false then 10 else if(dO p.a&&dO p.b)=false then 5
 else if xH before p.i=true then 7 else if zl l p=true then 0 else 30
def jL(one:Option Iv->lM->Int):Option Iv->List lM->Int
 |_,[]=>0
 |b,p::ps=>if one b p=0 then jL one (some p.i) ps else one b p
end Go.Via
namespace Go.Via
open Go
def orB(x y:Bool):Bool:=x||y
def qr5(x y:Bool):Bool:=x&&y
def ji(l:List Iv):List Iv:=jV orB l []
def qF(a b:List PU)(c:List lM)(m:Rl):Int:=
 if(ag a b).isEmpty=true then 36 else if jL (l9 (ag a b)) none c≠0 then jL (l9 (ag a b)) none c
 else if ji (c.map (·.i))≠ji ((ag a b).map (·.1)) then 12 else if dO m=false then 5 else if m≠fH c then 30 else 0
def Gj{S:Rl->Prop}:iU S []:=fun i hi=>OV
def qco{ρ:Rl->Int}{l:List Iv}{k:Int}:memB ρ l k=true↔∃i∈l,aK ρ i.b<=k∧k<aK ρ i.e:=by
 unfold memB;rw[List.any_eq_true];simp only[Bool.and_eq_true,decide_eq_true_eq]
def zo{S:Rl->Prop}{ρ:Rl->Int}(T:dZ S ρ){a b:List PU}(ea:Ends S a)(eb:Ends S b):∀z∈flatK uB a b,(S z.1.f∧S z.1.t)∧aK ρ z.1.b<aK ρ z.1.e:=fun z hz=>by
 obtain⟨x,hx,hm⟩:=List.mem_flatMap.1 hz;obtain⟨y,hy,hm⟩:=List.mem_filterMap.1 hm;have:=pX T (ea x hx) (eb y hy) hm;exact⟨⟨this.2.2.1,this.2.2.2.1⟩,this.2.2.2.2.1⟩
def VJ{S:Rl->Prop}{ρ:Rl->Int}(T:dZ S ρ){l:List Iv}(h:iU S l)(ho:HY ρ l):(ji l).isEmpty=l.isEmpty:=by
 rw[Bool.eq_iff_iff,List.isEmpty_iff,List.isEmpty_iff]
 constructor
 ·intro h1;cases l with
  |nil=>rfl
  |cons i l=>
   exfalso
   have h2:=(P9 T (op:=orB) rfl h Gj).1 h1 (aK ρ i.b);have h3:memB ρ (i::l) (aK ρ i.b)=true:=qco.2 ⟨i,List.mem_cons_self ..,Int.le_refl _,ho i (List.mem_cons_self ..)⟩;rw[h3] at h2;cases h2
 ·intro h1;rw[h1];rfl
end Go.Via
namespace Go.Via
open Go
theorem MM{S:Rl->Prop}{ρ:Rl->Int}(T:dZ S ρ){a b:Iv}(ha:S a.t)(hb:S b.f):XV a b=true↔aK ρ a.e<=aK ρ b.b:=by
 have h1:=T.lt ha hb;have h2:=T.zero ha hb;unfold XV aK Iv.b Iv.e;simp only[Bool.or_eq_true,Bool.and_eq_true,decide_eq_true_eq,h1,h2];cases a.tp<;>cases b.fo<;>simp<;>omega
theorem CO(q:Rat):dO (rl q)=true:=(wV _).2 (PQ q)
def Qb{S:Rl->Prop}{ρ:Rl->Int}(T:dZ S ρ)(hS:∀x,S x->dO x=true){L:List (Iv×Qd)}:∀{l:List (Iv×Qd)} {before:Option Iv},(∀x∈l,x∈L∧(S x.1.f∧S x.1.t)∧aK ρ x.1.b<aK ρ x.1.e∧dO (ay x).a=true∧dO (ay x).b=true)->
 l.Pairwise (fun x y=>aK ρ x.1.e<=aK ρ y.1.b)->(∀b,before=some b->S b.t∧∀x∈l,aK ρ b.e<=aK ρ x.1.b)->jL (l9 L) before (l.map ay)=0
 |[],_,_,_,_=>rfl
 |x::l,before,h,hs,hb=>by
  obtain⟨hL,hx,hlt,ha,hb'⟩:=h x (List.mem_cons_self ..);obtain⟨s1,s2⟩:=List.pairwise_cons.1 hs;have e:l9 L before (ay x)=0:=by
   have ei:(ay x).i=x.1:=rfl;unfold l9;rw[ei,hS _ hx.1,hS _ hx.2,if_neg ax,(sO T hx.1 hx.2).2 hlt,if_neg ax,ha,hb',if_neg ax];have hw:xH before x.1=false:=by
    cases before with
    |none=>rfl
    |some b=>
     have:=hb b rfl;unfold xH;dsimp only;rw[(MM T this.1 hx.1).2 (this.2 x (List.mem_cons_self ..))];rfl
   have hr:zl L (ay x)=true:=by
    unfold zl;rw[List.any_eq_true];refine⟨x,hL,?_⟩;rw[Bool.and_eq_true,decide_eq_true_eq];exact⟨(VI T hx hx hlt).2 ⟨Int.le_refl _,Int.le_refl _⟩,rfl⟩
   rw[hw,if_neg ax,hr,if_pos rfl]
  rw[List.map_cons];unfold jL;rw[e,if_pos rfl];refine Qb T hS (fun y hy=>h y (List.mem_cons_of_mem _ hy)) s2 fun b hb=>?_
  injection hb with hb
  subst hb;exact⟨hx.2,fun y hy=>s1 y hy⟩
def qjL{ρ:Rl->Int}{S:Rl->Prop}(hS:∀x,S x->∃q,x=rl q)(T:dZ S ρ){a b:List PU}(sa:ou ρ a)(sb:ou ρ b)(ea:Ends S a)(eb:Ends S b)(hne:ag a b≠[])
 (hok:dO (fH ((ag a b).map ay))=true):qF a b ((ag a b).map ay) (fH ((ag a b).map ay))=0:=by
 have hpf:=ig T sa sb ea eb;have hps:=zo T ea eb;have hcert:jL (l9 (ag a b)) none ((ag a b).map ay)=0:=by
  refine Qb T (fun x hx=>by obtain⟨q,e⟩:=hS x hx;rw[e];exact CO q) (fun x hx=>?_) (by rw[hpf];exact(pY T sb eb sa ea).1) fun b hb=>OU
  have hx':=hx;rw[hpf] at hx';obtain⟨h1,h2⟩:=hps x hx';refine⟨hx,h1,h2,?_,?_⟩
  ·obtain⟨q,e⟩:=hS _ h1.1;unfold ay;dsimp only;rw[e,uQ];exact CO _
  ·obtain⟨q,e⟩:=hS _ h1.2;unfold ay;dsimp only;rw[e,uQ];exact CO _
 unfold qF;have h0:¬(ag a b).isEmpty=true:=fun h=>hne (List.isEmpty_iff.1 h)
 have hm:((ag a b).map ay).map (·.i)=(ag a b).map (·.1):=(by rw[List.map_map];rfl);rw[if_neg h0,hcert,if_neg ax,hm,if_neg (fun h=>h rfl),hok,if_neg ax,if_neg (fun h=>h rfl)]
end Go.Via
namespace Go.Via
open Go
def jK(a:Rat)(u:Int)(r:Rat):Int:=if dD a=0 then u*dD r else if u*dD r=0∨dD a=u*dD r then dD a else dD a*mP (a*a) r
def OC(a:Rat)(u:Int)(r:Rat)(v:Int)(s:Rat):Int:=
 if jK a u r≠v*dD s∨jK a u r=0 then(if v*dD s<jK a u r then 1 else jK a u r-v*dD s)
 else jK a u r*jK (a*a+r-s) (u*dD a) (4*(a*a*r))
def ni(x:Rl):Int:=if x.n=true then-1 else 1
def qfp(x y:Rl):Int:=if OC (x.p-y.p) (ni x) x.r (ni y) y.r<0 then-1 else if 0<OC (x.p-y.p) (ni x) x.r (ni y) y.r then 1 else 0
theorem Gl(x:Rl):dD (jI x)=ni x:=Rw x
def qjM{a b r:Rat}(hb:b*b=1):jK a (dD b) r=pF a b r:=by
 unfold jK pF;rw[hb];have e1:(1:Rat)*r=r:=dY
 rw[e1]
 by_cases h:dD a=0
 ·rw[if_pos h]
  by_cases h2:dD b*dD r=0
  ·rw[if_pos (.inl h2),h2,h]
  ·rw[if_neg (fun e=>e.elim h2 fun e=>h2 (by rw[<-e,h])),if_pos h]
 ·rw[if_neg h]
  by_cases h2:dD b*dD r=0∨dD a=dD b*dD r
  ·rw[if_pos h2,if_pos h2]
  ·rw[if_neg h2,if_neg h2,if_neg h]
theorem CP(a b:Rat):dD (a*b)=dD a*dD b:=by
 rcases dV a with⟨h,e⟩|⟨h,e⟩|⟨h,e⟩<;>rcases dV b with⟨h',e'⟩|⟨h',e'⟩|⟨h',e'⟩<;>rw[e,e']
 ·rw[Rq (Rat.mul_pos h h')];rfl
 ·rw[Rt (by have:=Rat.mul_pos h (show 0< -b by grind);grind)];rfl
 ·rw[h',Rat.mul_zero];rfl
 ·rw[Rt (by have:=Rat.mul_pos (show 0< -a by grind) h';grind)];rfl
 ·rw[Rq (by have:=Rat.mul_pos (show 0< -a by grind) (show 0< -b by grind);grind)];rfl
 ·rw[h',Rat.mul_zero];rfl
 ·rw[h,Rat.zero_mul];rfl
 ·rw[h,Rat.zero_mul];rfl
 ·rw[h,Rat.zero_mul];rfl
def qcp{A a b r:Rat}(hb:b*b=1):jK A (dD b*dD a) (4*(a*a*r))=pF A (2*(a*b)) r:=by
 have e0:dD (4*(a*a*r))=dD a*dD a*dD r:=(by rw[CP,CP,CP];show 1*_=_;rw[Int.one_mul]);have e1:dD (2*(a*b))=dD a*dD b:=(by rw[CP,CP];show 1*_=_;rw[Int.one_mul]);have e2:2*(a*b)*(2*(a*b))*r=4*(a*a*r):=dY;have e3:dD b*dD a*(dD a*dD a*dD r)=dD a*dD b*dD r:=by
  rcases dV a with⟨_,e⟩|⟨_,e⟩|⟨_,e⟩<;>rw[e]<;>simp<;>omega
 unfold jK pF;rw[e0,e1,e2,e3]
 by_cases h:dD A=0
 ·rw[if_pos h]
  by_cases h2:dD a*dD b*dD r=0
  ·rw[if_pos (.inl h2),h2,h]
  ·rw[if_neg (fun e=>e.elim h2 fun e=>h2 (by rw[<-e,h])),if_pos h]
 ·rw[if_neg h]
  by_cases h2:dD a*dD b*dD r=0∨dD A=dD a*dD b*dD r
  ·rw[if_pos h2,if_pos h2]
  ·rw[if_neg h2,if_neg h2,if_neg h]
def CQ(a b r:Rat):pF a b r= -1∨pF a b r=0∨pF a b r=1:=by
 have hs:∀q,dD q= -1∨dD q=0∨dD q=1:=fun q=>qeu
 have hc:∀p q,mP p q= -1∨mP p q=0∨mP p q=1:=fun p q=>qev
 have hm:∀{a b:Int},(a= -1∨a=0∨a=1)->(b= -1∨b=0∨b=1)->(a*b= -1∨a*b=0∨a*b=1):=fun h h'=>by
  rcases h with h|h|h<;>rcases h' with h'|h'|h'<;>simp[h,h']
 unfold pF
 split
 ·exact hs _
 ·split
  ·exact hm (hs _) (hs _)
  ·exact hm (hs _) (hc _ _)
def qjN(x y:Rl):qfp x y=aV x y:=by
 have h1:jK (x.p-y.p) (ni x) x.r=pF (x.p-y.p) (jI x) x.r:=(by rw[<-Gl];exact qjM (Hz x));have h2:jK ((x.p-y.p)*(x.p-y.p)+x.r-y.r) (ni x*dD (x.p-y.p)) (4*((x.p-y.p)*(x.p-y.p)*x.r))=pF ((x.p-y.p)*(x.p-y.p)+x.r-y.r) (2*((x.p-y.p)*jI x)) x.r:=by
  rw[<-Gl];exact qcp (Hz x)
 have h3:dD (-jI y)*dD y.r= -(ni y*dD y.r):=(by rw[FQ,Gl,Int.neg_mul]);have r1:=CQ (x.p-y.p) (jI x) x.r;have r2:=CQ ((x.p-y.p)*(x.p-y.p)+x.r-y.r) (2*((x.p-y.p)*jI x)) x.r;have r3:ni y*dD y.r= -1∨ni y*dD y.r=0∨ni y*dD y.r=1:=by
  unfold ni;rcases dV y.r with⟨_,e⟩|⟨_,e⟩|⟨_,e⟩<;>rw[e]<;>split<;>simp
 unfold qfp OC aV;rw[h1,h2,h3]
 generalize pF (x.p-y.p) (jI x) x.r=m at*
 generalize pF ((x.p-y.p)*(x.p-y.p)+x.r-y.r) (2*((x.p-y.p)*jI x)) x.r=k at*
 generalize ni y*dD y.r=n at*
 rcases r1 with rfl|rfl|rfl<;>rcases r3 with rfl|rfl|rfl<;>rcases r2 with rfl|rfl|rfl<;>decide
theorem Z8(q:Rat):qE q=true↔∃y:Rat,q=y*y:=by
 constructor
 ·intro h;unfold qE at h;simp only[Bool.and_eq_true,decide_eq_true_eq,beq_iff_eq] at h;obtain⟨⟨h0,h1⟩,h2⟩:=h;refine⟨fQ q,?_⟩;have hd:bV q.den≠0:=fun e=>by rw[e] at h2;exact q.den_nz h2.symm
  unfold fQ;rw[Rat.divInt_mul_divInt];have e1:((bV q.num.natAbs:Nat):Int)*((bV q.num.natAbs:Nat):Int)=q.num:=by
   rw[<-Int.natCast_mul,h1];omega
  have e2:((bV q.den:Nat):Int)*((bV q.den:Nat):Int)=(q.den:Int):=by
   rw[<-Int.natCast_mul,h2]
  rw[e1,e2];exact(Rat.num_divInt_den q).symm
 ·rintro⟨y,rfl⟩;exact XH y
theorem Z9{x r:Rat}(h:x≠0):qE (x*x*r)=qE r:=by
 rw[Bool.eq_iff_iff,Z8,Z8]
 constructor
 ·rintro⟨y,e⟩;refine⟨y/x,?_⟩;have:r=x*x*r/(x*x):=by
   rw[Rat.mul_comm,Rat.mul_div_cancel];intro e0;rcases Rat.mul_eq_zero.1 e0 with e|e<;>exact h e
  rw[this,e]
  grind
 ·rintro⟨y,rfl⟩;exact⟨x*y,dY⟩
def ofM(p r:Rat)(n:Bool):Rl:=if qE r=true then rl (p+if n=true then-fQ r else fQ r) else⟨p,r,n⟩
def lQ(f:Qd)(t:Rl):Qd:=if dD t.r=0 then⟨sG f t.p,0,0⟩ else⟨f.c0+f.c2*(t.r-t.p*t.p),f.c1+2*(t.p*f.c2),0⟩
def atM(f:Qd)(t:Rl):Rl:=ofM ((lQ f t).c0+(lQ f t).c1*t.p) ((lQ f t).c1*(lQ f t).c1*t.r) (t.n !=decide (dD (lQ f t).c1<0))
theorem qnQ{f:Qd}{t:Rl}(h:t.ok):atM f t=Be f t:=by
 unfold atM
 by_cases h0:t.r=0
 ·have ht:=h.rat h0;rw[ht,uQ];have e0:lQ f (rl t.p)=⟨sG f t.p,0,0⟩:=by unfold lQ rl;rw[if_pos Bc]
  rw[e0];unfold ofM rl;dsimp only;have e:(0:Rat)*0*0=0:=dY
  rw[e,FY,if_pos rfl,Ej]
  congr 1
  rw[Rat.zero_mul,Rat.add_zero]
  split<;>grind
 ·have hs:dD t.r≠0:=fun e=>by rcases dV t.r with⟨_,e'⟩|⟨_,e'⟩|⟨e',_⟩<;>simp_all
  have hq:qE t.r=false:=Vf
  have e1:f.c1+2*(t.p*f.c2)=uz f t.p:=(by unfold uz;grind);unfold lQ;rw[if_neg hs];dsimp only;rw[e1,Mc h h0];have e2:f.c0+f.c2*(t.r-t.p*t.p)+uz f t.p*t.p=sG f t.p+f.c2*t.r:=(by unfold sG uz;grind);rw[e2];unfold ofM
  by_cases hz:uz f t.p=0
  ·rw[hz];have e:(0:Rat)*0*t.r=0:=dY
   have e3:jI t*0=0:=dY;rw[e,e3,FY,if_pos rfl,Ej,Bc];unfold rl
   congr 1
   split<;>grind
  ·rw[Z9 hz,hq,if_neg ax,CP,Gl]
   congr 1
   unfold ni;rcases dV (uz f t.p) with⟨_,e⟩|⟨_,e⟩|⟨e,_⟩
   ·rw[e];cases t.n<;>decide
   ·rw[e];cases t.n<;>decide
   ·exact absurd e hz
end Go.Via
namespace Go.Via
open Go
theorem VK{a b:Int}:yP a b<=0↔a<=b:=by unfold yP;split<;>(try split)<;>omega
def VL{S1 S2:Rl->Prop}{r1 r2:Rl->Int}(T1:dZ S1 r1)(T2:dZ S2 r2){a b:pU}(a1:S1 a.1)(b1:S1 b.1)(a2:S2 a.1)(b2:S2 b.1):aK r1 a<=aK r1 b↔aK r2 a<=aK r2 b:=by
 have e1:=FV T1 a1 b1;have e2:=FV T2 a2 b2;rw[<-VK,<-e1,e2,VK]
def VM{S1 S2:Rl->Prop}{r1 r2:Rl->Int}(T1:dZ S1 r1)(T2:dZ S2 r2){l:List PU}(e1:Ends S1 l)(e2:Ends S2 l)(h:ou r1 l):ou r2 l:=by
 refine⟨?_,fun x hx=>?_⟩
 ·refine List.Pairwise.imp_of_mem (fun {x y} hx hy hh=>?_) h.1;exact(VL T1 T2 (a:=x.i.e) (b:=y.i.b) (e1 x hx).2 (e1 y hy).1 (e2 x hx).2 (e2 y hy).1).1 hh
 ·have h0:=h.2 x hx;have:=(VL T1 T2 (a:=x.i.e) (b:=x.i.b) (e1 x hx).2 (e1 x hx).1 (e2 x hx).2 (e2 x hx).1);omega
def Bi(l:List PU):List Rl:=l.flatMap fun u=>[u.i.f,u.i.t]
theorem CS{l:List PU}{u:PU}(h:u∈l):u.i.f∈Bi l∧u.i.t∈Bi l:=⟨List.mem_flatMap.2 ⟨u,h,bz⟩,List.mem_flatMap.2 ⟨u,h,bz⟩⟩
def Qc{l:List PU}(h:Ends gq l){x:Rl}(hx:x∈Bi l):gq x:=by
 obtain⟨u,hu,he⟩:=List.mem_flatMap.1 hx;simp at he;rcases he with rfl|rfl
 ·exact(h u hu).1
 ·exact(h u hu).2
structure Two(a b:List PU)(m:Rl)(S:Rl->Prop)(ρ:Rl->Int):Prop where
 T:dZ S ρ
 ea:Ends S a
 eb:Ends S b
 sa:ou ρ a
 sb:ou ρ b
 sm:S m
 only:∀x,S x->gq x∨x=m
def XW{a b:List PU}{m:Rl}(hm:m.ok)(sa:ou iD a)(sb:ou iD b)(ea:Ends gq a)(eb:Ends gq b):∃S ρ,Two a b m S ρ:=by
 have O:=qlc hm;have hE:∀x∈m::(Bi a++Bi b),gq x∨x=m:=fun x hx=>by
  rcases List.mem_cons.1 hx with e|e
  ·exact .inr e
  ·rcases List.mem_append.1 e with e|e
   ·exact .inl (Qc ea e)
   ·exact .inl (Qc eb e)
 have T:=qju O (E:=m::(Bi a++Bi b)) fun x hx=>by
  rcases hE x hx with⟨z,hz⟩|e
  ·exact .inl ⟨_,hz⟩
  ·exact .inr e
 have ea':Ends (fun x=>x∈m::(Bi a++Bi b)) a:=fun u hu=>⟨by simp[(CS hu).1],by simp[(CS hu).2]⟩
 have eb':Ends (fun x=>x∈m::(Bi a++Bi b)) b:=fun u hu=>⟨by simp[(CS hu).1],by simp[(CS hu).2]⟩
 exact⟨_,_,⟨T,ea',eb',VM ng T ea ea' sa,VM ng T eb eb' sb,List.mem_cons_self ..,hE⟩⟩
def CZ(i:Iv)(t:Rl):Bool:=(decide (aV i.f t<0)||decide (aV i.f t=0)&& !i.fo)&&(decide (aV t i.t<0)||decide (aV t i.t=0)&& !i.tp)
def JX{S:Rl->Prop}{ρ:Rl->Int}(T:dZ S ρ){i:Iv}{t:Rl}(h:S i.f∧S i.t)(ht:S t):CZ i t=true↔aK ρ i.b<=2*ρ t∧2*ρ t<aK ρ i.e:=by
 unfold CZ;have h1:=T.lt h.1 ht;have h2:=T.zero h.1 ht;have h3:=T.lt ht h.2;have h4:=T.zero ht h.2;simp only[Bool.or_eq_true,Bool.and_eq_true,Bool.not_eq_true',decide_eq_true_eq,h1,h2,h3,h4];unfold aK Iv.b Iv.e;dsimp only;cases i.fo<;>cases i.tp<;>simp<;>omega
def zF(a b:List PU)(t:Rl):Option Rl:=a.findSome? fun x=>b.findSome? fun y=>if(CZ x.i t&&CZ y.i t)=true then some (Be (d2 x.f y.f) t) else none
def MN{a b:List PU}{t d:Rl}(h:zF a b t=some d):∃x∈a,∃y∈b,CZ x.i t=true∧CZ y.i t=true∧d=Be (d2 x.f y.f) t:=by
 obtain⟨x,hx,h1⟩:=List.exists_of_findSome?_eq_some h;obtain⟨y,hy,h2⟩:=List.exists_of_findSome?_eq_some h1
 split at h2
 ·rename_i hc
  rw[Bool.and_eq_true] at hc;cases h2;exact⟨x,hx,y,hy,hc.1,hc.2,rfl⟩
 ·cases h2
def qnR{S:Rl->Prop}{ρ:Rl->Int}(hS:∀x,S x->MK x)(T:dZ S ρ){a b:List PU}(ea:Ends S a)(eb:Ends S b)(sa:ou ρ a)(sb:ou ρ b):qck ((ag a b).map ay):=fun p hp=>by
 obtain⟨z,hz,rfl⟩:=List.mem_map.1 hp;rw[ig T sa sb ea eb] at hz;obtain⟨x,hx,y,hy,hm⟩:=(pY T sb eb sa ea).2 z hz;obtain⟨_,e2,s1,s2,_⟩:=pX T (ea x hx) (eb y hy) hm;obtain⟨u,hu⟩:=hS _ s1;obtain⟨v,hv⟩:=hS _ s2;refine⟨sG z.2 u,sG z.2 v,?_,?_,?_,?_⟩
 ·rw[e2];exact P6 _ _ _
 ·rw[e2];exact P6 _ _ _
 ·unfold ay;rw[hu,uQ]
 ·unfold ay;rw[hv,uQ]
def XX{a b:List PU}(sa:ou iD a)(sb:ou iD b)(ea:Ends gq a)(eb:Ends gq b):qck ((ag a b).map ay):=
 qnR (fun x ⟨z,hz⟩=>⟨_,hz⟩) ng ea eb sa sb
def VN:∀{l:List lM} {q:Rat},qck l->∃M,l.foldl (fun o x=>fU o (fU x.a x.b)) (rl q)=rl M∧q<=M∧∀p∈l,∀u v,p.a=rl u->p.b=rl v->u<=M∧v<=M
 |[],q,_=>⟨q,rfl,Rat.le_refl,bz⟩
 |p::l,q,h=>by
  obtain⟨u,v,hu,hv,ea,eb⟩:=h p (List.mem_cons_self ..);obtain⟨M,h1,h2,h3⟩:=VN (l:=l) (q:=VE q (VE u v)) fun x hx=>h x (List.mem_cons_of_mem _ hx)
  have hq:q<=VE q (VE u v)∧u<=VE q (VE u v)∧v<=VE q (VE u v):=(by unfold VE;grind);refine⟨M,?_,Rat.le_trans hq.1 h2,fun x hx u' v' eu ev=>?_⟩
  ·rw[List.foldl_cons,ea,eb,rG,rG];exact h1
  ·rcases List.mem_cons.1 hx with rfl|hx
   ·rw[ea] at eu;rw[eb] at ev;have e1:u=u':=congrArg Rl.p eu;have e2:v=v':=congrArg Rl.p ev;rw[<-e1,<-e2];exact⟨Rat.le_trans hq.2.1 h2,Rat.le_trans hq.2.2 h2⟩
   ·exact h3 x hx u' v' eu ev
def VO{l:List lM}(h:qck l)(hne:l≠[]):∃M,fH l=rl M∧∀p∈l,∀u v,p.a=rl u->p.b=rl v->u<=M∧v<=M:=by
 cases l with
 |nil=>exact absurd rfl hne
 |cons p l=>
  obtain⟨u,v,hu,hv,ea,eb⟩:=h p (List.mem_cons_self ..);obtain⟨M,h1,h2,h3⟩:=VN (l:=p::l) (q:=u) h;exact⟨M,by show List.foldl _ p.a (p::l)=_;rw[ea];exact h1,h3⟩
end Go.Via
namespace Go.Via
open Go
theorem MO{a b:List PU}(sa:ou iD a)(sb:ou iD b)(ea:Ends gq a)(eb:Ends gq b)(hne:ag a b≠[]):bG ((ag a b).map ay)=fH ((ag a b).map ay):=
 (XO (XX sa sb ea eb) Uk).symm
theorem VP{a b:List PU}(sa:ou iD a)(sb:ou iD b)(ea:Ends gq a)(eb:Ends gq b):ag a b=ag b a:=XP ng sa sb ea eb
def qfq{a b:List PU}(sa:ou iD a)(sb:ou iD b)(ea:Ends gq a)(eb:Ends gq b)(hne:ag a b≠[]):∃M,fH ((ag a b).map ay)=rl M:=by
 obtain⟨M,h,_⟩:=VO (XX sa sb ea eb) Uk;exact⟨M,h⟩
def qfr{a b:List PU}(sa:ou iD a)(sb:ou iD b)(ea:Ends gq a)(eb:Ends gq b)(hne:ag a b≠[]):qF a b ((ag a b).map ay) (fH ((ag a b).map ay))=0:=by
 obtain⟨M,h⟩:=qfq sa sb ea eb hne;exact qjL (fun x ⟨z,hz⟩=>⟨_,hz⟩) ng sa sb ea eb hne (by rw[h];exact CO M)
def VQ{S:Rl->Prop}{ρ:Rl->Int}(T:dZ S ρ)(hok:∀x,S x->dO x=true)(hat:∀f x,S x->dO (Be f x)=true){L:List (Iv×Qd)}:∀{l:List (Iv×Qd)} {before:Option Iv},
 (∀z∈l,(S z.1.f∧S z.1.t)∧aK ρ z.1.b<aK ρ z.1.e∧∃x∈L,ay (z.1,x.2)=ay z∧(S x.1.f∧S x.1.t)∧aK ρ x.1.b<=aK ρ z.1.b∧aK ρ z.1.e<=aK ρ x.1.e)->
 l.Pairwise (fun x y=>aK ρ x.1.e<=aK ρ y.1.b)->(∀b,before=some b->S b.t∧∀x∈l,aK ρ b.e<=aK ρ x.1.b)->jL (l9 L) before (l.map ay)=0
 |[],_,_,_,_=>rfl
 |z::l,before,h,hs,hb=>by
  obtain⟨hz,hlt,x,hL,hf,hx,k1,k2⟩:=h z (List.mem_cons_self ..);obtain⟨s1,s2⟩:=List.pairwise_cons.1 hs;have e:l9 L before (ay z)=0:=by
   have ei:(ay z).i=z.1:=rfl;have ha:dO (ay z).a=true:=hat _ _ hz.1;have hb':dO (ay z).b=true:=hat _ _ hz.2;unfold l9;rw[ei,hok _ hz.1,hok _ hz.2,if_neg ax,(sO T hz.1 hz.2).2 hlt,if_neg ax,ha,hb',if_neg ax];have hw:xH before z.1=false:=by
    cases before with
    |none=>rfl
    |some b=>
     have:=hb b rfl;unfold xH;dsimp only;rw[(MM T this.1 hz.1).2 (this.2 z (List.mem_cons_self ..))];rfl
   have hr:zl L (ay z)=true:=by
    unfold zl;rw[List.any_eq_true];refine⟨x,hL,?_⟩;rw[Bool.and_eq_true,decide_eq_true_eq];exact⟨(VI T hx hz hlt).2 ⟨k1,k2⟩,hf⟩
   rw[hw,if_neg ax,hr,if_pos rfl]
  rw[List.map_cons];unfold jL;rw[e,if_pos rfl];refine VQ T hok hat (fun y hy=>h y (List.mem_cons_of_mem _ hy)) s2 fun b hb=>?_
  injection hb with hb
  subst hb;exact⟨hz.2,fun y hy=>s1 y hy⟩
def qfs{f:Qd}{x:Rl}(h:x.ok):(Be f x).ok:=by
 by_cases h0:x.r=0
 ·rw[h.rat h0,uQ];exact PQ _
 ·rw[Mc h h0]
  by_cases hs:uz f x.p=0
  ·left
   rw[hs];refine⟨by show(0:Rat)*0*x.r=0;grind,?_⟩;have e:jI x*0=0:=dY
   show decide (dD (jI x*0)<0)=false;rw[e];rfl
  ·right
   have hr:0<x.r:=by rcases h with h|h;exact absurd h.1 h0;exact h.1
   have hq:qE x.r=false:=Vf
   refine⟨?_,by show qE (uz f x.p*uz f x.p*x.r)=false;rw[Z9 hs];exact hq⟩;show 0<uz f x.p*uz f x.p*x.r;have h1:=pG (uz f x.p);have h2:uz f x.p*uz f x.p≠0:=fun e=>by rcases Rat.mul_eq_zero.1 e with e|e<;>exact hs e
   exact Rat.mul_pos dY hr
def Gn(m:Rl)(z:Iv×Qd):List (Iv×Qd):=if(decide (aV z.1.f m<0)&&decide (aV m z.1.t<0))=true then[(⟨z.1.f,m,z.1.fo,false⟩,z.2),(⟨m,z.1.t,true,z.1.tp⟩,z.2)] else[z]
def C9(m:Rl)(l:List (Iv×Qd)):List (Iv×Qd):=l.flatMap (Gn m)
def qX{S:Rl->Prop}{ρ:Rl->Int}(T:dZ S ρ){m:Rl}(hm:S m){z:Iv×Qd}(hz:S z.1.f∧S z.1.t)(hlt:aK ρ z.1.b<aK ρ z.1.e):
 (∀w∈Gn m z,(S w.1.f∧S w.1.t)∧aK ρ w.1.b<aK ρ w.1.e∧w.2=z.2∧aK ρ z.1.b<=aK ρ w.1.b∧aK ρ w.1.e<=aK ρ z.1.e)∧
 (Gn m z).Pairwise (fun x y=>aK ρ x.1.e<=aK ρ y.1.b)∧(∀k,memB ρ ((Gn m z).map (·.1)) k=memB ρ [z.1] k)∧
 (∃w∈Gn m z,(ay w).a=(ay z).a)∧(∃w∈Gn m z,(ay w).b=(ay z).b):=by
 unfold Gn
 split
 ·rename_i h
  rw[Bool.and_eq_true,decide_eq_true_eq,decide_eq_true_eq,T.lt hz.1 hm,T.lt hm hz.2] at h;have q1:=nZ ρ z.1.b;have q2:=nZ ρ z.1.e;have f1:z.1.b.1=z.1.f:=rfl;have f2:z.1.e.1=z.1.t:=rfl;rw[f1] at q1;rw[f2] at q2;have e1:aK ρ (Iv.b ⟨z.1.f,m,z.1.fo,false⟩)=aK ρ z.1.b:=rfl;have e2:aK ρ (Iv.e ⟨z.1.f,m,z.1.fo,false⟩)=2*ρ m+1:=rfl;have e3:aK ρ (Iv.b ⟨m,z.1.t,true,z.1.tp⟩)=2*ρ m+1:=rfl;have e4:aK ρ (Iv.e ⟨m,z.1.t,true,z.1.tp⟩)=aK ρ z.1.e:=rfl;refine⟨fun w hw=>?_,?_,fun k=>?_,⟨_,List.mem_cons_self ..,rfl⟩,⟨_,List.mem_cons_of_mem _ (List.mem_cons_self ..),rfl⟩⟩
  ·simp at hw;rcases hw with rfl|rfl
   ·refine⟨⟨hz.1,hm⟩,?_,rfl,?_,?_⟩<;>dsimp only<;>(try rw[e1])<;>(try rw[e2])<;>omega
   ·refine⟨⟨hm,hz.2⟩,?_,rfl,?_,?_⟩<;>dsimp only<;>(try rw[e3])<;>(try rw[e4])<;>omega
  ·refine List.pairwise_cons.2 ⟨fun y hy=>?_,List.pairwise_singleton ..⟩;rw[List.mem_singleton] at hy;rw[hy];dsimp only;rw[e2,e3];exact Int.le_refl _
  ·unfold memB;simp only[List.map_cons,List.map_nil,List.any_cons,List.any_nil,Bool.or_false];rw[e1,e2,e3,e4];rw[Bool.eq_iff_iff];simp only[Bool.or_eq_true,Bool.and_eq_true,decide_eq_true_eq];omega
 ·refine⟨fun w hw=>?_,List.pairwise_singleton ..,fun k=>rfl,⟨_,List.mem_cons_self ..,rfl⟩,⟨_,List.mem_cons_self ..,rfl⟩⟩
  rw[List.mem_singleton] at hw;rw[hw];exact⟨hz,hlt,rfl,Int.le_refl _,Int.le_refl _⟩
end Go.Via
namespace Go.Via
open Go
def bP(a b:List PU)(m:Rl)(l:List lM):List lM:=l.flatMap fun p=>match zF a b m with
 |some d=>if(decide (aV p.i.f m<0)&&decide (aV m p.i.t<0))=true then[⟨⟨p.i.f,m,p.i.fo,false⟩,p.a,d⟩,⟨⟨m,p.i.t,true,p.i.tp⟩,d,p.b⟩] else[p]
 |none=>[p]
def H7{S:Rl->Prop}{ρ:Rl->Int}(T:dZ S ρ){t:Rl}(ht:S t):∀{l:List PU},ou ρ l->Ends S l->∀{x y:PU},x∈l->y∈l->CZ x.i t=true->CZ y.i t=true->x=y
 |[],_,_,x,y,hx,_,_,_=>by cases hx
 |u::l,h,he,x,y,hx,hy,h1,h2=>by
  have k1:=(JX T (he x hx) ht).1 h1;have k2:=(JX T (he y hy) ht).1 h2;obtain⟨s1,s2⟩:=List.pairwise_cons.1 h.1;rcases List.mem_cons.1 hx with rfl|hx'<;>rcases List.mem_cons.1 hy with rfl|hy'
  ·rfl
  ·have:=s1 y hy';omega
  ·have:=s1 x hx';omega
  ·exact H7 T ht ⟨s2,fun z hz=>h.2 z (List.mem_cons_of_mem _ hz)⟩ (fun z hz=>he z (List.mem_cons_of_mem _ hz)) hx' hy' h1 h2
def qjO{a b:List PU}{t:Rl}{x y:PU}(hx:x∈a)(hy:y∈b)(h1:CZ x.i t=true)(h2:CZ y.i t=true):∃d,zF a b t=some d:=by
 cases h:zF a b t with
 |some d=>exact⟨d,rfl⟩
 |none=>
  exfalso
  have e1:=List.findSome?_eq_none_iff.1 h x hx;have e2:=List.findSome?_eq_none_iff.1 e1 y hy;rw[h1,h2] at e2;cases e2
theorem XY{a b:List PU}{m:Rl}{S:Rl->Prop}{ρ:Rl->Int}(W:Two a b m S ρ){z:Iv×Qd}(hz:z∈ag a b)(hc:(decide (aV z.1.f m<0)&&decide (aV m z.1.t<0))=true):zF a b m=some (Be z.2 m):=by
 rw[ig W.T W.sa W.sb W.ea W.eb] at hz;obtain⟨x,hx,y,hy,hmt⟩:=(pY W.T W.sb W.eb W.sa W.ea).2 z hz;obtain⟨e1,e2,s1,s2,hlt,b1,b2,t1,t2⟩:=pX W.T (W.ea x hx) (W.eb y hy) hmt;rw[Bool.and_eq_true,decide_eq_true_eq,decide_eq_true_eq,W.T.lt s1 W.sm,W.T.lt W.sm s2] at hc;have q1:=(nZ ρ z.1.b).2;have q2:=(nZ ρ z.1.e).1;have f1:z.1.b.1=z.1.f:=rfl;have f2:z.1.e.1=z.1.t:=rfl;rw[f1] at q1;rw[f2] at q2;have i1:CZ x.i m=true:=(JX W.T (W.ea x hx) W.sm).2 ae;have i2:CZ y.i m=true:=(JX W.T (W.eb y hy) W.sm).2 ae;obtain⟨d,hd⟩:=qjO hx hy i1 i2;obtain⟨x',hx',y',hy',j1,j2,rfl⟩:=MN hd;obtain rfl:=H7 W.T W.sm W.sa W.ea hx hx' i1 j1;obtain rfl:=H7 W.T W.sm W.sb W.eb hy hy' i2 j2;rw[hd,<-e2]
theorem qaa{a b:List PU}{m:Rl}(hm:m.ok)(sa:ou iD a)(sb:ou iD b)(ea:Ends gq a)(eb:Ends gq b):bP a b m ((ag a b).map ay)=(C9 m (ag a b)).map ay:=by
 obtain⟨S,ρ,W⟩:=XW hm sa sb ea eb;unfold bP C9;rw[List.map_flatMap,List.flatMap_map];have hfl:∀(l:List (Iv×Qd)) (f g:Iv×Qd->List lM),(∀z∈l,f z=g z)->l.flatMap f=l.flatMap g:=fun l f g h=>by
  induction l with
  |nil=>rfl
  |cons z l ih=>rw[List.flatMap_cons,List.flatMap_cons,h z (List.mem_cons_self ..),ih fun y hy=>h y (List.mem_cons_of_mem _ hy)]
 refine hfl _ _ _ fun z hz=>?_
 have ei:(ay z).i=z.1:=rfl;unfold Gn;rw[ei]
 by_cases hc:(decide (aV z.1.f m<0)&&decide (aV m z.1.t<0))=true
 ·rw[if_pos hc,XY W hz hc];dsimp only;rw[if_pos hc]
  rfl
 ·rw[if_neg hc];cases zF a b m with
  |none=>rfl
  |some d=>dsimp only;rw[if_neg hc];rfl
def JY(x y:Rl):fU x y=x∨fU x y=y:=by unfold fU;split<;>simp
def qft{d:Rl}(hd:d.ok){M:Rat}:∀{l:List lM} {o:Rl},((MK o∨o=d)∧aV o (rl M)<=0)->(∀p∈l,((MK p.a∨p.a=d)∧aV p.a (rl M)<=0)∧(MK p.b∨p.b=d)∧aV p.b (rl M)<=0)->
 (o=rl M∨∃p∈l,p.a=rl M∨p.b=rl M)->l.foldl (fun o x=>fU o (fU x.a x.b)) o=rl M:=by
 have O:=qlc hd;have top:∀{v:Rl},((MK v∨v=d)∧aV v (rl M)<=0)->fU v (rl M)=rl M∧fU (rl M) v=rl M:=fun {v} h=>by
  have hs:=O.swap (x:=rl M) (y:=v) (.inl ⟨_,rfl⟩) h.1
  constructor
  ·unfold fU
   split
   ·rfl
   ·exact O.eq0 h.1 (.inl ⟨_,rfl⟩) ae
  ·unfold fU;rw[if_neg ae]
 have keep:∀{x y:Rl},((MK x∨x=d)∧aV x (rl M)<=0)->((MK y∨y=d)∧aV y (rl M)<=0)->((MK (fU x y)∨fU x y=d)∧aV (fU x y) (rl M)<=0):=fun {x y} h1 h2=>by
  rcases JY x y with e|e<;>rw[e]<;>assumption
 intro l
 induction l with
 |nil=>intro o _ _ h;rcases h with h|⟨p,hp,_⟩;exact h;cases hp
 |cons p l ih=>
  intro o ho hl h;obtain⟨ha,hb⟩:=hl p (List.mem_cons_self ..);rw[List.foldl_cons];refine ih (keep ho (keep ha hb)) (fun q hq=>hl q (List.mem_cons_of_mem _ hq)) ?_;rcases h with rfl|⟨q,hq,he⟩
  ·exact .inl (top (keep ha hb)).2
  ·rcases List.mem_cons.1 hq with rfl|hq
   ·left
    rcases he with e|e
    ·rw[e,(top hb).2];exact(top ho).1
    ·rw[e,(top ha).1];exact(top ho).1
   ·exact .inr ⟨q,hq,he⟩
def qcq{d:Rl}(hd:d.ok){M:Rat}{l:List lM}(h:∀p∈l,((MK p.a∨p.a=d)∧aV p.a (rl M)<=0)∧(MK p.b∨p.b=d)∧aV p.b (rl M)<=0)(hM:∃p∈l,p.a=rl M∨p.b=rl M):fH l=rl M:=by
 obtain⟨p,hp,he⟩:=hM;cases l with
 |nil=>cases hp
 |cons q l=>exact qft hd (h q (List.mem_cons_self ..)).1 h (.inr ⟨p,hp,he⟩)
def Qe{l:List lM}(hne:l≠[]):∃p∈l,fH l=p.a∨fH l=p.b:=by
 have step:∀(l:List lM) (o:Rl),l.foldl (fun o x=>fU o (fU x.a x.b)) o=o∨∃p∈l,l.foldl (fun o x=>fU o (fU x.a x.b)) o=p.a∨l.foldl (fun o x=>fU o (fU x.a x.b)) o=p.b:=by
  intro l
  induction l with
  |nil=>intro o;exact .inl rfl
  |cons p l ih=>
   intro o;rw[List.foldl_cons];rcases ih (fU o (fU p.a p.b)) with e|⟨q,hq,e⟩
   ·rw[e];rcases JY o (fU p.a p.b) with e1|e1
    ·exact .inl e1
    ·right
     refine⟨p,List.mem_cons_self ..,?_⟩;rw[e1];exact JY _ _
   ·exact .inr ⟨q,List.mem_cons_of_mem _ hq,e⟩
 cases l with
 |nil=>exact absurd rfl hne
 |cons p l=>
  rcases step (p::l) p.a with e|h
  ·exact⟨p,List.mem_cons_self ..,.inl e⟩
  ·exact h
def I4{a b:List PU}{m:Rl}(hm:m.ok)(sa:ou iD a)(sb:ou iD b)(ea:Ends gq a)(eb:Ends gq b)(hne:ag a b≠[]):
 ∃M,fH ((ag a b).map ay)=rl M∧qF a b ((C9 m (ag a b)).map ay) (rl M)=0∧qF a b ((C9 m (ag a b)).map ay) (rl (M+1))=30:=by
 obtain⟨S,ρ,W⟩:=XW hm sa sb ea eb;have hpf:=ig W.T W.sa W.sb W.ea W.eb;have hps:=zo W.T W.ea W.eb;rw[<-hpf] at hps;have hsep:=(pY W.T W.sb W.eb W.sa W.ea).1;rw[<-hpf] at hsep;obtain⟨M,hM,hle⟩:=VO (XX sa sb ea eb) Uk;have hSok:∀x,S x->x.ok:=fun x hx=>by
  rcases W.only x hx with⟨z,rfl⟩|rfl
  ·exact PQ _
  ·exact hm
 have hmem:∀w∈C9 m (ag a b),∃z∈ag a b,w∈Gn m z:=fun w hw=>List.mem_flatMap.1 hw
 have hcert:jL (l9 (ag a b)) none ((C9 m (ag a b)).map ay)=0:=by
  refine VQ W.T (fun x hx=>(wV x).2 (hSok x hx)) (fun f x hx=>(wV _).2 (qfs (hSok x hx))) (fun w hw=>?_) ?_ fun b hb=>OU
  ·obtain⟨z,hz,hw⟩:=hmem w hw;obtain⟨h1,h2⟩:=hps z hz;obtain⟨g1,g2,g3,g4,g5⟩:=(qX W.T W.sm h1 h2).1 w hw;exact⟨g1,g2,z,hz,by rw[<-g3],h1,g4,g5⟩
  ·clear hM hle hmem
   have:∀l:List (Iv×Qd),(∀z∈l,(S z.1.f∧S z.1.t)∧aK ρ z.1.b<aK ρ z.1.e)->l.Pairwise (fun x y=>aK ρ x.1.e<=aK ρ y.1.b)->(C9 m l).Pairwise (fun x y=>aK ρ x.1.e<=aK ρ y.1.b):=by
    intro l
    induction l with
    |nil=>intro _ _;exact List.Pairwise.nil
    |cons z l ih=>
     intro h hs;obtain⟨s1,s2⟩:=List.pairwise_cons.1 hs;show(Gn m z++C9 m l).Pairwise _;obtain⟨h1,h2⟩:=h z (List.mem_cons_self ..);have D:=qX W.T W.sm h1 h2;refine List.pairwise_append.2 ⟨D.2.1,ih (fun y hy=>h y (List.mem_cons_of_mem _ hy)) s2,fun x hx y hy=>?_⟩
     obtain⟨z',hz',hy⟩:=List.mem_flatMap.1 hy;have h':=h z' (List.mem_cons_of_mem _ hz');have d1:=(D.1 x hx).2.2.2.2;have d2:=((qX W.T W.sm h'.1 h'.2).1 y hy).2.2.2.1;have:=s1 z' hz';omega
   exact this _ hps hsep
 have hcov:ji (((C9 m (ag a b)).map ay).map (·.i))=ji ((ag a b).map (·.1)):=by
  have e:((C9 m (ag a b)).map ay).map (·.i)=(C9 m (ag a b)).map (·.1):=(by rw[List.map_map];rfl);rw[e];unfold ji;refine qfi W.T rfl rfl (fun i hi=>?_) Gj (fun i hi=>?_) Gj fun k=>?_
  ·obtain⟨w,hw,rfl⟩:=List.mem_map.1 hi;obtain⟨z,hz,hw⟩:=hmem w hw;obtain⟨h1,h2⟩:=hps z hz;exact((qX W.T W.sm h1 h2).1 w hw).1
  ·obtain⟨z,hz,rfl⟩:=List.mem_map.1 hi;exact(hps z hz).1
  ·congr 1
   have:∀l:List (Iv×Qd),(∀z∈l,(S z.1.f∧S z.1.t)∧aK ρ z.1.b<aK ρ z.1.e)->memB ρ ((C9 m l).map (·.1)) k=memB ρ (l.map (·.1)) k:=by
    intro l
    induction l with
    |nil=>intro _;rfl
    |cons z l ih=>
     intro h;obtain⟨h1,h2⟩:=h z (List.mem_cons_self ..);have D:=(qX W.T W.sm h1 h2).2.2.1 k;have ih:=ih fun y hy=>h y (List.mem_cons_of_mem _ hy)
     have e1:(C9 m (z::l)).map (·.1)=(Gn m z).map (·.1)++(C9 m l).map (·.1):=(by show(Gn m z++C9 m l).map _=_;rw[List.map_append]);rw[e1];unfold memB at*;rw[List.any_append,D,ih,List.map_cons,List.any_cons];simp
   exact this _ hps
 have hgr:fH ((C9 m (ag a b)).map ay)=rl M:=by
  have hbad:∀z∈ag a b,∀x,S x->aK ρ z.1.b<=2*ρ x+1->2*ρ x<=aK ρ z.1.e->aV (Be z.2 x) (rl M)<=0:=fun z hz x hx k1 k2=>by
   have hz':=hz;rw[hpf] at hz';obtain⟨u,hu,v,hv,hmt⟩:=(pY W.T W.sb W.eb W.sa W.ea).2 z hz';obtain⟨e1,e2,s1,s2,hlt,_⟩:=pX W.T (W.ea u hu) (W.eb v hv) hmt;have hI:=Eo (ea u hu) (eb v hv);rw[<-e1] at hI;obtain⟨⟨p1,h1⟩,⟨p2,h2⟩⟩:=hI;have hle:=hle (ay z) (List.mem_map.2 ⟨z,hz,rfl⟩) (sG z.2 p1) (sG z.2 p2) (by unfold ay;dsimp only;rw[h1,uQ]) (by unfold ay;dsimp only;rw[h2,uQ]);have q1:=(nZ ρ z.1.b).1;have q2:=(nZ ρ z.1.e).2;have f1:z.1.b.1=z.1.f:=rfl;have f2:z.1.e.1=z.1.t:=rfl;rw[f1] at q1;rw[f2] at q2;have c1:=W.T.gt s1 hx;have c2:=W.T.gt hx s2;refine qnx (hSok x hx) (by rw[e2];exact qp2 _ _) (a:=p1) (b:=p2) (by rw[<-h1];omega) (by rw[<-h2];omega) hle.1 hle.2
  obtain⟨d,hd,hda⟩:∃d:Rl,d.ok∧∀z∈ag a b,(decide (aV z.1.f m<0)&&decide (aV m z.1.t<0))=true->Be z.2 m=d:=by
   cases h:zF a b m with
   |none=>exact⟨rl 0,PQ 0,fun z hz hc=>by rw[XY W hz hc] at h;cases h⟩
   |some d=>
    obtain⟨x,_,y,_,_,_,e⟩:=MN h;exact⟨d,by rw[e];exact qfs hm,fun z hz hc=>by rw[XY W hz hc] at h;injection h⟩
  have hint:∀z∈ag a b,gq z.1.f∧gq z.1.t:=fun z hz=>by
   rw[ig ng sa sb ea eb] at hz;exact(zo ng ea eb z hz).1
  have hrat:∀(f:Qd) (x:Rl),gq x->MK (Be f x):=fun f x ⟨z,hz⟩=>by rw[hz,uQ];exact⟨_,rfl⟩
  refine qcq hd (fun p hp=>?_) ?_
  ·obtain⟨w,hw,rfl⟩:=List.mem_map.1 hp;obtain⟨z,hz,hw⟩:=hmem w hw;obtain⟨h1,h2⟩:=hps z hz;have D:=(qX W.T W.sm h1 h2).1 w hw;have ew:w.2=z.2:=D.2.2.1;have q1:=nZ ρ w.1.b;have q2:=nZ ρ w.1.e;have f1:w.1.b.1=w.1.f:=rfl;have f2:w.1.e.1=w.1.t:=rfl;rw[f1] at q1;rw[f2] at q2;have D1:=D.2.1;have D2:=D.2.2.2;have c1:=hbad z hz w.1.f D.1.1 ae ae;have c2:=hbad z hz w.1.t D.1.2 ae ae;have em:(ay w).a=Be z.2 w.1.f∧(ay w).b=Be z.2 w.1.t:=by unfold ay;rw[ew];exact⟨rfl,rfl⟩
   rw[em.1,em.2];refine⟨⟨?_,c1⟩,?_,c2⟩
   ·unfold Gn at hw
    split at hw
    ·rename_i hc
     simp at hw;rcases hw with rfl|rfl
     ·exact .inl (hrat _ _ (hint z hz).1)
     ·exact .inr (hda z hz hc)
    ·rw[List.mem_singleton] at hw;rw[hw];exact .inl (hrat _ _ (hint z hz).1)
   ·unfold Gn at hw
    split at hw
    ·rename_i hc
     simp at hw;rcases hw with rfl|rfl
     ·exact .inr (hda z hz hc)
     ·exact .inl (hrat _ _ (hint z hz).2)
    ·rw[List.mem_singleton] at hw;rw[hw];exact .inl (hrat _ _ (hint z hz).2)
  ·obtain⟨p,hp,he⟩:=Qe (l:=(ag a b).map ay) Uk;obtain⟨z,hz,rfl⟩:=List.mem_map.1 hp;obtain⟨h1,h2⟩:=hps z hz;have D:=(qX W.T W.sm h1 h2).2.2.2;rw[hM] at he;rcases he with e|e
   ·obtain⟨w,hw,e1⟩:=D.1;exact⟨ay w,List.mem_map.2 ⟨w,List.mem_flatMap.2 ⟨z,hz,hw⟩,rfl⟩,.inl (e1.trans e.symm)⟩
   ·obtain⟨w,hw,e1⟩:=D.2;exact⟨ay w,List.mem_map.2 ⟨w,List.mem_flatMap.2 ⟨z,hz,hw⟩,rfl⟩,.inr (e1.trans e.symm)⟩
 refine⟨M,hM,?_,?_⟩
 ·unfold qF;have h0:¬(ag a b).isEmpty=true:=fun h=>hne (List.isEmpty_iff.1 h)
  rw[if_neg h0,hcert,if_neg ax,if_neg (fun h=>h hcov),CO,if_neg ax,hgr,if_neg (fun h=>h rfl)]
 ·unfold qF;have h0:¬(ag a b).isEmpty=true:=fun h=>hne (List.isEmpty_iff.1 h)
  rw[if_neg h0,hcert,if_neg ax,if_neg (fun h=>h hcov),CO,if_neg ax,hgr,if_pos];intro e;have e:M+1=M:=congrArg Rl.p e
  grind
end Go.Via
namespace Go.Via
open Go
structure iW(α:Type)(c:α->List Value)(k:Nat):Prop where
 len:∀x,(c x).length=k
 one:∀x,∀v∈c x,v.oneCell'=true
section
variable{α:Type}{c:α->List Value}{k:Nat}
def aj(c:α->List Value)(l:List α):List Value:=l.flatMap c
theorem qfu:aj c []=[]:=rfl
theorem gU(x:α)(l:List α):aj c (x::l)=c x++aj c l:=List.flatMap_cons
theorem sS(l m:List α):aj c (l++m)=aj c l++aj c m:=List.flatMap_append
theorem qY(l:List α)(x:α):aj c l++c x=aj c (l++[x]):=by rw[sS,gU,qfu,List.append_nil]
theorem iW.length(h:iW α c k):∀(l:List α),(aj c l).length=l.length*k
 |[]=>by simp[aj]
 |x::l=>by rw[gU,List.length_append,h.len,iW.length h l,List.length_cons,Nat.succ_mul,Nat.add_comm]
theorem iW.get(h:iW α c k):∀{l:List α} {i:Nat} {x:α},l[i]? =some x->((aj c l).drop (i*k)).take k=c x
 |[],i,x,hx=>by simp at hx
 |y::l,0,x,hx=>by
  simp at hx;subst hx;rw[gU,Nat.zero_mul,List.drop_zero,List.take_append_of_le_length RH,List.take_of_length_le RH]
 |y::l,i+1,x,hx=>by
  have e1:(i+1)*k=(c y).length+i*k:=RI;rw[gU,e1,List.drop_length_add_append];exact iW.get h (by simpa using hx)
def iW.sub(h:iW α c k){l:List α}{i:Nat}{x:α}(hx:l[i]? =some x)(o n:Nat)(hn:o+n<=k):((aj c l).drop (i*k+o)).take n=((c x).drop o).take n:=by
 rw[<-h.get hx,<-List.drop_drop,List.drop_take,List.take_take]
 congr 1
 omega
def iW.ones(h:iW α c k)(l:List α):∀v∈aj c l,v.oneCell'=true:=fun v hv=>by
 obtain⟨x,_,hv⟩:=List.mem_flatMap.1 hv;exact h.one x v hv
def iW.ne(h:iW α c k)(hk:0<k){l:List α}(hl:0<l.length):aj c l≠[]:=fun e=>by
 have:=h.length l;rw[e,List.length_nil] at this;have:=Nat.mul_pos hl hk;omega
theorem iW.set(h:iW α c k):∀{l:List α} {i:Nat} (x:α),i<l.length->(aj c l).take (i*k)++c x++(aj c l).drop (i*k+k)=aj c (l.set i x)
 |[],i,x,hi=>by simp at hi
 |y::l,0,x,_=>by
  rw[Nat.zero_mul,List.take_zero,List.nil_append,Nat.zero_add,gU,List.drop_append_of_le_length RH,List.drop_of_length_le RH,List.nil_append,List.set_cons_zero,gU]
 |y::l,i+1,x,hi=>by
  have ih:=iW.set h (l:=l) (i:=i) x qa5;have e1:(i+1)*k=(c y).length+i*k:=RI;rw[gU,e1,Nat.add_assoc,List.take_length_add_append,List.drop_length_add_append,List.set_cons_succ,gU,<-ih];simp
end
theorem fO{α:Type}{l:List α}{i:Nat}{x:α}(hx:l[i]? =some x):l.take i++[x]=l.take (i+1):=by
 rw[List.take_add_one,hx];rfl
end Go.Via
namespace Go.Via
open Go Go.RowKit Go.Sort Go.Shelf Go.Proofs
section
variable{α:Type}[Inhabited α]{c:α->List Value}{k:Nat}
theorem CU{α:Type}[Inhabited α]{l:List α}{i:Nat}(h:i<l.length):l.toArray[i]! =l[i]:=by
 rw[getElem!_pos l.toArray i pI];rfl
theorem qcr{α:Type}[Inhabited α]{l:List α}{i:Nat}{x:α}(h:l[i]? =some x):l[i]! =x:=by
 rw[List.getElem!_eq_getElem?_getD,h];rfl
def qfv(h:iW α c k){l:List α}{t:Nat}(ht:t<l.length*k):∃x,l[t/k]? =some x∧(aj c l)[t]? =(c x)[t%k]? :=by
 have k0:0<k:=Nat.pos_of_ne_zero (by rintro rfl;simp at ht);have hi:t/k<l.length:=Nat.div_lt_of_lt_mul (by rw[Nat.mul_comm];exact ht);have hx:l[t/k]? =some l[t/k]:=List.getElem?_eq_getElem hi;refine⟨_,hx,?_⟩;have hm:t%k<k:=Nat.mod_lt _ k0;rw[<-h.get hx,List.getElem?_take,if_pos hm,List.getElem?_drop]
 congr 1
 rw[Nat.mul_comm];exact(Nat.div_add_mod t k).symm
theorem VR(h:iW α c k)(l:List α):Go.Sort.flatK c k l.toArray=(aj c l).toArray:=by
 refine Go.Sort.ext_get! (by simp[h.length]) fun t ht=>?_
 have ht':t<l.length*k:=(by simpa using ht);obtain⟨x,hx,hc⟩:=qfv h ht';rw[get_flatK _ _ _ _ (by simpa using ht')];have k0:0<k:=Nat.pos_of_ne_zero (by rintro rfl;simp at ht');have hm:t%k<(c x).length:=(by rw[h.len];exact Nat.mod_lt _ k0);have hi:t/k<l.length:=(List.getElem?_eq_some_iff.1 hx).1;rw[CU hi,(List.getElem?_eq_some_iff.1 hx).2,qcr (List.getElem?_eq_getElem hm)];have hr:t<(aj c l).length:=(by rw[h.length];exact ht');rw[CU hr];rw[List.getElem?_eq_getElem hr,List.getElem?_eq_getElem hm] at hc;exact(Option.some.inj hc).symm
def Qg(h:iW α c k){B:Bs}{w:World}{L:List aH}(hL:aX B L w){j g e n:Nat}{l:List α}(hk:L[j]? =some ⟨some g,e,aj c l,n,true⟩)(hn0:n≠0):HoldsK c k w g 0 l.toArray:=by
 unfold HoldsK;rw[VR h];intro t ht;have ht':t<(aj c l).length:=by simpa using ht
 obtain⟨g',hg',h2⟩:=hL.cell (k:=j) hk (List.getElem?_eq_getElem ht');cases hg';rw[Nat.zero_add];exact⟨by rw[h2,CU ht'];rfl,hL.loose hk rfl rfl hn0 t⟩
def qjP{vs:List Value}{cur:Array Value}(h:vs.length<=cur.size):(putCells id 0 vs.toArray cur).size=cur.size∧(putCells id 0 vs.toArray cur).toList.take vs.length=vs:=by
 refine⟨by simp[putCells],?_⟩
 apply List.ext_getElem?
 intro i;rw[List.getElem?_take]
 split
 ·rename_i hi
  rw[List.getElem?_eq_getElem hi,Array.getElem?_toList];unfold putCells;rw[Array.getElem?_mapIdx,Array.getElem?_eq_getElem ae];simp only[Option.map_some,Nat.zero_le,true_and,List.size_toArray,Nat.zero_add,hi,if_true,Nat.sub_zero];rw[CU hi]
  rfl
 ·rename_i hi
  rw[List.getElem?_eq_none ae]
def Gp(h:iW α c k){B:Bs}{w:World}{L:List aH}(hL:aX B L w){j g e n m:Nat}{l l':List α}{os:Array Obj}(hk:L[j]? =some ⟨some g,e,aj c l,n,true⟩)(hl:(aj c l').length<=n)(hn0:n≠0):
 aX B (L.set j ⟨some g,e,aj c l',n,true⟩) (sortWorldK c k w g 0 m l'.toArray os):=by
 have hlt:=hL.lt hk rfl;have e0:sortWorldK c k w g 0 m l'.toArray os=grow (Go.Sort.putRow id (Sort.ahead w m) g 0 (aj c l').toArray) os:=by
  unfold sortWorldK Go.Sort.putRowK;rw[VR h]
 rw[e0];have e1:(grow (Go.Sort.putRow id (Sort.ahead w m) g 0 (aj c l').toArray) os).heap=(w.heap.modify g (onCells (putCells id 0 (aj c l').toArray)))++os:=rfl;refine hL.rowMod hk rfl rfl hn0 (putCells id 0 (aj c l').toArray) (aj c l') (fun cur hc _=>by
 have hc':cur.size=n:=hc;obtain⟨p1,p2⟩:=qjP (vs:=aj c l') (cur:=cur) ae;exact⟨p1.trans hc,p2⟩) rfl rfl rfl (by rw[e1];simp) (fun i hi hne=>?_) (fun cur hcur=>?_) (Nat.le_add_right _ _)
 ·rw[e1,Array.getElem?_append_left qa5,Array.getElem?_modify,if_neg (fun e=>hne e.symm)]
 ·rw[e1,Array.getElem?_append_left Ui,Array.getElem?_modify,if_pos rfl,hcur]
  rfl
abbrev mo1:Mo:=⟨True⟩
def qfw[Mo](hm:Mo.p){w w':World}(h:eG w.heap.size w w'):∃q os',w'=grow (w.drewN q) os':=by
 refine⟨w'.drawn-w.drawn,w'.heap.extract w.heap.size w'.heap.size,?_⟩;have hh:w'.heap=w.heap++w'.heap.extract w.heap.size w'.heap.size:=by
  apply Array.ext_getElem?
  intro i
  by_cases hi:i<w.heap.size
  ·rw[Array.getElem?_append_left hi,h.block i hi]
  ·rw[Array.getElem?_append_right ae,Array.getElem?_extract];have hs:=h.size
   split
   ·congr 1;omega
   ·rename_i h2
    have:w'.heap.size<=i:=ae;rw[Array.getElem?_eq_none this]
 cases w';have a1:=h.os;have a2:=h.tape;have a3:=h.output;have a4:=h.drawn hm;dsimp only at a1 a2 a3 a4 hh;unfold grow World.drewN;dsimp only;rw[<-hh,a1,a2,a3]
 congr 1
 omega
def qab[Mo](hm:Mo.p){P:Program}{g:Nat}{cf:α->α->Int}(H:∀x y,aJ P g #[.agg (c x).toArray,.agg (c y).toArray] (.int .i64 (cf x y)))(blk off size:Nat)(w:World):CmpLays P g #[] c k cf blk off size w:=fun m os dk hs x y=>by
 refine((H x y).2 _).mono ?_;rintro e w' ⟨he,hb⟩;exact⟨he,qfw hm hb⟩
def qjQ{l:List α}{d:Array α}(h:PermIn 0 l.toArray.size l.toArray d):d.toList.Perm l:=by
 obtain⟨h1,_,h3⟩:=h;have e1:d.extract 0 l.toArray.size=d:=by rw[<-h1];simp
 have e2:l.toArray.extract 0 l.toArray.size=l.toArray:=bz;rw[e1,e2] at h3;exact h3
def qcs{lt:α->α->Bool}{n:Nat}{d:Array α}(h:SortedIn lt 0 n d)(hn:d.size=n):d.toList.Pairwise fun x y=>lt y x=false:=by
 rw[List.pairwise_iff_getElem];intro i j hi hj hij;have:=h i j (Nat.zero_le _) hij (by simp at hj;omega);rw[getElem!_pos d j (by simpa using hj),getElem!_pos d i qa5] at this
 simpa using this
theorem VS{lt:α->α->Bool}{a:Nat}{d:Array α}:∀{i:Nat},(∀j,a<j->j<=i->lt d[j]! d[j-1]! =false)->insInner lt a i d=d
 |0,_=>rfl
 |i+1,h=>by
  unfold insInner
  by_cases hc:i+1>a
  ·have:=h (i+1) hc (Nat.le_refl _);rw[Nat.add_sub_cancel] at this;rw[this,Bool.and_false,if_neg ax]
  ·rw[decide_eq_false hc,Bool.false_and,if_neg ax]
def I5{lt:α->α->Bool}{a b:Nat}{d:Array α}(h:∀j,a<j->j<b->lt d[j]! d[j-1]! =false):∀(n i:Nat),b-i=n->insOuter lt a b i d=d
 |0,i,hn=>by unfold insOuter;rw[if_neg ae]
 |n+1,i,hn=>by
  unfold insOuter;rw[if_pos ae,VS fun j h1 h2=>h j h1 ae]
  exact I5 h n (i+1) ae
def RN{lt:α->α->Bool}{l:List α}(h:l.Pairwise fun x y=>lt y x=false):Sort.insertionSort lt l.toArray 0 l.length=l.toArray:=by
 refine I5 (fun j h1 h2=>?_) _ _ rfl;rw[CU h2,CU (show j-1<l.length by omega)];exact List.pairwise_iff_getElem.1 h (j-1) j ae h2 ae
end
end Go.Via
namespace Go.Via
open Go
def qnS(a b:Bool):Int:=if a=b then 0 else if b=true then-1 else 1
def OD(a b:PU):Int:=if aV a.i.f b.i.f≠0 then aV a.i.f b.i.f else if qnS a.i.fo b.i.fo≠0 then qnS a.i.fo b.i.fo else aV a.i.t b.i.t
def qjR{S:Rl->Prop}{ρ:Rl->Int}(T:dZ S ρ){x y:PU}(hx:S x.i.f)(hy:S y.i.f)(h:aK ρ x.i.b<aK ρ y.i.b):¬OD y x<0:=by
 have h1:=T.lt hy hx;have h2:=T.gt hy hx;unfold aK Iv.b at h;dsimp only at h;unfold OD
 by_cases e:aV y.i.f x.i.f≠0
 ·rw[if_pos e];intro h3;have:=h1.1 h3
  revert h;split<;>split<;>omega
 ·rw[if_neg e];have e':ρ y.i.f=ρ x.i.f:=by
   have:¬ρ y.i.f<ρ x.i.f:=fun k=>e (by have:=h1.2 k;omega)
   have:¬ρ x.i.f<ρ y.i.f:=fun k=>e (by have:=h2.2 k;omega)
   omega
  rw[e'] at h;have hf:x.i.fo=false∧y.i.fo=true:=by
   cases hx':x.i.fo<;>cases hy':y.i.fo<;>rw[hx',hy'] at h<;>first|exact⟨rfl,rfl⟩|(exfalso;simp at h;done)|(exfalso;simp at h;omega)
  rw[hf.1,hf.2,if_pos ax]
  decide
def XZ{S:Rl->Prop}{ρ:Rl->Int}(T:dZ S ρ){l:List PU}(hs:ou ρ l)(he:Ends S l):l.Pairwise fun x y=>decide (OD y x<0)=false:=by
 refine hs.1.imp_of_mem fun {x y} hx hy h=>?_
 have:=hs.2 x hx;exact decide_eq_false (qjR T (he x hx).1 (he y hy).1 ae)
end Go.Via
namespace Go.Via
open Go
theorem aY:iW PU aP 36:=⟨fun _=>rfl,fun x v hv=>List.all_eq_true.1 (show(aP x).all (·.oneCell')=true from rfl) v hv⟩
theorem cO:iW Iv bT 20:=⟨fun _=>rfl,fun x v hv=>List.all_eq_true.1 (show(bT x).all (·.oneCell')=true from rfl) v hv⟩
theorem iw:iW Rl jX 9:=⟨fun _=>rfl,fun x v hv=>List.all_eq_true.1 (show(jX x).all (·.oneCell')=true from rfl) v hv⟩
def tH:iW (Iv×Qd) Ep 32:=⟨fun _=>rfl,fun x v hv=>List.all_eq_true.1 (show(Ep x).all (·.oneCell')=true from rfl) v hv⟩
def RP:iW B3 XQ 52:=⟨fun _=>rfl,fun x v hv=>List.all_eq_true.1 (show(XQ x).all (·.oneCell')=true from rfl) v hv⟩
theorem dH:iW lM aZ 38:=⟨fun _=>rfl,fun x v hv=>List.all_eq_true.1 (show(aZ x).all (·.oneCell')=true from rfl) v hv⟩
def vg:iW (Iv×Int) Gf 21:=⟨fun _=>rfl,fun x v hv=>List.all_eq_true.1 (show(Gf x).all (·.oneCell')=true from rfl) v hv⟩
theorem xI:iW ((Rl×Bool)×Int×Int) kw 12:=⟨fun _=>rfl,fun x v hv=>List.all_eq_true.1 (show(kw x).all (·.oneCell')=true from rfl) v hv⟩
end Go.Via
namespace Go.Via
open Go
theorem qct(x y:Rat):zk ⟨x,0,y,0⟩= .agg #[.bool (decide (x.num<0)),.string (bQ x.num.natAbs),.bool false,.string (dm x),aT,aU,aT,aU,.bool (decide (y.num<0)),.string (bQ y.num.natAbs),.bool false,.string (dm y),aT,aU,aT,aU]:=by
 unfold zk;have e1:decide ((0:Rat).num<0)=false:=ax
 have e2:bQ (0:Rat).num.natAbs=⟨#[]⟩:=iT;have e3:dm (0:Rat)=⟨#[]⟩:=rfl;simp only[e1,e2,e3]
end Go.Via
