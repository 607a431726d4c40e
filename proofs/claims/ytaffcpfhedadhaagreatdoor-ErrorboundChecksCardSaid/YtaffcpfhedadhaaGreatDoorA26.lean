/-
  Part 26 (chapter 32): lemmas, walks. Each theorem states its own conditions.
-/
import Derived.Lib.Repeat
import Derived.Sort.Grow
import Derived.Sort.EncStr
import Derived.Shelf.SlSortCmp.WholeK
import Derived.Shelf.SlSortCmp.NoneTotal
import Derived.Test.YtaffcpfhedadhaaGreatDoorA17
import Derived.Test.YtaffcpfhedadhaaGreatDoorA18
import Derived.Test.YtaffcpfhedadhaaGreatDoorA21
set_option linter.all false
set_option maxRecDepth 20000
set_option maxHeartbeats 20000000
section
variable{P Q:Prop}{T:Type}{R:T->Prop}
def ZN(h:P:=by unfold Bz;split<;>(try split)<;>omega):=h
def Uo(h:P:=by rw[h.len];exact Nat.le_refl _):=h
def Ur(h:P:=by rw[h.len,Nat.succ_mul,Nat.add_comm]):=h
end
namespace Go.Via
open Go
def fM(x y:Rl):Rl:=if 0<aY y x then y else x
def fB:List iT->Rl
 |[]=>rl 0
 |p::l=>(p::l).foldl (fun o x=>fM o (fM x.a x.b)) p.a
def CG(o:Rl)(x:iT):Rl:=fM (fM o x.a) x.b
def qZ(l:List iT):Rl:=l.foldl CG (rl 0)
theorem sJ(p q:Rat):fM (rl p) (rl q)=rl (if p<q then q else p):=by
 unfold fM;rw[sF];rcases lu q p with⟨c,e⟩|⟨c,e⟩|⟨c,e⟩<;>rw[e]
 ·rw[if_neg au,if_neg dQ]
 ·rw[if_pos au,if_pos c]
 ·rw[if_neg au,if_neg dQ]
def qez(l:List iT):Prop:=∀p∈l,∃u v:Rat,0<=u∧0<=v∧p.a=rl u∧p.b=rl v
def Xm(p q:Rat):Rat:=if p<q then q else p
def OH{l:List iT}(h:qez l)(hne:l≠[]):fB l=qZ l:=by
 have step1:∀(l:List iT) (q:Rat),qez l->∃r,l.foldl (fun o x=>fM o (fM x.a x.b)) (rl q)=rl r∧l.foldl CG (rl q)=rl r:=by
  intro l
  induction l with
  |nil=>intro q _;exact⟨q,rfl,rfl⟩
  |cons p l ih=>
   intro q h;obtain⟨u,v,hu,hv,ea,eb⟩:=h p (List.mem_cons_self ..);obtain⟨r,h1,h2⟩:=ih (Xm (Xm q u) v) fun x hx=>h x (List.mem_cons_of_mem _ hx)
   refine⟨r,?_,?_⟩
   ·rw[List.foldl_cons,ea,eb,sJ,sJ,<-h1]
    congr 2
    unfold Xm;grind
   ·rw[List.foldl_cons,<-h2];unfold CG;rw[ea,eb,sJ,sJ]
    rfl
 cases l with
 |nil=>exact absurd rfl hne
 |cons p l=>
  obtain⟨u,v,hu,hv,ea,eb⟩:=h p (List.mem_cons_self ..);show(p::l).foldl (fun o x=>fM o (fM x.a x.b)) p.a=(p::l).foldl CG (rl 0);rw[List.foldl_cons,List.foldl_cons];have e1:fM p.a (fM p.a p.b)=rl (Xm u v):=by
   rw[ea,eb,sJ,sJ];congr 1;unfold Xm;grind
  have e2:CG (rl 0) p=rl (Xm u v):=by
   unfold CG;rw[ea,eb,sJ,sJ];congr 1;unfold Xm;grind
  rw[e1,e2];obtain⟨r,h1,h2⟩:=step1 l (Xm u v) fun x hx=>h x (List.mem_cons_of_mem _ hx)
  rw[h1,h2]
def uX(x:Rl):Prop:=∃q,x=rl q
theorem qeA{S:Rl->Prop}{ρ:Rl->Int}(T:dM S ρ){a b:Iv}(ha:S a.f∧S a.t)(hb:S b.f∧S b.t):dR a b=dR b a:=by
 have h1:=Jg T ha.1 hb.1;have h2:=Jg T hb.1 ha.1;have h3:=Jh T ha.2 hb.2;have h4:=Jh T hb.2 ha.2;have inj:∀{x y:oZ},S x.1->S y.1->aI ρ x=aI ρ y->x=y:=fun hx hy h=>Uc T hx hy h
 have e1:(dR a b).b=(dR b a).b:=by
  rcases h1 with⟨e,k⟩|⟨e,k⟩<;>rcases h2 with⟨e',k'⟩|⟨e',k'⟩<;>rw[e,e']
  ·exact inj ha.1 hb.1 ae
  ·exact inj hb.1 ha.1 ae
 have e2:(dR a b).e=(dR b a).e:=by
  rcases h3 with⟨e,k⟩|⟨e,k⟩<;>rcases h4 with⟨e',k'⟩|⟨e',k'⟩<;>rw[e,e']
  ·exact inj ha.2 hb.2 ae
  ·exact inj hb.2 ha.2 ae
 rw[<-ZE (dR a b),e1,e2,ZE]
def ZO{S:Rl->Prop}{ρ:Rl->Int}(T:dM S ρ){a b:List PU}(sa:nR ρ a)(sb:nR ρ b)(ea:Ends S a)(eb:Ends S b):aA a b=aA b a:=by
 rw[fP T sa sb ea eb,fP T sb sa eb ea];obtain⟨a1,a2⟩:=nD T sb eb sa ea;obtain⟨b1,b2⟩:=nD T sa ea sb eb;have lt:∀{c d:List PU},Ends S c->Ends S d->(flatK jP c d).Pairwise (fun p q=>aI ρ p.1.e<=aI ρ q.1.b)->(∀z∈flatK jP c d,∃x∈c,∃y∈d,jP x y=some z)->(flatK jP c d).Pairwise (fun p q=>aI ρ p.1.b<aI ρ q.1.b):=fun {c d} hc hd h1 h2=>by
  refine h1.imp_of_mem fun {p q} hp hq hpq=>?_
  obtain⟨x,hx,y,hy,hm⟩:=h2 p hp;have:=nC T (hc x hx) (hd y hy) hm;omega
 refine zq (κ:=fun p:Iv×Qd=>aI ρ p.1.b) (lt ea eb a1 a2) (lt eb ea b1 b2) fun z=>?_
 have sw:∀{c d:List PU},Ends S c->Ends S d->(∀z∈flatK jP c d,∃x∈c,∃y∈d,jP x y=some z)->z∈flatK jP c d->z∈flatK jP d c:=fun {c d} hc hd h2 hz=>by
  obtain⟨x,hx,y,hy,hm⟩:=h2 z hz;refine List.mem_flatMap.2 ⟨y,hy,List.mem_filterMap.2 ⟨x,hx,?_⟩⟩;rw[<-hm];unfold jP fC;rw[qeA T (hd y hy) (hc x hx),qoI]
 exact⟨sw ea eb a2,sw eb ea b2⟩
end Go.Via
namespace Go.Via
open Go
theorem OI{g:oZ->Bool}(h:∀c,g c=false):∀{C:List oZ},gm g none C=[]
 |[]=>rfl
 |c::C=>by unfold gm;rw[h,if_neg au,OI h]
theorem RG{S:Rl->Prop}{ρ:Rl->Int}(T:dM S ρ){op:Bool->Bool->Bool}(h0:op false false=false){a b:List Iv}(ha:fU S a)(hb:fU S b):dI op a b=[]↔∀k,op (memB ρ a k) (memB ρ b k)=false:=by
 constructor
 ·intro h k;rw[<-RF T h0 ha hb,h];rfl
 ·intro h;rw[rJ T h0 ha hb,OI fun c=>h _];rfl
def rO(x p:Iv):Bool:=(dI (fun a b=>a&& !b) [p] [x]).isEmpty
theorem Hz{S:Rl->Prop}{i:Iv}(h:S i.f∧S i.t):fU S [i]:=fun j hj=>by rw[List.mem_singleton] at hj;rw[hj];exact h
def HY{S:Rl->Prop}{ρ:Rl->Int}(T:dM S ρ){x p:Iv}(hx:S x.f∧S x.t)(hp:S p.f∧S p.t)(op:aI ρ p.b<aI ρ p.e):rO x p=true↔aI ρ x.b<=aI ρ p.b∧aI ρ p.e<=aI ρ x.e:=by
 unfold rO;rw[List.isEmpty_iff,RG T rfl (Hz hp) (Hz hx)];have e:∀k,(memB ρ [p] k&& !memB ρ [x] k)=false↔(aI ρ p.b<=k->k<aI ρ p.e->aI ρ x.b<=k∧k<aI ρ x.e):=fun k=>by
  rw[Ht,Ht]
  by_cases h1:aI ρ p.b<=k<;>by_cases h2:k<aI ρ p.e<;>by_cases h3:aI ρ x.b<=k<;>by_cases h4:k<aI ρ x.e<;>simp[h1,h2,h3,h4]
 constructor
 ·intro h;have h1:=(e _).1 (h (aI ρ p.b)) (Int.le_refl _) op;have h2:=(e _).1 (h (aI ρ p.e-1)) ae ae;omega
 ·rintro⟨h1,h2⟩ k;rw[e];intro h3 h4;omega
def bK(x:Rl):Bool:=if dB x.r<0 then false else if dB x.r=0 then !x.n else !Ap x.r
def zX(x:Rl):bK x=true↔x.ok:=by
 unfold bK Rl.ok;rcases eH x.r with⟨h,e⟩|⟨h,e⟩|⟨h,e⟩<;>rw[e]
 ·simp;have:x.r≠0:=dQ
  simp[h,this]
 ·simp
  constructor
  ·intro hh;grind
  ·intro hh;grind
 ·simp[h]
def oL(l:List (Iv×Qd))(p:iT):Bool:=match l.find? fun x=>rO x.1 p.i with
 |some x=>decide (aW (p.i,x.2)=p)
 |none=>false
def o8(l:List (Iv×Qd))(p:iT):Bool:=l.any fun x=>rO x.1 p.i&&decide (aW (p.i,x.2)=p)
theorem Xn{S:Rl->Prop}{ρ:Rl->Int}(T:dM S ρ){p:iT}(hp:S p.i.f∧S p.i.t)(op:aI ρ p.i.b<aI ρ p.i.e):∀{l:List (Iv×Qd)},(∀x∈l,S x.1.f∧S x.1.t)->l.Pairwise (fun x y=>aI ρ x.1.e<=aI ρ y.1.b)->oL l p=o8 l p
 |[],_,_=>rfl
 |x::l,hS,hs=>by
  obtain⟨s1,s2⟩:=List.pairwise_cons.1 hs;have ih:=Xn T hp op (l:=l) (fun y hy=>hS y (List.mem_cons_of_mem _ hy)) s2;unfold oL o8 at*;cases hc:rO x.1 p.i
  ·rw[List.find?_cons,hc,List.any_cons];dsimp only;rw[ih,hc,Bool.false_and,Bool.false_or]
  ·rw[List.find?_cons,hc,List.any_cons,hc,Bool.true_and];have hk:=(HY T (hS x (List.mem_cons_self ..)) hp op).1 hc;have hn:(l.any fun x=>rO x.1 p.i&&decide (aW (p.i,x.2)=p))=false:=by
    rw[List.any_eq_false];intro y hy h;rw[Bool.and_eq_true] at h;have hk':=(HY T (hS y (List.mem_cons_of_mem _ hy)) hp op).1 h.1;have:=s1 y hy;omega
   rw[hn,Bool.or_false]
end Go.Via
namespace Go.Via
open Go
def Us(a b:Iv):Bool:=decide (aY a.t b.f<0)||decide (aY a.t b.f=0)&&(a.tp||b.fo)
def qeB(x last:Iv):Bool:=decide (aY x.f last.t<0)||decide (aY x.f last.t=0)&&(!x.fo&& !last.tp)
def qoO{S:Rl->Prop}{ρ:Rl->Int}(T:dM S ρ){x last:Iv}(hx:S x.f)(hl:S last.t):qeB x last= !Us last x:=by
 unfold qeB Us;have a1:=T.lt hx hl;have a2:=T.zero hx hl;have b1:=T.lt hl hx;have b2:=T.zero hl hx;rw[Bool.eq_iff_iff];simp only[Bool.or_eq_true,Bool.and_eq_true,Bool.not_eq_true',Bool.or_eq_false_iff,Bool.and_eq_false_iff,decide_eq_true_eq,decide_eq_false_iff_not,a1,a2,b1,b2];cases x.fo<;>cases last.tp<;>simp<;>omega
def ul(before:Option Iv)(i:Iv):Bool:=match before with|some b=> !Us b i|none=>false
def yz(before:Option Iv)(i:Iv):Bool:=match before with|some b=>qeB i b|none=>false
def jY(l:List (Iv×Qd))(before:Option Iv)(p:iT):Int:=
 if(bK p.i.f&&bK p.i.t)=false then 5 else if ja p.i=false then 10 else if(bK p.a&&bK p.b)=false then 5
 else if ul before p.i=true then 7 else if o8 l p=true then 0 else 30
def oU(l:List (Iv×Qd))(before:Option Iv)(p:iT):Int:=
 if(bK p.i.f&&bK p.i.t)=false then 5 else if ja p.i=false then 10 else if(bK p.a&&bK p.b)=false then 5
 else if yz before p.i=true then 7 else if oL l p=true then 0 else 30
def fD(one:Option Iv->iT->Int):Option Iv->List iT->Int
 |_,[]=>0
 |b,p::ps=>if one b p=0 then fD one (some p.i) ps else one b p
theorem RH{f:Option Iv->iT->Int}:∀{ps:List iT} {b:Option Iv},fD f b ps=0->∀p∈ps,∃b,f b p=0
 |[],_,_,p,hp=>by simp at hp
 |q::ps,b,h,p,hp=>by
  unfold fD at h
  split at h
  ·rename_i h0
   rcases List.mem_cons.1 hp with e|e
   ·exact⟨b,by rw[e];exact h0⟩
   ·exact RH h p e
  ·rename_i h0;exact absurd h h0
end Go.Via
namespace Go.Via
open Go
def orB(x y:Bool):Bool:=x||y
def uY(x y:Bool):Bool:=x&&y
def dY(l:List Iv):List Iv:=dI orB l []
def gq(l:List PU):List Iv:=dY (l.map (·.i))
def qQ(a b:List PU)(c:List iT)(m:Rl):Int:=
 if(aA a b).isEmpty=true then 36 else if fD (jY (aA a b)) none c≠0 then fD (jY (aA a b)) none c
 else if dY (c.map (·.i))≠dY ((aA a b).map (·.1)) then 12 else if bK m=false then 5 else if m≠fB c then 30 else 0
def CJ(a b:List PU)(c:List iT)(m:Rl):Int:=
 if(dI uY (gq a) (gq b)).isEmpty=true then 36 else if fD (oU (flatK jP a b)) none c≠0 then fD (oU (flatK jP a b)) none c
 else if dY (c.map (·.i))≠dI uY (gq a) (gq b) then 12 else if bK m=false then 5 else if m≠qZ c then 30 else 0
theorem H5{S:Rl->Prop}{l:List PU}(h:Ends S l):fU S (l.map (·.i)):=fun i hi=>by
 obtain⟨u,hu,rfl⟩:=List.mem_map.1 hi;exact h u hu
theorem tY{S:Rl->Prop}:fU S []:=fun i hi=>MJ
theorem RI{S:Rl->Prop}{ρ:Rl->Int}(T:dM S ρ){l:List Iv}(h:fU S l)(k:Int):memB ρ (dY l) k=memB ρ l k:=by
 unfold dY;rw[RF T rfl h tY];show(memB ρ l k||false)=_;rw[Bool.or_false]
theorem D9{ρ:Rl->Int}{l:List Iv}{k:Int}:memB ρ l k=true↔∃i∈l,aI ρ i.b<=k∧k<aI ρ i.e:=by
 unfold memB;rw[List.any_eq_true];simp only[Bool.and_eq_true,decide_eq_true_eq]
theorem qeC{S:Rl->Prop}{ρ:Rl->Int}(T:dM S ρ){a b:List PU}(ea:Ends S a)(eb:Ends S b)(k:Int):memB ρ ((flatK jP a b).map (·.1)) k=(memB ρ (a.map (·.i)) k&&memB ρ (b.map (·.i)) k):=by
 rw[Bool.eq_iff_iff,Bool.and_eq_true,D9,D9,D9]
 constructor
 ·rintro⟨i,hi,h1,h2⟩;obtain⟨z,hz,rfl⟩:=List.mem_map.1 hi;obtain⟨x,hx,hm⟩:=List.mem_flatMap.1 hz;obtain⟨y,hy,hm⟩:=List.mem_filterMap.1 hm;have:=nC T (ea x hx) (eb y hy) hm;exact⟨⟨x.i,List.mem_map.2 ⟨x,hx,rfl⟩,ae,ae⟩,⟨y.i,List.mem_map.2 ⟨y,hy,rfl⟩,ae,ae⟩⟩
 ·rintro⟨⟨i,hi,h1,h2⟩,⟨j,hj,h3,h4⟩⟩;obtain⟨x,hx,rfl⟩:=List.mem_map.1 hi;obtain⟨y,hy,rfl⟩:=List.mem_map.1 hj;have hb:=Jg T (ea x hx).1 (eb y hy).1;have he:=Jh T (ea x hx).2 (eb y hy).2;have hS:=Cj (ea x hx) (eb y hy);have hlt:aI ρ (dR x.i y.i).b<=k∧k<aI ρ (dR x.i y.i).e:=by
   rcases hb with⟨e1,_⟩|⟨e1,_⟩<;>rcases he with⟨e2,_⟩|⟨e2,_⟩<;>rw[e1,e2]<;>omega
  have hok:=(oQ T hS.1 hS.2).2 ae;refine⟨dR x.i y.i,List.mem_map.2 ⟨(dR x.i y.i,d2 x.f y.f),List.mem_flatMap.2 ⟨x,hx,List.mem_filterMap.2 ⟨y,hy,?_⟩⟩,rfl⟩,hlt⟩;unfold jP fC;rw[if_pos hok];rfl
def uZ{S:Rl->Prop}{ρ:Rl->Int}(T:dM S ρ){a b:List PU}(ea:Ends S a)(eb:Ends S b):∀z∈flatK jP a b,(S z.1.f∧S z.1.t)∧aI ρ z.1.b<aI ρ z.1.e:=fun z hz=>by
 obtain⟨x,hx,hm⟩:=List.mem_flatMap.1 hz;obtain⟨y,hy,hm⟩:=List.mem_filterMap.1 hm;have:=nC T (ea x hx) (eb y hy) hm;exact⟨⟨this.2.2.1,this.2.2.2.1⟩,this.2.2.2.2.1⟩
def Ut{S:Rl->Prop}{ρ:Rl->Int}(T:dM S ρ){a b:List PU}(ea:Ends S a)(eb:Ends S b):dY ((flatK jP a b).map (·.1))=dI uY (gq a) (gq b):=by
 have hp:fU S ((flatK jP a b).map (·.1)):=fun i hi=>by
  obtain⟨z,hz,rfl⟩:=List.mem_map.1 hi;exact(uZ T ea eb z hz).1
 have hda:fU S (gq a):=Ul T rfl (H5 ea) tY;have hdb:fU S (gq b):=Ul T rfl (H5 eb) tY;refine WZ T rfl rfl hp tY hda hdb fun k=>?_
 unfold gq;rw[RI T (H5 ea),RI T (H5 eb),qeC T ea eb];show((memB ρ (a.map (·.i)) k&&memB ρ (b.map (·.i)) k)||false)=_;rw[Bool.or_false];rfl
def Ku{S:Rl->Prop}{ρ:Rl->Int}(T:dM S ρ){l:List Iv}(h:fU S l)(ho:IG ρ l):(dY l).isEmpty=l.isEmpty:=by
 rw[Bool.eq_iff_iff,List.isEmpty_iff,List.isEmpty_iff]
 constructor
 ·intro h1;cases l with
  |nil=>rfl
  |cons i l=>
   exfalso
   have h2:=(RG T (op:=orB) rfl h tY).1 h1 (aI ρ i.b);have h3:memB ρ (i::l) (aI ρ i.b)=true:=D9.2 ⟨i,List.mem_cons_self ..,Int.le_refl _,ho i (List.mem_cons_self ..)⟩;rw[h3] at h2;cases h2
 ·intro h1;rw[h1];rfl
end Go.Via
namespace Go.Via
open Go
def qcn{S:Rl->Prop}{ρ:Rl->Int}(T:dM S ρ){l:List (Iv×Qd)}(hl:∀x∈l,S x.1.f∧S x.1.t)(hs:l.Pairwise (fun x y=>aI ρ x.1.e<=aI ρ y.1.b)):
 ∀{ps:List iT} {before:Option Iv},(∀b,before=some b->S b.f∧S b.t)->(∀p∈ps,bK p.i.f=true->bK p.i.t=true->S p.i.f∧S p.i.t)->fD (jY l) before ps=fD (oU l) before ps
 |[],_,_,_=>rfl
 |p::ps,before,hb,hp=>by
  have hp':=hp p (List.mem_cons_self ..);have e:jY l before p=oU l before p:=by
   unfold jY oU
   by_cases h1:(bK p.i.f&&bK p.i.t)=false
   ·rw[if_pos h1,if_pos h1]
   ·rw[if_neg h1,if_neg h1];have h1':bK p.i.f=true∧bK p.i.t=true:=by
     rw[<-Bool.and_eq_true];simpa using h1
    have hS:=hp' h1'.1 h1'.2
    by_cases h2:ja p.i=false
    ·rw[if_pos h2,if_pos h2]
    ·rw[if_neg h2,if_neg h2];have hlt:=(oQ T hS.1 hS.2).1 Gu;rw[Xn T hS hlt hl hs];have hw:yz before p.i=ul before p.i:=by
      cases before with
      |none=>rfl
      |some b=>exact qoO T hS.1 (hb b rfl).2
     rw[hw]
  unfold fD;rw[e]
  by_cases h0:oU l before p=0
  ·rw[if_pos h0,if_pos h0];refine qcn T hl hs (fun b hb'=>?_) fun q hq=>hp q (List.mem_cons_of_mem _ hq)
   injection hb' with hb'
   subst hb'
   by_cases h1:(bK p.i.f&&bK p.i.t)=false
   ·unfold oU at h0;rw[if_pos h1] at h0;cases h0
   ·have h1':bK p.i.f=true∧bK p.i.t=true:=by
     rw[<-Bool.and_eq_true];simpa using h1
    exact hp' h1'.1 h1'.2
  ·rw[if_neg h0,if_neg h0]
theorem ZP{l:List (Iv×Qd)}{before:Option Iv}{p:iT}(h:jY l before p=0):o8 l p=true:=by
 unfold jY at h
 by_cases h1:(bK p.i.f&&bK p.i.t)=false
 ·rw[if_pos h1] at h;cases h
 ·rw[if_neg h1] at h
  by_cases h2:ja p.i=false
  ·rw[if_pos h2] at h;cases h
  ·rw[if_neg h2] at h
   by_cases h3:(bK p.a&&bK p.b)=false
   ·rw[if_pos h3] at h;cases h
   ·rw[if_neg h3] at h
    by_cases h4:ul before p.i=true
    ·rw[if_pos h4] at h;cases h
    ·rw[if_neg h4] at h
     by_cases h5:o8 l p=true
     ·exact h5
     ·rw[if_neg h5] at h;cases h
def qti{S:Rl->Prop}{ρ:Rl->Int}(T:dM S ρ){a b:List PU}{c:List iT}{m:Rl}(sa:nR ρ a)(sb:nR ρ b)(ea:Ends S a)(eb:Ends S b)
 (hc:∀p∈c,bK p.i.f=true->bK p.i.t=true->S p.i.f∧S p.i.t)(hm:(∀p∈c,o8 (aA a b) p=true)->c≠[]->fB c=qZ c):qQ a b c m=CJ a b c m:=by
 have hpf:=fP T sa sb ea eb;have hcom:=Ut T ea eb;have hps:=uZ T ea eb;have hAll:fU S ((flatK jP a b).map (·.1)):=fun i hi=>by
  obtain⟨z,hz,rfl⟩:=List.mem_map.1 hi;exact(hps z hz).1
 have hOk:IG ρ ((flatK jP a b).map (·.1)):=fun i hi=>by
  obtain⟨z,hz,rfl⟩:=List.mem_map.1 hi;exact(hps z hz).2
 have hemp:=Ku T hAll hOk;unfold qQ CJ;rw[hpf,<-hcom,hemp];have e1:((flatK jP a b).map (·.1)).isEmpty=(flatK jP a b).isEmpty:=by cases flatK jP a b<;>rfl
 rw[e1]
 by_cases h0:(flatK jP a b).isEmpty=true
 ·rw[if_pos h0,if_pos h0]
 ·rw[if_neg h0,if_neg h0];have hle:=qcn T (l:=flatK jP a b) (fun x hx=>(hps x hx).1) (nD T sb eb sa ea).1 (ps:=c) (before:=none) (fun b hb=>MI) hc;rw[hle]
  by_cases h1:fD (oU (flatK jP a b)) none c≠0
  ·rw[if_pos h1,if_pos h1]
  ·rw[if_neg h1,if_neg h1]
   by_cases h2:dY (c.map (·.i))≠dY ((flatK jP a b).map (·.1))
   ·rw[if_pos h2,if_pos h2]
   ·rw[if_neg h2,if_neg h2];have hne:c≠[]:=fun e=>by
     apply h2
     intro h3;rw[e] at h3;have h4:(dY ((flatK jP a b).map (·.1))).isEmpty=true:=by rw[<-h3];rfl
     rw[hemp,e1] at h4;exact h0 h4
    have hz:fD (jY (aA a b)) none c=0:=(by rw[hpf,hle];exact Decidable.not_not.1 h1);rw[hm (fun p hp=>by obtain⟨b',h⟩:=RH hz p hp;exact ZP h) hne]
end Go.Via
namespace Go.Via
open Go
theorem OJ{S:Rl->Prop}{ρ:Rl->Int}(T:dM S ρ){a b:Iv}(ha:S a.t)(hb:S b.f):Us a b=true↔aI ρ a.e<=aI ρ b.b:=by
 have h1:=T.lt ha hb;have h2:=T.zero ha hb;unfold Us aI Iv.b Iv.e;simp only[Bool.or_eq_true,Bool.and_eq_true,decide_eq_true_eq,h1,h2];cases a.tp<;>cases b.fo<;>simp<;>omega
theorem Ea(q:Rat):bK (rl q)=true:=(zX _).2 (Oc q)
def RJ{S:Rl->Prop}{ρ:Rl->Int}(T:dM S ρ)(hS:∀x,S x->bK x=true){L:List (Iv×Qd)}:∀{l:List (Iv×Qd)} {before:Option Iv},(∀x∈l,x∈L∧(S x.1.f∧S x.1.t)∧aI ρ x.1.b<aI ρ x.1.e∧bK (aW x).a=true∧bK (aW x).b=true)->
 l.Pairwise (fun x y=>aI ρ x.1.e<=aI ρ y.1.b)->(∀b,before=some b->S b.t∧∀x∈l,aI ρ b.e<=aI ρ x.1.b)->fD (jY L) before (l.map aW)=0
 |[],_,_,_,_=>rfl
 |x::l,before,h,hs,hb=>by
  obtain⟨hL,hx,hlt,ha,hb'⟩:=h x (List.mem_cons_self ..);obtain⟨s1,s2⟩:=List.pairwise_cons.1 hs;have e:jY L before (aW x)=0:=by
   have ei:(aW x).i=x.1:=rfl;unfold jY;rw[ei,hS _ hx.1,hS _ hx.2,if_neg au,(oQ T hx.1 hx.2).2 hlt,if_neg au,ha,hb',if_neg au];have hw:ul before x.1=false:=by
    cases before with
    |none=>rfl
    |some b=>
     have:=hb b rfl;unfold ul;dsimp only;rw[(OJ T this.1 hx.1).2 (this.2 x (List.mem_cons_self ..))];rfl
   have hr:o8 L (aW x)=true:=by
    unfold o8;rw[List.any_eq_true];refine⟨x,hL,?_⟩;rw[Bool.and_eq_true,decide_eq_true_eq];exact⟨(HY T hx hx hlt).2 ⟨Int.le_refl _,Int.le_refl _⟩,rfl⟩
   rw[hw,if_neg au,hr,if_pos rfl]
  rw[List.map_cons];unfold fD;rw[e,if_pos rfl];refine RJ T hS (fun y hy=>h y (List.mem_cons_of_mem _ hy)) s2 fun b hb=>?_
  injection hb with hb
  subst hb;exact⟨hx.2,fun y hy=>s1 y hy⟩
def qoP{ρ:Rl->Int}{S:Rl->Prop}(hS:∀x,S x->∃q,x=rl q)(T:dM S ρ){a b:List PU}(sa:nR ρ a)(sb:nR ρ b)(ea:Ends S a)(eb:Ends S b)(hne:aA a b≠[])
 (hok:bK (fB ((aA a b).map aW))=true):qQ a b ((aA a b).map aW) (fB ((aA a b).map aW))=0:=by
 have hpf:=fP T sa sb ea eb;have hps:=uZ T ea eb;have hcert:fD (jY (aA a b)) none ((aA a b).map aW)=0:=by
  refine RJ T (fun x hx=>by obtain⟨q,e⟩:=hS x hx;rw[e];exact Ea q) (fun x hx=>?_) (by rw[hpf];exact(nD T sb eb sa ea).1) fun b hb=>MI
  have hx':=hx;rw[hpf] at hx';obtain⟨h1,h2⟩:=hps x hx';refine⟨hx,h1,h2,?_,?_⟩
  ·obtain⟨q,e⟩:=hS _ h1.1;unfold aW;dsimp only;rw[e,rF];exact Ea _
  ·obtain⟨q,e⟩:=hS _ h1.2;unfold aW;dsimp only;rw[e,rF];exact Ea _
 unfold qQ;have h0:¬(aA a b).isEmpty=true:=fun h=>hne (List.isEmpty_iff.1 h)
 have hm:((aA a b).map aW).map (·.i)=(aA a b).map (·.1):=(by rw[List.map_map];rfl);rw[if_neg h0,hcert,if_neg au,hm,if_neg (fun h=>h rfl),hok,if_neg au,if_neg (fun h=>h rfl)]
end Go.Via
namespace Go.Via
open Go
def jG(a:Rat)(u:Int)(r:Rat):Int:=if dB a=0 then u*dB r else if u*dB r=0∨dB a=u*dB r then dB a else dB a*mJ (a*a) r
def Qh(a:Rat)(u:Int)(r:Rat)(v:Int)(s:Rat):Int:=
 if jG a u r≠v*dB s∨jG a u r=0 then(if v*dB s<jG a u r then 1 else jG a u r-v*dB s)
 else jG a u r*jG (a*a+r-s) (u*dB a) (4*(a*a*r))
def nH(x:Rl):Int:=if x.n=true then-1 else 1
def qiV(x y:Rl):Int:=if Qh (x.p-y.p) (nH x) x.r (nH y) y.r<0 then-1 else if 0<Qh (x.p-y.p) (nH x) x.r (nH y) y.r then 1 else 0
theorem H6(x:Rl):dB (jD x)=nH x:=Ub x
def qoQ{a b r:Rat}(hb:b*b=1):jG a (dB b) r=pU a b r:=by
 unfold jG pU;rw[hb];have e1:(1:Rat)*r=r:=dQ
 rw[e1]
 by_cases h:dB a=0
 ·rw[if_pos h]
  by_cases h2:dB b*dB r=0
  ·rw[if_pos (.inl h2),h2,h]
  ·rw[if_neg (fun e=>e.elim h2 fun e=>h2 (by rw[<-e,h])),if_pos h]
 ·rw[if_neg h]
  by_cases h2:dB b*dB r=0∨dB a=dB b*dB r
  ·rw[if_pos h2,if_pos h2]
  ·rw[if_neg h2,if_neg h2,if_neg h]
theorem Eb(a b:Rat):dB (a*b)=dB a*dB b:=by
 rcases eH a with⟨h,e⟩|⟨h,e⟩|⟨h,e⟩<;>rcases eH b with⟨h',e'⟩|⟨h',e'⟩|⟨h',e'⟩<;>rw[e,e']
 ·rw[TY (Rat.mul_pos h h')];rfl
 ·rw[TZ (by have:=Rat.mul_pos h (show 0< -b by grind);grind)];rfl
 ·rw[h',Rat.mul_zero];rfl
 ·rw[TZ (by have:=Rat.mul_pos (show 0< -a by grind) h';grind)];rfl
 ·rw[TY (by have:=Rat.mul_pos (show 0< -a by grind) (show 0< -b by grind);grind)];rfl
 ·rw[h',Rat.mul_zero];rfl
 ·rw[h,Rat.zero_mul];rfl
 ·rw[h,Rat.zero_mul];rfl
 ·rw[h,Rat.zero_mul];rfl
def qeD{A a b r:Rat}(hb:b*b=1):jG A (dB b*dB a) (4*(a*a*r))=pU A (2*(a*b)) r:=by
 have e0:dB (4*(a*a*r))=dB a*dB a*dB r:=(by rw[Eb,Eb,Eb];show 1*_=_;rw[Int.one_mul]);have e1:dB (2*(a*b))=dB a*dB b:=(by rw[Eb,Eb];show 1*_=_;rw[Int.one_mul]);have e2:2*(a*b)*(2*(a*b))*r=4*(a*a*r):=dQ;have e3:dB b*dB a*(dB a*dB a*dB r)=dB a*dB b*dB r:=by
  rcases eH a with⟨_,e⟩|⟨_,e⟩|⟨_,e⟩<;>rw[e]<;>simp<;>omega
 unfold jG pU;rw[e0,e1,e2,e3]
 by_cases h:dB A=0
 ·rw[if_pos h]
  by_cases h2:dB a*dB b*dB r=0
  ·rw[if_pos (.inl h2),h2,h]
  ·rw[if_neg (fun e=>e.elim h2 fun e=>h2 (by rw[<-e,h])),if_pos h]
 ·rw[if_neg h]
  by_cases h2:dB a*dB b*dB r=0∨dB A=dB a*dB b*dB r
  ·rw[if_pos h2,if_pos h2]
  ·rw[if_neg h2,if_neg h2,if_neg h]
def Ec(a b r:Rat):pU a b r= -1∨pU a b r=0∨pU a b r=1:=by
 have hs:∀q,dB q= -1∨dB q=0∨dB q=1:=fun q=>qb3
 have hc:∀p q,mJ p q= -1∨mJ p q=0∨mJ p q=1:=fun p q=>qhd
 have hm:∀{a b:Int},(a= -1∨a=0∨a=1)->(b= -1∨b=0∨b=1)->(a*b= -1∨a*b=0∨a*b=1):=fun h h'=>by
  rcases h with h|h|h<;>rcases h' with h'|h'|h'<;>simp[h,h']
 unfold pU
 split
 ·exact hs _
 ·split
  ·exact hm (hs _) (hs _)
  ·exact hm (hs _) (hc _ _)
def qoR(x y:Rl):qiV x y=aY x y:=by
 have h1:jG (x.p-y.p) (nH x) x.r=pU (x.p-y.p) (jD x) x.r:=(by rw[<-H6];exact qoQ (Ja x));have h2:jG ((x.p-y.p)*(x.p-y.p)+x.r-y.r) (nH x*dB (x.p-y.p)) (4*((x.p-y.p)*(x.p-y.p)*x.r))=pU ((x.p-y.p)*(x.p-y.p)+x.r-y.r) (2*((x.p-y.p)*jD x)) x.r:=by
  rw[<-H6];exact qeD (Ja x)
 have h3:dB (-jD y)*dB y.r= -(nH y*dB y.r):=(by rw[Ha,H6,Int.neg_mul]);have r1:=Ec (x.p-y.p) (jD x) x.r;have r2:=Ec ((x.p-y.p)*(x.p-y.p)+x.r-y.r) (2*((x.p-y.p)*jD x)) x.r;have r3:nH y*dB y.r= -1∨nH y*dB y.r=0∨nH y*dB y.r=1:=by
  unfold nH;rcases eH y.r with⟨_,e⟩|⟨_,e⟩|⟨_,e⟩<;>rw[e]<;>split<;>simp
 unfold qiV Qh aY;rw[h1,h2,h3]
 generalize pU (x.p-y.p) (jD x) x.r=m at*
 generalize pU ((x.p-y.p)*(x.p-y.p)+x.r-y.r) (2*((x.p-y.p)*jD x)) x.r=k at*
 generalize nH y*dB y.r=n at*
 rcases r1 with rfl|rfl|rfl<;>rcases r3 with rfl|rfl|rfl<;>rcases r2 with rfl|rfl|rfl<;>decide
theorem qco(q:Rat):Ap q=true↔∃y:Rat,q=y*y:=by
 constructor
 ·intro h;unfold Ap at h;simp only[Bool.and_eq_true,decide_eq_true_eq,beq_iff_eq] at h;obtain⟨⟨h0,h1⟩,h2⟩:=h;refine⟨mX q,?_⟩;have hd:bU q.den≠0:=fun e=>by rw[e] at h2;exact q.den_nz h2.symm
  unfold mX;rw[Rat.divInt_mul_divInt];have e1:((bU q.num.natAbs:Nat):Int)*((bU q.num.natAbs:Nat):Int)=q.num:=by
   rw[<-Int.natCast_mul,h1];omega
  have e2:((bU q.den:Nat):Int)*((bU q.den:Nat):Int)=(q.den:Int):=by
   rw[<-Int.natCast_mul,h2]
  rw[e1,e2];exact(Rat.num_divInt_den q).symm
 ·rintro⟨y,rfl⟩;exact Zl y
theorem qcp{x r:Rat}(h:x≠0):Ap (x*x*r)=Ap r:=by
 rw[Bool.eq_iff_iff,qco,qco]
 constructor
 ·rintro⟨y,e⟩;refine⟨y/x,?_⟩;have:r=x*x*r/(x*x):=by
   rw[Rat.mul_comm,Rat.mul_div_cancel];intro e0;rcases Rat.mul_eq_zero.1 e0 with e|e<;>exact h e
  rw[this,e]
  grind
 ·rintro⟨y,rfl⟩;exact⟨x*y,dQ⟩
def ofM(p r:Rat)(n:Bool):Rl:=if Ap r=true then rl (p+if n=true then-mX r else mX r) else⟨p,r,n⟩
def lS(f:Qd)(t:Rl):Qd:=if dB t.r=0 then⟨rE f t.p,0,0⟩ else⟨f.c0+f.c2*(t.r-t.p*t.p),f.c1+2*(t.p*f.c2),0⟩
def atM(f:Qd)(t:Rl):Rl:=ofM ((lS f t).c0+(lS f t).c1*t.p) ((lS f t).c1*(lS f t).c1*t.r) (t.n !=decide (dB (lS f t).c1<0))
theorem qtk{f:Qd}{t:Rl}(h:t.ok):atM f t=zN f t:=by
 unfold atM
 by_cases h0:t.r=0
 ·have ht:=h.rat h0;rw[ht,rF];have e0:lS f (rl t.p)=⟨rE f t.p,0,0⟩:=by unfold lS rl;rw[if_pos BX]
  rw[e0];unfold ofM rl;dsimp only;have e:(0:Rat)*0*0=0:=dQ
  rw[e,Ob,if_pos rfl,FD]
  congr 1
  rw[Rat.zero_mul,Rat.add_zero]
  split<;>grind
 ·have hs:dB t.r≠0:=fun e=>by rcases eH t.r with⟨_,e'⟩|⟨_,e'⟩|⟨e',_⟩<;>simp_all
  have hq:Ap t.r=false:=Wn
  have e1:f.c1+2*(t.p*f.c2)=vz f t.p:=(by unfold vz;grind);unfold lS;rw[if_neg hs];dsimp only;rw[e1,Oe h h0];have e2:f.c0+f.c2*(t.r-t.p*t.p)+vz f t.p*t.p=rE f t.p+f.c2*t.r:=(by unfold rE vz;grind);rw[e2];unfold ofM
  by_cases hz:vz f t.p=0
  ·rw[hz];have e:(0:Rat)*0*t.r=0:=dQ
   have e3:jD t*0=0:=dQ;rw[e,e3,Ob,if_pos rfl,FD,BX];unfold rl
   congr 1
   split<;>grind
  ·rw[qcp hz,hq,if_neg au,Eb,H6]
   congr 1
   unfold nH;rcases eH (vz f t.p) with⟨_,e⟩|⟨_,e⟩|⟨e,_⟩
   ·rw[e];cases t.n<;>decide
   ·rw[e];cases t.n<;>decide
   ·exact absurd e hz
end Go.Via
namespace Go.Via
open Go
theorem Xo{a b:Int}:Bz a b<=0↔a<=b:=by exact ZN
def Xp{S1 S2:Rl->Prop}{r1 r2:Rl->Int}(T1:dM S1 r1)(T2:dM S2 r2){a b:oZ}(a1:S1 a.1)(b1:S1 b.1)(a2:S2 a.1)(b2:S2 b.1):aI r1 a<=aI r1 b↔aI r2 a<=aI r2 b:=by
 have e1:=Hf T1 a1 b1;have e2:=Hf T2 a2 b2;rw[<-Xo,<-e1,e2,Xo]
def y7{S1 S2:Rl->Prop}{r1 r2:Rl->Int}(T1:dM S1 r1)(T2:dM S2 r2){l:List PU}(e1:Ends S1 l)(e2:Ends S2 l)(h:nR r1 l):nR r2 l:=by
 refine⟨?_,fun x hx=>?_⟩
 ·refine List.Pairwise.imp_of_mem (fun {x y} hx hy hh=>?_) h.1;exact(Xp T1 T2 (a:=x.i.e) (b:=y.i.b) (e1 x hx).2 (e1 y hy).1 (e2 x hx).2 (e2 y hy).1).1 hh
 ·have h0:=h.2 x hx;have:=(Xp T1 T2 (a:=x.i.e) (b:=x.i.b) (e1 x hx).2 (e1 x hx).1 (e2 x hx).2 (e2 x hx).1);omega
def qp(l:List PU):List Rl:=l.flatMap fun u=>[u.i.f,u.i.t]
theorem jK{l:List PU}{u:PU}(h:u∈l):u.i.f∈qp l∧u.i.t∈qp l:=⟨List.mem_flatMap.2 ⟨u,h,bz⟩,List.mem_flatMap.2 ⟨u,h,bz⟩⟩
def vF{l:List PU}(h:Ends fO l){x:Rl}(hx:x∈qp l):fO x:=by
 obtain⟨u,hu,he⟩:=List.mem_flatMap.1 hx;simp at he;rcases he with rfl|rfl
 ·exact(h u hu).1
 ·exact(h u hu).2
structure Two(a b:List PU)(m:Rl)(S:Rl->Prop)(ρ:Rl->Int):Prop where
 T:dM S ρ
 ea:Ends S a
 eb:Ends S b
 sa:nR ρ a
 sb:nR ρ b
 sm:S m
 only:∀x,S x->fO x∨x=m
def qiW{a b:List PU}{m:Rl}(hm:m.ok)(sa:nR gU a)(sb:nR gU b)(ea:Ends fO a)(eb:Ends fO b):∃S ρ,Two a b m S ρ:=by
 have O:=qcl hm;have hE:∀x∈m::(qp a++qp b),fO x∨x=m:=fun x hx=>by
  rcases List.mem_cons.1 hx with e|e
  ·exact .inr e
  ·rcases List.mem_append.1 e with e|e
   ·exact .inl (vF ea e)
   ·exact .inl (vF eb e)
 have T:=Uk O (E:=m::(qp a++qp b)) fun x hx=>by
  rcases hE x hx with⟨z,hz⟩|e
  ·exact .inl ⟨_,hz⟩
  ·exact .inr e
 have ea':Ends (fun x=>x∈m::(qp a++qp b)) a:=fun u hu=>⟨by simp[(jK hu).1],by simp[(jK hu).2]⟩
 have eb':Ends (fun x=>x∈m::(qp a++qp b)) b:=fun u hu=>⟨by simp[(jK hu).1],by simp[(jK hu).2]⟩
 exact⟨_,_,⟨T,ea',eb',y7 jM T ea ea' sa,y7 jM T eb eb' sb,List.mem_cons_self ..,hE⟩⟩
def Jl(i:Iv)(t:Rl):Bool:=(decide (aY i.f t<0)||decide (aY i.f t=0)&& !i.fo)&&(decide (aY t i.t<0)||decide (aY t i.t=0)&& !i.tp)
def L6{S:Rl->Prop}{ρ:Rl->Int}(T:dM S ρ){i:Iv}{t:Rl}(h:S i.f∧S i.t)(ht:S t):Jl i t=true↔aI ρ i.b<=2*ρ t∧2*ρ t<aI ρ i.e:=by
 unfold Jl;have h1:=T.lt h.1 ht;have h2:=T.zero h.1 ht;have h3:=T.lt ht h.2;have h4:=T.zero ht h.2;simp only[Bool.or_eq_true,Bool.and_eq_true,Bool.not_eq_true',decide_eq_true_eq,h1,h2,h3,h4];unfold aI Iv.b Iv.e;dsimp only;exact ZA
def atL(a b:List PU)(t:Rl):Option Rl:=a.findSome? fun x=>b.findSome? fun y=>if(Jl x.i t&&Jl y.i t)=true then some (zN (d2 x.f y.f) t) else none
def Xq{a b:List PU}{t d:Rl}(h:atL a b t=some d):∃x∈a,∃y∈b,Jl x.i t=true∧Jl y.i t=true∧d=zN (d2 x.f y.f) t:=by
 obtain⟨x,hx,h1⟩:=List.exists_of_findSome?_eq_some h;obtain⟨y,hy,h2⟩:=List.exists_of_findSome?_eq_some h1
 split at h2
 ·rename_i hc
  rw[Bool.and_eq_true] at hc;cases h2;exact⟨x,hx,y,hy,hc.1,hc.2,rfl⟩
 ·cases h2
def qtm{S:Rl->Prop}{ρ:Rl->Int}(hS:∀x,S x->uX x)(T:dM S ρ){a b:List PU}(ea:Ends S a)(eb:Ends S b)(sa:nR ρ a)(sb:nR ρ b):qez ((aA a b).map aW):=fun p hp=>by
 obtain⟨z,hz,rfl⟩:=List.mem_map.1 hp;rw[fP T sa sb ea eb] at hz;obtain⟨x,hx,y,hy,hm⟩:=(nD T sb eb sa ea).2 z hz;obtain⟨_,e2,s1,s2,_⟩:=nC T (ea x hx) (eb y hy) hm;obtain⟨u,hu⟩:=hS _ s1;obtain⟨v,hv⟩:=hS _ s2;refine⟨rE z.2 u,rE z.2 v,?_,?_,?_,?_⟩
 ·rw[e2];exact D6 _ _ _
 ·rw[e2];exact D6 _ _ _
 ·unfold aW;rw[hu,rF]
 ·unfold aW;rw[hv,rF]
def ZQ{a b:List PU}(sa:nR gU a)(sb:nR gU b)(ea:Ends fO a)(eb:Ends fO b):qez ((aA a b).map aW):=
 qtm (fun x ⟨z,hz⟩=>⟨_,hz⟩) jM ea eb sa sb
def Xt:∀{l:List iT} {q:Rat},qez l->∃M,l.foldl (fun o x=>fM o (fM x.a x.b)) (rl q)=rl M∧q<=M∧∀p∈l,∀u v,p.a=rl u->p.b=rl v->u<=M∧v<=M
 |[],q,_=>⟨q,rfl,Rat.le_refl,bz⟩
 |p::l,q,h=>by
  obtain⟨u,v,hu,hv,ea,eb⟩:=h p (List.mem_cons_self ..);obtain⟨M,h1,h2,h3⟩:=Xt (l:=l) (q:=Xm q (Xm u v)) fun x hx=>h x (List.mem_cons_of_mem _ hx)
  have hq:q<=Xm q (Xm u v)∧u<=Xm q (Xm u v)∧v<=Xm q (Xm u v):=(by unfold Xm;grind);refine⟨M,?_,Rat.le_trans hq.1 h2,fun x hx u' v' eu ev=>?_⟩
  ·rw[List.foldl_cons,ea,eb,sJ,sJ];exact h1
  ·rcases List.mem_cons.1 hx with rfl|hx
   ·rw[ea] at eu;rw[eb] at ev;have e1:u=u':=congrArg Rl.p eu;have e2:v=v':=congrArg Rl.p ev;rw[<-e1,<-e2];exact⟨Rat.le_trans hq.2.1 h2,Rat.le_trans hq.2.2 h2⟩
   ·exact h3 x hx u' v' eu ev
def Xu{l:List iT}(h:qez l)(hne:l≠[]):∃M,fB l=rl M∧∀p∈l,∀u v,p.a=rl u->p.b=rl v->u<=M∧v<=M:=by
 cases l with
 |nil=>exact absurd rfl hne
 |cons p l=>
  obtain⟨u,v,hu,hv,ea,eb⟩:=h p (List.mem_cons_self ..);obtain⟨M,h1,h2,h3⟩:=Xt (l:=p::l) (q:=u) h;exact⟨M,by show List.foldl _ p.a (p::l)=_;rw[ea];exact h1,h3⟩
end Go.Via
namespace Go.Via
open Go
theorem OL{a b:List PU}(sa:nR gU a)(sb:nR gU b)(ea:Ends fO a)(eb:Ends fO b)(hne:aA a b≠[]):qZ ((aA a b).map aW)=fB ((aA a b).map aW):=
 (OH (ZQ sa sb ea eb) VE).symm
theorem Xv{a b:List PU}(sa:nR gU a)(sb:nR gU b)(ea:Ends fO a)(eb:Ends fO b):aA a b=aA b a:=ZO jM sa sb ea eb
def qiX{a b:List PU}(sa:nR gU a)(sb:nR gU b)(ea:Ends fO a)(eb:Ends fO b)(hne:aA a b≠[]):∃M,fB ((aA a b).map aW)=rl M:=by
 obtain⟨M,h,_⟩:=Xu (ZQ sa sb ea eb) VE;exact⟨M,h⟩
def qiY{a b:List PU}(sa:nR gU a)(sb:nR gU b)(ea:Ends fO a)(eb:Ends fO b)(hne:aA a b≠[]):qQ a b ((aA a b).map aW) (fB ((aA a b).map aW))=0:=by
 obtain⟨M,h⟩:=qiX sa sb ea eb hne;exact qoP (fun x ⟨z,hz⟩=>⟨_,hz⟩) jM sa sb ea eb hne (by rw[h];exact Ea M)
theorem ZR{a b:List PU}{c:List iT}{m:Rl}(sa:nR gU a)(sb:nR gU b)(ea:Ends fO a)(eb:Ends fO b)(hc:∀p∈c,uX p.i.f∧uX p.i.t):qQ a b c m=CJ a b c m:=by
 have O:=qcl (Oc 0)
 let E:=qp a++qp b++c.flatMap fun p=>[p.i.f,p.i.t]
 have hE:∀x∈E,uX x:=fun x hx=>by
  rcases List.mem_append.1 hx with e|e
  ·rcases List.mem_append.1 e with e|e
   ·obtain⟨z,hz⟩:=vF ea e;exact⟨_,hz⟩
   ·obtain⟨z,hz⟩:=vF eb e;exact⟨_,hz⟩
  ·obtain⟨p,hp,he⟩:=List.mem_flatMap.1 e;have:=hc p hp;simp at he;rcases he with rfl|rfl
   ·exact this.1
   ·exact this.2
 have T:=Uk O (E:=E) fun x hx=> .inl (hE x hx)
 have ea':Ends (fun x=>x∈E) a:=fun u hu=>⟨List.mem_append.2 (.inl (List.mem_append.2 (.inl (jK hu).1))),List.mem_append.2 (.inl (List.mem_append.2 (.inl (jK hu).2)))⟩
 have eb':Ends (fun x=>x∈E) b:=fun u hu=>⟨List.mem_append.2 (.inl (List.mem_append.2 (.inr (jK hu).1))),List.mem_append.2 (.inl (List.mem_append.2 (.inr (jK hu).2)))⟩
 refine qti T (y7 jM T ea ea' sa) (y7 jM T eb eb' sb) ea' eb' (fun p hp _ _=>⟨List.mem_append.2 (.inr (List.mem_flatMap.2 ⟨p,hp,bz⟩)),List.mem_append.2 (.inr (List.mem_flatMap.2 ⟨p,hp,bz⟩))⟩) fun hr hne=>OH (fun p hp=>?_) hne
 have hr:=hr p hp;unfold o8 at hr;obtain⟨x,hx,hh⟩:=List.any_eq_true.1 hr;rw[Bool.and_eq_true,decide_eq_true_eq] at hh;rw[fP jM sa sb ea eb] at hx;obtain⟨u,hu,v,hv,hm⟩:=(nD jM sb eb sa ea).2 x hx;obtain⟨_,e2,_⟩:=nC jM (ea u hu) (eb v hv) hm;obtain⟨⟨p1,h1⟩,⟨p2,h2⟩⟩:=hc p hp;have e3:=hh.2;refine⟨rE x.2 p1,rE x.2 p2,by rw[e2];exact D6 _ _ _,by rw[e2];exact D6 _ _ _,?_,?_⟩
 ·rw[<-e3];unfold aW;dsimp only;rw[h1,rF]
 ·rw[<-e3];unfold aW;dsimp only;rw[h2,rF]
def Xw{S:Rl->Prop}{ρ:Rl->Int}(T:dM S ρ)(hok:∀x,S x->bK x=true)(hat:∀f x,S x->bK (zN f x)=true){L:List (Iv×Qd)}:∀{l:List (Iv×Qd)} {before:Option Iv},
 (∀z∈l,(S z.1.f∧S z.1.t)∧aI ρ z.1.b<aI ρ z.1.e∧∃x∈L,aW (z.1,x.2)=aW z∧(S x.1.f∧S x.1.t)∧aI ρ x.1.b<=aI ρ z.1.b∧aI ρ z.1.e<=aI ρ x.1.e)->
 l.Pairwise (fun x y=>aI ρ x.1.e<=aI ρ y.1.b)->(∀b,before=some b->S b.t∧∀x∈l,aI ρ b.e<=aI ρ x.1.b)->fD (jY L) before (l.map aW)=0
 |[],_,_,_,_=>rfl
 |z::l,before,h,hs,hb=>by
  obtain⟨hz,hlt,x,hL,hf,hx,k1,k2⟩:=h z (List.mem_cons_self ..);obtain⟨s1,s2⟩:=List.pairwise_cons.1 hs;have e:jY L before (aW z)=0:=by
   have ei:(aW z).i=z.1:=rfl;have ha:bK (aW z).a=true:=hat _ _ hz.1;have hb':bK (aW z).b=true:=hat _ _ hz.2;unfold jY;rw[ei,hok _ hz.1,hok _ hz.2,if_neg au,(oQ T hz.1 hz.2).2 hlt,if_neg au,ha,hb',if_neg au];have hw:ul before z.1=false:=by
    cases before with
    |none=>rfl
    |some b=>
     have:=hb b rfl;unfold ul;dsimp only;rw[(OJ T this.1 hz.1).2 (this.2 z (List.mem_cons_self ..))];rfl
   have hr:o8 L (aW z)=true:=by
    unfold o8;rw[List.any_eq_true];refine⟨x,hL,?_⟩;rw[Bool.and_eq_true,decide_eq_true_eq];exact⟨(HY T hx hz hlt).2 ⟨k1,k2⟩,hf⟩
   rw[hw,if_neg au,hr,if_pos rfl]
  rw[List.map_cons];unfold fD;rw[e,if_pos rfl];refine Xw T hok hat (fun y hy=>h y (List.mem_cons_of_mem _ hy)) s2 fun b hb=>?_
  injection hb with hb
  subst hb;exact⟨hz.2,fun y hy=>s1 y hy⟩
def qiZ{f:Qd}{x:Rl}(h:x.ok):(zN f x).ok:=by
 by_cases h0:x.r=0
 ·rw[h.rat h0,rF];exact Oc _
 ·rw[Oe h h0]
  by_cases hs:vz f x.p=0
  ·left
   rw[hs];refine⟨by show(0:Rat)*0*x.r=0;grind,?_⟩;have e:jD x*0=0:=dQ
   show decide (dB (jD x*0)<0)=false;rw[e];rfl
  ·right
   have hr:0<x.r:=by rcases h with h|h;exact absurd h.1 h0;exact h.1
   have hq:Ap x.r=false:=Wn
   refine⟨?_,by show Ap (vz f x.p*vz f x.p*x.r)=false;rw[qcp hs];exact hq⟩;show 0<vz f x.p*vz f x.p*x.r;have h1:=pV (vz f x.p);have h2:vz f x.p*vz f x.p≠0:=fun e=>by rcases Rat.mul_eq_zero.1 e with e|e<;>exact hs e
   exact Rat.mul_pos dQ hr
def H7(m:Rl)(z:Iv×Qd):List (Iv×Qd):=if(decide (aY z.1.f m<0)&&decide (aY m z.1.t<0))=true then[(⟨z.1.f,m,z.1.fo,false⟩,z.2),(⟨m,z.1.t,true,z.1.tp⟩,z.2)] else[z]
def Em(m:Rl)(l:List (Iv×Qd)):List (Iv×Qd):=l.flatMap (H7 m)
def rP{S:Rl->Prop}{ρ:Rl->Int}(T:dM S ρ){m:Rl}(hm:S m){z:Iv×Qd}(hz:S z.1.f∧S z.1.t)(hlt:aI ρ z.1.b<aI ρ z.1.e):
 (∀w∈H7 m z,(S w.1.f∧S w.1.t)∧aI ρ w.1.b<aI ρ w.1.e∧w.2=z.2∧aI ρ z.1.b<=aI ρ w.1.b∧aI ρ w.1.e<=aI ρ z.1.e)∧
 (H7 m z).Pairwise (fun x y=>aI ρ x.1.e<=aI ρ y.1.b)∧(∀k,memB ρ ((H7 m z).map (·.1)) k=memB ρ [z.1] k)∧
 (∃w∈H7 m z,(aW w).a=(aW z).a)∧(∃w∈H7 m z,(aW w).b=(aW z).b):=by
 unfold H7
 split
 ·rename_i h
  rw[Bool.and_eq_true,decide_eq_true_eq,decide_eq_true_eq,T.lt hz.1 hm,T.lt hm hz.2] at h;have q1:=oI ρ z.1.b;have q2:=oI ρ z.1.e;have f1:z.1.b.1=z.1.f:=rfl;have f2:z.1.e.1=z.1.t:=rfl;rw[f1] at q1;rw[f2] at q2;have e1:aI ρ (Iv.b ⟨z.1.f,m,z.1.fo,false⟩)=aI ρ z.1.b:=rfl;have e2:aI ρ (Iv.e ⟨z.1.f,m,z.1.fo,false⟩)=2*ρ m+1:=rfl;have e3:aI ρ (Iv.b ⟨m,z.1.t,true,z.1.tp⟩)=2*ρ m+1:=rfl;have e4:aI ρ (Iv.e ⟨m,z.1.t,true,z.1.tp⟩)=aI ρ z.1.e:=rfl;refine⟨fun w hw=>?_,?_,fun k=>?_,⟨_,List.mem_cons_self ..,rfl⟩,⟨_,List.mem_cons_of_mem _ (List.mem_cons_self ..),rfl⟩⟩
  ·simp at hw;rcases hw with rfl|rfl
   ·refine⟨⟨hz.1,hm⟩,?_,rfl,?_,?_⟩<;>dsimp only<;>(try rw[e1])<;>(try rw[e2])<;>omega
   ·refine⟨⟨hm,hz.2⟩,?_,rfl,?_,?_⟩<;>dsimp only<;>(try rw[e3])<;>(try rw[e4])<;>omega
  ·refine List.pairwise_cons.2 ⟨fun y hy=>?_,List.pairwise_singleton ..⟩;rw[List.mem_singleton] at hy;rw[hy];dsimp only;rw[e2,e3];exact Int.le_refl _
  ·unfold memB;simp only[List.map_cons,List.map_nil,List.any_cons,List.any_nil,Bool.or_false];rw[e1,e2,e3,e4];rw[Bool.eq_iff_iff];simp only[Bool.or_eq_true,Bool.and_eq_true,decide_eq_true_eq];omega
 ·refine⟨fun w hw=>?_,List.pairwise_singleton ..,fun k=>rfl,⟨_,List.mem_cons_self ..,rfl⟩,⟨_,List.mem_cons_self ..,rfl⟩⟩
  rw[List.mem_singleton] at hw;rw[hw];exact⟨hz,hlt,rfl,Int.le_refl _,Int.le_refl _⟩
end Go.Via
namespace Go.Via
open Go
structure iY(α:Type)(c:α->List Value)(k:Nat):Prop where
 len:∀x,(c x).length=k
 one:∀x,∀v∈c x,v.oneCell'=true
section
variable{α:Type}{c:α->List Value}{k:Nat}
def ai(c:α->List Value)(l:List α):List Value:=l.flatMap c
theorem qi0:ai c []=[]:=rfl
theorem iL(x:α)(l:List α):ai c (x::l)=c x++ai c l:=List.flatMap_cons
theorem pK(l m:List α):ai c (l++m)=ai c l++ai c m:=List.flatMap_append
theorem rQ(l:List α)(x:α):ai c l++c x=ai c (l++[x]):=by rw[pK,iL,qi0,List.append_nil]
theorem iY.length(h:iY α c k):∀(l:List α),(ai c l).length=l.length*k
 |[]=>by simp[ai]
 |x::l=>by rw[iL,List.length_append,h.len,iY.length h l,List.length_cons,Nat.succ_mul,Nat.add_comm]
theorem iY.get(h:iY α c k):∀{l:List α} {i:Nat} {x:α},l[i]? =some x->((ai c l).drop (i*k)).take k=c x
 |[],i,x,hx=>by simp at hx
 |y::l,0,x,hx=>by
  simp at hx;subst hx;rw[iL,Nat.zero_mul,List.drop_zero,List.take_append_of_le_length Uo,List.take_of_length_le Uo]
 |y::l,i+1,x,hx=>by
  have e1:(i+1)*k=(c y).length+i*k:=Ur;rw[iL,e1,List.drop_length_add_append];exact iY.get h qb4
def iY.sub(h:iY α c k){l:List α}{i:Nat}{x:α}(hx:l[i]? =some x)(o n:Nat)(hn:o+n<=k):((ai c l).drop (i*k+o)).take n=((c x).drop o).take n:=by
 rw[<-h.get hx,<-List.drop_drop,List.drop_take,List.take_take]
 congr 1
 omega
def iY.ones(h:iY α c k)(l:List α):∀v∈ai c l,v.oneCell'=true:=fun v hv=>by
 obtain⟨x,_,hv⟩:=List.mem_flatMap.1 hv;exact h.one x v hv
def iY.ne(h:iY α c k)(hk:0<k){l:List α}(hl:0<l.length):ai c l≠[]:=fun e=>by
 have:=h.length l;rw[e,List.length_nil] at this;have:=Nat.mul_pos hl hk;omega
theorem iY.set(h:iY α c k):∀{l:List α} {i:Nat} (x:α),i<l.length->(ai c l).take (i*k)++c x++(ai c l).drop (i*k+k)=ai c (l.set i x)
 |[],i,x,hi=>by simp at hi
 |y::l,0,x,_=>by
  rw[Nat.zero_mul,List.take_zero,List.nil_append,Nat.zero_add,iL,List.drop_append_of_le_length Uo,List.drop_of_length_le Uo,List.nil_append,List.set_cons_zero,iL]
 |y::l,i+1,x,hi=>by
  have ih:=iY.set h (l:=l) (i:=i) x qfd;have e1:(i+1)*k=(c y).length+i*k:=Ur;rw[iL,e1,Nat.add_assoc,List.take_length_add_append,List.drop_length_add_append,List.set_cons_succ,iL,<-ih];simp
end
theorem fH{α:Type}{l:List α}{i:Nat}{x:α}(hx:l[i]? =some x):l.take i++[x]=l.take (i+1):=by
 rw[List.take_add_one,hx];rfl
end Go.Via
namespace Go.Via
open Go Go.RowKit Go.Sort Go.Shelf Go.Proofs
section
variable{α:Type}[Inhabited α]{c:α->List Value}{k:Nat}
theorem Ed{α:Type}[Inhabited α]{l:List α}{i:Nat}(h:i<l.length):l.toArray[i]! =l[i]:=by
 rw[getElem!_pos l.toArray i pX];rfl
theorem qeE{α:Type}[Inhabited α]{l:List α}{i:Nat}{x:α}(h:l[i]? =some x):l[i]! =x:=by
 rw[List.getElem!_eq_getElem?_getD,h];rfl
def qi1(h:iY α c k){l:List α}{t:Nat}(ht:t<l.length*k):∃x,l[t/k]? =some x∧(ai c l)[t]? =(c x)[t%k]? :=by
 have k0:0<k:=Nat.pos_of_ne_zero (by rintro rfl;simp at ht);have hi:t/k<l.length:=Nat.div_lt_of_lt_mul (by rw[Nat.mul_comm];exact ht);have hx:l[t/k]? =some l[t/k]:=List.getElem?_eq_getElem hi;refine⟨_,hx,?_⟩;have hm:t%k<k:=Nat.mod_lt _ k0;rw[<-h.get hx,List.getElem?_take,if_pos hm,List.getElem?_drop]
 congr 1
 rw[Nat.mul_comm];exact(Nat.div_add_mod t k).symm
theorem Xx(h:iY α c k)(l:List α):Go.Sort.flatK c k l.toArray=(ai c l).toArray:=by
 refine Go.Sort.ext_get! (by simp[h.length]) fun t ht=>?_
 have ht':t<l.length*k:=(by simpa using ht);obtain⟨x,hx,hc⟩:=qi1 h ht';rw[get_flatK _ _ _ _ (by simpa using ht')];have k0:0<k:=Nat.pos_of_ne_zero (by rintro rfl;simp at ht');have hm:t%k<(c x).length:=(by rw[h.len];exact Nat.mod_lt _ k0);have hi:t/k<l.length:=(List.getElem?_eq_some_iff.1 hx).1;rw[Ed hi,(List.getElem?_eq_some_iff.1 hx).2,qeE (List.getElem?_eq_getElem hm)];have hr:t<(ai c l).length:=(by rw[h.length];exact ht');rw[Ed hr];rw[List.getElem?_eq_getElem hr,List.getElem?_eq_getElem hm] at hc;exact(Option.some.inj hc).symm
def RN(h:iY α c k){B:Bs}{w:World}{L:List aF}(hL:aX B L w){j g e n:Nat}{l:List α}(hk:L[j]? =some ⟨some g,e,ai c l,n,true⟩)(hn0:n≠0):HoldsK c k w g 0 l.toArray:=by
 unfold HoldsK;rw[Xx h];intro t ht;have ht':t<(ai c l).length:=by simpa using ht
 obtain⟨g',hg',h2⟩:=hL.cell (k:=j) hk (List.getElem?_eq_getElem ht');cases hg';rw[Nat.zero_add];exact⟨by rw[h2,Ed ht'];rfl,hL.loose hk rfl rfl hn0 t⟩
def qoS{vs:List Value}{cur:Array Value}(h:vs.length<=cur.size):(putCells id 0 vs.toArray cur).size=cur.size∧(putCells id 0 vs.toArray cur).toList.take vs.length=vs:=by
 refine⟨by simp[putCells],?_⟩
 apply List.ext_getElem?
 intro i;rw[List.getElem?_take]
 split
 ·rename_i hi
  rw[List.getElem?_eq_getElem hi,Array.getElem?_toList];unfold putCells;rw[Array.getElem?_mapIdx,Array.getElem?_eq_getElem ae];simp only[Option.map_some,Nat.zero_le,true_and,List.size_toArray,Nat.zero_add,hi,if_true,Nat.sub_zero];rw[Ed hi]
  rfl
 ·rename_i hi
  rw[List.getElem?_eq_none ae]
def H8(h:iY α c k){B:Bs}{w:World}{L:List aF}(hL:aX B L w){j g e n m:Nat}{l l':List α}{os:Array Obj}(hk:L[j]? =some ⟨some g,e,ai c l,n,true⟩)(hl:(ai c l').length<=n)(hn0:n≠0):
 aX B (L.set j ⟨some g,e,ai c l',n,true⟩) (sortWorldK c k w g 0 m l'.toArray os):=by
 have hlt:=hL.lt hk rfl;have e0:sortWorldK c k w g 0 m l'.toArray os=grow (Go.Sort.putRow id (Sort.ahead w m) g 0 (ai c l').toArray) os:=by
  unfold sortWorldK Go.Sort.putRowK;rw[Xx h]
 rw[e0];have e1:(grow (Go.Sort.putRow id (Sort.ahead w m) g 0 (ai c l').toArray) os).heap=(w.heap.modify g (onCells (putCells id 0 (ai c l').toArray)))++os:=rfl;refine hL.rowMod hk rfl rfl hn0 (putCells id 0 (ai c l').toArray) (ai c l') (fun cur hc _=>by
 have hc':cur.size=n:=hc;obtain⟨p1,p2⟩:=qoS (vs:=ai c l') (cur:=cur) ae;exact⟨p1.trans hc,p2⟩) rfl rfl rfl (by rw[e1];simp) (fun i hi hne=>?_) (fun cur hcur=>?_) (Nat.le_add_right _ _)
 ·exact qhH
 ·exact qhI
abbrev mo1:Mo:=⟨True⟩
def qi2[Mo](hm:Mo.p){w w':World}(h:dV w.heap.size w w'):∃q os',w'=grow (w.drewN q) os':=by
 refine⟨w'.drawn-w.drawn,w'.heap.extract w.heap.size w'.heap.size,?_⟩;have hh:w'.heap=w.heap++w'.heap.extract w.heap.size w'.heap.size:=by
  apply Array.ext_getElem?
  intro i
  by_cases hi:i<w.heap.size
  ·rw[Array.getElem?_append_left hi,h.block i hi]
  ·rw[Array.getElem?_append_right ae,Array.getElem?_extract];have hs:=h.size
   split
   ·congr 1;omega
   ·rename_i h2
    have:w'.heap.size<=i:=ae;rw[Array.getElem?_eq_none this]
 cases w';have a1:=h.os;have a2:=h.tape;have a3:=h.output;have a4:=h.drawn hm;dsimp only at a1 a2 a3 a4 hh;unfold grow World.drewN;dsimp only;rw[<-hh,a1,a2,a3]
 congr 1
 omega
def qcq[Mo](hm:Mo.p){P:Program}{g:Nat}{cf:α->α->Int}(H:∀x y,aG P g #[.agg (c x).toArray,.agg (c y).toArray] (.int .i64 (cf x y)))(blk off size:Nat)(w:World):CmpLays P g #[] c k cf blk off size w:=fun m os dk hs x y=>by
 refine((H x y).2 _).mono ?_;rintro e w' ⟨he,hb⟩;exact⟨he,qi2 hm hb⟩
def qoT{l:List α}{d:Array α}(h:PermIn 0 l.toArray.size l.toArray d):d.toList.Perm l:=by
 obtain⟨h1,_,h3⟩:=h;have e1:d.extract 0 l.toArray.size=d:=by rw[<-h1];simp
 have e2:l.toArray.extract 0 l.toArray.size=l.toArray:=bz;rw[e1,e2] at h3;exact h3
def qeF{lt:α->α->Bool}{n:Nat}{d:Array α}(h:SortedIn lt 0 n d)(hn:d.size=n):d.toList.Pairwise fun x y=>lt y x=false:=by
 rw[List.pairwise_iff_getElem];intro i j hi hj hij;have:=h i j (Nat.zero_le _) hij (by simp at hj;omega);rw[getElem!_pos d j (by simpa using hj),getElem!_pos d i qfd] at this
 simpa using this
theorem Xy{lt:α->α->Bool}{a:Nat}{d:Array α}:∀{i:Nat},(∀j,a<j->j<=i->lt d[j]! d[j-1]! =false)->insInner lt a i d=d
 |0,_=>rfl
 |i+1,h=>by
  unfold insInner
  by_cases hc:i+1>a
  ·have:=h (i+1) hc (Nat.le_refl _);rw[Nat.add_sub_cancel] at this;rw[this,Bool.and_false,if_neg au]
  ·rw[decide_eq_false hc,Bool.false_and,if_neg au]
def Kv{lt:α->α->Bool}{a b:Nat}{d:Array α}(h:∀j,a<j->j<b->lt d[j]! d[j-1]! =false):∀(n i:Nat),b-i=n->insOuter lt a b i d=d
 |0,i,hn=>by unfold insOuter;rw[if_neg ae]
 |n+1,i,hn=>by
  unfold insOuter;rw[if_pos ae,Xy fun j h1 h2=>h j h1 ae]
  exact Kv h n (i+1) ae
def Uu{lt:α->α->Bool}{l:List α}(h:l.Pairwise fun x y=>lt y x=false):Sort.insertionSort lt l.toArray 0 l.length=l.toArray:=by
 refine Kv (fun j h1 h2=>?_) _ _ rfl;rw[Ed h2,Ed (show j-1<l.length by omega)];exact List.pairwise_iff_getElem.1 h (j-1) j ae h2 ae
end
end Go.Via
namespace Go.Via
open Go
def qtn(a b:Bool):Int:=if a=b then 0 else if b=true then-1 else 1
def Qi(a b:PU):Int:=if aY a.i.f b.i.f≠0 then aY a.i.f b.i.f else if qtn a.i.fo b.i.fo≠0 then qtn a.i.fo b.i.fo else aY a.i.t b.i.t
def qoU{S:Rl->Prop}{ρ:Rl->Int}(T:dM S ρ){x y:PU}(hx:S x.i.f)(hy:S y.i.f)(h:aI ρ x.i.b<aI ρ y.i.b):¬Qi y x<0:=by
 have h1:=T.lt hy hx;have h2:=T.gt hy hx;unfold aI Iv.b at h;dsimp only at h;unfold Qi
 by_cases e:aY y.i.f x.i.f≠0
 ·rw[if_pos e];intro h3;have:=h1.1 h3
  revert h;split<;>split<;>omega
 ·rw[if_neg e];have e':ρ y.i.f=ρ x.i.f:=by
   have:¬ρ y.i.f<ρ x.i.f:=fun k=>e (by have:=h1.2 k;omega)
   have:¬ρ x.i.f<ρ y.i.f:=fun k=>e (by have:=h2.2 k;omega)
   omega
  rw[e'] at h;have hf:x.i.fo=false∧y.i.fo=true:=by
   cases hx':x.i.fo<;>cases hy':y.i.fo<;>rw[hx',hy'] at h<;>first|exact⟨rfl,rfl⟩|(exfalso;simp at h;done)|(exfalso;simp at h;omega)
  rw[hf.1,hf.2,if_pos au]
  decide
def ZT{S:Rl->Prop}{ρ:Rl->Int}(T:dM S ρ){l:List PU}(hs:nR ρ l)(he:Ends S l):l.Pairwise fun x y=>decide (Qi y x<0)=false:=by
 refine hs.1.imp_of_mem fun {x y} hx hy h=>?_
 have:=hs.2 x hx;exact decide_eq_false (qoU T (he x hx).1 (he y hy).1 ae)
end Go.Via
namespace Go.Via
open Go
theorem bu:iY PU aK 36:=⟨fun _=>rfl,fun x v hv=>List.all_eq_true.1 (show(aK x).all (·.oneCell')=true from rfl) v hv⟩
theorem dw:iY Iv aZ 20:=⟨fun _=>rfl,fun x v hv=>List.all_eq_true.1 (show(aZ x).all (·.oneCell')=true from rfl) v hv⟩
theorem gZ:iY Rl kQ 9:=⟨fun _=>rfl,fun x v hv=>List.all_eq_true.1 (show(kQ x).all (·.oneCell')=true from rfl) v hv⟩
def um:iY (Iv×Qd) FO 32:=⟨fun _=>rfl,fun x v hv=>List.all_eq_true.1 (show(FO x).all (·.oneCell')=true from rfl) v hv⟩
def Uw:iY B3 ZF 52:=⟨fun _=>rfl,fun x v hv=>List.all_eq_true.1 (show(ZF x).all (·.oneCell')=true from rfl) v hv⟩
theorem bP:iY iT bg 38:=⟨fun _=>rfl,fun x v hv=>List.all_eq_true.1 (show(bg x).all (·.oneCell')=true from rfl) v hv⟩
def wC:iY (Iv×Int) Hu 21:=⟨fun _=>rfl,fun x v hv=>List.all_eq_true.1 (show(Hu x).all (·.oneCell')=true from rfl) v hv⟩
theorem yA:iY ((Rl×Bool)×Int×Int) jR 12:=⟨fun _=>rfl,fun x v hv=>List.all_eq_true.1 (show(jR x).all (·.oneCell')=true from rfl) v hv⟩
end Go.Via
namespace Go.Via
open Go
structure qzp(m:Int)(lo hi:Int->Int)(w u:PU):Prop where
 f:fO w.i.f
 t:fO w.i.t
 b:aI gU w.i.b=lo (aI gU u.i.b)
 e:aI gU w.i.e=hi (aI gU u.i.e)
 lt:aI gU w.i.b<aI gU w.i.e
 agr:w.f=u.f∨(2*m<=aI gU w.i.b∧aI gU w.i.e<=2*m+1∧rE (qx w.f) (m:Rat)=rE (qx u.f) (m:Rat)∧rE (qy w.f) (m:Rat)=rE (qy u.f) (m:Rat))
structure qyg(z x:Iv×Qd):Prop where
 f:fO z.1.f
 t:fO z.1.t
 lt:aI gU z.1.b<aI gU z.1.e
 b:aI gU x.1.b<=aI gU z.1.b
 e:aI gU z.1.e<=aI gU x.1.e
 same:aW (z.1,x.2)=aW z
end Go.Via
namespace Go.Via
open Go
structure qzq(l:List iT)(M:Rat):Prop where
 le:∀p∈l,∀u,p.a=rl u∨p.b=rl u->u<=M
 mem:∃p∈l,p.a=rl M∨p.b=rl M
section
variable{m:Int}{a b:List PU}
theorem qi3{a b:List PU}{z:Iv×Qd}:z∈flatK jP a b↔∃x∈a,∃y∈b,jP x y=some z:=by
 unfold flatK;rw[List.mem_flatMap]
 constructor
 ·rintro⟨x,hx,h⟩;obtain⟨y,hy,e⟩:=List.mem_filterMap.1 h;exact⟨x,hx,y,hy,e⟩
 ·rintro⟨x,hx,y,hy,e⟩;exact⟨x,hx,List.mem_filterMap.2 ⟨y,hy,e⟩⟩
end
end Go.Via
