/-
  Part 21 (chapter 32): lemmas, walks. Each theorem states its own conditions.
-/
import GoSem.Core.World
import Derived.MapKept
import Derived.WalkKit
import Derived.WalkSpells
import Derived.WalkLawsBesides
import Derived.Deep.LoopGhost
import Derived.Deep.AppendSrc
import Derived.Laws.BytesArg
import Derived.Laws.CopyRow
import Derived.Laws.AppendOwn
import Derived.Deep.Upon
import Derived.Test.YtaffcpfhedadhaaGreatDoorProg
import Derived.Shelf.Strings.Builder1
import Derived.Shelf.Strings.Builder2
import Derived.Shelf.Small.Utf8
import Derived.Shelf.Small.Bits
import Derived.Shelf.Small.Strs
import Derived.Shelf.Small.Wraps
import Derived.Shelf.Strings.BuilderF
import Derived.Shelf.Strconv.Itoa0
import Derived.Shelf.Strings.Search1
import Derived.Shelf.Strings.Prefix
import Derived.Shelf.Strings.Runes
import Derived.Shelf.Strings.AsciiSet
import Derived.Shelf.Bits.Mul64
import Derived.Shelf.Strings.Repeat
import Derived.Shelf.Unicode.DecodeSlow
import Derived.Laws.Externs
import Derived.Lib.ItoaNum
import Derived.Test.YtaffcpfhedadhaaGreatDoorA16
set_option linter.all false
set_option maxRecDepth 20000
set_option maxHeartbeats 20000000
section
variable{P Q:Prop}{T:Type}{R:T->Prop}
def Cf(h:P:=by simp[part,ia36,so36];rfl):=h
def qik(h:P:=by
 rw[sF,xQ,xQ];rcases lu (a:Rat) (b:Rat) with⟨c,e⟩|⟨c,e⟩|⟨c,e⟩<;>rw[e]
 ·have:=Rat.intCast_lt_intCast.1 c;omega
 ·have:=Rat.intCast_lt_intCast.1 c;omega
 ·have:=Rat.intCast_inj.1 c;omega):=h
def zV(h:P:=by exact qvM (d+0) _ _ w):=h
def Ci(h:P:=by simp[part,ia38,so38];rfl):=h
def Zz(h:P:=by simp only[Bool.and_eq_true,decide_eq_true_eq];omega):=h
def qil(h:P:=by
 rcases tri hx hy with h|h|h
 ·omega
 ·omega
 ·obtain⟨h,e⟩:=h;subst e;omega):=h
def Jd(h:P:=by rw[t1,o1];exact Cf):=h
def Je(h:P:=by rw[t0,o0];exact Cf):=h
def ZA(h:P:=by cases i.fo<;>cases i.tp<;>simp<;>omega):=h
def qim(h:P:=by dsimp only;rw[Ru T ha ht,Ru T hb ht]):=h
end
namespace Go.Via
open Go
def inR(i:Iv)(t:Rl):Bool:=(decide (aY i.f t<0)||decide (aY i.f t=0)&& !i.fo)&&(decide (aY t i.t<0)||decide (aY t i.t=0)&& !i.tp)
def ou(l:List Iv)(t:Rl):Bool:=l.any fun i=>inR i t
def oz(l:List Iv)(a b:Rl):Bool:=l.any fun i=>decide (aY i.f a<=0)&&decide (aY b i.t<=0)
def bM(l:List Iv):List oZ:=l.flatMap fun i=>[i.b,i.e]
def bV(l:List Iv):List Rl:=l.flatMap fun i=>[i.f,i.t]
def fU(S:Rl->Prop)(l:List Iv):Prop:=∀i∈l,S i.f∧S i.t
theorem eQ{l:List Iv}{b:oZ}:b∈bM l↔∃i∈l,b=i.b∨b=i.e:=by
 unfold bM;rw[List.mem_flatMap];simp
theorem ny{l:List Iv}{x:Rl}:x∈bV l↔∃i∈l,x=i.f∨x=i.t:=by
 unfold bV;rw[List.mem_flatMap];simp
def dM.zero{S:Rl->Prop}{ρ:Rl->Int}(T:dM S ρ){x y:Rl}(hx:S x)(hy:S y):aY x y=0↔ρ x=ρ y:=by
 have h1:=T.lt hx hy;have h2:=T.gt hx hy;rcases rD x y with h|h|h<;>rw[h] at h1 h2 ⊢ <;>simp at h1 h2 ⊢ <;>omega
theorem qoH{S:Rl->Prop}{ρ:Rl->Int}(T:dM S ρ){i:Iv}{t:Rl}(hf:S i.f)(ht:S i.t)(h:S t):inR i t=(decide (aI ρ i.b<=aI ρ (t,false))&&decide (aI ρ (t,false)<aI ρ i.e)):=by
 have h1:=T.lt hf h;have h2:=T.lt h ht;have h3:=T.zero hf h;have h4:=T.zero h ht;unfold inR aI Iv.b Iv.e;rw[Bool.eq_iff_iff];simp only[Bool.and_eq_true,Bool.or_eq_true,decide_eq_true_eq,h1,h2,h3,h4];exact ZA
theorem Ru{S:Rl->Prop}{ρ:Rl->Int}(T:dM S ρ){l:List Iv}{t:Rl}(hl:fU S l)(h:S t):ou l t=memB ρ l (aI ρ (t,false)):=by
 unfold ou memB
 induction l with
 |nil=>rfl
 |cons i l ih=>
  rw[List.any_cons,List.any_cons,ih (fun x hx=>hl x (List.mem_cons_of_mem _ hx)),qoH T (hl i (List.mem_cons_self ..)).1 (hl i (List.mem_cons_self ..)).2 h]
theorem Rw{S:Rl->Prop}{ρ:Rl->Int}(T:dM S ρ){l:List Iv}{t u:Rl}(hl:fU S l)(h:S t)(hu:S u)(htu:ρ t<ρ u)(hn:∀x∈bV l,ρ x<=ρ t∨ρ u<=ρ x):oz l t u=memB ρ l (aI ρ (t,true)):=by
 unfold oz memB
 induction l with
 |nil=>rfl
 |cons i l ih=>
  have hi:=hl i (List.mem_cons_self ..);have n1:=hn i.t (ny.2 ⟨i,List.mem_cons_self ..,.inr rfl⟩);rw[List.any_cons,List.any_cons,ih (fun x hx=>hl x (List.mem_cons_of_mem _ hx)) (fun x hx=>by
 obtain⟨j,hj,e⟩:=ny.1 hx;exact hn x (ny.2 ⟨j,List.mem_cons_of_mem _ hj,e⟩))]
  congr 1
  have h1:=T.gt hi.1 h;have h2:=T.gt hu hi.2;unfold aI Iv.b Iv.e;rw[Bool.eq_iff_iff];simp only[Bool.and_eq_true,decide_eq_true_eq];have e1:aY i.f t<=0↔ρ i.f<=ρ t:=ae;have e2:aY u i.t<=0↔ρ u<=ρ i.t:=ae;rw[e1,e2];cases i.fo<;>cases i.tp<;>simp<;>omega
theorem pI{ρ:Rl->Int}{l:List Iv}{k1 k2:Int}(h:k1<=k2)(hn:∀b∈bM l,¬(k1<aI ρ b∧aI ρ b<=k2)):memB ρ l k1=memB ρ l k2:=by
 unfold memB
 induction l with
 |nil=>rfl
 |cons i l ih=>
  have n1:=hn i.b (eQ.2 ⟨i,List.mem_cons_self ..,.inl rfl⟩);have n2:=hn i.e (eQ.2 ⟨i,List.mem_cons_self ..,.inr rfl⟩);rw[List.any_cons,List.any_cons,ih fun b hb=>by
 obtain⟨j,hj,e⟩:=eQ.1 hb;exact hn b (eQ.2 ⟨j,List.mem_cons_of_mem _ hj,e⟩)]
  congr 1
  rw[Bool.eq_iff_iff];simp only[Bool.and_eq_true,decide_eq_true_eq];omega
theorem yY{ρ:Rl->Int}{l:List Iv}{k:Int}(hn:∀b∈bM l,k<aI ρ b):memB ρ l k=false:=by
 unfold memB;rw[List.any_eq_false];intro i hi;have:=hn i.b (eQ.2 ⟨i,hi,.inl rfl⟩);exact Zz
theorem DZ{ρ:Rl->Int}{l:List Iv}{k:Int}(hn:∀b∈bM l,aI ρ b<=k):memB ρ l k=false:=by
 unfold memB;rw[List.any_eq_false];intro i hi;have:=hn i.e (eQ.2 ⟨i,hi,.inr rfl⟩);exact Zz
def ZB{ρ:Rl->Int}{G:Int->Bool}{p:oZ->Bool}{B:List oZ}(hp:∀b,p b=true↔b∈B)(HG:∀k1 k2,k1<=k2->(∀b∈B,¬(k1<aI ρ b∧aI ρ b<=k2))->G k1=G k2):
 ∀{C:List oZ} {lo:Int},C.Pairwise (fun a b=>aI ρ a<aI ρ b)->(∀c∈C,lo<aI ρ c)->(∀b∈B,aI ρ b<=lo∨b∈C)->Chk (fun c=>G (aI ρ c)) p (G lo) C
 |[],_,_,_,_=>trivial
 |c::cs,lo,hs,hlo,hB=>by
  obtain⟨s1,s2⟩:=List.pairwise_cons.1 hs;have hc:=hlo c (List.mem_cons_self ..);refine⟨?_,ZB hp HG s2 (fun x hx=>s1 x hx) fun b hb=>?_⟩
  ·by_cases hpc:p c=true
   ·exact .inl hpc
   ·refine .inr (HG lo (aI ρ c) ae fun b hb hk=>?_).symm
    rcases hB b hb with h|h
    ·omega
    ·rcases List.mem_cons.1 h with h|h
     ·subst h;exact hpc ((hp b).2 hb)
     ·have:=s1 b h;omega
  ·rcases hB b hb with h|h
   ·exact .inl ae
   ·rcases List.mem_cons.1 h with h|h
    ·subst h;exact .inl (Int.le_refl _)
    ·exact .inr h
theorem pJ:∀{ts:List Rl} {b:oZ},b∈mW ts↔b.1∈ts
 |[],b=>by simp[mW]
 |t::ts,(x,c)=>by
  unfold mW;rw[List.mem_cons,List.mem_cons,pJ (ts:=ts),List.mem_cons];dsimp only
  constructor
  ·rintro(h|h|h)
   ·cases h;exact .inl rfl
   ·cases h;exact .inl rfl
   ·exact .inr h
  ·rintro(h|h)
   ·subst h;cases c;exact .inl rfl;exact .inr (.inl rfl)
   ·exact .inr (.inr h)
theorem nY{ρ:Rl->Int}:∀{ts:List Rl},ts.Pairwise (fun a b=>ρ a<ρ b)->(mW ts).Pairwise (fun a b=>aI ρ a<aI ρ b)
 |[],_=>List.Pairwise.nil
 |t::ts,h=>by
  obtain⟨h1,h2⟩:=List.pairwise_cons.1 h;unfold mW;refine List.pairwise_cons.2 ⟨fun b hb=>?_,List.pairwise_cons.2 ⟨fun b hb=>?_,nY h2⟩⟩
  ·rcases List.mem_cons.1 hb with e|e
   ·subst e;unfold aI;simp;omega
   ·have:=h1 b.1 (pJ.1 e);unfold aI;simp;split<;>omega
  ·have:=h1 b.1 (pJ.1 hb);unfold aI;simp;split<;>omega
theorem Uj{S:Rl->Prop}{ρ:Rl->Int}(T:dM S ρ){op:Bool->Bool->Bool}(h0:op false false=false){a b:List Iv}(ha:fU S a)(hb:fU S b):
 ∀{ts pre:List Rl},(∀t∈ts,S t)->ts.Pairwise (fun x y=>ρ x<ρ y)->(∀x∈bV a++bV b,x∈ts∨∀t∈ts,ρ x<ρ t)->(∀i∈a++b,S i.f)->
 qsS (fun t=>op (ou a t) (ou b t)) (fun t u=>op (oz a t u) (oz b t u)) (fun c=>op (memB ρ a (aI ρ c)) (memB ρ b (aI ρ c))) ts
 |[],_,_,_,_,_=>trivial
 |[t],_,hS,hs,he,hf=>by
  have ht:=hS t (List.mem_cons_self ..);refine⟨qim,?_⟩;have hi:∀l:List Iv,(∀x∈bV l,x∈[t]∨∀u∈[t],ρ x<ρ u)->∀c∈bM l,aI ρ c<=aI ρ (t,true):=fun l hl c hc=>by
   obtain⟨i,hi,e⟩:=eQ.1 hc;have hx:c.1∈bV l:=ny.2 ⟨i,hi,by rcases e with e|e<;>subst e;exact .inl rfl;exact .inr rfl⟩
   have:ρ c.1<=ρ t:=by
    rcases hl c.1 hx with h|h
    ·rw[List.mem_singleton] at h;rw[h];exact Int.le_refl _
    ·have:=h t (List.mem_cons_self ..);omega
   unfold aI;simp;split<;>omega
  dsimp only;rw[DZ (hi a fun x hx=>he x (List.mem_append_left _ hx)),DZ (hi b fun x hx=>he x (List.mem_append_right _ hx)),h0]
 |t::u::ts,pre,hS,hs,he,hf=>by
  obtain⟨s1,s2⟩:=List.pairwise_cons.1 hs;have ht:=hS t (List.mem_cons_self ..);have hu:=hS u (List.mem_cons_of_mem _ (List.mem_cons_self ..));have htu:=s1 u (List.mem_cons_self ..);have hn:∀x∈bV a++bV b,ρ x<=ρ t∨ρ u<=ρ x:=fun x hx=>by
   rcases he x hx with h|h
   ·rcases List.mem_cons.1 h with h|h
    ·rw[h];exact .inl (Int.le_refl _)
    ·rcases List.mem_cons.1 h with h|h
     ·rw[h];exact .inr (Int.le_refl _)
     ·have:=(List.pairwise_cons.1 s2).1 x h;exact .inr ae
   ·have:=h t (List.mem_cons_self ..);exact .inl ae
  refine⟨qim,?_,Uj T h0 ha hb (pre:=pre) (fun x hx=>hS x (List.mem_cons_of_mem _ hx)) s2 (fun x hx=>?_) hf⟩
  ·dsimp only;rw[Rw T ha ht hu htu fun x hx=>hn x (List.mem_append_left _ hx),Rw T hb ht hu htu fun x hx=>hn x (List.mem_append_right _ hx)]
  ·rcases he x hx with h|h
   ·rcases List.mem_cons.1 h with h|h
    ·right;intro y hy;rw[h];exact s1 y hy
    ·exact .inl h
   ·exact .inr fun y hy=>h y (List.mem_cons_of_mem _ hy)
theorem ZC{S:Rl->Prop}{ρ:Rl->Int}(T:dM S ρ){op:Bool->Bool->Bool}(h0:op false false=false){a b:List Iv}(ha:fU S a)(hb:fU S b)(oa:IG ρ a)(ob:IG ρ b)
 {ends:List Rl}(hs:ends.Pairwise (fun x y=>ρ x<ρ y))(he:∀x,x∈ends↔x∈bV a++bV b)
 {l:List (oZ×Int×Int)}(hp:l.Perm (EC a++KO b))(hl:l.Pairwise (fun x y=>aI ρ x.1<=aI ρ y.1)):
 PT (aI ρ) op l 0 0 none=Rf (fun t=>op (ou a t) (ou b t)) (fun t u=>op (oz a t u) (oz b t u)) none ends:=by
 have hES:∀x∈bV a++bV b,S x:=fun x hx=>by
  rcases List.mem_append.1 hx with h|h
  ·obtain⟨i,hi,e⟩:=ny.1 h;rcases e with e|e<;>subst e;exact(ha i hi).1;exact(ha i hi).2
  ·obtain⟨i,hi,e⟩:=ny.1 h;rcases e with e|e<;>subst e;exact(hb i hi).1;exact(hb i hi).2
 have hS:∀t∈ends,S t:=fun t ht=>hES t ((he t).1 ht)
 rw[qoq oa ob hp hl,Hg (Uj T h0 ha hb (pre:=[]) hS hs (fun x hx=> .inl ((he x).2 hx)) (fun i hi=>by
 rcases List.mem_append.1 hi with h|h;exact(ha i h).1;exact(hb i h).1))]
 have hsc:=nY (ρ:=ρ) hs;have hmB:∀b':oZ,b'∈bM a++bM b->b'∈mW ends:=fun b' h=>by
  refine pJ.2 ((he _).2 ?_);rcases List.mem_append.1 h with h|h
  ·obtain⟨i,hi,e⟩:=eQ.1 h;refine List.mem_append_left _ (ny.2 ⟨i,hi,?_⟩);rcases e with e|e<;>subst e;exact .inl rfl;exact .inr rfl
  ·obtain⟨i,hi,e⟩:=eQ.1 h;refine List.mem_append_right _ (ny.2 ⟨i,hi,?_⟩);rcases e with e|e<;>subst e;exact .inl rfl;exact .inr rfl
 obtain⟨lo,hlo⟩:∃lo:Int,∀c∈mW ends,lo<aI ρ c:=by
  generalize mW ends=C
  clear hmB hsc
  induction C with
  |nil=>exact⟨0,fun c hc=>absurd hc bz⟩
  |cons c C ih=>
   obtain⟨lo,h⟩:=ih;refine⟨min lo (aI ρ c-1),fun x hx=>?_⟩
   rcases List.mem_cons.1 hx with e|e
   ·subst e;omega
   ·have:=h x e;omega
 have hG0:op (memB ρ a lo) (memB ρ b lo)=false:=by
  rw[yY fun c hc=>hlo c (hmB c (List.mem_append_left _ hc)),yY fun c hc=>hlo c (hmB c (List.mem_append_right _ hc)),h0]
 have hchk:=ZB (ρ:=ρ) (G:=fun k=>op (memB ρ a k) (memB ρ b k)) (p:=fun c=>decide (c∈bM a++bM b)) (B:=bM a++bM b) (fun c=>by rw[decide_eq_true_eq]) (fun k1 k2 hk hn=>by
 rw[pI hk fun c hc=>hn c (List.mem_append_left _ hc),pI (l:=b) hk fun c hc=>hn c (List.mem_append_right _ hc)]) (lo:=lo) hsc hlo (fun c hc=> .inr (hmB c hc))
 rw[hG0] at hchk;rw[pq (st:=none) hchk]
 congr 1
 refine zq (κ:=aI ρ) ?_ ?_ fun c=>?_
 ·exact IJ (List.pairwise_map.2 hl)
 ·exact hsc.filter _
 ·have hev:∀c:oZ,c∈(EC a++KO b).map (·.1)↔c∈bM a++bM b:=fun c=>by
   rw[List.map_append,List.mem_append,List.mem_append];have e1:∀m:List Iv,c∈(EC m).map (·.1)↔c∈bM m:=fun m=>by
    unfold EC bM;rw[List.map_flatMap];rfl
   have e2:∀m:List Iv,c∈(KO m).map (·.1)↔c∈bM m:=fun m=>by
    unfold KO bM;rw[List.map_flatMap];rfl
   rw[e1,e2]
  have hlm:c∈l.map (·.1)↔c∈bM a++bM b:=(by rw[<-hev];exact(hp.map _).mem_iff);rw[List.mem_filter,decide_eq_true_eq]
  constructor
  ·intro h;have h1:=hlm.1 (yN h);exact⟨hmB c h1,h1⟩
  ·intro h;refine DC (fun x hx y hy e=>?_) (hlm.2 h.2);have m1:S x.1:=hS _ (pJ.1 (hmB x (by rw[<-hev];exact(hp.map _).mem_iff.1 hx)));have m2:S y.1:=hS _ (pJ.1 (hmB y (by rw[<-hev];exact(hp.map _).mem_iff.1 hy)));exact Uc T m1 m2 e
end Go.Via
namespace Go.Via
open Go
structure qvK(S:Rl->Prop):Prop where
 swap:∀{x y},S x->S y->aY x y= -aY y x
 trans:∀{x y z},S x->S y->S z->aY x y<0->aY y z<0->aY x z<0
 eq0:∀{x y},S x->S y->aY x y=0->x=y
def J9(E:List Rl)(x:Rl):Int:=((E.filter fun e=>decide (aY e x<0)).length:Nat)
def EI{α:Type}{p q:α->Bool}:∀{l:List α},(∀x∈l,p x=true->q x=true)->(l.filter p).length<=(l.filter q).length
 |[],_=>Nat.le_refl _
 |x::l,h=>by
  have ih:=EI (p:=p) (q:=q) (l:=l) fun y hy=>h y (List.mem_cons_of_mem _ hy)
  have hx:=h x (List.mem_cons_self ..);cases hp:p x
  ·rw[List.filter_cons_of_neg qmD];cases hq:q x
   ·rw[List.filter_cons_of_neg (by rw[hq];decide)];exact ih
   ·rw[List.filter_cons_of_pos hq,List.length_cons];omega
  ·rw[List.filter_cons_of_pos hp,List.filter_cons_of_pos (hx hp),List.length_cons,List.length_cons];omega
def EJ{α:Type}{p q:α->Bool}:∀{l:List α} {z:α},(∀x∈l,p x=true->q x=true)->z∈l->p z=false->q z=true->(l.filter p).length<(l.filter q).length
 |[],z,_,hz,_,_=>absurd hz bz
 |x::l,z,h,hz,h1,h2=>by
  have hx:=h x (List.mem_cons_self ..);have hl:∀y∈l,p y=true->q y=true:=fun y hy=>h y (List.mem_cons_of_mem _ hy)
  rcases List.mem_cons.1 hz with e|e
  ·subst e;rw[List.filter_cons_of_neg (by rw[h1];decide),List.filter_cons_of_pos h2,List.length_cons];have:=EI hl;omega
  ·have ih:=EJ hl e h1 h2;cases hp:p x
   ·rw[List.filter_cons_of_neg qmD];cases hq:q x
    ·rw[List.filter_cons_of_neg (by rw[hq];decide)];exact ih
    ·rw[List.filter_cons_of_pos hq,List.length_cons];omega
   ·rw[List.filter_cons_of_pos hp,List.filter_cons_of_pos (hx hp),List.length_cons,List.length_cons];omega
def Uk{S:Rl->Prop}(O:qvK S){E:List Rl}(hE:∀x∈E,S x):dM (fun x=>x∈E) (J9 E):=by
 have mono:∀{x y},x∈E->y∈E->aY x y<0->J9 E x<J9 E y:=fun {x y} hx hy h=>by
  unfold J9;have:=EJ (p:=fun e=>decide (aY e x<0)) (q:=fun e=>decide (aY e y<0)) (l:=E) (z:=x) (fun e he h1=>by
 rw[decide_eq_true_eq] at h1 ⊢;exact O.trans (hE e he) (hE x hx) (hE y hy) h1 h) hx (by rw[DX];rfl) (decide_eq_true h)
  omega
 have tri:∀{x y},x∈E->y∈E->aY x y<0∧J9 E x<J9 E y∨0<aY x y∧J9 E y<J9 E x∨aY x y=0∧x=y:=fun {x y} hx hy=>by
  have hs:=O.swap (hE x hx) (hE y hy);rcases rD x y with h|h|h
  ·exact .inl ⟨ae,mono hx hy ae⟩
  ·exact .inr (.inr ⟨h,O.eq0 (hE x hx) (hE y hy) h⟩)
  ·exact .inr (.inl ⟨ae,mono hy hx ae⟩)
 constructor
 ·intro x y hx hy;exact qil
 ·intro x y hx hy;exact qil
 ·intro x y hx hy e;rcases tri hx hy with h|h|h
  ·omega
  ·omega
  ·exact h.2
def qck{m:Rl}(h:m.ok)(h0:m.r≠0)(q:Rat):aY (rl q) m≠0:=fun e=>by
 have hr:=h.r0;have a1:=(LX hr (q:=q)).1 ae;have a2:=(Zm hr (q:=q)).1 (by have:=nU q m;omega);have hf:=Ja m;have e:m.r=(m.p-q)*(m.p-q):=by
  unfold nn at a1 a2;have g1:jD m*jD m*m.r=m.r:=by rw[hf];grind
  have g2: -jD m* -jD m*m.r=m.r:=dQ;rw[g1] at a1;rw[g2] at a2;rcases eH (m.p-q) with⟨g,_⟩|⟨g,_⟩|⟨g,_⟩<;>rcases a1 with a1|a1<;>rcases a2 with a2|a2<;>grind
 have hs:Ap m.r=false:=Wn
 rw[e,Zl] at hs;cases hs
def FM{m:Rl}(h:m.ok){p q:Rat}(hpq:q<=p)(hp:aY (rl p) m<0):aY (rl q) m<0:=by
 by_cases h0:m.r=0
 ·rw[h.rat h0,sF] at hp ⊢;rcases lu p m.p with⟨c,e⟩|⟨c,e⟩|⟨c,e⟩<;>rw[e] at hp
  ·rcases lu q m.p with⟨c',e'⟩|⟨c',e'⟩|⟨c',e'⟩<;>rw[e']
   ·decide
   ·grind
   ·grind
  ·omega
  ·omega
 ·have hr:=h.r0;have h1:=(LX hr (q:=p)).1 ae;have h2:=SK hr h1 (qfc (show 0<=p-q by grind));have e1:m.p-p+(p-q)=m.p-q:=dQ
  have e2:jD m+0=jD m:=dQ;rw[e1,e2] at h2;have h3:=(LX hr (q:=q)).2 h2;have:=qck h h0 q;omega
def qcl{m:Rl}(h:m.ok):qvK (fun x=>(∃q,x=rl q)∨x=m):=by
 have eqz:∀{q:Rat},aY (rl q) m=0->rl q=m:=fun {q} e=>by
  by_cases h0:m.r=0
  ·rw[h.rat h0,sF] at e;rw[h.rat h0];rcases lu q m.p with⟨c,e'⟩|⟨c,e'⟩|⟨c,e'⟩<;>rw[e'] at e
   ·omega
   ·omega
   ·rw[c]
  ·exact absurd e (qck h h0 q)
 constructor
 ·rintro x y (⟨p,rfl⟩|rfl) (⟨q,rfl⟩|rfl)
  ·rw[sF,sF];rcases lu p q with⟨c,e⟩|⟨c,e⟩|⟨c,e⟩<;>rcases lu q p with⟨c',e'⟩|⟨c',e'⟩|⟨c',e'⟩<;>rw[e,e']<;>first|rfl|grind
  ·exact nU _ _
  ·rw[nU];omega
  ·rw[DX];rfl
 ·have rr:∀{a b:Rat},aY (rl a) (rl b)<0↔a<b:=fun {a b}=>by
   rw[sF];rcases lu a b with⟨c,e⟩|⟨c,e⟩|⟨c,e⟩<;>rw[e]
   ·exact⟨fun _=>c,fun _=>au⟩
   ·exact⟨fun h=>absurd h au,fun h=>dQ⟩
   ·exact⟨fun h=>absurd h au,fun h=>dQ⟩
  rintro x y z (⟨p,rfl⟩|rfl) (⟨q,rfl⟩|rfl) (⟨r,rfl⟩|rfl) h1 h2
  ·rw[rr] at*;grind
  ·rw[rr] at h1;exact FM h dQ h2
  ·rw[rr];refine Rat.not_le.1 fun hl=>?_
   have:=FM h hl h1;rw[nU] at this;omega
  ·rw[DX] at h2;omega
  ·rw[rr] at h2
   by_cases hc:aY x (rl r)<0
   ·exact hc
   ·exfalso
    have h3:aY (rl q) x<0:=by
     by_cases hz:aY (rl r) x=0
     ·have:=eqz hz;rw[<-this,rr];exact h2
     ·exact FM h (show q<=r by grind) (by have:=nU r x;omega)
    rw[nU] at h3;omega
  ·rw[nU] at h2;omega
  ·rw[DX] at h1;omega
  ·exact h1
 ·rintro x y (⟨p,rfl⟩|rfl) (⟨q,rfl⟩|rfl) e
  ·rw[sF] at e;rcases lu p q with⟨c,e'⟩|⟨c,e'⟩|⟨c,e'⟩<;>rw[e'] at e
   ·omega
   ·omega
   ·rw[c]
  ·exact eqz e
  ·exact(eqz (by rw[nU];omega)).symm
  ·rfl
end Go.Via
namespace Go.Via
open Go
section
variable{A B C:Type}
def gY(mt:A->B->Option C)(ef:A->B->Bool):List A->List B->List C
 |[],_=>[]
 |_::_,[]=>[]
 |x::xs,y::ys=>(mt x y).toList++if ef x y=true then gY mt ef xs (y::ys) else gY mt ef (x::xs) ys
termination_by a b=>a.length+b.length
def flatK(mt:A->B->Option C)(a:List A)(b:List B):List C:=a.flatMap fun x=>b.filterMap (mt x)
theorem vY{f:B->Option C}:∀{l:List B},(∀y∈l,f y=none)->l.filterMap f=[]
 |[],_=>rfl
 |y::l,h=>by rw[List.filterMap_cons_none (h y (List.mem_cons_self ..)),vY fun z hz=>h z (List.mem_cons_of_mem _ hz)]
def Ko{mt:A->B->Option C}{y:B}{ys:List B}:∀{a:List A},(∀x∈a,mt x y=none)->flatK mt a (y::ys)=flatK mt a ys
 |[],_=>rfl
 |x::a,h=>by
  unfold flatK;rw[List.flatMap_cons,List.flatMap_cons,List.filterMap_cons_none (h x (List.mem_cons_self ..))]
  congr 1
  exact Ko fun z hz=>h z (List.mem_cons_of_mem _ hz)
theorem Jf{mt:A->B->Option C}{ef:A->B->Bool}{fa la:A->Int}{fb lb:B->Int}:
 ∀{a:List A} {b:List B},(∀x∈a,∀y∈b,(ef x y=true↔la x<=lb y)∧(la x<=fb y->mt x y=none)∧(lb y<=fa x->mt x y=none))->a.Pairwise (fun x y=>la x<=fa y)->b.Pairwise (fun x y=>lb x<=fb y)->gY mt ef a b=flatK mt a b
 |[],_,_,_,_=>by unfold gY;rfl
 |x::xs,[],_,_,_=>by
  unfold gY;have:∀a:List A,flatK mt a []=[]:=fun a=>by
   induction a with
   |nil=>rfl
   |cons z a ih=>unfold flatK at*;rw[List.flatMap_cons,ih];rfl
  exact(this _).symm
 |x::xs,y::ys,H,ha,hb=>by
  obtain⟨a1,a2⟩:=List.pairwise_cons.1 ha;obtain⟨b1,b2⟩:=List.pairwise_cons.1 hb;obtain⟨hef,_,_⟩:=H x (List.mem_cons_self ..) y (List.mem_cons_self ..);have hm1:∀z∈y::ys,la x<=fb z->mt x z=none:=fun z hz=>(H x (List.mem_cons_self ..) z hz).2.1
  have hm2:∀z∈x::xs,lb y<=fa z->mt z y=none:=fun z hz=>(H z hz y (List.mem_cons_self ..)).2.2
  unfold gY
  by_cases h:ef x y=true
  ·have hl:=hef.1 h;rw[if_pos h,Jf (fun z hz w hw=>H z (List.mem_cons_of_mem _ hz) w hw) a2 hb];unfold flatK;rw[List.flatMap_cons]
   congr 1
   cases hm:mt x y
   ·rw[List.filterMap_cons_none hm,vY fun z hz=>hm1 z (List.mem_cons_of_mem _ hz) (by have:=b1 z hz;omega)];rfl
   ·rw[List.filterMap_cons_some hm,vY fun z hz=>hm1 z (List.mem_cons_of_mem _ hz) (by have:=b1 z hz;omega)];rfl
  ·have hl:lb y<la x:=Int.not_le.1 fun hh=>h (hef.2 hh)
   rw[if_neg h,Jf (fun z hz w hw=>H z hz w (List.mem_cons_of_mem _ hw)) ha b2];have hd:flatK mt xs (y::ys)=flatK mt xs ys:=Ko fun z hz=>hm2 z (List.mem_cons_of_mem _ hz) (by have:=a1 z hz;omega)
   show _=(x::xs).flatMap _;rw[List.flatMap_cons];have e1:xs.flatMap (fun x=>(y::ys).filterMap (mt x))=xs.flatMap (fun x=>ys.filterMap (mt x)):=hd;rw[e1];have e2:flatK mt (x::xs) ys=ys.filterMap (mt x)++xs.flatMap (fun x=>ys.filterMap (mt x)):=by unfold flatK;rw[List.flatMap_cons]
   rw[e2];cases hm:mt x y
   ·rw[List.filterMap_cons_none hm];rfl
   ·rw[List.filterMap_cons_some hm];rfl
termination_by a b=>a.length+b.length
end
def tN(a b:Iv):Rl×Bool:=if aY a.f b.f<0 then(b.f,b.fo) else if aY a.f b.f=0 then(a.f,a.fo||b.fo) else(a.f,a.fo)
def vZ(a b:Iv):Rl×Bool:=if 0<aY a.t b.t then(b.t,b.tp) else if aY a.t b.t=0 then(a.t,a.tp||b.tp) else(a.t,a.tp)
def dR(a b:Iv):Iv:=⟨(tN a b).1,(vZ a b).1,(tN a b).2,(vZ a b).2⟩
def ja(i:Iv):Bool:=decide (aY i.f i.t<0)||decide (aY i.f i.t=0)&&(!i.fo&& !i.tp)
def fC(a b:Iv):Option Iv:=if ja (dR a b)=true then some (dR a b) else none
def Rx(a b:Iv):Bool:=decide (aY a.t b.t<0)||decide (aY a.t b.t=0)&&(a.tp|| !b.tp)
def Jg{S:Rl->Prop}{ρ:Rl->Int}(T:dM S ρ){a b:Iv}(ha:S a.f)(hb:S b.f):(dR a b).b=a.b∧aI ρ b.b<=aI ρ a.b∨(dR a b).b=b.b∧aI ρ a.b<=aI ρ b.b:=by
 have h1:=T.lt ha hb;have h2:=T.zero ha hb;have h3:=T.gt ha hb;unfold dR tN Iv.b aI;dsimp only;rcases rD a.f b.f with h|h|h<;>rw[h] at h1 h2 h3 ⊢
 ·right
  have:=h1.1 au;simp;split<;>split<;>omega
 ·have e:=h2.1 rfl;have e':=T.inj ha hb e;simp;rw[e'];cases a.fo<;>cases b.fo<;>simp<;>omega
 ·left
  have:=h3.1 au;simp;split<;>split<;>omega
def Jh{S:Rl->Prop}{ρ:Rl->Int}(T:dM S ρ){a b:Iv}(ha:S a.t)(hb:S b.t):(dR a b).e=a.e∧aI ρ a.e<=aI ρ b.e∨(dR a b).e=b.e∧aI ρ b.e<=aI ρ a.e:=by
 have h1:=T.lt ha hb;have h2:=T.zero ha hb;have h3:=T.gt ha hb;unfold dR vZ Iv.e aI;dsimp only;rcases rD a.t b.t with h|h|h<;>rw[h] at h1 h2 h3 ⊢
 ·left
  have:=h1.1 au;simp;split<;>split<;>omega
 ·have e:=h2.1 rfl;have e':=T.inj ha hb e;simp;rw[e'];cases a.tp<;>cases b.tp<;>simp<;>omega
 ·right
  have:=h3.1 au;simp;split<;>split<;>omega
theorem oQ{S:Rl->Prop}{ρ:Rl->Int}(T:dM S ρ){i:Iv}(hf:S i.f)(ht:S i.t):ja i=true↔aI ρ i.b<aI ρ i.e:=by
 have h1:=T.lt hf ht;have h2:=T.zero hf ht;unfold ja aI Iv.b Iv.e;simp only[Bool.or_eq_true,Bool.and_eq_true,decide_eq_true_eq,h1,h2];exact ZA
def qer{S:Rl->Prop}{ρ:Rl->Int}(T:dM S ρ){a b:Iv}(ha:S a.t)(hb:S b.t):Rx a b=true↔aI ρ a.e<=aI ρ b.e:=by
 have h1:=T.lt ha hb;have h2:=T.zero ha hb;unfold Rx aI Iv.e;simp only[Bool.or_eq_true,Bool.and_eq_true,decide_eq_true_eq,h1,h2];cases a.tp<;>cases b.tp<;>simp<;>omega
def Cj{S:Rl->Prop}{a b:Iv}(ha:S a.f∧S a.t)(hb:S b.f∧S b.t):S (dR a b).f∧S (dR a b).t:=by
 unfold dR tN vZ;dsimp only
 constructor
 ·split
  ·exact hb.1
  ·split<;>exact ha.1
 ·split
  ·exact hb.2
  ·split<;>exact ha.2
theorem qes{S:Rl->Prop}{ρ:Rl->Int}(T:dM S ρ){a b:Iv}(ha:S a.f∧S a.t)(hb:S b.f∧S b.t)(h:aI ρ a.e<=aI ρ b.b∨aI ρ b.e<=aI ρ a.b)(oa:aI ρ a.b<aI ρ a.e)(ob:aI ρ b.b<aI ρ b.e):fC a b=none:=by
 unfold fC;refine if_neg fun hk=>?_
 have hk:=(oQ T (Cj ha hb).1 (Cj ha hb).2).1 hk;rcases Jg T ha.1 hb.1 with⟨e1,_⟩|⟨e1,_⟩<;>rcases Jh T ha.2 hb.2 with⟨e2,_⟩|⟨e2,_⟩<;>rw[e1,e2] at hk<;>omega
end Go.Via
namespace Go.Via
open Go
def tV(x:Rl):List Rl->List Rl
 |[]=>[x]
 |y::ys=>if aY y x<0 then y::tV x ys else if aY y x=0 then y::ys else x::y::ys
def dX(l:List Rl):List Rl:=l.foldl (fun o x=>tV x o) []
theorem Hr{S:Rl->Prop}{ρ:Rl->Int}(T:dM S ρ){x:Rl}(hx:S x):∀{l:List Rl},(∀y∈l,S y)->∀z,z∈tV x l↔z=x∨z∈l
 |[],_,z=>by unfold tV;simp
 |y::ys,h,z=>by
  have hy:=h y (List.mem_cons_self ..);have ih:=Hr T hx (l:=ys) (fun w hw=>h w (List.mem_cons_of_mem _ hw)) z;unfold tV
  split
  ·rw[List.mem_cons,ih,List.mem_cons]
   constructor
   ·rintro(h|h|h);exact .inr (.inl h);exact .inl h;exact .inr (.inr h)
   ·rintro(h|h|h);exact .inr (.inl h);exact .inl h;exact .inr (.inr h)
  ·split
   ·rename_i h2
    have e:y=x:=T.inj hy hx ((T.zero hy hx).1 h2)
    constructor
    ·exact .inr
    ·rintro(h|h)
     ·rw[h,<-e];exact List.mem_cons_self ..
     ·exact h
   ·rw[List.mem_cons]
def Kq{S:Rl->Prop}{ρ:Rl->Int}(T:dM S ρ){x:Rl}(hx:S x):∀{l:List Rl},(∀y∈l,S y)->l.Pairwise (fun a b=>ρ a<ρ b)->(tV x l).Pairwise (fun a b=>ρ a<ρ b)
 |[],_,_=>List.pairwise_singleton ..
 |y::ys,h,hs=>by
  obtain⟨s1,s2⟩:=List.pairwise_cons.1 hs;have hy:=h y (List.mem_cons_self ..);have h':∀w∈ys,S w:=fun w hw=>h w (List.mem_cons_of_mem _ hw)
  have l1:=T.lt hy hx;have l2:=T.zero hy hx;unfold tV
  split
  ·rename_i hc
   refine List.pairwise_cons.2 ⟨fun z hz=>?_,Kq T hx h' s2⟩;rcases(Hr T hx h' z).1 hz with e|e
   ·rw[e];exact l1.1 hc
   ·exact s1 z e
  ·split
   ·exact hs
   ·have:ρ x<ρ y:=by
     have a1:¬ρ y<ρ x:=fun e=>absurd (l1.2 e) (by assumption)
     have a2:¬ρ y=ρ x:=fun e=>absurd (l2.2 e) (by assumption)
     omega
    refine List.pairwise_cons.2 ⟨fun z hz=>?_,hs⟩;rcases List.mem_cons.1 hz with e|e
    ·rw[e];exact this
    ·have:=s1 z e;omega
def nz{S:Rl->Prop}{ρ:Rl->Int}(T:dM S ρ){l:List Rl}(h:∀y∈l,S y):(dX l).Pairwise (fun a b=>ρ a<ρ b)∧∀z,z∈dX l↔z∈l:=by
 have gen:∀(l o:List Rl),(∀y∈l,S y)->(∀y∈o,S y)->o.Pairwise (fun a b=>ρ a<ρ b)->(l.foldl (fun o x=>tV x o) o).Pairwise (fun a b=>ρ a<ρ b)∧∀z,z∈l.foldl (fun o x=>tV x o) o↔z∈l∨z∈o:=by
  intro l
  induction l with
  |nil=>intro o _ _ hs;exact⟨hs,fun z=>bz⟩
  |cons x l ih=>
   intro o hl ho hs;have hx:=hl x (List.mem_cons_self ..);obtain⟨i1,i2⟩:=ih (tV x o) (fun y hy=>hl y (List.mem_cons_of_mem _ hy)) (fun y hy=>by
 rcases(Hr T hx ho y).1 hy with e|e
 ·rw[e];exact hx
 ·exact ho y e) (Kq T hx ho hs)
   refine⟨i1,fun z=>?_⟩
   rw[List.foldl_cons,i2,Hr T hx ho,List.mem_cons]
   constructor
   ·rintro(h|h|h);exact .inl (.inr h);exact .inl (.inl h);exact .inr h
   ·rintro((h|h)|h);exact .inr (.inl h);exact .inl h;exact .inr (.inr h)
 obtain⟨a,b⟩:=gen l [] h bz List.Pairwise.nil;exact⟨a,fun z=>by rw[show z∈dX l↔_ from b z];simp⟩
def dI(op:Bool->Bool->Bool)(a b:List Iv):List Iv:=(Rf (fun t=>op (ou a t) (ou b t)) (fun t u=>op (oz a t u) (oz b t u)) none (dX (bV (a++b)))).map fun p=>PW p.1 p.2
theorem xP{a b:List Iv}:bV (a++b)=bV a++bV b:=by unfold bV;rw[List.flatMap_append]
theorem WY{S:Rl->Prop}{ρ:Rl->Int}(T:dM S ρ){G:Int->Bool}{B C D:List oZ}(HG:∀k1 k2,k1<=k2->(∀b∈B,¬(k1<aI ρ b∧aI ρ b<=k2))->G k1=G k2)(H0:∀k,(∀b∈B,k<aI ρ b)->G k=false)
 (hC:C.Pairwise (fun a b=>aI ρ a<aI ρ b))(hD:D.Pairwise (fun a b=>aI ρ a<aI ρ b))(bC:∀b∈B,b∈C)(bD:∀b∈B,b∈D):gm (fun c=>G (aI ρ c)) none C=gm (fun c=>G (aI ρ c)) none D:=by
 have low:∀C:List oZ,∃lo:Int,∀c∈C,lo<aI ρ c:=fun C=>by
  induction C with
  |nil=>exact⟨0,fun c hc=>absurd hc bz⟩
  |cons c C ih=>
   obtain⟨lo,h⟩:=ih;refine⟨min lo (aI ρ c-1),fun x hx=>?_⟩
   rcases List.mem_cons.1 hx with e|e
   ·subst e;omega
   ·have:=h x e;omega
 have one:∀C:List oZ,C.Pairwise (fun a b=>aI ρ a<aI ρ b)->(∀b∈B,b∈C)->gm (fun c=>G (aI ρ c)) none C=gm (fun c=>G (aI ρ c)) none (C.filter fun c=>decide (c∈B)):=fun C hC bC=>by
  obtain⟨lo,hlo⟩:=low C;have hchk:=ZB (ρ:=ρ) (G:=G) (p:=fun c=>decide (c∈B)) (B:=B) (fun c=>by rw[decide_eq_true_eq]) HG (lo:=lo) hC hlo fun c hc=> .inr (bC c hc)
  rw[H0 lo fun b hb=>hlo b (bC b hb)] at hchk
  exact pq (st:=none) hchk
 rw[one C hC bC,one D hD bD]
 congr 1
 refine zq (κ:=aI ρ) (hC.filter _) (hD.filter _) fun c=>?_
 rw[List.mem_filter,List.mem_filter,decide_eq_true_eq]
 constructor
 ·rintro⟨_,h⟩;exact⟨bD c h,h⟩
 ·rintro⟨_,h⟩;exact⟨bC c h,h⟩
theorem lH{S:Rl->Prop}{l:List Iv}(h:fU S l):∀x∈bV l,S x:=fun x hx=>by
 obtain⟨i,hi,e⟩:=ny.1 hx;rcases e with e|e<;>subst e;exact(h i hi).1;exact(h i hi).2
theorem iF{S:Rl->Prop}{a b:List Iv}(ha:fU S a)(hb:fU S b):fU S (a++b):=fun i hi=>by
 rcases List.mem_append.1 hi with h|h;exact ha i h;exact hb i h
theorem rJ{S:Rl->Prop}{ρ:Rl->Int}(T:dM S ρ){op:Bool->Bool->Bool}(h0:op false false=false){a b:List Iv}(ha:fU S a)(hb:fU S b):
 dI op a b=(gm (fun c=>op (memB ρ a (aI ρ c)) (memB ρ b (aI ρ c))) none (mW (dX (bV (a++b))))).map fun p=>PW p.1 p.2:=by
 obtain⟨h1,h2⟩:=nz T (lH (iF ha hb));unfold dI;rw[Hg (Uj T h0 ha hb (pre:=[]) (fun t ht=>lH (iF ha hb) t ((h2 t).1 ht)) h1 (fun x hx=> .inl ((h2 x).2 (by rw[xP];exact hx))) fun i hi=>(iF ha hb i hi).1)]
def zW{a b:List Iv}{S:Rl->Prop}{ρ:Rl->Int}(T:dM S ρ)(ha:fU S a)(hb:fU S b):∀c∈bM a++bM b,c∈mW (dX (bV (a++b))):=fun c hc=>by
 obtain⟨_,h2⟩:=nz T (lH (iF ha hb));refine pJ.2 ((h2 _).2 ?_);rw[xP];rcases List.mem_append.1 hc with h|h
 ·obtain⟨i,hi,e⟩:=eQ.1 h;refine List.mem_append_left _ (ny.2 ⟨i,hi,?_⟩);rcases e with e|e<;>subst e;exact .inl rfl;exact .inr rfl
 ·obtain⟨i,hi,e⟩:=eQ.1 h;refine List.mem_append_right _ (ny.2 ⟨i,hi,?_⟩);rcases e with e|e<;>subst e;exact .inl rfl;exact .inr rfl
def WZ{S:Rl->Prop}{ρ:Rl->Int}(T:dM S ρ){op op':Bool->Bool->Bool}(h0:op false false=false)(h0':op' false false=false){a b a' b':List Iv}(ha:fU S a)(hb:fU S b)(ha':fU S a')(hb':fU S b')
 (h:∀k,op (memB ρ a k) (memB ρ b k)=op' (memB ρ a' k) (memB ρ b' k)):dI op a b=dI op' a' b':=by
 obtain⟨s1,_⟩:=nz T (lH (iF ha hb));obtain⟨s2,_⟩:=nz T (lH (iF ha' hb'));rw[rJ T h0 ha hb,rJ T h0' ha' hb']
 congr 1
 have e:∀D,gm (fun c=>op' (memB ρ a' (aI ρ c)) (memB ρ b' (aI ρ c))) none D=gm (fun c=>op (memB ρ a (aI ρ c)) (memB ρ b (aI ρ c))) none D:=fun D=>mg fun c _=>(h _).symm
 rw[e];have HG:∀(B:List oZ),(B=bM a++bM b)->(∀k1 k2,k1<=k2->(∀c∈B,¬(k1<aI ρ c∧aI ρ c<=k2))->op (memB ρ a k1) (memB ρ b k1)=op (memB ρ a k2) (memB ρ b k2)):=fun B hB k1 k2 hk hn=>by
  subst hB;rw[pI hk fun c hc=>hn c (List.mem_append_left _ hc),pI (l:=b) hk fun c hc=>hn c (List.mem_append_right _ hc)]
 have HG':∀(k1 k2:Int),k1<=k2->(∀c∈bM a'++bM b',¬(k1<aI ρ c∧aI ρ c<=k2))->op (memB ρ a k1) (memB ρ b k1)=op (memB ρ a k2) (memB ρ b k2):=fun k1 k2 hk hn=>by
  rw[h,h,pI hk fun c hc=>hn c (List.mem_append_left _ hc),pI (l:=b') hk fun c hc=>hn c (List.mem_append_right _ hc)]
 have sub:∀(B1 B2:List oZ),(∀k1 k2:Int,k1<=k2->(∀c∈B1,¬(k1<aI ρ c∧aI ρ c<=k2))->op (memB ρ a k1) (memB ρ b k1)=op (memB ρ a k2) (memB ρ b k2))->(∀k1 k2:Int,k1<=k2->(∀c∈B2,¬(k1<aI ρ c∧aI ρ c<=k2))->op (memB ρ a k1) (memB ρ b k1)=op (memB ρ a k2) (memB ρ b k2))->
  ∀k1 k2:Int,k1<=k2->(∀c∈B1.filter (fun c=>decide (c∈B2)),¬(k1<aI ρ c∧aI ρ c<=k2))->(∀c∈B1,S c.1)->(∀c∈B2,S c.1)->op (memB ρ a k1) (memB ρ b k1)=op (memB ρ a k2) (memB ρ b k2):=by
  intro B1 B2 H1 H2 k1 k2 hk hn c1 c2
  obtain⟨n,hn'⟩:∃n:Nat,k2=k1+n:=⟨(k2-k1).toNat,ae⟩;subst hn'
  clear hk
  induction n with
  |zero=>simp
  |succ n ih=>
   rw[ih fun c hc hk=>hn c hc ⟨hk.1,ae⟩]
   by_cases e1:∃c∈B1,aI ρ c=k1+(n+1:Nat)
   ·by_cases e2:∃c∈B2,aI ρ c=k1+(n+1:Nat)
    ·obtain⟨c,hc,ec⟩:=e1;obtain⟨d,hd,ed⟩:=e2;have:c=d:=Uc T (c1 c hc) (c2 d hd) ae;subst this;exact absurd ⟨ae,ae⟩ (hn c (List.mem_filter.2 ⟨hc,decide_eq_true hd⟩))
    ·exact H2 _ _ ae fun c hc hk=>e2 ⟨c,hc,ae⟩
   ·exact H1 _ _ ae fun c hc hk=>e1 ⟨c,hc,ae⟩
 have bS:∀l,fU S l->∀c∈bM l,S c.1:=fun l hl c hc=>by
  obtain⟨i,hi,e⟩:=eQ.1 hc;rcases e with e|e<;>subst e;exact(hl i hi).1;exact(hl i hi).2
 have bS2:∀l m,fU S l->fU S m->∀c∈bM l++bM m,S c.1:=fun l m hl hm c hc=>by
  rcases List.mem_append.1 hc with h|h;exact bS l hl c h;exact bS m hm c h
 refine WY T (B:=(bM a++bM b).filter fun c=>decide (c∈bM a'++bM b')) (G:=fun k=>op (memB ρ a k) (memB ρ b k)) ?_ ?_ (nY s1) (nY s2) ?_ ?_
 ·intro k1 k2 hk hn;exact sub _ _ (HG _ rfl) HG' k1 k2 hk hn (bS2 _ _ ha hb) (bS2 _ _ ha' hb')
 ·intro k hk;obtain⟨lo,hlo⟩:∃lo:Int,lo<=k∧∀c∈bM a++bM b,lo<aI ρ c:=by
   generalize bM a++bM b=C
   induction C with
   |nil=>exact⟨k,Int.le_refl _,fun c hc=>absurd hc bz⟩
   |cons c C ih=>
    obtain⟨lo,h1,h2⟩:=ih;refine⟨min lo (aI ρ c-1),ae,fun x hx=>?_⟩
    rcases List.mem_cons.1 hx with e|e
    ·subst e;omega
    ·have:=h2 x e;omega
  have e0:op (memB ρ a lo) (memB ρ b lo)=false:=by
   rw[yY fun c hc=>hlo.2 c (List.mem_append_left _ hc),yY (l:=b) fun c hc=>hlo.2 c (List.mem_append_right _ hc),h0]
  have:=sub _ _ (HG _ rfl) HG' lo k hlo.1 (fun c hc hh=>by have:=hk c hc;omega) (bS2 _ _ ha hb) (bS2 _ _ ha' hb');exact this.symm.trans e0
 ·intro c hc;exact zW T ha hb c (List.mem_filter.1 hc).1
 ·intro c hc;exact zW T ha' hb' c (of_decide_eq_true (List.mem_filter.1 hc).2)
end Go.Via
namespace Go.Via
open Go
structure Ln where
 x0:Rat
 x1:Rat
 y0:Rat
 y1:Rat
deriving DecidableEq
structure PU where
 i:Iv
 f:Ln
deriving DecidableEq
def dU(i:Iv):Bool:=decide (i.f=i.t)
def qx(f:Ln):Qd:=⟨f.x0,f.x1,0⟩
def qy(f:Ln):Qd:=⟨f.y0,f.y1,0⟩
def jE(f:Ln)(t:Rl):Ln:=if t.r=0 then⟨rE (qx f) t.p,0,rE (qy f) t.p,0⟩ else f
def FN(f g:Ln):Ln:=⟨f.x0-g.x0,f.x1-g.x1,f.y0-g.y0,f.y1-g.y1⟩
def qj(f g:Ln)(t:Rl):Bool:=decide (jE (FN f g) t=⟨0,0,0,0⟩)
def iR(u:PU):List PU:=
 (if u.i.fo=true then[] else[⟨⟨u.i.f,u.i.f,false,false⟩,u.f⟩])++
 (if dU u.i=true then[] else⟨⟨u.i.f,u.i.t,true,true⟩,u.f⟩::(if u.i.tp=true then[] else[⟨⟨u.i.t,u.i.t,false,false⟩,u.f⟩]))
def aC(l:List PU):List PU:=l.flatMap iR
def tX(out:List PU)(t:Rl):Bool:=match out.getLast? with|some u=>decide (u.i.t=t)&& !u.i.tp|none=>false
def uV(out:List PU)(t:Rl):Option PU:=match out.getLast? with|some u=>if u.i.t=t∧dU u.i=false then some u else none|none=>none
def jb(out:List PU)(u:PU):List PU:=out.dropLast++[u]
def jV(out:List PU)(prev:Option PU)(x:PU)(next:Option PU):List PU:=
 match dU x.i,uV out x.i.f with
 |false,some b=>if b.i.tp=false∧b.f=x.f then jb out ⟨⟨b.i.f,x.i.t,b.i.fo,true⟩,b.f⟩ else
  out++[⟨⟨x.i.f,x.i.t,(match prev with|some p=>if dU p.i=true∧p.i.f=x.i.f∧tX out x.i.f=false then false else x.i.fo|none=>x.i.fo),x.i.tp⟩,x.f⟩]
 |false,none=>out++[⟨⟨x.i.f,x.i.t,(match prev with|some p=>if dU p.i=true∧p.i.f=x.i.f∧tX out x.i.f=false then false else x.i.fo|none=>x.i.fo),x.i.tp⟩,x.f⟩]
 |true,some b=>if qj b.f x.f x.i.f=true then jb out ⟨⟨b.i.f,b.i.t,b.i.fo,false⟩,b.f⟩ else
  (match next with|some n=>if n.i.f=x.i.f∧qj n.f x.f x.i.f=true then out else out++[⟨x.i,jE x.f x.i.f⟩]|none=>out++[⟨x.i,jE x.f x.i.f⟩])
 |true,none=>(match next with|some n=>if n.i.f=x.i.f∧qj n.f x.f x.i.f=true then out else out++[⟨x.i,jE x.f x.i.f⟩]|none=>out++[⟨x.i,jE x.f x.i.f⟩])
def wo:Option PU->List PU->List PU->List PU
 |_,out,[]=>out
 |prev,out,x::xs=>wo (some x) (jV out prev x xs.head?) xs
def qY(l:List PU):List PU:=wo none [] (aC l)
def nR(ρ:Rl->Int)(l:List PU):Prop:=l.Pairwise (fun x y=>aI ρ x.i.e<=aI ρ y.i.b)∧∀x∈l,aI ρ x.i.b<aI ρ x.i.e
def Ends(S:Rl->Prop)(l:List PU):Prop:=∀x∈l,S x.i.f∧S x.i.t
def oI(ρ:Rl->Int)(b:oZ):2*ρ b.1<=aI ρ b∧aI ρ b<=2*ρ b.1+1:=by unfold aI;split<;>omega
def Cm{ρ:Rl->Int}{l:List PU}{u:PU}(h:nR ρ l)(hu:aI ρ u.i.b<aI ρ u.i.e)(hl:∀x∈l,aI ρ x.i.e<=aI ρ u.i.b):nR ρ (l++[u]):=
 ⟨List.pairwise_append.2 ⟨h.1,List.pairwise_singleton ..,fun x hx y hy=>by rw[List.mem_singleton] at hy;rw[hy];exact hl x hx⟩,fun x hx=>by
 rcases List.mem_append.1 hx with e|e
 ·exact h.2 x e
 ·rw[List.mem_singleton] at e;rw[e];exact hu⟩
def yZ{S:Rl->Prop}{l:List PU}{u:PU}(h:Ends S l)(hu:S u.i.f∧S u.i.t):Ends S (l++[u]):=fun x hx=>by
 rcases List.mem_append.1 hx with e|e
 ·exact h x e
 ·rw[List.mem_singleton] at e;rw[e];exact hu
theorem ql{l:List PU}{b:PU}(h:l.getLast? =some b):l=l.dropLast++[b]:=by
 have hne:l≠[]:=fun e=>by rw[e] at h;cases h
 have:=List.dropLast_concat_getLast hne;rw[List.getLast?_eq_some_getLast hne] at h
 injection h with h
 rw[h] at this;exact this.symm
def W9{ρ:Rl->Int}{l:List PU}{b:PU}(h:nR ρ (l++[b])):nR ρ l∧(∀x∈l,aI ρ x.i.e<=aI ρ b.i.b)∧aI ρ b.i.b<aI ρ b.i.e:=by
 obtain⟨h1,h2⟩:=h;obtain⟨a1,_,a3⟩:=List.pairwise_append.1 h1;exact⟨⟨a1,fun x hx=>h2 x (List.mem_append_left _ hx)⟩,fun x hx=>a3 x hx b bz,h2 b bz⟩
def y5{out:List PU}{t:Rl}{b:PU}(h:uV out t=some b):out.getLast? =some b∧b.i.t=t∧dU b.i=false:=by
 unfold uV at h;cases hl:out.getLast? with
 |none=>rw[hl] at h;cases h
 |some u=>
  rw[hl] at h;dsimp only at h
  split at h
  ·injection h with h;subst h;rename_i hc;exact⟨rfl,hc⟩
  ·cases h
def qet{S:Rl->Prop}{ρ:Rl->Int}(T:dM S ρ){out:List PU}{prev next:Option PU}{x:PU}{lo:Int}(hs:nR ρ out)(he:Ends S out)(hx:S x.i.f∧S x.i.t)(ho:aI ρ x.i.b<aI ρ x.i.e)
 (hlo:∀u∈out,aI ρ u.i.e<=lo)(hxl:lo<=aI ρ x.i.b)(hform:(x.i.f=x.i.t∧x.i.fo=false∧x.i.tp=false)∨(ρ x.i.f<ρ x.i.t∧x.i.fo=true∧x.i.tp=true)):
 nR ρ (jV out prev x next)∧Ends S (jV out prev x next)∧∀u∈jV out prev x next,aI ρ u.i.e<=aI ρ x.i.e:=by
 have keepE:∀u∈out,aI ρ u.i.e<=aI ρ x.i.e:=fun u hu=>by have:=hlo u hu;omega
 have snocE:∀v:PU,aI ρ v.i.e=aI ρ x.i.e->∀u∈out++[v],aI ρ u.i.e<=aI ρ x.i.e:=fun v hv u hu=>by
  rcases List.mem_append.1 hu with e|e
  ·exact keepE u e
  ·rw[List.mem_singleton] at e;rw[e];omega
 have red:nR ρ (out++[⟨x.i,jE x.f x.i.f⟩])∧Ends S (out++[⟨x.i,jE x.f x.i.f⟩])∧∀u∈out++[⟨x.i,jE x.f x.i.f⟩],aI ρ u.i.e<=aI ρ x.i.e:=
  ⟨Cm hs ho fun u hu=>by have:=hlo u hu;show _<=aI ρ x.i.b;omega,yZ he hx,snocE _ rfl⟩
 have app:nR ρ (out++[⟨⟨x.i.f,x.i.t,(match prev with|some p=>if dU p.i=true∧p.i.f=x.i.f∧tX out x.i.f=false then false else x.i.fo|none=>x.i.fo),x.i.tp⟩,x.f⟩])∧Ends S (out++[⟨⟨x.i.f,x.i.t,(match prev with|some p=>if dU p.i=true∧p.i.f=x.i.f∧tX out x.i.f=false then false else x.i.fo|none=>x.i.fo),x.i.tp⟩,x.f⟩])∧
  ∀u∈out++[⟨⟨x.i.f,x.i.t,(match prev with|some p=>if dU p.i=true∧p.i.f=x.i.f∧tX out x.i.f=false then false else x.i.fo|none=>x.i.fo),x.i.tp⟩,x.f⟩],aI ρ u.i.e<=aI ρ x.i.e:=by
  generalize hb:(match prev with|some p=>if dU p.i=true∧p.i.f=x.i.f∧tX out x.i.f=false then false else x.i.fo|none=>x.i.fo)=c
  have hc:c=x.i.fo∨(c=false∧tX out x.i.f=false):=by
   rw[<-hb];cases prev with
   |none=>exact .inl rfl
   |some p=>dsimp only;split;rename_i h;exact .inr ⟨rfl,h.2.2⟩;exact .inl rfl
  have hb0:aI ρ (x.i.f,c)<=aI ρ x.i.b:=by
   rcases hc with e|e
   ·rw[e];exact Int.le_refl _
   ·rw[e.1];unfold aI Iv.b;simp;split<;>omega
  refine⟨Cm hs ?_ fun u hu=>?_,yZ he hx,snocE _ rfl⟩
  ·show aI ρ (x.i.f,c)<aI ρ x.i.e;omega
  ·show aI ρ u.i.e<=aI ρ (x.i.f,c);rcases hc with e|⟨e,hh⟩
   ·rw[e];have:=hlo u hu;have:aI ρ (x.i.f,x.i.fo)=aI ρ x.i.b:=rfl;omega
   ·rw[e]
    have hle:aI ρ u.i.e<=aI ρ x.i.b:=(by have:=hlo u hu;omega);have hne:out≠[]:=fun e=>by rw[e] at hu;simp at hu
    obtain⟨b,hbl⟩:∃b,out.getLast? =some b:=⟨_,List.getLast?_eq_some_getLast hne⟩;have hsn:=ql hbl;rw[hsn] at hs hu he hlo;obtain⟨i1,i2,i3⟩:=W9 hs;have hbe:aI ρ b.i.e<=aI ρ (x.i.f,false):=by
     have h1:aI ρ b.i.e<=aI ρ x.i.b:=(by have:=hlo b bz;omega);unfold tX at hh;rw[hbl] at hh;dsimp only at hh;have hbS:=(he b bz).2
     by_cases ht:b.i.t=x.i.f
     ·rw[decide_eq_true ht,Bool.true_and] at hh;have:b.i.tp=true:=by simpa using hh
      unfold aI Iv.e Iv.b at*;rw[this,ht];simp
     ·have hne:ρ b.i.t≠ρ x.i.f:=fun e=>ht (T.inj hbS hx.1 e)
      have k1:=oI ρ b.i.e;have k2:=oI ρ x.i.b;have k3:=oI ρ (x.i.f,false);have k4:b.i.e.1=b.i.t:=rfl;have k5:x.i.b.1=x.i.f:=rfl;rw[k4] at k1;rw[k5] at k2;dsimp only at k3;omega
    rcases List.mem_append.1 hu with e'|e'
    ·have:=i2 u e';omega
    ·rw[List.mem_singleton] at e';rw[e'];exact hbe
 have nx:nR ρ (match next with|some n=>if n.i.f=x.i.f∧qj n.f x.f x.i.f=true then out else out++[⟨x.i,jE x.f x.i.f⟩]|none=>out++[⟨x.i,jE x.f x.i.f⟩])∧Ends S (match next with|some n=>if n.i.f=x.i.f∧qj n.f x.f x.i.f=true then out else out++[⟨x.i,jE x.f x.i.f⟩]|none=>out++[⟨x.i,jE x.f x.i.f⟩])∧
  ∀u:PU,u∈(match next with|some n=>if n.i.f=x.i.f∧qj n.f x.f x.i.f=true then out else out++[(⟨x.i,jE x.f x.i.f⟩:PU)]|none=>out++[(⟨x.i,jE x.f x.i.f⟩:PU)])->aI ρ u.i.e<=aI ρ x.i.e:=by
  cases next with
  |none=>exact red
  |some n=>
   dsimp only
   split
   ·exact⟨hs,he,keepE⟩
   ·exact red
 have setE:∀{b v:PU},uV out x.i.f=some b->v.i.b=b.i.b->v.i.f=b.i.f->S v.i.t->aI ρ v.i.b<aI ρ v.i.e->aI ρ v.i.e<=aI ρ x.i.e->nR ρ (jb out v)∧Ends S (jb out v)∧∀u∈jb out v,aI ρ u.i.e<=aI ρ x.i.e:=fun {b v} hb h1 h2 h3 h4 h5=>by
  obtain⟨hl,_,_⟩:=y5 hb;have hsn:=ql hl;have hs':=hs;have he':=he;rw[hsn] at hs' he';obtain⟨i1,i2,i3⟩:=W9 hs';unfold jb;refine⟨Cm i1 h4 fun u hu=>by rw[h1];exact i2 u hu,yZ (fun u hu=>he' u (List.mem_append_left _ hu)) ⟨by rw[h2];exact(he' b bz).1,h3⟩,fun u hu=>?_⟩
  rcases List.mem_append.1 hu with e|e
  ·exact keepE u (by rw[hsn];exact List.mem_append_left _ e)
  ·rw[List.mem_singleton] at e;rw[e];exact h5
 unfold jV;have fin:∀b,uV out x.i.f=some b->(dU x.i=false->b.i.tp=false∧b.f=x.f->nR ρ (jb out ⟨⟨b.i.f,x.i.t,b.i.fo,true⟩,b.f⟩)∧Ends S (jb out ⟨⟨b.i.f,x.i.t,b.i.fo,true⟩,b.f⟩)∧∀u∈jb out ⟨⟨b.i.f,x.i.t,b.i.fo,true⟩,b.f⟩,aI ρ u.i.e<=aI ρ x.i.e)∧
  (dU x.i=true->nR ρ (jb out ⟨⟨b.i.f,b.i.t,b.i.fo,false⟩,b.f⟩)∧Ends S (jb out ⟨⟨b.i.f,b.i.t,b.i.fo,false⟩,b.f⟩)∧∀u∈jb out ⟨⟨b.i.f,b.i.t,b.i.fo,false⟩,b.f⟩,aI ρ u.i.e<=aI ρ x.i.e):=fun b hb=>by
  obtain⟨hl,ht,hn⟩:=y5 hb;have hbm:b∈out:=by rw[ql hl];simp
  have hbo:=hs.2 b hbm;have hble:=hlo b hbm
  constructor
  ·intro hi _;refine setE hb rfl rfl hx.2 ?_ ?_
   ·have e1:aI ρ (Iv.e ⟨b.i.f,x.i.t,b.i.fo,true⟩)=2*ρ x.i.t:=by unfold aI Iv.e;simp
    have e2:aI ρ (Iv.b ⟨b.i.f,x.i.t,b.i.fo,true⟩)=aI ρ b.i.b:=rfl;rcases hform with hf|hf
    ·exfalso;unfold dU at hi;rw[decide_eq_true hf.1] at hi;cases hi
    ·have e3:aI ρ x.i.b=2*ρ x.i.f+1:=by unfold aI Iv.b;rw[hf.2.1];simp
     show aI ρ (Iv.b ⟨b.i.f,x.i.t,b.i.fo,true⟩)<aI ρ (Iv.e ⟨b.i.f,x.i.t,b.i.fo,true⟩);omega
   ·rcases hform with hf|hf
    ·exfalso;unfold dU at hi;rw[decide_eq_true hf.1] at hi;cases hi
    ·show aI ρ (Iv.e ⟨b.i.f,x.i.t,b.i.fo,true⟩)<=_;unfold aI Iv.e;rw[hf.2.2];exact Int.le_refl _
  ·intro hi;refine setE hb rfl rfl (by show S b.i.t;rw[ht];exact hx.1) ?_ ?_
   ·have e1:aI ρ b.i.e<=aI ρ (Iv.e ⟨b.i.f,b.i.t,b.i.fo,false⟩):=by
     have:=oI ρ b.i.e;have e:b.i.e.1=b.i.t:=rfl;rw[e] at this;unfold aI Iv.e at*;simp at*;omega
    show aI ρ b.i.b<aI ρ (Iv.e ⟨b.i.f,b.i.t,b.i.fo,false⟩);omega
   ·rcases hform with hf|hf
    ·show aI ρ (Iv.e ⟨b.i.f,b.i.t,b.i.fo,false⟩)<=_;unfold aI Iv.e;rw[hf.2.2,ht,hf.1];exact Int.le_refl _
    ·exfalso;unfold dU at hi;have:=of_decide_eq_true hi;rw[this] at hf;omega
 cases hi:dU x.i
 ·cases hb:uV out x.i.f with
  |none=>exact app
  |some b=>
   dsimp only
   split
   ·rename_i hc;exact(fin b hb).1 hi hc
   ·exact app
 ·cases hb:uV out x.i.f with
  |none=>exact nx
  |some b=>
   dsimp only
   split
   ·exact(fin b hb).2 hi
   ·exact nx
end Go.Via
namespace Go.Via
open Go
def Xa(ρ:Rl->Int)(x:PU):Prop:=(x.i.f=x.i.t∧x.i.fo=false∧x.i.tp=false)∨(ρ x.i.f<ρ x.i.t∧x.i.fo=true∧x.i.tp=true)
def qin{ρ:Rl->Int}{x:PU}(h:Xa ρ x):aI ρ x.i.b<aI ρ x.i.e:=by
 unfold aI Iv.b Iv.e;rcases h with⟨h1,h2,h3⟩|⟨h1,h2,h3⟩
 ·rw[h1,h2,h3];simp;omega
 ·rw[h2,h3];simp;omega
def Ox{S:Rl->Prop}{ρ:Rl->Int}(T:dM S ρ):∀{xs:List PU} {out:List PU} {prev:Option PU} {lo:Int},nR ρ out->Ends S out->(∀u∈out,aI ρ u.i.e<=lo)->nR ρ xs->Ends S xs->(∀x∈xs,Xa ρ x)->(∀x∈xs,lo<=aI ρ x.i.b)->
 nR ρ (wo prev out xs)∧Ends S (wo prev out xs)
 |[],_,_,_,h1,h2,_,_,_,_,_=>⟨h1,h2⟩
 |x::xs,out,prev,lo,h1,h2,h3,h4,h5,h6,h7=>by
  have hx:=h5 x (List.mem_cons_self ..);have hf:=h6 x (List.mem_cons_self ..);obtain⟨a,b,c⟩:=qet T (prev:=prev) (next:=xs.head?) h1 h2 hx (qin hf) h3 (h7 x (List.mem_cons_self ..)) hf;obtain⟨p1,p2⟩:=List.pairwise_cons.1 h4.1;unfold wo;exact Ox T a b c ⟨p2,fun y hy=>h4.2 y (List.mem_cons_of_mem _ hy)⟩ (fun y hy=>h5 y (List.mem_cons_of_mem _ hy)) (fun y hy=>h6 y (List.mem_cons_of_mem _ hy)) fun y hy=>p1 y hy
def Xb{S:Rl->Prop}{ρ:Rl->Int}(T:dM S ρ){u:PU}(hu:S u.i.f∧S u.i.t)(h:aI ρ u.i.b<aI ρ u.i.e):
 nR ρ (iR u)∧Ends S (iR u)∧(∀x∈iR u,Xa ρ x)∧(∀x∈iR u,aI ρ u.i.b<=aI ρ x.i.b∧aI ρ x.i.e<=aI ρ u.i.e):=by
 obtain⟨⟨f,t,fo,tp⟩,g⟩:=u;dsimp only at hu
 by_cases hi:f=t
 ·subst hi;have:fo=false∧tp=false:=by unfold aI Iv.b Iv.e at h;cases fo<;>cases tp<;>simp at h ⊢ <;>omega
  obtain⟨e1,e2⟩:=this;subst e1;subst e2;have e:iR ⟨⟨f,f,false,false⟩,g⟩=[⟨⟨f,f,false,false⟩,g⟩]:=by simp[iR,dU]
  rw[e];refine⟨⟨List.pairwise_singleton ..,fun x hx=>?_⟩,fun x hx=>?_,fun x hx=>?_,fun x hx=>?_⟩<;>rw[List.mem_singleton] at hx<;>subst hx
  ·exact h
  ·exact⟨hu.1,hu.1⟩
  ·exact .inl ⟨rfl,rfl,rfl⟩
  ·exact⟨Int.le_refl _,Int.le_refl _⟩
 ·have hne:ρ f≠ρ t:=fun e=>hi (T.inj hu.1 hu.2 e)
  have hlt:ρ f<ρ t:=by
   have k1:=oI ρ (Iv.b ⟨f,t,fo,tp⟩);have k2:=oI ρ (Iv.e ⟨f,t,fo,tp⟩);have e1:(Iv.b ⟨f,t,fo,tp⟩).1=f:=rfl;have e2:(Iv.e ⟨f,t,fo,tp⟩).1=t:=rfl;rw[e1] at k1;rw[e2] at k2;dsimp only at h;omega
  have e:iR ⟨⟨f,t,fo,tp⟩,g⟩=(if fo=true then[] else[⟨⟨f,f,false,false⟩,g⟩])++(⟨⟨f,t,true,true⟩,g⟩::(if tp=true then[] else[⟨⟨t,t,false,false⟩,g⟩])):=(by simp[iR,dU,hi]);rw[e]
  have F1:∀x:Rl,aI ρ (x,true)=2*ρ x+1:=fun x=>by unfold aI;simp
  have F0:∀x:Rl,aI ρ (x,false)=2*ρ x:=fun x=>by unfold aI;simp
  cases fo<;>cases tp<;>simp[nR,Ends,Xa,Iv.b,Iv.e,F1,F0,hu,hlt]<;>omega
def Oy{S:Rl->Prop}{ρ:Rl->Int}(T:dM S ρ):∀{l:List PU},nR ρ l->Ends S l->nR ρ (aC l)∧Ends S (aC l)∧(∀x∈aC l,Xa ρ x)∧∀x∈aC l,∃u∈l,aI ρ u.i.b<=aI ρ x.i.b∧aI ρ x.i.e<=aI ρ u.i.e
 |[],_,_=>⟨⟨List.Pairwise.nil,by simp[aC]⟩,by simp[aC,Ends],by simp[aC],by simp[aC]⟩
 |u::l,h,he=>by
  obtain⟨p1,p2⟩:=List.pairwise_cons.1 h.1;obtain⟨a1,a2,a3,a4⟩:=Xb T (he u (List.mem_cons_self ..)) (h.2 u (List.mem_cons_self ..));obtain⟨b1,b2,b3,b4⟩:=Oy T (l:=l) ⟨p2,fun y hy=>h.2 y (List.mem_cons_of_mem _ hy)⟩ fun y hy=>he y (List.mem_cons_of_mem _ hy)
  have e:aC (u::l)=iR u++aC l:=rfl;rw[e];refine⟨⟨List.pairwise_append.2 ⟨a1.1,b1.1,fun x hx y hy=>?_⟩,fun x hx=>?_⟩,fun x hx=>?_,fun x hx=>?_,fun x hx=>?_⟩
  ·obtain⟨v,hv,h1,h2⟩:=b4 y hy;have:=(a4 x hx).2;have:=p1 v hv;omega
  ·rcases List.mem_append.1 hx with h|h;exact a1.2 x h;exact b1.2 x h
  ·rcases List.mem_append.1 hx with h|h;exact a2 x h;exact b2 x h
  ·rcases List.mem_append.1 hx with h|h;exact a3 x h;exact b3 x h
  ·rcases List.mem_append.1 hx with h|h
   ·exact⟨u,List.mem_cons_self ..,a4 x h⟩
   ·obtain⟨v,hv,h1⟩:=b4 x h;exact⟨v,List.mem_cons_of_mem _ hv,h1⟩
def Ry{S:Rl->Prop}{ρ:Rl->Int}(T:dM S ρ){l:List PU}(h:nR ρ l)(he:Ends S l):nR ρ (qY l)∧Ends S (qY l):=by
 obtain⟨b1,b2,b3,_⟩:=Oy T h he;obtain⟨lo,hlo⟩:∃lo:Int,∀x∈aC l,lo<=aI ρ x.i.b:=by
  generalize aC l=C
  induction C with
  |nil=>exact⟨0,fun c hc=>absurd hc bz⟩
  |cons c C ih=>
   obtain⟨lo,h⟩:=ih;refine⟨min lo (aI ρ c.i.b),fun x hx=>?_⟩
   rcases List.mem_cons.1 hx with e|e
   ·subst e;omega
   ·have:=h x e;omega
 exact Ox T ⟨List.Pairwise.nil,bz⟩ (by simp[Ends]) bz b1 b2 b3 hlo
def qeu{P:Ln->Prop}{out:List PU}{prev next:Option PU}{x:PU}(h:∀u∈out,P u.f)(hx:P x.f)(hr:P (jE x.f x.i.f)):∀u∈jV out prev x next,P u.f:=by
 have app:∀v:PU,P v.f->∀u∈out++[v],P u.f:=fun v hv u hu=>by
  rcases List.mem_append.1 hu with e|e
  ·exact h u e
  ·rw[List.mem_singleton] at e;rw[e];exact hv
 have set:∀b v:PU,out.getLast? =some b->v.f=b.f->∀u∈jb out v,P u.f:=fun b v hb hv u hu=>by
  have hs:=ql hb;rcases List.mem_append.1 hu with e|e
  ·exact h u (by rw[hs];exact List.mem_append_left _ e)
  ·rw[List.mem_singleton] at e;rw[e,hv];exact h b (by rw[hs];simp)
 unfold jV;cases hi:dU x.i<;>cases hb:uV out x.i.f with
 |none=>
  dsimp only
  first
  |exact app _ hx
  |cases next with
   |none=>exact app _ hr
   |some n=>dsimp only;split<;>first|exact h|exact app _ hr
 |some b=>
  have hl:=(y5 hb).1;dsimp only
  split
  ·exact set b _ hl rfl
  ·first
   |exact app _ hx
   |cases next with
    |none=>exact app _ hr
    |some n=>dsimp only;split<;>first|exact h|exact app _ hr
def Oz{P:Ln->Prop}:∀{xs:List PU} {out:List PU} {prev:Option PU},(∀u∈out,P u.f)->(∀x∈xs,P x.f∧P (jE x.f x.i.f))->∀u∈wo prev out xs,P u.f
 |[],_,_,h,_=>h
 |x::xs,out,prev,h,hx=>Oz (xs:=xs) (qeu h (hx x (List.mem_cons_self ..)).1 (hx x (List.mem_cons_self ..)).2) fun y hy=>hx y (List.mem_cons_of_mem _ hy)
def Rz{P:Ln->Prop}{l:List PU}(h:∀u∈l,P u.f∧P (jE u.f u.i.f)∧P (jE u.f u.i.t)):∀u∈qY l,P u.f:=by
 refine Oz bz fun x hx=>?_
 obtain⟨u,hu,hxu⟩:=List.mem_flatMap.1 hx;have h1:=h u hu;unfold iR at hxu;rcases List.mem_append.1 hxu with e|e
 ·split at e
  ·simp at e
  ·rw[List.mem_singleton] at e;subst e;exact⟨h1.1,h1.2.1⟩
 ·split at e
  ·simp at e
  ·rcases List.mem_cons.1 e with e|e
   ·subst e;exact⟨h1.1,h1.2.1⟩
   ·split at e
    ·simp at e
    ·rw[List.mem_singleton] at e;subst e;exact⟨h1.1,h1.2.2⟩
def qev{out:List PU}{prev next:Option PU}{x:PU}:(jV out prev x next).length<=out.length+1:=by
 have set:∀b v:PU,out.getLast? =some b->(jb out v).length<=out.length+1:=fun b v hb=>by
  unfold jb;rw[List.length_append,List.length_dropLast];simp
 unfold jV;cases hi:dU x.i<;>cases hb:uV out x.i.f with
 |none=>
  dsimp only
  first
  |(simp;done)
  |cases next with
   |none=>simp
   |some n=>dsimp only;split<;>simp
 |some b=>
  have hl:=(y5 hb).1;dsimp only
  split
  ·exact set b _ hl
  ·first
   |(simp;done)
   |cases next with
    |none=>simp
    |some n=>dsimp only;split<;>simp
def OA:∀{xs:List PU} {out:List PU} {prev:Option PU},(wo prev out xs).length<=out.length+xs.length
 |[],_,_=>Nat.le_refl _
 |x::xs,out,prev=>by
  have:=OA (xs:=xs) (out:=jV out prev x xs.head?) (prev:=some x);have:=qev (out:=out) (prev:=prev) (next:=xs.head?) (x:=x);unfold wo;rw[List.length_cons];omega
def D5:∀{l:List PU},(aC l).length<=3*l.length
 |[]=>Nat.le_refl _
 |u::l=>by
  have h:(iR u).length<=3:=by
   unfold iR;rw[List.length_append]
   split<;>split<;>simp<;>split<;>simp
  have:=D5 (l:=l);have e:aC (u::l)=iR u++aC l:=rfl;rw[e,List.length_append,List.length_cons];omega
def RD{l:List PU}:(qY l).length<=3*l.length:=by
 have:=OA (xs:=aC l) (out:=[]) (prev:=none);have:=D5 (l:=l);unfold qY;simp at*;omega
end Go.Via
namespace Go.Via
open Go
theorem Ht{ρ:Rl->Int}{i:Iv}{k:Int}:memB ρ [i] k=(decide (aI ρ i.b<=k)&&decide (k<aI ρ i.e)):=by unfold memB;simp
theorem ZE(i:Iv):PW i.b i.e=i:=by unfold PW Iv.b Iv.e;simp
def qio{S:Rl->Prop}{ρ:Rl->Int}(T:dM S ρ){a b:Iv}(ha:S a.f∧S a.t)(hb:S b.f∧S b.t):dI (fun x y=>x&&y) [a] [b]=(fC a b).toList:=by
 have hA:fU S [a]:=fun i hi=>by rw[List.mem_singleton] at hi;rw[hi];exact ha
 have hB:fU S [b]:=fun i hi=>by rw[List.mem_singleton] at hi;rw[hi];exact hb
 obtain⟨s1,_⟩:=nz T (lH (iF hA hB));rw[rJ T rfl hA hB];have hin:=zW T hA hB;have mb:=Jg T ha.1 hb.1;have me:=Jh T ha.2 hb.2;have hG:∀k,(memB ρ [a] k&&memB ρ [b] k)=(decide (aI ρ (dR a b).b<=k)&&decide (k<aI ρ (dR a b).e)):=fun k=>by
  rw[Ht,Ht,Bool.eq_iff_iff];simp only[Bool.and_eq_true,decide_eq_true_eq];rcases mb with⟨e1,_⟩|⟨e1,_⟩<;>rcases me with⟨e2,_⟩|⟨e2,_⟩<;>rw[e1,e2]<;>omega
 have hb1:(dR a b).b∈mW (dX (bV ([a]++[b]))):=by
  rcases mb with⟨e1,_⟩|⟨e1,_⟩<;>rw[e1]<;>refine hin _ ?_
  ·exact List.mem_append_left _ (eQ.2 ⟨a,bz,.inl rfl⟩)
  ·exact List.mem_append_right _ (eQ.2 ⟨b,bz,.inl rfl⟩)
 have hb2:(dR a b).e∈mW (dX (bV ([a]++[b]))):=by
  rcases me with⟨e1,_⟩|⟨e1,_⟩<;>rw[e1]<;>refine hin _ ?_
  ·exact List.mem_append_left _ (eQ.2 ⟨a,bz,.inr rfl⟩)
  ·exact List.mem_append_right _ (eQ.2 ⟨b,bz,.inr rfl⟩)
 have hok:=oQ T (Cj ha hb).1 (Cj ha hb).2;unfold fC
 by_cases h:ja (dR a b)=true
 ·have hlt:=hok.1 h;rw[if_pos h];rw[WY T (G:=fun k=>memB ρ [a] k&&memB ρ [b] k) (B:=[(dR a b).b,(dR a b).e]) (D:=[(dR a b).b,(dR a b).e]) ?_ ?_ (nY s1) ?_ ?_ fun c hc=>hc]
  ·unfold gm;rw[hG,decide_eq_true (Int.le_refl _),decide_eq_true hlt];unfold gm;rw[hG,decide_eq_false (show¬aI ρ (dR a b).e<aI ρ (dR a b).e by omega),Bool.and_false];simp[gm,ZE]
  ·intro k1 k2 hk hn;have n1:=hn _ (List.mem_cons_self ..);have n2:=hn (dR a b).e bz;rw[hG,hG,Bool.eq_iff_iff];exact Zz
  ·intro k hk;have n1:=hk _ (List.mem_cons_self ..);rw[hG,decide_eq_false ae,Bool.false_and]
  ·exact List.pairwise_cons.2 ⟨fun c hc=>by rw[List.mem_singleton] at hc;rw[hc];exact hlt,List.pairwise_singleton ..⟩
  ·intro c hc;rcases List.mem_cons.1 hc with e|e
   ·rw[e];exact hb1
   ·rw[List.mem_singleton] at e;rw[e];exact hb2
 ·have hle:¬aI ρ (dR a b).b<aI ρ (dR a b).e:=fun hh=>h (hok.2 hh)
  rw[if_neg h];have hF:∀k,(memB ρ [a] k&&memB ρ [b] k)=false:=fun k=>by
   rw[hG];cases h1:decide (aI ρ (dR a b).b<=k)
   ·rfl
   ·have:=of_decide_eq_true h1;rw[decide_eq_false ae];rfl
  have:∀C:List oZ,gm (fun c=>memB ρ [a] (aI ρ c)&&memB ρ [b] (aI ρ c)) none C=[]:=fun C=>by
   induction C with
   |nil=>rfl
   |cons c C ih=>unfold gm;rw[hF,if_neg au,ih]
  rw[this];rfl
def d2(f g:Ln):Qd:=⟨(f.x0-g.x0)*(f.x0-g.x0)+(f.y0-g.y0)*(f.y0-g.y0),2*((f.x0-g.x0)*(f.x1-g.x1)+(f.y0-g.y0)*(f.y1-g.y1)),(f.x1-g.x1)*(f.x1-g.x1)+(f.y1-g.y1)*(f.y1-g.y1)⟩
theorem qoI(f g:Ln):d2 f g=d2 g f:=by unfold d2;congr 1<;>grind
def qvL(f g:Ln):0<=(d2 f g).c2:=by
 unfold d2;have h1:=pV (f.x1-g.x1);have h2:=pV (f.y1-g.y1);dsimp only;grind
def D6(f g:Ln)(t:Rat):0<=rE (d2 f g) t:=by
 have h1:=pV ((f.x0-g.x0)+(f.x1-g.x1)*t);have h2:=pV ((f.y0-g.y0)+(f.y1-g.y1)*t);have e:rE (d2 f g) t=((f.x0-g.x0)+(f.x1-g.x1)*t)*((f.x0-g.x0)+(f.x1-g.x1)*t)+((f.y0-g.y0)+(f.y1-g.y1)*t)*((f.y0-g.y0)+(f.y1-g.y1)*t):=by
  unfold rE d2;grind
 rw[e];grind
structure iT where
 i:Iv
 a:Rl
 b:Rl
deriving DecidableEq
def aW(x:Iv×Qd):iT:=⟨x.1,zN x.2 x.1.f,zN x.2 x.1.t⟩
def jP(x y:PU):Option (Iv×Qd):=(fC x.i y.i).map fun m=>(m,d2 x.f y.f)
def aA(a b:List PU):List (Iv×Qd):=gY jP (fun x y=>Rx x.i y.i) a b
def Xc{S:Rl->Prop}{ρ:Rl->Int}(T:dM S ρ){x y:PU}(hx:S x.i.f∧S x.i.t)(hy:S y.i.f∧S y.i.t)(h:aI ρ x.i.e<=aI ρ y.i.b∨aI ρ y.i.e<=aI ρ x.i.b)(ox:aI ρ x.i.b<aI ρ x.i.e)(oy:aI ρ y.i.b<aI ρ y.i.e):jP x y=none:=by
 unfold jP;rw[qes T hx hy h ox oy];rfl
theorem fP{S:Rl->Prop}{ρ:Rl->Int}(T:dM S ρ){a b:List PU}(sa:nR ρ a)(sb:nR ρ b)(ea:Ends S a)(eb:Ends S b):aA a b=flatK jP a b:=by
 unfold aA;refine Jf (fa:=fun x=>aI ρ x.i.b) (la:=fun x=>aI ρ x.i.e) (fb:=fun x=>aI ρ x.i.b) (lb:=fun x=>aI ρ x.i.e) (fun x hx y hy=>⟨qer T (ea x hx).2 (eb y hy).2,fun h=>?_,fun h=>?_⟩) sa.1 sb.1
 ·exact Xc T (ea x hx) (eb y hy) (.inl h) (sa.2 x hx) (sb.2 y hy)
 ·exact Xc T (ea x hx) (eb y hy) (.inr h) (sa.2 x hx) (sb.2 y hy)
def nC{S:Rl->Prop}{ρ:Rl->Int}(T:dM S ρ){x y:PU}{z:Iv×Qd}(hx:S x.i.f∧S x.i.t)(hy:S y.i.f∧S y.i.t)(h:jP x y=some z):
 z.1=dR x.i y.i∧z.2=d2 x.f y.f∧S z.1.f∧S z.1.t∧aI ρ z.1.b<aI ρ z.1.e∧aI ρ x.i.b<=aI ρ z.1.b∧aI ρ y.i.b<=aI ρ z.1.b∧aI ρ z.1.e<=aI ρ x.i.e∧aI ρ z.1.e<=aI ρ y.i.e:=by
 unfold jP fC at h
 by_cases hk:ja (dR x.i y.i)=true
 ·rw[if_pos hk] at h
  injection h with h
  subst h;have hS:=Cj hx hy;have hlt:=(oQ T hS.1 hS.2).1 hk;refine⟨rfl,rfl,hS.1,hS.2,hlt,?_⟩;dsimp only;rcases Jg T hx.1 hy.1 with⟨e1,_⟩|⟨e1,_⟩<;>rcases Jh T hx.2 hy.2 with⟨e2,_⟩|⟨e2,_⟩<;>rw[e1,e2]<;>omega
 ·rw[if_neg hk] at h;cases h
def nD{S:Rl->Prop}{ρ:Rl->Int}(T:dM S ρ){b:List PU}(sb:nR ρ b)(eb:Ends S b):∀{a:List PU},nR ρ a->Ends S a->
 (flatK jP a b).Pairwise (fun p q=>aI ρ p.1.e<=aI ρ q.1.b)∧∀z∈flatK jP a b,∃x∈a,∃y∈b,jP x y=some z
 |[],_,_=>⟨List.Pairwise.nil,by simp[flatK]⟩
 |x::a,sa,ea=>by
  obtain⟨p1,p2⟩:=List.pairwise_cons.1 sa.1;have hx:=ea x (List.mem_cons_self ..);obtain⟨i1,i2⟩:=nD T sb eb (a:=a) ⟨p2,fun y hy=>sa.2 y (List.mem_cons_of_mem _ hy)⟩ fun y hy=>ea y (List.mem_cons_of_mem _ hy)
  have e:flatK jP (x::a) b=b.filterMap (jP x)++flatK jP a b:=(by unfold flatK;rw[List.flatMap_cons]);rw[e];have row:∀{c:List PU},c.Pairwise (fun x y=>aI ρ x.i.e<=aI ρ y.i.b)->Ends S c->(c.filterMap (jP x)).Pairwise (fun p q=>aI ρ p.1.e<=aI ρ q.1.b):=fun {c} hc hE=>by
   refine(List.pairwise_filterMap).2 (hc.imp_of_mem fun {u v} hu hv huv p hp q hq=>?_);have hp':=nC T hx (hE u hu) hp;have hq':=nC T hx (hE v hv) hq;omega
  refine⟨List.pairwise_append.2 ⟨row sb.1 eb,i1,fun p hp q hq=>?_⟩,fun z hz=>?_⟩
  ·obtain⟨y,hy,hpy⟩:=List.mem_filterMap.1 hp;obtain⟨x',hx',y',hy',hq'⟩:=i2 q hq;have h1:=nC T hx (eb y hy) hpy;have h2:=nC T (ea x' (List.mem_cons_of_mem _ hx')) (eb y' hy') hq';have:=p1 x' hx';omega
  ·rcases List.mem_append.1 hz with h|h
   ·obtain⟨y,hy,hpy⟩:=List.mem_filterMap.1 h;exact⟨x,List.mem_cons_self ..,y,hy,hpy⟩
   ·obtain⟨x',hx',y',hy',hq'⟩:=i2 z h;exact⟨x',List.mem_cons_of_mem _ hx',y',hy',hq'⟩
end Go.Via
namespace Go.Via
open Go
structure B3 where
 i:Iv
 f:Ln
 g:Ln
def kQ(x:Rl):List Value:=[.bool (decide (x.p.num<0)),.string (bH x.p.num.natAbs),.bool false,.string (dm x.p),.bool (decide (x.r.num<0)),.string (bH x.r.num.natAbs),.bool false,.string (dm x.r),.bool x.n]
def RV(x:Rl):Value:= .agg #[.bool (decide (x.p.num<0)),.string (bH x.p.num.natAbs),.bool false,.string (dm x.p),.bool (decide (x.r.num<0)),.string (bH x.r.num.natAbs),.bool false,.string (dm x.r),.bool x.n]
def aZ(x:Iv):List Value:=[.bool (decide (x.f.p.num<0)),.string (bH x.f.p.num.natAbs),.bool false,.string (dm x.f.p),.bool (decide (x.f.r.num<0)),.string (bH x.f.r.num.natAbs),.bool false,.string (dm x.f.r),.bool x.f.n,.bool (decide (x.t.p.num<0)),.string (bH x.t.p.num.natAbs),.bool false,.string (dm x.t.p),.bool (decide (x.t.r.num<0)),.string (bH x.t.r.num.natAbs),.bool false,.string (dm x.t.r),.bool x.t.n,.bool x.fo,.bool x.tp]
def lC(x:Iv):Value:= .agg #[.bool (decide (x.f.p.num<0)),.string (bH x.f.p.num.natAbs),.bool false,.string (dm x.f.p),.bool (decide (x.f.r.num<0)),.string (bH x.f.r.num.natAbs),.bool false,.string (dm x.f.r),.bool x.f.n,.bool (decide (x.t.p.num<0)),.string (bH x.t.p.num.natAbs),.bool false,.string (dm x.t.p),.bool (decide (x.t.r.num<0)),.string (bH x.t.r.num.natAbs),.bool false,.string (dm x.t.r),.bool x.t.n,.bool x.fo,.bool x.tp]
def qoJ(x:Qd):List Value:=[.bool (decide (x.c0.num<0)),.string (bH x.c0.num.natAbs),.bool false,.string (dm x.c0),.bool (decide (x.c1.num<0)),.string (bH x.c1.num.natAbs),.bool false,.string (dm x.c1),.bool (decide (x.c2.num<0)),.string (bH x.c2.num.natAbs),.bool false,.string (dm x.c2)]
def uf(x:Qd):Value:= .agg #[.bool (decide (x.c0.num<0)),.string (bH x.c0.num.natAbs),.bool false,.string (dm x.c0),.bool (decide (x.c1.num<0)),.string (bH x.c1.num.natAbs),.bool false,.string (dm x.c1),.bool (decide (x.c2.num<0)),.string (bH x.c2.num.natAbs),.bool false,.string (dm x.c2)]
def AU(x:Ln):Value:= .agg #[.bool (decide (x.x0.num<0)),.string (bH x.x0.num.natAbs),.bool false,.string (dm x.x0),.bool (decide (x.x1.num<0)),.string (bH x.x1.num.natAbs),.bool false,.string (dm x.x1),.bool (decide (x.y0.num<0)),.string (bH x.y0.num.natAbs),.bool false,.string (dm x.y0),.bool (decide (x.y1.num<0)),.string (bH x.y1.num.natAbs),.bool false,.string (dm x.y1)]
def aK(x:PU):List Value:=[.bool (decide (x.i.f.p.num<0)),.string (bH x.i.f.p.num.natAbs),.bool false,.string (dm x.i.f.p),.bool (decide (x.i.f.r.num<0)),.string (bH x.i.f.r.num.natAbs),.bool false,.string (dm x.i.f.r),.bool x.i.f.n,.bool (decide (x.i.t.p.num<0)),.string (bH x.i.t.p.num.natAbs),.bool false,.string (dm x.i.t.p),.bool (decide (x.i.t.r.num<0)),.string (bH x.i.t.r.num.natAbs),.bool false,.string (dm x.i.t.r),.bool x.i.t.n,.bool x.i.fo,.bool x.i.tp,.bool (decide (x.f.x0.num<0)),.string (bH x.f.x0.num.natAbs),.bool false,.string (dm x.f.x0),.bool (decide (x.f.x1.num<0)),.string (bH x.f.x1.num.natAbs),.bool false,.string (dm x.f.x1),.bool (decide (x.f.y0.num<0)),.string (bH x.f.y0.num.natAbs),.bool false,.string (dm x.f.y0),.bool (decide (x.f.y1.num<0)),.string (bH x.f.y1.num.natAbs),.bool false,.string (dm x.f.y1)]
def PUV(x:PU):Value:= .agg #[.bool (decide (x.i.f.p.num<0)),.string (bH x.i.f.p.num.natAbs),.bool false,.string (dm x.i.f.p),.bool (decide (x.i.f.r.num<0)),.string (bH x.i.f.r.num.natAbs),.bool false,.string (dm x.i.f.r),.bool x.i.f.n,.bool (decide (x.i.t.p.num<0)),.string (bH x.i.t.p.num.natAbs),.bool false,.string (dm x.i.t.p),.bool (decide (x.i.t.r.num<0)),.string (bH x.i.t.r.num.natAbs),.bool false,.string (dm x.i.t.r),.bool x.i.t.n,.bool x.i.fo,.bool x.i.tp,.bool (decide (x.f.x0.num<0)),.string (bH x.f.x0.num.natAbs),.bool false,.string (dm x.f.x0),.bool (decide (x.f.x1.num<0)),.string (bH x.f.x1.num.natAbs),.bool false,.string (dm x.f.x1),.bool (decide (x.f.y0.num<0)),.string (bH x.f.y0.num.natAbs),.bool false,.string (dm x.f.y0),.bool (decide (x.f.y1.num<0)),.string (bH x.f.y1.num.natAbs),.bool false,.string (dm x.f.y1)]
def bg(x:iT):List Value:=[.bool (decide (x.i.f.p.num<0)),.string (bH x.i.f.p.num.natAbs),.bool false,.string (dm x.i.f.p),.bool (decide (x.i.f.r.num<0)),.string (bH x.i.f.r.num.natAbs),.bool false,.string (dm x.i.f.r),.bool x.i.f.n,.bool (decide (x.i.t.p.num<0)),.string (bH x.i.t.p.num.natAbs),.bool false,.string (dm x.i.t.p),.bool (decide (x.i.t.r.num<0)),.string (bH x.i.t.r.num.natAbs),.bool false,.string (dm x.i.t.r),.bool x.i.t.n,.bool x.i.fo,.bool x.i.tp,.bool (decide (x.a.p.num<0)),.string (bH x.a.p.num.natAbs),.bool false,.string (dm x.a.p),.bool (decide (x.a.r.num<0)),.string (bH x.a.r.num.natAbs),.bool false,.string (dm x.a.r),.bool x.a.n,.bool (decide (x.b.p.num<0)),.string (bH x.b.p.num.natAbs),.bool false,.string (dm x.b.p),.bool (decide (x.b.r.num<0)),.string (bH x.b.r.num.natAbs),.bool false,.string (dm x.b.r),.bool x.b.n]
def Kt(x:iT):Value:= .agg #[.bool (decide (x.i.f.p.num<0)),.string (bH x.i.f.p.num.natAbs),.bool false,.string (dm x.i.f.p),.bool (decide (x.i.f.r.num<0)),.string (bH x.i.f.r.num.natAbs),.bool false,.string (dm x.i.f.r),.bool x.i.f.n,.bool (decide (x.i.t.p.num<0)),.string (bH x.i.t.p.num.natAbs),.bool false,.string (dm x.i.t.p),.bool (decide (x.i.t.r.num<0)),.string (bH x.i.t.r.num.natAbs),.bool false,.string (dm x.i.t.r),.bool x.i.t.n,.bool x.i.fo,.bool x.i.tp,.bool (decide (x.a.p.num<0)),.string (bH x.a.p.num.natAbs),.bool false,.string (dm x.a.p),.bool (decide (x.a.r.num<0)),.string (bH x.a.r.num.natAbs),.bool false,.string (dm x.a.r),.bool x.a.n,.bool (decide (x.b.p.num<0)),.string (bH x.b.p.num.natAbs),.bool false,.string (dm x.b.p),.bool (decide (x.b.r.num<0)),.string (bH x.b.r.num.natAbs),.bool false,.string (dm x.b.r),.bool x.b.n]
def FO(x:Iv×Qd):List Value:=[.bool (decide (x.1.f.p.num<0)),.string (bH x.1.f.p.num.natAbs),.bool false,.string (dm x.1.f.p),.bool (decide (x.1.f.r.num<0)),.string (bH x.1.f.r.num.natAbs),.bool false,.string (dm x.1.f.r),.bool x.1.f.n,.bool (decide (x.1.t.p.num<0)),.string (bH x.1.t.p.num.natAbs),.bool false,.string (dm x.1.t.p),.bool (decide (x.1.t.r.num<0)),.string (bH x.1.t.r.num.natAbs),.bool false,.string (dm x.1.t.r),.bool x.1.t.n,.bool x.1.fo,.bool x.1.tp,.bool (decide (x.2.c0.num<0)),.string (bH x.2.c0.num.natAbs),.bool false,.string (dm x.2.c0),.bool (decide (x.2.c1.num<0)),.string (bH x.2.c1.num.natAbs),.bool false,.string (dm x.2.c1),.bool (decide (x.2.c2.num<0)),.string (bH x.2.c2.num.natAbs),.bool false,.string (dm x.2.c2)]
def PtV(x:Iv×Qd):Value:= .agg #[.bool (decide (x.1.f.p.num<0)),.string (bH x.1.f.p.num.natAbs),.bool false,.string (dm x.1.f.p),.bool (decide (x.1.f.r.num<0)),.string (bH x.1.f.r.num.natAbs),.bool false,.string (dm x.1.f.r),.bool x.1.f.n,.bool (decide (x.1.t.p.num<0)),.string (bH x.1.t.p.num.natAbs),.bool false,.string (dm x.1.t.p),.bool (decide (x.1.t.r.num<0)),.string (bH x.1.t.r.num.natAbs),.bool false,.string (dm x.1.t.r),.bool x.1.t.n,.bool x.1.fo,.bool x.1.tp,.bool (decide (x.2.c0.num<0)),.string (bH x.2.c0.num.natAbs),.bool false,.string (dm x.2.c0),.bool (decide (x.2.c1.num<0)),.string (bH x.2.c1.num.natAbs),.bool false,.string (dm x.2.c1),.bool (decide (x.2.c2.num<0)),.string (bH x.2.c2.num.natAbs),.bool false,.string (dm x.2.c2)]
def ZF(x:B3):List Value:=[.bool (decide (x.i.f.p.num<0)),.string (bH x.i.f.p.num.natAbs),.bool false,.string (dm x.i.f.p),.bool (decide (x.i.f.r.num<0)),.string (bH x.i.f.r.num.natAbs),.bool false,.string (dm x.i.f.r),.bool x.i.f.n,.bool (decide (x.i.t.p.num<0)),.string (bH x.i.t.p.num.natAbs),.bool false,.string (dm x.i.t.p),.bool (decide (x.i.t.r.num<0)),.string (bH x.i.t.r.num.natAbs),.bool false,.string (dm x.i.t.r),.bool x.i.t.n,.bool x.i.fo,.bool x.i.tp,.bool (decide (x.f.x0.num<0)),.string (bH x.f.x0.num.natAbs),.bool false,.string (dm x.f.x0),.bool (decide (x.f.x1.num<0)),.string (bH x.f.x1.num.natAbs),.bool false,.string (dm x.f.x1),.bool (decide (x.f.y0.num<0)),.string (bH x.f.y0.num.natAbs),.bool false,.string (dm x.f.y0),.bool (decide (x.f.y1.num<0)),.string (bH x.f.y1.num.natAbs),.bool false,.string (dm x.f.y1),.bool (decide (x.g.x0.num<0)),.string (bH x.g.x0.num.natAbs),.bool false,.string (dm x.g.x0),.bool (decide (x.g.x1.num<0)),.string (bH x.g.x1.num.natAbs),.bool false,.string (dm x.g.x1),.bool (decide (x.g.y0.num<0)),.string (bH x.g.y0.num.natAbs),.bool false,.string (dm x.g.y0),.bool (decide (x.g.y1.num<0)),.string (bH x.g.y1.num.natAbs),.bool false,.string (dm x.g.y1)]
def B3V(x:B3):Value:= .agg #[.bool (decide (x.i.f.p.num<0)),.string (bH x.i.f.p.num.natAbs),.bool false,.string (dm x.i.f.p),.bool (decide (x.i.f.r.num<0)),.string (bH x.i.f.r.num.natAbs),.bool false,.string (dm x.i.f.r),.bool x.i.f.n,.bool (decide (x.i.t.p.num<0)),.string (bH x.i.t.p.num.natAbs),.bool false,.string (dm x.i.t.p),.bool (decide (x.i.t.r.num<0)),.string (bH x.i.t.r.num.natAbs),.bool false,.string (dm x.i.t.r),.bool x.i.t.n,.bool x.i.fo,.bool x.i.tp,.bool (decide (x.f.x0.num<0)),.string (bH x.f.x0.num.natAbs),.bool false,.string (dm x.f.x0),.bool (decide (x.f.x1.num<0)),.string (bH x.f.x1.num.natAbs),.bool false,.string (dm x.f.x1),.bool (decide (x.f.y0.num<0)),.string (bH x.f.y0.num.natAbs),.bool false,.string (dm x.f.y0),.bool (decide (x.f.y1.num<0)),.string (bH x.f.y1.num.natAbs),.bool false,.string (dm x.f.y1),.bool (decide (x.g.x0.num<0)),.string (bH x.g.x0.num.natAbs),.bool false,.string (dm x.g.x0),.bool (decide (x.g.x1.num<0)),.string (bH x.g.x1.num.natAbs),.bool false,.string (dm x.g.x1),.bool (decide (x.g.y0.num<0)),.string (bH x.g.y0.num.natAbs),.bool false,.string (dm x.g.y0),.bool (decide (x.g.y1.num<0)),.string (bH x.g.y1.num.natAbs),.bool false,.string (dm x.g.y1)]
def Hu(x:Iv×Int):List Value:=[.bool (decide (x.1.f.p.num<0)),.string (bH x.1.f.p.num.natAbs),.bool false,.string (dm x.1.f.p),.bool (decide (x.1.f.r.num<0)),.string (bH x.1.f.r.num.natAbs),.bool false,.string (dm x.1.f.r),.bool x.1.f.n,.bool (decide (x.1.t.p.num<0)),.string (bH x.1.t.p.num.natAbs),.bool false,.string (dm x.1.t.p),.bool (decide (x.1.t.r.num<0)),.string (bH x.1.t.r.num.natAbs),.bool false,.string (dm x.1.t.r),.bool x.1.t.n,.bool x.1.fo,.bool x.1.tp,.int .i64 x.2]
def SgV(x:Iv×Int):Value:= .agg #[.bool (decide (x.1.f.p.num<0)),.string (bH x.1.f.p.num.natAbs),.bool false,.string (dm x.1.f.p),.bool (decide (x.1.f.r.num<0)),.string (bH x.1.f.r.num.natAbs),.bool false,.string (dm x.1.f.r),.bool x.1.f.n,.bool (decide (x.1.t.p.num<0)),.string (bH x.1.t.p.num.natAbs),.bool false,.string (dm x.1.t.p),.bool (decide (x.1.t.r.num<0)),.string (bH x.1.t.r.num.natAbs),.bool false,.string (dm x.1.t.r),.bool x.1.t.n,.bool x.1.fo,.bool x.1.tp,.int .i64 x.2]
def yu(x:Rl×Bool):List Value:=[.bool (decide (x.1.p.num<0)),.string (bH x.1.p.num.natAbs),.bool false,.string (dm x.1.p),.bool (decide (x.1.r.num<0)),.string (bH x.1.r.num.natAbs),.bool false,.string (dm x.1.r),.bool x.1.n,.bool x.2]
def BdV(x:Rl×Bool):Value:= .agg #[.bool (decide (x.1.p.num<0)),.string (bH x.1.p.num.natAbs),.bool false,.string (dm x.1.p),.bool (decide (x.1.r.num<0)),.string (bH x.1.r.num.natAbs),.bool false,.string (dm x.1.r),.bool x.1.n,.bool x.2]
def jR(x:(Rl×Bool)×Int×Int):List Value:=[.bool (decide (x.1.1.p.num<0)),.string (bH x.1.1.p.num.natAbs),.bool false,.string (dm x.1.1.p),.bool (decide (x.1.1.r.num<0)),.string (bH x.1.1.r.num.natAbs),.bool false,.string (dm x.1.1.r),.bool x.1.1.n,.bool x.1.2,.int .i64 x.2.1,.int .i64 x.2.2]
def EvV(x:(Rl×Bool)×Int×Int):Value:= .agg #[.bool (decide (x.1.1.p.num<0)),.string (bH x.1.1.p.num.natAbs),.bool false,.string (dm x.1.1.p),.bool (decide (x.1.1.r.num<0)),.string (bH x.1.1.r.num.natAbs),.bool false,.string (dm x.1.1.r),.bool x.1.1.n,.bool x.1.2,.int .i64 x.2.1,.int .i64 x.2.2]
end Go.Via
namespace Go.Proofs.YtaffcpfhedadhaaGreatDoor
open Go Go.Via
def qvM(d:Nat)(p q:Rat)(w:World):(Op.equalIn (d+4) 36 (Q p) (Q q)).run Tryz.prog w= .ok (decide (p=q)) w:=by
 have h1:=quO p q;rw[<-h1]
 clear h1
 unfold Q
 generalize decide (p.num<0)=a1,bH p.num.natAbs=a3,dm p=a5
 generalize decide (q.num<0)=b1,bH q.num.natAbs=b3,dm q=b5
 exact YB
def Xd(d:Nat)(x y:Rl)(w:World):(Op.equalIn (d+5) 38 (RV x) (RV y)).run Tryz.prog w= .ok (decide (x=y)) w:=by
 have e:decide (x=y)=(decide (x.p=y.p)&&(decide (x.r=y.r)&&((x.n==y.n)&&true))):=by
  rw[Bool.eq_iff_iff];cases x;cases y;simp[Bool.and_assoc]
 rw[e];have hf:∃f0 f1 f2:Field,(Tryz.prog.fieldsOf 38).toList=[f0,f1,f2]∧f0.name≠ "_" ∧f1.name≠ "_" ∧f2.name≠ "_" ∧f0.type=36∧f1.type=36∧f2.type=4∧f0.offset=0∧f1.offset=4∧f2.offset=8:=⟨⟨"P",36,0,false,"","",0⟩,⟨"R",36,4,false,"","",48⟩,⟨"Neg",4,8,false,"","",96⟩,ak,au,au,au,rfl,rfl,rfl,rfl,rfl,rfl⟩;obtain⟨f0,f1,f2,h0,n0,n1,n2,t0,t1,t2,o0,o1,o2⟩:=hf;unfold RV;rw[run_equalIn_struct w (d+4) 38 _ _ ak ak,h0];have ia4:(isAgg 4).run Tryz.prog w= .ok false w:=ak
 have ia36:(isAgg 36).run Tryz.prog w= .ok true w:=ak;have so36:(sizeOf 36).run Tryz.prog w= .ok 4 w:=ak;refine mP (T:=36) n0 (x:=Q x.p) (y:=Q y.p) ?_ ?_ ?_ (mP (T:=36) n1 (x:=Q x.r) (y:=Q y.r) ?_ ?_ ?_ (mP (T:=4) n2 (x:= .bool x.n) (y:= .bool y.n) ?_ ?_ ?_ rfl))
 ·exact Je
 ·exact Je
 ·rw[t0];exact zV
 ·exact Jd
 ·exact Jd
 ·rw[t1];exact zV
 ·rw[t2,o2];simp[part,ia4]
 ·rw[t2,o2];simp[part,ia4]
 ·rw[t2];simp[go_sem]
def qtg(x y:Rl)(w:World):(Op.equalIn 10000 38 (RV x) (RV y)).run Tryz.prog w= .ok (decide (x=y)) w:=Xd 9995 x y w
def qqF(d:Nat)(x y:Iv)(w:World):(Op.equalIn (d+6) 61 (lC x) (lC y)).run Tryz.prog w= .ok (decide (x=y)) w:=by
 have e:decide (x=y)=(decide (x.f=y.f)&&(decide (x.t=y.t)&&((x.fo==y.fo)&&((x.tp==y.tp)&&true)))):=by
  rw[Bool.eq_iff_iff];cases x;cases y;simp[Bool.and_assoc]
 rw[e];have hf:∃f0 f1 f2 f3:Field,(Tryz.prog.fieldsOf 61).toList=[f0,f1,f2,f3]∧f0.name≠ "_" ∧f1.name≠ "_" ∧f2.name≠ "_" ∧f3.name≠ "_" ∧f0.type=38∧f1.type=38∧f2.type=4∧f3.type=4∧f0.offset=0∧f1.offset=9∧f2.offset=18∧f3.offset=19:=⟨⟨"From",38,0,false,"","",0⟩,⟨"To",38,9,false,"","",104⟩,⟨"OpenFrom",4,18,false,"","",208⟩,⟨"OpenTo",4,19,false,"","",209⟩,ak,au,au,au,au,rfl,rfl,rfl,rfl,rfl,rfl,rfl,rfl⟩;obtain⟨f0,f1,f2,f3,h0,n0,n1,n2,n3,t0,t1,t2,t3,o0,o1,o2,o3⟩:=hf;unfold lC;rw[run_equalIn_struct w (d+5) 61 _ _ ak ak,h0];have ia4:(isAgg 4).run Tryz.prog w= .ok false w:=ak
 have ia38:(isAgg 38).run Tryz.prog w= .ok true w:=ak;have so38:(sizeOf 38).run Tryz.prog w= .ok 9 w:=ak;refine mP (T:=38) n0 (x:=RV x.f) (y:=RV y.f) ?_ ?_ ?_ (mP (T:=38) n1 (x:=RV x.t) (y:=RV y.t) ?_ ?_ ?_ (mP (T:=4) n2 (x:= .bool x.fo) (y:= .bool y.fo) ?_ ?_ ?_ (mP (T:=4) n3 (x:= .bool x.tp) (y:= .bool y.tp) ?_ ?_ ?_ rfl)))
 ·rw[t0,o0];exact Ci
 ·rw[t0,o0];exact Ci
 ·rw[t0];exact Xd (d+0) _ _ w
 ·rw[t1,o1];exact Ci
 ·rw[t1,o1];exact Ci
 ·rw[t1];exact Xd (d+0) _ _ w
 ·rw[t2,o2];simp[part,ia4]
 ·rw[t2,o2];simp[part,ia4]
 ·rw[t2];simp[go_sem]
 ·rw[t3,o3];simp[part,ia4]
 ·rw[t3,o3];simp[part,ia4]
 ·rw[t3];simp[go_sem]
def qvN(x y:Iv)(w:World):(Op.equalIn 10000 61 (lC x) (lC y)).run Tryz.prog w= .ok (decide (x=y)) w:=qqF 9994 x y w
def qvO(d:Nat)(x y:Qd)(w:World):(Op.equalIn (d+5) 91 (uf x) (uf y)).run Tryz.prog w= .ok (decide (x=y)) w:=by
 have e:decide (x=y)=(decide (x.c0=y.c0)&&(decide (x.c1=y.c1)&&(decide (x.c2=y.c2)&&true))):=by
  rw[Bool.eq_iff_iff];cases x;cases y;simp[Bool.and_assoc]
 rw[e];have hf:∃f0 f1 f2:Field,(Tryz.prog.fieldsOf 91).toList=[f0,f1,f2]∧f0.name≠ "_" ∧f1.name≠ "_" ∧f2.name≠ "_" ∧f0.type=36∧f1.type=36∧f2.type=36∧f0.offset=0∧f1.offset=4∧f2.offset=8:=⟨⟨"C0",36,0,false,"","",0⟩,⟨"C1",36,4,false,"","",48⟩,⟨"C2",36,8,false,"","",96⟩,ak,au,au,au,rfl,rfl,rfl,rfl,rfl,rfl⟩;obtain⟨f0,f1,f2,h0,n0,n1,n2,t0,t1,t2,o0,o1,o2⟩:=hf;unfold uf;rw[run_equalIn_struct w (d+4) 91 _ _ ak ak,h0];have ia36:(isAgg 36).run Tryz.prog w= .ok true w:=ak
 have so36:(sizeOf 36).run Tryz.prog w= .ok 4 w:=ak;refine mP (T:=36) n0 (x:=Q x.c0) (y:=Q y.c0) ?_ ?_ ?_ (mP (T:=36) n1 (x:=Q x.c1) (y:=Q y.c1) ?_ ?_ ?_ (mP (T:=36) n2 (x:=Q x.c2) (y:=Q y.c2) ?_ ?_ ?_ rfl))
 ·exact Je
 ·exact Je
 ·rw[t0];exact zV
 ·exact Jd
 ·exact Jd
 ·rw[t1];exact zV
 ·rw[t2,o2];exact Cf
 ·rw[t2,o2];exact Cf
 ·rw[t2];exact zV
def qye(x y:Qd)(w:World):(Op.equalIn 10000 91 (uf x) (uf y)).run Tryz.prog w= .ok (decide (x=y)) w:=qvO 9995 x y w
def qvP(d:Nat)(x y:Ln)(w:World):(Op.equalIn (d+5) 98 (AU x) (AU y)).run Tryz.prog w= .ok (decide (x=y)) w:=by
 have e:decide (x=y)=(decide (x.x0=y.x0)&&(decide (x.x1=y.x1)&&(decide (x.y0=y.y0)&&(decide (x.y1=y.y1)&&true)))):=by
  rw[Bool.eq_iff_iff];cases x;cases y;simp[Bool.and_assoc]
 rw[e];have hf:∃f0 f1 f2 f3:Field,(Tryz.prog.fieldsOf 98).toList=[f0,f1,f2,f3]∧f0.name≠ "_" ∧f1.name≠ "_" ∧f2.name≠ "_" ∧f3.name≠ "_" ∧f0.type=36∧f1.type=36∧f2.type=36∧f3.type=36∧f0.offset=0∧f1.offset=4∧f2.offset=8∧f3.offset=12:=⟨⟨"X0",36,0,false,"","",0⟩,⟨"X1",36,4,false,"","",48⟩,⟨"Y0",36,8,false,"","",96⟩,⟨"Y1",36,12,false,"","",144⟩,ak,au,au,au,au,rfl,rfl,rfl,rfl,rfl,rfl,rfl,rfl⟩;obtain⟨f0,f1,f2,f3,h0,n0,n1,n2,n3,t0,t1,t2,t3,o0,o1,o2,o3⟩:=hf;unfold AU;rw[run_equalIn_struct w (d+4) 98 _ _ ak ak,h0];have ia36:(isAgg 36).run Tryz.prog w= .ok true w:=ak
 have so36:(sizeOf 36).run Tryz.prog w= .ok 4 w:=ak;refine mP (T:=36) n0 (x:=Q x.x0) (y:=Q y.x0) ?_ ?_ ?_ (mP (T:=36) n1 (x:=Q x.x1) (y:=Q y.x1) ?_ ?_ ?_ (mP (T:=36) n2 (x:=Q x.y0) (y:=Q y.y0) ?_ ?_ ?_ (mP (T:=36) n3 (x:=Q x.y1) (y:=Q y.y1) ?_ ?_ ?_ rfl)))
 ·exact Je
 ·exact Je
 ·rw[t0];exact zV
 ·exact Jd
 ·exact Jd
 ·rw[t1];exact zV
 ·rw[t2,o2];exact Cf
 ·rw[t2,o2];exact Cf
 ·rw[t2];exact zV
 ·rw[t3,o3];exact Cf
 ·rw[t3,o3];exact Cf
 ·rw[t3];exact zV
def qyf(x y:Ln)(w:World):(Op.equalIn 10000 98 (AU x) (AU y)).run Tryz.prog w= .ok (decide (x=y)) w:=qvP 9995 x y w
def qvQ(d:Nat)(x y:iT)(w:World):(Op.equalIn (d+7) 63 (Kt x) (Kt y)).run Tryz.prog w= .ok (decide (x=y)) w:=by
 have e:decide (x=y)=(decide (x.i=y.i)&&(decide (x.a=y.a)&&(decide (x.b=y.b)&&true))):=by
  rw[Bool.eq_iff_iff];cases x;cases y;simp[Bool.and_assoc]
 rw[e];have hf:∃f0 f1 f2:Field,(Tryz.prog.fieldsOf 63).toList=[f0,f1,f2]∧f0.name≠ "_" ∧f1.name≠ "_" ∧f2.name≠ "_" ∧f0.type=61∧f1.type=38∧f2.type=38∧f0.offset=0∧f1.offset=20∧f2.offset=29:=⟨⟨"In",61,0,false,"","",0⟩,⟨"From",38,20,false,"","",216⟩,⟨"To",38,29,false,"","",320⟩,ak,au,au,au,rfl,rfl,rfl,rfl,rfl,rfl⟩;obtain⟨f0,f1,f2,h0,n0,n1,n2,t0,t1,t2,o0,o1,o2⟩:=hf;unfold Kt;rw[run_equalIn_struct w (d+6) 63 _ _ ak ak,h0];have ia38:(isAgg 38).run Tryz.prog w= .ok true w:=ak
 have so38:(sizeOf 38).run Tryz.prog w= .ok 9 w:=ak;have ia61:(isAgg 61).run Tryz.prog w= .ok true w:=ak;have so61:(sizeOf 61).run Tryz.prog w= .ok 20 w:=ak;refine mP (T:=61) n0 (x:=lC x.i) (y:=lC y.i) ?_ ?_ ?_ (mP (T:=38) n1 (x:=RV x.a) (y:=RV y.a) ?_ ?_ ?_ (mP (T:=38) n2 (x:=RV x.b) (y:=RV y.b) ?_ ?_ ?_ rfl))
 ·rw[t0,o0];simp[part,ia61,so61];rfl
 ·rw[t0,o0];simp[part,ia61,so61];rfl
 ·rw[t0];exact qqF (d+0) _ _ w
 ·rw[t1,o1];exact Ci
 ·rw[t1,o1];exact Ci
 ·rw[t1];exact Xd (d+1) _ _ w
 ·rw[t2,o2];exact Ci
 ·rw[t2,o2];exact Ci
 ·rw[t2];exact Xd (d+1) _ _ w
def qvR(x y:iT)(w:World):(Op.equalIn 10000 63 (Kt x) (Kt y)).run Tryz.prog w= .ok (decide (x=y)) w:=qvQ 9993 x y w
end Go.Proofs.YtaffcpfhedadhaaGreatDoor
namespace Go.Via
open Go
def memP(ρ:Rl->Int)(l:List (oZ×oZ))(k:Int):Bool:=l.any fun p=>decide (aI ρ p.1<=k)&&decide (k<aI ρ p.2)
def Xe{ρ:Rl->Int}{G:Int->Bool}{B:List oZ}(HG:∀k1 k2,k1<=k2->(∀b∈B,¬(k1<aI ρ b∧aI ρ b<=k2))->G k1=G k2)(H1:∀k,(∀b∈B,aI ρ b<=k)->G k=false):
 ∀{C:List oZ} {lo:Int} {st:Option oZ},C.Pairwise (fun a b=>aI ρ a<aI ρ b)->(∀c∈C,lo<aI ρ c)->(∀b∈B,aI ρ b<=lo∨b∈C)->G lo=st.isSome->(∀f,st=some f->aI ρ f<=lo)->
 ∀k,memP ρ (gm (fun c=>G (aI ρ c)) st C) k=if lo<=k then G k else(match st with|none=>false|some f=>decide (aI ρ f<=k))
 |[],lo,st,_,_,hB,hG,hf,k=>by
  have hz:∀k,lo<=k->G k=false:=fun k hk=>H1 k fun b hb=>by
   rcases hB b hb with h|h
   ·omega
   ·simp at h
  cases st with
  |some f=>rw[hz lo (Int.le_refl _)] at hG;cases hG
  |none=>
   show false=_
   split
   ·rename_i h;rw[hz k h]
   ·rfl
 |c::cs,lo,st,hs,hlo,hB,hG,hf,k=>by
  obtain⟨s1,s2⟩:=List.pairwise_cons.1 hs;have hc:=hlo c (List.mem_cons_self ..);have hB':∀b∈B,aI ρ b<=aI ρ c∨b∈cs:=fun b hb=>by
   rcases hB b hb with h|h
   ·exact .inl ae
   ·rcases List.mem_cons.1 h with h|h
    ·rw[h];exact .inl (Int.le_refl _)
    ·exact .inr h
  have hmid:∀k,lo<=k->k<aI ρ c->G k=st.isSome:=fun k h1 h2=>by
   rw[<-hG];refine(HG lo k h1 fun b hb hk=>?_).symm;rcases hB b hb with h|h
   ·omega
   ·rcases List.mem_cons.1 h with h|h
    ·rw[h] at hk;omega
    ·have:=s1 b h;omega
  have ih:=fun st h1 h2=>Xe HG H1 (C:=cs) (lo:=aI ρ c) (st:=st) s2 s1 hB' h1 h2 k
  cases st with
  |none=>
   unfold gm;cases hg:G (aI ρ c)
   ·rw[if_neg au,ih none hg fun f e=>by cases e]
    by_cases h1:aI ρ c<=k
    ·rw[if_pos h1,if_pos ae]
    ·rw[if_neg h1]
     by_cases h2:lo<=k
     ·rw[if_pos h2,hmid k h2 ae];rfl
     ·rw[if_neg h2]
   ·rw[if_pos rfl,ih (some c) hg fun f e=>by injection e with e;rw[<-e];exact Int.le_refl _]
    by_cases h1:aI ρ c<=k
    ·rw[if_pos h1,if_pos ae]
    ·rw[if_neg h1];dsimp only;rw[decide_eq_false h1]
     by_cases h2:lo<=k
     ·rw[if_pos h2,hmid k h2 ae];rfl
     ·rw[if_neg h2]
  |some f=>
   have hf':=hf f rfl;unfold gm;cases hg:G (aI ρ c)
   ·rw[if_neg au];have e:memP ρ ((f,c)::gm (fun c=>G (aI ρ c)) none cs) k=((decide (aI ρ f<=k)&&decide (k<aI ρ c))||memP ρ (gm (fun c=>G (aI ρ c)) none cs) k):=rfl;rw[e,ih none hg fun f e=>by cases e]
    dsimp only
    by_cases h1:aI ρ c<=k
    ·rw[if_pos h1,if_pos (show lo<=k by omega),decide_eq_false (show¬k<aI ρ c by omega),Bool.and_false,Bool.false_or]
    ·rw[if_neg h1,decide_eq_true (show k<aI ρ c by omega),Bool.and_true,Bool.or_false]
     by_cases h2:lo<=k
     ·rw[if_pos h2,hmid k h2 ae,decide_eq_true ae];rfl
     ·rw[if_neg h2]
   ·rw[if_pos rfl,ih (some f) hg fun g e=>by injection e with e;rw[<-e];omega]
    dsimp only
    by_cases h1:aI ρ c<=k
    ·rw[if_pos h1,if_pos (show lo<=k by omega)]
    ·rw[if_neg h1]
     by_cases h2:lo<=k
     ·rw[if_pos h2,hmid k h2 ae,decide_eq_true ae];rfl
     ·rw[if_neg h2]
theorem qip{ρ:Rl->Int}{l:List (oZ×oZ)}{k:Int}:memB ρ (l.map fun p=>PW p.1 p.2) k=memP ρ l k:=by
 unfold memB memP;rw[List.any_map]
 congr 1
 funext p
 have e1:(PW p.1 p.2).b=p.1:=rfl;have e2:(PW p.1 p.2).e=p.2:=(by unfold PW Iv.e;simp);simp only[Function.comp,e1,e2]
def qth{ρ:Rl->Int}(C:List oZ):∃lo:Int,∀c∈C,lo<aI ρ c:=by
 induction C with
 |nil=>exact⟨0,fun c hc=>absurd hc bz⟩
 |cons c C ih=>
  obtain⟨lo,h⟩:=ih;refine⟨min lo (aI ρ c-1),fun x hx=>?_⟩
  rcases List.mem_cons.1 hx with e|e
  ·subst e;omega
  ·have:=h x e;omega
theorem RF{S:Rl->Prop}{ρ:Rl->Int}(T:dM S ρ){op:Bool->Bool->Bool}(h0:op false false=false){a b:List Iv}(ha:fU S a)(hb:fU S b)(k:Int):memB ρ (dI op a b) k=op (memB ρ a k) (memB ρ b k):=by
 obtain⟨s1,_⟩:=nz T (lH (iF ha hb));have hin:=zW T ha hb;rw[rJ T h0 ha hb,qip];obtain⟨lo',hlo⟩:=qth (ρ:=ρ) (mW (dX (bV (a++b))))
 let lo:=min lo' (k-1)
 have hlo2:∀c∈mW (dX (bV (a++b))),lo<aI ρ c:=fun c hc=>by have:=hlo c hc;show min lo' (k-1)<_;omega
 have hG0:op (memB ρ a lo) (memB ρ b lo)=false:=by
  rw[yY fun c hc=>hlo2 c (hin c (List.mem_append_left _ hc)),yY (l:=b) fun c hc=>hlo2 c (hin c (List.mem_append_right _ hc)),h0]
 have:=Xe (ρ:=ρ) (G:=fun k=>op (memB ρ a k) (memB ρ b k)) (B:=bM a++bM b) (fun k1 k2 hk hn=>by
 show op (memB ρ a k1) (memB ρ b k1)=op (memB ρ a k2) (memB ρ b k2);rw[pI hk fun c hc=>hn c (List.mem_append_left _ hc),pI (l:=b) hk fun c hc=>hn c (List.mem_append_right _ hc)]) (fun k hk=>by
 show op (memB ρ a k) (memB ρ b k)=false;rw[DZ fun c hc=>hk c (List.mem_append_left _ hc),DZ (l:=b) fun c hc=>hk c (List.mem_append_right _ hc),h0]) (lo:=lo) (st:=none) (nY s1) hlo2 (fun c hc=> .inr (hin c hc)) hG0 (fun f e=>by cases e) k
 rw[this,if_pos (show min lo' (k-1)<=k by omega)]
def Hw{g:oZ->Bool}:∀{C:List oZ} {st:Option oZ} {p:oZ×oZ},p∈gm g st C->(p.1∈C∨st=some p.1)∧p.2∈C
 |[],none,p,h=>by simp[gm] at h
 |[],some _,p,h=>by simp[gm] at h
 |c::cs,none,p,h=>by
  unfold gm at h
  split at h
  ·obtain⟨h1,h2⟩:=Hw h;refine⟨.inl ?_,List.mem_cons_of_mem _ h2⟩;rcases h1 with h1|h1
   ·exact List.mem_cons_of_mem _ h1
   ·injection h1 with h1;rw[<-h1];exact List.mem_cons_self ..
  ·obtain⟨h1,h2⟩:=Hw h;refine⟨.inl ?_,List.mem_cons_of_mem _ h2⟩;rcases h1 with h1|h1
   ·exact List.mem_cons_of_mem _ h1
   ·cases h1
 |c::cs,some f,p,h=>by
  unfold gm at h
  split at h
  ·obtain⟨h1,h2⟩:=Hw h;refine⟨?_,List.mem_cons_of_mem _ h2⟩;rcases h1 with h1|h1
   ·exact .inl (List.mem_cons_of_mem _ h1)
   ·exact .inr h1
  ·rcases List.mem_cons.1 h with h|h
   ·subst h;exact⟨.inr rfl,List.mem_cons_self ..⟩
   ·obtain⟨h1,h2⟩:=Hw h;refine⟨.inl ?_,List.mem_cons_of_mem _ h2⟩;rcases h1 with h1|h1
    ·exact List.mem_cons_of_mem _ h1
    ·cases h1
def Ul{S:Rl->Prop}{ρ:Rl->Int}(T:dM S ρ){op:Bool->Bool->Bool}(h0:op false false=false){a b:List Iv}(ha:fU S a)(hb:fU S b):fU S (dI op a b):=fun i hi=>by
 obtain⟨_,s2⟩:=nz T (lH (iF ha hb));rw[rJ T h0 ha hb] at hi;obtain⟨p,hp,rfl⟩:=List.mem_map.1 hi;obtain⟨h1,h2⟩:=Hw hp;have fin:∀c∈mW (dX (bV (a++b))),S c.1:=fun c hc=>lH (iF ha hb) _ ((s2 _).1 (pJ.1 hc))
 refine⟨?_,fin _ h2⟩;rcases h1 with h1|h1
 ·exact fin _ h1
 ·cases h1
end Go.Via
namespace Go.Via
open Go
def fO(x:Rl):Prop:=∃z:Int,x=rl (z:Rat)
def gU(x:Rl):Int:=x.p.num
theorem xQ(z:Int):gU (rl (z:Rat))=z:=by unfold gU rl;exact Rat.num_intCast z
theorem jM:dM fO gU:=by
 constructor
 ·rintro x y ⟨a,rfl⟩ ⟨b,rfl⟩;exact qik
 ·rintro x y ⟨a,rfl⟩ ⟨b,rfl⟩;exact qik
 ·rintro x y ⟨a,rfl⟩ ⟨b,rfl⟩ h;rw[xQ,xQ] at h;rw[h]
structure AV where
 t:Int
 x:Int
 y:Int
structure ug where
 time:Nat
 x:Nat
 y:Nat
 kind:Nat
def qoK(a b:AV):Ln:=
 let sx:Rat:=((b.x:Rat)-(a.x:Rat))/((b.t:Rat)-(a.t:Rat))
 let sy:Rat:=((b.y:Rat)-(a.y:Rat))/((b.t:Rat)-(a.t:Rat))
 ⟨(a.x:Rat)-sx*(a.t:Rat),sx,(a.y:Rat)-sy*(a.t:Rat),sy⟩
def iG:List ug->AV->Bool->List PU->List PU
 |[],last,alone,out=>if alone=true then out++[⟨⟨rl (last.t:Rat),rl (last.t:Rat),false,false⟩,⟨(last.x:Rat),0,(last.y:Rat),0⟩⟩] else out
 |s::l,last,alone,out=>
  let next:AV:=⟨last.t+1+(s.time%8:Nat),(s.x%64:Nat),(s.y%64:Nat)⟩
  let frm:AV:=if s.kind%8=1 then⟨last.t,(s.y%64:Nat),(s.x%64:Nat)⟩ else last
  iG l next (decide (s.kind%8=0)) (if s.kind%8=0 then out else out++[⟨⟨rl (frm.t:Rat),rl (next.t:Rat),!out.isEmpty&& !alone,false⟩,qoK frm next⟩])
def D7:∀{l:List ug} {last:AV} {alone:Bool} {out:List PU},nR gU out->Ends fO out->(∀u∈out,aI gU u.i.e<=2*last.t+(if alone=true then 0 else 1))->
 nR gU (iG l last alone out)∧Ends fO (iG l last alone out)
 |[],last,alone,out,h1,h2,h3=>by
  unfold iG
  split
  ·rename_i ha
   rw[if_pos ha] at h3;have e1:aI gU (Iv.b ⟨rl (last.t:Rat),rl (last.t:Rat),false,false⟩)=2*last.t:=by unfold aI Iv.b;rw[xQ];simp
   have e2:aI gU (Iv.e ⟨rl (last.t:Rat),rl (last.t:Rat),false,false⟩)=2*last.t+1:=(by unfold aI Iv.e;rw[xQ];simp);exact⟨Cm h1 (by dsimp only;omega) fun x hx=>by have:=h3 x hx;dsimp only;omega,yZ h2 ⟨⟨_,rfl⟩,⟨_,rfl⟩⟩⟩
  ·exact⟨h1,h2⟩
 |s::l,last,alone,out,h1,h2,h3=>by
  unfold iG;dsimp only;have hft:(if s.kind%8=1 then(⟨last.t,(s.y%64:Nat),(s.x%64:Nat)⟩:AV) else last).t=last.t:=by split<;>rfl
  rw[hft]
  generalize hn:last.t+1+((s.time%8:Nat):Int)=nt
  have hlt:last.t<nt:=ae
  by_cases hk:s.kind%8=0
  ·rw[if_pos hk];refine D7 h1 h2 fun u hu=>?_
   have:=h3 u hu;dsimp only
   split at this<;>split<;>omega
  ·rw[if_neg hk]
   generalize hb:(!out.isEmpty&& !alone)=fo
   have e1:aI gU (Iv.b ⟨rl (last.t:Rat),rl (nt:Rat),fo,false⟩)=2*last.t+(if fo=true then 1 else 0):=(by unfold aI Iv.b;rw[xQ]);have e2:aI gU (Iv.e ⟨rl (last.t:Rat),rl (nt:Rat),fo,false⟩)=2*nt+1:=(by unfold aI Iv.e;rw[xQ];simp);refine D7 (Cm h1 ?_ fun u hu=>?_) (yZ h2 ⟨⟨_,rfl⟩,⟨_,rfl⟩⟩) fun u hu=>?_
   ·dsimp only;rw[e1,e2];split<;>omega
   ·dsimp only;rw[e1];have h:=h3 u hu;have hne:out.isEmpty=false:=by cases out;simp at hu;rfl
    rw[hne] at hb;cases alone<;>simp at hb h ⊢ <;>subst hb<;>simp<;>omega
   ·dsimp only;rw[decide_eq_false hk];simp only[Bool.false_eq_true,if_false];rcases List.mem_append.1 hu with e|e
    ·have:=h3 u e;split at this<;>omega
    ·rw[List.mem_singleton] at e;rw[e];dsimp only;rw[e2];omega
def jF(t x y:Nat)(l:List ug):List PU:=qY (iG (l.take 6) ⟨(t%16:Nat),(x%64:Nat),(y%64:Nat)⟩ true [])
def Hy(t x y:Nat)(l:List ug):nR gU (jF t x y l)∧Ends fO (jF t x y l):=by
 obtain⟨h1,h2⟩:=D7 (l:=l.take 6) (last:=⟨(t%16:Nat),(x%64:Nat),(y%64:Nat)⟩) (alone:=true) (out:=[]) ⟨List.Pairwise.nil,bz⟩ (by simp[Ends]) bz;exact Ry jM h1 h2
end Go.Via
