/-
  Part 21 (chapter 32): lemmas, walks. Each theorem states its own conditions.
-/
import GoSem.Core.World
import Derived.MapKept
import Derived.WalkKit
import Derived.WalkSpells
import Derived.WalkLawsBesides
import Derived.Deep.LoopGhost
import Derived.Deep.AppendSrc
import Derived.Laws.BytesArg
import Derived.Laws.CopyRow
import Derived.Laws.AppendOwn
import Derived.Deep.Upon
import Derived.Test.YtaffcpfhedadhaaGreatDoorProg
import Derived.Shelf.Strings.Builder1
import Derived.Shelf.Strings.Builder2
import Derived.Shelf.Small.Utf8
import Derived.Shelf.Small.Bits
import Derived.Shelf.Small.Strs
import Derived.Shelf.Small.Wraps
import Derived.Shelf.Strings.BuilderF
import Derived.Shelf.Strconv.Itoa0
import Derived.Shelf.Strings.Search1
import Derived.Shelf.Strings.Prefix
import Derived.Shelf.Strings.Runes
import Derived.Shelf.Strings.AsciiSet
import Derived.Shelf.Bits.Mul64
import Derived.Shelf.Strings.Repeat
import Derived.Shelf.Unicode.DecodeSlow
import Derived.Laws.Externs
import Derived.Lib.ItoaNum
import Derived.Test.YtaffcpfhedadhaaGreatDoorA20
set_option linter.all false
set_option maxRecDepth 20000
set_option maxHeartbeats 20000000
section
variable{P Q:Prop}{T:Type}{R:T->Prop}
def qkN(h:P:=by dsimp only;rw[O9 T ha ht,O9 T hb ht]):=h
end
namespace Go.Via
open Go
def inR(i:Iv)(t:Rl):Bool:=(decide (bQ i.f t<0)||decide (bQ i.f t=0)&& !i.fo)&&(decide (bQ t i.t<0)||decide (bQ t i.t=0)&& !i.tp)
def nZ(l:List Iv)(t:Rl):Bool:=l.any fun i=>inR i t
def oh(l:List Iv)(a b:Rl):Bool:=l.any fun i=>decide (bQ i.f a<=0)&&decide (bQ b i.t<=0)
def dQ(l:List Iv):List qB:=l.flatMap fun i=>[i.b,i.e]
def bW(l:List Iv):List Rl:=l.flatMap fun i=>[i.f,i.t]
def jZ(S:Rl->Prop)(l:List Iv):Prop:=∀i∈l,S i.f∧S i.t
theorem fG{l:List Iv}{b:qB}:b∈dQ l↔∃i∈l,b=i.b∨b=i.e:=by
 unfold dQ;rw[List.mem_flatMap];simp
theorem ng{l:List Iv}{x:Rl}:x∈bW l↔∃i∈l,x=i.f∨x=i.t:=by
 unfold bW;rw[List.mem_flatMap];simp
def fF.zero{S:Rl->Prop}{ρ:Rl->Int}(T:fF S ρ){x y:Rl}(hx:S x)(hy:S y):bQ x y=0↔ρ x=ρ y:=by
 have h1:=T.lt hx hy;have h2:=T.gt hx hy;rcases uH x y with h|h|h<;>rw[h] at h1 h2 ⊢ <;>simp at h1 h2 ⊢ <;>omega
theorem qjb{S:Rl->Prop}{ρ:Rl->Int}(T:fF S ρ){i:Iv}{t:Rl}(hf:S i.f)(ht:S i.t)(h:S t):inR i t=(decide (aW ρ i.b<=aW ρ (t,false))&&decide (aW ρ (t,false)<aW ρ i.e)):=by
 have h1:=T.lt hf h;have h2:=T.lt h ht;have h3:=T.zero hf h;have h4:=T.zero h ht;unfold inR aW Iv.b Iv.e;rw[Bool.eq_iff_iff];simp only[Bool.and_eq_true,Bool.or_eq_true,decide_eq_true_eq,h1,h2,h3,h4];cases i.fo<;>cases i.tp<;>simp<;>omega
theorem O9{S:Rl->Prop}{ρ:Rl->Int}(T:fF S ρ){l:List Iv}{t:Rl}(hl:jZ S l)(h:S t):nZ l t=memB ρ l (aW ρ (t,false)):=by
 unfold nZ memB
 induction l with
 |nil=>rfl
 |cons i l ih=>
  rw[List.any_cons,List.any_cons,ih (fun x hx=>hl x (List.mem_cons_of_mem _ hx)),qjb T (hl i (List.mem_cons_self ..)).1 (hl i (List.mem_cons_self ..)).2 h]
theorem Pe{S:Rl->Prop}{ρ:Rl->Int}(T:fF S ρ){l:List Iv}{t u:Rl}(hl:jZ S l)(h:S t)(hu:S u)(htu:ρ t<ρ u)(hn:∀x∈bW l,ρ x<=ρ t∨ρ u<=ρ x):oh l t u=memB ρ l (aW ρ (t,true)):=by
 unfold oh memB
 induction l with
 |nil=>rfl
 |cons i l ih=>
  have hi:=hl i (List.mem_cons_self ..);have n1:=hn i.t (ng.2 ⟨i,List.mem_cons_self ..,.inr rfl⟩);rw[List.any_cons,List.any_cons,ih (fun x hx=>hl x (List.mem_cons_of_mem _ hx)) (fun x hx=>by
 obtain⟨j,hj,e⟩:=ng.1 hx;exact hn x (ng.2 ⟨j,List.mem_cons_of_mem _ hj,e⟩))]
  congr 1
  have h1:=T.gt hi.1 h;have h2:=T.gt hu hi.2;unfold aW Iv.b Iv.e;rw[Bool.eq_iff_iff];simp only[Bool.and_eq_true,decide_eq_true_eq];have e1:bQ i.f t<=0↔ρ i.f<=ρ t:=ae;have e2:bQ u i.t<=0↔ρ u<=ρ i.t:=ae;rw[e1,e2];cases i.fo<;>cases i.tp<;>simp<;>omega
theorem Ce{ρ:Rl->Int}{l:List Iv}{k1 k2:Int}(h:k1<=k2)(hn:∀b∈dQ l,¬(k1<aW ρ b∧aW ρ b<=k2)):memB ρ l k1=memB ρ l k2:=by
 unfold memB
 induction l with
 |nil=>rfl
 |cons i l ih=>
  have n1:=hn i.b (fG.2 ⟨i,List.mem_cons_self ..,.inl rfl⟩);have n2:=hn i.e (fG.2 ⟨i,List.mem_cons_self ..,.inr rfl⟩);rw[List.any_cons,List.any_cons,ih fun b hb=>by
 obtain⟨j,hj,e⟩:=fG.1 hb;exact hn b (fG.2 ⟨j,List.mem_cons_of_mem _ hj,e⟩)]
  congr 1
  rw[Bool.eq_iff_iff];simp only[Bool.and_eq_true,decide_eq_true_eq];omega
theorem FI{ρ:Rl->Int}{l:List Iv}{k:Int}(hn:∀b∈dQ l,k<aW ρ b):memB ρ l k=false:=by
 unfold memB;rw[List.any_eq_false];intro i hi;have:=hn i.b (fG.2 ⟨i,hi,.inl rfl⟩);simp only[Bool.and_eq_true,decide_eq_true_eq];omega
theorem Cf{ρ:Rl->Int}{l:List Iv}{k:Int}(hn:∀b∈dQ l,aW ρ b<=k):memB ρ l k=false:=by
 unfold memB;rw[List.any_eq_false];intro i hi;have:=hn i.e (fG.2 ⟨i,hi,.inr rfl⟩);simp only[Bool.and_eq_true,decide_eq_true_eq];omega
def WW{ρ:Rl->Int}{G:Int->Bool}{p:qB->Bool}{B:List qB}(hp:∀b,p b=true↔b∈B)(HG:∀k1 k2,k1<=k2->(∀b∈B,¬(k1<aW ρ b∧aW ρ b<=k2))->G k1=G k2):
 ∀{C:List qB} {lo:Int},C.Pairwise (fun a b=>aW ρ a<aW ρ b)->(∀c∈C,lo<aW ρ c)->(∀b∈B,aW ρ b<=lo∨b∈C)->Chk (fun c=>G (aW ρ c)) p (G lo) C
 |[],_,_,_,_=>trivial
 |c::cs,lo,hs,hlo,hB=>by
  obtain⟨s1,s2⟩:=List.pairwise_cons.1 hs;have hc:=hlo c (List.mem_cons_self ..);refine⟨?_,WW hp HG s2 (fun x hx=>s1 x hx) fun b hb=>?_⟩
  ·by_cases hpc:p c=true
   ·exact .inl hpc
   ·refine .inr (HG lo (aW ρ c) ae fun b hb hk=>?_).symm
    rcases hB b hb with h|h
    ·omega
    ·rcases List.mem_cons.1 h with h|h
     ·subst h;exact hpc ((hp b).2 hb)
     ·have:=s1 b h;omega
  ·rcases hB b hb with h|h
   ·exact .inl ae
   ·rcases List.mem_cons.1 h with h|h
    ·subst h;exact .inl (Int.le_refl _)
    ·exact .inr h
theorem qO:∀{ts:List Rl} {b:qB},b∈nY ts↔b.1∈ts
 |[],b=>by simp[nY]
 |t::ts,(x,c)=>by
  unfold nY;rw[List.mem_cons,List.mem_cons,qO (ts:=ts),List.mem_cons];dsimp only
  constructor
  ·rintro(h|h|h)
   ·cases h;exact .inl rfl
   ·cases h;exact .inl rfl
   ·exact .inr h
  ·rintro(h|h)
   ·subst h;cases c;exact .inl rfl;exact .inr (.inl rfl)
   ·exact .inr (.inr h)
theorem uf{ρ:Rl->Int}:∀{ts:List Rl},ts.Pairwise (fun a b=>ρ a<ρ b)->(nY ts).Pairwise (fun a b=>aW ρ a<aW ρ b)
 |[],_=>List.Pairwise.nil
 |t::ts,h=>by
  obtain⟨h1,h2⟩:=List.pairwise_cons.1 h;unfold nY;refine List.pairwise_cons.2 ⟨fun b hb=>?_,List.pairwise_cons.2 ⟨fun b hb=>?_,uf h2⟩⟩
  ·rcases List.mem_cons.1 hb with e|e
   ·subst e;unfold aW;simp;omega
   ·have:=h1 b.1 (qO.1 e);unfold aW;simp;split<;>omega
  ·have:=h1 b.1 (qO.1 hb);unfold aW;simp;split<;>omega
theorem QT{S:Rl->Prop}{ρ:Rl->Int}(T:fF S ρ){op:Bool->Bool->Bool}(h0:op false false=false){a b:List Iv}(ha:jZ S a)(hb:jZ S b):
 ∀{ts pre:List Rl},(∀t∈ts,S t)->ts.Pairwise (fun x y=>ρ x<ρ y)->(∀x∈bW a++bW b,x∈ts∨∀t∈ts,ρ x<ρ t)->(∀i∈a++b,S i.f)->
 qm2 (fun t=>op (nZ a t) (nZ b t)) (fun t u=>op (oh a t u) (oh b t u)) (fun c=>op (memB ρ a (aW ρ c)) (memB ρ b (aW ρ c))) ts
 |[],_,_,_,_,_=>trivial
 |[t],_,hS,hs,he,hf=>by
  have ht:=hS t (List.mem_cons_self ..);refine⟨qkN,?_⟩;have hi:∀l:List Iv,(∀x∈bW l,x∈[t]∨∀u∈[t],ρ x<ρ u)->∀c∈dQ l,aW ρ c<=aW ρ (t,true):=fun l hl c hc=>by
   obtain⟨i,hi,e⟩:=fG.1 hc;have hx:c.1∈bW l:=ng.2 ⟨i,hi,by rcases e with e|e<;>subst e;exact .inl rfl;exact .inr rfl⟩
   have:ρ c.1<=ρ t:=by
    rcases hl c.1 hx with h|h
    ·rw[List.mem_singleton] at h;rw[h];exact Int.le_refl _
    ·have:=h t (List.mem_cons_self ..);omega
   unfold aW;simp;split<;>omega
  dsimp only;rw[Cf (hi a fun x hx=>he x (List.mem_append_left _ hx)),Cf (hi b fun x hx=>he x (List.mem_append_right _ hx)),h0]
 |t::u::ts,pre,hS,hs,he,hf=>by
  obtain⟨s1,s2⟩:=List.pairwise_cons.1 hs;have ht:=hS t (List.mem_cons_self ..);have hu:=hS u (List.mem_cons_of_mem _ (List.mem_cons_self ..));have htu:=s1 u (List.mem_cons_self ..);have hn:∀x∈bW a++bW b,ρ x<=ρ t∨ρ u<=ρ x:=fun x hx=>by
   rcases he x hx with h|h
   ·rcases List.mem_cons.1 h with h|h
    ·rw[h];exact .inl (Int.le_refl _)
    ·rcases List.mem_cons.1 h with h|h
     ·rw[h];exact .inr (Int.le_refl _)
     ·have:=(List.pairwise_cons.1 s2).1 x h;exact .inr ae
   ·have:=h t (List.mem_cons_self ..);exact .inl ae
  refine⟨qkN,?_,QT T h0 ha hb (pre:=pre) (fun x hx=>hS x (List.mem_cons_of_mem _ hx)) s2 (fun x hx=>?_) hf⟩
  ·dsimp only;rw[Pe T ha ht hu htu fun x hx=>hn x (List.mem_append_left _ hx),Pe T hb ht hu htu fun x hx=>hn x (List.mem_append_right _ hx)]
  ·rcases he x hx with h|h
   ·rcases List.mem_cons.1 h with h|h
    ·right;intro y hy;rw[h];exact s1 y hy
    ·exact .inl h
   ·exact .inr fun y hy=>h y (List.mem_cons_of_mem _ hy)
theorem WX{S:Rl->Prop}{ρ:Rl->Int}(T:fF S ρ){op:Bool->Bool->Bool}(h0:op false false=false){a b:List Iv}(ha:jZ S a)(hb:jZ S b)(oa:G7 ρ a)(ob:G7 ρ b)
 {ends:List Rl}(hs:ends.Pairwise (fun x y=>ρ x<ρ y))(he:∀x,x∈ends↔x∈bW a++bW b)
 {l:List (qB×Int×Int)}(hp:l.Perm (Dh a++IZ b))(hl:l.Pairwise (fun x y=>aW ρ x.1<=aW ρ y.1)):
 NI (aW ρ) op l 0 0 none=O7 (fun t=>op (nZ a t) (nZ b t)) (fun t u=>op (oh a t u) (oh b t u)) none ends:=by
 have hES:∀x∈bW a++bW b,S x:=fun x hx=>by
  rcases List.mem_append.1 hx with h|h
  ·obtain⟨i,hi,e⟩:=ng.1 h;rcases e with e|e<;>subst e;exact(ha i hi).1;exact(ha i hi).2
  ·obtain⟨i,hi,e⟩:=ng.1 h;rcases e with e|e<;>subst e;exact(hb i hi).1;exact(hb i hi).2
 have hS:∀t∈ends,S t:=fun t ht=>hES t ((he t).1 ht)
 rw[qiY oa ob hp hl,FC (QT T h0 ha hb (pre:=[]) hS hs (fun x hx=> .inl ((he x).2 hx)) (fun i hi=>by
 rcases List.mem_append.1 hi with h|h;exact(ha i h).1;exact(hb i h).1))]
 have hsc:=uf (ρ:=ρ) hs;have hmB:∀b':qB,b'∈dQ a++dQ b->b'∈nY ends:=fun b' h=>by
  refine qO.2 ((he _).2 ?_);rcases List.mem_append.1 h with h|h
  ·obtain⟨i,hi,e⟩:=fG.1 h;refine List.mem_append_left _ (ng.2 ⟨i,hi,?_⟩);rcases e with e|e<;>subst e;exact .inl rfl;exact .inr rfl
  ·obtain⟨i,hi,e⟩:=fG.1 h;refine List.mem_append_right _ (ng.2 ⟨i,hi,?_⟩);rcases e with e|e<;>subst e;exact .inl rfl;exact .inr rfl
 obtain⟨lo,hlo⟩:∃lo:Int,∀c∈nY ends,lo<aW ρ c:=by
  generalize nY ends=C
  clear hmB hsc
  induction C with
  |nil=>exact⟨0,fun c hc=>absurd hc bI⟩
  |cons c C ih=>
   obtain⟨lo,h⟩:=ih;refine⟨min lo (aW ρ c-1),fun x hx=>?_⟩
   rcases List.mem_cons.1 hx with e|e
   ·subst e;omega
   ·have:=h x e;omega
 have hG0:op (memB ρ a lo) (memB ρ b lo)=false:=by
  rw[FI fun c hc=>hlo c (hmB c (List.mem_append_left _ hc)),FI fun c hc=>hlo c (hmB c (List.mem_append_right _ hc)),h0]
 have hchk:=WW (ρ:=ρ) (G:=fun k=>op (memB ρ a k) (memB ρ b k)) (p:=fun c=>decide (c∈dQ a++dQ b)) (B:=dQ a++dQ b) (fun c=>by rw[decide_eq_true_eq]) (fun k1 k2 hk hn=>by
 rw[Ce hk fun c hc=>hn c (List.mem_append_left _ hc),Ce (l:=b) hk fun c hc=>hn c (List.mem_append_right _ hc)]) (lo:=lo) hsc hlo (fun c hc=> .inr (hmB c hc))
 rw[hG0] at hchk;rw[pq (st:=none) hchk]
 congr 1
 refine yA (κ:=aW ρ) ?_ ?_ fun c=>?_
 ·exact Gz (List.pairwise_map.2 hl)
 ·exact hsc.filter _
 ·have hev:∀c:qB,c∈(Dh a++IZ b).map (·.1)↔c∈dQ a++dQ b:=fun c=>by
   rw[List.map_append,List.mem_append,List.mem_append];have e1:∀m:List Iv,c∈(Dh m).map (·.1)↔c∈dQ m:=fun m=>by
    unfold Dh dQ;rw[List.map_flatMap];rfl
   have e2:∀m:List Iv,c∈(IZ m).map (·.1)↔c∈dQ m:=fun m=>by
    unfold IZ dQ;rw[List.map_flatMap];rfl
   rw[e1,e2]
  have hlm:c∈l.map (·.1)↔c∈dQ a++dQ b:=(by rw[<-hev];exact(hp.map _).mem_iff);rw[List.mem_filter,decide_eq_true_eq]
  constructor
  ·intro h;have h1:=hlm.1 (xJ h);exact⟨hmB c h1,h1⟩
  ·intro h;refine BJ (fun x hx y hy e=>?_) (hlm.2 h.2);have m1:S x.1:=hS _ (qO.1 (hmB x (by rw[<-hev];exact(hp.map _).mem_iff.1 hx)));have m2:S y.1:=hS _ (qO.1 (hmB y (by rw[<-hev];exact(hp.map _).mem_iff.1 hy)));exact Zk T m1 m2 e
end Go.Via
namespace Go.Via
open Go
section
variable{A B C:Type}
def iw(mt:A->B->Option C)(ef:A->B->Bool):List A->List B->List C
 |[],_=>[]
 |_::_,[]=>[]
 |x::xs,y::ys=>(mt x y).toList++if ef x y=true then iw mt ef xs (y::ys) else iw mt ef (x::xs) ys
termination_by a b=>a.length+b.length
def flatK(mt:A->B->Option C)(a:List A)(b:List B):List C:=a.flatMap fun x=>b.filterMap (mt x)
theorem uJ{f:B->Option C}:∀{l:List B},(∀y∈l,f y=none)->l.filterMap f=[]
 |[],_=>rfl
 |y::l,h=>by rw[List.filterMap_cons_none (h y (List.mem_cons_self ..)),uJ fun z hz=>h z (List.mem_cons_of_mem _ hz)]
def Iu{mt:A->B->Option C}{y:B}{ys:List B}:∀{a:List A},(∀x∈a,mt x y=none)->flatK mt a (y::ys)=flatK mt a ys
 |[],_=>rfl
 |x::a,h=>by
  unfold flatK;rw[List.flatMap_cons,List.flatMap_cons,List.filterMap_cons_none (h x (List.mem_cons_self ..))]
  congr 1
  exact Iu fun z hz=>h z (List.mem_cons_of_mem _ hz)
theorem G9{mt:A->B->Option C}{ef:A->B->Bool}{fa la:A->Int}{fb lb:B->Int}:
 ∀{a:List A} {b:List B},(∀x∈a,∀y∈b,(ef x y=true↔la x<=lb y)∧(la x<=fb y->mt x y=none)∧(lb y<=fa x->mt x y=none))->a.Pairwise (fun x y=>la x<=fa y)->b.Pairwise (fun x y=>lb x<=fb y)->iw mt ef a b=flatK mt a b
 |[],_,_,_,_=>by unfold iw;rfl
 |x::xs,[],_,_,_=>by
  unfold iw;have:∀a:List A,flatK mt a []=[]:=fun a=>by
   induction a with
   |nil=>rfl
   |cons z a ih=>unfold flatK at*;rw[List.flatMap_cons,ih];rfl
  exact(this _).symm
 |x::xs,y::ys,H,ha,hb=>by
  obtain⟨a1,a2⟩:=List.pairwise_cons.1 ha;obtain⟨b1,b2⟩:=List.pairwise_cons.1 hb;obtain⟨hef,_,_⟩:=H x (List.mem_cons_self ..) y (List.mem_cons_self ..);have hm1:∀z∈y::ys,la x<=fb z->mt x z=none:=fun z hz=>(H x (List.mem_cons_self ..) z hz).2.1
  have hm2:∀z∈x::xs,lb y<=fa z->mt z y=none:=fun z hz=>(H z hz y (List.mem_cons_self ..)).2.2
  unfold iw
  by_cases h:ef x y=true
  ·have hl:=hef.1 h;rw[if_pos h,G9 (fun z hz w hw=>H z (List.mem_cons_of_mem _ hz) w hw) a2 hb];unfold flatK;rw[List.flatMap_cons]
   congr 1
   cases hm:mt x y
   ·rw[List.filterMap_cons_none hm,uJ fun z hz=>hm1 z (List.mem_cons_of_mem _ hz) (by have:=b1 z hz;omega)];rfl
   ·rw[List.filterMap_cons_some hm,uJ fun z hz=>hm1 z (List.mem_cons_of_mem _ hz) (by have:=b1 z hz;omega)];rfl
  ·have hl:lb y<la x:=Int.not_le.1 fun hh=>h (hef.2 hh)
   rw[if_neg h,G9 (fun z hz w hw=>H z hz w (List.mem_cons_of_mem _ hw)) ha b2];have hd:flatK mt xs (y::ys)=flatK mt xs ys:=Iu fun z hz=>hm2 z (List.mem_cons_of_mem _ hz) (by have:=a1 z hz;omega)
   show _=(x::xs).flatMap _;rw[List.flatMap_cons];have e1:xs.flatMap (fun x=>(y::ys).filterMap (mt x))=xs.flatMap (fun x=>ys.filterMap (mt x)):=hd;rw[e1];have e2:flatK mt (x::xs) ys=ys.filterMap (mt x)++xs.flatMap (fun x=>ys.filterMap (mt x)):=by unfold flatK;rw[List.flatMap_cons]
   rw[e2];cases hm:mt x y
   ·rw[List.filterMap_cons_none hm];rfl
   ·rw[List.filterMap_cons_some hm];rfl
termination_by a b=>a.length+b.length
end
def rW(a b:Iv):Rl×Bool:=if bQ a.f b.f<0 then(b.f,b.fo) else if bQ a.f b.f=0 then(a.f,a.fo||b.fo) else(a.f,a.fo)
def uK(a b:Iv):Rl×Bool:=if 0<bQ a.t b.t then(b.t,b.tp) else if bQ a.t b.t=0 then(a.t,a.tp||b.tp) else(a.t,a.tp)
def fC(a b:Iv):Iv:=⟨(rW a b).1,(uK a b).1,(rW a b).2,(uK a b).2⟩
def lF(i:Iv):Bool:=decide (bQ i.f i.t<0)||decide (bQ i.f i.t=0)&&(!i.fo&& !i.tp)
def dB(a b:Iv):Option Iv:=if lF (fC a b)=true then some (fC a b) else none
def Pg(a b:Iv):Bool:=decide (bQ a.t b.t<0)||decide (bQ a.t b.t=0)&&(a.tp|| !b.tp)
def Ls{S:Rl->Prop}{ρ:Rl->Int}(T:fF S ρ){a b:Iv}(ha:S a.f)(hb:S b.f):(fC a b).b=a.b∧aW ρ b.b<=aW ρ a.b∨(fC a b).b=b.b∧aW ρ a.b<=aW ρ b.b:=by
 have h1:=T.lt ha hb;have h2:=T.zero ha hb;have h3:=T.gt ha hb;unfold fC rW Iv.b aW;dsimp only;rcases uH a.f b.f with h|h|h<;>rw[h] at h1 h2 h3 ⊢
 ·right
  have:=h1.1 ax;simp;split<;>split<;>omega
 ·have e:=h2.1 rfl;have e':=T.inj ha hb e;simp;rw[e'];cases a.fo<;>cases b.fo<;>simp<;>omega
 ·left
  have:=h3.1 ax;simp;split<;>split<;>omega
def Lt{S:Rl->Prop}{ρ:Rl->Int}(T:fF S ρ){a b:Iv}(ha:S a.t)(hb:S b.t):(fC a b).e=a.e∧aW ρ a.e<=aW ρ b.e∨(fC a b).e=b.e∧aW ρ b.e<=aW ρ a.e:=by
 have h1:=T.lt ha hb;have h2:=T.zero ha hb;have h3:=T.gt ha hb;unfold fC uK Iv.e aW;dsimp only;rcases uH a.t b.t with h|h|h<;>rw[h] at h1 h2 h3 ⊢
 ·left
  have:=h1.1 ax;simp;split<;>split<;>omega
 ·have e:=h2.1 rfl;have e':=T.inj ha hb e;simp;rw[e'];cases a.tp<;>cases b.tp<;>simp<;>omega
 ·right
  have:=h3.1 ax;simp;split<;>split<;>omega
theorem uM{S:Rl->Prop}{ρ:Rl->Int}(T:fF S ρ){i:Iv}(hf:S i.f)(ht:S i.t):lF i=true↔aW ρ i.b<aW ρ i.e:=by
 have h1:=T.lt hf ht;have h2:=T.zero hf ht;unfold lF aW Iv.b Iv.e;simp only[Bool.or_eq_true,Bool.and_eq_true,decide_eq_true_eq,h1,h2];cases i.fo<;>cases i.tp<;>simp<;>omega
def qbF{S:Rl->Prop}{ρ:Rl->Int}(T:fF S ρ){a b:Iv}(ha:S a.t)(hb:S b.t):Pg a b=true↔aW ρ a.e<=aW ρ b.e:=by
 have h1:=T.lt ha hb;have h2:=T.zero ha hb;unfold Pg aW Iv.e;simp only[Bool.or_eq_true,Bool.and_eq_true,decide_eq_true_eq,h1,h2];cases a.tp<;>cases b.tp<;>simp<;>omega
def Ha{S:Rl->Prop}{a b:Iv}(ha:S a.f∧S a.t)(hb:S b.f∧S b.t):S (fC a b).f∧S (fC a b).t:=by
 unfold fC rW uK;dsimp only
 constructor
 ·split
  ·exact hb.1
  ·split<;>exact ha.1
 ·split
  ·exact hb.2
  ·split<;>exact ha.2
theorem qbG{S:Rl->Prop}{ρ:Rl->Int}(T:fF S ρ){a b:Iv}(ha:S a.f∧S a.t)(hb:S b.f∧S b.t)(h:aW ρ a.e<=aW ρ b.b∨aW ρ b.e<=aW ρ a.b)(oa:aW ρ a.b<aW ρ a.e)(ob:aW ρ b.b<aW ρ b.e):dB a b=none:=by
 unfold dB;refine if_neg fun hk=>?_
 have hk:=(uM T (Ha ha hb).1 (Ha ha hb).2).1 hk;rcases Ls T ha.1 hb.1 with⟨e1,_⟩|⟨e1,_⟩<;>rcases Lt T ha.2 hb.2 with⟨e2,_⟩|⟨e2,_⟩<;>rw[e1,e2] at hk<;>omega
end Go.Via
namespace Go.Via
open Go
def rX(x:Rl):List Rl->List Rl
 |[]=>[x]
 |y::ys=>if bQ y x<0 then y::rX x ys else if bQ y x=0 then y::ys else x::y::ys
def eY(l:List Rl):List Rl:=l.foldl (fun o x=>rX x o) []
theorem FK{S:Rl->Prop}{ρ:Rl->Int}(T:fF S ρ){x:Rl}(hx:S x):∀{l:List Rl},(∀y∈l,S y)->∀z,z∈rX x l↔z=x∨z∈l
 |[],_,z=>by unfold rX;simp
 |y::ys,h,z=>by
  have hy:=h y (List.mem_cons_self ..);have ih:=FK T hx (l:=ys) (fun w hw=>h w (List.mem_cons_of_mem _ hw)) z;unfold rX
  split
  ·rw[List.mem_cons,ih,List.mem_cons]
   constructor
   ·rintro(h|h|h);exact .inr (.inl h);exact .inl h;exact .inr (.inr h)
   ·rintro(h|h|h);exact .inr (.inl h);exact .inl h;exact .inr (.inr h)
  ·split
   ·rename_i h2
    have e:y=x:=T.inj hy hx ((T.zero hy hx).1 h2)
    constructor
    ·exact .inr
    ·rintro(h|h)
     ·rw[h,<-e];exact List.mem_cons_self ..
     ·exact h
   ·rw[List.mem_cons]
def Iw{S:Rl->Prop}{ρ:Rl->Int}(T:fF S ρ){x:Rl}(hx:S x):∀{l:List Rl},(∀y∈l,S y)->l.Pairwise (fun a b=>ρ a<ρ b)->(rX x l).Pairwise (fun a b=>ρ a<ρ b)
 |[],_,_=>List.pairwise_singleton ..
 |y::ys,h,hs=>by
  obtain⟨s1,s2⟩:=List.pairwise_cons.1 hs;have hy:=h y (List.mem_cons_self ..);have h':∀w∈ys,S w:=fun w hw=>h w (List.mem_cons_of_mem _ hw)
  have l1:=T.lt hy hx;have l2:=T.zero hy hx;unfold rX
  split
  ·rename_i hc
   refine List.pairwise_cons.2 ⟨fun z hz=>?_,Iw T hx h' s2⟩;rcases(FK T hx h' z).1 hz with e|e
   ·rw[e];exact l1.1 hc
   ·exact s1 z e
  ·split
   ·exact hs
   ·have:ρ x<ρ y:=by
     have a1:¬ρ y<ρ x:=fun e=>absurd (l1.2 e) (by assumption)
     have a2:¬ρ y=ρ x:=fun e=>absurd (l2.2 e) (by assumption)
     omega
    refine List.pairwise_cons.2 ⟨fun z hz=>?_,hs⟩;rcases List.mem_cons.1 hz with e|e
    ·rw[e];exact this
    ·have:=s1 z e;omega
def uO{S:Rl->Prop}{ρ:Rl->Int}(T:fF S ρ){l:List Rl}(h:∀y∈l,S y):(eY l).Pairwise (fun a b=>ρ a<ρ b)∧∀z,z∈eY l↔z∈l:=by
 have gen:∀(l o:List Rl),(∀y∈l,S y)->(∀y∈o,S y)->o.Pairwise (fun a b=>ρ a<ρ b)->(l.foldl (fun o x=>rX x o) o).Pairwise (fun a b=>ρ a<ρ b)∧∀z,z∈l.foldl (fun o x=>rX x o) o↔z∈l∨z∈o:=by
  intro l
  induction l with
  |nil=>intro o _ _ hs;exact⟨hs,fun z=>bI⟩
  |cons x l ih=>
   intro o hl ho hs;have hx:=hl x (List.mem_cons_self ..);obtain⟨i1,i2⟩:=ih (rX x o) (fun y hy=>hl y (List.mem_cons_of_mem _ hy)) (fun y hy=>by
 rcases(FK T hx ho y).1 hy with e|e
 ·rw[e];exact hx
 ·exact ho y e) (Iw T hx ho hs)
   refine⟨i1,fun z=>?_⟩
   rw[List.foldl_cons,i2,FK T hx ho,List.mem_cons]
   constructor
   ·rintro(h|h|h);exact .inl (.inr h);exact .inl (.inl h);exact .inr h
   ·rintro((h|h)|h);exact .inr (.inl h);exact .inl h;exact .inr (.inr h)
 obtain⟨a,b⟩:=gen l [] h bI List.Pairwise.nil;exact⟨a,fun z=>by rw[show z∈eY l↔_ from b z];simp⟩
def gm(op:Bool->Bool->Bool)(a b:List Iv):List Iv:=(O7 (fun t=>op (nZ a t) (nZ b t)) (fun t u=>op (oh a t u) (oh b t u)) none (eY (bW (a++b)))).map fun p=>NK p.1 p.2
theorem wJ{a b:List Iv}:bW (a++b)=bW a++bW b:=by unfold bW;rw[List.flatMap_append]
theorem qeF{S:Rl->Prop}{ρ:Rl->Int}(T:fF S ρ){G:Int->Bool}{B C D:List qB}(HG:∀k1 k2,k1<=k2->(∀b∈B,¬(k1<aW ρ b∧aW ρ b<=k2))->G k1=G k2)(H0:∀k,(∀b∈B,k<aW ρ b)->G k=false)
 (hC:C.Pairwise (fun a b=>aW ρ a<aW ρ b))(hD:D.Pairwise (fun a b=>aW ρ a<aW ρ b))(bC:∀b∈B,b∈C)(bD:∀b∈B,b∈D):iE (fun c=>G (aW ρ c)) none C=iE (fun c=>G (aW ρ c)) none D:=by
 have low:∀C:List qB,∃lo:Int,∀c∈C,lo<aW ρ c:=fun C=>by
  induction C with
  |nil=>exact⟨0,fun c hc=>absurd hc bI⟩
  |cons c C ih=>
   obtain⟨lo,h⟩:=ih;refine⟨min lo (aW ρ c-1),fun x hx=>?_⟩
   rcases List.mem_cons.1 hx with e|e
   ·subst e;omega
   ·have:=h x e;omega
 have one:∀C:List qB,C.Pairwise (fun a b=>aW ρ a<aW ρ b)->(∀b∈B,b∈C)->iE (fun c=>G (aW ρ c)) none C=iE (fun c=>G (aW ρ c)) none (C.filter fun c=>decide (c∈B)):=fun C hC bC=>by
  obtain⟨lo,hlo⟩:=low C;have hchk:=WW (ρ:=ρ) (G:=G) (p:=fun c=>decide (c∈B)) (B:=B) (fun c=>by rw[decide_eq_true_eq]) HG (lo:=lo) hC hlo fun c hc=> .inr (bC c hc)
  rw[H0 lo fun b hb=>hlo b (bC b hb)] at hchk
  exact pq (st:=none) hchk
 rw[one C hC bC,one D hD bD]
 congr 1
 refine yA (κ:=aW ρ) (hC.filter _) (hD.filter _) fun c=>?_
 rw[List.mem_filter,List.mem_filter,decide_eq_true_eq]
 constructor
 ·rintro⟨_,h⟩;exact⟨bD c h,h⟩
 ·rintro⟨_,h⟩;exact⟨bC c h,h⟩
theorem uq{S:Rl->Prop}{l:List Iv}(h:jZ S l):∀x∈bW l,S x:=fun x hx=>by
 obtain⟨i,hi,e⟩:=ng.1 hx;rcases e with e|e<;>subst e;exact(h i hi).1;exact(h i hi).2
theorem ni{S:Rl->Prop}{a b:List Iv}(ha:jZ S a)(hb:jZ S b):jZ S (a++b):=fun i hi=>by
 rcases List.mem_append.1 hi with h|h;exact ha i h;exact hb i h
theorem Ed{S:Rl->Prop}{ρ:Rl->Int}(T:fF S ρ){op:Bool->Bool->Bool}(h0:op false false=false){a b:List Iv}(ha:jZ S a)(hb:jZ S b):
 gm op a b=(iE (fun c=>op (memB ρ a (aW ρ c)) (memB ρ b (aW ρ c))) none (nY (eY (bW (a++b))))).map fun p=>NK p.1 p.2:=by
 obtain⟨h1,h2⟩:=uO T (uq (ni ha hb));unfold gm;rw[FC (QT T h0 ha hb (pre:=[]) (fun t ht=>uq (ni ha hb) t ((h2 t).1 ht)) h1 (fun x hx=> .inl ((h2 x).2 (by rw[wJ];exact hx))) fun i hi=>(ni ha hb i hi).1)]
def Lu{a b:List Iv}{S:Rl->Prop}{ρ:Rl->Int}(T:fF S ρ)(ha:jZ S a)(hb:jZ S b):∀c∈dQ a++dQ b,c∈nY (eY (bW (a++b))):=fun c hc=>by
 obtain⟨_,h2⟩:=uO T (uq (ni ha hb));refine qO.2 ((h2 _).2 ?_);rw[wJ];rcases List.mem_append.1 hc with h|h
 ·obtain⟨i,hi,e⟩:=fG.1 h;refine List.mem_append_left _ (ng.2 ⟨i,hi,?_⟩);rcases e with e|e<;>subst e;exact .inl rfl;exact .inr rfl
 ·obtain⟨i,hi,e⟩:=fG.1 h;refine List.mem_append_right _ (ng.2 ⟨i,hi,?_⟩);rcases e with e|e<;>subst e;exact .inl rfl;exact .inr rfl
end Go.Via
namespace Go.Via
open Go
structure Ln where
 x0:Rat
 x1:Rat
 y0:Rat
 y1:Rat
deriving DecidableEq
structure PU where
 i:Iv
 f:Ln
deriving DecidableEq
def eF(i:Iv):Bool:=decide (i.f=i.t)
def qx(f:Ln):Qd:=⟨f.x0,f.x1,0⟩
def qy(f:Ln):Qd:=⟨f.y0,f.y1,0⟩
def jK(f:Ln)(t:Rl):Ln:=if t.r=0 then⟨uI (qx f) t.p,0,uI (qy f) t.p,0⟩ else f
def Ee(f g:Ln):Ln:=⟨f.x0-g.x0,f.x1-g.x1,f.y0-g.y0,f.y1-g.y1⟩
def pU(f g:Ln)(t:Rl):Bool:=decide (jK (Ee f g) t=⟨0,0,0,0⟩)
def iT(u:PU):List PU:=
 (if u.i.fo=true then[] else[⟨⟨u.i.f,u.i.f,false,false⟩,u.f⟩])++
 (if eF u.i=true then[] else⟨⟨u.i.f,u.i.t,true,true⟩,u.f⟩::(if u.i.tp=true then[] else[⟨⟨u.i.t,u.i.t,false,false⟩,u.f⟩]))
def aH(l:List PU):List PU:=l.flatMap iT
def rY(out:List PU)(t:Rl):Bool:=match out.getLast? with|some u=>decide (u.i.t=t)&& !u.i.tp|none=>false
def ug(out:List PU)(t:Rl):Option PU:=match out.getLast? with|some u=>if u.i.t=t∧eF u.i=false then some u else none|none=>none
def jk(out:List PU)(u:PU):List PU:=out.dropLast++[u]
def kC(out:List PU)(prev:Option PU)(x:PU)(next:Option PU):List PU:=
 match eF x.i,ug out x.i.f with
 |false,some b=>if b.i.tp=false∧b.f=x.f then jk out ⟨⟨b.i.f,x.i.t,b.i.fo,true⟩,b.f⟩ else
  out++[⟨⟨x.i.f,x.i.t,(match prev with|some p=>if eF p.i=true∧p.i.f=x.i.f∧rY out x.i.f=false then false else x.i.fo|none=>x.i.fo),x.i.tp⟩,x.f⟩]
 |false,none=>out++[⟨⟨x.i.f,x.i.t,(match prev with|some p=>if eF p.i=true∧p.i.f=x.i.f∧rY out x.i.f=false then false else x.i.fo|none=>x.i.fo),x.i.tp⟩,x.f⟩]
 |true,some b=>if pU b.f x.f x.i.f=true then jk out ⟨⟨b.i.f,b.i.t,b.i.fo,false⟩,b.f⟩ else
  (match next with|some n=>if n.i.f=x.i.f∧pU n.f x.f x.i.f=true then out else out++[⟨x.i,jK x.f x.i.f⟩]|none=>out++[⟨x.i,jK x.f x.i.f⟩])
 |true,none=>(match next with|some n=>if n.i.f=x.i.f∧pU n.f x.f x.i.f=true then out else out++[⟨x.i,jK x.f x.i.f⟩]|none=>out++[⟨x.i,jK x.f x.i.f⟩])
def uP:Option PU->List PU->List PU->List PU
 |_,out,[]=>out
 |prev,out,x::xs=>uP (some x) (kC out prev x xs.head?) xs
def qC(l:List PU):List PU:=uP none [] (aH l)
def pV(ρ:Rl->Int)(l:List PU):Prop:=l.Pairwise (fun x y=>aW ρ x.i.e<=aW ρ y.i.b)∧∀x∈l,aW ρ x.i.b<aW ρ x.i.e
def Ends(S:Rl->Prop)(l:List PU):Prop:=∀x∈l,S x.i.f∧S x.i.t
def AP(ρ:Rl->Int)(b:qB):2*ρ b.1<=aW ρ b∧aW ρ b<=2*ρ b.1+1:=by unfold aW;split<;>omega
def AQ{ρ:Rl->Int}{l:List PU}{u:PU}(h:pV ρ l)(hu:aW ρ u.i.b<aW ρ u.i.e)(hl:∀x∈l,aW ρ x.i.e<=aW ρ u.i.b):pV ρ (l++[u]):=
 ⟨List.pairwise_append.2 ⟨h.1,List.pairwise_singleton ..,fun x hx y hy=>by rw[List.mem_singleton] at hy;rw[hy];exact hl x hx⟩,fun x hx=>by
 rcases List.mem_append.1 hx with e|e
 ·exact h.2 x e
 ·rw[List.mem_singleton] at e;rw[e];exact hu⟩
def x8{S:Rl->Prop}{l:List PU}{u:PU}(h:Ends S l)(hu:S u.i.f∧S u.i.t):Ends S (l++[u]):=fun x hx=>by
 rcases List.mem_append.1 hx with e|e
 ·exact h x e
 ·rw[List.mem_singleton] at e;rw[e];exact hu
theorem pW{l:List PU}{b:PU}(h:l.getLast? =some b):l=l.dropLast++[b]:=by
 have hne:l≠[]:=fun e=>by rw[e] at h;cases h
 have:=List.dropLast_concat_getLast hne;rw[List.getLast?_eq_some_getLast hne] at h
 injection h with h
 rw[h] at this;exact this.symm
def UV{ρ:Rl->Int}{l:List PU}{b:PU}(h:pV ρ (l++[b])):pV ρ l∧(∀x∈l,aW ρ x.i.e<=aW ρ b.i.b)∧aW ρ b.i.b<aW ρ b.i.e:=by
 obtain⟨h1,h2⟩:=h;obtain⟨a1,_,a3⟩:=List.pairwise_append.1 h1;exact⟨⟨a1,fun x hx=>h2 x (List.mem_append_left _ hx)⟩,fun x hx=>a3 x hx b bI,h2 b bI⟩
def x9{out:List PU}{t:Rl}{b:PU}(h:ug out t=some b):out.getLast? =some b∧b.i.t=t∧eF b.i=false:=by
 unfold ug at h;cases hl:out.getLast? with
 |none=>rw[hl] at h;cases h
 |some u=>
  rw[hl] at h;dsimp only at h
  split at h
  ·injection h with h;subst h;rename_i hc;exact⟨rfl,hc⟩
  ·cases h
def qbH{S:Rl->Prop}{ρ:Rl->Int}(T:fF S ρ){out:List PU}{prev next:Option PU}{x:PU}{lo:Int}(hs:pV ρ out)(he:Ends S out)(hx:S x.i.f∧S x.i.t)(ho:aW ρ x.i.b<aW ρ x.i.e)
 (hlo:∀u∈out,aW ρ u.i.e<=lo)(hxl:lo<=aW ρ x.i.b)(hform:(x.i.f=x.i.t∧x.i.fo=false∧x.i.tp=false)∨(ρ x.i.f<ρ x.i.t∧x.i.fo=true∧x.i.tp=true)):
 pV ρ (kC out prev x next)∧Ends S (kC out prev x next)∧∀u∈kC out prev x next,aW ρ u.i.e<=aW ρ x.i.e:=by
 have keepE:∀u∈out,aW ρ u.i.e<=aW ρ x.i.e:=fun u hu=>by have:=hlo u hu;omega
 have snocE:∀v:PU,aW ρ v.i.e=aW ρ x.i.e->∀u∈out++[v],aW ρ u.i.e<=aW ρ x.i.e:=fun v hv u hu=>by
  rcases List.mem_append.1 hu with e|e
  ·exact keepE u e
  ·rw[List.mem_singleton] at e;rw[e];omega
 have red:pV ρ (out++[⟨x.i,jK x.f x.i.f⟩])∧Ends S (out++[⟨x.i,jK x.f x.i.f⟩])∧∀u∈out++[⟨x.i,jK x.f x.i.f⟩],aW ρ u.i.e<=aW ρ x.i.e:=
  ⟨AQ hs ho fun u hu=>by have:=hlo u hu;show _<=aW ρ x.i.b;omega,x8 he hx,snocE _ rfl⟩
 have app:pV ρ (out++[⟨⟨x.i.f,x.i.t,(match prev with|some p=>if eF p.i=true∧p.i.f=x.i.f∧rY out x.i.f=false then false else x.i.fo|none=>x.i.fo),x.i.tp⟩,x.f⟩])∧Ends S (out++[⟨⟨x.i.f,x.i.t,(match prev with|some p=>if eF p.i=true∧p.i.f=x.i.f∧rY out x.i.f=false then false else x.i.fo|none=>x.i.fo),x.i.tp⟩,x.f⟩])∧
  ∀u∈out++[⟨⟨x.i.f,x.i.t,(match prev with|some p=>if eF p.i=true∧p.i.f=x.i.f∧rY out x.i.f=false then false else x.i.fo|none=>x.i.fo),x.i.tp⟩,x.f⟩],aW ρ u.i.e<=aW ρ x.i.e:=by
  generalize hb:(match prev with|some p=>if eF p.i=true∧p.i.f=x.i.f∧rY out x.i.f=false then false else x.i.fo|none=>x.i.fo)=c
  have hc:c=x.i.fo∨(c=false∧rY out x.i.f=false):=by
   rw[<-hb];cases prev with
   |none=>exact .inl rfl
   |some p=>dsimp only;split;rename_i h;exact .inr ⟨rfl,h.2.2⟩;exact .inl rfl
  have hb0:aW ρ (x.i.f,c)<=aW ρ x.i.b:=by
   rcases hc with e|e
   ·rw[e];exact Int.le_refl _
   ·rw[e.1];unfold aW Iv.b;simp;split<;>omega
  refine⟨AQ hs ?_ fun u hu=>?_,x8 he hx,snocE _ rfl⟩
  ·show aW ρ (x.i.f,c)<aW ρ x.i.e;omega
  ·show aW ρ u.i.e<=aW ρ (x.i.f,c);rcases hc with e|⟨e,hh⟩
   ·rw[e];have:=hlo u hu;have:aW ρ (x.i.f,x.i.fo)=aW ρ x.i.b:=rfl;omega
   ·rw[e]
    have hle:aW ρ u.i.e<=aW ρ x.i.b:=(by have:=hlo u hu;omega);have hne:out≠[]:=fun e=>by rw[e] at hu;simp at hu
    obtain⟨b,hbl⟩:∃b,out.getLast? =some b:=⟨_,List.getLast?_eq_some_getLast hne⟩;have hsn:=pW hbl;rw[hsn] at hs hu he hlo;obtain⟨i1,i2,i3⟩:=UV hs;have hbe:aW ρ b.i.e<=aW ρ (x.i.f,false):=by
     have h1:aW ρ b.i.e<=aW ρ x.i.b:=(by have:=hlo b bI;omega);unfold rY at hh;rw[hbl] at hh;dsimp only at hh;have hbS:=(he b bI).2
     by_cases ht:b.i.t=x.i.f
     ·rw[decide_eq_true ht,Bool.true_and] at hh;have:b.i.tp=true:=by simpa using hh
      unfold aW Iv.e Iv.b at*;rw[this,ht];simp
     ·have hne:ρ b.i.t≠ρ x.i.f:=fun e=>ht (T.inj hbS hx.1 e)
      have k1:=AP ρ b.i.e;have k2:=AP ρ x.i.b;have k3:=AP ρ (x.i.f,false);have k4:b.i.e.1=b.i.t:=rfl;have k5:x.i.b.1=x.i.f:=rfl;rw[k4] at k1;rw[k5] at k2;dsimp only at k3;omega
    rcases List.mem_append.1 hu with e'|e'
    ·have:=i2 u e';omega
    ·rw[List.mem_singleton] at e';rw[e'];exact hbe
 have nx:pV ρ (match next with|some n=>if n.i.f=x.i.f∧pU n.f x.f x.i.f=true then out else out++[⟨x.i,jK x.f x.i.f⟩]|none=>out++[⟨x.i,jK x.f x.i.f⟩])∧Ends S (match next with|some n=>if n.i.f=x.i.f∧pU n.f x.f x.i.f=true then out else out++[⟨x.i,jK x.f x.i.f⟩]|none=>out++[⟨x.i,jK x.f x.i.f⟩])∧
  ∀u:PU,u∈(match next with|some n=>if n.i.f=x.i.f∧pU n.f x.f x.i.f=true then out else out++[(⟨x.i,jK x.f x.i.f⟩:PU)]|none=>out++[(⟨x.i,jK x.f x.i.f⟩:PU)])->aW ρ u.i.e<=aW ρ x.i.e:=by
  cases next with
  |none=>exact red
  |some n=>
   dsimp only
   split
   ·exact⟨hs,he,keepE⟩
   ·exact red
 have setE:∀{b v:PU},ug out x.i.f=some b->v.i.b=b.i.b->v.i.f=b.i.f->S v.i.t->aW ρ v.i.b<aW ρ v.i.e->aW ρ v.i.e<=aW ρ x.i.e->pV ρ (jk out v)∧Ends S (jk out v)∧∀u∈jk out v,aW ρ u.i.e<=aW ρ x.i.e:=fun {b v} hb h1 h2 h3 h4 h5=>by
  obtain⟨hl,_,_⟩:=x9 hb;have hsn:=pW hl;have hs':=hs;have he':=he;rw[hsn] at hs' he';obtain⟨i1,i2,i3⟩:=UV hs';unfold jk;refine⟨AQ i1 h4 fun u hu=>by rw[h1];exact i2 u hu,x8 (fun u hu=>he' u (List.mem_append_left _ hu)) ⟨by rw[h2];exact(he' b bI).1,h3⟩,fun u hu=>?_⟩
  rcases List.mem_append.1 hu with e|e
  ·exact keepE u (by rw[hsn];exact List.mem_append_left _ e)
  ·rw[List.mem_singleton] at e;rw[e];exact h5
 unfold kC;have fin:∀b,ug out x.i.f=some b->(eF x.i=false->b.i.tp=false∧b.f=x.f->pV ρ (jk out ⟨⟨b.i.f,x.i.t,b.i.fo,true⟩,b.f⟩)∧Ends S (jk out ⟨⟨b.i.f,x.i.t,b.i.fo,true⟩,b.f⟩)∧∀u∈jk out ⟨⟨b.i.f,x.i.t,b.i.fo,true⟩,b.f⟩,aW ρ u.i.e<=aW ρ x.i.e)∧
  (eF x.i=true->pV ρ (jk out ⟨⟨b.i.f,b.i.t,b.i.fo,false⟩,b.f⟩)∧Ends S (jk out ⟨⟨b.i.f,b.i.t,b.i.fo,false⟩,b.f⟩)∧∀u∈jk out ⟨⟨b.i.f,b.i.t,b.i.fo,false⟩,b.f⟩,aW ρ u.i.e<=aW ρ x.i.e):=fun b hb=>by
  obtain⟨hl,ht,hn⟩:=x9 hb;have hbm:b∈out:=by rw[pW hl];simp
  have hbo:=hs.2 b hbm;have hble:=hlo b hbm
  constructor
  ·intro hi _;refine setE hb rfl rfl hx.2 ?_ ?_
   ·have e1:aW ρ (Iv.e ⟨b.i.f,x.i.t,b.i.fo,true⟩)=2*ρ x.i.t:=by unfold aW Iv.e;simp
    have e2:aW ρ (Iv.b ⟨b.i.f,x.i.t,b.i.fo,true⟩)=aW ρ b.i.b:=rfl;rcases hform with hf|hf
    ·exfalso;unfold eF at hi;rw[decide_eq_true hf.1] at hi;cases hi
    ·have e3:aW ρ x.i.b=2*ρ x.i.f+1:=by unfold aW Iv.b;rw[hf.2.1];simp
     show aW ρ (Iv.b ⟨b.i.f,x.i.t,b.i.fo,true⟩)<aW ρ (Iv.e ⟨b.i.f,x.i.t,b.i.fo,true⟩);omega
   ·rcases hform with hf|hf
    ·exfalso;unfold eF at hi;rw[decide_eq_true hf.1] at hi;cases hi
    ·show aW ρ (Iv.e ⟨b.i.f,x.i.t,b.i.fo,true⟩)<=_;unfold aW Iv.e;rw[hf.2.2];exact Int.le_refl _
  ·intro hi;refine setE hb rfl rfl (by show S b.i.t;rw[ht];exact hx.1) ?_ ?_
   ·have e1:aW ρ b.i.e<=aW ρ (Iv.e ⟨b.i.f,b.i.t,b.i.fo,false⟩):=by
     have:=AP ρ b.i.e;have e:b.i.e.1=b.i.t:=rfl;rw[e] at this;unfold aW Iv.e at*;simp at*;omega
    show aW ρ b.i.b<aW ρ (Iv.e ⟨b.i.f,b.i.t,b.i.fo,false⟩);omega
   ·rcases hform with hf|hf
    ·show aW ρ (Iv.e ⟨b.i.f,b.i.t,b.i.fo,false⟩)<=_;unfold aW Iv.e;rw[hf.2.2,ht,hf.1];exact Int.le_refl _
    ·exfalso;unfold eF at hi;have:=of_decide_eq_true hi;rw[this] at hf;omega
 cases hi:eF x.i
 ·cases hb:ug out x.i.f with
  |none=>exact app
  |some b=>
   dsimp only
   split
   ·rename_i hc;exact(fin b hb).1 hi hc
   ·exact app
 ·cases hb:ug out x.i.f with
  |none=>exact nx
  |some b=>
   dsimp only
   split
   ·exact(fin b hb).2 hi
   ·exact nx
end Go.Via
namespace Go.Via
open Go
def UW(ρ:Rl->Int)(x:PU):Prop:=(x.i.f=x.i.t∧x.i.fo=false∧x.i.tp=false)∨(ρ x.i.f<ρ x.i.t∧x.i.fo=true∧x.i.tp=true)
def qeG{ρ:Rl->Int}{x:PU}(h:UW ρ x):aW ρ x.i.b<aW ρ x.i.e:=by
 unfold aW Iv.b Iv.e;rcases h with⟨h1,h2,h3⟩|⟨h1,h2,h3⟩
 ·rw[h1,h2,h3];simp;omega
 ·rw[h2,h3];simp;omega
def LC{S:Rl->Prop}{ρ:Rl->Int}(T:fF S ρ):∀{xs:List PU} {out:List PU} {prev:Option PU} {lo:Int},pV ρ out->Ends S out->(∀u∈out,aW ρ u.i.e<=lo)->pV ρ xs->Ends S xs->(∀x∈xs,UW ρ x)->(∀x∈xs,lo<=aW ρ x.i.b)->
 pV ρ (uP prev out xs)∧Ends S (uP prev out xs)
 |[],_,_,_,h1,h2,_,_,_,_,_=>⟨h1,h2⟩
 |x::xs,out,prev,lo,h1,h2,h3,h4,h5,h6,h7=>by
  have hx:=h5 x (List.mem_cons_self ..);have hf:=h6 x (List.mem_cons_self ..);obtain⟨a,b,c⟩:=qbH T (prev:=prev) (next:=xs.head?) h1 h2 hx (qeG hf) h3 (h7 x (List.mem_cons_self ..)) hf;obtain⟨p1,p2⟩:=List.pairwise_cons.1 h4.1;unfold uP;exact LC T a b c ⟨p2,fun y hy=>h4.2 y (List.mem_cons_of_mem _ hy)⟩ (fun y hy=>h5 y (List.mem_cons_of_mem _ hy)) (fun y hy=>h6 y (List.mem_cons_of_mem _ hy)) fun y hy=>p1 y hy
def UX{S:Rl->Prop}{ρ:Rl->Int}(T:fF S ρ){u:PU}(hu:S u.i.f∧S u.i.t)(h:aW ρ u.i.b<aW ρ u.i.e):
 pV ρ (iT u)∧Ends S (iT u)∧(∀x∈iT u,UW ρ x)∧(∀x∈iT u,aW ρ u.i.b<=aW ρ x.i.b∧aW ρ x.i.e<=aW ρ u.i.e):=by
 obtain⟨⟨f,t,fo,tp⟩,g⟩:=u;dsimp only at hu
 by_cases hi:f=t
 ·subst hi;have:fo=false∧tp=false:=by unfold aW Iv.b Iv.e at h;cases fo<;>cases tp<;>simp at h ⊢ <;>omega
  obtain⟨e1,e2⟩:=this;subst e1;subst e2;have e:iT ⟨⟨f,f,false,false⟩,g⟩=[⟨⟨f,f,false,false⟩,g⟩]:=by simp[iT,eF]
  rw[e];refine⟨⟨List.pairwise_singleton ..,fun x hx=>?_⟩,fun x hx=>?_,fun x hx=>?_,fun x hx=>?_⟩<;>rw[List.mem_singleton] at hx<;>subst hx
  ·exact h
  ·exact⟨hu.1,hu.1⟩
  ·exact .inl ⟨rfl,rfl,rfl⟩
  ·exact⟨Int.le_refl _,Int.le_refl _⟩
 ·have hne:ρ f≠ρ t:=fun e=>hi (T.inj hu.1 hu.2 e)
  have hlt:ρ f<ρ t:=by
   have k1:=AP ρ (Iv.b ⟨f,t,fo,tp⟩);have k2:=AP ρ (Iv.e ⟨f,t,fo,tp⟩);have e1:(Iv.b ⟨f,t,fo,tp⟩).1=f:=rfl;have e2:(Iv.e ⟨f,t,fo,tp⟩).1=t:=rfl;rw[e1] at k1;rw[e2] at k2;dsimp only at h;omega
  have e:iT ⟨⟨f,t,fo,tp⟩,g⟩=(if fo=true then[] else[⟨⟨f,f,false,false⟩,g⟩])++(⟨⟨f,t,true,true⟩,g⟩::(if tp=true then[] else[⟨⟨t,t,false,false⟩,g⟩])):=(by simp[iT,eF,hi]);rw[e]
  have F1:∀x:Rl,aW ρ (x,true)=2*ρ x+1:=fun x=>by unfold aW;simp
  have F0:∀x:Rl,aW ρ (x,false)=2*ρ x:=fun x=>by unfold aW;simp
  cases fo<;>cases tp<;>simp[pV,Ends,UW,Iv.b,Iv.e,F1,F0,hu,hlt]<;>omega
def LD{S:Rl->Prop}{ρ:Rl->Int}(T:fF S ρ):∀{l:List PU},pV ρ l->Ends S l->pV ρ (aH l)∧Ends S (aH l)∧(∀x∈aH l,UW ρ x)∧∀x∈aH l,∃u∈l,aW ρ u.i.b<=aW ρ x.i.b∧aW ρ x.i.e<=aW ρ u.i.e
 |[],_,_=>⟨⟨List.Pairwise.nil,by simp[aH]⟩,by simp[aH,Ends],by simp[aH],by simp[aH]⟩
 |u::l,h,he=>by
  obtain⟨p1,p2⟩:=List.pairwise_cons.1 h.1;obtain⟨a1,a2,a3,a4⟩:=UX T (he u (List.mem_cons_self ..)) (h.2 u (List.mem_cons_self ..));obtain⟨b1,b2,b3,b4⟩:=LD T (l:=l) ⟨p2,fun y hy=>h.2 y (List.mem_cons_of_mem _ hy)⟩ fun y hy=>he y (List.mem_cons_of_mem _ hy)
  have e:aH (u::l)=iT u++aH l:=rfl;rw[e];refine⟨⟨List.pairwise_append.2 ⟨a1.1,b1.1,fun x hx y hy=>?_⟩,fun x hx=>?_⟩,fun x hx=>?_,fun x hx=>?_,fun x hx=>?_⟩
  ·obtain⟨v,hv,h1,h2⟩:=b4 y hy;have:=(a4 x hx).2;have:=p1 v hv;omega
  ·rcases List.mem_append.1 hx with h|h;exact a1.2 x h;exact b1.2 x h
  ·rcases List.mem_append.1 hx with h|h;exact a2 x h;exact b2 x h
  ·rcases List.mem_append.1 hx with h|h;exact a3 x h;exact b3 x h
  ·rcases List.mem_append.1 hx with h|h
   ·exact⟨u,List.mem_cons_self ..,a4 x h⟩
   ·obtain⟨v,hv,h1⟩:=b4 x h;exact⟨v,List.mem_cons_of_mem _ hv,h1⟩
def Ph{S:Rl->Prop}{ρ:Rl->Int}(T:fF S ρ){l:List PU}(h:pV ρ l)(he:Ends S l):pV ρ (qC l)∧Ends S (qC l):=by
 obtain⟨b1,b2,b3,_⟩:=LD T h he;obtain⟨lo,hlo⟩:∃lo:Int,∀x∈aH l,lo<=aW ρ x.i.b:=by
  generalize aH l=C
  induction C with
  |nil=>exact⟨0,fun c hc=>absurd hc bI⟩
  |cons c C ih=>
   obtain⟨lo,h⟩:=ih;refine⟨min lo (aW ρ c.i.b),fun x hx=>?_⟩
   rcases List.mem_cons.1 hx with e|e
   ·subst e;omega
   ·have:=h x e;omega
 exact LC T ⟨List.Pairwise.nil,bI⟩ (by simp[Ends]) bI b1 b2 b3 hlo
def qbI{P:Ln->Prop}{out:List PU}{prev next:Option PU}{x:PU}(h:∀u∈out,P u.f)(hx:P x.f)(hr:P (jK x.f x.i.f)):∀u∈kC out prev x next,P u.f:=by
 have app:∀v:PU,P v.f->∀u∈out++[v],P u.f:=fun v hv u hu=>by
  rcases List.mem_append.1 hu with e|e
  ·exact h u e
  ·rw[List.mem_singleton] at e;rw[e];exact hv
 have set:∀b v:PU,out.getLast? =some b->v.f=b.f->∀u∈jk out v,P u.f:=fun b v hb hv u hu=>by
  have hs:=pW hb;rcases List.mem_append.1 hu with e|e
  ·exact h u (by rw[hs];exact List.mem_append_left _ e)
  ·rw[List.mem_singleton] at e;rw[e,hv];exact h b (by rw[hs];simp)
 unfold kC;cases hi:eF x.i<;>cases hb:ug out x.i.f with
 |none=>
  dsimp only
  first
  |exact app _ hx
  |cases next with
   |none=>exact app _ hr
   |some n=>dsimp only;split<;>first|exact h|exact app _ hr
 |some b=>
  have hl:=(x9 hb).1;dsimp only
  split
  ·exact set b _ hl rfl
  ·first
   |exact app _ hx
   |cases next with
    |none=>exact app _ hr
    |some n=>dsimp only;split<;>first|exact h|exact app _ hr
def LG{P:Ln->Prop}:∀{xs:List PU} {out:List PU} {prev:Option PU},(∀u∈out,P u.f)->(∀x∈xs,P x.f∧P (jK x.f x.i.f))->∀u∈uP prev out xs,P u.f
 |[],_,_,h,_=>h
 |x::xs,out,prev,h,hx=>LG (xs:=xs) (qbI h (hx x (List.mem_cons_self ..)).1 (hx x (List.mem_cons_self ..)).2) fun y hy=>hx y (List.mem_cons_of_mem _ hy)
def Pi{P:Ln->Prop}{l:List PU}(h:∀u∈l,P u.f∧P (jK u.f u.i.f)∧P (jK u.f u.i.t)):∀u∈qC l,P u.f:=by
 refine LG bI fun x hx=>?_
 obtain⟨u,hu,hxu⟩:=List.mem_flatMap.1 hx;have h1:=h u hu;unfold iT at hxu;rcases List.mem_append.1 hxu with e|e
 ·split at e
  ·simp at e
  ·rw[List.mem_singleton] at e;subst e;exact⟨h1.1,h1.2.1⟩
 ·split at e
  ·simp at e
  ·rcases List.mem_cons.1 e with e|e
   ·subst e;exact⟨h1.1,h1.2.1⟩
   ·split at e
    ·simp at e
    ·rw[List.mem_singleton] at e;subst e;exact⟨h1.1,h1.2.2⟩
def qbJ{out:List PU}{prev next:Option PU}{x:PU}:(kC out prev x next).length<=out.length+1:=by
 have set:∀b v:PU,out.getLast? =some b->(jk out v).length<=out.length+1:=fun b v hb=>by
  unfold jk;rw[List.length_append,List.length_dropLast];simp
 unfold kC;cases hi:eF x.i<;>cases hb:ug out x.i.f with
 |none=>
  dsimp only
  first
  |(simp;done)
  |cases next with
   |none=>simp
   |some n=>dsimp only;split<;>simp
 |some b=>
  have hl:=(x9 hb).1;dsimp only
  split
  ·exact set b _ hl
  ·first
   |(simp;done)
   |cases next with
    |none=>simp
    |some n=>dsimp only;split<;>simp
def LH:∀{xs:List PU} {out:List PU} {prev:Option PU},(uP prev out xs).length<=out.length+xs.length
 |[],_,_=>Nat.le_refl _
 |x::xs,out,prev=>by
  have:=LH (xs:=xs) (out:=kC out prev x xs.head?) (prev:=some x);have:=qbJ (out:=out) (prev:=prev) (next:=xs.head?) (x:=x);unfold uP;rw[List.length_cons];omega
def Ci:∀{l:List PU},(aH l).length<=3*l.length
 |[]=>Nat.le_refl _
 |u::l=>by
  have h:(iT u).length<=3:=by
   unfold iT;rw[List.length_append]
   split<;>split<;>simp<;>split<;>simp
  have:=Ci (l:=l);have e:aH (u::l)=iT u++aH l:=rfl;rw[e,List.length_append,List.length_cons];omega
def Pj{l:List PU}:(qC l).length<=3*l.length:=by
 have:=LH (xs:=aH l) (out:=[]) (prev:=none);have:=Ci (l:=l);unfold qC;simp at*;omega
end Go.Via
namespace Go.Via
open Go
theorem FM{ρ:Rl->Int}{i:Iv}{k:Int}:memB ρ [i] k=(decide (aW ρ i.b<=k)&&decide (k<aW ρ i.e)):=by unfold memB;simp
theorem WY(i:Iv):NK i.b i.e=i:=by unfold NK Iv.b Iv.e;simp
def qeH{S:Rl->Prop}{ρ:Rl->Int}(T:fF S ρ){a b:Iv}(ha:S a.f∧S a.t)(hb:S b.f∧S b.t):gm (fun x y=>x&&y) [a] [b]=(dB a b).toList:=by
 have hA:jZ S [a]:=fun i hi=>by rw[List.mem_singleton] at hi;rw[hi];exact ha
 have hB:jZ S [b]:=fun i hi=>by rw[List.mem_singleton] at hi;rw[hi];exact hb
 obtain⟨s1,_⟩:=uO T (uq (ni hA hB));rw[Ed T rfl hA hB];have hin:=Lu T hA hB;have mb:=Ls T ha.1 hb.1;have me:=Lt T ha.2 hb.2;have hG:∀k,(memB ρ [a] k&&memB ρ [b] k)=(decide (aW ρ (fC a b).b<=k)&&decide (k<aW ρ (fC a b).e)):=fun k=>by
  rw[FM,FM,Bool.eq_iff_iff];simp only[Bool.and_eq_true,decide_eq_true_eq];rcases mb with⟨e1,_⟩|⟨e1,_⟩<;>rcases me with⟨e2,_⟩|⟨e2,_⟩<;>rw[e1,e2]<;>omega
 have hb1:(fC a b).b∈nY (eY (bW ([a]++[b]))):=by
  rcases mb with⟨e1,_⟩|⟨e1,_⟩<;>rw[e1]<;>refine hin _ ?_
  ·exact List.mem_append_left _ (fG.2 ⟨a,bI,.inl rfl⟩)
  ·exact List.mem_append_right _ (fG.2 ⟨b,bI,.inl rfl⟩)
 have hb2:(fC a b).e∈nY (eY (bW ([a]++[b]))):=by
  rcases me with⟨e1,_⟩|⟨e1,_⟩<;>rw[e1]<;>refine hin _ ?_
  ·exact List.mem_append_left _ (fG.2 ⟨a,bI,.inr rfl⟩)
  ·exact List.mem_append_right _ (fG.2 ⟨b,bI,.inr rfl⟩)
 have hok:=uM T (Ha ha hb).1 (Ha ha hb).2;unfold dB
 by_cases h:lF (fC a b)=true
 ·have hlt:=hok.1 h;rw[if_pos h];rw[qeF T (G:=fun k=>memB ρ [a] k&&memB ρ [b] k) (B:=[(fC a b).b,(fC a b).e]) (D:=[(fC a b).b,(fC a b).e]) ?_ ?_ (uf s1) ?_ ?_ fun c hc=>hc]
  ·unfold iE;rw[hG,decide_eq_true (Int.le_refl _),decide_eq_true hlt];unfold iE;rw[hG,decide_eq_false (show¬aW ρ (fC a b).e<aW ρ (fC a b).e by omega),Bool.and_false];simp[iE,WY]
  ·intro k1 k2 hk hn;have n1:=hn _ (List.mem_cons_self ..);have n2:=hn (fC a b).e bI;rw[hG,hG,Bool.eq_iff_iff];simp only[Bool.and_eq_true,decide_eq_true_eq];omega
  ·intro k hk;have n1:=hk _ (List.mem_cons_self ..);rw[hG,decide_eq_false ae,Bool.false_and]
  ·exact List.pairwise_cons.2 ⟨fun c hc=>by rw[List.mem_singleton] at hc;rw[hc];exact hlt,List.pairwise_singleton ..⟩
  ·intro c hc;rcases List.mem_cons.1 hc with e|e
   ·rw[e];exact hb1
   ·rw[List.mem_singleton] at e;rw[e];exact hb2
 ·have hle:¬aW ρ (fC a b).b<aW ρ (fC a b).e:=fun hh=>h (hok.2 hh)
  rw[if_neg h];have hF:∀k,(memB ρ [a] k&&memB ρ [b] k)=false:=fun k=>by
   rw[hG];cases h1:decide (aW ρ (fC a b).b<=k)
   ·rfl
   ·have:=of_decide_eq_true h1;rw[decide_eq_false ae];rfl
  have:∀C:List qB,iE (fun c=>memB ρ [a] (aW ρ c)&&memB ρ [b] (aW ρ c)) none C=[]:=fun C=>by
   induction C with
   |nil=>rfl
   |cons c C ih=>unfold iE;rw[hF,if_neg ax,ih]
  rw[this];rfl
def d2(f g:Ln):Qd:=⟨(f.x0-g.x0)*(f.x0-g.x0)+(f.y0-g.y0)*(f.y0-g.y0),2*((f.x0-g.x0)*(f.x1-g.x1)+(f.y0-g.y0)*(f.y1-g.y1)),(f.x1-g.x1)*(f.x1-g.x1)+(f.y1-g.y1)*(f.y1-g.y1)⟩
theorem qjc(f g:Ln):d2 f g=d2 g f:=by unfold d2;congr 1<;>grind
def Pm(f g:Ln)(t:Rat):0<=uI (d2 f g) t:=by
 have h1:=qon ((f.x0-g.x0)+(f.x1-g.x1)*t);have h2:=qon ((f.y0-g.y0)+(f.y1-g.y1)*t);have e:uI (d2 f g) t=((f.x0-g.x0)+(f.x1-g.x1)*t)*((f.x0-g.x0)+(f.x1-g.x1)*t)+((f.y0-g.y0)+(f.y1-g.y1)*t)*((f.y0-g.y0)+(f.y1-g.y1)*t):=by
  unfold uI d2;grind
 rw[e];grind
structure ny where
 i:Iv
 a:Rl
 b:Rl
deriving DecidableEq
def aC(x:Iv×Qd):ny:=⟨x.1,O8 x.2 x.1.f,O8 x.2 x.1.t⟩
def rZ(x y:PU):Option (Iv×Qd):=(dB x.i y.i).map fun m=>(m,d2 x.f y.f)
def aj(a b:List PU):List (Iv×Qd):=iw rZ (fun x y=>Pg x.i y.i) a b
def UY{S:Rl->Prop}{ρ:Rl->Int}(T:fF S ρ){x y:PU}(hx:S x.i.f∧S x.i.t)(hy:S y.i.f∧S y.i.t)(h:aW ρ x.i.e<=aW ρ y.i.b∨aW ρ y.i.e<=aW ρ x.i.b)(ox:aW ρ x.i.b<aW ρ x.i.e)(oy:aW ρ y.i.b<aW ρ y.i.e):rZ x y=none:=by
 unfold rZ;rw[qbG T hx hy h ox oy];rfl
theorem ku{S:Rl->Prop}{ρ:Rl->Int}(T:fF S ρ){a b:List PU}(sa:pV ρ a)(sb:pV ρ b)(ea:Ends S a)(eb:Ends S b):aj a b=flatK rZ a b:=by
 unfold aj;refine G9 (fa:=fun x=>aW ρ x.i.b) (la:=fun x=>aW ρ x.i.e) (fb:=fun x=>aW ρ x.i.b) (lb:=fun x=>aW ρ x.i.e) (fun x hx y hy=>⟨qbF T (ea x hx).2 (eb y hy).2,fun h=>?_,fun h=>?_⟩) sa.1 sb.1
 ·exact UY T (ea x hx) (eb y hy) (.inl h) (sa.2 x hx) (sb.2 y hy)
 ·exact UY T (ea x hx) (eb y hy) (.inr h) (sa.2 x hx) (sb.2 y hy)
def uQ{S:Rl->Prop}{ρ:Rl->Int}(T:fF S ρ){x y:PU}{z:Iv×Qd}(hx:S x.i.f∧S x.i.t)(hy:S y.i.f∧S y.i.t)(h:rZ x y=some z):
 z.1=fC x.i y.i∧z.2=d2 x.f y.f∧S z.1.f∧S z.1.t∧aW ρ z.1.b<aW ρ z.1.e∧aW ρ x.i.b<=aW ρ z.1.b∧aW ρ y.i.b<=aW ρ z.1.b∧aW ρ z.1.e<=aW ρ x.i.e∧aW ρ z.1.e<=aW ρ y.i.e:=by
 unfold rZ dB at h
 by_cases hk:lF (fC x.i y.i)=true
 ·rw[if_pos hk] at h
  injection h with h
  subst h;have hS:=Ha hx hy;have hlt:=(uM T hS.1 hS.2).1 hk;refine⟨rfl,rfl,hS.1,hS.2,hlt,?_⟩;dsimp only;rcases Ls T hx.1 hy.1 with⟨e1,_⟩|⟨e1,_⟩<;>rcases Lt T hx.2 hy.2 with⟨e2,_⟩|⟨e2,_⟩<;>rw[e1,e2]<;>omega
 ·rw[if_neg hk] at h;cases h
def uS{S:Rl->Prop}{ρ:Rl->Int}(T:fF S ρ){b:List PU}(sb:pV ρ b)(eb:Ends S b):∀{a:List PU},pV ρ a->Ends S a->
 (flatK rZ a b).Pairwise (fun p q=>aW ρ p.1.e<=aW ρ q.1.b)∧∀z∈flatK rZ a b,∃x∈a,∃y∈b,rZ x y=some z
 |[],_,_=>⟨List.Pairwise.nil,by simp[flatK]⟩
 |x::a,sa,ea=>by
  obtain⟨p1,p2⟩:=List.pairwise_cons.1 sa.1;have hx:=ea x (List.mem_cons_self ..);obtain⟨i1,i2⟩:=uS T sb eb (a:=a) ⟨p2,fun y hy=>sa.2 y (List.mem_cons_of_mem _ hy)⟩ fun y hy=>ea y (List.mem_cons_of_mem _ hy)
  have e:flatK rZ (x::a) b=b.filterMap (rZ x)++flatK rZ a b:=(by unfold flatK;rw[List.flatMap_cons]);rw[e];have row:∀{c:List PU},c.Pairwise (fun x y=>aW ρ x.i.e<=aW ρ y.i.b)->Ends S c->(c.filterMap (rZ x)).Pairwise (fun p q=>aW ρ p.1.e<=aW ρ q.1.b):=fun {c} hc hE=>by
   refine(List.pairwise_filterMap).2 (hc.imp_of_mem fun {u v} hu hv huv p hp q hq=>?_);have hp':=uQ T hx (hE u hu) hp;have hq':=uQ T hx (hE v hv) hq;omega
  refine⟨List.pairwise_append.2 ⟨row sb.1 eb,i1,fun p hp q hq=>?_⟩,fun z hz=>?_⟩
  ·obtain⟨y,hy,hpy⟩:=List.mem_filterMap.1 hp;obtain⟨x',hx',y',hy',hq'⟩:=i2 q hq;have h1:=uQ T hx (eb y hy) hpy;have h2:=uQ T (ea x' (List.mem_cons_of_mem _ hx')) (eb y' hy') hq';have:=p1 x' hx';omega
  ·rcases List.mem_append.1 hz with h|h
   ·obtain⟨y,hy,hpy⟩:=List.mem_filterMap.1 h;exact⟨x,List.mem_cons_self ..,y,hy,hpy⟩
   ·obtain⟨x',hx',y',hy',hq'⟩:=i2 z h;exact⟨x',List.mem_cons_of_mem _ hx',y',hy',hq'⟩
end Go.Via
