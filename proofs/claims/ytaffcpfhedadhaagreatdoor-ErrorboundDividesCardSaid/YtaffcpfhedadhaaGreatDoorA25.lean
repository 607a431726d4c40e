/-
  Part 25 (chapter 32): lemmas, walks. Each theorem states its own conditions.
-/
import GoSem.Core.World
import Derived.MapKept
import Derived.WalkKit
import Derived.WalkSpells
import Derived.WalkLawsBesides
import Derived.Deep.LoopGhost
import Derived.Deep.AppendSrc
import Derived.Laws.BytesArg
import Derived.Laws.CopyRow
import Derived.Laws.AppendOwn
import Derived.Deep.Upon
import Derived.Test.YtaffcpfhedadhaaGreatDoorProg
import Derived.Shelf.Strings.Builder1
import Derived.Shelf.Strings.Builder2
import Derived.Shelf.Small.Utf8
import Derived.Shelf.Small.Bits
import Derived.Shelf.Small.Strs
import Derived.Shelf.Small.Wraps
import Derived.Shelf.Strings.BuilderF
import Derived.Shelf.Strconv.Itoa0
import Derived.Shelf.Strings.Search1
import Derived.Shelf.Strings.Prefix
import Derived.Shelf.Strings.Runes
import Derived.Shelf.Strings.AsciiSet
import Derived.Shelf.Bits.Mul64
import Derived.Shelf.Strings.Repeat
import Derived.Shelf.Unicode.DecodeSlow
import Derived.Laws.Externs
import Derived.Lib.ItoaNum
import Derived.Test.YtaffcpfhedadhaaGreatDoorA21
set_option linter.all false
set_option maxRecDepth 20000
set_option maxHeartbeats 20000000
section
variable{P Q:Prop}{T:Type}{R:T->Prop}
def MB(h:P:=by dsimp only;omega):=h
end
namespace Go.Via
open Go
section
variable{A B C:Type}
def gZ(mt:A->B->Option C)(ef:A->B->Bool):List A->List B->List C
 |[],_=>[]
 |_::_,[]=>[]
 |x::xs,y::ys=>(mt x y).toList++if ef x y=true then gZ mt ef xs (y::ys) else gZ mt ef (x::xs) ys
termination_by a b=>a.length+b.length
def flatK(mt:A->B->Option C)(a:List A)(b:List B):List C:=a.flatMap fun x=>b.filterMap (mt x)
theorem uY{f:B->Option C}:∀{l:List B},(∀y∈l,f y=none)->l.filterMap f=[]
 |[],_=>rfl
 |y::l,h=>by rw[List.filterMap_cons_none (h y (List.mem_cons_self ..)),uY fun z hz=>h z (List.mem_cons_of_mem _ hz)]
def IY{mt:A->B->Option C}{y:B}{ys:List B}:∀{a:List A},(∀x∈a,mt x y=none)->flatK mt a (y::ys)=flatK mt a ys
 |[],_=>rfl
 |x::a,h=>by
  unfold flatK;rw[List.flatMap_cons,List.flatMap_cons,List.filterMap_cons_none (h x (List.mem_cons_self ..))]
  congr 1
  exact IY fun z hz=>h z (List.mem_cons_of_mem _ hz)
theorem H6{mt:A->B->Option C}{ef:A->B->Bool}{fa la:A->Int}{fb lb:B->Int}:
 ∀{a:List A} {b:List B},(∀x∈a,∀y∈b,(ef x y=true↔la x<=lb y)∧(la x<=fb y->mt x y=none)∧(lb y<=fa x->mt x y=none))->a.Pairwise (fun x y=>la x<=fa y)->b.Pairwise (fun x y=>lb x<=fb y)->gZ mt ef a b=flatK mt a b
 |[],_,_,_,_=>by unfold gZ;rfl
 |x::xs,[],_,_,_=>by
  unfold gZ;have:∀a:List A,flatK mt a []=[]:=fun a=>by
   induction a with
   |nil=>rfl
   |cons z a ih=>unfold flatK at*;rw[List.flatMap_cons,ih];rfl
  exact(this _).symm
 |x::xs,y::ys,H,ha,hb=>by
  obtain⟨a1,a2⟩:=List.pairwise_cons.1 ha;obtain⟨b1,b2⟩:=List.pairwise_cons.1 hb;obtain⟨hef,_,_⟩:=H x (List.mem_cons_self ..) y (List.mem_cons_self ..);have hm1:∀z∈y::ys,la x<=fb z->mt x z=none:=fun z hz=>(H x (List.mem_cons_self ..) z hz).2.1
  have hm2:∀z∈x::xs,lb y<=fa z->mt z y=none:=fun z hz=>(H z hz y (List.mem_cons_self ..)).2.2
  unfold gZ
  by_cases h:ef x y=true
  ·have hl:=hef.1 h;rw[if_pos h,H6 (fun z hz w hw=>H z (List.mem_cons_of_mem _ hz) w hw) a2 hb];unfold flatK;rw[List.flatMap_cons]
   congr 1
   cases hm:mt x y
   ·rw[List.filterMap_cons_none hm,uY fun z hz=>hm1 z (List.mem_cons_of_mem _ hz) (by have:=b1 z hz;omega)];rfl
   ·rw[List.filterMap_cons_some hm,uY fun z hz=>hm1 z (List.mem_cons_of_mem _ hz) (by have:=b1 z hz;omega)];rfl
  ·have hl:lb y<la x:=Int.not_le.1 fun hh=>h (hef.2 hh)
   rw[if_neg h,H6 (fun z hz w hw=>H z hz w (List.mem_cons_of_mem _ hw)) ha b2];have hd:flatK mt xs (y::ys)=flatK mt xs ys:=IY fun z hz=>hm2 z (List.mem_cons_of_mem _ hz) (by have:=a1 z hz;omega)
   show _=(x::xs).flatMap _;rw[List.flatMap_cons];have e1:xs.flatMap (fun x=>(y::ys).filterMap (mt x))=xs.flatMap (fun x=>ys.filterMap (mt x)):=hd;rw[e1];have e2:flatK mt (x::xs) ys=ys.filterMap (mt x)++xs.flatMap (fun x=>ys.filterMap (mt x)):=by unfold flatK;rw[List.flatMap_cons]
   rw[e2];cases hm:mt x y
   ·rw[List.filterMap_cons_none hm];rfl
   ·rw[List.filterMap_cons_some hm];rfl
termination_by a b=>a.length+b.length
end
def sK(a b:Iv):Rl×Bool:=if aV a.f b.f<0 then(b.f,b.fo) else if aV a.f b.f=0 then(a.f,a.fo||b.fo) else(a.f,a.fo)
def uZ(a b:Iv):Rl×Bool:=if 0<aV a.t b.t then(b.t,b.tp) else if aV a.t b.t=0 then(a.t,a.tp||b.tp) else(a.t,a.tp)
def fD(a b:Iv):Iv:=⟨(sK a b).1,(uZ a b).1,(sK a b).2,(uZ a b).2⟩
def lD(i:Iv):Bool:=decide (aV i.f i.t<0)||decide (aV i.f i.t=0)&&(!i.fo&& !i.tp)
def iV(a b:Iv):Option Iv:=if lD (fD a b)=true then some (fD a b) else none
def PX(a b:Iv):Bool:=decide (aV a.t b.t<0)||decide (aV a.t b.t=0)&&(a.tp|| !b.tp)
def MC{S:Rl->Prop}{ρ:Rl->Int}(T:dZ S ρ){a b:Iv}(ha:S a.f)(hb:S b.f):(fD a b).b=a.b∧aK ρ b.b<=aK ρ a.b∨(fD a b).b=b.b∧aK ρ a.b<=aK ρ b.b:=by
 have h1:=T.lt ha hb;have h2:=T.zero ha hb;have h3:=T.gt ha hb;unfold fD sK Iv.b aK;dsimp only;rcases qV a.f b.f with h|h|h<;>rw[h] at h1 h2 h3 ⊢
 ·right
  have:=h1.1 ax;simp;split<;>split<;>omega
 ·have e:=h2.1 rfl;have e':=T.inj ha hb e;simp;rw[e'];cases a.fo<;>cases b.fo<;>simp<;>omega
 ·left
  have:=h3.1 ax;simp;split<;>split<;>omega
def MF{S:Rl->Prop}{ρ:Rl->Int}(T:dZ S ρ){a b:Iv}(ha:S a.t)(hb:S b.t):(fD a b).e=a.e∧aK ρ a.e<=aK ρ b.e∨(fD a b).e=b.e∧aK ρ b.e<=aK ρ a.e:=by
 have h1:=T.lt ha hb;have h2:=T.zero ha hb;have h3:=T.gt ha hb;unfold fD uZ Iv.e aK;dsimp only;rcases qV a.t b.t with h|h|h<;>rw[h] at h1 h2 h3 ⊢
 ·left
  have:=h1.1 ax;simp;split<;>split<;>omega
 ·have e:=h2.1 rfl;have e':=T.inj ha hb e;simp;rw[e'];cases a.tp<;>cases b.tp<;>simp<;>omega
 ·right
  have:=h3.1 ax;simp;split<;>split<;>omega
theorem sO{S:Rl->Prop}{ρ:Rl->Int}(T:dZ S ρ){i:Iv}(hf:S i.f)(ht:S i.t):lD i=true↔aK ρ i.b<aK ρ i.e:=by
 have h1:=T.lt hf ht;have h2:=T.zero hf ht;unfold lD aK Iv.b Iv.e;simp only[Bool.or_eq_true,Bool.and_eq_true,decide_eq_true_eq,h1,h2];cases i.fo<;>cases i.tp<;>simp<;>omega
def qcg{S:Rl->Prop}{ρ:Rl->Int}(T:dZ S ρ){a b:Iv}(ha:S a.t)(hb:S b.t):PX a b=true↔aK ρ a.e<=aK ρ b.e:=by
 have h1:=T.lt ha hb;have h2:=T.zero ha hb;unfold PX aK Iv.e;simp only[Bool.or_eq_true,Bool.and_eq_true,decide_eq_true_eq,h1,h2];cases a.tp<;>cases b.tp<;>simp<;>omega
def Eo{S:Rl->Prop}{a b:Iv}(ha:S a.f∧S a.t)(hb:S b.f∧S b.t):S (fD a b).f∧S (fD a b).t:=by
 unfold fD sK uZ;dsimp only
 constructor
 ·split
  ·exact hb.1
  ·split<;>exact ha.1
 ·split
  ·exact hb.2
  ·split<;>exact ha.2
theorem qch{S:Rl->Prop}{ρ:Rl->Int}(T:dZ S ρ){a b:Iv}(ha:S a.f∧S a.t)(hb:S b.f∧S b.t)(h:aK ρ a.e<=aK ρ b.b∨aK ρ b.e<=aK ρ a.b)(oa:aK ρ a.b<aK ρ a.e)(ob:aK ρ b.b<aK ρ b.e):iV a b=none:=by
 unfold iV;refine if_neg fun hk=>?_
 have hk:=(sO T (Eo ha hb).1 (Eo ha hb).2).1 hk;rcases MC T ha.1 hb.1 with⟨e1,_⟩|⟨e1,_⟩<;>rcases MF T ha.2 hb.2 with⟨e2,_⟩|⟨e2,_⟩<;>rw[e1,e2] at hk<;>omega
end Go.Via
namespace Go.Via
open Go
def sQ(x:Rl):List Rl->List Rl
 |[]=>[x]
 |y::ys=>if aV y x<0 then y::sQ x ys else if aV y x=0 then y::ys else x::y::ys
def fB(l:List Rl):List Rl:=l.foldl (fun o x=>sQ x o) []
theorem F8{S:Rl->Prop}{ρ:Rl->Int}(T:dZ S ρ){x:Rl}(hx:S x):∀{l:List Rl},(∀y∈l,S y)->∀z,z∈sQ x l↔z=x∨z∈l
 |[],_,z=>by unfold sQ;simp
 |y::ys,h,z=>by
  have hy:=h y (List.mem_cons_self ..);have ih:=F8 T hx (l:=ys) (fun w hw=>h w (List.mem_cons_of_mem _ hw)) z;unfold sQ
  split
  ·rw[List.mem_cons,ih,List.mem_cons]
   constructor
   ·rintro(h|h|h);exact .inr (.inl h);exact .inl h;exact .inr (.inr h)
   ·rintro(h|h|h);exact .inr (.inl h);exact .inl h;exact .inr (.inr h)
  ·split
   ·rename_i h2
    have e:y=x:=T.inj hy hx ((T.zero hy hx).1 h2)
    constructor
    ·exact .inr
    ·rintro(h|h)
     ·rw[h,<-e];exact List.mem_cons_self ..
     ·exact h
   ·rw[List.mem_cons]
def IZ{S:Rl->Prop}{ρ:Rl->Int}(T:dZ S ρ){x:Rl}(hx:S x):∀{l:List Rl},(∀y∈l,S y)->l.Pairwise (fun a b=>ρ a<ρ b)->(sQ x l).Pairwise (fun a b=>ρ a<ρ b)
 |[],_,_=>List.pairwise_singleton ..
 |y::ys,h,hs=>by
  obtain⟨s1,s2⟩:=List.pairwise_cons.1 hs;have hy:=h y (List.mem_cons_self ..);have h':∀w∈ys,S w:=fun w hw=>h w (List.mem_cons_of_mem _ hw)
  have l1:=T.lt hy hx;have l2:=T.zero hy hx;unfold sQ
  split
  ·rename_i hc
   refine List.pairwise_cons.2 ⟨fun z hz=>?_,IZ T hx h' s2⟩;rcases(F8 T hx h' z).1 hz with e|e
   ·rw[e];exact l1.1 hc
   ·exact s1 z e
  ·split
   ·exact hs
   ·have:ρ x<ρ y:=by
     have a1:¬ρ y<ρ x:=fun e=>absurd (l1.2 e) (by assumption)
     have a2:¬ρ y=ρ x:=fun e=>absurd (l2.2 e) (by assumption)
     omega
    refine List.pairwise_cons.2 ⟨fun z hz=>?_,hs⟩;rcases List.mem_cons.1 hz with e|e
    ·rw[e];exact this
    ·have:=s1 z e;omega
def oM{S:Rl->Prop}{ρ:Rl->Int}(T:dZ S ρ){l:List Rl}(h:∀y∈l,S y):(fB l).Pairwise (fun a b=>ρ a<ρ b)∧∀z,z∈fB l↔z∈l:=by
 have gen:∀(l o:List Rl),(∀y∈l,S y)->(∀y∈o,S y)->o.Pairwise (fun a b=>ρ a<ρ b)->(l.foldl (fun o x=>sQ x o) o).Pairwise (fun a b=>ρ a<ρ b)∧∀z,z∈l.foldl (fun o x=>sQ x o) o↔z∈l∨z∈o:=by
  intro l
  induction l with
  |nil=>intro o _ _ hs;exact⟨hs,fun z=>bz⟩
  |cons x l ih=>
   intro o hl ho hs;have hx:=hl x (List.mem_cons_self ..);obtain⟨i1,i2⟩:=ih (sQ x o) (fun y hy=>hl y (List.mem_cons_of_mem _ hy)) (fun y hy=>by
 rcases(F8 T hx ho y).1 hy with e|e
 ·rw[e];exact hx
 ·exact ho y e) (IZ T hx ho hs)
   refine⟨i1,fun z=>?_⟩
   rw[List.foldl_cons,i2,F8 T hx ho,List.mem_cons]
   constructor
   ·rintro(h|h|h);exact .inl (.inr h);exact .inl (.inl h);exact .inr h
   ·rintro((h|h)|h);exact .inr (.inl h);exact .inl h;exact .inr (.inr h)
 obtain⟨a,b⟩:=gen l [] h bz List.Pairwise.nil;exact⟨a,fun z=>by rw[show z∈fB l↔_ from b z];simp⟩
def jV(op:Bool->Bool->Bool)(a b:List Iv):List Iv:=(PN (fun t=>op (nT a t) (nT b t)) (fun t u=>op (nU a t u) (nU b t u)) none (fB (cu (a++b)))).map fun p=>Oj p.1 p.2
theorem wS{a b:List Iv}:cu (a++b)=cu a++cu b:=by unfold cu;rw[List.flatMap_append]
theorem VA{S:Rl->Prop}{ρ:Rl->Int}(T:dZ S ρ){G:Int->Bool}{B C D:List pU}(HG:∀k1 k2,k1<=k2->(∀b∈B,¬(k1<aK ρ b∧aK ρ b<=k2))->G k1=G k2)(H0:∀k,(∀b∈B,k<aK ρ b)->G k=false)
 (hC:C.Pairwise (fun a b=>aK ρ a<aK ρ b))(hD:D.Pairwise (fun a b=>aK ρ a<aK ρ b))(bC:∀b∈B,b∈C)(bD:∀b∈B,b∈D):gX (fun c=>G (aK ρ c)) none C=gX (fun c=>G (aK ρ c)) none D:=by
 have low:∀C:List pU,∃lo:Int,∀c∈C,lo<aK ρ c:=fun C=>by
  induction C with
  |nil=>exact⟨0,fun c hc=>absurd hc bz⟩
  |cons c C ih=>
   obtain⟨lo,h⟩:=ih;refine⟨min lo (aK ρ c-1),fun x hx=>?_⟩
   rcases List.mem_cons.1 hx with e|e
   ·subst e;omega
   ·have:=h x e;omega
 have one:∀C:List pU,C.Pairwise (fun a b=>aK ρ a<aK ρ b)->(∀b∈B,b∈C)->gX (fun c=>G (aK ρ c)) none C=gX (fun c=>G (aK ρ c)) none (C.filter fun c=>decide (c∈B)):=fun C hC bC=>by
  obtain⟨lo,hlo⟩:=low C;have hchk:=XC (ρ:=ρ) (G:=G) (p:=fun c=>decide (c∈B)) (B:=B) (fun c=>by rw[decide_eq_true_eq]) HG (lo:=lo) hC hlo fun c hc=> .inr (bC c hc)
  rw[H0 lo fun b hb=>hlo b (bC b hb)] at hchk
  exact oW (st:=none) hchk
 rw[one C hC bC,one D hD bD]
 congr 1
 refine yL (κ:=aK ρ) (hC.filter _) (hD.filter _) fun c=>?_
 rw[List.mem_filter,List.mem_filter,decide_eq_true_eq]
 constructor
 ·rintro⟨_,h⟩;exact⟨bD c h,h⟩
 ·rintro⟨_,h⟩;exact⟨bC c h,h⟩
theorem o9{S:Rl->Prop}{l:List Iv}(h:iU S l):∀x∈cu l,S x:=fun x hx=>by
 obtain⟨i,hi,e⟩:=mY.1 hx;rcases e with e|e<;>subst e;exact(h i hi).1;exact(h i hi).2
theorem jW{S:Rl->Prop}{a b:List Iv}(ha:iU S a)(hb:iU S b):iU S (a++b):=fun i hi=>by
 rcases List.mem_append.1 hi with h|h;exact ha i h;exact hb i h
theorem ve{S:Rl->Prop}{ρ:Rl->Int}(T:dZ S ρ){op:Bool->Bool->Bool}(h0:op false false=false){a b:List Iv}(ha:iU S a)(hb:iU S b):
 jV op a b=(gX (fun c=>op (memB ρ a (aK ρ c)) (memB ρ b (aK ρ c))) none (nS (fB (cu (a++b))))).map fun p=>Oj p.1 p.2:=by
 obtain⟨h1,h2⟩:=oM T (o9 (jW ha hb));unfold jV;rw[FW (RF T h0 ha hb (pre:=[]) (fun t ht=>o9 (jW ha hb) t ((h2 t).1 ht)) h1 (fun x hx=> .inl ((h2 x).2 (by rw[wS];exact hx))) fun i hi=>(jW ha hb i hi).1)]
def zi{a b:List Iv}{S:Rl->Prop}{ρ:Rl->Int}(T:dZ S ρ)(ha:iU S a)(hb:iU S b):∀c∈bU a++bU b,c∈nS (fB (cu (a++b))):=fun c hc=>by
 obtain⟨_,h2⟩:=oM T (o9 (jW ha hb));refine qW.2 ((h2 _).2 ?_);rw[wS];rcases List.mem_append.1 hc with h|h
 ·obtain⟨i,hi,e⟩:=eY.1 h;refine List.mem_append_left _ (mY.2 ⟨i,hi,?_⟩);rcases e with e|e<;>subst e;exact .inl rfl;exact .inr rfl
 ·obtain⟨i,hi,e⟩:=eY.1 h;refine List.mem_append_right _ (mY.2 ⟨i,hi,?_⟩);rcases e with e|e<;>subst e;exact .inl rfl;exact .inr rfl
def qfi{S:Rl->Prop}{ρ:Rl->Int}(T:dZ S ρ){op op':Bool->Bool->Bool}(h0:op false false=false)(h0':op' false false=false){a b a' b':List Iv}(ha:iU S a)(hb:iU S b)(ha':iU S a')(hb':iU S b')
 (h:∀k,op (memB ρ a k) (memB ρ b k)=op' (memB ρ a' k) (memB ρ b' k)):jV op a b=jV op' a' b':=by
 obtain⟨s1,_⟩:=oM T (o9 (jW ha hb));obtain⟨s2,_⟩:=oM T (o9 (jW ha' hb'));rw[ve T h0 ha hb,ve T h0' ha' hb']
 congr 1
 have e:∀D,gX (fun c=>op' (memB ρ a' (aK ρ c)) (memB ρ b' (aK ρ c))) none D=gX (fun c=>op (memB ρ a (aK ρ c)) (memB ρ b (aK ρ c))) none D:=fun D=>mr fun c _=>(h _).symm
 rw[e];have HG:∀(B:List pU),(B=bU a++bU b)->(∀k1 k2,k1<=k2->(∀c∈B,¬(k1<aK ρ c∧aK ρ c<=k2))->op (memB ρ a k1) (memB ρ b k1)=op (memB ρ a k2) (memB ρ b k2)):=fun B hB k1 k2 hk hn=>by
  subst hB;rw[o7 hk fun c hc=>hn c (List.mem_append_left _ hc),o7 (l:=b) hk fun c hc=>hn c (List.mem_append_right _ hc)]
 have HG':∀(k1 k2:Int),k1<=k2->(∀c∈bU a'++bU b',¬(k1<aK ρ c∧aK ρ c<=k2))->op (memB ρ a k1) (memB ρ b k1)=op (memB ρ a k2) (memB ρ b k2):=fun k1 k2 hk hn=>by
  rw[h,h,o7 hk fun c hc=>hn c (List.mem_append_left _ hc),o7 (l:=b') hk fun c hc=>hn c (List.mem_append_right _ hc)]
 have sub:∀(B1 B2:List pU),(∀k1 k2:Int,k1<=k2->(∀c∈B1,¬(k1<aK ρ c∧aK ρ c<=k2))->op (memB ρ a k1) (memB ρ b k1)=op (memB ρ a k2) (memB ρ b k2))->(∀k1 k2:Int,k1<=k2->(∀c∈B2,¬(k1<aK ρ c∧aK ρ c<=k2))->op (memB ρ a k1) (memB ρ b k1)=op (memB ρ a k2) (memB ρ b k2))->
  ∀k1 k2:Int,k1<=k2->(∀c∈B1.filter (fun c=>decide (c∈B2)),¬(k1<aK ρ c∧aK ρ c<=k2))->(∀c∈B1,S c.1)->(∀c∈B2,S c.1)->op (memB ρ a k1) (memB ρ b k1)=op (memB ρ a k2) (memB ρ b k2):=by
  intro B1 B2 H1 H2 k1 k2 hk hn c1 c2
  obtain⟨n,hn'⟩:∃n:Nat,k2=k1+n:=⟨(k2-k1).toNat,ae⟩;subst hn'
  clear hk
  induction n with
  |zero=>simp
  |succ n ih=>
   rw[ih fun c hc hk=>hn c hc ⟨hk.1,ae⟩]
   by_cases e1:∃c∈B1,aK ρ c=k1+(n+1:Nat)
   ·by_cases e2:∃c∈B2,aK ρ c=k1+(n+1:Nat)
    ·obtain⟨c,hc,ec⟩:=e1;obtain⟨d,hd,ed⟩:=e2;have:c=d:=RD T (c1 c hc) (c2 d hd) ae;subst this;exact absurd ⟨ae,ae⟩ (hn c (List.mem_filter.2 ⟨hc,decide_eq_true hd⟩))
    ·exact H2 _ _ ae fun c hc hk=>e2 ⟨c,hc,ae⟩
   ·exact H1 _ _ ae fun c hc hk=>e1 ⟨c,hc,ae⟩
 have bS:∀l,iU S l->∀c∈bU l,S c.1:=fun l hl c hc=>by
  obtain⟨i,hi,e⟩:=eY.1 hc;rcases e with e|e<;>subst e;exact(hl i hi).1;exact(hl i hi).2
 have bS2:∀l m,iU S l->iU S m->∀c∈bU l++bU m,S c.1:=fun l m hl hm c hc=>by
  rcases List.mem_append.1 hc with h|h;exact bS l hl c h;exact bS m hm c h
 refine VA T (B:=(bU a++bU b).filter fun c=>decide (c∈bU a'++bU b')) (G:=fun k=>op (memB ρ a k) (memB ρ b k)) ?_ ?_ (nO s1) (nO s2) ?_ ?_
 ·intro k1 k2 hk hn;exact sub _ _ (HG _ rfl) HG' k1 k2 hk hn (bS2 _ _ ha hb) (bS2 _ _ ha' hb')
 ·intro k hk;obtain⟨lo,hlo⟩:∃lo:Int,lo<=k∧∀c∈bU a++bU b,lo<aK ρ c:=by
   generalize bU a++bU b=C
   induction C with
   |nil=>exact⟨k,Int.le_refl _,fun c hc=>absurd hc bz⟩
   |cons c C ih=>
    obtain⟨lo,h1,h2⟩:=ih;refine⟨min lo (aK ρ c-1),ae,fun x hx=>?_⟩
    rcases List.mem_cons.1 hx with e|e
    ·subst e;omega
    ·have:=h2 x e;omega
  have e0:op (memB ρ a lo) (memB ρ b lo)=false:=by
   rw[yz fun c hc=>hlo.2 c (List.mem_append_left _ hc),yz (l:=b) fun c hc=>hlo.2 c (List.mem_append_right _ hc),h0]
  have:=sub _ _ (HG _ rfl) HG' lo k hlo.1 (fun c hc hh=>by have:=hk c hc;omega) (bS2 _ _ ha hb) (bS2 _ _ ha' hb');exact this.symm.trans e0
 ·intro c hc;exact zi T ha hb c (List.mem_filter.1 hc).1
 ·intro c hc;exact zi T ha' hb' c (of_decide_eq_true (List.mem_filter.1 hc).2)
end Go.Via
namespace Go.Via
open Go
def VB(ρ:Rl->Int)(x:PU):Prop:=(x.i.f=x.i.t∧x.i.fo=false∧x.i.tp=false)∨(ρ x.i.f<ρ x.i.t∧x.i.fo=true∧x.i.tp=true)
def qfj{ρ:Rl->Int}{x:PU}(h:VB ρ x):aK ρ x.i.b<aK ρ x.i.e:=by
 unfold aK Iv.b Iv.e;rcases h with⟨h1,h2,h3⟩|⟨h1,h2,h3⟩
 ·rw[h1,h2,h3];simp;omega
 ·rw[h2,h3];simp;omega
def MG{S:Rl->Prop}{ρ:Rl->Int}(T:dZ S ρ):∀{xs:List PU} {out:List PU} {prev:Option PU} {lo:Int},ou ρ out->Ends S out->(∀u∈out,aK ρ u.i.e<=lo)->ou ρ xs->Ends S xs->(∀x∈xs,VB ρ x)->(∀x∈xs,lo<=aK ρ x.i.b)->
 ou ρ (uS prev out xs)∧Ends S (uS prev out xs)
 |[],_,_,_,h1,h2,_,_,_,_,_=>⟨h1,h2⟩
 |x::xs,out,prev,lo,h1,h2,h3,h4,h5,h6,h7=>by
  have hx:=h5 x (List.mem_cons_self ..);have hf:=h6 x (List.mem_cons_self ..);obtain⟨a,b,c⟩:=qcb T (prev:=prev) (next:=xs.head?) h1 h2 hx (qfj hf) h3 (h7 x (List.mem_cons_self ..)) hf;obtain⟨p1,p2⟩:=List.pairwise_cons.1 h4.1;unfold uS;exact MG T a b c ⟨p2,fun y hy=>h4.2 y (List.mem_cons_of_mem _ hy)⟩ (fun y hy=>h5 y (List.mem_cons_of_mem _ hy)) (fun y hy=>h6 y (List.mem_cons_of_mem _ hy)) fun y hy=>p1 y hy
def VC{S:Rl->Prop}{ρ:Rl->Int}(T:dZ S ρ){u:PU}(hu:S u.i.f∧S u.i.t)(h:aK ρ u.i.b<aK ρ u.i.e):
 ou ρ (iQ u)∧Ends S (iQ u)∧(∀x∈iQ u,VB ρ x)∧(∀x∈iQ u,aK ρ u.i.b<=aK ρ x.i.b∧aK ρ x.i.e<=aK ρ u.i.e):=by
 obtain⟨⟨f,t,fo,tp⟩,g⟩:=u;dsimp only at hu
 by_cases hi:f=t
 ·subst hi;have:fo=false∧tp=false:=by unfold aK Iv.b Iv.e at h;cases fo<;>cases tp<;>simp at h ⊢ <;>omega
  obtain⟨e1,e2⟩:=this;subst e1;subst e2;have e:iQ ⟨⟨f,f,false,false⟩,g⟩=[⟨⟨f,f,false,false⟩,g⟩]:=by simp[iQ,eF]
  rw[e];refine⟨⟨List.pairwise_singleton ..,fun x hx=>?_⟩,fun x hx=>?_,fun x hx=>?_,fun x hx=>?_⟩<;>rw[List.mem_singleton] at hx<;>subst hx
  ·exact h
  ·exact⟨hu.1,hu.1⟩
  ·exact .inl ⟨rfl,rfl,rfl⟩
  ·exact⟨Int.le_refl _,Int.le_refl _⟩
 ·have hne:ρ f≠ρ t:=fun e=>hi (T.inj hu.1 hu.2 e)
  have hlt:ρ f<ρ t:=by
   have k1:=nZ ρ (Iv.b ⟨f,t,fo,tp⟩);have k2:=nZ ρ (Iv.e ⟨f,t,fo,tp⟩);have e1:(Iv.b ⟨f,t,fo,tp⟩).1=f:=rfl;have e2:(Iv.e ⟨f,t,fo,tp⟩).1=t:=rfl;rw[e1] at k1;rw[e2] at k2;dsimp only at h;omega
  have e:iQ ⟨⟨f,t,fo,tp⟩,g⟩=(if fo=true then[] else[⟨⟨f,f,false,false⟩,g⟩])++(⟨⟨f,t,true,true⟩,g⟩::(if tp=true then[] else[⟨⟨t,t,false,false⟩,g⟩])):=(by simp[iQ,eF,hi]);rw[e]
  have F1:∀x:Rl,aK ρ (x,true)=2*ρ x+1:=fun x=>by unfold aK;simp
  have F0:∀x:Rl,aK ρ (x,false)=2*ρ x:=fun x=>by unfold aK;simp
  cases fo<;>cases tp<;>simp[ou,Ends,VB,Iv.b,Iv.e,F1,F0,hu,hlt]<;>omega
def MH{S:Rl->Prop}{ρ:Rl->Int}(T:dZ S ρ):∀{l:List PU},ou ρ l->Ends S l->ou ρ (aF l)∧Ends S (aF l)∧(∀x∈aF l,VB ρ x)∧∀x∈aF l,∃u∈l,aK ρ u.i.b<=aK ρ x.i.b∧aK ρ x.i.e<=aK ρ u.i.e
 |[],_,_=>⟨⟨List.Pairwise.nil,by simp[aF]⟩,by simp[aF,Ends],by simp[aF],by simp[aF]⟩
 |u::l,h,he=>by
  obtain⟨p1,p2⟩:=List.pairwise_cons.1 h.1;obtain⟨a1,a2,a3,a4⟩:=VC T (he u (List.mem_cons_self ..)) (h.2 u (List.mem_cons_self ..));obtain⟨b1,b2,b3,b4⟩:=MH T (l:=l) ⟨p2,fun y hy=>h.2 y (List.mem_cons_of_mem _ hy)⟩ fun y hy=>he y (List.mem_cons_of_mem _ hy)
  have e:aF (u::l)=iQ u++aF l:=rfl;rw[e];refine⟨⟨List.pairwise_append.2 ⟨a1.1,b1.1,fun x hx y hy=>?_⟩,fun x hx=>?_⟩,fun x hx=>?_,fun x hx=>?_,fun x hx=>?_⟩
  ·obtain⟨v,hv,h1,h2⟩:=b4 y hy;have:=(a4 x hx).2;have:=p1 v hv;omega
  ·rcases List.mem_append.1 hx with h|h;exact a1.2 x h;exact b1.2 x h
  ·rcases List.mem_append.1 hx with h|h;exact a2 x h;exact b2 x h
  ·rcases List.mem_append.1 hx with h|h;exact a3 x h;exact b3 x h
  ·rcases List.mem_append.1 hx with h|h
   ·exact⟨u,List.mem_cons_self ..,a4 x h⟩
   ·obtain⟨v,hv,h1⟩:=b4 x h;exact⟨v,List.mem_cons_of_mem _ hv,h1⟩
def PY{S:Rl->Prop}{ρ:Rl->Int}(T:dZ S ρ){l:List PU}(h:ou ρ l)(he:Ends S l):ou ρ (qJ l)∧Ends S (qJ l):=by
 obtain⟨b1,b2,b3,_⟩:=MH T h he;obtain⟨lo,hlo⟩:∃lo:Int,∀x∈aF l,lo<=aK ρ x.i.b:=by
  generalize aF l=C
  induction C with
  |nil=>exact⟨0,fun c hc=>absurd hc bz⟩
  |cons c C ih=>
   obtain⟨lo,h⟩:=ih;refine⟨min lo (aK ρ c.i.b),fun x hx=>?_⟩
   rcases List.mem_cons.1 hx with e|e
   ·subst e;omega
   ·have:=h x e;omega
 exact MG T ⟨List.Pairwise.nil,bz⟩ (by simp[Ends]) bz b1 b2 b3 hlo
def qci{P:Ln->Prop}{out:List PU}{prev next:Option PU}{x:PU}(h:∀u∈out,P u.f)(hx:P x.f)(hr:P (jJ x.f x.i.f)):∀u∈kC out prev x next,P u.f:=by
 have app:∀v:PU,P v.f->∀u∈out++[v],P u.f:=fun v hv u hu=>by
  rcases List.mem_append.1 hu with e|e
  ·exact h u e
  ·rw[List.mem_singleton] at e;rw[e];exact hv
 have set:∀b v:PU,out.getLast? =some b->v.f=b.f->∀u∈jb out v,P u.f:=fun b v hb hv u hu=>by
  have hs:=pW hb;rcases List.mem_append.1 hu with e|e
  ·exact h u (by rw[hs];exact List.mem_append_left _ e)
  ·rw[List.mem_singleton] at e;rw[e,hv];exact h b (by rw[hs];simp)
 unfold kC;cases hi:eF x.i<;>cases hb:uq out x.i.f with
 |none=>
  dsimp only
  first
  |exact app _ hx
  |cases next with
   |none=>exact app _ hr
   |some n=>dsimp only;split<;>first|exact h|exact app _ hr
 |some b=>
  have hl:=(yB hb).1;dsimp only
  split
  ·exact set b _ hl rfl
  ·first
   |exact app _ hx
   |cases next with
    |none=>exact app _ hr
    |some n=>dsimp only;split<;>first|exact h|exact app _ hr
def MI{P:Ln->Prop}:∀{xs:List PU} {out:List PU} {prev:Option PU},(∀u∈out,P u.f)->(∀x∈xs,P x.f∧P (jJ x.f x.i.f))->∀u∈uS prev out xs,P u.f
 |[],_,_,h,_=>h
 |x::xs,out,prev,h,hx=>MI (xs:=xs) (qci h (hx x (List.mem_cons_self ..)).1 (hx x (List.mem_cons_self ..)).2) fun y hy=>hx y (List.mem_cons_of_mem _ hy)
def PZ{P:Ln->Prop}{l:List PU}(h:∀u∈l,P u.f∧P (jJ u.f u.i.f)∧P (jJ u.f u.i.t)):∀u∈qJ l,P u.f:=by
 refine MI bz fun x hx=>?_
 obtain⟨u,hu,hxu⟩:=List.mem_flatMap.1 hx;have h1:=h u hu;unfold iQ at hxu;rcases List.mem_append.1 hxu with e|e
 ·split at e
  ·simp at e
  ·rw[List.mem_singleton] at e;subst e;exact⟨h1.1,h1.2.1⟩
 ·split at e
  ·simp at e
  ·rcases List.mem_cons.1 e with e|e
   ·subst e;exact⟨h1.1,h1.2.1⟩
   ·split at e
    ·simp at e
    ·rw[List.mem_singleton] at e;subst e;exact⟨h1.1,h1.2.2⟩
def qcj{out:List PU}{prev next:Option PU}{x:PU}:(kC out prev x next).length<=out.length+1:=by
 have set:∀b v:PU,out.getLast? =some b->(jb out v).length<=out.length+1:=fun b v hb=>by
  unfold jb;rw[List.length_append,List.length_dropLast];simp
 unfold kC;cases hi:eF x.i<;>cases hb:uq out x.i.f with
 |none=>
  dsimp only
  first
  |(simp;done)
  |cases next with
   |none=>simp
   |some n=>dsimp only;split<;>simp
 |some b=>
  have hl:=(yB hb).1;dsimp only
  split
  ·exact set b _ hl
  ·first
   |(simp;done)
   |cases next with
    |none=>simp
    |some n=>dsimp only;split<;>simp
def MJ:∀{xs:List PU} {out:List PU} {prev:Option PU},(uS prev out xs).length<=out.length+xs.length
 |[],_,_=>Nat.le_refl _
 |x::xs,out,prev=>by
  have:=MJ (xs:=xs) (out:=kC out prev x xs.head?) (prev:=some x);have:=qcj (out:=out) (prev:=prev) (next:=xs.head?) (x:=x);unfold uS;rw[List.length_cons];omega
def CG:∀{l:List PU},(aF l).length<=3*l.length
 |[]=>Nat.le_refl _
 |u::l=>by
  have h:(iQ u).length<=3:=by
   unfold iQ;rw[List.length_append]
   split<;>split<;>simp<;>split<;>simp
  have:=CG (l:=l);have e:aF (u::l)=iQ u++aF l:=rfl;rw[e,List.length_append,List.length_cons];omega
def P5{l:List PU}:(qJ l).length<=3*l.length:=by
 have:=MJ (xs:=aF l) (out:=[]) (prev:=none);have:=CG (l:=l);unfold qJ;simp at*;omega
end Go.Via
namespace Go.Via
open Go
theorem F9{ρ:Rl->Int}{i:Iv}{k:Int}:memB ρ [i] k=(decide (aK ρ i.b<=k)&&decide (k<aK ρ i.e)):=by unfold memB;simp
theorem XN(i:Iv):Oj i.b i.e=i:=by unfold Oj Iv.b Iv.e;simp
def qfk{S:Rl->Prop}{ρ:Rl->Int}(T:dZ S ρ){a b:Iv}(ha:S a.f∧S a.t)(hb:S b.f∧S b.t):jV (fun x y=>x&&y) [a] [b]=(iV a b).toList:=by
 have hA:iU S [a]:=fun i hi=>by rw[List.mem_singleton] at hi;rw[hi];exact ha
 have hB:iU S [b]:=fun i hi=>by rw[List.mem_singleton] at hi;rw[hi];exact hb
 obtain⟨s1,_⟩:=oM T (o9 (jW hA hB));rw[ve T rfl hA hB];have hin:=zi T hA hB;have mb:=MC T ha.1 hb.1;have me:=MF T ha.2 hb.2;have hG:∀k,(memB ρ [a] k&&memB ρ [b] k)=(decide (aK ρ (fD a b).b<=k)&&decide (k<aK ρ (fD a b).e)):=fun k=>by
  rw[F9,F9,Bool.eq_iff_iff];simp only[Bool.and_eq_true,decide_eq_true_eq];rcases mb with⟨e1,_⟩|⟨e1,_⟩<;>rcases me with⟨e2,_⟩|⟨e2,_⟩<;>rw[e1,e2]<;>omega
 have hb1:(fD a b).b∈nS (fB (cu ([a]++[b]))):=by
  rcases mb with⟨e1,_⟩|⟨e1,_⟩<;>rw[e1]<;>refine hin _ ?_
  ·exact List.mem_append_left _ (eY.2 ⟨a,bz,.inl rfl⟩)
  ·exact List.mem_append_right _ (eY.2 ⟨b,bz,.inl rfl⟩)
 have hb2:(fD a b).e∈nS (fB (cu ([a]++[b]))):=by
  rcases me with⟨e1,_⟩|⟨e1,_⟩<;>rw[e1]<;>refine hin _ ?_
  ·exact List.mem_append_left _ (eY.2 ⟨a,bz,.inr rfl⟩)
  ·exact List.mem_append_right _ (eY.2 ⟨b,bz,.inr rfl⟩)
 have hok:=sO T (Eo ha hb).1 (Eo ha hb).2;unfold iV
 by_cases h:lD (fD a b)=true
 ·have hlt:=hok.1 h;rw[if_pos h];rw[VA T (G:=fun k=>memB ρ [a] k&&memB ρ [b] k) (B:=[(fD a b).b,(fD a b).e]) (D:=[(fD a b).b,(fD a b).e]) ?_ ?_ (nO s1) ?_ ?_ fun c hc=>hc]
  ·unfold gX;rw[hG,decide_eq_true (Int.le_refl _),decide_eq_true hlt];unfold gX;rw[hG,decide_eq_false (show¬aK ρ (fD a b).e<aK ρ (fD a b).e by omega),Bool.and_false];simp[gX,XN]
  ·intro k1 k2 hk hn;have n1:=hn _ (List.mem_cons_self ..);have n2:=hn (fD a b).e bz;rw[hG,hG,Bool.eq_iff_iff];simp only[Bool.and_eq_true,decide_eq_true_eq];omega
  ·intro k hk;have n1:=hk _ (List.mem_cons_self ..);rw[hG,decide_eq_false ae,Bool.false_and]
  ·exact List.pairwise_cons.2 ⟨fun c hc=>by rw[List.mem_singleton] at hc;rw[hc];exact hlt,List.pairwise_singleton ..⟩
  ·intro c hc;rcases List.mem_cons.1 hc with e|e
   ·rw[e];exact hb1
   ·rw[List.mem_singleton] at e;rw[e];exact hb2
 ·have hle:¬aK ρ (fD a b).b<aK ρ (fD a b).e:=fun hh=>h (hok.2 hh)
  rw[if_neg h];have hF:∀k,(memB ρ [a] k&&memB ρ [b] k)=false:=fun k=>by
   rw[hG];cases h1:decide (aK ρ (fD a b).b<=k)
   ·rfl
   ·have:=of_decide_eq_true h1;rw[decide_eq_false ae];rfl
  have:∀C:List pU,gX (fun c=>memB ρ [a] (aK ρ c)&&memB ρ [b] (aK ρ c)) none C=[]:=fun C=>by
   induction C with
   |nil=>rfl
   |cons c C ih=>unfold gX;rw[hF,if_neg ax,ih]
  rw[this];rfl
def d2(f g:Ln):Qd:=⟨(f.x0-g.x0)*(f.x0-g.x0)+(f.y0-g.y0)*(f.y0-g.y0),2*((f.x0-g.x0)*(f.x1-g.x1)+(f.y0-g.y0)*(f.y1-g.y1)),(f.x1-g.x1)*(f.x1-g.x1)+(f.y1-g.y1)*(f.y1-g.y1)⟩
theorem qjI(f g:Ln):d2 f g=d2 g f:=by unfold d2;congr 1<;>grind
def qp2(f g:Ln):0<=(d2 f g).c2:=by
 unfold d2;have h1:=pG (f.x1-g.x1);have h2:=pG (f.y1-g.y1);dsimp only;grind
def P6(f g:Ln)(t:Rat):0<=sG (d2 f g) t:=by
 have h1:=pG ((f.x0-g.x0)+(f.x1-g.x1)*t);have h2:=pG ((f.y0-g.y0)+(f.y1-g.y1)*t);have e:sG (d2 f g) t=((f.x0-g.x0)+(f.x1-g.x1)*t)*((f.x0-g.x0)+(f.x1-g.x1)*t)+((f.y0-g.y0)+(f.y1-g.y1)*t)*((f.y0-g.y0)+(f.y1-g.y1)*t):=by
  unfold sG d2;grind
 rw[e];grind
structure lM where
 i:Iv
 a:Rl
 b:Rl
deriving DecidableEq
def ay(x:Iv×Qd):lM:=⟨x.1,Be x.2 x.1.f,Be x.2 x.1.t⟩
def uB(x y:PU):Option (Iv×Qd):=(iV x.i y.i).map fun m=>(m,d2 x.f y.f)
def ag(a b:List PU):List (Iv×Qd):=gZ uB (fun x y=>PX x.i y.i) a b
def VD{S:Rl->Prop}{ρ:Rl->Int}(T:dZ S ρ){x y:PU}(hx:S x.i.f∧S x.i.t)(hy:S y.i.f∧S y.i.t)(h:aK ρ x.i.e<=aK ρ y.i.b∨aK ρ y.i.e<=aK ρ x.i.b)(ox:aK ρ x.i.b<aK ρ x.i.e)(oy:aK ρ y.i.b<aK ρ y.i.e):uB x y=none:=by
 unfold uB;rw[qch T hx hy h ox oy];rfl
theorem ig{S:Rl->Prop}{ρ:Rl->Int}(T:dZ S ρ){a b:List PU}(sa:ou ρ a)(sb:ou ρ b)(ea:Ends S a)(eb:Ends S b):ag a b=flatK uB a b:=by
 unfold ag;refine H6 (fa:=fun x=>aK ρ x.i.b) (la:=fun x=>aK ρ x.i.e) (fb:=fun x=>aK ρ x.i.b) (lb:=fun x=>aK ρ x.i.e) (fun x hx y hy=>⟨qcg T (ea x hx).2 (eb y hy).2,fun h=>?_,fun h=>?_⟩) sa.1 sb.1
 ·exact VD T (ea x hx) (eb y hy) (.inl h) (sa.2 x hx) (sb.2 y hy)
 ·exact VD T (ea x hx) (eb y hy) (.inr h) (sa.2 x hx) (sb.2 y hy)
def pX{S:Rl->Prop}{ρ:Rl->Int}(T:dZ S ρ){x y:PU}{z:Iv×Qd}(hx:S x.i.f∧S x.i.t)(hy:S y.i.f∧S y.i.t)(h:uB x y=some z):
 z.1=fD x.i y.i∧z.2=d2 x.f y.f∧S z.1.f∧S z.1.t∧aK ρ z.1.b<aK ρ z.1.e∧aK ρ x.i.b<=aK ρ z.1.b∧aK ρ y.i.b<=aK ρ z.1.b∧aK ρ z.1.e<=aK ρ x.i.e∧aK ρ z.1.e<=aK ρ y.i.e:=by
 unfold uB iV at h
 by_cases hk:lD (fD x.i y.i)=true
 ·rw[if_pos hk] at h
  injection h with h
  subst h;have hS:=Eo hx hy;have hlt:=(sO T hS.1 hS.2).1 hk;refine⟨rfl,rfl,hS.1,hS.2,hlt,?_⟩;dsimp only;rcases MC T hx.1 hy.1 with⟨e1,_⟩|⟨e1,_⟩<;>rcases MF T hx.2 hy.2 with⟨e2,_⟩|⟨e2,_⟩<;>rw[e1,e2]<;>omega
 ·rw[if_neg hk] at h;cases h
def pY{S:Rl->Prop}{ρ:Rl->Int}(T:dZ S ρ){b:List PU}(sb:ou ρ b)(eb:Ends S b):∀{a:List PU},ou ρ a->Ends S a->
 (flatK uB a b).Pairwise (fun p q=>aK ρ p.1.e<=aK ρ q.1.b)∧∀z∈flatK uB a b,∃x∈a,∃y∈b,uB x y=some z
 |[],_,_=>⟨List.Pairwise.nil,by simp[flatK]⟩
 |x::a,sa,ea=>by
  obtain⟨p1,p2⟩:=List.pairwise_cons.1 sa.1;have hx:=ea x (List.mem_cons_self ..);obtain⟨i1,i2⟩:=pY T sb eb (a:=a) ⟨p2,fun y hy=>sa.2 y (List.mem_cons_of_mem _ hy)⟩ fun y hy=>ea y (List.mem_cons_of_mem _ hy)
  have e:flatK uB (x::a) b=b.filterMap (uB x)++flatK uB a b:=(by unfold flatK;rw[List.flatMap_cons]);rw[e];have row:∀{c:List PU},c.Pairwise (fun x y=>aK ρ x.i.e<=aK ρ y.i.b)->Ends S c->(c.filterMap (uB x)).Pairwise (fun p q=>aK ρ p.1.e<=aK ρ q.1.b):=fun {c} hc hE=>by
   refine(List.pairwise_filterMap).2 (hc.imp_of_mem fun {u v} hu hv huv p hp q hq=>?_);have hp':=pX T hx (hE u hu) hp;have hq':=pX T hx (hE v hv) hq;omega
  refine⟨List.pairwise_append.2 ⟨row sb.1 eb,i1,fun p hp q hq=>?_⟩,fun z hz=>?_⟩
  ·obtain⟨y,hy,hpy⟩:=List.mem_filterMap.1 hp;obtain⟨x',hx',y',hy',hq'⟩:=i2 q hq;have h1:=pX T hx (eb y hy) hpy;have h2:=pX T (ea x' (List.mem_cons_of_mem _ hx')) (eb y' hy') hq';have:=p1 x' hx';omega
  ·rcases List.mem_append.1 hz with h|h
   ·obtain⟨y,hy,hpy⟩:=List.mem_filterMap.1 h;exact⟨x,List.mem_cons_self ..,y,hy,hpy⟩
   ·obtain⟨x',hx',y',hy',hq'⟩:=i2 z h;exact⟨x',List.mem_cons_of_mem _ hx',y',hy',hq'⟩
end Go.Via
namespace Go.Via
open Go
def fU(x y:Rl):Rl:=if 0<aV y x then y else x
def fH:List lM->Rl
 |[]=>rl 0
 |p::l=>(p::l).foldl (fun o x=>fU o (fU x.a x.b)) p.a
def Bh(o:Rl)(x:lM):Rl:=fU (fU o x.a) x.b
def bG(l:List lM):Rl:=l.foldl Bh (rl 0)
theorem rG(p q:Rat):fU (rl p) (rl q)=rl (if p<q then q else p):=by
 unfold fU;rw[pO];rcases kK q p with⟨c,e⟩|⟨c,e⟩|⟨c,e⟩<;>rw[e]
 ·rw[if_neg ax,if_neg dY]
 ·rw[if_pos ax,if_pos c]
 ·rw[if_neg ax,if_neg dY]
def qck(l:List lM):Prop:=∀p∈l,∃u v:Rat,0<=u∧0<=v∧p.a=rl u∧p.b=rl v
def VE(p q:Rat):Rat:=if p<q then q else p
def XO{l:List lM}(h:qck l)(hne:l≠[]):fH l=bG l:=by
 have step1:∀(l:List lM) (q:Rat),qck l->∃r,l.foldl (fun o x=>fU o (fU x.a x.b)) (rl q)=rl r∧l.foldl Bh (rl q)=rl r:=by
  intro l
  induction l with
  |nil=>intro q _;exact⟨q,rfl,rfl⟩
  |cons p l ih=>
   intro q h;obtain⟨u,v,hu,hv,ea,eb⟩:=h p (List.mem_cons_self ..);obtain⟨r,h1,h2⟩:=ih (VE (VE q u) v) fun x hx=>h x (List.mem_cons_of_mem _ hx)
   refine⟨r,?_,?_⟩
   ·rw[List.foldl_cons,ea,eb,rG,rG,<-h1]
    congr 2
    unfold VE;grind
   ·rw[List.foldl_cons,<-h2];unfold Bh;rw[ea,eb,rG,rG]
    rfl
 cases l with
 |nil=>exact absurd rfl hne
 |cons p l=>
  obtain⟨u,v,hu,hv,ea,eb⟩:=h p (List.mem_cons_self ..);show(p::l).foldl (fun o x=>fU o (fU x.a x.b)) p.a=(p::l).foldl Bh (rl 0);rw[List.foldl_cons,List.foldl_cons];have e1:fU p.a (fU p.a p.b)=rl (VE u v):=by
   rw[ea,eb,rG,rG];congr 1;unfold VE;grind
  have e2:Bh (rl 0) p=rl (VE u v):=by
   unfold Bh;rw[ea,eb,rG,rG];congr 1;unfold VE;grind
  rw[e1,e2];obtain⟨r,h1,h2⟩:=step1 l (VE u v) fun x hx=>h x (List.mem_cons_of_mem _ hx)
  rw[h1,h2]
def MK(x:Rl):Prop:=∃q,x=rl q
theorem qcl{S:Rl->Prop}{ρ:Rl->Int}(T:dZ S ρ){a b:Iv}(ha:S a.f∧S a.t)(hb:S b.f∧S b.t):fD a b=fD b a:=by
 have h1:=MC T ha.1 hb.1;have h2:=MC T hb.1 ha.1;have h3:=MF T ha.2 hb.2;have h4:=MF T hb.2 ha.2;have inj:∀{x y:pU},S x.1->S y.1->aK ρ x=aK ρ y->x=y:=fun hx hy h=>RD T hx hy h
 have e1:(fD a b).b=(fD b a).b:=by
  rcases h1 with⟨e,k⟩|⟨e,k⟩<;>rcases h2 with⟨e',k'⟩|⟨e',k'⟩<;>rw[e,e']
  ·exact inj ha.1 hb.1 ae
  ·exact inj hb.1 ha.1 ae
 have e2:(fD a b).e=(fD b a).e:=by
  rcases h3 with⟨e,k⟩|⟨e,k⟩<;>rcases h4 with⟨e',k'⟩|⟨e',k'⟩<;>rw[e,e']
  ·exact inj ha.2 hb.2 ae
  ·exact inj hb.2 ha.2 ae
 rw[<-XN (fD a b),e1,e2,XN]
def XP{S:Rl->Prop}{ρ:Rl->Int}(T:dZ S ρ){a b:List PU}(sa:ou ρ a)(sb:ou ρ b)(ea:Ends S a)(eb:Ends S b):ag a b=ag b a:=by
 rw[ig T sa sb ea eb,ig T sb sa eb ea];obtain⟨a1,a2⟩:=pY T sb eb sa ea;obtain⟨b1,b2⟩:=pY T sa ea sb eb;have lt:∀{c d:List PU},Ends S c->Ends S d->(flatK uB c d).Pairwise (fun p q=>aK ρ p.1.e<=aK ρ q.1.b)->(∀z∈flatK uB c d,∃x∈c,∃y∈d,uB x y=some z)->(flatK uB c d).Pairwise (fun p q=>aK ρ p.1.b<aK ρ q.1.b):=fun {c d} hc hd h1 h2=>by
  refine h1.imp_of_mem fun {p q} hp hq hpq=>?_
  obtain⟨x,hx,y,hy,hm⟩:=h2 p hp;have:=pX T (hc x hx) (hd y hy) hm;omega
 refine yL (κ:=fun p:Iv×Qd=>aK ρ p.1.b) (lt ea eb a1 a2) (lt eb ea b1 b2) fun z=>?_
 have sw:∀{c d:List PU},Ends S c->Ends S d->(∀z∈flatK uB c d,∃x∈c,∃y∈d,uB x y=some z)->z∈flatK uB c d->z∈flatK uB d c:=fun {c d} hc hd h2 hz=>by
  obtain⟨x,hx,y,hy,hm⟩:=h2 z hz;refine List.mem_flatMap.2 ⟨y,hy,List.mem_filterMap.2 ⟨x,hx,?_⟩⟩;rw[<-hm];unfold uB iV;rw[qcl T (hd y hy) (hc x hx),qjI]
 exact⟨sw ea eb a2,sw eb ea b2⟩
end Go.Via
namespace Go.Via
open Go
structure B3 where
 i:Iv
 f:Ln
 g:Ln
def jX(x:Rl):List Value:=[.bool (decide (x.p.num<0)),.string (bQ x.p.num.natAbs),.bool false,.string (dm x.p),.bool (decide (x.r.num<0)),.string (bQ x.r.num.natAbs),.bool false,.string (dm x.r),.bool x.n]
def RV(x:Rl):Value:= .agg #[.bool (decide (x.p.num<0)),.string (bQ x.p.num.natAbs),.bool false,.string (dm x.p),.bool (decide (x.r.num<0)),.string (bQ x.r.num.natAbs),.bool false,.string (dm x.r),.bool x.n]
def bT(x:Iv):List Value:=[.bool (decide (x.f.p.num<0)),.string (bQ x.f.p.num.natAbs),.bool false,.string (dm x.f.p),.bool (decide (x.f.r.num<0)),.string (bQ x.f.r.num.natAbs),.bool false,.string (dm x.f.r),.bool x.f.n,.bool (decide (x.t.p.num<0)),.string (bQ x.t.p.num.natAbs),.bool false,.string (dm x.t.p),.bool (decide (x.t.r.num<0)),.string (bQ x.t.r.num.natAbs),.bool false,.string (dm x.t.r),.bool x.t.n,.bool x.fo,.bool x.tp]
def nJ(x:Iv):Value:= .agg #[.bool (decide (x.f.p.num<0)),.string (bQ x.f.p.num.natAbs),.bool false,.string (dm x.f.p),.bool (decide (x.f.r.num<0)),.string (bQ x.f.r.num.natAbs),.bool false,.string (dm x.f.r),.bool x.f.n,.bool (decide (x.t.p.num<0)),.string (bQ x.t.p.num.natAbs),.bool false,.string (dm x.t.p),.bool (decide (x.t.r.num<0)),.string (bQ x.t.r.num.natAbs),.bool false,.string (dm x.t.r),.bool x.t.n,.bool x.fo,.bool x.tp]
def qjJ(x:Qd):List Value:=[.bool (decide (x.c0.num<0)),.string (bQ x.c0.num.natAbs),.bool false,.string (dm x.c0),.bool (decide (x.c1.num<0)),.string (bQ x.c1.num.natAbs),.bool false,.string (dm x.c1),.bool (decide (x.c2.num<0)),.string (bQ x.c2.num.natAbs),.bool false,.string (dm x.c2)]
def rH(x:Qd):Value:= .agg #[.bool (decide (x.c0.num<0)),.string (bQ x.c0.num.natAbs),.bool false,.string (dm x.c0),.bool (decide (x.c1.num<0)),.string (bQ x.c1.num.natAbs),.bool false,.string (dm x.c1),.bool (decide (x.c2.num<0)),.string (bQ x.c2.num.natAbs),.bool false,.string (dm x.c2)]
def zk(x:Ln):Value:= .agg #[.bool (decide (x.x0.num<0)),.string (bQ x.x0.num.natAbs),.bool false,.string (dm x.x0),.bool (decide (x.x1.num<0)),.string (bQ x.x1.num.natAbs),.bool false,.string (dm x.x1),.bool (decide (x.y0.num<0)),.string (bQ x.y0.num.natAbs),.bool false,.string (dm x.y0),.bool (decide (x.y1.num<0)),.string (bQ x.y1.num.natAbs),.bool false,.string (dm x.y1)]
def aP(x:PU):List Value:=[.bool (decide (x.i.f.p.num<0)),.string (bQ x.i.f.p.num.natAbs),.bool false,.string (dm x.i.f.p),.bool (decide (x.i.f.r.num<0)),.string (bQ x.i.f.r.num.natAbs),.bool false,.string (dm x.i.f.r),.bool x.i.f.n,.bool (decide (x.i.t.p.num<0)),.string (bQ x.i.t.p.num.natAbs),.bool false,.string (dm x.i.t.p),.bool (decide (x.i.t.r.num<0)),.string (bQ x.i.t.r.num.natAbs),.bool false,.string (dm x.i.t.r),.bool x.i.t.n,.bool x.i.fo,.bool x.i.tp,.bool (decide (x.f.x0.num<0)),.string (bQ x.f.x0.num.natAbs),.bool false,.string (dm x.f.x0),.bool (decide (x.f.x1.num<0)),.string (bQ x.f.x1.num.natAbs),.bool false,.string (dm x.f.x1),.bool (decide (x.f.y0.num<0)),.string (bQ x.f.y0.num.natAbs),.bool false,.string (dm x.f.y0),.bool (decide (x.f.y1.num<0)),.string (bQ x.f.y1.num.natAbs),.bool false,.string (dm x.f.y1)]
def PUV(x:PU):Value:= .agg #[.bool (decide (x.i.f.p.num<0)),.string (bQ x.i.f.p.num.natAbs),.bool false,.string (dm x.i.f.p),.bool (decide (x.i.f.r.num<0)),.string (bQ x.i.f.r.num.natAbs),.bool false,.string (dm x.i.f.r),.bool x.i.f.n,.bool (decide (x.i.t.p.num<0)),.string (bQ x.i.t.p.num.natAbs),.bool false,.string (dm x.i.t.p),.bool (decide (x.i.t.r.num<0)),.string (bQ x.i.t.r.num.natAbs),.bool false,.string (dm x.i.t.r),.bool x.i.t.n,.bool x.i.fo,.bool x.i.tp,.bool (decide (x.f.x0.num<0)),.string (bQ x.f.x0.num.natAbs),.bool false,.string (dm x.f.x0),.bool (decide (x.f.x1.num<0)),.string (bQ x.f.x1.num.natAbs),.bool false,.string (dm x.f.x1),.bool (decide (x.f.y0.num<0)),.string (bQ x.f.y0.num.natAbs),.bool false,.string (dm x.f.y0),.bool (decide (x.f.y1.num<0)),.string (bQ x.f.y1.num.natAbs),.bool false,.string (dm x.f.y1)]
def aZ(x:lM):List Value:=[.bool (decide (x.i.f.p.num<0)),.string (bQ x.i.f.p.num.natAbs),.bool false,.string (dm x.i.f.p),.bool (decide (x.i.f.r.num<0)),.string (bQ x.i.f.r.num.natAbs),.bool false,.string (dm x.i.f.r),.bool x.i.f.n,.bool (decide (x.i.t.p.num<0)),.string (bQ x.i.t.p.num.natAbs),.bool false,.string (dm x.i.t.p),.bool (decide (x.i.t.r.num<0)),.string (bQ x.i.t.r.num.natAbs),.bool false,.string (dm x.i.t.r),.bool x.i.t.n,.bool x.i.fo,.bool x.i.tp,.bool (decide (x.a.p.num<0)),.string (bQ x.a.p.num.natAbs),.bool false,.string (dm x.a.p),.bool (decide (x.a.r.num<0)),.string (bQ x.a.r.num.natAbs),.bool false,.string (dm x.a.r),.bool x.a.n,.bool (decide (x.b.p.num<0)),.string (bQ x.b.p.num.natAbs),.bool false,.string (dm x.b.p),.bool (decide (x.b.r.num<0)),.string (bQ x.b.r.num.natAbs),.bool false,.string (dm x.b.r),.bool x.b.n]
def wU(x:lM):Value:= .agg #[.bool (decide (x.i.f.p.num<0)),.string (bQ x.i.f.p.num.natAbs),.bool false,.string (dm x.i.f.p),.bool (decide (x.i.f.r.num<0)),.string (bQ x.i.f.r.num.natAbs),.bool false,.string (dm x.i.f.r),.bool x.i.f.n,.bool (decide (x.i.t.p.num<0)),.string (bQ x.i.t.p.num.natAbs),.bool false,.string (dm x.i.t.p),.bool (decide (x.i.t.r.num<0)),.string (bQ x.i.t.r.num.natAbs),.bool false,.string (dm x.i.t.r),.bool x.i.t.n,.bool x.i.fo,.bool x.i.tp,.bool (decide (x.a.p.num<0)),.string (bQ x.a.p.num.natAbs),.bool false,.string (dm x.a.p),.bool (decide (x.a.r.num<0)),.string (bQ x.a.r.num.natAbs),.bool false,.string (dm x.a.r),.bool x.a.n,.bool (decide (x.b.p.num<0)),.string (bQ x.b.p.num.natAbs),.bool false,.string (dm x.b.p),.bool (decide (x.b.r.num<0)),.string (bQ x.b.r.num.natAbs),.bool false,.string (dm x.b.r),.bool x.b.n]
def Ep(x:Iv×Qd):List Value:=[.bool (decide (x.1.f.p.num<0)),.string (bQ x.1.f.p.num.natAbs),.bool false,.string (dm x.1.f.p),.bool (decide (x.1.f.r.num<0)),.string (bQ x.1.f.r.num.natAbs),.bool false,.string (dm x.1.f.r),.bool x.1.f.n,.bool (decide (x.1.t.p.num<0)),.string (bQ x.1.t.p.num.natAbs),.bool false,.string (dm x.1.t.p),.bool (decide (x.1.t.r.num<0)),.string (bQ x.1.t.r.num.natAbs),.bool false,.string (dm x.1.t.r),.bool x.1.t.n,.bool x.1.fo,.bool x.1.tp,.bool (decide (x.2.c0.num<0)),.string (bQ x.2.c0.num.natAbs),.bool false,.string (dm x.2.c0),.bool (decide (x.2.c1.num<0)),.string (bQ x.2.c1.num.natAbs),.bool false,.string (dm x.2.c1),.bool (decide (x.2.c2.num<0)),.string (bQ x.2.c2.num.natAbs),.bool false,.string (dm x.2.c2)]
def PtV(x:Iv×Qd):Value:= .agg #[.bool (decide (x.1.f.p.num<0)),.string (bQ x.1.f.p.num.natAbs),.bool false,.string (dm x.1.f.p),.bool (decide (x.1.f.r.num<0)),.string (bQ x.1.f.r.num.natAbs),.bool false,.string (dm x.1.f.r),.bool x.1.f.n,.bool (decide (x.1.t.p.num<0)),.string (bQ x.1.t.p.num.natAbs),.bool false,.string (dm x.1.t.p),.bool (decide (x.1.t.r.num<0)),.string (bQ x.1.t.r.num.natAbs),.bool false,.string (dm x.1.t.r),.bool x.1.t.n,.bool x.1.fo,.bool x.1.tp,.bool (decide (x.2.c0.num<0)),.string (bQ x.2.c0.num.natAbs),.bool false,.string (dm x.2.c0),.bool (decide (x.2.c1.num<0)),.string (bQ x.2.c1.num.natAbs),.bool false,.string (dm x.2.c1),.bool (decide (x.2.c2.num<0)),.string (bQ x.2.c2.num.natAbs),.bool false,.string (dm x.2.c2)]
def XQ(x:B3):List Value:=[.bool (decide (x.i.f.p.num<0)),.string (bQ x.i.f.p.num.natAbs),.bool false,.string (dm x.i.f.p),.bool (decide (x.i.f.r.num<0)),.string (bQ x.i.f.r.num.natAbs),.bool false,.string (dm x.i.f.r),.bool x.i.f.n,.bool (decide (x.i.t.p.num<0)),.string (bQ x.i.t.p.num.natAbs),.bool false,.string (dm x.i.t.p),.bool (decide (x.i.t.r.num<0)),.string (bQ x.i.t.r.num.natAbs),.bool false,.string (dm x.i.t.r),.bool x.i.t.n,.bool x.i.fo,.bool x.i.tp,.bool (decide (x.f.x0.num<0)),.string (bQ x.f.x0.num.natAbs),.bool false,.string (dm x.f.x0),.bool (decide (x.f.x1.num<0)),.string (bQ x.f.x1.num.natAbs),.bool false,.string (dm x.f.x1),.bool (decide (x.f.y0.num<0)),.string (bQ x.f.y0.num.natAbs),.bool false,.string (dm x.f.y0),.bool (decide (x.f.y1.num<0)),.string (bQ x.f.y1.num.natAbs),.bool false,.string (dm x.f.y1),.bool (decide (x.g.x0.num<0)),.string (bQ x.g.x0.num.natAbs),.bool false,.string (dm x.g.x0),.bool (decide (x.g.x1.num<0)),.string (bQ x.g.x1.num.natAbs),.bool false,.string (dm x.g.x1),.bool (decide (x.g.y0.num<0)),.string (bQ x.g.y0.num.natAbs),.bool false,.string (dm x.g.y0),.bool (decide (x.g.y1.num<0)),.string (bQ x.g.y1.num.natAbs),.bool false,.string (dm x.g.y1)]
def B3V(x:B3):Value:= .agg #[.bool (decide (x.i.f.p.num<0)),.string (bQ x.i.f.p.num.natAbs),.bool false,.string (dm x.i.f.p),.bool (decide (x.i.f.r.num<0)),.string (bQ x.i.f.r.num.natAbs),.bool false,.string (dm x.i.f.r),.bool x.i.f.n,.bool (decide (x.i.t.p.num<0)),.string (bQ x.i.t.p.num.natAbs),.bool false,.string (dm x.i.t.p),.bool (decide (x.i.t.r.num<0)),.string (bQ x.i.t.r.num.natAbs),.bool false,.string (dm x.i.t.r),.bool x.i.t.n,.bool x.i.fo,.bool x.i.tp,.bool (decide (x.f.x0.num<0)),.string (bQ x.f.x0.num.natAbs),.bool false,.string (dm x.f.x0),.bool (decide (x.f.x1.num<0)),.string (bQ x.f.x1.num.natAbs),.bool false,.string (dm x.f.x1),.bool (decide (x.f.y0.num<0)),.string (bQ x.f.y0.num.natAbs),.bool false,.string (dm x.f.y0),.bool (decide (x.f.y1.num<0)),.string (bQ x.f.y1.num.natAbs),.bool false,.string (dm x.f.y1),.bool (decide (x.g.x0.num<0)),.string (bQ x.g.x0.num.natAbs),.bool false,.string (dm x.g.x0),.bool (decide (x.g.x1.num<0)),.string (bQ x.g.x1.num.natAbs),.bool false,.string (dm x.g.x1),.bool (decide (x.g.y0.num<0)),.string (bQ x.g.y0.num.natAbs),.bool false,.string (dm x.g.y0),.bool (decide (x.g.y1.num<0)),.string (bQ x.g.y1.num.natAbs),.bool false,.string (dm x.g.y1)]
def Gf(x:Iv×Int):List Value:=[.bool (decide (x.1.f.p.num<0)),.string (bQ x.1.f.p.num.natAbs),.bool false,.string (dm x.1.f.p),.bool (decide (x.1.f.r.num<0)),.string (bQ x.1.f.r.num.natAbs),.bool false,.string (dm x.1.f.r),.bool x.1.f.n,.bool (decide (x.1.t.p.num<0)),.string (bQ x.1.t.p.num.natAbs),.bool false,.string (dm x.1.t.p),.bool (decide (x.1.t.r.num<0)),.string (bQ x.1.t.r.num.natAbs),.bool false,.string (dm x.1.t.r),.bool x.1.t.n,.bool x.1.fo,.bool x.1.tp,.int .i64 x.2]
def SgV(x:Iv×Int):Value:= .agg #[.bool (decide (x.1.f.p.num<0)),.string (bQ x.1.f.p.num.natAbs),.bool false,.string (dm x.1.f.p),.bool (decide (x.1.f.r.num<0)),.string (bQ x.1.f.r.num.natAbs),.bool false,.string (dm x.1.f.r),.bool x.1.f.n,.bool (decide (x.1.t.p.num<0)),.string (bQ x.1.t.p.num.natAbs),.bool false,.string (dm x.1.t.p),.bool (decide (x.1.t.r.num<0)),.string (bQ x.1.t.r.num.natAbs),.bool false,.string (dm x.1.t.r),.bool x.1.t.n,.bool x.1.fo,.bool x.1.tp,.int .i64 x.2]
def xE(x:Rl×Bool):List Value:=[.bool (decide (x.1.p.num<0)),.string (bQ x.1.p.num.natAbs),.bool false,.string (dm x.1.p),.bool (decide (x.1.r.num<0)),.string (bQ x.1.r.num.natAbs),.bool false,.string (dm x.1.r),.bool x.1.n,.bool x.2]
def BdV(x:Rl×Bool):Value:= .agg #[.bool (decide (x.1.p.num<0)),.string (bQ x.1.p.num.natAbs),.bool false,.string (dm x.1.p),.bool (decide (x.1.r.num<0)),.string (bQ x.1.r.num.natAbs),.bool false,.string (dm x.1.r),.bool x.1.n,.bool x.2]
def kw(x:(Rl×Bool)×Int×Int):List Value:=[.bool (decide (x.1.1.p.num<0)),.string (bQ x.1.1.p.num.natAbs),.bool false,.string (dm x.1.1.p),.bool (decide (x.1.1.r.num<0)),.string (bQ x.1.1.r.num.natAbs),.bool false,.string (dm x.1.1.r),.bool x.1.1.n,.bool x.1.2,.int .i64 x.2.1,.int .i64 x.2.2]
def EvV(x:(Rl×Bool)×Int×Int):Value:= .agg #[.bool (decide (x.1.1.p.num<0)),.string (bQ x.1.1.p.num.natAbs),.bool false,.string (dm x.1.1.p),.bool (decide (x.1.1.r.num<0)),.string (bQ x.1.1.r.num.natAbs),.bool false,.string (dm x.1.1.r),.bool x.1.1.n,.bool x.1.2,.int .i64 x.2.1,.int .i64 x.2.2]
end Go.Via
namespace Go.Proofs.YtaffcpfhedadhaaGreatDoor
open Go Go.Via
def Gg(d:Nat)(p q:Rat)(w:World):(Op.equalIn (d+4) 36 (Q p) (Q q)).run Tryz.prog w= .ok (decide (p=q)) w:=by
 have h1:=qpk p q;rw[<-h1]
 clear h1
 unfold Q
 generalize decide (p.num<0)=a1,bQ p.num.natAbs=a3,dm p=a5
 generalize decide (q.num<0)=b1,bQ q.num.natAbs=b3,dm q=b5
 simp only[beq_toListBytes];simp[go_sem]
 (repeat' split)<;>simp_all
def VF(d:Nat)(x y:Rl)(w:World):(Op.equalIn (d+5) 38 (RV x) (RV y)).run Tryz.prog w= .ok (decide (x=y)) w:=by
 have e:decide (x=y)=(decide (x.p=y.p)&&(decide (x.r=y.r)&&((x.n==y.n)&&true))):=by
  rw[Bool.eq_iff_iff];cases x;cases y;simp[Bool.and_assoc]
 rw[e];have hf:∃f0 f1 f2:Field,(Tryz.prog.fieldsOf 38).toList=[f0,f1,f2]∧f0.name≠ "_" ∧f1.name≠ "_" ∧f2.name≠ "_" ∧f0.type=36∧f1.type=36∧f2.type=4∧f0.offset=0∧f1.offset=4∧f2.offset=8:=⟨⟨"P",36,0,false,"","",0⟩,⟨"R",36,4,false,"","",48⟩,⟨"Neg",4,8,false,"","",96⟩,ak,ax,ax,ax,rfl,rfl,rfl,rfl,rfl,rfl⟩;obtain⟨f0,f1,f2,h0,n0,n1,n2,t0,t1,t2,o0,o1,o2⟩:=hf;unfold RV;rw[run_equalIn_struct w (d+4) 38 _ _ ak ak,h0];have ia4:(isAgg 4).run Tryz.prog w= .ok false w:=ak
 have ia36:(isAgg 36).run Tryz.prog w= .ok true w:=ak;have so36:(sizeOf 36).run Tryz.prog w= .ok 4 w:=ak;refine mW (T:=36) n0 (x:=Q x.p) (y:=Q y.p) ?_ ?_ ?_ (mW (T:=36) n1 (x:=Q x.r) (y:=Q y.r) ?_ ?_ ?_ (mW (T:=4) n2 (x:= .bool x.n) (y:= .bool y.n) ?_ ?_ ?_ rfl))
 ·rw[t0,o0];simp[part,ia36,so36];rfl
 ·rw[t0,o0];simp[part,ia36,so36];rfl
 ·rw[t0];exact Gg (d+0) _ _ w
 ·rw[t1,o1];simp[part,ia36,so36];rfl
 ·rw[t1,o1];simp[part,ia36,so36];rfl
 ·rw[t1];exact Gg (d+0) _ _ w
 ·rw[t2,o2];simp[part,ia4]
 ·rw[t2,o2];simp[part,ia4]
 ·rw[t2];simp[go_sem]
def VG(x y:Rl)(w:World):(Op.equalIn 10000 38 (RV x) (RV y)).run Tryz.prog w= .ok (decide (x=y)) w:=VF 9995 x y w
def qlm(d:Nat)(x y:Iv)(w:World):(Op.equalIn (d+6) 61 (nJ x) (nJ y)).run Tryz.prog w= .ok (decide (x=y)) w:=by
 have e:decide (x=y)=(decide (x.f=y.f)&&(decide (x.t=y.t)&&((x.fo==y.fo)&&((x.tp==y.tp)&&true)))):=by
  rw[Bool.eq_iff_iff];cases x;cases y;simp[Bool.and_assoc]
 rw[e];have hf:∃f0 f1 f2 f3:Field,(Tryz.prog.fieldsOf 61).toList=[f0,f1,f2,f3]∧f0.name≠ "_" ∧f1.name≠ "_" ∧f2.name≠ "_" ∧f3.name≠ "_" ∧f0.type=38∧f1.type=38∧f2.type=4∧f3.type=4∧f0.offset=0∧f1.offset=9∧f2.offset=18∧f3.offset=19:=⟨⟨"From",38,0,false,"","",0⟩,⟨"To",38,9,false,"","",104⟩,⟨"OpenFrom",4,18,false,"","",208⟩,⟨"OpenTo",4,19,false,"","",209⟩,ak,ax,ax,ax,ax,rfl,rfl,rfl,rfl,rfl,rfl,rfl,rfl⟩;obtain⟨f0,f1,f2,f3,h0,n0,n1,n2,n3,t0,t1,t2,t3,o0,o1,o2,o3⟩:=hf;unfold nJ;rw[run_equalIn_struct w (d+5) 61 _ _ ak ak,h0];have ia4:(isAgg 4).run Tryz.prog w= .ok false w:=ak
 have ia38:(isAgg 38).run Tryz.prog w= .ok true w:=ak;have so38:(sizeOf 38).run Tryz.prog w= .ok 9 w:=ak;refine mW (T:=38) n0 (x:=RV x.f) (y:=RV y.f) ?_ ?_ ?_ (mW (T:=38) n1 (x:=RV x.t) (y:=RV y.t) ?_ ?_ ?_ (mW (T:=4) n2 (x:= .bool x.fo) (y:= .bool y.fo) ?_ ?_ ?_ (mW (T:=4) n3 (x:= .bool x.tp) (y:= .bool y.tp) ?_ ?_ ?_ rfl)))
 ·rw[t0,o0];simp[part,ia38,so38];rfl
 ·rw[t0,o0];simp[part,ia38,so38];rfl
 ·rw[t0];exact VF (d+0) _ _ w
 ·rw[t1,o1];simp[part,ia38,so38];rfl
 ·rw[t1,o1];simp[part,ia38,so38];rfl
 ·rw[t1];exact VF (d+0) _ _ w
 ·rw[t2,o2];simp[part,ia4]
 ·rw[t2,o2];simp[part,ia4]
 ·rw[t2];simp[go_sem]
 ·rw[t3,o3];simp[part,ia4]
 ·rw[t3,o3];simp[part,ia4]
 ·rw[t3];simp[go_sem]
def qp3(x y:Iv)(w:World):(Op.equalIn 10000 61 (nJ x) (nJ y)).run Tryz.prog w= .ok (decide (x=y)) w:=qlm 9994 x y w
def qp4(d:Nat)(x y:Qd)(w:World):(Op.equalIn (d+5) 91 (rH x) (rH y)).run Tryz.prog w= .ok (decide (x=y)) w:=by
 have e:decide (x=y)=(decide (x.c0=y.c0)&&(decide (x.c1=y.c1)&&(decide (x.c2=y.c2)&&true))):=by
  rw[Bool.eq_iff_iff];cases x;cases y;simp[Bool.and_assoc]
 rw[e];have hf:∃f0 f1 f2:Field,(Tryz.prog.fieldsOf 91).toList=[f0,f1,f2]∧f0.name≠ "_" ∧f1.name≠ "_" ∧f2.name≠ "_" ∧f0.type=36∧f1.type=36∧f2.type=36∧f0.offset=0∧f1.offset=4∧f2.offset=8:=⟨⟨"C0",36,0,false,"","",0⟩,⟨"C1",36,4,false,"","",48⟩,⟨"C2",36,8,false,"","",96⟩,ak,ax,ax,ax,rfl,rfl,rfl,rfl,rfl,rfl⟩;obtain⟨f0,f1,f2,h0,n0,n1,n2,t0,t1,t2,o0,o1,o2⟩:=hf;unfold rH;rw[run_equalIn_struct w (d+4) 91 _ _ ak ak,h0];have ia36:(isAgg 36).run Tryz.prog w= .ok true w:=ak
 have so36:(sizeOf 36).run Tryz.prog w= .ok 4 w:=ak;refine mW (T:=36) n0 (x:=Q x.c0) (y:=Q y.c0) ?_ ?_ ?_ (mW (T:=36) n1 (x:=Q x.c1) (y:=Q y.c1) ?_ ?_ ?_ (mW (T:=36) n2 (x:=Q x.c2) (y:=Q y.c2) ?_ ?_ ?_ rfl))
 ·rw[t0,o0];simp[part,ia36,so36];rfl
 ·rw[t0,o0];simp[part,ia36,so36];rfl
 ·rw[t0];exact Gg (d+0) _ _ w
 ·rw[t1,o1];simp[part,ia36,so36];rfl
 ·rw[t1,o1];simp[part,ia36,so36];rfl
 ·rw[t1];exact Gg (d+0) _ _ w
 ·rw[t2,o2];simp[part,ia36,so36];rfl
 ·rw[t2,o2];simp[part,ia36,so36];rfl
 ·rw[t2];exact Gg (d+0) _ _ w
def qr2(x y:Qd)(w:World):(Op.equalIn 10000 91 (rH x) (rH y)).run Tryz.prog w= .ok (decide (x=y)) w:=qp4 9995 x y w
def qp5(d:Nat)(x y:Ln)(w:World):(Op.equalIn (d+5) 98 (zk x) (zk y)).run Tryz.prog w= .ok (decide (x=y)) w:=by
 have e:decide (x=y)=(decide (x.x0=y.x0)&&(decide (x.x1=y.x1)&&(decide (x.y0=y.y0)&&(decide (x.y1=y.y1)&&true)))):=by
  rw[Bool.eq_iff_iff];cases x;cases y;simp[Bool.and_assoc]
 rw[e];have hf:∃f0 f1 f2 f3:Field,(Tryz.prog.fieldsOf 98).toList=[f0,f1,f2,f3]∧f0.name≠ "_" ∧f1.name≠ "_" ∧f2.name≠ "_" ∧f3.name≠ "_" ∧f0.type=36∧f1.type=36∧f2.type=36∧f3.type=36∧f0.offset=0∧f1.offset=4∧f2.offset=8∧f3.offset=12:=⟨⟨"X0",36,0,false,"","",0⟩,⟨"X1",36,4,false,"","",48⟩,⟨"Y0",36,8,false,"","",96⟩,⟨"Y1",36,12,false,"","",144⟩,ak,ax,ax,ax,ax,rfl,rfl,rfl,rfl,rfl,rfl,rfl,rfl⟩;obtain⟨f0,f1,f2,f3,h0,n0,n1,n2,n3,t0,t1,t2,t3,o0,o1,o2,o3⟩:=hf;unfold zk;rw[run_equalIn_struct w (d+4) 98 _ _ ak ak,h0];have ia36:(isAgg 36).run Tryz.prog w= .ok true w:=ak
 have so36:(sizeOf 36).run Tryz.prog w= .ok 4 w:=ak;refine mW (T:=36) n0 (x:=Q x.x0) (y:=Q y.x0) ?_ ?_ ?_ (mW (T:=36) n1 (x:=Q x.x1) (y:=Q y.x1) ?_ ?_ ?_ (mW (T:=36) n2 (x:=Q x.y0) (y:=Q y.y0) ?_ ?_ ?_ (mW (T:=36) n3 (x:=Q x.y1) (y:=Q y.y1) ?_ ?_ ?_ rfl)))
 ·rw[t0,o0];simp[part,ia36,so36];rfl
 ·rw[t0,o0];simp[part,ia36,so36];rfl
 ·rw[t0];exact Gg (d+0) _ _ w
 ·rw[t1,o1];simp[part,ia36,so36];rfl
 ·rw[t1,o1];simp[part,ia36,so36];rfl
 ·rw[t1];exact Gg (d+0) _ _ w
 ·rw[t2,o2];simp[part,ia36,so36];rfl
 ·rw[t2,o2];simp[part,ia36,so36];rfl
 ·rw[t2];exact Gg (d+0) _ _ w
 ·rw[t3,o3];simp[part,ia36,so36];rfl
 ·rw[t3,o3];simp[part,ia36,so36];rfl
 ·rw[t3];exact Gg (d+0) _ _ w
def qr3(x y:Ln)(w:World):(Op.equalIn 10000 98 (zk x) (zk y)).run Tryz.prog w= .ok (decide (x=y)) w:=qp5 9995 x y w
def qp6(d:Nat)(x y:lM)(w:World):(Op.equalIn (d+7) 63 (wU x) (wU y)).run Tryz.prog w= .ok (decide (x=y)) w:=by
 have e:decide (x=y)=(decide (x.i=y.i)&&(decide (x.a=y.a)&&(decide (x.b=y.b)&&true))):=by
  rw[Bool.eq_iff_iff];cases x;cases y;simp[Bool.and_assoc]
 rw[e];have hf:∃f0 f1 f2:Field,(Tryz.prog.fieldsOf 63).toList=[f0,f1,f2]∧f0.name≠ "_" ∧f1.name≠ "_" ∧f2.name≠ "_" ∧f0.type=61∧f1.type=38∧f2.type=38∧f0.offset=0∧f1.offset=20∧f2.offset=29:=⟨⟨"In",61,0,false,"","",0⟩,⟨"From",38,20,false,"","",216⟩,⟨"To",38,29,false,"","",320⟩,ak,ax,ax,ax,rfl,rfl,rfl,rfl,rfl,rfl⟩;obtain⟨f0,f1,f2,h0,n0,n1,n2,t0,t1,t2,o0,o1,o2⟩:=hf;unfold wU;rw[run_equalIn_struct w (d+6) 63 _ _ ak ak,h0];have ia38:(isAgg 38).run Tryz.prog w= .ok true w:=ak
 have so38:(sizeOf 38).run Tryz.prog w= .ok 9 w:=ak;have ia61:(isAgg 61).run Tryz.prog w= .ok true w:=ak;have so61:(sizeOf 61).run Tryz.prog w= .ok 20 w:=ak;refine mW (T:=61) n0 (x:=nJ x.i) (y:=nJ y.i) ?_ ?_ ?_ (mW (T:=38) n1 (x:=RV x.a) (y:=RV y.a) ?_ ?_ ?_ (mW (T:=38) n2 (x:=RV x.b) (y:=RV y.b) ?_ ?_ ?_ rfl))
 ·rw[t0,o0];simp[part,ia61,so61];rfl
 ·rw[t0,o0];simp[part,ia61,so61];rfl
 ·rw[t0];exact qlm (d+0) _ _ w
 ·rw[t1,o1];simp[part,ia38,so38];rfl
 ·rw[t1,o1];simp[part,ia38,so38];rfl
 ·rw[t1];exact VF (d+1) _ _ w
 ·rw[t2,o2];simp[part,ia38,so38];rfl
 ·rw[t2,o2];simp[part,ia38,so38];rfl
 ·rw[t2];exact VF (d+1) _ _ w
def qnM(x y:lM)(w:World):(Op.equalIn 10000 63 (wU x) (wU y)).run Tryz.prog w= .ok (decide (x=y)) w:=qp6 9993 x y w
end Go.Proofs.YtaffcpfhedadhaaGreatDoor
namespace Go.Via
open Go
def memP(ρ:Rl->Int)(l:List (pU×pU))(k:Int):Bool:=l.any fun p=>decide (aK ρ p.1<=k)&&decide (k<aK ρ p.2)
def VH{ρ:Rl->Int}{G:Int->Bool}{B:List pU}(HG:∀k1 k2,k1<=k2->(∀b∈B,¬(k1<aK ρ b∧aK ρ b<=k2))->G k1=G k2)(H1:∀k,(∀b∈B,aK ρ b<=k)->G k=false):
 ∀{C:List pU} {lo:Int} {st:Option pU},C.Pairwise (fun a b=>aK ρ a<aK ρ b)->(∀c∈C,lo<aK ρ c)->(∀b∈B,aK ρ b<=lo∨b∈C)->G lo=st.isSome->(∀f,st=some f->aK ρ f<=lo)->
 ∀k,memP ρ (gX (fun c=>G (aK ρ c)) st C) k=if lo<=k then G k else(match st with|none=>false|some f=>decide (aK ρ f<=k))
 |[],lo,st,_,_,hB,hG,hf,k=>by
  have hz:∀k,lo<=k->G k=false:=fun k hk=>H1 k fun b hb=>by
   rcases hB b hb with h|h
   ·omega
   ·simp at h
  cases st with
  |some f=>rw[hz lo (Int.le_refl _)] at hG;cases hG
  |none=>
   show false=_
   split
   ·rename_i h;rw[hz k h]
   ·rfl
 |c::cs,lo,st,hs,hlo,hB,hG,hf,k=>by
  obtain⟨s1,s2⟩:=List.pairwise_cons.1 hs;have hc:=hlo c (List.mem_cons_self ..);have hB':∀b∈B,aK ρ b<=aK ρ c∨b∈cs:=fun b hb=>by
   rcases hB b hb with h|h
   ·exact .inl ae
   ·rcases List.mem_cons.1 h with h|h
    ·rw[h];exact .inl (Int.le_refl _)
    ·exact .inr h
  have hmid:∀k,lo<=k->k<aK ρ c->G k=st.isSome:=fun k h1 h2=>by
   rw[<-hG];refine(HG lo k h1 fun b hb hk=>?_).symm;rcases hB b hb with h|h
   ·omega
   ·rcases List.mem_cons.1 h with h|h
    ·rw[h] at hk;omega
    ·have:=s1 b h;omega
  have ih:=fun st h1 h2=>VH HG H1 (C:=cs) (lo:=aK ρ c) (st:=st) s2 s1 hB' h1 h2 k
  cases st with
  |none=>
   unfold gX;cases hg:G (aK ρ c)
   ·rw[if_neg ax,ih none hg fun f e=>by cases e]
    by_cases h1:aK ρ c<=k
    ·rw[if_pos h1,if_pos ae]
    ·rw[if_neg h1]
     by_cases h2:lo<=k
     ·rw[if_pos h2,hmid k h2 ae];rfl
     ·rw[if_neg h2]
   ·rw[if_pos rfl,ih (some c) hg fun f e=>by injection e with e;rw[<-e];exact Int.le_refl _]
    by_cases h1:aK ρ c<=k
    ·rw[if_pos h1,if_pos ae]
    ·rw[if_neg h1];dsimp only;rw[decide_eq_false h1]
     by_cases h2:lo<=k
     ·rw[if_pos h2,hmid k h2 ae];rfl
     ·rw[if_neg h2]
  |some f=>
   have hf':=hf f rfl;unfold gX;cases hg:G (aK ρ c)
   ·rw[if_neg ax];have e:memP ρ ((f,c)::gX (fun c=>G (aK ρ c)) none cs) k=((decide (aK ρ f<=k)&&decide (k<aK ρ c))||memP ρ (gX (fun c=>G (aK ρ c)) none cs) k):=rfl;rw[e,ih none hg fun f e=>by cases e]
    dsimp only
    by_cases h1:aK ρ c<=k
    ·rw[if_pos h1,if_pos (show lo<=k by omega),decide_eq_false (show¬k<aK ρ c by omega),Bool.and_false,Bool.false_or]
    ·rw[if_neg h1,decide_eq_true (show k<aK ρ c by omega),Bool.and_true,Bool.or_false]
     by_cases h2:lo<=k
     ·rw[if_pos h2,hmid k h2 ae,decide_eq_true ae];rfl
     ·rw[if_neg h2]
   ·rw[if_pos rfl,ih (some f) hg fun g e=>by injection e with e;rw[<-e];omega]
    dsimp only
    by_cases h1:aK ρ c<=k
    ·rw[if_pos h1,if_pos (show lo<=k by omega)]
    ·rw[if_neg h1]
     by_cases h2:lo<=k
     ·rw[if_pos h2,hmid k h2 ae,decide_eq_true ae];rfl
     ·rw[if_neg h2]
theorem qfm{ρ:Rl->Int}{l:List (pU×pU)}{k:Int}:memB ρ (l.map fun p=>Oj p.1 p.2) k=memP ρ l k:=by
 unfold memB memP;rw[List.any_map]
 congr 1
 funext p
 have e1:(Oj p.1 p.2).b=p.1:=rfl;have e2:(Oj p.1 p.2).e=p.2:=(by unfold Oj Iv.e;simp);simp only[Function.comp,e1,e2]
def qnN{ρ:Rl->Int}(C:List pU):∃lo:Int,∀c∈C,lo<aK ρ c:=by
 induction C with
 |nil=>exact⟨0,fun c hc=>absurd hc bz⟩
 |cons c C ih=>
  obtain⟨lo,h⟩:=ih;refine⟨min lo (aK ρ c-1),fun x hx=>?_⟩
  rcases List.mem_cons.1 hx with e|e
  ·subst e;omega
  ·have:=h x e;omega
theorem qcn{S:Rl->Prop}{ρ:Rl->Int}(T:dZ S ρ){op:Bool->Bool->Bool}(h0:op false false=false){a b:List Iv}(ha:iU S a)(hb:iU S b)(k:Int):memB ρ (jV op a b) k=op (memB ρ a k) (memB ρ b k):=by
 obtain⟨s1,_⟩:=oM T (o9 (jW ha hb));have hin:=zi T ha hb;rw[ve T h0 ha hb,qfm];obtain⟨lo',hlo⟩:=qnN (ρ:=ρ) (nS (fB (cu (a++b))))
 let lo:=min lo' (k-1)
 have hlo2:∀c∈nS (fB (cu (a++b))),lo<aK ρ c:=fun c hc=>by have:=hlo c hc;show min lo' (k-1)<_;omega
 have hG0:op (memB ρ a lo) (memB ρ b lo)=false:=by
  rw[yz fun c hc=>hlo2 c (hin c (List.mem_append_left _ hc)),yz (l:=b) fun c hc=>hlo2 c (hin c (List.mem_append_right _ hc)),h0]
 have:=VH (ρ:=ρ) (G:=fun k=>op (memB ρ a k) (memB ρ b k)) (B:=bU a++bU b) (fun k1 k2 hk hn=>by
 show op (memB ρ a k1) (memB ρ b k1)=op (memB ρ a k2) (memB ρ b k2);rw[o7 hk fun c hc=>hn c (List.mem_append_left _ hc),o7 (l:=b) hk fun c hc=>hn c (List.mem_append_right _ hc)]) (fun k hk=>by
 show op (memB ρ a k) (memB ρ b k)=false;rw[CE fun c hc=>hk c (List.mem_append_left _ hc),CE (l:=b) fun c hc=>hk c (List.mem_append_right _ hc),h0]) (lo:=lo) (st:=none) (nO s1) hlo2 (fun c hc=> .inr (hin c hc)) hG0 (fun f e=>by cases e) k
 rw[this,if_pos (show min lo' (k-1)<=k by omega)]
end Go.Via
namespace Go.Via
open Go
def gq(x:Rl):Prop:=∃z:Int,x=rl (z:Rat)
def iD(x:Rl):Int:=x.p.num
theorem rJ(z:Int):iD (rl (z:Rat))=z:=by unfold iD rl;exact Rat.num_intCast z
theorem ng:dZ gq iD:=by
 constructor
 ·rintro x y ⟨a,rfl⟩ ⟨b,rfl⟩;rw[pO,rJ,rJ];rcases kK (a:Rat) (b:Rat) with⟨c,e⟩|⟨c,e⟩|⟨c,e⟩<;>rw[e]
  ·have:=Rat.intCast_lt_intCast.1 c;omega
  ·have:=Rat.intCast_lt_intCast.1 c;omega
  ·have:=Rat.intCast_inj.1 c;omega
 ·rintro x y ⟨a,rfl⟩ ⟨b,rfl⟩;rw[pO,rJ,rJ];rcases kK (a:Rat) (b:Rat) with⟨c,e⟩|⟨c,e⟩|⟨c,e⟩<;>rw[e]
  ·have:=Rat.intCast_lt_intCast.1 c;omega
  ·have:=Rat.intCast_lt_intCast.1 c;omega
  ·have:=Rat.intCast_inj.1 c;omega
 ·rintro x y ⟨a,rfl⟩ ⟨b,rfl⟩ h;rw[rJ,rJ] at h;rw[h]
structure zV where
 t:Int
 x:Int
 y:Int
structure sW where
 time:Nat
 x:Nat
 y:Nat
 kind:Nat
def qjK(a b:zV):Ln:=
 let sx:Rat:=((b.x:Rat)-(a.x:Rat))/((b.t:Rat)-(a.t:Rat))
 let sy:Rat:=((b.y:Rat)-(a.y:Rat))/((b.t:Rat)-(a.t:Rat))
 ⟨(a.x:Rat)-sx*(a.t:Rat),sx,(a.y:Rat)-sy*(a.t:Rat),sy⟩
def iI:List sW->zV->Bool->List PU->List PU
 |[],last,alone,out=>if alone=true then out++[⟨⟨rl (last.t:Rat),rl (last.t:Rat),false,false⟩,⟨(last.x:Rat),0,(last.y:Rat),0⟩⟩] else out
 |s::l,last,alone,out=>
  let next:zV:=⟨last.t+1+(s.time%8:Nat),(s.x%64:Nat),(s.y%64:Nat)⟩
  let frm:zV:=if s.kind%8=1 then⟨last.t,(s.y%64:Nat),(s.x%64:Nat)⟩ else last
  iI l next (decide (s.kind%8=0)) (if s.kind%8=0 then out else out++[⟨⟨rl (frm.t:Rat),rl (next.t:Rat),!out.isEmpty&& !alone,false⟩,qjK frm next⟩])
def CJ:∀{l:List sW} {last:zV} {alone:Bool} {out:List PU},ou iD out->Ends gq out->(∀u∈out,aK iD u.i.e<=2*last.t+(if alone=true then 0 else 1))->
 ou iD (iI l last alone out)∧Ends gq (iI l last alone out)
 |[],last,alone,out,h1,h2,h3=>by
  unfold iI
  split
  ·rename_i ha
   rw[if_pos ha] at h3;have e1:aK iD (Iv.b ⟨rl (last.t:Rat),rl (last.t:Rat),false,false⟩)=2*last.t:=by unfold aK Iv.b;rw[rJ];simp
   have e2:aK iD (Iv.e ⟨rl (last.t:Rat),rl (last.t:Rat),false,false⟩)=2*last.t+1:=(by unfold aK Iv.e;rw[rJ];simp);exact⟨Bf h1 MB fun x hx=>by have:=h3 x hx;dsimp only;omega,yA h2 ⟨⟨_,rfl⟩,⟨_,rfl⟩⟩⟩
  ·exact⟨h1,h2⟩
 |s::l,last,alone,out,h1,h2,h3=>by
  unfold iI;dsimp only;have hft:(if s.kind%8=1 then(⟨last.t,(s.y%64:Nat),(s.x%64:Nat)⟩:zV) else last).t=last.t:=by split<;>rfl
  rw[hft]
  generalize hn:last.t+1+((s.time%8:Nat):Int)=nt
  have hlt:last.t<nt:=ae
  by_cases hk:s.kind%8=0
  ·rw[if_pos hk];refine CJ h1 h2 fun u hu=>?_
   have:=h3 u hu;dsimp only
   split at this<;>split<;>omega
  ·rw[if_neg hk]
   generalize hb:(!out.isEmpty&& !alone)=fo
   have e1:aK iD (Iv.b ⟨rl (last.t:Rat),rl (nt:Rat),fo,false⟩)=2*last.t+(if fo=true then 1 else 0):=(by unfold aK Iv.b;rw[rJ]);have e2:aK iD (Iv.e ⟨rl (last.t:Rat),rl (nt:Rat),fo,false⟩)=2*nt+1:=(by unfold aK Iv.e;rw[rJ];simp);refine CJ (Bf h1 ?_ fun u hu=>?_) (yA h2 ⟨⟨_,rfl⟩,⟨_,rfl⟩⟩) fun u hu=>?_
   ·dsimp only;rw[e1,e2];split<;>omega
   ·dsimp only;rw[e1];have h:=h3 u hu;have hne:out.isEmpty=false:=by cases out;simp at hu;rfl
    rw[hne] at hb;cases alone<;>simp at hb h ⊢ <;>subst hb<;>simp<;>omega
   ·dsimp only;rw[decide_eq_false hk];simp only[Bool.false_eq_true,if_false];rcases List.mem_append.1 hu with e|e
    ·have:=h3 u e;split at this<;>omega
    ·rw[List.mem_singleton] at e;rw[e];dsimp only;rw[e2];omega
def jA(t x y:Nat)(l:List sW):List PU:=qJ (iI (l.take 6) ⟨(t%16:Nat),(x%64:Nat),(y%64:Nat)⟩ true [])
def Gh(t x y:Nat)(l:List sW):ou iD (jA t x y l)∧Ends gq (jA t x y l):=by
 obtain⟨h1,h2⟩:=CJ (l:=l.take 6) (last:=⟨(t%16:Nat),(x%64:Nat),(y%64:Nat)⟩) (alone:=true) (out:=[]) ⟨List.Pairwise.nil,bz⟩ (by simp[Ends]) bz;exact PY ng h1 h2
end Go.Via
