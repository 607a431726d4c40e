/-
  Part 1 (chapter 32): lemmas, walks. Each theorem states its own conditions.
-/
import GoSem.Core.World
import Derived.MapKept
import Derived.WalkKit
import Derived.WalkSpells
import Derived.WalkLawsBesides
set_option linter.all false
set_option maxRecDepth 20000
set_option maxHeartbeats 20000000
namespace Go.Via
open Go
abbrev aU:Value:= .bool false
abbrev aV:Value:= .string ⟨#[]⟩
abbrev gU(g:Nat):Value:= .pointer (some ⟨g,0,none⟩)
abbrev bV(n:Nat):Value:= .int .i64 (n:Int)
inductive MT where
 |l (n:Nat)
 |p (a b:MT)
def pr(a b:Nat):Nat:=2^a*(2*b+1)
def Y5:∀{a b c d:Nat},pr a b=pr c d->a=c∧b=d
 |0,b,0,d,h=>by simp[pr] at h;exact⟨rfl,by omega⟩
 |0,b,c+1,d,h=>by
  unfold pr at h;rw[Nat.pow_succ,Nat.pow_zero,Nat.one_mul,Nat.mul_comm (2^c) 2,Nat.mul_assoc] at h;omega
 |a+1,b,0,d,h=>by
  unfold pr at h;rw[Nat.pow_succ,Nat.pow_zero,Nat.one_mul,Nat.mul_comm (2^a) 2,Nat.mul_assoc] at h;omega
 |a+1,b,c+1,d,h=>by
  unfold pr at h;rw[Nat.pow_succ,Nat.pow_succ,Nat.mul_comm (2^a) 2,Nat.mul_comm (2^c) 2,Nat.mul_assoc,Nat.mul_assoc] at h;have h2:pr a b=pr c d:=by unfold pr;omega
  obtain⟨h3,h4⟩:=Y5 h2;exact⟨by omega,h4⟩
def MT.num:MT->Nat
 | .l n=>2*n
 | .p a b=>2*pr a.num b.num+1
theorem MT.num_inj:∀{x y:MT},x.num=y.num->x=y
 | .l a,.l b,h=>by simp only[MT.num] at h;rw[show a=b by omega]
 | .l a,.p b c,h=>by simp only[MT.num] at h;omega
 | .p b c,.l a,h=>by simp only[MT.num] at h;omega
 | .p a b,.p c d,h=>by
   simp only[MT.num] at h;obtain⟨h1,h2⟩:=Y5 (a:=a.num) (b:=b.num) (c:=c.num) (d:=d.num) (by omega);rw[MT.num_inj h1,MT.num_inj h2]
def mtL{α:Type}(f:α->MT):List α->MT
 |[]=> .l 0
 |x::xs=> .p (f x) (mtL f xs)
theorem Ak{α:Type}{f:α->MT}{Q:α->Prop}(hf:∀x y,Q x->Q y->f x=f y->x=y):∀{xs ys:List α},(∀x∈xs,Q x)->(∀y∈ys,Q y)->mtL f xs=mtL f ys->xs=ys
 |[],[],_,_,_=>rfl
 |[],_::_,_,_,h=>by cases h
 |_::_,[],_,_,h=>by cases h
 |x::xs,y::ys,hx,hy,h=>by
  simp only[mtL,MT.p.injEq] at h;rw[hf x y (hx x (by simp)) (hy y (by simp)) h.1,Ak hf (fun z hz=>hx z (by simp[hz])) (fun z hz=>hy z (by simp[hz])) h.2]
def mtI(z:Int):MT:=if z<0 then .p (.l 1) (.l z.natAbs) else .p (.l 0) (.l z.natAbs)
theorem qcs{a b:Int}(h:mtI a=mtI b):a=b:=by
 unfold mtI at h
 split at h<;>split at h<;>simp at h<;>omega
def ikN:IntKind->Nat
 | .i8=>0| .i16=>1| .i32=>2| .i64=>3| .u8=>4| .u16=>5| .u32=>6| .u64=>7
theorem qct:∀{a b:IntKind},ikN a=ikN b->a=b:=by intro a b;cases a<;>cases b<;>simp[ikN]
def Value.simple0:Value->Bool
 | .bool _| .int .. | .string _=>true
 |_=>false
def Value.simple:Value->Bool
 | .agg xs=>xs.toList.all Value.simple0
 |v=>Value.simple0 v
def Xq:Value->MT
 | .bool b=> .p (.l 0) (.l b.toNat)
 | .int k z=> .p (.l 1) (.p (.l (ikN k)) (mtI z))
 | .string s=> .p (.l 2) (mtL (fun u:UInt8=> .l u.toNat) s.data.toList)
 |_=> .l 9
def NW{x y:Value}(hx:Value.simple0 x=true)(hy:Value.simple0 y=true)(h:Xq x=Xq y):x=y:=by
 cases x<;>cases y<;>first|(simp[Value.simple0] at hx;done)|(simp[Value.simple0] at hy;done)|skip
 case bool.bool a b=>simp[Xq] at h;cases a<;>cases b<;>simp at h<;>rfl
 case int.int k a j b=>
  simp[Xq] at h;rw[qct h.1,qcs h.2]
 case string.string a b=>
  simp only[Xq,MT.p.injEq,true_and] at h;have:=Ak (Q:=fun _=>True) (fun x y _ _ h=>UInt8.toNat_inj.1 (MT.l.inj h)) (fun _ _=>trivial) (fun _ _=>trivial) h;have h2:a.data=b.data:=Array.toList_inj.1 this;cases a;cases b;simp at h2;rw[h2]
 all_goals (simp[Xq] at h)
def mt1:Value->MT
 | .agg xs=> .p (.l 8) (mtL Xq xs.toList)
 |v=>Xq v
def Vg{x y:Value}(hx:Value.simple x=true)(hy:Value.simple y=true)(h:mt1 x=mt1 y):x=y:=by
 have key:∀(xs:Array Value) (v:Value),Value.simple0 v=true->mt1 (.agg xs)≠Xq v:=fun xs v hv e=>by
  cases v<;>simp[Value.simple0] at hv<;>simp[mt1,Xq] at e
 have one:∀v:Value,(∀xs,v≠ .agg xs)->Value.simple v=Value.simple0 v∧mt1 v=Xq v:=fun v hv=>by
  cases v<;>first|exact⟨rfl,rfl⟩|exact absurd rfl (hv _)
 by_cases cx:∃xs,x= .agg xs
 ·obtain⟨xs,rfl⟩:=cx
  by_cases cy:∃ys,y= .agg ys
  ·obtain⟨ys,rfl⟩:=cy;simp only[mt1,MT.p.injEq,true_and] at h;have:=Ak (Q:=fun v=>Value.simple0 v=true) (fun _ _ h1 h2=>NW h1 h2) (fun v hv=>List.all_eq_true.1 hx v hv) (fun v hv=>List.all_eq_true.1 hy v hv) h;rw[Array.toList_inj.1 this]
  ·obtain⟨e1,e2⟩:=one y (fun ys e=>cy ⟨ys,e⟩);rw[e2] at h;exact absurd h (key xs y (by rw[<-e1];exact hy))
 ·obtain⟨e1,e2⟩:=one x (fun ys e=>cx ⟨ys,e⟩)
  by_cases cy:∃ys,y= .agg ys
  ·obtain⟨ys,rfl⟩:=cy;rw[e2] at h;exact absurd h.symm (key ys x (by rw[<-e1];exact hx))
  ·obtain⟨d1,d2⟩:=one y (fun ys e=>cy ⟨ys,e⟩);rw[e2,d2] at h;exact NW (by rw[<-e1];exact hx) (by rw[<-d1];exact hy) h
def rW(l:List (Value×Value)):Bool:=l.all fun p=>Value.simple p.1&&Value.simple p.2
def mtM(l:List (Value×Value)):MT:=mtL (fun p=> .p (mt1 p.1) (mt1 p.2)) l
def qcu{l m:List (Value×Value)}(hl:rW l=true)(hm:rW m=true)(h:mtM l=mtM m):l=m:=
 Ak (Q:=fun p=>Value.simple p.1=true∧Value.simple p.2=true) (fun x y h1 h2 h=>Prod.ext (Vg h1.1 h2.1 (MT.p.inj h).1) (Vg h1.2 h2.2 (MT.p.inj h).2))
  (fun p hp=>by have:=List.all_eq_true.1 hl p hp;simpa using this) (fun p hp=>by have:=List.all_eq_true.1 hm p hp;simpa using this) h
def qfl:∃f:List (Value×Value)->Nat,∀l m,rW l=true->rW m=true->f l=f m->l=m:=
 ⟨fun l=>(mtM l).num,fun _ _ hl hm h=>qcu hl hm (MT.num_inj h)⟩
noncomputable def mE0:List (Value×Value)->Nat:=Classical.choose qfl
abbrev bW:Nat:=1000000
noncomputable def mE(l:List (Value×Value)):Nat:=bW+2*mE0 l
def qig(l:List (Value×Value)):¬mE l<bW:=by unfold mE;omega
def qfZ{l m:List (Value×Value)}(hl:rW l=true)(hm:rW m=true)(h:mE l=mE m):l=m:=Classical.choose_spec qfl l m hl hm (by unfold mE at h;unfold mE0 at h;omega)
noncomputable def mQ(born:Nat)(key:Value)(l:List (Value×Value)):Nat:=bW+2*mE0 ((.int .i64 born,key)::l)+1
def qf0{l m:List (Value×Value)}{b:Nat}{k:Value}:mE l≠mQ b k m:=by unfold mE mQ;omega
def Value.simpleT:Value->Bool
 | .bool _| .int .. | .string _| .slice .. | .pointer _=>true
 |_=>false
def YY:Option Addr->MT
 |none=> .l 0
 |some ⟨b,o,none⟩=> .p (.l 0) (.p (.l b) (.l o))
 |some ⟨b,o,some s⟩=> .p (.l 1) (.p (.l b) (.p (.l o) (.l s)))
theorem Vh:∀{a b:Option Addr},YY a=YY b->a=b
 |none,none,_=>rfl
 |none,some ⟨_,_,none⟩,h=>by simp[YY] at h
 |none,some ⟨_,_,some _⟩,h=>by simp[YY] at h
 |some ⟨_,_,none⟩,none,h=>by simp[YY] at h
 |some ⟨_,_,some _⟩,none,h=>by simp[YY] at h
 |some ⟨_,_,none⟩,some ⟨_,_,none⟩,h=>by simp[YY] at h;simp[h]
 |some ⟨_,_,none⟩,some ⟨_,_,some _⟩,h=>by simp[YY] at h
 |some ⟨_,_,some _⟩,some ⟨_,_,none⟩,h=>by simp[YY] at h
 |some ⟨_,_,some _⟩,some ⟨_,_,some _⟩,h=>by simp[YY] at h;simp[h]
def mtT:Value->MT
 | .slice a l c=> .p (.l 3) (.p (YY a) (.p (.l l) (.l c)))
 | .pointer a=> .p (.l 4) (YY a)
 |v=>Xq v
def qcv{x y:Value}(hx:Value.simpleT x=true)(hy:Value.simpleT y=true)(h:mtT x=mtT y):x=y:=by
 cases x<;>cases y<;>first|(simp[Value.simpleT] at hx;done)|(simp[Value.simpleT] at hy;done)|skip
 case slice.slice a l c a' l' c'=>
  simp[mtT] at h;rw[Vh h.1,h.2.1,h.2.2]
 case pointer.pointer a b=>
  simp[mtT] at h;rw[Vh h]
 all_goals first|(exact NW rfl rfl h)|(simp[mtT,Xq] at h)
abbrev KU:=List (Nat×List Value)
def Fe(T:KU):Bool:=T.all fun p=>p.2.all Value.simpleT
def Y6(T:KU):MT:=mtL (fun p=> .p (.l p.1) (mtL mtT p.2)) T
def Xt{T U:KU}(hT:Fe T=true)(hU:Fe U=true)(h:Y6 T=Y6 U):T=U:=
 Ak (Q:=fun p=>p.2.all Value.simpleT=true) (fun x y h1 h2 h=>Prod.ext (MT.l.inj (MT.p.inj h).1) (Ak (Q:=fun v=>Value.simpleT v=true) (fun _ _ a b e=>qcv a b e) (fun v hv=>List.all_eq_true.1 h1 v hv) (fun v hv=>List.all_eq_true.1 h2 v hv) (MT.p.inj h).2))
  (fun p hp=>List.all_eq_true.1 hT p hp) (fun p hp=>List.all_eq_true.1 hU p hp) h
def qfm:∃f:KU->Nat,∀T U,Fe T=true->Fe U=true->f T=f U->T=U:=
 ⟨fun T=>(Y6 T).num,fun _ _ hT hU h=>Xt hT hU (MT.num_inj h)⟩
noncomputable def gE(T:KU):Nat:=bW+Classical.choose qfm T
def IU(T:KU):¬gE T<bW:=by unfold gE;omega
def qf1{T U:KU}(hT:Fe T=true)(hU:Fe U=true)(h:gE T=gE U):T=U:=Classical.choose_spec qfm T U hT hU (by unfold gE at h;omega)
end Go.Via
namespace Go.Via
open Go Go.RowKit
structure aF where
 base:Option Nat
 e:TypeId
 cs:List Value
 n:Nat
 own:Bool
structure St where
 nt:Nat
 t:List (Nat×Value)
 L:List aF
def look:List (Nat×Value)->Nat->Option Value
 |[],_=>none
 |(d,v)::l,k=>bif d==k then some v else look l k
structure Bs where
 w:World
 S:Nat->Prop
 D:List Deferred
abbrev Bs.of(w:World):Bs:=⟨w,fun _=>False,[]⟩
abbrev Bs.d0(B:Bs):Bs:=⟨B.w,B.S,[]⟩
instance:Coe World Bs:=⟨Bs.of⟩
def Bs.own(B:Bs)(g:Nat):Prop:=B.w.heap.size<=g∨B.S g
def Bs.le(B B':Bs):Prop:=∀g,B'.own g->B.own g
def Dy{w:World}{g:Nat}(h:Bs.own (Bs.of w) g):w.heap.size<=g:=h.elim id False.elim
class Mo where
 p:Prop
instance(priority:=low) mo0:Mo:=⟨False⟩
variable[Mo]
structure eQ(n:Nat)(w w':World):Prop where
 os:w'.os=w.os
 tape:w'.tape=w.tape
 output:w'.output=w.output
 size:w.heap.size<=w'.heap.size
 block:∀k,k<n->w'.heap[k]? =w.heap[k]?
 drawn:Mo.p->w.drawn<=w'.drawn
def eQ.refl(n:Nat)(w:World):eQ n w w:=⟨rfl,rfl,rfl,Nat.le_refl _,fun _ _=>rfl,fun _=>Nat.le_refl _⟩
def eQ.mono{n m:Nat}{w w':World}(h:eQ n w w')(hm:m<=n):eQ m w w':=⟨h.os,h.tape,h.output,h.size,fun k hk=>h.block k (Nat.lt_of_lt_of_le hk hm),h.drawn⟩
theorem eQ.alloc{n:Nat}{a w:World}(h:eQ n a w)(hn:n<=w.heap.size)(o:Obj):eQ n a (w.alloc o):=
 ⟨h.os,h.tape,h.output,Nat.le_trans h.size (by simp),fun k hk=>(Below.heap_alloc _ _ _ (by omega)).trans (h.block k hk),h.drawn⟩
def eQ.below{n:Nat}{w w':World}(h:eQ n w w'):Below n w w':=⟨h.os,h.tape,h.output,h.size,h.block⟩
structure lQ(B:Bs)(w:World):Prop where
 os:w.os=B.w.os
 tape:w.tape=B.w.tape
 output:w.output=B.w.output
 size:B.w.heap.size<=w.heap.size
 block:∀k,k<B.w.heap.size->¬B.S k->w.heap[k]? =B.w.heap[k]?
 drawn:Mo.p->B.w.drawn<=w.drawn
def lQ.drew{B:Bs}{w:World}(h:lQ B w):lQ B w.drew:=⟨h.os,h.tape,h.output,h.size,h.block,fun m=>Nat.le_succ_of_le (h.drawn m)⟩
def lQ.trans{B:Bs}{a c:World}(h:lQ B a)(k:eQ B.w.heap.size a c):lQ B c:=
 ⟨k.os.trans h.os,k.tape.trans h.tape,k.output.trans h.output,Nat.le_trans h.size k.size,fun i hi hS=>(k.block i hi).trans (h.block i hi hS),fun m=>Nat.le_trans (h.drawn m) (k.drawn m)⟩
def lQ.le{B:Bs}{w:World}(h:lQ B w):Bs.le B w:=fun g hg=>by
 rcases hg with hg|hg
 ·exact .inl (Nat.le_trans h.size hg)
 ·exact hg.elim
def lQ.below{b w:World}(h:lQ b w):eQ b.heap.size b w:=⟨h.os,h.tape,h.output,h.size,fun k hk=>h.block k hk id,h.drawn⟩
def lQ.of{b w:World}(h:eQ b.heap.size b w):lQ b w:=⟨h.os,h.tape,h.output,h.size,fun k hk _=>h.block k hk,h.drawn⟩
def lQ.one{B:Bs}{a c:World}{g:Nat}(h:lQ B a)(hg:B.own g)(h1:c.os=a.os)(h2:c.tape=a.tape)(h3:c.output=a.output)(h4:a.heap.size<=c.heap.size)(h5:∀i,i≠g->c.heap[i]? =a.heap[i]?)(h6:a.drawn<=c.drawn:=by exact Nat.le_refl _):lQ B c:=
 ⟨h1.trans h.os,h2.trans h.tape,h3.trans h.output,Nat.le_trans h.size h4,fun i hi hS=>(h5 i (fun e=>by
 subst e;rcases hg with hg|hg
 ·omega
 ·exact hS hg)).trans (h.block i hi hS),fun m=>Nat.le_trans (h.drawn m) h6⟩
def Vj(w:World)(b:aF)(g:Nat):Prop:=
 ∃cur:Array Value,(∃(e':TypeId) (fr:Nat×Nat),w.heap[g]? =some (.cells cur e' fr)∧(b.own=true->e'=b.e∧fr=(0,0))∧b.e<bW)∧cur.size=b.n∧cur.toList.take b.cs.length=b.cs
def qih(e:Nat)(l:List (Value×Value))(es:Array MapEntry):Prop:=
 e=mE l∨∃(q:Nat) (z:MapEntry),e=mQ z.born z.key l∧es[q]? =some z∧Value.simple z.key=true
def qii(w:World)(b:aF)(g:Nat):Prop:=
 ∃(l:List (Value×Value)) (es:Array MapEntry) (clock:Nat),qih b.e l es∧b.cs=[]∧b.n=0∧rW l=true∧w.heap[g]? =some (.map es clock)∧es.toList.map (fun e=>(e.key,e.val))=l∧MapKept.Stamped es clock
def qW(B:Bs)(w:World)(b:aF)(g:Nat):Prop:=(Vj w b g∨qii w b g)∧(b.own=true->B.own g)
theorem qW.cells{B:Bs}{w:World}{b:aF}{g:Nat}(h:qW B w b g)(hn:b.n≠0∨b.cs≠[]):Vj w b g:=by
 rcases h.1 with h|⟨_,_,_,_,h1,h2,_⟩
 ·exact h
 ·rcases hn with hn|hn
  ·exact absurd h2 hn
  ·exact absurd h1 hn
def qW.lt{B:Bs}{w:World}{b:aF}{g:Nat}(h:qW B w b g):g<w.heap.size:=by
 rcases h.1 with⟨cur,⟨_,_,h3,_⟩,_⟩|⟨_,_,_,_,_,_,_,h3,_⟩<;>exact(Array.getElem?_eq_some_iff.1 h3).1
def qW.heap{B:Bs}{w w':World}{b:aF}{g:Nat}(h:qW B w b g)(he:w'.heap[g]? =w.heap[g]?):qW B w' b g:=by
 refine⟨?_,h.2⟩;rcases h.1 with⟨cur,⟨e',fr,h3,h4⟩,h5⟩|⟨l,es,c,a1,a2,a3,a4,h3,a5⟩
 ·exact .inl ⟨cur,⟨e',fr,by rw[he];exact h3,h4⟩,h5⟩
 ·exact .inr ⟨l,es,c,a1,a2,a3,a4,by rw[he];exact h3,a5⟩
def qij(e n:Nat):List Value:=[.bool true,.int .u8 (-1),.int .i64 e,.int .i64 n]
def qkj:List Value->Bool
 |[_,.int .u8 (.negSucc _),_,_]=>false
 |_=>true
def qik(s:ByteArray)(pos:Nat):List Value:=[.string s,.int .u8 (-1),.int .i64 (pos:Nat),.bool true]
def qf2:Value->Bool
 | .int .u8 (.negSucc 1)=>true
 |_=>false
def Agr(cs full:List Value):Prop:=full.length<=cs.length∧∀(j:Nat) (v:Value),cs[j]? =some v->qf2 v=false->full[j]? =some v
def Agr.refl(cs:List Value):Agr cs cs:=⟨Nat.le_refl _,fun _ _ h _=>h⟩
def rX(w:World)(p:Nat×List Value):Prop:=
 (∃(cur:Array Value) (e':TypeId) (fr:Nat×Nat),w.heap[p.1]? =some (.cells cur e' fr)∧((qkj p.2=true∧Agr p.2 (cur.toList.take p.2.length))∨p.2=qij e' cur.size))∨∃(s:ByteArray) (pos:Nat),w.heap[p.1]? =some (.stringIter s pos)∧p.2=qik s pos
def rX.lt{w:World}{p:Nat×List Value}(h:rX w p):p.1<w.heap.size:=by
 rcases h with⟨_,_,_,h1,_⟩|⟨_,_,h1,_⟩<;>exact(Array.getElem?_eq_some_iff.1 h1).1
def rX.heap{w w':World}{p:Nat×List Value}(h:rX w p)(he:w'.heap[p.1]? =w.heap[p.1]?):rX w' p:=by
 rcases h with⟨cur,e',fr,h1,h2⟩|⟨s,pos,h1,h2⟩
 ·exact .inl ⟨cur,e',fr,by rw[he];exact h1,h2⟩
 ·exact .inr ⟨s,pos,by rw[he];exact h1,h2⟩
def lS(B:Bs)(w:World)(L:List aF):Prop:=∀b∈L,b.base=none->∀T:KU,Fe T=true->b.e=gE T->∀p∈T,rX w p∧(b.own=true->B.own p.1)∧∀c∈L,c.own=true->c.base≠some p.1
def lS.sub{B:Bs}{w:World}{L L':List aF}(h:lS B w L)(h1:∀b'∈L',b'.base=none->b'.e<bW∨∃b∈L,b.base=none∧b.e=b'.e∧(b'.own=true->b.own=true))
 (h2:∀c'∈L',c'.own=true->∀g,c'.base=some g->∃c∈L,c.own=true∧c.base=some g):lS B w L':=fun b' hb' hn T hT he p hp=>by
 rcases h1 b' hb' hn with hlt|⟨b,hb,n1,n2,n3⟩
 ·exact absurd (he▸hlt) (IU T)
 ·obtain⟨a1,a2,a3⟩:=h b hb n1 T hT (n2.trans he) p hp;refine⟨a1,fun ho=>a2 (n3 ho),fun c' hc' ho hg=>?_⟩
  obtain⟨c,hc,c1,c2⟩:=h2 c' hc' ho p.1 hg;exact a3 c hc c1 c2
def lS.step{B:Bs}{w w':World}{L:List aF}(h:lS B w L)(hw:∀g,g<w.heap.size->(∀c∈L,c.own=true->c.base≠some g)->w'.heap[g]? =w.heap[g]?):lS B w' L:=fun b hb hn T hT he p hp=>by
 obtain⟨a1,a2,a3⟩:=h b hb hn T hT he p hp;exact⟨a1.heap (hw p.1 a1.lt a3),a2,a3⟩
theorem lS.base{B B':Bs}{w:World}{L:List aF}(h:lS B' w L)(hB:Bs.le B B'):lS B w L:=fun b hb hn T hT he p hp=>by
 obtain⟨a1,a2,a3⟩:=h b hb hn T hT he p hp;exact⟨a1,fun ho=>hB _ (a2 ho),a3⟩
def lS.app{B:Bs}{w:World}{L new:List aF}(h:lS B w L)(hn:lS B w new)
 (h1:∀b∈L,b.base=none->∀T:KU,Fe T=true->b.e=gE T->∀p∈T,∀c∈new,c.own=true->c.base≠some p.1)
 (h2:∀b∈new,b.base=none->∀T:KU,Fe T=true->b.e=gE T->∀p∈T,∀c∈L,c.own=true->c.base≠some p.1):lS B w (L++new):=fun b hb hn' T hT he p hp=>by
 rcases List.mem_append.1 hb with hb|hb
 ·obtain⟨a1,a2,a3⟩:=h b hb hn' T hT he p hp;refine⟨a1,a2,fun c hc ho=>?_⟩
  rcases List.mem_append.1 hc with hc|hc
  ·exact a3 c hc ho
  ·exact h1 b hb hn' T hT he p hp c hc ho
 ·obtain⟨a1,a2,a3⟩:=hn b hb hn' T hT he p hp;refine⟨a1,a2,fun c hc ho=>?_⟩
  rcases List.mem_append.1 hc with hc|hc
  ·exact h2 b hb hn' T hT he p hp c hc ho
  ·exact a3 c hc ho
def lS.nil(B:Bs)(w:World):lS B w []:=fun b hb=>by cases hb
structure aT(B:Bs)(L:List aF)(w:World):Prop where
 bel:lQ B w
 blk:∀(k:Nat) (b:aF),L[k]? =some b->(∀g,b.base=some g->qW B w b g)∧(b.base=none->b.cs=[]∧b.n=0)
 apart:∀(i j g:Nat) (bi bj:aF),i≠j->L[i]? =some bi->L[j]? =some bj->bi.own=true->bi.base=some g->bj.base≠some g
 grp:lS B w L
def aT.d0{B:Bs}{w:World}{L:List aF}(h:aT B L w):aT B.d0 L w:=⟨⟨h.bel.os,h.bel.tape,h.bel.output,h.bel.size,h.bel.block,h.bel.drawn⟩,h.blk,h.apart,h.grp⟩
def aT.of_d0{B:Bs}{w:World}{L:List aF}(h:aT B.d0 L w):aT B L w:=⟨⟨h.bel.os,h.bel.tape,h.bel.output,h.bel.size,h.bel.block,h.bel.drawn⟩,h.blk,h.apart,h.grp⟩
def aT.below{b w:World}{L:List aF}(h:aT b L w):eQ b.heap.size b w:=h.bel.below
structure kD(B:Bs)(s:St)(a:Act)(w:World):Prop where
 df:a.defers=B.D
 size:a.tmps.size=s.nt
 tmp:∀(d:Nat) (v:Value),look s.t d=some v->a.tmps[d]? =some v
 mem:aT B s.L w
def St.put(s:St)(dst:Option Nat)(v:Value):St:=
 match dst with
 |some d=>{s with t:=(d,v)::s.t}
 |none=>s
def ev(t:List (Nat×Value)):Operand->Option Value
 | .tmp d=>look t d
 | .const v=>some v
 | .global g=>some (.pointer (some ⟨g,0,none⟩))
 | .func f=>some (.func (.func f) #[] #[])
theorem bT{d k:Nat}{v:Value}{l:List (Nat×Value)}(h:d≠k):look ((d,v)::l) k=look l k:=by
 have:(d==k)=false:=(by simpa using h);simp[look,this]
theorem dW{d:Nat}{v:Value}{l:List (Nat×Value)}:look ((d,v)::l) d=some v:=by
 simp[look]
def aT.drew{B:Bs}{w:World}{L:List aF}(h:aT B L w):aT B L {w with drawn:=w.drawn+1}:=
 ⟨h.bel.drew,h.blk,h.apart,h.grp⟩
def kD.drew{B:Bs}{w:World}{s:St}{a:Act}(h:kD B s a w):kD B s a {w with drawn:=w.drawn+1}:=
 ⟨h.df,h.size,h.tmp,h.mem.drew⟩
def aT.lt{B:Bs}{w:World}{L:List aF}(h:aT B L w){k:Nat}{b:aF}(hk:L[k]? =some b){g:Nat}(hg:b.base=some g):g<w.heap.size:=by
 exact((h.blk k b hk).1 g hg).lt
def aT.ext{B:Bs}{w w':World}{L new:List aF}(h:aT B L w)(hw:eQ w.heap.size w w')
 (hnew:∀(k:Nat) (b:aF),new[k]? =some b->(∀g,b.base=some g->qW B w' b g∧w.heap.size<=g)∧(b.base=none->b.cs=[]∧b.n=0))
 (hap:∀(i j g:Nat) (bi bj:aF),i≠j->new[i]? =some bi->new[j]? =some bj->bi.base=some g->bj.base≠some g)(hng:∀b∈new,b.base=none->b.e<bW:=by intro b hb hn;first|(simp at hb;done)|(simp at hb;subst hb;cases hn)):aT B (L++new) w':=by
 have hB:=h.bel.size;refine⟨h.bel.trans (hw.mono hB),fun k b hk=>?_,fun i j g bi bj hij hi hj ho hg hgj=>?_,?_⟩
 rotate_left 2
 ·refine(h.grp.step fun g hg _=>hw.block g hg).app (fun b hb hn T hT he=>absurd (he▸hng b hb hn) (IU T)) (fun b hb hn T hT he p hp c hc ho hg=>?_) (fun b hb hn T hT he=>absurd (he▸hng b hb hn) (IU T));have h1:=(h.grp b hb hn T hT he p hp).1.lt;obtain⟨j,hj⟩:=List.mem_iff_getElem?.1 hc;have h2:=((hnew j c hj).1 _ hg).2;omega
 ·rw[List.getElem?_append] at hk
  split at hk
  ·obtain⟨h1,h2⟩:=h.blk k b hk;exact⟨fun g hg=>(h1 g hg).heap (hw.block g (h.lt hk hg)),h2⟩
  ·obtain⟨h1,h2⟩:=hnew _ b hk;exact⟨fun g hg=>(h1 g hg).1,h2⟩
 ·rw[List.getElem?_append] at hi hj
  split at hi<;>split at hj
  ·exact h.apart i j g bi bj hij hi hj ho hg hgj
  ·have h1:=h.lt hi hg;have h2:=((hnew _ bj hj).1 g hgj).2;omega
  ·have h1:=h.lt hj hgj;have h2:=((hnew _ bi hi).1 g hg).2;omega
  ·exact hap _ _ g bi bj (by omega) hi hj hg hgj
theorem aT.alloc{B:Bs}{w:World}{L:List aF}(h:aT B L w)(e:TypeId)(cs:Array Value)(he:e<bW):
 aT B (L++[⟨some w.heap.size,e,cs.toList,cs.size,true⟩]) (w.alloc (.cells cs e)):=by
 refine h.ext ((eQ.refl _ _).alloc (Nat.le_refl _) _) (fun k b hk=>?_) (fun i j g bi bj hij hi hj=>?_)
 ·cases k with
  |zero=>
   simp at hk;subst hk;refine⟨fun g hg=>?_,fun hg=>by cases hg⟩
   simp only[Option.some.injEq] at hg;subst hg;exact⟨⟨.inl ⟨cs,⟨_,_,heap_alloc_new w _,fun _=>⟨rfl,rfl⟩,he⟩,rfl,List.take_of_length_le (by simp)⟩,fun _=> .inl h.bel.size⟩,Nat.le_refl _⟩
  |succ k=>simp at hk
 ·cases i with
  |zero=>cases j with
   |zero=>exact absurd rfl hij
   |succ j=>simp at hj
  |succ i=>simp at hi
def aT.same{B:Bs}{w w':World}{L:List aF}(h:aT B L w)(hw:eQ w.heap.size w w'):aT B L w':=by
 have:=h.ext (new:=[]) hw (fun k b hk=>by simp at hk) (fun i j g bi bj hij hi=>by simp at hi)
 simpa using this
def lS.mem{B:Bs}{w:World}{L L':List aF}(h:lS B w L)(hs:∀b∈L',b∈L):lS B w L':=
 h.sub (fun b hb hn=> .inr ⟨b,hs b hb,hn,rfl,id⟩) (fun c hc ho g hg=>⟨c,hs c hc,ho,hg⟩)
def aT.reindex{B:Bs}{w:World}{L L':List aF}(h:aT B L w)(f:Nat->Nat)(hf:∀(i:Nat) (b:aF),L'[i]? =some b->L[f i]? =some b)(hi:∀i j,i<L'.length->j<L'.length->f i=f j->i=j):aT B L' w:=
 ⟨h.bel,fun k b hk=>h.blk (f k) b (hf k b hk),fun i j g bi bj hij h1 h2 ho hg hgj=>
 h.apart (f i) (f j) g bi bj (fun e=>hij (hi i j (List.getElem?_eq_some_iff.1 h1).1 (List.getElem?_eq_some_iff.1 h2).1 e)) (hf i bi h1) (hf j bj h2) ho hg hgj,
 h.grp.mem fun b hb=>by obtain⟨i,hi⟩:=List.mem_iff_getElem?.1 hb;exact List.mem_of_getElem? (hf i b hi)⟩
def aT.joinF{B:Bs}{w w':World}{L new:List aF}(h:aT B L w)(h':aT w new w')(hc:∀b∈new,b.own=true):aT B (L++new) w':=by
 have hs:=h.same h'.below;refine⟨hs.bel,fun k b hk=>?_,fun i j g bi bj hij hi hj ho hg hgj=>?_,hs.grp.app (h'.grp.base h.bel.le) (fun b hb hn T hT he p hp c hc' ho hg=>?_) (fun b hb hn T hT he p hp c hc' ho hg=>?_)⟩
 rotate_left 2
 ·have h1:=(h.grp b hb hn T hT he p hp).1.lt;obtain⟨j,hj⟩:=List.mem_iff_getElem?.1 hc';have h2:=Dy (((h'.blk j c hj).1 _ hg).2 ho);omega
 ·have h1:=Dy ((h'.grp b hb hn T hT he p hp).2.1 (hc b hb));obtain⟨j,hj⟩:=List.mem_iff_getElem?.1 hc';have h2:=h.lt hj hg;omega
 ·rw[List.getElem?_append] at hk
  split at hk
  ·exact hs.blk k b hk
  ·obtain⟨a1,a2⟩:=h'.blk _ b hk;exact⟨fun g hg=>⟨(a1 g hg).1,fun ho=>h.bel.le _ ((a1 g hg).2 ho)⟩,a2⟩
 ·rw[List.getElem?_append] at hi hj
  split at hi<;>split at hj
  ·exact hs.apart i j g bi bj hij hi hj ho hg hgj
  ·have h1:=h.lt hi hg;have h2:=Dy (((h'.blk _ bj hj).1 g hgj).2 (hc bj (List.mem_of_getElem? hj)));omega
  ·have h1:=h.lt hj hgj;have h2:=Dy (((h'.blk _ bi hi).1 g hg).2 ho);omega
  ·exact h'.apart _ _ g bi bj (by omega) hi hj ho hg hgj
theorem kD.put{B:Bs}{w w':World}{s:St}{a:Act}(h:kD B s a w){dst:Option Nat}{v:Value}{L':List aF}
 (hd:∀d,dst=some d->d<s.nt)(hL:aT B L' w'):kD B (({s with L:=L'}:St).put dst v) (a.put dst v) w':=by
 cases dst with
 |none=>exact⟨h.df,h.size,h.tmp,hL⟩
 |some d=>
  have hds:d<a.tmps.size:=(by rw[h.size];exact hd d rfl);refine⟨h.df,by simpa[Act.put,St.put] using h.size,fun k x hx=>?_,hL⟩
  by_cases hk:d=k
  ·subst hk;simp only[St.put,dW,Option.some.injEq] at hx;subst hx;simp[Act.put,hds]
  ·simp only[St.put,bT hk] at hx;have:=h.tmp k x hx;simp[Act.put,Array.getElem?_setIfInBounds_ne hk,this]
def kD.put0{B:Bs}{w:World}{s:St}{a:Act}(h:kD B s a w){dst:Option Nat}{v:Value}
 (hd:∀d,dst=some d->d<s.nt):kD B (s.put dst v) (a.put dst v) w:=h.put (L':=s.L) hd h.mem
theorem kD.ev{B:Bs}{w:World}{s:St}{a:Act}(h:kD B s a w){x:Operand}{v:Value}(hx:ev s.t x=some v):a.eval x=v:=by
 cases x with
 |tmp d=>
  have h1:=h.tmp d v hx;simp[Act.eval,h1]
 |const v=>simp only[Go.Via.ev,Option.some.injEq] at hx;subst hx;rfl
 |global g=>simp only[Go.Via.ev,Option.some.injEq] at hx;subst hx;rfl
 |func f=>simp only[Go.Via.ev,Option.some.injEq] at hx;subst hx;rfl
def PR:aF:=⟨none,0,[],0,false⟩
def blank:List Nat->List aF->List aF
 |[],L=>L
 |k::bl,L=>blank bl (bif Nat.blt k 1000000 then L.set k PR else L)
def St.bk(s:St)(bl:List Nat):St:={s with L:=blank bl s.L}
def aT.blank1{B:Bs}{w:World}{L:List aF}(h:aT B L w)(k:Nat):aT B (L.set k PR) w:=by
 have hb:∀(m:Nat) (b:aF),(L.set k PR)[m]? =some b->b=PR∨L[m]? =some b:=fun m b hm=>by
  by_cases e:k=m
  ·subst e
   by_cases hl:k<L.length
   ·rw[List.getElem?_set_self hl] at hm;cases hm;exact .inl rfl
   ·rw[List.getElem?_eq_none (by simp;omega)] at hm;cases hm
  ·rw[List.getElem?_set_ne e] at hm;exact .inr hm
 refine⟨h.bel,fun m b hm=>?_,fun i j g bi bj hij hi hj ho hg hgj=>?_,h.grp.sub (fun b hm hn=>?_) (fun c hm ho g hg=>?_)⟩
 rotate_left 2
 ·obtain⟨m,hm⟩:=List.mem_iff_getElem?.1 hm;rcases hb m b hm with rfl|h1
  ·exact .inl (by decide)
  ·exact .inr ⟨b,List.mem_of_getElem? h1,hn,rfl,id⟩
 ·obtain⟨m,hm⟩:=List.mem_iff_getElem?.1 hm;rcases hb m c hm with rfl|h1
  ·cases hg
  ·exact⟨c,List.mem_of_getElem? h1,ho,hg⟩
 ·rcases hb m b hm with rfl|h1
  ·exact⟨fun g hg=>(by cases hg),fun _=>⟨rfl,rfl⟩⟩
  ·exact h.blk m b h1
 ·rcases hb i bi hi with rfl|h1
  ·cases hg
  ·rcases hb j bj hj with rfl|h2
   ·cases hgj
   ·exact h.apart i j g bi bj hij h1 h2 ho hg hgj
theorem aT.blank{B:Bs}{w:World}:∀{bl:List Nat} {L:List aF},aT B L w->aT B (Go.Via.blank bl L) w
 |[],_,h=>h
 |k::bl,_,h=>aT.blank (bl:=bl) (match Nat.blt k 1000000 with|true=>h.blank1 k|false=>h)
def kD.bk{B:Bs}{w:World}{s:St}{a:Act}(h:kD B s a w)(bl:List Nat):kD B (s.bk bl) a w:=⟨h.df,h.size,h.tmp,h.mem.blank⟩
def rY:∀(bl:List Nat) (L new:List aF),∃new',blank bl (L++new)=blank bl L++new'
 |[],L,new=>⟨new,rfl⟩
 |k::bl,L,new=>by
  unfold blank;cases Nat.blt k 1000000 with
  |false=>exact rY bl L new
  |true=>
   simp only[cond_true]
   by_cases hk:k<L.length
   ·obtain⟨n',h⟩:=rY bl (L.set k PR) new;refine⟨n',?_⟩;rw[List.set_append_left _ _ hk];exact h
   ·obtain⟨n',h⟩:=rY bl (L.set k PR) (new.set (k-L.length) PR);refine⟨n',?_⟩;have e:L.set k PR=L:=List.set_eq_of_length_le (by omega);rw[List.set_append_right _ _ (by omega)];rw[e] at h ⊢;exact h
theorem Y7(s:St)(bl:List Nat)(dst:Option Nat)(v:Value):(s.put dst v).bk bl=(s.bk bl).put dst v:=by cases dst<;>rfl
def isSto(o:Oper):Bool:=match o.op with
 | .store .. | .mapUpdate .. | .entryStore .. =>true
 |_=>false
def isME(o:Oper):Bool:=match o.op with
 | .mapEntry .. =>true
 |_=>false
def jy(o:Oper):Bool:=match o.op with
 | .call {callee:= .value _,.. }=>true
 |_=>false
def iq(o:Oper):Bool:=match o.op with
 | .call {callee:= .value _,.. }| .call {callee:= .builtin .len,.. }| .call {callee:= .builtin .cap,.. }| .call {callee:= .builtin .min,.. }| .call {callee:= .builtin .max,.. }| .call {callee:= .builtin .unsafeSliceData,.. }| .move _| .nilCheck _| .pick .. | .load .. | .fieldAddr .. | .field .. | .indexAddr .. | .index .. | .binOp .. | .unOp .. | .convert .. | .extract .. | .build .. | .slice .. | .lookup .. | .makeFunc .. =>true
 |_=>false
def ax(ops:Array Oper)(o:Oper)(t:List (Nat×Value)):Option Bool:=
 match o.guard with
 |none=>some true
 |some (j,want)=>
  match(ops[j]?).bind (·.dst) with
  |some d=>(look t d).map fun v=>match v with
   | .bool b=>b==want
   |_=>false
  |none=>some false
theorem Dz{ops:Array Oper}{o:Oper}{B:Bs}{w:World}{s:St}{a:Act}(h:kD B s a w){g:Bool}(hg:ax ops o s.t=some g):
 Region.wanted o (yielded ops a.tmps)=g:=by
 unfold ax at hg;unfold Region.wanted
 split at hg
 ·rename_i h0;rw[h0];simpa using hg
 ·rename_i j want h0
  rw[h0];dsimp only;unfold yielded;cases hd:(ops[j]?).bind (·.dst) with
  |none=>rw[hd] at hg;simp at hg;subst hg;simp
  |some d=>
   rw[hd] at hg;simp only[Option.map_eq_some_iff] at hg;obtain⟨v,h1,h2⟩:=hg;have h3:=h.tmp d v h1;simp only[Option.bind_some,h3];cases v<;>simp_all
def DC(P:Program)(o:Oper)(s:St)(v:Value):Prop:=
 ∀(B:Bs) (a:Act) (w:World),kD B s a w->(execOp a.eval o).run P w= .ok (.value v) w
def NY(P:Program)(o:Oper)(s:St)(X:Type)(res:X->Value)(new:X->List aF):Prop:=
 ∀(B:Bs) (a:Act) (w:World),kD B s a w->∃f args,(execOp a.eval o).run P w= .ok (.enter f args) w∧
  Calls P f args w fun e w'=>∃x,e= .returned (res x)∧aT B (s.L++new x) w'
def DD(P:Program)(o:Oper)(s:St)(X:Type)(res:X->Value)(new:X->List aF):Prop:=
 ∀(B:Bs) (a:Act) (w:World),kD B s a w->∃f args,(execOp a.eval o).run P w= .ok (.enter f args) w∧
  Calls P f args w fun e w'=>∃x,e= .returned (res x)∧aT w (new x) w'∧∀b∈new x,b.own=true
def qcw(P:Program)(o:Oper)(s:St)(X:Type)(res:X->Value)(nL:X->List aF):Prop:=
 ∀(B:Bs) (a:Act) (w:World),kD B s a w->(∃f args,(execOp a.eval o).run P w= .ok (.enter f args) w∧
 Calls P f args w fun e w'=>∃x,e= .returned (res x)∧aT B (nL x) w')∨∃x w',(execOp a.eval o).run P w= .ok (.value (res x)) w'∧aT B (nL x) w'
def jU(t:List (Nat×Value)):List (Nat×Operand)->Option (List (Nat×Value))
 |[]=>some []
 |p::l=>(ev t p.2).bind fun v=>(jU t l).map fun r=>(p.1,v)::r
theorem Cc{t:List (Nat×Value)}:∀{parts:List (Nat×Operand)} {ps:List (Nat×Value)},parts.map (fun p=>(p.1,ev t p.2))=ps.map (fun p=>(p.1,some p.2))->jU t parts=some ps
 |[],[],_=>rfl
 |[],_::_,h=>by simp at h
 |_::_,[],h=>by simp at h
 |p::parts,q::ps,h=>by
  simp only[List.map_cons,List.cons.injEq,Prod.mk.injEq] at h;unfold jU;rw[h.1.2,Cc h.2,h.1.1];rfl
theorem sZ{t t':List (Nat×Value)}:∀{l:List (Nat×Operand)},(∀x∈l.map (·.2),ev t x=ev t' x)->jU t l=jU t' l
 |[],_=>rfl
 |p::l,h=>by
  unfold jU;rw[h p.2 (by simp),sZ fun x hx=>h x (by simp at hx ⊢;exact .inr hx)]
theorem yP{t:List (Nat×Value)}{f:Operand->Value}(hf:∀x v,ev t x=some v->f x=v):∀{l:List (Nat×Operand)} {ps:List (Nat×Value)},jU t l=some ps->l.map (fun p=>(p.1,f p.2))=ps
 |[],_,h=>by cases h;rfl
 |p::l,ps,h=>by
  unfold jU at h;cases h1:ev t p.2 with
  |none=>rw[h1] at h;cases h
  |some v=>
   rw[h1] at h;cases h2:jU t l with
   |none=>rw[h2] at h;cases h
   |some r=>
    rw[h2] at h;cases h;rw[List.map_cons,hf _ _ h1,yP hf h2]
def isAl(o:Oper):Bool:=match o.op with
 | .alloc _| .buildSlice .. =>true
 |_=>false
open Classical in
noncomputable def bsV(P:Program)(T:TypeId)(n:Nat)(ps:Array (Nat×Value)):Option (TypeId×Array Value):=
 if h:∃ec:TypeId×Array Value,ec.1<bW∧∀w,(Instr.buildSlice T n ps).run P w= .ok (.slice (some ⟨w.heap.size,0,none⟩) n n) (w.alloc (.cells ec.2 ec.1)) then some h.choose else none
def Y8{P:Program}{T:TypeId}{n:Nat}{ps:Array (Nat×Value)}{e:TypeId}{cs:Array Value}(he:e<bW)(h:∀w,(Instr.buildSlice T n ps).run P w= .ok (.slice (some ⟨w.heap.size,0,none⟩) n n) (w.alloc (.cells cs e))):bsV P T n ps=some (e,cs):=by
 have hx:∃ec:TypeId×Array Value,ec.1<bW∧∀w,(Instr.buildSlice T n ps).run P w= .ok (.slice (some ⟨w.heap.size,0,none⟩) n n) (w.alloc (.cells ec.2 ec.1)):=⟨(e,cs),he,h⟩;unfold bsV;rw[dif_pos hx];have h1:=hx.choose_spec.2 ⟨#[],fun _ _=>0,0,default,#[]⟩
 rw[h] at h1
 injection h1 with _ h1
 have h2:(some (Obj.cells cs e):Option Obj)=some (Obj.cells hx.choose.2 hx.choose.1):=congrArg (fun w:World=>w.heap[0]?) h1
 injection h2 with h2
 injection h2 with h3 h4
 exact congrArg some (Prod.ext h4.symm h3.symm)
def Vk{P:Program}{T:TypeId}{n:Nat}{ps:Array (Nat×Value)}{e:TypeId}{cs:Array Value}(h:bsV P T n ps=some (e,cs)):e<bW∧∀w,(Instr.buildSlice T n ps).run P w= .ok (.slice (some ⟨w.heap.size,0,none⟩) n n) (w.alloc (.cells cs e)):=by
 unfold bsV at h
 split at h
 ·rename_i hx
  have h1:=hx.choose_spec;rw[Option.some.inj h] at h1;exact h1
 ·cases h
noncomputable def yQ(P:Program)(t:List (Nat×Value))(o:Oper):Option (TypeId×Array Value):=match o.op with
 | .alloc T=>if T<bW then((P.info? T).bind (·.zero)).map fun z=>(T,z.cells) else none
 | .buildSlice T n parts=>(jU t parts.toList).bind fun ps=>bsV P T n ps.toArray
 |_=>none
def alV(o:Oper)(g:Nat):Value:=match o.op with
 | .buildSlice _ n _=> .slice (some ⟨g,0,none⟩) n n
 |_=> .pointer (some ⟨g,0,none⟩)
theorem Y9{P:Program}{o:Oper}{t:List (Nat×Value)}{e:TypeId}{cs:Array Value}(h:yQ P t o=some (e,cs))(f:Operand->Value)(hf:∀x v,ev t x=some v->f x=v)(w:World):(execOp f o).run P w= .ok (.value (alV o w.heap.size)) (w.alloc (.cells cs e)):=by
 unfold yQ at h;unfold alV
 split at h
 ·rename_i T ho
  split at h
  rotate_left
  ·cases h
  simp only[Option.map_eq_some_iff,Prod.mk.injEq] at h;obtain⟨z,hz,rfl,rfl⟩:=h;cases hq:P.info? T with
  |none=>rw[hq] at hz;cases hz
  |some inf=>
   rw[hq] at hz;simp only[Option.bind_some] at hz;simp[execOp,ho,Instr.alloc,zeroValue,typeInfo,hq,hz,newVar,newRow]
 ·rename_i T n parts ho
  cases hp:jU t parts.toList with
  |none=>rw[hp] at h;cases h
  |some ps=>
   rw[hp] at h;have hb:=(Vk (show bsV P T n ps.toArray=some (e,cs) from h)).2;have hv:=yP hf hp;obtain⟨l⟩:=parts;simp only at hv;simp[execOp,ho,hv,hb w]
 ·cases h
def qcy{P:Program}{o:Oper}{t:List (Nat×Value)}{e:TypeId}{cs:Array Value}(h:yQ P t o=some (e,cs)):e<bW:=by
 unfold yQ at h
 split at h
 ·split at h
  ·rename_i hlt
   simp only[Option.map_eq_some_iff,Prod.mk.injEq] at h;obtain⟨z,_,rfl,_⟩:=h;exact hlt
  ·cases h
 ·rename_i T n parts ho
  cases hp:jU t parts.toList with
  |none=>rw[hp] at h;cases h
  |some ps=>
   rw[hp] at h;exact(Vk (show bsV P T n ps.toArray=some (e,cs) from h)).1
 ·cases h
def alB(g:Nat)(e:TypeId)(cs:Array Value):aF:=⟨some g,e,cs.toList,cs.size,true⟩
def Ik(bl:List Nat):Bool:=bl.contains 3000000
def Eff(P:Program)(o:Oper)(s:St)(X:Type)(nx:X->St):Prop:=
 ∀(B:Bs) (a:Act) (w:World),kD B s a w->o.wp P a w (fun a' w'=>∃x,kD B (nx x) a' w') (fun _ _ _=>False)
def Za(P:Program)(o:Oper)(s:St)(L':List aF):Prop:=
 ∀(B:Bs) (a:Act) (w:World),kD B s a w->∃w',(execOp a.eval o).run P w= .ok .skip w'∧aT B L' w'
def Fa(bl:List Nat):Bool:=bl.any fun k=>Nat.blt k 1000000
def yR(o:Oper):Bool:=match o.op with
 | .move _| .extract .. | .build .. =>true
 |_=>false
open Classical in
noncomputable def Ff(P:Program)(T:TypeId)(ps:Array (Nat×Value)):Option Value:=
 if h:∃v,∀w,(Instr.build T ps).run P w= .ok v w then some h.choose else none
def PT{P:Program}{T:TypeId}{ps:Array (Nat×Value)}{v:Value}(h:∀w,(Instr.build T ps).run P w= .ok v w):Ff P T ps=some v:=by
 have he:∃v,∀w,(Instr.build T ps).run P w= .ok v w:=⟨v,h⟩;unfold Ff;rw[dif_pos he];have h1:=he.choose_spec ⟨#[],fun _ _=>0,0,default,#[]⟩
 rw[h] at h1
 injection h1 with h1
 rw[<-h1]
def Tz{P:Program}{T:TypeId}{ps:Array (Nat×Value)}{v:Value}(h:Ff P T ps=some v):∀w,(Instr.build T ps).run P w= .ok v w:=by
 unfold Ff at h
 split at h
 ·rename_i he
  cases h;exact he.choose_spec
 ·cases h
noncomputable def nz(P:Program)(t:List (Nat×Value))(o:Oper):Option Value:=match o.op with
 | .move x=>ev t x
 | .extract x i=>match ev t x with
   |some (.tuple vs)=>vs[i]?
   |_=>none
 | .build T parts=>(jU t parts.toList).bind fun ps=>Ff P T ps.toArray
 |_=>none
def Il(bl:List Nat):Bool:=bl==[1000000]
def isAsg(o:Oper):Bool:=match o.op with
 | .assign _=>true
 |_=>false
def NZ(bl:List Nat)(o:Oper):Bool:=iq o||(isAsg o&&bl.contains 2000000)
def iD(P:Program)(bl:List Nat)(ops:Array Oper)(o:Oper)(s:St)(K:St->Prop):Prop:=
 (∀d,o.dst=some d->d<s.nt)∧∃g,ax ops o s.t=some g∧
  ((g=false∧K (s.put o.dst undef))∨
   (g=true∧(((Ik bl&&(isAl o||isSto o))=false∧∃v,(DC P o (s.bk bl) v∧(Ik bl=true->yR o=true->nz P s.t o=some v))∧K (s.put o.dst v))∨
 (jy o=true∧∃(X:Type) (res:X->Value) (new:X->List aF),NY P o s X res new∧(Ik bl=true->DD P o s X res new∧Nonempty X)∧∀x,K (({s with L:=s.L++new x}:St).put o.dst (res x)))∨
 ((!Il bl&&NZ bl o)=false∧(Ik bl&&(isAl o||isSto o))=false∧(!Il bl&&((isSto o||isME o)&&Fa bl))=false∧∃(X:Type) (nx:X->St),Eff P o s X nx∧∀x,K (nx x))∨
 (isSto o=true∧o.dst=none∧∃L',Za P o s L'∧(Fa bl=true->blank bl L'=blank bl s.L)∧K {s with L:=L'})∨
 (isAl o=true∧∃(e:TypeId) (cs:Array Value),yQ P s.t o=some (e,cs)∧∀g,K (({s with L:=s.L++[alB g e cs]}:St).put o.dst (alV o g)))∨
 ((jy o||isME o)=true∧Fa bl=true∧∃(X:Type) (res:X->Value) (nL:X->List aF),qcw P o s X res nL∧(∀x,blank bl (nL x)=blank bl s.L)∧∀x,K (({s with L:=nL x}:St).put o.dst (res x))))))
def aX(P:Program)(bl:List Nat)(ops:Array Oper):List Oper->St->(St->Prop)->Prop
 |[],s,K=>K s
 |o::rest,s,K=>iD P bl ops o s fun s'=>aX P bl ops rest s' K
def iD.mono{P:Program}{bl:List Nat}{ops:Array Oper}{o:Oper}{s:St}{K K':St->Prop}(h:∀s,K s->K' s)(hs:iD P bl ops o s K):iD P bl ops o s K':=by
 obtain⟨h0,g,hg,hh⟩:=hs;refine⟨h0,g,hg,?_⟩;rcases hh with⟨h1,h2⟩|⟨h1,⟨h2,v,h3,h4⟩|⟨h2,X,res,new,h3,hF,h4⟩|⟨hm,hA,hm',X,nx,h3,h4⟩|⟨hm,hd,L',h3,h5,h4⟩|⟨hA,e,cs,h3,h4⟩|⟨hC,hbS,X,res,nL,h3,h5,h4⟩⟩
 ·exact .inl ⟨h1,h _ h2⟩
 ·exact .inr ⟨h1,.inl ⟨h2,v,h3,h _ h4⟩⟩
 ·exact .inr ⟨h1,.inr (.inl ⟨h2,X,res,new,h3,hF,fun x=>h _ (h4 x)⟩)⟩
 ·exact .inr ⟨h1,.inr (.inr (.inl ⟨hm,hA,hm',X,nx,h3,fun x=>h _ (h4 x)⟩))⟩
 ·exact .inr ⟨h1,.inr (.inr (.inr (.inl ⟨hm,hd,L',h3,h5,h _ h4⟩)))⟩
 ·exact .inr ⟨h1,.inr (.inr (.inr (.inr (.inl ⟨hA,e,cs,h3,fun g=>h _ (h4 g)⟩))))⟩
 ·exact .inr ⟨h1,.inr (.inr (.inr (.inr (.inr ⟨hC,hbS,X,res,nL,h3,h5,fun x=>h _ (h4 x)⟩))))⟩
def iD.sound{P:Program}{bl:List Nat}{ops:Array Oper}{o:Oper}{s:St}{K:St->Prop}{B:Bs}{a:Act}{w:World}
 {K':Act->World->Prop}{Q:Exit->Act->World->Prop}(hs:iD P bl ops o s K)(h:kD B s a w)(hK:∀s' a' w',K s'->kD B s' a' w'->K' a' w'):
 if Region.wanted o (yielded ops a.tmps) then o.wp P a w K' Q else K' (a.put o.dst undef) w:=by
 obtain⟨h0,g,hg,hh⟩:=hs;rw[Dz h hg];rcases hh with⟨rfl,h2⟩|⟨rfl,hh⟩
 ·simp only[Bool.false_eq_true,if_false];exact hK _ _ _ h2 (h.put0 h0)
 ·simp only[if_true];rcases hh with⟨h2,v,h3,h4⟩|⟨h2,X,res,new,h3,_,h4⟩|⟨hm,_,_,X,nx,h3,h4⟩|⟨hm,hd,L',h3,h5,h4⟩|⟨hA,e,cs,h3,h4⟩|⟨hC,hbS,X,res,nL,h3,h5,h4⟩
  ·have hr:=h3.1 B a w (h.bk bl);unfold Oper.wp;rw[hr];exact hK _ _ _ h4 (h.put0 h0)
  ·obtain⟨f,args,hr,hc⟩:=h3 B a w h;unfold Oper.wp;rw[hr];refine hc.mono ?_;rintro e w' ⟨x,rfl,hL⟩;exact hK _ _ _ (h4 x) (h.put h0 hL)
  ·have:=h3 B a w h;unfold Oper.wp at this ⊢
   generalize(execOp a.eval o).run P w=r at*
   cases r with
   |ok n w1=>
    cases n<;>simp only[Oper.upon] at this ⊢
    case value v=>obtain⟨x,hx⟩:=this;exact hK _ _ _ (h4 x) hx
    case skip=>obtain⟨x,hx⟩:=this;exact hK _ _ _ (h4 x) hx
    case defer d=>obtain⟨x,hx⟩:=this;exact hK _ _ _ (h4 x) hx
    case enter f args=>
     refine this.mono ?_;intro e w'' he;cases e with
     |returned v=>obtain⟨x,hx⟩:=he;exact hK _ _ _ (h4 x) hx
     |panicked c=>exact he.elim
     |outgrown=>obtain⟨_,_,he⟩:=he;exact he.elim
    case row row args=>exact this.mono fun v w'' he=>by obtain⟨x,hx⟩:=he;exact hK _ _ _ (h4 x) hx
   |halt x w1=>cases x<;>simp only[Oper.upon] at this
  ·obtain⟨w',hr,hL⟩:=h3 B a w h;unfold Oper.wp;rw[hr];refine hK _ _ _ h4 ?_;rw[hd];exact⟨h.df,h.size,h.tmp,hL⟩
  ·unfold Oper.wp;rw[Y9 h3 a.eval (fun x v hx=>h.ev hx) w];exact hK _ _ _ (h4 w.heap.size) (h.put h0 (h.mem.alloc e cs (qcy h3)))
  ·rcases h3 B a w h with⟨f,args,hr,hc⟩|⟨x,w',hr,hL⟩
   ·unfold Oper.wp;rw[hr];refine hc.mono ?_;rintro e w' ⟨x,rfl,hL⟩;exact hK _ _ _ (h4 x) (h.put (L':=nL x) h0 hL)
   ·unfold Oper.wp;rw[hr];exact hK _ _ _ (h4 x) (h.put (L':=nL x) h0 hL)
def aX.sound{P:Program}{bl:List Nat}{ops:Array Oper}{Q:Exit->Act->World->Prop}:∀{l:List Oper} {s:St} {K:St->Prop} {B:Bs} {a:Act} {w:World},
 aX P bl ops l s K->kD B s a w->(∀s' a' w',K s'->kD B s' a' w'->Q .normal a' w')->wpList P ops Q l a w
 |[],s,K,B,a,w,hr,h,hK=>hK _ _ _ hr h
 |o::l,s,K,B,a,w,hr,h,hK=>by
  have:=iD.sound (K':=wpList P ops Q l) (Q:=Q) hr h (fun s' a' w' h1 h2=>aX.sound h1 h2 hK);unfold wpList
  split
  ·rename_i hw;rw[if_pos hw] at this;exact .inl this
  ·rename_i hw;rw[if_neg hw] at this;exact this
def aX.mono{P:Program}{bl:List Nat}{ops:Array Oper}{K K':St->Prop}(h:∀s,K s->K' s):∀{l:List Oper} {s:St},aX P bl ops l s K->aX P bl ops l s K'
 |[],_,hr=>h _ hr
 |_::_,_,hr=>iD.mono (fun _ h1=>aX.mono h h1) hr
def aT.take{B:Bs}{w:World}{L new:List aF}(h:aT B (L++new) w):aT B L w:=by
 have hb:∀(k:Nat) (b:aF),L[k]? =some b->(L++new)[k]? =some b:=fun k b hk=>by
  rw[List.getElem?_append_left (List.getElem?_eq_some_iff.1 hk).1];exact hk
 exact⟨h.bel,fun k b hk=>h.blk k b (hb k b hk),fun i j g bi bj hij hi hj=>h.apart i j g bi bj hij (hb _ _ hi) (hb _ _ hj),h.grp.mem fun b hb=>List.mem_append_left _ hb⟩
theorem qX{ops:Array Oper}{o:Oper}{s:St}{dst:Option Nat}{v:Value}(h:∀d,dst=some d->d∉o.looksAt ops):ax ops o (s.put dst v).t=ax ops o s.t:=by
 cases dst with
 |none=>rfl
 |some d=>
  unfold ax;cases hg:o.guard with
  |none=>rfl
  |some jw=>
   obtain⟨j,want⟩:=jw;dsimp only;cases hd:(ops[j]?).bind (·.dst) with
   |none=>rfl
   |some d'=>
    have hne:d≠d':=fun e=>h d rfl (by unfold Oper.looksAt;rw[hg];simp[hd,e])
    simp only[St.put,bT hne]
theorem Am{P:Program}{ops:Array Oper}{o:Oper}{s:St}{dst:Option Nat}{v:Value}(h:∀d,dst=some d->d∉o.looksAt ops):nz P (s.put dst v).t o=nz P s.t o:=by
 cases dst with
 |none=>rfl
 |some d=>
  have hd:=h d rfl;have key:∀x:Operand,x∈o.op.operands.toList->ev ((d,v)::s.t) x=ev s.t x:=fun x hx=>by
   cases x with
   |tmp k=>
    have hne:d≠k:=fun e=>hd (by
 unfold Oper.looksAt;exact List.mem_append_left _ (List.mem_filterMap.2 ⟨.tmp k,hx,by rw[e]⟩))
    exact bT hne
   |const c=>rfl
   |global g=>rfl
   |func f=>rfl
  show nz P ((d,v)::s.t) o=nz P s.t o;unfold nz
  split
  ·rename_i x ho
   exact key x (by rw[ho];simp[Op.operands])
  ·rename_i x i ho
   rw[key x (by rw[ho];simp[Op.operands])]
  ·rename_i T parts ho
   rw[sZ fun x hx=>key x (by rw[ho];simpa[Op.operands] using hx)]
  ·rfl
theorem IV{P:Program}{ops:Array Oper}{o:Oper}{s:St}{dst:Option Nat}{v:Value}(h:∀d,dst=some d->d∉o.looksAt ops):yQ P (s.put dst v).t o=yQ P s.t o:=by
 cases dst with
 |none=>rfl
 |some d=>
  have hd:=h d rfl;have key:∀x:Operand,x∈o.op.operands.toList->ev ((d,v)::s.t) x=ev s.t x:=fun x hx=>by
   cases x with
   |tmp k=>
    have hne:d≠k:=fun e=>hd (by
 unfold Oper.looksAt;exact List.mem_append_left _ (List.mem_filterMap.2 ⟨.tmp k,hx,by rw[e]⟩))
    exact bT hne
   |const c=>rfl
   |global g=>rfl
   |func f=>rfl
  show yQ P ((d,v)::s.t) o=yQ P s.t o;unfold yQ
  split
  ·rfl
  ·rename_i T n parts ho
   rw[sZ fun x hx=>key x (by rw[ho];simpa[Op.operands] using hx)]
  ·rfl
def PV{P:Program}{o:Oper}{s:St}{v:Value}(h:nz P s.t o=some v):DC P o s v:=fun B a w hr=>by
 unfold nz at h
 split at h
 ·rename_i x ho
  simp[execOp,ho,hr.ev h]
 ·rename_i x i ho
  split at h
  ·rename_i vs hv
   have:=hr.ev hv;simp[execOp,ho,this,Instr.extract,h]
  ·cases h
 ·rename_i T parts ho
  cases hp:jU s.t parts.toList with
  |none=>rw[hp] at h;cases h
  |some ps=>
   rw[hp] at h;have hb:=Tz (show Ff P T ps.toArray=some v from h);have hv:=yP (f:=a.eval) (fun x v hx=>hr.ev hx) hp;obtain⟨l⟩:=parts;simp only at hv;simp[execOp,ho,hv,hb w]
 ·cases h
def Yields(P:Program)(bl:List Nat)(ops:Array Oper)(o:Oper)(s:St)(v:Value):Prop:=
 ∃g,ax ops o s.t=some g∧((g=false∧v=undef)∨(g=true∧(Ik bl&&(isAl o||isSto o))=false∧DC P o (s.bk bl) v∧(Ik bl=true->yR o=true->nz P s.t o=some v)))
def DF{o:Oper}(h:iq o=true):∀cs b,o.op≠ .select cs b:=fun cs b e=>by unfold iq at h;rw[e] at h;cases h
def kD.putBack{B:Bs}{w:World}{s:St}{a:Act}{dst:Option Nat}{v:Value}{new:List aF}(hd:∀d,dst=some d->d<s.nt)
 (h:kD B (({s with L:=s.L++new}:St).put dst v) a w):∃u,kD B s (a.put dst u) w:=by
 have hL:(({s with L:=s.L++new}:St).put dst v).L=s.L++new:=by cases dst<;>rfl
 have hn:(({s with L:=s.L++new}:St).put dst v).nt=s.nt:=by cases dst<;>rfl
 have hm:aT B s.L w:=(by have:=h.mem;rw[hL] at this;exact this.take);cases dst with
 |none=>exact⟨undef,h.df,h.size.trans hn,fun d x hx=>h.tmp d x hx,hm⟩
 |some d=>
  refine⟨(look s.t d).getD undef,h.df,by simpa[Act.put,hn] using h.size,fun k x hx=>?_,hm⟩
  have hds:d<a.tmps.size:=by rw[h.size,hn];exact hd d rfl
  by_cases e:d=k
  ·subst e;simp[Act.put,hx,hds]
  ·have:=h.tmp k x (by simp only[St.put,bT e];exact hx);simp[Act.put,Array.getElem?_setIfInBounds_ne e,this]
def Yields.later{P:Program}{bl:List Nat}{ops:Array Oper}{o:Oper}{s:St}{v:Value}{dst:Option Nat}{x:Value}{new:List aF}(hs:∀cs b,o.op≠ .select cs b)(hd:∀d,dst=some d->d<s.nt)
 (hl:∀d,dst=some d->d∉o.looksAt ops)(h:Yields P bl ops o s v):Yields P bl ops o (({s with L:=s.L++new}:St).put dst x) v:=by
 obtain⟨g,hg,hh⟩:=h;refine⟨g,by rw[qX hl];exact hg,?_⟩;rcases hh with h1|⟨h1,h2,h4⟩
 ·exact .inl h1
 ·refine .inr ⟨h1,h2,fun B a w hr=>?_,fun h5 h6=>by rw[Am (s:={s with L:=s.L++new}) hl];exact h4.2 h5 h6⟩
  rw[Y7] at hr;obtain⟨new',hn⟩:=rY bl s.L new;have hr':kD B (({nt:=s.nt,t:=s.t,L:=blank bl s.L++new'}:St).put dst x) a w:=by rw[<-hn];exact hr
  obtain⟨u,hu⟩:=kD.putBack (s:=s.bk bl) (new:=new') hd hr';have:=h4.1 B _ w hu
  rwa [execOp_put o hs a dst u hl] at this
structure Ce(s s':St):Prop where
 nt:s.nt=s'.nt
 L:s.L=s'.L
 look:∀d,look s.t d=look s'.t d
def Ce.refl(s:St):Ce s s:=⟨rfl,rfl,fun _=>rfl⟩
theorem Ce.symm{s s':St}(h:Ce s s'):Ce s' s:=⟨h.nt.symm,h.L.symm,fun d=>(h.look d).symm⟩
def Ce.trans{s s' s'':St}(h:Ce s s')(k:Ce s' s''):Ce s s'':=⟨h.nt.trans k.nt,h.L.trans k.L,fun d=>(h.look d).trans (k.look d)⟩
def Ce.rel{s s':St}(h:Ce s s'){B:Bs}{w:World}{a:Act}(r:kD B s a w):kD B s' a w:=
 ⟨r.df,r.size.trans h.nt,fun d v hd=>r.tmp d v (by rw[h.look d];exact hd),h.L▸r.mem⟩
theorem Ce.put{s s':St}(h:Ce s s')(dst:Option Nat)(sv:Value)(new:List aF):Ce (({s with L:=s.L++new}:St).put dst sv) (({s' with L:=s'.L++new}:St).put dst sv):=by
 cases dst with
 |none=>exact⟨h.nt,by simp[St.put,h.L],h.look⟩
 |some d=>
  refine⟨h.nt,by simp[St.put,h.L],fun k=>?_⟩
  by_cases e:d=k
  ·subst e;simp[St.put,dW]
  ·simp[St.put,bT e,h.look k]
def Ce.put0{s s':St}(h:Ce s s')(dst:Option Nat)(sv:Value):Ce (s.put dst sv) (s'.put dst sv):=by
 have:=h.put dst sv []
 simpa using this
theorem Ce.wanted{s s':St}(h:Ce s s')(ops:Array Oper)(o:Oper):ax ops o s.t=ax ops o s'.t:=by
 unfold ax
 split
 ·rfl
 ·split
  ·rw[h.look]
  ·rfl
def KC(K:St->Prop):Prop:=∀s s',Ce s s'->K s->K s'
theorem DI{t t':List (Nat×Value)}(h:∀d,look t d=look t' d)(x:Operand):ev t x=ev t' x:=by
 cases x<;>simp[ev,h]
theorem Gz{P:Program}{t t':List (Nat×Value)}(h:∀d,look t d=look t' d){o:Oper}:nz P t o=nz P t' o:=by
 unfold nz
 split
 ·exact DI h _
 ·rw[DI h]
 ·rw[sZ fun x _=>DI h x]
 ·rfl
theorem IW{P:Program}{t t':List (Nat×Value)}(h:∀d,look t d=look t' d){o:Oper}:yQ P t o=yQ P t' o:=by
 unfold yQ
 split
 ·rfl
 ·rw[sZ fun x _=>DI h x]
 ·rfl
def iD.congr{P:Program}{bl:List Nat}{ops:Array Oper}{o:Oper}{s s':St}{K:St->Prop}(hK:KC K)(h:Ce s s')(hs:iD P bl ops o s K):iD P bl ops o s' K:=by
 obtain⟨h0,g,hg,hh⟩:=hs;refine⟨by rw[<-h.nt];exact h0,g,by rw[<-h.wanted];exact hg,?_⟩;have hbk:Ce (s.bk bl) (s'.bk bl):=⟨h.nt,by show blank bl s.L=blank bl s'.L;rw[h.L],h.look⟩;rcases hh with⟨h1,h2⟩|⟨h1,⟨h2,sv,h3,h4⟩|⟨h2,X,res,new,h3,hF,h4⟩|⟨hm,hA,hm',X,nx,h3,h4⟩|⟨hm,hd,L',h3,h5,h4⟩|⟨hA,e,cs,h3,h4⟩|⟨hC,hbS,X,res,nL,h3,h5,h4⟩⟩
 ·exact .inl ⟨h1,hK _ _ (h.put0 _ _) h2⟩
 ·exact .inr ⟨h1,.inl ⟨h2,sv,⟨fun B a w hr=>h3.1 B a w (hbk.symm.rel hr),fun h5 h6=>by rw[<-Gz h.look];exact h3.2 h5 h6⟩,hK _ _ (h.put0 _ _) h4⟩⟩
 ·refine .inr ⟨h1,.inr (.inl ⟨h2,X,res,new,fun B a w hr=>?_,fun hb=>⟨fun B a w hr=>(hF hb).1 B a w (h.symm.rel hr),(hF hb).2⟩,fun x=>hK _ _ (h.put _ _ _) (h4 x)⟩)⟩
  rw[<-h.L];exact h3 B a w (h.symm.rel hr)
 ·exact .inr ⟨h1,.inr (.inr (.inl ⟨hm,hA,hm',X,nx,fun B a w hr=>h3 B a w (h.symm.rel hr),h4⟩))⟩
 ·exact .inr ⟨h1,.inr (.inr (.inr (.inl ⟨hm,hd,L',fun B a w hr=>h3 B a w (h.symm.rel hr),by rw[<-h.L];exact h5,hK {s with L:=L'} {s' with L:=L'} ⟨h.nt,rfl,h.look⟩ h4⟩)))⟩
 ·exact .inr ⟨h1,.inr (.inr (.inr (.inr (.inl ⟨hA,e,cs,by rw[<-IW h.look];exact h3,fun g=>hK _ _ (h.put _ _ _) (h4 g)⟩))))⟩
 ·exact .inr ⟨h1,.inr (.inr (.inr (.inr (.inr ⟨hC,hbS,X,res,nL,fun B a w hr=>h3 B a w (h.symm.rel hr),by rw[<-h.L];exact h5,fun x=>hK _ _ (Ce.put0 (s:={s with L:=nL x}) (s':={s' with L:=nL x}) ⟨h.nt,rfl,h.look⟩ _ _) (h4 x)⟩))))⟩
def aX.kc{P:Program}{bl:List Nat}{ops:Array Oper}{K:St->Prop}(hK:KC K):∀l:List Oper,KC (fun s=>aX P bl ops l s K)
 |[]=>hK
 |o::l=>fun _ _ h hs=>iD.congr (aX.kc hK l) h hs
def uF(bl:List Nat)(o:Oper):Bool:= !Il bl&&(NZ bl o||((isSto o||isME o)&&Fa bl)||(Ik bl&&isAl o))
theorem PW{bl:List Nat}{o:Oper}(h:uF bl o=true):Il bl=false:=by
 unfold uF at h;cases hb:Il bl
 ·rfl
 ·rw[hb] at h;cases h
def PX{bl:List Nat}{o:Oper}(h:uF bl o=true):∀cs b,o.op≠ .select cs b:=fun cs b e=>by
 simp only[uF,NZ,isAsg,iq,isSto,isME,isAl,e,Bool.false_and,Bool.or_self,Bool.and_false] at h;cases h
theorem Zb{o:Oper}(hs:isSto o=true):isME o=false:=by
 unfold isSto at hs
 split at hs<;>first|(cases hs;done)|(rename_i heq;simp[isME,heq])
def Zc{bl:List Nat}{o:Oper}(h:uF bl o=true)(hs:isSto o=true):Fa bl=true:=by
 have h1:NZ bl o=false:=by
  unfold isSto at hs
  split at hs<;>first|(cases hs;done)|(rename_i heq;simp[NZ,iq,isAsg,heq])
 have h2:isAl o=false:=by
  unfold isSto at hs
  split at hs<;>first|(cases hs;done)|(rename_i heq;simp[isAl,heq])
 unfold uF at h;rw[h1,h2,hs,Zb hs] at h;simp only[Bool.false_or,Bool.true_and,Bool.and_false,Bool.or_false,Bool.and_eq_true] at h;exact h.2
def PY{bl:List Nat}{o:Oper}(h:uF bl o=true)(hm:(!Il bl&&NZ bl o)=false)(hA':(Ik bl&&(isAl o||isSto o))=false)(hm':(!Il bl&&((isSto o||isME o)&&Fa bl))=false):False:=by
 have hA:(Ik bl&&isAl o)=false:=by cases h1:Ik bl<;>cases h2:isAl o<;>simp_all
 unfold uF at h;cases hb:Il bl<;>rw[hb] at h hm hm'
 ·simp only[Bool.not_false,Bool.true_and] at h hm hm';rw[hm,hA,Bool.false_or,Bool.or_false] at h;rw[hm'] at h;cases h
 ·cases h
def aX.swap{P:Program}{bl:List Nat}{ops:Array Oper}{p i:Oper}{rest:List Oper}{s:St}{K:St->Prop}(hK:KC K)(hmp:iq p=true)(hmi:uF bl i=true)(hcp:jy p=false)
 (hap:p.apart ops i=true)(h:aX P bl ops (p::i::rest) s K):aX P bl ops (i::p::rest) s K:=by
 obtain⟨ap1,ap2,ap3⟩:=Oper.apart_spec hap;obtain⟨h0,g,hg,hh⟩:=h;have hsp:isSto p=false:=by
  unfold isSto;split<;>first|rfl|(rename_i heq;unfold iq at hmp;rw[heq] at hmp;cases hmp)
 have hmep:isME p=false:=by
  unfold isME;split<;>first|rfl|(rename_i heq;unfold iq at hmp;rw[heq] at hmp;cases hmp)
 obtain⟨svp,hyp,hrun⟩:∃svp,Yields P bl ops p s svp∧aX P bl ops (i::rest) (s.put p.dst svp) K:=by
  rcases hh with⟨rfl,h2⟩|⟨rfl,⟨h2,sv,h3,h4⟩|⟨h2,X,res,new,h3,_,h4⟩|⟨hm,_,_,X,nx,h3,h4⟩|⟨hm,hd,L',h3,h5,h4⟩|⟨hA,e,cs,h3,h4⟩|⟨hC,hbS,X,res,nL,h3,h5,h4⟩⟩
  ·exact⟨_,⟨_,hg,.inl ⟨rfl,rfl⟩⟩,h2⟩
  ·exact⟨sv,⟨_,hg,.inr ⟨rfl,h2,h3.1,h3.2⟩⟩,h4⟩
  ·rw[hcp] at h2;cases h2
  ·rw[PW hmi,show NZ bl p=true by simp[NZ,hmp]] at hm;cases hm
  ·rw[hsp] at hm;cases hm
  ·exfalso
   unfold isAl at hA
   split at hA
   ·rename_i heq;unfold iq at hmp;rw[heq] at hmp;cases hmp
   ·rename_i heq;unfold iq at hmp;rw[heq] at hmp;cases hmp
   ·cases hA
  ·rw[hcp,hmep] at hC;cases hC
 have hputL:(s.put p.dst svp).L=s.L:=by cases p.dst<;>rfl
 have hputn:(s.put p.dst svp).nt=s.nt:=by cases p.dst<;>rfl
 have comm:∀(x:Value) (new:List aF),Ce (({s.put p.dst svp with L:=(s.put p.dst svp).L++new}:St).put i.dst x) ((({s with L:=s.L++new}:St).put i.dst x).put p.dst svp):=by
  intro x new;refine⟨?_,?_,?_⟩
  ·cases p.dst<;>cases i.dst<;>rfl
  ·cases p.dst<;>cases i.dst<;>rfl
  ·intro d;cases hp:p.dst with
   |none=>simp[St.put]
   |some dp=>
    cases hi:i.dst with
    |none=>simp[St.put]
    |some di=>
     have hne:dp≠di:=fun e=>ap2 dp hp (by rw[hi,e])
     simp only[St.put]
     by_cases e1:di=d
     ·subst e1;rw[dW,bT hne,dW]
     ·rw[bT e1]
      by_cases e2:dp=d
      ·subst e2;rw[dW,dW]
      ·rw[bT e2,bT e2,bT e1]
 have behind:∀(x:Value) (new:List aF),aX P bl ops rest (({s.put p.dst svp with L:=(s.put p.dst svp).L++new}:St).put i.dst x) K->
  aX P bl ops (p::rest) (({s with L:=s.L++new}:St).put i.dst x) K:=by
  intro x new hr;have hr':=aX.kc hK rest _ _ (comm x new) hr;have hy:=hyp.later (new:=new) (x:=x) (DF hmp) (by rw[<-hputn];exact hrun.1) ap3;obtain⟨g',hg',hh'⟩:=hy;have hn:(({s with L:=s.L++new}:St).put i.dst x).nt=s.nt:=by cases i.dst<;>rfl
  refine⟨by rw[hn];exact h0,g',hg',?_⟩;rcases hh' with⟨h1,rfl⟩|⟨h1,h2,h4⟩
  ·exact .inl ⟨h1,hr'⟩
  ·exact .inr ⟨h1,.inl ⟨h2,svp,h4,hr'⟩⟩
 have before:∀(s0:St),s0.nt=s.nt->∀(B:Bs) (a:Act) (w:World),kD B s0 a w->kD B (s0.put p.dst svp) (a.put p.dst svp) w∧execOp (a.put p.dst svp).eval i=execOp a.eval i:=by
  intro s0 hn B a w hr;exact⟨hr.put0 (by rw[hn];exact h0),execOp_put i (PX hmi) a p.dst svp ap1⟩
 obtain⟨k0,k,hk,kk⟩:=hrun;rw[hputn] at k0;rw[qX ap1] at hk;have e0:∀(x:Value),(({s with L:=s.L++[]}:St).put i.dst x)=s.put i.dst x:=fun x=>by simp
 have e1:∀(x:Value),(({s.put p.dst svp with L:=(s.put p.dst svp).L++[]}:St).put i.dst x)=(s.put p.dst svp).put i.dst x:=fun x=>by simp
 refine⟨k0,k,hk,?_⟩;rcases kk with⟨h1,h2⟩|⟨h1,⟨h2,sv,h3,h4⟩|⟨h2,X,res,new,h3,hF,h4⟩|⟨hm,hA,hm',X,nx,h3,h4⟩|⟨hm,hd,L',h3,h5,h4⟩|⟨hA,e,cs,h3,h4⟩|⟨hC,hbS,X,res,nL,h3,h5,h4⟩⟩
 ·exact .inl ⟨h1,by have:=behind undef [] (by rw[e1];exact h2);rwa [e0] at this⟩
 ·refine .inr ⟨h1,.inl ⟨h2,sv,⟨fun B a w hr=>?_,fun h5 h6=>by rw[<-Am ap1];exact h3.2 h5 h6⟩,by have:=behind sv [] (by rw[e1];exact h4);rwa [e0] at this⟩⟩
  obtain⟨hr',he⟩:=before (s.bk bl) rfl B a w hr;have h3:=h3.1;rw[Y7] at h3;have:=h3 B _ w hr'
  rwa [he] at this
 ·refine .inr ⟨h1,.inr (.inl ⟨h2,X,res,new,fun B a w hr=>?_,fun hb=>⟨fun B a w hr=>?_,(hF hb).2⟩,fun x=>behind _ _ (h4 x)⟩)⟩
  ·obtain⟨hr',he⟩:=before s rfl B a w hr;have:=h3 B _ w hr'
   rwa [he,hputL] at this
  ·obtain⟨hr',he⟩:=before s rfl B a w hr;have:=(hF hb).1 B _ w hr'
   rwa [he] at this
 ·exfalso
  exact PY hmi hm hA hm'
 ·refine .inr ⟨h1,.inr (.inr (.inr (.inl ⟨hm,hd,L',fun B a w hr=>?_,fun hb=>by rw[h5 hb,hputL],?_⟩)))⟩
  ·obtain⟨hr',he⟩:=before s rfl B a w hr;have:=h3 B _ w hr'
   rwa [he] at this
  ·
   have hbS:Fa bl=true:=Zc hmi hm;have h5:=h5 hbS;rw[hputL] at h5;obtain⟨g',hg',hh'⟩:=hyp;refine⟨h0,g',hg',?_⟩;have hst:(({s with L:=L'}:St)).put p.dst svp={s.put p.dst svp with L:=L'}:=by cases p.dst<;>rfl
   have hbk:(({s with L:=L'}:St)).bk bl=s.bk bl:=by show St.mk _ _ (blank bl L')=St.mk _ _ (blank bl s.L);rw[h5]
   rcases hh' with⟨h1',rfl⟩|⟨h1',h2',h4'⟩
   ·exact .inl ⟨h1',by rw[hst];exact h4⟩
   ·exact .inr ⟨h1',.inl ⟨h2',svp,⟨by rw[hbk];exact h4'.1,h4'.2⟩,by rw[hst];exact h4⟩⟩
 ·exact .inr ⟨h1,.inr (.inr (.inr (.inr (.inl ⟨hA,e,cs,by rw[<-IV ap1];exact h3,fun g=>behind _ _ (h4 g)⟩))))⟩
 ·refine .inr ⟨h1,.inr (.inr (.inr (.inr (.inr ⟨hC,hbS,X,res,nL,fun B a w hr=>?_,fun x=>by rw[h5 x,hputL],fun x=>?_⟩))))⟩
  ·obtain⟨hr',he⟩:=before s rfl B a w hr;have:=h3 B _ w hr'
   rwa [he] at this
  ·
   have h5:=h5 x;rw[hputL] at h5;have hY:Yields P bl ops p ({s with L:=nL x}:St) svp:=by
    obtain⟨g',hg',hh'⟩:=hyp;have hbk:(({s with L:=nL x}:St)).bk bl=s.bk bl:=by show St.mk _ _ (blank bl (nL x))=St.mk _ _ (blank bl s.L);rw[h5]
    rcases hh' with h1'|⟨h1',h2',h4'⟩
    ·exact⟨g',hg',.inl h1'⟩
    ·exact⟨g',hg',.inr ⟨h1',h2',by rw[hbk];exact h4'.1,h4'.2⟩⟩
   have hY2:=Yields.later (s:=({s with L:=nL x}:St)) (dst:=i.dst) (x:=res x) (new:=[]) (DF hmp) k0 ap3 hY
   rw[show(({(({s with L:=nL x}:St)) with L:=(({s with L:=nL x}:St)).L++[]}:St))=({s with L:=nL x}:St) by simp] at hY2
   have hn:(({s with L:=nL x}:St).put i.dst (res x)).nt=s.nt:=by cases i.dst<;>rfl
   have hc1:Ce (({s.put p.dst svp with L:=nL x}:St).put i.dst (res x)) ((({s with L:=nL x}:St).put i.dst (res x)).put p.dst svp):=by
    refine⟨?_,?_,fun d=>?_⟩
    ·cases p.dst<;>cases i.dst<;>rfl
    ·cases p.dst<;>cases i.dst<;>rfl
    ·have hcm:=(comm (res x) []).look d;have q1:look (({s.put p.dst svp with L:=nL x}:St).put i.dst (res x)).t d=look (({s.put p.dst svp with L:=(s.put p.dst svp).L++[]}:St).put i.dst (res x)).t d:=by cases i.dst<;>rfl
     have q2:look ((({s with L:=nL x}:St).put i.dst (res x)).put p.dst svp).t d=look ((({s with L:=s.L++[]}:St).put i.dst (res x)).put p.dst svp).t d:=by cases i.dst<;>cases p.dst<;>rfl
     rw[q1,q2];exact hcm
   have hr':=aX.kc hK rest _ _ hc1 (h4 x);obtain⟨g',hg',hh'⟩:=hY2;refine⟨by rw[hn];exact h0,g',hg',?_⟩;rcases hh' with⟨h1,rfl⟩|⟨h1,h2,h4⟩
   ·exact .inl ⟨h1,hr'⟩
   ·exact .inr ⟨h1,.inl ⟨h2,svp,h4,hr'⟩⟩
def yS{s:St}{dst:Option Nat}{sv:Value}{d:Nat}(h:dst≠some d):look (s.put dst sv).t d=look s.t d:=by
 cases dst with
 |none=>rfl
 |some d'=>exact bT (fun e=>h (by rw[e]))
def iD.good{P:Program}{bl:List Nat}{ops:Array Oper}{o:Oper}{s:St}{K:St->Prop}(hm:uF bl o=true)(h:iD P bl ops o s K):
 iD P bl ops o s (fun s'=>K s'∧∀d,o.dst≠some d->look s'.t d=look s.t d):=by
 obtain⟨h0,g,hg,hh⟩:=h;refine⟨h0,g,hg,?_⟩;rcases hh with⟨h1,h2⟩|⟨h1,⟨h2,sv,h3,h4⟩|⟨h2,X,res,new,h3,hF,h4⟩|⟨hm',hA,hm'',X,nx,h3,h4⟩|⟨hm',hd,L',h3,h5,h4⟩|⟨hA,e,cs,h3,h4⟩|⟨hC,hbS,X,res,nL,h3,h5,h4⟩⟩
 ·exact .inl ⟨h1,h2,fun d hd=>yS hd⟩
 ·exact .inr ⟨h1,.inl ⟨h2,sv,h3,h4,fun d hd=>yS hd⟩⟩
 ·exact .inr ⟨h1,.inr (.inl ⟨h2,X,res,new,h3,hF,fun x=>⟨h4 x,fun d hd=>yS hd⟩⟩)⟩
 ·exact(PY hm hm' hA hm'').elim
 ·exact .inr ⟨h1,.inr (.inr (.inr (.inl ⟨hm',hd,L',h3,h5,h4,fun d _=>rfl⟩)))⟩
 ·exact .inr ⟨h1,.inr (.inr (.inr (.inr (.inl ⟨hA,e,cs,h3,fun g=>⟨h4 g,fun d hd=>yS hd⟩⟩))))⟩
 ·exact .inr ⟨h1,.inr (.inr (.inr (.inr (.inr ⟨hC,hbS,X,res,nL,h3,h5,fun x=>⟨h4 x,fun d hd=>yS hd⟩⟩))))⟩
def PZ{bl:List Nat}{o i:Oper}(h:iq o=true)(hi:uF bl i=true):uF bl o=true:=by simp[uF,NZ,h,PW hi]
def aX.front{P:Program}{bl:List Nat}{ops:Array Oper}{i:Oper}{post:List Oper}{K:St->Prop}(hK:KC K)(hmi:uF bl i=true):∀{pre:List Oper} {s:St},
 (∀p∈pre,iq p=true∧jy p=false∧p.apart ops i=true)->aX P bl ops (pre++i::post) s K->aX P bl ops (i::(pre++post)) s K
 |[],s,_,h=>h
 |p::pre,s,hp,h=>by
  obtain⟨hm,hc,ha⟩:=hp p (by simp);have h1:iD P bl ops p s (fun s'=>aX P bl ops (pre++i::post) s' K):=h;have h2:aX P bl ops (p::i::(pre++post)) s K:=by
   refine iD.mono ?_ (h1.good (PZ hm hmi));rintro s' ⟨hr,hl⟩;exact aX.front hK hmi (fun q hq=>hp q (by simp[hq])) hr
  exact aX.swap hK hm hmi hc ha h2
def waitsF(ops:Array Oper):Nat->Nat->Nat->Bool
 |0,_,_=>false
 |f+1,i,j=>match ops[i]? with
  |some o=>o.after.any fun e=>Region.binds .any e&&(e.on==j||waitsF ops f e.on j)
  |none=>false
def N7(ops:Array Oper)(listed:Array Bool):Prop:=
 ∀j,listed.getD j false=true->∀o,ops[j]? =some o->∀e∈o.after,Region.binds .any e=true->listed.getD e.on false=true
def qG{ops:Array Oper}{listed:Array Bool}(hc:N7 ops listed):∀{f i j:Nat},waitsF ops f i j=true->(∀o,ops[i]? =some o->∀e∈o.after,Region.binds .any e=true->listed.getD e.on false=true)->
 listed.getD j false=true
 |0,_,_,h,_=>by cases h
 |f+1,i,j,h,hi=>by
  unfold waitsF at h
  split at h
  ·rename_i o ho
   obtain⟨e,he,h1⟩:=Array.any_eq_true'.1 h;simp only[Bool.and_eq_true,Bool.or_eq_true,beq_iff_eq] at h1;obtain⟨hb,h2⟩:=h1;have hl:=hi o ho e he hb;rcases h2 with h2|h2
   ·rw[<-h2];exact hl
   ·exact qG hc h2 (fun o' ho' e' he' hb'=>hc _ hl o' ho' e' he' hb')
  ·cases h
def rH(bl:List Nat)(ops:Array Oper)(p i:Nat):Bool:=
 waitsF ops ops.size i p||
 match ops[p]?,ops[i]? with
 |some op,some oi=>iq op&&uF bl oi&& !jy op&&op.apart ops oi
 |_,_=>false
def jd(ops:Array Oper)(p i:Nat):Bool:=match ops[p]? with
 |some op=>op.after.all fun e=> !Region.binds .any e||e.on !=i
 |none=>true
def IX(bl:List Nat)(ops:Array Oper)(p i:Nat):Bool:=match ops[p]?,ops[i]? with
 |some op,some oi=> !uF bl op|| !uF bl oi||match op.dst,oi.dst with
  |some a,some b=>a !=b
  |_,_=>true
 |_,_=>true
def iE(f:Nat->Nat->Bool):List Nat->Bool
 |[]=>true
 |p::l=>l.all (f p)&&iE f l
def gG{f:Nat->Nat->Bool}:∀{l:List Nat},iE f l=true->l.Pairwise (fun p i=>f p i=true)
 |[],_=> .nil
 |p::l,h=>by
  simp only[iE,Bool.and_eq_true] at h;exact .cons (fun i hi=>List.all_eq_true.1 h.1 i hi) (gG h.2)
def IY(bl:List Nat)(ops:Array Oper)(p i:Nat):Bool:=true
def qH(ops:Array Oper)(p:Nat):Bool:=match ops[p]? with
 |some op=>op.after.all fun e=> !Region.binds .any e||decide (e.on<ops.size)
 |none=>true
structure Ord(bl:List Nat)(ops:Array Oper)(l:List Nat):Prop where
 lt:∀i∈l,i<ops.size
 ok:l.Pairwise (fun p i=>rH bl ops p i=true)
 nw:l.Pairwise (fun p i=>jd ops p i=true)
 self:∀i∈l,jd ops i i=true
 ed:∀i∈l,qH ops i=true
 dst:l.Pairwise (fun p i=>IX bl ops p i=true)
 mf:l.Pairwise (fun p i=>IY bl ops p i=true)
 nodup:l.Nodup
def Ord.sub{bl:List Nat}{ops:Array Oper}{l l':List Nat}(h:Ord bl ops l)(hs:l'.Sublist l):Ord bl ops l':=
 ⟨fun i hi=>h.lt i (hs.subset hi),h.ok.sublist hs,h.nw.sublist hs,fun i hi=>h.self i (hs.subset hi),fun i hi=>h.ed i (hs.subset hi),h.dst.sublist hs,h.mf.sublist hs,h.nodup.sublist hs⟩
theorem N8{listed:Array Bool}{i:Nat}(h:listed.getD i true=false):listed.getD i false=false:=by
 rcases Nat.lt_or_ge i listed.size with h'|h'
 ·simp[h'] at h ⊢;exact h
 ·simp[Array.getElem?_eq_none h'] at h
def qfn(bl:List Nat)(ops:Array Oper)(l:List Nat)(s:St):Prop:=∀i∈l,∀o,ops[i]? =some o->uF bl o=true->∀d,false=true->o.dst=some d->look s.t d=none
def N9{P:Program}{bl:List Nat}{ops:Array Oper}{Q:Exit->Act->World->Prop}{K:St->Prop}{B:Bs}(hK:KC K)(hpost:∀s' a' w',K s'->kD B s' a' w'->Q .normal a' w'):
 ∀(n:Nat) (l:List Nat) (listed:Array Bool) (s:St) (a:Act) (w:World),l.length=n->Ord bl ops l->listed.size=ops.size->
  (∀j,j<ops.size->(listed.getD j true=false↔j∈l))->N7 ops listed->qfn bl ops l s->aX P bl ops (l.map fun i=>ops.getD i default) s K->kD B s a w->
  wpAny P .any ops Q n listed a w:=by
 intro n
 induction n with
 |zero=>
  intro l listed s a w hn ho hsz hl hc hf hr h;have:l=[]:=List.eq_nil_of_length_eq_zero hn;subst this;refine⟨?_,hpost _ _ _ hr h⟩;rcases hh:Region.ready .any ops listed with _|⟨i,r⟩
  ·rfl
  ·exfalso
   obtain⟨h1,o,ho',_⟩:=mem_ready.1 (show i∈Region.ready .any ops listed by rw[hh];simp);have:=(hl i (Array.getElem?_eq_some_iff.1 ho').1).1 h1;simp at this
 |succ n ih=>
  intro l listed s a w hn ho hsz hl hc hf hr h;refine⟨fun h0=>?_,fun i hi=>?_⟩
  ·
   exfalso
   cases l with
   |nil=>simp at hn
   |cons i0 rest=>
    have hi0:=ho.lt i0 (by simp);have:i0∈Region.ready .any ops listed:=by
     refine mem_ready.2 ⟨(hl i0 hi0).2 (by simp),ops[i0],Array.getElem?_eq_getElem hi0,fun e he hb=>?_⟩
     rcases hx:listed.getD e.on false with _|_
     ·exfalso
      have hself:=ho.self i0 (by simp);have hnw:∀j,j∈rest->jd ops i0 j=true:=fun j hj=>(List.pairwise_cons.1 ho.nw).1 j hj
      have key:∀j,jd ops i0 j=true->e.on≠j:=fun j hj e'=>by
       unfold jd at hj;rw[Array.getElem?_eq_getElem hi0] at hj;have:=(Array.all_eq_true'.1 hj) e he;simp[hb,e'] at this
      rcases Nat.lt_or_ge e.on ops.size with hlt|hge
      ·have hun:listed.getD e.on true=false:=by
        have:e.on<listed.size:=(by rw[hsz];exact hlt);simp[this] at hx ⊢;exact hx
       have:=(hl e.on hlt).1 hun;rcases List.mem_cons.1 this with h1|h1
       ·exact key i0 hself h1
       ·exact key e.on (hnw _ h1) rfl
      ·have hj:=ho.ed i0 (by simp);unfold qH at hj;rw[Array.getElem?_eq_getElem hi0] at hj;have:=(Array.all_eq_true'.1 hj) e he;simp[hb] at this;omega
     ·rfl
    rw[h0] at this;cases this
  ·obtain⟨hun,oi,hoi,hall⟩:=mem_ready.1 hi;have hilt:=(Array.getElem?_eq_some_iff.1 hoi).1;have hil:i∈l:=(hl i hilt).1 hun;obtain⟨pre,post,rfl⟩:=List.append_of_mem hil;have hoid:ops.getD i default=oi:=by simp[hoi]
   have hpre:∀p∈pre,∃op,ops[p]? =some op∧iq op=true∧uF bl oi=true∧jy op=false∧op.apart ops oi=true:=by
    intro p hp;have hpo:rH bl ops p i=true:=(List.pairwise_append.1 ho.ok).2.2 p hp i (by simp);unfold rH at hpo;rw[Bool.or_eq_true] at hpo;rcases hpo with hpo|hpo
    ·exfalso
     have h1:=qG hc hpo (fun o ho' e he hb=>by rw[hoi] at ho';cases ho';exact hall e he hb);have hplt:=ho.lt p (by simp[hp]);have h2:=(hl p hplt).2 (by simp[hp]);rw[N8 h2] at h1;cases h1
    ·rw[hoi] at hpo;cases hop:ops[p]? with
     |none=>rw[hop] at hpo;cases hpo
     |some op=>
      rw[hop] at hpo;simp only[Bool.and_eq_true,Bool.not_eq_true'] at hpo;exact⟨op,rfl,hpo.1.1.1,hpo.1.1.2,hpo.1.2,hpo.2⟩
   have hrun:aX P bl ops (oi::((pre++post).map fun i=>ops.getD i default)) s K:=by
    rw[List.map_append] at hr ⊢;rw[List.map_cons,hoid] at hr;cases hpz:pre with
    |nil=>rw[hpz] at hr;exact hr
    |cons p0 pre0=>
     obtain⟨op0,_,_,hmi,_,_⟩:=hpre p0 (by rw[hpz];simp);rw[<-hpz];have hfi:=hf i (by simp) oi hoi hmi;refine aX.front hK hmi ?_ hr;intro q hq;obtain⟨p,hp,rfl⟩:=List.mem_map.1 hq;obtain⟨op,hop,h1,h2,h3,h4⟩:=hpre p hp;have:ops.getD p default=op:=by simp[hop]
     rw[this];exact⟨h1,h3,h4⟩
   have hsub:(pre++post).Sublist (pre++i::post):=List.Sublist.append (List.Sublist.refl _) (List.sublist_cons_self _ _);have hnd:=ho.nodup;have hinot:i∉pre++post:=by
    intro hm;have:=List.nodup_append.1 hnd;rcases List.mem_append.1 hm with h1|h1
    ·exact this.2.2 i h1 i (by simp) rfl
    ·exact(List.nodup_cons.1 this.2.1).1 h1
   have hstep:iD P bl ops oi s (fun s'=>aX P bl ops ((pre++post).map fun i=>ops.getD i default) s' K∧qfn bl ops (pre++post) s'):=by
    exact iD.mono (fun s' hr'=>⟨hr',fun j hj oj hoj hmj d hf'=>by cases hf'⟩) hrun
   unfold wpOp;rw[hoi];dsimp only;have hS:=iD.sound (K':=wpAny P .any ops Q n (listed.setIfInBounds i true)) (Q:=Q) hstep h (fun s' a' w' hk hrel=>by
 refine ih (pre++post) (listed.setIfInBounds i true) s' a' w' ?_ (ho.sub hsub) (by simpa using hsz) ?_ ?_ hk.2 hk.1 hrel
 ·simp at hn ⊢;omega
 ·intro j hj
  by_cases hij:i=j
  ·subst hij;have:i<listed.size:=by rw[hsz];exact hilt
   simp[this]
   simpa using hinot
  ·rw[getD_set_ne true hij,hl j hj];simp[Ne.symm hij]
 ·intro j hj o hoj e he hb
  by_cases hij:i=j
  ·subst hij;rw[hoi] at hoj;cases hoj;exact getD_set_true (hall e he hb)
  ·rw[getD_set_ne false hij] at hj;exact getD_set_true (hc j hj o hoj e he hb))
   split
   ·rename_i hw;rw[if_pos hw] at hS;exact .inl hS
   ·rename_i hw;rw[if_neg hw] at hS;exact hS
def uH(bl:List Nat)(ops:Array Oper)(perm:List Nat):Bool:=
 decide (perm.length=ops.size)&&perm.all (fun i=>decide (i<ops.size))&&(List.range ops.size).all (fun i=>perm.contains i)&&
 iE (rH bl ops) perm&&iE (jd ops) perm&&perm.all (fun i=>jd ops i i)&&perm.all (fun i=>qH ops i)&&iE (IX bl ops) perm&&iE (IY bl ops) perm&&iE (fun i j=>i !=j) perm
def IZ(bl:List Nat)(ops:Array Oper)(s:St):Bool:=true
def tq{t:List (Nat×Value)}{d:Nat}{sv:Value}(h:look t d=some sv):(d,sv)∈t:=by
 induction t with
 |nil=>cases h
 |cons p t ih=>
  obtain⟨d',v⟩:=p
  by_cases e:d'=d
  ·subst e;rw[dW] at h;cases h;simp
  ·rw[bT e] at h;exact List.mem_cons_of_mem _ (ih h)
def Zd{P:Program}{bl:List Nat}{id:Nat}{ops:Array Oper}{Q:Exit->Act->World->Prop}{s:St}{B:Bs}{w:World}{a:Act}(perm:List Nat){l:List Oper}{K:St->Prop}
 (hm:P.follows .mixedOrders=true)(hc:uH bl ops perm=true)(hl:perm.map (fun i=>ops.getD i default)=l)(hf:IZ bl ops s=true)(hr:aX P bl ops l s K)
 (hpost:∀s' a' w',K s'->kD B s' a' w'->Q .normal a' w')(h:kD B s a w):(Code.region id ops true).wp P Q a w:=by
 simp only[uH,Bool.and_eq_true,decide_eq_true_eq] at hc;obtain⟨⟨⟨⟨⟨⟨⟨⟨⟨hlen,hlt⟩,hall⟩,hpo⟩,hnw⟩,hself⟩,hed⟩,hds⟩,hmf⟩,hnd⟩:=hc;have hOrd:Ord bl ops perm:=⟨fun i hi=>of_decide_eq_true (List.all_eq_true.1 hlt i hi),gG hpo,gG hnw,fun i hi=>List.all_eq_true.1 hself i hi,fun i hi=>List.all_eq_true.1 hed i hi,
 gG hds,gG hmf,(gG hnd).imp (fun h=>by simpa using h)⟩
 subst hl;have hK:KC (fun s'=>∃s0,Ce s0 s'∧K s0):=fun s1 s2 he ⟨s0,h0,h1⟩=>⟨s0,h0.trans he,h1⟩
 have hr':aX P bl ops (perm.map fun i=>ops.getD i default) s (fun s'=>∃s0,Ce s0 s'∧K s0):=hr.mono (fun s' hs'=>⟨s',Ce.refl _,hs'⟩);refine wp_region_any hm ?_;refine N9 hK (fun s' a' w' ⟨s0,he,hk⟩ hrel=>hpost s0 a' w' hk (he.symm.rel hrel)) ops.size perm _ s a _ hlen hOrd (by simp) ?_ ?_ ?_ hr' h.drew
 ·intro j hj;have:j∈perm:=by
   have:=List.all_eq_true.1 hall j (List.mem_range.2 hj)
   simpa using this
  simp[hj,this]
 ·intro j hj
  exfalso
  rcases Nat.lt_or_ge j ops.size with h1|h1
  ·simp[h1] at hj
  ·simp[h1] at hj
 ·intro i hi o ho hmo d hf';cases hf'
end Go.Via
namespace Go.Via
variable[Mo]
open Go Go.RowKit
structure TI where
 agg:Bool
 size:Nat
 flds:List (Nat×Nat)
def qin:Option TypeDesc->Option Bool
 |some (.struct _)|some (.array _ _)=>some true
 |some _=>some false
 |none=>none
def Ze(P:Program):Option TypeDesc->List (Nat×Nat)
 |some (.struct fs)=>fs.toList.map fun f=>(f.offset,((P.info? f.type).map (·.size)).getD 0)
 |_=>[]
def dU(P:Program)(t:Nat)(i:TI):Bool:=
 (P.info? t).any (fun inf=>inf.size==i.size)&&(qin (P.underlying t)==some i.agg)&&(Ze P (P.underlying t)==i.flds)
def qcA{P:Program}{t:Nat}{i:TI}(h:dU P t i=true):∃inf,P.info? t=some inf∧inf.size=i.size:=by
 simp only[dU,Bool.and_eq_true,Option.any_eq_true] at h;obtain⟨⟨⟨inf,h1,h2⟩,_⟩,_⟩:=h;exact⟨inf,h1,by simpa using h2⟩
theorem qf4{P:Program}{t:Nat}{i:TI}(h:dU P t i=true)(w:World):(isAgg t).run P w= .ok i.agg w:=by
 simp only[dU,Bool.and_eq_true,beq_iff_eq] at h;obtain⟨⟨_,h1⟩,_⟩:=h;cases hu:P.underlying t with
 |none=>rw[hu] at h1;cases h1
 |some d=>
  unfold isAgg;rw[Sem.run_bind,run_underlying hu w];rw[hu] at h1;cases d<;>simp_all[qin]
theorem pX{P:Program}{t:Nat}{i:TI}(h:dU P t i=true)(w:World):(sizeOf t).run P w= .ok i.size w:=by
 obtain⟨inf,h1,h2⟩:=qcA h;simp[sizeOf,typeInfo,h1,h2]
def Zf{P:Program}{t:Nat}{i:TI}(h:dU P t i=true){j:Nat}{p:Nat×Nat}(hp:i.flds[j]? =some p):∃fs f,P.underlying t=some (.struct fs)∧fs[j]? =some f∧f.offset=p.1∧((P.info? f.type).map (·.size)).getD 0=p.2:=by
 simp only[dU,Bool.and_eq_true,beq_iff_eq] at h;obtain⟨_,h1⟩:=h;cases hu:P.underlying t with
 |none=>rw[hu] at h1;simp[Ze] at h1;rw[h1] at hp;simp at hp
 |some d=>
  rw[hu] at h1;cases d<;>simp only[Ze] at h1<;>first|(rw[<-h1] at hp;simp at hp;done)|skip
  rename_i fs
  rw[<-h1,List.getElem?_map] at hp;simp only[Option.map_eq_some_iff] at hp;obtain⟨f,h2,h3⟩:=hp;exact⟨fs,f,rfl,by simpa using h2,by rw[<-h3],by rw[<-h3]⟩
def aF.at(b:aF)(off:Nat):Value:= .pointer (b.base.map fun g=>⟨g,off,none⟩)
theorem kJ(g off j:Nat):(⟨g,off,none⟩:Addr).add j=⟨g,off+j,none⟩:=by unfold Addr.add;split<;>simp_all
def aT.cell{B:Bs}{w:World}{L:List aF}(h:aT B L w){k:Nat}{b:aF}(hk:L[k]? =some b){j:Nat}{v:Value}(hj:b.cs[j]? =some v):
 ∃g,b.base=some g∧w.cell? ⟨g,j,none⟩=some v:=by
 obtain⟨h1,h2⟩:=h.blk k b hk;cases hb:b.base with
 |none=>rw[(h2 hb).1] at hj;simp at hj
 |some g=>
  obtain⟨cur,⟨e',fr,h3,_⟩,h4,h5⟩:=(h1 g hb).cells (.inr (fun e=>by rw[e] at hj;simp at hj));refine⟨g,rfl,?_⟩;rw[cell_of_row w g j cur e' fr h3];have hj':j<b.cs.length:=(List.getElem?_eq_some_iff.1 hj).1;rw[<-h5,List.getElem?_take,if_pos hj'] at hj
  simpa using hj
def aT.loadVar{P:Program}{B:Bs}{w:World}{L:List aF}(h:aT B L w){k:Nat}{b:aF}(hk:L[k]? =some b){T:Nat}{i:TI}(hi:dU P T i=true){off:Nat}{vs:List Value}{v:Value}
 (hvs:(b.cs.drop off).take i.size=vs)(hlen:vs.length=i.size)(hpos:0<i.size)(hv:(bif i.agg then some (.agg vs.toArray) else vs[0]?)=some v):
 ∃g,b.base=some g∧(Go.loadVar T ⟨g,off,none⟩).run P w= .ok v w:=by
 have hc:∀j u,vs[j]? =some u->b.cs[off+j]? =some u:=by
  intro j u hj;rw[<-hvs,List.getElem?_take] at hj
  split at hj
  ·simpa using hj
  ·cases hj
 obtain⟨u0,hu0⟩:∃u,vs[0]? =some u:=by rw[List.getElem?_eq_getElem (by omega)];exact⟨_,rfl⟩
 obtain⟨g,hg,h0⟩:=h.cell hk (hc 0 u0 hu0);refine⟨g,hg,?_⟩;have hcell:∀j u,vs[j]? =some u->w.cell? ((⟨g,off,none⟩:Addr).add j)=some u:=by
  intro j u hj;obtain⟨g',hg',h1⟩:=h.cell hk (hc j u hj);rw[hg] at hg';cases hg';rw[kJ];exact h1
 unfold Go.loadVar;rw[Sem.run_bind,qf4 hi w];simp only[Result.andThen_ok];cases ha:i.agg with
 |true=>
  rw[ha] at hv;simp only[cond_true,Option.some.injEq] at hv;subst hv;have:=run_loadCells_list (P:=P) w ⟨g,off,none⟩ vs hcell;rw[hlen] at this;simp[Sem.run_bind,pX hi w,this]
 |false=>
  rw[ha] at hv;simp only[cond_false] at hv;have:=hcell 0 v hv;simp only[kJ,Nat.add_zero] at this;simp[this]
section
variable{P:Program}{o:Oper}{s:St}
def qf5{x:Operand}{v:Value}(ho:o.op= .move x)(hx:ev s.t x=some v):DC P o s v:=fun B a w hr=>by
 simp[execOp,ho,hr.ev hx]
def Zg{x:Operand}{v:Value}(ho:o.op= .assign x)(hx:ev s.t x=some v):DC P o s v:=fun B a w hr=>by
 simp[execOp,ho,hr.ev hx]
def Zh{c x y:Operand}{b:Bool}{v:Value}(ho:o.op= .pick c x y)(hc:ev s.t c=some (.bool b))(hv:ev s.t (if b then x else y)=some v):DC P o s v:=fun B a w hr=>by
 have h1:=hr.ev hc;have h2:=hr.ev hv;cases b<;>simp[execOp,ho,h1,asBool]<;>simpa using h2
def Zi{T:Nat}{x:Operand}{i:TI}{b:aF}{off:Nat}{vs:List Value}{v:Value}(ho:o.op= .load T x)(k:Nat)(hk:s.L[k]? =some b)(hx:ev s.t x=some (b.at off))(hi:dU P T i=true)
 (hvs:(b.cs.drop off).take i.size=vs)(hlen:vs.length=i.size)(hpos:0<i.size)(hv:(bif i.agg then some (.agg vs.toArray) else vs[0]?)=some v):DC P o s v:=fun B a w hr=>by
 obtain⟨g,hg,h1⟩:=hr.mem.loadVar hk hi hvs hlen hpos hv;have h2:=hr.ev hx;unfold aF.at at h2;rw[hg] at h2;simp only[Option.map_some] at h2;simp[execOp,ho,h2,Instr.loadAt,Instr.sureAddr,h1]
end
def TA(w:World)(g:Nat)(cur':Array Value){es:Array MapEntry}{c:Nat}(h:w.heap[g]? =some (.map es c)):(w.setRow g cur').heap[g]? =some (.map es c):=by
 have hlt:g<w.heap.size:=(Array.getElem?_eq_some_iff.1 h).1;have hv:w.heap[g]= .map es c:=(Array.getElem?_eq_some_iff.1 h).2;unfold World.setRow;rw[Array.getElem?_eq_getElem (by simpa using hlt),Array.getElem_modify];simp[hv]
theorem aT.set{B:Bs}{w:World}{L:List aF}(h:aT B L w){k:Nat}{b:aF}(hk:L[k]? =some b)(ho:b.own=true){g:Nat}(hg:b.base=some g)(cur':Array Value)(cs':List Value)
 (hn:cur'.size=b.n)(hc:cur'.toList.take cs'.length=cs'):aT B (L.set k {b with cs:=cs'}) (w.setRow g cur'):=by
 have h6:=((h.blk k b hk).1 g hg).2;have hkl:k<L.length:=(List.getElem?_eq_some_iff.1 hk).1;have base:∀(m:Nat) (bm:aF),(L.set k {b with cs:=cs'})[m]? =some bm->∃bm',L[m]? =some bm'∧bm'.base=bm.base∧bm'.own=bm.own∧bm'.e=bm.e:=by
  intro m bm hm
  by_cases e:k=m
  ·subst e;rw[List.getElem?_set_self hkl] at hm;cases hm;exact⟨b,hk,rfl,rfl,rfl⟩
  ·rw[List.getElem?_set_ne e] at hm;exact⟨bm,hm,rfl,rfl,rfl⟩
 refine⟨h.bel.one (h6 ho) rfl rfl rfl (by simp) (fun i hne=>setRow_other w g i _ (by omega)),fun j b' hj=>?_,fun i j g' bi bj hij hi hj hoi hgi hgj=>?_,?_⟩
 rotate_left 2
 ·refine(h.grp.step (w':=w.setRow g cur') fun g' _ hc=>setRow_other w g g' _ (fun e=>hc b (List.mem_of_getElem? hk) ho (by rw[hg,e]))).sub (fun c hc hn=>?_) (fun c hc hoc g' hgc=>?_)
  ·obtain⟨m,hm⟩:=List.mem_iff_getElem?.1 hc;obtain⟨c',c1,c2,c3,c4⟩:=base m c hm;exact .inr ⟨c',List.mem_of_getElem? c1,by rw[c2];exact hn,c4,fun h=>by rw[c3];exact h⟩
  ·obtain⟨m,hm⟩:=List.mem_iff_getElem?.1 hc;obtain⟨c',c1,c2,c3,c4⟩:=base m c hm;exact⟨c',List.mem_of_getElem? c1,by rw[c3];exact hoc,by rw[c2];exact hgc⟩
 ·by_cases e:k=j
  ·subst e;rw[List.getElem?_set_self hkl] at hj;cases hj;refine⟨fun g' hg'=>?_,fun hn'=>by rw[hg] at hn';cases hn'⟩
   rw[hg] at hg';cases hg';refine⟨?_,h6⟩;rcases((h.blk k b hk).1 g hg).1 with⟨cur,⟨e',fr,h3,hfr,hlt⟩,h4,h5⟩|⟨l,es,c,a1,a2,a3,a4,h3,a5⟩
   ·obtain⟨rfl,rfl⟩:=hfr ho;exact .inl ⟨cur',⟨_,_,setRow_heap w g cur cur' b.e (0,0) h3,fun _=>⟨rfl,rfl⟩,hlt⟩,hn,hc⟩
   ·have hcs:cs'=[]:=by
     have h7:cur'.toList=[]:=List.eq_nil_of_length_eq_zero (by rw[Array.length_toList,hn,a3]);rw[h7] at hc;simpa using hc.symm
    exact .inr ⟨l,es,c,a1,hcs,a3,a4,TA w g cur' h3,a5⟩
  ·rw[List.getElem?_set_ne e] at hj;obtain⟨h1,h2⟩:=h.blk j b' hj;refine⟨fun g' hg'=>?_,h2⟩;have h8:=h1 g' hg';have hne:g'≠g:=fun e'=>h.apart k j g b b' e hk hj ho hg (by rw[hg',e'])
   exact h8.heap (setRow_other w g g' _ hne)
 ·obtain⟨bi',a1,a2,a3,_⟩:=base i bi hi;obtain⟨bj',c1,c2,c3,_⟩:=base j bj hj;exact h.apart i j g' bi' bj' hij a1 c1 (by rw[a3];exact hoi) (by rw[a2];exact hgi) (by rw[c2];exact hgj)
section
variable{P:Program}{o:Oper}{s:St}
def I4{X:Type}{nx:X->St}(h:∀(B:Bs) (a:Act) (w:World),kD B s a w->∃v w' x,(execOp a.eval o).run P w= .ok (.value v) w'∧kD B (nx x) (a.put o.dst v) w'):Eff P o s X nx:=fun B a w hr=>by
 obtain⟨v,w',x,h1,h2⟩:=h B a w hr;unfold Oper.wp;rw[h1];exact⟨x,h2⟩
def qio{T:Nat}{x:Operand}{v:Value}(hT:T<bW)(hd:∀d,o.dst=some d->d<s.nt)(ho:o.op= .box T x)(hx:ev s.t x=some v):
 Eff P o s Nat (fun g=>({s with L:=s.L++[⟨some g,T,v.cells.toList,v.cells.size,true⟩]}:St).put o.dst (.pointer (some ⟨g,0,none⟩))):=
 I4 fun B a w hr=>⟨.pointer (some ⟨w.heap.size,0,none⟩),w.alloc (.cells v.cells T),w.heap.size,by simp[execOp,ho,hr.ev hx,Instr.box,newVar,newRow],hr.put hd (hr.mem.alloc T v.cells hT)⟩
def Xu{T:Nat}{z:Value}{tt:List (Nat×Value)}(hT:T<bW)(ho:o.op= .alloc T)(hz:(P.info? T).bind (·.zero)=some z):yQ P tt o=some (T,z.cells):=by
 unfold yQ;rw[ho];dsimp only;rw[if_pos hT,hz];rfl
def DJ{T:Nat}{x y:Operand}{i:TI}{b:aF}{off:Nat}{v:Value}(ho:o.op= .store T x y)(k:Nat)(hk:s.L[k]? =some b)(hown:b.own=true)(hx:ev s.t x=some (b.at off))(hb:b.base.isSome=true)
 (hy:ev s.t y=some v)(hi:dU P T i=true)(hsz:v.cells.size=i.size)(hpos:0<i.size)(hfit:off+i.size<=b.cs.length)(h1:(v.cells.toList.all fun u=>u.oneCell')=true):
 Za P o s (s.L.set k {b with cs:=b.cs.take off++v.cells.toList++b.cs.drop (off+i.size)}):=fun B a w hr=>by
 obtain⟨g,hg⟩:=Option.isSome_iff_exists.1 hb;have h2:=hr.ev hx;unfold aF.at at h2;rw[hg] at h2;simp only[Option.map_some] at h2;obtain⟨cur,⟨e',fr,h3,hfr,_⟩,h4,h5⟩:=((hr.mem.blk k b hk).1 g hg).cells (.inr (fun e=>by rw[e] at hfit;simp at hfit;omega));obtain⟨rfl,rfl⟩:=hfr hown;have hlc:b.cs.length<=cur.size:=by
  have:=congrArg List.length h5;simp at this;omega
 have hvl:v.cells.toList.length=i.size:=(by simp[hsz]);have hst:=run_storeCells_at P g off b.e v.cells.toList 0 cur w h3 (by rw[hvl];omega) (fun u hu=>List.all_eq_true.1 h1 u hu);simp only[Nat.add_zero] at hst;have hrun:(execOp a.eval o).run P w= .ok .skip (w.setRow g (cur.toList.take off++v.cells.toList++cur.toList.drop (off+v.cells.toList.length)).toArray):=by
  simp only[execOp,ho,hr.ev hy,h2,Instr.storeAt,Instr.sureAddr,Sem.run_bind,Sem.run_pure,Result.andThen_ok];unfold Go.storeVar;simp only[Sem.run_bind,pX hi w,Result.andThen_ok,hsz,ne_eq,not_true,if_false,Sem.run_ite];simp[hst]
 refine⟨_,hrun,?_⟩;refine hr.mem.set hk hown hg _ _ ?_ ?_
 ·simp only[List.size_toArray,List.length_append,List.length_take,List.length_drop,Array.length_toList,hvl];rw[<-h4];simp only[Array.length_toList] at*;omega
 ·simp only[hvl];have hct:cur.toList=b.cs++cur.toList.drop b.cs.length:=by
   conv=>lhs;rw[<-List.take_append_drop b.cs.length cur.toList,h5]
  generalize hcl:cur.toList=cl at*
  generalize hr':cl.drop b.cs.length=rest at*
  subst hct;have e1:(b.cs++rest).take off=b.cs.take off:=by rw[List.take_append_of_le_length (by omega)]
  have e2:(b.cs++rest).drop (off+i.size)=b.cs.drop (off+i.size)++rest:=(by rw[List.drop_append_of_le_length hfit]);rw[e1,e2,<-List.append_assoc];exact List.take_left
end
end Go.Via
