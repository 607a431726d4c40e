/-
  Part 1 (chapter 32): lemmas, walks. Each theorem states its own conditions.
-/
import GoSem.Core.World
import Derived.MapKept
import Derived.WalkKit
import Derived.WalkSpells
import Derived.WalkLawsBesides
import Derived.Deep.LoopGhost
import Derived.Deep.AppendSrc
import Derived.Laws.BytesArg
import Derived.Laws.CopyRow
import Derived.Laws.AppendOwn
import Derived.Deep.Upon
set_option linter.all false
set_option maxRecDepth 20000
set_option maxHeartbeats 20000000
namespace Go.Via
open Go
abbrev aX:Value:= .bool false
abbrev aY:Value:= .string ⟨#[]⟩
abbrev dV(g:Nat):Value:= .pointer (some ⟨g,0,none⟩)
abbrev bz(n:Nat):Value:= .int .i64 (n:Int)
inductive MT where
 |l (n:Nat)
 |p (a b:MT)
def pr(a b:Nat):Nat:=2^a*(2*b+1)
def Y5:∀{a b c d:Nat},pr a b=pr c d->a=c∧b=d
 |0,b,0,d,h=>by simp[pr] at h;exact⟨rfl,by omega⟩
 |0,b,c+1,d,h=>by
  unfold pr at h;rw[Nat.pow_succ,Nat.pow_zero,Nat.one_mul,Nat.mul_comm (2^c) 2,Nat.mul_assoc] at h;omega
 |a+1,b,0,d,h=>by
  unfold pr at h;rw[Nat.pow_succ,Nat.pow_zero,Nat.one_mul,Nat.mul_comm (2^a) 2,Nat.mul_assoc] at h;omega
 |a+1,b,c+1,d,h=>by
  unfold pr at h;rw[Nat.pow_succ,Nat.pow_succ,Nat.mul_comm (2^a) 2,Nat.mul_comm (2^c) 2,Nat.mul_assoc,Nat.mul_assoc] at h;have h2:pr a b=pr c d:=by unfold pr;omega
  obtain⟨h3,h4⟩:=Y5 h2;exact⟨by omega,h4⟩
def MT.num:MT->Nat
 | .l n=>2*n
 | .p a b=>2*pr a.num b.num+1
theorem MT.num_inj:∀{x y:MT},x.num=y.num->x=y
 | .l a,.l b,h=>by simp only[MT.num] at h;rw[show a=b by omega]
 | .l a,.p b c,h=>by simp only[MT.num] at h;omega
 | .p b c,.l a,h=>by simp only[MT.num] at h;omega
 | .p a b,.p c d,h=>by
   simp only[MT.num] at h;obtain⟨h1,h2⟩:=Y5 (a:=a.num) (b:=b.num) (c:=c.num) (d:=d.num) (by omega);rw[MT.num_inj h1,MT.num_inj h2]
def mtL{α:Type}(f:α->MT):List α->MT
 |[]=> .l 0
 |x::xs=> .p (f x) (mtL f xs)
theorem Be{α:Type}{f:α->MT}{Q:α->Prop}(hf:∀x y,Q x->Q y->f x=f y->x=y):∀{xs ys:List α},(∀x∈xs,Q x)->(∀y∈ys,Q y)->mtL f xs=mtL f ys->xs=ys
 |[],[],_,_,_=>rfl
 |[],_::_,_,_,h=>by cases h
 |_::_,[],_,_,h=>by cases h
 |x::xs,y::ys,hx,hy,h=>by
  simp only[mtL,MT.p.injEq] at h;rw[hf x y (hx x (by simp)) (hy y (by simp)) h.1,Be hf (fun z hz=>hx z (by simp[hz])) (fun z hz=>hy z (by simp[hz])) h.2]
def mtI(z:Int):MT:=if z<0 then .p (.l 1) (.l z.natAbs) else .p (.l 0) (.l z.natAbs)
theorem qcB{a b:Int}(h:mtI a=mtI b):a=b:=by
 unfold mtI at h
 split at h<;>split at h<;>simp at h<;>omega
def ikN:IntKind->Nat
 | .i8=>0| .i16=>1| .i32=>2| .i64=>3| .u8=>4| .u16=>5| .u32=>6| .u64=>7
theorem qcC:∀{a b:IntKind},ikN a=ikN b->a=b:=by intro a b;cases a<;>cases b<;>simp[ikN]
def Value.simple0:Value->Bool
 | .bool _| .int .. | .string _=>true
 |_=>false
def Value.simple:Value->Bool
 | .agg xs=>xs.toList.all Value.simple0
 |v=>Value.simple0 v
def Xt:Value->MT
 | .bool b=> .p (.l 0) (.l b.toNat)
 | .int k z=> .p (.l 1) (.p (.l (ikN k)) (mtI z))
 | .string s=> .p (.l 2) (mtL (fun u:UInt8=> .l u.toNat) s.data.toList)
 |_=> .l 9
def OE{x y:Value}(hx:Value.simple0 x=true)(hy:Value.simple0 y=true)(h:Xt x=Xt y):x=y:=by
 cases x<;>cases y<;>first|(simp[Value.simple0] at hx;done)|(simp[Value.simple0] at hy;done)|skip
 case bool.bool a b=>simp[Xt] at h;cases a<;>cases b<;>simp at h<;>rfl
 case int.int k a j b=>
  simp[Xt] at h;rw[qcC h.1,qcB h.2]
 case string.string a b=>
  simp only[Xt,MT.p.injEq,true_and] at h;have:=Be (Q:=fun _=>True) (fun x y _ _ h=>UInt8.toNat_inj.1 (MT.l.inj h)) (fun _ _=>trivial) (fun _ _=>trivial) h;have h2:a.data=b.data:=Array.toList_inj.1 this;cases a;cases b;simp at h2;rw[h2]
 all_goals (simp[Xt] at h)
def mt1:Value->MT
 | .agg xs=> .p (.l 8) (mtL Xt xs.toList)
 |v=>Xt v
def Vq{x y:Value}(hx:Value.simple x=true)(hy:Value.simple y=true)(h:mt1 x=mt1 y):x=y:=by
 have key:∀(xs:Array Value) (v:Value),Value.simple0 v=true->mt1 (.agg xs)≠Xt v:=fun xs v hv e=>by
  cases v<;>simp[Value.simple0] at hv<;>simp[mt1,Xt] at e
 have one:∀v:Value,(∀xs,v≠ .agg xs)->Value.simple v=Value.simple0 v∧mt1 v=Xt v:=fun v hv=>by
  cases v<;>first|exact⟨rfl,rfl⟩|exact absurd rfl (hv _)
 by_cases cx:∃xs,x= .agg xs
 ·obtain⟨xs,rfl⟩:=cx
  by_cases cy:∃ys,y= .agg ys
  ·obtain⟨ys,rfl⟩:=cy;simp only[mt1,MT.p.injEq,true_and] at h;have:=Be (Q:=fun v=>Value.simple0 v=true) (fun _ _ h1 h2=>OE h1 h2) (fun v hv=>List.all_eq_true.1 hx v hv) (fun v hv=>List.all_eq_true.1 hy v hv) h;rw[Array.toList_inj.1 this]
  ·obtain⟨e1,e2⟩:=one y (fun ys e=>cy ⟨ys,e⟩);rw[e2] at h;exact absurd h (key xs y (by rw[<-e1];exact hy))
 ·obtain⟨e1,e2⟩:=one x (fun ys e=>cx ⟨ys,e⟩)
  by_cases cy:∃ys,y= .agg ys
  ·obtain⟨ys,rfl⟩:=cy;rw[e2] at h;exact absurd h.symm (key ys x (by rw[<-e1];exact hx))
  ·obtain⟨d1,d2⟩:=one y (fun ys e=>cy ⟨ys,e⟩);rw[e2,d2] at h;exact OE (by rw[<-e1];exact hx) (by rw[<-d1];exact hy) h
def tN(l:List (Value×Value)):Bool:=l.all fun p=>Value.simple p.1&&Value.simple p.2
def mtM(l:List (Value×Value)):MT:=mtL (fun p=> .p (mt1 p.1) (mt1 p.2)) l
def qcD{l m:List (Value×Value)}(hl:tN l=true)(hm:tN m=true)(h:mtM l=mtM m):l=m:=
 Be (Q:=fun p=>Value.simple p.1=true∧Value.simple p.2=true) (fun x y h1 h2 h=>Prod.ext (Vq h1.1 h2.1 (MT.p.inj h).1) (Vq h1.2 h2.2 (MT.p.inj h).2))
  (fun p hp=>by have:=List.all_eq_true.1 hl p hp;simpa using this) (fun p hp=>by have:=List.all_eq_true.1 hm p hp;simpa using this) h
def qfw:∃f:List (Value×Value)->Nat,∀l m,tN l=true->tN m=true->f l=f m->l=m:=
 ⟨fun l=>(mtM l).num,fun _ _ hl hm h=>qcD hl hm (MT.num_inj h)⟩
noncomputable def mE0:List (Value×Value)->Nat:=Classical.choose qfw
abbrev dC:Nat:=1000000
noncomputable def mE(l:List (Value×Value)):Nat:=dC+2*mE0 l
def qio(l:List (Value×Value)):¬mE l<dC:=by unfold mE;omega
def qgb{l m:List (Value×Value)}(hl:tN l=true)(hm:tN m=true)(h:mE l=mE m):l=m:=Classical.choose_spec qfw l m hl hm (by unfold mE at h;unfold mE0 at h;omega)
noncomputable def mQ(born:Nat)(key:Value)(l:List (Value×Value)):Nat:=dC+2*mE0 ((.int .i64 born,key)::l)+1
def qgc{l m:List (Value×Value)}{b:Nat}{k:Value}:mE l≠mQ b k m:=by unfold mE mQ;omega
def Value.simpleT:Value->Bool
 | .bool _| .int .. | .string _| .slice .. | .pointer _=>true
 |_=>false
def YY:Option Addr->MT
 |none=> .l 0
 |some ⟨b,o,none⟩=> .p (.l 0) (.p (.l b) (.l o))
 |some ⟨b,o,some s⟩=> .p (.l 1) (.p (.l b) (.p (.l o) (.l s)))
theorem Vr:∀{a b:Option Addr},YY a=YY b->a=b
 |none,none,_=>rfl
 |none,some ⟨_,_,none⟩,h=>by simp[YY] at h
 |none,some ⟨_,_,some _⟩,h=>by simp[YY] at h
 |some ⟨_,_,none⟩,none,h=>by simp[YY] at h
 |some ⟨_,_,some _⟩,none,h=>by simp[YY] at h
 |some ⟨_,_,none⟩,some ⟨_,_,none⟩,h=>by simp[YY] at h;simp[h]
 |some ⟨_,_,none⟩,some ⟨_,_,some _⟩,h=>by simp[YY] at h
 |some ⟨_,_,some _⟩,some ⟨_,_,none⟩,h=>by simp[YY] at h
 |some ⟨_,_,some _⟩,some ⟨_,_,some _⟩,h=>by simp[YY] at h;simp[h]
def mtT:Value->MT
 | .slice a l c=> .p (.l 3) (.p (YY a) (.p (.l l) (.l c)))
 | .pointer a=> .p (.l 4) (YY a)
 |v=>Xt v
def qcE{x y:Value}(hx:Value.simpleT x=true)(hy:Value.simpleT y=true)(h:mtT x=mtT y):x=y:=by
 cases x<;>cases y<;>first|(simp[Value.simpleT] at hx;done)|(simp[Value.simpleT] at hy;done)|skip
 case slice.slice a l c a' l' c'=>
  simp[mtT] at h;rw[Vr h.1,h.2.1,h.2.2]
 case pointer.pointer a b=>
  simp[mtT] at h;rw[Vr h]
 all_goals first|(exact OE rfl rfl h)|(simp[mtT,Xt] at h)
abbrev LK:=List (Nat×List Value)
def Hy(T:LK):Bool:=T.all fun p=>p.2.all Value.simpleT
def Y6(T:LK):MT:=mtL (fun p=> .p (.l p.1) (mtL mtT p.2)) T
def Xu{T U:LK}(hT:Hy T=true)(hU:Hy U=true)(h:Y6 T=Y6 U):T=U:=
 Be (Q:=fun p=>p.2.all Value.simpleT=true) (fun x y h1 h2 h=>Prod.ext (MT.l.inj (MT.p.inj h).1) (Be (Q:=fun v=>Value.simpleT v=true) (fun _ _ a b e=>qcE a b e) (fun v hv=>List.all_eq_true.1 h1 v hv) (fun v hv=>List.all_eq_true.1 h2 v hv) (MT.p.inj h).2))
  (fun p hp=>List.all_eq_true.1 hT p hp) (fun p hp=>List.all_eq_true.1 hU p hp) h
def qfx:∃f:LK->Nat,∀T U,Hy T=true->Hy U=true->f T=f U->T=U:=
 ⟨fun T=>(Y6 T).num,fun _ _ hT hU h=>Xu hT hU (MT.num_inj h)⟩
noncomputable def gE(T:LK):Nat:=dC+Classical.choose qfx T
def Jd(T:LK):¬gE T<dC:=by unfold gE;omega
def qgd{T U:LK}(hT:Hy T=true)(hU:Hy U=true)(h:gE T=gE U):T=U:=Classical.choose_spec qfx T U hT hU (by unfold gE at h;omega)
end Go.Via
namespace Go.Via
open Go Go.RowKit
structure aG where
 base:Option Nat
 e:TypeId
 cs:List Value
 n:Nat
 own:Bool
structure St where
 nt:Nat
 t:List (Nat×Value)
 L:List aG
def look:List (Nat×Value)->Nat->Option Value
 |[],_=>none
 |(d,v)::l,k=>bif d==k then some v else look l k
structure Bs where
 w:World
 S:Nat->Prop
 D:List Deferred
abbrev Bs.of(w:World):Bs:=⟨w,fun _=>False,[]⟩
abbrev Bs.d0(B:Bs):Bs:=⟨B.w,B.S,[]⟩
instance:Coe World Bs:=⟨Bs.of⟩
def Bs.own(B:Bs)(g:Nat):Prop:=B.w.heap.size<=g∨B.S g
def Bs.le(B B':Bs):Prop:=∀g,B'.own g->B.own g
def Ea{w:World}{g:Nat}(h:Bs.own (Bs.of w) g):w.heap.size<=g:=h.elim id False.elim
class Mo where
 p:Prop
instance(priority:=low) mo0:Mo:=⟨False⟩
variable[Mo]
structure fP(n:Nat)(w w':World):Prop where
 os:w'.os=w.os
 tape:w'.tape=w.tape
 output:w'.output=w.output
 size:w.heap.size<=w'.heap.size
 block:∀k,k<n->w'.heap[k]? =w.heap[k]?
 drawn:Mo.p->w.drawn<=w'.drawn
def fP.refl(n:Nat)(w:World):fP n w w:=⟨rfl,rfl,rfl,Nat.le_refl _,fun _ _=>rfl,fun _=>Nat.le_refl _⟩
def fP.mono{n m:Nat}{w w':World}(h:fP n w w')(hm:m<=n):fP m w w':=⟨h.os,h.tape,h.output,h.size,fun k hk=>h.block k (Nat.lt_of_lt_of_le hk hm),h.drawn⟩
theorem fP.alloc{n:Nat}{a w:World}(h:fP n a w)(hn:n<=w.heap.size)(o:Obj):fP n a (w.alloc o):=
 ⟨h.os,h.tape,h.output,Nat.le_trans h.size (by simp),fun k hk=>(Below.heap_alloc _ _ _ (by omega)).trans (h.block k hk),h.drawn⟩
def fP.below{n:Nat}{w w':World}(h:fP n w w'):Below n w w':=⟨h.os,h.tape,h.output,h.size,h.block⟩
structure mO(B:Bs)(w:World):Prop where
 os:w.os=B.w.os
 tape:w.tape=B.w.tape
 output:w.output=B.w.output
 size:B.w.heap.size<=w.heap.size
 block:∀k,k<B.w.heap.size->¬B.S k->w.heap[k]? =B.w.heap[k]?
 drawn:Mo.p->B.w.drawn<=w.drawn
def mO.drew{B:Bs}{w:World}(h:mO B w):mO B w.drew:=⟨h.os,h.tape,h.output,h.size,h.block,fun m=>Nat.le_succ_of_le (h.drawn m)⟩
def mO.trans{B:Bs}{a c:World}(h:mO B a)(k:fP B.w.heap.size a c):mO B c:=
 ⟨k.os.trans h.os,k.tape.trans h.tape,k.output.trans h.output,Nat.le_trans h.size k.size,fun i hi hS=>(k.block i hi).trans (h.block i hi hS),fun m=>Nat.le_trans (h.drawn m) (k.drawn m)⟩
def mO.le{B:Bs}{w:World}(h:mO B w):Bs.le B w:=fun g hg=>by
 rcases hg with hg|hg
 ·exact .inl (Nat.le_trans h.size hg)
 ·exact hg.elim
def mO.below{b w:World}(h:mO b w):fP b.heap.size b w:=⟨h.os,h.tape,h.output,h.size,fun k hk=>h.block k hk id,h.drawn⟩
def mO.of{b w:World}(h:fP b.heap.size b w):mO b w:=⟨h.os,h.tape,h.output,h.size,fun k hk _=>h.block k hk,h.drawn⟩
theorem mO.one{B:Bs}{a c:World}{g:Nat}(h:mO B a)(hg:B.own g)(h1:c.os=a.os)(h2:c.tape=a.tape)(h3:c.output=a.output)(h4:a.heap.size<=c.heap.size)(h5:∀i,i≠g->c.heap[i]? =a.heap[i]?)(h6:a.drawn<=c.drawn:=by exact Nat.le_refl _):mO B c:=
 ⟨h1.trans h.os,h2.trans h.tape,h3.trans h.output,Nat.le_trans h.size h4,fun i hi hS=>(h5 i (fun e=>by
 subst e;rcases hg with hg|hg
 ·omega
 ·exact hS hg)).trans (h.block i hi hS),fun m=>Nat.le_trans (h.drawn m) h6⟩
def Vs(w:World)(b:aG)(g:Nat):Prop:=
 ∃cur:Array Value,(∃(e':TypeId) (fr:Nat×Nat),w.heap[g]? =some (.cells cur e' fr)∧(b.own=true->e'=b.e∧fr=(0,0))∧b.e<dC)∧cur.size=b.n∧cur.toList.take b.cs.length=b.cs
def qip(e:Nat)(l:List (Value×Value))(es:Array MapEntry):Prop:=
 e=mE l∨∃(q:Nat) (z:MapEntry),e=mQ z.born z.key l∧es[q]? =some z∧Value.simple z.key=true
def qiq(w:World)(b:aG)(g:Nat):Prop:=
 ∃(l:List (Value×Value)) (es:Array MapEntry) (clock:Nat),qip b.e l es∧b.cs=[]∧b.n=0∧tN l=true∧w.heap[g]? =some (.map es clock)∧es.toList.map (fun e=>(e.key,e.val))=l∧MapKept.Stamped es clock
def rY(B:Bs)(w:World)(b:aG)(g:Nat):Prop:=(Vs w b g∨qiq w b g)∧(b.own=true->B.own g)
theorem rY.cells{B:Bs}{w:World}{b:aG}{g:Nat}(h:rY B w b g)(hn:b.n≠0∨b.cs≠[]):Vs w b g:=by
 rcases h.1 with h|⟨_,_,_,_,h1,h2,_⟩
 ·exact h
 ·rcases hn with hn|hn
  ·exact absurd h2 hn
  ·exact absurd h1 hn
theorem rY.lt{B:Bs}{w:World}{b:aG}{g:Nat}(h:rY B w b g):g<w.heap.size:=by
 rcases h.1 with⟨cur,⟨_,_,h3,_⟩,_⟩|⟨_,_,_,_,_,_,_,h3,_⟩<;>exact(Array.getElem?_eq_some_iff.1 h3).1
def rY.heap{B:Bs}{w w':World}{b:aG}{g:Nat}(h:rY B w b g)(he:w'.heap[g]? =w.heap[g]?):rY B w' b g:=by
 refine⟨?_,h.2⟩;rcases h.1 with⟨cur,⟨e',fr,h3,h4⟩,h5⟩|⟨l,es,c,a1,a2,a3,a4,h3,a5⟩
 ·exact .inl ⟨cur,⟨e',fr,by rw[he];exact h3,h4⟩,h5⟩
 ·exact .inr ⟨l,es,c,a1,a2,a3,a4,by rw[he];exact h3,a5⟩
def qir(e n:Nat):List Value:=[.bool true,.int .u8 (-1),.int .i64 e,.int .i64 n]
def qkm:List Value->Bool
 |[_,.int .u8 (.negSucc _),_,_]=>false
 |_=>true
def qis(s:ByteArray)(pos:Nat):List Value:=[.string s,.int .u8 (-1),.int .i64 (pos:Nat),.bool true]
def qge:Value->Bool
 | .int .u8 (.negSucc 1)=>true
 |_=>false
def Agr(cs full:List Value):Prop:=full.length<=cs.length∧∀(j:Nat) (v:Value),cs[j]? =some v->qge v=false->full[j]? =some v
def Agr.refl(cs:List Value):Agr cs cs:=⟨Nat.le_refl _,fun _ _ h _=>h⟩
def tV(w:World)(p:Nat×List Value):Prop:=
 (∃(cur:Array Value) (e':TypeId) (fr:Nat×Nat),w.heap[p.1]? =some (.cells cur e' fr)∧((qkm p.2=true∧Agr p.2 (cur.toList.take p.2.length))∨p.2=qir e' cur.size))∨∃(s:ByteArray) (pos:Nat),w.heap[p.1]? =some (.stringIter s pos)∧p.2=qis s pos
theorem tV.lt{w:World}{p:Nat×List Value}(h:tV w p):p.1<w.heap.size:=by
 rcases h with⟨_,_,_,h1,_⟩|⟨_,_,h1,_⟩<;>exact(Array.getElem?_eq_some_iff.1 h1).1
def tV.heap{w w':World}{p:Nat×List Value}(h:tV w p)(he:w'.heap[p.1]? =w.heap[p.1]?):tV w' p:=by
 rcases h with⟨cur,e',fr,h1,h2⟩|⟨s,pos,h1,h2⟩
 ·exact .inl ⟨cur,e',fr,by rw[he];exact h1,h2⟩
 ·exact .inr ⟨s,pos,by rw[he];exact h1,h2⟩
def mP(B:Bs)(w:World)(L:List aG):Prop:=∀b∈L,b.base=none->∀T:LK,Hy T=true->b.e=gE T->∀p∈T,tV w p∧(b.own=true->B.own p.1)∧∀c∈L,c.own=true->c.base≠some p.1
def mP.sub{B:Bs}{w:World}{L L':List aG}(h:mP B w L)(h1:∀b'∈L',b'.base=none->b'.e<dC∨∃b∈L,b.base=none∧b.e=b'.e∧(b'.own=true->b.own=true))
 (h2:∀c'∈L',c'.own=true->∀g,c'.base=some g->∃c∈L,c.own=true∧c.base=some g):mP B w L':=fun b' hb' hn T hT he p hp=>by
 rcases h1 b' hb' hn with hlt|⟨b,hb,n1,n2,n3⟩
 ·exact absurd (he▸hlt) (Jd T)
 ·obtain⟨a1,a2,a3⟩:=h b hb n1 T hT (n2.trans he) p hp;refine⟨a1,fun ho=>a2 (n3 ho),fun c' hc' ho hg=>?_⟩
  obtain⟨c,hc,c1,c2⟩:=h2 c' hc' ho p.1 hg;exact a3 c hc c1 c2
def mP.step{B:Bs}{w w':World}{L:List aG}(h:mP B w L)(hw:∀g,g<w.heap.size->(∀c∈L,c.own=true->c.base≠some g)->w'.heap[g]? =w.heap[g]?):mP B w' L:=fun b hb hn T hT he p hp=>by
 obtain⟨a1,a2,a3⟩:=h b hb hn T hT he p hp;exact⟨a1.heap (hw p.1 a1.lt a3),a2,a3⟩
theorem mP.base{B B':Bs}{w:World}{L:List aG}(h:mP B' w L)(hB:Bs.le B B'):mP B w L:=fun b hb hn T hT he p hp=>by
 obtain⟨a1,a2,a3⟩:=h b hb hn T hT he p hp;exact⟨a1,fun ho=>hB _ (a2 ho),a3⟩
def mP.app{B:Bs}{w:World}{L new:List aG}(h:mP B w L)(hn:mP B w new)
 (h1:∀b∈L,b.base=none->∀T:LK,Hy T=true->b.e=gE T->∀p∈T,∀c∈new,c.own=true->c.base≠some p.1)
 (h2:∀b∈new,b.base=none->∀T:LK,Hy T=true->b.e=gE T->∀p∈T,∀c∈L,c.own=true->c.base≠some p.1):mP B w (L++new):=fun b hb hn' T hT he p hp=>by
 rcases List.mem_append.1 hb with hb|hb
 ·obtain⟨a1,a2,a3⟩:=h b hb hn' T hT he p hp;refine⟨a1,a2,fun c hc ho=>?_⟩
  rcases List.mem_append.1 hc with hc|hc
  ·exact a3 c hc ho
  ·exact h1 b hb hn' T hT he p hp c hc ho
 ·obtain⟨a1,a2,a3⟩:=hn b hb hn' T hT he p hp;refine⟨a1,a2,fun c hc ho=>?_⟩
  rcases List.mem_append.1 hc with hc|hc
  ·exact h2 b hb hn' T hT he p hp c hc ho
  ·exact a3 c hc ho
def mP.nil(B:Bs)(w:World):mP B w []:=fun b hb=>by cases hb
structure bf(B:Bs)(L:List aG)(w:World):Prop where
 bel:mO B w
 blk:∀(k:Nat) (b:aG),L[k]? =some b->(∀g,b.base=some g->rY B w b g)∧(b.base=none->b.cs=[]∧b.n=0)
 apart:∀(i j g:Nat) (bi bj:aG),i≠j->L[i]? =some bi->L[j]? =some bj->bi.own=true->bi.base=some g->bj.base≠some g
 grp:mP B w L
def bf.d0{B:Bs}{w:World}{L:List aG}(h:bf B L w):bf B.d0 L w:=⟨⟨h.bel.os,h.bel.tape,h.bel.output,h.bel.size,h.bel.block,h.bel.drawn⟩,h.blk,h.apart,h.grp⟩
def bf.of_d0{B:Bs}{w:World}{L:List aG}(h:bf B.d0 L w):bf B L w:=⟨⟨h.bel.os,h.bel.tape,h.bel.output,h.bel.size,h.bel.block,h.bel.drawn⟩,h.blk,h.apart,h.grp⟩
def bf.below{b w:World}{L:List aG}(h:bf b L w):fP b.heap.size b w:=h.bel.below
structure lh(B:Bs)(s:St)(a:Act)(w:World):Prop where
 df:a.defers=B.D
 size:a.tmps.size=s.nt
 tmp:∀(d:Nat) (v:Value),look s.t d=some v->a.tmps[d]? =some v
 mem:bf B s.L w
def St.put(s:St)(dst:Option Nat)(v:Value):St:=
 match dst with
 |some d=>{s with t:=(d,v)::s.t}
 |none=>s
def ev(t:List (Nat×Value)):Operand->Option Value
 | .tmp d=>look t d
 | .const v=>some v
 | .global g=>some (.pointer (some ⟨g,0,none⟩))
 | .func f=>some (.func (.func f) #[] #[])
theorem dA{d k:Nat}{v:Value}{l:List (Nat×Value)}(h:d≠k):look ((d,v)::l) k=look l k:=by
 have:(d==k)=false:=(by simpa using h);simp[look,this]
theorem fB{d:Nat}{v:Value}{l:List (Nat×Value)}:look ((d,v)::l) d=some v:=by
 simp[look]
def bf.drew{B:Bs}{w:World}{L:List aG}(h:bf B L w):bf B L {w with drawn:=w.drawn+1}:=
 ⟨h.bel.drew,h.blk,h.apart,h.grp⟩
def lh.drew{B:Bs}{w:World}{s:St}{a:Act}(h:lh B s a w):lh B s a {w with drawn:=w.drawn+1}:=
 ⟨h.df,h.size,h.tmp,h.mem.drew⟩
theorem bf.lt{B:Bs}{w:World}{L:List aG}(h:bf B L w){k:Nat}{b:aG}(hk:L[k]? =some b){g:Nat}(hg:b.base=some g):g<w.heap.size:=by
 exact((h.blk k b hk).1 g hg).lt
def bf.ext{B:Bs}{w w':World}{L new:List aG}(h:bf B L w)(hw:fP w.heap.size w w')
 (hnew:∀(k:Nat) (b:aG),new[k]? =some b->(∀g,b.base=some g->rY B w' b g∧w.heap.size<=g)∧(b.base=none->b.cs=[]∧b.n=0))
 (hap:∀(i j g:Nat) (bi bj:aG),i≠j->new[i]? =some bi->new[j]? =some bj->bi.base=some g->bj.base≠some g)(hng:∀b∈new,b.base=none->b.e<dC:=by intro b hb hn;first|(simp at hb;done)|(simp at hb;subst hb;cases hn)):bf B (L++new) w':=by
 have hB:=h.bel.size;refine⟨h.bel.trans (hw.mono hB),fun k b hk=>?_,fun i j g bi bj hij hi hj ho hg hgj=>?_,?_⟩
 rotate_left 2
 ·refine(h.grp.step fun g hg _=>hw.block g hg).app (fun b hb hn T hT he=>absurd (he▸hng b hb hn) (Jd T)) (fun b hb hn T hT he p hp c hc ho hg=>?_) (fun b hb hn T hT he=>absurd (he▸hng b hb hn) (Jd T));have h1:=(h.grp b hb hn T hT he p hp).1.lt;obtain⟨j,hj⟩:=List.mem_iff_getElem?.1 hc;have h2:=((hnew j c hj).1 _ hg).2;omega
 ·rw[List.getElem?_append] at hk
  split at hk
  ·obtain⟨h1,h2⟩:=h.blk k b hk;exact⟨fun g hg=>(h1 g hg).heap (hw.block g (h.lt hk hg)),h2⟩
  ·obtain⟨h1,h2⟩:=hnew _ b hk;exact⟨fun g hg=>(h1 g hg).1,h2⟩
 ·rw[List.getElem?_append] at hi hj
  split at hi<;>split at hj
  ·exact h.apart i j g bi bj hij hi hj ho hg hgj
  ·have h1:=h.lt hi hg;have h2:=((hnew _ bj hj).1 g hgj).2;omega
  ·have h1:=h.lt hj hgj;have h2:=((hnew _ bi hi).1 g hg).2;omega
  ·exact hap _ _ g bi bj (by omega) hi hj hg hgj
theorem bf.alloc{B:Bs}{w:World}{L:List aG}(h:bf B L w)(e:TypeId)(cs:Array Value)(he:e<dC):
 bf B (L++[⟨some w.heap.size,e,cs.toList,cs.size,true⟩]) (w.alloc (.cells cs e)):=by
 refine h.ext ((fP.refl _ _).alloc (Nat.le_refl _) _) (fun k b hk=>?_) (fun i j g bi bj hij hi hj=>?_)
 ·cases k with
  |zero=>
   simp at hk;subst hk;refine⟨fun g hg=>?_,fun hg=>by cases hg⟩
   simp only[Option.some.injEq] at hg;subst hg;exact⟨⟨.inl ⟨cs,⟨_,_,heap_alloc_new w _,fun _=>⟨rfl,rfl⟩,he⟩,rfl,List.take_of_length_le (by simp)⟩,fun _=> .inl h.bel.size⟩,Nat.le_refl _⟩
  |succ k=>simp at hk
 ·cases i with
  |zero=>cases j with
   |zero=>exact absurd rfl hij
   |succ j=>simp at hj
  |succ i=>simp at hi
def bf.same{B:Bs}{w w':World}{L:List aG}(h:bf B L w)(hw:fP w.heap.size w w'):bf B L w':=by
 have:=h.ext (new:=[]) hw (fun k b hk=>by simp at hk) (fun i j g bi bj hij hi=>by simp at hi)
 simpa using this
def mP.mem{B:Bs}{w:World}{L L':List aG}(h:mP B w L)(hs:∀b∈L',b∈L):mP B w L':=
 h.sub (fun b hb hn=> .inr ⟨b,hs b hb,hn,rfl,id⟩) (fun c hc ho g hg=>⟨c,hs c hc,ho,hg⟩)
def bf.reindex{B:Bs}{w:World}{L L':List aG}(h:bf B L w)(f:Nat->Nat)(hf:∀(i:Nat) (b:aG),L'[i]? =some b->L[f i]? =some b)(hi:∀i j,i<L'.length->j<L'.length->f i=f j->i=j):bf B L' w:=
 ⟨h.bel,fun k b hk=>h.blk (f k) b (hf k b hk),fun i j g bi bj hij h1 h2 ho hg hgj=>
 h.apart (f i) (f j) g bi bj (fun e=>hij (hi i j (List.getElem?_eq_some_iff.1 h1).1 (List.getElem?_eq_some_iff.1 h2).1 e)) (hf i bi h1) (hf j bj h2) ho hg hgj,
 h.grp.mem fun b hb=>by obtain⟨i,hi⟩:=List.mem_iff_getElem?.1 hb;exact List.mem_of_getElem? (hf i b hi)⟩
def bf.joinF{B:Bs}{w w':World}{L new:List aG}(h:bf B L w)(h':bf w new w')(hc:∀b∈new,b.own=true):bf B (L++new) w':=by
 have hs:=h.same h'.below;refine⟨hs.bel,fun k b hk=>?_,fun i j g bi bj hij hi hj ho hg hgj=>?_,hs.grp.app (h'.grp.base h.bel.le) (fun b hb hn T hT he p hp c hc' ho hg=>?_) (fun b hb hn T hT he p hp c hc' ho hg=>?_)⟩
 rotate_left 2
 ·have h1:=(h.grp b hb hn T hT he p hp).1.lt;obtain⟨j,hj⟩:=List.mem_iff_getElem?.1 hc';have h2:=Ea (((h'.blk j c hj).1 _ hg).2 ho);omega
 ·have h1:=Ea ((h'.grp b hb hn T hT he p hp).2.1 (hc b hb));obtain⟨j,hj⟩:=List.mem_iff_getElem?.1 hc';have h2:=h.lt hj hg;omega
 ·rw[List.getElem?_append] at hk
  split at hk
  ·exact hs.blk k b hk
  ·obtain⟨a1,a2⟩:=h'.blk _ b hk;exact⟨fun g hg=>⟨(a1 g hg).1,fun ho=>h.bel.le _ ((a1 g hg).2 ho)⟩,a2⟩
 ·rw[List.getElem?_append] at hi hj
  split at hi<;>split at hj
  ·exact hs.apart i j g bi bj hij hi hj ho hg hgj
  ·have h1:=h.lt hi hg;have h2:=Ea (((h'.blk _ bj hj).1 g hgj).2 (hc bj (List.mem_of_getElem? hj)));omega
  ·have h1:=h.lt hj hgj;have h2:=Ea (((h'.blk _ bi hi).1 g hg).2 ho);omega
  ·exact h'.apart _ _ g bi bj (by omega) hi hj ho hg hgj
theorem lh.put{B:Bs}{w w':World}{s:St}{a:Act}(h:lh B s a w){dst:Option Nat}{v:Value}{L':List aG}
 (hd:∀d,dst=some d->d<s.nt)(hL:bf B L' w'):lh B (({s with L:=L'}:St).put dst v) (a.put dst v) w':=by
 cases dst with
 |none=>exact⟨h.df,h.size,h.tmp,hL⟩
 |some d=>
  have hds:d<a.tmps.size:=(by rw[h.size];exact hd d rfl);refine⟨h.df,by simpa[Act.put,St.put] using h.size,fun k x hx=>?_,hL⟩
  by_cases hk:d=k
  ·subst hk;simp only[St.put,fB,Option.some.injEq] at hx;subst hx;simp[Act.put,hds]
  ·simp only[St.put,dA hk] at hx;have:=h.tmp k x hx;simp[Act.put,Array.getElem?_setIfInBounds_ne hk,this]
def lh.put0{B:Bs}{w:World}{s:St}{a:Act}(h:lh B s a w){dst:Option Nat}{v:Value}
 (hd:∀d,dst=some d->d<s.nt):lh B (s.put dst v) (a.put dst v) w:=h.put (L':=s.L) hd h.mem
theorem lh.ev{B:Bs}{w:World}{s:St}{a:Act}(h:lh B s a w){x:Operand}{v:Value}(hx:ev s.t x=some v):a.eval x=v:=by
 cases x with
 |tmp d=>
  have h1:=h.tmp d v hx;simp[Act.eval,h1]
 |const v=>simp only[Go.Via.ev,Option.some.injEq] at hx;subst hx;rfl
 |global g=>simp only[Go.Via.ev,Option.some.injEq] at hx;subst hx;rfl
 |func f=>simp only[Go.Via.ev,Option.some.injEq] at hx;subst hx;rfl
def Qv:aG:=⟨none,0,[],0,false⟩
def blank:List Nat->List aG->List aG
 |[],L=>L
 |k::bl,L=>blank bl (bif Nat.blt k 1000000 then L.set k Qv else L)
def St.bk(s:St)(bl:List Nat):St:={s with L:=blank bl s.L}
def bf.blank1{B:Bs}{w:World}{L:List aG}(h:bf B L w)(k:Nat):bf B (L.set k Qv) w:=by
 have hb:∀(m:Nat) (b:aG),(L.set k Qv)[m]? =some b->b=Qv∨L[m]? =some b:=fun m b hm=>by
  by_cases e:k=m
  ·subst e
   by_cases hl:k<L.length
   ·rw[List.getElem?_set_self hl] at hm;cases hm;exact .inl rfl
   ·rw[List.getElem?_eq_none (by simp;omega)] at hm;cases hm
  ·rw[List.getElem?_set_ne e] at hm;exact .inr hm
 refine⟨h.bel,fun m b hm=>?_,fun i j g bi bj hij hi hj ho hg hgj=>?_,h.grp.sub (fun b hm hn=>?_) (fun c hm ho g hg=>?_)⟩
 rotate_left 2
 ·obtain⟨m,hm⟩:=List.mem_iff_getElem?.1 hm;rcases hb m b hm with rfl|h1
  ·exact .inl (by decide)
  ·exact .inr ⟨b,List.mem_of_getElem? h1,hn,rfl,id⟩
 ·obtain⟨m,hm⟩:=List.mem_iff_getElem?.1 hm;rcases hb m c hm with rfl|h1
  ·cases hg
  ·exact⟨c,List.mem_of_getElem? h1,ho,hg⟩
 ·rcases hb m b hm with rfl|h1
  ·exact⟨fun g hg=>(by cases hg),fun _=>⟨rfl,rfl⟩⟩
  ·exact h.blk m b h1
 ·rcases hb i bi hi with rfl|h1
  ·cases hg
  ·rcases hb j bj hj with rfl|h2
   ·cases hgj
   ·exact h.apart i j g bi bj hij h1 h2 ho hg hgj
theorem bf.blank{B:Bs}{w:World}:∀{bl:List Nat} {L:List aG},bf B L w->bf B (Go.Via.blank bl L) w
 |[],_,h=>h
 |k::bl,_,h=>bf.blank (bl:=bl) (match Nat.blt k 1000000 with|true=>h.blank1 k|false=>h)
def lh.bk{B:Bs}{w:World}{s:St}{a:Act}(h:lh B s a w)(bl:List Nat):lh B (s.bk bl) a w:=⟨h.df,h.size,h.tmp,h.mem.blank⟩
def tX:∀(bl:List Nat) (L new:List aG),∃new',blank bl (L++new)=blank bl L++new'
 |[],L,new=>⟨new,rfl⟩
 |k::bl,L,new=>by
  unfold blank;cases Nat.blt k 1000000 with
  |false=>exact tX bl L new
  |true=>
   simp only[cond_true]
   by_cases hk:k<L.length
   ·obtain⟨n',h⟩:=tX bl (L.set k Qv) new;refine⟨n',?_⟩;rw[List.set_append_left _ _ hk];exact h
   ·obtain⟨n',h⟩:=tX bl (L.set k Qv) (new.set (k-L.length) Qv);refine⟨n',?_⟩;have e:L.set k Qv=L:=List.set_eq_of_length_le (by omega);rw[List.set_append_right _ _ (by omega)];rw[e] at h ⊢;exact h
theorem Y7(s:St)(bl:List Nat)(dst:Option Nat)(v:Value):(s.put dst v).bk bl=(s.bk bl).put dst v:=by cases dst<;>rfl
def isSto(o:Oper):Bool:=match o.op with
 | .store .. | .mapUpdate .. | .entryStore .. =>true
 |_=>false
def isME(o:Oper):Bool:=match o.op with
 | .mapEntry .. =>true
 |_=>false
def jT(o:Oper):Bool:=match o.op with
 | .call {callee:= .value _,.. }=>true
 |_=>false
def iU(o:Oper):Bool:=match o.op with
 | .call {callee:= .value _,.. }| .call {callee:= .builtin .len,.. }| .call {callee:= .builtin .cap,.. }| .call {callee:= .builtin .min,.. }| .call {callee:= .builtin .max,.. }| .call {callee:= .builtin .unsafeSliceData,.. }| .move _| .nilCheck _| .pick .. | .load .. | .fieldAddr .. | .field .. | .indexAddr .. | .index .. | .binOp .. | .unOp .. | .convert .. | .extract .. | .build .. | .slice .. | .lookup .. | .makeFunc .. =>true
 |_=>false
def ax(ops:Array Oper)(o:Oper)(t:List (Nat×Value)):Option Bool:=
 match o.guard with
 |none=>some true
 |some (j,want)=>
  match(ops[j]?).bind (·.dst) with
  |some d=>(look t d).map fun v=>match v with
   | .bool b=>b==want
   |_=>false
  |none=>some false
theorem Eb{ops:Array Oper}{o:Oper}{B:Bs}{w:World}{s:St}{a:Act}(h:lh B s a w){g:Bool}(hg:ax ops o s.t=some g):
 Region.wanted o (yielded ops a.tmps)=g:=by
 unfold ax at hg;unfold Region.wanted
 split at hg
 ·rename_i h0;rw[h0];simpa using hg
 ·rename_i j want h0
  rw[h0];dsimp only;unfold yielded;cases hd:(ops[j]?).bind (·.dst) with
  |none=>rw[hd] at hg;simp at hg;subst hg;simp
  |some d=>
   rw[hd] at hg;simp only[Option.map_eq_some_iff] at hg;obtain⟨v,h1,h2⟩:=hg;have h3:=h.tmp d v h1;simp only[Option.bind_some,h3];cases v<;>simp_all
def Ci(P:Program)(o:Oper)(s:St)(v:Value):Prop:=
 ∀(B:Bs) (a:Act) (w:World),lh B s a w->(execOp a.eval o).run P w= .ok (.value v) w
def OG(P:Program)(o:Oper)(s:St)(X:Type)(res:X->Value)(new:X->List aG):Prop:=
 ∀(B:Bs) (a:Act) (w:World),lh B s a w->∃f args,(execOp a.eval o).run P w= .ok (.enter f args) w∧
  Calls P f args w fun e w'=>∃x,e= .returned (res x)∧bf B (s.L++new x) w'
def Ec(P:Program)(o:Oper)(s:St)(X:Type)(res:X->Value)(new:X->List aG):Prop:=
 ∀(B:Bs) (a:Act) (w:World),lh B s a w->∃f args,(execOp a.eval o).run P w= .ok (.enter f args) w∧
  Calls P f args w fun e w'=>∃x,e= .returned (res x)∧bf w (new x) w'∧∀b∈new x,b.own=true
def qcF(P:Program)(o:Oper)(s:St)(X:Type)(res:X->Value)(nL:X->List aG):Prop:=
 ∀(B:Bs) (a:Act) (w:World),lh B s a w->(∃f args,(execOp a.eval o).run P w= .ok (.enter f args) w∧
 Calls P f args w fun e w'=>∃x,e= .returned (res x)∧bf B (nL x) w')∨∃x w',(execOp a.eval o).run P w= .ok (.value (res x)) w'∧bf B (nL x) w'
def kR(t:List (Nat×Value)):List (Nat×Operand)->Option (List (Nat×Value))
 |[]=>some []
 |p::l=>(ev t p.2).bind fun v=>(kR t l).map fun r=>(p.1,v)::r
theorem Dh{t:List (Nat×Value)}:∀{parts:List (Nat×Operand)} {ps:List (Nat×Value)},parts.map (fun p=>(p.1,ev t p.2))=ps.map (fun p=>(p.1,some p.2))->kR t parts=some ps
 |[],[],_=>rfl
 |[],_::_,h=>by simp at h
 |_::_,[],h=>by simp at h
 |p::parts,q::ps,h=>by
  simp only[List.map_cons,List.cons.injEq,Prod.mk.injEq] at h;unfold kR;rw[h.1.2,Dh h.2,h.1.1];rfl
theorem uF{t t':List (Nat×Value)}:∀{l:List (Nat×Operand)},(∀x∈l.map (·.2),ev t x=ev t' x)->kR t l=kR t' l
 |[],_=>rfl
 |p::l,h=>by
  unfold kR;rw[h p.2 (by simp),uF fun x hx=>h x (by simp at hx ⊢;exact .inr hx)]
theorem zB{t:List (Nat×Value)}{f:Operand->Value}(hf:∀x v,ev t x=some v->f x=v):∀{l:List (Nat×Operand)} {ps:List (Nat×Value)},kR t l=some ps->l.map (fun p=>(p.1,f p.2))=ps
 |[],_,h=>by cases h;rfl
 |p::l,ps,h=>by
  unfold kR at h;cases h1:ev t p.2 with
  |none=>rw[h1] at h;cases h
  |some v=>
   rw[h1] at h;cases h2:kR t l with
   |none=>rw[h2] at h;cases h
   |some r=>
    rw[h2] at h;cases h;rw[List.map_cons,hf _ _ h1,zB hf h2]
def isAl(o:Oper):Bool:=match o.op with
 | .alloc _| .buildSlice .. =>true
 |_=>false
open Classical in
noncomputable def bsV(P:Program)(T:TypeId)(n:Nat)(ps:Array (Nat×Value)):Option (TypeId×Array Value):=
 if h:∃ec:TypeId×Array Value,ec.1<dC∧∀w,(Instr.buildSlice T n ps).run P w= .ok (.slice (some ⟨w.heap.size,0,none⟩) n n) (w.alloc (.cells ec.2 ec.1)) then some h.choose else none
def Y8{P:Program}{T:TypeId}{n:Nat}{ps:Array (Nat×Value)}{e:TypeId}{cs:Array Value}(he:e<dC)(h:∀w,(Instr.buildSlice T n ps).run P w= .ok (.slice (some ⟨w.heap.size,0,none⟩) n n) (w.alloc (.cells cs e))):bsV P T n ps=some (e,cs):=by
 have hx:∃ec:TypeId×Array Value,ec.1<dC∧∀w,(Instr.buildSlice T n ps).run P w= .ok (.slice (some ⟨w.heap.size,0,none⟩) n n) (w.alloc (.cells ec.2 ec.1)):=⟨(e,cs),he,h⟩;unfold bsV;rw[dif_pos hx];have h1:=hx.choose_spec.2 ⟨#[],fun _ _=>0,0,default,#[]⟩
 rw[h] at h1
 injection h1 with _ h1
 have h2:(some (Obj.cells cs e):Option Obj)=some (Obj.cells hx.choose.2 hx.choose.1):=congrArg (fun w:World=>w.heap[0]?) h1
 injection h2 with h2
 injection h2 with h3 h4
 exact congrArg some (Prod.ext h4.symm h3.symm)
def Vt{P:Program}{T:TypeId}{n:Nat}{ps:Array (Nat×Value)}{e:TypeId}{cs:Array Value}(h:bsV P T n ps=some (e,cs)):e<dC∧∀w,(Instr.buildSlice T n ps).run P w= .ok (.slice (some ⟨w.heap.size,0,none⟩) n n) (w.alloc (.cells cs e)):=by
 unfold bsV at h
 split at h
 ·rename_i hx
  have h1:=hx.choose_spec;rw[Option.some.inj h] at h1;exact h1
 ·cases h
noncomputable def zC(P:Program)(t:List (Nat×Value))(o:Oper):Option (TypeId×Array Value):=match o.op with
 | .alloc T=>if T<dC then((P.info? T).bind (·.zero)).map fun z=>(T,z.cells) else none
 | .buildSlice T n parts=>(kR t parts.toList).bind fun ps=>bsV P T n ps.toArray
 |_=>none
def alV(o:Oper)(g:Nat):Value:=match o.op with
 | .buildSlice _ n _=> .slice (some ⟨g,0,none⟩) n n
 |_=> .pointer (some ⟨g,0,none⟩)
theorem Y9{P:Program}{o:Oper}{t:List (Nat×Value)}{e:TypeId}{cs:Array Value}(h:zC P t o=some (e,cs))(f:Operand->Value)(hf:∀x v,ev t x=some v->f x=v)(w:World):(execOp f o).run P w= .ok (.value (alV o w.heap.size)) (w.alloc (.cells cs e)):=by
 unfold zC at h;unfold alV
 split at h
 ·rename_i T ho
  split at h
  rotate_left
  ·cases h
  simp only[Option.map_eq_some_iff,Prod.mk.injEq] at h;obtain⟨z,hz,rfl,rfl⟩:=h;cases hq:P.info? T with
  |none=>rw[hq] at hz;cases hz
  |some inf=>
   rw[hq] at hz;simp only[Option.bind_some] at hz;simp[execOp,ho,Instr.alloc,zeroValue,typeInfo,hq,hz,newVar,newRow]
 ·rename_i T n parts ho
  cases hp:kR t parts.toList with
  |none=>rw[hp] at h;cases h
  |some ps=>
   rw[hp] at h;have hb:=(Vt (show bsV P T n ps.toArray=some (e,cs) from h)).2;have hv:=zB hf hp;obtain⟨l⟩:=parts;simp only at hv;simp[execOp,ho,hv,hb w]
 ·cases h
def qcH{P:Program}{o:Oper}{t:List (Nat×Value)}{e:TypeId}{cs:Array Value}(h:zC P t o=some (e,cs)):e<dC:=by
 unfold zC at h
 split at h
 ·split at h
  ·rename_i hlt
   simp only[Option.map_eq_some_iff,Prod.mk.injEq] at h;obtain⟨z,_,rfl,_⟩:=h;exact hlt
  ·cases h
 ·rename_i T n parts ho
  cases hp:kR t parts.toList with
  |none=>rw[hp] at h;cases h
  |some ps=>
   rw[hp] at h;exact(Vt (show bsV P T n ps.toArray=some (e,cs) from h)).1
 ·cases h
def alB(g:Nat)(e:TypeId)(cs:Array Value):aG:=⟨some g,e,cs.toList,cs.size,true⟩
def IC(bl:List Nat):Bool:=bl.contains 3000000
def Eff(P:Program)(o:Oper)(s:St)(X:Type)(nx:X->St):Prop:=
 ∀(B:Bs) (a:Act) (w:World),lh B s a w->o.wp P a w (fun a' w'=>∃x,lh B (nx x) a' w') (fun _ _ _=>False)
def Za(P:Program)(o:Oper)(s:St)(L':List aG):Prop:=
 ∀(B:Bs) (a:Act) (w:World),lh B s a w->∃w',(execOp a.eval o).run P w= .ok .skip w'∧bf B L' w'
def FM(bl:List Nat):Bool:=bl.any fun k=>Nat.blt k 1000000
def zF(o:Oper):Bool:=match o.op with
 | .move _| .extract .. | .build .. =>true
 |_=>false
open Classical in
noncomputable def FO(P:Program)(T:TypeId)(ps:Array (Nat×Value)):Option Value:=
 if h:∃v,∀w,(Instr.build T ps).run P w= .ok v w then some h.choose else none
def Qw{P:Program}{T:TypeId}{ps:Array (Nat×Value)}{v:Value}(h:∀w,(Instr.build T ps).run P w= .ok v w):FO P T ps=some v:=by
 have he:∃v,∀w,(Instr.build T ps).run P w= .ok v w:=⟨v,h⟩;unfold FO;rw[dif_pos he];have h1:=he.choose_spec ⟨#[],fun _ _=>0,0,default,#[]⟩
 rw[h] at h1
 injection h1 with h1
 rw[<-h1]
def TN{P:Program}{T:TypeId}{ps:Array (Nat×Value)}{v:Value}(h:FO P T ps=some v):∀w,(Instr.build T ps).run P w= .ok v w:=by
 unfold FO at h
 split at h
 ·rename_i he
  cases h;exact he.choose_spec
 ·cases h
noncomputable def nX(P:Program)(t:List (Nat×Value))(o:Oper):Option Value:=match o.op with
 | .move x=>ev t x
 | .extract x i=>match ev t x with
   |some (.tuple vs)=>vs[i]?
   |_=>none
 | .build T parts=>(kR t parts.toList).bind fun ps=>FO P T ps.toArray
 |_=>none
def IE(bl:List Nat):Bool:=bl==[1000000]
def isAsg(o:Oper):Bool:=match o.op with
 | .assign _=>true
 |_=>false
def OH(bl:List Nat)(o:Oper):Bool:=iU o||(isAsg o&&bl.contains 2000000)
def iY(P:Program)(bl:List Nat)(ops:Array Oper)(o:Oper)(s:St)(K:St->Prop):Prop:=
 (∀d,o.dst=some d->d<s.nt)∧∃g,ax ops o s.t=some g∧
  ((g=false∧K (s.put o.dst undef))∨
   (g=true∧(((IC bl&&(isAl o||isSto o))=false∧∃v,(Ci P o (s.bk bl) v∧(IC bl=true->zF o=true->nX P s.t o=some v))∧K (s.put o.dst v))∨
 (jT o=true∧∃(X:Type) (res:X->Value) (new:X->List aG),OG P o s X res new∧(IC bl=true->Ec P o s X res new∧Nonempty X)∧∀x,K (({s with L:=s.L++new x}:St).put o.dst (res x)))∨
 ((!IE bl&&OH bl o)=false∧(IC bl&&(isAl o||isSto o))=false∧(!IE bl&&((isSto o||isME o)&&FM bl))=false∧∃(X:Type) (nx:X->St),Eff P o s X nx∧∀x,K (nx x))∨
 (isSto o=true∧o.dst=none∧∃L',Za P o s L'∧(FM bl=true->blank bl L'=blank bl s.L)∧K {s with L:=L'})∨
 (isAl o=true∧∃(e:TypeId) (cs:Array Value),zC P s.t o=some (e,cs)∧∀g,K (({s with L:=s.L++[alB g e cs]}:St).put o.dst (alV o g)))∨
 ((jT o||isME o)=true∧FM bl=true∧∃(X:Type) (res:X->Value) (nL:X->List aG),qcF P o s X res nL∧(∀x,blank bl (nL x)=blank bl s.L)∧∀x,K (({s with L:=nL x}:St).put o.dst (res x))))))
def aW(P:Program)(bl:List Nat)(ops:Array Oper):List Oper->St->(St->Prop)->Prop
 |[],s,K=>K s
 |o::rest,s,K=>iY P bl ops o s fun s'=>aW P bl ops rest s' K
def iY.mono{P:Program}{bl:List Nat}{ops:Array Oper}{o:Oper}{s:St}{K K':St->Prop}(h:∀s,K s->K' s)(hs:iY P bl ops o s K):iY P bl ops o s K':=by
 obtain⟨h0,g,hg,hh⟩:=hs;refine⟨h0,g,hg,?_⟩;rcases hh with⟨h1,h2⟩|⟨h1,⟨h2,v,h3,h4⟩|⟨h2,X,res,new,h3,hF,h4⟩|⟨hm,hA,hm',X,nx,h3,h4⟩|⟨hm,hd,L',h3,h5,h4⟩|⟨hA,e,cs,h3,h4⟩|⟨hC,hbS,X,res,nL,h3,h5,h4⟩⟩
 ·exact .inl ⟨h1,h _ h2⟩
 ·exact .inr ⟨h1,.inl ⟨h2,v,h3,h _ h4⟩⟩
 ·exact .inr ⟨h1,.inr (.inl ⟨h2,X,res,new,h3,hF,fun x=>h _ (h4 x)⟩)⟩
 ·exact .inr ⟨h1,.inr (.inr (.inl ⟨hm,hA,hm',X,nx,h3,fun x=>h _ (h4 x)⟩))⟩
 ·exact .inr ⟨h1,.inr (.inr (.inr (.inl ⟨hm,hd,L',h3,h5,h _ h4⟩)))⟩
 ·exact .inr ⟨h1,.inr (.inr (.inr (.inr (.inl ⟨hA,e,cs,h3,fun g=>h _ (h4 g)⟩))))⟩
 ·exact .inr ⟨h1,.inr (.inr (.inr (.inr (.inr ⟨hC,hbS,X,res,nL,h3,h5,fun x=>h _ (h4 x)⟩))))⟩
def iY.sound{P:Program}{bl:List Nat}{ops:Array Oper}{o:Oper}{s:St}{K:St->Prop}{B:Bs}{a:Act}{w:World}
 {K':Act->World->Prop}{Q:Exit->Act->World->Prop}(hs:iY P bl ops o s K)(h:lh B s a w)(hK:∀s' a' w',K s'->lh B s' a' w'->K' a' w'):
 if Region.wanted o (yielded ops a.tmps) then o.wp P a w K' Q else K' (a.put o.dst undef) w:=by
 obtain⟨h0,g,hg,hh⟩:=hs;rw[Eb h hg];rcases hh with⟨rfl,h2⟩|⟨rfl,hh⟩
 ·simp only[Bool.false_eq_true,if_false];exact hK _ _ _ h2 (h.put0 h0)
 ·simp only[if_true];rcases hh with⟨h2,v,h3,h4⟩|⟨h2,X,res,new,h3,_,h4⟩|⟨hm,_,_,X,nx,h3,h4⟩|⟨hm,hd,L',h3,h5,h4⟩|⟨hA,e,cs,h3,h4⟩|⟨hC,hbS,X,res,nL,h3,h5,h4⟩
  ·have hr:=h3.1 B a w (h.bk bl);unfold Oper.wp;rw[hr];exact hK _ _ _ h4 (h.put0 h0)
  ·obtain⟨f,args,hr,hc⟩:=h3 B a w h;unfold Oper.wp;rw[hr];refine hc.mono ?_;rintro e w' ⟨x,rfl,hL⟩;exact hK _ _ _ (h4 x) (h.put h0 hL)
  ·have:=h3 B a w h;unfold Oper.wp at this ⊢
   generalize(execOp a.eval o).run P w=r at*
   cases r with
   |ok n w1=>
    cases n<;>simp only[Oper.upon] at this ⊢
    case value v=>obtain⟨x,hx⟩:=this;exact hK _ _ _ (h4 x) hx
    case skip=>obtain⟨x,hx⟩:=this;exact hK _ _ _ (h4 x) hx
    case defer d=>obtain⟨x,hx⟩:=this;exact hK _ _ _ (h4 x) hx
    case enter f args=>
     refine this.mono ?_;intro e w'' he;cases e with
     |returned v=>obtain⟨x,hx⟩:=he;exact hK _ _ _ (h4 x) hx
     |panicked c=>exact he.elim
     |outgrown=>obtain⟨_,_,he⟩:=he;exact he.elim
    case row row args=>exact this.mono fun v w'' he=>by obtain⟨x,hx⟩:=he;exact hK _ _ _ (h4 x) hx
   |halt x w1=>cases x<;>simp only[Oper.upon] at this
  ·obtain⟨w',hr,hL⟩:=h3 B a w h;unfold Oper.wp;rw[hr];refine hK _ _ _ h4 ?_;rw[hd];exact⟨h.df,h.size,h.tmp,hL⟩
  ·unfold Oper.wp;rw[Y9 h3 a.eval (fun x v hx=>h.ev hx) w];exact hK _ _ _ (h4 w.heap.size) (h.put h0 (h.mem.alloc e cs (qcH h3)))
  ·rcases h3 B a w h with⟨f,args,hr,hc⟩|⟨x,w',hr,hL⟩
   ·unfold Oper.wp;rw[hr];refine hc.mono ?_;rintro e w' ⟨x,rfl,hL⟩;exact hK _ _ _ (h4 x) (h.put (L':=nL x) h0 hL)
   ·unfold Oper.wp;rw[hr];exact hK _ _ _ (h4 x) (h.put (L':=nL x) h0 hL)
def aW.sound{P:Program}{bl:List Nat}{ops:Array Oper}{Q:Exit->Act->World->Prop}:∀{l:List Oper} {s:St} {K:St->Prop} {B:Bs} {a:Act} {w:World},
 aW P bl ops l s K->lh B s a w->(∀s' a' w',K s'->lh B s' a' w'->Q .normal a' w')->wpList P ops Q l a w
 |[],s,K,B,a,w,hr,h,hK=>hK _ _ _ hr h
 |o::l,s,K,B,a,w,hr,h,hK=>by
  have:=iY.sound (K':=wpList P ops Q l) (Q:=Q) hr h (fun s' a' w' h1 h2=>aW.sound h1 h2 hK);unfold wpList
  split
  ·rename_i hw;rw[if_pos hw] at this;exact .inl this
  ·rename_i hw;rw[if_neg hw] at this;exact this
def aW.mono{P:Program}{bl:List Nat}{ops:Array Oper}{K K':St->Prop}(h:∀s,K s->K' s):∀{l:List Oper} {s:St},aW P bl ops l s K->aW P bl ops l s K'
 |[],_,hr=>h _ hr
 |_::_,_,hr=>iY.mono (fun _ h1=>aW.mono h h1) hr
def bf.take{B:Bs}{w:World}{L new:List aG}(h:bf B (L++new) w):bf B L w:=by
 have hb:∀(k:Nat) (b:aG),L[k]? =some b->(L++new)[k]? =some b:=fun k b hk=>by
  rw[List.getElem?_append_left (List.getElem?_eq_some_iff.1 hk).1];exact hk
 exact⟨h.bel,fun k b hk=>h.blk k b (hb k b hk),fun i j g bi bj hij hi hj=>h.apart i j g bi bj hij (hb _ _ hi) (hb _ _ hj),h.grp.mem fun b hb=>List.mem_append_left _ hb⟩
theorem rZ{ops:Array Oper}{o:Oper}{s:St}{dst:Option Nat}{v:Value}(h:∀d,dst=some d->d∉o.looksAt ops):ax ops o (s.put dst v).t=ax ops o s.t:=by
 cases dst with
 |none=>rfl
 |some d=>
  unfold ax;cases hg:o.guard with
  |none=>rfl
  |some jw=>
   obtain⟨j,want⟩:=jw;dsimp only;cases hd:(ops[j]?).bind (·.dst) with
   |none=>rfl
   |some d'=>
    have hne:d≠d':=fun e=>h d rfl (by unfold Oper.looksAt;rw[hg];simp[hd,e])
    simp only[St.put,dA hne]
theorem Bf{P:Program}{ops:Array Oper}{o:Oper}{s:St}{dst:Option Nat}{v:Value}(h:∀d,dst=some d->d∉o.looksAt ops):nX P (s.put dst v).t o=nX P s.t o:=by
 cases dst with
 |none=>rfl
 |some d=>
  have hd:=h d rfl;have key:∀x:Operand,x∈o.op.operands.toList->ev ((d,v)::s.t) x=ev s.t x:=fun x hx=>by
   cases x with
   |tmp k=>
    have hne:d≠k:=fun e=>hd (by
 unfold Oper.looksAt;exact List.mem_append_left _ (List.mem_filterMap.2 ⟨.tmp k,hx,by rw[e]⟩))
    exact dA hne
   |const c=>rfl
   |global g=>rfl
   |func f=>rfl
  show nX P ((d,v)::s.t) o=nX P s.t o;unfold nX
  split
  ·rename_i x ho
   exact key x (by rw[ho];simp[Op.operands])
  ·rename_i x i ho
   rw[key x (by rw[ho];simp[Op.operands])]
  ·rename_i T parts ho
   rw[uF fun x hx=>key x (by rw[ho];simpa[Op.operands] using hx)]
  ·rfl
theorem Je{P:Program}{ops:Array Oper}{o:Oper}{s:St}{dst:Option Nat}{v:Value}(h:∀d,dst=some d->d∉o.looksAt ops):zC P (s.put dst v).t o=zC P s.t o:=by
 cases dst with
 |none=>rfl
 |some d=>
  have hd:=h d rfl;have key:∀x:Operand,x∈o.op.operands.toList->ev ((d,v)::s.t) x=ev s.t x:=fun x hx=>by
   cases x with
   |tmp k=>
    have hne:d≠k:=fun e=>hd (by
 unfold Oper.looksAt;exact List.mem_append_left _ (List.mem_filterMap.2 ⟨.tmp k,hx,by rw[e]⟩))
    exact dA hne
   |const c=>rfl
   |global g=>rfl
   |func f=>rfl
  show zC P ((d,v)::s.t) o=zC P s.t o;unfold zC
  split
  ·rfl
  ·rename_i T n parts ho
   rw[uF fun x hx=>key x (by rw[ho];simpa[Op.operands] using hx)]
  ·rfl
def Qx{P:Program}{o:Oper}{s:St}{v:Value}(h:nX P s.t o=some v):Ci P o s v:=fun B a w hr=>by
 unfold nX at h
 split at h
 ·rename_i x ho
  simp[execOp,ho,hr.ev h]
 ·rename_i x i ho
  split at h
  ·rename_i vs hv
   have:=hr.ev hv;simp[execOp,ho,this,Instr.extract,h]
  ·cases h
 ·rename_i T parts ho
  cases hp:kR s.t parts.toList with
  |none=>rw[hp] at h;cases h
  |some ps=>
   rw[hp] at h;have hb:=TN (show FO P T ps.toArray=some v from h);have hv:=zB (f:=a.eval) (fun x v hx=>hr.ev hx) hp;obtain⟨l⟩:=parts;simp only at hv;simp[execOp,ho,hv,hb w]
 ·cases h
def Yields(P:Program)(bl:List Nat)(ops:Array Oper)(o:Oper)(s:St)(v:Value):Prop:=
 ∃g,ax ops o s.t=some g∧((g=false∧v=undef)∨(g=true∧(IC bl&&(isAl o||isSto o))=false∧Ci P o (s.bk bl) v∧(IC bl=true->zF o=true->nX P s.t o=some v)))
def Ed{o:Oper}(h:iU o=true):∀cs b,o.op≠ .select cs b:=fun cs b e=>by unfold iU at h;rw[e] at h;cases h
def lh.putBack{B:Bs}{w:World}{s:St}{a:Act}{dst:Option Nat}{v:Value}{new:List aG}(hd:∀d,dst=some d->d<s.nt)
 (h:lh B (({s with L:=s.L++new}:St).put dst v) a w):∃u,lh B s (a.put dst u) w:=by
 have hL:(({s with L:=s.L++new}:St).put dst v).L=s.L++new:=by cases dst<;>rfl
 have hn:(({s with L:=s.L++new}:St).put dst v).nt=s.nt:=by cases dst<;>rfl
 have hm:bf B s.L w:=(by have:=h.mem;rw[hL] at this;exact this.take);cases dst with
 |none=>exact⟨undef,h.df,h.size.trans hn,fun d x hx=>h.tmp d x hx,hm⟩
 |some d=>
  refine⟨(look s.t d).getD undef,h.df,by simpa[Act.put,hn] using h.size,fun k x hx=>?_,hm⟩
  have hds:d<a.tmps.size:=by rw[h.size,hn];exact hd d rfl
  by_cases e:d=k
  ·subst e;simp[Act.put,hx,hds]
  ·have:=h.tmp k x (by simp only[St.put,dA e];exact hx);simp[Act.put,Array.getElem?_setIfInBounds_ne e,this]
def Yields.later{P:Program}{bl:List Nat}{ops:Array Oper}{o:Oper}{s:St}{v:Value}{dst:Option Nat}{x:Value}{new:List aG}(hs:∀cs b,o.op≠ .select cs b)(hd:∀d,dst=some d->d<s.nt)
 (hl:∀d,dst=some d->d∉o.looksAt ops)(h:Yields P bl ops o s v):Yields P bl ops o (({s with L:=s.L++new}:St).put dst x) v:=by
 obtain⟨g,hg,hh⟩:=h;refine⟨g,by rw[rZ hl];exact hg,?_⟩;rcases hh with h1|⟨h1,h2,h4⟩
 ·exact .inl h1
 ·refine .inr ⟨h1,h2,fun B a w hr=>?_,fun h5 h6=>by rw[Bf (s:={s with L:=s.L++new}) hl];exact h4.2 h5 h6⟩
  rw[Y7] at hr;obtain⟨new',hn⟩:=tX bl s.L new;have hr':lh B (({nt:=s.nt,t:=s.t,L:=blank bl s.L++new'}:St).put dst x) a w:=by rw[<-hn];exact hr
  obtain⟨u,hu⟩:=lh.putBack (s:=s.bk bl) (new:=new') hd hr';have:=h4.1 B _ w hu
  rwa [execOp_put o hs a dst u hl] at this
structure Dj(s s':St):Prop where
 nt:s.nt=s'.nt
 L:s.L=s'.L
 look:∀d,look s.t d=look s'.t d
def Dj.refl(s:St):Dj s s:=⟨rfl,rfl,fun _=>rfl⟩
theorem Dj.symm{s s':St}(h:Dj s s'):Dj s' s:=⟨h.nt.symm,h.L.symm,fun d=>(h.look d).symm⟩
def Dj.trans{s s' s'':St}(h:Dj s s')(k:Dj s' s''):Dj s s'':=⟨h.nt.trans k.nt,h.L.trans k.L,fun d=>(h.look d).trans (k.look d)⟩
def Dj.rel{s s':St}(h:Dj s s'){B:Bs}{w:World}{a:Act}(r:lh B s a w):lh B s' a w:=
 ⟨r.df,r.size.trans h.nt,fun d v hd=>r.tmp d v (by rw[h.look d];exact hd),h.L▸r.mem⟩
theorem Dj.put{s s':St}(h:Dj s s')(dst:Option Nat)(sv:Value)(new:List aG):Dj (({s with L:=s.L++new}:St).put dst sv) (({s' with L:=s'.L++new}:St).put dst sv):=by
 cases dst with
 |none=>exact⟨h.nt,by simp[St.put,h.L],h.look⟩
 |some d=>
  refine⟨h.nt,by simp[St.put,h.L],fun k=>?_⟩
  by_cases e:d=k
  ·subst e;simp[St.put,fB]
  ·simp[St.put,dA e,h.look k]
def Dj.put0{s s':St}(h:Dj s s')(dst:Option Nat)(sv:Value):Dj (s.put dst sv) (s'.put dst sv):=by
 have:=h.put dst sv []
 simpa using this
theorem Dj.wanted{s s':St}(h:Dj s s')(ops:Array Oper)(o:Oper):ax ops o s.t=ax ops o s'.t:=by
 unfold ax
 split
 ·rfl
 ·split
  ·rw[h.look]
  ·rfl
def KC(K:St->Prop):Prop:=∀s s',Dj s s'->K s->K s'
theorem Ee{t t':List (Nat×Value)}(h:∀d,look t d=look t' d)(x:Operand):ev t x=ev t' x:=by
 cases x<;>simp[ev,h]
theorem GX{P:Program}{t t':List (Nat×Value)}(h:∀d,look t d=look t' d){o:Oper}:nX P t o=nX P t' o:=by
 unfold nX
 split
 ·exact Ee h _
 ·rw[Ee h]
 ·rw[uF fun x _=>Ee h x]
 ·rfl
theorem Jf{P:Program}{t t':List (Nat×Value)}(h:∀d,look t d=look t' d){o:Oper}:zC P t o=zC P t' o:=by
 unfold zC
 split
 ·rfl
 ·rw[uF fun x _=>Ee h x]
 ·rfl
def iY.congr{P:Program}{bl:List Nat}{ops:Array Oper}{o:Oper}{s s':St}{K:St->Prop}(hK:KC K)(h:Dj s s')(hs:iY P bl ops o s K):iY P bl ops o s' K:=by
 obtain⟨h0,g,hg,hh⟩:=hs;refine⟨by rw[<-h.nt];exact h0,g,by rw[<-h.wanted];exact hg,?_⟩;have hbk:Dj (s.bk bl) (s'.bk bl):=⟨h.nt,by show blank bl s.L=blank bl s'.L;rw[h.L],h.look⟩;rcases hh with⟨h1,h2⟩|⟨h1,⟨h2,sv,h3,h4⟩|⟨h2,X,res,new,h3,hF,h4⟩|⟨hm,hA,hm',X,nx,h3,h4⟩|⟨hm,hd,L',h3,h5,h4⟩|⟨hA,e,cs,h3,h4⟩|⟨hC,hbS,X,res,nL,h3,h5,h4⟩⟩
 ·exact .inl ⟨h1,hK _ _ (h.put0 _ _) h2⟩
 ·exact .inr ⟨h1,.inl ⟨h2,sv,⟨fun B a w hr=>h3.1 B a w (hbk.symm.rel hr),fun h5 h6=>by rw[<-GX h.look];exact h3.2 h5 h6⟩,hK _ _ (h.put0 _ _) h4⟩⟩
 ·refine .inr ⟨h1,.inr (.inl ⟨h2,X,res,new,fun B a w hr=>?_,fun hb=>⟨fun B a w hr=>(hF hb).1 B a w (h.symm.rel hr),(hF hb).2⟩,fun x=>hK _ _ (h.put _ _ _) (h4 x)⟩)⟩
  rw[<-h.L];exact h3 B a w (h.symm.rel hr)
 ·exact .inr ⟨h1,.inr (.inr (.inl ⟨hm,hA,hm',X,nx,fun B a w hr=>h3 B a w (h.symm.rel hr),h4⟩))⟩
 ·exact .inr ⟨h1,.inr (.inr (.inr (.inl ⟨hm,hd,L',fun B a w hr=>h3 B a w (h.symm.rel hr),by rw[<-h.L];exact h5,hK {s with L:=L'} {s' with L:=L'} ⟨h.nt,rfl,h.look⟩ h4⟩)))⟩
 ·exact .inr ⟨h1,.inr (.inr (.inr (.inr (.inl ⟨hA,e,cs,by rw[<-Jf h.look];exact h3,fun g=>hK _ _ (h.put _ _ _) (h4 g)⟩))))⟩
 ·exact .inr ⟨h1,.inr (.inr (.inr (.inr (.inr ⟨hC,hbS,X,res,nL,fun B a w hr=>h3 B a w (h.symm.rel hr),by rw[<-h.L];exact h5,fun x=>hK _ _ (Dj.put0 (s:={s with L:=nL x}) (s':={s' with L:=nL x}) ⟨h.nt,rfl,h.look⟩ _ _) (h4 x)⟩))))⟩
def aW.kc{P:Program}{bl:List Nat}{ops:Array Oper}{K:St->Prop}(hK:KC K):∀l:List Oper,KC (fun s=>aW P bl ops l s K)
 |[]=>hK
 |o::l=>fun _ _ h hs=>iY.congr (aW.kc hK l) h hs
def vU(bl:List Nat)(o:Oper):Bool:= !IE bl&&(OH bl o||((isSto o||isME o)&&FM bl)||(IC bl&&isAl o))
theorem Qy{bl:List Nat}{o:Oper}(h:vU bl o=true):IE bl=false:=by
 unfold vU at h;cases hb:IE bl
 ·rfl
 ·rw[hb] at h;cases h
def Qz{bl:List Nat}{o:Oper}(h:vU bl o=true):∀cs b,o.op≠ .select cs b:=fun cs b e=>by
 simp only[vU,OH,isAsg,iU,isSto,isME,isAl,e,Bool.false_and,Bool.or_self,Bool.and_false] at h;cases h
theorem Zb{o:Oper}(hs:isSto o=true):isME o=false:=by
 unfold isSto at hs
 split at hs<;>first|(cases hs;done)|(rename_i heq;simp[isME,heq])
def Zc{bl:List Nat}{o:Oper}(h:vU bl o=true)(hs:isSto o=true):FM bl=true:=by
 have h1:OH bl o=false:=by
  unfold isSto at hs
  split at hs<;>first|(cases hs;done)|(rename_i heq;simp[OH,iU,isAsg,heq])
 have h2:isAl o=false:=by
  unfold isSto at hs
  split at hs<;>first|(cases hs;done)|(rename_i heq;simp[isAl,heq])
 unfold vU at h;rw[h1,h2,hs,Zb hs] at h;simp only[Bool.false_or,Bool.true_and,Bool.and_false,Bool.or_false,Bool.and_eq_true] at h;exact h.2
def QA{bl:List Nat}{o:Oper}(h:vU bl o=true)(hm:(!IE bl&&OH bl o)=false)(hA':(IC bl&&(isAl o||isSto o))=false)(hm':(!IE bl&&((isSto o||isME o)&&FM bl))=false):False:=by
 have hA:(IC bl&&isAl o)=false:=by cases h1:IC bl<;>cases h2:isAl o<;>simp_all
 unfold vU at h;cases hb:IE bl<;>rw[hb] at h hm hm'
 ·simp only[Bool.not_false,Bool.true_and] at h hm hm';rw[hm,hA,Bool.false_or,Bool.or_false] at h;rw[hm'] at h;cases h
 ·cases h
def aW.swap{P:Program}{bl:List Nat}{ops:Array Oper}{p i:Oper}{rest:List Oper}{s:St}{K:St->Prop}(hK:KC K)(hmp:iU p=true)(hmi:vU bl i=true)(hcp:jT p=false)
 (hap:p.apart ops i=true)(h:aW P bl ops (p::i::rest) s K):aW P bl ops (i::p::rest) s K:=by
 obtain⟨ap1,ap2,ap3⟩:=Oper.apart_spec hap;obtain⟨h0,g,hg,hh⟩:=h;have hsp:isSto p=false:=by
  unfold isSto;split<;>first|rfl|(rename_i heq;unfold iU at hmp;rw[heq] at hmp;cases hmp)
 have hmep:isME p=false:=by
  unfold isME;split<;>first|rfl|(rename_i heq;unfold iU at hmp;rw[heq] at hmp;cases hmp)
 obtain⟨svp,hyp,hrun⟩:∃svp,Yields P bl ops p s svp∧aW P bl ops (i::rest) (s.put p.dst svp) K:=by
  rcases hh with⟨rfl,h2⟩|⟨rfl,⟨h2,sv,h3,h4⟩|⟨h2,X,res,new,h3,_,h4⟩|⟨hm,_,_,X,nx,h3,h4⟩|⟨hm,hd,L',h3,h5,h4⟩|⟨hA,e,cs,h3,h4⟩|⟨hC,hbS,X,res,nL,h3,h5,h4⟩⟩
  ·exact⟨_,⟨_,hg,.inl ⟨rfl,rfl⟩⟩,h2⟩
  ·exact⟨sv,⟨_,hg,.inr ⟨rfl,h2,h3.1,h3.2⟩⟩,h4⟩
  ·rw[hcp] at h2;cases h2
  ·rw[Qy hmi,show OH bl p=true by simp[OH,hmp]] at hm;cases hm
  ·rw[hsp] at hm;cases hm
  ·exfalso
   unfold isAl at hA
   split at hA
   ·rename_i heq;unfold iU at hmp;rw[heq] at hmp;cases hmp
   ·rename_i heq;unfold iU at hmp;rw[heq] at hmp;cases hmp
   ·cases hA
  ·rw[hcp,hmep] at hC;cases hC
 have hputL:(s.put p.dst svp).L=s.L:=by cases p.dst<;>rfl
 have hputn:(s.put p.dst svp).nt=s.nt:=by cases p.dst<;>rfl
 have comm:∀(x:Value) (new:List aG),Dj (({s.put p.dst svp with L:=(s.put p.dst svp).L++new}:St).put i.dst x) ((({s with L:=s.L++new}:St).put i.dst x).put p.dst svp):=by
  intro x new;refine⟨?_,?_,?_⟩
  ·cases p.dst<;>cases i.dst<;>rfl
  ·cases p.dst<;>cases i.dst<;>rfl
  ·intro d;cases hp:p.dst with
   |none=>simp[St.put]
   |some dp=>
    cases hi:i.dst with
    |none=>simp[St.put]
    |some di=>
     have hne:dp≠di:=fun e=>ap2 dp hp (by rw[hi,e])
     simp only[St.put]
     by_cases e1:di=d
     ·subst e1;rw[fB,dA hne,fB]
     ·rw[dA e1]
      by_cases e2:dp=d
      ·subst e2;rw[fB,fB]
      ·rw[dA e2,dA e2,dA e1]
 have behind:∀(x:Value) (new:List aG),aW P bl ops rest (({s.put p.dst svp with L:=(s.put p.dst svp).L++new}:St).put i.dst x) K->
  aW P bl ops (p::rest) (({s with L:=s.L++new}:St).put i.dst x) K:=by
  intro x new hr;have hr':=aW.kc hK rest _ _ (comm x new) hr;have hy:=hyp.later (new:=new) (x:=x) (Ed hmp) (by rw[<-hputn];exact hrun.1) ap3;obtain⟨g',hg',hh'⟩:=hy;have hn:(({s with L:=s.L++new}:St).put i.dst x).nt=s.nt:=by cases i.dst<;>rfl
  refine⟨by rw[hn];exact h0,g',hg',?_⟩;rcases hh' with⟨h1,rfl⟩|⟨h1,h2,h4⟩
  ·exact .inl ⟨h1,hr'⟩
  ·exact .inr ⟨h1,.inl ⟨h2,svp,h4,hr'⟩⟩
 have before:∀(s0:St),s0.nt=s.nt->∀(B:Bs) (a:Act) (w:World),lh B s0 a w->lh B (s0.put p.dst svp) (a.put p.dst svp) w∧execOp (a.put p.dst svp).eval i=execOp a.eval i:=by
  intro s0 hn B a w hr;exact⟨hr.put0 (by rw[hn];exact h0),execOp_put i (Qz hmi) a p.dst svp ap1⟩
 obtain⟨k0,k,hk,kk⟩:=hrun;rw[hputn] at k0;rw[rZ ap1] at hk;have e0:∀(x:Value),(({s with L:=s.L++[]}:St).put i.dst x)=s.put i.dst x:=fun x=>by simp
 have e1:∀(x:Value),(({s.put p.dst svp with L:=(s.put p.dst svp).L++[]}:St).put i.dst x)=(s.put p.dst svp).put i.dst x:=fun x=>by simp
 refine⟨k0,k,hk,?_⟩;rcases kk with⟨h1,h2⟩|⟨h1,⟨h2,sv,h3,h4⟩|⟨h2,X,res,new,h3,hF,h4⟩|⟨hm,hA,hm',X,nx,h3,h4⟩|⟨hm,hd,L',h3,h5,h4⟩|⟨hA,e,cs,h3,h4⟩|⟨hC,hbS,X,res,nL,h3,h5,h4⟩⟩
 ·exact .inl ⟨h1,by have:=behind undef [] (by rw[e1];exact h2);rwa [e0] at this⟩
 ·refine .inr ⟨h1,.inl ⟨h2,sv,⟨fun B a w hr=>?_,fun h5 h6=>by rw[<-Bf ap1];exact h3.2 h5 h6⟩,by have:=behind sv [] (by rw[e1];exact h4);rwa [e0] at this⟩⟩
  obtain⟨hr',he⟩:=before (s.bk bl) rfl B a w hr;have h3:=h3.1;rw[Y7] at h3;have:=h3 B _ w hr'
  rwa [he] at this
 ·refine .inr ⟨h1,.inr (.inl ⟨h2,X,res,new,fun B a w hr=>?_,fun hb=>⟨fun B a w hr=>?_,(hF hb).2⟩,fun x=>behind _ _ (h4 x)⟩)⟩
  ·obtain⟨hr',he⟩:=before s rfl B a w hr;have:=h3 B _ w hr'
   rwa [he,hputL] at this
  ·obtain⟨hr',he⟩:=before s rfl B a w hr;have:=(hF hb).1 B _ w hr'
   rwa [he] at this
 ·exfalso
  exact QA hmi hm hA hm'
 ·refine .inr ⟨h1,.inr (.inr (.inr (.inl ⟨hm,hd,L',fun B a w hr=>?_,fun hb=>by rw[h5 hb,hputL],?_⟩)))⟩
  ·obtain⟨hr',he⟩:=before s rfl B a w hr;have:=h3 B _ w hr'
   rwa [he] at this
  ·
   have hbS:FM bl=true:=Zc hmi hm;have h5:=h5 hbS;rw[hputL] at h5;obtain⟨g',hg',hh'⟩:=hyp;refine⟨h0,g',hg',?_⟩;have hst:(({s with L:=L'}:St)).put p.dst svp={s.put p.dst svp with L:=L'}:=by cases p.dst<;>rfl
   have hbk:(({s with L:=L'}:St)).bk bl=s.bk bl:=by show St.mk _ _ (blank bl L')=St.mk _ _ (blank bl s.L);rw[h5]
   rcases hh' with⟨h1',rfl⟩|⟨h1',h2',h4'⟩
   ·exact .inl ⟨h1',by rw[hst];exact h4⟩
   ·exact .inr ⟨h1',.inl ⟨h2',svp,⟨by rw[hbk];exact h4'.1,h4'.2⟩,by rw[hst];exact h4⟩⟩
 ·exact .inr ⟨h1,.inr (.inr (.inr (.inr (.inl ⟨hA,e,cs,by rw[<-Je ap1];exact h3,fun g=>behind _ _ (h4 g)⟩))))⟩
 ·refine .inr ⟨h1,.inr (.inr (.inr (.inr (.inr ⟨hC,hbS,X,res,nL,fun B a w hr=>?_,fun x=>by rw[h5 x,hputL],fun x=>?_⟩))))⟩
  ·obtain⟨hr',he⟩:=before s rfl B a w hr;have:=h3 B _ w hr'
   rwa [he] at this
  ·
   have h5:=h5 x;rw[hputL] at h5;have hY:Yields P bl ops p ({s with L:=nL x}:St) svp:=by
    obtain⟨g',hg',hh'⟩:=hyp;have hbk:(({s with L:=nL x}:St)).bk bl=s.bk bl:=by show St.mk _ _ (blank bl (nL x))=St.mk _ _ (blank bl s.L);rw[h5]
    rcases hh' with h1'|⟨h1',h2',h4'⟩
    ·exact⟨g',hg',.inl h1'⟩
    ·exact⟨g',hg',.inr ⟨h1',h2',by rw[hbk];exact h4'.1,h4'.2⟩⟩
   have hY2:=Yields.later (s:=({s with L:=nL x}:St)) (dst:=i.dst) (x:=res x) (new:=[]) (Ed hmp) k0 ap3 hY
   rw[show(({(({s with L:=nL x}:St)) with L:=(({s with L:=nL x}:St)).L++[]}:St))=({s with L:=nL x}:St) by simp] at hY2
   have hn:(({s with L:=nL x}:St).put i.dst (res x)).nt=s.nt:=by cases i.dst<;>rfl
   have hc1:Dj (({s.put p.dst svp with L:=nL x}:St).put i.dst (res x)) ((({s with L:=nL x}:St).put i.dst (res x)).put p.dst svp):=by
    refine⟨?_,?_,fun d=>?_⟩
    ·cases p.dst<;>cases i.dst<;>rfl
    ·cases p.dst<;>cases i.dst<;>rfl
    ·have hcm:=(comm (res x) []).look d;have q1:look (({s.put p.dst svp with L:=nL x}:St).put i.dst (res x)).t d=look (({s.put p.dst svp with L:=(s.put p.dst svp).L++[]}:St).put i.dst (res x)).t d:=by cases i.dst<;>rfl
     have q2:look ((({s with L:=nL x}:St).put i.dst (res x)).put p.dst svp).t d=look ((({s with L:=s.L++[]}:St).put i.dst (res x)).put p.dst svp).t d:=by cases i.dst<;>cases p.dst<;>rfl
     rw[q1,q2];exact hcm
   have hr':=aW.kc hK rest _ _ hc1 (h4 x);obtain⟨g',hg',hh'⟩:=hY2;refine⟨by rw[hn];exact h0,g',hg',?_⟩;rcases hh' with⟨h1,rfl⟩|⟨h1,h2,h4⟩
   ·exact .inl ⟨h1,hr'⟩
   ·exact .inr ⟨h1,.inl ⟨h2,svp,h4,hr'⟩⟩
def zG{s:St}{dst:Option Nat}{sv:Value}{d:Nat}(h:dst≠some d):look (s.put dst sv).t d=look s.t d:=by
 cases dst with
 |none=>rfl
 |some d'=>exact dA (fun e=>h (by rw[e]))
def iY.good{P:Program}{bl:List Nat}{ops:Array Oper}{o:Oper}{s:St}{K:St->Prop}(hm:vU bl o=true)(h:iY P bl ops o s K):
 iY P bl ops o s (fun s'=>K s'∧∀d,o.dst≠some d->look s'.t d=look s.t d):=by
 obtain⟨h0,g,hg,hh⟩:=h;refine⟨h0,g,hg,?_⟩;rcases hh with⟨h1,h2⟩|⟨h1,⟨h2,sv,h3,h4⟩|⟨h2,X,res,new,h3,hF,h4⟩|⟨hm',hA,hm'',X,nx,h3,h4⟩|⟨hm',hd,L',h3,h5,h4⟩|⟨hA,e,cs,h3,h4⟩|⟨hC,hbS,X,res,nL,h3,h5,h4⟩⟩
 ·exact .inl ⟨h1,h2,fun d hd=>zG hd⟩
 ·exact .inr ⟨h1,.inl ⟨h2,sv,h3,h4,fun d hd=>zG hd⟩⟩
 ·exact .inr ⟨h1,.inr (.inl ⟨h2,X,res,new,h3,hF,fun x=>⟨h4 x,fun d hd=>zG hd⟩⟩)⟩
 ·exact(QA hm hm' hA hm'').elim
 ·exact .inr ⟨h1,.inr (.inr (.inr (.inl ⟨hm',hd,L',h3,h5,h4,fun d _=>rfl⟩)))⟩
 ·exact .inr ⟨h1,.inr (.inr (.inr (.inr (.inl ⟨hA,e,cs,h3,fun g=>⟨h4 g,fun d hd=>zG hd⟩⟩))))⟩
 ·exact .inr ⟨h1,.inr (.inr (.inr (.inr (.inr ⟨hC,hbS,X,res,nL,h3,h5,fun x=>⟨h4 x,fun d hd=>zG hd⟩⟩))))⟩
def QB{bl:List Nat}{o i:Oper}(h:iU o=true)(hi:vU bl i=true):vU bl o=true:=by simp[vU,OH,h,Qy hi]
def aW.front{P:Program}{bl:List Nat}{ops:Array Oper}{i:Oper}{post:List Oper}{K:St->Prop}(hK:KC K)(hmi:vU bl i=true):∀{pre:List Oper} {s:St},
 (∀p∈pre,iU p=true∧jT p=false∧p.apart ops i=true)->aW P bl ops (pre++i::post) s K->aW P bl ops (i::(pre++post)) s K
 |[],s,_,h=>h
 |p::pre,s,hp,h=>by
  obtain⟨hm,hc,ha⟩:=hp p (by simp);have h1:iY P bl ops p s (fun s'=>aW P bl ops (pre++i::post) s' K):=h;have h2:aW P bl ops (p::i::(pre++post)) s K:=by
   refine iY.mono ?_ (h1.good (QB hm hmi));rintro s' ⟨hr,hl⟩;exact aW.front hK hmi (fun q hq=>hp q (by simp[hq])) hr
  exact aW.swap hK hm hmi hc ha h2
def waitsF(ops:Array Oper):Nat->Nat->Nat->Bool
 |0,_,_=>false
 |f+1,i,j=>match ops[i]? with
  |some o=>o.after.any fun e=>Region.binds .any e&&(e.on==j||waitsF ops f e.on j)
  |none=>false
def OI(ops:Array Oper)(listed:Array Bool):Prop:=
 ∀j,listed.getD j false=true->∀o,ops[j]? =some o->∀e∈o.after,Region.binds .any e=true->listed.getD e.on false=true
def ru{ops:Array Oper}{listed:Array Bool}(hc:OI ops listed):∀{f i j:Nat},waitsF ops f i j=true->(∀o,ops[i]? =some o->∀e∈o.after,Region.binds .any e=true->listed.getD e.on false=true)->
 listed.getD j false=true
 |0,_,_,h,_=>by cases h
 |f+1,i,j,h,hi=>by
  unfold waitsF at h
  split at h
  ·rename_i o ho
   obtain⟨e,he,h1⟩:=Array.any_eq_true'.1 h;simp only[Bool.and_eq_true,Bool.or_eq_true,beq_iff_eq] at h1;obtain⟨hb,h2⟩:=h1;have hl:=hi o ho e he hb;rcases h2 with h2|h2
   ·rw[<-h2];exact hl
   ·exact ru hc h2 (fun o' ho' e' he' hb'=>hc _ hl o' ho' e' he' hb')
  ·cases h
def sW(bl:List Nat)(ops:Array Oper)(p i:Nat):Bool:=
 waitsF ops ops.size i p||
 match ops[p]?,ops[i]? with
 |some op,some oi=>iU op&&vU bl oi&& !jT op&&op.apart ops oi
 |_,_=>false
def jF(ops:Array Oper)(p i:Nat):Bool:=match ops[p]? with
 |some op=>op.after.all fun e=> !Region.binds .any e||e.on !=i
 |none=>true
def Jg(bl:List Nat)(ops:Array Oper)(p i:Nat):Bool:=match ops[p]?,ops[i]? with
 |some op,some oi=> !vU bl op|| !vU bl oi||match op.dst,oi.dst with
  |some a,some b=>a !=b
  |_,_=>true
 |_,_=>true
def iZ(f:Nat->Nat->Bool):List Nat->Bool
 |[]=>true
 |p::l=>l.all (f p)&&iZ f l
def iE{f:Nat->Nat->Bool}:∀{l:List Nat},iZ f l=true->l.Pairwise (fun p i=>f p i=true)
 |[],_=> .nil
 |p::l,h=>by
  simp only[iZ,Bool.and_eq_true] at h;exact .cons (fun i hi=>List.all_eq_true.1 h.1 i hi) (iE h.2)
def Jh(bl:List Nat)(ops:Array Oper)(p i:Nat):Bool:=true
def ry(ops:Array Oper)(p:Nat):Bool:=match ops[p]? with
 |some op=>op.after.all fun e=> !Region.binds .any e||decide (e.on<ops.size)
 |none=>true
structure Ord(bl:List Nat)(ops:Array Oper)(l:List Nat):Prop where
 lt:∀i∈l,i<ops.size
 ok:l.Pairwise (fun p i=>sW bl ops p i=true)
 nw:l.Pairwise (fun p i=>jF ops p i=true)
 self:∀i∈l,jF ops i i=true
 ed:∀i∈l,ry ops i=true
 dst:l.Pairwise (fun p i=>Jg bl ops p i=true)
 mf:l.Pairwise (fun p i=>Jh bl ops p i=true)
 nodup:l.Nodup
def Ord.sub{bl:List Nat}{ops:Array Oper}{l l':List Nat}(h:Ord bl ops l)(hs:l'.Sublist l):Ord bl ops l':=
 ⟨fun i hi=>h.lt i (hs.subset hi),h.ok.sublist hs,h.nw.sublist hs,fun i hi=>h.self i (hs.subset hi),fun i hi=>h.ed i (hs.subset hi),h.dst.sublist hs,h.mf.sublist hs,h.nodup.sublist hs⟩
theorem OJ{listed:Array Bool}{i:Nat}(h:listed.getD i true=false):listed.getD i false=false:=by
 rcases Nat.lt_or_ge i listed.size with h'|h'
 ·simp[h'] at h ⊢;exact h
 ·simp[Array.getElem?_eq_none h'] at h
def qfy(bl:List Nat)(ops:Array Oper)(l:List Nat)(s:St):Prop:=∀i∈l,∀o,ops[i]? =some o->vU bl o=true->∀d,false=true->o.dst=some d->look s.t d=none
def OL{P:Program}{bl:List Nat}{ops:Array Oper}{Q:Exit->Act->World->Prop}{K:St->Prop}{B:Bs}(hK:KC K)(hpost:∀s' a' w',K s'->lh B s' a' w'->Q .normal a' w'):
 ∀(n:Nat) (l:List Nat) (listed:Array Bool) (s:St) (a:Act) (w:World),l.length=n->Ord bl ops l->listed.size=ops.size->
  (∀j,j<ops.size->(listed.getD j true=false↔j∈l))->OI ops listed->qfy bl ops l s->aW P bl ops (l.map fun i=>ops.getD i default) s K->lh B s a w->
  wpAny P .any ops Q n listed a w:=by
 intro n
 induction n with
 |zero=>
  intro l listed s a w hn ho hsz hl hc hf hr h;have:l=[]:=List.eq_nil_of_length_eq_zero hn;subst this;refine⟨?_,hpost _ _ _ hr h⟩;rcases hh:Region.ready .any ops listed with _|⟨i,r⟩
  ·rfl
  ·exfalso
   obtain⟨h1,o,ho',_⟩:=mem_ready.1 (show i∈Region.ready .any ops listed by rw[hh];simp);have:=(hl i (Array.getElem?_eq_some_iff.1 ho').1).1 h1;simp at this
 |succ n ih=>
  intro l listed s a w hn ho hsz hl hc hf hr h;refine⟨fun h0=>?_,fun i hi=>?_⟩
  ·
   exfalso
   cases l with
   |nil=>simp at hn
   |cons i0 rest=>
    have hi0:=ho.lt i0 (by simp);have:i0∈Region.ready .any ops listed:=by
     refine mem_ready.2 ⟨(hl i0 hi0).2 (by simp),ops[i0],Array.getElem?_eq_getElem hi0,fun e he hb=>?_⟩
     rcases hx:listed.getD e.on false with _|_
     ·exfalso
      have hself:=ho.self i0 (by simp);have hnw:∀j,j∈rest->jF ops i0 j=true:=fun j hj=>(List.pairwise_cons.1 ho.nw).1 j hj
      have key:∀j,jF ops i0 j=true->e.on≠j:=fun j hj e'=>by
       unfold jF at hj;rw[Array.getElem?_eq_getElem hi0] at hj;have:=(Array.all_eq_true'.1 hj) e he;simp[hb,e'] at this
      rcases Nat.lt_or_ge e.on ops.size with hlt|hge
      ·have hun:listed.getD e.on true=false:=by
        have:e.on<listed.size:=(by rw[hsz];exact hlt);simp[this] at hx ⊢;exact hx
       have:=(hl e.on hlt).1 hun;rcases List.mem_cons.1 this with h1|h1
       ·exact key i0 hself h1
       ·exact key e.on (hnw _ h1) rfl
      ·have hj:=ho.ed i0 (by simp);unfold ry at hj;rw[Array.getElem?_eq_getElem hi0] at hj;have:=(Array.all_eq_true'.1 hj) e he;simp[hb] at this;omega
     ·rfl
    rw[h0] at this;cases this
  ·obtain⟨hun,oi,hoi,hall⟩:=mem_ready.1 hi;have hilt:=(Array.getElem?_eq_some_iff.1 hoi).1;have hil:i∈l:=(hl i hilt).1 hun;obtain⟨pre,post,rfl⟩:=List.append_of_mem hil;have hoid:ops.getD i default=oi:=by simp[hoi]
   have hpre:∀p∈pre,∃op,ops[p]? =some op∧iU op=true∧vU bl oi=true∧jT op=false∧op.apart ops oi=true:=by
    intro p hp;have hpo:sW bl ops p i=true:=(List.pairwise_append.1 ho.ok).2.2 p hp i (by simp);unfold sW at hpo;rw[Bool.or_eq_true] at hpo;rcases hpo with hpo|hpo
    ·exfalso
     have h1:=ru hc hpo (fun o ho' e he hb=>by rw[hoi] at ho';cases ho';exact hall e he hb);have hplt:=ho.lt p (by simp[hp]);have h2:=(hl p hplt).2 (by simp[hp]);rw[OJ h2] at h1;cases h1
    ·rw[hoi] at hpo;cases hop:ops[p]? with
     |none=>rw[hop] at hpo;cases hpo
     |some op=>
      rw[hop] at hpo;simp only[Bool.and_eq_true,Bool.not_eq_true'] at hpo;exact⟨op,rfl,hpo.1.1.1,hpo.1.1.2,hpo.1.2,hpo.2⟩
   have hrun:aW P bl ops (oi::((pre++post).map fun i=>ops.getD i default)) s K:=by
    rw[List.map_append] at hr ⊢;rw[List.map_cons,hoid] at hr;cases hpz:pre with
    |nil=>rw[hpz] at hr;exact hr
    |cons p0 pre0=>
     obtain⟨op0,_,_,hmi,_,_⟩:=hpre p0 (by rw[hpz];simp);rw[<-hpz];have hfi:=hf i (by simp) oi hoi hmi;refine aW.front hK hmi ?_ hr;intro q hq;obtain⟨p,hp,rfl⟩:=List.mem_map.1 hq;obtain⟨op,hop,h1,h2,h3,h4⟩:=hpre p hp;have:ops.getD p default=op:=by simp[hop]
     rw[this];exact⟨h1,h3,h4⟩
   have hsub:(pre++post).Sublist (pre++i::post):=List.Sublist.append (List.Sublist.refl _) (List.sublist_cons_self _ _);have hnd:=ho.nodup;have hinot:i∉pre++post:=by
    intro hm;have:=List.nodup_append.1 hnd;rcases List.mem_append.1 hm with h1|h1
    ·exact this.2.2 i h1 i (by simp) rfl
    ·exact(List.nodup_cons.1 this.2.1).1 h1
   have hstep:iY P bl ops oi s (fun s'=>aW P bl ops ((pre++post).map fun i=>ops.getD i default) s' K∧qfy bl ops (pre++post) s'):=by
    exact iY.mono (fun s' hr'=>⟨hr',fun j hj oj hoj hmj d hf'=>by cases hf'⟩) hrun
   unfold wpOp;rw[hoi];dsimp only;have hS:=iY.sound (K':=wpAny P .any ops Q n (listed.setIfInBounds i true)) (Q:=Q) hstep h (fun s' a' w' hk hrel=>by
 refine ih (pre++post) (listed.setIfInBounds i true) s' a' w' ?_ (ho.sub hsub) (by simpa using hsz) ?_ ?_ hk.2 hk.1 hrel
 ·simp at hn ⊢;omega
 ·intro j hj
  by_cases hij:i=j
  ·subst hij;have:i<listed.size:=by rw[hsz];exact hilt
   simp[this]
   simpa using hinot
  ·rw[getD_set_ne true hij,hl j hj];simp[Ne.symm hij]
 ·intro j hj o hoj e he hb
  by_cases hij:i=j
  ·subst hij;rw[hoi] at hoj;cases hoj;exact getD_set_true (hall e he hb)
  ·rw[getD_set_ne false hij] at hj;exact getD_set_true (hc j hj o hoj e he hb))
   split
   ·rename_i hw;rw[if_pos hw] at hS;exact .inl hS
   ·rename_i hw;rw[if_neg hw] at hS;exact hS
def vX(bl:List Nat)(ops:Array Oper)(perm:List Nat):Bool:=
 decide (perm.length=ops.size)&&perm.all (fun i=>decide (i<ops.size))&&(List.range ops.size).all (fun i=>perm.contains i)&&
 iZ (sW bl ops) perm&&iZ (jF ops) perm&&perm.all (fun i=>jF ops i i)&&perm.all (fun i=>ry ops i)&&iZ (Jg bl ops) perm&&iZ (Jh bl ops) perm&&iZ (fun i j=>i !=j) perm
def Ji(bl:List Nat)(ops:Array Oper)(s:St):Bool:=true
def uG{t:List (Nat×Value)}{d:Nat}{sv:Value}(h:look t d=some sv):(d,sv)∈t:=by
 induction t with
 |nil=>cases h
 |cons p t ih=>
  obtain⟨d',v⟩:=p
  by_cases e:d'=d
  ·subst e;rw[fB] at h;cases h;simp
  ·rw[dA e] at h;exact List.mem_cons_of_mem _ (ih h)
def Zd{P:Program}{bl:List Nat}{id:Nat}{ops:Array Oper}{Q:Exit->Act->World->Prop}{s:St}{B:Bs}{w:World}{a:Act}(perm:List Nat){l:List Oper}{K:St->Prop}
 (hm:P.follows .mixedOrders=true)(hc:vX bl ops perm=true)(hl:perm.map (fun i=>ops.getD i default)=l)(hf:Ji bl ops s=true)(hr:aW P bl ops l s K)
 (hpost:∀s' a' w',K s'->lh B s' a' w'->Q .normal a' w')(h:lh B s a w):(Code.region id ops true).wp P Q a w:=by
 simp only[vX,Bool.and_eq_true,decide_eq_true_eq] at hc;obtain⟨⟨⟨⟨⟨⟨⟨⟨⟨hlen,hlt⟩,hall⟩,hpo⟩,hnw⟩,hself⟩,hed⟩,hds⟩,hmf⟩,hnd⟩:=hc;have hOrd:Ord bl ops perm:=⟨fun i hi=>of_decide_eq_true (List.all_eq_true.1 hlt i hi),iE hpo,iE hnw,fun i hi=>List.all_eq_true.1 hself i hi,fun i hi=>List.all_eq_true.1 hed i hi,
 iE hds,iE hmf,(iE hnd).imp (fun h=>by simpa using h)⟩
 subst hl;have hK:KC (fun s'=>∃s0,Dj s0 s'∧K s0):=fun s1 s2 he ⟨s0,h0,h1⟩=>⟨s0,h0.trans he,h1⟩
 have hr':aW P bl ops (perm.map fun i=>ops.getD i default) s (fun s'=>∃s0,Dj s0 s'∧K s0):=hr.mono (fun s' hs'=>⟨s',Dj.refl _,hs'⟩);refine wp_region_any hm ?_;refine OL hK (fun s' a' w' ⟨s0,he,hk⟩ hrel=>hpost s0 a' w' hk (he.symm.rel hrel)) ops.size perm _ s a _ hlen hOrd (by simp) ?_ ?_ ?_ hr' h.drew
 ·intro j hj;have:j∈perm:=by
   have:=List.all_eq_true.1 hall j (List.mem_range.2 hj)
   simpa using this
  simp[hj,this]
 ·intro j hj
  exfalso
  rcases Nat.lt_or_ge j ops.size with h1|h1
  ·simp[h1] at hj
  ·simp[h1] at hj
 ·intro i hi o ho hmo d hf';cases hf'
end Go.Via
namespace Go.Via
variable[Mo]
open Go Go.RowKit
structure TI where
 agg:Bool
 size:Nat
 flds:List (Nat×Nat)
def qiv:Option TypeDesc->Option Bool
 |some (.struct _)|some (.array _ _)=>some true
 |some _=>some false
 |none=>none
def Ze(P:Program):Option TypeDesc->List (Nat×Nat)
 |some (.struct fs)=>fs.toList.map fun f=>(f.offset,((P.info? f.type).map (·.size)).getD 0)
 |_=>[]
def eP(P:Program)(t:Nat)(i:TI):Bool:=
 (P.info? t).any (fun inf=>inf.size==i.size)&&(qiv (P.underlying t)==some i.agg)&&(Ze P (P.underlying t)==i.flds)
def qcJ{P:Program}{t:Nat}{i:TI}(h:eP P t i=true):∃inf,P.info? t=some inf∧inf.size=i.size:=by
 simp only[eP,Bool.and_eq_true,Option.any_eq_true] at h;obtain⟨⟨⟨inf,h1,h2⟩,_⟩,_⟩:=h;exact⟨inf,h1,by simpa using h2⟩
theorem qgg{P:Program}{t:Nat}{i:TI}(h:eP P t i=true)(w:World):(isAgg t).run P w= .ok i.agg w:=by
 simp only[eP,Bool.and_eq_true,beq_iff_eq] at h;obtain⟨⟨_,h1⟩,_⟩:=h;cases hu:P.underlying t with
 |none=>rw[hu] at h1;cases h1
 |some d=>
  unfold isAgg;rw[Sem.run_bind,run_underlying hu w];rw[hu] at h1;cases d<;>simp_all[qiv]
theorem pg{P:Program}{t:Nat}{i:TI}(h:eP P t i=true)(w:World):(sizeOf t).run P w= .ok i.size w:=by
 obtain⟨inf,h1,h2⟩:=qcJ h;simp[sizeOf,typeInfo,h1,h2]
def TP{P:Program}{t:Nat}{i:TI}(h:eP P t i=true){j:Nat}{p:Nat×Nat}(hp:i.flds[j]? =some p):∃fs f,P.underlying t=some (.struct fs)∧fs[j]? =some f∧f.offset=p.1∧((P.info? f.type).map (·.size)).getD 0=p.2:=by
 simp only[eP,Bool.and_eq_true,beq_iff_eq] at h;obtain⟨_,h1⟩:=h;cases hu:P.underlying t with
 |none=>rw[hu] at h1;simp[Ze] at h1;rw[h1] at hp;simp at hp
 |some d=>
  rw[hu] at h1;cases d<;>simp only[Ze] at h1<;>first|(rw[<-h1] at hp;simp at hp;done)|skip
  rename_i fs
  rw[<-h1,List.getElem?_map] at hp;simp only[Option.map_eq_some_iff] at hp;obtain⟨f,h2,h3⟩:=hp;exact⟨fs,f,rfl,by simpa using h2,by rw[<-h3],by rw[<-h3]⟩
def aG.at(b:aG)(off:Nat):Value:= .pointer (b.base.map fun g=>⟨g,off,none⟩)
theorem jW(g off j:Nat):(⟨g,off,none⟩:Addr).add j=⟨g,off+j,none⟩:=by unfold Addr.add;split<;>simp_all
def bf.cell{B:Bs}{w:World}{L:List aG}(h:bf B L w){k:Nat}{b:aG}(hk:L[k]? =some b){j:Nat}{v:Value}(hj:b.cs[j]? =some v):
 ∃g,b.base=some g∧w.cell? ⟨g,j,none⟩=some v:=by
 obtain⟨h1,h2⟩:=h.blk k b hk;cases hb:b.base with
 |none=>rw[(h2 hb).1] at hj;simp at hj
 |some g=>
  obtain⟨cur,⟨e',fr,h3,_⟩,h4,h5⟩:=(h1 g hb).cells (.inr (fun e=>by rw[e] at hj;simp at hj));refine⟨g,rfl,?_⟩;rw[cell_of_row w g j cur e' fr h3];have hj':j<b.cs.length:=(List.getElem?_eq_some_iff.1 hj).1;rw[<-h5,List.getElem?_take,if_pos hj'] at hj
  simpa using hj
def bf.loadVar{P:Program}{B:Bs}{w:World}{L:List aG}(h:bf B L w){k:Nat}{b:aG}(hk:L[k]? =some b){T:Nat}{i:TI}(hi:eP P T i=true){off:Nat}{vs:List Value}{v:Value}
 (hvs:(b.cs.drop off).take i.size=vs)(hlen:vs.length=i.size)(hpos:0<i.size)(hv:(bif i.agg then some (.agg vs.toArray) else vs[0]?)=some v):
 ∃g,b.base=some g∧(Go.loadVar T ⟨g,off,none⟩).run P w= .ok v w:=by
 have hc:∀j u,vs[j]? =some u->b.cs[off+j]? =some u:=by
  intro j u hj;rw[<-hvs,List.getElem?_take] at hj
  split at hj
  ·simpa using hj
  ·cases hj
 obtain⟨u0,hu0⟩:∃u,vs[0]? =some u:=by rw[List.getElem?_eq_getElem (by omega)];exact⟨_,rfl⟩
 obtain⟨g,hg,h0⟩:=h.cell hk (hc 0 u0 hu0);refine⟨g,hg,?_⟩;have hcell:∀j u,vs[j]? =some u->w.cell? ((⟨g,off,none⟩:Addr).add j)=some u:=by
  intro j u hj;obtain⟨g',hg',h1⟩:=h.cell hk (hc j u hj);rw[hg] at hg';cases hg';rw[jW];exact h1
 unfold Go.loadVar;rw[Sem.run_bind,qgg hi w];simp only[Result.andThen_ok];cases ha:i.agg with
 |true=>
  rw[ha] at hv;simp only[cond_true,Option.some.injEq] at hv;subst hv;have:=run_loadCells_list (P:=P) w ⟨g,off,none⟩ vs hcell;rw[hlen] at this;simp[Sem.run_bind,pg hi w,this]
 |false=>
  rw[ha] at hv;simp only[cond_false] at hv;have:=hcell 0 v hv;simp only[jW,Nat.add_zero] at this;simp[this]
section
variable{P:Program}{o:Oper}{s:St}
def qgh{x:Operand}{v:Value}(ho:o.op= .move x)(hx:ev s.t x=some v):Ci P o s v:=fun B a w hr=>by
 simp[execOp,ho,hr.ev hx]
def Zf{x:Operand}{v:Value}(ho:o.op= .assign x)(hx:ev s.t x=some v):Ci P o s v:=fun B a w hr=>by
 simp[execOp,ho,hr.ev hx]
def Zg{c x y:Operand}{b:Bool}{v:Value}(ho:o.op= .pick c x y)(hc:ev s.t c=some (.bool b))(hv:ev s.t (if b then x else y)=some v):Ci P o s v:=fun B a w hr=>by
 have h1:=hr.ev hc;have h2:=hr.ev hv;cases b<;>simp[execOp,ho,h1,asBool]<;>simpa using h2
def Zh{T:Nat}{x:Operand}{i:TI}{b:aG}{off:Nat}{vs:List Value}{v:Value}(ho:o.op= .load T x)(k:Nat)(hk:s.L[k]? =some b)(hx:ev s.t x=some (b.at off))(hi:eP P T i=true)
 (hvs:(b.cs.drop off).take i.size=vs)(hlen:vs.length=i.size)(hpos:0<i.size)(hv:(bif i.agg then some (.agg vs.toArray) else vs[0]?)=some v):Ci P o s v:=fun B a w hr=>by
 obtain⟨g,hg,h1⟩:=hr.mem.loadVar hk hi hvs hlen hpos hv;have h2:=hr.ev hx;unfold aG.at at h2;rw[hg] at h2;simp only[Option.map_some] at h2;simp[execOp,ho,h2,Instr.loadAt,Instr.sureAddr,h1]
def QC{T:Nat}{x:Operand}{j:Nat}{i:TI}{b:aG}{off fo fs:Nat}(ho:o.op= .fieldAddr T x j)(k:Nat)(hk:s.L[k]? =some b)(hx:ev s.t x=some (b.at off))(hb:b.base.isSome=true)(hi:eP P T i=true)
 (hf:i.flds[j]? =some (fo,fs+1)):Ci P o s (b.at (off+fo)):=fun B a w hr=>by
 have h2:=hr.ev hx;obtain⟨g,hg⟩:=Option.isSome_iff_exists.1 hb;unfold aG.at at h2 ⊢;rw[hg] at h2 ⊢;simp only[Option.map_some] at h2 ⊢;obtain⟨fs',f,h3,h4,h5,h6⟩:=TP hi hf;simp only at h5 h6;have hsz:(sizeOf f.type).run P w= .ok (fs+1) w:=by
  cases hq:P.info? f.type with
  |none=>rw[hq] at h6;simp at h6
  |some inf=>rw[hq] at h6;simp at h6;simp[sizeOf,typeInfo,hq,h6]
 simp[execOp,ho,h2,Instr.fieldAt,run_underlying h3,h4,Instr.sureAddr,fieldPlace,hsz,jW,h5]
end
def TQ(w:World)(g:Nat)(cur':Array Value){es:Array MapEntry}{c:Nat}(h:w.heap[g]? =some (.map es c)):(w.setRow g cur').heap[g]? =some (.map es c):=by
 have hlt:g<w.heap.size:=(Array.getElem?_eq_some_iff.1 h).1;have hv:w.heap[g]= .map es c:=(Array.getElem?_eq_some_iff.1 h).2;unfold World.setRow;rw[Array.getElem?_eq_getElem (by simpa using hlt),Array.getElem_modify];simp[hv]
theorem bf.set{B:Bs}{w:World}{L:List aG}(h:bf B L w){k:Nat}{b:aG}(hk:L[k]? =some b)(ho:b.own=true){g:Nat}(hg:b.base=some g)(cur':Array Value)(cs':List Value)
 (hn:cur'.size=b.n)(hc:cur'.toList.take cs'.length=cs'):bf B (L.set k {b with cs:=cs'}) (w.setRow g cur'):=by
 have h6:=((h.blk k b hk).1 g hg).2;have hkl:k<L.length:=(List.getElem?_eq_some_iff.1 hk).1;have base:∀(m:Nat) (bm:aG),(L.set k {b with cs:=cs'})[m]? =some bm->∃bm',L[m]? =some bm'∧bm'.base=bm.base∧bm'.own=bm.own∧bm'.e=bm.e:=by
  intro m bm hm
  by_cases e:k=m
  ·subst e;rw[List.getElem?_set_self hkl] at hm;cases hm;exact⟨b,hk,rfl,rfl,rfl⟩
  ·rw[List.getElem?_set_ne e] at hm;exact⟨bm,hm,rfl,rfl,rfl⟩
 refine⟨h.bel.one (h6 ho) rfl rfl rfl (by simp) (fun i hne=>setRow_other w g i _ (by omega)),fun j b' hj=>?_,fun i j g' bi bj hij hi hj hoi hgi hgj=>?_,?_⟩
 rotate_left 2
 ·refine(h.grp.step (w':=w.setRow g cur') fun g' _ hc=>setRow_other w g g' _ (fun e=>hc b (List.mem_of_getElem? hk) ho (by rw[hg,e]))).sub (fun c hc hn=>?_) (fun c hc hoc g' hgc=>?_)
  ·obtain⟨m,hm⟩:=List.mem_iff_getElem?.1 hc;obtain⟨c',c1,c2,c3,c4⟩:=base m c hm;exact .inr ⟨c',List.mem_of_getElem? c1,by rw[c2];exact hn,c4,fun h=>by rw[c3];exact h⟩
  ·obtain⟨m,hm⟩:=List.mem_iff_getElem?.1 hc;obtain⟨c',c1,c2,c3,c4⟩:=base m c hm;exact⟨c',List.mem_of_getElem? c1,by rw[c3];exact hoc,by rw[c2];exact hgc⟩
 ·by_cases e:k=j
  ·subst e;rw[List.getElem?_set_self hkl] at hj;cases hj;refine⟨fun g' hg'=>?_,fun hn'=>by rw[hg] at hn';cases hn'⟩
   rw[hg] at hg';cases hg';refine⟨?_,h6⟩;rcases((h.blk k b hk).1 g hg).1 with⟨cur,⟨e',fr,h3,hfr,hlt⟩,h4,h5⟩|⟨l,es,c,a1,a2,a3,a4,h3,a5⟩
   ·obtain⟨rfl,rfl⟩:=hfr ho;exact .inl ⟨cur',⟨_,_,setRow_heap w g cur cur' b.e (0,0) h3,fun _=>⟨rfl,rfl⟩,hlt⟩,hn,hc⟩
   ·have hcs:cs'=[]:=by
     have h7:cur'.toList=[]:=List.eq_nil_of_length_eq_zero (by rw[Array.length_toList,hn,a3]);rw[h7] at hc;simpa using hc.symm
    exact .inr ⟨l,es,c,a1,hcs,a3,a4,TQ w g cur' h3,a5⟩
  ·rw[List.getElem?_set_ne e] at hj;obtain⟨h1,h2⟩:=h.blk j b' hj;refine⟨fun g' hg'=>?_,h2⟩;have h8:=h1 g' hg';have hne:g'≠g:=fun e'=>h.apart k j g b b' e hk hj ho hg (by rw[hg',e'])
   exact h8.heap (setRow_other w g g' _ hne)
 ·obtain⟨bi',a1,a2,a3,_⟩:=base i bi hi;obtain⟨bj',c1,c2,c3,_⟩:=base j bj hj;exact h.apart i j g' bi' bj' hij a1 c1 (by rw[a3];exact hoi) (by rw[a2];exact hgi) (by rw[c2];exact hgj)
section
variable{P:Program}{o:Oper}{s:St}
def Jj{X:Type}{nx:X->St}(h:∀(B:Bs) (a:Act) (w:World),lh B s a w->∃v w' x,(execOp a.eval o).run P w= .ok (.value v) w'∧lh B (nx x) (a.put o.dst v) w'):Eff P o s X nx:=fun B a w hr=>by
 obtain⟨v,w',x,h1,h2⟩:=h B a w hr;unfold Oper.wp;rw[h1];exact⟨x,h2⟩
def qiw{T:Nat}{x:Operand}{v:Value}(hT:T<dC)(hd:∀d,o.dst=some d->d<s.nt)(ho:o.op= .box T x)(hx:ev s.t x=some v):
 Eff P o s Nat (fun g=>({s with L:=s.L++[⟨some g,T,v.cells.toList,v.cells.size,true⟩]}:St).put o.dst (.pointer (some ⟨g,0,none⟩))):=
 Jj fun B a w hr=>⟨.pointer (some ⟨w.heap.size,0,none⟩),w.alloc (.cells v.cells T),w.heap.size,by simp[execOp,ho,hr.ev hx,Instr.box,newVar,newRow],hr.put hd (hr.mem.alloc T v.cells hT)⟩
def Xv{T:Nat}{z:Value}{tt:List (Nat×Value)}(hT:T<dC)(ho:o.op= .alloc T)(hz:(P.info? T).bind (·.zero)=some z):zC P tt o=some (T,z.cells):=by
 unfold zC;rw[ho];dsimp only;rw[if_pos hT,hz];rfl
def Ef{T:Nat}{x y:Operand}{i:TI}{b:aG}{off:Nat}{v:Value}(ho:o.op= .store T x y)(k:Nat)(hk:s.L[k]? =some b)(hown:b.own=true)(hx:ev s.t x=some (b.at off))(hb:b.base.isSome=true)
 (hy:ev s.t y=some v)(hi:eP P T i=true)(hsz:v.cells.size=i.size)(hpos:0<i.size)(hfit:off+i.size<=b.cs.length)(h1:(v.cells.toList.all fun u=>u.oneCell')=true):
 Za P o s (s.L.set k {b with cs:=b.cs.take off++v.cells.toList++b.cs.drop (off+i.size)}):=fun B a w hr=>by
 obtain⟨g,hg⟩:=Option.isSome_iff_exists.1 hb;have h2:=hr.ev hx;unfold aG.at at h2;rw[hg] at h2;simp only[Option.map_some] at h2;obtain⟨cur,⟨e',fr,h3,hfr,_⟩,h4,h5⟩:=((hr.mem.blk k b hk).1 g hg).cells (.inr (fun e=>by rw[e] at hfit;simp at hfit;omega));obtain⟨rfl,rfl⟩:=hfr hown;have hlc:b.cs.length<=cur.size:=by
  have:=congrArg List.length h5;simp at this;omega
 have hvl:v.cells.toList.length=i.size:=(by simp[hsz]);have hst:=run_storeCells_at P g off b.e v.cells.toList 0 cur w h3 (by rw[hvl];omega) (fun u hu=>List.all_eq_true.1 h1 u hu);simp only[Nat.add_zero] at hst;have hrun:(execOp a.eval o).run P w= .ok .skip (w.setRow g (cur.toList.take off++v.cells.toList++cur.toList.drop (off+v.cells.toList.length)).toArray):=by
  simp only[execOp,ho,hr.ev hy,h2,Instr.storeAt,Instr.sureAddr,Sem.run_bind,Sem.run_pure,Result.andThen_ok];unfold Go.storeVar;simp only[Sem.run_bind,pg hi w,Result.andThen_ok,hsz,ne_eq,not_true,if_false,Sem.run_ite];simp[hst]
 refine⟨_,hrun,?_⟩;refine hr.mem.set hk hown hg _ _ ?_ ?_
 ·simp only[List.size_toArray,List.length_append,List.length_take,List.length_drop,Array.length_toList,hvl];rw[<-h4];simp only[Array.length_toList] at*;omega
 ·simp only[hvl];have hct:cur.toList=b.cs++cur.toList.drop b.cs.length:=by
   conv=>lhs;rw[<-List.take_append_drop b.cs.length cur.toList,h5]
  generalize hcl:cur.toList=cl at*
  generalize hr':cl.drop b.cs.length=rest at*
  subst hct;have e1:(b.cs++rest).take off=b.cs.take off:=by rw[List.take_append_of_le_length (by omega)]
  have e2:(b.cs++rest).drop (off+i.size)=b.cs.drop (off+i.size)++rest:=(by rw[List.drop_append_of_le_length hfit]);rw[e1,e2,<-List.append_assoc];exact List.take_left
end
end Go.Via
namespace Go.Via
variable[Mo]
open Go Go.RowKit
def At(B:Bs)(s:St)(X:Act->World->Prop):Prop:=∀(a:Act) (w:World),lh B s a w->X a w
section
variable{P:Program}{B:Bs}{s:St}{Q:Exit->Act->World->Prop}
def TR{x y:Code}(h:At B s (x.wp P (Exit.then (y.wp P Q) Q))):At B s ((Code.seq x y).wp P Q):=fun a w hr=>wp_seq (h a w hr)
def yC{c:Operand}{x y:Code}{b:Bool}(hc:ev s.t c=some (.bool b))(h1:b=true->At B s (x.wp P Q))(h2:b=false->At B s (y.wp P Q)):At B s ((Code.cond c x y).wp P Q):=fun a w hr=>by
 have:=hr.ev hc;cases b
 ·exact wp_cond_false this (h2 rfl a w hr)
 ·exact wp_cond_true this (h1 rfl a w hr)
def Zi{c:Operand}{x y:Code}(hc:ev s.t c=some (.bool true))(h:At B s (x.wp P Q)):At B s ((Code.cond c x y).wp P Q):=fun a w hr=>wp_cond_true (hr.ev hc) (h a w hr)
def Zj{c:Operand}{x y:Code}(hc:ev s.t c=some (.bool false))(h:At B s (y.wp P Q)):At B s ((Code.cond c x y).wp P Q):=fun a w hr=>wp_cond_false (hr.ev hc) (h a w hr)
def qcK(h:At B s (Q .normal)):At B s (Code.skip.wp P Q):=fun a w hr=>wp_skip (h a w hr)
def qgi(h:At B s (Q .ret)):At B s (Code.ret.wp P Q):=fun a w hr=>wp_ret (h a w hr)
def Zk{id:Nat}{c:Code}(h:At B s (c.wp P (Exit.inBlock id Q))):At B s ((Code.block id c).wp P Q):=fun a w hr=>wp_block (h a w hr)
def qcL{id:Nat}(h:At B s (Q (.exit id))):At B s ((Code.exit id).wp P Q):=fun a w hr=>wp_exit (h a w hr)
def Xw{id:Nat}{l:List Oper}(h:aW P [] l.toArray l s (fun s'=>At B s' (Q .normal))):At B s ((Code.region id l.toArray false).wp P Q):=fun a w hr=>
 wp_region_lit (aW.sound h hr (fun s' a' w' h1 h2=>h1 a' w' h2))
def mV{id:Nat}{l:List Oper}(h:aW P [1000000] l.toArray l s (fun s'=>At B s' (Q .normal))):At B s ((Code.region id l.toArray false).wp P Q):=fun a w hr=>
 wp_region_lit (aW.sound h hr (fun s' a' w' h1 h2=>h1 a' w' h2))
def QD{id:Nat}{l l':List Oper}(bl perm:List Nat)(hm:P.follows .mixedOrders=true)(hc:vX bl l.toArray perm=true)(hl:perm.map (fun i=>l.toArray.getD i default)=l')(hf:Ji bl l.toArray s=true)
 (h:aW P bl l.toArray l' s (fun s'=>At B s' (Q .normal))):At B s ((Code.region id l.toArray true).wp P Q):=fun a w hr=>
 Zd (K:=fun s'=>At B s' (Q .normal)) perm hm hc hl hf h (fun s' a' w' h1 h2=>h1 a' w' h2) hr
def qcM{ι:Type}{c:Code}(inv:ι->St)(μ:ι->Nat)(i₀:ι)(h₀:∀a w,lh B s a w->lh B (inv i₀) a w)
 (round:∀i,At B (inv i) (c.wp P (Exit.then (fun a' w'=>∃j,μ j<μ i∧lh B (inv j) a' w') Q))):At B s ((Code.loop c).wp P Q):=fun a w hr=>by
 refine wp_loop_ghost (fun n a w=>∃i,μ i=n∧lh B (inv i) a w) (μ i₀) ⟨i₀,rfl,h₀ a w hr⟩ ?_;rintro n a w ⟨i,rfl,hi⟩;refine wp_mono (round i a w hi) ?_;intro e a' w' hq;cases e with
 |normal=>obtain⟨j,h1,h2⟩:=hq;exact⟨μ j,h1,j,rfl,h2⟩
 |_=>exact hq
def lh.sub{t:List (Nat×Value)}{a:Act}{w:World}(hr:lh B s a w)(h:∀d v,look t d=some v->look s.t d=some v):lh B ⟨s.nt,t,s.L⟩ a w:=
 ⟨hr.df,hr.size,fun d v hd=>hr.tmp d v (h d v hd),hr.mem⟩
end
section
variable{P:Program}{bl:List Nat}{ops:Array Oper}{s:St}{K:St->Prop}{rest:List Oper}
def IG(h:K s):aW P bl ops [] s K:=h
def gq{o:Oper}{v:Value}(hd:(match o.dst with|some d=>Nat.blt d s.nt|none=>true)=true)(hg:ax ops o s.t=some true)(_hc:(jT o||(isAl o||isSto o))=false)(hq:Ci P o (s.bk bl) v)
 (h:aW P bl ops rest (s.put o.dst v) K)(hp:zF o=true->nX P s.t o=some v:=by intro h;cases h):aW P bl ops (o::rest) s K:=
 ⟨fun d hd'=>by rw[hd'] at hd;simpa using hd,true,hg,.inr ⟨rfl,.inl ⟨by rw[Bool.or_eq_false_iff] at _hc;rw[_hc.2,Bool.and_false],v,⟨hq,fun _=>hp⟩,h⟩⟩⟩
def qgj{o:Oper}{v:Value}(hd:(match o.dst with|some d=>Nat.blt d s.nt|none=>true)=true)(hg:ax ops o s.t=some true)(ha:(isAl o||isSto o)=false)(hq:Ci P o (s.bk bl) v)
 (h:aW P bl ops rest (s.put o.dst v) K)(hp:zF o=true->nX P s.t o=some v:=by intro h;cases h):aW P bl ops (o::rest) s K:=
 ⟨fun d hd'=>by rw[hd'] at hd;simpa using hd,true,hg,.inr ⟨rfl,.inl ⟨by rw[ha,Bool.and_false],v,⟨hq,fun _=>hp⟩,h⟩⟩⟩
def qgk{o:Oper}(hd:(match o.dst with|some d=>Nat.blt d s.nt|none=>true)=true)(hg:ax ops o s.t=some false)(h:aW P bl ops rest (s.put o.dst undef) K):aW P bl ops (o::rest) s K:=
 ⟨fun d hd'=>by rw[hd'] at hd;simpa using hd,false,hg,.inl ⟨rfl,h⟩⟩
def Eg{o:Oper}{X:Type}{res:X->Value}{new:X->List aG}(hd:(match o.dst with|some d=>Nat.blt d s.nt|none=>true)=true)(hg:ax ops o s.t=some true)(hc:jT o=true)(hq:OG P o s X res new)(hF:IC bl=true->Ec P o s X res new∧Nonempty X)
 (h:∀x,aW P bl ops rest (({s with L:=s.L++new x}:St).put o.dst (res x)) K):aW P bl ops (o::rest) s K:=
 ⟨fun d hd'=>by rw[hd'] at hd;simpa using hd,true,hg,.inr ⟨rfl,.inr (.inl ⟨hc,X,res,new,hq,hF,h⟩)⟩⟩
def MM{o:Oper}{X:Type}{nx:X->St}(hd:(match o.dst with|some d=>Nat.blt d s.nt|none=>true)=true)(hg:ax ops o s.t=some true)(hm:(iU o||isAsg o||(isAl o||isSto o))=false)(hm':((isSto o||isME o)&&FM bl)=false)(hq:(∀d,o.dst=some d->d<s.nt)->Eff P o s X nx)
 (h:∀x,aW P bl ops rest (nx x) K):aW P bl ops (o::rest) s K:=
 have hd':∀d,o.dst=some d->d<s.nt:=fun d hd'=>by rw[hd'] at hd;simpa using hd
 ⟨hd',true,hg,.inr ⟨rfl,.inr (.inr (.inl ⟨by rw[Bool.or_eq_false_iff,Bool.or_eq_false_iff] at hm;simp[OH,hm.1.1,hm.1.2],by rw[Bool.or_eq_false_iff] at hm;rw[hm.2,Bool.and_false],by rw[hm',Bool.and_false],X,nx,hq hd',h⟩))⟩⟩
def Zl{o:Oper}{X:Type}{nx:X->St}(hd:(match o.dst with|some d=>Nat.blt d s.nt|none=>true)=true)(hg:ax ops o s.t=some true)(hb:IE bl=true)(hq:(∀d,o.dst=some d->d<s.nt)->Eff P o s X nx)
 (h:∀x,aW P bl ops rest (nx x) K):aW P bl ops (o::rest) s K:=
 have hd':∀d,o.dst=some d->d<s.nt:=fun d hd'=>by rw[hd'] at hd;simpa using hd
 ⟨hd',true,hg,.inr ⟨rfl,.inr (.inr (.inl ⟨by rw[hb];rfl,by rw[show bl=[1000000] by simpa[IE] using hb];rfl,by rw[hb];rfl,X,nx,hq hd',h⟩))⟩⟩
def Vu{o:Oper}{L':List aG}(hg:ax ops o s.t=some true)(hs:isSto o=true)(hd:o.dst=none)(he:Za P o s L')(hb:FM bl=true->blank bl L'=blank bl s.L)(h:aW P bl ops rest {s with L:=L'} K):aW P bl ops (o::rest) s K:=
 ⟨fun d hd'=>(by rw[hd] at hd';cases hd'),true,hg,.inr ⟨rfl,.inr (.inr (.inr (.inl ⟨hs,hd,L',he,hb,h⟩)))⟩⟩
def Zm{o:Oper}{e:TypeId}{cs:Array Value}(hd:(match o.dst with|some d=>Nat.blt d s.nt|none=>true)=true)(hg:ax ops o s.t=some true)(ha:isAl o=true)(hq:zC P s.t o=some (e,cs))
 (h:∀g,aW P bl ops rest (({s with L:=s.L++[alB g e cs]}:St).put o.dst (alV o g)) K):aW P bl ops (o::rest) s K:=
 ⟨fun d hd'=>by rw[hd'] at hd;simpa using hd,true,hg,.inr ⟨rfl,.inr (.inr (.inr (.inr (.inl ⟨ha,e,cs,hq,h⟩))))⟩⟩
end
def ja(P:Program)(f:Nat):Bool:=match P.funcs[f]? with
 |some fn=>fn.body.isSome&& !(fn.name== "runtime.NumGoroutine")
 |none=>false
theorem qP{P:Program}{f:Nat}(hf:ja P f=true)(a:Act){o:Oper}{x:Operand}{args:Array Operand}{ts:Array TypeId}(ho:o.op= .call {callee:= .value x,args:=args,argTypes:=ts})(hx:a.eval x= .func (.func f) #[] #[]){vs:Array Value}(hv:args.map a.eval=vs)(w:World):
 (execOp a.eval o).run P w= .ok (.enter f vs) w:=by
 unfold ja at hf;cases hq:P.funcs[f]? with
 |none=>rw[hq] at hf;cases hf
 |some fn=>
  rw[hq] at hf;simp only[Bool.and_eq_true,Bool.not_eq_true'] at hf;obtain⟨h1,h2⟩:=hf;have h3:fn.body≠none:=by intro hb;rw[hb] at h1;cases h1
  have h4:¬fn.name= "runtime.NumGoroutine" :=(by simpa using h2);simp[execOp,ho,resolve,hx,Deferred.ofValue,invoke,callFunc,hv,hq,h4,h3]
def aP(P:Program)(f:Nat)(args:Array Value)(v:Value):Prop:=
 ja P f=true∧∀w,Calls P f args w fun e w'=>e= .returned v∧fP w.heap.size w w'
theorem oJ{B:Bs}{s:St}{a:Act}{w:World}(hr:lh B s a w):∀{l:List Operand} {vs:List Value},l.map (ev s.t)=vs.map some->l.map a.eval=vs
 |[],vs,h=>by cases vs<;>simp_all
 |x::l,vs,h=>by
  cases vs with
  |nil=>simp at h
  |cons v vs=>
   simp only[List.map_cons,List.cons.injEq] at h;rw[List.map_cons,hr.ev h.1,oJ hr h.2]
def qgl{P:Program}{o:Oper}{s:St}{f:Nat}{args:List Operand}{ts:Array TypeId}{vs:List Value}{v:Value}(ho:o.op= .call {callee:= .value (.func f),args:=args.toArray,argTypes:=ts})
 (hv:args.map (ev s.t)=vs.map some)(hc:aP P f vs.toArray v):OG P o s Unit (fun _=>v) (fun _=>[]):=fun B a w hr=>by
 refine⟨f,vs.toArray,qP hc.1 a ho rfl (by simp[oJ hr hv]) w,(hc.2 w).mono ?_⟩;rintro e w' ⟨rfl,hw⟩;exact⟨(),rfl,by simpa using hr.mem.same hw⟩
def qcN{P:Program}{o:Oper}{s:St}{f:Nat}{args:List Operand}{ts:Array TypeId}{vs:List Value}{v:Value}(ho:o.op= .call {callee:= .value (.func f),args:=args.toArray,argTypes:=ts})
 (hv:args.map (ev s.t)=vs.map some)(hc:aP P f vs.toArray v):Ec P o s Unit (fun _=>v) (fun _=>[]):=fun B a w hr=>by
 refine⟨f,vs.toArray,qP hc.1 a ho rfl (by simp[oJ hr hv]) w,(hc.2 w).mono ?_⟩;rintro e w' ⟨rfl,hw⟩;exact⟨(),rfl,⟨.of hw,fun k b hk=>by simp at hk,(fun i j g bi bj hij hi=>by simp at hi),mP.nil _ _⟩,fun b hb=>by cases hb⟩
def qfz{P:Program}{o:Oper}{s:St}{f:Nat}{args:List Operand}{ts:Array TypeId}{vs:List Value}{X:Type}{res:X->Value}{new:X->List aG}(ho:o.op= .call {callee:= .value (.func f),args:=args.toArray,argTypes:=ts})
 (hv:args.map (ev s.t)=vs.map some)(hf:ja P f=true)(hc:∀(B:Bs) (w:World),bf B s.L w->Calls P f vs.toArray w fun e w'=>∃x,e= .returned (res x)∧bf B (s.L++new x) w'):OG P o s X res new:=fun B a w hr=>
 ⟨f,vs.toArray,qP hf a ho rfl (by simp[oJ hr hv]) w,hc B w hr.mem⟩
def qgm{P:Program}{o:Oper}{s:St}{f:Nat}{args:List Operand}{ts:Array TypeId}{vs:List Value}{X:Type}{res:X->Value}{new:X->List aG}(ho:o.op= .call {callee:= .value (.func f),args:=args.toArray,argTypes:=ts})
 (hv:args.map (ev s.t)=vs.map some)(hf:ja P f=true)(hc:∀(B:Bs) (w:World),bf B s.L w->Calls P f vs.toArray w fun e w'=>∃x,e= .returned (res x)∧bf w (new x) w'∧∀b∈new x,b.own=true):Ec P o s X res new:=fun B a w hr=>
 ⟨f,vs.toArray,qP hf a ho rfl (by simp[oJ hr hv]) w,hc B w hr.mem⟩
def Zn:Nat->List Value->List (Nat×Value)
 |_,[]=>[]
 |k,v::l=>(k,v)::Zn (k+1) l
def Xx{l:List Value}:∀{k d:Nat} {v:Value},look (Zn k l) d=some v->k<=d∧l[d-k]? =some v:=by
 induction l with
 |nil=>intro k d v h;cases h
 |cons x l ih=>
  intro k d v h
  by_cases e:k=d
  ·subst e;rw[Zn,fB] at h;cases h;simp
  ·rw[Zn,dA e] at h;obtain⟨h1,h2⟩:=ih h;refine⟨by omega,?_⟩;rw[show d-k=(d-(k+1))+1 by omega,List.getElem?_cons_succ];exact h2
def bf.nil(w:World):bf w [] w:=⟨.of (fP.refl _ _),fun k b hk=>by simp at hk,(fun i j g bi bj hij hi=>by simp at hi),mP.nil _ _⟩
def um{P:Program}{f:Nat}{fn:Func}{c:Code}{args:List Value}{B:Bs}{w:World}{R:Ending->World->Prop}{L:List aG}(hf:P.funcs[f]? =some fn)(hb:fn.body=some c)(hn:args.length<=fn.ntmps)(hL:bf B L w)
 (h:At B ⟨fn.ntmps,Zn 0 args,L⟩ (c.wp P (bodyPost P fn R)))(hD:B.D=[]:=by first|rfl|assumption):Calls P f args.toArray w R:=by
 refine calls_of_wp hf hb (h _ _ ⟨hD.symm,?_,fun d v hd=>?_,hL⟩)
 ·simp;omega
 ·obtain⟨_,h2⟩:=Xx hd;simp only[Nat.sub_zero] at h2;have hlt:=(List.getElem?_eq_some_iff.1 h2).1;simp only[List.size_toArray];rw[Array.getElem?_append_left (by simpa using hlt)]
  simpa using h2
def GY(P:Program)(s:St)(r:ResultVar)(v:Value):Prop:=∀(B:Bs) (a:Act) (w:World),lh B s a w->
 (match r with| .tmp t=>pure (a.tmps.getD t undef)| .cell p t=>do Go.loadVar t (<-asAddr (a.tmps.getD p undef)):Sem Value).run P w= .ok v w
def aj{P:Program}{s:St}{t:Nat}{v:Value}(h:look s.t t=some v):GY P s (.tmp t) v:=fun B a w hr=>by
 have:=hr.tmp t v h;simp[this]
def bu{P:Program}{s:St}{p T:Nat}{b:aG}{i:TI}{vs:List Value}{v:Value}(k:Nat)(hk:s.L[k]? =some b)(h:look s.t p=some (b.at 0))(hi:eP P T i=true)(hvs:b.cs.take i.size=vs)(hlen:vs.length=i.size)(hpos:0<i.size)
 (hv:(bif i.agg then some (.agg vs.toArray) else vs[0]?)=some v):GY P s (.cell p T) v:=fun B a w hr=>by
 have h1:=hr.tmp p _ h;obtain⟨g,hg,h2⟩:=hr.mem.loadVar (P:=P) hk hi (off:=0) (by simpa using hvs) hlen hpos hv;unfold aG.at at h1;rw[hg] at h1;simp only[Option.map_some] at h1;simp[h1,asAddr,h2]
def aH{P:Program}{B:Bs}{fn:Func}{R:Ending->World->Prop}{s:St}{r:ResultVar}{v:Value}(hfn:fn.results= #[r])(h:GY P s r v)(hR:∀w,bf B s.L w->R (.returned v) w)(hD:B.D=[]:=by first|rfl|assumption):At B s (bodyPost P fn R .ret):=fun a w hr=>by
 refine⟨hr.df.trans hD,v,?_,hR w hr.mem⟩;have:=h B a w hr;cases r with
 |tmp t=>simp only[Sem.run_pure] at this;simp[results,hfn];simpa using this
 |cell p T=>
  simp only[Sem.run_bind] at this;simp only[results,hfn];simp[Sem.run_bind,Result.andThen] at this ⊢
  split at this<;>simp_all
def bF{P:Program}{B:Bs}{fn:Func}{R:Ending->World->Prop}{s:St}{r r':ResultVar}{v v':Value}(hfn:fn.results= #[r,r'])(h:GY P s r v)(h':GY P s r' v')(hR:∀w,bf B s.L w->R (.returned (.tuple #[v,v'])) w)(hD:B.D=[]:=by first|rfl|assumption):At B s (bodyPost P fn R .ret):=fun a w hr=>by
 refine⟨hr.df.trans hD,.tuple #[v,v'],?_,hR w hr.mem⟩;have h1:=h B a w hr;have h2:=h' B a w hr;unfold results;rw[hfn];simp only[List.mapM_toArray,List.mapM_cons,List.mapM_nil,Sem.run_bind,Sem.run_map,bind_pure_comp];cases r<;>cases r'<;>simp only[Sem.run_bind,Sem.run_pure] at h1 h2 ⊢ <;>simp_all
def yD{P:Program}{B:Bs}{fn:Func}{R:Ending->World->Prop}{s:St}{r r' r'':ResultVar}{v v' v'':Value}(hfn:fn.results= #[r,r',r''])(h:GY P s r v)(h':GY P s r' v')(h'':GY P s r'' v'')(hR:∀w,bf B s.L w->R (.returned (.tuple #[v,v',v''])) w)(hD:B.D=[]:=by first|rfl|assumption):At B s (bodyPost P fn R .ret):=fun a w hr=>by
 refine⟨hr.df.trans hD,.tuple #[v,v',v''],?_,hR w hr.mem⟩;have h1:=h B a w hr;have h2:=h' B a w hr;have h3:=h'' B a w hr;unfold results;rw[hfn];simp only[List.mapM_toArray,List.mapM_cons,List.mapM_nil,Sem.run_bind,Sem.run_map,bind_pure_comp];cases r<;>cases r'<;>cases r''<;>simp only[Sem.run_bind,Sem.run_pure] at h1 h2 h3 ⊢ <;>simp_all
end Go.Via
namespace Go.Via
variable[Mo]
open Go Go.RowKit
section
variable{P:Program}{bl:List Nat}{ops:Array Oper}{K:St->Prop}{rest:List Oper}{nt:Nat}{t:List (Nat×Value)}{L:List aG}{d:Nat}{ty:TypeId}{pos:String}{af:Array Edge}{g:Option (Nat×Bool)}
def qgn{x:Operand}{v:Value}(hd:Nat.blt d nt=true)(hg:ax ops ⟨some d,.move x,ty,pos,af,g⟩ t=some true)(hx:ev t x=some v)(h:aW P bl ops rest ⟨nt,(d,v)::t,L⟩ K):
 aW P bl ops (⟨some d,.move x,ty,pos,af,g⟩::rest) ⟨nt,t,L⟩ K:=gq hd hg rfl (qgh rfl hx) h (fun _=>hx)
def TS{x:Operand}{v:Addr}(hd:Nat.blt d nt=true)(hg:ax ops ⟨some d,.nilCheck x,ty,pos,af,g⟩ t=some true)(hx:ev t x=some (.pointer (some v)))(h:aW P bl ops rest ⟨nt,(d,.pointer (some v))::t,L⟩ K):
 aW P bl ops (⟨some d,.nilCheck x,ty,pos,af,g⟩::rest) ⟨nt,t,L⟩ K:=gq hd hg rfl (fun B a w hr=>by simp[execOp,hr.ev hx]) h
def Eh{x:Operand}{v:Value}(hd:Nat.blt d nt=true)(hg:ax ops ⟨some d,.assign x,ty,pos,af,g⟩ t=some true)(hx:ev t x=some v)(h:aW P bl ops rest ⟨nt,(d,v)::t,L⟩ K):
 aW P bl ops (⟨some d,.assign x,ty,pos,af,g⟩::rest) ⟨nt,t,L⟩ K:=gq hd hg rfl (Zf rfl hx) h
def qcO{c x y:Operand}{v:Value}(hd:Nat.blt d nt=true)(hg:ax ops ⟨some d,.pick c x y,ty,pos,af,g⟩ t=some true)(hc:ev t c=some (.bool true))(hx:ev t x=some v)(h:aW P bl ops rest ⟨nt,(d,v)::t,L⟩ K):
 aW P bl ops (⟨some d,.pick c x y,ty,pos,af,g⟩::rest) ⟨nt,t,L⟩ K:=gq hd hg rfl (Zg (b:=true) rfl hc hx) h
def qcP{c x y:Operand}{v:Value}(hd:Nat.blt d nt=true)(hg:ax ops ⟨some d,.pick c x y,ty,pos,af,g⟩ t=some true)(hc:ev t c=some (.bool false))(hx:ev t y=some v)(h:aW P bl ops rest ⟨nt,(d,v)::t,L⟩ K):
 aW P bl ops (⟨some d,.pick c x y,ty,pos,af,g⟩::rest) ⟨nt,t,L⟩ K:=gq hd hg rfl (Zg (b:=false) rfl hc hx) h
def aO{T:Nat}{x:Operand}{i:TI}{b:aG}{v:Value}(k off:Nat)(vs:List Value)(hd:Nat.blt d nt=true)(hg:ax ops ⟨some d,.load T x,ty,pos,af,g⟩ t=some true)(hk:(blank bl L)[k]? =some b)(hx:ev t x=some (b.at off))(hi:eP P T i=true)
 (hvs:(b.cs.drop off).take i.size=vs)(hlen:vs.length=i.size)(hpos:Nat.blt 0 i.size=true)(hv:(bif i.agg then some (.agg vs.toArray) else vs[0]?)=some v)(h:aW P bl ops rest ⟨nt,(d,v)::t,L⟩ K):
 aW P bl ops (⟨some d,.load T x,ty,pos,af,g⟩::rest) ⟨nt,t,L⟩ K:=gq hd hg rfl (Zh rfl k hk hx hi hvs hlen (by simpa using hpos) hv) h
def QE{T:Nat}{x:Operand}{j:Nat}{i:TI}{b:aG}{gg:Nat}(k off fo:Nat){fs:Nat}(hd:Nat.blt d nt=true)(hg:ax ops ⟨some d,.fieldAddr T x j,ty,pos,af,g⟩ t=some true)(hk:(blank bl L)[k]? =some b)(hb:b.base=some gg)(hx:ev t x=some (.pointer (some ⟨gg,off,none⟩)))(hi:eP P T i=true)
 (hf:i.flds[j]? =some (fo,fs+1)){off':Nat}(ho:off+fo=off')(h:aW P bl ops rest ⟨nt,(d,.pointer (some ⟨gg,off',none⟩))::t,L⟩ K):
 aW P bl ops (⟨some d,.fieldAddr T x j,ty,pos,af,g⟩::rest) ⟨nt,t,L⟩ K:=by
 refine gq hd hg rfl (QC (s:=St.bk ⟨nt,t,L⟩ bl) (off:=off) rfl k hk (by show ev t x=_;rw[hx];unfold aG.at;rw[hb];rfl) (by rw[hb];rfl) hi hf) ?_;unfold aG.at;rw[hb,ho];exact h
def qko{o:Oper}(hdst:o.dst=some d)(hd:Nat.blt d nt=true)(hg:ax ops o t=some false)(h:aW P bl ops rest ⟨nt,(d,undef)::t,L⟩ K):aW P bl ops (o::rest) ⟨nt,t,L⟩ K:=
 qgk (by rw[hdst];exact hd) hg (by rw[hdst];exact h)
def qfA{T:Nat}{x:Operand}{v:Value}(cs:List Value)(n:Nat)(mk:Nat->List aG)(hd:Nat.blt d nt=true)(hg:ax ops ⟨some d,.box T x,ty,pos,af,g⟩ t=some true)(hx:ev t x=some v)(hcs:v.cells.toList=cs)(hn:v.cells.size=n)
 (hL:∀b,L++[⟨some b,T,cs,n,true⟩]=mk b)(h:∀b,aW P bl ops rest ⟨nt,(d,.pointer (some ⟨b,0,none⟩))::t,mk b⟩ K)(hT:Nat.blt T dC=true:=by rfl):aW P bl ops (⟨some d,.box T x,ty,pos,af,g⟩::rest) ⟨nt,t,L⟩ K:=
 MM hd hg rfl rfl (fun hd'=>qiw (by simpa using hT) hd' rfl hx) fun b=>by
  subst hcs;subst hn;have:=h b;rw[<-hL b] at this;exact this
def Vw{T:Nat}{z:Value}(cs:List Value)(n:Nat)(mk:Nat->List aG)(hd:Nat.blt d nt=true)(hg:ax ops ⟨some d,.alloc T,ty,pos,af,g⟩ t=some true)(hz:(P.info? T).bind (·.zero)=some z)(hcs:z.cells.toList=cs)(hn:z.cells.size=n)
 (hL:∀b,L++[⟨some b,T,cs,n,true⟩]=mk b)(h:∀b,aW P bl ops rest ⟨nt,(d,.pointer (some ⟨b,0,none⟩))::t,mk b⟩ K)(hT:Nat.blt T dC=true:=by rfl):aW P bl ops (⟨some d,.alloc T,ty,pos,af,g⟩::rest) ⟨nt,t,L⟩ K:=
 Zm (e:=T) (cs:=z.cells) hd hg rfl (Xv (by simpa using hT) rfl hz) fun b=>by
  subst hcs;subst hn;have:=h b;rw[<-hL b] at this;exact this
def pO(hbl:FM bl=false){T:Nat}{x y:Operand}{i:TI}{gg e n:Nat}{cs:List Value}{v:Value}(k off:Nat)(L':List aG)(cs':List Value)(hg:ax ops ⟨none,.store T x y,ty,pos,af,g⟩ t=some true)(hk:L[k]? =some ⟨some gg,e,cs,n,true⟩)(hx:ev t x=some (.pointer (some ⟨gg,off,none⟩)))
 (hy:ev t y=some v)(hi:eP P T i=true)(hsz:v.cells.size=i.size)(hfit:Nat.ble (off+i.size) cs.length=true)(h1:(v.cells.toList.all fun u=>u.oneCell')=true)(hcs:cs.take off++v.cells.toList++cs.drop (off+i.size)=cs')(hL:L.set k ⟨some gg,e,cs',n,true⟩=L')
 (h:aW P bl ops rest ⟨nt,t,L'⟩ K)(hpos:Nat.blt 0 i.size=true:=by rfl):aW P bl ops (⟨none,.store T x y,ty,pos,af,g⟩::rest) ⟨nt,t,L⟩ K:=
 Vu hg rfl rfl (by
 subst hcs;subst hL;exact Ef (s:=⟨nt,t,L⟩) rfl k hk rfl (by rw[hx];rfl) rfl hy hi hsz (by simpa using hpos) (by simpa using hfit) h1) (fun h2=>by rw[hbl] at h2;cases h2) h
def mW{T:Nat}{x y:Operand}{i:TI}{gg e n:Nat}{cs:List Value}{v:Value}(k off:Nat)(L':List aG)(cs':List Value)(hg:ax ops ⟨none,.store T x y,ty,pos,af,g⟩ t=some true)(hk:L[k]? =some ⟨some gg,e,cs,n,true⟩)(hx:ev t x=some (.pointer (some ⟨gg,off,none⟩)))
 (hy:ev t y=some v)(hi:eP P T i=true)(hsz:v.cells.size=i.size)(hfit:Nat.ble (off+i.size) cs.length=true)(h1:(v.cells.toList.all fun u=>u.oneCell')=true)(hcs:cs.take off++v.cells.toList++cs.drop (off+i.size)=cs')(hL:L.set k ⟨some gg,e,cs',n,true⟩=L')(hb:blank bl L'=blank bl L)
 (h:aW P bl ops rest ⟨nt,t,L'⟩ K)(hpos:Nat.blt 0 i.size=true:=by rfl):aW P bl ops (⟨none,.store T x y,ty,pos,af,g⟩::rest) ⟨nt,t,L⟩ K:=
 Vu hg rfl rfl (by
 subst hcs;subst hL;exact Ef (s:=⟨nt,t,L⟩) rfl k hk rfl (by rw[hx];rfl) rfl hy hi hsz (by simpa using hpos) (by simpa using hfit) h1) (fun _=>hb) h
def dE{f:Nat}{args:List Operand}{ts:Array TypeId}(vs:List Value){v:Value}(hd:Nat.blt d nt=true)(hg:ax ops ⟨some d,.call {callee:= .value (.func f),args:=args.toArray,argTypes:=ts},ty,pos,af,g⟩ t=some true)
 (hv:args.map (ev t)=vs.map some)(hc:aP P f vs.toArray v)(h:aW P bl ops rest ⟨nt,(d,v)::t,L⟩ K):
 aW P bl ops (⟨some d,.call {callee:= .value (.func f),args:=args.toArray,argTypes:=ts},ty,pos,af,g⟩::rest) ⟨nt,t,L⟩ K:=
 Eg hd hg rfl (qgl (s:=⟨nt,t,L⟩) rfl hv hc) (fun _=>⟨qcN (s:=⟨nt,t,L⟩) rfl hv hc,⟨()⟩⟩) fun _=>by
  have:L++([]:List aG)=L:=List.append_nil L;show aW P bl ops rest ⟨nt,(d,v)::t,L++[]⟩ K;rw[this];exact h
theorem Zo{T:Nat}(hT:P.underlying T=some .bool)(m n:Bool)(w:World):(binOp .eql T (.bool m) (.bool n)).run P w= .ok (.bool (m==n)) w:=by
 have:=run_equalIn_bool w 9999 T m n hT;simp only[binOp,Op.equal,Op.maxDepth,Sem.run_bind,this,Result.andThen_ok,Sem.run_pure]
theorem Zp{T:Nat}(hT:P.underlying T=some .bool)(m n:Bool)(w:World):(binOp .neq T (.bool m) (.bool n)).run P w= .ok (.bool (m !=n)) w:=by
 have:=run_equalIn_bool w 9999 T m n hT;simp only[binOp,Op.equal,Op.maxDepth,Sem.run_bind,this,Result.andThen_ok,Sem.run_pure]
 rfl
section
variable{x y:Operand}(hd:Nat.blt d nt=true)
def qix{T:Nat}{b:Bool}(hd:Nat.blt d nt=true)(hg:ax ops ⟨some d,.unOp .not T x,ty,pos,af,g⟩ t=some true)(hx:ev t x=some (.bool b))(h:aW P bl ops rest ⟨nt,(d,.bool (!b))::t,L⟩ K):
 aW P bl ops (⟨some d,.unOp .not T x,ty,pos,af,g⟩::rest) ⟨nt,t,L⟩ K:=
 gq hd hg rfl (fun B a w hr=>by simp[execOp,hr.ev hx,Op.unary]) h
def FP{i:Nat}{vs:List Value}{v:Value}(hd:Nat.blt d nt=true)(hg:ax ops ⟨some d,.extract x i,ty,pos,af,g⟩ t=some true)(hx:ev t x=some (.tuple vs.toArray))(hv:vs[i]? =some v)(h:aW P bl ops rest ⟨nt,(d,v)::t,L⟩ K):
 aW P bl ops (⟨some d,.extract x i,ty,pos,af,g⟩::rest) ⟨nt,t,L⟩ K:=
 gq hd hg rfl (fun B a w hr=>by simp[execOp,hr.ev hx,Instr.extract,hv]) h (fun _=>by unfold nX;simp[hx,hv])
def Zq{op:BinOp}{T U:Nat}{k:IntKind}{m n:Int}{r:Bool}(hd:Nat.blt d nt=true)(hg:ax ops ⟨some d,.binOp op T x y U,ty,pos,af,g⟩ t=some true)(hx:ev t x=some (.int k m))(hy:ev t y=some (.int k n))
 (hr:(match op with| .eql=>some (m==n)| .neq=>some (m !=n)| .lss=>some (decide (m<n))| .leq=>some (decide (m<=n))| .gtr=>some (decide (n<m))| .geq=>some (decide (n<=m))|_=>none)=some r)(h:aW P bl ops rest ⟨nt,(d,.bool r)::t,L⟩ K):
 aW P bl ops (⟨some d,.binOp op T x y U,ty,pos,af,g⟩::rest) ⟨nt,t,L⟩ K:=
 gq hd hg rfl (fun B a w hrel=>by
 have h1:=hrel.ev hx;have h2:=hrel.ev hy;cases op<;>simp at hr<;>subst hr<;>simp[execOp,h1,h2,eqGuard,binOp,Op.intCmp]) h
def FQ{T U:Nat}{m n:Bool}(hd:Nat.blt d nt=true)(hT:P.underlying T=some .bool)(hg:ax ops ⟨some d,.binOp .eql T x y U,ty,pos,af,g⟩ t=some true)(hx:ev t x=some (.bool m))(hy:ev t y=some (.bool n))
 (h:aW P bl ops rest ⟨nt,(d,.bool (m==n))::t,L⟩ K):aW P bl ops (⟨some d,.binOp .eql T x y U,ty,pos,af,g⟩::rest) ⟨nt,t,L⟩ K:=
 gq hd hg rfl (fun B a w hrel=>by
 simp[execOp,hrel.ev hx,hrel.ev hy,eqGuard,Zo hT]) h
def pq{T U:Nat}{m n:Bool}(hd:Nat.blt d nt=true)(hT:P.underlying T=some .bool)(hg:ax ops ⟨some d,.binOp .neq T x y U,ty,pos,af,g⟩ t=some true)(hx:ev t x=some (.bool m))(hy:ev t y=some (.bool n))
 (h:aW P bl ops rest ⟨nt,(d,.bool (m !=n))::t,L⟩ K):aW P bl ops (⟨some d,.binOp .neq T x y U,ty,pos,af,g⟩::rest) ⟨nt,t,L⟩ K:=
 gq hd hg rfl (fun B a w hrel=>by
 simp[execOp,hrel.ev hx,hrel.ev hy,eqGuard,Zp hT]) h
def Zr{T U:Nat}{m n:ByteArray}(hd:Nat.blt d nt=true)(hg:ax ops ⟨some d,.binOp .eql T x y U,ty,pos,af,g⟩ t=some true)(hx:ev t x=some (.string m))(hy:ev t y=some (.string n))
 (h:aW P bl ops rest ⟨nt,(d,.bool (m==n))::t,L⟩ K):aW P bl ops (⟨some d,.binOp .eql T x y U,ty,pos,af,g⟩::rest) ⟨nt,t,L⟩ K:=
 gq hd hg rfl (fun B a w hrel=>by
 simp[execOp,hrel.ev hx,hrel.ev hy,eqGuard,binOp,Op.stringOp,beq_toListBytes]) h
def Zt{T U:Nat}{m n:ByteArray}(hd:Nat.blt d nt=true)(hg:ax ops ⟨some d,.binOp .neq T x y U,ty,pos,af,g⟩ t=some true)(hx:ev t x=some (.string m))(hy:ev t y=some (.string n))
 (h:aW P bl ops rest ⟨nt,(d,.bool (m !=n))::t,L⟩ K):aW P bl ops (⟨some d,.binOp .neq T x y U,ty,pos,af,g⟩::rest) ⟨nt,t,L⟩ K:=
 gq hd hg rfl (fun B a w hrel=>by
 simp[execOp,hrel.ev hx,hrel.ev hy,eqGuard,binOp,Op.stringOp,bne,beq_toListBytes]) h
def gu{T U:Nat}{m n:Array Value}{r:Bool}(hd:Nat.blt d nt=true)(hg:ax ops ⟨some d,.binOp .eql T x y U,ty,pos,af,g⟩ t=some true)(hx:ev t x=some (.agg m))(hy:ev t y=some (.agg n))(hm:P.eqGuardType P.depth T=false)
 (hr:∀w,(Op.equalIn 10000 T (.agg m) (.agg n)).run P w= .ok r w)(h:aW P bl ops rest ⟨nt,(d,.bool r)::t,L⟩ K):aW P bl ops (⟨some d,.binOp .eql T x y U,ty,pos,af,g⟩::rest) ⟨nt,t,L⟩ K:=
 gq hd hg rfl (fun B a w hrel=>by
 simp[execOp,hrel.ev hx,hrel.ev hy,run_eqGuard_agg w .eql T x y m n hm,run_eql_struct w T m n,hr w]) h
def xM{T U:Nat}{m n:Array Value}{r:Bool}(hd:Nat.blt d nt=true)(hg:ax ops ⟨some d,.binOp .neq T x y U,ty,pos,af,g⟩ t=some true)(hx:ev t x=some (.agg m))(hy:ev t y=some (.agg n))(hm:P.eqGuardType P.depth T=false)
 (hr:∀w,(Op.equalIn 10000 T (.agg m) (.agg n)).run P w= .ok r w)(h:aW P bl ops rest ⟨nt,(d,.bool (!r))::t,L⟩ K):aW P bl ops (⟨some d,.binOp .neq T x y U,ty,pos,af,g⟩::rest) ⟨nt,t,L⟩ K:=
 gq hd hg rfl (fun B a w hrel=>by
 simp[execOp,hrel.ev hx,hrel.ev hy,run_eqGuard_agg w .neq T x y m n hm,run_neq_struct w T m n,hr w]) h
def qcQ{T:Nat}{parts:List (Nat×Operand)}(ps:List (Nat×Value)){v:Value}(hd:Nat.blt d nt=true)(hg:ax ops ⟨some d,.build T parts.toArray,ty,pos,af,g⟩ t=some true)(hx:parts.map (fun p=>(p.1,ev t p.2))=ps.map (fun p=>(p.1,some p.2)))
 (hb:∀w,(Instr.build T ps.toArray).run P w= .ok v w)(h:aW P bl ops rest ⟨nt,(d,v)::t,L⟩ K):aW P bl ops (⟨some d,.build T parts.toArray,ty,pos,af,g⟩::rest) ⟨nt,t,L⟩ K:=
 gq hd hg rfl (fun B a w hrel=>by
 have:(parts.map fun p=>(p.1,a.eval p.2))=ps:=by
  clear h hb hg
  induction parts generalizing ps with
  |nil=>cases ps<;>simp_all
  |cons p parts ih=>
   cases ps with
   |nil=>simp at hx
   |cons q ps=>
    simp only[List.map_cons,List.cons.injEq,Prod.mk.injEq] at hx;rw[List.map_cons,hrel.ev hx.1.2,ih ps hx.2,hx.1.1]
 simp[execOp,this,hb w]) h (fun _=>by unfold nX;show(kR t parts).bind _=_;rw[Dh hx];exact Qw hb)
def qiy{T:Nat}{s:ByteArray}(hd:Nat.blt d nt=true)(hT:P.underlying T=some .string)(hg:ax ops ⟨some d,.call {callee:= .builtin .len,args:= #[x],argTypes:= #[T]},ty,pos,af,g⟩ t=some true)(hx:ev t x=some (.string s))(h:aW P bl ops rest ⟨nt,(d,.int .i64 s.size)::t,L⟩ K):
 aW P bl ops (⟨some d,.call {callee:= .builtin .len,args:= #[x],argTypes:= #[T]},ty,pos,af,g⟩::rest) ⟨nt,t,L⟩ K:=
 gq hd hg rfl (fun B a w hrel=>by
 have:=run_len_string (P:=P) w T ty s hT;simp[execOp,resolve,invoke,builtin,hrel.ev hx,this,goInt]) h
def Zu{T:Nat}{k:IntKind}{n r:Int}(hd:Nat.blt d nt=true)(hg:ax ops ⟨some d,.unOp .neg T x,ty,pos,af,g⟩ t=some true)(hx:ev t x=some (.int k n))(hr:k.wrap (0-n)=r)(h:aW P bl ops rest ⟨nt,(d,.int k r)::t,L⟩ K):
 aW P bl ops (⟨some d,.unOp .neg T x,ty,pos,af,g⟩::rest) ⟨nt,t,L⟩ K:=
 gq hd hg rfl (fun B a w hrel=>by simp[execOp,hrel.ev hx,Op.unary,Op.intArith];simpa using hr) h
def Vx{op:BinOp}{T U:Nat}{k:IntKind}{m n r:Int}(hd:Nat.blt d nt=true)(hg:ax ops ⟨some d,.binOp op T x y U,ty,pos,af,g⟩ t=some true)(hx:ev t x=some (.int k m))(hy:ev t y=some (.int k n))
 (hr:(match op with| .add=>some (k.wrap (m+n))| .sub=>some (k.wrap (m-n))| .mul=>some (k.wrap (m*n))|_=>none)=some r)(h:aW P bl ops rest ⟨nt,(d,.int k r)::t,L⟩ K):
 aW P bl ops (⟨some d,.binOp op T x y U,ty,pos,af,g⟩::rest) ⟨nt,t,L⟩ K:=
 gq hd hg rfl (fun B a w hrel=>by
 have h1:=hrel.ev hx;have h2:=hrel.ev hy;cases op<;>simp at hr<;>subst hr<;>simp[execOp,h1,h2,eqGuard,binOp,Op.intArith]) h
end
end
end Go.Via
namespace Go.Via
variable[Mo]
open Go Go.RowKit
def Zv{B:Bs}{X:Act->World->Prop}:KC (fun s'=>At B s' X):=fun _ _ he h a w hr=>h a w (he.symm.rel hr)
def Ei{P:Program}{bl:List Nat}{ops:Array Oper}{nt:Nat}{t:List (Nat×Value)}{L:List aG}{B:Bs}{X:Act->World->Prop}{l:List Oper}{b:Bool}(d:Nat)(hx:look t d=some (.bool b))
 (hT:b=true->aW P bl ops l ⟨nt,(d,.bool true)::t,L⟩ (fun s'=>At B s' X))(hF:b=false->aW P bl ops l ⟨nt,(d,.bool false)::t,L⟩ (fun s'=>At B s' X)):aW P bl ops l ⟨nt,t,L⟩ (fun s'=>At B s' X):=by
 have key:∀c:Bool,b=c->Dj ⟨nt,(d,.bool c)::t,L⟩ ⟨nt,t,L⟩:=fun c hc=>⟨rfl,rfl,fun k=>by
 by_cases e:d=k
 ·subst e;rw[fB,<-hc];exact hx.symm
 ·rw[dA e]⟩
 cases hb:b
 ·exact aW.kc Zv l _ _ (key false hb) (hF hb)
 ·exact aW.kc Zv l _ _ (key true hb) (hT hb)
def aT{P:Program}{bl:List Nat}{ops:Array Oper}{nt:Nat}{t:List (Nat×Value)}{L:List aG}{B:Bs}{X:Act->World->Prop}{l:List Oper}{v:Value}(d:Nat)(v':Value)(hx:look t d=some v)(hv:v=v')
 (h:aW P bl ops l ⟨nt,(d,v')::t,L⟩ (fun s'=>At B s' X)):aW P bl ops l ⟨nt,t,L⟩ (fun s'=>At B s' X):=by
 refine aW.kc Zv l ⟨nt,(d,v')::t,L⟩ _ ⟨rfl,rfl,fun k=>?_⟩ h
 by_cases e:d=k
 ·subst e;rw[fB,<-hv];exact hx.symm
 ·rw[dA e]
section
variable{B:Bs}{s:St}{k:Act->World->Prop}{Q:Exit->Act->World->Prop}{id id':Nat}
def qiz(h:At B s k):At B s (Exit.then k Q .normal):=h
def qiA(h:At B s (Q .ret)):At B s (Exit.then k Q .ret):=h
def qiB(h:At B s (Q (.exit id))):At B s (Exit.then k Q (.exit id)):=h
def qiC(h:At B s (Q .normal)):At B s (Exit.inBlock id Q .normal):=h
def qiD(h:At B s (Q .ret)):At B s (Exit.inBlock id Q .ret):=h
def qiE(h:At B s (Q .normal)):At B s (Exit.inBlock id Q (.exit id)):=fun a w hr=>by
 show if id=id then _ else _
 rw[if_pos rfl];exact h a w hr
def OM(hne:(id'==id)=false)(h:At B s (Q (.exit id'))):At B s (Exit.inBlock id Q (.exit id')):=fun a w hr=>by
 show if id'=id then _ else _
 rw[if_neg (by simpa using hne)];exact h a w hr
end
end Go.Via
namespace Go.Via
variable[Mo]
open Go Go.RowKit
def NV(k:IntKind)(l:List Nat):List Value:=l.map fun(d:Nat)=>Value.int k (d:Int)
theorem aA(k:IntKind)(l:List Nat):(NV k l).length=l.length:=by simp[NV]
def bn{k:IntKind}{l:List Nat}{i d:Nat}(h:l[i]? =some d):(NV k l)[i]? =some (.int k (d:Int)):=by simp[NV,h]
theorem dG(k:IntKind)(l:List Nat)(i d:Nat):(NV k l).set i (.int k (d:Int))=NV k (l.set i d):=by simp[NV,List.map_set]
theorem MN(k:IntKind)(l m:List Nat):NV k l++NV k m=NV k (l++m):=by simp[NV]
theorem Ej(k:IntKind)(l:List Nat)(n:Nat):(NV k l).take n=NV k (l.take n):=by simp[NV,List.map_take]
theorem Vy(k:IntKind)(l:List Nat)(n:Nat):(NV k l).drop n=NV k (l.drop n):=by simp[NV,List.map_drop]
theorem fC(k:IntKind)(n:Nat):List.replicate n (Value.int k 0)=NV k (List.replicate n 0):=by simp[NV]
structure SR(len:Nat) where
 b:Option Nat
 n:Nat
 cap:Nat
 h:len<=cap
instance{len:Nat}:Nonempty (SR len):=⟨⟨none,0,len,Nat.le_refl _⟩⟩
def az(b:Option Nat)(off len cap:Nat):Value:= .slice (b.map fun g=>⟨g,off,none⟩) len cap
def SR.v{len:Nat}(x:SR len):Value:=az x.b 0 len x.cap
def aG.le(b' b:aG):Prop:=b'.base=b.base∧b'.e=b.e∧b'.n=b.n∧(∃k,b'.cs=b.cs.take k)∧(b'.own=true->b.own=true)
theorem aG.le_refl(b:aG):b.le b:=⟨rfl,rfl,rfl,⟨b.cs.length,by simp⟩,id⟩
def rY.le{B:Bs}{w:World}{b b':aG}{g:Nat}(h:rY B w b g)(hl:b'.le b):rY B w b' g:=by
 obtain⟨h0,h4⟩:=h;obtain⟨l1,l2,l3,⟨k,l4⟩,l5⟩:=hl;refine⟨?_,fun ho=>h4 (l5 ho)⟩
 rcases h0 with⟨cur,⟨e',fr,h1,hfr,hlt⟩,h2,h3⟩|⟨l,es,c,a1,a2,a3,a4,a5⟩
 ·refine .inl ⟨cur,⟨e',fr,h1,fun ho=>⟨by rw[l2];exact(hfr (l5 ho)).1,(hfr (l5 ho)).2⟩,by rw[l2];exact hlt⟩,by rw[l3];exact h2,?_⟩
  rw[l4,List.length_take,<-List.take_take,h3]
 ·exact .inr ⟨l,es,c,by rw[l2];exact a1,by rw[l4,a2];simp,by rw[l3];exact a3,a4,a5⟩
def jr(L:List aG):List (Option Nat)->List aG->Prop
 |[],[]=>True
 |some k::ks,b'::L'=>(∃b,L[k]? =some b∧b'.le b)∧jr L ks L'
 |none::ks,b'::L'=>(b'.base=none∧b'.cs=[]∧(b'.n==0&&Nat.blt b'.e dC)=true)∧jr L ks L'
 |_,_=>False
def lW:List (Option Nat)->List Bool->Bool
 |some k::ks,true::os=> !ks.contains (some k)&&lW ks os
 |some k::ks,false::os=>((ks.zip os).all fun p=> !(p.2&&p.1==some k))&&lW ks os
 |none::ks,_::os=>lW ks os
 |_,_=>true
theorem jr.get{L:List aG}:∀{ks:List (Option Nat)} {L':List aG},jr L ks L'->∀(i:Nat) (b':aG),L'[i]? =some b'->
 (∃k b,ks[i]? =some (some k)∧L[k]? =some b∧b'.le b)∨(ks[i]? =some none∧b'.base=none∧b'.cs=[]∧(b'.n==0&&Nat.blt b'.e dC)=true)
 |[],[],_,i,b',h=>by simp at h
 |some k::ks,c::L',hp,i,b',h=>by
  cases i with
  |zero=>simp at h;subst h;obtain⟨⟨b,h1,h2⟩,_⟩:=hp;exact .inl ⟨k,b,by simp,h1,h2⟩
  |succ i=>simp at h;simpa using jr.get hp.2 i b' h
 |none::ks,c::L',hp,i,b',h=>by
  cases i with
  |zero=>simp at h;subst h;exact .inr ⟨by simp,hp.1⟩
  |succ i=>simp at h;simpa using jr.get hp.2 i b' h
 |some _::_,[],hp,i,b',h=>by simp at h
 |none::_,[],hp,i,b',h=>by simp at h
 |[],_::_,hp,i,b',h=>hp.elim
def vY:∀{ks:List (Option Nat)} {os:List Bool},ks.length=os.length->lW ks os=true->∀(i j k:Nat),i≠j->ks[i]? =some (some k)->ks[j]? =some (some k)->os[i]? =some true->False
 |[],_,_,_,i,j,k,_,h,_,_=>by simp at h
 |some m::ks,true::os,hl,ha,i,j,k,hij,h1,h2,h3=>by
  simp only[lW,Bool.and_eq_true,Bool.not_eq_true',List.contains_eq_mem,decide_eq_false_iff_not] at ha;have hl':ks.length=os.length:=by simpa using hl
  cases i with
  |zero=>
   cases j with
   |zero=>exact hij rfl
   |succ j=>
    simp at h1 h2;subst h1;exact ha.1 (List.mem_of_getElem? h2)
  |succ i=>
   cases j with
   |zero=>simp at h1 h2;subst h2;exact ha.1 (List.mem_of_getElem? h1)
   |succ j=>simp at h1 h2 h3;exact vY hl' ha.2 i j k (by omega) h1 h2 h3
 |some m::ks,false::os,hl,ha,i,j,k,hij,h1,h2,h3=>by
  simp only[lW,Bool.and_eq_true,List.all_eq_true] at ha;have hl':ks.length=os.length:=by simpa using hl
  cases i with
  |zero=>simp at h3
  |succ i=>
   cases j with
   |zero=>
    simp at h1 h2 h3;subst h2;have hm:(some m,true)∈ks.zip os:=List.mem_of_getElem? (i:=i) (by rw[List.getElem?_zip_eq_some];exact⟨h1,h3⟩);have:=ha.1 _ hm;simp at this
   |succ j=>simp at h1 h2 h3;exact vY hl' ha.2 i j k (by omega) h1 h2 h3
 |none::ks,o::os,hl,ha,i,j,k,hij,h1,h2,h3=>by
  have hl':ks.length=os.length:=(by simpa using hl);cases i with
  |zero=>simp at h1
  |succ i=>
   cases j with
   |zero=>simp at h2
   |succ j=>simp at h1 h2 h3;exact vY hl' ha i j k (by omega) h1 h2 h3
 |some _::_,[],hl,_,i,j,k,_,_,_,_=>by simp at hl
 |none::_,[],hl,_,i,j,k,_,_,_,_=>by simp at hl
def bf.picks{B:Bs}{w:World}{L L':List aG}(h:bf B L w)(ks:List (Option Nat))(hp:jr L ks L')(hl:ks.length=L'.length)(ha:lW ks (L'.map (·.own))=true)
 :bf B L' w:=by
 refine⟨h.bel,fun k b hk=>?_,fun i j g bi bj hij hi hj ho hg hgj=>?_,h.grp.sub (fun b hb hn=>?_) (fun c hc ho g hg=>?_)⟩
 rotate_left 2
 ·obtain⟨k,hk⟩:=List.mem_iff_getElem?.1 hb;rcases hp.get k b hk with⟨m,c,_,h2,h3⟩|⟨_,h2,_,h3⟩
  ·exact .inr ⟨c,List.mem_of_getElem? h2,by rw[<-h3.1];exact hn,h3.2.1.symm,h3.2.2.2.2⟩
  ·simp only[Bool.and_eq_true,Nat.blt_eq] at h3;exact .inl h3.2
 ·obtain⟨k,hk⟩:=List.mem_iff_getElem?.1 hc;rcases hp.get k c hk with⟨m,c',_,h2,h3⟩|⟨_,h2,_⟩
  ·exact⟨c',List.mem_of_getElem? h2,h3.2.2.2.2 ho,by rw[<-h3.1];exact hg⟩
  ·rw[h2] at hg;cases hg
 ·rcases hp.get k b hk with⟨m,c,_,h2,h3⟩|⟨_,h2,h3⟩
  ·obtain⟨a1,a2⟩:=h.blk m c h2;refine⟨fun g hg=>(a1 g (by rw[<-h3.1];exact hg)).le h3,fun hn=>?_⟩
   obtain⟨b1,b2⟩:=a2 (by rw[<-h3.1];exact hn);obtain⟨_,_,l3,⟨q,l4⟩,_⟩:=h3;exact⟨by rw[l4,b1];simp,by rw[l3];exact b2⟩
  ·exact⟨fun g hg=>(by rw[h2] at hg;cases hg),fun _=>⟨h3.1,by have:=h3.2;simp at this;exact this.1⟩⟩
 ·rcases hp.get i bi hi with⟨mi,ci,h1,h2,h3⟩|⟨_,h2,_⟩
  ·rcases hp.get j bj hj with⟨mj,cj,g1,g2,g3⟩|⟨_,g2,_⟩
   ·by_cases e:mi=mj
    ·subst e;exact vY (by simpa using hl) ha i j mi hij h1 g1 (by rw[List.getElem?_map,hi];simp[ho])
    ·exact h.apart mi mj g ci cj e h2 g2 (h3.2.2.2.2 ho) (by rw[<-h3.1];exact hg) (by rw[<-g3.1];exact hgj)
   ·rw[g2] at hgj;cases hgj
  ·rw[h2] at hg;cases hg
def eG(L L':List aG):Prop:=∀B w,bf B L w->bf B L' w
def eG.refl(L:List aG):eG L L:=fun _ _ h=>h
def au{L L':List aG}(ks:List (Option Nat))(hp:jr L ks L')(hl:ks.length=L'.length)(ha:lW ks (L'.map (·.own))=true):eG L L':=fun _ _ h=>h.picks ks hp hl ha
def aI{b:aG}{b':aG}(h:b'=b):b'.le b:=h▸b.le_refl
def mX{base:Option Nat}{e:TypeId}{cs:List Value}{n:Nat}{o:Bool}:aG.le ⟨base,e,cs,n,false⟩ ⟨base,e,cs,n,o⟩:=⟨rfl,rfl,rfl,⟨cs.length,by simp⟩,fun h=>by cases h⟩
def Vz{B:Bs}{X:Act->World->Prop}{nt:Nat}{t:List (Nat×Value)}{L:List aG}(L':List aG)(hw:eG L L')(h:At B ⟨nt,t,L'⟩ X):At B ⟨nt,t,L⟩ X:=fun a w hr=>h a w ⟨hr.df,hr.size,hr.tmp,hw _ _ hr.mem⟩
def dn{B:Bs}{X:Act->World->Prop}{nt:Nat}{t:List (Nat×Value)}{L:List aG}{v:Value}(d:Nat)(v':Value)(hx:look t d=some v)(hv:v=v')(h:At B ⟨nt,(d,v')::t,L⟩ X):At B ⟨nt,t,L⟩ X:=fun a w hr=>
 h a w ⟨hr.df,hr.size,fun k u hk=>by
 by_cases e:d=k
 ·subst e;rw[fB] at hk;cases hk;rw[<-hv];exact hr.tmp d v hx
 ·rw[dA e] at hk;exact hr.tmp k u hk,hr.mem⟩
def Zw{B:Bs}{nt:Nat}{t:List (Nat×Value)}{L:List aG}{ι:Type}{inv:ι->St}{μ:ι->Nat}{i:ι}(j:ι)(t':List (Nat×Value))(L':List aG)(hj:inv j=⟨nt,t',L'⟩)(hμ:μ j<μ i)(ht:∀p∈t',look t p.1=some p.2)(hL:eG L L'):
 At B ⟨nt,t,L⟩ (fun a' w'=>∃j,μ j<μ i∧lh B (inv j) a' w'):=fun a w hr=>by
 refine⟨j,hμ,?_⟩;rw[hj];exact(⟨hr.df,hr.size,hr.tmp,hL _ _ hr.mem⟩:lh B ⟨nt,t,L'⟩ a w).sub fun d v hd=>ht (d,v) (uG hd)
def Xy{P:Program}{B:Bs}{Q:Exit->Act->World->Prop}{nt:Nat}{t:List (Nat×Value)}{L:List aG}{ι:Type}{c:Code}(inv:ι->St)(μ:ι->Nat)(i₀:ι)(t':List (Nat×Value))(L':List aG)(h₀:inv i₀=⟨nt,t',L'⟩)(ht:∀p∈t',look t p.1=some p.2)(hL:eG L L')
 (round:∀i,At B (inv i) (c.wp P (Exit.then (fun a' w'=>∃j,μ j<μ i∧lh B (inv j) a' w') Q))):At B ⟨nt,t,L⟩ ((Code.loop c).wp P Q):=
 qcM inv μ i₀ (fun a w hr=>by rw[h₀];exact(⟨hr.df,hr.size,hr.tmp,hL _ _ hr.mem⟩:lh B ⟨nt,t,L'⟩ a w).sub fun d v hd=>ht (d,v) (uG hd)) round
def dh(P:Program)(f:Nat)(L:List aG)(args:List Value)(X:Type)(res:X->Value)(new:X->List aG):Prop:=
 ja P f=true∧∀w:World,bf w L w->Calls P f args.toArray w fun e w'=>∃x,e= .returned (res x)∧bf w (new x) w'
def bf.asArgs{B:Bs}{w:World}{L L':List aG}(h:bf B L w)(ks:List Nat)(hp:jr L (ks.map some) L')(ho:∀b∈L',b.own=false):bf w L' w:=by
 have hlen:∀{ks:List Nat} {L':List aG},jr L (ks.map some) L'->ks.length=L'.length:=by
  intro ks
  induction ks with
  |nil=>intro L' hp;cases L' with
   |nil=>rfl
   |cons c L'=>exact hp.elim
  |cons k ks ih=>intro L' hp;cases L' with
   |nil=>exact hp.elim
   |cons c L'=>simp[ih hp.2]
 refine⟨.of (fP.refl _ _),fun k b hk=>?_,fun i j g bi bj hij hi hj ho' hg hgj=>?_,fun b hb hn T hT he p hp'=>?_⟩
 rotate_left 2
 ·obtain⟨k,hk⟩:=List.mem_iff_getElem?.1 hb;refine⟨?_,(fun e=>by rw[ho b hb] at e;cases e),(fun c hc e=>by rw[ho c hc] at e;cases e)⟩;rcases hp.get k b hk with⟨m,c,_,h2,h3⟩|⟨_,h2,_,h3⟩
  ·exact(h.grp c (List.mem_of_getElem? h2) (by rw[<-h3.1];exact hn) T hT (by rw[<-h3.2.1];exact he) p hp').1
  ·simp only[Bool.and_eq_true,Nat.blt_eq] at h3;exact absurd (he▸h3.2) (Jd T)
 ·rcases hp.get k b hk with⟨m,c,_,h2,h3⟩|⟨_,h2,h3⟩
  ·obtain⟨a1,a2⟩:=h.blk m c h2;refine⟨fun g hg=>⟨((a1 g (by rw[<-h3.1];exact hg)).le h3).1,fun e=>?_⟩,fun hn=>?_⟩
   ·rw[ho b (List.mem_of_getElem? hk)] at e;cases e
   ·obtain⟨b1,b2⟩:=a2 (by rw[<-h3.1];exact hn);obtain⟨_,_,l3,⟨q,l4⟩,_⟩:=h3;exact⟨by rw[l4,b1];simp,by rw[l3];exact b2⟩
  ·exact⟨fun g hg=>(by rw[h2] at hg;cases hg),fun _=>⟨h3.1,by have:=h3.2;simp at this;exact this.1⟩⟩
 ·rw[ho bi (List.mem_of_getElem? hi)] at ho';cases ho'
section
variable{P:Program}{bl:List Nat}{ops:Array Oper}{K:St->Prop}{rest:List Oper}{nt:Nat}{t:List (Nat×Value)}{L:List aG}{d:Nat}{ty:TypeId}{pos:String}{af:Array Edge}{g:Option (Nat×Bool)}
def iO{f:Nat}{args:List Operand}{ts:Array TypeId}(vs:List Value){L0:List aG}{X:Type}[hX:Nonempty X]{res:X->Value}{new:X->List aG}(ks:List Nat)(hd:Nat.blt d nt=true)(hg:ax ops ⟨some d,.call {callee:= .value (.func f),args:=args.toArray,argTypes:=ts},ty,pos,af,g⟩ t=some true)
 (hv:args.map (ev t)=vs.map some)(hc:dh P f L0 vs X res new)(hp:jr L (ks.map some) L0)(ho:(L0.all fun b=> !b.own)=true)(hn:False∨∀x,∀b∈new x,b.own=true)
 (h:∀x,aW P bl ops rest ⟨nt,(d,res x)::t,L++new x⟩ K):
 aW P bl ops (⟨some d,.call {callee:= .value (.func f),args:=args.toArray,argTypes:=ts},ty,pos,af,g⟩::rest) ⟨nt,t,L⟩ K:=
 Eg hd hg rfl (X:=X) (res:=res) (new:=new) (qfz (s:=⟨nt,t,L⟩) rfl hv hc.1 fun B w hL=>(hc.2 w (hL.asArgs ks hp (fun b hb=>by simpa using List.all_eq_true.1 ho b hb))).mono (by
 rintro e w' ⟨x,rfl,hx⟩;exact⟨x,rfl,hL.joinF hx (hn.resolve_left id x)⟩)) (fun _=>⟨qgm (s:=⟨nt,t,L⟩) rfl hv hc.1 fun B w hL=>(hc.2 w (hL.asArgs ks hp (fun b hb=>by simpa using List.all_eq_true.1 ho b hb))).mono (by
 rintro e w' ⟨x,rfl,hx⟩;exact⟨x,rfl,hx,hn.resolve_left id x⟩),hX⟩) fun x=>h x
def iq{f:Nat}{args:List Operand}{ts:Array TypeId}(vs:List Value){L0:List aG}{v:Value}(ks:List Nat)(hd:Nat.blt d nt=true)(hg:ax ops ⟨some d,.call {callee:= .value (.func f),args:=args.toArray,argTypes:=ts},ty,pos,af,g⟩ t=some true)
 (hv:args.map (ev t)=vs.map some)(hc:dh P f L0 vs Unit (fun _=>v) (fun _=>[]))(hp:jr L (ks.map some) L0)(ho:(L0.all fun b=> !b.own)=true)
 (h:aW P bl ops rest ⟨nt,(d,v)::t,L⟩ K):
 aW P bl ops (⟨some d,.call {callee:= .value (.func f),args:=args.toArray,argTypes:=ts},ty,pos,af,g⟩::rest) ⟨nt,t,L⟩ K:=
 iO vs ks hd hg hv hc hp ho (.inr fun x b hb=>by cases hb) fun x=>by
  have:L++([]:List aG)=L:=List.append_nil L;show aW P bl ops rest ⟨nt,(d,v)::t,L++[]⟩ K;rw[this];exact h
end
end Go.Via
namespace Go.Via
variable[Mo]
open Go Go.RowKit
def wi{n r:Int}(h0: -9223372036854775808<=n)(h1:n<=9223372036854775807)(e:n=r):IntKind.i64.wrap n=r:=by rw[IntKind.wrap_i64];omega
def wu{n r:Int}(h0:0<=n)(h1:n<18446744073709551616)(e:n=r):IntKind.u64.wrap n=r:=by
 subst e;simp[IntKind.wrap,IntKind.bits,IntKind.signed];omega
theorem qcR(n:Int):IntKind.u64.wrap n=n%18446744073709551616:=by simp[IntKind.wrap,IntKind.bits,IntKind.signed]
theorem qcS(n:Int):IntKind.u32.wrap n=n%4294967296:=by simp[IntKind.wrap,IntKind.bits,IntKind.signed]
theorem wu8(n:Int):IntKind.u8.wrap n=n%256:=by simp[IntKind.wrap,IntKind.bits,IntKind.signed]
theorem TT:IntKind.u64.bits=64:=rfl
theorem TU:IntKind.u32.bits=32:=rfl
theorem Zx(b m n:Nat)(hm:m<2^b)(hn:n<2^b):((BitVec.ofInt b (m:Int)|||BitVec.ofInt b (n:Int)).toNat:Int)=((m|||n:Nat):Int):=by
 rw[BitVec.toNat_or,BitVec.ofInt_natCast,BitVec.ofInt_natCast,BitVec.toNat_ofNat,BitVec.toNat_ofNat,Nat.mod_eq_of_lt hm,Nat.mod_eq_of_lt hn]
theorem Zy{m n:Nat}(i:Nat)(hn:n<2^i):(2^i*m|||n)=2^i*m+n:=(Nat.two_pow_add_eq_or_of_lt hn m).symm
def qgo{m n r:Nat}(i:Nat)(hn:n<2^i)(hr:2^i*m+n=r)(hb:r<4294967296){x y:Int}(hx:x=((2^i*m:Nat):Int))(hy:y=(n:Int)):
 IntKind.u32.wrap ((BitVec.ofInt IntKind.u32.bits x|||BitVec.ofInt IntKind.u32.bits y).toNat)=(r:Int):=by
 subst hx;subst hy;rw[TU,Zx 32 _ _ (by omega) (by omega),Zy i hn,qcS];omega
def Jk{m n r:Nat}(i:Nat)(hn:n<2^i)(hr:2^i*m+n=r)(hb:r<18446744073709551616){x y:Int}(hx:x=((2^i*m:Nat):Int))(hy:y=(n:Int)):
 IntKind.u64.wrap ((BitVec.ofInt IntKind.u64.bits x|||BitVec.ofInt IntKind.u64.bits y).toNat)=(r:Int):=by
 subst hx;subst hy;rw[TT,Zx 64 _ _ (by omega) (by omega),Zy i hn,qcR];omega
section
variable{P:Program}{bl:List Nat}{ops:Array Oper}{K:St->Prop}{rest:List Oper}{nt:Nat}{t:List (Nat×Value)}{L:List aG}{d:Nat}{ty:TypeId}{pos:String}{af:Array Edge}{g:Option (Nat×Bool)}{x y:Operand}
def qiF{op:BinOp}{T U:Nat}{k:IntKind}{m n r:Int}(hd:Nat.blt d nt=true)(hg:ax ops ⟨some d,.binOp op T x y U,ty,pos,af,g⟩ t=some true)(hx:ev t x=some (.int k m))(hy:ev t y=some (.int k n))(hn:n≠0)
 (hr:(match op with| .quo=>some (k.wrap (m.tdiv n))| .rem=>some (m.tmod n)|_=>none)=some r)(h:aW P bl ops rest ⟨nt,(d,.int k r)::t,L⟩ K):
 aW P bl ops (⟨some d,.binOp op T x y U,ty,pos,af,g⟩::rest) ⟨nt,t,L⟩ K:=
 gq hd hg rfl (fun B a w hrel=>by
 have h1:=hrel.ev hx;have h2:=hrel.ev hy;cases op<;>simp at hr<;>subst hr<;>simp[execOp,h1,h2,eqGuard,binOp,Op.intDiv,hn]) h
def TV{T U:Nat}{k:IntKind}{m n r:Int}(hd:Nat.blt d nt=true)(hg:ax ops ⟨some d,.binOp .or T x y U,ty,pos,af,g⟩ t=some true)(hx:ev t x=some (.int k m))(hy:ev t y=some (.int k n))
 (hr:k.wrap ((BitVec.ofInt k.bits m|||BitVec.ofInt k.bits n).toNat)=r)(h:aW P bl ops rest ⟨nt,(d,.int k r)::t,L⟩ K):
 aW P bl ops (⟨some d,.binOp .or T x y U,ty,pos,af,g⟩::rest) ⟨nt,t,L⟩ K:=
 gq hd hg rfl (fun B a w hrel=>by
 have h1:=hrel.ev hx;have h2:=hrel.ev hy;subst hr;simp[execOp,h1,h2,eqGuard,binOp,Op.intBits]) h
def qcT{op:BinOp}{T U:Nat}{k k':IntKind}{m n r:Int}(hd:Nat.blt d nt=true)(hg:ax ops ⟨some d,.binOp op T x y U,ty,pos,af,g⟩ t=some true)(hx:ev t x=some (.int k m))(hy:ev t y=some (.int k' n))(hn:¬n<0)
 (hr:(match op with| .shl=>some (k.wrap (m*2^(min n.toNat k.bits)))| .shr=>some (m.fdiv (2^(min n.toNat k.bits)))|_=>none)=some r)(h:aW P bl ops rest ⟨nt,(d,.int k r)::t,L⟩ K):
 aW P bl ops (⟨some d,.binOp op T x y U,ty,pos,af,g⟩::rest) ⟨nt,t,L⟩ K:=
 gq hd hg rfl (fun B a w hrel=>by
 have h1:=hrel.ev hx;have h2:=hrel.ev hy;cases op<;>simp at hr<;>subst hr<;>simp[execOp,h1,h2,eqGuard,binOp,Op.shift,hn]) h
def qgp{S D:Nat}{k k':IntKind}{n r:Int}(hS:P.underlying S=some (.int k))(hD:P.underlying D=some (.int k'))(hd:Nat.blt d nt=true)(hg:ax ops ⟨some d,.convert S D x,ty,pos,af,g⟩ t=some true)(hx:ev t x=some (.int k n))(hr:k'.wrap n=r)
 (h:aW P bl ops rest ⟨nt,(d,.int k' r)::t,L⟩ K):aW P bl ops (⟨some d,.convert S D x,ty,pos,af,g⟩::rest) ⟨nt,t,L⟩ K:=
 gq hd hg rfl (fun B a w hrel=>by
 have h1:P.intKind D=k':=(by simp[Program.intKind,hD]);have h2:=run_convert_int (P:=P) w S D k n (by rw[hS];rfl) (by rw[h1];exact hD);rw[h1,hr] at h2;simp[execOp,hrel.ev hx,h2]) h
def zH{T:Nat}{s:ByteArray}{k:IntKind}{i:Int}{b:UInt8}{r:Int}(hT:P.underlying T=some .string)(hd:Nat.blt d nt=true)(hg:ax ops ⟨some d,.index T x y,ty,pos,af,g⟩ t=some true)(hx:ev t x=some (.string s))(hy:ev t y=some (.int k i))(hi:0<=i)
 (hb:s.data.toList[i.toNat]? =some b)(hr:(b.toNat:Int)=r)(h:aW P bl ops rest ⟨nt,(d,.int .u8 r)::t,L⟩ K):aW P bl ops (⟨some d,.index T x y,ty,pos,af,g⟩::rest) ⟨nt,t,L⟩ K:=
 gq hd hg rfl (fun B a w hrel=>by
 have h1:=run_index_string (P:=P) w T s k i hT;obtain⟨hlt,he⟩:=List.getElem?_eq_some_iff.1 hb;have hlt':i.toNat<s.size:=(by simpa using hlt);rw[dif_pos ⟨hi,by omega⟩] at h1;have h2:s[i.toNat]'hlt'=b:=he;rw[h2,hr] at h1;simp[execOp,hrel.ev hx,hrel.ev hy,h1]) h
def qgq{T e:Nat}{b:Option Nat}{off len cap:Nat}(hT:P.underlying T=some (.slice e))(hd:Nat.blt d nt=true)(hg:ax ops ⟨some d,.call {callee:= .builtin .len,args:= #[x],argTypes:= #[T]},ty,pos,af,g⟩ t=some true)(hx:ev t x=some (az b off len cap))(h:aW P bl ops rest ⟨nt,(d,.int .i64 len)::t,L⟩ K):
 aW P bl ops (⟨some d,.call {callee:= .builtin .len,args:= #[x],argTypes:= #[T]},ty,pos,af,g⟩::rest) ⟨nt,t,L⟩ K:=
 gq hd hg rfl (fun B a w hrel=>by
 have he:P.elem T=e:=(by simp[Program.elem,hT]);have:=run_len_slice (P:=P) w T ty (b.map fun g=>⟨g,off,none⟩) len cap (by rw[he];exact hT);have h2:=hrel.ev hx;unfold az at h2;simp[execOp,resolve,invoke,builtin,h2,this,goInt]) h
def ai{T e:Nat}{k:IntKind}{i:Int}{b:aG}{off len cap:Nat}{inf:TI}(kk off':Nat)(hT:P.underlying T=some (.slice e))(hinf:eP P e inf=true)(hd:Nat.blt d nt=true)(hg:ax ops ⟨some d,.indexAddr T x y,ty,pos,af,g⟩ t=some true)
 (hk:(blank bl L)[kk]? =some b)(hx:ev t x=some (az b.base off len cap))(hy:ev t y=some (.int k i))(h0:0<=i)(h1:i<len)(hb:b.cs≠[])(ho:off+i.toNat*inf.size=off')
 (h:aW P bl ops rest ⟨nt,(d,b.at off')::t,L⟩ K):aW P bl ops (⟨some d,.indexAddr T x y,ty,pos,af,g⟩::rest) ⟨nt,t,L⟩ K:=
 gq hd hg rfl (fun B a w hrel=>by
 have he:P.elem T=e:=(by simp[Program.elem,hT]);have h2:=hrel.ev hx;have h3:=hrel.ev hy;cases hbb:b.base with
 |none=>exact absurd ((hrel.mem.blk kk b hk).2 hbb).1 hb
 |some gg=>
  rw[hbb] at h2;have:=run_indexAt_slice (P:=P) w T ⟨gg,off,none⟩ len cap k i (by rw[he];exact hT);rw[if_pos ⟨h0,h1⟩,he,pg hinf w] at this;simp only[Result.andThen_ok,jW,ho] at this;unfold az at h2;simp only[Option.map_some] at h2;unfold aG.at;rw[hbb];simp[execOp,h2,h3,this]) h
def tY{T e N:Nat}{k:IntKind}{i:Int}{gg:Nat}{off:Nat}{inf:TI}(off':Nat)(hT:P.underlying T=some (.array N e))(hinf:eP P e inf=true)(hd:Nat.blt d nt=true)(hg:ax ops ⟨some d,.indexAddr T x y,ty,pos,af,g⟩ t=some true)
 (hx:ev t x=some (.pointer (some ⟨gg,off,none⟩)))(hy:ev t y=some (.int k i))(h0:0<=i)(h1:i<N)(ho:off+i.toNat*inf.size=off')
 (h:aW P bl ops rest ⟨nt,(d,.pointer (some ⟨gg,off',none⟩))::t,L⟩ K):aW P bl ops (⟨some d,.indexAddr T x y,ty,pos,af,g⟩::rest) ⟨nt,t,L⟩ K:=
 gq hd hg rfl (fun B a w hrel=>by
 have he:P.elem T=e:=(by simp[Program.elem,hT]);have hN:P.arrayLen T=N:=(by simp[Program.arrayLen,hT]);have h2:=hrel.ev hx;have h3:=hrel.ev hy;have:=run_indexAt_array (P:=P) w T ⟨gg,off,none⟩ k i (by rw[he,hN];exact hT);rw[hN,if_pos ⟨h0,h1⟩,he,pg hinf w] at this;simp only[Result.andThen_ok,jW,ho] at this;simp[execOp,h2,h3,this]) h
def OO{T:Nat}{b:aG}{v:Value}(k off:Nat)(hi:eP P T ⟨false,1,[]⟩=true)(hd:Nat.blt d nt=true)(hg:ax ops ⟨some d,.load T x,ty,pos,af,g⟩ t=some true)(hk:(blank bl L)[k]? =some b)(hx:ev t x=some (b.at off))
 (hv:b.cs[off]? =some v)(h:aW P bl ops rest ⟨nt,(d,v)::t,L⟩ K):
 aW P bl ops (⟨some d,.load T x,ty,pos,af,g⟩::rest) ⟨nt,t,L⟩ K:=by
 obtain⟨h1,h2⟩:=List.getElem?_eq_some_iff.1 hv;refine gq hd hg rfl (Zh (s:=St.bk ⟨nt,t,L⟩ bl) (vs:=[v]) rfl k hk hx hi ?_ rfl (by simp) rfl) h;rw[List.drop_eq_getElem_cons h1,h2];rfl
def Cj{l:List Value}{i:Nat}{v:Value}(h:i<l.length):l.take i++[v]++l.drop (i+1)=l.set i v:=by
 rw[List.set_eq_take_append_cons_drop,if_pos h];simp
def Zz(hbl:FM bl=false){T:Nat}{b:aG}{v:Value}(k off:Nat)(L':List aG)(cs':List Value)(hi:eP P T ⟨false,1,[]⟩=true)(hg:ax ops ⟨none,.store T x y,ty,pos,af,g⟩ t=some true)(hk:L[k]? =some b)(ho:b.own=true)(hbb:b.base.isSome=true)(hx:ev t x=some (b.at off))
 (hy:ev t y=some v)(hv:v.cells= #[v])(h1:v.oneCell'=true)(hfit:off<b.cs.length)(hcs:b.cs.set off v=cs')(hL:L.set k {b with cs:=cs'}=L')
 (h:aW P bl ops rest ⟨nt,t,L'⟩ K):aW P bl ops (⟨none,.store T x y,ty,pos,af,g⟩::rest) ⟨nt,t,L⟩ K:=
 Vu hg rfl rfl (by
 have h4:=Cj (v:=v) hfit;rw[hcs] at h4;have h5:=Ef (P:=P) (o:=⟨none,.store T x y,ty,pos,af,g⟩) (s:=⟨nt,t,L⟩) rfl k hk ho hx hbb hy hi (by rw[hv];rfl) (by decide) hfit (by rw[hv];simp[h1]);rw[hv] at h5;have h6:Za P ⟨none,.store T x y,ty,pos,af,g⟩ ⟨nt,t,L⟩ (L.set k {b with cs:=b.cs.take off++[v]++b.cs.drop (off+1)}):=h5
 rw[h4,hL] at h6;exact h6) (fun h2=>by rw[hbl] at h2;cases h2) h
def Xz{T:Nat}{b:aG}{v:Value}(k off:Nat)(L':List aG)(cs':List Value)(hi:eP P T ⟨false,1,[]⟩=true)(hg:ax ops ⟨none,.store T x y,ty,pos,af,g⟩ t=some true)(hk:L[k]? =some b)(ho:b.own=true)(hbb:b.base.isSome=true)(hx:ev t x=some (b.at off))
 (hy:ev t y=some v)(hv:v.cells= #[v])(h1:v.oneCell'=true)(hfit:off<b.cs.length)(hcs:b.cs.set off v=cs')(hL:L.set k {b with cs:=cs'}=L')(hbl:blank bl L'=blank bl L)
 (h:aW P bl ops rest ⟨nt,t,L'⟩ K):aW P bl ops (⟨none,.store T x y,ty,pos,af,g⟩::rest) ⟨nt,t,L⟩ K:=
 Vu hg rfl rfl (by
 have h4:=Cj (v:=v) hfit;rw[hcs] at h4;have h5:=Ef (P:=P) (o:=⟨none,.store T x y,ty,pos,af,g⟩) (s:=⟨nt,t,L⟩) rfl k hk ho hx hbb hy hi (by rw[hv];rfl) (by decide) hfit (by rw[hv];simp[h1]);rw[hv] at h5;have h6:Za P ⟨none,.store T x y,ty,pos,af,g⟩ ⟨nt,t,L⟩ (L.set k {b with cs:=b.cs.take off++[v]++b.cs.drop (off+1)}):=h5
 rw[h4,hL] at h6;exact h6) (fun _=>hbl) h
def Em{T e gg:Nat}{k:IntKind}{i:Int}{off len cap:Nat}{inf:TI}(off':Nat)(hT:P.underlying T=some (.slice e))(hinf:eP P e inf=true)(hd:Nat.blt d nt=true)(hg:ax ops ⟨some d,.indexAddr T x y,ty,pos,af,g⟩ t=some true)
 (hx:ev t x=some (az (some gg) off len cap))(hy:ev t y=some (.int k i))(h0:0<=i)(h1:i<len)(ho:off+i.toNat*inf.size=off')
 (h:aW P bl ops rest ⟨nt,(d,.pointer (some ⟨gg,off',none⟩))::t,L⟩ K):aW P bl ops (⟨some d,.indexAddr T x y,ty,pos,af,g⟩::rest) ⟨nt,t,L⟩ K:=
 gq hd hg rfl (fun B a w hrel=>by
 have he:P.elem T=e:=(by simp[Program.elem,hT]);have h2:=hrel.ev hx;have h3:=hrel.ev hy;have:=run_indexAt_slice (P:=P) w T ⟨gg,off,none⟩ len cap k i (by rw[he];exact hT);rw[if_pos ⟨h0,h1⟩,he,pg hinf w] at this;simp only[Result.andThen_ok,jW,ho] at this;unfold az at h2;simp only[Option.map_some] at h2;simp[execOp,h2,h3,this]) h
end
end Go.Via
namespace Go.Via
variable[Mo]
open Go Go.RowKit
theorem yE:∀(vs:List Value) (w:World) (g o:Nat) (cur:Array Value) (t:TypeId),w.heap[g]? =some (.cells cur t (0,0))->o+vs.length<=cur.size->
 w.setCells g o vs=w.setRow g (cur.toList.take o++vs++cur.toList.drop (o+vs.length)).toArray
 |[],w,g,o,cur,t,hg,hl=>by
  have e:(cur.toList.take o++[]++cur.toList.drop (o+([]:List Value).length)).toArray=cur:=(by simp);rw[e,World.setCells];have hlt:g<w.heap.size:=(Array.getElem?_eq_some_iff.1 hg).1;have hv:w.heap[g]= .cells cur t (0,0):=(Array.getElem?_eq_some_iff.1 hg).2;have key:w.heap=(w.setRow g cur).heap:=by
   apply Array.ext
   ·simp[World.setRow]
   ·intro i h1 h2;have:(w.setRow g cur).heap[i]? =w.heap[i]? :=by
     by_cases e:i=g
     ·subst e;rw[setRow_heap w i cur cur t (0,0) hg,hg]
     ·exact setRow_other w g i cur e
    rw[Array.getElem?_eq_getElem h1,Array.getElem?_eq_getElem h2] at this;exact(Option.some.inj this).symm
  show w={w with heap:=(w.setRow g cur).heap}
  rw[<-key]
 |v::r,w,g,o,cur,t,hg,hl=>by
  simp only[List.length_cons] at hl;rw[World.setCells,setCell_eq_setRow w g o cur t (0,0) v hg,yE r _ g (o+1) (cur.setIfInBounds o v) t (setRow_heap w g cur _ t (0,0) hg) (by simp;omega),setRow_setRow]
  congr 1
  have e:=list_seg_step cur.toList o v r (by simp at hl ⊢;omega)
  simpa[Array.toList_setIfInBounds,Nat.add_assoc] using e
def bf.swapIn{B:Bs}{w:World}{L:List aG}{b:aG}(h:bf B (L++[b]) w)(k:Nat):bf B (L.set k b) w:=by
 by_cases hkl:k<L.length
 ·have hb:∀(m:Nat) (c:aG),(L.set k b)[m]? =some c->m<L.length∧(L++[b])[if m=k then L.length else m]? =some c:=fun m c hm=>by
   have hml:m<L.length:=(by have:=(List.getElem?_eq_some_iff.1 hm).1;simpa using this);refine⟨hml,?_⟩
   by_cases e:m=k
   ·subst e;rw[List.getElem?_set_self hkl] at hm;cases hm;simp
   ·rw[List.getElem?_set_ne (Ne.symm e)] at hm;rw[if_neg e,List.getElem?_append_left hml];exact hm
  refine⟨h.bel,fun m c hm=>h.blk _ c (hb m c hm).2,fun i j g bi bj hij hi hj ho hg hgj=>?_,h.grp.mem fun c hc=>by obtain⟨m,hm⟩:=List.mem_iff_getElem?.1 hc;exact List.mem_of_getElem? (hb m c hm).2⟩
  obtain⟨hi1,hi2⟩:=hb i bi hi;obtain⟨hj1,hj2⟩:=hb j bj hj;refine h.apart _ _ g bi bj ?_ hi2 hj2 ho hg hgj
  split<;>split<;>omega
 ·rw[List.set_eq_of_length_le (by omega)];exact h.take
def bf.mono{B:Bs}{w:World}{L L':List aG}(h:bf B L w)(hl:∀(k:Nat) (b':aG),L'[k]? =some b'->∃b,L[k]? =some b∧b'.le b):bf B L' w:=by
 refine⟨h.bel,fun k b hk=>?_,fun i j g bi bj hij hi hj ho hg hgj=>?_,h.grp.sub (fun b hb hn=>?_) (fun c hc ho g hg=>?_)⟩
 rotate_left 2
 ·obtain⟨k,hk⟩:=List.mem_iff_getElem?.1 hb;obtain⟨c,h2,h3⟩:=hl k b hk;exact .inr ⟨c,List.mem_of_getElem? h2,by rw[<-h3.1];exact hn,h3.2.1.symm,h3.2.2.2.2⟩
 ·obtain⟨k,hk⟩:=List.mem_iff_getElem?.1 hc;obtain⟨c',h2,h3⟩:=hl k c hk;exact⟨c',List.mem_of_getElem? h2,h3.2.2.2.2 ho,by rw[<-h3.1];exact hg⟩
 ·obtain⟨c,h2,h3⟩:=hl k b hk;obtain⟨a1,a2⟩:=h.blk k c h2;refine⟨fun g hg=>(a1 g (by rw[<-h3.1];exact hg)).le h3,fun hn=>?_⟩
  obtain⟨b1,b2⟩:=a2 (by rw[<-h3.1];exact hn);obtain⟨_,_,l3,⟨q,l4⟩,_⟩:=h3;exact⟨by rw[l4,b1];simp,by rw[l3];exact b2⟩
 ·obtain⟨ci,h2,h3⟩:=hl i bi hi;obtain⟨cj,g2,g3⟩:=hl j bj hj;exact h.apart i j g ci cj hij h2 g2 (h3.2.2.2.2 ho) (by rw[<-h3.1];exact hg) (by rw[<-g3.1];exact hgj)
theorem bf.last{B:Bs}{w:World}{L:List aG}{b b':aG}(h:bf B (L++[b]) w)(hl:b'.le b):bf B (L++[b']) w:=h.mono fun k c hk=>by
 rw[List.getElem?_append] at hk ⊢
 split at hk
 ·rename_i h1;rw[if_pos h1];exact⟨c,hk,c.le_refl⟩
 ·rename_i h1
  rw[if_neg h1];cases hq:k-L.length with
  |zero=>rw[hq] at hk;simp at hk;subst hk;exact⟨b,by simp,hl⟩
  |succ q=>rw[hq] at hk;simp at hk
structure AR(need s:Nat) where
 g:Nat
 n:Nat
 cap:Nat
 h:need<=cap
 hn:cap*s<=n
section
variable{P:Program}{bl:List Nat}{ops:Array Oper}{K:St->Prop}{rest:List Oper}{nt:Nat}{t:List (Nat×Value)}{L:List aG}{d:Nat}{ty:TypeId}{pos:String}{af:Array Edge}{g:Option (Nat×Bool)}{x y:Operand}
def iI{T e:Nat}{b:Option Nat}{len cap:Nat}{k:IntKind}{h':Int}{inf:TI}(len':Nat)(hT:P.underlying T=some (.slice e))(hinf:eP P e inf=true)(hd:Nat.blt d nt=true)(hg:ax ops ⟨some d,.slice T x none (some y) none,ty,pos,af,g⟩ t=some true)(hx:ev t x=some (az b 0 len cap))(hy:ev t y=some (.int k h'))(h0:0<=h')(h1:h'<=cap)(hl:h'.toNat=len')
 (h:aW P bl ops rest ⟨nt,(d,az b 0 len' cap)::t,L⟩ K):aW P bl ops (⟨some d,.slice T x none (some y) none,ty,pos,af,g⟩::rest) ⟨nt,t,L⟩ K:=
 gq hd hg rfl (fun B a w hrel=>by
 have he:P.elem T=e:=(by simp[Program.elem,hT]);have hT':P.underlying T=some (.slice (P.elem T)):=(by rw[he];exact hT);have h2:=hrel.ev hx;have h3:=hrel.ev hy;unfold az at h2;have r1:=run_sliceAt_slice (P:=P) w T (.slice (b.map fun g=>⟨g,0,none⟩) len cap) none (some (.int k h')) none hT';rw[run_slice_h (P:=P) w T (b.map fun g=>⟨g,0,none⟩) len cap hT' k h' h0 h1,he,pg hinf w] at r1;simp only[Result.andThen_ok] at r1;have e1:sliced (b.map fun g=>(⟨g,0,none⟩:Addr)) 0 h'.toNat cap inf.size=az b 0 len' cap:=by
  unfold sliced az;rw[hl];cases b<;>simp[jW]
 rw[e1] at r1;simp[execOp,h2,h3,r1]) h
def QF{T e:Nat}{k:IntKind}{c:Nat}{inf:TypeInfo}{z:Value}{m:Int}(hem:e<dC)(cs:List Value)(mk:Nat->List aG)(hT:P.underlying T=some (.slice e))(hi:P.info? e=some inf)(hz:inf.zero=some z)(hs:inf.size=1)(hz1:z.cells= #[z])(hd:Nat.blt d nt=true)
 (hg:ax ops ⟨some d,.makeSlice T x y,ty,pos,af,g⟩ t=some true)(hx:ev t x=some (.int k m))(hy:ev t y=some (.int k m))(hm:m=(c:Int))(hb:inf.bytes<=512)(hc:c<=137438953472)(hcs:List.replicate c z=cs)(hL:∀b,L++[⟨some b,e,cs,c,true⟩]=mk b)
 (h:∀b,aW P bl ops rest ⟨nt,(d,az (some b) 0 c c)::t,mk b⟩ K):aW P bl ops (⟨some d,.makeSlice T x y,ty,pos,af,g⟩::rest) ⟨nt,t,L⟩ K:=
 MM hd hg rfl rfl (X:=Nat) (nx:=fun b=>⟨nt,(d,az (some b) 0 c c)::t,mk b⟩) (fun hd'=>Jj fun B a w hr=>by
 subst hm;have hbb:inf.bytes*c<=512*137438953472:=Nat.mul_le_mul hb hc;have r1:=run_make (P:=P) w T e inf z hT hi hz k k (c:Int) (c:Int) (by omega) (Int.le_refl _) (by
 have:((inf.bytes*c:Nat):Int)<=281474976710656:=by omega
 rwa [Int.natCast_mul] at this) (by omega)
 simp only[Int.toNat_natCast,hs,Nat.mul_one,hz1] at r1;have e1:madeCells #[z] c=(List.replicate c z).toArray:=by
  unfold madeCells
  apply Array.ext
  ·simp
  ·intro i h1 h2;simp[Nat.mod_one]
 rw[e1] at r1;refine⟨az (some w.heap.size) 0 c c,w.alloc (.cells (List.replicate c z).toArray e),w.heap.size,by
 have r2:(execOp a.eval ⟨some d,.makeSlice T x y,ty,pos,af,g⟩).run P w=((Instr.makeSlice T (.int k (c:Int)) (.int k (c:Int))).run P w).andThen fun v w=> .ok (.value v) w:=by
  simp[execOp,hr.ev hx,hr.ev hy,Sem.run_bind]
 rw[r2,r1];rfl,?_⟩
 have h1:=hr.mem.alloc e (List.replicate c z).toArray hem;simp only[List.size_toArray,List.length_replicate] at h1;rw[<-hL,<-hcs];exact hr.put hd' h1) fun b=>h b
def QG{T e:Nat}{inf:TypeInfo}{z:Value}{b:aG}{len cap b2o n2 c2:Nat}{b2:aG}(hem:e<dC)(k k2:Nat)(mk:AR (len+n2) inf.size->List aG)(hT:P.underlying T=some (.slice e))(hi:P.info? e=some inf)(hz:inf.zero=some z)(hs:0<inf.size)(hzs:z.cells.size=inf.size)(hbytes:inf.bytes<=1024)(hd:Nat.blt d nt=true)
 (hg:ax ops ⟨some d,.call {callee:= .builtin .append,args:= #[x,y],argTypes:= #[T,T]},ty,pos,af,g⟩ t=some true)
 (hk:L[k]? =some b)(ho:b.own=true)(he:b.e=e)(hlen:b.cs.length=len*inf.size)(hcap:len<=cap)(hn:cap*inf.size<=b.n)(hx:ev t x=some (az b.base 0 len cap))
 (hk2:L[k2]? =some b2)(hlen2:b2.cs.length=n2*inf.size)(hpos:0<n2)(hb2:b2.base=some b2o)(hy:ev t y=some (az (some b2o) 0 n2 c2))(h1:∀v∈b2.cs,v.oneCell'=true)(hmax:len+n2<=17179869184)
 (hL:∀r,L.set k ⟨some r.g,e,b.cs++b2.cs,r.n,true⟩=mk r)
 (h:∀r:AR (len+n2) inf.size,aW P bl ops rest ⟨nt,(d,az (some r.g) 0 (len+n2) r.cap)::t,mk r⟩ K):
 aW P bl ops (⟨some d,.call {callee:= .builtin .append,args:= #[x,y],argTypes:= #[T,T]},ty,pos,af,g⟩::rest) ⟨nt,t,L⟩ K:=
 MM hd hg rfl rfl (X:=AR (len+n2) inf.size) (nx:=fun r=>⟨nt,(d,az (some r.g) 0 (len+n2) r.cap)::t,mk r⟩) (fun hd'=>Jj fun B a w hr=>by
 have hx':=hr.ev hx;have hy':=hr.ev hy
 have hnews:∀j u,b2.cs[j]? =some u->w.cell? ((⟨b2o,0,none⟩:Addr).add j)=some u:=fun j u hj=>by
  obtain⟨g',hg',h2⟩:=hr.mem.cell hk2 hj;rw[hb2] at hg';cases hg';rw[jW,Nat.zero_add];exact h2
 have hsrc:=Src.ofSlice (P:=P) w (size:=inf.size) hT ⟨b2o,0,none⟩ n2 c2 b2.cs hlen2 hnews h1;have fin:∀v w',(Builtin.append_ #[T,T] ty #[az b.base 0 len cap,az (some b2o) 0 n2 c2]).run P w= .ok v w'->(execOp a.eval ⟨some d,.call {callee:= .builtin .append,args:= #[x,y],argTypes:= #[T,T]},ty,pos,af,g⟩).run P w= .ok (.value v) w':=fun v w' hv=>by
  simp[execOp,resolve,invoke,builtin,hx',hy',hv]
 by_cases hroom:len+n2<=cap
 ·
  obtain⟨gg,hgg⟩:∃gg,b.base=some gg:=by
   cases hbb:b.base with
   |some gg=>exact⟨gg,rfl⟩
   |none=>
    have:=((hr.mem.blk k b hk).2 hbb).2;have h3:1*1<=cap*inf.size:=Nat.mul_le_mul (by omega) hs;omega
  obtain⟨cur,⟨e',fr,c1,cfr,_⟩,c2',c3⟩:=((hr.mem.blk k b hk).1 gg hgg).cells (.inl (by
 have h3:1*1<=cap*inf.size:=Nat.mul_le_mul (by omega) hs;omega))
  obtain⟨rfl,rfl⟩:=cfr ho;have hroomc:(len+n2)*inf.size<=cap*inf.size:=Nat.mul_le_mul_right _ hroom;have hsum:(len+n2)*inf.size=len*inf.size+n2*inf.size:=Nat.add_mul ..;have hfit:0+len*inf.size+b2.cs.length<=cur.size:=by rw[hlen2];omega
  have r1:=run_append_room_src (P:=P) w T T ty e inf hT hi gg 0 len cap (az (some b2o) 0 n2 c2) n2 b2.cs hsrc hroom
   (fun j hj=>by
 rw[cell_of_row w gg _ cur b.e (0,0) c1];rw[Array.getElem?_eq_getElem (by omega)];rfl)
   (fun j hj=>by simp[World.frozen?,c1])
  rw[yE b2.cs w gg _ cur b.e c1 hfit] at r1;refine⟨_,_,(⟨gg,b.n,cap,hroom,hn⟩:AR (len+n2) inf.size),fin _ _ (by unfold az at r1 ⊢;rw[hgg];exact r1),?_⟩;refine hr.put hd' ?_;rw[<-hL];have hcur:cur.toList.take (0+len*inf.size)=b.cs:=by rw[Nat.zero_add,<-hlen];exact c3
  have h5:=hr.mem.set hk ho hgg (cur.toList.take (0+len*inf.size)++b2.cs++cur.toList.drop (0+len*inf.size+b2.cs.length)).toArray (b.cs++b2.cs)
   (by simp only[List.size_toArray,List.length_append,List.length_take,List.length_drop,Array.length_toList];omega)
   (by
 rw[hcur];simp only[List.append_assoc];rw[List.length_append,<-List.append_assoc,<-List.length_append];exact List.take_left)
  rw[hgg] at h5;rw[ho] at h5;rw[he] at h5;exact h5
 ·
  have hold:(Builtin.firstCells inf.size len (az b.base 0 len cap)).run P w.drew= .ok b.cs.toArray w.drew:=by
   cases hbb:b.base with
   |none=>
    have:=((hr.mem.blk k b hk).2 hbb).1;rw[this];exact run_firstCells_none w.drew inf.size len len cap
   |some gg=>
    refine run_firstCells_some (P:=P) w.drew inf.size len ⟨gg,0,none⟩ len cap b.cs hlen (fun j v hj=>?_);obtain⟨g',hg',h2⟩:=hr.mem.cell hk hj;rw[hbb] at hg';cases hg';rw[jW,Nat.zero_add];exact h2
  have hge:=grownCap_ge w (len+n2) cap e;have hbb:(len+n2)*inf.bytes<=17179869184*1024:=Nat.mul_le_mul hmax hbytes;have hfit:Builtin.nextslicecap (len+n2) cap*inf.bytes<=281474976710656:=growslice_fits (by omega) (by omega);have r1:=run_append_grow_src (P:=P) w T T ty e inf z hT hi hz (b.base.map fun g=>⟨g,0,none⟩) len cap b.cs hold (az (some b2o) 0 n2 c2) n2 b2.cs hsrc (by omega) (by omega) hfit;refine⟨_,_,(⟨w.heap.size,(((b.cs++b2.cs).toArray++Builtin.zeroCells z.cells (grownCap w (len+n2) cap e-(len+n2))):Array Value).size,grownCap w (len+n2) cap e,hge,?_⟩:AR (len+n2) inf.size),fin _ _ r1,?_⟩
  ·have hz':(Builtin.zeroCells z.cells (grownCap w (len+n2) cap e-(len+n2))).size=(grownCap w (len+n2) cap e-(len+n2))*inf.size:=by
    unfold Builtin.zeroCells;simp[hzs]
   have hm:(grownCap w (len+n2) cap e-(len+n2))*inf.size+(len+n2)*inf.size=grownCap w (len+n2) cap e*inf.size:=by
    rw[<-Nat.add_mul,Nat.sub_add_cancel hge]
   have hsum:(len+n2)*inf.size=len*inf.size+n2*inf.size:=Nat.add_mul ..;rw[Array.size_append,hz'];simp only[List.size_toArray,List.length_append];omega
  ·refine hr.put hd' ?_;rw[<-hL];have h5:=(hr.mem.drew.alloc e ((b.cs++b2.cs).toArray++Builtin.zeroCells z.cells (grownCap w (len+n2) cap e-(len+n2))) hem);refine(h5.last (b':=⟨some w.heap.size,e,b.cs++b2.cs,((b.cs++b2.cs).toArray++Builtin.zeroCells z.cells (grownCap w (len+n2) cap e-(len+n2)):Array Value).size,true⟩) ⟨rfl,rfl,rfl,⟨(b.cs++b2.cs).length,?_⟩,fun _=>rfl⟩).swapIn k
   rw[Array.toList_append];exact(List.take_left (l₁:=b.cs++b2.cs)).symm) fun r=>h r
end
end Go.Via
namespace Go.Via
variable[Mo]
open Go Go.RowKit
def ZA(l:List Nat):ByteArray:=⟨(l.map UInt8.ofNat).toArray⟩
theorem XA(l:List Nat):strOfNums (l.map fun(n:Nat)=>(n:Int))=ZA l:=by simp[strOfNums,ZA]
section
variable{P:Program}{bl:List Nat}{ops:Array Oper}{K:St->Prop}{rest:List Oper}{nt:Nat}{t:List (Nat×Value)}{L:List aG}{d:Nat}{ty:TypeId}{pos:String}{af:Array Edge}{g:Option (Nat×Bool)}{x y:Operand}
def OQ{T n nn:Nat}{parts:List (Nat×Operand)}(ps:List (Nat×Value)){e:Nat}{cs:List Value}(mk:Nat->List aG)(hd:Nat.blt d nt=true)(hg:ax ops ⟨some d,.buildSlice T n parts.toArray,ty,pos,af,g⟩ t=some true)(hx:parts.map (fun p=>(p.1,ev t p.2))=ps.map (fun p=>(p.1,some p.2)))
 (hb:∀w,(Instr.buildSlice T n ps.toArray).run P w= .ok (.slice (some ⟨w.heap.size,0,none⟩) n n) (w.alloc (.cells cs.toArray e)))(hnn:cs.length=nn)(hL:∀b,L++[⟨some b,e,cs,nn,true⟩]=mk b)(h:∀b,aW P bl ops rest ⟨nt,(d,az (some b) 0 n n)::t,mk b⟩ K)(hem:Nat.blt e dC=true:=by rfl):
 aW P bl ops (⟨some d,.buildSlice T n parts.toArray,ty,pos,af,g⟩::rest) ⟨nt,t,L⟩ K:=
 Zm (e:=e) (cs:=cs.toArray) hd hg rfl (by
 show(kR t parts).bind _=_;rw[Dh hx];exact Y8 (by simpa using hem) hb) fun b=>by
  subst hnn;have:=h b;rw[<-hL b] at this;exact this
def ZB{T e N gg:Nat}{k:IntKind}{h':Int}{inf:TI}(len':Nat)(hT:P.underlying T=some (.array N e))(hinf:eP P e inf=true)(hd:Nat.blt d nt=true)(hg:ax ops ⟨some d,.slice T x none (some y) none,ty,pos,af,g⟩ t=some true)(hx:ev t x=some (.pointer (some ⟨gg,0,none⟩)))(hy:ev t y=some (.int k h'))(h0:0<=h')(h1:h'<=N)(hl:h'.toNat=len')
 (h:aW P bl ops rest ⟨nt,(d,az (some gg) 0 len' N)::t,L⟩ K):aW P bl ops (⟨some d,.slice T x none (some y) none,ty,pos,af,g⟩::rest) ⟨nt,t,L⟩ K:=
 gq hd hg rfl (fun B a w hrel=>by
 have he:P.elem T=e:=(by simp[Program.elem,hT]);have hN:P.arrayLen T=N:=(by simp[Program.arrayLen,hT]);have h2:=hrel.ev hx;have h3:=hrel.ev hy;have r1:=run_sliceAt_array_h (P:=P) w T ⟨gg,0,none⟩ (by rw[he,hN];exact hT) k h' h0 (by rw[hN];exact h1);rw[he,pg hinf w] at r1;simp only[Result.andThen_ok] at r1;have e1:slicedAt (⟨gg,0,none⟩:Addr) 0 h'.toNat (P.arrayLen T) inf.size=az (some gg) 0 len' N:=by
  unfold slicedAt az;rw[hl,hN];simp[jW]
 rw[e1] at r1;simp[execOp,h2,h3,r1]) h
def TW{T:Nat}{s:ByteArray}{k:IntKind}{l:Int}{r:ByteArray}(hT:P.underlying T=some .string)(hd:Nat.blt d nt=true)(hg:ax ops ⟨some d,.slice T x (some y) none none,ty,pos,af,g⟩ t=some true)(hx:ev t x=some (.string s))(hy:ev t y=some (.int k l))(h0:0<=l)(h1:l<=s.size)(hr:s.extract l.toNat s.size=r)
 (h:aW P bl ops rest ⟨nt,(d,.string r)::t,L⟩ K):aW P bl ops (⟨some d,.slice T x (some y) none none,ty,pos,af,g⟩::rest) ⟨nt,t,L⟩ K:=
 gq hd hg rfl (fun B a w hrel=>by
 have h2:=hrel.ev hx;have h3:=hrel.ev hy;have r1:=run_sliceAt_string (P:=P) w T (.string s) (some (.int k l)) none none hT;rw[run_slice_string_l (P:=P) w T s hT k l h0 h1,hr] at r1;simp[execOp,h2,h3,r1]) h
def zI{S e D:Nat}{b:aG}{gg len cap:Nat}{l:List Nat}{r:ByteArray}(k:Nat)(hS:P.underlying S=some (.slice e))(he:P.underlying e=some (.int .u8))(hD:P.underlying D=some .string)(hd:Nat.blt d nt=true)(hg:ax ops ⟨some d,.convert S D x,ty,pos,af,g⟩ t=some true)
 (hk:(blank bl L)[k]? =some b)(hb:b.base=some gg)(hx:ev t x=some (az (some gg) 0 len cap))(hcs:b.cs.take len=NV .u8 l)(hl:l.length=len)(hr:ZA l=r)
 (h:aW P bl ops rest ⟨nt,(d,.string r)::t,L⟩ K):aW P bl ops (⟨some d,.convert S D x,ty,pos,af,g⟩::rest) ⟨nt,t,L⟩ K:=
 gq hd hg rfl (fun B a w hrel=>by
 have h1:=run_convert_bytes_arg (P:=P) w S e hS he gg 0 len cap (l.map fun(n:Nat)=>(n:Int)) (by simpa using hl) (fun i hi=>by
 have hc:b.cs[i]? =some (.int .u8 ((l.map fun(n:Nat)=>(n:Int)).getD i 0)):=by
  have h2:(b.cs.take len)[i]? =(NV .u8 l)[i]? :=(by rw[hcs]);rw[List.getElem?_take,if_pos hi] at h2;rw[h2];have hil:i<l.length:=(by omega);simp[NV,List.getElem?_eq_getElem hil]
 obtain⟨g',hg',h2⟩:=hrel.mem.cell hk hc;rw[hb] at hg';cases hg';rw[Nat.zero_add];exact h2) D hD
 rw[XA,hr] at h1;have h2:=hrel.ev hx;unfold az at h2;simp only[Option.map_some] at h2;simp[execOp,h2,h1]) h
def qgr{T e:Nat}{b b2:aG}{gg len cap len2 cap2:Nat}{inf:TypeInfo}(k k2:Nat)(L':List aG)(cs':List Value)(hT:P.underlying T=some (.slice e))(hi:P.info? e=some inf)(hs:inf.size=1)(hd:Nat.blt d nt=true)
 (hg:ax ops ⟨some d,.call {callee:= .builtin .copy,args:= #[x,y],argTypes:= #[T,T]},ty,pos,af,g⟩ t=some true)(hk:L[k]? =some b)(ho:b.own=true)(hb:b.base=some gg)(hx:ev t x=some (az (some gg) 0 len cap))
 (hk2:L[k2]? =some b2)(hy:ev t y=some (az b2.base 0 len2 cap2))(hl2:b2.cs.length=len2)(hle:len2<=len)(hfit:len2<=b.cs.length)(h1:∀v∈b2.cs,v.oneCell'=true)(hcs:b2.cs++b.cs.drop len2=cs')(hL:L.set k {b with cs:=cs'}=L')
 (h:aW P bl ops rest ⟨nt,(d,.int .i64 len2)::t,L'⟩ K):aW P bl ops (⟨some d,.call {callee:= .builtin .copy,args:= #[x,y],argTypes:= #[T,T]},ty,pos,af,g⟩::rest) ⟨nt,t,L⟩ K:=
 MM hd hg rfl rfl (X:=Unit) (nx:=fun _=>⟨nt,(d,.int .i64 len2)::t,L'⟩) (fun hd'=>Jj fun B a w hr=>by
 have hx':=hr.ev hx;have hy':=hr.ev hy;have fin:∀v w',(Builtin.copy_ #[T,T] ty #[az (some gg) 0 len cap,az b2.base 0 len2 cap2]).run P w= .ok v w'->(execOp a.eval ⟨some d,.call {callee:= .builtin .copy,args:= #[x,y],argTypes:= #[T,T]},ty,pos,af,g⟩).run P w= .ok (.value v) w':=fun v w' hv=>by
  simp[execOp,resolve,invoke,builtin,hx',hy',hv]
 by_cases hz:b.n≠0∨b.cs≠[]
 case neg=>
  have hz2:b.cs=[]:=by
   by_cases h0:b.cs=[]
   ·exact h0
   ·exact absurd (.inr h0) hz
  have hl0:len2=0:=(by rw[hz2] at hfit;simpa using hfit);subst hl0;have h0:b2.cs=[]:=List.eq_nil_of_length_eq_zero hl2;refine⟨goInt 0,w,(),fin _ _ (by
 unfold az;have hl:∀v:Nat,(loadCells ⟨v,0,none⟩ 0).run P w= .ok #[] w:=fun v=>run_loadCells_list w ⟨v,0,none⟩ [] (fun j u hj=>by simp at hj)
 cases b2.base<;>simp[Builtin.copy_,run_underlying hT,Builtin.lenOf,Builtin.firstCells,sizeOf,typeInfo,hi,storeCells,goInt,hl]),?_⟩
  have e1:L'=L:=by
   rw[<-hL,<-hcs,h0];simp only[List.nil_append,List.drop_zero];obtain⟨q1,q2⟩:=List.getElem?_eq_some_iff.1 hk;have:({b with cs:=b.cs}:aG)=b:=rfl
   rw[this,<-q2];exact List.set_getElem_self q1
  rw[e1];exact hr.put hd' hr.mem
 obtain⟨cur,⟨e',fr,c1,cfr,_⟩,c2,c3⟩:=((hr.mem.blk k b hk).1 gg hb).cells hz;obtain⟨rfl,rfl⟩:=cfr ho;have hcl:b.cs.length<=cur.size:=by
  have:=congrArg List.length c3;simp only[List.length_take,Array.length_toList] at this;omega
 cases hb2:b2.base with
 |none=>
  have h0:=((hr.mem.blk k2 b2 hk2).2 hb2).1;have hl0:len2=0:=(by rw[<-hl2,h0];rfl);subst hl0;refine⟨goInt 0,w,(),fin _ _ (by
 rw[hb2];unfold az;simp[Builtin.copy_,run_underlying hT,Builtin.lenOf,Builtin.firstCells,sizeOf,typeInfo,hi,storeCells,goInt]),?_⟩
  have e1:L'=L:=by
   rw[<-hL,<-hcs,h0];simp only[List.nil_append,List.drop_zero];obtain⟨q1,q2⟩:=List.getElem?_eq_some_iff.1 hk;have:({b with cs:=b.cs}:aG)=b:=rfl
   rw[this,<-q2];exact List.set_getElem_self q1
  rw[e1];exact hr.put hd' hr.mem
 |some g2=>
  have hsrc:∀j v,b2.cs[j]? =some v->w.cell? ((⟨g2,0,none⟩:Addr).add j)=some v:=fun j u hj=>by
   obtain⟨g',hg',h2⟩:=hr.mem.cell hk2 hj;rw[hb2] at hg';cases hg';rw[jW,Nat.zero_add];exact h2
  have r1:=run_copy_row (P:=P) w T T ty e gg 0 len cap ⟨g2,0,none⟩ len2 cap2 cur b.e b2.cs hT (by simp[hi,hs]) c1 (by rw[hl2];exact(Nat.min_eq_left hle).symm) hsrc (by omega) h1;refine⟨goInt b2.cs.length,_,(),fin _ _ (by rw[hb2];exact r1),?_⟩;rw[hl2];have h5:=hr.mem.set hk ho hb (cur.toList.take 0++b2.cs++cur.toList.drop (0+b2.cs.length)).toArray cs'
   (by simp only[List.size_toArray,List.length_append,List.length_take,List.length_drop,Array.length_toList];omega)
   (by
    rw[<-hcs];simp only[List.take_zero,List.nil_append,Nat.zero_add,hl2];rw[List.length_append,List.length_drop,hl2];rw[List.take_append,hl2];rw[List.take_of_length_le (by omega)]
    congr 1
    rw[<-c3];simp only[List.length_take,Array.length_toList];rw[List.drop_take]
    congr 1
    omega)
  rw[<-hL];rw[hl2] at h5;exact hr.put hd' h5) fun _=>h
def LM(P:Program)(e:Nat)(s:Nat)(z:Value):Prop:=((P.info? e).map fun inf=>(inf.size,Nat.ble inf.bytes 512,inf.zero))=some (s,true,some z)∧e<dC
def zJ{e s:Nat}{z:Value}(h:LM P e s z):∃inf,P.info? e=some inf∧inf.zero=some z∧inf.size=s∧inf.bytes<=512:=by
 unfold LM at h;replace h:=h.1;cases hq:P.info? e with
 |none=>rw[hq] at h;cases h
 |some inf=>
  rw[hq] at h;simp only[Option.map_some,Option.some.injEq,Prod.mk.injEq] at h;obtain⟨h1,h2,h3⟩:=h;exact⟨inf,rfl,h3,h1,Nat.le_of_ble_eq_true h2⟩
def gm{T e:Nat}{k:IntKind}{c:Nat}{z:Value}{m:Int}(cs:List Value)(mk:Nat->List aG)(hT:P.underlying T=some (.slice e))(he:LM P e 1 z)(hd:Nat.blt d nt=true)
 (hg:ax ops ⟨some d,.makeSlice T x y,ty,pos,af,g⟩ t=some true)(hx:ev t x=some (.int k m))(hy:ev t y=some (.int k m))(hz1:z.cells= #[z])(hm:m=(c:Int))(hc:c<=137438953472)(hcs:List.replicate c z=cs)(hL:∀b,L++[⟨some b,e,cs,c,true⟩]=mk b)
 (h:∀b,aW P bl ops rest ⟨nt,(d,az (some b) 0 c c)::t,mk b⟩ K):aW P bl ops (⟨some d,.makeSlice T x y,ty,pos,af,g⟩::rest) ⟨nt,t,L⟩ K:=by
 obtain⟨inf,h1,h2,h3,h5⟩:=zJ he;exact QF he.2 cs mk hT h1 h2 h3 hz1 hd hg hx hy hm h5 hc hcs hL h
def fH{T e s:Nat}{z:Value}{b:aG}{len cap b2o n2 c2:Nat}{b2:aG}(k k2:Nat)(mk:AR (len+n2) s->List aG)(hT:P.underlying T=some (.slice e))(hi:LM P e s z)(hd:Nat.blt d nt=true)
 (hg:ax ops ⟨some d,.call {callee:= .builtin .append,args:= #[x,y],argTypes:= #[T,T]},ty,pos,af,g⟩ t=some true)
 (hk:L[k]? =some b)(ho:b.own=true)(he:b.e=e)(hx:ev t x=some (az b.base 0 len cap))(hk2:L[k2]? =some b2)(hb2:b2.base=some b2o)(hy:ev t y=some (az (some b2o) 0 n2 c2))(hs:Nat.blt 0 s=true)(hzs:z.cells.size=s)(hpos:Nat.blt 0 n2=true)
 (hlen:b.cs.length=len*s)(hcap:len<=cap)(hn:cap*s<=b.n)(hlen2:b2.cs.length=n2*s)(h1:∀v∈b2.cs,v.oneCell'=true)(hmax:len+n2<=17179869184)
 (hL:∀r,L.set k ⟨some r.g,e,b.cs++b2.cs,r.n,true⟩=mk r)
 (h:∀r:AR (len+n2) s,aW P bl ops rest ⟨nt,(d,az (some r.g) 0 (len+n2) r.cap)::t,mk r⟩ K):
 aW P bl ops (⟨some d,.call {callee:= .builtin .append,args:= #[x,y],argTypes:= #[T,T]},ty,pos,af,g⟩::rest) ⟨nt,t,L⟩ K:=by
 obtain⟨inf,i1,i2,i3,i5⟩:=zJ hi;subst i3;exact QG hi.2 k k2 mk hT i1 i2 (by simpa using hs) hzs (by omega) hd hg hk ho he hlen hcap hn hx hk2 hlen2 (by simpa using hpos) hb2 hy h1 hmax hL h
def Jl{T e:Nat}{z:Value}{b b2:aG}{gg len cap len2 cap2:Nat}(k k2:Nat)(L':List aG)(cs':List Value)(hT:P.underlying T=some (.slice e))(hi:LM P e 1 z)(hd:Nat.blt d nt=true)
 (hg:ax ops ⟨some d,.call {callee:= .builtin .copy,args:= #[x,y],argTypes:= #[T,T]},ty,pos,af,g⟩ t=some true)(hk:L[k]? =some b)(ho:b.own=true)(hb:b.base=some gg)(hx:ev t x=some (az (some gg) 0 len cap))
 (hk2:L[k2]? =some b2)(hy:ev t y=some (az b2.base 0 len2 cap2))(hl2:b2.cs.length=len2)(hle:len2<=len)(hfit:len2<=b.cs.length)(h1:∀v∈b2.cs,v.oneCell'=true)(hcs:b2.cs++b.cs.drop len2=cs')(hL:L.set k {b with cs:=cs'}=L')
 (h:aW P bl ops rest ⟨nt,(d,.int .i64 len2)::t,L'⟩ K):aW P bl ops (⟨some d,.call {callee:= .builtin .copy,args:= #[x,y],argTypes:= #[T,T]},ty,pos,af,g⟩::rest) ⟨nt,t,L⟩ K:=by
 obtain⟨inf,i1,i2,i3,i5⟩:=zJ hi;exact qgr k k2 L' cs' hT i1 i3 hd hg hk ho hb hx hk2 hy hl2 hle hfit h1 hcs hL h
end
def bf.toFront{B:Bs}{w:World}{L:List aG}{k:Nat}{b:aG}(h:bf B L w)(hk:L[k]? =some b):bf B (b::L.eraseIdx k) w:=by
 refine h.reindex (fun i=>if i=0 then k else if i-1<k then i-1 else i) (fun i c hc=>?_) (fun i j _ _ e=>?_)
 ·cases i with
  |zero=>simp at hc;subst hc;simpa using hk
  |succ i=>
   simp only[List.getElem?_cons_succ,List.getElem?_eraseIdx] at hc
   by_cases c1:i<k
   ·rw[if_pos c1] at hc;simpa[c1] using hc
   ·rw[if_neg c1] at hc;simpa[c1] using hc
 ·skip
  split at e<;>split at e<;>(try split at e)<;>(try split at e)<;>omega
def bf.fromFront{B:Bs}{w:World}{L:List aG}{k:Nat}{b b':aG}(hk:L[k]? =some b)(h:bf B (b'::L.eraseIdx k) w):bf B (L.set k b') w:=by
 have hkl:=(List.getElem?_eq_some_iff.1 hk).1;refine h.reindex (fun i=>if i=k then 0 else if i<k then i+1 else i) (fun i c hc=>?_) (fun i j _ _ e=>?_)
 ·by_cases e:i=k
  ·subst e;rw[List.getElem?_set_self hkl] at hc;simpa using hc
  ·rw[List.getElem?_set_ne (Ne.symm e)] at hc
   by_cases c1:i<k
   ·simp[e,c1,List.getElem?_eraseIdx,hc]
   ·obtain⟨m,rfl⟩:∃m,i=m+1:=⟨i-1,by omega⟩;simp only[if_neg e,if_neg c1,List.getElem?_cons_succ,List.getElem?_eraseIdx];rw[if_neg (by omega)];exact hc
 ·skip
  split at e<;>split at e<;>(try split at e)<;>(try split at e)<;>omega
def qfB(P:Program)(f:Nat)(b:aG)(args:List Value)(v:Value)(b':aG):Prop:=
 ja P f=true∧∀(B:Bs) (w:World) (R:List aG),B.D=[]->bf B (b::R) w->Calls P f args.toArray w fun e w'=>e= .returned v∧bf B (b'::R) w'
section
variable{P:Program}{bl:List Nat}{ops:Array Oper}{K:St->Prop}{rest:List Oper}{nt:Nat}{t:List (Nat×Value)}{L:List aG}{d:Nat}{ty:TypeId}{pos:String}{af:Array Edge}{g:Option (Nat×Bool)}{x y:Operand}
def qcU{f:Nat}{args:List Operand}{ts:Array TypeId}(vs:List Value){v:Value}{b b':aG}(k:Nat)(L':List aG)(hM:IE bl=true)(hd:Nat.blt d nt=true)(hg:ax ops ⟨some d,.call {callee:= .value (.func f),args:=args.toArray,argTypes:=ts},ty,pos,af,g⟩ t=some true)
 (hv:args.map (ev t)=vs.map some)(hc:qfB P f b vs v b')(hk:L[k]? =some b)(hL:L.set k b'=L')(h:aW P bl ops rest ⟨nt,(d,v)::t,L'⟩ K):
 aW P bl ops (⟨some d,.call {callee:= .value (.func f),args:=args.toArray,argTypes:=ts},ty,pos,af,g⟩::rest) ⟨nt,t,L⟩ K:=
 Zl hd hg hM (X:=Unit) (nx:=fun _=>⟨nt,(d,v)::t,L'⟩) (fun hd' B a w hr=>by
 unfold Oper.wp;rw[qP hc.1 a rfl rfl (vs:=vs.toArray) (by simp[oJ hr hv]) w];refine(hc.2 B.d0 w _ rfl (hr.mem.toFront hk).d0).mono ?_;rintro e w' ⟨rfl,hw⟩;refine⟨(),?_⟩;rw[<-hL];exact hr.put hd' (bf.fromFront hk hw.of_d0)) fun _=>h
end
end Go.Via
namespace Go.Via
variable[Mo]
open Go
def mY{x y:Int}(m n:Nat)(hx:x=(m:Int))(hy:y=(n:Int))(h:m/n<=9223372036854775807):IntKind.i64.wrap (x.tdiv y)=((m/n:Nat):Int):=by
 subst hx;subst hy;rw[<-Int.ofNat_tdiv];generalize m/n=q at*;exact wi (by omega) (by omega) rfl
def ZC{x y:Int}(m n:Nat)(hx:x=(m:Int))(hy:y=(n:Int))(h:m/n<18446744073709551616):IntKind.u64.wrap (x.tdiv y)=((m/n:Nat):Int):=by
 subst hx;subst hy;rw[<-Int.ofNat_tdiv];generalize m/n=q at*;exact wu (by omega) (by omega) rfl
def eY{x y:Int}(m n:Nat)(hx:x=(m:Int))(hy:y=(n:Int)):x.tmod y=((m%n:Nat):Int):=by
 subst hx;subst hy;exact(Int.ofNat_tmod m n).symm
def MO{x s:Int}(m k:Nat)(hx:x=(m:Int))(hs:s=(k:Int))(hk:k<=64)(h:m*2^k<18446744073709551616):IntKind.u64.wrap (x*2^(min s.toNat IntKind.u64.bits))=((m*2^k:Nat):Int):=by
 subst hx;subst hs
 have:min (k:Int).toNat IntKind.u64.bits=k:=by rw[TT];omega
 rw[this]
 exact wu (Int.mul_nonneg (by omega) (Int.pow_nonneg (by omega))) (by have:((m*2^k:Nat):Int)<18446744073709551616:=by omega
                                                                      simpa using this) (by simp)
def qcV{x s:Int}(m k:Nat)(hx:x=(m:Int))(hs:s=(k:Int))(hk:k<=32)(h:m*2^k<4294967296):IntKind.u32.wrap (x*2^(min s.toNat IntKind.u32.bits))=((m*2^k:Nat):Int):=by
 subst hx;subst hs
 have:min (k:Int).toNat IntKind.u32.bits=k:=by rw[TU];omega
 rw[this,qcS]
 have e:((m:Int)*2^k)=((m*2^k:Nat):Int):=by simp
 rw[e];omega
def pU{x s:Int}(m k:Nat)(hx:x=(m:Int))(hs:s=(k:Int))(hk:k<=64):x.fdiv (2^(min s.toNat IntKind.u64.bits))=((m/2^k:Nat):Int):=by
 subst hx;subst hs
 have:min (k:Int).toNat IntKind.u64.bits=k:=by rw[TT];omega
 rw[this,Int.fdiv_eq_ediv_of_nonneg _ (Int.pow_nonneg (by omega))]
 simp
def pz{x:Int}(m:Nat)(hx:x=(m:Int))(h:m<18446744073709551616):IntKind.u64.wrap x=(m:Int):=by subst hx;exact wu (by omega) (by omega) rfl
def vT{x:Int}(m:Nat)(hx:x=(m:Int)):IntKind.u32.wrap x=((m%4294967296:Nat):Int):=by subst hx;rw[qcS];omega
def c8{x:Int}(m:Nat)(hx:x=(m:Int)):IntKind.u8.wrap x=((m%256:Nat):Int):=by subst hx;rw[wu8];omega
def lq{k:IntKind}{l:List Nat}(h:0<l.length):NV k l≠[]:=by
 intro e;have:=congrArg List.length e;rw[aA] at this;simp at this;subst this;simp at h
def FT(k:IntKind)(l:List Nat):∀v∈NV k l,v.oneCell'=true:=by
 intro v hv;obtain⟨n,_,rfl⟩:=List.mem_map.1 hv;rfl
def jX(t:List (Nat×Value)):List (Nat×Value)->Prop
 |[]=>True
 |p::l=>look t p.1=some p.2∧jX t l
def jX.mem{t:List (Nat×Value)}:∀{t':List (Nat×Value)},jX t t'->∀p∈t',look t p.1=some p.2
 |[],_,p,hp=>by cases hp
 |q::l,h,p,hp=>by
  rcases List.mem_cons.1 hp with rfl|hp
  ·exact h.1
  ·exact jX.mem h.2 p hp
def aB{t:List (Nat×Value)}{d:Nat}{v v':Value}(h:look t d=some v)(e:v=v'):look t d=some v':=e▸h
def Nxt{ι:Type}(B:Bs)(nt:Nat)(T:ι->List (Nat×Value))(LL:ι->List aG)(μ:ι->Nat)(i:ι)(a':Act)(w':World):Prop:=∃j,μ j<μ i∧lh B ⟨nt,T j,LL j⟩ a' w'
def qgs{P:Program}{B:Bs}{Q:Exit->Act->World->Prop}{nt:Nat}{t:List (Nat×Value)}{L:List aG}{ι:Type}{c:Code}(T:ι->List (Nat×Value))(LL:ι->List aG)(μ:ι->Nat)(i₀:ι)(ht:jX t (T i₀))(hL:eG L (LL i₀))
 (round:∀i,At B ⟨nt,T i,LL i⟩ (c.wp P (Exit.then (Nxt B nt T LL μ i) Q))):At B ⟨nt,t,L⟩ ((Code.loop c).wp P Q):=
 Xy (fun i=>⟨nt,T i,LL i⟩) μ i₀ (T i₀) (LL i₀) rfl ht.mem hL round
def qiG{B:Bs}{nt:Nat}{t:List (Nat×Value)}{L:List aG}{ι:Type}{T:ι->List (Nat×Value)}{LL:ι->List aG}{μ:ι->Nat}{i:ι}(j:ι)(hμ:μ j<μ i)(ht:jX t (T j))(hL:eG L (LL j)):
 At B ⟨nt,t,L⟩ (Nxt B nt T LL μ i):=
 Zw (inv:=fun i=>⟨nt,T i,LL i⟩) j (T j) (LL j) rfl hμ ht.mem hL
end Go.Via
namespace Go.Via
variable[Mo]
open Go Go.RowKit
def BX(Q:Nat->Prop):List Nat->Prop
 |[]=>True
 |i::l=>Q i∧BX Q l
def BX.mem{Q:Nat->Prop}:∀{l:List Nat},BX Q l->∀i∈l,Q i
 |[],_,i,h=>by cases h
 |j::l,hh,i,h=>by
  rcases List.mem_cons.1 h with rfl|h
  ·exact hh.1
  ·exact BX.mem hh.2 i h
def zK(P:Program)(ops:Array Oper)(K:St->Prop):Nat->Array Bool->St->Prop
 |0,listed,s=>Region.ready .any ops listed=[]∧K s
 |n+1,listed,s=>∃l:List Nat,Region.ready .any ops listed=l∧l.isEmpty=false∧BX (fun i=>∃o,ops[i]? =some o∧aW P [1000000] ops [o] s (fun s'=>zK P ops K n (listed.setIfInBounds i true) s')) l
def OT{P:Program}{ops:Array Oper}{Q:Exit->Act->World->Prop}{K:St->Prop}{B:Bs}(hpost:∀s' a' w',K s'->lh B s' a' w'->Q .normal a' w'):
 ∀(n:Nat) (listed:Array Bool) (s:St) (a:Act) (w:World),zK P ops K n listed s->lh B s a w->wpAny P .any ops Q n listed a w
 |0,listed,s,a,w,h,hr=>⟨h.1,hpost _ _ _ h.2 hr⟩
 |n+1,listed,s,a,w,h,hr=>by
  obtain⟨l,h1,h2,h3⟩:=h;refine⟨fun h0=>?_,fun i hi=>?_⟩
  ·rw[h1] at h0;subst h0;cases h2
  ·rw[h1] at hi;obtain⟨o,ho,hs⟩:=h3.mem i hi;have:=iY.sound (K':=fun a' w'=>wpAny P .any ops Q n (listed.setIfInBounds i true) a' w') (Q:=Q) hs hr (fun s' a' w' hk hr'=>OT hpost n _ s' a' w' hk hr')
   unfold wpOp;rw[ho];dsimp only
   split
   ·rename_i hw;rw[if_pos hw] at this;exact .inl this
   ·rename_i hw;rw[if_neg hw] at this;exact this
def qcW{P:Program}{B:Bs}{Q:Exit->Act->World->Prop}{nt:Nat}{t:List (Nat×Value)}{L:List aG}{id:Nat}{l:List Oper}(T:List (Nat×Value))(L':List aG)(hm:P.follows .mixedOrders=true)
 (h:zK P l.toArray (fun s'=>s'.nt=nt∧jX s'.t T∧s'.L=L') l.toArray.size (Array.replicate l.toArray.size false) ⟨nt,t,L⟩)(hk:At B ⟨nt,T,L'⟩ (Q .normal)):
 At B ⟨nt,t,L⟩ ((Code.region id l.toArray true).wp P Q):=fun a w hr=>by
 refine wp_region_any hm ?_;refine OT (K:=fun s'=>s'.nt=nt∧jX s'.t T∧s'.L=L') (B:=B) (fun s' a' w' hK hrel=>?_) _ _ ⟨nt,t,L⟩ a _ h hr.drew;obtain⟨h1,h2,h3⟩:=hK;refine hk a' w' ?_;have:=hrel.sub (t:=T) fun d v hd=>h2.mem (d,v) (uG hd)
 rw[h1,h3] at this;exact this
def fQ{P:Program}{ops:Array Oper}{K:St->Prop}{n:Nat}{listed:Array Bool}{s:St}(l:List Nat)(h1:Region.ready .any ops listed=l)(h2:l.isEmpty=false)
 (h:BX (fun i=>∃o,ops[i]? =some o∧aW P [1000000] ops [o] s (fun s'=>zK P ops K n (listed.setIfInBounds i true) s')) l):zK P ops K (n+1) listed s:=⟨l,h1,h2,h⟩
end Go.Via
namespace Go.Via
variable[Mo]
open Go Go.RowKit
section
variable{P:Program}{bl:List Nat}{ops:Array Oper}{K:St->Prop}{rest:List Oper}{nt:Nat}{t:List (Nat×Value)}{L:List aG}{d:Nat}{ty:TypeId}{pos:String}{af:Array Edge}{g:Option (Nat×Bool)}{x y:Operand}
def XB{T e:Nat}{inf:TypeInfo}{bb:Option Nat}{len cap c2:Nat}{b2:Option Nat}(hT:P.underlying T=some (.slice e))(hi:P.info? e=some inf)(hd:Nat.blt d nt=true)
 (hg:ax ops ⟨some d,.call {callee:= .builtin .append,args:= #[x,y],argTypes:= #[T,T]},ty,pos,af,g⟩ t=some true)
 (hx:ev t x=some (az bb 0 len cap))(hcap:len<=cap)(hy:ev t y=some (az b2 0 0 c2))(h:aW P bl ops rest ⟨nt,(d,az bb 0 len cap)::t,L⟩ K):
 aW P bl ops (⟨some d,.call {callee:= .builtin .append,args:= #[x,y],argTypes:= #[T,T]},ty,pos,af,g⟩::rest) ⟨nt,t,L⟩ K:=
 gq hd hg rfl (fun B a w hr=>by
 have hx':=hr.ev hx;have hy':=hr.ev hy;have hs:Src P inf.size T (az b2 0 0 c2) 0 [] w:=by
  cases b2 with
  |none=>exact Src.ofNil (P:=P) w hT c2
  |some g2=>exact Src.ofSlice (P:=P) w hT ⟨g2,0,none⟩ 0 c2 [] (by simp) (fun j u hj=>by simp at hj) (fun u hu=>by cases hu)
 have r1:=run_append_nothing (P:=P) w T T ty e inf hT hi (bb.map fun g=>⟨g,0,none⟩) len cap hcap (az b2 0 0 c2) hs;have r2:(execOp a.eval ⟨some d,.call {callee:= .builtin .append,args:= #[x,y],argTypes:= #[T,T]},ty,pos,af,g⟩).run P w=((Builtin.append_ #[T,T] ty #[az bb 0 len cap,az b2 0 0 c2]).run P w).andThen fun v w=> .ok (.value v) w:=by
  simp[execOp,resolve,invoke,builtin,hx',hy']
 rw[r2];unfold az at r1 ⊢;rw[r1];rfl) h
end
end Go.Via
namespace Go.Via
variable[Mo]
open Go Go.RowKit
def pV(P:Program)(bl:List Nat)(ops:Array Oper)(K:St->Prop):Nat->List Nat->St->Prop
 |0,Ts,s=>Ts=[]∧K s
 |n+1,Ts,s=>BX (fun i=>∃o,ops[i]? =some o∧aW P bl ops [o] s (fun s'=>pV P bl ops K n (Ts.filter (· !=i)) s')) (Ts.filter fun i=> !Ts.any fun j=>waitsF ops ops.size i j)
def BX.mono{Q Q':Nat->Prop}(h:∀i,Q i->Q' i):∀{l:List Nat},BX Q l->BX Q' l
 |[],_=>trivial
 |_::_,hh=>⟨h _ hh.1,BX.mono h hh.2⟩
def pV.kc{P:Program}{bl:List Nat}{ops:Array Oper}{K:St->Prop}(hK:KC K):∀(n:Nat) (Ts:List Nat),KC (pV P bl ops K n Ts)
 |0,Ts=>fun s1 s2 he h=>⟨h.1,hK s1 s2 he h.2⟩
 |n+1,Ts=>fun s1 s2 he h=>BX.mono (fun i ⟨o,h1,h2⟩=>⟨o,h1,aW.kc (pV.kc hK n _) [o] s1 s2 he h2⟩) h
def pV.mono{P:Program}{bl:List Nat}{ops:Array Oper}{K K':St->Prop}(hK:∀s,K s->K' s):∀(n:Nat) (Ts:List Nat) (s:St),pV P bl ops K n Ts s->pV P bl ops K' n Ts s
 |0,Ts,s,h=>⟨h.1,hK s h.2⟩
 |n+1,Ts,s,h=>BX.mono (fun i ⟨o,h1,h2⟩=>⟨o,h1,h2.mono (fun s'=>pV.mono hK n _ s')⟩) h
def aW.append{P:Program}{bl:List Nat}{ops:Array Oper}{K:St->Prop}:∀{l l2:List Oper} {s:St},aW P bl ops l s (fun s'=>aW P bl ops l2 s' K)->aW P bl ops (l++l2) s K
 |[],_,_,h=>h
 |_::l,l2,_,h=>iY.mono (fun _ h1=>aW.append (l:=l) h1) h
structure TY(ops:Array Oper)(l:List Nat):Prop where
 lt:∀i∈l,i<ops.size
 nw:l.Pairwise (fun p i=>jF ops p i=true)
 self:∀i∈l,jF ops i i=true
 ed:∀i∈l,ry ops i=true
 nodup:l.Nodup
def TY.sub{ops:Array Oper}{l l':List Nat}(h:TY ops l)(hs:l'.Sublist l):TY ops l':=
 ⟨fun i hi=>h.lt i (hs.subset hi),h.nw.sublist hs,fun i hi=>h.self i (hs.subset hi),fun i hi=>h.ed i (hs.subset hi),h.nodup.sublist hs⟩
def LP{P:Program}{bl:List Nat}{ops:Array Oper}{Q:Exit->Act->World->Prop}{K:St->Prop}{B:Bs}(hK:KC K)(hpost:∀s' a' w',K s'->lh B s' a' w'->Q .normal a' w'):
 ∀(n:Nat) (l Ts:List Nat) (listed:Array Bool) (s:St) (a:Act) (w:World),(l++Ts).length=n->TY ops (l++Ts)->l.Pairwise (fun p i=>sW bl ops p i=true)->(∀p∈l,∀i∈Ts,sW bl ops p i=true)->listed.size=ops.size->
  (∀j,j<ops.size->(listed.getD j true=false↔j∈l++Ts))->OI ops listed->aW P bl ops (l.map fun i=>ops.getD i default) s (pV P bl ops K Ts.length Ts)->lh B s a w->
  wpAny P .any ops Q n listed a w:=by
 intro n
 induction n with
 |zero=>
  intro l Ts listed s a w hn ho hok hokT hsz hl hc hr h;have h0:l++Ts=[]:=List.eq_nil_of_length_eq_zero hn;obtain⟨rfl,rfl⟩:=List.append_eq_nil_iff.1 h0;refine⟨?_,hpost _ _ _ hr.2 h⟩;rcases hh:Region.ready .any ops listed with _|⟨i,r⟩
  ·rfl
  ·exfalso
   obtain⟨h1,o,ho',_⟩:=mem_ready.1 (show i∈Region.ready .any ops listed by rw[hh];simp);have:=(hl i (Array.getElem?_eq_some_iff.1 ho').1).1 h1;simp at this
 |succ n ih=>
  intro l Ts listed s a w hn ho hok hokT hsz hl hc hr h;refine⟨fun h0=>?_,fun i hi=>?_⟩
  ·exfalso
   obtain⟨i0,rest,he⟩:∃i0 rest,l++Ts=i0::rest:=by
    cases hlt:l++Ts with
    |nil=>rw[hlt] at hn;cases hn
    |cons x y=>exact⟨x,y,rfl⟩
   rw[he] at ho hl;have hi0:=ho.lt i0 (by simp);have:i0∈Region.ready .any ops listed:=by
    refine mem_ready.2 ⟨(hl i0 hi0).2 (by simp),ops[i0],Array.getElem?_eq_getElem hi0,fun e hee hb=>?_⟩
    rcases hx:listed.getD e.on false with _|_
    ·exfalso
     have hself:=ho.self i0 (by simp);have hnw:∀j,j∈rest->jF ops i0 j=true:=fun j hj=>(List.pairwise_cons.1 ho.nw).1 j hj
     have key:∀j,jF ops i0 j=true->e.on≠j:=fun j hj e'=>by
      unfold jF at hj;rw[Array.getElem?_eq_getElem hi0] at hj;have:=(Array.all_eq_true'.1 hj) e hee;simp[hb,e'] at this
     rcases Nat.lt_or_ge e.on ops.size with hlt|hge
     ·have hun:listed.getD e.on true=false:=by
       have:e.on<listed.size:=(by rw[hsz];exact hlt);simp[this] at hx ⊢;exact hx
      have:=(hl e.on hlt).1 hun;rcases List.mem_cons.1 this with h1|h1
      ·exact key i0 hself h1
      ·exact key e.on (hnw _ h1) rfl
     ·have hj:=ho.ed i0 (by simp);unfold ry at hj;rw[Array.getElem?_eq_getElem hi0] at hj;have:=(Array.all_eq_true'.1 hj) e hee;simp[hb] at this;omega
    ·rfl
   rw[h0] at this;cases this
  ·obtain⟨hun,oi,hoi,hall⟩:=mem_ready.1 hi;have hilt:=(Array.getElem?_eq_some_iff.1 hoi).1;have hil:i∈l++Ts:=(hl i hilt).1 hun;have hoid:ops.getD i default=oi:=by simp[hoi]
   have hnowait:∀p,p∈l++Ts->waitsF ops ops.size i p=false:=fun p hp=>by
    rcases hw:waitsF ops ops.size i p with _|_
    ·rfl
    ·exfalso
     have h1:=ru hc hw (fun o ho' e he hb=>by rw[hoi] at ho';cases ho';exact hall e he hb);have h2:=(hl p (ho.lt p hp)).2 hp;rw[OJ h2] at h1;cases h1
   have pass:∀p,p∈l++Ts->sW bl ops p i=true->∃op,ops[p]? =some op∧iU op=true∧vU bl oi=true∧jT op=false∧op.apart ops oi=true:=by
    intro p hp hpo;unfold sW at hpo;rw[hnowait p hp,Bool.false_or,hoi] at hpo;cases hop:ops[p]? with
    |none=>rw[hop] at hpo;cases hpo
    |some op=>
     rw[hop] at hpo;simp only[Bool.and_eq_true,Bool.not_eq_true'] at hpo;exact⟨op,rfl,hpo.1.1.1,hpo.1.1.2,hpo.1.2,hpo.2⟩
   have front:∀(pre post:List Nat) (K':St->Prop),KC K'->(∀p∈pre,p∈l++Ts∧sW bl ops p i=true)->aW P bl ops ((pre++i::post).map fun i=>ops.getD i default) s K'->
    iY P bl ops oi s (fun s'=>aW P bl ops ((pre++post).map fun i=>ops.getD i default) s' K'):=by
    intro pre post K' hK' hpre hr1;rw[List.map_append,List.map_cons,hoid] at hr1;rw[List.map_append];cases hpz:pre with
    |nil=>rw[hpz] at hr1;exact hr1
    |cons p0 pre0=>
     obtain⟨hp1,hp2⟩:=hpre p0 (by rw[hpz];simp);obtain⟨op0,_,_,hmi,_,_⟩:=pass p0 hp1 hp2;rw[<-hpz];refine aW.front hK' hmi ?_ hr1;intro q hq;obtain⟨p,hp,rfl⟩:=List.mem_map.1 hq;obtain⟨hp1,hp2⟩:=hpre p hp;obtain⟨op,hop,h1,h2,h3,h4⟩:=pass p hp1 hp2;have:ops.getD p default=op:=by simp[hop]
     rw[this];exact⟨h1,h3,h4⟩
   obtain⟨l',Ts',hsub,hlen,hmem,hsl,hst,hstep⟩:∃l' Ts':List Nat,(l'++Ts').Sublist (l++Ts)∧(l'++Ts').length=n∧(∀j,j∈l'++Ts'↔j∈l++Ts∧j≠i)∧l'.Sublist l∧(∀j∈Ts',j∈Ts)∧
    iY P bl ops oi s (fun s'=>aW P bl ops (l'.map fun i=>ops.getD i default) s' (pV P bl ops K Ts'.length Ts')):=by
    have hnd:=ho.nodup
    by_cases hi1:i∈l
    ·obtain⟨pre,post,rfl⟩:=List.append_of_mem hi1;refine⟨pre++post,Ts,?_,?_,fun j=>?_,List.Sublist.append (List.Sublist.refl _) (List.sublist_cons_self _ _),fun j hj=>hj,?_⟩
     ·exact List.Sublist.append (List.Sublist.append (List.Sublist.refl _) (List.sublist_cons_self _ _)) (List.Sublist.refl _)
     ·simp at hn ⊢;omega
     ·have h1:i∉pre++post++Ts:=by
       intro hm;rw[show pre++i::post++Ts=pre++i::(post++Ts) by simp] at hnd;have h2:=List.nodup_append.1 hnd;rw[List.append_assoc] at hm;rcases List.mem_append.1 hm with h3|h3
       ·exact h2.2.2 i h3 i (by simp) rfl
       ·exact(List.nodup_cons.1 h2.2.1).1 h3
      constructor
      ·intro hj;refine⟨?_,fun e=>h1 (e▸hj)⟩
       simp at hj ⊢;rcases hj with h|h|h<;>simp[h]
      ·rintro⟨hj,hne⟩;simp at hj ⊢;rcases hj with h|h|h|h
       ·simp[h]
       ·exact absurd h hne
       ·simp[h]
       ·simp[h]
     ·exact front pre post _ (pV.kc hK _ _) (fun p hp=>⟨by simp[hp],(List.pairwise_append.1 hok).2.2 p hp i (by simp)⟩) hr
    ·have hi2:i∈Ts:=by
      rcases List.mem_append.1 hil with h1|h1
      ·exact absurd h1 hi1
      ·exact h1
     have hndT:Ts.Nodup:=(List.nodup_append.1 hnd).2.1;obtain⟨pre,post,rfl⟩:=List.append_of_mem hi2;have hnot:i∉pre∧i∉post:=by
      have h2:=List.nodup_append.1 hndT;exact⟨fun h3=>h2.2.2 i h3 i (by simp) rfl,(List.nodup_cons.1 h2.2.1).1⟩
     have hfil:(pre++i::post).filter (· !=i)=pre++post:=by
      rw[List.filter_append,List.filter_cons];simp only[bne_self_eq_false,Bool.false_eq_true,if_false];rw[List.filter_eq_self.2 (fun j hj=>by have:j≠i:=fun e=>hnot.1 (e▸hj);simpa using this),List.filter_eq_self.2 (fun j hj=>by have:j≠i:=fun e=>hnot.2 (e▸hj);simpa using this)]
     refine⟨l,pre++post,?_,?_,fun j=>?_,List.Sublist.refl _,fun j hj=>?_,?_⟩
     ·exact List.Sublist.append (List.Sublist.refl _) (List.Sublist.append (List.Sublist.refl _) (List.sublist_cons_self _ _))
     ·simp at hn ⊢;omega
     ·constructor
      ·intro hj;refine⟨?_,fun e=>?_⟩
       ·simp at hj ⊢;rcases hj with h|h|h<;>simp[h]
       ·subst e;simp at hj;rcases hj with h|h|h
        ·exact hi1 h
        ·exact hnot.1 h
        ·exact hnot.2 h
      ·rintro⟨hj,hne⟩;simp at hj ⊢;rcases hj with h|h|h|h
       ·simp[h]
       ·simp[h]
       ·exact absurd h hne
       ·simp[h]
     ·simp at hj ⊢;rcases hj with h|h<;>simp[h]
     ·have hr2:aW P bl ops ((l++[i]).map fun i=>ops.getD i default) s (pV P bl ops K (pre++post).length (pre++post)):=by
       rw[List.map_append];refine aW.append (hr.mono fun s' hs'=>?_);have hlen:(pre++i::post).length=(pre++post).length+1:=by simp;omega
       rw[hlen] at hs';have hs2:BX _ _:=hs';have hmi:i∈(pre++i::post).filter (fun i'=> !(pre++i::post).any fun j=>waitsF ops ops.size i' j):=by
        refine List.mem_filter.2 ⟨by simp,?_⟩;rw[Bool.not_eq_true',Bool.eq_false_iff];intro h1;obtain⟨j,hj,hw⟩:=List.any_eq_true.1 h1;rw[hnowait j (by simp at hj ⊢;rcases hj with h|h|h<;>simp[h])] at hw;cases hw
       obtain⟨o,ho1,ho2⟩:=hs2.mem i hmi;rw[hoi] at ho1;cases ho1;rw[hfil] at ho2;rw[List.map_singleton,hoid];exact ho2
      have:=front l [] _ (pV.kc hK _ _) (fun p hp=>⟨by simp[hp],hokT p hp i (by simp)⟩) hr2
      simpa using this
   unfold wpOp;rw[hoi];dsimp only;have hS:=iY.sound (K':=wpAny P .any ops Q n (listed.setIfInBounds i true)) (Q:=Q) hstep h (fun s' a' w' hk hrel=>by
 refine ih l' Ts' (listed.setIfInBounds i true) s' a' w' hlen (ho.sub hsub) (hok.sublist hsl) (fun p hp j hj=>hokT p (hsl.subset hp) j (hst j hj)) (by simpa using hsz) ?_ ?_ hk hrel
 ·intro j hj;rw[hmem j]
  by_cases hij:i=j
  ·subst hij;have:i<listed.size:=by rw[hsz];exact hilt
   simp[this]
  ·rw[getD_set_ne true hij,hl j hj];simp[Ne.symm hij]
 ·intro j hj o hoj e he hb
  by_cases hij:i=j
  ·subst hij;rw[hoi] at hoj;cases hoj;exact getD_set_true (hall e he hb)
  ·rw[getD_set_ne false hij] at hj;exact getD_set_true (hc j hj o hoj e he hb))
   split
   ·rename_i hw;rw[if_pos hw] at hS;exact .inl hS
   ·rename_i hw;rw[if_neg hw] at hS;exact hS
def Jm(bl:List Nat)(ops:Array Oper)(perm T:List Nat):Bool:=
 decide ((perm++T).length=ops.size)&&(perm++T).all (fun i=>decide (i<ops.size))&&(List.range ops.size).all (fun i=>(perm++T).contains i)&&
 iZ (sW bl ops) perm&&perm.all (fun p=>T.all fun i=>sW bl ops p i)&&iZ (jF ops) (perm++T)&&(perm++T).all (fun i=>jF ops i i)&&(perm++T).all (fun i=>ry ops i)&&iZ (fun i j=>i !=j) (perm++T)
def XC{P:Program}{bl:List Nat}{id:Nat}{ops:Array Oper}{Q:Exit->Act->World->Prop}{s:St}{B:Bs}{w:World}{a:Act}(perm T:List Nat){l:List Oper}{K:St->Prop}
 (hm:P.follows .mixedOrders=true)(hc:Jm bl ops perm T=true)(hl:perm.map (fun i=>ops.getD i default)=l)(hr:aW P bl ops l s (pV P bl ops K T.length T))
 (hpost:∀s' a' w',K s'->lh B s' a' w'->Q .normal a' w')(h:lh B s a w):(Code.region id ops true).wp P Q a w:=by
 simp only[Jm,Bool.and_eq_true,decide_eq_true_eq] at hc;obtain⟨⟨⟨⟨⟨⟨⟨⟨hlen,hlt⟩,hall⟩,hpo⟩,hpt⟩,hnw⟩,hself⟩,hed⟩,hnd⟩:=hc;have hOrd:TY ops (perm++T):=⟨fun i hi=>of_decide_eq_true (List.all_eq_true.1 hlt i hi),iE hnw,fun i hi=>List.all_eq_true.1 hself i hi,fun i hi=>List.all_eq_true.1 hed i hi,(iE hnd).imp (fun h=>by simpa using h)⟩
 subst hl;have hK:KC (fun s'=>∃s0,Dj s0 s'∧K s0):=fun s1 s2 he ⟨s0,h0,h1⟩=>⟨s0,h0.trans he,h1⟩
 refine wp_region_any hm ?_;refine LP hK (fun s' a' w' ⟨s0,he,hk⟩ hrel=>hpost s0 a' w' hk (he.symm.rel hrel)) ops.size perm T _ s a _ hlen hOrd (iE hpo) (fun p hp i hi=>List.all_eq_true.1 (List.all_eq_true.1 hpt p hp) i hi) (by simp) ?_ ?_
  (hr.mono (fun s' hs'=>pV.mono (fun s1 h1=>⟨s1,Dj.refl _,h1⟩) _ _ s' hs')) h.drew
 ·intro j hj;have:j∈perm++T:=by
   have:=List.all_eq_true.1 hall j (List.mem_range.2 hj);exact List.contains_iff_mem.1 this
  simp only[this,iff_true];simp[hj]
 ·intro j hj
  exfalso
  rcases Nat.lt_or_ge j ops.size with h1|h1
  ·simp[h1] at hj
  ·simp[h1] at hj
def qQ{P:Program}{B:Bs}{Q:Exit->Act->World->Prop}{s:St}{id:Nat}{l l':List Oper}(bl perm T:List Nat)(hm:P.follows .mixedOrders=true)(hc:Jm bl l.toArray perm T=true)(hl:perm.map (fun i=>l.toArray.getD i default)=l')
 (h:aW P bl l.toArray l' s (pV P bl l.toArray (fun s'=>At B s' (Q .normal)) T.length T)):At B s ((Code.region id l.toArray true).wp P Q):=fun a w hr=>
 XC (K:=fun s'=>At B s' (Q .normal)) perm T hm hc hl h (fun s' a' w' h1 h2=>h1 a' w' h2) hr
def aJ{P:Program}{bl:List Nat}{ops:Array Oper}{K:St->Prop}{n:Nat}{Ts:List Nat}{s:St}(l:List Nat)(hl:(Ts.filter fun i=> !Ts.any fun j=>waitsF ops ops.size i j)=l)
 (h:BX (fun i=>∃o,ops[i]? =some o∧aW P bl ops [o] s (fun s'=>pV P bl ops K n (Ts.filter (· !=i)) s')) l):pV P bl ops K (n+1) Ts s:=by
 subst hl;exact h
end Go.Via
namespace Go.Via
def jU{P:Program}{bl:List Nat}{ops:Array Oper}{K:St->Prop}{Ts:List Nat}{s:St}(h:Ts=[])(hk:K s):pV P bl ops K 0 Ts s:=⟨h,hk⟩
end Go.Via
namespace Go.Via
variable[Mo]
open Go Go.RowKit
def FU(P:Program)(f:Nat)(L:List aG)(args:List Value)(X:Type)(res:X->Value)(new:X->List aG):Prop:=
 ja P f=true∧∀w:World,bf w L w->Calls P f args.toArray w fun e w'=>∃x,e= .returned (res x)∧bf w (new x) w'∧∀b∈new x,∀g,b.base=some g->w.heap.size<=g∨∃b0∈L,b0.base=some g
def OU{B:Bs}{w:World}{L:List aG}(h:bf B L w)(k:Nat){b:aG}(hk:L[k]? =some b)(ho:b.own=true):∀g,b.base=some g->B.own g:=fun g hg=>((h.blk k b hk).1 g hg).2 ho
def aG.un(b:aG):aG:={b with own:=false}
theorem bf.un{B:Bs}{w:World}{L:List aG}(h:bf B L w):bf B (L.map aG.un) w:=h.mono fun k b' hk=>by
 rw[List.getElem?_map,Option.map_eq_some_iff] at hk;obtain⟨b,h1,rfl⟩:=hk;exact⟨b,h1,⟨rfl,rfl,rfl,⟨b.cs.length,by simp[aG.un]⟩,fun h=>by cases h⟩⟩
def FU.mono{P:Program}{f:Nat}{L:List aG}{args:List Value}{X Y:Type}{res:X->Value}{new:X->List aG}{res':Y->Value}{new':Y->List aG}(h:FU P f L args X res new)(m:∀x,∃y,res x=res' y∧new x=new' y):
 FU P f L args Y res' new':=by
 refine⟨h.1,fun w hL=>(h.2 w hL).mono ?_⟩
 rintro e w' ⟨x,rfl,hx,hf⟩;obtain⟨y,h1,h2⟩:=m x;exact⟨y,by rw[h1],by rw[<-h2];exact hx,by rw[<-h2];exact hf⟩
def bf.joinA{B:Bs}{w w':World}{L L0 new:List aG}(h:bf B L w)(h':bf w new w')(hc:∀b0∈L0,∀g,b0.base=some g->∃(k:Nat) (b:aG),L[k]? =some b∧b.base=some g∧b.own=false)
 (hf:∀b∈new,∀g,b.base=some g->w.heap.size<=g∨∃b0∈L0,b0.base=some g)(hng:∀b∈new,b.base=none->b.e<dC):bf B (L++new) w':=by
 have hs:=h.same h'.below;refine⟨hs.bel,fun k b hk=>?_,fun i j g bi bj hij hi hj ho hg hgj=>?_,hs.grp.app (h'.grp.base h.bel.le) (fun b hb hn T hT he p hp c hc' ho hg=>?_) (fun b hb hn T hT he=>absurd (he▸hng b hb hn) (Jd T))⟩
 rotate_left 2
 ·have h1:=(h.grp b hb hn T hT he p hp).1.lt;obtain⟨j,hj⟩:=List.mem_iff_getElem?.1 hc';have h2:=Ea (((h'.blk j c hj).1 _ hg).2 ho);omega
 ·rw[List.getElem?_append] at hk
  split at hk
  ·exact hs.blk k b hk
  ·obtain⟨a1,a2⟩:=h'.blk _ b hk;exact⟨fun g hg=>⟨(a1 g hg).1,fun ho=>h.bel.le _ ((a1 g hg).2 ho)⟩,a2⟩
 ·rw[List.getElem?_append] at hi hj
  split at hi<;>split at hj
  ·exact hs.apart i j g bi bj hij hi hj ho hg hgj
  ·have h1:=h.lt hi hg;rcases hf bj (List.mem_of_getElem? hj) g hgj with h2|⟨b0,h2,h3⟩
   ·omega
   ·obtain⟨k,b,h4,h5,h6⟩:=hc b0 h2 g h3
    by_cases e:i=k
    ·subst e;rw[hi] at h4;cases h4;rw[ho] at h6;cases h6
    ·exact h.apart i k g bi b e hi h4 ho hg h5
  ·have h1:=h.lt hj hgj;have h2:=Ea (((h'.blk _ bi hi).1 g hg).2 ho);omega
  ·exact h'.apart _ _ g bi bj (by omega) hi hj ho hg hgj
def TZ(L:List aG)(k:Nat):Bool:=match L[k]? with
 |some b=> !b.own
 |none=>false
def Jn{L:List aG}:∀{ks:List Nat} {L0:List aG},jr L (ks.map some) L0->ks.all (TZ L)=true->∀b0∈L0,∀g,b0.base=some g->∃(k:Nat) (b:aG),L[k]? =some b∧b.base=some g∧b.own=false
 |[],[],_,_,b0,h,_,_=>by cases h
 |[],_::_,hp,_,_,_,_,_=>hp.elim
 |_::_,[],hp,_,_,_,_,_=>hp.elim
 |k::ks,c::L0,hp,ho,b0,h,g,hg=>by
  rw[List.all_cons,Bool.and_eq_true] at ho;rcases List.mem_cons.1 h with rfl|h
  ·obtain⟨b,h1,h2⟩:=hp.1;have h3:=ho.1;unfold TZ at h3;rw[h1] at h3;exact⟨k,b,h1,by rw[<-h2.1];exact hg,by simpa using h3⟩
  ·exact Jn hp.2 ho.2 b0 h g hg
section
variable{P:Program}{bl:List Nat}{ops:Array Oper}{K:St->Prop}{rest:List Oper}{nt:Nat}{t:List (Nat×Value)}{L:List aG}{d:Nat}{ty:TypeId}{pos:String}{af:Array Edge}{g:Option (Nat×Bool)}{x y:Operand}
def Jo{f:Nat}{args:List Operand}{ts:Array TypeId}(vs:List Value){L0:List aG}{X:Type}{res:X->Value}{new:X->List aG}(ks:List Nat)(hd:Nat.blt d nt=true)(hg:ax ops ⟨some d,.call {callee:= .value (.func f),args:=args.toArray,argTypes:=ts},ty,pos,af,g⟩ t=some true)
 (hv:args.map (ev t)=vs.map some)(hc:FU P f L0 vs X res new)(hp:jr L (ks.map some) L0)(ho:(L0.all fun b=> !b.own)=true)(hn:ks.all (TZ L)=true)
 (h:∀x,aW P bl ops rest ⟨nt,(d,res x)::t,L++new x⟩ K)(hA:IC bl=false:=by rfl)
 (hng:∀x,∀b∈new x,b.base=none->b.e<dC:=by intro x b hb _;(try simp only[List.mem_cons,List.not_mem_nil,or_false] at hb);first|(subst hb;exact Nat.le_of_ble_eq_true rfl)|(rcases hb with rfl|rfl<;>exact Nat.le_of_ble_eq_true rfl)|(rw[List.mem_singleton.1 hb];exact Nat.le_of_ble_eq_true rfl)):
 aW P bl ops (⟨some d,.call {callee:= .value (.func f),args:=args.toArray,argTypes:=ts},ty,pos,af,g⟩::rest) ⟨nt,t,L⟩ K:=
 Eg hd hg rfl (X:=X) (res:=res) (new:=new) (qfz (s:=⟨nt,t,L⟩) rfl hv hc.1 fun B w hL=>(hc.2 w (hL.asArgs ks hp (fun b hb=>by simpa using List.all_eq_true.1 ho b hb))).mono (by
 rintro e w' ⟨x,rfl,hx,hf⟩;exact⟨x,rfl,hL.joinA hx (Jn hp hn) hf (hng x)⟩)) (fun h1=>by rw[hA] at h1;cases h1) fun x=>h x
end
end Go.Via
