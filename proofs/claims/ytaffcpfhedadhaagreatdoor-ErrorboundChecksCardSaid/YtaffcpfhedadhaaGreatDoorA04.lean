/-
  Part 4 (chapter 32): lemmas, walks. Each theorem states its own conditions.
-/
import GoSem.Core.World
import Derived.MapKept
import Derived.WalkKit
import Derived.WalkSpells
import Derived.WalkLawsBesides
import Derived.Test.YtaffcpfhedadhaaGreatDoorA01
set_option linter.all false
set_option maxRecDepth 20000
set_option maxHeartbeats 20000000
section
variable{P Q:Prop}{T:Type}{R:T->Prop}
def qfg(h:P:=by
 rw[List.getElem?_append] at hk
 split at hk
 ·exact hs.blk k b hk
 ·obtain⟨a1,a2⟩:=h'.blk _ b hk;exact⟨fun g hg=>⟨(a1 g hg).1,fun ho=>h.bel.le _ ((a1 g hg).2 ho)⟩,a2⟩):=h
def qfh(h:P:=by
 by_cases hij:i=j
 ·subst hij;have:i<listed.size:=by rw[hsz];exact hilt
  simp[this]
  simpa using hinot
 ·rw[getD_set_ne true hij,hl j hj];simp[Ne.symm hij]):=h
def qfi(h:P:=by have h1:=(h.grp b hb hn T hT he p hp).1.lt;obtain⟨j,hj⟩:=List.mem_iff_getElem?.1 hc';have h2:=JQ (((h'.blk j c hj).1 _ hg).2 ho);omega):=h
def Yg(h:P:=by subst hij;rw[hoi] at hoj;cases hoj;exact getD_set_true (hall e he hb)):=h
def qfj(h:P:=by
 exfalso
 rcases Nat.lt_or_ge j ops.size with h1|h1
 ·simp[h1] at hj
 ·simp[h1] at hj):=h
def qfk(h:P:=by
 obtain⟨hr',he⟩:=before s rfl B a w hr;have:=h3 B _ w hr'
 rwa [he] at this):=h
def qfl(h:P:=by have h1:=h.lt hj hgj;have h2:=JQ (((h'.blk _ bi hi).1 g hg).2 ho);omega):=h
def MI(h:P:=by cases hb):=h
def pX(h:P:=by simpa using h):=h
def Vq(h:P:=by simp at hk):=h
def MJ(h:P:=by simp at hi):=h
def Et(h:P:=by simp;omega):=h
def Qz(h:P:=by cases dst<;>rfl):=h
def qpS(h:P:=by rw[ho];simpa[Op.operands] using hx):=h
def qpT(h:P:=by rw[<-Vw h.look];exact h3.2 h5 h6):=h
def Vr(h:P:=by cases p.dst<;>rfl):=h
def qa6(h:P:=by cases i.dst<;>rfl):=h
def qa7(h:P:=by rw[hn];exact h0):=h
def qfm(h:P:=by rw[hsz];exact hlt):=h
def qfn(h:P:=by rw[hoi] at ho';cases ho';exact hall e he hb):=h
def MK(h:P:=by simp[hp]):=h
end
namespace Go.Via
open Go
abbrev aQ:Value:= .bool false
abbrev aS:Value:= .string ⟨#[]⟩
abbrev dA(g:Nat):Value:= .pointer (some ⟨g,0,none⟩)
abbrev bF(n:Nat):Value:= .int .i64 (n:Int)
inductive MT where
 |l (n:Nat)
 |p (a b:MT)
def pr(a b:Nat):Nat:=2^a*(2*b+1)
def qfo:∀{a b c d:Nat},pr a b=pr c d->a=c∧b=d
 |0,b,0,d,h=>by simp[pr] at h;exact⟨rfl,ae⟩
 |0,b,c+1,d,h=>by
  unfold pr at h;rw[Nat.pow_succ,Nat.pow_zero,Nat.one_mul,Nat.mul_comm (2^c) 2,Nat.mul_assoc] at h;omega
 |a+1,b,0,d,h=>by
  unfold pr at h;rw[Nat.pow_succ,Nat.pow_zero,Nat.one_mul,Nat.mul_comm (2^a) 2,Nat.mul_assoc] at h;omega
 |a+1,b,c+1,d,h=>by
  unfold pr at h;rw[Nat.pow_succ,Nat.pow_succ,Nat.mul_comm (2^a) 2,Nat.mul_comm (2^c) 2,Nat.mul_assoc,Nat.mul_assoc] at h;have h2:pr a b=pr c d:=by unfold pr;omega
  obtain⟨h3,h4⟩:=qfo h2;exact⟨ae,h4⟩
def MT.num:MT->Nat
 | .l n=>2*n
 | .p a b=>2*pr a.num b.num+1
theorem MT.num_inj:∀{x y:MT},x.num=y.num->x=y
 | .l a,.l b,h=>by simp only[MT.num] at h;rw[show a=b by omega]
 | .l a,.p b c,h=>by simp only[MT.num] at h;omega
 | .p b c,.l a,h=>by simp only[MT.num] at h;omega
 | .p a b,.p c d,h=>by
   simp only[MT.num] at h;obtain⟨h1,h2⟩:=qfo (a:=a.num) (b:=b.num) (c:=c.num) (d:=d.num) ae;rw[MT.num_inj h1,MT.num_inj h2]
def mtL{α:Type}(f:α->MT):List α->MT
 |[]=> .l 0
 |x::xs=> .p (f x) (mtL f xs)
theorem DF{α:Type}{f:α->MT}{Q:α->Prop}(hf:∀x y,Q x->Q y->f x=f y->x=y):∀{xs ys:List α},(∀x∈xs,Q x)->(∀y∈ys,Q y)->mtL f xs=mtL f ys->xs=ys
 |[],[],_,_,_=>rfl
 |[],_::_,_,_,h=>by cases h
 |_::_,[],_,_,h=>by cases h
 |x::xs,y::ys,hx,hy,h=>by
  simp only[mtL,MT.p.injEq] at h;rw[hf x y (hx x bz) (hy y bz) h.1,DF hf (fun z hz=>hx z (by simp[hz])) (fun z hz=>hy z (by simp[hz])) h.2]
def mtI(z:Int):MT:=if z<0 then .p (.l 1) (.l z.natAbs) else .p (.l 0) (.l z.natAbs)
theorem qmI{a b:Int}(h:mtI a=mtI b):a=b:=by
 unfold mtI at h
 split at h<;>split at h<;>simp at h<;>omega
def ikN:IntKind->Nat
 | .i8=>0| .i16=>1| .i32=>2| .i64=>3| .u8=>4| .u16=>5| .u32=>6| .u64=>7
theorem qmJ:∀{a b:IntKind},ikN a=ikN b->a=b:=by intro a b;cases a<;>cases b<;>simp[ikN]
def Value.simple0:Value->Bool
 | .bool _| .int .. | .string _=>true
 |_=>false
def Value.simple:Value->Bool
 | .agg xs=>xs.toList.all Value.simple0
 |v=>Value.simple0 v
def mt0:Value->MT
 | .bool b=> .p (.l 0) (.l b.toNat)
 | .int k z=> .p (.l 1) (.p (.l (ikN k)) (mtI z))
 | .string s=> .p (.l 2) (mtL (fun u:UInt8=> .l u.toNat) s.data.toList)
 |_=> .l 9
def SS{x y:Value}(hx:Value.simple0 x=true)(hy:Value.simple0 y=true)(h:mt0 x=mt0 y):x=y:=by
 cases x<;>cases y<;>first|(simp[Value.simple0] at hx;done)|(simp[Value.simple0] at hy;done)|skip
 case bool.bool a b=>simp[mt0] at h;cases a<;>cases b<;>simp at h<;>rfl
 case int.int k a j b=>
  simp[mt0] at h;rw[qmJ h.1,qmI h.2]
 case string.string a b=>
  simp only[mt0,MT.p.injEq,true_and] at h;have:=DF (Q:=fun _=>True) (fun x y _ _ h=>UInt8.toNat_inj.1 (MT.l.inj h)) (fun _ _=>trivial) (fun _ _=>trivial) h;have h2:a.data=b.data:=Array.toList_inj.1 this;cases a;cases b;simp at h2;rw[h2]
 all_goals (simp[mt0] at h)
def mt1:Value->MT
 | .agg xs=> .p (.l 8) (mtL mt0 xs.toList)
 |v=>mt0 v
def qa8{x y:Value}(hx:Value.simple x=true)(hy:Value.simple y=true)(h:mt1 x=mt1 y):x=y:=by
 have key:∀(xs:Array Value) (v:Value),Value.simple0 v=true->mt1 (.agg xs)≠mt0 v:=fun xs v hv e=>by
  cases v<;>simp[Value.simple0] at hv<;>simp[mt1,mt0] at e
 have one:∀v:Value,(∀xs,v≠ .agg xs)->Value.simple v=Value.simple0 v∧mt1 v=mt0 v:=fun v hv=>by
  cases v<;>first|exact⟨rfl,rfl⟩|exact absurd rfl (hv _)
 by_cases cx:∃xs,x= .agg xs
 ·obtain⟨xs,rfl⟩:=cx
  by_cases cy:∃ys,y= .agg ys
  ·obtain⟨ys,rfl⟩:=cy;simp only[mt1,MT.p.injEq,true_and] at h;have:=DF (Q:=fun v=>Value.simple0 v=true) (fun _ _ h1 h2=>SS h1 h2) (fun v hv=>List.all_eq_true.1 hx v hv) (fun v hv=>List.all_eq_true.1 hy v hv) h;rw[Array.toList_inj.1 this]
  ·obtain⟨e1,e2⟩:=one y (fun ys e=>cy ⟨ys,e⟩);rw[e2] at h;exact absurd h (key xs y (by rw[<-e1];exact hy))
 ·obtain⟨e1,e2⟩:=one x (fun ys e=>cx ⟨ys,e⟩)
  by_cases cy:∃ys,y= .agg ys
  ·obtain⟨ys,rfl⟩:=cy;rw[e2] at h;exact absurd h.symm (key ys x (by rw[<-e1];exact hx))
  ·obtain⟨d1,d2⟩:=one y (fun ys e=>cy ⟨ys,e⟩);rw[e2,d2] at h;exact SS (by rw[<-e1];exact hx) (by rw[<-d1];exact hy) h
def uJ(l:List (Value×Value)):Bool:=l.all fun p=>Value.simple p.1&&Value.simple p.2
def mtM(l:List (Value×Value)):MT:=mtL (fun p=> .p (mt1 p.1) (mt1 p.2)) l
def qmK{l m:List (Value×Value)}(hl:uJ l=true)(hm:uJ m=true)(h:mtM l=mtM m):l=m:=
 DF (Q:=fun p=>Value.simple p.1=true∧Value.simple p.2=true) (fun x y h1 h2 h=>Prod.ext (qa8 h1.1 h2.1 (MT.p.inj h).1) (qa8 h1.2 h2.2 (MT.p.inj h).2))
  (fun p hp=>by have:=List.all_eq_true.1 hl p hp;simpa using this) (fun p hp=>by have:=List.all_eq_true.1 hm p hp;simpa using this) h
def qpV:∃f:List (Value×Value)->Nat,∀l m,uJ l=true->uJ m=true->f l=f m->l=m:=
 ⟨fun l=>(mtM l).num,fun _ _ hl hm h=>qmK hl hm (MT.num_inj h)⟩
noncomputable def mE0:List (Value×Value)->Nat:=Classical.choose qpV
abbrev cO:Nat:=1000000
noncomputable def mE(l:List (Value×Value)):Nat:=cO+2*mE0 l
def quE(l:List (Value×Value)):¬mE l<cO:=by unfold mE;omega
def qrF{l m:List (Value×Value)}(hl:uJ l=true)(hm:uJ m=true)(h:mE l=mE m):l=m:=Classical.choose_spec qpV l m hl hm (by unfold mE at h;unfold mE0 at h;omega)
noncomputable def mQ(born:Nat)(key:Value)(l:List (Value×Value)):Nat:=cO+2*mE0 ((.int .i64 born,key)::l)+1
def qrG{l m:List (Value×Value)}{b:Nat}{k:Value}:mE l≠mQ b k m:=by unfold mE mQ;omega
def Value.simpleT:Value->Bool
 | .bool _| .int .. | .string _| .slice .. | .pointer _=>true
 |_=>false
def mtA:Option Addr->MT
 |none=> .l 0
 |some ⟨b,o,none⟩=> .p (.l 0) (.p (.l b) (.l o))
 |some ⟨b,o,some s⟩=> .p (.l 1) (.p (.l b) (.p (.l o) (.l s)))
theorem qa9:∀{a b:Option Addr},mtA a=mtA b->a=b
 |none,none,_=>rfl
 |none,some ⟨_,_,none⟩,h=>by simp[mtA] at h
 |none,some ⟨_,_,some _⟩,h=>by simp[mtA] at h
 |some ⟨_,_,none⟩,none,h=>by simp[mtA] at h
 |some ⟨_,_,some _⟩,none,h=>by simp[mtA] at h
 |some ⟨_,_,none⟩,some ⟨_,_,none⟩,h=>by simp[mtA] at h;simp[h]
 |some ⟨_,_,none⟩,some ⟨_,_,some _⟩,h=>by simp[mtA] at h
 |some ⟨_,_,some _⟩,some ⟨_,_,none⟩,h=>by simp[mtA] at h
 |some ⟨_,_,some _⟩,some ⟨_,_,some _⟩,h=>by simp[mtA] at h;simp[h]
def mtT:Value->MT
 | .slice a l c=> .p (.l 3) (.p (mtA a) (.p (.l l) (.l c)))
 | .pointer a=> .p (.l 4) (mtA a)
 |v=>mt0 v
def qmL{x y:Value}(hx:Value.simpleT x=true)(hy:Value.simpleT y=true)(h:mtT x=mtT y):x=y:=by
 cases x<;>cases y<;>first|(simp[Value.simpleT] at hx;done)|(simp[Value.simpleT] at hy;done)|skip
 case slice.slice a l c a' l' c'=>
  simp[mtT] at h;rw[qa9 h.1,h.2.1,h.2.2]
 case pointer.pointer a b=>
  simp[mtT] at h;rw[qa9 h]
 all_goals first|(exact SS rfl rfl h)|(simp[mtT,mt0] at h)
abbrev P5:=List (Nat×List Value)
def KG(T:P5):Bool:=T.all fun p=>p.2.all Value.simpleT
def qfp(T:P5):MT:=mtL (fun p=> .p (.l p.1) (mtL mtT p.2)) T
def qdm{T U:P5}(hT:KG T=true)(hU:KG U=true)(h:qfp T=qfp U):T=U:=
 DF (Q:=fun p=>p.2.all Value.simpleT=true) (fun x y h1 h2 h=>Prod.ext (MT.l.inj (MT.p.inj h).1) (DF (Q:=fun v=>Value.simpleT v=true) (fun _ _ a b e=>qmL a b e) (fun v hv=>List.all_eq_true.1 h1 v hv) (fun v hv=>List.all_eq_true.1 h2 v hv) (MT.p.inj h).2))
  (fun p hp=>List.all_eq_true.1 hT p hp) (fun p hp=>List.all_eq_true.1 hU p hp) h
def qpW:∃f:P5->Nat,∀T U,KG T=true->KG U=true->f T=f U->T=U:=
 ⟨fun T=>(qfp T).num,fun _ _ hT hU h=>qdm hT hU (MT.num_inj h)⟩
noncomputable def gE(T:P5):Nat:=cO+Classical.choose qpW T
def ML(T:P5):¬gE T<cO:=by unfold gE;omega
def qrH{T U:P5}(hT:KG T=true)(hU:KG U=true)(h:gE T=gE U):T=U:=Classical.choose_spec qpW T U hT hU (by unfold gE at h;omega)
end Go.Via
namespace Go.Via
open Go Go.RowKit
structure aF where
 base:Option Nat
 e:TypeId
 cs:List Value
 n:Nat
 own:Bool
structure St where
 nt:Nat
 t:List (Nat×Value)
 L:List aF
def look:List (Nat×Value)->Nat->Option Value
 |[],_=>none
 |(d,v)::l,k=>bif d==k then some v else look l k
structure Bs where
 w:World
 S:Nat->Prop
 D:List Deferred
abbrev Bs.of(w:World):Bs:=⟨w,fun _=>False,[]⟩
abbrev Bs.d0(B:Bs):Bs:=⟨B.w,B.S,[]⟩
instance:Coe World Bs:=⟨Bs.of⟩
def Bs.own(B:Bs)(g:Nat):Prop:=B.w.heap.size<=g∨B.S g
def Bs.le(B B':Bs):Prop:=∀g,B'.own g->B.own g
def JQ{w:World}{g:Nat}(h:Bs.own (Bs.of w) g):w.heap.size<=g:=h.elim id False.elim
class Mo where
 p:Prop
instance(priority:=low) mo0:Mo:=⟨False⟩
variable[Mo]
structure dV(n:Nat)(w w':World):Prop where
 os:w'.os=w.os
 tape:w'.tape=w.tape
 output:w'.output=w.output
 size:w.heap.size<=w'.heap.size
 block:∀k,k<n->w'.heap[k]? =w.heap[k]?
 drawn:Mo.p->w.drawn<=w'.drawn
def dV.refl(n:Nat)(w:World):dV n w w:=⟨rfl,rfl,rfl,Nat.le_refl _,fun _ _=>rfl,fun _=>Nat.le_refl _⟩
def dV.mono{n m:Nat}{w w':World}(h:dV n w w')(hm:m<=n):dV m w w':=⟨h.os,h.tape,h.output,h.size,fun k hk=>h.block k (Nat.lt_of_lt_of_le hk hm),h.drawn⟩
theorem dV.alloc{n:Nat}{a w:World}(h:dV n a w)(hn:n<=w.heap.size)(o:Obj):dV n a (w.alloc o):=
 ⟨h.os,h.tape,h.output,Nat.le_trans h.size bz,fun k hk=>(Below.heap_alloc _ _ _ ae).trans (h.block k hk),h.drawn⟩
def dV.below{n:Nat}{w w':World}(h:dV n w w'):Below n w w':=⟨h.os,h.tape,h.output,h.size,h.block⟩
structure mD(B:Bs)(w:World):Prop where
 os:w.os=B.w.os
 tape:w.tape=B.w.tape
 output:w.output=B.w.output
 size:B.w.heap.size<=w.heap.size
 block:∀k,k<B.w.heap.size->¬B.S k->w.heap[k]? =B.w.heap[k]?
 drawn:Mo.p->B.w.drawn<=w.drawn
def mD.drew{B:Bs}{w:World}(h:mD B w):mD B w.drew:=⟨h.os,h.tape,h.output,h.size,h.block,fun m=>Nat.le_succ_of_le (h.drawn m)⟩
def mD.trans{B:Bs}{a c:World}(h:mD B a)(k:dV B.w.heap.size a c):mD B c:=
 ⟨k.os.trans h.os,k.tape.trans h.tape,k.output.trans h.output,Nat.le_trans h.size k.size,fun i hi hS=>(k.block i hi).trans (h.block i hi hS),fun m=>Nat.le_trans (h.drawn m) (k.drawn m)⟩
def mD.le{B:Bs}{w:World}(h:mD B w):Bs.le B w:=fun g hg=>by
 rcases hg with hg|hg
 ·exact .inl (Nat.le_trans h.size hg)
 ·exact hg.elim
def mD.below{b w:World}(h:mD b w):dV b.heap.size b w:=⟨h.os,h.tape,h.output,h.size,fun k hk=>h.block k hk id,h.drawn⟩
def mD.of{b w:World}(h:dV b.heap.size b w):mD b w:=⟨h.os,h.tape,h.output,h.size,fun k hk _=>h.block k hk,h.drawn⟩
theorem mD.one{B:Bs}{a c:World}{g:Nat}(h:mD B a)(hg:B.own g)(h1:c.os=a.os)(h2:c.tape=a.tape)(h3:c.output=a.output)(h4:a.heap.size<=c.heap.size)(h5:∀i,i≠g->c.heap[i]? =a.heap[i]?)(h6:a.drawn<=c.drawn:=by exact Nat.le_refl _):mD B c:=
 ⟨h1.trans h.os,h2.trans h.tape,h3.trans h.output,Nat.le_trans h.size h4,fun i hi hS=>(h5 i (fun e=>by
 subst e;rcases hg with hg|hg
 ·omega
 ·exact hS hg)).trans (h.block i hi hS),fun m=>Nat.le_trans (h.drawn m) h6⟩
def qba(w:World)(b:aF)(g:Nat):Prop:=
 ∃cur:Array Value,(∃(e':TypeId) (fr:Nat×Nat),w.heap[g]? =some (.cells cur e' fr)∧(b.own=true->e'=b.e∧fr=(0,0))∧b.e<cO)∧cur.size=b.n∧cur.toList.take b.cs.length=b.cs
def quF(e:Nat)(l:List (Value×Value))(es:Array MapEntry):Prop:=
 e=mE l∨∃(q:Nat) (z:MapEntry),e=mQ z.born z.key l∧es[q]? =some z∧Value.simple z.key=true
def quG(w:World)(b:aF)(g:Nat):Prop:=
 ∃(l:List (Value×Value)) (es:Array MapEntry) (clock:Nat),quF b.e l es∧b.cs=[]∧b.n=0∧uJ l=true∧w.heap[g]? =some (.map es clock)∧es.toList.map (fun e=>(e.key,e.val))=l∧MapKept.Stamped es clock
def tq(B:Bs)(w:World)(b:aF)(g:Nat):Prop:=(qba w b g∨quG w b g)∧(b.own=true->B.own g)
theorem tq.cells{B:Bs}{w:World}{b:aF}{g:Nat}(h:tq B w b g)(hn:b.n≠0∨b.cs≠[]):qba w b g:=by
 rcases h.1 with h|⟨_,_,_,_,h1,h2,_⟩
 ·exact h
 ·rcases hn with hn|hn
  ·exact absurd h2 hn
  ·exact absurd h1 hn
theorem tq.lt{B:Bs}{w:World}{b:aF}{g:Nat}(h:tq B w b g):g<w.heap.size:=by
 rcases h.1 with⟨cur,⟨_,_,h3,_⟩,_⟩|⟨_,_,_,_,_,_,_,h3,_⟩<;>exact(Array.getElem?_eq_some_iff.1 h3).1
def tq.heap{B:Bs}{w w':World}{b:aF}{g:Nat}(h:tq B w b g)(he:w'.heap[g]? =w.heap[g]?):tq B w' b g:=by
 refine⟨?_,h.2⟩;rcases h.1 with⟨cur,⟨e',fr,h3,h4⟩,h5⟩|⟨l,es,c,a1,a2,a3,a4,h3,a5⟩
 ·exact .inl ⟨cur,⟨e',fr,by rw[he];exact h3,h4⟩,h5⟩
 ·exact .inr ⟨l,es,c,a1,a2,a3,a4,by rw[he];exact h3,a5⟩
def quH(e n:Nat):List Value:=[.bool true,.int .u8 (-1),.int .i64 e,.int .i64 n]
def qxq:List Value->Bool
 |[_,.int .u8 (.negSucc _),_,_]=>false
 |_=>true
def quI(s:ByteArray)(pos:Nat):List Value:=[.string s,.int .u8 (-1),.int .i64 (pos:Nat),.bool true]
def qrI:Value->Bool
 | .int .u8 (.negSucc 1)=>true
 |_=>false
def Agr(cs full:List Value):Prop:=full.length<=cs.length∧∀(j:Nat) (v:Value),cs[j]? =some v->qrI v=false->full[j]? =some v
def Agr.refl(cs:List Value):Agr cs cs:=⟨Nat.le_refl _,fun _ _ h _=>h⟩
def uK(w:World)(p:Nat×List Value):Prop:=
 (∃(cur:Array Value) (e':TypeId) (fr:Nat×Nat),w.heap[p.1]? =some (.cells cur e' fr)∧((qxq p.2=true∧Agr p.2 (cur.toList.take p.2.length))∨p.2=quH e' cur.size))∨∃(s:ByteArray) (pos:Nat),w.heap[p.1]? =some (.stringIter s pos)∧p.2=quI s pos
theorem uK.lt{w:World}{p:Nat×List Value}(h:uK w p):p.1<w.heap.size:=by
 rcases h with⟨_,_,_,h1,_⟩|⟨_,_,h1,_⟩<;>exact(Array.getElem?_eq_some_iff.1 h1).1
def uK.heap{w w':World}{p:Nat×List Value}(h:uK w p)(he:w'.heap[p.1]? =w.heap[p.1]?):uK w' p:=by
 rcases h with⟨cur,e',fr,h1,h2⟩|⟨s,pos,h1,h2⟩
 ·exact .inl ⟨cur,e',fr,by rw[he];exact h1,h2⟩
 ·exact .inr ⟨s,pos,by rw[he];exact h1,h2⟩
def mF(B:Bs)(w:World)(L:List aF):Prop:=∀b∈L,b.base=none->∀T:P5,KG T=true->b.e=gE T->∀p∈T,uK w p∧(b.own=true->B.own p.1)∧∀c∈L,c.own=true->c.base≠some p.1
def mF.sub{B:Bs}{w:World}{L L':List aF}(h:mF B w L)(h1:∀b'∈L',b'.base=none->b'.e<cO∨∃b∈L,b.base=none∧b.e=b'.e∧(b'.own=true->b.own=true))
 (h2:∀c'∈L',c'.own=true->∀g,c'.base=some g->∃c∈L,c.own=true∧c.base=some g):mF B w L':=fun b' hb' hn T hT he p hp=>by
 rcases h1 b' hb' hn with hlt|⟨b,hb,n1,n2,n3⟩
 ·exact absurd (he▸hlt) (ML T)
 ·obtain⟨a1,a2,a3⟩:=h b hb n1 T hT (n2.trans he) p hp;refine⟨a1,fun ho=>a2 (n3 ho),fun c' hc' ho hg=>?_⟩
  obtain⟨c,hc,c1,c2⟩:=h2 c' hc' ho p.1 hg;exact a3 c hc c1 c2
def mF.step{B:Bs}{w w':World}{L:List aF}(h:mF B w L)(hw:∀g,g<w.heap.size->(∀c∈L,c.own=true->c.base≠some g)->w'.heap[g]? =w.heap[g]?):mF B w' L:=fun b hb hn T hT he p hp=>by
 obtain⟨a1,a2,a3⟩:=h b hb hn T hT he p hp;exact⟨a1.heap (hw p.1 a1.lt a3),a2,a3⟩
theorem mF.base{B B':Bs}{w:World}{L:List aF}(h:mF B' w L)(hB:Bs.le B B'):mF B w L:=fun b hb hn T hT he p hp=>by
 obtain⟨a1,a2,a3⟩:=h b hb hn T hT he p hp;exact⟨a1,fun ho=>hB _ (a2 ho),a3⟩
def mF.app{B:Bs}{w:World}{L new:List aF}(h:mF B w L)(hn:mF B w new)
 (h1:∀b∈L,b.base=none->∀T:P5,KG T=true->b.e=gE T->∀p∈T,∀c∈new,c.own=true->c.base≠some p.1)
 (h2:∀b∈new,b.base=none->∀T:P5,KG T=true->b.e=gE T->∀p∈T,∀c∈L,c.own=true->c.base≠some p.1):mF B w (L++new):=fun b hb hn' T hT he p hp=>by
 rcases List.mem_append.1 hb with hb|hb
 ·obtain⟨a1,a2,a3⟩:=h b hb hn' T hT he p hp;refine⟨a1,a2,fun c hc ho=>?_⟩
  rcases List.mem_append.1 hc with hc|hc
  ·exact a3 c hc ho
  ·exact h1 b hb hn' T hT he p hp c hc ho
 ·obtain⟨a1,a2,a3⟩:=hn b hb hn' T hT he p hp;refine⟨a1,a2,fun c hc ho=>?_⟩
  rcases List.mem_append.1 hc with hc|hc
  ·exact h2 b hb hn' T hT he p hp c hc ho
  ·exact a3 c hc ho
def mF.nil(B:Bs)(w:World):mF B w []:=fun b hb=>MI
structure aX(B:Bs)(L:List aF)(w:World):Prop where
 bel:mD B w
 blk:∀(k:Nat) (b:aF),L[k]? =some b->(∀g,b.base=some g->tq B w b g)∧(b.base=none->b.cs=[]∧b.n=0)
 apart:∀(i j g:Nat) (bi bj:aF),i≠j->L[i]? =some bi->L[j]? =some bj->bi.own=true->bi.base=some g->bj.base≠some g
 grp:mF B w L
def aX.d0{B:Bs}{w:World}{L:List aF}(h:aX B L w):aX B.d0 L w:=⟨⟨h.bel.os,h.bel.tape,h.bel.output,h.bel.size,h.bel.block,h.bel.drawn⟩,h.blk,h.apart,h.grp⟩
def aX.of_d0{B:Bs}{w:World}{L:List aF}(h:aX B.d0 L w):aX B L w:=⟨⟨h.bel.os,h.bel.tape,h.bel.output,h.bel.size,h.bel.block,h.bel.drawn⟩,h.blk,h.apart,h.grp⟩
def aX.below{b w:World}{L:List aF}(h:aX b L w):dV b.heap.size b w:=h.bel.below
structure kK(B:Bs)(s:St)(a:Act)(w:World):Prop where
 df:a.defers=B.D
 size:a.tmps.size=s.nt
 tmp:∀(d:Nat) (v:Value),look s.t d=some v->a.tmps[d]? =some v
 mem:aX B s.L w
def St.put(s:St)(dst:Option Nat)(v:Value):St:=
 match dst with
 |some d=>{s with t:=(d,v)::s.t}
 |none=>s
def ev(t:List (Nat×Value)):Operand->Option Value
 | .tmp d=>look t d
 | .const v=>some v
 | .global g=>some (.pointer (some ⟨g,0,none⟩))
 | .func f=>some (.func (.func f) #[] #[])
theorem cZ{d k:Nat}{v:Value}{l:List (Nat×Value)}(h:d≠k):look ((d,v)::l) k=look l k:=by
 have:(d==k)=false:=pX;simp[look,this]
theorem dO{d:Nat}{v:Value}{l:List (Nat×Value)}:look ((d,v)::l) d=some v:=by
 simp[look]
def aX.drew{B:Bs}{w:World}{L:List aF}(h:aX B L w):aX B L {w with drawn:=w.drawn+1}:=
 ⟨h.bel.drew,h.blk,h.apart,h.grp⟩
def kK.drew{B:Bs}{w:World}{s:St}{a:Act}(h:kK B s a w):kK B s a {w with drawn:=w.drawn+1}:=
 ⟨h.df,h.size,h.tmp,h.mem.drew⟩
theorem aX.lt{B:Bs}{w:World}{L:List aF}(h:aX B L w){k:Nat}{b:aF}(hk:L[k]? =some b){g:Nat}(hg:b.base=some g):g<w.heap.size:=by
 exact((h.blk k b hk).1 g hg).lt
def aX.ext{B:Bs}{w w':World}{L new:List aF}(h:aX B L w)(hw:dV w.heap.size w w')
 (hnew:∀(k:Nat) (b:aF),new[k]? =some b->(∀g,b.base=some g->tq B w' b g∧w.heap.size<=g)∧(b.base=none->b.cs=[]∧b.n=0))
 (hap:∀(i j g:Nat) (bi bj:aF),i≠j->new[i]? =some bi->new[j]? =some bj->bi.base=some g->bj.base≠some g)(hng:∀b∈new,b.base=none->b.e<cO:=by intro b hb hn;first|(simp at hb;done)|(simp at hb;subst hb;cases hn)):aX B (L++new) w':=by
 have hB:=h.bel.size;refine⟨h.bel.trans (hw.mono hB),fun k b hk=>?_,fun i j g bi bj hij hi hj ho hg hgj=>?_,?_⟩
 rotate_left 2
 ·refine(h.grp.step fun g hg _=>hw.block g hg).app (fun b hb hn T hT he=>absurd (he▸hng b hb hn) (ML T)) (fun b hb hn T hT he p hp c hc ho hg=>?_) (fun b hb hn T hT he=>absurd (he▸hng b hb hn) (ML T));have h1:=(h.grp b hb hn T hT he p hp).1.lt;obtain⟨j,hj⟩:=List.mem_iff_getElem?.1 hc;have h2:=((hnew j c hj).1 _ hg).2;omega
 ·rw[List.getElem?_append] at hk
  split at hk
  ·obtain⟨h1,h2⟩:=h.blk k b hk;exact⟨fun g hg=>(h1 g hg).heap (hw.block g (h.lt hk hg)),h2⟩
  ·obtain⟨h1,h2⟩:=hnew _ b hk;exact⟨fun g hg=>(h1 g hg).1,h2⟩
 ·rw[List.getElem?_append] at hi hj
  split at hi<;>split at hj
  ·exact h.apart i j g bi bj hij hi hj ho hg hgj
  ·have h1:=h.lt hi hg;have h2:=((hnew _ bj hj).1 g hgj).2;omega
  ·have h1:=h.lt hj hgj;have h2:=((hnew _ bi hi).1 g hg).2;omega
  ·exact hap _ _ g bi bj ae hi hj hg hgj
theorem aX.alloc{B:Bs}{w:World}{L:List aF}(h:aX B L w)(e:TypeId)(cs:Array Value)(he:e<cO):
 aX B (L++[⟨some w.heap.size,e,cs.toList,cs.size,true⟩]) (w.alloc (.cells cs e)):=by
 refine h.ext ((dV.refl _ _).alloc (Nat.le_refl _) _) (fun k b hk=>?_) (fun i j g bi bj hij hi hj=>?_)
 ·cases k with
  |zero=>
   simp at hk;subst hk;refine⟨fun g hg=>?_,fun hg=>by cases hg⟩
   simp only[Option.some.injEq] at hg;subst hg;exact⟨⟨.inl ⟨cs,⟨_,_,heap_alloc_new w _,fun _=>⟨rfl,rfl⟩,he⟩,rfl,List.take_of_length_le bz⟩,fun _=> .inl h.bel.size⟩,Nat.le_refl _⟩
  |succ k=>simp at hk
 ·cases i with
  |zero=>cases j with
   |zero=>exact absurd rfl hij
   |succ j=>simp at hj
  |succ i=>simp at hi
def aX.same{B:Bs}{w w':World}{L:List aF}(h:aX B L w)(hw:dV w.heap.size w w'):aX B L w':=by
 have:=h.ext (new:=[]) hw (fun k b hk=>Vq) (fun i j g bi bj hij hi=>MJ)
 simpa using this
def mF.mem{B:Bs}{w:World}{L L':List aF}(h:mF B w L)(hs:∀b∈L',b∈L):mF B w L':=
 h.sub (fun b hb hn=> .inr ⟨b,hs b hb,hn,rfl,id⟩) (fun c hc ho g hg=>⟨c,hs c hc,ho,hg⟩)
def aX.reindex{B:Bs}{w:World}{L L':List aF}(h:aX B L w)(f:Nat->Nat)(hf:∀(i:Nat) (b:aF),L'[i]? =some b->L[f i]? =some b)(hi:∀i j,i<L'.length->j<L'.length->f i=f j->i=j):aX B L' w:=
 ⟨h.bel,fun k b hk=>h.blk (f k) b (hf k b hk),fun i j g bi bj hij h1 h2 ho hg hgj=>
 h.apart (f i) (f j) g bi bj (fun e=>hij (hi i j (List.getElem?_eq_some_iff.1 h1).1 (List.getElem?_eq_some_iff.1 h2).1 e)) (hf i bi h1) (hf j bj h2) ho hg hgj,
 h.grp.mem fun b hb=>by obtain⟨i,hi⟩:=List.mem_iff_getElem?.1 hb;exact List.mem_of_getElem? (hf i b hi)⟩
def aX.joinF{B:Bs}{w w':World}{L new:List aF}(h:aX B L w)(h':aX w new w')(hc:∀b∈new,b.own=true):aX B (L++new) w':=by
 have hs:=h.same h'.below;refine⟨hs.bel,fun k b hk=>?_,fun i j g bi bj hij hi hj ho hg hgj=>?_,hs.grp.app (h'.grp.base h.bel.le) (fun b hb hn T hT he p hp c hc' ho hg=>?_) (fun b hb hn T hT he p hp c hc' ho hg=>?_)⟩
 rotate_left 2
 ·exact qfi
 ·have h1:=JQ ((h'.grp b hb hn T hT he p hp).2.1 (hc b hb));obtain⟨j,hj⟩:=List.mem_iff_getElem?.1 hc';have h2:=h.lt hj hg;omega
 ·exact qfg
 ·rw[List.getElem?_append] at hi hj
  split at hi<;>split at hj
  ·exact hs.apart i j g bi bj hij hi hj ho hg hgj
  ·have h1:=h.lt hi hg;have h2:=JQ (((h'.blk _ bj hj).1 g hgj).2 (hc bj (List.mem_of_getElem? hj)));omega
  ·exact qfl
  ·exact h'.apart _ _ g bi bj ae hi hj ho hg hgj
theorem kK.put{B:Bs}{w w':World}{s:St}{a:Act}(h:kK B s a w){dst:Option Nat}{v:Value}{L':List aF}
 (hd:∀d,dst=some d->d<s.nt)(hL:aX B L' w'):kK B (({s with L:=L'}:St).put dst v) (a.put dst v) w':=by
 cases dst with
 |none=>exact⟨h.df,h.size,h.tmp,hL⟩
 |some d=>
  have hds:d<a.tmps.size:=(by rw[h.size];exact hd d rfl);refine⟨h.df,by simpa[Act.put,St.put] using h.size,fun k x hx=>?_,hL⟩
  by_cases hk:d=k
  ·subst hk;simp only[St.put,dO,Option.some.injEq] at hx;subst hx;simp[Act.put,hds]
  ·simp only[St.put,cZ hk] at hx;have:=h.tmp k x hx;simp[Act.put,Array.getElem?_setIfInBounds_ne hk,this]
def kK.put0{B:Bs}{w:World}{s:St}{a:Act}(h:kK B s a w){dst:Option Nat}{v:Value}
 (hd:∀d,dst=some d->d<s.nt):kK B (s.put dst v) (a.put dst v) w:=h.put (L':=s.L) hd h.mem
theorem kK.ev{B:Bs}{w:World}{s:St}{a:Act}(h:kK B s a w){x:Operand}{v:Value}(hx:ev s.t x=some v):a.eval x=v:=by
 cases x with
 |tmp d=>
  have h1:=h.tmp d v hx;simp[Act.eval,h1]
 |const v=>simp only[Go.Via.ev,Option.some.injEq] at hx;subst hx;rfl
 |global g=>simp only[Go.Via.ev,Option.some.injEq] at hx;subst hx;rfl
 |func f=>simp only[Go.Via.ev,Option.some.injEq] at hx;subst hx;rfl
def Vs:aF:=⟨none,0,[],0,false⟩
def blank:List Nat->List aF->List aF
 |[],L=>L
 |k::bl,L=>blank bl (bif Nat.blt k 1000000 then L.set k Vs else L)
def St.bk(s:St)(bl:List Nat):St:={s with L:=blank bl s.L}
def aX.blank1{B:Bs}{w:World}{L:List aF}(h:aX B L w)(k:Nat):aX B (L.set k Vs) w:=by
 have hb:∀(m:Nat) (b:aF),(L.set k Vs)[m]? =some b->b=Vs∨L[m]? =some b:=fun m b hm=>by
  by_cases e:k=m
  ·subst e
   by_cases hl:k<L.length
   ·rw[List.getElem?_set_self hl] at hm;cases hm;exact .inl rfl
   ·rw[List.getElem?_eq_none Et] at hm;cases hm
  ·rw[List.getElem?_set_ne e] at hm;exact .inr hm
 refine⟨h.bel,fun m b hm=>?_,fun i j g bi bj hij hi hj ho hg hgj=>?_,h.grp.sub (fun b hm hn=>?_) (fun c hm ho g hg=>?_)⟩
 rotate_left 2
 ·obtain⟨m,hm⟩:=List.mem_iff_getElem?.1 hm;rcases hb m b hm with rfl|h1
  ·exact .inl au
  ·exact .inr ⟨b,List.mem_of_getElem? h1,hn,rfl,id⟩
 ·obtain⟨m,hm⟩:=List.mem_iff_getElem?.1 hm;rcases hb m c hm with rfl|h1
  ·cases hg
  ·exact⟨c,List.mem_of_getElem? h1,ho,hg⟩
 ·rcases hb m b hm with rfl|h1
  ·exact⟨fun g hg=>(by cases hg),fun _=>⟨rfl,rfl⟩⟩
  ·exact h.blk m b h1
 ·rcases hb i bi hi with rfl|h1
  ·cases hg
  ·rcases hb j bj hj with rfl|h2
   ·cases hgj
   ·exact h.apart i j g bi bj hij h1 h2 ho hg hgj
theorem aX.blank{B:Bs}{w:World}:∀{bl:List Nat} {L:List aF},aX B L w->aX B (Go.Via.blank bl L) w
 |[],_,h=>h
 |k::bl,_,h=>aX.blank (bl:=bl) (match Nat.blt k 1000000 with|true=>h.blank1 k|false=>h)
def kK.bk{B:Bs}{w:World}{s:St}{a:Act}(h:kK B s a w)(bl:List Nat):kK B (s.bk bl) a w:=⟨h.df,h.size,h.tmp,h.mem.blank⟩
def uM:∀(bl:List Nat) (L new:List aF),∃new',blank bl (L++new)=blank bl L++new'
 |[],L,new=>⟨new,rfl⟩
 |k::bl,L,new=>by
  unfold blank;cases Nat.blt k 1000000 with
  |false=>exact uM bl L new
  |true=>
   simp only[cond_true]
   by_cases hk:k<L.length
   ·obtain⟨n',h⟩:=uM bl (L.set k Vs) new;refine⟨n',?_⟩;rw[List.set_append_left _ _ hk];exact h
   ·obtain⟨n',h⟩:=uM bl (L.set k Vs) (new.set (k-L.length) Vs);refine⟨n',?_⟩;have e:L.set k Vs=L:=List.set_eq_of_length_le ae;rw[List.set_append_right _ _ ae];rw[e] at h ⊢;exact h
theorem qfq(s:St)(bl:List Nat)(dst:Option Nat)(v:Value):(s.put dst v).bk bl=(s.bk bl).put dst v:=Qz
def isSto(o:Oper):Bool:=match o.op with
 | .store .. | .mapUpdate .. | .entryStore .. =>true
 |_=>false
def isME(o:Oper):Bool:=match o.op with
 | .mapEntry .. =>true
 |_=>false
def kz(o:Oper):Bool:=match o.op with
 | .call {callee:= .value _,.. }=>true
 |_=>false
def je(o:Oper):Bool:=match o.op with
 | .call {callee:= .value _,.. }| .call {callee:= .builtin .len,.. }| .call {callee:= .builtin .cap,.. }| .call {callee:= .builtin .min,.. }| .call {callee:= .builtin .max,.. }| .call {callee:= .builtin .unsafeSliceData,.. }| .move _| .nilCheck _| .pick .. | .load .. | .fieldAddr .. | .field .. | .indexAddr .. | .index .. | .binOp .. | .unOp .. | .convert .. | .extract .. | .build .. | .slice .. | .lookup .. | .makeFunc .. =>true
 |_=>false
def az(ops:Array Oper)(o:Oper)(t:List (Nat×Value)):Option Bool:=
 match o.guard with
 |none=>some true
 |some (j,want)=>
  match(ops[j]?).bind (·.dst) with
  |some d=>(look t d).map fun v=>match v with
   | .bool b=>b==want
   |_=>false
  |none=>some false
theorem Gn{ops:Array Oper}{o:Oper}{B:Bs}{w:World}{s:St}{a:Act}(h:kK B s a w){g:Bool}(hg:az ops o s.t=some g):
 Region.wanted o (yielded ops a.tmps)=g:=by
 unfold az at hg;unfold Region.wanted
 split at hg
 ·rename_i h0;rw[h0];simpa using hg
 ·rename_i j want h0
  rw[h0];dsimp only;unfold yielded;cases hd:(ops[j]?).bind (·.dst) with
  |none=>rw[hd] at hg;simp at hg;subst hg;simp
  |some d=>
   rw[hd] at hg;simp only[Option.map_eq_some_iff] at hg;obtain⟨v,h1,h2⟩:=hg;have h3:=h.tmp d v h1;simp only[Option.bind_some,h3];cases v<;>simp_all
def Gp(P:Program)(o:Oper)(s:St)(v:Value):Prop:=
 ∀(B:Bs) (a:Act) (w:World),kK B s a w->(execOp a.eval o).run P w= .ok (.value v) w
def SV(P:Program)(o:Oper)(s:St)(X:Type)(res:X->Value)(new:X->List aF):Prop:=
 ∀(B:Bs) (a:Act) (w:World),kK B s a w->∃f args,(execOp a.eval o).run P w= .ok (.enter f args) w∧
  Calls P f args w fun e w'=>∃x,e= .returned (res x)∧aX B (s.L++new x) w'
def Gq(P:Program)(o:Oper)(s:St)(X:Type)(res:X->Value)(new:X->List aF):Prop:=
 ∀(B:Bs) (a:Act) (w:World),kK B s a w->∃f args,(execOp a.eval o).run P w= .ok (.enter f args) w∧
  Calls P f args w fun e w'=>∃x,e= .returned (res x)∧aX w (new x) w'∧∀b∈new x,b.own=true
def qmM(P:Program)(o:Oper)(s:St)(X:Type)(res:X->Value)(nL:X->List aF):Prop:=
 ∀(B:Bs) (a:Act) (w:World),kK B s a w->(∃f args,(execOp a.eval o).run P w= .ok (.enter f args) w∧
 Calls P f args w fun e w'=>∃x,e= .returned (res x)∧aX B (nL x) w')∨∃x w',(execOp a.eval o).run P w= .ok (.value (res x)) w'∧aX B (nL x) w'
def ku(t:List (Nat×Value)):List (Nat×Operand)->Option (List (Nat×Value))
 |[]=>some []
 |p::l=>(ev t p.2).bind fun v=>(ku t l).map fun r=>(p.1,v)::r
theorem E5{t:List (Nat×Value)}:∀{parts:List (Nat×Operand)} {ps:List (Nat×Value)},parts.map (fun p=>(p.1,ev t p.2))=ps.map (fun p=>(p.1,some p.2))->ku t parts=some ps
 |[],[],_=>rfl
 |[],_::_,h=>by simp at h
 |_::_,[],h=>by simp at h
 |p::parts,q::ps,h=>by
  simp only[List.map_cons,List.cons.injEq,Prod.mk.injEq] at h;unfold ku;rw[h.1.2,E5 h.2,h.1.1];rfl
theorem vH{t t':List (Nat×Value)}:∀{l:List (Nat×Operand)},(∀x∈l.map (·.2),ev t x=ev t' x)->ku t l=ku t' l
 |[],_=>rfl
 |p::l,h=>by
  unfold ku;rw[h p.2 bz,vH fun x hx=>h x (by simp at hx ⊢;exact .inr hx)]
theorem Bg{t:List (Nat×Value)}{f:Operand->Value}(hf:∀x v,ev t x=some v->f x=v):∀{l:List (Nat×Operand)} {ps:List (Nat×Value)},ku t l=some ps->l.map (fun p=>(p.1,f p.2))=ps
 |[],_,h=>by cases h;rfl
 |p::l,ps,h=>by
  unfold ku at h;cases h1:ev t p.2 with
  |none=>rw[h1] at h;cases h
  |some v=>
   rw[h1] at h;cases h2:ku t l with
   |none=>rw[h2] at h;cases h
   |some r=>
    rw[h2] at h;cases h;rw[List.map_cons,hf _ _ h1,Bg hf h2]
def isAl(o:Oper):Bool:=match o.op with
 | .alloc _| .buildSlice .. =>true
 |_=>false
open Classical in
noncomputable def bsV(P:Program)(T:TypeId)(n:Nat)(ps:Array (Nat×Value)):Option (TypeId×Array Value):=
 if h:∃ec:TypeId×Array Value,ec.1<cO∧∀w,(Instr.buildSlice T n ps).run P w= .ok (.slice (some ⟨w.heap.size,0,none⟩) n n) (w.alloc (.cells ec.2 ec.1)) then some h.choose else none
def qfr{P:Program}{T:TypeId}{n:Nat}{ps:Array (Nat×Value)}{e:TypeId}{cs:Array Value}(he:e<cO)(h:∀w,(Instr.buildSlice T n ps).run P w= .ok (.slice (some ⟨w.heap.size,0,none⟩) n n) (w.alloc (.cells cs e))):bsV P T n ps=some (e,cs):=by
 have hx:∃ec:TypeId×Array Value,ec.1<cO∧∀w,(Instr.buildSlice T n ps).run P w= .ok (.slice (some ⟨w.heap.size,0,none⟩) n n) (w.alloc (.cells ec.2 ec.1)):=⟨(e,cs),he,h⟩;unfold bsV;rw[dif_pos hx];have h1:=hx.choose_spec.2 ⟨#[],fun _ _=>0,0,default,#[]⟩
 rw[h] at h1
 injection h1 with _ h1
 have h2:(some (Obj.cells cs e):Option Obj)=some (Obj.cells hx.choose.2 hx.choose.1):=congrArg (fun w:World=>w.heap[0]?) h1
 injection h2 with h2
 injection h2 with h3 h4
 exact congrArg some (Prod.ext h4.symm h3.symm)
def qbb{P:Program}{T:TypeId}{n:Nat}{ps:Array (Nat×Value)}{e:TypeId}{cs:Array Value}(h:bsV P T n ps=some (e,cs)):e<cO∧∀w,(Instr.buildSlice T n ps).run P w= .ok (.slice (some ⟨w.heap.size,0,none⟩) n n) (w.alloc (.cells cs e)):=by
 unfold bsV at h
 split at h
 ·rename_i hx
  have h1:=hx.choose_spec;rw[Option.some.inj h] at h1;exact h1
 ·cases h
noncomputable def Bh(P:Program)(t:List (Nat×Value))(o:Oper):Option (TypeId×Array Value):=match o.op with
 | .alloc T=>if T<cO then((P.info? T).bind (·.zero)).map fun z=>(T,z.cells) else none
 | .buildSlice T n parts=>(ku t parts.toList).bind fun ps=>bsV P T n ps.toArray
 |_=>none
def alV(o:Oper)(g:Nat):Value:=match o.op with
 | .buildSlice _ n _=> .slice (some ⟨g,0,none⟩) n n
 |_=> .pointer (some ⟨g,0,none⟩)
theorem qfs{P:Program}{o:Oper}{t:List (Nat×Value)}{e:TypeId}{cs:Array Value}(h:Bh P t o=some (e,cs))(f:Operand->Value)(hf:∀x v,ev t x=some v->f x=v)(w:World):(execOp f o).run P w= .ok (.value (alV o w.heap.size)) (w.alloc (.cells cs e)):=by
 unfold Bh at h;unfold alV
 split at h
 ·rename_i T ho
  split at h
  rotate_left
  ·cases h
  simp only[Option.map_eq_some_iff,Prod.mk.injEq] at h;obtain⟨z,hz,rfl,rfl⟩:=h;cases hq:P.info? T with
  |none=>rw[hq] at hz;cases hz
  |some inf=>
   rw[hq] at hz;simp only[Option.bind_some] at hz;simp[execOp,ho,Instr.alloc,zeroValue,typeInfo,hq,hz,newVar,newRow]
 ·rename_i T n parts ho
  cases hp:ku t parts.toList with
  |none=>rw[hp] at h;cases h
  |some ps=>
   rw[hp] at h;have hb:=(qbb (show bsV P T n ps.toArray=some (e,cs) from h)).2;have hv:=Bg hf hp;obtain⟨l⟩:=parts;simp only at hv;simp[execOp,ho,hv,hb w]
 ·cases h
def qmO{P:Program}{o:Oper}{t:List (Nat×Value)}{e:TypeId}{cs:Array Value}(h:Bh P t o=some (e,cs)):e<cO:=by
 unfold Bh at h
 split at h
 ·split at h
  ·rename_i hlt
   simp only[Option.map_eq_some_iff,Prod.mk.injEq] at h;obtain⟨z,_,rfl,_⟩:=h;exact hlt
  ·cases h
 ·rename_i T n parts ho
  cases hp:ku t parts.toList with
  |none=>rw[hp] at h;cases h
  |some ps=>
   rw[hp] at h;exact(qbb (show bsV P T n ps.toArray=some (e,cs) from h)).1
 ·cases h
def alB(g:Nat)(e:TypeId)(cs:Array Value):aF:=⟨some g,e,cs.toList,cs.size,true⟩
def Lu(bl:List Nat):Bool:=bl.contains 3000000
def Eff(P:Program)(o:Oper)(s:St)(X:Type)(nx:X->St):Prop:=
 ∀(B:Bs) (a:Act) (w:World),kK B s a w->o.wp P a w (fun a' w'=>∃x,kK B (nx x) a' w') (fun _ _ _=>False)
def qft(P:Program)(o:Oper)(s:St)(L':List aF):Prop:=
 ∀(B:Bs) (a:Act) (w:World),kK B s a w->∃w',(execOp a.eval o).run P w= .ok .skip w'∧aX B L' w'
def IE(bl:List Nat):Bool:=bl.any fun k=>Nat.blt k 1000000
def Bi(o:Oper):Bool:=match o.op with
 | .move _| .extract .. | .build .. =>true
 |_=>false
open Classical in
noncomputable def IQ(P:Program)(T:TypeId)(ps:Array (Nat×Value)):Option Value:=
 if h:∃v,∀w,(Instr.build T ps).run P w= .ok v w then some h.choose else none
def Vt{P:Program}{T:TypeId}{ps:Array (Nat×Value)}{v:Value}(h:∀w,(Instr.build T ps).run P w= .ok v w):IQ P T ps=some v:=by
 have he:∃v,∀w,(Instr.build T ps).run P w= .ok v w:=⟨v,h⟩;unfold IQ;rw[dif_pos he];have h1:=he.choose_spec ⟨#[],fun _ _=>0,0,default,#[]⟩
 rw[h] at h1
 injection h1 with h1
 rw[<-h1]
def Yh{P:Program}{T:TypeId}{ps:Array (Nat×Value)}{v:Value}(h:IQ P T ps=some v):∀w,(Instr.build T ps).run P w= .ok v w:=by
 unfold IQ at h
 split at h
 ·rename_i he
  cases h;exact he.choose_spec
 ·cases h
noncomputable def oq(P:Program)(t:List (Nat×Value))(o:Oper):Option Value:=match o.op with
 | .move x=>ev t x
 | .extract x i=>match ev t x with
   |some (.tuple vs)=>vs[i]?
   |_=>none
 | .build T parts=>(ku t parts.toList).bind fun ps=>IQ P T ps.toArray
 |_=>none
def LC(bl:List Nat):Bool:=bl==[1000000]
def isAsg(o:Oper):Bool:=match o.op with
 | .assign _=>true
 |_=>false
def Yi(bl:List Nat)(o:Oper):Bool:=je o||(isAsg o&&bl.contains 2000000)
def iM(P:Program)(bl:List Nat)(ops:Array Oper)(o:Oper)(s:St)(K:St->Prop):Prop:=
 (∀d,o.dst=some d->d<s.nt)∧∃g,az ops o s.t=some g∧
  ((g=false∧K (s.put o.dst undef))∨
   (g=true∧(((Lu bl&&(isAl o||isSto o))=false∧∃v,(Gp P o (s.bk bl) v∧(Lu bl=true->Bi o=true->oq P s.t o=some v))∧K (s.put o.dst v))∨
 (kz o=true∧∃(X:Type) (res:X->Value) (new:X->List aF),SV P o s X res new∧(Lu bl=true->Gq P o s X res new∧Nonempty X)∧∀x,K (({s with L:=s.L++new x}:St).put o.dst (res x)))∨
 ((!LC bl&&Yi bl o)=false∧(Lu bl&&(isAl o||isSto o))=false∧(!LC bl&&((isSto o||isME o)&&IE bl))=false∧∃(X:Type) (nx:X->St),Eff P o s X nx∧∀x,K (nx x))∨
 (isSto o=true∧o.dst=none∧∃L',qft P o s L'∧(IE bl=true->blank bl L'=blank bl s.L)∧K {s with L:=L'})∨
 (isAl o=true∧∃(e:TypeId) (cs:Array Value),Bh P s.t o=some (e,cs)∧∀g,K (({s with L:=s.L++[alB g e cs]}:St).put o.dst (alV o g)))∨
 ((kz o||isME o)=true∧IE bl=true∧∃(X:Type) (res:X->Value) (nL:X->List aF),qmM P o s X res nL∧(∀x,blank bl (nL x)=blank bl s.L)∧∀x,K (({s with L:=nL x}:St).put o.dst (res x))))))
def aU(P:Program)(bl:List Nat)(ops:Array Oper):List Oper->St->(St->Prop)->Prop
 |[],s,K=>K s
 |o::rest,s,K=>iM P bl ops o s fun s'=>aU P bl ops rest s' K
def iM.mono{P:Program}{bl:List Nat}{ops:Array Oper}{o:Oper}{s:St}{K K':St->Prop}(h:∀s,K s->K' s)(hs:iM P bl ops o s K):iM P bl ops o s K':=by
 obtain⟨h0,g,hg,hh⟩:=hs;refine⟨h0,g,hg,?_⟩;rcases hh with⟨h1,h2⟩|⟨h1,⟨h2,v,h3,h4⟩|⟨h2,X,res,new,h3,hF,h4⟩|⟨hm,hA,hm',X,nx,h3,h4⟩|⟨hm,hd,L',h3,h5,h4⟩|⟨hA,e,cs,h3,h4⟩|⟨hC,hbS,X,res,nL,h3,h5,h4⟩⟩
 ·exact .inl ⟨h1,h _ h2⟩
 ·exact .inr ⟨h1,.inl ⟨h2,v,h3,h _ h4⟩⟩
 ·exact .inr ⟨h1,.inr (.inl ⟨h2,X,res,new,h3,hF,fun x=>h _ (h4 x)⟩)⟩
 ·exact .inr ⟨h1,.inr (.inr (.inl ⟨hm,hA,hm',X,nx,h3,fun x=>h _ (h4 x)⟩))⟩
 ·exact .inr ⟨h1,.inr (.inr (.inr (.inl ⟨hm,hd,L',h3,h5,h _ h4⟩)))⟩
 ·exact .inr ⟨h1,.inr (.inr (.inr (.inr (.inl ⟨hA,e,cs,h3,fun g=>h _ (h4 g)⟩))))⟩
 ·exact .inr ⟨h1,.inr (.inr (.inr (.inr (.inr ⟨hC,hbS,X,res,nL,h3,h5,fun x=>h _ (h4 x)⟩))))⟩
def iM.sound{P:Program}{bl:List Nat}{ops:Array Oper}{o:Oper}{s:St}{K:St->Prop}{B:Bs}{a:Act}{w:World}
 {K':Act->World->Prop}{Q:Exit->Act->World->Prop}(hs:iM P bl ops o s K)(h:kK B s a w)(hK:∀s' a' w',K s'->kK B s' a' w'->K' a' w'):
 if Region.wanted o (yielded ops a.tmps) then o.wp P a w K' Q else K' (a.put o.dst undef) w:=by
 obtain⟨h0,g,hg,hh⟩:=hs;rw[Gn h hg];rcases hh with⟨rfl,h2⟩|⟨rfl,hh⟩
 ·simp only[Bool.false_eq_true,if_false];exact hK _ _ _ h2 (h.put0 h0)
 ·simp only[if_true];rcases hh with⟨h2,v,h3,h4⟩|⟨h2,X,res,new,h3,_,h4⟩|⟨hm,_,_,X,nx,h3,h4⟩|⟨hm,hd,L',h3,h5,h4⟩|⟨hA,e,cs,h3,h4⟩|⟨hC,hbS,X,res,nL,h3,h5,h4⟩
  ·have hr:=h3.1 B a w (h.bk bl);unfold Oper.wp;rw[hr];exact hK _ _ _ h4 (h.put0 h0)
  ·obtain⟨f,args,hr,hc⟩:=h3 B a w h;unfold Oper.wp;rw[hr];refine hc.mono ?_;rintro e w' ⟨x,rfl,hL⟩;exact hK _ _ _ (h4 x) (h.put h0 hL)
  ·have:=h3 B a w h;unfold Oper.wp at this ⊢
   generalize(execOp a.eval o).run P w=r at*
   cases r with
   |ok n w1=>
    cases n<;>simp only[Oper.upon] at this ⊢
    case value v=>obtain⟨x,hx⟩:=this;exact hK _ _ _ (h4 x) hx
    case skip=>obtain⟨x,hx⟩:=this;exact hK _ _ _ (h4 x) hx
    case defer d=>obtain⟨x,hx⟩:=this;exact hK _ _ _ (h4 x) hx
    case enter f args=>
     refine this.mono ?_;intro e w'' he;cases e with
     |returned v=>obtain⟨x,hx⟩:=he;exact hK _ _ _ (h4 x) hx
     |panicked c=>exact he.elim
     |outgrown=>obtain⟨_,_,he⟩:=he;exact he.elim
    case row row args=>exact this.mono fun v w'' he=>by obtain⟨x,hx⟩:=he;exact hK _ _ _ (h4 x) hx
   |halt x w1=>cases x<;>simp only[Oper.upon] at this
  ·obtain⟨w',hr,hL⟩:=h3 B a w h;unfold Oper.wp;rw[hr];refine hK _ _ _ h4 ?_;rw[hd];exact⟨h.df,h.size,h.tmp,hL⟩
  ·unfold Oper.wp;rw[qfs h3 a.eval (fun x v hx=>h.ev hx) w];exact hK _ _ _ (h4 w.heap.size) (h.put h0 (h.mem.alloc e cs (qmO h3)))
  ·rcases h3 B a w h with⟨f,args,hr,hc⟩|⟨x,w',hr,hL⟩
   ·unfold Oper.wp;rw[hr];refine hc.mono ?_;rintro e w' ⟨x,rfl,hL⟩;exact hK _ _ _ (h4 x) (h.put (L':=nL x) h0 hL)
   ·unfold Oper.wp;rw[hr];exact hK _ _ _ (h4 x) (h.put (L':=nL x) h0 hL)
def aU.sound{P:Program}{bl:List Nat}{ops:Array Oper}{Q:Exit->Act->World->Prop}:∀{l:List Oper} {s:St} {K:St->Prop} {B:Bs} {a:Act} {w:World},
 aU P bl ops l s K->kK B s a w->(∀s' a' w',K s'->kK B s' a' w'->Q .normal a' w')->wpList P ops Q l a w
 |[],s,K,B,a,w,hr,h,hK=>hK _ _ _ hr h
 |o::l,s,K,B,a,w,hr,h,hK=>by
  have:=iM.sound (K':=wpList P ops Q l) (Q:=Q) hr h (fun s' a' w' h1 h2=>aU.sound h1 h2 hK);unfold wpList
  split
  ·rename_i hw;rw[if_pos hw] at this;exact .inl this
  ·rename_i hw;rw[if_neg hw] at this;exact this
def aU.mono{P:Program}{bl:List Nat}{ops:Array Oper}{K K':St->Prop}(h:∀s,K s->K' s):∀{l:List Oper} {s:St},aU P bl ops l s K->aU P bl ops l s K'
 |[],_,hr=>h _ hr
 |_::_,_,hr=>iM.mono (fun _ h1=>aU.mono h h1) hr
def aX.take{B:Bs}{w:World}{L new:List aF}(h:aX B (L++new) w):aX B L w:=by
 have hb:∀(k:Nat) (b:aF),L[k]? =some b->(L++new)[k]? =some b:=fun k b hk=>by
  rw[List.getElem?_append_left (List.getElem?_eq_some_iff.1 hk).1];exact hk
 exact⟨h.bel,fun k b hk=>h.blk k b (hb k b hk),fun i j g bi bj hij hi hj=>h.apart i j g bi bj hij (hb _ _ hi) (hb _ _ hj),h.grp.mem fun b hb=>List.mem_append_left _ hb⟩
theorem tu{ops:Array Oper}{o:Oper}{s:St}{dst:Option Nat}{v:Value}(h:∀d,dst=some d->d∉o.looksAt ops):az ops o (s.put dst v).t=az ops o s.t:=by
 cases dst with
 |none=>rfl
 |some d=>
  unfold az;cases hg:o.guard with
  |none=>rfl
  |some jw=>
   obtain⟨j,want⟩:=jw;dsimp only;cases hd:(ops[j]?).bind (·.dst) with
   |none=>rfl
   |some d'=>
    have hne:d≠d':=fun e=>h d rfl (by unfold Oper.looksAt;rw[hg];simp[hd,e])
    simp only[St.put,cZ hne]
theorem DI{P:Program}{ops:Array Oper}{o:Oper}{s:St}{dst:Option Nat}{v:Value}(h:∀d,dst=some d->d∉o.looksAt ops):oq P (s.put dst v).t o=oq P s.t o:=by
 cases dst with
 |none=>rfl
 |some d=>
  have hd:=h d rfl;have key:∀x:Operand,x∈o.op.operands.toList->ev ((d,v)::s.t) x=ev s.t x:=fun x hx=>by
   cases x with
   |tmp k=>
    have hne:d≠k:=fun e=>hd (by
 unfold Oper.looksAt;exact List.mem_append_left _ (List.mem_filterMap.2 ⟨.tmp k,hx,by rw[e]⟩))
    exact cZ hne
   |const c=>rfl
   |global g=>rfl
   |func f=>rfl
  show oq P ((d,v)::s.t) o=oq P s.t o;unfold oq
  split
  ·rename_i x ho
   exact key x (by rw[ho];simp[Op.operands])
  ·rename_i x i ho
   rw[key x (by rw[ho];simp[Op.operands])]
  ·rename_i T parts ho
   rw[vH fun x hx=>key x qpS]
  ·rfl
theorem MM{P:Program}{ops:Array Oper}{o:Oper}{s:St}{dst:Option Nat}{v:Value}(h:∀d,dst=some d->d∉o.looksAt ops):Bh P (s.put dst v).t o=Bh P s.t o:=by
 cases dst with
 |none=>rfl
 |some d=>
  have hd:=h d rfl;have key:∀x:Operand,x∈o.op.operands.toList->ev ((d,v)::s.t) x=ev s.t x:=fun x hx=>by
   cases x with
   |tmp k=>
    have hne:d≠k:=fun e=>hd (by
 unfold Oper.looksAt;exact List.mem_append_left _ (List.mem_filterMap.2 ⟨.tmp k,hx,by rw[e]⟩))
    exact cZ hne
   |const c=>rfl
   |global g=>rfl
   |func f=>rfl
  show Bh P ((d,v)::s.t) o=Bh P s.t o;unfold Bh
  split
  ·rfl
  ·rename_i T n parts ho
   rw[vH fun x hx=>key x qpS]
  ·rfl
def Vu{P:Program}{o:Oper}{s:St}{v:Value}(h:oq P s.t o=some v):Gp P o s v:=fun B a w hr=>by
 unfold oq at h
 split at h
 ·rename_i x ho
  simp[execOp,ho,hr.ev h]
 ·rename_i x i ho
  split at h
  ·rename_i vs hv
   have:=hr.ev hv;simp[execOp,ho,this,Instr.extract,h]
  ·cases h
 ·rename_i T parts ho
  cases hp:ku s.t parts.toList with
  |none=>rw[hp] at h;cases h
  |some ps=>
   rw[hp] at h;have hb:=Yh (show IQ P T ps.toArray=some v from h);have hv:=Bg (f:=a.eval) (fun x v hx=>hr.ev hx) hp;obtain⟨l⟩:=parts;simp only at hv;simp[execOp,ho,hv,hb w]
 ·cases h
def Yields(P:Program)(bl:List Nat)(ops:Array Oper)(o:Oper)(s:St)(v:Value):Prop:=
 ∃g,az ops o s.t=some g∧((g=false∧v=undef)∨(g=true∧(Lu bl&&(isAl o||isSto o))=false∧Gp P o (s.bk bl) v∧(Lu bl=true->Bi o=true->oq P s.t o=some v)))
def Gs{o:Oper}(h:je o=true):∀cs b,o.op≠ .select cs b:=fun cs b e=>by unfold je at h;rw[e] at h;cases h
def kK.putBack{B:Bs}{w:World}{s:St}{a:Act}{dst:Option Nat}{v:Value}{new:List aF}(hd:∀d,dst=some d->d<s.nt)
 (h:kK B (({s with L:=s.L++new}:St).put dst v) a w):∃u,kK B s (a.put dst u) w:=by
 have hL:(({s with L:=s.L++new}:St).put dst v).L=s.L++new:=Qz
 have hn:(({s with L:=s.L++new}:St).put dst v).nt=s.nt:=Qz
 have hm:aX B s.L w:=(by have:=h.mem;rw[hL] at this;exact this.take);cases dst with
 |none=>exact⟨undef,h.df,h.size.trans hn,fun d x hx=>h.tmp d x hx,hm⟩
 |some d=>
  refine⟨(look s.t d).getD undef,h.df,by simpa[Act.put,hn] using h.size,fun k x hx=>?_,hm⟩
  have hds:d<a.tmps.size:=by rw[h.size,hn];exact hd d rfl
  by_cases e:d=k
  ·subst e;simp[Act.put,hx,hds]
  ·have:=h.tmp k x (by simp only[St.put,cZ e];exact hx);simp[Act.put,Array.getElem?_setIfInBounds_ne e,this]
def Yields.later{P:Program}{bl:List Nat}{ops:Array Oper}{o:Oper}{s:St}{v:Value}{dst:Option Nat}{x:Value}{new:List aF}(hs:∀cs b,o.op≠ .select cs b)(hd:∀d,dst=some d->d<s.nt)
 (hl:∀d,dst=some d->d∉o.looksAt ops)(h:Yields P bl ops o s v):Yields P bl ops o (({s with L:=s.L++new}:St).put dst x) v:=by
 obtain⟨g,hg,hh⟩:=h;refine⟨g,by rw[tu hl];exact hg,?_⟩;rcases hh with h1|⟨h1,h2,h4⟩
 ·exact .inl h1
 ·refine .inr ⟨h1,h2,fun B a w hr=>?_,fun h5 h6=>by rw[DI (s:={s with L:=s.L++new}) hl];exact h4.2 h5 h6⟩
  rw[qfq] at hr;obtain⟨new',hn⟩:=uM bl s.L new;have hr':kK B (({nt:=s.nt,t:=s.t,L:=blank bl s.L++new'}:St).put dst x) a w:=by rw[<-hn];exact hr
  obtain⟨u,hu⟩:=kK.putBack (s:=s.bk bl) (new:=new') hd hr';have:=h4.1 B _ w hu
  rwa [execOp_put o hs a dst u hl] at this
structure E8(s s':St):Prop where
 nt:s.nt=s'.nt
 L:s.L=s'.L
 look:∀d,look s.t d=look s'.t d
def E8.refl(s:St):E8 s s:=⟨rfl,rfl,fun _=>rfl⟩
theorem E8.symm{s s':St}(h:E8 s s'):E8 s' s:=⟨h.nt.symm,h.L.symm,fun d=>(h.look d).symm⟩
def E8.trans{s s' s'':St}(h:E8 s s')(k:E8 s' s''):E8 s s'':=⟨h.nt.trans k.nt,h.L.trans k.L,fun d=>(h.look d).trans (k.look d)⟩
def E8.rel{s s':St}(h:E8 s s'){B:Bs}{w:World}{a:Act}(r:kK B s a w):kK B s' a w:=
 ⟨r.df,r.size.trans h.nt,fun d v hd=>r.tmp d v (by rw[h.look d];exact hd),h.L▸r.mem⟩
theorem E8.put{s s':St}(h:E8 s s')(dst:Option Nat)(sv:Value)(new:List aF):E8 (({s with L:=s.L++new}:St).put dst sv) (({s' with L:=s'.L++new}:St).put dst sv):=by
 cases dst with
 |none=>exact⟨h.nt,by simp[St.put,h.L],h.look⟩
 |some d=>
  refine⟨h.nt,by simp[St.put,h.L],fun k=>?_⟩
  by_cases e:d=k
  ·subst e;simp[St.put,dO]
  ·simp[St.put,cZ e,h.look k]
def E8.put0{s s':St}(h:E8 s s')(dst:Option Nat)(sv:Value):E8 (s.put dst sv) (s'.put dst sv):=by
 have:=h.put dst sv []
 simpa using this
theorem E8.wanted{s s':St}(h:E8 s s')(ops:Array Oper)(o:Oper):az ops o s.t=az ops o s'.t:=by
 unfold az
 split
 ·rfl
 ·split
  ·rw[h.look]
  ·rfl
def KC(K:St->Prop):Prop:=∀s s',E8 s s'->K s->K s'
theorem Gt{t t':List (Nat×Value)}(h:∀d,look t d=look t' d)(x:Operand):ev t x=ev t' x:=by
 cases x<;>simp[ev,h]
theorem Vw{P:Program}{t t':List (Nat×Value)}(h:∀d,look t d=look t' d){o:Oper}:oq P t o=oq P t' o:=by
 unfold oq
 split
 ·exact Gt h _
 ·rw[Gt h]
 ·rw[vH fun x _=>Gt h x]
 ·rfl
theorem MN{P:Program}{t t':List (Nat×Value)}(h:∀d,look t d=look t' d){o:Oper}:Bh P t o=Bh P t' o:=by
 unfold Bh
 split
 ·rfl
 ·rw[vH fun x _=>Gt h x]
 ·rfl
def iM.congr{P:Program}{bl:List Nat}{ops:Array Oper}{o:Oper}{s s':St}{K:St->Prop}(hK:KC K)(h:E8 s s')(hs:iM P bl ops o s K):iM P bl ops o s' K:=by
 obtain⟨h0,g,hg,hh⟩:=hs;refine⟨by rw[<-h.nt];exact h0,g,by rw[<-h.wanted];exact hg,?_⟩;have hbk:E8 (s.bk bl) (s'.bk bl):=⟨h.nt,by show blank bl s.L=blank bl s'.L;rw[h.L],h.look⟩;rcases hh with⟨h1,h2⟩|⟨h1,⟨h2,sv,h3,h4⟩|⟨h2,X,res,new,h3,hF,h4⟩|⟨hm,hA,hm',X,nx,h3,h4⟩|⟨hm,hd,L',h3,h5,h4⟩|⟨hA,e,cs,h3,h4⟩|⟨hC,hbS,X,res,nL,h3,h5,h4⟩⟩
 ·exact .inl ⟨h1,hK _ _ (h.put0 _ _) h2⟩
 ·exact .inr ⟨h1,.inl ⟨h2,sv,⟨fun B a w hr=>h3.1 B a w (hbk.symm.rel hr),fun h5 h6=>qpT⟩,hK _ _ (h.put0 _ _) h4⟩⟩
 ·refine .inr ⟨h1,.inr (.inl ⟨h2,X,res,new,fun B a w hr=>?_,fun hb=>⟨fun B a w hr=>(hF hb).1 B a w (h.symm.rel hr),(hF hb).2⟩,fun x=>hK _ _ (h.put _ _ _) (h4 x)⟩)⟩
  rw[<-h.L];exact h3 B a w (h.symm.rel hr)
 ·exact .inr ⟨h1,.inr (.inr (.inl ⟨hm,hA,hm',X,nx,fun B a w hr=>h3 B a w (h.symm.rel hr),h4⟩))⟩
 ·exact .inr ⟨h1,.inr (.inr (.inr (.inl ⟨hm,hd,L',fun B a w hr=>h3 B a w (h.symm.rel hr),by rw[<-h.L];exact h5,hK {s with L:=L'} {s' with L:=L'} ⟨h.nt,rfl,h.look⟩ h4⟩)))⟩
 ·exact .inr ⟨h1,.inr (.inr (.inr (.inr (.inl ⟨hA,e,cs,by rw[<-MN h.look];exact h3,fun g=>hK _ _ (h.put _ _ _) (h4 g)⟩))))⟩
 ·exact .inr ⟨h1,.inr (.inr (.inr (.inr (.inr ⟨hC,hbS,X,res,nL,fun B a w hr=>h3 B a w (h.symm.rel hr),by rw[<-h.L];exact h5,fun x=>hK _ _ (E8.put0 (s:={s with L:=nL x}) (s':={s' with L:=nL x}) ⟨h.nt,rfl,h.look⟩ _ _) (h4 x)⟩))))⟩
def aU.kc{P:Program}{bl:List Nat}{ops:Array Oper}{K:St->Prop}(hK:KC K):∀l:List Oper,KC (fun s=>aU P bl ops l s K)
 |[]=>hK
 |o::l=>fun _ _ h hs=>iM.congr (aU.kc hK l) h hs
def xh(bl:List Nat)(o:Oper):Bool:= !LC bl&&(Yi bl o||((isSto o||isME o)&&IE bl)||(Lu bl&&isAl o))
theorem Vx{bl:List Nat}{o:Oper}(h:xh bl o=true):LC bl=false:=by
 unfold xh at h;cases hb:LC bl
 ·rfl
 ·rw[hb] at h;cases h
def Vy{bl:List Nat}{o:Oper}(h:xh bl o=true):∀cs b,o.op≠ .select cs b:=fun cs b e=>by
 simp only[xh,Yi,isAsg,je,isSto,isME,isAl,e,Bool.false_and,Bool.or_self,Bool.and_false] at h;cases h
theorem qfu{o:Oper}(hs:isSto o=true):isME o=false:=by
 unfold isSto at hs
 split at hs<;>first|(cases hs;done)|(rename_i heq;simp[isME,heq])
def qfv{bl:List Nat}{o:Oper}(h:xh bl o=true)(hs:isSto o=true):IE bl=true:=by
 have h1:Yi bl o=false:=by
  unfold isSto at hs
  split at hs<;>first|(cases hs;done)|(rename_i heq;simp[Yi,je,isAsg,heq])
 have h2:isAl o=false:=by
  unfold isSto at hs
  split at hs<;>first|(cases hs;done)|(rename_i heq;simp[isAl,heq])
 unfold xh at h;rw[h1,h2,hs,qfu hs] at h;simp only[Bool.false_or,Bool.true_and,Bool.and_false,Bool.or_false,Bool.and_eq_true] at h;exact h.2
def Vz{bl:List Nat}{o:Oper}(h:xh bl o=true)(hm:(!LC bl&&Yi bl o)=false)(hA':(Lu bl&&(isAl o||isSto o))=false)(hm':(!LC bl&&((isSto o||isME o)&&IE bl))=false):False:=by
 have hA:(Lu bl&&isAl o)=false:=by cases h1:Lu bl<;>cases h2:isAl o<;>simp_all
 unfold xh at h;cases hb:LC bl<;>rw[hb] at h hm hm'
 ·simp only[Bool.not_false,Bool.true_and] at h hm hm';rw[hm,hA,Bool.false_or,Bool.or_false] at h;rw[hm'] at h;cases h
 ·cases h
def aU.swap{P:Program}{bl:List Nat}{ops:Array Oper}{p i:Oper}{rest:List Oper}{s:St}{K:St->Prop}(hK:KC K)(hmp:je p=true)(hmi:xh bl i=true)(hcp:kz p=false)
 (hap:p.apart ops i=true)(h:aU P bl ops (p::i::rest) s K):aU P bl ops (i::p::rest) s K:=by
 obtain⟨ap1,ap2,ap3⟩:=Oper.apart_spec hap;obtain⟨h0,g,hg,hh⟩:=h;have hsp:isSto p=false:=by
  unfold isSto;split<;>first|rfl|(rename_i heq;unfold je at hmp;rw[heq] at hmp;cases hmp)
 have hmep:isME p=false:=by
  unfold isME;split<;>first|rfl|(rename_i heq;unfold je at hmp;rw[heq] at hmp;cases hmp)
 obtain⟨svp,hyp,hrun⟩:∃svp,Yields P bl ops p s svp∧aU P bl ops (i::rest) (s.put p.dst svp) K:=by
  rcases hh with⟨rfl,h2⟩|⟨rfl,⟨h2,sv,h3,h4⟩|⟨h2,X,res,new,h3,_,h4⟩|⟨hm,_,_,X,nx,h3,h4⟩|⟨hm,hd,L',h3,h5,h4⟩|⟨hA,e,cs,h3,h4⟩|⟨hC,hbS,X,res,nL,h3,h5,h4⟩⟩
  ·exact⟨_,⟨_,hg,.inl ⟨rfl,rfl⟩⟩,h2⟩
  ·exact⟨sv,⟨_,hg,.inr ⟨rfl,h2,h3.1,h3.2⟩⟩,h4⟩
  ·rw[hcp] at h2;cases h2
  ·rw[Vx hmi,show Yi bl p=true by simp[Yi,hmp]] at hm;cases hm
  ·rw[hsp] at hm;cases hm
  ·exfalso
   unfold isAl at hA
   split at hA
   ·rename_i heq;unfold je at hmp;rw[heq] at hmp;cases hmp
   ·rename_i heq;unfold je at hmp;rw[heq] at hmp;cases hmp
   ·cases hA
  ·rw[hcp,hmep] at hC;cases hC
 have hputL:(s.put p.dst svp).L=s.L:=Vr
 have hputn:(s.put p.dst svp).nt=s.nt:=Vr
 have comm:∀(x:Value) (new:List aF),E8 (({s.put p.dst svp with L:=(s.put p.dst svp).L++new}:St).put i.dst x) ((({s with L:=s.L++new}:St).put i.dst x).put p.dst svp):=by
  intro x new;refine⟨?_,?_,?_⟩
  ·cases p.dst<;>cases i.dst<;>rfl
  ·cases p.dst<;>cases i.dst<;>rfl
  ·intro d;cases hp:p.dst with
   |none=>simp[St.put]
   |some dp=>
    cases hi:i.dst with
    |none=>simp[St.put]
    |some di=>
     have hne:dp≠di:=fun e=>ap2 dp hp (by rw[hi,e])
     simp only[St.put]
     by_cases e1:di=d
     ·subst e1;rw[dO,cZ hne,dO]
     ·rw[cZ e1]
      by_cases e2:dp=d
      ·subst e2;rw[dO,dO]
      ·rw[cZ e2,cZ e2,cZ e1]
 have behind:∀(x:Value) (new:List aF),aU P bl ops rest (({s.put p.dst svp with L:=(s.put p.dst svp).L++new}:St).put i.dst x) K->
  aU P bl ops (p::rest) (({s with L:=s.L++new}:St).put i.dst x) K:=by
  intro x new hr;have hr':=aU.kc hK rest _ _ (comm x new) hr;have hy:=hyp.later (new:=new) (x:=x) (Gs hmp) (by rw[<-hputn];exact hrun.1) ap3;obtain⟨g',hg',hh'⟩:=hy;have hn:(({s with L:=s.L++new}:St).put i.dst x).nt=s.nt:=qa6
  refine⟨qa7,g',hg',?_⟩;rcases hh' with⟨h1,rfl⟩|⟨h1,h2,h4⟩
  ·exact .inl ⟨h1,hr'⟩
  ·exact .inr ⟨h1,.inl ⟨h2,svp,h4,hr'⟩⟩
 have before:∀(s0:St),s0.nt=s.nt->∀(B:Bs) (a:Act) (w:World),kK B s0 a w->kK B (s0.put p.dst svp) (a.put p.dst svp) w∧execOp (a.put p.dst svp).eval i=execOp a.eval i:=by
  intro s0 hn B a w hr;exact⟨hr.put0 qa7,execOp_put i (Vy hmi) a p.dst svp ap1⟩
 obtain⟨k0,k,hk,kk⟩:=hrun;rw[hputn] at k0;rw[tu ap1] at hk;have e0:∀(x:Value),(({s with L:=s.L++[]}:St).put i.dst x)=s.put i.dst x:=fun x=>bz
 have e1:∀(x:Value),(({s.put p.dst svp with L:=(s.put p.dst svp).L++[]}:St).put i.dst x)=(s.put p.dst svp).put i.dst x:=fun x=>bz
 refine⟨k0,k,hk,?_⟩;rcases kk with⟨h1,h2⟩|⟨h1,⟨h2,sv,h3,h4⟩|⟨h2,X,res,new,h3,hF,h4⟩|⟨hm,hA,hm',X,nx,h3,h4⟩|⟨hm,hd,L',h3,h5,h4⟩|⟨hA,e,cs,h3,h4⟩|⟨hC,hbS,X,res,nL,h3,h5,h4⟩⟩
 ·exact .inl ⟨h1,by have:=behind undef [] (by rw[e1];exact h2);rwa [e0] at this⟩
 ·refine .inr ⟨h1,.inl ⟨h2,sv,⟨fun B a w hr=>?_,fun h5 h6=>by rw[<-DI ap1];exact h3.2 h5 h6⟩,by have:=behind sv [] (by rw[e1];exact h4);rwa [e0] at this⟩⟩
  obtain⟨hr',he⟩:=before (s.bk bl) rfl B a w hr;have h3:=h3.1;rw[qfq] at h3;have:=h3 B _ w hr'
  rwa [he] at this
 ·refine .inr ⟨h1,.inr (.inl ⟨h2,X,res,new,fun B a w hr=>?_,fun hb=>⟨fun B a w hr=>?_,(hF hb).2⟩,fun x=>behind _ _ (h4 x)⟩)⟩
  ·obtain⟨hr',he⟩:=before s rfl B a w hr;have:=h3 B _ w hr'
   rwa [he,hputL] at this
  ·obtain⟨hr',he⟩:=before s rfl B a w hr;have:=(hF hb).1 B _ w hr'
   rwa [he] at this
 ·exfalso
  exact Vz hmi hm hA hm'
 ·refine .inr ⟨h1,.inr (.inr (.inr (.inl ⟨hm,hd,L',fun B a w hr=>?_,fun hb=>by rw[h5 hb,hputL],?_⟩)))⟩
  ·exact qfk
  ·
   have hbS:IE bl=true:=qfv hmi hm;have h5:=h5 hbS;rw[hputL] at h5;obtain⟨g',hg',hh'⟩:=hyp;refine⟨h0,g',hg',?_⟩;have hst:(({s with L:=L'}:St)).put p.dst svp={s.put p.dst svp with L:=L'}:=Vr
   have hbk:(({s with L:=L'}:St)).bk bl=s.bk bl:=by show St.mk _ _ (blank bl L')=St.mk _ _ (blank bl s.L);rw[h5]
   rcases hh' with⟨h1',rfl⟩|⟨h1',h2',h4'⟩
   ·exact .inl ⟨h1',by rw[hst];exact h4⟩
   ·exact .inr ⟨h1',.inl ⟨h2',svp,⟨by rw[hbk];exact h4'.1,h4'.2⟩,by rw[hst];exact h4⟩⟩
 ·exact .inr ⟨h1,.inr (.inr (.inr (.inr (.inl ⟨hA,e,cs,by rw[<-MM ap1];exact h3,fun g=>behind _ _ (h4 g)⟩))))⟩
 ·refine .inr ⟨h1,.inr (.inr (.inr (.inr (.inr ⟨hC,hbS,X,res,nL,fun B a w hr=>?_,fun x=>by rw[h5 x,hputL],fun x=>?_⟩))))⟩
  ·exact qfk
  ·
   have h5:=h5 x;rw[hputL] at h5;have hY:Yields P bl ops p ({s with L:=nL x}:St) svp:=by
    obtain⟨g',hg',hh'⟩:=hyp;have hbk:(({s with L:=nL x}:St)).bk bl=s.bk bl:=by show St.mk _ _ (blank bl (nL x))=St.mk _ _ (blank bl s.L);rw[h5]
    rcases hh' with h1'|⟨h1',h2',h4'⟩
    ·exact⟨g',hg',.inl h1'⟩
    ·exact⟨g',hg',.inr ⟨h1',h2',by rw[hbk];exact h4'.1,h4'.2⟩⟩
   have hY2:=Yields.later (s:=({s with L:=nL x}:St)) (dst:=i.dst) (x:=res x) (new:=[]) (Gs hmp) k0 ap3 hY
   rw[show(({(({s with L:=nL x}:St)) with L:=(({s with L:=nL x}:St)).L++[]}:St))=({s with L:=nL x}:St) by simp] at hY2
   have hn:(({s with L:=nL x}:St).put i.dst (res x)).nt=s.nt:=qa6
   have hc1:E8 (({s.put p.dst svp with L:=nL x}:St).put i.dst (res x)) ((({s with L:=nL x}:St).put i.dst (res x)).put p.dst svp):=by
    refine⟨?_,?_,fun d=>?_⟩
    ·cases p.dst<;>cases i.dst<;>rfl
    ·cases p.dst<;>cases i.dst<;>rfl
    ·have hcm:=(comm (res x) []).look d;have q1:look (({s.put p.dst svp with L:=nL x}:St).put i.dst (res x)).t d=look (({s.put p.dst svp with L:=(s.put p.dst svp).L++[]}:St).put i.dst (res x)).t d:=qa6
     have q2:look ((({s with L:=nL x}:St).put i.dst (res x)).put p.dst svp).t d=look ((({s with L:=s.L++[]}:St).put i.dst (res x)).put p.dst svp).t d:=by cases i.dst<;>cases p.dst<;>rfl
     rw[q1,q2];exact hcm
   have hr':=aU.kc hK rest _ _ hc1 (h4 x);obtain⟨g',hg',hh'⟩:=hY2;refine⟨qa7,g',hg',?_⟩;rcases hh' with⟨h1,rfl⟩|⟨h1,h2,h4⟩
   ·exact .inl ⟨h1,hr'⟩
   ·exact .inr ⟨h1,.inl ⟨h2,svp,h4,hr'⟩⟩
def Bj{s:St}{dst:Option Nat}{sv:Value}{d:Nat}(h:dst≠some d):look (s.put dst sv).t d=look s.t d:=by
 cases dst with
 |none=>rfl
 |some d'=>exact cZ (fun e=>h (by rw[e]))
def iM.good{P:Program}{bl:List Nat}{ops:Array Oper}{o:Oper}{s:St}{K:St->Prop}(hm:xh bl o=true)(h:iM P bl ops o s K):
 iM P bl ops o s (fun s'=>K s'∧∀d,o.dst≠some d->look s'.t d=look s.t d):=by
 obtain⟨h0,g,hg,hh⟩:=h;refine⟨h0,g,hg,?_⟩;rcases hh with⟨h1,h2⟩|⟨h1,⟨h2,sv,h3,h4⟩|⟨h2,X,res,new,h3,hF,h4⟩|⟨hm',hA,hm'',X,nx,h3,h4⟩|⟨hm',hd,L',h3,h5,h4⟩|⟨hA,e,cs,h3,h4⟩|⟨hC,hbS,X,res,nL,h3,h5,h4⟩⟩
 ·exact .inl ⟨h1,h2,fun d hd=>Bj hd⟩
 ·exact .inr ⟨h1,.inl ⟨h2,sv,h3,h4,fun d hd=>Bj hd⟩⟩
 ·exact .inr ⟨h1,.inr (.inl ⟨h2,X,res,new,h3,hF,fun x=>⟨h4 x,fun d hd=>Bj hd⟩⟩)⟩
 ·exact(Vz hm hm' hA hm'').elim
 ·exact .inr ⟨h1,.inr (.inr (.inr (.inl ⟨hm',hd,L',h3,h5,h4,fun d _=>rfl⟩)))⟩
 ·exact .inr ⟨h1,.inr (.inr (.inr (.inr (.inl ⟨hA,e,cs,h3,fun g=>⟨h4 g,fun d hd=>Bj hd⟩⟩))))⟩
 ·exact .inr ⟨h1,.inr (.inr (.inr (.inr (.inr ⟨hC,hbS,X,res,nL,h3,h5,fun x=>⟨h4 x,fun d hd=>Bj hd⟩⟩))))⟩
def VA{bl:List Nat}{o i:Oper}(h:je o=true)(hi:xh bl i=true):xh bl o=true:=by simp[xh,Yi,h,Vx hi]
def aU.front{P:Program}{bl:List Nat}{ops:Array Oper}{i:Oper}{post:List Oper}{K:St->Prop}(hK:KC K)(hmi:xh bl i=true):∀{pre:List Oper} {s:St},
 (∀p∈pre,je p=true∧kz p=false∧p.apart ops i=true)->aU P bl ops (pre++i::post) s K->aU P bl ops (i::(pre++post)) s K
 |[],s,_,h=>h
 |p::pre,s,hp,h=>by
  obtain⟨hm,hc,ha⟩:=hp p bz;have h1:iM P bl ops p s (fun s'=>aU P bl ops (pre++i::post) s' K):=h;have h2:aU P bl ops (p::i::(pre++post)) s K:=by
   refine iM.mono ?_ (h1.good (VA hm hmi));rintro s' ⟨hr,hl⟩;exact aU.front hK hmi (fun q hq=>hp q (by simp[hq])) hr
  exact aU.swap hK hm hmi hc ha h2
def waitsF(ops:Array Oper):Nat->Nat->Nat->Bool
 |0,_,_=>false
 |f+1,i,j=>match ops[i]? with
  |some o=>o.after.any fun e=>Region.binds .any e&&(e.on==j||waitsF ops f e.on j)
  |none=>false
def SX(ops:Array Oper)(listed:Array Bool):Prop:=
 ∀j,listed.getD j false=true->∀o,ops[j]? =some o->∀e∈o.after,Region.binds .any e=true->listed.getD e.on false=true
def rZ{ops:Array Oper}{listed:Array Bool}(hc:SX ops listed):∀{f i j:Nat},waitsF ops f i j=true->(∀o,ops[i]? =some o->∀e∈o.after,Region.binds .any e=true->listed.getD e.on false=true)->
 listed.getD j false=true
 |0,_,_,h,_=>by cases h
 |f+1,i,j,h,hi=>by
  unfold waitsF at h
  split at h
  ·rename_i o ho
   obtain⟨e,he,h1⟩:=Array.any_eq_true'.1 h;simp only[Bool.and_eq_true,Bool.or_eq_true,beq_iff_eq] at h1;obtain⟨hb,h2⟩:=h1;have hl:=hi o ho e he hb;rcases h2 with h2|h2
   ·rw[<-h2];exact hl
   ·exact rZ hc h2 (fun o' ho' e' he' hb'=>hc _ hl o' ho' e' he' hb')
  ·cases h
def uh(bl:List Nat)(ops:Array Oper)(p i:Nat):Bool:=
 waitsF ops ops.size i p||
 match ops[p]?,ops[i]? with
 |some op,some oi=>je op&&xh bl oi&& !kz op&&op.apart ops oi
 |_,_=>false
def jo(ops:Array Oper)(p i:Nat):Bool:=match ops[p]? with
 |some op=>op.after.all fun e=> !Region.binds .any e||e.on !=i
 |none=>true
def MO(bl:List Nat)(ops:Array Oper)(p i:Nat):Bool:=match ops[p]?,ops[i]? with
 |some op,some oi=> !xh bl op|| !xh bl oi||match op.dst,oi.dst with
  |some a,some b=>a !=b
  |_,_=>true
 |_,_=>true
def iO(f:Nat->Nat->Bool):List Nat->Bool
 |[]=>true
 |p::l=>l.all (f p)&&iO f l
def gK{f:Nat->Nat->Bool}:∀{l:List Nat},iO f l=true->l.Pairwise (fun p i=>f p i=true)
 |[],_=> .nil
 |p::l,h=>by
  simp only[iO,Bool.and_eq_true] at h;exact .cons (fun i hi=>List.all_eq_true.1 h.1 i hi) (gK h.2)
def MP(bl:List Nat)(ops:Array Oper)(p i:Nat):Bool:=true
def su(ops:Array Oper)(p:Nat):Bool:=match ops[p]? with
 |some op=>op.after.all fun e=> !Region.binds .any e||decide (e.on<ops.size)
 |none=>true
structure Ord(bl:List Nat)(ops:Array Oper)(l:List Nat):Prop where
 lt:∀i∈l,i<ops.size
 ok:l.Pairwise (fun p i=>uh bl ops p i=true)
 nw:l.Pairwise (fun p i=>jo ops p i=true)
 self:∀i∈l,jo ops i i=true
 ed:∀i∈l,su ops i=true
 dst:l.Pairwise (fun p i=>MO bl ops p i=true)
 mf:l.Pairwise (fun p i=>MP bl ops p i=true)
 nodup:l.Nodup
def Ord.sub{bl:List Nat}{ops:Array Oper}{l l':List Nat}(h:Ord bl ops l)(hs:l'.Sublist l):Ord bl ops l':=
 ⟨fun i hi=>h.lt i (hs.subset hi),h.ok.sublist hs,h.nw.sublist hs,fun i hi=>h.self i (hs.subset hi),fun i hi=>h.ed i (hs.subset hi),h.dst.sublist hs,h.mf.sublist hs,h.nodup.sublist hs⟩
theorem SY{listed:Array Bool}{i:Nat}(h:listed.getD i true=false):listed.getD i false=false:=by
 rcases Nat.lt_or_ge i listed.size with h'|h'
 ·simp[h'] at h ⊢;exact h
 ·simp[Array.getElem?_eq_none h'] at h
def qpX(bl:List Nat)(ops:Array Oper)(l:List Nat)(s:St):Prop:=∀i∈l,∀o,ops[i]? =some o->xh bl o=true->∀d,false=true->o.dst=some d->look s.t d=none
def S9{P:Program}{bl:List Nat}{ops:Array Oper}{Q:Exit->Act->World->Prop}{K:St->Prop}{B:Bs}(hK:KC K)(hpost:∀s' a' w',K s'->kK B s' a' w'->Q .normal a' w'):
 ∀(n:Nat) (l:List Nat) (listed:Array Bool) (s:St) (a:Act) (w:World),l.length=n->Ord bl ops l->listed.size=ops.size->
  (∀j,j<ops.size->(listed.getD j true=false↔j∈l))->SX ops listed->qpX bl ops l s->aU P bl ops (l.map fun i=>ops.getD i default) s K->kK B s a w->
  wpAny P .any ops Q n listed a w:=by
 intro n
 induction n with
 |zero=>
  intro l listed s a w hn ho hsz hl hc hf hr h;have:l=[]:=List.eq_nil_of_length_eq_zero hn;subst this;refine⟨?_,hpost _ _ _ hr h⟩;rcases hh:Region.ready .any ops listed with _|⟨i,r⟩
  ·rfl
  ·exfalso
   obtain⟨h1,o,ho',_⟩:=mem_ready.1 (show i∈Region.ready .any ops listed by rw[hh];simp);have:=(hl i (Array.getElem?_eq_some_iff.1 ho').1).1 h1;simp at this
 |succ n ih=>
  intro l listed s a w hn ho hsz hl hc hf hr h;refine⟨fun h0=>?_,fun i hi=>?_⟩
  ·
   exfalso
   cases l with
   |nil=>simp at hn
   |cons i0 rest=>
    have hi0:=ho.lt i0 bz;have:i0∈Region.ready .any ops listed:=by
     refine mem_ready.2 ⟨(hl i0 hi0).2 bz,ops[i0],Array.getElem?_eq_getElem hi0,fun e he hb=>?_⟩
     rcases hx:listed.getD e.on false with _|_
     ·exfalso
      have hself:=ho.self i0 bz;have hnw:∀j,j∈rest->jo ops i0 j=true:=fun j hj=>(List.pairwise_cons.1 ho.nw).1 j hj
      have key:∀j,jo ops i0 j=true->e.on≠j:=fun j hj e'=>by
       unfold jo at hj;rw[Array.getElem?_eq_getElem hi0] at hj;have:=(Array.all_eq_true'.1 hj) e he;simp[hb,e'] at this
      rcases Nat.lt_or_ge e.on ops.size with hlt|hge
      ·have hun:listed.getD e.on true=false:=by
        have:e.on<listed.size:=qfm;simp[this] at hx ⊢;exact hx
       have:=(hl e.on hlt).1 hun;rcases List.mem_cons.1 this with h1|h1
       ·exact key i0 hself h1
       ·exact key e.on (hnw _ h1) rfl
      ·have hj:=ho.ed i0 bz;unfold su at hj;rw[Array.getElem?_eq_getElem hi0] at hj;have:=(Array.all_eq_true'.1 hj) e he;simp[hb] at this;omega
     ·rfl
    rw[h0] at this;cases this
  ·obtain⟨hun,oi,hoi,hall⟩:=mem_ready.1 hi;have hilt:=(Array.getElem?_eq_some_iff.1 hoi).1;have hil:i∈l:=(hl i hilt).1 hun;obtain⟨pre,post,rfl⟩:=List.append_of_mem hil;have hoid:ops.getD i default=oi:=by simp[hoi]
   have hpre:∀p∈pre,∃op,ops[p]? =some op∧je op=true∧xh bl oi=true∧kz op=false∧op.apart ops oi=true:=by
    intro p hp;have hpo:uh bl ops p i=true:=(List.pairwise_append.1 ho.ok).2.2 p hp i bz;unfold uh at hpo;rw[Bool.or_eq_true] at hpo;rcases hpo with hpo|hpo
    ·exfalso
     have h1:=rZ hc hpo (fun o ho' e he hb=>qfn);have hplt:=ho.lt p MK;have h2:=(hl p hplt).2 MK;rw[SY h2] at h1;cases h1
    ·rw[hoi] at hpo;cases hop:ops[p]? with
     |none=>rw[hop] at hpo;cases hpo
     |some op=>
      rw[hop] at hpo;simp only[Bool.and_eq_true,Bool.not_eq_true'] at hpo;exact⟨op,rfl,hpo.1.1.1,hpo.1.1.2,hpo.1.2,hpo.2⟩
   have hrun:aU P bl ops (oi::((pre++post).map fun i=>ops.getD i default)) s K:=by
    rw[List.map_append] at hr ⊢;rw[List.map_cons,hoid] at hr;cases hpz:pre with
    |nil=>rw[hpz] at hr;exact hr
    |cons p0 pre0=>
     obtain⟨op0,_,_,hmi,_,_⟩:=hpre p0 (by rw[hpz];simp);rw[<-hpz];have hfi:=hf i bz oi hoi hmi;refine aU.front hK hmi ?_ hr;intro q hq;obtain⟨p,hp,rfl⟩:=List.mem_map.1 hq;obtain⟨op,hop,h1,h2,h3,h4⟩:=hpre p hp;have:ops.getD p default=op:=by simp[hop]
     rw[this];exact⟨h1,h3,h4⟩
   have hsub:(pre++post).Sublist (pre++i::post):=List.Sublist.append (List.Sublist.refl _) (List.sublist_cons_self _ _);have hnd:=ho.nodup;have hinot:i∉pre++post:=by
    intro hm;have:=List.nodup_append.1 hnd;rcases List.mem_append.1 hm with h1|h1
    ·exact this.2.2 i h1 i bz rfl
    ·exact(List.nodup_cons.1 this.2.1).1 h1
   have hstep:iM P bl ops oi s (fun s'=>aU P bl ops ((pre++post).map fun i=>ops.getD i default) s' K∧qpX bl ops (pre++post) s'):=by
    exact iM.mono (fun s' hr'=>⟨hr',fun j hj oj hoj hmj d hf'=>by cases hf'⟩) hrun
   unfold wpOp;rw[hoi];dsimp only;have hS:=iM.sound (K':=wpAny P .any ops Q n (listed.setIfInBounds i true)) (Q:=Q) hstep h (fun s' a' w' hk hrel=>by
 refine ih (pre++post) (listed.setIfInBounds i true) s' a' w' ?_ (ho.sub hsub) (by simpa using hsz) ?_ ?_ hk.2 hk.1 hrel
 ·simp at hn ⊢;omega
 ·intro j hj
  exact qfh
 ·intro j hj o hoj e he hb
  by_cases hij:i=j
  ·exact Yg
  ·rw[getD_set_ne false hij] at hj;exact getD_set_true (hc j hj o hoj e he hb))
   split
   ·rename_i hw;rw[if_pos hw] at hS;exact .inl hS
   ·rename_i hw;rw[if_neg hw] at hS;exact hS
def xB(bl:List Nat)(ops:Array Oper)(perm:List Nat):Bool:=
 decide (perm.length=ops.size)&&perm.all (fun i=>decide (i<ops.size))&&(List.range ops.size).all (fun i=>perm.contains i)&&
 iO (uh bl ops) perm&&iO (jo ops) perm&&perm.all (fun i=>jo ops i i)&&perm.all (fun i=>su ops i)&&iO (MO bl ops) perm&&iO (MP bl ops) perm&&iO (fun i j=>i !=j) perm
def MQ(bl:List Nat)(ops:Array Oper)(s:St):Bool:=true
def vI{t:List (Nat×Value)}{d:Nat}{sv:Value}(h:look t d=some sv):(d,sv)∈t:=by
 induction t with
 |nil=>cases h
 |cons p t ih=>
  obtain⟨d',v⟩:=p
  by_cases e:d'=d
  ·subst e;rw[dO] at h;cases h;simp
  ·rw[cZ e] at h;exact List.mem_cons_of_mem _ (ih h)
def qfw{P:Program}{bl:List Nat}{id:Nat}{ops:Array Oper}{Q:Exit->Act->World->Prop}{s:St}{B:Bs}{w:World}{a:Act}(perm:List Nat){l:List Oper}{K:St->Prop}
 (hm:P.follows .mixedOrders=true)(hc:xB bl ops perm=true)(hl:perm.map (fun i=>ops.getD i default)=l)(hf:MQ bl ops s=true)(hr:aU P bl ops l s K)
 (hpost:∀s' a' w',K s'->kK B s' a' w'->Q .normal a' w')(h:kK B s a w):(Code.region id ops true).wp P Q a w:=by
 simp only[xB,Bool.and_eq_true,decide_eq_true_eq] at hc;obtain⟨⟨⟨⟨⟨⟨⟨⟨⟨hlen,hlt⟩,hall⟩,hpo⟩,hnw⟩,hself⟩,hed⟩,hds⟩,hmf⟩,hnd⟩:=hc;have hOrd:Ord bl ops perm:=⟨fun i hi=>of_decide_eq_true (List.all_eq_true.1 hlt i hi),gK hpo,gK hnw,fun i hi=>List.all_eq_true.1 hself i hi,fun i hi=>List.all_eq_true.1 hed i hi,
 gK hds,gK hmf,(gK hnd).imp (fun h=>pX)⟩
 subst hl;have hK:KC (fun s'=>∃s0,E8 s0 s'∧K s0):=fun s1 s2 he ⟨s0,h0,h1⟩=>⟨s0,h0.trans he,h1⟩
 have hr':aU P bl ops (perm.map fun i=>ops.getD i default) s (fun s'=>∃s0,E8 s0 s'∧K s0):=hr.mono (fun s' hs'=>⟨s',E8.refl _,hs'⟩);refine wp_region_any hm ?_;refine S9 hK (fun s' a' w' ⟨s0,he,hk⟩ hrel=>hpost s0 a' w' hk (he.symm.rel hrel)) ops.size perm _ s a _ hlen hOrd bz ?_ ?_ ?_ hr' h.drew
 ·intro j hj;have:j∈perm:=by
   have:=List.all_eq_true.1 hall j (List.mem_range.2 hj)
   simpa using this
  simp[hj,this]
 ·intro j hj
  exact qfj
 ·intro i hi o ho hmo d hf';cases hf'
end Go.Via
