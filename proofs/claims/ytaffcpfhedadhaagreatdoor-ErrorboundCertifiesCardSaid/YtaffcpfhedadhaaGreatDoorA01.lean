/-
  Part 1 (chapter 32): lemmas, walks. Each theorem states its own conditions.
-/
import GoSem.Core.World
set_option linter.all false
set_option maxRecDepth 20000
set_option maxHeartbeats 20000000
namespace Go.Via
open Go
abbrev aO:Value:= .bool false
abbrev aP:Value:= .string ⟨#[]⟩
abbrev dD(g:Nat):Value:= .pointer (some ⟨g,0,none⟩)
abbrev aZ(n:Nat):Value:= .int .i64 (n:Int)
inductive MT where
 |l (n:Nat)
 |p (a b:MT)
def pr(a b:Nat):Nat:=2^a*(2*b+1)
def Y7:∀{a b c d:Nat},pr a b=pr c d->a=c∧b=d
 |0,b,0,d,h=>by simp[pr] at h;exact⟨rfl,by omega⟩
 |0,b,c+1,d,h=>by
  unfold pr at h;rw[Nat.pow_succ,Nat.pow_zero,Nat.one_mul,Nat.mul_comm (2^c) 2,Nat.mul_assoc] at h;omega
 |a+1,b,0,d,h=>by
  unfold pr at h;rw[Nat.pow_succ,Nat.pow_zero,Nat.one_mul,Nat.mul_comm (2^a) 2,Nat.mul_assoc] at h;omega
 |a+1,b,c+1,d,h=>by
  unfold pr at h;rw[Nat.pow_succ,Nat.pow_succ,Nat.mul_comm (2^a) 2,Nat.mul_comm (2^c) 2,Nat.mul_assoc,Nat.mul_assoc] at h;have h2:pr a b=pr c d:=by unfold pr;omega
  obtain⟨h3,h4⟩:=Y7 h2;exact⟨by omega,h4⟩
def MT.num:MT->Nat
 | .l n=>2*n
 | .p a b=>2*pr a.num b.num+1
theorem MT.num_inj:∀{x y:MT},x.num=y.num->x=y
 | .l a,.l b,h=>by simp only[MT.num] at h;rw[show a=b by omega]
 | .l a,.p b c,h=>by simp only[MT.num] at h;omega
 | .p b c,.l a,h=>by simp only[MT.num] at h;omega
 | .p a b,.p c d,h=>by
   simp only[MT.num] at h;obtain⟨h1,h2⟩:=Y7 (a:=a.num) (b:=b.num) (c:=c.num) (d:=d.num) (by omega);rw[MT.num_inj h1,MT.num_inj h2]
def mtL{α:Type}(f:α->MT):List α->MT
 |[]=> .l 0
 |x::xs=> .p (f x) (mtL f xs)
theorem Aw{α:Type}{f:α->MT}{Q:α->Prop}(hf:∀x y,Q x->Q y->f x=f y->x=y):∀{xs ys:List α},(∀x∈xs,Q x)->(∀y∈ys,Q y)->mtL f xs=mtL f ys->xs=ys
 |[],[],_,_,_=>rfl
 |[],_::_,_,_,h=>by cases h
 |_::_,[],_,_,h=>by cases h
 |x::xs,y::ys,hx,hy,h=>by
  simp only[mtL,MT.p.injEq] at h;rw[hf x y (hx x (by simp)) (hy y (by simp)) h.1,Aw hf (fun z hz=>hx z (by simp[hz])) (fun z hz=>hy z (by simp[hz])) h.2]
def mtI(z:Int):MT:=if z<0 then .p (.l 1) (.l z.natAbs) else .p (.l 0) (.l z.natAbs)
theorem qcT{a b:Int}(h:mtI a=mtI b):a=b:=by
 unfold mtI at h
 split at h<;>split at h<;>simp at h<;>omega
def ikN:IntKind->Nat
 | .i8=>0| .i16=>1| .i32=>2| .i64=>3| .u8=>4| .u16=>5| .u32=>6| .u64=>7
theorem qcU:∀{a b:IntKind},ikN a=ikN b->a=b:=by intro a b;cases a<;>cases b<;>simp[ikN]
def Value.simple0:Value->Bool
 | .bool _| .int .. | .string _=>true
 |_=>false
def Value.simple:Value->Bool
 | .agg xs=>xs.toList.all Value.simple0
 |v=>Value.simple0 v
def Xo:Value->MT
 | .bool b=> .p (.l 0) (.l b.toNat)
 | .int k z=> .p (.l 1) (.p (.l (ikN k)) (mtI z))
 | .string s=> .p (.l 2) (mtL (fun u:UInt8=> .l u.toNat) s.data.toList)
 |_=> .l 9
def N9{x y:Value}(hx:Value.simple0 x=true)(hy:Value.simple0 y=true)(h:Xo x=Xo y):x=y:=by
 cases x<;>cases y<;>first|(simp[Value.simple0] at hx;done)|(simp[Value.simple0] at hy;done)|skip
 case bool.bool a b=>simp[Xo] at h;cases a<;>cases b<;>simp at h<;>rfl
 case int.int k a j b=>
  simp[Xo] at h;rw[qcU h.1,qcT h.2]
 case string.string a b=>
  simp only[Xo,MT.p.injEq,true_and] at h;have:=Aw (Q:=fun _=>True) (fun x y _ _ h=>UInt8.toNat_inj.1 (MT.l.inj h)) (fun _ _=>trivial) (fun _ _=>trivial) h;have h2:a.data=b.data:=Array.toList_inj.1 this;cases a;cases b;simp at h2;rw[h2]
 all_goals (simp[Xo] at h)
def mt1:Value->MT
 | .agg xs=> .p (.l 8) (mtL Xo xs.toList)
 |v=>Xo v
def U4{x y:Value}(hx:Value.simple x=true)(hy:Value.simple y=true)(h:mt1 x=mt1 y):x=y:=by
 have key:∀(xs:Array Value) (v:Value),Value.simple0 v=true->mt1 (.agg xs)≠Xo v:=fun xs v hv e=>by
  cases v<;>simp[Value.simple0] at hv<;>simp[mt1,Xo] at e
 have one:∀v:Value,(∀xs,v≠ .agg xs)->Value.simple v=Value.simple0 v∧mt1 v=Xo v:=fun v hv=>by
  cases v<;>first|exact⟨rfl,rfl⟩|exact absurd rfl (hv _)
 by_cases cx:∃xs,x= .agg xs
 ·obtain⟨xs,rfl⟩:=cx
  by_cases cy:∃ys,y= .agg ys
  ·obtain⟨ys,rfl⟩:=cy;simp only[mt1,MT.p.injEq,true_and] at h;have:=Aw (Q:=fun v=>Value.simple0 v=true) (fun _ _ h1 h2=>N9 h1 h2) (fun v hv=>List.all_eq_true.1 hx v hv) (fun v hv=>List.all_eq_true.1 hy v hv) h;rw[Array.toList_inj.1 this]
  ·obtain⟨e1,e2⟩:=one y (fun ys e=>cy ⟨ys,e⟩);rw[e2] at h;exact absurd h (key xs y (by rw[<-e1];exact hy))
 ·obtain⟨e1,e2⟩:=one x (fun ys e=>cx ⟨ys,e⟩)
  by_cases cy:∃ys,y= .agg ys
  ·obtain⟨ys,rfl⟩:=cy;rw[e2] at h;exact absurd h.symm (key ys x (by rw[<-e1];exact hx))
  ·obtain⟨d1,d2⟩:=one y (fun ys e=>cy ⟨ys,e⟩);rw[e2,d2] at h;exact N9 (by rw[<-e1];exact hx) (by rw[<-d1];exact hy) h
def sD(l:List (Value×Value)):Bool:=l.all fun p=>Value.simple p.1&&Value.simple p.2
def mtM(l:List (Value×Value)):MT:=mtL (fun p=> .p (mt1 p.1) (mt1 p.2)) l
def qcV{l m:List (Value×Value)}(hl:sD l=true)(hm:sD m=true)(h:mtM l=mtM m):l=m:=
 Aw (Q:=fun p=>Value.simple p.1=true∧Value.simple p.2=true) (fun x y h1 h2 h=>Prod.ext (U4 h1.1 h2.1 (MT.p.inj h).1) (U4 h1.2 h2.2 (MT.p.inj h).2))
  (fun p hp=>by have:=List.all_eq_true.1 hl p hp;simpa using this) (fun p hp=>by have:=List.all_eq_true.1 hm p hp;simpa using this) h
def qfQ:∃f:List (Value×Value)->Nat,∀l m,sD l=true->sD m=true->f l=f m->l=m:=
 ⟨fun l=>(mtM l).num,fun _ _ hl hm h=>qcV hl hm (MT.num_inj h)⟩
noncomputable def mE0:List (Value×Value)->Nat:=Classical.choose qfQ
abbrev cZ:Nat:=1000000
noncomputable def mE(l:List (Value×Value)):Nat:=cZ+2*mE0 l
def qiZ(l:List (Value×Value)):¬mE l<cZ:=by unfold mE;omega
def qgK{l m:List (Value×Value)}(hl:sD l=true)(hm:sD m=true)(h:mE l=mE m):l=m:=Classical.choose_spec qfQ l m hl hm (by unfold mE at h;unfold mE0 at h;omega)
noncomputable def mQ(born:Nat)(key:Value)(l:List (Value×Value)):Nat:=cZ+2*mE0 ((.int .i64 born,key)::l)+1
def qgL{l m:List (Value×Value)}{b:Nat}{k:Value}:mE l≠mQ b k m:=by unfold mE mQ;omega
def Value.simpleT:Value->Bool
 | .bool _| .int .. | .string _| .slice .. | .pointer _=>true
 |_=>false
def Y3:Option Addr->MT
 |none=> .l 0
 |some ⟨b,o,none⟩=> .p (.l 0) (.p (.l b) (.l o))
 |some ⟨b,o,some s⟩=> .p (.l 1) (.p (.l b) (.p (.l o) (.l s)))
theorem U5:∀{a b:Option Addr},Y3 a=Y3 b->a=b
 |none,none,_=>rfl
 |none,some ⟨_,_,none⟩,h=>by simp[Y3] at h
 |none,some ⟨_,_,some _⟩,h=>by simp[Y3] at h
 |some ⟨_,_,none⟩,none,h=>by simp[Y3] at h
 |some ⟨_,_,some _⟩,none,h=>by simp[Y3] at h
 |some ⟨_,_,none⟩,some ⟨_,_,none⟩,h=>by simp[Y3] at h;simp[h]
 |some ⟨_,_,none⟩,some ⟨_,_,some _⟩,h=>by simp[Y3] at h
 |some ⟨_,_,some _⟩,some ⟨_,_,none⟩,h=>by simp[Y3] at h
 |some ⟨_,_,some _⟩,some ⟨_,_,some _⟩,h=>by simp[Y3] at h;simp[h]
def mtT:Value->MT
 | .slice a l c=> .p (.l 3) (.p (Y3 a) (.p (.l l) (.l c)))
 | .pointer a=> .p (.l 4) (Y3 a)
 |v=>Xo v
def qcW{x y:Value}(hx:Value.simpleT x=true)(hy:Value.simpleT y=true)(h:mtT x=mtT y):x=y:=by
 cases x<;>cases y<;>first|(simp[Value.simpleT] at hx;done)|(simp[Value.simpleT] at hy;done)|skip
 case slice.slice a l c a' l' c'=>
  simp[mtT] at h;rw[U5 h.1,h.2.1,h.2.2]
 case pointer.pointer a b=>
  simp[mtT] at h;rw[U5 h]
 all_goals first|(exact N9 rfl rfl h)|(simp[mtT,Xo] at h)
abbrev KO:=List (Nat×List Value)
def GL(T:KO):Bool:=T.all fun p=>p.2.all Value.simpleT
def Y8(T:KO):MT:=mtL (fun p=> .p (.l p.1) (mtL mtT p.2)) T
def Xp{T U:KO}(hT:GL T=true)(hU:GL U=true)(h:Y8 T=Y8 U):T=U:=
 Aw (Q:=fun p=>p.2.all Value.simpleT=true) (fun x y h1 h2 h=>Prod.ext (MT.l.inj (MT.p.inj h).1) (Aw (Q:=fun v=>Value.simpleT v=true) (fun _ _ a b e=>qcW a b e) (fun v hv=>List.all_eq_true.1 h1 v hv) (fun v hv=>List.all_eq_true.1 h2 v hv) (MT.p.inj h).2))
  (fun p hp=>List.all_eq_true.1 hT p hp) (fun p hp=>List.all_eq_true.1 hU p hp) h
def qfR:∃f:KO->Nat,∀T U,GL T=true->GL U=true->f T=f U->T=U:=
 ⟨fun T=>(Y8 T).num,fun _ _ hT hU h=>Xp hT hU (MT.num_inj h)⟩
noncomputable def gE(T:KO):Nat:=cZ+Classical.choose qfR T
def Iu(T:KO):¬gE T<cZ:=by unfold gE;omega
def qgM{T U:KO}(hT:GL T=true)(hU:GL U=true)(h:gE T=gE U):T=U:=Classical.choose_spec qfR T U hT hU (by unfold gE at h;omega)
end Go.Via
