/-
  Part 6 (chapter 32): lemmas, walks. Each theorem states its own conditions.
-/
import GoSem.Core.World
import Derived.MapKept
import Derived.WalkKit
import Derived.WalkSpells
import Derived.WalkLawsBesides
import Derived.Deep.LoopGhost
import Derived.Deep.AppendSrc
import Derived.Laws.BytesArg
import Derived.Laws.CopyRow
import Derived.Laws.AppendOwn
import Derived.Test.YtaffcpfhedadhaaGreatDoorA05
set_option linter.all false
set_option maxRecDepth 20000
set_option maxHeartbeats 20000000
section
variable{P Q:Prop}{T:Type}{R:T->Prop}
def JR(h:P:=by rw[hd'] at hd;simpa using hd):=h
def Yl(h:P:=by intro hb;rw[hb] at h1;cases h1):=h
def EL(h:P:=by simp[TD hr hv]):=h
def TA(h:P:=by simpa using hpos):=h
def Ym(h:P:=by simpa using hne):=h
def Om(h:P:=by simpa using hl):=h
def Oo(h:P:=by rw[<-h3.1];exact hn):=h
def JS(h:P:=by rw[<-h3.1];exact hg):=h
def qkl(h:P:=by have:=h3.2;simp at this;exact this.1):=h
def zf(h:P:=by cases h):=h
def TB(h:P:=by simpa using List.all_eq_true.1 ho b hb):=h
end
namespace Go.Via
variable[Mo]
open Go Go.RowKit
def At(B:Bs)(s:St)(X:Act->World->Prop):Prop:=∀(a:Act) (w:World),kQ B s a w->X a w
section
variable{P:Program}{B:Bs}{s:St}{Q:Exit->Act->World->Prop}
def VO{x y:Code}(h:At B s (x.wp P (Exit.then (y.wp P Q) Q))):At B s ((Code.seq x y).wp P Q):=fun a w hr=>wp_seq (h a w hr)
def gQ{c:Operand}{x y:Code}{b:Bool}(hc:ev s.t c=some (.bool b))(h1:b=true->At B s (x.wp P Q))(h2:b=false->At B s (y.wp P Q)):At B s ((Code.cond c x y).wp P Q):=fun a w hr=>by
 have:=hr.ev hc;cases b
 ·exact wp_cond_false this (h2 rfl a w hr)
 ·exact wp_cond_true this (h1 rfl a w hr)
def qcE{c:Operand}{x y:Code}(hc:ev s.t c=some (.bool true))(h:At B s (x.wp P Q)):At B s ((Code.cond c x y).wp P Q):=fun a w hr=>wp_cond_true (hr.ev hc) (h a w hr)
def qcF{c:Operand}{x y:Code}(hc:ev s.t c=some (.bool false))(h:At B s (y.wp P Q)):At B s ((Code.cond c x y).wp P Q):=fun a w hr=>wp_cond_false (hr.ev hc) (h a w hr)
def qhs(h:At B s (Q .normal)):At B s (Code.skip.wp P Q):=fun a w hr=>wp_skip (h a w hr)
def qlX(h:At B s (Q .ret)):At B s (Code.ret.wp P Q):=fun a w hr=>wp_ret (h a w hr)
def qcG{id:Nat}{c:Code}(h:At B s (c.wp P (Exit.inBlock id Q))):At B s ((Code.block id c).wp P Q):=fun a w hr=>wp_block (h a w hr)
def qht{id:Nat}(h:At B s (Q (.exit id))):At B s ((Code.exit id).wp P Q):=fun a w hr=>wp_exit (h a w hr)
def qaA{id:Nat}{l:List Oper}(h:aY P [] l.toArray l s (fun s'=>At B s' (Q .normal))):At B s ((Code.region id l.toArray false).wp P Q):=fun a w hr=>
 wp_region_lit (aY.sound h hr (fun s' a' w' h1 h2=>h1 a' w' h2))
def mP{id:Nat}{l:List Oper}(h:aY P [1000000] l.toArray l s (fun s'=>At B s' (Q .normal))):At B s ((Code.region id l.toArray false).wp P Q):=fun a w hr=>
 wp_region_lit (aY.sound h hr (fun s' a' w' h1 h2=>h1 a' w' h2))
def TC{id:Nat}{l l':List Oper}(bl perm:List Nat)(hm:P.follows .mixedOrders=true)(hc:vY bl l.toArray perm=true)(hl:perm.map (fun i=>l.toArray.getD i default)=l')(hf:JP bl l.toArray s=true)
 (h:aY P bl l.toArray l' s (fun s'=>At B s' (Q .normal))):At B s ((Code.region id l.toArray true).wp P Q):=fun a w hr=>
 qcy (K:=fun s'=>At B s' (Q .normal)) perm hm hc hl hf h (fun s' a' w' h1 h2=>h1 a' w' h2) hr
def qhu{ι:Type}{c:Code}(inv:ι->St)(μ:ι->Nat)(i₀:ι)(h₀:∀a w,kQ B s a w->kQ B (inv i₀) a w)
 (round:∀i,At B (inv i) (c.wp P (Exit.then (fun a' w'=>∃j,μ j<μ i∧kQ B (inv j) a' w') Q))):At B s ((Code.loop c).wp P Q):=fun a w hr=>by
 refine wp_loop_ghost (fun n a w=>∃i,μ i=n∧kQ B (inv i) a w) (μ i₀) ⟨i₀,rfl,h₀ a w hr⟩ ?_;rintro n a w ⟨i,rfl,hi⟩;refine wp_mono (round i a w hi) ?_;intro e a' w' hq;cases e with
 |normal=>obtain⟨j,h1,h2⟩:=hq;exact⟨μ j,h1,j,rfl,h2⟩
 |_=>exact hq
def kQ.sub{t:List (Nat×Value)}{a:Act}{w:World}(hr:kQ B s a w)(h:∀d v,look t d=some v->look s.t d=some v):kQ B ⟨s.nt,t,s.L⟩ a w:=
 ⟨hr.df,hr.size,fun d v hd=>hr.tmp d v (h d v hd),hr.mem⟩
end
section
variable{P:Program}{bl:List Nat}{ops:Array Oper}{s:St}{K:St->Prop}{rest:List Oper}
def Qj(h:K s):aY P bl ops [] s K:=h
def fD{o:Oper}{v:Value}(hd:(match o.dst with|some d=>Nat.blt d s.nt|none=>true)=true)(hg:az ops o s.t=some true)(_hc:(kJ o||(isAl o||isSto o))=false)(hq:EG P o (s.bk bl) v)
 (h:aY P bl ops rest (s.put o.dst v) K)(hp:zW o=true->nX P s.t o=some v:=by intro h;cases h):aY P bl ops (o::rest) s K:=
 ⟨fun d hd'=>JR,true,hg,.inr ⟨rfl,.inl ⟨by rw[Bool.or_eq_false_iff] at _hc;rw[_hc.2,Bool.and_false],v,⟨hq,fun _=>hp⟩,h⟩⟩⟩
def qlY{o:Oper}{v:Value}(hd:(match o.dst with|some d=>Nat.blt d s.nt|none=>true)=true)(hg:az ops o s.t=some true)(ha:(isAl o||isSto o)=false)(hq:EG P o (s.bk bl) v)
 (h:aY P bl ops rest (s.put o.dst v) K)(hp:zW o=true->nX P s.t o=some v:=by intro h;cases h):aY P bl ops (o::rest) s K:=
 ⟨fun d hd'=>JR,true,hg,.inr ⟨rfl,.inl ⟨by rw[ha,Bool.and_false],v,⟨hq,fun _=>hp⟩,h⟩⟩⟩
def qlZ{o:Oper}(hd:(match o.dst with|some d=>Nat.blt d s.nt|none=>true)=true)(hg:az ops o s.t=some false)(h:aY P bl ops rest (s.put o.dst undef) K):aY P bl ops (o::rest) s K:=
 ⟨fun d hd'=>JR,false,hg,.inl ⟨rfl,h⟩⟩
def EM{o:Oper}{X:Type}{res:X->Value}{new:X->List aJ}(hd:(match o.dst with|some d=>Nat.blt d s.nt|none=>true)=true)(hg:az ops o s.t=some true)(hc:kJ o=true)(hq:Qc P o s X res new)(hF:Jj bl=true->EH P o s X res new∧Nonempty X)
 (h:∀x,aY P bl ops rest (({s with L:=s.L++new x}:St).put o.dst (res x)) K):aY P bl ops (o::rest) s K:=
 ⟨fun d hd'=>JR,true,hg,.inr ⟨rfl,.inr (.inl ⟨hc,X,res,new,hq,hF,h⟩)⟩⟩
def Oq{o:Oper}{X:Type}{nx:X->St}(hd:(match o.dst with|some d=>Nat.blt d s.nt|none=>true)=true)(hg:az ops o s.t=some true)(hm:(jo o||isAsg o||(isAl o||isSto o))=false)(hm':((isSto o||isME o)&&Gv bl)=false)(hq:(∀d,o.dst=some d->d<s.nt)->Eff P o s X nx)
 (h:∀x,aY P bl ops rest (nx x) K):aY P bl ops (o::rest) s K:=
 have hd':∀d,o.dst=some d->d<s.nt:=fun d hd'=>JR
 ⟨hd',true,hg,.inr ⟨rfl,.inr (.inr (.inl ⟨by rw[Bool.or_eq_false_iff,Bool.or_eq_false_iff] at hm;simp[Qe,hm.1.1,hm.1.2],by rw[Bool.or_eq_false_iff] at hm;rw[hm.2,Bool.and_false],by rw[hm',Bool.and_false],X,nx,hq hd',h⟩))⟩⟩
def qcH{o:Oper}{X:Type}{nx:X->St}(hd:(match o.dst with|some d=>Nat.blt d s.nt|none=>true)=true)(hg:az ops o s.t=some true)(hb:Jk bl=true)(hq:(∀d,o.dst=some d->d<s.nt)->Eff P o s X nx)
 (h:∀x,aY P bl ops rest (nx x) K):aY P bl ops (o::rest) s K:=
 have hd':∀d,o.dst=some d->d<s.nt:=fun d hd'=>JR
 ⟨hd',true,hg,.inr ⟨rfl,.inr (.inr (.inl ⟨by rw[hb];rfl,by rw[show bl=[1000000] by simpa[Jk] using hb];rfl,by rw[hb];rfl,X,nx,hq hd',h⟩))⟩⟩
def Yn{o:Oper}{L':List aJ}(hg:az ops o s.t=some true)(hs:isSto o=true)(hd:o.dst=none)(he:qcv P o s L')(hb:Gv bl=true->blank bl L'=blank bl s.L)(h:aY P bl ops rest {s with L:=L'} K):aY P bl ops (o::rest) s K:=
 ⟨fun d hd'=>(by rw[hd] at hd';cases hd'),true,hg,.inr ⟨rfl,.inr (.inr (.inr (.inl ⟨hs,hd,L',he,hb,h⟩)))⟩⟩
def qcI{o:Oper}{e:TypeId}{cs:Array Value}(hd:(match o.dst with|some d=>Nat.blt d s.nt|none=>true)=true)(hg:az ops o s.t=some true)(ha:isAl o=true)(hq:zV P s.t o=some (e,cs))
 (h:∀g,aY P bl ops rest (({s with L:=s.L++[alB g e cs]}:St).put o.dst (alV o g)) K):aY P bl ops (o::rest) s K:=
 ⟨fun d hd'=>JR,true,hg,.inr ⟨rfl,.inr (.inr (.inr (.inr (.inl ⟨ha,e,cs,hq,h⟩))))⟩⟩
end
def iR(P:Program)(f:Nat):Bool:=match P.funcs[f]? with
 |some fn=>fn.body.isSome&& !(fn.name== "runtime.NumGoroutine")
 |none=>false
theorem qJ{P:Program}{f:Nat}(hf:iR P f=true)(a:Act){o:Oper}{x:Operand}{args:Array Operand}{ts:Array TypeId}(ho:o.op= .call {callee:= .value x,args:=args,argTypes:=ts})(hx:a.eval x= .func (.func f) #[] #[]){vs:Array Value}(hv:args.map a.eval=vs)(w:World):
 (execOp a.eval o).run P w= .ok (.enter f vs) w:=by
 unfold iR at hf;cases hq:P.funcs[f]? with
 |none=>rw[hq] at hf;cases hf
 |some fn=>
  rw[hq] at hf;simp only[Bool.and_eq_true,Bool.not_eq_true'] at hf;obtain⟨h1,h2⟩:=hf;have h3:fn.body≠none:=Yl
  have h4:¬fn.name= "runtime.NumGoroutine" :=Ig;simp[execOp,ho,resolve,hx,Deferred.ofValue,invoke,callFunc,hv,hq,h4,h3]
def aP(P:Program)(f:Nat)(args:Array Value)(v:Value):Prop:=
 iR P f=true∧∀w,Calls P f args w fun e w'=>e= .returned v∧eH w.heap.size w w'
theorem TD{B:Bs}{s:St}{a:Act}{w:World}(hr:kQ B s a w):∀{l:List Operand} {vs:List Value},l.map (ev s.t)=vs.map some->l.map a.eval=vs
 |[],vs,h=>by cases vs<;>simp_all
 |x::l,vs,h=>by
  cases vs with
  |nil=>simp at h
  |cons v vs=>
   simp only[List.map_cons,List.cons.injEq] at h;rw[List.map_cons,hr.ev h.1,TD hr h.2]
def ql0{P:Program}{o:Oper}{s:St}{f:Nat}{args:List Operand}{ts:Array TypeId}{vs:List Value}{v:Value}(ho:o.op= .call {callee:= .value (.func f),args:=args.toArray,argTypes:=ts})
 (hv:args.map (ev s.t)=vs.map some)(hc:aP P f vs.toArray v):Qc P o s Unit (fun _=>v) (fun _=>[]):=fun B a w hr=>by
 refine⟨f,vs.toArray,qJ hc.1 a ho rfl EL w,(hc.2 w).mono ?_⟩;rintro e w' ⟨rfl,hw⟩;exact⟨(),rfl,by simpa using hr.mem.same hw⟩
def qhv{P:Program}{o:Oper}{s:St}{f:Nat}{args:List Operand}{ts:Array TypeId}{vs:List Value}{v:Value}(ho:o.op= .call {callee:= .value (.func f),args:=args.toArray,argTypes:=ts})
 (hv:args.map (ev s.t)=vs.map some)(hc:aP P f vs.toArray v):EH P o s Unit (fun _=>v) (fun _=>[]):=fun B a w hr=>by
 refine⟨f,vs.toArray,qJ hc.1 a ho rfl EL w,(hc.2 w).mono ?_⟩;rintro e w' ⟨rfl,hw⟩;exact⟨(),rfl,⟨.of hw,fun k b hk=>Tc,(fun i j g bi bj hij hi=>Oj),mO.nil _ _⟩,fun b hb=>by cases hb⟩
def qkm{P:Program}{o:Oper}{s:St}{f:Nat}{args:List Operand}{ts:Array TypeId}{vs:List Value}{X:Type}{res:X->Value}{new:X->List aJ}(ho:o.op= .call {callee:= .value (.func f),args:=args.toArray,argTypes:=ts})
 (hv:args.map (ev s.t)=vs.map some)(hf:iR P f=true)(hc:∀(B:Bs) (w:World),bg B s.L w->Calls P f vs.toArray w fun e w'=>∃x,e= .returned (res x)∧bg B (s.L++new x) w'):Qc P o s X res new:=fun B a w hr=>
 ⟨f,vs.toArray,qJ hf a ho rfl EL w,hc B w hr.mem⟩
def ql1{P:Program}{o:Oper}{s:St}{f:Nat}{args:List Operand}{ts:Array TypeId}{vs:List Value}{X:Type}{res:X->Value}{new:X->List aJ}(ho:o.op= .call {callee:= .value (.func f),args:=args.toArray,argTypes:=ts})
 (hv:args.map (ev s.t)=vs.map some)(hf:iR P f=true)(hc:∀(B:Bs) (w:World),bg B s.L w->Calls P f vs.toArray w fun e w'=>∃x,e= .returned (res x)∧bg w (new x) w'∧∀b∈new x,b.own=true):EH P o s X res new:=fun B a w hr=>
 ⟨f,vs.toArray,qJ hf a ho rfl EL w,hc B w hr.mem⟩
def qcJ:Nat->List Value->List (Nat×Value)
 |_,[]=>[]
 |k,v::l=>(k,v)::qcJ (k+1) l
def qaB{l:List Value}:∀{k d:Nat} {v:Value},look (qcJ k l) d=some v->k<=d∧l[d-k]? =some v:=by
 induction l with
 |nil=>intro k d v h;cases h
 |cons x l ih=>
  intro k d v h
  by_cases e:k=d
  ·subst e;rw[qcJ,dU] at h;cases h;simp
  ·rw[qcJ,cZ e] at h;obtain⟨h1,h2⟩:=ih h;refine⟨ae,?_⟩;rw[show d-k=(d-(k+1))+1 by omega,List.getElem?_cons_succ];exact h2
def bg.nil(w:World):bg w [] w:=⟨.of (eH.refl _ _),fun k b hk=>Tc,(fun i j g bi bj hij hi=>Oj),mO.nil _ _⟩
def um{P:Program}{f:Nat}{fn:Func}{c:Code}{args:List Value}{B:Bs}{w:World}{R:Ending->World->Prop}{L:List aJ}(hf:P.funcs[f]? =some fn)(hb:fn.body=some c)(hn:args.length<=fn.ntmps)(hL:bg B L w)
 (h:At B ⟨fn.ntmps,qcJ 0 args,L⟩ (c.wp P (bodyPost P fn R)))(hD:B.D=[]:=by first|rfl|assumption):Calls P f args.toArray w R:=by
 refine calls_of_wp hf hb (h _ _ ⟨hD.symm,?_,fun d v hd=>?_,hL⟩)
 ·simp;omega
 ·obtain⟨_,h2⟩:=qaB hd;simp only[Nat.sub_zero] at h2;have hlt:=(List.getElem?_eq_some_iff.1 h2).1;simp only[List.size_toArray];rw[Array.getElem?_append_left Tz]
  simpa using h2
def zh(P:Program)(s:St)(r:ResultVar)(v:Value):Prop:=∀(B:Bs) (a:Act) (w:World),kQ B s a w->
 (match r with| .tmp t=>pure (a.tmps.getD t undef)| .cell p t=>do Go.loadVar t (<-asAddr (a.tmps.getD p undef)):Sem Value).run P w= .ok v w
def au{P:Program}{s:St}{t:Nat}{v:Value}(h:look s.t t=some v):zh P s (.tmp t) v:=fun B a w hr=>by
 have:=hr.tmp t v h;simp[this]
def bz{P:Program}{s:St}{p T:Nat}{b:aJ}{i:TI}{vs:List Value}{v:Value}(k:Nat)(hk:s.L[k]? =some b)(h:look s.t p=some (b.at 0))(hi:dO P T i=true)(hvs:b.cs.take i.size=vs)(hlen:vs.length=i.size)(hpos:0<i.size)
 (hv:(bif i.agg then some (.agg vs.toArray) else vs[0]?)=some v):zh P s (.cell p T) v:=fun B a w hr=>by
 have h1:=hr.tmp p _ h;obtain⟨g,hg,h2⟩:=hr.mem.loadVar (P:=P) hk hi (off:=0) (by simpa using hvs) hlen hpos hv;unfold aJ.at at h1;rw[hg] at h1;simp only[Option.map_some] at h1;simp[h1,asAddr,h2]
def aK{P:Program}{B:Bs}{fn:Func}{R:Ending->World->Prop}{s:St}{r:ResultVar}{v:Value}(hfn:fn.results= #[r])(h:zh P s r v)(hR:∀w,bg B s.L w->R (.returned v) w)(hD:B.D=[]:=by first|rfl|assumption):At B s (bodyPost P fn R .ret):=fun a w hr=>by
 refine⟨hr.df.trans hD,v,?_,hR w hr.mem⟩;have:=h B a w hr;cases r with
 |tmp t=>simp only[Sem.run_pure] at this;simp[results,hfn];simpa using this
 |cell p T=>
  simp only[Sem.run_bind] at this;simp only[results,hfn];simp[Sem.run_bind,Result.andThen] at this ⊢
  split at this<;>simp_all
def bM{P:Program}{B:Bs}{fn:Func}{R:Ending->World->Prop}{s:St}{r r':ResultVar}{v v':Value}(hfn:fn.results= #[r,r'])(h:zh P s r v)(h':zh P s r' v')(hR:∀w,bg B s.L w->R (.returned (.tuple #[v,v'])) w)(hD:B.D=[]:=by first|rfl|assumption):At B s (bodyPost P fn R .ret):=fun a w hr=>by
 refine⟨hr.df.trans hD,.tuple #[v,v'],?_,hR w hr.mem⟩;have h1:=h B a w hr;have h2:=h' B a w hr;unfold results;rw[hfn];simp only[List.mapM_toArray,List.mapM_cons,List.mapM_nil,Sem.run_bind,Sem.run_map,bind_pure_comp];cases r<;>cases r'<;>simp only[Sem.run_bind,Sem.run_pure] at h1 h2 ⊢ <;>simp_all
def yB{P:Program}{B:Bs}{fn:Func}{R:Ending->World->Prop}{s:St}{r r' r'':ResultVar}{v v' v'':Value}(hfn:fn.results= #[r,r',r''])(h:zh P s r v)(h':zh P s r' v')(h'':zh P s r'' v'')(hR:∀w,bg B s.L w->R (.returned (.tuple #[v,v',v''])) w)(hD:B.D=[]:=by first|rfl|assumption):At B s (bodyPost P fn R .ret):=fun a w hr=>by
 refine⟨hr.df.trans hD,.tuple #[v,v',v''],?_,hR w hr.mem⟩;have h1:=h B a w hr;have h2:=h' B a w hr;have h3:=h'' B a w hr;unfold results;rw[hfn];simp only[List.mapM_toArray,List.mapM_cons,List.mapM_nil,Sem.run_bind,Sem.run_map,bind_pure_comp];cases r<;>cases r'<;>cases r''<;>simp only[Sem.run_bind,Sem.run_pure] at h1 h2 h3 ⊢ <;>simp_all
end Go.Via
namespace Go.Via
variable[Mo]
open Go Go.RowKit
section
variable{P:Program}{bl:List Nat}{ops:Array Oper}{K:St->Prop}{rest:List Oper}{nt:Nat}{t:List (Nat×Value)}{L:List aJ}{d:Nat}{ty:TypeId}{pos:String}{af:Array Edge}{g:Option (Nat×Bool)}
def ql2{x:Operand}{v:Value}(hd:Nat.blt d nt=true)(hg:az ops ⟨some d,.move x,ty,pos,af,g⟩ t=some true)(hx:ev t x=some v)(h:aY P bl ops rest ⟨nt,(d,v)::t,L⟩ K):
 aY P bl ops (⟨some d,.move x,ty,pos,af,g⟩::rest) ⟨nt,t,L⟩ K:=fD hd hg rfl (qlW rfl hx) h (fun _=>hx)
def VP{x:Operand}{v:Addr}(hd:Nat.blt d nt=true)(hg:az ops ⟨some d,.nilCheck x,ty,pos,af,g⟩ t=some true)(hx:ev t x=some (.pointer (some v)))(h:aY P bl ops rest ⟨nt,(d,.pointer (some v))::t,L⟩ K):
 aY P bl ops (⟨some d,.nilCheck x,ty,pos,af,g⟩::rest) ⟨nt,t,L⟩ K:=fD hd hg rfl (fun B a w hr=>by simp[execOp,hr.ev hx]) h
def JU{x:Operand}{v:Value}(hd:Nat.blt d nt=true)(hg:az ops ⟨some d,.assign x,ty,pos,af,g⟩ t=some true)(hx:ev t x=some v)(h:aY P bl ops rest ⟨nt,(d,v)::t,L⟩ K):
 aY P bl ops (⟨some d,.assign x,ty,pos,af,g⟩::rest) ⟨nt,t,L⟩ K:=fD hd hg rfl (qcB rfl hx) h
def qhw{c x y:Operand}{v:Value}(hd:Nat.blt d nt=true)(hg:az ops ⟨some d,.pick c x y,ty,pos,af,g⟩ t=some true)(hc:ev t c=some (.bool true))(hx:ev t x=some v)(h:aY P bl ops rest ⟨nt,(d,v)::t,L⟩ K):
 aY P bl ops (⟨some d,.pick c x y,ty,pos,af,g⟩::rest) ⟨nt,t,L⟩ K:=fD hd hg rfl (qcC (b:=true) rfl hc hx) h
def qhx{c x y:Operand}{v:Value}(hd:Nat.blt d nt=true)(hg:az ops ⟨some d,.pick c x y,ty,pos,af,g⟩ t=some true)(hc:ev t c=some (.bool false))(hx:ev t y=some v)(h:aY P bl ops rest ⟨nt,(d,v)::t,L⟩ K):
 aY P bl ops (⟨some d,.pick c x y,ty,pos,af,g⟩::rest) ⟨nt,t,L⟩ K:=fD hd hg rfl (qcC (b:=false) rfl hc hx) h
def aG{T:Nat}{x:Operand}{i:TI}{b:aJ}{v:Value}(k off:Nat)(vs:List Value)(hd:Nat.blt d nt=true)(hg:az ops ⟨some d,.load T x,ty,pos,af,g⟩ t=some true)(hk:(blank bl L)[k]? =some b)(hx:ev t x=some (b.at off))(hi:dO P T i=true)
 (hvs:(b.cs.drop off).take i.size=vs)(hlen:vs.length=i.size)(hpos:Nat.blt 0 i.size=true)(hv:(bif i.agg then some (.agg vs.toArray) else vs[0]?)=some v)(h:aY P bl ops rest ⟨nt,(d,v)::t,L⟩ K):
 aY P bl ops (⟨some d,.load T x,ty,pos,af,g⟩::rest) ⟨nt,t,L⟩ K:=fD hd hg rfl (qcD rfl k hk hx hi hvs hlen TA hv) h
def qqR{o:Oper}(hdst:o.dst=some d)(hd:Nat.blt d nt=true)(hg:az ops o t=some false)(h:aY P bl ops rest ⟨nt,(d,undef)::t,L⟩ K):aY P bl ops (o::rest) ⟨nt,t,L⟩ K:=
 qlZ (by rw[hdst];exact hd) hg (by rw[hdst];exact h)
def qkn{T:Nat}{x:Operand}{v:Value}(cs:List Value)(n:Nat)(mk:Nat->List aJ)(hd:Nat.blt d nt=true)(hg:az ops ⟨some d,.box T x,ty,pos,af,g⟩ t=some true)(hx:ev t x=some v)(hcs:v.cells.toList=cs)(hn:v.cells.size=n)
 (hL:∀b,L++[⟨some b,T,cs,n,true⟩]=mk b)(h:∀b,aY P bl ops rest ⟨nt,(d,.pointer (some ⟨b,0,none⟩))::t,mk b⟩ K)(hT:Nat.blt T dn=true:=by rfl):aY P bl ops (⟨some d,.box T x,ty,pos,af,g⟩::rest) ⟨nt,t,L⟩ K:=
 Oq hd hg rfl rfl (fun hd'=>qox (by simpa using hT) hd' rfl hx) fun b=>by
  subst hcs;subst hn;have:=h b;rw[<-hL b] at this;exact this
def oQ{T:Nat}{z:Value}(cs:List Value)(n:Nat)(mk:Nat->List aJ)(hd:Nat.blt d nt=true)(hg:az ops ⟨some d,.alloc T,ty,pos,af,g⟩ t=some true)(hz:(P.info? T).bind (·.zero)=some z)(hcs:z.cells.toList=cs)(hn:z.cells.size=n)
 (hL:∀b,L++[⟨some b,T,cs,n,true⟩]=mk b)(h:∀b,aY P bl ops rest ⟨nt,(d,.pointer (some ⟨b,0,none⟩))::t,mk b⟩ K)(hT:Nat.blt T dn=true:=by rfl):aY P bl ops (⟨some d,.alloc T,ty,pos,af,g⟩::rest) ⟨nt,t,L⟩ K:=
 qcI (e:=T) (cs:=z.cells) hd hg rfl (qaz (by simpa using hT) rfl hz) fun b=>by
  subst hcs;subst hn;have:=h b;rw[<-hL b] at this;exact this
def qY(hbl:Gv bl=false){T:Nat}{x y:Operand}{i:TI}{gg e n:Nat}{cs:List Value}{v:Value}(k off:Nat)(L':List aJ)(cs':List Value)(hg:az ops ⟨none,.store T x y,ty,pos,af,g⟩ t=some true)(hk:L[k]? =some ⟨some gg,e,cs,n,true⟩)(hx:ev t x=some (.pointer (some ⟨gg,off,none⟩)))
 (hy:ev t y=some v)(hi:dO P T i=true)(hsz:v.cells.size=i.size)(hfit:Nat.ble (off+i.size) cs.length=true)(h1:(v.cells.toList.all fun u=>u.oneCell')=true)(hcs:cs.take off++v.cells.toList++cs.drop (off+i.size)=cs')(hL:L.set k ⟨some gg,e,cs',n,true⟩=L')
 (h:aY P bl ops rest ⟨nt,t,L'⟩ K)(hpos:Nat.blt 0 i.size=true:=by rfl):aY P bl ops (⟨none,.store T x y,ty,pos,af,g⟩::rest) ⟨nt,t,L⟩ K:=
 Yn hg rfl rfl (by
 subst hcs;subst hL;exact EK (s:=⟨nt,t,L⟩) rfl k hk rfl (by rw[hx];rfl) rfl hy hi hsz TA (by simpa using hfit) h1) (fun h2=>by rw[hbl] at h2;cases h2) h
def rU{T:Nat}{x y:Operand}{i:TI}{gg e n:Nat}{cs:List Value}{v:Value}(k off:Nat)(L':List aJ)(cs':List Value)(hg:az ops ⟨none,.store T x y,ty,pos,af,g⟩ t=some true)(hk:L[k]? =some ⟨some gg,e,cs,n,true⟩)(hx:ev t x=some (.pointer (some ⟨gg,off,none⟩)))
 (hy:ev t y=some v)(hi:dO P T i=true)(hsz:v.cells.size=i.size)(hfit:Nat.ble (off+i.size) cs.length=true)(h1:(v.cells.toList.all fun u=>u.oneCell')=true)(hcs:cs.take off++v.cells.toList++cs.drop (off+i.size)=cs')(hL:L.set k ⟨some gg,e,cs',n,true⟩=L')(hb:blank bl L'=blank bl L)
 (h:aY P bl ops rest ⟨nt,t,L'⟩ K)(hpos:Nat.blt 0 i.size=true:=by rfl):aY P bl ops (⟨none,.store T x y,ty,pos,af,g⟩::rest) ⟨nt,t,L⟩ K:=
 Yn hg rfl rfl (by
 subst hcs;subst hL;exact EK (s:=⟨nt,t,L⟩) rfl k hk rfl (by rw[hx];rfl) rfl hy hi hsz TA (by simpa using hfit) h1) (fun _=>hb) h
def dY{f:Nat}{args:List Operand}{ts:Array TypeId}(vs:List Value){v:Value}(hd:Nat.blt d nt=true)(hg:az ops ⟨some d,.call {callee:= .value (.func f),args:=args.toArray,argTypes:=ts},ty,pos,af,g⟩ t=some true)
 (hv:args.map (ev t)=vs.map some)(hc:aP P f vs.toArray v)(h:aY P bl ops rest ⟨nt,(d,v)::t,L⟩ K):
 aY P bl ops (⟨some d,.call {callee:= .value (.func f),args:=args.toArray,argTypes:=ts},ty,pos,af,g⟩::rest) ⟨nt,t,L⟩ K:=
 EM hd hg rfl (ql0 (s:=⟨nt,t,L⟩) rfl hv hc) (fun _=>⟨qhv (s:=⟨nt,t,L⟩) rfl hv hc,⟨()⟩⟩) fun _=>by
  have:L++([]:List aJ)=L:=List.append_nil L;show aY P bl ops rest ⟨nt,(d,v)::t,L++[]⟩ K;rw[this];exact h
theorem qcK{T:Nat}(hT:P.underlying T=some .bool)(m n:Bool)(w:World):(binOp .eql T (.bool m) (.bool n)).run P w= .ok (.bool (m==n)) w:=by
 have:=run_equalIn_bool w 9999 T m n hT;simp only[binOp,Op.equal,Op.maxDepth,Sem.run_bind,this,Result.andThen_ok,Sem.run_pure]
theorem qcL{T:Nat}(hT:P.underlying T=some .bool)(m n:Bool)(w:World):(binOp .neq T (.bool m) (.bool n)).run P w= .ok (.bool (m !=n)) w:=by
 have:=run_equalIn_bool w 9999 T m n hT;simp only[binOp,Op.equal,Op.maxDepth,Sem.run_bind,this,Result.andThen_ok,Sem.run_pure]
 rfl
section
variable{x y:Operand}(hd:Nat.blt d nt=true)
def qoy{T:Nat}{b:Bool}(hd:Nat.blt d nt=true)(hg:az ops ⟨some d,.unOp .not T x,ty,pos,af,g⟩ t=some true)(hx:ev t x=some (.bool b))(h:aY P bl ops rest ⟨nt,(d,.bool (!b))::t,L⟩ K):
 aY P bl ops (⟨some d,.unOp .not T x,ty,pos,af,g⟩::rest) ⟨nt,t,L⟩ K:=
 fD hd hg rfl (fun B a w hr=>by simp[execOp,hr.ev hx,Op.unary]) h
def GK{i:Nat}{vs:List Value}{v:Value}(hd:Nat.blt d nt=true)(hg:az ops ⟨some d,.extract x i,ty,pos,af,g⟩ t=some true)(hx:ev t x=some (.tuple vs.toArray))(hv:vs[i]? =some v)(h:aY P bl ops rest ⟨nt,(d,v)::t,L⟩ K):
 aY P bl ops (⟨some d,.extract x i,ty,pos,af,g⟩::rest) ⟨nt,t,L⟩ K:=
 fD hd hg rfl (fun B a w hr=>by simp[execOp,hr.ev hx,Instr.extract,hv]) h (fun _=>by unfold nX;simp[hx,hv])
def qcM{op:BinOp}{T U:Nat}{k:IntKind}{m n:Int}{r:Bool}(hd:Nat.blt d nt=true)(hg:az ops ⟨some d,.binOp op T x y U,ty,pos,af,g⟩ t=some true)(hx:ev t x=some (.int k m))(hy:ev t y=some (.int k n))
 (hr:(match op with| .eql=>some (m==n)| .neq=>some (m !=n)| .lss=>some (decide (m<n))| .leq=>some (decide (m<=n))| .gtr=>some (decide (n<m))| .geq=>some (decide (n<=m))|_=>none)=some r)(h:aY P bl ops rest ⟨nt,(d,.bool r)::t,L⟩ K):
 aY P bl ops (⟨some d,.binOp op T x y U,ty,pos,af,g⟩::rest) ⟨nt,t,L⟩ K:=
 fD hd hg rfl (fun B a w hrel=>by
 have h1:=hrel.ev hx;have h2:=hrel.ev hy;cases op<;>simp at hr<;>subst hr<;>simp[execOp,h1,h2,eqGuard,binOp,Op.intCmp]) h
def BN{T U:Nat}{m n:Bool}(hd:Nat.blt d nt=true)(hT:P.underlying T=some .bool)(hg:az ops ⟨some d,.binOp .eql T x y U,ty,pos,af,g⟩ t=some true)(hx:ev t x=some (.bool m))(hy:ev t y=some (.bool n))
 (h:aY P bl ops rest ⟨nt,(d,.bool (m==n))::t,L⟩ K):aY P bl ops (⟨some d,.binOp .eql T x y U,ty,pos,af,g⟩::rest) ⟨nt,t,L⟩ K:=
 fD hd hg rfl (fun B a w hrel=>by
 simp[execOp,hrel.ev hx,hrel.ev hy,eqGuard,qcK hT]) h
def pF{T U:Nat}{m n:Bool}(hd:Nat.blt d nt=true)(hT:P.underlying T=some .bool)(hg:az ops ⟨some d,.binOp .neq T x y U,ty,pos,af,g⟩ t=some true)(hx:ev t x=some (.bool m))(hy:ev t y=some (.bool n))
 (h:aY P bl ops rest ⟨nt,(d,.bool (m !=n))::t,L⟩ K):aY P bl ops (⟨some d,.binOp .neq T x y U,ty,pos,af,g⟩::rest) ⟨nt,t,L⟩ K:=
 fD hd hg rfl (fun B a w hrel=>by
 simp[execOp,hrel.ev hx,hrel.ev hy,eqGuard,qcL hT]) h
def qcN{T U:Nat}{m n:ByteArray}(hd:Nat.blt d nt=true)(hg:az ops ⟨some d,.binOp .eql T x y U,ty,pos,af,g⟩ t=some true)(hx:ev t x=some (.string m))(hy:ev t y=some (.string n))
 (h:aY P bl ops rest ⟨nt,(d,.bool (m==n))::t,L⟩ K):aY P bl ops (⟨some d,.binOp .eql T x y U,ty,pos,af,g⟩::rest) ⟨nt,t,L⟩ K:=
 fD hd hg rfl (fun B a w hrel=>by
 simp[execOp,hrel.ev hx,hrel.ev hy,eqGuard,binOp,Op.stringOp,beq_toListBytes]) h
def qcO{T U:Nat}{m n:ByteArray}(hd:Nat.blt d nt=true)(hg:az ops ⟨some d,.binOp .neq T x y U,ty,pos,af,g⟩ t=some true)(hx:ev t x=some (.string m))(hy:ev t y=some (.string n))
 (h:aY P bl ops rest ⟨nt,(d,.bool (m !=n))::t,L⟩ K):aY P bl ops (⟨some d,.binOp .neq T x y U,ty,pos,af,g⟩::rest) ⟨nt,t,L⟩ K:=
 fD hd hg rfl (fun B a w hrel=>by
 simp[execOp,hrel.ev hx,hrel.ev hy,eqGuard,binOp,Op.stringOp,bne,beq_toListBytes]) h
def iY{T U:Nat}{m n:Array Value}{r:Bool}(hd:Nat.blt d nt=true)(hg:az ops ⟨some d,.binOp .eql T x y U,ty,pos,af,g⟩ t=some true)(hx:ev t x=some (.agg m))(hy:ev t y=some (.agg n))(hm:P.eqGuardType P.depth T=false)
 (hr:∀w,(Op.equalIn 10000 T (.agg m) (.agg n)).run P w= .ok r w)(h:aY P bl ops rest ⟨nt,(d,.bool r)::t,L⟩ K):aY P bl ops (⟨some d,.binOp .eql T x y U,ty,pos,af,g⟩::rest) ⟨nt,t,L⟩ K:=
 fD hd hg rfl (fun B a w hrel=>by
 simp[execOp,hrel.ev hx,hrel.ev hy,run_eqGuard_agg w .eql T x y m n hm,run_eql_struct w T m n,hr w]) h
def EN{T U:Nat}{m n:Array Value}{r:Bool}(hd:Nat.blt d nt=true)(hg:az ops ⟨some d,.binOp .neq T x y U,ty,pos,af,g⟩ t=some true)(hx:ev t x=some (.agg m))(hy:ev t y=some (.agg n))(hm:P.eqGuardType P.depth T=false)
 (hr:∀w,(Op.equalIn 10000 T (.agg m) (.agg n)).run P w= .ok r w)(h:aY P bl ops rest ⟨nt,(d,.bool (!r))::t,L⟩ K):aY P bl ops (⟨some d,.binOp .neq T x y U,ty,pos,af,g⟩::rest) ⟨nt,t,L⟩ K:=
 fD hd hg rfl (fun B a w hrel=>by
 simp[execOp,hrel.ev hx,hrel.ev hy,run_eqGuard_agg w .neq T x y m n hm,run_neq_struct w T m n,hr w]) h
def Jl{T:Nat}{parts:List (Nat×Operand)}(ps:List (Nat×Value)){v:Value}(hd:Nat.blt d nt=true)(hg:az ops ⟨some d,.build T parts.toArray,ty,pos,af,g⟩ t=some true)(hx:parts.map (fun p=>(p.1,ev t p.2))=ps.map (fun p=>(p.1,some p.2)))
 (hb:∀w,(Instr.build T ps.toArray).run P w= .ok v w)(h:aY P bl ops rest ⟨nt,(d,v)::t,L⟩ K):aY P bl ops (⟨some d,.build T parts.toArray,ty,pos,af,g⟩::rest) ⟨nt,t,L⟩ K:=
 fD hd hg rfl (fun B a w hrel=>by
 have:(parts.map fun p=>(p.1,a.eval p.2))=ps:=by
  clear h hb hg
  induction parts generalizing ps with
  |nil=>cases ps<;>simp_all
  |cons p parts ih=>
   cases ps with
   |nil=>simp at hx
   |cons q ps=>
    simp only[List.map_cons,List.cons.injEq,Prod.mk.injEq] at hx;rw[List.map_cons,hrel.ev hx.1.2,ih ps hx.2,hx.1.1]
 simp[execOp,this,hb w]) h (fun _=>by unfold nX;show(kG t parts).bind _=_;rw[DT hx];exact Ti hb)
def qoz{T:Nat}{s:ByteArray}(hd:Nat.blt d nt=true)(hT:P.underlying T=some .string)(hg:az ops ⟨some d,.call {callee:= .builtin .len,args:= #[x],argTypes:= #[T]},ty,pos,af,g⟩ t=some true)(hx:ev t x=some (.string s))(h:aY P bl ops rest ⟨nt,(d,.int .i64 s.size)::t,L⟩ K):
 aY P bl ops (⟨some d,.call {callee:= .builtin .len,args:= #[x],argTypes:= #[T]},ty,pos,af,g⟩::rest) ⟨nt,t,L⟩ K:=
 fD hd hg rfl (fun B a w hrel=>by
 have:=run_len_string (P:=P) w T ty s hT;simp[execOp,resolve,invoke,builtin,hrel.ev hx,this,goInt]) h
def qcP{T:Nat}{k:IntKind}{n r:Int}(hd:Nat.blt d nt=true)(hg:az ops ⟨some d,.unOp .neg T x,ty,pos,af,g⟩ t=some true)(hx:ev t x=some (.int k n))(hr:k.wrap (0-n)=r)(h:aY P bl ops rest ⟨nt,(d,.int k r)::t,L⟩ K):
 aY P bl ops (⟨some d,.unOp .neg T x,ty,pos,af,g⟩::rest) ⟨nt,t,L⟩ K:=
 fD hd hg rfl (fun B a w hrel=>by simp[execOp,hrel.ev hx,Op.unary,Op.intArith];simpa using hr) h
def Yo{op:BinOp}{T U:Nat}{k:IntKind}{m n r:Int}(hd:Nat.blt d nt=true)(hg:az ops ⟨some d,.binOp op T x y U,ty,pos,af,g⟩ t=some true)(hx:ev t x=some (.int k m))(hy:ev t y=some (.int k n))
 (hr:(match op with| .add=>some (k.wrap (m+n))| .sub=>some (k.wrap (m-n))| .mul=>some (k.wrap (m*n))|_=>none)=some r)(h:aY P bl ops rest ⟨nt,(d,.int k r)::t,L⟩ K):
 aY P bl ops (⟨some d,.binOp op T x y U,ty,pos,af,g⟩::rest) ⟨nt,t,L⟩ K:=
 fD hd hg rfl (fun B a w hrel=>by
 have h1:=hrel.ev hx;have h2:=hrel.ev hy;cases op<;>simp at hr<;>subst hr<;>simp[execOp,h1,h2,eqGuard,binOp,Op.intArith]) h
end
end
end Go.Via
namespace Go.Via
variable[Mo]
open Go Go.RowKit
def qcQ{B:Bs}{X:Act->World->Prop}:KC (fun s'=>At B s' X):=fun _ _ he h a w hr=>h a w (he.symm.rel hr)
def fB{P:Program}{bl:List Nat}{ops:Array Oper}{nt:Nat}{t:List (Nat×Value)}{L:List aJ}{B:Bs}{X:Act->World->Prop}{l:List Oper}{b:Bool}(d:Nat)(hx:look t d=some (.bool b))
 (hT:b=true->aY P bl ops l ⟨nt,(d,.bool true)::t,L⟩ (fun s'=>At B s' X))(hF:b=false->aY P bl ops l ⟨nt,(d,.bool false)::t,L⟩ (fun s'=>At B s' X)):aY P bl ops l ⟨nt,t,L⟩ (fun s'=>At B s' X):=by
 have key:∀c:Bool,b=c->DU ⟨nt,(d,.bool c)::t,L⟩ ⟨nt,t,L⟩:=fun c hc=>⟨rfl,rfl,fun k=>by
 by_cases e:d=k
 ·subst e;rw[dU,<-hc];exact hx.symm
 ·rw[cZ e]⟩
 cases hb:b
 ·exact aY.kc qcQ l _ _ (key false hb) (hF hb)
 ·exact aY.kc qcQ l _ _ (key true hb) (hT hb)
def aF{P:Program}{bl:List Nat}{ops:Array Oper}{nt:Nat}{t:List (Nat×Value)}{L:List aJ}{B:Bs}{X:Act->World->Prop}{l:List Oper}{v:Value}(d:Nat)(v':Value)(hx:look t d=some v)(hv:v=v')
 (h:aY P bl ops l ⟨nt,(d,v')::t,L⟩ (fun s'=>At B s' X)):aY P bl ops l ⟨nt,t,L⟩ (fun s'=>At B s' X):=by
 refine aY.kc qcQ l ⟨nt,(d,v')::t,L⟩ _ ⟨rfl,rfl,fun k=>?_⟩ h
 by_cases e:d=k
 ·subst e;rw[dU,<-hv];exact hx.symm
 ·rw[cZ e]
section
variable{B:Bs}{s:St}{k:Act->World->Prop}{Q:Exit->Act->World->Prop}{id id':Nat}
def qoA(h:At B s k):At B s (Exit.then k Q .normal):=h
def qoB(h:At B s (Q .ret)):At B s (Exit.then k Q .ret):=h
def qoC(h:At B s (Q (.exit id))):At B s (Exit.then k Q (.exit id)):=h
def qoD(h:At B s (Q .normal)):At B s (Exit.inBlock id Q .normal):=h
def qoE(h:At B s (Q .ret)):At B s (Exit.inBlock id Q .ret):=h
def qoF(h:At B s (Q .normal)):At B s (Exit.inBlock id Q (.exit id)):=fun a w hr=>by
 show if id=id then _ else _
 rw[if_pos rfl];exact h a w hr
def Qk(hne:(id'==id)=false)(h:At B s (Q (.exit id'))):At B s (Exit.inBlock id Q (.exit id')):=fun a w hr=>by
 show if id'=id then _ else _
 rw[if_neg Ym];exact h a w hr
end
end Go.Via
namespace Go.Via
variable[Mo]
open Go Go.RowKit
def NV(k:IntKind)(l:List Nat):List Value:=l.map fun(d:Nat)=>Value.int k (d:Int)
theorem ik(k:IntKind)(l:List Nat):(NV k l).length=l.length:=by simp[NV]
def fP{k:IntKind}{l:List Nat}{i d:Nat}(h:l[i]? =some d):(NV k l)[i]? =some (.int k (d:Int)):=by simp[NV,h]
theorem lK(k:IntKind)(l:List Nat)(i d:Nat):(NV k l).set i (.int k (d:Int))=NV k (l.set i d):=by simp[NV,List.map_set]
theorem Ot(k:IntKind)(l m:List Nat):NV k l++NV k m=NV k (l++m):=by simp[NV]
theorem EO(k:IntKind)(l:List Nat)(n:Nat):(NV k l).take n=NV k (l.take n):=by simp[NV,List.map_take]
theorem Yp(k:IntKind)(l:List Nat)(n:Nat):(NV k l).drop n=NV k (l.drop n):=by simp[NV,List.map_drop]
theorem iF(k:IntKind)(n:Nat):List.replicate n (Value.int k 0)=NV k (List.replicate n 0):=by simp[NV]
structure SR(len:Nat) where
 b:Option Nat
 n:Nat
 cap:Nat
 h:len<=cap
instance{len:Nat}:Nonempty (SR len):=⟨⟨none,0,len,Nat.le_refl _⟩⟩
def ay(b:Option Nat)(off len cap:Nat):Value:= .slice (b.map fun g=>⟨g,off,none⟩) len cap
def SR.v{len:Nat}(x:SR len):Value:=ay x.b 0 len x.cap
def aJ.le(b' b:aJ):Prop:=b'.base=b.base∧b'.e=b.e∧b'.n=b.n∧(∃k,b'.cs=b.cs.take k)∧(b'.own=true->b.own=true)
theorem aJ.le_refl(b:aJ):b.le b:=⟨rfl,rfl,rfl,⟨b.cs.length,bI⟩,id⟩
def rP.le{B:Bs}{w:World}{b b':aJ}{g:Nat}(h:rP B w b g)(hl:b'.le b):rP B w b' g:=by
 obtain⟨h0,h4⟩:=h;obtain⟨l1,l2,l3,⟨k,l4⟩,l5⟩:=hl;refine⟨?_,fun ho=>h4 (l5 ho)⟩
 rcases h0 with⟨cur,⟨e',fr,h1,hfr,hlt⟩,h2,h3⟩|⟨l,es,c,a1,a2,a3,a4,a5⟩
 ·refine .inl ⟨cur,⟨e',fr,h1,fun ho=>⟨by rw[l2];exact(hfr (l5 ho)).1,(hfr (l5 ho)).2⟩,by rw[l2];exact hlt⟩,by rw[l3];exact h2,?_⟩
  rw[l4,List.length_take,<-List.take_take,h3]
 ·exact .inr ⟨l,es,c,by rw[l2];exact a1,by rw[l4,a2];simp,by rw[l3];exact a3,a4,a5⟩
def jq(L:List aJ):List (Option Nat)->List aJ->Prop
 |[],[]=>True
 |some k::ks,b'::L'=>(∃b,L[k]? =some b∧b'.le b)∧jq L ks L'
 |none::ks,b'::L'=>(b'.base=none∧b'.cs=[]∧(b'.n==0&&Nat.blt b'.e dn)=true)∧jq L ks L'
 |_,_=>False
def lL:List (Option Nat)->List Bool->Bool
 |some k::ks,true::os=> !ks.contains (some k)&&lL ks os
 |some k::ks,false::os=>((ks.zip os).all fun p=> !(p.2&&p.1==some k))&&lL ks os
 |none::ks,_::os=>lL ks os
 |_,_=>true
theorem jq.get{L:List aJ}:∀{ks:List (Option Nat)} {L':List aJ},jq L ks L'->∀(i:Nat) (b':aJ),L'[i]? =some b'->
 (∃k b,ks[i]? =some (some k)∧L[k]? =some b∧b'.le b)∨(ks[i]? =some none∧b'.base=none∧b'.cs=[]∧(b'.n==0&&Nat.blt b'.e dn)=true)
 |[],[],_,i,b',h=>by simp at h
 |some k::ks,c::L',hp,i,b',h=>by
  cases i with
  |zero=>simp at h;subst h;obtain⟨⟨b,h1,h2⟩,_⟩:=hp;exact .inl ⟨k,b,bI,h1,h2⟩
  |succ i=>simp at h;simpa using jq.get hp.2 i b' h
 |none::ks,c::L',hp,i,b',h=>by
  cases i with
  |zero=>simp at h;subst h;exact .inr ⟨bI,hp.1⟩
  |succ i=>simp at h;simpa using jq.get hp.2 i b' h
 |some _::_,[],hp,i,b',h=>by simp at h
 |none::_,[],hp,i,b',h=>by simp at h
 |[],_::_,hp,i,b',h=>hp.elim
def vZ:∀{ks:List (Option Nat)} {os:List Bool},ks.length=os.length->lL ks os=true->∀(i j k:Nat),i≠j->ks[i]? =some (some k)->ks[j]? =some (some k)->os[i]? =some true->False
 |[],_,_,_,i,j,k,_,h,_,_=>by simp at h
 |some m::ks,true::os,hl,ha,i,j,k,hij,h1,h2,h3=>by
  simp only[lL,Bool.and_eq_true,Bool.not_eq_true',List.contains_eq_mem,decide_eq_false_iff_not] at ha;have hl':ks.length=os.length:=Om
  cases i with
  |zero=>
   cases j with
   |zero=>exact hij rfl
   |succ j=>
    simp at h1 h2;subst h1;exact ha.1 (List.mem_of_getElem? h2)
  |succ i=>
   cases j with
   |zero=>simp at h1 h2;subst h2;exact ha.1 (List.mem_of_getElem? h1)
   |succ j=>simp at h1 h2 h3;exact vZ hl' ha.2 i j k ae h1 h2 h3
 |some m::ks,false::os,hl,ha,i,j,k,hij,h1,h2,h3=>by
  simp only[lL,Bool.and_eq_true,List.all_eq_true] at ha;have hl':ks.length=os.length:=Om
  cases i with
  |zero=>simp at h3
  |succ i=>
   cases j with
   |zero=>
    simp at h1 h2 h3;subst h2;have hm:(some m,true)∈ks.zip os:=List.mem_of_getElem? (i:=i) (by rw[List.getElem?_zip_eq_some];exact⟨h1,h3⟩);have:=ha.1 _ hm;simp at this
   |succ j=>simp at h1 h2 h3;exact vZ hl' ha.2 i j k ae h1 h2 h3
 |none::ks,o::os,hl,ha,i,j,k,hij,h1,h2,h3=>by
  have hl':ks.length=os.length:=Om;cases i with
  |zero=>simp at h1
  |succ i=>
   cases j with
   |zero=>simp at h2
   |succ j=>simp at h1 h2 h3;exact vZ hl' ha i j k ae h1 h2 h3
 |some _::_,[],hl,_,i,j,k,_,_,_,_=>by simp at hl
 |none::_,[],hl,_,i,j,k,_,_,_,_=>by simp at hl
def bg.picks{B:Bs}{w:World}{L L':List aJ}(h:bg B L w)(ks:List (Option Nat))(hp:jq L ks L')(hl:ks.length=L'.length)(ha:lL ks (L'.map (·.own))=true)
 :bg B L' w:=by
 refine⟨h.bel,fun k b hk=>?_,fun i j g bi bj hij hi hj ho hg hgj=>?_,h.grp.sub (fun b hb hn=>?_) (fun c hc ho g hg=>?_)⟩
 rotate_left 2
 ·obtain⟨k,hk⟩:=List.mem_iff_getElem?.1 hb;rcases hp.get k b hk with⟨m,c,_,h2,h3⟩|⟨_,h2,_,h3⟩
  ·exact .inr ⟨c,List.mem_of_getElem? h2,Oo,h3.2.1.symm,h3.2.2.2.2⟩
  ·simp only[Bool.and_eq_true,Nat.blt_eq] at h3;exact .inl h3.2
 ·obtain⟨k,hk⟩:=List.mem_iff_getElem?.1 hc;rcases hp.get k c hk with⟨m,c',_,h2,h3⟩|⟨_,h2,_⟩
  ·exact⟨c',List.mem_of_getElem? h2,h3.2.2.2.2 ho,JS⟩
  ·rw[h2] at hg;cases hg
 ·rcases hp.get k b hk with⟨m,c,_,h2,h3⟩|⟨_,h2,h3⟩
  ·obtain⟨a1,a2⟩:=h.blk m c h2;refine⟨fun g hg=>(a1 g JS).le h3,fun hn=>?_⟩
   obtain⟨b1,b2⟩:=a2 Oo;obtain⟨_,_,l3,⟨q,l4⟩,_⟩:=h3;exact⟨by rw[l4,b1];simp,by rw[l3];exact b2⟩
  ·exact⟨fun g hg=>(by rw[h2] at hg;cases hg),fun _=>⟨h3.1,qkl⟩⟩
 ·rcases hp.get i bi hi with⟨mi,ci,h1,h2,h3⟩|⟨_,h2,_⟩
  ·rcases hp.get j bj hj with⟨mj,cj,g1,g2,g3⟩|⟨_,g2,_⟩
   ·by_cases e:mi=mj
    ·subst e;exact vZ Om ha i j mi hij h1 g1 (by rw[List.getElem?_map,hi];simp[ho])
    ·exact h.apart mi mj g ci cj e h2 g2 (h3.2.2.2.2 ho) JS (by rw[<-g3.1];exact hgj)
   ·rw[g2] at hgj;cases hgj
  ·rw[h2] at hg;cases hg
def dR(L L':List aJ):Prop:=∀B w,bg B L w->bg B L' w
def dR.refl(L:List aJ):dR L L:=fun _ _ h=>h
def aA{L L':List aJ}(ks:List (Option Nat))(hp:jq L ks L')(hl:ks.length=L'.length)(ha:lL ks (L'.map (·.own))=true):dR L L':=fun _ _ h=>h.picks ks hp hl ha
def bn{b:aJ}{b':aJ}(h:b'=b):b'.le b:=h▸b.le_refl
def fM{base:Option Nat}{e:TypeId}{cs:List Value}{n:Nat}{o:Bool}:aJ.le ⟨base,e,cs,n,false⟩ ⟨base,e,cs,n,o⟩:=⟨rfl,rfl,rfl,⟨cs.length,bI⟩,fun h=>zf⟩
def Yq{B:Bs}{X:Act->World->Prop}{nt:Nat}{t:List (Nat×Value)}{L:List aJ}(L':List aJ)(hw:dR L L')(h:At B ⟨nt,t,L'⟩ X):At B ⟨nt,t,L⟩ X:=fun a w hr=>h a w ⟨hr.df,hr.size,hr.tmp,hw _ _ hr.mem⟩
def dC{B:Bs}{X:Act->World->Prop}{nt:Nat}{t:List (Nat×Value)}{L:List aJ}{v:Value}(d:Nat)(v':Value)(hx:look t d=some v)(hv:v=v')(h:At B ⟨nt,(d,v')::t,L⟩ X):At B ⟨nt,t,L⟩ X:=fun a w hr=>
 h a w ⟨hr.df,hr.size,fun k u hk=>by
 by_cases e:d=k
 ·subst e;rw[dU] at hk;cases hk;rw[<-hv];exact hr.tmp d v hx
 ·rw[cZ e] at hk;exact hr.tmp k u hk,hr.mem⟩
def qcR{B:Bs}{nt:Nat}{t:List (Nat×Value)}{L:List aJ}{ι:Type}{inv:ι->St}{μ:ι->Nat}{i:ι}(j:ι)(t':List (Nat×Value))(L':List aJ)(hj:inv j=⟨nt,t',L'⟩)(hμ:μ j<μ i)(ht:∀p∈t',look t p.1=some p.2)(hL:dR L L'):
 At B ⟨nt,t,L⟩ (fun a' w'=>∃j,μ j<μ i∧kQ B (inv j) a' w'):=fun a w hr=>by
 refine⟨j,hμ,?_⟩;rw[hj];exact(⟨hr.df,hr.size,hr.tmp,hL _ _ hr.mem⟩:kQ B ⟨nt,t,L'⟩ a w).sub fun d v hd=>ht (d,v) (uu hd)
def qaC{P:Program}{B:Bs}{Q:Exit->Act->World->Prop}{nt:Nat}{t:List (Nat×Value)}{L:List aJ}{ι:Type}{c:Code}(inv:ι->St)(μ:ι->Nat)(i₀:ι)(t':List (Nat×Value))(L':List aJ)(h₀:inv i₀=⟨nt,t',L'⟩)(ht:∀p∈t',look t p.1=some p.2)(hL:dR L L')
 (round:∀i,At B (inv i) (c.wp P (Exit.then (fun a' w'=>∃j,μ j<μ i∧kQ B (inv j) a' w') Q))):At B ⟨nt,t,L⟩ ((Code.loop c).wp P Q):=
 qhu inv μ i₀ (fun a w hr=>by rw[h₀];exact(⟨hr.df,hr.size,hr.tmp,hL _ _ hr.mem⟩:kQ B ⟨nt,t,L'⟩ a w).sub fun d v hd=>ht (d,v) (uu hd)) round
def bZ(P:Program)(f:Nat)(L:List aJ)(args:List Value)(X:Type)(res:X->Value)(new:X->List aJ):Prop:=
 iR P f=true∧∀w:World,bg w L w->Calls P f args.toArray w fun e w'=>∃x,e= .returned (res x)∧bg w (new x) w'
def bg.asArgs{B:Bs}{w:World}{L L':List aJ}(h:bg B L w)(ks:List Nat)(hp:jq L (ks.map some) L')(ho:∀b∈L',b.own=false):bg w L' w:=by
 have hlen:∀{ks:List Nat} {L':List aJ},jq L (ks.map some) L'->ks.length=L'.length:=by
  intro ks
  induction ks with
  |nil=>intro L' hp;cases L' with
   |nil=>rfl
   |cons c L'=>exact hp.elim
  |cons k ks ih=>intro L' hp;cases L' with
   |nil=>exact hp.elim
   |cons c L'=>simp[ih hp.2]
 refine⟨.of (eH.refl _ _),fun k b hk=>?_,fun i j g bi bj hij hi hj ho' hg hgj=>?_,fun b hb hn T hT he p hp'=>?_⟩
 rotate_left 2
 ·obtain⟨k,hk⟩:=List.mem_iff_getElem?.1 hb;refine⟨?_,(fun e=>by rw[ho b hb] at e;cases e),(fun c hc e=>by rw[ho c hc] at e;cases e)⟩;rcases hp.get k b hk with⟨m,c,_,h2,h3⟩|⟨_,h2,_,h3⟩
  ·exact(h.grp c (List.mem_of_getElem? h2) Oo T hT (by rw[<-h3.2.1];exact he) p hp').1
  ·simp only[Bool.and_eq_true,Nat.blt_eq] at h3;exact absurd (he▸h3.2) (JJ T)
 ·rcases hp.get k b hk with⟨m,c,_,h2,h3⟩|⟨_,h2,h3⟩
  ·obtain⟨a1,a2⟩:=h.blk m c h2;refine⟨fun g hg=>⟨((a1 g JS).le h3).1,fun e=>?_⟩,fun hn=>?_⟩
   ·rw[ho b (List.mem_of_getElem? hk)] at e;cases e
   ·obtain⟨b1,b2⟩:=a2 Oo;obtain⟨_,_,l3,⟨q,l4⟩,_⟩:=h3;exact⟨by rw[l4,b1];simp,by rw[l3];exact b2⟩
  ·exact⟨fun g hg=>(by rw[h2] at hg;cases hg),fun _=>⟨h3.1,qkl⟩⟩
 ·rw[ho bi (List.mem_of_getElem? hi)] at ho';cases ho'
section
variable{P:Program}{bl:List Nat}{ops:Array Oper}{K:St->Prop}{rest:List Oper}{nt:Nat}{t:List (Nat×Value)}{L:List aJ}{d:Nat}{ty:TypeId}{pos:String}{af:Array Edge}{g:Option (Nat×Bool)}
def fQ{f:Nat}{args:List Operand}{ts:Array TypeId}(vs:List Value){L0:List aJ}{X:Type}[hX:Nonempty X]{res:X->Value}{new:X->List aJ}(ks:List Nat)(hd:Nat.blt d nt=true)(hg:az ops ⟨some d,.call {callee:= .value (.func f),args:=args.toArray,argTypes:=ts},ty,pos,af,g⟩ t=some true)
 (hv:args.map (ev t)=vs.map some)(hc:bZ P f L0 vs X res new)(hp:jq L (ks.map some) L0)(ho:(L0.all fun b=> !b.own)=true)(hn:False∨∀x,∀b∈new x,b.own=true)
 (h:∀x,aY P bl ops rest ⟨nt,(d,res x)::t,L++new x⟩ K):
 aY P bl ops (⟨some d,.call {callee:= .value (.func f),args:=args.toArray,argTypes:=ts},ty,pos,af,g⟩::rest) ⟨nt,t,L⟩ K:=
 EM hd hg rfl (X:=X) (res:=res) (new:=new) (qkm (s:=⟨nt,t,L⟩) rfl hv hc.1 fun B w hL=>(hc.2 w (hL.asArgs ks hp (fun b hb=>TB))).mono (by
 rintro e w' ⟨x,rfl,hx⟩;exact⟨x,rfl,hL.joinF hx (hn.resolve_left id x)⟩)) (fun _=>⟨ql1 (s:=⟨nt,t,L⟩) rfl hv hc.1 fun B w hL=>(hc.2 w (hL.asArgs ks hp (fun b hb=>TB))).mono (by
 rintro e w' ⟨x,rfl,hx⟩;exact⟨x,rfl,hx,hn.resolve_left id x⟩),hX⟩) fun x=>h x
def gq{f:Nat}{args:List Operand}{ts:Array TypeId}(vs:List Value){L0:List aJ}{v:Value}(ks:List Nat)(hd:Nat.blt d nt=true)(hg:az ops ⟨some d,.call {callee:= .value (.func f),args:=args.toArray,argTypes:=ts},ty,pos,af,g⟩ t=some true)
 (hv:args.map (ev t)=vs.map some)(hc:bZ P f L0 vs Unit (fun _=>v) (fun _=>[]))(hp:jq L (ks.map some) L0)(ho:(L0.all fun b=> !b.own)=true)
 (h:aY P bl ops rest ⟨nt,(d,v)::t,L⟩ K):
 aY P bl ops (⟨some d,.call {callee:= .value (.func f),args:=args.toArray,argTypes:=ts},ty,pos,af,g⟩::rest) ⟨nt,t,L⟩ K:=
 fQ vs ks hd hg hv hc hp ho (.inr fun x b hb=>by cases hb) fun x=>by
  have:L++([]:List aJ)=L:=List.append_nil L;show aY P bl ops rest ⟨nt,(d,v)::t,L++[]⟩ K;rw[this];exact h
end
end Go.Via
