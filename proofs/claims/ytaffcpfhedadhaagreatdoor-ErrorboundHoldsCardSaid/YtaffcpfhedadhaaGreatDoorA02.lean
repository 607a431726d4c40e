/-
  Part 2 (chapter 32): lemmas, walks. Each theorem states its own conditions.
-/
import Derived.Deep.LoopGhost
import Derived.Deep.AppendSrc
import Derived.Laws.BytesArg
import Derived.Laws.CopyRow
import Derived.Laws.AppendOwn
import Derived.Deep.Upon
import Derived.Test.YtaffcpfhedadhaaGreatDoorA01
set_option linter.all false
set_option maxRecDepth 20000
set_option maxHeartbeats 20000000
namespace Go.Via
variable[Mo]
open Go Go.RowKit
def At(B:Bs)(s:St)(X:Act->World->Prop):Prop:=∀(a:Act) (w:World),kD B s a w->X a w
section
variable{P:Program}{B:Bs}{s:St}{Q:Exit->Act->World->Prop}
def TB{x y:Code}(h:At B s (x.wp P (Exit.then (y.wp P Q) Q))):At B s ((Code.seq x y).wp P Q):=fun a w hr=>wp_seq (h a w hr)
def qcB{c:Operand}{x y:Code}{b:Bool}(hc:ev s.t c=some (.bool b))(h1:b=true->At B s (x.wp P Q))(h2:b=false->At B s (y.wp P Q)):At B s ((Code.cond c x y).wp P Q):=fun a w hr=>by
 have:=hr.ev hc;cases b
 ·exact wp_cond_false this (h2 rfl a w hr)
 ·exact wp_cond_true this (h1 rfl a w hr)
def Zj{c:Operand}{x y:Code}(hc:ev s.t c=some (.bool true))(h:At B s (x.wp P Q)):At B s ((Code.cond c x y).wp P Q):=fun a w hr=>wp_cond_true (hr.ev hc) (h a w hr)
def Zk{c:Operand}{x y:Code}(hc:ev s.t c=some (.bool false))(h:At B s (y.wp P Q)):At B s ((Code.cond c x y).wp P Q):=fun a w hr=>wp_cond_false (hr.ev hc) (h a w hr)
def qcC(h:At B s (Q .normal)):At B s (Code.skip.wp P Q):=fun a w hr=>wp_skip (h a w hr)
def qf6(h:At B s (Q .ret)):At B s (Code.ret.wp P Q):=fun a w hr=>wp_ret (h a w hr)
def Zl{id:Nat}{c:Code}(h:At B s (c.wp P (Exit.inBlock id Q))):At B s ((Code.block id c).wp P Q):=fun a w hr=>wp_block (h a w hr)
def qcD{id:Nat}(h:At B s (Q (.exit id))):At B s ((Code.exit id).wp P Q):=fun a w hr=>wp_exit (h a w hr)
def Xv{id:Nat}{l:List Oper}(h:aX P [] l.toArray l s (fun s'=>At B s' (Q .normal))):At B s ((Code.region id l.toArray false).wp P Q):=fun a w hr=>
 wp_region_lit (aX.sound h hr (fun s' a' w' h1 h2=>h1 a' w' h2))
def lT{id:Nat}{l:List Oper}(h:aX P [1000000] l.toArray l s (fun s'=>At B s' (Q .normal))):At B s ((Code.region id l.toArray false).wp P Q):=fun a w hr=>
 wp_region_lit (aX.sound h hr (fun s' a' w' h1 h2=>h1 a' w' h2))
def P5{id:Nat}{l l':List Oper}(bl perm:List Nat)(hm:P.follows .mixedOrders=true)(hc:uH bl l.toArray perm=true)(hl:perm.map (fun i=>l.toArray.getD i default)=l')(hf:IZ bl l.toArray s=true)
 (h:aX P bl l.toArray l' s (fun s'=>At B s' (Q .normal))):At B s ((Code.region id l.toArray true).wp P Q):=fun a w hr=>
 Zd (K:=fun s'=>At B s' (Q .normal)) perm hm hc hl hf h (fun s' a' w' h1 h2=>h1 a' w' h2) hr
def qcE{ι:Type}{c:Code}(inv:ι->St)(μ:ι->Nat)(i₀:ι)(h₀:∀a w,kD B s a w->kD B (inv i₀) a w)
 (round:∀i,At B (inv i) (c.wp P (Exit.then (fun a' w'=>∃j,μ j<μ i∧kD B (inv j) a' w') Q))):At B s ((Code.loop c).wp P Q):=fun a w hr=>by
 refine wp_loop_ghost (fun n a w=>∃i,μ i=n∧kD B (inv i) a w) (μ i₀) ⟨i₀,rfl,h₀ a w hr⟩ ?_;rintro n a w ⟨i,rfl,hi⟩;refine wp_mono (round i a w hi) ?_;intro e a' w' hq;cases e with
 |normal=>obtain⟨j,h1,h2⟩:=hq;exact⟨μ j,h1,j,rfl,h2⟩
 |_=>exact hq
def kD.sub{t:List (Nat×Value)}{a:Act}{w:World}(hr:kD B s a w)(h:∀d v,look t d=some v->look s.t d=some v):kD B ⟨s.nt,t,s.L⟩ a w:=
 ⟨hr.df,hr.size,fun d v hd=>hr.tmp d v (h d v hd),hr.mem⟩
end
section
variable{P:Program}{bl:List Nat}{ops:Array Oper}{s:St}{K:St->Prop}{rest:List Oper}
def Vl(h:K s):aX P bl ops [] s K:=h
def fM{o:Oper}{v:Value}(hd:(match o.dst with|some d=>Nat.blt d s.nt|none=>true)=true)(hg:ax ops o s.t=some true)(_hc:(jy o||(isAl o||isSto o))=false)(hq:DC P o (s.bk bl) v)
 (h:aX P bl ops rest (s.put o.dst v) K)(hp:yR o=true->nz P s.t o=some v:=by intro h;cases h):aX P bl ops (o::rest) s K:=
 ⟨fun d hd'=>by rw[hd'] at hd;simpa using hd,true,hg,.inr ⟨rfl,.inl ⟨by rw[Bool.or_eq_false_iff] at _hc;rw[_hc.2,Bool.and_false],v,⟨hq,fun _=>hp⟩,h⟩⟩⟩
def qf7{o:Oper}{v:Value}(hd:(match o.dst with|some d=>Nat.blt d s.nt|none=>true)=true)(hg:ax ops o s.t=some true)(ha:(isAl o||isSto o)=false)(hq:DC P o (s.bk bl) v)
 (h:aX P bl ops rest (s.put o.dst v) K)(hp:yR o=true->nz P s.t o=some v:=by intro h;cases h):aX P bl ops (o::rest) s K:=
 ⟨fun d hd'=>by rw[hd'] at hd;simpa using hd,true,hg,.inr ⟨rfl,.inl ⟨by rw[ha,Bool.and_false],v,⟨hq,fun _=>hp⟩,h⟩⟩⟩
def qf8{o:Oper}(hd:(match o.dst with|some d=>Nat.blt d s.nt|none=>true)=true)(hg:ax ops o s.t=some false)(h:aX P bl ops rest (s.put o.dst undef) K):aX P bl ops (o::rest) s K:=
 ⟨fun d hd'=>by rw[hd'] at hd;simpa using hd,false,hg,.inl ⟨rfl,h⟩⟩
def DK{o:Oper}{X:Type}{res:X->Value}{new:X->List aF}(hd:(match o.dst with|some d=>Nat.blt d s.nt|none=>true)=true)(hg:ax ops o s.t=some true)(hc:jy o=true)(hq:NY P o s X res new)(hF:Ik bl=true->DD P o s X res new∧Nonempty X)
 (h:∀x,aX P bl ops rest (({s with L:=s.L++new x}:St).put o.dst (res x)) K):aX P bl ops (o::rest) s K:=
 ⟨fun d hd'=>by rw[hd'] at hd;simpa using hd,true,hg,.inr ⟨rfl,.inr (.inl ⟨hc,X,res,new,hq,hF,h⟩)⟩⟩
def LH{o:Oper}{X:Type}{nx:X->St}(hd:(match o.dst with|some d=>Nat.blt d s.nt|none=>true)=true)(hg:ax ops o s.t=some true)(hm:(iq o||isAsg o||(isAl o||isSto o))=false)(hm':((isSto o||isME o)&&Fa bl)=false)(hq:(∀d,o.dst=some d->d<s.nt)->Eff P o s X nx)
 (h:∀x,aX P bl ops rest (nx x) K):aX P bl ops (o::rest) s K:=
 have hd':∀d,o.dst=some d->d<s.nt:=fun d hd'=>by rw[hd'] at hd;simpa using hd
 ⟨hd',true,hg,.inr ⟨rfl,.inr (.inr (.inl ⟨by rw[Bool.or_eq_false_iff,Bool.or_eq_false_iff] at hm;simp[NZ,hm.1.1,hm.1.2],by rw[Bool.or_eq_false_iff] at hm;rw[hm.2,Bool.and_false],by rw[hm',Bool.and_false],X,nx,hq hd',h⟩))⟩⟩
def Zm{o:Oper}{X:Type}{nx:X->St}(hd:(match o.dst with|some d=>Nat.blt d s.nt|none=>true)=true)(hg:ax ops o s.t=some true)(hb:Il bl=true)(hq:(∀d,o.dst=some d->d<s.nt)->Eff P o s X nx)
 (h:∀x,aX P bl ops rest (nx x) K):aX P bl ops (o::rest) s K:=
 have hd':∀d,o.dst=some d->d<s.nt:=fun d hd'=>by rw[hd'] at hd;simpa using hd
 ⟨hd',true,hg,.inr ⟨rfl,.inr (.inr (.inl ⟨by rw[hb];rfl,by rw[show bl=[1000000] by simpa[Il] using hb];rfl,by rw[hb];rfl,X,nx,hq hd',h⟩))⟩⟩
def Vm{o:Oper}{L':List aF}(hg:ax ops o s.t=some true)(hs:isSto o=true)(hd:o.dst=none)(he:Za P o s L')(hb:Fa bl=true->blank bl L'=blank bl s.L)(h:aX P bl ops rest {s with L:=L'} K):aX P bl ops (o::rest) s K:=
 ⟨fun d hd'=>(by rw[hd] at hd';cases hd'),true,hg,.inr ⟨rfl,.inr (.inr (.inr (.inl ⟨hs,hd,L',he,hb,h⟩)))⟩⟩
def Zn{o:Oper}{e:TypeId}{cs:Array Value}(hd:(match o.dst with|some d=>Nat.blt d s.nt|none=>true)=true)(hg:ax ops o s.t=some true)(ha:isAl o=true)(hq:yQ P s.t o=some (e,cs))
 (h:∀g,aX P bl ops rest (({s with L:=s.L++[alB g e cs]}:St).put o.dst (alV o g)) K):aX P bl ops (o::rest) s K:=
 ⟨fun d hd'=>by rw[hd'] at hd;simpa using hd,true,hg,.inr ⟨rfl,.inr (.inr (.inr (.inr (.inl ⟨ha,e,cs,hq,h⟩))))⟩⟩
end
def iF(P:Program)(f:Nat):Bool:=match P.funcs[f]? with
 |some fn=>fn.body.isSome&& !(fn.name== "runtime.NumGoroutine")
 |none=>false
theorem pY{P:Program}{f:Nat}(hf:iF P f=true)(a:Act){o:Oper}{x:Operand}{args:Array Operand}{ts:Array TypeId}(ho:o.op= .call {callee:= .value x,args:=args,argTypes:=ts})(hx:a.eval x= .func (.func f) #[] #[]){vs:Array Value}(hv:args.map a.eval=vs)(w:World):
 (execOp a.eval o).run P w= .ok (.enter f vs) w:=by
 unfold iF at hf;cases hq:P.funcs[f]? with
 |none=>rw[hq] at hf;cases hf
 |some fn=>
  rw[hq] at hf;simp only[Bool.and_eq_true,Bool.not_eq_true'] at hf;obtain⟨h1,h2⟩:=hf;have h3:fn.body≠none:=by intro hb;rw[hb] at h1;cases h1
  have h4:¬fn.name= "runtime.NumGoroutine" :=(by simpa using h2);simp[execOp,ho,resolve,hx,Deferred.ofValue,invoke,callFunc,hv,hq,h4,h3]
def aH(P:Program)(f:Nat)(args:Array Value)(v:Value):Prop:=
 iF P f=true∧∀w,Calls P f args w fun e w'=>e= .returned v∧eQ w.heap.size w w'
theorem nJ{B:Bs}{s:St}{a:Act}{w:World}(hr:kD B s a w):∀{l:List Operand} {vs:List Value},l.map (ev s.t)=vs.map some->l.map a.eval=vs
 |[],vs,h=>by cases vs<;>simp_all
 |x::l,vs,h=>by
  cases vs with
  |nil=>simp at h
  |cons v vs=>
   simp only[List.map_cons,List.cons.injEq] at h;rw[List.map_cons,hr.ev h.1,nJ hr h.2]
def qf9{P:Program}{o:Oper}{s:St}{f:Nat}{args:List Operand}{ts:Array TypeId}{vs:List Value}{v:Value}(ho:o.op= .call {callee:= .value (.func f),args:=args.toArray,argTypes:=ts})
 (hv:args.map (ev s.t)=vs.map some)(hc:aH P f vs.toArray v):NY P o s Unit (fun _=>v) (fun _=>[]):=fun B a w hr=>by
 refine⟨f,vs.toArray,pY hc.1 a ho rfl (by simp[nJ hr hv]) w,(hc.2 w).mono ?_⟩;rintro e w' ⟨rfl,hw⟩;exact⟨(),rfl,by simpa using hr.mem.same hw⟩
def qcF{P:Program}{o:Oper}{s:St}{f:Nat}{args:List Operand}{ts:Array TypeId}{vs:List Value}{v:Value}(ho:o.op= .call {callee:= .value (.func f),args:=args.toArray,argTypes:=ts})
 (hv:args.map (ev s.t)=vs.map some)(hc:aH P f vs.toArray v):DD P o s Unit (fun _=>v) (fun _=>[]):=fun B a w hr=>by
 refine⟨f,vs.toArray,pY hc.1 a ho rfl (by simp[nJ hr hv]) w,(hc.2 w).mono ?_⟩;rintro e w' ⟨rfl,hw⟩;exact⟨(),rfl,⟨.of hw,fun k b hk=>by simp at hk,(fun i j g bi bj hij hi=>by simp at hi),lS.nil _ _⟩,fun b hb=>by cases hb⟩
def qfo{P:Program}{o:Oper}{s:St}{f:Nat}{args:List Operand}{ts:Array TypeId}{vs:List Value}{X:Type}{res:X->Value}{new:X->List aF}(ho:o.op= .call {callee:= .value (.func f),args:=args.toArray,argTypes:=ts})
 (hv:args.map (ev s.t)=vs.map some)(hf:iF P f=true)(hc:∀(B:Bs) (w:World),aT B s.L w->Calls P f vs.toArray w fun e w'=>∃x,e= .returned (res x)∧aT B (s.L++new x) w'):NY P o s X res new:=fun B a w hr=>
 ⟨f,vs.toArray,pY hf a ho rfl (by simp[nJ hr hv]) w,hc B w hr.mem⟩
def qga{P:Program}{o:Oper}{s:St}{f:Nat}{args:List Operand}{ts:Array TypeId}{vs:List Value}{X:Type}{res:X->Value}{new:X->List aF}(ho:o.op= .call {callee:= .value (.func f),args:=args.toArray,argTypes:=ts})
 (hv:args.map (ev s.t)=vs.map some)(hf:iF P f=true)(hc:∀(B:Bs) (w:World),aT B s.L w->Calls P f vs.toArray w fun e w'=>∃x,e= .returned (res x)∧aT w (new x) w'∧∀b∈new x,b.own=true):DD P o s X res new:=fun B a w hr=>
 ⟨f,vs.toArray,pY hf a ho rfl (by simp[nJ hr hv]) w,hc B w hr.mem⟩
def Zo:Nat->List Value->List (Nat×Value)
 |_,[]=>[]
 |k,v::l=>(k,v)::Zo (k+1) l
def Xw{l:List Value}:∀{k d:Nat} {v:Value},look (Zo k l) d=some v->k<=d∧l[d-k]? =some v:=by
 induction l with
 |nil=>intro k d v h;cases h
 |cons x l ih=>
  intro k d v h
  by_cases e:k=d
  ·subst e;rw[Zo,dW] at h;cases h;simp
  ·rw[Zo,bT e] at h;obtain⟨h1,h2⟩:=ih h;refine⟨by omega,?_⟩;rw[show d-k=(d-(k+1))+1 by omega,List.getElem?_cons_succ];exact h2
def aT.nil(w:World):aT w [] w:=⟨.of (eQ.refl _ _),fun k b hk=>by simp at hk,(fun i j g bi bj hij hi=>by simp at hi),lS.nil _ _⟩
def sQ{P:Program}{f:Nat}{fn:Func}{c:Code}{args:List Value}{B:Bs}{w:World}{R:Ending->World->Prop}{L:List aF}(hf:P.funcs[f]? =some fn)(hb:fn.body=some c)(hn:args.length<=fn.ntmps)(hL:aT B L w)
 (h:At B ⟨fn.ntmps,Zo 0 args,L⟩ (c.wp P (bodyPost P fn R)))(hD:B.D=[]:=by first|rfl|assumption):Calls P f args.toArray w R:=by
 refine calls_of_wp hf hb (h _ _ ⟨hD.symm,?_,fun d v hd=>?_,hL⟩)
 ·simp;omega
 ·obtain⟨_,h2⟩:=Xw hd;simp only[Nat.sub_zero] at h2;have hlt:=(List.getElem?_eq_some_iff.1 h2).1;simp only[List.size_toArray];rw[Array.getElem?_append_left (by simpa using hlt)]
  simpa using h2
def GG(P:Program)(s:St)(r:ResultVar)(v:Value):Prop:=∀(B:Bs) (a:Act) (w:World),kD B s a w->
 (match r with| .tmp t=>pure (a.tmps.getD t undef)| .cell p t=>do Go.loadVar t (<-asAddr (a.tmps.getD p undef)):Sem Value).run P w= .ok v w
def ai{P:Program}{s:St}{t:Nat}{v:Value}(h:look s.t t=some v):GG P s (.tmp t) v:=fun B a w hr=>by
 have:=hr.tmp t v h;simp[this]
def bf{P:Program}{s:St}{p T:Nat}{b:aF}{i:TI}{vs:List Value}{v:Value}(k:Nat)(hk:s.L[k]? =some b)(h:look s.t p=some (b.at 0))(hi:dU P T i=true)(hvs:b.cs.take i.size=vs)(hlen:vs.length=i.size)(hpos:0<i.size)
 (hv:(bif i.agg then some (.agg vs.toArray) else vs[0]?)=some v):GG P s (.cell p T) v:=fun B a w hr=>by
 have h1:=hr.tmp p _ h;obtain⟨g,hg,h2⟩:=hr.mem.loadVar (P:=P) hk hi (off:=0) (by simpa using hvs) hlen hpos hv;unfold aF.at at h1;rw[hg] at h1;simp only[Option.map_some] at h1;simp[h1,asAddr,h2]
def aO{P:Program}{B:Bs}{fn:Func}{R:Ending->World->Prop}{s:St}{r:ResultVar}{v:Value}(hfn:fn.results= #[r])(h:GG P s r v)(hR:∀w,aT B s.L w->R (.returned v) w)(hD:B.D=[]:=by first|rfl|assumption):At B s (bodyPost P fn R .ret):=fun a w hr=>by
 refine⟨hr.df.trans hD,v,?_,hR w hr.mem⟩;have:=h B a w hr;cases r with
 |tmp t=>simp only[Sem.run_pure] at this;simp[results,hfn];simpa using this
 |cell p T=>
  simp only[Sem.run_bind] at this;simp only[results,hfn];simp[Sem.run_bind,Result.andThen] at this ⊢
  split at this<;>simp_all
def bg{P:Program}{B:Bs}{fn:Func}{R:Ending->World->Prop}{s:St}{r r':ResultVar}{v v':Value}(hfn:fn.results= #[r,r'])(h:GG P s r v)(h':GG P s r' v')(hR:∀w,aT B s.L w->R (.returned (.tuple #[v,v'])) w)(hD:B.D=[]:=by first|rfl|assumption):At B s (bodyPost P fn R .ret):=fun a w hr=>by
 refine⟨hr.df.trans hD,.tuple #[v,v'],?_,hR w hr.mem⟩;have h1:=h B a w hr;have h2:=h' B a w hr;unfold results;rw[hfn];simp only[List.mapM_toArray,List.mapM_cons,List.mapM_nil,Sem.run_bind,Sem.run_map,bind_pure_comp];cases r<;>cases r'<;>simp only[Sem.run_bind,Sem.run_pure] at h1 h2 ⊢ <;>simp_all
def xG{P:Program}{B:Bs}{fn:Func}{R:Ending->World->Prop}{s:St}{r r' r'':ResultVar}{v v' v'':Value}(hfn:fn.results= #[r,r',r''])(h:GG P s r v)(h':GG P s r' v')(h'':GG P s r'' v'')(hR:∀w,aT B s.L w->R (.returned (.tuple #[v,v',v''])) w)(hD:B.D=[]:=by first|rfl|assumption):At B s (bodyPost P fn R .ret):=fun a w hr=>by
 refine⟨hr.df.trans hD,.tuple #[v,v',v''],?_,hR w hr.mem⟩;have h1:=h B a w hr;have h2:=h' B a w hr;have h3:=h'' B a w hr;unfold results;rw[hfn];simp only[List.mapM_toArray,List.mapM_cons,List.mapM_nil,Sem.run_bind,Sem.run_map,bind_pure_comp];cases r<;>cases r'<;>cases r''<;>simp only[Sem.run_bind,Sem.run_pure] at h1 h2 h3 ⊢ <;>simp_all
end Go.Via
namespace Go.Via
variable[Mo]
open Go Go.RowKit
section
variable{P:Program}{bl:List Nat}{ops:Array Oper}{K:St->Prop}{rest:List Oper}{nt:Nat}{t:List (Nat×Value)}{L:List aF}{d:Nat}{ty:TypeId}{pos:String}{af:Array Edge}{g:Option (Nat×Bool)}
def qgb{x:Operand}{v:Value}(hd:Nat.blt d nt=true)(hg:ax ops ⟨some d,.move x,ty,pos,af,g⟩ t=some true)(hx:ev t x=some v)(h:aX P bl ops rest ⟨nt,(d,v)::t,L⟩ K):
 aX P bl ops (⟨some d,.move x,ty,pos,af,g⟩::rest) ⟨nt,t,L⟩ K:=fM hd hg rfl (qf5 rfl hx) h (fun _=>hx)
def TC{x:Operand}{v:Addr}(hd:Nat.blt d nt=true)(hg:ax ops ⟨some d,.nilCheck x,ty,pos,af,g⟩ t=some true)(hx:ev t x=some (.pointer (some v)))(h:aX P bl ops rest ⟨nt,(d,.pointer (some v))::t,L⟩ K):
 aX P bl ops (⟨some d,.nilCheck x,ty,pos,af,g⟩::rest) ⟨nt,t,L⟩ K:=fM hd hg rfl (fun B a w hr=>by simp[execOp,hr.ev hx]) h
def P6{x:Operand}{v:Value}(hd:Nat.blt d nt=true)(hg:ax ops ⟨some d,.assign x,ty,pos,af,g⟩ t=some true)(hx:ev t x=some v)(h:aX P bl ops rest ⟨nt,(d,v)::t,L⟩ K):
 aX P bl ops (⟨some d,.assign x,ty,pos,af,g⟩::rest) ⟨nt,t,L⟩ K:=fM hd hg rfl (Zg rfl hx) h
def qcG{c x y:Operand}{v:Value}(hd:Nat.blt d nt=true)(hg:ax ops ⟨some d,.pick c x y,ty,pos,af,g⟩ t=some true)(hc:ev t c=some (.bool true))(hx:ev t x=some v)(h:aX P bl ops rest ⟨nt,(d,v)::t,L⟩ K):
 aX P bl ops (⟨some d,.pick c x y,ty,pos,af,g⟩::rest) ⟨nt,t,L⟩ K:=fM hd hg rfl (Zh (b:=true) rfl hc hx) h
def qcH{c x y:Operand}{v:Value}(hd:Nat.blt d nt=true)(hg:ax ops ⟨some d,.pick c x y,ty,pos,af,g⟩ t=some true)(hc:ev t c=some (.bool false))(hx:ev t y=some v)(h:aX P bl ops rest ⟨nt,(d,v)::t,L⟩ K):
 aX P bl ops (⟨some d,.pick c x y,ty,pos,af,g⟩::rest) ⟨nt,t,L⟩ K:=fM hd hg rfl (Zh (b:=false) rfl hc hx) h
def bn{T:Nat}{x:Operand}{i:TI}{b:aF}{v:Value}(k off:Nat)(vs:List Value)(hd:Nat.blt d nt=true)(hg:ax ops ⟨some d,.load T x,ty,pos,af,g⟩ t=some true)(hk:(blank bl L)[k]? =some b)(hx:ev t x=some (b.at off))(hi:dU P T i=true)
 (hvs:(b.cs.drop off).take i.size=vs)(hlen:vs.length=i.size)(hpos:Nat.blt 0 i.size=true)(hv:(bif i.agg then some (.agg vs.toArray) else vs[0]?)=some v)(h:aX P bl ops rest ⟨nt,(d,v)::t,L⟩ K):
 aX P bl ops (⟨some d,.load T x,ty,pos,af,g⟩::rest) ⟨nt,t,L⟩ K:=fM hd hg rfl (Zi rfl k hk hx hi hvs hlen (by simpa using hpos) hv) h
def qkl{o:Oper}(hdst:o.dst=some d)(hd:Nat.blt d nt=true)(hg:ax ops o t=some false)(h:aX P bl ops rest ⟨nt,(d,undef)::t,L⟩ K):aX P bl ops (o::rest) ⟨nt,t,L⟩ K:=
 qf8 (by rw[hdst];exact hd) hg (by rw[hdst];exact h)
def qfp{T:Nat}{x:Operand}{v:Value}(cs:List Value)(n:Nat)(mk:Nat->List aF)(hd:Nat.blt d nt=true)(hg:ax ops ⟨some d,.box T x,ty,pos,af,g⟩ t=some true)(hx:ev t x=some v)(hcs:v.cells.toList=cs)(hn:v.cells.size=n)
 (hL:∀b,L++[⟨some b,T,cs,n,true⟩]=mk b)(h:∀b,aX P bl ops rest ⟨nt,(d,.pointer (some ⟨b,0,none⟩))::t,mk b⟩ K)(hT:Nat.blt T bW=true:=by rfl):aX P bl ops (⟨some d,.box T x,ty,pos,af,g⟩::rest) ⟨nt,t,L⟩ K:=
 LH hd hg rfl rfl (fun hd'=>qio (by simpa using hT) hd' rfl hx) fun b=>by
  subst hcs;subst hn;have:=h b;rw[<-hL b] at this;exact this
def Vo{T:Nat}{z:Value}(cs:List Value)(n:Nat)(mk:Nat->List aF)(hd:Nat.blt d nt=true)(hg:ax ops ⟨some d,.alloc T,ty,pos,af,g⟩ t=some true)(hz:(P.info? T).bind (·.zero)=some z)(hcs:z.cells.toList=cs)(hn:z.cells.size=n)
 (hL:∀b,L++[⟨some b,T,cs,n,true⟩]=mk b)(h:∀b,aX P bl ops rest ⟨nt,(d,.pointer (some ⟨b,0,none⟩))::t,mk b⟩ K)(hT:Nat.blt T bW=true:=by rfl):aX P bl ops (⟨some d,.alloc T,ty,pos,af,g⟩::rest) ⟨nt,t,L⟩ K:=
 Zn (e:=T) (cs:=z.cells) hd hg rfl (Xu (by simpa using hT) rfl hz) fun b=>by
  subst hcs;subst hn;have:=h b;rw[<-hL b] at this;exact this
def xH(hbl:Fa bl=false){T:Nat}{x y:Operand}{i:TI}{gg e n:Nat}{cs:List Value}{v:Value}(k off:Nat)(L':List aF)(cs':List Value)(hg:ax ops ⟨none,.store T x y,ty,pos,af,g⟩ t=some true)(hk:L[k]? =some ⟨some gg,e,cs,n,true⟩)(hx:ev t x=some (.pointer (some ⟨gg,off,none⟩)))
 (hy:ev t y=some v)(hi:dU P T i=true)(hsz:v.cells.size=i.size)(hfit:Nat.ble (off+i.size) cs.length=true)(h1:(v.cells.toList.all fun u=>u.oneCell')=true)(hcs:cs.take off++v.cells.toList++cs.drop (off+i.size)=cs')(hL:L.set k ⟨some gg,e,cs',n,true⟩=L')
 (h:aX P bl ops rest ⟨nt,t,L'⟩ K)(hpos:Nat.blt 0 i.size=true:=by rfl):aX P bl ops (⟨none,.store T x y,ty,pos,af,g⟩::rest) ⟨nt,t,L⟩ K:=
 Vm hg rfl rfl (by
 subst hcs;subst hL;exact DJ (s:=⟨nt,t,L⟩) rfl k hk rfl (by rw[hx];rfl) rfl hy hi hsz (by simpa using hpos) (by simpa using hfit) h1) (fun h2=>by rw[hbl] at h2;cases h2) h
def lU{T:Nat}{x y:Operand}{i:TI}{gg e n:Nat}{cs:List Value}{v:Value}(k off:Nat)(L':List aF)(cs':List Value)(hg:ax ops ⟨none,.store T x y,ty,pos,af,g⟩ t=some true)(hk:L[k]? =some ⟨some gg,e,cs,n,true⟩)(hx:ev t x=some (.pointer (some ⟨gg,off,none⟩)))
 (hy:ev t y=some v)(hi:dU P T i=true)(hsz:v.cells.size=i.size)(hfit:Nat.ble (off+i.size) cs.length=true)(h1:(v.cells.toList.all fun u=>u.oneCell')=true)(hcs:cs.take off++v.cells.toList++cs.drop (off+i.size)=cs')(hL:L.set k ⟨some gg,e,cs',n,true⟩=L')(hb:blank bl L'=blank bl L)
 (h:aX P bl ops rest ⟨nt,t,L'⟩ K)(hpos:Nat.blt 0 i.size=true:=by rfl):aX P bl ops (⟨none,.store T x y,ty,pos,af,g⟩::rest) ⟨nt,t,L⟩ K:=
 Vm hg rfl rfl (by
 subst hcs;subst hL;exact DJ (s:=⟨nt,t,L⟩) rfl k hk rfl (by rw[hx];rfl) rfl hy hi hsz (by simpa using hpos) (by simpa using hfit) h1) (fun _=>hb) h
def bY{f:Nat}{args:List Operand}{ts:Array TypeId}(vs:List Value){v:Value}(hd:Nat.blt d nt=true)(hg:ax ops ⟨some d,.call {callee:= .value (.func f),args:=args.toArray,argTypes:=ts},ty,pos,af,g⟩ t=some true)
 (hv:args.map (ev t)=vs.map some)(hc:aH P f vs.toArray v)(h:aX P bl ops rest ⟨nt,(d,v)::t,L⟩ K):
 aX P bl ops (⟨some d,.call {callee:= .value (.func f),args:=args.toArray,argTypes:=ts},ty,pos,af,g⟩::rest) ⟨nt,t,L⟩ K:=
 DK hd hg rfl (qf9 (s:=⟨nt,t,L⟩) rfl hv hc) (fun _=>⟨qcF (s:=⟨nt,t,L⟩) rfl hv hc,⟨()⟩⟩) fun _=>by
  have:L++([]:List aF)=L:=List.append_nil L;show aX P bl ops rest ⟨nt,(d,v)::t,L++[]⟩ K;rw[this];exact h
theorem Zp{T:Nat}(hT:P.underlying T=some .bool)(m n:Bool)(w:World):(binOp .eql T (.bool m) (.bool n)).run P w= .ok (.bool (m==n)) w:=by
 have:=run_equalIn_bool w 9999 T m n hT;simp only[binOp,Op.equal,Op.maxDepth,Sem.run_bind,this,Result.andThen_ok,Sem.run_pure]
theorem Zq{T:Nat}(hT:P.underlying T=some .bool)(m n:Bool)(w:World):(binOp .neq T (.bool m) (.bool n)).run P w= .ok (.bool (m !=n)) w:=by
 have:=run_equalIn_bool w 9999 T m n hT;simp only[binOp,Op.equal,Op.maxDepth,Sem.run_bind,this,Result.andThen_ok,Sem.run_pure]
 rfl
section
variable{x y:Operand}(hd:Nat.blt d nt=true)
def qip{T:Nat}{b:Bool}(hd:Nat.blt d nt=true)(hg:ax ops ⟨some d,.unOp .not T x,ty,pos,af,g⟩ t=some true)(hx:ev t x=some (.bool b))(h:aX P bl ops rest ⟨nt,(d,.bool (!b))::t,L⟩ K):
 aX P bl ops (⟨some d,.unOp .not T x,ty,pos,af,g⟩::rest) ⟨nt,t,L⟩ K:=
 fM hd hg rfl (fun B a w hr=>by simp[execOp,hr.ev hx,Op.unary]) h
def Fh{i:Nat}{vs:List Value}{v:Value}(hd:Nat.blt d nt=true)(hg:ax ops ⟨some d,.extract x i,ty,pos,af,g⟩ t=some true)(hx:ev t x=some (.tuple vs.toArray))(hv:vs[i]? =some v)(h:aX P bl ops rest ⟨nt,(d,v)::t,L⟩ K):
 aX P bl ops (⟨some d,.extract x i,ty,pos,af,g⟩::rest) ⟨nt,t,L⟩ K:=
 fM hd hg rfl (fun B a w hr=>by simp[execOp,hr.ev hx,Instr.extract,hv]) h (fun _=>by unfold nz;simp[hx,hv])
def Zr{op:BinOp}{T U:Nat}{k:IntKind}{m n:Int}{r:Bool}(hd:Nat.blt d nt=true)(hg:ax ops ⟨some d,.binOp op T x y U,ty,pos,af,g⟩ t=some true)(hx:ev t x=some (.int k m))(hy:ev t y=some (.int k n))
 (hr:(match op with| .eql=>some (m==n)| .neq=>some (m !=n)| .lss=>some (decide (m<n))| .leq=>some (decide (m<=n))| .gtr=>some (decide (n<m))| .geq=>some (decide (n<=m))|_=>none)=some r)(h:aX P bl ops rest ⟨nt,(d,.bool r)::t,L⟩ K):
 aX P bl ops (⟨some d,.binOp op T x y U,ty,pos,af,g⟩::rest) ⟨nt,t,L⟩ K:=
 fM hd hg rfl (fun B a w hrel=>by
 have h1:=hrel.ev hx;have h2:=hrel.ev hy;cases op<;>simp at hr<;>subst hr<;>simp[execOp,h1,h2,eqGuard,binOp,Op.intCmp]) h
def Fj{T U:Nat}{m n:Bool}(hd:Nat.blt d nt=true)(hT:P.underlying T=some .bool)(hg:ax ops ⟨some d,.binOp .eql T x y U,ty,pos,af,g⟩ t=some true)(hx:ev t x=some (.bool m))(hy:ev t y=some (.bool n))
 (h:aX P bl ops rest ⟨nt,(d,.bool (m==n))::t,L⟩ K):aX P bl ops (⟨some d,.binOp .eql T x y U,ty,pos,af,g⟩::rest) ⟨nt,t,L⟩ K:=
 fM hd hg rfl (fun B a w hrel=>by
 simp[execOp,hrel.ev hx,hrel.ev hy,eqGuard,Zp hT]) h
def ou{T U:Nat}{m n:Bool}(hd:Nat.blt d nt=true)(hT:P.underlying T=some .bool)(hg:ax ops ⟨some d,.binOp .neq T x y U,ty,pos,af,g⟩ t=some true)(hx:ev t x=some (.bool m))(hy:ev t y=some (.bool n))
 (h:aX P bl ops rest ⟨nt,(d,.bool (m !=n))::t,L⟩ K):aX P bl ops (⟨some d,.binOp .neq T x y U,ty,pos,af,g⟩::rest) ⟨nt,t,L⟩ K:=
 fM hd hg rfl (fun B a w hrel=>by
 simp[execOp,hrel.ev hx,hrel.ev hy,eqGuard,Zq hT]) h
def Zt{T U:Nat}{m n:ByteArray}(hd:Nat.blt d nt=true)(hg:ax ops ⟨some d,.binOp .eql T x y U,ty,pos,af,g⟩ t=some true)(hx:ev t x=some (.string m))(hy:ev t y=some (.string n))
 (h:aX P bl ops rest ⟨nt,(d,.bool (m==n))::t,L⟩ K):aX P bl ops (⟨some d,.binOp .eql T x y U,ty,pos,af,g⟩::rest) ⟨nt,t,L⟩ K:=
 fM hd hg rfl (fun B a w hrel=>by
 simp[execOp,hrel.ev hx,hrel.ev hy,eqGuard,binOp,Op.stringOp,beq_toListBytes]) h
def Zu{T U:Nat}{m n:ByteArray}(hd:Nat.blt d nt=true)(hg:ax ops ⟨some d,.binOp .neq T x y U,ty,pos,af,g⟩ t=some true)(hx:ev t x=some (.string m))(hy:ev t y=some (.string n))
 (h:aX P bl ops rest ⟨nt,(d,.bool (m !=n))::t,L⟩ K):aX P bl ops (⟨some d,.binOp .neq T x y U,ty,pos,af,g⟩::rest) ⟨nt,t,L⟩ K:=
 fM hd hg rfl (fun B a w hrel=>by
 simp[execOp,hrel.ev hx,hrel.ev hy,eqGuard,binOp,Op.stringOp,bne,beq_toListBytes]) h
def fG{T U:Nat}{m n:Array Value}{r:Bool}(hd:Nat.blt d nt=true)(hg:ax ops ⟨some d,.binOp .eql T x y U,ty,pos,af,g⟩ t=some true)(hx:ev t x=some (.agg m))(hy:ev t y=some (.agg n))(hm:P.eqGuardType P.depth T=false)
 (hr:∀w,(Op.equalIn 10000 T (.agg m) (.agg n)).run P w= .ok r w)(h:aX P bl ops rest ⟨nt,(d,.bool r)::t,L⟩ K):aX P bl ops (⟨some d,.binOp .eql T x y U,ty,pos,af,g⟩::rest) ⟨nt,t,L⟩ K:=
 fM hd hg rfl (fun B a w hrel=>by
 simp[execOp,hrel.ev hx,hrel.ev hy,run_eqGuard_agg w .eql T x y m n hm,run_eql_struct w T m n,hr w]) h
def DL{T U:Nat}{m n:Array Value}{r:Bool}(hd:Nat.blt d nt=true)(hg:ax ops ⟨some d,.binOp .neq T x y U,ty,pos,af,g⟩ t=some true)(hx:ev t x=some (.agg m))(hy:ev t y=some (.agg n))(hm:P.eqGuardType P.depth T=false)
 (hr:∀w,(Op.equalIn 10000 T (.agg m) (.agg n)).run P w= .ok r w)(h:aX P bl ops rest ⟨nt,(d,.bool (!r))::t,L⟩ K):aX P bl ops (⟨some d,.binOp .neq T x y U,ty,pos,af,g⟩::rest) ⟨nt,t,L⟩ K:=
 fM hd hg rfl (fun B a w hrel=>by
 simp[execOp,hrel.ev hx,hrel.ev hy,run_eqGuard_agg w .neq T x y m n hm,run_neq_struct w T m n,hr w]) h
def qcI{T:Nat}{parts:List (Nat×Operand)}(ps:List (Nat×Value)){v:Value}(hd:Nat.blt d nt=true)(hg:ax ops ⟨some d,.build T parts.toArray,ty,pos,af,g⟩ t=some true)(hx:parts.map (fun p=>(p.1,ev t p.2))=ps.map (fun p=>(p.1,some p.2)))
 (hb:∀w,(Instr.build T ps.toArray).run P w= .ok v w)(h:aX P bl ops rest ⟨nt,(d,v)::t,L⟩ K):aX P bl ops (⟨some d,.build T parts.toArray,ty,pos,af,g⟩::rest) ⟨nt,t,L⟩ K:=
 fM hd hg rfl (fun B a w hrel=>by
 have:(parts.map fun p=>(p.1,a.eval p.2))=ps:=by
  clear h hb hg
  induction parts generalizing ps with
  |nil=>cases ps<;>simp_all
  |cons p parts ih=>
   cases ps with
   |nil=>simp at hx
   |cons q ps=>
    simp only[List.map_cons,List.cons.injEq,Prod.mk.injEq] at hx;rw[List.map_cons,hrel.ev hx.1.2,ih ps hx.2,hx.1.1]
 simp[execOp,this,hb w]) h (fun _=>by unfold nz;show(jU t parts).bind _=_;rw[Cc hx];exact PT hb)
def qiq{T:Nat}{s:ByteArray}(hd:Nat.blt d nt=true)(hT:P.underlying T=some .string)(hg:ax ops ⟨some d,.call {callee:= .builtin .len,args:= #[x],argTypes:= #[T]},ty,pos,af,g⟩ t=some true)(hx:ev t x=some (.string s))(h:aX P bl ops rest ⟨nt,(d,.int .i64 s.size)::t,L⟩ K):
 aX P bl ops (⟨some d,.call {callee:= .builtin .len,args:= #[x],argTypes:= #[T]},ty,pos,af,g⟩::rest) ⟨nt,t,L⟩ K:=
 fM hd hg rfl (fun B a w hrel=>by
 have:=run_len_string (P:=P) w T ty s hT;simp[execOp,resolve,invoke,builtin,hrel.ev hx,this,goInt]) h
def Zv{T:Nat}{k:IntKind}{n r:Int}(hd:Nat.blt d nt=true)(hg:ax ops ⟨some d,.unOp .neg T x,ty,pos,af,g⟩ t=some true)(hx:ev t x=some (.int k n))(hr:k.wrap (0-n)=r)(h:aX P bl ops rest ⟨nt,(d,.int k r)::t,L⟩ K):
 aX P bl ops (⟨some d,.unOp .neg T x,ty,pos,af,g⟩::rest) ⟨nt,t,L⟩ K:=
 fM hd hg rfl (fun B a w hrel=>by simp[execOp,hrel.ev hx,Op.unary,Op.intArith];simpa using hr) h
def Vp{op:BinOp}{T U:Nat}{k:IntKind}{m n r:Int}(hd:Nat.blt d nt=true)(hg:ax ops ⟨some d,.binOp op T x y U,ty,pos,af,g⟩ t=some true)(hx:ev t x=some (.int k m))(hy:ev t y=some (.int k n))
 (hr:(match op with| .add=>some (k.wrap (m+n))| .sub=>some (k.wrap (m-n))| .mul=>some (k.wrap (m*n))|_=>none)=some r)(h:aX P bl ops rest ⟨nt,(d,.int k r)::t,L⟩ K):
 aX P bl ops (⟨some d,.binOp op T x y U,ty,pos,af,g⟩::rest) ⟨nt,t,L⟩ K:=
 fM hd hg rfl (fun B a w hrel=>by
 have h1:=hrel.ev hx;have h2:=hrel.ev hy;cases op<;>simp at hr<;>subst hr<;>simp[execOp,h1,h2,eqGuard,binOp,Op.intArith]) h
end
end
end Go.Via
namespace Go.Via
variable[Mo]
open Go Go.RowKit
def Zw{B:Bs}{X:Act->World->Prop}:KC (fun s'=>At B s' X):=fun _ _ he h a w hr=>h a w (he.symm.rel hr)
def qcJ{P:Program}{bl:List Nat}{ops:Array Oper}{nt:Nat}{t:List (Nat×Value)}{L:List aF}{B:Bs}{X:Act->World->Prop}{l:List Oper}{b:Bool}(d:Nat)(hx:look t d=some (.bool b))
 (hT:b=true->aX P bl ops l ⟨nt,(d,.bool true)::t,L⟩ (fun s'=>At B s' X))(hF:b=false->aX P bl ops l ⟨nt,(d,.bool false)::t,L⟩ (fun s'=>At B s' X)):aX P bl ops l ⟨nt,t,L⟩ (fun s'=>At B s' X):=by
 have key:∀c:Bool,b=c->Ce ⟨nt,(d,.bool c)::t,L⟩ ⟨nt,t,L⟩:=fun c hc=>⟨rfl,rfl,fun k=>by
 by_cases e:d=k
 ·subst e;rw[dW,<-hc];exact hx.symm
 ·rw[bT e]⟩
 cases hb:b
 ·exact aX.kc Zw l _ _ (key false hb) (hF hb)
 ·exact aX.kc Zw l _ _ (key true hb) (hT hb)
def aW{P:Program}{bl:List Nat}{ops:Array Oper}{nt:Nat}{t:List (Nat×Value)}{L:List aF}{B:Bs}{X:Act->World->Prop}{l:List Oper}{v:Value}(d:Nat)(v':Value)(hx:look t d=some v)(hv:v=v')
 (h:aX P bl ops l ⟨nt,(d,v')::t,L⟩ (fun s'=>At B s' X)):aX P bl ops l ⟨nt,t,L⟩ (fun s'=>At B s' X):=by
 refine aX.kc Zw l ⟨nt,(d,v')::t,L⟩ _ ⟨rfl,rfl,fun k=>?_⟩ h
 by_cases e:d=k
 ·subst e;rw[dW,<-hv];exact hx.symm
 ·rw[bT e]
section
variable{B:Bs}{s:St}{k:Act->World->Prop}{Q:Exit->Act->World->Prop}{id id':Nat}
def qir(h:At B s k):At B s (Exit.then k Q .normal):=h
def qis(h:At B s (Q .ret)):At B s (Exit.then k Q .ret):=h
def qit(h:At B s (Q (.exit id))):At B s (Exit.then k Q (.exit id)):=h
def qiu(h:At B s (Q .normal)):At B s (Exit.inBlock id Q .normal):=h
def qiv(h:At B s (Q .ret)):At B s (Exit.inBlock id Q .ret):=h
def qiw(h:At B s (Q .normal)):At B s (Exit.inBlock id Q (.exit id)):=fun a w hr=>by
 show if id=id then _ else _
 rw[if_pos rfl];exact h a w hr
def TD(hne:(id'==id)=false)(h:At B s (Q (.exit id'))):At B s (Exit.inBlock id Q (.exit id')):=fun a w hr=>by
 show if id'=id then _ else _
 rw[if_neg (by simpa using hne)];exact h a w hr
end
end Go.Via
namespace Go.Via
variable[Mo]
open Go Go.RowKit
def NV(k:IntKind)(l:List Nat):List Value:=l.map fun(d:Nat)=>Value.int k (d:Int)
theorem az(k:IntKind)(l:List Nat):(NV k l).length=l.length:=by simp[NV]
def aZ{k:IntKind}{l:List Nat}{i d:Nat}(h:l[i]? =some d):(NV k l)[i]? =some (.int k (d:Int)):=by simp[NV,h]
theorem cZ(k:IntKind)(l:List Nat)(i d:Nat):(NV k l).set i (.int k (d:Int))=NV k (l.set i d):=by simp[NV,List.map_set]
theorem LJ(k:IntKind)(l m:List Nat):NV k l++NV k m=NV k (l++m):=by simp[NV]
theorem DN(k:IntKind)(l:List Nat)(n:Nat):(NV k l).take n=NV k (l.take n):=by simp[NV,List.map_take]
theorem Vq(k:IntKind)(l:List Nat)(n:Nat):(NV k l).drop n=NV k (l.drop n):=by simp[NV,List.map_drop]
theorem dX(k:IntKind)(n:Nat):List.replicate n (Value.int k 0)=NV k (List.replicate n 0):=by simp[NV]
structure SR(len:Nat) where
 b:Option Nat
 n:Nat
 cap:Nat
 h:len<=cap
instance{len:Nat}:Nonempty (SR len):=⟨⟨none,0,len,Nat.le_refl _⟩⟩
def aI(b:Option Nat)(off len cap:Nat):Value:= .slice (b.map fun g=>⟨g,off,none⟩) len cap
def SR.v{len:Nat}(x:SR len):Value:=aI x.b 0 len x.cap
def aF.le(b' b:aF):Prop:=b'.base=b.base∧b'.e=b.e∧b'.n=b.n∧(∃k,b'.cs=b.cs.take k)∧(b'.own=true->b.own=true)
theorem aF.le_refl(b:aF):b.le b:=⟨rfl,rfl,rfl,⟨b.cs.length,by simp⟩,id⟩
def qW.le{B:Bs}{w:World}{b b':aF}{g:Nat}(h:qW B w b g)(hl:b'.le b):qW B w b' g:=by
 obtain⟨h0,h4⟩:=h;obtain⟨l1,l2,l3,⟨k,l4⟩,l5⟩:=hl;refine⟨?_,fun ho=>h4 (l5 ho)⟩
 rcases h0 with⟨cur,⟨e',fr,h1,hfr,hlt⟩,h2,h3⟩|⟨l,es,c,a1,a2,a3,a4,a5⟩
 ·refine .inl ⟨cur,⟨e',fr,h1,fun ho=>⟨by rw[l2];exact(hfr (l5 ho)).1,(hfr (l5 ho)).2⟩,by rw[l2];exact hlt⟩,by rw[l3];exact h2,?_⟩
  rw[l4,List.length_take,<-List.take_take,h3]
 ·exact .inr ⟨l,es,c,by rw[l2];exact a1,by rw[l4,a2];simp,by rw[l3];exact a3,a4,a5⟩
def iJ(L:List aF):List (Option Nat)->List aF->Prop
 |[],[]=>True
 |some k::ks,b'::L'=>(∃b,L[k]? =some b∧b'.le b)∧iJ L ks L'
 |none::ks,b'::L'=>(b'.base=none∧b'.cs=[]∧(b'.n==0&&Nat.blt b'.e bW)=true)∧iJ L ks L'
 |_,_=>False
def kK:List (Option Nat)->List Bool->Bool
 |some k::ks,true::os=> !ks.contains (some k)&&kK ks os
 |some k::ks,false::os=>((ks.zip os).all fun p=> !(p.2&&p.1==some k))&&kK ks os
 |none::ks,_::os=>kK ks os
 |_,_=>true
theorem iJ.get{L:List aF}:∀{ks:List (Option Nat)} {L':List aF},iJ L ks L'->∀(i:Nat) (b':aF),L'[i]? =some b'->
 (∃k b,ks[i]? =some (some k)∧L[k]? =some b∧b'.le b)∨(ks[i]? =some none∧b'.base=none∧b'.cs=[]∧(b'.n==0&&Nat.blt b'.e bW)=true)
 |[],[],_,i,b',h=>by simp at h
 |some k::ks,c::L',hp,i,b',h=>by
  cases i with
  |zero=>simp at h;subst h;obtain⟨⟨b,h1,h2⟩,_⟩:=hp;exact .inl ⟨k,b,by simp,h1,h2⟩
  |succ i=>simp at h;simpa using iJ.get hp.2 i b' h
 |none::ks,c::L',hp,i,b',h=>by
  cases i with
  |zero=>simp at h;subst h;exact .inr ⟨by simp,hp.1⟩
  |succ i=>simp at h;simpa using iJ.get hp.2 i b' h
 |some _::_,[],hp,i,b',h=>by simp at h
 |none::_,[],hp,i,b',h=>by simp at h
 |[],_::_,hp,i,b',h=>hp.elim
def uI:∀{ks:List (Option Nat)} {os:List Bool},ks.length=os.length->kK ks os=true->∀(i j k:Nat),i≠j->ks[i]? =some (some k)->ks[j]? =some (some k)->os[i]? =some true->False
 |[],_,_,_,i,j,k,_,h,_,_=>by simp at h
 |some m::ks,true::os,hl,ha,i,j,k,hij,h1,h2,h3=>by
  simp only[kK,Bool.and_eq_true,Bool.not_eq_true',List.contains_eq_mem,decide_eq_false_iff_not] at ha;have hl':ks.length=os.length:=by simpa using hl
  cases i with
  |zero=>
   cases j with
   |zero=>exact hij rfl
   |succ j=>
    simp at h1 h2;subst h1;exact ha.1 (List.mem_of_getElem? h2)
  |succ i=>
   cases j with
   |zero=>simp at h1 h2;subst h2;exact ha.1 (List.mem_of_getElem? h1)
   |succ j=>simp at h1 h2 h3;exact uI hl' ha.2 i j k (by omega) h1 h2 h3
 |some m::ks,false::os,hl,ha,i,j,k,hij,h1,h2,h3=>by
  simp only[kK,Bool.and_eq_true,List.all_eq_true] at ha;have hl':ks.length=os.length:=by simpa using hl
  cases i with
  |zero=>simp at h3
  |succ i=>
   cases j with
   |zero=>
    simp at h1 h2 h3;subst h2;have hm:(some m,true)∈ks.zip os:=List.mem_of_getElem? (i:=i) (by rw[List.getElem?_zip_eq_some];exact⟨h1,h3⟩);have:=ha.1 _ hm;simp at this
   |succ j=>simp at h1 h2 h3;exact uI hl' ha.2 i j k (by omega) h1 h2 h3
 |none::ks,o::os,hl,ha,i,j,k,hij,h1,h2,h3=>by
  have hl':ks.length=os.length:=(by simpa using hl);cases i with
  |zero=>simp at h1
  |succ i=>
   cases j with
   |zero=>simp at h2
   |succ j=>simp at h1 h2 h3;exact uI hl' ha i j k (by omega) h1 h2 h3
 |some _::_,[],hl,_,i,j,k,_,_,_,_=>by simp at hl
 |none::_,[],hl,_,i,j,k,_,_,_,_=>by simp at hl
def aT.picks{B:Bs}{w:World}{L L':List aF}(h:aT B L w)(ks:List (Option Nat))(hp:iJ L ks L')(hl:ks.length=L'.length)(ha:kK ks (L'.map (·.own))=true)
 :aT B L' w:=by
 refine⟨h.bel,fun k b hk=>?_,fun i j g bi bj hij hi hj ho hg hgj=>?_,h.grp.sub (fun b hb hn=>?_) (fun c hc ho g hg=>?_)⟩
 rotate_left 2
 ·obtain⟨k,hk⟩:=List.mem_iff_getElem?.1 hb;rcases hp.get k b hk with⟨m,c,_,h2,h3⟩|⟨_,h2,_,h3⟩
  ·exact .inr ⟨c,List.mem_of_getElem? h2,by rw[<-h3.1];exact hn,h3.2.1.symm,h3.2.2.2.2⟩
  ·simp only[Bool.and_eq_true,Nat.blt_eq] at h3;exact .inl h3.2
 ·obtain⟨k,hk⟩:=List.mem_iff_getElem?.1 hc;rcases hp.get k c hk with⟨m,c',_,h2,h3⟩|⟨_,h2,_⟩
  ·exact⟨c',List.mem_of_getElem? h2,h3.2.2.2.2 ho,by rw[<-h3.1];exact hg⟩
  ·rw[h2] at hg;cases hg
 ·rcases hp.get k b hk with⟨m,c,_,h2,h3⟩|⟨_,h2,h3⟩
  ·obtain⟨a1,a2⟩:=h.blk m c h2;refine⟨fun g hg=>(a1 g (by rw[<-h3.1];exact hg)).le h3,fun hn=>?_⟩
   obtain⟨b1,b2⟩:=a2 (by rw[<-h3.1];exact hn);obtain⟨_,_,l3,⟨q,l4⟩,_⟩:=h3;exact⟨by rw[l4,b1];simp,by rw[l3];exact b2⟩
  ·exact⟨fun g hg=>(by rw[h2] at hg;cases hg),fun _=>⟨h3.1,by have:=h3.2;simp at this;exact this.1⟩⟩
 ·rcases hp.get i bi hi with⟨mi,ci,h1,h2,h3⟩|⟨_,h2,_⟩
  ·rcases hp.get j bj hj with⟨mj,cj,g1,g2,g3⟩|⟨_,g2,_⟩
   ·by_cases e:mi=mj
    ·subst e;exact uI (by simpa using hl) ha i j mi hij h1 g1 (by rw[List.getElem?_map,hi];simp[ho])
    ·exact h.apart mi mj g ci cj e h2 g2 (h3.2.2.2.2 ho) (by rw[<-h3.1];exact hg) (by rw[<-g3.1];exact hgj)
   ·rw[g2] at hgj;cases hgj
  ·rw[h2] at hg;cases hg
def eF(L L':List aF):Prop:=∀B w,aT B L w->aT B L' w
def eF.refl(L:List aF):eF L L:=fun _ _ h=>h
def aj{L L':List aF}(ks:List (Option Nat))(hp:iJ L ks L')(hl:ks.length=L'.length)(ha:kK ks (L'.map (·.own))=true):eF L L':=fun _ _ h=>h.picks ks hp hl ha
def aP{b:aF}{b':aF}(h:b'=b):b'.le b:=h▸b.le_refl
def nK{base:Option Nat}{e:TypeId}{cs:List Value}{n:Nat}{o:Bool}:aF.le ⟨base,e,cs,n,false⟩ ⟨base,e,cs,n,o⟩:=⟨rfl,rfl,rfl,⟨cs.length,by simp⟩,fun h=>by cases h⟩
def Vr{B:Bs}{X:Act->World->Prop}{nt:Nat}{t:List (Nat×Value)}{L:List aF}(L':List aF)(hw:eF L L')(h:At B ⟨nt,t,L'⟩ X):At B ⟨nt,t,L⟩ X:=fun a w hr=>h a w ⟨hr.df,hr.size,hr.tmp,hw _ _ hr.mem⟩
def bQ{B:Bs}{X:Act->World->Prop}{nt:Nat}{t:List (Nat×Value)}{L:List aF}{v:Value}(d:Nat)(v':Value)(hx:look t d=some v)(hv:v=v')(h:At B ⟨nt,(d,v')::t,L⟩ X):At B ⟨nt,t,L⟩ X:=fun a w hr=>
 h a w ⟨hr.df,hr.size,fun k u hk=>by
 by_cases e:d=k
 ·subst e;rw[dW] at hk;cases hk;rw[<-hv];exact hr.tmp d v hx
 ·rw[bT e] at hk;exact hr.tmp k u hk,hr.mem⟩
def Zx{B:Bs}{nt:Nat}{t:List (Nat×Value)}{L:List aF}{ι:Type}{inv:ι->St}{μ:ι->Nat}{i:ι}(j:ι)(t':List (Nat×Value))(L':List aF)(hj:inv j=⟨nt,t',L'⟩)(hμ:μ j<μ i)(ht:∀p∈t',look t p.1=some p.2)(hL:eF L L'):
 At B ⟨nt,t,L⟩ (fun a' w'=>∃j,μ j<μ i∧kD B (inv j) a' w'):=fun a w hr=>by
 refine⟨j,hμ,?_⟩;rw[hj];exact(⟨hr.df,hr.size,hr.tmp,hL _ _ hr.mem⟩:kD B ⟨nt,t,L'⟩ a w).sub fun d v hd=>ht (d,v) (tq hd)
def Xx{P:Program}{B:Bs}{Q:Exit->Act->World->Prop}{nt:Nat}{t:List (Nat×Value)}{L:List aF}{ι:Type}{c:Code}(inv:ι->St)(μ:ι->Nat)(i₀:ι)(t':List (Nat×Value))(L':List aF)(h₀:inv i₀=⟨nt,t',L'⟩)(ht:∀p∈t',look t p.1=some p.2)(hL:eF L L')
 (round:∀i,At B (inv i) (c.wp P (Exit.then (fun a' w'=>∃j,μ j<μ i∧kD B (inv j) a' w') Q))):At B ⟨nt,t,L⟩ ((Code.loop c).wp P Q):=
 qcE inv μ i₀ (fun a w hr=>by rw[h₀];exact(⟨hr.df,hr.size,hr.tmp,hL _ _ hr.mem⟩:kD B ⟨nt,t,L'⟩ a w).sub fun d v hd=>ht (d,v) (tq hd)) round
def bZ(P:Program)(f:Nat)(L:List aF)(args:List Value)(X:Type)(res:X->Value)(new:X->List aF):Prop:=
 iF P f=true∧∀w:World,aT w L w->Calls P f args.toArray w fun e w'=>∃x,e= .returned (res x)∧aT w (new x) w'
def aT.asArgs{B:Bs}{w:World}{L L':List aF}(h:aT B L w)(ks:List Nat)(hp:iJ L (ks.map some) L')(ho:∀b∈L',b.own=false):aT w L' w:=by
 have hlen:∀{ks:List Nat} {L':List aF},iJ L (ks.map some) L'->ks.length=L'.length:=by
  intro ks
  induction ks with
  |nil=>intro L' hp;cases L' with
   |nil=>rfl
   |cons c L'=>exact hp.elim
  |cons k ks ih=>intro L' hp;cases L' with
   |nil=>exact hp.elim
   |cons c L'=>simp[ih hp.2]
 refine⟨.of (eQ.refl _ _),fun k b hk=>?_,fun i j g bi bj hij hi hj ho' hg hgj=>?_,fun b hb hn T hT he p hp'=>?_⟩
 rotate_left 2
 ·obtain⟨k,hk⟩:=List.mem_iff_getElem?.1 hb;refine⟨?_,(fun e=>by rw[ho b hb] at e;cases e),(fun c hc e=>by rw[ho c hc] at e;cases e)⟩;rcases hp.get k b hk with⟨m,c,_,h2,h3⟩|⟨_,h2,_,h3⟩
  ·exact(h.grp c (List.mem_of_getElem? h2) (by rw[<-h3.1];exact hn) T hT (by rw[<-h3.2.1];exact he) p hp').1
  ·simp only[Bool.and_eq_true,Nat.blt_eq] at h3;exact absurd (he▸h3.2) (IU T)
 ·rcases hp.get k b hk with⟨m,c,_,h2,h3⟩|⟨_,h2,h3⟩
  ·obtain⟨a1,a2⟩:=h.blk m c h2;refine⟨fun g hg=>⟨((a1 g (by rw[<-h3.1];exact hg)).le h3).1,fun e=>?_⟩,fun hn=>?_⟩
   ·rw[ho b (List.mem_of_getElem? hk)] at e;cases e
   ·obtain⟨b1,b2⟩:=a2 (by rw[<-h3.1];exact hn);obtain⟨_,_,l3,⟨q,l4⟩,_⟩:=h3;exact⟨by rw[l4,b1];simp,by rw[l3];exact b2⟩
  ·exact⟨fun g hg=>(by rw[h2] at hg;cases hg),fun _=>⟨h3.1,by have:=h3.2;simp at this;exact this.1⟩⟩
 ·rw[ho bi (List.mem_of_getElem? hi)] at ho';cases ho'
section
variable{P:Program}{bl:List Nat}{ops:Array Oper}{K:St->Prop}{rest:List Oper}{nt:Nat}{t:List (Nat×Value)}{L:List aF}{d:Nat}{ty:TypeId}{pos:String}{af:Array Edge}{g:Option (Nat×Bool)}
def iP{f:Nat}{args:List Operand}{ts:Array TypeId}(vs:List Value){L0:List aF}{X:Type}[hX:Nonempty X]{res:X->Value}{new:X->List aF}(ks:List Nat)(hd:Nat.blt d nt=true)(hg:ax ops ⟨some d,.call {callee:= .value (.func f),args:=args.toArray,argTypes:=ts},ty,pos,af,g⟩ t=some true)
 (hv:args.map (ev t)=vs.map some)(hc:bZ P f L0 vs X res new)(hp:iJ L (ks.map some) L0)(ho:(L0.all fun b=> !b.own)=true)(hn:False∨∀x,∀b∈new x,b.own=true)
 (h:∀x,aX P bl ops rest ⟨nt,(d,res x)::t,L++new x⟩ K):
 aX P bl ops (⟨some d,.call {callee:= .value (.func f),args:=args.toArray,argTypes:=ts},ty,pos,af,g⟩::rest) ⟨nt,t,L⟩ K:=
 DK hd hg rfl (X:=X) (res:=res) (new:=new) (qfo (s:=⟨nt,t,L⟩) rfl hv hc.1 fun B w hL=>(hc.2 w (hL.asArgs ks hp (fun b hb=>by simpa using List.all_eq_true.1 ho b hb))).mono (by
 rintro e w' ⟨x,rfl,hx⟩;exact⟨x,rfl,hL.joinF hx (hn.resolve_left id x)⟩)) (fun _=>⟨qga (s:=⟨nt,t,L⟩) rfl hv hc.1 fun B w hL=>(hc.2 w (hL.asArgs ks hp (fun b hb=>by simpa using List.all_eq_true.1 ho b hb))).mono (by
 rintro e w' ⟨x,rfl,hx⟩;exact⟨x,rfl,hx,hn.resolve_left id x⟩),hX⟩) fun x=>h x
def gq{f:Nat}{args:List Operand}{ts:Array TypeId}(vs:List Value){L0:List aF}{v:Value}(ks:List Nat)(hd:Nat.blt d nt=true)(hg:ax ops ⟨some d,.call {callee:= .value (.func f),args:=args.toArray,argTypes:=ts},ty,pos,af,g⟩ t=some true)
 (hv:args.map (ev t)=vs.map some)(hc:bZ P f L0 vs Unit (fun _=>v) (fun _=>[]))(hp:iJ L (ks.map some) L0)(ho:(L0.all fun b=> !b.own)=true)
 (h:aX P bl ops rest ⟨nt,(d,v)::t,L⟩ K):
 aX P bl ops (⟨some d,.call {callee:= .value (.func f),args:=args.toArray,argTypes:=ts},ty,pos,af,g⟩::rest) ⟨nt,t,L⟩ K:=
 iP vs ks hd hg hv hc hp ho (.inr fun x b hb=>by cases hb) fun x=>by
  have:L++([]:List aF)=L:=List.append_nil L;show aX P bl ops rest ⟨nt,(d,v)::t,L++[]⟩ K;rw[this];exact h
end
end Go.Via
namespace Go.Via
variable[Mo]
open Go Go.RowKit
def wi{n r:Int}(h0: -9223372036854775808<=n)(h1:n<=9223372036854775807)(e:n=r):IntKind.i64.wrap n=r:=by rw[IntKind.wrap_i64];omega
def wu{n r:Int}(h0:0<=n)(h1:n<18446744073709551616)(e:n=r):IntKind.u64.wrap n=r:=by
 subst e;simp[IntKind.wrap,IntKind.bits,IntKind.signed];omega
theorem qcK(n:Int):IntKind.u64.wrap n=n%18446744073709551616:=by simp[IntKind.wrap,IntKind.bits,IntKind.signed]
theorem qcL(n:Int):IntKind.u32.wrap n=n%4294967296:=by simp[IntKind.wrap,IntKind.bits,IntKind.signed]
theorem wu8(n:Int):IntKind.u8.wrap n=n%256:=by simp[IntKind.wrap,IntKind.bits,IntKind.signed]
theorem TE:IntKind.u64.bits=64:=rfl
theorem TF:IntKind.u32.bits=32:=rfl
theorem Zy(b m n:Nat)(hm:m<2^b)(hn:n<2^b):((BitVec.ofInt b (m:Int)|||BitVec.ofInt b (n:Int)).toNat:Int)=((m|||n:Nat):Int):=by
 rw[BitVec.toNat_or,BitVec.ofInt_natCast,BitVec.ofInt_natCast,BitVec.toNat_ofNat,BitVec.toNat_ofNat,Nat.mod_eq_of_lt hm,Nat.mod_eq_of_lt hn]
theorem Zz{m n:Nat}(i:Nat)(hn:n<2^i):(2^i*m|||n)=2^i*m+n:=(Nat.two_pow_add_eq_or_of_lt hn m).symm
def qgc{m n r:Nat}(i:Nat)(hn:n<2^i)(hr:2^i*m+n=r)(hb:r<4294967296){x y:Int}(hx:x=((2^i*m:Nat):Int))(hy:y=(n:Int)):
 IntKind.u32.wrap ((BitVec.ofInt IntKind.u32.bits x|||BitVec.ofInt IntKind.u32.bits y).toNat)=(r:Int):=by
 subst hx;subst hy;rw[TF,Zy 32 _ _ (by omega) (by omega),Zz i hn,qcL];omega
def I5{m n r:Nat}(i:Nat)(hn:n<2^i)(hr:2^i*m+n=r)(hb:r<18446744073709551616){x y:Int}(hx:x=((2^i*m:Nat):Int))(hy:y=(n:Int)):
 IntKind.u64.wrap ((BitVec.ofInt IntKind.u64.bits x|||BitVec.ofInt IntKind.u64.bits y).toNat)=(r:Int):=by
 subst hx;subst hy;rw[TE,Zy 64 _ _ (by omega) (by omega),Zz i hn,qcK];omega
section
variable{P:Program}{bl:List Nat}{ops:Array Oper}{K:St->Prop}{rest:List Oper}{nt:Nat}{t:List (Nat×Value)}{L:List aF}{d:Nat}{ty:TypeId}{pos:String}{af:Array Edge}{g:Option (Nat×Bool)}{x y:Operand}
def qix{op:BinOp}{T U:Nat}{k:IntKind}{m n r:Int}(hd:Nat.blt d nt=true)(hg:ax ops ⟨some d,.binOp op T x y U,ty,pos,af,g⟩ t=some true)(hx:ev t x=some (.int k m))(hy:ev t y=some (.int k n))(hn:n≠0)
 (hr:(match op with| .quo=>some (k.wrap (m.tdiv n))| .rem=>some (m.tmod n)|_=>none)=some r)(h:aX P bl ops rest ⟨nt,(d,.int k r)::t,L⟩ K):
 aX P bl ops (⟨some d,.binOp op T x y U,ty,pos,af,g⟩::rest) ⟨nt,t,L⟩ K:=
 fM hd hg rfl (fun B a w hrel=>by
 have h1:=hrel.ev hx;have h2:=hrel.ev hy;cases op<;>simp at hr<;>subst hr<;>simp[execOp,h1,h2,eqGuard,binOp,Op.intDiv,hn]) h
def TG{T U:Nat}{k:IntKind}{m n r:Int}(hd:Nat.blt d nt=true)(hg:ax ops ⟨some d,.binOp .or T x y U,ty,pos,af,g⟩ t=some true)(hx:ev t x=some (.int k m))(hy:ev t y=some (.int k n))
 (hr:k.wrap ((BitVec.ofInt k.bits m|||BitVec.ofInt k.bits n).toNat)=r)(h:aX P bl ops rest ⟨nt,(d,.int k r)::t,L⟩ K):
 aX P bl ops (⟨some d,.binOp .or T x y U,ty,pos,af,g⟩::rest) ⟨nt,t,L⟩ K:=
 fM hd hg rfl (fun B a w hrel=>by
 have h1:=hrel.ev hx;have h2:=hrel.ev hy;subst hr;simp[execOp,h1,h2,eqGuard,binOp,Op.intBits]) h
def qcM{op:BinOp}{T U:Nat}{k k':IntKind}{m n r:Int}(hd:Nat.blt d nt=true)(hg:ax ops ⟨some d,.binOp op T x y U,ty,pos,af,g⟩ t=some true)(hx:ev t x=some (.int k m))(hy:ev t y=some (.int k' n))(hn:¬n<0)
 (hr:(match op with| .shl=>some (k.wrap (m*2^(min n.toNat k.bits)))| .shr=>some (m.fdiv (2^(min n.toNat k.bits)))|_=>none)=some r)(h:aX P bl ops rest ⟨nt,(d,.int k r)::t,L⟩ K):
 aX P bl ops (⟨some d,.binOp op T x y U,ty,pos,af,g⟩::rest) ⟨nt,t,L⟩ K:=
 fM hd hg rfl (fun B a w hrel=>by
 have h1:=hrel.ev hx;have h2:=hrel.ev hy;cases op<;>simp at hr<;>subst hr<;>simp[execOp,h1,h2,eqGuard,binOp,Op.shift,hn]) h
def qgd{S D:Nat}{k k':IntKind}{n r:Int}(hS:P.underlying S=some (.int k))(hD:P.underlying D=some (.int k'))(hd:Nat.blt d nt=true)(hg:ax ops ⟨some d,.convert S D x,ty,pos,af,g⟩ t=some true)(hx:ev t x=some (.int k n))(hr:k'.wrap n=r)
 (h:aX P bl ops rest ⟨nt,(d,.int k' r)::t,L⟩ K):aX P bl ops (⟨some d,.convert S D x,ty,pos,af,g⟩::rest) ⟨nt,t,L⟩ K:=
 fM hd hg rfl (fun B a w hrel=>by
 have h1:P.intKind D=k':=(by simp[Program.intKind,hD]);have h2:=run_convert_int (P:=P) w S D k n (by rw[hS];rfl) (by rw[h1];exact hD);rw[h1,hr] at h2;simp[execOp,hrel.ev hx,h2]) h
def yT{T:Nat}{s:ByteArray}{k:IntKind}{i:Int}{b:UInt8}{r:Int}(hT:P.underlying T=some .string)(hd:Nat.blt d nt=true)(hg:ax ops ⟨some d,.index T x y,ty,pos,af,g⟩ t=some true)(hx:ev t x=some (.string s))(hy:ev t y=some (.int k i))(hi:0<=i)
 (hb:s.data.toList[i.toNat]? =some b)(hr:(b.toNat:Int)=r)(h:aX P bl ops rest ⟨nt,(d,.int .u8 r)::t,L⟩ K):aX P bl ops (⟨some d,.index T x y,ty,pos,af,g⟩::rest) ⟨nt,t,L⟩ K:=
 fM hd hg rfl (fun B a w hrel=>by
 have h1:=run_index_string (P:=P) w T s k i hT;obtain⟨hlt,he⟩:=List.getElem?_eq_some_iff.1 hb;have hlt':i.toNat<s.size:=(by simpa using hlt);rw[dif_pos ⟨hi,by omega⟩] at h1;have h2:s[i.toNat]'hlt'=b:=he;rw[h2,hr] at h1;simp[execOp,hrel.ev hx,hrel.ev hy,h1]) h
def qge{T e:Nat}{b:Option Nat}{off len cap:Nat}(hT:P.underlying T=some (.slice e))(hd:Nat.blt d nt=true)(hg:ax ops ⟨some d,.call {callee:= .builtin .len,args:= #[x],argTypes:= #[T]},ty,pos,af,g⟩ t=some true)(hx:ev t x=some (aI b off len cap))(h:aX P bl ops rest ⟨nt,(d,.int .i64 len)::t,L⟩ K):
 aX P bl ops (⟨some d,.call {callee:= .builtin .len,args:= #[x],argTypes:= #[T]},ty,pos,af,g⟩::rest) ⟨nt,t,L⟩ K:=
 fM hd hg rfl (fun B a w hrel=>by
 have he:P.elem T=e:=(by simp[Program.elem,hT]);have:=run_len_slice (P:=P) w T ty (b.map fun g=>⟨g,off,none⟩) len cap (by rw[he];exact hT);have h2:=hrel.ev hx;unfold aI at h2;simp[execOp,resolve,invoke,builtin,h2,this,goInt]) h
def au{T e:Nat}{k:IntKind}{i:Int}{b:aF}{off len cap:Nat}{inf:TI}(kk off':Nat)(hT:P.underlying T=some (.slice e))(hinf:dU P e inf=true)(hd:Nat.blt d nt=true)(hg:ax ops ⟨some d,.indexAddr T x y,ty,pos,af,g⟩ t=some true)
 (hk:(blank bl L)[kk]? =some b)(hx:ev t x=some (aI b.base off len cap))(hy:ev t y=some (.int k i))(h0:0<=i)(h1:i<len)(hb:b.cs≠[])(ho:off+i.toNat*inf.size=off')
 (h:aX P bl ops rest ⟨nt,(d,b.at off')::t,L⟩ K):aX P bl ops (⟨some d,.indexAddr T x y,ty,pos,af,g⟩::rest) ⟨nt,t,L⟩ K:=
 fM hd hg rfl (fun B a w hrel=>by
 have he:P.elem T=e:=(by simp[Program.elem,hT]);have h2:=hrel.ev hx;have h3:=hrel.ev hy;cases hbb:b.base with
 |none=>exact absurd ((hrel.mem.blk kk b hk).2 hbb).1 hb
 |some gg=>
  rw[hbb] at h2;have:=run_indexAt_slice (P:=P) w T ⟨gg,off,none⟩ len cap k i (by rw[he];exact hT);rw[if_pos ⟨h0,h1⟩,he,pX hinf w] at this;simp only[Result.andThen_ok,kJ,ho] at this;unfold aI at h2;simp only[Option.map_some] at h2;unfold aF.at;rw[hbb];simp[execOp,h2,h3,this]) h
def rZ{T e N:Nat}{k:IntKind}{i:Int}{gg:Nat}{off:Nat}{inf:TI}(off':Nat)(hT:P.underlying T=some (.array N e))(hinf:dU P e inf=true)(hd:Nat.blt d nt=true)(hg:ax ops ⟨some d,.indexAddr T x y,ty,pos,af,g⟩ t=some true)
 (hx:ev t x=some (.pointer (some ⟨gg,off,none⟩)))(hy:ev t y=some (.int k i))(h0:0<=i)(h1:i<N)(ho:off+i.toNat*inf.size=off')
 (h:aX P bl ops rest ⟨nt,(d,.pointer (some ⟨gg,off',none⟩))::t,L⟩ K):aX P bl ops (⟨some d,.indexAddr T x y,ty,pos,af,g⟩::rest) ⟨nt,t,L⟩ K:=
 fM hd hg rfl (fun B a w hrel=>by
 have he:P.elem T=e:=(by simp[Program.elem,hT]);have hN:P.arrayLen T=N:=(by simp[Program.arrayLen,hT]);have h2:=hrel.ev hx;have h3:=hrel.ev hy;have:=run_indexAt_array (P:=P) w T ⟨gg,off,none⟩ k i (by rw[he,hN];exact hT);rw[hN,if_pos ⟨h0,h1⟩,he,pX hinf w] at this;simp only[Result.andThen_ok,kJ,ho] at this;simp[execOp,h2,h3,this]) h
def Oa{T:Nat}{b:aF}{v:Value}(k off:Nat)(hi:dU P T ⟨false,1,[]⟩=true)(hd:Nat.blt d nt=true)(hg:ax ops ⟨some d,.load T x,ty,pos,af,g⟩ t=some true)(hk:(blank bl L)[k]? =some b)(hx:ev t x=some (b.at off))
 (hv:b.cs[off]? =some v)(h:aX P bl ops rest ⟨nt,(d,v)::t,L⟩ K):
 aX P bl ops (⟨some d,.load T x,ty,pos,af,g⟩::rest) ⟨nt,t,L⟩ K:=by
 obtain⟨h1,h2⟩:=List.getElem?_eq_some_iff.1 hv;refine fM hd hg rfl (Zi (s:=St.bk ⟨nt,t,L⟩ bl) (vs:=[v]) rfl k hk hx hi ?_ rfl (by simp) rfl) h;rw[List.drop_eq_getElem_cons h1,h2];rfl
def BI{l:List Value}{i:Nat}{v:Value}(h:i<l.length):l.take i++[v]++l.drop (i+1)=l.set i v:=by
 rw[List.set_eq_take_append_cons_drop,if_pos h];simp
def ZA(hbl:Fa bl=false){T:Nat}{b:aF}{v:Value}(k off:Nat)(L':List aF)(cs':List Value)(hi:dU P T ⟨false,1,[]⟩=true)(hg:ax ops ⟨none,.store T x y,ty,pos,af,g⟩ t=some true)(hk:L[k]? =some b)(ho:b.own=true)(hbb:b.base.isSome=true)(hx:ev t x=some (b.at off))
 (hy:ev t y=some v)(hv:v.cells= #[v])(h1:v.oneCell'=true)(hfit:off<b.cs.length)(hcs:b.cs.set off v=cs')(hL:L.set k {b with cs:=cs'}=L')
 (h:aX P bl ops rest ⟨nt,t,L'⟩ K):aX P bl ops (⟨none,.store T x y,ty,pos,af,g⟩::rest) ⟨nt,t,L⟩ K:=
 Vm hg rfl rfl (by
 have h4:=BI (v:=v) hfit;rw[hcs] at h4;have h5:=DJ (P:=P) (o:=⟨none,.store T x y,ty,pos,af,g⟩) (s:=⟨nt,t,L⟩) rfl k hk ho hx hbb hy hi (by rw[hv];rfl) (by decide) hfit (by rw[hv];simp[h1]);rw[hv] at h5;have h6:Za P ⟨none,.store T x y,ty,pos,af,g⟩ ⟨nt,t,L⟩ (L.set k {b with cs:=b.cs.take off++[v]++b.cs.drop (off+1)}):=h5
 rw[h4,hL] at h6;exact h6) (fun h2=>by rw[hbl] at h2;cases h2) h
def Xy{T:Nat}{b:aF}{v:Value}(k off:Nat)(L':List aF)(cs':List Value)(hi:dU P T ⟨false,1,[]⟩=true)(hg:ax ops ⟨none,.store T x y,ty,pos,af,g⟩ t=some true)(hk:L[k]? =some b)(ho:b.own=true)(hbb:b.base.isSome=true)(hx:ev t x=some (b.at off))
 (hy:ev t y=some v)(hv:v.cells= #[v])(h1:v.oneCell'=true)(hfit:off<b.cs.length)(hcs:b.cs.set off v=cs')(hL:L.set k {b with cs:=cs'}=L')(hbl:blank bl L'=blank bl L)
 (h:aX P bl ops rest ⟨nt,t,L'⟩ K):aX P bl ops (⟨none,.store T x y,ty,pos,af,g⟩::rest) ⟨nt,t,L⟩ K:=
 Vm hg rfl rfl (by
 have h4:=BI (v:=v) hfit;rw[hcs] at h4;have h5:=DJ (P:=P) (o:=⟨none,.store T x y,ty,pos,af,g⟩) (s:=⟨nt,t,L⟩) rfl k hk ho hx hbb hy hi (by rw[hv];rfl) (by decide) hfit (by rw[hv];simp[h1]);rw[hv] at h5;have h6:Za P ⟨none,.store T x y,ty,pos,af,g⟩ ⟨nt,t,L⟩ (L.set k {b with cs:=b.cs.take off++[v]++b.cs.drop (off+1)}):=h5
 rw[h4,hL] at h6;exact h6) (fun _=>hbl) h
def DR{T e gg:Nat}{k:IntKind}{i:Int}{off len cap:Nat}{inf:TI}(off':Nat)(hT:P.underlying T=some (.slice e))(hinf:dU P e inf=true)(hd:Nat.blt d nt=true)(hg:ax ops ⟨some d,.indexAddr T x y,ty,pos,af,g⟩ t=some true)
 (hx:ev t x=some (aI (some gg) off len cap))(hy:ev t y=some (.int k i))(h0:0<=i)(h1:i<len)(ho:off+i.toNat*inf.size=off')
 (h:aX P bl ops rest ⟨nt,(d,.pointer (some ⟨gg,off',none⟩))::t,L⟩ K):aX P bl ops (⟨some d,.indexAddr T x y,ty,pos,af,g⟩::rest) ⟨nt,t,L⟩ K:=
 fM hd hg rfl (fun B a w hrel=>by
 have he:P.elem T=e:=(by simp[Program.elem,hT]);have h2:=hrel.ev hx;have h3:=hrel.ev hy;have:=run_indexAt_slice (P:=P) w T ⟨gg,off,none⟩ len cap k i (by rw[he];exact hT);rw[if_pos ⟨h0,h1⟩,he,pX hinf w] at this;simp only[Result.andThen_ok,kJ,ho] at this;unfold aI at h2;simp only[Option.map_some] at h2;simp[execOp,h2,h3,this]) h
end
end Go.Via
namespace Go.Via
variable[Mo]
open Go Go.RowKit
theorem xI:∀(vs:List Value) (w:World) (g o:Nat) (cur:Array Value) (t:TypeId),w.heap[g]? =some (.cells cur t (0,0))->o+vs.length<=cur.size->
 w.setCells g o vs=w.setRow g (cur.toList.take o++vs++cur.toList.drop (o+vs.length)).toArray
 |[],w,g,o,cur,t,hg,hl=>by
  have e:(cur.toList.take o++[]++cur.toList.drop (o+([]:List Value).length)).toArray=cur:=(by simp);rw[e,World.setCells];have hlt:g<w.heap.size:=(Array.getElem?_eq_some_iff.1 hg).1;have hv:w.heap[g]= .cells cur t (0,0):=(Array.getElem?_eq_some_iff.1 hg).2;have key:w.heap=(w.setRow g cur).heap:=by
   apply Array.ext
   ·simp[World.setRow]
   ·intro i h1 h2;have:(w.setRow g cur).heap[i]? =w.heap[i]? :=by
     by_cases e:i=g
     ·subst e;rw[setRow_heap w i cur cur t (0,0) hg,hg]
     ·exact setRow_other w g i cur e
    rw[Array.getElem?_eq_getElem h1,Array.getElem?_eq_getElem h2] at this;exact(Option.some.inj this).symm
  show w={w with heap:=(w.setRow g cur).heap}
  rw[<-key]
 |v::r,w,g,o,cur,t,hg,hl=>by
  simp only[List.length_cons] at hl;rw[World.setCells,setCell_eq_setRow w g o cur t (0,0) v hg,xI r _ g (o+1) (cur.setIfInBounds o v) t (setRow_heap w g cur _ t (0,0) hg) (by simp;omega),setRow_setRow]
  congr 1
  have e:=list_seg_step cur.toList o v r (by simp at hl ⊢;omega)
  simpa[Array.toList_setIfInBounds,Nat.add_assoc] using e
def aT.swapIn{B:Bs}{w:World}{L:List aF}{b:aF}(h:aT B (L++[b]) w)(k:Nat):aT B (L.set k b) w:=by
 by_cases hkl:k<L.length
 ·have hb:∀(m:Nat) (c:aF),(L.set k b)[m]? =some c->m<L.length∧(L++[b])[if m=k then L.length else m]? =some c:=fun m c hm=>by
   have hml:m<L.length:=(by have:=(List.getElem?_eq_some_iff.1 hm).1;simpa using this);refine⟨hml,?_⟩
   by_cases e:m=k
   ·subst e;rw[List.getElem?_set_self hkl] at hm;cases hm;simp
   ·rw[List.getElem?_set_ne (Ne.symm e)] at hm;rw[if_neg e,List.getElem?_append_left hml];exact hm
  refine⟨h.bel,fun m c hm=>h.blk _ c (hb m c hm).2,fun i j g bi bj hij hi hj ho hg hgj=>?_,h.grp.mem fun c hc=>by obtain⟨m,hm⟩:=List.mem_iff_getElem?.1 hc;exact List.mem_of_getElem? (hb m c hm).2⟩
  obtain⟨hi1,hi2⟩:=hb i bi hi;obtain⟨hj1,hj2⟩:=hb j bj hj;refine h.apart _ _ g bi bj ?_ hi2 hj2 ho hg hgj
  split<;>split<;>omega
 ·rw[List.set_eq_of_length_le (by omega)];exact h.take
def aT.mono{B:Bs}{w:World}{L L':List aF}(h:aT B L w)(hl:∀(k:Nat) (b':aF),L'[k]? =some b'->∃b,L[k]? =some b∧b'.le b):aT B L' w:=by
 refine⟨h.bel,fun k b hk=>?_,fun i j g bi bj hij hi hj ho hg hgj=>?_,h.grp.sub (fun b hb hn=>?_) (fun c hc ho g hg=>?_)⟩
 rotate_left 2
 ·obtain⟨k,hk⟩:=List.mem_iff_getElem?.1 hb;obtain⟨c,h2,h3⟩:=hl k b hk;exact .inr ⟨c,List.mem_of_getElem? h2,by rw[<-h3.1];exact hn,h3.2.1.symm,h3.2.2.2.2⟩
 ·obtain⟨k,hk⟩:=List.mem_iff_getElem?.1 hc;obtain⟨c',h2,h3⟩:=hl k c hk;exact⟨c',List.mem_of_getElem? h2,h3.2.2.2.2 ho,by rw[<-h3.1];exact hg⟩
 ·obtain⟨c,h2,h3⟩:=hl k b hk;obtain⟨a1,a2⟩:=h.blk k c h2;refine⟨fun g hg=>(a1 g (by rw[<-h3.1];exact hg)).le h3,fun hn=>?_⟩
  obtain⟨b1,b2⟩:=a2 (by rw[<-h3.1];exact hn);obtain⟨_,_,l3,⟨q,l4⟩,_⟩:=h3;exact⟨by rw[l4,b1];simp,by rw[l3];exact b2⟩
 ·obtain⟨ci,h2,h3⟩:=hl i bi hi;obtain⟨cj,g2,g3⟩:=hl j bj hj;exact h.apart i j g ci cj hij h2 g2 (h3.2.2.2.2 ho) (by rw[<-h3.1];exact hg) (by rw[<-g3.1];exact hgj)
theorem aT.last{B:Bs}{w:World}{L:List aF}{b b':aF}(h:aT B (L++[b]) w)(hl:b'.le b):aT B (L++[b']) w:=h.mono fun k c hk=>by
 rw[List.getElem?_append] at hk ⊢
 split at hk
 ·rename_i h1;rw[if_pos h1];exact⟨c,hk,c.le_refl⟩
 ·rename_i h1
  rw[if_neg h1];cases hq:k-L.length with
  |zero=>rw[hq] at hk;simp at hk;subst hk;exact⟨b,by simp,hl⟩
  |succ q=>rw[hq] at hk;simp at hk
structure AR(need s:Nat) where
 g:Nat
 n:Nat
 cap:Nat
 h:need<=cap
 hn:cap*s<=n
section
variable{P:Program}{bl:List Nat}{ops:Array Oper}{K:St->Prop}{rest:List Oper}{nt:Nat}{t:List (Nat×Value)}{L:List aF}{d:Nat}{ty:TypeId}{pos:String}{af:Array Edge}{g:Option (Nat×Bool)}{x y:Operand}
def DT{T e:Nat}{b:Option Nat}{len cap:Nat}{k:IntKind}{h':Int}{inf:TI}(len':Nat)(hT:P.underlying T=some (.slice e))(hinf:dU P e inf=true)(hd:Nat.blt d nt=true)(hg:ax ops ⟨some d,.slice T x none (some y) none,ty,pos,af,g⟩ t=some true)(hx:ev t x=some (aI b 0 len cap))(hy:ev t y=some (.int k h'))(h0:0<=h')(h1:h'<=cap)(hl:h'.toNat=len')
 (h:aX P bl ops rest ⟨nt,(d,aI b 0 len' cap)::t,L⟩ K):aX P bl ops (⟨some d,.slice T x none (some y) none,ty,pos,af,g⟩::rest) ⟨nt,t,L⟩ K:=
 fM hd hg rfl (fun B a w hrel=>by
 have he:P.elem T=e:=(by simp[Program.elem,hT]);have hT':P.underlying T=some (.slice (P.elem T)):=(by rw[he];exact hT);have h2:=hrel.ev hx;have h3:=hrel.ev hy;unfold aI at h2;have r1:=run_sliceAt_slice (P:=P) w T (.slice (b.map fun g=>⟨g,0,none⟩) len cap) none (some (.int k h')) none hT';rw[run_slice_h (P:=P) w T (b.map fun g=>⟨g,0,none⟩) len cap hT' k h' h0 h1,he,pX hinf w] at r1;simp only[Result.andThen_ok] at r1;have e1:sliced (b.map fun g=>(⟨g,0,none⟩:Addr)) 0 h'.toNat cap inf.size=aI b 0 len' cap:=by
  unfold sliced aI;rw[hl];cases b<;>simp[kJ]
 rw[e1] at r1;simp[execOp,h2,h3,r1]) h
def P7{T e:Nat}{k:IntKind}{c:Nat}{inf:TypeInfo}{z:Value}{m:Int}(hem:e<bW)(cs:List Value)(mk:Nat->List aF)(hT:P.underlying T=some (.slice e))(hi:P.info? e=some inf)(hz:inf.zero=some z)(hs:inf.size=1)(hz1:z.cells= #[z])(hd:Nat.blt d nt=true)
 (hg:ax ops ⟨some d,.makeSlice T x y,ty,pos,af,g⟩ t=some true)(hx:ev t x=some (.int k m))(hy:ev t y=some (.int k m))(hm:m=(c:Int))(hb:inf.bytes<=512)(hc:c<=137438953472)(hcs:List.replicate c z=cs)(hL:∀b,L++[⟨some b,e,cs,c,true⟩]=mk b)
 (h:∀b,aX P bl ops rest ⟨nt,(d,aI (some b) 0 c c)::t,mk b⟩ K):aX P bl ops (⟨some d,.makeSlice T x y,ty,pos,af,g⟩::rest) ⟨nt,t,L⟩ K:=
 LH hd hg rfl rfl (X:=Nat) (nx:=fun b=>⟨nt,(d,aI (some b) 0 c c)::t,mk b⟩) (fun hd'=>I4 fun B a w hr=>by
 subst hm;have hbb:inf.bytes*c<=512*137438953472:=Nat.mul_le_mul hb hc;have r1:=run_make (P:=P) w T e inf z hT hi hz k k (c:Int) (c:Int) (by omega) (Int.le_refl _) (by
 have:((inf.bytes*c:Nat):Int)<=281474976710656:=by omega
 rwa [Int.natCast_mul] at this) (by omega)
 simp only[Int.toNat_natCast,hs,Nat.mul_one,hz1] at r1;have e1:madeCells #[z] c=(List.replicate c z).toArray:=by
  unfold madeCells
  apply Array.ext
  ·simp
  ·intro i h1 h2;simp[Nat.mod_one]
 rw[e1] at r1;refine⟨aI (some w.heap.size) 0 c c,w.alloc (.cells (List.replicate c z).toArray e),w.heap.size,by
 have r2:(execOp a.eval ⟨some d,.makeSlice T x y,ty,pos,af,g⟩).run P w=((Instr.makeSlice T (.int k (c:Int)) (.int k (c:Int))).run P w).andThen fun v w=> .ok (.value v) w:=by
  simp[execOp,hr.ev hx,hr.ev hy,Sem.run_bind]
 rw[r2,r1];rfl,?_⟩
 have h1:=hr.mem.alloc e (List.replicate c z).toArray hem;simp only[List.size_toArray,List.length_replicate] at h1;rw[<-hL,<-hcs];exact hr.put hd' h1) fun b=>h b
def P8{T e:Nat}{inf:TypeInfo}{z:Value}{b:aF}{len cap b2o n2 c2:Nat}{b2:aF}(hem:e<bW)(k k2:Nat)(mk:AR (len+n2) inf.size->List aF)(hT:P.underlying T=some (.slice e))(hi:P.info? e=some inf)(hz:inf.zero=some z)(hs:0<inf.size)(hzs:z.cells.size=inf.size)(hbytes:inf.bytes<=1024)(hd:Nat.blt d nt=true)
 (hg:ax ops ⟨some d,.call {callee:= .builtin .append,args:= #[x,y],argTypes:= #[T,T]},ty,pos,af,g⟩ t=some true)
 (hk:L[k]? =some b)(ho:b.own=true)(he:b.e=e)(hlen:b.cs.length=len*inf.size)(hcap:len<=cap)(hn:cap*inf.size<=b.n)(hx:ev t x=some (aI b.base 0 len cap))
 (hk2:L[k2]? =some b2)(hlen2:b2.cs.length=n2*inf.size)(hpos:0<n2)(hb2:b2.base=some b2o)(hy:ev t y=some (aI (some b2o) 0 n2 c2))(h1:∀v∈b2.cs,v.oneCell'=true)(hmax:len+n2<=17179869184)
 (hL:∀r,L.set k ⟨some r.g,e,b.cs++b2.cs,r.n,true⟩=mk r)
 (h:∀r:AR (len+n2) inf.size,aX P bl ops rest ⟨nt,(d,aI (some r.g) 0 (len+n2) r.cap)::t,mk r⟩ K):
 aX P bl ops (⟨some d,.call {callee:= .builtin .append,args:= #[x,y],argTypes:= #[T,T]},ty,pos,af,g⟩::rest) ⟨nt,t,L⟩ K:=
 LH hd hg rfl rfl (X:=AR (len+n2) inf.size) (nx:=fun r=>⟨nt,(d,aI (some r.g) 0 (len+n2) r.cap)::t,mk r⟩) (fun hd'=>I4 fun B a w hr=>by
 have hx':=hr.ev hx;have hy':=hr.ev hy
 have hnews:∀j u,b2.cs[j]? =some u->w.cell? ((⟨b2o,0,none⟩:Addr).add j)=some u:=fun j u hj=>by
  obtain⟨g',hg',h2⟩:=hr.mem.cell hk2 hj;rw[hb2] at hg';cases hg';rw[kJ,Nat.zero_add];exact h2
 have hsrc:=Src.ofSlice (P:=P) w (size:=inf.size) hT ⟨b2o,0,none⟩ n2 c2 b2.cs hlen2 hnews h1;have fin:∀v w',(Builtin.append_ #[T,T] ty #[aI b.base 0 len cap,aI (some b2o) 0 n2 c2]).run P w= .ok v w'->(execOp a.eval ⟨some d,.call {callee:= .builtin .append,args:= #[x,y],argTypes:= #[T,T]},ty,pos,af,g⟩).run P w= .ok (.value v) w':=fun v w' hv=>by
  simp[execOp,resolve,invoke,builtin,hx',hy',hv]
 by_cases hroom:len+n2<=cap
 ·
  obtain⟨gg,hgg⟩:∃gg,b.base=some gg:=by
   cases hbb:b.base with
   |some gg=>exact⟨gg,rfl⟩
   |none=>
    have:=((hr.mem.blk k b hk).2 hbb).2;have h3:1*1<=cap*inf.size:=Nat.mul_le_mul (by omega) hs;omega
  obtain⟨cur,⟨e',fr,c1,cfr,_⟩,c2',c3⟩:=((hr.mem.blk k b hk).1 gg hgg).cells (.inl (by
 have h3:1*1<=cap*inf.size:=Nat.mul_le_mul (by omega) hs;omega))
  obtain⟨rfl,rfl⟩:=cfr ho;have hroomc:(len+n2)*inf.size<=cap*inf.size:=Nat.mul_le_mul_right _ hroom;have hsum:(len+n2)*inf.size=len*inf.size+n2*inf.size:=Nat.add_mul ..;have hfit:0+len*inf.size+b2.cs.length<=cur.size:=by rw[hlen2];omega
  have r1:=run_append_room_src (P:=P) w T T ty e inf hT hi gg 0 len cap (aI (some b2o) 0 n2 c2) n2 b2.cs hsrc hroom
   (fun j hj=>by
 rw[cell_of_row w gg _ cur b.e (0,0) c1];rw[Array.getElem?_eq_getElem (by omega)];rfl)
   (fun j hj=>by simp[World.frozen?,c1])
  rw[xI b2.cs w gg _ cur b.e c1 hfit] at r1;refine⟨_,_,(⟨gg,b.n,cap,hroom,hn⟩:AR (len+n2) inf.size),fin _ _ (by unfold aI at r1 ⊢;rw[hgg];exact r1),?_⟩;refine hr.put hd' ?_;rw[<-hL];have hcur:cur.toList.take (0+len*inf.size)=b.cs:=by rw[Nat.zero_add,<-hlen];exact c3
  have h5:=hr.mem.set hk ho hgg (cur.toList.take (0+len*inf.size)++b2.cs++cur.toList.drop (0+len*inf.size+b2.cs.length)).toArray (b.cs++b2.cs)
   (by simp only[List.size_toArray,List.length_append,List.length_take,List.length_drop,Array.length_toList];omega)
   (by
 rw[hcur];simp only[List.append_assoc];rw[List.length_append,<-List.append_assoc,<-List.length_append];exact List.take_left)
  rw[hgg] at h5;rw[ho] at h5;rw[he] at h5;exact h5
 ·
  have hold:(Builtin.firstCells inf.size len (aI b.base 0 len cap)).run P w.drew= .ok b.cs.toArray w.drew:=by
   cases hbb:b.base with
   |none=>
    have:=((hr.mem.blk k b hk).2 hbb).1;rw[this];exact run_firstCells_none w.drew inf.size len len cap
   |some gg=>
    refine run_firstCells_some (P:=P) w.drew inf.size len ⟨gg,0,none⟩ len cap b.cs hlen (fun j v hj=>?_);obtain⟨g',hg',h2⟩:=hr.mem.cell hk hj;rw[hbb] at hg';cases hg';rw[kJ,Nat.zero_add];exact h2
  have hge:=grownCap_ge w (len+n2) cap e;have hbb:(len+n2)*inf.bytes<=17179869184*1024:=Nat.mul_le_mul hmax hbytes;have hfit:Builtin.nextslicecap (len+n2) cap*inf.bytes<=281474976710656:=growslice_fits (by omega) (by omega);have r1:=run_append_grow_src (P:=P) w T T ty e inf z hT hi hz (b.base.map fun g=>⟨g,0,none⟩) len cap b.cs hold (aI (some b2o) 0 n2 c2) n2 b2.cs hsrc (by omega) (by omega) hfit;refine⟨_,_,(⟨w.heap.size,(((b.cs++b2.cs).toArray++Builtin.zeroCells z.cells (grownCap w (len+n2) cap e-(len+n2))):Array Value).size,grownCap w (len+n2) cap e,hge,?_⟩:AR (len+n2) inf.size),fin _ _ r1,?_⟩
  ·have hz':(Builtin.zeroCells z.cells (grownCap w (len+n2) cap e-(len+n2))).size=(grownCap w (len+n2) cap e-(len+n2))*inf.size:=by
    unfold Builtin.zeroCells;simp[hzs]
   have hm:(grownCap w (len+n2) cap e-(len+n2))*inf.size+(len+n2)*inf.size=grownCap w (len+n2) cap e*inf.size:=by
    rw[<-Nat.add_mul,Nat.sub_add_cancel hge]
   have hsum:(len+n2)*inf.size=len*inf.size+n2*inf.size:=Nat.add_mul ..;rw[Array.size_append,hz'];simp only[List.size_toArray,List.length_append];omega
  ·refine hr.put hd' ?_;rw[<-hL];have h5:=(hr.mem.drew.alloc e ((b.cs++b2.cs).toArray++Builtin.zeroCells z.cells (grownCap w (len+n2) cap e-(len+n2))) hem);refine(h5.last (b':=⟨some w.heap.size,e,b.cs++b2.cs,((b.cs++b2.cs).toArray++Builtin.zeroCells z.cells (grownCap w (len+n2) cap e-(len+n2)):Array Value).size,true⟩) ⟨rfl,rfl,rfl,⟨(b.cs++b2.cs).length,?_⟩,fun _=>rfl⟩).swapIn k
   rw[Array.toList_append];exact(List.take_left (l₁:=b.cs++b2.cs)).symm) fun r=>h r
end
end Go.Via
namespace Go.Via
variable[Mo]
open Go Go.RowKit
def ZB(l:List Nat):ByteArray:=⟨(l.map UInt8.ofNat).toArray⟩
theorem Xz(l:List Nat):strOfNums (l.map fun(n:Nat)=>(n:Int))=ZB l:=by simp[strOfNums,ZB]
section
variable{P:Program}{bl:List Nat}{ops:Array Oper}{K:St->Prop}{rest:List Oper}{nt:Nat}{t:List (Nat×Value)}{L:List aF}{d:Nat}{ty:TypeId}{pos:String}{af:Array Edge}{g:Option (Nat×Bool)}{x y:Operand}
def Ob{T n nn:Nat}{parts:List (Nat×Operand)}(ps:List (Nat×Value)){e:Nat}{cs:List Value}(mk:Nat->List aF)(hd:Nat.blt d nt=true)(hg:ax ops ⟨some d,.buildSlice T n parts.toArray,ty,pos,af,g⟩ t=some true)(hx:parts.map (fun p=>(p.1,ev t p.2))=ps.map (fun p=>(p.1,some p.2)))
 (hb:∀w,(Instr.buildSlice T n ps.toArray).run P w= .ok (.slice (some ⟨w.heap.size,0,none⟩) n n) (w.alloc (.cells cs.toArray e)))(hnn:cs.length=nn)(hL:∀b,L++[⟨some b,e,cs,nn,true⟩]=mk b)(h:∀b,aX P bl ops rest ⟨nt,(d,aI (some b) 0 n n)::t,mk b⟩ K)(hem:Nat.blt e bW=true:=by rfl):
 aX P bl ops (⟨some d,.buildSlice T n parts.toArray,ty,pos,af,g⟩::rest) ⟨nt,t,L⟩ K:=
 Zn (e:=e) (cs:=cs.toArray) hd hg rfl (by
 show(jU t parts).bind _=_;rw[Cc hx];exact Y8 (by simpa using hem) hb) fun b=>by
  subst hnn;have:=h b;rw[<-hL b] at this;exact this
def ZC{T e N gg:Nat}{k:IntKind}{h':Int}{inf:TI}(len':Nat)(hT:P.underlying T=some (.array N e))(hinf:dU P e inf=true)(hd:Nat.blt d nt=true)(hg:ax ops ⟨some d,.slice T x none (some y) none,ty,pos,af,g⟩ t=some true)(hx:ev t x=some (.pointer (some ⟨gg,0,none⟩)))(hy:ev t y=some (.int k h'))(h0:0<=h')(h1:h'<=N)(hl:h'.toNat=len')
 (h:aX P bl ops rest ⟨nt,(d,aI (some gg) 0 len' N)::t,L⟩ K):aX P bl ops (⟨some d,.slice T x none (some y) none,ty,pos,af,g⟩::rest) ⟨nt,t,L⟩ K:=
 fM hd hg rfl (fun B a w hrel=>by
 have he:P.elem T=e:=(by simp[Program.elem,hT]);have hN:P.arrayLen T=N:=(by simp[Program.arrayLen,hT]);have h2:=hrel.ev hx;have h3:=hrel.ev hy;have r1:=run_sliceAt_array_h (P:=P) w T ⟨gg,0,none⟩ (by rw[he,hN];exact hT) k h' h0 (by rw[hN];exact h1);rw[he,pX hinf w] at r1;simp only[Result.andThen_ok] at r1;have e1:slicedAt (⟨gg,0,none⟩:Addr) 0 h'.toNat (P.arrayLen T) inf.size=aI (some gg) 0 len' N:=by
  unfold slicedAt aI;rw[hl,hN];simp[kJ]
 rw[e1] at r1;simp[execOp,h2,h3,r1]) h
def TJ{T:Nat}{s:ByteArray}{k:IntKind}{l:Int}{r:ByteArray}(hT:P.underlying T=some .string)(hd:Nat.blt d nt=true)(hg:ax ops ⟨some d,.slice T x (some y) none none,ty,pos,af,g⟩ t=some true)(hx:ev t x=some (.string s))(hy:ev t y=some (.int k l))(h0:0<=l)(h1:l<=s.size)(hr:s.extract l.toNat s.size=r)
 (h:aX P bl ops rest ⟨nt,(d,.string r)::t,L⟩ K):aX P bl ops (⟨some d,.slice T x (some y) none none,ty,pos,af,g⟩::rest) ⟨nt,t,L⟩ K:=
 fM hd hg rfl (fun B a w hrel=>by
 have h2:=hrel.ev hx;have h3:=hrel.ev hy;have r1:=run_sliceAt_string (P:=P) w T (.string s) (some (.int k l)) none none hT;rw[run_slice_string_l (P:=P) w T s hT k l h0 h1,hr] at r1;simp[execOp,h2,h3,r1]) h
def yU{S e D:Nat}{b:aF}{gg len cap:Nat}{l:List Nat}{r:ByteArray}(k:Nat)(hS:P.underlying S=some (.slice e))(he:P.underlying e=some (.int .u8))(hD:P.underlying D=some .string)(hd:Nat.blt d nt=true)(hg:ax ops ⟨some d,.convert S D x,ty,pos,af,g⟩ t=some true)
 (hk:(blank bl L)[k]? =some b)(hb:b.base=some gg)(hx:ev t x=some (aI (some gg) 0 len cap))(hcs:b.cs.take len=NV .u8 l)(hl:l.length=len)(hr:ZB l=r)
 (h:aX P bl ops rest ⟨nt,(d,.string r)::t,L⟩ K):aX P bl ops (⟨some d,.convert S D x,ty,pos,af,g⟩::rest) ⟨nt,t,L⟩ K:=
 fM hd hg rfl (fun B a w hrel=>by
 have h1:=run_convert_bytes_arg (P:=P) w S e hS he gg 0 len cap (l.map fun(n:Nat)=>(n:Int)) (by simpa using hl) (fun i hi=>by
 have hc:b.cs[i]? =some (.int .u8 ((l.map fun(n:Nat)=>(n:Int)).getD i 0)):=by
  have h2:(b.cs.take len)[i]? =(NV .u8 l)[i]? :=(by rw[hcs]);rw[List.getElem?_take,if_pos hi] at h2;rw[h2];have hil:i<l.length:=(by omega);simp[NV,List.getElem?_eq_getElem hil]
 obtain⟨g',hg',h2⟩:=hrel.mem.cell hk hc;rw[hb] at hg';cases hg';rw[Nat.zero_add];exact h2) D hD
 rw[Xz,hr] at h1;have h2:=hrel.ev hx;unfold aI at h2;simp only[Option.map_some] at h2;simp[execOp,h2,h1]) h
def qgf{T e:Nat}{b b2:aF}{gg len cap len2 cap2:Nat}{inf:TypeInfo}(k k2:Nat)(L':List aF)(cs':List Value)(hT:P.underlying T=some (.slice e))(hi:P.info? e=some inf)(hs:inf.size=1)(hd:Nat.blt d nt=true)
 (hg:ax ops ⟨some d,.call {callee:= .builtin .copy,args:= #[x,y],argTypes:= #[T,T]},ty,pos,af,g⟩ t=some true)(hk:L[k]? =some b)(ho:b.own=true)(hb:b.base=some gg)(hx:ev t x=some (aI (some gg) 0 len cap))
 (hk2:L[k2]? =some b2)(hy:ev t y=some (aI b2.base 0 len2 cap2))(hl2:b2.cs.length=len2)(hle:len2<=len)(hfit:len2<=b.cs.length)(h1:∀v∈b2.cs,v.oneCell'=true)(hcs:b2.cs++b.cs.drop len2=cs')(hL:L.set k {b with cs:=cs'}=L')
 (h:aX P bl ops rest ⟨nt,(d,.int .i64 len2)::t,L'⟩ K):aX P bl ops (⟨some d,.call {callee:= .builtin .copy,args:= #[x,y],argTypes:= #[T,T]},ty,pos,af,g⟩::rest) ⟨nt,t,L⟩ K:=
 LH hd hg rfl rfl (X:=Unit) (nx:=fun _=>⟨nt,(d,.int .i64 len2)::t,L'⟩) (fun hd'=>I4 fun B a w hr=>by
 have hx':=hr.ev hx;have hy':=hr.ev hy;have fin:∀v w',(Builtin.copy_ #[T,T] ty #[aI (some gg) 0 len cap,aI b2.base 0 len2 cap2]).run P w= .ok v w'->(execOp a.eval ⟨some d,.call {callee:= .builtin .copy,args:= #[x,y],argTypes:= #[T,T]},ty,pos,af,g⟩).run P w= .ok (.value v) w':=fun v w' hv=>by
  simp[execOp,resolve,invoke,builtin,hx',hy',hv]
 by_cases hz:b.n≠0∨b.cs≠[]
 case neg=>
  have hz2:b.cs=[]:=by
   by_cases h0:b.cs=[]
   ·exact h0
   ·exact absurd (.inr h0) hz
  have hl0:len2=0:=(by rw[hz2] at hfit;simpa using hfit);subst hl0;have h0:b2.cs=[]:=List.eq_nil_of_length_eq_zero hl2;refine⟨goInt 0,w,(),fin _ _ (by
 unfold aI;have hl:∀v:Nat,(loadCells ⟨v,0,none⟩ 0).run P w= .ok #[] w:=fun v=>run_loadCells_list w ⟨v,0,none⟩ [] (fun j u hj=>by simp at hj)
 cases b2.base<;>simp[Builtin.copy_,run_underlying hT,Builtin.lenOf,Builtin.firstCells,sizeOf,typeInfo,hi,storeCells,goInt,hl]),?_⟩
  have e1:L'=L:=by
   rw[<-hL,<-hcs,h0];simp only[List.nil_append,List.drop_zero];obtain⟨q1,q2⟩:=List.getElem?_eq_some_iff.1 hk;have:({b with cs:=b.cs}:aF)=b:=rfl
   rw[this,<-q2];exact List.set_getElem_self q1
  rw[e1];exact hr.put hd' hr.mem
 obtain⟨cur,⟨e',fr,c1,cfr,_⟩,c2,c3⟩:=((hr.mem.blk k b hk).1 gg hb).cells hz;obtain⟨rfl,rfl⟩:=cfr ho;have hcl:b.cs.length<=cur.size:=by
  have:=congrArg List.length c3;simp only[List.length_take,Array.length_toList] at this;omega
 cases hb2:b2.base with
 |none=>
  have h0:=((hr.mem.blk k2 b2 hk2).2 hb2).1;have hl0:len2=0:=(by rw[<-hl2,h0];rfl);subst hl0;refine⟨goInt 0,w,(),fin _ _ (by
 rw[hb2];unfold aI;simp[Builtin.copy_,run_underlying hT,Builtin.lenOf,Builtin.firstCells,sizeOf,typeInfo,hi,storeCells,goInt]),?_⟩
  have e1:L'=L:=by
   rw[<-hL,<-hcs,h0];simp only[List.nil_append,List.drop_zero];obtain⟨q1,q2⟩:=List.getElem?_eq_some_iff.1 hk;have:({b with cs:=b.cs}:aF)=b:=rfl
   rw[this,<-q2];exact List.set_getElem_self q1
  rw[e1];exact hr.put hd' hr.mem
 |some g2=>
  have hsrc:∀j v,b2.cs[j]? =some v->w.cell? ((⟨g2,0,none⟩:Addr).add j)=some v:=fun j u hj=>by
   obtain⟨g',hg',h2⟩:=hr.mem.cell hk2 hj;rw[hb2] at hg';cases hg';rw[kJ,Nat.zero_add];exact h2
  have r1:=run_copy_row (P:=P) w T T ty e gg 0 len cap ⟨g2,0,none⟩ len2 cap2 cur b.e b2.cs hT (by simp[hi,hs]) c1 (by rw[hl2];exact(Nat.min_eq_left hle).symm) hsrc (by omega) h1;refine⟨goInt b2.cs.length,_,(),fin _ _ (by rw[hb2];exact r1),?_⟩;rw[hl2];have h5:=hr.mem.set hk ho hb (cur.toList.take 0++b2.cs++cur.toList.drop (0+b2.cs.length)).toArray cs'
   (by simp only[List.size_toArray,List.length_append,List.length_take,List.length_drop,Array.length_toList];omega)
   (by
    rw[<-hcs];simp only[List.take_zero,List.nil_append,Nat.zero_add,hl2];rw[List.length_append,List.length_drop,hl2];rw[List.take_append,hl2];rw[List.take_of_length_le (by omega)]
    congr 1
    rw[<-c3];simp only[List.length_take,Array.length_toList];rw[List.drop_take]
    congr 1
    omega)
  rw[<-hL];rw[hl2] at h5;exact hr.put hd' h5) fun _=>h
def LK(P:Program)(e:Nat)(s:Nat)(z:Value):Prop:=((P.info? e).map fun inf=>(inf.size,Nat.ble inf.bytes 512,inf.zero))=some (s,true,some z)∧e<bW
def yV{e s:Nat}{z:Value}(h:LK P e s z):∃inf,P.info? e=some inf∧inf.zero=some z∧inf.size=s∧inf.bytes<=512:=by
 unfold LK at h;replace h:=h.1;cases hq:P.info? e with
 |none=>rw[hq] at h;cases h
 |some inf=>
  rw[hq] at h;simp only[Option.map_some,Option.some.injEq,Prod.mk.injEq] at h;obtain⟨h1,h2,h3⟩:=h;exact⟨inf,rfl,h3,h1,Nat.le_of_ble_eq_true h2⟩
def fC{T e:Nat}{k:IntKind}{c:Nat}{z:Value}{m:Int}(cs:List Value)(mk:Nat->List aF)(hT:P.underlying T=some (.slice e))(he:LK P e 1 z)(hd:Nat.blt d nt=true)
 (hg:ax ops ⟨some d,.makeSlice T x y,ty,pos,af,g⟩ t=some true)(hx:ev t x=some (.int k m))(hy:ev t y=some (.int k m))(hz1:z.cells= #[z])(hm:m=(c:Int))(hc:c<=137438953472)(hcs:List.replicate c z=cs)(hL:∀b,L++[⟨some b,e,cs,c,true⟩]=mk b)
 (h:∀b,aX P bl ops rest ⟨nt,(d,aI (some b) 0 c c)::t,mk b⟩ K):aX P bl ops (⟨some d,.makeSlice T x y,ty,pos,af,g⟩::rest) ⟨nt,t,L⟩ K:=by
 obtain⟨inf,h1,h2,h3,h5⟩:=yV he;exact P7 he.2 cs mk hT h1 h2 h3 hz1 hd hg hx hy hm h5 hc hcs hL h
def eG{T e s:Nat}{z:Value}{b:aF}{len cap b2o n2 c2:Nat}{b2:aF}(k k2:Nat)(mk:AR (len+n2) s->List aF)(hT:P.underlying T=some (.slice e))(hi:LK P e s z)(hd:Nat.blt d nt=true)
 (hg:ax ops ⟨some d,.call {callee:= .builtin .append,args:= #[x,y],argTypes:= #[T,T]},ty,pos,af,g⟩ t=some true)
 (hk:L[k]? =some b)(ho:b.own=true)(he:b.e=e)(hx:ev t x=some (aI b.base 0 len cap))(hk2:L[k2]? =some b2)(hb2:b2.base=some b2o)(hy:ev t y=some (aI (some b2o) 0 n2 c2))(hs:Nat.blt 0 s=true)(hzs:z.cells.size=s)(hpos:Nat.blt 0 n2=true)
 (hlen:b.cs.length=len*s)(hcap:len<=cap)(hn:cap*s<=b.n)(hlen2:b2.cs.length=n2*s)(h1:∀v∈b2.cs,v.oneCell'=true)(hmax:len+n2<=17179869184)
 (hL:∀r,L.set k ⟨some r.g,e,b.cs++b2.cs,r.n,true⟩=mk r)
 (h:∀r:AR (len+n2) s,aX P bl ops rest ⟨nt,(d,aI (some r.g) 0 (len+n2) r.cap)::t,mk r⟩ K):
 aX P bl ops (⟨some d,.call {callee:= .builtin .append,args:= #[x,y],argTypes:= #[T,T]},ty,pos,af,g⟩::rest) ⟨nt,t,L⟩ K:=by
 obtain⟨inf,i1,i2,i3,i5⟩:=yV hi;subst i3;exact P8 hi.2 k k2 mk hT i1 i2 (by simpa using hs) hzs (by omega) hd hg hk ho he hlen hcap hn hx hk2 hlen2 (by simpa using hpos) hb2 hy h1 hmax hL h
def I7{T e:Nat}{z:Value}{b b2:aF}{gg len cap len2 cap2:Nat}(k k2:Nat)(L':List aF)(cs':List Value)(hT:P.underlying T=some (.slice e))(hi:LK P e 1 z)(hd:Nat.blt d nt=true)
 (hg:ax ops ⟨some d,.call {callee:= .builtin .copy,args:= #[x,y],argTypes:= #[T,T]},ty,pos,af,g⟩ t=some true)(hk:L[k]? =some b)(ho:b.own=true)(hb:b.base=some gg)(hx:ev t x=some (aI (some gg) 0 len cap))
 (hk2:L[k2]? =some b2)(hy:ev t y=some (aI b2.base 0 len2 cap2))(hl2:b2.cs.length=len2)(hle:len2<=len)(hfit:len2<=b.cs.length)(h1:∀v∈b2.cs,v.oneCell'=true)(hcs:b2.cs++b.cs.drop len2=cs')(hL:L.set k {b with cs:=cs'}=L')
 (h:aX P bl ops rest ⟨nt,(d,.int .i64 len2)::t,L'⟩ K):aX P bl ops (⟨some d,.call {callee:= .builtin .copy,args:= #[x,y],argTypes:= #[T,T]},ty,pos,af,g⟩::rest) ⟨nt,t,L⟩ K:=by
 obtain⟨inf,i1,i2,i3,i5⟩:=yV hi;exact qgf k k2 L' cs' hT i1 i3 hd hg hk ho hb hx hk2 hy hl2 hle hfit h1 hcs hL h
end
def aT.toFront{B:Bs}{w:World}{L:List aF}{k:Nat}{b:aF}(h:aT B L w)(hk:L[k]? =some b):aT B (b::L.eraseIdx k) w:=by
 refine h.reindex (fun i=>if i=0 then k else if i-1<k then i-1 else i) (fun i c hc=>?_) (fun i j _ _ e=>?_)
 ·cases i with
  |zero=>simp at hc;subst hc;simpa using hk
  |succ i=>
   simp only[List.getElem?_cons_succ,List.getElem?_eraseIdx] at hc
   by_cases c1:i<k
   ·rw[if_pos c1] at hc;simpa[c1] using hc
   ·rw[if_neg c1] at hc;simpa[c1] using hc
 ·skip
  split at e<;>split at e<;>(try split at e)<;>(try split at e)<;>omega
def aT.fromFront{B:Bs}{w:World}{L:List aF}{k:Nat}{b b':aF}(hk:L[k]? =some b)(h:aT B (b'::L.eraseIdx k) w):aT B (L.set k b') w:=by
 have hkl:=(List.getElem?_eq_some_iff.1 hk).1;refine h.reindex (fun i=>if i=k then 0 else if i<k then i+1 else i) (fun i c hc=>?_) (fun i j _ _ e=>?_)
 ·by_cases e:i=k
  ·subst e;rw[List.getElem?_set_self hkl] at hc;simpa using hc
  ·rw[List.getElem?_set_ne (Ne.symm e)] at hc
   by_cases c1:i<k
   ·simp[e,c1,List.getElem?_eraseIdx,hc]
   ·obtain⟨m,rfl⟩:∃m,i=m+1:=⟨i-1,by omega⟩;simp only[if_neg e,if_neg c1,List.getElem?_cons_succ,List.getElem?_eraseIdx];rw[if_neg (by omega)];exact hc
 ·skip
  split at e<;>split at e<;>(try split at e)<;>(try split at e)<;>omega
def qfq(P:Program)(f:Nat)(b:aF)(args:List Value)(v:Value)(b':aF):Prop:=
 iF P f=true∧∀(B:Bs) (w:World) (R:List aF),B.D=[]->aT B (b::R) w->Calls P f args.toArray w fun e w'=>e= .returned v∧aT B (b'::R) w'
section
variable{P:Program}{bl:List Nat}{ops:Array Oper}{K:St->Prop}{rest:List Oper}{nt:Nat}{t:List (Nat×Value)}{L:List aF}{d:Nat}{ty:TypeId}{pos:String}{af:Array Edge}{g:Option (Nat×Bool)}{x y:Operand}
def qcN{f:Nat}{args:List Operand}{ts:Array TypeId}(vs:List Value){v:Value}{b b':aF}(k:Nat)(L':List aF)(hM:Il bl=true)(hd:Nat.blt d nt=true)(hg:ax ops ⟨some d,.call {callee:= .value (.func f),args:=args.toArray,argTypes:=ts},ty,pos,af,g⟩ t=some true)
 (hv:args.map (ev t)=vs.map some)(hc:qfq P f b vs v b')(hk:L[k]? =some b)(hL:L.set k b'=L')(h:aX P bl ops rest ⟨nt,(d,v)::t,L'⟩ K):
 aX P bl ops (⟨some d,.call {callee:= .value (.func f),args:=args.toArray,argTypes:=ts},ty,pos,af,g⟩::rest) ⟨nt,t,L⟩ K:=
 Zm hd hg hM (X:=Unit) (nx:=fun _=>⟨nt,(d,v)::t,L'⟩) (fun hd' B a w hr=>by
 unfold Oper.wp;rw[pY hc.1 a rfl rfl (vs:=vs.toArray) (by simp[nJ hr hv]) w];refine(hc.2 B.d0 w _ rfl (hr.mem.toFront hk).d0).mono ?_;rintro e w' ⟨rfl,hw⟩;refine⟨(),?_⟩;rw[<-hL];exact hr.put hd' (aT.fromFront hk hw.of_d0)) fun _=>h
end
end Go.Via
namespace Go.Via
variable[Mo]
open Go
def lV{x y:Int}(m n:Nat)(hx:x=(m:Int))(hy:y=(n:Int))(h:m/n<=9223372036854775807):IntKind.i64.wrap (x.tdiv y)=((m/n:Nat):Int):=by
 subst hx;subst hy;rw[<-Int.ofNat_tdiv];generalize m/n=q at*;exact wi (by omega) (by omega) rfl
def ZE{x y:Int}(m n:Nat)(hx:x=(m:Int))(hy:y=(n:Int))(h:m/n<18446744073709551616):IntKind.u64.wrap (x.tdiv y)=((m/n:Nat):Int):=by
 subst hx;subst hy;rw[<-Int.ofNat_tdiv];generalize m/n=q at*;exact wu (by omega) (by omega) rfl
def dM{x y:Int}(m n:Nat)(hx:x=(m:Int))(hy:y=(n:Int)):x.tmod y=((m%n:Nat):Int):=by
 subst hx;subst hy;exact(Int.ofNat_tmod m n).symm
def LM{x s:Int}(m k:Nat)(hx:x=(m:Int))(hs:s=(k:Int))(hk:k<=64)(h:m*2^k<18446744073709551616):IntKind.u64.wrap (x*2^(min s.toNat IntKind.u64.bits))=((m*2^k:Nat):Int):=by
 subst hx;subst hs
 have:min (k:Int).toNat IntKind.u64.bits=k:=by rw[TE];omega
 rw[this]
 exact wu (Int.mul_nonneg (by omega) (Int.pow_nonneg (by omega))) (by have:((m*2^k:Nat):Int)<18446744073709551616:=by omega
                                                                      simpa using this) (by simp)
def qcO{x s:Int}(m k:Nat)(hx:x=(m:Int))(hs:s=(k:Int))(hk:k<=32)(h:m*2^k<4294967296):IntKind.u32.wrap (x*2^(min s.toNat IntKind.u32.bits))=((m*2^k:Nat):Int):=by
 subst hx;subst hs
 have:min (k:Int).toNat IntKind.u32.bits=k:=by rw[TF];omega
 rw[this,qcL]
 have e:((m:Int)*2^k)=((m*2^k:Nat):Int):=by simp
 rw[e];omega
def oL{x s:Int}(m k:Nat)(hx:x=(m:Int))(hs:s=(k:Int))(hk:k<=64):x.fdiv (2^(min s.toNat IntKind.u64.bits))=((m/2^k:Nat):Int):=by
 subst hx;subst hs
 have:min (k:Int).toNat IntKind.u64.bits=k:=by rw[TE];omega
 rw[this,Int.fdiv_eq_ediv_of_nonneg _ (Int.pow_nonneg (by omega))]
 simp
def oz{x:Int}(m:Nat)(hx:x=(m:Int))(h:m<18446744073709551616):IntKind.u64.wrap x=(m:Int):=by subst hx;exact wu (by omega) (by omega) rfl
def uC{x:Int}(m:Nat)(hx:x=(m:Int)):IntKind.u32.wrap x=((m%4294967296:Nat):Int):=by subst hx;rw[qcL];omega
def c8{x:Int}(m:Nat)(hx:x=(m:Int)):IntKind.u8.wrap x=((m%256:Nat):Int):=by subst hx;rw[wu8];omega
def kE{k:IntKind}{l:List Nat}(h:0<l.length):NV k l≠[]:=by
 intro e;have:=congrArg List.length e;rw[az] at this;simp at this;subst this;simp at h
def Fp(k:IntKind)(l:List Nat):∀v∈NV k l,v.oneCell'=true:=by
 intro v hv;obtain⟨n,_,rfl⟩:=List.mem_map.1 hv;rfl
def jE(t:List (Nat×Value)):List (Nat×Value)->Prop
 |[]=>True
 |p::l=>look t p.1=some p.2∧jE t l
def jE.mem{t:List (Nat×Value)}:∀{t':List (Nat×Value)},jE t t'->∀p∈t',look t p.1=some p.2
 |[],_,p,hp=>by cases hp
 |q::l,h,p,hp=>by
  rcases List.mem_cons.1 hp with rfl|hp
  ·exact h.1
  ·exact jE.mem h.2 p hp
def aB{t:List (Nat×Value)}{d:Nat}{v v':Value}(h:look t d=some v)(e:v=v'):look t d=some v':=e▸h
def Nxt{ι:Type}(B:Bs)(nt:Nat)(T:ι->List (Nat×Value))(LL:ι->List aF)(μ:ι->Nat)(i:ι)(a':Act)(w':World):Prop:=∃j,μ j<μ i∧kD B ⟨nt,T j,LL j⟩ a' w'
def qgg{P:Program}{B:Bs}{Q:Exit->Act->World->Prop}{nt:Nat}{t:List (Nat×Value)}{L:List aF}{ι:Type}{c:Code}(T:ι->List (Nat×Value))(LL:ι->List aF)(μ:ι->Nat)(i₀:ι)(ht:jE t (T i₀))(hL:eF L (LL i₀))
 (round:∀i,At B ⟨nt,T i,LL i⟩ (c.wp P (Exit.then (Nxt B nt T LL μ i) Q))):At B ⟨nt,t,L⟩ ((Code.loop c).wp P Q):=
 Xx (fun i=>⟨nt,T i,LL i⟩) μ i₀ (T i₀) (LL i₀) rfl ht.mem hL round
def qiy{B:Bs}{nt:Nat}{t:List (Nat×Value)}{L:List aF}{ι:Type}{T:ι->List (Nat×Value)}{LL:ι->List aF}{μ:ι->Nat}{i:ι}(j:ι)(hμ:μ j<μ i)(ht:jE t (T j))(hL:eF L (LL j)):
 At B ⟨nt,t,L⟩ (Nxt B nt T LL μ i):=
 Zx (inv:=fun i=>⟨nt,T i,LL i⟩) j (T j) (LL j) rfl hμ ht.mem hL
end Go.Via
namespace Go.Via
variable[Mo]
open Go Go.RowKit
def BB(Q:Nat->Prop):List Nat->Prop
 |[]=>True
 |i::l=>Q i∧BB Q l
def BB.mem{Q:Nat->Prop}:∀{l:List Nat},BB Q l->∀i∈l,Q i
 |[],_,i,h=>by cases h
 |j::l,hh,i,h=>by
  rcases List.mem_cons.1 h with rfl|h
  ·exact hh.1
  ·exact BB.mem hh.2 i h
def yX(P:Program)(ops:Array Oper)(K:St->Prop):Nat->Array Bool->St->Prop
 |0,listed,s=>Region.ready .any ops listed=[]∧K s
 |n+1,listed,s=>∃l:List Nat,Region.ready .any ops listed=l∧l.isEmpty=false∧BB (fun i=>∃o,ops[i]? =some o∧aX P [1000000] ops [o] s (fun s'=>yX P ops K n (listed.setIfInBounds i true) s')) l
def Oc{P:Program}{ops:Array Oper}{Q:Exit->Act->World->Prop}{K:St->Prop}{B:Bs}(hpost:∀s' a' w',K s'->kD B s' a' w'->Q .normal a' w'):
 ∀(n:Nat) (listed:Array Bool) (s:St) (a:Act) (w:World),yX P ops K n listed s->kD B s a w->wpAny P .any ops Q n listed a w
 |0,listed,s,a,w,h,hr=>⟨h.1,hpost _ _ _ h.2 hr⟩
 |n+1,listed,s,a,w,h,hr=>by
  obtain⟨l,h1,h2,h3⟩:=h;refine⟨fun h0=>?_,fun i hi=>?_⟩
  ·rw[h1] at h0;subst h0;cases h2
  ·rw[h1] at hi;obtain⟨o,ho,hs⟩:=h3.mem i hi;have:=iD.sound (K':=fun a' w'=>wpAny P .any ops Q n (listed.setIfInBounds i true) a' w') (Q:=Q) hs hr (fun s' a' w' hk hr'=>Oc hpost n _ s' a' w' hk hr')
   unfold wpOp;rw[ho];dsimp only
   split
   ·rename_i hw;rw[if_pos hw] at this;exact .inl this
   ·rename_i hw;rw[if_neg hw] at this;exact this
def qcP{P:Program}{B:Bs}{Q:Exit->Act->World->Prop}{nt:Nat}{t:List (Nat×Value)}{L:List aF}{id:Nat}{l:List Oper}(T:List (Nat×Value))(L':List aF)(hm:P.follows .mixedOrders=true)
 (h:yX P l.toArray (fun s'=>s'.nt=nt∧jE s'.t T∧s'.L=L') l.toArray.size (Array.replicate l.toArray.size false) ⟨nt,t,L⟩)(hk:At B ⟨nt,T,L'⟩ (Q .normal)):
 At B ⟨nt,t,L⟩ ((Code.region id l.toArray true).wp P Q):=fun a w hr=>by
 refine wp_region_any hm ?_;refine Oc (K:=fun s'=>s'.nt=nt∧jE s'.t T∧s'.L=L') (B:=B) (fun s' a' w' hK hrel=>?_) _ _ ⟨nt,t,L⟩ a _ h hr.drew;obtain⟨h1,h2,h3⟩:=hK;refine hk a' w' ?_;have:=hrel.sub (t:=T) fun d v hd=>h2.mem (d,v) (tq hd)
 rw[h1,h3] at this;exact this
def vI{P:Program}{ops:Array Oper}{K:St->Prop}{n:Nat}{listed:Array Bool}{s:St}(l:List Nat)(h1:Region.ready .any ops listed=l)(h2:l.isEmpty=false)
 (h:BB (fun i=>∃o,ops[i]? =some o∧aX P [1000000] ops [o] s (fun s'=>yX P ops K n (listed.setIfInBounds i true) s')) l):yX P ops K (n+1) listed s:=⟨l,h1,h2,h⟩
end Go.Via
namespace Go.Via
variable[Mo]
open Go Go.RowKit
section
variable{P:Program}{bl:List Nat}{ops:Array Oper}{K:St->Prop}{rest:List Oper}{nt:Nat}{t:List (Nat×Value)}{L:List aF}{d:Nat}{ty:TypeId}{pos:String}{af:Array Edge}{g:Option (Nat×Bool)}{x y:Operand}
def XA{T e:Nat}{inf:TypeInfo}{bb:Option Nat}{len cap c2:Nat}{b2:Option Nat}(hT:P.underlying T=some (.slice e))(hi:P.info? e=some inf)(hd:Nat.blt d nt=true)
 (hg:ax ops ⟨some d,.call {callee:= .builtin .append,args:= #[x,y],argTypes:= #[T,T]},ty,pos,af,g⟩ t=some true)
 (hx:ev t x=some (aI bb 0 len cap))(hcap:len<=cap)(hy:ev t y=some (aI b2 0 0 c2))(h:aX P bl ops rest ⟨nt,(d,aI bb 0 len cap)::t,L⟩ K):
 aX P bl ops (⟨some d,.call {callee:= .builtin .append,args:= #[x,y],argTypes:= #[T,T]},ty,pos,af,g⟩::rest) ⟨nt,t,L⟩ K:=
 fM hd hg rfl (fun B a w hr=>by
 have hx':=hr.ev hx;have hy':=hr.ev hy;have hs:Src P inf.size T (aI b2 0 0 c2) 0 [] w:=by
  cases b2 with
  |none=>exact Src.ofNil (P:=P) w hT c2
  |some g2=>exact Src.ofSlice (P:=P) w hT ⟨g2,0,none⟩ 0 c2 [] (by simp) (fun j u hj=>by simp at hj) (fun u hu=>by cases hu)
 have r1:=run_append_nothing (P:=P) w T T ty e inf hT hi (bb.map fun g=>⟨g,0,none⟩) len cap hcap (aI b2 0 0 c2) hs;have r2:(execOp a.eval ⟨some d,.call {callee:= .builtin .append,args:= #[x,y],argTypes:= #[T,T]},ty,pos,af,g⟩).run P w=((Builtin.append_ #[T,T] ty #[aI bb 0 len cap,aI b2 0 0 c2]).run P w).andThen fun v w=> .ok (.value v) w:=by
  simp[execOp,resolve,invoke,builtin,hx',hy']
 rw[r2];unfold aI at r1 ⊢;rw[r1];rfl) h
end
end Go.Via
