/-
  Part 14 (chapter 32): lemmas, walks. Each theorem states its own conditions.
-/
import GoSem.Core.World
import Derived.MapKept
import Derived.WalkKit
import Derived.WalkSpells
import Derived.WalkLawsBesides
import Derived.Deep.LoopGhost
import Derived.Deep.AppendSrc
import Derived.Laws.BytesArg
import Derived.Laws.CopyRow
import Derived.Laws.AppendOwn
import Derived.Deep.Upon
import Derived.Laws.Small
import Derived.WideKeyEntry
import Derived.Test.YtaffcpfhedadhaaGreatDoorA11
set_option linter.all false
set_option maxRecDepth 20000
set_option maxHeartbeats 20000000
section
variable{P Q:Prop}{T:Type}{R:T->Prop}
def qgw(h:P:=by
 refine⟨a1,a2,fun c' hc' ho'=>?_⟩
 rcases mem_ c' hc' with rfl|h2
 ·intro e;cases e
 ·exact a3 c' h2 ho'):=h
end
namespace Go.Via
variable[Mo]
open Go Go.RowKit
def VT{P:Program}{B:Bs}{fn:Func}{R:Ending->World->Prop}{s:St}(hfn:fn.results= #[])(hR:∀w,aX B s.L w->R (.returned (.tuple #[])) w)(hD:B.D=[]:=by first|rfl|assumption):At B s (bodyPost P fn R .normal):=fun a w hr=>
 ⟨hr.df.trans hD,.tuple #[],by simp[results,hfn],hR w hr.mem⟩
def Ey(P:Program)(f:Nat)(L0:List aF)(args:List Value)(X:Type)(res:X->Value)(L1:X->List aF):Prop:=
 iP P f=true∧∀(B:Bs) (w:World),B.D=[]->aX B L0 w->Calls P f args.toArray w fun e w'=>∃x,e= .returned (res x)∧aX B (L1 x) w'
section
variable{P:Program}{bl:List Nat}{ops:Array Oper}{K:St->Prop}{rest:List Oper}{nt:Nat}{t:List (Nat×Value)}{L:List aF}{d:Nat}{ty:TypeId}{pos:String}{af:Array Edge}{g:Option (Nat×Bool)}{x y:Operand}
def YP{f:Nat}{v:Value}(hd:Nat.blt d nt=true)(hg:az ops ⟨some d,.makeFunc (.func f) #[] #[x],ty,pos,af,g⟩ t=some true)(hx:ev t x=some v)(h:aU P bl ops rest ⟨nt,(d,.func (.func f) #[] #[v])::t,L⟩ K):
 aU P bl ops (⟨some d,.makeFunc (.func f) #[] #[x],ty,pos,af,g⟩::rest) ⟨nt,t,L⟩ K:=
 eY hd hg rfl (fun B a w hr=>by simp[execOp,Instr.makeFunc,hr.ev hx]) h
end
end Go.Via
namespace Go.Via
variable[Mo]
open Go Go.RowKit
section
variable{P:Program}{bl:List Nat}{ops:Array Oper}{K:St->Prop}{rest:List Oper}{nt:Nat}{t:List (Nat×Value)}{L:List aF}{d:Nat}{ty:TypeId}{pos:String}{af:Array Edge}{g:Option (Nat×Bool)}{x y z:Operand}
def qgx{T e:Nat}{b:Option Nat}{len cap:Nat}{ki kj:IntKind}{inf:TI}(k:Nat)(hT:P.underlying T=some (.slice e))(hinf:dH P e inf=true)(hd:Nat.blt d nt=true)(hg:az ops ⟨some d,.slice T x none (some y) (some z),ty,pos,af,g⟩ t=some true)(hx:ev t x=some (aB b 0 len cap))(hy:ev t y=some (.int ki (k:Nat)))(hz:ev t z=some (.int kj (k:Nat)))(h1:k<=cap)
 (h:aU P bl ops rest ⟨nt,(d,aB b 0 k k)::t,L⟩ K):aU P bl ops (⟨some d,.slice T x none (some y) (some z),ty,pos,af,g⟩::rest) ⟨nt,t,L⟩ K:=
 eY hd hg rfl (fun B a w hrel=>by
 have he:P.elem T=e:=Eu;have hT':P.underlying T=some (.slice (P.elem T)):=JU;have h2:=hrel.ev hx;have h3:=hrel.ev hy;have h4:=hrel.ev hz;unfold aB at h2;have r1:=run_sliceAt_slice (P:=P) w T (.slice (b.map fun g=>⟨g,0,none⟩) len cap) none (some (.int ki (k:Nat))) (some (.int kj (k:Nat))) hT';rw[run_slice_hm (P:=P) w T (b.map fun g=>⟨g,0,none⟩) len cap hT' ki kj (k:Nat) (k:Nat) ae ae ae,he,lF hinf w] at r1;simp only[Result.andThen_ok] at r1;have e1:sliced (b.map fun g=>(⟨g,0,none⟩:Addr)) 0 ((k:Nat):Int).toNat ((k:Nat):Int).toNat inf.size=aB b 0 k k:=by
  unfold sliced aB;rw[Int.toNat_natCast];cases b<;>simp[iI]
 rw[e1] at r1;simp[execOp,h2,h3,h4,r1]) h
def qgy{T e:Nat}{b:Option Nat}{len cap:Nat}{ki:IntKind}{inf:TI}(l:Nat)(hT:P.underlying T=some (.slice e))(hinf:dH P e inf=true)(hd:Nat.blt d nt=true)(hg:az ops ⟨some d,.slice T x (some y) none none,ty,pos,af,g⟩ t=some true)(hx:ev t x=some (aB b 0 len cap))(hy:ev t y=some (.int ki (l:Nat)))(h1:l<=len)
 (h:aU P bl ops rest ⟨nt,(d,aB b (if cap=l then 0 else l*inf.size) (len-l) (cap-l))::t,L⟩ K):aU P bl ops (⟨some d,.slice T x (some y) none none,ty,pos,af,g⟩::rest) ⟨nt,t,L⟩ K:=
 eY hd hg rfl (fun B a w hrel=>by
 have he:P.elem T=e:=Eu;have hT':P.underlying T=some (.slice (P.elem T)):=JU;have h2:=hrel.ev hx;have h3:=hrel.ev hy;unfold aB at h2;have r1:=run_sliceAt_slice (P:=P) w T (.slice (b.map fun g=>⟨g,0,none⟩) len cap) (some (.int ki (l:Nat))) none none hT';rw[run_slice_l (P:=P) w T (b.map fun g=>⟨g,0,none⟩) len cap hT' ki (l:Nat) ae ae,he,lF hinf w] at r1;simp only[Result.andThen_ok] at r1;have e1:sliced (b.map fun g=>(⟨g,0,none⟩:Addr)) ((l:Nat):Int).toNat len cap inf.size=aB b (if cap=l then 0 else l*inf.size) (len-l) (cap-l):=by
  unfold sliced aB;rw[Int.toNat_natCast]
  by_cases hc:cap=l
  ·rw[if_pos hc,if_pos hc]
  ·rw[if_neg hc,if_neg hc];cases b<;>simp[iI]
 rw[e1] at r1;simp[execOp,h2,h3,r1]) h
def GV{T e:Nat}{b:Option Nat}{len cap off' n' c':Nat}{ki:IntKind}{inf:TI}(l:Nat)(hT:P.underlying T=some (.slice e))(hinf:dH P e inf=true)(hd:Nat.blt d nt=true)(hg:az ops ⟨some d,.slice T x (some y) none none,ty,pos,af,g⟩ t=some true)(hx:ev t x=some (aB b 0 len cap))(hy:ev t y=some (.int ki (l:Nat)))(h1:l<=len)(e1:(if cap=l then 0 else l*inf.size)=off')(e2:len-l=n')(e3:cap-l=c')
 (h:aU P bl ops rest ⟨nt,(d,aB b off' n' c')::t,L⟩ K):aU P bl ops (⟨some d,.slice T x (some y) none none,ty,pos,af,g⟩::rest) ⟨nt,t,L⟩ K:=by
 subst e1;subst e2;subst e3;exact qgy l hT hinf hd hg hx hy h1 h
def NF{T e off2:Nat}{inf:TypeInfo}{bb:Option Nat}{len cap c2:Nat}{b2:Option Nat}(hT:P.underlying T=some (.slice e))(hi:P.info? e=some inf)(hd:Nat.blt d nt=true)
 (hg:az ops ⟨some d,.call {callee:= .builtin .append,args:= #[x,y],argTypes:= #[T,T]},ty,pos,af,g⟩ t=some true)
 (hx:ev t x=some (aB bb 0 len cap))(hcap:len<=cap)(hy:ev t y=some (aB b2 off2 0 c2))(h:aU P bl ops rest ⟨nt,(d,aB bb 0 len cap)::t,L⟩ K):
 aU P bl ops (⟨some d,.call {callee:= .builtin .append,args:= #[x,y],argTypes:= #[T,T]},ty,pos,af,g⟩::rest) ⟨nt,t,L⟩ K:=
 eY hd hg rfl (fun B a w hr=>by
 have hx':=hr.ev hx;have hy':=hr.ev hy;have hs:Src P inf.size T (aB b2 off2 0 c2) 0 [] w:=by
  cases b2 with
  |none=>exact Src.ofNil (P:=P) w hT c2
  |some g2=>exact Src.ofSlice (P:=P) w hT ⟨g2,off2,none⟩ 0 c2 [] bz (fun j u hj=>by simp at hj) (fun u hu=>by cases hu)
 have r1:=run_append_nothing (P:=P) w T T ty e inf hT hi (bb.map fun g=>⟨g,0,none⟩) len cap hcap (aB b2 off2 0 c2) hs;have r2:(execOp a.eval ⟨some d,.call {callee:= .builtin .append,args:= #[x,y],argTypes:= #[T,T]},ty,pos,af,g⟩).run P w=((Builtin.append_ #[T,T] ty #[aB bb 0 len cap,aB b2 off2 0 c2]).run P w).andThen fun v w=> .ok (.value v) w:=by
  simp[execOp,resolve,invoke,builtin,hx',hy']
 rw[r2];unfold aB at r1 ⊢;rw[r1];rfl) h
def qdN{T e:Nat}{inf:TypeInfo}{zz:Value}{b:aF}{len cap b2o off2 n2 c2:Nat}{b2:aF}(hem:e<cO)(k k2:Nat)(old news:List Value)(mk:AR (len+n2) inf.size->List aF)(hT:P.underlying T=some (.slice e))(hi:P.info? e=some inf)(hz:inf.zero=some zz)(hs:0<inf.size)(hzs:zz.cells.size=inf.size)(hbytes:inf.bytes<=1024)(hd:Nat.blt d nt=true)
 (hg:az ops ⟨some d,.call {callee:= .builtin .append,args:= #[x,y],argTypes:= #[T,T]},ty,pos,af,g⟩ t=some true)
 (hk:L[k]? =some b)(hold:b.cs.take (len*inf.size)=old)(hlen:old.length=len*inf.size)(hroom:cap<len+n2)(hcap:len<=cap)(hx:ev t x=some (aB b.base 0 len cap))
 (hk2:L[k2]? =some b2)(hnew:(b2.cs.drop off2).take (n2*inf.size)=news)(hlen2:news.length=n2*inf.size)(hb2:b2.base=some b2o)(hy:ev t y=some (aB (some b2o) off2 n2 c2))(h1:∀v∈news,v.oneCell'=true)(hmax:len+n2<=17179869184)
 (hL:∀r,L++[⟨some r.g,e,old++news,r.n,true⟩]=mk r)
 (h:∀r:AR (len+n2) inf.size,aU P bl ops rest ⟨nt,(d,aB (some r.g) 0 (len+n2) r.cap)::t,mk r⟩ K):
 aU P bl ops (⟨some d,.call {callee:= .builtin .append,args:= #[x,y],argTypes:= #[T,T]},ty,pos,af,g⟩::rest) ⟨nt,t,L⟩ K:=
 MV hd hg rfl rfl (X:=AR (len+n2) inf.size) (nx:=fun r=>⟨nt,(d,aB (some r.g) 0 (len+n2) r.cap)::t,mk r⟩) (fun hd'=>IR fun B a w hr=>by
 have hx':=hr.ev hx;have hy':=hr.ev hy;have hnews:∀j u,news[j]? =some u->w.cell? ((⟨b2o,off2,none⟩:Addr).add j)=some u:=fun j u hj=>by
  have hj2:b2.cs[off2+j]? =some u:=by
   rw[<-hnew] at hj;rw[List.getElem?_take] at hj
   split at hj
   ·rwa [List.getElem?_drop] at hj
   ·cases hj
  obtain⟨g',hg',h2⟩:=hr.mem.cell hk2 hj2;rw[hb2] at hg';cases hg';rw[iI];exact h2
 have hsrc:=Src.ofSlice (P:=P) w (size:=inf.size) hT ⟨b2o,off2,none⟩ n2 c2 news hlen2 hnews h1;have fin:∀v w',(Builtin.append_ #[T,T] ty #[aB b.base 0 len cap,aB (some b2o) off2 n2 c2]).run P w= .ok v w'->(execOp a.eval ⟨some d,.call {callee:= .builtin .append,args:= #[x,y],argTypes:= #[T,T]},ty,pos,af,g⟩).run P w= .ok (.value v) w':=fun v w' hv=>by
  simp[execOp,resolve,invoke,builtin,hx',hy',hv]
 have hold':(Builtin.firstCells inf.size len (aB b.base 0 len cap)).run P w.drew= .ok old.toArray w.drew:=by
  cases hbb:b.base with
  |none=>
   have h0:=((hr.mem.blk k b hk).2 hbb).1;have:old=[]:=(by rw[<-hold,h0];simp);rw[this];exact run_firstCells_none w.drew inf.size len len cap
  |some gg=>
   refine run_firstCells_some (P:=P) w.drew inf.size len ⟨gg,0,none⟩ len cap old hlen (fun j v hj=>?_);have hj2:b.cs[j]? =some v:=by
    rw[<-hold] at hj;rw[List.getElem?_take] at hj
    split at hj
    ·exact hj
    ·cases hj
   obtain⟨g',hg',h2⟩:=hr.mem.cell hk hj2;rw[hbb] at hg';cases hg';rw[iI,Nat.zero_add];exact h2
 have hge:=grownCap_ge w (len+n2) cap e;have hbb:(len+n2)*inf.bytes<=17179869184*1024:=Nat.mul_le_mul hmax hbytes;have hfit:Builtin.nextslicecap (len+n2) cap*inf.bytes<=281474976710656:=growslice_fits ae ae;have r1:=run_append_grow_src (P:=P) w T T ty e inf zz hT hi hz (b.base.map fun g=>⟨g,0,none⟩) len cap old hold' (aB (some b2o) off2 n2 c2) n2 news hsrc ae ae hfit;refine⟨_,_,(⟨w.heap.size,(((old++news).toArray++Builtin.zeroCells zz.cells (grownCap w (len+n2) cap e-(len+n2))):Array Value).size,grownCap w (len+n2) cap e,hge,?_⟩:AR (len+n2) inf.size),fin _ _ r1,?_⟩
 ·have hz':(Builtin.zeroCells zz.cells (grownCap w (len+n2) cap e-(len+n2))).size=(grownCap w (len+n2) cap e-(len+n2))*inf.size:=by
   unfold Builtin.zeroCells;simp[hzs]
  have hm:(grownCap w (len+n2) cap e-(len+n2))*inf.size+(len+n2)*inf.size=grownCap w (len+n2) cap e*inf.size:=by
   rw[<-Nat.add_mul,Nat.sub_add_cancel hge]
  have hsum:(len+n2)*inf.size=len*inf.size+n2*inf.size:=Nat.add_mul ..;rw[Array.size_append,hz'];simp only[List.size_toArray,List.length_append];omega
 ·refine hr.put hd' ?_;rw[<-hL];have h5:=(hr.mem.drew.alloc e ((old++news).toArray++Builtin.zeroCells zz.cells (grownCap w (len+n2) cap e-(len+n2))) hem);refine(h5.last (b':=⟨some w.heap.size,e,old++news,((old++news).toArray++Builtin.zeroCells zz.cells (grownCap w (len+n2) cap e-(len+n2)):Array Value).size,true⟩) ⟨rfl,rfl,rfl,⟨(old++news).length,?_⟩,fun _=>rfl⟩)
  rw[Array.toList_append];exact(List.take_left (l₁:=old++news)).symm) fun r=>h r
def qdO{T e s:Nat}{zz:Value}{b:aF}{len cap b2o off2 n2 c2:Nat}{b2:aF}(k k2:Nat)(old news:List Value)(mk:AR (len+n2) s->List aF)(hT:P.underlying T=some (.slice e))(hi:Nk P e s zz)(hd:Nat.blt d nt=true)
 (hg:az ops ⟨some d,.call {callee:= .builtin .append,args:= #[x,y],argTypes:= #[T,T]},ty,pos,af,g⟩ t=some true)
 (hk:L[k]? =some b)(hx:ev t x=some (aB b.base 0 len cap))(hk2:L[k2]? =some b2)(hb2:b2.base=some b2o)(hy:ev t y=some (aB (some b2o) off2 n2 c2))(hs:Nat.blt 0 s=true)(hzs:zz.cells.size=s)
 (hold:b.cs.take (len*s)=old)(hlen:old.length=len*s)(hroom:cap<len+n2)(hcap:len<=cap)(hnew:(b2.cs.drop off2).take (n2*s)=news)(hlen2:news.length=n2*s)(h1:∀v∈news,v.oneCell'=true)(hmax:len+n2<=17179869184)
 (hL:∀r,L++[⟨some r.g,e,old++news,r.n,true⟩]=mk r)
 (h:∀r:AR (len+n2) s,aU P bl ops rest ⟨nt,(d,aB (some r.g) 0 (len+n2) r.cap)::t,mk r⟩ K):
 aU P bl ops (⟨some d,.call {callee:= .builtin .append,args:= #[x,y],argTypes:= #[T,T]},ty,pos,af,g⟩::rest) ⟨nt,t,L⟩ K:=by
 obtain⟨inf,i1,i2,i3,i5⟩:=vK hi;subst i3;exact qdN hi.2 k k2 old news mk hT i1 i2 (by simpa using hs) hzs ae hd hg hk hold hlen hroom hcap hx hk2 hnew hlen2 hb2 hy h1 hmax hL h
def YQ{T e s off2:Nat}{zz:Value}{bb:Option Nat}{len cap c2:Nat}{b2:Option Nat}(hT:P.underlying T=some (.slice e))(hi:Nk P e s zz)(hd:Nat.blt d nt=true)
 (hg:az ops ⟨some d,.call {callee:= .builtin .append,args:= #[x,y],argTypes:= #[T,T]},ty,pos,af,g⟩ t=some true)
 (hx:ev t x=some (aB bb 0 len cap))(hcap:len<=cap)(hy:ev t y=some (aB b2 off2 0 c2))(h:aU P bl ops rest ⟨nt,(d,aB bb 0 len cap)::t,L⟩ K):
 aU P bl ops (⟨some d,.call {callee:= .builtin .append,args:= #[x,y],argTypes:= #[T,T]},ty,pos,af,g⟩::rest) ⟨nt,t,L⟩ K:=by
 obtain⟨inf,i1,i2,i3,i5⟩:=vK hi;exact NF hT i1 hd hg hx hcap hy h
end
end Go.Via
namespace Go.Via
variable[Mo]
open Go Go.RowKit
def Oper.wp_monoQ{P:Program}{o:Oper}{a:Act}{w:World}{K K':Act->World->Prop}{Q Q':Exit->Act->World->Prop}(h:∀a w,K a w->K' a w)
 (hp:∀c a w,Q (.panic c) a w->Q' (.panic c) a w)(hl:LetsOut Q->LetsOut Q')(hh:o.wp P a w K Q):o.wp P a w K' Q':=by
 unfold Oper.wp at*
 generalize(execOp a.eval o).run P w=r at*
 cases r with
 |ok n w'=>
  cases n<;>simp only[Oper.upon] at hh ⊢ <;>
   first
    |exact h _ _ hh
    |exact Calls.mono hh (fun e w'' he=>by cases e<;>first|exact h _ _ he|exact hp _ _ _ he|exact hl he)
    |exact Rows.mono hh (fun _ _ he=>h _ _ he)
 |halt x w'=>cases x<;>simp only[Oper.upon] at hh ⊢ <;>first|exact hp _ _ _ hh|exact hh
def pF{P:Program}{md:Region.Mode}{ops:Array Oper}{Q Q':Exit->Act->World->Prop}(hn:∀a w,Q .normal a w->Q' .normal a w)
 (hp:∀c a w,Q (.panic c) a w->Q' (.panic c) a w)(hl:LetsOut Q->LetsOut Q'):∀(n:Nat) (listed:Array Bool) (a:Act) (w:World),wpAny P md ops Q n listed a w->wpAny P md ops Q' n listed a w
 |0,_,_,_,h=>⟨h.1,hn _ _ h.2⟩
 |n+1,listed,a,w,h=>⟨fun h0=>hn _ _ (h.1 h0),fun i hi=>by
 have h1:=h.2 i hi;unfold wpOp at h1 ⊢
 split
 ·rename_i ho;rw[ho] at h1;exact pF hn hp hl n _ _ _ h1
 ·rename_i o ho
  rw[ho] at h1;dsimp only at h1
  split
  ·rename_i hw
   rw[if_pos hw] at h1;exact h1.imp (Oper.wp_monoQ (pF hn hp hl n _) hp hl) (fun h2=>⟨h2.1,hl h2.2⟩)
  ·rename_i hw
   rw[if_neg hw] at h1;exact pF hn hp hl n _ _ _ h1⟩
def zG(ops:Array Oper):Array Bool->List Nat->Bool
 |_,[]=>true
 |listed,i::E=>(match ops[i]? with
 |some o=>je o&& !kz o
 |none=>false)&&Region.free .any ops listed i&&(Region.ready .any ops listed).contains i&&zG ops (listed.setIfInBounds i true) E
def sD(X:Act->World->Prop):Exit->Act->World->Prop
 | .normal,a,w=>X a w
 |_,_,_=>False
def xG{P:Program}{ops:Array Oper}{X:Act->World->Prop}{B:Bs}{w:World}{nt:Nat}{L:List aF}{n:Nat}(hsel:Region.noSelect ops=true){G:List (Nat×Value)->Array Bool->Prop}
 (hG:∀(t:List (Nat×Value)) (listed:Array Bool) (a:Act),G t listed->kK B ⟨nt,t,L⟩ a w->wpAny P .any ops (sD X) n listed a w):
 ∀(E:List Nat) (listed:Array Bool) (t:List (Nat×Value)) (a:Act),zG ops listed E=true->
  aU P [] ops (E.map fun i=>ops.getD i default) ⟨nt,t,[]⟩ (fun s'=>G s'.t (E.foldl (fun(x:Array Bool) i=>x.setIfInBounds i true) listed))->kK B ⟨nt,t,L⟩ a w->wpAny P .any ops (sD X) (E.length+n) listed a w
 |[],listed,t,a,_,hr,h=>by rw[show([]:List Nat).length+n=n by simp];exact hG t listed a hr h
 |i::E,listed,t,a,hc,hr,h=>by
  simp only[zG,Bool.and_eq_true,Bool.not_eq_true'] at hc;obtain⟨⟨⟨hk,hf⟩,hrd⟩,hE⟩:=hc;cases ho:ops[i]? with
  |none=>rw[ho] at hk;cases hk
  |some o=>
   rw[ho] at hk;simp only[Bool.and_eq_true,Bool.not_eq_true'] at hk;obtain⟨hmv,hcl⟩:=hk;have hoid:ops.getD i default=o:=by simp[ho]
   have hr1:iM P [] ops (ops.getD i default) ⟨nt,t,[]⟩ (fun s'=>aU P [] ops (E.map fun i=>ops.getD i default) s' (fun s'=>G s'.t (E.foldl (fun(x:Array Bool) i=>x.setIfInBounds i true) (listed.setIfInBounds i true)))):=hr;rw[hoid] at hr1;obtain⟨h0,g,hg,hh⟩:=hr1;have hw:=Gn h hg;have hrel0:∀w':World,kK ⟨w',fun _=>False,B.D⟩ ⟨nt,t,[]⟩ a w':=fun w'=>⟨h.df,h.size,h.tmp,⟨⟨rfl,rfl,rfl,Nat.le_refl _,fun _ _ _=>rfl,fun _=>Nat.le_refl _⟩,fun k b hk=>Vq,(fun i j g bi bj hij hi=>MJ),mF.nil _ _⟩⟩
   have hnsto:isSto o=false:=by
    unfold isSto;unfold je at hmv
    split<;>first|rfl|(rename_i heq;rw[heq] at hmv;cases hmv)
   have hnal:isAl o=false:=by
    unfold isAl;unfold je at hmv
    split
    ·rename_i heq;rw[heq] at hmv;cases hmv
    ·rename_i heq;rw[heq] at hmv;cases hmv
    ·rfl
   obtain⟨v,hy,hk⟩:∃v,Go.Yields P ops o v a∧aU P [] ops (E.map fun i=>ops.getD i default) ((⟨nt,t,[]⟩:St).put o.dst v) (fun s'=>G s'.t (E.foldl (fun(x:Array Bool) i=>x.setIfInBounds i true) (listed.setIfInBounds i true))):=by
    rcases hh with⟨h1,h2⟩|⟨h1,⟨h2,v,h3,h4⟩|⟨h2,_⟩|⟨hm,_⟩|⟨hm,_⟩|⟨hm,_⟩|⟨_,hm,_⟩⟩
    ·exact⟨undef,.inr ⟨by rw[hw,h1],rfl⟩,h2⟩
    ·exact⟨v,.inl ⟨by rw[hw,h1],fun w'=>h3.1 _ a w' (hrel0 w')⟩,h4⟩
    ·rw[hcl] at h2;cases h2
    ·simp[LC,Yi,hmv] at hm
    ·rw[hnsto] at hm;cases hm
    ·rw[hnal] at hm;cases hm
    ·cases hm
   rw[show(i::E).length+n=(E.length+n)+1 by simp;omega];refine wpAny_take ho hsel hf hrd (fun c a w hq=>hq.elim) hy ?_;have hput:(⟨nt,t,[]⟩:St).put o.dst v=⟨nt,((⟨nt,t,[]⟩:St).put o.dst v).t,[]⟩:=by cases o.dst<;>rfl
   rw[hput] at hk;refine xG hsel hG E _ _ _ hE hk ?_;have h5:=h.put0 (dst:=o.dst) (v:=v) h0;have h6:(⟨nt,t,L⟩:St).put o.dst v=⟨nt,((⟨nt,t,[]⟩:St).put o.dst v).t,L⟩:=by cases o.dst<;>rfl
   rw[<-h6];exact h5
def QN{P:Program}{B:Bs}{Q:Exit->Act->World->Prop}{nt:Nat}{t:List (Nat×Value)}{L:List aF}{id:Nat}{l l':List Oper}(E:List Nat)(n:Nat)(hm:P.follows .mixedOrders=true)
 (hc:(Region.noSelect l.toArray&&zG l.toArray (Array.replicate l.toArray.size false) E&&decide (E.length+n=l.toArray.size))=true)(hl:E.map (fun i=>l.toArray.getD i default)=l')
 (h:aU P [] l.toArray l' ⟨nt,t,[]⟩ (fun s'=>zC P l.toArray (fun s'=>At B s' (Q .normal)) n (E.foldl (fun(x:Array Bool) i=>x.setIfInBounds i true) (Array.replicate l.toArray.size false)) ⟨nt,s'.t,L⟩)):
 At B ⟨nt,t,L⟩ ((Code.region id l.toArray true).wp P Q):=fun a w hr=>by
 simp only[Bool.and_eq_true,decide_eq_true_eq] at hc;obtain⟨⟨h1,h2⟩,h3⟩:=hc;subst hl;refine wp_region_any hm ?_
 suffices hs:wpAny P .any l.toArray Q (E.length+n) (Array.replicate l.toArray.size false) a {w with drawn:=w.drawn+1} by rw[h3] at hs;exact hs
 refine pF (Q:=sD (Q .normal)) (Q':=Q) (fun _ _ h=>h) (fun _ _ _ h=>h.elim) (fun⟨_,_,h⟩=>h.elim) _ _ _ _ ?_;refine xG (B:=B) (G:=fun t listed=>zC P l.toArray (fun s'=>At B s' (Q .normal)) n listed ⟨nt,t,L⟩) h1 (fun t listed a hG hrel=>LQ (Q:=sD (Q .normal)) (fun s' a' w' hk hr'=>hk a' w' hr') _ _ _ _ _ hG hrel) E _ t a h2 h hr.drew
def NG{P:Program}{ops:Array Oper}{K:St->Prop}{listed:Array Bool}{s:St}(h:Region.ready .any ops listed=[])(hk:K s):zC P ops K 0 listed s:=⟨h,hk⟩
end Go.Via
namespace Go.Via
variable[Mo]
open Go Go.RowKit Go.MapKept
abbrev IM:=List (Int×Value)
def kvI(l:IM):List (Value×Value):=l.map fun p=>(.int .i64 p.1,p.2)
def kvE(e:MapEntry):Value×Value:=(e.key,e.val)
noncomputable def mI(l:IM):Nat:=mE (kvI l)
def qbK(l:IM):Bool:=l.all fun p=>Value.simple p.2
def YR{l:IM}(h:qbK l=true):uJ (kvI l)=true:=by
 unfold uJ kvI;rw[List.all_map];refine List.all_eq_true.2 fun p hp=>?_
 have:=List.all_eq_true.1 h p hp;simp[Value.simple,Value.simple0] at this ⊢;exact this
theorem aX.map{B:Bs}{w:World}{L:List aF}(h:aX B L w){k:Nat}{g:Nat}{l:IM}{own:Bool}(hs:qbK l=true)(hk:L[k]? =some ⟨some g,mI l,[],0,own⟩):
 ∃es clock,w.heap[g]? =some (.map es clock)∧es.toList.map kvE=kvI l∧Stamped es clock:=by
 rcases((h.blk k _ hk).1 g rfl).1 with⟨cur,⟨_,_,_,_,hlt⟩,_⟩|⟨l',es,clock,a1,_,_,a4,a5,a6,a7⟩
 ·exact absurd hlt (quE _)
 ·have e:kvI l=l':=by
   rcases a1 with a1|⟨_,_,a1,_⟩
   ·exact qrF (YR hs) a4 a1
   ·exact absurd a1 qrG
  subst e;exact⟨es,clock,a5,a6,a7⟩
section
variable{P:Program}{bl:List Nat}{ops:Array Oper}{K:St->Prop}{rest:List Oper}{nt:Nat}{t:List (Nat×Value)}{L:List aF}{d:Nat}{ty:TypeId}{pos:String}{af:Array Edge}{gd:Option (Nat×Bool)}{x y z:Operand}
end
end Go.Via
namespace Go.Via
variable[Mo]
open Go Go.RowKit
section
variable{P:Program}{bl:List Nat}{ops:Array Oper}{K:St->Prop}{rest:List Oper}{nt:Nat}{t:List (Nat×Value)}{L:List aF}{d:Nat}{ty:TypeId}{pos:String}{af:Array Edge}{g:Option (Nat×Bool)}{x y:Operand}
def NH{f:Nat}{args:List Operand}{ts:Array TypeId}{caps vs:List Value}{B:Bs}{w:World}{s:St}{a:Act}{dst:Option Nat}(hp:iP P f=true)(hr:kK B s a w)(hf:ev s.t x=some (.func (.func f) #[] caps.toArray))(hv:args.map (ev s.t)=vs.map some):
 (execOp a.eval ⟨dst,.call {callee:= .value x,args:=args.toArray,argTypes:=ts},ty,pos,af,g⟩).run P w= .ok (.enter f (vs++caps).toArray) w:=by
 have hfv:=hr.ev hf;have hva:args.toArray.map a.eval=vs.toArray:=Gv;unfold iP at hp;cases hq:P.funcs[f]? with
 |none=>rw[hq] at hp;cases hp
 |some fn=>
  rw[hq] at hp;simp only[Bool.and_eq_true,Bool.not_eq_true'] at hp;obtain⟨h1,h2⟩:=hp;have h3:fn.body≠none:=qbe
  have h4:¬fn.name= "runtime.NumGoroutine" :=Gu;simp[execOp,resolve,hfv,hva,Deferred.ofValue,invoke,callFunc,hq,h4,h3]
def qnC{f:Nat}{args:List Operand}{ts:Array TypeId}{caps:List Value}(vs:List Value){L0:List aF}{X:Type}[hX:Nonempty X]{res:X->Value}{new:X->List aF}(ks:List Nat)(hd:Nat.blt d nt=true)(hg:az ops ⟨some d,.call {callee:= .value x,args:=args.toArray,argTypes:=ts},ty,pos,af,g⟩ t=some true)
 (hf:ev t x=some (.func (.func f) #[] caps.toArray))(hv:args.map (ev t)=vs.map some)(hc:bQ P f L0 (vs++caps) X res new)(hp:jf L (ks.map some) L0)(ho:(L0.all fun b=> !b.own)=true)(hn:∀x,∀b∈new x,b.own=true)
 (h:∀x,aU P bl ops rest ⟨nt,(d,res x)::t,L++new x⟩ K):
 aU P bl ops (⟨some d,.call {callee:= .value x,args:=args.toArray,argTypes:=ts},ty,pos,af,g⟩::rest) ⟨nt,t,L⟩ K:=
 Gx hd hg rfl (X:=X) (res:=res) (new:=new) (fun B a w hr=>⟨f,(vs++caps).toArray,NH hc.1 hr hf hv,(hc.2 w (hr.mem.asArgs ks hp (fun b hb=>VJ))).mono (by
 rintro e w' ⟨x,rfl,hx⟩;exact⟨x,rfl,hr.mem.joinF hx (hn x)⟩)⟩) (fun _=>⟨fun B a w hr=>⟨f,(vs++caps).toArray,NH hc.1 hr hf hv,(hc.2 w (hr.mem.asArgs ks hp (fun b hb=>VJ))).mono (by
 rintro e w' ⟨x,rfl,hx⟩;exact⟨x,rfl,hx,hn x⟩)⟩,hX⟩) fun x=>h x
def qgz{f:Nat}{args:List Operand}{ts:Array TypeId}{caps:List Value}(vs:List Value){L0:List aF}{v:Value}(ks:List Nat)(hd:Nat.blt d nt=true)(hg:az ops ⟨some d,.call {callee:= .value x,args:=args.toArray,argTypes:=ts},ty,pos,af,g⟩ t=some true)
 (hf:ev t x=some (.func (.func f) #[] caps.toArray))(hv:args.map (ev t)=vs.map some)(hc:bQ P f L0 (vs++caps) Unit (fun _=>v) (fun _=>[]))(hp:jf L (ks.map some) L0)(ho:(L0.all fun b=> !b.own)=true)
 (h:aU P bl ops rest ⟨nt,(d,v)::t,L⟩ K):
 aU P bl ops (⟨some d,.call {callee:= .value x,args:=args.toArray,argTypes:=ts},ty,pos,af,g⟩::rest) ⟨nt,t,L⟩ K:=
 qnC vs ks hd hg hf hv hc hp ho (fun x b hb=>MI) fun x=>by
  have:L++([]:List aF)=L:=List.append_nil L;show aU P bl ops rest ⟨nt,(d,v)::t,L++[]⟩ K;rw[this];exact h
end
end Go.Via
namespace Go.Via
variable[Mo]
open Go Go.RowKit
structure OR(need s:Nat) where
 b:Option Nat
 n:Nat
 cap:Nat
 h:need<=cap
 hn:cap*s<=n
section
variable{P:Program}{bl:List Nat}{ops:Array Oper}{K:St->Prop}{rest:List Oper}{nt:Nat}{t:List (Nat×Value)}{L:List aF}{d:Nat}{ty:TypeId}{pos:String}{af:Array Edge}{g:Option (Nat×Bool)}{x y:Operand}
def YS{T e:Nat}{inf:TypeInfo}{z:Value}{b:aF}{len cap b2o off2 n2 c2:Nat}{b2:aF}(hem:e<cO)(k k2:Nat)(news:List Value)(mk:AR (len+n2) inf.size->List aF)(hT:P.underlying T=some (.slice e))(hi:P.info? e=some inf)(hz:inf.zero=some z)(hs:0<inf.size)(hzs:z.cells.size=inf.size)(hbytes:inf.bytes<=1024)(hd:Nat.blt d nt=true)
 (hg:az ops ⟨some d,.call {callee:= .builtin .append,args:= #[x,y],argTypes:= #[T,T]},ty,pos,af,g⟩ t=some true)
 (hk:L[k]? =some b)(ho:b.own=true)(he:b.e=e)(hlen:b.cs.length=len*inf.size)(hcap:len<=cap)(hn:cap*inf.size<=b.n)(hx:ev t x=some (aB b.base 0 len cap))
 (hk2:L[k2]? =some b2)(hnew:(b2.cs.drop off2).take (n2*inf.size)=news)(hlen2:news.length=n2*inf.size)(hpos:0<n2)(hb2:b2.base=some b2o)(hy:ev t y=some (aB (some b2o) off2 n2 c2))(h1:∀v∈news,v.oneCell'=true)(hmax:len+n2<=17179869184)
 (hL:∀r,L.set k ⟨some r.g,e,b.cs++news,r.n,true⟩=mk r)
 (h:∀r:AR (len+n2) inf.size,aU P bl ops rest ⟨nt,(d,aB (some r.g) 0 (len+n2) r.cap)::t,mk r⟩ K):
 aU P bl ops (⟨some d,.call {callee:= .builtin .append,args:= #[x,y],argTypes:= #[T,T]},ty,pos,af,g⟩::rest) ⟨nt,t,L⟩ K:=
 MV hd hg rfl rfl (X:=AR (len+n2) inf.size) (nx:=fun r=>⟨nt,(d,aB (some r.g) 0 (len+n2) r.cap)::t,mk r⟩) (fun hd'=>IR fun B a w hr=>by
 have hx':=hr.ev hx;have hy':=hr.ev hy
 have hnews:∀j u,news[j]? =some u->w.cell? ((⟨b2o,off2,none⟩:Addr).add j)=some u:=fun j u hj=>by
  have hj2:b2.cs[off2+j]? =some u:=by
   rw[<-hnew] at hj;rw[List.getElem?_take] at hj
   split at hj
   ·rwa [List.getElem?_drop] at hj
   ·cases hj
  obtain⟨g',hg',h2⟩:=hr.mem.cell hk2 hj2;rw[hb2] at hg';cases hg';rw[iI];exact h2
 have hsrc:=Src.ofSlice (P:=P) w (size:=inf.size) hT ⟨b2o,off2,none⟩ n2 c2 news hlen2 hnews h1;have fin:∀v w',(Builtin.append_ #[T,T] ty #[aB b.base 0 len cap,aB (some b2o) off2 n2 c2]).run P w= .ok v w'->(execOp a.eval ⟨some d,.call {callee:= .builtin .append,args:= #[x,y],argTypes:= #[T,T]},ty,pos,af,g⟩).run P w= .ok (.value v) w':=fun v w' hv=>by
  simp[execOp,resolve,invoke,builtin,hx',hy',hv]
 by_cases hroom:len+n2<=cap
 ·
  obtain⟨gg,hgg⟩:∃gg,b.base=some gg:=by
   cases hbb:b.base with
   |some gg=>exact⟨gg,rfl⟩
   |none=>
    have:=((hr.mem.blk k b hk).2 hbb).2;have h3:1*1<=cap*inf.size:=Nat.mul_le_mul ae hs;omega
  obtain⟨cur,⟨e',fr,c1,cfr,_⟩,c2',c3⟩:=((hr.mem.blk k b hk).1 gg hgg).cells (.inl (by
 have h3:1*1<=cap*inf.size:=Nat.mul_le_mul (by omega) hs;omega))
  obtain⟨rfl,rfl⟩:=cfr ho;have hroomc:(len+n2)*inf.size<=cap*inf.size:=Nat.mul_le_mul_right _ hroom;have hsum:(len+n2)*inf.size=len*inf.size+n2*inf.size:=Nat.add_mul ..;have hfit:0+len*inf.size+news.length<=cur.size:=by rw[hlen2];omega
  have r1:=run_append_room_src (P:=P) w T T ty e inf hT hi gg 0 len cap (aB (some b2o) off2 n2 c2) n2 news hsrc hroom
   (fun j hj=>by
 rw[cell_of_row w gg _ cur b.e (0,0) c1];rw[Array.getElem?_eq_getElem (by omega)];rfl)
   (fun j hj=>by simp[World.frozen?,c1])
  rw[zx news w gg _ cur b.e c1 hfit] at r1;refine⟨_,_,(⟨gg,b.n,cap,hroom,hn⟩:AR (len+n2) inf.size),fin _ _ qp0,?_⟩;refine hr.put hd' ?_;rw[<-hL];have hcur:cur.toList.take (0+len*inf.size)=b.cs:=by rw[Nat.zero_add,<-hlen];exact c3
  have h5:=hr.mem.set hk ho hgg (cur.toList.take (0+len*inf.size)++news++cur.toList.drop (0+len*inf.size+news.length)).toArray (b.cs++news)
   qf2
   (by
 rw[hcur];simp only[List.append_assoc];rw[List.length_append,<-List.append_assoc,<-List.length_append];exact List.take_left)
  rw[hgg] at h5;rw[ho] at h5;rw[he] at h5;exact h5
 ·
  have hold:(Builtin.firstCells inf.size len (aB b.base 0 len cap)).run P w.drew= .ok b.cs.toArray w.drew:=by
   cases hbb:b.base with
   |none=>
    have:=((hr.mem.blk k b hk).2 hbb).1;rw[this];exact run_firstCells_none w.drew inf.size len len cap
   |some gg=>
    refine run_firstCells_some (P:=P) w.drew inf.size len ⟨gg,0,none⟩ len cap b.cs hlen (fun j v hj=>?_);obtain⟨g',hg',h2⟩:=hr.mem.cell hk hj;rw[hbb] at hg';cases hg';rw[iI,Nat.zero_add];exact h2
  have hge:=grownCap_ge w (len+n2) cap e;have hbb:(len+n2)*inf.bytes<=17179869184*1024:=Nat.mul_le_mul hmax hbytes;have hfit:Builtin.nextslicecap (len+n2) cap*inf.bytes<=281474976710656:=growslice_fits ae ae;have r1:=run_append_grow_src (P:=P) w T T ty e inf z hT hi hz (b.base.map fun g=>⟨g,0,none⟩) len cap b.cs hold (aB (some b2o) off2 n2 c2) n2 news hsrc ae ae hfit;refine⟨_,_,(⟨w.heap.size,(((b.cs++news).toArray++Builtin.zeroCells z.cells (grownCap w (len+n2) cap e-(len+n2))):Array Value).size,grownCap w (len+n2) cap e,hge,?_⟩:AR (len+n2) inf.size),fin _ _ r1,?_⟩
  ·have hz':(Builtin.zeroCells z.cells (grownCap w (len+n2) cap e-(len+n2))).size=(grownCap w (len+n2) cap e-(len+n2))*inf.size:=by
    unfold Builtin.zeroCells;simp[hzs]
   have hm:(grownCap w (len+n2) cap e-(len+n2))*inf.size+(len+n2)*inf.size=grownCap w (len+n2) cap e*inf.size:=by
    rw[<-Nat.add_mul,Nat.sub_add_cancel hge]
   have hsum:(len+n2)*inf.size=len*inf.size+n2*inf.size:=Nat.add_mul ..;rw[Array.size_append,hz'];simp only[List.size_toArray,List.length_append];omega
  ·refine hr.put hd' ?_;rw[<-hL];have h5:=(hr.mem.drew.alloc e ((b.cs++news).toArray++Builtin.zeroCells z.cells (grownCap w (len+n2) cap e-(len+n2))) hem);refine(h5.last (b':=⟨some w.heap.size,e,b.cs++news,((b.cs++news).toArray++Builtin.zeroCells z.cells (grownCap w (len+n2) cap e-(len+n2)):Array Value).size,true⟩) ⟨rfl,rfl,rfl,⟨(b.cs++news).length,?_⟩,fun _=>rfl⟩).swapIn k
   rw[Array.toList_append];exact(List.take_left (l₁:=b.cs++news)).symm) fun r=>h r
def jl{T e s:Nat}{zz:Value}{b:aF}{len cap off2 n2 c2:Nat}{b2:aF}(k k2:Nat)(news:List Value)(mk:OR (len+n2) s->List aF)(hT:P.underlying T=some (.slice e))(hi:Nk P e s zz)(hd:Nat.blt d nt=true)
 (hg:az ops ⟨some d,.call {callee:= .builtin .append,args:= #[x,y],argTypes:= #[T,T]},ty,pos,af,g⟩ t=some true)
 (hk:L[k]? =some b)(ho:b.own=true)(he:b.e=e)(hx:ev t x=some (aB b.base 0 len cap))(hk2:L[k2]? =some b2)(hy:ev t y=some (aB b2.base off2 n2 c2))(hs:Nat.blt 0 s=true)(hzs:zz.cells.size=s)
 (hlen:b.cs.length=len*s)(hcap:len<=cap)(hn:cap*s<=b.n)(hb2:n2=0∨∃g,b2.base=some g)(hnew:(b2.cs.drop off2).take (n2*s)=news)(hlen2:news.length=n2*s)(h1:∀v∈news,v.oneCell'=true)(hmax:len+n2<=17179869184)
 (hL:∀r,L.set k ⟨r.b,e,b.cs++news,r.n,true⟩=mk r)
 (h:∀r:OR (len+n2) s,aU P bl ops rest ⟨nt,(d,aB r.b 0 (len+n2) r.cap)::t,mk r⟩ K):
 aU P bl ops (⟨some d,.call {callee:= .builtin .append,args:= #[x,y],argTypes:= #[T,T]},ty,pos,af,g⟩::rest) ⟨nt,t,L⟩ K:=by
 obtain⟨inf,i1,i2,i3,i5⟩:=vK hi;subst i3;rcases Nat.eq_zero_or_pos n2 with h0|h0
 ·subst h0;refine NF hT i1 hd hg hx hcap hy ?_;have hnw:news=[]:=List.eq_nil_of_length_eq_zero (by rw[hlen2];omega);have:=h ⟨b.base,b.n,cap,hcap,hn⟩;rw[<-hL,hnw,List.append_nil] at this;have hb:(⟨b.base,e,b.cs,b.n,true⟩:aF)=b:=by rw[<-he,<-ho]
  rw[show(⟨b.base,b.n,cap,hcap,hn⟩:OR (len+0) inf.size).b=b.base from rfl,show(⟨b.base,b.n,cap,hcap,hn⟩:OR (len+0) inf.size).n=b.n from rfl,hb] at this;have hset:L.set k b=L:=by
   obtain⟨q1,q2⟩:=List.getElem?_eq_some_iff.1 hk;rw[<-q2];exact List.set_getElem_self q1
  rw[hset] at this;exact this
 ·obtain⟨b2o,hb2⟩:=hb2.resolve_left ae;rw[hb2] at hy;exact YS hi.2 k k2 news (fun r=>mk ⟨some r.g,r.n,r.cap,r.h,r.hn⟩) hT i1 i2 (by simpa using hs) hzs ae hd hg hk ho he hlen hcap hn hx hk2 hnew hlen2 h0 hb2 hy h1 hmax (fun r=>hL ⟨some r.g,r.n,r.cap,r.h,r.hn⟩) (fun r=>h ⟨some r.g,r.n,r.cap,r.h,r.hn⟩)
end
end Go.Via
namespace Go.Via
variable[Mo]
open Go Go.RowKit
section
variable{P:Program}{bl:List Nat}{ops:Array Oper}{K:St->Prop}{rest:List Oper}{nt:Nat}{t:List (Nat×Value)}{L:List aF}{d:Nat}{ty:TypeId}{pos:String}{af:Array Edge}{g:Option (Nat×Bool)}{x y:Operand}
def dS{T:Nat}{j:Nat}{i:TI}{gg:Nat}(off fo:Nat){fs:Nat}(hd:Nat.blt d nt=true)(hg:az ops ⟨some d,.fieldAddr T x j,ty,pos,af,g⟩ t=some true)(hx:ev t x=some (.pointer (some ⟨gg,off,none⟩)))(hi:dH P T i=true)
 (hf:i.flds[j]? =some (fo,fs+1)){off':Nat}(ho:off+fo=off')(h:aU P bl ops rest ⟨nt,(d,.pointer (some ⟨gg,off',none⟩))::t,L⟩ K):
 aU P bl ops (⟨some d,.fieldAddr T x j,ty,pos,af,g⟩::rest) ⟨nt,t,L⟩ K:=
 eY hd hg rfl (fun B a w hr=>by
 have h2:=hr.ev hx;obtain⟨fs',f,h3,h4,h5,h6⟩:=qfy hi hf;simp only at h5 h6;have hsz:(sizeOf f.type).run P w= .ok (fs+1) w:=by
  cases hq:P.info? f.type with
  |none=>rw[hq] at h6;simp at h6
  |some inf=>rw[hq] at h6;simp at h6;simp[sizeOf,typeInfo,hq,h6]
 subst ho;simp[execOp,h2,Instr.fieldAt,run_underlying h3,h4,Instr.sureAddr,fieldPlace,hsz,iI,h5]) h
end
def NI{P:Program}{B:Bs}{Q:Exit->Act->World->Prop}{nt:Nat}{t:List (Nat×Value)}{L:List aF}{id:Nat}{l l':List Oper}{X:Type}(Tm:X->List (Nat×Value))(Lm:X->List aF)(E:List Nat)(n:Nat)(hm:P.follows .mixedOrders=true)
 (hc:(Region.noSelect l.toArray&&zG l.toArray (Array.replicate l.toArray.size false) E&&decide (E.length+n=l.toArray.size))=true)(hl:E.map (fun i=>l.toArray.getD i default)=l')
 (h:aU P [] l.toArray l' ⟨nt,t,[]⟩ (fun s'=>zC P l.toArray (fun s'=>∃x:X,s'.nt=nt∧jL s'.t (Tm x)∧List.Perm s'.L (Lm x)) n (E.foldl (fun(x:Array Bool) i=>x.setIfInBounds i true) (Array.replicate l.toArray.size false)) ⟨nt,s'.t,L⟩))
 (hk:∀x,At B ⟨nt,Tm x,Lm x⟩ (Q .normal)):
 At B ⟨nt,t,L⟩ ((Code.region id l.toArray true).wp P Q):=fun a w hr=>by
 simp only[Bool.and_eq_true,decide_eq_true_eq] at hc;obtain⟨⟨h1,h2⟩,h3⟩:=hc;subst hl;refine wp_region_any hm ?_
 suffices hs:wpAny P .any l.toArray Q (E.length+n) (Array.replicate l.toArray.size false) a {w with drawn:=w.drawn+1} by rw[h3] at hs;exact hs
 refine pF (Q:=sD (Q .normal)) (Q':=Q) (fun _ _ h=>h) (fun _ _ _ h=>h.elim) (fun⟨_,_,h⟩=>h.elim) _ _ _ _ ?_;refine xG (B:=B) (G:=fun t listed=>zC P l.toArray (fun s'=>∃x:X,s'.nt=nt∧jL s'.t (Tm x)∧List.Perm s'.L (Lm x)) n listed ⟨nt,t,L⟩) h1 (fun t listed a hG hrel=>LQ (Q:=sD (Q .normal)) (fun s' a' w' ⟨x,q1,q2,q3⟩ hr'=>hk x a' w' (by
 have:=hr'.sub (t:=Tm x) fun d v hd=>q2.mem (d,v) (vI hd)
 rw[q1] at this;exact⟨this.df,this.size,this.tmp,this.mem.perm q3⟩)) _ _ _ _ _ hG hrel) E _ t a h2 h hr.drew
end Go.Via
namespace Go.Via
variable[Mo]
open Go Go.RowKit
def TD{P:Program}{B:Bs}{s:St}{Q:Exit->Act->World->Prop}{x y:Code}{nt:Nat}(T:List (Nat×Value))(LL:List aF)
 (h1:At B s (x.wp P (Exit.then (fun a w=>kK B ⟨nt,T,LL⟩ a w) Q)))(h2:At B ⟨nt,T,LL⟩ (y.wp P Q)):At B s ((Code.seq x y).wp P Q):=
 Yk fun a w hr=>Code.wp_mono (fun e a w h=>by
 cases e with
 |normal=>exact h2 a w h
 |_=>exact h) (h1 a w hr)
def uQ{B:Bs}{nt:Nat}{t T:List (Nat×Value)}{L LL:List aF}(lk:jL t T)(hw:fE L LL):At B ⟨nt,t,L⟩ (fun a w=>kK B ⟨nt,T,LL⟩ a w):=fun a w hr=>
 ⟨hr.df,hr.size,fun d v hd=>hr.tmp d v (lk.mem (d,v) (vI hd)),hw _ _ hr.mem⟩
end Go.Via
namespace Go.Via
variable[Mo]
open Go Go.RowKit
noncomputable abbrev gB(T:P5)(own:Bool):aF:=⟨none,gE T,[],0,own⟩
section
variable{P:Program}{bl:List Nat}{ops:Array Oper}{K:St->Prop}{rest:List Oper}{nt:Nat}{t:List (Nat×Value)}{L:List aF}{d:Nat}{ty:TypeId}{pos:String}{af:Array Edge}{g:Option (Nat×Bool)}
end
theorem aX.setG{B:Bs}{w:World}{L:List aF}(h:aX B L w){j:Nat}{b:aF}(hj:L[j]? =some b)(hb:b.base=none)(T:P5)(o:Bool)(hT:KG T=true)
 (hf:∀p∈T,uK w p∧(o=true->B.own p.1)∧∀c∈L,c.own=true->c.base≠some p.1):aX B (L.set j (gB T o)) w:=by
 have hjl:=(List.getElem?_eq_some_iff.1 hj).1;have at_:∀(m:Nat) (c:aF),(L.set j (gB T o))[m]? =some c->c=gB T o∨(m≠j∧L[m]? =some c):=fun m c hm=>by
  by_cases e:j=m
  ·subst e;rw[List.getElem?_set_self hjl] at hm;cases hm;exact .inl rfl
  ·rw[List.getElem?_set_ne e] at hm;exact .inr ⟨fun h=>e h.symm,hm⟩
 have mem_:∀c∈L.set j (gB T o),c=gB T o∨c∈L:=fun c hc=>(List.mem_or_eq_of_mem_set hc).symm
 refine⟨h.bel,fun m c hm=>?_,fun i k g bi bk hik hi hk ho hg hgk=>?_,fun c hc hn U hU he p hp=>?_⟩
 ·rcases at_ m c hm with rfl|⟨_,h1⟩
  ·exact⟨fun g hg=>(by cases hg),fun _=>⟨rfl,rfl⟩⟩
  ·exact h.blk m c h1
 ·rcases at_ i bi hi with rfl|⟨_,h1⟩
  ·cases hg
  ·rcases at_ k bk hk with rfl|⟨_,h2⟩
   ·cases hgk
   ·exact h.apart i k g bi bk hik h1 h2 ho hg hgk
 ·rcases mem_ c hc with rfl|h1
  ·obtain rfl:=qrH hT hU he;obtain⟨a1,a2,a3⟩:=hf p hp;exact qgw
  ·obtain⟨a1,a2,a3⟩:=h.grp c h1 hn U hU he p hp;exact qgw
end Go.Via
namespace Go.Via
variable[Mo]
open Go Go.RowKit
def KH(L:List aF)(g:Nat):Prop:=∃b∈L,b.own=true∧b.base=some g
def aX.ownG{B:Bs}{w:World}{L:List aF}(h:aX B L w){b:aF}(hb:b∈L)(ho:b.own=true){g:Nat}(hg:b.base=some g):B.own g:=by
 obtain⟨k,hk⟩:=List.mem_iff_getElem?.1 hb;exact((h.blk k b hk).1 g hg).2 ho
def aX.ltG{B:Bs}{w:World}{L:List aF}(h:aX B L w){b:aF}(hb:b∈L){g:Nat}(hg:b.base=some g):g<w.heap.size:=by
 obtain⟨k,hk⟩:=List.mem_iff_getElem?.1 hb;exact h.lt hk hg
def aX.rebase{B:Bs}{w:World}{L:List aF}(h:aX B L w)(hO:(L.all fun b=>Nat.blt b.e cO||(!b.own||b.base.isSome))=true):aX ⟨w,KH L,[]⟩ L w:=by
 refine⟨⟨rfl,rfl,rfl,Nat.le_refl _,fun _ _ _=>rfl,fun _=>Nat.le_refl _⟩,fun k b hk=>?_,h.apart,fun b hb hn T hT he p hp=>?_⟩
 ·obtain⟨h1,h2⟩:=h.blk k b hk;exact⟨fun g hg=>⟨(h1 g hg).1,fun ho=> .inr ⟨b,List.mem_of_getElem? hk,ho,hg⟩⟩,h2⟩
 ·obtain⟨a1,_,a3⟩:=h.grp b hb hn T hT he p hp;refine⟨a1,fun ho=>?_,a3⟩
  have:=List.all_eq_true.1 hO b hb;rw[ho,hn] at this;have h2:Nat.blt b.e cO=true:=(by simpa using this);have h3:b.e<cO:=Gu;exact absurd (he▸h3) (ML T)
def aX.joinG{B:Bs}{w w':World}{A R new:List aF}(h:aX B (A++R) w)(h':aX ⟨w,KH A,[]⟩ new w')(hA:∀b∈A,b.own=true)(hn:∀b∈new,b.own=true∨∃a∈A,a.base=b.base∧b.base.isSome=true):aX B (new++R) w':=by
 have hS:∀g,KH A g->B.own g:=fun g ⟨b,hb,ho,hg⟩=>h.ownG (List.mem_append_left _ hb) ho hg
 have hle:Bs.le B ⟨w,KH A,[]⟩:=fun g hg=>by
  rcases hg with hg|hg
  ·exact .inl (Nat.le_trans h.bel.size hg)
  ·exact hS g hg
 have keep:∀g,g<w.heap.size->¬KH A g->w'.heap[g]? =w.heap[g]? :=fun g hg hS'=>h'.bel.block g hg hS'
 have apR:∀c∈R,∀g,c.base=some g->¬KH A g:=fun c hc g hg ⟨b,hb,ho,hbg⟩=>by
  obtain⟨i,hi⟩:=List.mem_iff_getElem?.1 hb;obtain⟨j,hj⟩:=List.mem_iff_getElem?.1 hc;have hil:=(List.getElem?_eq_some_iff.1 hi).1;exact h.apart i (A.length+j) g b c ae (by rw[List.getElem?_append_left hil];exact hi) (by rw[List.getElem?_append_right ae,Nat.add_sub_cancel_left];exact hj) ho hbg hg
 have ownN:∀b∈new,∀g,b.base=some g->w.heap.size<=g∨KH A g:=fun b hb g hg=>by
  obtain⟨k,hk⟩:=List.mem_iff_getElem?.1 hb;rcases hn b hb with h1|⟨a,ha,h1,_⟩
  ·exact((h'.blk k b hk).1 g hg).2 h1
  ·exact .inr ⟨a,ha,hA a ha,h1.trans hg⟩
 have farN:∀b∈new,∀g,b.base=some g->∀c∈R,c.base≠some g:=fun b hb g hg c hc hcg=>by
  rcases ownN b hb g hg with h1|h1
  ·have:=h.ltG (List.mem_append_right _ hc) hcg;omega
  ·exact apR c hc g hcg h1
 refine⟨⟨h'.bel.os.trans h.bel.os,h'.bel.tape.trans h.bel.tape,h'.bel.output.trans h.bel.output,Nat.le_trans h.bel.size h'.bel.size,fun k hk hk'=>?_,fun m=>Nat.le_trans (h.bel.drawn m) (h'.bel.drawn m)⟩,fun k b hk=>?_,fun i j g bi bj hij hi hj ho hg hgj=>?_,fun b hb hb0 T hT he p hp=>?_⟩
 ·have h1:¬KH A k:=fun hq=>by
   rcases hS k hq with h2|h2
   ·omega
   ·exact hk' h2
  exact(keep k (Nat.lt_of_lt_of_le hk h.bel.size) h1).trans (h.bel.block k hk hk')
 ·rw[List.getElem?_append] at hk
  split at hk
  ·obtain⟨a1,a2⟩:=h'.blk k b hk;exact⟨fun g hg=>⟨(a1 g hg).1,fun ho=>hle _ ((a1 g hg).2 ho)⟩,a2⟩
  ·have hbR:=List.mem_of_getElem? hk;obtain⟨j,hj⟩:=List.mem_iff_getElem?.1 hbR;obtain⟨a1,a2⟩:=h.blk (A.length+j) b (by rw[List.getElem?_append_right ae,Nat.add_sub_cancel_left];exact hj);exact⟨fun g hg=>(a1 g hg).heap (keep g (a1 g hg).lt (apR b hbR g hg)),a2⟩
 ·rw[List.getElem?_append] at hi hj
  split at hi<;>split at hj
  ·exact h'.apart i j g bi bj hij hi hj ho hg hgj
  ·exact farN bi (List.mem_of_getElem? hi) g hg bj (List.mem_of_getElem? hj) hgj
  ·exact farN bj (List.mem_of_getElem? hj) g hgj bi (List.mem_of_getElem? hi) hg
  ·exact h.apart (A.length+(i-new.length)) (A.length+(j-new.length)) g bi bj ae (by rw[List.getElem?_append_right ae,Nat.add_sub_cancel_left];exact hi) (by rw[List.getElem?_append_right ae,Nat.add_sub_cancel_left];exact hj) ho hg hgj
 ·rcases List.mem_append.1 hb with hb|hb
  ·obtain⟨a1,a2,a3⟩:=h'.grp b hb hb0 T hT he p hp;refine⟨a1,fun ho=>hle _ (a2 ho),fun c hc ho hg=>?_⟩
   rcases List.mem_append.1 hc with hc|hc
   ·exact a3 c hc ho hg
   ·rcases a2 ((hn b hb).resolve_right fun⟨_,_,_,h1⟩=>by rw[hb0] at h1;cases h1) with h1|h1
    ·have h1:w.heap.size<=p.1:=h1;have:=h.ltG (List.mem_append_right _ hc) hg;omega
    ·exact apR c hc _ hg h1
  ·obtain⟨a1,a2,a3⟩:=h.grp b (List.mem_append_right _ hb) hb0 T hT he p hp;have hnS:¬KH A p.1:=fun⟨c,hc,ho,hg⟩=>a3 c (List.mem_append_left _ hc) ho hg
   refine⟨a1.heap (keep p.1 a1.lt hnS),a2,fun c hc ho hg=>?_⟩
   rcases List.mem_append.1 hc with hc|hc
   ·rcases ownN c hc _ hg with h1|h1
    ·have:=a1.lt;omega
    ·exact hnS h1
   ·exact a3 c (List.mem_append_right _ hc) ho hg
def KI:List aF->List Nat->List aF->List aF
 |L,k::ks,b::bs=>KI (L.set k b) ks bs
 |L,_,_=>L
def BP:List (Option aF)->List Nat->List aF->List (Option aF)
 |M,k::ks,b::bs=>BP (M.set k (some b)) ks bs
 |M,_,_=>M
def vM:List (Option aF)->List Nat->List (Option aF)
 |M,[]=>M
 |M,k::ks=>vM (M.set k none) ks
def qp8(L:List aF)(ks:List Nat):List aF:=(vM (L.map some) ks).filterMap id
theorem VU:∀(ks:List Nat) (L bs:List aF),(KI L ks bs).map some=BP (L.map some) ks bs
 |[],L,bs=>by simp[KI,BP]
 |k::ks,L,[]=>by simp[KI,BP]
 |k::ks,L,b::bs=>by rw[KI,BP,VU ks,List.map_set]
theorem NJ:∀(ks:List Nat) (M:List (Option aF)) (bs:List aF),ks.Nodup->bs.length=ks.length->BP (vM M ks) ks bs=BP M ks bs
 |[],M,bs,_,_=>rfl
 |k::ks,M,[],_,h=>by simp at h
 |k::ks,M,b::bs,hn,h=>by
  have hn':=List.nodup_cons.1 hn;rw[vM,BP,BP];have e:(vM (M.set k none) ks).set k (some b)=vM (M.set k (some b)) ks:=by
   have key:∀(ks:List Nat) (M:List (Option aF)) (o:Option aF),k∉ks->(vM M ks).set k o=vM (M.set k o) ks:=by
    intro ks
    induction ks with
    |nil=>intro M o _;rfl
    |cons j ks ih=>
     intro M o hk;simp only[List.mem_cons,not_or] at hk;rw[vM,vM,ih _ _ hk.2,List.set_comm _ _ (fun e=>hk.1 e.symm)]
   rw[key ks _ _ hn'.1,List.set_set]
  rw[e];exact NJ ks _ bs hn'.2 pX
def NK:∀(M:List (Option aF)) (k:Nat) (b:aF),M[k]? =some none->((M.set k (some b)).filterMap id).Perm (b::M.filterMap id)
 |[],k,b,h=>by simp at h
 |o::M,0,b,h=>by
  simp at h;subst h;simp
 |o::M,k+1,b,h=>by
  rw[List.getElem?_cons_succ] at h;have ih:=NK M k b h;cases o with
  |none=>simpa using ih
  |some c=>
   simp only[List.set_cons_succ,List.filterMap_cons,id];exact(ih.cons c).trans (List.Perm.swap _ _ _)
def QO:∀(ks:List Nat) (M:List (Option aF)) (bs:List aF),ks.Nodup->(∀k∈ks,M[k]? =some none)->bs.length=ks.length->((BP M ks bs).filterMap id).Perm (bs++M.filterMap id)
 |[],M,[],_,_,_=>List.Perm.refl _
 |[],M,_::_,_,_,h=>by simp at h
 |k::ks,M,[],_,_,h=>by simp at h
 |k::ks,M,b::bs,hn,hM,h=>by
  have hn':=List.nodup_cons.1 hn;have h1:=QO ks (M.set k (some b)) bs hn'.2 (fun j hj=>by
 have hne:k≠j:=fun e=>hn'.1 (e▸hj)
 rw[List.getElem?_set_ne hne];exact hM j (by simp[hj])) (by simpa using h)
  rw[BP];refine h1.trans ?_;refine((NK M k b (hM k bz)).append_left bs).trans ?_;exact List.perm_middle
def qnD:∀(ks:List Nat) (M:List (Option aF)),(∀k∈ks,k<M.length)->∀k∈ks,(vM M ks)[k]? =some none:=by
 intro ks
 induction ks with
 |nil=>intro M _ k hk;cases hk
 |cons j ks ih=>
  intro M hl k hk;rw[vM]
  by_cases hm:k∈ks
  ·exact ih _ (fun i hi=>by rw[List.length_set];exact hl i (by simp[hi])) k hm
  ·have hkj:k=j:=by rcases List.mem_cons.1 hk with h|h;exact h;exact absurd h hm
   subst hkj;have key:∀(ks:List Nat) (M:List (Option aF)),k∉ks->(vM M ks)[k]? =M[k]? :=by
    intro ks
    induction ks with
    |nil=>intro M _;rfl
    |cons i ks ih2=>
     intro M hk;simp only[List.mem_cons,not_or] at hk;rw[vM,ih2 _ hk.2,List.getElem?_set_ne (fun e=>hk.1 e.symm)]
   rw[key ks _ hm,List.getElem?_set_self (hl k bz)]
theorem VV:∀(L:List aF),(L.map some).filterMap id=L
 |[]=>rfl
 |a::L=>bz
def QP{L:List aF}{ks:List Nat}{bs:List aF}(hn:ks.Nodup)(hl:∀k∈ks,k<L.length)(h:bs.length=ks.length):(KI L ks bs).Perm (bs++qp8 L ks):=by
 have h1:=QO ks (vM (L.map some) ks) bs hn (qnD ks _ (fun k hk=>by rw[List.length_map];exact hl k hk)) h;rw[NJ ks _ bs hn h,<-VU,VV] at h1;exact h1
theorem QQ:∀{ks:List Nat} {L L0:List aF},ks.map (fun k=>L[k]?)=L0.map some->KI L ks L0=L
 |[],L,L0,h=>by cases L0<;>simp[KI]
 |k::ks,L,[],h=>by simp at h
 |k::ks,L,b::L0,h=>by
  simp only[List.map_cons,List.cons.injEq] at h;have e:L.set k b=L:=by
   obtain⟨hl,h2⟩:=List.getElem?_eq_some_iff.1 h.1;rw[<-h2];exact List.set_getElem_self hl
  rw[KI,e];exact QQ h.2
def setG:List aF->List Nat->List aF->List aF
 |L,k::ks,b::bs=>setG (L.set k b) ks bs
 |L,[],new=>L++new
 |L,_::_,[]=>L
theorem qbL:∀(ks:List Nat) (L bs:List aF),ks.length<=bs.length->setG L ks bs=KI L ks (bs.take ks.length)++bs.drop ks.length
 |[],L,bs,_=>by simp[setG,KI]
 |k::ks,L,[],h=>by simp at h
 |k::ks,L,b::bs,h=>by
  rw[setG,qbL ks _ _ pX];simp[KI]
def qdP{L:List aF}{ks:List Nat}{bs:List aF}(hn:ks.Nodup)(hl:∀k∈ks,k<L.length)(h:ks.length<=bs.length):(setG L ks bs).Perm (bs++qp8 L ks):=by
 rw[qbL _ _ _ h];have h1:=QP (L:=L) (bs:=bs.take ks.length) hn hl (by rw[List.length_take];omega);refine(h1.append_right _).trans ?_;rw[List.append_assoc];refine(List.perm_append_comm.append_left _).trans ?_;rw[<-List.append_assoc,List.take_append_drop]
def TE{A L:List aF}(h:(L.all fun b=>b.own)=true):∀b∈L,b.own=true∨∃a∈A,a.base=b.base∧b.base.isSome=true:=fun b hb=> .inl (List.all_eq_true.1 h b hb)
def NL{L A C:List aF}(ks is:List Nat)(hn:ks.Nodup)(hk:ks.map (fun k=>L[k]?)=A.map some)
 (hA:(A.all fun b=>b.own&&(Nat.blt b.e cO||b.base.isSome))=true)(hp:jf L (is.map some) C)(hC:(C.all fun b=> !b.own)=true)(hap:lL ((ks++is).map some) ((A++C).map (·.own))=true)
 {B:Bs}{w:World}(h:aX B L w):∃B':Bs,B'.D=[]∧aX B' (A++C) w∧∀(new:List aF) (w':World),Nat.ble ks.length new.length=true->(∀b∈new,b.own=true∨∃a∈A,a.base=b.base∧b.base.isSome=true)->aX B' new w'->aX B (setG L ks new) w':=by
 have hl:∀k∈ks,k<L.length:=fun k hk'=>by
  obtain⟨i,hi⟩:=List.mem_iff_getElem?.1 hk';have h1:(ks.map fun k=>L[k]?)[i]? =some L[k]? :=by rw[List.getElem?_map,hi];rfl
  rw[hk,List.getElem?_map] at h1;obtain⟨b,_,hb⟩:=Option.map_eq_some_iff.1 h1;exact(List.getElem?_eq_some_iff.1 hb.symm).1
 have hlen0:A.length=ks.length:=(by have:=congrArg List.length hk;simpa using this.symm);have pA:∀(ks:List Nat) (A:List aF),ks.map (fun k=>L[k]?)=A.map some->jf L (ks.map some) A:=by
  intro ks
  induction ks with
  |nil=>intro A h;cases A with
   |nil=>exact trivial
   |cons=>simp at h
  |cons k ks ih=>intro A h;cases A with
   |nil=>simp at h
   |cons a A=>
    simp only[List.map_cons,List.cons.injEq] at h;exact⟨⟨a,h.1,a.le_refl⟩,ih A h.2⟩
 have pAC:∀(ks:List Nat) (A:List aF),jf L (ks.map some) A->jf L ((ks++is).map some) (A++C):=by
  intro ks
  induction ks with
  |nil=>intro A h;cases A with
   |nil=>simpa using hp
   |cons=>exact h.elim
  |cons k ks ih=>intro A h;cases A with
   |nil=>exact h.elim
   |cons a A=>exact⟨h.1,ih A h.2⟩
 have plen:∀{is:List Nat} {C:List aF},jf L (is.map some) C->is.length=C.length:=by
  intro is
  induction is with
  |nil=>intro C hp;cases C with
   |nil=>rfl
   |cons c C=>exact hp.elim
  |cons k is ih=>intro C hp;cases C with
   |nil=>exact hp.elim
   |cons c C=>simp[ih hp.2]
 have h1:=h.picks ((ks++is).map some) (pAC ks A (pA ks A hk)) (by simp[hlen0,plen hp]) hap;have hO:((A++C).all fun b=>Nat.blt b.e cO||(!b.own||b.base.isSome))=true:=by
  rw[List.all_append,Bool.and_eq_true]
  constructor
  ·refine List.all_eq_true.2 fun b hb=>?_
   have:=List.all_eq_true.1 hA b hb;simp only[Bool.and_eq_true,Bool.or_eq_true] at this;simp only[Bool.or_eq_true];exact this.2.imp id .inr
  ·refine List.all_eq_true.2 fun b hb=>?_
   have:=List.all_eq_true.1 hC b hb;simp at this;simp[this]
 have h2:=h1.rebase hO;have hSA:KH (A++C)=KH A:=by
  funext g
  refine propext ⟨fun⟨b,hb,ho,hg⟩=>?_,fun⟨b,hb,ho,hg⟩=>⟨b,List.mem_append_left _ hb,ho,hg⟩⟩
  rcases List.mem_append.1 hb with hb|hb
  ·exact⟨b,hb,ho,hg⟩
  ·have:=List.all_eq_true.1 hC b hb;rw[ho] at this;cases this
 rw[hSA] at h2;have hp0:=QP (L:=L) hn hl hlen0;rw[QQ hk] at hp0;have hL:=h.perm hp0;refine⟨⟨w,KH A,[]⟩,rfl,h2,fun new w' hlen hown hx=>?_⟩
 have h3:=hL.joinG hx (fun b hb=>by have:=List.all_eq_true.1 hA b hb;simp at this;exact this.1) hown;exact h3.perm (qdP hn hl (Nat.le_of_ble_eq_true hlen)).symm
theorem Ey.at{P:Program}{f:Nat}{L A C:List aF}{args:List Value}{X:Type}{res:X->Value}{L1:X->List aF}(hc:Ey P f (A++C) args X res L1)(ks is:List Nat)(hn:ks.Nodup)(hk:ks.map (fun k=>L[k]?)=A.map some)
 (hA:(A.all fun b=>b.own&&(Nat.blt b.e cO||b.base.isSome))=true)(hp:jf L (is.map some) C)(hC:(C.all fun b=> !b.own)=true)(hap:lL ((ks++is).map some) ((A++C).map (·.own))=true)(hlen:∀x,Nat.ble ks.length (L1 x).length=true)(hown:∀x,∀b∈L1 x,b.own=true∨∃a∈A,a.base=b.base∧b.base.isSome=true)
 {B:Bs}{w:World}(h:aX B L w):Calls P f args.toArray w fun e w'=>∃x,e= .returned (res x)∧aX B (setG L ks (L1 x)) w':=by
 obtain⟨B',hD,h2,hb⟩:=NL ks is hn hk hA hp hC hap h;refine(hc.2 B' w hD h2).mono ?_;rintro e w' ⟨x,rfl,hx⟩;exact⟨x,rfl,hb _ _ (hlen x) (hown x) hx⟩
section
variable{P:Program}{bl:List Nat}{ops:Array Oper}{K:St->Prop}{rest:List Oper}{nt:Nat}{t:List (Nat×Value)}{L:List aF}{d:Nat}{ty:TypeId}{pos:String}{af:Array Edge}{g:Option (Nat×Bool)}{x y:Operand}
def qgA{f:Nat}{args:List Operand}{ts:Array TypeId}{dst:Option Nat}(vs:List Value){A C:List aF}{X:Type}{res:X->Value}{L1:X->List aF}(ks is:List Nat)(mk:X->List aF)(hM:LC bl=true)(hd:(match dst with|some d=>Nat.blt d nt|none=>true)=true)
 (hg:az ops ⟨dst,.call {callee:= .value (.func f),args:=args.toArray,argTypes:=ts},ty,pos,af,g⟩ t=some true)
 (hv:args.map (ev t)=vs.map some)(hc:Ey P f (A++C) vs X res L1)(hn:ks.Nodup)(hk:ks.map (fun k=>L[k]?)=A.map some)(hA:(A.all fun b=>b.own&&(Nat.blt b.e cO||b.base.isSome))=true)(hp:jf L (is.map some) C)(hC:(C.all fun b=> !b.own)=true)(hap:lL ((ks++is).map some) ((A++C).map (·.own))=true)
 (hlen:∀x,Nat.ble ks.length (L1 x).length=true)(hown:∀x,∀b∈L1 x,b.own=true∨∃a∈A,a.base=b.base∧b.base.isSome=true)(hL:∀x,setG L ks (L1 x)=mk x)
 (h:∀x,aU P bl ops rest (({nt:=nt,t:=t,L:=mk x}:St).put dst (res x)) K):
 aU P bl ops (⟨dst,.call {callee:= .value (.func f),args:=args.toArray,argTypes:=ts},ty,pos,af,g⟩::rest) ⟨nt,t,L⟩ K:=
 qfF hd hg hM (X:=X) (nx:=fun x=>({nt:=nt,t:=t,L:=mk x}:St).put dst (res x)) (fun hd' B a w hr=>by
 unfold Oper.wp;rw[rC hc.1 a rfl rfl (vs:=vs.toArray) Gv w];refine(hc.at ks is hn hk hA hp hC hap hlen hown hr.mem).mono ?_;rintro e w' ⟨x,rfl,hw⟩;refine⟨x,?_⟩;rw[hL] at hw;exact hr.put hd' hw) h
end
end Go.Via
