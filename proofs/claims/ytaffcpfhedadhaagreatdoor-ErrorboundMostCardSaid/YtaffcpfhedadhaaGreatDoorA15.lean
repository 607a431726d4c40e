/-
  Part 15 (chapter 32): lemmas, walks. Each theorem states its own conditions.
-/
import GoSem.Core.World
import Derived.MapKept
import Derived.WalkKit
import Derived.WalkSpells
import Derived.WalkLawsBesides
import Derived.Deep.LoopGhost
import Derived.Deep.AppendSrc
import Derived.Laws.BytesArg
import Derived.Laws.CopyRow
import Derived.Laws.AppendOwn
import Derived.Deep.Upon
import Derived.Laws.Small
import Derived.WideKeyEntry
import Derived.Test.YtaffcpfhedadhaaGreatDoorA09
set_option linter.all false
set_option maxRecDepth 20000
set_option maxHeartbeats 20000000
namespace Go.Via
variable[Mo]
open Go Go.RowKit
section
variable{P:Program}{bl:List Nat}{ops:Array Oper}{K:St->Prop}{rest:List Oper}{nt:Nat}{t:List (Nat×Value)}{L:List aJ}{d:Nat}{ty:TypeId}{pos:String}{af:Array Edge}{g:Option (Nat×Bool)}{x y z:Operand}
def qdz{T e:Nat}{b:Option Nat}{len cap:Nat}{ki:IntKind}{inf:TI}(l:Nat)(hT:P.underlying T=some (.slice e))(hinf:dO P e inf=true)(hd:Nat.blt d nt=true)(hg:az ops ⟨some d,.slice T x (some y) none none,ty,pos,af,g⟩ t=some true)(hx:ev t x=some (ay b 0 len cap))(hy:ev t y=some (.int ki (l:Nat)))(h1:l<=len)
 (h:aY P bl ops rest ⟨nt,(d,ay b (if cap=l then 0 else l*inf.size) (len-l) (cap-l))::t,L⟩ K):aY P bl ops (⟨some d,.slice T x (some y) none none,ty,pos,af,g⟩::rest) ⟨nt,t,L⟩ K:=
 fD hd hg rfl (fun B a w hrel=>by
 have he:P.elem T=e:=EQ;have hT':P.underlying T=some (.slice (P.elem T)):=J4;have h2:=hrel.ev hx;have h3:=hrel.ev hy;unfold ay at h2;have r1:=run_sliceAt_slice (P:=P) w T (.slice (b.map fun g=>⟨g,0,none⟩) len cap) (some (.int ki (l:Nat))) none none hT';rw[run_slice_l (P:=P) w T (b.map fun g=>⟨g,0,none⟩) len cap hT' ki (l:Nat) ae ae,he,nR hinf w] at r1;simp only[Result.andThen_ok] at r1;have e1:sliced (b.map fun g=>(⟨g,0,none⟩:Addr)) ((l:Nat):Int).toNat len cap inf.size=ay b (if cap=l then 0 else l*inf.size) (len-l) (cap-l):=by
  unfold sliced ay;rw[Int.toNat_natCast]
  by_cases hc:cap=l
  ·rw[if_pos hc,if_pos hc]
  ·rw[if_neg hc,if_neg hc];cases b<;>simp[jR]
 rw[e1] at r1;simp[execOp,h2,h3,r1]) h
def Ub{T e:Nat}{b:Option Nat}{len cap off' n' c':Nat}{ki:IntKind}{inf:TI}(l:Nat)(hT:P.underlying T=some (.slice e))(hinf:dO P e inf=true)(hd:Nat.blt d nt=true)(hg:az ops ⟨some d,.slice T x (some y) none none,ty,pos,af,g⟩ t=some true)(hx:ev t x=some (ay b 0 len cap))(hy:ev t y=some (.int ki (l:Nat)))(h1:l<=len)(e1:(if cap=l then 0 else l*inf.size)=off')(e2:len-l=n')(e3:cap-l=c')
 (h:aY P bl ops rest ⟨nt,(d,ay b off' n' c')::t,L⟩ K):aY P bl ops (⟨some d,.slice T x (some y) none none,ty,pos,af,g⟩::rest) ⟨nt,t,L⟩ K:=by
 subst e1;subst e2;subst e3;exact qdz l hT hinf hd hg hx hy h1 h
def Wn{T e off2:Nat}{inf:TypeInfo}{bb:Option Nat}{len cap c2:Nat}{b2:Option Nat}(hT:P.underlying T=some (.slice e))(hi:P.info? e=some inf)(hd:Nat.blt d nt=true)
 (hg:az ops ⟨some d,.call {callee:= .builtin .append,args:= #[x,y],argTypes:= #[T,T]},ty,pos,af,g⟩ t=some true)
 (hx:ev t x=some (ay bb 0 len cap))(hcap:len<=cap)(hy:ev t y=some (ay b2 off2 0 c2))(h:aY P bl ops rest ⟨nt,(d,ay bb 0 len cap)::t,L⟩ K):
 aY P bl ops (⟨some d,.call {callee:= .builtin .append,args:= #[x,y],argTypes:= #[T,T]},ty,pos,af,g⟩::rest) ⟨nt,t,L⟩ K:=
 fD hd hg rfl (fun B a w hr=>by
 have hx':=hr.ev hx;have hy':=hr.ev hy;have hs:Src P inf.size T (ay b2 off2 0 c2) 0 [] w:=by
  cases b2 with
  |none=>exact Src.ofNil (P:=P) w hT c2
  |some g2=>exact Src.ofSlice (P:=P) w hT ⟨g2,off2,none⟩ 0 c2 [] bI (fun j u hj=>by simp at hj) (fun u hu=>by cases hu)
 have r1:=run_append_nothing (P:=P) w T T ty e inf hT hi (bb.map fun g=>⟨g,0,none⟩) len cap hcap (ay b2 off2 0 c2) hs;have r2:(execOp a.eval ⟨some d,.call {callee:= .builtin .append,args:= #[x,y],argTypes:= #[T,T]},ty,pos,af,g⟩).run P w=((Builtin.append_ #[T,T] ty #[ay bb 0 len cap,ay b2 off2 0 c2]).run P w).andThen fun v w=> .ok (.value v) w:=by
  simp[execOp,resolve,invoke,builtin,hx',hy']
 rw[r2];unfold ay at r1 ⊢;rw[r1];rfl) h
end
end Go.Via
namespace Go.Via
variable[Mo]
open Go Go.RowKit Go.MapKept
abbrev IM:=List (Int×Value)
def kvI(l:IM):List (Value×Value):=l.map fun p=>(.int .i64 p.1,p.2)
def kvE(e:MapEntry):Value×Value:=(e.key,e.val)
noncomputable def mI(l:IM):Nat:=mE (kvI l)
def YT(l:IM):Bool:=l.all fun p=>Value.simple p.2
def Wp{l:IM}(h:YT l=true):tJ (kvI l)=true:=by
 unfold tJ kvI;rw[List.all_map];refine List.all_eq_true.2 fun p hp=>?_
 have:=List.all_eq_true.1 h p hp;simp[Value.simple,Value.simple0] at this ⊢;exact this
theorem bg.map{B:Bs}{w:World}{L:List aJ}(h:bg B L w){k:Nat}{g:Nat}{l:IM}{own:Bool}(hs:YT l=true)(hk:L[k]? =some ⟨some g,mI l,[],0,own⟩):
 ∃es clock,w.heap[g]? =some (.map es clock)∧es.toList.map kvE=kvI l∧Stamped es clock:=by
 rcases((h.blk k _ hk).1 g rfl).1 with⟨cur,⟨_,_,_,_,hlt⟩,_⟩|⟨l',es,clock,a1,_,_,a4,a5,a6,a7⟩
 ·exact absurd hlt (qoo _)
 ·have e:kvI l=l':=by
   rcases a1 with a1|⟨_,_,a1,_⟩
   ·exact qlQ (Wp hs) a4 a1
   ·exact absurd a1 qlR
  subst e;exact⟨es,clock,a5,a6,a7⟩
section
variable{P:Program}{bl:List Nat}{ops:Array Oper}{K:St->Prop}{rest:List Oper}{nt:Nat}{t:List (Nat×Value)}{L:List aJ}{d:Nat}{ty:TypeId}{pos:String}{af:Array Edge}{gd:Option (Nat×Bool)}{x y z:Operand}
end
end Go.Via
namespace Go.Via
variable[Mo]
open Go Go.RowKit
section
variable{P:Program}{bl:List Nat}{ops:Array Oper}{K:St->Prop}{rest:List Oper}{nt:Nat}{t:List (Nat×Value)}{L:List aJ}{d:Nat}{ty:TypeId}{pos:String}{af:Array Edge}{g:Option (Nat×Bool)}{x y:Operand}
def KG{f:Nat}{args:List Operand}{ts:Array TypeId}{caps vs:List Value}{B:Bs}{w:World}{s:St}{a:Act}{dst:Option Nat}(hp:iR P f=true)(hr:kQ B s a w)(hf:ev s.t x=some (.func (.func f) #[] caps.toArray))(hv:args.map (ev s.t)=vs.map some):
 (execOp a.eval ⟨dst,.call {callee:= .value x,args:=args.toArray,argTypes:=ts},ty,pos,af,g⟩).run P w= .ok (.enter f (vs++caps).toArray) w:=by
 have hfv:=hr.ev hf;have hva:args.toArray.map a.eval=vs.toArray:=EL;unfold iR at hp;cases hq:P.funcs[f]? with
 |none=>rw[hq] at hp;cases hp
 |some fn=>
  rw[hq] at hp;simp only[Bool.and_eq_true,Bool.not_eq_true'] at hp;obtain⟨h1,h2⟩:=hp;have h3:fn.body≠none:=Yl
  have h4:¬fn.name= "runtime.NumGoroutine" :=Ig;simp[execOp,resolve,hfv,hva,Deferred.ofValue,invoke,callFunc,hq,h4,h3]
def qia{f:Nat}{args:List Operand}{ts:Array TypeId}{caps:List Value}(vs:List Value){L0:List aJ}{X:Type}[hX:Nonempty X]{res:X->Value}{new:X->List aJ}(ks:List Nat)(hd:Nat.blt d nt=true)(hg:az ops ⟨some d,.call {callee:= .value x,args:=args.toArray,argTypes:=ts},ty,pos,af,g⟩ t=some true)
 (hf:ev t x=some (.func (.func f) #[] caps.toArray))(hv:args.map (ev t)=vs.map some)(hc:bZ P f L0 (vs++caps) X res new)(hp:jq L (ks.map some) L0)(ho:(L0.all fun b=> !b.own)=true)(hn:∀x,∀b∈new x,b.own=true)
 (h:∀x,aY P bl ops rest ⟨nt,(d,res x)::t,L++new x⟩ K):
 aY P bl ops (⟨some d,.call {callee:= .value x,args:=args.toArray,argTypes:=ts},ty,pos,af,g⟩::rest) ⟨nt,t,L⟩ K:=
 EM hd hg rfl (X:=X) (res:=res) (new:=new) (fun B a w hr=>⟨f,(vs++caps).toArray,KG hc.1 hr hf hv,(hc.2 w (hr.mem.asArgs ks hp (fun b hb=>TB))).mono (by
 rintro e w' ⟨x,rfl,hx⟩;exact⟨x,rfl,hr.mem.joinF hx (hn x)⟩)⟩) (fun _=>⟨fun B a w hr=>⟨f,(vs++caps).toArray,KG hc.1 hr hf hv,(hc.2 w (hr.mem.asArgs ks hp (fun b hb=>TB))).mono (by
 rintro e w' ⟨x,rfl,hx⟩;exact⟨x,rfl,hx,hn x⟩)⟩,hX⟩) fun x=>h x
def qdA{f:Nat}{args:List Operand}{ts:Array TypeId}{caps:List Value}(vs:List Value){L0:List aJ}{v:Value}(ks:List Nat)(hd:Nat.blt d nt=true)(hg:az ops ⟨some d,.call {callee:= .value x,args:=args.toArray,argTypes:=ts},ty,pos,af,g⟩ t=some true)
 (hf:ev t x=some (.func (.func f) #[] caps.toArray))(hv:args.map (ev t)=vs.map some)(hc:bZ P f L0 (vs++caps) Unit (fun _=>v) (fun _=>[]))(hp:jq L (ks.map some) L0)(ho:(L0.all fun b=> !b.own)=true)
 (h:aY P bl ops rest ⟨nt,(d,v)::t,L⟩ K):
 aY P bl ops (⟨some d,.call {callee:= .value x,args:=args.toArray,argTypes:=ts},ty,pos,af,g⟩::rest) ⟨nt,t,L⟩ K:=
 qia vs ks hd hg hf hv hc hp ho (fun x b hb=>by cases hb) fun x=>by
  have:L++([]:List aJ)=L:=List.append_nil L;show aY P bl ops rest ⟨nt,(d,v)::t,L++[]⟩ K;rw[this];exact h
end
end Go.Via
namespace Go.Via
variable[Mo]
open Go Go.RowKit
structure OR(need s:Nat) where
 b:Option Nat
 n:Nat
 cap:Nat
 h:need<=cap
 hn:cap*s<=n
section
variable{P:Program}{bl:List Nat}{ops:Array Oper}{K:St->Prop}{rest:List Oper}{nt:Nat}{t:List (Nat×Value)}{L:List aJ}{d:Nat}{ty:TypeId}{pos:String}{af:Array Edge}{g:Option (Nat×Bool)}{x y:Operand}
def Wq{T e:Nat}{inf:TypeInfo}{z:Value}{b:aJ}{len cap b2o off2 n2 c2:Nat}{b2:aJ}(hem:e<dn)(k k2:Nat)(news:List Value)(mk:AR (len+n2) inf.size->List aJ)(hT:P.underlying T=some (.slice e))(hi:P.info? e=some inf)(hz:inf.zero=some z)(hs:0<inf.size)(hzs:z.cells.size=inf.size)(hbytes:inf.bytes<=1024)(hd:Nat.blt d nt=true)
 (hg:az ops ⟨some d,.call {callee:= .builtin .append,args:= #[x,y],argTypes:= #[T,T]},ty,pos,af,g⟩ t=some true)
 (hk:L[k]? =some b)(ho:b.own=true)(he:b.e=e)(hlen:b.cs.length=len*inf.size)(hcap:len<=cap)(hn:cap*inf.size<=b.n)(hx:ev t x=some (ay b.base 0 len cap))
 (hk2:L[k2]? =some b2)(hnew:(b2.cs.drop off2).take (n2*inf.size)=news)(hlen2:news.length=n2*inf.size)(hpos:0<n2)(hb2:b2.base=some b2o)(hy:ev t y=some (ay (some b2o) off2 n2 c2))(h1:∀v∈news,v.oneCell'=true)(hmax:len+n2<=17179869184)
 (hL:∀r,L.set k ⟨some r.g,e,b.cs++news,r.n,true⟩=mk r)
 (h:∀r:AR (len+n2) inf.size,aY P bl ops rest ⟨nt,(d,ay (some r.g) 0 (len+n2) r.cap)::t,mk r⟩ K):
 aY P bl ops (⟨some d,.call {callee:= .builtin .append,args:= #[x,y],argTypes:= #[T,T]},ty,pos,af,g⟩::rest) ⟨nt,t,L⟩ K:=
 Oq hd hg rfl rfl (X:=AR (len+n2) inf.size) (nx:=fun r=>⟨nt,(d,ay (some r.g) 0 (len+n2) r.cap)::t,mk r⟩) (fun hd'=>JQ fun B a w hr=>by
 have hx':=hr.ev hx;have hy':=hr.ev hy
 have hnews:∀j u,news[j]? =some u->w.cell? ((⟨b2o,off2,none⟩:Addr).add j)=some u:=fun j u hj=>by
  have hj2:b2.cs[off2+j]? =some u:=by
   rw[<-hnew] at hj;rw[List.getElem?_take] at hj
   split at hj
   ·rwa [List.getElem?_drop] at hj
   ·cases hj
  obtain⟨g',hg',h2⟩:=hr.mem.cell hk2 hj2;rw[hb2] at hg';cases hg';rw[jR];exact h2
 have hsrc:=Src.ofSlice (P:=P) w (size:=inf.size) hT ⟨b2o,off2,none⟩ n2 c2 news hlen2 hnews h1;have fin:∀v w',(Builtin.append_ #[T,T] ty #[ay b.base 0 len cap,ay (some b2o) off2 n2 c2]).run P w= .ok v w'->(execOp a.eval ⟨some d,.call {callee:= .builtin .append,args:= #[x,y],argTypes:= #[T,T]},ty,pos,af,g⟩).run P w= .ok (.value v) w':=fun v w' hv=>by
  simp[execOp,resolve,invoke,builtin,hx',hy',hv]
 by_cases hroom:len+n2<=cap
 ·
  obtain⟨gg,hgg⟩:∃gg,b.base=some gg:=by
   cases hbb:b.base with
   |some gg=>exact⟨gg,rfl⟩
   |none=>
    have:=((hr.mem.blk k b hk).2 hbb).2;have h3:1*1<=cap*inf.size:=Nat.mul_le_mul ae hs;omega
  obtain⟨cur,⟨e',fr,c1,cfr,_⟩,c2',c3⟩:=((hr.mem.blk k b hk).1 gg hgg).cells (.inl (by
 have h3:1*1<=cap*inf.size:=Nat.mul_le_mul (by omega) hs;omega))
  obtain⟨rfl,rfl⟩:=cfr ho;have hroomc:(len+n2)*inf.size<=cap*inf.size:=Nat.mul_le_mul_right _ hroom;have hsum:(len+n2)*inf.size=len*inf.size+n2*inf.size:=Nat.add_mul ..;have hfit:0+len*inf.size+news.length<=cur.size:=by rw[hlen2];omega
  have r1:=run_append_room_src (P:=P) w T T ty e inf hT hi gg 0 len cap (ay (some b2o) off2 n2 c2) n2 news hsrc hroom
   (fun j hj=>by
 rw[cell_of_row w gg _ cur b.e (0,0) c1];rw[Array.getElem?_eq_getElem (by omega)];rfl)
   (fun j hj=>by simp[World.frozen?,c1])
  rw[yF news w gg _ cur b.e c1 hfit] at r1;refine⟨_,_,(⟨gg,b.n,cap,hroom,hn⟩:AR (len+n2) inf.size),fin _ _ qko,?_⟩;refine hr.put hd' ?_;rw[<-hL];have hcur:cur.toList.take (0+len*inf.size)=b.cs:=by rw[Nat.zero_add,<-hlen];exact c3
  have h5:=hr.mem.set hk ho hgg (cur.toList.take (0+len*inf.size)++news++cur.toList.drop (0+len*inf.size+news.length)).toArray (b.cs++news)
   qcZ
   (by
 rw[hcur];simp only[List.append_assoc];rw[List.length_append,<-List.append_assoc,<-List.length_append];exact List.take_left)
  rw[hgg] at h5;rw[ho] at h5;rw[he] at h5;exact h5
 ·
  have hold:(Builtin.firstCells inf.size len (ay b.base 0 len cap)).run P w.drew= .ok b.cs.toArray w.drew:=by
   cases hbb:b.base with
   |none=>
    have:=((hr.mem.blk k b hk).2 hbb).1;rw[this];exact run_firstCells_none w.drew inf.size len len cap
   |some gg=>
    refine run_firstCells_some (P:=P) w.drew inf.size len ⟨gg,0,none⟩ len cap b.cs hlen (fun j v hj=>?_);obtain⟨g',hg',h2⟩:=hr.mem.cell hk hj;rw[hbb] at hg';cases hg';rw[jR,Nat.zero_add];exact h2
  have hge:=grownCap_ge w (len+n2) cap e;have hbb:(len+n2)*inf.bytes<=17179869184*1024:=Nat.mul_le_mul hmax hbytes;have hfit:Builtin.nextslicecap (len+n2) cap*inf.bytes<=281474976710656:=growslice_fits ae ae;have r1:=run_append_grow_src (P:=P) w T T ty e inf z hT hi hz (b.base.map fun g=>⟨g,0,none⟩) len cap b.cs hold (ay (some b2o) off2 n2 c2) n2 news hsrc ae ae hfit;refine⟨_,_,(⟨w.heap.size,(((b.cs++news).toArray++Builtin.zeroCells z.cells (grownCap w (len+n2) cap e-(len+n2))):Array Value).size,grownCap w (len+n2) cap e,hge,?_⟩:AR (len+n2) inf.size),fin _ _ r1,?_⟩
  ·have hz':(Builtin.zeroCells z.cells (grownCap w (len+n2) cap e-(len+n2))).size=(grownCap w (len+n2) cap e-(len+n2))*inf.size:=by
    unfold Builtin.zeroCells;simp[hzs]
   have hm:(grownCap w (len+n2) cap e-(len+n2))*inf.size+(len+n2)*inf.size=grownCap w (len+n2) cap e*inf.size:=by
    rw[<-Nat.add_mul,Nat.sub_add_cancel hge]
   have hsum:(len+n2)*inf.size=len*inf.size+n2*inf.size:=Nat.add_mul ..;rw[Array.size_append,hz'];simp only[List.size_toArray,List.length_append];omega
  ·refine hr.put hd' ?_;rw[<-hL];have h5:=(hr.mem.drew.alloc e ((b.cs++news).toArray++Builtin.zeroCells z.cells (grownCap w (len+n2) cap e-(len+n2))) hem);refine(h5.last (b':=⟨some w.heap.size,e,b.cs++news,((b.cs++news).toArray++Builtin.zeroCells z.cells (grownCap w (len+n2) cap e-(len+n2)):Array Value).size,true⟩) ⟨rfl,rfl,rfl,⟨(b.cs++news).length,?_⟩,fun _=>rfl⟩).swapIn k
   rw[Array.toList_append];exact(List.take_left (l₁:=b.cs++news)).symm) fun r=>h r
def iK{T e s:Nat}{zz:Value}{b:aJ}{len cap off2 n2 c2:Nat}{b2:aJ}(k k2:Nat)(news:List Value)(mk:OR (len+n2) s->List aJ)(hT:P.underlying T=some (.slice e))(hi:NQ P e s zz)(hd:Nat.blt d nt=true)
 (hg:az ops ⟨some d,.call {callee:= .builtin .append,args:= #[x,y],argTypes:= #[T,T]},ty,pos,af,g⟩ t=some true)
 (hk:L[k]? =some b)(ho:b.own=true)(he:b.e=e)(hx:ev t x=some (ay b.base 0 len cap))(hk2:L[k2]? =some b2)(hy:ev t y=some (ay b2.base off2 n2 c2))(hs:Nat.blt 0 s=true)(hzs:zz.cells.size=s)
 (hlen:b.cs.length=len*s)(hcap:len<=cap)(hn:cap*s<=b.n)(hb2:n2=0∨∃g,b2.base=some g)(hnew:(b2.cs.drop off2).take (n2*s)=news)(hlen2:news.length=n2*s)(h1:∀v∈news,v.oneCell'=true)(hmax:len+n2<=17179869184)
 (hL:∀r,L.set k ⟨r.b,e,b.cs++news,r.n,true⟩=mk r)
 (h:∀r:OR (len+n2) s,aY P bl ops rest ⟨nt,(d,ay r.b 0 (len+n2) r.cap)::t,mk r⟩ K):
 aY P bl ops (⟨some d,.call {callee:= .builtin .append,args:= #[x,y],argTypes:= #[T,T]},ty,pos,af,g⟩::rest) ⟨nt,t,L⟩ K:=by
 obtain⟨inf,i1,i2,i3,i5⟩:=Ae hi;subst i3;rcases Nat.eq_zero_or_pos n2 with h0|h0
 ·subst h0;refine Wn hT i1 hd hg hx hcap hy ?_;have hnw:news=[]:=List.eq_nil_of_length_eq_zero (by rw[hlen2];omega);have:=h ⟨b.base,b.n,cap,hcap,hn⟩;rw[<-hL,hnw,List.append_nil] at this;have hb:(⟨b.base,e,b.cs,b.n,true⟩:aJ)=b:=by rw[<-he,<-ho]
  rw[show(⟨b.base,b.n,cap,hcap,hn⟩:OR (len+0) inf.size).b=b.base from rfl,show(⟨b.base,b.n,cap,hcap,hn⟩:OR (len+0) inf.size).n=b.n from rfl,hb] at this;have hset:L.set k b=L:=by
   obtain⟨q1,q2⟩:=List.getElem?_eq_some_iff.1 hk;rw[<-q2];exact List.set_getElem_self q1
  rw[hset] at this;exact this
 ·obtain⟨b2o,hb2⟩:=hb2.resolve_left ae;rw[hb2] at hy;exact Wq hi.2 k k2 news (fun r=>mk ⟨some r.g,r.n,r.cap,r.h,r.hn⟩) hT i1 i2 (by simpa using hs) hzs ae hd hg hk ho he hlen hcap hn hx hk2 hnew hlen2 h0 hb2 hy h1 hmax (fun r=>hL ⟨some r.g,r.n,r.cap,r.h,r.hn⟩) (fun r=>h ⟨some r.g,r.n,r.cap,r.h,r.hn⟩)
end
end Go.Via
