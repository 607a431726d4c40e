/-
  Part 4 (chapter 32): lemmas, walks. Each theorem states its own conditions.
-/
import Derived.Deep.AppendSrc
import Derived.Laws.BytesArg
import Derived.Laws.CopyRow
import Derived.Laws.AppendOwn
import Derived.Test.YtaffcpfhedadhaaGreatDoorA03
set_option linter.all false
set_option maxRecDepth 20000
set_option maxHeartbeats 20000000
namespace Go.Via
variable[Mo]
open Go Go.RowKit
def NV(k:IntKind)(l:List Nat):List Value:=l.map fun(d:Nat)=>Value.int k (d:Int)
theorem aW(k:IntKind)(l:List Nat):(NV k l).length=l.length:=by simp[NV]
def bI{k:IntKind}{l:List Nat}{i d:Nat}(h:l[i]? =some d):(NV k l)[i]? =some (.int k (d:Int)):=by simp[NV,h]
theorem iO(k:IntKind)(l:List Nat)(i d:Nat):(NV k l).set i (.int k (d:Int))=NV k (l.set i d):=by simp[NV,List.map_set]
theorem LK(k:IntKind)(l m:List Nat):NV k l++NV k m=NV k (l++m):=by simp[NV]
theorem DV(k:IntKind)(l:List Nat)(n:Nat):(NV k l).take n=NV k (l.take n):=by simp[NV,List.map_take]
theorem Vb(k:IntKind)(l:List Nat)(n:Nat):(NV k l).drop n=NV k (l.drop n):=by simp[NV,List.map_drop]
theorem dS(k:IntKind)(n:Nat):List.replicate n (Value.int k 0)=NV k (List.replicate n 0):=by simp[NV]
structure SR(len:Nat) where
 b:Option Nat
 n:Nat
 cap:Nat
 h:len<=cap
instance{len:Nat}:Nonempty (SR len):=⟨⟨none,0,len,Nat.le_refl _⟩⟩
def az(b:Option Nat)(off len cap:Nat):Value:= .slice (b.map fun g=>⟨g,off,none⟩) len cap
def SR.v{len:Nat}(x:SR len):Value:=az x.b 0 len x.cap
def aC.le(b' b:aC):Prop:=b'.base=b.base∧b'.e=b.e∧b'.n=b.n∧(∃k,b'.cs=b.cs.take k)∧(b'.own=true->b.own=true)
theorem aC.le_refl(b:aC):b.le b:=⟨rfl,rfl,rfl,⟨b.cs.length,by simp⟩,id⟩
def qQ.le{B:Bs}{w:World}{b b':aC}{g:Nat}(h:qQ B w b g)(hl:b'.le b):qQ B w b' g:=by
 obtain⟨h0,h4⟩:=h;obtain⟨l1,l2,l3,⟨k,l4⟩,l5⟩:=hl;refine⟨?_,fun ho=>h4 (l5 ho)⟩
 rcases h0 with⟨cur,⟨e',fr,h1,hfr,hlt⟩,h2,h3⟩|⟨l,es,c,a1,a2,a3,a4,a5⟩
 ·refine .inl ⟨cur,⟨e',fr,h1,fun ho=>⟨by rw[l2];exact(hfr (l5 ho)).1,(hfr (l5 ho)).2⟩,by rw[l2];exact hlt⟩,by rw[l3];exact h2,?_⟩
  rw[l4,List.length_take,<-List.take_take,h3]
 ·exact .inr ⟨l,es,c,by rw[l2];exact a1,by rw[l4,a2];simp,by rw[l3];exact a3,a4,a5⟩
def jc(L:List aC):List (Option Nat)->List aC->Prop
 |[],[]=>True
 |some k::ks,b'::L'=>(∃b,L[k]? =some b∧b'.le b)∧jc L ks L'
 |none::ks,b'::L'=>(b'.base=none∧b'.cs=[]∧(b'.n==0&&Nat.blt b'.e cZ)=true)∧jc L ks L'
 |_,_=>False
def lG:List (Option Nat)->List Bool->Bool
 |some k::ks,true::os=> !ks.contains (some k)&&lG ks os
 |some k::ks,false::os=>((ks.zip os).all fun p=> !(p.2&&p.1==some k))&&lG ks os
 |none::ks,_::os=>lG ks os
 |_,_=>true
theorem jc.get{L:List aC}:∀{ks:List (Option Nat)} {L':List aC},jc L ks L'->∀(i:Nat) (b':aC),L'[i]? =some b'->
 (∃k b,ks[i]? =some (some k)∧L[k]? =some b∧b'.le b)∨(ks[i]? =some none∧b'.base=none∧b'.cs=[]∧(b'.n==0&&Nat.blt b'.e cZ)=true)
 |[],[],_,i,b',h=>by simp at h
 |some k::ks,c::L',hp,i,b',h=>by
  cases i with
  |zero=>simp at h;subst h;obtain⟨⟨b,h1,h2⟩,_⟩:=hp;exact .inl ⟨k,b,by simp,h1,h2⟩
  |succ i=>simp at h;simpa using jc.get hp.2 i b' h
 |none::ks,c::L',hp,i,b',h=>by
  cases i with
  |zero=>simp at h;subst h;exact .inr ⟨by simp,hp.1⟩
  |succ i=>simp at h;simpa using jc.get hp.2 i b' h
 |some _::_,[],hp,i,b',h=>by simp at h
 |none::_,[],hp,i,b',h=>by simp at h
 |[],_::_,hp,i,b',h=>hp.elim
def vg:∀{ks:List (Option Nat)} {os:List Bool},ks.length=os.length->lG ks os=true->∀(i j k:Nat),i≠j->ks[i]? =some (some k)->ks[j]? =some (some k)->os[i]? =some true->False
 |[],_,_,_,i,j,k,_,h,_,_=>by simp at h
 |some m::ks,true::os,hl,ha,i,j,k,hij,h1,h2,h3=>by
  simp only[lG,Bool.and_eq_true,Bool.not_eq_true',List.contains_eq_mem,decide_eq_false_iff_not] at ha;have hl':ks.length=os.length:=by simpa using hl
  cases i with
  |zero=>
   cases j with
   |zero=>exact hij rfl
   |succ j=>
    simp at h1 h2;subst h1;exact ha.1 (List.mem_of_getElem? h2)
  |succ i=>
   cases j with
   |zero=>simp at h1 h2;subst h2;exact ha.1 (List.mem_of_getElem? h1)
   |succ j=>simp at h1 h2 h3;exact vg hl' ha.2 i j k (by omega) h1 h2 h3
 |some m::ks,false::os,hl,ha,i,j,k,hij,h1,h2,h3=>by
  simp only[lG,Bool.and_eq_true,List.all_eq_true] at ha;have hl':ks.length=os.length:=by simpa using hl
  cases i with
  |zero=>simp at h3
  |succ i=>
   cases j with
   |zero=>
    simp at h1 h2 h3;subst h2;have hm:(some m,true)∈ks.zip os:=List.mem_of_getElem? (i:=i) (by rw[List.getElem?_zip_eq_some];exact⟨h1,h3⟩);have:=ha.1 _ hm;simp at this
   |succ j=>simp at h1 h2 h3;exact vg hl' ha.2 i j k (by omega) h1 h2 h3
 |none::ks,o::os,hl,ha,i,j,k,hij,h1,h2,h3=>by
  have hl':ks.length=os.length:=(by simpa using hl);cases i with
  |zero=>simp at h1
  |succ i=>
   cases j with
   |zero=>simp at h2
   |succ j=>simp at h1 h2 h3;exact vg hl' ha i j k (by omega) h1 h2 h3
 |some _::_,[],hl,_,i,j,k,_,_,_,_=>by simp at hl
 |none::_,[],hl,_,i,j,k,_,_,_,_=>by simp at hl
def aV.picks{B:Bs}{w:World}{L L':List aC}(h:aV B L w)(ks:List (Option Nat))(hp:jc L ks L')(hl:ks.length=L'.length)(ha:lG ks (L'.map (·.own))=true)
 :aV B L' w:=by
 refine⟨h.bel,fun k b hk=>?_,fun i j g bi bj hij hi hj ho hg hgj=>?_,h.grp.sub (fun b hb hn=>?_) (fun c hc ho g hg=>?_)⟩
 rotate_left 2
 ·obtain⟨k,hk⟩:=List.mem_iff_getElem?.1 hb;rcases hp.get k b hk with⟨m,c,_,h2,h3⟩|⟨_,h2,_,h3⟩
  ·exact .inr ⟨c,List.mem_of_getElem? h2,by rw[<-h3.1];exact hn,h3.2.1.symm,h3.2.2.2.2⟩
  ·simp only[Bool.and_eq_true,Nat.blt_eq] at h3;exact .inl h3.2
 ·obtain⟨k,hk⟩:=List.mem_iff_getElem?.1 hc;rcases hp.get k c hk with⟨m,c',_,h2,h3⟩|⟨_,h2,_⟩
  ·exact⟨c',List.mem_of_getElem? h2,h3.2.2.2.2 ho,by rw[<-h3.1];exact hg⟩
  ·rw[h2] at hg;cases hg
 ·rcases hp.get k b hk with⟨m,c,_,h2,h3⟩|⟨_,h2,h3⟩
  ·obtain⟨a1,a2⟩:=h.blk m c h2;refine⟨fun g hg=>(a1 g (by rw[<-h3.1];exact hg)).le h3,fun hn=>?_⟩
   obtain⟨b1,b2⟩:=a2 (by rw[<-h3.1];exact hn);obtain⟨_,_,l3,⟨q,l4⟩,_⟩:=h3;exact⟨by rw[l4,b1];simp,by rw[l3];exact b2⟩
  ·exact⟨fun g hg=>(by rw[h2] at hg;cases hg),fun _=>⟨h3.1,by have:=h3.2;simp at this;exact this.1⟩⟩
 ·rcases hp.get i bi hi with⟨mi,ci,h1,h2,h3⟩|⟨_,h2,_⟩
  ·rcases hp.get j bj hj with⟨mj,cj,g1,g2,g3⟩|⟨_,g2,_⟩
   ·by_cases e:mi=mj
    ·subst e;exact vg (by simpa using hl) ha i j mi hij h1 g1 (by rw[List.getElem?_map,hi];simp[ho])
    ·exact h.apart mi mj g ci cj e h2 g2 (h3.2.2.2.2 ho) (by rw[<-h3.1];exact hg) (by rw[<-g3.1];exact hgj)
   ·rw[g2] at hgj;cases hgj
  ·rw[h2] at hg;cases hg
def eH(L L':List aC):Prop:=∀B w,aV B L w->aV B L' w
def eH.refl(L:List aC):eH L L:=fun _ _ h=>h
def ak{L L':List aC}(ks:List (Option Nat))(hp:jc L ks L')(hl:ks.length=L'.length)(ha:lG ks (L'.map (·.own))=true):eH L L':=fun _ _ h=>h.picks ks hp hl ha
def aK{b:aC}{b':aC}(h:b'=b):b'.le b:=h▸b.le_refl
def qV{base:Option Nat}{e:TypeId}{cs:List Value}{n:Nat}{o:Bool}:aC.le ⟨base,e,cs,n,false⟩ ⟨base,e,cs,n,o⟩:=⟨rfl,rfl,rfl,⟨cs.length,by simp⟩,fun h=>by cases h⟩
def Vd{B:Bs}{X:Act->World->Prop}{nt:Nat}{t:List (Nat×Value)}{L:List aC}(L':List aC)(hw:eH L L')(h:At B ⟨nt,t,L'⟩ X):At B ⟨nt,t,L⟩ X:=fun a w hr=>h a w ⟨hr.df,hr.size,hr.tmp,hw _ _ hr.mem⟩
def bZ{B:Bs}{X:Act->World->Prop}{nt:Nat}{t:List (Nat×Value)}{L:List aC}{v:Value}(d:Nat)(v':Value)(hx:look t d=some v)(hv:v=v')(h:At B ⟨nt,(d,v')::t,L⟩ X):At B ⟨nt,t,L⟩ X:=fun a w hr=>
 h a w ⟨hr.df,hr.size,fun k u hk=>by
 by_cases e:d=k
 ·subst e;rw[dR] at hk;cases hk;rw[<-hv];exact hr.tmp d v hx
 ·rw[bY e] at hk;exact hr.tmp k u hk,hr.mem⟩
def Zz{B:Bs}{nt:Nat}{t:List (Nat×Value)}{L:List aC}{ι:Type}{inv:ι->St}{μ:ι->Nat}{i:ι}(j:ι)(t':List (Nat×Value))(L':List aC)(hj:inv j=⟨nt,t',L'⟩)(hμ:μ j<μ i)(ht:∀p∈t',look t p.1=some p.2)(hL:eH L L'):
 At B ⟨nt,t,L⟩ (fun a' w'=>∃j,μ j<μ i∧kH B (inv j) a' w'):=fun a w hr=>by
 refine⟨j,hμ,?_⟩;rw[hj];exact(⟨hr.df,hr.size,hr.tmp,hL _ _ hr.mem⟩:kH B ⟨nt,t,L'⟩ a w).sub fun d v hd=>ht (d,v) (tV hd)
def Xv{P:Program}{B:Bs}{Q:Exit->Act->World->Prop}{nt:Nat}{t:List (Nat×Value)}{L:List aC}{ι:Type}{c:Code}(inv:ι->St)(μ:ι->Nat)(i₀:ι)(t':List (Nat×Value))(L':List aC)(h₀:inv i₀=⟨nt,t',L'⟩)(ht:∀p∈t',look t p.1=some p.2)(hL:eH L L')
 (round:∀i,At B (inv i) (c.wp P (Exit.then (fun a' w'=>∃j,μ j<μ i∧kH B (inv j) a' w') Q))):At B ⟨nt,t,L⟩ ((Code.loop c).wp P Q):=
 qda inv μ i₀ (fun a w hr=>by rw[h₀];exact(⟨hr.df,hr.size,hr.tmp,hL _ _ hr.mem⟩:kH B ⟨nt,t,L'⟩ a w).sub fun d v hd=>ht (d,v) (tV hd)) round
def bW(P:Program)(f:Nat)(L:List aC)(args:List Value)(X:Type)(res:X->Value)(new:X->List aC):Prop:=
 iM P f=true∧∀w:World,aV w L w->Calls P f args.toArray w fun e w'=>∃x,e= .returned (res x)∧aV w (new x) w'
def aV.asArgs{B:Bs}{w:World}{L L':List aC}(h:aV B L w)(ks:List Nat)(hp:jc L (ks.map some) L')(ho:∀b∈L',b.own=false):aV w L' w:=by
 have hlen:∀{ks:List Nat} {L':List aC},jc L (ks.map some) L'->ks.length=L'.length:=by
  intro ks
  induction ks with
  |nil=>intro L' hp;cases L' with
   |nil=>rfl
   |cons c L'=>exact hp.elim
  |cons k ks ih=>intro L' hp;cases L' with
   |nil=>exact hp.elim
   |cons c L'=>simp[ih hp.2]
 refine⟨.of (eG.refl _ _),fun k b hk=>?_,fun i j g bi bj hij hi hj ho' hg hgj=>?_,fun b hb hn T hT he p hp'=>?_⟩
 rotate_left 2
 ·obtain⟨k,hk⟩:=List.mem_iff_getElem?.1 hb;refine⟨?_,(fun e=>by rw[ho b hb] at e;cases e),(fun c hc e=>by rw[ho c hc] at e;cases e)⟩;rcases hp.get k b hk with⟨m,c,_,h2,h3⟩|⟨_,h2,_,h3⟩
  ·exact(h.grp c (List.mem_of_getElem? h2) (by rw[<-h3.1];exact hn) T hT (by rw[<-h3.2.1];exact he) p hp').1
  ·simp only[Bool.and_eq_true,Nat.blt_eq] at h3;exact absurd (he▸h3.2) (Iu T)
 ·rcases hp.get k b hk with⟨m,c,_,h2,h3⟩|⟨_,h2,h3⟩
  ·obtain⟨a1,a2⟩:=h.blk m c h2;refine⟨fun g hg=>⟨((a1 g (by rw[<-h3.1];exact hg)).le h3).1,fun e=>?_⟩,fun hn=>?_⟩
   ·rw[ho b (List.mem_of_getElem? hk)] at e;cases e
   ·obtain⟨b1,b2⟩:=a2 (by rw[<-h3.1];exact hn);obtain⟨_,_,l3,⟨q,l4⟩,_⟩:=h3;exact⟨by rw[l4,b1];simp,by rw[l3];exact b2⟩
  ·exact⟨fun g hg=>(by rw[h2] at hg;cases hg),fun _=>⟨h3.1,by have:=h3.2;simp at this;exact this.1⟩⟩
 ·rw[ho bi (List.mem_of_getElem? hi)] at ho';cases ho'
section
variable{P:Program}{bl:List Nat}{ops:Array Oper}{K:St->Prop}{rest:List Oper}{nt:Nat}{t:List (Nat×Value)}{L:List aC}{d:Nat}{ty:TypeId}{pos:String}{af:Array Edge}{g:Option (Nat×Bool)}
def jr{f:Nat}{args:List Operand}{ts:Array TypeId}(vs:List Value){L0:List aC}{X:Type}[hX:Nonempty X]{res:X->Value}{new:X->List aC}(ks:List Nat)(hd:Nat.blt d nt=true)(hg:au ops ⟨some d,.call {callee:= .value (.func f),args:=args.toArray,argTypes:=ts},ty,pos,af,g⟩ t=some true)
 (hv:args.map (ev t)=vs.map some)(hc:bW P f L0 vs X res new)(hp:jc L (ks.map some) L0)(ho:(L0.all fun b=> !b.own)=true)(hn:False∨∀x,∀b∈new x,b.own=true)
 (h:∀x,aU P bl ops rest ⟨nt,(d,res x)::t,L++new x⟩ K):
 aU P bl ops (⟨some d,.call {callee:= .value (.func f),args:=args.toArray,argTypes:=ts},ty,pos,af,g⟩::rest) ⟨nt,t,L⟩ K:=
 DR hd hg rfl (X:=X) (res:=res) (new:=new) (qfU (s:=⟨nt,t,L⟩) rfl hv hc.1 fun B w hL=>(hc.2 w (hL.asArgs ks hp (fun b hb=>by simpa using List.all_eq_true.1 ho b hb))).mono (by
 rintro e w' ⟨x,rfl,hx⟩;exact⟨x,rfl,hL.joinF hx (hn.resolve_left id x)⟩)) (fun _=>⟨qgV (s:=⟨nt,t,L⟩) rfl hv hc.1 fun B w hL=>(hc.2 w (hL.asArgs ks hp (fun b hb=>by simpa using List.all_eq_true.1 ho b hb))).mono (by
 rintro e w' ⟨x,rfl,hx⟩;exact⟨x,rfl,hx,hn.resolve_left id x⟩),hX⟩) fun x=>h x
def gU{f:Nat}{args:List Operand}{ts:Array TypeId}(vs:List Value){L0:List aC}{v:Value}(ks:List Nat)(hd:Nat.blt d nt=true)(hg:au ops ⟨some d,.call {callee:= .value (.func f),args:=args.toArray,argTypes:=ts},ty,pos,af,g⟩ t=some true)
 (hv:args.map (ev t)=vs.map some)(hc:bW P f L0 vs Unit (fun _=>v) (fun _=>[]))(hp:jc L (ks.map some) L0)(ho:(L0.all fun b=> !b.own)=true)
 (h:aU P bl ops rest ⟨nt,(d,v)::t,L⟩ K):
 aU P bl ops (⟨some d,.call {callee:= .value (.func f),args:=args.toArray,argTypes:=ts},ty,pos,af,g⟩::rest) ⟨nt,t,L⟩ K:=
 jr vs ks hd hg hv hc hp ho (.inr fun x b hb=>by cases hb) fun x=>by
  have:L++([]:List aC)=L:=List.append_nil L;show aU P bl ops rest ⟨nt,(d,v)::t,L++[]⟩ K;rw[this];exact h
end
end Go.Via
namespace Go.Via
variable[Mo]
open Go Go.RowKit
def wi{n r:Int}(h0: -9223372036854775808<=n)(h1:n<=9223372036854775807)(e:n=r):IntKind.i64.wrap n=r:=by rw[IntKind.wrap_i64];omega
def wu{n r:Int}(h0:0<=n)(h1:n<18446744073709551616)(e:n=r):IntKind.u64.wrap n=r:=by
 subst e;simp[IntKind.wrap,IntKind.bits,IntKind.signed];omega
theorem qdf(n:Int):IntKind.u64.wrap n=n%18446744073709551616:=by simp[IntKind.wrap,IntKind.bits,IntKind.signed]
theorem qdg(n:Int):IntKind.u32.wrap n=n%4294967296:=by simp[IntKind.wrap,IntKind.bits,IntKind.signed]
theorem wu8(n:Int):IntKind.u8.wrap n=n%256:=by simp[IntKind.wrap,IntKind.bits,IntKind.signed]
theorem TA:IntKind.u64.bits=64:=rfl
theorem TB:IntKind.u32.bits=32:=rfl
theorem ZA(b m n:Nat)(hm:m<2^b)(hn:n<2^b):((BitVec.ofInt b (m:Int)|||BitVec.ofInt b (n:Int)).toNat:Int)=((m|||n:Nat):Int):=by
 rw[BitVec.toNat_or,BitVec.ofInt_natCast,BitVec.ofInt_natCast,BitVec.toNat_ofNat,BitVec.toNat_ofNat,Nat.mod_eq_of_lt hm,Nat.mod_eq_of_lt hn]
theorem ZB{m n:Nat}(i:Nat)(hn:n<2^i):(2^i*m|||n)=2^i*m+n:=(Nat.two_pow_add_eq_or_of_lt hn m).symm
def qgX{m n r:Nat}(i:Nat)(hn:n<2^i)(hr:2^i*m+n=r)(hb:r<4294967296){x y:Int}(hx:x=((2^i*m:Nat):Int))(hy:y=(n:Int)):
 IntKind.u32.wrap ((BitVec.ofInt IntKind.u32.bits x|||BitVec.ofInt IntKind.u32.bits y).toNat)=(r:Int):=by
 subst hx;subst hy;rw[TB,ZA 32 _ _ (by omega) (by omega),ZB i hn,qdg];omega
def II{m n r:Nat}(i:Nat)(hn:n<2^i)(hr:2^i*m+n=r)(hb:r<18446744073709551616){x y:Int}(hx:x=((2^i*m:Nat):Int))(hy:y=(n:Int)):
 IntKind.u64.wrap ((BitVec.ofInt IntKind.u64.bits x|||BitVec.ofInt IntKind.u64.bits y).toNat)=(r:Int):=by
 subst hx;subst hy;rw[TA,ZA 64 _ _ (by omega) (by omega),ZB i hn,qdf];omega
section
variable{P:Program}{bl:List Nat}{ops:Array Oper}{K:St->Prop}{rest:List Oper}{nt:Nat}{t:List (Nat×Value)}{L:List aC}{d:Nat}{ty:TypeId}{pos:String}{af:Array Edge}{g:Option (Nat×Bool)}{x y:Operand}
def qjf{op:BinOp}{T U:Nat}{k:IntKind}{m n r:Int}(hd:Nat.blt d nt=true)(hg:au ops ⟨some d,.binOp op T x y U,ty,pos,af,g⟩ t=some true)(hx:ev t x=some (.int k m))(hy:ev t y=some (.int k n))(hn:n≠0)
 (hr:(match op with| .quo=>some (k.wrap (m.tdiv n))| .rem=>some (m.tmod n)|_=>none)=some r)(h:aU P bl ops rest ⟨nt,(d,.int k r)::t,L⟩ K):
 aU P bl ops (⟨some d,.binOp op T x y U,ty,pos,af,g⟩::rest) ⟨nt,t,L⟩ K:=
 fG hd hg rfl (fun B a w hrel=>by
 have h1:=hrel.ev hx;have h2:=hrel.ev hy;cases op<;>simp at hr<;>subst hr<;>simp[execOp,h1,h2,eqGuard,binOp,Op.intDiv,hn]) h
def TC{T U:Nat}{k:IntKind}{m n r:Int}(hd:Nat.blt d nt=true)(hg:au ops ⟨some d,.binOp .or T x y U,ty,pos,af,g⟩ t=some true)(hx:ev t x=some (.int k m))(hy:ev t y=some (.int k n))
 (hr:k.wrap ((BitVec.ofInt k.bits m|||BitVec.ofInt k.bits n).toNat)=r)(h:aU P bl ops rest ⟨nt,(d,.int k r)::t,L⟩ K):
 aU P bl ops (⟨some d,.binOp .or T x y U,ty,pos,af,g⟩::rest) ⟨nt,t,L⟩ K:=
 fG hd hg rfl (fun B a w hrel=>by
 have h1:=hrel.ev hx;have h2:=hrel.ev hy;subst hr;simp[execOp,h1,h2,eqGuard,binOp,Op.intBits]) h
def qdh{op:BinOp}{T U:Nat}{k k':IntKind}{m n r:Int}(hd:Nat.blt d nt=true)(hg:au ops ⟨some d,.binOp op T x y U,ty,pos,af,g⟩ t=some true)(hx:ev t x=some (.int k m))(hy:ev t y=some (.int k' n))(hn:¬n<0)
 (hr:(match op with| .shl=>some (k.wrap (m*2^(min n.toNat k.bits)))| .shr=>some (m.fdiv (2^(min n.toNat k.bits)))|_=>none)=some r)(h:aU P bl ops rest ⟨nt,(d,.int k r)::t,L⟩ K):
 aU P bl ops (⟨some d,.binOp op T x y U,ty,pos,af,g⟩::rest) ⟨nt,t,L⟩ K:=
 fG hd hg rfl (fun B a w hrel=>by
 have h1:=hrel.ev hx;have h2:=hrel.ev hy;cases op<;>simp at hr<;>subst hr<;>simp[execOp,h1,h2,eqGuard,binOp,Op.shift,hn]) h
def qgY{S D:Nat}{k k':IntKind}{n r:Int}(hS:P.underlying S=some (.int k))(hD:P.underlying D=some (.int k'))(hd:Nat.blt d nt=true)(hg:au ops ⟨some d,.convert S D x,ty,pos,af,g⟩ t=some true)(hx:ev t x=some (.int k n))(hr:k'.wrap n=r)
 (h:aU P bl ops rest ⟨nt,(d,.int k' r)::t,L⟩ K):aU P bl ops (⟨some d,.convert S D x,ty,pos,af,g⟩::rest) ⟨nt,t,L⟩ K:=
 fG hd hg rfl (fun B a w hrel=>by
 have h1:P.intKind D=k':=(by simp[Program.intKind,hD]);have h2:=run_convert_int (P:=P) w S D k n (by rw[hS];rfl) (by rw[h1];exact hD);rw[h1,hr] at h2;simp[execOp,hrel.ev hx,h2]) h
def y8{T:Nat}{s:ByteArray}{k:IntKind}{i:Int}{b:UInt8}{r:Int}(hT:P.underlying T=some .string)(hd:Nat.blt d nt=true)(hg:au ops ⟨some d,.index T x y,ty,pos,af,g⟩ t=some true)(hx:ev t x=some (.string s))(hy:ev t y=some (.int k i))(hi:0<=i)
 (hb:s.data.toList[i.toNat]? =some b)(hr:(b.toNat:Int)=r)(h:aU P bl ops rest ⟨nt,(d,.int .u8 r)::t,L⟩ K):aU P bl ops (⟨some d,.index T x y,ty,pos,af,g⟩::rest) ⟨nt,t,L⟩ K:=
 fG hd hg rfl (fun B a w hrel=>by
 have h1:=run_index_string (P:=P) w T s k i hT;obtain⟨hlt,he⟩:=List.getElem?_eq_some_iff.1 hb;have hlt':i.toNat<s.size:=(by simpa using hlt);rw[dif_pos ⟨hi,by omega⟩] at h1;have h2:s[i.toNat]'hlt'=b:=he;rw[h2,hr] at h1;simp[execOp,hrel.ev hx,hrel.ev hy,h1]) h
def qgZ{T e:Nat}{b:Option Nat}{off len cap:Nat}(hT:P.underlying T=some (.slice e))(hd:Nat.blt d nt=true)(hg:au ops ⟨some d,.call {callee:= .builtin .len,args:= #[x],argTypes:= #[T]},ty,pos,af,g⟩ t=some true)(hx:ev t x=some (az b off len cap))(h:aU P bl ops rest ⟨nt,(d,.int .i64 len)::t,L⟩ K):
 aU P bl ops (⟨some d,.call {callee:= .builtin .len,args:= #[x],argTypes:= #[T]},ty,pos,af,g⟩::rest) ⟨nt,t,L⟩ K:=
 fG hd hg rfl (fun B a w hrel=>by
 have he:P.elem T=e:=(by simp[Program.elem,hT]);have:=run_len_slice (P:=P) w T ty (b.map fun g=>⟨g,off,none⟩) len cap (by rw[he];exact hT);have h2:=hrel.ev hx;unfold az at h2;simp[execOp,resolve,invoke,builtin,h2,this,goInt]) h
def ai{T e:Nat}{k:IntKind}{i:Int}{b:aC}{off len cap:Nat}{inf:TI}(kk off':Nat)(hT:P.underlying T=some (.slice e))(hinf:dP P e inf=true)(hd:Nat.blt d nt=true)(hg:au ops ⟨some d,.indexAddr T x y,ty,pos,af,g⟩ t=some true)
 (hk:(blank bl L)[kk]? =some b)(hx:ev t x=some (az b.base off len cap))(hy:ev t y=some (.int k i))(h0:0<=i)(h1:i<len)(hb:b.cs≠[])(ho:off+i.toNat*inf.size=off')
 (h:aU P bl ops rest ⟨nt,(d,b.at off')::t,L⟩ K):aU P bl ops (⟨some d,.indexAddr T x y,ty,pos,af,g⟩::rest) ⟨nt,t,L⟩ K:=
 fG hd hg rfl (fun B a w hrel=>by
 have he:P.elem T=e:=(by simp[Program.elem,hT]);have h2:=hrel.ev hx;have h3:=hrel.ev hy;cases hbb:b.base with
 |none=>exact absurd ((hrel.mem.blk kk b hk).2 hbb).1 hb
 |some gg=>
  rw[hbb] at h2;have:=run_indexAt_slice (P:=P) w T ⟨gg,off,none⟩ len cap k i (by rw[he];exact hT);rw[if_pos ⟨h0,h1⟩,he,oD hinf w] at this;simp only[Result.andThen_ok,ku,ho] at this;unfold az at h2;simp only[Option.map_some] at h2;unfold aC.at;rw[hbb];simp[execOp,h2,h3,this]) h
def sH{T e N:Nat}{k:IntKind}{i:Int}{gg:Nat}{off:Nat}{inf:TI}(off':Nat)(hT:P.underlying T=some (.array N e))(hinf:dP P e inf=true)(hd:Nat.blt d nt=true)(hg:au ops ⟨some d,.indexAddr T x y,ty,pos,af,g⟩ t=some true)
 (hx:ev t x=some (.pointer (some ⟨gg,off,none⟩)))(hy:ev t y=some (.int k i))(h0:0<=i)(h1:i<N)(ho:off+i.toNat*inf.size=off')
 (h:aU P bl ops rest ⟨nt,(d,.pointer (some ⟨gg,off',none⟩))::t,L⟩ K):aU P bl ops (⟨some d,.indexAddr T x y,ty,pos,af,g⟩::rest) ⟨nt,t,L⟩ K:=
 fG hd hg rfl (fun B a w hrel=>by
 have he:P.elem T=e:=(by simp[Program.elem,hT]);have hN:P.arrayLen T=N:=(by simp[Program.arrayLen,hT]);have h2:=hrel.ev hx;have h3:=hrel.ev hy;have:=run_indexAt_array (P:=P) w T ⟨gg,off,none⟩ k i (by rw[he,hN];exact hT);rw[hN,if_pos ⟨h0,h1⟩,he,oD hinf w] at this;simp only[Result.andThen_ok,ku,ho] at this;simp[execOp,h2,h3,this]) h
def Oj{T:Nat}{b:aC}{v:Value}(k off:Nat)(hi:dP P T ⟨false,1,[]⟩=true)(hd:Nat.blt d nt=true)(hg:au ops ⟨some d,.load T x,ty,pos,af,g⟩ t=some true)(hk:(blank bl L)[k]? =some b)(hx:ev t x=some (b.at off))
 (hv:b.cs[off]? =some v)(h:aU P bl ops rest ⟨nt,(d,v)::t,L⟩ K):
 aU P bl ops (⟨some d,.load T x,ty,pos,af,g⟩::rest) ⟨nt,t,L⟩ K:=by
 obtain⟨h1,h2⟩:=List.getElem?_eq_some_iff.1 hv;refine fG hd hg rfl (Zk (s:=St.bk ⟨nt,t,L⟩ bl) (vs:=[v]) rfl k hk hx hi ?_ rfl (by simp) rfl) h;rw[List.drop_eq_getElem_cons h1,h2];rfl
def BL{l:List Value}{i:Nat}{v:Value}(h:i<l.length):l.take i++[v]++l.drop (i+1)=l.set i v:=by
 rw[List.set_eq_take_append_cons_drop,if_pos h];simp
def ZC(hbl:E8 bl=false){T:Nat}{b:aC}{v:Value}(k off:Nat)(L':List aC)(cs':List Value)(hi:dP P T ⟨false,1,[]⟩=true)(hg:au ops ⟨none,.store T x y,ty,pos,af,g⟩ t=some true)(hk:L[k]? =some b)(ho:b.own=true)(hbb:b.base.isSome=true)(hx:ev t x=some (b.at off))
 (hy:ev t y=some v)(hv:v.cells= #[v])(h1:v.oneCell'=true)(hfit:off<b.cs.length)(hcs:b.cs.set off v=cs')(hL:L.set k {b with cs:=cs'}=L')
 (h:aU P bl ops rest ⟨nt,t,L'⟩ K):aU P bl ops (⟨none,.store T x y,ty,pos,af,g⟩::rest) ⟨nt,t,L⟩ K:=
 U8 hg rfl rfl (by
 have h4:=BL (v:=v) hfit;rw[hcs] at h4;have h5:=DN (P:=P) (o:=⟨none,.store T x y,ty,pos,af,g⟩) (s:=⟨nt,t,L⟩) rfl k hk ho hx hbb hy hi (by rw[hv];rfl) (by decide) hfit (by rw[hv];simp[h1]);rw[hv] at h5;have h6:Zc P ⟨none,.store T x y,ty,pos,af,g⟩ ⟨nt,t,L⟩ (L.set k {b with cs:=b.cs.take off++[v]++b.cs.drop (off+1)}):=h5
 rw[h4,hL] at h6;exact h6) (fun h2=>by rw[hbl] at h2;cases h2) h
def Xw{T:Nat}{b:aC}{v:Value}(k off:Nat)(L':List aC)(cs':List Value)(hi:dP P T ⟨false,1,[]⟩=true)(hg:au ops ⟨none,.store T x y,ty,pos,af,g⟩ t=some true)(hk:L[k]? =some b)(ho:b.own=true)(hbb:b.base.isSome=true)(hx:ev t x=some (b.at off))
 (hy:ev t y=some v)(hv:v.cells= #[v])(h1:v.oneCell'=true)(hfit:off<b.cs.length)(hcs:b.cs.set off v=cs')(hL:L.set k {b with cs:=cs'}=L')(hbl:blank bl L'=blank bl L)
 (h:aU P bl ops rest ⟨nt,t,L'⟩ K):aU P bl ops (⟨none,.store T x y,ty,pos,af,g⟩::rest) ⟨nt,t,L⟩ K:=
 U8 hg rfl rfl (by
 have h4:=BL (v:=v) hfit;rw[hcs] at h4;have h5:=DN (P:=P) (o:=⟨none,.store T x y,ty,pos,af,g⟩) (s:=⟨nt,t,L⟩) rfl k hk ho hx hbb hy hi (by rw[hv];rfl) (by decide) hfit (by rw[hv];simp[h1]);rw[hv] at h5;have h6:Zc P ⟨none,.store T x y,ty,pos,af,g⟩ ⟨nt,t,L⟩ (L.set k {b with cs:=b.cs.take off++[v]++b.cs.drop (off+1)}):=h5
 rw[h4,hL] at h6;exact h6) (fun _=>hbl) h
def DW{T e gg:Nat}{k:IntKind}{i:Int}{off len cap:Nat}{inf:TI}(off':Nat)(hT:P.underlying T=some (.slice e))(hinf:dP P e inf=true)(hd:Nat.blt d nt=true)(hg:au ops ⟨some d,.indexAddr T x y,ty,pos,af,g⟩ t=some true)
 (hx:ev t x=some (az (some gg) off len cap))(hy:ev t y=some (.int k i))(h0:0<=i)(h1:i<len)(ho:off+i.toNat*inf.size=off')
 (h:aU P bl ops rest ⟨nt,(d,.pointer (some ⟨gg,off',none⟩))::t,L⟩ K):aU P bl ops (⟨some d,.indexAddr T x y,ty,pos,af,g⟩::rest) ⟨nt,t,L⟩ K:=
 fG hd hg rfl (fun B a w hrel=>by
 have he:P.elem T=e:=(by simp[Program.elem,hT]);have h2:=hrel.ev hx;have h3:=hrel.ev hy;have:=run_indexAt_slice (P:=P) w T ⟨gg,off,none⟩ len cap k i (by rw[he];exact hT);rw[if_pos ⟨h0,h1⟩,he,oD hinf w] at this;simp only[Result.andThen_ok,ku,ho] at this;unfold az at h2;simp only[Option.map_some] at h2;simp[execOp,h2,h3,this]) h
end
end Go.Via
namespace Go.Via
variable[Mo]
open Go Go.RowKit
theorem yc:∀(vs:List Value) (w:World) (g o:Nat) (cur:Array Value) (t:TypeId),w.heap[g]? =some (.cells cur t (0,0))->o+vs.length<=cur.size->
 w.setCells g o vs=w.setRow g (cur.toList.take o++vs++cur.toList.drop (o+vs.length)).toArray
 |[],w,g,o,cur,t,hg,hl=>by
  have e:(cur.toList.take o++[]++cur.toList.drop (o+([]:List Value).length)).toArray=cur:=(by simp);rw[e,World.setCells];have hlt:g<w.heap.size:=(Array.getElem?_eq_some_iff.1 hg).1;have hv:w.heap[g]= .cells cur t (0,0):=(Array.getElem?_eq_some_iff.1 hg).2;have key:w.heap=(w.setRow g cur).heap:=by
   apply Array.ext
   ·simp[World.setRow]
   ·intro i h1 h2;have:(w.setRow g cur).heap[i]? =w.heap[i]? :=by
     by_cases e:i=g
     ·subst e;rw[setRow_heap w i cur cur t (0,0) hg,hg]
     ·exact setRow_other w g i cur e
    rw[Array.getElem?_eq_getElem h1,Array.getElem?_eq_getElem h2] at this;exact(Option.some.inj this).symm
  show w={w with heap:=(w.setRow g cur).heap}
  rw[<-key]
 |v::r,w,g,o,cur,t,hg,hl=>by
  simp only[List.length_cons] at hl;rw[World.setCells,setCell_eq_setRow w g o cur t (0,0) v hg,yc r _ g (o+1) (cur.setIfInBounds o v) t (setRow_heap w g cur _ t (0,0) hg) (by simp;omega),setRow_setRow]
  congr 1
  have e:=list_seg_step cur.toList o v r (by simp at hl ⊢;omega)
  simpa[Array.toList_setIfInBounds,Nat.add_assoc] using e
def aV.swapIn{B:Bs}{w:World}{L:List aC}{b:aC}(h:aV B (L++[b]) w)(k:Nat):aV B (L.set k b) w:=by
 by_cases hkl:k<L.length
 ·have hb:∀(m:Nat) (c:aC),(L.set k b)[m]? =some c->m<L.length∧(L++[b])[if m=k then L.length else m]? =some c:=fun m c hm=>by
   have hml:m<L.length:=(by have:=(List.getElem?_eq_some_iff.1 hm).1;simpa using this);refine⟨hml,?_⟩
   by_cases e:m=k
   ·subst e;rw[List.getElem?_set_self hkl] at hm;cases hm;simp
   ·rw[List.getElem?_set_ne (Ne.symm e)] at hm;rw[if_neg e,List.getElem?_append_left hml];exact hm
  refine⟨h.bel,fun m c hm=>h.blk _ c (hb m c hm).2,fun i j g bi bj hij hi hj ho hg hgj=>?_,h.grp.mem fun c hc=>by obtain⟨m,hm⟩:=List.mem_iff_getElem?.1 hc;exact List.mem_of_getElem? (hb m c hm).2⟩
  obtain⟨hi1,hi2⟩:=hb i bi hi;obtain⟨hj1,hj2⟩:=hb j bj hj;refine h.apart _ _ g bi bj ?_ hi2 hj2 ho hg hgj
  split<;>split<;>omega
 ·rw[List.set_eq_of_length_le (by omega)];exact h.take
def aV.mono{B:Bs}{w:World}{L L':List aC}(h:aV B L w)(hl:∀(k:Nat) (b':aC),L'[k]? =some b'->∃b,L[k]? =some b∧b'.le b):aV B L' w:=by
 refine⟨h.bel,fun k b hk=>?_,fun i j g bi bj hij hi hj ho hg hgj=>?_,h.grp.sub (fun b hb hn=>?_) (fun c hc ho g hg=>?_)⟩
 rotate_left 2
 ·obtain⟨k,hk⟩:=List.mem_iff_getElem?.1 hb;obtain⟨c,h2,h3⟩:=hl k b hk;exact .inr ⟨c,List.mem_of_getElem? h2,by rw[<-h3.1];exact hn,h3.2.1.symm,h3.2.2.2.2⟩
 ·obtain⟨k,hk⟩:=List.mem_iff_getElem?.1 hc;obtain⟨c',h2,h3⟩:=hl k c hk;exact⟨c',List.mem_of_getElem? h2,h3.2.2.2.2 ho,by rw[<-h3.1];exact hg⟩
 ·obtain⟨c,h2,h3⟩:=hl k b hk;obtain⟨a1,a2⟩:=h.blk k c h2;refine⟨fun g hg=>(a1 g (by rw[<-h3.1];exact hg)).le h3,fun hn=>?_⟩
  obtain⟨b1,b2⟩:=a2 (by rw[<-h3.1];exact hn);obtain⟨_,_,l3,⟨q,l4⟩,_⟩:=h3;exact⟨by rw[l4,b1];simp,by rw[l3];exact b2⟩
 ·obtain⟨ci,h2,h3⟩:=hl i bi hi;obtain⟨cj,g2,g3⟩:=hl j bj hj;exact h.apart i j g ci cj hij h2 g2 (h3.2.2.2.2 ho) (by rw[<-h3.1];exact hg) (by rw[<-g3.1];exact hgj)
theorem aV.last{B:Bs}{w:World}{L:List aC}{b b':aC}(h:aV B (L++[b]) w)(hl:b'.le b):aV B (L++[b']) w:=h.mono fun k c hk=>by
 rw[List.getElem?_append] at hk ⊢
 split at hk
 ·rename_i h1;rw[if_pos h1];exact⟨c,hk,c.le_refl⟩
 ·rename_i h1
  rw[if_neg h1];cases hq:k-L.length with
  |zero=>rw[hq] at hk;simp at hk;subst hk;exact⟨b,by simp,hl⟩
  |succ q=>rw[hq] at hk;simp at hk
structure AR(need s:Nat) where
 g:Nat
 n:Nat
 cap:Nat
 h:need<=cap
 hn:cap*s<=n
section
variable{P:Program}{bl:List Nat}{ops:Array Oper}{K:St->Prop}{rest:List Oper}{nt:Nat}{t:List (Nat×Value)}{L:List aC}{d:Nat}{ty:TypeId}{pos:String}{af:Array Edge}{g:Option (Nat×Bool)}{x y:Operand}
def iD{T e:Nat}{b:Option Nat}{len cap:Nat}{k:IntKind}{h':Int}{inf:TI}(len':Nat)(hT:P.underlying T=some (.slice e))(hinf:dP P e inf=true)(hd:Nat.blt d nt=true)(hg:au ops ⟨some d,.slice T x none (some y) none,ty,pos,af,g⟩ t=some true)(hx:ev t x=some (az b 0 len cap))(hy:ev t y=some (.int k h'))(h0:0<=h')(h1:h'<=cap)(hl:h'.toNat=len')
 (h:aU P bl ops rest ⟨nt,(d,az b 0 len' cap)::t,L⟩ K):aU P bl ops (⟨some d,.slice T x none (some y) none,ty,pos,af,g⟩::rest) ⟨nt,t,L⟩ K:=
 fG hd hg rfl (fun B a w hrel=>by
 have he:P.elem T=e:=(by simp[Program.elem,hT]);have hT':P.underlying T=some (.slice (P.elem T)):=(by rw[he];exact hT);have h2:=hrel.ev hx;have h3:=hrel.ev hy;unfold az at h2;have r1:=run_sliceAt_slice (P:=P) w T (.slice (b.map fun g=>⟨g,0,none⟩) len cap) none (some (.int k h')) none hT';rw[run_slice_h (P:=P) w T (b.map fun g=>⟨g,0,none⟩) len cap hT' k h' h0 h1,he,oD hinf w] at r1;simp only[Result.andThen_ok] at r1;have e1:sliced (b.map fun g=>(⟨g,0,none⟩:Addr)) 0 h'.toNat cap inf.size=az b 0 len' cap:=by
  unfold sliced az;rw[hl];cases b<;>simp[ku]
 rw[e1] at r1;simp[execOp,h2,h3,r1]) h
def Qe{T e:Nat}{k:IntKind}{c:Nat}{inf:TypeInfo}{z:Value}{m:Int}(hem:e<cZ)(cs:List Value)(mk:Nat->List aC)(hT:P.underlying T=some (.slice e))(hi:P.info? e=some inf)(hz:inf.zero=some z)(hs:inf.size=1)(hz1:z.cells= #[z])(hd:Nat.blt d nt=true)
 (hg:au ops ⟨some d,.makeSlice T x y,ty,pos,af,g⟩ t=some true)(hx:ev t x=some (.int k m))(hy:ev t y=some (.int k m))(hm:m=(c:Int))(hb:inf.bytes<=512)(hc:c<=137438953472)(hcs:List.replicate c z=cs)(hL:∀b,L++[⟨some b,e,cs,c,true⟩]=mk b)
 (h:∀b,aU P bl ops rest ⟨nt,(d,az (some b) 0 c c)::t,mk b⟩ K):aU P bl ops (⟨some d,.makeSlice T x y,ty,pos,af,g⟩::rest) ⟨nt,t,L⟩ K:=
 LJ hd hg rfl rfl (X:=Nat) (nx:=fun b=>⟨nt,(d,az (some b) 0 c c)::t,mk b⟩) (fun hd'=>IE fun B a w hr=>by
 subst hm;have hbb:inf.bytes*c<=512*137438953472:=Nat.mul_le_mul hb hc;have r1:=run_make (P:=P) w T e inf z hT hi hz k k (c:Int) (c:Int) (by omega) (Int.le_refl _) (by
 have:((inf.bytes*c:Nat):Int)<=281474976710656:=by omega
 rwa [Int.natCast_mul] at this) (by omega)
 simp only[Int.toNat_natCast,hs,Nat.mul_one,hz1] at r1;have e1:madeCells #[z] c=(List.replicate c z).toArray:=by
  unfold madeCells
  apply Array.ext
  ·simp
  ·intro i h1 h2;simp[Nat.mod_one]
 rw[e1] at r1;refine⟨az (some w.heap.size) 0 c c,w.alloc (.cells (List.replicate c z).toArray e),w.heap.size,by
 have r2:(execOp a.eval ⟨some d,.makeSlice T x y,ty,pos,af,g⟩).run P w=((Instr.makeSlice T (.int k (c:Int)) (.int k (c:Int))).run P w).andThen fun v w=> .ok (.value v) w:=by
  simp[execOp,hr.ev hx,hr.ev hy,Sem.run_bind]
 rw[r2,r1];rfl,?_⟩
 have h1:=hr.mem.alloc e (List.replicate c z).toArray hem;simp only[List.size_toArray,List.length_replicate] at h1;rw[<-hL,<-hcs];exact hr.put hd' h1) fun b=>h b
def Qg{T e:Nat}{inf:TypeInfo}{z:Value}{b:aC}{len cap b2o n2 c2:Nat}{b2:aC}(hem:e<cZ)(k k2:Nat)(mk:AR (len+n2) inf.size->List aC)(hT:P.underlying T=some (.slice e))(hi:P.info? e=some inf)(hz:inf.zero=some z)(hs:0<inf.size)(hzs:z.cells.size=inf.size)(hbytes:inf.bytes<=1024)(hd:Nat.blt d nt=true)
 (hg:au ops ⟨some d,.call {callee:= .builtin .append,args:= #[x,y],argTypes:= #[T,T]},ty,pos,af,g⟩ t=some true)
 (hk:L[k]? =some b)(ho:b.own=true)(he:b.e=e)(hlen:b.cs.length=len*inf.size)(hcap:len<=cap)(hn:cap*inf.size<=b.n)(hx:ev t x=some (az b.base 0 len cap))
 (hk2:L[k2]? =some b2)(hlen2:b2.cs.length=n2*inf.size)(hpos:0<n2)(hb2:b2.base=some b2o)(hy:ev t y=some (az (some b2o) 0 n2 c2))(h1:∀v∈b2.cs,v.oneCell'=true)(hmax:len+n2<=17179869184)
 (hL:∀r,L.set k ⟨some r.g,e,b.cs++b2.cs,r.n,true⟩=mk r)
 (h:∀r:AR (len+n2) inf.size,aU P bl ops rest ⟨nt,(d,az (some r.g) 0 (len+n2) r.cap)::t,mk r⟩ K):
 aU P bl ops (⟨some d,.call {callee:= .builtin .append,args:= #[x,y],argTypes:= #[T,T]},ty,pos,af,g⟩::rest) ⟨nt,t,L⟩ K:=
 LJ hd hg rfl rfl (X:=AR (len+n2) inf.size) (nx:=fun r=>⟨nt,(d,az (some r.g) 0 (len+n2) r.cap)::t,mk r⟩) (fun hd'=>IE fun B a w hr=>by
 have hx':=hr.ev hx;have hy':=hr.ev hy
 have hnews:∀j u,b2.cs[j]? =some u->w.cell? ((⟨b2o,0,none⟩:Addr).add j)=some u:=fun j u hj=>by
  obtain⟨g',hg',h2⟩:=hr.mem.cell hk2 hj;rw[hb2] at hg';cases hg';rw[ku,Nat.zero_add];exact h2
 have hsrc:=Src.ofSlice (P:=P) w (size:=inf.size) hT ⟨b2o,0,none⟩ n2 c2 b2.cs hlen2 hnews h1;have fin:∀v w',(Builtin.append_ #[T,T] ty #[az b.base 0 len cap,az (some b2o) 0 n2 c2]).run P w= .ok v w'->(execOp a.eval ⟨some d,.call {callee:= .builtin .append,args:= #[x,y],argTypes:= #[T,T]},ty,pos,af,g⟩).run P w= .ok (.value v) w':=fun v w' hv=>by
  simp[execOp,resolve,invoke,builtin,hx',hy',hv]
 by_cases hroom:len+n2<=cap
 ·
  obtain⟨gg,hgg⟩:∃gg,b.base=some gg:=by
   cases hbb:b.base with
   |some gg=>exact⟨gg,rfl⟩
   |none=>
    have:=((hr.mem.blk k b hk).2 hbb).2;have h3:1*1<=cap*inf.size:=Nat.mul_le_mul (by omega) hs;omega
  obtain⟨cur,⟨e',fr,c1,cfr,_⟩,c2',c3⟩:=((hr.mem.blk k b hk).1 gg hgg).cells (.inl (by
 have h3:1*1<=cap*inf.size:=Nat.mul_le_mul (by omega) hs;omega))
  obtain⟨rfl,rfl⟩:=cfr ho;have hroomc:(len+n2)*inf.size<=cap*inf.size:=Nat.mul_le_mul_right _ hroom;have hsum:(len+n2)*inf.size=len*inf.size+n2*inf.size:=Nat.add_mul ..;have hfit:0+len*inf.size+b2.cs.length<=cur.size:=by rw[hlen2];omega
  have r1:=run_append_room_src (P:=P) w T T ty e inf hT hi gg 0 len cap (az (some b2o) 0 n2 c2) n2 b2.cs hsrc hroom
   (fun j hj=>by
 rw[cell_of_row w gg _ cur b.e (0,0) c1];rw[Array.getElem?_eq_getElem (by omega)];rfl)
   (fun j hj=>by simp[World.frozen?,c1])
  rw[yc b2.cs w gg _ cur b.e c1 hfit] at r1;refine⟨_,_,(⟨gg,b.n,cap,hroom,hn⟩:AR (len+n2) inf.size),fin _ _ (by unfold az at r1 ⊢;rw[hgg];exact r1),?_⟩;refine hr.put hd' ?_;rw[<-hL];have hcur:cur.toList.take (0+len*inf.size)=b.cs:=by rw[Nat.zero_add,<-hlen];exact c3
  have h5:=hr.mem.set hk ho hgg (cur.toList.take (0+len*inf.size)++b2.cs++cur.toList.drop (0+len*inf.size+b2.cs.length)).toArray (b.cs++b2.cs)
   (by simp only[List.size_toArray,List.length_append,List.length_take,List.length_drop,Array.length_toList];omega)
   (by
 rw[hcur];simp only[List.append_assoc];rw[List.length_append,<-List.append_assoc,<-List.length_append];exact List.take_left)
  rw[hgg] at h5;rw[ho] at h5;rw[he] at h5;exact h5
 ·
  have hold:(Builtin.firstCells inf.size len (az b.base 0 len cap)).run P w.drew= .ok b.cs.toArray w.drew:=by
   cases hbb:b.base with
   |none=>
    have:=((hr.mem.blk k b hk).2 hbb).1;rw[this];exact run_firstCells_none w.drew inf.size len len cap
   |some gg=>
    refine run_firstCells_some (P:=P) w.drew inf.size len ⟨gg,0,none⟩ len cap b.cs hlen (fun j v hj=>?_);obtain⟨g',hg',h2⟩:=hr.mem.cell hk hj;rw[hbb] at hg';cases hg';rw[ku,Nat.zero_add];exact h2
  have hge:=grownCap_ge w (len+n2) cap e;have hbb:(len+n2)*inf.bytes<=17179869184*1024:=Nat.mul_le_mul hmax hbytes;have hfit:Builtin.nextslicecap (len+n2) cap*inf.bytes<=281474976710656:=growslice_fits (by omega) (by omega);have r1:=run_append_grow_src (P:=P) w T T ty e inf z hT hi hz (b.base.map fun g=>⟨g,0,none⟩) len cap b.cs hold (az (some b2o) 0 n2 c2) n2 b2.cs hsrc (by omega) (by omega) hfit;refine⟨_,_,(⟨w.heap.size,(((b.cs++b2.cs).toArray++Builtin.zeroCells z.cells (grownCap w (len+n2) cap e-(len+n2))):Array Value).size,grownCap w (len+n2) cap e,hge,?_⟩:AR (len+n2) inf.size),fin _ _ r1,?_⟩
  ·have hz':(Builtin.zeroCells z.cells (grownCap w (len+n2) cap e-(len+n2))).size=(grownCap w (len+n2) cap e-(len+n2))*inf.size:=by
    unfold Builtin.zeroCells;simp[hzs]
   have hm:(grownCap w (len+n2) cap e-(len+n2))*inf.size+(len+n2)*inf.size=grownCap w (len+n2) cap e*inf.size:=by
    rw[<-Nat.add_mul,Nat.sub_add_cancel hge]
   have hsum:(len+n2)*inf.size=len*inf.size+n2*inf.size:=Nat.add_mul ..;rw[Array.size_append,hz'];simp only[List.size_toArray,List.length_append];omega
  ·refine hr.put hd' ?_;rw[<-hL];have h5:=(hr.mem.drew.alloc e ((b.cs++b2.cs).toArray++Builtin.zeroCells z.cells (grownCap w (len+n2) cap e-(len+n2))) hem);refine(h5.last (b':=⟨some w.heap.size,e,b.cs++b2.cs,((b.cs++b2.cs).toArray++Builtin.zeroCells z.cells (grownCap w (len+n2) cap e-(len+n2)):Array Value).size,true⟩) ⟨rfl,rfl,rfl,⟨(b.cs++b2.cs).length,?_⟩,fun _=>rfl⟩).swapIn k
   rw[Array.toList_append];exact(List.take_left (l₁:=b.cs++b2.cs)).symm) fun r=>h r
end
end Go.Via
