/-
  Part 9 (chapter 32): lemmas, walks. Each theorem states its own conditions.
-/
import GoSem.Core.World
import Derived.MapKept
import Derived.WalkKit
import Derived.WalkSpells
import Derived.WalkLawsBesides
import Derived.Deep.LoopGhost
import Derived.Deep.AppendSrc
import Derived.Laws.BytesArg
import Derived.Laws.CopyRow
import Derived.Laws.AppendOwn
import Derived.Deep.Upon
import Derived.Test.YtaffcpfhedadhaaGreatDoorA08
set_option linter.all false
set_option maxRecDepth 20000
set_option maxHeartbeats 20000000
section
variable{P Q:Prop}{T:Type}{R:T->Prop}
def qfU(h:P:=by obtain⟨b1,b2⟩:=a2 qf1;obtain⟨_,_,l3,⟨q,l4⟩,_⟩:=h3;exact⟨by rw[l4,b1];simp,by rw[l3];exact b2⟩):=h
def qfV(h:P:=by subst i3;exact qf9 hi.2 k k2 mk hT i1 i2 (by simpa using hs) hzs ae hd hg hk ho he hlen hcap hn hx hk2 hlen2 qbq hb2 hy h1 hmax hL h):=h
def Tj(h:P:=by simp[IntKind.wrap,IntKind.bits,IntKind.signed]):=h
def qfW(h:P:=by exact⟨fun g hg=>(by rw[h2] at hg;cases hg),fun _=>⟨h3.1,by have:=h3.2;simp at this;exact this.1⟩⟩):=h
def Yv(h:P:=by simp[IntKind.wrap,IntKind.bits,IntKind.signed];omega):=h
def qfX(h:P:=by exact .inr ⟨c,List.mem_of_getElem? h2,qf1,h3.2.1.symm,h3.2.2.2.2⟩):=h
def qfY(h:P:=by
 refine⟨fun g hg=>(a1 g VI).le h3,fun hn=>?_⟩
 exact qfU):=h
def qfZ(h:P:=by exact⟨c',List.mem_of_getElem? h2,h3.2.2.2.2 ho,VI⟩):=h
def qf0(h:P:=by
 skip
 split at e<;>split at e<;>(try split at e)<;>(try split at e)<;>omega):=h
def QF(h:P:=by simpa using hl):=h
def VI(h:P:=by rw[<-h3.1];exact hg):=h
def Ak(h:P:=by cases h):=h
def qf1(h:P:=by rw[<-h3.1];exact hn):=h
def VJ(h:P:=by simpa using List.all_eq_true.1 ho b hb):=h
def qu1(h:P:=by rw[IntKind.wrap_i64];omega):=h
def Eu(h:P:=by simp[Program.elem,hT]):=h
def JU(h:P:=by rw[he];exact hT):=h
def qp0(h:P:=by unfold aB at r1 ⊢;rw[hgg];exact r1):=h
def qf2(h:P:=by simp only[List.size_toArray,List.length_append,List.length_take,List.length_drop,Array.length_toList];omega):=h
end
namespace Go.Via
variable[Mo]
open Go Go.RowKit
def NV(k:IntKind)(l:List Nat):List Value:=l.map fun(d:Nat)=>Value.int k (d:Int)
theorem jJ(k:IntKind)(l:List Nat):(NV k l).length=l.length:=by simp[NV]
def gz{k:IntKind}{l:List Nat}{i d:Nat}(h:l[i]? =some d):(NV k l)[i]? =some (.int k (d:Int)):=by simp[NV,h]
theorem lK(k:IntKind)(l:List Nat)(i d:Nat):(NV k l).set i (.int k (d:Int))=NV k (l.set i d):=by simp[NV,List.map_set]
theorem QG(k:IntKind)(l m:List Nat):NV k l++NV k m=NV k (l++m):=by simp[NV]
theorem qbt(k:IntKind)(l:List Nat)(n:Nat):(NV k l).take n=NV k (l.take n):=by simp[NV,List.map_take]
theorem qbu(k:IntKind)(l:List Nat)(n:Nat):(NV k l).drop n=NV k (l.drop n):=by simp[NV,List.map_drop]
theorem ik(k:IntKind)(n:Nat):List.replicate n (Value.int k 0)=NV k (List.replicate n 0):=by simp[NV]
structure SR(len:Nat) where
 b:Option Nat
 n:Nat
 cap:Nat
 h:len<=cap
instance{len:Nat}:Nonempty (SR len):=⟨⟨none,0,len,Nat.le_refl _⟩⟩
def aB(b:Option Nat)(off len cap:Nat):Value:= .slice (b.map fun g=>⟨g,off,none⟩) len cap
def SR.v{len:Nat}(x:SR len):Value:=aB x.b 0 len x.cap
def aF.le(b' b:aF):Prop:=b'.base=b.base∧b'.e=b.e∧b'.n=b.n∧(∃k,b'.cs=b.cs.take k)∧(b'.own=true->b.own=true)
theorem aF.le_refl(b:aF):b.le b:=⟨rfl,rfl,rfl,⟨b.cs.length,bz⟩,id⟩
def tq.le{B:Bs}{w:World}{b b':aF}{g:Nat}(h:tq B w b g)(hl:b'.le b):tq B w b' g:=by
 obtain⟨h0,h4⟩:=h;obtain⟨l1,l2,l3,⟨k,l4⟩,l5⟩:=hl;refine⟨?_,fun ho=>h4 (l5 ho)⟩
 rcases h0 with⟨cur,⟨e',fr,h1,hfr,hlt⟩,h2,h3⟩|⟨l,es,c,a1,a2,a3,a4,a5⟩
 ·refine .inl ⟨cur,⟨e',fr,h1,fun ho=>⟨by rw[l2];exact(hfr (l5 ho)).1,(hfr (l5 ho)).2⟩,by rw[l2];exact hlt⟩,by rw[l3];exact h2,?_⟩
  rw[l4,List.length_take,<-List.take_take,h3]
 ·exact .inr ⟨l,es,c,by rw[l2];exact a1,by rw[l4,a2];simp,by rw[l3];exact a3,a4,a5⟩
def jf(L:List aF):List (Option Nat)->List aF->Prop
 |[],[]=>True
 |some k::ks,b'::L'=>(∃b,L[k]? =some b∧b'.le b)∧jf L ks L'
 |none::ks,b'::L'=>(b'.base=none∧b'.cs=[]∧(b'.n==0&&Nat.blt b'.e cO)=true)∧jf L ks L'
 |_,_=>False
def lL:List (Option Nat)->List Bool->Bool
 |some k::ks,true::os=> !ks.contains (some k)&&lL ks os
 |some k::ks,false::os=>((ks.zip os).all fun p=> !(p.2&&p.1==some k))&&lL ks os
 |none::ks,_::os=>lL ks os
 |_,_=>true
theorem jf.get{L:List aF}:∀{ks:List (Option Nat)} {L':List aF},jf L ks L'->∀(i:Nat) (b':aF),L'[i]? =some b'->
 (∃k b,ks[i]? =some (some k)∧L[k]? =some b∧b'.le b)∨(ks[i]? =some none∧b'.base=none∧b'.cs=[]∧(b'.n==0&&Nat.blt b'.e cO)=true)
 |[],[],_,i,b',h=>by simp at h
 |some k::ks,c::L',hp,i,b',h=>by
  cases i with
  |zero=>simp at h;subst h;obtain⟨⟨b,h1,h2⟩,_⟩:=hp;exact .inl ⟨k,b,bz,h1,h2⟩
  |succ i=>simp at h;simpa using jf.get hp.2 i b' h
 |none::ks,c::L',hp,i,b',h=>by
  cases i with
  |zero=>simp at h;subst h;exact .inr ⟨bz,hp.1⟩
  |succ i=>simp at h;simpa using jf.get hp.2 i b' h
 |some _::_,[],hp,i,b',h=>by simp at h
 |none::_,[],hp,i,b',h=>by simp at h
 |[],_::_,hp,i,b',h=>hp.elim
def xE:∀{ks:List (Option Nat)} {os:List Bool},ks.length=os.length->lL ks os=true->∀(i j k:Nat),i≠j->ks[i]? =some (some k)->ks[j]? =some (some k)->os[i]? =some true->False
 |[],_,_,_,i,j,k,_,h,_,_=>by simp at h
 |some m::ks,true::os,hl,ha,i,j,k,hij,h1,h2,h3=>by
  simp only[lL,Bool.and_eq_true,Bool.not_eq_true',List.contains_eq_mem,decide_eq_false_iff_not] at ha;have hl':ks.length=os.length:=QF
  cases i with
  |zero=>
   cases j with
   |zero=>exact hij rfl
   |succ j=>
    simp at h1 h2;subst h1;exact ha.1 (List.mem_of_getElem? h2)
  |succ i=>
   cases j with
   |zero=>simp at h1 h2;subst h2;exact ha.1 (List.mem_of_getElem? h1)
   |succ j=>simp at h1 h2 h3;exact xE hl' ha.2 i j k ae h1 h2 h3
 |some m::ks,false::os,hl,ha,i,j,k,hij,h1,h2,h3=>by
  simp only[lL,Bool.and_eq_true,List.all_eq_true] at ha;have hl':ks.length=os.length:=QF
  cases i with
  |zero=>simp at h3
  |succ i=>
   cases j with
   |zero=>
    simp at h1 h2 h3;subst h2;have hm:(some m,true)∈ks.zip os:=List.mem_of_getElem? (i:=i) (by rw[List.getElem?_zip_eq_some];exact⟨h1,h3⟩);have:=ha.1 _ hm;simp at this
   |succ j=>simp at h1 h2 h3;exact xE hl' ha.2 i j k ae h1 h2 h3
 |none::ks,o::os,hl,ha,i,j,k,hij,h1,h2,h3=>by
  have hl':ks.length=os.length:=QF;cases i with
  |zero=>simp at h1
  |succ i=>
   cases j with
   |zero=>simp at h2
   |succ j=>simp at h1 h2 h3;exact xE hl' ha i j k ae h1 h2 h3
 |some _::_,[],hl,_,i,j,k,_,_,_,_=>by simp at hl
 |none::_,[],hl,_,i,j,k,_,_,_,_=>by simp at hl
def aX.picks{B:Bs}{w:World}{L L':List aF}(h:aX B L w)(ks:List (Option Nat))(hp:jf L ks L')(hl:ks.length=L'.length)(ha:lL ks (L'.map (·.own))=true)
 :aX B L' w:=by
 refine⟨h.bel,fun k b hk=>?_,fun i j g bi bj hij hi hj ho hg hgj=>?_,h.grp.sub (fun b hb hn=>?_) (fun c hc ho g hg=>?_)⟩
 rotate_left 2
 ·obtain⟨k,hk⟩:=List.mem_iff_getElem?.1 hb;rcases hp.get k b hk with⟨m,c,_,h2,h3⟩|⟨_,h2,_,h3⟩
  ·exact qfX
  ·simp only[Bool.and_eq_true,Nat.blt_eq] at h3;exact .inl h3.2
 ·obtain⟨k,hk⟩:=List.mem_iff_getElem?.1 hc;rcases hp.get k c hk with⟨m,c',_,h2,h3⟩|⟨_,h2,_⟩
  ·exact qfZ
  ·rw[h2] at hg;cases hg
 ·rcases hp.get k b hk with⟨m,c,_,h2,h3⟩|⟨_,h2,h3⟩
  ·obtain⟨a1,a2⟩:=h.blk m c h2;exact qfY
  ·exact qfW
 ·rcases hp.get i bi hi with⟨mi,ci,h1,h2,h3⟩|⟨_,h2,_⟩
  ·rcases hp.get j bj hj with⟨mj,cj,g1,g2,g3⟩|⟨_,g2,_⟩
   ·by_cases e:mi=mj
    ·subst e;exact xE QF ha i j mi hij h1 g1 (by rw[List.getElem?_map,hi];simp[ho])
    ·exact h.apart mi mj g ci cj e h2 g2 (h3.2.2.2.2 ho) VI (by rw[<-g3.1];exact hgj)
   ·rw[g2] at hgj;cases hgj
  ·rw[h2] at hg;cases hg
def fE(L L':List aF):Prop:=∀B w,aX B L w->aX B L' w
def fE.refl(L:List aF):fE L L:=fun _ _ h=>h
def ay{L L':List aF}(ks:List (Option Nat))(hp:jf L ks L')(hl:ks.length=L'.length)(ha:lL ks (L'.map (·.own))=true):fE L L':=fun _ _ h=>h.picks ks hp hl ha
def aV{b:aF}{b':aF}(h:b'=b):b'.le b:=h▸b.le_refl
def iC{base:Option Nat}{e:TypeId}{cs:List Value}{n:Nat}{o:Bool}:aF.le ⟨base,e,cs,n,false⟩ ⟨base,e,cs,n,o⟩:=⟨rfl,rfl,rfl,⟨cs.length,bz⟩,fun h=>Ak⟩
def qbv{B:Bs}{X:Act->World->Prop}{nt:Nat}{t:List (Nat×Value)}{L:List aF}(L':List aF)(hw:fE L L')(h:At B ⟨nt,t,L'⟩ X):At B ⟨nt,t,L⟩ X:=fun a w hr=>h a w ⟨hr.df,hr.size,hr.tmp,hw _ _ hr.mem⟩
def eG{B:Bs}{X:Act->World->Prop}{nt:Nat}{t:List (Nat×Value)}{L:List aF}{v:Value}(d:Nat)(v':Value)(hx:look t d=some v)(hv:v=v')(h:At B ⟨nt,(d,v')::t,L⟩ X):At B ⟨nt,t,L⟩ X:=fun a w hr=>
 h a w ⟨hr.df,hr.size,fun k u hk=>by
 by_cases e:d=k
 ·subst e;rw[dO] at hk;cases hk;rw[<-hv];exact hr.tmp d v hx
 ·rw[cZ e] at hk;exact hr.tmp k u hk,hr.mem⟩
def qf3{B:Bs}{nt:Nat}{t:List (Nat×Value)}{L:List aF}{ι:Type}{inv:ι->St}{μ:ι->Nat}{i:ι}(j:ι)(t':List (Nat×Value))(L':List aF)(hj:inv j=⟨nt,t',L'⟩)(hμ:μ j<μ i)(ht:∀p∈t',look t p.1=some p.2)(hL:fE L L'):
 At B ⟨nt,t,L⟩ (fun a' w'=>∃j,μ j<μ i∧kK B (inv j) a' w'):=fun a w hr=>by
 refine⟨j,hμ,?_⟩;rw[hj];exact(⟨hr.df,hr.size,hr.tmp,hL _ _ hr.mem⟩:kK B ⟨nt,t,L'⟩ a w).sub fun d v hd=>ht (d,v) (vI hd)
def qdu{P:Program}{B:Bs}{Q:Exit->Act->World->Prop}{nt:Nat}{t:List (Nat×Value)}{L:List aF}{ι:Type}{c:Code}(inv:ι->St)(μ:ι->Nat)(i₀:ι)(t':List (Nat×Value))(L':List aF)(h₀:inv i₀=⟨nt,t',L'⟩)(ht:∀p∈t',look t p.1=some p.2)(hL:fE L L')
 (round:∀i,At B (inv i) (c.wp P (Exit.then (fun a' w'=>∃j,μ j<μ i∧kK B (inv j) a' w') Q))):At B ⟨nt,t,L⟩ ((Code.loop c).wp P Q):=
 qmT inv μ i₀ (fun a w hr=>by rw[h₀];exact(⟨hr.df,hr.size,hr.tmp,hL _ _ hr.mem⟩:kK B ⟨nt,t,L'⟩ a w).sub fun d v hd=>ht (d,v) (vI hd)) round
def bQ(P:Program)(f:Nat)(L:List aF)(args:List Value)(X:Type)(res:X->Value)(new:X->List aF):Prop:=
 iP P f=true∧∀w:World,aX w L w->Calls P f args.toArray w fun e w'=>∃x,e= .returned (res x)∧aX w (new x) w'
def aX.asArgs{B:Bs}{w:World}{L L':List aF}(h:aX B L w)(ks:List Nat)(hp:jf L (ks.map some) L')(ho:∀b∈L',b.own=false):aX w L' w:=by
 have hlen:∀{ks:List Nat} {L':List aF},jf L (ks.map some) L'->ks.length=L'.length:=by
  intro ks
  induction ks with
  |nil=>intro L' hp;cases L' with
   |nil=>rfl
   |cons c L'=>exact hp.elim
  |cons k ks ih=>intro L' hp;cases L' with
   |nil=>exact hp.elim
   |cons c L'=>simp[ih hp.2]
 refine⟨.of (dV.refl _ _),fun k b hk=>?_,fun i j g bi bj hij hi hj ho' hg hgj=>?_,fun b hb hn T hT he p hp'=>?_⟩
 rotate_left 2
 ·obtain⟨k,hk⟩:=List.mem_iff_getElem?.1 hb;refine⟨?_,(fun e=>by rw[ho b hb] at e;cases e),(fun c hc e=>by rw[ho c hc] at e;cases e)⟩;rcases hp.get k b hk with⟨m,c,_,h2,h3⟩|⟨_,h2,_,h3⟩
  ·exact(h.grp c (List.mem_of_getElem? h2) qf1 T hT (by rw[<-h3.2.1];exact he) p hp').1
  ·simp only[Bool.and_eq_true,Nat.blt_eq] at h3;exact absurd (he▸h3.2) (ML T)
 ·rcases hp.get k b hk with⟨m,c,_,h2,h3⟩|⟨_,h2,h3⟩
  ·obtain⟨a1,a2⟩:=h.blk m c h2;refine⟨fun g hg=>⟨((a1 g VI).le h3).1,fun e=>?_⟩,fun hn=>?_⟩
   ·rw[ho b (List.mem_of_getElem? hk)] at e;cases e
   ·exact qfU
  ·exact qfW
 ·rw[ho bi (List.mem_of_getElem? hi)] at ho';cases ho'
section
variable{P:Program}{bl:List Nat}{ops:Array Oper}{K:St->Prop}{rest:List Oper}{nt:Nat}{t:List (Nat×Value)}{L:List aF}{d:Nat}{ty:TypeId}{pos:String}{af:Array Edge}{g:Option (Nat×Bool)}
def iJ{f:Nat}{args:List Operand}{ts:Array TypeId}(vs:List Value){L0:List aF}{X:Type}[hX:Nonempty X]{res:X->Value}{new:X->List aF}(ks:List Nat)(hd:Nat.blt d nt=true)(hg:az ops ⟨some d,.call {callee:= .value (.func f),args:=args.toArray,argTypes:=ts},ty,pos,af,g⟩ t=some true)
 (hv:args.map (ev t)=vs.map some)(hc:bQ P f L0 vs X res new)(hp:jf L (ks.map some) L0)(ho:(L0.all fun b=> !b.own)=true)(hn:False∨∀x,∀b∈new x,b.own=true)
 (h:∀x,aU P bl ops rest ⟨nt,(d,res x)::t,L++new x⟩ K):
 aU P bl ops (⟨some d,.call {callee:= .value (.func f),args:=args.toArray,argTypes:=ts},ty,pos,af,g⟩::rest) ⟨nt,t,L⟩ K:=
 Gx hd hg rfl (X:=X) (res:=res) (new:=new) (qpY (s:=⟨nt,t,L⟩) rfl hv hc.1 fun B w hL=>(hc.2 w (hL.asArgs ks hp (fun b hb=>VJ))).mono (by
 rintro e w' ⟨x,rfl,hx⟩;exact⟨x,rfl,hL.joinF hx (hn.resolve_left id x)⟩)) (fun _=>⟨qrQ (s:=⟨nt,t,L⟩) rfl hv hc.1 fun B w hL=>(hc.2 w (hL.asArgs ks hp (fun b hb=>VJ))).mono (by
 rintro e w' ⟨x,rfl,hx⟩;exact⟨x,rfl,hx,hn.resolve_left id x⟩),hX⟩) fun x=>h x
def iD{f:Nat}{args:List Operand}{ts:Array TypeId}(vs:List Value){L0:List aF}{v:Value}(ks:List Nat)(hd:Nat.blt d nt=true)(hg:az ops ⟨some d,.call {callee:= .value (.func f),args:=args.toArray,argTypes:=ts},ty,pos,af,g⟩ t=some true)
 (hv:args.map (ev t)=vs.map some)(hc:bQ P f L0 vs Unit (fun _=>v) (fun _=>[]))(hp:jf L (ks.map some) L0)(ho:(L0.all fun b=> !b.own)=true)
 (h:aU P bl ops rest ⟨nt,(d,v)::t,L⟩ K):
 aU P bl ops (⟨some d,.call {callee:= .value (.func f),args:=args.toArray,argTypes:=ts},ty,pos,af,g⟩::rest) ⟨nt,t,L⟩ K:=
 iJ vs ks hd hg hv hc hp ho (.inr fun x b hb=>MI) fun x=>by
  have:L++([]:List aF)=L:=List.append_nil L;show aU P bl ops rest ⟨nt,(d,v)::t,L++[]⟩ K;rw[this];exact h
end
end Go.Via
namespace Go.Via
variable[Mo]
open Go Go.RowKit
def wi{n r:Int}(h0: -9223372036854775808<=n)(h1:n<=9223372036854775807)(e:n=r):IntKind.i64.wrap n=r:=qu1
def wu{n r:Int}(h0:0<=n)(h1:n<18446744073709551616)(e:n=r):IntKind.u64.wrap n=r:=by
 subst e;exact Yv
theorem qm4(n:Int):IntKind.u64.wrap n=n%18446744073709551616:=by exact Tj
theorem qm5(n:Int):IntKind.u32.wrap n=n%4294967296:=by exact Tj
theorem wu8(n:Int):IntKind.u8.wrap n=n%256:=by exact Tj
theorem Yw:IntKind.u64.bits=64:=rfl
theorem Yx:IntKind.u32.bits=32:=rfl
theorem qf4(b m n:Nat)(hm:m<2^b)(hn:n<2^b):((BitVec.ofInt b (m:Int)|||BitVec.ofInt b (n:Int)).toNat:Int)=((m|||n:Nat):Int):=by
 rw[BitVec.toNat_or,BitVec.ofInt_natCast,BitVec.ofInt_natCast,BitVec.toNat_ofNat,BitVec.toNat_ofNat,Nat.mod_eq_of_lt hm,Nat.mod_eq_of_lt hn]
theorem qf5{m n:Nat}(i:Nat)(hn:n<2^i):(2^i*m|||n)=2^i*m+n:=(Nat.two_pow_add_eq_or_of_lt hn m).symm
def qrZ{m n r:Nat}(i:Nat)(hn:n<2^i)(hr:2^i*m+n=r)(hb:r<4294967296){x y:Int}(hx:x=((2^i*m:Nat):Int))(hy:y=(n:Int)):
 IntKind.u32.wrap ((BitVec.ofInt IntKind.u32.bits x|||BitVec.ofInt IntKind.u32.bits y).toNat)=(r:Int):=by
 subst hx;subst hy;rw[Yx,qf4 32 _ _ ae ae,qf5 i hn,qm5];omega
def Nj{m n r:Nat}(i:Nat)(hn:n<2^i)(hr:2^i*m+n=r)(hb:r<18446744073709551616){x y:Int}(hx:x=((2^i*m:Nat):Int))(hy:y=(n:Int)):
 IntKind.u64.wrap ((BitVec.ofInt IntKind.u64.bits x|||BitVec.ofInt IntKind.u64.bits y).toNat)=(r:Int):=by
 subst hx;subst hy;rw[Yw,qf4 64 _ _ ae ae,qf5 i hn,qm4];omega
section
variable{P:Program}{bl:List Nat}{ops:Array Oper}{K:St->Prop}{rest:List Oper}{nt:Nat}{t:List (Nat×Value)}{L:List aF}{d:Nat}{ty:TypeId}{pos:String}{af:Array Edge}{g:Option (Nat×Bool)}{x y:Operand}
def qf6{op:BinOp}{T U:Nat}{k:IntKind}{m n r:Int}(hd:Nat.blt d nt=true)(hg:az ops ⟨some d,.binOp op T x y U,ty,pos,af,g⟩ t=some true)(hx:ev t x=some (.int k m))(hy:ev t y=some (.int k n))(hn:n≠0)
 (hr:(match op with| .quo=>some (k.wrap (m.tdiv n))| .rem=>some (m.tmod n)|_=>none)=some r)(h:aU P bl ops rest ⟨nt,(d,.int k r)::t,L⟩ K):
 aU P bl ops (⟨some d,.binOp op T x y U,ty,pos,af,g⟩::rest) ⟨nt,t,L⟩ K:=
 eY hd hg rfl (fun B a w hrel=>by
 have h1:=hrel.ev hx;have h2:=hrel.ev hy;cases op<;>simp at hr<;>subst hr<;>simp[execOp,h1,h2,eqGuard,binOp,Op.intDiv,hn]) h
def Yy{T U:Nat}{k:IntKind}{m n r:Int}(hd:Nat.blt d nt=true)(hg:az ops ⟨some d,.binOp .or T x y U,ty,pos,af,g⟩ t=some true)(hx:ev t x=some (.int k m))(hy:ev t y=some (.int k n))
 (hr:k.wrap ((BitVec.ofInt k.bits m|||BitVec.ofInt k.bits n).toNat)=r)(h:aU P bl ops rest ⟨nt,(d,.int k r)::t,L⟩ K):
 aU P bl ops (⟨some d,.binOp .or T x y U,ty,pos,af,g⟩::rest) ⟨nt,t,L⟩ K:=
 eY hd hg rfl (fun B a w hrel=>by
 have h1:=hrel.ev hx;have h2:=hrel.ev hy;subst hr;simp[execOp,h1,h2,eqGuard,binOp,Op.intBits]) h
def qm6{op:BinOp}{T U:Nat}{k k':IntKind}{m n r:Int}(hd:Nat.blt d nt=true)(hg:az ops ⟨some d,.binOp op T x y U,ty,pos,af,g⟩ t=some true)(hx:ev t x=some (.int k m))(hy:ev t y=some (.int k' n))(hn:¬n<0)
 (hr:(match op with| .shl=>some (k.wrap (m*2^(min n.toNat k.bits)))| .shr=>some (m.fdiv (2^(min n.toNat k.bits)))|_=>none)=some r)(h:aU P bl ops rest ⟨nt,(d,.int k r)::t,L⟩ K):
 aU P bl ops (⟨some d,.binOp op T x y U,ty,pos,af,g⟩::rest) ⟨nt,t,L⟩ K:=
 eY hd hg rfl (fun B a w hrel=>by
 have h1:=hrel.ev hx;have h2:=hrel.ev hy;cases op<;>simp at hr<;>subst hr<;>simp[execOp,h1,h2,eqGuard,binOp,Op.shift,hn]) h
def qf7{S D:Nat}{k k':IntKind}{n r:Int}(hS:P.underlying S=some (.int k))(hD:P.underlying D=some (.int k'))(hd:Nat.blt d nt=true)(hg:az ops ⟨some d,.convert S D x,ty,pos,af,g⟩ t=some true)(hx:ev t x=some (.int k n))(hr:k'.wrap n=r)
 (h:aU P bl ops rest ⟨nt,(d,.int k' r)::t,L⟩ K):aU P bl ops (⟨some d,.convert S D x,ty,pos,af,g⟩::rest) ⟨nt,t,L⟩ K:=
 eY hd hg rfl (fun B a w hrel=>by
 have h1:P.intKind D=k':=(by simp[Program.intKind,hD]);have h2:=run_convert_int (P:=P) w S D k n (by rw[hS];rfl) (by rw[h1];exact hD);rw[h1,hr] at h2;simp[execOp,hrel.ev hx,h2]) h
def zu{T:Nat}{s:ByteArray}{k:IntKind}{i:Int}{b:UInt8}{r:Int}(hT:P.underlying T=some .string)(hd:Nat.blt d nt=true)(hg:az ops ⟨some d,.index T x y,ty,pos,af,g⟩ t=some true)(hx:ev t x=some (.string s))(hy:ev t y=some (.int k i))(hi:0<=i)
 (hb:s.data.toList[i.toNat]? =some b)(hr:(b.toNat:Int)=r)(h:aU P bl ops rest ⟨nt,(d,.int .u8 r)::t,L⟩ K):aU P bl ops (⟨some d,.index T x y,ty,pos,af,g⟩::rest) ⟨nt,t,L⟩ K:=
 eY hd hg rfl (fun B a w hrel=>by
 have h1:=run_index_string (P:=P) w T s k i hT;obtain⟨hlt,he⟩:=List.getElem?_eq_some_iff.1 hb;have hlt':i.toNat<s.size:=qbc;rw[dif_pos ⟨hi,ae⟩] at h1;have h2:s[i.toNat]'hlt'=b:=he;rw[h2,hr] at h1;simp[execOp,hrel.ev hx,hrel.ev hy,h1]) h
def qr0{T e:Nat}{b:Option Nat}{off len cap:Nat}(hT:P.underlying T=some (.slice e))(hd:Nat.blt d nt=true)(hg:az ops ⟨some d,.call {callee:= .builtin .len,args:= #[x],argTypes:= #[T]},ty,pos,af,g⟩ t=some true)(hx:ev t x=some (aB b off len cap))(h:aU P bl ops rest ⟨nt,(d,.int .i64 len)::t,L⟩ K):
 aU P bl ops (⟨some d,.call {callee:= .builtin .len,args:= #[x],argTypes:= #[T]},ty,pos,af,g⟩::rest) ⟨nt,t,L⟩ K:=
 eY hd hg rfl (fun B a w hrel=>by
 have he:P.elem T=e:=Eu;have:=run_len_slice (P:=P) w T ty (b.map fun g=>⟨g,off,none⟩) len cap JU;have h2:=hrel.ev hx;unfold aB at h2;simp[execOp,resolve,invoke,builtin,h2,this,goInt]) h
def aJ{T e:Nat}{k:IntKind}{i:Int}{b:aF}{off len cap:Nat}{inf:TI}(kk off':Nat)(hT:P.underlying T=some (.slice e))(hinf:dH P e inf=true)(hd:Nat.blt d nt=true)(hg:az ops ⟨some d,.indexAddr T x y,ty,pos,af,g⟩ t=some true)
 (hk:(blank bl L)[kk]? =some b)(hx:ev t x=some (aB b.base off len cap))(hy:ev t y=some (.int k i))(h0:0<=i)(h1:i<len)(hb:b.cs≠[])(ho:off+i.toNat*inf.size=off')
 (h:aU P bl ops rest ⟨nt,(d,b.at off')::t,L⟩ K):aU P bl ops (⟨some d,.indexAddr T x y,ty,pos,af,g⟩::rest) ⟨nt,t,L⟩ K:=
 eY hd hg rfl (fun B a w hrel=>by
 have he:P.elem T=e:=Eu;have h2:=hrel.ev hx;have h3:=hrel.ev hy;cases hbb:b.base with
 |none=>exact absurd ((hrel.mem.blk kk b hk).2 hbb).1 hb
 |some gg=>
  rw[hbb] at h2;have:=run_indexAt_slice (P:=P) w T ⟨gg,off,none⟩ len cap k i JU;rw[if_pos ⟨h0,h1⟩,he,lF hinf w] at this;simp only[Result.andThen_ok,iI,ho] at this;unfold aB at h2;simp only[Option.map_some] at h2;unfold aF.at;rw[hbb];simp[execOp,h2,h3,this]) h
def uO{T e N:Nat}{k:IntKind}{i:Int}{gg:Nat}{off:Nat}{inf:TI}(off':Nat)(hT:P.underlying T=some (.array N e))(hinf:dH P e inf=true)(hd:Nat.blt d nt=true)(hg:az ops ⟨some d,.indexAddr T x y,ty,pos,af,g⟩ t=some true)
 (hx:ev t x=some (.pointer (some ⟨gg,off,none⟩)))(hy:ev t y=some (.int k i))(h0:0<=i)(h1:i<N)(ho:off+i.toNat*inf.size=off')
 (h:aU P bl ops rest ⟨nt,(d,.pointer (some ⟨gg,off',none⟩))::t,L⟩ K):aU P bl ops (⟨some d,.indexAddr T x y,ty,pos,af,g⟩::rest) ⟨nt,t,L⟩ K:=
 eY hd hg rfl (fun B a w hrel=>by
 have he:P.elem T=e:=Eu;have hN:P.arrayLen T=N:=(by simp[Program.arrayLen,hT]);have h2:=hrel.ev hx;have h3:=hrel.ev hy;have:=run_indexAt_array (P:=P) w T ⟨gg,off,none⟩ k i (by rw[he,hN];exact hT);rw[hN,if_pos ⟨h0,h1⟩,he,lF hinf w] at this;simp only[Result.andThen_ok,iI,ho] at this;simp[execOp,h2,h3,this]) h
def Tn{T:Nat}{b:aF}{v:Value}(k off:Nat)(hi:dH P T ⟨false,1,[]⟩=true)(hd:Nat.blt d nt=true)(hg:az ops ⟨some d,.load T x,ty,pos,af,g⟩ t=some true)(hk:(blank bl L)[k]? =some b)(hx:ev t x=some (b.at off))
 (hv:b.cs[off]? =some v)(h:aU P bl ops rest ⟨nt,(d,v)::t,L⟩ K):
 aU P bl ops (⟨some d,.load T x,ty,pos,af,g⟩::rest) ⟨nt,t,L⟩ K:=by
 obtain⟨h1,h2⟩:=List.getElem?_eq_some_iff.1 hv;refine eY hd hg rfl (qfB (s:=St.bk ⟨nt,t,L⟩ bl) (vs:=[v]) rfl k hk hx hi ?_ rfl bz rfl) h;rw[List.drop_eq_getElem_cons h1,h2];rfl
def Ew{l:List Value}{i:Nat}{v:Value}(h:i<l.length):l.take i++[v]++l.drop (i+1)=l.set i v:=by
 rw[List.set_eq_take_append_cons_drop,if_pos h];simp
def qf8(hbl:IE bl=false){T:Nat}{b:aF}{v:Value}(k off:Nat)(L':List aF)(cs':List Value)(hi:dH P T ⟨false,1,[]⟩=true)(hg:az ops ⟨none,.store T x y,ty,pos,af,g⟩ t=some true)(hk:L[k]? =some b)(ho:b.own=true)(hbb:b.base.isSome=true)(hx:ev t x=some (b.at off))
 (hy:ev t y=some v)(hv:v.cells= #[v])(h1:v.oneCell'=true)(hfit:off<b.cs.length)(hcs:b.cs.set off v=cs')(hL:L.set k {b with cs:=cs'}=L')
 (h:aU P bl ops rest ⟨nt,t,L'⟩ K):aU P bl ops (⟨none,.store T x y,ty,pos,af,g⟩::rest) ⟨nt,t,L⟩ K:=
 qbf hg rfl rfl (by
 have h4:=Ew (v:=v) hfit;rw[hcs] at h4;have h5:=Gw (P:=P) (o:=⟨none,.store T x y,ty,pos,af,g⟩) (s:=⟨nt,t,L⟩) rfl k hk ho hx hbb hy hi (by rw[hv];rfl) au hfit (by rw[hv];simp[h1]);rw[hv] at h5;have h6:qft P ⟨none,.store T x y,ty,pos,af,g⟩ ⟨nt,t,L⟩ (L.set k {b with cs:=b.cs.take off++[v]++b.cs.drop (off+1)}):=h5
 rw[h4,hL] at h6;exact h6) (fun h2=>by rw[hbl] at h2;cases h2) h
def qdv{T:Nat}{b:aF}{v:Value}(k off:Nat)(L':List aF)(cs':List Value)(hi:dH P T ⟨false,1,[]⟩=true)(hg:az ops ⟨none,.store T x y,ty,pos,af,g⟩ t=some true)(hk:L[k]? =some b)(ho:b.own=true)(hbb:b.base.isSome=true)(hx:ev t x=some (b.at off))
 (hy:ev t y=some v)(hv:v.cells= #[v])(h1:v.oneCell'=true)(hfit:off<b.cs.length)(hcs:b.cs.set off v=cs')(hL:L.set k {b with cs:=cs'}=L')(hbl:blank bl L'=blank bl L)
 (h:aU P bl ops rest ⟨nt,t,L'⟩ K):aU P bl ops (⟨none,.store T x y,ty,pos,af,g⟩::rest) ⟨nt,t,L⟩ K:=
 qbf hg rfl rfl (by
 have h4:=Ew (v:=v) hfit;rw[hcs] at h4;have h5:=Gw (P:=P) (o:=⟨none,.store T x y,ty,pos,af,g⟩) (s:=⟨nt,t,L⟩) rfl k hk ho hx hbb hy hi (by rw[hv];rfl) au hfit (by rw[hv];simp[h1]);rw[hv] at h5;have h6:qft P ⟨none,.store T x y,ty,pos,af,g⟩ ⟨nt,t,L⟩ (L.set k {b with cs:=b.cs.take off++[v]++b.cs.drop (off+1)}):=h5
 rw[h4,hL] at h6;exact h6) (fun _=>hbl) h
def GG{T e gg:Nat}{k:IntKind}{i:Int}{off len cap:Nat}{inf:TI}(off':Nat)(hT:P.underlying T=some (.slice e))(hinf:dH P e inf=true)(hd:Nat.blt d nt=true)(hg:az ops ⟨some d,.indexAddr T x y,ty,pos,af,g⟩ t=some true)
 (hx:ev t x=some (aB (some gg) off len cap))(hy:ev t y=some (.int k i))(h0:0<=i)(h1:i<len)(ho:off+i.toNat*inf.size=off')
 (h:aU P bl ops rest ⟨nt,(d,.pointer (some ⟨gg,off',none⟩))::t,L⟩ K):aU P bl ops (⟨some d,.indexAddr T x y,ty,pos,af,g⟩::rest) ⟨nt,t,L⟩ K:=
 eY hd hg rfl (fun B a w hrel=>by
 have he:P.elem T=e:=Eu;have h2:=hrel.ev hx;have h3:=hrel.ev hy;have:=run_indexAt_slice (P:=P) w T ⟨gg,off,none⟩ len cap k i JU;rw[if_pos ⟨h0,h1⟩,he,lF hinf w] at this;simp only[Result.andThen_ok,iI,ho] at this;unfold aB at h2;simp only[Option.map_some] at h2;simp[execOp,h2,h3,this]) h
end
end Go.Via
namespace Go.Via
variable[Mo]
open Go Go.RowKit
theorem zx:∀(vs:List Value) (w:World) (g o:Nat) (cur:Array Value) (t:TypeId),w.heap[g]? =some (.cells cur t (0,0))->o+vs.length<=cur.size->
 w.setCells g o vs=w.setRow g (cur.toList.take o++vs++cur.toList.drop (o+vs.length)).toArray
 |[],w,g,o,cur,t,hg,hl=>by
  have e:(cur.toList.take o++[]++cur.toList.drop (o+([]:List Value).length)).toArray=cur:=bz;rw[e,World.setCells];have hlt:g<w.heap.size:=(Array.getElem?_eq_some_iff.1 hg).1;have hv:w.heap[g]= .cells cur t (0,0):=(Array.getElem?_eq_some_iff.1 hg).2;have key:w.heap=(w.setRow g cur).heap:=by
   apply Array.ext
   ·simp[World.setRow]
   ·intro i h1 h2;have:(w.setRow g cur).heap[i]? =w.heap[i]? :=by
     by_cases e:i=g
     ·subst e;rw[setRow_heap w i cur cur t (0,0) hg,hg]
     ·exact setRow_other w g i cur e
    rw[Array.getElem?_eq_getElem h1,Array.getElem?_eq_getElem h2] at this;exact(Option.some.inj this).symm
  show w={w with heap:=(w.setRow g cur).heap}
  rw[<-key]
 |v::r,w,g,o,cur,t,hg,hl=>by
  simp only[List.length_cons] at hl;rw[World.setCells,setCell_eq_setRow w g o cur t (0,0) v hg,zx r _ g (o+1) (cur.setIfInBounds o v) t (setRow_heap w g cur _ t (0,0) hg) Et,setRow_setRow]
  congr 1
  have e:=list_seg_step cur.toList o v r (by simp at hl ⊢;omega)
  simpa[Array.toList_setIfInBounds,Nat.add_assoc] using e
def aX.swapIn{B:Bs}{w:World}{L:List aF}{b:aF}(h:aX B (L++[b]) w)(k:Nat):aX B (L.set k b) w:=by
 by_cases hkl:k<L.length
 ·have hb:∀(m:Nat) (c:aF),(L.set k b)[m]? =some c->m<L.length∧(L++[b])[if m=k then L.length else m]? =some c:=fun m c hm=>by
   have hml:m<L.length:=(by have:=(List.getElem?_eq_some_iff.1 hm).1;simpa using this);refine⟨hml,?_⟩
   by_cases e:m=k
   ·subst e;rw[List.getElem?_set_self hkl] at hm;cases hm;simp
   ·rw[List.getElem?_set_ne (Ne.symm e)] at hm;rw[if_neg e,List.getElem?_append_left hml];exact hm
  refine⟨h.bel,fun m c hm=>h.blk _ c (hb m c hm).2,fun i j g bi bj hij hi hj ho hg hgj=>?_,h.grp.mem fun c hc=>by obtain⟨m,hm⟩:=List.mem_iff_getElem?.1 hc;exact List.mem_of_getElem? (hb m c hm).2⟩
  obtain⟨hi1,hi2⟩:=hb i bi hi;obtain⟨hj1,hj2⟩:=hb j bj hj;refine h.apart _ _ g bi bj ?_ hi2 hj2 ho hg hgj
  split<;>split<;>omega
 ·rw[List.set_eq_of_length_le ae];exact h.take
def aX.mono{B:Bs}{w:World}{L L':List aF}(h:aX B L w)(hl:∀(k:Nat) (b':aF),L'[k]? =some b'->∃b,L[k]? =some b∧b'.le b):aX B L' w:=by
 refine⟨h.bel,fun k b hk=>?_,fun i j g bi bj hij hi hj ho hg hgj=>?_,h.grp.sub (fun b hb hn=>?_) (fun c hc ho g hg=>?_)⟩
 rotate_left 2
 ·obtain⟨k,hk⟩:=List.mem_iff_getElem?.1 hb;obtain⟨c,h2,h3⟩:=hl k b hk;exact qfX
 ·obtain⟨k,hk⟩:=List.mem_iff_getElem?.1 hc;obtain⟨c',h2,h3⟩:=hl k c hk;exact qfZ
 ·obtain⟨c,h2,h3⟩:=hl k b hk;obtain⟨a1,a2⟩:=h.blk k c h2;exact qfY
 ·obtain⟨ci,h2,h3⟩:=hl i bi hi;obtain⟨cj,g2,g3⟩:=hl j bj hj;exact h.apart i j g ci cj hij h2 g2 (h3.2.2.2.2 ho) VI (by rw[<-g3.1];exact hgj)
theorem aX.last{B:Bs}{w:World}{L:List aF}{b b':aF}(h:aX B (L++[b]) w)(hl:b'.le b):aX B (L++[b']) w:=h.mono fun k c hk=>by
 rw[List.getElem?_append] at hk ⊢
 split at hk
 ·rename_i h1;rw[if_pos h1];exact⟨c,hk,c.le_refl⟩
 ·rename_i h1
  rw[if_neg h1];cases hq:k-L.length with
  |zero=>rw[hq] at hk;simp at hk;subst hk;exact⟨b,bz,hl⟩
  |succ q=>rw[hq] at hk;simp at hk
structure AR(need s:Nat) where
 g:Nat
 n:Nat
 cap:Nat
 h:need<=cap
 hn:cap*s<=n
section
variable{P:Program}{bl:List Nat}{ops:Array Oper}{K:St->Prop}{rest:List Oper}{nt:Nat}{t:List (Nat×Value)}{L:List aF}{d:Nat}{ty:TypeId}{pos:String}{af:Array Edge}{g:Option (Nat×Bool)}{x y:Operand}
def yP{T e:Nat}{b:Option Nat}{len cap:Nat}{k:IntKind}{h':Int}{inf:TI}(len':Nat)(hT:P.underlying T=some (.slice e))(hinf:dH P e inf=true)(hd:Nat.blt d nt=true)(hg:az ops ⟨some d,.slice T x none (some y) none,ty,pos,af,g⟩ t=some true)(hx:ev t x=some (aB b 0 len cap))(hy:ev t y=some (.int k h'))(h0:0<=h')(h1:h'<=cap)(hl:h'.toNat=len')
 (h:aU P bl ops rest ⟨nt,(d,aB b 0 len' cap)::t,L⟩ K):aU P bl ops (⟨some d,.slice T x none (some y) none,ty,pos,af,g⟩::rest) ⟨nt,t,L⟩ K:=
 eY hd hg rfl (fun B a w hrel=>by
 have he:P.elem T=e:=Eu;have hT':P.underlying T=some (.slice (P.elem T)):=JU;have h2:=hrel.ev hx;have h3:=hrel.ev hy;unfold aB at h2;have r1:=run_sliceAt_slice (P:=P) w T (.slice (b.map fun g=>⟨g,0,none⟩) len cap) none (some (.int k h')) none hT';rw[run_slice_h (P:=P) w T (b.map fun g=>⟨g,0,none⟩) len cap hT' k h' h0 h1,he,lF hinf w] at r1;simp only[Result.andThen_ok] at r1;have e1:sliced (b.map fun g=>(⟨g,0,none⟩:Addr)) 0 h'.toNat cap inf.size=aB b 0 len' cap:=by
  unfold sliced aB;rw[hl];cases b<;>simp[iI]
 rw[e1] at r1;simp[execOp,h2,h3,r1]) h
def VK{T e:Nat}{k:IntKind}{c:Nat}{inf:TypeInfo}{z:Value}{m:Int}(hem:e<cO)(cs:List Value)(mk:Nat->List aF)(hT:P.underlying T=some (.slice e))(hi:P.info? e=some inf)(hz:inf.zero=some z)(hs:inf.size=1)(hz1:z.cells= #[z])(hd:Nat.blt d nt=true)
 (hg:az ops ⟨some d,.makeSlice T x y,ty,pos,af,g⟩ t=some true)(hx:ev t x=some (.int k m))(hy:ev t y=some (.int k m))(hm:m=(c:Int))(hb:inf.bytes<=512)(hc:c<=137438953472)(hcs:List.replicate c z=cs)(hL:∀b,L++[⟨some b,e,cs,c,true⟩]=mk b)
 (h:∀b,aU P bl ops rest ⟨nt,(d,aB (some b) 0 c c)::t,mk b⟩ K):aU P bl ops (⟨some d,.makeSlice T x y,ty,pos,af,g⟩::rest) ⟨nt,t,L⟩ K:=
 MV hd hg rfl rfl (X:=Nat) (nx:=fun b=>⟨nt,(d,aB (some b) 0 c c)::t,mk b⟩) (fun hd'=>IR fun B a w hr=>by
 subst hm;have hbb:inf.bytes*c<=512*137438953472:=Nat.mul_le_mul hb hc;have r1:=run_make (P:=P) w T e inf z hT hi hz k k (c:Int) (c:Int) ae (Int.le_refl _) (by
 have:((inf.bytes*c:Nat):Int)<=281474976710656:=ae
 rwa [Int.natCast_mul] at this) ae
 simp only[Int.toNat_natCast,hs,Nat.mul_one,hz1] at r1;have e1:madeCells #[z] c=(List.replicate c z).toArray:=by
  unfold madeCells
  apply Array.ext
  ·simp
  ·intro i h1 h2;simp[Nat.mod_one]
 rw[e1] at r1;refine⟨aB (some w.heap.size) 0 c c,w.alloc (.cells (List.replicate c z).toArray e),w.heap.size,by
 have r2:(execOp a.eval ⟨some d,.makeSlice T x y,ty,pos,af,g⟩).run P w=((Instr.makeSlice T (.int k (c:Int)) (.int k (c:Int))).run P w).andThen fun v w=> .ok (.value v) w:=by
  simp[execOp,hr.ev hx,hr.ev hy,Sem.run_bind]
 rw[r2,r1];rfl,?_⟩
 have h1:=hr.mem.alloc e (List.replicate c z).toArray hem;simp only[List.size_toArray,List.length_replicate] at h1;rw[<-hL,<-hcs];exact hr.put hd' h1) fun b=>h b
def qf9{T e:Nat}{inf:TypeInfo}{z:Value}{b:aF}{len cap b2o n2 c2:Nat}{b2:aF}(hem:e<cO)(k k2:Nat)(mk:AR (len+n2) inf.size->List aF)(hT:P.underlying T=some (.slice e))(hi:P.info? e=some inf)(hz:inf.zero=some z)(hs:0<inf.size)(hzs:z.cells.size=inf.size)(hbytes:inf.bytes<=1024)(hd:Nat.blt d nt=true)
 (hg:az ops ⟨some d,.call {callee:= .builtin .append,args:= #[x,y],argTypes:= #[T,T]},ty,pos,af,g⟩ t=some true)
 (hk:L[k]? =some b)(ho:b.own=true)(he:b.e=e)(hlen:b.cs.length=len*inf.size)(hcap:len<=cap)(hn:cap*inf.size<=b.n)(hx:ev t x=some (aB b.base 0 len cap))
 (hk2:L[k2]? =some b2)(hlen2:b2.cs.length=n2*inf.size)(hpos:0<n2)(hb2:b2.base=some b2o)(hy:ev t y=some (aB (some b2o) 0 n2 c2))(h1:∀v∈b2.cs,v.oneCell'=true)(hmax:len+n2<=17179869184)
 (hL:∀r,L.set k ⟨some r.g,e,b.cs++b2.cs,r.n,true⟩=mk r)
 (h:∀r:AR (len+n2) inf.size,aU P bl ops rest ⟨nt,(d,aB (some r.g) 0 (len+n2) r.cap)::t,mk r⟩ K):
 aU P bl ops (⟨some d,.call {callee:= .builtin .append,args:= #[x,y],argTypes:= #[T,T]},ty,pos,af,g⟩::rest) ⟨nt,t,L⟩ K:=
 MV hd hg rfl rfl (X:=AR (len+n2) inf.size) (nx:=fun r=>⟨nt,(d,aB (some r.g) 0 (len+n2) r.cap)::t,mk r⟩) (fun hd'=>IR fun B a w hr=>by
 have hx':=hr.ev hx;have hy':=hr.ev hy
 have hnews:∀j u,b2.cs[j]? =some u->w.cell? ((⟨b2o,0,none⟩:Addr).add j)=some u:=fun j u hj=>by
  obtain⟨g',hg',h2⟩:=hr.mem.cell hk2 hj;rw[hb2] at hg';cases hg';rw[iI,Nat.zero_add];exact h2
 have hsrc:=Src.ofSlice (P:=P) w (size:=inf.size) hT ⟨b2o,0,none⟩ n2 c2 b2.cs hlen2 hnews h1;have fin:∀v w',(Builtin.append_ #[T,T] ty #[aB b.base 0 len cap,aB (some b2o) 0 n2 c2]).run P w= .ok v w'->(execOp a.eval ⟨some d,.call {callee:= .builtin .append,args:= #[x,y],argTypes:= #[T,T]},ty,pos,af,g⟩).run P w= .ok (.value v) w':=fun v w' hv=>by
  simp[execOp,resolve,invoke,builtin,hx',hy',hv]
 by_cases hroom:len+n2<=cap
 ·
  obtain⟨gg,hgg⟩:∃gg,b.base=some gg:=by
   cases hbb:b.base with
   |some gg=>exact⟨gg,rfl⟩
   |none=>
    have:=((hr.mem.blk k b hk).2 hbb).2;have h3:1*1<=cap*inf.size:=Nat.mul_le_mul ae hs;omega
  obtain⟨cur,⟨e',fr,c1,cfr,_⟩,c2',c3⟩:=((hr.mem.blk k b hk).1 gg hgg).cells (.inl (by
 have h3:1*1<=cap*inf.size:=Nat.mul_le_mul (by omega) hs;omega))
  obtain⟨rfl,rfl⟩:=cfr ho;have hroomc:(len+n2)*inf.size<=cap*inf.size:=Nat.mul_le_mul_right _ hroom;have hsum:(len+n2)*inf.size=len*inf.size+n2*inf.size:=Nat.add_mul ..;have hfit:0+len*inf.size+b2.cs.length<=cur.size:=by rw[hlen2];omega
  have r1:=run_append_room_src (P:=P) w T T ty e inf hT hi gg 0 len cap (aB (some b2o) 0 n2 c2) n2 b2.cs hsrc hroom
   (fun j hj=>by
 rw[cell_of_row w gg _ cur b.e (0,0) c1];rw[Array.getElem?_eq_getElem (by omega)];rfl)
   (fun j hj=>by simp[World.frozen?,c1])
  rw[zx b2.cs w gg _ cur b.e c1 hfit] at r1;refine⟨_,_,(⟨gg,b.n,cap,hroom,hn⟩:AR (len+n2) inf.size),fin _ _ qp0,?_⟩;refine hr.put hd' ?_;rw[<-hL];have hcur:cur.toList.take (0+len*inf.size)=b.cs:=by rw[Nat.zero_add,<-hlen];exact c3
  have h5:=hr.mem.set hk ho hgg (cur.toList.take (0+len*inf.size)++b2.cs++cur.toList.drop (0+len*inf.size+b2.cs.length)).toArray (b.cs++b2.cs)
   qf2
   (by
 rw[hcur];simp only[List.append_assoc];rw[List.length_append,<-List.append_assoc,<-List.length_append];exact List.take_left)
  rw[hgg] at h5;rw[ho] at h5;rw[he] at h5;exact h5
 ·
  have hold:(Builtin.firstCells inf.size len (aB b.base 0 len cap)).run P w.drew= .ok b.cs.toArray w.drew:=by
   cases hbb:b.base with
   |none=>
    have:=((hr.mem.blk k b hk).2 hbb).1;rw[this];exact run_firstCells_none w.drew inf.size len len cap
   |some gg=>
    refine run_firstCells_some (P:=P) w.drew inf.size len ⟨gg,0,none⟩ len cap b.cs hlen (fun j v hj=>?_);obtain⟨g',hg',h2⟩:=hr.mem.cell hk hj;rw[hbb] at hg';cases hg';rw[iI,Nat.zero_add];exact h2
  have hge:=grownCap_ge w (len+n2) cap e;have hbb:(len+n2)*inf.bytes<=17179869184*1024:=Nat.mul_le_mul hmax hbytes;have hfit:Builtin.nextslicecap (len+n2) cap*inf.bytes<=281474976710656:=growslice_fits ae ae;have r1:=run_append_grow_src (P:=P) w T T ty e inf z hT hi hz (b.base.map fun g=>⟨g,0,none⟩) len cap b.cs hold (aB (some b2o) 0 n2 c2) n2 b2.cs hsrc ae ae hfit;refine⟨_,_,(⟨w.heap.size,(((b.cs++b2.cs).toArray++Builtin.zeroCells z.cells (grownCap w (len+n2) cap e-(len+n2))):Array Value).size,grownCap w (len+n2) cap e,hge,?_⟩:AR (len+n2) inf.size),fin _ _ r1,?_⟩
  ·have hz':(Builtin.zeroCells z.cells (grownCap w (len+n2) cap e-(len+n2))).size=(grownCap w (len+n2) cap e-(len+n2))*inf.size:=by
    unfold Builtin.zeroCells;simp[hzs]
   have hm:(grownCap w (len+n2) cap e-(len+n2))*inf.size+(len+n2)*inf.size=grownCap w (len+n2) cap e*inf.size:=by
    rw[<-Nat.add_mul,Nat.sub_add_cancel hge]
   have hsum:(len+n2)*inf.size=len*inf.size+n2*inf.size:=Nat.add_mul ..;rw[Array.size_append,hz'];simp only[List.size_toArray,List.length_append];omega
  ·refine hr.put hd' ?_;rw[<-hL];have h5:=(hr.mem.drew.alloc e ((b.cs++b2.cs).toArray++Builtin.zeroCells z.cells (grownCap w (len+n2) cap e-(len+n2))) hem);refine(h5.last (b':=⟨some w.heap.size,e,b.cs++b2.cs,((b.cs++b2.cs).toArray++Builtin.zeroCells z.cells (grownCap w (len+n2) cap e-(len+n2)):Array Value).size,true⟩) ⟨rfl,rfl,rfl,⟨(b.cs++b2.cs).length,?_⟩,fun _=>rfl⟩).swapIn k
   rw[Array.toList_append];exact(List.take_left (l₁:=b.cs++b2.cs)).symm) fun r=>h r
end
end Go.Via
namespace Go.Via
variable[Mo]
open Go Go.RowKit
def qga(l:List Nat):ByteArray:=⟨(l.map UInt8.ofNat).toArray⟩
theorem qdw(l:List Nat):strOfNums (l.map fun(n:Nat)=>(n:Int))=qga l:=by simp[strOfNums,qga]
section
variable{P:Program}{bl:List Nat}{ops:Array Oper}{K:St->Prop}{rest:List Oper}{nt:Nat}{t:List (Nat×Value)}{L:List aF}{d:Nat}{ty:TypeId}{pos:String}{af:Array Edge}{g:Option (Nat×Bool)}{x y:Operand}
def GH{T n nn:Nat}{parts:List (Nat×Operand)}(ps:List (Nat×Value)){e:Nat}{cs:List Value}(mk:Nat->List aF)(hd:Nat.blt d nt=true)(hg:az ops ⟨some d,.buildSlice T n parts.toArray,ty,pos,af,g⟩ t=some true)(hx:parts.map (fun p=>(p.1,ev t p.2))=ps.map (fun p=>(p.1,some p.2)))
 (hb:∀w,(Instr.buildSlice T n ps.toArray).run P w= .ok (.slice (some ⟨w.heap.size,0,none⟩) n n) (w.alloc (.cells cs.toArray e)))(hnn:cs.length=nn)(hL:∀b,L++[⟨some b,e,cs,nn,true⟩]=mk b)(h:∀b,aU P bl ops rest ⟨nt,(d,aB (some b) 0 n n)::t,mk b⟩ K)(hem:Nat.blt e cO=true:=by rfl):
 aU P bl ops (⟨some d,.buildSlice T n parts.toArray,ty,pos,af,g⟩::rest) ⟨nt,t,L⟩ K:=
 qfG (e:=e) (cs:=cs.toArray) hd hg rfl (by
 show(ku t parts).bind _=_;rw[E5 hx];exact qfr (by simpa using hem) hb) fun b=>by
  subst hnn;have:=h b;rw[<-hL b] at this;exact this
def qgb{T e N gg:Nat}{k:IntKind}{h':Int}{inf:TI}(len':Nat)(hT:P.underlying T=some (.array N e))(hinf:dH P e inf=true)(hd:Nat.blt d nt=true)(hg:az ops ⟨some d,.slice T x none (some y) none,ty,pos,af,g⟩ t=some true)(hx:ev t x=some (.pointer (some ⟨gg,0,none⟩)))(hy:ev t y=some (.int k h'))(h0:0<=h')(h1:h'<=N)(hl:h'.toNat=len')
 (h:aU P bl ops rest ⟨nt,(d,aB (some gg) 0 len' N)::t,L⟩ K):aU P bl ops (⟨some d,.slice T x none (some y) none,ty,pos,af,g⟩::rest) ⟨nt,t,L⟩ K:=
 eY hd hg rfl (fun B a w hrel=>by
 have he:P.elem T=e:=Eu;have hN:P.arrayLen T=N:=(by simp[Program.arrayLen,hT]);have h2:=hrel.ev hx;have h3:=hrel.ev hy;have r1:=run_sliceAt_array_h (P:=P) w T ⟨gg,0,none⟩ (by rw[he,hN];exact hT) k h' h0 (by rw[hN];exact h1);rw[he,lF hinf w] at r1;simp only[Result.andThen_ok] at r1;have e1:slicedAt (⟨gg,0,none⟩:Addr) 0 h'.toNat (P.arrayLen T) inf.size=aB (some gg) 0 len' N:=by
  unfold slicedAt aB;rw[hl,hN];simp[iI]
 rw[e1] at r1;simp[execOp,h2,h3,r1]) h
def Yz{T:Nat}{s:ByteArray}{k:IntKind}{l:Int}{r:ByteArray}(hT:P.underlying T=some .string)(hd:Nat.blt d nt=true)(hg:az ops ⟨some d,.slice T x (some y) none none,ty,pos,af,g⟩ t=some true)(hx:ev t x=some (.string s))(hy:ev t y=some (.int k l))(h0:0<=l)(h1:l<=s.size)(hr:s.extract l.toNat s.size=r)
 (h:aU P bl ops rest ⟨nt,(d,.string r)::t,L⟩ K):aU P bl ops (⟨some d,.slice T x (some y) none none,ty,pos,af,g⟩::rest) ⟨nt,t,L⟩ K:=
 eY hd hg rfl (fun B a w hrel=>by
 have h2:=hrel.ev hx;have h3:=hrel.ev hy;have r1:=run_sliceAt_string (P:=P) w T (.string s) (some (.int k l)) none none hT;rw[run_slice_string_l (P:=P) w T s hT k l h0 h1,hr] at r1;simp[execOp,h2,h3,r1]) h
def GI{S e D:Nat}{b:aF}{gg len cap:Nat}{l:List Nat}{r:ByteArray}(k:Nat)(hS:P.underlying S=some (.slice e))(he:P.underlying e=some (.int .u8))(hD:P.underlying D=some .string)(hd:Nat.blt d nt=true)(hg:az ops ⟨some d,.convert S D x,ty,pos,af,g⟩ t=some true)
 (hk:(blank bl L)[k]? =some b)(hb:b.base=some gg)(hx:ev t x=some (aB (some gg) 0 len cap))(hcs:b.cs.take len=NV .u8 l)(hl:l.length=len)(hr:qga l=r)
 (h:aU P bl ops rest ⟨nt,(d,.string r)::t,L⟩ K):aU P bl ops (⟨some d,.convert S D x,ty,pos,af,g⟩::rest) ⟨nt,t,L⟩ K:=
 eY hd hg rfl (fun B a w hrel=>by
 have h1:=run_convert_bytes_arg (P:=P) w S e hS he gg 0 len cap (l.map fun(n:Nat)=>(n:Int)) QF (fun i hi=>by
 have hc:b.cs[i]? =some (.int .u8 ((l.map fun(n:Nat)=>(n:Int)).getD i 0)):=by
  have h2:(b.cs.take len)[i]? =(NV .u8 l)[i]? :=(by rw[hcs]);rw[List.getElem?_take,if_pos hi] at h2;rw[h2];have hil:i<l.length:=ae;simp[NV,List.getElem?_eq_getElem hil]
 obtain⟨g',hg',h2⟩:=hrel.mem.cell hk hc;rw[hb] at hg';cases hg';rw[Nat.zero_add];exact h2) D hD
 rw[qdw,hr] at h1;have h2:=hrel.ev hx;unfold aB at h2;simp only[Option.map_some] at h2;simp[execOp,h2,h1]) h
def qr1{T e:Nat}{b b2:aF}{gg len cap len2 cap2:Nat}{inf:TypeInfo}(k k2:Nat)(L':List aF)(cs':List Value)(hT:P.underlying T=some (.slice e))(hi:P.info? e=some inf)(hs:inf.size=1)(hd:Nat.blt d nt=true)
 (hg:az ops ⟨some d,.call {callee:= .builtin .copy,args:= #[x,y],argTypes:= #[T,T]},ty,pos,af,g⟩ t=some true)(hk:L[k]? =some b)(ho:b.own=true)(hb:b.base=some gg)(hx:ev t x=some (aB (some gg) 0 len cap))
 (hk2:L[k2]? =some b2)(hy:ev t y=some (aB b2.base 0 len2 cap2))(hl2:b2.cs.length=len2)(hle:len2<=len)(hfit:len2<=b.cs.length)(h1:∀v∈b2.cs,v.oneCell'=true)(hcs:b2.cs++b.cs.drop len2=cs')(hL:L.set k {b with cs:=cs'}=L')
 (h:aU P bl ops rest ⟨nt,(d,.int .i64 len2)::t,L'⟩ K):aU P bl ops (⟨some d,.call {callee:= .builtin .copy,args:= #[x,y],argTypes:= #[T,T]},ty,pos,af,g⟩::rest) ⟨nt,t,L⟩ K:=
 MV hd hg rfl rfl (X:=Unit) (nx:=fun _=>⟨nt,(d,.int .i64 len2)::t,L'⟩) (fun hd'=>IR fun B a w hr=>by
 have hx':=hr.ev hx;have hy':=hr.ev hy;have fin:∀v w',(Builtin.copy_ #[T,T] ty #[aB (some gg) 0 len cap,aB b2.base 0 len2 cap2]).run P w= .ok v w'->(execOp a.eval ⟨some d,.call {callee:= .builtin .copy,args:= #[x,y],argTypes:= #[T,T]},ty,pos,af,g⟩).run P w= .ok (.value v) w':=fun v w' hv=>by
  simp[execOp,resolve,invoke,builtin,hx',hy',hv]
 by_cases hz:b.n≠0∨b.cs≠[]
 case neg=>
  have hz2:b.cs=[]:=by
   by_cases h0:b.cs=[]
   ·exact h0
   ·exact absurd (.inr h0) hz
  have hl0:len2=0:=(by rw[hz2] at hfit;simpa using hfit);subst hl0;have h0:b2.cs=[]:=List.eq_nil_of_length_eq_zero hl2;refine⟨goInt 0,w,(),fin _ _ (by
 unfold aB;have hl:∀v:Nat,(loadCells ⟨v,0,none⟩ 0).run P w= .ok #[] w:=fun v=>run_loadCells_list w ⟨v,0,none⟩ [] (fun j u hj=>by simp at hj)
 cases b2.base<;>simp[Builtin.copy_,run_underlying hT,Builtin.lenOf,Builtin.firstCells,sizeOf,typeInfo,hi,storeCells,goInt,hl]),?_⟩
  have e1:L'=L:=by
   rw[<-hL,<-hcs,h0];simp only[List.nil_append,List.drop_zero];obtain⟨q1,q2⟩:=List.getElem?_eq_some_iff.1 hk;have:({b with cs:=b.cs}:aF)=b:=rfl
   rw[this,<-q2];exact List.set_getElem_self q1
  rw[e1];exact hr.put hd' hr.mem
 obtain⟨cur,⟨e',fr,c1,cfr,_⟩,c2,c3⟩:=((hr.mem.blk k b hk).1 gg hb).cells hz;obtain⟨rfl,rfl⟩:=cfr ho;have hcl:b.cs.length<=cur.size:=by
  have:=congrArg List.length c3;simp only[List.length_take,Array.length_toList] at this;omega
 cases hb2:b2.base with
 |none=>
  have h0:=((hr.mem.blk k2 b2 hk2).2 hb2).1;have hl0:len2=0:=(by rw[<-hl2,h0];rfl);subst hl0;refine⟨goInt 0,w,(),fin _ _ (by
 rw[hb2];unfold aB;simp[Builtin.copy_,run_underlying hT,Builtin.lenOf,Builtin.firstCells,sizeOf,typeInfo,hi,storeCells,goInt]),?_⟩
  have e1:L'=L:=by
   rw[<-hL,<-hcs,h0];simp only[List.nil_append,List.drop_zero];obtain⟨q1,q2⟩:=List.getElem?_eq_some_iff.1 hk;have:({b with cs:=b.cs}:aF)=b:=rfl
   rw[this,<-q2];exact List.set_getElem_self q1
  rw[e1];exact hr.put hd' hr.mem
 |some g2=>
  have hsrc:∀j v,b2.cs[j]? =some v->w.cell? ((⟨g2,0,none⟩:Addr).add j)=some v:=fun j u hj=>by
   obtain⟨g',hg',h2⟩:=hr.mem.cell hk2 hj;rw[hb2] at hg';cases hg';rw[iI,Nat.zero_add];exact h2
  have r1:=run_copy_row (P:=P) w T T ty e gg 0 len cap ⟨g2,0,none⟩ len2 cap2 cur b.e b2.cs hT (by simp[hi,hs]) c1 (by rw[hl2];exact(Nat.min_eq_left hle).symm) hsrc (by omega) h1;refine⟨goInt b2.cs.length,_,(),fin _ _ (by rw[hb2];exact r1),?_⟩;rw[hl2];have h5:=hr.mem.set hk ho hb (cur.toList.take 0++b2.cs++cur.toList.drop (0+b2.cs.length)).toArray cs'
   qf2
   (by
    rw[<-hcs];simp only[List.take_zero,List.nil_append,Nat.zero_add,hl2];rw[List.length_append,List.length_drop,hl2];rw[List.take_append,hl2];rw[List.take_of_length_le ae]
    congr 1
    rw[<-c3];simp only[List.length_take,Array.length_toList];rw[List.drop_take]
    congr 1
    omega)
  rw[<-hL];rw[hl2] at h5;exact hr.put hd' h5) fun _=>h
def Nk(P:Program)(e:Nat)(s:Nat)(z:Value):Prop:=((P.info? e).map fun inf=>(inf.size,Nat.ble inf.bytes 512,inf.zero))=some (s,true,some z)∧e<cO
def vK{e s:Nat}{z:Value}(h:Nk P e s z):∃inf,P.info? e=some inf∧inf.zero=some z∧inf.size=s∧inf.bytes<=512:=by
 unfold Nk at h;replace h:=h.1;cases hq:P.info? e with
 |none=>rw[hq] at h;cases h
 |some inf=>
  rw[hq] at h;simp only[Option.map_some,Option.some.injEq,Prod.mk.injEq] at h;obtain⟨h1,h2,h3⟩:=h;exact⟨inf,rfl,h3,h1,Nat.le_of_ble_eq_true h2⟩
def gQ{T e:Nat}{k:IntKind}{c:Nat}{z:Value}{m:Int}(cs:List Value)(mk:Nat->List aF)(hT:P.underlying T=some (.slice e))(he:Nk P e 1 z)(hd:Nat.blt d nt=true)
 (hg:az ops ⟨some d,.makeSlice T x y,ty,pos,af,g⟩ t=some true)(hx:ev t x=some (.int k m))(hy:ev t y=some (.int k m))(hz1:z.cells= #[z])(hm:m=(c:Int))(hc:c<=137438953472)(hcs:List.replicate c z=cs)(hL:∀b,L++[⟨some b,e,cs,c,true⟩]=mk b)
 (h:∀b,aU P bl ops rest ⟨nt,(d,aB (some b) 0 c c)::t,mk b⟩ K):aU P bl ops (⟨some d,.makeSlice T x y,ty,pos,af,g⟩::rest) ⟨nt,t,L⟩ K:=by
 obtain⟨inf,h1,h2,h3,h5⟩:=vK he;exact VK he.2 cs mk hT h1 h2 h3 hz1 hd hg hx hy hm h5 hc hcs hL h
def mO{T e s:Nat}{z:Value}{b:aF}{len cap b2o n2 c2:Nat}{b2:aF}(k k2:Nat)(mk:AR (len+n2) s->List aF)(hT:P.underlying T=some (.slice e))(hi:Nk P e s z)(hd:Nat.blt d nt=true)
 (hg:az ops ⟨some d,.call {callee:= .builtin .append,args:= #[x,y],argTypes:= #[T,T]},ty,pos,af,g⟩ t=some true)
 (hk:L[k]? =some b)(ho:b.own=true)(he:b.e=e)(hx:ev t x=some (aB b.base 0 len cap))(hk2:L[k2]? =some b2)(hb2:b2.base=some b2o)(hy:ev t y=some (aB (some b2o) 0 n2 c2))(hs:Nat.blt 0 s=true)(hzs:z.cells.size=s)(hpos:Nat.blt 0 n2=true)
 (hlen:b.cs.length=len*s)(hcap:len<=cap)(hn:cap*s<=b.n)(hlen2:b2.cs.length=n2*s)(h1:∀v∈b2.cs,v.oneCell'=true)(hmax:len+n2<=17179869184)
 (hL:∀r,L.set k ⟨some r.g,e,b.cs++b2.cs,r.n,true⟩=mk r)
 (h:∀r:AR (len+n2) s,aU P bl ops rest ⟨nt,(d,aB (some r.g) 0 (len+n2) r.cap)::t,mk r⟩ K):
 aU P bl ops (⟨some d,.call {callee:= .builtin .append,args:= #[x,y],argTypes:= #[T,T]},ty,pos,af,g⟩::rest) ⟨nt,t,L⟩ K:=by
 obtain⟨inf,i1,i2,i3,i5⟩:=vK hi;exact qfV
def YA{T e:Nat}{z:Value}{b b2:aF}{gg len cap len2 cap2:Nat}(k k2:Nat)(L':List aF)(cs':List Value)(hT:P.underlying T=some (.slice e))(hi:Nk P e 1 z)(hd:Nat.blt d nt=true)
 (hg:az ops ⟨some d,.call {callee:= .builtin .copy,args:= #[x,y],argTypes:= #[T,T]},ty,pos,af,g⟩ t=some true)(hk:L[k]? =some b)(ho:b.own=true)(hb:b.base=some gg)(hx:ev t x=some (aB (some gg) 0 len cap))
 (hk2:L[k2]? =some b2)(hy:ev t y=some (aB b2.base 0 len2 cap2))(hl2:b2.cs.length=len2)(hle:len2<=len)(hfit:len2<=b.cs.length)(h1:∀v∈b2.cs,v.oneCell'=true)(hcs:b2.cs++b.cs.drop len2=cs')(hL:L.set k {b with cs:=cs'}=L')
 (h:aU P bl ops rest ⟨nt,(d,.int .i64 len2)::t,L'⟩ K):aU P bl ops (⟨some d,.call {callee:= .builtin .copy,args:= #[x,y],argTypes:= #[T,T]},ty,pos,af,g⟩::rest) ⟨nt,t,L⟩ K:=by
 obtain⟨inf,i1,i2,i3,i5⟩:=vK hi;exact qr1 k k2 L' cs' hT i1 i3 hd hg hk ho hb hx hk2 hy hl2 hle hfit h1 hcs hL h
end
def aX.toFront{B:Bs}{w:World}{L:List aF}{k:Nat}{b:aF}(h:aX B L w)(hk:L[k]? =some b):aX B (b::L.eraseIdx k) w:=by
 refine h.reindex (fun i=>if i=0 then k else if i-1<k then i-1 else i) (fun i c hc=>?_) (fun i j _ _ e=>?_)
 ·cases i with
  |zero=>simp at hc;subst hc;simpa using hk
  |succ i=>
   simp only[List.getElem?_cons_succ,List.getElem?_eraseIdx] at hc
   by_cases c1:i<k
   ·rw[if_pos c1] at hc;simpa[c1] using hc
   ·rw[if_neg c1] at hc;simpa[c1] using hc
 ·exact qf0
def aX.fromFront{B:Bs}{w:World}{L:List aF}{k:Nat}{b b':aF}(hk:L[k]? =some b)(h:aX B (b'::L.eraseIdx k) w):aX B (L.set k b') w:=by
 have hkl:=(List.getElem?_eq_some_iff.1 hk).1;refine h.reindex (fun i=>if i=k then 0 else if i<k then i+1 else i) (fun i c hc=>?_) (fun i j _ _ e=>?_)
 ·by_cases e:i=k
  ·subst e;rw[List.getElem?_set_self hkl] at hc;simpa using hc
  ·rw[List.getElem?_set_ne (Ne.symm e)] at hc
   by_cases c1:i<k
   ·simp[e,c1,List.getElem?_eraseIdx,hc]
   ·obtain⟨m,rfl⟩:∃m,i=m+1:=⟨i-1,ae⟩;simp only[if_neg e,if_neg c1,List.getElem?_cons_succ,List.getElem?_eraseIdx];rw[if_neg ae];exact hc
 ·exact qf0
def qp1(P:Program)(f:Nat)(b:aF)(args:List Value)(v:Value)(b':aF):Prop:=
 iP P f=true∧∀(B:Bs) (w:World) (R:List aF),B.D=[]->aX B (b::R) w->Calls P f args.toArray w fun e w'=>e= .returned v∧aX B (b'::R) w'
section
variable{P:Program}{bl:List Nat}{ops:Array Oper}{K:St->Prop}{rest:List Oper}{nt:Nat}{t:List (Nat×Value)}{L:List aF}{d:Nat}{ty:TypeId}{pos:String}{af:Array Edge}{g:Option (Nat×Bool)}{x y:Operand}
def qm7{f:Nat}{args:List Operand}{ts:Array TypeId}(vs:List Value){v:Value}{b b':aF}(k:Nat)(L':List aF)(hM:LC bl=true)(hd:Nat.blt d nt=true)(hg:az ops ⟨some d,.call {callee:= .value (.func f),args:=args.toArray,argTypes:=ts},ty,pos,af,g⟩ t=some true)
 (hv:args.map (ev t)=vs.map some)(hc:qp1 P f b vs v b')(hk:L[k]? =some b)(hL:L.set k b'=L')(h:aU P bl ops rest ⟨nt,(d,v)::t,L'⟩ K):
 aU P bl ops (⟨some d,.call {callee:= .value (.func f),args:=args.toArray,argTypes:=ts},ty,pos,af,g⟩::rest) ⟨nt,t,L⟩ K:=
 qfF hd hg hM (X:=Unit) (nx:=fun _=>⟨nt,(d,v)::t,L'⟩) (fun hd' B a w hr=>by
 unfold Oper.wp;rw[rC hc.1 a rfl rfl (vs:=vs.toArray) Gv w];refine(hc.2 B.d0 w _ rfl (hr.mem.toFront hk).d0).mono ?_;rintro e w' ⟨rfl,hw⟩;refine⟨(),?_⟩;rw[<-hL];exact hr.put hd' (aX.fromFront hk hw.of_d0)) fun _=>h
end
end Go.Via
namespace Go.Via
variable[Mo]
open Go
def JV{x y:Int}(m n:Nat)(hx:x=(m:Int))(hy:y=(n:Int))(h:m/n<=9223372036854775807):IntKind.i64.wrap (x.tdiv y)=((m/n:Nat):Int):=by
 subst hx;subst hy;rw[<-Int.ofNat_tdiv];generalize m/n=q at*;exact wi ae ae rfl
def qgc{x y:Int}(m n:Nat)(hx:x=(m:Int))(hy:y=(n:Int))(h:m/n<18446744073709551616):IntKind.u64.wrap (x.tdiv y)=((m/n:Nat):Int):=by
 subst hx;subst hy;rw[<-Int.ofNat_tdiv];generalize m/n=q at*;exact wu ae ae rfl
def lW{x y:Int}(m n:Nat)(hx:x=(m:Int))(hy:y=(n:Int)):x.tmod y=((m%n:Nat):Int):=by
 subst hx;subst hy;exact(Int.ofNat_tmod m n).symm
def qgd{x s:Int}(m k:Nat)(hx:x=(m:Int))(hs:s=(k:Int))(hk:k<=64)(h:m*2^k<18446744073709551616):IntKind.u64.wrap (x*2^(min s.toNat IntKind.u64.bits))=((m*2^k:Nat):Int):=by
 subst hx;subst hs
 have:min (k:Int).toNat IntKind.u64.bits=k:=by rw[Yw];omega
 rw[this]
 exact wu (Int.mul_nonneg (by omega) (Int.pow_nonneg (by omega))) (by have:((m*2^k:Nat):Int)<18446744073709551616:=by omega
                                                                      simpa using this) bz
def qm8{x s:Int}(m k:Nat)(hx:x=(m:Int))(hs:s=(k:Int))(hk:k<=32)(h:m*2^k<4294967296):IntKind.u32.wrap (x*2^(min s.toNat IntKind.u32.bits))=((m*2^k:Nat):Int):=by
 subst hx;subst hs
 have:min (k:Int).toNat IntKind.u32.bits=k:=by rw[Yx];omega
 rw[this,qm5]
 have e:((m:Int)*2^k)=((m*2^k:Nat):Int):=bz
 rw[e];omega
def VL{x s:Int}(m k:Nat)(hx:x=(m:Int))(hs:s=(k:Int))(hk:k<=64):x.fdiv (2^(min s.toNat IntKind.u64.bits))=((m/2^k:Nat):Int):=by
 subst hx;subst hs
 have:min (k:Int).toNat IntKind.u64.bits=k:=by rw[Yw];omega
 rw[this,Int.fdiv_eq_ediv_of_nonneg _ (Int.pow_nonneg ae)]
 simp
def c64{x:Int}(m:Nat)(hx:x=(m:Int))(h:m<18446744073709551616):IntKind.u64.wrap x=(m:Int):=by subst hx;exact wu ae ae rfl
def X9{x:Int}(m:Nat)(hx:x=(m:Int)):IntKind.u32.wrap x=((m%4294967296:Nat):Int):=by subst hx;rw[qm5];omega
def c8{x:Int}(m:Nat)(hx:x=(m:Int)):IntKind.u8.wrap x=((m%256:Nat):Int):=by subst hx;rw[wu8];omega
def GK{k:IntKind}{l:List Nat}(h:0<l.length):NV k l≠[]:=by
 intro e;have:=congrArg List.length e;rw[jJ] at this;simp at this;subst this;simp at h
def Tq(k:IntKind)(l:List Nat):∀v∈NV k l,v.oneCell'=true:=by
 intro v hv;obtain⟨n,_,rfl⟩:=List.mem_map.1 hv;rfl
def jL(t:List (Nat×Value)):List (Nat×Value)->Prop
 |[]=>True
 |p::l=>look t p.1=some p.2∧jL t l
def jL.mem{t:List (Nat×Value)}:∀{t':List (Nat×Value)},jL t t'->∀p∈t',look t p.1=some p.2
 |[],_,p,hp=>by cases hp
 |q::l,h,p,hp=>by
  rcases List.mem_cons.1 hp with rfl|hp
  ·exact h.1
  ·exact jL.mem h.2 p hp
def aO{t:List (Nat×Value)}{d:Nat}{v v':Value}(h:look t d=some v)(e:v=v'):look t d=some v':=e▸h
def Nxt{ι:Type}(B:Bs)(nt:Nat)(T:ι->List (Nat×Value))(LL:ι->List aF)(μ:ι->Nat)(i:ι)(a':Act)(w':World):Prop:=∃j,μ j<μ i∧kK B ⟨nt,T j,LL j⟩ a' w'
def qr2{P:Program}{B:Bs}{Q:Exit->Act->World->Prop}{nt:Nat}{t:List (Nat×Value)}{L:List aF}{ι:Type}{c:Code}(T:ι->List (Nat×Value))(LL:ι->List aF)(μ:ι->Nat)(i₀:ι)(ht:jL t (T i₀))(hL:fE L (LL i₀))
 (round:∀i,At B ⟨nt,T i,LL i⟩ (c.wp P (Exit.then (Nxt B nt T LL μ i) Q))):At B ⟨nt,t,L⟩ ((Code.loop c).wp P Q):=
 qdu (fun i=>⟨nt,T i,LL i⟩) μ i₀ (T i₀) (LL i₀) rfl ht.mem hL round
def qu2{B:Bs}{nt:Nat}{t:List (Nat×Value)}{L:List aF}{ι:Type}{T:ι->List (Nat×Value)}{LL:ι->List aF}{μ:ι->Nat}{i:ι}(j:ι)(hμ:μ j<μ i)(ht:jL t (T j))(hL:fE L (LL j)):
 At B ⟨nt,t,L⟩ (Nxt B nt T LL μ i):=
 qf3 (inv:=fun i=>⟨nt,T i,LL i⟩) j (T j) (LL j) rfl hμ ht.mem hL
end Go.Via
namespace Go.Via
variable[Mo]
open Go Go.RowKit
section
variable{P:Program}{bl:List Nat}{ops:Array Oper}{K:St->Prop}{rest:List Oper}{nt:Nat}{t:List (Nat×Value)}{L:List aF}{d:Nat}{ty:TypeId}{pos:String}{af:Array Edge}{g:Option (Nat×Bool)}{x y:Operand}
def qdx{T e:Nat}{inf:TypeInfo}{bb:Option Nat}{len cap c2:Nat}{b2:Option Nat}(hT:P.underlying T=some (.slice e))(hi:P.info? e=some inf)(hd:Nat.blt d nt=true)
 (hg:az ops ⟨some d,.call {callee:= .builtin .append,args:= #[x,y],argTypes:= #[T,T]},ty,pos,af,g⟩ t=some true)
 (hx:ev t x=some (aB bb 0 len cap))(hcap:len<=cap)(hy:ev t y=some (aB b2 0 0 c2))(h:aU P bl ops rest ⟨nt,(d,aB bb 0 len cap)::t,L⟩ K):
 aU P bl ops (⟨some d,.call {callee:= .builtin .append,args:= #[x,y],argTypes:= #[T,T]},ty,pos,af,g⟩::rest) ⟨nt,t,L⟩ K:=
 eY hd hg rfl (fun B a w hr=>by
 have hx':=hr.ev hx;have hy':=hr.ev hy;have hs:Src P inf.size T (aB b2 0 0 c2) 0 [] w:=by
  cases b2 with
  |none=>exact Src.ofNil (P:=P) w hT c2
  |some g2=>exact Src.ofSlice (P:=P) w hT ⟨g2,0,none⟩ 0 c2 [] bz (fun j u hj=>by simp at hj) (fun u hu=>by cases hu)
 have r1:=run_append_nothing (P:=P) w T T ty e inf hT hi (bb.map fun g=>⟨g,0,none⟩) len cap hcap (aB b2 0 0 c2) hs;have r2:(execOp a.eval ⟨some d,.call {callee:= .builtin .append,args:= #[x,y],argTypes:= #[T,T]},ty,pos,af,g⟩).run P w=((Builtin.append_ #[T,T] ty #[aB bb 0 len cap,aB b2 0 0 c2]).run P w).andThen fun v w=> .ok (.value v) w:=by
  simp[execOp,resolve,invoke,builtin,hx',hy']
 rw[r2];unfold aB at r1 ⊢;rw[r1];rfl) h
end
end Go.Via
