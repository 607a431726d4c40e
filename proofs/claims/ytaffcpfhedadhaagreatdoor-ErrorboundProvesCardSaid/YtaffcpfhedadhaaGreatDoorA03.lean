/-
  Part 3 (chapter 32): lemmas, walks. Each theorem states its own conditions.
-/
import Derived.Lib.AppendStr
import Derived.Lib.UnsafeStr
import Derived.Lib.Builder
import Derived.Laws.Externs
import Derived.Laws.Concat
import Derived.Laws.Strings2
import Derived.Lib.OthersKept
import Derived.Shelf.SlSortCmp.WholeK
import Derived.Shelf.SlSortCmp.NoneTotal
import Derived.Test.YtaffcpfhedadhaaGreatDoorA01
import Derived.Test.YtaffcpfhedadhaaGreatDoorA02
set_option linter.all false
set_option maxRecDepth 20000
set_option maxHeartbeats 20000000
namespace Go.Via
open Go
def qgP(a b:Int)(i:Nat)(h:i<2):([.int .i64 a,.int .i64 b]:List Value)[i]? =some (.int .i64 (if i=0 then a else b)):=by
 have:i=0∨i=1:=(by omega);rcases this with rfl|rfl<;>rfl
def qkL(a b:Int)(i:Nat)(ha:0<i->a=0)(he:(if i=0 then a else b)=0):0<i+1->a=0:=fun _=>by
 by_cases h:i=0
 ·rwa [if_pos h] at he
 ·exact ha (by omega)
def qkM(a b:Int)(i:Nat)(he:(if i=0 then a else b)=0):1<i+1->b=0:=fun h=>by
 rwa [if_neg (by omega)] at he
theorem qdE(a b:Int)(i:Nat)(ha:0<i->a=0)(hne:(if i=0 then a else b)≠0):(if i=0 then a else b)=(if a=0 then b else a):=by
 by_cases h:i=0
 ·rw[if_pos h] at hne ⊢;rw[if_neg hne]
 ·rw[if_neg h] at hne ⊢;rw[if_pos (ha (by omega))]
theorem VX{m n:Nat}(h:nb m<nb n):m<n:=Dt (by omega) h
theorem Q3(m n:Nat):(if(if(nb m:Int)<(nb n:Int) then(-1:Int) else if(nb n:Int)<(nb m:Int) then 1 else 0)=0 then Lib.compareBytes (bQ m).data.toList (bQ n).data.toList
 else(if(nb m:Int)<(nb n:Int) then(-1:Int) else if(nb n:Int)<(nb m:Int) then 1 else 0))=ng m n:=by
 unfold ng;rcases Nat.lt_trichotomy (nb m) (nb n) with h|h|h
 ·have:=VX h;rw[if_pos (by omega:(nb m:Int)<nb n),if_neg (by decide),if_pos this]
 ·rw[if_neg (by omega:¬(nb m:Int)<nb n),if_neg (by omega:¬(nb n:Int)<nb m),if_pos rfl,QZ h]
 ·have:=VX h;rw[if_neg (by omega:¬(nb m:Int)<nb n),if_pos (by omega:(nb n:Int)<nb m),if_neg (by decide),if_neg (by omega),if_pos this]
def Z9(m n:Nat):IntKind.i64.wrap (0-ng m n)= -ng m n:=by
 unfold ng;split<;>(try split)<;>rfl
def VY{b:Int}(h:¬b<0):0<=b.sign:=by
 rcases Int.lt_trichotomy b 0 with h1|h1|h1
 ·exact absurd h1 h
 ·subst h1;decide
 ·rw[Int.sign_eq_one_of_pos h1];decide
def Nq{a:Int}(h:a<0):a.sign= -1:=Int.sign_eq_neg_one_of_neg h
theorem qgQ{a b:Int}(h:(decide (a<0) !=decide (b<0))=true):(if a.sign<b.sign then(-1:Int) else if b.sign<a.sign then 1 else 0)=zX a b:=by
 unfold zX
 by_cases ha:a<0<;>by_cases hb:b<0
 ·simp[ha,hb] at h
 ·have h1:=Nq ha;have h2:0<=b.sign:=VY (by omega);rw[if_pos (by omega),if_pos (by omega)]
 ·have h1:=Nq hb;have h2:0<=a.sign:=VY (by omega);rw[if_neg (by omega),if_pos (by omega),if_neg (by omega),if_pos (by omega)]
 ·simp[ha,hb] at h
theorem qdF{a b:Int}(h:(decide (a<0) !=decide (b<0))=false)(h2:decide (a<0)=true): -ng a.natAbs b.natAbs=zX a b:=by
 have ha:=of_decide_eq_true h2;have hb:b<0:=(by simpa[ha] using h);unfold ng zX
 by_cases c1:a<b
 ·rw[if_pos c1,if_neg (by omega),if_pos (by omega)]
 ·rw[if_neg c1]
  by_cases c2:b<a
  ·rw[if_pos c2,if_pos (by omega)];rfl
  ·rw[if_neg c2,if_neg (by omega),if_neg (by omega)];rfl
theorem qdG{a b:Int}(h:(decide (a<0) !=decide (b<0))=false)(h2:decide (a<0)=false):ng a.natAbs b.natAbs=zX a b:=by
 have ha:=of_decide_eq_false h2;have hb:¬b<0:=(by simpa[ha] using h);unfold ng zX
 by_cases c1:a<b
 ·rw[if_pos c1,if_pos (by omega)]
 ·rw[if_neg c1,if_neg (show¬a.natAbs<b.natAbs by omega)]
  by_cases c2:b<a
  ·rw[if_pos c2,if_pos (by omega)]
  ·rw[if_neg c2,if_neg (by omega)]
def XZ(z:Int)(h:decide (z<0)=true):(if decide (z<0)=true then-(z.natAbs:Int) else(z.natAbs:Int))=z:=by
 rw[if_pos h];have:=of_decide_eq_true h;omega
def X3(z:Int)(h:decide (z<0)=false):(if decide (z<0)=true then-(z.natAbs:Int) else(z.natAbs:Int))=z:=by
 rw[if_neg (by rw[h];decide)];have:=of_decide_eq_false h;omega
def qaa{l:List UInt8}(h:0<l.length):∃x r,l=x::r:=by cases l with
 |nil=>simp at h
 |cons x r=>exact⟨x,r,rfl⟩
def X4(x:UInt8)(r:List UInt8):(lZ (x::r)).extract (1:Int).toNat (lZ (x::r)).size=lZ r:=by
 rw[xP];show ByteArray.extract _ 1 _=_
 apply ByteArray.ext
 rw[ByteArray.data_extract];simp[lZ]
theorem Uu{l:List UInt8}(h:(lZ l==⟨#[]⟩)=true):l=[]:=by
 rw[yH] at h
 simpa[lZ] using h
def Ps.cells(p:Ps):List Value:=[.string (lZ p.s),.int .i64 (p.pos:Nat),.int .i64 (p.k:Nat),.int .i64 (p.at_:Nat),.string (lZ p.tx),.int .i64 (p.bat:Nat),.int .i64 (p.be:Nat),.bool p.fail]
end Go.Via
namespace Go.Via
variable[Mo]
open Go Go.RowKit
def NB(l:D7):List Value:=l.map fun b=> .int .u8 (b.toNat:Nat)
theorem Nr(l:D7):(NB l).length=l.length:=by simp[NB]
section
variable{P:Program}{bl:List Nat}{ops:Array Oper}{K:St->Prop}{rest:List Oper}{nt:Nat}{t:List (Nat×Value)}{L:List aG}{d:Nat}{ty:TypeId}{pos:String}{af:Array Edge}{g:Option (Nat×Bool)}{x y:Operand}
end
end Go.Via
namespace Go.Via
variable[Mo]
open Go Go.RowKit
abbrev Bs.put(B:Bs)(f:Nat)(vs:List Value):Bs:=⟨B.w,B.S,{target:= .fn (.func f) #[],args:=vs.toArray}::B.D⟩
structure Bd where
 b:Option Nat
 n:Nat
 cap:Nat
 s:D7
def Bd.ok(d:Bd):Prop:=d.s.length<=d.cap∧d.cap<=d.n∧(d.b=none↔d.cap=0)
abbrev OB(m:Nat):={r:OR m 1 // r.b=none↔r.cap=0}
def OB.bd{m:Nat}(r:OB m)(s:D7):Bd:=⟨r.1.b,r.1.n,r.1.cap,s⟩
def OB.ok{m:Nat}(r:OB m){s:D7}(h:s.length=m):(r.bd s).ok:=⟨by show s.length<=r.1.cap;rw[h];exact r.1.h,by have:=r.1.hn;show r.1.cap<=r.1.n;omega,r.2⟩
theorem Bd.pos{d:Bd}(h:d.ok):d.b≠none->d.n≠0:=fun hb=>by
 have h1:=h.2.1;have h2:d.cap≠0:=fun e=>hb (h.2.2.2 e)
 omega
end Go.Via
namespace Go.Via
variable[Mo]
open Go Go.RowKit
theorem Q4(a b:D7):lZ a++lZ b=lZ (a++b):=by
 apply ByteArray.ext
 simp[lZ,ByteArray.data_append]
section
variable{P:Program}{bl:List Nat}{ops:Array Oper}{K:St->Prop}{rest:List Oper}{nt:Nat}{t:List (Nat×Value)}{L:List aG}{d:Nat}{ty:TypeId}{pos:String}{af:Array Edge}{g:Option (Nat×Bool)}{x y z:Operand}
def qgR{T U:Nat}{a b:ByteArray}{p q r:D7}(hd:Nat.blt d nt=true)(hg:ax ops ⟨some d,.binOp .add T x y U,ty,pos,af,g⟩ t=some true)(hx:ev t x=some (.string a))(hy:ev t y=some (.string b))(ha:a=lZ p)(hb:b=lZ q)(hr:p++q=r)(hlen:p.length+q.length<=17179869184)
 (h:aW P bl ops rest ⟨nt,(d,.string (lZ r))::t,L⟩ K):aW P bl ops (⟨some d,.binOp .add T x y U,ty,pos,af,g⟩::rest) ⟨nt,t,L⟩ K:=by
 subst ha;subst hb;subst hr;exact gq hd hg rfl (fun B a w hrel=>by
 have h1:=hrel.ev hx;have h2:=hrel.ev hy;have h3:=run_string_add_sum (P:=P) w (lZ p) (lZ q) (by rw[xP,xP];omega);rw[Q4] at h3;simp[execOp,h1,h2,eqGuard,binOp,h3]) h
end
end Go.Via
namespace Go.Via
variable[Mo]
open Go Go.RowKit
section
variable{P:Program}{bl:List Nat}{ops:Array Oper}{K:St->Prop}{rest:List Oper}{nt:Nat}{t:List (Nat×Value)}{L:List aG}{d:Nat}{ty:TypeId}{pos:String}{af:Array Edge}{g:Option (Nat×Bool)}{x y:Operand}
def F9{f:Nat}{args:List Operand}{ts:Array TypeId}{dst:Option Nat}(vs caps:List Value){A C:List aG}{X:Type}{res:X->Value}{L1:X->List aG}(ks is:List Nat)(mk:X->List aG)(hM:IE bl=true)(hd:(match dst with|some d=>Nat.blt d nt|none=>true)=true)
 (hg:ax ops ⟨dst,.call {callee:= .value x,args:=args.toArray,argTypes:=ts},ty,pos,af,g⟩ t=some true)(hf:ev t x=some (.func (.func f) #[] caps.toArray))
 (hv:args.map (ev t)=vs.map some)(hc:Cm P f (A++C) (vs++caps) X res L1)(hn:ks.Nodup)(hk:ks.map (fun k=>L[k]?)=A.map some)(hA:(A.all fun b=>b.own&&(Nat.blt b.e dC||b.base.isSome))=true)(hp:jr L (is.map some) C)(hC:(C.all fun b=> !b.own)=true)(hap:lW ((ks++is).map some) ((A++C).map (·.own))=true)
 (hlen:∀x,Nat.ble ks.length (L1 x).length=true)(hown:∀x,∀b∈L1 x,b.own=true∨∃a∈A,a.base=b.base∧b.base.isSome=true)(hL:∀x,setG L ks (L1 x)=mk x)
 (h:∀x,aW P bl ops rest (({nt:=nt,t:=t,L:=mk x}:St).put dst (res x)) K):
 aW P bl ops (⟨dst,.call {callee:= .value x,args:=args.toArray,argTypes:=ts},ty,pos,af,g⟩::rest) ⟨nt,t,L⟩ K:=
 Zl hd hg hM (X:=X) (nx:=fun x=>({nt:=nt,t:=t,L:=mk x}:St).put dst (res x)) (fun hd' B a w hr=>by
 have h1:(execOp a.eval ⟨dst,.call {callee:= .value x,args:=args.toArray,argTypes:=ts},ty,pos,af,g⟩).run P w= .ok (.enter f (vs++caps).toArray) w:=by
  have hfv:=hr.ev hf;have hva:args.toArray.map a.eval=vs.toArray:=(by simp[oJ hr hv]);have hp:=hc.1;unfold ja at hp;cases hq:P.funcs[f]? with
  |none=>rw[hq] at hp;cases hp
  |some fn=>
   rw[hq] at hp;simp only[Bool.and_eq_true,Bool.not_eq_true'] at hp;obtain⟨h1,h2⟩:=hp;have h3:fn.body≠none:=by intro hb;rw[hb] at h1;cases h1
   have h4:¬fn.name= "runtime.NumGoroutine" :=(by simpa using h2);simp[execOp,resolve,hfv,hva,Deferred.ofValue,invoke,callFunc,hq,h4,h3]
 unfold Oper.wp;rw[h1];refine(hc.at ks is hn hk hA hp hC hap hlen hown hr.mem).mono ?_;rintro e w' ⟨x,rfl,hw⟩;refine⟨x,?_⟩;rw[hL] at hw;exact hr.put hd' hw) h
end
end Go.Via
namespace Go.Via
variable[Mo]
open Go Go.RowKit
section
variable{P:Program}{bl:List Nat}{ops:Array Oper}{K:St->Prop}{rest:List Oper}{nt:Nat}{t:List (Nat×Value)}{L:List aG}{d:Nat}{ty:TypeId}{pos:String}{af:Array Edge}{g:Option (Nat×Bool)}{x y:Operand}
def gV{f:Nat}{args:List Operand}{ts:Array TypeId}(vs:List Value){v:Value}(hd:Nat.blt d nt=true)(hg:ax ops ⟨some d,.call {callee:= .value x,args:=args.toArray,argTypes:=ts},ty,pos,af,g⟩ t=some true)
 (hf:ev t x=some (.func (.func f) #[] #[]))(hv:args.map (ev t)=vs.map some)(hc:aP P f vs.toArray v)(h:aW P bl ops rest ⟨nt,(d,v)::t,L⟩ K):
 aW P bl ops (⟨some d,.call {callee:= .value x,args:=args.toArray,argTypes:=ts},ty,pos,af,g⟩::rest) ⟨nt,t,L⟩ K:=
 ZG (caps:=[]) (L0:=[]) vs [] hd hg hf hv ⟨hc.1,fun w hL=>by
 have:=hc.2 w;rw[List.append_nil];exact this.mono (by rintro e w' ⟨rfl,hb⟩;exact⟨(),rfl,⟨.of hb,fun k b hk=>by simp at hk,fun i j g bi bj hij hi=>by simp at hi,mP.nil _ _⟩⟩)⟩ (by exact trivial) rfl h
def Q5{T:Nat}{v:Value}(hd:Nat.blt d nt=true)(hg:ax ops ⟨some d,.makeInterface T x,ty,pos,af,g⟩ t=some true)(hx:ev t x=some v)(hm:∀w,(Instr.makeInterface T v).run P w= .ok (.iface T v) w)
 (h:aW P bl ops rest ⟨nt,(d,.iface T v)::t,L⟩ K):aW P bl ops (⟨some d,.makeInterface T x,ty,pos,af,g⟩::rest) ⟨nt,t,L⟩ K:=
 gq hd hg rfl (fun B a w hr=>by simp[execOp,hr.ev hx,hm w]) h
def uf{n:String}{v:Value}(hd:Nat.blt d nt=true)(hg:ax ops ⟨some d,.makeFunc (.method n) #[x] #[],ty,pos,af,g⟩ t=some true)(hx:ev t x=some v)(u:Value)(hm:∀w,(Instr.makeFunc (.method n) #[v] #[]).run P w= .ok u w)(h:aW P bl ops rest ⟨nt,(d,u)::t,L⟩ K):
 aW P bl ops (⟨some d,.makeFunc (.method n) #[x] #[],ty,pos,af,g⟩::rest) ⟨nt,t,L⟩ K:=
 gq hd hg rfl (fun B a w hr=>by simp[execOp,hr.ev hx,hm w]) h
def wF{n:String}{T:Nat}{u:Value}(hd:Nat.blt d nt=true)(hg:ax ops ⟨some d,.nilCheck x,ty,pos,af,g⟩ t=some true)(hx:ev t x=some (.func (.method n) #[.iface T u] #[]))(hm:∀w,(nilAhead (P.types.size+Made.depth) T u n).run P w= .ok (some false) w)
 (h:aW P bl ops rest ⟨nt,(d,.func (.method n) #[.iface T u] #[])::t,L⟩ K):aW P bl ops (⟨some d,.nilCheck x,ty,pos,af,g⟩::rest) ⟨nt,t,L⟩ K:=
 gq hd hg rfl (fun B a w hr=>by
 have hp0:Sem.run P (Sem.program Sem.pure) w= .ok P w:=rfl;simp[execOp,hr.ev hx,program,hp0,hm w]) h
def Bq{f:Nat}{n:String}{args:List Operand}{ts:Array TypeId}(T:Nat)(u r:Value)(vs:List Value){v:Value}(hd:Nat.blt d nt=true)(hg:ax ops ⟨some d,.call {callee:= .invoke x n,args:=args.toArray,argTypes:=ts},ty,pos,af,g⟩ t=some true)
 (hf:ev t x=some (.iface T u))(hm:∀w,(method (P.types.size+Made.depth) T u n).run P w= .ok (f,r) w)(hv:args.map (ev t)=vs.map some)(hc:aP P f (r::vs).toArray v)(h:aW P bl ops rest ⟨nt,(d,v)::t,L⟩ K):
 aW P bl ops (⟨some d,.call {callee:= .invoke x n,args:=args.toArray,argTypes:=ts},ty,pos,af,g⟩::rest) ⟨nt,t,L⟩ K:=
 MM hd hg rfl rfl (X:=Unit) (nx:=fun _=>⟨nt,(d,v)::t,L⟩) (fun hd' B a w hr=>by
 have h1:(execOp a.eval ⟨some d,.call {callee:= .invoke x n,args:=args.toArray,argTypes:=ts},ty,pos,af,g⟩).run P w= .ok (.enter f (r::vs).toArray) w:=by
  have hfv:=hr.ev hf;have hva:args.toArray.map a.eval=vs.toArray:=(by simp[oJ hr hv]);have hp:=hc.1;have hmw:=hm w;unfold ja at hp;cases hq:P.funcs[f]? with
  |none=>rw[hq] at hp;cases hp
  |some fn=>
   rw[hq] at hp;simp only[Bool.and_eq_true,Bool.not_eq_true'] at hp;obtain⟨h1,h2⟩:=hp;have h3:fn.body≠none:=by intro hb;rw[hb] at h1;cases h1
   have h4:¬fn.name= "runtime.NumGoroutine" :=(by simpa using h2);have hp0:Sem.run P (Sem.program Sem.pure) w= .ok P w:=rfl;simp[execOp,resolve,hfv,hva,invoke,callMethod,program,hp0,hmw,callFunc,hq,h4,h3]
 unfold Oper.wp;rw[h1];refine(hc.2 w).mono ?_;rintro e w' ⟨rfl,hw⟩;exact⟨(),hr.put hd' (hr.mem.same hw)⟩) fun _=>h
end
end Go.Via
namespace Go.Via
variable[Mo]
open Go Go.RowKit
def elW(P:Program)(e:Nat)(s:Nat)(z:Value):Prop:=((P.info? e).map fun inf=>(inf.size,Nat.ble inf.bytes 1024,inf.zero))=some (s,true,some z)∧e<dC
section
variable{P:Program}{bl:List Nat}{ops:Array Oper}{K:St->Prop}{rest:List Oper}{nt:Nat}{t:List (Nat×Value)}{L:List aG}{d:Nat}{ty:TypeId}{pos:String}{af:Array Edge}{g:Option (Nat×Bool)}{x y:Operand}
def qab{e s:Nat}{z:Value}(h:elW P e s z):∃inf,P.info? e=some inf∧inf.zero=some z∧inf.size=s∧inf.bytes<=1024:=by
 unfold elW at h;replace h:=h.1;cases hq:P.info? e with
 |none=>rw[hq] at h;cases h
 |some inf=>
  rw[hq] at h;simp at h;exact⟨inf,rfl,h.2.2,h.1,h.2.1⟩
def Ns{T e s:Nat}{z:Value}{b:aG}{len cap b2o n2 c2:Nat}{b2:aG}(k k2:Nat)(mk:AR (len+n2) s->List aG)(hT:P.underlying T=some (.slice e))(hi:elW P e s z)(hd:Nat.blt d nt=true)
 (hg:ax ops ⟨some d,.call {callee:= .builtin .append,args:= #[x,y],argTypes:= #[T,T]},ty,pos,af,g⟩ t=some true)
 (hk:L[k]? =some b)(ho:b.own=true)(he:b.e=e)(hx:ev t x=some (az b.base 0 len cap))(hk2:L[k2]? =some b2)(hb2:b2.base=some b2o)(hy:ev t y=some (az (some b2o) 0 n2 c2))(hs:Nat.blt 0 s=true)(hzs:z.cells.size=s)(hpos:Nat.blt 0 n2=true)
 (hlen:b.cs.length=len*s)(hcap:len<=cap)(hn:cap*s<=b.n)(hlen2:b2.cs.length=n2*s)(h1:∀v∈b2.cs,v.oneCell'=true)(hmax:len+n2<=17179869184)
 (hL:∀r,L.set k ⟨some r.g,e,b.cs++b2.cs,r.n,true⟩=mk r)
 (h:∀r:AR (len+n2) s,aW P bl ops rest ⟨nt,(d,az (some r.g) 0 (len+n2) r.cap)::t,mk r⟩ K):
 aW P bl ops (⟨some d,.call {callee:= .builtin .append,args:= #[x,y],argTypes:= #[T,T]},ty,pos,af,g⟩::rest) ⟨nt,t,L⟩ K:=by
 obtain⟨inf,i1,i2,i3,i5⟩:=qab hi;subst i3;exact QG hi.2 k k2 mk hT i1 i2 (by simpa using hs) hzs (by omega) hd hg hk ho he hlen hcap hn hx hk2 hlen2 (by simpa using hpos) hb2 hy h1 hmax hL h
end
def fD{B:Bs}{nt:Nat}{t:List (Nat×Value)}{L:List aG}{Q:Act->World->Prop}(k:Nat){b:Option Nat}{e n:Nat}{cs:List Value}{o:Bool}(hk:L[k]? =some ⟨b,e,cs,n,o⟩)(hcs:cs≠[])(h:b.isSome=true->At B ⟨nt,t,L⟩ Q):At B ⟨nt,t,L⟩ Q:=fun a w hr=>h (by
 cases b with
 |none=>exact absurd ((hr.mem.blk k _ hk).2 rfl).1 hcs
 |some g=>rfl) a w hr
end Go.Via
namespace Go.Via
variable[Mo]
open Go Go.RowKit
def rG{P:Program}{B:Bs}{s:St}{Q:Exit->Act->World->Prop}{x y:Code}{nt:Nat}{X:Type}(T:X->List (Nat×Value))(LL:X->List aG)
 (h1:At B s (x.wp P (Exit.then (fun a w=>∃z,lh B ⟨nt,T z,LL z⟩ a w) Q)))(h2:∀z,At B ⟨nt,T z,LL z⟩ (y.wp P Q)):At B s ((Code.seq x y).wp P Q):=
 TR fun a w hr=>Code.wp_mono (fun e a w h=>by
 cases e with
 |normal=>obtain⟨z,h⟩:=h;exact h2 z a w h
 |_=>exact h) (h1 a w hr)
def EE{B:Bs}{nt:Nat}{t:List (Nat×Value)}{L:List aG}{X:Type}{T:X->List (Nat×Value)}{LL:X->List aG}(z:X)(lk:jX t (T z))(hw:eG L (LL z)):At B ⟨nt,t,L⟩ (fun a w=>∃z,lh B ⟨nt,T z,LL z⟩ a w):=fun a w hr=>
 ⟨z,hr.df,hr.size,fun d v hd=>hr.tmp d v (lk.mem (d,v) (uG hd)),hw _ _ hr.mem⟩
end Go.Via
namespace Go.Via
variable[Mo]
open Go Go.RowKit
def Ag(n:Nat)(R:List Nat):Array Bool:=((List.range n).map fun j=> !R.contains j).toArray
theorem JQ{n:Nat}{R:List Nat}{j:Nat}:(Ag n R)[j]? =if j<n then some (!R.contains j) else none:=by
 unfold Ag;simp[List.getElem?_map,List.getElem?_range]
 split<;>simp_all
theorem Q7{n:Nat}{R:List Nat}{i:Nat}:(Ag n R).setIfInBounds i true=Ag n (R.filter (· !=i)):=by
 refine Array.ext_getElem? fun j=>?_
 rw[Array.getElem?_setIfInBounds,JQ,JQ];have hs:(Ag n R).size=n:=by simp[Ag]
 rw[hs]
 by_cases e:i=j
 ·subst e
  by_cases h:i<n
  ·simp[h]
  ·simp[h]
 ·rw[if_neg e];have:(R.filter (· !=i)).contains j=R.contains j:=by
   rw[Bool.eq_iff_iff];simp[List.mem_filter];exact fun _ h=>e h.symm
  rw[this]
theorem qac{n:Nat}:Array.replicate n false=Ag n (List.range n):=by
 refine Array.ext_getElem? fun j=>?_
 rw[JQ,Array.getElem?_replicate]
 split
 ·rename_i h;simp[h]
 ·rfl
def wZ(P:Program)(ops:Array Oper)(X:Act->World->Prop)(B:Bs)(n:Nat)(R:List Nat)(s:St):Prop:=∀a w,lh B s a w->wpAny P .any ops (vZ X) n (Ag ops.size R) a w
section
variable{P:Program}{ops:Array Oper}{X:Act->World->Prop}{B:Bs}{n:Nat}{R:List Nat}
def qgS{s:St}(h:Region.ready .any ops (Ag ops.size R)=[])(hk:At B s X):wZ P ops X B 0 R s:=fun a w hr=>⟨h,hk a w hr⟩
def cZ{s:St}(l:List Nat)(h1:Region.ready .any ops (Ag ops.size R)=l)(h2:l.isEmpty=false)
 (h:BX (fun i=>∃o,ops[i]? =some o∧aW P [1000000] ops [o] s (fun s'=>wZ P ops X B n (R.filter (· !=i)) s')) l):wZ P ops X B (n+1) R s:=fun a w hr=>by
 refine⟨fun h0=>?_,fun i hi=>?_⟩
 ·rw[h1] at h0;subst h0;cases h2
 ·rw[h1] at hi;obtain⟨o,ho,hs⟩:=h.mem i hi;have:=iY.sound (K':=fun a' w'=>wpAny P .any ops (vZ X) n ((Ag ops.size R).setIfInBounds i true) a' w') (Q:=vZ X) hs hr (fun s' a' w' hk hr'=>by rw[Q7];exact hk a' w' hr')
  unfold wpOp;rw[ho];dsimp only
  split
  ·rename_i hw;rw[if_pos hw] at this;exact .inl this
  ·rename_i hw;rw[if_neg hw] at this;exact this
def qdH{nt:Nat}{t:List (Nat×Value)}{L:List aG}(i:Nat){l':List Oper}(hc:(Region.noSelect ops&&Bg ops (Ag ops.size R) [i])=true)(hl:[ops.getD i default]=l')
 (h:aW P [] ops l' ⟨nt,t,[]⟩ (fun s'=>wZ P ops X B n (R.filter (· !=i)) ⟨nt,s'.t,L⟩)):wZ P ops X B (n+1) R ⟨nt,t,L⟩:=fun a w hr=>by
 simp only[Bool.and_eq_true] at hc;subst hl;have:=zN (P:=P) (B:=B) (w:=w) (nt:=nt) (L:=L) (n:=n) (X:=X) hc.1 (G:=fun t listed=>wZ P ops X B n (R.filter (· !=i)) ⟨nt,t,L⟩∧listed=Ag ops.size (R.filter (· !=i)))
  (fun t listed a hG hrel=>by rw[hG.2];exact hG.1 a w hrel) [i] (Ag ops.size R) t a hc.2 (aW.mono (fun s' h=>⟨h,by simp only[List.foldl];exact Q7⟩) h) hr
 rw[show[i].length+n=n+1 by simp;omega] at this;exact this
def qdI{nt:Nat}{t:List (Nat×Value)}{L:List aG}{Z:Type}{T:Z->List (Nat×Value)}{LL:Z->List aG}(h:∀z,wZ P ops X B n R ⟨nt,T z,LL z⟩)(z:Z)(lk:jX t (T z))(hw:eG L (LL z)):wZ P ops X B n R ⟨nt,t,L⟩:=
 fun a w hr=>h z a w ⟨hr.df,hr.size,fun d v hd=>hr.tmp d v (lk.mem (d,v) (uG hd)),hw _ _ hr.mem⟩
def bK{nt:Nat}{Z:Type}(T:Z->List (Nat×Value))(LL:Z->List aG)(m:Nat)(R':List Nat){s:St}(h:∀z,wZ P ops X B m R' ⟨nt,T z,LL z⟩)(k:(∀z,wZ P ops X B m R' ⟨nt,T z,LL z⟩)->wZ P ops X B n R s):wZ P ops X B n R s:=k h
end
def X5{P:Program}{B:Bs}{Q:Exit->Act->World->Prop}{s:St}{id:Nat}{l:List Oper}(n:Nat)(R:List Nat)(hm:P.follows .mixedOrders=true)(hn:(l.length==n&&R==List.range n)=true)
 (h:wZ P l.toArray (Q .normal) B n R s):At B s ((Code.region id l.toArray true).wp P Q):=fun a w hr=>by
 simp only[Bool.and_eq_true,beq_iff_eq] at hn;obtain⟨rfl,rfl⟩:=hn;refine wp_region_any hm ?_;have hsz:l.toArray.size=l.length:=by simp
 refine su (Q:=vZ (Q .normal)) (Q':=Q) (fun _ _ h=>h) (fun _ _ _ h=>h.elim) (fun⟨_,_,h⟩=>h.elim) _ _ _ _ ?_;rw[qac];have:=h a _ hr.drew;rw[hsz] at*;exact this
end Go.Via
namespace Go.Via
open Go Go.RowKit
def Bv{P:Program}{B:Bs}{Q:Exit->Act->World->Prop}{nt:Nat}{t:List (Nat×Value)}{L:List aG}{id:Nat}{l:List Oper}{Z:Type}(T:Z->List (Nat×Value))(LL:Z->List aG)(n:Nat)(R:List Nat)(hm:P.follows .mixedOrders=true)
 (hn:(l.length==n&&R==List.range n&&(Region.ready .any l.toArray (Ag l.toArray.size [])).isEmpty)=true)
 (h:(∀z,wZ P l.toArray (Q .normal) B 0 [] ⟨nt,T z,LL z⟩)->wZ P l.toArray (Q .normal) B n R ⟨nt,t,L⟩)(hk:∀z,At B ⟨nt,T z,LL z⟩ (Q .normal)):At B ⟨nt,t,L⟩ ((Code.region id l.toArray true).wp P Q):=by
 rw[Bool.and_eq_true] at hn;exact X5 n R hm hn.1 (h fun z=>qgS (List.isEmpty_iff.1 hn.2) (hk z))
end Go.Via
namespace Go.Via
variable[Mo]
open Go Go.RowKit
section
variable{P:Program}{bl:List Nat}{ops:Array Oper}{K:St->Prop}{rest:List Oper}{nt:Nat}{t:List (Nat×Value)}{L:List aG}{d:Nat}{ty:TypeId}{pos:String}{af:Array Edge}{g:Option (Nat×Bool)}{x y:Operand}
def L2{T:Nat}{i:TI}{b:aG}{a0 a1:Value}(k off:Nat)(h:aW P bl ops rest ⟨nt,(d,.agg #[a0,a1])::t,L⟩ K)(hi:eP P T i=true:=by exact vV _)(hd:Nat.blt d nt=true:=by rfl)(hg:ax ops ⟨some d,.load T x,ty,pos,af,g⟩ t=some true:=by rfl)(hk:(blank bl L)[k]? =some b:=by rfl)(hx:ev t x=some (b.at off):=by rfl)(hvs:(b.cs.drop off).take i.size=[a0,a1]:=by rfl)(hlen:Nat.beq i.size 2=true:=by rfl)(ha:i.agg=true:=by rfl):aW P bl ops (⟨some d,.load T x,ty,pos,af,g⟩::rest) ⟨nt,t,L⟩ K:=aO k off [a0,a1] hd hg hk hx hi hvs (Nat.eq_of_beq_eq_true hlen).symm (by rw[Nat.eq_of_beq_eq_true hlen];rfl) (by rw[ha];rfl) h
def L4{T:Nat}{i:TI}{b:aG}{a0 a1 a2 a3:Value}(k off:Nat)(h:aW P bl ops rest ⟨nt,(d,.agg #[a0,a1,a2,a3])::t,L⟩ K)(hi:eP P T i=true:=by exact vV _)(hd:Nat.blt d nt=true:=by rfl)(hg:ax ops ⟨some d,.load T x,ty,pos,af,g⟩ t=some true:=by rfl)(hk:(blank bl L)[k]? =some b:=by rfl)(hx:ev t x=some (b.at off):=by rfl)(hvs:(b.cs.drop off).take i.size=[a0,a1,a2,a3]:=by rfl)(hlen:Nat.beq i.size 4=true:=by rfl)(ha:i.agg=true:=by rfl):aW P bl ops (⟨some d,.load T x,ty,pos,af,g⟩::rest) ⟨nt,t,L⟩ K:=aO k off [a0,a1,a2,a3] hd hg hk hx hi hvs (Nat.eq_of_beq_eq_true hlen).symm (by rw[Nat.eq_of_beq_eq_true hlen];rfl) (by rw[ha];rfl) h
def L8{T:Nat}{i:TI}{b:aG}{a0 a1 a2 a3 a4 a5 a6 a7:Value}(k off:Nat)(h:aW P bl ops rest ⟨nt,(d,.agg #[a0,a1,a2,a3,a4,a5,a6,a7])::t,L⟩ K)(hi:eP P T i=true:=by exact vV _)(hd:Nat.blt d nt=true:=by rfl)(hg:ax ops ⟨some d,.load T x,ty,pos,af,g⟩ t=some true:=by rfl)(hk:(blank bl L)[k]? =some b:=by rfl)(hx:ev t x=some (b.at off):=by rfl)(hvs:(b.cs.drop off).take i.size=[a0,a1,a2,a3,a4,a5,a6,a7]:=by rfl)(hlen:Nat.beq i.size 8=true:=by rfl)(ha:i.agg=true:=by rfl):aW P bl ops (⟨some d,.load T x,ty,pos,af,g⟩::rest) ⟨nt,t,L⟩ K:=aO k off [a0,a1,a2,a3,a4,a5,a6,a7] hd hg hk hx hi hvs (Nat.eq_of_beq_eq_true hlen).symm (by rw[Nat.eq_of_beq_eq_true hlen];rfl) (by rw[ha];rfl) h
def L9{T:Nat}{i:TI}{b:aG}{a0 a1 a2 a3 a4 a5 a6 a7 a8:Value}(k off:Nat)(h:aW P bl ops rest ⟨nt,(d,.agg #[a0,a1,a2,a3,a4,a5,a6,a7,a8])::t,L⟩ K)(hi:eP P T i=true:=by exact vV _)(hd:Nat.blt d nt=true:=by rfl)(hg:ax ops ⟨some d,.load T x,ty,pos,af,g⟩ t=some true:=by rfl)(hk:(blank bl L)[k]? =some b:=by rfl)(hx:ev t x=some (b.at off):=by rfl)(hvs:(b.cs.drop off).take i.size=[a0,a1,a2,a3,a4,a5,a6,a7,a8]:=by rfl)(hlen:Nat.beq i.size 9=true:=by rfl)(ha:i.agg=true:=by rfl):aW P bl ops (⟨some d,.load T x,ty,pos,af,g⟩::rest) ⟨nt,t,L⟩ K:=aO k off [a0,a1,a2,a3,a4,a5,a6,a7,a8] hd hg hk hx hi hvs (Nat.eq_of_beq_eq_true hlen).symm (by rw[Nat.eq_of_beq_eq_true hlen];rfl) (by rw[ha];rfl) h
def LH{T:Nat}{i:TI}{b:aG}{a0 a1 a2 a3 a4 a5 a6 a7 a8 a9:Value}(k off:Nat)(h:aW P bl ops rest ⟨nt,(d,.agg #[a0,a1,a2,a3,a4,a5,a6,a7,a8,a9])::t,L⟩ K)(hi:eP P T i=true:=by exact vV _)(hd:Nat.blt d nt=true:=by rfl)(hg:ax ops ⟨some d,.load T x,ty,pos,af,g⟩ t=some true:=by rfl)(hk:(blank bl L)[k]? =some b:=by rfl)(hx:ev t x=some (b.at off):=by rfl)(hvs:(b.cs.drop off).take i.size=[a0,a1,a2,a3,a4,a5,a6,a7,a8,a9]:=by rfl)(hlen:Nat.beq i.size 10=true:=by rfl)(ha:i.agg=true:=by rfl):aW P bl ops (⟨some d,.load T x,ty,pos,af,g⟩::rest) ⟨nt,t,L⟩ K:=aO k off [a0,a1,a2,a3,a4,a5,a6,a7,a8,a9] hd hg hk hx hi hvs (Nat.eq_of_beq_eq_true hlen).symm (by rw[Nat.eq_of_beq_eq_true hlen];rfl) (by rw[ha];rfl) h
def ut{T:Nat}{i:TI}{b:aG}{a0 a1 a2 a3 a4 a5 a6 a7 a8 a9 a10 a11:Value}(k off:Nat)(h:aW P bl ops rest ⟨nt,(d,.agg #[a0,a1,a2,a3,a4,a5,a6,a7,a8,a9,a10,a11])::t,L⟩ K)(hi:eP P T i=true:=by exact vV _)(hd:Nat.blt d nt=true:=by rfl)(hg:ax ops ⟨some d,.load T x,ty,pos,af,g⟩ t=some true:=by rfl)(hk:(blank bl L)[k]? =some b:=by rfl)(hx:ev t x=some (b.at off):=by rfl)(hvs:(b.cs.drop off).take i.size=[a0,a1,a2,a3,a4,a5,a6,a7,a8,a9,a10,a11]:=by rfl)(hlen:Nat.beq i.size 12=true:=by rfl)(ha:i.agg=true:=by rfl):aW P bl ops (⟨some d,.load T x,ty,pos,af,g⟩::rest) ⟨nt,t,L⟩ K:=aO k off [a0,a1,a2,a3,a4,a5,a6,a7,a8,a9,a10,a11] hd hg hk hx hi hvs (Nat.eq_of_beq_eq_true hlen).symm (by rw[Nat.eq_of_beq_eq_true hlen];rfl) (by rw[ha];rfl) h
def X6{T:Nat}{i:TI}{b:aG}{a0 a1 a2 a3 a4 a5 a6 a7 a8 a9 a10 a11 a12 a13 a14 a15:Value}(k off:Nat)(h:aW P bl ops rest ⟨nt,(d,.agg #[a0,a1,a2,a3,a4,a5,a6,a7,a8,a9,a10,a11,a12,a13,a14,a15])::t,L⟩ K)(hi:eP P T i=true:=by exact vV _)(hd:Nat.blt d nt=true:=by rfl)(hg:ax ops ⟨some d,.load T x,ty,pos,af,g⟩ t=some true:=by rfl)(hk:(blank bl L)[k]? =some b:=by rfl)(hx:ev t x=some (b.at off):=by rfl)(hvs:(b.cs.drop off).take i.size=[a0,a1,a2,a3,a4,a5,a6,a7,a8,a9,a10,a11,a12,a13,a14,a15]:=by rfl)(hlen:Nat.beq i.size 16=true:=by rfl)(ha:i.agg=true:=by rfl):aW P bl ops (⟨some d,.load T x,ty,pos,af,g⟩::rest) ⟨nt,t,L⟩ K:=aO k off [a0,a1,a2,a3,a4,a5,a6,a7,a8,a9,a10,a11,a12,a13,a14,a15] hd hg hk hx hi hvs (Nat.eq_of_beq_eq_true hlen).symm (by rw[Nat.eq_of_beq_eq_true hlen];rfl) (by rw[ha];rfl) h
def yB{T:Nat}{i:TI}{b:aG}{a0 a1 a2 a3 a4 a5 a6 a7 a8 a9 a10 a11 a12 a13 a14 a15 a16 a17 a18 a19:Value}(k off:Nat)(h:aW P bl ops rest ⟨nt,(d,.agg #[a0,a1,a2,a3,a4,a5,a6,a7,a8,a9,a10,a11,a12,a13,a14,a15,a16,a17,a18,a19])::t,L⟩ K)(hi:eP P T i=true:=by exact vV _)(hd:Nat.blt d nt=true:=by rfl)(hg:ax ops ⟨some d,.load T x,ty,pos,af,g⟩ t=some true:=by rfl)(hk:(blank bl L)[k]? =some b:=by rfl)(hx:ev t x=some (b.at off):=by rfl)(hvs:(b.cs.drop off).take i.size=[a0,a1,a2,a3,a4,a5,a6,a7,a8,a9,a10,a11,a12,a13,a14,a15,a16,a17,a18,a19]:=by rfl)(hlen:Nat.beq i.size 20=true:=by rfl)(ha:i.agg=true:=by rfl):aW P bl ops (⟨some d,.load T x,ty,pos,af,g⟩::rest) ⟨nt,t,L⟩ K:=aO k off [a0,a1,a2,a3,a4,a5,a6,a7,a8,a9,a10,a11,a12,a13,a14,a15,a16,a17,a18,a19] hd hg hk hx hi hvs (Nat.eq_of_beq_eq_true hlen).symm (by rw[Nat.eq_of_beq_eq_true hlen];rfl) (by rw[ha];rfl) h
def L36{T:Nat}{i:TI}{b:aG}{a0 a1 a2 a3 a4 a5 a6 a7 a8 a9 a10 a11 a12 a13 a14 a15 a16 a17 a18 a19 a20 a21 a22 a23 a24 a25 a26 a27 a28 a29 a30 a31 a32 a33 a34 a35:Value}(k off:Nat)(h:aW P bl ops rest ⟨nt,(d,.agg #[a0,a1,a2,a3,a4,a5,a6,a7,a8,a9,a10,a11,a12,a13,a14,a15,a16,a17,a18,a19,a20,a21,a22,a23,a24,a25,a26,a27,a28,a29,a30,a31,a32,a33,a34,a35])::t,L⟩ K)(hi:eP P T i=true:=by exact vV _)(hd:Nat.blt d nt=true:=by rfl)(hg:ax ops ⟨some d,.load T x,ty,pos,af,g⟩ t=some true:=by rfl)(hk:(blank bl L)[k]? =some b:=by rfl)(hx:ev t x=some (b.at off):=by rfl)(hvs:(b.cs.drop off).take i.size=[a0,a1,a2,a3,a4,a5,a6,a7,a8,a9,a10,a11,a12,a13,a14,a15,a16,a17,a18,a19,a20,a21,a22,a23,a24,a25,a26,a27,a28,a29,a30,a31,a32,a33,a34,a35]:=by rfl)(hlen:Nat.beq i.size 36=true:=by rfl)(ha:i.agg=true:=by rfl):aW P bl ops (⟨some d,.load T x,ty,pos,af,g⟩::rest) ⟨nt,t,L⟩ K:=aO k off [a0,a1,a2,a3,a4,a5,a6,a7,a8,a9,a10,a11,a12,a13,a14,a15,a16,a17,a18,a19,a20,a21,a22,a23,a24,a25,a26,a27,a28,a29,a30,a31,a32,a33,a34,a35] hd hg hk hx hi hvs (Nat.eq_of_beq_eq_true hlen).symm (by rw[Nat.eq_of_beq_eq_true hlen];rfl) (by rw[ha];rfl) h
def X7{T:Nat}{i:TI}{b:aG}{a0 a1 a2 a3 a4 a5 a6 a7 a8 a9 a10 a11 a12 a13 a14 a15 a16 a17 a18 a19 a20 a21 a22 a23 a24 a25 a26 a27 a28 a29 a30 a31 a32 a33 a34 a35 a36 a37:Value}(k off:Nat)(h:aW P bl ops rest ⟨nt,(d,.agg #[a0,a1,a2,a3,a4,a5,a6,a7,a8,a9,a10,a11,a12,a13,a14,a15,a16,a17,a18,a19,a20,a21,a22,a23,a24,a25,a26,a27,a28,a29,a30,a31,a32,a33,a34,a35,a36,a37])::t,L⟩ K)(hi:eP P T i=true:=by exact vV _)(hd:Nat.blt d nt=true:=by rfl)(hg:ax ops ⟨some d,.load T x,ty,pos,af,g⟩ t=some true:=by rfl)(hk:(blank bl L)[k]? =some b:=by rfl)(hx:ev t x=some (b.at off):=by rfl)(hvs:(b.cs.drop off).take i.size=[a0,a1,a2,a3,a4,a5,a6,a7,a8,a9,a10,a11,a12,a13,a14,a15,a16,a17,a18,a19,a20,a21,a22,a23,a24,a25,a26,a27,a28,a29,a30,a31,a32,a33,a34,a35,a36,a37]:=by rfl)(hlen:Nat.beq i.size 38=true:=by rfl)(ha:i.agg=true:=by rfl):aW P bl ops (⟨some d,.load T x,ty,pos,af,g⟩::rest) ⟨nt,t,L⟩ K:=aO k off [a0,a1,a2,a3,a4,a5,a6,a7,a8,a9,a10,a11,a12,a13,a14,a15,a16,a17,a18,a19,a20,a21,a22,a23,a24,a25,a26,a27,a28,a29,a30,a31,a32,a33,a34,a35,a36,a37] hd hg hk hx hi hvs (Nat.eq_of_beq_eq_true hlen).symm (by rw[Nat.eq_of_beq_eq_true hlen];rfl) (by rw[ha];rfl) h
def Al{T:Nat}{l:List Value}{mk:Nat->List aG}(n:Nat)(hz:(P.info? T).bind (·.zero)=some (.agg l.toArray))(h:∀b,aW P bl ops rest ⟨nt,(d,.pointer (some ⟨b,0,none⟩))::t,mk b⟩ K)(hd:Nat.blt d nt=true:=by rfl)(hg:ax ops ⟨some d,.alloc T,ty,pos,af,g⟩ t=some true:=by rfl)(hn:l.length=n:=by rfl)(hL:∀b,L++[⟨some b,T,l,n,true⟩]=mk b:=by intro b;first|(dsimp only[List.cons_append,List.nil_append];done)|(dsimp only[List.cons_append,List.nil_append];exact rfl)|exact rfl)(hT:Nat.blt T dC=true:=by rfl):aW P bl ops (⟨some d,.alloc T,ty,pos,af,g⟩::rest) ⟨nt,t,L⟩ K:=Vw l n mk hd hg hz rfl hn hL h hT
def Bp{T:Nat}{l:List Value}{mk:Nat->List aG}(n:Nat)(h:∀b,aW P bl ops rest ⟨nt,(d,.pointer (some ⟨b,0,none⟩))::t,mk b⟩ K)(hd:Nat.blt d nt=true:=by rfl)(hg:ax ops ⟨some d,.box T x,ty,pos,af,g⟩ t=some true:=by rfl)(hx:ev t x=some (.agg l.toArray):=by rfl)(hn:l.length=n:=by rfl)(hL:∀b,L++[⟨some b,T,l,n,true⟩]=mk b:=by intro b;first|(dsimp only[List.cons_append,List.nil_append];done)|(dsimp only[List.cons_append,List.nil_append];exact rfl)|exact rfl)(hT:Nat.blt T dC=true:=by rfl):aW P bl ops (⟨some d,.box T x,ty,pos,af,g⟩::rest) ⟨nt,t,L⟩ K:=qfA l n mk hd hg hx rfl hn hL h hT
def Sc{f:Nat}{args:List Operand}{ts:Array TypeId}{vs:List Value}{L0:List aG}{X:Type}[hX:Nonempty X]{res:X->Value}{new:X->List aG}(ks:List Nat)(hd:Nat.blt d nt=true:=by rfl)(hg:ax ops ⟨some d,.call {callee:= .value (.func f),args:=args.toArray,argTypes:=ts},ty,pos,af,g⟩ t=some true:=by rfl)(hv:args.map (ev t)=vs.map some:=by rfl):∀(hc:dh P f L0 vs X res new) (h:∀x,aW P bl ops rest ⟨nt,(d,res x)::t,L++new x⟩ K) (hp:jr L (ks.map some) L0:=by repeat (first|exact trivial|refine⟨⟨_,rfl,aG.le_refl _⟩,?_⟩|refine⟨⟨_,rfl,mX⟩,?_⟩)) (ho:(L0.all fun b=> !b.own)=true:=by rfl) (hn:False∨∀x,∀b∈new x,b.own=true:=by first|exact .inr fun x b hb=>by rw[List.mem_singleton.1 hb]|exact .inr fun x b hb=>by rcases List.mem_cons.1 hb with h|h;rw[h];rw[List.mem_singleton.1 h]),aW P bl ops (⟨some d,.call {callee:= .value (.func f),args:=args.toArray,argTypes:=ts},ty,pos,af,g⟩::rest) ⟨nt,t,L⟩ K:=fun hc h hp ho hn=>iO vs ks hd hg hv hc hp ho hn h
def Sd{f:Nat}{args:List Operand}{ts:Array TypeId}{vs:List Value}{L0:List aG}{v:Value}(ks:List Nat)(hd:Nat.blt d nt=true:=by rfl)(hg:ax ops ⟨some d,.call {callee:= .value (.func f),args:=args.toArray,argTypes:=ts},ty,pos,af,g⟩ t=some true:=by rfl)(hv:args.map (ev t)=vs.map some:=by rfl):∀(hc:dh P f L0 vs Unit (fun _=>v) (fun _=>[])) (h:aW P bl ops rest ⟨nt,(d,v)::t,L⟩ K) (hp:jr L (ks.map some) L0:=by repeat (first|exact trivial|refine⟨⟨_,rfl,aG.le_refl _⟩,?_⟩|refine⟨⟨_,rfl,mX⟩,?_⟩)) (ho:(L0.all fun b=> !b.own)=true:=by rfl),aW P bl ops (⟨some d,.call {callee:= .value (.func f),args:=args.toArray,argTypes:=ts},ty,pos,af,g⟩::rest) ⟨nt,t,L⟩ K:=fun hc h hp ho=>iq vs ks hd hg hv hc hp ho h
def Dv{op:BinOp}{T U:Nat}{k:IntKind}{m n:Int}(r:Int)(hd:Nat.blt d nt=true:=by rfl)(hg:ax ops ⟨some d,.binOp op T x y U,ty,pos,af,g⟩ t=some true:=by rfl)(hx:ev t x=some (.int k m):=by rfl)(hy:ev t y=some (.int k n):=by rfl):∀(hr:(match op with| .quo=>some (k.wrap (m.tdiv n))| .rem=>some (m.tmod n)|_=>none)=some r) (h:aW P bl ops rest ⟨nt,(d,.int k r)::t,L⟩ K) (hn:n≠0:=by omega),aW P bl ops (⟨some d,.binOp op T x y U,ty,pos,af,g⟩::rest) ⟨nt,t,L⟩ K:=fun hr h hn=>qiF hd hg hx hy hn hr h
def Aq{op:BinOp}{T U:Nat}{k:IntKind}{m n:Int}(r:Int)(hd:Nat.blt d nt=true:=by rfl)(hg:ax ops ⟨some d,.binOp op T x y U,ty,pos,af,g⟩ t=some true:=by rfl)(hx:ev t x=some (.int k m):=by rfl)(hy:ev t y=some (.int k n):=by rfl):∀(hr:(match op with| .add=>some (k.wrap (m+n))| .sub=>some (k.wrap (m-n))| .mul=>some (k.wrap (m*n))|_=>none)=some r) (h:aW P bl ops rest ⟨nt,(d,.int k r)::t,L⟩ K),aW P bl ops (⟨some d,.binOp op T x y U,ty,pos,af,g⟩::rest) ⟨nt,t,L⟩ K:=fun hr h=>Vx hd hg hx hy hr h
def Sv{op:BinOp}{T U:Nat}{k k':IntKind}{m n:Int}(r:Int)(hd:Nat.blt d nt=true:=by rfl)(hg:ax ops ⟨some d,.binOp op T x y U,ty,pos,af,g⟩ t=some true:=by rfl)(hx:ev t x=some (.int k m):=by rfl)(hy:ev t y=some (.int k' n):=by rfl):∀(hr:(match op with| .shl=>some (k.wrap (m*2^(min n.toNat k.bits)))| .shr=>some (m.fdiv (2^(min n.toNat k.bits)))|_=>none)=some r) (h:aW P bl ops rest ⟨nt,(d,.int k r)::t,L⟩ K) (hn:¬n<0:=by omega),aW P bl ops (⟨some d,.binOp op T x y U,ty,pos,af,g⟩::rest) ⟨nt,t,L⟩ K:=fun hr h hn=>qcT hd hg hx hy hn hr h
def Cv{S D:Nat}{k k':IntKind}{n:Int}(r:Int)(hS:P.underlying S=some (.int k))(hD:P.underlying D=some (.int k'))(hd:Nat.blt d nt=true:=by rfl)(hg:ax ops ⟨some d,.convert S D x,ty,pos,af,g⟩ t=some true:=by rfl)(hx:ev t x=some (.int k n):=by rfl):∀(hr:k'.wrap n=r) (h:aW P bl ops rest ⟨nt,(d,.int k' r)::t,L⟩ K),aW P bl ops (⟨some d,.convert S D x,ty,pos,af,g⟩::rest) ⟨nt,t,L⟩ K:=fun hr h=>qgp hS hD hd hg hx hr h
def Lo{T:Nat}{b:aG}{v:Value}(k off:Nat)(hi:eP P T ⟨false,1,[]⟩=true:=by exact vV _)(hd:Nat.blt d nt=true:=by rfl)(hg:ax ops ⟨some d,.load T x,ty,pos,af,g⟩ t=some true:=by rfl)(hk:(blank bl L)[k]? =some b:=by rfl)(hx:ev t x=some (b.at off):=by rfl):∀(hv:b.cs[off]? =some v) (h:aW P bl ops rest ⟨nt,(d,v)::t,L⟩ K),aW P bl ops (⟨some d,.load T x,ty,pos,af,g⟩::rest) ⟨nt,t,L⟩ K:=fun hv h=>OO k off hi hd hg hk hx hv h
def Fg{T:Nat}{j:Nat}{i:TI}{gg:Nat}(off fo:Nat){fs:Nat}{off':Nat}(h:aW P bl ops rest ⟨nt,(d,.pointer (some ⟨gg,off',none⟩))::t,L⟩ K)(hd:Nat.blt d nt=true:=by rfl)(hg:ax ops ⟨some d,.fieldAddr T x j,ty,pos,af,g⟩ t=some true:=by rfl)(hx:ev t x=some (.pointer (some ⟨gg,off,none⟩)):=by rfl)(hi:eP P T i=true:=by exact vV _)(hf:i.flds[j]? =some (fo,fs+1):=by rfl)(ho:off+fo=off':=by rfl):aW P bl ops (⟨some d,.fieldAddr T x j,ty,pos,af,g⟩::rest) ⟨nt,t,L⟩ K:=yF off fo hd hg hx hi hf ho h
def Bu{T:Nat}{parts:List (Nat×Operand)}(ps:List (Nat×Value)){v:Value}(hd:Nat.blt d nt=true:=by rfl)(hg:ax ops ⟨some d,.build T parts.toArray,ty,pos,af,g⟩ t=some true:=by rfl)(hx:parts.map (fun p=>(p.1,ev t p.2))=ps.map (fun p=>(p.1,some p.2)):=by rfl):∀(hb:∀w,(Instr.build T ps.toArray).run P w= .ok v w) (h:aW P bl ops rest ⟨nt,(d,v)::t,L⟩ K),aW P bl ops (⟨some d,.build T parts.toArray,ty,pos,af,g⟩::rest) ⟨nt,t,L⟩ K:=fun hb h=>qcQ ps hd hg hx hb h
def Bl{T n:Nat}{parts:List (Nat×Operand)}(nn:Nat)(ps:List (Nat×Value)){e:Nat}{cs:List Value}{mk:Nat->List aG}(hd:Nat.blt d nt=true:=by rfl)(hg:ax ops ⟨some d,.buildSlice T n parts.toArray,ty,pos,af,g⟩ t=some true:=by rfl)(hx:parts.map (fun p=>(p.1,ev t p.2))=ps.map (fun p=>(p.1,some p.2)):=by rfl):∀(hb:∀w,(Instr.buildSlice T n ps.toArray).run P w= .ok (.slice (some ⟨w.heap.size,0,none⟩) n n) (w.alloc (.cells cs.toArray e))) (h:∀b,aW P bl ops rest ⟨nt,(d,az (some b) 0 n n)::t,mk b⟩ K) (hnn:cs.length=nn:=by rfl) (hL:∀b,L++[⟨some b,e,cs,nn,true⟩]=mk b:=by intro b;first|(dsimp only[List.cons_append,List.nil_append];done)|(dsimp only[List.cons_append,List.nil_append];exact rfl)|exact rfl) (hem:Nat.blt e dC=true:=by rfl),aW P bl ops (⟨some d,.buildSlice T n parts.toArray,ty,pos,af,g⟩::rest) ⟨nt,t,L⟩ K:=fun hb h hnn hL hem=>OQ ps mk hd hg hx hb hnn hL h hem
def S1{T:Nat}{b:aG}{v:Value}(k off:Nat)(L':List aG)(cs':List Value)(hbl:FM bl=false:=by rfl)(hi:eP P T ⟨false,1,[]⟩=true:=by exact vV _)(hg:ax ops ⟨none,.store T x y,ty,pos,af,g⟩ t=some true:=by rfl)(hk:L[k]? =some b:=by rfl)(ho:b.own=true:=by rfl)(hbb:b.base.isSome=true:=by rfl)(hx:ev t x=some (b.at off):=by rfl)(hy:ev t y=some v:=by rfl)(hv:v.cells= #[v]:=by rfl)(h1:v.oneCell'=true:=by rfl):∀(hfit:off<b.cs.length) (hcs:b.cs.set off v=cs') (h:aW P bl ops rest ⟨nt,t,L'⟩ K) (hL:L.set k {b with cs:=cs'}=L':=by rfl),aW P bl ops (⟨none,.store T x y,ty,pos,af,g⟩::rest) ⟨nt,t,L⟩ K:=fun hfit hcs h hL=>Zz hbl k off L' cs' hi hg hk ho hbb hx hy hv h1 hfit hcs hL h
def Qa{T e s:Nat}{z:Value}{b:aG}{len cap b2o n2 c2:Nat}{b2:aG}(k k2:Nat)(mk:AR (len+n2) s->List aG)(hT:P.underlying T=some (.slice e))(hi:LM P e s z)(hd:Nat.blt d nt=true:=by rfl)(hg:ax ops ⟨some d,.call {callee:= .builtin .append,args:= #[x,y],argTypes:= #[T,T]},ty,pos,af,g⟩ t=some true:=by rfl)(hk:L[k]? =some b:=by rfl)(ho:b.own=true:=by rfl)(he:b.e=e:=by rfl)(hx:ev t x=some (az b.base 0 len cap):=by rfl)(hk2:L[k2]? =some b2:=by rfl)(hb2:b2.base=some b2o:=by rfl)(hy:ev t y=some (az (some b2o) 0 n2 c2):=by rfl)(hs:Nat.blt 0 s=true:=by rfl)(hzs:z.cells.size=s:=by rfl)(hpos:Nat.blt 0 n2=true:=by rfl):∀(hlen:b.cs.length=len*s) (hcap:len<=cap) (hn:cap*s<=b.n) (h1:∀v∈b2.cs,v.oneCell'=true) (h:∀r:AR (len+n2) s,aW P bl ops rest ⟨nt,(d,az (some r.g) 0 (len+n2) r.cap)::t,mk r⟩ K) (hlen2:b2.cs.length=n2*s:=by rfl) (hmax:len+n2<=17179869184:=by omega) (hL:∀r,L.set k ⟨some r.g,e,b.cs++b2.cs,r.n,true⟩=mk r:=by exact fun _=>rfl),aW P bl ops (⟨some d,.call {callee:= .builtin .append,args:= #[x,y],argTypes:= #[T,T]},ty,pos,af,g⟩::rest) ⟨nt,t,L⟩ K:=fun hlen hcap hn h1 h hlen2 hmax hL=>fH k k2 mk hT hi hd hg hk ho he hx hk2 hb2 hy hs hzs hpos hlen hcap hn hlen2 h1 hmax hL h
def Qo{T e s:Nat}{zz:Value}{b:aG}{len cap off2 n2 c2:Nat}{b2:aG}(k k2:Nat)(news:List Value)(mk:OR (len+n2) s->List aG)(hT:P.underlying T=some (.slice e))(hi:LM P e s zz)(hd:Nat.blt d nt=true:=by rfl)(hg:ax ops ⟨some d,.call {callee:= .builtin .append,args:= #[x,y],argTypes:= #[T,T]},ty,pos,af,g⟩ t=some true:=by rfl)(hk:L[k]? =some b:=by rfl)(ho:b.own=true:=by rfl)(he:b.e=e:=by rfl)(hx:ev t x=some (az b.base 0 len cap):=by rfl)(hk2:L[k2]? =some b2:=by rfl)(hy:ev t y=some (az b2.base off2 n2 c2):=by rfl)(hs:Nat.blt 0 s=true:=by rfl)(hzs:zz.cells.size=s:=by rfl):∀(hlen:b.cs.length=len*s) (hcap:len<=cap) (hn:cap*s<=b.n) (hb2:n2=0∨∃g,b2.base=some g) (hnew:(b2.cs.drop off2).take (n2*s)=news) (hlen2:news.length=n2*s) (h1:∀v∈news,v.oneCell'=true) (h:∀r:OR (len+n2) s,aW P bl ops rest ⟨nt,(d,az r.b 0 (len+n2) r.cap)::t,mk r⟩ K) (hmax:len+n2<=17179869184:=by omega) (hL:∀r,L.set k ⟨r.b,e,b.cs++news,r.n,true⟩=mk r:=by exact fun _=>rfl),aW P bl ops (⟨some d,.call {callee:= .builtin .append,args:= #[x,y],argTypes:= #[T,T]},ty,pos,af,g⟩::rest) ⟨nt,t,L⟩ K:=fun hlen hcap hn hb2 hnew hlen2 h1 h hmax hL=>fK k k2 news mk hT hi hd hg hk ho he hx hk2 hy hs hzs hlen hcap hn hb2 hnew hlen2 h1 hmax hL h
def Iz{T e N:Nat}{k:IntKind}{i:Int}{gg:Nat}{off:Nat}{inf:TI}(off':Nat)(hT:P.underlying T=some (.array N e))(hinf:eP P e inf=true)(h:aW P bl ops rest ⟨nt,(d,.pointer (some ⟨gg,off',none⟩))::t,L⟩ K)(hd:Nat.blt d nt=true:=by rfl)(hg:ax ops ⟨some d,.indexAddr T x y,ty,pos,af,g⟩ t=some true:=by rfl)(hx:ev t x=some (.pointer (some ⟨gg,off,none⟩)):=by rfl)(hy:ev t y=some (.int k i):=by rfl)(h0:0<=i:=by omega)(h1:i<N:=by omega)(ho:off+i.toNat*inf.size=off':=by first|rfl|(show _+Int.toNat _*1=_;first|rfl|omega)):aW P bl ops (⟨some d,.indexAddr T x y,ty,pos,af,g⟩::rest) ⟨nt,t,L⟩ K:=tY off' hT hinf hd hg hx hy h0 h1 ho h
def qgT{v:Value}{l cs:List Value}{n:Nat}(hv:v= .agg l.toArray)(h1:Nat.beq l.length n=true)(h2:Nat.beq l.length cs.length=true):cs.take 0++v.cells.toList++cs.drop (0+n)=l:=by have h3:=Nat.eq_of_beq_eq_true h1;have h4:=Nat.eq_of_beq_eq_true h2;subst hv;show[]++l++cs.drop (0+n)=l;rw[<-h3,h4];simp
def qgU{v:Value}{l cs cs':List Value}{off n:Nat}(hv:v= .agg l.toArray)(h:cs.take off++l++cs.drop (off+n)=cs'):cs.take off++v.cells.toList++cs.drop (off+n)=cs':=by subst hv;exact h
def Ss{T:Nat}{i:TI}{gg e n:Nat}{cs cs':List Value}{v:Value}{L':List aG}{off:Nat}(k:Nat)(h:aW P bl ops rest ⟨nt,t,L'⟩ K)(hbl:FM bl=false:=by rfl)(hg:ax ops ⟨none,.store T x y,ty,pos,af,g⟩ t=some true:=by rfl)(hk:L[k]? =some ⟨some gg,e,cs,n,true⟩:=by rfl)(hx:ev t x=some (.pointer (some ⟨gg,off,none⟩)):=by rfl)(hy:ev t y=some v:=by rfl)(hi:eP P T i=true:=by exact vV _)(hsz:v.cells.size=i.size:=by rfl)(hfit:Nat.ble (off+i.size) cs.length=true:=by rfl)(h1:(v.cells.toList.all fun u=>u.oneCell')=true:=by rfl)(hcs:cs.take off++v.cells.toList++cs.drop (off+i.size)=cs':=by first|exact qgT rfl rfl rfl|exact qgU rfl (by first|(dsimp only[List.take_succ_cons,List.take_zero,List.drop_succ_cons,List.drop_zero,List.cons_append,List.nil_append,List.append_nil,Value.cells];done)|(dsimp only[List.take_succ_cons,List.take_zero,List.drop_succ_cons,List.drop_zero,List.cons_append,List.nil_append,List.append_nil,Value.cells];exact rfl))|(dsimp only[List.take_succ_cons,List.take_zero,List.drop_succ_cons,List.drop_zero,List.cons_append,List.nil_append,List.append_nil,Value.cells];done)|(dsimp only[List.take_succ_cons,List.take_zero,List.drop_succ_cons,List.drop_zero,List.cons_append,List.nil_append,List.append_nil,Value.cells];exact rfl)|exact rfl)(hL:L.set k ⟨some gg,e,cs',n,true⟩=L':=by first|(dsimp only[List.set_cons_zero,List.set_cons_succ];done)|(dsimp only[List.set_cons_zero,List.set_cons_succ];exact rfl)|exact rfl)(hpos:Nat.blt 0 i.size=true:=by rfl):aW P bl ops (⟨none,.store T x y,ty,pos,af,g⟩::rest) ⟨nt,t,L⟩ K:=pO hbl k off L' cs' hg hk hx hy hi hsz hfit h1 hcs hL h hpos
end
section
variable{P:Program}{f:Nat}{fn:Func}{c:Code}{v:Value}{L:List aG}{X:Type}{res:X->Value}{new:X->List aG}
def pB0(nt:Nat)(hf:P.funcs[f]? =some fn)(h:∀w:World,At (Bs.of w) ⟨nt,[],[]⟩ (c.wp P (bodyPost P fn fun e w'=>e= .returned v∧fP w.heap.size w w')))(hp:ja P f=true:=by kernel_rfl)(hb:fn.body=some c:=by rfl)(hnt:fn.ntmps=nt:=by rfl)(hn:Nat.ble 0 fn.ntmps=true:=by rfl):aP P f #[] v:=⟨hp,fun w=>cB0 nt hf (bf.nil w) (h w) hb hnt hn⟩
def sB0(nt:Nat)(hf:P.funcs[f]? =some fn)(h:∀w:World,bf (Bs.of w) L w->At (Bs.of w) ⟨nt,[],L⟩ (c.wp P (bodyPost P fn fun e w'=>∃x,e= .returned (res x)∧bf (Bs.of w) (new x) w')))(hp:ja P f=true:=by kernel_rfl)(hb:fn.body=some c:=by rfl)(hnt:fn.ntmps=nt:=by rfl)(hn:Nat.ble 0 fn.ntmps=true:=by rfl):dh P f L [] X res new:=⟨hp,fun w hL0=>cB0 nt hf hL0 (h w hL0) hb hnt hn⟩
def xJ{v0:Value}(nt:Nat)(hf:P.funcs[f]? =some fn)(h:∀w:World,At (Bs.of w) ⟨nt,[(0,v0)],[]⟩ (c.wp P (bodyPost P fn fun e w'=>e= .returned v∧fP w.heap.size w w')))(hp:ja P f=true:=by kernel_rfl)(hb:fn.body=some c:=by rfl)(hnt:fn.ntmps=nt:=by rfl)(hn:Nat.ble 1 fn.ntmps=true:=by rfl):aP P f #[v0] v:=⟨hp,fun w=>cB1 nt hf (bf.nil w) (h w) hb hnt hn⟩
def Md{v0:Value}(nt:Nat)(hf:P.funcs[f]? =some fn)(h:∀w:World,bf (Bs.of w) L w->At (Bs.of w) ⟨nt,[(0,v0)],L⟩ (c.wp P (bodyPost P fn fun e w'=>∃x,e= .returned (res x)∧bf (Bs.of w) (new x) w')))(hp:ja P f=true:=by kernel_rfl)(hb:fn.body=some c:=by rfl)(hnt:fn.ntmps=nt:=by rfl)(hn:Nat.ble 1 fn.ntmps=true:=by rfl):dh P f L [v0] X res new:=⟨hp,fun w hL0=>cB1 nt hf hL0 (h w hL0) hb hnt hn⟩
def oG{v0 v1:Value}(nt:Nat)(hf:P.funcs[f]? =some fn)(h:∀w:World,At (Bs.of w) ⟨nt,[(0,v0),(1,v1)],[]⟩ (c.wp P (bodyPost P fn fun e w'=>e= .returned v∧fP w.heap.size w w')))(hp:ja P f=true:=by kernel_rfl)(hb:fn.body=some c:=by rfl)(hnt:fn.ntmps=nt:=by rfl)(hn:Nat.ble 2 fn.ntmps=true:=by rfl):aP P f #[v0,v1] v:=⟨hp,fun w=>YZ nt hf (bf.nil w) (h w) hb hnt hn⟩
def VZ{v0 v1:Value}(nt:Nat)(hf:P.funcs[f]? =some fn)(h:∀w:World,bf (Bs.of w) L w->At (Bs.of w) ⟨nt,[(0,v0),(1,v1)],L⟩ (c.wp P (bodyPost P fn fun e w'=>∃x,e= .returned (res x)∧bf (Bs.of w) (new x) w')))(hp:ja P f=true:=by kernel_rfl)(hb:fn.body=some c:=by rfl)(hnt:fn.ntmps=nt:=by rfl)(hn:Nat.ble 2 fn.ntmps=true:=by rfl):dh P f L [v0,v1] X res new:=⟨hp,fun w hL0=>YZ nt hf hL0 (h w hL0) hb hnt hn⟩
def pB3{v0 v1 v2:Value}(nt:Nat)(hf:P.funcs[f]? =some fn)(h:∀w:World,At (Bs.of w) ⟨nt,[(0,v0),(1,v1),(2,v2)],[]⟩ (c.wp P (bodyPost P fn fun e w'=>e= .returned v∧fP w.heap.size w w')))(hp:ja P f=true:=by kernel_rfl)(hb:fn.body=some c:=by rfl)(hnt:fn.ntmps=nt:=by rfl)(hn:Nat.ble 3 fn.ntmps=true:=by rfl):aP P f #[v0,v1,v2] v:=⟨hp,fun w=>ZI nt hf (bf.nil w) (h w) hb hnt hn⟩
def sB3{v0 v1 v2:Value}(nt:Nat)(hf:P.funcs[f]? =some fn)(h:∀w:World,bf (Bs.of w) L w->At (Bs.of w) ⟨nt,[(0,v0),(1,v1),(2,v2)],L⟩ (c.wp P (bodyPost P fn fun e w'=>∃x,e= .returned (res x)∧bf (Bs.of w) (new x) w')))(hp:ja P f=true:=by kernel_rfl)(hb:fn.body=some c:=by rfl)(hnt:fn.ntmps=nt:=by rfl)(hn:Nat.ble 3 fn.ntmps=true:=by rfl):dh P f L [v0,v1,v2] X res new:=⟨hp,fun w hL0=>ZI nt hf hL0 (h w hL0) hb hnt hn⟩
def pB4{v0 v1 v2 v3:Value}(nt:Nat)(hf:P.funcs[f]? =some fn)(h:∀w:World,At (Bs.of w) ⟨nt,[(0,v0),(1,v1),(2,v2),(3,v3)],[]⟩ (c.wp P (bodyPost P fn fun e w'=>e= .returned v∧fP w.heap.size w w')))(hp:ja P f=true:=by kernel_rfl)(hb:fn.body=some c:=by rfl)(hnt:fn.ntmps=nt:=by rfl)(hn:Nat.ble 4 fn.ntmps=true:=by rfl):aP P f #[v0,v1,v2,v3] v:=⟨hp,fun w=>cB4 nt hf (bf.nil w) (h w) hb hnt hn⟩
def pB5{v0 v1 v2 v3 v4:Value}(nt:Nat)(hf:P.funcs[f]? =some fn)(h:∀w:World,At (Bs.of w) ⟨nt,[(0,v0),(1,v1),(2,v2),(3,v3),(4,v4)],[]⟩ (c.wp P (bodyPost P fn fun e w'=>e= .returned v∧fP w.heap.size w w')))(hp:ja P f=true:=by kernel_rfl)(hb:fn.body=some c:=by rfl)(hnt:fn.ntmps=nt:=by rfl)(hn:Nat.ble 5 fn.ntmps=true:=by rfl):aP P f #[v0,v1,v2,v3,v4] v:=⟨hp,fun w=>cB5 nt hf (bf.nil w) (h w) hb hnt hn⟩
end
def pR{L:List aG}{k:Nat}{b:aG}(h:L[k]? =some b:=by rfl):∃b',L[k]? =some b'∧b.le b':=⟨_,h,aG.le_refl _⟩
def pS{L:List aG}{k:Nat}{base:Option Nat}{e:TypeId}{cs:List Value}{n:Nat}{o:Bool}(h:L[k]? =some ⟨base,e,cs,n,o⟩:=by rfl):∃b',L[k]? =some b'∧aG.le ⟨base,e,cs,n,false⟩ b':=⟨_,h,mX⟩
section
variable{P:Program}{B:Bs}{fn:Func}{R:Ending->World->Prop}{s:St}
def E0{w0:World}{d:Nat}{v v':Value}(h:Ending.returned v= .returned v')(hfn:fn.results= #[.tmp d]:=by rfl)(hl:look s.t d=some v:=by rfl):At (Bs.of w0) s (bodyPost P fn (fun e w'=>e= .returned v'∧fP w0.heap.size w0 w') .ret):=E1 (fun w hL=>⟨h,hL.below⟩) hfn hl
def Ec2{p T:Nat}{b:aG}{i:TI}{a0 a1:Value}(k:Nat)(hR:∀w,bf B s.L w->R (.returned (.agg #[a0,a1])) w)(hfn:fn.results= #[.cell p T]:=by rfl)(hk:s.L[k]? =some b:=by rfl)(hx:look s.t p=some (b.at 0):=by rfl)(hi:eP P T i=true:=by exact vV _)(hvs:b.cs.take i.size=[a0,a1]:=by rfl)(hn:Nat.beq i.size 2=true:=by rfl)(ha:i.agg=true:=by rfl)(hD:B.D=[]:=by first|rfl|assumption):At B s (bodyPost P fn R .ret):=aH hfn (bu k hk hx hi hvs (Nat.eq_of_beq_eq_true hn).symm (by rw[Nat.eq_of_beq_eq_true hn];decide) (by rw[ha];rfl)) hR hD
def Qs{p T:Nat}{b:aG}{i:TI}{a0 a1 v':Value}{w0:World}(k:Nat)(h:Ending.returned (.agg #[a0,a1])= .returned v')(hfn:fn.results= #[.cell p T]:=by rfl)(hk:s.L[k]? =some b:=by rfl)(hx:look s.t p=some (b.at 0):=by rfl)(hi:eP P T i=true:=by exact vV _)(hvs:b.cs.take i.size=[a0,a1]:=by rfl)(hn:Nat.beq i.size 2=true:=by rfl)(ha:i.agg=true:=by rfl):At (Bs.of w0) s (bodyPost P fn (fun e w'=>e= .returned v'∧fP w0.heap.size w0 w') .ret):=Ec2 k (fun w hL=>⟨h,hL.below⟩) hfn hk hx hi hvs hn ha
def Ec4{p T:Nat}{b:aG}{i:TI}{a0 a1 a2 a3:Value}(k:Nat)(hR:∀w,bf B s.L w->R (.returned (.agg #[a0,a1,a2,a3])) w)(hfn:fn.results= #[.cell p T]:=by rfl)(hk:s.L[k]? =some b:=by rfl)(hx:look s.t p=some (b.at 0):=by rfl)(hi:eP P T i=true:=by exact vV _)(hvs:b.cs.take i.size=[a0,a1,a2,a3]:=by rfl)(hn:Nat.beq i.size 4=true:=by rfl)(ha:i.agg=true:=by rfl)(hD:B.D=[]:=by first|rfl|assumption):At B s (bodyPost P fn R .ret):=aH hfn (bu k hk hx hi hvs (Nat.eq_of_beq_eq_true hn).symm (by rw[Nat.eq_of_beq_eq_true hn];decide) (by rw[ha];rfl)) hR hD
def G7{p T:Nat}{b:aG}{i:TI}{a0 a1 a2 a3 v':Value}{w0:World}(k:Nat)(h:Ending.returned (.agg #[a0,a1,a2,a3])= .returned v')(hfn:fn.results= #[.cell p T]:=by rfl)(hk:s.L[k]? =some b:=by rfl)(hx:look s.t p=some (b.at 0):=by rfl)(hi:eP P T i=true:=by exact vV _)(hvs:b.cs.take i.size=[a0,a1,a2,a3]:=by rfl)(hn:Nat.beq i.size 4=true:=by rfl)(ha:i.agg=true:=by rfl):At (Bs.of w0) s (bodyPost P fn (fun e w'=>e= .returned v'∧fP w0.heap.size w0 w') .ret):=Ec4 k (fun w hL=>⟨h,hL.below⟩) hfn hk hx hi hvs hn ha
def Ec9{p T:Nat}{b:aG}{i:TI}{a0 a1 a2 a3 a4 a5 a6 a7 a8:Value}(k:Nat)(hR:∀w,bf B s.L w->R (.returned (.agg #[a0,a1,a2,a3,a4,a5,a6,a7,a8])) w)(hfn:fn.results= #[.cell p T]:=by rfl)(hk:s.L[k]? =some b:=by rfl)(hx:look s.t p=some (b.at 0):=by rfl)(hi:eP P T i=true:=by exact vV _)(hvs:b.cs.take i.size=[a0,a1,a2,a3,a4,a5,a6,a7,a8]:=by rfl)(hn:Nat.beq i.size 9=true:=by rfl)(ha:i.agg=true:=by rfl)(hD:B.D=[]:=by first|rfl|assumption):At B s (bodyPost P fn R .ret):=aH hfn (bu k hk hx hi hvs (Nat.eq_of_beq_eq_true hn).symm (by rw[Nat.eq_of_beq_eq_true hn];decide) (by rw[ha];rfl)) hR hD
def Ed9{p T:Nat}{b:aG}{i:TI}{a0 a1 a2 a3 a4 a5 a6 a7 a8 v':Value}{w0:World}(k:Nat)(h:Ending.returned (.agg #[a0,a1,a2,a3,a4,a5,a6,a7,a8])= .returned v')(hfn:fn.results= #[.cell p T]:=by rfl)(hk:s.L[k]? =some b:=by rfl)(hx:look s.t p=some (b.at 0):=by rfl)(hi:eP P T i=true:=by exact vV _)(hvs:b.cs.take i.size=[a0,a1,a2,a3,a4,a5,a6,a7,a8]:=by rfl)(hn:Nat.beq i.size 9=true:=by rfl)(ha:i.agg=true:=by rfl):At (Bs.of w0) s (bodyPost P fn (fun e w'=>e= .returned v'∧fP w0.heap.size w0 w') .ret):=Ec9 k (fun w hL=>⟨h,hL.below⟩) hfn hk hx hi hvs hn ha
def qiZ{p T:Nat}{b:aG}{i:TI}{a0 a1 a2 a3 a4 a5 a6 a7 a8 a9:Value}(k:Nat)(hR:∀w,bf B s.L w->R (.returned (.agg #[a0,a1,a2,a3,a4,a5,a6,a7,a8,a9])) w)(hfn:fn.results= #[.cell p T]:=by rfl)(hk:s.L[k]? =some b:=by rfl)(hx:look s.t p=some (b.at 0):=by rfl)(hi:eP P T i=true:=by exact vV _)(hvs:b.cs.take i.size=[a0,a1,a2,a3,a4,a5,a6,a7,a8,a9]:=by rfl)(hn:Nat.beq i.size 10=true:=by rfl)(ha:i.agg=true:=by rfl)(hD:B.D=[]:=by first|rfl|assumption):At B s (bodyPost P fn R .ret):=aH hfn (bu k hk hx hi hvs (Nat.eq_of_beq_eq_true hn).symm (by rw[Nat.eq_of_beq_eq_true hn];decide) (by rw[ha];rfl)) hR hD
def qi0{p T:Nat}{b:aG}{i:TI}{a0 a1 a2 a3 a4 a5 a6 a7 a8 a9 v':Value}{w0:World}(k:Nat)(h:Ending.returned (.agg #[a0,a1,a2,a3,a4,a5,a6,a7,a8,a9])= .returned v')(hfn:fn.results= #[.cell p T]:=by rfl)(hk:s.L[k]? =some b:=by rfl)(hx:look s.t p=some (b.at 0):=by rfl)(hi:eP P T i=true:=by exact vV _)(hvs:b.cs.take i.size=[a0,a1,a2,a3,a4,a5,a6,a7,a8,a9]:=by rfl)(hn:Nat.beq i.size 10=true:=by rfl)(ha:i.agg=true:=by rfl):At (Bs.of w0) s (bodyPost P fn (fun e w'=>e= .returned v'∧fP w0.heap.size w0 w') .ret):=qiZ k (fun w hL=>⟨h,hL.below⟩) hfn hk hx hi hvs hn ha
def qkQ{p T:Nat}{b:aG}{i:TI}{a0 a1 a2 a3 a4 a5 a6 a7 a8 a9 a10 a11:Value}(k:Nat)(hR:∀w,bf B s.L w->R (.returned (.agg #[a0,a1,a2,a3,a4,a5,a6,a7,a8,a9,a10,a11])) w)(hfn:fn.results= #[.cell p T]:=by rfl)(hk:s.L[k]? =some b:=by rfl)(hx:look s.t p=some (b.at 0):=by rfl)(hi:eP P T i=true:=by exact vV _)(hvs:b.cs.take i.size=[a0,a1,a2,a3,a4,a5,a6,a7,a8,a9,a10,a11]:=by rfl)(hn:Nat.beq i.size 12=true:=by rfl)(ha:i.agg=true:=by rfl)(hD:B.D=[]:=by first|rfl|assumption):At B s (bodyPost P fn R .ret):=aH hfn (bu k hk hx hi hvs (Nat.eq_of_beq_eq_true hn).symm (by rw[Nat.eq_of_beq_eq_true hn];decide) (by rw[ha];rfl)) hR hD
def JR{p T:Nat}{b:aG}{i:TI}{a0 a1 a2 a3 a4 a5 a6 a7 a8 a9 a10 a11 v':Value}{w0:World}(k:Nat)(h:Ending.returned (.agg #[a0,a1,a2,a3,a4,a5,a6,a7,a8,a9,a10,a11])= .returned v')(hfn:fn.results= #[.cell p T]:=by rfl)(hk:s.L[k]? =some b:=by rfl)(hx:look s.t p=some (b.at 0):=by rfl)(hi:eP P T i=true:=by exact vV _)(hvs:b.cs.take i.size=[a0,a1,a2,a3,a4,a5,a6,a7,a8,a9,a10,a11]:=by rfl)(hn:Nat.beq i.size 12=true:=by rfl)(ha:i.agg=true:=by rfl):At (Bs.of w0) s (bodyPost P fn (fun e w'=>e= .returned v'∧fP w0.heap.size w0 w') .ret):=qkQ k (fun w hL=>⟨h,hL.below⟩) hfn hk hx hi hvs hn ha
def qkR{p T:Nat}{b:aG}{i:TI}{a0 a1 a2 a3 a4 a5 a6 a7 a8 a9 a10 a11 a12 a13 a14 a15:Value}(k:Nat)(hR:∀w,bf B s.L w->R (.returned (.agg #[a0,a1,a2,a3,a4,a5,a6,a7,a8,a9,a10,a11,a12,a13,a14,a15])) w)(hfn:fn.results= #[.cell p T]:=by rfl)(hk:s.L[k]? =some b:=by rfl)(hx:look s.t p=some (b.at 0):=by rfl)(hi:eP P T i=true:=by exact vV _)(hvs:b.cs.take i.size=[a0,a1,a2,a3,a4,a5,a6,a7,a8,a9,a10,a11,a12,a13,a14,a15]:=by rfl)(hn:Nat.beq i.size 16=true:=by rfl)(ha:i.agg=true:=by rfl)(hD:B.D=[]:=by first|rfl|assumption):At B s (bodyPost P fn R .ret):=aH hfn (bu k hk hx hi hvs (Nat.eq_of_beq_eq_true hn).symm (by rw[Nat.eq_of_beq_eq_true hn];decide) (by rw[ha];rfl)) hR hD
def qgV{p T:Nat}{b:aG}{i:TI}{a0 a1 a2 a3 a4 a5 a6 a7 a8 a9 a10 a11 a12 a13 a14 a15 v':Value}{w0:World}(k:Nat)(h:Ending.returned (.agg #[a0,a1,a2,a3,a4,a5,a6,a7,a8,a9,a10,a11,a12,a13,a14,a15])= .returned v')(hfn:fn.results= #[.cell p T]:=by rfl)(hk:s.L[k]? =some b:=by rfl)(hx:look s.t p=some (b.at 0):=by rfl)(hi:eP P T i=true:=by exact vV _)(hvs:b.cs.take i.size=[a0,a1,a2,a3,a4,a5,a6,a7,a8,a9,a10,a11,a12,a13,a14,a15]:=by rfl)(hn:Nat.beq i.size 16=true:=by rfl)(ha:i.agg=true:=by rfl):At (Bs.of w0) s (bodyPost P fn (fun e w'=>e= .returned v'∧fP w0.heap.size w0 w') .ret):=qkR k (fun w hL=>⟨h,hL.below⟩) hfn hk hx hi hvs hn ha
def qkS{p T:Nat}{b:aG}{i:TI}{a0 a1 a2 a3 a4 a5 a6 a7 a8 a9 a10 a11 a12 a13 a14 a15 a16 a17 a18 a19:Value}(k:Nat)(hR:∀w,bf B s.L w->R (.returned (.agg #[a0,a1,a2,a3,a4,a5,a6,a7,a8,a9,a10,a11,a12,a13,a14,a15,a16,a17,a18,a19])) w)(hfn:fn.results= #[.cell p T]:=by rfl)(hk:s.L[k]? =some b:=by rfl)(hx:look s.t p=some (b.at 0):=by rfl)(hi:eP P T i=true:=by exact vV _)(hvs:b.cs.take i.size=[a0,a1,a2,a3,a4,a5,a6,a7,a8,a9,a10,a11,a12,a13,a14,a15,a16,a17,a18,a19]:=by rfl)(hn:Nat.beq i.size 20=true:=by rfl)(ha:i.agg=true:=by rfl)(hD:B.D=[]:=by first|rfl|assumption):At B s (bodyPost P fn R .ret):=aH hfn (bu k hk hx hi hvs (Nat.eq_of_beq_eq_true hn).symm (by rw[Nat.eq_of_beq_eq_true hn];decide) (by rw[ha];rfl)) hR hD
def qkT{p T:Nat}{b:aG}{i:TI}{a0 a1 a2 a3 a4 a5 a6 a7 a8 a9 a10 a11 a12 a13 a14 a15 a16 a17 a18 a19 v':Value}{w0:World}(k:Nat)(h:Ending.returned (.agg #[a0,a1,a2,a3,a4,a5,a6,a7,a8,a9,a10,a11,a12,a13,a14,a15,a16,a17,a18,a19])= .returned v')(hfn:fn.results= #[.cell p T]:=by rfl)(hk:s.L[k]? =some b:=by rfl)(hx:look s.t p=some (b.at 0):=by rfl)(hi:eP P T i=true:=by exact vV _)(hvs:b.cs.take i.size=[a0,a1,a2,a3,a4,a5,a6,a7,a8,a9,a10,a11,a12,a13,a14,a15,a16,a17,a18,a19]:=by rfl)(hn:Nat.beq i.size 20=true:=by rfl)(ha:i.agg=true:=by rfl):At (Bs.of w0) s (bodyPost P fn (fun e w'=>e= .returned v'∧fP w0.heap.size w0 w') .ret):=qkS k (fun w hL=>⟨h,hL.below⟩) hfn hk hx hi hvs hn ha
def qkU{p T:Nat}{b:aG}{i:TI}{a0 a1 a2 a3 a4 a5 a6 a7 a8 a9 a10 a11 a12 a13 a14 a15 a16 a17 a18 a19 a20 a21 a22 a23 a24 a25 a26 a27 a28 a29 a30 a31 a32 a33 a34 a35 a36 a37:Value}(k:Nat)(hR:∀w,bf B s.L w->R (.returned (.agg #[a0,a1,a2,a3,a4,a5,a6,a7,a8,a9,a10,a11,a12,a13,a14,a15,a16,a17,a18,a19,a20,a21,a22,a23,a24,a25,a26,a27,a28,a29,a30,a31,a32,a33,a34,a35,a36,a37])) w)(hfn:fn.results= #[.cell p T]:=by rfl)(hk:s.L[k]? =some b:=by rfl)(hx:look s.t p=some (b.at 0):=by rfl)(hi:eP P T i=true:=by exact vV _)(hvs:b.cs.take i.size=[a0,a1,a2,a3,a4,a5,a6,a7,a8,a9,a10,a11,a12,a13,a14,a15,a16,a17,a18,a19,a20,a21,a22,a23,a24,a25,a26,a27,a28,a29,a30,a31,a32,a33,a34,a35,a36,a37]:=by rfl)(hn:Nat.beq i.size 38=true:=by rfl)(ha:i.agg=true:=by rfl)(hD:B.D=[]:=by first|rfl|assumption):At B s (bodyPost P fn R .ret):=aH hfn (bu k hk hx hi hvs (Nat.eq_of_beq_eq_true hn).symm (by rw[Nat.eq_of_beq_eq_true hn];decide) (by rw[ha];rfl)) hR hD
def qkV{p T:Nat}{b:aG}{i:TI}{a0 a1 a2 a3 a4 a5 a6 a7 a8 a9 a10 a11 a12 a13 a14 a15 a16 a17 a18 a19 a20 a21 a22 a23 a24 a25 a26 a27 a28 a29 a30 a31 a32 a33 a34 a35 a36 a37 v':Value}{w0:World}(k:Nat)(h:Ending.returned (.agg #[a0,a1,a2,a3,a4,a5,a6,a7,a8,a9,a10,a11,a12,a13,a14,a15,a16,a17,a18,a19,a20,a21,a22,a23,a24,a25,a26,a27,a28,a29,a30,a31,a32,a33,a34,a35,a36,a37])= .returned v')(hfn:fn.results= #[.cell p T]:=by rfl)(hk:s.L[k]? =some b:=by rfl)(hx:look s.t p=some (b.at 0):=by rfl)(hi:eP P T i=true:=by exact vV _)(hvs:b.cs.take i.size=[a0,a1,a2,a3,a4,a5,a6,a7,a8,a9,a10,a11,a12,a13,a14,a15,a16,a17,a18,a19,a20,a21,a22,a23,a24,a25,a26,a27,a28,a29,a30,a31,a32,a33,a34,a35,a36,a37]:=by rfl)(hn:Nat.beq i.size 38=true:=by rfl)(ha:i.agg=true:=by rfl):At (Bs.of w0) s (bodyPost P fn (fun e w'=>e= .returned v'∧fP w0.heap.size w0 w') .ret):=qkU k (fun w hL=>⟨h,hL.below⟩) hfn hk hx hi hvs hn ha
end
def Ni{B:Bs}{nt:Nat}{t:List (Nat×Value)}{L:List aG}{X:Type}{T:X->List (Nat×Value)}{LL:X->List aG}(z:X)(ks:List Nat)(lk:jX t (T z):=by repeat (first|exact trivial|refine⟨rfl,?_⟩))(hp:jr L (ks.map some) (LL z):=by repeat (first|exact trivial|refine⟨⟨_,rfl,aG.le_refl _⟩,?_⟩))(hl:(ks.map some).length=(LL z).length:=by rfl)(ha:lW (ks.map some) ((LL z).map (·.own))=true:=by rfl):At B ⟨nt,t,L⟩ (fun a w=>∃z,lh B ⟨nt,T z,LL z⟩ a w):=EE z lk (au _ hp hl ha)
def uK:List Oper->Nat->Oper
 |[],_=>default
 |x::_,0=>x
 |_::l,n+1=>uK l n
theorem JS:∀(l:List Oper) (i:Nat),uK l i=l.toArray.getD i default
 |[],i=>by simp[uK]
 |x::l,0=>by simp[uK]
 |x::l,n+1=>by have:=JS l n;simp[uK] at this ⊢;exact this
def Nu{l l':List Oper}{perm:List Nat}(h:perm.map (uK l)=l'):perm.map (fun i=>l.toArray.getD i default)=l':=by rw[<-h];exact List.map_congr_left fun i _=>(JS l i).symm
section
variable{P:Program}{B:Bs}{s:St}{Q:Exit->Act->World->Prop}{id:Nat}{l l':List Oper}
def Dp(bl perm:List Nat)(h:aW P bl l.toArray l' s (fun s'=>At B s' (Q .normal)))(hm:P.follows .mixedOrders=true:=by exact mixed)(hc:vX bl l.toArray perm=true:=by kernel_rfl)(hl:perm.map (uK l)=l':=by first|(dsimp only[List.map,uK];done)|(dsimp only[List.map,uK];exact rfl))(hf:Ji bl l.toArray s=true:=by kernel_rfl):At B s ((Code.region id l.toArray true).wp P Q):=QD bl perm hm hc (Nu hl) hf h
def Dq(bl perm:List Nat)(h:aW P bl l.toArray l' s (fun s'=>At B s' (Q .normal)))(hm:P.follows .mixedOrders=true:=by exact mixed)(hc:zL bl l.toArray perm=true:=by kernel_rfl)(hl:perm.map (uK l)=l':=by first|(dsimp only[List.map,uK];done)|(dsimp only[List.map,uK];exact rfl)):At B s ((Code.region id l.toArray true).wp P Q):=FV bl perm hm hc (Nu hl) h
def Di(bl:List Nat)(h:aW P bl l.toArray l s (fun s'=>At B s' (Q .normal)))(hm:P.follows .mixedOrders=true:=by exact mixed)(hc:vX bl l.toArray (List.range l.length)=true:=by kernel_rfl)(hf:Ji bl l.toArray s=true:=by kernel_rfl):At B s ((Code.region id l.toArray true).wp P Q):=FW bl hm hc hf h
end
section
variable{P:Program}{ops:Array Oper}{X:Act->World->Prop}{B:Bs}{n:Nat}{R:List Nat}
def Nt{nt:Nat}{t:List (Nat×Value)}{L:List aG}{l l':List Oper}(i:Nat)(h:aW P [] l.toArray l' ⟨nt,t,[]⟩ (fun s'=>wZ P l.toArray X B n (R.filter (· !=i)) ⟨nt,s'.t,L⟩))(hc:(Region.noSelect l.toArray&&Bg l.toArray (Ag l.toArray.size R) [i])=true:=by kernel_rfl)(hl:[uK l i]=l':=by first|(dsimp only[uK];done)|(dsimp only[uK];exact rfl)):wZ P l.toArray X B (n+1) R ⟨nt,t,L⟩:=qdH i hc (by rw[<-hl,JS]) h
def FN{s:St}{o:Oper}(i:Nat)(h:aW P [1000000] ops [o] s (fun s'=>wZ P ops X B n (R.filter (· !=i)) s'))(h1:Region.ready .any ops (Ag ops.size R)=[i]:=by kernel_rfl)(ho:ops[i]? =some o:=by rfl):wZ P ops X B (n+1) R s:=cZ [i] h1 rfl ⟨⟨_,ho,h⟩,trivial⟩
def Nw{nt:Nat}{t:List (Nat×Value)}{L:List aG}{Z:Type}{T:Z->List (Nat×Value)}{LL:Z->List aG}(h:∀z,wZ P ops X B n R ⟨nt,T z,LL z⟩)(z:Z)(ks:List Nat)(lk:jX t (T z):=by repeat (first|exact trivial|refine⟨rfl,?_⟩))(hp:jr L (ks.map some) (LL z):=by repeat (first|exact trivial|refine⟨⟨_,rfl,aG.le_refl _⟩,?_⟩))(hl:(ks.map some).length=(LL z).length:=by rfl)(ha:lW (ks.map some) ((LL z).map (·.own))=true:=by rfl):wZ P ops X B n R ⟨nt,t,L⟩:=qdI h z lk (au _ hp hl ha)
end
end Go.Via
namespace Go.Proofs.YtaffcpfhedadhaaGreatDoor
open Go Go.RowKit Go.Via
def tiL:List (Nat×TI):=((3,⟨false,1,[]⟩)::(4,⟨false,1,[]⟩)::(5,⟨false,1,[]⟩)::(9,⟨false,1,[]⟩)::(22,⟨false,1,[]⟩)::(24,⟨true,4,[(0,1),(1,1),(2,1),(3,1)]⟩)::(26,⟨true,9,[(0,4),(4,4),(8,1)]⟩)::(32,⟨false,1,[]⟩)::(34,⟨true,2,[(0,1),(1,1)]⟩)::(36,⟨true,4,[(0,2),(2,2)]⟩)::(38,⟨true,9,[(0,4),(4,4),(8,1)]⟩)::(40,⟨true,10,[(0,1),(1,9)]⟩)::(48,⟨true,5,[(0,1),(1,1),(2,1),(3,1),(4,1)]⟩)::(55,⟨true,4,[(0,1),(1,1),(2,1),(3,1)]⟩)::(57,⟨true,6,[(0,1),(1,1),(2,4)]⟩)::(61,⟨true,20,[(0,9),(9,9),(18,1),(19,1)]⟩)::(63,⟨true,38,[(0,20),(20,9),(29,9)]⟩)::(74,⟨false,1,[]⟩)::(86,⟨true,4,[(0,1),(1,1),(2,1),(3,1)]⟩)::(91,⟨true,12,[(0,4),(4,4),(8,4)]⟩)::(93,⟨true,32,[(0,20),(20,12)]⟩)::(98,⟨true,16,[(0,4),(4,4),(8,4),(12,4)]⟩)::(100,⟨true,36,[(0,20),(20,16)]⟩)::(118,⟨false,1,[]⟩)::(120,⟨true,3,[(0,1),(1,1),(2,1)]⟩)::(130,⟨true,3,[]⟩)::(135,⟨true,8,[(0,4),(4,4)]⟩)::(137,⟨true,12,[(0,4),(4,8)]⟩)::(148,⟨false,1,[]⟩)::(151,⟨true,52,[(0,20),(20,16),(36,16)]⟩)::(174,⟨true,12,[]⟩)::(181,⟨true,21,[(0,20),(20,1)]⟩)::(184,⟨true,21,[(0,20),(20,1)]⟩)::(197,⟨true,0,[]⟩)::(201,⟨true,36,[(0,20),(20,16)]⟩)::(209,⟨true,10,[(0,9),(9,1)]⟩)::(221,⟨false,1,[]⟩)::(251,⟨true,2,[]⟩)::(253,⟨true,12,[(0,10),(10,2)]⟩)::(272,⟨false,1,[]⟩)::(286,⟨true,8,[]⟩)::(306,⟨false,1,[]⟩)::(308,⟨true,2,[(0,1),(1,1)]⟩)::(317,⟨true,256,[]⟩)::(328,⟨false,1,[]⟩)::(352,⟨true,2,[(0,1),(1,1)]⟩)::(353,⟨true,32,[]⟩)::[])
def qi1(T:Nat):TI:=(tiL.lookup T).getD ⟨false,0,[]⟩
def tiK:tiL.all (fun p=>eP Tryz.prog p.1 p.2)=true:=by kernel_rfl
def JU{α:Type}:∀{l:List (Nat×α)} {k:Nat} {v:α},l.lookup k=some v->(k,v)∈l
 |(a,b)::l,k,v,h=>by
  rw[List.lookup_cons] at h
  split at h
  ·rename_i e;cases h;rw[eq_of_beq e];exact List.mem_cons_self
  ·exact List.mem_cons_of_mem _ (JU h)
def qi2{α:Type}{p:Nat->α->Bool}{l:List (Nat×α)}{k:Nat}{v:α}(h:l.all (fun x=>p x.1 x.2)=true)(hv:l.lookup k=some v):p k v=true:=List.all_eq_true.1 h _ (JU hv)
def slB(o:Option TypeDesc)(e:Nat):Bool:=match o with
 |some (.slice e')=>e'==e
 |_=>false
def qgW{o:Option TypeDesc}{e:Nat}(h:slB o e=true):o=some (.slice e):=by
 unfold slB at h
 split at h
 ·rw[eq_of_beq h]
 ·cases h
def stB(o:Option TypeDesc):Bool:=match o with
 |some .string=>true
 |_=>false
def qgX{o:Option TypeDesc}(h:stB o=true):o=some .string:=by
 unfold stB at h
 split at h
 ·rfl
 ·cases h
def vV(T:Nat)(h:(tiL.lookup T).isSome=true:=by rfl):eP Tryz.prog T (qi1 T)=true:=by
 obtain⟨v,hv⟩:=Option.isSome_iff_exists.1 h;unfold qi1;rw[hv,Option.getD_some];exact qi2 (p:=fun a b=>eP Tryz.prog a b) tiK hv
def elL:List (Nat×Nat):=((22,86)::(29,100)::(32,63)::(74,61)::(88,93)::(118,3)::(146,151)::(148,201)::(153,38)::(177,181)::(182,184)::(186,32)::(221,5)::(249,253)::(250,74)::(270,272)::[])
def qi3(T:Nat):Nat:=(elL.lookup T).getD 0
def elK:elL.all (fun p=>slB (Tryz.prog.underlying p.1) p.2)=true:=by kernel_rfl
def uA(T:Nat)(h:(elL.lookup T).isSome=true:=by rfl):Tryz.prog.underlying T=some (.slice (qi3 T)):=by
 obtain⟨v,hv⟩:=Option.isSome_iff_exists.1 h;unfold qi3;rw[hv];have:=qi2 (p:=fun a b=>slB (Tryz.prog.underlying a) b) elK hv
 rw[Option.getD_some];exact qgW this
def stL:List Nat:=(9::[])
def stK:stL.all (fun T=>stB (Tryz.prog.underlying T))=true:=by kernel_rfl
def uT(T:Nat)(h:stL.contains T=true:=by rfl):Tryz.prog.underlying T=some .string:=by
 exact qgX (List.all_eq_true.1 stK T (List.contains_iff_mem.1 h))
end Go.Proofs.YtaffcpfhedadhaaGreatDoor
namespace Go.Proofs
open Go.Shelf
def Tryz.sortEv_ren:Go.Shelf.Ren:=⟨fun|6=>192|14=>222|15=>223|20=>239|21=>240|22=>241|23=>242|24=>243|25=>244|26=>245|27=>246|28=>247|29=>226|46=>266|47=>267|48=>268|49=>269|50=>270|57=>284|n=>n,fun|0=>0|3=>3|4=>4|5=>5|9=>9|22=>249|24=>253|25=>255|39=>236|53=>272|55=>189|76=>343|66=>328|45=>297|46=>298|50=>139|77=>344|70=>332|n=>n,fun n=>n⟩
def Tryz.sortEv:SlLaysF0.n6 Tryz.prog Tryz.sortEv_ren where
 mixed:=by kernel_rfl
 f6:=⟨"slices.SortFunc[[]viator/period.event,viator/period.event]",by decide,Tryz.func192.trans (congrArg some (by kernel_rfl))⟩
 f14:=⟨"slices.pdqsortCmpFunc[viator/period.event]",by decide,Tryz.func222.trans (congrArg some (by kernel_rfl))⟩
 f15:=Tryz.func223.trans (congrArg some (by kernel_rfl))
 f20:=⟨"slices.insertionSortCmpFunc[viator/period.event]",by decide,Tryz.func239.trans (congrArg some (by kernel_rfl))⟩
 f21:=⟨"slices.heapSortCmpFunc[viator/period.event]",by decide,Tryz.func240.trans (congrArg some (by kernel_rfl))⟩
 f22:=⟨"slices.breakPatternsCmpFunc[viator/period.event]",by decide,Tryz.func241.trans (congrArg some (by kernel_rfl))⟩
 f23:=⟨"slices.choosePivotCmpFunc[viator/period.event]",by decide,Tryz.func242.trans (congrArg some (by kernel_rfl))⟩
 f24:=⟨"slices.reverseRangeCmpFunc[viator/period.event]",by decide,Tryz.func243.trans (congrArg some (by kernel_rfl))⟩
 f25:=⟨"slices.partialInsertionSortCmpFunc[viator/period.event]",by decide,Tryz.func244.trans (congrArg some (by kernel_rfl))⟩
 f26:=⟨"slices.partitionEqualCmpFunc[viator/period.event]",by decide,Tryz.func245.trans (congrArg some (by kernel_rfl))⟩
 f27:=⟨"slices.partitionCmpFunc[viator/period.event]",by decide,Tryz.func246.trans (congrArg some (by kernel_rfl))⟩
 f28:=Tryz.func247.trans (congrArg some (by kernel_rfl))
 f29:=Tryz.func226.trans (congrArg some (by kernel_rfl))
 f46:=⟨"slices.siftDownCmpFunc[viator/period.event]",by decide,Tryz.func266.trans (congrArg some (by kernel_rfl))⟩
 f47:=Tryz.func267.trans (congrArg some (by kernel_rfl))
 f48:=Tryz.func268.trans (congrArg some (by kernel_rfl))
 f49:=⟨"slices.medianAdjacentCmpFunc[viator/period.event]",by decide,Tryz.func269.trans (congrArg some (by kernel_rfl))⟩
 f50:=⟨"slices.medianCmpFunc[viator/period.event]",by decide,Tryz.func270.trans (congrArg some (by kernel_rfl))⟩
 f57:=⟨"slices.order2CmpFunc[viator/period.event]",by decide,Tryz.func284.trans (congrArg some (by kernel_rfl))⟩
 t0:=Tryz.underlying0
 a0:=Tryz.isAgg0
 z0:=Tryz.sizeOf0
 v0:=Tryz.zeroValue0
 t3:=Tryz.underlying3
 a3:=Tryz.isAgg3
 z3:=Tryz.sizeOf3
 v3:=Tryz.zeroValue3
 t4:=Tryz.underlying4
 a4:=Tryz.isAgg4
 z4:=Tryz.sizeOf4
 v4:=Tryz.zeroValue4
 t5:=Tryz.underlying5
 a5:=Tryz.isAgg5
 z5:=Tryz.sizeOf5
 v5:=Tryz.zeroValue5
 t9:=Tryz.underlying9
 a9:=Tryz.isAgg9
 z9:=Tryz.sizeOf9
 v9:=Tryz.zeroValue9
 t22:=Tryz.underlying249
 a22:=Tryz.isAgg249
 z22:=Tryz.sizeOf249
 v22:=Tryz.zeroValue249
 t25:=Tryz.underlying255
 a25:=Tryz.isAgg255
 z25:=Tryz.sizeOf255
 v25:=Tryz.zeroValue255
 t39:=Tryz.underlying236
 a39:=Tryz.isAgg236
 z39:=Tryz.sizeOf236
 v39:=Tryz.zeroValue236
 t45:=Tryz.underlying297
 a45:=Tryz.isAgg297
 z45:=Tryz.sizeOf297
 v45:=Tryz.zeroValue297
 t46:=Tryz.underlying298
 a46:=Tryz.isAgg298
 z46:=Tryz.sizeOf298
 v46:=Tryz.zeroValue298
 t50:=Tryz.underlying139
 a50:=Tryz.isAgg139
 z50:=Tryz.sizeOf139
 v50:=Tryz.zeroValue139
 t53:=Tryz.underlying272
 a53:=Tryz.isAgg272
 z53:=Tryz.sizeOf272
 v53:=Tryz.zeroValue272
 t55:=Tryz.underlying189
 a55:=Tryz.isAgg189
 z55:=Tryz.sizeOf189
 v55:=Tryz.zeroValue189
 t66:=Tryz.underlying328
 a66:=Tryz.isAgg328
 z66:=Tryz.sizeOf328
 v66:=Tryz.zeroValue328
 t70:=Tryz.underlying332
 a70:=Tryz.isAgg332
 z70:=Tryz.sizeOf332
 v70:=Tryz.zeroValue332
 t76:=Tryz.underlying343
 a76:=Tryz.isAgg343
 z76:=Tryz.sizeOf343
 v76:=Tryz.zeroValue343
 t77:=Tryz.underlying344
 a77:=Tryz.isAgg344
 z77:=Tryz.sizeOf344
 v77:=Tryz.zeroValue344
def Tryz.insPU_ren:Go.Shelf.Ren:=⟨fun|15=>223|20=>264|28=>247|29=>226|47=>267|48=>268|n=>n,fun|0=>0|3=>3|4=>4|5=>5|9=>9|22=>148|24=>201|25=>280|n=>n,fun n=>n⟩
def Tryz.insPU:SlLaysF0.n20 Tryz.prog Tryz.insPU_ren where
 mixed:=by kernel_rfl
 f20:=⟨"slices.insertionSortCmpFunc[viator/pieces.Unit[viator/api.Line]]",by decide,Tryz.func264.trans (congrArg some (by kernel_rfl))⟩
 t0:=Tryz.underlying0
 a0:=Tryz.isAgg0
 z0:=Tryz.sizeOf0
 v0:=Tryz.zeroValue0
 t3:=Tryz.underlying3
 a3:=Tryz.isAgg3
 z3:=Tryz.sizeOf3
 v3:=Tryz.zeroValue3
 t4:=Tryz.underlying4
 a4:=Tryz.isAgg4
 z4:=Tryz.sizeOf4
 v4:=Tryz.zeroValue4
 t22:=Tryz.underlying148
 a22:=Tryz.isAgg148
 z22:=Tryz.sizeOf148
 v22:=Tryz.zeroValue148
 t25:=Tryz.underlying280
 a25:=Tryz.isAgg280
 z25:=Tryz.sizeOf280
 v25:=Tryz.zeroValue280
end Go.Proofs
namespace Go.Via
open Go
def V3(n i:Nat)(h:i<nb n):(bQ n).data.toList[((nb n-1-i:Nat):Int).toNat]? =some (UInt8.ofNat (n/256^i%256)):=by
 have:=Um n (nb n-1-i) (by omega)
 rwa [show nb n-1-(nb n-1-i)=i by omega] at this
theorem Uw(n i j:Nat):yJ n (i+1) j=if j=i/4 then yJ n i (i/4)+2^(8*(i%4))*(n/256^i%256) else yJ n i j:=by
 rw[XQ];split
 ·rename_i e;rw[<-e]
 ·rfl
def qdJ{x s:Int}(m k:Nat)(hx:x=(m:Int))(hs:s=(k:Int))(hk:k<=32):x.fdiv (2^(min s.toNat IntKind.u32.bits))=((m/2^k:Nat):Int):=by
 subst hx;subst hs;have:min (k:Int).toNat IntKind.u32.bits=k:=by rw[TU];omega
 rw[this,Int.fdiv_eq_ediv_of_nonneg _ (Int.pow_nonneg (by omega))];simp
def qad{l:List Nat}{N M i:Nat}(hl:∀d∈l,d<ae)(hN:val ae l=N)(hM:(ag ae N).length=M)(hi:i<M):l[i]? =some (N/ae^i%ae):=by
 subst hN;subst hM;have h1:=xQ dH hl;have h2:=kV (B:=ae) dH hi;rw[<-h1,List.getElem?_take] at h2;rw[if_pos hi] at h2;exact h2
theorem Ux{l:List Nat}{N M:Nat}(hN:val ae l=N)(hM:(ag ae N).length=M)(h0:M=0):(⟨#[]⟩:ByteArray)=bQ N:=by
 subst h0;have:N=0:=(ww dH).1 (List.eq_nil_of_length_eq_zero hM);rw[this,je]
theorem X8{N M:Nat}(hM:(ag ae N).length=M):N<256^(4*M):=by
 rw[<-Es,<-hM];exact eQ dH N
def EF{m n:Nat}(h:(decide (nb m<=8)&&decide (nb n<=8))=true):m<18446744073709551616∧n<18446744073709551616∧nb m<=8∧nb n<=8:=by
 simp only[Bool.and_eq_true,decide_eq_true_eq] at h;have h1:=pF h.1;have h2:=pF h.2;exact⟨by omega,by omega,h.1,h.2⟩
def ny(X Y i:Nat):Nat:=(X%ae^i+Y%ae^i)/ae^i+X/ae^i%ae+Y/ae^i%ae
def nT(X Y i:Nat):Nat:=(X%ae^i+Y%ae^i)/ae^i
def oK(X Y i j:Nat):Nat:=if j<i then(X+Y)/ae^j%ae else X/ae^j%ae
theorem dB(i:Nat):0<ae^i:=Nat.pow_pos (by decide)
def aU(n:Nat):n%ae<4294967296:=Nat.mod_lt _ (by decide)
def pY(X Y i:Nat):nT X Y i<=1:=by
 unfold nT;have h1:=Nat.mod_lt X (dB i);have h2:=Nat.mod_lt Y (dB i);have:(X%ae^i+Y%ae^i)/ae^i<2:=by rw[Nat.div_lt_iff_lt_mul (dB i)];omega
 omega
theorem qW(X Y:Nat):nT X Y 0=0:=by simp[nT,Nat.mod_one]
theorem yN(X Y i:Nat):ny X Y i=nT X Y i+X/ae^i%ae+Y/ae^i%ae:=rfl
def yO(X Y i:Nat):ny X Y i<8589934592:=by
 have:=pY X Y i;have h1:=aU (X/ae^i);have h2:=aU (Y/ae^i);rw[yN];omega
theorem jL(X Y i:Nat):ny X Y i/2^32=nT X Y (i+1):=by
 show _/ae=_;unfold ny nT;rw[Nat.pow_succ,Nat.mod_mul,Nat.mod_mul,<-Nat.div_div_eq_div_mul]
 congr 1
 have e:X%ae^i+ae^i*(X/ae^i%ae)+(Y%ae^i+ae^i*(Y/ae^i%ae))=(X%ae^i+Y%ae^i)+ae^i*(X/ae^i%ae+Y/ae^i%ae):=(by rw[Nat.mul_add];omega);rw[e,Nat.add_mul_div_left _ _ (dB i)];omega
theorem Q8(X Y i:Nat):ny X Y i%4294967296=(X+Y)/ae^i%ae:=by
 show _%ae=_;have e:X+Y=(X%ae^i+Y%ae^i)+ae^i*(X/ae^i+Y/ae^i):=by
  have h1:=Nat.mod_add_div X (ae^i);have h2:=Nat.mod_add_div Y (ae^i);rw[Nat.mul_add];omega
 conv=>rhs;rw[e]
 rw[Nat.add_mul_div_left _ _ (dB i)];unfold ny
 generalize(X%ae^i+Y%ae^i)/ae^i=c
 generalize X/ae^i=p
 generalize Y/ae^i=q
 rw[Nat.add_assoc,Nat.add_mod,<-Nat.add_mod p q,<-Nat.add_mod]
theorem pG(X Y i j:Nat):oK X Y (i+1) j=if j=i then ny X Y i%4294967296 else oK X Y i j:=by
 rw[Q8];unfold oK
 by_cases e:j=i
 ·subst e;rw[if_pos (by omega),if_pos rfl]
 ·rw[if_neg e]
  by_cases c:j<i
  ·rw[if_pos c,if_pos (by omega)]
  ·rw[if_neg c,if_neg (by omega)]
theorem IU(X Y i:Nat):oK X Y i i=X/ae^i%ae:=by unfold oK;rw[if_neg (by omega)]
theorem oU{Y i:Nat}(h:(ag ae Y).length<=i):Y/ae^i%ae=0:=by
 rw[Nat.div_eq_of_lt (Nat.lt_of_lt_of_le (eQ dH Y) (Nat.pow_le_pow_right (by decide) h))];rfl
def Bz(X Y:Nat):NV .u32 (ag ae X)++(NV .u32 (List.replicate ((ag ae X).length+1) 0)).drop (ag ae X).length=NV .u32 (row ((ag ae X).length+1) (oK X Y 0)):=by
 rw[Vy,MN]
 congr 1
 have e:row ((ag ae X).length+1) (oK X Y 0)=row (ag ae X).length (fun j=>X/ae^j%ae)++[0]:=by
  unfold row;rw[List.range_succ,List.map_append]
  congr 1
  simp only[List.map_cons,List.map_nil,oK];rw[if_neg (by omega),oU (Nat.le_refl _)]
 rw[e,<-zZ dH X]
 congr 1
 simp
theorem EG{X Y:Nat}(h:(ag ae Y).length<=(ag ae X).length):val ae (row ((ag ae X).length+1) (oK X Y ((ag ae X).length+1)))=X+Y:=by
 rw[bG (g:=fun j=>(X+Y)/ae^j%ae) (fun j hj=>by unfold oK;rw[if_pos hj]),pW ae (by decide),Nat.mod_eq_of_lt]
 have h1:=eQ dH X;have h2:=Nat.lt_of_lt_of_le (eQ dH Y) (Nat.pow_le_pow_right (by decide) h);rw[Nat.pow_succ];have:ae^(ag ae X).length*2<=ae^(ag ae X).length*ae:=Nat.mul_le_mul_left _ (by decide);omega
def IV(X Y i j:Nat):oK X Y i j<ae:=by unfold oK;split<;>exact aU _
def kD{n k:Nat}(h:nb n<=k):(ag ae n).length<=(k+3)/4:=by rw[Et];omega
def jB(m n i:Nat):Nat:=if m%ae^i<n%ae^i then 1 else 0
def zu(m n i j:Nat):Nat:=if j<i then(m-n)/ae^j%ae else m/ae^j%ae
theorem BA(m n:Nat):jB m n 0=0:=by simp[jB,Nat.mod_one]
def ug(m n i:Nat):jB m n i<=1:=by unfold jB;split<;>omega
def V4{m n i:Nat}(h:n<=m):(m-n)/ae^i+n/ae^i+jB m n i=m/ae^i:=by
 have h1:=Nat.mod_add_div m (ae^i);have h2:=Nat.mod_add_div n (ae^i);have h3:=Nat.mod_lt m (dB i);have h4:=Nat.mod_lt n (dB i);have hp:=dB i
 generalize hP:ae^i=P at*
 generalize m/P=M at*
 generalize n/P=N at*
 unfold jB;rw[hP]
 split
 ·rename_i hlt
  have hMN:N+1<=M:=by
   by_cases c:M<=N
   ·have:=Nat.mul_le_mul_left P c;omega
   ·omega
  obtain⟨k,rfl⟩:∃k,M=N+1+k:=⟨M-(N+1),by omega⟩;have e:m-n=(m%P+P-n%P)+P*k:=by
   rw[Nat.mul_add,Nat.mul_add] at h1;omega
  rw[e,Nat.add_mul_div_left _ _ hp,Nat.div_eq_of_lt (by omega)];omega
 ·rename_i hge
  have hMN:N<=M:=by
   by_cases c:M<N
   ·have:=Nat.mul_le_mul_left P c;rw[Nat.mul_succ] at this;omega
   ·omega
  obtain⟨k,rfl⟩:∃k,M=N+k:=⟨M-N,by omega⟩;have e:m-n=(m%P-n%P)+P*k:=by
   rw[Nat.mul_add] at h1;omega
  rw[e,Nat.add_mul_div_left _ _ hp,Nat.div_eq_of_lt (by omega)];omega
theorem Nv(m n i:Nat):jB m n (i+1)=if m/ae^i%ae<n/ae^i%ae+jB m n i then 1 else 0:=by
 unfold jB;rw[Nat.pow_succ,Nat.mod_mul,Nat.mod_mul];have h3:=Nat.mod_lt m (dB i);have h4:=Nat.mod_lt n (dB i)
 generalize m/ae^i%ae=x
 generalize n/ae^i%ae=y
 generalize hP:ae^i=P at*
 have key:(m%P+P*x<n%P+P*y)↔x<y+(if m%P<n%P then 1 else 0):=by
  rcases Nat.lt_trichotomy x y with c|c|c
  ·have:=Nat.mul_le_mul_left P c;rw[Nat.mul_succ] at this
   constructor<;>intro _<;>omega
  ·subst c;split<;>constructor<;>intro _<;>omega
  ·have:=Nat.mul_le_mul_left P c;rw[Nat.mul_succ] at this
   split<;>constructor<;>intro _<;>omega
 simp only[key]
def O8{m n i:Nat}(h:n<=m)(hd:m/ae^i%ae<n/ae^i%ae+jB m n i):m/ae^i%ae+4294967296=(m-n)/ae^i%ae+n/ae^i%ae+jB m n i∧jB m n (i+1)=1:=by
 refine⟨?_,by rw[Nv,if_pos hd]⟩;have h1:=V4 (i:=i) h;have h2:=ug m n i;unfold ae at*;omega
def O9{m n i:Nat}(h:n<=m)(hd:¬m/ae^i%ae<n/ae^i%ae+jB m n i):m/ae^i%ae=(m-n)/ae^i%ae+n/ae^i%ae+jB m n i∧jB m n (i+1)=0:=by
 refine⟨?_,by rw[Nv,if_neg hd]⟩;have h1:=V4 (i:=i) h;have h2:=ug m n i;unfold ae at*;omega
theorem BB(m n i j:Nat):zu m n (i+1) j=if j=i then(m-n)/ae^i%ae else zu m n i j:=by
 unfold zu
 by_cases e:j=i
 ·subst e;rw[if_pos (by omega),if_pos rfl]
 ·rw[if_neg e]
  by_cases c:j<i
  ·rw[if_pos c,if_pos (by omega)]
  ·rw[if_neg c,if_neg (by omega)]
theorem qdK(m n i:Nat):zu m n i i=m/ae^i%ae:=by unfold zu;rw[if_neg (by omega)]
def X9(m n:Nat):NV .u32 (ag ae m)++(NV .u32 (List.replicate (ag ae m).length 0)).drop (ag ae m).length=NV .u32 (row (ag ae m).length (zu m n 0)):=by
 rw[Vy,MN]
 congr 1
 rw[bG (g:=fun j=>m/ae^j%ae) (fun j _=>by unfold zu;rw[if_neg (by omega)]),<-zZ dH m];simp
theorem qae{m n:Nat}(h:n<=m):val ae (row (ag ae m).length (zu m n (ag ae m).length))=m-n:=by
 rw[bG (g:=fun j=>(m-n)/ae^j%ae) (fun j hj=>by unfold zu;rw[if_pos hj]),pW ae (by decide),Nat.mod_eq_of_lt]
 have h1:=eQ dH m;omega
def qdL(m n i j:Nat):zu m n i j<ae:=by unfold zu;split<;>exact aU _
def qB(m n i:Nat):Nat:=m%ae^i*n
def yP(m n i k:Nat):Nat:=(qB m n i/ae^i%ae^k+m/ae^i%ae*(n%ae^k))/ae^k
def Dz(m n i k:Nat):Nat:=yP m n i k+qB m n i/ae^(i+k)%ae+m/ae^i%ae*(n/ae^k%ae)
def Gf(m n i k j:Nat):Nat:=if j<i+k then qB m n (i+1)/ae^j%ae else qB m n i/ae^j%ae
def Ah(m n i j:Nat):Nat:=qB m n i/ae^j%ae
theorem Ny(m n i:Nat):qB m n (i+1)=qB m n i+ae^i*(m/ae^i%ae*n):=by
 unfold qB;rw[Nat.pow_succ,Nat.mod_mul,Nat.add_mul,Nat.mul_assoc]
theorem Nz(m n i:Nat):yP m n i 0=0:=by simp[yP,Nat.mod_one]
def Pg(m n i k:Nat):yP m n i k<ae:=by
 unfold yP;rw[Nat.div_lt_iff_lt_mul (dB k)];have h1:=Nat.mod_lt (qB m n i/ae^i) (dB k);have h2:=Nat.mod_lt n (dB k);have h3:m/ae^i%ae+1<=ae:=Nat.mod_lt _ (by decide);have h4:(m/ae^i%ae)*(n%ae^k)<=(m/ae^i%ae)*(ae^k):=Nat.mul_le_mul_left _ (by omega);have h5:(m/ae^i%ae+1)*ae^k<=ae*ae^k:=Nat.mul_le_mul_right _ h3;rw[Nat.add_mul] at h5;omega
def Ph(p q:Nat):p%ae*(q%ae)<=18446744065119617025:=by
 have h1:p%ae<=4294967295:=(by have:=aU p;omega);have h2:q%ae<=4294967295:=(by have:=aU q;omega);exact Nat.mul_le_mul h1 h2
def EH(m n i k:Nat):Dz m n i k<18446744073709551616:=by
 have h1:=Pg m n i k;have h2:=aU (qB m n i/ae^(i+k));have h3:=Ph (m/ae^i) (n/ae^k);unfold Dz ae at*;omega
theorem Ai(V i k:Nat):V/ae^(i+k)=V/ae^i/ae^k:=by rw[Nat.pow_add,Nat.div_div_eq_div_mul]
theorem JV(m n i k:Nat):Dz m n i k/2^32=yP m n i (k+1):=by
 show _/ae=_;unfold Dz yP;rw[Ai,Nat.pow_succ,Nat.mod_mul,Nat.mod_mul,<-Nat.div_div_eq_div_mul]
 congr 1
 generalize m/ae^i%ae=dd
 generalize qB m n i/ae^i=A
 have e:A%ae^k+ae^k*(A/ae^k%ae)+dd*(n%ae^k+ae^k*(n/ae^k%ae))=(A%ae^k+dd*(n%ae^k))+ae^k*(A/ae^k%ae+dd*(n/ae^k%ae)):=(by grind);rw[e,Nat.add_mul_div_left _ _ (dB k)];omega
theorem Q9(m n i k:Nat):Dz m n i k%4294967296=qB m n (i+1)/ae^(i+k)%ae:=by
 show _%ae=_;unfold Dz yP;rw[Ai,Ai,Ny,Nat.add_mul_div_left _ _ (dB i)]
 generalize m/ae^i%ae=dd
 generalize qB m n i/ae^i=A
 have e:A+dd*n=(A%ae^k+dd*(n%ae^k))+ae^k*(A/ae^k+dd*(n/ae^k)):=by
  have h1:=Nat.mod_add_div A (ae^k);have h2:=Nat.mod_add_div n (ae^k)
  conv=>lhs;rw[<-h1,<-h2]
  grind
 conv=>rhs;rw[e]
 rw[Nat.add_mul_div_left _ _ (dB k)]
 generalize(A%ae^k+dd*(n%ae^k))/ae^k=c
 generalize A/ae^k=p
 generalize n/ae^k=q
 have e2:∀x y z w:Nat,(x+y%ae+z*(w%ae))%ae=(x+(y+z*w))%ae:=by
  intro x y z w;have h1:=Nat.mod_add_div y ae;have h2:=Nat.mod_add_div w ae;have:x+(y+z*w)=(x+y%ae+z*(w%ae))+ae*(y/ae+z*(w/ae)):=by
   conv=>lhs;rw[<-h1,<-h2]
   grind
  rw[this,Nat.add_mul_mod_self_left]
 exact e2 c p dd q
theorem V5(m n i k:Nat):Gf m n i k (i+k)=qB m n i/ae^(i+k)%ae:=by unfold Gf;rw[if_neg (by omega)]
theorem NC(m n i k j:Nat):Gf m n i (k+1) j=if j=i+k then Dz m n i k%4294967296 else Gf m n i k j:=by
 rw[Q9];unfold Gf
 by_cases e:j=i+k
 ·subst e;rw[if_pos (by omega),if_pos rfl]
 ·rw[if_neg e]
  by_cases c:j<i+k
  ·rw[if_pos c,if_pos (by omega)]
  ·rw[if_neg c,if_neg (by omega)]
theorem ND(m n i j:Nat):Gf m n i 0 j=Ah m n i j:=by
 unfold Gf Ah
 split
 ·rename_i h
  rw[Ny];have e0:ae^i=ae^j*(ae*ae^(i-j-1)):=by
   rw[<-Nat.mul_assoc,<-Nat.pow_succ,<-Nat.pow_add,show j+1+(i-j-1)=i by omega]
  have e:ae^i*(m/ae^i%ae*n)=ae^j*(ae*(ae^(i-j-1)*(m/ae^i%ae*n))):=by
   generalize m/ae^i%ae*n=r
   rw[e0,Nat.mul_assoc,Nat.mul_assoc]
  rw[e,Nat.add_mul_div_left _ _ (dB j),Nat.add_mul_mod_self_left]
 ·rfl
theorem IW(m n i:Nat):qB m n i<ae^(i+(ag ae n).length):=by
 unfold qB;rw[Nat.pow_add];have h1:=Nat.mod_lt m (dB i);have h2:=eQ dH n
 calc m%ae^i*n<=ae^i*n:=Nat.mul_le_mul_right _ (by omega)
  _<ae^i*ae^(ag ae n).length:=(Nat.mul_lt_mul_left (dB i)).2 h2
theorem qaf(m n i:Nat):yP m n i (ag ae n).length%4294967296=qB m n (i+1)/ae^(i+(ag ae n).length)%ae:=by
 have h:=Q9 m n i (ag ae n).length;unfold Dz at h;rw[oU (Nat.le_refl _),Nat.div_eq_of_lt (IW m n i)] at h
 simpa using h
theorem NE(m n i j:Nat):Ah m n (i+1) j=if j=i+(ag ae n).length then yP m n i (ag ae n).length%4294967296 else Gf m n i (ag ae n).length j:=by
 rw[qaf];unfold Gf Ah
 by_cases e:j=i+(ag ae n).length
 ·subst e;rw[if_pos rfl]
 ·rw[if_neg e]
  by_cases c:j<i+(ag ae n).length
  ·rw[if_pos c]
  ·rw[if_neg c];have h1:ae^(i+(ag ae n).length)<=ae^j:=Nat.pow_le_pow_right (by decide) (by omega);have h2:ae^(i+1+(ag ae n).length)<=ae^j:=Nat.pow_le_pow_right (by decide) (by omega);rw[Nat.div_eq_of_lt (Nat.lt_of_lt_of_le (IW m n i) h1),Nat.div_eq_of_lt (Nat.lt_of_lt_of_le (IW m n (i+1)) h2)]
theorem NF(m n j:Nat):Ah m n 0 j=0:=by simp[Ah,qB,Nat.mod_one]
theorem Rf(m n:Nat):val ae (row ((ag ae m).length+(ag ae n).length+1) (Ah m n (ag ae m).length))=m*n:=by
 have e:qB m n (ag ae m).length=m*n:=(by unfold qB;rw[Nat.mod_eq_of_lt (eQ dH m)]);have h:=IW m n (ag ae m).length;rw[bG (g:=fun j=>m*n/ae^j%ae) (fun j hj=>by unfold Ah;rw[e]),pW ae (by decide),Nat.mod_eq_of_lt];rw[e] at h;exact Nat.lt_of_lt_of_le h (Nat.pow_le_pow_right (by decide) (by omega))
def V6(m n i j:Nat):Ah m n i j<ae:=aU _
def Ya{m n:Nat}(h:((m*n/18446744073709551616:Nat):Int)=0):m*n%18446744073709551616=m*n:=by omega
def Rh(m n i k:Nat):qB m n i/ae^(i+k)%ae+m/ae^i%ae*(n/ae^k%ae)<18446744073709551616:=by
 have:=EH m n i k;unfold Dz at this;omega
def NG(m n i k:Nat):((yP m n i k:Nat):Int)+((qB m n i/ae^(i+k)%ae+m/ae^i%ae*(n/ae^k%ae):Nat):Int)=((Dz m n i k:Nat):Int):=by
 unfold Dz;rw[<-Int.natCast_add,Nat.add_assoc]
def Pi(m y p j:Nat):Nat:=if j<p then m/ae^j%ae else m/y/ae^j%ae
theorem qdM(m y q:Nat):Pi m y (q+1) q=m/ae^q%ae:=by unfold Pi;rw[if_pos (by omega)]
def qag(m q:Nat):m/ae^q=m/ae^(q+1)*ae+m/ae^q%ae:=by
 rw[Nat.pow_succ,<-Nat.div_div_eq_div_mul];have:=Nat.div_add_mod (m/ae^q) ae;rw[Nat.mul_comm] at this;omega
def H9(m y q:Nat):Nat:=m/ae^(q+1)%y*ae+m/ae^q%ae
def V7(m y q:Nat)(hy:0<y):m/ae^q=y*(m/ae^(q+1)/y*ae)+H9 m y q:=by
 have h1:=qag m q;have h2:=Nat.div_add_mod (m/ae^(q+1)) y;unfold H9
 conv=>lhs;rw[h1,<-h2]
 rw[Nat.add_mul,Nat.mul_assoc,Nat.add_assoc]
def Pj(m y q:Nat)(hy:0<y):H9 m y q<y*ae:=by
 unfold H9;have h1:m/ae^(q+1)%y+1<=y:=Nat.mod_lt _ hy;have h2:m/ae^q%ae<ae:=Nat.mod_lt _ (by decide);have h3:=Nat.mul_le_mul_right ae h1;rw[Nat.add_mul] at h3;omega
def Yb(m y q:Nat)(hy:0<y)(hy2:y<4294967296):H9 m y q<18446744073709551616:=by
 have h1:=Pj m y q hy;have h2:y*ae<=4294967295*ae:=Nat.mul_le_mul_right _ (by omega);have e:(ae:Nat)=4294967296:=rfl;rw[e] at h1 h2;omega
theorem Ri(m y q:Nat)(hy:0<y):H9 m y q/y=m/y/ae^q%ae:=by
 have h1:=V7 m y q hy;have h2:H9 m y q/y<ae:=(by rw[Nat.div_lt_iff_lt_mul hy,Nat.mul_comm];exact Pj m y q hy);have e:m/y/ae^q=m/ae^q/y:=(by rw[Nat.div_div_eq_div_mul,Nat.div_div_eq_div_mul,Nat.mul_comm]);rw[e,h1,Nat.mul_add_div hy,Nat.mul_comm _ ae,Nat.mul_add_mod,Nat.mod_eq_of_lt h2]
theorem Rj(m y q:Nat)(hy:0<y):H9 m y q%y=m/ae^q%y:=by
 have h1:=V7 m y q hy
 conv=>rhs;rw[h1]
 rw[Nat.mul_add_mod]
theorem Yc(m y q j:Nat)(hy:0<y):Pi m y q j=if j=q then H9 m y q/y%4294967296 else Pi m y (q+1) j:=by
 rw[Ri m y q hy];show _=if j=q then _%ae else _
 rw[Nat.mod_mod];unfold Pi
 by_cases e:j=q
 ·subst e;rw[if_neg (by omega),if_pos rfl]
 ·rw[if_neg e]
  by_cases c:j<q
  ·rw[if_pos c,if_pos (by omega)]
  ·rw[if_neg c,if_neg (by omega)]
def Uy(m y:Nat):ag ae m=row (ag ae m).length (Pi m y (ag ae m).length):=by
 conv=>lhs;rw[zZ dH m]
 exact bG fun j hj=>by unfold Pi;rw[if_pos hj]
theorem Uz(m y:Nat):m/ae^(ag ae m).length%y=0:=by
 rw[Nat.div_eq_of_lt (eQ dH m)];simp
def qdN(m y j:Nat):Nat:=m/y/ae^j%ae
theorem qah(m y:Nat):val ae (row (ag ae m).length (qdN m y))=m/y:=by
 unfold qdN;rw[pW ae (by decide),Nat.mod_eq_of_lt];exact Nat.lt_of_le_of_lt (Nat.div_le_self _ _) (eQ dH m)
def Pm(m s i:Nat):Nat:=m%ae^i*2^s
def NH(m s i j:Nat):Nat:=Pm m s i/ae^j%ae
def Ia(m s i:Nat):Nat:=m/ae^i%ae*2^s
theorem JW(m s i:Nat):Pm m s (i+1)=Pm m s i+ae^i*Ia m s i:=by
 unfold Pm Ia;rw[Nat.pow_succ,Nat.mod_mul,Nat.add_mul,Nat.mul_assoc]
def yQ{s:Nat}(hs:s<32):2^s<=2147483648:=Nat.pow_le_pow_right (n:=2) (by omega) (show s<=31 by omega)
def qgY(m s i:Nat)(hs:s<32):Ia m s i<18446744073709551616:=by
 unfold Ia;have h1:=aU (m/ae^i);have h2:=yQ hs;have:m/ae^i%ae*2^s<=4294967295*2147483648:=Nat.mul_le_mul (by omega) h2;omega
def Pn(m s i:Nat):Pm m s i/ae^i<2^s:=by
 rw[Nat.div_lt_iff_lt_mul (dB i)];unfold Pm;rw[Nat.mul_comm];exact(Nat.mul_lt_mul_left (Nat.pow_pos (by omega))).2 (Nat.mod_lt _ (dB i))
theorem wG{s:Nat}(hs:s<32):ae=2^s*2^(32-s):=by rw[<-Nat.pow_add,show s+(32-s)=32 by omega];rfl
def V8(m s i:Nat)(hs:s<32):Ia m s i%4294967296=2^s*(m/ae^i%ae%2^(32-s)):=by
 show _%ae=_;unfold Ia
 conv=>lhs;rw[wG hs]
 rw[Nat.mul_comm _ (2^s),Nat.mul_mod_mul_left]
 congr 1
 rw[<-wG hs]
theorem qai(m s i:Nat)(hs:s<32):NH m s i i=Pm m s i/ae^i:=by
 unfold NH;have h1:=Pn m s i;have h2:=yQ hs;exact Nat.mod_eq_of_lt (by unfold ae at*;omega)
def qaj(m s i:Nat)(hs:s<32):Pm m s i/ae^i+Ia m s i%4294967296<4294967296∧NH m s (i+1) i=Pm m s i/ae^i+Ia m s i%4294967296:=by
 have h1:=Pn m s i;have e:=V8 m s i hs;have h3:m/ae^i%ae%2^(32-s)+1<=2^(32-s):=Nat.mod_lt _ (Nat.pow_pos (by omega));have h4:=Nat.mul_le_mul_left (2^s) h3;have hB:=wG hs;rw[<-hB,Nat.mul_add] at h4;have hlt:Pm m s i/ae^i+Ia m s i%4294967296<4294967296:=(by rw[e];unfold ae at*;omega);refine⟨hlt,?_⟩;unfold NH;rw[JW,Nat.add_mul_div_left _ _ (dB i)];have:Pm m s i/ae^i+Ia m s i=(Pm m s i/ae^i+Ia m s i%ae)+ae*(Ia m s i/ae):=by
  have:=Nat.mod_add_div (Ia m s i) ae;omega
 rw[this,Nat.add_mul_mod_self_left];exact Nat.mod_eq_of_lt hlt
theorem qdO(m s i:Nat)(hs:s<32):NH m s (i+1) (i+1)=Ia m s i/2^32%4294967296:=by
 have h0:=(qaj m s i hs).1;unfold NH;rw[JW,Nat.pow_succ,<-Nat.div_div_eq_div_mul,Nat.add_mul_div_left _ _ (dB i)];have:Pm m s i/ae^i+Ia m s i=(Pm m s i/ae^i+Ia m s i%ae)+ae*(Ia m s i/ae):=by
  have:=Nat.mod_add_div (Ia m s i) ae;omega
 have h0':Pm m s i/ae^i+Ia m s i%ae<ae:=h0;rw[this,Nat.add_mul_div_left _ _ (by decide),Nat.div_eq_of_lt h0',Nat.zero_add]
 rfl
def qgZ(m s i:Nat):Pm m s i<ae^i*2^s:=(Nat.mul_lt_mul_right (Nat.pow_pos (by omega))).2 (Nat.mod_lt _ (dB i))
def shM(m s i j:Nat):Nat:=if j=i then NH m s (i+1) i else NH m s i j
theorem qak(m s i j:Nat)(hs:s<32):NH m s (i+1) j=if j=i+1 then Ia m s i/2^32%4294967296 else shM m s i j:=by
 by_cases e:j=i+1
 ·subst e;rw[if_pos rfl,qdO m s i hs]
 ·rw[if_neg e];unfold shM
  by_cases e2:j=i
  ·subst e2;rw[if_pos rfl]
  ·rw[if_neg e2];unfold NH
   by_cases c:j<i
   ·rw[JW];have e0:ae^i=ae^j*(ae*ae^(i-j-1)):=by
     rw[<-Nat.mul_assoc,<-Nat.pow_succ,<-Nat.pow_add,show j+1+(i-j-1)=i by omega]
    rw[e0,Nat.mul_assoc,Nat.add_mul_div_left _ _ (dB j),Nat.mul_assoc,Nat.add_mul_mod_self_left]
   ·have h2:=yQ hs;have h3:ae^(i+2)<=ae^j:=Nat.pow_le_pow_right (by decide) (by omega);have key:∀k,k<=i+1->Pm m s k/ae^j=0:=fun k hk=>Nat.div_eq_of_lt (by
 have h4:=qgZ m s k;have h5:ae^k*2^s<=ae^(i+1)*ae:=Nat.mul_le_mul (Nat.pow_le_pow_right (by decide) hk) (by unfold ae;omega);rw[<-Nat.pow_succ] at h5;have h6:ae^(i+1).succ=ae^(i+2):=rfl;omega)
    rw[key (i+1) (by omega),key i (by omega)]
theorem qal(m s j:Nat):NH m s 0 j=0:=by simp[NH,Pm,Nat.mod_one]
def Aj(N j:Nat):Nat:=N/ae^j%ae
theorem qdP(m s j:Nat):NH m s (ag ae m).length j=Aj (m*2^s) j:=by
 unfold NH Aj Pm;rw[Nat.mod_eq_of_lt (eQ dH m)]
def qi4(m s i:Nat)(hs:s<32):IntKind.u32.wrap ((BitVec.ofInt IntKind.u32.bits ((NH m s i i:Nat):Int)|||BitVec.ofInt IntKind.u32.bits ((Ia m s i%4294967296:Nat):Int)).toNat)=((NH m s (i+1) i:Nat):Int):=by
 obtain⟨h1,h2⟩:=qaj m s i hs;rw[<-qai m s i hs] at h1 h2;have e:=V8 m s i hs;rw[e] at h1 h2 ⊢;exact VP s (by rw[qai m s i hs];exact Pn m s i) h2.symm (by rw[h2];exact h1) rfl rfl
theorem nz(k:Nat):ae^(k+1)=ae^k*ae:=Nat.pow_succ ..
def GOK(Y W L g r:Nat):Prop:=g*(Y/ae^(L-1))+r=W/ae^(L-1)∧r<4294967296∧W/Y<=g∧g<=4294967297
def xe(V L:Nat)(hL:2<=L):V=(V/ae^(L-1)*ae+V/ae^(L-2)%ae)*ae^(L-2)+V%ae^(L-2):=by
 have h1:=Nat.div_add_mod V (ae^(L-2));have h2:=qag V (L-2);rw[show L-2+1=L-1 by omega] at h2;rw[<-h2,Nat.mul_comm];exact h1.symm
structure DC(Y W L:Nat):Prop where
 hL:2<=L
 lo:ae^L<=2*Y
 hi:Y<ae^L
 w:W<Y*ae
def DC.y1{Y W L:Nat}(h:DC Y W L):2147483648<=Y/ae^(L-1)∧Y/ae^(L-1)<4294967296:=by
 have hp:=dB (L-1);have e:ae^L=ae^(L-1)*ae:=(by rw[<-nz,show L-1+1=L by have:=h.hL;omega]);have h1:=h.lo;have h2:=h.hi;rw[e] at h1 h2;refine⟨?_,?_⟩
 ·rw[Nat.le_div_iff_mul_le hp];have:ae^(L-1)*ae=2*(2147483648*ae^(L-1)):=by unfold ae;omega
  omega
 ·rw[Nat.div_lt_iff_lt_mul hp];rw[Nat.mul_comm] at h2;exact h2
theorem DC.pos{Y W L:Nat}(h:DC Y W L):0<Y:=by have:=h.lo;have:=dB L;omega
def DC.wlt{Y W L:Nat}(h:DC Y W L):W<ae^(L+1):=by
 have:=Nat.mul_le_mul_right ae (Nat.le_of_lt h.hi);rw[nz];exact Nat.lt_of_lt_of_le h.w this
def DC.high{Y W L:Nat}(h:DC Y W L):W/ae^(L-1)<(Y/ae^(L-1)+1)*ae:=by
 refine qc7 (B:=ae) (xe Y L h.hL) (xe W L h.hL) (Nat.mod_lt _ (dB _)) (Nat.mod_lt _ (by decide)) (by rw[Nat.mul_comm];exact h.w)
def DC.high64{Y W L:Nat}(h:DC Y W L):W/ae^(L-1)<18446744073709551616:=by
 have h1:=h.wlt;rw[Nat.div_lt_iff_lt_mul (dB _)];have:ae^(L+1)=18446744073709551616*ae^(L-1):=by
  rw[show L+1=2+(L-1) by have:=h.hL;omega,Nat.pow_add];rfl
 omega
theorem DC.q{Y W L:Nat}(h:DC Y W L):W/Y<4294967296:=by
 rw[Nat.div_lt_iff_lt_mul h.pos,Nat.mul_comm];exact h.w
def qdQ{Y W L:Nat}(h:DC Y W L):GOK Y W L (W/ae^(L-1)/(Y/ae^(L-1))) (W/ae^(L-1)% (Y/ae^(L-1))):=by
 obtain⟨a1,a2⟩:=h.y1;have a3:=Nat.mod_lt (W/ae^(L-1)) (show 0<Y/ae^(L-1) by omega);refine⟨by rw[Nat.mul_comm];exact Nat.div_add_mod _ _,by omega,?_,?_⟩
 ·exact QN (B:=ae) (dB (L-2)) (xe Y L h.hL) (xe W L h.hL) (Nat.mod_lt _ (dB _)) (Nat.mod_lt _ (by decide)) (by omega) h.pos
 ·have h1:=h.high;have:W/ae^(L-1)/(Y/ae^(L-1))<4294967298:=by
   rw[Nat.div_lt_iff_lt_mul (by omega)];unfold ae at*;omega
  omega
def qam{Y W L g r:Nat}(h:DC Y W L)(hg:GOK Y W L g r)(ht:4294967296<=g∨r*2^32+W/ae^(L-2)%ae<g*(Y/ae^(L-2)%ae)):
 W/Y<g:=by
 rcases ht with ht|ht
 ·have:=h.q;omega
 ·exact Ui (B:=ae) (dB (L-2)) (xe Y L h.hL) (xe W L h.hL) (Nat.mod_lt _ (dB _)) hg.1 h.pos ht
def qfM{Y W L g r:Nat}(h:DC Y W L)(hg:GOK Y W L g r)(hq:W/Y<g):(g-1)*(Y/ae^(L-1))+(r+Y/ae^(L-1))=W/ae^(L-1):=by
 have h0:0<g:=Nat.lt_of_le_of_lt (Nat.zero_le _) hq;obtain⟨k,rfl⟩:∃k,g=k+1:=⟨g-1,by omega⟩;have:=hg.1;rw[Nat.add_mul] at this;simp only[Nat.add_sub_cancel];omega
def qan{Y W L g r:Nat}(h:DC Y W L)(hg:GOK Y W L g r)(hq:W/Y<g)(hr:r+Y/ae^(L-1)<4294967296):GOK Y W L (g-1) (r+Y/ae^(L-1)):=
 ⟨qfM h hg hq,hr,by omega,by have:=hg.2.2.2;omega⟩
def qg0{Y W L g r:Nat}(h:DC Y W L)(hg:GOK Y W L g r)(hB:g<4294967296)(ht:g*(Y/ae^(L-2)%ae)<=r*2^32+W/ae^(L-2)%ae):g<=W/Y+1:=by
 obtain⟨a1,a2⟩:=h.y1;exact MZ (B:=ae) (xe Y L h.hL) (xe W L h.hL) (Nat.mod_lt _ (dB _)) (by omega) (Nat.mod_lt _ (by decide)) hg.1 h.pos (by unfold ae;omega) (.inl ht)
def qao{Y W L g r:Nat}(h:DC Y W L)(hg:GOK Y W L g r)(hq:W/Y<g)(hr:4294967296<=r+Y/ae^(L-1)):g-1<=W/Y+1:=by
 obtain⟨a1,a2⟩:=h.y1;have:=hg.2.2.2;exact MZ (B:=ae) (xe Y L h.hL) (xe W L h.hL) (Nat.mod_lt _ (dB _)) (by omega) (Nat.mod_lt _ (by decide)) (qfM h hg hq) h.pos (by unfold ae;omega) (.inr hr)
def gC(Y g i:Nat):Nat:=g*(Y%ae^i)/ae^i
def gS(Y g i:Nat):Nat:=gC Y g i+g*(Y/ae^i%ae)
theorem Po(Y g:Nat):gC Y g 0=0:=by simp[gC,Nat.mod_one]
def G8(Y g i:Nat)(hg:g<=4294967296):gC Y g i<=4294967295:=by
 unfold gC;have h1:=Nat.mod_lt Y (dB i);have:g*(Y%ae^i)/ae^i<4294967296:=by
  rw[Nat.div_lt_iff_lt_mul (dB i)];have h2:g*(Y%ae^i)<=4294967296*(Y%ae^i):=Nat.mul_le_mul_right _ hg;omega
 omega
def NI(Y g i:Nat)(hg:g<=4294967296):gS Y g i<18446744073709551616∧g*(Y/ae^i%ae)<18446744073709551616:=by
 unfold gS;have h1:=G8 Y g i hg;have h2:=aU (Y/ae^i);have h3:g*(Y/ae^i%ae)<=4294967296*4294967295:=Nat.mul_le_mul hg (by omega);omega
theorem JX(Y g i:Nat):gS Y g i/2^32=gC Y g (i+1):=by
 show _/ae=_;unfold gS gC;rw[nz,Nat.mod_mul,<-Nat.div_div_eq_div_mul]
 congr 1
 have e:g*(Y%ae^i+ae^i*(Y/ae^i%ae))=g*(Y%ae^i)+ae^i*(g*(Y/ae^i%ae)):=(by grind);rw[e,Nat.add_mul_div_left _ _ (dB i)]
theorem UA(Y g i:Nat):gS Y g i%4294967296=g*Y/ae^i%ae:=by
 show _%ae=_;have e:g*Y=g*(Y%ae^i)+ae^i*(g*(Y/ae^i)):=by
  have h1:=Nat.mod_add_div Y (ae^i)
  conv=>lhs;rw[<-h1]
  grind
 rw[e,Nat.add_mul_div_left _ _ (dB i)];unfold gS gC
 generalize g*(Y%ae^i)/ae^i=c
 generalize Y/ae^i=p
 rw[Nat.add_mod,<-Nat.mul_mod_mod,Nat.mod_mod,Nat.mul_mod_mod,<-Nat.add_mod]
def ji(Y W L g:Nat):Nat:=W+ae^(L+1)-g*Y
def qap{Y W L g:Nat}(h:DC Y W L)(hg1:g<=W/Y+1):g*Y<=W+ae^(L+1):=by
 have h1:=Nat.mul_le_mul_right Y hg1;have h2:=Nat.div_mul_le_self W Y;rw[Nat.add_mul] at h1;have h3:=h.hi;have h4:ae^L<=ae^(L+1):=Nat.pow_le_pow_right (by decide) (by omega);omega
theorem JY{W L i:Nat}(hi:i<=L):(W+ae^(L+1))/ae^i%ae=W/ae^i%ae:=by
 have e:ae^(L+1)=ae^i*(ae*ae^(L-i)):=by
  rw[<-Nat.mul_assoc,<-nz,<-Nat.pow_add,show i+1+(L-i)=L+1 by omega]
 rw[e,Nat.add_mul_div_left _ _ (dB i),Nat.add_mul_mod_self_left]
def G9(X W D j i k:Nat):Nat:=if k<j then X/ae^k%ae else if k<j+i then D/ae^(k-j)%ae else W/ae^(k-j)%ae
def Gg(X W D j i:Nat):G9 X W D j i (i+j)=W/ae^i%ae:=by
 unfold G9;rw[if_neg (by omega),if_neg (by omega),show i+j-j=i by omega]
theorem qf(X W D j i k:Nat):G9 X W D j (i+1) k=if k=i+j then D/ae^i%ae else G9 X W D j i k:=by
 unfold G9
 by_cases e:k=i+j
 ·subst e;rw[if_neg (by omega),if_pos (by omega),if_pos rfl,show i+j-j=i by omega]
 ·rw[if_neg e]
  by_cases c:k<j
  ·rw[if_pos c,if_pos c]
  ·rw[if_neg c,if_neg c]
   by_cases c2:k<j+i
   ·rw[if_pos c2,if_pos (by omega)]
   ·rw[if_neg c2,if_neg (by omega)]
def xw(X j V k:Nat):Nat:=if k<j then X/ae^k%ae else V/ae^(k-j)%ae
def dvW(X Y j:Nat):Nat:=X/ae^(j+1)%Y*ae+X/ae^j%ae
def qg1(X Y j:Nat)(hy:0<Y):dvW X Y j<Y*ae:=Pj X Y j hy
theorem Rk(X Y D j k:Nat):xw X (j+1) (X/ae^(j+1)%Y) k=G9 X (dvW X Y j) D j 0 k:=by
 unfold xw G9 dvW
 by_cases c:k<j
 ·rw[if_pos (by omega),if_pos c]
 ·rw[if_neg c,if_neg (by omega:¬k<j+0)]
  by_cases e:k=j
  ·subst e;rw[if_pos (by omega),Nat.sub_self,Nat.pow_zero,Nat.div_one,Nat.mul_comm,Nat.mul_add_mod,Nat.mod_mod]
  ·rw[if_neg (by omega)];obtain⟨q,rfl⟩:∃q,k=j+1+q:=⟨k-j-1,by omega⟩;rw[show j+1+q-(j+1)=q by omega,show j+1+q-j=q+1 by omega];have:(X/ae^(j+1)%Y*ae+X/ae^j%ae)/ae=X/ae^(j+1)%Y:=by
    rw[Nat.mul_comm,Nat.mul_add_div (by decide),Nat.div_eq_of_lt (Nat.mod_lt _ (by decide))];omega
   have e2:ae^(q+1)=ae*ae^q:=Nat.pow_succ';rw[e2,<-Nat.div_div_eq_div_mul (X/ae^(j+1)%Y*ae+X/ae^j%ae),this]
def qdS(X Y j:Nat)(hy:0<Y):dvW X Y j/Y=X/Y/ae^j%ae:=Ri X Y j hy
def qdT(X Y j:Nat)(hy:0<Y):dvW X Y j%Y=X/ae^j%Y:=Rj X Y j hy
theorem Pq{X Y W L g j k:Nat}(h:DC Y W L)(hg:g=W/Y):G9 X W (ji Y W L g) j (L+1) k=xw X j (W%Y) k:=by
 unfold G9 xw
 by_cases c:k<j
 ·rw[if_pos c,if_pos c]
 ·rw[if_neg c,if_neg c];have hD:ji Y W L g=W%Y+ae^(L+1):=by
   unfold ji;subst hg;have:=Nat.div_add_mod W Y;rw[Nat.mul_comm] at this;omega
  have hr:=Nat.mod_lt W h.pos
  by_cases c2:k<j+(L+1)
  ·rw[if_pos c2,hD,JY (by omega)]
  ·rw[if_neg c2];have h1:ae^(L+1)<=ae^(k-j):=Nat.pow_le_pow_right (by decide) (by omega);have h2:=h.wlt;have h3:=h.hi;have h4:ae^L<=ae^(L+1):=Nat.pow_le_pow_right (by decide) (by omega);rw[Nat.div_eq_of_lt (by omega),Nat.div_eq_of_lt (by omega)]
def Qu(X Y W D L j i k:Nat):Nat:=if k<j then X/ae^k%ae else if k<j+i then(D+Y)/ae^(k-j)%ae else if k<j+(L+1) then D/ae^(k-j)%ae else W/ae^(k-j)%ae
def JZ(X Y W D L j k:Nat):G9 X W D j (L+1) k=Qu X Y W D L j 0 k:=by
 unfold G9 Qu
 by_cases c:k<j
 ·rw[if_pos c,if_pos c]
 ·rw[if_neg c,if_neg c,if_neg (by omega:¬k<j+0)]
def Gh(X Y W D L j i:Nat)(hi:i<=L):Qu X Y W D L j i (i+j)=D/ae^i%ae:=by
 unfold Qu;rw[if_neg (by omega),if_neg (by omega),if_pos (by omega),show i+j-j=i by omega]
theorem xW(X Y W D L j i k:Nat):Qu X Y W D L j (i+1) k=if k=i+j then ny D Y i%4294967296 else Qu X Y W D L j i k:=by
 rw[Q8];unfold Qu
 by_cases e:k=i+j
 ·subst e;rw[if_neg (by omega),if_pos (by omega),if_pos rfl,show i+j-j=i by omega]
 ·rw[if_neg e]
  by_cases c:k<j
  ·rw[if_pos c,if_pos c]
  ·rw[if_neg c,if_neg c]
   by_cases c2:k<j+i
   ·rw[if_pos c2,if_pos (by omega)]
   ·rw[if_neg c2,if_neg (by omega)]
def UB{X Y W L g j k:Nat}(h:DC Y W L)(hg:g=W/Y+1):Qu X Y W (ji Y W L g) L j (L+1) k=xw X j (W%Y) k:=by
 have e:ji Y W L g+Y=ji Y W L (W/Y):=by
  have h1:=qap h (g:=g) (by omega);unfold ji;subst hg;rw[Nat.add_mul] at h1 ⊢;omega
 rw[<-Pq (X:=X) (j:=j) (k:=k) h rfl,<-e];unfold Qu G9
 by_cases c:k<j
 ·rw[if_pos c,if_pos c]
 ·rw[if_neg c,if_neg c]
  by_cases c2:k<j+(L+1)
  ·rw[if_pos c2,if_pos c2]
  ·rw[if_neg c2,if_neg c2,if_neg c2]
theorem UC(D Y L:Nat)(hY:Y<ae^L):(D/ae^L%ae+nT D Y L%4294967296)%4294967296=ny D Y L%4294967296:=by
 rw[yN,show Y/ae^L%ae=0 by rw[Nat.div_eq_of_lt hY];rfl];omega
def UD{Y W L g:Nat}(h:DC Y W L)(h1:g<=W/Y+1)(h2:W/Y<=g)(hb:jB (W+ae^(L+1)) (g*Y) (L+1)=1):g=W/Y+1:=by
 rcases Nat.lt_or_ge (W/Y) g with c|c
 ·omega
 ·exfalso
  have e:g=W/Y:=(by omega);subst e;unfold jB at hb;have h3:=Nat.div_mul_le_self W Y;have h4:=h.wlt;rw[Nat.add_mod_right,Nat.mod_eq_of_lt h4,Nat.mod_eq_of_lt (by omega),if_neg (by omega)] at hb;cases hb
def UE{Y W L g:Nat}(h:DC Y W L)(h1:g<=W/Y+1)(h2:W/Y<=g)(hB:g<=4294967296)(hb:jB (W+ae^(L+1)) (g*Y) (L+1)=0):g=W/Y:=by
 rcases Nat.lt_or_ge (W/Y) g with c|c
 ·exfalso
  have e:g=W/Y+1:=(by omega);unfold jB at hb;have h3:=Nat.div_add_mod W Y;have h4:=h.wlt;have h5:=Nat.mod_lt W h.pos;have h6:g*Y<ae^(L+1):=by
   rw[nz,Nat.mul_comm];exact Nat.mul_lt_mul_of_lt_of_le h.hi hB (by decide)
  rw[Nat.add_mod_right,Nat.mod_eq_of_lt h4,Nat.mod_eq_of_lt h6] at hb;have h7:g*Y=Y*(W/Y)+Y:=by rw[e,Nat.add_mul,Nat.mul_comm,Nat.one_mul]
  rw[if_pos (by omega)] at hb;cases hb
 ·omega
theorem Pv{Y L g:Nat}(hY:Y<ae^L)(hB:g<=4294967296):gC Y g L=g*Y/ae^L%ae:=by
 have h1:gC Y g L=g*Y/ae^L:=(by unfold gC;rw[Nat.mod_eq_of_lt hY]);have h2:=G8 Y g L hB;rw[h1] at h2 ⊢;exact(Nat.mod_eq_of_lt (by unfold ae at*;omega)).symm
def qg2{n:Nat}(h0:n≠0):∃s,s<32∧(32-(Lib.bitLen (n/ae^((ag ae n).length-1)%ae):Int))=((s:Nat):Int)∧ae^(ag ae n).length<=2*(n*2^s)∧n*2^s<ae^(ag ae n).length:=by
 have hlt:=eQ dH n;have hl:0<(ag ae n).length:=by
  rcases Nat.eq_zero_or_pos (ag ae n).length with h|h
  ·exact absurd ((ww dH).1 (List.eq_nil_of_length_eq_zero h)) h0
  ·exact h
 generalize hL:(ag ae n).length=L at*
 obtain⟨k,rfl⟩:∃k,L=k+1:=⟨L-1,by omega⟩;simp only[Nat.add_sub_cancel];have hk:ae^k<=n:=by
  rcases Nat.lt_or_ge n (ae^k) with h|h
  ·have:=jG dH h;omega
  ·exact h
 have ht:n/ae^k<ae:=(by rw[Nat.div_lt_iff_lt_mul (dB k),Nat.mul_comm,<-nz];exact hlt);have ht0:0<n/ae^k:=Nat.div_pos hk (dB k);rw[Nat.mod_eq_of_lt ht];obtain⟨b1,b2,b3⟩:=wY (x:=n/ae^k) (Nat.lt_trans ht (by decide)) (by omega);have b4:Lib.bitLen (n/ae^k)<=32:=Lib.bitLen_le _ 32 (by omega) ht
 generalize Lib.bitLen (n/ae^k)=b at*
 refine⟨32-b,by omega,by omega,?_,?_⟩
 ·have h1:2^(b-1)*ae^k<=n:=by
   have:=Nat.mul_le_mul_right (ae^k) b2;exact Nat.le_trans this (Nat.div_mul_le_self _ _)
  have h2:=Nat.mul_le_mul_right (2^(32-b)) h1;have h3:2^(b-1)*ae^k*2^(32-b)*2=ae^(k+1):=by
   have e:2^(b-1)*2^(32-b)*2=ae:=by
    rw[<-Nat.pow_add,<-Nat.pow_succ,show(b-1+(32-b)).succ=32 by omega];rfl
   rw[nz,<-e];grind
  omega
 ·have h1:n<2^b*ae^k:=by
   exact Nat.lt_mul_of_div_lt b3 (dB k)
  have h2:=(Nat.mul_lt_mul_right (a:=2^(32-b)) (Nat.pow_pos (by omega))).2 h1;have h3:2^b*ae^k*2^(32-b)=ae^(k+1):=by
   have e:2^b*2^(32-b)=ae:=(by rw[<-Nat.pow_add,show b+(32-b)=32 by omega];rfl);rw[nz,<-e];grind
  omega
def qdU{m n s:Nat}(hs:s<32)(hlen:(ag ae n).length<=(ag ae m).length)(h1:ae^(ag ae n).length<=2*(n*2^s)):m*2^s/ae^((ag ae m).length+1-(ag ae n).length)<n*2^s:=by
 rw[Nat.div_lt_iff_lt_mul (dB _)];have h2:=eQ dH m;have h3:=yQ hs;have h4:m*2^s<=m*2147483648:=Nat.mul_le_mul_left _ h3;have h5:ae^(ag ae n).length*ae^((ag ae m).length+1-(ag ae n).length)=ae^(ag ae m).length*ae:=by
  rw[<-Nat.pow_add,<-nz];congr 1;omega
 have h6:=Nat.mul_le_mul_right (ae^((ag ae m).length+1-(ag ae n).length)) h1;rw[h5,Nat.mul_assoc] at h6;have h7:ae^(ag ae m).length*ae=2*(2147483648*ae^(ag ae m).length):=(by unfold ae;omega);omega
def qdV{X Y M k:Nat}(h:X/ae^M<Y):Aj X k=xw X M (X/ae^M%Y) k:=by
 unfold xw Aj;rw[Nat.mod_eq_of_lt h]
 split
 ·rfl
 ·rw[Nat.div_div_eq_div_mul,<-Nat.pow_add,show M+(k-M)=k by omega]
def Px{X Y W j:Nat}(hW:dvW X Y j=W)(k:Nat):xw X (j+1) (X/ae^(j+1)%Y) (k+j)=W/ae^k%ae:=by
 rw[Rk X Y 0 j,hW];unfold G9;rw[if_neg (by omega),if_neg (by omega),show k+j-j=k by omega]
def qaq{X Y W j:Nat}(hW:dvW X Y j=W)(D k:Nat):xw X (j+1) (X/ae^(j+1)%Y) k=G9 X W D j 0 k:=by
 rw[Rk X Y D j,hW]
def DC.whigh{Y W L:Nat}(h:DC Y W L):2^32*(W/ae^L%ae)+W/ae^(L-1)%ae=W/ae^(L-1):=by
 have h1:=qag W (L-1);rw[show L-1+1=L by have:=h.hL;omega] at h1;have h2:W/ae^L<ae:=(by rw[Nat.div_lt_iff_lt_mul (dB L),Nat.mul_comm,<-nz];exact h.wlt);rw[Nat.mod_eq_of_lt h2,Nat.mul_comm];exact h1.symm
def DC.ytop{Y W L:Nat}(h:DC Y W L):Aj Y (L-1)=Y/ae^(L-1):=by
 unfold Aj;exact Nat.mod_eq_of_lt h.y1.2
def qi5{p q:Nat}(hp:p<4294967296)(hq:q<4294967296):p*q<18446744073709551616:=by
 have:p*q<=4294967295*4294967295:=Nat.mul_le_mul (by omega) (by omega);omega
def DD{Y W L g i:Nat}(h:DC Y W L)(hg1:g<=W/Y+1)(hi:i<=L)(hd:W/ae^i%ae<g*Y/ae^i%ae+jB (W+ae^(L+1)) (g*Y) i):
 W/ae^i%ae+4294967296=ji Y W L g/ae^i%ae+g*Y/ae^i%ae+jB (W+ae^(L+1)) (g*Y) i∧jB (W+ae^(L+1)) (g*Y) (i+1)=1:=by
 have:=O8 (i:=i) (qap h hg1) (by rw[JY hi];exact hd);rw[JY hi] at this;exact this
def DF{Y W L g i:Nat}(h:DC Y W L)(hg1:g<=W/Y+1)(hi:i<=L)(hd:¬W/ae^i%ae<g*Y/ae^i%ae+jB (W+ae^(L+1)) (g*Y) i):
 W/ae^i%ae=ji Y W L g/ae^i%ae+g*Y/ae^i%ae+jB (W+ae^(L+1)) (g*Y) i∧jB (W+ae^(L+1)) (g*Y) (i+1)=0:=by
 have:=O9 (i:=i) (qap h hg1) (by rw[JY hi];exact hd);rw[JY hi] at this;exact this
def UF{Y W L g i:Nat}(h:DC Y W L)(hg1:g<=W/Y+1)(hi:i<=L):IntKind.u32.wrap (((W/ae^i%ae:Nat):Int)-((jB (W+ae^(L+1)) (g*Y) i:Nat):Int)-((g*Y/ae^i%ae:Nat):Int))=((ji Y W L g/ae^i%ae:Nat):Int):=by
 rw[qcS];have hD:=aU (ji Y W L g/ae^i)
 by_cases c:W/ae^i%ae<g*Y/ae^i%ae+jB (W+ae^(L+1)) (g*Y) i
 ·have:=(DD h hg1 hi c).1
  generalize W/ae^i%ae=w at*
  generalize g*Y/ae^i%ae=p at*
  generalize ji Y W L g/ae^i%ae=d at*
  generalize jB (W+ae^(L+1)) (g*Y) i=b at*
  omega
 ·have:=(DF h hg1 hi c).1
  generalize W/ae^i%ae=w at*
  generalize g*Y/ae^i%ae=p at*
  generalize ji Y W L g/ae^i%ae=d at*
  generalize jB (W+ae^(L+1)) (g*Y) i=b at*
  omega
def l9(X Y p k:Nat):Nat:=if k<p then 0 else X/Y/ae^k%ae
theorem uu(X Y j k:Nat):l9 X Y j k=if k=j then X/Y/ae^j%ae else l9 X Y (j+1) k:=by
 unfold l9
 by_cases e:k=j
 ·subst e;rw[if_neg (by omega),if_pos rfl]
 ·rw[if_neg e]
  by_cases c:k<j
  ·rw[if_pos c,if_pos (by omega)]
  ·rw[if_neg c,if_neg (by omega)]
def qdW(X Y p k:Nat):l9 X Y p k<ae:=by unfold l9;split;decide;exact aU _
theorem qdX{m n s M:Nat}(h0:n≠0)(h:m*2^s/ae^M<n*2^s):val ae (row M (l9 (m*2^s) (n*2^s) 0))=m/n:=by
 have e:m*2^s/(n*2^s)=m/n:=Nat.mul_div_mul_right m n (Nat.pow_pos (by omega));rw[bG (g:=fun j=>m/n/ae^j%ae) (fun j _=>by unfold l9;rw[if_neg (by omega),e]),pW ae (by decide),Nat.mod_eq_of_lt];have hp:0<n*2^s:=Nat.mul_pos (by omega) (Nat.pow_pos (by omega));rw[<-e,Nat.div_lt_iff_lt_mul hp];rw[Nat.div_lt_iff_lt_mul (dB M)] at h;rw[Nat.mul_comm (n*2^s) (ae^M)] at h;exact h
def V9(m n s k:Nat):xw (m*2^s) 0 (m*2^s/ae^0% (n*2^s)) k=m%n*2^s/ae^k%ae:=by
 unfold xw;rw[if_neg (by omega),Nat.sub_zero,Nat.pow_zero,Nat.div_one,Nat.mul_mod_mul_right]
def xX(r i k:Nat):Nat:=if k<i then r/ae^k%ae else 0
theorem UG(r k:Nat):xX r 0 k=0:=by simp[xX]
theorem UH(r i k:Nat):xX r (i+1) k=if k=i then r/ae^i%ae else xX r i k:=by
 unfold xX
 by_cases e:k=i
 ·subst e;rw[if_pos (by omega),if_pos rfl]
 ·rw[if_neg e]
  by_cases c:k<i
  ·rw[if_pos c,if_pos (by omega)]
  ·rw[if_neg c,if_neg (by omega)]
def qar(r i k:Nat):xX r i k<ae:=by unfold xX;split;exact aU _;decide
theorem qas{m n:Nat}(h0:n≠0):val ae (row (ag ae n).length (xX (m%n) (ag ae n).length))=m%n:=by
 rw[bG (g:=fun j=>m%n/ae^j%ae) (fun j hj=>by unfold xX;rw[if_pos hj]),pW ae (by decide),Nat.mod_eq_of_lt];exact Nat.lt_trans (Nat.mod_lt _ (by omega)) (eQ dH n)
def qdY(V i:Nat):2^32*(V/ae^(i+1)%ae)+V/ae^i%ae=V/ae^i% (ae*ae):=by
 rw[Nat.mod_mul,nz,<-Nat.div_div_eq_div_mul];show ae*_+_=_;omega
def qdZ(V i:Nat):V/ae^i% (ae*ae)<18446744073709551616:=Nat.mod_lt _ (by decide)
theorem qat{r s i:Nat}(hs:s<32):r*2^s/ae^i% (ae*ae)/2^s%4294967296=r/ae^i%ae:=by
 show _%ae=_;have hp:0<2^s:=Nat.pow_pos (by omega);have e:ae*ae=2^s*(ae*2^(32-s)):=by
  have:=wG hs
  conv=>lhs;rw[this]
  rw[<-this];conv=>lhs;arg 1;rw[this]
  grind
 rw[e,Nat.mod_mul,Nat.add_mul_div_left _ _ hp,Nat.div_eq_of_lt (Nat.mod_lt _ hp),Nat.zero_add];have e2:r*2^s/ae^i/2^s=r/ae^i:=by
  rw[Nat.div_div_eq_div_mul,Nat.mul_comm (ae^i),<-Nat.div_div_eq_div_mul,Nat.mul_div_cancel _ hp]
 rw[e2,Nat.mod_mul_right_mod]
def Py(Y g i:Nat):((gC Y g i:Nat):Int)+((g*(Y/ae^i%ae):Nat):Int)=((gS Y g i:Nat):Int):=by unfold gS;omega
def Gi(D Y i:Nat):((nT D Y i:Nat):Int)+((D/ae^i%ae+Y/ae^i%ae:Nat):Int)=((ny D Y i:Nat):Int):=by rw[yN];omega
def J3{m n:Nat}(h:decide (ng m n<0)=false):n<=m:=by
 have:=of_decide_eq_false h;unfold ng at this;rcases Nat.lt_or_ge m n with c|c
 ·rw[if_pos c] at this;exact absurd (by decide) this
 ·exact c
def NJ{m n:Nat}(h:decide (ng m n<0)=true):m<n:=by
 have:=of_decide_eq_true h;unfold ng at this;rcases Nat.lt_or_ge m n with c|c
 ·exact c
 ·rw[if_neg (by omega)] at this
  split at this<;>exact absurd this (by decide)
def qd0{n:Nat}(h0:n≠0):0<(ag ae n).length:=by
 rcases Nat.eq_zero_or_pos (ag ae n).length with h|h
 ·exact absurd ((ww dH).1 (List.eq_nil_of_length_eq_zero h)) h0
 ·exact h
def qd1{n:Nat}(h:(ag ae n).length=1):n<4294967296:=by have:=eQ dH n;rw[h] at this;exact this
def qau{n:Nat}(h1:(ag ae n).length=1)(hn:n<4294967296):(ag ae n)[0]? =some n:=by
 rw[kV dH (by omega),Nat.pow_zero,Nat.div_one];exact congrArg some (Nat.mod_eq_of_lt hn)
theorem NK{z:Int}(h:(!decide (nb z.natAbs<=8))=true):(if-9223372036854775808<=z∧z<=9223372036854775807 then z else 0)=0∧decide (-9223372036854775808<=z∧z<=9223372036854775807)=false:=by
 have h1:¬nb z.natAbs<=8:=(by simpa using h);have h2:¬(-9223372036854775808<=z∧z<=9223372036854775807):=fun c=>h1 (nY (by omega))
 exact⟨if_neg h2,decide_eq_false h2⟩
theorem BC{z:Int}(h: -9223372036854775808<=z∧z<=9223372036854775807):(if-9223372036854775808<=z∧z<=9223372036854775807 then z else 0)=z∧decide (-9223372036854775808<=z∧z<=9223372036854775807)=true:=⟨if_pos h,decide_eq_true h⟩
theorem EI{z:Int}(h:¬(-9223372036854775808<=z∧z<=9223372036854775807)):(if-9223372036854775808<=z∧z<=9223372036854775807 then z else 0)=0∧decide (-9223372036854775808<=z∧z<=9223372036854775807)=false:=⟨if_neg h,decide_eq_false h⟩
def nb8{z:Int}(h:(!decide (nb z.natAbs<=8))=false):nb z.natAbs<=8:=by simpa using h
def qC(b:Bool)(s:ByteArray):Bool:=(s==⟨#[]⟩&&b)||s.data.toList.head? ==some 0
def qi6{s:ByteArray}(h:(s==⟨#[]⟩)=false):∃x l,s.data.toList=x::l:=by
 cases hl:s.data.toList with
 |nil=>
  exfalso
  rw[yH] at h;have:s=⟨#[]⟩:=ByteArray.ext (by simpa using hl);simp[this] at h
 |cons x l=>exact⟨x,l,rfl⟩
def qav{s:ByteArray}(h:(s==⟨#[]⟩)=true):s=⟨#[]⟩:=by rw[yH] at h;simpa using h
def Rn(a b:Nat):Nat.gcd b (a%b)=Nat.gcd a b:=by rw[Nat.gcd_comm a b,Nat.gcd_rec b a,Nat.gcd_comm]
def Ro{a b:Int}(h:(a !=b)=false):a=b:=by simpa using h
def We{x g:Nat}(h:x=g):(if false=true then-(x:Int) else(x:Int))=(g:Int):=by subst h;rfl
theorem qg3{b:Bool}{s:ByteArray}(he:s=⟨#[]⟩)(hb:b=true):qC b s=true:=by subst he;subst hb;unfold qC;rw[FZ];rfl
theorem qg4{b:Bool}{s:ByteArray}(he:s=⟨#[]⟩)(hb:b=false):¬qC b s=true:=by subst he;subst hb;unfold qC;simp
theorem qg5{b:Bool}{s:ByteArray}{x:UInt8}{l:List UInt8}(he:s.data.toList=x::l)(h:(((x.toNat:Nat):Int)==0)=true):qC b s=true:=by
 unfold qC;rw[he];have:x=0:=UInt8.toNat_inj.1 (by have:=eq_of_beq h;show x.toNat=0;omega);subst this;simp
theorem qg6{b:Bool}{s:ByteArray}{x:UInt8}{l:List UInt8}(h0:(s==⟨#[]⟩)=false)(he:s.data.toList=x::l)(h:(((x.toNat:Nat):Int)==0)=false):¬qC b s=true:=by
 unfold qC;rw[he,h0];have:x≠0:=fun e=>by subst e;exact absurd h (by decide)
 simp[this]
def D8(n:Nat):List Nat:=ag 256 n
theorem bY(n:Nat):(D8 n).length=nb n:=rfl
def jk{n i:Nat}(h:i<nb n):(D8 n)[i]? =some (n/256^i%256):=lU (by omega) n i h
def wH(n q:Nat):n/256^q=n/256^(q+1)*256+n/256^q%256:=by
 rw[Nat.pow_succ,<-Nat.div_div_eq_div_mul];have:=Nat.div_add_mod (n/256^q) 256;omega
def NL{a b q:Nat}(h:a/256^q<b/256^q):a<b:=by
 rcases Nat.lt_or_ge a b with c|c
 ·exact c
 ·have:=Nat.div_le_div_right (c:=256^q) c;omega
theorem UI{a b:Nat}(h:nb a<nb b):ng a b= -1:=by unfold ng;rw[if_pos (VX h)]
theorem UJ{a b:Nat}(h:nb b<nb a):ng a b=1:=by
 have:=VX h;unfold ng;rw[if_neg (by omega),if_pos this]
theorem UK{a b q:Nat}(he:a/256^(q+1)=b/256^(q+1))(h:a/256^q%256<b/256^q%256):ng a b= -1:=by
 have h1:=wH a q;have h2:=wH b q;have:a<b:=NL (q:=q) (by omega);unfold ng;rw[if_pos this]
theorem UL{a b q:Nat}(he:a/256^(q+1)=b/256^(q+1))(h:b/256^q%256<a/256^q%256):ng a b=1:=by
 have h1:=wH a q;have h2:=wH b q;have:b<a:=NL (q:=q) (by omega);unfold ng;rw[if_neg (by omega),if_pos this]
def UM{a b q:Nat}(he:a/256^(q+1)=b/256^(q+1))(h1:¬a/256^q%256<b/256^q%256)(h2:¬b/256^q%256<a/256^q%256):a/256^q=b/256^q:=by
 have e1:=wH a q;have e2:=wH b q;omega
def qd2{a b:Nat}(h:nb a=nb b):a/256^nb a=b/256^nb a:=by
 rw[Nat.div_eq_of_lt (kK a),h,Nat.div_eq_of_lt (kK b)]
theorem qd3{a b:Nat}(h:a/256^0=b/256^0):ng a b=0:=by
 have:a=b:=(by simpa using h);subst this;unfold ng;rw[if_neg (Nat.lt_irrefl _),if_neg (Nat.lt_irrefl _)]
def qaw{n q:Nat}(h7:nb n<=7):n/256^q<72057594037927936:=by
 have h1:=pF h7;have:n/256^q<=n:=Nat.div_le_self _ _;omega
theorem Rq(n:Nat):row (nb n) (wX n (nb n) (nb n))=(ag 256 n).reverse:=by
 apply List.ext_getElem?
 intro j
 by_cases hj:j<nb n
 ·rw[bU hj,List.getElem?_reverse (by exact hj)];have e:=lU (B:=256) (by omega) n (nb n-1-j) (by unfold nb at*;omega);unfold nb at e hj ⊢;rw[e];unfold wX;rw[if_pos (by omega)]
 ·rw[List.getElem?_eq_none (by rw[ak];omega),List.getElem?_eq_none (by simp;unfold nb at hj;omega)]
theorem qd4(n:Nat):ag 256 (val 256 (D8 n))=D8 n:=by unfold D8;rw[sG (by omega)]
def qE(n j:Nat):Nat:=n/256^j%256
def Ak(n j:Nat):qE n j<256:=Nat.mod_lt _ (by decide)
theorem J4(n:Nat):row (nb n) (qE n)=D8 n:=(zZ (B:=256) (by omega) n).symm
def iV(k:IntKind)(i:Nat)(f:Nat->Nat)(d:Int)(h:d=((f i:Nat):Int)):NV k (row i f)++[.int k d]=NV k (row (i+1) f):=by
 subst h;unfold NV row;rw[List.range_succ,List.map_append,List.map_append];rfl
def one_cell(k:IntKind)(d:Int):∀v∈[Value.int k d],v.oneCell'=true:=by
 intro v hv;rw[List.mem_singleton.1 hv];rfl
def NM{n i:Nat}(h:0<n/256^i):i<nb n:=by
 rcases Nat.lt_or_ge i (nb n) with c|c
 ·exact c
 ·rw[Nat.div_eq_of_lt (Nat.lt_of_lt_of_le (kK n) (iy c))] at h;omega
def NP{n i:Nat}(h:n/256^i=0)(hi:i<=nb n):i=nb n:=by
 have h1:n<256^i:=(Nat.div_eq_zero_iff_lt (Nat.pow_pos (by omega))).1 h;have:=nY h1;omega
theorem UN(n i:Nat):n/256^i/256=n/256^(i+1):=by rw[Nat.pow_succ,Nat.div_div_eq_div_mul]
def qfN(n:Nat):∀d∈D8 n,d<256:=Bh (by omega)
theorem Ha(n:Nat):(ag 256 (val 256 (D8 n))).length=nb n:=by rw[qd4];rfl
theorem Rt(n:Nat):(ag 256 (val 256 (row (nb n) (qE n)))).length=nb n:=by rw[J4,Ha]
def qd5(n:Nat){neg:Bool}(h:neg=true):Value.agg #[.bool (decide ((0:Int)<nb n)),.string (bQ n)]=I (if neg=true then-(n:Int) else(n:Int)):=by
 rw[if_pos h];have e:=Du (n:=n);unfold I;have h1:decide ((0:Int)<nb n)=decide (-(n:Int)<0):=by
  by_cases c:n=0
  ·subst c;rw[kS];rfl
  ·rw[decide_eq_true (by omega),decide_eq_true (by omega)]
 rw[h1,Int.natAbs_neg,Int.natAbs_natCast]
def qd6(n:Nat){neg:Bool}(h:neg=false):Value.agg #[.bool false,.string (bQ n)]=I (if neg=true then-(n:Int) else(n:Int)):=by
 subst h;rw[if_neg (by decide)];unfold I;rw[decide_eq_false (by omega),Int.natAbs_natCast]
theorem gZ(i:Nat):0<256^i:=Nat.pow_pos (by omega)
def kN(n:Nat):n%256<256:=Nat.mod_lt _ (by omega)
def zx(X Y i:Nat):Nat:=(X%256^i+Y%256^i)/256^i+X/256^i%256+Y/256^i%256
def pM(X Y i:Nat):Nat:=(X%256^i+Y%256^i)/256^i
def yR(X Y i:Nat):pM X Y i<=1:=by
 unfold pM;have h1:=Nat.mod_lt X (gZ i);have h2:=Nat.mod_lt Y (gZ i);have:(X%256^i+Y%256^i)/256^i<2:=by rw[Nat.div_lt_iff_lt_mul (gZ i)];omega
 omega
theorem Yd(X Y:Nat):pM X Y 0=0:=by simp[pM,Nat.mod_one]
theorem nU(X Y i:Nat):zx X Y i=pM X Y i+X/256^i%256+Y/256^i%256:=rfl
def BD(X Y i:Nat):zx X Y i<512:=by
 have:=yR X Y i;have h1:=kN (X/256^i);have h2:=kN (Y/256^i);rw[nU];omega
theorem jc(X Y i:Nat):zx X Y i/256=pM X Y (i+1):=by
 show _/256=_;unfold zx pM;rw[Nat.pow_succ,Nat.mod_mul,Nat.mod_mul,<-Nat.div_div_eq_div_mul]
 congr 1
 have e:X%256^i+256^i*(X/256^i%256)+(Y%256^i+256^i*(Y/256^i%256))=(X%256^i+Y%256^i)+256^i*(X/256^i%256+Y/256^i%256):=(by rw[Nat.mul_add];omega);rw[e,Nat.add_mul_div_left _ _ (gZ i)];omega
theorem lS(X Y i:Nat):zx X Y i%256=(X+Y)/256^i%256:=by
 show _%256=_;have e:X+Y=(X%256^i+Y%256^i)+256^i*(X/256^i+Y/256^i):=by
  have h1:=Nat.mod_add_div X (256^i);have h2:=Nat.mod_add_div Y (256^i);rw[Nat.mul_add];omega
 conv=>rhs;rw[e]
 rw[Nat.add_mul_div_left _ _ (gZ i)];unfold zx
 generalize(X%256^i+Y%256^i)/256^i=c
 generalize X/256^i=p
 generalize Y/256^i=q
 rw[Nat.add_assoc,Nat.add_mod,<-Nat.add_mod p q,<-Nat.add_mod]
def yS(m n i:Nat):Nat:=if m%256^i<n%256^i then 1 else 0
theorem Ye(m n:Nat):yS m n 0=0:=by simp[yS,Nat.mod_one]
def Pz(m n i:Nat):yS m n i<=1:=by unfold yS;split<;>omega
def Wh{m n i:Nat}(h:n<=m):(m-n)/256^i+n/256^i+yS m n i=m/256^i:=by
 have h1:=Nat.mod_add_div m (256^i);have h2:=Nat.mod_add_div n (256^i);have h3:=Nat.mod_lt m (gZ i);have h4:=Nat.mod_lt n (gZ i);have hp:=gZ i
 generalize hP:256^i=P at*
 generalize m/P=M at*
 generalize n/P=N at*
 unfold yS;rw[hP]
 split
 ·rename_i hlt
  have hMN:N+1<=M:=by
   by_cases c:M<=N
   ·have:=Nat.mul_le_mul_left P c;omega
   ·omega
  obtain⟨k,rfl⟩:∃k,M=N+1+k:=⟨M-(N+1),by omega⟩;have e:m-n=(m%P+P-n%P)+P*k:=by
   rw[Nat.mul_add,Nat.mul_add] at h1;omega
  rw[e,Nat.add_mul_div_left _ _ hp,Nat.div_eq_of_lt (by omega)];omega
 ·rename_i hge
  have hMN:N<=M:=by
   by_cases c:M<N
   ·have:=Nat.mul_le_mul_left P c;rw[Nat.mul_succ] at this;omega
   ·omega
  obtain⟨k,rfl⟩:∃k,M=N+k:=⟨M-N,by omega⟩;have e:m-n=(m%P-n%P)+P*k:=by
   rw[Nat.mul_add] at h1;omega
  rw[e,Nat.add_mul_div_left _ _ hp,Nat.div_eq_of_lt (by omega)];omega
theorem NQ(m n i:Nat):yS m n (i+1)=if m/256^i%256<n/256^i%256+yS m n i then 1 else 0:=by
 unfold yS;rw[Nat.pow_succ,Nat.mod_mul,Nat.mod_mul];have h3:=Nat.mod_lt m (gZ i);have h4:=Nat.mod_lt n (gZ i)
 generalize m/256^i%256=x
 generalize n/256^i%256=y
 generalize hP:256^i=P at*
 have key:(m%P+P*x<n%P+P*y)↔x<y+(if m%P<n%P then 1 else 0):=by
  rcases Nat.lt_trichotomy x y with c|c|c
  ·have:=Nat.mul_le_mul_left P c;rw[Nat.mul_succ] at this
   constructor<;>intro _<;>omega
  ·subst c;split<;>constructor<;>intro _<;>omega
  ·have:=Nat.mul_le_mul_left P c;rw[Nat.mul_succ] at this
   split<;>constructor<;>intro _<;>omega
 simp only[key]
def Wi{m n i:Nat}(h:n<=m)(hd:m/256^i%256<n/256^i%256+yS m n i):m/256^i%256+256=(m-n)/256^i%256+n/256^i%256+yS m n i∧yS m n (i+1)=1:=by
 refine⟨?_,by rw[NQ,if_pos hd]⟩;have h1:=Wh (i:=i) h;have h2:=Pz m n i;omega
def Wj{m n i:Nat}(h:n<=m)(hd:¬m/256^i%256<n/256^i%256+yS m n i):m/256^i%256=(m-n)/256^i%256+n/256^i%256+yS m n i∧yS m n (i+1)=0:=by
 refine⟨?_,by rw[NQ,if_neg hd]⟩;have h1:=Wh (i:=i) h;have h2:=Pz m n i;omega
theorem jC{Y i:Nat}(h:nb Y<=i):Y/256^i%256=0:=by
 rw[Nat.div_eq_of_lt (Nat.lt_of_lt_of_le (kK Y) (iy h))]
def qax(a b i:Nat)(ha:nb a<=i)(hb:nb b<=i)(hc:pM a b i=0):a+b<256^i:=by
 unfold pM at hc;rw[Nat.mod_eq_of_lt (Nat.lt_of_lt_of_le (kK a) (iy ha)),Nat.mod_eq_of_lt (Nat.lt_of_lt_of_le (kK b) (iy hb))] at hc;exact(Nat.div_eq_zero_iff_lt (gZ i)).1 hc
def Yf(a b i:Nat)(h:0<pM a b i)(ha:nb a<=i)(hb:nb b<=i):i<=max (nb a) (nb b):=by
 rcases Nat.lt_or_ge (max (nb a) (nb b)) i with c|c
 ·exfalso
  have h1:a<256^(i-1):=Nat.lt_of_lt_of_le (kK a) (iy (by omega));have h2:b<256^(i-1):=Nat.lt_of_lt_of_le (kK b) (iy (by omega));have h3:256^i=256^(i-1)*256:=(by rw[<-Nat.pow_succ,show(i-1).succ=i by omega]);unfold pM at h;rw[Nat.mod_eq_of_lt (by omega),Nat.mod_eq_of_lt (by omega),Nat.div_eq_of_lt (by omega)] at h;omega
 ·exact c
theorem qd7(N k:Nat)(h:N<256^k):val 256 (row k (qE N))=N:=by
 unfold qE;rw[pW 256 (by omega),Nat.mod_eq_of_lt h]
theorem J5(N k:Nat)(h:N<256^k):ag 256 (val 256 (row k (qE N)))=D8 N:=by rw[qd7 N k h];rfl
def Ru(N k:Nat)(h:N<256^k):NV .i64 (D8 N)=(NV .i64 (row k (qE N))).take (nb N):=by
 have:=xQ (B:=256) (by omega) (kU (n:=k) (fun j=>Ak N j));rw[J5 N k h] at this;rw[Ej];congr 1;exact this.symm
def qX(m n i:Nat):Nat:=m%256^i*n
def xY(m n i k:Nat):Nat:=(qX m n i/256^i%256^k+m/256^i%256*(n%256^k))/256^k
def uM(m n i k:Nat):Nat:=xY m n i k+qX m n i/256^(i+k)%256+m/256^i%256*(n/256^k%256)
def EJ(m n i k j:Nat):Nat:=if j<i+k then qX m n (i+1)/256^j%256 else qX m n i/256^j%256
def DI(m n i j:Nat):Nat:=qX m n i/256^j%256
theorem NR(m n i:Nat):qX m n (i+1)=qX m n i+256^i*(m/256^i%256*n):=by
 unfold qX;rw[Nat.pow_succ,Nat.mod_mul,Nat.add_mul,Nat.mul_assoc]
theorem Yg(m n i:Nat):xY m n i 0=0:=by simp[xY,Nat.mod_one]
def wI(m n i k:Nat):xY m n i k<256:=by
 unfold xY;rw[Nat.div_lt_iff_lt_mul (gZ k)];have h1:=Nat.mod_lt (qX m n i/256^i) (gZ k);have h2:=Nat.mod_lt n (gZ k);have h3:m/256^i%256+1<=256:=Nat.mod_lt _ (by decide);have h4:(m/256^i%256)*(n%256^k)<=(m/256^i%256)*(256^k):=Nat.mul_le_mul_left _ (by omega);have h5:(m/256^i%256+1)*256^k<=256*256^k:=Nat.mul_le_mul_right _ h3;rw[Nat.add_mul] at h5;omega
theorem yT(V i k:Nat):V/256^(i+k)=V/256^i/256^k:=by rw[Nat.pow_add,Nat.div_div_eq_div_mul]
theorem uO(m n i k:Nat):uM m n i k/256=xY m n i (k+1):=by
 show _/256=_;unfold uM xY;rw[yT,Nat.pow_succ,Nat.mod_mul,Nat.mod_mul,<-Nat.div_div_eq_div_mul]
 congr 1
 generalize m/256^i%256=dd
 generalize qX m n i/256^i=A
 have e:A%256^k+256^k*(A/256^k%256)+dd*(n%256^k+256^k*(n/256^k%256))=(A%256^k+dd*(n%256^k))+256^k*(A/256^k%256+dd*(n/256^k%256)):=(by grind);rw[e,Nat.add_mul_div_left _ _ (gZ k)];omega
theorem Rw(m n i k:Nat):uM m n i k%256=qX m n (i+1)/256^(i+k)%256:=by
 show _%256=_;unfold uM xY;rw[yT,yT,NR,Nat.add_mul_div_left _ _ (gZ i)]
 generalize m/256^i%256=dd
 generalize qX m n i/256^i=A
 have e:A+dd*n=(A%256^k+dd*(n%256^k))+256^k*(A/256^k+dd*(n/256^k)):=by
  have h1:=Nat.mod_add_div A (256^k);have h2:=Nat.mod_add_div n (256^k)
  conv=>lhs;rw[<-h1,<-h2]
  grind
 conv=>rhs;rw[e]
 rw[Nat.add_mul_div_left _ _ (gZ k)]
 generalize(A%256^k+dd*(n%256^k))/256^k=c
 generalize A/256^k=p
 generalize n/256^k=q
 have e2:∀x y z w:Nat,(x+y%256+z*(w%256))%256=(x+(y+z*w))%256:=by
  intro x y z w;have h1:=Nat.mod_add_div y 256;have h2:=Nat.mod_add_div w 256;have:x+(y+z*w)=(x+y%256+z*(w%256))+256*(y/256+z*(w/256)):=by
   conv=>lhs;rw[<-h1,<-h2]
   grind
  rw[this,Nat.add_mul_mod_self_left]
 exact e2 c p dd q
theorem Wl(m n i k:Nat):EJ m n i k (i+k)=qX m n i/256^(i+k)%256:=by unfold EJ;rw[if_neg (by omega)]
theorem BF(m n i k j:Nat):EJ m n i (k+1) j=if j=i+k then uM m n i k%256 else EJ m n i k j:=by
 rw[Rw];unfold EJ
 by_cases e:j=i+k
 ·subst e;rw[if_pos (by omega),if_pos rfl]
 ·rw[if_neg e]
  by_cases c:j<i+k
  ·rw[if_pos c,if_pos (by omega)]
  ·rw[if_neg c,if_neg (by omega)]
def Yh(m n i j:Nat):EJ m n i 0 j=DI m n i j:=by
 unfold EJ DI
 split
 ·rename_i h
  rw[NR];have e0:256^i=256^j*(256*256^(i-j-1)):=by
   rw[<-Nat.mul_assoc,<-Nat.pow_succ,<-Nat.pow_add,show j+1+(i-j-1)=i by omega]
  have e:256^i*(m/256^i%256*n)=256^j*(256*(256^(i-j-1)*(m/256^i%256*n))):=by
   generalize m/256^i%256*n=r
   rw[e0,Nat.mul_assoc,Nat.mul_assoc]
  rw[e,Nat.add_mul_div_left _ _ (gZ j),Nat.add_mul_mod_self_left]
 ·rfl
theorem IX(m n i:Nat):qX m n i<256^(i+nb n):=by
 unfold qX;rw[Nat.pow_add];have h1:=Nat.mod_lt m (gZ i);have h2:=kK n
 calc m%256^i*n<=256^i*n:=Nat.mul_le_mul_right _ (by omega)
  _<256^i*256^nb n:=(Nat.mul_lt_mul_left (gZ i)).2 h2
theorem Yi(m n j:Nat):DI m n 0 j=0:=by simp[DI,qX,Nat.mod_one]
def qay(m n:Nat):val 256 (row (nb m+nb n+1) (DI m n (nb m)))=m*n:=by
 have e:qX m n (nb m)=m*n:=(by unfold qX;rw[Nat.mod_eq_of_lt (kK m)]);have h:=IX m n (nb m);rw[bG (g:=fun j=>m*n/256^j%256) (fun j hj=>by unfold DI;rw[e]),pW 256 (by decide),Nat.mod_eq_of_lt];rw[e] at h;exact Nat.lt_of_lt_of_le h (Nat.pow_le_pow_right (by decide) (by omega))
def Wn(m n i j:Nat):DI m n i j<256:=kN _
def J6(p q:Nat):p%256*(q%256)<=65025:=by
 have h1:p%256<=255:=(by omega);have h2:q%256<=255:=(by omega);exact Nat.mul_le_mul h1 h2
theorem BG(m n i:Nat){k:Nat}(hk:nb n<=k):uM m n i k=xY m n i k:=by
 unfold uM;have h1:256^(i+nb n)<=256^(i+k):=iy (by omega);rw[jC hk,Nat.div_eq_of_lt (Nat.lt_of_lt_of_le (IX m n i) h1)];simp
theorem qaz(m n i:Nat){k:Nat}(hk:nb n<=k):xY m n i (k+1)=0:=by
 rw[<-uO,BG m n i hk];have:=wI m n i k;omega
def qaA(m n i k:Nat)(h:0<xY m n i k):k<=nb n:=by
 rcases Nat.lt_or_ge (nb n) k with c|c
 ·obtain⟨q,rfl⟩:∃q,k=q+1:=⟨k-1,by omega⟩;rw[qaz m n i (by omega)] at h;omega
 ·exact c
def Yj(m n i k j:Nat)(hk:nb n<=k)(hc:xY m n i k=0):EJ m n i k j=DI m n (i+1) j:=by
 unfold EJ DI
 by_cases c:j<i+k
 ·rw[if_pos c]
 ·rw[if_neg c];have h1:256^(i+nb n)<=256^j:=iy (by omega);rw[Nat.div_eq_of_lt (Nat.lt_of_lt_of_le (IX m n i) h1)]
  by_cases e:j=i+k
  ·subst e;rw[<-Rw,BG m n i hk,hc]
  ·have h2:256^(i+1+nb n)<=256^j:=iy (by omega);rw[Nat.div_eq_of_lt (Nat.lt_of_lt_of_le (IX m n (i+1)) h2)]
theorem UO(m n:Nat):val 256 (row (nb m+nb n+1) (DI m n (nb m)))=m*n:=qay m n
theorem Rx(m n:Nat):ag 256 (val 256 (row (nb m+nb n+1) (DI m n (nb m))))=D8 (m*n):=by rw[UO];rfl
def qaB(m n:Nat):NV .i64 (D8 (m*n))=(NV .i64 (row (nb m+nb n+1) (DI m n (nb m)))).take (nb (m*n)):=by
 have:=xQ (B:=256) (by omega) (kU (n:=nb m+nb n+1) (fun j=>Wn m n (nb m) j));rw[Rx] at this;rw[Ej];congr 1;exact this.symm
def EK(m n i k:Nat):uM m n i k<131072:=by
 have h1:=wI m n i k;have h2:=kN (qX m n i/256^(i+k));have h3:=J6 (m/256^i) (n/256^k);unfold uM;omega
def Gj(a b p:Nat):Nat:=a/256^(p+1)%b*256+a/256^p%256
def qaC(a b p:Nat)(hb:0<b):a/256^p=b*(a/256^(p+1)/b*256)+Gj a b p:=by
 have h1:=wH a p;have h2:=Nat.div_add_mod (a/256^(p+1)) b;unfold Gj
 conv=>lhs;rw[h1,<-h2]
 rw[Nat.add_mul,Nat.mul_assoc,Nat.add_assoc]
def UQ(a b p:Nat)(hb:0<b):Gj a b p<256*b:=by
 unfold Gj;have h1:a/256^(p+1)%b+1<=b:=Nat.mod_lt _ hb;have h2:=kN (a/256^p);omega
theorem qd8(a b p:Nat)(hb:0<b):Gj a b p/b=a/b/256^p%256:=by
 have h1:=qaC a b p hb;have h2:Gj a b p/b<256:=(by rw[Nat.div_lt_iff_lt_mul hb];exact UQ a b p hb);have e:a/b/256^p=a/256^p/b:=(by rw[Nat.div_div_eq_div_mul,Nat.div_div_eq_div_mul,Nat.mul_comm]);rw[e,h1,Nat.mul_add_div hb,Nat.mul_comm _ 256,Nat.mul_add_mod,Nat.mod_eq_of_lt h2]
theorem qd9(a b p:Nat)(hb:0<b):Gj a b p%b=a/256^p%b:=by
 have h1:=qaC a b p hb
 conv=>rhs;rw[h1]
 rw[Nat.mul_add_mod]
def qea(R d:Nat)(hd:d<256):val 256 (d::D8 R)=R*256+d:=by
 show d+256*val 256 (D8 R)=_;unfold D8;rw[sG (by omega)];omega
def dq8{a b p q r:Nat}(hb:0<b)(h:q*b+r=Gj a b p)(hr:r<b):q=a/b/256^p%256∧r=a/256^p%b:=by
 rw[<-qd8 a b p hb,<-qd9 a b p hb,<-h,Nat.mul_comm q b];exact⟨by rw[Nat.mul_add_div hb,Nat.div_eq_of_lt hr];omega,by rw[Nat.mul_add_mod,Nat.mod_eq_of_lt hr]⟩
def qaD{a b p q r s:Nat}(hb:0<b)(h:q*b+r=Gj a b p)(hs:s*b<=r):q+s<256:=by
 have h1:=UQ a b p hb;have h2:(q+s)*b<256*b:=(by rw[Nat.add_mul];omega);exact Nat.lt_of_mul_lt_mul_right h2
def EL{a b p q r s:Nat}(h:q*b+r=Gj a b p)(hs:s*b<=r):(q+s)*b+(r-s*b)=Gj a b p:=by rw[Nat.add_mul];omega
def PD(a b p k:Nat):Nat:=if k<p then 0 else a/b/256^k%256
end Go.Via
namespace Go.Via
variable[Mo]
open Go Go.RowKit
theorem lu{m n:Nat}:0<=ng m n↔n<=m:=by
 unfold ng
 by_cases h1:m<n
 ·rw[if_pos h1];omega
 ·rw[if_neg h1]
  by_cases h2:n<m
  ·rw[if_pos h2];omega
  ·rw[if_neg h2];omega
def wJ{m n:Nat}:ng m n<=0↔m<=n:=by
 unfold ng
 by_cases h1:m<n
 ·rw[if_pos h1];omega
 ·rw[if_neg h1]
  by_cases h2:n<m
  ·rw[if_pos h2];omega
  ·rw[if_neg h2];omega
theorem EM{m n:Nat}:ng m n<0↔m<n:=by
 unfold ng
 by_cases h1:m<n
 ·rw[if_pos h1];omega
 ·rw[if_neg h1]
  by_cases h2:n<m
  ·rw[if_pos h2];omega
  ·rw[if_neg h2];omega
def qaE{a b:Nat}(x:SR (nb a)):(SR (nb (a/b))×SR (nb (a%b))) ⊕ PLift (a<b)->Value
 | .inl z=> .tuple #[z.1.v,z.2.v]
 | .inr _=> .tuple #[.slice none 0 0,x.v]
def PE{a b:Nat}:(SR (nb (a/b))×SR (nb (a%b))) ⊕ PLift (a<b)->List aG
 | .inl z=>[⟨z.1.b,3,NV .i64 (D8 (a/b)),z.1.n,true⟩,⟨z.2.b,3,NV .i64 (D8 (a%b)),z.2.n,true⟩]
 | .inr _=>[]
def rH{B:Bs}{X:Act->World->Prop}{nt:Nat}{t:List (Nat×Value)}{L:List aG}{b:aG}(k:Nat)(hk:L[k]? =some b)(h:(b.base=none->b.cs=[])->At B ⟨nt,t,L⟩ X):At B ⟨nt,t,L⟩ X:=
 fun a w hr=>h (fun hb=>((hr.mem.blk k b hk).2 hb).1) a w hr
def qaF{P:Program}{bl:List Nat}{ops:Array Oper}{K:St->Prop}{rest:List Oper}{nt:Nat}{t:List (Nat×Value)}{L:List aG}{d:Nat}{ty:TypeId}{pos:String}{af:Array Edge}{g:Option (Nat×Bool)}{x y:Operand}
 {T e:Nat}{z:Value}{gx:Nat}{d0 R:Nat}{ob:Option Nat}{oN oc:Nat}{o2:Bool}(k k2:Nat)(mk:Option Nat->Nat->List aG)(hT:P.underlying T=some (.slice e))(hi:LM P e 1 z)(hd:Nat.blt d nt=true)
 (hg:ax ops ⟨some d,.call {callee:= .builtin .append,args:= #[x,y],argTypes:= #[T,T]},ty,pos,af,g⟩ t=some true)
 (hk:L[k]? =some ⟨some gx,e,[.int .i64 (d0:Nat)],1,true⟩)(hx:ev t x=some (az (some gx) 0 1 1))(hk2:L[k2]? =some ⟨ob,3,NV .i64 (D8 R),oN,o2⟩)(hb:ob=none->NV .i64 (D8 R)=[])(hy:ev t y=some (az ob 0 (nb R) oc))
 (hzs:z.cells.size=1)(hmax:nb R<=1073741824)(hL:∀b n,L.set k ⟨b,e,NV .i64 (d0::D8 R),n,true⟩=mk b n)
 (h:∀r:SR (nb R+1),aW P bl ops rest ⟨nt,(d,r.v)::t,mk r.b r.n⟩ K):
 aW P bl ops (⟨some d,.call {callee:= .builtin .append,args:= #[x,y],argTypes:= #[T,T]},ty,pos,af,g⟩::rest) ⟨nt,t,L⟩ K:=by
 by_cases h0:nb R=0
 ·have hD:D8 R=[]:=List.eq_nil_of_length_eq_zero (by rw[bY];exact h0);have:=h ⟨some gx,1,1,by omega⟩;rw[<-hL] at this;unfold SR.v at this;simp only[h0,hD] at this;have e1:L.set k ⟨some gx,e,NV .i64 [d0],1,true⟩=L:=by
   obtain⟨hlt,he⟩:=List.getElem?_eq_some_iff.1 hk;exact(congrArg (L.set k) he.symm).trans (List.set_getElem_self hlt)
  rw[e1] at this;obtain⟨inf,i1,i2,i3,i5⟩:=zJ hi;rw[h0] at hy;exact XB hT i1 hd hg hx (Nat.le_refl 1) hy this
 ·obtain⟨g2,rfl⟩:∃g2,ob=some g2:=by
   cases ob with
   |none=>
    have:=congrArg List.length (hb rfl);rw[aA,bY] at this;exact absurd this h0
   |some g2=>exact⟨g2,rfl⟩
  refine fH (s:=1) (len:=1) (n2:=nb R) k k2 (fun r=>mk (some r.g) r.n) hT hi hd hg hk rfl rfl hx hk2 rfl hy rfl hzs (by simpa using(by omega:0<nb R)) rfl (Nat.le_refl _) (Nat.le_refl _) (by rw[aA,bY];omega) (FT _ _) (by omega) (fun r=>?_) (fun r=>?_)
  ·rw[<-hL];rfl
  ·have h1:=h ⟨some r.g,r.n,r.cap,by have:=r.h;omega⟩;unfold SR.v at h1;have e:az (some r.g) 0 (1+nb R) r.cap=az (some r.g) 0 (nb R+1) r.cap:=congrArg (fun n=>az (some r.g) 0 n r.cap) (Nat.add_comm 1 (nb R));rw[e];exact h1
theorem Wp(a b q:Nat):val 256 (a/256^q%256::D8 (a/256^(q+1)%b))=Gj a b q:=qea _ _ (kN _)
def BH(a b q:Nat):∀d∈a/256^q%256::D8 (a/256^(q+1)%b),d<256:=fun d hd=>by
 rcases List.mem_cons.1 hd with rfl|hd
 ·exact kN _
 ·exact qfN _ d hd
theorem J7(a b q:Nat):(ag 256 (val 256 (a/256^q%256::D8 (a/256^(q+1)%b)))).length=nb (Gj a b q):=by rw[Wp];rfl
def qaG(a b q:Nat):nb (Gj a b q)<=nb (a/256^(q+1)%b)+1:=by
 rw[<-J7];exact Nat.le_trans (jG (by decide) (FX (by decide) (BH a b q))) (by simp[bY])
def Ry(a b q:Nat):NV .i64 (D8 (Gj a b q))=(NV .i64 (a/256^q%256::D8 (a/256^(q+1)%b))).take (nb (Gj a b q)):=by
 have:=xQ (B:=256) (by omega) (BH a b q);rw[Wp] at this;rw[Ej];congr 1;exact this.symm
theorem IY(a b:Nat):a/256^nb a%b=0:=by rw[Nat.div_eq_of_lt (kK a),Nat.zero_mod]
def Wq(a b:Nat):NV .i64 (D8 (a/256^nb a%b))=[]:=by
 rw[IY];have:D8 0=[]:=List.eq_nil_of_length_eq_zero (by rw[bY,kS]);rw[this];rfl
def Rz(a b:Nat):Value.slice none 0 0=az none 0 (nb (a/256^nb a%b)) 0:=by rw[IY,kS];rfl
def RD(a b q m k:Nat):Nat:=if k=q then m else PD a b (q+1) k
theorem Gl(a b q m:Nat):RD a b q m q=m:=by simp[RD]
def RF(a b q k:Nat):RD a b q 0 k=PD a b (q+1) k:=by
 unfold RD
 split
 ·rename_i h;subst h;simp[PD]
 ·rfl
theorem EN(a b q m m' k:Nat):RD a b q m' k=if k=q then m' else RD a b q m k:=by
 unfold RD;split<;>rfl
def Ws(a b q k:Nat):RD a b q (a/b/256^q%256) k=PD a b q k:=by
 unfold RD PD
 by_cases h:k=q
 ·subst h;simp
 ·rw[if_neg h]
  by_cases c:k<q
  ·rw[if_pos c,if_pos (by omega)]
  ·rw[if_neg c,if_neg (by omega)]
theorem Wu(a b:Nat){k:Nat}(h:k<nb a):PD a b (nb a) k=0:=by unfold PD;rw[if_pos h]
def UR(a b p k:Nat):PD a b p k<256:=by unfold PD;split<;>omega
theorem qeb(a b:Nat):val 256 (row (nb a) (PD a b 0))=a/b:=by
 have h:a/b<256^nb a:=Nat.lt_of_le_of_lt (Nat.div_le_self _ _) (kK a);rw[bG (g:=fun j=>a/b/256^j%256) (fun j hj=>by unfold PD;rw[if_neg (by omega)]),pW 256 (by decide),Nat.mod_eq_of_lt h]
theorem J8(a b:Nat):ag 256 (val 256 (row (nb a) (PD a b 0)))=D8 (a/b):=by rw[qeb];rfl
def RG(a b:Nat):NV .i64 (D8 (a/b))=(NV .i64 (row (nb a) (PD a b 0))).take (nb (a/b)):=by
 have:=xQ (B:=256) (by omega) (kU (n:=nb a) (fun j=>UR a b 0 j));rw[J8] at this;rw[Ej];congr 1;exact this.symm
def qaH{r b:Nat}(h:r<256*b):nb r<=nb b+1:=nY (by
 have:=kK b;rw[Nat.pow_succ];omega)
def Wv{a b p m r:Nat}(hb:0<b)(h:m*b+r=Gj a b p):nb r<=nb b+1:=qaH (by have:=UQ a b p hb;have:=Nat.zero_le (m*b);omega)
end Go.Via
namespace Go.Via
theorem PG:NV .i64 (D8 0)=[]:=by
 have:D8 0=[]:=List.eq_nil_of_length_eq_zero (by rw[bY,kS]);rw[this];rfl
end Go.Via
namespace Go.Via
variable[Mo]
open Go Go.RowKit
structure FS(bs:List (Option Nat))(len:Nat) where
 z:SR len
 o:Bool
 ho:o=true∨z.b∈bs
def J9{a b:Nat}(z:(SR (nb (a/b))×SR (nb (a%b))) ⊕ PLift (a<b)):∀c∈PE z,c.own=true:=by
 intro c hc;cases z with
 |inl z=>
  simp only[PE,List.mem_cons,List.mem_nil_iff,or_false] at hc;rcases hc with rfl|rfl<;>rfl
 |inr h=>cases hc
def qg7{B:Bs}{w:World}{L:List aG}{x y:aG}{c:aG}{o:Bool}{bb:Option Nat}(h:bf B L w)(k:Nat){b:aG}(hk:L[k]? =some b)(hb:b.base=bb)(hoo:b.own=o)(ho:o=true∨bb∈[x.base,y.base])(hc:c.base=bb):∀g,c.base=some g->B.own g∨∃b0∈[x,y],b0.base=some g:=by
 intro g hg;rcases ho with h1|h1
 ·exact .inl (OU h k hk (by rw[hoo];exact h1) g (by rw[hb,<-hc];exact hg))
 ·rw[hc] at hg;subst hg;simp only[List.mem_cons,List.mem_nil_iff,or_false] at h1;rcases h1 with h1|h1
  ·exact .inr ⟨x,by simp,h1.symm⟩
  ·exact .inr ⟨y,by simp,h1.symm⟩
def Yk{m n a b:Nat}(h:Nat.gcd m n=Nat.gcd a b):Nat.gcd n (m%n)=Nat.gcd a b:=by
 rw[<-h,Nat.gcd_comm m n,Nat.gcd_rec n m,Nat.gcd_comm (m%n) n]
def Wx{P:Program}{f a b:Nat}{x:SR (nb a)}{L0:List aG}{args:List Value}(hx:∀g,x.b=some g->∃b0∈L0,b0.base=some g)(hL0:L0[0]? =some ⟨x.b,3,NV .i64 (D8 a),x.n,false⟩)(h:dh P f L0 args ((SR (nb (a/b))×SR (nb (a%b))) ⊕ PLift (a<b)) (qaE x) PE):
 FU P f L0 args (SR (nb (a/b))×SR (nb (a%b))) (fun z=> .tuple #[z.1.v,z.2.v]) (fun z=>[⟨z.1.b,3,NV .i64 (D8 (a/b)),z.1.n,false⟩,⟨z.2.b,3,NV .i64 (D8 (a%b)),z.2.n,false⟩]):=by
 refine⟨h.1,fun w hL=>(h.2 w hL).mono ?_⟩
 rintro e w' ⟨z,rfl,hz⟩;cases z with
 |inl z=>
  refine⟨z,rfl,hz.un,fun c hc g hg=> .inl ?_⟩
  simp only[List.mem_cons,List.mem_nil_iff,or_false] at hc;rcases hc with rfl|rfl
  ·exact Ea (OU hz 0 rfl rfl g hg)
  ·exact Ea (OU hz 1 rfl rfl g hg)
 |inr hlt=>
  have hlt:=hlt.down;refine⟨(⟨none,0,0,by rw[Nat.div_eq_of_lt hlt,kS];exact Nat.le_refl _⟩,⟨x.b,x.n,x.cap,by rw[Nat.mod_eq_of_lt hlt];exact x.h⟩),?_,?_,fun c hc g hg=>?_⟩
  ·show Ending.returned (.tuple #[Value.slice none 0 0,az x.b 0 (nb a) x.cap])=Ending.returned (.tuple #[az none 0 (nb (a/b)) 0,az x.b 0 (nb (a%b)) x.cap]);rw[Nat.div_eq_of_lt hlt,Nat.mod_eq_of_lt hlt,kS];rfl
  ·refine(hL.same (hz:bf w [] w').below).picks [none,some 0] ⟨⟨rfl,by show NV .i64 (D8 (a/b))=[];rw[Nat.div_eq_of_lt hlt];exact PG,rfl⟩,⟨_,hL0,aI (by show(⟨x.b,3,NV .i64 (D8 (a%b)),x.n,false⟩:aG)=⟨x.b,3,NV .i64 (D8 a),x.n,false⟩;rw[Nat.mod_eq_of_lt hlt])⟩,trivial⟩ rfl rfl
  ·simp only[List.mem_cons,List.mem_nil_iff,or_false] at hc;rcases hc with rfl|rfl
   ·cases hg
   ·exact .inr (hx g hg)
end Go.Via
namespace Go.Via
open Go Go.RowKit
def dz(q:Rat):Int:=if q.den=1 then 0 else q.den
def qi7(q:Rat):Value.agg #[.bool false,.string (dm q)]=I (dz q):=by
 unfold dz dm I
 by_cases h:q.den=1
 ·simp only[if_pos h];rw[show(0:Int).natAbs=0 from rfl,je];rfl
 ·simp only[if_neg h,Int.natAbs_natCast];rw[show decide (((q.den:Nat):Int)<0)=false from decide_eq_false (by omega)]
theorem qg:nb 1=1:=by have h1:=nY (n:=1) (k:=1) (by omega);have h2:=Dw (u:=1) (by omega);omega
def qkZ{q:Rat}(h:((nb (dz q).natAbs:Nat):Int)=0):q.den=1:=by
 unfold dz at h
 by_cases e:q.den=1
 ·exact e
 ·rw[if_neg e,Int.natAbs_natCast] at h;have:=Dw (u:=q.den) (by have:=q.den_nz;omega);omega
def qk0{q:Rat}(h:¬((nb (dz q).natAbs:Nat):Int)=0):(dz q).natAbs=q.den:=by
 unfold dz at*
 by_cases e:q.den=1
 ·rw[if_pos e] at h;exact absurd (by rw[show(0:Int).natAbs=0 from rfl,kS];rfl) h
 ·rw[if_neg e,Int.natAbs_natCast]
def qi8(q:Rat):jH (dz q)<=dw q:=by
 unfold dz jH dw
 split
 ·rw[show(0:Int).natAbs=0 from rfl,kS];omega
 ·rw[Int.natAbs_natCast];omega
theorem UT:D8 1=[1]:=by
 have h:=J4 1;rw[qg] at h;rw[<-h];simp[row,qE]
def sg(neg:Bool)(n:Nat):Int:=if neg=true then-(n:Int) else(n:Int)
theorem Yl(neg:Bool)(n:Nat):(sg neg n).natAbs=n:=by unfold sg;split<;>simp
theorem PH(neg:Bool)(n d:Nat):Int.gcd (sg neg n) d=Nat.gcd n d:=by rw[Int.gcd,Yl,Int.natAbs_natCast]
theorem qaI(neg:Bool)(n d:Nat):sg neg n/(Int.gcd (sg neg n) d:Int)=sg neg (n/Nat.gcd n d):=by
 rw[PH];unfold sg
 split
 ·rw[Int.neg_ediv_of_dvd (Int.natCast_dvd_natCast.2 (Nat.gcd_dvd_left n d))];rfl
 ·rfl
def qaJ{n d:Nat}(neg:Bool)(hd:0<d)(h1:d/Nat.gcd n d=1):Value.agg #[.bool (decide (sg neg (n/Nat.gcd n d)<0)),.string (bQ (sg neg (n/Nat.gcd n d)).natAbs),aX,aY]=Q (Rat.divInt (sg neg n) d):=by
 have:=O0 (n:=sg neg n) (d:=d) (by omega) (by rw[PH];exact_mod_cast h1);rw[qaI] at this;exact this
def RH{n d:Nat}(neg:Bool)(hd:0<d)(h1:d/Nat.gcd n d≠1):Value.agg #[.bool (decide (sg neg (n/Nat.gcd n d)<0)),.string (bQ (sg neg (n/Nat.gcd n d)).natAbs),.bool (decide (((d/Nat.gcd n d:Nat):Int)<0)),.string (bQ (((d/Nat.gcd n d:Nat):Int)).natAbs)]=Q (Rat.divInt (sg neg n) d):=by
 have:=O1 (n:=sg neg n) (d:=d) (by omega) (by rw[PH];exact_mod_cast h1);rw[qaI,PH] at this;exact this
theorem Wy{m:Nat}(h:nb m=1):m/256^0%256=m:=by
 have:=kK m;rw[h] at this;rw[Nat.pow_zero,Nat.div_one,Nat.mod_eq_of_lt (by omega)]
def Me{m:Nat}(h:¬((nb m:Nat):Int)=1):m≠1:=fun e=>h (by rw[e,qg];rfl)
def qec(n d:Int)(h:d≠0):Rat.divInt (sg (decide (n<0) !=decide (d<0)) n.natAbs) (d.natAbs:Int)=Rat.divInt n d:=by
 unfold sg
 by_cases hd:d<0
 ·have e:(d.natAbs:Int)= -d:=by omega
  rw[e]
  by_cases hn:n<0
  ·rw[decide_eq_true hd,decide_eq_true hn];simp only[bne_self_eq_false,Bool.false_eq_true,if_false];rw[show(n.natAbs:Int)= -n by omega,Rat.neg_divInt_neg]
  ·rw[decide_eq_true hd,decide_eq_false hn];simp only[Bool.bne_true,Bool.not_false,if_true];rw[show(n.natAbs:Int)=n by omega,Rat.neg_divInt_neg]
 ·have e:(d.natAbs:Int)=d:=by omega
  rw[e]
  by_cases hn:n<0
  ·rw[decide_eq_false hd,decide_eq_true hn];simp only[Bool.bne_false,if_true];rw[show-(n.natAbs:Int)=n by omega]
  ·rw[decide_eq_false hd,decide_eq_false hn];simp only[bne_self_eq_false,Bool.false_eq_true,if_false];rw[show(n.natAbs:Int)=n by omega]
def qg8(p q:Rat):Rat.divInt (sg (decide (p.num<0) !=decide (q.num<0)) (p.num.natAbs*q.num.natAbs)) ((p.den*q.den:Nat):Int)=p*q:=by
 rw[<-JE p q,<-VK p.num q.num];unfold sg;rw[Int.natCast_mul,Int.natCast_mul]
theorem lI(a:Int)(d:Nat)(h:d≠0):decide (a*(d:Int)<0)=decide (a<0):=by
 refine decide_eq_decide.2 ⟨fun h2=>?_,fun h2=>Int.mul_neg_of_neg_of_pos h2 (by omega)⟩
 refine Int.not_le.1 fun h3=>?_
 have:=Int.mul_nonneg h3 (show(0:Int)<=d by omega);omega
theorem Am(p q:Rat):Rat.divInt (p.num*q.den+q.num*p.den) ((p.den*q.den:Nat):Int)=p+q:=by
 have h1:(p.den:Int)≠0:=zY p;have h2:(q.den:Int)≠0:=zY q
 conv=>rhs;rw[<-Rat.num_divInt_den p,<-Rat.num_divInt_den q]
 rw[Rat.divInt_add_divInt _ _ h1 h2,Int.natCast_mul]
def qed(p q:Rat)(h:(decide (p.num<0)==decide (q.num<0))=true):Rat.divInt (sg (decide (p.num<0)) (p.num.natAbs*q.den+q.num.natAbs*p.den)) ((p.den*q.den:Nat):Int)=p+q:=by
 rw[<-Am p q]
 congr 1
 have h1:=QT (p.num*q.den) (q.num*p.den) (by rw[lI _ _ q.den_nz,lI _ _ p.den_nz];exact h);rw[lI _ _ q.den_nz,Int.natAbs_mul,Int.natAbs_mul,Int.natAbs_natCast,Int.natAbs_natCast] at h1;exact h1
def qee(p q:Rat)(h:(decide (p.num<0)==decide (q.num<0))=false)(hle:q.num.natAbs*p.den<=p.num.natAbs*q.den):Rat.divInt (sg (decide (p.num<0)) (p.num.natAbs*q.den-q.num.natAbs*p.den)) ((p.den*q.den:Nat):Int)=p+q:=by
 rw[<-Am p q]
 congr 1
 have h1:=Na (p.num*q.den) (q.num*p.den) (by rw[lI _ _ q.den_nz,lI _ _ p.den_nz];exact h) (by rw[Int.natAbs_mul,Int.natAbs_mul,Int.natAbs_natCast,Int.natAbs_natCast];exact hle);rw[lI _ _ q.den_nz,Int.natAbs_mul,Int.natAbs_mul,Int.natAbs_natCast,Int.natAbs_natCast] at h1;exact h1
def qef(p q:Rat)(h:(decide (p.num<0)==decide (q.num<0))=false)(hle:p.num.natAbs*q.den<=q.num.natAbs*p.den):Rat.divInt (sg (decide (q.num<0)) (q.num.natAbs*p.den-p.num.natAbs*q.den)) ((p.den*q.den:Nat):Int)=p+q:=by
 rw[<-Am p q]
 congr 1
 have h1:=Nb (p.num*q.den) (q.num*p.den) (by rw[lI _ _ q.den_nz,lI _ _ p.den_nz];exact h) (by rw[Int.natAbs_mul,Int.natAbs_mul,Int.natAbs_natCast,Int.natAbs_natCast];exact hle);rw[lI _ _ p.den_nz,Int.natAbs_mul,Int.natAbs_mul,Int.natAbs_natCast,Int.natAbs_natCast] at h1;exact h1
def RI{q:Rat}(h:q<0):q.num<0:=by
 refine Int.not_le.1 fun h1=>?_
 have:=Rat.num_nonneg.1 h1
 grind
def RJ{q:Rat}(h:0<q):0<q.num:=by
 have h1:=Rat.num_nonneg.2 (show 0<=q by grind);have h2:q.num≠0:=fun e=>by have:=Rat.num_eq_zero.1 e;grind
 omega
def RN(p q:Rat):(p-q).num.sign=oC p q:=by
 unfold oC
 by_cases h:p<q
 ·rw[if_pos h];have:p-q<0:=by grind
  exact Int.sign_eq_neg_one_of_neg (RI this)
 ·rw[if_neg h]
  by_cases h2:q<p
  ·rw[if_pos h2];have:0<p-q:=by grind
   exact Int.sign_eq_one_of_pos (RJ this)
  ·rw[if_neg h2];have:p-q=0:=by grind
   rw[this];rfl
end Go.Via
namespace Go.Via
def nn(R u v:Rat):Prop:=(0<=u∧v*v*R<=u*u)∨(0<=v∧u*u<=v*v*R)
def qi9(x:Rat):0<=x*x:=by
 by_cases h:0<=x
 ·exact Rat.mul_nonneg h h
 ·have h1:0<= -x:=by grind
  have:=Rat.mul_nonneg h1 h1;have e: -x* -x=x*x:=by grind
  rwa [e] at this
end Go.Via
namespace Go.Via
open Go
structure Rl where
 p:Rat
 r:Rat
 n:Bool
deriving DecidableEq
def dJ(q:Rat):Int:=q.num.sign
def uw(a b r:Rat):Int:=if dJ b*dJ r=0∨dJ a=dJ b*dJ r then dJ a else if dJ a=0 then dJ b*dJ r else dJ a*oC (a*a) (b*b*r)
def oV(x:Rl):Rat:=if x.n=true then-1 else 1
def bW(x y:Rl):Int:=
 if dJ (-oV y)*dJ y.r=0∨uw (x.p-y.p) (oV x) x.r=dJ (-oV y)*dJ y.r then uw (x.p-y.p) (oV x) x.r
 else if uw (x.p-y.p) (oV x) x.r=0 then dJ (-oV y)*dJ y.r
 else uw (x.p-y.p) (oV x) x.r*uw ((x.p-y.p)*(x.p-y.p)+x.r-y.r) (2*((x.p-y.p)*oV x)) x.r
def rl(q:Rat):Rl:=⟨q,0,false⟩
theorem PI{q:Rat}(h:0<q):dJ q=1:=by unfold dJ;exact Int.sign_eq_one_of_pos (RJ h)
theorem PK{q:Rat}(h:q<0):dJ q= -1:=by unfold dJ;exact Int.sign_eq_neg_one_of_neg (RI h)
theorem EO:dJ 0=0:=rfl
def jD(q:Rat):(0<q∧dJ q=1)∨(q<0∧dJ q= -1)∨(q=0∧dJ q=0):=by
 by_cases h:0<q
 ·exact .inl ⟨h,PI h⟩
 ·by_cases h1:q<0
  ·exact .inr (.inl ⟨h1,PK h1⟩)
  ·have:q=0:=by grind
   exact .inr (.inr ⟨this,by rw[this];rfl⟩)
def xZ(p q:Rat):(p<q∧oC p q= -1)∨(q<p∧oC p q=1)∨(p=q∧oC p q=0):=by
 unfold oC
 by_cases h:p<q
 ·exact .inl ⟨h,if_pos h⟩
 ·by_cases h1:q<p
  ·exact .inr (.inl ⟨h1,by rw[if_neg h,if_pos h1]⟩)
  ·exact .inr (.inr ⟨by grind,by rw[if_neg h,if_neg h1]⟩)
theorem qeg(p q:Rat):dJ (p-q)=oC p q:=RN p q
theorem qaK(q:Rat):dJ (-q)= -dJ q:=by unfold dJ;rw[Rat.neg_num];exact Int.sign_neg _
theorem qg9(a b:Rat):uw a b 0=dJ a:=by unfold uw;rw[EO,Int.mul_zero,if_pos (.inl rfl)]
def qeh(x:Rl):dJ (oV x)=if x.n=true then-1 else 1:=by unfold oV;split<;>rfl
def qaL(x:Rl):oV x*oV x=1:=by unfold oV;split<;>grind
theorem qaM(x:Rl)(q:Rat):bW x (rl q)=uw (x.p-q) (oV x) x.r:=by
 unfold bW rl;dsimp only;rw[EO,Int.mul_zero,if_pos (.inl rfl)]
theorem PL(p q:Rat):bW (rl p) (rl q)=oC p q:=by
 rw[qaM];unfold rl;dsimp only;rw[qg9,qeg]
def uP(x y:Rl):bW x y= -1∨bW x y=0∨bW x y=1:=by
 have hs:∀q,dJ q= -1∨dJ q=0∨dJ q=1:=fun q=>by rcases jD q with h|h|h<;>simp[h.2]
 have hm:∀{a b:Int},(a= -1∨a=0∨a=1)->(b= -1∨b=0∨b=1)->(a*b= -1∨a*b=0∨a*b=1):=fun h h'=>by
  rcases h with h|h|h<;>rcases h' with h'|h'|h'<;>simp[h,h']
 have hq:∀p q,oC p q= -1∨oC p q=0∨oC p q=1:=fun p q=>by rcases xZ p q with h|h|h<;>simp[h.2]
 have h1:∀a b r,uw a b r= -1∨uw a b r=0∨uw a b r=1:=fun a b r=>by
  unfold uw;split
  ·exact hs _
  ·split
   ·exact hm (hs _) (hs _)
   ·exact hm (hs _) (hq _ _)
 unfold bW;split
 ·exact h1 _ _ _
 ·split
  ·exact hm (hs _) (hs _)
  ·exact hm (h1 _ _ _) (h1 _ _ _)
end Go.Via
namespace Go.Via
section
variable{α:Type}{κ:α->Int}
def iP(g:α->Bool):Option α->List α->List (α×α)
 |_,[]=>[]
 |none,c::cs=>if g c=true then iP g (some c) cs else iP g none cs
 |some f,c::cs=>if g c=true then iP g (some f) cs else(f,c)::iP g none cs
theorem oW{g h:α->Bool}:∀{C:List α} {st:Option α},(∀c∈C,g c=h c)->iP g st C=iP h st C
 |[],none,_=>rfl
 |[],some _,_=>rfl
 |c::cs,none,H=>by
  unfold iP;rw[H c (List.mem_cons_self ..),oW (fun x hx=>H x (List.mem_cons_of_mem _ hx)),oW (C:=cs) (st:=none) (fun x hx=>H x (List.mem_cons_of_mem _ hx))]
 |c::cs,some f,H=>by
  unfold iP;rw[H c (List.mem_cons_self ..),oW (fun x hx=>H x (List.mem_cons_of_mem _ hx)),oW (C:=cs) (st:=none) (fun x hx=>H x (List.mem_cons_of_mem _ hx))]
def Chk(g:α->Bool)(p:α->Bool):Bool->List α->Prop
 |_,[]=>True
 |s,c::cs=>(p c=true∨g c=s)∧Chk g p (g c) cs
theorem pI{g p:α->Bool}:∀{C:List α} {st:Option α},Chk g p st.isSome C->iP g st C=iP g st (C.filter p)
 |[],none,_=>rfl
 |[],some _,_=>rfl
 |c::cs,none,H=>by
  obtain⟨h1,h2⟩:=H;cases hp:p c
  ·rw[List.filter_cons_of_neg (by rw[hp];decide)];have h3:g c=false:=by rcases h1 with h|h;rw[hp] at h;cases h;exact h
   rw[h3] at h2;unfold iP;rw[h3,if_neg (by decide),pI (st:=none) h2];cases cs.filter p<;>rfl
  ·rw[List.filter_cons_of_pos hp];unfold iP;cases hg:g c
   ·rw[hg] at h2;rw[if_neg (by decide),if_neg (by decide),pI (st:=none) h2]
   ·rw[hg] at h2;rw[if_pos rfl,if_pos rfl,pI (st:=some c) h2]
 |c::cs,some f,H=>by
  obtain⟨h1,h2⟩:=H;cases hp:p c
  ·rw[List.filter_cons_of_neg (by rw[hp];decide)];have h3:g c=true:=by rcases h1 with h|h;rw[hp] at h;cases h;exact h
   rw[h3] at h2;unfold iP;rw[h3,if_pos rfl,pI (st:=some f) h2];cases cs.filter p<;>rfl
  ·rw[List.filter_cons_of_pos hp];unfold iP;cases hg:g c
   ·rw[hg] at h2;rw[if_neg (by decide),if_neg (by decide),pI (st:=none) h2]
   ·rw[hg] at h2;rw[if_pos rfl,if_pos rfl,pI (st:=some f) h2]
def yU:∀{C D:List α},C.Pairwise (fun a b=>κ a<κ b)->D.Pairwise (fun a b=>κ a<κ b)->(∀x,x∈C↔x∈D)->C=D
 |[],[],_,_,_=>rfl
 |[],d::D,_,_,H=>absurd ((H d).2 (List.mem_cons_self ..)) (by simp)
 |c::C,[],_,_,H=>absurd ((H c).1 (List.mem_cons_self ..)) (by simp)
 |c::C,d::D,h1,h2,H=>by
  obtain⟨a1,a2⟩:=List.pairwise_cons.1 h1;obtain⟨b1,b2⟩:=List.pairwise_cons.1 h2;have e:c=d:=by
   have m1:=(H c).1 (List.mem_cons_self ..);have m2:=(H d).2 (List.mem_cons_self ..);rcases List.mem_cons.1 m1 with h|h
   ·exact h
   ·rcases List.mem_cons.1 m2 with h'|h'
    ·exact h'.symm
    ·have:=a1 d h';have:=b1 c h;omega
  subst e;refine congrArg (c:: ·) (yU a2 b2 fun x=>?_)
  constructor
  ·intro hx;rcases List.mem_cons.1 ((H x).1 (List.mem_cons_of_mem _ hx)) with h|h
   ·subst h;have:=a1 x hx;omega
   ·exact h
  ·intro hx;rcases List.mem_cons.1 ((H x).2 (List.mem_cons_of_mem _ hx)) with h|h
   ·subst h;have:=b1 x hx;omega
   ·exact h
def wK(κ:α->Int):List α->List α
 |[]=>[]
 |[x]=>[x]
 |x::y::l=>if κ x=κ y then wK κ (y::l) else x::wK κ (y::l)
def x8:∀{l:List α} {x:α},x∈wK κ l->x∈l
 |[],_,h=>h
 |[_],_,h=>h
 |x::y::l,z,h=>by
  unfold wK at h
  split at h
  ·exact List.mem_cons_of_mem _ (x8 h)
  ·rcases List.mem_cons.1 h with h|h
   ·subst h;exact List.mem_cons_self ..
   ·exact List.mem_cons_of_mem _ (x8 h)
def Gn:∀{l:List α},l.Pairwise (fun a b=>κ a<=κ b)->(wK κ l).Pairwise (fun a b=>κ a<κ b)
 |[],_=>List.Pairwise.nil
 |[x],_=>List.pairwise_singleton ..
 |x::y::l,h=>by
  obtain⟨h1,h2⟩:=List.pairwise_cons.1 h;obtain⟨h3,_⟩:=List.pairwise_cons.1 h2;unfold wK
  split
  ·exact Gn h2
  ·rename_i hne
   refine List.pairwise_cons.2 ⟨fun z hz=>?_,Gn h2⟩;have hz':=x8 hz;have:=h1 y (List.mem_cons_self ..);rcases List.mem_cons.1 hz' with e|e
   ·subst e;omega
   ·have:=h3 z e;omega
def BI:∀{l:List α} {x:α},(∀a∈l,∀b∈l,κ a=κ b->a=b)->x∈l->x∈wK κ l
 |[],_,_,h=>h
 |[_],_,_,h=>h
 |x::y::l,z,H,h=>by
  have H':∀a∈y::l,∀b∈y::l,κ a=κ b->a=b:=fun a ha b hb=>H a (List.mem_cons_of_mem _ ha) b (List.mem_cons_of_mem _ hb)
  unfold wK
  split
  ·rename_i he
   rcases List.mem_cons.1 h with e|e
   ·subst e;have:=H z (List.mem_cons_self ..) y (List.mem_cons_of_mem _ (List.mem_cons_self ..)) he;subst this;exact BI H' (List.mem_cons_self ..)
   ·exact BI H' e
  ·rcases List.mem_cons.1 h with e|e
   ·subst e;exact List.mem_cons_self ..
   ·exact List.mem_cons_of_mem _ (BI H' e)
def qF(κ:α->Int)(c:Int):List (α×Int×Int)->Int
 |[]=>0
 |e::l=>(if κ e.1<=c then e.2.1 else 0)+qF κ c l
def qG(κ:α->Int)(c:Int):List (α×Int×Int)->Int
 |[]=>0
 |e::l=>(if κ e.1<=c then e.2.2 else 0)+qG κ c l
def LJ(κ:α->Int)(keep:Bool->Bool->Bool):List (α×Int×Int)->Int->Int->Option α->List (α×α)
 |[],_,_,_=>[]
 |[x],m,n,st=>
  match st,keep (decide (0<m+x.2.1)) (decide (0<n+x.2.2)) with
  |some f,false=>[(f,x.1)]
  |_,_=>[]
 |x::y::l,m,n,st=>
  if κ x.1=κ y.1 then LJ κ keep (y::l) (m+x.2.1) (n+x.2.2) st else
  match st,keep (decide (0<m+x.2.1)) (decide (0<n+x.2.2)) with
  |none,true=>LJ κ keep (y::l) (m+x.2.1) (n+x.2.2) (some x.1)
  |some f,false=>(f,x.1)::LJ κ keep (y::l) (m+x.2.1) (n+x.2.2) none
  |st,_=>LJ κ keep (y::l) (m+x.2.1) (n+x.2.2) st
def NS{c:Int}:∀{l:List (α×Int×Int)},(∀e∈l,c<κ e.1)->qF κ c l=0∧qG κ c l=0
 |[],_=>⟨rfl,rfl⟩
 |e::l,h=>by
  have h1:=h e (List.mem_cons_self ..);obtain⟨a,b⟩:=NS (l:=l) fun x hx=>h x (List.mem_cons_of_mem _ hx)
  unfold qF qG;rw[if_neg (by omega),if_neg (by omega),a,b];exact⟨rfl,rfl⟩
theorem RP{keep:Bool->Bool->Bool}:∀{l:List (α×Int×Int)} {m n:Int} {st:Option α},l.Pairwise (fun a b=>κ a.1<=κ b.1)->
 LJ κ keep l m n st=iP (fun c=>keep (decide (0<m+qF κ (κ c) l)) (decide (0<n+qG κ (κ c) l))) st (wK κ (l.map (·.1)))
 |[],m,n,none,_=>rfl
 |[],m,n,some _,_=>rfl
 |[x],m,n,st,_=>by
  unfold LJ;show _=iP _ st [x.1];have e1:qF κ (κ x.1) [x]=x.2.1:=by simp[qF]
  have e2:qG κ (κ x.1) [x]=x.2.2:=(by simp[qG]);cases st
  ·unfold iP;rw[e1,e2];cases keep (decide (0<m+x.2.1)) (decide (0<n+x.2.2))<;>rfl
  ·unfold iP;rw[e1,e2];cases keep (decide (0<m+x.2.1)) (decide (0<n+x.2.2))<;>rfl
 |x::y::l,m,n,st,h=>by
  obtain⟨h1,h2⟩:=List.pairwise_cons.1 h;have hxy:=h1 y (List.mem_cons_self ..);have G:∀c,κ x.1<=κ c->keep (decide (0<m+qF κ (κ c) (x::y::l))) (decide (0<n+qG κ (κ c) (x::y::l)))=keep (decide (0<m+x.2.1+qF κ (κ c) (y::l))) (decide (0<n+x.2.2+qG κ (κ c) (y::l))):=fun c hc=>by
   rw[qF,qG,if_pos hc,if_pos hc,<-Int.add_assoc,<-Int.add_assoc]
  have hl:∀c∈wK κ (y.1::l.map (·.1)),κ x.1<=κ c:=fun c hc=>by
   obtain⟨e,he,rfl⟩:=List.mem_map.1 (show c∈(y::l).map (·.1) from x8 hc);exact h1 e he
  have ih:=fun m n st=>RP (keep:=keep) (m:=m) (n:=n) (st:=st) h2
  unfold LJ;show _=iP _ st (wK κ (x.1::y.1::l.map (·.1)));unfold wK
  by_cases he:κ x.1=κ y.1
  ·rw[if_pos he,if_pos he,ih];exact oW fun c hc=>(G c (hl c hc)).symm
  ·rw[if_neg he,if_neg he];have hz:=NS (κ:=κ) (c:=κ x.1) (l:=y::l) (fun e hel=>by
 rcases List.mem_cons.1 hel with e'|e'
 ·subst e';omega
 ·have:=(List.pairwise_cons.1 h2).1 e e';omega)
   have ex:keep (decide (0<m+qF κ (κ x.1) (x::y::l))) (decide (0<n+qG κ (κ x.1) (x::y::l)))=keep (decide (0<m+x.2.1)) (decide (0<n+x.2.2)):=by
    rw[G x.1 (Int.le_refl _),hz.1,hz.2,Int.add_zero,Int.add_zero]
   have ec:=fun st=>oW (st:=st) (C:=wK κ (y.1::l.map (fun e=>e.1))) fun c hc=>G c (hl c hc)
   have ih':=fun st=>(ih (m+x.2.1) (n+x.2.2) st).trans (ec st).symm
   cases st
   ·unfold iP;rw[ex];cases keep (decide (0<m+x.2.1)) (decide (0<n+x.2.2))
    ·exact ih' none
    ·exact ih' (some x.1)
   ·unfold iP;rw[ex];cases keep (decide (0<m+x.2.1)) (decide (0<n+x.2.2))
    ·exact congrArg _ (ih' none)
    ·exact ih' (some _)
end
end Go.Via
namespace Go.Via
open Go
structure Iv where
 f:Rl
 t:Rl
 fo:Bool
 tp:Bool
deriving DecidableEq
abbrev qK:=Rl×Bool
def Ib(f l:qK):Iv:=⟨f.1,l.1,f.2,!l.2⟩
def Iv.b(i:Iv):qK:=(i.f,i.fo)
def Iv.e(i:Iv):qK:=(i.t,!i.tp)
structure gU(S:Rl->Prop)(ρ:Rl->Int):Prop where
 lt:∀{x y},S x->S y->(bW x y<0↔ρ x<ρ y)
 gt:∀{x y},S x->S y->(0<bW x y↔ρ y<ρ x)
 inj:∀{x y},S x->S y->ρ x=ρ y->x=y
def aV(ρ:Rl->Int)(b:qK):Int:=2*ρ b.1+(if b.2=true then 1 else 0)
def WA{S:Rl->Prop}{ρ:Rl->Int}(T:gU S ρ){a b:qK}(ha:S a.1)(hb:S b.1)(h:aV ρ a=aV ρ b):a=b:=by
 obtain⟨x,c⟩:=a;obtain⟨y,d⟩:=b;unfold aV at h;dsimp only at*;have:ρ x=ρ y∧c=d:=by cases c<;>cases d<;>simp at h ⊢ <;>omega
 rw[T.inj ha hb this.1,this.2]
def xg(a b:qK):Int:=if bW a.1 b.1≠0 then bW a.1 b.1 else if a.2=b.2 then 0 else if b.2=true then-1 else 1
theorem RQ{S:Rl->Prop}{ρ:Rl->Int}(T:gU S ρ){a b:qK}(ha:S a.1)(hb:S b.1):xg a b=zX (aV ρ a) (aV ρ b):=by
 have h1:=T.lt ha hb;have h2:=T.gt ha hb;have h3:=uP a.1 b.1;unfold xg zX aV;obtain⟨x,c⟩:=a;obtain⟨y,d⟩:=b;dsimp only at*
 generalize bW x y=z at*
 rcases h3 with h|h|h
 ·subst h;have:=h1.1 (by decide);rw[if_pos (by decide),if_pos (by cases c<;>cases d<;>simp<;>omega)]
 ·subst h;have e:ρ x=ρ y:=by
   have a1:¬ρ x<ρ y:=fun e=>absurd (h1.2 e) (by decide)
   have a2:¬ρ y<ρ x:=fun e=>absurd (h2.2 e) (by decide)
   omega
  rw[e,if_neg (by decide)];cases c<;>cases d<;>simp
  ·intro h;omega
  ·rw[if_neg (by omega),if_pos (by omega)]
 ·subst h;have:=h2.1 (by decide);rw[if_pos (by decide),if_neg (by cases c<;>cases d<;>simp<;>omega),if_pos (by cases c<;>cases d<;>simp<;>omega)]
def memB(ρ:Rl->Int)(l:List Iv)(c:Int):Bool:=l.any fun i=>decide (aV ρ i.b<=c)&&decide (c<aV ρ i.e)
def NT(here:Rl->Bool)(btw:Rl->Rl->Bool):Option qK->List Rl->List (qK×qK)
 |_,[]=>[]
 |some f,[t]=>[(f,(t,here t))]
 |none,[t]=>if here t=true then[((t,false),(t,true))] else[]
 |some f,t::u::ts=>
  if here t=true then(if btw t u=true then NT here btw (some f) (u::ts) else(f,(t,true))::NT here btw none (u::ts))
  else(f,(t,false))::NT here btw (if btw t u=true then some (t,true) else none) (u::ts)
 |none,t::u::ts=>
  if here t=true then(if btw t u=true then NT here btw (some (t,false)) (u::ts) else((t,false),(t,true))::NT here btw none (u::ts))
  else NT here btw (if btw t u=true then some (t,true) else none) (u::ts)
def nZ:List Rl->List qK
 |[]=>[]
 |t::ts=>(t,false)::(t,true)::nZ ts
def qha(here:Rl->Bool)(btw:Rl->Rl->Bool)(g:qK->Bool):List Rl->Prop
 |[]=>True
 |[t]=>g (t,false)=here t∧g (t,true)=false
 |t::u::ts=>g (t,false)=here t∧g (t,true)=btw t u∧qha here btw g (u::ts)
theorem EP{here:Rl->Bool}{btw:Rl->Rl->Bool}{g:qK->Bool}:∀{ts:List Rl} {st:Option qK},qha here btw g ts->NT here btw st ts=iP g st (nZ ts)
 |[],none,_=>rfl
 |[],some _,_=>rfl
 |[t],none,h=>by
  obtain⟨h1,h2⟩:=h;unfold nZ nZ iP NT;rw[h1];cases here t
  ·simp[iP,h2]
  ·simp[iP,h2]
 |[t],some f,h=>by
  obtain⟨h1,h2⟩:=h;unfold nZ nZ iP NT;rw[h1];cases here t
  ·simp[iP,h2]
  ·simp[iP,h2]
 |t::u::ts,none,h=>by
  obtain⟨h1,h2,h3⟩:=h;have ih:=fun st=>EP (st:=st) h3
  show _=iP g none ((t,false)::(t,true)::nZ (u::ts));unfold NT iP;rw[h1];cases here t
  ·simp only[Bool.false_eq_true,if_false];rw[ih];unfold iP;rw[h2];cases btw t u<;>rfl
  ·simp only[if_true];unfold iP;rw[h2];cases btw t u
   ·simp only[Bool.false_eq_true,if_false];rw[ih]
   ·simp only[if_true];rw[ih]
 |t::u::ts,some f,h=>by
  obtain⟨h1,h2,h3⟩:=h;have ih:=fun st=>EP (st:=st) h3
  show _=iP g (some f) ((t,false)::(t,true)::nZ (u::ts));unfold NT iP;rw[h1];cases here t
  ·simp only[Bool.false_eq_true,if_false];rw[ih];unfold iP;rw[h2];cases btw t u<;>rfl
  ·simp only[if_true];unfold iP;rw[h2];cases btw t u
   ·simp only[Bool.false_eq_true,if_false];rw[ih]
   ·simp only[if_true];rw[ih]
def CG(l:List Iv):List (qK×Int×Int):=l.flatMap fun i=>[(i.b,1,0),(i.e,-1,0)]
def Ic(l:List Iv):List (qK×Int×Int):=l.flatMap fun i=>[(i.b,0,1),(i.e,0,-1)]
theorem He{α:Type}{κ:α->Int}{c:Int}:∀{l m:List (α×Int×Int)},qF κ c (l++m)=qF κ c l+qF κ c m
 |[],m=>by simp[qF]
 |e::l,m=>by simp only[List.cons_append,qF];rw[He (l:=l)];omega
theorem Hf{α:Type}{κ:α->Int}{c:Int}:∀{l m:List (α×Int×Int)},qG κ c (l++m)=qG κ c l+qG κ c m
 |[],m=>by simp[qG]
 |e::l,m=>by simp only[List.cons_append,qG];rw[Hf (l:=l)];omega
def qaN{α:Type}{κ:α->Int}{c:Int}{l m:List (α×Int×Int)}(h:l.Perm m):qF κ c l=qF κ c m∧qG κ c l=qG κ c m:=by
 induction h with
 |nil=>exact⟨rfl,rfl⟩
 |cons x _ ih=>unfold qF qG;rw[ih.1,ih.2];exact⟨rfl,rfl⟩
 |swap x y l=>simp only[qF,qG];omega
 |trans _ _ ih1 ih2=>exact⟨ih1.1.trans ih2.1,ih1.2.trans ih2.2⟩
def Gp(ρ:Rl->Int)(l:List Iv):Prop:=∀i∈l,aV ρ i.b<aV ρ i.e
def Gp.tail{ρ:Rl->Int}{i:Iv}{l:List Iv}(h:Gp ρ (i::l)):Gp ρ l:=fun x hx=>h x (List.mem_cons_of_mem _ hx)
def WB{ρ:Rl->Int}{c:Int}:∀{l:List Iv},Gp ρ l->0<=qF (aV ρ) c (CG l)∧(0<qF (aV ρ) c (CG l)↔memB ρ l c=true)∧qG (aV ρ) c (CG l)=0
 |[],_=>by simp[CG,qF,qG,memB]
 |i::l,h=>by
  obtain⟨h1,h2,h3⟩:=WB (c:=c) h.tail;have hi:=h i (List.mem_cons_self ..);have e:CG (i::l)=(i.b,1,0)::(i.e,-1,0)::CG l:=rfl;rw[e];unfold qF qG qF qG;dsimp only;have em:memB ρ (i::l) c=((decide (aV ρ i.b<=c)&&decide (c<aV ρ i.e))||memB ρ l c):=rfl;rw[em,h3,Bool.or_eq_true,Bool.and_eq_true,decide_eq_true_eq,decide_eq_true_eq,<-h2]
  by_cases a1:aV ρ i.b<=c
  ·by_cases a2:aV ρ i.e<=c
   ·rw[if_pos a1,if_pos a2,if_pos a1,if_pos a2];omega
   ·rw[if_pos a1,if_neg a2,if_pos a1,if_neg a2];omega
  ·rw[if_neg a1,if_neg (by omega),if_neg a1,if_neg (by omega)];omega
def WC{ρ:Rl->Int}{c:Int}:∀{l:List Iv},Gp ρ l->0<=qG (aV ρ) c (Ic l)∧(0<qG (aV ρ) c (Ic l)↔memB ρ l c=true)∧qF (aV ρ) c (Ic l)=0
 |[],_=>by simp[Ic,qF,qG,memB]
 |i::l,h=>by
  obtain⟨h1,h2,h3⟩:=WC (c:=c) h.tail;have hi:=h i (List.mem_cons_self ..);have e:Ic (i::l)=(i.b,0,1)::(i.e,0,-1)::Ic l:=rfl;rw[e];unfold qF qG qF qG;dsimp only;have em:memB ρ (i::l) c=((decide (aV ρ i.b<=c)&&decide (c<aV ρ i.e))||memB ρ l c):=rfl;rw[em,h3,Bool.or_eq_true,Bool.and_eq_true,decide_eq_true_eq,decide_eq_true_eq,<-h2]
  by_cases a1:aV ρ i.b<=c
  ·by_cases a2:aV ρ i.e<=c
   ·rw[if_pos a1,if_pos a2,if_pos a1,if_pos a2];omega
   ·rw[if_pos a1,if_neg a2,if_pos a1,if_neg a2];omega
  ·rw[if_neg a1,if_neg (by omega),if_neg a1,if_neg (by omega)];omega
theorem qei{ρ:Rl->Int}{a b:List Iv}{keep:Bool->Bool->Bool}{l:List (qK×Int×Int)}(ha:Gp ρ a)(hb:Gp ρ b)(hp:l.Perm (CG a++Ic b))(hs:l.Pairwise (fun x y=>aV ρ x.1<=aV ρ y.1)):
 LJ (aV ρ) keep l 0 0 none=iP (fun c=>keep (memB ρ a (aV ρ c)) (memB ρ b (aV ρ c))) none (wK (aV ρ) (l.map (·.1))):=by
 rw[RP hs];refine oW fun c _=>?_
 obtain⟨e1,e2⟩:=qaN (κ:=aV ρ) (c:=aV ρ c) hp;obtain⟨_,a2,a3⟩:=WB (c:=aV ρ c) ha;obtain⟨_,b2,b3⟩:=WC (c:=aV ρ c) hb;rw[e1,e2,He,Hf,a3,b3,Int.zero_add,Int.zero_add,Int.add_zero,Int.zero_add]
 congr 1
 ·rw[Bool.eq_iff_iff,decide_eq_true_eq];exact a2
 ·rw[Bool.eq_iff_iff,decide_eq_true_eq];exact b2
end Go.Via
namespace Go.Via
open Go
def inR(i:Iv)(t:Rl):Bool:=(decide (bW i.f t<0)||decide (bW i.f t=0)&& !i.fo)&&(decide (bW t i.t<0)||decide (bW t i.t=0)&& !i.tp)
def oh(l:List Iv)(t:Rl):Bool:=l.any fun i=>inR i t
def oq(l:List Iv)(a b:Rl):Bool:=l.any fun i=>decide (bW i.f a<=0)&&decide (bW b i.t<=0)
def eX(l:List Iv):List qK:=l.flatMap fun i=>[i.b,i.e]
def bV(l:List Iv):List Rl:=l.flatMap fun i=>[i.f,i.t]
def kE(S:Rl->Prop)(l:List Iv):Prop:=∀i∈l,S i.f∧S i.t
theorem gz{l:List Iv}{b:qK}:b∈eX l↔∃i∈l,b=i.b∨b=i.e:=by
 unfold eX;rw[List.mem_flatMap];simp
theorem nC{l:List Iv}{x:Rl}:x∈bV l↔∃i∈l,x=i.f∨x=i.t:=by
 unfold bV;rw[List.mem_flatMap];simp
def gU.zero{S:Rl->Prop}{ρ:Rl->Int}(T:gU S ρ){x y:Rl}(hx:S x)(hy:S y):bW x y=0↔ρ x=ρ y:=by
 have h1:=T.lt hx hy;have h2:=T.gt hx hy;rcases uP x y with h|h|h<;>rw[h] at h1 h2 ⊢ <;>simp at h1 h2 ⊢ <;>omega
theorem qej{S:Rl->Prop}{ρ:Rl->Int}(T:gU S ρ){i:Iv}{t:Rl}(hf:S i.f)(ht:S i.t)(h:S t):inR i t=(decide (aV ρ i.b<=aV ρ (t,false))&&decide (aV ρ (t,false)<aV ρ i.e)):=by
 have h1:=T.lt hf h;have h2:=T.lt h ht;have h3:=T.zero hf h;have h4:=T.zero h ht;unfold inR aV Iv.b Iv.e;rw[Bool.eq_iff_iff];simp only[Bool.and_eq_true,Bool.or_eq_true,decide_eq_true_eq,h1,h2,h3,h4];cases i.fo<;>cases i.tp<;>simp<;>omega
theorem BJ{S:Rl->Prop}{ρ:Rl->Int}(T:gU S ρ){l:List Iv}{t:Rl}(hl:kE S l)(h:S t):oh l t=memB ρ l (aV ρ (t,false)):=by
 unfold oh memB
 induction l with
 |nil=>rfl
 |cons i l ih=>
  rw[List.any_cons,List.any_cons,ih (fun x hx=>hl x (List.mem_cons_of_mem _ hx)),qej T (hl i (List.mem_cons_self ..)).1 (hl i (List.mem_cons_self ..)).2 h]
theorem NU{S:Rl->Prop}{ρ:Rl->Int}(T:gU S ρ){l:List Iv}{t u:Rl}(hl:kE S l)(h:S t)(hu:S u)(htu:ρ t<ρ u)(hn:∀x∈bV l,ρ x<=ρ t∨ρ u<=ρ x):oq l t u=memB ρ l (aV ρ (t,true)):=by
 unfold oq memB
 induction l with
 |nil=>rfl
 |cons i l ih=>
  have hi:=hl i (List.mem_cons_self ..);have n1:=hn i.t (nC.2 ⟨i,List.mem_cons_self ..,.inr rfl⟩);rw[List.any_cons,List.any_cons,ih (fun x hx=>hl x (List.mem_cons_of_mem _ hx)) (fun x hx=>by
 obtain⟨j,hj,e⟩:=nC.1 hx;exact hn x (nC.2 ⟨j,List.mem_cons_of_mem _ hj,e⟩))]
  congr 1
  have h1:=T.gt hi.1 h;have h2:=T.gt hu hi.2;unfold aV Iv.b Iv.e;rw[Bool.eq_iff_iff];simp only[Bool.and_eq_true,decide_eq_true_eq];have e1:bW i.f t<=0↔ρ i.f<=ρ t:=(by omega);have e2:bW u i.t<=0↔ρ u<=ρ i.t:=(by omega);rw[e1,e2];cases i.fo<;>cases i.tp<;>simp<;>omega
theorem BK{ρ:Rl->Int}{l:List Iv}{k1 k2:Int}(h:k1<=k2)(hn:∀b∈eX l,¬(k1<aV ρ b∧aV ρ b<=k2)):memB ρ l k1=memB ρ l k2:=by
 unfold memB
 induction l with
 |nil=>rfl
 |cons i l ih=>
  have n1:=hn i.b (gz.2 ⟨i,List.mem_cons_self ..,.inl rfl⟩);have n2:=hn i.e (gz.2 ⟨i,List.mem_cons_self ..,.inr rfl⟩);rw[List.any_cons,List.any_cons,ih fun b hb=>by
 obtain⟨j,hj,e⟩:=gz.1 hb;exact hn b (gz.2 ⟨j,List.mem_cons_of_mem _ hj,e⟩)]
  congr 1
  rw[Bool.eq_iff_iff];simp only[Bool.and_eq_true,decide_eq_true_eq];omega
theorem EQ{ρ:Rl->Int}{l:List Iv}{k:Int}(hn:∀b∈eX l,k<aV ρ b):memB ρ l k=false:=by
 unfold memB;rw[List.any_eq_false];intro i hi;have:=hn i.b (gz.2 ⟨i,hi,.inl rfl⟩);simp only[Bool.and_eq_true,decide_eq_true_eq];omega
theorem BL{ρ:Rl->Int}{l:List Iv}{k:Int}(hn:∀b∈eX l,aV ρ b<=k):memB ρ l k=false:=by
 unfold memB;rw[List.any_eq_false];intro i hi;have:=hn i.e (gz.2 ⟨i,hi,.inr rfl⟩);simp only[Bool.and_eq_true,decide_eq_true_eq];omega
def UU{ρ:Rl->Int}{G:Int->Bool}{p:qK->Bool}{B:List qK}(hp:∀b,p b=true↔b∈B)(HG:∀k1 k2,k1<=k2->(∀b∈B,¬(k1<aV ρ b∧aV ρ b<=k2))->G k1=G k2):
 ∀{C:List qK} {lo:Int},C.Pairwise (fun a b=>aV ρ a<aV ρ b)->(∀c∈C,lo<aV ρ c)->(∀b∈B,aV ρ b<=lo∨b∈C)->Chk (fun c=>G (aV ρ c)) p (G lo) C
 |[],_,_,_,_=>trivial
 |c::cs,lo,hs,hlo,hB=>by
  obtain⟨s1,s2⟩:=List.pairwise_cons.1 hs;have hc:=hlo c (List.mem_cons_self ..);refine⟨?_,UU hp HG s2 (fun x hx=>s1 x hx) fun b hb=>?_⟩
  ·by_cases hpc:p c=true
   ·exact .inl hpc
   ·refine .inr (HG lo (aV ρ c) (by omega) fun b hb hk=>?_).symm
    rcases hB b hb with h|h
    ·omega
    ·rcases List.mem_cons.1 h with h|h
     ·subst h;exact hpc ((hp b).2 hb)
     ·have:=s1 b h;omega
  ·rcases hB b hb with h|h
   ·exact .inl (by omega)
   ·rcases List.mem_cons.1 h with h|h
    ·subst h;exact .inl (Int.le_refl _)
    ·exact .inr h
theorem qY:∀{ts:List Rl} {b:qK},b∈nZ ts↔b.1∈ts
 |[],b=>by simp[nZ]
 |t::ts,(x,c)=>by
  unfold nZ;rw[List.mem_cons,List.mem_cons,qY (ts:=ts),List.mem_cons];dsimp only
  constructor
  ·rintro(h|h|h)
   ·cases h;exact .inl rfl
   ·cases h;exact .inl rfl
   ·exact .inr h
  ·rintro(h|h)
   ·subst h;cases c;exact .inl rfl;exact .inr (.inl rfl)
   ·exact .inr (.inr h)
theorem uh{ρ:Rl->Int}:∀{ts:List Rl},ts.Pairwise (fun a b=>ρ a<ρ b)->(nZ ts).Pairwise (fun a b=>aV ρ a<aV ρ b)
 |[],_=>List.Pairwise.nil
 |t::ts,h=>by
  obtain⟨h1,h2⟩:=List.pairwise_cons.1 h;unfold nZ;refine List.pairwise_cons.2 ⟨fun b hb=>?_,List.pairwise_cons.2 ⟨fun b hb=>?_,uh h2⟩⟩
  ·rcases List.mem_cons.1 hb with e|e
   ·subst e;unfold aV;simp;omega
   ·have:=h1 b.1 (qY.1 e);unfold aV;simp;split<;>omega
  ·have:=h1 b.1 (qY.1 hb);unfold aV;simp;split<;>omega
theorem PM{S:Rl->Prop}{ρ:Rl->Int}(T:gU S ρ){op:Bool->Bool->Bool}(h0:op false false=false){a b:List Iv}(ha:kE S a)(hb:kE S b):
 ∀{ts pre:List Rl},(∀t∈ts,S t)->ts.Pairwise (fun x y=>ρ x<ρ y)->(∀x∈bV a++bV b,x∈ts∨∀t∈ts,ρ x<ρ t)->(∀i∈a++b,S i.f)->
 qha (fun t=>op (oh a t) (oh b t)) (fun t u=>op (oq a t u) (oq b t u)) (fun c=>op (memB ρ a (aV ρ c)) (memB ρ b (aV ρ c))) ts
 |[],_,_,_,_,_=>trivial
 |[t],_,hS,hs,he,hf=>by
  have ht:=hS t (List.mem_cons_self ..);refine⟨by dsimp only;rw[BJ T ha ht,BJ T hb ht],?_⟩;have hi:∀l:List Iv,(∀x∈bV l,x∈[t]∨∀u∈[t],ρ x<ρ u)->∀c∈eX l,aV ρ c<=aV ρ (t,true):=fun l hl c hc=>by
   obtain⟨i,hi,e⟩:=gz.1 hc;have hx:c.1∈bV l:=nC.2 ⟨i,hi,by rcases e with e|e<;>subst e;exact .inl rfl;exact .inr rfl⟩
   have:ρ c.1<=ρ t:=by
    rcases hl c.1 hx with h|h
    ·rw[List.mem_singleton] at h;rw[h];exact Int.le_refl _
    ·have:=h t (List.mem_cons_self ..);omega
   unfold aV;simp;split<;>omega
  dsimp only;rw[BL (hi a fun x hx=>he x (List.mem_append_left _ hx)),BL (hi b fun x hx=>he x (List.mem_append_right _ hx)),h0]
 |t::u::ts,pre,hS,hs,he,hf=>by
  obtain⟨s1,s2⟩:=List.pairwise_cons.1 hs;have ht:=hS t (List.mem_cons_self ..);have hu:=hS u (List.mem_cons_of_mem _ (List.mem_cons_self ..));have htu:=s1 u (List.mem_cons_self ..);have hn:∀x∈bV a++bV b,ρ x<=ρ t∨ρ u<=ρ x:=fun x hx=>by
   rcases he x hx with h|h
   ·rcases List.mem_cons.1 h with h|h
    ·rw[h];exact .inl (Int.le_refl _)
    ·rcases List.mem_cons.1 h with h|h
     ·rw[h];exact .inr (Int.le_refl _)
     ·have:=(List.pairwise_cons.1 s2).1 x h;exact .inr (by omega)
   ·have:=h t (List.mem_cons_self ..);exact .inl (by omega)
  refine⟨by dsimp only;rw[BJ T ha ht,BJ T hb ht],?_,PM T h0 ha hb (pre:=pre) (fun x hx=>hS x (List.mem_cons_of_mem _ hx)) s2 (fun x hx=>?_) hf⟩
  ·dsimp only;rw[NU T ha ht hu htu fun x hx=>hn x (List.mem_append_left _ hx),NU T hb ht hu htu fun x hx=>hn x (List.mem_append_right _ hx)]
  ·rcases he x hx with h|h
   ·rcases List.mem_cons.1 h with h|h
    ·right;intro y hy;rw[h];exact s1 y hy
    ·exact .inl h
   ·exact .inr fun y hy=>h y (List.mem_cons_of_mem _ hy)
theorem UV{S:Rl->Prop}{ρ:Rl->Int}(T:gU S ρ){op:Bool->Bool->Bool}(h0:op false false=false){a b:List Iv}(ha:kE S a)(hb:kE S b)(oa:Gp ρ a)(ob:Gp ρ b)
 {ends:List Rl}(hs:ends.Pairwise (fun x y=>ρ x<ρ y))(he:∀x,x∈ends↔x∈bV a++bV b)
 {l:List (qK×Int×Int)}(hp:l.Perm (CG a++Ic b))(hl:l.Pairwise (fun x y=>aV ρ x.1<=aV ρ y.1)):
 LJ (aV ρ) op l 0 0 none=NT (fun t=>op (oh a t) (oh b t)) (fun t u=>op (oq a t u) (oq b t u)) none ends:=by
 have hES:∀x∈bV a++bV b,S x:=fun x hx=>by
  rcases List.mem_append.1 hx with h|h
  ·obtain⟨i,hi,e⟩:=nC.1 h;rcases e with e|e<;>subst e;exact(ha i hi).1;exact(ha i hi).2
  ·obtain⟨i,hi,e⟩:=nC.1 h;rcases e with e|e<;>subst e;exact(hb i hi).1;exact(hb i hi).2
 have hS:∀t∈ends,S t:=fun t ht=>hES t ((he t).1 ht)
 rw[qei oa ob hp hl,EP (PM T h0 ha hb (pre:=[]) hS hs (fun x hx=> .inl ((he x).2 hx)) (fun i hi=>by
 rcases List.mem_append.1 hi with h|h;exact(ha i h).1;exact(hb i h).1))]
 have hsc:=uh (ρ:=ρ) hs;have hmB:∀b':qK,b'∈eX a++eX b->b'∈nZ ends:=fun b' h=>by
  refine qY.2 ((he _).2 ?_);rcases List.mem_append.1 h with h|h
  ·obtain⟨i,hi,e⟩:=gz.1 h;refine List.mem_append_left _ (nC.2 ⟨i,hi,?_⟩);rcases e with e|e<;>subst e;exact .inl rfl;exact .inr rfl
  ·obtain⟨i,hi,e⟩:=gz.1 h;refine List.mem_append_right _ (nC.2 ⟨i,hi,?_⟩);rcases e with e|e<;>subst e;exact .inl rfl;exact .inr rfl
 obtain⟨lo,hlo⟩:∃lo:Int,∀c∈nZ ends,lo<aV ρ c:=by
  generalize nZ ends=C
  clear hmB hsc
  induction C with
  |nil=>exact⟨0,fun c hc=>absurd hc (by simp)⟩
  |cons c C ih=>
   obtain⟨lo,h⟩:=ih;refine⟨min lo (aV ρ c-1),fun x hx=>?_⟩
   rcases List.mem_cons.1 hx with e|e
   ·subst e;omega
   ·have:=h x e;omega
 have hG0:op (memB ρ a lo) (memB ρ b lo)=false:=by
  rw[EQ fun c hc=>hlo c (hmB c (List.mem_append_left _ hc)),EQ fun c hc=>hlo c (hmB c (List.mem_append_right _ hc)),h0]
 have hchk:=UU (ρ:=ρ) (G:=fun k=>op (memB ρ a k) (memB ρ b k)) (p:=fun c=>decide (c∈eX a++eX b)) (B:=eX a++eX b) (fun c=>by rw[decide_eq_true_eq]) (fun k1 k2 hk hn=>by
 rw[BK hk fun c hc=>hn c (List.mem_append_left _ hc),BK (l:=b) hk fun c hc=>hn c (List.mem_append_right _ hc)]) (lo:=lo) hsc hlo (fun c hc=> .inr (hmB c hc))
 rw[hG0] at hchk;rw[pI (st:=none) hchk]
 congr 1
 refine yU (κ:=aV ρ) ?_ ?_ fun c=>?_
 ·exact Gn (List.pairwise_map.2 hl)
 ·exact hsc.filter _
 ·have hev:∀c:qK,c∈(CG a++Ic b).map (·.1)↔c∈eX a++eX b:=fun c=>by
   rw[List.map_append,List.mem_append,List.mem_append];have e1:∀m:List Iv,c∈(CG m).map (·.1)↔c∈eX m:=fun m=>by
    unfold CG eX;rw[List.map_flatMap];rfl
   have e2:∀m:List Iv,c∈(Ic m).map (·.1)↔c∈eX m:=fun m=>by
    unfold Ic eX;rw[List.map_flatMap];rfl
   rw[e1,e2]
  have hlm:c∈l.map (·.1)↔c∈eX a++eX b:=(by rw[<-hev];exact(hp.map _).mem_iff);rw[List.mem_filter,decide_eq_true_eq]
  constructor
  ·intro h;have h1:=hlm.1 (x8 h);exact⟨hmB c h1,h1⟩
  ·intro h;refine BI (fun x hx y hy e=>?_) (hlm.2 h.2);have m1:S x.1:=hS _ (qY.1 (hmB x (by rw[<-hev];exact(hp.map _).mem_iff.1 hx)));have m2:S y.1:=hS _ (qY.1 (hmB y (by rw[<-hev];exact(hp.map _).mem_iff.1 hy)));exact WA T m1 m2 e
end Go.Via
namespace Go.Via
open Go
def ER:Nat->Nat->Nat
 |0,_=>0
 |k+1,n=>let s:=2*ER k (n/4);if(s+1)*(s+1)<=n then s+1 else s
def cO(n:Nat):Nat:=ER (n.log2+1) n
def Ko:∀(k n:Nat),n<4^k->ER k n*ER k n<=n∧n<(ER k n+1)*(ER k n+1)
 |0,n,h=>by simp at h;subst h;simp[ER]
 |k+1,n,h=>by
  have ih:=Ko k (n/4) (by rw[Nat.pow_succ] at h;omega);unfold ER
  generalize ER k (n/4)=s at ih ⊢
  dsimp only;obtain⟨h1,h2⟩:=ih;have e1:(2*s)*(2*s)=4*(s*s):=by grind
  have e2:(2*s+1+1)*(2*s+1+1)=4*((s+1)*(s+1)):=by grind
  split
  ·rename_i h3
   refine⟨h3,?_⟩;rw[e2];omega
  ·rename_i h3
   rw[e1];refine⟨by omega,by omega⟩
def Kq(n:Nat):cO n*cO n<=n∧n<(cO n+1)*(cO n+1):=by
 refine Ko _ n ?_;have h:n<2^(n.log2+1):=Nat.lt_log2_self;exact Nat.lt_of_lt_of_le h (Nat.pow_le_pow_left (by decide) _)
def UW{a b:Nat}(h:a*a<b*b):a<b:=by
 refine Nat.lt_of_not_le fun h1=>?_
 have:=Nat.mul_le_mul h1 h1;omega
def DJ{n k:Nat}(h1:k*k<=n)(h2:n<(k+1)*(k+1)):cO n=k:=by
 obtain⟨a,b⟩:=Kq n;have c1:=UW (Nat.lt_of_le_of_lt a h2);have c2:=UW (Nat.lt_of_le_of_lt h1 b);omega
theorem RS(k:Nat):cO (k*k)=k:=DJ (Nat.le_refl _) (by
 have:(k+1)*(k+1)=k*k+2*k+1:=(by grind);omega)
def Ym{a x:Nat}(hx:0<x):a<((x+a/x)/2+1)*((x+a/x)/2+1):=by
 generalize hq:a/x=q
 generalize hm:(x+q)/2=m
 have h1:a<x*(q+1):=by
  have:=Nat.lt_mul_div_succ a hx;rw[hq] at this;exact this
 have h2:x+q+1<=2*m+2:=by omega
 have h3:4*(x*(q+1))<=(x+(q+1))*(x+(q+1)):=by
  rcases Nat.le_total x (q+1) with h|h
  ·obtain⟨d,e⟩:=Nat.exists_eq_add_of_le h;rw[e];have:=Nat.zero_le (d*d);grind
  ·obtain⟨d,e⟩:=Nat.exists_eq_add_of_le h;rw[e];have:=Nat.zero_le (d*d);grind
 have h4:=Nat.mul_le_mul h2 h2;have e:(2*m+2)*(2*m+2)=4*((m+1)*(m+1)):=(by grind);have e2:x+(q+1)=x+q+1:=(by omega);rw[e2] at h3;omega
def UX{a x:Nat}(hx:0<x)(h:a<(x+1)*(x+1))(hn:x<=(x+a/x)/2):cO a=x:=by
 refine DJ ?_ h;have h1:x<=a/x:=by omega
 exact(Nat.le_div_iff_mul_le hx).1 h1
def UY{a x:Nat}(ha:0<a)(hx:0<x):0<(x+a/x)/2:=by
 by_cases h:x=1
 ·subst h;rw[Nat.div_one];omega
 ·generalize a/x=q
  omega
def BM(q:Rat):Bool:=decide (0<=q.num)&&(cO q.num.natAbs*cO q.num.natAbs==q.num.natAbs)&&(cO q.den*cO q.den==q.den)
def nD(q:Rat):Rat:=Rat.divInt (cO q.num.natAbs) (cO q.den)
theorem Kt:BM 0=true:=by decide+kernel
theorem DK:nD 0=0:=by decide+kernel
structure Qd where
 c0:Rat
 c1:Rat
 c2:Rat
deriving DecidableEq
def wL(f:Qd)(t:Rat):Rat:=f.c0+t*(f.c1+t*f.c2)
def CJ(f:Qd)(t:Rat):Rat:=f.c1+(f.c2+f.c2)*t
def mkR(p q r:Rat):Rl:=if BM r=true then rl (p+q*nD r) else⟨p,q*q*r,decide (dJ q<0)⟩
def NW(f:Qd)(t:Rl):Rl:=mkR (wL f t.p+f.c2*t.r) (if t.n=true then-CJ f t.p else CJ f t.p) t.r
theorem Gq(f:Qd)(q:Rat):NW f (rl q)=rl (wL f q):=by
 unfold NW mkR rl;dsimp only;rw[Kt,if_pos rfl,DK];have e:wL f q+f.c2*0+(if false=true then-CJ f q else CJ f q)*0=wL f q:=by grind
 rw[e]
def Rl.ok(x:Rl):Prop:=(x.r=0∧x.n=false)∨(0<x.r∧BM x.r=false)
def qhb(x:Rat):BM (x*x)=true:=by
 have hg:Nat.gcd (x.num*x.num).natAbs (x.den*x.den)=1:=by
  rw[Int.natAbs_mul];exact Nat.Coprime.mul_left (Nat.Coprime.mul_right x.reduced x.reduced) (Nat.Coprime.mul_right x.reduced x.reduced)
 have e:x*x=⟨x.num*x.num,x.den*x.den,Nat.mul_ne_zero x.den_nz x.den_nz,hg⟩:=by
  rw[Rat.mul_def];exact(Rat.mk_eq_normalize _ _ (Nat.mul_ne_zero x.den_nz x.den_nz) hg).symm
 rw[e];unfold BM;dsimp only;rw[Int.natAbs_mul,RS,RS];have:0<=x.num*x.num:=by
  rcases Int.le_total 0 x.num with h|h
  ·exact Int.mul_nonneg h h
  ·exact Int.mul_nonneg_of_nonpos_of_nonpos h h
 simp[this]
def qfO(q:Rat):(rl q).ok:= .inl ⟨rfl,rfl⟩
def Rl.ok.r0{x:Rl}(h:x.ok):0<=x.r:=by rcases h with h|h<;>grind
def Rl.ok.rat{x:Rl}(h:x.ok)(h0:x.r=0):x=rl x.p:=by
 rcases h with h|h
 ·cases x;simp only[rl] at*;obtain⟨h1,h2⟩:=h;subst h1;subst h2;rfl
 ·grind
theorem qaO{f:Qd}{t:Rl}(h:t.ok)(h0:t.r≠0):NW f t=⟨wL f t.p+f.c2*t.r,CJ f t.p*CJ f t.p*t.r,decide (dJ (oV t*CJ f t.p)<0)⟩:=by
 unfold NW mkR;have hs:BM t.r=false:=by rcases h with h|h;exact absurd h.1 h0;exact h.2
 rw[hs,if_neg (by decide)];unfold oV;cases t.n
 ·simp only[Bool.false_eq_true,if_false];rw[Rat.one_mul]
 ·simp only[if_true];have e1: -CJ f t.p* -CJ f t.p=CJ f t.p*CJ f t.p:=by grind
  have e2: -1*CJ f t.p= -CJ f t.p:=(by grind);rw[e1,e2]
end Go.Via
namespace Go.Via
open Go
structure qmi(S:Rl->Prop):Prop where
 swap:∀{x y},S x->S y->bW x y= -bW y x
 trans:∀{x y z},S x->S y->S z->bW x y<0->bW y z<0->bW x z<0
 eq0:∀{x y},S x->S y->bW x y=0->x=y
end Go.Via
namespace Go.Via
open Go
section
variable{A B C:Type}
def iL(mt:A->B->Option C)(ef:A->B->Bool):List A->List B->List C
 |[],_=>[]
 |_::_,[]=>[]
 |x::xs,y::ys=>(mt x y).toList++if ef x y=true then iL mt ef xs (y::ys) else iL mt ef (x::xs) ys
termination_by a b=>a.length+b.length
def flatK(mt:A->B->Option C)(a:List A)(b:List B):List C:=a.flatMap fun x=>b.filterMap (mt x)
theorem uQ{f:B->Option C}:∀{l:List B},(∀y∈l,f y=none)->l.filterMap f=[]
 |[],_=>rfl
 |y::l,h=>by rw[List.filterMap_cons_none (h y (List.mem_cons_self ..)),uQ fun z hz=>h z (List.mem_cons_of_mem _ hz)]
def Hg{mt:A->B->Option C}{y:B}{ys:List B}:∀{a:List A},(∀x∈a,mt x y=none)->flatK mt a (y::ys)=flatK mt a ys
 |[],_=>rfl
 |x::a,h=>by
  unfold flatK;rw[List.flatMap_cons,List.flatMap_cons,List.filterMap_cons_none (h x (List.mem_cons_self ..))]
  congr 1
  exact Hg fun z hz=>h z (List.mem_cons_of_mem _ hz)
theorem Gs{mt:A->B->Option C}{ef:A->B->Bool}{fa la:A->Int}{fb lb:B->Int}:
 ∀{a:List A} {b:List B},(∀x∈a,∀y∈b,(ef x y=true↔la x<=lb y)∧(la x<=fb y->mt x y=none)∧(lb y<=fa x->mt x y=none))->a.Pairwise (fun x y=>la x<=fa y)->b.Pairwise (fun x y=>lb x<=fb y)->iL mt ef a b=flatK mt a b
 |[],_,_,_,_=>by unfold iL;rfl
 |x::xs,[],_,_,_=>by
  unfold iL;have:∀a:List A,flatK mt a []=[]:=fun a=>by
   induction a with
   |nil=>rfl
   |cons z a ih=>unfold flatK at*;rw[List.flatMap_cons,ih];rfl
  exact(this _).symm
 |x::xs,y::ys,H,ha,hb=>by
  obtain⟨a1,a2⟩:=List.pairwise_cons.1 ha;obtain⟨b1,b2⟩:=List.pairwise_cons.1 hb;obtain⟨hef,_,_⟩:=H x (List.mem_cons_self ..) y (List.mem_cons_self ..);have hm1:∀z∈y::ys,la x<=fb z->mt x z=none:=fun z hz=>(H x (List.mem_cons_self ..) z hz).2.1
  have hm2:∀z∈x::xs,lb y<=fa z->mt z y=none:=fun z hz=>(H z hz y (List.mem_cons_self ..)).2.2
  unfold iL
  by_cases h:ef x y=true
  ·have hl:=hef.1 h;rw[if_pos h,Gs (fun z hz w hw=>H z (List.mem_cons_of_mem _ hz) w hw) a2 hb];unfold flatK;rw[List.flatMap_cons]
   congr 1
   cases hm:mt x y
   ·rw[List.filterMap_cons_none hm,uQ fun z hz=>hm1 z (List.mem_cons_of_mem _ hz) (by have:=b1 z hz;omega)];rfl
   ·rw[List.filterMap_cons_some hm,uQ fun z hz=>hm1 z (List.mem_cons_of_mem _ hz) (by have:=b1 z hz;omega)];rfl
  ·have hl:lb y<la x:=Int.not_le.1 fun hh=>h (hef.2 hh)
   rw[if_neg h,Gs (fun z hz w hw=>H z hz w (List.mem_cons_of_mem _ hw)) ha b2];have hd:flatK mt xs (y::ys)=flatK mt xs ys:=Hg fun z hz=>hm2 z (List.mem_cons_of_mem _ hz) (by have:=a1 z hz;omega)
   show _=(x::xs).flatMap _;rw[List.flatMap_cons];have e1:xs.flatMap (fun x=>(y::ys).filterMap (mt x))=xs.flatMap (fun x=>ys.filterMap (mt x)):=hd;rw[e1];have e2:flatK mt (x::xs) ys=ys.filterMap (mt x)++xs.flatMap (fun x=>ys.filterMap (mt x)):=by unfold flatK;rw[List.flatMap_cons]
   rw[e2];cases hm:mt x y
   ·rw[List.filterMap_cons_none hm];rfl
   ·rw[List.filterMap_cons_some hm];rfl
termination_by a b=>a.length+b.length
end
def sH(a b:Iv):Rl×Bool:=if bW a.f b.f<0 then(b.f,b.fo) else if bW a.f b.f=0 then(a.f,a.fo||b.fo) else(a.f,a.fo)
def uS(a b:Iv):Rl×Bool:=if 0<bW a.t b.t then(b.t,b.tp) else if bW a.t b.t=0 then(a.t,a.tp||b.tp) else(a.t,a.tp)
def eU(a b:Iv):Iv:=⟨(sH a b).1,(uS a b).1,(sH a b).2,(uS a b).2⟩
def jQ(i:Iv):Bool:=decide (bW i.f i.t<0)||decide (bW i.f i.t=0)&&(!i.fo&& !i.tp)
def jf(a b:Iv):Option Iv:=if jQ (eU a b)=true then some (eU a b) else none
def ES(a b:Iv):Bool:=decide (bW a.t b.t<0)||decide (bW a.t b.t=0)&&(a.tp|| !b.tp)
def Ku{S:Rl->Prop}{ρ:Rl->Int}(T:gU S ρ){a b:Iv}(ha:S a.f)(hb:S b.f):(eU a b).b=a.b∧aV ρ b.b<=aV ρ a.b∨(eU a b).b=b.b∧aV ρ a.b<=aV ρ b.b:=by
 have h1:=T.lt ha hb;have h2:=T.zero ha hb;have h3:=T.gt ha hb;unfold eU sH Iv.b aV;dsimp only;rcases uP a.f b.f with h|h|h<;>rw[h] at h1 h2 h3 ⊢
 ·right
  have:=h1.1 (by decide);simp;split<;>split<;>omega
 ·have e:=h2.1 rfl;have e':=T.inj ha hb e;simp;rw[e'];cases a.fo<;>cases b.fo<;>simp<;>omega
 ·left
  have:=h3.1 (by decide);simp;split<;>split<;>omega
def Kv{S:Rl->Prop}{ρ:Rl->Int}(T:gU S ρ){a b:Iv}(ha:S a.t)(hb:S b.t):(eU a b).e=a.e∧aV ρ a.e<=aV ρ b.e∨(eU a b).e=b.e∧aV ρ b.e<=aV ρ a.e:=by
 have h1:=T.lt ha hb;have h2:=T.zero ha hb;have h3:=T.gt ha hb;unfold eU uS Iv.e aV;dsimp only;rcases uP a.t b.t with h|h|h<;>rw[h] at h1 h2 h3 ⊢
 ·left
  have:=h1.1 (by decide);simp;split<;>split<;>omega
 ·have e:=h2.1 rfl;have e':=T.inj ha hb e;simp;rw[e'];cases a.tp<;>cases b.tp<;>simp<;>omega
 ·right
  have:=h3.1 (by decide);simp;split<;>split<;>omega
theorem uU{S:Rl->Prop}{ρ:Rl->Int}(T:gU S ρ){i:Iv}(hf:S i.f)(ht:S i.t):jQ i=true↔aV ρ i.b<aV ρ i.e:=by
 have h1:=T.lt hf ht;have h2:=T.zero hf ht;unfold jQ aV Iv.b Iv.e;simp only[Bool.or_eq_true,Bool.and_eq_true,decide_eq_true_eq,h1,h2];cases i.fo<;>cases i.tp<;>simp<;>omega
def Yn{S:Rl->Prop}{ρ:Rl->Int}(T:gU S ρ){a b:Iv}(ha:S a.t)(hb:S b.t):ES a b=true↔aV ρ a.e<=aV ρ b.e:=by
 have h1:=T.lt ha hb;have h2:=T.zero ha hb;unfold ES aV Iv.e;simp only[Bool.or_eq_true,Bool.and_eq_true,decide_eq_true_eq,h1,h2];cases a.tp<;>cases b.tp<;>simp<;>omega
def Gt{S:Rl->Prop}{a b:Iv}(ha:S a.f∧S a.t)(hb:S b.f∧S b.t):S (eU a b).f∧S (eU a b).t:=by
 unfold eU sH uS;dsimp only
 constructor
 ·split
  ·exact hb.1
  ·split<;>exact ha.1
 ·split
  ·exact hb.2
  ·split<;>exact ha.2
theorem Yo{S:Rl->Prop}{ρ:Rl->Int}(T:gU S ρ){a b:Iv}(ha:S a.f∧S a.t)(hb:S b.f∧S b.t)(h:aV ρ a.e<=aV ρ b.b∨aV ρ b.e<=aV ρ a.b)(oa:aV ρ a.b<aV ρ a.e)(ob:aV ρ b.b<aV ρ b.e):jf a b=none:=by
 unfold jf;refine if_neg fun hk=>?_
 have hk:=(uU T (Gt ha hb).1 (Gt ha hb).2).1 hk;rcases Ku T ha.1 hb.1 with⟨e1,_⟩|⟨e1,_⟩<;>rcases Kv T ha.2 hb.2 with⟨e2,_⟩|⟨e2,_⟩<;>rw[e1,e2] at hk<;>omega
end Go.Via
namespace Go.Via
open Go
def sJ(x:Rl):List Rl->List Rl
 |[]=>[x]
 |y::ys=>if bW y x<0 then y::sJ x ys else if bW y x=0 then y::ys else x::y::ys
def fG(l:List Rl):List Rl:=l.foldl (fun o x=>sJ x o) []
theorem ET{S:Rl->Prop}{ρ:Rl->Int}(T:gU S ρ){x:Rl}(hx:S x):∀{l:List Rl},(∀y∈l,S y)->∀z,z∈sJ x l↔z=x∨z∈l
 |[],_,z=>by unfold sJ;simp
 |y::ys,h,z=>by
  have hy:=h y (List.mem_cons_self ..);have ih:=ET T hx (l:=ys) (fun w hw=>h w (List.mem_cons_of_mem _ hw)) z;unfold sJ
  split
  ·rw[List.mem_cons,ih,List.mem_cons]
   constructor
   ·rintro(h|h|h);exact .inr (.inl h);exact .inl h;exact .inr (.inr h)
   ·rintro(h|h|h);exact .inr (.inl h);exact .inl h;exact .inr (.inr h)
  ·split
   ·rename_i h2
    have e:y=x:=T.inj hy hx ((T.zero hy hx).1 h2)
    constructor
    ·exact .inr
    ·rintro(h|h)
     ·rw[h,<-e];exact List.mem_cons_self ..
     ·exact h
   ·rw[List.mem_cons]
def Hl{S:Rl->Prop}{ρ:Rl->Int}(T:gU S ρ){x:Rl}(hx:S x):∀{l:List Rl},(∀y∈l,S y)->l.Pairwise (fun a b=>ρ a<ρ b)->(sJ x l).Pairwise (fun a b=>ρ a<ρ b)
 |[],_,_=>List.pairwise_singleton ..
 |y::ys,h,hs=>by
  obtain⟨s1,s2⟩:=List.pairwise_cons.1 hs;have hy:=h y (List.mem_cons_self ..);have h':∀w∈ys,S w:=fun w hw=>h w (List.mem_cons_of_mem _ hw)
  have l1:=T.lt hy hx;have l2:=T.zero hy hx;unfold sJ
  split
  ·rename_i hc
   refine List.pairwise_cons.2 ⟨fun z hz=>?_,Hl T hx h' s2⟩;rcases(ET T hx h' z).1 hz with e|e
   ·rw[e];exact l1.1 hc
   ·exact s1 z e
  ·split
   ·exact hs
   ·have:ρ x<ρ y:=by
     have a1:¬ρ y<ρ x:=fun e=>absurd (l1.2 e) (by assumption)
     have a2:¬ρ y=ρ x:=fun e=>absurd (l2.2 e) (by assumption)
     omega
    refine List.pairwise_cons.2 ⟨fun z hz=>?_,hs⟩;rcases List.mem_cons.1 hz with e|e
    ·rw[e];exact this
    ·have:=s1 z e;omega
def uV{S:Rl->Prop}{ρ:Rl->Int}(T:gU S ρ){l:List Rl}(h:∀y∈l,S y):(fG l).Pairwise (fun a b=>ρ a<ρ b)∧∀z,z∈fG l↔z∈l:=by
 have gen:∀(l o:List Rl),(∀y∈l,S y)->(∀y∈o,S y)->o.Pairwise (fun a b=>ρ a<ρ b)->(l.foldl (fun o x=>sJ x o) o).Pairwise (fun a b=>ρ a<ρ b)∧∀z,z∈l.foldl (fun o x=>sJ x o) o↔z∈l∨z∈o:=by
  intro l
  induction l with
  |nil=>intro o _ _ hs;exact⟨hs,fun z=>by simp⟩
  |cons x l ih=>
   intro o hl ho hs;have hx:=hl x (List.mem_cons_self ..);obtain⟨i1,i2⟩:=ih (sJ x o) (fun y hy=>hl y (List.mem_cons_of_mem _ hy)) (fun y hy=>by
 rcases(ET T hx ho y).1 hy with e|e
 ·rw[e];exact hx
 ·exact ho y e) (Hl T hx ho hs)
   refine⟨i1,fun z=>?_⟩
   rw[List.foldl_cons,i2,ET T hx ho,List.mem_cons]
   constructor
   ·rintro(h|h|h);exact .inl (.inr h);exact .inl (.inl h);exact .inr h
   ·rintro((h|h)|h);exact .inr (.inl h);exact .inl h;exact .inr (.inr h)
 obtain⟨a,b⟩:=gen l [] h (by simp) List.Pairwise.nil;exact⟨a,fun z=>by rw[show z∈fG l↔_ from b z];simp⟩
def kY(op:Bool->Bool->Bool)(a b:List Iv):List Iv:=(NT (fun t=>op (oh a t) (oh b t)) (fun t u=>op (oq a t u) (oq b t u)) none (fG (bV (a++b)))).map fun p=>Ib p.1 p.2
theorem sK{a b:List Iv}:bV (a++b)=bV a++bV b:=by unfold bV;rw[List.flatMap_append]
theorem qaP{S:Rl->Prop}{ρ:Rl->Int}(T:gU S ρ){G:Int->Bool}{B C D:List qK}(HG:∀k1 k2,k1<=k2->(∀b∈B,¬(k1<aV ρ b∧aV ρ b<=k2))->G k1=G k2)(H0:∀k,(∀b∈B,k<aV ρ b)->G k=false)
 (hC:C.Pairwise (fun a b=>aV ρ a<aV ρ b))(hD:D.Pairwise (fun a b=>aV ρ a<aV ρ b))(bC:∀b∈B,b∈C)(bD:∀b∈B,b∈D):iP (fun c=>G (aV ρ c)) none C=iP (fun c=>G (aV ρ c)) none D:=by
 have low:∀C:List qK,∃lo:Int,∀c∈C,lo<aV ρ c:=fun C=>by
  induction C with
  |nil=>exact⟨0,fun c hc=>absurd hc (by simp)⟩
  |cons c C ih=>
   obtain⟨lo,h⟩:=ih;refine⟨min lo (aV ρ c-1),fun x hx=>?_⟩
   rcases List.mem_cons.1 hx with e|e
   ·subst e;omega
   ·have:=h x e;omega
 have one:∀C:List qK,C.Pairwise (fun a b=>aV ρ a<aV ρ b)->(∀b∈B,b∈C)->iP (fun c=>G (aV ρ c)) none C=iP (fun c=>G (aV ρ c)) none (C.filter fun c=>decide (c∈B)):=fun C hC bC=>by
  obtain⟨lo,hlo⟩:=low C;have hchk:=UU (ρ:=ρ) (G:=G) (p:=fun c=>decide (c∈B)) (B:=B) (fun c=>by rw[decide_eq_true_eq]) HG (lo:=lo) hC hlo fun c hc=> .inr (bC c hc)
  rw[H0 lo fun b hb=>hlo b (bC b hb)] at hchk
  exact pI (st:=none) hchk
 rw[one C hC bC,one D hD bD]
 congr 1
 refine yU (κ:=aV ρ) (hC.filter _) (hD.filter _) fun c=>?_
 rw[List.mem_filter,List.mem_filter,decide_eq_true_eq]
 constructor
 ·rintro⟨_,h⟩;exact⟨bD c h,h⟩
 ·rintro⟨_,h⟩;exact⟨bC c h,h⟩
theorem uy{S:Rl->Prop}{l:List Iv}(h:kE S l):∀x∈bV l,S x:=fun x hx=>by
 obtain⟨i,hi,e⟩:=nC.1 hx;rcases e with e|e<;>subst e;exact(h i hi).1;exact(h i hi).2
theorem nG{S:Rl->Prop}{a b:List Iv}(ha:kE S a)(hb:kE S b):kE S (a++b):=fun i hi=>by
 rcases List.mem_append.1 hi with h|h;exact ha i h;exact hb i h
theorem DL{S:Rl->Prop}{ρ:Rl->Int}(T:gU S ρ){op:Bool->Bool->Bool}(h0:op false false=false){a b:List Iv}(ha:kE S a)(hb:kE S b):
 kY op a b=(iP (fun c=>op (memB ρ a (aV ρ c)) (memB ρ b (aV ρ c))) none (nZ (fG (bV (a++b))))).map fun p=>Ib p.1 p.2:=by
 obtain⟨h1,h2⟩:=uV T (uy (nG ha hb));unfold kY;rw[EP (PM T h0 ha hb (pre:=[]) (fun t ht=>uy (nG ha hb) t ((h2 t).1 ht)) h1 (fun x hx=> .inl ((h2 x).2 (by rw[sK];exact hx))) fun i hi=>(nG ha hb i hi).1)]
def Kw{a b:List Iv}{S:Rl->Prop}{ρ:Rl->Int}(T:gU S ρ)(ha:kE S a)(hb:kE S b):∀c∈eX a++eX b,c∈nZ (fG (bV (a++b))):=fun c hc=>by
 obtain⟨_,h2⟩:=uV T (uy (nG ha hb));refine qY.2 ((h2 _).2 ?_);rw[sK];rcases List.mem_append.1 hc with h|h
 ·obtain⟨i,hi,e⟩:=gz.1 h;refine List.mem_append_left _ (nC.2 ⟨i,hi,?_⟩);rcases e with e|e<;>subst e;exact .inl rfl;exact .inr rfl
 ·obtain⟨i,hi,e⟩:=gz.1 h;refine List.mem_append_right _ (nC.2 ⟨i,hi,?_⟩);rcases e with e|e<;>subst e;exact .inl rfl;exact .inr rfl
end Go.Via
namespace Go.Via
open Go
structure Ln where
 x0:Rat
 x1:Rat
 y0:Rat
 y1:Rat
deriving DecidableEq
structure PU where
 i:Iv
 f:Ln
deriving DecidableEq
def fJ(i:Iv):Bool:=decide (i.f=i.t)
def qx(f:Ln):Qd:=⟨f.x0,f.x1,0⟩
def qy(f:Ln):Qd:=⟨f.y0,f.y1,0⟩
def jg(f:Ln)(t:Rl):Ln:=if t.r=0 then⟨wL (qx f) t.p,0,wL (qy f) t.p,0⟩ else f
def DN(f g:Ln):Ln:=⟨f.x0-g.x0,f.x1-g.x1,f.y0-g.y0,f.y1-g.y1⟩
def pJ(f g:Ln)(t:Rl):Bool:=decide (jg (DN f g) t=⟨0,0,0,0⟩)
def iH(u:PU):List PU:=
 (if u.i.fo=true then[] else[⟨⟨u.i.f,u.i.f,false,false⟩,u.f⟩])++
 (if fJ u.i=true then[] else⟨⟨u.i.f,u.i.t,true,true⟩,u.f⟩::(if u.i.tp=true then[] else[⟨⟨u.i.t,u.i.t,false,false⟩,u.f⟩]))
def aF(l:List PU):List PU:=l.flatMap iH
def qh(out:List PU)(t:Rl):Bool:=match out.getLast? with|some u=>decide (u.i.t=t)&& !u.i.tp|none=>false
def ui(out:List PU)(t:Rl):Option PU:=match out.getLast? with|some u=>if u.i.t=t∧fJ u.i=false then some u else none|none=>none
def jl(out:List PU)(u:PU):List PU:=out.dropLast++[u]
def kL(out:List PU)(prev:Option PU)(x:PU)(next:Option PU):List PU:=
 match fJ x.i,ui out x.i.f with
 |false,some b=>if b.i.tp=false∧b.f=x.f then jl out ⟨⟨b.i.f,x.i.t,b.i.fo,true⟩,b.f⟩ else
  out++[⟨⟨x.i.f,x.i.t,(match prev with|some p=>if fJ p.i=true∧p.i.f=x.i.f∧qh out x.i.f=false then false else x.i.fo|none=>x.i.fo),x.i.tp⟩,x.f⟩]
 |false,none=>out++[⟨⟨x.i.f,x.i.t,(match prev with|some p=>if fJ p.i=true∧p.i.f=x.i.f∧qh out x.i.f=false then false else x.i.fo|none=>x.i.fo),x.i.tp⟩,x.f⟩]
 |true,some b=>if pJ b.f x.f x.i.f=true then jl out ⟨⟨b.i.f,b.i.t,b.i.fo,false⟩,b.f⟩ else
  (match next with|some n=>if n.i.f=x.i.f∧pJ n.f x.f x.i.f=true then out else out++[⟨x.i,jg x.f x.i.f⟩]|none=>out++[⟨x.i,jg x.f x.i.f⟩])
 |true,none=>(match next with|some n=>if n.i.f=x.i.f∧pJ n.f x.f x.i.f=true then out else out++[⟨x.i,jg x.f x.i.f⟩]|none=>out++[⟨x.i,jg x.f x.i.f⟩])
def uX:Option PU->List PU->List PU->List PU
 |_,out,[]=>out
 |prev,out,x::xs=>uX (some x) (kL out prev x xs.head?) xs
def qL(l:List PU):List PU:=uX none [] (aF l)
def qH(ρ:Rl->Int)(l:List PU):Prop:=l.Pairwise (fun x y=>aV ρ x.i.e<=aV ρ y.i.b)∧∀x∈l,aV ρ x.i.b<aV ρ x.i.e
def Ends(S:Rl->Prop)(l:List PU):Prop:=∀x∈l,S x.i.f∧S x.i.t
def Ap(ρ:Rl->Int)(b:qK):2*ρ b.1<=aV ρ b∧aV ρ b<=2*ρ b.1+1:=by unfold aV;split<;>omega
def Au{ρ:Rl->Int}{l:List PU}{u:PU}(h:qH ρ l)(hu:aV ρ u.i.b<aV ρ u.i.e)(hl:∀x∈l,aV ρ x.i.e<=aV ρ u.i.b):qH ρ (l++[u]):=
 ⟨List.pairwise_append.2 ⟨h.1,List.pairwise_singleton ..,fun x hx y hy=>by rw[List.mem_singleton] at hy;rw[hy];exact hl x hx⟩,fun x hx=>by
 rcases List.mem_append.1 hx with e|e
 ·exact h.2 x e
 ·rw[List.mem_singleton] at e;rw[e];exact hu⟩
def x9{S:Rl->Prop}{l:List PU}{u:PU}(h:Ends S l)(hu:S u.i.f∧S u.i.t):Ends S (l++[u]):=fun x hx=>by
 rcases List.mem_append.1 hx with e|e
 ·exact h x e
 ·rw[List.mem_singleton] at e;rw[e];exact hu
theorem qi{l:List PU}{b:PU}(h:l.getLast? =some b):l=l.dropLast++[b]:=by
 have hne:l≠[]:=fun e=>by rw[e] at h;cases h
 have:=List.dropLast_concat_getLast hne;rw[List.getLast?_eq_some_getLast hne] at h
 injection h with h
 rw[h] at this;exact this.symm
def RU{ρ:Rl->Int}{l:List PU}{b:PU}(h:qH ρ (l++[b])):qH ρ l∧(∀x∈l,aV ρ x.i.e<=aV ρ b.i.b)∧aV ρ b.i.b<aV ρ b.i.e:=by
 obtain⟨h1,h2⟩:=h;obtain⟨a1,_,a3⟩:=List.pairwise_append.1 h1;exact⟨⟨a1,fun x hx=>h2 x (List.mem_append_left _ hx)⟩,fun x hx=>a3 x hx b (by simp),h2 b (by simp)⟩
def yc{out:List PU}{t:Rl}{b:PU}(h:ui out t=some b):out.getLast? =some b∧b.i.t=t∧fJ b.i=false:=by
 unfold ui at h;cases hl:out.getLast? with
 |none=>rw[hl] at h;cases h
 |some u=>
  rw[hl] at h;dsimp only at h
  split at h
  ·injection h with h;subst h;rename_i hc;exact⟨rfl,hc⟩
  ·cases h
def Yp{S:Rl->Prop}{ρ:Rl->Int}(T:gU S ρ){out:List PU}{prev next:Option PU}{x:PU}{lo:Int}(hs:qH ρ out)(he:Ends S out)(hx:S x.i.f∧S x.i.t)(ho:aV ρ x.i.b<aV ρ x.i.e)
 (hlo:∀u∈out,aV ρ u.i.e<=lo)(hxl:lo<=aV ρ x.i.b)(hform:(x.i.f=x.i.t∧x.i.fo=false∧x.i.tp=false)∨(ρ x.i.f<ρ x.i.t∧x.i.fo=true∧x.i.tp=true)):
 qH ρ (kL out prev x next)∧Ends S (kL out prev x next)∧∀u∈kL out prev x next,aV ρ u.i.e<=aV ρ x.i.e:=by
 have keepE:∀u∈out,aV ρ u.i.e<=aV ρ x.i.e:=fun u hu=>by have:=hlo u hu;omega
 have snocE:∀v:PU,aV ρ v.i.e=aV ρ x.i.e->∀u∈out++[v],aV ρ u.i.e<=aV ρ x.i.e:=fun v hv u hu=>by
  rcases List.mem_append.1 hu with e|e
  ·exact keepE u e
  ·rw[List.mem_singleton] at e;rw[e];omega
 have red:qH ρ (out++[⟨x.i,jg x.f x.i.f⟩])∧Ends S (out++[⟨x.i,jg x.f x.i.f⟩])∧∀u∈out++[⟨x.i,jg x.f x.i.f⟩],aV ρ u.i.e<=aV ρ x.i.e:=
  ⟨Au hs ho fun u hu=>by have:=hlo u hu;show _<=aV ρ x.i.b;omega,x9 he hx,snocE _ rfl⟩
 have app:qH ρ (out++[⟨⟨x.i.f,x.i.t,(match prev with|some p=>if fJ p.i=true∧p.i.f=x.i.f∧qh out x.i.f=false then false else x.i.fo|none=>x.i.fo),x.i.tp⟩,x.f⟩])∧Ends S (out++[⟨⟨x.i.f,x.i.t,(match prev with|some p=>if fJ p.i=true∧p.i.f=x.i.f∧qh out x.i.f=false then false else x.i.fo|none=>x.i.fo),x.i.tp⟩,x.f⟩])∧
  ∀u∈out++[⟨⟨x.i.f,x.i.t,(match prev with|some p=>if fJ p.i=true∧p.i.f=x.i.f∧qh out x.i.f=false then false else x.i.fo|none=>x.i.fo),x.i.tp⟩,x.f⟩],aV ρ u.i.e<=aV ρ x.i.e:=by
  generalize hb:(match prev with|some p=>if fJ p.i=true∧p.i.f=x.i.f∧qh out x.i.f=false then false else x.i.fo|none=>x.i.fo)=c
  have hc:c=x.i.fo∨(c=false∧qh out x.i.f=false):=by
   rw[<-hb];cases prev with
   |none=>exact .inl rfl
   |some p=>dsimp only;split;rename_i h;exact .inr ⟨rfl,h.2.2⟩;exact .inl rfl
  have hb0:aV ρ (x.i.f,c)<=aV ρ x.i.b:=by
   rcases hc with e|e
   ·rw[e];exact Int.le_refl _
   ·rw[e.1];unfold aV Iv.b;simp;split<;>omega
  refine⟨Au hs ?_ fun u hu=>?_,x9 he hx,snocE _ rfl⟩
  ·show aV ρ (x.i.f,c)<aV ρ x.i.e;omega
  ·show aV ρ u.i.e<=aV ρ (x.i.f,c);rcases hc with e|⟨e,hh⟩
   ·rw[e];have:=hlo u hu;have:aV ρ (x.i.f,x.i.fo)=aV ρ x.i.b:=rfl;omega
   ·rw[e]
    have hle:aV ρ u.i.e<=aV ρ x.i.b:=(by have:=hlo u hu;omega);have hne:out≠[]:=fun e=>by rw[e] at hu;simp at hu
    obtain⟨b,hbl⟩:∃b,out.getLast? =some b:=⟨_,List.getLast?_eq_some_getLast hne⟩;have hsn:=qi hbl;rw[hsn] at hs hu he hlo;obtain⟨i1,i2,i3⟩:=RU hs;have hbe:aV ρ b.i.e<=aV ρ (x.i.f,false):=by
     have h1:aV ρ b.i.e<=aV ρ x.i.b:=(by have:=hlo b (by simp);omega);unfold qh at hh;rw[hbl] at hh;dsimp only at hh;have hbS:=(he b (by simp)).2
     by_cases ht:b.i.t=x.i.f
     ·rw[decide_eq_true ht,Bool.true_and] at hh;have:b.i.tp=true:=by simpa using hh
      unfold aV Iv.e Iv.b at*;rw[this,ht];simp
     ·have hne:ρ b.i.t≠ρ x.i.f:=fun e=>ht (T.inj hbS hx.1 e)
      have k1:=Ap ρ b.i.e;have k2:=Ap ρ x.i.b;have k3:=Ap ρ (x.i.f,false);have k4:b.i.e.1=b.i.t:=rfl;have k5:x.i.b.1=x.i.f:=rfl;rw[k4] at k1;rw[k5] at k2;dsimp only at k3;omega
    rcases List.mem_append.1 hu with e'|e'
    ·have:=i2 u e';omega
    ·rw[List.mem_singleton] at e';rw[e'];exact hbe
 have nx:qH ρ (match next with|some n=>if n.i.f=x.i.f∧pJ n.f x.f x.i.f=true then out else out++[⟨x.i,jg x.f x.i.f⟩]|none=>out++[⟨x.i,jg x.f x.i.f⟩])∧Ends S (match next with|some n=>if n.i.f=x.i.f∧pJ n.f x.f x.i.f=true then out else out++[⟨x.i,jg x.f x.i.f⟩]|none=>out++[⟨x.i,jg x.f x.i.f⟩])∧
  ∀u:PU,u∈(match next with|some n=>if n.i.f=x.i.f∧pJ n.f x.f x.i.f=true then out else out++[(⟨x.i,jg x.f x.i.f⟩:PU)]|none=>out++[(⟨x.i,jg x.f x.i.f⟩:PU)])->aV ρ u.i.e<=aV ρ x.i.e:=by
  cases next with
  |none=>exact red
  |some n=>
   dsimp only
   split
   ·exact⟨hs,he,keepE⟩
   ·exact red
 have setE:∀{b v:PU},ui out x.i.f=some b->v.i.b=b.i.b->v.i.f=b.i.f->S v.i.t->aV ρ v.i.b<aV ρ v.i.e->aV ρ v.i.e<=aV ρ x.i.e->qH ρ (jl out v)∧Ends S (jl out v)∧∀u∈jl out v,aV ρ u.i.e<=aV ρ x.i.e:=fun {b v} hb h1 h2 h3 h4 h5=>by
  obtain⟨hl,_,_⟩:=yc hb;have hsn:=qi hl;have hs':=hs;have he':=he;rw[hsn] at hs' he';obtain⟨i1,i2,i3⟩:=RU hs';unfold jl;refine⟨Au i1 h4 fun u hu=>by rw[h1];exact i2 u hu,x9 (fun u hu=>he' u (List.mem_append_left _ hu)) ⟨by rw[h2];exact(he' b (by simp)).1,h3⟩,fun u hu=>?_⟩
  rcases List.mem_append.1 hu with e|e
  ·exact keepE u (by rw[hsn];exact List.mem_append_left _ e)
  ·rw[List.mem_singleton] at e;rw[e];exact h5
 unfold kL;have fin:∀b,ui out x.i.f=some b->(fJ x.i=false->b.i.tp=false∧b.f=x.f->qH ρ (jl out ⟨⟨b.i.f,x.i.t,b.i.fo,true⟩,b.f⟩)∧Ends S (jl out ⟨⟨b.i.f,x.i.t,b.i.fo,true⟩,b.f⟩)∧∀u∈jl out ⟨⟨b.i.f,x.i.t,b.i.fo,true⟩,b.f⟩,aV ρ u.i.e<=aV ρ x.i.e)∧
  (fJ x.i=true->qH ρ (jl out ⟨⟨b.i.f,b.i.t,b.i.fo,false⟩,b.f⟩)∧Ends S (jl out ⟨⟨b.i.f,b.i.t,b.i.fo,false⟩,b.f⟩)∧∀u∈jl out ⟨⟨b.i.f,b.i.t,b.i.fo,false⟩,b.f⟩,aV ρ u.i.e<=aV ρ x.i.e):=fun b hb=>by
  obtain⟨hl,ht,hn⟩:=yc hb;have hbm:b∈out:=by rw[qi hl];simp
  have hbo:=hs.2 b hbm;have hble:=hlo b hbm
  constructor
  ·intro hi _;refine setE hb rfl rfl hx.2 ?_ ?_
   ·have e1:aV ρ (Iv.e ⟨b.i.f,x.i.t,b.i.fo,true⟩)=2*ρ x.i.t:=by unfold aV Iv.e;simp
    have e2:aV ρ (Iv.b ⟨b.i.f,x.i.t,b.i.fo,true⟩)=aV ρ b.i.b:=rfl;rcases hform with hf|hf
    ·exfalso;unfold fJ at hi;rw[decide_eq_true hf.1] at hi;cases hi
    ·have e3:aV ρ x.i.b=2*ρ x.i.f+1:=by unfold aV Iv.b;rw[hf.2.1];simp
     show aV ρ (Iv.b ⟨b.i.f,x.i.t,b.i.fo,true⟩)<aV ρ (Iv.e ⟨b.i.f,x.i.t,b.i.fo,true⟩);omega
   ·rcases hform with hf|hf
    ·exfalso;unfold fJ at hi;rw[decide_eq_true hf.1] at hi;cases hi
    ·show aV ρ (Iv.e ⟨b.i.f,x.i.t,b.i.fo,true⟩)<=_;unfold aV Iv.e;rw[hf.2.2];exact Int.le_refl _
  ·intro hi;refine setE hb rfl rfl (by show S b.i.t;rw[ht];exact hx.1) ?_ ?_
   ·have e1:aV ρ b.i.e<=aV ρ (Iv.e ⟨b.i.f,b.i.t,b.i.fo,false⟩):=by
     have:=Ap ρ b.i.e;have e:b.i.e.1=b.i.t:=rfl;rw[e] at this;unfold aV Iv.e at*;simp at*;omega
    show aV ρ b.i.b<aV ρ (Iv.e ⟨b.i.f,b.i.t,b.i.fo,false⟩);omega
   ·rcases hform with hf|hf
    ·show aV ρ (Iv.e ⟨b.i.f,b.i.t,b.i.fo,false⟩)<=_;unfold aV Iv.e;rw[hf.2.2,ht,hf.1];exact Int.le_refl _
    ·exfalso;unfold fJ at hi;have:=of_decide_eq_true hi;rw[this] at hf;omega
 cases hi:fJ x.i
 ·cases hb:ui out x.i.f with
  |none=>exact app
  |some b=>
   dsimp only
   split
   ·rename_i hc;exact(fin b hb).1 hi hc
   ·exact app
 ·cases hb:ui out x.i.f with
  |none=>exact nx
  |some b=>
   dsimp only
   split
   ·exact(fin b hb).2 hi
   ·exact nx
end Go.Via
