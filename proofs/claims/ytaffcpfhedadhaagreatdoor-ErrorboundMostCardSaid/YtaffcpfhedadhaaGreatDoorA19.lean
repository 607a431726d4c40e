/-
  Part 19 (chapter 32): lemmas, walks. Each theorem states its own conditions.
-/
import Derived.Sort.Grow
import Derived.Sort.EncStr
import Derived.Lib.SliceRun
import Derived.Test.YtaffcpfhedadhaaGreatDoorA00
import Derived.Test.YtaffcpfhedadhaaGreatDoorA16
import Derived.Test.YtaffcpfhedadhaaGreatDoorA18
set_option linter.all false
set_option maxRecDepth 20000
set_option maxHeartbeats 20000000
section
variable{P Q:Prop}{T:Type}{R:T->Prop}
def Df(h:P:=by rw[Nat.eq_of_beq_eq_true hlen];rfl):=h
def qA(h:P:=by rw[ha];rfl):=h
def qkD(h:P:=by rcases List.mem_cons.1 hb with h|h;rw[h];rw[List.mem_singleton.1 h]):=h
def Io(h:P:=by rw[Nat.eq_of_beq_eq_true hn];decide):=h
end
namespace Go.Via
open Go Go.RowKit
abbrev Ey:=List UInt8
def qkE(c:UInt8):Bool:=(decide (65<=c.toNat)&&decide (c.toNat<=90))||(decide (97<=c.toNat)&&decide (c.toNat<=122))
def isDig(c:UInt8):Bool:=decide (48<=c.toNat)&&decide (c.toNat<=57)
def wch(c:UInt8):Bool:=qkE c||isDig c||c==95
def zch(c:UInt8):Bool:=decide (32<=c.toNat)&&decide (c.toNat<=126)
def qo7(l:Ey):Bool:=l.all zch&&decide (1<=l.length)&&decide (l.length<=40)
def qrh:Ey:=[60,61,43,45,124,92,42,38,40,41,91,93,44]
def spL:Ey:=[32,9,10]
def qri:List (Ey×Nat×Nat):=[([111,114],24,1),([97,110,100],23,2),([110,111,116],25,3),([60],21,4),([61],22,4),([43],18,5),([45],19,5),([124],7,5),([92],9,5),([42],20,6),([38],8,6),([100,117,114,105,110,103],12,7)]
def qrj:List (Ey×Nat×Nat):=[
 ([119,104,101,110],10,1),([100,101,102,105,110,101,100],11,1),([100,105,115,116,97,110,99,101,50],13,2),([115,112,101,101,100,50],14,1),([119,105,116,104,105,110],15,3),([105,110,115,105,100,101],16,2),([97,114,101,97,50],17,1),
 ([115,111,109,101,116,105,109,101],26,1),([97,108,119,97,121,115],27,1),([108,97,115,116,105,110,103],28,2),([115,104,105,102,116],29,2),([108,101,97,115,116],30,2)]
def qo8:List Ey:=[[118,97,108,117,101],[111,98,106,101,99,116,115],[119,104,101,114,101],[112,97,105,114,115],[112,111,105,110,116],[111,98,106,101,99,116],[122,111,110,101]]
def resL:List Ey:=qo8++qri.map (·.1)++qrj.map (·.1)
structure Ps where
 s:Ey
 pos:Nat
 k:Nat
 at_:Nat
 tx:Ey
 bat:Nat
 be:Nat
 fail:Bool
def Ps.ok(p:Ps):Prop:=p.s.length<=4096∧p.pos<=p.s.length
def Ps.tok(p:Ps)(a k n:Nat):Ps:={p with pos:=a+n,k:=k,at_:=a,tx:=(p.s.drop a).take n}
def dgs(l:Ey):Nat:=(l.takeWhile isDig).length
def qmQ(l:Ey):Nat:=
 match l.drop (dgs l) with
 |47::c::r=>if isDig c then dgs l+1+dgs (c::r) else dgs l
 |_=>dgs l
def quo:Ey->Option (Ey×Nat)
 |[]=>none
 |[c]=>if c=34 then some ([],0) else none
 |c::d::l=>if c=34 then(if d=34 then(quo l).map fun x=>(34::x.1,x.2+2) else some ([],0)) else(quo (d::l)).map fun x=>(c::x.1,x.2+1)
def Ps.quoted(p:Ps)(a:Nat):Ps:=
 match quo (p.s.drop (a+1)) with
 |some (n,k)=>if qo7 n then {p with pos:=a+k+2,k:=3,at_:=a,tx:=n} else {p with k:=5,at_:=a,tx:=[]}
 |none=>{p with k:=5,at_:=a,tx:=[]}
def Ps.skip(p:Ps):Nat:=p.pos+((p.s.drop p.pos).takeWhile spL.contains).length
def Ps.adv(p:Ps):Ps:=
 match p.s.drop p.skip with
 |[]=>{p with pos:=p.skip,k:=0,at_:=p.skip,tx:=[]}
 |c::r=>
  if qkE c then p.tok p.skip 1 ((c::r).takeWhile wch).length
  else if isDig c then p.tok p.skip 2 (qmQ (c::r))
  else if c=34 then({p with pos:=p.skip}).quoted p.skip
  else if qrh.contains c then p.tok p.skip 4 1
  else p.tok p.skip 5 0
def Ps.stop(p:Ps)(e:Nat):Ps:=if p.fail then p else {p with bat:=p.at_,be:=e,fail:=true}
def Ps.is(p:Ps)(x:Ey):Bool:= !p.fail&&(p.k==1||p.k==4)&&p.tx==x
def Ps.want(p:Ps)(x:Ey):Ps:=if p.is x then p.adv else p.stop 15
def Ps.name(p:Ps):Ps:=if p.fail||p.k !=1||resL.contains p.tx then p.stop 15 else if 40<p.tx.length then p.stop 34 else p.adv
def qiG(l:Ey):Nat:=l.foldl (fun n c=>n*10+(c.toNat-48)) 0
def qmR(t:Ey):Option Rat:=
 let a:=t.takeWhile isDig
 match t.drop a.length with
 |[]=>some (qiG a:Rat)
 |_::b=>if qiG b=0 then none else some (Rat.divInt (qiG a) (qiG b))
def qrk(q:Rat):Bool:=decide (q.den=1)&&decide (1<=q.num)&&decide (q.num<=1073741824)
def XT.numd(op:Nat)(q:Rat):XT:= .mk op [] (.q q) []
def Ps.number(p:Ps)(object:Bool):Rat×Ps:=
 if p.fail||p.k !=2 then(0,p.stop 15) else
 match qmR p.tx with
 |none=>(0,p.stop 6)
 |some q=>if object&& !qrk q then(0,p.stop 27) else(q,p.adv)
def qmS:Ey:=[45]
def Ps.signed(p:Ps):XT×Ps:=
 if p.is qmS then(.numd 1 (-(p.adv.number false).1),(p.adv.number false).2) else(.numd 1 (p.number false).1,(p.number false).2)
end Go.Via
namespace Go.Via
open Go
def Ps.cells(p:Ps):List Value:=[.string (lQ p.s),.int .i64 (p.pos:Nat),.int .i64 (p.k:Nat),.int .i64 (p.at_:Nat),.string (lQ p.tx),.int .i64 (p.bat:Nat),.int .i64 (p.be:Nat),.bool p.fail]
end Go.Via
namespace Go.Via
variable[Mo]
open Go Go.RowKit
def NB(l:Ey):List Value:=l.map fun b=> .int .u8 (b.toNat:Nat)
theorem O1(l:Ey):(NB l).length=l.length:=by simp[NB]
section
variable{P:Program}{bl:List Nat}{ops:Array Oper}{K:St->Prop}{rest:List Oper}{nt:Nat}{t:List (Nat×Value)}{L:List aJ}{d:Nat}{ty:TypeId}{pos:String}{af:Array Edge}{g:Option (Nat×Bool)}{x y:Operand}
end
end Go.Via
namespace Go.Via
variable[Mo]
open Go Go.RowKit
abbrev Bs.put(B:Bs)(f:Nat)(vs:List Value):Bs:=⟨B.w,B.S,{target:= .fn (.func f) #[],args:=vs.toArray}::B.D⟩
structure Bd where
 b:Option Nat
 n:Nat
 cap:Nat
 s:Ey
def Bd.ok(d:Bd):Prop:=d.s.length<=d.cap∧d.cap<=d.n∧(d.b=none↔d.cap=0)
abbrev OB(m:Nat):={r:OR m 1 // r.b=none↔r.cap=0}
def OB.bd{m:Nat}(r:OB m)(s:Ey):Bd:=⟨r.1.b,r.1.n,r.1.cap,s⟩
def OB.ok{m:Nat}(r:OB m){s:Ey}(h:s.length=m):(r.bd s).ok:=⟨by show s.length<=r.1.cap;rw[h];exact r.1.h,by have:=r.1.hn;show r.1.cap<=r.1.n;omega,r.2⟩
theorem Bd.pos{d:Bd}(h:d.ok):d.b≠none->d.n≠0:=fun hb=>by
 have h1:=h.2.1;have h2:d.cap≠0:=fun e=>hb (h.2.2.2 e)
 omega
end Go.Via
namespace Go.Via
variable[Mo]
open Go Go.RowKit
theorem Us(a b:Ey):lQ a++lQ b=lQ (a++b):=by
 apply ByteArray.ext
 simp[lQ,ByteArray.data_append]
section
variable{P:Program}{bl:List Nat}{ops:Array Oper}{K:St->Prop}{rest:List Oper}{nt:Nat}{t:List (Nat×Value)}{L:List aJ}{d:Nat}{ty:TypeId}{pos:String}{af:Array Edge}{g:Option (Nat×Bool)}{x y z:Operand}
def qmT{T U:Nat}{a b:ByteArray}{p q r:Ey}(hd:Nat.blt d nt=true)(hg:az ops ⟨some d,.binOp .add T x y U,ty,pos,af,g⟩ t=some true)(hx:ev t x=some (.string a))(hy:ev t y=some (.string b))(ha:a=lQ p)(hb:b=lQ q)(hr:p++q=r)(hlen:p.length+q.length<=17179869184)
 (h:aY P bl ops rest ⟨nt,(d,.string (lQ r))::t,L⟩ K):aY P bl ops (⟨some d,.binOp .add T x y U,ty,pos,af,g⟩::rest) ⟨nt,t,L⟩ K:=by
 subst ha;subst hb;subst hr;exact fD hd hg rfl (fun B a w hrel=>by
 have h1:=hrel.ev hx;have h2:=hrel.ev hy;have h3:=run_string_add_sum (P:=P) w (lQ p) (lQ q) (by rw[xR,xR];omega);rw[Us] at h3;simp[execOp,h1,h2,eqGuard,binOp,h3]) h
end
end Go.Via
namespace Go.Via
variable[Mo]
open Go Go.RowKit
section
variable{P:Program}{bl:List Nat}{ops:Array Oper}{K:St->Prop}{rest:List Oper}{nt:Nat}{t:List (Nat×Value)}{L:List aJ}{d:Nat}{ty:TypeId}{pos:String}{af:Array Edge}{g:Option (Nat×Bool)}{x y:Operand}
def GZ{f:Nat}{args:List Operand}{ts:Array TypeId}{dst:Option Nat}(vs caps:List Value){A C:List aJ}{X:Type}{res:X->Value}{L1:X->List aJ}(ks is:List Nat)(mk:X->List aJ)(hM:Jk bl=true)(hd:(match dst with|some d=>Nat.blt d nt|none=>true)=true)
 (hg:az ops ⟨dst,.call {callee:= .value x,args:=args.toArray,argTypes:=ts},ty,pos,af,g⟩ t=some true)(hf:ev t x=some (.func (.func f) #[] caps.toArray))
 (hv:args.map (ev t)=vs.map some)(hc:Dc P f (A++C) (vs++caps) X res L1)(hn:ks.Nodup)(hk:ks.map (fun k=>L[k]?)=A.map some)(hA:(A.all fun b=>b.own&&(Nat.blt b.e dn||b.base.isSome))=true)(hp:jq L (is.map some) C)(hC:(C.all fun b=> !b.own)=true)(hap:lL ((ks++is).map some) ((A++C).map (·.own))=true)
 (hlen:∀x,Nat.ble ks.length (L1 x).length=true)(hown:∀x,∀b∈L1 x,b.own=true∨∃a∈A,a.base=b.base∧b.base.isSome=true)(hL:∀x,setG L ks (L1 x)=mk x)
 (h:∀x,aY P bl ops rest (({nt:=nt,t:=t,L:=mk x}:St).put dst (res x)) K):
 aY P bl ops (⟨dst,.call {callee:= .value x,args:=args.toArray,argTypes:=ts},ty,pos,af,g⟩::rest) ⟨nt,t,L⟩ K:=
 qcH hd hg hM (X:=X) (nx:=fun x=>({nt:=nt,t:=t,L:=mk x}:St).put dst (res x)) (fun hd' B a w hr=>by
 have h1:(execOp a.eval ⟨dst,.call {callee:= .value x,args:=args.toArray,argTypes:=ts},ty,pos,af,g⟩).run P w= .ok (.enter f (vs++caps).toArray) w:=by
  have hfv:=hr.ev hf;have hva:args.toArray.map a.eval=vs.toArray:=EL;have hp:=hc.1;unfold iR at hp;cases hq:P.funcs[f]? with
  |none=>rw[hq] at hp;cases hp
  |some fn=>
   rw[hq] at hp;simp only[Bool.and_eq_true,Bool.not_eq_true'] at hp;obtain⟨h1,h2⟩:=hp;have h3:fn.body≠none:=Yl
   have h4:¬fn.name= "runtime.NumGoroutine" :=Ig;simp[execOp,resolve,hfv,hva,Deferred.ofValue,invoke,callFunc,hq,h4,h3]
 unfold Oper.wp;rw[h1];refine(hc.at ks is hn hk hA hp hC hap hlen hown hr.mem).mono ?_;rintro e w' ⟨x,rfl,hw⟩;refine⟨x,?_⟩;rw[hL] at hw;exact hr.put hd' hw) h
end
end Go.Via
namespace Go.Via
variable[Mo]
open Go Go.RowKit
section
variable{P:Program}{bl:List Nat}{ops:Array Oper}{K:St->Prop}{rest:List Oper}{nt:Nat}{t:List (Nat×Value)}{L:List aJ}{d:Nat}{ty:TypeId}{pos:String}{af:Array Edge}{g:Option (Nat×Bool)}{x y:Operand}
def oK{f:Nat}{args:List Operand}{ts:Array TypeId}(vs:List Value){v:Value}(hd:Nat.blt d nt=true)(hg:az ops ⟨some d,.call {callee:= .value x,args:=args.toArray,argTypes:=ts},ty,pos,af,g⟩ t=some true)
 (hf:ev t x=some (.func (.func f) #[] #[]))(hv:args.map (ev t)=vs.map some)(hc:aP P f vs.toArray v)(h:aY P bl ops rest ⟨nt,(d,v)::t,L⟩ K):
 aY P bl ops (⟨some d,.call {callee:= .value x,args:=args.toArray,argTypes:=ts},ty,pos,af,g⟩::rest) ⟨nt,t,L⟩ K:=
 qdA (caps:=[]) (L0:=[]) vs [] hd hg hf hv ⟨hc.1,fun w hL=>by
 have:=hc.2 w;rw[List.append_nil];exact this.mono (by rintro e w' ⟨rfl,hb⟩;exact⟨(),rfl,⟨.of hb,fun k b hk=>Tc,fun i j g bi bj hij hi=>Oj,mO.nil _ _⟩⟩)⟩ (by exact trivial) rfl h
def Ut{T:Nat}{v:Value}(hd:Nat.blt d nt=true)(hg:az ops ⟨some d,.makeInterface T x,ty,pos,af,g⟩ t=some true)(hx:ev t x=some v)(hm:∀w,(Instr.makeInterface T v).run P w= .ok (.iface T v) w)
 (h:aY P bl ops rest ⟨nt,(d,.iface T v)::t,L⟩ K):aY P bl ops (⟨some d,.makeInterface T x,ty,pos,af,g⟩::rest) ⟨nt,t,L⟩ K:=
 fD hd hg rfl (fun B a w hr=>by simp[execOp,hr.ev hx,hm w]) h
def yQ{n:String}{v:Value}(hd:Nat.blt d nt=true)(hg:az ops ⟨some d,.makeFunc (.method n) #[x] #[],ty,pos,af,g⟩ t=some true)(hx:ev t x=some v)(u:Value)(hm:∀w,(Instr.makeFunc (.method n) #[v] #[]).run P w= .ok u w)(h:aY P bl ops rest ⟨nt,(d,u)::t,L⟩ K):
 aY P bl ops (⟨some d,.makeFunc (.method n) #[x] #[],ty,pos,af,g⟩::rest) ⟨nt,t,L⟩ K:=
 fD hd hg rfl (fun B a w hr=>by simp[execOp,hr.ev hx,hm w]) h
def Az{n:String}{T:Nat}{u:Value}(hd:Nat.blt d nt=true)(hg:az ops ⟨some d,.nilCheck x,ty,pos,af,g⟩ t=some true)(hx:ev t x=some (.func (.method n) #[.iface T u] #[]))(hm:∀w,(nilAhead (P.types.size+Made.depth) T u n).run P w= .ok (some false) w)
 (h:aY P bl ops rest ⟨nt,(d,.func (.method n) #[.iface T u] #[])::t,L⟩ K):aY P bl ops (⟨some d,.nilCheck x,ty,pos,af,g⟩::rest) ⟨nt,t,L⟩ K:=
 fD hd hg rfl (fun B a w hr=>by
 have hp0:Sem.run P (Sem.program Sem.pure) w= .ok P w:=rfl;simp[execOp,hr.ev hx,program,hp0,hm w]) h
def Jw{f:Nat}{n:String}{args:List Operand}{ts:Array TypeId}(T:Nat)(u r:Value)(vs:List Value){v:Value}(hd:Nat.blt d nt=true)(hg:az ops ⟨some d,.call {callee:= .invoke x n,args:=args.toArray,argTypes:=ts},ty,pos,af,g⟩ t=some true)
 (hf:ev t x=some (.iface T u))(hm:∀w,(method (P.types.size+Made.depth) T u n).run P w= .ok (f,r) w)(hv:args.map (ev t)=vs.map some)(hc:aP P f (r::vs).toArray v)(h:aY P bl ops rest ⟨nt,(d,v)::t,L⟩ K):
 aY P bl ops (⟨some d,.call {callee:= .invoke x n,args:=args.toArray,argTypes:=ts},ty,pos,af,g⟩::rest) ⟨nt,t,L⟩ K:=
 Oq hd hg rfl rfl (X:=Unit) (nx:=fun _=>⟨nt,(d,v)::t,L⟩) (fun hd' B a w hr=>by
 have h1:(execOp a.eval ⟨some d,.call {callee:= .invoke x n,args:=args.toArray,argTypes:=ts},ty,pos,af,g⟩).run P w= .ok (.enter f (r::vs).toArray) w:=by
  have hfv:=hr.ev hf;have hva:args.toArray.map a.eval=vs.toArray:=EL;have hp:=hc.1;have hmw:=hm w;unfold iR at hp;cases hq:P.funcs[f]? with
  |none=>rw[hq] at hp;cases hp
  |some fn=>
   rw[hq] at hp;simp only[Bool.and_eq_true,Bool.not_eq_true'] at hp;obtain⟨h1,h2⟩:=hp;have h3:fn.body≠none:=Yl
   have h4:¬fn.name= "runtime.NumGoroutine" :=Ig;have hp0:Sem.run P (Sem.program Sem.pure) w= .ok P w:=rfl;simp[execOp,resolve,hfv,hva,invoke,callMethod,program,hp0,hmw,callFunc,hq,h4,h3]
 unfold Oper.wp;rw[h1];refine(hc.2 w).mono ?_;rintro e w' ⟨rfl,hw⟩;exact⟨(),hr.put hd' (hr.mem.same hw)⟩) fun _=>h
end
end Go.Via
namespace Go.Via
variable[Mo]
open Go Go.RowKit
def elW(P:Program)(e:Nat)(s:Nat)(z:Value):Prop:=((P.info? e).map fun inf=>(inf.size,Nat.ble inf.bytes 1024,inf.zero))=some (s,true,some z)∧e<dn
section
variable{P:Program}{bl:List Nat}{ops:Array Oper}{K:St->Prop}{rest:List Oper}{nt:Nat}{t:List (Nat×Value)}{L:List aJ}{d:Nat}{ty:TypeId}{pos:String}{af:Array Edge}{g:Option (Nat×Bool)}{x y:Operand}
def qd3{e s:Nat}{z:Value}(h:elW P e s z):∃inf,P.info? e=some inf∧inf.zero=some z∧inf.size=s∧inf.bytes<=1024:=by
 unfold elW at h;replace h:=h.1;cases hq:P.info? e with
 |none=>rw[hq] at h;cases h
 |some inf=>
  rw[hq] at h;simp at h;exact⟨inf,rfl,h.2.2,h.1,h.2.1⟩
def qbl{T e s:Nat}{z:Value}{b:aJ}{len cap b2o n2 c2:Nat}{b2:aJ}(k k2:Nat)(mk:AR (len+n2) s->List aJ)(hT:P.underlying T=some (.slice e))(hi:elW P e s z)(hd:Nat.blt d nt=true)
 (hg:az ops ⟨some d,.call {callee:= .builtin .append,args:= #[x,y],argTypes:= #[T,T]},ty,pos,af,g⟩ t=some true)
 (hk:L[k]? =some b)(ho:b.own=true)(he:b.e=e)(hx:ev t x=some (ay b.base 0 len cap))(hk2:L[k2]? =some b2)(hb2:b2.base=some b2o)(hy:ev t y=some (ay (some b2o) 0 n2 c2))(hs:Nat.blt 0 s=true)(hzs:z.cells.size=s)(hpos:Nat.blt 0 n2=true)
 (hlen:b.cs.length=len*s)(hcap:len<=cap)(hn:cap*s<=b.n)(hlen2:b2.cs.length=n2*s)(h1:∀v∈b2.cs,v.oneCell'=true)(hmax:len+n2<=17179869184)
 (hL:∀r,L.set k ⟨some r.g,e,b.cs++b2.cs,r.n,true⟩=mk r)
 (h:∀r:AR (len+n2) s,aY P bl ops rest ⟨nt,(d,ay (some r.g) 0 (len+n2) r.cap)::t,mk r⟩ K):
 aY P bl ops (⟨some d,.call {callee:= .builtin .append,args:= #[x,y],argTypes:= #[T,T]},ty,pos,af,g⟩::rest) ⟨nt,t,L⟩ K:=by
 obtain⟨inf,i1,i2,i3,i5⟩:=qd3 hi;subst i3;exact TM hi.2 k k2 mk hT i1 i2 (by simpa using hs) hzs ae hd hg hk ho he hlen hcap hn hx hk2 hlen2 TA hb2 hy h1 hmax hL h
end
def dL{B:Bs}{nt:Nat}{t:List (Nat×Value)}{L:List aJ}{Q:Act->World->Prop}(k:Nat){b:Option Nat}{e n:Nat}{cs:List Value}{o:Bool}(hk:L[k]? =some ⟨b,e,cs,n,o⟩)(hcs:cs≠[])(h:b.isSome=true->At B ⟨nt,t,L⟩ Q):At B ⟨nt,t,L⟩ Q:=fun a w hr=>h (by
 cases b with
 |none=>exact absurd ((hr.mem.blk k _ hk).2 rfl).1 hcs
 |some g=>rfl) a w hr
end Go.Via
namespace Go.Via
variable[Mo]
open Go Go.RowKit
def lZ{P:Program}{B:Bs}{s:St}{Q:Exit->Act->World->Prop}{x y:Code}{nt:Nat}{X:Type}(T:X->List (Nat×Value))(LL:X->List aJ)
 (h1:At B s (x.wp P (Exit.then (fun a w=>∃z,kQ B ⟨nt,T z,LL z⟩ a w) Q)))(h2:∀z,At B ⟨nt,T z,LL z⟩ (y.wp P Q)):At B s ((Code.seq x y).wp P Q):=
 VO fun a w hr=>Code.wp_mono (fun e a w h=>by
 cases e with
 |normal=>obtain⟨z,h⟩:=h;exact h2 z a w h
 |_=>exact h) (h1 a w hr)
def iZ{B:Bs}{nt:Nat}{t:List (Nat×Value)}{L:List aJ}{X:Type}{T:X->List (Nat×Value)}{LL:X->List aJ}(z:X)(lk:jS t (T z))(hw:dR L (LL z)):At B ⟨nt,t,L⟩ (fun a w=>∃z,kQ B ⟨nt,T z,LL z⟩ a w):=fun a w hr=>
 ⟨z,hr.df,hr.size,fun d v hd=>hr.tmp d v (lk.mem (d,v) (uu hd)),hw _ _ hr.mem⟩
end Go.Via
namespace Go.Via
variable[Mo]
open Go Go.RowKit
def AA(n:Nat)(R:List Nat):Array Bool:=((List.range n).map fun j=> !R.contains j).toArray
theorem KX{n:Nat}{R:List Nat}{j:Nat}:(AA n R)[j]? =if j<n then some (!R.contains j) else none:=by
 unfold AA;simp[List.getElem?_map,List.getElem?_range]
 split<;>simp_all
theorem Uu{n:Nat}{R:List Nat}{i:Nat}:(AA n R).setIfInBounds i true=AA n (R.filter (· !=i)):=by
 refine Array.ext_getElem? fun j=>?_
 rw[Array.getElem?_setIfInBounds,KX,KX];have hs:(AA n R).size=n:=by simp[AA]
 rw[hs]
 by_cases e:i=j
 ·subst e
  by_cases h:i<n
  ·simp[h]
  ·simp[h]
 ·rw[if_neg e];have:(R.filter (· !=i)).contains j=R.contains j:=by
   rw[Bool.eq_iff_iff];simp[List.mem_filter];exact fun _ h=>e h.symm
  rw[this]
theorem qd4{n:Nat}:Array.replicate n false=AA n (List.range n):=by
 refine Array.ext_getElem? fun j=>?_
 rw[KX,Array.getElem?_replicate]
 split
 ·rename_i h;simp[h]
 ·rfl
def ja(P:Program)(ops:Array Oper)(X:Act->World->Prop)(B:Bs)(n:Nat)(R:List Nat)(s:St):Prop:=∀a w,kQ B s a w->wpAny P .any ops (qZ X) n (AA ops.size R) a w
section
variable{P:Program}{ops:Array Oper}{X:Act->World->Prop}{B:Bs}{n:Nat}{R:List Nat}
def qmU{s:St}(h:Region.ready .any ops (AA ops.size R)=[])(hk:At B s X):ja P ops X B 0 R s:=fun a w hr=>⟨h,hk a w hr⟩
def aV{s:St}(l:List Nat)(h1:Region.ready .any ops (AA ops.size R)=l)(h2:l.isEmpty=false)
 (h:CO (fun i=>∃o,ops[i]? =some o∧aY P [1000000] ops [o] s (fun s'=>ja P ops X B n (R.filter (· !=i)) s')) l):ja P ops X B (n+1) R s:=fun a w hr=>by
 refine⟨fun h0=>?_,fun i hi=>?_⟩
 ·rw[h1] at h0;subst h0;cases h2
 ·rw[h1] at hi;obtain⟨o,ho,hs⟩:=h.mem i hi;have:=iP.sound (K':=fun a' w'=>wpAny P .any ops (qZ X) n ((AA ops.size R).setIfInBounds i true) a' w') (Q:=qZ X) hs hr (fun s' a' w' hk hr'=>by rw[Uu];exact hk a' w' hr')
  unfold wpOp;rw[ho];dsimp only
  split
  ·rename_i hw;rw[if_pos hw] at this;exact .inl this
  ·rename_i hw;rw[if_neg hw] at this;exact this
def oV{nt:Nat}{t:List (Nat×Value)}{L:List aJ}(i:Nat){l':List Oper}(hc:(Region.noSelect ops&&yL ops (AA ops.size R) [i])=true)(hl:[ops.getD i default]=l')
 (h:aY P [] ops l' ⟨nt,t,[]⟩ (fun s'=>ja P ops X B n (R.filter (· !=i)) ⟨nt,s'.t,L⟩)):ja P ops X B (n+1) R ⟨nt,t,L⟩:=fun a w hr=>by
 simp only[Bool.and_eq_true] at hc;subst hl;have:=wF (P:=P) (B:=B) (w:=w) (nt:=nt) (L:=L) (n:=n) (X:=X) hc.1 (G:=fun t listed=>ja P ops X B n (R.filter (· !=i)) ⟨nt,t,L⟩∧listed=AA ops.size (R.filter (· !=i)))
  (fun t listed a hG hrel=>by rw[hG.2];exact hG.1 a w hrel) [i] (AA ops.size R) t a hc.2 (aY.mono (fun s' h=>⟨h,by simp only[List.foldl];exact Uu⟩) h) hr
 rw[show[i].length+n=n+1 by simp;omega] at this;exact this
def bF{nt:Nat}{t:List (Nat×Value)}{L:List aJ}{Z:Type}{T:Z->List (Nat×Value)}{LL:Z->List aJ}(h:∀z,ja P ops X B n R ⟨nt,T z,LL z⟩)(z:Z)(lk:jS t (T z))(hw:dR L (LL z)):ja P ops X B n R ⟨nt,t,L⟩:=
 fun a w hr=>h z a w ⟨hr.df,hr.size,fun d v hd=>hr.tmp d v (lk.mem (d,v) (uu hd)),hw _ _ hr.mem⟩
def aS{nt:Nat}{Z:Type}(T:Z->List (Nat×Value))(LL:Z->List aJ)(m:Nat)(R':List Nat){s:St}(h:∀z,ja P ops X B m R' ⟨nt,T z,LL z⟩)(k:(∀z,ja P ops X B m R' ⟨nt,T z,LL z⟩)->ja P ops X B n R s):ja P ops X B n R s:=k h
end
def qbm{P:Program}{B:Bs}{Q:Exit->Act->World->Prop}{s:St}{id:Nat}{l:List Oper}(n:Nat)(R:List Nat)(hm:P.follows .mixedOrders=true)(hn:(l.length==n&&R==List.range n)=true)
 (h:ja P l.toArray (Q .normal) B n R s):At B s ((Code.region id l.toArray true).wp P Q):=fun a w hr=>by
 simp only[Bool.and_eq_true,beq_iff_eq] at hn;obtain⟨rfl,rfl⟩:=hn;refine wp_region_any hm ?_;have hsz:l.toArray.size=l.length:=bI
 refine pG (Q:=qZ (Q .normal)) (Q':=Q) (fun _ _ h=>h) (fun _ _ _ h=>h.elim) (fun⟨_,_,h⟩=>h.elim) _ _ _ _ ?_;rw[qd4];have:=h a _ hr.drew;rw[hsz] at*;exact this
end Go.Via
namespace Go.Via
open Go Go.RowKit
def xY{P:Program}{B:Bs}{Q:Exit->Act->World->Prop}{nt:Nat}{t:List (Nat×Value)}{L:List aJ}{id:Nat}{l:List Oper}{Z:Type}(T:Z->List (Nat×Value))(LL:Z->List aJ)(n:Nat)(R:List Nat)(hm:P.follows .mixedOrders=true)
 (hn:(l.length==n&&R==List.range n&&(Region.ready .any l.toArray (AA l.toArray.size [])).isEmpty)=true)
 (h:(∀z,ja P l.toArray (Q .normal) B 0 [] ⟨nt,T z,LL z⟩)->ja P l.toArray (Q .normal) B n R ⟨nt,t,L⟩)(hk:∀z,At B ⟨nt,T z,LL z⟩ (Q .normal)):At B ⟨nt,t,L⟩ ((Code.region id l.toArray true).wp P Q):=by
 rw[Bool.and_eq_true] at hn;exact qbm n R hm hn.1 (h fun z=>qmU (List.isEmpty_iff.1 hn.2) (hk z))
end Go.Via
namespace Go.Via
variable[Mo]
open Go Go.RowKit
section
variable{P:Program}{bl:List Nat}{ops:Array Oper}{K:St->Prop}{rest:List Oper}{nt:Nat}{t:List (Nat×Value)}{L:List aJ}{d:Nat}{ty:TypeId}{pos:String}{af:Array Edge}{g:Option (Nat×Bool)}{x y:Operand}
def L2{T:Nat}{i:TI}{b:aJ}{a0 a1:Value}(k off:Nat)(h:aY P bl ops rest ⟨nt,(d,.agg #[a0,a1])::t,L⟩ K)(hi:dO P T i=true:=by exact vT _)(hd:Nat.blt d nt=true:=by rfl)(hg:az ops ⟨some d,.load T x,ty,pos,af,g⟩ t=some true:=by rfl)(hk:(blank bl L)[k]? =some b:=by rfl)(hx:ev t x=some (b.at off):=by rfl)(hvs:(b.cs.drop off).take i.size=[a0,a1]:=by rfl)(hlen:Nat.beq i.size 2=true:=by rfl)(ha:i.agg=true:=by rfl):aY P bl ops (⟨some d,.load T x,ty,pos,af,g⟩::rest) ⟨nt,t,L⟩ K:=aG k off [a0,a1] hd hg hk hx hi hvs (Nat.eq_of_beq_eq_true hlen).symm Df qA h
def L4{T:Nat}{i:TI}{b:aJ}{a0 a1 a2 a3:Value}(k off:Nat)(h:aY P bl ops rest ⟨nt,(d,.agg #[a0,a1,a2,a3])::t,L⟩ K)(hi:dO P T i=true:=by exact vT _)(hd:Nat.blt d nt=true:=by rfl)(hg:az ops ⟨some d,.load T x,ty,pos,af,g⟩ t=some true:=by rfl)(hk:(blank bl L)[k]? =some b:=by rfl)(hx:ev t x=some (b.at off):=by rfl)(hvs:(b.cs.drop off).take i.size=[a0,a1,a2,a3]:=by rfl)(hlen:Nat.beq i.size 4=true:=by rfl)(ha:i.agg=true:=by rfl):aY P bl ops (⟨some d,.load T x,ty,pos,af,g⟩::rest) ⟨nt,t,L⟩ K:=aG k off [a0,a1,a2,a3] hd hg hk hx hi hvs (Nat.eq_of_beq_eq_true hlen).symm Df qA h
def L8{T:Nat}{i:TI}{b:aJ}{a0 a1 a2 a3 a4 a5 a6 a7:Value}(k off:Nat)(h:aY P bl ops rest ⟨nt,(d,.agg #[a0,a1,a2,a3,a4,a5,a6,a7])::t,L⟩ K)(hi:dO P T i=true:=by exact vT _)(hd:Nat.blt d nt=true:=by rfl)(hg:az ops ⟨some d,.load T x,ty,pos,af,g⟩ t=some true:=by rfl)(hk:(blank bl L)[k]? =some b:=by rfl)(hx:ev t x=some (b.at off):=by rfl)(hvs:(b.cs.drop off).take i.size=[a0,a1,a2,a3,a4,a5,a6,a7]:=by rfl)(hlen:Nat.beq i.size 8=true:=by rfl)(ha:i.agg=true:=by rfl):aY P bl ops (⟨some d,.load T x,ty,pos,af,g⟩::rest) ⟨nt,t,L⟩ K:=aG k off [a0,a1,a2,a3,a4,a5,a6,a7] hd hg hk hx hi hvs (Nat.eq_of_beq_eq_true hlen).symm Df qA h
def L9{T:Nat}{i:TI}{b:aJ}{a0 a1 a2 a3 a4 a5 a6 a7 a8:Value}(k off:Nat)(h:aY P bl ops rest ⟨nt,(d,.agg #[a0,a1,a2,a3,a4,a5,a6,a7,a8])::t,L⟩ K)(hi:dO P T i=true:=by exact vT _)(hd:Nat.blt d nt=true:=by rfl)(hg:az ops ⟨some d,.load T x,ty,pos,af,g⟩ t=some true:=by rfl)(hk:(blank bl L)[k]? =some b:=by rfl)(hx:ev t x=some (b.at off):=by rfl)(hvs:(b.cs.drop off).take i.size=[a0,a1,a2,a3,a4,a5,a6,a7,a8]:=by rfl)(hlen:Nat.beq i.size 9=true:=by rfl)(ha:i.agg=true:=by rfl):aY P bl ops (⟨some d,.load T x,ty,pos,af,g⟩::rest) ⟨nt,t,L⟩ K:=aG k off [a0,a1,a2,a3,a4,a5,a6,a7,a8] hd hg hk hx hi hvs (Nat.eq_of_beq_eq_true hlen).symm Df qA h
def L10{T:Nat}{i:TI}{b:aJ}{a0 a1 a2 a3 a4 a5 a6 a7 a8 a9:Value}(k off:Nat)(h:aY P bl ops rest ⟨nt,(d,.agg #[a0,a1,a2,a3,a4,a5,a6,a7,a8,a9])::t,L⟩ K)(hi:dO P T i=true:=by exact vT _)(hd:Nat.blt d nt=true:=by rfl)(hg:az ops ⟨some d,.load T x,ty,pos,af,g⟩ t=some true:=by rfl)(hk:(blank bl L)[k]? =some b:=by rfl)(hx:ev t x=some (b.at off):=by rfl)(hvs:(b.cs.drop off).take i.size=[a0,a1,a2,a3,a4,a5,a6,a7,a8,a9]:=by rfl)(hlen:Nat.beq i.size 10=true:=by rfl)(ha:i.agg=true:=by rfl):aY P bl ops (⟨some d,.load T x,ty,pos,af,g⟩::rest) ⟨nt,t,L⟩ K:=aG k off [a0,a1,a2,a3,a4,a5,a6,a7,a8,a9] hd hg hk hx hi hvs (Nat.eq_of_beq_eq_true hlen).symm Df qA h
def vU{T:Nat}{i:TI}{b:aJ}{a0 a1 a2 a3 a4 a5 a6 a7 a8 a9 a10 a11:Value}(k off:Nat)(h:aY P bl ops rest ⟨nt,(d,.agg #[a0,a1,a2,a3,a4,a5,a6,a7,a8,a9,a10,a11])::t,L⟩ K)(hi:dO P T i=true:=by exact vT _)(hd:Nat.blt d nt=true:=by rfl)(hg:az ops ⟨some d,.load T x,ty,pos,af,g⟩ t=some true:=by rfl)(hk:(blank bl L)[k]? =some b:=by rfl)(hx:ev t x=some (b.at off):=by rfl)(hvs:(b.cs.drop off).take i.size=[a0,a1,a2,a3,a4,a5,a6,a7,a8,a9,a10,a11]:=by rfl)(hlen:Nat.beq i.size 12=true:=by rfl)(ha:i.agg=true:=by rfl):aY P bl ops (⟨some d,.load T x,ty,pos,af,g⟩::rest) ⟨nt,t,L⟩ K:=aG k off [a0,a1,a2,a3,a4,a5,a6,a7,a8,a9,a10,a11] hd hg hk hx hi hvs (Nat.eq_of_beq_eq_true hlen).symm Df qA h
def L16{T:Nat}{i:TI}{b:aJ}{a0 a1 a2 a3 a4 a5 a6 a7 a8 a9 a10 a11 a12 a13 a14 a15:Value}(k off:Nat)(h:aY P bl ops rest ⟨nt,(d,.agg #[a0,a1,a2,a3,a4,a5,a6,a7,a8,a9,a10,a11,a12,a13,a14,a15])::t,L⟩ K)(hi:dO P T i=true:=by exact vT _)(hd:Nat.blt d nt=true:=by rfl)(hg:az ops ⟨some d,.load T x,ty,pos,af,g⟩ t=some true:=by rfl)(hk:(blank bl L)[k]? =some b:=by rfl)(hx:ev t x=some (b.at off):=by rfl)(hvs:(b.cs.drop off).take i.size=[a0,a1,a2,a3,a4,a5,a6,a7,a8,a9,a10,a11,a12,a13,a14,a15]:=by rfl)(hlen:Nat.beq i.size 16=true:=by rfl)(ha:i.agg=true:=by rfl):aY P bl ops (⟨some d,.load T x,ty,pos,af,g⟩::rest) ⟨nt,t,L⟩ K:=aG k off [a0,a1,a2,a3,a4,a5,a6,a7,a8,a9,a10,a11,a12,a13,a14,a15] hd hg hk hx hi hvs (Nat.eq_of_beq_eq_true hlen).symm Df qA h
def yz{T:Nat}{i:TI}{b:aJ}{a0 a1 a2 a3 a4 a5 a6 a7 a8 a9 a10 a11 a12 a13 a14 a15 a16 a17 a18 a19:Value}(k off:Nat)(h:aY P bl ops rest ⟨nt,(d,.agg #[a0,a1,a2,a3,a4,a5,a6,a7,a8,a9,a10,a11,a12,a13,a14,a15,a16,a17,a18,a19])::t,L⟩ K)(hi:dO P T i=true:=by exact vT _)(hd:Nat.blt d nt=true:=by rfl)(hg:az ops ⟨some d,.load T x,ty,pos,af,g⟩ t=some true:=by rfl)(hk:(blank bl L)[k]? =some b:=by rfl)(hx:ev t x=some (b.at off):=by rfl)(hvs:(b.cs.drop off).take i.size=[a0,a1,a2,a3,a4,a5,a6,a7,a8,a9,a10,a11,a12,a13,a14,a15,a16,a17,a18,a19]:=by rfl)(hlen:Nat.beq i.size 20=true:=by rfl)(ha:i.agg=true:=by rfl):aY P bl ops (⟨some d,.load T x,ty,pos,af,g⟩::rest) ⟨nt,t,L⟩ K:=aG k off [a0,a1,a2,a3,a4,a5,a6,a7,a8,a9,a10,a11,a12,a13,a14,a15,a16,a17,a18,a19] hd hg hk hx hi hvs (Nat.eq_of_beq_eq_true hlen).symm Df qA h
def L36{T:Nat}{i:TI}{b:aJ}{a0 a1 a2 a3 a4 a5 a6 a7 a8 a9 a10 a11 a12 a13 a14 a15 a16 a17 a18 a19 a20 a21 a22 a23 a24 a25 a26 a27 a28 a29 a30 a31 a32 a33 a34 a35:Value}(k off:Nat)(h:aY P bl ops rest ⟨nt,(d,.agg #[a0,a1,a2,a3,a4,a5,a6,a7,a8,a9,a10,a11,a12,a13,a14,a15,a16,a17,a18,a19,a20,a21,a22,a23,a24,a25,a26,a27,a28,a29,a30,a31,a32,a33,a34,a35])::t,L⟩ K)(hi:dO P T i=true:=by exact vT _)(hd:Nat.blt d nt=true:=by rfl)(hg:az ops ⟨some d,.load T x,ty,pos,af,g⟩ t=some true:=by rfl)(hk:(blank bl L)[k]? =some b:=by rfl)(hx:ev t x=some (b.at off):=by rfl)(hvs:(b.cs.drop off).take i.size=[a0,a1,a2,a3,a4,a5,a6,a7,a8,a9,a10,a11,a12,a13,a14,a15,a16,a17,a18,a19,a20,a21,a22,a23,a24,a25,a26,a27,a28,a29,a30,a31,a32,a33,a34,a35]:=by rfl)(hlen:Nat.beq i.size 36=true:=by rfl)(ha:i.agg=true:=by rfl):aY P bl ops (⟨some d,.load T x,ty,pos,af,g⟩::rest) ⟨nt,t,L⟩ K:=aG k off [a0,a1,a2,a3,a4,a5,a6,a7,a8,a9,a10,a11,a12,a13,a14,a15,a16,a17,a18,a19,a20,a21,a22,a23,a24,a25,a26,a27,a28,a29,a30,a31,a32,a33,a34,a35] hd hg hk hx hi hvs (Nat.eq_of_beq_eq_true hlen).symm Df qA h
def L38{T:Nat}{i:TI}{b:aJ}{a0 a1 a2 a3 a4 a5 a6 a7 a8 a9 a10 a11 a12 a13 a14 a15 a16 a17 a18 a19 a20 a21 a22 a23 a24 a25 a26 a27 a28 a29 a30 a31 a32 a33 a34 a35 a36 a37:Value}(k off:Nat)(h:aY P bl ops rest ⟨nt,(d,.agg #[a0,a1,a2,a3,a4,a5,a6,a7,a8,a9,a10,a11,a12,a13,a14,a15,a16,a17,a18,a19,a20,a21,a22,a23,a24,a25,a26,a27,a28,a29,a30,a31,a32,a33,a34,a35,a36,a37])::t,L⟩ K)(hi:dO P T i=true:=by exact vT _)(hd:Nat.blt d nt=true:=by rfl)(hg:az ops ⟨some d,.load T x,ty,pos,af,g⟩ t=some true:=by rfl)(hk:(blank bl L)[k]? =some b:=by rfl)(hx:ev t x=some (b.at off):=by rfl)(hvs:(b.cs.drop off).take i.size=[a0,a1,a2,a3,a4,a5,a6,a7,a8,a9,a10,a11,a12,a13,a14,a15,a16,a17,a18,a19,a20,a21,a22,a23,a24,a25,a26,a27,a28,a29,a30,a31,a32,a33,a34,a35,a36,a37]:=by rfl)(hlen:Nat.beq i.size 38=true:=by rfl)(ha:i.agg=true:=by rfl):aY P bl ops (⟨some d,.load T x,ty,pos,af,g⟩::rest) ⟨nt,t,L⟩ K:=aG k off [a0,a1,a2,a3,a4,a5,a6,a7,a8,a9,a10,a11,a12,a13,a14,a15,a16,a17,a18,a19,a20,a21,a22,a23,a24,a25,a26,a27,a28,a29,a30,a31,a32,a33,a34,a35,a36,a37] hd hg hk hx hi hvs (Nat.eq_of_beq_eq_true hlen).symm Df qA h
def Al{T:Nat}{l:List Value}{mk:Nat->List aJ}(n:Nat)(hz:(P.info? T).bind (·.zero)=some (.agg l.toArray))(h:∀b,aY P bl ops rest ⟨nt,(d,.pointer (some ⟨b,0,none⟩))::t,mk b⟩ K)(hd:Nat.blt d nt=true:=by rfl)(hg:az ops ⟨some d,.alloc T,ty,pos,af,g⟩ t=some true:=by rfl)(hn:l.length=n:=by rfl)(hL:∀b,L++[⟨some b,T,l,n,true⟩]=mk b:=by intro b;first|(dsimp only[List.cons_append,List.nil_append];done)|(dsimp only[List.cons_append,List.nil_append];exact rfl)|exact rfl)(hT:Nat.blt T dn=true:=by rfl):aY P bl ops (⟨some d,.alloc T,ty,pos,af,g⟩::rest) ⟨nt,t,L⟩ K:=oQ l n mk hd hg hz rfl hn hL h hT
def Bp{T:Nat}{l:List Value}{mk:Nat->List aJ}(n:Nat)(h:∀b,aY P bl ops rest ⟨nt,(d,.pointer (some ⟨b,0,none⟩))::t,mk b⟩ K)(hd:Nat.blt d nt=true:=by rfl)(hg:az ops ⟨some d,.box T x,ty,pos,af,g⟩ t=some true:=by rfl)(hx:ev t x=some (.agg l.toArray):=by rfl)(hn:l.length=n:=by rfl)(hL:∀b,L++[⟨some b,T,l,n,true⟩]=mk b:=by intro b;first|(dsimp only[List.cons_append,List.nil_append];done)|(dsimp only[List.cons_append,List.nil_append];exact rfl)|exact rfl)(hT:Nat.blt T dn=true:=by rfl):aY P bl ops (⟨some d,.box T x,ty,pos,af,g⟩::rest) ⟨nt,t,L⟩ K:=qkn l n mk hd hg hx rfl hn hL h hT
def Sc{f:Nat}{args:List Operand}{ts:Array TypeId}{vs:List Value}{L0:List aJ}{X:Type}[hX:Nonempty X]{res:X->Value}{new:X->List aJ}(ks:List Nat)(hd:Nat.blt d nt=true:=by rfl)(hg:az ops ⟨some d,.call {callee:= .value (.func f),args:=args.toArray,argTypes:=ts},ty,pos,af,g⟩ t=some true:=by rfl)(hv:args.map (ev t)=vs.map some:=by rfl):∀(hc:bZ P f L0 vs X res new) (h:∀x,aY P bl ops rest ⟨nt,(d,res x)::t,L++new x⟩ K) (hp:jq L (ks.map some) L0:=by repeat (first|exact trivial|refine⟨⟨_,rfl,aJ.le_refl _⟩,?_⟩|refine⟨⟨_,rfl,fM⟩,?_⟩)) (ho:(L0.all fun b=> !b.own)=true:=by rfl) (hn:False∨∀x,∀b∈new x,b.own=true:=by first|exact .inr fun x b hb=>by rw[List.mem_singleton.1 hb]|exact .inr fun x b hb=>qkD),aY P bl ops (⟨some d,.call {callee:= .value (.func f),args:=args.toArray,argTypes:=ts},ty,pos,af,g⟩::rest) ⟨nt,t,L⟩ K:=fun hc h hp ho hn=>fQ vs ks hd hg hv hc hp ho hn h
def Sd{f:Nat}{args:List Operand}{ts:Array TypeId}{vs:List Value}{L0:List aJ}{v:Value}(ks:List Nat)(hd:Nat.blt d nt=true:=by rfl)(hg:az ops ⟨some d,.call {callee:= .value (.func f),args:=args.toArray,argTypes:=ts},ty,pos,af,g⟩ t=some true:=by rfl)(hv:args.map (ev t)=vs.map some:=by rfl):∀(hc:bZ P f L0 vs Unit (fun _=>v) (fun _=>[])) (h:aY P bl ops rest ⟨nt,(d,v)::t,L⟩ K) (hp:jq L (ks.map some) L0:=by repeat (first|exact trivial|refine⟨⟨_,rfl,aJ.le_refl _⟩,?_⟩|refine⟨⟨_,rfl,fM⟩,?_⟩)) (ho:(L0.all fun b=> !b.own)=true:=by rfl),aY P bl ops (⟨some d,.call {callee:= .value (.func f),args:=args.toArray,argTypes:=ts},ty,pos,af,g⟩::rest) ⟨nt,t,L⟩ K:=fun hc h hp ho=>gq vs ks hd hg hv hc hp ho h
def Dv{op:BinOp}{T U:Nat}{k:IntKind}{m n:Int}(r:Int)(hd:Nat.blt d nt=true:=by rfl)(hg:az ops ⟨some d,.binOp op T x y U,ty,pos,af,g⟩ t=some true:=by rfl)(hx:ev t x=some (.int k m):=by rfl)(hy:ev t y=some (.int k n):=by rfl):∀(hr:(match op with| .quo=>some (k.wrap (m.tdiv n))| .rem=>some (m.tmod n)|_=>none)=some r) (h:aY P bl ops rest ⟨nt,(d,.int k r)::t,L⟩ K) (hn:n≠0:=by omega),aY P bl ops (⟨some d,.binOp op T x y U,ty,pos,af,g⟩::rest) ⟨nt,t,L⟩ K:=fun hr h hn=>qoL hd hg hx hy hn hr h
def Aq{op:BinOp}{T U:Nat}{k:IntKind}{m n:Int}(r:Int)(hd:Nat.blt d nt=true:=by rfl)(hg:az ops ⟨some d,.binOp op T x y U,ty,pos,af,g⟩ t=some true:=by rfl)(hx:ev t x=some (.int k m):=by rfl)(hy:ev t y=some (.int k n):=by rfl):∀(hr:(match op with| .add=>some (k.wrap (m+n))| .sub=>some (k.wrap (m-n))| .mul=>some (k.wrap (m*n))|_=>none)=some r) (h:aY P bl ops rest ⟨nt,(d,.int k r)::t,L⟩ K),aY P bl ops (⟨some d,.binOp op T x y U,ty,pos,af,g⟩::rest) ⟨nt,t,L⟩ K:=fun hr h=>Yo hd hg hx hy hr h
def Sv{op:BinOp}{T U:Nat}{k k':IntKind}{m n:Int}(r:Int)(hd:Nat.blt d nt=true:=by rfl)(hg:az ops ⟨some d,.binOp op T x y U,ty,pos,af,g⟩ t=some true:=by rfl)(hx:ev t x=some (.int k m):=by rfl)(hy:ev t y=some (.int k' n):=by rfl):∀(hr:(match op with| .shl=>some (k.wrap (m*2^(min n.toNat k.bits)))| .shr=>some (m.fdiv (2^(min n.toNat k.bits)))|_=>none)=some r) (h:aY P bl ops rest ⟨nt,(d,.int k r)::t,L⟩ K) (hn:¬n<0:=by omega),aY P bl ops (⟨some d,.binOp op T x y U,ty,pos,af,g⟩::rest) ⟨nt,t,L⟩ K:=fun hr h hn=>qhH hd hg hx hy hn hr h
def Cv{S D:Nat}{k k':IntKind}{n:Int}(r:Int)(hS:P.underlying S=some (.int k))(hD:P.underlying D=some (.int k'))(hd:Nat.blt d nt=true:=by rfl)(hg:az ops ⟨some d,.convert S D x,ty,pos,af,g⟩ t=some true:=by rfl)(hx:ev t x=some (.int k n):=by rfl):∀(hr:k'.wrap n=r) (h:aY P bl ops rest ⟨nt,(d,.int k' r)::t,L⟩ K),aY P bl ops (⟨some d,.convert S D x,ty,pos,af,g⟩::rest) ⟨nt,t,L⟩ K:=fun hr h=>qmb hS hD hd hg hx hr h
def Lo{T:Nat}{b:aJ}{v:Value}(k off:Nat)(hi:dO P T ⟨false,1,[]⟩=true:=by exact vT _)(hd:Nat.blt d nt=true:=by rfl)(hg:az ops ⟨some d,.load T x,ty,pos,af,g⟩ t=some true:=by rfl)(hk:(blank bl L)[k]? =some b:=by rfl)(hx:ev t x=some (b.at off):=by rfl):∀(hv:b.cs[off]? =some v) (h:aY P bl ops rest ⟨nt,(d,v)::t,L⟩ K),aY P bl ops (⟨some d,.load T x,ty,pos,af,g⟩::rest) ⟨nt,t,L⟩ K:=fun hv h=>Qn k off hi hd hg hk hx hv h
def Fg{T:Nat}{j:Nat}{i:TI}{gg:Nat}(off fo:Nat){fs:Nat}{off':Nat}(h:aY P bl ops rest ⟨nt,(d,.pointer (some ⟨gg,off',none⟩))::t,L⟩ K)(hd:Nat.blt d nt=true:=by rfl)(hg:az ops ⟨some d,.fieldAddr T x j,ty,pos,af,g⟩ t=some true:=by rfl)(hx:ev t x=some (.pointer (some ⟨gg,off,none⟩)):=by rfl)(hi:dO P T i=true:=by exact vT _)(hf:i.flds[j]? =some (fo,fs+1):=by rfl)(ho:off+fo=off':=by rfl):aY P bl ops (⟨some d,.fieldAddr T x j,ty,pos,af,g⟩::rest) ⟨nt,t,L⟩ K:=ji off fo hd hg hx hi hf ho h
def Bu{T:Nat}{parts:List (Nat×Operand)}(ps:List (Nat×Value)){v:Value}(hd:Nat.blt d nt=true:=by rfl)(hg:az ops ⟨some d,.build T parts.toArray,ty,pos,af,g⟩ t=some true:=by rfl)(hx:parts.map (fun p=>(p.1,ev t p.2))=ps.map (fun p=>(p.1,some p.2)):=by rfl):∀(hb:∀w,(Instr.build T ps.toArray).run P w= .ok v w) (h:aY P bl ops rest ⟨nt,(d,v)::t,L⟩ K),aY P bl ops (⟨some d,.build T parts.toArray,ty,pos,af,g⟩::rest) ⟨nt,t,L⟩ K:=fun hb h=>Jl ps hd hg hx hb h
def Bl{T n:Nat}{parts:List (Nat×Operand)}(nn:Nat)(ps:List (Nat×Value)){e:Nat}{cs:List Value}{mk:Nat->List aJ}(hd:Nat.blt d nt=true:=by rfl)(hg:az ops ⟨some d,.buildSlice T n parts.toArray,ty,pos,af,g⟩ t=some true:=by rfl)(hx:parts.map (fun p=>(p.1,ev t p.2))=ps.map (fun p=>(p.1,some p.2)):=by rfl):∀(hb:∀w,(Instr.buildSlice T n ps.toArray).run P w= .ok (.slice (some ⟨w.heap.size,0,none⟩) n n) (w.alloc (.cells cs.toArray e))) (h:∀b,aY P bl ops rest ⟨nt,(d,ay (some b) 0 n n)::t,mk b⟩ K) (hnn:cs.length=nn:=by rfl) (hL:∀b,L++[⟨some b,e,cs,nn,true⟩]=mk b:=by intro b;first|(dsimp only[List.cons_append,List.nil_append];done)|(dsimp only[List.cons_append,List.nil_append];exact rfl)|exact rfl) (hem:Nat.blt e dn=true:=by rfl),aY P bl ops (⟨some d,.buildSlice T n parts.toArray,ty,pos,af,g⟩::rest) ⟨nt,t,L⟩ K:=fun hb h hnn hL hem=>lg ps mk hd hg hx hb hnn hL h hem
def S1{T:Nat}{b:aJ}{v:Value}(k off:Nat)(L':List aJ)(cs':List Value)(hbl:Gv bl=false:=by rfl)(hi:dO P T ⟨false,1,[]⟩=true:=by exact vT _)(hg:az ops ⟨none,.store T x y,ty,pos,af,g⟩ t=some true:=by rfl)(hk:L[k]? =some b:=by rfl)(ho:b.own=true:=by rfl)(hbb:b.base.isSome=true:=by rfl)(hx:ev t x=some (b.at off):=by rfl)(hy:ev t y=some v:=by rfl)(hv:v.cells= #[v]:=by rfl)(h1:v.oneCell'=true:=by rfl):∀(hfit:off<b.cs.length) (hcs:b.cs.set off v=cs') (h:aY P bl ops rest ⟨nt,t,L'⟩ K) (hL:L.set k {b with cs:=cs'}=L':=by rfl),aY P bl ops (⟨none,.store T x y,ty,pos,af,g⟩::rest) ⟨nt,t,L⟩ K:=fun hfit hcs h hL=>qc8 hbl k off L' cs' hi hg hk ho hbb hx hy hv h1 hfit hcs hL h
def Qa{T e s:Nat}{z:Value}{b:aJ}{len cap b2o n2 c2:Nat}{b2:aJ}(k k2:Nat)(mk:AR (len+n2) s->List aJ)(hT:P.underlying T=some (.slice e))(hi:NQ P e s z)(hd:Nat.blt d nt=true:=by rfl)(hg:az ops ⟨some d,.call {callee:= .builtin .append,args:= #[x,y],argTypes:= #[T,T]},ty,pos,af,g⟩ t=some true:=by rfl)(hk:L[k]? =some b:=by rfl)(ho:b.own=true:=by rfl)(he:b.e=e:=by rfl)(hx:ev t x=some (ay b.base 0 len cap):=by rfl)(hk2:L[k2]? =some b2:=by rfl)(hb2:b2.base=some b2o:=by rfl)(hy:ev t y=some (ay (some b2o) 0 n2 c2):=by rfl)(hs:Nat.blt 0 s=true:=by rfl)(hzs:z.cells.size=s:=by rfl)(hpos:Nat.blt 0 n2=true:=by rfl):∀(hlen:b.cs.length=len*s) (hcap:len<=cap) (hn:cap*s<=b.n) (h1:∀v∈b2.cs,v.oneCell'=true) (h:∀r:AR (len+n2) s,aY P bl ops rest ⟨nt,(d,ay (some r.g) 0 (len+n2) r.cap)::t,mk r⟩ K) (hlen2:b2.cs.length=n2*s:=by rfl) (hmax:len+n2<=17179869184:=by omega) (hL:∀r,L.set k ⟨some r.g,e,b.cs++b2.cs,r.n,true⟩=mk r:=by exact fun _=>rfl),aY P bl ops (⟨some d,.call {callee:= .builtin .append,args:= #[x,y],argTypes:= #[T,T]},ty,pos,af,g⟩::rest) ⟨nt,t,L⟩ K:=fun hlen hcap hn h1 h hlen2 hmax hL=>mW k k2 mk hT hi hd hg hk ho he hx hk2 hb2 hy hs hzs hpos hlen hcap hn hlen2 h1 hmax hL h
def Qo{T e s:Nat}{zz:Value}{b:aJ}{len cap off2 n2 c2:Nat}{b2:aJ}(k k2:Nat)(news:List Value)(mk:OR (len+n2) s->List aJ)(hT:P.underlying T=some (.slice e))(hi:NQ P e s zz)(hd:Nat.blt d nt=true:=by rfl)(hg:az ops ⟨some d,.call {callee:= .builtin .append,args:= #[x,y],argTypes:= #[T,T]},ty,pos,af,g⟩ t=some true:=by rfl)(hk:L[k]? =some b:=by rfl)(ho:b.own=true:=by rfl)(he:b.e=e:=by rfl)(hx:ev t x=some (ay b.base 0 len cap):=by rfl)(hk2:L[k2]? =some b2:=by rfl)(hy:ev t y=some (ay b2.base off2 n2 c2):=by rfl)(hs:Nat.blt 0 s=true:=by rfl)(hzs:zz.cells.size=s:=by rfl):∀(hlen:b.cs.length=len*s) (hcap:len<=cap) (hn:cap*s<=b.n) (hb2:n2=0∨∃g,b2.base=some g) (hnew:(b2.cs.drop off2).take (n2*s)=news) (hlen2:news.length=n2*s) (h1:∀v∈news,v.oneCell'=true) (h:∀r:OR (len+n2) s,aY P bl ops rest ⟨nt,(d,ay r.b 0 (len+n2) r.cap)::t,mk r⟩ K) (hmax:len+n2<=17179869184:=by omega) (hL:∀r,L.set k ⟨r.b,e,b.cs++news,r.n,true⟩=mk r:=by exact fun _=>rfl),aY P bl ops (⟨some d,.call {callee:= .builtin .append,args:= #[x,y],argTypes:= #[T,T]},ty,pos,af,g⟩::rest) ⟨nt,t,L⟩ K:=fun hlen hcap hn hb2 hnew hlen2 h1 h hmax hL=>iK k k2 news mk hT hi hd hg hk ho he hx hk2 hy hs hzs hlen hcap hn hb2 hnew hlen2 h1 hmax hL h
def Iz{T e N:Nat}{k:IntKind}{i:Int}{gg:Nat}{off:Nat}{inf:TI}(off':Nat)(hT:P.underlying T=some (.array N e))(hinf:dO P e inf=true)(h:aY P bl ops rest ⟨nt,(d,.pointer (some ⟨gg,off',none⟩))::t,L⟩ K)(hd:Nat.blt d nt=true:=by rfl)(hg:az ops ⟨some d,.indexAddr T x y,ty,pos,af,g⟩ t=some true:=by rfl)(hx:ev t x=some (.pointer (some ⟨gg,off,none⟩)):=by rfl)(hy:ev t y=some (.int k i):=by rfl)(h0:0<=i:=by omega)(h1:i<N:=by omega)(ho:off+i.toNat*inf.size=off':=by first|rfl|(show _+Int.toNat _*1=_;first|rfl|omega)):aY P bl ops (⟨some d,.indexAddr T x y,ty,pos,af,g⟩::rest) ⟨nt,t,L⟩ K:=tV off' hT hinf hd hg hx hy h0 h1 ho h
def qmV{v:Value}{l cs:List Value}{n:Nat}(hv:v= .agg l.toArray)(h1:Nat.beq l.length n=true)(h2:Nat.beq l.length cs.length=true):cs.take 0++v.cells.toList++cs.drop (0+n)=l:=by have h3:=Nat.eq_of_beq_eq_true h1;have h4:=Nat.eq_of_beq_eq_true h2;subst hv;show[]++l++cs.drop (0+n)=l;rw[<-h3,h4];simp
def qmW{v:Value}{l cs cs':List Value}{off n:Nat}(hv:v= .agg l.toArray)(h:cs.take off++l++cs.drop (off+n)=cs'):cs.take off++v.cells.toList++cs.drop (off+n)=cs':=by subst hv;exact h
def Ss{T:Nat}{i:TI}{gg e n:Nat}{cs cs':List Value}{v:Value}{L':List aJ}{off:Nat}(k:Nat)(h:aY P bl ops rest ⟨nt,t,L'⟩ K)(hbl:Gv bl=false:=by rfl)(hg:az ops ⟨none,.store T x y,ty,pos,af,g⟩ t=some true:=by rfl)(hk:L[k]? =some ⟨some gg,e,cs,n,true⟩:=by rfl)(hx:ev t x=some (.pointer (some ⟨gg,off,none⟩)):=by rfl)(hy:ev t y=some v:=by rfl)(hi:dO P T i=true:=by exact vT _)(hsz:v.cells.size=i.size:=by rfl)(hfit:Nat.ble (off+i.size) cs.length=true:=by rfl)(h1:(v.cells.toList.all fun u=>u.oneCell')=true:=by rfl)(hcs:cs.take off++v.cells.toList++cs.drop (off+i.size)=cs':=by first|exact qmV rfl rfl rfl|exact qmW rfl (by first|(dsimp only[List.take_succ_cons,List.take_zero,List.drop_succ_cons,List.drop_zero,List.cons_append,List.nil_append,List.append_nil,Value.cells];done)|(dsimp only[List.take_succ_cons,List.take_zero,List.drop_succ_cons,List.drop_zero,List.cons_append,List.nil_append,List.append_nil,Value.cells];exact rfl))|(dsimp only[List.take_succ_cons,List.take_zero,List.drop_succ_cons,List.drop_zero,List.cons_append,List.nil_append,List.append_nil,Value.cells];done)|(dsimp only[List.take_succ_cons,List.take_zero,List.drop_succ_cons,List.drop_zero,List.cons_append,List.nil_append,List.append_nil,Value.cells];exact rfl)|exact rfl)(hL:L.set k ⟨some gg,e,cs',n,true⟩=L':=by first|(dsimp only[List.set_cons_zero,List.set_cons_succ];done)|(dsimp only[List.set_cons_zero,List.set_cons_succ];exact rfl)|exact rfl)(hpos:Nat.blt 0 i.size=true:=by rfl):aY P bl ops (⟨none,.store T x y,ty,pos,af,g⟩::rest) ⟨nt,t,L⟩ K:=qY hbl k off L' cs' hg hk hx hy hi hsz hfit h1 hcs hL h hpos
end
section
variable{P:Program}{f:Nat}{fn:Func}{c:Code}{v:Value}{L:List aJ}{X:Type}{res:X->Value}{new:X->List aJ}
def pB0(nt:Nat)(hf:P.funcs[f]? =some fn)(h:∀w:World,At (Bs.of w) ⟨nt,[],[]⟩ (c.wp P (bodyPost P fn fun e w'=>e= .returned v∧eH w.heap.size w w')))(hp:iR P f=true:=by kernel_rfl)(hb:fn.body=some c:=by rfl)(hnt:fn.ntmps=nt:=by rfl)(hn:Nat.ble 0 fn.ntmps=true:=by rfl):aP P f #[] v:=⟨hp,fun w=>cB0 nt hf (bg.nil w) (h w) hb hnt hn⟩
def sB0(nt:Nat)(hf:P.funcs[f]? =some fn)(h:∀w:World,bg (Bs.of w) L w->At (Bs.of w) ⟨nt,[],L⟩ (c.wp P (bodyPost P fn fun e w'=>∃x,e= .returned (res x)∧bg (Bs.of w) (new x) w')))(hp:iR P f=true:=by kernel_rfl)(hb:fn.body=some c:=by rfl)(hnt:fn.ntmps=nt:=by rfl)(hn:Nat.ble 0 fn.ntmps=true:=by rfl):bZ P f L [] X res new:=⟨hp,fun w hL0=>cB0 nt hf hL0 (h w hL0) hb hnt hn⟩
def xI{v0:Value}(nt:Nat)(hf:P.funcs[f]? =some fn)(h:∀w:World,At (Bs.of w) ⟨nt,[(0,v0)],[]⟩ (c.wp P (bodyPost P fn fun e w'=>e= .returned v∧eH w.heap.size w w')))(hp:iR P f=true:=by kernel_rfl)(hb:fn.body=some c:=by rfl)(hnt:fn.ntmps=nt:=by rfl)(hn:Nat.ble 1 fn.ntmps=true:=by rfl):aP P f #[v0] v:=⟨hp,fun w=>cB1 nt hf (bg.nil w) (h w) hb hnt hn⟩
def O3{v0:Value}(nt:Nat)(hf:P.funcs[f]? =some fn)(h:∀w:World,bg (Bs.of w) L w->At (Bs.of w) ⟨nt,[(0,v0)],L⟩ (c.wp P (bodyPost P fn fun e w'=>∃x,e= .returned (res x)∧bg (Bs.of w) (new x) w')))(hp:iR P f=true:=by kernel_rfl)(hb:fn.body=some c:=by rfl)(hnt:fn.ntmps=nt:=by rfl)(hn:Nat.ble 1 fn.ntmps=true:=by rfl):bZ P f L [v0] X res new:=⟨hp,fun w hL0=>cB1 nt hf hL0 (h w hL0) hb hnt hn⟩
def oz{v0 v1:Value}(nt:Nat)(hf:P.funcs[f]? =some fn)(h:∀w:World,At (Bs.of w) ⟨nt,[(0,v0),(1,v1)],[]⟩ (c.wp P (bodyPost P fn fun e w'=>e= .returned v∧eH w.heap.size w w')))(hp:iR P f=true:=by kernel_rfl)(hb:fn.body=some c:=by rfl)(hnt:fn.ntmps=nt:=by rfl)(hn:Nat.ble 2 fn.ntmps=true:=by rfl):aP P f #[v0,v1] v:=⟨hp,fun w=>cB2 nt hf (bg.nil w) (h w) hb hnt hn⟩
def sB2{v0 v1:Value}(nt:Nat)(hf:P.funcs[f]? =some fn)(h:∀w:World,bg (Bs.of w) L w->At (Bs.of w) ⟨nt,[(0,v0),(1,v1)],L⟩ (c.wp P (bodyPost P fn fun e w'=>∃x,e= .returned (res x)∧bg (Bs.of w) (new x) w')))(hp:iR P f=true:=by kernel_rfl)(hb:fn.body=some c:=by rfl)(hnt:fn.ntmps=nt:=by rfl)(hn:Nat.ble 2 fn.ntmps=true:=by rfl):bZ P f L [v0,v1] X res new:=⟨hp,fun w hL0=>cB2 nt hf hL0 (h w hL0) hb hnt hn⟩
def pB3{v0 v1 v2:Value}(nt:Nat)(hf:P.funcs[f]? =some fn)(h:∀w:World,At (Bs.of w) ⟨nt,[(0,v0),(1,v1),(2,v2)],[]⟩ (c.wp P (bodyPost P fn fun e w'=>e= .returned v∧eH w.heap.size w w')))(hp:iR P f=true:=by kernel_rfl)(hb:fn.body=some c:=by rfl)(hnt:fn.ntmps=nt:=by rfl)(hn:Nat.ble 3 fn.ntmps=true:=by rfl):aP P f #[v0,v1,v2] v:=⟨hp,fun w=>cB3 nt hf (bg.nil w) (h w) hb hnt hn⟩
def sB3{v0 v1 v2:Value}(nt:Nat)(hf:P.funcs[f]? =some fn)(h:∀w:World,bg (Bs.of w) L w->At (Bs.of w) ⟨nt,[(0,v0),(1,v1),(2,v2)],L⟩ (c.wp P (bodyPost P fn fun e w'=>∃x,e= .returned (res x)∧bg (Bs.of w) (new x) w')))(hp:iR P f=true:=by kernel_rfl)(hb:fn.body=some c:=by rfl)(hnt:fn.ntmps=nt:=by rfl)(hn:Nat.ble 3 fn.ntmps=true:=by rfl):bZ P f L [v0,v1,v2] X res new:=⟨hp,fun w hL0=>cB3 nt hf hL0 (h w hL0) hb hnt hn⟩
def pB4{v0 v1 v2 v3:Value}(nt:Nat)(hf:P.funcs[f]? =some fn)(h:∀w:World,At (Bs.of w) ⟨nt,[(0,v0),(1,v1),(2,v2),(3,v3)],[]⟩ (c.wp P (bodyPost P fn fun e w'=>e= .returned v∧eH w.heap.size w w')))(hp:iR P f=true:=by kernel_rfl)(hb:fn.body=some c:=by rfl)(hnt:fn.ntmps=nt:=by rfl)(hn:Nat.ble 4 fn.ntmps=true:=by rfl):aP P f #[v0,v1,v2,v3] v:=⟨hp,fun w=>cB4 nt hf (bg.nil w) (h w) hb hnt hn⟩
def pB5{v0 v1 v2 v3 v4:Value}(nt:Nat)(hf:P.funcs[f]? =some fn)(h:∀w:World,At (Bs.of w) ⟨nt,[(0,v0),(1,v1),(2,v2),(3,v3),(4,v4)],[]⟩ (c.wp P (bodyPost P fn fun e w'=>e= .returned v∧eH w.heap.size w w')))(hp:iR P f=true:=by kernel_rfl)(hb:fn.body=some c:=by rfl)(hnt:fn.ntmps=nt:=by rfl)(hn:Nat.ble 5 fn.ntmps=true:=by rfl):aP P f #[v0,v1,v2,v3,v4] v:=⟨hp,fun w=>cB5 nt hf (bg.nil w) (h w) hb hnt hn⟩
end
def pR{L:List aJ}{k:Nat}{b:aJ}(h:L[k]? =some b:=by rfl):∃b',L[k]? =some b'∧b.le b':=⟨_,h,aJ.le_refl _⟩
def pS{L:List aJ}{k:Nat}{base:Option Nat}{e:TypeId}{cs:List Value}{n:Nat}{o:Bool}(h:L[k]? =some ⟨base,e,cs,n,o⟩:=by rfl):∃b',L[k]? =some b'∧aJ.le ⟨base,e,cs,n,false⟩ b':=⟨_,h,fM⟩
section
variable{P:Program}{B:Bs}{fn:Func}{R:Ending->World->Prop}{s:St}
def E0{w0:World}{d:Nat}{v v':Value}(h:Ending.returned v= .returned v')(hfn:fn.results= #[.tmp d]:=by rfl)(hl:look s.t d=some v:=by rfl):At (Bs.of w0) s (bodyPost P fn (fun e w'=>e= .returned v'∧eH w0.heap.size w0 w') .ret):=E1 (fun w hL=>⟨h,hL.below⟩) hfn hl
def Ec2{p T:Nat}{b:aJ}{i:TI}{a0 a1:Value}(k:Nat)(hR:∀w,bg B s.L w->R (.returned (.agg #[a0,a1])) w)(hfn:fn.results= #[.cell p T]:=by rfl)(hk:s.L[k]? =some b:=by rfl)(hx:look s.t p=some (b.at 0):=by rfl)(hi:dO P T i=true:=by exact vT _)(hvs:b.cs.take i.size=[a0,a1]:=by rfl)(hn:Nat.beq i.size 2=true:=by rfl)(ha:i.agg=true:=by rfl)(hD:B.D=[]:=by first|rfl|assumption):At B s (bodyPost P fn R .ret):=aK hfn (bz k hk hx hi hvs (Nat.eq_of_beq_eq_true hn).symm Io qA) hR hD
def SH{p T:Nat}{b:aJ}{i:TI}{a0 a1 v':Value}{w0:World}(k:Nat)(h:Ending.returned (.agg #[a0,a1])= .returned v')(hfn:fn.results= #[.cell p T]:=by rfl)(hk:s.L[k]? =some b:=by rfl)(hx:look s.t p=some (b.at 0):=by rfl)(hi:dO P T i=true:=by exact vT _)(hvs:b.cs.take i.size=[a0,a1]:=by rfl)(hn:Nat.beq i.size 2=true:=by rfl)(ha:i.agg=true:=by rfl):At (Bs.of w0) s (bodyPost P fn (fun e w'=>e= .returned v'∧eH w0.heap.size w0 w') .ret):=Ec2 k (fun w hL=>⟨h,hL.below⟩) hfn hk hx hi hvs hn ha
def Ec4{p T:Nat}{b:aJ}{i:TI}{a0 a1 a2 a3:Value}(k:Nat)(hR:∀w,bg B s.L w->R (.returned (.agg #[a0,a1,a2,a3])) w)(hfn:fn.results= #[.cell p T]:=by rfl)(hk:s.L[k]? =some b:=by rfl)(hx:look s.t p=some (b.at 0):=by rfl)(hi:dO P T i=true:=by exact vT _)(hvs:b.cs.take i.size=[a0,a1,a2,a3]:=by rfl)(hn:Nat.beq i.size 4=true:=by rfl)(ha:i.agg=true:=by rfl)(hD:B.D=[]:=by first|rfl|assumption):At B s (bodyPost P fn R .ret):=aK hfn (bz k hk hx hi hvs (Nat.eq_of_beq_eq_true hn).symm Io qA) hR hD
def Ip{p T:Nat}{b:aJ}{i:TI}{a0 a1 a2 a3 v':Value}{w0:World}(k:Nat)(h:Ending.returned (.agg #[a0,a1,a2,a3])= .returned v')(hfn:fn.results= #[.cell p T]:=by rfl)(hk:s.L[k]? =some b:=by rfl)(hx:look s.t p=some (b.at 0):=by rfl)(hi:dO P T i=true:=by exact vT _)(hvs:b.cs.take i.size=[a0,a1,a2,a3]:=by rfl)(hn:Nat.beq i.size 4=true:=by rfl)(ha:i.agg=true:=by rfl):At (Bs.of w0) s (bodyPost P fn (fun e w'=>e= .returned v'∧eH w0.heap.size w0 w') .ret):=Ec4 k (fun w hL=>⟨h,hL.below⟩) hfn hk hx hi hvs hn ha
def Ec9{p T:Nat}{b:aJ}{i:TI}{a0 a1 a2 a3 a4 a5 a6 a7 a8:Value}(k:Nat)(hR:∀w,bg B s.L w->R (.returned (.agg #[a0,a1,a2,a3,a4,a5,a6,a7,a8])) w)(hfn:fn.results= #[.cell p T]:=by rfl)(hk:s.L[k]? =some b:=by rfl)(hx:look s.t p=some (b.at 0):=by rfl)(hi:dO P T i=true:=by exact vT _)(hvs:b.cs.take i.size=[a0,a1,a2,a3,a4,a5,a6,a7,a8]:=by rfl)(hn:Nat.beq i.size 9=true:=by rfl)(ha:i.agg=true:=by rfl)(hD:B.D=[]:=by first|rfl|assumption):At B s (bodyPost P fn R .ret):=aK hfn (bz k hk hx hi hvs (Nat.eq_of_beq_eq_true hn).symm Io qA) hR hD
def Ed9{p T:Nat}{b:aJ}{i:TI}{a0 a1 a2 a3 a4 a5 a6 a7 a8 v':Value}{w0:World}(k:Nat)(h:Ending.returned (.agg #[a0,a1,a2,a3,a4,a5,a6,a7,a8])= .returned v')(hfn:fn.results= #[.cell p T]:=by rfl)(hk:s.L[k]? =some b:=by rfl)(hx:look s.t p=some (b.at 0):=by rfl)(hi:dO P T i=true:=by exact vT _)(hvs:b.cs.take i.size=[a0,a1,a2,a3,a4,a5,a6,a7,a8]:=by rfl)(hn:Nat.beq i.size 9=true:=by rfl)(ha:i.agg=true:=by rfl):At (Bs.of w0) s (bodyPost P fn (fun e w'=>e= .returned v'∧eH w0.heap.size w0 w') .ret):=Ec9 k (fun w hL=>⟨h,hL.below⟩) hfn hk hx hi hvs hn ha
def qpa{p T:Nat}{b:aJ}{i:TI}{a0 a1 a2 a3 a4 a5 a6 a7 a8 a9:Value}(k:Nat)(hR:∀w,bg B s.L w->R (.returned (.agg #[a0,a1,a2,a3,a4,a5,a6,a7,a8,a9])) w)(hfn:fn.results= #[.cell p T]:=by rfl)(hk:s.L[k]? =some b:=by rfl)(hx:look s.t p=some (b.at 0):=by rfl)(hi:dO P T i=true:=by exact vT _)(hvs:b.cs.take i.size=[a0,a1,a2,a3,a4,a5,a6,a7,a8,a9]:=by rfl)(hn:Nat.beq i.size 10=true:=by rfl)(ha:i.agg=true:=by rfl)(hD:B.D=[]:=by first|rfl|assumption):At B s (bodyPost P fn R .ret):=aK hfn (bz k hk hx hi hvs (Nat.eq_of_beq_eq_true hn).symm Io qA) hR hD
def qpb{p T:Nat}{b:aJ}{i:TI}{a0 a1 a2 a3 a4 a5 a6 a7 a8 a9 v':Value}{w0:World}(k:Nat)(h:Ending.returned (.agg #[a0,a1,a2,a3,a4,a5,a6,a7,a8,a9])= .returned v')(hfn:fn.results= #[.cell p T]:=by rfl)(hk:s.L[k]? =some b:=by rfl)(hx:look s.t p=some (b.at 0):=by rfl)(hi:dO P T i=true:=by exact vT _)(hvs:b.cs.take i.size=[a0,a1,a2,a3,a4,a5,a6,a7,a8,a9]:=by rfl)(hn:Nat.beq i.size 10=true:=by rfl)(ha:i.agg=true:=by rfl):At (Bs.of w0) s (bodyPost P fn (fun e w'=>e= .returned v'∧eH w0.heap.size w0 w') .ret):=qpa k (fun w hL=>⟨h,hL.below⟩) hfn hk hx hi hvs hn ha
def qrp{p T:Nat}{b:aJ}{i:TI}{a0 a1 a2 a3 a4 a5 a6 a7 a8 a9 a10 a11:Value}(k:Nat)(hR:∀w,bg B s.L w->R (.returned (.agg #[a0,a1,a2,a3,a4,a5,a6,a7,a8,a9,a10,a11])) w)(hfn:fn.results= #[.cell p T]:=by rfl)(hk:s.L[k]? =some b:=by rfl)(hx:look s.t p=some (b.at 0):=by rfl)(hi:dO P T i=true:=by exact vT _)(hvs:b.cs.take i.size=[a0,a1,a2,a3,a4,a5,a6,a7,a8,a9,a10,a11]:=by rfl)(hn:Nat.beq i.size 12=true:=by rfl)(ha:i.agg=true:=by rfl)(hD:B.D=[]:=by first|rfl|assumption):At B s (bodyPost P fn R .ret):=aK hfn (bz k hk hx hi hvs (Nat.eq_of_beq_eq_true hn).symm Io qA) hR hD
def KY{p T:Nat}{b:aJ}{i:TI}{a0 a1 a2 a3 a4 a5 a6 a7 a8 a9 a10 a11 v':Value}{w0:World}(k:Nat)(h:Ending.returned (.agg #[a0,a1,a2,a3,a4,a5,a6,a7,a8,a9,a10,a11])= .returned v')(hfn:fn.results= #[.cell p T]:=by rfl)(hk:s.L[k]? =some b:=by rfl)(hx:look s.t p=some (b.at 0):=by rfl)(hi:dO P T i=true:=by exact vT _)(hvs:b.cs.take i.size=[a0,a1,a2,a3,a4,a5,a6,a7,a8,a9,a10,a11]:=by rfl)(hn:Nat.beq i.size 12=true:=by rfl)(ha:i.agg=true:=by rfl):At (Bs.of w0) s (bodyPost P fn (fun e w'=>e= .returned v'∧eH w0.heap.size w0 w') .ret):=qrp k (fun w hL=>⟨h,hL.below⟩) hfn hk hx hi hvs hn ha
def qrq{p T:Nat}{b:aJ}{i:TI}{a0 a1 a2 a3 a4 a5 a6 a7 a8 a9 a10 a11 a12 a13 a14 a15:Value}(k:Nat)(hR:∀w,bg B s.L w->R (.returned (.agg #[a0,a1,a2,a3,a4,a5,a6,a7,a8,a9,a10,a11,a12,a13,a14,a15])) w)(hfn:fn.results= #[.cell p T]:=by rfl)(hk:s.L[k]? =some b:=by rfl)(hx:look s.t p=some (b.at 0):=by rfl)(hi:dO P T i=true:=by exact vT _)(hvs:b.cs.take i.size=[a0,a1,a2,a3,a4,a5,a6,a7,a8,a9,a10,a11,a12,a13,a14,a15]:=by rfl)(hn:Nat.beq i.size 16=true:=by rfl)(ha:i.agg=true:=by rfl)(hD:B.D=[]:=by first|rfl|assumption):At B s (bodyPost P fn R .ret):=aK hfn (bz k hk hx hi hvs (Nat.eq_of_beq_eq_true hn).symm Io qA) hR hD
def qmX{p T:Nat}{b:aJ}{i:TI}{a0 a1 a2 a3 a4 a5 a6 a7 a8 a9 a10 a11 a12 a13 a14 a15 v':Value}{w0:World}(k:Nat)(h:Ending.returned (.agg #[a0,a1,a2,a3,a4,a5,a6,a7,a8,a9,a10,a11,a12,a13,a14,a15])= .returned v')(hfn:fn.results= #[.cell p T]:=by rfl)(hk:s.L[k]? =some b:=by rfl)(hx:look s.t p=some (b.at 0):=by rfl)(hi:dO P T i=true:=by exact vT _)(hvs:b.cs.take i.size=[a0,a1,a2,a3,a4,a5,a6,a7,a8,a9,a10,a11,a12,a13,a14,a15]:=by rfl)(hn:Nat.beq i.size 16=true:=by rfl)(ha:i.agg=true:=by rfl):At (Bs.of w0) s (bodyPost P fn (fun e w'=>e= .returned v'∧eH w0.heap.size w0 w') .ret):=qrq k (fun w hL=>⟨h,hL.below⟩) hfn hk hx hi hvs hn ha
def qrr{p T:Nat}{b:aJ}{i:TI}{a0 a1 a2 a3 a4 a5 a6 a7 a8 a9 a10 a11 a12 a13 a14 a15 a16 a17 a18 a19:Value}(k:Nat)(hR:∀w,bg B s.L w->R (.returned (.agg #[a0,a1,a2,a3,a4,a5,a6,a7,a8,a9,a10,a11,a12,a13,a14,a15,a16,a17,a18,a19])) w)(hfn:fn.results= #[.cell p T]:=by rfl)(hk:s.L[k]? =some b:=by rfl)(hx:look s.t p=some (b.at 0):=by rfl)(hi:dO P T i=true:=by exact vT _)(hvs:b.cs.take i.size=[a0,a1,a2,a3,a4,a5,a6,a7,a8,a9,a10,a11,a12,a13,a14,a15,a16,a17,a18,a19]:=by rfl)(hn:Nat.beq i.size 20=true:=by rfl)(ha:i.agg=true:=by rfl)(hD:B.D=[]:=by first|rfl|assumption):At B s (bodyPost P fn R .ret):=aK hfn (bz k hk hx hi hvs (Nat.eq_of_beq_eq_true hn).symm Io qA) hR hD
def qrs{p T:Nat}{b:aJ}{i:TI}{a0 a1 a2 a3 a4 a5 a6 a7 a8 a9 a10 a11 a12 a13 a14 a15 a16 a17 a18 a19 v':Value}{w0:World}(k:Nat)(h:Ending.returned (.agg #[a0,a1,a2,a3,a4,a5,a6,a7,a8,a9,a10,a11,a12,a13,a14,a15,a16,a17,a18,a19])= .returned v')(hfn:fn.results= #[.cell p T]:=by rfl)(hk:s.L[k]? =some b:=by rfl)(hx:look s.t p=some (b.at 0):=by rfl)(hi:dO P T i=true:=by exact vT _)(hvs:b.cs.take i.size=[a0,a1,a2,a3,a4,a5,a6,a7,a8,a9,a10,a11,a12,a13,a14,a15,a16,a17,a18,a19]:=by rfl)(hn:Nat.beq i.size 20=true:=by rfl)(ha:i.agg=true:=by rfl):At (Bs.of w0) s (bodyPost P fn (fun e w'=>e= .returned v'∧eH w0.heap.size w0 w') .ret):=qrr k (fun w hL=>⟨h,hL.below⟩) hfn hk hx hi hvs hn ha
def qrt{p T:Nat}{b:aJ}{i:TI}{a0 a1 a2 a3 a4 a5 a6 a7 a8 a9 a10 a11 a12 a13 a14 a15 a16 a17 a18 a19 a20 a21 a22 a23 a24 a25 a26 a27 a28 a29 a30 a31 a32 a33 a34 a35 a36 a37:Value}(k:Nat)(hR:∀w,bg B s.L w->R (.returned (.agg #[a0,a1,a2,a3,a4,a5,a6,a7,a8,a9,a10,a11,a12,a13,a14,a15,a16,a17,a18,a19,a20,a21,a22,a23,a24,a25,a26,a27,a28,a29,a30,a31,a32,a33,a34,a35,a36,a37])) w)(hfn:fn.results= #[.cell p T]:=by rfl)(hk:s.L[k]? =some b:=by rfl)(hx:look s.t p=some (b.at 0):=by rfl)(hi:dO P T i=true:=by exact vT _)(hvs:b.cs.take i.size=[a0,a1,a2,a3,a4,a5,a6,a7,a8,a9,a10,a11,a12,a13,a14,a15,a16,a17,a18,a19,a20,a21,a22,a23,a24,a25,a26,a27,a28,a29,a30,a31,a32,a33,a34,a35,a36,a37]:=by rfl)(hn:Nat.beq i.size 38=true:=by rfl)(ha:i.agg=true:=by rfl)(hD:B.D=[]:=by first|rfl|assumption):At B s (bodyPost P fn R .ret):=aK hfn (bz k hk hx hi hvs (Nat.eq_of_beq_eq_true hn).symm Io qA) hR hD
def qru{p T:Nat}{b:aJ}{i:TI}{a0 a1 a2 a3 a4 a5 a6 a7 a8 a9 a10 a11 a12 a13 a14 a15 a16 a17 a18 a19 a20 a21 a22 a23 a24 a25 a26 a27 a28 a29 a30 a31 a32 a33 a34 a35 a36 a37 v':Value}{w0:World}(k:Nat)(h:Ending.returned (.agg #[a0,a1,a2,a3,a4,a5,a6,a7,a8,a9,a10,a11,a12,a13,a14,a15,a16,a17,a18,a19,a20,a21,a22,a23,a24,a25,a26,a27,a28,a29,a30,a31,a32,a33,a34,a35,a36,a37])= .returned v')(hfn:fn.results= #[.cell p T]:=by rfl)(hk:s.L[k]? =some b:=by rfl)(hx:look s.t p=some (b.at 0):=by rfl)(hi:dO P T i=true:=by exact vT _)(hvs:b.cs.take i.size=[a0,a1,a2,a3,a4,a5,a6,a7,a8,a9,a10,a11,a12,a13,a14,a15,a16,a17,a18,a19,a20,a21,a22,a23,a24,a25,a26,a27,a28,a29,a30,a31,a32,a33,a34,a35,a36,a37]:=by rfl)(hn:Nat.beq i.size 38=true:=by rfl)(ha:i.agg=true:=by rfl):At (Bs.of w0) s (bodyPost P fn (fun e w'=>e= .returned v'∧eH w0.heap.size w0 w') .ret):=qrt k (fun w hL=>⟨h,hL.below⟩) hfn hk hx hi hvs hn ha
end
def Ni{B:Bs}{nt:Nat}{t:List (Nat×Value)}{L:List aJ}{X:Type}{T:X->List (Nat×Value)}{LL:X->List aJ}(z:X)(ks:List Nat)(lk:jS t (T z):=by repeat (first|exact trivial|refine⟨rfl,?_⟩))(hp:jq L (ks.map some) (LL z):=by repeat (first|exact trivial|refine⟨⟨_,rfl,aJ.le_refl _⟩,?_⟩))(hl:(ks.map some).length=(LL z).length:=by rfl)(ha:lL (ks.map some) ((LL z).map (·.own))=true:=by rfl):At B ⟨nt,t,L⟩ (fun a w=>∃z,kQ B ⟨nt,T z,LL z⟩ a w):=iZ z lk (aA _ hp hl ha)
def uD:List Oper->Nat->Oper
 |[],_=>default
 |x::_,0=>x
 |_::l,n+1=>uD l n
theorem KZ:∀(l:List Oper) (i:Nat),uD l i=l.toArray.getD i default
 |[],i=>by simp[uD]
 |x::l,0=>by simp[uD]
 |x::l,n+1=>by have:=KZ l n;simp[uD] at this ⊢;exact this
def O4{l l':List Oper}{perm:List Nat}(h:perm.map (uD l)=l'):perm.map (fun i=>l.toArray.getD i default)=l':=by rw[<-h];exact List.map_congr_left fun i _=>(KZ l i).symm
section
variable{P:Program}{B:Bs}{s:St}{Q:Exit->Act->World->Prop}{id:Nat}{l l':List Oper}
def Dp(bl perm:List Nat)(h:aY P bl l.toArray l' s (fun s'=>At B s' (Q .normal)))(hm:P.follows .mixedOrders=true:=by exact mixed)(hc:vY bl l.toArray perm=true:=by kernel_rfl)(hl:perm.map (uD l)=l':=by first|(dsimp only[List.map,uD];done)|(dsimp only[List.map,uD];exact rfl))(hf:JP bl l.toArray s=true:=by kernel_rfl):At B s ((Code.region id l.toArray true).wp P Q):=TC bl perm hm hc (O4 hl) hf h
def Dq(bl perm:List Nat)(h:aY P bl l.toArray l' s (fun s'=>At B s' (Q .normal)))(hm:P.follows .mixedOrders=true:=by exact mixed)(hc:Af bl l.toArray perm=true:=by kernel_rfl)(hl:perm.map (uD l)=l':=by first|(dsimp only[List.map,uD];done)|(dsimp only[List.map,uD];exact rfl)):At B s ((Code.region id l.toArray true).wp P Q):=GU bl perm hm hc (O4 hl) h
def Di(bl:List Nat)(h:aY P bl l.toArray l s (fun s'=>At B s' (Q .normal)))(hm:P.follows .mixedOrders=true:=by exact mixed)(hc:vY bl l.toArray (List.range l.length)=true:=by kernel_rfl)(hf:JP bl l.toArray s=true:=by kernel_rfl):At B s ((Code.region id l.toArray true).wp P Q):=xX bl hm hc hf h
end
section
variable{P:Program}{ops:Array Oper}{X:Act->World->Prop}{B:Bs}{n:Nat}{R:List Nat}
def Nt{nt:Nat}{t:List (Nat×Value)}{L:List aJ}{l l':List Oper}(i:Nat)(h:aY P [] l.toArray l' ⟨nt,t,[]⟩ (fun s'=>ja P l.toArray X B n (R.filter (· !=i)) ⟨nt,s'.t,L⟩))(hc:(Region.noSelect l.toArray&&yL l.toArray (AA l.toArray.size R) [i])=true:=by kernel_rfl)(hl:[uD l i]=l':=by first|(dsimp only[uD];done)|(dsimp only[uD];exact rfl)):ja P l.toArray X B (n+1) R ⟨nt,t,L⟩:=oV i hc (by rw[<-hl,KZ]) h
def Gx{s:St}{o:Oper}(i:Nat)(h:aY P [1000000] ops [o] s (fun s'=>ja P ops X B n (R.filter (· !=i)) s'))(h1:Region.ready .any ops (AA ops.size R)=[i]:=by kernel_rfl)(ho:ops[i]? =some o:=by rfl):ja P ops X B (n+1) R s:=aV [i] h1 rfl ⟨⟨_,ho,h⟩,trivial⟩
def Nw{nt:Nat}{t:List (Nat×Value)}{L:List aJ}{Z:Type}{T:Z->List (Nat×Value)}{LL:Z->List aJ}(h:∀z,ja P ops X B n R ⟨nt,T z,LL z⟩)(z:Z)(ks:List Nat)(lk:jS t (T z):=by repeat (first|exact trivial|refine⟨rfl,?_⟩))(hp:jq L (ks.map some) (LL z):=by repeat (first|exact trivial|refine⟨⟨_,rfl,aJ.le_refl _⟩,?_⟩))(hl:(ks.map some).length=(LL z).length:=by rfl)(ha:lL (ks.map some) ((LL z).map (·.own))=true:=by rfl):ja P ops X B n R ⟨nt,t,L⟩:=bF h z lk (aA _ hp hl ha)
end
end Go.Via
namespace Go.Via
variable[Mo]
open Go Go.RowKit Go.Sort Go.Proofs
def bg.rowMod{B:Bs}{w w':World}{L:List aJ}(h:bg B L w){k:Nat}{b:aJ}(hk:L[k]? =some b)(ho:b.own=true){g:Nat}(hg:b.base=some g)(hn0:b.n≠0)(f:Array Value->Array Value)(cs':List Value)
 (hf:∀cur:Array Value,cur.size=b.n->cur.toList.take b.cs.length=b.cs->(f cur).size=b.n∧(f cur).toList.take cs'.length=cs')
 (h1:w'.os=w.os)(h2:w'.tape=w.tape)(h3:w'.output=w.output)(h4:w.heap.size<=w'.heap.size)(h5:∀i,i<w.heap.size->i≠g->w'.heap[i]? =w.heap[i]?)
 (h6:∀cur:Array Value,w.heap[g]? =some (.cells cur b.e (0,0))->w'.heap[g]? =some (.cells (f cur) b.e (0,0)))(h7:w.drawn<=w'.drawn:=by first|exact Nat.le_refl _|exact Nat.le_add_right _ _):bg B (L.set k {b with cs:=cs'}) w':=by
 obtain⟨cur,⟨e',fr,a1,a2,_⟩,a3,a4⟩:=((h.blk k b hk).1 g hg).cells (.inl hn0);obtain⟨rfl,rfl⟩:=a2 ho;obtain⟨b1,b2⟩:=hf cur a3 a4;have hs:=h.set hk ho hg (f cur) cs' b1 b2;have hh:=setRow_heap w g cur (f cur) b.e (0,0) a1;have hsz:(w.setRow g (f cur)).heap.size=w.heap.size:=bI
 refine hs.same ⟨h1,h2,h3,by rw[hsz];exact h4,fun i hi=>?_,fun _=>h7⟩
 rw[hsz] at hi
 by_cases e:i=g
 ·subst e;rw[h6 cur a1,hh]
 ·rw[h5 i hi e,setRow_other w g i _ e]
def SB(l:List Ey):List Value:=l.map fun s=> .string (lQ s)
theorem qbp(l:List Ey):(SB l).length=l.length:=by simp[SB]
abbrev SBk(b:Option Nat)(l:List Ey)(n:Nat):aJ:=⟨b,9,SB l,n,true⟩
def bg.loose{B:Bs}{w:World}{L:List aJ}(h:bg B L w){k:Nat}{b:aJ}(hk:L[k]? =some b)(ho:b.own=true){g:Nat}(hg:b.base=some g)(hn0:b.n≠0)(j:Nat):w.frozen? ⟨g,j,none⟩=false:=by
 obtain⟨cur,⟨e',fr,a1,a2,_⟩,a3,a4⟩:=((h.blk k b hk).1 g hg).cells (.inl hn0);obtain⟨rfl,rfl⟩:=a2 ho;simp[World.frozen?,a1]
def Uw{d:List Ey}{cur:Array Value}(h:d.length<=cur.size):(putCells encStr 0 d.toArray cur).size=cur.size∧(putCells encStr 0 d.toArray cur).toList.take (SB d).length=SB d:=by
 refine⟨by simp[putCells],?_⟩
 apply List.ext_getElem?
 intro i;rw[qbp,List.getElem?_take]
 split
 ·rename_i hi
  unfold SB;rw[List.getElem?_map,List.getElem?_eq_getElem hi,Array.getElem?_toList];unfold putCells;rw[Array.getElem?_mapIdx,Array.getElem?_eq_getElem ae];simp only[Option.map_some,Nat.zero_le,true_and,List.size_toArray,Nat.zero_add,hi,if_true,Nat.sub_zero];rw[getElem!_pos d.toArray i qau]
  rfl
 ·rename_i hi
  unfold SB;rw[List.getElem?_map,List.getElem?_eq_none ae]
  rfl
def bg.putRow{B:Bs}{w:World}{L:List aJ}(h:bg B L w){k g n m:Nat}{l l':List Ey}{os:Array Obj}(hk:L[k]? =some (SBk (some g) l n))(hl:l'.length<=n)(hn0:n≠0):
 bg B (L.set k (SBk (some g) l' n)) (grow (putRow encStr (Sort.ahead w m) g 0 l'.toArray) os):=by
 have hlt:=h.lt hk rfl;have e1:(grow (Go.Sort.putRow encStr (Sort.ahead w m) g 0 l'.toArray) os).heap=(w.heap.modify g (onCells (putCells encStr 0 l'.toArray)))++os:=rfl;refine h.rowMod hk rfl rfl hn0 (putCells encStr 0 l'.toArray) (SB l') (fun cur hc _=>by
 have hc':cur.size=n:=hc;obtain⟨p1,p2⟩:=Uw (d:=l') (cur:=cur) ae;exact⟨p1.trans hc,p2⟩) rfl rfl rfl (by rw[e1];simp) (fun i hi hne=>?_) (fun cur hcur=>?_)
 ·rw[e1,Array.getElem?_append_left qau,Array.getElem?_modify,if_neg (fun e=>hne e.symm)]
 ·rw[e1,Array.getElem?_append_left Tz,Array.getElem?_modify,if_pos rfl,hcur]
  rfl
end Go.Via
namespace Go.Via
variable[Mo]
open Go Go.RowKit
section
variable{P:Program}{bl:List Nat}{ops:Array Oper}{K:St->Prop}{rest:List Oper}{nt:Nat}{t:List (Nat×Value)}{L:List aJ}{d:Nat}{ty:TypeId}{pos:String}{af:Array Edge}{g:Option (Nat×Bool)}{x y:Operand}
def qiH{T U e:Nat}{v:Option Addr}{n c:Nat}(hT:P.underlying T=some (.slice e))(hd:Nat.blt d nt=true)(hg:az ops ⟨some d,.binOp .eql T x y U,ty,pos,af,g⟩ t=some true)(hx:ev t x=some (.slice v n c))(hy:ev t y=some (.slice none 0 0))
 (h:aY P bl ops rest ⟨nt,(d,.bool v.isNone)::t,L⟩ K):aY P bl ops (⟨some d,.binOp .eql T x y U,ty,pos,af,g⟩::rest) ⟨nt,t,L⟩ K:=
 fD hd hg rfl (fun B a w hrel=>by
 have:=Lib.run_eql_slice_nil (P:=P) w T e v n c 0 0 hT;simp[execOp,hrel.ev hx,hrel.ev hy,eqGuard,this]) h
def BV{T U:Nat}{v:Option Addr}{te:TypeId}{r:Bool}(hT:P.underlying T=some (.pointer te))(hd:Nat.blt d nt=true)(hg:az ops ⟨some d,.binOp .neq T x y U,ty,pos,af,g⟩ t=some true)(hx:ev t x=some (.pointer v))(hy:ev t y=some (.pointer none))(hr:v.isSome=r)
 (h:aY P bl ops rest ⟨nt,(d,.bool r)::t,L⟩ K):aY P bl ops (⟨some d,.binOp .neq T x y U,ty,pos,af,g⟩::rest) ⟨nt,t,L⟩ K:=
 fD hd hg rfl (fun B a w hrel=>by
 subst hr;have h:∀d:Nat,(Op.equalIn (d+1) T (.pointer v) (.pointer none)).run P w= .ok v.isNone w:=fun d=>by
  cases v<;>simp[Op.equalIn,run_underlying hT]
 simp only[execOp,hrel.ev hx,hrel.ev hy,eqGuard,binOp];cases v<;>simp[Op.equal,Op.maxDepth,h 9999]) h
end
end Go.Via
namespace Go.Via
variable[Mo]
open Go Go.RowKit
def Zb{P:Program}{B:Bs}{fn:Func}{R:Ending->World->Prop}{s:St}{r r' r'' q:ResultVar}{v v' v'' u:Value}(hfn:fn.results= #[r,r',r'',q])(h:zh P s r v)(h':zh P s r' v')(h'':zh P s r'' v'')(h5:zh P s q u)(hR:∀w,bg B s.L w->R (.returned (.tuple #[v,v',v'',u])) w)(hD:B.D=[]:=by first|rfl|assumption):At B s (bodyPost P fn R .ret):=fun a w hr=>by
 refine⟨hr.df.trans hD,.tuple #[v,v',v'',u],?_,hR w hr.mem⟩;have h1:=h B a w hr;have h2:=h' B a w hr;have h3:=h'' B a w hr;have h4:=h5 B a w hr;unfold results;rw[hfn];simp only[List.mapM_toArray,List.mapM_cons,List.mapM_nil,Sem.run_bind,Sem.run_map,bind_pure_comp];cases r<;>cases r'<;>cases r''<;>cases q<;>simp only[Sem.run_bind,Sem.run_pure] at h1 h2 h3 h4 ⊢ <;>simp_all
end Go.Via
namespace Go.Via
variable[Mo]
open Go Go.RowKit
section
variable{P:Program}{bl:List Nat}{ops:Array Oper}{K:St->Prop}{rest:List Oper}{nt:Nat}{t:List (Nat×Value)}{L:List aJ}{d:Nat}{ty:TypeId}{pos:String}{af:Array Edge}{g:Option (Nat×Bool)}{x y:Operand}
def Fq{T e:Nat}{k:IntKind}{i:Int}{gg off len cap:Nat}{inf:TI}(off':Nat)(hT:P.underlying T=some (.slice e))(hinf:dO P e inf=true)(hd:Nat.blt d nt=true)(hg:az ops ⟨some d,.indexAddr T x y,ty,pos,af,g⟩ t=some true)
 (hx:ev t x=some (ay (some gg) off len cap))(hy:ev t y=some (.int k i))(h0:0<=i)(h1:i<len)(ho:off+i.toNat*inf.size=off')
 (h:aY P bl ops rest ⟨nt,(d,.pointer (some ⟨gg,off',none⟩))::t,L⟩ K):aY P bl ops (⟨some d,.indexAddr T x y,ty,pos,af,g⟩::rest) ⟨nt,t,L⟩ K:=
 fD hd hg rfl (fun B a w hrel=>by
 have he:P.elem T=e:=EQ;have h2:=hrel.ev hx;have h3:=hrel.ev hy;have:=run_indexAt_slice (P:=P) w T ⟨gg,off,none⟩ len cap k i J4;rw[if_pos ⟨h0,h1⟩,he,nR hinf w] at this;simp only[Result.andThen_ok,jR,ho] at this;unfold ay at h2;simp only[Option.map_some] at h2;simp[execOp,h2,h3,this]) h
end
end Go.Via
