/-
  Part 19 (chapter 32): lemmas, walks. Each theorem states its own conditions.
-/
import Derived.Sort.Grow
import Derived.Sort.EncStr
import Derived.Lib.SliceRun
import Derived.Test.YtaffcpfhedadhaaGreatDoorA00
import Derived.Test.YtaffcpfhedadhaaGreatDoorA11
import Derived.Test.YtaffcpfhedadhaaGreatDoorA16
set_option linter.all false
set_option maxRecDepth 20000
set_option maxHeartbeats 20000000
namespace Go.Via
variable[Mo]
open Go Go.RowKit
def qeq(P:Program)(f:Nat)(L0:List aH)(args:List Value)(X:Type)(res:X->Value)(L1:X->List aH):Prop:=
 iP P f=true∧∀(B:Bs) (w:World),B.D=[]->aX B L0 w->CallsD P f args.toArray .returning w fun e u' w'=>u'= .returning∧∃x,e= .returned (res x)∧aX B (L1 x) w'
theorem qeq.at{P:Program}{f:Nat}{L A C:List aH}{args:List Value}{X:Type}{res:X->Value}{L1:X->List aH}(hc:qeq P f (A++C) args X res L1)(ks is:List Nat)(hn:ks.Nodup)(hk:ks.map (fun k=>L[k]?)=A.map some)
 (hA:(A.all fun b=>b.own&&(Nat.blt b.e dA||b.base.isSome))=true)(hp:jf L (is.map some) C)(hC:(C.all fun b=> !b.own)=true)(hap:lI ((ks++is).map some) ((A++C).map (·.own))=true)(hlen:∀x,Nat.ble ks.length (L1 x).length=true)(hown:∀x,∀b∈L1 x,b.own=true∨∃a∈A,a.base=b.base∧b.base.isSome=true)
 {B:Bs}{w:World}(h:aX B L w):CallsD P f args.toArray .returning w fun e u' w'=>u'= .returning∧∃x,e= .returned (res x)∧aX B (setG L ks (L1 x)) w':=by
 obtain⟨B',hD,h2,hb⟩:=LC ks is hn hk hA hp hC hap h;refine(hc.2 B' w hD h2).mono ?_;rintro e u' w' ⟨hu,x,rfl,hx⟩;exact⟨hu,x,rfl,hb _ _ (hlen x) (hown x) hx⟩
end Go.Via
namespace Go.Via
open Go Go.RowKit
inductive UU where
 |q (r:Rat)
 |raw (b1:Bool) (s1:ByteArray) (b2:Bool) (s2:ByteArray)
def UU.cells:UU->List Value
 | .q r=>[.bool (decide (r.num<0)),.string (bQ r.num.natAbs),.bool false,.string (dm r)]
 | .raw b1 s1 b2 s2=>[.bool b1,.string s1,.bool b2,.string s2]
inductive XT where
 |mk (op:Int) (name:List UInt8) (num:UU) (args:List XT)
def XT.op:XT->Int| .mk o _ _ _=>o
def XT.name:XT->List UInt8| .mk _ n _ _=>n
def XT.num:XT->UU| .mk _ _ n _=>n
def XT.args:XT->List XT| .mk _ _ _ l=>l
def Xl(op:Int)(name:List UInt8)(num:UU)(a:Option Addr)(n cap:Nat):List Value:= .int .i64 op:: .string (lL name)::num.cells++[.slice a n cap]
mutual
inductive LG(T:Oo):XT->List Value->Prop
 |mk {op:Int} {name:List UInt8} {num:UU} {args:List XT} {a:Option Addr} {cap:Nat} (h:Jn T args a) (hc:args.length<=cap):
  LG T (.mk op name num args) (Xl op name num a args.length cap)
inductive Jn(T:Oo):List XT->Option Addr->Prop
 |nil {a:Option Addr}:Jn T [] a
 |cons {x:XT} {l:List XT} {g off:Nat} {cs c:List Value} (hm:(g,cs)∈T) (hc:(cs.drop off).take 7=c) (hx:LG T x c) (hl:Jn T l (some ⟨g,off+7,none⟩)):Jn T (x::l) (some ⟨g,off,none⟩)
end
mutual
def LG.mono{T U:Oo}(hs:∀p∈T,p∈U):∀{x:XT} {c:List Value},LG T x c->LG U x c
 |_,_,.mk h hc=> .mk (Jn.mono hs h) hc
def Jn.mono{T U:Oo}(hs:∀p∈T,p∈U):∀{l:List XT} {a:Option Addr},Jn T l a->Jn U l a
 |_,_,.nil=> .nil
 |_,_,.cons hm hc hx hl=> .cons (hs _ hm) hc (LG.mono hs hx) (Jn.mono hs hl)
end
def Oy{op:Int}{name:List UInt8}{num:UU}{a:Option Addr}{n cap:Nat}:(Xl op name num a n cap).length=7:=by cases num<;>rfl
def Oz{op:Int}{name:List UInt8}{num:UU}{a:Option Addr}{n cap:Nat}:(Xl op name num a n cap).all Value.simpleT=true:=by cases num<;>rfl
theorem LG.length{T:Oo}{x:XT}{c:List Value}(h:LG T x c):c.length=7:=by cases h;exact Oy
theorem LG.simple{T:Oo}{x:XT}{c:List Value}(h:LG T x c):c.all Value.simpleT=true:=by cases h;exact Oz
theorem Jn.get{T:Oo}:∀{l:List XT} {a:Option Addr} {i:Nat} {x:XT},Jn T l a->l[i]? =some x->∃g off cs c,a=some ⟨g,off,none⟩∧(g,cs)∈T∧(cs.drop (off+i*7)).take 7=c∧LG T x c
 |[],_,i,x,_,hx=>by simp at hx
 |y::l,_,0,x,.cons hm hc hy hl,hx=>by
  simp at hx;subst hx;exact⟨_,_,_,_,rfl,hm,by rw[Nat.zero_mul,Nat.add_zero];exact hc,hy⟩
 |y::l,_,i+1,x,.cons hm hc hy hl,hx=>by
  rw[List.getElem?_cons_succ] at hx;obtain⟨g,off,cs,c,h1,h2,h3,h4⟩:=Jn.get hl hx;simp only[Option.some.injEq,Addr.mk.injEq,and_true] at h1;obtain⟨rfl,rfl⟩:=h1;exact⟨_,_,cs,c,rfl,h2,by rw[<-h3,Nat.succ_mul];congr 2;omega,h4⟩
mutual
def XT.size:XT->Nat
 | .mk _ _ _ l=>1+XT.sizes l
def XT.sizes:List XT->Nat
 |[]=>0
 |x::l=>XT.size x+XT.sizes l
end
abbrev EL:=List UInt8
def qk5(c:UInt8):Bool:=(decide (65<=c.toNat)&&decide (c.toNat<=90))||(decide (97<=c.toNat)&&decide (c.toNat<=122))
def isDig(c:UInt8):Bool:=decide (48<=c.toNat)&&decide (c.toNat<=57)
def wch(c:UInt8):Bool:=qk5 c||isDig c||c==95
def zch(c:UInt8):Bool:=decide (32<=c.toNat)&&decide (c.toNat<=126)
def qpL(l:EL):Bool:=l.all zch&&decide (1<=l.length)&&decide (l.length<=40)
def qrK:EL:=[60,61,43,45,124,92,42,38,40,41,91,93,44]
def spL:EL:=[32,9,10]
def qrL:List (EL×Nat×Nat):=[([111,114],24,1),([97,110,100],23,2),([110,111,116],25,3),([60],21,4),([61],22,4),([43],18,5),([45],19,5),([124],7,5),([92],9,5),([42],20,6),([38],8,6),([100,117,114,105,110,103],12,7)]
def qrM:List (EL×Nat×Nat):=[
 ([119,104,101,110],10,1),([100,101,102,105,110,101,100],11,1),([100,105,115,116,97,110,99,101,50],13,2),([115,112,101,101,100,50],14,1),([119,105,116,104,105,110],15,3),([105,110,115,105,100,101],16,2),([97,114,101,97,50],17,1),
 ([115,111,109,101,116,105,109,101],26,1),([97,108,119,97,121,115],27,1),([108,97,115,116,105,110,103],28,2),([115,104,105,102,116],29,2),([108,101,97,115,116],30,2)]
def qpM:List EL:=[[118,97,108,117,101],[111,98,106,101,99,116,115],[119,104,101,114,101],[112,97,105,114,115],[112,111,105,110,116],[111,98,106,101,99,116],[122,111,110,101]]
def resL:List EL:=qpM++qrL.map (·.1)++qrM.map (·.1)
structure Ps where
 s:EL
 pos:Nat
 k:Nat
 at_:Nat
 tx:EL
 bat:Nat
 be:Nat
 fail:Bool
def Ps.ok(p:Ps):Prop:=p.s.length<=4096∧p.pos<=p.s.length
def Ps.tok(p:Ps)(a k n:Nat):Ps:={p with pos:=a+n,k:=k,at_:=a,tx:=(p.s.drop a).take n}
def dgs(l:EL):Nat:=(l.takeWhile isDig).length
def qnb(l:EL):Nat:=
 match l.drop (dgs l) with
 |47::c::r=>if isDig c then dgs l+1+dgs (c::r) else dgs l
 |_=>dgs l
def quo:EL->Option (EL×Nat)
 |[]=>none
 |[c]=>if c=34 then some ([],0) else none
 |c::d::l=>if c=34 then(if d=34 then(quo l).map fun x=>(34::x.1,x.2+2) else some ([],0)) else(quo (d::l)).map fun x=>(c::x.1,x.2+1)
def Ps.quoted(p:Ps)(a:Nat):Ps:=
 match quo (p.s.drop (a+1)) with
 |some (n,k)=>if qpL n then {p with pos:=a+k+2,k:=3,at_:=a,tx:=n} else {p with k:=5,at_:=a,tx:=[]}
 |none=>{p with k:=5,at_:=a,tx:=[]}
def Ps.skip(p:Ps):Nat:=p.pos+((p.s.drop p.pos).takeWhile spL.contains).length
def Ps.adv(p:Ps):Ps:=
 match p.s.drop p.skip with
 |[]=>{p with pos:=p.skip,k:=0,at_:=p.skip,tx:=[]}
 |c::r=>
  if qk5 c then p.tok p.skip 1 ((c::r).takeWhile wch).length
  else if isDig c then p.tok p.skip 2 (qnb (c::r))
  else if c=34 then({p with pos:=p.skip}).quoted p.skip
  else if qrK.contains c then p.tok p.skip 4 1
  else p.tok p.skip 5 0
def Ps.stop(p:Ps)(e:Nat):Ps:=if p.fail then p else {p with bat:=p.at_,be:=e,fail:=true}
def Ps.is(p:Ps)(x:EL):Bool:= !p.fail&&(p.k==1||p.k==4)&&p.tx==x
def Ps.want(p:Ps)(x:EL):Ps:=if p.is x then p.adv else p.stop 15
def Ps.name(p:Ps):Ps:=if p.fail||p.k !=1||resL.contains p.tx then p.stop 15 else if 40<p.tx.length then p.stop 34 else p.adv
def qiQ(l:EL):Nat:=l.foldl (fun n c=>n*10+(c.toNat-48)) 0
def qnc(t:EL):Option Rat:=
 let a:=t.takeWhile isDig
 match t.drop a.length with
 |[]=>some (qiQ a:Rat)
 |_::b=>if qiQ b=0 then none else some (Rat.divInt (qiQ a) (qiQ b))
def qrN(q:Rat):Bool:=decide (q.den=1)&&decide (1<=q.num)&&decide (q.num<=1073741824)
def XT.numd(op:Nat)(q:Rat):XT:= .mk op [] (.q q) []
def Ps.number(p:Ps)(object:Bool):Rat×Ps:=
 if p.fail||p.k !=2 then(0,p.stop 15) else
 match qnc p.tx with
 |none=>(0,p.stop 6)
 |some q=>if object&& !qrN q then(0,p.stop 27) else(q,p.adv)
def qnd:EL:=[45]
def Ps.signed(p:Ps):XT×Ps:=
 if p.is qnd then(.numd 1 (-(p.adv.number false).1),(p.adv.number false).2) else(.numd 1 (p.number false).1,(p.number false).2)
end Go.Via
namespace Go.Via
open Go
def Ps.cells(p:Ps):List Value:=[.string (lL p.s),.int .i64 (p.pos:Nat),.int .i64 (p.k:Nat),.int .i64 (p.at_:Nat),.string (lL p.tx),.int .i64 (p.bat:Nat),.int .i64 (p.be:Nat),.bool p.fail]
end Go.Via
namespace Go.Via
variable[Mo]
open Go Go.RowKit
def NB(l:EL):List Value:=l.map fun b=> .int .u8 (b.toNat:Nat)
theorem PD(l:EL):(NB l).length=l.length:=by simp[NB]
section
variable{P:Program}{bl:List Nat}{ops:Array Oper}{K:St->Prop}{rest:List Oper}{nt:Nat}{t:List (Nat×Value)}{L:List aH}{d:Nat}{ty:TypeId}{pos:String}{af:Array Edge}{g:Option (Nat×Bool)}{x y:Operand}
end
end Go.Via
namespace Go.Via
variable[Mo]
open Go Go.RowKit
abbrev Bs.put(B:Bs)(f:Nat)(vs:List Value):Bs:=⟨B.w,B.S,{target:= .fn (.func f) #[],args:=vs.toArray}::B.D⟩
structure Bd where
 b:Option Nat
 n:Nat
 cap:Nat
 s:EL
def Bd.ok(d:Bd):Prop:=d.s.length<=d.cap∧d.cap<=d.n∧(d.b=none↔d.cap=0)
abbrev OB(m:Nat):={r:OR m 1 // r.b=none↔r.cap=0}
def OB.bd{m:Nat}(r:OB m)(s:EL):Bd:=⟨r.1.b,r.1.n,r.1.cap,s⟩
def OB.ok{m:Nat}(r:OB m){s:EL}(h:s.length=m):(r.bd s).ok:=⟨by show s.length<=r.1.cap;rw[h];exact r.1.h,by have:=r.1.hn;show r.1.cap<=r.1.n;omega,r.2⟩
theorem Bd.pos{d:Bd}(h:d.ok):d.b≠none->d.n≠0:=fun hb=>by
 have h1:=h.2.1;have h2:d.cap≠0:=fun e=>hb (h.2.2.2 e)
 omega
end Go.Via
namespace Go.Via
variable[Mo]
open Go Go.RowKit
theorem UV(a b:EL):lL a++lL b=lL (a++b):=by
 apply ByteArray.ext
 simp[lL,ByteArray.data_append]
section
variable{P:Program}{bl:List Nat}{ops:Array Oper}{K:St->Prop}{rest:List Oper}{nt:Nat}{t:List (Nat×Value)}{L:List aH}{d:Nat}{ty:TypeId}{pos:String}{af:Array Edge}{g:Option (Nat×Bool)}{x y z:Operand}
def qne{T U:Nat}{a b:ByteArray}{p q r:EL}(hd:Nat.blt d nt=true)(hg:aB ops ⟨some d,.binOp .add T x y U,ty,pos,af,g⟩ t=some true)(hx:ev t x=some (.string a))(hy:ev t y=some (.string b))(ha:a=lL p)(hb:b=lL q)(hr:p++q=r)(hlen:p.length+q.length<=17179869184)
 (h:aW P bl ops rest ⟨nt,(d,.string (lL r))::t,L⟩ K):aW P bl ops (⟨some d,.binOp .add T x y U,ty,pos,af,g⟩::rest) ⟨nt,t,L⟩ K:=by
 subst ha;subst hb;subst hr;exact fE hd hg rfl (fun B a w hrel=>by
 have h1:=hrel.ev hx;have h2:=hrel.ev hy;have h3:=run_string_add_sum (P:=P) w (lL p) (lL q) (by rw[yt,yt];omega);rw[UV] at h3;simp[execOp,h1,h2,eqGuard,binOp,h3]) h
end
end Go.Via
namespace Go.Via
variable[Mo]
open Go Go.RowKit
section
variable{P:Program}{bl:List Nat}{ops:Array Oper}{K:St->Prop}{rest:List Oper}{nt:Nat}{t:List (Nat×Value)}{L:List aH}{d:Nat}{ty:TypeId}{pos:String}{af:Array Edge}{g:Option (Nat×Bool)}{x y:Operand}
def Hu{f:Nat}{args:List Operand}{ts:Array TypeId}{dst:Option Nat}(vs caps:List Value){A C:List aH}{X:Type}{res:X->Value}{L1:X->List aH}(ks is:List Nat)(mk:X->List aH)(hM:JH bl=true)(hd:(match dst with|some d=>Nat.blt d nt|none=>true)=true)
 (hg:aB ops ⟨dst,.call {callee:= .value x,args:=args.toArray,argTypes:=ts},ty,pos,af,g⟩ t=some true)(hf:ev t x=some (.func (.func f) #[] caps.toArray))
 (hv:args.map (ev t)=vs.map some)(hc:Du P f (A++C) (vs++caps) X res L1)(hn:ks.Nodup)(hk:ks.map (fun k=>L[k]?)=A.map some)(hA:(A.all fun b=>b.own&&(Nat.blt b.e dA||b.base.isSome))=true)(hp:jf L (is.map some) C)(hC:(C.all fun b=> !b.own)=true)(hap:lI ((ks++is).map some) ((A++C).map (·.own))=true)
 (hlen:∀x,Nat.ble ks.length (L1 x).length=true)(hown:∀x,∀b∈L1 x,b.own=true∨∃a∈A,a.base=b.base∧b.base.isSome=true)(hL:∀x,setG L ks (L1 x)=mk x)
 (h:∀x,aW P bl ops rest (({nt:=nt,t:=t,L:=mk x}:St).put dst (res x)) K):
 aW P bl ops (⟨dst,.call {callee:= .value x,args:=args.toArray,argTypes:=ts},ty,pos,af,g⟩::rest) ⟨nt,t,L⟩ K:=
 qdl hd hg hM (X:=X) (nx:=fun x=>({nt:=nt,t:=t,L:=mk x}:St).put dst (res x)) (fun hd' B a w hr=>by
 have h1:(execOp a.eval ⟨dst,.call {callee:= .value x,args:=args.toArray,argTypes:=ts},ty,pos,af,g⟩).run P w= .ok (.enter f (vs++caps).toArray) w:=by
  have hfv:=hr.ev hf;have hva:args.toArray.map a.eval=vs.toArray:=EY;have hp:=hc.1;unfold iP at hp;cases hq:P.funcs[f]? with
  |none=>rw[hq] at hp;cases hp
  |some fn=>
   rw[hq] at hp;simp only[Bool.and_eq_true,Bool.not_eq_true'] at hp;obtain⟨h1,h2⟩:=hp;have h3:fn.body≠none:=YX
   have h4:¬fn.name= "runtime.NumGoroutine" :=IA;simp[execOp,resolve,hfv,hva,Deferred.ofValue,invoke,callFunc,hq,h4,h3]
 unfold Oper.wp;rw[h1];refine(hc.at ks is hn hk hA hp hC hap hlen hown hr.mem).mono ?_;rintro e w' ⟨x,rfl,hw⟩;refine⟨x,?_⟩;rw[hL] at hw;exact hr.put hd' hw) h
end
end Go.Via
namespace Go.Via
variable[Mo]
open Go Go.RowKit
section
variable{P:Program}{bl:List Nat}{ops:Array Oper}{K:St->Prop}{rest:List Oper}{nt:Nat}{t:List (Nat×Value)}{L:List aH}{d:Nat}{ty:TypeId}{pos:String}{af:Array Edge}{g:Option (Nat×Bool)}{x y:Operand}
def oD{f:Nat}{args:List Operand}{ts:Array TypeId}(vs:List Value){v:Value}(hd:Nat.blt d nt=true)(hg:aB ops ⟨some d,.call {callee:= .value x,args:=args.toArray,argTypes:=ts},ty,pos,af,g⟩ t=some true)
 (hf:ev t x=some (.func (.func f) #[] #[]))(hv:args.map (ev t)=vs.map some)(hc:aJ P f vs.toArray v)(h:aW P bl ops rest ⟨nt,(d,v)::t,L⟩ K):
 aW P bl ops (⟨some d,.call {callee:= .value x,args:=args.toArray,argTypes:=ts},ty,pos,af,g⟩::rest) ⟨nt,t,L⟩ K:=
 qem (caps:=[]) (L0:=[]) vs [] hd hg hf hv ⟨hc.1,fun w hL=>by
 have:=hc.2 w;rw[List.append_nil];exact this.mono (by rintro e w' ⟨rfl,hb⟩;exact⟨(),rfl,⟨.of hb,fun k b hk=>TY,fun i j g bi bj hij hi=>OV,mG.nil _ _⟩⟩)⟩ (by exact trivial) rfl h
def UW{T:Nat}{v:Value}(hd:Nat.blt d nt=true)(hg:aB ops ⟨some d,.makeInterface T x,ty,pos,af,g⟩ t=some true)(hx:ev t x=some v)(hm:∀w,(Instr.makeInterface T v).run P w= .ok (.iface T v) w)
 (h:aW P bl ops rest ⟨nt,(d,.iface T v)::t,L⟩ K):aW P bl ops (⟨some d,.makeInterface T x,ty,pos,af,g⟩::rest) ⟨nt,t,L⟩ K:=
 fE hd hg rfl (fun B a w hr=>by simp[execOp,hr.ev hx,hm w]) h
def y7{n:String}{v:Value}(hd:Nat.blt d nt=true)(hg:aB ops ⟨some d,.makeFunc (.method n) #[x] #[],ty,pos,af,g⟩ t=some true)(hx:ev t x=some v)(u:Value)(hm:∀w,(Instr.makeFunc (.method n) #[v] #[]).run P w= .ok u w)(h:aW P bl ops rest ⟨nt,(d,u)::t,L⟩ K):
 aW P bl ops (⟨some d,.makeFunc (.method n) #[x] #[],ty,pos,af,g⟩::rest) ⟨nt,t,L⟩ K:=
 fE hd hg rfl (fun B a w hr=>by simp[execOp,hr.ev hx,hm w]) h
def AV{n:String}{T:Nat}{u:Value}(hd:Nat.blt d nt=true)(hg:aB ops ⟨some d,.nilCheck x,ty,pos,af,g⟩ t=some true)(hx:ev t x=some (.func (.method n) #[.iface T u] #[]))(hm:∀w,(nilAhead (P.types.size+Made.depth) T u n).run P w= .ok (some false) w)
 (h:aW P bl ops rest ⟨nt,(d,.func (.method n) #[.iface T u] #[])::t,L⟩ K):aW P bl ops (⟨some d,.nilCheck x,ty,pos,af,g⟩::rest) ⟨nt,t,L⟩ K:=
 fE hd hg rfl (fun B a w hr=>by
 have hp0:Sem.run P (Sem.program Sem.pure) w= .ok P w:=rfl;simp[execOp,hr.ev hx,program,hp0,hm w]) h
def JR{f:Nat}{n:String}{args:List Operand}{ts:Array TypeId}(T:Nat)(u r:Value)(vs:List Value){v:Value}(hd:Nat.blt d nt=true)(hg:aB ops ⟨some d,.call {callee:= .invoke x n,args:=args.toArray,argTypes:=ts},ty,pos,af,g⟩ t=some true)
 (hf:ev t x=some (.iface T u))(hm:∀w,(method (P.types.size+Made.depth) T u n).run P w= .ok (f,r) w)(hv:args.map (ev t)=vs.map some)(hc:aJ P f (r::vs).toArray v)(h:aW P bl ops rest ⟨nt,(d,v)::t,L⟩ K):
 aW P bl ops (⟨some d,.call {callee:= .invoke x n,args:=args.toArray,argTypes:=ts},ty,pos,af,g⟩::rest) ⟨nt,t,L⟩ K:=
 O0 hd hg rfl rfl (X:=Unit) (nx:=fun _=>⟨nt,(d,v)::t,L⟩) (fun hd' B a w hr=>by
 have h1:(execOp a.eval ⟨some d,.call {callee:= .invoke x n,args:=args.toArray,argTypes:=ts},ty,pos,af,g⟩).run P w= .ok (.enter f (r::vs).toArray) w:=by
  have hfv:=hr.ev hf;have hva:args.toArray.map a.eval=vs.toArray:=EY;have hp:=hc.1;have hmw:=hm w;unfold iP at hp;cases hq:P.funcs[f]? with
  |none=>rw[hq] at hp;cases hp
  |some fn=>
   rw[hq] at hp;simp only[Bool.and_eq_true,Bool.not_eq_true'] at hp;obtain⟨h1,h2⟩:=hp;have h3:fn.body≠none:=YX
   have h4:¬fn.name= "runtime.NumGoroutine" :=IA;have hp0:Sem.run P (Sem.program Sem.pure) w= .ok P w:=rfl;simp[execOp,resolve,hfv,hva,invoke,callMethod,program,hp0,hmw,callFunc,hq,h4,h3]
 unfold Oper.wp;rw[h1];refine(hc.2 w).mono ?_;rintro e w' ⟨rfl,hw⟩;exact⟨(),hr.put hd' (hr.mem.same hw)⟩) fun _=>h
end
end Go.Via
namespace Go.Via
variable[Mo]
open Go Go.RowKit
def elW(P:Program)(e:Nat)(s:Nat)(z:Value):Prop:=((P.info? e).map fun inf=>(inf.size,Nat.ble inf.bytes 1024,inf.zero))=some (s,true,some z)∧e<dA
section
variable{P:Program}{bl:List Nat}{ops:Array Oper}{K:St->Prop}{rest:List Oper}{nt:Nat}{t:List (Nat×Value)}{L:List aH}{d:Nat}{ty:TypeId}{pos:String}{af:Array Edge}{g:Option (Nat×Bool)}{x y:Operand}
def qer{e s:Nat}{z:Value}(h:elW P e s z):∃inf,P.info? e=some inf∧inf.zero=some z∧inf.size=s∧inf.bytes<=1024:=by
 unfold elW at h;replace h:=h.1;cases hq:P.info? e with
 |none=>rw[hq] at h;cases h
 |some inf=>
  rw[hq] at h;simp at h;exact⟨inf,rfl,h.2.2,h.1,h.2.1⟩
def qbR{T e s:Nat}{z:Value}{b:aH}{len cap b2o n2 c2:Nat}{b2:aH}(k k2:Nat)(mk:AR (len+n2) s->List aH)(hT:P.underlying T=some (.slice e))(hi:elW P e s z)(hd:Nat.blt d nt=true)
 (hg:aB ops ⟨some d,.call {callee:= .builtin .append,args:= #[x,y],argTypes:= #[T,T]},ty,pos,af,g⟩ t=some true)
 (hk:L[k]? =some b)(ho:b.own=true)(he:b.e=e)(hx:ev t x=some (aA b.base 0 len cap))(hk2:L[k2]? =some b2)(hb2:b2.base=some b2o)(hy:ev t y=some (aA (some b2o) 0 n2 c2))(hs:Nat.blt 0 s=true)(hzs:z.cells.size=s)(hpos:Nat.blt 0 n2=true)
 (hlen:b.cs.length=len*s)(hcap:len<=cap)(hn:cap*s<=b.n)(hlen2:b2.cs.length=n2*s)(h1:∀v∈b2.cs,v.oneCell'=true)(hmax:len+n2<=17179869184)
 (hL:∀r,L.set k ⟨some r.g,e,b.cs++b2.cs,r.n,true⟩=mk r)
 (h:∀r:AR (len+n2) s,aW P bl ops rest ⟨nt,(d,aA (some r.g) 0 (len+n2) r.cap)::t,mk r⟩ K):
 aW P bl ops (⟨some d,.call {callee:= .builtin .append,args:= #[x,y],argTypes:= #[T,T]},ty,pos,af,g⟩::rest) ⟨nt,t,L⟩ K:=by
 obtain⟨inf,i1,i2,i3,i5⟩:=qer hi;subst i3;exact Ux hi.2 k k2 mk hT i1 i2 (by simpa using hs) hzs ae hd hg hk ho he hlen hcap hn hx hk2 hlen2 Uj hb2 hy h1 hmax hL h
end
def dQ{B:Bs}{nt:Nat}{t:List (Nat×Value)}{L:List aH}{Q:Act->World->Prop}(k:Nat){b:Option Nat}{e n:Nat}{cs:List Value}{o:Bool}(hk:L[k]? =some ⟨b,e,cs,n,o⟩)(hcs:cs≠[])(h:b.isSome=true->At B ⟨nt,t,L⟩ Q):At B ⟨nt,t,L⟩ Q:=fun a w hr=>h (by
 cases b with
 |none=>exact absurd ((hr.mem.blk k _ hk).2 rfl).1 hcs
 |some g=>rfl) a w hr
end Go.Via
namespace Go.Via
variable[Mo]
open Go Go.RowKit
def rE{P:Program}{B:Bs}{s:St}{Q:Exit->Act->World->Prop}{x y:Code}{nt:Nat}{X:Type}(T:X->List (Nat×Value))(LL:X->List aH)
 (h1:At B s (x.wp P (Exit.then (fun a w=>∃z,kN B ⟨nt,T z,LL z⟩ a w) Q)))(h2:∀z,At B ⟨nt,T z,LL z⟩ (y.wp P Q)):At B s ((Code.seq x y).wp P Q):=
 WG fun a w hr=>Code.wp_mono (fun e a w h=>by
 cases e with
 |normal=>obtain⟨z,h⟩:=h;exact h2 z a w h
 |_=>exact h) (h1 a w hr)
def FO{B:Bs}{nt:Nat}{t:List (Nat×Value)}{L:List aH}{X:Type}{T:X->List (Nat×Value)}{LL:X->List aH}(z:X)(lk:jT t (T z))(hw:fF L (LL z)):At B ⟨nt,t,L⟩ (fun a w=>∃z,kN B ⟨nt,T z,LL z⟩ a w):=fun a w hr=>
 ⟨z,hr.df,hr.size,fun d v hd=>hr.tmp d v (lk.mem (d,v) (uG hd)),hw _ _ hr.mem⟩
end Go.Via
namespace Go.Via
variable[Mo]
open Go Go.RowKit
def AX(n:Nat)(R:List Nat):Array Bool:=((List.range n).map fun j=> !R.contains j).toArray
theorem LH{n:Nat}{R:List Nat}{j:Nat}:(AX n R)[j]? =if j<n then some (!R.contains j) else none:=by
 unfold AX;simp[List.getElem?_map,List.getElem?_range]
 split<;>simp_all
theorem UX{n:Nat}{R:List Nat}{i:Nat}:(AX n R).setIfInBounds i true=AX n (R.filter (· !=i)):=by
 refine Array.ext_getElem? fun j=>?_
 rw[Array.getElem?_setIfInBounds,LH,LH];have hs:(AX n R).size=n:=by simp[AX]
 rw[hs]
 by_cases e:i=j
 ·subst e
  by_cases h:i<n
  ·simp[h]
  ·simp[h]
 ·rw[if_neg e];have:(R.filter (· !=i)).contains j=R.contains j:=by
   rw[Bool.eq_iff_iff];simp[List.mem_filter];exact fun _ h=>e h.symm
  rw[this]
theorem qes{n:Nat}:Array.replicate n false=AX n (List.range n):=by
 refine Array.ext_getElem? fun j=>?_
 rw[LH,Array.getElem?_replicate]
 split
 ·rename_i h;simp[h]
 ·rfl
def xy(P:Program)(ops:Array Oper)(X:Act->World->Prop)(B:Bs)(n:Nat)(R:List Nat)(s:St):Prop:=∀a w,kN B s a w->wpAny P .any ops (wL X) n (AX ops.size R) a w
section
variable{P:Program}{ops:Array Oper}{X:Act->World->Prop}{B:Bs}{n:Nat}{R:List Nat}
def qnf{s:St}(h:Region.ready .any ops (AX ops.size R)=[])(hk:At B s X):xy P ops X B 0 R s:=fun a w hr=>⟨h,hk a w hr⟩
def aI{s:St}(l:List Nat)(h1:Region.ready .any ops (AX ops.size R)=l)(h2:l.isEmpty=false)
 (h:CV (fun i=>∃o,ops[i]? =some o∧aW P [1000000] ops [o] s (fun s'=>xy P ops X B n (R.filter (· !=i)) s')) l):xy P ops X B (n+1) R s:=fun a w hr=>by
 refine⟨fun h0=>?_,fun i hi=>?_⟩
 ·rw[h1] at h0;subst h0;cases h2
 ·rw[h1] at hi;obtain⟨o,ho,hs⟩:=h.mem i hi;have:=iM.sound (K':=fun a' w'=>wpAny P .any ops (wL X) n ((AX ops.size R).setIfInBounds i true) a' w') (Q:=wL X) hs hr (fun s' a' w' hk hr'=>by rw[UX];exact hk a' w' hr')
  unfold wpOp;rw[ho];dsimp only
  split
  ·rename_i hw;rw[if_pos hw] at this;exact .inl this
  ·rename_i hw;rw[if_neg hw] at this;exact this
def qiR{nt:Nat}{t:List (Nat×Value)}{L:List aH}(i:Nat){l':List Oper}(hc:(Region.noSelect ops&&Ce ops (AX ops.size R) [i])=true)(hl:[ops.getD i default]=l')
 (h:aW P [] ops l' ⟨nt,t,[]⟩ (fun s'=>xy P ops X B n (R.filter (· !=i)) ⟨nt,s'.t,L⟩)):xy P ops X B (n+1) R ⟨nt,t,L⟩:=fun a w hr=>by
 simp only[Bool.and_eq_true] at hc;subst hl;have:=AQ (P:=P) (B:=B) (w:=w) (nt:=nt) (L:=L) (n:=n) (X:=X) hc.1 (G:=fun t listed=>xy P ops X B n (R.filter (· !=i)) ⟨nt,t,L⟩∧listed=AX ops.size (R.filter (· !=i)))
  (fun t listed a hG hrel=>by rw[hG.2];exact hG.1 a w hrel) [i] (AX ops.size R) t a hc.2 (aW.mono (fun s' h=>⟨h,by simp only[List.foldl];exact UX⟩) h) hr
 rw[show[i].length+n=n+1 by simp;omega] at this;exact this
def qiS{nt:Nat}{t:List (Nat×Value)}{L:List aH}{Z:Type}{T:Z->List (Nat×Value)}{LL:Z->List aH}(h:∀z,xy P ops X B n R ⟨nt,T z,LL z⟩)(z:Z)(lk:jT t (T z))(hw:fF L (LL z)):xy P ops X B n R ⟨nt,t,L⟩:=
 fun a w hr=>h z a w ⟨hr.df,hr.size,fun d v hd=>hr.tmp d v (lk.mem (d,v) (uG hd)),hw _ _ hr.mem⟩
def aC{nt:Nat}{Z:Type}(T:Z->List (Nat×Value))(LL:Z->List aH)(m:Nat)(R':List Nat){s:St}(h:∀z,xy P ops X B m R' ⟨nt,T z,LL z⟩)(k:(∀z,xy P ops X B m R' ⟨nt,T z,LL z⟩)->xy P ops X B n R s):xy P ops X B n R s:=k h
end
def qbS{P:Program}{B:Bs}{Q:Exit->Act->World->Prop}{s:St}{id:Nat}{l:List Oper}(n:Nat)(R:List Nat)(hm:P.follows .mixedOrders=true)(hn:(l.length==n&&R==List.range n)=true)
 (h:xy P l.toArray (Q .normal) B n R s):At B s ((Code.region id l.toArray true).wp P Q):=fun a w hr=>by
 simp only[Bool.and_eq_true,beq_iff_eq] at hn;obtain⟨rfl,rfl⟩:=hn;refine wp_region_any hm ?_;have hsz:l.toArray.size=l.length:=bz
 refine sF (Q:=wL (Q .normal)) (Q':=Q) (fun _ _ h=>h) (fun _ _ _ h=>h.elim) (fun⟨_,_,h⟩=>h.elim) _ _ _ _ ?_;rw[qes];have:=h a _ hr.drew;rw[hsz] at*;exact this
end Go.Via
namespace Go.Via
open Go Go.RowKit
def uy{P:Program}{B:Bs}{Q:Exit->Act->World->Prop}{nt:Nat}{t:List (Nat×Value)}{L:List aH}{id:Nat}{l:List Oper}{Z:Type}(T:Z->List (Nat×Value))(LL:Z->List aH)(n:Nat)(R:List Nat)(hm:P.follows .mixedOrders=true)
 (hn:(l.length==n&&R==List.range n&&(Region.ready .any l.toArray (AX l.toArray.size [])).isEmpty)=true)
 (h:(∀z,xy P l.toArray (Q .normal) B 0 [] ⟨nt,T z,LL z⟩)->xy P l.toArray (Q .normal) B n R ⟨nt,t,L⟩)(hk:∀z,At B ⟨nt,T z,LL z⟩ (Q .normal)):At B ⟨nt,t,L⟩ ((Code.region id l.toArray true).wp P Q):=by
 rw[Bool.and_eq_true] at hn;exact qbS n R hm hn.1 (h fun z=>qnf (List.isEmpty_iff.1 hn.2) (hk z))
end Go.Via
namespace Go.Via
variable[Mo]
open Go Go.RowKit Go.Sort Go.Proofs
def aX.rowMod{B:Bs}{w w':World}{L:List aH}(h:aX B L w){k:Nat}{b:aH}(hk:L[k]? =some b)(ho:b.own=true){g:Nat}(hg:b.base=some g)(hn0:b.n≠0)(f:Array Value->Array Value)(cs':List Value)
 (hf:∀cur:Array Value,cur.size=b.n->cur.toList.take b.cs.length=b.cs->(f cur).size=b.n∧(f cur).toList.take cs'.length=cs')
 (h1:w'.os=w.os)(h2:w'.tape=w.tape)(h3:w'.output=w.output)(h4:w.heap.size<=w'.heap.size)(h5:∀i,i<w.heap.size->i≠g->w'.heap[i]? =w.heap[i]?)
 (h6:∀cur:Array Value,w.heap[g]? =some (.cells cur b.e (0,0))->w'.heap[g]? =some (.cells (f cur) b.e (0,0)))(h7:w.drawn<=w'.drawn:=by first|exact Nat.le_refl _|exact Nat.le_add_right _ _):aX B (L.set k {b with cs:=cs'}) w':=by
 obtain⟨cur,⟨e',fr,a1,a2,_⟩,a3,a4⟩:=((h.blk k b hk).1 g hg).cells (.inl hn0);obtain⟨rfl,rfl⟩:=a2 ho;obtain⟨b1,b2⟩:=hf cur a3 a4;have hs:=h.set hk ho hg (f cur) cs' b1 b2;have hh:=setRow_heap w g cur (f cur) b.e (0,0) a1;have hsz:(w.setRow g (f cur)).heap.size=w.heap.size:=bz
 refine hs.same ⟨h1,h2,h3,by rw[hsz];exact h4,fun i hi=>?_,fun _=>h7⟩
 rw[hsz] at hi
 by_cases e:i=g
 ·subst e;rw[h6 cur a1,hh]
 ·rw[h5 i hi e,setRow_other w g i _ e]
def SB(l:List EL):List Value:=l.map fun s=> .string (lL s)
theorem qbT(l:List EL):(SB l).length=l.length:=by simp[SB]
abbrev SBk(b:Option Nat)(l:List EL)(n:Nat):aH:=⟨b,9,SB l,n,true⟩
def aX.loose{B:Bs}{w:World}{L:List aH}(h:aX B L w){k:Nat}{b:aH}(hk:L[k]? =some b)(ho:b.own=true){g:Nat}(hg:b.base=some g)(hn0:b.n≠0)(j:Nat):w.frozen? ⟨g,j,none⟩=false:=by
 obtain⟨cur,⟨e',fr,a1,a2,_⟩,a3,a4⟩:=((h.blk k b hk).1 g hg).cells (.inl hn0);obtain⟨rfl,rfl⟩:=a2 ho;simp[World.frozen?,a1]
def UY{d:List EL}{cur:Array Value}(h:d.length<=cur.size):(putCells encStr 0 d.toArray cur).size=cur.size∧(putCells encStr 0 d.toArray cur).toList.take (SB d).length=SB d:=by
 refine⟨by simp[putCells],?_⟩
 apply List.ext_getElem?
 intro i;rw[qbT,List.getElem?_take]
 split
 ·rename_i hi
  unfold SB;rw[List.getElem?_map,List.getElem?_eq_getElem hi,Array.getElem?_toList];unfold putCells;rw[Array.getElem?_mapIdx,Array.getElem?_eq_getElem ae];simp only[Option.map_some,Nat.zero_le,true_and,List.size_toArray,Nat.zero_add,hi,if_true,Nat.sub_zero];rw[getElem!_pos d.toArray i qa5]
  rfl
 ·rename_i hi
  unfold SB;rw[List.getElem?_map,List.getElem?_eq_none ae]
  rfl
def aX.putRow{B:Bs}{w:World}{L:List aH}(h:aX B L w){k g n m:Nat}{l l':List EL}{os:Array Obj}(hk:L[k]? =some (SBk (some g) l n))(hl:l'.length<=n)(hn0:n≠0):
 aX B (L.set k (SBk (some g) l' n)) (grow (putRow encStr (Sort.ahead w m) g 0 l'.toArray) os):=by
 have hlt:=h.lt hk rfl;have e1:(grow (Go.Sort.putRow encStr (Sort.ahead w m) g 0 l'.toArray) os).heap=(w.heap.modify g (onCells (putCells encStr 0 l'.toArray)))++os:=rfl;refine h.rowMod hk rfl rfl hn0 (putCells encStr 0 l'.toArray) (SB l') (fun cur hc _=>by
 have hc':cur.size=n:=hc;obtain⟨p1,p2⟩:=UY (d:=l') (cur:=cur) ae;exact⟨p1.trans hc,p2⟩) rfl rfl rfl (by rw[e1];simp) (fun i hi hne=>?_) (fun cur hcur=>?_)
 ·rw[e1,Array.getElem?_append_left qa5,Array.getElem?_modify,if_neg (fun e=>hne e.symm)]
 ·rw[e1,Array.getElem?_append_left Ui,Array.getElem?_modify,if_pos rfl,hcur]
  rfl
end Go.Via
namespace Go.Via
variable[Mo]
open Go Go.RowKit
section
variable{P:Program}{bl:List Nat}{ops:Array Oper}{K:St->Prop}{rest:List Oper}{nt:Nat}{t:List (Nat×Value)}{L:List aH}{d:Nat}{ty:TypeId}{pos:String}{af:Array Edge}{g:Option (Nat×Bool)}{x y:Operand}
def qiT{T U e:Nat}{v:Option Addr}{n c:Nat}(hT:P.underlying T=some (.slice e))(hd:Nat.blt d nt=true)(hg:aB ops ⟨some d,.binOp .eql T x y U,ty,pos,af,g⟩ t=some true)(hx:ev t x=some (.slice v n c))(hy:ev t y=some (.slice none 0 0))
 (h:aW P bl ops rest ⟨nt,(d,.bool v.isNone)::t,L⟩ K):aW P bl ops (⟨some d,.binOp .eql T x y U,ty,pos,af,g⟩::rest) ⟨nt,t,L⟩ K:=
 fE hd hg rfl (fun B a w hrel=>by
 have:=Lib.run_eql_slice_nil (P:=P) w T e v n c 0 0 hT;simp[execOp,hrel.ev hx,hrel.ev hy,eqGuard,this]) h
def Cf{T U:Nat}{v:Option Addr}{te:TypeId}{r:Bool}(hT:P.underlying T=some (.pointer te))(hd:Nat.blt d nt=true)(hg:aB ops ⟨some d,.binOp .neq T x y U,ty,pos,af,g⟩ t=some true)(hx:ev t x=some (.pointer v))(hy:ev t y=some (.pointer none))(hr:v.isSome=r)
 (h:aW P bl ops rest ⟨nt,(d,.bool r)::t,L⟩ K):aW P bl ops (⟨some d,.binOp .neq T x y U,ty,pos,af,g⟩::rest) ⟨nt,t,L⟩ K:=
 fE hd hg rfl (fun B a w hrel=>by
 subst hr;have h:∀d:Nat,(Op.equalIn (d+1) T (.pointer v) (.pointer none)).run P w= .ok v.isNone w:=fun d=>by
  cases v<;>simp[Op.equalIn,run_underlying hT]
 simp only[execOp,hrel.ev hx,hrel.ev hy,eqGuard,binOp];cases v<;>simp[Op.equal,Op.maxDepth,h 9999]) h
end
end Go.Via
