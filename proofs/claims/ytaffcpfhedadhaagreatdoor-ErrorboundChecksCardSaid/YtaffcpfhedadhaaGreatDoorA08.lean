/-
  Part 8 (chapter 32): lemmas, walks. Each theorem states its own conditions.
-/
import GoSem.Core.World
import Derived.MapKept
import Derived.WalkKit
import Derived.WalkSpells
import Derived.WalkLawsBesides
import Derived.Deep.LoopGhost
import Derived.Test.YtaffcpfhedadhaaGreatDoorA05
set_option linter.all false
set_option maxRecDepth 20000
set_option maxHeartbeats 20000000
section
variable{P Q:Prop}{T:Type}{R:T->Prop}
def qbq(h:P:=by simpa using hpos):=h
end
namespace Go.Via
variable[Mo]
open Go Go.RowKit
section
variable{P:Program}{bl:List Nat}{ops:Array Oper}{K:St->Prop}{rest:List Oper}{nt:Nat}{t:List (Nat×Value)}{L:List aF}{d:Nat}{ty:TypeId}{pos:String}{af:Array Edge}{g:Option (Nat×Bool)}
def qrY{x:Operand}{v:Value}(hd:Nat.blt d nt=true)(hg:az ops ⟨some d,.move x,ty,pos,af,g⟩ t=some true)(hx:ev t x=some v)(h:aU P bl ops rest ⟨nt,(d,v)::t,L⟩ K):
 aU P bl ops (⟨some d,.move x,ty,pos,af,g⟩::rest) ⟨nt,t,L⟩ K:=eY hd hg rfl (qrL rfl hx) h (fun _=>hx)
def Yu{x:Operand}{v:Addr}(hd:Nat.blt d nt=true)(hg:az ops ⟨some d,.nilCheck x,ty,pos,af,g⟩ t=some true)(hx:ev t x=some (.pointer (some v)))(h:aU P bl ops rest ⟨nt,(d,.pointer (some v))::t,L⟩ K):
 aU P bl ops (⟨some d,.nilCheck x,ty,pos,af,g⟩::rest) ⟨nt,t,L⟩ K:=eY hd hg rfl (fun B a w hr=>by simp[execOp,hr.ev hx]) h
def Nh{x:Operand}{v:Value}(hd:Nat.blt d nt=true)(hg:az ops ⟨some d,.assign x,ty,pos,af,g⟩ t=some true)(hx:ev t x=some v)(h:aU P bl ops rest ⟨nt,(d,v)::t,L⟩ K):
 aU P bl ops (⟨some d,.assign x,ty,pos,af,g⟩::rest) ⟨nt,t,L⟩ K:=eY hd hg rfl (qfz rfl hx) h
def qm2{c x y:Operand}{v:Value}(hd:Nat.blt d nt=true)(hg:az ops ⟨some d,.pick c x y,ty,pos,af,g⟩ t=some true)(hc:ev t c=some (.bool true))(hx:ev t x=some v)(h:aU P bl ops rest ⟨nt,(d,v)::t,L⟩ K):
 aU P bl ops (⟨some d,.pick c x y,ty,pos,af,g⟩::rest) ⟨nt,t,L⟩ K:=eY hd hg rfl (qfA (b:=true) rfl hc hx) h
def qm3{c x y:Operand}{v:Value}(hd:Nat.blt d nt=true)(hg:az ops ⟨some d,.pick c x y,ty,pos,af,g⟩ t=some true)(hc:ev t c=some (.bool false))(hx:ev t y=some v)(h:aU P bl ops rest ⟨nt,(d,v)::t,L⟩ K):
 aU P bl ops (⟨some d,.pick c x y,ty,pos,af,g⟩::rest) ⟨nt,t,L⟩ K:=eY hd hg rfl (qfA (b:=false) rfl hc hx) h
def aT{T:Nat}{x:Operand}{i:TI}{b:aF}{v:Value}(k off:Nat)(vs:List Value)(hd:Nat.blt d nt=true)(hg:az ops ⟨some d,.load T x,ty,pos,af,g⟩ t=some true)(hk:(blank bl L)[k]? =some b)(hx:ev t x=some (b.at off))(hi:dH P T i=true)
 (hvs:(b.cs.drop off).take i.size=vs)(hlen:vs.length=i.size)(hpos:Nat.blt 0 i.size=true)(hv:(bif i.agg then some (.agg vs.toArray) else vs[0]?)=some v)(h:aU P bl ops rest ⟨nt,(d,v)::t,L⟩ K):
 aU P bl ops (⟨some d,.load T x,ty,pos,af,g⟩::rest) ⟨nt,t,L⟩ K:=eY hd hg rfl (qfB rfl k hk hx hi hvs hlen qbq hv) h
def qxu{o:Oper}(hdst:o.dst=some d)(hd:Nat.blt d nt=true)(hg:az ops o t=some false)(h:aU P bl ops rest ⟨nt,(d,undef)::t,L⟩ K):aU P bl ops (o::rest) ⟨nt,t,L⟩ K:=
 qrO (by rw[hdst];exact hd) hg (by rw[hdst];exact h)
def qpZ{T:Nat}{x:Operand}{v:Value}(cs:List Value)(n:Nat)(mk:Nat->List aF)(hd:Nat.blt d nt=true)(hg:az ops ⟨some d,.box T x,ty,pos,af,g⟩ t=some true)(hx:ev t x=some v)(hcs:v.cells.toList=cs)(hn:v.cells.size=n)
 (hL:∀b,L++[⟨some b,T,cs,n,true⟩]=mk b)(h:∀b,aU P bl ops rest ⟨nt,(d,.pointer (some ⟨b,0,none⟩))::t,mk b⟩ K)(hT:Nat.blt T cO=true:=by rfl):aU P bl ops (⟨some d,.box T x,ty,pos,af,g⟩::rest) ⟨nt,t,L⟩ K:=
 MV hd hg rfl rfl (fun hd'=>quM (by simpa using hT) hd' rfl hx) fun b=>by
  subst hcs;subst hn;have:=h b;rw[<-hL b] at this;exact this
def DR{T:Nat}{z:Value}(cs:List Value)(n:Nat)(mk:Nat->List aF)(hd:Nat.blt d nt=true)(hg:az ops ⟨some d,.alloc T,ty,pos,af,g⟩ t=some true)(hz:(P.info? T).bind (·.zero)=some z)(hcs:z.cells.toList=cs)(hn:z.cells.size=n)
 (hL:∀b,L++[⟨some b,T,cs,n,true⟩]=mk b)(h:∀b,aU P bl ops rest ⟨nt,(d,.pointer (some ⟨b,0,none⟩))::t,mk b⟩ K)(hT:Nat.blt T cO=true:=by rfl):aU P bl ops (⟨some d,.alloc T,ty,pos,af,g⟩::rest) ⟨nt,t,L⟩ K:=
 qfG (e:=T) (cs:=z.cells) hd hg rfl (qdn (by simpa using hT) rfl hz) fun b=>by
  subst hcs;subst hn;have:=h b;rw[<-hL b] at this;exact this
def jB(hbl:IE bl=false){T:Nat}{x y:Operand}{i:TI}{gg e n:Nat}{cs:List Value}{v:Value}(k off:Nat)(L':List aF)(cs':List Value)(hg:az ops ⟨none,.store T x y,ty,pos,af,g⟩ t=some true)(hk:L[k]? =some ⟨some gg,e,cs,n,true⟩)(hx:ev t x=some (.pointer (some ⟨gg,off,none⟩)))
 (hy:ev t y=some v)(hi:dH P T i=true)(hsz:v.cells.size=i.size)(hfit:Nat.ble (off+i.size) cs.length=true)(h1:(v.cells.toList.all fun u=>u.oneCell')=true)(hcs:cs.take off++v.cells.toList++cs.drop (off+i.size)=cs')(hL:L.set k ⟨some gg,e,cs',n,true⟩=L')
 (h:aU P bl ops rest ⟨nt,t,L'⟩ K)(hpos:Nat.blt 0 i.size=true:=by rfl):aU P bl ops (⟨none,.store T x y,ty,pos,af,g⟩::rest) ⟨nt,t,L⟩ K:=
 qbf hg rfl rfl (by
 subst hcs;subst hL;exact Gw (s:=⟨nt,t,L⟩) rfl k hk rfl (by rw[hx];rfl) rfl hy hi hsz qbq (by simpa using hfit) h1) (fun h2=>by rw[hbl] at h2;cases h2) h
def tC{T:Nat}{x y:Operand}{i:TI}{gg e n:Nat}{cs:List Value}{v:Value}(k off:Nat)(L':List aF)(cs':List Value)(hg:az ops ⟨none,.store T x y,ty,pos,af,g⟩ t=some true)(hk:L[k]? =some ⟨some gg,e,cs,n,true⟩)(hx:ev t x=some (.pointer (some ⟨gg,off,none⟩)))
 (hy:ev t y=some v)(hi:dH P T i=true)(hsz:v.cells.size=i.size)(hfit:Nat.ble (off+i.size) cs.length=true)(h1:(v.cells.toList.all fun u=>u.oneCell')=true)(hcs:cs.take off++v.cells.toList++cs.drop (off+i.size)=cs')(hL:L.set k ⟨some gg,e,cs',n,true⟩=L')(hb:blank bl L'=blank bl L)
 (h:aU P bl ops rest ⟨nt,t,L'⟩ K)(hpos:Nat.blt 0 i.size=true:=by rfl):aU P bl ops (⟨none,.store T x y,ty,pos,af,g⟩::rest) ⟨nt,t,L⟩ K:=
 qbf hg rfl rfl (by
 subst hcs;subst hL;exact Gw (s:=⟨nt,t,L⟩) rfl k hk rfl (by rw[hx];rfl) rfl hy hi hsz qbq (by simpa using hfit) h1) (fun _=>hb) h
def fJ{f:Nat}{args:List Operand}{ts:Array TypeId}(vs:List Value){v:Value}(hd:Nat.blt d nt=true)(hg:az ops ⟨some d,.call {callee:= .value (.func f),args:=args.toArray,argTypes:=ts},ty,pos,af,g⟩ t=some true)
 (hv:args.map (ev t)=vs.map some)(hc:aG P f vs.toArray v)(h:aU P bl ops rest ⟨nt,(d,v)::t,L⟩ K):
 aU P bl ops (⟨some d,.call {callee:= .value (.func f),args:=args.toArray,argTypes:=ts},ty,pos,af,g⟩::rest) ⟨nt,t,L⟩ K:=
 Gx hd hg rfl (qrP (s:=⟨nt,t,L⟩) rfl hv hc) (fun _=>⟨qmU (s:=⟨nt,t,L⟩) rfl hv hc,⟨()⟩⟩) fun _=>by
  have:L++([]:List aF)=L:=List.append_nil L;show aU P bl ops rest ⟨nt,(d,v)::t,L++[]⟩ K;rw[this];exact h
theorem qfO{T:Nat}(hT:P.underlying T=some .bool)(m n:Bool)(w:World):(binOp .eql T (.bool m) (.bool n)).run P w= .ok (.bool (m==n)) w:=by
 have:=run_equalIn_bool w 9999 T m n hT;simp only[binOp,Op.equal,Op.maxDepth,Sem.run_bind,this,Result.andThen_ok,Sem.run_pure]
theorem qfP{T:Nat}(hT:P.underlying T=some .bool)(m n:Bool)(w:World):(binOp .neq T (.bool m) (.bool n)).run P w= .ok (.bool (m !=n)) w:=by
 have:=run_equalIn_bool w 9999 T m n hT;simp only[binOp,Op.equal,Op.maxDepth,Sem.run_bind,this,Result.andThen_ok,Sem.run_pure]
 rfl
section
variable{x y:Operand}(hd:Nat.blt d nt=true)
def quZ{T:Nat}{b:Bool}(hd:Nat.blt d nt=true)(hg:az ops ⟨some d,.unOp .not T x,ty,pos,af,g⟩ t=some true)(hx:ev t x=some (.bool b))(h:aU P bl ops rest ⟨nt,(d,.bool (!b))::t,L⟩ K):
 aU P bl ops (⟨some d,.unOp .not T x,ty,pos,af,g⟩::rest) ⟨nt,t,L⟩ K:=
 eY hd hg rfl (fun B a w hr=>by simp[execOp,hr.ev hx,Op.unary]) h
def IU{i:Nat}{vs:List Value}{v:Value}(hd:Nat.blt d nt=true)(hg:az ops ⟨some d,.extract x i,ty,pos,af,g⟩ t=some true)(hx:ev t x=some (.tuple vs.toArray))(hv:vs[i]? =some v)(h:aU P bl ops rest ⟨nt,(d,v)::t,L⟩ K):
 aU P bl ops (⟨some d,.extract x i,ty,pos,af,g⟩::rest) ⟨nt,t,L⟩ K:=
 eY hd hg rfl (fun B a w hr=>by simp[execOp,hr.ev hx,Instr.extract,hv]) h (fun _=>by unfold oq;simp[hx,hv])
def qfQ{op:BinOp}{T U:Nat}{k:IntKind}{m n:Int}{r:Bool}(hd:Nat.blt d nt=true)(hg:az ops ⟨some d,.binOp op T x y U,ty,pos,af,g⟩ t=some true)(hx:ev t x=some (.int k m))(hy:ev t y=some (.int k n))
 (hr:(match op with| .eql=>some (m==n)| .neq=>some (m !=n)| .lss=>some (decide (m<n))| .leq=>some (decide (m<=n))| .gtr=>some (decide (n<m))| .geq=>some (decide (n<=m))|_=>none)=some r)(h:aU P bl ops rest ⟨nt,(d,.bool r)::t,L⟩ K):
 aU P bl ops (⟨some d,.binOp op T x y U,ty,pos,af,g⟩::rest) ⟨nt,t,L⟩ K:=
 eY hd hg rfl (fun B a w hrel=>by
 have h1:=hrel.ev hx;have h2:=hrel.ev hy;cases op<;>simp at hr<;>subst hr<;>simp[execOp,h1,h2,eqGuard,binOp,Op.intCmp]) h
def IV{T U:Nat}{m n:Bool}(hd:Nat.blt d nt=true)(hT:P.underlying T=some .bool)(hg:az ops ⟨some d,.binOp .eql T x y U,ty,pos,af,g⟩ t=some true)(hx:ev t x=some (.bool m))(hy:ev t y=some (.bool n))
 (h:aU P bl ops rest ⟨nt,(d,.bool (m==n))::t,L⟩ K):aU P bl ops (⟨some d,.binOp .eql T x y U,ty,pos,af,g⟩::rest) ⟨nt,t,L⟩ K:=
 eY hd hg rfl (fun B a w hrel=>by
 simp[execOp,hrel.ev hx,hrel.ev hy,eqGuard,qfO hT]) h
def qdt{T U:Nat}{m n:Bool}(hd:Nat.blt d nt=true)(hT:P.underlying T=some .bool)(hg:az ops ⟨some d,.binOp .neq T x y U,ty,pos,af,g⟩ t=some true)(hx:ev t x=some (.bool m))(hy:ev t y=some (.bool n))
 (h:aU P bl ops rest ⟨nt,(d,.bool (m !=n))::t,L⟩ K):aU P bl ops (⟨some d,.binOp .neq T x y U,ty,pos,af,g⟩::rest) ⟨nt,t,L⟩ K:=
 eY hd hg rfl (fun B a w hrel=>by
 simp[execOp,hrel.ev hx,hrel.ev hy,eqGuard,qfP hT]) h
def qfR{T U:Nat}{m n:ByteArray}(hd:Nat.blt d nt=true)(hg:az ops ⟨some d,.binOp .eql T x y U,ty,pos,af,g⟩ t=some true)(hx:ev t x=some (.string m))(hy:ev t y=some (.string n))
 (h:aU P bl ops rest ⟨nt,(d,.bool (m==n))::t,L⟩ K):aU P bl ops (⟨some d,.binOp .eql T x y U,ty,pos,af,g⟩::rest) ⟨nt,t,L⟩ K:=
 eY hd hg rfl (fun B a w hrel=>by
 simp[execOp,hrel.ev hx,hrel.ev hy,eqGuard,binOp,Op.stringOp,beq_toListBytes]) h
def qfS{T U:Nat}{m n:ByteArray}(hd:Nat.blt d nt=true)(hg:az ops ⟨some d,.binOp .neq T x y U,ty,pos,af,g⟩ t=some true)(hx:ev t x=some (.string m))(hy:ev t y=some (.string n))
 (h:aU P bl ops rest ⟨nt,(d,.bool (m !=n))::t,L⟩ K):aU P bl ops (⟨some d,.binOp .neq T x y U,ty,pos,af,g⟩::rest) ⟨nt,t,L⟩ K:=
 eY hd hg rfl (fun B a w hrel=>by
 simp[execOp,hrel.ev hx,hrel.ev hy,eqGuard,binOp,Op.stringOp,bne,beq_toListBytes]) h
def mM{T U:Nat}{m n:Array Value}{r:Bool}(hd:Nat.blt d nt=true)(hg:az ops ⟨some d,.binOp .eql T x y U,ty,pos,af,g⟩ t=some true)(hx:ev t x=some (.agg m))(hy:ev t y=some (.agg n))(hm:P.eqGuardType P.depth T=false)
 (hr:∀w,(Op.equalIn 10000 T (.agg m) (.agg n)).run P w= .ok r w)(h:aU P bl ops rest ⟨nt,(d,.bool r)::t,L⟩ K):aU P bl ops (⟨some d,.binOp .eql T x y U,ty,pos,af,g⟩::rest) ⟨nt,t,L⟩ K:=
 eY hd hg rfl (fun B a w hrel=>by
 simp[execOp,hrel.ev hx,hrel.ev hy,run_eqGuard_agg w .eql T x y m n hm,run_eql_struct w T m n,hr w]) h
def BB{T U:Nat}{m n:Array Value}{r:Bool}(hd:Nat.blt d nt=true)(hg:az ops ⟨some d,.binOp .neq T x y U,ty,pos,af,g⟩ t=some true)(hx:ev t x=some (.agg m))(hy:ev t y=some (.agg n))(hm:P.eqGuardType P.depth T=false)
 (hr:∀w,(Op.equalIn 10000 T (.agg m) (.agg n)).run P w= .ok r w)(h:aU P bl ops rest ⟨nt,(d,.bool (!r))::t,L⟩ K):aU P bl ops (⟨some d,.binOp .neq T x y U,ty,pos,af,g⟩::rest) ⟨nt,t,L⟩ K:=
 eY hd hg rfl (fun B a w hrel=>by
 simp[execOp,hrel.ev hx,hrel.ev hy,run_eqGuard_agg w .neq T x y m n hm,run_neq_struct w T m n,hr w]) h
def qbr{T:Nat}{parts:List (Nat×Operand)}(ps:List (Nat×Value)){v:Value}(hd:Nat.blt d nt=true)(hg:az ops ⟨some d,.build T parts.toArray,ty,pos,af,g⟩ t=some true)(hx:parts.map (fun p=>(p.1,ev t p.2))=ps.map (fun p=>(p.1,some p.2)))
 (hb:∀w,(Instr.build T ps.toArray).run P w= .ok v w)(h:aU P bl ops rest ⟨nt,(d,v)::t,L⟩ K):aU P bl ops (⟨some d,.build T parts.toArray,ty,pos,af,g⟩::rest) ⟨nt,t,L⟩ K:=
 eY hd hg rfl (fun B a w hrel=>by
 have:(parts.map fun p=>(p.1,a.eval p.2))=ps:=by
  clear h hb hg
  induction parts generalizing ps with
  |nil=>cases ps<;>simp_all
  |cons p parts ih=>
   cases ps with
   |nil=>simp at hx
   |cons q ps=>
    simp only[List.map_cons,List.cons.injEq,Prod.mk.injEq] at hx;rw[List.map_cons,hrel.ev hx.1.2,ih ps hx.2,hx.1.1]
 simp[execOp,this,hb w]) h (fun _=>by unfold oq;show(ku t parts).bind _=_;rw[E5 hx];exact Vt hb)
def qu0{T:Nat}{s:ByteArray}(hd:Nat.blt d nt=true)(hT:P.underlying T=some .string)(hg:az ops ⟨some d,.call {callee:= .builtin .len,args:= #[x],argTypes:= #[T]},ty,pos,af,g⟩ t=some true)(hx:ev t x=some (.string s))(h:aU P bl ops rest ⟨nt,(d,.int .i64 s.size)::t,L⟩ K):
 aU P bl ops (⟨some d,.call {callee:= .builtin .len,args:= #[x],argTypes:= #[T]},ty,pos,af,g⟩::rest) ⟨nt,t,L⟩ K:=
 eY hd hg rfl (fun B a w hrel=>by
 have:=run_len_string (P:=P) w T ty s hT;simp[execOp,resolve,invoke,builtin,hrel.ev hx,this,goInt]) h
def qfT{T:Nat}{k:IntKind}{n r:Int}(hd:Nat.blt d nt=true)(hg:az ops ⟨some d,.unOp .neg T x,ty,pos,af,g⟩ t=some true)(hx:ev t x=some (.int k n))(hr:k.wrap (0-n)=r)(h:aU P bl ops rest ⟨nt,(d,.int k r)::t,L⟩ K):
 aU P bl ops (⟨some d,.unOp .neg T x,ty,pos,af,g⟩::rest) ⟨nt,t,L⟩ K:=
 eY hd hg rfl (fun B a w hrel=>by simp[execOp,hrel.ev hx,Op.unary,Op.intArith];simpa using hr) h
def qbs{op:BinOp}{T U:Nat}{k:IntKind}{m n r:Int}(hd:Nat.blt d nt=true)(hg:az ops ⟨some d,.binOp op T x y U,ty,pos,af,g⟩ t=some true)(hx:ev t x=some (.int k m))(hy:ev t y=some (.int k n))
 (hr:(match op with| .add=>some (k.wrap (m+n))| .sub=>some (k.wrap (m-n))| .mul=>some (k.wrap (m*n))|_=>none)=some r)(h:aU P bl ops rest ⟨nt,(d,.int k r)::t,L⟩ K):
 aU P bl ops (⟨some d,.binOp op T x y U,ty,pos,af,g⟩::rest) ⟨nt,t,L⟩ K:=
 eY hd hg rfl (fun B a w hrel=>by
 have h1:=hrel.ev hx;have h2:=hrel.ev hy;cases op<;>simp at hr<;>subst hr<;>simp[execOp,h1,h2,eqGuard,binOp,Op.intArith]) h
end
end
end Go.Via
