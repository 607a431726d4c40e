/-
  Part 12 (chapter 32): lemmas, walks. Each theorem states its own conditions.
-/
import GoSem.Core.World
import Derived.MapKept
import Derived.WalkKit
import Derived.WalkSpells
import Derived.WalkLawsBesides
import Derived.Deep.LoopGhost
import Derived.Deep.AppendSrc
import Derived.Laws.BytesArg
import Derived.Laws.CopyRow
import Derived.Laws.AppendOwn
import Derived.Deep.Upon
import Derived.Laws.Small
import Derived.Test.YtaffcpfhedadhaaGreatDoorProg
import Derived.Shelf.Strings.Builder1
import Derived.Shelf.Strings.Builder2
import Derived.Shelf.Small.Utf8
import Derived.Shelf.Small.Bits
import Derived.Shelf.Small.Strs
import Derived.Shelf.Small.Wraps
import Derived.Shelf.Strings.BuilderF
import Derived.Shelf.Strconv.Itoa0
import Derived.Shelf.Strings.Search1
import Derived.Shelf.Strings.Prefix
import Derived.Shelf.Strings.Runes
import Derived.Shelf.Strings.AsciiSet
import Derived.Shelf.Bits.Mul64
import Derived.Shelf.Strings.Repeat
import Derived.Shelf.Unicode.DecodeSlow
import Derived.Laws.Externs
import Derived.Lib.ItoaNum
import Derived.Test.YtaffcpfhedadhaaGreatDoorA09
import Derived.Test.YtaffcpfhedadhaaGreatDoorA10
import Derived.Test.YtaffcpfhedadhaaGreatDoorA11
set_option linter.all false
set_option maxRecDepth 20000
set_option maxHeartbeats 20000000
namespace Go.Via
variable[Mo]
open Go Go.RowKit
def KF{P:Program}{B:Bs}{fn:Func}{R:Ending->World->Prop}{s:St}(hfn:fn.results= #[])(hR:∀w,bg B s.L w->R (.returned (.tuple #[])) w)(hD:B.D=[]:=by first|rfl|assumption):At B s (bodyPost P fn R .normal):=fun a w hr=>
 ⟨hr.df.trans hD,.tuple #[],by simp[results,hfn],hR w hr.mem⟩
def Dc(P:Program)(f:Nat)(L0:List aJ)(args:List Value)(X:Type)(res:X->Value)(L1:X->List aJ):Prop:=
 iR P f=true∧∀(B:Bs) (w:World),B.D=[]->bg B L0 w->Calls P f args.toArray w fun e w'=>∃x,e= .returned (res x)∧bg B (L1 x) w'
section
variable{P:Program}{bl:List Nat}{ops:Array Oper}{K:St->Prop}{rest:List Oper}{nt:Nat}{t:List (Nat×Value)}{L:List aJ}{d:Nat}{ty:TypeId}{pos:String}{af:Array Edge}{g:Option (Nat×Bool)}{x y:Operand}
def We{f:Nat}{v:Value}(hd:Nat.blt d nt=true)(hg:az ops ⟨some d,.makeFunc (.func f) #[] #[x],ty,pos,af,g⟩ t=some true)(hx:ev t x=some v)(h:aY P bl ops rest ⟨nt,(d,.func (.func f) #[] #[v])::t,L⟩ K):
 aY P bl ops (⟨some d,.makeFunc (.func f) #[] #[x],ty,pos,af,g⟩::rest) ⟨nt,t,L⟩ K:=
 fD hd hg rfl (fun B a w hr=>by simp[execOp,Instr.makeFunc,hr.ev hx]) h
end
end Go.Via
namespace Go.Via
variable[Mo]
open Go Go.RowKit
section
variable{P:Program}{bl:List Nat}{ops:Array Oper}{K:St->Prop}{rest:List Oper}{nt:Nat}{t:List (Nat×Value)}{L:List aJ}{d:Nat}{ty:TypeId}{pos:String}{af:Array Edge}{g:Option (Nat×Bool)}{x y:Operand}
def qh6{T i:Nat}{v u:Value}(hd:Nat.blt d nt=true)(hg:az ops ⟨some d,.field T x i,ty,pos,af,g⟩ t=some true)(hx:ev t x=some v)(hf:∀w,(Instr.field T v i).run P w= .ok u w)
 (h:aY P bl ops rest ⟨nt,(d,u)::t,L⟩ K):aY P bl ops (⟨some d,.field T x i,ty,pos,af,g⟩::rest) ⟨nt,t,L⟩ K:=
 fD hd hg rfl (fun B a w hrel=>by simp[execOp,hrel.ev hx,hf w]) h
end
end Go.Via
namespace Go.Via
variable[Mo]
open Go Go.RowKit
section
variable{P:Program}{bl:List Nat}{ops:Array Oper}{K:St->Prop}{rest:List Oper}{nt:Nat}{t:List (Nat×Value)}{L:List aJ}{d:Nat}{ty:TypeId}{pos:String}{af:Array Edge}{g:Option (Nat×Bool)}{x y:Operand}
def qmy{T e:Nat}{b:Option Addr}{len cap:Nat}(hT:P.underlying T=some (.slice e))(hd:Nat.blt d nt=true)(hg:az ops ⟨some d,.call {callee:= .builtin .len,args:= #[x],argTypes:= #[T]},ty,pos,af,g⟩ t=some true)(hx:ev t x=some (.slice b len cap))(h:aY P bl ops rest ⟨nt,(d,.int .i64 len)::t,L⟩ K):
 aY P bl ops (⟨some d,.call {callee:= .builtin .len,args:= #[x],argTypes:= #[T]},ty,pos,af,g⟩::rest) ⟨nt,t,L⟩ K:=
 fD hd hg rfl (fun B a w hrel=>by
 have he:P.elem T=e:=EQ;have:=run_len_slice (P:=P) w T ty b len cap J4;have h2:=hrel.ev hx;simp[execOp,resolve,invoke,builtin,h2,this,goInt]) h
end
end Go.Via
namespace Go.Via
open Go
def YR(n i:Nat)(h:i<nb n):(bP n).data.toList[((nb n-1-i:Nat):Int).toNat]? =some (UInt8.ofNat (n/256^i%256)):=by
 have:=V8 n (nb n-1-i) ae
 rwa [show nb n-1-(nb n-1-i)=i by omega] at this
theorem Wh(n i j:Nat):yK n (i+1) j=if j=i/4 then yK n i (i/4)+2^(8*(i%4))*(n/256^i%256) else yK n i j:=by
 rw[qaT];split
 ·rename_i e;rw[<-e]
 ·rfl
def qh7{x s:Int}(m k:Nat)(hx:x=(m:Int))(hs:s=(k:Int))(hk:k<=32):x.fdiv (2^(min s.toNat IntKind.u32.bits))=((m/2^k:Nat):Int):=by
 subst hx;subst hs;have:min (k:Int).toNat IntKind.u32.bits=k:=by rw[VW];omega
 rw[this,Int.fdiv_eq_ediv_of_nonneg _ (Int.pow_nonneg ae)];simp
def qdx{l:List Nat}{N M i:Nat}(hl:∀d∈l,d<ag)(hN:val ag l=N)(hM:(ah ag N).length=M)(hi:i<M):l[i]? =some (N/ag^i%ag):=by
 subst hN;subst hM;have h1:=xU dD hl;have h2:=lw (B:=ag) dD hi;rw[<-h1,List.getElem?_take] at h2;rw[if_pos hi] at h2;exact h2
theorem Wi{l:List Nat}{N M:Nat}(hN:val ag l=N)(hM:(ah ag N).length=M)(h0:M=0):(⟨#[]⟩:ByteArray)=bP N:=by
 subst h0;have:N=0:=(vX dD).1 (List.eq_nil_of_length_eq_zero hM);rw[this,iW]
theorem qaV{N M:Nat}(hM:(ah ag N).length=M):N<256^(4*M):=by
 rw[<-EY,<-hM];exact dM dD N
end Go.Via
