/-
  Part 13 (chapter 32): lemmas, walks. Each theorem states its own conditions.
-/
import GoSem.Core.World
import Derived.MapKept
import Derived.WalkKit
import Derived.WalkSpells
import Derived.WalkLawsBesides
import Derived.Deep.LoopGhost
import Derived.Deep.AppendSrc
import Derived.Laws.BytesArg
import Derived.Laws.CopyRow
import Derived.Laws.AppendOwn
import Derived.Deep.Upon
import Derived.Laws.Small
import Derived.Test.YtaffcpfhedadhaaGreatDoorProg
import Derived.Shelf.Strings.Builder1
import Derived.Shelf.Strings.Builder2
import Derived.Shelf.Small.Utf8
import Derived.Shelf.Small.Bits
import Derived.Shelf.Small.Strs
import Derived.Shelf.Small.Wraps
import Derived.Shelf.Strings.BuilderF
import Derived.Shelf.Strconv.Itoa0
import Derived.Shelf.Strings.Search1
import Derived.Shelf.Strings.Prefix
import Derived.Shelf.Strings.Runes
import Derived.Shelf.Strings.AsciiSet
import Derived.Shelf.Bits.Mul64
import Derived.Shelf.Strings.Repeat
import Derived.Shelf.Unicode.DecodeSlow
import Derived.Laws.Externs
import Derived.Lib.ItoaNum
import Derived.Test.YtaffcpfhedadhaaGreatDoorA10
import Derived.Test.YtaffcpfhedadhaaGreatDoorA11
import Derived.Test.YtaffcpfhedadhaaGreatDoorA12
set_option linter.all false
set_option maxRecDepth 20000
set_option maxHeartbeats 20000000
namespace Go.Via
variable[Mo]
open Go Go.RowKit
def qm3(ms:List Nat)(l:List Edge):Nat:=l.foldl (fun m e=>if Region.binds .any e then m|||((1<<<e.on)|||ms.getD e.on 0) else m) 0
def WZ(ops:Array Oper)(ms:List Nat):Bool:=(List.range ops.size).all fun i=>match ops[i]? with
 |some o=>(o.after.toList.all fun e=> !Region.binds .any e||decide (e.on<i))&&ms.getD i 0==qm3 ms o.after.toList
 |none=>true
def Ph{ms:List Nat}{j:Nat}:∀{l:List Edge} {m:Nat},Nat.testBit (l.foldl (fun m e=>if Region.binds .any e then m|||((1<<<e.on)|||ms.getD e.on 0) else m) m) j=true->
 Nat.testBit m j=true∨∃e∈l,Region.binds .any e=true∧(e.on=j∨Nat.testBit (ms.getD e.on 0) j=true)
 |[],m,h=> .inl h
 |e::l,m,h=>by
  rw[List.foldl_cons] at h;rcases Ph h with h|⟨e',h1,h2⟩
  ·split at h
   ·rename_i hb
    rw[Nat.testBit_or,Nat.testBit_or,Bool.or_eq_true,Bool.or_eq_true] at h;rcases h with h|h|h
    ·exact .inl h
    ·refine .inr ⟨e,bz,hb,.inl ?_⟩;rw[Nat.testBit_shiftLeft] at h;simp only[Bool.and_eq_true,decide_eq_true_eq] at h;have h3:=h.2
     by_cases c:j-e.on=0
     ·omega
     ·exfalso
      obtain⟨k,hk⟩:∃k,j-e.on=k+1:=⟨j-e.on-1,ae⟩;rw[hk,Nat.testBit_succ] at h3;simp at h3
    ·exact .inr ⟨e,bz,hb,.inr h⟩
   ·exact .inl h
  ·exact .inr ⟨e',by simp[h1],h2⟩
def Eb{ops:Array Oper}{ms:List Nat}(hm:WZ ops ms=true):∀(f i j:Nat),i<f->i<ops.size->Nat.testBit (ms.getD i 0) j=true->waitsF ops f i j=true
 |0,i,j,h,_,_=>by omega
 |f+1,i,j,h,hi,hb=>by
  have h1:=List.all_eq_true.1 hm i (List.mem_range.2 hi);rw[Array.getElem?_eq_getElem hi] at h1;simp only[Bool.and_eq_true,beq_iff_eq] at h1;obtain⟨h2,h3⟩:=h1;rw[h3] at hb;unfold waitsF;rw[Array.getElem?_eq_getElem hi];rcases Ph hb with hb|⟨e,he,hbe,hj⟩
  ·simp at hb
  ·have hlt:e.on<i:=by
    have:=List.all_eq_true.1 h2 e he;rw[hbe] at this
    simpa using this
   refine Array.any_eq_true'.2 ⟨e,by simpa using he,?_⟩;rw[hbe,Bool.true_and,Bool.or_eq_true];rcases hj with hj|hj
   ·exact .inl (by simpa using hj)
   ·exact .inr (Eb hm f e.on j ae ae hj)
def qkY(bl:List Nat)(ops:Array Oper)(ms:List Nat)(p i:Nat):Bool:=
 Nat.testBit (ms.getD i 0) p||
 match ops[p]?,ops[i]? with
 |some op,some oi=>je op&&vW bl oi&& !kJ op&&op.apart ops oi
 |_,_=>false
def qd6(bl:List Nat)(ops:Array Oper)(ms:List Nat)(p i:Nat):Bool:=
 Nat.testBit (ms.getD i 0) p||
 match ops[p]?,ops[i]? with
 |some op,some oi=>Lj bl ops op oi
 |_,_=>false
def AL{f g:Nat->Nat->Bool}:∀{l:List Nat},(∀p∈l,∀i∈l,f p i=true->g p i=true)->iO f l=true->iO g l=true
 |[],_,_=>rfl
 |p::l,h,hf=>by
  simp only[iO,Bool.and_eq_true] at hf ⊢;exact⟨List.all_eq_true.2 fun i hi=>h p bz i (by simp[hi]) (List.all_eq_true.1 hf.1 i hi),AL (fun p hp i hi=>h p Ko i (by simp[hi])) hf.2⟩
def UG(bl:List Nat)(ops:Array Oper)(perm:List Nat)(ms:List Nat):Bool:=
 WZ ops ms&&(decide (perm.length=ops.size)&&perm.all (fun i=>decide (i<ops.size))&&(List.range ops.size).all (fun i=>perm.contains i)&&
 iO (qkY bl ops ms) perm&&iO (jr ops) perm&&perm.all (fun i=>jr ops i i)&&perm.all (fun i=>ry ops i)&&iO (Kv bl ops) perm&&iO (Kw bl ops) perm&&iO (fun i j=>i !=j) perm)
def oL{bl:List Nat}{ops:Array Oper}{perm:List Nat}(ms:List Nat)(h:UG bl ops perm ms=true):wC bl ops perm=true:=by
 unfold UG at h;rw[Bool.and_eq_true] at h;obtain⟨hm,h⟩:=h;unfold wC;simp only[Bool.and_eq_true] at h ⊢;obtain⟨⟨⟨⟨⟨⟨⟨⟨⟨h1,h2⟩,h3⟩,h4⟩,h5⟩,h6⟩,h7⟩,h8⟩,h9⟩,h10⟩:=h;refine⟨⟨⟨⟨⟨⟨⟨⟨⟨h1,h2⟩,h3⟩,AL (fun p hp i hi hpi=>?_) h4⟩,h5⟩,h6⟩,h7⟩,h8⟩,h9⟩,h10⟩;have hil:i<ops.size:=of_decide_eq_true (List.all_eq_true.1 h2 i hi);unfold qkY at hpi;unfold sZ;rw[Bool.or_eq_true] at hpi ⊢;exact hpi.imp (Eb hm _ i p hil hil) id
def Pi(bl:List Nat)(ops:Array Oper)(perm:List Nat)(ms:List Nat):Bool:=
 WZ ops ms&&(decide (perm.length=ops.size)&&perm.all (fun i=>decide (i<ops.size))&&(List.range ops.size).all (fun i=>perm.contains i)&&
 iO (qd6 bl ops ms) perm&&iO (jr ops) perm&&perm.all (fun i=>jr ops i i)&&perm.all (fun i=>ry ops i)&&iO (fun i j=>i !=j) perm&&JG bl&& !GV bl&& !JH bl)
def Zw{bl:List Nat}{ops:Array Oper}{perm:List Nat}(ms:List Nat)(h:Pi bl ops perm ms=true):AB bl ops perm=true:=by
 unfold Pi at h;rw[Bool.and_eq_true] at h;obtain⟨hm,h⟩:=h;unfold AB;simp only[Bool.and_eq_true] at h ⊢;obtain⟨⟨⟨⟨⟨⟨⟨⟨⟨⟨h1,h2⟩,h3⟩,h4⟩,h5⟩,h6⟩,h7⟩,h8⟩,h9⟩,h10⟩,h11⟩:=h;refine⟨⟨⟨⟨⟨⟨⟨⟨⟨⟨h1,h2⟩,h3⟩,AL (fun p hp i hi hpi=>?_) h4⟩,h5⟩,h6⟩,h7⟩,h8⟩,h9⟩,h10⟩,h11⟩;have hil:i<ops.size:=of_decide_eq_true (List.all_eq_true.1 h2 i hi);unfold qd6 at hpi;unfold Fz;rw[Bool.or_eq_true] at hpi ⊢;exact hpi.imp (Eb hm _ i p hil hil) id
end Go.Via
namespace Go.Via
variable[Mo]
open Go Go.RowKit
section
variable{P:Program}{bl:List Nat}{ops:Array Oper}{K:St->Prop}{rest:List Oper}{nt:Nat}{t:List (Nat×Value)}{L:List aH}{d:Nat}{ty:TypeId}{pos:String}{af:Array Edge}{g:Option (Nat×Bool)}{x y:Operand}
def qiz{T i:Nat}{v u:Value}(hd:Nat.blt d nt=true)(hg:aB ops ⟨some d,.field T x i,ty,pos,af,g⟩ t=some true)(hx:ev t x=some v)(hf:∀w,(Instr.field T v i).run P w= .ok u w)
 (h:aW P bl ops rest ⟨nt,(d,u)::t,L⟩ K):aW P bl ops (⟨some d,.field T x i,ty,pos,af,g⟩::rest) ⟨nt,t,L⟩ K:=
 fE hd hg rfl (fun B a w hrel=>by simp[execOp,hrel.ev hx,hf w]) h
end
end Go.Via
namespace Go.Via
variable[Mo]
open Go Go.RowKit
section
variable{P:Program}{bl:List Nat}{ops:Array Oper}{K:St->Prop}{rest:List Oper}{nt:Nat}{t:List (Nat×Value)}{L:List aH}{d:Nat}{ty:TypeId}{pos:String}{af:Array Edge}{g:Option (Nat×Bool)}{x y:Operand}
def qm4{T e:Nat}{b:Option Addr}{len cap:Nat}(hT:P.underlying T=some (.slice e))(hd:Nat.blt d nt=true)(hg:aB ops ⟨some d,.call {callee:= .builtin .len,args:= #[x],argTypes:= #[T]},ty,pos,af,g⟩ t=some true)(hx:ev t x=some (.slice b len cap))(h:aW P bl ops rest ⟨nt,(d,.int .i64 len)::t,L⟩ K):
 aW P bl ops (⟨some d,.call {callee:= .builtin .len,args:= #[x],argTypes:= #[T]},ty,pos,af,g⟩::rest) ⟨nt,t,L⟩ K:=
 fE hd hg rfl (fun B a w hrel=>by
 have he:P.elem T=e:=IE;have:=run_len_slice (P:=P) w T ty b len cap O8;have h2:=hrel.ev hx;simp[execOp,resolve,invoke,builtin,h2,this,goInt]) h
end
end Go.Via
namespace Go.Via
open Go
def Zx(n i:Nat)(h:i<nb n):(bQ n).data.toList[((nb n-1-i:Nat):Int).toNat]? =some (UInt8.ofNat (n/256^i%256)):=by
 have:=WX n (nb n-1-i) ae
 rwa [show nb n-1-(nb n-1-i)=i by omega] at this
theorem W9(n i j:Nat):yU n (i+1) j=if j=i/4 then yU n i (i/4)+2^(8*(i%4))*(n/256^i%256) else yU n i j:=by
 rw[qbv];split
 ·rename_i e;rw[<-e]
 ·rfl
def qiA{x s:Int}(m k:Nat)(hx:x=(m:Int))(hs:s=(k:Int))(hk:k<=32):x.fdiv (2^(min s.toNat IntKind.u32.bits))=((m/2^k:Nat):Int):=by
 subst hx;subst hs;have:min (k:Int).toNat IntKind.u32.bits=k:=by rw[WP];omega
 rw[this,Int.fdiv_eq_ediv_of_nonneg _ (Int.pow_nonneg ae)];simp
def qd7{l:List Nat}{N M i:Nat}(hl:∀d∈l,d<ah)(hN:val ah l=N)(hM:(ai ah N).length=M)(hi:i<M):l[i]? =some (N/ah^i%ah):=by
 subst hN;subst hM;have h1:=yu dE hl;have h2:=lm (B:=ah) dE hi;rw[<-h1,List.getElem?_take] at h2;rw[if_pos hi] at h2;exact h2
theorem Xa{l:List Nat}{N M:Nat}(hN:val ah l=N)(hM:(ai ah N).length=M)(h0:M=0):(⟨#[]⟩:ByteArray)=bQ N:=by
 subst h0;have:N=0:=(wB dE).1 (List.eq_nil_of_length_eq_zero hM);rw[this,iT]
theorem qby{N M:Nat}(hM:(ai ah N).length=M):N<256^(4*M):=by
 rw[<-Fp,<-hM];exact dM dE N
end Go.Via
