/-
  Part 13 (chapter 32): lemmas, walks. Each theorem states its own conditions.
-/
import GoSem.Core.World
import Derived.MapKept
import Derived.WalkKit
import Derived.WalkSpells
import Derived.WalkLawsBesides
import Derived.Deep.LoopGhost
import Derived.Deep.AppendSrc
import Derived.Laws.BytesArg
import Derived.Laws.CopyRow
import Derived.Laws.AppendOwn
import Derived.Deep.Upon
import Derived.Laws.Small
import Derived.Test.YtaffcpfhedadhaaGreatDoorProg
import Derived.Shelf.Strings.Builder1
import Derived.Shelf.Strings.Builder2
import Derived.Shelf.Small.Utf8
import Derived.Shelf.Small.Bits
import Derived.Shelf.Small.Strs
import Derived.Shelf.Small.Wraps
import Derived.Shelf.Strings.BuilderF
import Derived.Shelf.Strconv.Itoa0
import Derived.Shelf.Strings.Search1
import Derived.Shelf.Strings.Prefix
import Derived.Shelf.Strings.Runes
import Derived.Shelf.Strings.AsciiSet
import Derived.Shelf.Bits.Mul64
import Derived.Shelf.Strings.Repeat
import Derived.Shelf.Unicode.DecodeSlow
import Derived.Laws.Externs
import Derived.Lib.ItoaNum
import Derived.Test.YtaffcpfhedadhaaGreatDoorA10
import Derived.Test.YtaffcpfhedadhaaGreatDoorA11
import Derived.Test.YtaffcpfhedadhaaGreatDoorA12
set_option linter.all false
set_option maxRecDepth 20000
set_option maxHeartbeats 20000000
section
variable{P Q:Prop}{T:Type}{R:T->Prop}
def qgt(h:P:=by rw[Bool.or_eq_true] at hpi ⊢;exact hpi.imp (NE hm _ i p hil hil) id):=h
end
namespace Go.Via
variable[Mo]
open Go Go.RowKit
def qsm(ms:List Nat)(l:List Edge):Nat:=l.foldl (fun m e=>if Region.binds .any e then m|||((1<<<e.on)|||ms.getD e.on 0) else m) 0
def YM(ops:Array Oper)(ms:List Nat):Bool:=(List.range ops.size).all fun i=>match ops[i]? with
 |some o=>(o.after.toList.all fun e=> !Region.binds .any e||decide (e.on<i))&&ms.getD i 0==qsm ms o.after.toList
 |none=>true
def QL{ms:List Nat}{j:Nat}:∀{l:List Edge} {m:Nat},Nat.testBit (l.foldl (fun m e=>if Region.binds .any e then m|||((1<<<e.on)|||ms.getD e.on 0) else m) m) j=true->
 Nat.testBit m j=true∨∃e∈l,Region.binds .any e=true∧(e.on=j∨Nat.testBit (ms.getD e.on 0) j=true)
 |[],m,h=> .inl h
 |e::l,m,h=>by
  rw[List.foldl_cons] at h;rcases QL h with h|⟨e',h1,h2⟩
  ·split at h
   ·rename_i hb
    rw[Nat.testBit_or,Nat.testBit_or,Bool.or_eq_true,Bool.or_eq_true] at h;rcases h with h|h|h
    ·exact .inl h
    ·refine .inr ⟨e,bz,hb,.inl ?_⟩;rw[Nat.testBit_shiftLeft] at h;simp only[Bool.and_eq_true,decide_eq_true_eq] at h;have h3:=h.2
     by_cases c:j-e.on=0
     ·omega
     ·exfalso
      obtain⟨k,hk⟩:∃k,j-e.on=k+1:=⟨j-e.on-1,ae⟩;rw[hk,Nat.testBit_succ] at h3;simp at h3
    ·exact .inr ⟨e,bz,hb,.inr h⟩
   ·exact .inl h
  ·exact .inr ⟨e',by simp[h1],h2⟩
def NE{ops:Array Oper}{ms:List Nat}(hm:YM ops ms=true):∀(f i j:Nat),i<f->i<ops.size->Nat.testBit (ms.getD i 0) j=true->waitsF ops f i j=true
 |0,i,j,h,_,_=>by omega
 |f+1,i,j,h,hi,hb=>by
  have h1:=List.all_eq_true.1 hm i (List.mem_range.2 hi);rw[Array.getElem?_eq_getElem hi] at h1;simp only[Bool.and_eq_true,beq_iff_eq] at h1;obtain⟨h2,h3⟩:=h1;rw[h3] at hb;unfold waitsF;rw[Array.getElem?_eq_getElem hi];rcases QL hb with hb|⟨e,he,hbe,hj⟩
  ·simp at hb
  ·have hlt:e.on<i:=by
    have:=List.all_eq_true.1 h2 e he;rw[hbe] at this
    simpa using this
   refine Array.any_eq_true'.2 ⟨e,by simpa using he,?_⟩;rw[hbe,Bool.true_and,Bool.or_eq_true];rcases hj with hj|hj
   ·exact .inl (by simpa using hj)
   ·exact .inr (NE hm f e.on j ae ae hj)
def qp7(bl:List Nat)(ops:Array Oper)(ms:List Nat)(p i:Nat):Bool:=
 Nat.testBit (ms.getD i 0) p||
 match ops[p]?,ops[i]? with
 |some op,some oi=>je op&&xh bl oi&& !kz op&&op.apart ops oi
 |_,_=>false
def qgu(bl:List Nat)(ops:Array Oper)(ms:List Nat)(p i:Nat):Bool:=
 Nat.testBit (ms.getD i 0) p||
 match ops[p]?,ops[i]? with
 |some op,some oi=>Nv bl ops op oi
 |_,_=>false
def BO{f g:Nat->Nat->Bool}:∀{l:List Nat},(∀p∈l,∀i∈l,f p i=true->g p i=true)->iO f l=true->iO g l=true
 |[],_,_=>rfl
 |p::l,h,hf=>by
  simp only[iO,Bool.and_eq_true] at hf ⊢;exact⟨List.all_eq_true.2 fun i hi=>h p bz i (by simp[hi]) (List.all_eq_true.1 hf.1 i hi),BO (fun p hp i hi=>h p MK i (by simp[hi])) hf.2⟩
def VS(bl:List Nat)(ops:Array Oper)(perm:List Nat)(ms:List Nat):Bool:=
 YM ops ms&&(decide (perm.length=ops.size)&&perm.all (fun i=>decide (i<ops.size))&&(List.range ops.size).all (fun i=>perm.contains i)&&
 iO (qp7 bl ops ms) perm&&iO (jo ops) perm&&perm.all (fun i=>jo ops i i)&&perm.all (fun i=>su ops i)&&iO (MO bl ops) perm&&iO (MP bl ops) perm&&iO (fun i j=>i !=j) perm)
def qg{bl:List Nat}{ops:Array Oper}{perm:List Nat}(ms:List Nat)(h:VS bl ops perm ms=true):xB bl ops perm=true:=by
 unfold VS at h;rw[Bool.and_eq_true] at h;obtain⟨hm,h⟩:=h;unfold xB;simp only[Bool.and_eq_true] at h ⊢;obtain⟨⟨⟨⟨⟨⟨⟨⟨⟨h1,h2⟩,h3⟩,h4⟩,h5⟩,h6⟩,h7⟩,h8⟩,h9⟩,h10⟩:=h;refine⟨⟨⟨⟨⟨⟨⟨⟨⟨h1,h2⟩,h3⟩,BO (fun p hp i hi hpi=>?_) h4⟩,h5⟩,h6⟩,h7⟩,h8⟩,h9⟩,h10⟩;have hil:i<ops.size:=of_decide_eq_true (List.all_eq_true.1 h2 i hi);unfold qp7 at hpi;unfold uh;exact qgt
def QM(bl:List Nat)(ops:Array Oper)(perm:List Nat)(ms:List Nat):Bool:=
 YM ops ms&&(decide (perm.length=ops.size)&&perm.all (fun i=>decide (i<ops.size))&&(List.range ops.size).all (fun i=>perm.contains i)&&
 iO (qgu bl ops ms) perm&&iO (jo ops) perm&&perm.all (fun i=>jo ops i i)&&perm.all (fun i=>su ops i)&&iO (fun i j=>i !=j) perm&&Lu bl&& !IE bl&& !LC bl)
def qbI{bl:List Nat}{ops:Array Oper}{perm:List Nat}(ms:List Nat)(h:QM bl ops perm ms=true):BI bl ops perm=true:=by
 unfold QM at h;rw[Bool.and_eq_true] at h;obtain⟨hm,h⟩:=h;unfold BI;simp only[Bool.and_eq_true] at h ⊢;obtain⟨⟨⟨⟨⟨⟨⟨⟨⟨⟨h1,h2⟩,h3⟩,h4⟩,h5⟩,h6⟩,h7⟩,h8⟩,h9⟩,h10⟩,h11⟩:=h;refine⟨⟨⟨⟨⟨⟨⟨⟨⟨⟨h1,h2⟩,h3⟩,BO (fun p hp i hi hpi=>?_) h4⟩,h5⟩,h6⟩,h7⟩,h8⟩,h9⟩,h10⟩,h11⟩;have hil:i<ops.size:=of_decide_eq_true (List.all_eq_true.1 h2 i hi);unfold qgu at hpi;unfold GM;exact qgt
end Go.Via
namespace Go.Via
variable[Mo]
open Go Go.RowKit
section
variable{P:Program}{bl:List Nat}{ops:Array Oper}{K:St->Prop}{rest:List Oper}{nt:Nat}{t:List (Nat×Value)}{L:List aF}{d:Nat}{ty:TypeId}{pos:String}{af:Array Edge}{g:Option (Nat×Bool)}{x y:Operand}
def qnA{T i:Nat}{v u:Value}(hd:Nat.blt d nt=true)(hg:az ops ⟨some d,.field T x i,ty,pos,af,g⟩ t=some true)(hx:ev t x=some v)(hf:∀w,(Instr.field T v i).run P w= .ok u w)
 (h:aU P bl ops rest ⟨nt,(d,u)::t,L⟩ K):aU P bl ops (⟨some d,.field T x i,ty,pos,af,g⟩::rest) ⟨nt,t,L⟩ K:=
 eY hd hg rfl (fun B a w hrel=>by simp[execOp,hrel.ev hx,hf w]) h
end
end Go.Via
namespace Go.Via
variable[Mo]
open Go Go.RowKit
section
variable{P:Program}{bl:List Nat}{ops:Array Oper}{K:St->Prop}{rest:List Oper}{nt:Nat}{t:List (Nat×Value)}{L:List aF}{d:Nat}{ty:TypeId}{pos:String}{af:Array Edge}{g:Option (Nat×Bool)}{x y:Operand}
def qsn{T e:Nat}{b:Option Addr}{len cap:Nat}(hT:P.underlying T=some (.slice e))(hd:Nat.blt d nt=true)(hg:az ops ⟨some d,.call {callee:= .builtin .len,args:= #[x],argTypes:= #[T]},ty,pos,af,g⟩ t=some true)(hx:ev t x=some (.slice b len cap))(h:aU P bl ops rest ⟨nt,(d,.int .i64 len)::t,L⟩ K):
 aU P bl ops (⟨some d,.call {callee:= .builtin .len,args:= #[x],argTypes:= #[T]},ty,pos,af,g⟩::rest) ⟨nt,t,L⟩ K:=
 eY hd hg rfl (fun B a w hrel=>by
 have he:P.elem T=e:=Eu;have:=run_len_slice (P:=P) w T ty b len cap JU;have h2:=hrel.ev hx;simp[execOp,resolve,invoke,builtin,h2,this,goInt]) h
end
end Go.Via
namespace Go.Via
open Go
def qbJ(n i:Nat)(h:i<nb n):(bH n).data.toList[((nb n-1-i:Nat):Int).toNat]? =some (UInt8.ofNat (n/256^i%256)):=by
 have:=YJ n (nb n-1-i) ae
 rwa [show nb n-1-(nb n-1-i)=i by omega] at this
theorem YN(n i j:Nat):zF n (i+1) j=if j=i/4 then zF n i (i/4)+2^(8*(i%4))*(n/256^i%256) else zF n i j:=by
 rw[qdK];split
 ·rename_i e;rw[<-e]
 ·rfl
def qnB{x s:Int}(m k:Nat)(hx:x=(m:Int))(hs:s=(k:Int))(hk:k<=32):x.fdiv (2^(min s.toNat IntKind.u32.bits))=((m/2^k:Nat):Int):=by
 subst hx;subst hs;have:min (k:Int).toNat IntKind.u32.bits=k:=by rw[Yx];omega
 rw[this,Int.fdiv_eq_ediv_of_nonneg _ (Int.pow_nonneg ae)];simp
def qgv{l:List Nat}{N M i:Nat}(hl:∀d∈l,d<ag)(hN:val ag l=N)(hM:(ah ag N).length=M)(hi:i<M):l[i]? =some (N/ag^i%ag):=by
 subst hN;subst hM;have h1:=yS dJ hl;have h2:=tH (B:=ag) dJ hi;rw[<-h1,List.getElem?_take] at h2;rw[if_pos hi] at h2;exact h2
theorem YO{l:List Nat}{N M:Nat}(hN:val ag l=N)(hM:(ah ag N).length=M)(h0:M=0):(⟨#[]⟩:ByteArray)=bH N:=by
 subst h0;have:N=0:=(xA dJ).1 (List.eq_nil_of_length_eq_zero hM);rw[this,iy]
theorem qdM{N M:Nat}(hM:(ah ag N).length=M):N<256^(4*M):=by
 rw[<-GN,<-hM];exact dL dJ N
end Go.Via
