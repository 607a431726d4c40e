/-
  Part 14 (chapter 32): lemmas, walks. Each theorem states its own conditions.
-/
import GoSem.Core.World
import Derived.MapKept
import Derived.WalkKit
import Derived.WalkSpells
import Derived.WalkLawsBesides
import Derived.Deep.LoopGhost
import Derived.Deep.AppendSrc
import Derived.Laws.BytesArg
import Derived.Laws.CopyRow
import Derived.Laws.AppendOwn
import Derived.Test.YtaffcpfhedadhaaGreatDoorProg
import Derived.Shelf.Strings.Builder1
import Derived.Shelf.Strings.Builder2
import Derived.Shelf.Small.Utf8
import Derived.Shelf.Small.Bits
import Derived.Shelf.Small.Strs
import Derived.Shelf.Small.Wraps
import Derived.Shelf.Strings.BuilderF
import Derived.Shelf.Strconv.Itoa0
import Derived.Shelf.Strings.Search1
import Derived.Shelf.Strings.Prefix
import Derived.Shelf.Strings.Runes
import Derived.Shelf.Strings.AsciiSet
import Derived.Shelf.Bits.Mul64
import Derived.Shelf.Strings.Repeat
import Derived.Shelf.Unicode.DecodeSlow
import Derived.Laws.Externs
import Derived.Lib.ItoaNum
import Derived.Test.YtaffcpfhedadhaaGreatDoorA10
import Derived.Test.YtaffcpfhedadhaaGreatDoorA11
set_option linter.all false
set_option maxRecDepth 20000
set_option maxHeartbeats 20000000
section
variable{P Q:Prop}{T:Type}{R:T->Prop}
def UH(h:P:=by rw[h];decide):=h
end
namespace Go.Via
variable[Mo]
open Go Go.RowKit
def AO{P:Program}{f:Nat}{args:Array Value}{v:Value}(hp:iP P f=true)(h:∀w,Calls P f args w fun e w'=>e= .returned v∧w'=w):aJ P f args v:=
 ⟨hp,fun w=>(h w).mono (by rintro e w' ⟨h1,rfl⟩;exact⟨h1,eG.refl _ _⟩)⟩
def xx{x:Nat}(h:x<2^64)(h0:x≠0):1<=Lib.bitLen x∧2^(Lib.bitLen x-1)<=x∧x<2^Lib.bitLen x:=Lib.bitLenAux_bounds 64 x h h0
theorem qbz{x:Nat}(h:x<18446744073709551616)(h0:x≠0):(Lib.bitLen x+7)/8=nb x:=by
 obtain⟨h1,h2,h3⟩:=xx ae h0
 generalize hb:Lib.bitLen x=b at*
 have e1:nb x<=(b+7)/8:=nP (by
 have:(256:Nat)^((b+7)/8)=2^(8*((b+7)/8)):=Zp;rw[this];exact Nat.lt_of_lt_of_le h3 (Nat.pow_le_pow_right ae ae))
 have e2:(b+7)/8<=nb x:=by
  have:(b-1)/8<nb x:=QC ae (by
 have:(256:Nat)^((b-1)/8)=2^(8*((b-1)/8)):=(by rw[Nat.pow_mul]);rw[this];exact Nat.le_trans (Nat.pow_le_pow_right (by omega) (by omega)) h2)
  omega
 omega
def Hq:∀(a b:List Nat),a.length=b.length->(∀d∈a,d<256)->(∀d∈b,d<256)->
 Lib.compareBytes (a.reverse.map UInt8.ofNat) (b.reverse.map UInt8.ofNat)=if val 256 a<val 256 b then-1 else if val 256 b<val 256 a then 1 else 0:=by
 have key:∀(a b:List UInt8),a.length=b.length->Lib.compareBytes a b=if mD a<mD b then-1 else if mD b<mD a then 1 else 0:=by
  intro a
  induction a with
  |nil=>intro b h;cases b with
   |nil=>simp[Lib.compareBytes]
   |cons y b=>simp at h
  |cons x a ih=>
   intro b h;cases b with
   |nil=>simp at h
   |cons y b=>
    have hl:a.length=b.length:=pI;have ea:mD (x::a)=mD a+256^a.length*x.toNat:=by
     unfold mD;rw[List.reverse_cons,List.map_append,qP];simp[val]
    have eb:mD (y::b)=mD b+256^a.length*y.toNat:=by
     unfold mD;rw[List.reverse_cons,List.map_append,qP];simp[val,hl]
    have la:mD a<256^a.length:=by
     have:=G5 (B:=256) ae (J9 a);simpa[mD] using this
    have lb:mD b<256^a.length:=by
     have:=G5 (B:=256) ae (J9 b);rw[hl];simpa[mD] using this
    have hx:∀{p q r s M:Nat},p<M->q<M->r<s->p+M*r<q+M*s:=by
     intro p q r s M h1 h2 h3;have:M*(r+1)<=M*s:=Nat.mul_le_mul_left M h3;rw[Nat.mul_add] at this;omega
    rw[Lib.compareBytes,ea,eb]
    by_cases h1:x<y
    ·have:=hx la lb (UInt8.lt_iff_toNat_lt.1 h1);rw[if_pos h1,if_pos this]
    ·by_cases h2:y<x
     ·have:=hx lb la (UInt8.lt_iff_toNat_lt.1 h2);rw[if_neg h1,if_pos h2,if_neg ae,if_pos this]
     ·have e:x=y:=by
       apply UInt8.toNat_inj.1
       have:=mt UInt8.lt_iff_toNat_lt.2 h1;have:=mt UInt8.lt_iff_toNat_lt.2 h2;omega
      subst e;rw[if_neg h1,if_neg h2,ih b hl];simp only[Nat.add_lt_add_iff_right]
 intro a b hl ha hb;rw[key _ _ (by simp[hl])];unfold mD;simp only[List.map_reverse,List.reverse_reverse];rw[oI ha,oI hb]
theorem UI{m n:Nat}(h:nb m=nb n):Lib.compareBytes (bQ m).data.toList (bQ n).data.toList=if m<n then-1 else if n<m then 1 else 0:=by
 rw[EO,EO];have:=Hq (ai 256 m) (ai 256 n) h (BR ae) (BR ae);rw[rX ae,rX ae] at this;exact this
end Go.Via
namespace Go.Proofs.YtaffcpfhedadhaaGreatDoor
variable[Go.Via.Mo]
open Go Go.RowKit Go.Via
def FB(x:Nat)(h:x<18446744073709551616:=by omega):aJ Tryz.prog 226 #[.int .u64 x] (.int .i64 (Lib.bitLen x:Nat)):=
 AO ak fun w=>by have:=Tryz.bits_Len64 x w ae ae;simpa using this
def uI(x:Nat)(h:x<4294967296:=by omega):aJ Tryz.prog 228 #[.int .u32 x] (.int .i64 (32-(Lib.bitLen x:Int))):=
 AO ak fun w=>by have:=Tryz.bits_LeadingZeros32 x w ae ae;simpa using this
def FC(x y:Nat)(hx:x<18446744073709551616:=by omega)(hy:y<18446744073709551616:=by omega):aJ Tryz.prog 202 #[.int .u64 x,.int .u64 y] (.tuple #[.int .u64 ((x*y/18446744073709551616:Nat):Int),.int .u64 ((x*y%18446744073709551616:Nat):Int)]):=
 AO ak fun w=>Tryz.bits_Mul64 x y hx hy w
def FD(a b:ByteArray):aJ Tryz.prog 225 #[.string a,.string b] (.int .i64 (Lib.compareBytes a.data.toList b.data.toList)):=
 AO ak fun w=>Tryz.strings_Compare a b w
def qiB{bl:List Nat}{ops:Array Oper}{K:St->Prop}{rest:List Oper}{nt:Nat}{t:List (Nat×Value)}{L:List aH}{d:Nat}{ty:TypeId}{pos:String}{af:Array Edge}{g:Option (Nat×Bool)}{x y z:Operand}{ts:Array TypeId}(m n:Nat)(hd:Nat.blt d nt=true)(hg:aB ops ⟨some d,.call {callee:= .value (.func 238),args:= #[x,y,z],argTypes:=ts},ty,pos,af,g⟩ t=some true)
 (hx:ev t x=some (.int .u64 (m:Int)))(hy:ev t y=some (.int .u64 (n:Int)))(hz:ev t z=some (.int .u64 0))(h:aW Tryz.prog bl ops rest ⟨nt,(d,.tuple #[.int .u64 (((m+n)%18446744073709551616:Nat):Int),.int .u64 (((m+n)/18446744073709551616:Nat):Int)])::t,L⟩ K):
 aW Tryz.prog bl ops (⟨some d,.call {callee:= .value (.func 238),args:= #[x,y,z],argTypes:=ts},ty,pos,af,g⟩::rest) ⟨nt,t,L⟩ K:=
 qmu hd hg rfl (fun B a w hrel=>by
 have h1:(callFunc 238 #[.int .u64 (m:Int),.int .u64 (n:Int),.int .u64 0]).run Tryz.prog w= .ok (.value (.tuple #[.int .u64 (((m+n)%18446744073709551616:Nat):Int),.int .u64 (((m+n)/18446744073709551616:Nat):Int)])) w:=by
  rw[run_callFunc_extern Tryz.func238 ak ak ak (e:=add64Entry) ak,run_add64 m n 0 ae ae ae ae];simp only[Result.andThen]
  congr 5<;>omega
 have hv:(#[x,y,z]:Array Operand).map a.eval= #[.int .u64 (m:Int),.int .u64 (n:Int),.int .u64 0]:=by
  show(([x,y,z]:List Operand).toArray).map a.eval=_;rw[List.map_toArray,List.map_cons,List.map_cons,List.map_cons,List.map_nil,hrel.ev hx,hrel.ev hy,hrel.ev hz]
 have hf:a.eval (.func 238)= .func (.func 238) #[] #[]:=rfl;simp only[execOp,resolve,hf,hv,Deferred.ofValue,invoke,Sem.run_bind,Sem.run_pure,Result.andThen_ok]
 simpa using h1) h
end Go.Proofs.YtaffcpfhedadhaaGreatDoor
namespace Go.Via
open Go
def qm5(a b:Int)(i:Nat)(h:i<2):([.int .i64 a,.int .i64 b]:List Value)[i]? =some (.int .i64 (if i=0 then a else b)):=by
 have:i=0∨i=1:=ae;rcases this with rfl|rfl<;>rfl
def qrC(a b:Int)(i:Nat)(ha:0<i->a=0)(he:(if i=0 then a else b)=0):0<i+1->a=0:=fun _=>by
 by_cases h:i=0
 ·rwa [if_pos h] at he
 ·exact ha ae
def qrD(a b:Int)(i:Nat)(he:(if i=0 then a else b)=0):1<i+1->b=0:=fun h=>by
 rwa [if_neg ae] at he
theorem qiC(a b:Int)(i:Nat)(ha:0<i->a=0)(hne:(if i=0 then a else b)≠0):(if i=0 then a else b)=(if a=0 then b else a):=by
 by_cases h:i=0
 ·rw[if_pos h] at hne ⊢;rw[if_neg hne]
 ·rw[if_neg h] at hne ⊢;rw[if_pos (ha ae)]
theorem Zy{m n:Nat}(h:nb m<nb n):m<n:=DX ae h
theorem UJ(m n:Nat):(if(if(nb m:Int)<(nb n:Int) then(-1:Int) else if(nb n:Int)<(nb m:Int) then 1 else 0)=0 then Lib.compareBytes (bQ m).data.toList (bQ n).data.toList
 else(if(nb m:Int)<(nb n:Int) then(-1:Int) else if(nb n:Int)<(nb m:Int) then 1 else 0))=mO m n:=by
 unfold mO;rcases Nat.lt_trichotomy (nb m) (nb n) with h|h|h
 ·have:=Zy h;rw[if_pos (by omega:(nb m:Int)<nb n),if_neg ax,if_pos this]
 ·rw[if_neg (by omega:¬(nb m:Int)<nb n),if_neg (by omega:¬(nb n:Int)<nb m),if_pos rfl,UI h]
 ·have:=Zy h;rw[if_neg (by omega:¬(nb m:Int)<nb n),if_pos (by omega:(nb n:Int)<nb m),if_neg ax,if_neg ae,if_pos this]
def qd8(m n:Nat):IntKind.i64.wrap (0-mO m n)= -mO m n:=by
 unfold mO;split<;>(try split)<;>rfl
def Zz{b:Int}(h:¬b<0):0<=b.sign:=by
 rcases Int.lt_trichotomy b 0 with h1|h1|h1
 ·exact absurd h1 h
 ·subst h1;decide
 ·rw[Int.sign_eq_one_of_pos h1];decide
def Pj{a:Int}(h:a<0):a.sign= -1:=Int.sign_eq_neg_one_of_neg h
theorem qm6{a b:Int}(h:(decide (a<0) !=decide (b<0))=true):(if a.sign<b.sign then(-1:Int) else if b.sign<a.sign then 1 else 0)=yP a b:=by
 unfold yP
 by_cases ha:a<0<;>by_cases hb:b<0
 ·simp[ha,hb] at h
 ·have h1:=Pj ha;have h2:0<=b.sign:=Zz ae;rw[if_pos ae,if_pos ae]
 ·have h1:=Pj hb;have h2:0<=a.sign:=Zz ae;rw[if_neg ae,if_pos ae,if_neg ae,if_pos ae]
 ·simp[ha,hb] at h
theorem qiD{a b:Int}(h:(decide (a<0) !=decide (b<0))=false)(h2:decide (a<0)=true): -mO a.natAbs b.natAbs=yP a b:=by
 have ha:=of_decide_eq_true h2;have hb:b<0:=(by simpa[ha] using h);unfold mO yP
 by_cases c1:a<b
 ·rw[if_pos c1,if_neg ae,if_pos ae]
 ·rw[if_neg c1]
  by_cases c2:b<a
  ·rw[if_pos c2,if_pos ae];rfl
  ·rw[if_neg c2,if_neg ae,if_neg ae];rfl
theorem qiE{a b:Int}(h:(decide (a<0) !=decide (b<0))=false)(h2:decide (a<0)=false):mO a.natAbs b.natAbs=yP a b:=by
 have ha:=of_decide_eq_false h2;have hb:¬b<0:=(by simpa[ha] using h);unfold mO yP
 by_cases c1:a<b
 ·rw[if_pos c1,if_pos ae]
 ·rw[if_neg c1,if_neg (show¬a.natAbs<b.natAbs by omega)]
  by_cases c2:b<a
  ·rw[if_pos c2,if_pos ae]
  ·rw[if_neg c2,if_neg ae]
def qbA(z:Int)(h:decide (z<0)=true):(if decide (z<0)=true then-(z.natAbs:Int) else(z.natAbs:Int))=z:=by
 rw[if_pos h];have:=of_decide_eq_true h;omega
def qbB(z:Int)(h:decide (z<0)=false):(if decide (z<0)=true then-(z.natAbs:Int) else(z.natAbs:Int))=z:=by
 rw[if_neg UH];have:=of_decide_eq_false h;omega
def qd9{l:List UInt8}(h:0<l.length):∃x r,l=x::r:=by cases l with
 |nil=>simp at h
 |cons x r=>exact⟨x,r,rfl⟩
def qbC(x:UInt8)(r:List UInt8):(lL (x::r)).extract (1:Int).toNat (lL (x::r)).size=lL r:=by
 rw[yt];show ByteArray.extract _ 1 _=_
 apply ByteArray.ext
 rw[ByteArray.data_extract];simp[lL]
theorem Xb{l:List UInt8}(h:(lL l==⟨#[]⟩)=true):l=[]:=by
 rw[yO] at h
 simpa[lL] using h
end Go.Via
