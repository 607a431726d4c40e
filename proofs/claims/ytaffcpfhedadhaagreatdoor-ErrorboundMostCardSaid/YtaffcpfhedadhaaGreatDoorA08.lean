/-
  Part 8 (chapter 32): lemmas, walks. Each theorem states its own conditions.
-/
import GoSem.Core.World
import Derived.MapKept
import Derived.WalkKit
import Derived.WalkSpells
import Derived.WalkLawsBesides
import Derived.Deep.LoopGhost
import Derived.Deep.AppendSrc
import Derived.Laws.BytesArg
import Derived.Laws.CopyRow
import Derived.Laws.AppendOwn
import Derived.Deep.Upon
import Derived.Test.YtaffcpfhedadhaaGreatDoorProg
import Derived.Shelf.Strings.Builder1
import Derived.Shelf.Strings.Builder2
import Derived.Shelf.Small.Utf8
import Derived.Shelf.Small.Bits
import Derived.Shelf.Small.Strs
import Derived.Shelf.Small.Wraps
import Derived.Shelf.Strings.BuilderF
import Derived.Shelf.Strconv.Itoa0
import Derived.Shelf.Strings.Search1
import Derived.Shelf.Strings.Prefix
import Derived.Shelf.Strings.Runes
import Derived.Shelf.Strings.AsciiSet
import Derived.Shelf.Bits.Mul64
import Derived.Shelf.Strings.Repeat
import Derived.Shelf.Unicode.DecodeSlow
import Derived.Laws.Externs
import Derived.Lib.ItoaNum
import Derived.Test.YtaffcpfhedadhaaGreatDoorA06
import Derived.Test.YtaffcpfhedadhaaGreatDoorA07
set_option linter.all false
set_option maxRecDepth 20000
set_option maxHeartbeats 20000000
section
variable{P Q:Prop}{T:Type}{R:T->Prop}
def qoK(h:P:=by rw[IntKind.wrap_i64];omega):=h
def qcY(h:P:=by simp[IntKind.wrap,IntKind.bits,IntKind.signed]):=h
def EQ(h:P:=by simp[Program.elem,hT]):=h
def J4(h:P:=by rw[he];exact hT):=h
def qko(h:P:=by unfold ay at r1 ⊢;rw[hgg];exact r1):=h
def qcZ(h:P:=by simp only[List.size_toArray,List.length_append,List.length_take,List.length_drop,Array.length_toList];omega):=h
end
namespace Go.Via
variable[Mo]
open Go Go.RowKit
def wi{n r:Int}(h0: -9223372036854775808<=n)(h1:n<=9223372036854775807)(e:n=r):IntKind.i64.wrap n=r:=qoK
def wu{n r:Int}(h0:0<=n)(h1:n<18446744073709551616)(e:n=r):IntKind.u64.wrap n=r:=by
 subst e;simp[IntKind.wrap,IntKind.bits,IntKind.signed];omega
theorem qhF(n:Int):IntKind.u64.wrap n=n%18446744073709551616:=qcY
theorem qhG(n:Int):IntKind.u32.wrap n=n%4294967296:=qcY
theorem wu8(n:Int):IntKind.u8.wrap n=n%256:=qcY
theorem VV:IntKind.u64.bits=64:=rfl
theorem VW:IntKind.u32.bits=32:=rfl
theorem qc0(b m n:Nat)(hm:m<2^b)(hn:n<2^b):((BitVec.ofInt b (m:Int)|||BitVec.ofInt b (n:Int)).toNat:Int)=((m|||n:Nat):Int):=by
 rw[BitVec.toNat_or,BitVec.ofInt_natCast,BitVec.ofInt_natCast,BitVec.toNat_ofNat,BitVec.toNat_ofNat,Nat.mod_eq_of_lt hm,Nat.mod_eq_of_lt hn]
theorem qc7{m n:Nat}(i:Nat)(hn:n<2^i):(2^i*m|||n)=2^i*m+n:=(Nat.two_pow_add_eq_or_of_lt hn m).symm
def qma{m n r:Nat}(i:Nat)(hn:n<2^i)(hr:2^i*m+n=r)(hb:r<4294967296){x y:Int}(hx:x=((2^i*m:Nat):Int))(hy:y=(n:Int)):
 IntKind.u32.wrap ((BitVec.ofInt IntKind.u32.bits x|||BitVec.ofInt IntKind.u32.bits y).toNat)=(r:Int):=by
 subst hx;subst hy;rw[VW,qc0 32 _ _ ae ae,qc7 i hn,qhG];omega
def J5{m n r:Nat}(i:Nat)(hn:n<2^i)(hr:2^i*m+n=r)(hb:r<18446744073709551616){x y:Int}(hx:x=((2^i*m:Nat):Int))(hy:y=(n:Int)):
 IntKind.u64.wrap ((BitVec.ofInt IntKind.u64.bits x|||BitVec.ofInt IntKind.u64.bits y).toNat)=(r:Int):=by
 subst hx;subst hy;rw[VV,qc0 64 _ _ ae ae,qc7 i hn,qhF];omega
section
variable{P:Program}{bl:List Nat}{ops:Array Oper}{K:St->Prop}{rest:List Oper}{nt:Nat}{t:List (Nat×Value)}{L:List aJ}{d:Nat}{ty:TypeId}{pos:String}{af:Array Edge}{g:Option (Nat×Bool)}{x y:Operand}
def qoL{op:BinOp}{T U:Nat}{k:IntKind}{m n r:Int}(hd:Nat.blt d nt=true)(hg:az ops ⟨some d,.binOp op T x y U,ty,pos,af,g⟩ t=some true)(hx:ev t x=some (.int k m))(hy:ev t y=some (.int k n))(hn:n≠0)
 (hr:(match op with| .quo=>some (k.wrap (m.tdiv n))| .rem=>some (m.tmod n)|_=>none)=some r)(h:aY P bl ops rest ⟨nt,(d,.int k r)::t,L⟩ K):
 aY P bl ops (⟨some d,.binOp op T x y U,ty,pos,af,g⟩::rest) ⟨nt,t,L⟩ K:=
 fD hd hg rfl (fun B a w hrel=>by
 have h1:=hrel.ev hx;have h2:=hrel.ev hy;cases op<;>simp at hr<;>subst hr<;>simp[execOp,h1,h2,eqGuard,binOp,Op.intDiv,hn]) h
def VX{T U:Nat}{k:IntKind}{m n r:Int}(hd:Nat.blt d nt=true)(hg:az ops ⟨some d,.binOp .or T x y U,ty,pos,af,g⟩ t=some true)(hx:ev t x=some (.int k m))(hy:ev t y=some (.int k n))
 (hr:k.wrap ((BitVec.ofInt k.bits m|||BitVec.ofInt k.bits n).toNat)=r)(h:aY P bl ops rest ⟨nt,(d,.int k r)::t,L⟩ K):
 aY P bl ops (⟨some d,.binOp .or T x y U,ty,pos,af,g⟩::rest) ⟨nt,t,L⟩ K:=
 fD hd hg rfl (fun B a w hrel=>by
 have h1:=hrel.ev hx;have h2:=hrel.ev hy;subst hr;simp[execOp,h1,h2,eqGuard,binOp,Op.intBits]) h
def qhH{op:BinOp}{T U:Nat}{k k':IntKind}{m n r:Int}(hd:Nat.blt d nt=true)(hg:az ops ⟨some d,.binOp op T x y U,ty,pos,af,g⟩ t=some true)(hx:ev t x=some (.int k m))(hy:ev t y=some (.int k' n))(hn:¬n<0)
 (hr:(match op with| .shl=>some (k.wrap (m*2^(min n.toNat k.bits)))| .shr=>some (m.fdiv (2^(min n.toNat k.bits)))|_=>none)=some r)(h:aY P bl ops rest ⟨nt,(d,.int k r)::t,L⟩ K):
 aY P bl ops (⟨some d,.binOp op T x y U,ty,pos,af,g⟩::rest) ⟨nt,t,L⟩ K:=
 fD hd hg rfl (fun B a w hrel=>by
 have h1:=hrel.ev hx;have h2:=hrel.ev hy;cases op<;>simp at hr<;>subst hr<;>simp[execOp,h1,h2,eqGuard,binOp,Op.shift,hn]) h
def qmb{S D:Nat}{k k':IntKind}{n r:Int}(hS:P.underlying S=some (.int k))(hD:P.underlying D=some (.int k'))(hd:Nat.blt d nt=true)(hg:az ops ⟨some d,.convert S D x,ty,pos,af,g⟩ t=some true)(hx:ev t x=some (.int k n))(hr:k'.wrap n=r)
 (h:aY P bl ops rest ⟨nt,(d,.int k' r)::t,L⟩ K):aY P bl ops (⟨some d,.convert S D x,ty,pos,af,g⟩::rest) ⟨nt,t,L⟩ K:=
 fD hd hg rfl (fun B a w hrel=>by
 have h1:P.intKind D=k':=(by simp[Program.intKind,hD]);have h2:=run_convert_int (P:=P) w S D k n (by rw[hS];rfl) (by rw[h1];exact hD);rw[h1,hr] at h2;simp[execOp,hrel.ev hx,h2]) h
def Ac{T:Nat}{s:ByteArray}{k:IntKind}{i:Int}{b:UInt8}{r:Int}(hT:P.underlying T=some .string)(hd:Nat.blt d nt=true)(hg:az ops ⟨some d,.index T x y,ty,pos,af,g⟩ t=some true)(hx:ev t x=some (.string s))(hy:ev t y=some (.int k i))(hi:0<=i)
 (hb:s.data.toList[i.toNat]? =some b)(hr:(b.toNat:Int)=r)(h:aY P bl ops rest ⟨nt,(d,.int .u8 r)::t,L⟩ K):aY P bl ops (⟨some d,.index T x y,ty,pos,af,g⟩::rest) ⟨nt,t,L⟩ K:=
 fD hd hg rfl (fun B a w hrel=>by
 have h1:=run_index_string (P:=P) w T s k i hT;obtain⟨hlt,he⟩:=List.getElem?_eq_some_iff.1 hb;have hlt':i.toNat<s.size:=Tz;rw[dif_pos ⟨hi,ae⟩] at h1;have h2:s[i.toNat]'hlt'=b:=he;rw[h2,hr] at h1;simp[execOp,hrel.ev hx,hrel.ev hy,h1]) h
def qmc{T e:Nat}{b:Option Nat}{off len cap:Nat}(hT:P.underlying T=some (.slice e))(hd:Nat.blt d nt=true)(hg:az ops ⟨some d,.call {callee:= .builtin .len,args:= #[x],argTypes:= #[T]},ty,pos,af,g⟩ t=some true)(hx:ev t x=some (ay b off len cap))(h:aY P bl ops rest ⟨nt,(d,.int .i64 len)::t,L⟩ K):
 aY P bl ops (⟨some d,.call {callee:= .builtin .len,args:= #[x],argTypes:= #[T]},ty,pos,af,g⟩::rest) ⟨nt,t,L⟩ K:=
 fD hd hg rfl (fun B a w hrel=>by
 have he:P.elem T=e:=EQ;have:=run_len_slice (P:=P) w T ty (b.map fun g=>⟨g,off,none⟩) len cap J4;have h2:=hrel.ev hx;unfold ay at h2;simp[execOp,resolve,invoke,builtin,h2,this,goInt]) h
def aI{T e:Nat}{k:IntKind}{i:Int}{b:aJ}{off len cap:Nat}{inf:TI}(kk off':Nat)(hT:P.underlying T=some (.slice e))(hinf:dO P e inf=true)(hd:Nat.blt d nt=true)(hg:az ops ⟨some d,.indexAddr T x y,ty,pos,af,g⟩ t=some true)
 (hk:(blank bl L)[kk]? =some b)(hx:ev t x=some (ay b.base off len cap))(hy:ev t y=some (.int k i))(h0:0<=i)(h1:i<len)(hb:b.cs≠[])(ho:off+i.toNat*inf.size=off')
 (h:aY P bl ops rest ⟨nt,(d,b.at off')::t,L⟩ K):aY P bl ops (⟨some d,.indexAddr T x y,ty,pos,af,g⟩::rest) ⟨nt,t,L⟩ K:=
 fD hd hg rfl (fun B a w hrel=>by
 have he:P.elem T=e:=EQ;have h2:=hrel.ev hx;have h3:=hrel.ev hy;cases hbb:b.base with
 |none=>exact absurd ((hrel.mem.blk kk b hk).2 hbb).1 hb
 |some gg=>
  rw[hbb] at h2;have:=run_indexAt_slice (P:=P) w T ⟨gg,off,none⟩ len cap k i J4;rw[if_pos ⟨h0,h1⟩,he,nR hinf w] at this;simp only[Result.andThen_ok,jR,ho] at this;unfold ay at h2;simp only[Option.map_some] at h2;unfold aJ.at;rw[hbb];simp[execOp,h2,h3,this]) h
def tV{T e N:Nat}{k:IntKind}{i:Int}{gg:Nat}{off:Nat}{inf:TI}(off':Nat)(hT:P.underlying T=some (.array N e))(hinf:dO P e inf=true)(hd:Nat.blt d nt=true)(hg:az ops ⟨some d,.indexAddr T x y,ty,pos,af,g⟩ t=some true)
 (hx:ev t x=some (.pointer (some ⟨gg,off,none⟩)))(hy:ev t y=some (.int k i))(h0:0<=i)(h1:i<N)(ho:off+i.toNat*inf.size=off')
 (h:aY P bl ops rest ⟨nt,(d,.pointer (some ⟨gg,off',none⟩))::t,L⟩ K):aY P bl ops (⟨some d,.indexAddr T x y,ty,pos,af,g⟩::rest) ⟨nt,t,L⟩ K:=
 fD hd hg rfl (fun B a w hrel=>by
 have he:P.elem T=e:=EQ;have hN:P.arrayLen T=N:=(by simp[Program.arrayLen,hT]);have h2:=hrel.ev hx;have h3:=hrel.ev hy;have:=run_indexAt_array (P:=P) w T ⟨gg,off,none⟩ k i (by rw[he,hN];exact hT);rw[hN,if_pos ⟨h0,h1⟩,he,nR hinf w] at this;simp only[Result.andThen_ok,jR,ho] at this;simp[execOp,h2,h3,this]) h
def Qn{T:Nat}{b:aJ}{v:Value}(k off:Nat)(hi:dO P T ⟨false,1,[]⟩=true)(hd:Nat.blt d nt=true)(hg:az ops ⟨some d,.load T x,ty,pos,af,g⟩ t=some true)(hk:(blank bl L)[k]? =some b)(hx:ev t x=some (b.at off))
 (hv:b.cs[off]? =some v)(h:aY P bl ops rest ⟨nt,(d,v)::t,L⟩ K):
 aY P bl ops (⟨some d,.load T x,ty,pos,af,g⟩::rest) ⟨nt,t,L⟩ K:=by
 obtain⟨h1,h2⟩:=List.getElem?_eq_some_iff.1 hv;refine fD hd hg rfl (qcD (s:=St.bk ⟨nt,t,L⟩ bl) (vs:=[v]) rfl k hk hx hi ?_ rfl bI rfl) h;rw[List.drop_eq_getElem_cons h1,h2];rfl
def CY{l:List Value}{i:Nat}{v:Value}(h:i<l.length):l.take i++[v]++l.drop (i+1)=l.set i v:=by
 rw[List.set_eq_take_append_cons_drop,if_pos h];simp
def qc8(hbl:Gv bl=false){T:Nat}{b:aJ}{v:Value}(k off:Nat)(L':List aJ)(cs':List Value)(hi:dO P T ⟨false,1,[]⟩=true)(hg:az ops ⟨none,.store T x y,ty,pos,af,g⟩ t=some true)(hk:L[k]? =some b)(ho:b.own=true)(hbb:b.base.isSome=true)(hx:ev t x=some (b.at off))
 (hy:ev t y=some v)(hv:v.cells= #[v])(h1:v.oneCell'=true)(hfit:off<b.cs.length)(hcs:b.cs.set off v=cs')(hL:L.set k {b with cs:=cs'}=L')
 (h:aY P bl ops rest ⟨nt,t,L'⟩ K):aY P bl ops (⟨none,.store T x y,ty,pos,af,g⟩::rest) ⟨nt,t,L⟩ K:=
 Yn hg rfl rfl (by
 have h4:=CY (v:=v) hfit;rw[hcs] at h4;have h5:=EK (P:=P) (o:=⟨none,.store T x y,ty,pos,af,g⟩) (s:=⟨nt,t,L⟩) rfl k hk ho hx hbb hy hi (by rw[hv];rfl) ax hfit (by rw[hv];simp[h1]);rw[hv] at h5;have h6:qcv P ⟨none,.store T x y,ty,pos,af,g⟩ ⟨nt,t,L⟩ (L.set k {b with cs:=b.cs.take off++[v]++b.cs.drop (off+1)}):=h5
 rw[h4,hL] at h6;exact h6) (fun h2=>by rw[hbl] at h2;cases h2) h
def qaG{T:Nat}{b:aJ}{v:Value}(k off:Nat)(L':List aJ)(cs':List Value)(hi:dO P T ⟨false,1,[]⟩=true)(hg:az ops ⟨none,.store T x y,ty,pos,af,g⟩ t=some true)(hk:L[k]? =some b)(ho:b.own=true)(hbb:b.base.isSome=true)(hx:ev t x=some (b.at off))
 (hy:ev t y=some v)(hv:v.cells= #[v])(h1:v.oneCell'=true)(hfit:off<b.cs.length)(hcs:b.cs.set off v=cs')(hL:L.set k {b with cs:=cs'}=L')(hbl:blank bl L'=blank bl L)
 (h:aY P bl ops rest ⟨nt,t,L'⟩ K):aY P bl ops (⟨none,.store T x y,ty,pos,af,g⟩::rest) ⟨nt,t,L⟩ K:=
 Yn hg rfl rfl (by
 have h4:=CY (v:=v) hfit;rw[hcs] at h4;have h5:=EK (P:=P) (o:=⟨none,.store T x y,ty,pos,af,g⟩) (s:=⟨nt,t,L⟩) rfl k hk ho hx hbb hy hi (by rw[hv];rfl) ax hfit (by rw[hv];simp[h1]);rw[hv] at h5;have h6:qcv P ⟨none,.store T x y,ty,pos,af,g⟩ ⟨nt,t,L⟩ (L.set k {b with cs:=b.cs.take off++[v]++b.cs.drop (off+1)}):=h5
 rw[h4,hL] at h6;exact h6) (fun _=>hbl) h
def ER{T e gg:Nat}{k:IntKind}{i:Int}{off len cap:Nat}{inf:TI}(off':Nat)(hT:P.underlying T=some (.slice e))(hinf:dO P e inf=true)(hd:Nat.blt d nt=true)(hg:az ops ⟨some d,.indexAddr T x y,ty,pos,af,g⟩ t=some true)
 (hx:ev t x=some (ay (some gg) off len cap))(hy:ev t y=some (.int k i))(h0:0<=i)(h1:i<len)(ho:off+i.toNat*inf.size=off')
 (h:aY P bl ops rest ⟨nt,(d,.pointer (some ⟨gg,off',none⟩))::t,L⟩ K):aY P bl ops (⟨some d,.indexAddr T x y,ty,pos,af,g⟩::rest) ⟨nt,t,L⟩ K:=
 fD hd hg rfl (fun B a w hrel=>by
 have he:P.elem T=e:=EQ;have h2:=hrel.ev hx;have h3:=hrel.ev hy;have:=run_indexAt_slice (P:=P) w T ⟨gg,off,none⟩ len cap k i J4;rw[if_pos ⟨h0,h1⟩,he,nR hinf w] at this;simp only[Result.andThen_ok,jR,ho] at this;unfold ay at h2;simp only[Option.map_some] at h2;simp[execOp,h2,h3,this]) h
end
end Go.Via
namespace Go.Via
variable[Mo]
open Go Go.RowKit
theorem yF:∀(vs:List Value) (w:World) (g o:Nat) (cur:Array Value) (t:TypeId),w.heap[g]? =some (.cells cur t (0,0))->o+vs.length<=cur.size->
 w.setCells g o vs=w.setRow g (cur.toList.take o++vs++cur.toList.drop (o+vs.length)).toArray
 |[],w,g,o,cur,t,hg,hl=>by
  have e:(cur.toList.take o++[]++cur.toList.drop (o+([]:List Value).length)).toArray=cur:=bI;rw[e,World.setCells];have hlt:g<w.heap.size:=(Array.getElem?_eq_some_iff.1 hg).1;have hv:w.heap[g]= .cells cur t (0,0):=(Array.getElem?_eq_some_iff.1 hg).2;have key:w.heap=(w.setRow g cur).heap:=by
   apply Array.ext
   ·simp[World.setRow]
   ·intro i h1 h2;have:(w.setRow g cur).heap[i]? =w.heap[i]? :=by
     by_cases e:i=g
     ·subst e;rw[setRow_heap w i cur cur t (0,0) hg,hg]
     ·exact setRow_other w g i cur e
    rw[Array.getElem?_eq_getElem h1,Array.getElem?_eq_getElem h2] at this;exact(Option.some.inj this).symm
  show w={w with heap:=(w.setRow g cur).heap}
  rw[<-key]
 |v::r,w,g,o,cur,t,hg,hl=>by
  simp only[List.length_cons] at hl;rw[World.setCells,setCell_eq_setRow w g o cur t (0,0) v hg,yF r _ g (o+1) (cur.setIfInBounds o v) t (setRow_heap w g cur _ t (0,0) hg) CX,setRow_setRow]
  congr 1
  have e:=list_seg_step cur.toList o v r (by simp at hl ⊢;omega)
  simpa[Array.toList_setIfInBounds,Nat.add_assoc] using e
def bg.swapIn{B:Bs}{w:World}{L:List aJ}{b:aJ}(h:bg B (L++[b]) w)(k:Nat):bg B (L.set k b) w:=by
 by_cases hkl:k<L.length
 ·have hb:∀(m:Nat) (c:aJ),(L.set k b)[m]? =some c->m<L.length∧(L++[b])[if m=k then L.length else m]? =some c:=fun m c hm=>by
   have hml:m<L.length:=(by have:=(List.getElem?_eq_some_iff.1 hm).1;simpa using this);refine⟨hml,?_⟩
   by_cases e:m=k
   ·subst e;rw[List.getElem?_set_self hkl] at hm;cases hm;simp
   ·rw[List.getElem?_set_ne (Ne.symm e)] at hm;rw[if_neg e,List.getElem?_append_left hml];exact hm
  refine⟨h.bel,fun m c hm=>h.blk _ c (hb m c hm).2,fun i j g bi bj hij hi hj ho hg hgj=>?_,h.grp.mem fun c hc=>by obtain⟨m,hm⟩:=List.mem_iff_getElem?.1 hc;exact List.mem_of_getElem? (hb m c hm).2⟩
  obtain⟨hi1,hi2⟩:=hb i bi hi;obtain⟨hj1,hj2⟩:=hb j bj hj;refine h.apart _ _ g bi bj ?_ hi2 hj2 ho hg hgj
  split<;>split<;>omega
 ·rw[List.set_eq_of_length_le ae];exact h.take
def bg.mono{B:Bs}{w:World}{L L':List aJ}(h:bg B L w)(hl:∀(k:Nat) (b':aJ),L'[k]? =some b'->∃b,L[k]? =some b∧b'.le b):bg B L' w:=by
 refine⟨h.bel,fun k b hk=>?_,fun i j g bi bj hij hi hj ho hg hgj=>?_,h.grp.sub (fun b hb hn=>?_) (fun c hc ho g hg=>?_)⟩
 rotate_left 2
 ·obtain⟨k,hk⟩:=List.mem_iff_getElem?.1 hb;obtain⟨c,h2,h3⟩:=hl k b hk;exact .inr ⟨c,List.mem_of_getElem? h2,Oo,h3.2.1.symm,h3.2.2.2.2⟩
 ·obtain⟨k,hk⟩:=List.mem_iff_getElem?.1 hc;obtain⟨c',h2,h3⟩:=hl k c hk;exact⟨c',List.mem_of_getElem? h2,h3.2.2.2.2 ho,JS⟩
 ·obtain⟨c,h2,h3⟩:=hl k b hk;obtain⟨a1,a2⟩:=h.blk k c h2;refine⟨fun g hg=>(a1 g JS).le h3,fun hn=>?_⟩
  obtain⟨b1,b2⟩:=a2 Oo;obtain⟨_,_,l3,⟨q,l4⟩,_⟩:=h3;exact⟨by rw[l4,b1];simp,by rw[l3];exact b2⟩
 ·obtain⟨ci,h2,h3⟩:=hl i bi hi;obtain⟨cj,g2,g3⟩:=hl j bj hj;exact h.apart i j g ci cj hij h2 g2 (h3.2.2.2.2 ho) JS (by rw[<-g3.1];exact hgj)
theorem bg.last{B:Bs}{w:World}{L:List aJ}{b b':aJ}(h:bg B (L++[b]) w)(hl:b'.le b):bg B (L++[b']) w:=h.mono fun k c hk=>by
 rw[List.getElem?_append] at hk ⊢
 split at hk
 ·rename_i h1;rw[if_pos h1];exact⟨c,hk,c.le_refl⟩
 ·rename_i h1
  rw[if_neg h1];cases hq:k-L.length with
  |zero=>rw[hq] at hk;simp at hk;subst hk;exact⟨b,bI,hl⟩
  |succ q=>rw[hq] at hk;simp at hk
structure AR(need s:Nat) where
 g:Nat
 n:Nat
 cap:Nat
 h:need<=cap
 hn:cap*s<=n
section
variable{P:Program}{bl:List Nat}{ops:Array Oper}{K:St->Prop}{rest:List Oper}{nt:Nat}{t:List (Nat×Value)}{L:List aJ}{d:Nat}{ty:TypeId}{pos:String}{af:Array Edge}{g:Option (Nat×Bool)}{x y:Operand}
def xM{T e:Nat}{b:Option Nat}{len cap:Nat}{k:IntKind}{h':Int}{inf:TI}(len':Nat)(hT:P.underlying T=some (.slice e))(hinf:dO P e inf=true)(hd:Nat.blt d nt=true)(hg:az ops ⟨some d,.slice T x none (some y) none,ty,pos,af,g⟩ t=some true)(hx:ev t x=some (ay b 0 len cap))(hy:ev t y=some (.int k h'))(h0:0<=h')(h1:h'<=cap)(hl:h'.toNat=len')
 (h:aY P bl ops rest ⟨nt,(d,ay b 0 len' cap)::t,L⟩ K):aY P bl ops (⟨some d,.slice T x none (some y) none,ty,pos,af,g⟩::rest) ⟨nt,t,L⟩ K:=
 fD hd hg rfl (fun B a w hrel=>by
 have he:P.elem T=e:=EQ;have hT':P.underlying T=some (.slice (P.elem T)):=J4;have h2:=hrel.ev hx;have h3:=hrel.ev hy;unfold ay at h2;have r1:=run_sliceAt_slice (P:=P) w T (.slice (b.map fun g=>⟨g,0,none⟩) len cap) none (some (.int k h')) none hT';rw[run_slice_h (P:=P) w T (b.map fun g=>⟨g,0,none⟩) len cap hT' k h' h0 h1,he,nR hinf w] at r1;simp only[Result.andThen_ok] at r1;have e1:sliced (b.map fun g=>(⟨g,0,none⟩:Addr)) 0 h'.toNat cap inf.size=ay b 0 len' cap:=by
  unfold sliced ay;rw[hl];cases b<;>simp[jR]
 rw[e1] at r1;simp[execOp,h2,h3,r1]) h
def TL{T e:Nat}{k:IntKind}{c:Nat}{inf:TypeInfo}{z:Value}{m:Int}(hem:e<dn)(cs:List Value)(mk:Nat->List aJ)(hT:P.underlying T=some (.slice e))(hi:P.info? e=some inf)(hz:inf.zero=some z)(hs:inf.size=1)(hz1:z.cells= #[z])(hd:Nat.blt d nt=true)
 (hg:az ops ⟨some d,.makeSlice T x y,ty,pos,af,g⟩ t=some true)(hx:ev t x=some (.int k m))(hy:ev t y=some (.int k m))(hm:m=(c:Int))(hb:inf.bytes<=512)(hc:c<=137438953472)(hcs:List.replicate c z=cs)(hL:∀b,L++[⟨some b,e,cs,c,true⟩]=mk b)
 (h:∀b,aY P bl ops rest ⟨nt,(d,ay (some b) 0 c c)::t,mk b⟩ K):aY P bl ops (⟨some d,.makeSlice T x y,ty,pos,af,g⟩::rest) ⟨nt,t,L⟩ K:=
 Oq hd hg rfl rfl (X:=Nat) (nx:=fun b=>⟨nt,(d,ay (some b) 0 c c)::t,mk b⟩) (fun hd'=>JQ fun B a w hr=>by
 subst hm;have hbb:inf.bytes*c<=512*137438953472:=Nat.mul_le_mul hb hc;have r1:=run_make (P:=P) w T e inf z hT hi hz k k (c:Int) (c:Int) ae (Int.le_refl _) (by
 have:((inf.bytes*c:Nat):Int)<=281474976710656:=ae
 rwa [Int.natCast_mul] at this) ae
 simp only[Int.toNat_natCast,hs,Nat.mul_one,hz1] at r1;have e1:madeCells #[z] c=(List.replicate c z).toArray:=by
  unfold madeCells
  apply Array.ext
  ·simp
  ·intro i h1 h2;simp[Nat.mod_one]
 rw[e1] at r1;refine⟨ay (some w.heap.size) 0 c c,w.alloc (.cells (List.replicate c z).toArray e),w.heap.size,by
 have r2:(execOp a.eval ⟨some d,.makeSlice T x y,ty,pos,af,g⟩).run P w=((Instr.makeSlice T (.int k (c:Int)) (.int k (c:Int))).run P w).andThen fun v w=> .ok (.value v) w:=by
  simp[execOp,hr.ev hx,hr.ev hy,Sem.run_bind]
 rw[r2,r1];rfl,?_⟩
 have h1:=hr.mem.alloc e (List.replicate c z).toArray hem;simp only[List.size_toArray,List.length_replicate] at h1;rw[<-hL,<-hcs];exact hr.put hd' h1) fun b=>h b
def TM{T e:Nat}{inf:TypeInfo}{z:Value}{b:aJ}{len cap b2o n2 c2:Nat}{b2:aJ}(hem:e<dn)(k k2:Nat)(mk:AR (len+n2) inf.size->List aJ)(hT:P.underlying T=some (.slice e))(hi:P.info? e=some inf)(hz:inf.zero=some z)(hs:0<inf.size)(hzs:z.cells.size=inf.size)(hbytes:inf.bytes<=1024)(hd:Nat.blt d nt=true)
 (hg:az ops ⟨some d,.call {callee:= .builtin .append,args:= #[x,y],argTypes:= #[T,T]},ty,pos,af,g⟩ t=some true)
 (hk:L[k]? =some b)(ho:b.own=true)(he:b.e=e)(hlen:b.cs.length=len*inf.size)(hcap:len<=cap)(hn:cap*inf.size<=b.n)(hx:ev t x=some (ay b.base 0 len cap))
 (hk2:L[k2]? =some b2)(hlen2:b2.cs.length=n2*inf.size)(hpos:0<n2)(hb2:b2.base=some b2o)(hy:ev t y=some (ay (some b2o) 0 n2 c2))(h1:∀v∈b2.cs,v.oneCell'=true)(hmax:len+n2<=17179869184)
 (hL:∀r,L.set k ⟨some r.g,e,b.cs++b2.cs,r.n,true⟩=mk r)
 (h:∀r:AR (len+n2) inf.size,aY P bl ops rest ⟨nt,(d,ay (some r.g) 0 (len+n2) r.cap)::t,mk r⟩ K):
 aY P bl ops (⟨some d,.call {callee:= .builtin .append,args:= #[x,y],argTypes:= #[T,T]},ty,pos,af,g⟩::rest) ⟨nt,t,L⟩ K:=
 Oq hd hg rfl rfl (X:=AR (len+n2) inf.size) (nx:=fun r=>⟨nt,(d,ay (some r.g) 0 (len+n2) r.cap)::t,mk r⟩) (fun hd'=>JQ fun B a w hr=>by
 have hx':=hr.ev hx;have hy':=hr.ev hy
 have hnews:∀j u,b2.cs[j]? =some u->w.cell? ((⟨b2o,0,none⟩:Addr).add j)=some u:=fun j u hj=>by
  obtain⟨g',hg',h2⟩:=hr.mem.cell hk2 hj;rw[hb2] at hg';cases hg';rw[jR,Nat.zero_add];exact h2
 have hsrc:=Src.ofSlice (P:=P) w (size:=inf.size) hT ⟨b2o,0,none⟩ n2 c2 b2.cs hlen2 hnews h1;have fin:∀v w',(Builtin.append_ #[T,T] ty #[ay b.base 0 len cap,ay (some b2o) 0 n2 c2]).run P w= .ok v w'->(execOp a.eval ⟨some d,.call {callee:= .builtin .append,args:= #[x,y],argTypes:= #[T,T]},ty,pos,af,g⟩).run P w= .ok (.value v) w':=fun v w' hv=>by
  simp[execOp,resolve,invoke,builtin,hx',hy',hv]
 by_cases hroom:len+n2<=cap
 ·
  obtain⟨gg,hgg⟩:∃gg,b.base=some gg:=by
   cases hbb:b.base with
   |some gg=>exact⟨gg,rfl⟩
   |none=>
    have:=((hr.mem.blk k b hk).2 hbb).2;have h3:1*1<=cap*inf.size:=Nat.mul_le_mul ae hs;omega
  obtain⟨cur,⟨e',fr,c1,cfr,_⟩,c2',c3⟩:=((hr.mem.blk k b hk).1 gg hgg).cells (.inl (by
 have h3:1*1<=cap*inf.size:=Nat.mul_le_mul (by omega) hs;omega))
  obtain⟨rfl,rfl⟩:=cfr ho;have hroomc:(len+n2)*inf.size<=cap*inf.size:=Nat.mul_le_mul_right _ hroom;have hsum:(len+n2)*inf.size=len*inf.size+n2*inf.size:=Nat.add_mul ..;have hfit:0+len*inf.size+b2.cs.length<=cur.size:=by rw[hlen2];omega
  have r1:=run_append_room_src (P:=P) w T T ty e inf hT hi gg 0 len cap (ay (some b2o) 0 n2 c2) n2 b2.cs hsrc hroom
   (fun j hj=>by
 rw[cell_of_row w gg _ cur b.e (0,0) c1];rw[Array.getElem?_eq_getElem (by omega)];rfl)
   (fun j hj=>by simp[World.frozen?,c1])
  rw[yF b2.cs w gg _ cur b.e c1 hfit] at r1;refine⟨_,_,(⟨gg,b.n,cap,hroom,hn⟩:AR (len+n2) inf.size),fin _ _ qko,?_⟩;refine hr.put hd' ?_;rw[<-hL];have hcur:cur.toList.take (0+len*inf.size)=b.cs:=by rw[Nat.zero_add,<-hlen];exact c3
  have h5:=hr.mem.set hk ho hgg (cur.toList.take (0+len*inf.size)++b2.cs++cur.toList.drop (0+len*inf.size+b2.cs.length)).toArray (b.cs++b2.cs)
   qcZ
   (by
 rw[hcur];simp only[List.append_assoc];rw[List.length_append,<-List.append_assoc,<-List.length_append];exact List.take_left)
  rw[hgg] at h5;rw[ho] at h5;rw[he] at h5;exact h5
 ·
  have hold:(Builtin.firstCells inf.size len (ay b.base 0 len cap)).run P w.drew= .ok b.cs.toArray w.drew:=by
   cases hbb:b.base with
   |none=>
    have:=((hr.mem.blk k b hk).2 hbb).1;rw[this];exact run_firstCells_none w.drew inf.size len len cap
   |some gg=>
    refine run_firstCells_some (P:=P) w.drew inf.size len ⟨gg,0,none⟩ len cap b.cs hlen (fun j v hj=>?_);obtain⟨g',hg',h2⟩:=hr.mem.cell hk hj;rw[hbb] at hg';cases hg';rw[jR,Nat.zero_add];exact h2
  have hge:=grownCap_ge w (len+n2) cap e;have hbb:(len+n2)*inf.bytes<=17179869184*1024:=Nat.mul_le_mul hmax hbytes;have hfit:Builtin.nextslicecap (len+n2) cap*inf.bytes<=281474976710656:=growslice_fits ae ae;have r1:=run_append_grow_src (P:=P) w T T ty e inf z hT hi hz (b.base.map fun g=>⟨g,0,none⟩) len cap b.cs hold (ay (some b2o) 0 n2 c2) n2 b2.cs hsrc ae ae hfit;refine⟨_,_,(⟨w.heap.size,(((b.cs++b2.cs).toArray++Builtin.zeroCells z.cells (grownCap w (len+n2) cap e-(len+n2))):Array Value).size,grownCap w (len+n2) cap e,hge,?_⟩:AR (len+n2) inf.size),fin _ _ r1,?_⟩
  ·have hz':(Builtin.zeroCells z.cells (grownCap w (len+n2) cap e-(len+n2))).size=(grownCap w (len+n2) cap e-(len+n2))*inf.size:=by
    unfold Builtin.zeroCells;simp[hzs]
   have hm:(grownCap w (len+n2) cap e-(len+n2))*inf.size+(len+n2)*inf.size=grownCap w (len+n2) cap e*inf.size:=by
    rw[<-Nat.add_mul,Nat.sub_add_cancel hge]
   have hsum:(len+n2)*inf.size=len*inf.size+n2*inf.size:=Nat.add_mul ..;rw[Array.size_append,hz'];simp only[List.size_toArray,List.length_append];omega
  ·refine hr.put hd' ?_;rw[<-hL];have h5:=(hr.mem.drew.alloc e ((b.cs++b2.cs).toArray++Builtin.zeroCells z.cells (grownCap w (len+n2) cap e-(len+n2))) hem);refine(h5.last (b':=⟨some w.heap.size,e,b.cs++b2.cs,((b.cs++b2.cs).toArray++Builtin.zeroCells z.cells (grownCap w (len+n2) cap e-(len+n2)):Array Value).size,true⟩) ⟨rfl,rfl,rfl,⟨(b.cs++b2.cs).length,?_⟩,fun _=>rfl⟩).swapIn k
   rw[Array.toList_append];exact(List.take_left (l₁:=b.cs++b2.cs)).symm) fun r=>h r
end
end Go.Via
namespace Go.Via
variable[Mo]
open Go Go.RowKit
def qc9(l:List Nat):ByteArray:=⟨(l.map UInt8.ofNat).toArray⟩
theorem qaH(l:List Nat):strOfNums (l.map fun(n:Nat)=>(n:Int))=qc9 l:=by simp[strOfNums,qc9]
section
variable{P:Program}{bl:List Nat}{ops:Array Oper}{K:St->Prop}{rest:List Oper}{nt:Nat}{t:List (Nat×Value)}{L:List aJ}{d:Nat}{ty:TypeId}{pos:String}{af:Array Edge}{g:Option (Nat×Bool)}{x y:Operand}
def lg{T n nn:Nat}{parts:List (Nat×Operand)}(ps:List (Nat×Value)){e:Nat}{cs:List Value}(mk:Nat->List aJ)(hd:Nat.blt d nt=true)(hg:az ops ⟨some d,.buildSlice T n parts.toArray,ty,pos,af,g⟩ t=some true)(hx:parts.map (fun p=>(p.1,ev t p.2))=ps.map (fun p=>(p.1,some p.2)))
 (hb:∀w,(Instr.buildSlice T n ps.toArray).run P w= .ok (.slice (some ⟨w.heap.size,0,none⟩) n n) (w.alloc (.cells cs.toArray e)))(hnn:cs.length=nn)(hL:∀b,L++[⟨some b,e,cs,nn,true⟩]=mk b)(h:∀b,aY P bl ops rest ⟨nt,(d,ay (some b) 0 n n)::t,mk b⟩ K)(hem:Nat.blt e dn=true:=by rfl):
 aY P bl ops (⟨some d,.buildSlice T n parts.toArray,ty,pos,af,g⟩::rest) ⟨nt,t,L⟩ K:=
 qcI (e:=e) (cs:=cs.toArray) hd hg rfl (by
 show(kG t parts).bind _=_;rw[DT hx];exact qct (by simpa using hem) hb) fun b=>by
  subst hnn;have:=h b;rw[<-hL b] at this;exact this
def qda{T e N gg:Nat}{k:IntKind}{h':Int}{inf:TI}(len':Nat)(hT:P.underlying T=some (.array N e))(hinf:dO P e inf=true)(hd:Nat.blt d nt=true)(hg:az ops ⟨some d,.slice T x none (some y) none,ty,pos,af,g⟩ t=some true)(hx:ev t x=some (.pointer (some ⟨gg,0,none⟩)))(hy:ev t y=some (.int k h'))(h0:0<=h')(h1:h'<=N)(hl:h'.toNat=len')
 (h:aY P bl ops rest ⟨nt,(d,ay (some gg) 0 len' N)::t,L⟩ K):aY P bl ops (⟨some d,.slice T x none (some y) none,ty,pos,af,g⟩::rest) ⟨nt,t,L⟩ K:=
 fD hd hg rfl (fun B a w hrel=>by
 have he:P.elem T=e:=EQ;have hN:P.arrayLen T=N:=(by simp[Program.arrayLen,hT]);have h2:=hrel.ev hx;have h3:=hrel.ev hy;have r1:=run_sliceAt_array_h (P:=P) w T ⟨gg,0,none⟩ (by rw[he,hN];exact hT) k h' h0 (by rw[hN];exact h1);rw[he,nR hinf w] at r1;simp only[Result.andThen_ok] at r1;have e1:slicedAt (⟨gg,0,none⟩:Addr) 0 h'.toNat (P.arrayLen T) inf.size=ay (some gg) 0 len' N:=by
  unfold slicedAt ay;rw[hl,hN];simp[jR]
 rw[e1] at r1;simp[execOp,h2,h3,r1]) h
def VY{T:Nat}{s:ByteArray}{k:IntKind}{l:Int}{r:ByteArray}(hT:P.underlying T=some .string)(hd:Nat.blt d nt=true)(hg:az ops ⟨some d,.slice T x (some y) none none,ty,pos,af,g⟩ t=some true)(hx:ev t x=some (.string s))(hy:ev t y=some (.int k l))(h0:0<=l)(h1:l<=s.size)(hr:s.extract l.toNat s.size=r)
 (h:aY P bl ops rest ⟨nt,(d,.string r)::t,L⟩ K):aY P bl ops (⟨some d,.slice T x (some y) none none,ty,pos,af,g⟩::rest) ⟨nt,t,L⟩ K:=
 fD hd hg rfl (fun B a w hrel=>by
 have h2:=hrel.ev hx;have h3:=hrel.ev hy;have r1:=run_sliceAt_string (P:=P) w T (.string s) (some (.int k l)) none none hT;rw[run_slice_string_l (P:=P) w T s hT k l h0 h1,hr] at r1;simp[execOp,h2,h3,r1]) h
def Ad{S e D:Nat}{b:aJ}{gg len cap:Nat}{l:List Nat}{r:ByteArray}(k:Nat)(hS:P.underlying S=some (.slice e))(he:P.underlying e=some (.int .u8))(hD:P.underlying D=some .string)(hd:Nat.blt d nt=true)(hg:az ops ⟨some d,.convert S D x,ty,pos,af,g⟩ t=some true)
 (hk:(blank bl L)[k]? =some b)(hb:b.base=some gg)(hx:ev t x=some (ay (some gg) 0 len cap))(hcs:b.cs.take len=NV .u8 l)(hl:l.length=len)(hr:qc9 l=r)
 (h:aY P bl ops rest ⟨nt,(d,.string r)::t,L⟩ K):aY P bl ops (⟨some d,.convert S D x,ty,pos,af,g⟩::rest) ⟨nt,t,L⟩ K:=
 fD hd hg rfl (fun B a w hrel=>by
 have h1:=run_convert_bytes_arg (P:=P) w S e hS he gg 0 len cap (l.map fun(n:Nat)=>(n:Int)) Om (fun i hi=>by
 have hc:b.cs[i]? =some (.int .u8 ((l.map fun(n:Nat)=>(n:Int)).getD i 0)):=by
  have h2:(b.cs.take len)[i]? =(NV .u8 l)[i]? :=(by rw[hcs]);rw[List.getElem?_take,if_pos hi] at h2;rw[h2];have hil:i<l.length:=ae;simp[NV,List.getElem?_eq_getElem hil]
 obtain⟨g',hg',h2⟩:=hrel.mem.cell hk hc;rw[hb] at hg';cases hg';rw[Nat.zero_add];exact h2) D hD
 rw[qaH,hr] at h1;have h2:=hrel.ev hx;unfold ay at h2;simp only[Option.map_some] at h2;simp[execOp,h2,h1]) h
def qmd{T e:Nat}{b b2:aJ}{gg len cap len2 cap2:Nat}{inf:TypeInfo}(k k2:Nat)(L':List aJ)(cs':List Value)(hT:P.underlying T=some (.slice e))(hi:P.info? e=some inf)(hs:inf.size=1)(hd:Nat.blt d nt=true)
 (hg:az ops ⟨some d,.call {callee:= .builtin .copy,args:= #[x,y],argTypes:= #[T,T]},ty,pos,af,g⟩ t=some true)(hk:L[k]? =some b)(ho:b.own=true)(hb:b.base=some gg)(hx:ev t x=some (ay (some gg) 0 len cap))
 (hk2:L[k2]? =some b2)(hy:ev t y=some (ay b2.base 0 len2 cap2))(hl2:b2.cs.length=len2)(hle:len2<=len)(hfit:len2<=b.cs.length)(h1:∀v∈b2.cs,v.oneCell'=true)(hcs:b2.cs++b.cs.drop len2=cs')(hL:L.set k {b with cs:=cs'}=L')
 (h:aY P bl ops rest ⟨nt,(d,.int .i64 len2)::t,L'⟩ K):aY P bl ops (⟨some d,.call {callee:= .builtin .copy,args:= #[x,y],argTypes:= #[T,T]},ty,pos,af,g⟩::rest) ⟨nt,t,L⟩ K:=
 Oq hd hg rfl rfl (X:=Unit) (nx:=fun _=>⟨nt,(d,.int .i64 len2)::t,L'⟩) (fun hd'=>JQ fun B a w hr=>by
 have hx':=hr.ev hx;have hy':=hr.ev hy;have fin:∀v w',(Builtin.copy_ #[T,T] ty #[ay (some gg) 0 len cap,ay b2.base 0 len2 cap2]).run P w= .ok v w'->(execOp a.eval ⟨some d,.call {callee:= .builtin .copy,args:= #[x,y],argTypes:= #[T,T]},ty,pos,af,g⟩).run P w= .ok (.value v) w':=fun v w' hv=>by
  simp[execOp,resolve,invoke,builtin,hx',hy',hv]
 by_cases hz:b.n≠0∨b.cs≠[]
 case neg=>
  have hz2:b.cs=[]:=by
   by_cases h0:b.cs=[]
   ·exact h0
   ·exact absurd (.inr h0) hz
  have hl0:len2=0:=(by rw[hz2] at hfit;simpa using hfit);subst hl0;have h0:b2.cs=[]:=List.eq_nil_of_length_eq_zero hl2;refine⟨goInt 0,w,(),fin _ _ (by
 unfold ay;have hl:∀v:Nat,(loadCells ⟨v,0,none⟩ 0).run P w= .ok #[] w:=fun v=>run_loadCells_list w ⟨v,0,none⟩ [] (fun j u hj=>by simp at hj)
 cases b2.base<;>simp[Builtin.copy_,run_underlying hT,Builtin.lenOf,Builtin.firstCells,sizeOf,typeInfo,hi,storeCells,goInt,hl]),?_⟩
  have e1:L'=L:=by
   rw[<-hL,<-hcs,h0];simp only[List.nil_append,List.drop_zero];obtain⟨q1,q2⟩:=List.getElem?_eq_some_iff.1 hk;have:({b with cs:=b.cs}:aJ)=b:=rfl
   rw[this,<-q2];exact List.set_getElem_self q1
  rw[e1];exact hr.put hd' hr.mem
 obtain⟨cur,⟨e',fr,c1,cfr,_⟩,c2,c3⟩:=((hr.mem.blk k b hk).1 gg hb).cells hz;obtain⟨rfl,rfl⟩:=cfr ho;have hcl:b.cs.length<=cur.size:=by
  have:=congrArg List.length c3;simp only[List.length_take,Array.length_toList] at this;omega
 cases hb2:b2.base with
 |none=>
  have h0:=((hr.mem.blk k2 b2 hk2).2 hb2).1;have hl0:len2=0:=(by rw[<-hl2,h0];rfl);subst hl0;refine⟨goInt 0,w,(),fin _ _ (by
 rw[hb2];unfold ay;simp[Builtin.copy_,run_underlying hT,Builtin.lenOf,Builtin.firstCells,sizeOf,typeInfo,hi,storeCells,goInt]),?_⟩
  have e1:L'=L:=by
   rw[<-hL,<-hcs,h0];simp only[List.nil_append,List.drop_zero];obtain⟨q1,q2⟩:=List.getElem?_eq_some_iff.1 hk;have:({b with cs:=b.cs}:aJ)=b:=rfl
   rw[this,<-q2];exact List.set_getElem_self q1
  rw[e1];exact hr.put hd' hr.mem
 |some g2=>
  have hsrc:∀j v,b2.cs[j]? =some v->w.cell? ((⟨g2,0,none⟩:Addr).add j)=some v:=fun j u hj=>by
   obtain⟨g',hg',h2⟩:=hr.mem.cell hk2 hj;rw[hb2] at hg';cases hg';rw[jR,Nat.zero_add];exact h2
  have r1:=run_copy_row (P:=P) w T T ty e gg 0 len cap ⟨g2,0,none⟩ len2 cap2 cur b.e b2.cs hT (by simp[hi,hs]) c1 (by rw[hl2];exact(Nat.min_eq_left hle).symm) hsrc (by omega) h1;refine⟨goInt b2.cs.length,_,(),fin _ _ (by rw[hb2];exact r1),?_⟩;rw[hl2];have h5:=hr.mem.set hk ho hb (cur.toList.take 0++b2.cs++cur.toList.drop (0+b2.cs.length)).toArray cs'
   qcZ
   (by
    rw[<-hcs];simp only[List.take_zero,List.nil_append,Nat.zero_add,hl2];rw[List.length_append,List.length_drop,hl2];rw[List.take_append,hl2];rw[List.take_of_length_le ae]
    congr 1
    rw[<-c3];simp only[List.length_take,Array.length_toList];rw[List.drop_take]
    congr 1
    omega)
  rw[<-hL];rw[hl2] at h5;exact hr.put hd' h5) fun _=>h
def NQ(P:Program)(e:Nat)(s:Nat)(z:Value):Prop:=((P.info? e).map fun inf=>(inf.size,Nat.ble inf.bytes 512,inf.zero))=some (s,true,some z)∧e<dn
def Ae{e s:Nat}{z:Value}(h:NQ P e s z):∃inf,P.info? e=some inf∧inf.zero=some z∧inf.size=s∧inf.bytes<=512:=by
 unfold NQ at h;replace h:=h.1;cases hq:P.info? e with
 |none=>rw[hq] at h;cases h
 |some inf=>
  rw[hq] at h;simp only[Option.map_some,Option.some.injEq,Prod.mk.injEq] at h;obtain⟨h1,h2,h3⟩:=h;exact⟨inf,rfl,h3,h1,Nat.le_of_ble_eq_true h2⟩
def fE{T e:Nat}{k:IntKind}{c:Nat}{z:Value}{m:Int}(cs:List Value)(mk:Nat->List aJ)(hT:P.underlying T=some (.slice e))(he:NQ P e 1 z)(hd:Nat.blt d nt=true)
 (hg:az ops ⟨some d,.makeSlice T x y,ty,pos,af,g⟩ t=some true)(hx:ev t x=some (.int k m))(hy:ev t y=some (.int k m))(hz1:z.cells= #[z])(hm:m=(c:Int))(hc:c<=137438953472)(hcs:List.replicate c z=cs)(hL:∀b,L++[⟨some b,e,cs,c,true⟩]=mk b)
 (h:∀b,aY P bl ops rest ⟨nt,(d,ay (some b) 0 c c)::t,mk b⟩ K):aY P bl ops (⟨some d,.makeSlice T x y,ty,pos,af,g⟩::rest) ⟨nt,t,L⟩ K:=by
 obtain⟨inf,h1,h2,h3,h5⟩:=Ae he;exact TL he.2 cs mk hT h1 h2 h3 hz1 hd hg hx hy hm h5 hc hcs hL h
def mW{T e s:Nat}{z:Value}{b:aJ}{len cap b2o n2 c2:Nat}{b2:aJ}(k k2:Nat)(mk:AR (len+n2) s->List aJ)(hT:P.underlying T=some (.slice e))(hi:NQ P e s z)(hd:Nat.blt d nt=true)
 (hg:az ops ⟨some d,.call {callee:= .builtin .append,args:= #[x,y],argTypes:= #[T,T]},ty,pos,af,g⟩ t=some true)
 (hk:L[k]? =some b)(ho:b.own=true)(he:b.e=e)(hx:ev t x=some (ay b.base 0 len cap))(hk2:L[k2]? =some b2)(hb2:b2.base=some b2o)(hy:ev t y=some (ay (some b2o) 0 n2 c2))(hs:Nat.blt 0 s=true)(hzs:z.cells.size=s)(hpos:Nat.blt 0 n2=true)
 (hlen:b.cs.length=len*s)(hcap:len<=cap)(hn:cap*s<=b.n)(hlen2:b2.cs.length=n2*s)(h1:∀v∈b2.cs,v.oneCell'=true)(hmax:len+n2<=17179869184)
 (hL:∀r,L.set k ⟨some r.g,e,b.cs++b2.cs,r.n,true⟩=mk r)
 (h:∀r:AR (len+n2) s,aY P bl ops rest ⟨nt,(d,ay (some r.g) 0 (len+n2) r.cap)::t,mk r⟩ K):
 aY P bl ops (⟨some d,.call {callee:= .builtin .append,args:= #[x,y],argTypes:= #[T,T]},ty,pos,af,g⟩::rest) ⟨nt,t,L⟩ K:=by
 obtain⟨inf,i1,i2,i3,i5⟩:=Ae hi;subst i3;exact TM hi.2 k k2 mk hT i1 i2 (by simpa using hs) hzs ae hd hg hk ho he hlen hcap hn hx hk2 hlen2 TA hb2 hy h1 hmax hL h
def J6{T e:Nat}{z:Value}{b b2:aJ}{gg len cap len2 cap2:Nat}(k k2:Nat)(L':List aJ)(cs':List Value)(hT:P.underlying T=some (.slice e))(hi:NQ P e 1 z)(hd:Nat.blt d nt=true)
 (hg:az ops ⟨some d,.call {callee:= .builtin .copy,args:= #[x,y],argTypes:= #[T,T]},ty,pos,af,g⟩ t=some true)(hk:L[k]? =some b)(ho:b.own=true)(hb:b.base=some gg)(hx:ev t x=some (ay (some gg) 0 len cap))
 (hk2:L[k2]? =some b2)(hy:ev t y=some (ay b2.base 0 len2 cap2))(hl2:b2.cs.length=len2)(hle:len2<=len)(hfit:len2<=b.cs.length)(h1:∀v∈b2.cs,v.oneCell'=true)(hcs:b2.cs++b.cs.drop len2=cs')(hL:L.set k {b with cs:=cs'}=L')
 (h:aY P bl ops rest ⟨nt,(d,.int .i64 len2)::t,L'⟩ K):aY P bl ops (⟨some d,.call {callee:= .builtin .copy,args:= #[x,y],argTypes:= #[T,T]},ty,pos,af,g⟩::rest) ⟨nt,t,L⟩ K:=by
 obtain⟨inf,i1,i2,i3,i5⟩:=Ae hi;exact qmd k k2 L' cs' hT i1 i3 hd hg hk ho hb hx hk2 hy hl2 hle hfit h1 hcs hL h
end
def bg.toFront{B:Bs}{w:World}{L:List aJ}{k:Nat}{b:aJ}(h:bg B L w)(hk:L[k]? =some b):bg B (b::L.eraseIdx k) w:=by
 refine h.reindex (fun i=>if i=0 then k else if i-1<k then i-1 else i) (fun i c hc=>?_) (fun i j _ _ e=>?_)
 ·cases i with
  |zero=>simp at hc;subst hc;simpa using hk
  |succ i=>
   simp only[List.getElem?_cons_succ,List.getElem?_eraseIdx] at hc
   by_cases c1:i<k
   ·rw[if_pos c1] at hc;simpa[c1] using hc
   ·rw[if_neg c1] at hc;simpa[c1] using hc
 ·skip
  split at e<;>split at e<;>(try split at e)<;>(try split at e)<;>omega
def bg.fromFront{B:Bs}{w:World}{L:List aJ}{k:Nat}{b b':aJ}(hk:L[k]? =some b)(h:bg B (b'::L.eraseIdx k) w):bg B (L.set k b') w:=by
 have hkl:=(List.getElem?_eq_some_iff.1 hk).1;refine h.reindex (fun i=>if i=k then 0 else if i<k then i+1 else i) (fun i c hc=>?_) (fun i j _ _ e=>?_)
 ·by_cases e:i=k
  ·subst e;rw[List.getElem?_set_self hkl] at hc;simpa using hc
  ·rw[List.getElem?_set_ne (Ne.symm e)] at hc
   by_cases c1:i<k
   ·simp[e,c1,List.getElem?_eraseIdx,hc]
   ·obtain⟨m,rfl⟩:∃m,i=m+1:=⟨i-1,ae⟩;simp only[if_neg e,if_neg c1,List.getElem?_cons_succ,List.getElem?_eraseIdx];rw[if_neg ae];exact hc
 ·skip
  split at e<;>split at e<;>(try split at e)<;>(try split at e)<;>omega
def qkp(P:Program)(f:Nat)(b:aJ)(args:List Value)(v:Value)(b':aJ):Prop:=
 iR P f=true∧∀(B:Bs) (w:World) (R:List aJ),B.D=[]->bg B (b::R) w->Calls P f args.toArray w fun e w'=>e= .returned v∧bg B (b'::R) w'
section
variable{P:Program}{bl:List Nat}{ops:Array Oper}{K:St->Prop}{rest:List Oper}{nt:Nat}{t:List (Nat×Value)}{L:List aJ}{d:Nat}{ty:TypeId}{pos:String}{af:Array Edge}{g:Option (Nat×Bool)}{x y:Operand}
def qhI{f:Nat}{args:List Operand}{ts:Array TypeId}(vs:List Value){v:Value}{b b':aJ}(k:Nat)(L':List aJ)(hM:Jk bl=true)(hd:Nat.blt d nt=true)(hg:az ops ⟨some d,.call {callee:= .value (.func f),args:=args.toArray,argTypes:=ts},ty,pos,af,g⟩ t=some true)
 (hv:args.map (ev t)=vs.map some)(hc:qkp P f b vs v b')(hk:L[k]? =some b)(hL:L.set k b'=L')(h:aY P bl ops rest ⟨nt,(d,v)::t,L'⟩ K):
 aY P bl ops (⟨some d,.call {callee:= .value (.func f),args:=args.toArray,argTypes:=ts},ty,pos,af,g⟩::rest) ⟨nt,t,L⟩ K:=
 qcH hd hg hM (X:=Unit) (nx:=fun _=>⟨nt,(d,v)::t,L'⟩) (fun hd' B a w hr=>by
 unfold Oper.wp;rw[qJ hc.1 a rfl rfl (vs:=vs.toArray) EL w];refine(hc.2 B.d0 w _ rfl (hr.mem.toFront hk).d0).mono ?_;rintro e w' ⟨rfl,hw⟩;refine⟨(),?_⟩;rw[<-hL];exact hr.put hd' (bg.fromFront hk hw.of_d0)) fun _=>h
end
end Go.Via
namespace Go.Via
variable[Mo]
open Go
def Ii{x y:Int}(m n:Nat)(hx:x=(m:Int))(hy:y=(n:Int))(h:m/n<=9223372036854775807):IntKind.i64.wrap (x.tdiv y)=((m/n:Nat):Int):=by
 subst hx;subst hy;rw[<-Int.ofNat_tdiv];generalize m/n=q at*;exact wi ae ae rfl
def qdb{x y:Int}(m n:Nat)(hx:x=(m:Int))(hy:y=(n:Int))(h:m/n<18446744073709551616):IntKind.u64.wrap (x.tdiv y)=((m/n:Nat):Int):=by
 subst hx;subst hy;rw[<-Int.ofNat_tdiv];generalize m/n=q at*;exact wu ae ae rfl
def kz{x y:Int}(m n:Nat)(hx:x=(m:Int))(hy:y=(n:Int)):x.tmod y=((m%n:Nat):Int):=by
 subst hx;subst hy;exact(Int.ofNat_tmod m n).symm
def qdc{x s:Int}(m k:Nat)(hx:x=(m:Int))(hs:s=(k:Int))(hk:k<=64)(h:m*2^k<18446744073709551616):IntKind.u64.wrap (x*2^(min s.toNat IntKind.u64.bits))=((m*2^k:Nat):Int):=by
 subst hx;subst hs
 have:min (k:Int).toNat IntKind.u64.bits=k:=by rw[VV];omega
 rw[this]
 exact wu (Int.mul_nonneg (by omega) (Int.pow_nonneg (by omega))) (by have:((m*2^k:Nat):Int)<18446744073709551616:=by omega
                                                                      simpa using this) bI
def qhJ{x s:Int}(m k:Nat)(hx:x=(m:Int))(hs:s=(k:Int))(hk:k<=32)(h:m*2^k<4294967296):IntKind.u32.wrap (x*2^(min s.toNat IntKind.u32.bits))=((m*2^k:Nat):Int):=by
 subst hx;subst hs
 have:min (k:Int).toNat IntKind.u32.bits=k:=by rw[VW];omega
 rw[this,qhG]
 have e:((m:Int)*2^k)=((m*2^k:Nat):Int):=bI
 rw[e];omega
def TN{x s:Int}(m k:Nat)(hx:x=(m:Int))(hs:s=(k:Int))(hk:k<=64):x.fdiv (2^(min s.toNat IntKind.u64.bits))=((m/2^k:Nat):Int):=by
 subst hx;subst hs
 have:min (k:Int).toNat IntKind.u64.bits=k:=by rw[VV];omega
 rw[this,Int.fdiv_eq_ediv_of_nonneg _ (Int.pow_nonneg ae)]
 simp
def c64{x:Int}(m:Nat)(hx:x=(m:Int))(h:m<18446744073709551616):IntKind.u64.wrap x=(m:Int):=by subst hx;exact wu ae ae rfl
def VI{x:Int}(m:Nat)(hx:x=(m:Int)):IntKind.u32.wrap x=((m%4294967296:Nat):Int):=by subst hx;rw[qhG];omega
def c8{x:Int}(m:Nat)(hx:x=(m:Int)):IntKind.u8.wrap x=((m%256:Nat):Int):=by subst hx;rw[wu8];omega
def CZ{k:IntKind}{l:List Nat}(h:0<l.length):NV k l≠[]:=by
 intro e;have:=congrArg List.length e;rw[ik] at this;simp at this;subst this;simp at h
def GM(k:IntKind)(l:List Nat):∀v∈NV k l,v.oneCell'=true:=by
 intro v hv;obtain⟨n,_,rfl⟩:=List.mem_map.1 hv;rfl
def jS(t:List (Nat×Value)):List (Nat×Value)->Prop
 |[]=>True
 |p::l=>look t p.1=some p.2∧jS t l
def jS.mem{t:List (Nat×Value)}:∀{t':List (Nat×Value)},jS t t'->∀p∈t',look t p.1=some p.2
 |[],_,p,hp=>by cases hp
 |q::l,h,p,hp=>by
  rcases List.mem_cons.1 hp with rfl|hp
  ·exact h.1
  ·exact jS.mem h.2 p hp
def aU{t:List (Nat×Value)}{d:Nat}{v v':Value}(h:look t d=some v)(e:v=v'):look t d=some v':=e▸h
def Nxt{ι:Type}(B:Bs)(nt:Nat)(T:ι->List (Nat×Value))(LL:ι->List aJ)(μ:ι->Nat)(i:ι)(a':Act)(w':World):Prop:=∃j,μ j<μ i∧kQ B ⟨nt,T j,LL j⟩ a' w'
def qme{P:Program}{B:Bs}{Q:Exit->Act->World->Prop}{nt:Nat}{t:List (Nat×Value)}{L:List aJ}{ι:Type}{c:Code}(T:ι->List (Nat×Value))(LL:ι->List aJ)(μ:ι->Nat)(i₀:ι)(ht:jS t (T i₀))(hL:dR L (LL i₀))
 (round:∀i,At B ⟨nt,T i,LL i⟩ (c.wp P (Exit.then (Nxt B nt T LL μ i) Q))):At B ⟨nt,t,L⟩ ((Code.loop c).wp P Q):=
 qaC (fun i=>⟨nt,T i,LL i⟩) μ i₀ (T i₀) (LL i₀) rfl ht.mem hL round
def qoM{B:Bs}{nt:Nat}{t:List (Nat×Value)}{L:List aJ}{ι:Type}{T:ι->List (Nat×Value)}{LL:ι->List aJ}{μ:ι->Nat}{i:ι}(j:ι)(hμ:μ j<μ i)(ht:jS t (T j))(hL:dR L (LL j)):
 At B ⟨nt,t,L⟩ (Nxt B nt T LL μ i):=
 qcR (inv:=fun i=>⟨nt,T i,LL i⟩) j (T j) (LL j) rfl hμ ht.mem hL
end Go.Via
namespace Go.Via
variable[Mo]
open Go Go.RowKit
def CO(Q:Nat->Prop):List Nat->Prop
 |[]=>True
 |i::l=>Q i∧CO Q l
def CO.mem{Q:Nat->Prop}:∀{l:List Nat},CO Q l->∀i∈l,Q i
 |[],_,i,h=>by cases h
 |j::l,hh,i,h=>by
  rcases List.mem_cons.1 h with rfl|h
  ·exact hh.1
  ·exact CO.mem hh.2 i h
def yG(P:Program)(ops:Array Oper)(K:St->Prop):Nat->Array Bool->St->Prop
 |0,listed,s=>Region.ready .any ops listed=[]∧K s
 |n+1,listed,s=>∃l:List Nat,Region.ready .any ops listed=l∧l.isEmpty=false∧CO (fun i=>∃o,ops[i]? =some o∧aY P [1000000] ops [o] s (fun s'=>yG P ops K n (listed.setIfInBounds i true) s')) l
def Jp{P:Program}{ops:Array Oper}{Q:Exit->Act->World->Prop}{K:St->Prop}{B:Bs}(hpost:∀s' a' w',K s'->kQ B s' a' w'->Q .normal a' w'):
 ∀(n:Nat) (listed:Array Bool) (s:St) (a:Act) (w:World),yG P ops K n listed s->kQ B s a w->wpAny P .any ops Q n listed a w
 |0,listed,s,a,w,h,hr=>⟨h.1,hpost _ _ _ h.2 hr⟩
 |n+1,listed,s,a,w,h,hr=>by
  obtain⟨l,h1,h2,h3⟩:=h;refine⟨fun h0=>?_,fun i hi=>?_⟩
  ·rw[h1] at h0;subst h0;cases h2
  ·rw[h1] at hi;obtain⟨o,ho,hs⟩:=h3.mem i hi;have:=iP.sound (K':=fun a' w'=>wpAny P .any ops Q n (listed.setIfInBounds i true) a' w') (Q:=Q) hs hr (fun s' a' w' hk hr'=>Jp hpost n _ s' a' w' hk hr')
   unfold wpOp;rw[ho];dsimp only
   split
   ·rename_i hw;rw[if_pos hw] at this;exact .inl this
   ·rename_i hw;rw[if_neg hw] at this;exact this
def qhK{P:Program}{B:Bs}{Q:Exit->Act->World->Prop}{nt:Nat}{t:List (Nat×Value)}{L:List aJ}{id:Nat}{l:List Oper}(T:List (Nat×Value))(L':List aJ)(hm:P.follows .mixedOrders=true)
 (h:yG P l.toArray (fun s'=>s'.nt=nt∧jS s'.t T∧s'.L=L') l.toArray.size (Array.replicate l.toArray.size false) ⟨nt,t,L⟩)(hk:At B ⟨nt,T,L'⟩ (Q .normal)):
 At B ⟨nt,t,L⟩ ((Code.region id l.toArray true).wp P Q):=fun a w hr=>by
 refine wp_region_any hm ?_;refine Jp (K:=fun s'=>s'.nt=nt∧jS s'.t T∧s'.L=L') (B:=B) (fun s' a' w' hK hrel=>?_) _ _ ⟨nt,t,L⟩ a _ h hr.drew;obtain⟨h1,h2,h3⟩:=hK;refine hk a' w' ?_;have:=hrel.sub (t:=T) fun d v hd=>h2.mem (d,v) (uu hd)
 rw[h1,h3] at this;exact this
def jg{P:Program}{ops:Array Oper}{K:St->Prop}{n:Nat}{listed:Array Bool}{s:St}(l:List Nat)(h1:Region.ready .any ops listed=l)(h2:l.isEmpty=false)
 (h:CO (fun i=>∃o,ops[i]? =some o∧aY P [1000000] ops [o] s (fun s'=>yG P ops K n (listed.setIfInBounds i true) s')) l):yG P ops K (n+1) listed s:=⟨l,h1,h2,h⟩
end Go.Via
namespace Go.Via
variable[Mo]
open Go Go.RowKit
section
variable{P:Program}{bl:List Nat}{ops:Array Oper}{K:St->Prop}{rest:List Oper}{nt:Nat}{t:List (Nat×Value)}{L:List aJ}{d:Nat}{ty:TypeId}{pos:String}{af:Array Edge}{g:Option (Nat×Bool)}{x y:Operand}
def qaI{T e:Nat}{inf:TypeInfo}{bb:Option Nat}{len cap c2:Nat}{b2:Option Nat}(hT:P.underlying T=some (.slice e))(hi:P.info? e=some inf)(hd:Nat.blt d nt=true)
 (hg:az ops ⟨some d,.call {callee:= .builtin .append,args:= #[x,y],argTypes:= #[T,T]},ty,pos,af,g⟩ t=some true)
 (hx:ev t x=some (ay bb 0 len cap))(hcap:len<=cap)(hy:ev t y=some (ay b2 0 0 c2))(h:aY P bl ops rest ⟨nt,(d,ay bb 0 len cap)::t,L⟩ K):
 aY P bl ops (⟨some d,.call {callee:= .builtin .append,args:= #[x,y],argTypes:= #[T,T]},ty,pos,af,g⟩::rest) ⟨nt,t,L⟩ K:=
 fD hd hg rfl (fun B a w hr=>by
 have hx':=hr.ev hx;have hy':=hr.ev hy;have hs:Src P inf.size T (ay b2 0 0 c2) 0 [] w:=by
  cases b2 with
  |none=>exact Src.ofNil (P:=P) w hT c2
  |some g2=>exact Src.ofSlice (P:=P) w hT ⟨g2,0,none⟩ 0 c2 [] bI (fun j u hj=>by simp at hj) (fun u hu=>by cases hu)
 have r1:=run_append_nothing (P:=P) w T T ty e inf hT hi (bb.map fun g=>⟨g,0,none⟩) len cap hcap (ay b2 0 0 c2) hs;have r2:(execOp a.eval ⟨some d,.call {callee:= .builtin .append,args:= #[x,y],argTypes:= #[T,T]},ty,pos,af,g⟩).run P w=((Builtin.append_ #[T,T] ty #[ay bb 0 len cap,ay b2 0 0 c2]).run P w).andThen fun v w=> .ok (.value v) w:=by
  simp[execOp,resolve,invoke,builtin,hx',hy']
 rw[r2];unfold ay at r1 ⊢;rw[r1];rfl) h
end
end Go.Via
namespace Go.Via
variable[Mo]
open Go Go.RowKit
def pJ(P:Program)(bl:List Nat)(ops:Array Oper)(K:St->Prop):Nat->List Nat->St->Prop
 |0,Ts,s=>Ts=[]∧K s
 |n+1,Ts,s=>CO (fun i=>∃o,ops[i]? =some o∧aY P bl ops [o] s (fun s'=>pJ P bl ops K n (Ts.filter (· !=i)) s')) (Ts.filter fun i=> !Ts.any fun j=>waitsF ops ops.size i j)
def CO.mono{Q Q':Nat->Prop}(h:∀i,Q i->Q' i):∀{l:List Nat},CO Q l->CO Q' l
 |[],_=>trivial
 |_::_,hh=>⟨h _ hh.1,CO.mono h hh.2⟩
def pJ.kc{P:Program}{bl:List Nat}{ops:Array Oper}{K:St->Prop}(hK:KC K):∀(n:Nat) (Ts:List Nat),KC (pJ P bl ops K n Ts)
 |0,Ts=>fun s1 s2 he h=>⟨h.1,hK s1 s2 he h.2⟩
 |n+1,Ts=>fun s1 s2 he h=>CO.mono (fun i ⟨o,h1,h2⟩=>⟨o,h1,aY.kc (pJ.kc hK n _) [o] s1 s2 he h2⟩) h
def pJ.mono{P:Program}{bl:List Nat}{ops:Array Oper}{K K':St->Prop}(hK:∀s,K s->K' s):∀(n:Nat) (Ts:List Nat) (s:St),pJ P bl ops K n Ts s->pJ P bl ops K' n Ts s
 |0,Ts,s,h=>⟨h.1,hK s h.2⟩
 |n+1,Ts,s,h=>CO.mono (fun i ⟨o,h1,h2⟩=>⟨o,h1,h2.mono (fun s'=>pJ.mono hK n _ s')⟩) h
def aY.append{P:Program}{bl:List Nat}{ops:Array Oper}{K:St->Prop}:∀{l l2:List Oper} {s:St},aY P bl ops l s (fun s'=>aY P bl ops l2 s' K)->aY P bl ops (l++l2) s K
 |[],_,_,h=>h
 |_::l,l2,_,h=>iP.mono (fun _ h1=>aY.append (l:=l) h1) h
structure VZ(ops:Array Oper)(l:List Nat):Prop where
 lt:∀i∈l,i<ops.size
 nw:l.Pairwise (fun p i=>jC ops p i=true)
 self:∀i∈l,jC ops i i=true
 ed:∀i∈l,qX ops i=true
 nodup:l.Nodup
def VZ.sub{ops:Array Oper}{l l':List Nat}(h:VZ ops l)(hs:l'.Sublist l):VZ ops l':=
 ⟨fun i hi=>h.lt i (hs.subset hi),h.nw.sublist hs,fun i hi=>h.self i (hs.subset hi),fun i hi=>h.ed i (hs.subset hi),h.nodup.sublist hs⟩
def NR{P:Program}{bl:List Nat}{ops:Array Oper}{Q:Exit->Act->World->Prop}{K:St->Prop}{B:Bs}(hK:KC K)(hpost:∀s' a' w',K s'->kQ B s' a' w'->Q .normal a' w'):
 ∀(n:Nat) (l Ts:List Nat) (listed:Array Bool) (s:St) (a:Act) (w:World),(l++Ts).length=n->VZ ops (l++Ts)->l.Pairwise (fun p i=>sK bl ops p i=true)->(∀p∈l,∀i∈Ts,sK bl ops p i=true)->listed.size=ops.size->
  (∀j,j<ops.size->(listed.getD j true=false↔j∈l++Ts))->Qg ops listed->aY P bl ops (l.map fun i=>ops.getD i default) s (pJ P bl ops K Ts.length Ts)->kQ B s a w->
  wpAny P .any ops Q n listed a w:=by
 intro n
 induction n with
 |zero=>
  intro l Ts listed s a w hn ho hok hokT hsz hl hc hr h;have h0:l++Ts=[]:=List.eq_nil_of_length_eq_zero hn;obtain⟨rfl,rfl⟩:=List.append_eq_nil_iff.1 h0;refine⟨?_,hpost _ _ _ hr.2 h⟩;rcases hh:Region.ready .any ops listed with _|⟨i,r⟩
  ·rfl
  ·exfalso
   obtain⟨h1,o,ho',_⟩:=mem_ready.1 (show i∈Region.ready .any ops listed by rw[hh];simp);have:=(hl i (Array.getElem?_eq_some_iff.1 ho').1).1 h1;simp at this
 |succ n ih=>
  intro l Ts listed s a w hn ho hok hokT hsz hl hc hr h;refine⟨fun h0=>?_,fun i hi=>?_⟩
  ·exfalso
   obtain⟨i0,rest,he⟩:∃i0 rest,l++Ts=i0::rest:=by
    cases hlt:l++Ts with
    |nil=>rw[hlt] at hn;cases hn
    |cons x y=>exact⟨x,y,rfl⟩
   rw[he] at ho hl;have hi0:=ho.lt i0 bI;have:i0∈Region.ready .any ops listed:=by
    refine mem_ready.2 ⟨(hl i0 hi0).2 bI,ops[i0],Array.getElem?_eq_getElem hi0,fun e hee hb=>?_⟩
    rcases hx:listed.getD e.on false with _|_
    ·exfalso
     have hself:=ho.self i0 bI;have hnw:∀j,j∈rest->jC ops i0 j=true:=fun j hj=>(List.pairwise_cons.1 ho.nw).1 j hj
     have key:∀j,jC ops i0 j=true->e.on≠j:=fun j hj e'=>by
      unfold jC at hj;rw[Array.getElem?_eq_getElem hi0] at hj;have:=(Array.all_eq_true'.1 hj) e hee;simp[hb,e'] at this
     rcases Nat.lt_or_ge e.on ops.size with hlt|hge
     ·have hun:listed.getD e.on true=false:=by
       have:e.on<listed.size:=qcn;simp[this] at hx ⊢;exact hx
      have:=(hl e.on hlt).1 hun;rcases List.mem_cons.1 this with h1|h1
      ·exact key i0 hself h1
      ·exact key e.on (hnw _ h1) rfl
     ·have hj:=ho.ed i0 bI;unfold qX at hj;rw[Array.getElem?_eq_getElem hi0] at hj;have:=(Array.all_eq_true'.1 hj) e hee;simp[hb] at this;omega
    ·rfl
   rw[h0] at this;cases this
  ·obtain⟨hun,oi,hoi,hall⟩:=mem_ready.1 hi;have hilt:=(Array.getElem?_eq_some_iff.1 hoi).1;have hil:i∈l++Ts:=(hl i hilt).1 hun;have hoid:ops.getD i default=oi:=by simp[hoi]
   have hnowait:∀p,p∈l++Ts->waitsF ops ops.size i p=false:=fun p hp=>by
    rcases hw:waitsF ops ops.size i p with _|_
    ·rfl
    ·exfalso
     have h1:=qW hc hw (fun o ho' e he hb=>qco);have h2:=(hl p (ho.lt p hp)).2 hp;rw[Qh h2] at h1;cases h1
   have pass:∀p,p∈l++Ts->sK bl ops p i=true->∃op,ops[p]? =some op∧jo op=true∧vP bl oi=true∧kJ op=false∧op.apart ops oi=true:=by
    intro p hp hpo;unfold sK at hpo;rw[hnowait p hp,Bool.false_or,hoi] at hpo;cases hop:ops[p]? with
    |none=>rw[hop] at hpo;cases hpo
    |some op=>
     rw[hop] at hpo;simp only[Bool.and_eq_true,Bool.not_eq_true'] at hpo;exact⟨op,rfl,hpo.1.1.1,hpo.1.1.2,hpo.1.2,hpo.2⟩
   have front:∀(pre post:List Nat) (K':St->Prop),KC K'->(∀p∈pre,p∈l++Ts∧sK bl ops p i=true)->aY P bl ops ((pre++i::post).map fun i=>ops.getD i default) s K'->
    iP P bl ops oi s (fun s'=>aY P bl ops ((pre++post).map fun i=>ops.getD i default) s' K'):=by
    intro pre post K' hK' hpre hr1;rw[List.map_append,List.map_cons,hoid] at hr1;rw[List.map_append];cases hpz:pre with
    |nil=>rw[hpz] at hr1;exact hr1
    |cons p0 pre0=>
     obtain⟨hp1,hp2⟩:=hpre p0 (by rw[hpz];simp);obtain⟨op0,_,_,hmi,_,_⟩:=pass p0 hp1 hp2;rw[<-hpz];refine aY.front hK' hmi ?_ hr1;intro q hq;obtain⟨p,hp,rfl⟩:=List.mem_map.1 hq;obtain⟨hp1,hp2⟩:=hpre p hp;obtain⟨op,hop,h1,h2,h3,h4⟩:=pass p hp1 hp2;have:ops.getD p default=op:=by simp[hop]
     rw[this];exact⟨h1,h3,h4⟩
   obtain⟨l',Ts',hsub,hlen,hmem,hsl,hst,hstep⟩:∃l' Ts':List Nat,(l'++Ts').Sublist (l++Ts)∧(l'++Ts').length=n∧(∀j,j∈l'++Ts'↔j∈l++Ts∧j≠i)∧l'.Sublist l∧(∀j∈Ts',j∈Ts)∧
    iP P bl ops oi s (fun s'=>aY P bl ops (l'.map fun i=>ops.getD i default) s' (pJ P bl ops K Ts'.length Ts')):=by
    have hnd:=ho.nodup
    by_cases hi1:i∈l
    ·obtain⟨pre,post,rfl⟩:=List.append_of_mem hi1;refine⟨pre++post,Ts,?_,?_,fun j=>?_,List.Sublist.append (List.Sublist.refl _) (List.sublist_cons_self _ _),fun j hj=>hj,?_⟩
     ·exact List.Sublist.append (List.Sublist.append (List.Sublist.refl _) (List.sublist_cons_self _ _)) (List.Sublist.refl _)
     ·simp at hn ⊢;omega
     ·have h1:i∉pre++post++Ts:=by
       intro hm;rw[show pre++i::post++Ts=pre++i::(post++Ts) by simp] at hnd;have h2:=List.nodup_append.1 hnd;rw[List.append_assoc] at hm;rcases List.mem_append.1 hm with h3|h3
       ·exact h2.2.2 i h3 i bI rfl
       ·exact(List.nodup_cons.1 h2.2.1).1 h3
      constructor
      ·intro hj;refine⟨?_,fun e=>h1 (e▸hj)⟩
       simp at hj ⊢;rcases hj with h|h|h<;>simp[h]
      ·rintro⟨hj,hne⟩;simp at hj ⊢;rcases hj with h|h|h|h
       ·simp[h]
       ·exact absurd h hne
       ·simp[h]
       ·simp[h]
     ·exact front pre post _ (pJ.kc hK _ _) (fun p hp=>⟨JI,(List.pairwise_append.1 hok).2.2 p hp i bI⟩) hr
    ·have hi2:i∈Ts:=by
      rcases List.mem_append.1 hil with h1|h1
      ·exact absurd h1 hi1
      ·exact h1
     have hndT:Ts.Nodup:=(List.nodup_append.1 hnd).2.1;obtain⟨pre,post,rfl⟩:=List.append_of_mem hi2;have hnot:i∉pre∧i∉post:=by
      have h2:=List.nodup_append.1 hndT;exact⟨fun h3=>h2.2.2 i h3 i bI rfl,(List.nodup_cons.1 h2.2.1).1⟩
     have hfil:(pre++i::post).filter (· !=i)=pre++post:=by
      rw[List.filter_append,List.filter_cons];simp only[bne_self_eq_false,Bool.false_eq_true,if_false];rw[List.filter_eq_self.2 (fun j hj=>by have:j≠i:=fun e=>hnot.1 (e▸hj);simpa using this),List.filter_eq_self.2 (fun j hj=>by have:j≠i:=fun e=>hnot.2 (e▸hj);simpa using this)]
     refine⟨l,pre++post,?_,?_,fun j=>?_,List.Sublist.refl _,fun j hj=>?_,?_⟩
     ·exact List.Sublist.append (List.Sublist.refl _) (List.Sublist.append (List.Sublist.refl _) (List.sublist_cons_self _ _))
     ·simp at hn ⊢;omega
     ·constructor
      ·intro hj;refine⟨?_,fun e=>?_⟩
       ·simp at hj ⊢;rcases hj with h|h|h<;>simp[h]
       ·subst e;simp at hj;rcases hj with h|h|h
        ·exact hi1 h
        ·exact hnot.1 h
        ·exact hnot.2 h
      ·rintro⟨hj,hne⟩;simp at hj ⊢;rcases hj with h|h|h|h
       ·simp[h]
       ·simp[h]
       ·exact absurd h hne
       ·simp[h]
     ·simp at hj ⊢;rcases hj with h|h<;>simp[h]
     ·have hr2:aY P bl ops ((l++[i]).map fun i=>ops.getD i default) s (pJ P bl ops K (pre++post).length (pre++post)):=by
       rw[List.map_append];refine aY.append (hr.mono fun s' hs'=>?_);have hlen:(pre++i::post).length=(pre++post).length+1:=CX
       rw[hlen] at hs';have hs2:CO _ _:=hs';have hmi:i∈(pre++i::post).filter (fun i'=> !(pre++i::post).any fun j=>waitsF ops ops.size i' j):=by
        refine List.mem_filter.2 ⟨bI,?_⟩;rw[Bool.not_eq_true',Bool.eq_false_iff];intro h1;obtain⟨j,hj,hw⟩:=List.any_eq_true.1 h1;rw[hnowait j (by simp at hj ⊢;rcases hj with h|h|h<;>simp[h])] at hw;cases hw
       obtain⟨o,ho1,ho2⟩:=hs2.mem i hmi;rw[hoi] at ho1;cases ho1;rw[hfil] at ho2;rw[List.map_singleton,hoid];exact ho2
      have:=front l [] _ (pJ.kc hK _ _) (fun p hp=>⟨JI,hokT p hp i bI⟩) hr2
      simpa using this
   unfold wpOp;rw[hoi];dsimp only;have hS:=iP.sound (K':=wpAny P .any ops Q n (listed.setIfInBounds i true)) (Q:=Q) hstep h (fun s' a' w' hk hrel=>by
 refine ih l' Ts' (listed.setIfInBounds i true) s' a' w' hlen (ho.sub hsub) (hok.sublist hsl) (fun p hp j hj=>hokT p (hsl.subset hp) j (hst j hj)) (by simpa using hsz) ?_ ?_ hk hrel
 ·intro j hj;rw[hmem j]
  by_cases hij:i=j
  ·subst hij;have:i<listed.size:=qcp
   simp[this]
  ·rw[getD_set_ne true hij,hl j hj];simp[Ne.symm hij]
 ·intro j hj o hoj e he hb
  by_cases hij:i=j
  ·subst hij;rw[hoi] at hoj;cases hoj;exact getD_set_true (hall e he hb)
  ·rw[getD_set_ne false hij] at hj;exact getD_set_true (hc j hj o hoj e he hb))
   split
   ·rename_i hw;rw[if_pos hw] at hS;exact .inl hS
   ·rename_i hw;rw[if_neg hw] at hS;exact hS
def J7(bl:List Nat)(ops:Array Oper)(perm T:List Nat):Bool:=
 decide ((perm++T).length=ops.size)&&(perm++T).all (fun i=>decide (i<ops.size))&&(List.range ops.size).all (fun i=>(perm++T).contains i)&&
 iQ (sK bl ops) perm&&perm.all (fun p=>T.all fun i=>sK bl ops p i)&&iQ (jC ops) (perm++T)&&(perm++T).all (fun i=>jC ops i i)&&(perm++T).all (fun i=>qX ops i)&&iQ (fun i j=>i !=j) (perm++T)
def qaJ{P:Program}{bl:List Nat}{id:Nat}{ops:Array Oper}{Q:Exit->Act->World->Prop}{s:St}{B:Bs}{w:World}{a:Act}(perm T:List Nat){l:List Oper}{K:St->Prop}
 (hm:P.follows .mixedOrders=true)(hc:J7 bl ops perm T=true)(hl:perm.map (fun i=>ops.getD i default)=l)(hr:aY P bl ops l s (pJ P bl ops K T.length T))
 (hpost:∀s' a' w',K s'->kQ B s' a' w'->Q .normal a' w')(h:kQ B s a w):(Code.region id ops true).wp P Q a w:=by
 simp only[J7,Bool.and_eq_true,decide_eq_true_eq] at hc;obtain⟨⟨⟨⟨⟨⟨⟨⟨hlen,hlt⟩,hall⟩,hpo⟩,hpt⟩,hnw⟩,hself⟩,hed⟩,hnd⟩:=hc;have hOrd:VZ ops (perm++T):=⟨fun i hi=>of_decide_eq_true (List.all_eq_true.1 hlt i hi),gZ hnw,fun i hi=>List.all_eq_true.1 hself i hi,fun i hi=>List.all_eq_true.1 hed i hi,(gZ hnd).imp (fun h=>zI)⟩
 subst hl;have hK:KC (fun s'=>∃s0,DU s0 s'∧K s0):=fun s1 s2 he ⟨s0,h0,h1⟩=>⟨s0,h0.trans he,h1⟩
 refine wp_region_any hm ?_;refine NR hK (fun s' a' w' ⟨s0,he,hk⟩ hrel=>hpost s0 a' w' hk (he.symm.rel hrel)) ops.size perm T _ s a _ hlen hOrd (gZ hpo) (fun p hp i hi=>List.all_eq_true.1 (List.all_eq_true.1 hpt p hp) i hi) (by simp) ?_ ?_
  (hr.mono (fun s' hs'=>pJ.mono (fun s1 h1=>⟨s1,DU.refl _,h1⟩) _ _ s' hs')) h.drew
 ·intro j hj;have:j∈perm++T:=by
   have:=List.all_eq_true.1 hall j (List.mem_range.2 hj);exact List.contains_iff_mem.1 this
  simp only[this,iff_true];simp[hj]
 ·intro j hj
  exfalso
  rcases Nat.lt_or_ge j ops.size with h1|h1
  ·simp[h1] at hj
  ·simp[h1] at hj
def qK{P:Program}{B:Bs}{Q:Exit->Act->World->Prop}{s:St}{id:Nat}{l l':List Oper}(bl perm T:List Nat)(hm:P.follows .mixedOrders=true)(hc:J7 bl l.toArray perm T=true)(hl:perm.map (fun i=>l.toArray.getD i default)=l')
 (h:aY P bl l.toArray l' s (pJ P bl l.toArray (fun s'=>At B s' (Q .normal)) T.length T)):At B s ((Code.region id l.toArray true).wp P Q):=fun a w hr=>
 qaJ (K:=fun s'=>At B s' (Q .normal)) perm T hm hc hl h (fun s' a' w' h1 h2=>h1 a' w' h2) hr
def bU{P:Program}{bl:List Nat}{ops:Array Oper}{K:St->Prop}{n:Nat}{Ts:List Nat}{s:St}(l:List Nat)(hl:(Ts.filter fun i=> !Ts.any fun j=>waitsF ops ops.size i j)=l)
 (h:CO (fun i=>∃o,ops[i]? =some o∧aY P bl ops [o] s (fun s'=>pJ P bl ops K n (Ts.filter (· !=i)) s')) l):pJ P bl ops K (n+1) Ts s:=by
 subst hl;exact h
end Go.Via
namespace Go.Via
def GN{P:Program}{bl:List Nat}{ops:Array Oper}{K:St->Prop}{Ts:List Nat}{s:St}(h:Ts=[])(hk:K s):pJ P bl ops K 0 Ts s:=⟨h,hk⟩
end Go.Via
namespace Go.Via
open Go
theorem OA{z:Int}(h:(!decide (nb z.natAbs<=8))=true):(if-9223372036854775808<=z∧z<=9223372036854775807 then z else 0)=0∧decide (-9223372036854775808<=z∧z<=9223372036854775807)=false:=by
 have h1:¬nb z.natAbs<=8:=zI;have h2:¬(-9223372036854775808<=z∧z<=9223372036854775807):=fun c=>h1 (nV ae)
 exact⟨if_neg h2,decide_eq_false h2⟩
theorem BR{z:Int}(h: -9223372036854775808<=z∧z<=9223372036854775807):(if-9223372036854775808<=z∧z<=9223372036854775807 then z else 0)=z∧decide (-9223372036854775808<=z∧z<=9223372036854775807)=true:=⟨if_pos h,decide_eq_true h⟩
theorem ES{z:Int}(h:¬(-9223372036854775808<=z∧z<=9223372036854775807)):(if-9223372036854775808<=z∧z<=9223372036854775807 then z else 0)=0∧decide (-9223372036854775808<=z∧z<=9223372036854775807)=false:=⟨if_neg h,decide_eq_false h⟩
def nb8{z:Int}(h:(!decide (nb z.natAbs<=8))=false):nb z.natAbs<=8:=zI
def qo(b:Bool)(s:ByteArray):Bool:=(s==⟨#[]⟩&&b)||s.data.toList.head? ==some 0
def qoN{s:ByteArray}(h:(s==⟨#[]⟩)=false):∃x l,s.data.toList=x::l:=by
 cases hl:s.data.toList with
 |nil=>
  exfalso
  rw[yD] at h;have:s=⟨#[]⟩:=ByteArray.ext Om;simp[this] at h
 |cons x l=>exact⟨x,l,rfl⟩
def qde{s:ByteArray}(h:(s==⟨#[]⟩)=true):s=⟨#[]⟩:=by rw[yD] at h;simpa using h
def TP(a b:Nat):Nat.gcd b (a%b)=Nat.gcd a b:=by rw[Nat.gcd_comm a b,Nat.gcd_rec b a,Nat.gcd_comm]
def TQ{a b:Int}(h:(a !=b)=false):a=b:=zI
def YC{x g:Nat}(h:x=g):(if false=true then-(x:Int) else(x:Int))=(g:Int):=by subst h;rfl
theorem qmf{b:Bool}{s:ByteArray}(he:s=⟨#[]⟩)(hb:b=true):qo b s=true:=by subst he;subst hb;unfold qo;rw[GL];rfl
theorem qmg{b:Bool}{s:ByteArray}(he:s=⟨#[]⟩)(hb:b=false):¬qo b s=true:=by subst he;subst hb;unfold qo;simp
theorem qmh{b:Bool}{s:ByteArray}{x:UInt8}{l:List UInt8}(he:s.data.toList=x::l)(h:(((x.toNat:Nat):Int)==0)=true):qo b s=true:=by
 unfold qo;rw[he];have:x=0:=UInt8.toNat_inj.1 (by have:=eq_of_beq h;show x.toNat=0;omega);subst this;simp
theorem qmi{b:Bool}{s:ByteArray}{x:UInt8}{l:List UInt8}(h0:(s==⟨#[]⟩)=false)(he:s.data.toList=x::l)(h:(((x.toNat:Nat):Int)==0)=false):¬qo b s=true:=by
 unfold qo;rw[he,h0];have:x≠0:=fun e=>by subst e;exact absurd h ax
 simp[this]
end Go.Via
