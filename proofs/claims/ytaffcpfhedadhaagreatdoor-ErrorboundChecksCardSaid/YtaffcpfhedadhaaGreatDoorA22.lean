/-
  Part 22 (chapter 32): lemmas, walks. Each theorem states its own conditions.
-/
import GoSem.Core.World
import Derived.MapKept
import Derived.WalkKit
import Derived.WalkSpells
import Derived.WalkLawsBesides
import Derived.Deep.LoopGhost
import Derived.Deep.AppendSrc
import Derived.Laws.BytesArg
import Derived.Laws.CopyRow
import Derived.Laws.AppendOwn
import Derived.Deep.Upon
import Derived.Test.YtaffcpfhedadhaaGreatDoorProg
import Derived.Shelf.Strings.Builder1
import Derived.Shelf.Strings.Builder2
import Derived.Shelf.Small.Utf8
import Derived.Shelf.Small.Bits
import Derived.Shelf.Small.Strs
import Derived.Shelf.Small.Wraps
import Derived.Shelf.Strings.BuilderF
import Derived.Shelf.Strconv.Itoa0
import Derived.Shelf.Strings.Search1
import Derived.Shelf.Strings.Prefix
import Derived.Shelf.Strings.Runes
import Derived.Shelf.Strings.AsciiSet
import Derived.Shelf.Bits.Mul64
import Derived.Shelf.Strings.Repeat
import Derived.Shelf.Unicode.DecodeSlow
import Derived.Laws.Externs
import Derived.Lib.ItoaNum
import Derived.Lib.Repeat
import Derived.Test.YtaffcpfhedadhaaGreatDoorA16
set_option linter.all false
set_option maxRecDepth 20000
set_option maxHeartbeats 20000000
namespace Go.Via
open Go
def Xf(k:Nat):List UInt8:=UInt8.ofNat (2^(k%8))::List.replicate (k/8) 0
theorem qew(k:Nat):mr (Xf k)=2^k:=by
 unfold Xf mr;have h8:2^(k%8)<256:=by
  have:2^(k%8)<=2^7:=Nat.pow_le_pow_right ae ae;omega
 rw[List.reverse_cons,List.reverse_replicate,List.map_append,List.map_replicate,ru];have e0:val 256 (List.replicate (k/8) (UInt8.toNat 0))=0:=EW 256 (k/8);rw[e0,List.length_replicate];simp only[List.map_cons,List.map_nil,sW];have e1:(UInt8.ofNat (2^(k%8))).toNat=2^(k%8):=Et
 rw[e1];have e2:val 256 []=0:=rfl;rw[e2,Nat.mul_zero,Nat.add_zero,Nat.zero_add];have e3:(256:Nat)=2^8:=rfl;rw[e3,<-Nat.pow_mul,<-Nat.pow_add]
 congr 1
 omega
def qcm(k:Nat):lm (Xf k)=bH (2^k):=by
 rw[<-qew k];show lm (Xf k)=lm (uI (mr (Xf k)));rw[IP];unfold Xf;rw[List.head?_cons];intro h
 injection h with h
 have h8:2^(k%8)<256:=by
  have:2^(k%8)<=2^7:=Nat.pow_le_pow_right ae ae;omega
 have:=congrArg UInt8.toNat h;simp at this;have hp:0<2^(k%8):=Nat.pow_pos ae;omega
def AX(n:Nat):Nat:=n/256^(nb n-1)%256
def kR(n:Nat):Nat:=(8*(nb n-1)+Lib.bitLen (AX n)+1)/2
def Um(n:Nat):AX n<256:=Nat.mod_lt _ ae
def Xg(n:Nat):Lib.bitLen (AX n)<=8:=Lib.bitLen_le _ 8 ae (Um n)
def ZG{n:Nat}(h0:n≠0):n<2^kR n*2^kR n:=by
 have hp:=Fh h0;have hn:n<256^nb n:=kw n;have e1:n/256^(nb n-1)<256:=by
  rw[Nat.div_lt_iff_lt_mul (Nat.pow_pos ae),<-Nat.pow_succ'];have:nb n-1+1=nb n:=ae
  rw[Nat.succ_eq_add_one,this];exact hn
 have e2:AX n=n/256^(nb n-1):=Nat.mod_eq_of_lt e1;have e3:AX n<2^Lib.bitLen (AX n):=by
  by_cases h:AX n=0
  ·rw[h];exact Nat.pow_pos ae
  ·exact(yc (Nat.lt_trans (Um n) ae) h).2.2
 have e4:n<(AX n+1)*256^(nb n-1):=by
  rw[e2];rw[Nat.mul_comm];exact Nat.lt_mul_div_succ n (Nat.pow_pos ae)
 have e5:(AX n+1)*256^(nb n-1)<=2^Lib.bitLen (AX n)*256^(nb n-1):=Nat.mul_le_mul_right _ e3;have e6:(256:Nat)=2^8:=rfl;have e7:2^Lib.bitLen (AX n)*256^(nb n-1)=2^(Lib.bitLen (AX n)+8*(nb n-1)):=by
  rw[e6,<-Nat.pow_mul,<-Nat.pow_add]
 have e8:2^(Lib.bitLen (AX n)+8*(nb n-1))<=2^(kR n+kR n):=Nat.pow_le_pow_right ae (by unfold kR;omega);rw[<-Nat.pow_add];omega
def qoL(k:Nat):nb (2^k)<=k/8+1:=by
 refine oh ?_;have e6:(256:Nat)=2^8:=rfl;rw[e6,<-Nat.pow_mul];exact Nat.pow_lt_pow_right ae ae
def Xh(n:Nat):kR n/8<=nb n:=by
 have:=Xg n;unfold kR;omega
def Xi(n x:Nat):Prop:=0<x∧n<(x+1)*(x+1)∧nb x<=nb n+1
def Xj{n:Nat}(h0:n≠0):Xi n (2^kR n):=by
 refine⟨Nat.pow_pos ae,?_,Nat.le_trans (qoL _) (by have:=Xh n;omega)⟩;have:=ZG h0;have h:2^kR n*2^kR n<=(2^kR n+1)*(2^kR n+1):=Nat.mul_le_mul ae ae;omega
def ZH{n x:Nat}(h0:n≠0)(h:Xi n x)(hlt:(x+n/x)/2<x):Xi n ((x+n/x)/2):=
 ⟨Zk ae h.1,qek h.1,Nat.le_trans (gu ae) h.2.2⟩
theorem qex{n x:Nat}(h:Xi n x)(hge:¬(x+n/x)/2<x):bU n=x:=Zj h.1 h.2.1 ae
theorem qoM:bH 2=⟨#[2]⟩:=by
 have:=qcm 1;rw[show(2:Nat)^1=2 from rfl] at this;rw[<-this];rfl
theorem Xk(c:Nat):(⟨(Lib.repeatL (⟨#[0]⟩:ByteArray).data.toList c).toArray⟩:ByteArray)=lm (List.replicate c 0):=by
 have:=Lib.repeatL_replicate 0 1 c;rw[Nat.mul_one] at this;show lm (Lib.repeatL [0] c)=_;rw[show([0]:List UInt8)=List.replicate 1 0 from rfl,this]
def qoN{s:Int}(k:Nat)(hs:s=(k:Int))(hk:k<8):IntKind.u8.wrap (1*2^(min s.toNat IntKind.u8.bits))=((2^k:Nat):Int):=by
 subst hs;have:k=0∨k=1∨k=2∨k=3∨k=4∨k=5∨k=6∨k=7:=ae
 rcases this with rfl|rfl|rfl|rfl|rfl|rfl|rfl|rfl<;>rfl
def qey{n:Nat}(h:(bH n==⟨#[]⟩)=true):n=0:=by rw[nT] at h;simpa using h
def ZI{n:Nat}(h:(bH n==⟨#[]⟩)=false):n≠0:=by rw[nT] at h;simpa using h
end Go.Via
namespace Go.Proofs.YtaffcpfhedadhaaGreatDoor
open Go Go.Via
def Xl(x:Nat)(h:x<256:=by omega):aG Tryz.prog 230 #[.int .u8 x] (.int .i64 (Lib.bitLen x:Nat)):=
 BQ ak fun w=>Tryz.bits_Len8 (x:Int) w ae ae
def Ji(c:Nat)(h:c<=100000000:=by omega):aG Tryz.prog 231 #[.string ⟨#[0]⟩,.int .i64 c] (.string (lm (List.replicate c 0))):=by
 refine⟨ak,fun w=>?_⟩
 have:=Tryz.strings_Repeat ⟨#[0]⟩ c w ae (by show 1*c<=_;omega);rw[Xk] at this;exact this.mono fun e w' ⟨h1,h2⟩=>⟨h1,h2.os,h2.tape,h2.output,h2.size,h2.block,fun m=>(show False from m).elim⟩
end Go.Proofs.YtaffcpfhedadhaaGreatDoor
