/-
  Part 20 (chapter 32): lemmas, walks. Each theorem states its own conditions.
-/
import GoSem.Core.World
import Derived.MapKept
import Derived.WalkKit
import Derived.WalkSpells
import Derived.WalkLawsBesides
import Derived.Deep.LoopGhost
import Derived.Deep.AppendSrc
import Derived.Laws.BytesArg
import Derived.Laws.CopyRow
import Derived.Laws.AppendOwn
import Derived.Test.YtaffcpfhedadhaaGreatDoorProg
import Derived.Shelf.Strings.Builder1
import Derived.Shelf.Strings.Builder2
import Derived.Shelf.Small.Utf8
import Derived.Shelf.Small.Bits
import Derived.Shelf.Small.Strs
import Derived.Shelf.Small.Wraps
import Derived.Shelf.Strings.BuilderF
import Derived.Shelf.Strconv.Itoa0
import Derived.Shelf.Strings.Search1
import Derived.Shelf.Strings.Prefix
import Derived.Shelf.Strings.Runes
import Derived.Shelf.Strings.AsciiSet
import Derived.Shelf.Bits.Mul64
import Derived.Shelf.Strings.Repeat
import Derived.Shelf.Unicode.DecodeSlow
import Derived.Laws.Externs
import Derived.Lib.ItoaNum
import Derived.Deep.Upon
import Derived.Lib.Repeat
import Derived.Test.YtaffcpfhedadhaaGreatDoorA17
import Derived.Test.YtaffcpfhedadhaaGreatDoorA16
set_option linter.all false
set_option maxRecDepth 20000
set_option maxHeartbeats 20000000
section
variable{P Q:Prop}{T:Type}{R:T->Prop}
def qd6(h:P:=by rw[uG _ _ q.den_nz,uG _ _ p.den_nz];exact h):=h
def qkG(h:P:=by rw[Int.natAbs_mul,Int.natAbs_mul,Int.natAbs_natCast,Int.natAbs_natCast];exact hle):=h
def Zc(h:P:=by rcases lI q with h|h|h<;>simp[h.2]):=h
def qd7(h:P:=by rcases FB p q with h|h|h<;>simp[h.2]):=h
def qd8(h:P:=by cases c<;>cases d<;>simp<;>omega):=h
def eX(h:P:=by decide+kernel):=h
def qkH(h:P:=by rcases h with h|h;exact absurd h.1 h0;exact h.2):=h
end
namespace Go.Via
open Go
theorem gu(i:Nat):0<256^i:=Nat.pow_pos ae
def mD(n:Nat):n%256<256:=Nat.mod_lt _ ae
def Ux(X Y i:Nat):Nat:=(X%256^i+Y%256^i)/256^i+X/256^i%256+Y/256^i%256
def yR(X Y i:Nat):Nat:=(X%256^i+Y%256^i)/256^i
def yS(X Y i:Nat):yR X Y i<=1:=by
 unfold yR;have h1:=Nat.mod_lt X (gu i);have h2:=Nat.mod_lt Y (gu i);have:(X%256^i+Y%256^i)/256^i<2:=by rw[Nat.div_lt_iff_lt_mul (gu i)];omega
 omega
theorem qbq(X Y:Nat):yR X Y 0=0:=by simp[yR,Nat.mod_one]
theorem QJ(X Y i:Nat):Ux X Y i=yR X Y i+X/256^i%256+Y/256^i%256:=rfl
def BX(X Y i:Nat):Ux X Y i<512:=by
 have:=yS X Y i;have h1:=mD (X/256^i);have h2:=mD (Y/256^i);rw[QJ];omega
theorem WL(X Y i:Nat):Ux X Y i/256=yR X Y (i+1):=by
 show _/256=_;unfold Ux yR;rw[Nat.pow_succ,Nat.mod_mul,Nat.mod_mul,<-Nat.div_div_eq_div_mul]
 congr 1
 have e:X%256^i+256^i*(X/256^i%256)+(Y%256^i+256^i*(Y/256^i%256))=(X%256^i+Y%256^i)+256^i*(X/256^i%256+Y/256^i%256):=(by rw[Nat.mul_add];omega);rw[e,Nat.add_mul_div_left _ _ (gu i)];omega
theorem qd9(X Y i:Nat):Ux X Y i%256=(X+Y)/256^i%256:=by
 show _%256=_;have e:X+Y=(X%256^i+Y%256^i)+256^i*(X/256^i+Y/256^i):=by
  have h1:=Nat.mod_add_div X (256^i);have h2:=Nat.mod_add_div Y (256^i);rw[Nat.mul_add];omega
 conv=>rhs;rw[e]
 rw[Nat.add_mul_div_left _ _ (gu i)];unfold Ux
 generalize(X%256^i+Y%256^i)/256^i=c
 generalize X/256^i=p
 generalize Y/256^i=q
 rw[Nat.add_assoc,Nat.add_mod,<-Nat.add_mod p q,<-Nat.add_mod]
def yT(m n i:Nat):Nat:=if m%256^i<n%256^i then 1 else 0
theorem qbr(m n:Nat):yT m n 0=0:=by simp[yT,Nat.mod_one]
def QK(m n i:Nat):yT m n i<=1:=by unfold yT;split<;>omega
def Zd{m n i:Nat}(h:n<=m):(m-n)/256^i+n/256^i+yT m n i=m/256^i:=by
 have h1:=Nat.mod_add_div m (256^i);have h2:=Nat.mod_add_div n (256^i);have h3:=Nat.mod_lt m (gu i);have h4:=Nat.mod_lt n (gu i);have hp:=gu i
 generalize hP:256^i=P at*
 generalize m/P=M at*
 generalize n/P=N at*
 unfold yT;exact qkw
theorem O5(m n i:Nat):yT m n (i+1)=if m/256^i%256<n/256^i%256+yT m n i then 1 else 0:=by
 unfold yT;rw[Nat.pow_succ,Nat.mod_mul,Nat.mod_mul];have h3:=Nat.mod_lt m (gu i);have h4:=Nat.mod_lt n (gu i)
 generalize m/256^i%256=x
 generalize n/256^i%256=y
 generalize hP:256^i=P at*
 exact qdD
def qiI{m n i:Nat}(h:n<=m)(hd:m/256^i%256<n/256^i%256+yT m n i):m/256^i%256+256=(m-n)/256^i%256+n/256^i%256+yT m n i∧yT m n (i+1)=1:=by
 refine⟨?_,by rw[O5,if_pos hd]⟩;have h1:=Zd (i:=i) h;have h2:=QK m n i;omega
def qiJ{m n i:Nat}(h:n<=m)(hd:¬m/256^i%256<n/256^i%256+yT m n i):m/256^i%256=(m-n)/256^i%256+n/256^i%256+yT m n i∧yT m n (i+1)=0:=by
 refine⟨?_,by rw[O5,if_neg hd]⟩;have h1:=Zd (i:=i) h;have h2:=QK m n i;omega
theorem xZ{Y i:Nat}(h:nb Y<=i):Y/256^i%256=0:=by
 rw[Nat.div_eq_of_lt (Nat.lt_of_lt_of_le (kH Y) (gX h))]
def qea(a b i:Nat)(ha:nb a<=i)(hb:nb b<=i)(hc:yR a b i=0):a+b<256^i:=by
 unfold yR at hc;rw[Nat.mod_eq_of_lt (Nat.lt_of_lt_of_le (kH a) (gX ha)),Nat.mod_eq_of_lt (Nat.lt_of_lt_of_le (kH b) (gX hb))] at hc;exact(Nat.div_eq_zero_iff_lt (gu i)).1 hc
def qbs(a b i:Nat)(h:0<yR a b i)(ha:nb a<=i)(hb:nb b<=i):i<=max (nb a) (nb b):=by
 rcases Nat.lt_or_ge (max (nb a) (nb b)) i with c|c
 ·exfalso
  have h1:a<256^(i-1):=Nat.lt_of_lt_of_le (kH a) (gX ae);have h2:b<256^(i-1):=Nat.lt_of_lt_of_le (kH b) (gX ae);have h3:256^i=256^(i-1)*256:=(by rw[<-Nat.pow_succ,show(i-1).succ=i by omega]);unfold yR at h;rw[Nat.mod_eq_of_lt ae,Nat.mod_eq_of_lt ae,Nat.div_eq_of_lt ae] at h;omega
 ·exact c
theorem qiK(N k:Nat)(h:N<256^k):val 256 (row k (D6 N))=N:=by
 unfold D6;rw[pM 256 ae,Nat.mod_eq_of_lt h]
theorem La(N k:Nat)(h:N<256^k):ah 256 (val 256 (row k (D6 N)))=D8 N:=by rw[qiK N k h];rfl
def Uy(N k:Nat)(h:N<256^k):NV .i64 (D8 N)=(NV .i64 (row k (D6 N))).take (nb N):=by
 have:=xU (B:=256) ae (lh (n:=k) (fun j=>Au N j));rw[La N k h] at this;rw[EO];congr 1;exact this.symm
def sS(m n i:Nat):Nat:=m%256^i*n
def AB(m n i k:Nat):Nat:=(sS m n i/256^i%256^k+m/256^i%256*(n%256^k))/256^k
def D9(m n i k:Nat):Nat:=AB m n i k+sS m n i/256^(i+k)%256+m/256^i%256*(n/256^k%256)
def Lc(m n i k j:Nat):Nat:=if j<i+k then sS m n (i+1)/256^j%256 else sS m n i/256^j%256
def Ea(m n i j:Nat):Nat:=sS m n i/256^j%256
theorem O6(m n i:Nat):sS m n (i+1)=sS m n i+256^i*(m/256^i%256*n):=by
 unfold sS;rw[Nat.pow_succ,Nat.mod_mul,Nat.add_mul,Nat.mul_assoc]
theorem qbt(m n i:Nat):AB m n i 0=0:=by simp[AB,Nat.mod_one]
def BZ(m n i k:Nat):AB m n i k<256:=by
 unfold AB;rw[Nat.div_lt_iff_lt_mul (gu k)];have h1:=Nat.mod_lt (sS m n i/256^i) (gu k);have h2:=Nat.mod_lt n (gu k);have h3:m/256^i%256+1<=256:=Nat.mod_lt _ ax;have h4:(m/256^i%256)*(n%256^k)<=(m/256^i%256)*(256^k):=Nat.mul_le_mul_left _ ae;have h5:(m/256^i%256+1)*256^k<=256*256^k:=Nat.mul_le_mul_right _ h3;rw[Nat.add_mul] at h5;omega
theorem yU(V i k:Nat):V/256^(i+k)=V/256^i/256^k:=qkv
theorem Le(m n i k:Nat):D9 m n i k/256=AB m n i (k+1):=by
 show _/256=_;unfold D9 AB;rw[yU,Nat.pow_succ,Nat.mod_mul,Nat.mod_mul,<-Nat.div_div_eq_div_mul]
 congr 1
 generalize m/256^i%256=dd
 generalize sS m n i/256^i=A
 have e:A%256^k+256^k*(A/256^k%256)+dd*(n%256^k+256^k*(n/256^k%256))=(A%256^k+dd*(n%256^k))+256^k*(A/256^k%256+dd*(n/256^k%256)):=kN;rw[e,Nat.add_mul_div_left _ _ (gu k)];omega
theorem Uz(m n i k:Nat):D9 m n i k%256=sS m n (i+1)/256^(i+k)%256:=by
 show _%256=_;unfold D9 AB;rw[yU,yU,O6,Nat.add_mul_div_left _ _ (gu i)]
 generalize m/256^i%256=dd
 generalize sS m n i/256^i=A
 have e:A+dd*n=(A%256^k+dd*(n%256^k))+256^k*(A/256^k+dd*(n/256^k)):=by
  have h1:=Nat.mod_add_div A (256^k);have h2:=Nat.mod_add_div n (256^k)
  conv=>lhs;rw[<-h1,<-h2]
  grind
 conv=>rhs;rw[e]
 rw[Nat.add_mul_div_left _ _ (gu k)]
 generalize(A%256^k+dd*(n%256^k))/256^k=c
 generalize A/256^k=p
 generalize n/256^k=q
 have e2:∀x y z w:Nat,(x+y%256+z*(w%256))%256=(x+(y+z*w))%256:=by
  intro x y z w;have h1:=Nat.mod_add_div y 256;have h2:=Nat.mod_add_div w 256;have:x+(y+z*w)=(x+y%256+z*(w%256))+256*(y/256+z*(w/256)):=by
   conv=>lhs;rw[<-h1,<-h2]
   grind
  rw[this,Nat.add_mul_mod_self_left]
 exact e2 c p dd q
theorem qiL(m n i k:Nat):Lc m n i k (i+k)=sS m n i/256^(i+k)%256:=by unfold Lc;rw[if_neg ae]
theorem qbu(m n i k j:Nat):Lc m n i (k+1) j=if j=i+k then D9 m n i k%256 else Lc m n i k j:=by
 rw[Uz];unfold Lc
 by_cases e:j=i+k
 ·subst e;rw[if_pos ae,if_pos rfl]
 ·rw[if_neg e]
  by_cases c:j<i+k
  ·rw[if_pos c,if_pos ae]
  ·rw[if_neg c,if_neg ae]
def qbv(m n i j:Nat):Lc m n i 0 j=Ea m n i j:=by
 unfold Lc Ea
 split
 ·rename_i h
  rw[O6];have e0:256^i=256^j*(256*256^(i-j-1)):=by
   rw[<-Nat.mul_assoc,<-Nat.pow_succ,<-Nat.pow_add,show j+1+(i-j-1)=i by omega]
  have e:256^i*(m/256^i%256*n)=256^j*(256*(256^(i-j-1)*(m/256^i%256*n))):=by
   generalize m/256^i%256*n=r
   rw[e0,Nat.mul_assoc,Nat.mul_assoc]
  rw[e,Nat.add_mul_div_left _ _ (gu j),Nat.add_mul_mod_self_left]
 ·rfl
theorem Jy(m n i:Nat):sS m n i<256^(i+nb n):=by
 unfold sS;rw[Nat.pow_add];have h1:=Nat.mod_lt m (gu i);have h2:=kH n
 calc m%256^i*n<=256^i*n:=Nat.mul_le_mul_right _ (by omega)
  _<256^i*256^nb n:=(Nat.mul_lt_mul_left (gu i)).2 h2
theorem qbw(m n j:Nat):Ea m n 0 j=0:=by simp[Ea,sS,Nat.mod_one]
def qeb(m n:Nat):val 256 (row (nb m+nb n+1) (Ea m n (nb m)))=m*n:=by
 have e:sS m n (nb m)=m*n:=(by unfold sS;rw[Nat.mod_eq_of_lt (kH m)]);have h:=Jy m n (nb m);rw[cu (g:=fun j=>m*n/256^j%256) (fun j hj=>by unfold Ea;rw[e]),pM 256 ax,Nat.mod_eq_of_lt];rw[e] at h;exact Nat.lt_of_lt_of_le h (Nat.pow_le_pow_right ax ae)
def Ze(m n i j:Nat):Ea m n i j<256:=mD _
def UA(p q:Nat):p%256*(q%256)<=65025:=by
 have h1:p%256<=255:=ae;have h2:q%256<=255:=ae;exact Nat.mul_le_mul h1 h2
theorem G5(m n i:Nat){k:Nat}(hk:nb n<=k):D9 m n i k=AB m n i k:=by
 unfold D9;have h1:256^(i+nb n)<=256^(i+k):=gX ae;rw[xZ hk,Nat.div_eq_of_lt (Nat.lt_of_lt_of_le (Jy m n i) h1)];simp
theorem qec(m n i:Nat){k:Nat}(hk:nb n<=k):AB m n i (k+1)=0:=by
 rw[<-Le,G5 m n i hk];have:=BZ m n i k;omega
def qed(m n i k:Nat)(h:0<AB m n i k):k<=nb n:=by
 rcases Nat.lt_or_ge (nb n) k with c|c
 ·obtain⟨q,rfl⟩:∃q,k=q+1:=⟨k-1,ae⟩;rw[qec m n i ae] at h;omega
 ·exact c
def qbx(m n i k j:Nat)(hk:nb n<=k)(hc:AB m n i k=0):Lc m n i k j=Ea m n (i+1) j:=by
 unfold Lc Ea
 by_cases c:j<i+k
 ·rw[if_pos c]
 ·rw[if_neg c];have h1:256^(i+nb n)<=256^j:=gX ae;rw[Nat.div_eq_of_lt (Nat.lt_of_lt_of_le (Jy m n i) h1)]
  by_cases e:j=i+k
  ·subst e;rw[<-Uz,G5 m n i hk,hc]
  ·have h2:256^(i+1+nb n)<=256^j:=gX ae;rw[Nat.div_eq_of_lt (Nat.lt_of_lt_of_le (Jy m n (i+1)) h2)]
theorem WM(m n:Nat):val 256 (row (nb m+nb n+1) (Ea m n (nb m)))=m*n:=qeb m n
theorem UB(m n:Nat):ah 256 (val 256 (row (nb m+nb n+1) (Ea m n (nb m))))=D8 (m*n):=by rw[WM];rfl
def qee(m n:Nat):NV .i64 (D8 (m*n))=(NV .i64 (row (nb m+nb n+1) (Ea m n (nb m)))).take (nb (m*n)):=by
 have:=xU (B:=256) ae (lh (n:=nb m+nb n+1) (fun j=>Ze m n (nb m) j));rw[UB] at this;rw[EO];congr 1;exact this.symm
def qef(m n i k:Nat):D9 m n i k<131072:=by
 have h1:=BZ m n i k;have h2:=mD (sS m n i/256^(i+k));have h3:=UA (m/256^i) (n/256^k);unfold D9;omega
def G6(a b p:Nat):Nat:=a/256^(p+1)%b*256+a/256^p%256
def qeg(a b p:Nat)(hb:0<b):a/256^p=b*(a/256^(p+1)/b*256)+G6 a b p:=by
 have h1:=wH a p;have h2:=Nat.div_add_mod (a/256^(p+1)) b;unfold G6
 conv=>lhs;rw[h1,<-h2]
 rw[Nat.add_mul,Nat.mul_assoc,Nat.add_assoc]
def WN(a b p:Nat)(hb:0<b):G6 a b p<256*b:=by
 unfold G6;have h1:a/256^(p+1)%b+1<=b:=Nat.mod_lt _ hb;have h2:=mD (a/256^p);omega
theorem qiM(a b p:Nat)(hb:0<b):G6 a b p/b=a/b/256^p%256:=by
 have h1:=qeg a b p hb;have h2:G6 a b p/b<256:=(by rw[Nat.div_lt_iff_lt_mul hb];exact WN a b p hb);have e:a/b/256^p=a/256^p/b:=qkx;rw[e,h1,Nat.mul_add_div hb,Nat.mul_comm _ 256,Nat.mul_add_mod,Nat.mod_eq_of_lt h2]
theorem qiN(a b p:Nat)(hb:0<b):G6 a b p%b=a/256^p%b:=by
 have h1:=qeg a b p hb
 conv=>rhs;rw[h1]
 rw[Nat.mul_add_mod]
def qiO(R d:Nat)(hd:d<256):val 256 (d::D8 R)=R*256+d:=by
 show d+256*val 256 (D8 R)=_;unfold D8;rw[rO ae];omega
def dq8{a b p q r:Nat}(hb:0<b)(h:q*b+r=G6 a b p)(hr:r<b):q=a/b/256^p%256∧r=a/256^p%b:=by
 rw[<-qiM a b p hb,<-qiN a b p hb,<-h,Nat.mul_comm q b];exact⟨by rw[Nat.mul_add_div hb,Nat.div_eq_of_lt hr];omega,by rw[Nat.mul_add_mod,Nat.mod_eq_of_lt hr]⟩
def qeh{a b p q r s:Nat}(hb:0<b)(h:q*b+r=G6 a b p)(hs:s*b<=r):q+s<256:=by
 have h1:=WN a b p hb;have h2:(q+s)*b<256*b:=(by rw[Nat.add_mul];omega);exact Nat.lt_of_mul_lt_mul_right h2
def UC{a b p q r s:Nat}(h:q*b+r=G6 a b p)(hs:s*b<=r):(q+s)*b+(r-s*b)=G6 a b p:=by rw[Nat.add_mul];omega
def SI(a b p k:Nat):Nat:=if k<p then 0 else a/b/256^k%256
end Go.Via
namespace Go.Via
variable[Mo]
open Go Go.RowKit
theorem kR{m n:Nat}:0<=mV m n↔n<=m:=by
 unfold mV
 by_cases h1:m<n
 ·rw[if_pos h1];omega
 ·rw[if_neg h1]
  by_cases h2:n<m
  ·rw[if_pos h2];omega
  ·rw[if_neg h2];omega
def wI{m n:Nat}:mV m n<=0↔m<=n:=by
 unfold mV
 by_cases h1:m<n
 ·rw[if_pos h1];omega
 ·rw[if_neg h1]
  by_cases h2:n<m
  ·rw[if_pos h2];omega
  ·rw[if_neg h2];omega
theorem Fv{m n:Nat}:mV m n<0↔m<n:=by
 unfold mV
 by_cases h1:m<n
 ·rw[if_pos h1];omega
 ·rw[if_neg h1]
  by_cases h2:n<m
  ·rw[if_pos h2];omega
  ·rw[if_neg h2];omega
def qei{a b:Nat}(x:SR (nb a)):(SR (nb (a/b))×SR (nb (a%b))) ⊕ PLift (a<b)->Value
 | .inl z=> .tuple #[z.1.v,z.2.v]
 | .inr _=> .tuple #[.slice none 0 0,x.v]
def QL{a b:Nat}:(SR (nb (a/b))×SR (nb (a%b))) ⊕ PLift (a<b)->List aJ
 | .inl z=>[⟨z.1.b,3,NV .i64 (D8 (a/b)),z.1.n,true⟩,⟨z.2.b,3,NV .i64 (D8 (a%b)),z.2.n,true⟩]
 | .inr _=>[]
def rq{B:Bs}{X:Act->World->Prop}{nt:Nat}{t:List (Nat×Value)}{L:List aJ}{b:aJ}(k:Nat)(hk:L[k]? =some b)(h:(b.base=none->b.cs=[])->At B ⟨nt,t,L⟩ X):At B ⟨nt,t,L⟩ X:=
 fun a w hr=>h (fun hb=>((hr.mem.blk k b hk).2 hb).1) a w hr
def qej{P:Program}{bl:List Nat}{ops:Array Oper}{K:St->Prop}{rest:List Oper}{nt:Nat}{t:List (Nat×Value)}{L:List aJ}{d:Nat}{ty:TypeId}{pos:String}{af:Array Edge}{g:Option (Nat×Bool)}{x y:Operand}
 {T e:Nat}{z:Value}{gx:Nat}{d0 R:Nat}{ob:Option Nat}{oN oc:Nat}{o2:Bool}(k k2:Nat)(mk:Option Nat->Nat->List aJ)(hT:P.underlying T=some (.slice e))(hi:NQ P e 1 z)(hd:Nat.blt d nt=true)
 (hg:az ops ⟨some d,.call {callee:= .builtin .append,args:= #[x,y],argTypes:= #[T,T]},ty,pos,af,g⟩ t=some true)
 (hk:L[k]? =some ⟨some gx,e,[.int .i64 (d0:Nat)],1,true⟩)(hx:ev t x=some (ay (some gx) 0 1 1))(hk2:L[k2]? =some ⟨ob,3,NV .i64 (D8 R),oN,o2⟩)(hb:ob=none->NV .i64 (D8 R)=[])(hy:ev t y=some (ay ob 0 (nb R) oc))
 (hzs:z.cells.size=1)(hmax:nb R<=1073741824)(hL:∀b n,L.set k ⟨b,e,NV .i64 (d0::D8 R),n,true⟩=mk b n)
 (h:∀r:SR (nb R+1),aY P bl ops rest ⟨nt,(d,r.v)::t,mk r.b r.n⟩ K):
 aY P bl ops (⟨some d,.call {callee:= .builtin .append,args:= #[x,y],argTypes:= #[T,T]},ty,pos,af,g⟩::rest) ⟨nt,t,L⟩ K:=by
 by_cases h0:nb R=0
 ·have hD:D8 R=[]:=List.eq_nil_of_length_eq_zero (by rw[jQ];exact h0);have:=h ⟨some gx,1,1,ae⟩;rw[<-hL] at this;unfold SR.v at this;simp only[h0,hD] at this;have e1:L.set k ⟨some gx,e,NV .i64 [d0],1,true⟩=L:=by
   obtain⟨hlt,he⟩:=List.getElem?_eq_some_iff.1 hk;exact(congrArg (L.set k) he.symm).trans (List.set_getElem_self hlt)
  rw[e1] at this;obtain⟨inf,i1,i2,i3,i5⟩:=Ae hi;rw[h0] at hy;exact qaI hT i1 hd hg hx (Nat.le_refl 1) hy this
 ·obtain⟨g2,rfl⟩:∃g2,ob=some g2:=by
   cases ob with
   |none=>
    have:=congrArg List.length (hb rfl);rw[ik,jQ] at this;exact absurd this h0
   |some g2=>exact⟨g2,rfl⟩
  refine mW (s:=1) (len:=1) (n2:=nb R) k k2 (fun r=>mk (some r.g) r.n) hT hi hd hg hk rfl rfl hx hk2 rfl hy rfl hzs (by simpa using(by omega:0<nb R)) rfl (Nat.le_refl _) (Nat.le_refl _) (by rw[ik,jQ];omega) (GM _ _) ae (fun r=>?_) (fun r=>?_)
  ·rw[<-hL];rfl
  ·have h1:=h ⟨some r.g,r.n,r.cap,by have:=r.h;omega⟩;unfold SR.v at h1;have e:ay (some r.g) 0 (1+nb R) r.cap=ay (some r.g) 0 (nb R+1) r.cap:=congrArg (fun n=>ay (some r.g) 0 n r.cap) (Nat.add_comm 1 (nb R));rw[e];exact h1
theorem Zf(a b q:Nat):val 256 (a/256^q%256::D8 (a/256^(q+1)%b))=G6 a b q:=qiO _ _ (mD _)
def Cb(a b q:Nat):∀d∈a/256^q%256::D8 (a/256^(q+1)%b),d<256:=fun d hd=>by
 rcases List.mem_cons.1 hd with rfl|hd
 ·exact mD _
 ·exact qkB _ d hd
theorem Lh(a b q:Nat):(ah 256 (val 256 (a/256^q%256::D8 (a/256^(q+1)%b)))).length=nb (G6 a b q):=by rw[Zf];rfl
def qek(a b q:Nat):nb (G6 a b q)<=nb (a/256^(q+1)%b)+1:=by
 rw[<-Lh];exact Nat.le_trans (jB ax (GG ax (Cb a b q))) (by simp[jQ])
def UD(a b q:Nat):NV .i64 (D8 (G6 a b q))=(NV .i64 (a/256^q%256::D8 (a/256^(q+1)%b))).take (nb (G6 a b q)):=by
 have:=xU (B:=256) ae (Cb a b q);rw[Zf] at this;rw[EO];congr 1;exact this.symm
theorem QM(a b:Nat):a/256^nb a%b=0:=by rw[Nat.div_eq_of_lt (kH a),Nat.zero_mod]
def Zg(a b:Nat):NV .i64 (D8 (a/256^nb a%b))=[]:=by
 rw[QM];have:D8 0=[]:=List.eq_nil_of_length_eq_zero (by rw[jQ,kV]);rw[this];rfl
def UE(a b:Nat):Value.slice none 0 0=ay none 0 (nb (a/256^nb a%b)) 0:=by rw[QM,kV];rfl
def WO(a b q m k:Nat):Nat:=if k=q then m else SI a b (q+1) k
theorem qmY(a b q m:Nat):WO a b q m q=m:=by simp[WO]
def UF(a b q k:Nat):WO a b q 0 k=SI a b (q+1) k:=by
 unfold WO
 split
 ·rename_i h;subst h;simp[SI]
 ·rfl
theorem qel(a b q m m' k:Nat):WO a b q m' k=if k=q then m' else WO a b q m k:=by
 unfold WO;split<;>rfl
def qiP(a b q k:Nat):WO a b q (a/b/256^q%256) k=SI a b q k:=by
 unfold WO SI
 by_cases h:k=q
 ·subst h;simp
 ·rw[if_neg h]
  by_cases c:k<q
  ·rw[if_pos c,if_pos ae]
  ·rw[if_neg c,if_neg ae]
theorem qiQ(a b:Nat){k:Nat}(h:k<nb a):SI a b (nb a) k=0:=by unfold SI;rw[if_pos h]
def qem(a b p k:Nat):SI a b p k<256:=by unfold SI;split<;>omega
theorem qiR(a b:Nat):val 256 (row (nb a) (SI a b 0))=a/b:=by
 have h:a/b<256^nb a:=Nat.lt_of_le_of_lt (Nat.div_le_self _ _) (kH a);rw[cu (g:=fun j=>a/b/256^j%256) (fun j hj=>by unfold SI;rw[if_neg ae]),pM 256 ax,Nat.mod_eq_of_lt h]
theorem UG(a b:Nat):ah 256 (val 256 (row (nb a) (SI a b 0)))=D8 (a/b):=by rw[qiR];rfl
def qen(a b:Nat):NV .i64 (D8 (a/b))=(NV .i64 (row (nb a) (SI a b 0))).take (nb (a/b)):=by
 have:=xU (B:=256) ae (lh (n:=nb a) (fun j=>qem a b 0 j));rw[UG] at this;rw[EO];congr 1;exact this.symm
def qeo{r b:Nat}(h:r<256*b):nb r<=nb b+1:=nV (by
 have:=kH b;rw[Nat.pow_succ];omega)
def Zh{a b p m r:Nat}(hb:0<b)(h:m*b+r=G6 a b p):nb r<=nb b+1:=qeo (by have:=WN a b p hb;have:=Nat.zero_le (m*b);omega)
end Go.Via
namespace Go.Via
theorem QN:NV .i64 (D8 0)=[]:=by
 have:D8 0=[]:=List.eq_nil_of_length_eq_zero (by rw[jQ,kV]);rw[this];rfl
end Go.Via
namespace Go.Via
variable[Mo]
open Go Go.RowKit
structure FS(bs:List (Option Nat))(len:Nat) where
 z:SR len
 o:Bool
 ho:o=true∨z.b∈bs
def Lj{a b:Nat}(z:(SR (nb (a/b))×SR (nb (a%b))) ⊕ PLift (a<b)):∀c∈QL z,c.own=true:=by
 intro c hc;cases z with
 |inl z=>
  simp only[QL,List.mem_cons,List.mem_nil_iff,or_false] at hc;rcases hc with rfl|rfl<;>rfl
 |inr h=>cases hc
def qmZ{B:Bs}{w:World}{L:List aJ}{x y:aJ}{c:aJ}{o:Bool}{bb:Option Nat}(h:bg B L w)(k:Nat){b:aJ}(hk:L[k]? =some b)(hb:b.base=bb)(hoo:b.own=o)(ho:o=true∨bb∈[x.base,y.base])(hc:c.base=bb):∀g,c.base=some g->B.own g∨∃b0∈[x,y],b0.base=some g:=by
 intro g hg;rcases ho with h1|h1
 ·exact .inl (Qp h k hk (by rw[hoo];exact h1) g (by rw[hb,<-hc];exact hg))
 ·rw[hc] at hg;subst hg;simp only[List.mem_cons,List.mem_nil_iff,or_false] at h1;rcases h1 with h1|h1
  ·exact .inr ⟨x,bI,h1.symm⟩
  ·exact .inr ⟨y,bI,h1.symm⟩
def qby{m n a b:Nat}(h:Nat.gcd m n=Nat.gcd a b):Nat.gcd n (m%n)=Nat.gcd a b:=by
 rw[<-h,Nat.gcd_comm m n,Nat.gcd_rec n m,Nat.gcd_comm (m%n) n]
def Zi{P:Program}{f a b:Nat}{x:SR (nb a)}{L0:List aJ}{args:List Value}(hx:∀g,x.b=some g->∃b0∈L0,b0.base=some g)(hL0:L0[0]? =some ⟨x.b,3,NV .i64 (D8 a),x.n,false⟩)(h:bZ P f L0 args ((SR (nb (a/b))×SR (nb (a%b))) ⊕ PLift (a<b)) (qei x) QL):
 GR P f L0 args (SR (nb (a/b))×SR (nb (a%b))) (fun z=> .tuple #[z.1.v,z.2.v]) (fun z=>[⟨z.1.b,3,NV .i64 (D8 (a/b)),z.1.n,false⟩,⟨z.2.b,3,NV .i64 (D8 (a%b)),z.2.n,false⟩]):=by
 refine⟨h.1,fun w hL=>(h.2 w hL).mono ?_⟩
 rintro e w' ⟨z,rfl,hz⟩;cases z with
 |inl z=>
  refine⟨z,rfl,hz.un,fun c hc g hg=> .inl ?_⟩
  simp only[List.mem_cons,List.mem_nil_iff,or_false] at hc;rcases hc with rfl|rfl
  ·exact EE (Qp hz 0 rfl rfl g hg)
  ·exact EE (Qp hz 1 rfl rfl g hg)
 |inr hlt=>
  have hlt:=hlt.down;refine⟨(⟨none,0,0,by rw[Nat.div_eq_of_lt hlt,kV];exact Nat.le_refl _⟩,⟨x.b,x.n,x.cap,by rw[Nat.mod_eq_of_lt hlt];exact x.h⟩),?_,?_,fun c hc g hg=>?_⟩
  ·show Ending.returned (.tuple #[Value.slice none 0 0,ay x.b 0 (nb a) x.cap])=Ending.returned (.tuple #[ay none 0 (nb (a/b)) 0,ay x.b 0 (nb (a%b)) x.cap]);rw[Nat.div_eq_of_lt hlt,Nat.mod_eq_of_lt hlt,kV];rfl
  ·refine(hL.same (hz:bg w [] w').below).picks [none,some 0] ⟨⟨rfl,by show NV .i64 (D8 (a/b))=[];rw[Nat.div_eq_of_lt hlt];exact QN,rfl⟩,⟨_,hL0,bn (by show(⟨x.b,3,NV .i64 (D8 (a%b)),x.n,false⟩:aJ)=⟨x.b,3,NV .i64 (D8 a),x.n,false⟩;rw[Nat.mod_eq_of_lt hlt])⟩,trivial⟩ rfl rfl
  ·simp only[List.mem_cons,List.mem_nil_iff,or_false] at hc;rcases hc with rfl|rfl
   ·cases hg
   ·exact .inr (hx g hg)
end Go.Via
namespace Go.Via
open Go Go.RowKit
def dz(q:Rat):Int:=if q.den=1 then 0 else q.den
def qpc(q:Rat):Value.agg #[.bool false,.string (dm q)]=I (dz q):=by
 unfold dz dm I
 by_cases h:q.den=1
 ·simp only[if_pos h];rw[show(0:Int).natAbs=0 from rfl,iW];rfl
 ·simp only[if_neg h,Int.natAbs_natCast];rw[show decide (((q.den:Nat):Int)<0)=false from decide_eq_false ae]
theorem uF:nb 1=1:=by have h1:=nV (n:=1) (k:=1) ae;have h2:=DX (u:=1) ae;omega
def qrv{q:Rat}(h:((nb (dz q).natAbs:Nat):Int)=0):q.den=1:=by
 unfold dz at h
 by_cases e:q.den=1
 ·exact e
 ·rw[if_neg e,Int.natAbs_natCast] at h;have:=DX (u:=q.den) qcS;omega
def qrw{q:Rat}(h:¬((nb (dz q).natAbs:Nat):Int)=0):(dz q).natAbs=q.den:=by
 unfold dz at*
 by_cases e:q.den=1
 ·rw[if_pos e] at h;exact absurd (by rw[show(0:Int).natAbs=0 from rfl,kV];rfl) h
 ·rw[if_neg e,Int.natAbs_natCast]
def qpd(q:Rat):jD (dz q)<=cO q:=by
 unfold dz jD cO
 split
 ·rw[show(0:Int).natAbs=0 from rfl,kV];omega
 ·rw[Int.natAbs_natCast];omega
theorem WP:D8 1=[1]:=by
 have h:=KP 1;rw[uF] at h;rw[<-h];simp[row,D6]
def sg(neg:Bool)(n:Nat):Int:=if neg=true then-(n:Int) else(n:Int)
theorem qbz(neg:Bool)(n:Nat):(sg neg n).natAbs=n:=by unfold sg;split<;>simp
theorem QO(neg:Bool)(n d:Nat):Int.gcd (sg neg n) d=Nat.gcd n d:=by rw[Int.gcd,qbz,Int.natAbs_natCast]
theorem qep(neg:Bool)(n d:Nat):sg neg n/(Int.gcd (sg neg n) d:Int)=sg neg (n/Nat.gcd n d):=by
 rw[QO];unfold sg
 split
 ·rw[Int.neg_ediv_of_dvd (Int.natCast_dvd_natCast.2 (Nat.gcd_dvd_left n d))];rfl
 ·rfl
def qeq{n d:Nat}(neg:Bool)(hd:0<d)(h1:d/Nat.gcd n d=1):Value.agg #[.bool (decide (sg neg (n/Nat.gcd n d)<0)),.string (bP (sg neg (n/Nat.gcd n d)).natAbs),aZ,bf]=Q (Rat.divInt (sg neg n) d):=by
 have:=Ql (n:=sg neg n) (d:=d) ae (by rw[QO];exact_mod_cast h1);rw[qep] at this;exact this
def qer{n d:Nat}(neg:Bool)(hd:0<d)(h1:d/Nat.gcd n d≠1):Value.agg #[.bool (decide (sg neg (n/Nat.gcd n d)<0)),.string (bP (sg neg (n/Nat.gcd n d)).natAbs),.bool (decide (((d/Nat.gcd n d:Nat):Int)<0)),.string (bP (((d/Nat.gcd n d:Nat):Int)).natAbs)]=Q (Rat.divInt (sg neg n) d):=by
 have:=Qm (n:=sg neg n) (d:=d) ae (by rw[QO];exact_mod_cast h1);rw[qep,QO] at this;exact this
theorem Zj{m:Nat}(h:nb m=1):m/256^0%256=m:=by
 have:=kH m;rw[h] at this;rw[Nat.pow_zero,Nat.div_one,Nat.mod_eq_of_lt ae]
def NY{m:Nat}(h:¬((nb m:Nat):Int)=1):m≠1:=fun e=>h (by rw[e,uF];rfl)
def qiS(n d:Int)(h:d≠0):Rat.divInt (sg (decide (n<0) !=decide (d<0)) n.natAbs) (d.natAbs:Int)=Rat.divInt n d:=by
 unfold sg
 by_cases hd:d<0
 ·have e:(d.natAbs:Int)= -d:=ae
  rw[e]
  by_cases hn:n<0
  ·rw[decide_eq_true hd,decide_eq_true hn];simp only[bne_self_eq_false,Bool.false_eq_true,if_false];rw[show(n.natAbs:Int)= -n by omega,Rat.neg_divInt_neg]
  ·rw[decide_eq_true hd,decide_eq_false hn];simp only[Bool.bne_true,Bool.not_false,if_true];rw[show(n.natAbs:Int)=n by omega,Rat.neg_divInt_neg]
 ·have e:(d.natAbs:Int)=d:=ae
  rw[e]
  by_cases hn:n<0
  ·rw[decide_eq_false hd,decide_eq_true hn];simp only[Bool.bne_false,if_true];rw[show-(n.natAbs:Int)=n by omega]
  ·rw[decide_eq_false hd,decide_eq_false hn];simp only[bne_self_eq_false,Bool.false_eq_true,if_false];rw[show(n.natAbs:Int)=n by omega]
def qm0(p q:Rat):Rat.divInt (sg (decide (p.num<0) !=decide (q.num<0)) (p.num.natAbs*q.num.natAbs)) ((p.den*q.den:Nat):Int)=p*q:=by
 rw[<-J3 p q,<-Yy p.num q.num];unfold sg;rw[Int.natCast_mul,Int.natCast_mul]
theorem uG(a:Int)(d:Nat)(h:d≠0):decide (a*(d:Int)<0)=decide (a<0):=by
 refine decide_eq_decide.2 ⟨fun h2=>?_,fun h2=>Int.mul_neg_of_neg_of_pos h2 ae⟩
 refine Int.not_le.1 fun h3=>?_
 have:=Int.mul_nonneg h3 (show(0:Int)<=d by omega);omega
theorem AL(p q:Rat):Rat.divInt (p.num*q.den+q.num*p.den) ((p.den*q.den:Nat):Int)=p+q:=by
 have h1:(p.den:Int)≠0:=Aa p;have h2:(q.den:Int)≠0:=Aa q
 conv=>rhs;rw[<-Rat.num_divInt_den p,<-Rat.num_divInt_den q]
 rw[Rat.divInt_add_divInt _ _ h1 h2,Int.natCast_mul]
def qiT(p q:Rat)(h:(decide (p.num<0)==decide (q.num<0))=true):Rat.divInt (sg (decide (p.num<0)) (p.num.natAbs*q.den+q.num.natAbs*p.den)) ((p.den*q.den:Nat):Int)=p+q:=by
 rw[<-AL p q]
 congr 1
 have h1:=TG (p.num*q.den) (q.num*p.den) qd6;rw[uG _ _ q.den_nz,Int.natAbs_mul,Int.natAbs_mul,Int.natAbs_natCast,Int.natAbs_natCast] at h1;exact h1
def qiU(p q:Rat)(h:(decide (p.num<0)==decide (q.num<0))=false)(hle:q.num.natAbs*p.den<=p.num.natAbs*q.den):Rat.divInt (sg (decide (p.num<0)) (p.num.natAbs*q.den-q.num.natAbs*p.den)) ((p.den*q.den:Nat):Int)=p+q:=by
 rw[<-AL p q]
 congr 1
 have h1:=Ou (p.num*q.den) (q.num*p.den) qd6 qkG;rw[uG _ _ q.den_nz,Int.natAbs_mul,Int.natAbs_mul,Int.natAbs_natCast,Int.natAbs_natCast] at h1;exact h1
def qiV(p q:Rat)(h:(decide (p.num<0)==decide (q.num<0))=false)(hle:p.num.natAbs*q.den<=q.num.natAbs*p.den):Rat.divInt (sg (decide (q.num<0)) (q.num.natAbs*p.den-p.num.natAbs*q.den)) ((p.den*q.den:Nat):Int)=p+q:=by
 rw[<-AL p q]
 congr 1
 have h1:=Ov (p.num*q.den) (q.num*p.den) qd6 qkG;rw[uG _ _ p.den_nz,Int.natAbs_mul,Int.natAbs_mul,Int.natAbs_natCast,Int.natAbs_natCast] at h1;exact h1
def UH{q:Rat}(h:q<0):q.num<0:=by
 refine Int.not_le.1 fun h1=>?_
 have:=Rat.num_nonneg.1 h1
 grind
def UI{q:Rat}(h:0<q):0<q.num:=by
 have h1:=Rat.num_nonneg.2 (show 0<=q by grind);have h2:q.num≠0:=fun e=>by have:=Rat.num_eq_zero.1 e;grind
 omega
def UJ(p q:Rat):(p-q).num.sign=ou p q:=by
 unfold ou
 by_cases h:p<q
 ·rw[if_pos h];have:p-q<0:=kN
  exact Int.sign_eq_neg_one_of_neg (UH this)
 ·rw[if_neg h]
  by_cases h2:q<p
  ·rw[if_pos h2];have:0<p-q:=kN
   exact Int.sign_eq_one_of_pos (UI this)
  ·rw[if_neg h2];have:p-q=0:=kN
   rw[this];rfl
end Go.Via
namespace Go.Via
open Go
structure Rl where
 p:Rat
 r:Rat
 n:Bool
deriving DecidableEq
def dE(q:Rat):Int:=q.num.sign
def uo(a b r:Rat):Int:=if dE b*dE r=0∨dE a=dE b*dE r then dE a else if dE a=0 then dE b*dE r else dE a*ou (a*a) (b*b*r)
def o5(x:Rl):Rat:=if x.n=true then-1 else 1
def bQ(x y:Rl):Int:=
 if dE (-o5 y)*dE y.r=0∨uo (x.p-y.p) (o5 x) x.r=dE (-o5 y)*dE y.r then uo (x.p-y.p) (o5 x) x.r
 else if uo (x.p-y.p) (o5 x) x.r=0 then dE (-o5 y)*dE y.r
 else uo (x.p-y.p) (o5 x) x.r*uo ((x.p-y.p)*(x.p-y.p)+x.r-y.r) (2*((x.p-y.p)*o5 x)) x.r
def rl(q:Rat):Rl:=⟨q,0,false⟩
theorem QP{q:Rat}(h:0<q):dE q=1:=by unfold dE;exact Int.sign_eq_one_of_pos (UI h)
theorem QQ{q:Rat}(h:q<0):dE q= -1:=by unfold dE;exact Int.sign_eq_neg_one_of_neg (UH h)
theorem Fz:dE 0=0:=rfl
def lI(q:Rat):(0<q∧dE q=1)∨(q<0∧dE q= -1)∨(q=0∧dE q=0):=by
 by_cases h:0<q
 ·exact .inl ⟨h,QP h⟩
 ·by_cases h1:q<0
  ·exact .inr (.inl ⟨h1,QQ h1⟩)
  ·have:q=0:=kN
   exact .inr (.inr ⟨this,by rw[this];rfl⟩)
def FB(p q:Rat):(p<q∧ou p q= -1)∨(q<p∧ou p q=1)∨(p=q∧ou p q=0):=by
 unfold ou
 by_cases h:p<q
 ·exact .inl ⟨h,if_pos h⟩
 ·by_cases h1:q<p
  ·exact .inr (.inl ⟨h1,by rw[if_neg h,if_pos h1]⟩)
  ·exact .inr (.inr ⟨kN,by rw[if_neg h,if_neg h1]⟩)
theorem qiW(p q:Rat):dE (p-q)=ou p q:=UJ p q
theorem qes(q:Rat):dE (-q)= -dE q:=by unfold dE;rw[Rat.neg_num];exact Int.sign_neg _
theorem qm1(a b:Rat):uo a b 0=dE a:=by unfold uo;rw[Fz,Int.mul_zero,if_pos (.inl rfl)]
def qiX(x:Rl):dE (o5 x)=if x.n=true then-1 else 1:=by unfold o5;split<;>rfl
def qet(x:Rl):o5 x*o5 x=1:=by unfold o5;split<;>grind
theorem qeu(x:Rl)(q:Rat):bQ x (rl q)=uo (x.p-q) (o5 x) x.r:=by
 unfold bQ rl;dsimp only;rw[Fz,Int.mul_zero,if_pos (.inl rfl)]
theorem QR(p q:Rat):bQ (rl p) (rl q)=ou p q:=by
 rw[qeu];unfold rl;dsimp only;rw[qm1,qiW]
def uH(x y:Rl):bQ x y= -1∨bQ x y=0∨bQ x y=1:=by
 have hs:∀q,dE q= -1∨dE q=0∨dE q=1:=fun q=>Zc
 have hm:∀{a b:Int},(a= -1∨a=0∨a=1)->(b= -1∨b=0∨b=1)->(a*b= -1∨a*b=0∨a*b=1):=fun h h'=>by
  rcases h with h|h|h<;>rcases h' with h'|h'|h'<;>simp[h,h']
 have hq:∀p q,ou p q= -1∨ou p q=0∨ou p q=1:=fun p q=>qd7
 have h1:∀a b r,uo a b r= -1∨uo a b r=0∨uo a b r=1:=fun a b r=>by
  unfold uo;split
  ·exact hs _
  ·split
   ·exact hm (hs _) (hs _)
   ·exact hm (hs _) (hq _ _)
 unfold bQ;split
 ·exact h1 _ _ _
 ·split
  ·exact hm (hs _) (hs _)
  ·exact hm (h1 _ _ _) (h1 _ _ _)
end Go.Via
namespace Go.Via
open Go
structure Iv where
 f:Rl
 t:Rl
 fo:Bool
 tp:Bool
deriving DecidableEq
abbrev qB:=Rl×Bool
def NK(f l:qB):Iv:=⟨f.1,l.1,f.2,!l.2⟩
def Iv.b(i:Iv):qB:=(i.f,i.fo)
def Iv.e(i:Iv):qB:=(i.t,!i.tp)
structure fF(S:Rl->Prop)(ρ:Rl->Int):Prop where
 lt:∀{x y},S x->S y->(bQ x y<0↔ρ x<ρ y)
 gt:∀{x y},S x->S y->(0<bQ x y↔ρ y<ρ x)
 inj:∀{x y},S x->S y->ρ x=ρ y->x=y
def aW(ρ:Rl->Int)(b:qB):Int:=2*ρ b.1+(if b.2=true then 1 else 0)
def Zk{S:Rl->Prop}{ρ:Rl->Int}(T:fF S ρ){a b:qB}(ha:S a.1)(hb:S b.1)(h:aW ρ a=aW ρ b):a=b:=by
 obtain⟨x,c⟩:=a;obtain⟨y,d⟩:=b;unfold aW at h;dsimp only at*;have:ρ x=ρ y∧c=d:=by cases c<;>cases d<;>simp at h ⊢ <;>omega
 rw[T.inj ha hb this.1,this.2]
def wW(a b:qB):Int:=if bQ a.1 b.1≠0 then bQ a.1 b.1 else if a.2=b.2 then 0 else if b.2=true then-1 else 1
theorem UK{S:Rl->Prop}{ρ:Rl->Int}(T:fF S ρ){a b:qB}(ha:S a.1)(hb:S b.1):wW a b=zZ (aW ρ a) (aW ρ b):=by
 have h1:=T.lt ha hb;have h2:=T.gt ha hb;have h3:=uH a.1 b.1;unfold wW zZ aW;obtain⟨x,c⟩:=a;obtain⟨y,d⟩:=b;dsimp only at*
 generalize bQ x y=z at*
 rcases h3 with h|h|h
 ·subst h;have:=h1.1 ax;rw[if_pos ax,if_pos qd8]
 ·subst h;have e:ρ x=ρ y:=by
   have a1:¬ρ x<ρ y:=fun e=>absurd (h1.2 e) ax
   have a2:¬ρ y<ρ x:=fun e=>absurd (h2.2 e) ax
   omega
  rw[e,if_neg ax];cases c<;>cases d<;>simp
  ·intro h;omega
  ·rw[if_neg ae,if_pos ae]
 ·subst h;have:=h2.1 ax;rw[if_pos ax,if_neg qd8,if_pos qd8]
def memB(ρ:Rl->Int)(l:List Iv)(c:Int):Bool:=l.any fun i=>decide (aW ρ i.b<=c)&&decide (c<aW ρ i.e)
def O7(here:Rl->Bool)(btw:Rl->Rl->Bool):Option qB->List Rl->List (qB×qB)
 |_,[]=>[]
 |some f,[t]=>[(f,(t,here t))]
 |none,[t]=>if here t=true then[((t,false),(t,true))] else[]
 |some f,t::u::ts=>
  if here t=true then(if btw t u=true then O7 here btw (some f) (u::ts) else(f,(t,true))::O7 here btw none (u::ts))
  else(f,(t,false))::O7 here btw (if btw t u=true then some (t,true) else none) (u::ts)
 |none,t::u::ts=>
  if here t=true then(if btw t u=true then O7 here btw (some (t,false)) (u::ts) else((t,false),(t,true))::O7 here btw none (u::ts))
  else O7 here btw (if btw t u=true then some (t,true) else none) (u::ts)
def nY:List Rl->List qB
 |[]=>[]
 |t::ts=>(t,false)::(t,true)::nY ts
def qm2(here:Rl->Bool)(btw:Rl->Rl->Bool)(g:qB->Bool):List Rl->Prop
 |[]=>True
 |[t]=>g (t,false)=here t∧g (t,true)=false
 |t::u::ts=>g (t,false)=here t∧g (t,true)=btw t u∧qm2 here btw g (u::ts)
theorem FC{here:Rl->Bool}{btw:Rl->Rl->Bool}{g:qB->Bool}:∀{ts:List Rl} {st:Option qB},qm2 here btw g ts->O7 here btw st ts=iE g st (nY ts)
 |[],none,_=>rfl
 |[],some _,_=>rfl
 |[t],none,h=>by
  obtain⟨h1,h2⟩:=h;unfold nY nY iE O7;rw[h1];cases here t
  ·simp[iE,h2]
  ·simp[iE,h2]
 |[t],some f,h=>by
  obtain⟨h1,h2⟩:=h;unfold nY nY iE O7;rw[h1];cases here t
  ·simp[iE,h2]
  ·simp[iE,h2]
 |t::u::ts,none,h=>by
  obtain⟨h1,h2,h3⟩:=h;have ih:=fun st=>FC (st:=st) h3
  show _=iE g none ((t,false)::(t,true)::nY (u::ts));unfold O7 iE;rw[h1];cases here t
  ·simp only[Bool.false_eq_true,if_false];rw[ih];unfold iE;rw[h2];cases btw t u<;>rfl
  ·simp only[if_true];unfold iE;rw[h2];cases btw t u
   ·simp only[Bool.false_eq_true,if_false];rw[ih]
   ·simp only[if_true];rw[ih]
 |t::u::ts,some f,h=>by
  obtain⟨h1,h2,h3⟩:=h;have ih:=fun st=>FC (st:=st) h3
  show _=iE g (some f) ((t,false)::(t,true)::nY (u::ts));unfold O7 iE;rw[h1];cases here t
  ·simp only[Bool.false_eq_true,if_false];rw[ih];unfold iE;rw[h2];cases btw t u<;>rfl
  ·simp only[if_true];unfold iE;rw[h2];cases btw t u
   ·simp only[Bool.false_eq_true,if_false];rw[ih]
   ·simp only[if_true];rw[ih]
def Dh(l:List Iv):List (qB×Int×Int):=l.flatMap fun i=>[(i.b,1,0),(i.e,-1,0)]
def IZ(l:List Iv):List (qB×Int×Int):=l.flatMap fun i=>[(i.b,0,1),(i.e,0,-1)]
theorem Iq{α:Type}{κ:α->Int}{c:Int}:∀{l m:List (α×Int×Int)},qj κ c (l++m)=qj κ c l+qj κ c m
 |[],m=>by simp[qj]
 |e::l,m=>by simp only[List.cons_append,qj];rw[Iq (l:=l)];omega
theorem Ir{α:Type}{κ:α->Int}{c:Int}:∀{l m:List (α×Int×Int)},ql κ c (l++m)=ql κ c l+ql κ c m
 |[],m=>by simp[ql]
 |e::l,m=>by simp only[List.cons_append,ql];rw[Ir (l:=l)];omega
def qev{α:Type}{κ:α->Int}{c:Int}{l m:List (α×Int×Int)}(h:l.Perm m):qj κ c l=qj κ c m∧ql κ c l=ql κ c m:=by
 induction h with
 |nil=>exact⟨rfl,rfl⟩
 |cons x _ ih=>unfold qj ql;rw[ih.1,ih.2];exact⟨rfl,rfl⟩
 |swap x y l=>simp only[qj,ql];omega
 |trans _ _ ih1 ih2=>exact⟨ih1.1.trans ih2.1,ih1.2.trans ih2.2⟩
def G7(ρ:Rl->Int)(l:List Iv):Prop:=∀i∈l,aW ρ i.b<aW ρ i.e
def G7.tail{ρ:Rl->Int}{i:Iv}{l:List Iv}(h:G7 ρ (i::l)):G7 ρ l:=fun x hx=>h x (List.mem_cons_of_mem _ hx)
def Zl{ρ:Rl->Int}{c:Int}:∀{l:List Iv},G7 ρ l->0<=qj (aW ρ) c (Dh l)∧(0<qj (aW ρ) c (Dh l)↔memB ρ l c=true)∧ql (aW ρ) c (Dh l)=0
 |[],_=>by simp[Dh,qj,ql,memB]
 |i::l,h=>by
  obtain⟨h1,h2,h3⟩:=Zl (c:=c) h.tail;have hi:=h i (List.mem_cons_self ..);have e:Dh (i::l)=(i.b,1,0)::(i.e,-1,0)::Dh l:=rfl;rw[e];unfold qj ql qj ql;dsimp only;have em:memB ρ (i::l) c=((decide (aW ρ i.b<=c)&&decide (c<aW ρ i.e))||memB ρ l c):=rfl;rw[em,h3,Bool.or_eq_true,Bool.and_eq_true,decide_eq_true_eq,decide_eq_true_eq,<-h2]
  by_cases a1:aW ρ i.b<=c
  ·by_cases a2:aW ρ i.e<=c
   ·rw[if_pos a1,if_pos a2,if_pos a1,if_pos a2];omega
   ·rw[if_pos a1,if_neg a2,if_pos a1,if_neg a2];omega
  ·rw[if_neg a1,if_neg ae,if_neg a1,if_neg ae];omega
def Zm{ρ:Rl->Int}{c:Int}:∀{l:List Iv},G7 ρ l->0<=ql (aW ρ) c (IZ l)∧(0<ql (aW ρ) c (IZ l)↔memB ρ l c=true)∧qj (aW ρ) c (IZ l)=0
 |[],_=>by simp[IZ,qj,ql,memB]
 |i::l,h=>by
  obtain⟨h1,h2,h3⟩:=Zm (c:=c) h.tail;have hi:=h i (List.mem_cons_self ..);have e:IZ (i::l)=(i.b,0,1)::(i.e,0,-1)::IZ l:=rfl;rw[e];unfold qj ql qj ql;dsimp only;have em:memB ρ (i::l) c=((decide (aW ρ i.b<=c)&&decide (c<aW ρ i.e))||memB ρ l c):=rfl;rw[em,h3,Bool.or_eq_true,Bool.and_eq_true,decide_eq_true_eq,decide_eq_true_eq,<-h2]
  by_cases a1:aW ρ i.b<=c
  ·by_cases a2:aW ρ i.e<=c
   ·rw[if_pos a1,if_pos a2,if_pos a1,if_pos a2];omega
   ·rw[if_pos a1,if_neg a2,if_pos a1,if_neg a2];omega
  ·rw[if_neg a1,if_neg ae,if_neg a1,if_neg ae];omega
theorem qiY{ρ:Rl->Int}{a b:List Iv}{keep:Bool->Bool->Bool}{l:List (qB×Int×Int)}(ha:G7 ρ a)(hb:G7 ρ b)(hp:l.Perm (Dh a++IZ b))(hs:l.Pairwise (fun x y=>aW ρ x.1<=aW ρ y.1)):
 NI (aW ρ) keep l 0 0 none=iE (fun c=>keep (memB ρ a (aW ρ c)) (memB ρ b (aW ρ c))) none (vV (aW ρ) (l.map (·.1))):=by
 rw[SK hs];refine oW fun c _=>?_
 obtain⟨e1,e2⟩:=qev (κ:=aW ρ) (c:=aW ρ c) hp;obtain⟨_,a2,a3⟩:=Zl (c:=aW ρ c) ha;obtain⟨_,b2,b3⟩:=Zm (c:=aW ρ c) hb;rw[e1,e2,Iq,Ir,a3,b3,Int.zero_add,Int.zero_add,Int.add_zero,Int.zero_add]
 congr 1
 ·rw[Bool.eq_iff_iff,decide_eq_true_eq];exact a2
 ·rw[Bool.eq_iff_iff,decide_eq_true_eq];exact b2
end Go.Via
namespace Go.Via
open Go
def FD:Nat->Nat->Nat
 |0,_=>0
 |k+1,n=>let s:=2*FD k (n/4);if(s+1)*(s+1)<=n then s+1 else s
def bT(n:Nat):Nat:=FD (n.log2+1) n
def Ll:∀(k n:Nat),n<4^k->FD k n*FD k n<=n∧n<(FD k n+1)*(FD k n+1)
 |0,n,h=>by simp at h;subst h;simp[FD]
 |k+1,n,h=>by
  have ih:=Ll k (n/4) (by rw[Nat.pow_succ] at h;omega);unfold FD
  generalize FD k (n/4)=s at ih ⊢
  dsimp only;obtain⟨h1,h2⟩:=ih;have e1:(2*s)*(2*s)=4*(s*s):=kN
  have e2:(2*s+1+1)*(2*s+1+1)=4*((s+1)*(s+1)):=kN
  split
  ·rename_i h3
   refine⟨h3,?_⟩;rw[e2];omega
  ·rename_i h3
   rw[e1];refine⟨ae,ae⟩
def Lp(n:Nat):bT n*bT n<=n∧n<(bT n+1)*(bT n+1):=by
 refine Ll _ n ?_;have h:n<2^(n.log2+1):=Nat.lt_log2_self;exact Nat.lt_of_lt_of_le h (Nat.pow_le_pow_left ax _)
def WQ{a b:Nat}(h:a*a<b*b):a<b:=by
 refine Nat.lt_of_not_le fun h1=>?_
 have:=Nat.mul_le_mul h1 h1;omega
def Eb{n k:Nat}(h1:k*k<=n)(h2:n<(k+1)*(k+1)):bT n=k:=by
 obtain⟨a,b⟩:=Lp n;have c1:=WQ (Nat.lt_of_le_of_lt a h2);have c2:=WQ (Nat.lt_of_le_of_lt h1 b);omega
theorem UL(k:Nat):bT (k*k)=k:=Eb (Nat.le_refl _) (by
 have:(k+1)*(k+1)=k*k+2*k+1:=kN;omega)
def qbA{a x:Nat}(hx:0<x):a<((x+a/x)/2+1)*((x+a/x)/2+1):=by
 generalize hq:a/x=q
 generalize hm:(x+q)/2=m
 have h1:a<x*(q+1):=by
  have:=Nat.lt_mul_div_succ a hx;rw[hq] at this;exact this
 have h2:x+q+1<=2*m+2:=ae
 have h3:4*(x*(q+1))<=(x+(q+1))*(x+(q+1)):=by
  rcases Nat.le_total x (q+1) with h|h
  ·obtain⟨d,e⟩:=Nat.exists_eq_add_of_le h;rw[e];have:=Nat.zero_le (d*d);grind
  ·obtain⟨d,e⟩:=Nat.exists_eq_add_of_le h;rw[e];have:=Nat.zero_le (d*d);grind
 have h4:=Nat.mul_le_mul h2 h2;have e:(2*m+2)*(2*m+2)=4*((m+1)*(m+1)):=kN;have e2:x+(q+1)=x+q+1:=ae;rw[e2] at h3;omega
def WR{a x:Nat}(hx:0<x)(h:a<(x+1)*(x+1))(hn:x<=(x+a/x)/2):bT a=x:=by
 refine Eb ?_ h;have h1:x<=a/x:=ae
 exact(Nat.le_div_iff_mul_le hx).1 h1
def WS{a x:Nat}(ha:0<a)(hx:0<x):0<(x+a/x)/2:=by
 by_cases h:x=1
 ·subst h;rw[Nat.div_one];omega
 ·generalize a/x=q
  omega
def Cc(q:Rat):Bool:=decide (0<=q.num)&&(bT q.num.natAbs*bT q.num.natAbs==q.num.natAbs)&&(bT q.den*bT q.den==q.den)
def mZ(q:Rat):Rat:=Rat.divInt (bT q.num.natAbs) (bT q.den)
theorem Lr:Cc 0=true:=eX
theorem Ec:mZ 0=0:=eX
structure Qd where
 c0:Rat
 c1:Rat
 c2:Rat
deriving DecidableEq
def uI(f:Qd)(t:Rat):Rat:=f.c0+t*(f.c1+t*f.c2)
def Dj(f:Qd)(t:Rat):Rat:=f.c1+(f.c2+f.c2)*t
def mkR(p q r:Rat):Rl:=if Cc r=true then rl (p+q*mZ r) else⟨p,q*q*r,decide (dE q<0)⟩
def O8(f:Qd)(t:Rl):Rl:=mkR (uI f t.p+f.c2*t.r) (if t.n=true then-Dj f t.p else Dj f t.p) t.r
theorem AO(f:Qd)(q:Rat):O8 f (rl q)=rl (uI f q):=by
 unfold O8 mkR rl;dsimp only;rw[Lr,if_pos rfl,Ec];have e:uI f q+f.c2*0+(if false=true then-Dj f q else Dj f q)*0=uI f q:=kN
 rw[e]
def Rl.ok(x:Rl):Prop:=(x.r=0∧x.n=false)∨(0<x.r∧Cc x.r=false)
def qm3(x:Rat):Cc (x*x)=true:=by
 have hg:Nat.gcd (x.num*x.num).natAbs (x.den*x.den)=1:=by
  rw[Int.natAbs_mul];exact Nat.Coprime.mul_left (Nat.Coprime.mul_right x.reduced x.reduced) (Nat.Coprime.mul_right x.reduced x.reduced)
 have e:x*x=⟨x.num*x.num,x.den*x.den,Nat.mul_ne_zero x.den_nz x.den_nz,hg⟩:=by
  rw[Rat.mul_def];exact(Rat.mk_eq_normalize _ _ (Nat.mul_ne_zero x.den_nz x.den_nz) hg).symm
 rw[e];unfold Cc;dsimp only;rw[Int.natAbs_mul,UL,UL];have:0<=x.num*x.num:=by
  rcases Int.le_total 0 x.num with h|h
  ·exact Int.mul_nonneg h h
  ·exact Int.mul_nonneg_of_nonpos_of_nonpos h h
 simp[this]
def qkI(q:Rat):(rl q).ok:= .inl ⟨rfl,rfl⟩
def Rl.ok.r0{x:Rl}(h:x.ok):0<=x.r:=by rcases h with h|h<;>grind
def Rl.ok.rat{x:Rl}(h:x.ok)(h0:x.r=0):x=rl x.p:=by
 rcases h with h|h
 ·cases x;simp only[rl] at*;obtain⟨h1,h2⟩:=h;subst h1;subst h2;rfl
 ·grind
theorem qew{f:Qd}{t:Rl}(h:t.ok)(h0:t.r≠0):O8 f t=⟨uI f t.p+f.c2*t.r,Dj f t.p*Dj f t.p*t.r,decide (dE (o5 t*Dj f t.p)<0)⟩:=by
 unfold O8 mkR;have hs:Cc t.r=false:=qkH
 rw[hs,if_neg ax];unfold o5;cases t.n
 ·simp only[Bool.false_eq_true,if_false];rw[Rat.one_mul]
 ·simp only[if_true];have e1: -Dj f t.p* -Dj f t.p=Dj f t.p*Dj f t.p:=kN
  have e2: -1*Dj f t.p= -Dj f t.p:=kN;rw[e1,e2]
end Go.Via
namespace Go.Via
open Go
structure qs1(S:Rl->Prop):Prop where
 swap:∀{x y},S x->S y->bQ x y= -bQ y x
 trans:∀{x y z},S x->S y->S z->bQ x y<0->bQ y z<0->bQ x z<0
 eq0:∀{x y},S x->S y->bQ x y=0->x=y
end Go.Via
namespace Go.Via
open Go
def UM(k:Nat):List UInt8:=UInt8.ofNat (2^(k%8))::List.replicate (k/8) 0
theorem qbB(k:Nat):mJ (UM k)=2^k:=by
 unfold UM mJ;have h8:2^(k%8)<256:=by
  have:2^(k%8)<=2^7:=Nat.pow_le_pow_right ae ae;omega
 rw[List.reverse_cons,List.reverse_replicate,List.map_append,List.map_replicate,qH];have e0:val 256 (List.replicate (k/8) (UInt8.toNat 0))=0:=DK 256 (k/8);rw[e0,List.length_replicate];simp only[List.map_cons,List.map_nil,rJ];have e1:(UInt8.ofNat (2^(k%8))).toNat=2^(k%8):=CX
 rw[e1];have e2:val 256 []=0:=rfl;rw[e2,Nat.mul_zero,Nat.add_zero,Nat.zero_add];have e3:(256:Nat)=2^8:=rfl;rw[e3,<-Nat.pow_mul,<-Nat.pow_add]
 congr 1
 omega
def Zn(k:Nat):lQ (UM k)=bP (2^k):=by
 rw[<-qbB k];show lQ (UM k)=lQ (zH (mJ (UM k)));rw[GH];unfold UM;rw[List.head?_cons];intro h
 injection h with h
 have h8:2^(k%8)<256:=by
  have:2^(k%8)<=2^7:=Nat.pow_le_pow_right ae ae;omega
 have:=congrArg UInt8.toNat h;simp at this;have hp:0<2^(k%8):=Nat.pow_pos ae;omega
def zK(n:Nat):Nat:=n/256^(nb n-1)%256
def kS(n:Nat):Nat:=(8*(nb n-1)+Lib.bitLen (zK n)+1)/2
def QS(n:Nat):zK n<256:=Nat.mod_lt _ ae
def UN(n:Nat):Lib.bitLen (zK n)<=8:=Lib.bitLen_le _ 8 ae (QS n)
def WT{n:Nat}(h0:n≠0):n<2^kS n*2^kS n:=by
 have hp:=DX h0;have hn:n<256^nb n:=kH n;have e1:n/256^(nb n-1)<256:=by
  rw[Nat.div_lt_iff_lt_mul (Nat.pow_pos ae),<-Nat.pow_succ'];have:nb n-1+1=nb n:=ae
  rw[Nat.succ_eq_add_one,this];exact hn
 have e2:zK n=n/256^(nb n-1):=Nat.mod_eq_of_lt e1;have e3:zK n<2^Lib.bitLen (zK n):=by
  by_cases h:zK n=0
  ·rw[h];exact Nat.pow_pos ae
  ·exact(wU (Nat.lt_trans (QS n) ae) h).2.2
 have e4:n<(zK n+1)*256^(nb n-1):=by
  rw[e2];rw[Nat.mul_comm];exact Nat.lt_mul_div_succ n (Nat.pow_pos ae)
 have e5:(zK n+1)*256^(nb n-1)<=2^Lib.bitLen (zK n)*256^(nb n-1):=Nat.mul_le_mul_right _ e3;have e6:(256:Nat)=2^8:=rfl;have e7:2^Lib.bitLen (zK n)*256^(nb n-1)=2^(Lib.bitLen (zK n)+8*(nb n-1)):=by
  rw[e6,<-Nat.pow_mul,<-Nat.pow_add]
 have e8:2^(Lib.bitLen (zK n)+8*(nb n-1))<=2^(kS n+kS n):=Nat.pow_le_pow_right ae (by unfold kS;omega);rw[<-Nat.pow_add];omega
def qiZ(k:Nat):nb (2^k)<=k/8+1:=by
 refine nV ?_;have e6:(256:Nat)=2^8:=rfl;rw[e6,<-Nat.pow_mul];exact Nat.pow_lt_pow_right ae ae
def UO(n:Nat):kS n/8<=nb n:=by
 have:=UN n;unfold kS;omega
def UQ(n x:Nat):Prop:=0<x∧n<(x+1)*(x+1)∧nb x<=nb n+1
def UR{n:Nat}(h0:n≠0):UQ n (2^kS n):=by
 refine⟨Nat.pow_pos ae,?_,Nat.le_trans (qiZ _) (by have:=UO n;omega)⟩;have:=WT h0;have h:2^kS n*2^kS n<=(2^kS n+1)*(2^kS n+1):=Nat.mul_le_mul ae ae;omega
def WU{n x:Nat}(h0:n≠0)(h:UQ n x)(hlt:(x+n/x)/2<x):UQ n ((x+n/x)/2):=
 ⟨WS ae h.1,qbA h.1,Nat.le_trans (gK ae) h.2.2⟩
theorem qbC{n x:Nat}(h:UQ n x)(hge:¬(x+n/x)/2<x):bT n=x:=WR h.1 h.2.1 ae
theorem qi0:bP 2=⟨#[2]⟩:=by
 have:=Zn 1;rw[show(2:Nat)^1=2 from rfl] at this;rw[<-this];rfl
theorem UT(c:Nat):(⟨(Lib.repeatL (⟨#[0]⟩:ByteArray).data.toList c).toArray⟩:ByteArray)=lQ (List.replicate c 0):=by
 have:=Lib.repeatL_replicate 0 1 c;rw[Nat.mul_one] at this;show lQ (Lib.repeatL [0] c)=_;rw[show([0]:List UInt8)=List.replicate 1 0 from rfl,this]
def qi1{s:Int}(k:Nat)(hs:s=(k:Int))(hk:k<8):IntKind.u8.wrap (1*2^(min s.toNat IntKind.u8.bits))=((2^k:Nat):Int):=by
 subst hs;have:k=0∨k=1∨k=2∨k=3∨k=4∨k=5∨k=6∨k=7:=ae
 rcases this with rfl|rfl|rfl|rfl|rfl|rfl|rfl|rfl<;>rfl
def qbD{n:Nat}(h:(bP n==⟨#[]⟩)=true):n=0:=by rw[nS] at h;simpa using h
def WV{n:Nat}(h:(bP n==⟨#[]⟩)=false):n≠0:=by rw[nS] at h;simpa using h
end Go.Via
namespace Go.Proofs.YtaffcpfhedadhaaGreatDoor
open Go Go.Via
def UU(x:Nat)(h:x<256:=by omega):aP Tryz.prog 230 #[.int .u8 x] (.int .i64 (Lib.bitLen x:Nat)):=
 Am ak fun w=>Tryz.bits_Len8 (x:Int) w ae ae
def G8(c:Nat)(h:c<=100000000:=by omega):aP Tryz.prog 231 #[.string ⟨#[0]⟩,.int .i64 c] (.string (lQ (List.replicate c 0))):=by
 refine⟨ak,fun w=>?_⟩
 have:=Tryz.strings_Repeat ⟨#[0]⟩ c w ae (by show 1*c<=_;omega);rw[UT] at this;exact this.mono fun e w' ⟨h1,h2⟩=>⟨h1,h2.os,h2.tape,h2.output,h2.size,h2.block,fun m=>(show False from m).elim⟩
end Go.Proofs.YtaffcpfhedadhaaGreatDoor
namespace Go.Via
open Go Go.RowKit
def qex{q:Rat}:∀(z:SR (nb q.num.natAbs)×SR (nb q.den)),∀c∈([⟨z.1.b,3,NV .i64 (D8 q.num.natAbs),z.1.n,true⟩,⟨z.2.b,3,NV .i64 (D8 q.den),z.2.n,true⟩]:List aJ),c.own=true:=by
 intro z c hc;simp only[List.mem_cons,List.mem_nil_iff,or_false] at hc;rcases hc with rfl|rfl<;>rfl
def im(z:Int)(i:Nat):Int:=if z<0 then-((z.natAbs/256^i:Nat):Int) else((z.natAbs/256^i:Nat):Int)
def imR(z:Int)(i:Nat):Int:=if z<0 then-((D6 z.natAbs i:Nat):Int) else((D6 z.natAbs i:Nat):Int)
def qi3(z:Int):im z 0=z:=by unfold im;rw[Nat.pow_zero,Nat.div_one];split<;>omega
def qi4(z:Int)(i:Nat):(im z i).tmod 256=imR z i:=by
 unfold im imR D6
 split
 ·rw[Int.neg_tmod,show(256:Int)=((256:Nat):Int) from rfl,<-Int.ofNat_tmod]
 ·rw[show(256:Int)=((256:Nat):Int) from rfl,<-Int.ofNat_tmod]
def qi5{z:Int}{i:Nat}(h:imR z i<0):IntKind.i64.wrap (0-imR z i)=((D6 z.natAbs i:Nat):Int):=by
 have hd:=Au z.natAbs i;unfold imR at*
 by_cases hz:z<0
 ·rw[if_pos hz] at*;exact wi ae ae ae
 ·rw[if_neg hz] at*;omega
def qi6{z:Int}{i:Nat}(h:¬imR z i<0):imR z i=((D6 z.natAbs i:Nat):Int):=by
 unfold imR at*
 by_cases hz:z<0
 ·rw[if_pos hz] at*;omega
 ·rw[if_neg hz] at*
def qey{z:Int}{i:Nat}(h1: -9223372036854775808<=z)(h2:z<=9223372036854775807): -9223372036854775808<=im z i∧im z i<=9223372036854775807:=by
 have h3:z.natAbs/256^i<=z.natAbs:=Nat.div_le_self _ _;unfold im
 generalize z.natAbs/256^i=k at*
 split<;>omega
def qi7(z:Int)(i:Nat)(h1: -9223372036854775808<=z)(h2:z<=9223372036854775807):IntKind.i64.wrap ((im z i).tdiv 256)=im z (i+1):=by
 have e:(im z i).tdiv 256=im z (i+1):=by
  unfold im
  split
  ·rw[Int.neg_tdiv,show(256:Int)=((256:Nat):Int) from rfl,<-Int.ofNat_tdiv,WH]
  ·rw[show(256:Int)=((256:Nat):Int) from rfl,<-Int.ofNat_tdiv,WH]
 have:=qey (i:=i+1) h1 h2;exact wi (by rw[e];omega) (by rw[e];omega) e
def qpe{z:Int}{i:Nat}(h:(im z i !=0)=true):i<nb z.natAbs:=by
 have h1:im z i≠0:=zI;refine OV (Nat.pos_of_ne_zero fun e=>h1 ?_);unfold im;rw[e];split<;>rfl
def qm4{z:Int}{i:Nat}(h:(im z i !=0)=false)(hi:i<=nb z.natAbs):i=nb z.natAbs:=by
 have h1:im z i=0:=zI;refine OW (n:=z.natAbs) ?_ hi;unfold im at h1
 split at h1<;>omega
def qkJ{a:Int}(h1: -9223372036854775808<=a)(h2:a<=9223372036854775807):jD a<=8388608:=by
 have:jD a<=8:=nV ae;omega
def qez(z:Int):cO (z:Rat)<=nb z.natAbs+1:=by
 show max (nb z.natAbs) (nb 1)<=_;rw[uF];omega
theorem qm5(q:Rat):dm (-q)=dm q:=by unfold dm;rw[Rat.neg_den]
theorem qkK(q:Rat):Q (-q)= .agg #[.bool (decide (-q.num<0)),.string (bP q.num.natAbs),.bool false,.string (dm q)]:=by
 unfold Q;rw[qm5,Rat.neg_num,Int.natAbs_neg]
theorem qm6(n:Nat):(bP n !=⟨#[]⟩)=decide (n≠0):=by
 rw[BQ]
def qm7{q:Rat}(h:(!decide (q.num<0))=true):Value.agg #[.bool (bP q.num.natAbs !=⟨#[]⟩),.string (bP q.num.natAbs),.bool false,.string (dm q)]=Q (-q):=by
 rw[qkK,qm6];have h1:¬q.num<0:=zI
 rw[show decide (q.num.natAbs≠0)=decide (-q.num<0) from decide_eq_decide.2 ⟨fun _=>ae,fun _=>ae⟩]
def qm8{q:Rat}(h:(!decide (q.num<0))=false):Value.agg #[.bool false,.string (bP q.num.natAbs),.bool false,.string (dm q)]=Q (-q):=by
 rw[qkK];have h1:q.num<0:=zI
 rw[decide_eq_false (show¬ -q.num<0 by omega)]
def qeA{b:Bool}{s:ByteArray}(h:qo b s=false):∃z:Int,b=decide (z<0)∧s=bP z.natAbs:=by
 unfold qo at h;rw[Bool.or_eq_false_iff] at h;obtain⟨h1,h2⟩:=h;have hs:bP (mJ s.data.toList)=s:=qcl (s:=s) (fun e=>by rw[e] at h2;cases h2)
 by_cases h0:mJ s.data.toList=0
 ·refine⟨0,?_,?_⟩
  ·rw[h0,iW] at hs;rw[<-hs,GL] at h1
   simpa using h1
  ·rw[h0] at hs;rw[<-hs];rfl
 ·refine⟨if b then-(mJ s.data.toList:Int) else mJ s.data.toList,?_,?_⟩
  ·cases b
   ·simp only[Bool.false_eq_true,if_false];rw[decide_eq_false ae]
   ·simp only[if_true];rw[decide_eq_true ae]
  ·cases b
   ·simpa using hs.symm
   ·simpa using hs.symm
noncomputable def isQ(b1:Bool)(s1:ByteArray)(b2:Bool)(s2:ByteArray):Bool:= @decide (∃q:Rat,Value.agg #[.bool b1,.string s1,.bool b2,.string s2]=Q q) (Classical.propDecidable _)
theorem Jz{b1:Bool}{s1:ByteArray}{b2:Bool}{s2:ByteArray}:isQ b1 s1 b2 s2=true↔∃q:Rat,b1=decide (q.num<0)∧s1=bP q.num.natAbs∧b2=false∧s2=dm q:=by
 unfold isQ;rw[@decide_eq_true_iff _ (Classical.propDecidable _)]
 constructor
 ·rintro⟨q,h⟩;unfold Q at h;simp only[Value.agg.injEq,Array.mk.injEq,List.cons.injEq,Value.bool.injEq,Value.string.injEq,and_true] at h;exact⟨q,h⟩
 ·rintro⟨q,rfl,rfl,rfl,rfl⟩;exact⟨q,rfl⟩
def JA{b1:Bool}{s1:ByteArray}{b2:Bool}{s2:ByteArray}(h:¬∃q:Rat,b1=decide (q.num<0)∧s1=bP q.num.natAbs∧b2=false∧s2=dm q):isQ b1 s1 b2 s2=false:=by
 rw[<-Jz] at h;simpa using h
theorem qeB(z:Int):qo (decide (z<0)) (bP z.natAbs)=false:=by
 unfold qo;rw[Bool.or_eq_false_iff];refine⟨?_,?_⟩
 ·rw[nS]
  by_cases h:z.natAbs=0
  ·have:z=0:=ae
   subst this;rfl
  ·simp[h]
 ·have:=qcm z.natAbs;unfold qhg at this
  simpa using this
theorem qm9(q:Rat):qo false (dm q)=false:=by
 have h1:(0:Int)<=q.den:=ae;unfold dm
 split
 ·unfold qo;rfl
 ·have:=qeB (q.den:Int)
  rwa [decide_eq_false ae,Int.natAbs_natCast] at this
theorem qpf{b1:Bool}{s1:ByteArray}{b2:Bool}{s2:ByteArray}(h:qo b1 s1=true):isQ b1 s1 b2 s2=false:=JA fun⟨q,h1,h2,_,_⟩=>by
 rw[h1,h2,qeB] at h;cases h
theorem qpg{b1:Bool}{s1:ByteArray}{b2:Bool}{s2:ByteArray}(h:qo b2 s2=true):isQ b1 s1 b2 s2=false:=JA fun⟨q,h1,h2,h3,h4⟩=>by
 rw[h3,h4,qm9] at h;cases h
def qph{b1:Bool}{s1:ByteArray}{s2:ByteArray}:isQ b1 s1 true s2=false:=JA fun⟨q,h1,h2,h3,h4⟩=>by cases h3
theorem qpi{b1:Bool}{s1:ByteArray}{s2:ByteArray}(h:qo b1 s1=false)(h2:s2=⟨#[]⟩):isQ b1 s1 false s2=true:=by
 obtain⟨z,rfl,rfl⟩:=qeA h;exact Jz.2 ⟨(z:Rat),by rw[Rat.num_intCast],by rw[Rat.num_intCast],rfl,by unfold dm;rw[Rat.den_intCast,if_pos rfl,h2]⟩
def FH{m n:Nat}(h:bP m=bP n):m=n:=P9.1 h
def qna{z:Int}{d:Nat}(hd:0<d)(h:Nat.gcd z.natAbs d=1):∃q:Rat,q.num=z∧q.den=d:=⟨⟨z,d,ae,h⟩,rfl,rfl⟩
def qi8{z:Int}{d:Nat}(hd:0<d)(h1:d≠1)(h:Nat.gcd z.natAbs d=1):isQ (decide (z<0)) (bP z.natAbs) false (bP d)=true:=by
 obtain⟨q,rfl,rfl⟩:=qna hd h;exact Jz.2 ⟨q,rfl,rfl,rfl,by unfold dm;rw[if_neg h1]⟩
def qeC{z:Int}{d:Nat}(hd:0<d)(h:d=1∨Nat.gcd z.natAbs d≠1){b:Bool}:isQ b (bP z.natAbs) false (bP d)=false:=JA fun⟨q,h1,h2,h3,h4⟩=>by
 unfold dm at h4;have h2:=FH h2
 split at h4
 ·rename_i h5
  have:bP d=bP 0:=(by rw[h4,iW]);have:=FH this;omega
 ·rename_i h5
  have:=FH h4;subst this;rcases h with h|h
  ·exact h5 h
  ·exact h (by rw[h2];exact q.reduced)
def qkL{b:Bool}{s:ByteArray}(h:((if qo b s=true then(5:Int) else 0) !=0)=false):qo b s=false:=by
 cases hb:qo b s
 ·rfl
 ·rw[hb] at h;cases h
def qkM{b:Bool}{s:ByteArray}(h:((if qo b s=true then(5:Int) else 0) !=0)=true):qo b s=true:=by
 cases hb:qo b s
 ·rw[hb] at h;cases h
 ·rfl
def qnb{b:Bool}{s:ByteArray}(h:((b==false)&&(s==⟨#[]⟩))=true):b=false∧s=⟨#[]⟩:=by
 rw[Bool.and_eq_true] at h;exact⟨eq_of_beq h.1,qde h.2⟩
def qnc{z:Int}(h:((decide (z<0)==false)&&(bP z.natAbs==⟨#[]⟩))=false):z≠0:=fun e=>by
 subst e;rw[show(0:Int).natAbs=0 from rfl,iW,GL] at h;cases h
def qeD{e:Int}(h:decide (zZ e 1<=0)=true):e<=1:=by
 have:=of_decide_eq_true h;unfold zZ at this
 by_cases h1:e<1
 ·omega
 ·rw[if_neg h1] at this
  by_cases h2:1<e
  ·rw[if_pos h2] at this;omega
  ·omega
def qeE{e:Int}(h:decide (zZ e 1<=0)=false):1<e:=by
 have:=of_decide_eq_false h;unfold zZ at this
 by_cases h1:e<1
 ·rw[if_pos h1] at this;omega
 ·rw[if_neg h1] at this
  by_cases h2:1<e
  ·exact h2
  ·rw[if_neg h2] at this;omega
theorem qpj{z e:Int}(h0:e≠0)(h:e<=1):isQ (decide (z<0)) (bP z.natAbs) (decide (e<0)) (bP e.natAbs)=false:=by
 by_cases hn:e<0
 ·rw[decide_eq_true hn];exact qph
 ·rw[decide_eq_false hn];exact qeC ae (.inl ae)
def qi9{z e:Int}(h:(!((decide (((Int.gcd z e:Nat):Int)<0)==decide ((1:Int)<0))&&(bP ((Int.gcd z e:Nat):Int).natAbs==bP (1:Int).natAbs)))=true):Int.gcd z e≠1:=fun e1=>by
 rw[e1] at h;simp[yD] at h
def qja{z e:Int}(h:(!((decide (((Int.gcd z e:Nat):Int)<0)==decide ((1:Int)<0))&&(bP ((Int.gcd z e:Nat):Int).natAbs==bP (1:Int).natAbs)))=false):Int.gcd z e=1:=by
 rw[Bool.not_eq_false',Bool.and_eq_true,yD] at h;have:=FH (of_decide_eq_true h.2)
 simpa using this
theorem qpk{z e:Int}(h:1<e)(hg:Int.gcd z e≠1):isQ (decide (z<0)) (bP z.natAbs) (decide (e<0)) (bP e.natAbs)=false:=by
 rw[decide_eq_false (show¬e<0 by omega)];exact qeC ae (.inr hg)
theorem qnd{z e:Int}(h:1<e)(hg:Int.gcd z e=1):isQ (decide (z<0)) (bP z.natAbs) (decide (e<0)) (bP e.natAbs)=true:=by
 rw[decide_eq_false (show¬e<0 by omega)];exact qi8 ae ae hg
end Go.Via
