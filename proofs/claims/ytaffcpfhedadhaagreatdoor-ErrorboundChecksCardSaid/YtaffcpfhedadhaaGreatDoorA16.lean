/-
  Part 16 (chapter 32): lemmas, walks. Each theorem states its own conditions.
-/
import GoSem.Core.World
import Derived.MapKept
import Derived.WalkKit
import Derived.WalkSpells
import Derived.WalkLawsBesides
import Derived.Deep.LoopGhost
import Derived.Deep.AppendSrc
import Derived.Laws.BytesArg
import Derived.Laws.CopyRow
import Derived.Laws.AppendOwn
import Derived.Test.YtaffcpfhedadhaaGreatDoorProg
import Derived.Shelf.Strings.Builder1
import Derived.Shelf.Strings.Builder2
import Derived.Shelf.Small.Utf8
import Derived.Shelf.Small.Bits
import Derived.Shelf.Small.Strs
import Derived.Shelf.Small.Wraps
import Derived.Shelf.Strings.BuilderF
import Derived.Shelf.Strconv.Itoa0
import Derived.Shelf.Strings.Search1
import Derived.Shelf.Strings.Prefix
import Derived.Shelf.Strings.Runes
import Derived.Shelf.Strings.AsciiSet
import Derived.Shelf.Bits.Mul64
import Derived.Shelf.Strings.Repeat
import Derived.Shelf.Unicode.DecodeSlow
import Derived.Laws.Externs
import Derived.Lib.ItoaNum
import Derived.Deep.Upon
import Derived.Test.YtaffcpfhedadhaaGreatDoorA06
import Derived.Test.YtaffcpfhedadhaaGreatDoorA11
import Derived.Test.YtaffcpfhedadhaaGreatDoorA15
set_option linter.all false
set_option maxRecDepth 20000
set_option maxHeartbeats 20000000
section
variable{P Q:Prop}{T:Type}{R:T->Prop}
def qg8(h:P:=by
 subst h;rcases eH a with⟨ha,ea⟩|⟨ha,ea⟩|⟨ha,ea⟩
 ·exact qha
 ·exact qhb
 ·rw[eb,e,ea,ha];exact TN):=h
def Zb(h:P:=by
 unfold oD
 by_cases h1:m<n
 ·rw[if_pos h1];omega
 ·exact qsL):=h
def qsL(h:P:=by
 rw[if_neg h1]
 by_cases h2:n<m
 ·rw[if_pos h2];omega
 ·rw[if_neg h2];omega):=h
def NU(h:P:=by right;left;refine⟨bz,?_,?_⟩<;>grind):=h
def TN(h:P:=by right;right;refine⟨bz,?_,?_⟩<;>grind):=h
def TP(h:P:=by rw[qbt];congr 1;exact this.symm):=h
def qg9(h:P:=by have:D8 0=[]:=List.eq_nil_of_length_eq_zero (by rw[lG,lU]);rw[this];rfl):=h
def qha(h:P:=by have:=xx ha ha;rw[eb,e,ea];exact NW):=h
def NW(h:P:=by left;refine⟨bz,?_,?_⟩<;>grind):=h
def qhb(h:P:=by have:=xx (show 0< -a by grind) (show 0< -a by grind);rw[eb,e,ea];exact NU):=h
def qhc(h:P:=by rw[vU _ _ q.den_nz,vU _ _ p.den_nz];exact h):=h
def qqg(h:P:=by rw[Int.natAbs_mul,Int.natAbs_mul,Int.natAbs_natCast,Int.natAbs_natCast];exact hle):=h
def qb3(h:P:=by rcases eH q with h|h|h<;>simp[h.2]):=h
def qhd(h:P:=by rcases lu p q with h|h|h<;>simp[h.2]):=h
def qhe(h:P:=by cases c<;>cases d<;>simp<;>omega):=h
def eP(h:P:=by decide+kernel):=h
def Wn(h:P:=by rcases h with h|h;exact absurd h.1 h0;exact h.2):=h
def qb4(h:P:=by simpa using hx):=h
end
namespace Go.Via
open Go
theorem fQ(i:Nat):0<256^i:=Nat.pow_pos ae
def l9(n:Nat):n%256<256:=Nat.mod_lt _ ae
def Wp(X Y i:Nat):Nat:=(X%256^i+Y%256^i)/256^i+X/256^i%256+Y/256^i%256
def Fv(X Y i:Nat):Nat:=(X%256^i+Y%256^i)/256^i
def zK(X Y i:Nat):Fv X Y i<=1:=by
 unfold Fv;have h1:=Nat.mod_lt X (fQ i);have h2:=Nat.mod_lt Y (fQ i);have:(X%256^i+Y%256^i)/256^i<2:=by rw[Nat.div_lt_iff_lt_mul (fQ i)];omega
 omega
theorem qea(X Y:Nat):Fv X Y 0=0:=by simp[Fv,Nat.mod_one]
theorem TQ(X Y i:Nat):Wp X Y i=Fv X Y i+X/256^i%256+Y/256^i%256:=rfl
def DV(X Y i:Nat):Wp X Y i<512:=by
 have:=zK X Y i;have h1:=l9 (X/256^i);have h2:=l9 (Y/256^i);rw[TQ];omega
theorem Zc(X Y i:Nat):Wp X Y i/256=Fv X Y (i+1):=by
 show _/256=_;unfold Wp Fv;rw[Nat.pow_succ,Nat.mod_mul,Nat.mod_mul,<-Nat.div_div_eq_div_mul]
 congr 1
 have e:X%256^i+256^i*(X/256^i%256)+(Y%256^i+256^i*(Y/256^i%256))=(X%256^i+Y%256^i)+256^i*(X/256^i%256+Y/256^i%256):=(by rw[Nat.mul_add];omega);rw[e,Nat.add_mul_div_left _ _ (fQ i)];omega
theorem qhf(X Y i:Nat):Wp X Y i%256=(X+Y)/256^i%256:=by
 show _%256=_;have e:X+Y=(X%256^i+Y%256^i)+256^i*(X/256^i+Y/256^i):=by
  have h1:=Nat.mod_add_div X (256^i);have h2:=Nat.mod_add_div Y (256^i);rw[Nat.mul_add];omega
 conv=>rhs;rw[e]
 rw[Nat.add_mul_div_left _ _ (fQ i)];unfold Wp
 generalize(X%256^i+Y%256^i)/256^i=c
 generalize X/256^i=p
 generalize Y/256^i=q
 rw[Nat.add_assoc,Nat.add_mod,<-Nat.add_mod p q,<-Nat.add_mod]
def zL(m n i:Nat):Nat:=if m%256^i<n%256^i then 1 else 0
theorem qeb(m n:Nat):zL m n 0=0:=by simp[zL,Nat.mod_one]
def TR(m n i:Nat):zL m n i<=1:=by unfold zL;split<;>omega
def qb5{m n i:Nat}(h:n<=m):(m-n)/256^i+n/256^i+zL m n i=m/256^i:=by
 have h1:=Nat.mod_add_div m (256^i);have h2:=Nat.mod_add_div n (256^i);have h3:=Nat.mod_lt m (fQ i);have h4:=Nat.mod_lt n (fQ i);have hp:=fQ i
 generalize hP:256^i=P at*
 generalize m/P=M at*
 generalize n/P=N at*
 unfold zL;exact qp9
theorem Q8(m n i:Nat):zL m n (i+1)=if m/256^i%256<n/256^i%256+zL m n i then 1 else 0:=by
 unfold zL;rw[Nat.pow_succ,Nat.mod_mul,Nat.mod_mul];have h3:=Nat.mod_lt m (fQ i);have h4:=Nat.mod_lt n (fQ i)
 generalize m/256^i%256=x
 generalize n/256^i%256=y
 generalize hP:256^i=P at*
 exact qgB
def qob{m n i:Nat}(h:n<=m)(hd:m/256^i%256<n/256^i%256+zL m n i):m/256^i%256+256=(m-n)/256^i%256+n/256^i%256+zL m n i∧zL m n (i+1)=1:=by
 refine⟨?_,by rw[Q8,if_pos hd]⟩;have h1:=qb5 (i:=i) h;have h2:=TR m n i;omega
def qoc{m n i:Nat}(h:n<=m)(hd:¬m/256^i%256<n/256^i%256+zL m n i):m/256^i%256=(m-n)/256^i%256+n/256^i%256+zL m n i∧zL m n (i+1)=0:=by
 refine⟨?_,by rw[Q8,if_neg hd]⟩;have h1:=qb5 (i:=i) h;have h2:=TR m n i;omega
theorem yU{Y i:Nat}(h:nb Y<=i):Y/256^i%256=0:=by
 rw[Nat.div_eq_of_lt (Nat.lt_of_lt_of_le (kw Y) (gJ h))]
def qhg(a b i:Nat)(ha:nb a<=i)(hb:nb b<=i)(hc:Fv a b i=0):a+b<256^i:=by
 unfold Fv at hc;rw[Nat.mod_eq_of_lt (Nat.lt_of_lt_of_le (kw a) (gJ ha)),Nat.mod_eq_of_lt (Nat.lt_of_lt_of_le (kw b) (gJ hb))] at hc;exact(Nat.div_eq_zero_iff_lt (fQ i)).1 hc
def qec(a b i:Nat)(h:0<Fv a b i)(ha:nb a<=i)(hb:nb b<=i):i<=max (nb a) (nb b):=by
 rcases Nat.lt_or_ge (max (nb a) (nb b)) i with c|c
 ·exfalso
  have h1:a<256^(i-1):=Nat.lt_of_lt_of_le (kw a) (gJ ae);have h2:b<256^(i-1):=Nat.lt_of_lt_of_le (kw b) (gJ ae);have h3:256^i=256^(i-1)*256:=(by rw[<-Nat.pow_succ,show(i-1).succ=i by omega]);unfold Fv at h;rw[Nat.mod_eq_of_lt ae,Nat.mod_eq_of_lt ae,Nat.div_eq_of_lt ae] at h;omega
 ·exact c
theorem qod(N k:Nat)(h:N<256^k):val 256 (row k (Fq N))=N:=by
 unfold Fq;rw[qf 256 ae,Nat.mod_eq_of_lt h]
theorem NY(N k:Nat)(h:N<256^k):ah 256 (val 256 (row k (Fq N)))=D8 N:=by rw[qod N k h];rfl
def Wq(N k:Nat)(h:N<256^k):NV .i64 (D8 N)=(NV .i64 (row k (Fq N))).take (nb N):=by
 have:=yS (B:=256) ae (oG (n:=k) (fun j=>BU N j));rw[NY N k h] at this;exact TP
def uU(m n i:Nat):Nat:=m%256^i*n
def Ej(m n i k:Nat):Nat:=(uU m n i/256^i%256^k+m/256^i%256*(n%256^k))/256^k
def Fz(m n i k:Nat):Nat:=Ej m n i k+uU m n i/256^(i+k)%256+m/256^i%256*(n/256^k%256)
def NZ(m n i k j:Nat):Nat:=if j<i+k then uU m n (i+1)/256^j%256 else uU m n i/256^j%256
def FB(m n i j:Nat):Nat:=uU m n i/256^j%256
theorem Q9(m n i:Nat):uU m n (i+1)=uU m n i+256^i*(m/256^i%256*n):=by
 unfold uU;exact YU
theorem qed(m n i:Nat):Ej m n i 0=0:=by simp[Ej,Nat.mod_one]
def DW(m n i k:Nat):Ej m n i k<256:=by
 unfold Ej;rw[Nat.div_lt_iff_lt_mul (fQ k)];have h1:=Nat.mod_lt (uU m n i/256^i) (fQ k);have h2:=Nat.mod_lt n (fQ k);have h3:m/256^i%256+1<=256:=Nat.mod_lt _ au;have h4:(m/256^i%256)*(n%256^k)<=(m/256^i%256)*(256^k):=Nat.mul_le_mul_left _ ae;have h5:(m/256^i%256+1)*256^k<=256*256^k:=Nat.mul_le_mul_right _ h3;rw[Nat.add_mul] at h5;omega
theorem zM(V i k:Nat):V/256^(i+k)=V/256^i/256^k:=qqa
theorem N7(m n i k:Nat):Fz m n i k/256=Ej m n i (k+1):=by
 show _/256=_;unfold Fz Ej;rw[zM,Nat.pow_succ,Nat.mod_mul,Nat.mod_mul,<-Nat.div_div_eq_div_mul]
 congr 1
 generalize m/256^i%256=dd
 generalize uU m n i/256^i=A
 have e:A%256^k+256^k*(A/256^k%256)+dd*(n%256^k+256^k*(n/256^k%256))=(A%256^k+dd*(n%256^k))+256^k*(A/256^k%256+dd*(n/256^k%256)):=dQ;rw[e,Nat.add_mul_div_left _ _ (fQ k)];omega
theorem Ws(m n i k:Nat):Fz m n i k%256=uU m n (i+1)/256^(i+k)%256:=by
 show _%256=_;unfold Fz Ej;rw[zM,zM,Q9,Nat.add_mul_div_left _ _ (fQ i)]
 generalize m/256^i%256=dd
 generalize uU m n i/256^i=A
 have e:A+dd*n=(A%256^k+dd*(n%256^k))+256^k*(A/256^k+dd*(n/256^k)):=by
  have h1:=Nat.mod_add_div A (256^k);have h2:=Nat.mod_add_div n (256^k)
  conv=>lhs;rw[<-h1,<-h2]
  grind
 conv=>rhs;rw[e]
 rw[Nat.add_mul_div_left _ _ (fQ k)]
 generalize(A%256^k+dd*(n%256^k))/256^k=c
 generalize A/256^k=p
 generalize n/256^k=q
 have e2:∀x y z w:Nat,(x+y%256+z*(w%256))%256=(x+(y+z*w))%256:=by
  intro x y z w;have h1:=Nat.mod_add_div y 256;have h2:=Nat.mod_add_div w 256;have:x+(y+z*w)=(x+y%256+z*(w%256))+256*(y/256+z*(w/256)):=by
   conv=>lhs;rw[<-h1,<-h2]
   grind
  rw[this,Nat.add_mul_mod_self_left]
 exact e2 c p dd q
theorem qoe(m n i k:Nat):NZ m n i k (i+k)=uU m n i/256^(i+k)%256:=by unfold NZ;rw[if_neg ae]
theorem qee(m n i k j:Nat):NZ m n i (k+1) j=if j=i+k then Fz m n i k%256 else NZ m n i k j:=by
 rw[Ws];unfold NZ
 exact qgE
def qef(m n i j:Nat):NZ m n i 0 j=FB m n i j:=by
 unfold NZ FB
 split
 ·rename_i h
  rw[Q9];have e0:256^i=256^j*(256*256^(i-j-1)):=by
   rw[<-Nat.mul_assoc,<-Nat.pow_succ,<-Nat.pow_add,show j+1+(i-j-1)=i by omega]
  have e:256^i*(m/256^i%256*n)=256^j*(256*(256^(i-j-1)*(m/256^i%256*n))):=by
   generalize m/256^i%256*n=r
   rw[e0,Nat.mul_assoc,Nat.mul_assoc]
  rw[e,Nat.add_mul_div_left _ _ (fQ j),Nat.add_mul_mod_self_left]
 ·rfl
theorem LW(m n i:Nat):uU m n i<256^(i+nb n):=by
 unfold uU;rw[Nat.pow_add];have h1:=Nat.mod_lt m (fQ i);have h2:=kw n
 calc m%256^i*n<=256^i*n:=Nat.mul_le_mul_right _ (by omega)
  _<256^i*256^nb n:=(Nat.mul_lt_mul_left (fQ i)).2 h2
theorem qeg(m n j:Nat):FB m n 0 j=0:=by simp[FB,uU,Nat.mod_one]
def qhh(m n:Nat):val 256 (row (nb m+nb n+1) (FB m n (nb m)))=m*n:=by
 have e:uU m n (nb m)=m*n:=(by unfold uU;rw[Nat.mod_eq_of_lt (kw m)]);have h:=LW m n (nb m);rw[cu (g:=fun j=>m*n/256^j%256) (fun j hj=>by unfold FB;rw[e]),qf 256 au,Nat.mod_eq_of_lt];exact qgG
def qb6(m n i j:Nat):FB m n i j<256:=l9 _
def Wu(p q:Nat):p%256*(q%256)<=65025:=by
 have h1:p%256<=255:=ae;have h2:q%256<=255:=ae;exact Nat.mul_le_mul h1 h2
theorem I8(m n i:Nat){k:Nat}(hk:nb n<=k):Fz m n i k=Ej m n i k:=by
 unfold Fz;have h1:256^(i+nb n)<=256^(i+k):=gJ ae;rw[yU hk,Nat.div_eq_of_lt (Nat.lt_of_lt_of_le (LW m n i) h1)];simp
theorem qhi(m n i:Nat){k:Nat}(hk:nb n<=k):Ej m n i (k+1)=0:=by
 rw[<-N7,I8 m n i hk];have:=DW m n i k;omega
def qhj(m n i k:Nat)(h:0<Ej m n i k):k<=nb n:=by
 rcases Nat.lt_or_ge (nb n) k with c|c
 ·obtain⟨q,rfl⟩:∃q,k=q+1:=⟨k-1,ae⟩;rw[qhi m n i ae] at h;omega
 ·exact c
def qeh(m n i k j:Nat)(hk:nb n<=k)(hc:Ej m n i k=0):NZ m n i k j=FB m n (i+1) j:=by
 unfold NZ FB
 by_cases c:j<i+k
 ·rw[if_pos c]
 ·rw[if_neg c];have h1:256^(i+nb n)<=256^j:=gJ ae;rw[Nat.div_eq_of_lt (Nat.lt_of_lt_of_le (LW m n i) h1)]
  by_cases e:j=i+k
  ·subst e;rw[<-Ws,I8 m n i hk,hc]
  ·have h2:256^(i+1+nb n)<=256^j:=gJ ae;rw[Nat.div_eq_of_lt (Nat.lt_of_lt_of_le (LW m n (i+1)) h2)]
theorem Zd(m n:Nat):val 256 (row (nb m+nb n+1) (FB m n (nb m)))=m*n:=qhh m n
theorem Wv(m n:Nat):ah 256 (val 256 (row (nb m+nb n+1) (FB m n (nb m))))=D8 (m*n):=by rw[Zd];rfl
def qhk(m n:Nat):NV .i64 (D8 (m*n))=(NV .i64 (row (nb m+nb n+1) (FB m n (nb m)))).take (nb (m*n)):=by
 have:=yS (B:=256) ae (oG (n:=nb m+nb n+1) (fun j=>qb6 m n (nb m) j));rw[Wv] at this;exact TP
def qhl(m n i k:Nat):Fz m n i k<131072:=by
 have h1:=DW m n i k;have h2:=l9 (uU m n i/256^(i+k));have h3:=Wu (m/256^i) (n/256^k);unfold Fz;omega
def JZ(a b p:Nat):Nat:=a/256^(p+1)%b*256+a/256^p%256
def qhm(a b p:Nat)(hb:0<b):a/256^p=b*(a/256^(p+1)/b*256)+JZ a b p:=by
 have h1:=xI a p;have h2:=Nat.div_add_mod (a/256^(p+1)) b;unfold JZ
 conv=>lhs;rw[h1,<-h2]
 rw[Nat.add_mul,Nat.mul_assoc,Nat.add_assoc]
def Ze(a b p:Nat)(hb:0<b):JZ a b p<256*b:=by
 unfold JZ;have h1:a/256^(p+1)%b+1<=b:=Nat.mod_lt _ hb;have h2:=l9 (a/256^p);omega
theorem qof(a b p:Nat)(hb:0<b):JZ a b p/b=a/b/256^p%256:=by
 have h1:=qhm a b p hb;have h2:JZ a b p/b<256:=(by rw[Nat.div_lt_iff_lt_mul hb];exact Ze a b p hb);have e:a/b/256^p=a/256^p/b:=qqb;rw[e,h1,Nat.mul_add_div hb,Nat.mul_comm _ 256,Nat.mul_add_mod,Nat.mod_eq_of_lt h2]
theorem qog(a b p:Nat)(hb:0<b):JZ a b p%b=a/256^p%b:=by
 have h1:=qhm a b p hb
 conv=>rhs;rw[h1]
 rw[Nat.mul_add_mod]
def qoh(R d:Nat)(hd:d<256):val 256 (d::D8 R)=R*256+d:=by
 show d+256*val 256 (D8 R)=_;unfold D8;rw[sZ ae];omega
def dq8{a b p q r:Nat}(hb:0<b)(h:q*b+r=JZ a b p)(hr:r<b):q=a/b/256^p%256∧r=a/256^p%b:=by
 rw[<-qof a b p hb,<-qog a b p hb,<-h,Nat.mul_comm q b];exact⟨by rw[Nat.mul_add_div hb,Nat.div_eq_of_lt hr];omega,by rw[Nat.mul_add_mod,Nat.mod_eq_of_lt hr]⟩
def qhn{a b p q r s:Nat}(hb:0<b)(h:q*b+r=JZ a b p)(hs:s*b<=r):q+s<256:=by
 have h1:=Ze a b p hb;have h2:(q+s)*b<256*b:=(by rw[Nat.add_mul];omega);exact Nat.lt_of_mul_lt_mul_right h2
def Wx{a b p q r s:Nat}(h:q*b+r=JZ a b p)(hs:s*b<=r):(q+s)*b+(r-s*b)=JZ a b p:=by rw[Nat.add_mul];omega
def Wy(a b p k:Nat):Nat:=if k<p then 0 else a/b/256^k%256
end Go.Via
namespace Go.Via
variable[Mo]
open Go Go.RowKit
theorem kL{m n:Nat}:0<=oD m n↔n<=m:=by
 exact Zb
def xJ{m n:Nat}:oD m n<=0↔m<=n:=by
 exact Zb
theorem G9{m n:Nat}:oD m n<0↔m<n:=by
 exact Zb
def qho{a b:Nat}(x:SR (nb a)):(SR (nb (a/b))×SR (nb (a%b))) ⊕ PLift (a<b)->Value
 | .inl z=> .tuple #[z.1.v,z.2.v]
 | .inr _=> .tuple #[.slice none 0 0,x.v]
def TS{a b:Nat}:(SR (nb (a/b))×SR (nb (a%b))) ⊕ PLift (a<b)->List aF
 | .inl z=>[⟨z.1.b,3,NV .i64 (D8 (a/b)),z.1.n,true⟩,⟨z.2.b,3,NV .i64 (D8 (a%b)),z.2.n,true⟩]
 | .inr _=>[]
def qh{B:Bs}{X:Act->World->Prop}{nt:Nat}{t:List (Nat×Value)}{L:List aF}{b:aF}(k:Nat)(hk:L[k]? =some b)(h:(b.base=none->b.cs=[])->At B ⟨nt,t,L⟩ X):At B ⟨nt,t,L⟩ X:=
 fun a w hr=>h (fun hb=>((hr.mem.blk k b hk).2 hb).1) a w hr
def qsM{P:Program}{bl:List Nat}{ops:Array Oper}{K:St->Prop}{rest:List Oper}{nt:Nat}{t:List (Nat×Value)}{L:List aF}{d:Nat}{ty:TypeId}{pos:String}{af:Array Edge}{g:Option (Nat×Bool)}{x y:Operand}
 {T e:Nat}{z:Value}{gx:Nat}{d0 R:Nat}{ob:Option Nat}{oN oc:Nat}{o2:Bool}(k k2:Nat)(mk:Option Nat->Nat->List aF)(hT:P.underlying T=some (.slice e))(hi:Nk P e 1 z)(hd:Nat.blt d nt=true)
 (hg:az ops ⟨some d,.call {callee:= .builtin .append,args:= #[x,y],argTypes:= #[T,T]},ty,pos,af,g⟩ t=some true)
 (hk:L[k]? =some ⟨some gx,e,[.int .i64 (d0:Nat)],1,true⟩)(hx:ev t x=some (aB (some gx) 0 1 1))(hk2:L[k2]? =some ⟨ob,3,NV .i64 (D8 R),oN,o2⟩)(hb:ob=none->NV .i64 (D8 R)=[])(hy:ev t y=some (aB ob 0 (nb R) oc))
 (hzs:z.cells.size=1)(hmax:nb R<=1073741824)(hL:∀b n,L.set k ⟨b,e,NV .i64 (d0::D8 R),n,true⟩=mk b n)
 (h:∀r:SR (nb R+1),aU P bl ops rest ⟨nt,(d,r.v)::t,mk r.b r.n⟩ K):
 aU P bl ops (⟨some d,.call {callee:= .builtin .append,args:= #[x,y],argTypes:= #[T,T]},ty,pos,af,g⟩::rest) ⟨nt,t,L⟩ K:=by
 by_cases h0:nb R=0
 ·have hD:D8 R=[]:=List.eq_nil_of_length_eq_zero (by rw[lG];exact h0);have:=h ⟨some gx,1,1,ae⟩;rw[<-hL] at this;unfold SR.v at this;simp only[h0,hD] at this;have e1:L.set k ⟨some gx,e,NV .i64 [d0],1,true⟩=L:=by
   obtain⟨hlt,he⟩:=List.getElem?_eq_some_iff.1 hk;exact(congrArg (L.set k) he.symm).trans (List.set_getElem_self hlt)
  rw[e1] at this;obtain⟨inf,i1,i2,i3,i5⟩:=vK hi;rw[h0] at hy;exact qdx hT i1 hd hg hx (Nat.le_refl 1) hy this
 ·obtain⟨g2,rfl⟩:∃g2,ob=some g2:=by
   cases ob with
   |none=>
    have:=congrArg List.length (hb rfl);rw[jJ,lG] at this;exact absurd this h0
   |some g2=>exact⟨g2,rfl⟩
  refine mO (s:=1) (len:=1) (n2:=nb R) k k2 (fun r=>mk (some r.g) r.n) hT hi hd hg hk rfl rfl hx hk2 rfl hy rfl hzs (by simpa using(by omega:0<nb R)) rfl (Nat.le_refl _) (Nat.le_refl _) (by rw[jJ,lG];omega) (Tq _ _) ae (fun r=>?_) (fun r=>?_)
  ·rw[<-hL];rfl
  ·have h1:=h ⟨some r.g,r.n,r.cap,by have:=r.h;omega⟩;unfold SR.v at h1;have e:aB (some r.g) 0 (1+nb R) r.cap=aB (some r.g) 0 (nb R+1) r.cap:=congrArg (fun n=>aB (some r.g) 0 n r.cap) (Nat.add_comm 1 (nb R));rw[e];exact h1
theorem qb7(a b q:Nat):val 256 (a/256^q%256::D8 (a/256^(q+1)%b))=JZ a b q:=qoh _ _ (l9 _)
def I9(a b q:Nat):∀d∈a/256^q%256::D8 (a/256^(q+1)%b),d<256:=fun d hd=>by
 rcases List.mem_cons.1 hd with rfl|hd
 ·exact l9 _
 ·exact qqf _ d hd
theorem WA(a b q:Nat):(ah 256 (val 256 (a/256^q%256::D8 (a/256^(q+1)%b)))).length=nb (JZ a b q):=by rw[qb7];rfl
def qhp(a b q:Nat):nb (JZ a b q)<=nb (a/256^(q+1)%b)+1:=by
 rw[<-WA];exact Nat.le_trans (iw au (IL au (I9 a b q))) (by simp[lG])
def WB(a b q:Nat):NV .i64 (D8 (JZ a b q))=(NV .i64 (a/256^q%256::D8 (a/256^(q+1)%b))).take (nb (JZ a b q)):=by
 have:=yS (B:=256) ae (I9 a b q);rw[qb7] at this;exact TP
theorem TT(a b:Nat):a/256^nb a%b=0:=by rw[Nat.div_eq_of_lt (kw a),Nat.zero_mod]
def qb8(a b:Nat):NV .i64 (D8 (a/256^nb a%b))=[]:=by
 rw[TT];exact qg9
def WC(a b:Nat):Value.slice none 0 0=aB none 0 (nb (a/256^nb a%b)) 0:=by rw[TT,lU];rfl
def Zf(a b q m k:Nat):Nat:=if k=q then m else Wy a b (q+1) k
theorem qsN(a b q m:Nat):Zf a b q m q=m:=by simp[Zf]
def WE(a b q k:Nat):Zf a b q 0 k=Wy a b (q+1) k:=by
 unfold Zf
 split
 ·rename_i h;subst h;simp[Wy]
 ·rfl
theorem qhq(a b q m m' k:Nat):Zf a b q m' k=if k=q then m' else Zf a b q m k:=by
 unfold Zf;split<;>rfl
def qoi(a b q k:Nat):Zf a b q (a/b/256^q%256) k=Wy a b q k:=by
 unfold Zf Wy
 by_cases h:k=q
 ·subst h;simp
 ·rw[if_neg h]
  by_cases c:k<q
  ·exact BJ
  ·exact BK
theorem qoj(a b:Nat){k:Nat}(h:k<nb a):Wy a b (nb a) k=0:=by unfold Wy;rw[if_pos h]
def qhr(a b p k:Nat):Wy a b p k<256:=by unfold Wy;split<;>omega
theorem qok(a b:Nat):val 256 (row (nb a) (Wy a b 0))=a/b:=by
 have h:a/b<256^nb a:=Nat.lt_of_le_of_lt (Nat.div_le_self _ _) (kw a);rw[cu (g:=fun j=>a/b/256^j%256) (fun j hj=>by unfold Wy;rw[if_neg ae]),qf 256 au,Nat.mod_eq_of_lt h]
theorem WF(a b:Nat):ah 256 (val 256 (row (nb a) (Wy a b 0)))=D8 (a/b):=by rw[qok];rfl
def qhs(a b:Nat):NV .i64 (D8 (a/b))=(NV .i64 (row (nb a) (Wy a b 0))).take (nb (a/b)):=by
 have:=yS (B:=256) ae (oG (n:=nb a) (fun j=>qhr a b 0 j));rw[WF] at this;exact TP
def qht{r b:Nat}(h:r<256*b):nb r<=nb b+1:=oh (by
 have:=kw b;rw[Nat.pow_succ];omega)
def qb9{a b p m r:Nat}(hb:0<b)(h:m*b+r=JZ a b p):nb r<=nb b+1:=qht (by have:=Ze a b p hb;have:=Nat.zero_le (m*b);omega)
end Go.Via
namespace Go.Via
theorem TU:NV .i64 (D8 0)=[]:=by
 exact qg9
end Go.Via
namespace Go.Via
variable[Mo]
open Go Go.RowKit
structure FS(bs:List (Option Nat))(len:Nat) where
 z:SR len
 o:Bool
 ho:o=true∨z.b∈bs
def N8{a b:Nat}(z:(SR (nb (a/b))×SR (nb (a%b))) ⊕ PLift (a<b)):∀c∈TS z,c.own=true:=by
 intro c hc;cases z with
 |inl z=>
  simp only[TS,List.mem_cons,List.mem_nil_iff,or_false] at hc;rcases hc with rfl|rfl<;>rfl
 |inr h=>cases hc
def qsO{B:Bs}{w:World}{L:List aF}{x y:aF}{c:aF}{o:Bool}{bb:Option Nat}(h:aX B L w)(k:Nat){b:aF}(hk:L[k]? =some b)(hb:b.base=bb)(hoo:b.own=o)(ho:o=true∨bb∈[x.base,y.base])(hc:c.base=bb):∀g,c.base=some g->B.own g∨∃b0∈[x,y],b0.base=some g:=by
 intro g hg;rcases ho with h1|h1
 ·exact .inl (LU h k hk (by rw[hoo];exact h1) g (by rw[hb,<-hc];exact hg))
 ·rw[hc] at hg;subst hg;simp only[List.mem_cons,List.mem_nil_iff,or_false] at h1;rcases h1 with h1|h1
  ·exact .inr ⟨x,bz,h1.symm⟩
  ·exact .inr ⟨y,bz,h1.symm⟩
def qei{m n a b:Nat}(h:Nat.gcd m n=Nat.gcd a b):Nat.gcd n (m%n)=Nat.gcd a b:=by
 rw[<-h,Nat.gcd_comm m n,Nat.gcd_rec n m,Nat.gcd_comm (m%n) n]
def qca{P:Program}{f a b:Nat}{x:SR (nb a)}{L0:List aF}{args:List Value}(hx:∀g,x.b=some g->∃b0∈L0,b0.base=some g)(hL0:L0[0]? =some ⟨x.b,3,NV .i64 (D8 a),x.n,false⟩)(h:bQ P f L0 args ((SR (nb (a/b))×SR (nb (a%b))) ⊕ PLift (a<b)) (qho x) TS):
 Ff P f L0 args (SR (nb (a/b))×SR (nb (a%b))) (fun z=> .tuple #[z.1.v,z.2.v]) (fun z=>[⟨z.1.b,3,NV .i64 (D8 (a/b)),z.1.n,false⟩,⟨z.2.b,3,NV .i64 (D8 (a%b)),z.2.n,false⟩]):=by
 refine⟨h.1,fun w hL=>(h.2 w hL).mono ?_⟩
 rintro e w' ⟨z,rfl,hz⟩;cases z with
 |inl z=>
  refine⟨z,rfl,hz.un,fun c hc g hg=> .inl ?_⟩
  simp only[List.mem_cons,List.mem_nil_iff,or_false] at hc;rcases hc with rfl|rfl
  ·exact JQ (LU hz 0 rfl rfl g hg)
  ·exact JQ (LU hz 1 rfl rfl g hg)
 |inr hlt=>
  have hlt:=hlt.down;refine⟨(⟨none,0,0,by rw[Nat.div_eq_of_lt hlt,lU];exact Nat.le_refl _⟩,⟨x.b,x.n,x.cap,by rw[Nat.mod_eq_of_lt hlt];exact x.h⟩),?_,?_,fun c hc g hg=>?_⟩
  ·show Ending.returned (.tuple #[Value.slice none 0 0,aB x.b 0 (nb a) x.cap])=Ending.returned (.tuple #[aB none 0 (nb (a/b)) 0,aB x.b 0 (nb (a%b)) x.cap]);rw[Nat.div_eq_of_lt hlt,Nat.mod_eq_of_lt hlt,lU];rfl
  ·refine(hL.same (hz:aX w [] w').below).picks [none,some 0] ⟨⟨rfl,by show NV .i64 (D8 (a/b))=[];rw[Nat.div_eq_of_lt hlt];exact TU,rfl⟩,⟨_,hL0,aV (by show(⟨x.b,3,NV .i64 (D8 (a%b)),x.n,false⟩:aF)=⟨x.b,3,NV .i64 (D8 a),x.n,false⟩;rw[Nat.mod_eq_of_lt hlt])⟩,trivial⟩ rfl rfl
  ·simp only[List.mem_cons,List.mem_nil_iff,or_false] at hc;rcases hc with rfl|rfl
   ·cases hg
   ·exact .inr (hx g hg)
end Go.Via
namespace Go.Via
open Go Go.RowKit
def dz(q:Rat):Int:=if q.den=1 then 0 else q.den
def qvk(q:Rat):Value.agg #[.bool false,.string (dm q)]=I (dz q):=by
 unfold dz dm I
 by_cases h:q.den=1
 ·simp only[if_pos h];rw[show(0:Int).natAbs=0 from rfl,iy];rfl
 ·simp only[if_neg h,Int.natAbs_natCast];rw[show decide (((q.den:Nat):Int)<0)=false from decide_eq_false ae]
theorem vT:nb 1=1:=by have h1:=oh (n:=1) (k:=1) ae;have h2:=Fh (u:=1) ae;omega
def qxN{q:Rat}(h:((nb (dz q).natAbs:Nat):Int)=0):q.den=1:=by
 unfold dz at h
 by_cases e:q.den=1
 ·exact e
 ·rw[if_neg e,Int.natAbs_natCast] at h;have:=Fh (u:=q.den) qfN;omega
def qxO{q:Rat}(h:¬((nb (dz q).natAbs:Nat):Int)=0):(dz q).natAbs=q.den:=by
 unfold dz at*
 by_cases e:q.den=1
 ·rw[if_pos e] at h;exact absurd (by rw[show(0:Int).natAbs=0 from rfl,lU];rfl) h
 ·rw[if_neg e,Int.natAbs_natCast]
def qvl(q:Rat):ji (dz q)<=bY q:=by
 unfold dz ji bY
 split
 ·rw[show(0:Int).natAbs=0 from rfl,lU];omega
 ·rw[Int.natAbs_natCast];omega
theorem Zg:D8 1=[1]:=by
 have h:=NT 1;rw[vT] at h;rw[<-h];simp[row,Fq]
def sg(neg:Bool)(n:Nat):Int:=if neg=true then-(n:Int) else(n:Int)
theorem qej(neg:Bool)(n:Nat):(sg neg n).natAbs=n:=by unfold sg;split<;>simp
theorem TV(neg:Bool)(n d:Nat):Int.gcd (sg neg n) d=Nat.gcd n d:=by rw[Int.gcd,qej,Int.natAbs_natCast]
theorem qhu(neg:Bool)(n d:Nat):sg neg n/(Int.gcd (sg neg n) d:Int)=sg neg (n/Nat.gcd n d):=by
 rw[TV];unfold sg
 split
 ·rw[Int.neg_ediv_of_dvd (Int.natCast_dvd_natCast.2 (Nat.gcd_dvd_left n d))];rfl
 ·rfl
def qhv{n d:Nat}(neg:Bool)(hd:0<d)(h1:d/Nat.gcd n d=1):Value.agg #[.bool (decide (sg neg (n/Nat.gcd n d)<0)),.string (bH (sg neg (n/Nat.gcd n d)).natAbs),aQ,aS]=Q (Rat.divInt (sg neg n) d):=by
 have:=Tf (n:=sg neg n) (d:=d) ae (by rw[TV];exact_mod_cast h1);rw[qhu] at this;exact this
def qhw{n d:Nat}(neg:Bool)(hd:0<d)(h1:d/Nat.gcd n d≠1):Value.agg #[.bool (decide (sg neg (n/Nat.gcd n d)<0)),.string (bH (sg neg (n/Nat.gcd n d)).natAbs),.bool (decide (((d/Nat.gcd n d:Nat):Int)<0)),.string (bH (((d/Nat.gcd n d:Nat):Int)).natAbs)]=Q (Rat.divInt (sg neg n) d):=by
 have:=Ti (n:=sg neg n) (d:=d) ae (by rw[TV];exact_mod_cast h1);rw[qhu,TV] at this;exact this
theorem TW{m:Nat}(h:nb m=1):m/256^0%256=m:=by
 have:=kw m;rw[h] at this;rw[Nat.pow_zero,Nat.div_one,Nat.mod_eq_of_lt ae]
def Ez{m:Nat}(h:¬((nb m:Nat):Int)=1):m≠1:=fun e=>h (by rw[e,vT];rfl)
def qol(n d:Int)(h:d≠0):Rat.divInt (sg (decide (n<0) !=decide (d<0)) n.natAbs) (d.natAbs:Int)=Rat.divInt n d:=by
 unfold sg
 by_cases hd:d<0
 ·have e:(d.natAbs:Int)= -d:=ae
  rw[e]
  by_cases hn:n<0
  ·rw[decide_eq_true hd,decide_eq_true hn];simp only[bne_self_eq_false,Bool.false_eq_true,if_false];rw[show(n.natAbs:Int)= -n by omega,Rat.neg_divInt_neg]
  ·rw[decide_eq_true hd,decide_eq_false hn];simp only[Bool.bne_true,Bool.not_false,if_true];rw[show(n.natAbs:Int)=n by omega,Rat.neg_divInt_neg]
 ·have e:(d.natAbs:Int)=d:=ae
  rw[e]
  by_cases hn:n<0
  ·rw[decide_eq_false hd,decide_eq_true hn];simp only[Bool.bne_false,if_true];rw[show-(n.natAbs:Int)=n by omega]
  ·rw[decide_eq_false hd,decide_eq_false hn];simp only[bne_self_eq_false,Bool.false_eq_true,if_false];rw[show(n.natAbs:Int)=n by omega]
def qsP(p q:Rat):Rat.divInt (sg (decide (p.num<0) !=decide (q.num<0)) (p.num.natAbs*q.num.natAbs)) ((p.den*q.den:Nat):Int)=p*q:=by
 rw[<-Nc p q,<-qbn p.num q.num];unfold sg;rw[Int.natCast_mul,Int.natCast_mul]
theorem vU(a:Int)(d:Nat)(h:d≠0):decide (a*(d:Int)<0)=decide (a<0):=by
 refine decide_eq_decide.2 ⟨fun h2=>?_,fun h2=>Int.mul_neg_of_neg_of_pos h2 ae⟩
 refine Int.not_le.1 fun h3=>?_
 have:=Int.mul_nonneg h3 (show(0:Int)<=d by omega);omega
theorem BV(p q:Rat):Rat.divInt (p.num*q.den+q.num*p.den) ((p.den*q.den:Nat):Int)=p+q:=by
 have h1:(p.den:Int)≠0:=BA p;have h2:(q.den:Int)≠0:=BA q
 conv=>rhs;rw[<-Rat.num_divInt_den p,<-Rat.num_divInt_den q]
 rw[Rat.divInt_add_divInt _ _ h1 h2,Int.natCast_mul]
def qom(p q:Rat)(h:(decide (p.num<0)==decide (q.num<0))=true):Rat.divInt (sg (decide (p.num<0)) (p.num.natAbs*q.den+q.num.natAbs*p.den)) ((p.den*q.den:Nat):Int)=p+q:=by
 rw[<-BV p q]
 congr 1
 have h1:=VG (p.num*q.den) (q.num*p.den) qhc;rw[vU _ _ q.den_nz,Int.natAbs_mul,Int.natAbs_mul,Int.natAbs_natCast,Int.natAbs_natCast] at h1;exact h1
def qon(p q:Rat)(h:(decide (p.num<0)==decide (q.num<0))=false)(hle:q.num.natAbs*p.den<=p.num.natAbs*q.den):Rat.divInt (sg (decide (p.num<0)) (p.num.natAbs*q.den-q.num.natAbs*p.den)) ((p.den*q.den:Nat):Int)=p+q:=by
 rw[<-BV p q]
 congr 1
 have h1:=QA (p.num*q.den) (q.num*p.den) qhc qqg;rw[vU _ _ q.den_nz,Int.natAbs_mul,Int.natAbs_mul,Int.natAbs_natCast,Int.natAbs_natCast] at h1;exact h1
def qoo(p q:Rat)(h:(decide (p.num<0)==decide (q.num<0))=false)(hle:p.num.natAbs*q.den<=q.num.natAbs*p.den):Rat.divInt (sg (decide (q.num<0)) (q.num.natAbs*p.den-p.num.natAbs*q.den)) ((p.den*q.den:Nat):Int)=p+q:=by
 rw[<-BV p q]
 congr 1
 have h1:=QB (p.num*q.den) (q.num*p.den) qhc qqg;rw[vU _ _ p.den_nz,Int.natAbs_mul,Int.natAbs_mul,Int.natAbs_natCast,Int.natAbs_natCast] at h1;exact h1
def WG{q:Rat}(h:q<0):q.num<0:=by
 refine Int.not_le.1 fun h1=>?_
 have:=Rat.num_nonneg.1 h1
 grind
def WH{q:Rat}(h:0<q):0<q.num:=by
 have h1:=Rat.num_nonneg.2 (show 0<=q by grind);have h2:q.num≠0:=fun e=>by have:=Rat.num_eq_zero.1 e;grind
 omega
def WI(p q:Rat):(p-q).num.sign=mJ p q:=by
 unfold mJ
 by_cases h:p<q
 ·rw[if_pos h];have:p-q<0:=dQ
  exact Int.sign_eq_neg_one_of_neg (WG this)
 ·rw[if_neg h]
  by_cases h2:q<p
  ·rw[if_pos h2];have:0<p-q:=dQ
   exact Int.sign_eq_one_of_pos (WH this)
  ·rw[if_neg h2];have:p-q=0:=dQ
   rw[this];rfl
end Go.Via
namespace Go.Via
open Go
structure Rl where
 p:Rat
 r:Rat
 n:Bool
deriving DecidableEq
def dB(q:Rat):Int:=q.num.sign
def pU(a b r:Rat):Int:=if dB b*dB r=0∨dB a=dB b*dB r then dB a else if dB a=0 then dB b*dB r else dB a*mJ (a*a) (b*b*r)
def jD(x:Rl):Rat:=if x.n=true then-1 else 1
def aY(x y:Rl):Int:=
 if dB (-jD y)*dB y.r=0∨pU (x.p-y.p) (jD x) x.r=dB (-jD y)*dB y.r then pU (x.p-y.p) (jD x) x.r
 else if pU (x.p-y.p) (jD x) x.r=0 then dB (-jD y)*dB y.r
 else pU (x.p-y.p) (jD x) x.r*pU ((x.p-y.p)*(x.p-y.p)+x.r-y.r) (2*((x.p-y.p)*jD x)) x.r
def rl(q:Rat):Rl:=⟨q,0,false⟩
theorem TY{q:Rat}(h:0<q):dB q=1:=by unfold dB;exact Int.sign_eq_one_of_pos (WH h)
theorem TZ{q:Rat}(h:q<0):dB q= -1:=by unfold dB;exact Int.sign_eq_neg_one_of_neg (WG h)
theorem BX:dB 0=0:=rfl
def eH(q:Rat):(0<q∧dB q=1)∨(q<0∧dB q= -1)∨(q=0∧dB q=0):=by
 by_cases h:0<q
 ·exact .inl ⟨h,TY h⟩
 ·by_cases h1:q<0
  ·exact .inr (.inl ⟨h1,TZ h1⟩)
  ·have:q=0:=dQ
   exact .inr (.inr ⟨this,by rw[this];rfl⟩)
def lu(p q:Rat):(p<q∧mJ p q= -1)∨(q<p∧mJ p q=1)∨(p=q∧mJ p q=0):=by
 unfold mJ
 by_cases h:p<q
 ·exact .inl ⟨h,if_pos h⟩
 ·by_cases h1:q<p
  ·exact .inr (.inl ⟨h1,by rw[if_neg h,if_pos h1]⟩)
  ·exact .inr (.inr ⟨dQ,by rw[if_neg h,if_neg h1]⟩)
theorem Ua(p q:Rat):dB (p-q)=mJ p q:=WI p q
theorem Ha(q:Rat):dB (-q)= -dB q:=by unfold dB;rw[Rat.neg_num];exact Int.sign_neg _
def WJ{a b r:Rat}(hr:0<=r):(pU a b r=1∧nn r a b∧¬nn r (-a) (-b))∨(pU a b r= -1∧nn r (-a) (-b)∧¬nn r a b)∨(pU a b r=0∧nn r a b∧nn r (-a) (-b)):=by
 have hr2:r<0->False:=fun h=>dQ
 unfold pU nn;rcases eH b with⟨hb,eb⟩|⟨hb,eb⟩|⟨hb,eb⟩
 ·rcases eH r with⟨h,e⟩|⟨h,e⟩|⟨h,e⟩
  ·have:=xx (xx hb hb) h;rcases eH a with⟨ha,ea⟩|⟨ha,ea⟩|⟨ha,ea⟩
   ·exact qha
   ·rcases lu (a*a) (b*b*r) with⟨hc,ec⟩|⟨hc,ec⟩|⟨hc,ec⟩
    ·rw[eb,e,ea,ec];exact NW
    ·rw[eb,e,ea,ec];exact NU
    ·rw[eb,e,ea,ec];exact TN
   ·rw[eb,e,ea,ha];exact NW
  ·exact absurd h (fun h=>hr2 h)
  ·exact qg8
 ·rcases eH r with⟨h,e⟩|⟨h,e⟩|⟨h,e⟩
  ·have:=xx (xx (show 0< -b by grind) (show 0< -b by grind)) h;rcases eH a with⟨ha,ea⟩|⟨ha,ea⟩|⟨ha,ea⟩
   ·rcases lu (a*a) (b*b*r) with⟨hc,ec⟩|⟨hc,ec⟩|⟨hc,ec⟩
    ·rw[eb,e,ea,ec];exact NU
    ·rw[eb,e,ea,ec];exact NW
    ·rw[eb,e,ea,ec];exact TN
   ·exact qhb
   ·rw[eb,e,ea,ha];exact NU
  ·exact absurd h (fun h=>hr2 h)
  ·exact qg8
 ·subst hb;rw[eb];rcases eH a with⟨ha,ea⟩|⟨ha,ea⟩|⟨ha,ea⟩
  ·have:=xx ha ha;rw[ea,Int.zero_mul];exact NW
  ·have:=xx (show 0< -a by grind) (show 0< -a by grind);rw[ea,Int.zero_mul];exact NU
  ·rw[ea,ha,Int.zero_mul];exact TN
theorem qsQ{a b r:Rat}(hr:0<=r):0<=pU a b r↔nn r a b:=by
 rcases WJ (a:=a) (b:=b) hr with⟨e,h1,h2⟩|⟨e,h1,h2⟩|⟨e,h1,h2⟩<;>rw[e]
 ·exact⟨fun _=>h1,fun _=>au⟩
 ·exact⟨fun h=>absurd h au,fun h=>absurd h h2⟩
 ·exact⟨fun _=>h1,fun _=>au⟩
theorem qsR{a b r:Rat}(hr:0<=r):pU a b r<=0↔nn r (-a) (-b):=by
 rcases WJ (a:=a) (b:=b) hr with⟨e,h1,h2⟩|⟨e,h1,h2⟩|⟨e,h1,h2⟩<;>rw[e]
 ·exact⟨fun h=>absurd h au,fun h=>absurd h h2⟩
 ·exact⟨fun _=>h1,fun _=>au⟩
 ·exact⟨fun _=>h2,fun _=>au⟩
theorem Zh(a b:Rat):pU a b 0=dB a:=by unfold pU;rw[BX,Int.mul_zero,if_pos (.inl rfl)]
theorem Ub(x:Rl):dB (jD x)=if x.n=true then-1 else 1:=by unfold jD;split<;>rfl
def Ja(x:Rl):jD x*jD x=1:=by unfold jD;split<;>grind
theorem He(x:Rl)(q:Rat):aY x (rl q)=pU (x.p-q) (jD x) x.r:=by
 unfold aY rl;dsimp only;rw[BX,Int.mul_zero,if_pos (.inl rfl)]
theorem sF(p q:Rat):aY (rl p) (rl q)=mJ p q:=by
 rw[He];unfold rl;dsimp only;rw[Zh,Ua]
theorem qhx(q:Rat)(y:Rl):aY (rl q) y=pU (q-y.p) (-jD y) y.r:=by
 unfold aY rl;dsimp only;rw[Zh,Zh];unfold pU;have e1: -jD y* -jD y*y.r=y.r:=by have:=Ja y;grind
 have e2:(q-y.p)*(q-y.p)+0-y.r=(q-y.p)*(q-y.p)-y.r:=dQ;rw[e1,e2,Ua,Ua]
theorem qop(a b r:Rat):pU (-a) (-b) r= -pU a b r:=by
 unfold pU;rw[Ha,Ha];have e1: -a* -a=a*a:=dQ
 have e2: -b* -b=b*b:=dQ;rw[e1,e2,Int.neg_mul]
 generalize dB b*dB r=n
 generalize dB a=m
 by_cases h:n=0
 ·rw[if_pos (.inl ae),if_pos (.inl h)]
 ·by_cases h1:m=n
  ·rw[if_pos (.inr ae),if_pos (.inr h1)]
  ·rw[if_neg (show¬(-n=0∨ -m= -n) by omega),if_neg (show¬(n=0∨m=n) by omega)]
   by_cases h2:m=0
   ·rw[if_pos (show-m=0 by omega),if_pos h2]
   ·rw[if_neg (show¬ -m=0 by omega),if_neg h2,Int.neg_mul]
theorem nU(q:Rat)(y:Rl):aY (rl q) y= -aY y (rl q):=by
 rw[qhx,He,<-qop];have: -(y.p-q)=q-y.p:=dQ
 rw[this]
theorem DX(x:Rl):aY x x=0:=by
 unfold aY;have e0:x.p-x.p=0:=dQ
 have e1:(0:Rat)*0+x.r-x.r=0:=dQ;have e2:(2:Rat)*(0*jD x)=0:=dQ;rw[e0,e1,e2,Ha,Ub];rcases eH x.r with⟨h,e⟩|⟨h,e⟩|⟨h,e⟩<;>unfold pU<;>rw[Ub,e,BX]<;>cases x.n<;>rfl
def rD(x y:Rl):aY x y= -1∨aY x y=0∨aY x y=1:=by
 have hs:∀q,dB q= -1∨dB q=0∨dB q=1:=fun q=>qb3
 have hm:∀{a b:Int},(a= -1∨a=0∨a=1)->(b= -1∨b=0∨b=1)->(a*b= -1∨a*b=0∨a*b=1):=fun h h'=>by
  rcases h with h|h|h<;>rcases h' with h'|h'|h'<;>simp[h,h']
 have hq:∀p q,mJ p q= -1∨mJ p q=0∨mJ p q=1:=fun p q=>qhd
 have h1:∀a b r,pU a b r= -1∨pU a b r=0∨pU a b r=1:=fun a b r=>by
  unfold pU;split
  ·exact hs _
  ·split
   ·exact hm (hs _) (hs _)
   ·exact hm (hs _) (hq _ _)
 unfold aY;split
 ·exact h1 _ _ _
 ·split
  ·exact hm (hs _) (hs _)
  ·exact hm (h1 _ _ _) (h1 _ _ _)
end Go.Via
namespace Go.Via
open Go
structure Iv where
 f:Rl
 t:Rl
 fo:Bool
 tp:Bool
deriving DecidableEq
abbrev oZ:=Rl×Bool
def PW(f l:oZ):Iv:=⟨f.1,l.1,f.2,!l.2⟩
def Iv.b(i:Iv):oZ:=(i.f,i.fo)
def Iv.e(i:Iv):oZ:=(i.t,!i.tp)
structure dM(S:Rl->Prop)(ρ:Rl->Int):Prop where
 lt:∀{x y},S x->S y->(aY x y<0↔ρ x<ρ y)
 gt:∀{x y},S x->S y->(0<aY x y↔ρ y<ρ x)
 inj:∀{x y},S x->S y->ρ x=ρ y->x=y
def aI(ρ:Rl->Int)(b:oZ):Int:=2*ρ b.1+(if b.2=true then 1 else 0)
def Uc{S:Rl->Prop}{ρ:Rl->Int}(T:dM S ρ){a b:oZ}(ha:S a.1)(hb:S b.1)(h:aI ρ a=aI ρ b):a=b:=by
 obtain⟨x,c⟩:=a;obtain⟨y,d⟩:=b;unfold aI at h;dsimp only at*;have:ρ x=ρ y∧c=d:=by cases c<;>cases d<;>simp at h ⊢ <;>omega
 rw[T.inj ha hb this.1,this.2]
def yg(a b:oZ):Int:=if aY a.1 b.1≠0 then aY a.1 b.1 else if a.2=b.2 then 0 else if b.2=true then-1 else 1
theorem Hf{S:Rl->Prop}{ρ:Rl->Int}(T:dM S ρ){a b:oZ}(ha:S a.1)(hb:S b.1):yg a b=Bz (aI ρ a) (aI ρ b):=by
 have h1:=T.lt ha hb;have h2:=T.gt ha hb;have h3:=rD a.1 b.1;unfold yg Bz aI;obtain⟨x,c⟩:=a;obtain⟨y,d⟩:=b;dsimp only at*
 generalize aY x y=z at*
 rcases h3 with h|h|h
 ·subst h;have:=h1.1 au;rw[if_pos au,if_pos qhe]
 ·subst h;have e:ρ x=ρ y:=by
   have a1:¬ρ x<ρ y:=fun e=>absurd (h1.2 e) au
   have a2:¬ρ y<ρ x:=fun e=>absurd (h2.2 e) au
   omega
  rw[e,if_neg au];cases c<;>cases d<;>simp
  ·intro h;omega
  ·rw[if_neg ae,if_pos ae]
 ·subst h;have:=h2.1 au;rw[if_pos au,if_neg qhe,if_pos qhe]
def memB(ρ:Rl->Int)(l:List Iv)(c:Int):Bool:=l.any fun i=>decide (aI ρ i.b<=c)&&decide (c<aI ρ i.e)
def Rf(here:Rl->Bool)(btw:Rl->Rl->Bool):Option oZ->List Rl->List (oZ×oZ)
 |_,[]=>[]
 |some f,[t]=>[(f,(t,here t))]
 |none,[t]=>if here t=true then[((t,false),(t,true))] else[]
 |some f,t::u::ts=>
  if here t=true then(if btw t u=true then Rf here btw (some f) (u::ts) else(f,(t,true))::Rf here btw none (u::ts))
  else(f,(t,false))::Rf here btw (if btw t u=true then some (t,true) else none) (u::ts)
 |none,t::u::ts=>
  if here t=true then(if btw t u=true then Rf here btw (some (t,false)) (u::ts) else((t,false),(t,true))::Rf here btw none (u::ts))
  else Rf here btw (if btw t u=true then some (t,true) else none) (u::ts)
def mW:List Rl->List oZ
 |[]=>[]
 |t::ts=>(t,false)::(t,true)::mW ts
def qsS(here:Rl->Bool)(btw:Rl->Rl->Bool)(g:oZ->Bool):List Rl->Prop
 |[]=>True
 |[t]=>g (t,false)=here t∧g (t,true)=false
 |t::u::ts=>g (t,false)=here t∧g (t,true)=btw t u∧qsS here btw g (u::ts)
theorem Hg{here:Rl->Bool}{btw:Rl->Rl->Bool}{g:oZ->Bool}:∀{ts:List Rl} {st:Option oZ},qsS here btw g ts->Rf here btw st ts=gm g st (mW ts)
 |[],none,_=>rfl
 |[],some _,_=>rfl
 |[t],none,h=>by
  obtain⟨h1,h2⟩:=h;unfold mW mW gm Rf;rw[h1];cases here t
  ·simp[gm,h2]
  ·simp[gm,h2]
 |[t],some f,h=>by
  obtain⟨h1,h2⟩:=h;unfold mW mW gm Rf;rw[h1];cases here t
  ·simp[gm,h2]
  ·simp[gm,h2]
 |t::u::ts,none,h=>by
  obtain⟨h1,h2,h3⟩:=h;have ih:=fun st=>Hg (st:=st) h3
  show _=gm g none ((t,false)::(t,true)::mW (u::ts));unfold Rf gm;rw[h1];cases here t
  ·simp only[Bool.false_eq_true,if_false];rw[ih];unfold gm;rw[h2];cases btw t u<;>rfl
  ·simp only[if_true];unfold gm;rw[h2];cases btw t u
   ·simp only[Bool.false_eq_true,if_false];rw[ih]
   ·simp only[if_true];rw[ih]
 |t::u::ts,some f,h=>by
  obtain⟨h1,h2,h3⟩:=h;have ih:=fun st=>Hg (st:=st) h3
  show _=gm g (some f) ((t,false)::(t,true)::mW (u::ts));unfold Rf gm;rw[h1];cases here t
  ·simp only[Bool.false_eq_true,if_false];rw[ih];unfold gm;rw[h2];cases btw t u<;>rfl
  ·simp only[if_true];unfold gm;rw[h2];cases btw t u
   ·simp only[Bool.false_eq_true,if_false];rw[ih]
   ·simp only[if_true];rw[ih]
def EC(l:List Iv):List (oZ×Int×Int):=l.flatMap fun i=>[(i.b,1,0),(i.e,-1,0)]
def KO(l:List Iv):List (oZ×Int×Int):=l.flatMap fun i=>[(i.b,0,1),(i.e,0,-1)]
theorem J3{α:Type}{κ:α->Int}{c:Int}:∀{l m:List (α×Int×Int)},qO κ c (l++m)=qO κ c l+qO κ c m
 |[],m=>by simp[qO]
 |e::l,m=>by simp only[List.cons_append,qO];rw[J3 (l:=l)];omega
theorem J4{α:Type}{κ:α->Int}{c:Int}:∀{l m:List (α×Int×Int)},qP κ c (l++m)=qP κ c l+qP κ c m
 |[],m=>by simp[qP]
 |e::l,m=>by simp only[List.cons_append,qP];rw[J4 (l:=l)];omega
def qhy{α:Type}{κ:α->Int}{c:Int}{l m:List (α×Int×Int)}(h:l.Perm m):qO κ c l=qO κ c m∧qP κ c l=qP κ c m:=by
 induction h with
 |nil=>exact⟨rfl,rfl⟩
 |cons x _ ih=>unfold qO qP;rw[ih.1,ih.2];exact⟨rfl,rfl⟩
 |swap x y l=>simp only[qO,qP];omega
 |trans _ _ ih1 ih2=>exact⟨ih1.1.trans ih2.1,ih1.2.trans ih2.2⟩
def IG(ρ:Rl->Int)(l:List Iv):Prop:=∀i∈l,aI ρ i.b<aI ρ i.e
def IG.tail{ρ:Rl->Int}{i:Iv}{l:List Iv}(h:IG ρ (i::l)):IG ρ l:=fun x hx=>h x (List.mem_cons_of_mem _ hx)
def qcb{ρ:Rl->Int}{c:Int}:∀{l:List Iv},IG ρ l->0<=qO (aI ρ) c (EC l)∧(0<qO (aI ρ) c (EC l)↔memB ρ l c=true)∧qP (aI ρ) c (EC l)=0
 |[],_=>by simp[EC,qO,qP,memB]
 |i::l,h=>by
  obtain⟨h1,h2,h3⟩:=qcb (c:=c) h.tail;have hi:=h i (List.mem_cons_self ..);have e:EC (i::l)=(i.b,1,0)::(i.e,-1,0)::EC l:=rfl;rw[e];unfold qO qP qO qP;dsimp only;have em:memB ρ (i::l) c=((decide (aI ρ i.b<=c)&&decide (c<aI ρ i.e))||memB ρ l c):=rfl;rw[em,h3,Bool.or_eq_true,Bool.and_eq_true,decide_eq_true_eq,decide_eq_true_eq,<-h2]
  by_cases a1:aI ρ i.b<=c
  ·by_cases a2:aI ρ i.e<=c
   ·rw[if_pos a1,if_pos a2,if_pos a1,if_pos a2];omega
   ·rw[if_pos a1,if_neg a2,if_pos a1,if_neg a2];omega
  ·rw[if_neg a1,if_neg ae,if_neg a1,if_neg ae];omega
def qcc{ρ:Rl->Int}{c:Int}:∀{l:List Iv},IG ρ l->0<=qP (aI ρ) c (KO l)∧(0<qP (aI ρ) c (KO l)↔memB ρ l c=true)∧qO (aI ρ) c (KO l)=0
 |[],_=>by simp[KO,qO,qP,memB]
 |i::l,h=>by
  obtain⟨h1,h2,h3⟩:=qcc (c:=c) h.tail;have hi:=h i (List.mem_cons_self ..);have e:KO (i::l)=(i.b,0,1)::(i.e,0,-1)::KO l:=rfl;rw[e];unfold qO qP qO qP;dsimp only;have em:memB ρ (i::l) c=((decide (aI ρ i.b<=c)&&decide (c<aI ρ i.e))||memB ρ l c):=rfl;rw[em,h3,Bool.or_eq_true,Bool.and_eq_true,decide_eq_true_eq,decide_eq_true_eq,<-h2]
  by_cases a1:aI ρ i.b<=c
  ·by_cases a2:aI ρ i.e<=c
   ·rw[if_pos a1,if_pos a2,if_pos a1,if_pos a2];omega
   ·rw[if_pos a1,if_neg a2,if_pos a1,if_neg a2];omega
  ·rw[if_neg a1,if_neg ae,if_neg a1,if_neg ae];omega
theorem qoq{ρ:Rl->Int}{a b:List Iv}{keep:Bool->Bool->Bool}{l:List (oZ×Int×Int)}(ha:IG ρ a)(hb:IG ρ b)(hp:l.Perm (EC a++KO b))(hs:l.Pairwise (fun x y=>aI ρ x.1<=aI ρ y.1)):
 PT (aI ρ) keep l 0 0 none=gm (fun c=>keep (memB ρ a (aI ρ c)) (memB ρ b (aI ρ c))) none (xu (aI ρ) (l.map (·.1))):=by
 rw[Vh hs];refine mg fun c _=>?_
 obtain⟨e1,e2⟩:=qhy (κ:=aI ρ) (c:=aI ρ c) hp;obtain⟨_,a2,a3⟩:=qcb (c:=aI ρ c) ha;obtain⟨_,b2,b3⟩:=qcc (c:=aI ρ c) hb;rw[e1,e2,J3,J4,a3,b3,Int.zero_add,Int.zero_add,Int.add_zero,Int.zero_add]
 congr 1
 ·rw[Bool.eq_iff_iff,decide_eq_true_eq];exact a2
 ·rw[Bool.eq_iff_iff,decide_eq_true_eq];exact b2
end Go.Via
namespace Go.Via
open Go
def Hl:Nat->Nat->Nat
 |0,_=>0
 |k+1,n=>let s:=2*Hl k (n/4);if(s+1)*(s+1)<=n then s+1 else s
def bU(n:Nat):Nat:=Hl (n.log2+1) n
def N9:∀(k n:Nat),n<4^k->Hl k n*Hl k n<=n∧n<(Hl k n+1)*(Hl k n+1)
 |0,n,h=>by simp at h;subst h;simp[Hl]
 |k+1,n,h=>by
  have ih:=N9 k (n/4) (by rw[Nat.pow_succ] at h;omega);unfold Hl
  generalize Hl k (n/4)=s at ih ⊢
  dsimp only;obtain⟨h1,h2⟩:=ih;have e1:(2*s)*(2*s)=4*(s*s):=dQ
  have e2:(2*s+1+1)*(2*s+1+1)=4*((s+1)*(s+1)):=dQ
  split
  ·rename_i h3
   refine⟨h3,?_⟩;rw[e2];omega
  ·rename_i h3
   rw[e1];refine⟨ae,ae⟩
def Oa(n:Nat):bU n*bU n<=n∧n<(bU n+1)*(bU n+1):=by
 refine N9 _ n ?_;have h:n<2^(n.log2+1):=Nat.lt_log2_self;exact Nat.lt_of_lt_of_le h (Nat.pow_le_pow_left au _)
def Zi{a b:Nat}(h:a*a<b*b):a<b:=by
 refine Nat.lt_of_not_le fun h1=>?_
 have:=Nat.mul_le_mul h1 h1;omega
def FC{n k:Nat}(h1:k*k<=n)(h2:n<(k+1)*(k+1)):bU n=k:=by
 obtain⟨a,b⟩:=Oa n;have c1:=Zi (Nat.lt_of_le_of_lt a h2);have c2:=Zi (Nat.lt_of_le_of_lt h1 b);omega
theorem WL(k:Nat):bU (k*k)=k:=FC (Nat.le_refl _) (by
 have:(k+1)*(k+1)=k*k+2*k+1:=dQ;omega)
def qek{a x:Nat}(hx:0<x):a<((x+a/x)/2+1)*((x+a/x)/2+1):=by
 generalize hq:a/x=q
 generalize hm:(x+q)/2=m
 have h1:a<x*(q+1):=by
  have:=Nat.lt_mul_div_succ a hx;rw[hq] at this;exact this
 have h2:x+q+1<=2*m+2:=ae
 have h3:4*(x*(q+1))<=(x+(q+1))*(x+(q+1)):=by
  rcases Nat.le_total x (q+1) with h|h
  ·obtain⟨d,e⟩:=Nat.exists_eq_add_of_le h;rw[e];have:=Nat.zero_le (d*d);grind
  ·obtain⟨d,e⟩:=Nat.exists_eq_add_of_le h;rw[e];have:=Nat.zero_le (d*d);grind
 have h4:=Nat.mul_le_mul h2 h2;have e:(2*m+2)*(2*m+2)=4*((m+1)*(m+1)):=dQ;have e2:x+(q+1)=x+q+1:=ae;rw[e2] at h3;omega
def Zj{a x:Nat}(hx:0<x)(h:a<(x+1)*(x+1))(hn:x<=(x+a/x)/2):bU a=x:=by
 refine FC ?_ h;have h1:x<=a/x:=ae
 exact(Nat.le_div_iff_mul_le hx).1 h1
def Zk{a x:Nat}(ha:0<a)(hx:0<x):0<(x+a/x)/2:=by
 by_cases h:x=1
 ·subst h;rw[Nat.div_one];omega
 ·generalize a/x=q
  omega
def Ap(q:Rat):Bool:=decide (0<=q.num)&&(bU q.num.natAbs*bU q.num.natAbs==q.num.natAbs)&&(bU q.den*bU q.den==q.den)
def mX(q:Rat):Rat:=Rat.divInt (bU q.num.natAbs) (bU q.den)
theorem Ob:Ap 0=true:=eP
theorem FD:mX 0=0:=eP
structure Qd where
 c0:Rat
 c1:Rat
 c2:Rat
deriving DecidableEq
def rE(f:Qd)(t:Rat):Rat:=f.c0+t*(f.c1+t*f.c2)
def vz(f:Qd)(t:Rat):Rat:=f.c1+(f.c2+f.c2)*t
def mkR(p q r:Rat):Rl:=if Ap r=true then rl (p+q*mX r) else⟨p,q*q*r,decide (dB q<0)⟩
def zN(f:Qd)(t:Rl):Rl:=mkR (rE f t.p+f.c2*t.r) (if t.n=true then-vz f t.p else vz f t.p) t.r
theorem rF(f:Qd)(q:Rat):zN f (rl q)=rl (rE f q):=by
 unfold zN mkR rl;dsimp only;rw[Ob,if_pos rfl,FD];have e:rE f q+f.c2*0+(if false=true then-vz f q else vz f q)*0=rE f q:=dQ
 rw[e]
def Rl.ok(x:Rl):Prop:=(x.r=0∧x.n=false)∨(0<x.r∧Ap x.r=false)
theorem Zl(x:Rat):Ap (x*x)=true:=by
 have hg:Nat.gcd (x.num*x.num).natAbs (x.den*x.den)=1:=by
  rw[Int.natAbs_mul];exact Nat.Coprime.mul_left (Nat.Coprime.mul_right x.reduced x.reduced) (Nat.Coprime.mul_right x.reduced x.reduced)
 have e:x*x=⟨x.num*x.num,x.den*x.den,Nat.mul_ne_zero x.den_nz x.den_nz,hg⟩:=by
  rw[Rat.mul_def];exact(Rat.mk_eq_normalize _ _ (Nat.mul_ne_zero x.den_nz x.den_nz) hg).symm
 rw[e];unfold Ap;dsimp only;rw[Int.natAbs_mul,WL,WL];have:0<=x.num*x.num:=by
  rcases Int.le_total 0 x.num with h|h
  ·exact Int.mul_nonneg h h
  ·exact Int.mul_nonneg_of_nonpos_of_nonpos h h
 simp[this]
def Oc(q:Rat):(rl q).ok:= .inl ⟨rfl,rfl⟩
def Rl.ok.r0{x:Rl}(h:x.ok):0<=x.r:=by rcases h with h|h<;>grind
theorem Rl.ok.rat{x:Rl}(h:x.ok)(h0:x.r=0):x=rl x.p:=by
 rcases h with h|h
 ·cases x;simp only[rl] at*;obtain⟨h1,h2⟩:=h;subst h1;subst h2;rfl
 ·grind
theorem Oe{f:Qd}{t:Rl}(h:t.ok)(h0:t.r≠0):zN f t=⟨rE f t.p+f.c2*t.r,vz f t.p*vz f t.p*t.r,decide (dB (jD t*vz f t.p)<0)⟩:=by
 unfold zN mkR;have hs:Ap t.r=false:=Wn
 rw[hs,if_neg au];unfold jD;cases t.n
 ·simp only[Bool.false_eq_true,if_false];rw[Rat.one_mul]
 ·simp only[if_true];have e1: -vz f t.p* -vz f t.p=vz f t.p*vz f t.p:=dQ
  have e2: -1*vz f t.p= -vz f t.p:=dQ;rw[e1,e2]
theorem Zm{x:Rl}{q:Rat}(hx:0<=x.r):aY x (rl q)<=0↔nn x.r (q-x.p) (-jD x):=by
 rw[He,qsR hx];have: -(x.p-q)=q-x.p:=dQ
 rw[this]
theorem LX{x:Rl}{q:Rat}(hx:0<=x.r):aY (rl q) x<=0↔nn x.r (x.p-q) (jD x):=by
 rw[nU,He];rw[<-qsQ (a:=x.p-q) (b:=jD x) hx];omega
theorem qvm{r u s:Rat}{n:Bool}(hn:n=decide (dB s<0)):nn (s*s*r) u (if n=true then 1 else-1)↔nn r u (-s):=by
 subst hn;unfold nn;rcases eH s with⟨h,e⟩|⟨h,e⟩|⟨h,e⟩<;>rw[e]
 ·rw[if_neg au];grind
 ·rw[if_pos au];grind
 ·subst h;rw[if_neg au];have e1: -(0:Rat)* -0*r=0:=dQ
  have e2:(0:Rat)*0*r=0:=dQ;have e3:(-1:Rat)* -1*(0*0*r)=0:=dQ;rw[e1,e3];have hu:u*u<=0->u=0:=fun h=>by
   have:=pV u;rcases Rat.mul_eq_zero.1 (show u*u=0 by grind) with h|h<;>exact h
  have hp:=pV u
  constructor
  ·rintro(h|h)
   ·exact .inl h
   ·exact absurd h.1 dQ
  ·rintro(h|h)
   ·exact .inl h
   ·exact .inl ⟨by rw[hu h.2];grind,hp⟩
theorem qsT{f:Qd}{t:Rl}{M:Rat}(h:t.ok)(h0:t.r≠0):aY (zN f t) (rl M)<=0↔nn t.r (M-(rE f t.p+f.c2*t.r)) (-(jD t*vz f t.p)):=by
 rw[Oe h h0,Zm]
 ·unfold jD;dsimp only;have e:vz f t.p*vz f t.p*t.r=((if t.n=true then-1 else 1)*vz f t.p)*((if t.n=true then-1 else 1)*vz f t.p)*t.r:=by split<;>grind
  rw[e,<-qvm (s:=((if t.n=true then-1 else 1)*vz f t.p)) rfl]
  generalize(if t.n=true then(-1:Rat) else 1)*vz f t.p=s
  have e3: -(if decide (dB s<0)=true then(-1:Rat) else 1)=if decide (dB s<0)=true then 1 else-1:=by split<;>grind
  rw[e3]
 ·dsimp only;exact eX (pV _) h.r0
def qsU{f:Qd}{t:Rl}{a b M:Rat}(h:t.ok)(h2:0<=f.c2)(ha:aY (rl a) t<=0)(hb:aY t (rl b)<=0)(fa:rE f a<=M)(fb:rE f b<=M):aY (zN f t) (rl M)<=0:=by
 by_cases h0:t.r=0
 ·have e:=h.rat h0;rw[e] at ha hb ⊢;rw[sF,qbp] at ha hb;rw[rF,sF,qbp]
  generalize t.p=x at*
  refine Rat.not_lt.1 fun hl=>?_
  have p1:=eX h2 (eX (show 0<=x-a by grind) (show 0<=b-x by grind));unfold rE at*
  by_cases hab:a=b
  ·have:x=a:=dQ
   subst this;grind
  ·have d:0<b-a:=dQ
   have q1:=eX (show 0<=x-a by grind) (show 0<=M-(f.c0+b*(f.c1+b*f.c2)) by grind);have q2:=eX (show 0<=b-x by grind) (show 0<=M-(f.c0+a*(f.c1+a*f.c2)) by grind);have q3:=xx d (show 0<(f.c0+x*(f.c1+x*f.c2))-M by grind);have q4:=eX (show 0<=b-a by grind) p1
   grind
 ·have hr:=h.r0;rw[qsT h h0];rw[LX hr] at ha;rw[Zm hr] at hb;have hab:0<b-a:=by
   have s:=SK hr ha hb;have e1:t.p-a+(b-t.p)=b-a:=dQ;have e2:jD t+ -jD t=0:=dQ;rw[e1,e2] at s;have hge:0<=b-a:=by
    rcases s with s|s
    ·exact s.1
    ·have:(b-a)*(b-a)<=0*0:=dQ
     have:=Gj (show(0:Rat)<=0 by grind) this
     grind
   by_cases hz:b=a
   ·exfalso
    subst hz;have hf:=Ja t;have e:t.r=(t.p-b)*(t.p-b):=by
     unfold nn at ha hb;have g1:jD t*jD t*t.r=t.r:=by rw[hf];grind
     have g2: -jD t* -jD t*t.r=t.r:=dQ;rw[g1] at ha;rw[g2] at hb;rcases eH (t.p-b) with⟨g,_⟩|⟨g,_⟩|⟨g,_⟩<;>rcases ha with ha|ha<;>rcases hb with hb|hb<;>grind
    have hs:Ap t.r=false:=Wn
    rw[e,Zl] at hs;cases hs
   ·grind
  have m1:=qfb hr ha hb;have m2:=AZ hr h2 m1;have m3:=AZ hr (show 0<=M-rE f b by grind) ha;have m4:=AZ hr (show 0<=M-rE f a by grind) hb;have m5:=AZ hr (show 0<=b-a by grind) m2;have m6:=SK hr (SK hr m3 m4) m5;have hc:(0:Rat)<=(b-a)⁻¹:=by
   have:=Rat.inv_pos.2 hab
   grind
  have m7:=AZ hr hc m6;have hf:=Ja t;have hi:(b-a)⁻¹*(b-a)=1:=Rat.inv_mul_cancel _ dQ;unfold rE vz at*;have e1:(b-a)⁻¹*((M-(f.c0+b*(f.c1+b*f.c2)))*(t.p-a)+(M-(f.c0+a*(f.c1+a*f.c2)))*(b-t.p)+(b-a)*(f.c2*((t.p-a)*(b-t.p)+jD t* -jD t*t.r)))=M-(f.c0+t.p*(f.c1+t.p*f.c2)+f.c2*t.r):=by
   grind
  have e2:(b-a)⁻¹*((M-(f.c0+b*(f.c1+b*f.c2)))*jD t+(M-(f.c0+a*(f.c1+a*f.c2)))* -jD t+(b-a)*(f.c2*((t.p-a)* -jD t+(b-t.p)*jD t)))= -(jD t*(f.c1+(f.c2+f.c2)*t.p)):=by
   grind
  rw[e1,e2] at m7;exact m7
end Go.Via
namespace Go.Via
open Go Go.RowKit
def qvn{q:Rat}:∀(z:SR (nb q.num.natAbs)×SR (nb q.den)),∀c∈([⟨z.1.b,3,NV .i64 (D8 q.num.natAbs),z.1.n,true⟩,⟨z.2.b,3,NV .i64 (D8 q.den),z.2.n,true⟩]:List aF),c.own=true:=by
 intro z c hc;simp only[List.mem_cons,List.mem_nil_iff,or_false] at hc;rcases hc with rfl|rfl<;>rfl
def im(z:Int)(i:Nat):Int:=if z<0 then-((z.natAbs/256^i:Nat):Int) else((z.natAbs/256^i:Nat):Int)
def imR(z:Int)(i:Nat):Int:=if z<0 then-((Fq z.natAbs i:Nat):Int) else((Fq z.natAbs i:Nat):Int)
def qot(z:Int):im z 0=z:=by unfold im;rw[Nat.pow_zero,Nat.div_one];split<;>omega
def qou(z:Int)(i:Nat):(im z i).tmod 256=imR z i:=by
 unfold im imR Fq
 split
 ·rw[Int.neg_tmod,show(256:Int)=((256:Nat):Int) from rfl,<-Int.ofNat_tmod]
 ·rw[show(256:Int)=((256:Nat):Int) from rfl,<-Int.ofNat_tmod]
def qov{z:Int}{i:Nat}(h:imR z i<0):IntKind.i64.wrap (0-imR z i)=((Fq z.natAbs i:Nat):Int):=by
 have hd:=BU z.natAbs i;unfold imR at*
 by_cases hz:z<0
 ·rw[if_pos hz] at*;exact wi ae ae ae
 ·rw[if_neg hz] at*;omega
def qow{z:Int}{i:Nat}(h:¬imR z i<0):imR z i=((Fq z.natAbs i:Nat):Int):=by
 unfold imR at*
 by_cases hz:z<0
 ·rw[if_pos hz] at*;omega
 ·rw[if_neg hz] at*
def qhz{z:Int}{i:Nat}(h1: -9223372036854775808<=z)(h2:z<=9223372036854775807): -9223372036854775808<=im z i∧im z i<=9223372036854775807:=by
 have h3:z.natAbs/256^i<=z.natAbs:=Nat.div_le_self _ _;unfold im
 generalize z.natAbs/256^i=k at*
 split<;>omega
def qox(z:Int)(i:Nat)(h1: -9223372036854775808<=z)(h2:z<=9223372036854775807):IntKind.i64.wrap ((im z i).tdiv 256)=im z (i+1):=by
 have e:(im z i).tdiv 256=im z (i+1):=by
  unfold im
  split
  ·rw[Int.neg_tdiv,show(256:Int)=((256:Nat):Int) from rfl,<-Int.ofNat_tdiv,Za]
  ·rw[show(256:Int)=((256:Nat):Int) from rfl,<-Int.ofNat_tdiv,Za]
 have:=qhz (i:=i+1) h1 h2;exact wi (by rw[e];omega) (by rw[e];omega) e
def qvo{z:Int}{i:Nat}(h:(im z i !=0)=true):i<nb z.natAbs:=by
 have h1:im z i≠0:=pX;refine Q5 (Nat.pos_of_ne_zero fun e=>h1 ?_);unfold im;rw[e];split<;>rfl
def qsV{z:Int}{i:Nat}(h:(im z i !=0)=false)(hi:i<=nb z.natAbs):i=nb z.natAbs:=by
 have h1:im z i=0:=pX;refine Q7 (n:=z.natAbs) ?_ hi;unfold im at h1
 split at h1<;>omega
def qqh{a:Int}(h1: -9223372036854775808<=a)(h2:a<=9223372036854775807):ji a<=8388608:=by
 have:ji a<=8:=oh ae;omega
def qhA(z:Int):bY (z:Rat)<=nb z.natAbs+1:=by
 show max (nb z.natAbs) (nb 1)<=_;rw[vT];omega
theorem qsW(q:Rat):dm (-q)=dm q:=by unfold dm;rw[Rat.neg_den]
theorem qqi(q:Rat):Q (-q)= .agg #[.bool (decide (-q.num<0)),.string (bH q.num.natAbs),.bool false,.string (dm q)]:=by
 unfold Q;rw[qsW,Rat.neg_num,Int.natAbs_neg]
theorem Zn(n:Nat):(bH n !=⟨#[]⟩)=decide (n≠0):=by
 rw[DN]
def qsX{q:Rat}(h:(!decide (q.num<0))=true):Value.agg #[.bool (bH q.num.natAbs !=⟨#[]⟩),.string (bH q.num.natAbs),.bool false,.string (dm q)]=Q (-q):=by
 rw[qqi,Zn];have h1:¬q.num<0:=pX
 rw[show decide (q.num.natAbs≠0)=decide (-q.num<0) from decide_eq_decide.2 ⟨fun _=>ae,fun _=>ae⟩]
def qsY{q:Rat}(h:(!decide (q.num<0))=false):Value.agg #[.bool false,.string (bH q.num.natAbs),.bool false,.string (dm q)]=Q (-q):=by
 rw[qqi];have h1:q.num<0:=pX
 rw[decide_eq_false (show¬ -q.num<0 by omega)]
def qhB{s:ByteArray}(h:(((s.size:Nat):Int)==0)=true):s=⟨#[]⟩:=by
 have h1:s.size=0:=by have:=eq_of_beq h;omega
 apply ByteArray.ext
 exact Array.eq_empty_of_size_eq_zero h1
def qhC{s:ByteArray}(h:(((s.size:Nat):Int)==0)=false):∃x l,s.data.toList=x::l:=by
 cases hl:s.data.toList with
 |nil=>
  exfalso
  have h1:s.size=0:=by
   show s.data.size=0;rw[<-Array.length_toList,hl];rfl
  rw[h1] at h;cases h
 |cons x l=>exact⟨x,l,rfl⟩
theorem qhD{b:Bool}{s:ByteArray}(h:s=⟨#[]⟩):(!b)=(!lq b s):=by
 subst h;unfold lq;cases b<;>simp[Bv]
theorem qel{b:Bool}{s:ByteArray}{x:UInt8}{l:List UInt8}(h:s.data.toList=x::l):((x.toNat:Int) !=0)=(!lq b s):=by
 have h0:(s==⟨#[]⟩)=false:=by
  rw[ui];refine decide_eq_false fun e=>?_
  rw[e] at h;cases h
 unfold lq;rw[h0,h,Bool.false_and,Bool.false_or];have e:((x.toNat:Int) !=0)= !(some x==some 0):=by
  have:(some x==some (0:UInt8))=(x==0):=rfl;show _= !(some x==some (0:UInt8));rw[this]
  by_cases hx:x=0
  ·subst hx;rfl
  ·have h1:x.toNat≠0:=fun e=>hx (UInt8.toNat_inj.1 e)
   have h2:(x==0)=false:=qb4;rw[h2];have h3:(x.toNat:Int)≠0:=ae
   simpa using h3
 exact e
def qvp(d:Nat):Value.agg #[.bool false,.string (bH d)]=I (d:Int):=(Yo d)
def WM{b:Bool}{s:ByteArray}(h:lq b s=false):∃z:Int,b=decide (z<0)∧s=bH z.natAbs:=by
 unfold lq at h;rw[Bool.or_eq_false_iff] at h;obtain⟨h1,h2⟩:=h;have hs:bH (mr s.data.toList)=s:=qfe (s:=s) (fun e=>by rw[e] at h2;cases h2)
 by_cases h0:mr s.data.toList=0
 ·refine⟨0,?_,?_⟩
  ·rw[h0,iy] at hs;rw[<-hs,Bv] at h1
   simpa using h1
  ·rw[h0] at hs;rw[<-hs];rfl
 ·refine⟨if b then-(mr s.data.toList:Int) else mr s.data.toList,?_,?_⟩
  ·cases b
   ·simp only[Bool.false_eq_true,if_false];rw[decide_eq_false ae]
   ·simp only[if_true];rw[decide_eq_true ae]
  ·cases b
   ·simpa using hs.symm
   ·simpa using hs.symm
def qvq{s:ByteArray}(h:(s==⟨#[]⟩)=false)(h2:lq false s=false):∃d:Nat,0<d∧s=bH d:=by
 obtain⟨z,hz,rfl⟩:=WM h2;refine⟨z.natAbs,Nat.pos_of_ne_zero fun e=>?_,rfl⟩
 rw[e,iy,Bv] at h;cases h
noncomputable def WN(b1:Bool)(s1:ByteArray)(b2:Bool)(s2:ByteArray):Bool:= @decide (∃q:Rat,Value.agg #[.bool b1,.string s1,.bool b2,.string s2]=Q q) (Classical.propDecidable _)
theorem Hm{b1:Bool}{s1:ByteArray}{b2:Bool}{s2:ByteArray}:WN b1 s1 b2 s2=true↔∃q:Rat,b1=decide (q.num<0)∧s1=bH q.num.natAbs∧b2=false∧s2=dm q:=by
 unfold WN;rw[@decide_eq_true_iff _ (Classical.propDecidable _)]
 constructor
 ·rintro⟨q,h⟩;unfold Q at h;simp only[Value.agg.injEq,Array.mk.injEq,List.cons.injEq,Value.bool.injEq,Value.string.injEq,and_true] at h;exact⟨q,h⟩
 ·rintro⟨q,rfl,rfl,rfl,rfl⟩;exact⟨q,rfl⟩
def LY{b1:Bool}{s1:ByteArray}{b2:Bool}{s2:ByteArray}(h:¬∃q:Rat,b1=decide (q.num<0)∧s1=bH q.num.natAbs∧b2=false∧s2=dm q):WN b1 s1 b2 s2=false:=by
 rw[<-Hm] at h;simpa using h
theorem qhE(z:Int):lq (decide (z<0)) (bH z.natAbs)=false:=by
 unfold lq;rw[Bool.or_eq_false_iff];refine⟨?_,?_⟩
 ·rw[nT]
  by_cases h:z.natAbs=0
  ·have:z=0:=ae
   subst this;rfl
  ·simp[h]
 ·have:=qff z.natAbs;unfold qmG at this
  simpa using this
theorem qsZ(q:Rat):lq false (dm q)=false:=by
 have h1:(0:Int)<=q.den:=ae;unfold dm
 split
 ·unfold lq;rfl
 ·have:=qhE (q.den:Int)
  rwa [decide_eq_false ae,Int.natAbs_natCast] at this
theorem qqj{b1:Bool}{s1:ByteArray}{b2:Bool}{s2:ByteArray}(h:lq b1 s1=true):WN b1 s1 b2 s2=false:=LY fun⟨q,h1,h2,_,_⟩=>by
 rw[h1,h2,qhE] at h;cases h
theorem qqk{b1:Bool}{s1:ByteArray}{b2:Bool}{s2:ByteArray}(h:lq b2 s2=true):WN b1 s1 b2 s2=false:=LY fun⟨q,h1,h2,h3,h4⟩=>by
 rw[h3,h4,qsZ] at h;cases h
theorem qql{b1:Bool}{s1:ByteArray}{s2:ByteArray}:WN b1 s1 true s2=false:=LY fun⟨q,h1,h2,h3,h4⟩=>by cases h3
theorem qqm{b1:Bool}{s1:ByteArray}{s2:ByteArray}(h:lq b1 s1=false)(h2:s2=⟨#[]⟩):WN b1 s1 false s2=true:=by
 obtain⟨z,rfl,rfl⟩:=WM h;exact Hm.2 ⟨(z:Rat),by rw[Rat.num_intCast],by rw[Rat.num_intCast],rfl,by unfold dm;rw[Rat.den_intCast,if_pos rfl,h2]⟩
def BZ{m n:Nat}(h:bH m=bH n):m=n:=SQ.1 h
def qs0{z:Int}{d:Nat}(hd:0<d)(h:Nat.gcd z.natAbs d=1):∃q:Rat,q.num=z∧q.den=d:=⟨⟨z,d,ae,h⟩,rfl,rfl⟩
theorem qcd{z:Int}{d:Nat}(hd:0<d)(h1:d≠1)(h:Nat.gcd z.natAbs d=1):WN (decide (z<0)) (bH z.natAbs) false (bH d)=true:=by
 obtain⟨q,rfl,rfl⟩:=qs0 hd h;exact Hm.2 ⟨q,rfl,rfl,rfl,by unfold dm;rw[if_neg h1]⟩
theorem Og{z:Int}{d:Nat}(hd:0<d)(h:d=1∨Nat.gcd z.natAbs d≠1){b:Bool}:WN b (bH z.natAbs) false (bH d)=false:=LY fun⟨q,h1,h2,h3,h4⟩=>by
 unfold dm at h4;have h2:=BZ h2
 split at h4
 ·rename_i h5
  have:bH d=bH 0:=(by rw[h4,iy]);have:=BZ this;omega
 ·rename_i h5
  have:=BZ h4;subst this;rcases h with h|h
  ·exact h5 h
  ·exact h (by rw[h2];exact q.reduced)
def qvr{z:Int}{d:Nat}(hd0:0<d)(hd1:d≠1)(hg:nb (Nat.gcd z.natAbs d)=1):(((Nat.gcd z.natAbs d/256^0%256:Nat):Int)==1)=WN (decide (z<0)) (bH z.natAbs) false (bH d):=by
 rw[TW hg]
 by_cases h:Nat.gcd z.natAbs d=1
 ·rw[qcd hd0 hd1 h,h];rfl
 ·rw[Og hd0 (.inr h)];have:((Nat.gcd z.natAbs d:Nat):Int)≠1:=ae
  simpa using this
def qvs{z:Int}{d:Nat}(hd0:0<d)(hg:Nat.gcd z.natAbs d≠1):false=WN (decide (z<0)) (bH z.natAbs) false (bH d):=(Og hd0 (.inr hg)).symm
def qvt{z:Int}{d:Nat}(hd1:d=1):false=WN (decide (z<0)) (bH z.natAbs) false (bH d):=(Og ae (.inl hd1)).symm
theorem WO:bH 1=⟨#[1]⟩:=qa5
def qoy{d:Nat}(h:(bH d !=⟨#[1]⟩)=true):d≠1:=fun e=>by
 subst e;rw[WO,bne,ui] at h;simp at h
def qoz{d:Nat}(h:(bH d !=⟨#[1]⟩)=false):d=1:=by
 rw[<-WO,bne,ui] at h;have:bH d=bH 1:=pX
 exact BZ this
def qqn{b:Bool}{s:ByteArray}(h:((if lq b s=true then(5:Int) else 0) !=0)=false):lq b s=false:=by
 cases hb:lq b s
 ·rfl
 ·rw[hb] at h;cases h
def qqo{b:Bool}{s:ByteArray}(h:((if lq b s=true then(5:Int) else 0) !=0)=true):lq b s=true:=by
 cases hb:lq b s
 ·rw[hb] at h;cases h
 ·rfl
def qs1{b:Bool}{s:ByteArray}(h:((b==false)&&(s==⟨#[]⟩))=true):b=false∧s=⟨#[]⟩:=by
 rw[Bool.and_eq_true] at h;exact⟨eq_of_beq h.1,Y4 h.2⟩
def qs2{z:Int}(h:((decide (z<0)==false)&&(bH z.natAbs==⟨#[]⟩))=false):z≠0:=fun e=>by
 subst e;rw[show(0:Int).natAbs=0 from rfl,iy,Bv] at h;cases h
def qhF{e:Int}(h:decide (Bz e 1<=0)=true):e<=1:=by
 have:=of_decide_eq_true h;unfold Bz at this
 by_cases h1:e<1
 ·omega
 ·rw[if_neg h1] at this
  by_cases h2:1<e
  ·rw[if_pos h2] at this;omega
  ·omega
def qhG{e:Int}(h:decide (Bz e 1<=0)=false):1<e:=by
 have:=of_decide_eq_false h;unfold Bz at this
 by_cases h1:e<1
 ·rw[if_pos h1] at this;omega
 ·rw[if_neg h1] at this
  by_cases h2:1<e
  ·exact h2
  ·rw[if_neg h2] at this;omega
theorem qvu{z e:Int}(h0:e≠0)(h:e<=1):WN (decide (z<0)) (bH z.natAbs) (decide (e<0)) (bH e.natAbs)=false:=by
 by_cases hn:e<0
 ·rw[decide_eq_true hn];exact qql
 ·rw[decide_eq_false hn];exact Og ae (.inl ae)
def qoA{z e:Int}(h:(!((decide (((Int.gcd z e:Nat):Int)<0)==decide ((1:Int)<0))&&(bH ((Int.gcd z e:Nat):Int).natAbs==bH (1:Int).natAbs)))=true):Int.gcd z e≠1:=fun e1=>by
 rw[e1] at h;simp[ui] at h
def qoB{z e:Int}(h:(!((decide (((Int.gcd z e:Nat):Int)<0)==decide ((1:Int)<0))&&(bH ((Int.gcd z e:Nat):Int).natAbs==bH (1:Int).natAbs)))=false):Int.gcd z e=1:=by
 rw[Bool.not_eq_false',Bool.and_eq_true,ui] at h;have:=BZ (of_decide_eq_true h.2)
 simpa using this
theorem qvv{z e:Int}(h:1<e)(hg:Int.gcd z e≠1):WN (decide (z<0)) (bH z.natAbs) (decide (e<0)) (bH e.natAbs)=false:=by
 rw[decide_eq_false (show¬e<0 by omega)];exact Og ae (.inr hg)
theorem qs3{z e:Int}(h:1<e)(hg:Int.gcd z e=1):WN (decide (z<0)) (bH z.natAbs) (decide (e<0)) (bH e.natAbs)=true:=by
 rw[decide_eq_false (show¬e<0 by omega)];exact qcd ae ae hg
end Go.Via
