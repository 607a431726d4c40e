/-
  Part 7 (chapter 32): lemmas, walks. Each theorem states its own conditions.
-/
import Derived.Test.YtaffcpfhedadhaaGreatDoorA02
import Derived.Test.YtaffcpfhedadhaaGreatDoorA03
import Derived.Test.YtaffcpfhedadhaaGreatDoorA04
import Derived.Test.YtaffcpfhedadhaaGreatDoorA06
set_option linter.all false
set_option maxRecDepth 20000
set_option maxHeartbeats 20000000
namespace Go.Via
open Go
def D8(n:Nat):List Nat:=ag 256 n
def bY(n:Nat):(D8 n).length=nb n:=rfl
def jk{n i:Nat}(h:i<nb n):(D8 n)[i]? =some (n/256^i%256):=lU (by omega) n i h
def wH(n q:Nat):n/256^q=n/256^(q+1)*256+n/256^q%256:=by
 rw[Nat.pow_succ,<-Nat.div_div_eq_div_mul];have:=Nat.div_add_mod (n/256^q) 256;omega
def NL{a b q:Nat}(h:a/256^q<b/256^q):a<b:=by
 rcases Nat.lt_or_ge a b with c|c
 ·exact c
 ·have:=Nat.div_le_div_right (c:=256^q) c;omega
def UJ{a b:Nat}(h:nb a<nb b):ng a b= -1:=by unfold ng;rw[if_pos (VY h)]
def UK{a b:Nat}(h:nb b<nb a):ng a b=1:=by
 have:=VY h;unfold ng;rw[if_neg (by omega),if_pos this]
def UL{a b q:Nat}(he:a/256^(q+1)=b/256^(q+1))(h:a/256^q%256<b/256^q%256):ng a b= -1:=by
 have h1:=wH a q;have h2:=wH b q;have:a<b:=NL (q:=q) (by omega);unfold ng;rw[if_pos this]
def UM{a b q:Nat}(he:a/256^(q+1)=b/256^(q+1))(h:b/256^q%256<a/256^q%256):ng a b=1:=by
 have h1:=wH a q;have h2:=wH b q;have:b<a:=NL (q:=q) (by omega);unfold ng;rw[if_neg (by omega),if_pos this]
def UN{a b q:Nat}(he:a/256^(q+1)=b/256^(q+1))(h1:¬a/256^q%256<b/256^q%256)(h2:¬b/256^q%256<a/256^q%256):a/256^q=b/256^q:=by
 have e1:=wH a q;have e2:=wH b q;omega
def qd2{a b:Nat}(h:nb a=nb b):a/256^nb a=b/256^nb a:=by
 rw[Nat.div_eq_of_lt (kK a),h,Nat.div_eq_of_lt (kK b)]
def qd3{a b:Nat}(h:a/256^0=b/256^0):ng a b=0:=by
 have:a=b:=(by simpa using h);subst this;unfold ng;rw[if_neg (Nat.lt_irrefl _),if_neg (Nat.lt_irrefl _)]
def qaw{n q:Nat}(h7:nb n<=7):n/256^q<72057594037927936:=by
 have h1:=pF h7;have:n/256^q<=n:=Nat.div_le_self _ _;omega
def Rt(n:Nat):row (nb n) (wX n (nb n) (nb n))=(ag 256 n).reverse:=by
 apply List.ext_getElem?
 intro j
 by_cases hj:j<nb n
 ·rw[bU hj,List.getElem?_reverse (by exact hj)];have e:=lU (B:=256) (by omega) n (nb n-1-j) (by unfold nb at*;omega);unfold nb at e hj ⊢;rw[e];unfold wX;rw[if_pos (by omega)]
 ·rw[List.getElem?_eq_none (by rw[ak];omega),List.getElem?_eq_none (by simp;unfold nb at hj;omega)]
def qd4(n:Nat):ag 256 (val 256 (D8 n))=D8 n:=by unfold D8;rw[sG (by omega)]
def qC(n j:Nat):Nat:=n/256^j%256
def Ak(n j:Nat):qC n j<256:=Nat.mod_lt _ (by decide)
def J3(n:Nat):row (nb n) (qC n)=D8 n:=(zZ (B:=256) (by omega) n).symm
def iV(k:IntKind)(i:Nat)(f:Nat->Nat)(d:Int)(h:d=((f i:Nat):Int)):NV k (row i f)++[.int k d]=NV k (row (i+1) f):=by
 subst h;unfold NV row;rw[List.range_succ,List.map_append,List.map_append];rfl
def one_cell(k:IntKind)(d:Int):∀v∈[Value.int k d],v.oneCell'=true:=by
 intro v hv;rw[List.mem_singleton.1 hv];rfl
def NM{n i:Nat}(h:0<n/256^i):i<nb n:=by
 rcases Nat.lt_or_ge i (nb n) with c|c
 ·exact c
 ·rw[Nat.div_eq_of_lt (Nat.lt_of_lt_of_le (kK n) (iy c))] at h;omega
def NP{n i:Nat}(h:n/256^i=0)(hi:i<=nb n):i=nb n:=by
 have h1:n<256^i:=(Nat.div_eq_zero_iff_lt (Nat.pow_pos (by omega))).1 h;have:=nY h1;omega
def UO(n i:Nat):n/256^i/256=n/256^(i+1):=by rw[Nat.pow_succ,Nat.div_div_eq_div_mul]
def qfN(n:Nat):∀d∈D8 n,d<256:=Bh (by omega)
def G9(n:Nat):(ag 256 (val 256 (D8 n))).length=nb n:=by rw[qd4];rfl
def Ru(n:Nat):(ag 256 (val 256 (row (nb n) (qC n)))).length=nb n:=by rw[J3,G9]
def qd5(n:Nat){neg:Bool}(h:neg=true):Value.agg #[.bool (decide ((0:Int)<nb n)),.string (bQ n)]=I (if neg=true then-(n:Int) else(n:Int)):=by
 rw[if_pos h];have e:=Du (n:=n);unfold I;have h1:decide ((0:Int)<nb n)=decide (-(n:Int)<0):=by
  by_cases c:n=0
  ·subst c;rw[kS];rfl
  ·rw[decide_eq_true (by omega),decide_eq_true (by omega)]
 rw[h1,Int.natAbs_neg,Int.natAbs_natCast]
def qd6(n:Nat){neg:Bool}(h:neg=false):Value.agg #[.bool false,.string (bQ n)]=I (if neg=true then-(n:Int) else(n:Int)):=by
 subst h;rw[if_neg (by decide)];unfold I;rw[decide_eq_false (by omega),Int.natAbs_natCast]
def gZ(i:Nat):0<256^i:=Nat.pow_pos (by omega)
def kN(n:Nat):n%256<256:=Nat.mod_lt _ (by omega)
def zx(X Y i:Nat):Nat:=(X%256^i+Y%256^i)/256^i+X/256^i%256+Y/256^i%256
def pM(X Y i:Nat):Nat:=(X%256^i+Y%256^i)/256^i
def yR(X Y i:Nat):pM X Y i<=1:=by
 unfold pM;have h1:=Nat.mod_lt X (gZ i);have h2:=Nat.mod_lt Y (gZ i);have:(X%256^i+Y%256^i)/256^i<2:=by rw[Nat.div_lt_iff_lt_mul (gZ i)];omega
 omega
def Yd(X Y:Nat):pM X Y 0=0:=by simp[pM,Nat.mod_one]
def nU(X Y i:Nat):zx X Y i=pM X Y i+X/256^i%256+Y/256^i%256:=rfl
def BD(X Y i:Nat):zx X Y i<512:=by
 have:=yR X Y i;have h1:=kN (X/256^i);have h2:=kN (Y/256^i);rw[nU];omega
def jc(X Y i:Nat):zx X Y i/256=pM X Y (i+1):=by
 show _/256=_;unfold zx pM;rw[Nat.pow_succ,Nat.mod_mul,Nat.mod_mul,<-Nat.div_div_eq_div_mul]
 congr 1
 have e:X%256^i+256^i*(X/256^i%256)+(Y%256^i+256^i*(Y/256^i%256))=(X%256^i+Y%256^i)+256^i*(X/256^i%256+Y/256^i%256):=(by rw[Nat.mul_add];omega);rw[e,Nat.add_mul_div_left _ _ (gZ i)];omega
def lS(X Y i:Nat):zx X Y i%256=(X+Y)/256^i%256:=by
 show _%256=_;have e:X+Y=(X%256^i+Y%256^i)+256^i*(X/256^i+Y/256^i):=by
  have h1:=Nat.mod_add_div X (256^i);have h2:=Nat.mod_add_div Y (256^i);rw[Nat.mul_add];omega
 conv=>rhs;rw[e]
 rw[Nat.add_mul_div_left _ _ (gZ i)];unfold zx
 generalize(X%256^i+Y%256^i)/256^i=c
 generalize X/256^i=p
 generalize Y/256^i=q
 rw[Nat.add_assoc,Nat.add_mod,<-Nat.add_mod p q,<-Nat.add_mod]
def yS(m n i:Nat):Nat:=if m%256^i<n%256^i then 1 else 0
def Ye(m n:Nat):yS m n 0=0:=by simp[yS,Nat.mod_one]
def Pz(m n i:Nat):yS m n i<=1:=by unfold yS;split<;>omega
def Wi{m n i:Nat}(h:n<=m):(m-n)/256^i+n/256^i+yS m n i=m/256^i:=by
 have h1:=Nat.mod_add_div m (256^i);have h2:=Nat.mod_add_div n (256^i);have h3:=Nat.mod_lt m (gZ i);have h4:=Nat.mod_lt n (gZ i);have hp:=gZ i
 generalize hP:256^i=P at*
 generalize m/P=M at*
 generalize n/P=N at*
 unfold yS;rw[hP]
 split
 ·rename_i hlt
  have hMN:N+1<=M:=by
   by_cases c:M<=N
   ·have:=Nat.mul_le_mul_left P c;omega
   ·omega
  obtain⟨k,rfl⟩:∃k,M=N+1+k:=⟨M-(N+1),by omega⟩;have e:m-n=(m%P+P-n%P)+P*k:=by
   rw[Nat.mul_add,Nat.mul_add] at h1;omega
  rw[e,Nat.add_mul_div_left _ _ hp,Nat.div_eq_of_lt (by omega)];omega
 ·rename_i hge
  have hMN:N<=M:=by
   by_cases c:M<N
   ·have:=Nat.mul_le_mul_left P c;rw[Nat.mul_succ] at this;omega
   ·omega
  obtain⟨k,rfl⟩:∃k,M=N+k:=⟨M-N,by omega⟩;have e:m-n=(m%P-n%P)+P*k:=by
   rw[Nat.mul_add] at h1;omega
  rw[e,Nat.add_mul_div_left _ _ hp,Nat.div_eq_of_lt (by omega)];omega
def NQ(m n i:Nat):yS m n (i+1)=if m/256^i%256<n/256^i%256+yS m n i then 1 else 0:=by
 unfold yS;rw[Nat.pow_succ,Nat.mod_mul,Nat.mod_mul];have h3:=Nat.mod_lt m (gZ i);have h4:=Nat.mod_lt n (gZ i)
 generalize m/256^i%256=x
 generalize n/256^i%256=y
 generalize hP:256^i=P at*
 have key:(m%P+P*x<n%P+P*y)↔x<y+(if m%P<n%P then 1 else 0):=by
  rcases Nat.lt_trichotomy x y with c|c|c
  ·have:=Nat.mul_le_mul_left P c;rw[Nat.mul_succ] at this
   constructor<;>intro _<;>omega
  ·subst c;split<;>constructor<;>intro _<;>omega
  ·have:=Nat.mul_le_mul_left P c;rw[Nat.mul_succ] at this
   split<;>constructor<;>intro _<;>omega
 simp only[key]
def Wj{m n i:Nat}(h:n<=m)(hd:m/256^i%256<n/256^i%256+yS m n i):m/256^i%256+256=(m-n)/256^i%256+n/256^i%256+yS m n i∧yS m n (i+1)=1:=by
 refine⟨?_,by rw[NQ,if_pos hd]⟩;have h1:=Wi (i:=i) h;have h2:=Pz m n i;omega
def Wl{m n i:Nat}(h:n<=m)(hd:¬m/256^i%256<n/256^i%256+yS m n i):m/256^i%256=(m-n)/256^i%256+n/256^i%256+yS m n i∧yS m n (i+1)=0:=by
 refine⟨?_,by rw[NQ,if_neg hd]⟩;have h1:=Wi (i:=i) h;have h2:=Pz m n i;omega
def jC{Y i:Nat}(h:nb Y<=i):Y/256^i%256=0:=by
 rw[Nat.div_eq_of_lt (Nat.lt_of_lt_of_le (kK Y) (iy h))]
def qax(a b i:Nat)(ha:nb a<=i)(hb:nb b<=i)(hc:pM a b i=0):a+b<256^i:=by
 unfold pM at hc;rw[Nat.mod_eq_of_lt (Nat.lt_of_lt_of_le (kK a) (iy ha)),Nat.mod_eq_of_lt (Nat.lt_of_lt_of_le (kK b) (iy hb))] at hc;exact(Nat.div_eq_zero_iff_lt (gZ i)).1 hc
def Yf(a b i:Nat)(h:0<pM a b i)(ha:nb a<=i)(hb:nb b<=i):i<=max (nb a) (nb b):=by
 rcases Nat.lt_or_ge (max (nb a) (nb b)) i with c|c
 ·exfalso
  have h1:a<256^(i-1):=Nat.lt_of_lt_of_le (kK a) (iy (by omega));have h2:b<256^(i-1):=Nat.lt_of_lt_of_le (kK b) (iy (by omega));have h3:256^i=256^(i-1)*256:=(by rw[<-Nat.pow_succ,show(i-1).succ=i by omega]);unfold pM at h;rw[Nat.mod_eq_of_lt (by omega),Nat.mod_eq_of_lt (by omega),Nat.div_eq_of_lt (by omega)] at h;omega
 ·exact c
def qd7(N k:Nat)(h:N<256^k):val 256 (row k (qC N))=N:=by
 unfold qC;rw[pV 256 (by omega),Nat.mod_eq_of_lt h]
def J4(N k:Nat)(h:N<256^k):ag 256 (val 256 (row k (qC N)))=D8 N:=by rw[qd7 N k h];rfl
def Rw(N k:Nat)(h:N<256^k):NV .i64 (D8 N)=(NV .i64 (row k (qC N))).take (nb N):=by
 have:=xQ (B:=256) (by omega) (kU (n:=k) (fun j=>Ak N j));rw[J4 N k h] at this;rw[Ei];congr 1;exact this.symm
def qW(m n i:Nat):Nat:=m%256^i*n
def xY(m n i k:Nat):Nat:=(qW m n i/256^i%256^k+m/256^i%256*(n%256^k))/256^k
def uM(m n i k:Nat):Nat:=xY m n i k+qW m n i/256^(i+k)%256+m/256^i%256*(n/256^k%256)
def EI(m n i k j:Nat):Nat:=if j<i+k then qW m n (i+1)/256^j%256 else qW m n i/256^j%256
def DF(m n i j:Nat):Nat:=qW m n i/256^j%256
def NR(m n i:Nat):qW m n (i+1)=qW m n i+256^i*(m/256^i%256*n):=by
 unfold qW;rw[Nat.pow_succ,Nat.mod_mul,Nat.add_mul,Nat.mul_assoc]
def Yg(m n i:Nat):xY m n i 0=0:=by simp[xY,Nat.mod_one]
def wI(m n i k:Nat):xY m n i k<256:=by
 unfold xY;rw[Nat.div_lt_iff_lt_mul (gZ k)];have h1:=Nat.mod_lt (qW m n i/256^i) (gZ k);have h2:=Nat.mod_lt n (gZ k);have h3:m/256^i%256+1<=256:=Nat.mod_lt _ (by decide);have h4:(m/256^i%256)*(n%256^k)<=(m/256^i%256)*(256^k):=Nat.mul_le_mul_left _ (by omega);have h5:(m/256^i%256+1)*256^k<=256*256^k:=Nat.mul_le_mul_right _ h3;rw[Nat.add_mul] at h5;omega
def yT(V i k:Nat):V/256^(i+k)=V/256^i/256^k:=by rw[Nat.pow_add,Nat.div_div_eq_div_mul]
def uO(m n i k:Nat):uM m n i k/256=xY m n i (k+1):=by
 show _/256=_;unfold uM xY;rw[yT,Nat.pow_succ,Nat.mod_mul,Nat.mod_mul,<-Nat.div_div_eq_div_mul]
 congr 1
 generalize m/256^i%256=dd
 generalize qW m n i/256^i=A
 have e:A%256^k+256^k*(A/256^k%256)+dd*(n%256^k+256^k*(n/256^k%256))=(A%256^k+dd*(n%256^k))+256^k*(A/256^k%256+dd*(n/256^k%256)):=(by grind);rw[e,Nat.add_mul_div_left _ _ (gZ k)];omega
def Rx(m n i k:Nat):uM m n i k%256=qW m n (i+1)/256^(i+k)%256:=by
 show _%256=_;unfold uM xY;rw[yT,yT,NR,Nat.add_mul_div_left _ _ (gZ i)]
 generalize m/256^i%256=dd
 generalize qW m n i/256^i=A
 have e:A+dd*n=(A%256^k+dd*(n%256^k))+256^k*(A/256^k+dd*(n/256^k)):=by
  have h1:=Nat.mod_add_div A (256^k);have h2:=Nat.mod_add_div n (256^k)
  conv=>lhs;rw[<-h1,<-h2]
  grind
 conv=>rhs;rw[e]
 rw[Nat.add_mul_div_left _ _ (gZ k)]
 generalize(A%256^k+dd*(n%256^k))/256^k=c
 generalize A/256^k=p
 generalize n/256^k=q
 have e2:∀x y z w:Nat,(x+y%256+z*(w%256))%256=(x+(y+z*w))%256:=by
  intro x y z w;have h1:=Nat.mod_add_div y 256;have h2:=Nat.mod_add_div w 256;have:x+(y+z*w)=(x+y%256+z*(w%256))+256*(y/256+z*(w/256)):=by
   conv=>lhs;rw[<-h1,<-h2]
   grind
  rw[this,Nat.add_mul_mod_self_left]
 exact e2 c p dd q
def Wn(m n i k:Nat):EI m n i k (i+k)=qW m n i/256^(i+k)%256:=by unfold EI;rw[if_neg (by omega)]
def BF(m n i k j:Nat):EI m n i (k+1) j=if j=i+k then uM m n i k%256 else EI m n i k j:=by
 rw[Rx];unfold EI
 by_cases e:j=i+k
 ·subst e;rw[if_pos (by omega),if_pos rfl]
 ·rw[if_neg e]
  by_cases c:j<i+k
  ·rw[if_pos c,if_pos (by omega)]
  ·rw[if_neg c,if_neg (by omega)]
def Yh(m n i j:Nat):EI m n i 0 j=DF m n i j:=by
 unfold EI DF
 split
 ·rename_i h
  rw[NR];have e0:256^i=256^j*(256*256^(i-j-1)):=by
   rw[<-Nat.mul_assoc,<-Nat.pow_succ,<-Nat.pow_add,show j+1+(i-j-1)=i by omega]
  have e:256^i*(m/256^i%256*n)=256^j*(256*(256^(i-j-1)*(m/256^i%256*n))):=by
   generalize m/256^i%256*n=r
   rw[e0,Nat.mul_assoc,Nat.mul_assoc]
  rw[e,Nat.add_mul_div_left _ _ (gZ j),Nat.add_mul_mod_self_left]
 ·rfl
def IW(m n i:Nat):qW m n i<256^(i+nb n):=by
 unfold qW;rw[Nat.pow_add];have h1:=Nat.mod_lt m (gZ i);have h2:=kK n
 calc m%256^i*n<=256^i*n:=Nat.mul_le_mul_right _ (by omega)
  _<256^i*256^nb n:=(Nat.mul_lt_mul_left (gZ i)).2 h2
def Yi(m n j:Nat):DF m n 0 j=0:=by simp[DF,qW,Nat.mod_one]
def qay(m n:Nat):val 256 (row (nb m+nb n+1) (DF m n (nb m)))=m*n:=by
 have e:qW m n (nb m)=m*n:=(by unfold qW;rw[Nat.mod_eq_of_lt (kK m)]);have h:=IW m n (nb m);rw[bG (g:=fun j=>m*n/256^j%256) (fun j hj=>by unfold DF;rw[e]),pV 256 (by decide),Nat.mod_eq_of_lt];rw[e] at h;exact Nat.lt_of_lt_of_le h (Nat.pow_le_pow_right (by decide) (by omega))
def Wp(m n i j:Nat):DF m n i j<256:=kN _
def J5(p q:Nat):p%256*(q%256)<=65025:=by
 have h1:p%256<=255:=(by omega);have h2:q%256<=255:=(by omega);exact Nat.mul_le_mul h1 h2
def BG(m n i:Nat){k:Nat}(hk:nb n<=k):uM m n i k=xY m n i k:=by
 unfold uM;have h1:256^(i+nb n)<=256^(i+k):=iy (by omega);rw[jC hk,Nat.div_eq_of_lt (Nat.lt_of_lt_of_le (IW m n i) h1)];simp
def qaz(m n i:Nat){k:Nat}(hk:nb n<=k):xY m n i (k+1)=0:=by
 rw[<-uO,BG m n i hk];have:=wI m n i k;omega
def qaA(m n i k:Nat)(h:0<xY m n i k):k<=nb n:=by
 rcases Nat.lt_or_ge (nb n) k with c|c
 ·obtain⟨q,rfl⟩:∃q,k=q+1:=⟨k-1,by omega⟩;rw[qaz m n i (by omega)] at h;omega
 ·exact c
def Yj(m n i k j:Nat)(hk:nb n<=k)(hc:xY m n i k=0):EI m n i k j=DF m n (i+1) j:=by
 unfold EI DF
 by_cases c:j<i+k
 ·rw[if_pos c]
 ·rw[if_neg c];have h1:256^(i+nb n)<=256^j:=iy (by omega);rw[Nat.div_eq_of_lt (Nat.lt_of_lt_of_le (IW m n i) h1)]
  by_cases e:j=i+k
  ·subst e;rw[<-Rx,BG m n i hk,hc]
  ·have h2:256^(i+1+nb n)<=256^j:=iy (by omega);rw[Nat.div_eq_of_lt (Nat.lt_of_lt_of_le (IW m n (i+1)) h2)]
def UQ(m n:Nat):val 256 (row (nb m+nb n+1) (DF m n (nb m)))=m*n:=qay m n
def Ry(m n:Nat):ag 256 (val 256 (row (nb m+nb n+1) (DF m n (nb m))))=D8 (m*n):=by rw[UQ];rfl
def qaB(m n:Nat):NV .i64 (D8 (m*n))=(NV .i64 (row (nb m+nb n+1) (DF m n (nb m)))).take (nb (m*n)):=by
 have:=xQ (B:=256) (by omega) (kU (n:=nb m+nb n+1) (fun j=>Wp m n (nb m) j));rw[Ry] at this;rw[Ei];congr 1;exact this.symm
def EJ(m n i k:Nat):uM m n i k<131072:=by
 have h1:=wI m n i k;have h2:=kN (qW m n i/256^(i+k));have h3:=J5 (m/256^i) (n/256^k);unfold uM;omega
def Gi(a b p:Nat):Nat:=a/256^(p+1)%b*256+a/256^p%256
def qaC(a b p:Nat)(hb:0<b):a/256^p=b*(a/256^(p+1)/b*256)+Gi a b p:=by
 have h1:=wH a p;have h2:=Nat.div_add_mod (a/256^(p+1)) b;unfold Gi
 conv=>lhs;rw[h1,<-h2]
 rw[Nat.add_mul,Nat.mul_assoc,Nat.add_assoc]
def UR(a b p:Nat)(hb:0<b):Gi a b p<256*b:=by
 unfold Gi;have h1:a/256^(p+1)%b+1<=b:=Nat.mod_lt _ hb;have h2:=kN (a/256^p);omega
def qd8(a b p:Nat)(hb:0<b):Gi a b p/b=a/b/256^p%256:=by
 have h1:=qaC a b p hb;have h2:Gi a b p/b<256:=(by rw[Nat.div_lt_iff_lt_mul hb];exact UR a b p hb);have e:a/b/256^p=a/256^p/b:=(by rw[Nat.div_div_eq_div_mul,Nat.div_div_eq_div_mul,Nat.mul_comm]);rw[e,h1,Nat.mul_add_div hb,Nat.mul_comm _ 256,Nat.mul_add_mod,Nat.mod_eq_of_lt h2]
def qd9(a b p:Nat)(hb:0<b):Gi a b p%b=a/256^p%b:=by
 have h1:=qaC a b p hb
 conv=>rhs;rw[h1]
 rw[Nat.mul_add_mod]
def qea(R d:Nat)(hd:d<256):val 256 (d::D8 R)=R*256+d:=by
 show d+256*val 256 (D8 R)=_;unfold D8;rw[sG (by omega)];omega
def dq8{a b p q r:Nat}(hb:0<b)(h:q*b+r=Gi a b p)(hr:r<b):q=a/b/256^p%256∧r=a/256^p%b:=by
 rw[<-qd8 a b p hb,<-qd9 a b p hb,<-h,Nat.mul_comm q b];exact⟨by rw[Nat.mul_add_div hb,Nat.div_eq_of_lt hr];omega,by rw[Nat.mul_add_mod,Nat.mod_eq_of_lt hr]⟩
def qaD{a b p q r s:Nat}(hb:0<b)(h:q*b+r=Gi a b p)(hs:s*b<=r):q+s<256:=by
 have h1:=UR a b p hb;have h2:(q+s)*b<256*b:=(by rw[Nat.add_mul];omega);exact Nat.lt_of_mul_lt_mul_right h2
def EK{a b p q r s:Nat}(h:q*b+r=Gi a b p)(hs:s*b<=r):(q+s)*b+(r-s*b)=Gi a b p:=by rw[Nat.add_mul];omega
def PD(a b p k:Nat):Nat:=if k<p then 0 else a/b/256^k%256
end Go.Via
namespace Go.Via
variable[Mo]
open Go Go.RowKit
def lu{m n:Nat}:0<=ng m n↔n<=m:=by
 unfold ng
 by_cases h1:m<n
 ·rw[if_pos h1];omega
 ·rw[if_neg h1]
  by_cases h2:n<m
  ·rw[if_pos h2];omega
  ·rw[if_neg h2];omega
def wJ{m n:Nat}:ng m n<=0↔m<=n:=by
 unfold ng
 by_cases h1:m<n
 ·rw[if_pos h1];omega
 ·rw[if_neg h1]
  by_cases h2:n<m
  ·rw[if_pos h2];omega
  ·rw[if_neg h2];omega
def EL{m n:Nat}:ng m n<0↔m<n:=by
 unfold ng
 by_cases h1:m<n
 ·rw[if_pos h1];omega
 ·rw[if_neg h1]
  by_cases h2:n<m
  ·rw[if_pos h2];omega
  ·rw[if_neg h2];omega
def qaE{a b:Nat}(x:SR (nb a)):(SR (nb (a/b))×SR (nb (a%b))) ⊕ PLift (a<b)->Value
 | .inl z=> .tuple #[z.1.v,z.2.v]
 | .inr _=> .tuple #[.slice none 0 0,x.v]
def PE{a b:Nat}:(SR (nb (a/b))×SR (nb (a%b))) ⊕ PLift (a<b)->List aG
 | .inl z=>[⟨z.1.b,3,NV .i64 (D8 (a/b)),z.1.n,true⟩,⟨z.2.b,3,NV .i64 (D8 (a%b)),z.2.n,true⟩]
 | .inr _=>[]
def rH{B:Bs}{X:Act->World->Prop}{nt:Nat}{t:List (Nat×Value)}{L:List aG}{b:aG}(k:Nat)(hk:L[k]? =some b)(h:(b.base=none->b.cs=[])->At B ⟨nt,t,L⟩ X):At B ⟨nt,t,L⟩ X:=
 fun a w hr=>h (fun hb=>((hr.mem.blk k b hk).2 hb).1) a w hr
def qaF{P:Program}{bl:List Nat}{ops:Array Oper}{K:St->Prop}{rest:List Oper}{nt:Nat}{t:List (Nat×Value)}{L:List aG}{d:Nat}{ty:TypeId}{pos:String}{af:Array Edge}{g:Option (Nat×Bool)}{x y:Operand}
 {T e:Nat}{z:Value}{gx:Nat}{d0 R:Nat}{ob:Option Nat}{oN oc:Nat}{o2:Bool}(k k2:Nat)(mk:Option Nat->Nat->List aG)(hT:P.underlying T=some (.slice e))(hi:LK P e 1 z)(hd:Nat.blt d nt=true)
 (hg:ax ops ⟨some d,.call {callee:= .builtin .append,args:= #[x,y],argTypes:= #[T,T]},ty,pos,af,g⟩ t=some true)
 (hk:L[k]? =some ⟨some gx,e,[.int .i64 (d0:Nat)],1,true⟩)(hx:ev t x=some (az (some gx) 0 1 1))(hk2:L[k2]? =some ⟨ob,3,NV .i64 (D8 R),oN,o2⟩)(hb:ob=none->NV .i64 (D8 R)=[])(hy:ev t y=some (az ob 0 (nb R) oc))
 (hzs:z.cells.size=1)(hmax:nb R<=1073741824)(hL:∀b n,L.set k ⟨b,e,NV .i64 (d0::D8 R),n,true⟩=mk b n)
 (h:∀r:SR (nb R+1),aY P bl ops rest ⟨nt,(d,r.v)::t,mk r.b r.n⟩ K):
 aY P bl ops (⟨some d,.call {callee:= .builtin .append,args:= #[x,y],argTypes:= #[T,T]},ty,pos,af,g⟩::rest) ⟨nt,t,L⟩ K:=by
 by_cases h0:nb R=0
 ·have hD:D8 R=[]:=List.eq_nil_of_length_eq_zero (by rw[bY];exact h0);have:=h ⟨some gx,1,1,by omega⟩;rw[<-hL] at this;unfold SR.v at this;simp only[h0,hD] at this;have e1:L.set k ⟨some gx,e,NV .i64 [d0],1,true⟩=L:=by
   obtain⟨hlt,he⟩:=List.getElem?_eq_some_iff.1 hk;exact(congrArg (L.set k) he.symm).trans (List.set_getElem_self hlt)
  rw[e1] at this;obtain⟨inf,i1,i2,i3,i5⟩:=zJ hi;rw[h0] at hy;exact XC hT i1 hd hg hx (Nat.le_refl 1) hy this
 ·obtain⟨g2,rfl⟩:∃g2,ob=some g2:=by
   cases ob with
   |none=>
    have:=congrArg List.length (hb rfl);rw[aA,bY] at this;exact absurd this h0
   |some g2=>exact⟨g2,rfl⟩
  refine fH (s:=1) (len:=1) (n2:=nb R) k k2 (fun r=>mk (some r.g) r.n) hT hi hd hg hk rfl rfl hx hk2 rfl hy rfl hzs (by simpa using(by omega:0<nb R)) rfl (Nat.le_refl _) (Nat.le_refl _) (by rw[aA,bY];omega) (FQ _ _) (by omega) (fun r=>?_) (fun r=>?_)
  ·rw[<-hL];rfl
  ·have h1:=h ⟨some r.g,r.n,r.cap,by have:=r.h;omega⟩;unfold SR.v at h1;have e:az (some r.g) 0 (1+nb R) r.cap=az (some r.g) 0 (nb R+1) r.cap:=congrArg (fun n=>az (some r.g) 0 n r.cap) (Nat.add_comm 1 (nb R));rw[e];exact h1
def Wq(a b q:Nat):val 256 (a/256^q%256::D8 (a/256^(q+1)%b))=Gi a b q:=qea _ _ (kN _)
def BH(a b q:Nat):∀d∈a/256^q%256::D8 (a/256^(q+1)%b),d<256:=fun d hd=>by
 rcases List.mem_cons.1 hd with rfl|hd
 ·exact kN _
 ·exact qfN _ d hd
def J6(a b q:Nat):(ag 256 (val 256 (a/256^q%256::D8 (a/256^(q+1)%b)))).length=nb (Gi a b q):=by rw[Wq];rfl
def qaG(a b q:Nat):nb (Gi a b q)<=nb (a/256^(q+1)%b)+1:=by
 rw[<-J6];exact Nat.le_trans (jG (by decide) (FW (by decide) (BH a b q))) (by simp[bY])
def Rz(a b q:Nat):NV .i64 (D8 (Gi a b q))=(NV .i64 (a/256^q%256::D8 (a/256^(q+1)%b))).take (nb (Gi a b q)):=by
 have:=xQ (B:=256) (by omega) (BH a b q);rw[Wq] at this;rw[Ei];congr 1;exact this.symm
def IX(a b:Nat):a/256^nb a%b=0:=by rw[Nat.div_eq_of_lt (kK a),Nat.zero_mod]
def Ws(a b:Nat):NV .i64 (D8 (a/256^nb a%b))=[]:=by
 rw[IX];have:D8 0=[]:=List.eq_nil_of_length_eq_zero (by rw[bY,kS]);rw[this];rfl
def RD(a b:Nat):Value.slice none 0 0=az none 0 (nb (a/256^nb a%b)) 0:=by rw[IX,kS];rfl
def RF(a b q m k:Nat):Nat:=if k=q then m else PD a b (q+1) k
def Gj(a b q m:Nat):RF a b q m q=m:=by simp[RF]
def RG(a b q k:Nat):RF a b q 0 k=PD a b (q+1) k:=by
 unfold RF
 split
 ·rename_i h;subst h;simp[PD]
 ·rfl
def EM(a b q m m' k:Nat):RF a b q m' k=if k=q then m' else RF a b q m k:=by
 unfold RF;split<;>rfl
def Wu(a b q k:Nat):RF a b q (a/b/256^q%256) k=PD a b q k:=by
 unfold RF PD
 by_cases h:k=q
 ·subst h;simp
 ·rw[if_neg h]
  by_cases c:k<q
  ·rw[if_pos c,if_pos (by omega)]
  ·rw[if_neg c,if_neg (by omega)]
def Wv(a b:Nat){k:Nat}(h:k<nb a):PD a b (nb a) k=0:=by unfold PD;rw[if_pos h]
def UT(a b p k:Nat):PD a b p k<256:=by unfold PD;split<;>omega
def qeb(a b:Nat):val 256 (row (nb a) (PD a b 0))=a/b:=by
 have h:a/b<256^nb a:=Nat.lt_of_le_of_lt (Nat.div_le_self _ _) (kK a);rw[bG (g:=fun j=>a/b/256^j%256) (fun j hj=>by unfold PD;rw[if_neg (by omega)]),pV 256 (by decide),Nat.mod_eq_of_lt h]
def J7(a b:Nat):ag 256 (val 256 (row (nb a) (PD a b 0)))=D8 (a/b):=by rw[qeb];rfl
def RH(a b:Nat):NV .i64 (D8 (a/b))=(NV .i64 (row (nb a) (PD a b 0))).take (nb (a/b)):=by
 have:=xQ (B:=256) (by omega) (kU (n:=nb a) (fun j=>UT a b 0 j));rw[J7] at this;rw[Ei];congr 1;exact this.symm
def qaH{r b:Nat}(h:r<256*b):nb r<=nb b+1:=nY (by
 have:=kK b;rw[Nat.pow_succ];omega)
def Wx{a b p m r:Nat}(hb:0<b)(h:m*b+r=Gi a b p):nb r<=nb b+1:=qaH (by have:=UR a b p hb;have:=Nat.zero_le (m*b);omega)
end Go.Via
namespace Go.Via
def PG:NV .i64 (D8 0)=[]:=by
 have:D8 0=[]:=List.eq_nil_of_length_eq_zero (by rw[bY,kS]);rw[this];rfl
end Go.Via
namespace Go.Via
variable[Mo]
open Go Go.RowKit
structure FS(bs:List (Option Nat))(len:Nat) where
 z:SR len
 o:Bool
 ho:o=true∨z.b∈bs
def J8{a b:Nat}(z:(SR (nb (a/b))×SR (nb (a%b))) ⊕ PLift (a<b)):∀c∈PE z,c.own=true:=by
 intro c hc;cases z with
 |inl z=>
  simp only[PE,List.mem_cons,List.mem_nil_iff,or_false] at hc;rcases hc with rfl|rfl<;>rfl
 |inr h=>cases hc
def qg7{B:Bs}{w:World}{L:List aG}{x y:aG}{c:aG}{o:Bool}{bb:Option Nat}(h:bf B L w)(k:Nat){b:aG}(hk:L[k]? =some b)(hb:b.base=bb)(hoo:b.own=o)(ho:o=true∨bb∈[x.base,y.base])(hc:c.base=bb):∀g,c.base=some g->B.own g∨∃b0∈[x,y],b0.base=some g:=by
 intro g hg;rcases ho with h1|h1
 ·exact .inl (OU h k hk (by rw[hoo];exact h1) g (by rw[hb,<-hc];exact hg))
 ·rw[hc] at hg;subst hg;simp only[List.mem_cons,List.mem_nil_iff,or_false] at h1;rcases h1 with h1|h1
  ·exact .inr ⟨x,by simp,h1.symm⟩
  ·exact .inr ⟨y,by simp,h1.symm⟩
def Yk{m n a b:Nat}(h:Nat.gcd m n=Nat.gcd a b):Nat.gcd n (m%n)=Nat.gcd a b:=by
 rw[<-h,Nat.gcd_comm m n,Nat.gcd_rec n m,Nat.gcd_comm (m%n) n]
def Wy{P:Program}{f a b:Nat}{x:SR (nb a)}{L0:List aG}{args:List Value}(hx:∀g,x.b=some g->∃b0∈L0,b0.base=some g)(hL0:L0[0]? =some ⟨x.b,3,NV .i64 (D8 a),x.n,false⟩)(h:dh P f L0 args ((SR (nb (a/b))×SR (nb (a%b))) ⊕ PLift (a<b)) (qaE x) PE):
 FT P f L0 args (SR (nb (a/b))×SR (nb (a%b))) (fun z=> .tuple #[z.1.v,z.2.v]) (fun z=>[⟨z.1.b,3,NV .i64 (D8 (a/b)),z.1.n,false⟩,⟨z.2.b,3,NV .i64 (D8 (a%b)),z.2.n,false⟩]):=by
 refine⟨h.1,fun w hL=>(h.2 w hL).mono ?_⟩
 rintro e w' ⟨z,rfl,hz⟩;cases z with
 |inl z=>
  refine⟨z,rfl,hz.un,fun c hc g hg=> .inl ?_⟩
  simp only[List.mem_cons,List.mem_nil_iff,or_false] at hc;rcases hc with rfl|rfl
  ·exact D9 (OU hz 0 rfl rfl g hg)
  ·exact D9 (OU hz 1 rfl rfl g hg)
 |inr hlt=>
  have hlt:=hlt.down;refine⟨(⟨none,0,0,by rw[Nat.div_eq_of_lt hlt,kS];exact Nat.le_refl _⟩,⟨x.b,x.n,x.cap,by rw[Nat.mod_eq_of_lt hlt];exact x.h⟩),?_,?_,fun c hc g hg=>?_⟩
  ·show Ending.returned (.tuple #[Value.slice none 0 0,az x.b 0 (nb a) x.cap])=Ending.returned (.tuple #[az none 0 (nb (a/b)) 0,az x.b 0 (nb (a%b)) x.cap]);rw[Nat.div_eq_of_lt hlt,Nat.mod_eq_of_lt hlt,kS];rfl
  ·refine(hL.same (hz:bf w [] w').below).picks [none,some 0] ⟨⟨rfl,by show NV .i64 (D8 (a/b))=[];rw[Nat.div_eq_of_lt hlt];exact PG,rfl⟩,⟨_,hL0,aI (by show(⟨x.b,3,NV .i64 (D8 (a%b)),x.n,false⟩:aG)=⟨x.b,3,NV .i64 (D8 a),x.n,false⟩;rw[Nat.mod_eq_of_lt hlt])⟩,trivial⟩ rfl rfl
  ·simp only[List.mem_cons,List.mem_nil_iff,or_false] at hc;rcases hc with rfl|rfl
   ·cases hg
   ·exact .inr (hx g hg)
end Go.Via
namespace Go.Via
open Go Go.RowKit
def dz(q:Rat):Int:=if q.den=1 then 0 else q.den
def qi7(q:Rat):Value.agg #[.bool false,.string (dm q)]=I (dz q):=by
 unfold dz dm I
 by_cases h:q.den=1
 ·simp only[if_pos h];rw[show(0:Int).natAbs=0 from rfl,je];rfl
 ·simp only[if_neg h,Int.natAbs_natCast];rw[show decide (((q.den:Nat):Int)<0)=false from decide_eq_false (by omega)]
def qf:nb 1=1:=by have h1:=nY (n:=1) (k:=1) (by omega);have h2:=Dw (u:=1) (by omega);omega
def qkY{q:Rat}(h:((nb (dz q).natAbs:Nat):Int)=0):q.den=1:=by
 unfold dz at h
 by_cases e:q.den=1
 ·exact e
 ·rw[if_neg e,Int.natAbs_natCast] at h;have:=Dw (u:=q.den) (by have:=q.den_nz;omega);omega
def qkZ{q:Rat}(h:¬((nb (dz q).natAbs:Nat):Int)=0):(dz q).natAbs=q.den:=by
 unfold dz at*
 by_cases e:q.den=1
 ·rw[if_pos e] at h;exact absurd (by rw[show(0:Int).natAbs=0 from rfl,kS];rfl) h
 ·rw[if_neg e,Int.natAbs_natCast]
def qi8(q:Rat):jH (dz q)<=dw q:=by
 unfold dz jH dw
 split
 ·rw[show(0:Int).natAbs=0 from rfl,kS];omega
 ·rw[Int.natAbs_natCast];omega
def UU:D8 1=[1]:=by
 have h:=J3 1;rw[qf] at h;rw[<-h];simp[row,qC]
def sg(neg:Bool)(n:Nat):Int:=if neg=true then-(n:Int) else(n:Int)
def Yl(neg:Bool)(n:Nat):(sg neg n).natAbs=n:=by unfold sg;split<;>simp
def PH(neg:Bool)(n d:Nat):Int.gcd (sg neg n) d=Nat.gcd n d:=by rw[Int.gcd,Yl,Int.natAbs_natCast]
def qaI(neg:Bool)(n d:Nat):sg neg n/(Int.gcd (sg neg n) d:Int)=sg neg (n/Nat.gcd n d):=by
 rw[PH];unfold sg
 split
 ·rw[Int.neg_ediv_of_dvd (Int.natCast_dvd_natCast.2 (Nat.gcd_dvd_left n d))];rfl
 ·rfl
def qaJ{n d:Nat}(neg:Bool)(hd:0<d)(h1:d/Nat.gcd n d=1):Value.agg #[.bool (decide (sg neg (n/Nat.gcd n d)<0)),.string (bQ (sg neg (n/Nat.gcd n d)).natAbs),aW,aX]=Q (Rat.divInt (sg neg n) d):=by
 have:=O0 (n:=sg neg n) (d:=d) (by omega) (by rw[PH];exact_mod_cast h1);rw[qaI] at this;exact this
def RI{n d:Nat}(neg:Bool)(hd:0<d)(h1:d/Nat.gcd n d≠1):Value.agg #[.bool (decide (sg neg (n/Nat.gcd n d)<0)),.string (bQ (sg neg (n/Nat.gcd n d)).natAbs),.bool (decide (((d/Nat.gcd n d:Nat):Int)<0)),.string (bQ (((d/Nat.gcd n d:Nat):Int)).natAbs)]=Q (Rat.divInt (sg neg n) d):=by
 have:=O1 (n:=sg neg n) (d:=d) (by omega) (by rw[PH];exact_mod_cast h1);rw[qaI,PH] at this;exact this
def WA{m:Nat}(h:nb m=1):m/256^0%256=m:=by
 have:=kK m;rw[h] at this;rw[Nat.pow_zero,Nat.div_one,Nat.mod_eq_of_lt (by omega)]
def Me{m:Nat}(h:¬((nb m:Nat):Int)=1):m≠1:=fun e=>h (by rw[e,qf];rfl)
def qec(n d:Int)(h:d≠0):Rat.divInt (sg (decide (n<0) !=decide (d<0)) n.natAbs) (d.natAbs:Int)=Rat.divInt n d:=by
 unfold sg
 by_cases hd:d<0
 ·have e:(d.natAbs:Int)= -d:=by omega
  rw[e]
  by_cases hn:n<0
  ·rw[decide_eq_true hd,decide_eq_true hn];simp only[bne_self_eq_false,Bool.false_eq_true,if_false];rw[show(n.natAbs:Int)= -n by omega,Rat.neg_divInt_neg]
  ·rw[decide_eq_true hd,decide_eq_false hn];simp only[Bool.bne_true,Bool.not_false,if_true];rw[show(n.natAbs:Int)=n by omega,Rat.neg_divInt_neg]
 ·have e:(d.natAbs:Int)=d:=by omega
  rw[e]
  by_cases hn:n<0
  ·rw[decide_eq_false hd,decide_eq_true hn];simp only[Bool.bne_false,if_true];rw[show-(n.natAbs:Int)=n by omega]
  ·rw[decide_eq_false hd,decide_eq_false hn];simp only[bne_self_eq_false,Bool.false_eq_true,if_false];rw[show(n.natAbs:Int)=n by omega]
def qg8(p q:Rat):Rat.divInt (sg (decide (p.num<0) !=decide (q.num<0)) (p.num.natAbs*q.num.natAbs)) ((p.den*q.den:Nat):Int)=p*q:=by
 rw[<-JD p q,<-VL p.num q.num];unfold sg;rw[Int.natCast_mul,Int.natCast_mul]
def lI(a:Int)(d:Nat)(h:d≠0):decide (a*(d:Int)<0)=decide (a<0):=by
 refine decide_eq_decide.2 ⟨fun h2=>?_,fun h2=>Int.mul_neg_of_neg_of_pos h2 (by omega)⟩
 refine Int.not_le.1 fun h3=>?_
 have:=Int.mul_nonneg h3 (show(0:Int)<=d by omega);omega
def Am(p q:Rat):Rat.divInt (p.num*q.den+q.num*p.den) ((p.den*q.den:Nat):Int)=p+q:=by
 have h1:(p.den:Int)≠0:=zY p;have h2:(q.den:Int)≠0:=zY q
 conv=>rhs;rw[<-Rat.num_divInt_den p,<-Rat.num_divInt_den q]
 rw[Rat.divInt_add_divInt _ _ h1 h2,Int.natCast_mul]
def qed(p q:Rat)(h:(decide (p.num<0)==decide (q.num<0))=true):Rat.divInt (sg (decide (p.num<0)) (p.num.natAbs*q.den+q.num.natAbs*p.den)) ((p.den*q.den:Nat):Int)=p+q:=by
 rw[<-Am p q]
 congr 1
 have h1:=QU (p.num*q.den) (q.num*p.den) (by rw[lI _ _ q.den_nz,lI _ _ p.den_nz];exact h);rw[lI _ _ q.den_nz,Int.natAbs_mul,Int.natAbs_mul,Int.natAbs_natCast,Int.natAbs_natCast] at h1;exact h1
def qee(p q:Rat)(h:(decide (p.num<0)==decide (q.num<0))=false)(hle:q.num.natAbs*p.den<=p.num.natAbs*q.den):Rat.divInt (sg (decide (p.num<0)) (p.num.natAbs*q.den-q.num.natAbs*p.den)) ((p.den*q.den:Nat):Int)=p+q:=by
 rw[<-Am p q]
 congr 1
 have h1:=Na (p.num*q.den) (q.num*p.den) (by rw[lI _ _ q.den_nz,lI _ _ p.den_nz];exact h) (by rw[Int.natAbs_mul,Int.natAbs_mul,Int.natAbs_natCast,Int.natAbs_natCast];exact hle);rw[lI _ _ q.den_nz,Int.natAbs_mul,Int.natAbs_mul,Int.natAbs_natCast,Int.natAbs_natCast] at h1;exact h1
def qef(p q:Rat)(h:(decide (p.num<0)==decide (q.num<0))=false)(hle:p.num.natAbs*q.den<=q.num.natAbs*p.den):Rat.divInt (sg (decide (q.num<0)) (q.num.natAbs*p.den-p.num.natAbs*q.den)) ((p.den*q.den:Nat):Int)=p+q:=by
 rw[<-Am p q]
 congr 1
 have h1:=Nb (p.num*q.den) (q.num*p.den) (by rw[lI _ _ q.den_nz,lI _ _ p.den_nz];exact h) (by rw[Int.natAbs_mul,Int.natAbs_mul,Int.natAbs_natCast,Int.natAbs_natCast];exact hle);rw[lI _ _ p.den_nz,Int.natAbs_mul,Int.natAbs_mul,Int.natAbs_natCast,Int.natAbs_natCast] at h1;exact h1
def RJ{q:Rat}(h:q<0):q.num<0:=by
 refine Int.not_le.1 fun h1=>?_
 have:=Rat.num_nonneg.1 h1
 grind
def RN{q:Rat}(h:0<q):0<q.num:=by
 have h1:=Rat.num_nonneg.2 (show 0<=q by grind);have h2:q.num≠0:=fun e=>by have:=Rat.num_eq_zero.1 e;grind
 omega
def RP(p q:Rat):(p-q).num.sign=oC p q:=by
 unfold oC
 by_cases h:p<q
 ·rw[if_pos h];have:p-q<0:=by grind
  exact Int.sign_eq_neg_one_of_neg (RJ this)
 ·rw[if_neg h]
  by_cases h2:q<p
  ·rw[if_pos h2];have:0<p-q:=by grind
   exact Int.sign_eq_one_of_pos (RN this)
  ·rw[if_neg h2];have:p-q=0:=by grind
   rw[this];rfl
end Go.Via
namespace Go.Via
def nn(R u v:Rat):Prop:=(0<=u∧v*v*R<=u*u)∨(0<=v∧u*u<=v*v*R)
def qi9(x:Rat):0<=x*x:=by
 by_cases h:0<=x
 ·exact Rat.mul_nonneg h h
 ·have h1:0<= -x:=by grind
  have:=Rat.mul_nonneg h1 h1;have e: -x* -x=x*x:=by grind
  rwa [e] at this
end Go.Via
namespace Go.Via
open Go
structure Rl where
 p:Rat
 r:Rat
 n:Bool
deriving DecidableEq
def dJ(q:Rat):Int:=q.num.sign
def uw(a b r:Rat):Int:=if dJ b*dJ r=0∨dJ a=dJ b*dJ r then dJ a else if dJ a=0 then dJ b*dJ r else dJ a*oC (a*a) (b*b*r)
def oV(x:Rl):Rat:=if x.n=true then-1 else 1
def bW(x y:Rl):Int:=
 if dJ (-oV y)*dJ y.r=0∨uw (x.p-y.p) (oV x) x.r=dJ (-oV y)*dJ y.r then uw (x.p-y.p) (oV x) x.r
 else if uw (x.p-y.p) (oV x) x.r=0 then dJ (-oV y)*dJ y.r
 else uw (x.p-y.p) (oV x) x.r*uw ((x.p-y.p)*(x.p-y.p)+x.r-y.r) (2*((x.p-y.p)*oV x)) x.r
def rl(q:Rat):Rl:=⟨q,0,false⟩
def PI{q:Rat}(h:0<q):dJ q=1:=by unfold dJ;exact Int.sign_eq_one_of_pos (RN h)
def PK{q:Rat}(h:q<0):dJ q= -1:=by unfold dJ;exact Int.sign_eq_neg_one_of_neg (RJ h)
def EN:dJ 0=0:=rfl
def jD(q:Rat):(0<q∧dJ q=1)∨(q<0∧dJ q= -1)∨(q=0∧dJ q=0):=by
 by_cases h:0<q
 ·exact .inl ⟨h,PI h⟩
 ·by_cases h1:q<0
  ·exact .inr (.inl ⟨h1,PK h1⟩)
  ·have:q=0:=by grind
   exact .inr (.inr ⟨this,by rw[this];rfl⟩)
def xZ(p q:Rat):(p<q∧oC p q= -1)∨(q<p∧oC p q=1)∨(p=q∧oC p q=0):=by
 unfold oC
 by_cases h:p<q
 ·exact .inl ⟨h,if_pos h⟩
 ·by_cases h1:q<p
  ·exact .inr (.inl ⟨h1,by rw[if_neg h,if_pos h1]⟩)
  ·exact .inr (.inr ⟨by grind,by rw[if_neg h,if_neg h1]⟩)
def qeg(p q:Rat):dJ (p-q)=oC p q:=RP p q
def qaK(q:Rat):dJ (-q)= -dJ q:=by unfold dJ;rw[Rat.neg_num];exact Int.sign_neg _
def qg9(a b:Rat):uw a b 0=dJ a:=by unfold uw;rw[EN,Int.mul_zero,if_pos (.inl rfl)]
def qeh(x:Rl):dJ (oV x)=if x.n=true then-1 else 1:=by unfold oV;split<;>rfl
def qaL(x:Rl):oV x*oV x=1:=by unfold oV;split<;>grind
def qaM(x:Rl)(q:Rat):bW x (rl q)=uw (x.p-q) (oV x) x.r:=by
 unfold bW rl;dsimp only;rw[EN,Int.mul_zero,if_pos (.inl rfl)]
def PL(p q:Rat):bW (rl p) (rl q)=oC p q:=by
 rw[qaM];unfold rl;dsimp only;rw[qg9,qeg]
def uP(x y:Rl):bW x y= -1∨bW x y=0∨bW x y=1:=by
 have hs:∀q,dJ q= -1∨dJ q=0∨dJ q=1:=fun q=>by rcases jD q with h|h|h<;>simp[h.2]
 have hm:∀{a b:Int},(a= -1∨a=0∨a=1)->(b= -1∨b=0∨b=1)->(a*b= -1∨a*b=0∨a*b=1):=fun h h'=>by
  rcases h with h|h|h<;>rcases h' with h'|h'|h'<;>simp[h,h']
 have hq:∀p q,oC p q= -1∨oC p q=0∨oC p q=1:=fun p q=>by rcases xZ p q with h|h|h<;>simp[h.2]
 have h1:∀a b r,uw a b r= -1∨uw a b r=0∨uw a b r=1:=fun a b r=>by
  unfold uw;split
  ·exact hs _
  ·split
   ·exact hm (hs _) (hs _)
   ·exact hm (hs _) (hq _ _)
 unfold bW;split
 ·exact h1 _ _ _
 ·split
  ·exact hm (hs _) (hs _)
  ·exact hm (h1 _ _ _) (h1 _ _ _)
end Go.Via
namespace Go.Via
section
variable{α:Type}{κ:α->Int}
def iO(g:α->Bool):Option α->List α->List (α×α)
 |_,[]=>[]
 |none,c::cs=>if g c=true then iO g (some c) cs else iO g none cs
 |some f,c::cs=>if g c=true then iO g (some f) cs else(f,c)::iO g none cs
def oW{g h:α->Bool}:∀{C:List α} {st:Option α},(∀c∈C,g c=h c)->iO g st C=iO h st C
 |[],none,_=>rfl
 |[],some _,_=>rfl
 |c::cs,none,H=>by
  unfold iO;rw[H c (List.mem_cons_self ..),oW (fun x hx=>H x (List.mem_cons_of_mem _ hx)),oW (C:=cs) (st:=none) (fun x hx=>H x (List.mem_cons_of_mem _ hx))]
 |c::cs,some f,H=>by
  unfold iO;rw[H c (List.mem_cons_self ..),oW (fun x hx=>H x (List.mem_cons_of_mem _ hx)),oW (C:=cs) (st:=none) (fun x hx=>H x (List.mem_cons_of_mem _ hx))]
def Chk(g:α->Bool)(p:α->Bool):Bool->List α->Prop
 |_,[]=>True
 |s,c::cs=>(p c=true∨g c=s)∧Chk g p (g c) cs
def pI{g p:α->Bool}:∀{C:List α} {st:Option α},Chk g p st.isSome C->iO g st C=iO g st (C.filter p)
 |[],none,_=>rfl
 |[],some _,_=>rfl
 |c::cs,none,H=>by
  obtain⟨h1,h2⟩:=H;cases hp:p c
  ·rw[List.filter_cons_of_neg (by rw[hp];decide)];have h3:g c=false:=by rcases h1 with h|h;rw[hp] at h;cases h;exact h
   rw[h3] at h2;unfold iO;rw[h3,if_neg (by decide),pI (st:=none) h2];cases cs.filter p<;>rfl
  ·rw[List.filter_cons_of_pos hp];unfold iO;cases hg:g c
   ·rw[hg] at h2;rw[if_neg (by decide),if_neg (by decide),pI (st:=none) h2]
   ·rw[hg] at h2;rw[if_pos rfl,if_pos rfl,pI (st:=some c) h2]
 |c::cs,some f,H=>by
  obtain⟨h1,h2⟩:=H;cases hp:p c
  ·rw[List.filter_cons_of_neg (by rw[hp];decide)];have h3:g c=true:=by rcases h1 with h|h;rw[hp] at h;cases h;exact h
   rw[h3] at h2;unfold iO;rw[h3,if_pos rfl,pI (st:=some f) h2];cases cs.filter p<;>rfl
  ·rw[List.filter_cons_of_pos hp];unfold iO;cases hg:g c
   ·rw[hg] at h2;rw[if_neg (by decide),if_neg (by decide),pI (st:=none) h2]
   ·rw[hg] at h2;rw[if_pos rfl,if_pos rfl,pI (st:=some f) h2]
def yU:∀{C D:List α},C.Pairwise (fun a b=>κ a<κ b)->D.Pairwise (fun a b=>κ a<κ b)->(∀x,x∈C↔x∈D)->C=D
 |[],[],_,_,_=>rfl
 |[],d::D,_,_,H=>absurd ((H d).2 (List.mem_cons_self ..)) (by simp)
 |c::C,[],_,_,H=>absurd ((H c).1 (List.mem_cons_self ..)) (by simp)
 |c::C,d::D,h1,h2,H=>by
  obtain⟨a1,a2⟩:=List.pairwise_cons.1 h1;obtain⟨b1,b2⟩:=List.pairwise_cons.1 h2;have e:c=d:=by
   have m1:=(H c).1 (List.mem_cons_self ..);have m2:=(H d).2 (List.mem_cons_self ..);rcases List.mem_cons.1 m1 with h|h
   ·exact h
   ·rcases List.mem_cons.1 m2 with h'|h'
    ·exact h'.symm
    ·have:=a1 d h';have:=b1 c h;omega
  subst e;refine congrArg (c:: ·) (yU a2 b2 fun x=>?_)
  constructor
  ·intro hx;rcases List.mem_cons.1 ((H x).1 (List.mem_cons_of_mem _ hx)) with h|h
   ·subst h;have:=a1 x hx;omega
   ·exact h
  ·intro hx;rcases List.mem_cons.1 ((H x).2 (List.mem_cons_of_mem _ hx)) with h|h
   ·subst h;have:=b1 x hx;omega
   ·exact h
def wK(κ:α->Int):List α->List α
 |[]=>[]
 |[x]=>[x]
 |x::y::l=>if κ x=κ y then wK κ (y::l) else x::wK κ (y::l)
def x8:∀{l:List α} {x:α},x∈wK κ l->x∈l
 |[],_,h=>h
 |[_],_,h=>h
 |x::y::l,z,h=>by
  unfold wK at h
  split at h
  ·exact List.mem_cons_of_mem _ (x8 h)
  ·rcases List.mem_cons.1 h with h|h
   ·subst h;exact List.mem_cons_self ..
   ·exact List.mem_cons_of_mem _ (x8 h)
def Gl:∀{l:List α},l.Pairwise (fun a b=>κ a<=κ b)->(wK κ l).Pairwise (fun a b=>κ a<κ b)
 |[],_=>List.Pairwise.nil
 |[x],_=>List.pairwise_singleton ..
 |x::y::l,h=>by
  obtain⟨h1,h2⟩:=List.pairwise_cons.1 h;obtain⟨h3,_⟩:=List.pairwise_cons.1 h2;unfold wK
  split
  ·exact Gl h2
  ·rename_i hne
   refine List.pairwise_cons.2 ⟨fun z hz=>?_,Gl h2⟩;have hz':=x8 hz;have:=h1 y (List.mem_cons_self ..);rcases List.mem_cons.1 hz' with e|e
   ·subst e;omega
   ·have:=h3 z e;omega
def BI:∀{l:List α} {x:α},(∀a∈l,∀b∈l,κ a=κ b->a=b)->x∈l->x∈wK κ l
 |[],_,_,h=>h
 |[_],_,_,h=>h
 |x::y::l,z,H,h=>by
  have H':∀a∈y::l,∀b∈y::l,κ a=κ b->a=b:=fun a ha b hb=>H a (List.mem_cons_of_mem _ ha) b (List.mem_cons_of_mem _ hb)
  unfold wK
  split
  ·rename_i he
   rcases List.mem_cons.1 h with e|e
   ·subst e;have:=H z (List.mem_cons_self ..) y (List.mem_cons_of_mem _ (List.mem_cons_self ..)) he;subst this;exact BI H' (List.mem_cons_self ..)
   ·exact BI H' e
  ·rcases List.mem_cons.1 h with e|e
   ·subst e;exact List.mem_cons_self ..
   ·exact List.mem_cons_of_mem _ (BI H' e)
def qE(κ:α->Int)(c:Int):List (α×Int×Int)->Int
 |[]=>0
 |e::l=>(if κ e.1<=c then e.2.1 else 0)+qE κ c l
def qF(κ:α->Int)(c:Int):List (α×Int×Int)->Int
 |[]=>0
 |e::l=>(if κ e.1<=c then e.2.2 else 0)+qF κ c l
def LH(κ:α->Int)(keep:Bool->Bool->Bool):List (α×Int×Int)->Int->Int->Option α->List (α×α)
 |[],_,_,_=>[]
 |[x],m,n,st=>
  match st,keep (decide (0<m+x.2.1)) (decide (0<n+x.2.2)) with
  |some f,false=>[(f,x.1)]
  |_,_=>[]
 |x::y::l,m,n,st=>
  if κ x.1=κ y.1 then LH κ keep (y::l) (m+x.2.1) (n+x.2.2) st else
  match st,keep (decide (0<m+x.2.1)) (decide (0<n+x.2.2)) with
  |none,true=>LH κ keep (y::l) (m+x.2.1) (n+x.2.2) (some x.1)
  |some f,false=>(f,x.1)::LH κ keep (y::l) (m+x.2.1) (n+x.2.2) none
  |st,_=>LH κ keep (y::l) (m+x.2.1) (n+x.2.2) st
def NS{c:Int}:∀{l:List (α×Int×Int)},(∀e∈l,c<κ e.1)->qE κ c l=0∧qF κ c l=0
 |[],_=>⟨rfl,rfl⟩
 |e::l,h=>by
  have h1:=h e (List.mem_cons_self ..);obtain⟨a,b⟩:=NS (l:=l) fun x hx=>h x (List.mem_cons_of_mem _ hx)
  unfold qE qF;rw[if_neg (by omega),if_neg (by omega),a,b];exact⟨rfl,rfl⟩
def RQ{keep:Bool->Bool->Bool}:∀{l:List (α×Int×Int)} {m n:Int} {st:Option α},l.Pairwise (fun a b=>κ a.1<=κ b.1)->
 LH κ keep l m n st=iO (fun c=>keep (decide (0<m+qE κ (κ c) l)) (decide (0<n+qF κ (κ c) l))) st (wK κ (l.map (·.1)))
 |[],m,n,none,_=>rfl
 |[],m,n,some _,_=>rfl
 |[x],m,n,st,_=>by
  unfold LH;show _=iO _ st [x.1];have e1:qE κ (κ x.1) [x]=x.2.1:=by simp[qE]
  have e2:qF κ (κ x.1) [x]=x.2.2:=(by simp[qF]);cases st
  ·unfold iO;rw[e1,e2];cases keep (decide (0<m+x.2.1)) (decide (0<n+x.2.2))<;>rfl
  ·unfold iO;rw[e1,e2];cases keep (decide (0<m+x.2.1)) (decide (0<n+x.2.2))<;>rfl
 |x::y::l,m,n,st,h=>by
  obtain⟨h1,h2⟩:=List.pairwise_cons.1 h;have hxy:=h1 y (List.mem_cons_self ..);have G:∀c,κ x.1<=κ c->keep (decide (0<m+qE κ (κ c) (x::y::l))) (decide (0<n+qF κ (κ c) (x::y::l)))=keep (decide (0<m+x.2.1+qE κ (κ c) (y::l))) (decide (0<n+x.2.2+qF κ (κ c) (y::l))):=fun c hc=>by
   rw[qE,qF,if_pos hc,if_pos hc,<-Int.add_assoc,<-Int.add_assoc]
  have hl:∀c∈wK κ (y.1::l.map (·.1)),κ x.1<=κ c:=fun c hc=>by
   obtain⟨e,he,rfl⟩:=List.mem_map.1 (show c∈(y::l).map (·.1) from x8 hc);exact h1 e he
  have ih:=fun m n st=>RQ (keep:=keep) (m:=m) (n:=n) (st:=st) h2
  unfold LH;show _=iO _ st (wK κ (x.1::y.1::l.map (·.1)));unfold wK
  by_cases he:κ x.1=κ y.1
  ·rw[if_pos he,if_pos he,ih];exact oW fun c hc=>(G c (hl c hc)).symm
  ·rw[if_neg he,if_neg he];have hz:=NS (κ:=κ) (c:=κ x.1) (l:=y::l) (fun e hel=>by
 rcases List.mem_cons.1 hel with e'|e'
 ·subst e';omega
 ·have:=(List.pairwise_cons.1 h2).1 e e';omega)
   have ex:keep (decide (0<m+qE κ (κ x.1) (x::y::l))) (decide (0<n+qF κ (κ x.1) (x::y::l)))=keep (decide (0<m+x.2.1)) (decide (0<n+x.2.2)):=by
    rw[G x.1 (Int.le_refl _),hz.1,hz.2,Int.add_zero,Int.add_zero]
   have ec:=fun st=>oW (st:=st) (C:=wK κ (y.1::l.map (fun e=>e.1))) fun c hc=>G c (hl c hc)
   have ih':=fun st=>(ih (m+x.2.1) (n+x.2.2) st).trans (ec st).symm
   cases st
   ·unfold iO;rw[ex];cases keep (decide (0<m+x.2.1)) (decide (0<n+x.2.2))
    ·exact ih' none
    ·exact ih' (some x.1)
   ·unfold iO;rw[ex];cases keep (decide (0<m+x.2.1)) (decide (0<n+x.2.2))
    ·exact congrArg _ (ih' none)
    ·exact ih' (some _)
end
end Go.Via
namespace Go.Via
open Go
structure Iv where
 f:Rl
 t:Rl
 fo:Bool
 tp:Bool
deriving DecidableEq
abbrev qJ:=Rl×Bool
def Ia(f l:qJ):Iv:=⟨f.1,l.1,f.2,!l.2⟩
def Iv.b(i:Iv):qJ:=(i.f,i.fo)
def Iv.e(i:Iv):qJ:=(i.t,!i.tp)
structure gU(S:Rl->Prop)(ρ:Rl->Int):Prop where
 lt:∀{x y},S x->S y->(bW x y<0↔ρ x<ρ y)
 gt:∀{x y},S x->S y->(0<bW x y↔ρ y<ρ x)
 inj:∀{x y},S x->S y->ρ x=ρ y->x=y
def aV(ρ:Rl->Int)(b:qJ):Int:=2*ρ b.1+(if b.2=true then 1 else 0)
def WB{S:Rl->Prop}{ρ:Rl->Int}(T:gU S ρ){a b:qJ}(ha:S a.1)(hb:S b.1)(h:aV ρ a=aV ρ b):a=b:=by
 obtain⟨x,c⟩:=a;obtain⟨y,d⟩:=b;unfold aV at h;dsimp only at*;have:ρ x=ρ y∧c=d:=by cases c<;>cases d<;>simp at h ⊢ <;>omega
 rw[T.inj ha hb this.1,this.2]
def xg(a b:qJ):Int:=if bW a.1 b.1≠0 then bW a.1 b.1 else if a.2=b.2 then 0 else if b.2=true then-1 else 1
def RS{S:Rl->Prop}{ρ:Rl->Int}(T:gU S ρ){a b:qJ}(ha:S a.1)(hb:S b.1):xg a b=zX (aV ρ a) (aV ρ b):=by
 have h1:=T.lt ha hb;have h2:=T.gt ha hb;have h3:=uP a.1 b.1;unfold xg zX aV;obtain⟨x,c⟩:=a;obtain⟨y,d⟩:=b;dsimp only at*
 generalize bW x y=z at*
 rcases h3 with h|h|h
 ·subst h;have:=h1.1 (by decide);rw[if_pos (by decide),if_pos (by cases c<;>cases d<;>simp<;>omega)]
 ·subst h;have e:ρ x=ρ y:=by
   have a1:¬ρ x<ρ y:=fun e=>absurd (h1.2 e) (by decide)
   have a2:¬ρ y<ρ x:=fun e=>absurd (h2.2 e) (by decide)
   omega
  rw[e,if_neg (by decide)];cases c<;>cases d<;>simp
  ·intro h;omega
  ·rw[if_neg (by omega),if_pos (by omega)]
 ·subst h;have:=h2.1 (by decide);rw[if_pos (by decide),if_neg (by cases c<;>cases d<;>simp<;>omega),if_pos (by cases c<;>cases d<;>simp<;>omega)]
def memB(ρ:Rl->Int)(l:List Iv)(c:Int):Bool:=l.any fun i=>decide (aV ρ i.b<=c)&&decide (c<aV ρ i.e)
def NT(here:Rl->Bool)(btw:Rl->Rl->Bool):Option qJ->List Rl->List (qJ×qJ)
 |_,[]=>[]
 |some f,[t]=>[(f,(t,here t))]
 |none,[t]=>if here t=true then[((t,false),(t,true))] else[]
 |some f,t::u::ts=>
  if here t=true then(if btw t u=true then NT here btw (some f) (u::ts) else(f,(t,true))::NT here btw none (u::ts))
  else(f,(t,false))::NT here btw (if btw t u=true then some (t,true) else none) (u::ts)
 |none,t::u::ts=>
  if here t=true then(if btw t u=true then NT here btw (some (t,false)) (u::ts) else((t,false),(t,true))::NT here btw none (u::ts))
  else NT here btw (if btw t u=true then some (t,true) else none) (u::ts)
def nZ:List Rl->List qJ
 |[]=>[]
 |t::ts=>(t,false)::(t,true)::nZ ts
def qha(here:Rl->Bool)(btw:Rl->Rl->Bool)(g:qJ->Bool):List Rl->Prop
 |[]=>True
 |[t]=>g (t,false)=here t∧g (t,true)=false
 |t::u::ts=>g (t,false)=here t∧g (t,true)=btw t u∧qha here btw g (u::ts)
def EO{here:Rl->Bool}{btw:Rl->Rl->Bool}{g:qJ->Bool}:∀{ts:List Rl} {st:Option qJ},qha here btw g ts->NT here btw st ts=iO g st (nZ ts)
 |[],none,_=>rfl
 |[],some _,_=>rfl
 |[t],none,h=>by
  obtain⟨h1,h2⟩:=h;unfold nZ nZ iO NT;rw[h1];cases here t
  ·simp[iO,h2]
  ·simp[iO,h2]
 |[t],some f,h=>by
  obtain⟨h1,h2⟩:=h;unfold nZ nZ iO NT;rw[h1];cases here t
  ·simp[iO,h2]
  ·simp[iO,h2]
 |t::u::ts,none,h=>by
  obtain⟨h1,h2,h3⟩:=h;have ih:=fun st=>EO (st:=st) h3
  show _=iO g none ((t,false)::(t,true)::nZ (u::ts));unfold NT iO;rw[h1];cases here t
  ·simp only[Bool.false_eq_true,if_false];rw[ih];unfold iO;rw[h2];cases btw t u<;>rfl
  ·simp only[if_true];unfold iO;rw[h2];cases btw t u
   ·simp only[Bool.false_eq_true,if_false];rw[ih]
   ·simp only[if_true];rw[ih]
 |t::u::ts,some f,h=>by
  obtain⟨h1,h2,h3⟩:=h;have ih:=fun st=>EO (st:=st) h3
  show _=iO g (some f) ((t,false)::(t,true)::nZ (u::ts));unfold NT iO;rw[h1];cases here t
  ·simp only[Bool.false_eq_true,if_false];rw[ih];unfold iO;rw[h2];cases btw t u<;>rfl
  ·simp only[if_true];unfold iO;rw[h2];cases btw t u
   ·simp only[Bool.false_eq_true,if_false];rw[ih]
   ·simp only[if_true];rw[ih]
def CG(l:List Iv):List (qJ×Int×Int):=l.flatMap fun i=>[(i.b,1,0),(i.e,-1,0)]
def Ib(l:List Iv):List (qJ×Int×Int):=l.flatMap fun i=>[(i.b,0,1),(i.e,0,-1)]
def Ha{α:Type}{κ:α->Int}{c:Int}:∀{l m:List (α×Int×Int)},qE κ c (l++m)=qE κ c l+qE κ c m
 |[],m=>by simp[qE]
 |e::l,m=>by simp only[List.cons_append,qE];rw[Ha (l:=l)];omega
def He{α:Type}{κ:α->Int}{c:Int}:∀{l m:List (α×Int×Int)},qF κ c (l++m)=qF κ c l+qF κ c m
 |[],m=>by simp[qF]
 |e::l,m=>by simp only[List.cons_append,qF];rw[He (l:=l)];omega
def qaN{α:Type}{κ:α->Int}{c:Int}{l m:List (α×Int×Int)}(h:l.Perm m):qE κ c l=qE κ c m∧qF κ c l=qF κ c m:=by
 induction h with
 |nil=>exact⟨rfl,rfl⟩
 |cons x _ ih=>unfold qE qF;rw[ih.1,ih.2];exact⟨rfl,rfl⟩
 |swap x y l=>simp only[qE,qF];omega
 |trans _ _ ih1 ih2=>exact⟨ih1.1.trans ih2.1,ih1.2.trans ih2.2⟩
def Gn(ρ:Rl->Int)(l:List Iv):Prop:=∀i∈l,aV ρ i.b<aV ρ i.e
def Gn.tail{ρ:Rl->Int}{i:Iv}{l:List Iv}(h:Gn ρ (i::l)):Gn ρ l:=fun x hx=>h x (List.mem_cons_of_mem _ hx)
def WC{ρ:Rl->Int}{c:Int}:∀{l:List Iv},Gn ρ l->0<=qE (aV ρ) c (CG l)∧(0<qE (aV ρ) c (CG l)↔memB ρ l c=true)∧qF (aV ρ) c (CG l)=0
 |[],_=>by simp[CG,qE,qF,memB]
 |i::l,h=>by
  obtain⟨h1,h2,h3⟩:=WC (c:=c) h.tail;have hi:=h i (List.mem_cons_self ..);have e:CG (i::l)=(i.b,1,0)::(i.e,-1,0)::CG l:=rfl;rw[e];unfold qE qF qE qF;dsimp only;have em:memB ρ (i::l) c=((decide (aV ρ i.b<=c)&&decide (c<aV ρ i.e))||memB ρ l c):=rfl;rw[em,h3,Bool.or_eq_true,Bool.and_eq_true,decide_eq_true_eq,decide_eq_true_eq,<-h2]
  by_cases a1:aV ρ i.b<=c
  ·by_cases a2:aV ρ i.e<=c
   ·rw[if_pos a1,if_pos a2,if_pos a1,if_pos a2];omega
   ·rw[if_pos a1,if_neg a2,if_pos a1,if_neg a2];omega
  ·rw[if_neg a1,if_neg (by omega),if_neg a1,if_neg (by omega)];omega
def WE{ρ:Rl->Int}{c:Int}:∀{l:List Iv},Gn ρ l->0<=qF (aV ρ) c (Ib l)∧(0<qF (aV ρ) c (Ib l)↔memB ρ l c=true)∧qE (aV ρ) c (Ib l)=0
 |[],_=>by simp[Ib,qE,qF,memB]
 |i::l,h=>by
  obtain⟨h1,h2,h3⟩:=WE (c:=c) h.tail;have hi:=h i (List.mem_cons_self ..);have e:Ib (i::l)=(i.b,0,1)::(i.e,0,-1)::Ib l:=rfl;rw[e];unfold qE qF qE qF;dsimp only;have em:memB ρ (i::l) c=((decide (aV ρ i.b<=c)&&decide (c<aV ρ i.e))||memB ρ l c):=rfl;rw[em,h3,Bool.or_eq_true,Bool.and_eq_true,decide_eq_true_eq,decide_eq_true_eq,<-h2]
  by_cases a1:aV ρ i.b<=c
  ·by_cases a2:aV ρ i.e<=c
   ·rw[if_pos a1,if_pos a2,if_pos a1,if_pos a2];omega
   ·rw[if_pos a1,if_neg a2,if_pos a1,if_neg a2];omega
  ·rw[if_neg a1,if_neg (by omega),if_neg a1,if_neg (by omega)];omega
def qei{ρ:Rl->Int}{a b:List Iv}{keep:Bool->Bool->Bool}{l:List (qJ×Int×Int)}(ha:Gn ρ a)(hb:Gn ρ b)(hp:l.Perm (CG a++Ib b))(hs:l.Pairwise (fun x y=>aV ρ x.1<=aV ρ y.1)):
 LH (aV ρ) keep l 0 0 none=iO (fun c=>keep (memB ρ a (aV ρ c)) (memB ρ b (aV ρ c))) none (wK (aV ρ) (l.map (·.1))):=by
 rw[RQ hs];refine oW fun c _=>?_
 obtain⟨e1,e2⟩:=qaN (κ:=aV ρ) (c:=aV ρ c) hp;obtain⟨_,a2,a3⟩:=WC (c:=aV ρ c) ha;obtain⟨_,b2,b3⟩:=WE (c:=aV ρ c) hb;rw[e1,e2,Ha,He,a3,b3,Int.zero_add,Int.zero_add,Int.add_zero,Int.zero_add]
 congr 1
 ·rw[Bool.eq_iff_iff,decide_eq_true_eq];exact a2
 ·rw[Bool.eq_iff_iff,decide_eq_true_eq];exact b2
end Go.Via
namespace Go.Via
open Go
def inR(i:Iv)(t:Rl):Bool:=(decide (bW i.f t<0)||decide (bW i.f t=0)&& !i.fo)&&(decide (bW t i.t<0)||decide (bW t i.t=0)&& !i.tp)
def oh(l:List Iv)(t:Rl):Bool:=l.any fun i=>inR i t
def oq(l:List Iv)(a b:Rl):Bool:=l.any fun i=>decide (bW i.f a<=0)&&decide (bW b i.t<=0)
def eX(l:List Iv):List qJ:=l.flatMap fun i=>[i.b,i.e]
def bV(l:List Iv):List Rl:=l.flatMap fun i=>[i.f,i.t]
def kE(S:Rl->Prop)(l:List Iv):Prop:=∀i∈l,S i.f∧S i.t
def gz{l:List Iv}{b:qJ}:b∈eX l↔∃i∈l,b=i.b∨b=i.e:=by
 unfold eX;rw[List.mem_flatMap];simp
def nC{l:List Iv}{x:Rl}:x∈bV l↔∃i∈l,x=i.f∨x=i.t:=by
 unfold bV;rw[List.mem_flatMap];simp
def gU.zero{S:Rl->Prop}{ρ:Rl->Int}(T:gU S ρ){x y:Rl}(hx:S x)(hy:S y):bW x y=0↔ρ x=ρ y:=by
 have h1:=T.lt hx hy;have h2:=T.gt hx hy;rcases uP x y with h|h|h<;>rw[h] at h1 h2 ⊢ <;>simp at h1 h2 ⊢ <;>omega
def qej{S:Rl->Prop}{ρ:Rl->Int}(T:gU S ρ){i:Iv}{t:Rl}(hf:S i.f)(ht:S i.t)(h:S t):inR i t=(decide (aV ρ i.b<=aV ρ (t,false))&&decide (aV ρ (t,false)<aV ρ i.e)):=by
 have h1:=T.lt hf h;have h2:=T.lt h ht;have h3:=T.zero hf h;have h4:=T.zero h ht;unfold inR aV Iv.b Iv.e;rw[Bool.eq_iff_iff];simp only[Bool.and_eq_true,Bool.or_eq_true,decide_eq_true_eq,h1,h2,h3,h4];cases i.fo<;>cases i.tp<;>simp<;>omega
def BJ{S:Rl->Prop}{ρ:Rl->Int}(T:gU S ρ){l:List Iv}{t:Rl}(hl:kE S l)(h:S t):oh l t=memB ρ l (aV ρ (t,false)):=by
 unfold oh memB
 induction l with
 |nil=>rfl
 |cons i l ih=>
  rw[List.any_cons,List.any_cons,ih (fun x hx=>hl x (List.mem_cons_of_mem _ hx)),qej T (hl i (List.mem_cons_self ..)).1 (hl i (List.mem_cons_self ..)).2 h]
def NU{S:Rl->Prop}{ρ:Rl->Int}(T:gU S ρ){l:List Iv}{t u:Rl}(hl:kE S l)(h:S t)(hu:S u)(htu:ρ t<ρ u)(hn:∀x∈bV l,ρ x<=ρ t∨ρ u<=ρ x):oq l t u=memB ρ l (aV ρ (t,true)):=by
 unfold oq memB
 induction l with
 |nil=>rfl
 |cons i l ih=>
  have hi:=hl i (List.mem_cons_self ..);have n1:=hn i.t (nC.2 ⟨i,List.mem_cons_self ..,.inr rfl⟩);rw[List.any_cons,List.any_cons,ih (fun x hx=>hl x (List.mem_cons_of_mem _ hx)) (fun x hx=>by
 obtain⟨j,hj,e⟩:=nC.1 hx;exact hn x (nC.2 ⟨j,List.mem_cons_of_mem _ hj,e⟩))]
  congr 1
  have h1:=T.gt hi.1 h;have h2:=T.gt hu hi.2;unfold aV Iv.b Iv.e;rw[Bool.eq_iff_iff];simp only[Bool.and_eq_true,decide_eq_true_eq];have e1:bW i.f t<=0↔ρ i.f<=ρ t:=(by omega);have e2:bW u i.t<=0↔ρ u<=ρ i.t:=(by omega);rw[e1,e2];cases i.fo<;>cases i.tp<;>simp<;>omega
def BK{ρ:Rl->Int}{l:List Iv}{k1 k2:Int}(h:k1<=k2)(hn:∀b∈eX l,¬(k1<aV ρ b∧aV ρ b<=k2)):memB ρ l k1=memB ρ l k2:=by
 unfold memB
 induction l with
 |nil=>rfl
 |cons i l ih=>
  have n1:=hn i.b (gz.2 ⟨i,List.mem_cons_self ..,.inl rfl⟩);have n2:=hn i.e (gz.2 ⟨i,List.mem_cons_self ..,.inr rfl⟩);rw[List.any_cons,List.any_cons,ih fun b hb=>by
 obtain⟨j,hj,e⟩:=gz.1 hb;exact hn b (gz.2 ⟨j,List.mem_cons_of_mem _ hj,e⟩)]
  congr 1
  rw[Bool.eq_iff_iff];simp only[Bool.and_eq_true,decide_eq_true_eq];omega
def EP{ρ:Rl->Int}{l:List Iv}{k:Int}(hn:∀b∈eX l,k<aV ρ b):memB ρ l k=false:=by
 unfold memB;rw[List.any_eq_false];intro i hi;have:=hn i.b (gz.2 ⟨i,hi,.inl rfl⟩);simp only[Bool.and_eq_true,decide_eq_true_eq];omega
def BL{ρ:Rl->Int}{l:List Iv}{k:Int}(hn:∀b∈eX l,aV ρ b<=k):memB ρ l k=false:=by
 unfold memB;rw[List.any_eq_false];intro i hi;have:=hn i.e (gz.2 ⟨i,hi,.inr rfl⟩);simp only[Bool.and_eq_true,decide_eq_true_eq];omega
def UV{ρ:Rl->Int}{G:Int->Bool}{p:qJ->Bool}{B:List qJ}(hp:∀b,p b=true↔b∈B)(HG:∀k1 k2,k1<=k2->(∀b∈B,¬(k1<aV ρ b∧aV ρ b<=k2))->G k1=G k2):
 ∀{C:List qJ} {lo:Int},C.Pairwise (fun a b=>aV ρ a<aV ρ b)->(∀c∈C,lo<aV ρ c)->(∀b∈B,aV ρ b<=lo∨b∈C)->Chk (fun c=>G (aV ρ c)) p (G lo) C
 |[],_,_,_,_=>trivial
 |c::cs,lo,hs,hlo,hB=>by
  obtain⟨s1,s2⟩:=List.pairwise_cons.1 hs;have hc:=hlo c (List.mem_cons_self ..);refine⟨?_,UV hp HG s2 (fun x hx=>s1 x hx) fun b hb=>?_⟩
  ·by_cases hpc:p c=true
   ·exact .inl hpc
   ·refine .inr (HG lo (aV ρ c) (by omega) fun b hb hk=>?_).symm
    rcases hB b hb with h|h
    ·omega
    ·rcases List.mem_cons.1 h with h|h
     ·subst h;exact hpc ((hp b).2 hb)
     ·have:=s1 b h;omega
  ·rcases hB b hb with h|h
   ·exact .inl (by omega)
   ·rcases List.mem_cons.1 h with h|h
    ·subst h;exact .inl (Int.le_refl _)
    ·exact .inr h
def qX:∀{ts:List Rl} {b:qJ},b∈nZ ts↔b.1∈ts
 |[],b=>by simp[nZ]
 |t::ts,(x,c)=>by
  unfold nZ;rw[List.mem_cons,List.mem_cons,qX (ts:=ts),List.mem_cons];dsimp only
  constructor
  ·rintro(h|h|h)
   ·cases h;exact .inl rfl
   ·cases h;exact .inl rfl
   ·exact .inr h
  ·rintro(h|h)
   ·subst h;cases c;exact .inl rfl;exact .inr (.inl rfl)
   ·exact .inr (.inr h)
def uh{ρ:Rl->Int}:∀{ts:List Rl},ts.Pairwise (fun a b=>ρ a<ρ b)->(nZ ts).Pairwise (fun a b=>aV ρ a<aV ρ b)
 |[],_=>List.Pairwise.nil
 |t::ts,h=>by
  obtain⟨h1,h2⟩:=List.pairwise_cons.1 h;unfold nZ;refine List.pairwise_cons.2 ⟨fun b hb=>?_,List.pairwise_cons.2 ⟨fun b hb=>?_,uh h2⟩⟩
  ·rcases List.mem_cons.1 hb with e|e
   ·subst e;unfold aV;simp;omega
   ·have:=h1 b.1 (qX.1 e);unfold aV;simp;split<;>omega
  ·have:=h1 b.1 (qX.1 hb);unfold aV;simp;split<;>omega
def PM{S:Rl->Prop}{ρ:Rl->Int}(T:gU S ρ){op:Bool->Bool->Bool}(h0:op false false=false){a b:List Iv}(ha:kE S a)(hb:kE S b):
 ∀{ts pre:List Rl},(∀t∈ts,S t)->ts.Pairwise (fun x y=>ρ x<ρ y)->(∀x∈bV a++bV b,x∈ts∨∀t∈ts,ρ x<ρ t)->(∀i∈a++b,S i.f)->
 qha (fun t=>op (oh a t) (oh b t)) (fun t u=>op (oq a t u) (oq b t u)) (fun c=>op (memB ρ a (aV ρ c)) (memB ρ b (aV ρ c))) ts
 |[],_,_,_,_,_=>trivial
 |[t],_,hS,hs,he,hf=>by
  have ht:=hS t (List.mem_cons_self ..);refine⟨by dsimp only;rw[BJ T ha ht,BJ T hb ht],?_⟩;have hi:∀l:List Iv,(∀x∈bV l,x∈[t]∨∀u∈[t],ρ x<ρ u)->∀c∈eX l,aV ρ c<=aV ρ (t,true):=fun l hl c hc=>by
   obtain⟨i,hi,e⟩:=gz.1 hc;have hx:c.1∈bV l:=nC.2 ⟨i,hi,by rcases e with e|e<;>subst e;exact .inl rfl;exact .inr rfl⟩
   have:ρ c.1<=ρ t:=by
    rcases hl c.1 hx with h|h
    ·rw[List.mem_singleton] at h;rw[h];exact Int.le_refl _
    ·have:=h t (List.mem_cons_self ..);omega
   unfold aV;simp;split<;>omega
  dsimp only;rw[BL (hi a fun x hx=>he x (List.mem_append_left _ hx)),BL (hi b fun x hx=>he x (List.mem_append_right _ hx)),h0]
 |t::u::ts,pre,hS,hs,he,hf=>by
  obtain⟨s1,s2⟩:=List.pairwise_cons.1 hs;have ht:=hS t (List.mem_cons_self ..);have hu:=hS u (List.mem_cons_of_mem _ (List.mem_cons_self ..));have htu:=s1 u (List.mem_cons_self ..);have hn:∀x∈bV a++bV b,ρ x<=ρ t∨ρ u<=ρ x:=fun x hx=>by
   rcases he x hx with h|h
   ·rcases List.mem_cons.1 h with h|h
    ·rw[h];exact .inl (Int.le_refl _)
    ·rcases List.mem_cons.1 h with h|h
     ·rw[h];exact .inr (Int.le_refl _)
     ·have:=(List.pairwise_cons.1 s2).1 x h;exact .inr (by omega)
   ·have:=h t (List.mem_cons_self ..);exact .inl (by omega)
  refine⟨by dsimp only;rw[BJ T ha ht,BJ T hb ht],?_,PM T h0 ha hb (pre:=pre) (fun x hx=>hS x (List.mem_cons_of_mem _ hx)) s2 (fun x hx=>?_) hf⟩
  ·dsimp only;rw[NU T ha ht hu htu fun x hx=>hn x (List.mem_append_left _ hx),NU T hb ht hu htu fun x hx=>hn x (List.mem_append_right _ hx)]
  ·rcases he x hx with h|h
   ·rcases List.mem_cons.1 h with h|h
    ·right;intro y hy;rw[h];exact s1 y hy
    ·exact .inl h
   ·exact .inr fun y hy=>h y (List.mem_cons_of_mem _ hy)
def UW{S:Rl->Prop}{ρ:Rl->Int}(T:gU S ρ){op:Bool->Bool->Bool}(h0:op false false=false){a b:List Iv}(ha:kE S a)(hb:kE S b)(oa:Gn ρ a)(ob:Gn ρ b)
 {ends:List Rl}(hs:ends.Pairwise (fun x y=>ρ x<ρ y))(he:∀x,x∈ends↔x∈bV a++bV b)
 {l:List (qJ×Int×Int)}(hp:l.Perm (CG a++Ib b))(hl:l.Pairwise (fun x y=>aV ρ x.1<=aV ρ y.1)):
 LH (aV ρ) op l 0 0 none=NT (fun t=>op (oh a t) (oh b t)) (fun t u=>op (oq a t u) (oq b t u)) none ends:=by
 have hES:∀x∈bV a++bV b,S x:=fun x hx=>by
  rcases List.mem_append.1 hx with h|h
  ·obtain⟨i,hi,e⟩:=nC.1 h;rcases e with e|e<;>subst e;exact(ha i hi).1;exact(ha i hi).2
  ·obtain⟨i,hi,e⟩:=nC.1 h;rcases e with e|e<;>subst e;exact(hb i hi).1;exact(hb i hi).2
 have hS:∀t∈ends,S t:=fun t ht=>hES t ((he t).1 ht)
 rw[qei oa ob hp hl,EO (PM T h0 ha hb (pre:=[]) hS hs (fun x hx=> .inl ((he x).2 hx)) (fun i hi=>by
 rcases List.mem_append.1 hi with h|h;exact(ha i h).1;exact(hb i h).1))]
 have hsc:=uh (ρ:=ρ) hs;have hmB:∀b':qJ,b'∈eX a++eX b->b'∈nZ ends:=fun b' h=>by
  refine qX.2 ((he _).2 ?_);rcases List.mem_append.1 h with h|h
  ·obtain⟨i,hi,e⟩:=gz.1 h;refine List.mem_append_left _ (nC.2 ⟨i,hi,?_⟩);rcases e with e|e<;>subst e;exact .inl rfl;exact .inr rfl
  ·obtain⟨i,hi,e⟩:=gz.1 h;refine List.mem_append_right _ (nC.2 ⟨i,hi,?_⟩);rcases e with e|e<;>subst e;exact .inl rfl;exact .inr rfl
 obtain⟨lo,hlo⟩:∃lo:Int,∀c∈nZ ends,lo<aV ρ c:=by
  generalize nZ ends=C
  clear hmB hsc
  induction C with
  |nil=>exact⟨0,fun c hc=>absurd hc (by simp)⟩
  |cons c C ih=>
   obtain⟨lo,h⟩:=ih;refine⟨min lo (aV ρ c-1),fun x hx=>?_⟩
   rcases List.mem_cons.1 hx with e|e
   ·subst e;omega
   ·have:=h x e;omega
 have hG0:op (memB ρ a lo) (memB ρ b lo)=false:=by
  rw[EP fun c hc=>hlo c (hmB c (List.mem_append_left _ hc)),EP fun c hc=>hlo c (hmB c (List.mem_append_right _ hc)),h0]
 have hchk:=UV (ρ:=ρ) (G:=fun k=>op (memB ρ a k) (memB ρ b k)) (p:=fun c=>decide (c∈eX a++eX b)) (B:=eX a++eX b) (fun c=>by rw[decide_eq_true_eq]) (fun k1 k2 hk hn=>by
 rw[BK hk fun c hc=>hn c (List.mem_append_left _ hc),BK (l:=b) hk fun c hc=>hn c (List.mem_append_right _ hc)]) (lo:=lo) hsc hlo (fun c hc=> .inr (hmB c hc))
 rw[hG0] at hchk;rw[pI (st:=none) hchk]
 congr 1
 refine yU (κ:=aV ρ) ?_ ?_ fun c=>?_
 ·exact Gl (List.pairwise_map.2 hl)
 ·exact hsc.filter _
 ·have hev:∀c:qJ,c∈(CG a++Ib b).map (·.1)↔c∈eX a++eX b:=fun c=>by
   rw[List.map_append,List.mem_append,List.mem_append];have e1:∀m:List Iv,c∈(CG m).map (·.1)↔c∈eX m:=fun m=>by
    unfold CG eX;rw[List.map_flatMap];rfl
   have e2:∀m:List Iv,c∈(Ib m).map (·.1)↔c∈eX m:=fun m=>by
    unfold Ib eX;rw[List.map_flatMap];rfl
   rw[e1,e2]
  have hlm:c∈l.map (·.1)↔c∈eX a++eX b:=(by rw[<-hev];exact(hp.map _).mem_iff);rw[List.mem_filter,decide_eq_true_eq]
  constructor
  ·intro h;have h1:=hlm.1 (x8 h);exact⟨hmB c h1,h1⟩
  ·intro h;refine BI (fun x hx y hy e=>?_) (hlm.2 h.2);have m1:S x.1:=hS _ (qX.1 (hmB x (by rw[<-hev];exact(hp.map _).mem_iff.1 hx)));have m2:S y.1:=hS _ (qX.1 (hmB y (by rw[<-hev];exact(hp.map _).mem_iff.1 hy)));exact WB T m1 m2 e
end Go.Via
namespace Go.Via
open Go
def EQ:Nat->Nat->Nat
 |0,_=>0
 |k+1,n=>let s:=2*EQ k (n/4);if(s+1)*(s+1)<=n then s+1 else s
def cO(n:Nat):Nat:=EQ (n.log2+1) n
def J9:∀(k n:Nat),n<4^k->EQ k n*EQ k n<=n∧n<(EQ k n+1)*(EQ k n+1)
 |0,n,h=>by simp at h;subst h;simp[EQ]
 |k+1,n,h=>by
  have ih:=J9 k (n/4) (by rw[Nat.pow_succ] at h;omega);unfold EQ
  generalize EQ k (n/4)=s at ih ⊢
  dsimp only;obtain⟨h1,h2⟩:=ih;have e1:(2*s)*(2*s)=4*(s*s):=by grind
  have e2:(2*s+1+1)*(2*s+1+1)=4*((s+1)*(s+1)):=by grind
  split
  ·rename_i h3
   refine⟨h3,?_⟩;rw[e2];omega
  ·rename_i h3
   rw[e1];refine⟨by omega,by omega⟩
def Ko(n:Nat):cO n*cO n<=n∧n<(cO n+1)*(cO n+1):=by
 refine J9 _ n ?_;have h:n<2^(n.log2+1):=Nat.lt_log2_self;exact Nat.lt_of_lt_of_le h (Nat.pow_le_pow_left (by decide) _)
def UX{a b:Nat}(h:a*a<b*b):a<b:=by
 refine Nat.lt_of_not_le fun h1=>?_
 have:=Nat.mul_le_mul h1 h1;omega
def DI{n k:Nat}(h1:k*k<=n)(h2:n<(k+1)*(k+1)):cO n=k:=by
 obtain⟨a,b⟩:=Ko n;have c1:=UX (Nat.lt_of_le_of_lt a h2);have c2:=UX (Nat.lt_of_le_of_lt h1 b);omega
def RU(k:Nat):cO (k*k)=k:=DI (Nat.le_refl _) (by
 have:(k+1)*(k+1)=k*k+2*k+1:=(by grind);omega)
def Ym{a x:Nat}(hx:0<x):a<((x+a/x)/2+1)*((x+a/x)/2+1):=by
 generalize hq:a/x=q
 generalize hm:(x+q)/2=m
 have h1:a<x*(q+1):=by
  have:=Nat.lt_mul_div_succ a hx;rw[hq] at this;exact this
 have h2:x+q+1<=2*m+2:=by omega
 have h3:4*(x*(q+1))<=(x+(q+1))*(x+(q+1)):=by
  rcases Nat.le_total x (q+1) with h|h
  ·obtain⟨d,e⟩:=Nat.exists_eq_add_of_le h;rw[e];have:=Nat.zero_le (d*d);grind
  ·obtain⟨d,e⟩:=Nat.exists_eq_add_of_le h;rw[e];have:=Nat.zero_le (d*d);grind
 have h4:=Nat.mul_le_mul h2 h2;have e:(2*m+2)*(2*m+2)=4*((m+1)*(m+1)):=(by grind);have e2:x+(q+1)=x+q+1:=(by omega);rw[e2] at h3;omega
def UY{a x:Nat}(hx:0<x)(h:a<(x+1)*(x+1))(hn:x<=(x+a/x)/2):cO a=x:=by
 refine DI ?_ h;have h1:x<=a/x:=by omega
 exact(Nat.le_div_iff_mul_le hx).1 h1
def UZ{a x:Nat}(ha:0<a)(hx:0<x):0<(x+a/x)/2:=by
 by_cases h:x=1
 ·subst h;rw[Nat.div_one];omega
 ·generalize a/x=q
  omega
def BM(q:Rat):Bool:=decide (0<=q.num)&&(cO q.num.natAbs*cO q.num.natAbs==q.num.natAbs)&&(cO q.den*cO q.den==q.den)
def nD(q:Rat):Rat:=Rat.divInt (cO q.num.natAbs) (cO q.den)
def Kq:BM 0=true:=by decide+kernel
def DJ:nD 0=0:=by decide+kernel
structure Qd where
 c0:Rat
 c1:Rat
 c2:Rat
deriving DecidableEq
def wL(f:Qd)(t:Rat):Rat:=f.c0+t*(f.c1+t*f.c2)
def CJ(f:Qd)(t:Rat):Rat:=f.c1+(f.c2+f.c2)*t
def mkR(p q r:Rat):Rl:=if BM r=true then rl (p+q*nD r) else⟨p,q*q*r,decide (dJ q<0)⟩
def NW(f:Qd)(t:Rl):Rl:=mkR (wL f t.p+f.c2*t.r) (if t.n=true then-CJ f t.p else CJ f t.p) t.r
def Gp(f:Qd)(q:Rat):NW f (rl q)=rl (wL f q):=by
 unfold NW mkR rl;dsimp only;rw[Kq,if_pos rfl,DJ];have e:wL f q+f.c2*0+(if false=true then-CJ f q else CJ f q)*0=wL f q:=by grind
 rw[e]
def Rl.ok(x:Rl):Prop:=(x.r=0∧x.n=false)∨(0<x.r∧BM x.r=false)
def qhb(x:Rat):BM (x*x)=true:=by
 have hg:Nat.gcd (x.num*x.num).natAbs (x.den*x.den)=1:=by
  rw[Int.natAbs_mul];exact Nat.Coprime.mul_left (Nat.Coprime.mul_right x.reduced x.reduced) (Nat.Coprime.mul_right x.reduced x.reduced)
 have e:x*x=⟨x.num*x.num,x.den*x.den,Nat.mul_ne_zero x.den_nz x.den_nz,hg⟩:=by
  rw[Rat.mul_def];exact(Rat.mk_eq_normalize _ _ (Nat.mul_ne_zero x.den_nz x.den_nz) hg).symm
 rw[e];unfold BM;dsimp only;rw[Int.natAbs_mul,RU,RU];have:0<=x.num*x.num:=by
  rcases Int.le_total 0 x.num with h|h
  ·exact Int.mul_nonneg h h
  ·exact Int.mul_nonneg_of_nonpos_of_nonpos h h
 simp[this]
def qfO(q:Rat):(rl q).ok:= .inl ⟨rfl,rfl⟩
def Rl.ok.r0{x:Rl}(h:x.ok):0<=x.r:=by rcases h with h|h<;>grind
def Rl.ok.rat{x:Rl}(h:x.ok)(h0:x.r=0):x=rl x.p:=by
 rcases h with h|h
 ·cases x;simp only[rl] at*;obtain⟨h1,h2⟩:=h;subst h1;subst h2;rfl
 ·grind
def qaO{f:Qd}{t:Rl}(h:t.ok)(h0:t.r≠0):NW f t=⟨wL f t.p+f.c2*t.r,CJ f t.p*CJ f t.p*t.r,decide (dJ (oV t*CJ f t.p)<0)⟩:=by
 unfold NW mkR;have hs:BM t.r=false:=by rcases h with h|h;exact absurd h.1 h0;exact h.2
 rw[hs,if_neg (by decide)];unfold oV;cases t.n
 ·simp only[Bool.false_eq_true,if_false];rw[Rat.one_mul]
 ·simp only[if_true];have e1: -CJ f t.p* -CJ f t.p=CJ f t.p*CJ f t.p:=by grind
  have e2: -1*CJ f t.p= -CJ f t.p:=(by grind);rw[e1,e2]
end Go.Via
namespace Go.Via
open Go
structure qmh(S:Rl->Prop):Prop where
 swap:∀{x y},S x->S y->bW x y= -bW y x
 trans:∀{x y z},S x->S y->S z->bW x y<0->bW y z<0->bW x z<0
 eq0:∀{x y},S x->S y->bW x y=0->x=y
end Go.Via
namespace Go.Via
open Go
section
variable{A B C:Type}
def iK(mt:A->B->Option C)(ef:A->B->Bool):List A->List B->List C
 |[],_=>[]
 |_::_,[]=>[]
 |x::xs,y::ys=>(mt x y).toList++if ef x y=true then iK mt ef xs (y::ys) else iK mt ef (x::xs) ys
termination_by a b=>a.length+b.length
def flatK(mt:A->B->Option C)(a:List A)(b:List B):List C:=a.flatMap fun x=>b.filterMap (mt x)
def uQ{f:B->Option C}:∀{l:List B},(∀y∈l,f y=none)->l.filterMap f=[]
 |[],_=>rfl
 |y::l,h=>by rw[List.filterMap_cons_none (h y (List.mem_cons_self ..)),uQ fun z hz=>h z (List.mem_cons_of_mem _ hz)]
def Hf{mt:A->B->Option C}{y:B}{ys:List B}:∀{a:List A},(∀x∈a,mt x y=none)->flatK mt a (y::ys)=flatK mt a ys
 |[],_=>rfl
 |x::a,h=>by
  unfold flatK;rw[List.flatMap_cons,List.flatMap_cons,List.filterMap_cons_none (h x (List.mem_cons_self ..))]
  congr 1
  exact Hf fun z hz=>h z (List.mem_cons_of_mem _ hz)
def Gq{mt:A->B->Option C}{ef:A->B->Bool}{fa la:A->Int}{fb lb:B->Int}:
 ∀{a:List A} {b:List B},(∀x∈a,∀y∈b,(ef x y=true↔la x<=lb y)∧(la x<=fb y->mt x y=none)∧(lb y<=fa x->mt x y=none))->a.Pairwise (fun x y=>la x<=fa y)->b.Pairwise (fun x y=>lb x<=fb y)->iK mt ef a b=flatK mt a b
 |[],_,_,_,_=>by unfold iK;rfl
 |x::xs,[],_,_,_=>by
  unfold iK;have:∀a:List A,flatK mt a []=[]:=fun a=>by
   induction a with
   |nil=>rfl
   |cons z a ih=>unfold flatK at*;rw[List.flatMap_cons,ih];rfl
  exact(this _).symm
 |x::xs,y::ys,H,ha,hb=>by
  obtain⟨a1,a2⟩:=List.pairwise_cons.1 ha;obtain⟨b1,b2⟩:=List.pairwise_cons.1 hb;obtain⟨hef,_,_⟩:=H x (List.mem_cons_self ..) y (List.mem_cons_self ..);have hm1:∀z∈y::ys,la x<=fb z->mt x z=none:=fun z hz=>(H x (List.mem_cons_self ..) z hz).2.1
  have hm2:∀z∈x::xs,lb y<=fa z->mt z y=none:=fun z hz=>(H z hz y (List.mem_cons_self ..)).2.2
  unfold iK
  by_cases h:ef x y=true
  ·have hl:=hef.1 h;rw[if_pos h,Gq (fun z hz w hw=>H z (List.mem_cons_of_mem _ hz) w hw) a2 hb];unfold flatK;rw[List.flatMap_cons]
   congr 1
   cases hm:mt x y
   ·rw[List.filterMap_cons_none hm,uQ fun z hz=>hm1 z (List.mem_cons_of_mem _ hz) (by have:=b1 z hz;omega)];rfl
   ·rw[List.filterMap_cons_some hm,uQ fun z hz=>hm1 z (List.mem_cons_of_mem _ hz) (by have:=b1 z hz;omega)];rfl
  ·have hl:lb y<la x:=Int.not_le.1 fun hh=>h (hef.2 hh)
   rw[if_neg h,Gq (fun z hz w hw=>H z hz w (List.mem_cons_of_mem _ hw)) ha b2];have hd:flatK mt xs (y::ys)=flatK mt xs ys:=Hf fun z hz=>hm2 z (List.mem_cons_of_mem _ hz) (by have:=a1 z hz;omega)
   show _=(x::xs).flatMap _;rw[List.flatMap_cons];have e1:xs.flatMap (fun x=>(y::ys).filterMap (mt x))=xs.flatMap (fun x=>ys.filterMap (mt x)):=hd;rw[e1];have e2:flatK mt (x::xs) ys=ys.filterMap (mt x)++xs.flatMap (fun x=>ys.filterMap (mt x)):=by unfold flatK;rw[List.flatMap_cons]
   rw[e2];cases hm:mt x y
   ·rw[List.filterMap_cons_none hm];rfl
   ·rw[List.filterMap_cons_some hm];rfl
termination_by a b=>a.length+b.length
end
def sH(a b:Iv):Rl×Bool:=if bW a.f b.f<0 then(b.f,b.fo) else if bW a.f b.f=0 then(a.f,a.fo||b.fo) else(a.f,a.fo)
def uS(a b:Iv):Rl×Bool:=if 0<bW a.t b.t then(b.t,b.tp) else if bW a.t b.t=0 then(a.t,a.tp||b.tp) else(a.t,a.tp)
def eU(a b:Iv):Iv:=⟨(sH a b).1,(uS a b).1,(sH a b).2,(uS a b).2⟩
def jQ(i:Iv):Bool:=decide (bW i.f i.t<0)||decide (bW i.f i.t=0)&&(!i.fo&& !i.tp)
def jf(a b:Iv):Option Iv:=if jQ (eU a b)=true then some (eU a b) else none
def ER(a b:Iv):Bool:=decide (bW a.t b.t<0)||decide (bW a.t b.t=0)&&(a.tp|| !b.tp)
def Kt{S:Rl->Prop}{ρ:Rl->Int}(T:gU S ρ){a b:Iv}(ha:S a.f)(hb:S b.f):(eU a b).b=a.b∧aV ρ b.b<=aV ρ a.b∨(eU a b).b=b.b∧aV ρ a.b<=aV ρ b.b:=by
 have h1:=T.lt ha hb;have h2:=T.zero ha hb;have h3:=T.gt ha hb;unfold eU sH Iv.b aV;dsimp only;rcases uP a.f b.f with h|h|h<;>rw[h] at h1 h2 h3 ⊢
 ·right
  have:=h1.1 (by decide);simp;split<;>split<;>omega
 ·have e:=h2.1 rfl;have e':=T.inj ha hb e;simp;rw[e'];cases a.fo<;>cases b.fo<;>simp<;>omega
 ·left
  have:=h3.1 (by decide);simp;split<;>split<;>omega
def Ku{S:Rl->Prop}{ρ:Rl->Int}(T:gU S ρ){a b:Iv}(ha:S a.t)(hb:S b.t):(eU a b).e=a.e∧aV ρ a.e<=aV ρ b.e∨(eU a b).e=b.e∧aV ρ b.e<=aV ρ a.e:=by
 have h1:=T.lt ha hb;have h2:=T.zero ha hb;have h3:=T.gt ha hb;unfold eU uS Iv.e aV;dsimp only;rcases uP a.t b.t with h|h|h<;>rw[h] at h1 h2 h3 ⊢
 ·left
  have:=h1.1 (by decide);simp;split<;>split<;>omega
 ·have e:=h2.1 rfl;have e':=T.inj ha hb e;simp;rw[e'];cases a.tp<;>cases b.tp<;>simp<;>omega
 ·right
  have:=h3.1 (by decide);simp;split<;>split<;>omega
def uU{S:Rl->Prop}{ρ:Rl->Int}(T:gU S ρ){i:Iv}(hf:S i.f)(ht:S i.t):jQ i=true↔aV ρ i.b<aV ρ i.e:=by
 have h1:=T.lt hf ht;have h2:=T.zero hf ht;unfold jQ aV Iv.b Iv.e;simp only[Bool.or_eq_true,Bool.and_eq_true,decide_eq_true_eq,h1,h2];cases i.fo<;>cases i.tp<;>simp<;>omega
def Yn{S:Rl->Prop}{ρ:Rl->Int}(T:gU S ρ){a b:Iv}(ha:S a.t)(hb:S b.t):ER a b=true↔aV ρ a.e<=aV ρ b.e:=by
 have h1:=T.lt ha hb;have h2:=T.zero ha hb;unfold ER aV Iv.e;simp only[Bool.or_eq_true,Bool.and_eq_true,decide_eq_true_eq,h1,h2];cases a.tp<;>cases b.tp<;>simp<;>omega
def Gs{S:Rl->Prop}{a b:Iv}(ha:S a.f∧S a.t)(hb:S b.f∧S b.t):S (eU a b).f∧S (eU a b).t:=by
 unfold eU sH uS;dsimp only
 constructor
 ·split
  ·exact hb.1
  ·split<;>exact ha.1
 ·split
  ·exact hb.2
  ·split<;>exact ha.2
def Yo{S:Rl->Prop}{ρ:Rl->Int}(T:gU S ρ){a b:Iv}(ha:S a.f∧S a.t)(hb:S b.f∧S b.t)(h:aV ρ a.e<=aV ρ b.b∨aV ρ b.e<=aV ρ a.b)(oa:aV ρ a.b<aV ρ a.e)(ob:aV ρ b.b<aV ρ b.e):jf a b=none:=by
 unfold jf;refine if_neg fun hk=>?_
 have hk:=(uU T (Gs ha hb).1 (Gs ha hb).2).1 hk;rcases Kt T ha.1 hb.1 with⟨e1,_⟩|⟨e1,_⟩<;>rcases Ku T ha.2 hb.2 with⟨e2,_⟩|⟨e2,_⟩<;>rw[e1,e2] at hk<;>omega
end Go.Via
namespace Go.Via
open Go
def sJ(x:Rl):List Rl->List Rl
 |[]=>[x]
 |y::ys=>if bW y x<0 then y::sJ x ys else if bW y x=0 then y::ys else x::y::ys
def fG(l:List Rl):List Rl:=l.foldl (fun o x=>sJ x o) []
def ES{S:Rl->Prop}{ρ:Rl->Int}(T:gU S ρ){x:Rl}(hx:S x):∀{l:List Rl},(∀y∈l,S y)->∀z,z∈sJ x l↔z=x∨z∈l
 |[],_,z=>by unfold sJ;simp
 |y::ys,h,z=>by
  have hy:=h y (List.mem_cons_self ..);have ih:=ES T hx (l:=ys) (fun w hw=>h w (List.mem_cons_of_mem _ hw)) z;unfold sJ
  split
  ·rw[List.mem_cons,ih,List.mem_cons]
   constructor
   ·rintro(h|h|h);exact .inr (.inl h);exact .inl h;exact .inr (.inr h)
   ·rintro(h|h|h);exact .inr (.inl h);exact .inl h;exact .inr (.inr h)
  ·split
   ·rename_i h2
    have e:y=x:=T.inj hy hx ((T.zero hy hx).1 h2)
    constructor
    ·exact .inr
    ·rintro(h|h)
     ·rw[h,<-e];exact List.mem_cons_self ..
     ·exact h
   ·rw[List.mem_cons]
def Hg{S:Rl->Prop}{ρ:Rl->Int}(T:gU S ρ){x:Rl}(hx:S x):∀{l:List Rl},(∀y∈l,S y)->l.Pairwise (fun a b=>ρ a<ρ b)->(sJ x l).Pairwise (fun a b=>ρ a<ρ b)
 |[],_,_=>List.pairwise_singleton ..
 |y::ys,h,hs=>by
  obtain⟨s1,s2⟩:=List.pairwise_cons.1 hs;have hy:=h y (List.mem_cons_self ..);have h':∀w∈ys,S w:=fun w hw=>h w (List.mem_cons_of_mem _ hw)
  have l1:=T.lt hy hx;have l2:=T.zero hy hx;unfold sJ
  split
  ·rename_i hc
   refine List.pairwise_cons.2 ⟨fun z hz=>?_,Hg T hx h' s2⟩;rcases(ES T hx h' z).1 hz with e|e
   ·rw[e];exact l1.1 hc
   ·exact s1 z e
  ·split
   ·exact hs
   ·have:ρ x<ρ y:=by
     have a1:¬ρ y<ρ x:=fun e=>absurd (l1.2 e) (by assumption)
     have a2:¬ρ y=ρ x:=fun e=>absurd (l2.2 e) (by assumption)
     omega
    refine List.pairwise_cons.2 ⟨fun z hz=>?_,hs⟩;rcases List.mem_cons.1 hz with e|e
    ·rw[e];exact this
    ·have:=s1 z e;omega
def uV{S:Rl->Prop}{ρ:Rl->Int}(T:gU S ρ){l:List Rl}(h:∀y∈l,S y):(fG l).Pairwise (fun a b=>ρ a<ρ b)∧∀z,z∈fG l↔z∈l:=by
 have gen:∀(l o:List Rl),(∀y∈l,S y)->(∀y∈o,S y)->o.Pairwise (fun a b=>ρ a<ρ b)->(l.foldl (fun o x=>sJ x o) o).Pairwise (fun a b=>ρ a<ρ b)∧∀z,z∈l.foldl (fun o x=>sJ x o) o↔z∈l∨z∈o:=by
  intro l
  induction l with
  |nil=>intro o _ _ hs;exact⟨hs,fun z=>by simp⟩
  |cons x l ih=>
   intro o hl ho hs;have hx:=hl x (List.mem_cons_self ..);obtain⟨i1,i2⟩:=ih (sJ x o) (fun y hy=>hl y (List.mem_cons_of_mem _ hy)) (fun y hy=>by
 rcases(ES T hx ho y).1 hy with e|e
 ·rw[e];exact hx
 ·exact ho y e) (Hg T hx ho hs)
   refine⟨i1,fun z=>?_⟩
   rw[List.foldl_cons,i2,ES T hx ho,List.mem_cons]
   constructor
   ·rintro(h|h|h);exact .inl (.inr h);exact .inl (.inl h);exact .inr h
   ·rintro((h|h)|h);exact .inr (.inl h);exact .inl h;exact .inr (.inr h)
 obtain⟨a,b⟩:=gen l [] h (by simp) List.Pairwise.nil;exact⟨a,fun z=>by rw[show z∈fG l↔_ from b z];simp⟩
def kY(op:Bool->Bool->Bool)(a b:List Iv):List Iv:=(NT (fun t=>op (oh a t) (oh b t)) (fun t u=>op (oq a t u) (oq b t u)) none (fG (bV (a++b)))).map fun p=>Ia p.1 p.2
def sK{a b:List Iv}:bV (a++b)=bV a++bV b:=by unfold bV;rw[List.flatMap_append]
def qaP{S:Rl->Prop}{ρ:Rl->Int}(T:gU S ρ){G:Int->Bool}{B C D:List qJ}(HG:∀k1 k2,k1<=k2->(∀b∈B,¬(k1<aV ρ b∧aV ρ b<=k2))->G k1=G k2)(H0:∀k,(∀b∈B,k<aV ρ b)->G k=false)
 (hC:C.Pairwise (fun a b=>aV ρ a<aV ρ b))(hD:D.Pairwise (fun a b=>aV ρ a<aV ρ b))(bC:∀b∈B,b∈C)(bD:∀b∈B,b∈D):iO (fun c=>G (aV ρ c)) none C=iO (fun c=>G (aV ρ c)) none D:=by
 have low:∀C:List qJ,∃lo:Int,∀c∈C,lo<aV ρ c:=fun C=>by
  induction C with
  |nil=>exact⟨0,fun c hc=>absurd hc (by simp)⟩
  |cons c C ih=>
   obtain⟨lo,h⟩:=ih;refine⟨min lo (aV ρ c-1),fun x hx=>?_⟩
   rcases List.mem_cons.1 hx with e|e
   ·subst e;omega
   ·have:=h x e;omega
 have one:∀C:List qJ,C.Pairwise (fun a b=>aV ρ a<aV ρ b)->(∀b∈B,b∈C)->iO (fun c=>G (aV ρ c)) none C=iO (fun c=>G (aV ρ c)) none (C.filter fun c=>decide (c∈B)):=fun C hC bC=>by
  obtain⟨lo,hlo⟩:=low C;have hchk:=UV (ρ:=ρ) (G:=G) (p:=fun c=>decide (c∈B)) (B:=B) (fun c=>by rw[decide_eq_true_eq]) HG (lo:=lo) hC hlo fun c hc=> .inr (bC c hc)
  rw[H0 lo fun b hb=>hlo b (bC b hb)] at hchk
  exact pI (st:=none) hchk
 rw[one C hC bC,one D hD bD]
 congr 1
 refine yU (κ:=aV ρ) (hC.filter _) (hD.filter _) fun c=>?_
 rw[List.mem_filter,List.mem_filter,decide_eq_true_eq]
 constructor
 ·rintro⟨_,h⟩;exact⟨bD c h,h⟩
 ·rintro⟨_,h⟩;exact⟨bC c h,h⟩
def uy{S:Rl->Prop}{l:List Iv}(h:kE S l):∀x∈bV l,S x:=fun x hx=>by
 obtain⟨i,hi,e⟩:=nC.1 hx;rcases e with e|e<;>subst e;exact(h i hi).1;exact(h i hi).2
def nG{S:Rl->Prop}{a b:List Iv}(ha:kE S a)(hb:kE S b):kE S (a++b):=fun i hi=>by
 rcases List.mem_append.1 hi with h|h;exact ha i h;exact hb i h
def DK{S:Rl->Prop}{ρ:Rl->Int}(T:gU S ρ){op:Bool->Bool->Bool}(h0:op false false=false){a b:List Iv}(ha:kE S a)(hb:kE S b):
 kY op a b=(iO (fun c=>op (memB ρ a (aV ρ c)) (memB ρ b (aV ρ c))) none (nZ (fG (bV (a++b))))).map fun p=>Ia p.1 p.2:=by
 obtain⟨h1,h2⟩:=uV T (uy (nG ha hb));unfold kY;rw[EO (PM T h0 ha hb (pre:=[]) (fun t ht=>uy (nG ha hb) t ((h2 t).1 ht)) h1 (fun x hx=> .inl ((h2 x).2 (by rw[sK];exact hx))) fun i hi=>(nG ha hb i hi).1)]
def Kv{a b:List Iv}{S:Rl->Prop}{ρ:Rl->Int}(T:gU S ρ)(ha:kE S a)(hb:kE S b):∀c∈eX a++eX b,c∈nZ (fG (bV (a++b))):=fun c hc=>by
 obtain⟨_,h2⟩:=uV T (uy (nG ha hb));refine qX.2 ((h2 _).2 ?_);rw[sK];rcases List.mem_append.1 hc with h|h
 ·obtain⟨i,hi,e⟩:=gz.1 h;refine List.mem_append_left _ (nC.2 ⟨i,hi,?_⟩);rcases e with e|e<;>subst e;exact .inl rfl;exact .inr rfl
 ·obtain⟨i,hi,e⟩:=gz.1 h;refine List.mem_append_right _ (nC.2 ⟨i,hi,?_⟩);rcases e with e|e<;>subst e;exact .inl rfl;exact .inr rfl
end Go.Via
namespace Go.Via
open Go
structure Ln where
 x0:Rat
 x1:Rat
 y0:Rat
 y1:Rat
deriving DecidableEq
structure PU where
 i:Iv
 f:Ln
deriving DecidableEq
def fJ(i:Iv):Bool:=decide (i.f=i.t)
def qx(f:Ln):Qd:=⟨f.x0,f.x1,0⟩
def qy(f:Ln):Qd:=⟨f.y0,f.y1,0⟩
def jg(f:Ln)(t:Rl):Ln:=if t.r=0 then⟨wL (qx f) t.p,0,wL (qy f) t.p,0⟩ else f
def DL(f g:Ln):Ln:=⟨f.x0-g.x0,f.x1-g.x1,f.y0-g.y0,f.y1-g.y1⟩
def pJ(f g:Ln)(t:Rl):Bool:=decide (jg (DL f g) t=⟨0,0,0,0⟩)
def iH(u:PU):List PU:=
 (if u.i.fo=true then[] else[⟨⟨u.i.f,u.i.f,false,false⟩,u.f⟩])++
 (if fJ u.i=true then[] else⟨⟨u.i.f,u.i.t,true,true⟩,u.f⟩::(if u.i.tp=true then[] else[⟨⟨u.i.t,u.i.t,false,false⟩,u.f⟩]))
def aF(l:List PU):List PU:=l.flatMap iH
def qg(out:List PU)(t:Rl):Bool:=match out.getLast? with|some u=>decide (u.i.t=t)&& !u.i.tp|none=>false
def ui(out:List PU)(t:Rl):Option PU:=match out.getLast? with|some u=>if u.i.t=t∧fJ u.i=false then some u else none|none=>none
def jl(out:List PU)(u:PU):List PU:=out.dropLast++[u]
def kL(out:List PU)(prev:Option PU)(x:PU)(next:Option PU):List PU:=
 match fJ x.i,ui out x.i.f with
 |false,some b=>if b.i.tp=false∧b.f=x.f then jl out ⟨⟨b.i.f,x.i.t,b.i.fo,true⟩,b.f⟩ else
  out++[⟨⟨x.i.f,x.i.t,(match prev with|some p=>if fJ p.i=true∧p.i.f=x.i.f∧qg out x.i.f=false then false else x.i.fo|none=>x.i.fo),x.i.tp⟩,x.f⟩]
 |false,none=>out++[⟨⟨x.i.f,x.i.t,(match prev with|some p=>if fJ p.i=true∧p.i.f=x.i.f∧qg out x.i.f=false then false else x.i.fo|none=>x.i.fo),x.i.tp⟩,x.f⟩]
 |true,some b=>if pJ b.f x.f x.i.f=true then jl out ⟨⟨b.i.f,b.i.t,b.i.fo,false⟩,b.f⟩ else
  (match next with|some n=>if n.i.f=x.i.f∧pJ n.f x.f x.i.f=true then out else out++[⟨x.i,jg x.f x.i.f⟩]|none=>out++[⟨x.i,jg x.f x.i.f⟩])
 |true,none=>(match next with|some n=>if n.i.f=x.i.f∧pJ n.f x.f x.i.f=true then out else out++[⟨x.i,jg x.f x.i.f⟩]|none=>out++[⟨x.i,jg x.f x.i.f⟩])
def uX:Option PU->List PU->List PU->List PU
 |_,out,[]=>out
 |prev,out,x::xs=>uX (some x) (kL out prev x xs.head?) xs
def qK(l:List PU):List PU:=uX none [] (aF l)
def qG(ρ:Rl->Int)(l:List PU):Prop:=l.Pairwise (fun x y=>aV ρ x.i.e<=aV ρ y.i.b)∧∀x∈l,aV ρ x.i.b<aV ρ x.i.e
def Ends(S:Rl->Prop)(l:List PU):Prop:=∀x∈l,S x.i.f∧S x.i.t
def Ap(ρ:Rl->Int)(b:qJ):2*ρ b.1<=aV ρ b∧aV ρ b<=2*ρ b.1+1:=by unfold aV;split<;>omega
def Au{ρ:Rl->Int}{l:List PU}{u:PU}(h:qG ρ l)(hu:aV ρ u.i.b<aV ρ u.i.e)(hl:∀x∈l,aV ρ x.i.e<=aV ρ u.i.b):qG ρ (l++[u]):=
 ⟨List.pairwise_append.2 ⟨h.1,List.pairwise_singleton ..,fun x hx y hy=>by rw[List.mem_singleton] at hy;rw[hy];exact hl x hx⟩,fun x hx=>by
 rcases List.mem_append.1 hx with e|e
 ·exact h.2 x e
 ·rw[List.mem_singleton] at e;rw[e];exact hu⟩
def x9{S:Rl->Prop}{l:List PU}{u:PU}(h:Ends S l)(hu:S u.i.f∧S u.i.t):Ends S (l++[u]):=fun x hx=>by
 rcases List.mem_append.1 hx with e|e
 ·exact h x e
 ·rw[List.mem_singleton] at e;rw[e];exact hu
def qh{l:List PU}{b:PU}(h:l.getLast? =some b):l=l.dropLast++[b]:=by
 have hne:l≠[]:=fun e=>by rw[e] at h;cases h
 have:=List.dropLast_concat_getLast hne;rw[List.getLast?_eq_some_getLast hne] at h
 injection h with h
 rw[h] at this;exact this.symm
def RX{ρ:Rl->Int}{l:List PU}{b:PU}(h:qG ρ (l++[b])):qG ρ l∧(∀x∈l,aV ρ x.i.e<=aV ρ b.i.b)∧aV ρ b.i.b<aV ρ b.i.e:=by
 obtain⟨h1,h2⟩:=h;obtain⟨a1,_,a3⟩:=List.pairwise_append.1 h1;exact⟨⟨a1,fun x hx=>h2 x (List.mem_append_left _ hx)⟩,fun x hx=>a3 x hx b (by simp),h2 b (by simp)⟩
def yc{out:List PU}{t:Rl}{b:PU}(h:ui out t=some b):out.getLast? =some b∧b.i.t=t∧fJ b.i=false:=by
 unfold ui at h;cases hl:out.getLast? with
 |none=>rw[hl] at h;cases h
 |some u=>
  rw[hl] at h;dsimp only at h
  split at h
  ·injection h with h;subst h;rename_i hc;exact⟨rfl,hc⟩
  ·cases h
def Yp{S:Rl->Prop}{ρ:Rl->Int}(T:gU S ρ){out:List PU}{prev next:Option PU}{x:PU}{lo:Int}(hs:qG ρ out)(he:Ends S out)(hx:S x.i.f∧S x.i.t)(ho:aV ρ x.i.b<aV ρ x.i.e)
 (hlo:∀u∈out,aV ρ u.i.e<=lo)(hxl:lo<=aV ρ x.i.b)(hform:(x.i.f=x.i.t∧x.i.fo=false∧x.i.tp=false)∨(ρ x.i.f<ρ x.i.t∧x.i.fo=true∧x.i.tp=true)):
 qG ρ (kL out prev x next)∧Ends S (kL out prev x next)∧∀u∈kL out prev x next,aV ρ u.i.e<=aV ρ x.i.e:=by
 have keepE:∀u∈out,aV ρ u.i.e<=aV ρ x.i.e:=fun u hu=>by have:=hlo u hu;omega
 have snocE:∀v:PU,aV ρ v.i.e=aV ρ x.i.e->∀u∈out++[v],aV ρ u.i.e<=aV ρ x.i.e:=fun v hv u hu=>by
  rcases List.mem_append.1 hu with e|e
  ·exact keepE u e
  ·rw[List.mem_singleton] at e;rw[e];omega
 have red:qG ρ (out++[⟨x.i,jg x.f x.i.f⟩])∧Ends S (out++[⟨x.i,jg x.f x.i.f⟩])∧∀u∈out++[⟨x.i,jg x.f x.i.f⟩],aV ρ u.i.e<=aV ρ x.i.e:=
  ⟨Au hs ho fun u hu=>by have:=hlo u hu;show _<=aV ρ x.i.b;omega,x9 he hx,snocE _ rfl⟩
 have app:qG ρ (out++[⟨⟨x.i.f,x.i.t,(match prev with|some p=>if fJ p.i=true∧p.i.f=x.i.f∧qg out x.i.f=false then false else x.i.fo|none=>x.i.fo),x.i.tp⟩,x.f⟩])∧Ends S (out++[⟨⟨x.i.f,x.i.t,(match prev with|some p=>if fJ p.i=true∧p.i.f=x.i.f∧qg out x.i.f=false then false else x.i.fo|none=>x.i.fo),x.i.tp⟩,x.f⟩])∧
  ∀u∈out++[⟨⟨x.i.f,x.i.t,(match prev with|some p=>if fJ p.i=true∧p.i.f=x.i.f∧qg out x.i.f=false then false else x.i.fo|none=>x.i.fo),x.i.tp⟩,x.f⟩],aV ρ u.i.e<=aV ρ x.i.e:=by
  generalize hb:(match prev with|some p=>if fJ p.i=true∧p.i.f=x.i.f∧qg out x.i.f=false then false else x.i.fo|none=>x.i.fo)=c
  have hc:c=x.i.fo∨(c=false∧qg out x.i.f=false):=by
   rw[<-hb];cases prev with
   |none=>exact .inl rfl
   |some p=>dsimp only;split;rename_i h;exact .inr ⟨rfl,h.2.2⟩;exact .inl rfl
  have hb0:aV ρ (x.i.f,c)<=aV ρ x.i.b:=by
   rcases hc with e|e
   ·rw[e];exact Int.le_refl _
   ·rw[e.1];unfold aV Iv.b;simp;split<;>omega
  refine⟨Au hs ?_ fun u hu=>?_,x9 he hx,snocE _ rfl⟩
  ·show aV ρ (x.i.f,c)<aV ρ x.i.e;omega
  ·show aV ρ u.i.e<=aV ρ (x.i.f,c);rcases hc with e|⟨e,hh⟩
   ·rw[e];have:=hlo u hu;have:aV ρ (x.i.f,x.i.fo)=aV ρ x.i.b:=rfl;omega
   ·rw[e]
    have hle:aV ρ u.i.e<=aV ρ x.i.b:=(by have:=hlo u hu;omega);have hne:out≠[]:=fun e=>by rw[e] at hu;simp at hu
    obtain⟨b,hbl⟩:∃b,out.getLast? =some b:=⟨_,List.getLast?_eq_some_getLast hne⟩;have hsn:=qh hbl;rw[hsn] at hs hu he hlo;obtain⟨i1,i2,i3⟩:=RX hs;have hbe:aV ρ b.i.e<=aV ρ (x.i.f,false):=by
     have h1:aV ρ b.i.e<=aV ρ x.i.b:=(by have:=hlo b (by simp);omega);unfold qg at hh;rw[hbl] at hh;dsimp only at hh;have hbS:=(he b (by simp)).2
     by_cases ht:b.i.t=x.i.f
     ·rw[decide_eq_true ht,Bool.true_and] at hh;have:b.i.tp=true:=by simpa using hh
      unfold aV Iv.e Iv.b at*;rw[this,ht];simp
     ·have hne:ρ b.i.t≠ρ x.i.f:=fun e=>ht (T.inj hbS hx.1 e)
      have k1:=Ap ρ b.i.e;have k2:=Ap ρ x.i.b;have k3:=Ap ρ (x.i.f,false);have k4:b.i.e.1=b.i.t:=rfl;have k5:x.i.b.1=x.i.f:=rfl;rw[k4] at k1;rw[k5] at k2;dsimp only at k3;omega
    rcases List.mem_append.1 hu with e'|e'
    ·have:=i2 u e';omega
    ·rw[List.mem_singleton] at e';rw[e'];exact hbe
 have nx:qG ρ (match next with|some n=>if n.i.f=x.i.f∧pJ n.f x.f x.i.f=true then out else out++[⟨x.i,jg x.f x.i.f⟩]|none=>out++[⟨x.i,jg x.f x.i.f⟩])∧Ends S (match next with|some n=>if n.i.f=x.i.f∧pJ n.f x.f x.i.f=true then out else out++[⟨x.i,jg x.f x.i.f⟩]|none=>out++[⟨x.i,jg x.f x.i.f⟩])∧
  ∀u:PU,u∈(match next with|some n=>if n.i.f=x.i.f∧pJ n.f x.f x.i.f=true then out else out++[(⟨x.i,jg x.f x.i.f⟩:PU)]|none=>out++[(⟨x.i,jg x.f x.i.f⟩:PU)])->aV ρ u.i.e<=aV ρ x.i.e:=by
  cases next with
  |none=>exact red
  |some n=>
   dsimp only
   split
   ·exact⟨hs,he,keepE⟩
   ·exact red
 have setE:∀{b v:PU},ui out x.i.f=some b->v.i.b=b.i.b->v.i.f=b.i.f->S v.i.t->aV ρ v.i.b<aV ρ v.i.e->aV ρ v.i.e<=aV ρ x.i.e->qG ρ (jl out v)∧Ends S (jl out v)∧∀u∈jl out v,aV ρ u.i.e<=aV ρ x.i.e:=fun {b v} hb h1 h2 h3 h4 h5=>by
  obtain⟨hl,_,_⟩:=yc hb;have hsn:=qh hl;have hs':=hs;have he':=he;rw[hsn] at hs' he';obtain⟨i1,i2,i3⟩:=RX hs';unfold jl;refine⟨Au i1 h4 fun u hu=>by rw[h1];exact i2 u hu,x9 (fun u hu=>he' u (List.mem_append_left _ hu)) ⟨by rw[h2];exact(he' b (by simp)).1,h3⟩,fun u hu=>?_⟩
  rcases List.mem_append.1 hu with e|e
  ·exact keepE u (by rw[hsn];exact List.mem_append_left _ e)
  ·rw[List.mem_singleton] at e;rw[e];exact h5
 unfold kL;have fin:∀b,ui out x.i.f=some b->(fJ x.i=false->b.i.tp=false∧b.f=x.f->qG ρ (jl out ⟨⟨b.i.f,x.i.t,b.i.fo,true⟩,b.f⟩)∧Ends S (jl out ⟨⟨b.i.f,x.i.t,b.i.fo,true⟩,b.f⟩)∧∀u∈jl out ⟨⟨b.i.f,x.i.t,b.i.fo,true⟩,b.f⟩,aV ρ u.i.e<=aV ρ x.i.e)∧
  (fJ x.i=true->qG ρ (jl out ⟨⟨b.i.f,b.i.t,b.i.fo,false⟩,b.f⟩)∧Ends S (jl out ⟨⟨b.i.f,b.i.t,b.i.fo,false⟩,b.f⟩)∧∀u∈jl out ⟨⟨b.i.f,b.i.t,b.i.fo,false⟩,b.f⟩,aV ρ u.i.e<=aV ρ x.i.e):=fun b hb=>by
  obtain⟨hl,ht,hn⟩:=yc hb;have hbm:b∈out:=by rw[qh hl];simp
  have hbo:=hs.2 b hbm;have hble:=hlo b hbm
  constructor
  ·intro hi _;refine setE hb rfl rfl hx.2 ?_ ?_
   ·have e1:aV ρ (Iv.e ⟨b.i.f,x.i.t,b.i.fo,true⟩)=2*ρ x.i.t:=by unfold aV Iv.e;simp
    have e2:aV ρ (Iv.b ⟨b.i.f,x.i.t,b.i.fo,true⟩)=aV ρ b.i.b:=rfl;rcases hform with hf|hf
    ·exfalso;unfold fJ at hi;rw[decide_eq_true hf.1] at hi;cases hi
    ·have e3:aV ρ x.i.b=2*ρ x.i.f+1:=by unfold aV Iv.b;rw[hf.2.1];simp
     show aV ρ (Iv.b ⟨b.i.f,x.i.t,b.i.fo,true⟩)<aV ρ (Iv.e ⟨b.i.f,x.i.t,b.i.fo,true⟩);omega
   ·rcases hform with hf|hf
    ·exfalso;unfold fJ at hi;rw[decide_eq_true hf.1] at hi;cases hi
    ·show aV ρ (Iv.e ⟨b.i.f,x.i.t,b.i.fo,true⟩)<=_;unfold aV Iv.e;rw[hf.2.2];exact Int.le_refl _
  ·intro hi;refine setE hb rfl rfl (by show S b.i.t;rw[ht];exact hx.1) ?_ ?_
   ·have e1:aV ρ b.i.e<=aV ρ (Iv.e ⟨b.i.f,b.i.t,b.i.fo,false⟩):=by
     have:=Ap ρ b.i.e;have e:b.i.e.1=b.i.t:=rfl;rw[e] at this;unfold aV Iv.e at*;simp at*;omega
    show aV ρ b.i.b<aV ρ (Iv.e ⟨b.i.f,b.i.t,b.i.fo,false⟩);omega
   ·rcases hform with hf|hf
    ·show aV ρ (Iv.e ⟨b.i.f,b.i.t,b.i.fo,false⟩)<=_;unfold aV Iv.e;rw[hf.2.2,ht,hf.1];exact Int.le_refl _
    ·exfalso;unfold fJ at hi;have:=of_decide_eq_true hi;rw[this] at hf;omega
 cases hi:fJ x.i
 ·cases hb:ui out x.i.f with
  |none=>exact app
  |some b=>
   dsimp only
   split
   ·rename_i hc;exact(fin b hb).1 hi hc
   ·exact app
 ·cases hb:ui out x.i.f with
  |none=>exact nx
  |some b=>
   dsimp only
   split
   ·exact(fin b hb).2 hi
   ·exact nx
end Go.Via
