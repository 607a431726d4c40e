/-
  Part 7 (chapter 32): lemmas, walks. Each theorem states its own conditions.
-/
import Derived.Test.YtaffcpfhedadhaaGreatDoorA02
import Derived.Test.YtaffcpfhedadhaaGreatDoorA03
import Derived.Test.YtaffcpfhedadhaaGreatDoorA04
import Derived.Test.YtaffcpfhedadhaaGreatDoorA06
set_option linter.all false
set_option maxRecDepth 20000
set_option maxHeartbeats 20000000
namespace Go.Via
open Go
def D8(n:Nat):List Nat:=ag 256 n
theorem bI(n:Nat):(D8 n).length=nb n:=rfl
def iQ{n i:Nat}(h:i<nb n):(D8 n)[i]? =some (n/256^i%256):=lm (by omega) n i h
def uX(n q:Nat):n/256^q=n/256^(q+1)*256+n/256^q%256:=by
 rw[Nat.pow_succ,<-Nat.div_div_eq_div_mul];have:=Nat.div_add_mod (n/256^q) 256;omega
def MZ{a b q:Nat}(h:a/256^q<b/256^q):a<b:=by
 rcases Nat.lt_or_ge a b with c|c
 ·exact c
 ·have:=Nat.div_le_div_right (c:=256^q) c;omega
theorem Uu{a b:Nat}(h:nb a<nb b):lZ a b= -1:=by unfold lZ;rw[if_pos (VR h)]
theorem Uw{a b:Nat}(h:nb b<nb a):lZ a b=1:=by
 have:=VR h;unfold lZ;rw[if_neg (by omega),if_pos this]
theorem Ux{a b q:Nat}(he:a/256^(q+1)=b/256^(q+1))(h:a/256^q%256<b/256^q%256):lZ a b= -1:=by
 have h1:=uX a q;have h2:=uX b q;have:a<b:=MZ (q:=q) (by omega);unfold lZ;rw[if_pos this]
theorem Uy{a b q:Nat}(he:a/256^(q+1)=b/256^(q+1))(h:b/256^q%256<a/256^q%256):lZ a b=1:=by
 have h1:=uX a q;have h2:=uX b q;have:b<a:=MZ (q:=q) (by omega);unfold lZ;rw[if_neg (by omega),if_pos this]
def Uz{a b q:Nat}(he:a/256^(q+1)=b/256^(q+1))(h1:¬a/256^q%256<b/256^q%256)(h2:¬b/256^q%256<a/256^q%256):a/256^q=b/256^q:=by
 have e1:=uX a q;have e2:=uX b q;omega
def qdW{a b:Nat}(h:nb a=nb b):a/256^nb a=b/256^nb a:=by
 rw[Nat.div_eq_of_lt (jQ a),h,Nat.div_eq_of_lt (jQ b)]
theorem qdX{a b:Nat}(h:a/256^0=b/256^0):lZ a b=0:=by
 have:a=b:=(by simpa using h);subst this;unfold lZ;rw[if_neg (Nat.lt_irrefl _),if_neg (Nat.lt_irrefl _)]
def qay{n q:Nat}(h7:nb n<=7):n/256^q<72057594037927936:=by
 have h1:=oC h7;have:n/256^q<=n:=Nat.div_le_self _ _;omega
theorem QQ(n:Nat):row (nb n) (vK n (nb n) (nb n))=(ag 256 n).reverse:=by
 apply List.ext_getElem?
 intro j
 by_cases hj:j<nb n
 ·rw[bG hj,List.getElem?_reverse (by exact hj)];have e:=lm (B:=256) (by omega) n (nb n-1-j) (by unfold nb at*;omega);unfold nb at e hj ⊢;rw[e];unfold vK;rw[if_pos (by omega)]
 ·rw[List.getElem?_eq_none (by rw[ah];omega),List.getElem?_eq_none (by simp;unfold nb at hj;omega)]
theorem qdY(n:Nat):ag 256 (val 256 (D8 n))=D8 n:=by unfold D8;rw[rq (by omega)]
def pz(n j:Nat):Nat:=n/256^j%256
def zG(n j:Nat):pz n j<256:=Nat.mod_lt _ (by decide)
theorem JI(n:Nat):row (nb n) (pz n)=D8 n:=(zk (B:=256) (by omega) n).symm
def iw(k:IntKind)(i:Nat)(f:Nat->Nat)(d:Int)(h:d=((f i:Nat):Int)):NV k (row i f)++[.int k d]=NV k (row (i+1) f):=by
 subst h;unfold NV row;rw[List.range_succ,List.map_append,List.map_append];rfl
def one_cell(k:IntKind)(d:Int):∀v∈[Value.int k d],v.oneCell'=true:=by
 intro v hv;rw[List.mem_singleton.1 hv];rfl
def Na{n i:Nat}(h:0<n/256^i):i<nb n:=by
 rcases Nat.lt_or_ge i (nb n) with c|c
 ·exact c
 ·rw[Nat.div_eq_of_lt (Nat.lt_of_lt_of_le (jQ n) (gz c))] at h;omega
def Nb{n i:Nat}(h:n/256^i=0)(hi:i<=nb n):i=nb n:=by
 have h1:n<256^i:=(Nat.div_eq_zero_iff_lt (Nat.pow_pos (by omega))).1 h;have:=nC h1;omega
theorem UA(n i:Nat):n/256^i/256=n/256^(i+1):=by rw[Nat.pow_succ,Nat.div_div_eq_div_mul]
def qfB(n:Nat):∀d∈D8 n,d<256:=Au (by omega)
theorem GR(n:Nat):(ag 256 (val 256 (D8 n))).length=nb n:=by rw[qdY];rfl
theorem QR(n:Nat):(ag 256 (val 256 (row (nb n) (pz n)))).length=nb n:=by rw[JI,GR]
def qdZ(n:Nat){neg:Bool}(h:neg=true):Value.agg #[.bool (decide ((0:Int)<nb n)),.string (bF n)]=I (if neg=true then-(n:Int) else(n:Int)):=by
 rw[if_pos h];have e:=Cm (n:=n);unfold I;have h1:decide ((0:Int)<nb n)=decide (-(n:Int)<0):=by
  by_cases c:n=0
  ·subst c;rw[jV];rfl
  ·rw[decide_eq_true (by omega),decide_eq_true (by omega)]
 rw[h1,Int.natAbs_neg,Int.natAbs_natCast]
def qd0(n:Nat){neg:Bool}(h:neg=false):Value.agg #[.bool false,.string (bF n)]=I (if neg=true then-(n:Int) else(n:Int)):=by
 subst h;rw[if_neg (by decide)];unfold I;rw[decide_eq_false (by omega),Int.natAbs_natCast]
theorem fV(i:Nat):0<256^i:=Nat.pow_pos (by omega)
def jS(n:Nat):n%256<256:=Nat.mod_lt _ (by omega)
def yM(X Y i:Nat):Nat:=(X%256^i+Y%256^i)/256^i+X/256^i%256+Y/256^i%256
def oJ(X Y i:Nat):Nat:=(X%256^i+Y%256^i)/256^i
def x9(X Y i:Nat):oJ X Y i<=1:=by
 unfold oJ;have h1:=Nat.mod_lt X (fV i);have h2:=Nat.mod_lt Y (fV i);have:(X%256^i+Y%256^i)/256^i<2:=by rw[Nat.div_lt_iff_lt_mul (fV i)];omega
 omega
theorem Yd(X Y:Nat):oJ X Y 0=0:=by simp[oJ,Nat.mod_one]
theorem ng(X Y i:Nat):yM X Y i=oJ X Y i+X/256^i%256+Y/256^i%256:=rfl
def AP(X Y i:Nat):yM X Y i<512:=by
 have:=x9 X Y i;have h1:=jS (X/256^i);have h2:=jS (Y/256^i);rw[ng];omega
theorem iI(X Y i:Nat):yM X Y i/256=oJ X Y (i+1):=by
 show _/256=_;unfold yM oJ;rw[Nat.pow_succ,Nat.mod_mul,Nat.mod_mul,<-Nat.div_div_eq_div_mul]
 congr 1
 have e:X%256^i+256^i*(X/256^i%256)+(Y%256^i+256^i*(Y/256^i%256))=(X%256^i+Y%256^i)+256^i*(X/256^i%256+Y/256^i%256):=(by rw[Nat.mul_add];omega);rw[e,Nat.add_mul_div_left _ _ (fV i)];omega
theorem kY(X Y i:Nat):yM X Y i%256=(X+Y)/256^i%256:=by
 show _%256=_;have e:X+Y=(X%256^i+Y%256^i)+256^i*(X/256^i+Y/256^i):=by
  have h1:=Nat.mod_add_div X (256^i);have h2:=Nat.mod_add_div Y (256^i);rw[Nat.mul_add];omega
 conv=>rhs;rw[e]
 rw[Nat.add_mul_div_left _ _ (fV i)];unfold yM
 generalize(X%256^i+Y%256^i)/256^i=c
 generalize X/256^i=p
 generalize Y/256^i=q
 rw[Nat.add_assoc,Nat.add_mod,<-Nat.add_mod p q,<-Nat.add_mod]
def yc(m n i:Nat):Nat:=if m%256^i<n%256^i then 1 else 0
theorem Ye(m n:Nat):yc m n 0=0:=by simp[yc,Nat.mod_one]
def OV(m n i:Nat):yc m n i<=1:=by unfold yc;split<;>omega
def V6{m n i:Nat}(h:n<=m):(m-n)/256^i+n/256^i+yc m n i=m/256^i:=by
 have h1:=Nat.mod_add_div m (256^i);have h2:=Nat.mod_add_div n (256^i);have h3:=Nat.mod_lt m (fV i);have h4:=Nat.mod_lt n (fV i);have hp:=fV i
 generalize hP:256^i=P at*
 generalize m/P=M at*
 generalize n/P=N at*
 unfold yc;rw[hP]
 split
 ·rename_i hlt
  have hMN:N+1<=M:=by
   by_cases c:M<=N
   ·have:=Nat.mul_le_mul_left P c;omega
   ·omega
  obtain⟨k,rfl⟩:∃k,M=N+1+k:=⟨M-(N+1),by omega⟩;have e:m-n=(m%P+P-n%P)+P*k:=by
   rw[Nat.mul_add,Nat.mul_add] at h1;omega
  rw[e,Nat.add_mul_div_left _ _ hp,Nat.div_eq_of_lt (by omega)];omega
 ·rename_i hge
  have hMN:N<=M:=by
   by_cases c:M<N
   ·have:=Nat.mul_le_mul_left P c;rw[Nat.mul_succ] at this;omega
   ·omega
  obtain⟨k,rfl⟩:∃k,M=N+k:=⟨M-N,by omega⟩;have e:m-n=(m%P-n%P)+P*k:=by
   rw[Nat.mul_add] at h1;omega
  rw[e,Nat.add_mul_div_left _ _ hp,Nat.div_eq_of_lt (by omega)];omega
theorem Nc(m n i:Nat):yc m n (i+1)=if m/256^i%256<n/256^i%256+yc m n i then 1 else 0:=by
 unfold yc;rw[Nat.pow_succ,Nat.mod_mul,Nat.mod_mul];have h3:=Nat.mod_lt m (fV i);have h4:=Nat.mod_lt n (fV i)
 generalize m/256^i%256=x
 generalize n/256^i%256=y
 generalize hP:256^i=P at*
 have key:(m%P+P*x<n%P+P*y)↔x<y+(if m%P<n%P then 1 else 0):=by
  rcases Nat.lt_trichotomy x y with c|c|c
  ·have:=Nat.mul_le_mul_left P c;rw[Nat.mul_succ] at this
   constructor<;>intro _<;>omega
  ·subst c;split<;>constructor<;>intro _<;>omega
  ·have:=Nat.mul_le_mul_left P c;rw[Nat.mul_succ] at this
   split<;>constructor<;>intro _<;>omega
 simp only[key]
def V7{m n i:Nat}(h:n<=m)(hd:m/256^i%256<n/256^i%256+yc m n i):m/256^i%256+256=(m-n)/256^i%256+n/256^i%256+yc m n i∧yc m n (i+1)=1:=by
 refine⟨?_,by rw[Nc,if_pos hd]⟩;have h1:=V6 (i:=i) h;have h2:=OV m n i;omega
def V8{m n i:Nat}(h:n<=m)(hd:¬m/256^i%256<n/256^i%256+yc m n i):m/256^i%256=(m-n)/256^i%256+n/256^i%256+yc m n i∧yc m n (i+1)=0:=by
 refine⟨?_,by rw[Nc,if_neg hd]⟩;have h1:=V6 (i:=i) h;have h2:=OV m n i;omega
theorem jc{Y i:Nat}(h:nb Y<=i):Y/256^i%256=0:=by
 rw[Nat.div_eq_of_lt (Nat.lt_of_lt_of_le (jQ Y) (gz h))]
def qaz(a b i:Nat)(ha:nb a<=i)(hb:nb b<=i)(hc:oJ a b i=0):a+b<256^i:=by
 unfold oJ at hc;rw[Nat.mod_eq_of_lt (Nat.lt_of_lt_of_le (jQ a) (gz ha)),Nat.mod_eq_of_lt (Nat.lt_of_lt_of_le (jQ b) (gz hb))] at hc;exact(Nat.div_eq_zero_iff_lt (fV i)).1 hc
def Yf(a b i:Nat)(h:0<oJ a b i)(ha:nb a<=i)(hb:nb b<=i):i<=max (nb a) (nb b):=by
 rcases Nat.lt_or_ge (max (nb a) (nb b)) i with c|c
 ·exfalso
  have h1:a<256^(i-1):=Nat.lt_of_lt_of_le (jQ a) (gz (by omega));have h2:b<256^(i-1):=Nat.lt_of_lt_of_le (jQ b) (gz (by omega));have h3:256^i=256^(i-1)*256:=(by rw[<-Nat.pow_succ,show(i-1).succ=i by omega]);unfold oJ at h;rw[Nat.mod_eq_of_lt (by omega),Nat.mod_eq_of_lt (by omega),Nat.div_eq_of_lt (by omega)] at h;omega
 ·exact c
theorem qd1(N k:Nat)(h:N<256^k):val 256 (row k (pz N))=N:=by
 unfold pz;rw[oO 256 (by omega),Nat.mod_eq_of_lt h]
theorem JJ(N k:Nat)(h:N<256^k):ag 256 (val 256 (row k (pz N)))=D8 N:=by rw[qd1 N k h];rfl
def QS(N k:Nat)(h:N<256^k):NV .i64 (D8 N)=(NV .i64 (row k (pz N))).take (nb N):=by
 have:=wK (B:=256) (by omega) (jY (n:=k) (fun j=>zG N j));rw[JJ N k h] at this;rw[DN];congr 1;exact this.symm
def qj(m n i:Nat):Nat:=m%256^i*n
def wR(m n i k:Nat):Nat:=(qj m n i/256^i%256^k+m/256^i%256*(n%256^k))/256^k
def tK(m n i k:Nat):Nat:=wR m n i k+qj m n i/256^(i+k)%256+m/256^i%256*(n/256^k%256)
def Ef(m n i k j:Nat):Nat:=if j<i+k then qj m n (i+1)/256^j%256 else qj m n i/256^j%256
def CQ(m n i j:Nat):Nat:=qj m n i/256^j%256
theorem Nh(m n i:Nat):qj m n (i+1)=qj m n i+256^i*(m/256^i%256*n):=by
 unfold qj;rw[Nat.pow_succ,Nat.mod_mul,Nat.add_mul,Nat.mul_assoc]
theorem Yg(m n i:Nat):wR m n i 0=0:=by simp[wR,Nat.mod_one]
def uY(m n i k:Nat):wR m n i k<256:=by
 unfold wR;rw[Nat.div_lt_iff_lt_mul (fV k)];have h1:=Nat.mod_lt (qj m n i/256^i) (fV k);have h2:=Nat.mod_lt n (fV k);have h3:m/256^i%256+1<=256:=Nat.mod_lt _ (by decide);have h4:(m/256^i%256)*(n%256^k)<=(m/256^i%256)*(256^k):=Nat.mul_le_mul_left _ (by omega);have h5:(m/256^i%256+1)*256^k<=256*256^k:=Nat.mul_le_mul_right _ h3;rw[Nat.add_mul] at h5;omega
theorem yf(V i k:Nat):V/256^(i+k)=V/256^i/256^k:=by rw[Nat.pow_add,Nat.div_div_eq_div_mul]
theorem tN(m n i k:Nat):tK m n i k/256=wR m n i (k+1):=by
 show _/256=_;unfold tK wR;rw[yf,Nat.pow_succ,Nat.mod_mul,Nat.mod_mul,<-Nat.div_div_eq_div_mul]
 congr 1
 generalize m/256^i%256=dd
 generalize qj m n i/256^i=A
 have e:A%256^k+256^k*(A/256^k%256)+dd*(n%256^k+256^k*(n/256^k%256))=(A%256^k+dd*(n%256^k))+256^k*(A/256^k%256+dd*(n/256^k%256)):=(by grind);rw[e,Nat.add_mul_div_left _ _ (fV k)];omega
theorem QT(m n i k:Nat):tK m n i k%256=qj m n (i+1)/256^(i+k)%256:=by
 show _%256=_;unfold tK wR;rw[yf,yf,Nh,Nat.add_mul_div_left _ _ (fV i)]
 generalize m/256^i%256=dd
 generalize qj m n i/256^i=A
 have e:A+dd*n=(A%256^k+dd*(n%256^k))+256^k*(A/256^k+dd*(n/256^k)):=by
  have h1:=Nat.mod_add_div A (256^k);have h2:=Nat.mod_add_div n (256^k)
  conv=>lhs;rw[<-h1,<-h2]
  grind
 conv=>rhs;rw[e]
 rw[Nat.add_mul_div_left _ _ (fV k)]
 generalize(A%256^k+dd*(n%256^k))/256^k=c
 generalize A/256^k=p
 generalize n/256^k=q
 have e2:∀x y z w:Nat,(x+y%256+z*(w%256))%256=(x+(y+z*w))%256:=by
  intro x y z w;have h1:=Nat.mod_add_div y 256;have h2:=Nat.mod_add_div w 256;have:x+(y+z*w)=(x+y%256+z*(w%256))+256*(y/256+z*(w/256)):=by
   conv=>lhs;rw[<-h1,<-h2]
   grind
  rw[this,Nat.add_mul_mod_self_left]
 exact e2 c p dd q
theorem V9(m n i k:Nat):Ef m n i k (i+k)=qj m n i/256^(i+k)%256:=by unfold Ef;rw[if_neg (by omega)]
theorem AQ(m n i k j:Nat):Ef m n i (k+1) j=if j=i+k then tK m n i k%256 else Ef m n i k j:=by
 rw[QT];unfold Ef
 by_cases e:j=i+k
 ·subst e;rw[if_pos (by omega),if_pos rfl]
 ·rw[if_neg e]
  by_cases c:j<i+k
  ·rw[if_pos c,if_pos (by omega)]
  ·rw[if_neg c,if_neg (by omega)]
def Yh(m n i j:Nat):Ef m n i 0 j=CQ m n i j:=by
 unfold Ef CQ
 split
 ·rename_i h
  rw[Nh];have e0:256^i=256^j*(256*256^(i-j-1)):=by
   rw[<-Nat.mul_assoc,<-Nat.pow_succ,<-Nat.pow_add,show j+1+(i-j-1)=i by omega]
  have e:256^i*(m/256^i%256*n)=256^j*(256*(256^(i-j-1)*(m/256^i%256*n))):=by
   generalize m/256^i%256*n=r
   rw[e0,Nat.mul_assoc,Nat.mul_assoc]
  rw[e,Nat.add_mul_div_left _ _ (fV j),Nat.add_mul_mod_self_left]
 ·rfl
theorem IB(m n i:Nat):qj m n i<256^(i+nb n):=by
 unfold qj;rw[Nat.pow_add];have h1:=Nat.mod_lt m (fV i);have h2:=jQ n
 calc m%256^i*n<=256^i*n:=Nat.mul_le_mul_right _ (by omega)
  _<256^i*256^nb n:=(Nat.mul_lt_mul_left (fV i)).2 h2
theorem Yi(m n j:Nat):CQ m n 0 j=0:=by simp[CQ,qj,Nat.mod_one]
def qaA(m n:Nat):val 256 (row (nb m+nb n+1) (CQ m n (nb m)))=m*n:=by
 have e:qj m n (nb m)=m*n:=(by unfold qj;rw[Nat.mod_eq_of_lt (jQ m)]);have h:=IB m n (nb m);rw[bu (g:=fun j=>m*n/256^j%256) (fun j hj=>by unfold CQ;rw[e]),oO 256 (by decide),Nat.mod_eq_of_lt];rw[e] at h;exact Nat.lt_of_lt_of_le h (Nat.pow_le_pow_right (by decide) (by omega))
def We(m n i j:Nat):CQ m n i j<256:=jS _
def JK(p q:Nat):p%256*(q%256)<=65025:=by
 have h1:p%256<=255:=(by omega);have h2:q%256<=255:=(by omega);exact Nat.mul_le_mul h1 h2
theorem AU(m n i:Nat){k:Nat}(hk:nb n<=k):tK m n i k=wR m n i k:=by
 unfold tK;have h1:256^(i+nb n)<=256^(i+k):=gz (by omega);rw[jc hk,Nat.div_eq_of_lt (Nat.lt_of_lt_of_le (IB m n i) h1)];simp
theorem qaB(m n i:Nat){k:Nat}(hk:nb n<=k):wR m n i (k+1)=0:=by
 rw[<-tN,AU m n i hk];have:=uY m n i k;omega
def qaC(m n i k:Nat)(h:0<wR m n i k):k<=nb n:=by
 rcases Nat.lt_or_ge (nb n) k with c|c
 ·obtain⟨q,rfl⟩:∃q,k=q+1:=⟨k-1,by omega⟩;rw[qaB m n i (by omega)] at h;omega
 ·exact c
def Yj(m n i k j:Nat)(hk:nb n<=k)(hc:wR m n i k=0):Ef m n i k j=CQ m n (i+1) j:=by
 unfold Ef CQ
 by_cases c:j<i+k
 ·rw[if_pos c]
 ·rw[if_neg c];have h1:256^(i+nb n)<=256^j:=gz (by omega);rw[Nat.div_eq_of_lt (Nat.lt_of_lt_of_le (IB m n i) h1)]
  by_cases e:j=i+k
  ·subst e;rw[<-QT,AU m n i hk,hc]
  ·have h2:256^(i+1+nb n)<=256^j:=gz (by omega);rw[Nat.div_eq_of_lt (Nat.lt_of_lt_of_le (IB m n (i+1)) h2)]
theorem UB(m n:Nat):val 256 (row (nb m+nb n+1) (CQ m n (nb m)))=m*n:=qaA m n
theorem QU(m n:Nat):ag 256 (val 256 (row (nb m+nb n+1) (CQ m n (nb m))))=D8 (m*n):=by rw[UB];rfl
def qaD(m n:Nat):NV .i64 (D8 (m*n))=(NV .i64 (row (nb m+nb n+1) (CQ m n (nb m)))).take (nb (m*n)):=by
 have:=wK (B:=256) (by omega) (jY (n:=nb m+nb n+1) (fun j=>We m n (nb m) j));rw[QU] at this;rw[DN];congr 1;exact this.symm
def Eg(m n i k:Nat):tK m n i k<131072:=by
 have h1:=uY m n i k;have h2:=jS (qj m n i/256^(i+k));have h3:=JK (m/256^i) (n/256^k);unfold tK;omega
def FX(a b p:Nat):Nat:=a/256^(p+1)%b*256+a/256^p%256
def qaE(a b p:Nat)(hb:0<b):a/256^p=b*(a/256^(p+1)/b*256)+FX a b p:=by
 have h1:=uX a p;have h2:=Nat.div_add_mod (a/256^(p+1)) b;unfold FX
 conv=>lhs;rw[h1,<-h2]
 rw[Nat.add_mul,Nat.mul_assoc,Nat.add_assoc]
def UC(a b p:Nat)(hb:0<b):FX a b p<256*b:=by
 unfold FX;have h1:a/256^(p+1)%b+1<=b:=Nat.mod_lt _ hb;have h2:=jS (a/256^p);omega
theorem qd2(a b p:Nat)(hb:0<b):FX a b p/b=a/b/256^p%256:=by
 have h1:=qaE a b p hb;have h2:FX a b p/b<256:=(by rw[Nat.div_lt_iff_lt_mul hb];exact UC a b p hb);have e:a/b/256^p=a/256^p/b:=(by rw[Nat.div_div_eq_div_mul,Nat.div_div_eq_div_mul,Nat.mul_comm]);rw[e,h1,Nat.mul_add_div hb,Nat.mul_comm _ 256,Nat.mul_add_mod,Nat.mod_eq_of_lt h2]
theorem qd3(a b p:Nat)(hb:0<b):FX a b p%b=a/256^p%b:=by
 have h1:=qaE a b p hb
 conv=>rhs;rw[h1]
 rw[Nat.mul_add_mod]
def qd4(R d:Nat)(hd:d<256):val 256 (d::D8 R)=R*256+d:=by
 show d+256*val 256 (D8 R)=_;unfold D8;rw[rq (by omega)];omega
def dq8{a b p q r:Nat}(hb:0<b)(h:q*b+r=FX a b p)(hr:r<b):q=a/b/256^p%256∧r=a/256^p%b:=by
 rw[<-qd2 a b p hb,<-qd3 a b p hb,<-h,Nat.mul_comm q b];exact⟨by rw[Nat.mul_add_div hb,Nat.div_eq_of_lt hr];omega,by rw[Nat.mul_add_mod,Nat.mod_eq_of_lt hr]⟩
def qaF{a b p q r s:Nat}(hb:0<b)(h:q*b+r=FX a b p)(hs:s*b<=r):q+s<256:=by
 have h1:=UC a b p hb;have h2:(q+s)*b<256*b:=(by rw[Nat.add_mul];omega);exact Nat.lt_of_mul_lt_mul_right h2
def Eh{a b p q r s:Nat}(h:q*b+r=FX a b p)(hs:s*b<=r):(q+s)*b+(r-s*b)=FX a b p:=by rw[Nat.add_mul];omega
def OW(a b p k:Nat):Nat:=if k<p then 0 else a/b/256^k%256
end Go.Via
namespace Go.Via
variable[Mo]
open Go Go.RowKit
theorem kF{m n:Nat}:0<=lZ m n↔n<=m:=by
 unfold lZ
 by_cases h1:m<n
 ·rw[if_pos h1];omega
 ·rw[if_neg h1]
  by_cases h2:n<m
  ·rw[if_pos h2];omega
  ·rw[if_neg h2];omega
def uZ{m n:Nat}:lZ m n<=0↔m<=n:=by
 unfold lZ
 by_cases h1:m<n
 ·rw[if_pos h1];omega
 ·rw[if_neg h1]
  by_cases h2:n<m
  ·rw[if_pos h2];omega
  ·rw[if_neg h2];omega
theorem Ei{m n:Nat}:lZ m n<0↔m<n:=by
 unfold lZ
 by_cases h1:m<n
 ·rw[if_pos h1];omega
 ·rw[if_neg h1]
  by_cases h2:n<m
  ·rw[if_pos h2];omega
  ·rw[if_neg h2];omega
def qaG{a b:Nat}(x:SR (nb a)):(SR (nb (a/b))×SR (nb (a%b))) ⊕ PLift (a<b)->Value
 | .inl z=> .tuple #[z.1.v,z.2.v]
 | .inr _=> .tuple #[.slice none 0 0,x.v]
def OX{a b:Nat}:(SR (nb (a/b))×SR (nb (a%b))) ⊕ PLift (a<b)->List aF
 | .inl z=>[⟨z.1.b,3,NV .i64 (D8 (a/b)),z.1.n,true⟩,⟨z.2.b,3,NV .i64 (D8 (a%b)),z.2.n,true⟩]
 | .inr _=>[]
def AV{B:Bs}{X:Act->World->Prop}{nt:Nat}{t:List (Nat×Value)}{L:List aF}{b:aF}(k:Nat)(hk:L[k]? =some b)(h:(b.base=none->b.cs=[])->At B ⟨nt,t,L⟩ X):At B ⟨nt,t,L⟩ X:=
 fun a w hr=>h (fun hb=>((hr.mem.blk k b hk).2 hb).1) a w hr
def qaH{P:Program}{bl:List Nat}{ops:Array Oper}{K:St->Prop}{rest:List Oper}{nt:Nat}{t:List (Nat×Value)}{L:List aF}{d:Nat}{ty:TypeId}{pos:String}{af:Array Edge}{g:Option (Nat×Bool)}{x y:Operand}
 {T e:Nat}{z:Value}{gx:Nat}{d0 R:Nat}{ob:Option Nat}{oN oc:Nat}{o2:Bool}(k k2:Nat)(mk:Option Nat->Nat->List aF)(hT:P.underlying T=some (.slice e))(hi:LK P e 1 z)(hd:Nat.blt d nt=true)
 (hg:ax ops ⟨some d,.call {callee:= .builtin .append,args:= #[x,y],argTypes:= #[T,T]},ty,pos,af,g⟩ t=some true)
 (hk:L[k]? =some ⟨some gx,e,[.int .i64 (d0:Nat)],1,true⟩)(hx:ev t x=some (aI (some gx) 0 1 1))(hk2:L[k2]? =some ⟨ob,3,NV .i64 (D8 R),oN,o2⟩)(hb:ob=none->NV .i64 (D8 R)=[])(hy:ev t y=some (aI ob 0 (nb R) oc))
 (hzs:z.cells.size=1)(hmax:nb R<=1073741824)(hL:∀b n,L.set k ⟨b,e,NV .i64 (d0::D8 R),n,true⟩=mk b n)
 (h:∀r:SR (nb R+1),aX P bl ops rest ⟨nt,(d,r.v)::t,mk r.b r.n⟩ K):
 aX P bl ops (⟨some d,.call {callee:= .builtin .append,args:= #[x,y],argTypes:= #[T,T]},ty,pos,af,g⟩::rest) ⟨nt,t,L⟩ K:=by
 by_cases h0:nb R=0
 ·have hD:D8 R=[]:=List.eq_nil_of_length_eq_zero (by rw[bI];exact h0);have:=h ⟨some gx,1,1,by omega⟩;rw[<-hL] at this;unfold SR.v at this;simp only[h0,hD] at this;have e1:L.set k ⟨some gx,e,NV .i64 [d0],1,true⟩=L:=by
   obtain⟨hlt,he⟩:=List.getElem?_eq_some_iff.1 hk;exact(congrArg (L.set k) he.symm).trans (List.set_getElem_self hlt)
  rw[e1] at this;obtain⟨inf,i1,i2,i3,i5⟩:=yV hi;rw[h0] at hy;exact XA hT i1 hd hg hx (Nat.le_refl 1) hy this
 ·obtain⟨g2,rfl⟩:∃g2,ob=some g2:=by
   cases ob with
   |none=>
    have:=congrArg List.length (hb rfl);rw[az,bI] at this;exact absurd this h0
   |some g2=>exact⟨g2,rfl⟩
  refine eG (s:=1) (len:=1) (n2:=nb R) k k2 (fun r=>mk (some r.g) r.n) hT hi hd hg hk rfl rfl hx hk2 rfl hy rfl hzs (by simpa using(by omega:0<nb R)) rfl (Nat.le_refl _) (Nat.le_refl _) (by rw[az,bI];omega) (Fp _ _) (by omega) (fun r=>?_) (fun r=>?_)
  ·rw[<-hL];rfl
  ·have h1:=h ⟨some r.g,r.n,r.cap,by have:=r.h;omega⟩;unfold SR.v at h1;have e:aI (some r.g) 0 (1+nb R) r.cap=aI (some r.g) 0 (nb R+1) r.cap:=congrArg (fun n=>aI (some r.g) 0 n r.cap) (Nat.add_comm 1 (nb R));rw[e];exact h1
theorem Wh(a b q:Nat):val 256 (a/256^q%256::D8 (a/256^(q+1)%b))=FX a b q:=qd4 _ _ (jS _)
def AX(a b q:Nat):∀d∈a/256^q%256::D8 (a/256^(q+1)%b),d<256:=fun d hd=>by
 rcases List.mem_cons.1 hd with rfl|hd
 ·exact jS _
 ·exact qfB _ d hd
theorem JL(a b q:Nat):(ag 256 (val 256 (a/256^q%256::D8 (a/256^(q+1)%b)))).length=nb (FX a b q):=by rw[Wh];rfl
def qaI(a b q:Nat):nb (FX a b q)<=nb (a/256^(q+1)%b)+1:=by
 rw[<-JL];exact Nat.le_trans (je (by decide) (FH (by decide) (AX a b q))) (by simp[bI])
def QV(a b q:Nat):NV .i64 (D8 (FX a b q))=(NV .i64 (a/256^q%256::D8 (a/256^(q+1)%b))).take (nb (FX a b q)):=by
 have:=wK (B:=256) (by omega) (AX a b q);rw[Wh] at this;rw[DN];congr 1;exact this.symm
theorem IC(a b:Nat):a/256^nb a%b=0:=by rw[Nat.div_eq_of_lt (jQ a),Nat.zero_mod]
def Wi(a b:Nat):NV .i64 (D8 (a/256^nb a%b))=[]:=by
 rw[IC];have:D8 0=[]:=List.eq_nil_of_length_eq_zero (by rw[bI,jV]);rw[this];rfl
def QW(a b:Nat):Value.slice none 0 0=aI none 0 (nb (a/256^nb a%b)) 0:=by rw[IC,jV];rfl
def QX(a b q m k:Nat):Nat:=if k=q then m else OW a b (q+1) k
theorem FY(a b q m:Nat):QX a b q m q=m:=by simp[QX]
def QY(a b q k:Nat):QX a b q 0 k=OW a b (q+1) k:=by
 unfold QX
 split
 ·rename_i h;subst h;simp[OW]
 ·rfl
theorem Ej(a b q m m' k:Nat):QX a b q m' k=if k=q then m' else QX a b q m k:=by
 unfold QX;split<;>rfl
def Wj(a b q k:Nat):QX a b q (a/b/256^q%256) k=OW a b q k:=by
 unfold QX OW
 by_cases h:k=q
 ·subst h;simp
 ·rw[if_neg h]
  by_cases c:k<q
  ·rw[if_pos c,if_pos (by omega)]
  ·rw[if_neg c,if_neg (by omega)]
theorem Wl(a b:Nat){k:Nat}(h:k<nb a):OW a b (nb a) k=0:=by unfold OW;rw[if_pos h]
def UD(a b p k:Nat):OW a b p k<256:=by unfold OW;split<;>omega
theorem qd5(a b:Nat):val 256 (row (nb a) (OW a b 0))=a/b:=by
 have h:a/b<256^nb a:=Nat.lt_of_le_of_lt (Nat.div_le_self _ _) (jQ a);rw[bu (g:=fun j=>a/b/256^j%256) (fun j hj=>by unfold OW;rw[if_neg (by omega)]),oO 256 (by decide),Nat.mod_eq_of_lt h]
theorem JM(a b:Nat):ag 256 (val 256 (row (nb a) (OW a b 0)))=D8 (a/b):=by rw[qd5];rfl
def QZ(a b:Nat):NV .i64 (D8 (a/b))=(NV .i64 (row (nb a) (OW a b 0))).take (nb (a/b)):=by
 have:=wK (B:=256) (by omega) (jY (n:=nb a) (fun j=>UD a b 0 j));rw[JM] at this;rw[DN];congr 1;exact this.symm
def qaJ{r b:Nat}(h:r<256*b):nb r<=nb b+1:=nC (by
 have:=jQ b;rw[Nat.pow_succ];omega)
def Wn{a b p m r:Nat}(hb:0<b)(h:m*b+r=FX a b p):nb r<=nb b+1:=qaJ (by have:=UC a b p hb;have:=Nat.zero_le (m*b);omega)
end Go.Via
namespace Go.Via
theorem OY:NV .i64 (D8 0)=[]:=by
 have:D8 0=[]:=List.eq_nil_of_length_eq_zero (by rw[bI,jV]);rw[this];rfl
end Go.Via
namespace Go.Via
variable[Mo]
open Go Go.RowKit
structure FS(bs:List (Option Nat))(len:Nat) where
 z:SR len
 o:Bool
 ho:o=true∨z.b∈bs
def JO{a b:Nat}(z:(SR (nb (a/b))×SR (nb (a%b))) ⊕ PLift (a<b)):∀c∈OX z,c.own=true:=by
 intro c hc;cases z with
 |inl z=>
  simp only[OX,List.mem_cons,List.mem_nil_iff,or_false] at hc;rcases hc with rfl|rfl<;>rfl
 |inr h=>cases hc
def qgV{B:Bs}{w:World}{L:List aF}{x y:aF}{c:aF}{o:Bool}{bb:Option Nat}(h:aT B L w)(k:Nat){b:aF}(hk:L[k]? =some b)(hb:b.base=bb)(hoo:b.own=o)(ho:o=true∨bb∈[x.base,y.base])(hc:c.base=bb):∀g,c.base=some g->B.own g∨∃b0∈[x,y],b0.base=some g:=by
 intro g hg;rcases ho with h1|h1
 ·exact .inl (Oe h k hk (by rw[hoo];exact h1) g (by rw[hb,<-hc];exact hg))
 ·rw[hc] at hg;subst hg;simp only[List.mem_cons,List.mem_nil_iff,or_false] at h1;rcases h1 with h1|h1
  ·exact .inr ⟨x,by simp,h1.symm⟩
  ·exact .inr ⟨y,by simp,h1.symm⟩
def Yk{m n a b:Nat}(h:Nat.gcd m n=Nat.gcd a b):Nat.gcd n (m%n)=Nat.gcd a b:=by
 rw[<-h,Nat.gcd_comm m n,Nat.gcd_rec n m,Nat.gcd_comm (m%n) n]
def Wp{P:Program}{f a b:Nat}{x:SR (nb a)}{L0:List aF}{args:List Value}(hx:∀g,x.b=some g->∃b0∈L0,b0.base=some g)(hL0:L0[0]? =some ⟨x.b,3,NV .i64 (D8 a),x.n,false⟩)(h:bZ P f L0 args ((SR (nb (a/b))×SR (nb (a%b))) ⊕ PLift (a<b)) (qaG x) OX):
 Fq P f L0 args (SR (nb (a/b))×SR (nb (a%b))) (fun z=> .tuple #[z.1.v,z.2.v]) (fun z=>[⟨z.1.b,3,NV .i64 (D8 (a/b)),z.1.n,false⟩,⟨z.2.b,3,NV .i64 (D8 (a%b)),z.2.n,false⟩]):=by
 refine⟨h.1,fun w hL=>(h.2 w hL).mono ?_⟩
 rintro e w' ⟨z,rfl,hz⟩;cases z with
 |inl z=>
  refine⟨z,rfl,hz.un,fun c hc g hg=> .inl ?_⟩
  simp only[List.mem_cons,List.mem_nil_iff,or_false] at hc;rcases hc with rfl|rfl
  ·exact Dy (Oe hz 0 rfl rfl g hg)
  ·exact Dy (Oe hz 1 rfl rfl g hg)
 |inr hlt=>
  have hlt:=hlt.down;refine⟨(⟨none,0,0,by rw[Nat.div_eq_of_lt hlt,jV];exact Nat.le_refl _⟩,⟨x.b,x.n,x.cap,by rw[Nat.mod_eq_of_lt hlt];exact x.h⟩),?_,?_,fun c hc g hg=>?_⟩
  ·show Ending.returned (.tuple #[Value.slice none 0 0,aI x.b 0 (nb a) x.cap])=Ending.returned (.tuple #[aI none 0 (nb (a/b)) 0,aI x.b 0 (nb (a%b)) x.cap]);rw[Nat.div_eq_of_lt hlt,Nat.mod_eq_of_lt hlt,jV];rfl
  ·refine(hL.same (hz:aT w [] w').below).picks [none,some 0] ⟨⟨rfl,by show NV .i64 (D8 (a/b))=[];rw[Nat.div_eq_of_lt hlt];exact OY,rfl⟩,⟨_,hL0,aP (by show(⟨x.b,3,NV .i64 (D8 (a%b)),x.n,false⟩:aF)=⟨x.b,3,NV .i64 (D8 a),x.n,false⟩;rw[Nat.mod_eq_of_lt hlt])⟩,trivial⟩ rfl rfl
  ·simp only[List.mem_cons,List.mem_nil_iff,or_false] at hc;rcases hc with rfl|rfl
   ·cases hg
   ·exact .inr (hx g hg)
end Go.Via
namespace Go.Via
open Go Go.RowKit
def dz(q:Rat):Int:=if q.den=1 then 0 else q.den
def qi2(q:Rat):Value.agg #[.bool false,.string (dm q)]=I (dz q):=by
 unfold dz dm I
 by_cases h:q.den=1
 ·simp only[if_pos h];rw[show(0:Int).natAbs=0 from rfl,iK];rfl
 ·simp only[if_neg h,Int.natAbs_natCast];rw[show decide (((q.den:Nat):Int)<0)=false from decide_eq_false (by omega)]
theorem oU:nb 1=1:=by have h1:=nC (n:=1) (k:=1) (by omega);have h2:=CB (u:=1) (by omega);omega
def qkY{q:Rat}(h:((nb (dz q).natAbs:Nat):Int)=0):q.den=1:=by
 unfold dz at h
 by_cases e:q.den=1
 ·exact e
 ·rw[if_neg e,Int.natAbs_natCast] at h;have:=CB (u:=q.den) (by have:=q.den_nz;omega);omega
def qkZ{q:Rat}(h:¬((nb (dz q).natAbs:Nat):Int)=0):(dz q).natAbs=q.den:=by
 unfold dz at*
 by_cases e:q.den=1
 ·rw[if_pos e] at h;exact absurd (by rw[show(0:Int).natAbs=0 from rfl,jV];rfl) h
 ·rw[if_neg e,Int.natAbs_natCast]
def qi3(q:Rat):jf (dz q)<=bP q:=by
 unfold dz jf bP
 split
 ·rw[show(0:Int).natAbs=0 from rfl,jV];omega
 ·rw[Int.natAbs_natCast];omega
theorem UE:D8 1=[1]:=by
 have h:=JI 1;rw[oU] at h;rw[<-h];simp[row,pz]
def sg(neg:Bool)(n:Nat):Int:=if neg=true then-(n:Int) else(n:Int)
theorem Yl(neg:Bool)(n:Nat):(sg neg n).natAbs=n:=by unfold sg;split<;>simp
theorem OZ(neg:Bool)(n d:Nat):Int.gcd (sg neg n) d=Nat.gcd n d:=by rw[Int.gcd,Yl,Int.natAbs_natCast]
theorem qaK(neg:Bool)(n d:Nat):sg neg n/(Int.gcd (sg neg n) d:Int)=sg neg (n/Nat.gcd n d):=by
 rw[OZ];unfold sg
 split
 ·rw[Int.neg_ediv_of_dvd (Int.natCast_dvd_natCast.2 (Nat.gcd_dvd_left n d))];rfl
 ·rfl
def qaL{n d:Nat}(neg:Bool)(hd:0<d)(h1:d/Nat.gcd n d=1):Value.agg #[.bool (decide (sg neg (n/Nat.gcd n d)<0)),.string (bF (sg neg (n/Nat.gcd n d)).natAbs),aU,aV]=Q (Rat.divInt (sg neg n) d):=by
 have:=Om (n:=sg neg n) (d:=d) (by omega) (by rw[OZ];exact_mod_cast h1);rw[qaK] at this;exact this
def Q3{n d:Nat}(neg:Bool)(hd:0<d)(h1:d/Nat.gcd n d≠1):Value.agg #[.bool (decide (sg neg (n/Nat.gcd n d)<0)),.string (bF (sg neg (n/Nat.gcd n d)).natAbs),.bool (decide (((d/Nat.gcd n d:Nat):Int)<0)),.string (bF (((d/Nat.gcd n d:Nat):Int)).natAbs)]=Q (Rat.divInt (sg neg n) d):=by
 have:=Oo (n:=sg neg n) (d:=d) (by omega) (by rw[OZ];exact_mod_cast h1);rw[qaK,OZ] at this;exact this
theorem Wq{m:Nat}(h:nb m=1):m/256^0%256=m:=by
 have:=jQ m;rw[h] at this;rw[Nat.pow_zero,Nat.div_one,Nat.mod_eq_of_lt (by omega)]
def Lp{m:Nat}(h:¬((nb m:Nat):Int)=1):m≠1:=fun e=>h (by rw[e,oU];rfl)
def qd6(n d:Int)(h:d≠0):Rat.divInt (sg (decide (n<0) !=decide (d<0)) n.natAbs) (d.natAbs:Int)=Rat.divInt n d:=by
 unfold sg
 by_cases hd:d<0
 ·have e:(d.natAbs:Int)= -d:=by omega
  rw[e]
  by_cases hn:n<0
  ·rw[decide_eq_true hd,decide_eq_true hn];simp only[bne_self_eq_false,Bool.false_eq_true,if_false];rw[show(n.natAbs:Int)= -n by omega,Rat.neg_divInt_neg]
  ·rw[decide_eq_true hd,decide_eq_false hn];simp only[Bool.bne_true,Bool.not_false,if_true];rw[show(n.natAbs:Int)=n by omega,Rat.neg_divInt_neg]
 ·have e:(d.natAbs:Int)=d:=by omega
  rw[e]
  by_cases hn:n<0
  ·rw[decide_eq_false hd,decide_eq_true hn];simp only[Bool.bne_false,if_true];rw[show-(n.natAbs:Int)=n by omega]
  ·rw[decide_eq_false hd,decide_eq_false hn];simp only[bne_self_eq_false,Bool.false_eq_true,if_false];rw[show(n.natAbs:Int)=n by omega]
def qgW(p q:Rat):Rat.divInt (sg (decide (p.num<0) !=decide (q.num<0)) (p.num.natAbs*q.num.natAbs)) ((p.den*q.den:Nat):Int)=p*q:=by
 rw[<-Jp p q,<-VE p.num q.num];unfold sg;rw[Int.natCast_mul,Int.natCast_mul]
theorem kR(a:Int)(d:Nat)(h:d≠0):decide (a*(d:Int)<0)=decide (a<0):=by
 refine decide_eq_decide.2 ⟨fun h2=>?_,fun h2=>Int.mul_neg_of_neg_of_pos h2 (by omega)⟩
 refine Int.not_le.1 fun h3=>?_
 have:=Int.mul_nonneg h3 (show(0:Int)<=d by omega);omega
theorem zH(p q:Rat):Rat.divInt (p.num*q.den+q.num*p.den) ((p.den*q.den:Nat):Int)=p+q:=by
 have h1:(p.den:Int)≠0:=zi p;have h2:(q.den:Int)≠0:=zi q
 conv=>rhs;rw[<-Rat.num_divInt_den p,<-Rat.num_divInt_den q]
 rw[Rat.divInt_add_divInt _ _ h1 h2,Int.natCast_mul]
def qd7(p q:Rat)(h:(decide (p.num<0)==decide (q.num<0))=true):Rat.divInt (sg (decide (p.num<0)) (p.num.natAbs*q.den+q.num.natAbs*p.den)) ((p.den*q.den:Nat):Int)=p+q:=by
 rw[<-zH p q]
 congr 1
 have h1:=Qq (p.num*q.den) (q.num*p.den) (by rw[kR _ _ q.den_nz,kR _ _ p.den_nz];exact h);rw[kR _ _ q.den_nz,Int.natAbs_mul,Int.natAbs_mul,Int.natAbs_natCast,Int.natAbs_natCast] at h1;exact h1
def qd8(p q:Rat)(h:(decide (p.num<0)==decide (q.num<0))=false)(hle:q.num.natAbs*p.den<=p.num.natAbs*q.den):Rat.divInt (sg (decide (p.num<0)) (p.num.natAbs*q.den-q.num.natAbs*p.den)) ((p.den*q.den:Nat):Int)=p+q:=by
 rw[<-zH p q]
 congr 1
 have h1:=LY (p.num*q.den) (q.num*p.den) (by rw[kR _ _ q.den_nz,kR _ _ p.den_nz];exact h) (by rw[Int.natAbs_mul,Int.natAbs_mul,Int.natAbs_natCast,Int.natAbs_natCast];exact hle);rw[kR _ _ q.den_nz,Int.natAbs_mul,Int.natAbs_mul,Int.natAbs_natCast,Int.natAbs_natCast] at h1;exact h1
def qd9(p q:Rat)(h:(decide (p.num<0)==decide (q.num<0))=false)(hle:p.num.natAbs*q.den<=q.num.natAbs*p.den):Rat.divInt (sg (decide (q.num<0)) (q.num.natAbs*p.den-p.num.natAbs*q.den)) ((p.den*q.den:Nat):Int)=p+q:=by
 rw[<-zH p q]
 congr 1
 have h1:=LZ (p.num*q.den) (q.num*p.den) (by rw[kR _ _ q.den_nz,kR _ _ p.den_nz];exact h) (by rw[Int.natAbs_mul,Int.natAbs_mul,Int.natAbs_natCast,Int.natAbs_natCast];exact hle);rw[kR _ _ p.den_nz,Int.natAbs_mul,Int.natAbs_mul,Int.natAbs_natCast,Int.natAbs_natCast] at h1;exact h1
def Q4{q:Rat}(h:q<0):q.num<0:=by
 refine Int.not_le.1 fun h1=>?_
 have:=Rat.num_nonneg.1 h1
 grind
def Q5{q:Rat}(h:0<q):0<q.num:=by
 have h1:=Rat.num_nonneg.2 (show 0<=q by grind);have h2:q.num≠0:=fun e=>by have:=Rat.num_eq_zero.1 e;grind
 omega
def Q7(p q:Rat):(p-q).num.sign=l9 p q:=by
 unfold l9
 by_cases h:p<q
 ·rw[if_pos h];have:p-q<0:=by grind
  exact Int.sign_eq_neg_one_of_neg (Q4 this)
 ·rw[if_neg h]
  by_cases h2:q<p
  ·rw[if_pos h2];have:0<p-q:=by grind
   exact Int.sign_eq_one_of_pos (Q5 this)
  ·rw[if_neg h2];have:p-q=0:=by grind
   rw[this];rfl
end Go.Via
namespace Go.Via
def nn(R u v:Rat):Prop:=(0<=u∧v*v*R<=u*u)∨(0<=v∧u*u<=v*v*R)
def pF(x:Rat):0<=x*x:=by
 by_cases h:0<=x
 ·exact Rat.mul_nonneg h h
 ·have h1:0<= -x:=by grind
  have:=Rat.mul_nonneg h1 h1;have e: -x* -x=x*x:=by grind
  rwa [e] at this
def fE{x y:Rat}(hx:0<=x)(hy:0<=y):0<=x*y:=Rat.mul_nonneg hx hy
def pO{x y:Rat}(hx:0<x)(hy:0<y):0<x*y:=by
 have h1:=Rat.mul_nonneg (show 0<=x by grind) (show 0<=y by grind);have h2:x*y≠0:=fun e=>by
  rcases Rat.mul_eq_zero.1 e with h|h<;>grind
 grind
def FZ{a b c d:Rat}(ha:0<=a)(hab:a<=b)(hc:0<=c)(hcd:c<=d):a*c<=b*d:=by
 have h1:=fE (show 0<=b-a by grind) hc;have h2:=fE (show 0<=b by grind) (show 0<=d-c by grind)
 grind
def Ws{x y:Rat}(hy:0<=y)(h:y<x):y*y<x*x:=by
 have h1:=pO (show 0<x-y by grind) (show 0<x by grind);have h2:=fE (show 0<=x-y by grind) hy
 grind
def Em{x y:Rat}(hy:0<=y)(h:x*x<=y*y):x<=y∧ -y<=x:=by
 constructor
 ·refine Rat.not_lt.1 fun hl=>?_
  have:=Ws hy hl
  grind
 ·refine Rat.not_lt.1 fun hl=>?_
  have:=Ws hy (show y< -x by grind)
  grind
def qaM{R u v u' v':Rat}(hR:0<=R)(h:nn R u v)(h':nn R u' v'):nn R (u*u'+v*v'*R) (u*v'+u'*v):=by
 have N:(u*u'+v*v'*R)*(u*u'+v*v'*R)-(u*v'+u'*v)*(u*v'+u'*v)*R=(u*u-v*v*R)*(u'*u'-v'*v'*R):=(by grind);rcases h with⟨h1,h2⟩|⟨h1,h2⟩<;>rcases h' with⟨h3,h4⟩|⟨h3,h4⟩
 ·left
  have k:(v*v'*R)*(v*v'*R)<=(u*u')*(u*u'):=by
   have:=FZ (fE (pF v) hR) h2 (fE (pF v') hR) h4
   grind
  have:=Em (fE h1 h3) k;have:=fE (show 0<=u*u-v*v*R by grind) (show 0<=u'*u'-v'*v'*R by grind)
  constructor<;>grind
 ·right
  have k:(u'*v)*(u'*v)<=(u*v')*(u*v'):=by
   have a1:=fE (pF v) (show 0<=v'*v'*R-u'*u' by grind);have a2:=fE (pF v') (show 0<=u*u-v*v*R by grind)
   grind
  have:=Em (fE h1 h3) k;have:=fE (show 0<=u*u-v*v*R by grind) (show 0<=v'*v'*R-u'*u' by grind)
  constructor<;>grind
 ·right
  have k:(u*v')*(u*v')<=(u'*v)*(u'*v):=by
   have a1:=fE (pF v') (show 0<=v*v*R-u*u by grind);have a2:=fE (pF v) (show 0<=u'*u'-v'*v'*R by grind)
   grind
  have:=Em (fE h3 h1) k;have:=fE (show 0<=v*v*R-u*u by grind) (show 0<=u'*u'-v'*v'*R by grind)
  constructor<;>grind
 ·left
  have k:(u*u')*(u*u')<=(v*v'*R)*(v*v'*R):=by
   have:=FZ (pF u) h2 (pF u') h4
   grind
  have:=Em (fE (fE h1 h3) hR) k;have:=fE (show 0<=v*v*R-u*u by grind) (show 0<=v'*v'*R-u'*u' by grind)
  constructor<;>grind
def Wu{R u v u' v':Rat}(hR:0<=R)(h1:0<=u)(h2:v*v*R<=u*u)(h3:0<=v')(h4:u'*u'<=v'*v'*R):nn R (u+u') (v+v'):=by
 by_cases hu:0<=u+u'
 ·by_cases hv:0<=v+v'
  ·by_cases hn:(v+v')*(v+v')*R<=(u+u')*(u+u')
   ·exact .inl ⟨hu,hn⟩
   ·exact .inr ⟨hv,by grind⟩
  ·
   refine .inl ⟨hu,?_⟩
   by_cases hu':0<=u'
   ·have a1:(v+v')*(v+v')<=v*v:=by
     have:=fE h3 (show 0<= -v-v' by grind);have:=fE h3 (show 0<= -v by grind)
     grind
    have a2:=fE (show 0<=v*v-(v+v')*(v+v') by grind) hR;have a3:=fE h1 hu';have a4:=pF u'
    grind
   ·
    have k:(u'*v)*(u'*v)<=(u*v')*(u*v'):=by
     have a1:=fE (pF v) (show 0<=v'*v'*R-u'*u' by grind);have a2:=fE (pF v') (show 0<=u*u-v*v*R by grind)
     grind
    have k2:=(Em (fE h1 h3) k).1
    have hz:0< -v:=(by grind);have b1:0<=u*(v+v')-(u+u')*v:=(by grind);have b2:0<=u* -(v+v'):=fE h1 (by grind);have b3:u* -(v+v')<=(u+u')* -v:=(by grind);have b4:=FZ b2 b3 b2 b3
    have b5:=fE (pF (v+v')) (show 0<=u*u-v*v*R by grind);have b6:(v*v)*((v+v')*(v+v')*R)<=(v*v)*((u+u')*(u+u')):=(by grind);refine Rat.not_lt.1 fun hl=>?_
    have:=pO (pO hz hz) (show 0<(v+v')*(v+v')*R-(u+u')*(u+u') by grind)
    grind
 ·
  have hu':u'<0:=by grind
  by_cases hv:0<=v+v'
  ·refine .inr ⟨hv,?_⟩
   by_cases hv1:0<=v
   ·have a1:(u+u')*(u+u')<=u'*u':=by
     have:=fE h1 (show 0<= -u-u' by grind);have:=fE h1 (show 0<= -u' by grind)
     grind
    have a2:=fE (fE hv1 h3) hR;have a3:=fE (pF v) hR
    grind
   ·have k:(u'*v)*(u'*v)<=(u*v')*(u*v'):=by
     have a1:=fE (pF v) (show 0<=v'*v'*R-u'*u' by grind);have a2:=fE (pF v') (show 0<=u*u-v*v*R by grind)
     grind
    have k2:=(Em (fE h1 h3) k).1;have hv':0<v':=(by grind);have b2:0<=v'* -(u+u'):=fE h3 (by grind);have b3:v'* -(u+u')<= -u'*(v+v'):=(by grind);have b4:=FZ b2 b3 b2 b3;have b5:=fE (pF (v+v')) (show 0<=v'*v'*R-u'*u' by grind);have b6:(v'*v')*((u+u')*(u+u'))<=(v'*v')*((v+v')*(v+v')*R):=(by grind);refine Rat.not_lt.1 fun hl=>?_
    have:=pO (pO hv' hv') (show 0<(u+u')*(u+u')-(v+v')*(v+v')*R by grind)
    grind
  ·exfalso
   have a1:=Ws h3 (show v'< -v by grind);have a2:=Ws h1 (show u< -u' by grind);have a3:=fE (show 0<= -v* -v-v'*v' by grind) hR
   grind
def O0{R u v u' v':Rat}(hR:0<=R)(h:nn R u v)(h':nn R u' v'):nn R (u+u') (v+v'):=by
 rcases h with⟨h1,h2⟩|⟨h1,h2⟩<;>rcases h' with⟨h3,h4⟩|⟨h3,h4⟩
 ·left
  have k:(v*v'*R)*(v*v'*R)<=(u*u')*(u*u'):=by
   have:=FZ (fE (pF v) hR) h2 (fE (pF v') hR) h4
   grind
  have:=(Em (fE h1 h3) k).1
  constructor<;>grind
 ·exact Wu hR h1 h2 h3 h4
 ·have:=Wu hR h3 h4 h1 h2
  rwa [Rat.add_comm u u',Rat.add_comm v v']
 ·right
  have k:(u*u')*(u*u')<=(v*v'*R)*(v*v'*R):=by
   have:=FZ (pF u) h2 (pF u') h4
   grind
  have:=(Em (fE (fE h1 h3) hR) k).1
  constructor<;>grind
def qaN{R u:Rat}(hu:0<=u):nn R u 0:= .inl ⟨hu,by have:=pF u;grind⟩
def zI{R u v c:Rat}(hR:0<=R)(hc:0<=c)(h:nn R u v):nn R (c*u) (c*v):=by
 have:=qaM hR (qaN (R:=R) hc) h;have e1:c*u+0*v*R=c*u:=(by grind);have e2:c*v+u*0=c*v:=by grind
 rwa [e1,e2] at this
end Go.Via
namespace Go.Via
open Go
structure Rl where
 p:Rat
 r:Rat
 n:Bool
deriving DecidableEq
def cO(q:Rat):Int:=q.num.sign
def oK(a b r:Rat):Int:=if cO b*cO r=0∨cO a=cO b*cO r then cO a else if cO a=0 then cO b*cO r else cO a*l9 (a*a) (b*b*r)
def jA(x:Rl):Rat:=if x.n=true then-1 else 1
def bH(x y:Rl):Int:=
 if cO (-jA y)*cO y.r=0∨oK (x.p-y.p) (jA x) x.r=cO (-jA y)*cO y.r then oK (x.p-y.p) (jA x) x.r
 else if oK (x.p-y.p) (jA x) x.r=0 then cO (-jA y)*cO y.r
 else oK (x.p-y.p) (jA x) x.r*oK ((x.p-y.p)*(x.p-y.p)+x.r-y.r) (2*((x.p-y.p)*jA x)) x.r
def rl(q:Rat):Rl:=⟨q,0,false⟩
theorem O1{q:Rat}(h:0<q):cO q=1:=by unfold cO;exact Int.sign_eq_one_of_pos (Q5 h)
theorem O3{q:Rat}(h:q<0):cO q= -1:=by unfold cO;exact Int.sign_eq_neg_one_of_neg (Q4 h)
theorem zJ:cO 0=0:=rfl
def dO(q:Rat):(0<q∧cO q=1)∨(q<0∧cO q= -1)∨(q=0∧cO q=0):=by
 by_cases h:0<q
 ·exact .inl ⟨h,O1 h⟩
 ·by_cases h1:q<0
  ·exact .inr (.inl ⟨h1,O3 h1⟩)
  ·have:q=0:=by grind
   exact .inr (.inr ⟨this,by rw[this];rfl⟩)
def jk(p q:Rat):(p<q∧l9 p q= -1)∨(q<p∧l9 p q=1)∨(p=q∧l9 p q=0):=by
 unfold l9
 by_cases h:p<q
 ·exact .inl ⟨h,if_pos h⟩
 ·by_cases h1:q<p
  ·exact .inr (.inl ⟨h1,by rw[if_neg h,if_pos h1]⟩)
  ·exact .inr (.inr ⟨by grind,by rw[if_neg h,if_neg h1]⟩)
theorem O4(p q:Rat):cO (p-q)=l9 p q:=Q7 p q
theorem En(q:Rat):cO (-q)= -cO q:=by unfold cO;rw[Rat.neg_num];exact Int.sign_neg _
def Q8{a b r:Rat}(hr:0<=r):(oK a b r=1∧nn r a b∧¬nn r (-a) (-b))∨(oK a b r= -1∧nn r (-a) (-b)∧¬nn r a b)∨(oK a b r=0∧nn r a b∧nn r (-a) (-b)):=by
 have hr2:r<0->False:=fun h=>by grind
 unfold oK nn;rcases dO b with⟨hb,eb⟩|⟨hb,eb⟩|⟨hb,eb⟩
 ·rcases dO r with⟨h,e⟩|⟨h,e⟩|⟨h,e⟩
  ·have:=pO (pO hb hb) h;rcases dO a with⟨ha,ea⟩|⟨ha,ea⟩|⟨ha,ea⟩
   ·have:=pO ha ha;rw[eb,e,ea];left;refine⟨by simp,?_,?_⟩<;>grind
   ·rcases jk (a*a) (b*b*r) with⟨hc,ec⟩|⟨hc,ec⟩|⟨hc,ec⟩
    ·rw[eb,e,ea,ec];left;refine⟨by simp,?_,?_⟩<;>grind
    ·rw[eb,e,ea,ec];right;left;refine⟨by simp,?_,?_⟩<;>grind
    ·rw[eb,e,ea,ec];right;right;refine⟨by simp,?_,?_⟩<;>grind
   ·rw[eb,e,ea,ha];left;refine⟨by simp,?_,?_⟩<;>grind
  ·exact absurd h (fun h=>hr2 h)
  ·subst h;rcases dO a with⟨ha,ea⟩|⟨ha,ea⟩|⟨ha,ea⟩
   ·have:=pO ha ha;rw[eb,e,ea];left;refine⟨by simp,?_,?_⟩<;>grind
   ·have:=pO (show 0< -a by grind) (show 0< -a by grind);rw[eb,e,ea];right;left;refine⟨by simp,?_,?_⟩<;>grind
   ·rw[eb,e,ea,ha];right;right;refine⟨by simp,?_,?_⟩<;>grind
 ·rcases dO r with⟨h,e⟩|⟨h,e⟩|⟨h,e⟩
  ·have:=pO (pO (show 0< -b by grind) (show 0< -b by grind)) h;rcases dO a with⟨ha,ea⟩|⟨ha,ea⟩|⟨ha,ea⟩
   ·rcases jk (a*a) (b*b*r) with⟨hc,ec⟩|⟨hc,ec⟩|⟨hc,ec⟩
    ·rw[eb,e,ea,ec];right;left;refine⟨by simp,?_,?_⟩<;>grind
    ·rw[eb,e,ea,ec];left;refine⟨by simp,?_,?_⟩<;>grind
    ·rw[eb,e,ea,ec];right;right;refine⟨by simp,?_,?_⟩<;>grind
   ·have:=pO (show 0< -a by grind) (show 0< -a by grind);rw[eb,e,ea];right;left;refine⟨by simp,?_,?_⟩<;>grind
   ·rw[eb,e,ea,ha];right;left;refine⟨by simp,?_,?_⟩<;>grind
  ·exact absurd h (fun h=>hr2 h)
  ·subst h;rcases dO a with⟨ha,ea⟩|⟨ha,ea⟩|⟨ha,ea⟩
   ·have:=pO ha ha;rw[eb,e,ea];left;refine⟨by simp,?_,?_⟩<;>grind
   ·have:=pO (show 0< -a by grind) (show 0< -a by grind);rw[eb,e,ea];right;left;refine⟨by simp,?_,?_⟩<;>grind
   ·rw[eb,e,ea,ha];right;right;refine⟨by simp,?_,?_⟩<;>grind
 ·subst hb;rw[eb];rcases dO a with⟨ha,ea⟩|⟨ha,ea⟩|⟨ha,ea⟩
  ·have:=pO ha ha;rw[ea,Int.zero_mul];left;refine⟨by simp,?_,?_⟩<;>grind
  ·have:=pO (show 0< -a by grind) (show 0< -a by grind);rw[ea,Int.zero_mul];right;left;refine⟨by simp,?_,?_⟩<;>grind
  ·rw[ea,ha,Int.zero_mul];right;right;refine⟨by simp,?_,?_⟩<;>grind
theorem qgX{a b r:Rat}(hr:0<=r):0<=oK a b r↔nn r a b:=by
 rcases Q8 (a:=a) (b:=b) hr with⟨e,h1,h2⟩|⟨e,h1,h2⟩|⟨e,h1,h2⟩<;>rw[e]
 ·exact⟨fun _=>h1,fun _=>by decide⟩
 ·exact⟨fun h=>absurd h (by decide),fun h=>absurd h h2⟩
 ·exact⟨fun _=>h1,fun _=>by decide⟩
theorem qgY{a b r:Rat}(hr:0<=r):oK a b r<=0↔nn r (-a) (-b):=by
 rcases Q8 (a:=a) (b:=b) hr with⟨e,h1,h2⟩|⟨e,h1,h2⟩|⟨e,h1,h2⟩<;>rw[e]
 ·exact⟨fun h=>absurd h (by decide),fun h=>absurd h h2⟩
 ·exact⟨fun _=>h1,fun _=>by decide⟩
 ·exact⟨fun _=>h2,fun _=>by decide⟩
theorem UF(a b:Rat):oK a b 0=cO a:=by unfold oK;rw[zJ,Int.mul_zero,if_pos (.inl rfl)]
theorem O5(x:Rl):cO (jA x)=if x.n=true then-1 else 1:=by unfold jA;split<;>rfl
def F5(x:Rl):jA x*jA x=1:=by unfold jA;split<;>grind
theorem Eo(x:Rl)(q:Rat):bH x (rl q)=oK (x.p-q) (jA x) x.r:=by
 unfold bH rl;dsimp only;rw[zJ,Int.mul_zero,if_pos (.inl rfl)]
theorem oV(p q:Rat):bH (rl p) (rl q)=l9 p q:=by
 rw[Eo];unfold rl;dsimp only;rw[UF,O4]
theorem qaO(q:Rat)(y:Rl):bH (rl q) y=oK (q-y.p) (-jA y) y.r:=by
 unfold bH rl;dsimp only;rw[UF,UF];unfold oK;have e1: -jA y* -jA y*y.r=y.r:=by have:=F5 y;grind
 have e2:(q-y.p)*(q-y.p)+0-y.r=(q-y.p)*(q-y.p)-y.r:=(by grind);rw[e1,e2,O4,O4]
theorem qea(a b r:Rat):oK (-a) (-b) r= -oK a b r:=by
 unfold oK;rw[En,En];have e1: -a* -a=a*a:=by grind
 have e2: -b* -b=b*b:=(by grind);rw[e1,e2,Int.neg_mul]
 generalize cO b*cO r=n
 generalize cO a=m
 by_cases h:n=0
 ·rw[if_pos (.inl (by omega)),if_pos (.inl h)]
 ·by_cases h1:m=n
  ·rw[if_pos (.inr (by omega)),if_pos (.inr h1)]
  ·rw[if_neg (show¬(-n=0∨ -m= -n) by omega),if_neg (show¬(n=0∨m=n) by omega)]
   by_cases h2:m=0
   ·rw[if_pos (show-m=0 by omega),if_pos h2]
   ·rw[if_neg (show¬ -m=0 by omega),if_neg h2,Int.neg_mul]
theorem ni(q:Rat)(y:Rl):bH (rl q) y= -bH y (rl q):=by
 rw[qaO,Eo,<-qea];have: -(y.p-q)=q-y.p:=by grind
 rw[this]
theorem AY(x:Rl):bH x x=0:=by
 unfold bH;have e0:x.p-x.p=0:=by grind
 have e1:(0:Rat)*0+x.r-x.r=0:=(by grind);have e2:(2:Rat)*(0*jA x)=0:=(by grind);rw[e0,e1,e2,En,O5];rcases dO x.r with⟨h,e⟩|⟨h,e⟩|⟨h,e⟩<;>unfold oK<;>rw[O5,e,zJ]<;>cases x.n<;>rfl
def ql(x y:Rl):bH x y= -1∨bH x y=0∨bH x y=1:=by
 have hs:∀q,cO q= -1∨cO q=0∨cO q=1:=fun q=>by rcases dO q with h|h|h<;>simp[h.2]
 have hm:∀{a b:Int},(a= -1∨a=0∨a=1)->(b= -1∨b=0∨b=1)->(a*b= -1∨a*b=0∨a*b=1):=fun h h'=>by
  rcases h with h|h|h<;>rcases h' with h'|h'|h'<;>simp[h,h']
 have hq:∀p q,l9 p q= -1∨l9 p q=0∨l9 p q=1:=fun p q=>by rcases jk p q with h|h|h<;>simp[h.2]
 have h1:∀a b r,oK a b r= -1∨oK a b r=0∨oK a b r=1:=fun a b r=>by
  unfold oK;split
  ·exact hs _
  ·split
   ·exact hm (hs _) (hs _)
   ·exact hm (hs _) (hq _ _)
 unfold bH;split
 ·exact h1 _ _ _
 ·split
  ·exact hm (hs _) (hs _)
  ·exact hm (h1 _ _ _) (h1 _ _ _)
end Go.Via
namespace Go.Via
section
variable{α:Type}{κ:α->Int}
def jB(g:α->Bool):Option α->List α->List (α×α)
 |_,[]=>[]
 |none,c::cs=>if g c=true then jB g (some c) cs else jB g none cs
 |some f,c::cs=>if g c=true then jB g (some f) cs else(f,c)::jB g none cs
theorem nV{g h:α->Bool}:∀{C:List α} {st:Option α},(∀c∈C,g c=h c)->jB g st C=jB h st C
 |[],none,_=>rfl
 |[],some _,_=>rfl
 |c::cs,none,H=>by
  unfold jB;rw[H c (List.mem_cons_self ..),nV (fun x hx=>H x (List.mem_cons_of_mem _ hx)),nV (C:=cs) (st:=none) (fun x hx=>H x (List.mem_cons_of_mem _ hx))]
 |c::cs,some f,H=>by
  unfold jB;rw[H c (List.mem_cons_self ..),nV (fun x hx=>H x (List.mem_cons_of_mem _ hx)),nV (C:=cs) (st:=none) (fun x hx=>H x (List.mem_cons_of_mem _ hx))]
def Chk(g:α->Bool)(p:α->Bool):Bool->List α->Prop
 |_,[]=>True
 |s,c::cs=>(p c=true∨g c=s)∧Chk g p (g c) cs
theorem qo{g p:α->Bool}:∀{C:List α} {st:Option α},Chk g p st.isSome C->jB g st C=jB g st (C.filter p)
 |[],none,_=>rfl
 |[],some _,_=>rfl
 |c::cs,none,H=>by
  obtain⟨h1,h2⟩:=H;cases hp:p c
  ·rw[List.filter_cons_of_neg (by rw[hp];decide)];have h3:g c=false:=by rcases h1 with h|h;rw[hp] at h;cases h;exact h
   rw[h3] at h2;unfold jB;rw[h3,if_neg (by decide),qo (st:=none) h2];cases cs.filter p<;>rfl
  ·rw[List.filter_cons_of_pos hp];unfold jB;cases hg:g c
   ·rw[hg] at h2;rw[if_neg (by decide),if_neg (by decide),qo (st:=none) h2]
   ·rw[hg] at h2;rw[if_pos rfl,if_pos rfl,qo (st:=some c) h2]
 |c::cs,some f,H=>by
  obtain⟨h1,h2⟩:=H;cases hp:p c
  ·rw[List.filter_cons_of_neg (by rw[hp];decide)];have h3:g c=true:=by rcases h1 with h|h;rw[hp] at h;cases h;exact h
   rw[h3] at h2;unfold jB;rw[h3,if_pos rfl,qo (st:=some f) h2];cases cs.filter p<;>rfl
  ·rw[List.filter_cons_of_pos hp];unfold jB;cases hg:g c
   ·rw[hg] at h2;rw[if_neg (by decide),if_neg (by decide),qo (st:=none) h2]
   ·rw[hg] at h2;rw[if_pos rfl,if_pos rfl,qo (st:=some f) h2]
def CS:∀{C D:List α},C.Pairwise (fun a b=>κ a<κ b)->D.Pairwise (fun a b=>κ a<κ b)->(∀x,x∈C↔x∈D)->C=D
 |[],[],_,_,_=>rfl
 |[],d::D,_,_,H=>absurd ((H d).2 (List.mem_cons_self ..)) (by simp)
 |c::C,[],_,_,H=>absurd ((H c).1 (List.mem_cons_self ..)) (by simp)
 |c::C,d::D,h1,h2,H=>by
  obtain⟨a1,a2⟩:=List.pairwise_cons.1 h1;obtain⟨b1,b2⟩:=List.pairwise_cons.1 h2;have e:c=d:=by
   have m1:=(H c).1 (List.mem_cons_self ..);have m2:=(H d).2 (List.mem_cons_self ..);rcases List.mem_cons.1 m1 with h|h
   ·exact h
   ·rcases List.mem_cons.1 m2 with h'|h'
    ·exact h'.symm
    ·have:=a1 d h';have:=b1 c h;omega
  subst e;refine congrArg (c:: ·) (CS a2 b2 fun x=>?_)
  constructor
  ·intro hx;rcases List.mem_cons.1 ((H x).1 (List.mem_cons_of_mem _ hx)) with h|h
   ·subst h;have:=a1 x hx;omega
   ·exact h
  ·intro hx;rcases List.mem_cons.1 ((H x).2 (List.mem_cons_of_mem _ hx)) with h|h
   ·subst h;have:=b1 x hx;omega
   ·exact h
def ve(κ:α->Int):List α->List α
 |[]=>[]
 |[x]=>[x]
 |x::y::l=>if κ x=κ y then ve κ (y::l) else x::ve κ (y::l)
def wS:∀{l:List α} {x:α},x∈ve κ l->x∈l
 |[],_,h=>h
 |[_],_,h=>h
 |x::y::l,z,h=>by
  unfold ve at h
  split at h
  ·exact List.mem_cons_of_mem _ (wS h)
  ·rcases List.mem_cons.1 h with h|h
   ·subst h;exact List.mem_cons_self ..
   ·exact List.mem_cons_of_mem _ (wS h)
def F6:∀{l:List α},l.Pairwise (fun a b=>κ a<=κ b)->(ve κ l).Pairwise (fun a b=>κ a<κ b)
 |[],_=>List.Pairwise.nil
 |[x],_=>List.pairwise_singleton ..
 |x::y::l,h=>by
  obtain⟨h1,h2⟩:=List.pairwise_cons.1 h;obtain⟨h3,_⟩:=List.pairwise_cons.1 h2;unfold ve
  split
  ·exact F6 h2
  ·rename_i hne
   refine List.pairwise_cons.2 ⟨fun z hz=>?_,F6 h2⟩;have hz':=wS hz;have:=h1 y (List.mem_cons_self ..);rcases List.mem_cons.1 hz' with e|e
   ·subst e;omega
   ·have:=h3 z e;omega
def AZ:∀{l:List α} {x:α},(∀a∈l,∀b∈l,κ a=κ b->a=b)->x∈l->x∈ve κ l
 |[],_,_,h=>h
 |[_],_,_,h=>h
 |x::y::l,z,H,h=>by
  have H':∀a∈y::l,∀b∈y::l,κ a=κ b->a=b:=fun a ha b hb=>H a (List.mem_cons_of_mem _ ha) b (List.mem_cons_of_mem _ hb)
  unfold ve
  split
  ·rename_i he
   rcases List.mem_cons.1 h with e|e
   ·subst e;have:=H z (List.mem_cons_self ..) y (List.mem_cons_of_mem _ (List.mem_cons_self ..)) he;subst this;exact AZ H' (List.mem_cons_self ..)
   ·exact AZ H' e
  ·rcases List.mem_cons.1 h with e|e
   ·subst e;exact List.mem_cons_self ..
   ·exact List.mem_cons_of_mem _ (AZ H' e)
def pG(κ:α->Int)(c:Int):List (α×Int×Int)->Int
 |[]=>0
 |e::l=>(if κ e.1<=c then e.2.1 else 0)+pG κ c l
def pI(κ:α->Int)(c:Int):List (α×Int×Int)->Int
 |[]=>0
 |e::l=>(if κ e.1<=c then e.2.2 else 0)+pI κ c l
def KW(κ:α->Int)(keep:Bool->Bool->Bool):List (α×Int×Int)->Int->Int->Option α->List (α×α)
 |[],_,_,_=>[]
 |[x],m,n,st=>
  match st,keep (decide (0<m+x.2.1)) (decide (0<n+x.2.2)) with
  |some f,false=>[(f,x.1)]
  |_,_=>[]
 |x::y::l,m,n,st=>
  if κ x.1=κ y.1 then KW κ keep (y::l) (m+x.2.1) (n+x.2.2) st else
  match st,keep (decide (0<m+x.2.1)) (decide (0<n+x.2.2)) with
  |none,true=>KW κ keep (y::l) (m+x.2.1) (n+x.2.2) (some x.1)
  |some f,false=>(f,x.1)::KW κ keep (y::l) (m+x.2.1) (n+x.2.2) none
  |st,_=>KW κ keep (y::l) (m+x.2.1) (n+x.2.2) st
def Nj{c:Int}:∀{l:List (α×Int×Int)},(∀e∈l,c<κ e.1)->pG κ c l=0∧pI κ c l=0
 |[],_=>⟨rfl,rfl⟩
 |e::l,h=>by
  have h1:=h e (List.mem_cons_self ..);obtain⟨a,b⟩:=Nj (l:=l) fun x hx=>h x (List.mem_cons_of_mem _ hx)
  unfold pG pI;rw[if_neg (by omega),if_neg (by omega),a,b];exact⟨rfl,rfl⟩
theorem Q9{keep:Bool->Bool->Bool}:∀{l:List (α×Int×Int)} {m n:Int} {st:Option α},l.Pairwise (fun a b=>κ a.1<=κ b.1)->
 KW κ keep l m n st=jB (fun c=>keep (decide (0<m+pG κ (κ c) l)) (decide (0<n+pI κ (κ c) l))) st (ve κ (l.map (·.1)))
 |[],m,n,none,_=>rfl
 |[],m,n,some _,_=>rfl
 |[x],m,n,st,_=>by
  unfold KW;show _=jB _ st [x.1];have e1:pG κ (κ x.1) [x]=x.2.1:=by simp[pG]
  have e2:pI κ (κ x.1) [x]=x.2.2:=(by simp[pI]);cases st
  ·unfold jB;rw[e1,e2];cases keep (decide (0<m+x.2.1)) (decide (0<n+x.2.2))<;>rfl
  ·unfold jB;rw[e1,e2];cases keep (decide (0<m+x.2.1)) (decide (0<n+x.2.2))<;>rfl
 |x::y::l,m,n,st,h=>by
  obtain⟨h1,h2⟩:=List.pairwise_cons.1 h;have hxy:=h1 y (List.mem_cons_self ..);have G:∀c,κ x.1<=κ c->keep (decide (0<m+pG κ (κ c) (x::y::l))) (decide (0<n+pI κ (κ c) (x::y::l)))=keep (decide (0<m+x.2.1+pG κ (κ c) (y::l))) (decide (0<n+x.2.2+pI κ (κ c) (y::l))):=fun c hc=>by
   rw[pG,pI,if_pos hc,if_pos hc,<-Int.add_assoc,<-Int.add_assoc]
  have hl:∀c∈ve κ (y.1::l.map (·.1)),κ x.1<=κ c:=fun c hc=>by
   obtain⟨e,he,rfl⟩:=List.mem_map.1 (show c∈(y::l).map (·.1) from wS hc);exact h1 e he
  have ih:=fun m n st=>Q9 (keep:=keep) (m:=m) (n:=n) (st:=st) h2
  unfold KW;show _=jB _ st (ve κ (x.1::y.1::l.map (·.1)));unfold ve
  by_cases he:κ x.1=κ y.1
  ·rw[if_pos he,if_pos he,ih];exact nV fun c hc=>(G c (hl c hc)).symm
  ·rw[if_neg he,if_neg he];have hz:=Nj (κ:=κ) (c:=κ x.1) (l:=y::l) (fun e hel=>by
 rcases List.mem_cons.1 hel with e'|e'
 ·subst e';omega
 ·have:=(List.pairwise_cons.1 h2).1 e e';omega)
   have ex:keep (decide (0<m+pG κ (κ x.1) (x::y::l))) (decide (0<n+pI κ (κ x.1) (x::y::l)))=keep (decide (0<m+x.2.1)) (decide (0<n+x.2.2)):=by
    rw[G x.1 (Int.le_refl _),hz.1,hz.2,Int.add_zero,Int.add_zero]
   have ec:=fun st=>nV (st:=st) (C:=ve κ (y.1::l.map (fun e=>e.1))) fun c hc=>G c (hl c hc)
   have ih':=fun st=>(ih (m+x.2.1) (n+x.2.2) st).trans (ec st).symm
   cases st
   ·unfold jB;rw[ex];cases keep (decide (0<m+x.2.1)) (decide (0<n+x.2.2))
    ·exact ih' none
    ·exact ih' (some x.1)
   ·unfold jB;rw[ex];cases keep (decide (0<m+x.2.1)) (decide (0<n+x.2.2))
    ·exact congrArg _ (ih' none)
    ·exact ih' (some _)
end
end Go.Via
namespace Go.Via
open Go
structure Iv where
 f:Rl
 t:Rl
 fo:Bool
 tp:Bool
deriving DecidableEq
abbrev ru:=Rl×Bool
def Hw(f l:ru):Iv:=⟨f.1,l.1,f.2,!l.2⟩
def Iv.b(i:Iv):ru:=(i.f,i.fo)
def Iv.e(i:Iv):ru:=(i.t,!i.tp)
structure fD(S:Rl->Prop)(ρ:Rl->Int):Prop where
 lt:∀{x y},S x->S y->(bH x y<0↔ρ x<ρ y)
 gt:∀{x y},S x->S y->(0<bH x y↔ρ y<ρ x)
 inj:∀{x y},S x->S y->ρ x=ρ y->x=y
def aY(ρ:Rl->Int)(b:ru):Int:=2*ρ b.1+(if b.2=true then 1 else 0)
def Wv{S:Rl->Prop}{ρ:Rl->Int}(T:fD S ρ){a b:ru}(ha:S a.1)(hb:S b.1)(h:aY ρ a=aY ρ b):a=b:=by
 obtain⟨x,c⟩:=a;obtain⟨y,d⟩:=b;unfold aY at h;dsimp only at*;have:ρ x=ρ y∧c=d:=by cases c<;>cases d<;>simp at h ⊢ <;>omega
 rw[T.inj ha hb this.1,this.2]
def vS(a b:ru):Int:=if bH a.1 b.1≠0 then bH a.1 b.1 else if a.2=b.2 then 0 else if b.2=true then-1 else 1
theorem Ep{S:Rl->Prop}{ρ:Rl->Int}(T:fD S ρ){a b:ru}(ha:S a.1)(hb:S b.1):vS a b=xM (aY ρ a) (aY ρ b):=by
 have h1:=T.lt ha hb;have h2:=T.gt ha hb;have h3:=ql a.1 b.1;unfold vS xM aY;obtain⟨x,c⟩:=a;obtain⟨y,d⟩:=b;dsimp only at*
 generalize bH x y=z at*
 rcases h3 with h|h|h
 ·subst h;have:=h1.1 (by decide);rw[if_pos (by decide),if_pos (by cases c<;>cases d<;>simp<;>omega)]
 ·subst h;have e:ρ x=ρ y:=by
   have a1:¬ρ x<ρ y:=fun e=>absurd (h1.2 e) (by decide)
   have a2:¬ρ y<ρ x:=fun e=>absurd (h2.2 e) (by decide)
   omega
  rw[e,if_neg (by decide)];cases c<;>cases d<;>simp
  ·intro h;omega
  ·rw[if_neg (by omega),if_pos (by omega)]
 ·subst h;have:=h2.1 (by decide);rw[if_pos (by decide),if_neg (by cases c<;>cases d<;>simp<;>omega),if_pos (by cases c<;>cases d<;>simp<;>omega)]
def memB(ρ:Rl->Int)(l:List Iv)(c:Int):Bool:=l.any fun i=>decide (aY ρ i.b<=c)&&decide (c<aY ρ i.e)
def Nk(here:Rl->Bool)(btw:Rl->Rl->Bool):Option ru->List Rl->List (ru×ru)
 |_,[]=>[]
 |some f,[t]=>[(f,(t,here t))]
 |none,[t]=>if here t=true then[((t,false),(t,true))] else[]
 |some f,t::u::ts=>
  if here t=true then(if btw t u=true then Nk here btw (some f) (u::ts) else(f,(t,true))::Nk here btw none (u::ts))
  else(f,(t,false))::Nk here btw (if btw t u=true then some (t,true) else none) (u::ts)
 |none,t::u::ts=>
  if here t=true then(if btw t u=true then Nk here btw (some (t,false)) (u::ts) else((t,false),(t,true))::Nk here btw none (u::ts))
  else Nk here btw (if btw t u=true then some (t,true) else none) (u::ts)
def oG:List Rl->List ru
 |[]=>[]
 |t::ts=>(t,false)::(t,true)::oG ts
def qgZ(here:Rl->Bool)(btw:Rl->Rl->Bool)(g:ru->Bool):List Rl->Prop
 |[]=>True
 |[t]=>g (t,false)=here t∧g (t,true)=false
 |t::u::ts=>g (t,false)=here t∧g (t,true)=btw t u∧qgZ here btw g (u::ts)
theorem Es{here:Rl->Bool}{btw:Rl->Rl->Bool}{g:ru->Bool}:∀{ts:List Rl} {st:Option ru},qgZ here btw g ts->Nk here btw st ts=jB g st (oG ts)
 |[],none,_=>rfl
 |[],some _,_=>rfl
 |[t],none,h=>by
  obtain⟨h1,h2⟩:=h;unfold oG oG jB Nk;rw[h1];cases here t
  ·simp[jB,h2]
  ·simp[jB,h2]
 |[t],some f,h=>by
  obtain⟨h1,h2⟩:=h;unfold oG oG jB Nk;rw[h1];cases here t
  ·simp[jB,h2]
  ·simp[jB,h2]
 |t::u::ts,none,h=>by
  obtain⟨h1,h2,h3⟩:=h;have ih:=fun st=>Es (st:=st) h3
  show _=jB g none ((t,false)::(t,true)::oG (u::ts));unfold Nk jB;rw[h1];cases here t
  ·simp only[Bool.false_eq_true,if_false];rw[ih];unfold jB;rw[h2];cases btw t u<;>rfl
  ·simp only[if_true];unfold jB;rw[h2];cases btw t u
   ·simp only[Bool.false_eq_true,if_false];rw[ih]
   ·simp only[if_true];rw[ih]
 |t::u::ts,some f,h=>by
  obtain⟨h1,h2,h3⟩:=h;have ih:=fun st=>Es (st:=st) h3
  show _=jB g (some f) ((t,false)::(t,true)::oG (u::ts));unfold Nk jB;rw[h1];cases here t
  ·simp only[Bool.false_eq_true,if_false];rw[ih];unfold jB;rw[h2];cases btw t u<;>rfl
  ·simp only[if_true];unfold jB;rw[h2];cases btw t u
   ·simp only[Bool.false_eq_true,if_false];rw[ih]
   ·simp only[if_true];rw[ih]
def BK(l:List Iv):List (ru×Int×Int):=l.flatMap fun i=>[(i.b,1,0),(i.e,-1,0)]
def Hy(l:List Iv):List (ru×Int×Int):=l.flatMap fun i=>[(i.b,0,1),(i.e,0,-1)]
theorem GU{α:Type}{κ:α->Int}{c:Int}:∀{l m:List (α×Int×Int)},pG κ c (l++m)=pG κ c l+pG κ c m
 |[],m=>by simp[pG]
 |e::l,m=>by simp only[List.cons_append,pG];rw[GU (l:=l)];omega
theorem GV{α:Type}{κ:α->Int}{c:Int}:∀{l m:List (α×Int×Int)},pI κ c (l++m)=pI κ c l+pI κ c m
 |[],m=>by simp[pI]
 |e::l,m=>by simp only[List.cons_append,pI];rw[GV (l:=l)];omega
def qaP{α:Type}{κ:α->Int}{c:Int}{l m:List (α×Int×Int)}(h:l.Perm m):pG κ c l=pG κ c m∧pI κ c l=pI κ c m:=by
 induction h with
 |nil=>exact⟨rfl,rfl⟩
 |cons x _ ih=>unfold pG pI;rw[ih.1,ih.2];exact⟨rfl,rfl⟩
 |swap x y l=>simp only[pG,pI];omega
 |trans _ _ ih1 ih2=>exact⟨ih1.1.trans ih2.1,ih1.2.trans ih2.2⟩
def F7(ρ:Rl->Int)(l:List Iv):Prop:=∀i∈l,aY ρ i.b<aY ρ i.e
def F7.tail{ρ:Rl->Int}{i:Iv}{l:List Iv}(h:F7 ρ (i::l)):F7 ρ l:=fun x hx=>h x (List.mem_cons_of_mem _ hx)
def Wx{ρ:Rl->Int}{c:Int}:∀{l:List Iv},F7 ρ l->0<=pG (aY ρ) c (BK l)∧(0<pG (aY ρ) c (BK l)↔memB ρ l c=true)∧pI (aY ρ) c (BK l)=0
 |[],_=>by simp[BK,pG,pI,memB]
 |i::l,h=>by
  obtain⟨h1,h2,h3⟩:=Wx (c:=c) h.tail;have hi:=h i (List.mem_cons_self ..);have e:BK (i::l)=(i.b,1,0)::(i.e,-1,0)::BK l:=rfl;rw[e];unfold pG pI pG pI;dsimp only;have em:memB ρ (i::l) c=((decide (aY ρ i.b<=c)&&decide (c<aY ρ i.e))||memB ρ l c):=rfl;rw[em,h3,Bool.or_eq_true,Bool.and_eq_true,decide_eq_true_eq,decide_eq_true_eq,<-h2]
  by_cases a1:aY ρ i.b<=c
  ·by_cases a2:aY ρ i.e<=c
   ·rw[if_pos a1,if_pos a2,if_pos a1,if_pos a2];omega
   ·rw[if_pos a1,if_neg a2,if_pos a1,if_neg a2];omega
  ·rw[if_neg a1,if_neg (by omega),if_neg a1,if_neg (by omega)];omega
def Wy{ρ:Rl->Int}{c:Int}:∀{l:List Iv},F7 ρ l->0<=pI (aY ρ) c (Hy l)∧(0<pI (aY ρ) c (Hy l)↔memB ρ l c=true)∧pG (aY ρ) c (Hy l)=0
 |[],_=>by simp[Hy,pG,pI,memB]
 |i::l,h=>by
  obtain⟨h1,h2,h3⟩:=Wy (c:=c) h.tail;have hi:=h i (List.mem_cons_self ..);have e:Hy (i::l)=(i.b,0,1)::(i.e,0,-1)::Hy l:=rfl;rw[e];unfold pG pI pG pI;dsimp only;have em:memB ρ (i::l) c=((decide (aY ρ i.b<=c)&&decide (c<aY ρ i.e))||memB ρ l c):=rfl;rw[em,h3,Bool.or_eq_true,Bool.and_eq_true,decide_eq_true_eq,decide_eq_true_eq,<-h2]
  by_cases a1:aY ρ i.b<=c
  ·by_cases a2:aY ρ i.e<=c
   ·rw[if_pos a1,if_pos a2,if_pos a1,if_pos a2];omega
   ·rw[if_pos a1,if_neg a2,if_pos a1,if_neg a2];omega
  ·rw[if_neg a1,if_neg (by omega),if_neg a1,if_neg (by omega)];omega
theorem qeb{ρ:Rl->Int}{a b:List Iv}{keep:Bool->Bool->Bool}{l:List (ru×Int×Int)}(ha:F7 ρ a)(hb:F7 ρ b)(hp:l.Perm (BK a++Hy b))(hs:l.Pairwise (fun x y=>aY ρ x.1<=aY ρ y.1)):
 KW (aY ρ) keep l 0 0 none=jB (fun c=>keep (memB ρ a (aY ρ c)) (memB ρ b (aY ρ c))) none (ve (aY ρ) (l.map (·.1))):=by
 rw[Q9 hs];refine nV fun c _=>?_
 obtain⟨e1,e2⟩:=qaP (κ:=aY ρ) (c:=aY ρ c) hp;obtain⟨_,a2,a3⟩:=Wx (c:=aY ρ c) ha;obtain⟨_,b2,b3⟩:=Wy (c:=aY ρ c) hb;rw[e1,e2,GU,GV,a3,b3,Int.zero_add,Int.zero_add,Int.add_zero,Int.zero_add]
 congr 1
 ·rw[Bool.eq_iff_iff,decide_eq_true_eq];exact a2
 ·rw[Bool.eq_iff_iff,decide_eq_true_eq];exact b2
end Go.Via
namespace Go.Via
open Go
def inR(i:Iv)(t:Rl):Bool:=(decide (bH i.f t<0)||decide (bH i.f t=0)&& !i.fo)&&(decide (bH t i.t<0)||decide (bH t i.t=0)&& !i.tp)
def yA(l:List Iv)(t:Rl):Bool:=l.any fun i=>inR i t
def yB(l:List Iv)(a b:Rl):Bool:=l.any fun i=>decide (bH i.f a<=0)&&decide (bH b i.t<=0)
def dS(l:List Iv):List ru:=l.flatMap fun i=>[i.b,i.e]
def gK(l:List Iv):List Rl:=l.flatMap fun i=>[i.f,i.t]
def kw(S:Rl->Prop)(l:List Iv):Prop:=∀i∈l,S i.f∧S i.t
theorem gZ{l:List Iv}{b:ru}:b∈dS l↔∃i∈l,b=i.b∨b=i.e:=by
 unfold dS;rw[List.mem_flatMap];simp
theorem mF{l:List Iv}{x:Rl}:x∈gK l↔∃i∈l,x=i.f∨x=i.t:=by
 unfold gK;rw[List.mem_flatMap];simp
def fD.zero{S:Rl->Prop}{ρ:Rl->Int}(T:fD S ρ){x y:Rl}(hx:S x)(hy:S y):bH x y=0↔ρ x=ρ y:=by
 have h1:=T.lt hx hy;have h2:=T.gt hx hy;rcases ql x y with h|h|h<;>rw[h] at h1 h2 ⊢ <;>simp at h1 h2 ⊢ <;>omega
theorem qec{S:Rl->Prop}{ρ:Rl->Int}(T:fD S ρ){i:Iv}{t:Rl}(hf:S i.f)(ht:S i.t)(h:S t):inR i t=(decide (aY ρ i.b<=aY ρ (t,false))&&decide (aY ρ (t,false)<aY ρ i.e)):=by
 have h1:=T.lt hf h;have h2:=T.lt h ht;have h3:=T.zero hf h;have h4:=T.zero h ht;unfold inR aY Iv.b Iv.e;rw[Bool.eq_iff_iff];simp only[Bool.and_eq_true,Bool.or_eq_true,decide_eq_true_eq,h1,h2,h3,h4];cases i.fo<;>cases i.tp<;>simp<;>omega
theorem Ba{S:Rl->Prop}{ρ:Rl->Int}(T:fD S ρ){l:List Iv}{t:Rl}(hl:kw S l)(h:S t):yA l t=memB ρ l (aY ρ (t,false)):=by
 unfold yA memB
 induction l with
 |nil=>rfl
 |cons i l ih=>
  rw[List.any_cons,List.any_cons,ih (fun x hx=>hl x (List.mem_cons_of_mem _ hx)),qec T (hl i (List.mem_cons_self ..)).1 (hl i (List.mem_cons_self ..)).2 h]
theorem Np{S:Rl->Prop}{ρ:Rl->Int}(T:fD S ρ){l:List Iv}{t u:Rl}(hl:kw S l)(h:S t)(hu:S u)(htu:ρ t<ρ u)(hn:∀x∈gK l,ρ x<=ρ t∨ρ u<=ρ x):yB l t u=memB ρ l (aY ρ (t,true)):=by
 unfold yB memB
 induction l with
 |nil=>rfl
 |cons i l ih=>
  have hi:=hl i (List.mem_cons_self ..);have n1:=hn i.t (mF.2 ⟨i,List.mem_cons_self ..,.inr rfl⟩);rw[List.any_cons,List.any_cons,ih (fun x hx=>hl x (List.mem_cons_of_mem _ hx)) (fun x hx=>by
 obtain⟨j,hj,e⟩:=mF.1 hx;exact hn x (mF.2 ⟨j,List.mem_cons_of_mem _ hj,e⟩))]
  congr 1
  have h1:=T.gt hi.1 h;have h2:=T.gt hu hi.2;unfold aY Iv.b Iv.e;rw[Bool.eq_iff_iff];simp only[Bool.and_eq_true,decide_eq_true_eq];have e1:bH i.f t<=0↔ρ i.f<=ρ t:=(by omega);have e2:bH u i.t<=0↔ρ u<=ρ i.t:=(by omega);rw[e1,e2];cases i.fo<;>cases i.tp<;>simp<;>omega
theorem Bc{ρ:Rl->Int}{l:List Iv}{k1 k2:Int}(h:k1<=k2)(hn:∀b∈dS l,¬(k1<aY ρ b∧aY ρ b<=k2)):memB ρ l k1=memB ρ l k2:=by
 unfold memB
 induction l with
 |nil=>rfl
 |cons i l ih=>
  have n1:=hn i.b (gZ.2 ⟨i,List.mem_cons_self ..,.inl rfl⟩);have n2:=hn i.e (gZ.2 ⟨i,List.mem_cons_self ..,.inr rfl⟩);rw[List.any_cons,List.any_cons,ih fun b hb=>by
 obtain⟨j,hj,e⟩:=gZ.1 hb;exact hn b (gZ.2 ⟨j,List.mem_cons_of_mem _ hj,e⟩)]
  congr 1
  rw[Bool.eq_iff_iff];simp only[Bool.and_eq_true,decide_eq_true_eq];omega
theorem Et{ρ:Rl->Int}{l:List Iv}{k:Int}(hn:∀b∈dS l,k<aY ρ b):memB ρ l k=false:=by
 unfold memB;rw[List.any_eq_false];intro i hi;have:=hn i.b (gZ.2 ⟨i,hi,.inl rfl⟩);simp only[Bool.and_eq_true,decide_eq_true_eq];omega
theorem Be{ρ:Rl->Int}{l:List Iv}{k:Int}(hn:∀b∈dS l,aY ρ b<=k):memB ρ l k=false:=by
 unfold memB;rw[List.any_eq_false];intro i hi;have:=hn i.e (gZ.2 ⟨i,hi,.inr rfl⟩);simp only[Bool.and_eq_true,decide_eq_true_eq];omega
def qaQ{ρ:Rl->Int}{G:Int->Bool}{p:ru->Bool}{B:List ru}(hp:∀b,p b=true↔b∈B)(HG:∀k1 k2,k1<=k2->(∀b∈B,¬(k1<aY ρ b∧aY ρ b<=k2))->G k1=G k2):
 ∀{C:List ru} {lo:Int},C.Pairwise (fun a b=>aY ρ a<aY ρ b)->(∀c∈C,lo<aY ρ c)->(∀b∈B,aY ρ b<=lo∨b∈C)->Chk (fun c=>G (aY ρ c)) p (G lo) C
 |[],_,_,_,_=>trivial
 |c::cs,lo,hs,hlo,hB=>by
  obtain⟨s1,s2⟩:=List.pairwise_cons.1 hs;have hc:=hlo c (List.mem_cons_self ..);refine⟨?_,qaQ hp HG s2 (fun x hx=>s1 x hx) fun b hb=>?_⟩
  ·by_cases hpc:p c=true
   ·exact .inl hpc
   ·refine .inr (HG lo (aY ρ c) (by omega) fun b hb hk=>?_).symm
    rcases hB b hb with h|h
    ·omega
    ·rcases List.mem_cons.1 h with h|h
     ·subst h;exact hpc ((hp b).2 hb)
     ·have:=s1 b h;omega
  ·rcases hB b hb with h|h
   ·exact .inl (by omega)
   ·rcases List.mem_cons.1 h with h|h
    ·subst h;exact .inl (Int.le_refl _)
    ·exact .inr h
theorem qp:∀{ts:List Rl} {b:ru},b∈oG ts↔b.1∈ts
 |[],b=>by simp[oG]
 |t::ts,(x,c)=>by
  unfold oG;rw[List.mem_cons,List.mem_cons,qp (ts:=ts),List.mem_cons];dsimp only
  constructor
  ·rintro(h|h|h)
   ·cases h;exact .inl rfl
   ·cases h;exact .inl rfl
   ·exact .inr h
  ·rintro(h|h)
   ·subst h;cases c;exact .inl rfl;exact .inr (.inl rfl)
   ·exact .inr (.inr h)
def yg{ρ:Rl->Int}:∀{ts:List Rl},ts.Pairwise (fun a b=>ρ a<ρ b)->(oG ts).Pairwise (fun a b=>aY ρ a<aY ρ b)
 |[],_=>List.Pairwise.nil
 |t::ts,h=>by
  obtain⟨h1,h2⟩:=List.pairwise_cons.1 h;unfold oG;refine List.pairwise_cons.2 ⟨fun b hb=>?_,List.pairwise_cons.2 ⟨fun b hb=>?_,yg h2⟩⟩
  ·rcases List.mem_cons.1 hb with e|e
   ·subst e;unfold aY;simp;omega
   ·have:=h1 b.1 (qp.1 e);unfold aY;simp;split<;>omega
  ·have:=h1 b.1 (qp.1 hb);unfold aY;simp;split<;>omega
theorem O6{S:Rl->Prop}{ρ:Rl->Int}(T:fD S ρ){op:Bool->Bool->Bool}(h0:op false false=false){a b:List Iv}(ha:kw S a)(hb:kw S b):
 ∀{ts pre:List Rl},(∀t∈ts,S t)->ts.Pairwise (fun x y=>ρ x<ρ y)->(∀x∈gK a++gK b,x∈ts∨∀t∈ts,ρ x<ρ t)->(∀i∈a++b,S i.f)->
 qgZ (fun t=>op (yA a t) (yA b t)) (fun t u=>op (yB a t u) (yB b t u)) (fun c=>op (memB ρ a (aY ρ c)) (memB ρ b (aY ρ c))) ts
 |[],_,_,_,_,_=>trivial
 |[t],_,hS,hs,he,hf=>by
  have ht:=hS t (List.mem_cons_self ..);refine⟨by dsimp only;rw[Ba T ha ht,Ba T hb ht],?_⟩;have hi:∀l:List Iv,(∀x∈gK l,x∈[t]∨∀u∈[t],ρ x<ρ u)->∀c∈dS l,aY ρ c<=aY ρ (t,true):=fun l hl c hc=>by
   obtain⟨i,hi,e⟩:=gZ.1 hc;have hx:c.1∈gK l:=mF.2 ⟨i,hi,by rcases e with e|e<;>subst e;exact .inl rfl;exact .inr rfl⟩
   have:ρ c.1<=ρ t:=by
    rcases hl c.1 hx with h|h
    ·rw[List.mem_singleton] at h;rw[h];exact Int.le_refl _
    ·have:=h t (List.mem_cons_self ..);omega
   unfold aY;simp;split<;>omega
  dsimp only;rw[Be (hi a fun x hx=>he x (List.mem_append_left _ hx)),Be (hi b fun x hx=>he x (List.mem_append_right _ hx)),h0]
 |t::u::ts,pre,hS,hs,he,hf=>by
  obtain⟨s1,s2⟩:=List.pairwise_cons.1 hs;have ht:=hS t (List.mem_cons_self ..);have hu:=hS u (List.mem_cons_of_mem _ (List.mem_cons_self ..));have htu:=s1 u (List.mem_cons_self ..);have hn:∀x∈gK a++gK b,ρ x<=ρ t∨ρ u<=ρ x:=fun x hx=>by
   rcases he x hx with h|h
   ·rcases List.mem_cons.1 h with h|h
    ·rw[h];exact .inl (Int.le_refl _)
    ·rcases List.mem_cons.1 h with h|h
     ·rw[h];exact .inr (Int.le_refl _)
     ·have:=(List.pairwise_cons.1 s2).1 x h;exact .inr (by omega)
   ·have:=h t (List.mem_cons_self ..);exact .inl (by omega)
  refine⟨by dsimp only;rw[Ba T ha ht,Ba T hb ht],?_,O6 T h0 ha hb (pre:=pre) (fun x hx=>hS x (List.mem_cons_of_mem _ hx)) s2 (fun x hx=>?_) hf⟩
  ·dsimp only;rw[Np T ha ht hu htu fun x hx=>hn x (List.mem_append_left _ hx),Np T hb ht hu htu fun x hx=>hn x (List.mem_append_right _ hx)]
  ·rcases he x hx with h|h
   ·rcases List.mem_cons.1 h with h|h
    ·right;intro y hy;rw[h];exact s1 y hy
    ·exact .inl h
   ·exact .inr fun y hy=>h y (List.mem_cons_of_mem _ hy)
theorem UG{S:Rl->Prop}{ρ:Rl->Int}(T:fD S ρ){op:Bool->Bool->Bool}(h0:op false false=false){a b:List Iv}(ha:kw S a)(hb:kw S b)(oa:F7 ρ a)(ob:F7 ρ b)
 {ends:List Rl}(hs:ends.Pairwise (fun x y=>ρ x<ρ y))(he:∀x,x∈ends↔x∈gK a++gK b)
 {l:List (ru×Int×Int)}(hp:l.Perm (BK a++Hy b))(hl:l.Pairwise (fun x y=>aY ρ x.1<=aY ρ y.1)):
 KW (aY ρ) op l 0 0 none=Nk (fun t=>op (yA a t) (yA b t)) (fun t u=>op (yB a t u) (yB b t u)) none ends:=by
 have hES:∀x∈gK a++gK b,S x:=fun x hx=>by
  rcases List.mem_append.1 hx with h|h
  ·obtain⟨i,hi,e⟩:=mF.1 h;rcases e with e|e<;>subst e;exact(ha i hi).1;exact(ha i hi).2
  ·obtain⟨i,hi,e⟩:=mF.1 h;rcases e with e|e<;>subst e;exact(hb i hi).1;exact(hb i hi).2
 have hS:∀t∈ends,S t:=fun t ht=>hES t ((he t).1 ht)
 rw[qeb oa ob hp hl,Es (O6 T h0 ha hb (pre:=[]) hS hs (fun x hx=> .inl ((he x).2 hx)) (fun i hi=>by
 rcases List.mem_append.1 hi with h|h;exact(ha i h).1;exact(hb i h).1))]
 have hsc:=yg (ρ:=ρ) hs;have hmB:∀b':ru,b'∈dS a++dS b->b'∈oG ends:=fun b' h=>by
  refine qp.2 ((he _).2 ?_);rcases List.mem_append.1 h with h|h
  ·obtain⟨i,hi,e⟩:=gZ.1 h;refine List.mem_append_left _ (mF.2 ⟨i,hi,?_⟩);rcases e with e|e<;>subst e;exact .inl rfl;exact .inr rfl
  ·obtain⟨i,hi,e⟩:=gZ.1 h;refine List.mem_append_right _ (mF.2 ⟨i,hi,?_⟩);rcases e with e|e<;>subst e;exact .inl rfl;exact .inr rfl
 obtain⟨lo,hlo⟩:∃lo:Int,∀c∈oG ends,lo<aY ρ c:=by
  generalize oG ends=C
  clear hmB hsc
  induction C with
  |nil=>exact⟨0,fun c hc=>absurd hc (by simp)⟩
  |cons c C ih=>
   obtain⟨lo,h⟩:=ih;refine⟨min lo (aY ρ c-1),fun x hx=>?_⟩
   rcases List.mem_cons.1 hx with e|e
   ·subst e;omega
   ·have:=h x e;omega
 have hG0:op (memB ρ a lo) (memB ρ b lo)=false:=by
  rw[Et fun c hc=>hlo c (hmB c (List.mem_append_left _ hc)),Et fun c hc=>hlo c (hmB c (List.mem_append_right _ hc)),h0]
 have hchk:=qaQ (ρ:=ρ) (G:=fun k=>op (memB ρ a k) (memB ρ b k)) (p:=fun c=>decide (c∈dS a++dS b)) (B:=dS a++dS b) (fun c=>by rw[decide_eq_true_eq]) (fun k1 k2 hk hn=>by
 rw[Bc hk fun c hc=>hn c (List.mem_append_left _ hc),Bc (l:=b) hk fun c hc=>hn c (List.mem_append_right _ hc)]) (lo:=lo) hsc hlo (fun c hc=> .inr (hmB c hc))
 rw[hG0] at hchk;rw[qo (st:=none) hchk]
 congr 1
 refine CS (κ:=aY ρ) ?_ ?_ fun c=>?_
 ·exact F6 (List.pairwise_map.2 hl)
 ·exact hsc.filter _
 ·have hev:∀c:ru,c∈(BK a++Hy b).map (·.1)↔c∈dS a++dS b:=fun c=>by
   rw[List.map_append,List.mem_append,List.mem_append];have e1:∀m:List Iv,c∈(BK m).map (·.1)↔c∈dS m:=fun m=>by
    unfold BK dS;rw[List.map_flatMap];rfl
   have e2:∀m:List Iv,c∈(Hy m).map (·.1)↔c∈dS m:=fun m=>by
    unfold Hy dS;rw[List.map_flatMap];rfl
   rw[e1,e2]
  have hlm:c∈l.map (·.1)↔c∈dS a++dS b:=(by rw[<-hev];exact(hp.map _).mem_iff);rw[List.mem_filter,decide_eq_true_eq]
  constructor
  ·intro h;have h1:=hlm.1 (wS h);exact⟨hmB c h1,h1⟩
  ·intro h;refine AZ (fun x hx y hy e=>?_) (hlm.2 h.2);have m1:S x.1:=hS _ (qp.1 (hmB x (by rw[<-hev];exact(hp.map _).mem_iff.1 hx)));have m2:S y.1:=hS _ (qp.1 (hmB y (by rw[<-hev];exact(hp.map _).mem_iff.1 hy)));exact Wv T m1 m2 e
end Go.Via
namespace Go.Via
open Go
def Eu:Nat->Nat->Nat
 |0,_=>0
 |k+1,n=>let s:=2*Eu k (n/4);if(s+1)*(s+1)<=n then s+1 else s
def bM(n:Nat):Nat:=Eu (n.log2+1) n
def JP:∀(k n:Nat),n<4^k->Eu k n*Eu k n<=n∧n<(Eu k n+1)*(Eu k n+1)
 |0,n,h=>by simp at h;subst h;simp[Eu]
 |k+1,n,h=>by
  have ih:=JP k (n/4) (by rw[Nat.pow_succ] at h;omega);unfold Eu
  generalize Eu k (n/4)=s at ih ⊢
  dsimp only;obtain⟨h1,h2⟩:=ih;have e1:(2*s)*(2*s)=4*(s*s):=by grind
  have e2:(2*s+1+1)*(2*s+1+1)=4*((s+1)*(s+1)):=by grind
  split
  ·rename_i h3
   refine⟨h3,?_⟩;rw[e2];omega
  ·rename_i h3
   rw[e1];refine⟨by omega,by omega⟩
def JQ(n:Nat):bM n*bM n<=n∧n<(bM n+1)*(bM n+1):=by
 refine JP _ n ?_;have h:n<2^(n.log2+1):=Nat.lt_log2_self;exact Nat.lt_of_lt_of_le h (Nat.pow_le_pow_left (by decide) _)
def UH{a b:Nat}(h:a*a<b*b):a<b:=by
 refine Nat.lt_of_not_le fun h1=>?_
 have:=Nat.mul_le_mul h1 h1;omega
def CU{n k:Nat}(h1:k*k<=n)(h2:n<(k+1)*(k+1)):bM n=k:=by
 obtain⟨a,b⟩:=JQ n;have c1:=UH (Nat.lt_of_le_of_lt a h2);have c2:=UH (Nat.lt_of_le_of_lt h1 b);omega
theorem Rf(k:Nat):bM (k*k)=k:=CU (Nat.le_refl _) (by
 have:(k+1)*(k+1)=k*k+2*k+1:=(by grind);omega)
def Ym{a x:Nat}(hx:0<x):a<((x+a/x)/2+1)*((x+a/x)/2+1):=by
 generalize hq:a/x=q
 generalize hm:(x+q)/2=m
 have h1:a<x*(q+1):=by
  have:=Nat.lt_mul_div_succ a hx;rw[hq] at this;exact this
 have h2:x+q+1<=2*m+2:=by omega
 have h3:4*(x*(q+1))<=(x+(q+1))*(x+(q+1)):=by
  rcases Nat.le_total x (q+1) with h|h
  ·obtain⟨d,e⟩:=Nat.exists_eq_add_of_le h;rw[e];have:=Nat.zero_le (d*d);grind
  ·obtain⟨d,e⟩:=Nat.exists_eq_add_of_le h;rw[e];have:=Nat.zero_le (d*d);grind
 have h4:=Nat.mul_le_mul h2 h2;have e:(2*m+2)*(2*m+2)=4*((m+1)*(m+1)):=(by grind);have e2:x+(q+1)=x+q+1:=(by omega);rw[e2] at h3;omega
def UI{a x:Nat}(hx:0<x)(h:a<(x+1)*(x+1))(hn:x<=(x+a/x)/2):bM a=x:=by
 refine CU ?_ h;have h1:x<=a/x:=by omega
 exact(Nat.le_div_iff_mul_le hx).1 h1
def UJ{a x:Nat}(ha:0<a)(hx:0<x):0<(x+a/x)/2:=by
 by_cases h:x=1
 ·subst h;rw[Nat.div_one];omega
 ·generalize a/x=q
  omega
def qw(q:Rat):Bool:=decide (0<=q.num)&&(bM q.num.natAbs*bM q.num.natAbs==q.num.natAbs)&&(bM q.den*bM q.den==q.den)
def fP(q:Rat):Rat:=Rat.divInt (bM q.num.natAbs) (bM q.den)
theorem Ew:qw 0=true:=by decide+kernel
theorem CV:fP 0=0:=by decide+kernel
structure Qd where
 c0:Rat
 c1:Rat
 c2:Rat
deriving DecidableEq
def ry(f:Qd)(t:Rat):Rat:=f.c0+t*(f.c1+t*f.c2)
def xE(f:Qd)(t:Rat):Rat:=f.c1+(f.c2+f.c2)*t
def mkR(p q r:Rat):Rl:=if qw r=true then rl (p+q*fP r) else⟨p,q*q*r,decide (cO q<0)⟩
def F8(f:Qd)(t:Rl):Rl:=mkR (ry f t.p+f.c2*t.r) (if t.n=true then-xE f t.p else xE f t.p) t.r
theorem yh(f:Qd)(q:Rat):F8 f (rl q)=rl (ry f q):=by
 unfold F8 mkR rl;dsimp only;rw[Ew,if_pos rfl,CV];have e:ry f q+f.c2*0+(if false=true then-xE f q else xE f q)*0=ry f q:=by grind
 rw[e]
def Rl.ok(x:Rl):Prop:=(x.r=0∧x.n=false)∨(0<x.r∧qw x.r=false)
theorem UK(x:Rat):qw (x*x)=true:=by
 have hg:Nat.gcd (x.num*x.num).natAbs (x.den*x.den)=1:=by
  rw[Int.natAbs_mul];exact Nat.Coprime.mul_left (Nat.Coprime.mul_right x.reduced x.reduced) (Nat.Coprime.mul_right x.reduced x.reduced)
 have e:x*x=⟨x.num*x.num,x.den*x.den,Nat.mul_ne_zero x.den_nz x.den_nz,hg⟩:=by
  rw[Rat.mul_def];exact(Rat.mk_eq_normalize _ _ (Nat.mul_ne_zero x.den_nz x.den_nz) hg).symm
 rw[e];unfold qw;dsimp only;rw[Int.natAbs_mul,Rf,Rf];have:0<=x.num*x.num:=by
  rcases Int.le_total 0 x.num with h|h
  ·exact Int.mul_nonneg h h
  ·exact Int.mul_nonneg_of_nonpos_of_nonpos h h
 simp[this]
def qfC(q:Rat):(rl q).ok:= .inl ⟨rfl,rfl⟩
def Rl.ok.r0{x:Rl}(h:x.ok):0<=x.r:=by rcases h with h|h<;>grind
theorem Rl.ok.rat{x:Rl}(h:x.ok)(h0:x.r=0):x=rl x.p:=by
 rcases h with h|h
 ·cases x;simp only[rl] at*;obtain⟨h1,h2⟩:=h;subst h1;subst h2;rfl
 ·grind
theorem Rh{f:Qd}{t:Rl}(h:t.ok)(h0:t.r≠0):F8 f t=⟨ry f t.p+f.c2*t.r,xE f t.p*xE f t.p*t.r,decide (cO (jA t*xE f t.p)<0)⟩:=by
 unfold F8 mkR;have hs:qw t.r=false:=by rcases h with h|h;exact absurd h.1 h0;exact h.2
 rw[hs,if_neg (by decide)];unfold jA;cases t.n
 ·simp only[Bool.false_eq_true,if_false];rw[Rat.one_mul]
 ·simp only[if_true];have e1: -xE f t.p* -xE f t.p=xE f t.p*xE f t.p:=by grind
  have e2: -1*xE f t.p= -xE f t.p:=(by grind);rw[e1,e2]
theorem UL{x:Rl}{q:Rat}(hx:0<=x.r):bH x (rl q)<=0↔nn x.r (q-x.p) (-jA x):=by
 rw[Eo,qgY hx];have: -(x.p-q)=q-x.p:=by grind
 rw[this]
theorem IE{x:Rl}{q:Rat}(hx:0<=x.r):bH (rl q) x<=0↔nn x.r (x.p-q) (jA x):=by
 rw[ni,Eo];rw[<-qgX (a:=x.p-q) (b:=jA x) hx];omega
theorem qi4{r u s:Rat}{n:Bool}(hn:n=decide (cO s<0)):nn (s*s*r) u (if n=true then 1 else-1)↔nn r u (-s):=by
 subst hn;unfold nn;rcases dO s with⟨h,e⟩|⟨h,e⟩|⟨h,e⟩<;>rw[e]
 ·rw[if_neg (by decide)];grind
 ·rw[if_pos (by decide)];grind
 ·subst h;rw[if_neg (by decide)];have e1: -(0:Rat)* -0*r=0:=by grind
  have e2:(0:Rat)*0*r=0:=(by grind);have e3:(-1:Rat)* -1*(0*0*r)=0:=(by grind);rw[e1,e3];have hu:u*u<=0->u=0:=fun h=>by
   have:=pF u;rcases Rat.mul_eq_zero.1 (show u*u=0 by grind) with h|h<;>exact h
  have hp:=pF u
  constructor
  ·rintro(h|h)
   ·exact .inl h
   ·exact absurd h.1 (by grind)
  ·rintro(h|h)
   ·exact .inl h
   ·exact .inl ⟨by rw[hu h.2];grind,hp⟩
theorem qg0{f:Qd}{t:Rl}{M:Rat}(h:t.ok)(h0:t.r≠0):bH (F8 f t) (rl M)<=0↔nn t.r (M-(ry f t.p+f.c2*t.r)) (-(jA t*xE f t.p)):=by
 rw[Rh h h0,UL]
 ·unfold jA;dsimp only;have e:xE f t.p*xE f t.p*t.r=((if t.n=true then-1 else 1)*xE f t.p)*((if t.n=true then-1 else 1)*xE f t.p)*t.r:=by split<;>grind
  rw[e,<-qi4 (s:=((if t.n=true then-1 else 1)*xE f t.p)) rfl]
  generalize(if t.n=true then(-1:Rat) else 1)*xE f t.p=s
  have e3: -(if decide (cO s<0)=true then(-1:Rat) else 1)=if decide (cO s<0)=true then 1 else-1:=by split<;>grind
  rw[e3]
 ·dsimp only;exact fE (pF _) h.r0
def qg1{f:Qd}{t:Rl}{a b M:Rat}(h:t.ok)(h2:0<=f.c2)(ha:bH (rl a) t<=0)(hb:bH t (rl b)<=0)(fa:ry f a<=M)(fb:ry f b<=M):bH (F8 f t) (rl M)<=0:=by
 by_cases h0:t.r=0
 ·have e:=h.rat h0;rw[e] at ha hb ⊢;rw[oV,VI] at ha hb;rw[yh,oV,VI]
  generalize t.p=x at*
  refine Rat.not_lt.1 fun hl=>?_
  have p1:=fE h2 (fE (show 0<=x-a by grind) (show 0<=b-x by grind));unfold ry at*
  by_cases hab:a=b
  ·have:x=a:=by grind
   subst this;grind
  ·have d:0<b-a:=by grind
   have q1:=fE (show 0<=x-a by grind) (show 0<=M-(f.c0+b*(f.c1+b*f.c2)) by grind);have q2:=fE (show 0<=b-x by grind) (show 0<=M-(f.c0+a*(f.c1+a*f.c2)) by grind);have q3:=pO d (show 0<(f.c0+x*(f.c1+x*f.c2))-M by grind);have q4:=fE (show 0<=b-a by grind) p1
   grind
 ·have hr:=h.r0;rw[qg0 h h0];rw[IE hr] at ha;rw[UL hr] at hb;have hab:0<b-a:=by
   have s:=O0 hr ha hb;have e1:t.p-a+(b-t.p)=b-a:=(by grind);have e2:jA t+ -jA t=0:=(by grind);rw[e1,e2] at s;have hge:0<=b-a:=by
    rcases s with s|s
    ·exact s.1
    ·have:(b-a)*(b-a)<=0*0:=by grind
     have:=Em (show(0:Rat)<=0 by grind) this
     grind
   by_cases hz:b=a
   ·exfalso
    subst hz;have hf:=F5 t;have e:t.r=(t.p-b)*(t.p-b):=by
     unfold nn at ha hb;have g1:jA t*jA t*t.r=t.r:=by rw[hf];grind
     have g2: -jA t* -jA t*t.r=t.r:=(by grind);rw[g1] at ha;rw[g2] at hb;rcases dO (t.p-b) with⟨g,_⟩|⟨g,_⟩|⟨g,_⟩<;>rcases ha with ha|ha<;>rcases hb with hb|hb<;>grind
    have hs:qw t.r=false:=by rcases h with h|h;exact absurd h.1 h0;exact h.2
    rw[e,UK] at hs;cases hs
   ·grind
  have m1:=qaM hr ha hb;have m2:=zI hr h2 m1;have m3:=zI hr (show 0<=M-ry f b by grind) ha;have m4:=zI hr (show 0<=M-ry f a by grind) hb;have m5:=zI hr (show 0<=b-a by grind) m2;have m6:=O0 hr (O0 hr m3 m4) m5;have hc:(0:Rat)<=(b-a)⁻¹:=by
   have:=Rat.inv_pos.2 hab
   grind
  have m7:=zI hr hc m6;have hf:=F5 t;have hi:(b-a)⁻¹*(b-a)=1:=Rat.inv_mul_cancel _ (by grind);unfold ry xE at*;have e1:(b-a)⁻¹*((M-(f.c0+b*(f.c1+b*f.c2)))*(t.p-a)+(M-(f.c0+a*(f.c1+a*f.c2)))*(b-t.p)+(b-a)*(f.c2*((t.p-a)*(b-t.p)+jA t* -jA t*t.r)))=M-(f.c0+t.p*(f.c1+t.p*f.c2)+f.c2*t.r):=by
   grind
  have e2:(b-a)⁻¹*((M-(f.c0+b*(f.c1+b*f.c2)))*jA t+(M-(f.c0+a*(f.c1+a*f.c2)))* -jA t+(b-a)*(f.c2*((t.p-a)* -jA t+(b-t.p)*jA t)))= -(jA t*(f.c1+(f.c2+f.c2)*t.p)):=by
   grind
  rw[e1,e2] at m7;exact m7
end Go.Via
namespace Go.Via
open Go
structure qi5(S:Rl->Prop):Prop where
 swap:∀{x y},S x->S y->bH x y= -bH y x
 trans:∀{x y z},S x->S y->S z->bH x y<0->bH y z<0->bH x z<0
 eq0:∀{x y},S x->S y->bH x y=0->x=y
def GX(E:List Rl)(x:Rl):Int:=((E.filter fun e=>decide (bH e x<0)).length:Nat)
def BL{α:Type}{p q:α->Bool}:∀{l:List α},(∀x∈l,p x=true->q x=true)->(l.filter p).length<=(l.filter q).length
 |[],_=>Nat.le_refl _
 |x::l,h=>by
  have ih:=BL (p:=p) (q:=q) (l:=l) fun y hy=>h y (List.mem_cons_of_mem _ hy)
  have hx:=h x (List.mem_cons_self ..);cases hp:p x
  ·rw[List.filter_cons_of_neg (by rw[hp];decide)];cases hq:q x
   ·rw[List.filter_cons_of_neg (by rw[hq];decide)];exact ih
   ·rw[List.filter_cons_of_pos hq,List.length_cons];omega
  ·rw[List.filter_cons_of_pos hp,List.filter_cons_of_pos (hx hp),List.length_cons,List.length_cons];omega
def BM{α:Type}{p q:α->Bool}:∀{l:List α} {z:α},(∀x∈l,p x=true->q x=true)->z∈l->p z=false->q z=true->(l.filter p).length<(l.filter q).length
 |[],z,_,hz,_,_=>absurd hz (by simp)
 |x::l,z,h,hz,h1,h2=>by
  have hx:=h x (List.mem_cons_self ..);have hl:∀y∈l,p y=true->q y=true:=fun y hy=>h y (List.mem_cons_of_mem _ hy)
  rcases List.mem_cons.1 hz with e|e
  ·subst e;rw[List.filter_cons_of_neg (by rw[h1];decide),List.filter_cons_of_pos h2,List.length_cons];have:=BL hl;omega
  ·have ih:=BM hl e h1 h2;cases hp:p x
   ·rw[List.filter_cons_of_neg (by rw[hp];decide)];cases hq:q x
    ·rw[List.filter_cons_of_neg (by rw[hq];decide)];exact ih
    ·rw[List.filter_cons_of_pos hq,List.length_cons];omega
   ·rw[List.filter_cons_of_pos hp,List.filter_cons_of_pos (hx hp),List.length_cons,List.length_cons];omega
def qed{S:Rl->Prop}(O:qi5 S){E:List Rl}(hE:∀x∈E,S x):fD (fun x=>x∈E) (GX E):=by
 have mono:∀{x y},x∈E->y∈E->bH x y<0->GX E x<GX E y:=fun {x y} hx hy h=>by
  unfold GX;have:=BM (p:=fun e=>decide (bH e x<0)) (q:=fun e=>decide (bH e y<0)) (l:=E) (z:=x) (fun e he h1=>by
 rw[decide_eq_true_eq] at h1 ⊢;exact O.trans (hE e he) (hE x hx) (hE y hy) h1 h) hx (by rw[AY];rfl) (decide_eq_true h)
  omega
 have tri:∀{x y},x∈E->y∈E->bH x y<0∧GX E x<GX E y∨0<bH x y∧GX E y<GX E x∨bH x y=0∧x=y:=fun {x y} hx hy=>by
  have hs:=O.swap (hE x hx) (hE y hy);rcases ql x y with h|h|h
  ·exact .inl ⟨by omega,mono hx hy (by omega)⟩
  ·exact .inr (.inr ⟨h,O.eq0 (hE x hx) (hE y hy) h⟩)
  ·exact .inr (.inl ⟨by omega,mono hy hx (by omega)⟩)
 constructor
 ·intro x y hx hy;rcases tri hx hy with h|h|h
  ·omega
  ·omega
  ·obtain⟨h,e⟩:=h;subst e;omega
 ·intro x y hx hy;rcases tri hx hy with h|h|h
  ·omega
  ·omega
  ·obtain⟨h,e⟩:=h;subst e;omega
 ·intro x y hx hy e;rcases tri hx hy with h|h|h
  ·omega
  ·omega
  ·exact h.2
def WA{m:Rl}(h:m.ok)(h0:m.r≠0)(q:Rat):bH (rl q) m≠0:=fun e=>by
 have hr:=h.r0;have a1:=(IE hr (q:=q)).1 (by omega);have a2:=(UL hr (q:=q)).1 (by have:=ni q m;omega);have hf:=F5 m;have e:m.r=(m.p-q)*(m.p-q):=by
  unfold nn at a1 a2;have g1:jA m*jA m*m.r=m.r:=by rw[hf];grind
  have g2: -jA m* -jA m*m.r=m.r:=(by grind);rw[g1] at a1;rw[g2] at a2;rcases dO (m.p-q) with⟨g,_⟩|⟨g,_⟩|⟨g,_⟩<;>rcases a1 with a1|a1<;>rcases a2 with a2|a2<;>grind
 have hs:qw m.r=false:=by rcases h with h|h;exact absurd h.1 h0;exact h.2
 rw[e,UK] at hs;cases hs
def CW{m:Rl}(h:m.ok){p q:Rat}(hpq:q<=p)(hp:bH (rl p) m<0):bH (rl q) m<0:=by
 by_cases h0:m.r=0
 ·rw[h.rat h0,oV] at hp ⊢;rcases jk p m.p with⟨c,e⟩|⟨c,e⟩|⟨c,e⟩<;>rw[e] at hp
  ·rcases jk q m.p with⟨c',e'⟩|⟨c',e'⟩|⟨c',e'⟩<;>rw[e']
   ·decide
   ·grind
   ·grind
  ·omega
  ·omega
 ·have hr:=h.r0;have h1:=(IE hr (q:=p)).1 (by omega);have h2:=O0 hr h1 (qaN (show 0<=p-q by grind));have e1:m.p-p+(p-q)=m.p-q:=by grind
  have e2:jA m+0=jA m:=(by grind);rw[e1,e2] at h2;have h3:=(IE hr (q:=q)).2 h2;have:=WA h h0 q;omega
def qi6{m:Rl}(h:m.ok):qi5 (fun x=>(∃q,x=rl q)∨x=m):=by
 have eqz:∀{q:Rat},bH (rl q) m=0->rl q=m:=fun {q} e=>by
  by_cases h0:m.r=0
  ·rw[h.rat h0,oV] at e;rw[h.rat h0];rcases jk q m.p with⟨c,e'⟩|⟨c,e'⟩|⟨c,e'⟩<;>rw[e'] at e
   ·omega
   ·omega
   ·rw[c]
  ·exact absurd e (WA h h0 q)
 constructor
 ·rintro x y (⟨p,rfl⟩|rfl) (⟨q,rfl⟩|rfl)
  ·rw[oV,oV];rcases jk p q with⟨c,e⟩|⟨c,e⟩|⟨c,e⟩<;>rcases jk q p with⟨c',e'⟩|⟨c',e'⟩|⟨c',e'⟩<;>rw[e,e']<;>first|rfl|grind
  ·exact ni _ _
  ·rw[ni];omega
  ·rw[AY];rfl
 ·have rr:∀{a b:Rat},bH (rl a) (rl b)<0↔a<b:=fun {a b}=>by
   rw[oV];rcases jk a b with⟨c,e⟩|⟨c,e⟩|⟨c,e⟩<;>rw[e]
   ·exact⟨fun _=>c,fun _=>by decide⟩
   ·exact⟨fun h=>absurd h (by decide),fun h=>by grind⟩
   ·exact⟨fun h=>absurd h (by decide),fun h=>by grind⟩
  rintro x y z (⟨p,rfl⟩|rfl) (⟨q,rfl⟩|rfl) (⟨r,rfl⟩|rfl) h1 h2
  ·rw[rr] at*;grind
  ·rw[rr] at h1;exact CW h (by grind) h2
  ·rw[rr];refine Rat.not_le.1 fun hl=>?_
   have:=CW h hl h1;rw[ni] at this;omega
  ·rw[AY] at h2;omega
  ·rw[rr] at h2
   by_cases hc:bH x (rl r)<0
   ·exact hc
   ·exfalso
    have h3:bH (rl q) x<0:=by
     by_cases hz:bH (rl r) x=0
     ·have:=eqz hz;rw[<-this,rr];exact h2
     ·exact CW h (show q<=r by grind) (by have:=ni r x;omega)
    rw[ni] at h3;omega
  ·rw[ni] at h2;omega
  ·rw[AY] at h1;omega
  ·exact h1
 ·rintro x y (⟨p,rfl⟩|rfl) (⟨q,rfl⟩|rfl) e
  ·rw[oV] at e;rcases jk p q with⟨c,e'⟩|⟨c,e'⟩|⟨c,e'⟩<;>rw[e'] at e
   ·omega
   ·omega
   ·rw[c]
  ·exact eqz e
  ·exact(eqz (by rw[ni];omega)).symm
  ·rfl
end Go.Via
