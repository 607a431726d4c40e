/-
  Part 15 (chapter 32): lemmas, walks. Each theorem states its own conditions.
-/
import GoSem.Core.World
import Derived.MapKept
import Derived.WalkKit
import Derived.WalkSpells
import Derived.WalkLawsBesides
import Derived.Deep.LoopGhost
import Derived.Deep.AppendSrc
import Derived.Laws.BytesArg
import Derived.Laws.CopyRow
import Derived.Laws.AppendOwn
import Derived.Test.YtaffcpfhedadhaaGreatDoorProg
import Derived.Shelf.Strings.Builder1
import Derived.Shelf.Strings.Builder2
import Derived.Shelf.Small.Utf8
import Derived.Shelf.Small.Bits
import Derived.Shelf.Small.Strs
import Derived.Shelf.Small.Wraps
import Derived.Shelf.Strings.BuilderF
import Derived.Shelf.Strconv.Itoa0
import Derived.Shelf.Strings.Search1
import Derived.Shelf.Strings.Prefix
import Derived.Shelf.Strings.Runes
import Derived.Shelf.Strings.AsciiSet
import Derived.Shelf.Bits.Mul64
import Derived.Shelf.Strings.Repeat
import Derived.Shelf.Unicode.DecodeSlow
import Derived.Laws.Externs
import Derived.Lib.ItoaNum
import Derived.Test.YtaffcpfhedadhaaGreatDoorA10
import Derived.Test.YtaffcpfhedadhaaGreatDoorA11
set_option linter.all false
set_option maxRecDepth 20000
set_option maxHeartbeats 20000000
section
variable{P Q:Prop}{T:Type}{R:T->Prop}
def qkZ(h:P:=by
 rw[hP]
 split
 ·rename_i hlt
  have hMN:N+1<=M:=by
   by_cases c:M<=N
   ·have:=Nat.mul_le_mul_left P c;omega
   ·omega
  obtain⟨k,rfl⟩:∃k,M=N+1+k:=⟨M-(N+1),ae⟩;have e:m-n=(m%P+P-n%P)+P*k:=by
   rw[Nat.mul_add,Nat.mul_add] at h1;omega
  rw[e,Nat.add_mul_div_left _ _ hp,Nat.div_eq_of_lt ae];omega
 ·rename_i hge
  have hMN:N<=M:=by
   by_cases c:M<N
   ·have:=Nat.mul_le_mul_left P c;rw[Nat.mul_succ] at this;omega
   ·omega
  obtain⟨k,rfl⟩:∃k,M=N+k:=⟨M-N,ae⟩;have e:m-n=(m%P-n%P)+P*k:=by
   rw[Nat.mul_add] at h1;omega
  rw[e,Nat.add_mul_div_left _ _ hp,Nat.div_eq_of_lt ae];omega):=h
def qea(h:P:=by
 have key:(m%P+P*x<n%P+P*y)↔x<y+(if m%P<n%P then 1 else 0):=by
  rcases Nat.lt_trichotomy x y with c|c|c
  ·have:=Nat.mul_le_mul_left P c;rw[Nat.mul_succ] at this
   constructor<;>intro _<;>omega
  ·subst c;split<;>constructor<;>intro _<;>omega
  ·have:=Nat.mul_le_mul_left P c;rw[Nat.mul_succ] at this
   split<;>constructor<;>intro _<;>omega
 simp only[key]):=h
def qk0(h:P:=by rw[Nat.pow_add,Nat.div_div_eq_div_mul]):=h
def qk1(h:P:=by rw[Nat.div_div_eq_div_mul,Nat.div_div_eq_div_mul,Nat.mul_comm]):=h
end
namespace Go.Via
open Go
def FH{m n:Nat}(h:(decide (nb m<=8)&&decide (nb n<=8))=true):m<18446744073709551616∧n<18446744073709551616∧nb m<=8∧nb n<=8:=by
 simp only[Bool.and_eq_true,decide_eq_true_eq] at h;have h1:=oZ h.1;have h2:=oZ h.2;exact⟨ae,ae,h.1,h.2⟩
def uJ(X Y i:Nat):Nat:=(X%ah^i+Y%ah^i)/ah^i+X/ah^i%ah+Y/ah^i%ah
def uK(X Y i:Nat):Nat:=(X%ah^i+Y%ah^i)/ah^i
def sD(X Y i j:Nat):Nat:=if j<i then(X+Y)/ah^j%ah else X/ah^j%ah
theorem dw(i:Nat):0<ah^i:=Nat.pow_pos ax
def bJ(n:Nat):n%ah<4294967296:=Nat.mod_lt _ ax
def yV(X Y i:Nat):uK X Y i<=1:=by
 unfold uK;have h1:=Nat.mod_lt X (dw i);have h2:=Nat.mod_lt Y (dw i);have:(X%ah^i+Y%ah^i)/ah^i<2:=by rw[Nat.div_lt_iff_lt_mul (dw i)];omega
 omega
theorem qbD(X Y:Nat):uK X Y 0=0:=by simp[uK,Nat.mod_one]
theorem JO(X Y i:Nat):uJ X Y i=uK X Y i+X/ah^i%ah+Y/ah^i%ah:=rfl
def FI(X Y i:Nat):uJ X Y i<8589934592:=by
 have:=yV X Y i;have h1:=bJ (X/ah^i);have h2:=bJ (Y/ah^i);rw[JO];omega
theorem Xc(X Y i:Nat):uJ X Y i/2^32=uK X Y (i+1):=by
 show _/ah=_;unfold uJ uK;rw[Nat.pow_succ,Nat.mod_mul,Nat.mod_mul,<-Nat.div_div_eq_div_mul]
 congr 1
 have e:X%ah^i+ah^i*(X/ah^i%ah)+(Y%ah^i+ah^i*(Y/ah^i%ah))=(X%ah^i+Y%ah^i)+ah^i*(X/ah^i%ah+Y/ah^i%ah):=(by rw[Nat.mul_add];omega);rw[e,Nat.add_mul_div_left _ _ (dw i)];omega
theorem UK(X Y i:Nat):uJ X Y i%4294967296=(X+Y)/ah^i%ah:=by
 show _%ah=_;have e:X+Y=(X%ah^i+Y%ah^i)+ah^i*(X/ah^i+Y/ah^i):=by
  have h1:=Nat.mod_add_div X (ah^i);have h2:=Nat.mod_add_div Y (ah^i);rw[Nat.mul_add];omega
 conv=>rhs;rw[e]
 rw[Nat.add_mul_div_left _ _ (dw i)];unfold uJ
 generalize(X%ah^i+Y%ah^i)/ah^i=c
 generalize X/ah^i=p
 generalize Y/ah^i=q
 rw[Nat.add_assoc,Nat.add_mod,<-Nat.add_mod p q,<-Nat.add_mod]
theorem qbE(X Y i j:Nat):sD X Y (i+1) j=if j=i then uJ X Y i%4294967296 else sD X Y i j:=by
 rw[UK];unfold sD
 by_cases e:j=i
 ·subst e;rw[if_pos ae,if_pos rfl]
 ·rw[if_neg e]
  by_cases c:j<i
  ·rw[if_pos c,if_pos ae]
  ·rw[if_neg c,if_neg ae]
theorem qiF(X Y i:Nat):sD X Y i i=X/ah^i%ah:=by unfold sD;rw[if_neg ae]
theorem yX{Y i:Nat}(h:(ai ah Y).length<=i):Y/ah^i%ah=0:=by
 rw[Nat.div_eq_of_lt (Nat.lt_of_lt_of_le (dM dE Y) (Nat.pow_le_pow_right ax h))];rfl
def Cc(X Y:Nat):NV .u32 (ai ah X)++(NV .u32 (List.replicate ((ai ah X).length+1) 0)).drop (ai ah X).length=NV .u32 (row ((ai ah X).length+1) (sD X Y 0)):=by
 rw[Y3,O1]
 congr 1
 have e:row ((ai ah X).length+1) (sD X Y 0)=row (ai ah X).length (fun j=>X/ah^j%ah)++[0]:=by
  unfold row;rw[List.range_succ,List.map_append]
  congr 1
  simp only[List.map_cons,List.map_nil,sD];rw[if_neg ae,yX (Nat.le_refl _)]
 rw[e,<-Aw dE X]
 congr 1
 simp
theorem FK{X Y:Nat}(h:(ai ah Y).length<=(ai ah X).length):val ah (row ((ai ah X).length+1) (sD X Y ((ai ah X).length+1)))=X+Y:=by
 rw[dh (g:=fun j=>(X+Y)/ah^j%ah) (fun j hj=>by unfold sD;rw[if_pos hj]),pM ah ax,Nat.mod_eq_of_lt]
 have h1:=dM dE X;have h2:=Nat.lt_of_lt_of_le (dM dE Y) (Nat.pow_le_pow_right ax h);rw[Nat.pow_succ];have:ah^(ai ah X).length*2<=ah^(ai ah X).length*ah:=Nat.mul_le_mul_left _ ax;omega
def JP(X Y i j:Nat):sD X Y i j<ah:=by unfold sD;split<;>exact bJ _
def ku{n k:Nat}(h:nb n<=k):(ai ah n).length<=(k+3)/4:=by rw[Fq];omega
def lq(m n i:Nat):Nat:=if m%ah^i<n%ah^i then 1 else 0
def Ec(m n i j:Nat):Nat:=if j<i then(m-n)/ah^j%ah else m/ah^j%ah
theorem qbF(m n:Nat):lq m n 0=0:=by simp[lq,Nat.mod_one]
def yY(m n i:Nat):lq m n i<=1:=by unfold lq;split<;>omega
def ZA{m n i:Nat}(h:n<=m):(m-n)/ah^i+n/ah^i+lq m n i=m/ah^i:=by
 have h1:=Nat.mod_add_div m (ah^i);have h2:=Nat.mod_add_div n (ah^i);have h3:=Nat.mod_lt m (dw i);have h4:=Nat.mod_lt n (dw i);have hp:=dw i
 generalize hP:ah^i=P at*
 generalize m/P=M at*
 generalize n/P=N at*
 unfold lq;exact qkZ
theorem Pm(m n i:Nat):lq m n (i+1)=if m/ah^i%ah<n/ah^i%ah+lq m n i then 1 else 0:=by
 unfold lq;rw[Nat.pow_succ,Nat.mod_mul,Nat.mod_mul];have h3:=Nat.mod_lt m (dw i);have h4:=Nat.mod_lt n (dw i)
 generalize m/ah^i%ah=x
 generalize n/ah^i%ah=y
 generalize hP:ah^i=P at*
 exact qea
def ZB{m n i:Nat}(h:n<=m)(hd:m/ah^i%ah<n/ah^i%ah+lq m n i):m/ah^i%ah+4294967296=(m-n)/ah^i%ah+n/ah^i%ah+lq m n i∧lq m n (i+1)=1:=by
 refine⟨?_,by rw[Pm,if_pos hd]⟩;have h1:=ZA (i:=i) h;have h2:=yY m n i;unfold ah at*;omega
def ZC{m n i:Nat}(h:n<=m)(hd:¬m/ah^i%ah<n/ah^i%ah+lq m n i):m/ah^i%ah=(m-n)/ah^i%ah+n/ah^i%ah+lq m n i∧lq m n (i+1)=0:=by
 refine⟨?_,by rw[Pm,if_neg hd]⟩;have h1:=ZA (i:=i) h;have h2:=yY m n i;unfold ah at*;omega
theorem qbG(m n i j:Nat):Ec m n (i+1) j=if j=i then(m-n)/ah^i%ah else Ec m n i j:=by
 unfold Ec
 by_cases e:j=i
 ·subst e;rw[if_pos ae,if_pos rfl]
 ·rw[if_neg e]
  by_cases c:j<i
  ·rw[if_pos c,if_pos ae]
  ·rw[if_neg c,if_neg ae]
theorem qiG(m n i:Nat):Ec m n i i=m/ah^i%ah:=by unfold Ec;rw[if_neg ae]
def qbH(m n:Nat):NV .u32 (ai ah m)++(NV .u32 (List.replicate (ai ah m).length 0)).drop (ai ah m).length=NV .u32 (row (ai ah m).length (Ec m n 0)):=by
 rw[Y3,O1]
 congr 1
 rw[dh (g:=fun j=>m/ah^j%ah) (fun j _=>by unfold Ec;rw[if_neg ae]),<-Aw dE m];simp
theorem qeb{m n:Nat}(h:n<=m):val ah (row (ai ah m).length (Ec m n (ai ah m).length))=m-n:=by
 rw[dh (g:=fun j=>(m-n)/ah^j%ah) (fun j hj=>by unfold Ec;rw[if_pos hj]),pM ah ax,Nat.mod_eq_of_lt]
 have h1:=dM dE m;omega
def qiH(m n i j:Nat):Ec m n i j<ah:=by unfold Ec;split<;>exact bJ _
def tu(m n i:Nat):Nat:=m%ah^i*n
def CY(m n i k:Nat):Nat:=(tu m n i/ah^i%ah^k+m/ah^i%ah*(n%ah^k))/ah^k
def Hr(m n i k:Nat):Nat:=CY m n i k+tu m n i/ah^(i+k)%ah+m/ah^i%ah*(n/ah^k%ah)
def Jh(m n i k j:Nat):Nat:=if j<i+k then tu m n (i+1)/ah^j%ah else tu m n i/ah^j%ah
def FM(m n i j:Nat):Nat:=tu m n i/ah^j%ah
theorem Pn(m n i:Nat):tu m n (i+1)=tu m n i+ah^i*(m/ah^i%ah*n):=by
 unfold tu;rw[Nat.pow_succ,Nat.mod_mul,Nat.add_mul,Nat.mul_assoc]
theorem Po(m n i:Nat):CY m n i 0=0:=by simp[CY,Nat.mod_one]
def ZE(m n i k:Nat):CY m n i k<ah:=by
 unfold CY;rw[Nat.div_lt_iff_lt_mul (dw k)];have h1:=Nat.mod_lt (tu m n i/ah^i) (dw k);have h2:=Nat.mod_lt n (dw k);have h3:m/ah^i%ah+1<=ah:=Nat.mod_lt _ ax;have h4:(m/ah^i%ah)*(n%ah^k)<=(m/ah^i%ah)*(ah^k):=Nat.mul_le_mul_left _ ae;have h5:(m/ah^i%ah+1)*ah^k<=ah*ah^k:=Nat.mul_le_mul_right _ h3;rw[Nat.add_mul] at h5;omega
def ZF(p q:Nat):p%ah*(q%ah)<=18446744065119617025:=by
 have h1:p%ah<=4294967295:=(by have:=bJ p;omega);have h2:q%ah<=4294967295:=(by have:=bJ q;omega);exact Nat.mul_le_mul h1 h2
def Q3(m n i k:Nat):Hr m n i k<18446744073709551616:=by
 have h1:=ZE m n i k;have h2:=bJ (tu m n i/ah^(i+k));have h3:=ZF (m/ah^i) (n/ah^k);unfold Hr ah at*;omega
theorem AP(V i k:Nat):V/ah^(i+k)=V/ah^i/ah^k:=qk0
theorem Xd(m n i k:Nat):Hr m n i k/2^32=CY m n i (k+1):=by
 show _/ah=_;unfold Hr CY;rw[AP,Nat.pow_succ,Nat.mod_mul,Nat.mod_mul,<-Nat.div_div_eq_div_mul]
 congr 1
 generalize m/ah^i%ah=dd
 generalize tu m n i/ah^i=A
 have e:A%ah^k+ah^k*(A/ah^k%ah)+dd*(n%ah^k+ah^k*(n/ah^k%ah))=(A%ah^k+dd*(n%ah^k))+ah^k*(A/ah^k%ah+dd*(n/ah^k%ah)):=dY;rw[e,Nat.add_mul_div_left _ _ (dw k)];omega
theorem UL(m n i k:Nat):Hr m n i k%4294967296=tu m n (i+1)/ah^(i+k)%ah:=by
 show _%ah=_;unfold Hr CY;rw[AP,AP,Pn,Nat.add_mul_div_left _ _ (dw i)]
 generalize m/ah^i%ah=dd
 generalize tu m n i/ah^i=A
 have e:A+dd*n=(A%ah^k+dd*(n%ah^k))+ah^k*(A/ah^k+dd*(n/ah^k)):=by
  have h1:=Nat.mod_add_div A (ah^k);have h2:=Nat.mod_add_div n (ah^k)
  conv=>lhs;rw[<-h1,<-h2]
  grind
 conv=>rhs;rw[e]
 rw[Nat.add_mul_div_left _ _ (dw k)]
 generalize(A%ah^k+dd*(n%ah^k))/ah^k=c
 generalize A/ah^k=p
 generalize n/ah^k=q
 have e2:∀x y z w:Nat,(x+y%ah+z*(w%ah))%ah=(x+(y+z*w))%ah:=by
  intro x y z w;have h1:=Nat.mod_add_div y ah;have h2:=Nat.mod_add_div w ah;have:x+(y+z*w)=(x+y%ah+z*(w%ah))+ah*(y/ah+z*(w/ah)):=by
   conv=>lhs;rw[<-h1,<-h2]
   grind
  rw[this,Nat.add_mul_mod_self_left]
 exact e2 c p dd q
theorem qiI(m n i k:Nat):Jh m n i k (i+k)=tu m n i/ah^(i+k)%ah:=by unfold Jh;rw[if_neg ae]
theorem qbI(m n i k j:Nat):Jh m n i (k+1) j=if j=i+k then Hr m n i k%4294967296 else Jh m n i k j:=by
 rw[UL];unfold Jh
 by_cases e:j=i+k
 ·subst e;rw[if_pos ae,if_pos rfl]
 ·rw[if_neg e]
  by_cases c:j<i+k
  ·rw[if_pos c,if_pos ae]
  ·rw[if_neg c,if_neg ae]
theorem qbJ(m n i j:Nat):Jh m n i 0 j=FM m n i j:=by
 unfold Jh FM
 split
 ·rename_i h
  rw[Pn];have e0:ah^i=ah^j*(ah*ah^(i-j-1)):=by
   rw[<-Nat.mul_assoc,<-Nat.pow_succ,<-Nat.pow_add,show j+1+(i-j-1)=i by omega]
  have e:ah^i*(m/ah^i%ah*n)=ah^j*(ah*(ah^(i-j-1)*(m/ah^i%ah*n))):=by
   generalize m/ah^i%ah*n=r
   rw[e0,Nat.mul_assoc,Nat.mul_assoc]
  rw[e,Nat.add_mul_div_left _ _ (dw j),Nat.add_mul_mod_self_left]
 ·rfl
theorem JQ(m n i:Nat):tu m n i<ah^(i+(ai ah n).length):=by
 unfold tu;rw[Nat.pow_add];have h1:=Nat.mod_lt m (dw i);have h2:=dM dE n
 calc m%ah^i*n<=ah^i*n:=Nat.mul_le_mul_right _ (by omega)
  _<ah^i*ah^(ai ah n).length:=(Nat.mul_lt_mul_left (dw i)).2 h2
theorem qec(m n i:Nat):CY m n i (ai ah n).length%4294967296=tu m n (i+1)/ah^(i+(ai ah n).length)%ah:=by
 have h:=UL m n i (ai ah n).length;unfold Hr at h;rw[yX (Nat.le_refl _),Nat.div_eq_of_lt (JQ m n i)] at h
 simpa using h
theorem qbK(m n i j:Nat):FM m n (i+1) j=if j=i+(ai ah n).length then CY m n i (ai ah n).length%4294967296 else Jh m n i (ai ah n).length j:=by
 rw[qec];unfold Jh FM
 by_cases e:j=i+(ai ah n).length
 ·subst e;rw[if_pos rfl]
 ·rw[if_neg e]
  by_cases c:j<i+(ai ah n).length
  ·rw[if_pos c]
  ·rw[if_neg c];have h1:ah^(i+(ai ah n).length)<=ah^j:=Nat.pow_le_pow_right ax ae;have h2:ah^(i+1+(ai ah n).length)<=ah^j:=Nat.pow_le_pow_right ax ae;rw[Nat.div_eq_of_lt (Nat.lt_of_lt_of_le (JQ m n i) h1),Nat.div_eq_of_lt (Nat.lt_of_lt_of_le (JQ m n (i+1)) h2)]
theorem qbL(m n j:Nat):FM m n 0 j=0:=by simp[FM,tu,Nat.mod_one]
theorem UM(m n:Nat):val ah (row ((ai ah m).length+(ai ah n).length+1) (FM m n (ai ah m).length))=m*n:=by
 have e:tu m n (ai ah m).length=m*n:=(by unfold tu;rw[Nat.mod_eq_of_lt (dM dE m)]);have h:=JQ m n (ai ah m).length;rw[dh (g:=fun j=>m*n/ah^j%ah) (fun j hj=>by unfold FM;rw[e]),pM ah ax,Nat.mod_eq_of_lt];rw[e] at h;exact Nat.lt_of_lt_of_le h (Nat.pow_le_pow_right ax ae)
def ZG(m n i j:Nat):FM m n i j<ah:=bJ _
def qbM{m n:Nat}(h:((m*n/18446744073709551616:Nat):Int)=0):m*n%18446744073709551616=m*n:=ae
def qed(m n i k:Nat):tu m n i/ah^(i+k)%ah+m/ah^i%ah*(n/ah^k%ah)<18446744073709551616:=by
 have:=Q3 m n i k;unfold Hr at this;omega
def qbN(m n i k:Nat):((CY m n i k:Nat):Int)+((tu m n i/ah^(i+k)%ah+m/ah^i%ah*(n/ah^k%ah):Nat):Int)=((Hr m n i k:Nat):Int):=by
 unfold Hr;rw[<-Int.natCast_add,Nat.add_assoc]
def Q4(m y p j:Nat):Nat:=if j<p then m/ah^j%ah else m/y/ah^j%ah
theorem qiJ(m y q:Nat):Q4 m y (q+1) q=m/ah^q%ah:=by unfold Q4;rw[if_pos ae]
def qee(m q:Nat):m/ah^q=m/ah^(q+1)*ah+m/ah^q%ah:=by
 rw[Nat.pow_succ,<-Nat.div_div_eq_div_mul];have:=Nat.div_add_mod (m/ah^q) ah;rw[Nat.mul_comm] at this;omega
def Ji(m y q:Nat):Nat:=m/ah^(q+1)%y*ah+m/ah^q%ah
def ZH(m y q:Nat)(hy:0<y):m/ah^q=y*(m/ah^(q+1)/y*ah)+Ji m y q:=by
 have h1:=qee m q;have h2:=Nat.div_add_mod (m/ah^(q+1)) y;unfold Ji
 conv=>lhs;rw[h1,<-h2]
 rw[Nat.add_mul,Nat.mul_assoc,Nat.add_assoc]
def Q5(m y q:Nat)(hy:0<y):Ji m y q<y*ah:=by
 unfold Ji;have h1:m/ah^(q+1)%y+1<=y:=Nat.mod_lt _ hy;have h2:m/ah^q%ah<ah:=Nat.mod_lt _ ax;have h3:=Nat.mul_le_mul_right ah h1;rw[Nat.add_mul] at h3;omega
def qbO(m y q:Nat)(hy:0<y)(hy2:y<4294967296):Ji m y q<18446744073709551616:=by
 have h1:=Q5 m y q hy;have h2:y*ah<=4294967295*ah:=Nat.mul_le_mul_right _ ae;have e:(ah:Nat)=4294967296:=rfl;rw[e] at h1 h2;omega
theorem UN(m y q:Nat)(hy:0<y):Ji m y q/y=m/y/ah^q%ah:=by
 have h1:=ZH m y q hy;have h2:Ji m y q/y<ah:=(by rw[Nat.div_lt_iff_lt_mul hy,Nat.mul_comm];exact Q5 m y q hy);have e:m/y/ah^q=m/ah^q/y:=qk1;rw[e,h1,Nat.mul_add_div hy,Nat.mul_comm _ ah,Nat.mul_add_mod,Nat.mod_eq_of_lt h2]
theorem UO(m y q:Nat)(hy:0<y):Ji m y q%y=m/ah^q%y:=by
 have h1:=ZH m y q hy
 conv=>rhs;rw[h1]
 rw[Nat.mul_add_mod]
theorem qbP(m y q j:Nat)(hy:0<y):Q4 m y q j=if j=q then Ji m y q/y%4294967296 else Q4 m y (q+1) j:=by
 rw[UN m y q hy];show _=if j=q then _%ah else _
 rw[Nat.mod_mod];unfold Q4
 by_cases e:j=q
 ·subst e;rw[if_neg ae,if_pos rfl]
 ·rw[if_neg e]
  by_cases c:j<q
  ·rw[if_pos c,if_pos ae]
  ·rw[if_neg c,if_neg ae]
def Xe(m y:Nat):ai ah m=row (ai ah m).length (Q4 m y (ai ah m).length):=by
 conv=>lhs;rw[Aw dE m]
 exact dh fun j hj=>by unfold Q4;rw[if_pos hj]
theorem Xf(m y:Nat):m/ah^(ai ah m).length%y=0:=by
 rw[Nat.div_eq_of_lt (dM dE m)];simp
def qiK(m y j:Nat):Nat:=m/y/ah^j%ah
theorem qef(m y:Nat):val ah (row (ai ah m).length (qiK m y))=m/y:=by
 unfold qiK;rw[pM ah ax,Nat.mod_eq_of_lt];exact Nat.lt_of_le_of_lt (Nat.div_le_self _ _) (dM dE m)
def Q7(m s i:Nat):Nat:=m%ah^i*2^s
def Pq(m s i j:Nat):Nat:=Q7 m s i/ah^j%ah
def Jj(m s i:Nat):Nat:=m/ah^i%ah*2^s
theorem Ll(m s i:Nat):Q7 m s (i+1)=Q7 m s i+ah^i*Jj m s i:=by
 unfold Q7 Jj;rw[Nat.pow_succ,Nat.mod_mul,Nat.add_mul,Nat.mul_assoc]
def yZ{s:Nat}(hs:s<32):2^s<=2147483648:=Nat.pow_le_pow_right (n:=2) ae (show s<=31 by omega)
def qm7(m s i:Nat)(hs:s<32):Jj m s i<18446744073709551616:=by
 unfold Jj;have h1:=bJ (m/ah^i);have h2:=yZ hs;have:m/ah^i%ah*2^s<=4294967295*2147483648:=Nat.mul_le_mul ae h2;omega
def Q8(m s i:Nat):Q7 m s i/ah^i<2^s:=by
 rw[Nat.div_lt_iff_lt_mul (dw i)];unfold Q7;rw[Nat.mul_comm];exact(Nat.mul_lt_mul_left (Nat.pow_pos ae)).2 (Nat.mod_lt _ (dw i))
theorem wK{s:Nat}(hs:s<32):ah=2^s*2^(32-s):=by rw[<-Nat.pow_add,show s+(32-s)=32 by omega];rfl
def ZI(m s i:Nat)(hs:s<32):Jj m s i%4294967296=2^s*(m/ah^i%ah%2^(32-s)):=by
 show _%ah=_;unfold Jj
 conv=>lhs;rw[wK hs]
 rw[Nat.mul_comm _ (2^s),Nat.mul_mod_mul_left]
 congr 1
 rw[<-wK hs]
theorem qeg(m s i:Nat)(hs:s<32):Pq m s i i=Q7 m s i/ah^i:=by
 unfold Pq;have h1:=Q8 m s i;have h2:=yZ hs;exact Nat.mod_eq_of_lt (by unfold ah at*;omega)
def qeh(m s i:Nat)(hs:s<32):Q7 m s i/ah^i+Jj m s i%4294967296<4294967296∧Pq m s (i+1) i=Q7 m s i/ah^i+Jj m s i%4294967296:=by
 have h1:=Q8 m s i;have e:=ZI m s i hs;have h3:m/ah^i%ah%2^(32-s)+1<=2^(32-s):=Nat.mod_lt _ (Nat.pow_pos ae);have h4:=Nat.mul_le_mul_left (2^s) h3;have hB:=wK hs;rw[<-hB,Nat.mul_add] at h4;have hlt:Q7 m s i/ah^i+Jj m s i%4294967296<4294967296:=(by rw[e];unfold ah at*;omega);refine⟨hlt,?_⟩;unfold Pq;rw[Ll,Nat.add_mul_div_left _ _ (dw i)];have:Q7 m s i/ah^i+Jj m s i=(Q7 m s i/ah^i+Jj m s i%ah)+ah*(Jj m s i/ah):=by
  have:=Nat.mod_add_div (Jj m s i) ah;omega
 rw[this,Nat.add_mul_mod_self_left];exact Nat.mod_eq_of_lt hlt
theorem qiL(m s i:Nat)(hs:s<32):Pq m s (i+1) (i+1)=Jj m s i/2^32%4294967296:=by
 have h0:=(qeh m s i hs).1;unfold Pq;rw[Ll,Nat.pow_succ,<-Nat.div_div_eq_div_mul,Nat.add_mul_div_left _ _ (dw i)];have:Q7 m s i/ah^i+Jj m s i=(Q7 m s i/ah^i+Jj m s i%ah)+ah*(Jj m s i/ah):=by
  have:=Nat.mod_add_div (Jj m s i) ah;omega
 have h0':Q7 m s i/ah^i+Jj m s i%ah<ah:=h0;rw[this,Nat.add_mul_div_left _ _ ax,Nat.div_eq_of_lt h0',Nat.zero_add]
 rfl
def qm8(m s i:Nat):Q7 m s i<ah^i*2^s:=(Nat.mul_lt_mul_right (Nat.pow_pos ae)).2 (Nat.mod_lt _ (dw i))
def shM(m s i j:Nat):Nat:=if j=i then Pq m s (i+1) i else Pq m s i j
theorem qei(m s i j:Nat)(hs:s<32):Pq m s (i+1) j=if j=i+1 then Jj m s i/2^32%4294967296 else shM m s i j:=by
 by_cases e:j=i+1
 ·subst e;rw[if_pos rfl,qiL m s i hs]
 ·rw[if_neg e];unfold shM
  by_cases e2:j=i
  ·subst e2;rw[if_pos rfl]
  ·rw[if_neg e2];unfold Pq
   by_cases c:j<i
   ·rw[Ll];have e0:ah^i=ah^j*(ah*ah^(i-j-1)):=by
     rw[<-Nat.mul_assoc,<-Nat.pow_succ,<-Nat.pow_add,show j+1+(i-j-1)=i by omega]
    rw[e0,Nat.mul_assoc,Nat.add_mul_div_left _ _ (dw j),Nat.mul_assoc,Nat.add_mul_mod_self_left]
   ·have h2:=yZ hs;have h3:ah^(i+2)<=ah^j:=Nat.pow_le_pow_right ax ae;have key:∀k,k<=i+1->Q7 m s k/ah^j=0:=fun k hk=>Nat.div_eq_of_lt (by
 have h4:=qm8 m s k;have h5:ah^k*2^s<=ah^(i+1)*ah:=Nat.mul_le_mul (Nat.pow_le_pow_right (by decide) hk) (by unfold ah;omega);rw[<-Nat.pow_succ] at h5;have h6:ah^(i+1).succ=ah^(i+2):=rfl;omega)
    rw[key (i+1) ae,key i ae]
theorem qej(m s j:Nat):Pq m s 0 j=0:=by simp[Pq,Q7,Nat.mod_one]
def Oi(N j:Nat):Nat:=N/ah^j%ah
theorem qiM(m s j:Nat):Pq m s (ai ah m).length j=Oi (m*2^s) j:=by
 unfold Pq Oi Q7;rw[Nat.mod_eq_of_lt (dM dE m)]
def qpE(m s i:Nat)(hs:s<32):IntKind.u32.wrap ((BitVec.ofInt IntKind.u32.bits ((Pq m s i i:Nat):Int)|||BitVec.ofInt IntKind.u32.bits ((Jj m s i%4294967296:Nat):Int)).toNat)=((Pq m s (i+1) i:Nat):Int):=by
 obtain⟨h1,h2⟩:=qeh m s i hs;rw[<-qeg m s i hs] at h1 h2;have e:=ZI m s i hs;rw[e] at h1 h2 ⊢;exact Zt s (by rw[qeg m s i hs];exact Q8 m s i) h2.symm (by rw[h2];exact h1) rfl rfl
end Go.Via
