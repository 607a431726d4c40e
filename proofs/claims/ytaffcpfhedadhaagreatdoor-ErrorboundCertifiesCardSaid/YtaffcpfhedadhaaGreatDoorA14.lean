/-
  Part 14 (chapter 32): lemmas, walks. Each theorem states its own conditions.
-/
import Derived.Test.YtaffcpfhedadhaaGreatDoorA05
import Derived.Test.YtaffcpfhedadhaaGreatDoorA08
import Derived.Test.YtaffcpfhedadhaaGreatDoorA11
import Derived.Test.YtaffcpfhedadhaaGreatDoorA13
set_option linter.all false
set_option maxRecDepth 20000
set_option maxHeartbeats 20000000
namespace Go.Via
open Go
theorem l9(k:Nat):ae^(k+1)=ae^k*ae:=Nat.pow_succ ..
def GOK(Y W L g r:Nat):Prop:=g*(Y/ae^(L-1))+r=W/ae^(L-1)∧r<4294967296∧W/Y<=g∧g<=4294967297
def wJ(V L:Nat)(hL:2<=L):V=(V/ae^(L-1)*ae+V/ae^(L-2)%ae)*ae^(L-2)+V%ae^(L-2):=by
 have h1:=Nat.div_add_mod V (ae^(L-2));have h2:=qam V (L-2);rw[show L-2+1=L-1 by omega] at h2;rw[<-h2,Nat.mul_comm];exact h1.symm
structure CW(Y W L:Nat):Prop where
 hL:2<=L
 lo:ae^L<=2*Y
 hi:Y<ae^L
 w:W<Y*ae
def CW.y1{Y W L:Nat}(h:CW Y W L):2147483648<=Y/ae^(L-1)∧Y/ae^(L-1)<4294967296:=by
 have hp:=cu (L-1);have e:ae^L=ae^(L-1)*ae:=(by rw[<-l9,show L-1+1=L by have:=h.hL;omega]);have h1:=h.lo;have h2:=h.hi;rw[e] at h1 h2;refine⟨?_,?_⟩
 ·rw[Nat.le_div_iff_mul_le hp];have:ae^(L-1)*ae=2*(2147483648*ae^(L-1)):=by unfold ae;omega
  omega
 ·rw[Nat.div_lt_iff_lt_mul hp];rw[Nat.mul_comm] at h2;exact h2
theorem CW.pos{Y W L:Nat}(h:CW Y W L):0<Y:=by have:=h.lo;have:=cu L;omega
def CW.wlt{Y W L:Nat}(h:CW Y W L):W<ae^(L+1):=by
 have:=Nat.mul_le_mul_right ae (Nat.le_of_lt h.hi);rw[l9];exact Nat.lt_of_lt_of_le h.w this
def CW.high{Y W L:Nat}(h:CW Y W L):W/ae^(L-1)<(Y/ae^(L-1)+1)*ae:=by
 refine qdp (B:=ae) (wJ Y L h.hL) (wJ W L h.hL) (Nat.mod_lt _ (cu _)) (Nat.mod_lt _ (by decide)) (by rw[Nat.mul_comm];exact h.w)
def CW.high64{Y W L:Nat}(h:CW Y W L):W/ae^(L-1)<18446744073709551616:=by
 have h1:=h.wlt;rw[Nat.div_lt_iff_lt_mul (cu _)];have:ae^(L+1)=18446744073709551616*ae^(L-1):=by
  rw[show L+1=2+(L-1) by have:=h.hL;omega,Nat.pow_add];rfl
 omega
theorem CW.q{Y W L:Nat}(h:CW Y W L):W/Y<4294967296:=by
 rw[Nat.div_lt_iff_lt_mul h.pos,Nat.mul_comm];exact h.w
def qd9{Y W L:Nat}(h:CW Y W L):GOK Y W L (W/ae^(L-1)/(Y/ae^(L-1))) (W/ae^(L-1)% (Y/ae^(L-1))):=by
 obtain⟨a1,a2⟩:=h.y1;have a3:=Nat.mod_lt (W/ae^(L-1)) (show 0<Y/ae^(L-1) by omega);refine⟨by rw[Nat.mul_comm];exact Nat.div_add_mod _ _,by omega,?_,?_⟩
 ·exact Qp (B:=ae) (cu (L-2)) (wJ Y L h.hL) (wJ W L h.hL) (Nat.mod_lt _ (cu _)) (Nat.mod_lt _ (by decide)) (by omega) h.pos
 ·have h1:=h.high;have:W/ae^(L-1)/(Y/ae^(L-1))<4294967298:=by
   rw[Nat.div_lt_iff_lt_mul (by omega)];unfold ae at*;omega
  omega
def qas{Y W L g r:Nat}(h:CW Y W L)(hg:GOK Y W L g r)(ht:4294967296<=g∨r*2^32+W/ae^(L-2)%ae<g*(Y/ae^(L-2)%ae)):
 W/Y<g:=by
 rcases ht with ht|ht
 ·have:=h.q;omega
 ·exact TQ (B:=ae) (cu (L-2)) (wJ Y L h.hL) (wJ W L h.hL) (Nat.mod_lt _ (cu _)) hg.1 h.pos ht
def qf7{Y W L g r:Nat}(h:CW Y W L)(hg:GOK Y W L g r)(hq:W/Y<g):(g-1)*(Y/ae^(L-1))+(r+Y/ae^(L-1))=W/ae^(L-1):=by
 have h0:0<g:=Nat.lt_of_le_of_lt (Nat.zero_le _) hq;obtain⟨k,rfl⟩:∃k,g=k+1:=⟨g-1,by omega⟩;have:=hg.1;rw[Nat.add_mul] at this;simp only[Nat.add_sub_cancel];omega
def qat{Y W L g r:Nat}(h:CW Y W L)(hg:GOK Y W L g r)(hq:W/Y<g)(hr:r+Y/ae^(L-1)<4294967296):GOK Y W L (g-1) (r+Y/ae^(L-1)):=
 ⟨qf7 h hg hq,hr,by omega,by have:=hg.2.2.2;omega⟩
def qhy{Y W L g r:Nat}(h:CW Y W L)(hg:GOK Y W L g r)(hB:g<4294967296)(ht:g*(Y/ae^(L-2)%ae)<=r*2^32+W/ae^(L-2)%ae):g<=W/Y+1:=by
 obtain⟨a1,a2⟩:=h.y1;exact LZ (B:=ae) (wJ Y L h.hL) (wJ W L h.hL) (Nat.mod_lt _ (cu _)) (by omega) (Nat.mod_lt _ (by decide)) hg.1 h.pos (by unfold ae;omega) (.inl ht)
def qau{Y W L g r:Nat}(h:CW Y W L)(hg:GOK Y W L g r)(hq:W/Y<g)(hr:4294967296<=r+Y/ae^(L-1)):g-1<=W/Y+1:=by
 obtain⟨a1,a2⟩:=h.y1;have:=hg.2.2.2;exact LZ (B:=ae) (wJ Y L h.hL) (wJ W L h.hL) (Nat.mod_lt _ (cu _)) (by omega) (Nat.mod_lt _ (by decide)) (qf7 h hg hq) h.pos (by unfold ae;omega) (.inr hr)
def gC(Y g i:Nat):Nat:=g*(Y%ae^i)/ae^i
def gS(Y g i:Nat):Nat:=gC Y g i+g*(Y/ae^i%ae)
theorem VQ(Y g:Nat):gC Y g 0=0:=by simp[gC,Nat.mod_one]
def MS(Y g i:Nat)(hg:g<=4294967296):gC Y g i<=4294967295:=by
 unfold gC;have h1:=Nat.mod_lt Y (cu i);have:g*(Y%ae^i)/ae^i<4294967296:=by
  rw[Nat.div_lt_iff_lt_mul (cu i)];have h2:g*(Y%ae^i)<=4294967296*(Y%ae^i):=Nat.mul_le_mul_right _ hg;omega
 omega
def VR(Y g i:Nat)(hg:g<=4294967296):gS Y g i<18446744073709551616∧g*(Y/ae^i%ae)<18446744073709551616:=by
 unfold gS;have h1:=MS Y g i hg;have h2:=bf (Y/ae^i);have h3:g*(Y/ae^i%ae)<=4294967296*4294967295:=Nat.mul_le_mul hg (by omega);omega
theorem QN(Y g i:Nat):gS Y g i/2^32=gC Y g (i+1):=by
 show _/ae=_;unfold gS gC;rw[l9,Nat.mod_mul,<-Nat.div_div_eq_div_mul]
 congr 1
 have e:g*(Y%ae^i+ae^i*(Y/ae^i%ae))=g*(Y%ae^i)+ae^i*(g*(Y/ae^i%ae)):=(by grind);rw[e,Nat.add_mul_div_left _ _ (cu i)]
theorem qav(Y g i:Nat):gS Y g i%4294967296=g*Y/ae^i%ae:=by
 show _%ae=_;have e:g*Y=g*(Y%ae^i)+ae^i*(g*(Y/ae^i)):=by
  have h1:=Nat.mod_add_div Y (ae^i)
  conv=>lhs;rw[<-h1]
  grind
 rw[e,Nat.add_mul_div_left _ _ (cu i)];unfold gS gC
 generalize g*(Y%ae^i)/ae^i=c
 generalize Y/ae^i=p
 rw[Nat.add_mod,<-Nat.mul_mod_mod,Nat.mod_mod,Nat.mul_mod_mod,<-Nat.add_mod]
def rf(Y W L g:Nat):Nat:=W+ae^(L+1)-g*Y
def qaw{Y W L g:Nat}(h:CW Y W L)(hg1:g<=W/Y+1):g*Y<=W+ae^(L+1):=by
 have h1:=Nat.mul_le_mul_right Y hg1;have h2:=Nat.div_mul_le_self W Y;rw[Nat.add_mul] at h1;have h3:=h.hi;have h4:ae^L<=ae^(L+1):=Nat.pow_le_pow_right (by decide) (by omega);omega
theorem Jq{W L i:Nat}(hi:i<=L):(W+ae^(L+1))/ae^i%ae=W/ae^i%ae:=by
 have e:ae^(L+1)=ae^i*(ae*ae^(L-i)):=by
  rw[<-Nat.mul_assoc,<-l9,<-Nat.pow_add,show i+1+(L-i)=L+1 by omega]
 rw[e,Nat.add_mul_div_left _ _ (cu i),Nat.add_mul_mod_self_left]
def OX(X W D j i k:Nat):Nat:=if k<j then X/ae^k%ae else if k<j+i then D/ae^(k-j)%ae else W/ae^(k-j)%ae
def OY(X W D j i:Nat):OX X W D j i (i+j)=W/ae^i%ae:=by
 unfold OX;rw[if_neg (by omega),if_neg (by omega),show i+j-j=i by omega]
theorem Jr(X W D j i k:Nat):OX X W D j (i+1) k=if k=i+j then D/ae^i%ae else OX X W D j i k:=by
 unfold OX
 by_cases e:k=i+j
 ·subst e;rw[if_neg (by omega),if_pos (by omega),if_pos rfl,show i+j-j=i by omega]
 ·rw[if_neg e]
  by_cases c:k<j
  ·rw[if_pos c,if_pos c]
  ·rw[if_neg c,if_neg c]
   by_cases c2:k<j+i
   ·rw[if_pos c2,if_pos (by omega)]
   ·rw[if_neg c2,if_neg (by omega)]
def xw(X j V k:Nat):Nat:=if k<j then X/ae^k%ae else V/ae^(k-j)%ae
def dvW(X Y j:Nat):Nat:=X/ae^(j+1)%Y*ae+X/ae^j%ae
def qhz(X Y j:Nat)(hy:0<Y):dvW X Y j<Y*ae:=OU X Y j hy
theorem QO(X Y D j k:Nat):xw X (j+1) (X/ae^(j+1)%Y) k=OX X (dvW X Y j) D j 0 k:=by
 unfold xw OX dvW
 by_cases c:k<j
 ·rw[if_pos (by omega),if_pos c]
 ·rw[if_neg c,if_neg (by omega:¬k<j+0)]
  by_cases e:k=j
  ·subst e;rw[if_pos (by omega),Nat.sub_self,Nat.pow_zero,Nat.div_one,Nat.mul_comm,Nat.mul_add_mod,Nat.mod_mod]
  ·rw[if_neg (by omega)];obtain⟨q,rfl⟩:∃q,k=j+1+q:=⟨k-j-1,by omega⟩;rw[show j+1+q-(j+1)=q by omega,show j+1+q-j=q+1 by omega];have:(X/ae^(j+1)%Y*ae+X/ae^j%ae)/ae=X/ae^(j+1)%Y:=by
    rw[Nat.mul_comm,Nat.mul_add_div (by decide),Nat.div_eq_of_lt (Nat.mod_lt _ (by decide))];omega
   have e2:ae^(q+1)=ae*ae^q:=Nat.pow_succ';rw[e2,<-Nat.div_div_eq_div_mul (X/ae^(j+1)%Y*ae+X/ae^j%ae),this]
def qeb(X Y j:Nat)(hy:0<Y):dvW X Y j/Y=X/Y/ae^j%ae:=QL X Y j hy
def qec(X Y j:Nat)(hy:0<Y):dvW X Y j%Y=X/ae^j%Y:=QM X Y j hy
theorem qax{X Y W L g j k:Nat}(h:CW Y W L)(hg:g=W/Y):OX X W (rf Y W L g) j (L+1) k=xw X j (W%Y) k:=by
 unfold OX xw
 by_cases c:k<j
 ·rw[if_pos c,if_pos c]
 ·rw[if_neg c,if_neg c];have hD:rf Y W L g=W%Y+ae^(L+1):=by
   unfold rf;subst hg;have:=Nat.div_add_mod W Y;rw[Nat.mul_comm] at this;omega
  have hr:=Nat.mod_lt W h.pos
  by_cases c2:k<j+(L+1)
  ·rw[if_pos c2,hD,Jq (by omega)]
  ·rw[if_neg c2];have h1:ae^(L+1)<=ae^(k-j):=Nat.pow_le_pow_right (by decide) (by omega);have h2:=h.wlt;have h3:=h.hi;have h4:ae^L<=ae^(L+1):=Nat.pow_le_pow_right (by decide) (by omega);rw[Nat.div_eq_of_lt (by omega),Nat.div_eq_of_lt (by omega)]
def Ye(X Y W D L j i k:Nat):Nat:=if k<j then X/ae^k%ae else if k<j+i then(D+Y)/ae^(k-j)%ae else if k<j+(L+1) then D/ae^(k-j)%ae else W/ae^(k-j)%ae
def QP(X Y W D L j k:Nat):OX X W D j (L+1) k=Ye X Y W D L j 0 k:=by
 unfold OX Ye
 by_cases c:k<j
 ·rw[if_pos c,if_pos c]
 ·rw[if_neg c,if_neg c,if_neg (by omega:¬k<j+0)]
def qay(X Y W D L j i:Nat)(hi:i<=L):Ye X Y W D L j i (i+j)=D/ae^i%ae:=by
 unfold Ye;rw[if_neg (by omega),if_neg (by omega),if_pos (by omega),show i+j-j=i by omega]
theorem QQ(X Y W D L j i k:Nat):Ye X Y W D L j (i+1) k=if k=i+j then ug D Y i%4294967296 else Ye X Y W D L j i k:=by
 rw[QI];unfold Ye
 by_cases e:k=i+j
 ·subst e;rw[if_neg (by omega),if_pos (by omega),if_pos rfl,show i+j-j=i by omega]
 ·rw[if_neg e]
  by_cases c:k<j
  ·rw[if_pos c,if_pos c]
  ·rw[if_neg c,if_neg c]
   by_cases c2:k<j+i
   ·rw[if_pos c2,if_pos (by omega)]
   ·rw[if_neg c2,if_neg (by omega)]
def qaz{X Y W L g j k:Nat}(h:CW Y W L)(hg:g=W/Y+1):Ye X Y W (rf Y W L g) L j (L+1) k=xw X j (W%Y) k:=by
 have e:rf Y W L g+Y=rf Y W L (W/Y):=by
  have h1:=qaw h (g:=g) (by omega);unfold rf;subst hg;rw[Nat.add_mul] at h1 ⊢;omega
 rw[<-qax (X:=X) (j:=j) (k:=k) h rfl,<-e];unfold Ye OX
 by_cases c:k<j
 ·rw[if_pos c,if_pos c]
 ·rw[if_neg c,if_neg c]
  by_cases c2:k<j+(L+1)
  ·rw[if_pos c2,if_pos c2]
  ·rw[if_neg c2,if_neg c2,if_neg c2]
theorem qhA(D Y L:Nat)(hY:Y<ae^L):(D/ae^L%ae+uh D Y L%4294967296)%4294967296=ug D Y L%4294967296:=by
 rw[yx,show Y/ae^L%ae=0 by rw[Nat.div_eq_of_lt hY];rfl];omega
def qaA{Y W L g:Nat}(h:CW Y W L)(h1:g<=W/Y+1)(h2:W/Y<=g)(hb:jM (W+ae^(L+1)) (g*Y) (L+1)=1):g=W/Y+1:=by
 rcases Nat.lt_or_ge (W/Y) g with c|c
 ·omega
 ·exfalso
  have e:g=W/Y:=(by omega);subst e;unfold jM at hb;have h3:=Nat.div_mul_le_self W Y;have h4:=h.wlt;rw[Nat.add_mod_right,Nat.mod_eq_of_lt h4,Nat.mod_eq_of_lt (by omega),if_neg (by omega)] at hb;cases hb
def qhB{Y W L g:Nat}(h:CW Y W L)(h1:g<=W/Y+1)(h2:W/Y<=g)(hB:g<=4294967296)(hb:jM (W+ae^(L+1)) (g*Y) (L+1)=0):g=W/Y:=by
 rcases Nat.lt_or_ge (W/Y) g with c|c
 ·exfalso
  have e:g=W/Y+1:=(by omega);unfold jM at hb;have h3:=Nat.div_add_mod W Y;have h4:=h.wlt;have h5:=Nat.mod_lt W h.pos;have h6:g*Y<ae^(L+1):=by
   rw[l9,Nat.mul_comm];exact Nat.mul_lt_mul_of_lt_of_le h.hi hB (by decide)
  rw[Nat.add_mod_right,Nat.mod_eq_of_lt h4,Nat.mod_eq_of_lt h6] at hb;have h7:g*Y=Y*(W/Y)+Y:=by rw[e,Nat.add_mul,Nat.mul_comm,Nat.one_mul]
  rw[if_pos (by omega)] at hb;cases hb
 ·omega
theorem VS{Y L g:Nat}(hY:Y<ae^L)(hB:g<=4294967296):gC Y g L=g*Y/ae^L%ae:=by
 have h1:gC Y g L=g*Y/ae^L:=(by unfold gC;rw[Nat.mod_eq_of_lt hY]);have h2:=MS Y g L hB;rw[h1] at h2 ⊢;exact(Nat.mod_eq_of_lt (by unfold ae at*;omega)).symm
def qhC{n:Nat}(h0:n≠0):∃s,s<32∧(32-(Lib.bitLen (n/ae^((ag ae n).length-1)%ae):Int))=((s:Nat):Int)∧ae^(ag ae n).length<=2*(n*2^s)∧n*2^s<ae^(ag ae n).length:=by
 have hlt:=dO dG n;have hl:0<(ag ae n).length:=by
  rcases Nat.eq_zero_or_pos (ag ae n).length with h|h
  ·exact absurd ((vz dG).1 (List.eq_nil_of_length_eq_zero h)) h0
  ·exact h
 generalize hL:(ag ae n).length=L at*
 obtain⟨k,rfl⟩:∃k,L=k+1:=⟨L-1,by omega⟩;simp only[Nat.add_sub_cancel];have hk:ae^k<=n:=by
  rcases Nat.lt_or_ge n (ae^k) with h|h
  ·have:=iE dG h;omega
  ·exact h
 have ht:n/ae^k<ae:=(by rw[Nat.div_lt_iff_lt_mul (cu k),Nat.mul_comm,<-l9];exact hlt);have ht0:0<n/ae^k:=Nat.div_pos hk (cu k);rw[Nat.mod_eq_of_lt ht];obtain⟨b1,b2,b3⟩:=wH (x:=n/ae^k) (Nat.lt_trans ht (by decide)) (by omega);have b4:Lib.bitLen (n/ae^k)<=32:=Lib.bitLen_le _ 32 (by omega) ht
 generalize Lib.bitLen (n/ae^k)=b at*
 refine⟨32-b,by omega,by omega,?_,?_⟩
 ·have h1:2^(b-1)*ae^k<=n:=by
   have:=Nat.mul_le_mul_right (ae^k) b2;exact Nat.le_trans this (Nat.div_mul_le_self _ _)
  have h2:=Nat.mul_le_mul_right (2^(32-b)) h1;have h3:2^(b-1)*ae^k*2^(32-b)*2=ae^(k+1):=by
   have e:2^(b-1)*2^(32-b)*2=ae:=by
    rw[<-Nat.pow_add,<-Nat.pow_succ,show(b-1+(32-b)).succ=32 by omega];rfl
   rw[l9,<-e];grind
  omega
 ·have h1:n<2^b*ae^k:=by
   exact Nat.lt_mul_of_div_lt b3 (cu k)
  have h2:=(Nat.mul_lt_mul_right (a:=2^(32-b)) (Nat.pow_pos (by omega))).2 h1;have h3:2^b*ae^k*2^(32-b)=ae^(k+1):=by
   have e:2^b*2^(32-b)=ae:=(by rw[<-Nat.pow_add,show b+(32-b)=32 by omega];rfl);rw[l9,<-e];grind
  omega
def qed{m n s:Nat}(hs:s<32)(hlen:(ag ae n).length<=(ag ae m).length)(h1:ae^(ag ae n).length<=2*(n*2^s)):m*2^s/ae^((ag ae m).length+1-(ag ae n).length)<n*2^s:=by
 rw[Nat.div_lt_iff_lt_mul (cu _)];have h2:=dO dG m;have h3:=yA hs;have h4:m*2^s<=m*2147483648:=Nat.mul_le_mul_left _ h3;have h5:ae^(ag ae n).length*ae^((ag ae m).length+1-(ag ae n).length)=ae^(ag ae m).length*ae:=by
  rw[<-Nat.pow_add,<-l9];congr 1;omega
 have h6:=Nat.mul_le_mul_right (ae^((ag ae m).length+1-(ag ae n).length)) h1;rw[h5,Nat.mul_assoc] at h6;have h7:ae^(ag ae m).length*ae=2*(2147483648*ae^(ag ae m).length):=(by unfold ae;omega);omega
def qee{X Y M k:Nat}(h:X/ae^M<Y):G5 X k=xw X M (X/ae^M%Y) k:=by
 unfold xw G5;rw[Nat.mod_eq_of_lt h]
 split
 ·rfl
 ·rw[Nat.div_div_eq_div_mul,<-Nat.pow_add,show M+(k-M)=k by omega]
def OZ{X Y W j:Nat}(hW:dvW X Y j=W)(k:Nat):xw X (j+1) (X/ae^(j+1)%Y) (k+j)=W/ae^k%ae:=by
 rw[QO X Y 0 j,hW];unfold OX;rw[if_neg (by omega),if_neg (by omega),show k+j-j=k by omega]
def qf8{X Y W j:Nat}(hW:dvW X Y j=W)(D k:Nat):xw X (j+1) (X/ae^(j+1)%Y) k=OX X W D j 0 k:=by
 rw[QO X Y D j,hW]
def CW.whigh{Y W L:Nat}(h:CW Y W L):2^32*(W/ae^L%ae)+W/ae^(L-1)%ae=W/ae^(L-1):=by
 have h1:=qam W (L-1);rw[show L-1+1=L by have:=h.hL;omega] at h1;have h2:W/ae^L<ae:=(by rw[Nat.div_lt_iff_lt_mul (cu L),Nat.mul_comm,<-l9];exact h.wlt);rw[Nat.mod_eq_of_lt h2,Nat.mul_comm];exact h1.symm
def CW.ytop{Y W L:Nat}(h:CW Y W L):G5 Y (L-1)=Y/ae^(L-1):=by
 unfold G5;exact Nat.mod_eq_of_lt h.y1.2
def qjH{p q:Nat}(hp:p<4294967296)(hq:q<4294967296):p*q<18446744073709551616:=by
 have:p*q<=4294967295*4294967295:=Nat.mul_le_mul (by omega) (by omega);omega
def Js{Y W L g i:Nat}(h:CW Y W L)(hg1:g<=W/Y+1)(hi:i<=L)(hd:W/ae^i%ae<g*Y/ae^i%ae+jM (W+ae^(L+1)) (g*Y) i):
 W/ae^i%ae+4294967296=rf Y W L g/ae^i%ae+g*Y/ae^i%ae+jM (W+ae^(L+1)) (g*Y) i∧jM (W+ae^(L+1)) (g*Y) (i+1)=1:=by
 have:=OM (i:=i) (qaw h hg1) (by rw[Jq hi];exact hd);rw[Jq hi] at this;exact this
def Jt{Y W L g i:Nat}(h:CW Y W L)(hg1:g<=W/Y+1)(hi:i<=L)(hd:¬W/ae^i%ae<g*Y/ae^i%ae+jM (W+ae^(L+1)) (g*Y) i):
 W/ae^i%ae=rf Y W L g/ae^i%ae+g*Y/ae^i%ae+jM (W+ae^(L+1)) (g*Y) i∧jM (W+ae^(L+1)) (g*Y) (i+1)=0:=by
 have:=OO (i:=i) (qaw h hg1) (by rw[Jq hi];exact hd);rw[Jq hi] at this;exact this
def qaB{Y W L g i:Nat}(h:CW Y W L)(hg1:g<=W/Y+1)(hi:i<=L):IntKind.u32.wrap (((W/ae^i%ae:Nat):Int)-((jM (W+ae^(L+1)) (g*Y) i:Nat):Int)-((g*Y/ae^i%ae:Nat):Int))=((rf Y W L g/ae^i%ae:Nat):Int):=by
 rw[qdg];have hD:=bf (rf Y W L g/ae^i)
 by_cases c:W/ae^i%ae<g*Y/ae^i%ae+jM (W+ae^(L+1)) (g*Y) i
 ·have:=(Js h hg1 hi c).1
  generalize W/ae^i%ae=w at*
  generalize g*Y/ae^i%ae=p at*
  generalize rf Y W L g/ae^i%ae=d at*
  generalize jM (W+ae^(L+1)) (g*Y) i=b at*
  omega
 ·have:=(Jt h hg1 hi c).1
  generalize W/ae^i%ae=w at*
  generalize g*Y/ae^i%ae=p at*
  generalize rf Y W L g/ae^i%ae=d at*
  generalize jM (W+ae^(L+1)) (g*Y) i=b at*
  omega
def rq(X Y p k:Nat):Nat:=if k<p then 0 else X/Y/ae^k%ae
theorem MV(X Y j k:Nat):rq X Y j k=if k=j then X/Y/ae^j%ae else rq X Y (j+1) k:=by
 unfold rq
 by_cases e:k=j
 ·subst e;rw[if_neg (by omega),if_pos rfl]
 ·rw[if_neg e]
  by_cases c:k<j
  ·rw[if_pos c,if_pos (by omega)]
  ·rw[if_neg c,if_neg (by omega)]
def qef(X Y p k:Nat):rq X Y p k<ae:=by unfold rq;split;decide;exact bf _
theorem qeg{m n s M:Nat}(h0:n≠0)(h:m*2^s/ae^M<n*2^s):val ae (row M (rq (m*2^s) (n*2^s) 0))=m/n:=by
 have e:m*2^s/(n*2^s)=m/n:=Nat.mul_div_mul_right m n (Nat.pow_pos (by omega));rw[bJ (g:=fun j=>m/n/ae^j%ae) (fun j _=>by unfold rq;rw[if_neg (by omega),e]),oU ae (by decide),Nat.mod_eq_of_lt];have hp:0<n*2^s:=Nat.mul_pos (by omega) (Nat.pow_pos (by omega));rw[<-e,Nat.div_lt_iff_lt_mul hp];rw[Nat.div_lt_iff_lt_mul (cu M)] at h;rw[Nat.mul_comm (n*2^s) (ae^M)] at h;exact h
def VT(m n s k:Nat):xw (m*2^s) 0 (m*2^s/ae^0% (n*2^s)) k=m%n*2^s/ae^k%ae:=by
 unfold xw;rw[if_neg (by omega),Nat.sub_zero,Nat.pow_zero,Nat.div_one,Nat.mul_mod_mul_right]
def xy(r i k:Nat):Nat:=if k<i then r/ae^k%ae else 0
theorem Ui(r k:Nat):xy r 0 k=0:=by simp[xy]
theorem Uj(r i k:Nat):xy r (i+1) k=if k=i then r/ae^i%ae else xy r i k:=by
 unfold xy
 by_cases e:k=i
 ·subst e;rw[if_pos (by omega),if_pos rfl]
 ·rw[if_neg e]
  by_cases c:k<i
  ·rw[if_pos c,if_pos (by omega)]
  ·rw[if_neg c,if_neg (by omega)]
def qaC(r i k:Nat):xy r i k<ae:=by unfold xy;split;exact bf _;decide
theorem qaD{m n:Nat}(h0:n≠0):val ae (row (ag ae n).length (xy (m%n) (ag ae n).length))=m%n:=by
 rw[bJ (g:=fun j=>m%n/ae^j%ae) (fun j hj=>by unfold xy;rw[if_pos hj]),oU ae (by decide),Nat.mod_eq_of_lt];exact Nat.lt_trans (Nat.mod_lt _ (by omega)) (dO dG n)
def qeh(V i:Nat):2^32*(V/ae^(i+1)%ae)+V/ae^i%ae=V/ae^i% (ae*ae):=by
 rw[Nat.mod_mul,l9,<-Nat.div_div_eq_div_mul];show ae*_+_=_;omega
def qei(V i:Nat):V/ae^i% (ae*ae)<18446744073709551616:=Nat.mod_lt _ (by decide)
theorem qaE{r s i:Nat}(hs:s<32):r*2^s/ae^i% (ae*ae)/2^s%4294967296=r/ae^i%ae:=by
 show _%ae=_;have hp:0<2^s:=Nat.pow_pos (by omega);have e:ae*ae=2^s*(ae*2^(32-s)):=by
  have:=vJ hs
  conv=>lhs;rw[this]
  rw[<-this];conv=>lhs;arg 1;rw[this]
  grind
 rw[e,Nat.mod_mul,Nat.add_mul_div_left _ _ hp,Nat.div_eq_of_lt (Nat.mod_lt _ hp),Nat.zero_add];have e2:r*2^s/ae^i/2^s=r/ae^i:=by
  rw[Nat.div_div_eq_div_mul,Nat.mul_comm (ae^i),<-Nat.div_div_eq_div_mul,Nat.mul_div_cancel _ hp]
 rw[e2,Nat.mod_mul_right_mod]
def VU(Y g i:Nat):((gC Y g i:Nat):Int)+((g*(Y/ae^i%ae):Nat):Int)=((gS Y g i:Nat):Int):=by unfold gS;omega
def Yf(D Y i:Nat):((uh D Y i:Nat):Int)+((D/ae^i%ae+Y/ae^i%ae:Nat):Int)=((ug D Y i:Nat):Int):=by rw[yx];omega
def Ju{m n:Nat}(h:decide (lX m n<0)=false):n<=m:=by
 have:=of_decide_eq_false h;unfold lX at this;rcases Nat.lt_or_ge m n with c|c
 ·rw[if_pos c] at this;exact absurd (by decide) this
 ·exact c
def MW{m n:Nat}(h:decide (lX m n<0)=true):m<n:=by
 have:=of_decide_eq_true h;unfold lX at this;rcases Nat.lt_or_ge m n with c|c
 ·exact c
 ·rw[if_neg (by omega)] at this
  split at this<;>exact absurd this (by decide)
def qej{n:Nat}(h0:n≠0):0<(ag ae n).length:=by
 rcases Nat.eq_zero_or_pos (ag ae n).length with h|h
 ·exact absurd ((vz dG).1 (List.eq_nil_of_length_eq_zero h)) h0
 ·exact h
def qek{n:Nat}(h:(ag ae n).length=1):n<4294967296:=by have:=dO dG n;rw[h] at this;exact this
def qaF{n:Nat}(h1:(ag ae n).length=1)(hn:n<4294967296):(ag ae n)[0]? =some n:=by
 rw[lq dG (by omega),Nat.pow_zero,Nat.div_one];exact congrArg some (Nat.mod_eq_of_lt hn)
theorem MX{z:Int}(h:(!decide (nb z.natAbs<=8))=true):(if-9223372036854775808<=z∧z<=9223372036854775807 then z else 0)=0∧decide (-9223372036854775808<=z∧z<=9223372036854775807)=false:=by
 have h1:¬nb z.natAbs<=8:=(by simpa using h);have h2:¬(-9223372036854775808<=z∧z<=9223372036854775807):=fun c=>h1 (ng (by omega))
 exact⟨if_neg h2,decide_eq_false h2⟩
theorem AY{z:Int}(h: -9223372036854775808<=z∧z<=9223372036854775807):(if-9223372036854775808<=z∧z<=9223372036854775807 then z else 0)=z∧decide (-9223372036854775808<=z∧z<=9223372036854775807)=true:=⟨if_pos h,decide_eq_true h⟩
theorem En{z:Int}(h:¬(-9223372036854775808<=z∧z<=9223372036854775807)):(if-9223372036854775808<=z∧z<=9223372036854775807 then z else 0)=0∧decide (-9223372036854775808<=z∧z<=9223372036854775807)=false:=⟨if_neg h,decide_eq_false h⟩
def nb8{z:Int}(h:(!decide (nb z.natAbs<=8))=false):nb z.natAbs<=8:=by simpa using h
def pF(b:Bool)(s:ByteArray):Bool:=(s==⟨#[]⟩&&b)||s.data.toList.head? ==some 0
def qjI{s:ByteArray}(h:(s==⟨#[]⟩)=false):∃x l,s.data.toList=x::l:=by
 cases hl:s.data.toList with
 |nil=>
  exfalso
  rw[yg] at h;have:s=⟨#[]⟩:=ByteArray.ext (by simpa using hl);simp[this] at h
 |cons x l=>exact⟨x,l,rfl⟩
def qaG{s:ByteArray}(h:(s==⟨#[]⟩)=true):s=⟨#[]⟩:=by rw[yg] at h;simpa using h
def QR(a b:Nat):Nat.gcd b (a%b)=Nat.gcd a b:=by rw[Nat.gcd_comm a b,Nat.gcd_rec b a,Nat.gcd_comm]
def QS{a b:Int}(h:(a !=b)=false):a=b:=by simpa using h
def VV{x g:Nat}(h:x=g):(if false=true then-(x:Int) else(x:Int))=(g:Int):=by subst h;rfl
theorem qhD{b:Bool}{s:ByteArray}(he:s=⟨#[]⟩)(hb:b=true):pF b s=true:=by subst he;subst hb;unfold pF;rw[FB];rfl
theorem qhE{b:Bool}{s:ByteArray}(he:s=⟨#[]⟩)(hb:b=false):¬pF b s=true:=by subst he;subst hb;unfold pF;simp
theorem qhF{b:Bool}{s:ByteArray}{x:UInt8}{l:List UInt8}(he:s.data.toList=x::l)(h:(((x.toNat:Nat):Int)==0)=true):pF b s=true:=by
 unfold pF;rw[he];have:x=0:=UInt8.toNat_inj.1 (by have:=eq_of_beq h;show x.toNat=0;omega);subst this;simp
theorem qhG{b:Bool}{s:ByteArray}{x:UInt8}{l:List UInt8}(h0:(s==⟨#[]⟩)=false)(he:s.data.toList=x::l)(h:(((x.toNat:Nat):Int)==0)=false):¬pF b s=true:=by
 unfold pF;rw[he,h0];have:x≠0:=fun e=>by subst e;exact absurd h (by decide)
 simp[this]
def D8(n:Nat):List Nat:=ag 256 n
theorem dw(n:Nat):(D8 n).length=nb n:=rfl
def kV{n i:Nat}(h:i<nb n):(D8 n)[i]? =some (n/256^i%256):=lC (by omega) n i h
def vK(n q:Nat):n/256^q=n/256^(q+1)*256+n/256^q%256:=by
 rw[Nat.pow_succ,<-Nat.div_div_eq_div_mul];have:=Nat.div_add_mod (n/256^q) 256;omega
def MZ{a b q:Nat}(h:a/256^q<b/256^q):a<b:=by
 rcases Nat.lt_or_ge a b with c|c
 ·exact c
 ·have:=Nat.div_le_div_right (c:=256^q) c;omega
theorem Uk{a b:Nat}(h:nb a<nb b):lX a b= -1:=by unfold lX;rw[if_pos (VH h)]
theorem Ul{a b:Nat}(h:nb b<nb a):lX a b=1:=by
 have:=VH h;unfold lX;rw[if_neg (by omega),if_pos this]
theorem Um{a b q:Nat}(he:a/256^(q+1)=b/256^(q+1))(h:a/256^q%256<b/256^q%256):lX a b= -1:=by
 have h1:=vK a q;have h2:=vK b q;have:a<b:=MZ (q:=q) (by omega);unfold lX;rw[if_pos this]
theorem Un{a b q:Nat}(he:a/256^(q+1)=b/256^(q+1))(h:b/256^q%256<a/256^q%256):lX a b=1:=by
 have h1:=vK a q;have h2:=vK b q;have:b<a:=MZ (q:=q) (by omega);unfold lX;rw[if_neg (by omega),if_pos this]
def Uo{a b q:Nat}(he:a/256^(q+1)=b/256^(q+1))(h1:¬a/256^q%256<b/256^q%256)(h2:¬b/256^q%256<a/256^q%256):a/256^q=b/256^q:=by
 have e1:=vK a q;have e2:=vK b q;omega
def qel{a b:Nat}(h:nb a=nb b):a/256^nb a=b/256^nb a:=by
 rw[Nat.div_eq_of_lt (jT a),h,Nat.div_eq_of_lt (jT b)]
theorem qem{a b:Nat}(h:a/256^0=b/256^0):lX a b=0:=by
 have:a=b:=(by simpa using h);subst this;unfold lX;rw[if_neg (Nat.lt_irrefl _),if_neg (Nat.lt_irrefl _)]
def qaH{n q:Nat}(h7:nb n<=7):n/256^q<72057594037927936:=by
 have h1:=oH h7;have:n/256^q<=n:=Nat.div_le_self _ _;omega
theorem QT(n:Nat):row (nb n) (wE n (nb n) (nb n))=(ag 256 n).reverse:=by
 apply List.ext_getElem?
 intro j
 by_cases hj:j<nb n
 ·rw[dB hj,List.getElem?_reverse (by exact hj)];have e:=lC (B:=256) (by omega) n (nb n-1-j) (by unfold nb at*;omega);unfold nb at e hj ⊢;rw[e];unfold wE;rw[if_pos (by omega)]
 ·rw[List.getElem?_eq_none (by rw[ax];omega),List.getElem?_eq_none (by simp;unfold nb at hj;omega)]
theorem qen(n:Nat):ag 256 (val 256 (D8 n))=D8 n:=by unfold D8;rw[qY (by omega)]
def BN(n j:Nat):Nat:=n/256^j%256
def zO(n j:Nat):BN n j<256:=Nat.mod_lt _ (by decide)
theorem Jv(n:Nat):row (nb n) (BN n)=D8 n:=(zC (B:=256) (by omega) n).symm
def AZ(k:IntKind)(i:Nat)(f:Nat->Nat)(d:Int)(h:d=((f i:Nat):Int)):NV k (row i f)++[.int k d]=NV k (row (i+1) f):=by
 subst h;unfold NV row;rw[List.range_succ,List.map_append,List.map_append];rfl
def one_cell(k:IntKind)(d:Int):∀v∈[Value.int k d],v.oneCell'=true:=by
 intro v hv;rw[List.mem_singleton.1 hv];rfl
def Na{n i:Nat}(h:0<n/256^i):i<nb n:=by
 rcases Nat.lt_or_ge i (nb n) with c|c
 ·exact c
 ·rw[Nat.div_eq_of_lt (Nat.lt_of_lt_of_le (jT n) (gW c))] at h;omega
def Nb{n i:Nat}(h:n/256^i=0)(hi:i<=nb n):i=nb n:=by
 have h1:n<256^i:=(Nat.div_eq_zero_iff_lt (Nat.pow_pos (by omega))).1 h;have:=ng h1;omega
theorem Ur(n i:Nat):n/256^i/256=n/256^(i+1):=by rw[Nat.pow_succ,Nat.div_div_eq_div_mul]
def qf9(n:Nat):∀d∈D8 n,d<256:=AO (by omega)
theorem Gw(n:Nat):(ag 256 (val 256 (D8 n))).length=nb n:=by rw[qen];rfl
theorem QU(n:Nat):(ag 256 (val 256 (row (nb n) (BN n)))).length=nb n:=by rw[Jv,Gw]
def qeo(n:Nat){neg:Bool}(h:neg=true):Value.agg #[.bool (decide ((0:Int)<nb n)),.string (bH n)]=I (if neg=true then-(n:Int) else(n:Int)):=by
 rw[if_pos h];have e:=CO (n:=n);unfold I;have h1:decide ((0:Int)<nb n)=decide (-(n:Int)<0):=by
  by_cases c:n=0
  ·subst c;rw[kw];rfl
  ·rw[decide_eq_true (by omega),decide_eq_true (by omega)]
 rw[h1,Int.natAbs_neg,Int.natAbs_natCast]
def qep(n:Nat){neg:Bool}(h:neg=false):Value.agg #[.bool false,.string (bH n)]=I (if neg=true then-(n:Int) else(n:Int)):=by
 subst h;rw[if_neg (by decide)];unfold I;rw[decide_eq_false (by omega),Int.natAbs_natCast]
theorem gJ(i:Nat):0<256^i:=Nat.pow_pos (by omega)
def jW(n:Nat):n%256<256:=Nat.mod_lt _ (by omega)
def FO(X Y i:Nat):Nat:=(X%256^i+Y%256^i)/256^i+X/256^i%256+Y/256^i%256
def yB(X Y i:Nat):Nat:=(X%256^i+Y%256^i)/256^i
def yC(X Y i:Nat):yB X Y i<=1:=by
 unfold yB;have h1:=Nat.mod_lt X (gJ i);have h2:=Nat.mod_lt Y (gJ i);have:(X%256^i+Y%256^i)/256^i<2:=by rw[Nat.div_lt_iff_lt_mul (gJ i)];omega
 omega
theorem Yg(X Y:Nat):yB X Y 0=0:=by simp[yB,Nat.mod_one]
theorem vM(X Y i:Nat):FO X Y i=yB X Y i+X/256^i%256+Y/256^i%256:=rfl
def Ba(X Y i:Nat):FO X Y i<512:=by
 have:=yC X Y i;have h1:=jW (X/256^i);have h2:=jW (Y/256^i);rw[vM];omega
theorem Us(X Y i:Nat):FO X Y i/256=yB X Y (i+1):=by
 show _/256=_;unfold FO yB;rw[Nat.pow_succ,Nat.mod_mul,Nat.mod_mul,<-Nat.div_div_eq_div_mul]
 congr 1
 have e:X%256^i+256^i*(X/256^i%256)+(Y%256^i+256^i*(Y/256^i%256))=(X%256^i+Y%256^i)+256^i*(X/256^i%256+Y/256^i%256):=(by rw[Nat.mul_add];omega);rw[e,Nat.add_mul_div_left _ _ (gJ i)];omega
theorem qaI(X Y i:Nat):FO X Y i%256=(X+Y)/256^i%256:=by
 show _%256=_;have e:X+Y=(X%256^i+Y%256^i)+256^i*(X/256^i+Y/256^i):=by
  have h1:=Nat.mod_add_div X (256^i);have h2:=Nat.mod_add_div Y (256^i);rw[Nat.mul_add];omega
 conv=>rhs;rw[e]
 rw[Nat.add_mul_div_left _ _ (gJ i)];unfold FO
 generalize(X%256^i+Y%256^i)/256^i=c
 generalize X/256^i=p
 generalize Y/256^i=q
 rw[Nat.add_assoc,Nat.add_mod,<-Nat.add_mod p q,<-Nat.add_mod]
def yD(m n i:Nat):Nat:=if m%256^i<n%256^i then 1 else 0
theorem Yh(m n:Nat):yD m n 0=0:=by simp[yD,Nat.mod_one]
def O0(m n i:Nat):yD m n i<=1:=by unfold yD;split<;>omega
def VW{m n i:Nat}(h:n<=m):(m-n)/256^i+n/256^i+yD m n i=m/256^i:=by
 have h1:=Nat.mod_add_div m (256^i);have h2:=Nat.mod_add_div n (256^i);have h3:=Nat.mod_lt m (gJ i);have h4:=Nat.mod_lt n (gJ i);have hp:=gJ i
 generalize hP:256^i=P at*
 generalize m/P=M at*
 generalize n/P=N at*
 unfold yD;rw[hP]
 split
 ·rename_i hlt
  have hMN:N+1<=M:=by
   by_cases c:M<=N
   ·have:=Nat.mul_le_mul_left P c;omega
   ·omega
  obtain⟨k,rfl⟩:∃k,M=N+1+k:=⟨M-(N+1),by omega⟩;have e:m-n=(m%P+P-n%P)+P*k:=by
   rw[Nat.mul_add,Nat.mul_add] at h1;omega
  rw[e,Nat.add_mul_div_left _ _ hp,Nat.div_eq_of_lt (by omega)];omega
 ·rename_i hge
  have hMN:N<=M:=by
   by_cases c:M<N
   ·have:=Nat.mul_le_mul_left P c;rw[Nat.mul_succ] at this;omega
   ·omega
  obtain⟨k,rfl⟩:∃k,M=N+k:=⟨M-N,by omega⟩;have e:m-n=(m%P-n%P)+P*k:=by
   rw[Nat.mul_add] at h1;omega
  rw[e,Nat.add_mul_div_left _ _ hp,Nat.div_eq_of_lt (by omega)];omega
theorem Nc(m n i:Nat):yD m n (i+1)=if m/256^i%256<n/256^i%256+yD m n i then 1 else 0:=by
 unfold yD;rw[Nat.pow_succ,Nat.mod_mul,Nat.mod_mul];have h3:=Nat.mod_lt m (gJ i);have h4:=Nat.mod_lt n (gJ i)
 generalize m/256^i%256=x
 generalize n/256^i%256=y
 generalize hP:256^i=P at*
 have key:(m%P+P*x<n%P+P*y)↔x<y+(if m%P<n%P then 1 else 0):=by
  rcases Nat.lt_trichotomy x y with c|c|c
  ·have:=Nat.mul_le_mul_left P c;rw[Nat.mul_succ] at this
   constructor<;>intro _<;>omega
  ·subst c;split<;>constructor<;>intro _<;>omega
  ·have:=Nat.mul_le_mul_left P c;rw[Nat.mul_succ] at this
   split<;>constructor<;>intro _<;>omega
 simp only[key]
def VX{m n i:Nat}(h:n<=m)(hd:m/256^i%256<n/256^i%256+yD m n i):m/256^i%256+256=(m-n)/256^i%256+n/256^i%256+yD m n i∧yD m n (i+1)=1:=by
 refine⟨?_,by rw[Nc,if_pos hd]⟩;have h1:=VW (i:=i) h;have h2:=O0 m n i;omega
def VY{m n i:Nat}(h:n<=m)(hd:¬m/256^i%256<n/256^i%256+yD m n i):m/256^i%256=(m-n)/256^i%256+n/256^i%256+yD m n i∧yD m n (i+1)=0:=by
 refine⟨?_,by rw[Nc,if_neg hd]⟩;have h1:=VW (i:=i) h;have h2:=O0 m n i;omega
theorem jh{Y i:Nat}(h:nb Y<=i):Y/256^i%256=0:=by
 rw[Nat.div_eq_of_lt (Nat.lt_of_lt_of_le (jT Y) (gW h))]
def qaJ(a b i:Nat)(ha:nb a<=i)(hb:nb b<=i)(hc:yB a b i=0):a+b<256^i:=by
 unfold yB at hc;rw[Nat.mod_eq_of_lt (Nat.lt_of_lt_of_le (jT a) (gW ha)),Nat.mod_eq_of_lt (Nat.lt_of_lt_of_le (jT b) (gW hb))] at hc;exact(Nat.div_eq_zero_iff_lt (gJ i)).1 hc
def Yi(a b i:Nat)(h:0<yB a b i)(ha:nb a<=i)(hb:nb b<=i):i<=max (nb a) (nb b):=by
 rcases Nat.lt_or_ge (max (nb a) (nb b)) i with c|c
 ·exfalso
  have h1:a<256^(i-1):=Nat.lt_of_lt_of_le (jT a) (gW (by omega));have h2:b<256^(i-1):=Nat.lt_of_lt_of_le (jT b) (gW (by omega));have h3:256^i=256^(i-1)*256:=(by rw[<-Nat.pow_succ,show(i-1).succ=i by omega]);unfold yB at h;rw[Nat.mod_eq_of_lt (by omega),Nat.mod_eq_of_lt (by omega),Nat.div_eq_of_lt (by omega)] at h;omega
 ·exact c
theorem qeq(N k:Nat)(h:N<256^k):val 256 (row k (BN N))=N:=by
 unfold BN;rw[oU 256 (by omega),Nat.mod_eq_of_lt h]
theorem Jw(N k:Nat)(h:N<256^k):ag 256 (val 256 (row k (BN N)))=D8 N:=by rw[qeq N k h];rfl
def QV(N k:Nat)(h:N<256^k):NV .i64 (D8 N)=(NV .i64 (row k (BN N))).take (nb N):=by
 have:=xu (B:=256) (by omega) (kC (n:=k) (fun j=>zO N j));rw[Jw N k h] at this;rw[DV];congr 1;exact this.symm
def qi(m n i:Nat):Nat:=m%256^i*n
def zT(m n i k:Nat):Nat:=(qi m n i/256^i%256^k+m/256^i%256*(n%256^k))/256^k
def xA(m n i k:Nat):Nat:=zT m n i k+qi m n i/256^(i+k)%256+m/256^i%256*(n/256^k%256)
def Jy(m n i k j:Nat):Nat:=if j<i+k then qi m n (i+1)/256^j%256 else qi m n i/256^j%256
def CX(m n i j:Nat):Nat:=qi m n i/256^j%256
theorem Nh(m n i:Nat):qi m n (i+1)=qi m n i+256^i*(m/256^i%256*n):=by
 unfold qi;rw[Nat.pow_succ,Nat.mod_mul,Nat.add_mul,Nat.mul_assoc]
theorem Yj(m n i:Nat):zT m n i 0=0:=by simp[zT,Nat.mod_one]
def vO(m n i k:Nat):zT m n i k<256:=by
 unfold zT;rw[Nat.div_lt_iff_lt_mul (gJ k)];have h1:=Nat.mod_lt (qi m n i/256^i) (gJ k);have h2:=Nat.mod_lt n (gJ k);have h3:m/256^i%256+1<=256:=Nat.mod_lt _ (by decide);have h4:(m/256^i%256)*(n%256^k)<=(m/256^i%256)*(256^k):=Nat.mul_le_mul_left _ (by omega);have h5:(m/256^i%256+1)*256^k<=256*256^k:=Nat.mul_le_mul_right _ h3;rw[Nat.add_mul] at h5;omega
theorem yE(V i k:Nat):V/256^(i+k)=V/256^i/256^k:=by rw[Nat.pow_add,Nat.div_div_eq_div_mul]
theorem Jz(m n i k:Nat):xA m n i k/256=zT m n i (k+1):=by
 show _/256=_;unfold xA zT;rw[yE,Nat.pow_succ,Nat.mod_mul,Nat.mod_mul,<-Nat.div_div_eq_div_mul]
 congr 1
 generalize m/256^i%256=dd
 generalize qi m n i/256^i=A
 have e:A%256^k+256^k*(A/256^k%256)+dd*(n%256^k+256^k*(n/256^k%256))=(A%256^k+dd*(n%256^k))+256^k*(A/256^k%256+dd*(n/256^k%256)):=(by grind);rw[e,Nat.add_mul_div_left _ _ (gJ k)];omega
theorem QW(m n i k:Nat):xA m n i k%256=qi m n (i+1)/256^(i+k)%256:=by
 show _%256=_;unfold xA zT;rw[yE,yE,Nh,Nat.add_mul_div_left _ _ (gJ i)]
 generalize m/256^i%256=dd
 generalize qi m n i/256^i=A
 have e:A+dd*n=(A%256^k+dd*(n%256^k))+256^k*(A/256^k+dd*(n/256^k)):=by
  have h1:=Nat.mod_add_div A (256^k);have h2:=Nat.mod_add_div n (256^k)
  conv=>lhs;rw[<-h1,<-h2]
  grind
 conv=>rhs;rw[e]
 rw[Nat.add_mul_div_left _ _ (gJ k)]
 generalize(A%256^k+dd*(n%256^k))/256^k=c
 generalize A/256^k=p
 generalize n/256^k=q
 have e2:∀x y z w:Nat,(x+y%256+z*(w%256))%256=(x+(y+z*w))%256:=by
  intro x y z w;have h1:=Nat.mod_add_div y 256;have h2:=Nat.mod_add_div w 256;have:x+(y+z*w)=(x+y%256+z*(w%256))+256*(y/256+z*(w/256)):=by
   conv=>lhs;rw[<-h1,<-h2]
   grind
  rw[this,Nat.add_mul_mod_self_left]
 exact e2 c p dd q
theorem VZ(m n i k:Nat):Jy m n i k (i+k)=qi m n i/256^(i+k)%256:=by unfold Jy;rw[if_neg (by omega)]
theorem Yk(m n i k j:Nat):Jy m n i (k+1) j=if j=i+k then xA m n i k%256 else Jy m n i k j:=by
 rw[QW];unfold Jy
 by_cases e:j=i+k
 ·subst e;rw[if_pos (by omega),if_pos rfl]
 ·rw[if_neg e]
  by_cases c:j<i+k
  ·rw[if_pos c,if_pos (by omega)]
  ·rw[if_neg c,if_neg (by omega)]
def Yl(m n i j:Nat):Jy m n i 0 j=CX m n i j:=by
 unfold Jy CX
 split
 ·rename_i h
  rw[Nh];have e0:256^i=256^j*(256*256^(i-j-1)):=by
   rw[<-Nat.mul_assoc,<-Nat.pow_succ,<-Nat.pow_add,show j+1+(i-j-1)=i by omega]
  have e:256^i*(m/256^i%256*n)=256^j*(256*(256^(i-j-1)*(m/256^i%256*n))):=by
   generalize m/256^i%256*n=r
   rw[e0,Nat.mul_assoc,Nat.mul_assoc]
  rw[e,Nat.add_mul_div_left _ _ (gJ j),Nat.add_mul_mod_self_left]
 ·rfl
theorem Ig(m n i:Nat):qi m n i<256^(i+nb n):=by
 unfold qi;rw[Nat.pow_add];have h1:=Nat.mod_lt m (gJ i);have h2:=jT n
 calc m%256^i*n<=256^i*n:=Nat.mul_le_mul_right _ (by omega)
  _<256^i*256^nb n:=(Nat.mul_lt_mul_left (gJ i)).2 h2
theorem Ym(m n j:Nat):CX m n 0 j=0:=by simp[CX,qi,Nat.mod_one]
def qaK(m n:Nat):val 256 (row (nb m+nb n+1) (CX m n (nb m)))=m*n:=by
 have e:qi m n (nb m)=m*n:=(by unfold qi;rw[Nat.mod_eq_of_lt (jT m)]);have h:=Ig m n (nb m);rw[bJ (g:=fun j=>m*n/256^j%256) (fun j hj=>by unfold CX;rw[e]),oU 256 (by decide),Nat.mod_eq_of_lt];rw[e] at h;exact Nat.lt_of_lt_of_le h (Nat.pow_le_pow_right (by decide) (by omega))
def V3(m n i j:Nat):CX m n i j<256:=jW _
def JA(p q:Nat):p%256*(q%256)<=65025:=by
 have h1:p%256<=255:=(by omega);have h2:q%256<=255:=(by omega);exact Nat.mul_le_mul h1 h2
theorem Bc(m n i:Nat){k:Nat}(hk:nb n<=k):xA m n i k=zT m n i k:=by
 unfold xA;have h1:256^(i+nb n)<=256^(i+k):=gW (by omega);rw[jh hk,Nat.div_eq_of_lt (Nat.lt_of_lt_of_le (Ig m n i) h1)];simp
theorem qaL(m n i:Nat){k:Nat}(hk:nb n<=k):zT m n i (k+1)=0:=by
 rw[<-Jz,Bc m n i hk];have:=vO m n i k;omega
def qaM(m n i k:Nat)(h:0<zT m n i k):k<=nb n:=by
 rcases Nat.lt_or_ge (nb n) k with c|c
 ·obtain⟨q,rfl⟩:∃q,k=q+1:=⟨k-1,by omega⟩;rw[qaL m n i (by omega)] at h;omega
 ·exact c
def Yn(m n i k j:Nat)(hk:nb n<=k)(hc:zT m n i k=0):Jy m n i k j=CX m n (i+1) j:=by
 unfold Jy CX
 by_cases c:j<i+k
 ·rw[if_pos c]
 ·rw[if_neg c];have h1:256^(i+nb n)<=256^j:=gW (by omega);rw[Nat.div_eq_of_lt (Nat.lt_of_lt_of_le (Ig m n i) h1)]
  by_cases e:j=i+k
  ·subst e;rw[<-QW,Bc m n i hk,hc]
  ·have h2:256^(i+1+nb n)<=256^j:=gW (by omega);rw[Nat.div_eq_of_lt (Nat.lt_of_lt_of_le (Ig m n (i+1)) h2)]
theorem Ut(m n:Nat):val 256 (row (nb m+nb n+1) (CX m n (nb m)))=m*n:=qaK m n
theorem QX(m n:Nat):ag 256 (val 256 (row (nb m+nb n+1) (CX m n (nb m))))=D8 (m*n):=by rw[Ut];rfl
def qaN(m n:Nat):NV .i64 (D8 (m*n))=(NV .i64 (row (nb m+nb n+1) (CX m n (nb m)))).take (nb (m*n)):=by
 have:=xu (B:=256) (by omega) (kC (n:=nb m+nb n+1) (fun j=>V3 m n (nb m) j));rw[QX] at this;rw[DV];congr 1;exact this.symm
def qaO(m n i k:Nat):xA m n i k<131072:=by
 have h1:=vO m n i k;have h2:=jW (qi m n i/256^(i+k));have h3:=JA (m/256^i) (n/256^k);unfold xA;omega
def FP(a b p:Nat):Nat:=a/256^(p+1)%b*256+a/256^p%256
def qaP(a b p:Nat)(hb:0<b):a/256^p=b*(a/256^(p+1)/b*256)+FP a b p:=by
 have h1:=vK a p;have h2:=Nat.div_add_mod (a/256^(p+1)) b;unfold FP
 conv=>lhs;rw[h1,<-h2]
 rw[Nat.add_mul,Nat.mul_assoc,Nat.add_assoc]
def Uu(a b p:Nat)(hb:0<b):FP a b p<256*b:=by
 unfold FP;have h1:a/256^(p+1)%b+1<=b:=Nat.mod_lt _ hb;have h2:=jW (a/256^p);omega
theorem qer(a b p:Nat)(hb:0<b):FP a b p/b=a/b/256^p%256:=by
 have h1:=qaP a b p hb;have h2:FP a b p/b<256:=(by rw[Nat.div_lt_iff_lt_mul hb];exact Uu a b p hb);have e:a/b/256^p=a/256^p/b:=(by rw[Nat.div_div_eq_div_mul,Nat.div_div_eq_div_mul,Nat.mul_comm]);rw[e,h1,Nat.mul_add_div hb,Nat.mul_comm _ 256,Nat.mul_add_mod,Nat.mod_eq_of_lt h2]
theorem qes(a b p:Nat)(hb:0<b):FP a b p%b=a/256^p%b:=by
 have h1:=qaP a b p hb
 conv=>rhs;rw[h1]
 rw[Nat.mul_add_mod]
def qet(R d:Nat)(hd:d<256):val 256 (d::D8 R)=R*256+d:=by
 show d+256*val 256 (D8 R)=_;unfold D8;rw[qY (by omega)];omega
def dq8{a b p q r:Nat}(hb:0<b)(h:q*b+r=FP a b p)(hr:r<b):q=a/b/256^p%256∧r=a/256^p%b:=by
 rw[<-qer a b p hb,<-qes a b p hb,<-h,Nat.mul_comm q b];exact⟨by rw[Nat.mul_add_div hb,Nat.div_eq_of_lt hr];omega,by rw[Nat.mul_add_mod,Nat.mod_eq_of_lt hr]⟩
def qaQ{a b p q r s:Nat}(hb:0<b)(h:q*b+r=FP a b p)(hs:s*b<=r):q+s<256:=by
 have h1:=Uu a b p hb;have h2:(q+s)*b<256*b:=(by rw[Nat.add_mul];omega);exact Nat.lt_of_mul_lt_mul_right h2
def Eo{a b p q r s:Nat}(h:q*b+r=FP a b p)(hs:s*b<=r):(q+s)*b+(r-s*b)=FP a b p:=by rw[Nat.add_mul];omega
def O1(a b p k:Nat):Nat:=if k<p then 0 else a/b/256^k%256
end Go.Via
