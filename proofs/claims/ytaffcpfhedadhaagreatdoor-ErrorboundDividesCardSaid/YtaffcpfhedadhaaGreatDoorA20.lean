/-
  Part 20 (chapter 32): lemmas, walks. Each theorem states its own conditions.
-/
import GoSem.Core.World
import Derived.MapKept
import Derived.WalkKit
import Derived.WalkSpells
import Derived.WalkLawsBesides
import Derived.Deep.LoopGhost
import Derived.Deep.AppendSrc
import Derived.Laws.BytesArg
import Derived.Laws.CopyRow
import Derived.Laws.AppendOwn
import Derived.Test.YtaffcpfhedadhaaGreatDoorProg
import Derived.Shelf.Strings.Builder1
import Derived.Shelf.Strings.Builder2
import Derived.Shelf.Small.Utf8
import Derived.Shelf.Small.Bits
import Derived.Shelf.Small.Strs
import Derived.Shelf.Small.Wraps
import Derived.Shelf.Strings.BuilderF
import Derived.Shelf.Strconv.Itoa0
import Derived.Shelf.Strings.Search1
import Derived.Shelf.Strings.Prefix
import Derived.Shelf.Strings.Runes
import Derived.Shelf.Strings.AsciiSet
import Derived.Shelf.Bits.Mul64
import Derived.Shelf.Strings.Repeat
import Derived.Shelf.Unicode.DecodeSlow
import Derived.Laws.Externs
import Derived.Lib.ItoaNum
import Derived.Deep.Upon
import Derived.Test.YtaffcpfhedadhaaGreatDoorA14
import Derived.Test.YtaffcpfhedadhaaGreatDoorA15
set_option linter.all false
set_option maxRecDepth 20000
set_option maxHeartbeats 20000000
section
variable{P Q:Prop}{T:Type}{R:T->Prop}
def ZL(h:P:=by unfold ah;omega):=h
def qet(h:P:=by rw[uP _ _ q.den_nz,uP _ _ p.den_nz];exact h):=h
def qk6(h:P:=by rw[Int.natAbs_mul,Int.natAbs_mul,Int.natAbs_natCast,Int.natAbs_natCast];exact hle):=h
def qeu(h:P:=by rcases dV q with h|h|h<;>simp[h.2]):=h
def qev(h:P:=by rcases kK p q with h|h|h<;>simp[h.2]):=h
end
namespace Go.Via
open Go
theorem mX(k:Nat):ah^(k+1)=ah^k*ah:=Nat.pow_succ ..
def GOK(Y W L g r:Nat):Prop:=g*(Y/ah^(L-1))+r=W/ah^(L-1)∧r<4294967296∧W/Y<=g∧g<=4294967297
def xA(V L:Nat)(hL:2<=L):V=(V/ah^(L-1)*ah+V/ah^(L-2)%ah)*ah^(L-2)+V%ah^(L-2):=by
 have h1:=Nat.div_add_mod V (ah^(L-2));have h2:=qee V (L-2);rw[show L-2+1=L-1 by omega] at h2;rw[<-h2,Nat.mul_comm];exact h1.symm
structure Ee(Y W L:Nat):Prop where
 hL:2<=L
 lo:ah^L<=2*Y
 hi:Y<ah^L
 w:W<Y*ah
def Ee.y1{Y W L:Nat}(h:Ee Y W L):2147483648<=Y/ah^(L-1)∧Y/ah^(L-1)<4294967296:=by
 have hp:=dw (L-1);have e:ah^L=ah^(L-1)*ah:=(by rw[<-mX,show L-1+1=L by have:=h.hL;omega]);have h1:=h.lo;have h2:=h.hi;rw[e] at h1 h2;refine⟨?_,?_⟩
 ·rw[Nat.le_div_iff_mul_le hp];have:ah^(L-1)*ah=2*(2147483648*ah^(L-1)):=ZL
  omega
 ·rw[Nat.div_lt_iff_lt_mul hp];rw[Nat.mul_comm] at h2;exact h2
theorem Ee.pos{Y W L:Nat}(h:Ee Y W L):0<Y:=by have:=h.lo;have:=dw L;omega
def Ee.wlt{Y W L:Nat}(h:Ee Y W L):W<ah^(L+1):=by
 have:=Nat.mul_le_mul_right ah (Nat.le_of_lt h.hi);rw[mX];exact Nat.lt_of_lt_of_le h.w this
def Ee.high{Y W L:Nat}(h:Ee Y W L):W/ah^(L-1)<(Y/ah^(L-1)+1)*ah:=by
 refine qhG (B:=ah) (xA Y L h.hL) (xA W L h.hL) (Nat.mod_lt _ (dw _)) (Nat.mod_lt _ ax) (by rw[Nat.mul_comm];exact h.w)
def Ee.high64{Y W L:Nat}(h:Ee Y W L):W/ah^(L-1)<18446744073709551616:=by
 have h1:=h.wlt;rw[Nat.div_lt_iff_lt_mul (dw _)];have:ah^(L+1)=18446744073709551616*ah^(L-1):=by
  rw[show L+1=2+(L-1) by have:=h.hL;omega,Nat.pow_add];rfl
 omega
theorem Ee.q{Y W L:Nat}(h:Ee Y W L):W/Y<4294967296:=by
 rw[Nat.div_lt_iff_lt_mul h.pos,Nat.mul_comm];exact h.w
def qiU{Y W L:Nat}(h:Ee Y W L):GOK Y W L (W/ah^(L-1)/(Y/ah^(L-1))) (W/ah^(L-1)% (Y/ah^(L-1))):=by
 obtain⟨a1,a2⟩:=h.y1;have a3:=Nat.mod_lt (W/ah^(L-1)) (show 0<Y/ah^(L-1) by omega);refine⟨by rw[Nat.mul_comm];exact Nat.div_add_mod _ _,ae,?_,?_⟩
 ·exact TT (B:=ah) (dw (L-2)) (xA Y L h.hL) (xA W L h.hL) (Nat.mod_lt _ (dw _)) (Nat.mod_lt _ ax) ae h.pos
 ·have h1:=h.high;have:W/ah^(L-1)/(Y/ah^(L-1))<4294967298:=by
   rw[Nat.div_lt_iff_lt_mul ae];unfold ah at*;omega
  omega
def qew{Y W L g r:Nat}(h:Ee Y W L)(hg:GOK Y W L g r)(ht:4294967296<=g∨r*2^32+W/ah^(L-2)%ah<g*(Y/ah^(L-2)%ah)):
 W/Y<g:=by
 rcases ht with ht|ht
 ·have:=h.q;omega
 ·exact WC (B:=ah) (dw (L-2)) (xA Y L h.hL) (xA W L h.hL) (Nat.mod_lt _ (dw _)) hg.1 h.pos ht
def qk8{Y W L g r:Nat}(h:Ee Y W L)(hg:GOK Y W L g r)(hq:W/Y<g):(g-1)*(Y/ah^(L-1))+(r+Y/ah^(L-1))=W/ah^(L-1):=by
 have h0:0<g:=Nat.lt_of_le_of_lt (Nat.zero_le _) hq;obtain⟨k,rfl⟩:∃k,g=k+1:=⟨g-1,ae⟩;have:=hg.1;rw[Nat.add_mul] at this;simp only[Nat.add_sub_cancel];omega
def qex{Y W L g r:Nat}(h:Ee Y W L)(hg:GOK Y W L g r)(hq:W/Y<g)(hr:r+Y/ah^(L-1)<4294967296):GOK Y W L (g-1) (r+Y/ah^(L-1)):=
 ⟨qk8 h hg hq,hr,ae,by have:=hg.2.2.2;omega⟩
def qng{Y W L g r:Nat}(h:Ee Y W L)(hg:GOK Y W L g r)(hB:g<4294967296)(ht:g*(Y/ah^(L-2)%ah)<=r*2^32+W/ah^(L-2)%ah):g<=W/Y+1:=by
 obtain⟨a1,a2⟩:=h.y1;exact OT (B:=ah) (xA Y L h.hL) (xA W L h.hL) (Nat.mod_lt _ (dw _)) ae (Nat.mod_lt _ ax) hg.1 h.pos ZL (.inl ht)
def qey{Y W L g r:Nat}(h:Ee Y W L)(hg:GOK Y W L g r)(hq:W/Y<g)(hr:4294967296<=r+Y/ah^(L-1)):g-1<=W/Y+1:=by
 obtain⟨a1,a2⟩:=h.y1;have:=hg.2.2.2;exact OT (B:=ah) (xA Y L h.hL) (xA W L h.hL) (Nat.mod_lt _ (dw _)) ae (Nat.mod_lt _ ax) (qk8 h hg hq) h.pos ZL (.inr hr)
def gC(Y g i:Nat):Nat:=g*(Y%ah^i)/ah^i
def gS(Y g i:Nat):Nat:=gC Y g i+g*(Y/ah^i%ah)
theorem ZM(Y g:Nat):gC Y g 0=0:=by simp[gC,Nat.mod_one]
def PE(Y g i:Nat)(hg:g<=4294967296):gC Y g i<=4294967295:=by
 unfold gC;have h1:=Nat.mod_lt Y (dw i);have:g*(Y%ah^i)/ah^i<4294967296:=by
  rw[Nat.div_lt_iff_lt_mul (dw i)];have h2:g*(Y%ah^i)<=4294967296*(Y%ah^i):=Nat.mul_le_mul_right _ hg;omega
 omega
def ZN(Y g i:Nat)(hg:g<=4294967296):gS Y g i<18446744073709551616∧g*(Y/ah^i%ah)<18446744073709551616:=by
 unfold gS;have h1:=PE Y g i hg;have h2:=bJ (Y/ah^i);have h3:g*(Y/ah^i%ah)<=4294967296*4294967295:=Nat.mul_le_mul hg ae;omega
theorem qez(Y g i:Nat):gS Y g i/2^32=gC Y g (i+1):=by
 show _/ah=_;unfold gS gC;rw[mX,Nat.mod_mul,<-Nat.div_div_eq_div_mul]
 congr 1
 have e:g*(Y%ah^i+ah^i*(Y/ah^i%ah))=g*(Y%ah^i)+ah^i*(g*(Y/ah^i%ah)):=dY;rw[e,Nat.add_mul_div_left _ _ (dw i)]
theorem qnh(Y g i:Nat):gS Y g i%4294967296=g*Y/ah^i%ah:=by
 show _%ah=_;have e:g*Y=g*(Y%ah^i)+ah^i*(g*(Y/ah^i)):=by
  have h1:=Nat.mod_add_div Y (ah^i)
  conv=>lhs;rw[<-h1]
  grind
 rw[e,Nat.add_mul_div_left _ _ (dw i)];unfold gS gC
 generalize g*(Y%ah^i)/ah^i=c
 generalize Y/ah^i=p
 rw[Nat.add_mod,<-Nat.mul_mod_mod,Nat.mod_mod,Nat.mul_mod_mod,<-Nat.add_mod]
def um(Y W L g:Nat):Nat:=W+ah^(L+1)-g*Y
def qeA{Y W L g:Nat}(h:Ee Y W L)(hg1:g<=W/Y+1):g*Y<=W+ah^(L+1):=by
 have h1:=Nat.mul_le_mul_right Y hg1;have h2:=Nat.div_mul_le_self W Y;rw[Nat.add_mul] at h1;have h3:=h.hi;have h4:ah^L<=ah^(L+1):=Nat.pow_le_pow_right ax ae;omega
theorem LJ{W L i:Nat}(hi:i<=L):(W+ah^(L+1))/ah^i%ah=W/ah^i%ah:=by
 have e:ah^(L+1)=ah^i*(ah*ah^(L-i)):=by
  rw[<-Nat.mul_assoc,<-mX,<-Nat.pow_add,show i+1+(L-i)=L+1 by omega]
 rw[e,Nat.add_mul_div_left _ _ (dw i),Nat.add_mul_mod_self_left]
def TJ(X W D j i k:Nat):Nat:=if k<j then X/ah^k%ah else if k<j+i then D/ah^(k-j)%ah else W/ah^(k-j)%ah
def qni(X W D j i:Nat):TJ X W D j i (i+j)=W/ah^i%ah:=by
 unfold TJ;rw[if_neg ae,if_neg ae,show i+j-j=i by omega]
theorem UZ(X W D j i k:Nat):TJ X W D j (i+1) k=if k=i+j then D/ah^i%ah else TJ X W D j i k:=by
 unfold TJ
 by_cases e:k=i+j
 ·subst e;rw[if_neg ae,if_pos ae,if_pos rfl,show i+j-j=i by omega]
 ·rw[if_neg e]
  by_cases c:k<j
  ·rw[if_pos c,if_pos c]
  ·rw[if_neg c,if_neg c]
   by_cases c2:k<j+i
   ·rw[if_pos c2,if_pos ae]
   ·rw[if_neg c2,if_neg ae]
def xw(X j V k:Nat):Nat:=if k<j then X/ah^k%ah else V/ah^(k-j)%ah
def dvW(X Y j:Nat):Nat:=X/ah^(j+1)%Y*ah+X/ah^j%ah
def qnj(X Y j:Nat)(hy:0<Y):dvW X Y j<Y*ah:=Q5 X Y j hy
theorem U0(X Y D j k:Nat):xw X (j+1) (X/ah^(j+1)%Y) k=TJ X (dvW X Y j) D j 0 k:=by
 unfold xw TJ dvW
 by_cases c:k<j
 ·rw[if_pos ae,if_pos c]
 ·rw[if_neg c,if_neg (by omega:¬k<j+0)]
  by_cases e:k=j
  ·subst e;rw[if_pos ae,Nat.sub_self,Nat.pow_zero,Nat.div_one,Nat.mul_comm,Nat.mul_add_mod,Nat.mod_mod]
  ·rw[if_neg ae];obtain⟨q,rfl⟩:∃q,k=j+1+q:=⟨k-j-1,ae⟩;rw[show j+1+q-(j+1)=q by omega,show j+1+q-j=q+1 by omega];have:(X/ah^(j+1)%Y*ah+X/ah^j%ah)/ah=X/ah^(j+1)%Y:=by
    rw[Nat.mul_comm,Nat.mul_add_div ax,Nat.div_eq_of_lt (Nat.mod_lt _ ax)];omega
   have e2:ah^(q+1)=ah*ah^q:=Nat.pow_succ';rw[e2,<-Nat.div_div_eq_div_mul (X/ah^(j+1)%Y*ah+X/ah^j%ah),this]
def qiW(X Y j:Nat)(hy:0<Y):dvW X Y j/Y=X/Y/ah^j%ah:=UN X Y j hy
def qiX(X Y j:Nat)(hy:0<Y):dvW X Y j%Y=X/ah^j%Y:=UO X Y j hy
theorem qeB{X Y W L g j k:Nat}(h:Ee Y W L)(hg:g=W/Y):TJ X W (um Y W L g) j (L+1) k=xw X j (W%Y) k:=by
 unfold TJ xw
 by_cases c:k<j
 ·rw[if_pos c,if_pos c]
 ·rw[if_neg c,if_neg c];have hD:um Y W L g=W%Y+ah^(L+1):=by
   unfold um;subst hg;have:=Nat.div_add_mod W Y;rw[Nat.mul_comm] at this;omega
  have hr:=Nat.mod_lt W h.pos
  by_cases c2:k<j+(L+1)
  ·rw[if_pos c2,hD,LJ ae]
  ·rw[if_neg c2];have h1:ah^(L+1)<=ah^(k-j):=Nat.pow_le_pow_right ax ae;have h2:=h.wlt;have h3:=h.hi;have h4:ah^L<=ah^(L+1):=Nat.pow_le_pow_right ax ae;rw[Nat.div_eq_of_lt ae,Nat.div_eq_of_lt ae]
def abT(X Y W D L j i k:Nat):Nat:=if k<j then X/ah^k%ah else if k<j+i then(D+Y)/ah^(k-j)%ah else if k<j+(L+1) then D/ah^(k-j)%ah else W/ah^(k-j)%ah
def U1(X Y W D L j k:Nat):TJ X W D j (L+1) k=abT X Y W D L j 0 k:=by
 unfold TJ abT
 by_cases c:k<j
 ·rw[if_pos c,if_pos c]
 ·rw[if_neg c,if_neg c,if_neg (by omega:¬k<j+0)]
def qeC(X Y W D L j i:Nat)(hi:i<=L):abT X Y W D L j i (i+j)=D/ah^i%ah:=by
 unfold abT;rw[if_neg ae,if_neg ae,if_pos ae,show i+j-j=i by omega]
theorem U2(X Y W D L j i k:Nat):abT X Y W D L j (i+1) k=if k=i+j then uJ D Y i%4294967296 else abT X Y W D L j i k:=by
 rw[UK];unfold abT
 by_cases e:k=i+j
 ·subst e;rw[if_neg ae,if_pos ae,if_pos rfl,show i+j-j=i by omega]
 ·rw[if_neg e]
  by_cases c:k<j
  ·rw[if_pos c,if_pos c]
  ·rw[if_neg c,if_neg c]
   by_cases c2:k<j+i
   ·rw[if_pos c2,if_pos ae]
   ·rw[if_neg c2,if_neg ae]
def qnk{X Y W L g j k:Nat}(h:Ee Y W L)(hg:g=W/Y+1):abT X Y W (um Y W L g) L j (L+1) k=xw X j (W%Y) k:=by
 have e:um Y W L g+Y=um Y W L (W/Y):=by
  have h1:=qeA h (g:=g) ae;unfold um;subst hg;rw[Nat.add_mul] at h1 ⊢;omega
 rw[<-qeB (X:=X) (j:=j) (k:=k) h rfl,<-e];unfold abT TJ
 by_cases c:k<j
 ·rw[if_pos c,if_pos c]
 ·rw[if_neg c,if_neg c]
  by_cases c2:k<j+(L+1)
  ·rw[if_pos c2,if_pos c2]
  ·rw[if_neg c2,if_neg c2,if_neg c2]
theorem qnl(D Y L:Nat)(hY:Y<ah^L):(D/ah^L%ah+uK D Y L%4294967296)%4294967296=uJ D Y L%4294967296:=by
 rw[JO,show Y/ah^L%ah=0 by rw[Nat.div_eq_of_lt hY];rfl];omega
def qeD{Y W L g:Nat}(h:Ee Y W L)(h1:g<=W/Y+1)(h2:W/Y<=g)(hb:lq (W+ah^(L+1)) (g*Y) (L+1)=1):g=W/Y+1:=by
 rcases Nat.lt_or_ge (W/Y) g with c|c
 ·omega
 ·exfalso
  have e:g=W/Y:=ae;subst e;unfold lq at hb;have h3:=Nat.div_mul_le_self W Y;have h4:=h.wlt;rw[Nat.add_mod_right,Nat.mod_eq_of_lt h4,Nat.mod_eq_of_lt ae,if_neg ae] at hb;cases hb
def qnm{Y W L g:Nat}(h:Ee Y W L)(h1:g<=W/Y+1)(h2:W/Y<=g)(hB:g<=4294967296)(hb:lq (W+ah^(L+1)) (g*Y) (L+1)=0):g=W/Y:=by
 rcases Nat.lt_or_ge (W/Y) g with c|c
 ·exfalso
  have e:g=W/Y+1:=ae;unfold lq at hb;have h3:=Nat.div_add_mod W Y;have h4:=h.wlt;have h5:=Nat.mod_lt W h.pos;have h6:g*Y<ah^(L+1):=by
   rw[mX,Nat.mul_comm];exact Nat.mul_lt_mul_of_lt_of_le h.hi hB ax
  rw[Nat.add_mod_right,Nat.mod_eq_of_lt h4,Nat.mod_eq_of_lt h6] at hb;have h7:g*Y=Y*(W/Y)+Y:=by rw[e,Nat.add_mul,Nat.mul_comm,Nat.one_mul]
  rw[if_pos ae] at hb;cases hb
 ·omega
theorem qiY{Y L g:Nat}(hY:Y<ah^L)(hB:g<=4294967296):gC Y g L=g*Y/ah^L%ah:=by
 have h1:gC Y g L=g*Y/ah^L:=(by unfold gC;rw[Nat.mod_eq_of_lt hY]);have h2:=PE Y g L hB;rw[h1] at h2 ⊢;exact(Nat.mod_eq_of_lt (by unfold ah at*;omega)).symm
def qnn{n:Nat}(h0:n≠0):∃s,s<32∧(32-(Lib.bitLen (n/ah^((ai ah n).length-1)%ah):Int))=((s:Nat):Int)∧ah^(ai ah n).length<=2*(n*2^s)∧n*2^s<ah^(ai ah n).length:=by
 have hlt:=dM dE n;have hl:0<(ai ah n).length:=by
  rcases Nat.eq_zero_or_pos (ai ah n).length with h|h
  ·exact absurd ((wB dE).1 (List.eq_nil_of_length_eq_zero h)) h0
  ·exact h
 generalize hL:(ai ah n).length=L at*
 obtain⟨k,rfl⟩:∃k,L=k+1:=⟨L-1,ae⟩;simp only[Nat.add_sub_cancel];have hk:ah^k<=n:=by
  rcases Nat.lt_or_ge n (ah^k) with h|h
  ·have:=jq dE h;omega
  ·exact h
 have ht:n/ah^k<ah:=(by rw[Nat.div_lt_iff_lt_mul (dw k),Nat.mul_comm,<-mX];exact hlt);have ht0:0<n/ah^k:=Nat.div_pos hk (dw k);rw[Nat.mod_eq_of_lt ht];obtain⟨b1,b2,b3⟩:=xx (x:=n/ah^k) (Nat.lt_trans ht ax) ae;have b4:Lib.bitLen (n/ah^k)<=32:=Lib.bitLen_le _ 32 ae ht
 generalize Lib.bitLen (n/ah^k)=b at*
 refine⟨32-b,ae,ae,?_,?_⟩
 ·have h1:2^(b-1)*ah^k<=n:=by
   have:=Nat.mul_le_mul_right (ah^k) b2;exact Nat.le_trans this (Nat.div_mul_le_self _ _)
  have h2:=Nat.mul_le_mul_right (2^(32-b)) h1;have h3:2^(b-1)*ah^k*2^(32-b)*2=ah^(k+1):=by
   have e:2^(b-1)*2^(32-b)*2=ah:=by
    rw[<-Nat.pow_add,<-Nat.pow_succ,show(b-1+(32-b)).succ=32 by omega];rfl
   rw[mX,<-e];grind
  omega
 ·have h1:n<2^b*ah^k:=by
   exact Nat.lt_mul_of_div_lt b3 (dw k)
  have h2:=(Nat.mul_lt_mul_right (a:=2^(32-b)) (Nat.pow_pos ae)).2 h1;have h3:2^b*ah^k*2^(32-b)=ah^(k+1):=by
   have e:2^b*2^(32-b)=ah:=(by rw[<-Nat.pow_add,show b+(32-b)=32 by omega];rfl);rw[mX,<-e];grind
  omega
def qiZ{m n s:Nat}(hs:s<32)(hlen:(ai ah n).length<=(ai ah m).length)(h1:ah^(ai ah n).length<=2*(n*2^s)):m*2^s/ah^((ai ah m).length+1-(ai ah n).length)<n*2^s:=by
 rw[Nat.div_lt_iff_lt_mul (dw _)];have h2:=dM dE m;have h3:=yZ hs;have h4:m*2^s<=m*2147483648:=Nat.mul_le_mul_left _ h3;have h5:ah^(ai ah n).length*ah^((ai ah m).length+1-(ai ah n).length)=ah^(ai ah m).length*ah:=by
  rw[<-Nat.pow_add,<-mX];congr 1;omega
 have h6:=Nat.mul_le_mul_right (ah^((ai ah m).length+1-(ai ah n).length)) h1;rw[h5,Nat.mul_assoc] at h6;have h7:ah^(ai ah m).length*ah=2*(2147483648*ah^(ai ah m).length):=ZL;omega
def qi0{X Y M k:Nat}(h:X/ah^M<Y):Oi X k=xw X M (X/ah^M%Y) k:=by
 unfold xw Oi;rw[Nat.mod_eq_of_lt h]
 split
 ·rfl
 ·rw[Nat.div_div_eq_div_mul,<-Nat.pow_add,show M+(k-M)=k by omega]
def Rj{X Y W j:Nat}(hW:dvW X Y j=W)(k:Nat):xw X (j+1) (X/ah^(j+1)%Y) (k+j)=W/ah^k%ah:=by
 rw[U0 X Y 0 j,hW];unfold TJ;rw[if_neg ae,if_neg ae,show k+j-j=k by omega]
def qk9{X Y W j:Nat}(hW:dvW X Y j=W)(D k:Nat):xw X (j+1) (X/ah^(j+1)%Y) k=TJ X W D j 0 k:=by
 rw[U0 X Y D j,hW]
def Ee.whigh{Y W L:Nat}(h:Ee Y W L):2^32*(W/ah^L%ah)+W/ah^(L-1)%ah=W/ah^(L-1):=by
 have h1:=qee W (L-1);rw[show L-1+1=L by have:=h.hL;omega] at h1;have h2:W/ah^L<ah:=(by rw[Nat.div_lt_iff_lt_mul (dw L),Nat.mul_comm,<-mX];exact h.wlt);rw[Nat.mod_eq_of_lt h2,Nat.mul_comm];exact h1.symm
def Ee.ytop{Y W L:Nat}(h:Ee Y W L):Oi Y (L-1)=Y/ah^(L-1):=by
 unfold Oi;exact Nat.mod_eq_of_lt h.y1.2
def qpO{p q:Nat}(hp:p<4294967296)(hq:q<4294967296):p*q<18446744073709551616:=by
 have:p*q<=4294967295*4294967295:=Nat.mul_le_mul ae ae;omega
def LK{Y W L g i:Nat}(h:Ee Y W L)(hg1:g<=W/Y+1)(hi:i<=L)(hd:W/ah^i%ah<g*Y/ah^i%ah+lq (W+ah^(L+1)) (g*Y) i):
 W/ah^i%ah+4294967296=um Y W L g/ah^i%ah+g*Y/ah^i%ah+lq (W+ah^(L+1)) (g*Y) i∧lq (W+ah^(L+1)) (g*Y) (i+1)=1:=by
 have:=ZB (i:=i) (qeA h hg1) (by rw[LJ hi];exact hd);rw[LJ hi] at this;exact this
def LM{Y W L g i:Nat}(h:Ee Y W L)(hg1:g<=W/Y+1)(hi:i<=L)(hd:¬W/ah^i%ah<g*Y/ah^i%ah+lq (W+ah^(L+1)) (g*Y) i):
 W/ah^i%ah=um Y W L g/ah^i%ah+g*Y/ah^i%ah+lq (W+ah^(L+1)) (g*Y) i∧lq (W+ah^(L+1)) (g*Y) (i+1)=0:=by
 have:=ZC (i:=i) (qeA h hg1) (by rw[LJ hi];exact hd);rw[LJ hi] at this;exact this
def qno{Y W L g i:Nat}(h:Ee Y W L)(hg1:g<=W/Y+1)(hi:i<=L):IntKind.u32.wrap (((W/ah^i%ah:Nat):Int)-((lq (W+ah^(L+1)) (g*Y) i:Nat):Int)-((g*Y/ah^i%ah:Nat):Int))=((um Y W L g/ah^i%ah:Nat):Int):=by
 rw[qh8];have hD:=bJ (um Y W L g/ah^i)
 by_cases c:W/ah^i%ah<g*Y/ah^i%ah+lq (W+ah^(L+1)) (g*Y) i
 ·have:=(LK h hg1 hi c).1
  generalize W/ah^i%ah=w at*
  generalize g*Y/ah^i%ah=p at*
  generalize um Y W L g/ah^i%ah=d at*
  generalize lq (W+ah^(L+1)) (g*Y) i=b at*
  omega
 ·have:=(LM h hg1 hi c).1
  generalize W/ah^i%ah=w at*
  generalize g*Y/ah^i%ah=p at*
  generalize um Y W L g/ah^i%ah=d at*
  generalize lq (W+ah^(L+1)) (g*Y) i=b at*
  omega
def uo(X Y p k:Nat):Nat:=if k<p then 0 else X/Y/ah^k%ah
theorem qbV(X Y j k:Nat):uo X Y j k=if k=j then X/Y/ah^j%ah else uo X Y (j+1) k:=by
 unfold uo
 by_cases e:k=j
 ·subst e;rw[if_neg ae,if_pos rfl]
 ·rw[if_neg e]
  by_cases c:k<j
  ·rw[if_pos c,if_pos ae]
  ·rw[if_neg c,if_neg ae]
def qi1(X Y p k:Nat):uo X Y p k<ah:=by unfold uo;split;decide;exact bJ _
theorem qi2{m n s M:Nat}(h0:n≠0)(h:m*2^s/ah^M<n*2^s):val ah (row M (uo (m*2^s) (n*2^s) 0))=m/n:=by
 have e:m*2^s/(n*2^s)=m/n:=Nat.mul_div_mul_right m n (Nat.pow_pos ae);rw[dh (g:=fun j=>m/n/ah^j%ah) (fun j _=>by unfold uo;rw[if_neg ae,e]),pM ah ax,Nat.mod_eq_of_lt];have hp:0<n*2^s:=Nat.mul_pos ae (Nat.pow_pos ae);rw[<-e,Nat.div_lt_iff_lt_mul hp];rw[Nat.div_lt_iff_lt_mul (dw M)] at h;rw[Nat.mul_comm (n*2^s) (ah^M)] at h;exact h
def ZO(m n s k:Nat):xw (m*2^s) 0 (m*2^s/ah^0% (n*2^s)) k=m%n*2^s/ah^k%ah:=by
 unfold xw;rw[if_neg ae,Nat.sub_zero,Nat.pow_zero,Nat.div_one,Nat.mul_mod_mul_right]
def yw(r i k:Nat):Nat:=if k<i then r/ah^k%ah else 0
theorem Xm(r k:Nat):yw r 0 k=0:=by simp[yw]
theorem Xn(r i k:Nat):yw r (i+1) k=if k=i then r/ah^i%ah else yw r i k:=by
 unfold yw
 by_cases e:k=i
 ·subst e;rw[if_pos ae,if_pos rfl]
 ·rw[if_neg e]
  by_cases c:k<i
  ·rw[if_pos c,if_pos ae]
  ·rw[if_neg c,if_neg ae]
def qeE(r i k:Nat):yw r i k<ah:=by unfold yw;split;exact bJ _;decide
theorem qeF{m n:Nat}(h0:n≠0):val ah (row (ai ah n).length (yw (m%n) (ai ah n).length))=m%n:=by
 rw[dh (g:=fun j=>m%n/ah^j%ah) (fun j hj=>by unfold yw;rw[if_pos hj]),pM ah ax,Nat.mod_eq_of_lt];exact Nat.lt_trans (Nat.mod_lt _ ae) (dM dE n)
def qi3(V i:Nat):2^32*(V/ah^(i+1)%ah)+V/ah^i%ah=V/ah^i% (ah*ah):=by
 rw[Nat.mod_mul,mX,<-Nat.div_div_eq_div_mul];show ah*_+_=_;omega
def qi4(V i:Nat):V/ah^i% (ah*ah)<18446744073709551616:=Nat.mod_lt _ ax
theorem qeG{r s i:Nat}(hs:s<32):r*2^s/ah^i% (ah*ah)/2^s%4294967296=r/ah^i%ah:=by
 show _%ah=_;have hp:0<2^s:=Nat.pow_pos ae;have e:ah*ah=2^s*(ah*2^(32-s)):=by
  have:=wK hs
  conv=>lhs;rw[this]
  rw[<-this];conv=>lhs;arg 1;rw[this]
  grind
 rw[e,Nat.mod_mul,Nat.add_mul_div_left _ _ hp,Nat.div_eq_of_lt (Nat.mod_lt _ hp),Nat.zero_add];have e2:r*2^s/ah^i/2^s=r/ah^i:=by
  rw[Nat.div_div_eq_div_mul,Nat.mul_comm (ah^i),<-Nat.div_div_eq_div_mul,Nat.mul_div_cancel _ hp]
 rw[e2,Nat.mod_mul_right_mod]
def qi5(Y g i:Nat):((gC Y g i:Nat):Int)+((g*(Y/ah^i%ah):Nat):Int)=((gS Y g i:Nat):Int):=by unfold gS;omega
def qbW(D Y i:Nat):((uK D Y i:Nat):Int)+((D/ah^i%ah+Y/ah^i%ah:Nat):Int)=((uJ D Y i:Nat):Int):=by rw[JO];omega
def LP{m n:Nat}(h:decide (mO m n<0)=false):n<=m:=by
 have:=of_decide_eq_false h;unfold mO at this;rcases Nat.lt_or_ge m n with c|c
 ·rw[if_pos c] at this;exact absurd ax this
 ·exact c
def PG{m n:Nat}(h:decide (mO m n<0)=true):m<n:=by
 have:=of_decide_eq_true h;unfold mO at this;rcases Nat.lt_or_ge m n with c|c
 ·exact c
 ·rw[if_neg ae] at this
  split at this<;>exact absurd this ax
def qi6{n:Nat}(h0:n≠0):0<(ai ah n).length:=by
 rcases Nat.eq_zero_or_pos (ai ah n).length with h|h
 ·exact absurd ((wB dE).1 (List.eq_nil_of_length_eq_zero h)) h0
 ·exact h
def qi7{n:Nat}(h:(ai ah n).length=1):n<4294967296:=by have:=dM dE n;rw[h] at this;exact this
def qeH{n:Nat}(h1:(ai ah n).length=1)(hn:n<4294967296):(ai ah n)[0]? =some n:=by
 rw[lm dE ae,Nat.pow_zero,Nat.div_one];exact congrArg some (Nat.mod_eq_of_lt hn)
def D8(n:Nat):List Nat:=ai 256 n
theorem jR(n:Nat):(D8 n).length=nb n:=rfl
def qnp{n i:Nat}(h:i<nb n):(D8 n)[i]? =some (n/256^i%256):=lF ae n i h
def wO(n q:Nat):n/256^q=n/256^(q+1)*256+n/256^q%256:=by
 rw[Nat.pow_succ,<-Nat.div_div_eq_div_mul];have:=Nat.div_add_mod (n/256^q) 256;omega
def PH{a b q:Nat}(h:a/256^q<b/256^q):a<b:=by
 rcases Nat.lt_or_ge a b with c|c
 ·exact c
 ·have:=Nat.div_le_div_right (c:=256^q) c;omega
theorem Xo{a b:Nat}(h:nb a<nb b):mO a b= -1:=by unfold mO;rw[if_pos (Zy h)]
theorem Xp{a b:Nat}(h:nb b<nb a):mO a b=1:=by
 have:=Zy h;unfold mO;rw[if_neg ae,if_pos this]
theorem Xq{a b q:Nat}(he:a/256^(q+1)=b/256^(q+1))(h:a/256^q%256<b/256^q%256):mO a b= -1:=by
 have h1:=wO a q;have h2:=wO b q;have:a<b:=PH (q:=q) ae;unfold mO;rw[if_pos this]
theorem Xt{a b q:Nat}(he:a/256^(q+1)=b/256^(q+1))(h:b/256^q%256<a/256^q%256):mO a b=1:=by
 have h1:=wO a q;have h2:=wO b q;have:b<a:=PH (q:=q) ae;unfold mO;rw[if_neg ae,if_pos this]
def Xu{a b q:Nat}(he:a/256^(q+1)=b/256^(q+1))(h1:¬a/256^q%256<b/256^q%256)(h2:¬b/256^q%256<a/256^q%256):a/256^q=b/256^q:=by
 have e1:=wO a q;have e2:=wO b q;omega
def qi8{a b:Nat}(h:nb a=nb b):a/256^nb a=b/256^nb a:=by
 rw[Nat.div_eq_of_lt (kH a),h,Nat.div_eq_of_lt (kH b)]
theorem qi9{a b:Nat}(h:a/256^0=b/256^0):mO a b=0:=by
 have:a=b:=pI;subst this;unfold mO;rw[if_neg (Nat.lt_irrefl _),if_neg (Nat.lt_irrefl _)]
def qeI{n q:Nat}(h7:nb n<=7):n/256^q<72057594037927936:=by
 have h1:=oZ h7;have:n/256^q<=n:=Nat.div_le_self _ _;omega
theorem qeJ(n:Nat):row (nb n) (xu n (nb n) (nb n))=(ai 256 n).reverse:=by
 apply List.ext_getElem?
 intro j
 by_cases hj:j<nb n
 ·rw[gm hj,List.getElem?_reverse (by exact hj)];have e:=lF (B:=256) ae n (nb n-1-j) qmk;unfold nb at e hj ⊢;rw[e];unfold xu;rw[if_pos ae]
 ·rw[List.getElem?_eq_none oz,List.getElem?_eq_none (by simp;unfold nb at hj;omega)]
theorem qja(n:Nat):ai 256 (val 256 (D8 n))=D8 n:=by unfold D8;rw[rX ae]
def Ef(n j:Nat):Nat:=n/256^j%256
def AY(n j:Nat):Ef n j<256:=Nat.mod_lt _ ax
theorem LQ(n:Nat):row (nb n) (Ef n)=D8 n:=(Aw (B:=256) ae n).symm
def FP(k:IntKind)(i:Nat)(f:Nat->Nat)(d:Int)(h:d=((f i:Nat):Int)):NV k (row i f)++[.int k d]=NV k (row (i+1) f):=by
 subst h;unfold NV row;rw[List.range_succ,List.map_append,List.map_append];rfl
def one_cell(k:IntKind)(d:Int):∀v∈[Value.int k d],v.oneCell'=true:=by
 intro v hv;rw[List.mem_singleton.1 hv];rfl
def PI{n i:Nat}(h:0<n/256^i):i<nb n:=by
 rcases Nat.lt_or_ge i (nb n) with c|c
 ·exact c
 ·rw[Nat.div_eq_of_lt (Nat.lt_of_lt_of_le (kH n) (gQ c))] at h;omega
def PK{n i:Nat}(h:n/256^i=0)(hi:i<=nb n):i=nb n:=by
 have h1:n<256^i:=(Nat.div_eq_zero_iff_lt (Nat.pow_pos ae)).1 h;have:=nP h1;omega
theorem Xv(n i:Nat):n/256^i/256=n/256^(i+1):=by rw[Nat.pow_succ,Nat.div_div_eq_div_mul]
def qla(n:Nat):∀d∈D8 n,d<256:=BR ae
theorem IL(n:Nat):(ai 256 (val 256 (D8 n))).length=nb n:=by rw[qja];rfl
theorem U3(n:Nat):(ai 256 (val 256 (row (nb n) (Ef n)))).length=nb n:=by rw[LQ,IL]
def qjb(n:Nat){neg:Bool}(h:neg=true):Value.agg #[.bool (decide ((0:Int)<nb n)),.string (bQ n)]=I (if neg=true then-(n:Int) else(n:Int)):=by
 rw[if_pos h];have e:=DY (n:=n);unfold I;have h1:decide ((0:Int)<nb n)=decide (-(n:Int)<0):=by
  by_cases c:n=0
  ·subst c;rw[kT];rfl
  ·rw[decide_eq_true ae,decide_eq_true ae]
 rw[h1,Int.natAbs_neg,Int.natAbs_natCast]
def qjc(n:Nat){neg:Bool}(h:neg=false):Value.agg #[.bool false,.string (bQ n)]=I (if neg=true then-(n:Int) else(n:Int)):=by
 subst h;rw[if_neg ax];unfold I;rw[decide_eq_false ae,Int.natAbs_natCast]
theorem gz(i:Nat):0<256^i:=Nat.pow_pos ae
def lZ(n:Nat):n%256<256:=Nat.mod_lt _ ae
def U4(X Y i:Nat):Nat:=(X%256^i+Y%256^i)/256^i+X/256^i%256+Y/256^i%256
def y8(X Y i:Nat):Nat:=(X%256^i+Y%256^i)/256^i
def y9(X Y i:Nat):y8 X Y i<=1:=by
 unfold y8;have h1:=Nat.mod_lt X (gz i);have h2:=Nat.mod_lt Y (gz i);have:(X%256^i+Y%256^i)/256^i<2:=by rw[Nat.div_lt_iff_lt_mul (gz i)];omega
 omega
theorem qbX(X Y:Nat):y8 X Y 0=0:=by simp[y8,Nat.mod_one]
theorem Rk(X Y i:Nat):U4 X Y i=y8 X Y i+X/256^i%256+Y/256^i%256:=rfl
def Ci(X Y i:Nat):U4 X Y i<512:=by
 have:=y9 X Y i;have h1:=lZ (X/256^i);have h2:=lZ (Y/256^i);rw[Rk];omega
theorem Xw(X Y i:Nat):U4 X Y i/256=y8 X Y (i+1):=by
 show _/256=_;unfold U4 y8;rw[Nat.pow_succ,Nat.mod_mul,Nat.mod_mul,<-Nat.div_div_eq_div_mul]
 congr 1
 have e:X%256^i+256^i*(X/256^i%256)+(Y%256^i+256^i*(Y/256^i%256))=(X%256^i+Y%256^i)+256^i*(X/256^i%256+Y/256^i%256):=(by rw[Nat.mul_add];omega);rw[e,Nat.add_mul_div_left _ _ (gz i)];omega
theorem qeK(X Y i:Nat):U4 X Y i%256=(X+Y)/256^i%256:=by
 show _%256=_;have e:X+Y=(X%256^i+Y%256^i)+256^i*(X/256^i+Y/256^i):=by
  have h1:=Nat.mod_add_div X (256^i);have h2:=Nat.mod_add_div Y (256^i);rw[Nat.mul_add];omega
 conv=>rhs;rw[e]
 rw[Nat.add_mul_div_left _ _ (gz i)];unfold U4
 generalize(X%256^i+Y%256^i)/256^i=c
 generalize X/256^i=p
 generalize Y/256^i=q
 rw[Nat.add_assoc,Nat.add_mod,<-Nat.add_mod p q,<-Nat.add_mod]
def zf(m n i:Nat):Nat:=if m%256^i<n%256^i then 1 else 0
theorem qbY(m n:Nat):zf m n 0=0:=by simp[zf,Nat.mod_one]
def Rn(m n i:Nat):zf m n i<=1:=by unfold zf;split<;>omega
def ZP{m n i:Nat}(h:n<=m):(m-n)/256^i+n/256^i+zf m n i=m/256^i:=by
 have h1:=Nat.mod_add_div m (256^i);have h2:=Nat.mod_add_div n (256^i);have h3:=Nat.mod_lt m (gz i);have h4:=Nat.mod_lt n (gz i);have hp:=gz i
 generalize hP:256^i=P at*
 generalize m/P=M at*
 generalize n/P=N at*
 unfold zf;exact qkZ
theorem PL(m n i:Nat):zf m n (i+1)=if m/256^i%256<n/256^i%256+zf m n i then 1 else 0:=by
 unfold zf;rw[Nat.pow_succ,Nat.mod_mul,Nat.mod_mul];have h3:=Nat.mod_lt m (gz i);have h4:=Nat.mod_lt n (gz i)
 generalize m/256^i%256=x
 generalize n/256^i%256=y
 generalize hP:256^i=P at*
 exact qea
def qjd{m n i:Nat}(h:n<=m)(hd:m/256^i%256<n/256^i%256+zf m n i):m/256^i%256+256=(m-n)/256^i%256+n/256^i%256+zf m n i∧zf m n (i+1)=1:=by
 refine⟨?_,by rw[PL,if_pos hd]⟩;have h1:=ZP (i:=i) h;have h2:=Rn m n i;omega
def qje{m n i:Nat}(h:n<=m)(hd:¬m/256^i%256<n/256^i%256+zf m n i):m/256^i%256=(m-n)/256^i%256+n/256^i%256+zf m n i∧zf m n (i+1)=0:=by
 refine⟨?_,by rw[PL,if_neg hd]⟩;have h1:=ZP (i:=i) h;have h2:=Rn m n i;omega
theorem yx{Y i:Nat}(h:nb Y<=i):Y/256^i%256=0:=by
 rw[Nat.div_eq_of_lt (Nat.lt_of_lt_of_le (kH Y) (gQ h))]
def qeL(a b i:Nat)(ha:nb a<=i)(hb:nb b<=i)(hc:y8 a b i=0):a+b<256^i:=by
 unfold y8 at hc;rw[Nat.mod_eq_of_lt (Nat.lt_of_lt_of_le (kH a) (gQ ha)),Nat.mod_eq_of_lt (Nat.lt_of_lt_of_le (kH b) (gQ hb))] at hc;exact(Nat.div_eq_zero_iff_lt (gz i)).1 hc
def qbZ(a b i:Nat)(h:0<y8 a b i)(ha:nb a<=i)(hb:nb b<=i):i<=max (nb a) (nb b):=by
 rcases Nat.lt_or_ge (max (nb a) (nb b)) i with c|c
 ·exfalso
  have h1:a<256^(i-1):=Nat.lt_of_lt_of_le (kH a) (gQ ae);have h2:b<256^(i-1):=Nat.lt_of_lt_of_le (kH b) (gQ ae);have h3:256^i=256^(i-1)*256:=(by rw[<-Nat.pow_succ,show(i-1).succ=i by omega]);unfold y8 at h;rw[Nat.mod_eq_of_lt ae,Nat.mod_eq_of_lt ae,Nat.div_eq_of_lt ae] at h;omega
 ·exact c
theorem qjf(N k:Nat)(h:N<256^k):val 256 (row k (Ef N))=N:=by
 unfold Ef;rw[pM 256 ae,Nat.mod_eq_of_lt h]
theorem LU(N k:Nat)(h:N<256^k):ai 256 (val 256 (row k (Ef N)))=D8 N:=by rw[qjf N k h];rfl
def U5(N k:Nat)(h:N<256^k):NV .i64 (D8 N)=(NV .i64 (row k (Ef N))).take (nb N):=by
 have:=yu (B:=256) ae (kY (n:=k) (fun j=>AY N j));rw[LU N k h] at this;rw[Fa];congr 1;exact this.symm
def tC(m n i:Nat):Nat:=m%256^i*n
def AZ(m n i k:Nat):Nat:=(tC m n i/256^i%256^k+m/256^i%256*(n%256^k))/256^k
def Eg(m n i k:Nat):Nat:=AZ m n i k+tC m n i/256^(i+k)%256+m/256^i%256*(n/256^k%256)
def LV(m n i k j:Nat):Nat:=if j<i+k then tC m n (i+1)/256^j%256 else tC m n i/256^j%256
def Eh(m n i j:Nat):Nat:=tC m n i/256^j%256
theorem PM(m n i:Nat):tC m n (i+1)=tC m n i+256^i*(m/256^i%256*n):=by
 unfold tC;rw[Nat.pow_succ,Nat.mod_mul,Nat.add_mul,Nat.mul_assoc]
theorem qb3(m n i:Nat):AZ m n i 0=0:=by simp[AZ,Nat.mod_one]
def Cj(m n i k:Nat):AZ m n i k<256:=by
 unfold AZ;rw[Nat.div_lt_iff_lt_mul (gz k)];have h1:=Nat.mod_lt (tC m n i/256^i) (gz k);have h2:=Nat.mod_lt n (gz k);have h3:m/256^i%256+1<=256:=Nat.mod_lt _ ax;have h4:(m/256^i%256)*(n%256^k)<=(m/256^i%256)*(256^k):=Nat.mul_le_mul_left _ ae;have h5:(m/256^i%256+1)*256^k<=256*256^k:=Nat.mul_le_mul_right _ h3;rw[Nat.add_mul] at h5;omega
theorem zh(V i k:Nat):V/256^(i+k)=V/256^i/256^k:=qk0
theorem LW(m n i k:Nat):Eg m n i k/256=AZ m n i (k+1):=by
 show _/256=_;unfold Eg AZ;rw[zh,Nat.pow_succ,Nat.mod_mul,Nat.mod_mul,<-Nat.div_div_eq_div_mul]
 congr 1
 generalize m/256^i%256=dd
 generalize tC m n i/256^i=A
 have e:A%256^k+256^k*(A/256^k%256)+dd*(n%256^k+256^k*(n/256^k%256))=(A%256^k+dd*(n%256^k))+256^k*(A/256^k%256+dd*(n/256^k%256)):=dY;rw[e,Nat.add_mul_div_left _ _ (gz k)];omega
theorem U6(m n i k:Nat):Eg m n i k%256=tC m n (i+1)/256^(i+k)%256:=by
 show _%256=_;unfold Eg AZ;rw[zh,zh,PM,Nat.add_mul_div_left _ _ (gz i)]
 generalize m/256^i%256=dd
 generalize tC m n i/256^i=A
 have e:A+dd*n=(A%256^k+dd*(n%256^k))+256^k*(A/256^k+dd*(n/256^k)):=by
  have h1:=Nat.mod_add_div A (256^k);have h2:=Nat.mod_add_div n (256^k)
  conv=>lhs;rw[<-h1,<-h2]
  grind
 conv=>rhs;rw[e]
 rw[Nat.add_mul_div_left _ _ (gz k)]
 generalize(A%256^k+dd*(n%256^k))/256^k=c
 generalize A/256^k=p
 generalize n/256^k=q
 have e2:∀x y z w:Nat,(x+y%256+z*(w%256))%256=(x+(y+z*w))%256:=by
  intro x y z w;have h1:=Nat.mod_add_div y 256;have h2:=Nat.mod_add_div w 256;have:x+(y+z*w)=(x+y%256+z*(w%256))+256*(y/256+z*(w/256)):=by
   conv=>lhs;rw[<-h1,<-h2]
   grind
  rw[this,Nat.add_mul_mod_self_left]
 exact e2 c p dd q
theorem qjg(m n i k:Nat):LV m n i k (i+k)=tC m n i/256^(i+k)%256:=by unfold LV;rw[if_neg ae]
theorem qb4(m n i k j:Nat):LV m n i (k+1) j=if j=i+k then Eg m n i k%256 else LV m n i k j:=by
 rw[U6];unfold LV
 by_cases e:j=i+k
 ·subst e;rw[if_pos ae,if_pos rfl]
 ·rw[if_neg e]
  by_cases c:j<i+k
  ·rw[if_pos c,if_pos ae]
  ·rw[if_neg c,if_neg ae]
def qb5(m n i j:Nat):LV m n i 0 j=Eh m n i j:=by
 unfold LV Eh
 split
 ·rename_i h
  rw[PM];have e0:256^i=256^j*(256*256^(i-j-1)):=by
   rw[<-Nat.mul_assoc,<-Nat.pow_succ,<-Nat.pow_add,show j+1+(i-j-1)=i by omega]
  have e:256^i*(m/256^i%256*n)=256^j*(256*(256^(i-j-1)*(m/256^i%256*n))):=by
   generalize m/256^i%256*n=r
   rw[e0,Nat.mul_assoc,Nat.mul_assoc]
  rw[e,Nat.add_mul_div_left _ _ (gz j),Nat.add_mul_mod_self_left]
 ·rfl
theorem JS(m n i:Nat):tC m n i<256^(i+nb n):=by
 unfold tC;rw[Nat.pow_add];have h1:=Nat.mod_lt m (gz i);have h2:=kH n
 calc m%256^i*n<=256^i*n:=Nat.mul_le_mul_right _ (by omega)
  _<256^i*256^nb n:=(Nat.mul_lt_mul_left (gz i)).2 h2
theorem qb6(m n j:Nat):Eh m n 0 j=0:=by simp[Eh,tC,Nat.mod_one]
def qeM(m n:Nat):val 256 (row (nb m+nb n+1) (Eh m n (nb m)))=m*n:=by
 have e:tC m n (nb m)=m*n:=(by unfold tC;rw[Nat.mod_eq_of_lt (kH m)]);have h:=JS m n (nb m);rw[dh (g:=fun j=>m*n/256^j%256) (fun j hj=>by unfold Eh;rw[e]),pM 256 ax,Nat.mod_eq_of_lt];rw[e] at h;exact Nat.lt_of_lt_of_le h (Nat.pow_le_pow_right ax ae)
def ZQ(m n i j:Nat):Eh m n i j<256:=lZ _
def U7(p q:Nat):p%256*(q%256)<=65025:=by
 have h1:p%256<=255:=ae;have h2:q%256<=255:=ae;exact Nat.mul_le_mul h1 h2
theorem Hw(m n i:Nat){k:Nat}(hk:nb n<=k):Eg m n i k=AZ m n i k:=by
 unfold Eg;have h1:256^(i+nb n)<=256^(i+k):=gQ ae;rw[yx hk,Nat.div_eq_of_lt (Nat.lt_of_lt_of_le (JS m n i) h1)];simp
theorem qeN(m n i:Nat){k:Nat}(hk:nb n<=k):AZ m n i (k+1)=0:=by
 rw[<-LW,Hw m n i hk];have:=Cj m n i k;omega
def qeO(m n i k:Nat)(h:0<AZ m n i k):k<=nb n:=by
 rcases Nat.lt_or_ge (nb n) k with c|c
 ·obtain⟨q,rfl⟩:∃q,k=q+1:=⟨k-1,ae⟩;rw[qeN m n i ae] at h;omega
 ·exact c
def qb7(m n i k j:Nat)(hk:nb n<=k)(hc:AZ m n i k=0):LV m n i k j=Eh m n (i+1) j:=by
 unfold LV Eh
 by_cases c:j<i+k
 ·rw[if_pos c]
 ·rw[if_neg c];have h1:256^(i+nb n)<=256^j:=gQ ae;rw[Nat.div_eq_of_lt (Nat.lt_of_lt_of_le (JS m n i) h1)]
  by_cases e:j=i+k
  ·subst e;rw[<-U6,Hw m n i hk,hc]
  ·have h2:256^(i+1+nb n)<=256^j:=gQ ae;rw[Nat.div_eq_of_lt (Nat.lt_of_lt_of_le (JS m n (i+1)) h2)]
theorem Xx(m n:Nat):val 256 (row (nb m+nb n+1) (Eh m n (nb m)))=m*n:=qeM m n
theorem U8(m n:Nat):ai 256 (val 256 (row (nb m+nb n+1) (Eh m n (nb m))))=D8 (m*n):=by rw[Xx];rfl
def qeP(m n:Nat):NV .i64 (D8 (m*n))=(NV .i64 (row (nb m+nb n+1) (Eh m n (nb m)))).take (nb (m*n)):=by
 have:=yu (B:=256) ae (kY (n:=nb m+nb n+1) (fun j=>ZQ m n (nb m) j));rw[U8] at this;rw[Fa];congr 1;exact this.symm
def qeQ(m n i k:Nat):Eg m n i k<131072:=by
 have h1:=Cj m n i k;have h2:=lZ (tC m n i/256^(i+k));have h3:=U7 (m/256^i) (n/256^k);unfold Eg;omega
def Hy(a b p:Nat):Nat:=a/256^(p+1)%b*256+a/256^p%256
def qeR(a b p:Nat)(hb:0<b):a/256^p=b*(a/256^(p+1)/b*256)+Hy a b p:=by
 have h1:=wO a p;have h2:=Nat.div_add_mod (a/256^(p+1)) b;unfold Hy
 conv=>lhs;rw[h1,<-h2]
 rw[Nat.add_mul,Nat.mul_assoc,Nat.add_assoc]
def Xy(a b p:Nat)(hb:0<b):Hy a b p<256*b:=by
 unfold Hy;have h1:a/256^(p+1)%b+1<=b:=Nat.mod_lt _ hb;have h2:=lZ (a/256^p);omega
theorem qjh(a b p:Nat)(hb:0<b):Hy a b p/b=a/b/256^p%256:=by
 have h1:=qeR a b p hb;have h2:Hy a b p/b<256:=(by rw[Nat.div_lt_iff_lt_mul hb];exact Xy a b p hb);have e:a/b/256^p=a/256^p/b:=qk1;rw[e,h1,Nat.mul_add_div hb,Nat.mul_comm _ 256,Nat.mul_add_mod,Nat.mod_eq_of_lt h2]
theorem qji(a b p:Nat)(hb:0<b):Hy a b p%b=a/256^p%b:=by
 have h1:=qeR a b p hb
 conv=>rhs;rw[h1]
 rw[Nat.mul_add_mod]
def qjj(R d:Nat)(hd:d<256):val 256 (d::D8 R)=R*256+d:=by
 show d+256*val 256 (D8 R)=_;unfold D8;rw[rX ae];omega
def dq8{a b p q r:Nat}(hb:0<b)(h:q*b+r=Hy a b p)(hr:r<b):q=a/b/256^p%256∧r=a/256^p%b:=by
 rw[<-qjh a b p hb,<-qji a b p hb,<-h,Nat.mul_comm q b];exact⟨by rw[Nat.mul_add_div hb,Nat.div_eq_of_lt hr];omega,by rw[Nat.mul_add_mod,Nat.mod_eq_of_lt hr]⟩
def qeS{a b p q r s:Nat}(hb:0<b)(h:q*b+r=Hy a b p)(hs:s*b<=r):q+s<256:=by
 have h1:=Xy a b p hb;have h2:(q+s)*b<256*b:=(by rw[Nat.add_mul];omega);exact Nat.lt_of_mul_lt_mul_right h2
def U9{a b p q r s:Nat}(h:q*b+r=Hy a b p)(hs:s*b<=r):(q+s)*b+(r-s*b)=Hy a b p:=by rw[Nat.add_mul];omega
def TK(a b p k:Nat):Nat:=if k<p then 0 else a/b/256^k%256
end Go.Via
namespace Go.Via
open Go Go.RowKit
def dz(q:Rat):Int:=if q.den=1 then 0 else q.den
def qpP(q:Rat):Value.agg #[.bool false,.string (dm q)]=I (dz q):=by
 unfold dz dm I
 by_cases h:q.den=1
 ·simp only[if_pos h];rw[show(0:Int).natAbs=0 from rfl,iT];rfl
 ·simp only[if_neg h,Int.natAbs_natCast];rw[show decide (((q.den:Nat):Int)<0)=false from decide_eq_false ae]
theorem uO:nb 1=1:=by have h1:=nP (n:=1) (k:=1) ae;have h2:=Ea (u:=1) ae;omega
def qrO{q:Rat}(h:((nb (dz q).natAbs:Nat):Int)=0):q.den=1:=by
 unfold dz at h
 by_cases e:q.den=1
 ·exact e
 ·rw[if_neg e,Int.natAbs_natCast] at h;have:=Ea (u:=q.den) qdw;omega
def qrP{q:Rat}(h:¬((nb (dz q).natAbs:Nat):Int)=0):(dz q).natAbs=q.den:=by
 unfold dz at*
 by_cases e:q.den=1
 ·rw[if_pos e] at h;exact absurd (by rw[show(0:Int).natAbs=0 from rfl,kT];rfl) h
 ·rw[if_neg e,Int.natAbs_natCast]
def qpQ(q:Rat):jv (dz q)<=bY q:=by
 unfold dz jv bY
 split
 ·rw[show(0:Int).natAbs=0 from rfl,kT];omega
 ·rw[Int.natAbs_natCast];omega
theorem Xz:D8 1=[1]:=by
 have h:=LQ 1;rw[uO] at h;rw[<-h];simp[row,Ef]
def sg(neg:Bool)(n:Nat):Int:=if neg=true then-(n:Int) else(n:Int)
theorem qb8(neg:Bool)(n:Nat):(sg neg n).natAbs=n:=by unfold sg;split<;>simp
theorem Ro(neg:Bool)(n d:Nat):Int.gcd (sg neg n) d=Nat.gcd n d:=by rw[Int.gcd,qb8,Int.natAbs_natCast]
theorem qeT(neg:Bool)(n d:Nat):sg neg n/(Int.gcd (sg neg n) d:Int)=sg neg (n/Nat.gcd n d):=by
 rw[Ro];unfold sg
 split
 ·rw[Int.neg_ediv_of_dvd (Int.natCast_dvd_natCast.2 (Nat.gcd_dvd_left n d))];rfl
 ·rfl
def qeU{n d:Nat}(neg:Bool)(hd:0<d)(h1:d/Nat.gcd n d=1):Value.agg #[.bool (decide (sg neg (n/Nat.gcd n d)<0)),.string (bQ (sg neg (n/Nat.gcd n d)).natAbs),aT,aU]=Q (Rat.divInt (sg neg n) d):=by
 have:=QM (n:=sg neg n) (d:=d) ae (by rw[Ro];exact_mod_cast h1);rw[qeT] at this;exact this
def qeV{n d:Nat}(neg:Bool)(hd:0<d)(h1:d/Nat.gcd n d≠1):Value.agg #[.bool (decide (sg neg (n/Nat.gcd n d)<0)),.string (bQ (sg neg (n/Nat.gcd n d)).natAbs),.bool (decide (((d/Nat.gcd n d:Nat):Int)<0)),.string (bQ (((d/Nat.gcd n d:Nat):Int)).natAbs)]=Q (Rat.divInt (sg neg n) d):=by
 have:=QN (n:=sg neg n) (d:=d) ae (by rw[Ro];exact_mod_cast h1);rw[qeT,Ro] at this;exact this
theorem ZR{m:Nat}(h:nb m=1):m/256^0%256=m:=by
 have:=kH m;rw[h] at this;rw[Nat.pow_zero,Nat.div_one,Nat.mod_eq_of_lt ae]
def OA{m:Nat}(h:¬((nb m:Nat):Int)=1):m≠1:=fun e=>h (by rw[e,uO];rfl)
def qjk(n d:Int)(h:d≠0):Rat.divInt (sg (decide (n<0) !=decide (d<0)) n.natAbs) (d.natAbs:Int)=Rat.divInt n d:=by
 unfold sg
 by_cases hd:d<0
 ·have e:(d.natAbs:Int)= -d:=ae
  rw[e]
  by_cases hn:n<0
  ·rw[decide_eq_true hd,decide_eq_true hn];simp only[bne_self_eq_false,Bool.false_eq_true,if_false];rw[show(n.natAbs:Int)= -n by omega,Rat.neg_divInt_neg]
  ·rw[decide_eq_true hd,decide_eq_false hn];simp only[Bool.bne_true,Bool.not_false,if_true];rw[show(n.natAbs:Int)=n by omega,Rat.neg_divInt_neg]
 ·have e:(d.natAbs:Int)=d:=ae
  rw[e]
  by_cases hn:n<0
  ·rw[decide_eq_false hd,decide_eq_true hn];simp only[Bool.bne_false,if_true];rw[show-(n.natAbs:Int)=n by omega]
  ·rw[decide_eq_false hd,decide_eq_false hn];simp only[bne_self_eq_false,Bool.false_eq_true,if_false];rw[show(n.natAbs:Int)=n by omega]
def qnq(p q:Rat):Rat.divInt (sg (decide (p.num<0) !=decide (q.num<0)) (p.num.natAbs*q.num.natAbs)) ((p.den*q.den:Nat):Int)=p*q:=by
 rw[<-KL p q,<-Za p.num q.num];unfold sg;rw[Int.natCast_mul,Int.natCast_mul]
theorem uP(a:Int)(d:Nat)(h:d≠0):decide (a*(d:Int)<0)=decide (a<0):=by
 refine decide_eq_decide.2 ⟨fun h2=>?_,fun h2=>Int.mul_neg_of_neg_of_pos h2 ae⟩
 refine Int.not_le.1 fun h3=>?_
 have:=Int.mul_nonneg h3 (show(0:Int)<=d by omega);omega
theorem Ba(p q:Rat):Rat.divInt (p.num*q.den+q.num*p.den) ((p.den*q.den:Nat):Int)=p+q:=by
 have h1:(p.den:Int)≠0:=Ai p;have h2:(q.den:Int)≠0:=Ai q
 conv=>rhs;rw[<-Rat.num_divInt_den p,<-Rat.num_divInt_den q]
 rw[Rat.divInt_add_divInt _ _ h1 h2,Int.natCast_mul]
def qjl(p q:Rat)(h:(decide (p.num<0)==decide (q.num<0))=true):Rat.divInt (sg (decide (p.num<0)) (p.num.natAbs*q.den+q.num.natAbs*p.den)) ((p.den*q.den:Nat):Int)=p+q:=by
 rw[<-Ba p q]
 congr 1
 have h1:=Us (p.num*q.den) (q.num*p.den) qet;rw[uP _ _ q.den_nz,Int.natAbs_mul,Int.natAbs_mul,Int.natAbs_natCast,Int.natAbs_natCast] at h1;exact h1
def qjm(p q:Rat)(h:(decide (p.num<0)==decide (q.num<0))=false)(hle:q.num.natAbs*p.den<=p.num.natAbs*q.den):Rat.divInt (sg (decide (p.num<0)) (p.num.natAbs*q.den-q.num.natAbs*p.den)) ((p.den*q.den:Nat):Int)=p+q:=by
 rw[<-Ba p q]
 congr 1
 have h1:=O3 (p.num*q.den) (q.num*p.den) qet qk6;rw[uP _ _ q.den_nz,Int.natAbs_mul,Int.natAbs_mul,Int.natAbs_natCast,Int.natAbs_natCast] at h1;exact h1
def qjn(p q:Rat)(h:(decide (p.num<0)==decide (q.num<0))=false)(hle:p.num.natAbs*q.den<=q.num.natAbs*p.den):Rat.divInt (sg (decide (q.num<0)) (q.num.natAbs*p.den-p.num.natAbs*q.den)) ((p.den*q.den:Nat):Int)=p+q:=by
 rw[<-Ba p q]
 congr 1
 have h1:=O4 (p.num*q.den) (q.num*p.den) qet qk6;rw[uP _ _ p.den_nz,Int.natAbs_mul,Int.natAbs_mul,Int.natAbs_natCast,Int.natAbs_natCast] at h1;exact h1
def Va{q:Rat}(h:q<0):q.num<0:=by
 refine Int.not_le.1 fun h1=>?_
 have:=Rat.num_nonneg.1 h1
 grind
def Vb{q:Rat}(h:0<q):0<q.num:=by
 have h1:=Rat.num_nonneg.2 (show 0<=q by grind);have h2:q.num≠0:=fun e=>by have:=Rat.num_eq_zero.1 e;grind
 omega
def Vd(p q:Rat):(p-q).num.sign=mP p q:=by
 unfold mP
 by_cases h:p<q
 ·rw[if_pos h];have:p-q<0:=dY
  exact Int.sign_eq_neg_one_of_neg (Va this)
 ·rw[if_neg h]
  by_cases h2:q<p
  ·rw[if_pos h2];have:0<p-q:=dY
   exact Int.sign_eq_one_of_pos (Vb this)
  ·rw[if_neg h2];have:p-q=0:=dY
   rw[this];rfl
end Go.Via
namespace Go.Via
open Go
structure Rl where
 p:Rat
 r:Rat
 n:Bool
deriving DecidableEq
def dD(q:Rat):Int:=q.num.sign
def pF(a b r:Rat):Int:=if dD b*dD r=0∨dD a=dD b*dD r then dD a else if dD a=0 then dD b*dD r else dD a*mP (a*a) (b*b*r)
def jI(x:Rl):Rat:=if x.n=true then-1 else 1
def aV(x y:Rl):Int:=
 if dD (-jI y)*dD y.r=0∨pF (x.p-y.p) (jI x) x.r=dD (-jI y)*dD y.r then pF (x.p-y.p) (jI x) x.r
 else if pF (x.p-y.p) (jI x) x.r=0 then dD (-jI y)*dD y.r
 else pF (x.p-y.p) (jI x) x.r*pF ((x.p-y.p)*(x.p-y.p)+x.r-y.r) (2*((x.p-y.p)*jI x)) x.r
def rl(q:Rat):Rl:=⟨q,0,false⟩
theorem Rq{q:Rat}(h:0<q):dD q=1:=by unfold dD;exact Int.sign_eq_one_of_pos (Vb h)
theorem Rt{q:Rat}(h:q<0):dD q= -1:=by unfold dD;exact Int.sign_eq_neg_one_of_neg (Va h)
theorem Bc:dD 0=0:=rfl
def dV(q:Rat):(0<q∧dD q=1)∨(q<0∧dD q= -1)∨(q=0∧dD q=0):=by
 by_cases h:0<q
 ·exact .inl ⟨h,Rq h⟩
 ·by_cases h1:q<0
  ·exact .inr (.inl ⟨h1,Rt h1⟩)
  ·have:q=0:=dY
   exact .inr (.inr ⟨this,by rw[this];rfl⟩)
def kK(p q:Rat):(p<q∧mP p q= -1)∨(q<p∧mP p q=1)∨(p=q∧mP p q=0):=by
 unfold mP
 by_cases h:p<q
 ·exact .inl ⟨h,if_pos h⟩
 ·by_cases h1:q<p
  ·exact .inr (.inl ⟨h1,by rw[if_neg h,if_pos h1]⟩)
  ·exact .inr (.inr ⟨dY,by rw[if_neg h,if_neg h1]⟩)
theorem Ru(p q:Rat):dD (p-q)=mP p q:=Vd p q
theorem FQ(q:Rat):dD (-q)= -dD q:=by unfold dD;rw[Rat.neg_num];exact Int.sign_neg _
def Ve{a b r:Rat}(hr:0<=r):(pF a b r=1∧nn r a b∧¬nn r (-a) (-b))∨(pF a b r= -1∧nn r (-a) (-b)∧¬nn r a b)∨(pF a b r=0∧nn r a b∧nn r (-a) (-b)):=by
 have hr2:r<0->False:=fun h=>dY
 unfold pF nn;rcases dV b with⟨hb,eb⟩|⟨hb,eb⟩|⟨hb,eb⟩
 ·rcases dV r with⟨h,e⟩|⟨h,e⟩|⟨h,e⟩
  ·have:=qH (qH hb hb) h;rcases dV a with⟨ha,ea⟩|⟨ha,ea⟩|⟨ha,ea⟩
   ·have:=qH ha ha;rw[eb,e,ea];left;refine⟨bz,?_,?_⟩<;>grind
   ·rcases kK (a*a) (b*b*r) with⟨hc,ec⟩|⟨hc,ec⟩|⟨hc,ec⟩
    ·rw[eb,e,ea,ec];left;refine⟨bz,?_,?_⟩<;>grind
    ·rw[eb,e,ea,ec];right;left;refine⟨bz,?_,?_⟩<;>grind
    ·rw[eb,e,ea,ec];right;right;refine⟨bz,?_,?_⟩<;>grind
   ·rw[eb,e,ea,ha];left;refine⟨bz,?_,?_⟩<;>grind
  ·exact absurd h (fun h=>hr2 h)
  ·subst h;rcases dV a with⟨ha,ea⟩|⟨ha,ea⟩|⟨ha,ea⟩
   ·have:=qH ha ha;rw[eb,e,ea];left;refine⟨bz,?_,?_⟩<;>grind
   ·have:=qH (show 0< -a by grind) (show 0< -a by grind);rw[eb,e,ea];right;left;refine⟨bz,?_,?_⟩<;>grind
   ·rw[eb,e,ea,ha];right;right;refine⟨bz,?_,?_⟩<;>grind
 ·rcases dV r with⟨h,e⟩|⟨h,e⟩|⟨h,e⟩
  ·have:=qH (qH (show 0< -b by grind) (show 0< -b by grind)) h;rcases dV a with⟨ha,ea⟩|⟨ha,ea⟩|⟨ha,ea⟩
   ·rcases kK (a*a) (b*b*r) with⟨hc,ec⟩|⟨hc,ec⟩|⟨hc,ec⟩
    ·rw[eb,e,ea,ec];right;left;refine⟨bz,?_,?_⟩<;>grind
    ·rw[eb,e,ea,ec];left;refine⟨bz,?_,?_⟩<;>grind
    ·rw[eb,e,ea,ec];right;right;refine⟨bz,?_,?_⟩<;>grind
   ·have:=qH (show 0< -a by grind) (show 0< -a by grind);rw[eb,e,ea];right;left;refine⟨bz,?_,?_⟩<;>grind
   ·rw[eb,e,ea,ha];right;left;refine⟨bz,?_,?_⟩<;>grind
  ·exact absurd h (fun h=>hr2 h)
  ·subst h;rcases dV a with⟨ha,ea⟩|⟨ha,ea⟩|⟨ha,ea⟩
   ·have:=qH ha ha;rw[eb,e,ea];left;refine⟨bz,?_,?_⟩<;>grind
   ·have:=qH (show 0< -a by grind) (show 0< -a by grind);rw[eb,e,ea];right;left;refine⟨bz,?_,?_⟩<;>grind
   ·rw[eb,e,ea,ha];right;right;refine⟨bz,?_,?_⟩<;>grind
 ·subst hb;rw[eb];rcases dV a with⟨ha,ea⟩|⟨ha,ea⟩|⟨ha,ea⟩
  ·have:=qH ha ha;rw[ea,Int.zero_mul];left;refine⟨bz,?_,?_⟩<;>grind
  ·have:=qH (show 0< -a by grind) (show 0< -a by grind);rw[ea,Int.zero_mul];right;left;refine⟨bz,?_,?_⟩<;>grind
  ·rw[ea,ha,Int.zero_mul];right;right;refine⟨bz,?_,?_⟩<;>grind
theorem qnr{a b r:Rat}(hr:0<=r):0<=pF a b r↔nn r a b:=by
 rcases Ve (a:=a) (b:=b) hr with⟨e,h1,h2⟩|⟨e,h1,h2⟩|⟨e,h1,h2⟩<;>rw[e]
 ·exact⟨fun _=>h1,fun _=>ax⟩
 ·exact⟨fun h=>absurd h ax,fun h=>absurd h h2⟩
 ·exact⟨fun _=>h1,fun _=>ax⟩
theorem qns{a b r:Rat}(hr:0<=r):pF a b r<=0↔nn r (-a) (-b):=by
 rcases Ve (a:=a) (b:=b) hr with⟨e,h1,h2⟩|⟨e,h1,h2⟩|⟨e,h1,h2⟩<;>rw[e]
 ·exact⟨fun h=>absurd h ax,fun h=>absurd h h2⟩
 ·exact⟨fun _=>h1,fun _=>ax⟩
 ·exact⟨fun _=>h2,fun _=>ax⟩
theorem XA(a b:Rat):pF a b 0=dD a:=by unfold pF;rw[Bc,Int.mul_zero,if_pos (.inl rfl)]
theorem Rw(x:Rl):dD (jI x)=if x.n=true then-1 else 1:=by unfold jI;split<;>rfl
def Hz(x:Rl):jI x*jI x=1:=by unfold jI;split<;>grind
theorem FT(x:Rl)(q:Rat):aV x (rl q)=pF (x.p-q) (jI x) x.r:=by
 unfold aV rl;dsimp only;rw[Bc,Int.mul_zero,if_pos (.inl rfl)]
theorem pO(p q:Rat):aV (rl p) (rl q)=mP p q:=by
 rw[FT];unfold rl;dsimp only;rw[XA,Ru]
theorem qeW(q:Rat)(y:Rl):aV (rl q) y=pF (q-y.p) (-jI y) y.r:=by
 unfold aV rl;dsimp only;rw[XA,XA];unfold pF;have e1: -jI y* -jI y*y.r=y.r:=by have:=Hz y;grind
 have e2:(q-y.p)*(q-y.p)+0-y.r=(q-y.p)*(q-y.p)-y.r:=dY;rw[e1,e2,Ru,Ru]
theorem qjo(a b r:Rat):pF (-a) (-b) r= -pF a b r:=by
 unfold pF;rw[FQ,FQ];have e1: -a* -a=a*a:=dY
 have e2: -b* -b=b*b:=dY;rw[e1,e2,Int.neg_mul]
 generalize dD b*dD r=n
 generalize dD a=m
 by_cases h:n=0
 ·rw[if_pos (.inl ae),if_pos (.inl h)]
 ·by_cases h1:m=n
  ·rw[if_pos (.inr ae),if_pos (.inr h1)]
  ·rw[if_neg (show¬(-n=0∨ -m= -n) by omega),if_neg (show¬(n=0∨m=n) by omega)]
   by_cases h2:m=0
   ·rw[if_pos (show-m=0 by omega),if_pos h2]
   ·rw[if_neg (show¬ -m=0 by omega),if_neg h2,Int.neg_mul]
theorem nM(q:Rat)(y:Rl):aV (rl q) y= -aV y (rl q):=by
 rw[qeW,FT,<-qjo];have: -(y.p-q)=q-y.p:=dY
 rw[this]
theorem Cm(x:Rl):aV x x=0:=by
 unfold aV;have e0:x.p-x.p=0:=dY
 have e1:(0:Rat)*0+x.r-x.r=0:=dY;have e2:(2:Rat)*(0*jI x)=0:=dY;rw[e0,e1,e2,FQ,Rw];rcases dV x.r with⟨h,e⟩|⟨h,e⟩|⟨h,e⟩<;>unfold pF<;>rw[Rw,e,Bc]<;>cases x.n<;>rfl
def qV(x y:Rl):aV x y= -1∨aV x y=0∨aV x y=1:=by
 have hs:∀q,dD q= -1∨dD q=0∨dD q=1:=fun q=>qeu
 have hm:∀{a b:Int},(a= -1∨a=0∨a=1)->(b= -1∨b=0∨b=1)->(a*b= -1∨a*b=0∨a*b=1):=fun h h'=>by
  rcases h with h|h|h<;>rcases h' with h'|h'|h'<;>simp[h,h']
 have hq:∀p q,mP p q= -1∨mP p q=0∨mP p q=1:=fun p q=>qev
 have h1:∀a b r,pF a b r= -1∨pF a b r=0∨pF a b r=1:=fun a b r=>by
  unfold pF;split
  ·exact hs _
  ·split
   ·exact hm (hs _) (hs _)
   ·exact hm (hs _) (hq _ _)
 unfold aV;split
 ·exact h1 _ _ _
 ·split
  ·exact hm (hs _) (hs _)
  ·exact hm (h1 _ _ _) (h1 _ _ _)
end Go.Via
