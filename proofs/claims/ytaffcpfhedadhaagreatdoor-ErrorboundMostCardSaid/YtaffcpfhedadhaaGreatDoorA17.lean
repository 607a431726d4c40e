/-
  Part 17 (chapter 32): lemmas, walks. Each theorem states its own conditions.
-/
import GoSem.Core.World
import Derived.MapKept
import Derived.WalkKit
import Derived.WalkSpells
import Derived.WalkLawsBesides
import Derived.Deep.LoopGhost
import Derived.Deep.AppendSrc
import Derived.Laws.BytesArg
import Derived.Laws.CopyRow
import Derived.Laws.AppendOwn
import Derived.Test.YtaffcpfhedadhaaGreatDoorProg
import Derived.Shelf.Strings.Builder1
import Derived.Shelf.Strings.Builder2
import Derived.Shelf.Small.Utf8
import Derived.Shelf.Small.Bits
import Derived.Shelf.Small.Strs
import Derived.Shelf.Small.Wraps
import Derived.Shelf.Strings.BuilderF
import Derived.Shelf.Strconv.Itoa0
import Derived.Shelf.Strings.Search1
import Derived.Shelf.Strings.Prefix
import Derived.Shelf.Strings.Runes
import Derived.Shelf.Strings.AsciiSet
import Derived.Shelf.Bits.Mul64
import Derived.Shelf.Strings.Repeat
import Derived.Shelf.Unicode.DecodeSlow
import Derived.Laws.Externs
import Derived.Lib.ItoaNum
import Derived.Test.YtaffcpfhedadhaaGreatDoorA13
import Derived.Test.YtaffcpfhedadhaaGreatDoorA14
set_option linter.all false
set_option maxRecDepth 20000
set_option maxHeartbeats 20000000
section
variable{P Q:Prop}{T:Type}{R:T->Prop}
def qkw(h:P:=by
 rw[hP]
 split
 ·rename_i hlt
  have hMN:N+1<=M:=by
   by_cases c:M<=N
   ·have:=Nat.mul_le_mul_left P c;omega
   ·omega
  obtain⟨k,rfl⟩:∃k,M=N+1+k:=⟨M-(N+1),ae⟩;have e:m-n=(m%P+P-n%P)+P*k:=by
   rw[Nat.mul_add,Nat.mul_add] at h1;omega
  rw[e,Nat.add_mul_div_left _ _ hp,Nat.div_eq_of_lt ae];omega
 ·rename_i hge
  have hMN:N<=M:=by
   by_cases c:M<N
   ·have:=Nat.mul_le_mul_left P c;rw[Nat.mul_succ] at this;omega
   ·omega
  obtain⟨k,rfl⟩:∃k,M=N+k:=⟨M-N,ae⟩;have e:m-n=(m%P-n%P)+P*k:=by
   rw[Nat.mul_add] at h1;omega
  rw[e,Nat.add_mul_div_left _ _ hp,Nat.div_eq_of_lt ae];omega):=h
def qdD(h:P:=by
 have key:(m%P+P*x<n%P+P*y)↔x<y+(if m%P<n%P then 1 else 0):=by
  rcases Nat.lt_trichotomy x y with c|c|c
  ·have:=Nat.mul_le_mul_left P c;rw[Nat.mul_succ] at this
   constructor<;>intro _<;>omega
  ·subst c;split<;>constructor<;>intro _<;>omega
  ·have:=Nat.mul_le_mul_left P c;rw[Nat.mul_succ] at this
   split<;>constructor<;>intro _<;>omega
 simp only[key]):=h
def Ue(h:P:=by rw[h];decide):=h
def qkx(h:P:=by rw[Nat.div_div_eq_div_mul,Nat.div_div_eq_div_mul,Nat.mul_comm]):=h
def YX(h:P:=by unfold ag;omega):=h
end
namespace Go.Via
open Go
def qmA(a b:Int)(i:Nat)(h:i<2):([.int .i64 a,.int .i64 b]:List Value)[i]? =some (.int .i64 (if i=0 then a else b)):=by
 have:i=0∨i=1:=ae;rcases this with rfl|rfl<;>rfl
def qq8(a b:Int)(i:Nat)(ha:0<i->a=0)(he:(if i=0 then a else b)=0):0<i+1->a=0:=fun _=>by
 by_cases h:i=0
 ·rwa [if_pos h] at he
 ·exact ha ae
def qq9(a b:Int)(i:Nat)(he:(if i=0 then a else b)=0):1<i+1->b=0:=fun h=>by
 rwa [if_neg ae] at he
theorem qic(a b:Int)(i:Nat)(ha:0<i->a=0)(hne:(if i=0 then a else b)≠0):(if i=0 then a else b)=(if a=0 then b else a):=by
 by_cases h:i=0
 ·rw[if_pos h] at hne ⊢;rw[if_neg hne]
 ·rw[if_neg h] at hne ⊢;rw[if_pos (ha ae)]
theorem YY{m n:Nat}(h:nb m<nb n):m<n:=DL ae h
theorem Uf(m n:Nat):(if(if(nb m:Int)<(nb n:Int) then(-1:Int) else if(nb n:Int)<(nb m:Int) then 1 else 0)=0 then Lib.compareBytes (bP m).data.toList (bP n).data.toList
 else(if(nb m:Int)<(nb n:Int) then(-1:Int) else if(nb n:Int)<(nb m:Int) then 1 else 0))=mV m n:=by
 unfold mV;rcases Nat.lt_trichotomy (nb m) (nb n) with h|h|h
 ·have:=YY h;rw[if_pos (by omega:(nb m:Int)<nb n),if_neg ax,if_pos this]
 ·rw[if_neg (by omega:¬(nb m:Int)<nb n),if_neg (by omega:¬(nb n:Int)<nb m),if_pos rfl,Ua h]
 ·have:=YY h;rw[if_neg (by omega:¬(nb m:Int)<nb n),if_pos (by omega:(nb n:Int)<nb m),if_neg ax,if_neg ae,if_pos this]
def qdE(m n:Nat):IntKind.i64.wrap (0-mV m n)= -mV m n:=by
 unfold mV;split<;>(try split)<;>rfl
def YZ{b:Int}(h:¬b<0):0<=b.sign:=by
 rcases Int.lt_trichotomy b 0 with h1|h1|h1
 ·exact absurd h1 h
 ·subst h1;decide
 ·rw[Int.sign_eq_one_of_pos h1];decide
def OL{a:Int}(h:a<0):a.sign= -1:=Int.sign_eq_neg_one_of_neg h
theorem qmB{a b:Int}(h:(decide (a<0) !=decide (b<0))=true):(if a.sign<b.sign then(-1:Int) else if b.sign<a.sign then 1 else 0)=zZ a b:=by
 unfold zZ
 by_cases ha:a<0<;>by_cases hb:b<0
 ·simp[ha,hb] at h
 ·have h1:=OL ha;have h2:0<=b.sign:=YZ ae;rw[if_pos ae,if_pos ae]
 ·have h1:=OL hb;have h2:0<=a.sign:=YZ ae;rw[if_neg ae,if_pos ae,if_neg ae,if_pos ae]
 ·simp[ha,hb] at h
theorem qid{a b:Int}(h:(decide (a<0) !=decide (b<0))=false)(h2:decide (a<0)=true): -mV a.natAbs b.natAbs=zZ a b:=by
 have ha:=of_decide_eq_true h2;have hb:b<0:=(by simpa[ha] using h);unfold mV zZ
 by_cases c1:a<b
 ·rw[if_pos c1,if_neg ae,if_pos ae]
 ·rw[if_neg c1]
  by_cases c2:b<a
  ·rw[if_pos c2,if_pos ae];rfl
  ·rw[if_neg c2,if_neg ae,if_neg ae];rfl
theorem qie{a b:Int}(h:(decide (a<0) !=decide (b<0))=false)(h2:decide (a<0)=false):mV a.natAbs b.natAbs=zZ a b:=by
 have ha:=of_decide_eq_false h2;have hb:¬b<0:=(by simpa[ha] using h);unfold mV zZ
 by_cases c1:a<b
 ·rw[if_pos c1,if_pos ae]
 ·rw[if_neg c1,if_neg (show¬a.natAbs<b.natAbs by omega)]
  by_cases c2:b<a
  ·rw[if_pos c2,if_pos ae]
  ·rw[if_neg c2,if_neg ae]
def qa7(z:Int)(h:decide (z<0)=true):(if decide (z<0)=true then-(z.natAbs:Int) else(z.natAbs:Int))=z:=by
 rw[if_pos h];have:=of_decide_eq_true h;omega
def qa8(z:Int)(h:decide (z<0)=false):(if decide (z<0)=true then-(z.natAbs:Int) else(z.natAbs:Int))=z:=by
 rw[if_neg Ue];have:=of_decide_eq_false h;omega
def qdF{l:List UInt8}(h:0<l.length):∃x r,l=x::r:=by cases l with
 |nil=>simp at h
 |cons x r=>exact⟨x,r,rfl⟩
def qa9(x:UInt8)(r:List UInt8):(lQ (x::r)).extract (1:Int).toNat (lQ (x::r)).size=lQ r:=by
 rw[xR];show ByteArray.extract _ 1 _=_
 apply ByteArray.ext
 rw[ByteArray.data_extract];simp[lQ]
theorem Wu{l:List UInt8}(h:(lQ l==⟨#[]⟩)=true):l=[]:=by
 rw[yD] at h
 simpa[lQ] using h
def lC(m n i:Nat):Nat:=if m%ag^i<n%ag^i then 1 else 0
def DZ(m n i j:Nat):Nat:=if j<i then(m-n)/ag^j%ag else m/ag^j%ag
theorem qba(m n:Nat):lC m n 0=0:=by simp[lC,Nat.mod_one]
def yO(m n i:Nat):lC m n i<=1:=by unfold lC;split<;>omega
def Y2{m n i:Nat}(h:n<=m):(m-n)/ag^i+n/ag^i+lC m n i=m/ag^i:=by
 have h1:=Nat.mod_add_div m (ag^i);have h2:=Nat.mod_add_div n (ag^i);have h3:=Nat.mod_lt m (dh i);have h4:=Nat.mod_lt n (dh i);have hp:=dh i
 generalize hP:ag^i=P at*
 generalize m/P=M at*
 generalize n/P=N at*
 unfold lC;exact qkw
theorem OM(m n i:Nat):lC m n (i+1)=if m/ag^i%ag<n/ag^i%ag+lC m n i then 1 else 0:=by
 unfold lC;rw[Nat.pow_succ,Nat.mod_mul,Nat.mod_mul];have h3:=Nat.mod_lt m (dh i);have h4:=Nat.mod_lt n (dh i)
 generalize m/ag^i%ag=x
 generalize n/ag^i%ag=y
 generalize hP:ag^i=P at*
 exact qdD
def Y3{m n i:Nat}(h:n<=m)(hd:m/ag^i%ag<n/ag^i%ag+lC m n i):m/ag^i%ag+4294967296=(m-n)/ag^i%ag+n/ag^i%ag+lC m n i∧lC m n (i+1)=1:=by
 refine⟨?_,by rw[OM,if_pos hd]⟩;have h1:=Y2 (i:=i) h;have h2:=yO m n i;unfold ag at*;omega
def Y4{m n i:Nat}(h:n<=m)(hd:¬m/ag^i%ag<n/ag^i%ag+lC m n i):m/ag^i%ag=(m-n)/ag^i%ag+n/ag^i%ag+lC m n i∧lC m n (i+1)=0:=by
 refine⟨?_,by rw[OM,if_neg hd]⟩;have h1:=Y2 (i:=i) h;have h2:=yO m n i;unfold ag at*;omega
theorem qbb(m n i j:Nat):DZ m n (i+1) j=if j=i then(m-n)/ag^i%ag else DZ m n i j:=by
 unfold DZ
 by_cases e:j=i
 ·subst e;rw[if_pos ae,if_pos rfl]
 ·rw[if_neg e]
  by_cases c:j<i
  ·rw[if_pos c,if_pos ae]
  ·rw[if_neg c,if_neg ae]
theorem qif(m n i:Nat):DZ m n i i=m/ag^i%ag:=by unfold DZ;rw[if_neg ae]
def qbc(m n:Nat):NV .u32 (ah ag m)++(NV .u32 (List.replicate (ah ag m).length 0)).drop (ah ag m).length=NV .u32 (row (ah ag m).length (DZ m n 0)):=by
 rw[Yp,Ot]
 congr 1
 rw[cu (g:=fun j=>m/ag^j%ag) (fun j _=>by unfold DZ;rw[if_neg ae]),<-Ah dD m];simp
theorem qdG{m n:Nat}(h:n<=m):val ag (row (ah ag m).length (DZ m n (ah ag m).length))=m-n:=by
 rw[cu (g:=fun j=>(m-n)/ag^j%ag) (fun j hj=>by unfold DZ;rw[if_pos hj]),pM ag ax,Nat.mod_eq_of_lt]
 have h1:=dM dD m;omega
def qig(m n i j:Nat):DZ m n i j<ag:=by unfold DZ;split<;>exact bH _
def QC(m y p j:Nat):Nat:=if j<p then m/ag^j%ag else m/y/ag^j%ag
theorem qih(m y q:Nat):QC m y (q+1) q=m/ag^q%ag:=by unfold QC;rw[if_pos ae]
def qdH(m q:Nat):m/ag^q=m/ag^(q+1)*ag+m/ag^q%ag:=by
 rw[Nat.pow_succ,<-Nat.div_div_eq_div_mul];have:=Nat.div_add_mod (m/ag^q) ag;rw[Nat.mul_comm] at this;omega
def IQ(m y q:Nat):Nat:=m/ag^(q+1)%y*ag+m/ag^q%ag
def Y5(m y q:Nat)(hy:0<y):m/ag^q=y*(m/ag^(q+1)/y*ag)+IQ m y q:=by
 have h1:=qdH m q;have h2:=Nat.div_add_mod (m/ag^(q+1)) y;unfold IQ
 conv=>lhs;rw[h1,<-h2]
 rw[Nat.add_mul,Nat.mul_assoc,Nat.add_assoc]
def QD(m y q:Nat)(hy:0<y):IQ m y q<y*ag:=by
 unfold IQ;have h1:m/ag^(q+1)%y+1<=y:=Nat.mod_lt _ hy;have h2:m/ag^q%ag<ag:=Nat.mod_lt _ ax;have h3:=Nat.mul_le_mul_right ag h1;rw[Nat.add_mul] at h3;omega
def qbe(m y q:Nat)(hy:0<y)(hy2:y<4294967296):IQ m y q<18446744073709551616:=by
 have h1:=QD m y q hy;have h2:y*ag<=4294967295*ag:=Nat.mul_le_mul_right _ ae;have e:(ag:Nat)=4294967296:=rfl;rw[e] at h1 h2;omega
theorem Ug(m y q:Nat)(hy:0<y):IQ m y q/y=m/y/ag^q%ag:=by
 have h1:=Y5 m y q hy;have h2:IQ m y q/y<ag:=(by rw[Nat.div_lt_iff_lt_mul hy,Nat.mul_comm];exact QD m y q hy);have e:m/y/ag^q=m/ag^q/y:=qkx;rw[e,h1,Nat.mul_add_div hy,Nat.mul_comm _ ag,Nat.mul_add_mod,Nat.mod_eq_of_lt h2]
theorem Uh(m y q:Nat)(hy:0<y):IQ m y q%y=m/ag^q%y:=by
 have h1:=Y5 m y q hy
 conv=>rhs;rw[h1]
 rw[Nat.mul_add_mod]
theorem qbf(m y q j:Nat)(hy:0<y):QC m y q j=if j=q then IQ m y q/y%4294967296 else QC m y (q+1) j:=by
 rw[Ug m y q hy];show _=if j=q then _%ag else _
 rw[Nat.mod_mod];unfold QC
 by_cases e:j=q
 ·subst e;rw[if_neg ae,if_pos rfl]
 ·rw[if_neg e]
  by_cases c:j<q
  ·rw[if_pos c,if_pos ae]
  ·rw[if_neg c,if_neg ae]
def Wv(m y:Nat):ah ag m=row (ah ag m).length (QC m y (ah ag m).length):=by
 conv=>lhs;rw[Ah dD m]
 exact cu fun j hj=>by unfold QC;rw[if_pos hj]
theorem Wx(m y:Nat):m/ag^(ah ag m).length%y=0:=by
 rw[Nat.div_eq_of_lt (dM dD m)];simp
def qii(m y j:Nat):Nat:=m/y/ag^j%ag
theorem qdI(m y:Nat):val ag (row (ah ag m).length (qii m y))=m/y:=by
 unfold qii;rw[pM ag ax,Nat.mod_eq_of_lt];exact Nat.lt_of_le_of_lt (Nat.div_le_self _ _) (dM dD m)
def QE(m s i:Nat):Nat:=m%ag^i*2^s
def OO(m s i j:Nat):Nat:=QE m s i/ag^j%ag
def IR(m s i:Nat):Nat:=m/ag^i%ag*2^s
theorem KI(m s i:Nat):QE m s (i+1)=QE m s i+ag^i*IR m s i:=by
 unfold QE IR;rw[Nat.pow_succ,Nat.mod_mul,Nat.add_mul,Nat.mul_assoc]
def yP{s:Nat}(hs:s<32):2^s<=2147483648:=Nat.pow_le_pow_right (n:=2) ae (show s<=31 by omega)
def qmC(m s i:Nat)(hs:s<32):IR m s i<18446744073709551616:=by
 unfold IR;have h1:=bH (m/ag^i);have h2:=yP hs;have:m/ag^i%ag*2^s<=4294967295*2147483648:=Nat.mul_le_mul ae h2;omega
def QF(m s i:Nat):QE m s i/ag^i<2^s:=by
 rw[Nat.div_lt_iff_lt_mul (dh i)];unfold QE;rw[Nat.mul_comm];exact(Nat.mul_lt_mul_left (Nat.pow_pos ae)).2 (Nat.mod_lt _ (dh i))
theorem wG{s:Nat}(hs:s<32):ag=2^s*2^(32-s):=by rw[<-Nat.pow_add,show s+(32-s)=32 by omega];rfl
def Y6(m s i:Nat)(hs:s<32):IR m s i%4294967296=2^s*(m/ag^i%ag%2^(32-s)):=by
 show _%ag=_;unfold IR
 conv=>lhs;rw[wG hs]
 rw[Nat.mul_comm _ (2^s),Nat.mul_mod_mul_left]
 congr 1
 rw[<-wG hs]
theorem qdJ(m s i:Nat)(hs:s<32):OO m s i i=QE m s i/ag^i:=by
 unfold OO;have h1:=QF m s i;have h2:=yP hs;exact Nat.mod_eq_of_lt (by unfold ag at*;omega)
def qdK(m s i:Nat)(hs:s<32):QE m s i/ag^i+IR m s i%4294967296<4294967296∧OO m s (i+1) i=QE m s i/ag^i+IR m s i%4294967296:=by
 have h1:=QF m s i;have e:=Y6 m s i hs;have h3:m/ag^i%ag%2^(32-s)+1<=2^(32-s):=Nat.mod_lt _ (Nat.pow_pos ae);have h4:=Nat.mul_le_mul_left (2^s) h3;have hB:=wG hs;rw[<-hB,Nat.mul_add] at h4;have hlt:QE m s i/ag^i+IR m s i%4294967296<4294967296:=(by rw[e];unfold ag at*;omega);refine⟨hlt,?_⟩;unfold OO;rw[KI,Nat.add_mul_div_left _ _ (dh i)];have:QE m s i/ag^i+IR m s i=(QE m s i/ag^i+IR m s i%ag)+ag*(IR m s i/ag):=by
  have:=Nat.mod_add_div (IR m s i) ag;omega
 rw[this,Nat.add_mul_mod_self_left];exact Nat.mod_eq_of_lt hlt
theorem qij(m s i:Nat)(hs:s<32):OO m s (i+1) (i+1)=IR m s i/2^32%4294967296:=by
 have h0:=(qdK m s i hs).1;unfold OO;rw[KI,Nat.pow_succ,<-Nat.div_div_eq_div_mul,Nat.add_mul_div_left _ _ (dh i)];have:QE m s i/ag^i+IR m s i=(QE m s i/ag^i+IR m s i%ag)+ag*(IR m s i/ag):=by
  have:=Nat.mod_add_div (IR m s i) ag;omega
 have h0':QE m s i/ag^i+IR m s i%ag<ag:=h0;rw[this,Nat.add_mul_div_left _ _ ax,Nat.div_eq_of_lt h0',Nat.zero_add]
 rfl
def qmD(m s i:Nat):QE m s i<ag^i*2^s:=(Nat.mul_lt_mul_right (Nat.pow_pos ae)).2 (Nat.mod_lt _ (dh i))
def shM(m s i j:Nat):Nat:=if j=i then OO m s (i+1) i else OO m s i j
theorem qdL(m s i j:Nat)(hs:s<32):OO m s (i+1) j=if j=i+1 then IR m s i/2^32%4294967296 else shM m s i j:=by
 by_cases e:j=i+1
 ·subst e;rw[if_pos rfl,qij m s i hs]
 ·rw[if_neg e];unfold shM
  by_cases e2:j=i
  ·subst e2;rw[if_pos rfl]
  ·rw[if_neg e2];unfold OO
   by_cases c:j<i
   ·rw[KI];have e0:ag^i=ag^j*(ag*ag^(i-j-1)):=by
     rw[<-Nat.mul_assoc,<-Nat.pow_succ,<-Nat.pow_add,show j+1+(i-j-1)=i by omega]
    rw[e0,Nat.mul_assoc,Nat.add_mul_div_left _ _ (dh j),Nat.mul_assoc,Nat.add_mul_mod_self_left]
   ·have h2:=yP hs;have h3:ag^(i+2)<=ag^j:=Nat.pow_le_pow_right ax ae;have key:∀k,k<=i+1->QE m s k/ag^j=0:=fun k hk=>Nat.div_eq_of_lt (by
 have h4:=qmD m s k;have h5:ag^k*2^s<=ag^(i+1)*ag:=Nat.mul_le_mul (Nat.pow_le_pow_right (by decide) hk) (by unfold ag;omega);rw[<-Nat.pow_succ] at h5;have h6:ag^(i+1).succ=ag^(i+2):=rfl;omega)
    rw[key (i+1) ae,key i ae]
theorem qdM(m s j:Nat):OO m s 0 j=0:=by simp[OO,QE,Nat.mod_one]
def NJ(N j:Nat):Nat:=N/ag^j%ag
theorem qik(m s j:Nat):OO m s (ah ag m).length j=NJ (m*2^s) j:=by
 unfold OO NJ QE;rw[Nat.mod_eq_of_lt (dM dD m)]
def qo2(m s i:Nat)(hs:s<32):IntKind.u32.wrap ((BitVec.ofInt IntKind.u32.bits ((OO m s i i:Nat):Int)|||BitVec.ofInt IntKind.u32.bits ((IR m s i%4294967296:Nat):Int)).toNat)=((OO m s (i+1) i:Nat):Int):=by
 obtain⟨h1,h2⟩:=qdK m s i hs;rw[<-qdJ m s i hs] at h1 h2;have e:=Y6 m s i hs;rw[e] at h1 h2 ⊢;exact YQ s (by rw[qdJ m s i hs];exact QF m s i) h2.symm (by rw[h2];exact h1) rfl rfl
theorem mY(k:Nat):ag^(k+1)=ag^k*ag:=Nat.pow_succ ..
def GOK(Y W L g r:Nat):Prop:=g*(Y/ag^(L-1))+r=W/ag^(L-1)∧r<4294967296∧W/Y<=g∧g<=4294967297
def wV(V L:Nat)(hL:2<=L):V=(V/ag^(L-1)*ag+V/ag^(L-2)%ag)*ag^(L-2)+V%ag^(L-2):=by
 have h1:=Nat.div_add_mod V (ag^(L-2));have h2:=qdH V (L-2);rw[show L-2+1=L-1 by omega] at h2;rw[<-h2,Nat.mul_comm];exact h1.symm
structure D5(Y W L:Nat):Prop where
 hL:2<=L
 lo:ag^L<=2*Y
 hi:Y<ag^L
 w:W<Y*ag
def D5.y1{Y W L:Nat}(h:D5 Y W L):2147483648<=Y/ag^(L-1)∧Y/ag^(L-1)<4294967296:=by
 have hp:=dh (L-1);have e:ag^L=ag^(L-1)*ag:=(by rw[<-mY,show L-1+1=L by have:=h.hL;omega]);have h1:=h.lo;have h2:=h.hi;rw[e] at h1 h2;refine⟨?_,?_⟩
 ·rw[Nat.le_div_iff_mul_le hp];have:ag^(L-1)*ag=2*(2147483648*ag^(L-1)):=YX
  omega
 ·rw[Nat.div_lt_iff_lt_mul hp];rw[Nat.mul_comm] at h2;exact h2
theorem D5.pos{Y W L:Nat}(h:D5 Y W L):0<Y:=by have:=h.lo;have:=dh L;omega
def D5.wlt{Y W L:Nat}(h:D5 Y W L):W<ag^(L+1):=by
 have:=Nat.mul_le_mul_right ag (Nat.le_of_lt h.hi);rw[mY];exact Nat.lt_of_lt_of_le h.w this
def D5.high{Y W L:Nat}(h:D5 Y W L):W/ag^(L-1)<(Y/ag^(L-1)+1)*ag:=by
 refine qhf (B:=ag) (wV Y L h.hL) (wV W L h.hL) (Nat.mod_lt _ (dh _)) (Nat.mod_lt _ ax) (by rw[Nat.mul_comm];exact h.w)
def D5.high64{Y W L:Nat}(h:D5 Y W L):W/ag^(L-1)<18446744073709551616:=by
 have h1:=h.wlt;rw[Nat.div_lt_iff_lt_mul (dh _)];have:ag^(L+1)=18446744073709551616*ag^(L-1):=by
  rw[show L+1=2+(L-1) by have:=h.hL;omega,Nat.pow_add];rfl
 omega
theorem D5.q{Y W L:Nat}(h:D5 Y W L):W/Y<4294967296:=by
 rw[Nat.div_lt_iff_lt_mul h.pos,Nat.mul_comm];exact h.w
def qil{Y W L:Nat}(h:D5 Y W L):GOK Y W L (W/ag^(L-1)/(Y/ag^(L-1))) (W/ag^(L-1)% (Y/ag^(L-1))):=by
 obtain⟨a1,a2⟩:=h.y1;have a3:=Nat.mod_lt (W/ag^(L-1)) (show 0<Y/ag^(L-1) by omega);refine⟨by rw[Nat.mul_comm];exact Nat.div_add_mod _ _,ae,?_,?_⟩
 ·exact SV (B:=ag) (dh (L-2)) (wV Y L h.hL) (wV W L h.hL) (Nat.mod_lt _ (dh _)) (Nat.mod_lt _ ax) ae h.pos
 ·have h1:=h.high;have:W/ag^(L-1)/(Y/ag^(L-1))<4294967298:=by
   rw[Nat.div_lt_iff_lt_mul ae];unfold ag at*;omega
  omega
def qdN{Y W L g r:Nat}(h:D5 Y W L)(hg:GOK Y W L g r)(ht:4294967296<=g∨r*2^32+W/ag^(L-2)%ag<g*(Y/ag^(L-2)%ag)):
 W/Y<g:=by
 rcases ht with ht|ht
 ·have:=h.q;omega
 ·exact VL (B:=ag) (dh (L-2)) (wV Y L h.hL) (wV W L h.hL) (Nat.mod_lt _ (dh _)) hg.1 h.pos ht
def qkz{Y W L g r:Nat}(h:D5 Y W L)(hg:GOK Y W L g r)(hq:W/Y<g):(g-1)*(Y/ag^(L-1))+(r+Y/ag^(L-1))=W/ag^(L-1):=by
 have h0:0<g:=Nat.lt_of_le_of_lt (Nat.zero_le _) hq;obtain⟨k,rfl⟩:∃k,g=k+1:=⟨g-1,ae⟩;have:=hg.1;rw[Nat.add_mul] at this;simp only[Nat.add_sub_cancel];omega
def qdO{Y W L g r:Nat}(h:D5 Y W L)(hg:GOK Y W L g r)(hq:W/Y<g)(hr:r+Y/ag^(L-1)<4294967296):GOK Y W L (g-1) (r+Y/ag^(L-1)):=
 ⟨qkz h hg hq,hr,ae,by have:=hg.2.2.2;omega⟩
def qmE{Y W L g r:Nat}(h:D5 Y W L)(hg:GOK Y W L g r)(hB:g<4294967296)(ht:g*(Y/ag^(L-2)%ag)<=r*2^32+W/ag^(L-2)%ag):g<=W/Y+1:=by
 obtain⟨a1,a2⟩:=h.y1;exact Oi (B:=ag) (wV Y L h.hL) (wV W L h.hL) (Nat.mod_lt _ (dh _)) ae (Nat.mod_lt _ ax) hg.1 h.pos YX (.inl ht)
def qdP{Y W L g r:Nat}(h:D5 Y W L)(hg:GOK Y W L g r)(hq:W/Y<g)(hr:4294967296<=r+Y/ag^(L-1)):g-1<=W/Y+1:=by
 obtain⟨a1,a2⟩:=h.y1;have:=hg.2.2.2;exact Oi (B:=ag) (wV Y L h.hL) (wV W L h.hL) (Nat.mod_lt _ (dh _)) ae (Nat.mod_lt _ ax) (qkz h hg hq) h.pos YX (.inr hr)
def gC(Y g i:Nat):Nat:=g*(Y%ag^i)/ag^i
def gS(Y g i:Nat):Nat:=gC Y g i+g*(Y/ag^i%ag)
theorem Y7(Y g:Nat):gC Y g 0=0:=by simp[gC,Nat.mod_one]
def OQ(Y g i:Nat)(hg:g<=4294967296):gC Y g i<=4294967295:=by
 unfold gC;have h1:=Nat.mod_lt Y (dh i);have:g*(Y%ag^i)/ag^i<4294967296:=by
  rw[Nat.div_lt_iff_lt_mul (dh i)];have h2:g*(Y%ag^i)<=4294967296*(Y%ag^i):=Nat.mul_le_mul_right _ hg;omega
 omega
def Y8(Y g i:Nat)(hg:g<=4294967296):gS Y g i<18446744073709551616∧g*(Y/ag^i%ag)<18446744073709551616:=by
 unfold gS;have h1:=OQ Y g i hg;have h2:=bH (Y/ag^i);have h3:g*(Y/ag^i%ag)<=4294967296*4294967295:=Nat.mul_le_mul hg ae;omega
theorem qdQ(Y g i:Nat):gS Y g i/2^32=gC Y g (i+1):=by
 show _/ag=_;unfold gS gC;rw[mY,Nat.mod_mul,<-Nat.div_div_eq_div_mul]
 congr 1
 have e:g*(Y%ag^i+ag^i*(Y/ag^i%ag))=g*(Y%ag^i)+ag^i*(g*(Y/ag^i%ag)):=kN;rw[e,Nat.add_mul_div_left _ _ (dh i)]
theorem qmF(Y g i:Nat):gS Y g i%4294967296=g*Y/ag^i%ag:=by
 show _%ag=_;have e:g*Y=g*(Y%ag^i)+ag^i*(g*(Y/ag^i)):=by
  have h1:=Nat.mod_add_div Y (ag^i)
  conv=>lhs;rw[<-h1]
  grind
 rw[e,Nat.add_mul_div_left _ _ (dh i)];unfold gS gC
 generalize g*(Y%ag^i)/ag^i=c
 generalize Y/ag^i=p
 rw[Nat.add_mod,<-Nat.mul_mod_mod,Nat.mod_mod,Nat.mul_mod_mod,<-Nat.add_mod]
def tY(Y W L g:Nat):Nat:=W+ag^(L+1)-g*Y
def qdR{Y W L g:Nat}(h:D5 Y W L)(hg1:g<=W/Y+1):g*Y<=W+ag^(L+1):=by
 have h1:=Nat.mul_le_mul_right Y hg1;have h2:=Nat.div_mul_le_self W Y;rw[Nat.add_mul] at h1;have h3:=h.hi;have h4:ag^L<=ag^(L+1):=Nat.pow_le_pow_right ax ae;omega
theorem KJ{W L i:Nat}(hi:i<=L):(W+ag^(L+1))/ag^i%ag=W/ag^i%ag:=by
 have e:ag^(L+1)=ag^i*(ag*ag^(L-i)):=by
  rw[<-Nat.mul_assoc,<-mY,<-Nat.pow_add,show i+1+(L-i)=L+1 by omega]
 rw[e,Nat.add_mul_div_left _ _ (dh i),Nat.add_mul_mod_self_left]
def SE(X W D j i k:Nat):Nat:=if k<j then X/ag^k%ag else if k<j+i then D/ag^(k-j)%ag else W/ag^(k-j)%ag
def qmG(X W D j i:Nat):SE X W D j i (i+j)=W/ag^i%ag:=by
 unfold SE;rw[if_neg ae,if_neg ae,show i+j-j=i by omega]
theorem Ui(X W D j i k:Nat):SE X W D j (i+1) k=if k=i+j then D/ag^i%ag else SE X W D j i k:=by
 unfold SE
 by_cases e:k=i+j
 ·subst e;rw[if_neg ae,if_pos ae,if_pos rfl,show i+j-j=i by omega]
 ·rw[if_neg e]
  by_cases c:k<j
  ·rw[if_pos c,if_pos c]
  ·rw[if_neg c,if_neg c]
   by_cases c2:k<j+i
   ·rw[if_pos c2,if_pos ae]
   ·rw[if_neg c2,if_neg ae]
def xw(X j V k:Nat):Nat:=if k<j then X/ag^k%ag else V/ag^(k-j)%ag
def dvW(X Y j:Nat):Nat:=X/ag^(j+1)%Y*ag+X/ag^j%ag
def qmH(X Y j:Nat)(hy:0<Y):dvW X Y j<Y*ag:=QD X Y j hy
theorem Uj(X Y D j k:Nat):xw X (j+1) (X/ag^(j+1)%Y) k=SE X (dvW X Y j) D j 0 k:=by
 unfold xw SE dvW
 by_cases c:k<j
 ·rw[if_pos ae,if_pos c]
 ·rw[if_neg c,if_neg (by omega:¬k<j+0)]
  by_cases e:k=j
  ·subst e;rw[if_pos ae,Nat.sub_self,Nat.pow_zero,Nat.div_one,Nat.mul_comm,Nat.mul_add_mod,Nat.mod_mod]
  ·rw[if_neg ae];obtain⟨q,rfl⟩:∃q,k=j+1+q:=⟨k-j-1,ae⟩;rw[show j+1+q-(j+1)=q by omega,show j+1+q-j=q+1 by omega];have:(X/ag^(j+1)%Y*ag+X/ag^j%ag)/ag=X/ag^(j+1)%Y:=by
    rw[Nat.mul_comm,Nat.mul_add_div ax,Nat.div_eq_of_lt (Nat.mod_lt _ ax)];omega
   have e2:ag^(q+1)=ag*ag^q:=Nat.pow_succ';rw[e2,<-Nat.div_div_eq_div_mul (X/ag^(j+1)%Y*ag+X/ag^j%ag),this]
def qin(X Y j:Nat)(hy:0<Y):dvW X Y j/Y=X/Y/ag^j%ag:=Ug X Y j hy
def qio(X Y j:Nat)(hy:0<Y):dvW X Y j%Y=X/ag^j%Y:=Uh X Y j hy
theorem qdS{X Y W L g j k:Nat}(h:D5 Y W L)(hg:g=W/Y):SE X W (tY Y W L g) j (L+1) k=xw X j (W%Y) k:=by
 unfold SE xw
 by_cases c:k<j
 ·rw[if_pos c,if_pos c]
 ·rw[if_neg c,if_neg c];have hD:tY Y W L g=W%Y+ag^(L+1):=by
   unfold tY;subst hg;have:=Nat.div_add_mod W Y;rw[Nat.mul_comm] at this;omega
  have hr:=Nat.mod_lt W h.pos
  by_cases c2:k<j+(L+1)
  ·rw[if_pos c2,hD,KJ ae]
  ·rw[if_neg c2];have h1:ag^(L+1)<=ag^(k-j):=Nat.pow_le_pow_right ax ae;have h2:=h.wlt;have h3:=h.hi;have h4:ag^L<=ag^(L+1):=Nat.pow_le_pow_right ax ae;rw[Nat.div_eq_of_lt ae,Nat.div_eq_of_lt ae]
def abT(X Y W D L j i k:Nat):Nat:=if k<j then X/ag^k%ag else if k<j+i then(D+Y)/ag^(k-j)%ag else if k<j+(L+1) then D/ag^(k-j)%ag else W/ag^(k-j)%ag
def Uk(X Y W D L j k:Nat):SE X W D j (L+1) k=abT X Y W D L j 0 k:=by
 unfold SE abT
 by_cases c:k<j
 ·rw[if_pos c,if_pos c]
 ·rw[if_neg c,if_neg c,if_neg (by omega:¬k<j+0)]
def qdT(X Y W D L j i:Nat)(hi:i<=L):abT X Y W D L j i (i+j)=D/ag^i%ag:=by
 unfold abT;rw[if_neg ae,if_neg ae,if_pos ae,show i+j-j=i by omega]
theorem Ul(X Y W D L j i k:Nat):abT X Y W D L j (i+1) k=if k=i+j then uy D Y i%4294967296 else abT X Y W D L j i k:=by
 rw[TY];unfold abT
 by_cases e:k=i+j
 ·subst e;rw[if_neg ae,if_pos ae,if_pos rfl,show i+j-j=i by omega]
 ·rw[if_neg e]
  by_cases c:k<j
  ·rw[if_pos c,if_pos c]
  ·rw[if_neg c,if_neg c]
   by_cases c2:k<j+i
   ·rw[if_pos c2,if_pos ae]
   ·rw[if_neg c2,if_neg ae]
def qmI{X Y W L g j k:Nat}(h:D5 Y W L)(hg:g=W/Y+1):abT X Y W (tY Y W L g) L j (L+1) k=xw X j (W%Y) k:=by
 have e:tY Y W L g+Y=tY Y W L (W/Y):=by
  have h1:=qdR h (g:=g) ae;unfold tY;subst hg;rw[Nat.add_mul] at h1 ⊢;omega
 rw[<-qdS (X:=X) (j:=j) (k:=k) h rfl,<-e];unfold abT SE
 by_cases c:k<j
 ·rw[if_pos c,if_pos c]
 ·rw[if_neg c,if_neg c]
  by_cases c2:k<j+(L+1)
  ·rw[if_pos c2,if_pos c2]
  ·rw[if_neg c2,if_neg c2,if_neg c2]
theorem qmJ(D Y L:Nat)(hY:Y<ag^L):(D/ag^L%ag+uz D Y L%4294967296)%4294967296=uy D Y L%4294967296:=by
 rw[Jt,show Y/ag^L%ag=0 by rw[Nat.div_eq_of_lt hY];rfl];omega
def qdU{Y W L g:Nat}(h:D5 Y W L)(h1:g<=W/Y+1)(h2:W/Y<=g)(hb:lC (W+ag^(L+1)) (g*Y) (L+1)=1):g=W/Y+1:=by
 rcases Nat.lt_or_ge (W/Y) g with c|c
 ·omega
 ·exfalso
  have e:g=W/Y:=ae;subst e;unfold lC at hb;have h3:=Nat.div_mul_le_self W Y;have h4:=h.wlt;rw[Nat.add_mod_right,Nat.mod_eq_of_lt h4,Nat.mod_eq_of_lt ae,if_neg ae] at hb;cases hb
def qmK{Y W L g:Nat}(h:D5 Y W L)(h1:g<=W/Y+1)(h2:W/Y<=g)(hB:g<=4294967296)(hb:lC (W+ag^(L+1)) (g*Y) (L+1)=0):g=W/Y:=by
 rcases Nat.lt_or_ge (W/Y) g with c|c
 ·exfalso
  have e:g=W/Y+1:=ae;unfold lC at hb;have h3:=Nat.div_add_mod W Y;have h4:=h.wlt;have h5:=Nat.mod_lt W h.pos;have h6:g*Y<ag^(L+1):=by
   rw[mY,Nat.mul_comm];exact Nat.mul_lt_mul_of_lt_of_le h.hi hB ax
  rw[Nat.add_mod_right,Nat.mod_eq_of_lt h4,Nat.mod_eq_of_lt h6] at hb;have h7:g*Y=Y*(W/Y)+Y:=by rw[e,Nat.add_mul,Nat.mul_comm,Nat.one_mul]
  rw[if_pos ae] at hb;cases hb
 ·omega
theorem qip{Y L g:Nat}(hY:Y<ag^L)(hB:g<=4294967296):gC Y g L=g*Y/ag^L%ag:=by
 have h1:gC Y g L=g*Y/ag^L:=(by unfold gC;rw[Nat.mod_eq_of_lt hY]);have h2:=OQ Y g L hB;rw[h1] at h2 ⊢;exact(Nat.mod_eq_of_lt (by unfold ag at*;omega)).symm
def qmL{n:Nat}(h0:n≠0):∃s,s<32∧(32-(Lib.bitLen (n/ag^((ah ag n).length-1)%ag):Int))=((s:Nat):Int)∧ag^(ah ag n).length<=2*(n*2^s)∧n*2^s<ag^(ah ag n).length:=by
 have hlt:=dM dD n;have hl:0<(ah ag n).length:=by
  rcases Nat.eq_zero_or_pos (ah ag n).length with h|h
  ·exact absurd ((vX dD).1 (List.eq_nil_of_length_eq_zero h)) h0
  ·exact h
 generalize hL:(ah ag n).length=L at*
 obtain⟨k,rfl⟩:∃k,L=k+1:=⟨L-1,ae⟩;simp only[Nat.add_sub_cancel];have hk:ag^k<=n:=by
  rcases Nat.lt_or_ge n (ag^k) with h|h
  ·have:=jB dD h;omega
  ·exact h
 have ht:n/ag^k<ag:=(by rw[Nat.div_lt_iff_lt_mul (dh k),Nat.mul_comm,<-mY];exact hlt);have ht0:0<n/ag^k:=Nat.div_pos hk (dh k);rw[Nat.mod_eq_of_lt ht];obtain⟨b1,b2,b3⟩:=wU (x:=n/ag^k) (Nat.lt_trans ht ax) ae;have b4:Lib.bitLen (n/ag^k)<=32:=Lib.bitLen_le _ 32 ae ht
 generalize Lib.bitLen (n/ag^k)=b at*
 refine⟨32-b,ae,ae,?_,?_⟩
 ·have h1:2^(b-1)*ag^k<=n:=by
   have:=Nat.mul_le_mul_right (ag^k) b2;exact Nat.le_trans this (Nat.div_mul_le_self _ _)
  have h2:=Nat.mul_le_mul_right (2^(32-b)) h1;have h3:2^(b-1)*ag^k*2^(32-b)*2=ag^(k+1):=by
   have e:2^(b-1)*2^(32-b)*2=ag:=by
    rw[<-Nat.pow_add,<-Nat.pow_succ,show(b-1+(32-b)).succ=32 by omega];rfl
   rw[mY,<-e];grind
  omega
 ·have h1:n<2^b*ag^k:=by
   exact Nat.lt_mul_of_div_lt b3 (dh k)
  have h2:=(Nat.mul_lt_mul_right (a:=2^(32-b)) (Nat.pow_pos ae)).2 h1;have h3:2^b*ag^k*2^(32-b)=ag^(k+1):=by
   have e:2^b*2^(32-b)=ag:=(by rw[<-Nat.pow_add,show b+(32-b)=32 by omega];rfl);rw[mY,<-e];grind
  omega
def qiq{m n s:Nat}(hs:s<32)(hlen:(ah ag n).length<=(ah ag m).length)(h1:ag^(ah ag n).length<=2*(n*2^s)):m*2^s/ag^((ah ag m).length+1-(ah ag n).length)<n*2^s:=by
 rw[Nat.div_lt_iff_lt_mul (dh _)];have h2:=dM dD m;have h3:=yP hs;have h4:m*2^s<=m*2147483648:=Nat.mul_le_mul_left _ h3;have h5:ag^(ah ag n).length*ag^((ah ag m).length+1-(ah ag n).length)=ag^(ah ag m).length*ag:=by
  rw[<-Nat.pow_add,<-mY];congr 1;omega
 have h6:=Nat.mul_le_mul_right (ag^((ah ag m).length+1-(ah ag n).length)) h1;rw[h5,Nat.mul_assoc] at h6;have h7:ag^(ah ag m).length*ag=2*(2147483648*ag^(ah ag m).length):=YX;omega
def qir{X Y M k:Nat}(h:X/ag^M<Y):NJ X k=xw X M (X/ag^M%Y) k:=by
 unfold xw NJ;rw[Nat.mod_eq_of_lt h]
 split
 ·rfl
 ·rw[Nat.div_div_eq_div_mul,<-Nat.pow_add,show M+(k-M)=k by omega]
def QG{X Y W j:Nat}(hW:dvW X Y j=W)(k:Nat):xw X (j+1) (X/ag^(j+1)%Y) (k+j)=W/ag^k%ag:=by
 rw[Uj X Y 0 j,hW];unfold SE;rw[if_neg ae,if_neg ae,show k+j-j=k by omega]
def qkA{X Y W j:Nat}(hW:dvW X Y j=W)(D k:Nat):xw X (j+1) (X/ag^(j+1)%Y) k=SE X W D j 0 k:=by
 rw[Uj X Y D j,hW]
def D5.whigh{Y W L:Nat}(h:D5 Y W L):2^32*(W/ag^L%ag)+W/ag^(L-1)%ag=W/ag^(L-1):=by
 have h1:=qdH W (L-1);rw[show L-1+1=L by have:=h.hL;omega] at h1;have h2:W/ag^L<ag:=(by rw[Nat.div_lt_iff_lt_mul (dh L),Nat.mul_comm,<-mY];exact h.wlt);rw[Nat.mod_eq_of_lt h2,Nat.mul_comm];exact h1.symm
def D5.ytop{Y W L:Nat}(h:D5 Y W L):NJ Y (L-1)=Y/ag^(L-1):=by
 unfold NJ;exact Nat.mod_eq_of_lt h.y1.2
def qo3{p q:Nat}(hp:p<4294967296)(hq:q<4294967296):p*q<18446744073709551616:=by
 have:p*q<=4294967295*4294967295:=Nat.mul_le_mul ae ae;omega
def KL{Y W L g i:Nat}(h:D5 Y W L)(hg1:g<=W/Y+1)(hi:i<=L)(hd:W/ag^i%ag<g*Y/ag^i%ag+lC (W+ag^(L+1)) (g*Y) i):
 W/ag^i%ag+4294967296=tY Y W L g/ag^i%ag+g*Y/ag^i%ag+lC (W+ag^(L+1)) (g*Y) i∧lC (W+ag^(L+1)) (g*Y) (i+1)=1:=by
 have:=Y3 (i:=i) (qdR h hg1) (by rw[KJ hi];exact hd);rw[KJ hi] at this;exact this
def KN{Y W L g i:Nat}(h:D5 Y W L)(hg1:g<=W/Y+1)(hi:i<=L)(hd:¬W/ag^i%ag<g*Y/ag^i%ag+lC (W+ag^(L+1)) (g*Y) i):
 W/ag^i%ag=tY Y W L g/ag^i%ag+g*Y/ag^i%ag+lC (W+ag^(L+1)) (g*Y) i∧lC (W+ag^(L+1)) (g*Y) (i+1)=0:=by
 have:=Y4 (i:=i) (qdR h hg1) (by rw[KJ hi];exact hd);rw[KJ hi] at this;exact this
def qmM{Y W L g i:Nat}(h:D5 Y W L)(hg1:g<=W/Y+1)(hi:i<=L):IntKind.u32.wrap (((W/ag^i%ag:Nat):Int)-((lC (W+ag^(L+1)) (g*Y) i:Nat):Int)-((g*Y/ag^i%ag:Nat):Int))=((tY Y W L g/ag^i%ag:Nat):Int):=by
 rw[qhG];have hD:=bH (tY Y W L g/ag^i)
 by_cases c:W/ag^i%ag<g*Y/ag^i%ag+lC (W+ag^(L+1)) (g*Y) i
 ·have:=(KL h hg1 hi c).1
  generalize W/ag^i%ag=w at*
  generalize g*Y/ag^i%ag=p at*
  generalize tY Y W L g/ag^i%ag=d at*
  generalize lC (W+ag^(L+1)) (g*Y) i=b at*
  omega
 ·have:=(KN h hg1 hi c).1
  generalize W/ag^i%ag=w at*
  generalize g*Y/ag^i%ag=p at*
  generalize tY Y W L g/ag^i%ag=d at*
  generalize lC (W+ag^(L+1)) (g*Y) i=b at*
  omega
def tZ(X Y p k:Nat):Nat:=if k<p then 0 else X/Y/ag^k%ag
theorem qbh(X Y j k:Nat):tZ X Y j k=if k=j then X/Y/ag^j%ag else tZ X Y (j+1) k:=by
 unfold tZ
 by_cases e:k=j
 ·subst e;rw[if_neg ae,if_pos rfl]
 ·rw[if_neg e]
  by_cases c:k<j
  ·rw[if_pos c,if_pos ae]
  ·rw[if_neg c,if_neg ae]
def qis(X Y p k:Nat):tZ X Y p k<ag:=by unfold tZ;split;decide;exact bH _
theorem qit{m n s M:Nat}(h0:n≠0)(h:m*2^s/ag^M<n*2^s):val ag (row M (tZ (m*2^s) (n*2^s) 0))=m/n:=by
 have e:m*2^s/(n*2^s)=m/n:=Nat.mul_div_mul_right m n (Nat.pow_pos ae);rw[cu (g:=fun j=>m/n/ag^j%ag) (fun j _=>by unfold tZ;rw[if_neg ae,e]),pM ag ax,Nat.mod_eq_of_lt];have hp:0<n*2^s:=Nat.mul_pos ae (Nat.pow_pos ae);rw[<-e,Nat.div_lt_iff_lt_mul hp];rw[Nat.div_lt_iff_lt_mul (dh M)] at h;rw[Nat.mul_comm (n*2^s) (ag^M)] at h;exact h
def Y9(m n s k:Nat):xw (m*2^s) 0 (m*2^s/ag^0% (n*2^s)) k=m%n*2^s/ag^k%ag:=by
 unfold xw;rw[if_neg ae,Nat.sub_zero,Nat.pow_zero,Nat.div_one,Nat.mul_mod_mul_right]
def xW(r i k:Nat):Nat:=if k<i then r/ag^k%ag else 0
theorem Wy(r k:Nat):xW r 0 k=0:=by simp[xW]
theorem WA(r i k:Nat):xW r (i+1) k=if k=i then r/ag^i%ag else xW r i k:=by
 unfold xW
 by_cases e:k=i
 ·subst e;rw[if_pos ae,if_pos rfl]
 ·rw[if_neg e]
  by_cases c:k<i
  ·rw[if_pos c,if_pos ae]
  ·rw[if_neg c,if_neg ae]
def qdV(r i k:Nat):xW r i k<ag:=by unfold xW;split;exact bH _;decide
theorem qdW{m n:Nat}(h0:n≠0):val ag (row (ah ag n).length (xW (m%n) (ah ag n).length))=m%n:=by
 rw[cu (g:=fun j=>m%n/ag^j%ag) (fun j hj=>by unfold xW;rw[if_pos hj]),pM ag ax,Nat.mod_eq_of_lt];exact Nat.lt_trans (Nat.mod_lt _ ae) (dM dD n)
def qiu(V i:Nat):2^32*(V/ag^(i+1)%ag)+V/ag^i%ag=V/ag^i% (ag*ag):=by
 rw[Nat.mod_mul,mY,<-Nat.div_div_eq_div_mul];show ag*_+_=_;omega
def qiv(V i:Nat):V/ag^i% (ag*ag)<18446744073709551616:=Nat.mod_lt _ ax
theorem qdX{r s i:Nat}(hs:s<32):r*2^s/ag^i% (ag*ag)/2^s%4294967296=r/ag^i%ag:=by
 show _%ag=_;have hp:0<2^s:=Nat.pow_pos ae;have e:ag*ag=2^s*(ag*2^(32-s)):=by
  have:=wG hs
  conv=>lhs;rw[this]
  rw[<-this];conv=>lhs;arg 1;rw[this]
  grind
 rw[e,Nat.mod_mul,Nat.add_mul_div_left _ _ hp,Nat.div_eq_of_lt (Nat.mod_lt _ hp),Nat.zero_add];have e2:r*2^s/ag^i/2^s=r/ag^i:=by
  rw[Nat.div_div_eq_div_mul,Nat.mul_comm (ag^i),<-Nat.div_div_eq_div_mul,Nat.mul_div_cancel _ hp]
 rw[e2,Nat.mod_mul_right_mod]
def qiw(Y g i:Nat):((gC Y g i:Nat):Int)+((g*(Y/ag^i%ag):Nat):Int)=((gS Y g i:Nat):Int):=by unfold gS;omega
def qbi(D Y i:Nat):((uz D Y i:Nat):Int)+((D/ag^i%ag+Y/ag^i%ag:Nat):Int)=((uy D Y i:Nat):Int):=by rw[Jt];omega
def KO{m n:Nat}(h:decide (mV m n<0)=false):n<=m:=by
 have:=of_decide_eq_false h;unfold mV at this;rcases Nat.lt_or_ge m n with c|c
 ·rw[if_pos c] at this;exact absurd ax this
 ·exact c
def OT{m n:Nat}(h:decide (mV m n<0)=true):m<n:=by
 have:=of_decide_eq_true h;unfold mV at this;rcases Nat.lt_or_ge m n with c|c
 ·exact c
 ·rw[if_neg ae] at this
  split at this<;>exact absurd this ax
def qix{n:Nat}(h0:n≠0):0<(ah ag n).length:=by
 rcases Nat.eq_zero_or_pos (ah ag n).length with h|h
 ·exact absurd ((vX dD).1 (List.eq_nil_of_length_eq_zero h)) h0
 ·exact h
def qiy{n:Nat}(h:(ah ag n).length=1):n<4294967296:=by have:=dM dD n;rw[h] at this;exact this
def qdY{n:Nat}(h1:(ah ag n).length=1)(hn:n<4294967296):(ah ag n)[0]? =some n:=by
 rw[lw dD ae,Nat.pow_zero,Nat.div_one];exact congrArg some (Nat.mod_eq_of_lt hn)
def D8(n:Nat):List Nat:=ah 256 n
theorem jQ(n:Nat):(D8 n).length=nb n:=rfl
def qmN{n i:Nat}(h:i<nb n):(D8 n)[i]? =some (n/256^i%256):=lH ae n i h
def wH(n q:Nat):n/256^q=n/256^(q+1)*256+n/256^q%256:=by
 rw[Nat.pow_succ,<-Nat.div_div_eq_div_mul];have:=Nat.div_add_mod (n/256^q) 256;omega
def OU{a b q:Nat}(h:a/256^q<b/256^q):a<b:=by
 rcases Nat.lt_or_ge a b with c|c
 ·exact c
 ·have:=Nat.div_le_div_right (c:=256^q) c;omega
theorem WB{a b:Nat}(h:nb a<nb b):mV a b= -1:=by unfold mV;rw[if_pos (YY h)]
theorem WC{a b:Nat}(h:nb b<nb a):mV a b=1:=by
 have:=YY h;unfold mV;rw[if_neg ae,if_pos this]
theorem WE{a b q:Nat}(he:a/256^(q+1)=b/256^(q+1))(h:a/256^q%256<b/256^q%256):mV a b= -1:=by
 have h1:=wH a q;have h2:=wH b q;have:a<b:=OU (q:=q) ae;unfold mV;rw[if_pos this]
theorem WF{a b q:Nat}(he:a/256^(q+1)=b/256^(q+1))(h:b/256^q%256<a/256^q%256):mV a b=1:=by
 have h1:=wH a q;have h2:=wH b q;have:b<a:=OU (q:=q) ae;unfold mV;rw[if_neg ae,if_pos this]
def WG{a b q:Nat}(he:a/256^(q+1)=b/256^(q+1))(h1:¬a/256^q%256<b/256^q%256)(h2:¬b/256^q%256<a/256^q%256):a/256^q=b/256^q:=by
 have e1:=wH a q;have e2:=wH b q;omega
def qiz{a b:Nat}(h:nb a=nb b):a/256^nb a=b/256^nb a:=by
 rw[Nat.div_eq_of_lt (kH a),h,Nat.div_eq_of_lt (kH b)]
theorem qiA{a b:Nat}(h:a/256^0=b/256^0):mV a b=0:=by
 have:a=b:=zI;subst this;unfold mV;rw[if_neg (Nat.lt_irrefl _),if_neg (Nat.lt_irrefl _)]
def qdZ{n q:Nat}(h7:nb n<=7):n/256^q<72057594037927936:=by
 have h1:=pz h7;have:n/256^q<=n:=Nat.div_le_self _ _;omega
theorem qd0(n:Nat):row (nb n) (wS n (nb n) (nb n))=(ah 256 n).reverse:=by
 apply List.ext_getElem?
 intro j
 by_cases hj:j<nb n
 ·rw[fU hj,List.getElem?_reverse (by exact hj)];have e:=lH (B:=256) ae n (nb n-1-j) qlO;unfold nb at e hj ⊢;rw[e];unfold wS;rw[if_pos ae]
 ·rw[List.getElem?_eq_none oH,List.getElem?_eq_none (by simp;unfold nb at hj;omega)]
theorem qiB(n:Nat):ah 256 (val 256 (D8 n))=D8 n:=by unfold D8;rw[rO ae]
def D6(n j:Nat):Nat:=n/256^j%256
def Au(n j:Nat):D6 n j<256:=Nat.mod_lt _ ax
theorem KP(n:Nat):row (nb n) (D6 n)=D8 n:=(Ah (B:=256) ae n).symm
def Fp(k:IntKind)(i:Nat)(f:Nat->Nat)(d:Int)(h:d=((f i:Nat):Int)):NV k (row i f)++[.int k d]=NV k (row (i+1) f):=by
 subst h;unfold NV row;rw[List.range_succ,List.map_append,List.map_append];rfl
def one_cell(k:IntKind)(d:Int):∀v∈[Value.int k d],v.oneCell'=true:=by
 intro v hv;rw[List.mem_singleton.1 hv];rfl
def OV{n i:Nat}(h:0<n/256^i):i<nb n:=by
 rcases Nat.lt_or_ge i (nb n) with c|c
 ·exact c
 ·rw[Nat.div_eq_of_lt (Nat.lt_of_lt_of_le (kH n) (gX c))] at h;omega
def OW{n i:Nat}(h:n/256^i=0)(hi:i<=nb n):i=nb n:=by
 have h1:n<256^i:=(Nat.div_eq_zero_iff_lt (Nat.pow_pos ae)).1 h;have:=nV h1;omega
theorem WH(n i:Nat):n/256^i/256=n/256^(i+1):=by rw[Nat.pow_succ,Nat.div_div_eq_div_mul]
def qkB(n:Nat):∀d∈D8 n,d<256:=BK ae
theorem Il(n:Nat):(ah 256 (val 256 (D8 n))).length=nb n:=by rw[qiB];rfl
theorem Um(n:Nat):(ah 256 (val 256 (row (nb n) (D6 n)))).length=nb n:=by rw[KP,Il]
def qiC(n:Nat){neg:Bool}(h:neg=true):Value.agg #[.bool (decide ((0:Int)<nb n)),.string (bP n)]=I (if neg=true then-(n:Int) else(n:Int)):=by
 rw[if_pos h];have e:=DN (n:=n);unfold I;have h1:decide ((0:Int)<nb n)=decide (-(n:Int)<0):=by
  by_cases c:n=0
  ·subst c;rw[kV];rfl
  ·rw[decide_eq_true ae,decide_eq_true ae]
 rw[h1,Int.natAbs_neg,Int.natAbs_natCast]
def qiD(n:Nat){neg:Bool}(h:neg=false):Value.agg #[.bool false,.string (bP n)]=I (if neg=true then-(n:Int) else(n:Int)):=by
 subst h;rw[if_neg ax];unfold I;rw[decide_eq_false ae,Int.natAbs_natCast]
end Go.Via
