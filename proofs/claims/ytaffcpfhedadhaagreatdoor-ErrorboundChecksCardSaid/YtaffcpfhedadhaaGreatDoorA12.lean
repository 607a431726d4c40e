/-
  Part 12 (chapter 32): lemmas, walks. Each theorem states its own conditions.
-/
import GoSem.Core.World
import Derived.MapKept
import Derived.WalkKit
import Derived.WalkSpells
import Derived.WalkLawsBesides
import Derived.Deep.LoopGhost
import Derived.Deep.AppendSrc
import Derived.Laws.BytesArg
import Derived.Laws.CopyRow
import Derived.Laws.AppendOwn
import Derived.Test.YtaffcpfhedadhaaGreatDoorA09
set_option linter.all false
set_option maxRecDepth 20000
set_option maxHeartbeats 20000000
section
variable{P Q:Prop}{T:Type}{R:T->Prop}
def BJ(h:P:=by rw[if_pos c,if_pos ae]):=h
def BK(h:P:=by rw[if_neg c,if_neg ae]):=h
def Ny(h:P:=by rw[Nat.mul_comm]):=h
def qV(h:P:=by rw[dD];omega):=h
def qbF(h:P:=by rw[Nat.pow_mul]):=h
def VQ(h:P:=by simpa using hz):=h
end
namespace Go.Via
variable[Mo]
open Go
def YJ(n i:Nat)(h:i<nb n):(bH n).data.toList[((i:Int)).toNat]? =some (UInt8.ofNat (n/256^(nb n-1-i)%256)):=by
 rw[Int.toNat_natCast,Gl];exact PZ n i h
def TC(n:Nat):(((UInt8.ofNat (n%256)).toNat:Nat):Int)=((n%256:Nat):Int):=by
 simp
def qdF(n:Nat):Value.int .u64 0= .int .u64 ((n/256^(nb n-0):Nat):Int):=by
 rw[Nat.sub_zero,Nat.div_eq_of_lt (kw n)];rfl
def qbG(n i:Nat)(hi:i<=nb n):n/256^(nb n-i)<256^i:=by
 rw[Nat.div_lt_iff_lt_mul (Nat.pow_pos ae),<-Nat.pow_add,show i+(nb n-i)=nb n by omega];exact kw n
theorem gJ{i k:Nat}(h:i<=k):256^i<=256^k:=Nat.pow_le_pow_right ae h
def qgq(n i:Nat)(hi:i<=nb n)(hlt:i<nb n)(h8:nb n<=8):n/256^(nb n-i)*2^8<18446744073709551616:=by
 have h1:=qbG n i hi;have h2:256^i<=256^7:=gJ ae;omega
def qdG(n i:Nat)(hlt:i<nb n):n/256^(nb n-(i+1))=n/256^(nb n-i)*256+n/256^(nb n-1-i)%256:=by
 have e:nb n-i=(nb n-(i+1))+1:=ae;have e2:nb n-1-i=nb n-(i+1):=ae;rw[e,e2,Nat.pow_succ,<-Nat.div_div_eq_div_mul];omega
def qny(n i:Nat)(hi:i<=nb n)(hlt:i<nb n)(h8:nb n<=8):
 IntKind.u64.wrap ((BitVec.ofInt IntKind.u64.bits ((n/256^(nb n-i)*2^8:Nat):Int)|||BitVec.ofInt IntKind.u64.bits ((n/256^(nb n-1-i)%256:Nat):Int)).toNat)=((n/256^(nb n-(i+1)):Nat):Int):=by
 have h1:=qdG n i hlt;have h2:=qbG n (i+1) hlt;have h3:256^(i+1)<=256^8:=gJ ae;exact Nj (m:=n/256^(nb n-i)) 8 ae ae ae Ny rfl
def row(n:Nat)(f:Nat->Nat):List Nat:=(List.range n).map f
theorem dD(n:Nat)(f:Nat->Nat):(row n f).length=n:=by simp[row]
theorem fK{n:Nat}{f:Nat->Nat}{i:Nat}(h:i<n):(row n f)[i]? =some (f i):=by simp[row,h]
theorem cu{n:Nat}{f g:Nat->Nat}(h:∀j,j<n->f j=g j):row n f=row n g:=by
 unfold row;exact List.map_congr_left fun j hj=>h j (List.mem_range.1 hj)
theorem jC{n:Nat}{f g:Nat->Nat}{i v:Nat}(h:∀j,j<n->g j=if j=i then v else f j):(row n f).set i v=row n g:=by
 apply List.ext_getElem?
 intro j
 by_cases hj:j<n
 ·rw[fK hj,h j hj]
  by_cases e:i=j
  ·subst e;rw[List.getElem?_set_self (by rw[dD];exact hj)];simp
  ·rw[List.getElem?_set_ne e,fK hj,if_neg (Ne.symm e)]
 ·rw[List.getElem?_eq_none (by simp[dD];omega),List.getElem?_eq_none qV]
theorem BL{B:Nat}(hB:2<=B)(n:Nat):ah B n=row (ah B n).length (fun j=>n/B^j%B):=by
 apply List.ext_getElem?
 intro j
 by_cases hj:j<(ah B n).length
 ·rw[fK hj,lD hB n j hj]
 ·rw[List.getElem?_eq_none ae,List.getElem?_eq_none qV]
theorem qf(B:Nat)(hB:1<=B)(n:Nat):∀k,val B (row k (fun j=>n/B^j%B))=n%B^k
 |0=>by simp[row,val,Nat.mod_one]
 |k+1=>by
  have e:row (k+1) (fun j=>n/B^j%B)=row k (fun j=>n/B^j%B)++[n/B^k%B]:=(by simp[row,List.range_succ]);rw[e,Vj,dD,qf B hB n k,Nat.pow_succ,Nat.mod_mul]
def oG{B n:Nat}{f:Nat->Nat}(h:∀j,f j<B):∀d∈row n f,d<B:=by
 intro d hd;obtain⟨j,_,rfl⟩:=List.mem_map.1 hd;exact h j
theorem oP(n:Nat):row n (fun _=>0)=List.replicate n 0:=by
 apply List.ext_getElem?
 intro j
 by_cases hj:j<n
 ·rw[fK hj];simp[hj]
 ·rw[List.getElem?_eq_none qV,List.getElem?_eq_none Et]
def oW{L L':List aF}(h:L=L'):fE L L':=h▸fE.refl _
def Qb(u i j:Nat):Nat:=if j<nb u∧nb u-1-j<i then u/256^(nb u-1-j)%256 else 0
def qdH(u:Nat):NV .u8 (row 8 (Qb u 0))=[.int .u8 0,.int .u8 0,.int .u8 0,.int .u8 0,.int .u8 0,.int .u8 0,.int .u8 0,.int .u8 0]:=by
 rw[cu (g:=fun _=>0) (fun j _=>by simp[Qb]),oP];rfl
def qdI(u i:Nat)(hi:i<nb u):(NV .u8 (row 8 (Qb u i))).set (nb u-1-i) (.int .u8 ((u/2^(8*i)%256:Nat):Int))=NV .u8 (row 8 (Qb u (i+1))):=by
 rw[lK,jC (g:=Qb u (i+1))];intro j _;unfold Qb
 by_cases e:j=nb u-1-i
 ·subst e;rw[if_pos rfl,if_pos ae,show nb u-1-(nb u-1-i)=i by omega,Nat.pow_mul]
 ·rw[if_neg e]
  by_cases c:j<nb u∧nb u-1-j<i
  ·exact BJ
  ·exact BK
def qgr(u:Nat)(h8:nb u<=8):(NV .u8 (row 8 (Qb u (nb u)))).take (nb u)=NV .u8 (ah 256 u).reverse:=by
 rw[qbt]
 congr 1
 apply List.ext_getElem?
 intro j
 by_cases hj:j<nb u
 ·rw[List.getElem?_take,if_pos hj,fK ae];rw[List.getElem?_reverse (by exact hj)];have e:=lD (B:=256) ae u (nb u-1-j) qrD;unfold nb at e hj ⊢;rw[e];unfold Qb;rw[if_pos (by unfold nb;omega)];rfl
 ·rw[List.getElem?_eq_none Et,List.getElem?_eq_none (by simp;unfold nb at hj;omega)]
def VR(u:Nat):qga (ah 256 u).reverse=bH u:=rfl
def qsl{u:Nat}(h:u<18446744073709551616):nb u<=8:=oh ae
def Fh{u:Nat}(h:u≠0):0<nb u:=by have:=EY (n:=u);omega
end Go.Via
namespace Go.Via
open Go
def qbH{m n r:Nat}(i:Nat)(hn:n<2^i)(hr:n+2^i*m=r)(hb:r<4294967296){x y:Int}(hx:x=(n:Int))(hy:y=((2^i*m:Nat):Int)):
 IntKind.u32.wrap ((BitVec.ofInt IntKind.u32.bits x|||BitVec.ofInt IntKind.u32.bits y).toNat)=(r:Int):=by
 rw[BitVec.or_comm];exact qrZ i hn ae hb hy hx
def ag:Nat:=4294967296
theorem dJ:2<=ag:=au
theorem GN(j:Nat):ag^j=256^(4*j):=by rw[show ag=256^4 from rfl,<-Nat.pow_mul]
theorem GR(n:Nat):(ah ag n).length=(nb n+3)/4:=by
 have e1:(ah ag n).length<=(nb n+3)/4:=iw dJ (by
 rw[GN];exact Nat.lt_of_lt_of_le (kw n) (gJ ae))
 have e2:(nb n+3)/4<=(ah ag n).length:=by
  by_cases h0:nb n=0
  ·rw[h0];omega
  ·have hn:nb n<=4*(ah ag n).length:=oh (by rw[<-GN];exact dL dJ n);omega
 omega
def zF(n i j:Nat):Nat:=n%256^i/256^(4*j)%ag
theorem qdJ(n j:Nat):zF n 0 j=0:=by simp[zF,Nat.mod_one]
theorem qgs(n:Nat):row ((nb n+3)/4) (zF n (nb n))=ah ag n:=by
 rw[BL dJ n,GR];refine cu fun j _=>?_
 unfold zF;rw[Nat.mod_eq_of_lt (kw n),GN]
theorem JX(n i:Nat):n%256^(i+1)=n%256^i+256^i*(n/256^i%256):=by rw[Nat.pow_succ,Nat.mod_mul]
def Nz(n i:Nat):zF n i (i/4)<2^(8*(i%4)):=by
 unfold zF;have h1:n%256^i/256^(4*(i/4))<256^(i%4):=by
  rw[Nat.div_lt_iff_lt_mul (Nat.pow_pos ae),<-Nat.pow_add,show i%4+4*(i/4)=i by omega];exact Nat.mod_lt _ (Nat.pow_pos ae)
 have e2:2^(8*(i%4))=256^(i%4):=qbF;rw[e2];exact Nat.lt_of_le_of_lt (Nat.mod_le _ _) h1
def NC(n i:Nat):zF n i (i/4)+2^(8*(i%4))*(n/256^i%256)<4294967296:=by
 have h1:=Nz n i;have h2:n/256^i%256<256:=Nat.mod_lt _ ae;have h3:2^(8*(i%4))*(n/256^i%256+1)<=2^(8*(i%4))*256:=Nat.mul_le_mul_left _ h2;have h4:2^(8*(i%4))*256<=4294967296:=by
  have:i%4=0∨i%4=1∨i%4=2∨i%4=3:=ae;rcases this with e|e|e|e<;>rw[e]<;>decide
 rw[Nat.mul_add] at h3;omega
theorem qdK(n i j:Nat):zF n (i+1) j=if j=i/4 then zF n i j+2^(8*(i%4))*(n/256^i%256) else zF n i j:=by
 have hb:n/256^i%256<256:=Nat.mod_lt _ ae;have hA:n%256^i<256^i:=Nat.mod_lt _ (Nat.pow_pos ae)
 split
 ·rename_i e
  subst e;have hs:=NC n i;have hl:=Nz n i;unfold zF at*;rw[JX]
  generalize n/256^i%256=b at*
  have e1:256^i*b=256^(4*(i/4))*(256^(i%4)*b):=by
   rw[<-Nat.mul_assoc,<-Nat.pow_add,show 4*(i/4)+i%4=i by omega]
  rw[e1,Nat.add_mul_div_left _ _ (Nat.pow_pos ae)];have e2:2^(8*(i%4))=256^(i%4):=qbF
  rw[e2] at hs hl ⊢;have h1:n%256^i/256^(4*(i/4))<256^(i%4):=by
   rw[Nat.div_lt_iff_lt_mul (Nat.pow_pos ae),<-Nat.pow_add,show i%4+4*(i/4)=i by omega];exact hA
  have h2:256^(i%4)<=ag:=by
   have:256^(i%4)<=256^4:=gJ ae;exact this
  have h3:n%256^i/256^(4*(i/4))%ag=n%256^i/256^(4*(i/4)):=Nat.mod_eq_of_lt ae;rw[h3] at hs ⊢;exact Nat.mod_eq_of_lt hs
 ·rename_i e
  unfold zF;rw[JX]
  generalize n/256^i%256=b at*
  by_cases h:j<i/4
  ·have e1:256^i*b=256^(4*j)*(ag*(256^(i-4*j-4)*b)):=by
    rw[show ag=256^4 from rfl,<-Nat.mul_assoc,<-Nat.mul_assoc,<-Nat.pow_add,<-Nat.pow_add,show 4*j+4+(i-4*j-4)=i by omega]
   rw[e1,Nat.add_mul_div_left _ _ (Nat.pow_pos ae),Nat.add_mul_mod_self_left]
  ·have h1:i+1<=4*j:=ae
   have h2:256^(i+1)<=256^(4*j):=gJ h1;have h3:n%256^i+256^i*b<256^(4*j):=by
    have:256^i*(b+1)<=256^i*256:=Nat.mul_le_mul_left _ hb;rw[Nat.mul_add] at this;rw[Nat.pow_succ] at h2;omega
   rw[Nat.div_eq_of_lt h3,Nat.div_eq_of_lt ae]
def x9(n M p j:Nat):Nat:=if M-1-j<p then n/256^(M-1-j)%256 else 0
theorem QJ(n M j:Nat):x9 n M 0 j=0:=by simp[x9]
def QK(n M p v:Nat)(hp:p<M)(hv:v=n/256^p%256):(NV .u8 (row M (x9 n M p))).set (M-1-p) (.int .u8 (v:Int))=NV .u8 (row M (x9 n M (p+1))):=by
 rw[lK,jC (g:=x9 n M (p+1))];intro j hj;unfold x9
 by_cases e:j=M-1-p
 ·subst e;rw[if_pos rfl,if_pos ae,show M-1-(M-1-p)=p by omega,hv]
 ·rw[if_neg e]
  by_cases c:M-1-j<p
  ·exact BJ
  ·exact BK
theorem ND(l:List UInt8):mr (0::l)=mr l:=by
 unfold mr;rw[List.reverse_cons,List.map_append,ru];simp[val]
theorem BM:∀l:List UInt8,mr (l.dropWhile (· ==0))=mr l
 |[]=>rfl
 |x::l=>by
  by_cases h:x=0
  ·subst h;rw[List.dropWhile_cons_of_pos (by rfl),ND];exact BM l
  ·rw[List.dropWhile_cons_of_neg pX]
def BN:∀l:List UInt8,(l.dropWhile (· ==0)).head? ≠some 0
 |[]=>by simp
 |x::l=>by
  by_cases h:x=0
  ·subst h;rw[List.dropWhile_cons_of_pos (by rfl)];exact BN l
  ·rw[List.dropWhile_cons_of_neg pX];simpa using h
def lm(l:List UInt8):ByteArray:=⟨l.toArray⟩
theorem yR(l:List UInt8):(lm l).size=l.length:=by show l.toArray.size=_;simp
theorem qdL(n M:Nat)(h:n<256^M):lm (((row M (x9 n M M)).map UInt8.ofNat).dropWhile (· ==0))=bH n:=by
 have e1:mr ((row M (x9 n M M)).map UInt8.ofNat)=n:=by
  unfold mr;have e2:((row M (x9 n M M)).map UInt8.ofNat).reverse.map UInt8.toNat=row M (fun j=>n/256^j%256):=by
   rw[<-List.map_reverse,oV]
   ·apply List.ext_getElem?
    intro j
    by_cases hj:j<M
    ·rw[List.getElem?_reverse (by rw[dD];exact hj),dD,fK ae,fK hj];unfold x9;rw[if_pos ae,show M-1-(M-1-j)=j by omega]
    ·rw[List.getElem?_eq_none (by simp[dD];omega),List.getElem?_eq_none qV]
   ·intro d hd;rw[List.mem_reverse] at hd;exact oG (B:=256) (fun j=>by unfold x9;split<;>omega) d hd
  rw[e2,qf 256 ae,Nat.mod_eq_of_lt h]
 have e3:=IP (BN ((row M (x9 n M M)).map UInt8.ofNat));rw[BM,e1] at e3;unfold lm bH;rw[e3]
def qnz(l:List Nat):qga l=lm (l.map UInt8.ofNat):=rfl
theorem tH{B n i:Nat}(hB:2<=B)(h:i<(ah B n).length):(ah B n)[i]? =some (n/B^i%B):=lD hB n i h
def YK(n i k:Nat)(hk:k<4):n/ag^i%ag/2^(8*k)%256=n/256^(4*i+k)%256:=by
 have e:ag=256^k*256^(4-k):=(by rw[<-Nat.pow_add,show k+(4-k)=4 by omega];rfl);have e8:2^(8*k)=256^k:=qbF;rw[GN,e,Nat.mod_mul,e8,Nat.add_mul_div_left _ _ (Nat.pow_pos ae),Nat.div_eq_of_lt (Nat.mod_lt _ (Nat.pow_pos ae)),Nat.zero_add,Nat.div_div_eq_div_mul,<-Nat.pow_add];have e2:256^(4-k)=256*256^(3-k):=(by rw[show 4-k=(3-k)+1 by omega,Nat.pow_succ,Nat.mul_comm]);rw[e2,Nat.mod_mul,Nat.add_mul_mod_self_left,Nat.mod_mod]
theorem GU{B:Nat}(hB:2<=B){l:List Nat}(hl:∀d∈l,d<B){m:Nat}(hm:m<=l.length)(hv:val B (l.take m)=val B l)(hz:m=0∨∃h:m-1<l.length,l[m-1]≠0):m=(ah B (val B l)).length:=by
 rw[<-Vl hB hl hm hv hz,List.length_take];omega
def YL{B:Nat}{l:List Nat}{m:Nat}(h0:0<m)(hm:m<=l.length)(hv:val B (l.take m)=val B l)(h:m-1<l.length)(hz:l[m-1]=0):val B (l.take (m-1))=val B l:=by
 obtain⟨k,rfl⟩:∃k,m=k+1:=⟨m-1,ae⟩;exact qdj hm hv VQ
def yS{B:Nat}(hB:2<=B):∀{l:List Nat},(∀d∈l,d<B)->l.take (ah B (val B l)).length=ah B (val B l):=by
 have key:∀(n:Nat) (l:List Nat),l.length=n->(∀d∈l,d<B)->∃m,m<=l.length∧l.take m=ah B (val B l):=by
  intro n
  induction n with
  |zero=>intro l hl h;have:l=[]:=List.eq_nil_of_length_eq_zero hl;subst this;exact⟨0,bz,by simp[val,jh]⟩
  |succ n ih=>
   intro l hl h
   by_cases hz:l[n]' ae=0
   ·have e:l=l.take n++[0]:=by
     conv=>lhs;rw[<-List.take_append_drop n l]
     rw[List.drop_eq_getElem_cons ae,hz,List.drop_eq_nil_of_le ae]
    obtain⟨m,h1,h2⟩:=ih (l.take n) Et (Vk h n);have hv:val B l=val B (l.take n):=by
     conv=>lhs;rw[e]
     rw[Vj];omega
    refine⟨m,by simp at h1;omega,?_⟩;rw[hv,<-h2,List.take_take];congr 1;simp at h1;omega
   ·exact⟨n+1,ae,Vl hB h ae (by rw[List.take_of_length_le ae]) (.inr ⟨ae,VQ⟩)⟩
 intro l h;obtain⟨m,h1,h2⟩:=key _ l rfl h;have:m=(ah B (val B l)).length:=by rw[<-h2,List.length_take];omega
 rw[<-this];exact h2
end Go.Via
