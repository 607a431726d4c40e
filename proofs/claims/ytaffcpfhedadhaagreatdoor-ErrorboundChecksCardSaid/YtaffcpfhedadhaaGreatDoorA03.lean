/-
  Part 3 (chapter 32): lemmas, walks. Each theorem states its own conditions.
-/
import Derived.Test.YtaffcpfhedadhaaGreatDoorA02
set_option linter.all false
set_option maxRecDepth 20000
set_option maxHeartbeats 20000000
section
variable{P Q:Prop}{T:Type}{R:T->Prop}
def qfd(h:P:=by simpa using hi):=h
def qmE(h:P:=by rw[hY];grind):=h
def qrD(h:P:=by unfold nb at*;omega):=h
end
namespace Go.Via
def val(B:Nat):List Nat->Nat
 |[]=>0
 |d::l=>d+B*val B l
@[simp] theorem qw6 (B:Nat):val B []=0:=rfl
@[simp] theorem sW (B d:Nat) (l:List Nat):val B (d::l)=d+B*val B l:=rfl
def ah(B n:Nat):List Nat:=
 if _h:n=0∨B<2 then[] else n%B::ah B (n/B)
 termination_by n
 decreasing_by exact Nat.div_lt_self ae ae
theorem jh(B:Nat):ah B 0=[]:=by unfold ah;simp
theorem pW{B n:Nat}(hB:2<=B)(hn:n≠0):ah B n=n%B::ah B (n/B):=by
 conv=>lhs;unfold ah
 rw[dif_neg ae]
theorem sZ{B:Nat}(hB:2<=B)(n:Nat):val B (ah B n)=n:=by
 induction n using Nat.strongRecOn with
 |_ n ih=>
  by_cases hn:n=0
  ·subst hn;simp[jh]
  ·rw[pW hB hn,sW,ih _ (Nat.div_lt_self ae ae)];exact Nat.mod_add_div n B
theorem DD{B n:Nat}(hB:2<=B):∀d∈ah B n,d<B:=by
 induction n using Nat.strongRecOn with
 |_ n ih=>
  by_cases hn:n=0
  ·subst hn;simp[jh]
  ·rw[pW hB hn];intro d hd;rcases List.mem_cons.1 hd with rfl|hd
   ·exact Nat.mod_lt _ ae
   ·exact ih _ (Nat.div_lt_self ae ae) d hd
def xy(l:List Nat):Prop:=l.getLast? ≠some 0
def Qx:xy []:=by simp[xy]
theorem MF{d:Nat}{l:List Nat}(h:xy (d::l)):xy l:=by
 cases l with
 |nil=>exact Qx
 |cons e l=>simpa[xy,List.getLast?_cons_cons] using h
def yO{B:Nat}(hB:2<=B):∀{l:List Nat},xy l->l≠[]->0<val B l
 |[],_,h=>absurd rfl h
 |[d],h,_=>by
  simp[xy] at h;simp;omega
 |d::e::l,h,_=>by
  have:=yO hB (MF h) bz;rw[sW];have:0<B*val B (e::l):=Nat.mul_pos ae this;omega
theorem MG{B:Nat}(hB:2<=B):∀{l:List Nat},(∀d∈l,d<B)->xy l->ah B (val B l)=l
 |[],_,_=>by simp[jh]
 |d::l,hl,hc=>by
  have hp:=yO hB hc bz;rw[pW hB ae];have hd:=hl d bz;have e1:val B (d::l)%B=d:=(by rw[sW,Nat.add_mul_mod_self_left];exact Nat.mod_eq_of_lt hd);have e2:val B (d::l)/B=val B l:=by
   rw[sW,Nat.add_mul_div_left _ _ ae,Nat.div_eq_of_lt hd];omega
  rw[e1,e2,MG hB (fun x hx=>hl x (by simp[hx])) (MF hc)]
def Ye{B:Nat}(hB:2<=B)(n:Nat):xy (ah B n):=by
 induction n using Nat.strongRecOn with
 |_ n ih=>
  by_cases hn:n=0
  ·subst hn;rw[jh];exact Qx
  ·rw[pW hB hn];have h2:=ih _ (Nat.div_lt_self (n:=n) (k:=B) ae ae);cases hd:ah B (n/B) with
   |nil=>
    have h0:n/B=0:=(by rw[<-sZ hB (n/B),hd];rfl);have:n<B:=by
     rcases Nat.div_eq_zero_iff.1 h0 with h|h
     ·omega
     ·exact h
    simp[xy,Nat.mod_eq_of_lt this];exact hn
   |cons e l=>rw[hd] at h2;simpa[xy,List.getLast?_cons_cons] using h2
theorem ru(B:Nat)(a b:List Nat):val B (a++b)=val B a+B^a.length*val B b:=by
 induction a with
 |nil=>simp
 |cons d a ih=>
  rw[List.cons_append,sW,ih,sW,List.length_cons,Nat.pow_succ,Nat.mul_add,
 show B^a.length*B*val B b=B*(B^a.length*val B b) by rw[Nat.mul_comm (B^a.length) B,Nat.mul_assoc]]
  omega
def IL{B:Nat}(hB:1<=B):∀{l:List Nat},(∀d∈l,d<B)->val B l<B^l.length
 |[],_=>by simp
 |d::l,hl=>by
  have h1:=IL hB (l:=l) (fun x hx=>hl x (by simp[hx]));have hd:=hl d bz;rw[sW,List.length_cons,Nat.pow_succ];have:B*val B l+B<=B^l.length*B:=by
   have:=Nat.mul_le_mul_left B (Nat.succ_le_of_lt h1);rw[Nat.mul_comm (B^l.length) B];rw[Nat.mul_succ] at this;exact this
  omega
def iw{B:Nat}(hB:2<=B){n k:Nat}(h:n<B^k):(ah B n).length<=k:=by
 induction k generalizing n with
 |zero=>simp at h;subst h;simp[jh]
 |succ k ih=>
  by_cases hn:n=0
  ·subst hn;simp[jh]
  ·rw[pW hB hn,List.length_cons];have:=ih (n:=n/B) (by rw[Nat.div_lt_iff_lt_mul ae];rwa [Nat.pow_succ] at h);omega
theorem dL{B:Nat}(hB:2<=B)(n:Nat):n<B^(ah B n).length:=by
 have:=IL (B:=B) ae (l:=ah B n) (DD hB)
 rwa [sZ hB] at this
def SN{B:Nat}(hB:2<=B){n k:Nat}(h:B^k<=n):k<(ah B n).length:=by
 have h1:=dL hB n;rcases Nat.lt_or_ge k (ah B n).length with h2|h2
 ·exact h2
 ·have:=Nat.pow_le_pow_right (n:=B) ae h2;omega
theorem lD{B:Nat}(hB:2<=B)(n i:Nat)(hi:i<(ah B n).length):(ah B n)[i]? =some (n/B^i%B):=by
 induction i generalizing n with
 |zero=>
  by_cases hn:n=0
  ·subst hn;simp[jh] at hi
  ·rw[pW hB hn];simp
 |succ i ih=>
  by_cases hn:n=0
  ·subst hn;simp[jh] at hi
  ·rw[pW hB hn] at hi ⊢;rw[List.getElem?_cons_succ,ih _ qfd,Nat.div_div_eq_div_mul,Nat.pow_succ,Nat.mul_comm B]
end Go.Via
namespace Go.Via
theorem PY(B:Nat)(l:List Nat)(k:Nat)(hk:k<l.length):val B (l.take (k+1))=val B (l.take k)+B^k*l[k]:=by
 rw[List.take_succ_eq_append_getElem hk,ru];simp[List.length_take,Nat.min_eq_left (Nat.le_of_lt hk)]
theorem Vj(B:Nat)(l:List Nat)(d:Nat):val B (l++[d])=val B l+B^l.length*d:=by
 rw[ru];simp
def EW(B n:Nat):val B (List.replicate n 0)=0:=by
 induction n with
 |zero=>rfl
 |succ n ih=>simp[List.replicate_succ,ih]
theorem Vk{p:Nat->Prop}{l:List Nat}(h:∀d∈l,p d)(k:Nat):∀d∈l.take k,p d:=
 fun d hd=>h d (List.mem_of_mem_take hd)
theorem Vl{B:Nat}(hB:2<=B){l:List Nat}(hl:∀d∈l,d<B){n:Nat}(hn:n<=l.length)(hv:val B (l.take n)=val B l)
 (hz:n=0∨∃h:n-1<l.length,l[n-1]≠0):l.take n=ah B (val B l):=by
 rw[<-hv,MG hB (Vk hl n)];unfold xy;rcases hz with rfl|⟨h,hne⟩
 ·simp
 ·rw[List.getLast?_eq_getElem?,List.length_take,Nat.min_eq_left hn]
  by_cases h0:n=0
  ·subst h0;simp
  ·rw[List.getElem?_take,if_pos ae,List.getElem?_eq_getElem h]
   simpa using hne
def qdj{B:Nat}{l:List Nat}{n:Nat}(hn:n+1<=l.length)(hv:val B (l.take (n+1))=val B l)(hz:l[n]=0):val B (l.take n)=val B l:=by
 rw[PY B l n ae,hz] at hv
 simpa using hv
def EX{B:Nat}(hB:2<=B){a b:Nat}(h:(ah B a).length<(ah B b).length):a<b:=by
 have h1:=dL hB a;rcases Nat.lt_or_ge a b with h2|h2
 ·exact h2
 ·have:=iw hB (n:=b) (k:=(ah B a).length) ae;omega
def ry{B:Nat}(hB:2<=B){a b:Nat}(h:a<=b):(ah B a).length<=(ah B b).length:=
 iw hB (Nat.lt_of_le_of_lt h (dL hB b))
theorem xA{B:Nat}(hB:2<=B){n:Nat}:ah B n=[]↔n=0:=by
 constructor
 ·intro h;have:=sZ hB n;rw[h] at this;exact this.symm
 ·rintro rfl;exact jh B
theorem Ba{B:Nat}(hB:2<=B){d:Nat}(h0:d≠0)(h:d<B):ah B d=[d]:=by
 rw[pW hB h0,Nat.mod_eq_of_lt h,Nat.div_eq_of_lt h,jh]
end Go.Via
namespace Go.Via
def Yf{B Y y1 y2 Yr X high x2 Xr P g rest:Nat}(hP:0<P)(hY:Y=(y1*B+y2)*P+Yr)(hX:X=(high*B+x2)*P+Xr)(hXr:Xr<P)
 (hg:g*y1+rest=high)(hyp:0<Y)(ht:g*y2>rest*B+x2):X/Y<g:=by
 rw[Nat.div_lt_iff_lt_mul hyp];have h1:g*(y1*B+y2)=g*y1*B+g*y2:=dQ
 have h2:(high*B+x2)+1<=g*(y1*B+y2):=by
  rw[h1,<-hg];have:(g*y1+rest)*B=g*y1*B+rest*B:=dQ
  omega
 have h3:=Nat.mul_le_mul_right P h2;have h4:g*Y=g*(y1*B+y2)*P+g*Yr:=qmE;have h5:(high*B+x2+1)*P=(high*B+x2)*P+P:=dQ;omega
def Vm{B Y y1 y2 Yr X high x2 Xr P:Nat}(_hP:0<P)(hY:Y=(y1*B+y2)*P+Yr)(hX:X=(high*B+x2)*P+Xr)(hXr:Xr<P)(hx2:x2<B)
 (hy1:0<y1)(hyp:0<Y):X/Y<=high/y1:=by
 have h0:X/Y<high/y1+1:=by
  rw[Nat.div_lt_iff_lt_mul hyp];have h1:high+1<=(high/y1+1)*y1:=by
   have:=Nat.div_add_mod high y1;have:=Nat.mod_lt high hy1;have:(high/y1+1)*y1=y1*(high/y1)+y1:=dQ;omega
  have h2:=Nat.mul_le_mul_right (B*P) h1;have h3:(high/y1+1)*Y=(high/y1+1)*y1*(B*P)+(high/y1+1)*(y2*P+Yr):=qmE;have h4:(high+1)*(B*P)=high*B*P+B*P:=dQ;have h5:(high*B+x2)*P=high*B*P+x2*P:=dQ;have h6:(x2+1)*P<=B*P:=Nat.mul_le_mul_right P hx2;have h7:(x2+1)*P=x2*P+P:=dQ;omega
 omega
def Qy{B Y y1 y2 Yr X high x2 Xr P g rest:Nat}(hY:Y=(y1*B+y2)*P+Yr)(hX:X=(high*B+x2)*P+Xr)
 (hYr:Yr<P)(hy1:0<y1)(hy2:y2<B)(hg:g*y1+rest=high)(hyp:0<Y)(hgB:g<=B)(ht:g*y2<=rest*B+x2∨B<=rest):g<=X/Y+1:=by
 have h1:g*(y1*B+y2)<=high*B+x2:=by
  have e1:g*(y1*B+y2)=g*y1*B+g*y2:=dQ;have e2:high*B=g*y1*B+rest*B:=(by rw[<-hg];grind);rcases ht with h|h
  ·omega
  ·have a1:g*y2<=B*y2:=Nat.mul_le_mul_right _ hgB;have a2:B*y2<=B*B:=Nat.mul_le_mul_left _ ae;have a3:B*B<=rest*B:=Nat.mul_le_mul_right _ h;omega
 have h2:=Nat.mul_le_mul_right P h1;have h3:g*Y=g*(y1*B+y2)*P+g*Yr:=qmE;have h4:g*Yr<=g*P:=Nat.mul_le_mul_left _ ae;have h5:g*P<=B*P:=Nat.mul_le_mul_right _ hgB;have h6:B*P<=Y:=by
  have b1:1*(B*P)<=y1*(B*P):=Nat.mul_le_mul_right _ hy1;have b2:Y=y1*(B*P)+(y2*P+Yr):=qmE;omega
 have h7:g*Y<=X+Y:=ae;rcases Nat.lt_or_ge (X/Y+1) g with h|h
 ·exfalso
  have c1:(X/Y+2)*Y<=g*Y:=Nat.mul_le_mul_right _ h;have c2:(X/Y+2)*Y=Y*(X/Y)+Y+Y:=dQ;have c3:=Nat.div_add_mod X Y;have c4:=Nat.mod_lt X hyp;omega
 ·exact h
def qmF{B Y y1 y2 Yr X high x2 Xr P:Nat}(hY:Y=(y1*B+y2)*P+Yr)(hX:X=(high*B+x2)*P+Xr)(hYr:Yr<P)
 (hy2:y2<B)(hXY:X<B*Y):high<(y1+1)*B:=by
 rcases Nat.lt_or_ge high ((y1+1)*B) with h|h
 ·exact h
 ·exfalso
  have h1:=Nat.mul_le_mul_right (B*P) h;have h2:X=high*(B*P)+(x2*P+Xr):=(by rw[hX];grind);have h3:(y1+1)*B*(B*P)=B*(y1*B*P+B*P):=dQ;have h4:Y<=y1*B*P+B*P:=by
   have:(y2+1)*P<=B*P:=Nat.mul_le_mul_right _ hy2;have e1:(y2+1)*P=y2*P+P:=dQ;have e2:(y1*B+y2)*P=y1*B*P+y2*P:=dQ;omega
  have h5:=Nat.mul_le_mul_left B h4;omega
end Go.Via
namespace Go.Via
def mr(l:List UInt8):Nat:=val 256 (l.reverse.map UInt8.toNat)
def qrE(s:ByteArray):Nat:=mr s.data.toList
def uI(n:Nat):List UInt8:=(ah 256 n).reverse.map UInt8.ofNat
def bH(n:Nat):ByteArray:=⟨(uI n).toArray⟩
def nb(n:Nat):Nat:=(ah 256 n).length
theorem Gl(n:Nat):(bH n).data.toList=uI n:=rfl
theorem Bc(n:Nat):(uI n).length=nb n:=by simp[uI,nb]
theorem Be(n:Nat):(bH n).size=nb n:=by
 show(uI n).toArray.size=_;simp[Bc]
theorem MH(l:List UInt8):∀d∈l.reverse.map UInt8.toNat,d<256:=by
 intro d hd;obtain⟨u,_,rfl⟩:=List.mem_map.1 hd;exact u.toNat_lt
theorem KF(l:List UInt8):(l.map UInt8.toNat).map UInt8.ofNat=l:=by
 rw[List.map_map]
 conv=>rhs;rw[<-List.map_id l]
 exact List.map_congr_left (fun u _=>bz)
theorem oV{l:List Nat}(h:∀d∈l,d<256):(l.map UInt8.ofNat).map UInt8.toNat=l:=by
 rw[List.map_map]
 conv=>rhs;rw[<-List.map_id l]
 exact List.map_congr_left (fun u hu=>by have:=h u hu;simp;omega)
def qdk(n:Nat):mr (uI n)=n:=by
 unfold mr uI;rw[<-List.map_reverse,List.reverse_reverse,oV (DD ae),sZ ae]
theorem Vo(n:Nat):qrE (bH n)=n:=qdk n
theorem SQ{a b:Nat}:bH a=bH b↔a=b:=by
 constructor
 ·intro h;have:=congrArg qrE h;rwa [Vo,Vo] at this
 ·rintro rfl;rfl
def qmG(s:ByteArray):Prop:=s.data.toList.head? ≠some 0
theorem IP{l:List UInt8}(h:l.head? ≠some 0):uI (mr l)=l:=by
 unfold uI mr;rw[MG ae (MH l)]
 ·rw[<-List.map_reverse,List.reverse_reverse,KF]
 ·unfold xy;rw[List.getLast?_map,List.getLast?_reverse];cases hh:l.head? with
  |none=>simp
  |some u=>
   simp only[Option.map_some,ne_eq,Option.some.injEq];intro hu
   apply h
   rw[hh]
   congr 1
   exact UInt8.toNat_inj.1 (by simpa using hu)
def qfe{s:ByteArray}(h:qmG s):bH (qrE s)=s:=by
 cases s with
 |mk d=>
  show ByteArray.mk (uI (mr d.toList)).toArray=_;rw[IP h]
def qff(n:Nat):qmG (bH n):=by
 unfold qmG;rw[Gl];unfold uI;rw[List.head?_map,List.head?_reverse];have h:=Ye (B:=256) ae n;unfold xy at h;cases hl:(ah 256 n).getLast? with
 |none=>simp
 |some d=>
  have hd:d<256:=DD ae d (List.mem_of_getLast? hl);simp only[Option.map_some,ne_eq,Option.some.injEq];intro hu;have:=congrArg UInt8.toNat hu;simp at this;rw[Nat.mod_eq_of_lt hd] at this;rw[hl,this] at h;exact h rfl
theorem lU:nb 0=0:=by simp[nb,jh]
def EY{n:Nat}:nb n=0↔n=0:=by
 unfold nb;rw[List.length_eq_zero_iff,xA ae]
def oh{n k:Nat}(h:n<256^k):nb n<=k:=iw ae h
theorem kw(n:Nat):n<256^nb n:=dL ae n
def pz{n k:Nat}(h:nb n<=k):n<256^k:=Nat.lt_of_lt_of_le (kw n) (Nat.pow_le_pow_right ae h)
def gu{a b:Nat}(h:a<=b):nb a<=nb b:=ry ae h
def Bf(a b:Nat):nb (a+b)<=max (nb a) (nb b)+1:=by
 apply oh
 have h1:=pz (n:=a) (k:=max (nb a) (nb b)) ae;have h2:=pz (n:=b) (k:=max (nb a) (nb b)) ae;rw[Nat.pow_succ];omega
def o6(a b:Nat):nb (a*b)<=nb a+nb b:=by
 apply oh
 rw[Nat.pow_add];exact Nat.mul_lt_mul'' (kw a) (kw b)
def EZ(a b:Nat):nb (a/b)<=nb a:=gu (Nat.div_le_self a b)
def Vp(a b:Nat)(h:a≠0):nb (Nat.gcd a b)<=nb a:=gu (Nat.gcd_le_left b ae)
theorem iy:bH 0=⟨#[]⟩:=by show ByteArray.mk (uI 0).toArray=_;simp[uI,jh]
theorem qa5:bH 1=⟨#[1]⟩:=by
 show ByteArray.mk (uI 1).toArray=_;rw[uI,Ba ae ae ae];rfl
def PZ(n i:Nat)(hi:i<nb n):(uI n)[i]? =some (UInt8.ofNat (n/256^(nb n-1-i)%256)):=by
 unfold uI;rw[List.getElem?_map,List.getElem?_reverse (by simpa[nb] using hi)];have:=lD (B:=256) ae n (nb n-1-i) qrD;unfold nb at*;rw[this];rfl
end Go.Via
