/-
  Part 7 (chapter 32): lemmas, walks. Each theorem states its own conditions.
-/
import GoSem.Core.World
import Derived.MapKept
import Derived.WalkKit
import Derived.WalkSpells
import Derived.WalkLawsBesides
import Derived.Deep.LoopGhost
import Derived.Test.YtaffcpfhedadhaaGreatDoorA05
set_option linter.all false
set_option maxRecDepth 20000
set_option maxHeartbeats 20000000
section
variable{P Q:Prop}{T:Type}{R:T->Prop}
def Yn(h:P:=by by_cases h1:a<0<;>by_cases h2:b<0<;>simp_all<;>omega):=h
def qfN(h:P:=by have:=q.den_nz;omega):=h
end
namespace Go.Via
open Go
def qrX(n:Nat):Value.agg #[.bool (bH n !=⟨#[]⟩),.string (bH n)]=I (-(n:Int)):=by
 unfold I;rw[DN]
 congr 4
 ·rw[Bool.eq_iff_iff];simp;omega
 ·simp
def Yo(n:Nat):Value.agg #[.bool false,.string (bH n)]=I (n:Int):=by
 unfold I
 congr 4
def Yp(z:Int):(if(!decide (z<0))=true then-(z.natAbs:Int) else(z.natAbs:Int))= -z:=by
 by_cases h:z<0<;>simp[h]<;>omega
def VG(a b:Int)(h:(decide (a<0)==decide (b<0))=true):(if decide (a<0)=true then-((a.natAbs+b.natAbs:Nat):Int) else((a.natAbs+b.natAbs:Nat):Int))=a+b:=by
 exact Yn
def QA(a b:Int)(h:(decide (a<0)==decide (b<0))=false)(hle:b.natAbs<=a.natAbs):(if decide (a<0)=true then-((a.natAbs-b.natAbs:Nat):Int) else((a.natAbs-b.natAbs:Nat):Int))=a+b:=by
 exact Yn
def QB(a b:Int)(h:(decide (a<0)==decide (b<0))=false)(hle:a.natAbs<=b.natAbs):(if decide (b<0)=true then-((b.natAbs-a.natAbs:Nat):Int) else((b.natAbs-a.natAbs:Nat):Int))=a+b:=by
 exact Yn
def qbl(m n:Nat)(h:decide ((0:Int)<=(if m<n then-1 else if n<m then 1 else 0))=true):n<=m:=by
 by_cases h1:m<n
 ·simp[h1] at h
 ·omega
def qbm(m n:Nat)(h:decide ((0:Int)<=(if m<n then-1 else if n<m then 1 else 0))=false):m<=n:=by
 by_cases h1:m<n
 ·omega
 ·by_cases h2:n<m<;>simp[h1,h2] at h
theorem qbn(a b:Int):(if(decide (a<0) !=decide (b<0))=true then-((a.natAbs*b.natAbs:Nat):Int) else((a.natAbs*b.natAbs:Nat):Int))=a*b:=by
 have h:((a.natAbs*b.natAbs:Nat):Int)=(a.natAbs:Int)*(b.natAbs:Int):=Int.natCast_mul _ _;rw[h]
 by_cases h1:a<0<;>by_cases h2:b<0
 ·rw[show(a.natAbs:Int)= -a by omega,show(b.natAbs:Int)= -b by omega];simp[h1,h2,Int.neg_mul_neg]
 ·rw[show(a.natAbs:Int)= -a by omega,show(b.natAbs:Int)=b by omega];simp[h1,h2,Int.neg_mul]
 ·rw[show(a.natAbs:Int)=a by omega,show(b.natAbs:Int)= -b by omega];simp[h1,h2,Int.mul_neg]
 ·rw[show(a.natAbs:Int)=a by omega,show(b.natAbs:Int)=b by omega];simp[h1,h2]
def QC(z:Int)(h:(bH z.natAbs==⟨#[]⟩)=true):(0:Int)=z.sign:=by
 rw[nT] at h;simp at h;subst h;rfl
def sign_neg(z:Int)(h:decide (z<0)=true):(-1:Int)=z.sign:=by
 simp at h;rw[Int.sign_eq_neg_one_of_neg h]
def VH(z:Int)(h0:(bH z.natAbs==⟨#[]⟩)=false)(h:decide (z<0)=false):(1:Int)=z.sign:=by
 rw[nT] at h0;simp at h h0;rw[Int.sign_eq_one_of_pos ae]
def Bz(a b:Int):Int:=if a<b then-1 else if b<a then 1 else 0
def oD(a b:Nat):Int:=if a<b then-1 else if b<a then 1 else 0
def mJ(a b:Rat):Int:=if a<b then-1 else if b<a then 1 else 0
theorem BA(q:Rat):(q.den:Int)≠0:=qfN
def den_pos(q:Rat):(0:Int)<q.den:=qfN
def Nb(p q:Rat):(p.den:Int)*q.den≠0:=Int.mul_ne_zero (BA p) (BA q)
def quX{q:Rat}(h:((false==false)&&(dm q==⟨#[]⟩))=true):I 1=I q.den:=by
 rw[VC] at h;simp at h;rw[h];rfl
def quY{q:Rat}(h:((false==false)&&(dm q==⟨#[]⟩))=false):Value.agg #[.bool false,.string (dm q)]=I q.den:=by
 rw[VC] at h;simp at h;unfold dm;rw[if_neg h];exact Yo q.den
def kU(p q:Rat):Int:=if p.den=q.den then p.num else p.num*q.den
def kV(p q:Rat):Int:=if p.den=q.den then q.num else q.num*p.den
def lJ(p q:Rat):Int:=if p.den=q.den then p.den else p.den*q.den
def qmZ{p q:Rat}(h:((false==false)&&(dm p==dm q))=true):Value.tuple #[I p.num,I q.num,I p.den]= .tuple #[I (kU p q),I (kV p q),I (lJ p q)]:=by
 rw[qfI] at h;simp at h;unfold kU kV lJ;rw[if_pos h,if_pos h,if_pos h]
def qm0{p q:Rat}(h:((false==false)&&(dm p==dm q))=false):Value.tuple #[I (p.num*q.den),I (q.num*p.den),I (p.den*q.den)]= .tuple #[I (kU p q),I (kV p q),I (lJ p q)]:=by
 rw[qfI] at h;simp at h;unfold kU kV lJ;rw[if_neg h,if_neg h,if_neg h]
def QD(p q:Rat):lJ p q≠0:=by
 unfold lJ;split
 ·exact BA p
 ·exact Nb p q
def Yq(p q:Rat):0<lJ p q:=by
 unfold lJ;split
 ·exact den_pos p
 ·exact Int.mul_pos (den_pos p) (den_pos q)
def szX{p q:Rat}{m n:Nat}(hp:bY p<=m)(hq:bY q<=n):ji (kU p q)<=m+n:=by
 unfold kU;split
 ·have:=nS hp;omega
 ·exact lV (nS hp) (kT hq)
def szY{p q:Rat}{m n:Nat}(hp:bY p<=m)(hq:bY q<=n):ji (kV p q)<=m+n:=by
 unfold kV;split
 ·have:=nS hq;omega
 ·have:=lV (nS hq) (kT hp);omega
def szD{p q:Rat}{m n:Nat}(hp:bY p<=m)(hq:bY q<=n):ji (lJ p q)<=m+n:=by
 unfold lJ;split
 ·have:=kT hp;omega
 ·exact lV (kT hp) (kT hq)
def qxt{p q:Rat}{m n:Nat}(hp:bY p<=m)(hq:bY q<=n):ji (kU p q+kV p q)<=m+n+1:=by
 have h1:=szX hp hq;have h2:=szY hp hq;unfold ji at*;have h3:=gu (Int.natAbs_add_le (kU p q) (kV p q));have h4:=Bf (kU p q).natAbs (kV p q).natAbs;omega
def qbo(p q:Rat):p=Rat.divInt (kU p q) (lJ p q)∧q=Rat.divInt (kV p q) (lJ p q):=by
 unfold kU kV lJ
 split
 ·rename_i h
  refine⟨(Rat.num_divInt_den p).symm,?_⟩;rw[h];exact(Rat.num_divInt_den q).symm
 ·refine⟨?_,?_⟩
  ·rw[Rat.divInt_mul_right (BA q)];exact(Rat.num_divInt_den p).symm
  ·rw[Int.mul_comm (p.den:Int),Rat.divInt_mul_right (BA p)];exact(Rat.num_divInt_den q).symm
def qdq(p q:Rat):Rat.divInt (kU p q+kV p q) (lJ p q)=p+q:=by
 have h:=qbo p q;have h0:=QD p q
 generalize kU p q=x at*
 generalize kV p q=y at*
 generalize lJ p q=d at*
 rw[h.1,h.2,Rat.divInt_add_divInt _ _ h0 h0,<-Int.add_mul,Rat.divInt_mul_right h0]
theorem Nc(p q:Rat):Rat.divInt (p.num*q.num) (p.den*q.den)=p*q:=by
 conv=>rhs;rw[<-Rat.num_divInt_den p,<-Rat.num_divInt_den q]
 rw[Rat.divInt_mul_divInt]
theorem Yt(p q:Rat):Rat.divInt (p.num*q.den) (p.den*q.num)=p/q:=by
 rw[Rat.div_def,Rat.inv_def]
 conv=>rhs;rw[<-Rat.num_divInt_den p]
 rw[Rat.divInt_mul_divInt]
theorem qm1(p q:Rat):(if q=0 then(6:Int) else 0)=(if(p.den:Int)*q.num=0 then 6 else 0):=by
 by_cases h:q=0
 ·subst h;simp
 ·have h1:q.num≠0:=fun e=>h (Rat.num_eq_zero.1 e)
  rw[if_neg h,if_neg (Int.mul_ne_zero (BA p) h1)]
theorem qdr(p:Rat):mJ p p=0:=by unfold mJ;simp[Rat.lt_irrefl]
def QE{x y d:Int}(hd:0<d):Rat.divInt x d<Rat.divInt y d↔x<y:=by
 have e:∀z:Int,Rat.divInt z d=(z:Rat)/(d:Rat):=fun z=>Rat.divInt_eq_div z d
 rw[e,e];have hd':(0:Rat)<(d:Rat):=Rat.intCast_pos.2 hd;rw[Rat.div_lt_iff hd',Rat.div_mul_cancel (by intro h;rw[h] at hd';exact absurd hd' (Rat.lt_irrefl))];exact Rat.intCast_lt_intCast
def qds(p q:Rat):Bz (kU p q) (kV p q)=mJ p q:=by
 have h:=qbo p q;have h0:=Yq p q;unfold Bz mJ;have h1:(p<q)↔kU p q<kV p q:=by
  generalize kU p q=x at*;generalize kV p q=y at*;generalize lJ p q=d at*
  rw[h.1,h.2];exact QE h0
 have h2:(q<p)↔kV p q<kU p q:=by
  generalize kU p q=x at*;generalize kV p q=y at*;generalize lJ p q=d at*
  rw[h.1,h.2];exact QE h0
 simp only[h1,h2]
theorem qbp{p q:Rat}:mJ p q<=0↔p<=q:=by
 unfold mJ
 split
 ·rename_i h;simp;exact Rat.le_of_lt h
 ·split
  ·rename_i h1 h2;simp;exact Rat.not_le.2 h2
  ·rename_i h1 h2;simp;exact Rat.not_lt.1 h2
theorem Fa:Q 0= .agg #[aQ,aS,aQ,aS]:=by
 show Value.agg #[.bool (decide ((0:Int)<0)),.string (bH 0),.bool false,.string (dm 0)]=_;rw[iy,show dm 0=⟨#[]⟩ from rfl];rfl
end Go.Via
