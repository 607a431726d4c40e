/-
  Part 9 (chapter 32): lemmas, walks. Each theorem states its own conditions.
-/
import Derived.Test.YtaffcpfhedadhaaGreatDoorA03
import Derived.Test.YtaffcpfhedadhaaGreatDoorA05
import Derived.Test.YtaffcpfhedadhaaGreatDoorA07
import Derived.Test.YtaffcpfhedadhaaGreatDoorA08
set_option linter.all false
set_option maxRecDepth 20000
set_option maxHeartbeats 20000000
namespace Go.Via
open Go
def I(z:Int):Value:= .agg #[.bool (decide (z<0)),.string (bH z.natAbs)]
def dm(q:Rat):ByteArray:=if q.den=1 then⟨#[]⟩ else bH q.den
def Q(q:Rat):Value:= .agg #[.bool (decide (q.num<0)),.string (bH q.num.natAbs),.bool false,.string (dm q)]
def jm(z:Int):Nat:=nb z.natAbs
def bV(q:Rat):Nat:=max (nb q.num.natAbs) (nb q.den)
def H6{a b:Int}{m n:Nat}(ha:jm a<=m)(hb:jm b<=n):jm (a+b)<=m+n+1:=by
 unfold jm at*;have h1:=gK (Int.natAbs_add_le a b);have h2:=zx a.natAbs b.natAbs;omega
def lK{a b:Int}{m n:Nat}(ha:jm a<=m)(hb:jm b<=n):jm (a*b)<=m+n:=by
 unfold jm at*;rw[Int.natAbs_mul];have:=nX a.natAbs b.natAbs;omega
def Vl{a:Int}{m:Nat}(ha:jm a<=m):jm (-a)<=m:=by unfold jm at*;rwa [Int.natAbs_neg]
def qds{a b:Int}{m n:Nat}(ha:jm a<=m)(hb:jm b<=n):jm (a-b)<=m+n+1:=by
 rw[Int.sub_eq_add_neg];exact H6 ha (Vl hb)
def zy{a k:Nat}(h:nb a<=k):jm (a:Int)<=k:=by unfold jm;simpa using h
def lL{q:Rat}{m:Nat}(h:bV q<=m):jm q.num<=m:=by unfold jm bV at*;omega
def I8{q:Rat}{m:Nat}(h:bV q<=m):nb q.num.natAbs<=m:=by unfold bV at*;omega
def kQ{q:Rat}{m:Nat}(h:bV q<=m):jm (q.den:Int)<=m:=by unfold jm bV at*;simp;omega
def I9{q:Rat}{m:Nat}(h:bV q<=m):nb q.den<=m:=by unfold bV at*;omega
def Ja(b:Int):b.sign.natAbs<=1:=by
 rcases Int.lt_trichotomy b 0 with h|h|h
 ·rw[Int.sign_eq_neg_one_of_neg h];simp
 ·subst h;simp
 ·rw[Int.sign_eq_one_of_pos h];simp
def tY{n d:Int}{a b:Nat}(hn:jm n<=a)(hd:jm d<=b)(hb:1<=b):bV (Rat.divInt n d)<=max a b:=by
 unfold bV jm at*;rw[Rat.num_divInt,Rat.den_divInt];have h1:nb (d.sign*n/↑(d.gcd n)).natAbs<=nb n.natAbs:=by
  apply gK
  refine Nat.le_trans (Int.natAbs_ediv_le_natAbs _ _) ?_;rw[Int.natAbs_mul];have:=Ja d
  calc d.sign.natAbs*n.natAbs<=1*n.natAbs:=Nat.mul_le_mul_right _ this
   _=n.natAbs:=Nat.one_mul _
 have h2:nb (if d=0 then 1 else d.natAbs/d.gcd n)<=max 1 (nb d.natAbs):=by
  split
  ·exact Nat.le_trans (ng (k:=1) (by omega)) (by omega)
  ·exact Nat.le_trans (wC _ _) (by omega)
 omega
def H7(q:Rat):1<=bV q:=by
 unfold bV;have h:nb q.den≠0:=fun h=>q.den_nz (CO.1 h)
 omega
def Vm{a b:Rat}{m n:Nat}(ha:bV a<=m)(hb:bV b<=n):bV (a+b)<=m+n+1:=by
 have e:a+b=Rat.divInt (a.num*b.den+b.num*a.den) (a.den*b.den):=by
  conv=>lhs;rw[<-Rat.num_divInt_den a,<-Rat.num_divInt_den b]
  rw[Rat.divInt_add_divInt _ _ (by have:=a.den_nz;omega) (by have:=b.den_nz;omega)]
 have hm:=H7 a;rw[e];have h1:jm (a.num*b.den+b.num*a.den)<=m+n+1:=by
  unfold jm;have h2:=gK (Int.natAbs_add_le (a.num*b.den) (b.num*a.den));have h3:=zx (a.num*b.den).natAbs (b.num*a.den).natAbs;have h4:=lK (lL ha) (kQ hb);have h5:=lK (lL hb) (kQ ha);unfold jm at h4 h5;omega
 have h2:jm ((a.den:Int)*b.den)<=m+n:=lK (kQ ha) (kQ hb);have:=tY h1 h2 (by omega);omega
def sO{a b:Rat}{m n:Nat}(ha:bV a<=m)(hb:bV b<=n):bV (a*b)<=m+n:=by
 have e:a*b=Rat.divInt (a.num*b.num) (a.den*b.den):=by
  conv=>lhs;rw[<-Rat.num_divInt_den a,<-Rat.num_divInt_den b]
  rw[Rat.divInt_mul_divInt]
 have hm:=H7 a;rw[e];have:=tY (lK (lL ha) (lL hb)) (lK (kQ ha) (kQ hb)) (by omega);omega
def Vo{a:Rat}{m:Nat}(ha:bV a<=m):bV (-a)<=m:=by
 unfold bV at*;simpa using ha
def AP{a b:Rat}{m n:Nat}(ha:bV a<=m)(hb:bV b<=n):bV (a-b)<=m+n+1:=by
 rw[Rat.sub_eq_add_neg];exact Vm ha (Vo hb)
def qdt{a:Rat}{m:Nat}(ha:bV a<=m):bV (a⁻¹)<=m:=by
 have hp:=H7 a;rw[Rat.inv_def];have:=tY (kQ ha) (lL ha) (by omega);omega
def D9{a b:Rat}{m n:Nat}(ha:bV a<=m)(hb:bV b<=n):bV (a/b)<=m+n:=by
 rw[Rat.div_def];exact sO ha (qdt hb)
def qdu{z:Int}{m:Nat}(h:jm z<=m)(hm:1<=m):bV (z:Rat)<=m:=by
 unfold bV jm at*;simp only[Rat.num_intCast,Rat.den_intCast];have:nb 1<=1:=ng (by omega);omega
def AQ{z:Int}(h1: -255<=z)(h2:z<=255):jm z<=1:=by
 unfold jm;apply ng;omega
theorem yg(a b:ByteArray):(a==b)=decide (a=b):=by
 rw[beq_toListBytes,ByteArray.toList_eq,ByteArray.toList_eq,Bool.eq_iff_iff];cases a with|mk x=>cases b with|mk y=>
 cases x;cases y;simp
theorem H8(a b:Nat):(bH a==bH b)=decide (a=b):=by
 rw[yg,Bool.eq_iff_iff];simp[Ox]
theorem FB:((⟨#[]⟩:ByteArray)==⟨#[]⟩)=true:=by rw[yg];simp
theorem mW(a:Nat):(bH a==⟨#[]⟩)=decide (a=0):=by
 rw[<-iQ];exact H8 a 0
theorem sZ(a:Nat):(bH a !=⟨#[]⟩)=decide (a≠0):=by
 rw[bne,mW];simp
theorem Qs(q:Rat):(dm q==⟨#[]⟩)=decide (q.den=1):=by
 unfold dm
 split
 ·rename_i h;rw[FB];simp[h]
 ·rename_i h;rw[mW];simp[h,q.den_nz]
theorem ZQ(p q:Rat):(dm p==dm q)=decide (p.den=q.den):=by
 unfold dm;have hp:=p.den_nz;have hq:=q.den_nz
 split
 ·rename_i h
  split
  ·rename_i h';rw[FB];simp[h,h']
  ·rename_i h'
   have:((⟨#[]⟩:ByteArray)==bH q.den)=false:=by
    rw[<-iQ,H8];simp;omega
   rw[this];simp[h];omega
 ·rename_i h
  split
  ·rename_i h';rw[mW];simp[h',hp,h]
  ·rw[H8]
theorem qji(x y:Int):((decide (x<0)==decide (y<0))&&(bH x.natAbs==bH y.natAbs))=decide (x=y):=by
 rw[H8,Bool.eq_iff_iff];simp only[Bool.and_eq_true,beq_iff_eq,decide_eq_true_eq,decide_eq_decide];omega
theorem qjj(p q:Rat):((decide (p.num<0)==decide (q.num<0))&&(bH p.num.natAbs==bH q.num.natAbs)&&(dm p==dm q))=decide (p=q):=by
 rw[qji,ZQ,Bool.eq_iff_iff];simp only[Bool.and_eq_true,decide_eq_true_eq];exact⟨fun⟨h1,h2⟩=>Rat.ext h1 h2,fun h=>h▸⟨rfl,rfl⟩⟩
theorem Qu{n d:Int}(hd:0<d):Q (Rat.divInt n d)= .agg #[.bool (decide (n/(Int.gcd n d:Int)<0)),.string (bH (n/(Int.gcd n d:Int)).natAbs),.bool false,.string (if d/(Int.gcd n d:Int)=1 then⟨#[]⟩ else bH (d/(Int.gcd n d:Int)).natAbs)]:=by
 have h1:(Rat.divInt n d).num=n/(Int.gcd n d:Int):=by
  rw[Rat.num_divInt,Int.sign_eq_one_of_pos hd,Int.one_mul,Int.gcd_comm]
 have hg:0<(Int.gcd n d:Int):=by
  have:Int.gcd n d≠0:=(by rw[Ne,Int.gcd_eq_zero_iff];omega);omega
 have h2:((Rat.divInt n d).den:Int)=d/(Int.gcd n d:Int):=by
  rw[Rat.den_divInt,if_neg (by omega),Int.gcd_comm d n];rw[Int.natCast_ediv,Int.natAbs_of_nonneg (by omega)]
 unfold Q dm;rw[h1,<-h2]
 congr 5
 by_cases h:(Rat.divInt n d).den=1
 ·rw[if_pos h,if_pos (by omega)]
 ·rw[if_neg h,if_neg (by omega)];simp
def qg5(n:Nat):Value.agg #[.bool (bH n !=⟨#[]⟩),.string (bH n)]=I (-(n:Int)):=by
 unfold I;rw[sZ]
 congr 4
 ·rw[Bool.eq_iff_iff];simp;omega
 ·simp
def ZR(n:Nat):Value.agg #[.bool false,.string (bH n)]=I (n:Int):=by
 unfold I
 congr 4
def TR(z:Int):(if(!decide (z<0))=true then-(z.natAbs:Int) else(z.natAbs:Int))= -z:=by
 by_cases h:z<0<;>simp[h]<;>omega
def Qv(a b:Int)(h:(decide (a<0)==decide (b<0))=true):(if decide (a<0)=true then-((a.natAbs+b.natAbs:Nat):Int) else((a.natAbs+b.natAbs:Nat):Int))=a+b:=by
 by_cases h1:a<0<;>by_cases h2:b<0<;>simp_all<;>omega
def L6(a b:Int)(h:(decide (a<0)==decide (b<0))=false)(hle:b.natAbs<=a.natAbs):(if decide (a<0)=true then-((a.natAbs-b.natAbs:Nat):Int) else((a.natAbs-b.natAbs:Nat):Int))=a+b:=by
 by_cases h1:a<0<;>by_cases h2:b<0<;>simp_all<;>omega
def Mc(a b:Int)(h:(decide (a<0)==decide (b<0))=false)(hle:a.natAbs<=b.natAbs):(if decide (b<0)=true then-((b.natAbs-a.natAbs:Nat):Int) else((b.natAbs-a.natAbs:Nat):Int))=a+b:=by
 by_cases h1:a<0<;>by_cases h2:b<0<;>simp_all<;>omega
def Vp(m n:Nat)(h:decide ((0:Int)<=(if m<n then-1 else if n<m then 1 else 0))=true):n<=m:=by
 by_cases h1:m<n
 ·simp[h1] at h
 ·omega
def Vq(m n:Nat)(h:decide ((0:Int)<=(if m<n then-1 else if n<m then 1 else 0))=false):m<=n:=by
 by_cases h1:m<n
 ·omega
 ·by_cases h2:n<m<;>simp[h1,h2] at h
theorem Vr(a b:Int):(if(decide (a<0) !=decide (b<0))=true then-((a.natAbs*b.natAbs:Nat):Int) else((a.natAbs*b.natAbs:Nat):Int))=a*b:=by
 have h:((a.natAbs*b.natAbs:Nat):Int)=(a.natAbs:Int)*(b.natAbs:Int):=Int.natCast_mul _ _;rw[h]
 by_cases h1:a<0<;>by_cases h2:b<0
 ·rw[show(a.natAbs:Int)= -a by omega,show(b.natAbs:Int)= -b by omega];simp[h1,h2,Int.neg_mul_neg]
 ·rw[show(a.natAbs:Int)= -a by omega,show(b.natAbs:Int)=b by omega];simp[h1,h2,Int.neg_mul]
 ·rw[show(a.natAbs:Int)=a by omega,show(b.natAbs:Int)= -b by omega];simp[h1,h2,Int.mul_neg]
 ·rw[show(a.natAbs:Int)=a by omega,show(b.natAbs:Int)=b by omega];simp[h1,h2]
def Md(z:Int)(h:(bH z.natAbs==⟨#[]⟩)=true):(0:Int)=z.sign:=by
 rw[mW] at h;simp at h;subst h;rfl
def sign_neg(z:Int)(h:decide (z<0)=true):(-1:Int)=z.sign:=by
 simp at h;rw[Int.sign_eq_neg_one_of_neg h]
def Qw(z:Int)(h0:(bH z.natAbs==⟨#[]⟩)=false)(h:decide (z<0)=false):(1:Int)=z.sign:=by
 rw[mW] at h0;simp at h h0;rw[Int.sign_eq_one_of_pos (by omega)]
def zA(a b:Int):Int:=if a<b then-1 else if b<a then 1 else 0
def lX(a b:Nat):Int:=if a<b then-1 else if b<a then 1 else 0
def nD(a b:Rat):Int:=if a<b then-1 else if b<a then 1 else 0
def qdv{a b:Int}{m n:Nat}(ha:jm a<=m)(hb:jm b<=n):jm (Int.gcd a b:Int)<=m+n:=by
 unfold jm at*;simp only[Int.natAbs_natCast];rw[Int.gcd_eq_natAbs_gcd_natAbs]
 by_cases h:a.natAbs=0
 ·rw[h,Nat.gcd_zero_left];omega
 ·have:=Qr a.natAbs b.natAbs h;omega
def Gt{a b q r:Int}(hb:b≠0)(h:r+b*q=a)(h0:0<=r)(h1:r<b.natAbs):q=a/b∧r=a%b:=by
 rcases Int.lt_or_lt_of_ne hb with hb'|hb'
 ·have:=(Int.ediv_emod_unique' hb').2 ⟨h,h0,by omega⟩;exact⟨this.1.symm,this.2.symm⟩
 ·have:=(Int.ediv_emod_unique hb').2 ⟨h,h0,by omega⟩;exact⟨this.1.symm,this.2.symm⟩
def ZT(a b:Int):(a.natAbs:Int)=(b.natAbs:Int)*((a.natAbs/b.natAbs:Nat):Int)+((a.natAbs%b.natAbs:Nat):Int):=by
 rw[<-Int.natCast_mul,<-Int.natCast_add,Nat.div_add_mod]
def Qx{a b:Int}(hb:b≠0)(h:¬a<0∨a.natAbs%b.natAbs=0):
 (if(decide (a<0) !=decide (b<0))=true then-((a.natAbs/b.natAbs:Nat):Int) else((a.natAbs/b.natAbs:Nat):Int))=a/b∧((a.natAbs%b.natAbs:Nat):Int)=a%b:=by
 have hd:=ZT a b;have hlt:a.natAbs%b.natAbs<b.natAbs:=Nat.mod_lt _ (by omega)
 generalize a.natAbs/b.natAbs=q at*
 generalize a.natAbs%b.natAbs=r at*
 refine Gt hb ?_ (by omega) (by omega)
 by_cases h1:a<0<;>by_cases h2:b<0
 ·have ea:(a.natAbs:Int)= -a:=by omega
  have eb:(b.natAbs:Int)= -b:=(by omega);rw[ea,eb] at hd;simp[h1,h2];have:r=0:=(by omega);subst this;simp at hd ⊢;have e: -b*(q:Int)= -(b*q):=Int.neg_mul _ _;rw[e] at hd;omega
 ·have ea:(a.natAbs:Int)= -a:=by omega
  have eb:(b.natAbs:Int)=b:=(by omega);rw[ea,eb] at hd;simp[h1,h2];have:r=0:=(by omega);subst this;simp at hd ⊢;rw[Int.mul_neg];omega
 ·have ea:(a.natAbs:Int)=a:=by omega
  have eb:(b.natAbs:Int)= -b:=(by omega);rw[ea,eb] at hd;simp[h1,h2];rw[Int.neg_mul] at hd;rw[Int.mul_neg];omega
 ·have ea:(a.natAbs:Int)=a:=by omega
  have eb:(b.natAbs:Int)=b:=(by omega);rw[ea,eb] at hd;simp[h1,h2];omega
def ZU{a b:Int}(hb:b≠0)(h:a<0)(hr:a.natAbs%b.natAbs≠0):
 (if(decide (a<0) !=decide (b<0))=true then-((a.natAbs/b.natAbs+1:Nat):Int) else((a.natAbs/b.natAbs+1:Nat):Int))=a/b∧((b.natAbs-a.natAbs%b.natAbs:Nat):Int)=a%b:=by
 have hd:=ZT a b;have hlt:a.natAbs%b.natAbs<b.natAbs:=Nat.mod_lt _ (by omega)
 generalize a.natAbs/b.natAbs=q at*
 generalize a.natAbs%b.natAbs=r at*
 refine Gt hb ?_ (by omega) (by omega);have ea:(a.natAbs:Int)= -a:=by omega
 by_cases h2:b<0
 ·have eb:(b.natAbs:Int)= -b:=by omega
  rw[ea,eb] at hd;simp[h,h2];rw[Int.neg_mul] at hd;rw[Int.mul_add];omega
 ·have eb:(b.natAbs:Int)=b:=by omega
  rw[ea,eb] at hd;simp[h,h2];rw[Int.mul_neg,Int.mul_add];omega
def Oy{n d:Int}(hd:0<d)(h1:d/(Int.gcd n d:Int)=1):Value.agg #[.bool (decide (n/(Int.gcd n d:Int)<0)),.string (bH (n/(Int.gcd n d:Int)).natAbs),aO,aP]=Q (Rat.divInt n d):=by
 rw[Qu hd,if_pos h1]
def Oz{n d:Int}(hd:0<d)(h1:d/(Int.gcd n d:Int)≠1):Value.agg #[.bool (decide (n/(Int.gcd n d:Int)<0)),.string (bH (n/(Int.gcd n d:Int)).natAbs),.bool (decide (d/(Int.gcd n d:Int)<0)),.string (bH (d/(Int.gcd n d:Int)).natAbs)]=Q (Rat.divInt n d):=by
 rw[Qu hd,if_neg h1]
 congr 5
 have:0<=d/(Int.gcd n d:Int):=Int.ediv_nonneg (by omega) (by omega);simp;omega
def OA{n d:Int}(hd:d≠0):(Int.gcd n d:Int)≠0:=by
 have:Int.gcd n d≠0:=(by rw[Ne,Int.gcd_eq_zero_iff];omega);omega
def Vs{d:Int}(h:decide (d.sign<0)=true):d<0:=by
 simpa using h
def Vt{d:Int}(h:decide (d.sign<0)=false)(h0:d≠0):0<d:=by
 simp at h;omega
theorem fJ(a b:Int):jm (a+b)<=jm a+jm b+1:=H6 (Nat.le_refl _) (Nat.le_refl _)
theorem fK(a b:Int):jm (a-b)<=jm a+jm b+1:=qds (Nat.le_refl _) (Nat.le_refl _)
theorem fM(a b:Int):jm (a*b)<=jm a+jm b:=lK (Nat.le_refl _) (Nat.le_refl _)
theorem fO(a:Int):jm (-a)<=jm a:=Vl (Nat.le_refl _)
theorem fP(a b:Int):jm (Int.gcd a b:Int)<=jm a+jm b:=qdv (Nat.le_refl _) (Nat.le_refl _)
theorem fB(q:Rat):jm q.num<=bV q:=lL (Nat.le_refl _)
theorem fC(q:Rat):jm (q.den:Int)<=bV q:=kQ (Nat.le_refl _)
theorem cO(a b:Rat):bV (a+b)<=bV a+bV b+1:=Vm (Nat.le_refl _) (Nat.le_refl _)
theorem bU(a b:Rat):bV (a-b)<=bV a+bV b+1:=AP (Nat.le_refl _) (Nat.le_refl _)
theorem aS(a b:Rat):bV (a*b)<=bV a+bV b:=sO (Nat.le_refl _) (Nat.le_refl _)
theorem fF(a b:Rat):bV (a/b)<=bV a+bV b:=D9 (Nat.le_refl _) (Nat.le_refl _)
theorem dX(a:Rat):bV (-a)<=bV a:=Vo (Nat.le_refl _)
theorem lY(a:Int):nb a.natAbs<=jm a:=Nat.le_refl _
theorem zB(q:Rat):(q.den:Int)≠0:=by have:=q.den_nz;omega
def den_pos(q:Rat):(0:Int)<q.den:=by have:=q.den_nz;omega
def Jb(p q:Rat):(p.den:Int)*q.den≠0:=Int.mul_ne_zero (zB p) (zB q)
def qjk{q:Rat}(h:((false==false)&&(dm q==⟨#[]⟩))=true):I 1=I q.den:=by
 rw[Qs] at h;simp at h;rw[h];rfl
def qjl{q:Rat}(h:((false==false)&&(dm q==⟨#[]⟩))=false):Value.agg #[.bool false,.string (dm q)]=I q.den:=by
 rw[Qs] at h;simp at h;unfold dm;rw[if_neg h];exact ZR q.den
def kR(p q:Rat):Int:=if p.den=q.den then p.num else p.num*q.den
def kS(p q:Rat):Int:=if p.den=q.den then q.num else q.num*p.den
def lH(p q:Rat):Int:=if p.den=q.den then p.den else p.den*q.den
def qdw{p q:Rat}(h:((false==false)&&(dm p==dm q))=true):Value.tuple #[I p.num,I q.num,I p.den]= .tuple #[I (kR p q),I (kS p q),I (lH p q)]:=by
 rw[ZQ] at h;simp at h;unfold kR kS lH;rw[if_pos h,if_pos h,if_pos h]
def qdx{p q:Rat}(h:((false==false)&&(dm p==dm q))=false):Value.tuple #[I (p.num*q.den),I (q.num*p.den),I (p.den*q.den)]= .tuple #[I (kR p q),I (kS p q),I (lH p q)]:=by
 rw[ZQ] at h;simp at h;unfold kR kS lH;rw[if_neg h,if_neg h,if_neg h]
def Me(p q:Rat):lH p q≠0:=by
 unfold lH;split
 ·exact zB p
 ·exact Jb p q
def TS(p q:Rat):0<lH p q:=by
 unfold lH;split
 ·exact den_pos p
 ·exact Int.mul_pos (den_pos p) (den_pos q)
def szX{p q:Rat}{m n:Nat}(hp:bV p<=m)(hq:bV q<=n):jm (kR p q)<=m+n:=by
 unfold kR;split
 ·have:=lL hp;omega
 ·exact lK (lL hp) (kQ hq)
def szY{p q:Rat}{m n:Nat}(hp:bV p<=m)(hq:bV q<=n):jm (kS p q)<=m+n:=by
 unfold kS;split
 ·have:=lL hq;omega
 ·have:=lK (lL hq) (kQ hp);omega
def szD{p q:Rat}{m n:Nat}(hp:bV p<=m)(hq:bV q<=n):jm (lH p q)<=m+n:=by
 unfold lH;split
 ·have:=kQ hp;omega
 ·exact lK (kQ hp) (kQ hq)
def qlh{p q:Rat}{m n:Nat}(hp:bV p<=m)(hq:bV q<=n):jm (kR p q+kS p q)<=m+n+1:=by
 have h1:=szX hp hq;have h2:=szY hp hq;unfold jm at*;have h3:=gK (Int.natAbs_add_le (kR p q) (kS p q));have h4:=zx (kR p q).natAbs (kS p q).natAbs;omega
def Vu(p q:Rat):p=Rat.divInt (kR p q) (lH p q)∧q=Rat.divInt (kS p q) (lH p q):=by
 unfold kR kS lH
 split
 ·rename_i h
  refine⟨(Rat.num_divInt_den p).symm,?_⟩;rw[h];exact(Rat.num_divInt_den q).symm
 ·refine⟨?_,?_⟩
  ·rw[Rat.divInt_mul_right (zB q)];exact(Rat.num_divInt_den p).symm
  ·rw[Int.mul_comm (p.den:Int),Rat.divInt_mul_right (zB p)];exact(Rat.num_divInt_den q).symm
def XF(p q:Rat):Rat.divInt (kR p q+kS p q) (lH p q)=p+q:=by
 have h:=Vu p q;have h0:=Me p q
 generalize kR p q=x at*
 generalize kS p q=y at*
 generalize lH p q=d at*
 rw[h.1,h.2,Rat.divInt_add_divInt _ _ h0 h0,<-Int.add_mul,Rat.divInt_mul_right h0]
theorem Jc(p q:Rat):Rat.divInt (p.num*q.num) (p.den*q.den)=p*q:=by
 conv=>rhs;rw[<-Rat.num_divInt_den p,<-Rat.num_divInt_den q]
 rw[Rat.divInt_mul_divInt]
theorem TT(p q:Rat):Rat.divInt (p.num*q.den) (p.den*q.num)=p/q:=by
 rw[Rat.div_def,Rat.inv_def]
 conv=>rhs;rw[<-Rat.num_divInt_den p]
 rw[Rat.divInt_mul_divInt]
theorem qdy(p q:Rat):(if q=0 then(6:Int) else 0)=(if(p.den:Int)*q.num=0 then 6 else 0):=by
 by_cases h:q=0
 ·subst h;simp
 ·have h1:q.num≠0:=fun e=>h (Rat.num_eq_zero.1 e)
  rw[if_neg h,if_neg (Int.mul_ne_zero (zB p) h1)]
theorem XG(p:Rat):nD p p=0:=by unfold nD;simp[Rat.lt_irrefl]
def MB{x y d:Int}(hd:0<d):Rat.divInt x d<Rat.divInt y d↔x<y:=by
 have e:∀z:Int,Rat.divInt z d=(z:Rat)/(d:Rat):=fun z=>Rat.divInt_eq_div z d
 rw[e,e];have hd':(0:Rat)<(d:Rat):=Rat.intCast_pos.2 hd;rw[Rat.div_lt_iff hd',Rat.div_mul_cancel (by intro h;rw[h] at hd';exact absurd hd' (Rat.lt_irrefl))];exact Rat.intCast_lt_intCast
def XH(p q:Rat):zA (kR p q) (kS p q)=nD p q:=by
 have h:=Vu p q;have h0:=TS p q;unfold zA nD;have h1:(p<q)↔kR p q<kS p q:=by
  generalize kR p q=x at*;generalize kS p q=y at*;generalize lH p q=d at*
  rw[h.1,h.2];exact MB h0
 have h2:(q<p)↔kS p q<kR p q:=by
  generalize kR p q=x at*;generalize kS p q=y at*;generalize lH p q=d at*
  rw[h.1,h.2];exact MB h0
 simp only[h1,h2]
theorem yh:Q 0= .agg #[aO,aP,aO,aP]:=by
 show Value.agg #[.bool (decide ((0:Int)<0)),.string (bH 0),.bool false,.string (dm 0)]=_;rw[iQ,show dm 0=⟨#[]⟩ from rfl];rfl
end Go.Via
namespace Go.Via
variable[Mo]
open Go
def TU(n i:Nat)(h:i<nb n):(bH n).data.toList[((i:Int)).toNat]? =some (UInt8.ofNat (n/256^(nb n-1-i)%256)):=by
 rw[Int.toNat_natCast,D7];exact KX n i h
def OC(n:Nat):(((UInt8.ofNat (n%256)).toNat:Nat):Int)=((n%256:Nat):Int):=by
 simp
def XI(n:Nat):Value.int .u64 0= .int .u64 ((n/256^(nb n-0):Nat):Int):=by
 rw[Nat.sub_zero,Nat.div_eq_of_lt (jT n)];rfl
def Vw(n i:Nat)(hi:i<=nb n):n/256^(nb n-i)<256^i:=by
 rw[Nat.div_lt_iff_lt_mul (Nat.pow_pos (by omega)),<-Nat.pow_add,show i+(nb n-i)=nb n by omega];exact jT n
theorem gW{i k:Nat}(h:i<=k):256^i<=256^k:=Nat.pow_le_pow_right (by omega) h
def ZV(n i:Nat)(hi:i<=nb n)(hlt:i<nb n)(h8:nb n<=8):n/256^(nb n-i)*2^8<18446744073709551616:=by
 have h1:=Vw n i hi;have h2:256^i<=256^7:=gW (by omega);omega
def XJ(n i:Nat)(hlt:i<nb n):n/256^(nb n-(i+1))=n/256^(nb n-i)*256+n/256^(nb n-1-i)%256:=by
 have e:nb n-i=(nb n-(i+1))+1:=(by omega);have e2:nb n-1-i=nb n-(i+1):=(by omega);rw[e,e2,Nat.pow_succ,<-Nat.div_div_eq_div_mul];omega
def qdz(n i:Nat)(hi:i<=nb n)(hlt:i<nb n)(h8:nb n<=8):
 IntKind.u64.wrap ((BitVec.ofInt IntKind.u64.bits ((n/256^(nb n-i)*2^8:Nat):Int)|||BitVec.ofInt IntKind.u64.bits ((n/256^(nb n-1-i)%256:Nat):Int)).toNat)=((n/256^(nb n-(i+1)):Nat):Int):=by
 have h1:=XJ n i hlt;have h2:=Vw n (i+1) hlt;have h3:256^(i+1)<=256^8:=gW (by omega);exact II (m:=n/256^(nb n-i)) 8 (by omega) (by omega) (by omega) (by rw[Nat.mul_comm]) rfl
def row(n:Nat)(f:Nat->Nat):List Nat:=(List.range n).map f
theorem ax(n:Nat)(f:Nat->Nat):(row n f).length=n:=by simp[row]
theorem dB{n:Nat}{f:Nat->Nat}{i:Nat}(h:i<n):(row n f)[i]? =some (f i):=by simp[row,h]
theorem bJ{n:Nat}{f g:Nat->Nat}(h:∀j,j<n->f j=g j):row n f=row n g:=by
 unfold row;exact List.map_congr_left fun j hj=>h j (List.mem_range.1 hj)
theorem gu{n:Nat}{f g:Nat->Nat}{i v:Nat}(h:∀j,j<n->g j=if j=i then v else f j):(row n f).set i v=row n g:=by
 apply List.ext_getElem?
 intro j
 by_cases hj:j<n
 ·rw[dB hj,h j hj]
  by_cases e:i=j
  ·subst e;rw[List.getElem?_set_self (by rw[ax];exact hj)];simp
  ·rw[List.getElem?_set_ne e,dB hj,if_neg (Ne.symm e)]
 ·rw[List.getElem?_eq_none (by simp[ax];omega),List.getElem?_eq_none (by rw[ax];omega)]
theorem zC{B:Nat}(hB:2<=B)(n:Nat):ag B n=row (ag B n).length (fun j=>n/B^j%B):=by
 apply List.ext_getElem?
 intro j
 by_cases hj:j<(ag B n).length
 ·rw[dB hj,lC hB n j hj]
 ·rw[List.getElem?_eq_none (by omega),List.getElem?_eq_none (by rw[ax];omega)]
theorem oU(B:Nat)(hB:1<=B)(n:Nat):∀k,val B (row k (fun j=>n/B^j%B))=n%B^k
 |0=>by simp[row,val,Nat.mod_one]
 |k+1=>by
  have e:row (k+1) (fun j=>n/B^j%B)=row k (fun j=>n/B^j%B)++[n/B^k%B]:=(by simp[row,List.range_succ]);rw[e,Ql,ax,oU B hB n k,Nat.pow_succ,Nat.mod_mul]
def kC{B n:Nat}{f:Nat->Nat}(h:∀j,f j<B):∀d∈row n f,d<B:=by
 intro d hd;obtain⟨j,_,rfl⟩:=List.mem_map.1 hd;exact h j
theorem lh(n:Nat):row n (fun _=>0)=List.replicate n 0:=by
 apply List.ext_getElem?
 intro j
 by_cases hj:j<n
 ·rw[dB hj];simp[hj]
 ·rw[List.getElem?_eq_none (by rw[ax];omega),List.getElem?_eq_none (by simp;omega)]
def mX{L L':List aC}(h:L=L'):eH L L':=h▸eH.refl _
def KY(u i j:Nat):Nat:=if j<nb u∧nb u-1-j<i then u/256^(nb u-1-j)%256 else 0
def XK(u:Nat):NV .u8 (row 8 (KY u 0))=[.int .u8 0,.int .u8 0,.int .u8 0,.int .u8 0,.int .u8 0,.int .u8 0,.int .u8 0,.int .u8 0]:=by
 rw[bJ (g:=fun _=>0) (fun j _=>by simp[KY]),lh];rfl
def XL(u i:Nat)(hi:i<nb u):(NV .u8 (row 8 (KY u i))).set (nb u-1-i) (.int .u8 ((u/2^(8*i)%256:Nat):Int))=NV .u8 (row 8 (KY u (i+1))):=by
 rw[iO,gu (g:=KY u (i+1))];intro j _;unfold KY
 by_cases e:j=nb u-1-i
 ·subst e;rw[if_pos rfl,if_pos (by omega),show nb u-1-(nb u-1-i)=i by omega,Nat.pow_mul]
 ·rw[if_neg e]
  by_cases c:j<nb u∧nb u-1-j<i
  ·rw[if_pos c,if_pos (by omega)]
  ·rw[if_neg c,if_neg (by omega)]
def ZW(u:Nat)(h8:nb u<=8):(NV .u8 (row 8 (KY u (nb u)))).take (nb u)=NV .u8 (ag 256 u).reverse:=by
 rw[DV]
 congr 1
 apply List.ext_getElem?
 intro j
 by_cases hj:j<nb u
 ·rw[List.getElem?_take,if_pos hj,dB (by omega)];rw[List.getElem?_reverse (by exact hj)];have e:=lC (B:=256) (by omega) u (nb u-1-j) (by unfold nb at*;omega);unfold nb at e hj ⊢;rw[e];unfold KY;rw[if_pos (by unfold nb;omega)];rfl
 ·rw[List.getElem?_eq_none (by simp;omega),List.getElem?_eq_none (by simp;unfold nb at hj;omega)]
def Jd(u:Nat):ZE (ag 256 u).reverse=bH u:=rfl
def qg6{u:Nat}(h:u<18446744073709551616):nb u<=8:=ng (by omega)
def CP{u:Nat}(h:u≠0):0<nb u:=by have:=CO (n:=u);omega
end Go.Via
namespace Go.Via
open Go
def Vx{m n r:Nat}(i:Nat)(hn:n<2^i)(hr:n+2^i*m=r)(hb:r<4294967296){x y:Int}(hx:x=(n:Int))(hy:y=((2^i*m:Nat):Int)):
 IntKind.u32.wrap ((BitVec.ofInt IntKind.u32.bits x|||BitVec.ofInt IntKind.u32.bits y).toNat)=(r:Int):=by
 rw[BitVec.or_comm];exact qgX i hn (by omega) hb hy hx
def ae:Nat:=4294967296
theorem dG:2<=ae:=by decide
theorem Ea(j:Nat):ae^j=256^(4*j):=by rw[show ae=256^4 from rfl,<-Nat.pow_mul]
theorem Eb(n:Nat):(ag ae n).length=(nb n+3)/4:=by
 have e1:(ag ae n).length<=(nb n+3)/4:=iE dG (by
 rw[Ea];exact Nat.lt_of_lt_of_le (jT n) (gW (by omega)))
 have e2:(nb n+3)/4<=(ag ae n).length:=by
  by_cases h0:nb n=0
  ·rw[h0];omega
  ·have hn:nb n<=4*(ag ae n).length:=ng (by rw[<-Ea];exact dO dG n);omega
 omega
def yj(n i j:Nat):Nat:=n%256^i/256^(4*j)%ae
theorem XM(n j:Nat):yj n 0 j=0:=by simp[yj,Nat.mod_one]
theorem ZX(n:Nat):row ((nb n+3)/4) (yj n (nb n))=ag ae n:=by
 rw[zC dG n,Eb];refine bJ fun j _=>?_
 unfold yj;rw[Nat.mod_eq_of_lt (jT n),Ea]
theorem Gu(n i:Nat):n%256^(i+1)=n%256^i+256^i*(n/256^i%256):=by rw[Nat.pow_succ,Nat.mod_mul]
def Je(n i:Nat):yj n i (i/4)<2^(8*(i%4)):=by
 unfold yj;have h1:n%256^i/256^(4*(i/4))<256^(i%4):=by
  rw[Nat.div_lt_iff_lt_mul (Nat.pow_pos (by omega)),<-Nat.pow_add,show i%4+4*(i/4)=i by omega];exact Nat.mod_lt _ (Nat.pow_pos (by omega))
 have e2:2^(8*(i%4))=256^(i%4):=(by rw[Nat.pow_mul]);rw[e2];exact Nat.lt_of_le_of_lt (Nat.mod_le _ _) h1
def Jf(n i:Nat):yj n i (i/4)+2^(8*(i%4))*(n/256^i%256)<4294967296:=by
 have h1:=Je n i;have h2:n/256^i%256<256:=Nat.mod_lt _ (by omega);have h3:2^(8*(i%4))*(n/256^i%256+1)<=2^(8*(i%4))*256:=Nat.mul_le_mul_left _ h2;have h4:2^(8*(i%4))*256<=4294967296:=by
  have:i%4=0∨i%4=1∨i%4=2∨i%4=3:=(by omega);rcases this with e|e|e|e<;>rw[e]<;>decide
 rw[Nat.mul_add] at h3;omega
theorem XN(n i j:Nat):yj n (i+1) j=if j=i/4 then yj n i j+2^(8*(i%4))*(n/256^i%256) else yj n i j:=by
 have hb:n/256^i%256<256:=Nat.mod_lt _ (by omega);have hA:n%256^i<256^i:=Nat.mod_lt _ (Nat.pow_pos (by omega))
 split
 ·rename_i e
  subst e;have hs:=Jf n i;have hl:=Je n i;unfold yj at*;rw[Gu]
  generalize n/256^i%256=b at*
  have e1:256^i*b=256^(4*(i/4))*(256^(i%4)*b):=by
   rw[<-Nat.mul_assoc,<-Nat.pow_add,show 4*(i/4)+i%4=i by omega]
  rw[e1,Nat.add_mul_div_left _ _ (Nat.pow_pos (by omega))];have e2:2^(8*(i%4))=256^(i%4):=by rw[Nat.pow_mul]
  rw[e2] at hs hl ⊢;have h1:n%256^i/256^(4*(i/4))<256^(i%4):=by
   rw[Nat.div_lt_iff_lt_mul (Nat.pow_pos (by omega)),<-Nat.pow_add,show i%4+4*(i/4)=i by omega];exact hA
  have h2:256^(i%4)<=ae:=by
   have:256^(i%4)<=256^4:=gW (by omega);exact this
  have h3:n%256^i/256^(4*(i/4))%ae=n%256^i/256^(4*(i/4)):=Nat.mod_eq_of_lt (by omega);rw[h3] at hs ⊢;exact Nat.mod_eq_of_lt hs
 ·rename_i e
  unfold yj;rw[Gu]
  generalize n/256^i%256=b at*
  by_cases h:j<i/4
  ·have e1:256^i*b=256^(4*j)*(ae*(256^(i-4*j-4)*b)):=by
    rw[show ae=256^4 from rfl,<-Nat.mul_assoc,<-Nat.mul_assoc,<-Nat.pow_add,<-Nat.pow_add,show 4*j+4+(i-4*j-4)=i by omega]
   rw[e1,Nat.add_mul_div_left _ _ (Nat.pow_pos (by omega)),Nat.add_mul_mod_self_left]
  ·have h1:i+1<=4*j:=by omega
   have h2:256^(i+1)<=256^(4*j):=gW h1;have h3:n%256^i+256^i*b<256^(4*j):=by
    have:256^i*(b+1)<=256^i*256:=Nat.mul_le_mul_left _ hb;rw[Nat.mul_add] at this;rw[Nat.pow_succ] at h2;omega
   rw[Nat.div_eq_of_lt h3,Nat.div_eq_of_lt (by omega)]
def wE(n M p j:Nat):Nat:=if M-1-j<p then n/256^(M-1-j)%256 else 0
theorem MC(n M j:Nat):wE n M 0 j=0:=by simp[wE]
def MF(n M p v:Nat)(hp:p<M)(hv:v=n/256^p%256):(NV .u8 (row M (wE n M p))).set (M-1-p) (.int .u8 (v:Int))=NV .u8 (row M (wE n M (p+1))):=by
 rw[iO,gu (g:=wE n M (p+1))];intro j hj;unfold wE
 by_cases e:j=M-1-p
 ·subst e;rw[if_pos rfl,if_pos (by omega),show M-1-(M-1-p)=p by omega,hv]
 ·rw[if_neg e]
  by_cases c:M-1-j<p
  ·rw[if_pos c,if_pos (by omega)]
  ·rw[if_neg c,if_neg (by omega)]
theorem Jg(l:List UInt8):lW (0::l)=lW l:=by
 unfold lW;rw[List.reverse_cons,List.map_append,qf];simp[val]
theorem zF:∀l:List UInt8,lW (l.dropWhile (· ==0))=lW l
 |[]=>rfl
 |x::l=>by
  by_cases h:x=0
  ·subst h;rw[List.dropWhile_cons_of_pos (by rfl),Jg];exact zF l
  ·rw[List.dropWhile_cons_of_neg (by simpa using h)]
def zG:∀l:List UInt8,(l.dropWhile (· ==0)).head? ≠some 0
 |[]=>by simp
 |x::l=>by
  by_cases h:x=0
  ·subst h;rw[List.dropWhile_cons_of_pos (by rfl)];exact zG l
  ·rw[List.dropWhile_cons_of_neg (by simpa using h)];simpa using h
def lm(l:List UInt8):ByteArray:=⟨l.toArray⟩
theorem xm(l:List UInt8):(lm l).size=l.length:=by show l.toArray.size=_;simp
theorem XO(n M:Nat)(h:n<256^M):lm (((row M (wE n M M)).map UInt8.ofNat).dropWhile (· ==0))=bH n:=by
 have e1:lW ((row M (wE n M M)).map UInt8.ofNat)=n:=by
  unfold lW;have e2:((row M (wE n M M)).map UInt8.ofNat).reverse.map UInt8.toNat=row M (fun j=>n/256^j%256):=by
   rw[<-List.map_reverse,nS]
   ·apply List.ext_getElem?
    intro j
    by_cases hj:j<M
    ·rw[List.getElem?_reverse (by rw[ax];exact hj),ax,dB (by omega),dB hj];unfold wE;rw[if_pos (by omega),show M-1-(M-1-j)=j by omega]
    ·rw[List.getElem?_eq_none (by simp[ax];omega),List.getElem?_eq_none (by rw[ax];omega)]
   ·intro d hd;rw[List.mem_reverse] at hd;exact kC (B:=256) (fun j=>by unfold wE;split<;>omega) d hd
  rw[e2,oU 256 (by omega),Nat.mod_eq_of_lt h]
 have e3:=Fz (zG ((row M (wE n M M)).map UInt8.ofNat));rw[zF,e1] at e3;unfold lm bH;rw[e3]
def qdA(l:List Nat):ZE l=lm (l.map UInt8.ofNat):=rfl
theorem lq{B n i:Nat}(hB:2<=B)(h:i<(ag B n).length):(ag B n)[i]? =some (n/B^i%B):=lC hB n i h
def TV(n i k:Nat)(hk:k<4):n/ae^i%ae/2^(8*k)%256=n/256^(4*i+k)%256:=by
 have e:ae=256^k*256^(4-k):=(by rw[<-Nat.pow_add,show k+(4-k)=4 by omega];rfl);have e8:2^(8*k)=256^k:=(by rw[Nat.pow_mul]);rw[Ea,e,Nat.mod_mul,e8,Nat.add_mul_div_left _ _ (Nat.pow_pos (by omega)),Nat.div_eq_of_lt (Nat.mod_lt _ (Nat.pow_pos (by omega))),Nat.zero_add,Nat.div_div_eq_div_mul,<-Nat.pow_add];have e2:256^(4-k)=256*256^(3-k):=(by rw[show 4-k=(3-k)+1 by omega,Nat.pow_succ,Nat.mul_comm]);rw[e2,Nat.mod_mul,Nat.add_mul_mod_self_left,Nat.mod_mod]
theorem Ec{B:Nat}(hB:2<=B){l:List Nat}(hl:∀d∈l,d<B){m:Nat}(hm:m<=l.length)(hv:val B (l.take m)=val B l)(hz:m=0∨∃h:m-1<l.length,l[m-1]≠0):m=(ag B (val B l)).length:=by
 rw[<-Qn hB hl hm hv hz,List.length_take];omega
def Jh{B:Nat}{l:List Nat}{m:Nat}(h0:0<m)(hm:m<=l.length)(hv:val B (l.take m)=val B l)(h:m-1<l.length)(hz:l[m-1]=0):val B (l.take (m-1))=val B l:=by
 obtain⟨k,rfl⟩:∃k,m=k+1:=⟨m-1,by omega⟩;exact XD hm hv (by simpa using hz)
def xu{B:Nat}(hB:2<=B):∀{l:List Nat},(∀d∈l,d<B)->l.take (ag B (val B l)).length=ag B (val B l):=by
 have key:∀(n:Nat) (l:List Nat),l.length=n->(∀d∈l,d<B)->∃m,m<=l.length∧l.take m=ag B (val B l):=by
  intro n
  induction n with
  |zero=>intro l hl h;have:l=[]:=List.eq_nil_of_length_eq_zero hl;subst this;exact⟨0,by simp,by simp[val,jg]⟩
  |succ n ih=>
   intro l hl h
   by_cases hz:l[n]'(by omega)=0
   ·have e:l=l.take n++[0]:=by
     conv=>lhs;rw[<-List.take_append_drop n l]
     rw[List.drop_eq_getElem_cons (by omega),hz,List.drop_eq_nil_of_le (by omega)]
    obtain⟨m,h1,h2⟩:=ih (l.take n) (by simp;omega) (Qm h n);have hv:val B l=val B (l.take n):=by
     conv=>lhs;rw[e]
     rw[Ql];omega
    refine⟨m,by simp at h1;omega,?_⟩;rw[hv,<-h2,List.take_take];congr 1;simp at h1;omega
   ·exact⟨n+1,by omega,Qn hB h (by omega) (by rw[List.take_of_length_le (by omega)]) (.inr ⟨by omega,by simpa using hz⟩)⟩
 intro l h;obtain⟨m,h1,h2⟩:=key _ l rfl h;have:m=(ag B (val B l)).length:=by rw[<-h2,List.length_take];omega
 rw[<-this];exact h2
end Go.Via
namespace Go.Via
open Go Go.RowKit
inductive Qy where
 |q (r:Rat)
 |raw (b1:Bool) (s1:ByteArray) (b2:Bool) (s2:ByteArray)
def Qy.cells:Qy->List Value
 | .q r=>[.bool (decide (r.num<0)),.string (bH r.num.natAbs),.bool false,.string (dm r)]
 | .raw b1 s1 b2 s2=>[.bool b1,.string s1,.bool b2,.string s2]
inductive XT where
 |mk (op:Int) (name:List UInt8) (num:Qy) (args:List XT)
def XT.op:XT->Int| .mk o _ _ _=>o
def XT.name:XT->List UInt8| .mk _ n _ _=>n
def XT.num:XT->Qy| .mk _ _ n _=>n
def XT.args:XT->List XT| .mk _ _ _ l=>l
def TW(op:Int)(name:List UInt8)(num:Qy)(a:Option Addr)(n cap:Nat):List Value:= .int .i64 op:: .string (lm name)::num.cells++[.slice a n cap]
mutual
inductive Ji(T:KO):XT->List Value->Prop
 |mk {op:Int} {name:List UInt8} {num:Qy} {args:List XT} {a:Option Addr} {cap:Nat} (h:GV T args a) (hc:args.length<=cap):
  Ji T (.mk op name num args) (TW op name num a args.length cap)
inductive GV(T:KO):List XT->Option Addr->Prop
 |nil {a:Option Addr}:GV T [] a
 |cons {x:XT} {l:List XT} {g off:Nat} {cs c:List Value} (hm:(g,cs)∈T) (hc:(cs.drop off).take 7=c) (hx:Ji T x c) (hl:GV T l (some ⟨g,off+7,none⟩)):GV T (x::l) (some ⟨g,off,none⟩)
end
mutual
def Ji.mono{T U:KO}(hs:∀p∈T,p∈U):∀{x:XT} {c:List Value},Ji T x c->Ji U x c
 |_,_,.mk h hc=> .mk (GV.mono hs h) hc
def GV.mono{T U:KO}(hs:∀p∈T,p∈U):∀{l:List XT} {a:Option Addr},GV T l a->GV U l a
 |_,_,.nil=> .nil
 |_,_,.cons hm hc hx hl=> .cons (hs _ hm) hc (Ji.mono hs hx) (GV.mono hs hl)
end
def KZ{op:Int}{name:List UInt8}{num:Qy}{a:Option Addr}{n cap:Nat}:(TW op name num a n cap).length=7:=by cases num<;>rfl
def La{op:Int}{name:List UInt8}{num:Qy}{a:Option Addr}{n cap:Nat}:(TW op name num a n cap).all Value.simpleT=true:=by cases num<;>rfl
theorem Ji.length{T:KO}{x:XT}{c:List Value}(h:Ji T x c):c.length=7:=by cases h;exact KZ
theorem Ji.simple{T:KO}{x:XT}{c:List Value}(h:Ji T x c):c.all Value.simpleT=true:=by cases h;exact La
theorem GV.get{T:KO}:∀{l:List XT} {a:Option Addr} {i:Nat} {x:XT},GV T l a->l[i]? =some x->∃g off cs c,a=some ⟨g,off,none⟩∧(g,cs)∈T∧(cs.drop (off+i*7)).take 7=c∧Ji T x c
 |[],_,i,x,_,hx=>by simp at hx
 |y::l,_,0,x,.cons hm hc hy hl,hx=>by
  simp at hx;subst hx;exact⟨_,_,_,_,rfl,hm,by rw[Nat.zero_mul,Nat.add_zero];exact hc,hy⟩
 |y::l,_,i+1,x,.cons hm hc hy hl,hx=>by
  rw[List.getElem?_cons_succ] at hx;obtain⟨g,off,cs,c,h1,h2,h3,h4⟩:=GV.get hl hx;simp only[Option.some.injEq,Addr.mk.injEq,and_true] at h1;obtain⟨rfl,rfl⟩:=h1;exact⟨_,_,cs,c,rfl,h2,by rw[<-h3,Nat.succ_mul];congr 2;omega,h4⟩
mutual
def XT.size:XT->Nat
 | .mk _ _ _ l=>1+XT.sizes l
def XT.sizes:List XT->Nat
 |[]=>0
 |x::l=>XT.size x+XT.sizes l
end
abbrev Dy:=List UInt8
def qf1(c:UInt8):Bool:=(decide (65<=c.toNat)&&decide (c.toNat<=90))||(decide (97<=c.toNat)&&decide (c.toNat<=122))
def isDig(c:UInt8):Bool:=decide (48<=c.toNat)&&decide (c.toNat<=57)
def wch(c:UInt8):Bool:=qf1 c||isDig c||c==95
def zch(c:UInt8):Bool:=decide (32<=c.toNat)&&decide (c.toNat<=126)
def qjm(l:Dy):Bool:=l.all zch&&decide (1<=l.length)&&decide (l.length<=40)
def qli:Dy:=[60,61,43,45,124,92,42,38,40,41,91,93,44]
def spL:Dy:=[32,9,10]
def qlj:List (Dy×Nat×Nat):=[([111,114],24,1),([97,110,100],23,2),([110,111,116],25,3),([60],21,4),([61],22,4),([43],18,5),([45],19,5),([124],7,5),([92],9,5),([42],20,6),([38],8,6),([100,117,114,105,110,103],12,7)]
def qlk:List (Dy×Nat×Nat):=[
 ([119,104,101,110],10,1),([100,101,102,105,110,101,100],11,1),([100,105,115,116,97,110,99,101,50],13,2),([115,112,101,101,100,50],14,1),([119,105,116,104,105,110],15,3),([105,110,115,105,100,101],16,2),([97,114,101,97,50],17,1),
 ([115,111,109,101,116,105,109,101],26,1),([97,108,119,97,121,115],27,1),([108,97,115,116,105,110,103],28,2),([115,104,105,102,116],29,2),([108,101,97,115,116],30,2)]
def qjn:List Dy:=[[118,97,108,117,101],[111,98,106,101,99,116,115],[119,104,101,114,101],[112,97,105,114,115],[112,111,105,110,116],[111,98,106,101,99,116],[122,111,110,101]]
def resL:List Dy:=qjn++qlj.map (·.1)++qlk.map (·.1)
structure Ps where
 s:Dy
 pos:Nat
 k:Nat
 at_:Nat
 tx:Dy
 bat:Nat
 be:Nat
 fail:Bool
def Ps.ok(p:Ps):Prop:=p.s.length<=4096∧p.pos<=p.s.length
def Ps.tok(p:Ps)(a k n:Nat):Ps:={p with pos:=a+n,k:=k,at_:=a,tx:=(p.s.drop a).take n}
def dgs(l:Dy):Nat:=(l.takeWhile isDig).length
def qg7(l:Dy):Nat:=
 match l.drop (dgs l) with
 |47::c::r=>if isDig c then dgs l+1+dgs (c::r) else dgs l
 |_=>dgs l
def quo:Dy->Option (Dy×Nat)
 |[]=>none
 |[c]=>if c=34 then some ([],0) else none
 |c::d::l=>if c=34 then(if d=34 then(quo l).map fun x=>(34::x.1,x.2+2) else some ([],0)) else(quo (d::l)).map fun x=>(c::x.1,x.2+1)
def Ps.quoted(p:Ps)(a:Nat):Ps:=
 match quo (p.s.drop (a+1)) with
 |some (n,k)=>if qjm n then {p with pos:=a+k+2,k:=3,at_:=a,tx:=n} else {p with k:=5,at_:=a,tx:=[]}
 |none=>{p with k:=5,at_:=a,tx:=[]}
def Ps.skip(p:Ps):Nat:=p.pos+((p.s.drop p.pos).takeWhile spL.contains).length
def Ps.adv(p:Ps):Ps:=
 match p.s.drop p.skip with
 |[]=>{p with pos:=p.skip,k:=0,at_:=p.skip,tx:=[]}
 |c::r=>
  if qf1 c then p.tok p.skip 1 ((c::r).takeWhile wch).length
  else if isDig c then p.tok p.skip 2 (qg7 (c::r))
  else if c=34 then({p with pos:=p.skip}).quoted p.skip
  else if qli.contains c then p.tok p.skip 4 1
  else p.tok p.skip 5 0
def Ps.stop(p:Ps)(e:Nat):Ps:=if p.fail then p else {p with bat:=p.at_,be:=e,fail:=true}
def Ps.is(p:Ps)(x:Dy):Bool:= !p.fail&&(p.k==1||p.k==4)&&p.tx==x
def Ps.want(p:Ps)(x:Dy):Ps:=if p.is x then p.adv else p.stop 15
def Ps.name(p:Ps):Ps:=if p.fail||p.k !=1||resL.contains p.tx then p.stop 15 else if 40<p.tx.length then p.stop 34 else p.adv
def qdB(l:Dy):Nat:=l.foldl (fun n c=>n*10+(c.toNat-48)) 0
def qg8(t:Dy):Option Rat:=
 let a:=t.takeWhile isDig
 match t.drop a.length with
 |[]=>some (qdB a:Rat)
 |_::b=>if qdB b=0 then none else some (Rat.divInt (qdB a) (qdB b))
def qll(q:Rat):Bool:=decide (q.den=1)&&decide (1<=q.num)&&decide (q.num<=1073741824)
def XT.numd(op:Nat)(q:Rat):XT:= .mk op [] (.q q) []
def Ps.number(p:Ps)(object:Bool):Rat×Ps:=
 if p.fail||p.k !=2 then(0,p.stop 15) else
 match qg8 p.tx with
 |none=>(0,p.stop 6)
 |some q=>if object&& !qll q then(0,p.stop 27) else(q,p.adv)
def qg9:Dy:=[45]
def Ps.signed(p:Ps):XT×Ps:=
 if p.is qg9 then(.numd 1 (-(p.adv.number false).1),(p.adv.number false).2) else(.numd 1 (p.number false).1,(p.number false).2)
end Go.Via
