/-
  Part 7 (chapter 32): lemmas, walks. Each theorem states its own conditions.
-/
import GoSem.Core.World
import Derived.MapKept
import Derived.WalkKit
import Derived.WalkSpells
import Derived.WalkLawsBesides
import Derived.Deep.LoopGhost
import Derived.Test.YtaffcpfhedadhaaGreatDoorA03
import Derived.Test.YtaffcpfhedadhaaGreatDoorA05
set_option linter.all false
set_option maxRecDepth 20000
set_option maxHeartbeats 20000000
section
variable{P Q:Prop}{T:Type}{R:T->Prop}
def qcS(h:P:=by have:=q.den_nz;omega):=h
end
namespace Go.Via
open Go
def I(z:Int):Value:= .agg #[.bool (decide (z<0)),.string (bP z.natAbs)]
def dm(q:Rat):ByteArray:=if q.den=1 then⟨#[]⟩ else bP q.den
def Q(q:Rat):Value:= .agg #[.bool (decide (q.num<0)),.string (bP q.num.natAbs),.bool false,.string (dm q)]
def jD(z:Int):Nat:=nb z.natAbs
def cO(q:Rat):Nat:=max (nb q.num.natAbs) (nb q.den)
def Jm{a b:Int}{m n:Nat}(ha:jD a<=m)(hb:jD b<=n):jD (a+b)<=m+n+1:=by
 unfold jD at*;have h1:=gK (Int.natAbs_add_le a b);have h2:=zT a.natAbs b.natAbs;omega
def lX{a b:Int}{m n:Nat}(ha:jD a<=m)(hb:jD b<=n):jD (a*b)<=m+n:=by
 unfold jD at*;rw[Int.natAbs_mul];have:=oZ a.natAbs b.natAbs;omega
def Yt{a:Int}{m:Nat}(ha:jD a<=m):jD (-a)<=m:=by unfold jD at*;rwa [Int.natAbs_neg]
def qhy{a b:Int}{m n:Nat}(ha:jD a<=m)(hb:jD b<=n):jD (a-b)<=m+n+1:=by
 rw[Int.sub_eq_add_neg];exact Jm ha (Yt hb)
def zY{a k:Nat}(h:nb a<=k):jD (a:Int)<=k:=by unfold jD;simpa using h
def lY{q:Rat}{m:Nat}(h:cO q<=m):jD q.num<=m:=by unfold jD cO at*;omega
def JV{q:Rat}{m:Nat}(h:cO q<=m):nb q.num.natAbs<=m:=by unfold cO at*;omega
def kX{q:Rat}{m:Nat}(h:cO q<=m):jD (q.den:Int)<=m:=by unfold jD cO at*;simp;omega
def JW{q:Rat}{m:Nat}(h:cO q<=m):nb q.den<=m:=by unfold cO at*;omega
def JX(b:Int):b.sign.natAbs<=1:=by
 rcases Int.lt_trichotomy b 0 with h|h|h
 ·rw[Int.sign_eq_neg_one_of_neg h];simp
 ·subst h;simp
 ·rw[Int.sign_eq_one_of_pos h];simp
def yC{n d:Int}{a b:Nat}(hn:jD n<=a)(hd:jD d<=b)(hb:1<=b):cO (Rat.divInt n d)<=max a b:=by
 unfold cO jD at*;rw[Rat.num_divInt,Rat.den_divInt];have h1:nb (d.sign*n/↑(d.gcd n)).natAbs<=nb n.natAbs:=by
  apply gK
  refine Nat.le_trans (Int.natAbs_ediv_le_natAbs _ _) ?_;rw[Int.natAbs_mul];have:=JX d
  calc d.sign.natAbs*n.natAbs<=1*n.natAbs:=Nat.mul_le_mul_right _ this
   _=n.natAbs:=Nat.one_mul _
 have h2:nb (if d=0 then 1 else d.natAbs/d.gcd n)<=max 1 (nb d.natAbs):=by
  split
  ·exact Nat.le_trans (nV (k:=1) ae) ae
  ·exact Nat.le_trans (DR _ _) ae
 omega
def Jn(q:Rat):1<=cO q:=by
 unfold cO;have h:nb q.den≠0:=fun h=>q.den_nz (DN.1 h)
 omega
def Yu{a b:Rat}{m n:Nat}(ha:cO a<=m)(hb:cO b<=n):cO (a+b)<=m+n+1:=by
 have e:a+b=Rat.divInt (a.num*b.den+b.num*a.den) (a.den*b.den):=by
  conv=>lhs;rw[<-Rat.num_divInt_den a,<-Rat.num_divInt_den b]
  rw[Rat.divInt_add_divInt _ _ (by have:=a.den_nz;omega) (by have:=b.den_nz;omega)]
 have hm:=Jn a;rw[e];have h1:jD (a.num*b.den+b.num*a.den)<=m+n+1:=by
  unfold jD;have h2:=gK (Int.natAbs_add_le (a.num*b.den) (b.num*a.den));have h3:=zT (a.num*b.den).natAbs (b.num*a.den).natAbs;have h4:=lX (lY ha) (kX hb);have h5:=lX (lY hb) (kX ha);unfold jD at h4 h5;omega
 have h2:jD ((a.den:Int)*b.den)<=m+n:=lX (kX ha) (kX hb);have:=yC h1 h2 ae;omega
def wo{a b:Rat}{m n:Nat}(ha:cO a<=m)(hb:cO b<=n):cO (a*b)<=m+n:=by
 have e:a*b=Rat.divInt (a.num*b.num) (a.den*b.den):=by
  conv=>lhs;rw[<-Rat.num_divInt_den a,<-Rat.num_divInt_den b]
  rw[Rat.divInt_mul_divInt]
 have hm:=Jn a;rw[e];have:=yC (lX (lY ha) (lY hb)) (lX (kX ha) (kX hb)) ae;omega
def Yv{a:Rat}{m:Nat}(ha:cO a<=m):cO (-a)<=m:=by
 unfold cO at*;simpa using ha
def BO{a b:Rat}{m n:Nat}(ha:cO a<=m)(hb:cO b<=n):cO (a-b)<=m+n+1:=by
 rw[Rat.sub_eq_add_neg];exact Yu ha (Yv hb)
def qhz{a:Rat}{m:Nat}(ha:cO a<=m):cO (a⁻¹)<=m:=by
 have hp:=Jn a;rw[Rat.inv_def];have:=yC (kX ha) (lY ha) ae;omega
def EP{a b:Rat}{m n:Nat}(ha:cO a<=m)(hb:cO b<=n):cO (a/b)<=m+n:=by
 rw[Rat.div_def];exact wo ha (qhz hb)
def qhA{z:Int}{m:Nat}(h:jD z<=m)(hm:1<=m):cO (z:Rat)<=m:=by
 unfold cO jD at*;simp only[Rat.num_intCast,Rat.den_intCast];have:nb 1<=1:=nV ae;omega
def BP{z:Int}(h1: -255<=z)(h2:z<=255):jD z<=1:=by
 unfold jD;apply nV;omega
theorem yD(a b:ByteArray):(a==b)=decide (a=b):=by
 rw[beq_toListBytes,ByteArray.toList_eq,ByteArray.toList_eq,Bool.eq_iff_iff];cases a with|mk x=>cases b with|mk y=>
 cases x;cases y;simp
theorem Jo(a b:Nat):(bP a==bP b)=decide (a=b):=by
 rw[yD,Bool.eq_iff_iff];simp[P9]
theorem GL:((⟨#[]⟩:ByteArray)==⟨#[]⟩)=true:=by rw[yD];simp
theorem nS(a:Nat):(bP a==⟨#[]⟩)=decide (a=0):=by
 rw[<-iW];exact Jo a 0
theorem BQ(a:Nat):(bP a !=⟨#[]⟩)=decide (a≠0):=by
 rw[bne,nS];simp
theorem TE(q:Rat):(dm q==⟨#[]⟩)=decide (q.den=1):=by
 unfold dm
 split
 ·rename_i h;rw[GL];simp[h]
 ·rename_i h;rw[nS];simp[h,q.den_nz]
theorem qcT(p q:Rat):(dm p==dm q)=decide (p.den=q.den):=by
 unfold dm;have hp:=p.den_nz;have hq:=q.den_nz
 split
 ·rename_i h
  split
  ·rename_i h';rw[GL];simp[h,h']
  ·rename_i h'
   have:((⟨#[]⟩:ByteArray)==bP q.den)=false:=by
    rw[<-iW,Jo];simp;omega
   rw[this];simp[h];omega
 ·rename_i h
  split
  ·rename_i h';rw[nS];simp[h',hp,h]
  ·rw[Jo]
theorem qoG(x y:Int):((decide (x<0)==decide (y<0))&&(bP x.natAbs==bP y.natAbs))=decide (x=y):=by
 rw[Jo,Bool.eq_iff_iff];simp only[Bool.and_eq_true,beq_iff_eq,decide_eq_true_eq,decide_eq_decide];omega
theorem qoH(p q:Rat):((decide (p.num<0)==decide (q.num<0))&&(bP p.num.natAbs==bP q.num.natAbs)&&(dm p==dm q))=decide (p=q):=by
 rw[qoG,qcT,Bool.eq_iff_iff];simp only[Bool.and_eq_true,decide_eq_true_eq];exact⟨fun⟨h1,h2⟩=>Rat.ext h1 h2,fun h=>h▸⟨rfl,rfl⟩⟩
theorem TF{n d:Int}(hd:0<d):Q (Rat.divInt n d)= .agg #[.bool (decide (n/(Int.gcd n d:Int)<0)),.string (bP (n/(Int.gcd n d:Int)).natAbs),.bool false,.string (if d/(Int.gcd n d:Int)=1 then⟨#[]⟩ else bP (d/(Int.gcd n d:Int)).natAbs)]:=by
 have h1:(Rat.divInt n d).num=n/(Int.gcd n d:Int):=by
  rw[Rat.num_divInt,Int.sign_eq_one_of_pos hd,Int.one_mul,Int.gcd_comm]
 have hg:0<(Int.gcd n d:Int):=by
  have:Int.gcd n d≠0:=(by rw[Ne,Int.gcd_eq_zero_iff];omega);omega
 have h2:((Rat.divInt n d).den:Int)=d/(Int.gcd n d:Int):=by
  rw[Rat.den_divInt,if_neg ae,Int.gcd_comm d n];rw[Int.natCast_ediv,Int.natAbs_of_nonneg ae]
 unfold Q dm;rw[h1,<-h2]
 congr 5
 by_cases h:(Rat.divInt n d).den=1
 ·rw[if_pos h,if_pos ae]
 ·rw[if_neg h,if_neg ae];simp
def ql3(n:Nat):Value.agg #[.bool (bP n !=⟨#[]⟩),.string (bP n)]=I (-(n:Int)):=by
 unfold I;rw[BQ]
 congr 4
 ·rw[Bool.eq_iff_iff];simp;omega
 ·simp
def qcU(n:Nat):Value.agg #[.bool false,.string (bP n)]=I (n:Int):=by
 unfold I
 congr 4
def VQ(z:Int):(if(!decide (z<0))=true then-(z.natAbs:Int) else(z.natAbs:Int))= -z:=by
 by_cases h:z<0<;>simp[h]<;>omega
def TG(a b:Int)(h:(decide (a<0)==decide (b<0))=true):(if decide (a<0)=true then-((a.natAbs+b.natAbs:Nat):Int) else((a.natAbs+b.natAbs:Nat):Int))=a+b:=by
 by_cases h1:a<0<;>by_cases h2:b<0<;>simp_all<;>omega
def Ou(a b:Int)(h:(decide (a<0)==decide (b<0))=false)(hle:b.natAbs<=a.natAbs):(if decide (a<0)=true then-((a.natAbs-b.natAbs:Nat):Int) else((a.natAbs-b.natAbs:Nat):Int))=a+b:=by
 by_cases h1:a<0<;>by_cases h2:b<0<;>simp_all<;>omega
def Ov(a b:Int)(h:(decide (a<0)==decide (b<0))=false)(hle:a.natAbs<=b.natAbs):(if decide (b<0)=true then-((b.natAbs-a.natAbs:Nat):Int) else((b.natAbs-a.natAbs:Nat):Int))=a+b:=by
 by_cases h1:a<0<;>by_cases h2:b<0<;>simp_all<;>omega
def Yw(m n:Nat)(h:decide ((0:Int)<=(if m<n then-1 else if n<m then 1 else 0))=true):n<=m:=by
 by_cases h1:m<n
 ·simp[h1] at h
 ·omega
def Yx(m n:Nat)(h:decide ((0:Int)<=(if m<n then-1 else if n<m then 1 else 0))=false):m<=n:=by
 by_cases h1:m<n
 ·omega
 ·by_cases h2:n<m<;>simp[h1,h2] at h
theorem Yy(a b:Int):(if(decide (a<0) !=decide (b<0))=true then-((a.natAbs*b.natAbs:Nat):Int) else((a.natAbs*b.natAbs:Nat):Int))=a*b:=by
 have h:((a.natAbs*b.natAbs:Nat):Int)=(a.natAbs:Int)*(b.natAbs:Int):=Int.natCast_mul _ _;rw[h]
 by_cases h1:a<0<;>by_cases h2:b<0
 ·rw[show(a.natAbs:Int)= -a by omega,show(b.natAbs:Int)= -b by omega];simp[h1,h2,Int.neg_mul_neg]
 ·rw[show(a.natAbs:Int)= -a by omega,show(b.natAbs:Int)=b by omega];simp[h1,h2,Int.neg_mul]
 ·rw[show(a.natAbs:Int)=a by omega,show(b.natAbs:Int)= -b by omega];simp[h1,h2,Int.mul_neg]
 ·rw[show(a.natAbs:Int)=a by omega,show(b.natAbs:Int)=b by omega];simp[h1,h2]
def Ox(z:Int)(h:(bP z.natAbs==⟨#[]⟩)=true):(0:Int)=z.sign:=by
 rw[nS] at h;simp at h;subst h;rfl
def sign_neg(z:Int)(h:decide (z<0)=true):(-1:Int)=z.sign:=by
 simp at h;rw[Int.sign_eq_neg_one_of_neg h]
def TJ(z:Int)(h0:(bP z.natAbs==⟨#[]⟩)=false)(h:decide (z<0)=false):(1:Int)=z.sign:=by
 rw[nS] at h0;simp at h h0;rw[Int.sign_eq_one_of_pos ae]
def zZ(a b:Int):Int:=if a<b then-1 else if b<a then 1 else 0
def mV(a b:Nat):Int:=if a<b then-1 else if b<a then 1 else 0
def ou(a b:Rat):Int:=if a<b then-1 else if b<a then 1 else 0
def qhB{a b:Int}{m n:Nat}(ha:jD a<=m)(hb:jD b<=n):jD (Int.gcd a b:Int)<=m+n:=by
 unfold jD at*;simp only[Int.natAbs_natCast];rw[Int.gcd_eq_natAbs_gcd_natAbs]
 by_cases h:a.natAbs=0
 ·rw[h,Nat.gcd_zero_left];omega
 ·have:=S9 a.natAbs b.natAbs h;omega
def Ih{a b q r:Int}(hb:b≠0)(h:r+b*q=a)(h0:0<=r)(h1:r<b.natAbs):q=a/b∧r=a%b:=by
 rcases Int.lt_or_lt_of_ne hb with hb'|hb'
 ·have:=(Int.ediv_emod_unique' hb').2 ⟨h,h0,ae⟩;exact⟨this.1.symm,this.2.symm⟩
 ·have:=(Int.ediv_emod_unique hb').2 ⟨h,h0,ae⟩;exact⟨this.1.symm,this.2.symm⟩
def qcV(a b:Int):(a.natAbs:Int)=(b.natAbs:Int)*((a.natAbs/b.natAbs:Nat):Int)+((a.natAbs%b.natAbs:Nat):Int):=by
 rw[<-Int.natCast_mul,<-Int.natCast_add,Nat.div_add_mod]
def TK{a b:Int}(hb:b≠0)(h:¬a<0∨a.natAbs%b.natAbs=0):
 (if(decide (a<0) !=decide (b<0))=true then-((a.natAbs/b.natAbs:Nat):Int) else((a.natAbs/b.natAbs:Nat):Int))=a/b∧((a.natAbs%b.natAbs:Nat):Int)=a%b:=by
 have hd:=qcV a b;have hlt:a.natAbs%b.natAbs<b.natAbs:=Nat.mod_lt _ ae
 generalize a.natAbs/b.natAbs=q at*
 generalize a.natAbs%b.natAbs=r at*
 refine Ih hb ?_ ae ae
 by_cases h1:a<0<;>by_cases h2:b<0
 ·have ea:(a.natAbs:Int)= -a:=ae
  have eb:(b.natAbs:Int)= -b:=ae;rw[ea,eb] at hd;simp[h1,h2];have:r=0:=ae;subst this;simp at hd ⊢;have e: -b*(q:Int)= -(b*q):=Int.neg_mul _ _;rw[e] at hd;omega
 ·have ea:(a.natAbs:Int)= -a:=ae
  have eb:(b.natAbs:Int)=b:=ae;rw[ea,eb] at hd;simp[h1,h2];have:r=0:=ae;subst this;simp at hd ⊢;rw[Int.mul_neg];omega
 ·have ea:(a.natAbs:Int)=a:=ae
  have eb:(b.natAbs:Int)= -b:=ae;rw[ea,eb] at hd;simp[h1,h2];rw[Int.neg_mul] at hd;rw[Int.mul_neg];omega
 ·have ea:(a.natAbs:Int)=a:=ae
  have eb:(b.natAbs:Int)=b:=ae;rw[ea,eb] at hd;simp[h1,h2];omega
def qcW{a b:Int}(hb:b≠0)(h:a<0)(hr:a.natAbs%b.natAbs≠0):
 (if(decide (a<0) !=decide (b<0))=true then-((a.natAbs/b.natAbs+1:Nat):Int) else((a.natAbs/b.natAbs+1:Nat):Int))=a/b∧((b.natAbs-a.natAbs%b.natAbs:Nat):Int)=a%b:=by
 have hd:=qcV a b;have hlt:a.natAbs%b.natAbs<b.natAbs:=Nat.mod_lt _ ae
 generalize a.natAbs/b.natAbs=q at*
 generalize a.natAbs%b.natAbs=r at*
 refine Ih hb ?_ ae ae;have ea:(a.natAbs:Int)= -a:=ae
 by_cases h2:b<0
 ·have eb:(b.natAbs:Int)= -b:=ae
  rw[ea,eb] at hd;simp[h,h2];rw[Int.neg_mul] at hd;rw[Int.mul_add];omega
 ·have eb:(b.natAbs:Int)=b:=ae
  rw[ea,eb] at hd;simp[h,h2];rw[Int.mul_neg,Int.mul_add];omega
def Ql{n d:Int}(hd:0<d)(h1:d/(Int.gcd n d:Int)=1):Value.agg #[.bool (decide (n/(Int.gcd n d:Int)<0)),.string (bP (n/(Int.gcd n d:Int)).natAbs),aZ,bf]=Q (Rat.divInt n d):=by
 rw[TF hd,if_pos h1]
def Qm{n d:Int}(hd:0<d)(h1:d/(Int.gcd n d:Int)≠1):Value.agg #[.bool (decide (n/(Int.gcd n d:Int)<0)),.string (bP (n/(Int.gcd n d:Int)).natAbs),.bool (decide (d/(Int.gcd n d:Int)<0)),.string (bP (d/(Int.gcd n d:Int)).natAbs)]=Q (Rat.divInt n d):=by
 rw[TF hd,if_neg h1]
 congr 5
 have:0<=d/(Int.gcd n d:Int):=Int.ediv_nonneg ae ae;simp;omega
def ql4{n d:Int}(hd:d≠0):(Int.gcd n d:Int)≠0:=by
 have:Int.gcd n d≠0:=(by rw[Ne,Int.gcd_eq_zero_iff];omega);omega
def Yz{d:Int}(h:decide (d.sign<0)=true):d<0:=by
 simpa using h
def YA{d:Int}(h:decide (d.sign<0)=false)(h0:d≠0):0<d:=by
 simp at h;omega
theorem ql5(a b:Int):jD (a+b)<=jD a+jD b+1:=Jm (Nat.le_refl _) (Nat.le_refl _)
theorem ql6(a b:Int):jD (a-b)<=jD a+jD b+1:=qhy (Nat.le_refl _) (Nat.le_refl _)
theorem ql7(a b:Int):jD (a*b)<=jD a+jD b:=lX (Nat.le_refl _) (Nat.le_refl _)
theorem ql8(a:Int):jD (-a)<=jD a:=Yt (Nat.le_refl _)
theorem ql9(a b:Int):jD (Int.gcd a b:Int)<=jD a+jD b:=qhB (Nat.le_refl _) (Nat.le_refl _)
theorem VR(q:Rat):jD q.num<=cO q:=lY (Nat.le_refl _)
theorem VS(q:Rat):jD (q.den:Int)<=cO q:=kX (Nat.le_refl _)
theorem jf(a b:Rat):cO (a+b)<=cO a+cO b+1:=Yu (Nat.le_refl _) (Nat.le_refl _)
theorem iq(a b:Rat):cO (a-b)<=cO a+cO b+1:=BO (Nat.le_refl _) (Nat.le_refl _)
theorem bV(a b:Rat):cO (a*b)<=cO a+cO b:=wo (Nat.le_refl _) (Nat.le_refl _)
theorem qcX(a b:Rat):cO (a/b)<=cO a+cO b:=EP (Nat.le_refl _) (Nat.le_refl _)
theorem JY(a:Rat):cO (-a)<=cO a:=Yv (Nat.le_refl _)
theorem qqS(a:Int):nb a.natAbs<=jD a:=Nat.le_refl _
theorem Aa(q:Rat):(q.den:Int)≠0:=qcS
def den_pos(q:Rat):(0:Int)<q.den:=qcS
def JZ(p q:Rat):(p.den:Int)*q.den≠0:=Int.mul_ne_zero (Aa p) (Aa q)
def qoI{q:Rat}(h:((false==false)&&(dm q==⟨#[]⟩))=true):I 1=I q.den:=by
 rw[TE] at h;simp at h;rw[h];rfl
def qoJ{q:Rat}(h:((false==false)&&(dm q==⟨#[]⟩))=false):Value.agg #[.bool false,.string (dm q)]=I q.den:=by
 rw[TE] at h;simp at h;unfold dm;rw[if_neg h];exact qcU q.den
def kY(p q:Rat):Int:=if p.den=q.den then p.num else p.num*q.den
def kZ(p q:Rat):Int:=if p.den=q.den then q.num else q.num*p.den
def lM(p q:Rat):Int:=if p.den=q.den then p.den else p.den*q.den
def qhC{p q:Rat}(h:((false==false)&&(dm p==dm q))=true):Value.tuple #[I p.num,I q.num,I p.den]= .tuple #[I (kY p q),I (kZ p q),I (lM p q)]:=by
 rw[qcT] at h;simp at h;unfold kY kZ lM;rw[if_pos h,if_pos h,if_pos h]
def qhD{p q:Rat}(h:((false==false)&&(dm p==dm q))=false):Value.tuple #[I (p.num*q.den),I (q.num*p.den),I (p.den*q.den)]= .tuple #[I (kY p q),I (kZ p q),I (lM p q)]:=by
 rw[qcT] at h;simp at h;unfold kY kZ lM;rw[if_neg h,if_neg h,if_neg h]
def Oy(p q:Rat):lM p q≠0:=by
 unfold lM;split
 ·exact Aa p
 ·exact JZ p q
def VT(p q:Rat):0<lM p q:=by
 unfold lM;split
 ·exact den_pos p
 ·exact Int.mul_pos (den_pos p) (den_pos q)
def szX{p q:Rat}{m n:Nat}(hp:cO p<=m)(hq:cO q<=n):jD (kY p q)<=m+n:=by
 unfold kY;split
 ·have:=lY hp;omega
 ·exact lX (lY hp) (kX hq)
def szY{p q:Rat}{m n:Nat}(hp:cO p<=m)(hq:cO q<=n):jD (kZ p q)<=m+n:=by
 unfold kZ;split
 ·have:=lY hq;omega
 ·have:=lX (lY hq) (kX hp);omega
def szD{p q:Rat}{m n:Nat}(hp:cO p<=m)(hq:cO q<=n):jD (lM p q)<=m+n:=by
 unfold lM;split
 ·have:=kX hp;omega
 ·exact lX (kX hp) (kX hq)
def qqT{p q:Rat}{m n:Nat}(hp:cO p<=m)(hq:cO q<=n):jD (kY p q+kZ p q)<=m+n+1:=by
 have h1:=szX hp hq;have h2:=szY hp hq;unfold jD at*;have h3:=gK (Int.natAbs_add_le (kY p q) (kZ p q));have h4:=zT (kY p q).natAbs (kZ p q).natAbs;omega
def YB(p q:Rat):p=Rat.divInt (kY p q) (lM p q)∧q=Rat.divInt (kZ p q) (lM p q):=by
 unfold kY kZ lM
 split
 ·rename_i h
  refine⟨(Rat.num_divInt_den p).symm,?_⟩;rw[h];exact(Rat.num_divInt_den q).symm
 ·refine⟨?_,?_⟩
  ·rw[Rat.divInt_mul_right (Aa q)];exact(Rat.num_divInt_den p).symm
  ·rw[Int.mul_comm (p.den:Int),Rat.divInt_mul_right (Aa p)];exact(Rat.num_divInt_den q).symm
def qaD(p q:Rat):Rat.divInt (kY p q+kZ p q) (lM p q)=p+q:=by
 have h:=YB p q;have h0:=Oy p q
 generalize kY p q=x at*
 generalize kZ p q=y at*
 generalize lM p q=d at*
 rw[h.1,h.2,Rat.divInt_add_divInt _ _ h0 h0,<-Int.add_mul,Rat.divInt_mul_right h0]
theorem J3(p q:Rat):Rat.divInt (p.num*q.num) (p.den*q.den)=p*q:=by
 conv=>rhs;rw[<-Rat.num_divInt_den p,<-Rat.num_divInt_den q]
 rw[Rat.divInt_mul_divInt]
theorem VU(p q:Rat):Rat.divInt (p.num*q.den) (p.den*q.num)=p/q:=by
 rw[Rat.div_def,Rat.inv_def]
 conv=>rhs;rw[<-Rat.num_divInt_den p]
 rw[Rat.divInt_mul_divInt]
theorem qhE(p q:Rat):(if q=0 then(6:Int) else 0)=(if(p.den:Int)*q.num=0 then 6 else 0):=by
 by_cases h:q=0
 ·subst h;simp
 ·have h1:q.num≠0:=fun e=>h (Rat.num_eq_zero.1 e)
  rw[if_neg h,if_neg (Int.mul_ne_zero (Aa p) h1)]
theorem qaE(p:Rat):ou p p=0:=by unfold ou;simp[Rat.lt_irrefl]
def Oz{x y d:Int}(hd:0<d):Rat.divInt x d<Rat.divInt y d↔x<y:=by
 have e:∀z:Int,Rat.divInt z d=(z:Rat)/(d:Rat):=fun z=>Rat.divInt_eq_div z d
 rw[e,e];have hd':(0:Rat)<(d:Rat):=Rat.intCast_pos.2 hd;rw[Rat.div_lt_iff hd',Rat.div_mul_cancel (by intro h;rw[h] at hd';exact absurd hd' (Rat.lt_irrefl))];exact Rat.intCast_lt_intCast
def qaF(p q:Rat):zZ (kY p q) (kZ p q)=ou p q:=by
 have h:=YB p q;have h0:=VT p q;unfold zZ ou;have h1:(p<q)↔kY p q<kZ p q:=by
  generalize kY p q=x at*;generalize kZ p q=y at*;generalize lM p q=d at*
  rw[h.1,h.2];exact Oz h0
 have h2:(q<p)↔kZ p q<kY p q:=by
  generalize kY p q=x at*;generalize kZ p q=y at*;generalize lM p q=d at*
  rw[h.1,h.2];exact Oz h0
 simp only[h1,h2]
theorem yE:Q 0= .agg #[aZ,bf,aZ,bf]:=by
 show Value.agg #[.bool (decide ((0:Int)<0)),.string (bP 0),.bool false,.string (dm 0)]=_;rw[iW,show dm 0=⟨#[]⟩ from rfl];rfl
end Go.Via
