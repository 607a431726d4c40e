/-
  Part 7 (chapter 32): lemmas, walks. Each theorem states its own conditions.
-/
import GoSem.Core.World
import Derived.MapKept
import Derived.WalkKit
import Derived.WalkSpells
import Derived.WalkLawsBesides
import Derived.Deep.LoopGhost
import Derived.Test.YtaffcpfhedadhaaGreatDoorA03
import Derived.Test.YtaffcpfhedadhaaGreatDoorA05
set_option linter.all false
set_option maxRecDepth 20000
set_option maxHeartbeats 20000000
section
variable{P Q:Prop}{T:Type}{R:T->Prop}
def qdw(h:P:=by have:=q.den_nz;omega):=h
end
namespace Go.Via
open Go
def I(z:Int):Value:= .agg #[.bool (decide (z<0)),.string (bQ z.natAbs)]
def dm(q:Rat):ByteArray:=if q.den=1 then⟨#[]⟩ else bQ q.den
def Q(q:Rat):Value:= .agg #[.bool (decide (q.num<0)),.string (bQ q.num.natAbs),.bool false,.string (dm q)]
def jv(z:Int):Nat:=nb z.natAbs
def bY(q:Rat):Nat:=max (nb q.num.natAbs) (nb q.den)
def JI{a b:Int}{m n:Nat}(ha:jv a<=m)(hb:jv b<=n):jv (a+b)<=m+n+1:=by
 unfold jv at*;have h1:=gG (Int.natAbs_add_le a b);have h2:=Ac a.natAbs b.natAbs;omega
def lU{a b:Int}{m n:Nat}(ha:jv a<=m)(hb:jv b<=n):jv (a*b)<=m+n:=by
 unfold jv at*;rw[Int.natAbs_mul];have:=oK a.natAbs b.natAbs;omega
def Y5{a:Int}{m:Nat}(ha:jv a<=m):jv (-a)<=m:=by unfold jv at*;rwa [Int.natAbs_neg]
def qh0{a b:Int}{m n:Nat}(ha:jv a<=m)(hb:jv b<=n):jv (a-b)<=m+n+1:=by
 rw[Int.sub_eq_add_neg];exact JI ha (Y5 hb)
def Ah{a k:Nat}(h:nb a<=k):jv (a:Int)<=k:=by unfold jv;simpa using h
def lV{q:Rat}{m:Nat}(h:bY q<=m):jv q.num<=m:=by unfold jv bY at*;omega
def KF{q:Rat}{m:Nat}(h:bY q<=m):nb q.num.natAbs<=m:=by unfold bY at*;omega
def kU{q:Rat}{m:Nat}(h:bY q<=m):jv (q.den:Int)<=m:=by unfold jv bY at*;simp;omega
def KG{q:Rat}{m:Nat}(h:bY q<=m):nb q.den<=m:=by unfold bY at*;omega
def KH(b:Int):b.sign.natAbs<=1:=by
 rcases Int.lt_trichotomy b 0 with h|h|h
 ·rw[Int.sign_eq_neg_one_of_neg h];simp
 ·subst h;simp
 ·rw[Int.sign_eq_one_of_pos h];simp
def mM{n d:Int}{a b:Nat}(hn:jv n<=a)(hd:jv d<=b)(hb:1<=b):bY (Rat.divInt n d)<=max a b:=by
 unfold bY jv at*;rw[Rat.num_divInt,Rat.den_divInt];have h1:nb (d.sign*n/↑(d.gcd n)).natAbs<=nb n.natAbs:=by
  apply gG
  refine Nat.le_trans (Int.natAbs_ediv_le_natAbs _ _) ?_;rw[Int.natAbs_mul];have:=KH d
  calc d.sign.natAbs*n.natAbs<=1*n.natAbs:=Nat.mul_le_mul_right _ this
   _=n.natAbs:=Nat.one_mul _
 have h2:nb (if d=0 then 1 else d.natAbs/d.gcd n)<=max 1 (nb d.natAbs):=by
  split
  ·exact Nat.le_trans (nP (k:=1) ae) ae
  ·exact Nat.le_trans (DZ _ _) ae
 omega
def JJ(q:Rat):1<=bY q:=by
 unfold bY;have h:nb q.den≠0:=fun h=>q.den_nz (DY.1 h)
 omega
def Y6{a b:Rat}{m n:Nat}(ha:bY a<=m)(hb:bY b<=n):bY (a+b)<=m+n+1:=by
 have e:a+b=Rat.divInt (a.num*b.den+b.num*a.den) (a.den*b.den):=by
  conv=>lhs;rw[<-Rat.num_divInt_den a,<-Rat.num_divInt_den b]
  rw[Rat.divInt_add_divInt _ _ (by have:=a.den_nz;omega) (by have:=b.den_nz;omega)]
 have hm:=JJ a;rw[e];have h1:jv (a.num*b.den+b.num*a.den)<=m+n+1:=by
  unfold jv;have h2:=gG (Int.natAbs_add_le (a.num*b.den) (b.num*a.den));have h3:=Ac (a.num*b.den).natAbs (b.num*a.den).natAbs;have h4:=lU (lV ha) (kU hb);have h5:=lU (lV hb) (kU ha);unfold jv at h4 h5;omega
 have h2:jv ((a.den:Int)*b.den)<=m+n:=lU (kU ha) (kU hb);have:=mM h1 h2 ae;omega
def wF{a b:Rat}{m n:Nat}(ha:bY a<=m)(hb:bY b<=n):bY (a*b)<=m+n:=by
 have e:a*b=Rat.divInt (a.num*b.num) (a.den*b.den):=by
  conv=>lhs;rw[<-Rat.num_divInt_den a,<-Rat.num_divInt_den b]
  rw[Rat.divInt_mul_divInt]
 have hm:=JJ a;rw[e];have:=mM (lU (lV ha) (lV hb)) (lU (kU ha) (kU hb)) ae;omega
def Y7{a:Rat}{m:Nat}(ha:bY a<=m):bY (-a)<=m:=by
 unfold bY at*;simpa using ha
def BX{a b:Rat}{m n:Nat}(ha:bY a<=m)(hb:bY b<=n):bY (a-b)<=m+n+1:=by
 rw[Rat.sub_eq_add_neg];exact Y6 ha (Y7 hb)
def qh1{a:Rat}{m:Nat}(ha:bY a<=m):bY (a⁻¹)<=m:=by
 have hp:=JJ a;rw[Rat.inv_def];have:=mM (kU ha) (lV ha) ae;omega
def Fb{a b:Rat}{m n:Nat}(ha:bY a<=m)(hb:bY b<=n):bY (a/b)<=m+n:=by
 rw[Rat.div_def];exact wF ha (qh1 hb)
def qh2{z:Int}{m:Nat}(h:jv z<=m)(hm:1<=m):bY (z:Rat)<=m:=by
 unfold bY jv at*;simp only[Rat.num_intCast,Rat.den_intCast];have:nb 1<=1:=nP ae;omega
def jQ{z:Int}(h1: -255<=z)(h2:z<=255):jv z<=1:=by
 unfold jv;apply nP;omega
theorem yO(a b:ByteArray):(a==b)=decide (a=b):=by
 rw[beq_toListBytes,ByteArray.toList_eq,ByteArray.toList_eq,Bool.eq_iff_iff];cases a with|mk x=>cases b with|mk y=>
 cases x;cases y;simp
theorem JK(a b:Nat):(bQ a==bQ b)=decide (a=b):=by
 rw[yO,Bool.eq_iff_iff];simp[QD]
theorem Ha:((⟨#[]⟩:ByteArray)==⟨#[]⟩)=true:=by rw[yO];simp
theorem nK(a:Nat):(bQ a==⟨#[]⟩)=decide (a=0):=by
 rw[<-iT];exact JK a 0
theorem BZ(a:Nat):(bQ a !=⟨#[]⟩)=decide (a≠0):=by
 rw[bne,nK];simp
theorem Uo(q:Rat):(dm q==⟨#[]⟩)=decide (q.den=1):=by
 unfold dm
 split
 ·rename_i h;rw[Ha];simp[h]
 ·rename_i h;rw[nK];simp[h,q.den_nz]
theorem qdx(p q:Rat):(dm p==dm q)=decide (p.den=q.den):=by
 unfold dm;have hp:=p.den_nz;have hq:=q.den_nz
 split
 ·rename_i h
  split
  ·rename_i h';rw[Ha];simp[h,h']
  ·rename_i h'
   have:((⟨#[]⟩:ByteArray)==bQ q.den)=false:=by
    rw[<-iT,JK];simp;omega
   rw[this];simp[h];omega
 ·rename_i h
  split
  ·rename_i h';rw[nK];simp[h',hp,h]
  ·rw[JK]
theorem qpj(x y:Int):((decide (x<0)==decide (y<0))&&(bQ x.natAbs==bQ y.natAbs))=decide (x=y):=by
 rw[JK,Bool.eq_iff_iff];simp only[Bool.and_eq_true,beq_iff_eq,decide_eq_true_eq,decide_eq_decide];omega
theorem qpk(p q:Rat):((decide (p.num<0)==decide (q.num<0))&&(bQ p.num.natAbs==bQ q.num.natAbs)&&(dm p==dm q))=decide (p=q):=by
 rw[qpj,qdx,Bool.eq_iff_iff];simp only[Bool.and_eq_true,decide_eq_true_eq];exact⟨fun⟨h1,h2⟩=>Rat.ext h1 h2,fun h=>h▸⟨rfl,rfl⟩⟩
theorem Ur{n d:Int}(hd:0<d):Q (Rat.divInt n d)= .agg #[.bool (decide (n/(Int.gcd n d:Int)<0)),.string (bQ (n/(Int.gcd n d:Int)).natAbs),.bool false,.string (if d/(Int.gcd n d:Int)=1 then⟨#[]⟩ else bQ (d/(Int.gcd n d:Int)).natAbs)]:=by
 have h1:(Rat.divInt n d).num=n/(Int.gcd n d:Int):=by
  rw[Rat.num_divInt,Int.sign_eq_one_of_pos hd,Int.one_mul,Int.gcd_comm]
 have hg:0<(Int.gcd n d:Int):=by
  have:Int.gcd n d≠0:=(by rw[Ne,Int.gcd_eq_zero_iff];omega);omega
 have h2:((Rat.divInt n d).den:Int)=d/(Int.gcd n d:Int):=by
  rw[Rat.den_divInt,if_neg ae,Int.gcd_comm d n];rw[Int.natCast_ediv,Int.natAbs_of_nonneg ae]
 unfold Q dm;rw[h1,<-h2]
 congr 5
 by_cases h:(Rat.divInt n d).den=1
 ·rw[if_pos h,if_pos ae]
 ·rw[if_neg h,if_neg ae];simp
def qmz(n:Nat):Value.agg #[.bool (bQ n !=⟨#[]⟩),.string (bQ n)]=I (-(n:Int)):=by
 unfold I;rw[BZ]
 congr 4
 ·rw[Bool.eq_iff_iff];simp;omega
 ·simp
def qdy(n:Nat):Value.agg #[.bool false,.string (bQ n)]=I (n:Int):=by
 unfold I
 congr 4
def WI(z:Int):(if(!decide (z<0))=true then-(z.natAbs:Int) else(z.natAbs:Int))= -z:=by
 by_cases h:z<0<;>simp[h]<;>omega
def Us(a b:Int)(h:(decide (a<0)==decide (b<0))=true):(if decide (a<0)=true then-((a.natAbs+b.natAbs:Nat):Int) else((a.natAbs+b.natAbs:Nat):Int))=a+b:=by
 by_cases h1:a<0<;>by_cases h2:b<0<;>simp_all<;>omega
def O3(a b:Int)(h:(decide (a<0)==decide (b<0))=false)(hle:b.natAbs<=a.natAbs):(if decide (a<0)=true then-((a.natAbs-b.natAbs:Nat):Int) else((a.natAbs-b.natAbs:Nat):Int))=a+b:=by
 by_cases h1:a<0<;>by_cases h2:b<0<;>simp_all<;>omega
def O4(a b:Int)(h:(decide (a<0)==decide (b<0))=false)(hle:a.natAbs<=b.natAbs):(if decide (b<0)=true then-((b.natAbs-a.natAbs:Nat):Int) else((b.natAbs-a.natAbs:Nat):Int))=a+b:=by
 by_cases h1:a<0<;>by_cases h2:b<0<;>simp_all<;>omega
def Y8(m n:Nat)(h:decide ((0:Int)<=(if m<n then-1 else if n<m then 1 else 0))=true):n<=m:=by
 by_cases h1:m<n
 ·simp[h1] at h
 ·omega
def Y9(m n:Nat)(h:decide ((0:Int)<=(if m<n then-1 else if n<m then 1 else 0))=false):m<=n:=by
 by_cases h1:m<n
 ·omega
 ·by_cases h2:n<m<;>simp[h1,h2] at h
theorem Za(a b:Int):(if(decide (a<0) !=decide (b<0))=true then-((a.natAbs*b.natAbs:Nat):Int) else((a.natAbs*b.natAbs:Nat):Int))=a*b:=by
 have h:((a.natAbs*b.natAbs:Nat):Int)=(a.natAbs:Int)*(b.natAbs:Int):=Int.natCast_mul _ _;rw[h]
 by_cases h1:a<0<;>by_cases h2:b<0
 ·rw[show(a.natAbs:Int)= -a by omega,show(b.natAbs:Int)= -b by omega];simp[h1,h2,Int.neg_mul_neg]
 ·rw[show(a.natAbs:Int)= -a by omega,show(b.natAbs:Int)=b by omega];simp[h1,h2,Int.neg_mul]
 ·rw[show(a.natAbs:Int)=a by omega,show(b.natAbs:Int)= -b by omega];simp[h1,h2,Int.mul_neg]
 ·rw[show(a.natAbs:Int)=a by omega,show(b.natAbs:Int)=b by omega];simp[h1,h2]
def O5(z:Int)(h:(bQ z.natAbs==⟨#[]⟩)=true):(0:Int)=z.sign:=by
 rw[nK] at h;simp at h;subst h;rfl
def sign_neg(z:Int)(h:decide (z<0)=true):(-1:Int)=z.sign:=by
 simp at h;rw[Int.sign_eq_neg_one_of_neg h]
def Ut(z:Int)(h0:(bQ z.natAbs==⟨#[]⟩)=false)(h:decide (z<0)=false):(1:Int)=z.sign:=by
 rw[nK] at h0;simp at h h0;rw[Int.sign_eq_one_of_pos ae]
def yP(a b:Int):Int:=if a<b then-1 else if b<a then 1 else 0
def mO(a b:Nat):Int:=if a<b then-1 else if b<a then 1 else 0
def mP(a b:Rat):Int:=if a<b then-1 else if b<a then 1 else 0
def qh3{a b:Int}{m n:Nat}(ha:jv a<=m)(hb:jv b<=n):jv (Int.gcd a b:Int)<=m+n:=by
 unfold jv at*;simp only[Int.natAbs_natCast];rw[Int.gcd_eq_natAbs_gcd_natAbs]
 by_cases h:a.natAbs=0
 ·rw[h,Nat.gcd_zero_left];omega
 ·have:=TW a.natAbs b.natAbs h;omega
def IC{a b q r:Int}(hb:b≠0)(h:r+b*q=a)(h0:0<=r)(h1:r<b.natAbs):q=a/b∧r=a%b:=by
 rcases Int.lt_or_lt_of_ne hb with hb'|hb'
 ·have:=(Int.ediv_emod_unique' hb').2 ⟨h,h0,ae⟩;exact⟨this.1.symm,this.2.symm⟩
 ·have:=(Int.ediv_emod_unique hb').2 ⟨h,h0,ae⟩;exact⟨this.1.symm,this.2.symm⟩
def qdz(a b:Int):(a.natAbs:Int)=(b.natAbs:Int)*((a.natAbs/b.natAbs:Nat):Int)+((a.natAbs%b.natAbs:Nat):Int):=by
 rw[<-Int.natCast_mul,<-Int.natCast_add,Nat.div_add_mod]
def Uu{a b:Int}(hb:b≠0)(h:¬a<0∨a.natAbs%b.natAbs=0):
 (if(decide (a<0) !=decide (b<0))=true then-((a.natAbs/b.natAbs:Nat):Int) else((a.natAbs/b.natAbs:Nat):Int))=a/b∧((a.natAbs%b.natAbs:Nat):Int)=a%b:=by
 have hd:=qdz a b;have hlt:a.natAbs%b.natAbs<b.natAbs:=Nat.mod_lt _ ae
 generalize a.natAbs/b.natAbs=q at*
 generalize a.natAbs%b.natAbs=r at*
 refine IC hb ?_ ae ae
 by_cases h1:a<0<;>by_cases h2:b<0
 ·have ea:(a.natAbs:Int)= -a:=ae
  have eb:(b.natAbs:Int)= -b:=ae;rw[ea,eb] at hd;simp[h1,h2];have:r=0:=ae;subst this;simp at hd ⊢;have e: -b*(q:Int)= -(b*q):=Int.neg_mul _ _;rw[e] at hd;omega
 ·have ea:(a.natAbs:Int)= -a:=ae
  have eb:(b.natAbs:Int)=b:=ae;rw[ea,eb] at hd;simp[h1,h2];have:r=0:=ae;subst this;simp at hd ⊢;rw[Int.mul_neg];omega
 ·have ea:(a.natAbs:Int)=a:=ae
  have eb:(b.natAbs:Int)= -b:=ae;rw[ea,eb] at hd;simp[h1,h2];rw[Int.neg_mul] at hd;rw[Int.mul_neg];omega
 ·have ea:(a.natAbs:Int)=a:=ae
  have eb:(b.natAbs:Int)=b:=ae;rw[ea,eb] at hd;simp[h1,h2];omega
def qdA{a b:Int}(hb:b≠0)(h:a<0)(hr:a.natAbs%b.natAbs≠0):
 (if(decide (a<0) !=decide (b<0))=true then-((a.natAbs/b.natAbs+1:Nat):Int) else((a.natAbs/b.natAbs+1:Nat):Int))=a/b∧((b.natAbs-a.natAbs%b.natAbs:Nat):Int)=a%b:=by
 have hd:=qdz a b;have hlt:a.natAbs%b.natAbs<b.natAbs:=Nat.mod_lt _ ae
 generalize a.natAbs/b.natAbs=q at*
 generalize a.natAbs%b.natAbs=r at*
 refine IC hb ?_ ae ae;have ea:(a.natAbs:Int)= -a:=ae
 by_cases h2:b<0
 ·have eb:(b.natAbs:Int)= -b:=ae
  rw[ea,eb] at hd;simp[h,h2];rw[Int.neg_mul] at hd;rw[Int.mul_add];omega
 ·have eb:(b.natAbs:Int)=b:=ae
  rw[ea,eb] at hd;simp[h,h2];rw[Int.mul_neg,Int.mul_add];omega
def QM{n d:Int}(hd:0<d)(h1:d/(Int.gcd n d:Int)=1):Value.agg #[.bool (decide (n/(Int.gcd n d:Int)<0)),.string (bQ (n/(Int.gcd n d:Int)).natAbs),aT,aU]=Q (Rat.divInt n d):=by
 rw[Ur hd,if_pos h1]
def QN{n d:Int}(hd:0<d)(h1:d/(Int.gcd n d:Int)≠1):Value.agg #[.bool (decide (n/(Int.gcd n d:Int)<0)),.string (bQ (n/(Int.gcd n d:Int)).natAbs),.bool (decide (d/(Int.gcd n d:Int)<0)),.string (bQ (d/(Int.gcd n d:Int)).natAbs)]=Q (Rat.divInt n d):=by
 rw[Ur hd,if_neg h1]
 congr 5
 have:0<=d/(Int.gcd n d:Int):=Int.ediv_nonneg ae ae;simp;omega
def qmA{n d:Int}(hd:d≠0):(Int.gcd n d:Int)≠0:=by
 have:Int.gcd n d≠0:=(by rw[Ne,Int.gcd_eq_zero_iff];omega);omega
def Zb{d:Int}(h:decide (d.sign<0)=true):d<0:=by
 simpa using h
def Zc{d:Int}(h:decide (d.sign<0)=false)(h0:d≠0):0<d:=by
 simp at h;omega
theorem qmB(a b:Int):jv (a+b)<=jv a+jv b+1:=JI (Nat.le_refl _) (Nat.le_refl _)
theorem qmC(a b:Int):jv (a-b)<=jv a+jv b+1:=qh0 (Nat.le_refl _) (Nat.le_refl _)
theorem qmD(a b:Int):jv (a*b)<=jv a+jv b:=lU (Nat.le_refl _) (Nat.le_refl _)
theorem qmE(a:Int):jv (-a)<=jv a:=Y5 (Nat.le_refl _)
theorem qmF(a b:Int):jv (Int.gcd a b:Int)<=jv a+jv b:=qh3 (Nat.le_refl _) (Nat.le_refl _)
theorem WJ(q:Rat):jv q.num<=bY q:=lV (Nat.le_refl _)
theorem WL(q:Rat):jv (q.den:Int)<=bY q:=kU (Nat.le_refl _)
theorem iG(a b:Rat):bY (a+b)<=bY a+bY b+1:=Y6 (Nat.le_refl _) (Nat.le_refl _)
theorem gW(a b:Rat):bY (a-b)<=bY a+bY b+1:=BX (Nat.le_refl _) (Nat.le_refl _)
theorem bZ(a b:Rat):bY (a*b)<=bY a+bY b:=wF (Nat.le_refl _) (Nat.le_refl _)
theorem qdB(a b:Rat):bY (a/b)<=bY a+bY b:=Fb (Nat.le_refl _) (Nat.le_refl _)
theorem KI(a:Rat):bY (-a)<=bY a:=Y7 (Nat.le_refl _)
theorem qrn(a:Int):nb a.natAbs<=jv a:=Nat.le_refl _
theorem Ai(q:Rat):(q.den:Int)≠0:=qdw
def den_pos(q:Rat):(0:Int)<q.den:=qdw
def KJ(p q:Rat):(p.den:Int)*q.den≠0:=Int.mul_ne_zero (Ai p) (Ai q)
def qpl{q:Rat}(h:((false==false)&&(dm q==⟨#[]⟩))=true):I 1=I q.den:=by
 rw[Uo] at h;simp at h;rw[h];rfl
def qpm{q:Rat}(h:((false==false)&&(dm q==⟨#[]⟩))=false):Value.agg #[.bool false,.string (dm q)]=I q.den:=by
 rw[Uo] at h;simp at h;unfold dm;rw[if_neg h];exact qdy q.den
def kV(p q:Rat):Int:=if p.den=q.den then p.num else p.num*q.den
def kX(p q:Rat):Int:=if p.den=q.den then q.num else q.num*p.den
def lJ(p q:Rat):Int:=if p.den=q.den then p.den else p.den*q.den
def qh4{p q:Rat}(h:((false==false)&&(dm p==dm q))=true):Value.tuple #[I p.num,I q.num,I p.den]= .tuple #[I (kV p q),I (kX p q),I (lJ p q)]:=by
 rw[qdx] at h;simp at h;unfold kV kX lJ;rw[if_pos h,if_pos h,if_pos h]
def qh5{p q:Rat}(h:((false==false)&&(dm p==dm q))=false):Value.tuple #[I (p.num*q.den),I (q.num*p.den),I (p.den*q.den)]= .tuple #[I (kV p q),I (kX p q),I (lJ p q)]:=by
 rw[qdx] at h;simp at h;unfold kV kX lJ;rw[if_neg h,if_neg h,if_neg h]
def O6(p q:Rat):lJ p q≠0:=by
 unfold lJ;split
 ·exact Ai p
 ·exact KJ p q
def WM(p q:Rat):0<lJ p q:=by
 unfold lJ;split
 ·exact den_pos p
 ·exact Int.mul_pos (den_pos p) (den_pos q)
def szX{p q:Rat}{m n:Nat}(hp:bY p<=m)(hq:bY q<=n):jv (kV p q)<=m+n:=by
 unfold kV;split
 ·have:=lV hp;omega
 ·exact lU (lV hp) (kU hq)
def szY{p q:Rat}{m n:Nat}(hp:bY p<=m)(hq:bY q<=n):jv (kX p q)<=m+n:=by
 unfold kX;split
 ·have:=lV hq;omega
 ·have:=lU (lV hq) (kU hp);omega
def szD{p q:Rat}{m n:Nat}(hp:bY p<=m)(hq:bY q<=n):jv (lJ p q)<=m+n:=by
 unfold lJ;split
 ·have:=kU hp;omega
 ·exact lU (kU hp) (kU hq)
def qro{p q:Rat}{m n:Nat}(hp:bY p<=m)(hq:bY q<=n):jv (kV p q+kX p q)<=m+n+1:=by
 have h1:=szX hp hq;have h2:=szY hp hq;unfold jv at*;have h3:=gG (Int.natAbs_add_le (kV p q) (kX p q));have h4:=Ac (kV p q).natAbs (kX p q).natAbs;omega
def Zd(p q:Rat):p=Rat.divInt (kV p q) (lJ p q)∧q=Rat.divInt (kX p q) (lJ p q):=by
 unfold kV kX lJ
 split
 ·rename_i h
  refine⟨(Rat.num_divInt_den p).symm,?_⟩;rw[h];exact(Rat.num_divInt_den q).symm
 ·refine⟨?_,?_⟩
  ·rw[Rat.divInt_mul_right (Ai q)];exact(Rat.num_divInt_den p).symm
  ·rw[Int.mul_comm (p.den:Int),Rat.divInt_mul_right (Ai p)];exact(Rat.num_divInt_den q).symm
def qbf(p q:Rat):Rat.divInt (kV p q+kX p q) (lJ p q)=p+q:=by
 have h:=Zd p q;have h0:=O6 p q
 generalize kV p q=x at*
 generalize kX p q=y at*
 generalize lJ p q=d at*
 rw[h.1,h.2,Rat.divInt_add_divInt _ _ h0 h0,<-Int.add_mul,Rat.divInt_mul_right h0]
theorem KL(p q:Rat):Rat.divInt (p.num*q.num) (p.den*q.den)=p*q:=by
 conv=>rhs;rw[<-Rat.num_divInt_den p,<-Rat.num_divInt_den q]
 rw[Rat.divInt_mul_divInt]
theorem WN(p q:Rat):Rat.divInt (p.num*q.den) (p.den*q.num)=p/q:=by
 rw[Rat.div_def,Rat.inv_def]
 conv=>rhs;rw[<-Rat.num_divInt_den p]
 rw[Rat.divInt_mul_divInt]
theorem qh6(p q:Rat):(if q=0 then(6:Int) else 0)=(if(p.den:Int)*q.num=0 then 6 else 0):=by
 by_cases h:q=0
 ·subst h;simp
 ·have h1:q.num≠0:=fun e=>h (Rat.num_eq_zero.1 e)
  rw[if_neg h,if_neg (Int.mul_ne_zero (Ai p) h1)]
theorem qbg(p:Rat):mP p p=0:=by unfold mP;simp[Rat.lt_irrefl]
def O7{x y d:Int}(hd:0<d):Rat.divInt x d<Rat.divInt y d↔x<y:=by
 have e:∀z:Int,Rat.divInt z d=(z:Rat)/(d:Rat):=fun z=>Rat.divInt_eq_div z d
 rw[e,e];have hd':(0:Rat)<(d:Rat):=Rat.intCast_pos.2 hd;rw[Rat.div_lt_iff hd',Rat.div_mul_cancel (by intro h;rw[h] at hd';exact absurd hd' (Rat.lt_irrefl))];exact Rat.intCast_lt_intCast
def qbh(p q:Rat):yP (kV p q) (kX p q)=mP p q:=by
 have h:=Zd p q;have h0:=WM p q;unfold yP mP;have h1:(p<q)↔kV p q<kX p q:=by
  generalize kV p q=x at*;generalize kX p q=y at*;generalize lJ p q=d at*
  rw[h.1,h.2];exact O7 h0
 have h2:(q<p)↔kX p q<kV p q:=by
  generalize kV p q=x at*;generalize kX p q=y at*;generalize lJ p q=d at*
  rw[h.1,h.2];exact O7 h0
 simp only[h1,h2]
theorem Ze{p q:Rat}:mP p q<=0↔p<=q:=by
 unfold mP
 split
 ·rename_i h;simp;exact Rat.le_of_lt h
 ·split
  ·rename_i h1 h2;simp;exact Rat.not_le.2 h2
  ·rename_i h1 h2;simp;exact Rat.not_lt.1 h2
theorem yQ:Q 0= .agg #[aT,aU,aT,aU]:=by
 show Value.agg #[.bool (decide ((0:Int)<0)),.string (bQ 0),.bool false,.string (dm 0)]=_;rw[iT,show dm 0=⟨#[]⟩ from rfl];rfl
end Go.Via
