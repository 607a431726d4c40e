/-
  Part 15 (chapter 32): lemmas, walks. Each theorem states its own conditions.
-/
import Derived.Test.YtaffcpfhedadhaaGreatDoorA05
import Derived.Test.YtaffcpfhedadhaaGreatDoorA09
import Derived.Test.YtaffcpfhedadhaaGreatDoorA14
set_option linter.all false
set_option maxRecDepth 20000
set_option maxHeartbeats 20000000
namespace Go.Via
variable[Mo]
open Go Go.RowKit
theorem kJ{m n:Nat}:0<=lX m n↔n<=m:=by
 unfold lX
 by_cases h1:m<n
 ·rw[if_pos h1];omega
 ·rw[if_neg h1]
  by_cases h2:n<m
  ·rw[if_pos h2];omega
  ·rw[if_neg h2];omega
def vP{m n:Nat}:lX m n<=0↔m<=n:=by
 unfold lX
 by_cases h1:m<n
 ·rw[if_pos h1];omega
 ·rw[if_neg h1]
  by_cases h2:n<m
  ·rw[if_pos h2];omega
  ·rw[if_neg h2];omega
theorem Ep{m n:Nat}:lX m n<0↔m<n:=by
 unfold lX
 by_cases h1:m<n
 ·rw[if_pos h1];omega
 ·rw[if_neg h1]
  by_cases h2:n<m
  ·rw[if_pos h2];omega
  ·rw[if_neg h2];omega
def qaR{a b:Nat}(x:SR (nb a)):(SR (nb (a/b))×SR (nb (a%b))) ⊕ PLift (a<b)->Value
 | .inl z=> .tuple #[z.1.v,z.2.v]
 | .inr _=> .tuple #[.slice none 0 0,x.v]
def O3{a b:Nat}:(SR (nb (a/b))×SR (nb (a%b))) ⊕ PLift (a<b)->List aC
 | .inl z=>[⟨z.1.b,3,NV .i64 (D8 (a/b)),z.1.n,true⟩,⟨z.2.b,3,NV .i64 (D8 (a%b)),z.2.n,true⟩]
 | .inr _=>[]
def qF{B:Bs}{X:Act->World->Prop}{nt:Nat}{t:List (Nat×Value)}{L:List aC}{b:aC}(k:Nat)(hk:L[k]? =some b)(h:(b.base=none->b.cs=[])->At B ⟨nt,t,L⟩ X):At B ⟨nt,t,L⟩ X:=
 fun a w hr=>h (fun hb=>((hr.mem.blk k b hk).2 hb).1) a w hr
def qaS{P:Program}{bl:List Nat}{ops:Array Oper}{K:St->Prop}{rest:List Oper}{nt:Nat}{t:List (Nat×Value)}{L:List aC}{d:Nat}{ty:TypeId}{pos:String}{af:Array Edge}{g:Option (Nat×Bool)}{x y:Operand}
 {T e:Nat}{z:Value}{gx:Nat}{d0 R:Nat}{ob:Option Nat}{oN oc:Nat}{o2:Bool}(k k2:Nat)(mk:Option Nat->Nat->List aC)(hT:P.underlying T=some (.slice e))(hi:KP P e 1 z)(hd:Nat.blt d nt=true)
 (hg:au ops ⟨some d,.call {callee:= .builtin .append,args:= #[x,y],argTypes:= #[T,T]},ty,pos,af,g⟩ t=some true)
 (hk:L[k]? =some ⟨some gx,e,[.int .i64 (d0:Nat)],1,true⟩)(hx:ev t x=some (az (some gx) 0 1 1))(hk2:L[k2]? =some ⟨ob,3,NV .i64 (D8 R),oN,o2⟩)(hb:ob=none->NV .i64 (D8 R)=[])(hy:ev t y=some (az ob 0 (nb R) oc))
 (hzs:z.cells.size=1)(hmax:nb R<=1073741824)(hL:∀b n,L.set k ⟨b,e,NV .i64 (d0::D8 R),n,true⟩=mk b n)
 (h:∀r:SR (nb R+1),aU P bl ops rest ⟨nt,(d,r.v)::t,mk r.b r.n⟩ K):
 aU P bl ops (⟨some d,.call {callee:= .builtin .append,args:= #[x,y],argTypes:= #[T,T]},ty,pos,af,g⟩::rest) ⟨nt,t,L⟩ K:=by
 by_cases h0:nb R=0
 ·have hD:D8 R=[]:=List.eq_nil_of_length_eq_zero (by rw[dw];exact h0);have:=h ⟨some gx,1,1,by omega⟩;rw[<-hL] at this;unfold SR.v at this;simp only[h0,hD] at this;have e1:L.set k ⟨some gx,e,NV .i64 [d0],1,true⟩=L:=by
   obtain⟨hlt,he⟩:=List.getElem?_eq_some_iff.1 hk;exact(congrArg (L.set k) he.symm).trans (List.set_getElem_self hlt)
  rw[e1] at this;obtain⟨inf,i1,i2,i3,i5⟩:=zf hi;rw[h0] at hy;exact Xy hT i1 hd hg hx (Nat.le_refl 1) hy this
 ·obtain⟨g2,rfl⟩:∃g2,ob=some g2:=by
   cases ob with
   |none=>
    have:=congrArg List.length (hb rfl);rw[aW,dw] at this;exact absurd this h0
   |some g2=>exact⟨g2,rfl⟩
  refine kZ (s:=1) (len:=1) (n2:=nb R) k k2 (fun r=>mk (some r.g) r.n) hT hi hd hg hk rfl rfl hx hk2 rfl hy rfl hzs (by simpa using(by omega:0<nb R)) rfl (Nat.le_refl _) (Nat.le_refl _) (by rw[aW,dw];omega) (Fh _ _) (by omega) (fun r=>?_) (fun r=>?_)
  ·rw[<-hL];rfl
  ·have h1:=h ⟨some r.g,r.n,r.cap,by have:=r.h;omega⟩;unfold SR.v at h1;have e:az (some r.g) 0 (1+nb R) r.cap=az (some r.g) 0 (nb R+1) r.cap:=congrArg (fun n=>az (some r.g) 0 n r.cap) (Nat.add_comm 1 (nb R));rw[e];exact h1
theorem V4(a b q:Nat):val 256 (a/256^q%256::D8 (a/256^(q+1)%b))=FP a b q:=qet _ _ (jW _)
def Be(a b q:Nat):∀d∈a/256^q%256::D8 (a/256^(q+1)%b),d<256:=fun d hd=>by
 rcases List.mem_cons.1 hd with rfl|hd
 ·exact jW _
 ·exact qf9 _ d hd
theorem JB(a b q:Nat):(ag 256 (val 256 (a/256^q%256::D8 (a/256^(q+1)%b)))).length=nb (FP a b q):=by rw[V4];rfl
def qaT(a b q:Nat):nb (FP a b q)<=nb (a/256^(q+1)%b)+1:=by
 rw[<-JB];exact Nat.le_trans (iE (by decide) (Fv (by decide) (Be a b q))) (by simp[dw])
def QY(a b q:Nat):NV .i64 (D8 (FP a b q))=(NV .i64 (a/256^q%256::D8 (a/256^(q+1)%b))).take (nb (FP a b q)):=by
 have:=xu (B:=256) (by omega) (Be a b q);rw[V4] at this;rw[DV];congr 1;exact this.symm
theorem Ih(a b:Nat):a/256^nb a%b=0:=by rw[Nat.div_eq_of_lt (jT a),Nat.zero_mod]
def V5(a b:Nat):NV .i64 (D8 (a/256^nb a%b))=[]:=by
 rw[Ih];have:D8 0=[]:=List.eq_nil_of_length_eq_zero (by rw[dw,kw]);rw[this];rfl
def QZ(a b:Nat):Value.slice none 0 0=az none 0 (nb (a/256^nb a%b)) 0:=by rw[Ih,kw];rfl
def Q3(a b q m k:Nat):Nat:=if k=q then m else O1 a b (q+1) k
theorem FQ(a b q m:Nat):Q3 a b q m q=m:=by simp[Q3]
def Q4(a b q k:Nat):Q3 a b q 0 k=O1 a b (q+1) k:=by
 unfold Q3
 split
 ·rename_i h;subst h;simp[O1]
 ·rfl
theorem Es(a b q m m' k:Nat):Q3 a b q m' k=if k=q then m' else Q3 a b q m k:=by
 unfold Q3;split<;>rfl
def V6(a b q k:Nat):Q3 a b q (a/b/256^q%256) k=O1 a b q k:=by
 unfold Q3 O1
 by_cases h:k=q
 ·subst h;simp
 ·rw[if_neg h]
  by_cases c:k<q
  ·rw[if_pos c,if_pos (by omega)]
  ·rw[if_neg c,if_neg (by omega)]
theorem V7(a b:Nat){k:Nat}(h:k<nb a):O1 a b (nb a) k=0:=by unfold O1;rw[if_pos h]
def Uw(a b p k:Nat):O1 a b p k<256:=by unfold O1;split<;>omega
theorem qeu(a b:Nat):val 256 (row (nb a) (O1 a b 0))=a/b:=by
 have h:a/b<256^nb a:=Nat.lt_of_le_of_lt (Nat.div_le_self _ _) (jT a);rw[bJ (g:=fun j=>a/b/256^j%256) (fun j hj=>by unfold O1;rw[if_neg (by omega)]),oU 256 (by decide),Nat.mod_eq_of_lt h]
theorem JC(a b:Nat):ag 256 (val 256 (row (nb a) (O1 a b 0)))=D8 (a/b):=by rw[qeu];rfl
def Q5(a b:Nat):NV .i64 (D8 (a/b))=(NV .i64 (row (nb a) (O1 a b 0))).take (nb (a/b)):=by
 have:=xu (B:=256) (by omega) (kC (n:=nb a) (fun j=>Uw a b 0 j));rw[JC] at this;rw[DV];congr 1;exact this.symm
def qaU{r b:Nat}(h:r<256*b):nb r<=nb b+1:=ng (by
 have:=jT b;rw[Nat.pow_succ];omega)
def V8{a b p m r:Nat}(hb:0<b)(h:m*b+r=FP a b p):nb r<=nb b+1:=qaU (by have:=Uu a b p hb;have:=Nat.zero_le (m*b);omega)
end Go.Via
namespace Go.Via
theorem O4:NV .i64 (D8 0)=[]:=by
 have:D8 0=[]:=List.eq_nil_of_length_eq_zero (by rw[dw,kw]);rw[this];rfl
end Go.Via
namespace Go.Via
variable[Mo]
open Go Go.RowKit
structure FS(bs:List (Option Nat))(len:Nat) where
 z:SR len
 o:Bool
 ho:o=true∨z.b∈bs
def JD{a b:Nat}(z:(SR (nb (a/b))×SR (nb (a%b))) ⊕ PLift (a<b)):∀c∈O3 z,c.own=true:=by
 intro c hc;cases z with
 |inl z=>
  simp only[O3,List.mem_cons,List.mem_nil_iff,or_false] at hc;rcases hc with rfl|rfl<;>rfl
 |inr h=>cases hc
def qhH{B:Bs}{w:World}{L:List aC}{x y:aC}{c:aC}{o:Bool}{bb:Option Nat}(h:aV B L w)(k:Nat){b:aC}(hk:L[k]? =some b)(hb:b.base=bb)(hoo:b.own=o)(ho:o=true∨bb∈[x.base,y.base])(hc:c.base=bb):∀g,c.base=some g->B.own g∨∃b0∈[x,y],b0.base=some g:=by
 intro g hg;rcases ho with h1|h1
 ·exact .inl (Oo h k hk (by rw[hoo];exact h1) g (by rw[hb,<-hc];exact hg))
 ·rw[hc] at hg;subst hg;simp only[List.mem_cons,List.mem_nil_iff,or_false] at h1;rcases h1 with h1|h1
  ·exact .inr ⟨x,by simp,h1.symm⟩
  ·exact .inr ⟨y,by simp,h1.symm⟩
def Yo{m n a b:Nat}(h:Nat.gcd m n=Nat.gcd a b):Nat.gcd n (m%n)=Nat.gcd a b:=by
 rw[<-h,Nat.gcd_comm m n,Nat.gcd_rec n m,Nat.gcd_comm (m%n) n]
def V9{P:Program}{f a b:Nat}{x:SR (nb a)}{L0:List aC}{args:List Value}(hx:∀g,x.b=some g->∃b0∈L0,b0.base=some g)(hL0:L0[0]? =some ⟨x.b,3,NV .i64 (D8 a),x.n,false⟩)(h:bW P f L0 args ((SR (nb (a/b))×SR (nb (a%b))) ⊕ PLift (a<b)) (qaR x) O3):
 Fj P f L0 args (SR (nb (a/b))×SR (nb (a%b))) (fun z=> .tuple #[z.1.v,z.2.v]) (fun z=>[⟨z.1.b,3,NV .i64 (D8 (a/b)),z.1.n,false⟩,⟨z.2.b,3,NV .i64 (D8 (a%b)),z.2.n,false⟩]):=by
 refine⟨h.1,fun w hL=>(h.2 w hL).mono ?_⟩
 rintro e w' ⟨z,rfl,hz⟩;cases z with
 |inl z=>
  refine⟨z,rfl,hz.un,fun c hc g hg=> .inl ?_⟩
  simp only[List.mem_cons,List.mem_nil_iff,or_false] at hc;rcases hc with rfl|rfl
  ·exact DD (Oo hz 0 rfl rfl g hg)
  ·exact DD (Oo hz 1 rfl rfl g hg)
 |inr hlt=>
  have hlt:=hlt.down;refine⟨(⟨none,0,0,by rw[Nat.div_eq_of_lt hlt,kw];exact Nat.le_refl _⟩,⟨x.b,x.n,x.cap,by rw[Nat.mod_eq_of_lt hlt];exact x.h⟩),?_,?_,fun c hc g hg=>?_⟩
  ·show Ending.returned (.tuple #[Value.slice none 0 0,az x.b 0 (nb a) x.cap])=Ending.returned (.tuple #[az none 0 (nb (a/b)) 0,az x.b 0 (nb (a%b)) x.cap]);rw[Nat.div_eq_of_lt hlt,Nat.mod_eq_of_lt hlt,kw];rfl
  ·refine(hL.same (hz:aV w [] w').below).picks [none,some 0] ⟨⟨rfl,by show NV .i64 (D8 (a/b))=[];rw[Nat.div_eq_of_lt hlt];exact O4,rfl⟩,⟨_,hL0,aK (by show(⟨x.b,3,NV .i64 (D8 (a%b)),x.n,false⟩:aC)=⟨x.b,3,NV .i64 (D8 a),x.n,false⟩;rw[Nat.mod_eq_of_lt hlt])⟩,trivial⟩ rfl rfl
  ·simp only[List.mem_cons,List.mem_nil_iff,or_false] at hc;rcases hc with rfl|rfl
   ·cases hg
   ·exact .inr (hx g hg)
end Go.Via
namespace Go.Via
open Go Go.RowKit
def dz(q:Rat):Int:=if q.den=1 then 0 else q.den
def qjJ(q:Rat):Value.agg #[.bool false,.string (dm q)]=I (dz q):=by
 unfold dz dm I
 by_cases h:q.den=1
 ·simp only[if_pos h];rw[show(0:Int).natAbs=0 from rfl,iQ];rfl
 ·simp only[if_neg h,Int.natAbs_natCast];rw[show decide (((q.den:Nat):Int)<0)=false from decide_eq_false (by omega)]
theorem oV:nb 1=1:=by have h1:=ng (n:=1) (k:=1) (by omega);have h2:=CP (u:=1) (by omega);omega
def qlN{q:Rat}(h:((nb (dz q).natAbs:Nat):Int)=0):q.den=1:=by
 unfold dz at h
 by_cases e:q.den=1
 ·exact e
 ·rw[if_neg e,Int.natAbs_natCast] at h;have:=CP (u:=q.den) (by have:=q.den_nz;omega);omega
def qlO{q:Rat}(h:¬((nb (dz q).natAbs:Nat):Int)=0):(dz q).natAbs=q.den:=by
 unfold dz at*
 by_cases e:q.den=1
 ·rw[if_pos e] at h;exact absurd (by rw[show(0:Int).natAbs=0 from rfl,kw];rfl) h
 ·rw[if_neg e,Int.natAbs_natCast]
def qjK(q:Rat):jm (dz q)<=bV q:=by
 unfold dz jm bV
 split
 ·rw[show(0:Int).natAbs=0 from rfl,kw];omega
 ·rw[Int.natAbs_natCast];omega
theorem Ux:D8 1=[1]:=by
 have h:=Jv 1;rw[oV] at h;rw[<-h];simp[row,BN]
def sg(neg:Bool)(n:Nat):Int:=if neg=true then-(n:Int) else(n:Int)
theorem Yp(neg:Bool)(n:Nat):(sg neg n).natAbs=n:=by unfold sg;split<;>simp
theorem O5(neg:Bool)(n d:Nat):Int.gcd (sg neg n) d=Nat.gcd n d:=by rw[Int.gcd,Yp,Int.natAbs_natCast]
theorem qaV(neg:Bool)(n d:Nat):sg neg n/(Int.gcd (sg neg n) d:Int)=sg neg (n/Nat.gcd n d):=by
 rw[O5];unfold sg
 split
 ·rw[Int.neg_ediv_of_dvd (Int.natCast_dvd_natCast.2 (Nat.gcd_dvd_left n d))];rfl
 ·rfl
def qaW{n d:Nat}(neg:Bool)(hd:0<d)(h1:d/Nat.gcd n d=1):Value.agg #[.bool (decide (sg neg (n/Nat.gcd n d)<0)),.string (bH (sg neg (n/Nat.gcd n d)).natAbs),aO,aP]=Q (Rat.divInt (sg neg n) d):=by
 have:=Oy (n:=sg neg n) (d:=d) (by omega) (by rw[O5];exact_mod_cast h1);rw[qaV] at this;exact this
def Q7{n d:Nat}(neg:Bool)(hd:0<d)(h1:d/Nat.gcd n d≠1):Value.agg #[.bool (decide (sg neg (n/Nat.gcd n d)<0)),.string (bH (sg neg (n/Nat.gcd n d)).natAbs),.bool (decide (((d/Nat.gcd n d:Nat):Int)<0)),.string (bH (((d/Nat.gcd n d:Nat):Int)).natAbs)]=Q (Rat.divInt (sg neg n) d):=by
 have:=Oz (n:=sg neg n) (d:=d) (by omega) (by rw[O5];exact_mod_cast h1);rw[qaV,O5] at this;exact this
theorem We{m:Nat}(h:nb m=1):m/256^0%256=m:=by
 have:=jT m;rw[h] at this;rw[Nat.pow_zero,Nat.div_one,Nat.mod_eq_of_lt (by omega)]
def Lj{m:Nat}(h:¬((nb m:Nat):Int)=1):m≠1:=fun e=>h (by rw[e,oV];rfl)
def qev(n d:Int)(h:d≠0):Rat.divInt (sg (decide (n<0) !=decide (d<0)) n.natAbs) (d.natAbs:Int)=Rat.divInt n d:=by
 unfold sg
 by_cases hd:d<0
 ·have e:(d.natAbs:Int)= -d:=by omega
  rw[e]
  by_cases hn:n<0
  ·rw[decide_eq_true hd,decide_eq_true hn];simp only[bne_self_eq_false,Bool.false_eq_true,if_false];rw[show(n.natAbs:Int)= -n by omega,Rat.neg_divInt_neg]
  ·rw[decide_eq_true hd,decide_eq_false hn];simp only[Bool.bne_true,Bool.not_false,if_true];rw[show(n.natAbs:Int)=n by omega,Rat.neg_divInt_neg]
 ·have e:(d.natAbs:Int)=d:=by omega
  rw[e]
  by_cases hn:n<0
  ·rw[decide_eq_false hd,decide_eq_true hn];simp only[Bool.bne_false,if_true];rw[show-(n.natAbs:Int)=n by omega]
  ·rw[decide_eq_false hd,decide_eq_false hn];simp only[bne_self_eq_false,Bool.false_eq_true,if_false];rw[show(n.natAbs:Int)=n by omega]
def qhI(p q:Rat):Rat.divInt (sg (decide (p.num<0) !=decide (q.num<0)) (p.num.natAbs*q.num.natAbs)) ((p.den*q.den:Nat):Int)=p*q:=by
 rw[<-Jc p q,<-Vr p.num q.num];unfold sg;rw[Int.natCast_mul,Int.natCast_mul]
theorem kX(a:Int)(d:Nat)(h:d≠0):decide (a*(d:Int)<0)=decide (a<0):=by
 refine decide_eq_decide.2 ⟨fun h2=>?_,fun h2=>Int.mul_neg_of_neg_of_pos h2 (by omega)⟩
 refine Int.not_le.1 fun h3=>?_
 have:=Int.mul_nonneg h3 (show(0:Int)<=d by omega);omega
theorem zU(p q:Rat):Rat.divInt (p.num*q.den+q.num*p.den) ((p.den*q.den:Nat):Int)=p+q:=by
 have h1:(p.den:Int)≠0:=zB p;have h2:(q.den:Int)≠0:=zB q
 conv=>rhs;rw[<-Rat.num_divInt_den p,<-Rat.num_divInt_den q]
 rw[Rat.divInt_add_divInt _ _ h1 h2,Int.natCast_mul]
def qew(p q:Rat)(h:(decide (p.num<0)==decide (q.num<0))=true):Rat.divInt (sg (decide (p.num<0)) (p.num.natAbs*q.den+q.num.natAbs*p.den)) ((p.den*q.den:Nat):Int)=p+q:=by
 rw[<-zU p q]
 congr 1
 have h1:=Qv (p.num*q.den) (q.num*p.den) (by rw[kX _ _ q.den_nz,kX _ _ p.den_nz];exact h);rw[kX _ _ q.den_nz,Int.natAbs_mul,Int.natAbs_mul,Int.natAbs_natCast,Int.natAbs_natCast] at h1;exact h1
def qex(p q:Rat)(h:(decide (p.num<0)==decide (q.num<0))=false)(hle:q.num.natAbs*p.den<=p.num.natAbs*q.den):Rat.divInt (sg (decide (p.num<0)) (p.num.natAbs*q.den-q.num.natAbs*p.den)) ((p.den*q.den:Nat):Int)=p+q:=by
 rw[<-zU p q]
 congr 1
 have h1:=L6 (p.num*q.den) (q.num*p.den) (by rw[kX _ _ q.den_nz,kX _ _ p.den_nz];exact h) (by rw[Int.natAbs_mul,Int.natAbs_mul,Int.natAbs_natCast,Int.natAbs_natCast];exact hle);rw[kX _ _ q.den_nz,Int.natAbs_mul,Int.natAbs_mul,Int.natAbs_natCast,Int.natAbs_natCast] at h1;exact h1
def qey(p q:Rat)(h:(decide (p.num<0)==decide (q.num<0))=false)(hle:p.num.natAbs*q.den<=q.num.natAbs*p.den):Rat.divInt (sg (decide (q.num<0)) (q.num.natAbs*p.den-p.num.natAbs*q.den)) ((p.den*q.den:Nat):Int)=p+q:=by
 rw[<-zU p q]
 congr 1
 have h1:=Mc (p.num*q.den) (q.num*p.den) (by rw[kX _ _ q.den_nz,kX _ _ p.den_nz];exact h) (by rw[Int.natAbs_mul,Int.natAbs_mul,Int.natAbs_natCast,Int.natAbs_natCast];exact hle);rw[kX _ _ p.den_nz,Int.natAbs_mul,Int.natAbs_mul,Int.natAbs_natCast,Int.natAbs_natCast] at h1;exact h1
def Q8{q:Rat}(h:q<0):q.num<0:=by
 refine Int.not_le.1 fun h1=>?_
 have:=Rat.num_nonneg.1 h1
 grind
def Q9{q:Rat}(h:0<q):0<q.num:=by
 have h1:=Rat.num_nonneg.2 (show 0<=q by grind);have h2:q.num≠0:=fun e=>by have:=Rat.num_eq_zero.1 e;grind
 omega
def Rf(p q:Rat):(p-q).num.sign=nD p q:=by
 unfold nD
 by_cases h:p<q
 ·rw[if_pos h];have:p-q<0:=by grind
  exact Int.sign_eq_neg_one_of_neg (Q8 this)
 ·rw[if_neg h]
  by_cases h2:q<p
  ·rw[if_pos h2];have:0<p-q:=by grind
   exact Int.sign_eq_one_of_pos (Q9 this)
  ·rw[if_neg h2];have:p-q=0:=by grind
   rw[this];rfl
end Go.Via
namespace Go.Via
def nn(R u v:Rat):Prop:=(0<=u∧v*v*R<=u*u)∨(0<=v∧u*u<=v*v*R)
def qjL(x:Rat):0<=x*x:=by
 by_cases h:0<=x
 ·exact Rat.mul_nonneg h h
 ·have h1:0<= -x:=by grind
  have:=Rat.mul_nonneg h1 h1;have e: -x* -x=x*x:=by grind
  rwa [e] at this
end Go.Via
namespace Go.Via
open Go
structure Rl where
 p:Rat
 r:Rat
 n:Bool
deriving DecidableEq
def dE(q:Rat):Int:=q.num.sign
def tu(a b r:Rat):Int:=if dE b*dE r=0∨dE a=dE b*dE r then dE a else if dE a=0 then dE b*dE r else dE a*nD (a*a) (b*b*r)
def nZ(x:Rl):Rat:=if x.n=true then-1 else 1
def bK(x y:Rl):Int:=
 if dE (-nZ y)*dE y.r=0∨tu (x.p-y.p) (nZ x) x.r=dE (-nZ y)*dE y.r then tu (x.p-y.p) (nZ x) x.r
 else if tu (x.p-y.p) (nZ x) x.r=0 then dE (-nZ y)*dE y.r
 else tu (x.p-y.p) (nZ x) x.r*tu ((x.p-y.p)*(x.p-y.p)+x.r-y.r) (2*((x.p-y.p)*nZ x)) x.r
def rl(q:Rat):Rl:=⟨q,0,false⟩
theorem O6{q:Rat}(h:0<q):dE q=1:=by unfold dE;exact Int.sign_eq_one_of_pos (Q9 h)
theorem O7{q:Rat}(h:q<0):dE q= -1:=by unfold dE;exact Int.sign_eq_neg_one_of_neg (Q8 h)
theorem Et:dE 0=0:=rfl
def ji(q:Rat):(0<q∧dE q=1)∨(q<0∧dE q= -1)∨(q=0∧dE q=0):=by
 by_cases h:0<q
 ·exact .inl ⟨h,O6 h⟩
 ·by_cases h1:q<0
  ·exact .inr (.inl ⟨h1,O7 h1⟩)
  ·have:q=0:=by grind
   exact .inr (.inr ⟨this,by rw[this];rfl⟩)
def xB(p q:Rat):(p<q∧nD p q= -1)∨(q<p∧nD p q=1)∨(p=q∧nD p q=0):=by
 unfold nD
 by_cases h:p<q
 ·exact .inl ⟨h,if_pos h⟩
 ·by_cases h1:q<p
  ·exact .inr (.inl ⟨h1,by rw[if_neg h,if_pos h1]⟩)
  ·exact .inr (.inr ⟨by grind,by rw[if_neg h,if_neg h1]⟩)
theorem qez(p q:Rat):dE (p-q)=nD p q:=Rf p q
theorem qaX(q:Rat):dE (-q)= -dE q:=by unfold dE;rw[Rat.neg_num];exact Int.sign_neg _
theorem qhJ(a b:Rat):tu a b 0=dE a:=by unfold tu;rw[Et,Int.mul_zero,if_pos (.inl rfl)]
def qeA(x:Rl):dE (nZ x)=if x.n=true then-1 else 1:=by unfold nZ;split<;>rfl
def qaY(x:Rl):nZ x*nZ x=1:=by unfold nZ;split<;>grind
theorem qaZ(x:Rl)(q:Rat):bK x (rl q)=tu (x.p-q) (nZ x) x.r:=by
 unfold bK rl;dsimp only;rw[Et,Int.mul_zero,if_pos (.inl rfl)]
theorem O8(p q:Rat):bK (rl p) (rl q)=nD p q:=by
 rw[qaZ];unfold rl;dsimp only;rw[qhJ,qez]
def ui(x y:Rl):bK x y= -1∨bK x y=0∨bK x y=1:=by
 have hs:∀q,dE q= -1∨dE q=0∨dE q=1:=fun q=>by rcases ji q with h|h|h<;>simp[h.2]
 have hm:∀{a b:Int},(a= -1∨a=0∨a=1)->(b= -1∨b=0∨b=1)->(a*b= -1∨a*b=0∨a*b=1):=fun h h'=>by
  rcases h with h|h|h<;>rcases h' with h'|h'|h'<;>simp[h,h']
 have hq:∀p q,nD p q= -1∨nD p q=0∨nD p q=1:=fun p q=>by rcases xB p q with h|h|h<;>simp[h.2]
 have h1:∀a b r,tu a b r= -1∨tu a b r=0∨tu a b r=1:=fun a b r=>by
  unfold tu;split
  ·exact hs _
  ·split
   ·exact hm (hs _) (hs _)
   ·exact hm (hs _) (hq _ _)
 unfold bK;split
 ·exact h1 _ _ _
 ·split
  ·exact hm (hs _) (hs _)
  ·exact hm (h1 _ _ _) (h1 _ _ _)
end Go.Via
namespace Go.Via
section
variable{α:Type}{κ:α->Int}
def iy(g:α->Bool):Option α->List α->List (α×α)
 |_,[]=>[]
 |none,c::cs=>if g c=true then iy g (some c) cs else iy g none cs
 |some f,c::cs=>if g c=true then iy g (some f) cs else(f,c)::iy g none cs
theorem oh{g h:α->Bool}:∀{C:List α} {st:Option α},(∀c∈C,g c=h c)->iy g st C=iy h st C
 |[],none,_=>rfl
 |[],some _,_=>rfl
 |c::cs,none,H=>by
  unfold iy;rw[H c (List.mem_cons_self ..),oh (fun x hx=>H x (List.mem_cons_of_mem _ hx)),oh (C:=cs) (st:=none) (fun x hx=>H x (List.mem_cons_of_mem _ hx))]
 |c::cs,some f,H=>by
  unfold iy;rw[H c (List.mem_cons_self ..),oh (fun x hx=>H x (List.mem_cons_of_mem _ hx)),oh (C:=cs) (st:=none) (fun x hx=>H x (List.mem_cons_of_mem _ hx))]
def Chk(g:α->Bool)(p:α->Bool):Bool->List α->Prop
 |_,[]=>True
 |s,c::cs=>(p c=true∨g c=s)∧Chk g p (g c) cs
theorem oI{g p:α->Bool}:∀{C:List α} {st:Option α},Chk g p st.isSome C->iy g st C=iy g st (C.filter p)
 |[],none,_=>rfl
 |[],some _,_=>rfl
 |c::cs,none,H=>by
  obtain⟨h1,h2⟩:=H;cases hp:p c
  ·rw[List.filter_cons_of_neg (by rw[hp];decide)];have h3:g c=false:=by rcases h1 with h|h;rw[hp] at h;cases h;exact h
   rw[h3] at h2;unfold iy;rw[h3,if_neg (by decide),oI (st:=none) h2];cases cs.filter p<;>rfl
  ·rw[List.filter_cons_of_pos hp];unfold iy;cases hg:g c
   ·rw[hg] at h2;rw[if_neg (by decide),if_neg (by decide),oI (st:=none) h2]
   ·rw[hg] at h2;rw[if_pos rfl,if_pos rfl,oI (st:=some c) h2]
 |c::cs,some f,H=>by
  obtain⟨h1,h2⟩:=H;cases hp:p c
  ·rw[List.filter_cons_of_neg (by rw[hp];decide)];have h3:g c=true:=by rcases h1 with h|h;rw[hp] at h;cases h;exact h
   rw[h3] at h2;unfold iy;rw[h3,if_pos rfl,oI (st:=some f) h2];cases cs.filter p<;>rfl
  ·rw[List.filter_cons_of_pos hp];unfold iy;cases hg:g c
   ·rw[hg] at h2;rw[if_neg (by decide),if_neg (by decide),oI (st:=none) h2]
   ·rw[hg] at h2;rw[if_pos rfl,if_pos rfl,oI (st:=some f) h2]
def yF:∀{C D:List α},C.Pairwise (fun a b=>κ a<κ b)->D.Pairwise (fun a b=>κ a<κ b)->(∀x,x∈C↔x∈D)->C=D
 |[],[],_,_,_=>rfl
 |[],d::D,_,_,H=>absurd ((H d).2 (List.mem_cons_self ..)) (by simp)
 |c::C,[],_,_,H=>absurd ((H c).1 (List.mem_cons_self ..)) (by simp)
 |c::C,d::D,h1,h2,H=>by
  obtain⟨a1,a2⟩:=List.pairwise_cons.1 h1;obtain⟨b1,b2⟩:=List.pairwise_cons.1 h2;have e:c=d:=by
   have m1:=(H c).1 (List.mem_cons_self ..);have m2:=(H d).2 (List.mem_cons_self ..);rcases List.mem_cons.1 m1 with h|h
   ·exact h
   ·rcases List.mem_cons.1 m2 with h'|h'
    ·exact h'.symm
    ·have:=a1 d h';have:=b1 c h;omega
  subst e;refine congrArg (c:: ·) (yF a2 b2 fun x=>?_)
  constructor
  ·intro hx;rcases List.mem_cons.1 ((H x).1 (List.mem_cons_of_mem _ hx)) with h|h
   ·subst h;have:=a1 x hx;omega
   ·exact h
  ·intro hx;rcases List.mem_cons.1 ((H x).2 (List.mem_cons_of_mem _ hx)) with h|h
   ·subst h;have:=b1 x hx;omega
   ·exact h
def vS(κ:α->Int):List α->List α
 |[]=>[]
 |[x]=>[x]
 |x::y::l=>if κ x=κ y then vS κ (y::l) else x::vS κ (y::l)
def xC:∀{l:List α} {x:α},x∈vS κ l->x∈l
 |[],_,h=>h
 |[_],_,h=>h
 |x::y::l,z,h=>by
  unfold vS at h
  split at h
  ·exact List.mem_cons_of_mem _ (xC h)
  ·rcases List.mem_cons.1 h with h|h
   ·subst h;exact List.mem_cons_self ..
   ·exact List.mem_cons_of_mem _ (xC h)
def FT:∀{l:List α},l.Pairwise (fun a b=>κ a<=κ b)->(vS κ l).Pairwise (fun a b=>κ a<κ b)
 |[],_=>List.Pairwise.nil
 |[x],_=>List.pairwise_singleton ..
 |x::y::l,h=>by
  obtain⟨h1,h2⟩:=List.pairwise_cons.1 h;obtain⟨h3,_⟩:=List.pairwise_cons.1 h2;unfold vS
  split
  ·exact FT h2
  ·rename_i hne
   refine List.pairwise_cons.2 ⟨fun z hz=>?_,FT h2⟩;have hz':=xC hz;have:=h1 y (List.mem_cons_self ..);rcases List.mem_cons.1 hz' with e|e
   ·subst e;omega
   ·have:=h3 z e;omega
def Bf:∀{l:List α} {x:α},(∀a∈l,∀b∈l,κ a=κ b->a=b)->x∈l->x∈vS κ l
 |[],_,_,h=>h
 |[_],_,_,h=>h
 |x::y::l,z,H,h=>by
  have H':∀a∈y::l,∀b∈y::l,κ a=κ b->a=b:=fun a ha b hb=>H a (List.mem_cons_of_mem _ ha) b (List.mem_cons_of_mem _ hb)
  unfold vS
  split
  ·rename_i he
   rcases List.mem_cons.1 h with e|e
   ·subst e;have:=H z (List.mem_cons_self ..) y (List.mem_cons_of_mem _ (List.mem_cons_self ..)) he;subst this;exact Bf H' (List.mem_cons_self ..)
   ·exact Bf H' e
  ·rcases List.mem_cons.1 h with e|e
   ·subst e;exact List.mem_cons_self ..
   ·exact List.mem_cons_of_mem _ (Bf H' e)
def pG(κ:α->Int)(c:Int):List (α×Int×Int)->Int
 |[]=>0
 |e::l=>(if κ e.1<=c then e.2.1 else 0)+pG κ c l
def pI(κ:α->Int)(c:Int):List (α×Int×Int)->Int
 |[]=>0
 |e::l=>(if κ e.1<=c then e.2.2 else 0)+pI κ c l
def KN(κ:α->Int)(keep:Bool->Bool->Bool):List (α×Int×Int)->Int->Int->Option α->List (α×α)
 |[],_,_,_=>[]
 |[x],m,n,st=>
  match st,keep (decide (0<m+x.2.1)) (decide (0<n+x.2.2)) with
  |some f,false=>[(f,x.1)]
  |_,_=>[]
 |x::y::l,m,n,st=>
  if κ x.1=κ y.1 then KN κ keep (y::l) (m+x.2.1) (n+x.2.2) st else
  match st,keep (decide (0<m+x.2.1)) (decide (0<n+x.2.2)) with
  |none,true=>KN κ keep (y::l) (m+x.2.1) (n+x.2.2) (some x.1)
  |some f,false=>(f,x.1)::KN κ keep (y::l) (m+x.2.1) (n+x.2.2) none
  |st,_=>KN κ keep (y::l) (m+x.2.1) (n+x.2.2) st
def Nj{c:Int}:∀{l:List (α×Int×Int)},(∀e∈l,c<κ e.1)->pG κ c l=0∧pI κ c l=0
 |[],_=>⟨rfl,rfl⟩
 |e::l,h=>by
  have h1:=h e (List.mem_cons_self ..);obtain⟨a,b⟩:=Nj (l:=l) fun x hx=>h x (List.mem_cons_of_mem _ hx)
  unfold pG pI;rw[if_neg (by omega),if_neg (by omega),a,b];exact⟨rfl,rfl⟩
theorem Rh{keep:Bool->Bool->Bool}:∀{l:List (α×Int×Int)} {m n:Int} {st:Option α},l.Pairwise (fun a b=>κ a.1<=κ b.1)->
 KN κ keep l m n st=iy (fun c=>keep (decide (0<m+pG κ (κ c) l)) (decide (0<n+pI κ (κ c) l))) st (vS κ (l.map (·.1)))
 |[],m,n,none,_=>rfl
 |[],m,n,some _,_=>rfl
 |[x],m,n,st,_=>by
  unfold KN;show _=iy _ st [x.1];have e1:pG κ (κ x.1) [x]=x.2.1:=by simp[pG]
  have e2:pI κ (κ x.1) [x]=x.2.2:=(by simp[pI]);cases st
  ·unfold iy;rw[e1,e2];cases keep (decide (0<m+x.2.1)) (decide (0<n+x.2.2))<;>rfl
  ·unfold iy;rw[e1,e2];cases keep (decide (0<m+x.2.1)) (decide (0<n+x.2.2))<;>rfl
 |x::y::l,m,n,st,h=>by
  obtain⟨h1,h2⟩:=List.pairwise_cons.1 h;have hxy:=h1 y (List.mem_cons_self ..);have G:∀c,κ x.1<=κ c->keep (decide (0<m+pG κ (κ c) (x::y::l))) (decide (0<n+pI κ (κ c) (x::y::l)))=keep (decide (0<m+x.2.1+pG κ (κ c) (y::l))) (decide (0<n+x.2.2+pI κ (κ c) (y::l))):=fun c hc=>by
   rw[pG,pI,if_pos hc,if_pos hc,<-Int.add_assoc,<-Int.add_assoc]
  have hl:∀c∈vS κ (y.1::l.map (·.1)),κ x.1<=κ c:=fun c hc=>by
   obtain⟨e,he,rfl⟩:=List.mem_map.1 (show c∈(y::l).map (·.1) from xC hc);exact h1 e he
  have ih:=fun m n st=>Rh (keep:=keep) (m:=m) (n:=n) (st:=st) h2
  unfold KN;show _=iy _ st (vS κ (x.1::y.1::l.map (·.1)));unfold vS
  by_cases he:κ x.1=κ y.1
  ·rw[if_pos he,if_pos he,ih];exact oh fun c hc=>(G c (hl c hc)).symm
  ·rw[if_neg he,if_neg he];have hz:=Nj (κ:=κ) (c:=κ x.1) (l:=y::l) (fun e hel=>by
 rcases List.mem_cons.1 hel with e'|e'
 ·subst e';omega
 ·have:=(List.pairwise_cons.1 h2).1 e e';omega)
   have ex:keep (decide (0<m+pG κ (κ x.1) (x::y::l))) (decide (0<n+pI κ (κ x.1) (x::y::l)))=keep (decide (0<m+x.2.1)) (decide (0<n+x.2.2)):=by
    rw[G x.1 (Int.le_refl _),hz.1,hz.2,Int.add_zero,Int.add_zero]
   have ec:=fun st=>oh (st:=st) (C:=vS κ (y.1::l.map (fun e=>e.1))) fun c hc=>G c (hl c hc)
   have ih':=fun st=>(ih (m+x.2.1) (n+x.2.2) st).trans (ec st).symm
   cases st
   ·unfold iy;rw[ex];cases keep (decide (0<m+x.2.1)) (decide (0<n+x.2.2))
    ·exact ih' none
    ·exact ih' (some x.1)
   ·unfold iy;rw[ex];cases keep (decide (0<m+x.2.1)) (decide (0<n+x.2.2))
    ·exact congrArg _ (ih' none)
    ·exact ih' (some _)
end
end Go.Via
namespace Go.Via
open Go
structure Iv where
 f:Rl
 t:Rl
 fo:Bool
 tp:Bool
deriving DecidableEq
abbrev pO:=Rl×Bool
def G6(f l:pO):Iv:=⟨f.1,l.1,f.2,!l.2⟩
def Iv.b(i:Iv):pO:=(i.f,i.fo)
def Iv.e(i:Iv):pO:=(i.t,!i.tp)
structure fZ(S:Rl->Prop)(ρ:Rl->Int):Prop where
 lt:∀{x y},S x->S y->(bK x y<0↔ρ x<ρ y)
 gt:∀{x y},S x->S y->(0<bK x y↔ρ y<ρ x)
 inj:∀{x y},S x->S y->ρ x=ρ y->x=y
def aT(ρ:Rl->Int)(b:pO):Int:=2*ρ b.1+(if b.2=true then 1 else 0)
def Wh{S:Rl->Prop}{ρ:Rl->Int}(T:fZ S ρ){a b:pO}(ha:S a.1)(hb:S b.1)(h:aT ρ a=aT ρ b):a=b:=by
 obtain⟨x,c⟩:=a;obtain⟨y,d⟩:=b;unfold aT at h;dsimp only at*;have:ρ x=ρ y∧c=d:=by cases c<;>cases d<;>simp at h ⊢ <;>omega
 rw[T.inj ha hb this.1,this.2]
def wK(a b:pO):Int:=if bK a.1 b.1≠0 then bK a.1 b.1 else if a.2=b.2 then 0 else if b.2=true then-1 else 1
theorem Ri{S:Rl->Prop}{ρ:Rl->Int}(T:fZ S ρ){a b:pO}(ha:S a.1)(hb:S b.1):wK a b=zA (aT ρ a) (aT ρ b):=by
 have h1:=T.lt ha hb;have h2:=T.gt ha hb;have h3:=ui a.1 b.1;unfold wK zA aT;obtain⟨x,c⟩:=a;obtain⟨y,d⟩:=b;dsimp only at*
 generalize bK x y=z at*
 rcases h3 with h|h|h
 ·subst h;have:=h1.1 (by decide);rw[if_pos (by decide),if_pos (by cases c<;>cases d<;>simp<;>omega)]
 ·subst h;have e:ρ x=ρ y:=by
   have a1:¬ρ x<ρ y:=fun e=>absurd (h1.2 e) (by decide)
   have a2:¬ρ y<ρ x:=fun e=>absurd (h2.2 e) (by decide)
   omega
  rw[e,if_neg (by decide)];cases c<;>cases d<;>simp
  ·intro h;omega
  ·rw[if_neg (by omega),if_pos (by omega)]
 ·subst h;have:=h2.1 (by decide);rw[if_pos (by decide),if_neg (by cases c<;>cases d<;>simp<;>omega),if_pos (by cases c<;>cases d<;>simp<;>omega)]
def memB(ρ:Rl->Int)(l:List Iv)(c:Int):Bool:=l.any fun i=>decide (aT ρ i.b<=c)&&decide (c<aT ρ i.e)
def Nk(here:Rl->Bool)(btw:Rl->Rl->Bool):Option pO->List Rl->List (pO×pO)
 |_,[]=>[]
 |some f,[t]=>[(f,(t,here t))]
 |none,[t]=>if here t=true then[((t,false),(t,true))] else[]
 |some f,t::u::ts=>
  if here t=true then(if btw t u=true then Nk here btw (some f) (u::ts) else(f,(t,true))::Nk here btw none (u::ts))
  else(f,(t,false))::Nk here btw (if btw t u=true then some (t,true) else none) (u::ts)
 |none,t::u::ts=>
  if here t=true then(if btw t u=true then Nk here btw (some (t,false)) (u::ts) else((t,false),(t,true))::Nk here btw none (u::ts))
  else Nk here btw (if btw t u=true then some (t,true) else none) (u::ts)
def ni:List Rl->List pO
 |[]=>[]
 |t::ts=>(t,false)::(t,true)::ni ts
def qhK(here:Rl->Bool)(btw:Rl->Rl->Bool)(g:pO->Bool):List Rl->Prop
 |[]=>True
 |[t]=>g (t,false)=here t∧g (t,true)=false
 |t::u::ts=>g (t,false)=here t∧g (t,true)=btw t u∧qhK here btw g (u::ts)
theorem Eu{here:Rl->Bool}{btw:Rl->Rl->Bool}{g:pO->Bool}:∀{ts:List Rl} {st:Option pO},qhK here btw g ts->Nk here btw st ts=iy g st (ni ts)
 |[],none,_=>rfl
 |[],some _,_=>rfl
 |[t],none,h=>by
  obtain⟨h1,h2⟩:=h;unfold ni ni iy Nk;rw[h1];cases here t
  ·simp[iy,h2]
  ·simp[iy,h2]
 |[t],some f,h=>by
  obtain⟨h1,h2⟩:=h;unfold ni ni iy Nk;rw[h1];cases here t
  ·simp[iy,h2]
  ·simp[iy,h2]
 |t::u::ts,none,h=>by
  obtain⟨h1,h2,h3⟩:=h;have ih:=fun st=>Eu (st:=st) h3
  show _=iy g none ((t,false)::(t,true)::ni (u::ts));unfold Nk iy;rw[h1];cases here t
  ·simp only[Bool.false_eq_true,if_false];rw[ih];unfold iy;rw[h2];cases btw t u<;>rfl
  ·simp only[if_true];unfold iy;rw[h2];cases btw t u
   ·simp only[Bool.false_eq_true,if_false];rw[ih]
   ·simp only[if_true];rw[ih]
 |t::u::ts,some f,h=>by
  obtain⟨h1,h2,h3⟩:=h;have ih:=fun st=>Eu (st:=st) h3
  show _=iy g (some f) ((t,false)::(t,true)::ni (u::ts));unfold Nk iy;rw[h1];cases here t
  ·simp only[Bool.false_eq_true,if_false];rw[ih];unfold iy;rw[h2];cases btw t u<;>rfl
  ·simp only[if_true];unfold iy;rw[h2];cases btw t u
   ·simp only[Bool.false_eq_true,if_false];rw[ih]
   ·simp only[if_true];rw[ih]
def BO(l:List Iv):List (pO×Int×Int):=l.flatMap fun i=>[(i.b,1,0),(i.e,-1,0)]
def G7(l:List Iv):List (pO×Int×Int):=l.flatMap fun i=>[(i.b,0,1),(i.e,0,-1)]
theorem Gx{α:Type}{κ:α->Int}{c:Int}:∀{l m:List (α×Int×Int)},pG κ c (l++m)=pG κ c l+pG κ c m
 |[],m=>by simp[pG]
 |e::l,m=>by simp only[List.cons_append,pG];rw[Gx (l:=l)];omega
theorem Gy{α:Type}{κ:α->Int}{c:Int}:∀{l m:List (α×Int×Int)},pI κ c (l++m)=pI κ c l+pI κ c m
 |[],m=>by simp[pI]
 |e::l,m=>by simp only[List.cons_append,pI];rw[Gy (l:=l)];omega
def qa1{α:Type}{κ:α->Int}{c:Int}{l m:List (α×Int×Int)}(h:l.Perm m):pG κ c l=pG κ c m∧pI κ c l=pI κ c m:=by
 induction h with
 |nil=>exact⟨rfl,rfl⟩
 |cons x _ ih=>unfold pG pI;rw[ih.1,ih.2];exact⟨rfl,rfl⟩
 |swap x y l=>simp only[pG,pI];omega
 |trans _ _ ih1 ih2=>exact⟨ih1.1.trans ih2.1,ih1.2.trans ih2.2⟩
def FU(ρ:Rl->Int)(l:List Iv):Prop:=∀i∈l,aT ρ i.b<aT ρ i.e
def FU.tail{ρ:Rl->Int}{i:Iv}{l:List Iv}(h:FU ρ (i::l)):FU ρ l:=fun x hx=>h x (List.mem_cons_of_mem _ hx)
def Wi{ρ:Rl->Int}{c:Int}:∀{l:List Iv},FU ρ l->0<=pG (aT ρ) c (BO l)∧(0<pG (aT ρ) c (BO l)↔memB ρ l c=true)∧pI (aT ρ) c (BO l)=0
 |[],_=>by simp[BO,pG,pI,memB]
 |i::l,h=>by
  obtain⟨h1,h2,h3⟩:=Wi (c:=c) h.tail;have hi:=h i (List.mem_cons_self ..);have e:BO (i::l)=(i.b,1,0)::(i.e,-1,0)::BO l:=rfl;rw[e];unfold pG pI pG pI;dsimp only;have em:memB ρ (i::l) c=((decide (aT ρ i.b<=c)&&decide (c<aT ρ i.e))||memB ρ l c):=rfl;rw[em,h3,Bool.or_eq_true,Bool.and_eq_true,decide_eq_true_eq,decide_eq_true_eq,<-h2]
  by_cases a1:aT ρ i.b<=c
  ·by_cases a2:aT ρ i.e<=c
   ·rw[if_pos a1,if_pos a2,if_pos a1,if_pos a2];omega
   ·rw[if_pos a1,if_neg a2,if_pos a1,if_neg a2];omega
  ·rw[if_neg a1,if_neg (by omega),if_neg a1,if_neg (by omega)];omega
def Wj{ρ:Rl->Int}{c:Int}:∀{l:List Iv},FU ρ l->0<=pI (aT ρ) c (G7 l)∧(0<pI (aT ρ) c (G7 l)↔memB ρ l c=true)∧pG (aT ρ) c (G7 l)=0
 |[],_=>by simp[G7,pG,pI,memB]
 |i::l,h=>by
  obtain⟨h1,h2,h3⟩:=Wj (c:=c) h.tail;have hi:=h i (List.mem_cons_self ..);have e:G7 (i::l)=(i.b,0,1)::(i.e,0,-1)::G7 l:=rfl;rw[e];unfold pG pI pG pI;dsimp only;have em:memB ρ (i::l) c=((decide (aT ρ i.b<=c)&&decide (c<aT ρ i.e))||memB ρ l c):=rfl;rw[em,h3,Bool.or_eq_true,Bool.and_eq_true,decide_eq_true_eq,decide_eq_true_eq,<-h2]
  by_cases a1:aT ρ i.b<=c
  ·by_cases a2:aT ρ i.e<=c
   ·rw[if_pos a1,if_pos a2,if_pos a1,if_pos a2];omega
   ·rw[if_pos a1,if_neg a2,if_pos a1,if_neg a2];omega
  ·rw[if_neg a1,if_neg (by omega),if_neg a1,if_neg (by omega)];omega
theorem qeB{ρ:Rl->Int}{a b:List Iv}{keep:Bool->Bool->Bool}{l:List (pO×Int×Int)}(ha:FU ρ a)(hb:FU ρ b)(hp:l.Perm (BO a++G7 b))(hs:l.Pairwise (fun x y=>aT ρ x.1<=aT ρ y.1)):
 KN (aT ρ) keep l 0 0 none=iy (fun c=>keep (memB ρ a (aT ρ c)) (memB ρ b (aT ρ c))) none (vS (aT ρ) (l.map (·.1))):=by
 rw[Rh hs];refine oh fun c _=>?_
 obtain⟨e1,e2⟩:=qa1 (κ:=aT ρ) (c:=aT ρ c) hp;obtain⟨_,a2,a3⟩:=Wi (c:=aT ρ c) ha;obtain⟨_,b2,b3⟩:=Wj (c:=aT ρ c) hb;rw[e1,e2,Gx,Gy,a3,b3,Int.zero_add,Int.zero_add,Int.add_zero,Int.zero_add]
 congr 1
 ·rw[Bool.eq_iff_iff,decide_eq_true_eq];exact a2
 ·rw[Bool.eq_iff_iff,decide_eq_true_eq];exact b2
end Go.Via
