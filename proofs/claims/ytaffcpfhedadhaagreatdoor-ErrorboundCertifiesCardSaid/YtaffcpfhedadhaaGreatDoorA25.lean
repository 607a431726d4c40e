/-
  Part 25 (chapter 32): lemmas, walks. Each theorem states its own conditions.
-/
import Derived.Test.YtaffcpfhedadhaaGreatDoorA06
import Derived.Test.YtaffcpfhedadhaaGreatDoorA09
import Derived.Test.YtaffcpfhedadhaaGreatDoorA11
import Derived.Test.YtaffcpfhedadhaaGreatDoorA12
import Derived.Test.YtaffcpfhedadhaaGreatDoorA13
import Derived.Test.YtaffcpfhedadhaaGreatDoorA18
import Derived.Test.YtaffcpfhedadhaaGreatDoorA22
import Derived.Test.YtaffcpfhedadhaaGreatDoorA24
set_option linter.all false
set_option maxRecDepth 20000
set_option maxHeartbeats 20000000
namespace Go.Proofs.YtaffcpfhedadhaaGreatDoor
variable[Go.Via.Mo]
open Go Go.RowKit Go.Via
def EK(n d:Int)(hd:d≠0:=by omega)(hn:jm n<=8388608:=by omega)(hdn:jm d<=8388608:=by omega):aH Tryz.prog 64 #[I n,I d] (Q (Rat.divInt n d)):=by
 refine nG 16 Tryz.func64 fun w=>?_;refine A2 ?_;refine Bp 2 (fun g0=>?_);refine Bp 2 (fun g1=>?_);refine Al 4 oM (fun g2=>?_);refine A3 ?_;refine Dp [] [0,1,2,3,4,5,7,6,8,9,10,11] ?_;refine A4 ?_;refine oG rfl u4 rfl rfl rfl ?_;refine L2 0 0 ?_;refine L2 1 0 ?_;refine(Sc []) (mJ n (Nat.le_trans hn (Nat.le_of_ble_eq_true rfl))) (fun xn=>?_);refine(Sc []) (mJ d (Nat.le_trans hdn (Nat.le_of_ble_eq_true rfl))) (fun xd=>?_);refine(Bu [(0,_),(1,_),(2,_)]) (vG) ?_;refine(Sd [3,4]) (iJ n.natAbs d.natAbs (decide (n<0) !=decide (d<0)) (by omega) (Nat.le_trans hn (Nat.le_of_ble_eq_true rfl)) (Nat.le_trans hdn (Nat.le_of_ble_eq_true rfl)) xn xd) ?_;refine aQ 15 (Q (Rat.divInt n d)) rfl (congrArg Q (qev n d hd)) ?_;refine Ss 2 ?_;refine A3 ?_;refine Dz 2 ?_;exact rfl
def vW(z:Int)(h1: -9223372036854775808<=z:=by omega)(h2:z<=9223372036854775807:=by omega):aH Tryz.prog 65 #[.int .i64 z] (I z):=by
 have hnb:nb z.natAbs<=8:=ng (by omega);refine uX 25 Tryz.func65 fun w=>?_;refine A2 ?_;refine Al 2 wG (fun g0=>?_);refine AL ?_;refine El (ι:={x:Nat×Option Nat×Nat×Nat // x.1<=nb z.natAbs∧x.1<=x.2.2.2∧x.2.2.2<=x.2.2.1}) (fun⟨⟨i,ob,oN,oc⟩,hi,h3,h4⟩=>([(0,.int .i64 z),(2,dD g0),(3,az ob 0 i oc),(4,.int .i64 (im z i))],[⟨some g0,34,[aO,aP],2,true⟩,⟨ob,3,NV .i64 (row i (BN z.natAbs)),oN,true⟩],nb z.natAbs-i)) ⟨(0,none,0,0),Nat.zero_le _,Nat.le_refl _,Nat.le_refl _⟩ ?_ (ht:=⟨rfl,rfl,rfl,(aG rfl (congrArg (Value.int .i64) (qeO z).symm)),trivial⟩) (hL:=(ak [some 0,none] ⟨pR,⟨rfl,rfl,rfl⟩,trivial⟩ rfl rfl));rintro⟨⟨i,ob,oN,oc⟩,hi,h3,h4⟩;(try dsimp only);replace hi:i<=nb z.natAbs:=hi;replace h3:i<=oc:=h3;replace h4:oc<=oN:=h4;have hdg:=zO z.natAbs i;refine A7 ?_;refine Cd ?_ ?_<;>intro haQ
 ·have hlt:=qjS haQ;refine A6 ?_;refine(Dv (imR z i)) (congrArg some (qeP z i)) ?_;refine kN ?_;refine Cd ?_ ?_<;>intro hbQ
  ·have HB12:=hbQ;refine A2 ?_;refine(Aq ((BN z.natAbs i:Nat):Int)) (congrArg some (qeQ (of_decide_eq_true HB12))) ?_;refine A7 ?_;refine(Bl 1 [(0,_)]) (nT) (fun g1=>?_);refine kZ (s:=1) (len:=i) (n2:=1) 1 2 (fun r=>[_,⟨some r.g,3,NV .i64 (row (i+1) (BN z.natAbs)),r.n,true⟩,⟨some g1,3,_,1,true⟩]) nM el3 rfl rfl rfl rfl rfl rfl rfl rfl rfl rfl rfl rfl (by rw[aW,ax];omega) (by omega) (by show oc*1<=oN;omega) rfl (Go.Via.one_cell _ _) (by omega) (fun r=>congrArg (fun c=>[_,(⟨some r.g,3,c,r.n,true⟩:aC),⟨some g1,3,_,1,true⟩]) (AZ _ _ _ _ (rfl))) (fun r=>?_);refine A5 ?_;refine(Dv (im z (i+1))) (congrArg some (Wy z i h1 h2)) ?_;refine A4 ?_;exact Nl ⟨(i+1,some r.g,r.n,r.cap),hlt,r.h,by have:=r.hn;show r.cap<=r.n;omega⟩ (hμ:=(by show nb z.natAbs-(i+1)<nb z.natAbs-i;omega)) (hL:=eH.auto)
  ·refine bZ 5 (aZ (BN z.natAbs i)) rfl (congrArg (Value.int .i64) (qeR (of_decide_eq_false hbQ))) ?_;refine A6 ?_;refine(Bl 1 [(0,_)]) (nT) (fun g1=>?_);refine kZ (s:=1) (len:=i) (n2:=1) 1 2 (fun r=>[_,⟨some r.g,3,NV .i64 (row (i+1) (BN z.natAbs)),r.n,true⟩,⟨some g1,3,_,1,true⟩]) nM el3 rfl rfl rfl rfl rfl rfl rfl rfl rfl rfl rfl rfl (by rw[aW,ax];omega) (by omega) (by show oc*1<=oN;omega) rfl (Go.Via.one_cell _ _) (by omega) (fun r=>congrArg (fun c=>[_,(⟨some r.g,3,c,r.n,true⟩:aC),⟨some g1,3,_,1,true⟩]) (AZ _ _ _ _ (rfl))) (fun r=>?_);refine A5 ?_;refine(Dv (im z (i+1))) (congrArg some (Wy z i h1 h2)) ?_;refine A4 ?_;exact Nl ⟨(i+1,some r.g,r.n,r.cap),hlt,r.h,by have:=r.hn;show r.cap<=r.n;omega⟩ (hμ:=(by show nb z.natAbs-(i+1)<nb z.natAbs-i;omega)) (hL:=eH.auto)
 ·have hge:=qhS haQ hi;subst hge;refine kN ?_;refine gU [_,_] [1] rfl rfl rfl (jR z.natAbs (decide (z<0)) (by omega) ⟨ob,oN,oc,h3⟩) ⟨⟨_,rfl,⟨rfl,rfl,rfl,⟨nb z.natAbs,by rw[Jv,List.take_of_length_le (by rw[aW,dw];exact Nat.le_refl _)]⟩,fun h=>by cases h⟩⟩,trivial⟩ rfl ?_;refine aQ 24 (I z) rfl (congrArg I (by by_cases hz:z<0<;>simp[hz]<;>omega)) ?_;refine Ss 0 ?_;refine A3 ?_;refine PY 0 ?_;exact rfl
def iP(a b:Int)(ha1: -9223372036854775808<=a:=by omega)(ha2:a<=9223372036854775807:=by omega)(hb1: -9223372036854775808<=b:=by omega)(hb2:b<=9223372036854775807:=by omega)(hb0:b≠0:=by omega):aH Tryz.prog 24 #[.int .i64 a,.int .i64 b] (Q (Rat.divInt a b)):=by
 refine nG 10 Tryz.func24 fun w=>?_;refine A2 ?_;refine Al 4 oM (fun g0=>?_);refine A5 ?_;refine Pc (vW a ha1 ha2) ?_;refine A1 ?_;refine Pc (vW b hb1 hb2) ?_;refine Pc (EK a b hb0 (qgg ha1 ha2) (qgg hb1 hb2)) ?_;refine Ss 0 ?_;refine A3 ?_;refine Dz 0 ?_;exact rfl
def zY(q:Rat):aH Tryz.prog 67 #[Q q] (Q (-q)):=by
 refine uX 16 Tryz.func67 fun w=>?_;refine A2 ?_;refine Bp 4 (fun g0=>?_);refine Al 4 oM (fun g1=>?_);refine A9 ?_;refine Rs 7 ?_ ?_<;>intro haQ
 ·refine A7 ?_;refine Ss 0 ?_;refine A4 ?_;refine L4 0 0 ?_;refine Ss 1 ?_;refine A3 ?_;refine Dz 1 ?_;exact congrArg Ending.returned (qhU haQ)
 ·refine A7 ?_;refine Ss 0 ?_;refine A4 ?_;refine L4 0 0 ?_;refine Ss 1 ?_;refine A3 ?_;refine Dz 1 ?_;exact congrArg Ending.returned (qhV haQ)
end Go.Proofs.YtaffcpfhedadhaaGreatDoor
namespace Go.Proofs.YtaffcpfhedadhaaGreatDoor
variable[Go.Via.Mo]
open Go Go.RowKit Go.Via
def gZ(p q:Rat)(hp:bV p<=4194303:=by omega)(hq:bV q<=4194303:=by omega):aH Tryz.prog 63 #[Q p,Q q] (Q (p+q)):=by
 have e1:=I8 hp;have e2:=I9 hp;have e3:=I8 hq;have e4:=I9 hq;have m1:=nX p.num.natAbs q.num.natAbs;have m2:=nX p.num.natAbs q.den;have m3:=nX q.num.natAbs p.den;have m4:=nX p.den q.den;have m5:=nX p.den q.num.natAbs;have dp:0<p.den:=Nat.pos_of_ne_zero p.den_nz;have dq:0<q.den:=Nat.pos_of_ne_zero q.den_nz;have dpq:0<p.den*q.den:=Nat.mul_pos dp dq;have m6:=zx (p.num.natAbs*q.den) (q.num.natAbs*p.den);have m7:nb (p.num.natAbs*q.den-q.num.natAbs*p.den)<=nb (p.num.natAbs*q.den):=gK (Nat.sub_le _ _);have m8:nb (q.num.natAbs*p.den-p.num.natAbs*q.den)<=nb (q.num.natAbs*p.den):=gK (Nat.sub_le _ _);refine nG 64 Tryz.func63 fun w=>?_;refine A2 ?_;refine Bp 4 (fun g0=>?_);refine Bp 4 (fun g1=>?_);refine Al 4 oM (fun g2=>?_);refine A3 ?_;refine Dq [3000000] [0,2,1,3,4,5,6,7] ?_;refine L4 0 0 ?_;refine L4 1 0 ?_;refine jr [_] [] rfl rfl rfl (uu p (Nat.le_trans hp (Nat.le_of_ble_eq_true rfl))) trivial rfl (.inr qbe) (fun x=>?_);refine jr [_] [] rfl rfl rfl (uu q (Nat.le_trans hq (Nat.le_of_ble_eq_true rfl))) trivial rfl (.inr qbe) (fun y=>?_);refine Al 3 XP (fun g3=>?_);refine Al 3 XP (fun g4=>?_);refine Ss 7 ?_;refine Ss 8 ?_;refine A3 ?_;refine Dp [] [0,1,2,3,5,6,7,8,4,9,10,11] ?_;refine A8 ?_;refine(Sc [3,6]) (jf (p.num.natAbs) (q.den) (by omega) (by omega) x.1 y.2) (fun zP=>?_);refine(Sc [5,4]) (jf (q.num.natAbs) (p.den) (by omega) (by omega) y.1 x.2) (fun zQ=>?_);refine kN ?_;refine(Sc [4,6]) (jf (p.den) (q.den) (by omega) (by omega) x.2 y.2) (fun zD=>?_);refine pq ?_;refine AA rfl u4 rfl rfl rfl ?_;refine A3 ?_;refine Cd ?_ ?_<;>intro haQ
 ·have hs:=haQ;refine A1 ?_;refine Dp [] [0,1,2,3,5,4,6,7,8] ?_;refine A5 ?_;refine(Sc [9,10]) (jF (p.num.natAbs*q.den) (q.num.natAbs*p.den) (by omega) (by omega) zP zQ) (fun zS=>?_);refine(Bu [(0,_),(1,_),(2,_)]) (vG) ?_;refine(Sd [12,11]) (iJ (p.num.natAbs*q.den+q.num.natAbs*p.den) (p.den*q.den) (decide (p.num<0)) dpq (by omega) (by omega) zS zD) ?_;refine aQ 42 (Q (p+q)) rfl (congrArg Q (qew p q hs)) ?_;refine Ss 2 ?_;refine A5 ?_;refine Dz 2 ?_;exact rfl
 ·have hs:=haQ;refine A4 ?_;refine(Sd [9,10]) (eP (p.num.natAbs*q.den) (q.num.natAbs*p.den) (by omega) zP zQ) ?_;refine A4 ?_;refine Cd ?_ ?_<;>intro hbQ
  ·have hle:q.num.natAbs*p.den<=p.num.natAbs*q.den:=kJ.1 (of_decide_eq_true hbQ);refine A1 ?_;refine Dp [] [0,1,2,3,5,4,6,7,8] ?_;refine A5 ?_;refine(Sc [9,10]) (lD (p.num.natAbs*q.den) (q.num.natAbs*p.den) (by omega) hle zP zQ) (fun zS=>?_);refine(Bu [(0,_),(1,_),(2,_)]) (vG) ?_;refine(Sd [12,11]) (iJ (p.num.natAbs*q.den-q.num.natAbs*p.den) (p.den*q.den) (decide (p.num<0)) dpq (by omega) (by omega) zS zD) ?_;refine aQ 55 (Q (p+q)) rfl (congrArg Q (qex p q hs hle)) ?_;refine Ss 2 ?_;refine A5 ?_;refine Dz 2 ?_;exact rfl
  ·have hle:p.num.natAbs*q.den<=q.num.natAbs*p.den:=by have:=of_decide_eq_false hbQ;rw[kJ] at this;omega
   refine A4 ?_;refine Dp [] [0,1,2,3,5,4,6,7,8] ?_;refine A5 ?_;refine(Sc [10,9]) (lD (q.num.natAbs*p.den) (p.num.natAbs*q.den) (by omega) hle zQ zP) (fun zS=>?_);refine(Bu [(0,_),(1,_),(2,_)]) (vG) ?_;refine(Sd [12,11]) (iJ (q.num.natAbs*p.den-p.num.natAbs*q.den) (p.den*q.den) (decide (q.num<0)) dpq (by omega) (by omega) zS zD) ?_;refine aQ 63 (Q (p+q)) rfl (congrArg Q (qey p q hs hle)) ?_;refine Ss 2 ?_;refine A3 ?_;refine Dz 2 ?_;exact rfl
end Go.Proofs.YtaffcpfhedadhaaGreatDoor
namespace Go.Via
open Go Go.RowKit
def qbh{b:Bool}{s:ByteArray}(h:pF b s=false):∃z:Int,b=decide (z<0)∧s=bH z.natAbs:=by
 unfold pF at h;rw[Bool.or_eq_false_iff] at h;obtain⟨h1,h2⟩:=h;have hs:bH (lW s.data.toList)=s:=ZO (s:=s) (fun e=>by rw[e] at h2;cases h2)
 by_cases h0:lW s.data.toList=0
 ·refine⟨0,?_,?_⟩
  ·rw[h0,iQ] at hs;rw[<-hs,FB] at h1
   simpa using h1
  ·rw[h0] at hs;rw[<-hs];rfl
 ·refine⟨if b then-(lW s.data.toList:Int) else lW s.data.toList,?_,?_⟩
  ·cases b
   ·simp only[Bool.false_eq_true,if_false];rw[decide_eq_false (by omega)]
   ·simp only[if_true];rw[decide_eq_true (by omega)]
  ·cases b
   ·simpa using hs.symm
   ·simpa using hs.symm
noncomputable def YG(b1:Bool)(s1:ByteArray)(b2:Bool)(s2:ByteArray):Bool:= @decide (∃q:Rat,Value.agg #[.bool b1,.string s1,.bool b2,.string s2]=Q q) (Classical.propDecidable _)
theorem Ik{b1:Bool}{s1:ByteArray}{b2:Bool}{s2:ByteArray}:YG b1 s1 b2 s2=true↔∃q:Rat,b1=decide (q.num<0)∧s1=bH q.num.natAbs∧b2=false∧s2=dm q:=by
 unfold YG;rw[@decide_eq_true_iff _ (Classical.propDecidable _)]
 constructor
 ·rintro⟨q,h⟩;unfold Q at h;simp only[Value.agg.injEq,Array.mk.injEq,List.cons.injEq,Value.bool.injEq,Value.string.injEq,and_true] at h;exact⟨q,h⟩
 ·rintro⟨q,rfl,rfl,rfl,rfl⟩;exact⟨q,rfl⟩
def Il{b1:Bool}{s1:ByteArray}{b2:Bool}{s2:ByteArray}(h:¬∃q:Rat,b1=decide (q.num<0)∧s1=bH q.num.natAbs∧b2=false∧s2=dm q):YG b1 s1 b2 s2=false:=by
 rw[<-Ik] at h;simpa using h
theorem qbi(z:Int):pF (decide (z<0)) (bH z.natAbs)=false:=by
 unfold pF;rw[Bool.or_eq_false_iff];refine⟨?_,?_⟩
 ·rw[mW]
  by_cases h:z.natAbs=0
  ·have:z=0:=by omega
   subst this;rfl
  ·simp[h]
 ·have:=ZP z.natAbs;unfold qdq at this
  simpa using this
theorem qhW(q:Rat):pF false (dm q)=false:=by
 have h1:(0:Int)<=q.den:=(by omega);unfold dm
 split
 ·unfold pF;rfl
 ·have:=qbi (q.den:Int)
  rwa [decide_eq_false (by omega),Int.natAbs_natCast] at this
theorem qjT{b1:Bool}{s1:ByteArray}{b2:Bool}{s2:ByteArray}(h:pF b1 s1=true):YG b1 s1 b2 s2=false:=Il fun⟨q,h1,h2,_,_⟩=>by
 rw[h1,h2,qbi] at h;cases h
theorem qjU{b1:Bool}{s1:ByteArray}{b2:Bool}{s2:ByteArray}(h:pF b2 s2=true):YG b1 s1 b2 s2=false:=Il fun⟨q,h1,h2,h3,h4⟩=>by
 rw[h3,h4,qhW] at h;cases h
def qjV{b1:Bool}{s1:ByteArray}{s2:ByteArray}:YG b1 s1 true s2=false:=Il fun⟨q,h1,h2,h3,h4⟩=>by cases h3
theorem qjW{b1:Bool}{s1:ByteArray}{s2:ByteArray}(h:pF b1 s1=false)(h2:s2=⟨#[]⟩):YG b1 s1 false s2=true:=by
 obtain⟨z,rfl,rfl⟩:=qbh h;exact Ik.2 ⟨(z:Rat),by rw[Rat.num_intCast],by rw[Rat.num_intCast],rfl,by unfold dm;rw[Rat.den_intCast,if_pos rfl,h2]⟩
def EL{m n:Nat}(h:bH m=bH n):m=n:=Ox.1 h
def qhX{z:Int}{d:Nat}(hd:0<d)(h:Nat.gcd z.natAbs d=1):∃q:Rat,q.num=z∧q.den=d:=⟨⟨z,d,by omega,h⟩,rfl,rfl⟩
def qeS{z:Int}{d:Nat}(hd:0<d)(h1:d≠1)(h:Nat.gcd z.natAbs d=1):YG (decide (z<0)) (bH z.natAbs) false (bH d)=true:=by
 obtain⟨q,rfl,rfl⟩:=qhX hd h;exact Ik.2 ⟨q,rfl,rfl,rfl,by unfold dm;rw[if_neg h1]⟩
def qbj{z:Int}{d:Nat}(hd:0<d)(h:d=1∨Nat.gcd z.natAbs d≠1){b:Bool}:YG b (bH z.natAbs) false (bH d)=false:=Il fun⟨q,h1,h2,h3,h4⟩=>by
 unfold dm at h4;have h2:=EL h2
 split at h4
 ·rename_i h5
  have:bH d=bH 0:=(by rw[h4,iQ]);have:=EL this;omega
 ·rename_i h5
  have:=EL h4;subst this;rcases h with h|h
  ·exact h5 h
  ·exact h (by rw[h2];exact q.reduced)
def qgi{b:Bool}{s:ByteArray}(h:((if pF b s=true then(5:Int) else 0) !=0)=false):pF b s=false:=by
 cases hb:pF b s
 ·rfl
 ·rw[hb] at h;cases h
def qgj{b:Bool}{s:ByteArray}(h:((if pF b s=true then(5:Int) else 0) !=0)=true):pF b s=true:=by
 cases hb:pF b s
 ·rw[hb] at h;cases h
 ·rfl
def qhY{b:Bool}{s:ByteArray}(h:((b==false)&&(s==⟨#[]⟩))=true):b=false∧s=⟨#[]⟩:=by
 rw[Bool.and_eq_true] at h;exact⟨eq_of_beq h.1,qaG h.2⟩
def qhZ{z:Int}(h:((decide (z<0)==false)&&(bH z.natAbs==⟨#[]⟩))=false):z≠0:=fun e=>by
 subst e;rw[show(0:Int).natAbs=0 from rfl,iQ,FB] at h;cases h
def qbk{e:Int}(h:decide (zA e 1<=0)=true):e<=1:=by
 have:=of_decide_eq_true h;unfold zA at this
 by_cases h1:e<1
 ·omega
 ·rw[if_neg h1] at this
  by_cases h2:1<e
  ·rw[if_pos h2] at this;omega
  ·omega
def qbl{e:Int}(h:decide (zA e 1<=0)=false):1<e:=by
 have:=of_decide_eq_false h;unfold zA at this
 by_cases h1:e<1
 ·rw[if_pos h1] at this;omega
 ·rw[if_neg h1] at this
  by_cases h2:1<e
  ·exact h2
  ·rw[if_neg h2] at this;omega
theorem qjX{z e:Int}(h0:e≠0)(h:e<=1):YG (decide (z<0)) (bH z.natAbs) (decide (e<0)) (bH e.natAbs)=false:=by
 by_cases hn:e<0
 ·rw[decide_eq_true hn];exact qjV
 ·rw[decide_eq_false hn];exact qbj (by omega) (.inl (by omega))
def qeT{z e:Int}(h:(!((decide (((Int.gcd z e:Nat):Int)<0)==decide ((1:Int)<0))&&(bH ((Int.gcd z e:Nat):Int).natAbs==bH (1:Int).natAbs)))=true):Int.gcd z e≠1:=fun e1=>by
 rw[e1] at h;simp[yg] at h
def qeU{z e:Int}(h:(!((decide (((Int.gcd z e:Nat):Int)<0)==decide ((1:Int)<0))&&(bH ((Int.gcd z e:Nat):Int).natAbs==bH (1:Int).natAbs)))=false):Int.gcd z e=1:=by
 rw[Bool.not_eq_false',Bool.and_eq_true,yg] at h;have:=EL (of_decide_eq_true h.2)
 simpa using this
theorem qjY{z e:Int}(h:1<e)(hg:Int.gcd z e≠1):YG (decide (z<0)) (bH z.natAbs) (decide (e<0)) (bH e.natAbs)=false:=by
 rw[decide_eq_false (show¬e<0 by omega)];exact qbj (by omega) (.inr hg)
theorem qh0{z e:Int}(h:1<e)(hg:Int.gcd z e=1):YG (decide (z<0)) (bH z.natAbs) (decide (e<0)) (bH e.natAbs)=true:=by
 rw[decide_eq_false (show¬e<0 by omega)];exact qeS (by omega) (by omega) hg
end Go.Via
namespace Go.Proofs.YtaffcpfhedadhaaGreatDoor
variable[Go.Via.Mo]
open Go Go.RowKit Go.Via
def ql(z:Int):aH Tryz.prog 165 #[I z] (I (-z)):=by
 refine uX 9 Tryz.func165 fun w=>?_;refine A2 ?_;refine Bp 2 (fun g0=>?_);refine Al 2 wG (fun g1=>?_);refine A9 ?_;refine Pc (dC _ _) ?_;refine Ss 1 ?_;refine A3 ?_;refine PY 1 ?_;exact congrArg (fun z=>Ending.returned (I z)) (TR z)
def wR(a b:Int)(ha:jm a<=67108864:=by omega)(hb:jm b<=67108864:=by omega):aH Tryz.prog 190 #[I a,I b] (I (a+b)):=by
 refine nG 42 Tryz.func190 fun w=>?_;refine A2 ?_;refine Bp 2 (fun g0=>?_);refine Bp 2 (fun g1=>?_);refine Al 2 wG (fun g2=>?_);refine kN ?_;refine AA rfl u4 rfl rfl rfl ?_;refine A3 ?_;refine Cd ?_ ?_<;>intro haQ
 ·refine A1 ?_;refine Di [] ?_;refine A6 ?_;refine Pc (wO _ _ ha hb) ?_;refine Pc (dC _ _) ?_;refine Ss 2 ?_;refine A5 ?_;refine PY 2 ?_;exact congrArg (fun z=>Ending.returned (I z)) (Qv a b haQ)
 ·refine A6 ?_;refine Pc (lM _ _) ?_;refine A4 ?_;refine Cd ?_ ?_<;>intro hbQ
  ·refine A1 ?_;refine Di [] ?_;refine A6 ?_;refine Pc (wP _ _ ha (Vp _ _ hbQ)) ?_;refine Pc (dC _ _) ?_;refine Ss 2 ?_;refine A5 ?_;refine PY 2 ?_;exact congrArg (fun z=>Ending.returned (I z)) (L6 a b haQ (Vp _ _ hbQ))
  ·refine A4 ?_;refine Di [] ?_;refine A6 ?_;refine Pc (wP _ _ hb (Vq _ _ hbQ)) ?_;refine Pc (dC _ _) ?_;refine Ss 2 ?_;refine A3 ?_;refine PY 2 ?_;exact congrArg (fun z=>Ending.returned (I z)) (Mc a b haQ (Vq _ _ hbQ))
def lF(a b:Int)(ha:jm a<=67108864:=by omega)(hb:jm b<=67108864:=by omega):aH Tryz.prog 123 #[I a,I b] (I (a*b)):=by
 refine nG 16 Tryz.func123 fun w=>?_;refine A2 ?_;refine Bp 2 (fun g0=>?_);refine Bp 2 (fun g1=>?_);refine Al 2 wG (fun g2=>?_);refine A3 ?_;refine Di [] ?_;refine A4 ?_;refine oG rfl u4 rfl rfl rfl ?_;refine A4 ?_;refine Pc (BR _ _ ha hb) ?_;refine Pc (dC _ _) ?_;refine Ss 2 ?_;refine A3 ?_;refine PY 2 ?_;exact congrArg (fun z=>Ending.returned (I z)) (Vr a b)
def xK(a b:Int)(ha:jm a<=33554432:=by omega)(hb:jm b<=33554432:=by omega)(h0:b≠0:=by omega):aH Tryz.prog 201 #[I a,I b] (.tuple #[I (a/b),I (a%b),.int .i64 0]):=by
 have szle:nb a.natAbs<=67108864:=Nat.le_trans ha (Nat.le_of_ble_eq_true rfl);have szle2:nb b.natAbs<=67108864:=Nat.le_trans hb (Nat.le_of_ble_eq_true rfl);refine nG 43 Tryz.func201 fun w=>?_;refine A2 ?_;refine Bp 2 (fun g0=>?_);refine Bp 2 (fun g1=>?_);refine Al 2 wG (fun g2=>?_);refine Al 2 wG (fun g3=>?_);refine pq ?_;refine Cd ?_ ?_<;>intro haQ
 ·exact absurd haQ (by rw[mW];simp;omega)
 ·refine A8 ?_;refine dL [_,_] rfl rfl rfl (qJ _ _ (by first|assumption|grind [fJ,fK,fM,fO,fP,fB,fC,cO,bU,aS,fF,dX,lY]) (by first|assumption|grind [fJ,fK,fM,fO,fP,fB,fC,cO,bU,aS,fF,dX,lY])) ?_;refine D5 ?_;refine Rs 24 ?_ ?_<;>intro hbQ
  ·refine A5 ?_;refine Cd ?_ ?_<;>intro hcQ
   ·refine Dp [] [0,2,3,4,1,5,6,7] ?_;refine A4 ?_;refine dL [_,.string (bH 1)] rfl rfl (by rw[qdr];rfl) (wO _ _ (Nat.le_trans (wC _ _) (Nat.le_trans ha (Nat.le_of_ble_eq_true rfl))) (Nat.le_trans (ng (k:=1) (by omega)) (Nat.le_of_ble_eq_true rfl))) ?_;refine dL [_,_] rfl rfl rfl (wP _ _ (by first|assumption|grind [fJ,fK,fM,fO,fP,fB,fC,cO,bU,aS,fF,dX,lY]) (Nat.le_of_lt (Nat.mod_lt _ (by omega)))) ?_;refine kN ?_;refine oG rfl u4 rfl rfl rfl ?_;refine A1 ?_;refine Pc (dC _ _) ?_;refine A1 ?_;refine Pc (dC _ _) ?_;refine Ss 2 ?_;refine Ss 3 ?_;refine A4 ?_;refine x9 rfl (bn 2 rfl rfl yl (vs:=[_,_]) rfl rfl (Nat.le_of_ble_eq_true rfl) rfl) (bn 3 rfl rfl yl (vs:=[_,_]) rfl rfl (Nat.le_of_ble_eq_true rfl) rfl) (aj rfl) (fun w hL=>⟨?_,hL.below⟩);have e:=ZU (a:=a) (b:=b) h0 (by simpa using hbQ) (by rw[sZ] at hcQ;simpa using hcQ);rw[<-e.1,<-e.2];rfl
   ·refine A8 ?_;refine oG rfl u4 rfl rfl rfl ?_;refine A1 ?_;refine Pc (dC _ _) ?_;refine A1 ?_;refine Pc (dC _ _) ?_;refine Ss 2 ?_;refine Ss 3 ?_;refine A4 ?_;refine x9 rfl (bn 2 rfl rfl yl (vs:=[_,_]) rfl rfl (Nat.le_of_ble_eq_true rfl) rfl) (bn 3 rfl rfl yl (vs:=[_,_]) rfl rfl (Nat.le_of_ble_eq_true rfl) rfl) (aj rfl) (fun w hL=>⟨?_,hL.below⟩);have e:=Qx (a:=a) (b:=b) h0 (.inr (by rw[sZ] at hcQ;simpa using hcQ));rw[<-e.1,<-e.2];rfl
  ·refine D6 ?_;refine oG rfl u4 rfl rfl rfl ?_;refine A1 ?_;refine Pc (dC _ _) ?_;refine A1 ?_;refine Pc (dC _ _) ?_;refine Ss 2 ?_;refine Ss 3 ?_;refine A4 ?_;refine x9 rfl (bn 2 rfl rfl yl (vs:=[_,_]) rfl rfl (Nat.le_of_ble_eq_true rfl) rfl) (bn 3 rfl rfl yl (vs:=[_,_]) rfl rfl (Nat.le_of_ble_eq_true rfl) rfl) (aj rfl) (fun w hL=>⟨?_,hL.below⟩);have e:=Qx (a:=a) (b:=b) h0 (.inl (by simpa using hbQ));rw[<-e.1,<-e.2];rfl
def mM:aH Tryz.prog 156 #[] (I 1):=by
 refine pB0 2 Tryz.func156 fun w=>?_;refine A2 ?_;refine Al 2 wG (fun g0=>?_);refine A4 ?_;refine Pc (lQ 1) ?_;refine Ss 0 ?_;refine A3 ?_;refine PY 0 ?_;exact rfl
def kz(a b:Int)(ha:jm a<=33554432:=by omega)(hb:jm b<=33554432:=by omega)(h0:b≠0:=by omega):aH Tryz.prog 166 #[I a,I b] (I (a/b)):=by
 refine nG 16 Tryz.func166 fun w=>?_;refine A2 ?_;refine Bp 2 (fun g0=>?_);refine Bp 2 (fun g1=>?_);refine Al 2 wG (fun g2=>?_);refine A4 ?_;refine L2 0 0 ?_;refine L2 1 0 ?_;refine Pc (xK a b ha hb h0) ?_;refine A4 ?_;refine Al 2 wG (fun g3=>?_);refine Al 2 wG (fun g4=>?_);refine Ss 3 ?_;refine Ss 4 ?_;refine A5 ?_;refine L2 3 0 ?_;refine Ss 2 ?_;refine A3 ?_;refine PY 2 ?_;exact rfl
def jG(n d:Int)(hn:jm n<=8388608:=by omega)(hd:jm d<=8388608:=by omega)(h0:d≠0:=by omega):aH Tryz.prog 122 #[I n,I d] (Q (Rat.divInt n d)):=by
 refine nG 29 Tryz.func122 fun w=>?_;refine A2 ?_;refine Bp 2 (fun g0=>?_);refine Bp 2 (fun g1=>?_);refine Al 4 oM (fun g2=>?_);refine A5 ?_;refine L2 1 0 ?_;refine Pc (mG _) ?_;refine A3 ?_;refine Cd ?_ ?_<;>intro haQ
 ·refine Dp [] [0,2,1,3,4,5] ?_;refine L2 0 0 ?_;refine L2 1 0 ?_;refine Pc (ql _) ?_;refine Pc (ql _) ?_;refine Ss 0 ?_;refine Ss 1 ?_;refine A4 ?_;refine L2 0 0 ?_;refine L2 1 0 ?_;refine dL [_,_] rfl rfl rfl (wQ _ _ (by first|assumption|grind [fJ,fK,fM,fO,fP,fB,fC,cO,bU,aS,fF,dX,lY]) (by first|assumption|grind [fJ,fK,fM,fO,fP,fB,fC,cO,bU,aS,fF,dX,lY])) ?_;refine Al 2 wG (fun g3=>?_);refine Ss 3 ?_;refine A3 ?_;refine Dp [] [0,1,3,4,2,5,6,7] ?_;refine L2 0 0 ?_;refine L2 3 0 ?_;refine L2 1 0 ?_;refine L2 3 0 ?_;refine dL [_,_] rfl rfl rfl (kz _ _ (by first|assumption|grind [fJ,fK,fM,fO,fP,fB,fC,cO,bU,aS,fF,dX,lY]) (by first|assumption|grind [fJ,fK,fM,fO,fP,fB,fC,cO,bU,aS,fF,dX,lY]) (OA (by omega))) ?_;refine dL [_,_] rfl rfl rfl (kz _ _ (by first|assumption|grind [fJ,fK,fM,fO,fP,fB,fC,cO,bU,aS,fF,dX,lY]) (by first|assumption|grind [fJ,fK,fM,fO,fP,fB,fC,cO,bU,aS,fF,dX,lY]) (OA (by omega))) ?_;refine Ss 0 ?_;refine Ss 1 ?_;refine A4 ?_;refine Di [] ?_;refine L2 1 0 ?_;refine Pc (mM) ?_;refine fH rfl rfl rfl rfl XR (qjA _ _) ?_;refine A2 ?_;refine Cd ?_ ?_<;>intro hbQ
  ·refine A1 ?_;refine(Bu []) (FC) ?_;refine Ss 1 ?_;refine A4 ?_;refine L2 0 0 ?_;refine L2 1 0 ?_;refine(Bu [(0,_),(1,_)]) (zH) ?_;refine Ss 2 ?_;refine A3 ?_;refine Dz 2 ?_;exact congrArg Ending.returned ((Oy (n:= -n) (d:= -d) (by have:=Vs haQ;omega) (by simpa using hbQ)).trans (by rw[Rat.neg_divInt_neg]))
  ·refine A4 ?_;refine L2 0 0 ?_;refine L2 1 0 ?_;refine(Bu [(0,_),(1,_)]) (zH) ?_;refine Ss 2 ?_;refine A3 ?_;refine Dz 2 ?_;exact congrArg Ending.returned ((Oz (n:= -n) (d:= -d) (by have:=Vs haQ;omega) (by simpa using hbQ)).trans (by rw[Rat.neg_divInt_neg]))
 ·refine A4 ?_;refine L2 0 0 ?_;refine L2 1 0 ?_;refine dL [_,_] rfl rfl rfl (wQ _ _ (by first|assumption|grind [fJ,fK,fM,fO,fP,fB,fC,cO,bU,aS,fF,dX,lY]) (by first|assumption|grind [fJ,fK,fM,fO,fP,fB,fC,cO,bU,aS,fF,dX,lY])) ?_;refine Al 2 wG (fun g3=>?_);refine Ss 3 ?_;refine A3 ?_;refine Dp [] [0,1,3,4,2,5,6,7] ?_;refine L2 0 0 ?_;refine L2 3 0 ?_;refine L2 1 0 ?_;refine L2 3 0 ?_;refine dL [_,_] rfl rfl rfl (kz _ _ (by first|assumption|grind [fJ,fK,fM,fO,fP,fB,fC,cO,bU,aS,fF,dX,lY]) (by first|assumption|grind [fJ,fK,fM,fO,fP,fB,fC,cO,bU,aS,fF,dX,lY]) (OA (by omega))) ?_;refine dL [_,_] rfl rfl rfl (kz _ _ (by first|assumption|grind [fJ,fK,fM,fO,fP,fB,fC,cO,bU,aS,fF,dX,lY]) (by first|assumption|grind [fJ,fK,fM,fO,fP,fB,fC,cO,bU,aS,fF,dX,lY]) (OA (by omega))) ?_;refine Ss 0 ?_;refine Ss 1 ?_;refine A4 ?_;refine Di [] ?_;refine L2 1 0 ?_;refine Pc (mM) ?_;refine fH rfl rfl rfl rfl XR (qjA _ _) ?_;refine A2 ?_;refine Cd ?_ ?_<;>intro hbQ
  ·refine A1 ?_;refine(Bu []) (FC) ?_;refine Ss 1 ?_;refine A4 ?_;refine L2 0 0 ?_;refine L2 1 0 ?_;refine(Bu [(0,_),(1,_)]) (zH) ?_;refine Ss 2 ?_;refine A3 ?_;refine Dz 2 ?_;exact congrArg Ending.returned (Oy (Vt haQ h0) (by simpa using hbQ))
  ·refine A4 ?_;refine L2 0 0 ?_;refine L2 1 0 ?_;refine(Bu [(0,_),(1,_)]) (zH) ?_;refine Ss 2 ?_;refine A3 ?_;refine Dz 2 ?_;exact congrArg Ending.returned (Oz (Vt haQ h0) (by simpa using hbQ))
def uw(q:Rat):aH Tryz.prog 145 #[Q q] (Q (-q)):=by
 refine uX 9 Tryz.func145 fun w=>?_;refine A2 ?_;refine Bp 4 (fun g0=>?_);refine Al 4 oM (fun g1=>?_);refine A3 ?_;refine Dp [] [0,1,3,4,2,5,6] ?_;refine A1 ?_;refine L2 0 0 ?_;refine A1 ?_;refine L2 0 2 ?_;refine Pc (ql _) ?_;refine(Bu [(0,_),(1,_)]) (zH) ?_;refine Ss 1 ?_;refine A3 ?_;refine Dz 1 ?_;exact rfl
def yM(n d:Int)(hn:jm n<=8388608:=by omega)(hd:jm d<=8388608:=by omega):aH Tryz.prog 213 #[I n,I d] (.tuple #[Q (Rat.divInt n d),.int .i64 (if d=0 then 6 else 0)]):=by
 refine nG 13 Tryz.func213 fun w=>?_;refine A2 ?_;refine Bp 2 (fun g0=>?_);refine Bp 2 (fun g1=>?_);refine Al 4 oM (fun g2=>?_);refine A6 ?_;refine L2 1 0 ?_;refine Pc (mG _) ?_;refine A3 ?_;refine Cd ?_ ?_<;>intro haQ
 ·refine A2 ?_;refine(Bu []) (yt) ?_;refine Ss 2 ?_;refine A5 ?_;refine bF rfl (bn 2 rfl rfl BG (vs:=[_,_,_,_]) rfl rfl (Nat.le_of_ble_eq_true rfl) rfl) (aj rfl) (fun w hL=>⟨?_,hL.below⟩);have e:d=0:=by simpa using haQ
  subst e;rw[Rat.divInt_zero,if_pos rfl,yh]
 ·refine A4 ?_;refine L2 0 0 ?_;refine L2 1 0 ?_;refine dL [_,_] rfl rfl rfl (jG _ _ hn hd (fun e=>absurd (show(d.sign==0)=true by rw[e];rfl) (by rw[haQ];decide))) ?_;refine Ss 2 ?_;refine A4 ?_;refine bF rfl (bn 2 rfl rfl BG (vs:=[_,_,_,_]) rfl rfl (Nat.le_of_ble_eq_true rfl) rfl) (aj rfl) (fun w hL=>⟨?_,hL.below⟩);rw[if_neg (fun e=>absurd (show(d.sign==0)=true by rw[e];rfl) (by rw[haQ];decide))];rfl
def fU(z:Int)(h1: -9223372036854775808<=z:=by omega)(h2:z<=9223372036854775807:=by omega):aH Tryz.prog 132 #[.int .i64 z] (Q (z:Rat)):=by
 refine uX 6 Tryz.func132 fun w=>?_;refine A2 ?_;refine Al 4 oM (fun g0=>?_);refine A5 ?_;refine dL [_] rfl rfl rfl (lQ _) ?_;refine(Bu [(0,_)]) (qhd) ?_;refine Ss 0 ?_;refine A3 ?_;refine Dz 0 ?_;exact rfl
end Go.Proofs.YtaffcpfhedadhaaGreatDoor
namespace Go.Proofs.YtaffcpfhedadhaaGreatDoor
variable[Go.Via.Mo]
open Go Go.RowKit Go.Via
def kL(p q:Rat)(hp:bV p<=4194303:=by omega)(hq:bV q<=4194303:=by omega):aH Tryz.prog 55 #[Q p,Q q] (Q (p-q)):=by
 refine nG 9 Tryz.func55 fun w=>?_;refine A2 ?_;refine Bp 4 (fun g0=>?_);refine Bp 4 (fun g1=>?_);refine Al 4 oM (fun g2=>?_);refine A3 ?_;refine Di [] ?_;refine L4 0 0 ?_;refine L4 1 0 ?_;refine Pc (zY q) ?_;refine Pc (gZ p (-q) hp (Nat.le_trans (dX q) hq)) ?_;refine Ss 2 ?_;refine A3 ?_;refine Dz 2 ?_;exact congrArg (fun z=>Ending.returned (Q z)) (Rat.sub_eq_add_neg p q).symm
end Go.Proofs.YtaffcpfhedadhaaGreatDoor
namespace Go.Proofs.YtaffcpfhedadhaaGreatDoor
variable[Go.Via.Mo]
open Go Go.RowKit Go.Via
def jH(q:Rat):aH Tryz.prog 66 #[Q q] (.int .i64 q.num.sign):=by
 refine uX 12 Tryz.func66 fun w=>?_;refine A2 ?_;refine Bp 4 (fun g0=>?_);refine D6 ?_;refine Cd ?_ ?_<;>intro haQ
 ·refine A8 ?_;refine E0 ?_;exact congrArg (fun z=>Ending.returned (.int .i64 z)) (Md q.num haQ)
 ·refine A8 ?_;refine Cd ?_ ?_<;>intro hbQ
  ·refine A8 ?_;refine E0 ?_;exact congrArg (fun z=>Ending.returned (.int .i64 z)) (sign_neg q.num hbQ)
  ·refine A9 ?_;refine E0 ?_;exact congrArg (fun z=>Ending.returned (.int .i64 z)) (Qw q.num haQ hbQ)
def Ha(p q:Rat)(hp:bV p<=4194303:=by omega)(hq:bV q<=4194303:=by omega):aH Tryz.prog 160 #[Q p,Q q] (.int .i64 (nD p q)):=by
 refine nG 9 Tryz.func160 fun w=>?_;refine A2 ?_;refine Bp 4 (fun g0=>?_);refine Bp 4 (fun g1=>?_);refine A5 ?_;refine L4 0 0 ?_;refine L4 1 0 ?_;refine Pc (kL p q hp hq) ?_;refine Pc (jH (p-q)) ?_;refine A4 ?_;refine E0 ?_;exact congrArg (fun z=>Ending.returned (.int .i64 z)) (Rf p q)
def FZ(b1:Bool)(s1:ByteArray)(b2:Bool)(s2:ByteArray)(hs1:s1.size<=5000:=by omega)(hs2:s2.size<=5000:=by omega):aH Tryz.prog 105 #[.agg #[.bool b1,.string s1,.bool b2,.string s2]] (.int .i64 (if YG b1 s1 b2 s2=true then 0 else 5)):=by
 refine uX 31 Tryz.func105 fun w=>?_;refine A2 ?_;refine Bp 4 (fun g0=>?_);refine A7 ?_;refine L2 0 0 ?_;refine Pc (yL b1 s1) ?_;refine A2 ?_;refine Rs 7 ?_ ?_<;>intro haQ
 ·have hI1:pF b1 s1=true:=qgj haQ;refine AL ?_;refine E0 ?_;rw[qjT hI1];rfl
 ·have hI1:pF b1 s1=false:=qgi haQ;refine A1 ?_;refine L2 0 2 ?_;refine Pc (yL b2 s2) ?_;refine A4 ?_;refine Cd ?_ ?_<;>intro hbQ
  ·have hI2:pF b2 s2=true:=qgj hbQ;refine A7 ?_;refine E0 ?_;rw[qjU hI2];rfl
  ·have hI2:pF b2 s2=false:=qgi hbQ;refine A6 ?_;refine L2 0 2 ?_;refine(Bu []) (FC) ?_;refine fH rfl rfl rfl rfl XR (QB _ _ _ _) ?_;refine A2 ?_;refine Cd ?_ ?_<;>intro hcQ
   ·obtain⟨hcQ,he2⟩:=qhY hcQ;refine A7 ?_;refine E0 ?_;rw[hcQ,qjW hI1 he2];rfl
   ·obtain⟨z,rfl,rfl⟩:=qbh hI1;obtain⟨e,rfl,rfl⟩:=qbh hI2;have he0:=qhZ hcQ;rw[lg] at hs1 hs2;have hz1:jm z<=5000:=hs1;have hz2:jm e<=5000:=hs2;refine A4 ?_;refine Di [] ?_;refine A1 ?_;refine L2 0 2 ?_;refine Pc (mM) ?_;refine Pc (vV e 1) ?_;refine A2 ?_;refine Rs 22 ?_ ?_<;>intro hdQ
    ·have hle:e<=1:=qbk hdQ;refine A18 ?_;refine E0 ?_;rw[qjX he0 hle];rfl
    ·have hle:1<e:=qbl hdQ;refine A1 ?_;refine L2 0 0 ?_;refine A1 ?_;refine L2 0 2 ?_;refine Pc (wQ z e) ?_;refine Pc (mM) ?_;refine DT rfl rfl rfl rfl XR (QB _ _ _ _) ?_;refine A3 ?_;refine Cd ?_ ?_<;>intro heQ
     ·have hg:=qeT heQ;refine A7 ?_;refine E0 ?_;rw[qjY hle hg];rfl
     ·have hg:=qeU heQ;refine A8 ?_;refine E0 ?_;rw[qh0 hle hg];rfl
end Go.Proofs.YtaffcpfhedadhaaGreatDoor
namespace Go.Proofs.YtaffcpfhedadhaaGreatDoor
open Go Go.RowKit Go.Via
def zZ(n:Nat)(hn:nb n<=33554432:=by omega):aH Tryz.prog 200 #[.string (bH n)] (.string (bH (bQ n))):=by
 have hb8:=RF n;have hk8:=RG n;refine uX 50 Tryz.func200 fun w=>?_;refine lw ?_;refine Cd ?_ ?_<;>intro haQ
 ·have h0:n=0:=YF haQ;refine A7 ?_;refine E0 ?_;subst h0;rw[show bQ 0=0 from rfl,iQ]
 ·have h0:n≠0:=UK haQ;have hp:=CP h0;refine A6 ?_;refine aQ 12 (aZ (nb n)) rfl (by rw[lg]) ?_;refine Ar (((nb n-1:Nat):Int)) ?_;refine Ar (((8*(nb n-1):Nat):Int)) ?_;refine A1 ?_;refine y8 (b:=UInt8.ofNat (yT n)) (r:=((yT n:Nat):Int)) u9 rfl rfl rfl rfl (by omega) (TU n 0 hp) (OC _) ?_;refine Pc (RN (yT n) (Ph n)) ?_;refine Ar (((8*(nb n-1)+Lib.bitLen (yT n):Nat):Int)) ?_;refine A6 ?_;refine Ar (((8*(nb n-1)+Lib.bitLen (yT n)+1:Nat):Int)) ?_;refine(Dv ((kK n:Nat):Int)) (by exact(congrArg some (DX _ 2 rfl rfl (by omega)))) ?_;refine A4 ?_;refine IW (X:=Nat) (l':=[⟨_,_,_,_,_,_⟩,⟨_,_,_,_,_,_⟩,⟨_,_,_,_,_,_⟩,⟨_,_,_,_,_,_⟩,⟨_,_,_,_,_,_⟩]) (fun g=>[(0,.string (bH n)),(4,.string (lm (RD (kK n))))]) (fun g=>[⟨some g,5,[.int .u8 (2^(kK n%8):Nat)],1,true⟩]) [0,1,2,5,6] 5 mixed (by kernel_rfl) rfl ?_ ?_
  ·refine A1 ?_;refine(Dv ((kK n%8:Nat):Int)) (congrArg some (jy _ _ rfl rfl)) ?_;refine(Sv ((2^(kK n%8):Nat):Int)) (by exact(congrArg some (qeM _ rfl (Nat.mod_lt _ (by omega))))) ?_;refine A1 ?_;refine(Dv ((kK n/8:Nat):Int)) (by exact(congrArg some (DX _ 8 rfl rfl (by omega)))) ?_;refine A1 ?_
   repeat' first
    |exact⟨g0,rfl,⟨rfl,rfl,trivial⟩,List.Perm.refl _⟩
    |refine Oh ?_
    |refine y9 (l:=[2^(kK n%8)]) 0 Ua u5 u9 rfl rfl rfl rfl rfl rfl rfl rfl ?_
    |refine dL [_,_] rfl rfl rfl (FY (kK n/8)) ?_
    |refine Uc (p:=[UInt8.ofNat (2^(kK n%8))]) (q:=List.replicate (kK n/8) 0) rfl rfl rfl rfl rfl rfl rfl (by rw[List.length_replicate];show 1+kK n/8<=_;omega) ?_
    |refine IG rfl rfl rfl ?_
    |refine(Bl 1 [(0,_)]) (qdS) (fun g0=>?_)
    |refine ZJ (by decide+kernel) ?_
    |refine iW [8] (by decide+kernel) rfl ⟨⟨_,rfl,?_⟩,trivial⟩
    |refine iW [9] (by decide+kernel) rfl ⟨⟨_,rfl,?_⟩,trivial⟩
    |refine iW [4] (by decide+kernel) rfl ⟨⟨_,rfl,?_⟩,trivial⟩
    |refine iW [3,7] (by decide+kernel) rfl ⟨⟨_,rfl,?_⟩,⟨_,rfl,?_⟩,trivial⟩
    |refine iW [4,7] (by decide+kernel) rfl ⟨⟨_,rfl,?_⟩,⟨_,rfl,?_⟩,trivial⟩
    |refine iW [7] (by decide+kernel) rfl ⟨⟨_,rfl,?_⟩,trivial⟩
    |refine iW [3] (by decide+kernel) rfl ⟨⟨_,rfl,?_⟩,trivial⟩
  rintro g;show At _ ⟨50,[(0,.string (bH n)),(4,.string (lm (RD (kK n))))],[⟨some g,5,[.int .u8 (2^(kK n%8):Nat)],1,true⟩]⟩ _;refine A2 ?_;refine El (ι:={x:Nat // RH n x}) (fun⟨x,hx⟩=>([(0,.string (bH n)),(4,.string (bH x))],[],x)) ⟨2^kK n,RI h0⟩ ?_ (ht:=⟨rfl,(aG rfl (congrArg Value.string (Wn _))),trivial⟩) (hL:=(ak [] trivial rfl rfl));rintro⟨x,hx⟩;(try dsimp only);have hx3:=hx.2.2;refine A5 ?_;refine Pc (qJ n x (by omega) (by omega) (by have:=hx.1;omega)) ?_;refine pq ?_;refine Pc (wO x (n/x) (by omega) (by have:=wC n x;omega)) ?_;refine dL [_,.string (bH 2)] rfl rfl (by rw[qeL];rfl) (qJ (x+n/x) 2 (by have:=wC n x;have:=zx x (n/x);omega) (by have:=ng (n:=2) (k:=1) (by decide);omega) (by decide)) ?_;refine lw ?_;refine Pc (lM _ _) ?_;refine A3 ?_;refine Cd ?_ ?_<;>intro hbQ
  ·have hge:¬(x+n/x)/2<x:=kJ.1 (of_decide_eq_true hbQ)|>Nat.not_lt.2;refine pq ?_;refine E0 ?_;rw[YE hx hge]
  ·have hlt:(x+n/x)/2<x:=Nat.lt_of_not_le fun e=>of_decide_eq_false hbQ (kJ.2 e)
   refine A8 ?_;exact Nl ⟨(x+n/x)/2,UJ h0 hx hlt⟩ (hμ:=hlt)
end Go.Proofs.YtaffcpfhedadhaaGreatDoor
namespace Go.Proofs.YtaffcpfhedadhaaGreatDoor
variable[Go.Via.Mo]
open Go Go.RowKit Go.Via
def dF(p q:Rat)(hp:bV p<=4194303:=by omega)(hq:bV q<=4194303:=by omega):aH Tryz.prog 27 #[Q p,Q q] (Q (p*q)):=by
 have e1:=I8 hp;have e2:=I9 hp;have e3:=I8 hq;have e4:=I9 hq;have m1:=nX p.num.natAbs q.num.natAbs;have m2:=nX p.num.natAbs q.den;have m3:=nX q.num.natAbs p.den;have m4:=nX p.den q.den;have m5:=nX p.den q.num.natAbs;have dp:0<p.den:=Nat.pos_of_ne_zero p.den_nz;have dq:0<q.den:=Nat.pos_of_ne_zero q.den_nz;have dpq:0<p.den*q.den:=Nat.mul_pos dp dq;refine nG 28 Tryz.func27 fun w=>?_;refine A2 ?_;refine Bp 4 (fun g0=>?_);refine Bp 4 (fun g1=>?_);refine Al 4 oM (fun g2=>?_);refine A3 ?_;refine Dq [3000000] [0,2,1,3,4,5,6,7] ?_;refine L4 0 0 ?_;refine L4 1 0 ?_;refine jr [_] [] rfl rfl rfl (uu p (Nat.le_trans hp (Nat.le_of_ble_eq_true rfl))) trivial rfl (.inr qbe) (fun x=>?_);refine jr [_] [] rfl rfl rfl (uu q (Nat.le_trans hq (Nat.le_of_ble_eq_true rfl))) trivial rfl (.inr qbe) (fun y=>?_);refine Al 3 XP (fun g3=>?_);refine Al 3 XP (fun g4=>?_);refine Ss 7 ?_;refine Ss 8 ?_;refine A3 ?_;refine Dp [] [0,1,2,3,4,5,6,7,8,10,11,12,13,9,14,15,16,17] ?_;refine A4 ?_;refine oG rfl u4 rfl rfl rfl ?_;refine A8 ?_;refine(Sc [3,5]) (jf (p.num.natAbs) (q.num.natAbs) (by omega) (by omega) x.1 y.1) (fun zn=>?_);refine(Sc [4,6]) (jf (p.den) (q.den) (by omega) (by omega) x.2 y.2) (fun zd=>?_);refine(Bu [(0,_),(1,_),(2,_)]) (vG) ?_;refine(Sd [9,10]) (iJ (p.num.natAbs*q.num.natAbs) (p.den*q.den) (decide (p.num<0) !=decide (q.num<0)) dpq (by omega) (by omega) zn zd) ?_;refine aQ 27 (Q (p*q)) rfl (congrArg Q (qhI p q)) ?_;refine Ss 2 ?_;refine A3 ?_;refine Dz 2 ?_;exact rfl
end Go.Proofs.YtaffcpfhedadhaaGreatDoor
