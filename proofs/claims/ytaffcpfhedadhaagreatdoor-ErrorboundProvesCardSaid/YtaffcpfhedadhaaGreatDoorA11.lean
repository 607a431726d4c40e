/-
  Part 11 (chapter 32): lemmas, walks. Each theorem states its own conditions.
-/
import Derived.Test.YtaffcpfhedadhaaGreatDoorA03
import Derived.Test.YtaffcpfhedadhaaGreatDoorA04
import Derived.Test.YtaffcpfhedadhaaGreatDoorA05
import Derived.Test.YtaffcpfhedadhaaGreatDoorA06
import Derived.Test.YtaffcpfhedadhaaGreatDoorA08
import Derived.Test.YtaffcpfhedadhaaGreatDoorA10
set_option linter.all false
set_option maxRecDepth 20000
set_option maxHeartbeats 20000000
namespace Go.Proofs.YtaffcpfhedadhaaGreatDoor
variable[Go.Via.Mo]
open Go Go.RowKit Go.Via
def iG(p q:Rat)(hp:dw p<=4194303:=by omega)(hq:dw q<=4194303:=by omega):aP Tryz.prog 63 #[Q p,Q q] (Q (p+q)):=by
 have e1:=Jz hp;have e2:=JA hp;have e3:=Jz hq;have e4:=JA hq;have m1:=oQ p.num.natAbs q.num.natAbs;have m2:=oQ p.num.natAbs q.den;have m3:=oQ q.num.natAbs p.den;have m4:=oQ p.den q.den;have m5:=oQ p.den q.num.natAbs;have dp:0<p.den:=Nat.pos_of_ne_zero p.den_nz;have dq:0<q.den:=Nat.pos_of_ne_zero q.den_nz;have dpq:0<p.den*q.den:=Nat.mul_pos dp dq;have m6:=zV (p.num.natAbs*q.den) (q.num.natAbs*p.den);have m7:nb (p.num.natAbs*q.den-q.num.natAbs*p.den)<=nb (p.num.natAbs*q.den):=ik (Nat.sub_le _ _);have m8:nb (q.num.natAbs*p.den-p.num.natAbs*q.den)<=nb (q.num.natAbs*p.den):=ik (Nat.sub_le _ _);refine oG 64 Tryz.func63 fun w=>?_;refine A2 ?_;refine Bp 4 (fun g0=>?_);refine Bp 4 (fun g1=>?_);refine Al 4 qU (fun g2=>?_);refine A3 ?_;refine Dq [3000000] [0,2,1,3,4,5,6,7] ?_;refine L4 0 0 ?_;refine L4 1 0 ?_;refine iM [_] [] rfl rfl rfl (ve p (Nat.le_trans hp (Nat.le_of_ble_eq_true rfl))) trivial rfl (.inr qaX) (fun x=>?_);refine iM [_] [] rfl rfl rfl (ve q (Nat.le_trans hq (Nat.le_of_ble_eq_true rfl))) trivial rfl (.inr qaX) (fun y=>?_);refine Al 3 XW (fun g3=>?_);refine Al 3 XW (fun g4=>?_);refine Ss 7 ?_;refine Ss 8 ?_;refine A3 ?_;refine Dp [] [0,1,2,3,5,6,7,8,4,9,10,11] ?_;refine A8 ?_;refine(Sc [3,6]) (jy (p.num.natAbs) (q.den) (by omega) (by omega) x.1 y.2) (fun zP=>?_);refine(Sc [5,4]) (jy (q.num.natAbs) (p.den) (by omega) (by omega) y.1 x.2) (fun zQ=>?_);refine lm ?_;refine(Sc [4,6]) (jy (p.den) (q.den) (by omega) (by omega) x.2 y.2) (fun zD=>?_);refine oO ?_;refine FP rfl u4 rfl rfl rfl ?_;refine A3 ?_;refine Cd ?_ ?_<;>intro hb0
 ·have hs:=hb0;refine A1 ?_;refine Dp [] [0,1,2,3,5,4,6,7,8] ?_;refine A5 ?_;refine(Sc [9,10]) (jZ (p.num.natAbs*q.den) (q.num.natAbs*p.den) (by omega) (by omega) zP zQ) (fun zS=>?_);refine(Bu [(0,_),(1,_),(2,_)]) (wC) ?_;refine(Sd [12,11]) (iW (p.num.natAbs*q.den+q.num.natAbs*p.den) (p.den*q.den) (decide (p.num<0)) dpq (by omega) (by omega) zS zD) ?_;refine aT 42 (Q (p+q)) rfl (congrArg Q (qed p q hs)) ?_;refine Ss 2 ?_;refine A5 ?_;refine G6 2 ?_;exact rfl
 ·have hs:=hb0;refine A4 ?_;refine(Sd [9,10]) (fU (p.num.natAbs*q.den) (q.num.natAbs*p.den) (by omega) zP zQ) ?_;refine A4 ?_;refine Cd ?_ ?_<;>intro hb1
  ·have hle:q.num.natAbs*p.den<=p.num.natAbs*q.den:=lu.1 (of_decide_eq_true hb1);refine A1 ?_;refine Dp [] [0,1,2,3,5,4,6,7,8] ?_;refine A5 ?_;refine(Sc [9,10]) (lV (p.num.natAbs*q.den) (q.num.natAbs*p.den) (by omega) hle zP zQ) (fun zS=>?_);refine(Bu [(0,_),(1,_),(2,_)]) (wC) ?_;refine(Sd [12,11]) (iW (p.num.natAbs*q.den-q.num.natAbs*p.den) (p.den*q.den) (decide (p.num<0)) dpq (by omega) (by omega) zS zD) ?_;refine aT 55 (Q (p+q)) rfl (congrArg Q (qee p q hs hle)) ?_;refine Ss 2 ?_;refine A5 ?_;refine G6 2 ?_;exact rfl
  ·have hle:p.num.natAbs*q.den<=q.num.natAbs*p.den:=by have:=of_decide_eq_false hb1;rw[lu] at this;omega
   refine A4 ?_;refine Dp [] [0,1,2,3,5,4,6,7,8] ?_;refine A5 ?_;refine(Sc [10,9]) (lV (q.num.natAbs*p.den) (p.num.natAbs*q.den) (by omega) hle zQ zP) (fun zS=>?_);refine(Bu [(0,_),(1,_),(2,_)]) (wC) ?_;refine(Sd [12,11]) (iW (q.num.natAbs*p.den-p.num.natAbs*q.den) (p.den*q.den) (decide (q.num<0)) dpq (by omega) (by omega) zS zD) ?_;refine aT 63 (Q (p+q)) rfl (congrArg Q (qef p q hs hle)) ?_;refine Ss 2 ?_;refine A3 ?_;refine G6 2 ?_;exact rfl
end Go.Proofs.YtaffcpfhedadhaaGreatDoor
namespace Go.Via
open Go Go.RowKit
def qa1{b:Bool}{s:ByteArray}(h:qB b s=false):∃z:Int,b=decide (z<0)∧s=bQ z.natAbs:=by
 unfold qB at h;rw[Bool.or_eq_false_iff] at h;obtain⟨h1,h2⟩:=h;have hs:bQ (mZ s.data.toList)=s:=ZK (s:=s) (fun e=>by rw[e] at h2;cases h2)
 by_cases h0:mZ s.data.toList=0
 ·refine⟨0,?_,?_⟩
  ·rw[h0,je] at hs;rw[<-hs,FY] at h1
   simpa using h1
  ·rw[h0] at hs;rw[<-hs];rfl
 ·refine⟨if b then-(mZ s.data.toList:Int) else mZ s.data.toList,?_,?_⟩
  ·cases b
   ·simp only[Bool.false_eq_true,if_false];rw[decide_eq_false (by omega)]
   ·simp only[if_true];rw[decide_eq_true (by omega)]
  ·cases b
   ·simpa using hs.symm
   ·simpa using hs.symm
noncomputable def YC(b1:Bool)(s1:ByteArray)(b2:Bool)(s2:ByteArray):Bool:= @decide (∃q:Rat,Value.agg #[.bool b1,.string s1,.bool b2,.string s2]=Q q) (Classical.propDecidable _)
def I4{b1:Bool}{s1:ByteArray}{b2:Bool}{s2:ByteArray}:YC b1 s1 b2 s2=true↔∃q:Rat,b1=decide (q.num<0)∧s1=bQ q.num.natAbs∧b2=false∧s2=dm q:=by
 unfold YC;rw[@decide_eq_true_iff _ (Classical.propDecidable _)]
 constructor
 ·rintro⟨q,h⟩;unfold Q at h;simp only[Value.agg.injEq,Array.mk.injEq,List.cons.injEq,Value.bool.injEq,Value.string.injEq,and_true] at h;exact⟨q,h⟩
 ·rintro⟨q,rfl,rfl,rfl,rfl⟩;exact⟨q,rfl⟩
def I5{b1:Bool}{s1:ByteArray}{b2:Bool}{s2:ByteArray}(h:¬∃q:Rat,b1=decide (q.num<0)∧s1=bQ q.num.natAbs∧b2=false∧s2=dm q):YC b1 s1 b2 s2=false:=by
 rw[<-I4] at h;simpa using h
def qa3(z:Int):qB (decide (z<0)) (bQ z.natAbs)=false:=by
 unfold qB;rw[Bool.or_eq_false_iff];refine⟨?_,?_⟩
 ·rw[nS]
  by_cases h:z.natAbs=0
  ·have:z=0:=by omega
   subst this;rfl
  ·simp[h]
 ·have:=ZL z.natAbs;unfold qc8 at this
  simpa using this
def qhm(q:Rat):qB false (dm q)=false:=by
 have h1:(0:Int)<=q.den:=(by omega);unfold dm
 split
 ·unfold qB;rfl
 ·have:=qa3 (q.den:Int)
  rwa [decide_eq_false (by omega),Int.natAbs_natCast] at this
def qjg{b1:Bool}{s1:ByteArray}{b2:Bool}{s2:ByteArray}(h:qB b1 s1=true):YC b1 s1 b2 s2=false:=I5 fun⟨q,h1,h2,_,_⟩=>by
 rw[h1,h2,qa3] at h;cases h
def qjh{b1:Bool}{s1:ByteArray}{b2:Bool}{s2:ByteArray}(h:qB b2 s2=true):YC b1 s1 b2 s2=false:=I5 fun⟨q,h1,h2,h3,h4⟩=>by
 rw[h3,h4,qhm] at h;cases h
def qji{b1:Bool}{s1:ByteArray}{s2:ByteArray}:YC b1 s1 true s2=false:=I5 fun⟨q,h1,h2,h3,h4⟩=>by cases h3
def qjj{b1:Bool}{s1:ByteArray}{s2:ByteArray}(h:qB b1 s1=false)(h2:s2=⟨#[]⟩):YC b1 s1 false s2=true:=by
 obtain⟨z,rfl,rfl⟩:=qa1 h;exact I4.2 ⟨(z:Rat),by rw[Rat.num_intCast],by rw[Rat.num_intCast],rfl,by unfold dm;rw[Rat.den_intCast,if_pos rfl,h2]⟩
def E8{m n:Nat}(h:bQ m=bQ n):m=n:=OZ.1 h
def qhn{z:Int}{d:Nat}(hd:0<d)(h:Nat.gcd z.natAbs d=1):∃q:Rat,q.num=z∧q.den=d:=⟨⟨z,d,by omega,h⟩,rfl,rfl⟩
def qeA{z:Int}{d:Nat}(hd:0<d)(h1:d≠1)(h:Nat.gcd z.natAbs d=1):YC (decide (z<0)) (bQ z.natAbs) false (bQ d)=true:=by
 obtain⟨q,rfl,rfl⟩:=qhn hd h;exact I4.2 ⟨q,rfl,rfl,rfl,by unfold dm;rw[if_neg h1]⟩
def qa4{z:Int}{d:Nat}(hd:0<d)(h:d=1∨Nat.gcd z.natAbs d≠1){b:Bool}:YC b (bQ z.natAbs) false (bQ d)=false:=I5 fun⟨q,h1,h2,h3,h4⟩=>by
 unfold dm at h4;have h2:=E8 h2
 split at h4
 ·rename_i h5
  have:bQ d=bQ 0:=(by rw[h4,je]);have:=E8 this;omega
 ·rename_i h5
  have:=E8 h4;subst this;rcases h with h|h
  ·exact h5 h
  ·exact h (by rw[h2];exact q.reduced)
def qfS{b:Bool}{s:ByteArray}(h:((if qB b s=true then(5:Int) else 0) !=0)=false):qB b s=false:=by
 cases hb:qB b s
 ·rfl
 ·rw[hb] at h;cases h
def qfT{b:Bool}{s:ByteArray}(h:((if qB b s=true then(5:Int) else 0) !=0)=true):qB b s=true:=by
 cases hb:qB b s
 ·rw[hb] at h;cases h
 ·rfl
def qho{b:Bool}{s:ByteArray}(h:((b==false)&&(s==⟨#[]⟩))=true):b=false∧s=⟨#[]⟩:=by
 rw[Bool.and_eq_true] at h;exact⟨eq_of_beq h.1,qav h.2⟩
def qhp{z:Int}(h:((decide (z<0)==false)&&(bQ z.natAbs==⟨#[]⟩))=false):z≠0:=fun e=>by
 subst e;rw[show(0:Int).natAbs=0 from rfl,je,FY] at h;cases h
def qa5{e:Int}(h:decide (zX e 1<=0)=true):e<=1:=by
 have:=of_decide_eq_true h;unfold zX at this
 by_cases h1:e<1
 ·omega
 ·rw[if_neg h1] at this
  by_cases h2:1<e
  ·rw[if_pos h2] at this;omega
  ·omega
def qa6{e:Int}(h:decide (zX e 1<=0)=false):1<e:=by
 have:=of_decide_eq_false h;unfold zX at this
 by_cases h1:e<1
 ·rw[if_pos h1] at this;omega
 ·rw[if_neg h1] at this
  by_cases h2:1<e
  ·exact h2
  ·rw[if_neg h2] at this;omega
def qjk{z e:Int}(h0:e≠0)(h:e<=1):YC (decide (z<0)) (bQ z.natAbs) (decide (e<0)) (bQ e.natAbs)=false:=by
 by_cases hn:e<0
 ·rw[decide_eq_true hn];exact qji
 ·rw[decide_eq_false hn];exact qa4 (by omega) (.inl (by omega))
def qeB{z e:Int}(h:(!((decide (((Int.gcd z e:Nat):Int)<0)==decide ((1:Int)<0))&&(bQ ((Int.gcd z e:Nat):Int).natAbs==bQ (1:Int).natAbs)))=true):Int.gcd z e≠1:=fun e1=>by
 rw[e1] at h;simp[yH] at h
def qeC{z e:Int}(h:(!((decide (((Int.gcd z e:Nat):Int)<0)==decide ((1:Int)<0))&&(bQ ((Int.gcd z e:Nat):Int).natAbs==bQ (1:Int).natAbs)))=false):Int.gcd z e=1:=by
 rw[Bool.not_eq_false',Bool.and_eq_true,yH] at h;have:=E8 (of_decide_eq_true h.2)
 simpa using this
def qjl{z e:Int}(h:1<e)(hg:Int.gcd z e≠1):YC (decide (z<0)) (bQ z.natAbs) (decide (e<0)) (bQ e.natAbs)=false:=by
 rw[decide_eq_false (show¬e<0 by omega)];exact qa4 (by omega) (.inr hg)
def qhq{z e:Int}(h:1<e)(hg:Int.gcd z e=1):YC (decide (z<0)) (bQ z.natAbs) (decide (e<0)) (bQ e.natAbs)=true:=by
 rw[decide_eq_false (show¬e<0 by omega)];exact qeA (by omega) (by omega) hg
end Go.Via
namespace Go.Proofs.YtaffcpfhedadhaaGreatDoor
variable[Go.Via.Mo]
open Go Go.RowKit Go.Via
def qY(z:Int):aP Tryz.prog 165 #[I z] (I (-z)):=by
 refine xJ 9 Tryz.func165 fun w=>?_;refine A2 ?_;refine Bp 2 (fun g0=>?_);refine Al 2 xR (fun g1=>?_);refine A9 ?_;refine Pc (dF _ _) ?_;refine Ss 1 ?_;refine A3 ?_;refine Qu 1 ?_;exact congrArg (fun z=>Ending.returned (I z)) (Uk z)
def xy(a b:Int)(ha:jH a<=67108864:=by omega)(hb:jH b<=67108864:=by omega):aP Tryz.prog 190 #[I a,I b] (I (a+b)):=by
 refine oG 42 Tryz.func190 fun w=>?_;refine A2 ?_;refine Bp 2 (fun g0=>?_);refine Bp 2 (fun g1=>?_);refine Al 2 xR (fun g2=>?_);refine lm ?_;refine FP rfl u4 rfl rfl rfl ?_;refine A3 ?_;refine Cd ?_ ?_<;>intro hb0
 ·refine A1 ?_;refine Di [] ?_;refine A6 ?_;refine Pc (xm _ _ ha hb) ?_;refine Pc (dF _ _) ?_;refine Ss 2 ?_;refine A5 ?_;refine Qu 2 ?_;exact congrArg (fun z=>Ending.returned (I z)) (QU a b hb0)
 ·refine A6 ?_;refine Pc (mG _ _) ?_;refine A4 ?_;refine Cd ?_ ?_<;>intro hb1
  ·refine A1 ?_;refine Di [] ?_;refine A6 ?_;refine Pc (xu _ _ ha (VJ _ _ hb1)) ?_;refine Pc (dF _ _) ?_;refine Ss 2 ?_;refine A5 ?_;refine Qu 2 ?_;exact congrArg (fun z=>Ending.returned (I z)) (Na a b hb0 (VJ _ _ hb1))
  ·refine A4 ?_;refine Di [] ?_;refine A6 ?_;refine Pc (xu _ _ hb (VK _ _ hb1)) ?_;refine Pc (dF _ _) ?_;refine Ss 2 ?_;refine A3 ?_;refine Qu 2 ?_;exact congrArg (fun z=>Ending.returned (I z)) (Nb a b hb0 (VK _ _ hb1))
def gK(a b:Int)(ha:jH a<=67108864:=by omega)(hb:jH b<=67108864:=by omega):aP Tryz.prog 123 #[I a,I b] (I (a*b)):=by
 refine oG 16 Tryz.func123 fun w=>?_;refine A2 ?_;refine Bp 2 (fun g0=>?_);refine Bp 2 (fun g1=>?_);refine Al 2 xR (fun g2=>?_);refine A3 ?_;refine Di [] ?_;refine A4 ?_;refine pq rfl u4 rfl rfl rfl ?_;refine A4 ?_;refine Pc (CQ _ _ ha hb) ?_;refine Pc (dF _ _) ?_;refine Ss 2 ?_;refine A3 ?_;refine Qu 2 ?_;exact congrArg (fun z=>Ending.returned (I z)) (VL a b)
def yg(a b:Int)(ha:jH a<=33554432:=by omega)(hb:jH b<=33554432:=by omega)(h0:b≠0:=by omega):aP Tryz.prog 201 #[I a,I b] (.tuple #[I (a/b),I (a%b),.int .i64 0]):=by
 have szle:nb a.natAbs<=67108864:=Nat.le_trans ha (Nat.le_of_ble_eq_true rfl);have szle2:nb b.natAbs<=67108864:=Nat.le_trans hb (Nat.le_of_ble_eq_true rfl);refine oG 43 Tryz.func201 fun w=>?_;refine A2 ?_;refine Bp 2 (fun g0=>?_);refine Bp 2 (fun g1=>?_);refine Al 2 xR (fun g2=>?_);refine Al 2 xR (fun g3=>?_);refine oO ?_;refine Cd ?_ ?_<;>intro hb0
 ·exact absurd hb0 (by rw[nS];simp;omega)
 ·refine A8 ?_;refine dE [_,_] rfl rfl rfl (rP _ _ (by first|assumption|grind [dW,dX,dY,dZ,eF,dO,dP,bT,bJ,aS,dR,dI,jI]) (by first|assumption|grind [dW,dX,dY,dZ,eF,dO,dP,bT,bJ,aS,dR,dI,jI])) ?_;refine CB ?_;refine Rs 24 ?_ ?_<;>intro hb1
  ·refine A5 ?_;refine Cd ?_ ?_<;>intro hb2
   ·refine Dp [] [0,2,3,4,1,5,6,7] ?_;refine A4 ?_;refine dE [_,.string (bQ 1)] rfl rfl (by rw[qc9];rfl) (xm _ _ (Nat.le_trans (wW _ _) (Nat.le_trans ha (Nat.le_of_ble_eq_true rfl))) (Nat.le_trans (nY (k:=1) (by omega)) (Nat.le_of_ble_eq_true rfl))) ?_;refine dE [_,_] rfl rfl rfl (xu _ _ (by first|assumption|grind [dW,dX,dY,dZ,eF,dO,dP,bT,bJ,aS,dR,dI,jI]) (Nat.le_of_lt (Nat.mod_lt _ (by omega)))) ?_;refine lm ?_;refine pq rfl u4 rfl rfl rfl ?_;refine A1 ?_;refine Pc (dF _ _) ?_;refine A1 ?_;refine Pc (dF _ _) ?_;refine Ss 2 ?_;refine Ss 3 ?_;refine A4 ?_;refine yD rfl (bu 2 rfl rfl yK (vs:=[_,_]) rfl rfl (Nat.le_of_ble_eq_true rfl) rfl) (bu 3 rfl rfl yK (vs:=[_,_]) rfl rfl (Nat.le_of_ble_eq_true rfl) rfl) (aj rfl) (fun w hL=>⟨?_,hL.below⟩);have e:=ZP (a:=a) (b:=b) h0 (by simpa using hb1) (by rw[uo] at hb2;simpa using hb2);rw[<-e.1,<-e.2];rfl
   ·refine A8 ?_;refine pq rfl u4 rfl rfl rfl ?_;refine A1 ?_;refine Pc (dF _ _) ?_;refine A1 ?_;refine Pc (dF _ _) ?_;refine Ss 2 ?_;refine Ss 3 ?_;refine A4 ?_;refine yD rfl (bu 2 rfl rfl yK (vs:=[_,_]) rfl rfl (Nat.le_of_ble_eq_true rfl) rfl) (bu 3 rfl rfl yK (vs:=[_,_]) rfl rfl (Nat.le_of_ble_eq_true rfl) rfl) (aj rfl) (fun w hL=>⟨?_,hL.below⟩);have e:=QW (a:=a) (b:=b) h0 (.inr (by rw[uo] at hb2;simpa using hb2));rw[<-e.1,<-e.2];rfl
  ·refine D5 ?_;refine pq rfl u4 rfl rfl rfl ?_;refine A1 ?_;refine Pc (dF _ _) ?_;refine A1 ?_;refine Pc (dF _ _) ?_;refine Ss 2 ?_;refine Ss 3 ?_;refine A4 ?_;refine yD rfl (bu 2 rfl rfl yK (vs:=[_,_]) rfl rfl (Nat.le_of_ble_eq_true rfl) rfl) (bu 3 rfl rfl yK (vs:=[_,_]) rfl rfl (Nat.le_of_ble_eq_true rfl) rfl) (aj rfl) (fun w hL=>⟨?_,hL.below⟩);have e:=QW (a:=a) (b:=b) h0 (.inl (by simpa using hb1));rw[<-e.1,<-e.2];rfl
def nK:aP Tryz.prog 156 #[] (I 1):=by
 refine pB0 2 Tryz.func156 fun w=>?_;refine A2 ?_;refine Al 2 xR (fun g0=>?_);refine A4 ?_;refine Pc (mJ 1) ?_;refine Ss 0 ?_;refine A3 ?_;refine Qu 0 ?_;exact rfl
def kT(a b:Int)(ha:jH a<=33554432:=by omega)(hb:jH b<=33554432:=by omega)(h0:b≠0:=by omega):aP Tryz.prog 166 #[I a,I b] (I (a/b)):=by
 refine oG 16 Tryz.func166 fun w=>?_;refine A2 ?_;refine Bp 2 (fun g0=>?_);refine Bp 2 (fun g1=>?_);refine Al 2 xR (fun g2=>?_);refine A4 ?_;refine L2 0 0 ?_;refine L2 1 0 ?_;refine Pc (yg a b ha hb h0) ?_;refine A4 ?_;refine Al 2 xR (fun g3=>?_);refine Al 2 xR (fun g4=>?_);refine Ss 3 ?_;refine Ss 4 ?_;refine A5 ?_;refine L2 3 0 ?_;refine Ss 2 ?_;refine A3 ?_;refine Qu 2 ?_;exact rfl
def ku(n d:Int)(hn:jH n<=8388608:=by omega)(hd:jH d<=8388608:=by omega)(h0:d≠0:=by omega):aP Tryz.prog 122 #[I n,I d] (Q (Rat.divInt n d)):=by
 refine oG 29 Tryz.func122 fun w=>?_;refine A2 ?_;refine Bp 2 (fun g0=>?_);refine Bp 2 (fun g1=>?_);refine Al 4 qU (fun g2=>?_);refine A5 ?_;refine L2 1 0 ?_;refine Pc (nI _) ?_;refine A3 ?_;refine Cd ?_ ?_<;>intro hb0
 ·refine Dp [] [0,2,1,3,4,5] ?_;refine L2 0 0 ?_;refine L2 1 0 ?_;refine Pc (qY _) ?_;refine Pc (qY _) ?_;refine Ss 0 ?_;refine Ss 1 ?_;refine A4 ?_;refine L2 0 0 ?_;refine L2 1 0 ?_;refine dE [_,_] rfl rfl rfl (xx _ _ (by first|assumption|grind [dW,dX,dY,dZ,eF,dO,dP,bT,bJ,aS,dR,dI,jI]) (by first|assumption|grind [dW,dX,dY,dZ,eF,dO,dP,bT,bJ,aS,dR,dI,jI])) ?_;refine Al 2 xR (fun g3=>?_);refine Ss 3 ?_;refine A3 ?_;refine Dp [] [0,1,3,4,2,5,6,7] ?_;refine L2 0 0 ?_;refine L2 3 0 ?_;refine L2 1 0 ?_;refine L2 3 0 ?_;refine dE [_,_] rfl rfl rfl (kT _ _ (by first|assumption|grind [dW,dX,dY,dZ,eF,dO,dP,bT,bJ,aS,dR,dI,jI]) (by first|assumption|grind [dW,dX,dY,dZ,eF,dO,dP,bT,bJ,aS,dR,dI,jI]) (O3 (by omega))) ?_;refine dE [_,_] rfl rfl rfl (kT _ _ (by first|assumption|grind [dW,dX,dY,dZ,eF,dO,dP,bT,bJ,aS,dR,dI,jI]) (by first|assumption|grind [dW,dX,dY,dZ,eF,dO,dP,bT,bJ,aS,dR,dI,jI]) (O3 (by omega))) ?_;refine Ss 0 ?_;refine Ss 1 ?_;refine A4 ?_;refine Di [] ?_;refine L2 1 0 ?_;refine Pc (nK) ?_;refine gu rfl rfl rfl rfl XY (qiY _ _) ?_;refine A2 ?_;refine Cd ?_ ?_<;>intro hb1
  ·refine A1 ?_;refine(Bu []) (FZ) ?_;refine Ss 1 ?_;refine A4 ?_;refine L2 0 0 ?_;refine L2 1 0 ?_;refine(Bu [(0,_),(1,_)]) (Ad) ?_;refine Ss 2 ?_;refine A3 ?_;refine G6 2 ?_;exact congrArg Ending.returned ((O0 (n:= -n) (d:= -d) (by have:=VM hb0;omega) (by simpa using hb1)).trans (by rw[Rat.neg_divInt_neg]))
  ·refine A4 ?_;refine L2 0 0 ?_;refine L2 1 0 ?_;refine(Bu [(0,_),(1,_)]) (Ad) ?_;refine Ss 2 ?_;refine A3 ?_;refine G6 2 ?_;exact congrArg Ending.returned ((O1 (n:= -n) (d:= -d) (by have:=VM hb0;omega) (by simpa using hb1)).trans (by rw[Rat.neg_divInt_neg]))
 ·refine A4 ?_;refine L2 0 0 ?_;refine L2 1 0 ?_;refine dE [_,_] rfl rfl rfl (xx _ _ (by first|assumption|grind [dW,dX,dY,dZ,eF,dO,dP,bT,bJ,aS,dR,dI,jI]) (by first|assumption|grind [dW,dX,dY,dZ,eF,dO,dP,bT,bJ,aS,dR,dI,jI])) ?_;refine Al 2 xR (fun g3=>?_);refine Ss 3 ?_;refine A3 ?_;refine Dp [] [0,1,3,4,2,5,6,7] ?_;refine L2 0 0 ?_;refine L2 3 0 ?_;refine L2 1 0 ?_;refine L2 3 0 ?_;refine dE [_,_] rfl rfl rfl (kT _ _ (by first|assumption|grind [dW,dX,dY,dZ,eF,dO,dP,bT,bJ,aS,dR,dI,jI]) (by first|assumption|grind [dW,dX,dY,dZ,eF,dO,dP,bT,bJ,aS,dR,dI,jI]) (O3 (by omega))) ?_;refine dE [_,_] rfl rfl rfl (kT _ _ (by first|assumption|grind [dW,dX,dY,dZ,eF,dO,dP,bT,bJ,aS,dR,dI,jI]) (by first|assumption|grind [dW,dX,dY,dZ,eF,dO,dP,bT,bJ,aS,dR,dI,jI]) (O3 (by omega))) ?_;refine Ss 0 ?_;refine Ss 1 ?_;refine A4 ?_;refine Di [] ?_;refine L2 1 0 ?_;refine Pc (nK) ?_;refine gu rfl rfl rfl rfl XY (qiY _ _) ?_;refine A2 ?_;refine Cd ?_ ?_<;>intro hb1
  ·refine A1 ?_;refine(Bu []) (FZ) ?_;refine Ss 1 ?_;refine A4 ?_;refine L2 0 0 ?_;refine L2 1 0 ?_;refine(Bu [(0,_),(1,_)]) (Ad) ?_;refine Ss 2 ?_;refine A3 ?_;refine G6 2 ?_;exact congrArg Ending.returned (O0 (VN hb0 h0) (by simpa using hb1))
  ·refine A4 ?_;refine L2 0 0 ?_;refine L2 1 0 ?_;refine(Bu [(0,_),(1,_)]) (Ad) ?_;refine Ss 2 ?_;refine A3 ?_;refine G6 2 ?_;exact congrArg Ending.returned (O1 (VN hb0 h0) (by simpa using hb1))
def vg(q:Rat):aP Tryz.prog 145 #[Q q] (Q (-q)):=by
 refine xJ 9 Tryz.func145 fun w=>?_;refine A2 ?_;refine Bp 4 (fun g0=>?_);refine Al 4 qU (fun g1=>?_);refine A3 ?_;refine Dp [] [0,1,3,4,2,5,6] ?_;refine A1 ?_;refine L2 0 0 ?_;refine A1 ?_;refine L2 0 2 ?_;refine Pc (qY _) ?_;refine(Bu [(0,_),(1,_)]) (Ad) ?_;refine Ss 1 ?_;refine A3 ?_;refine G6 1 ?_;exact rfl
def zf(n d:Int)(hn:jH n<=8388608:=by omega)(hd:jH d<=8388608:=by omega):aP Tryz.prog 213 #[I n,I d] (.tuple #[Q (Rat.divInt n d),.int .i64 (if d=0 then 6 else 0)]):=by
 refine oG 13 Tryz.func213 fun w=>?_;refine A2 ?_;refine Bp 2 (fun g0=>?_);refine Bp 2 (fun g1=>?_);refine Al 4 qU (fun g2=>?_);refine A6 ?_;refine L2 1 0 ?_;refine Pc (nI _) ?_;refine A3 ?_;refine Cd ?_ ?_<;>intro hb0
 ·refine A2 ?_;refine(Bu []) (yL) ?_;refine Ss 2 ?_;refine A5 ?_;refine bF rfl (bu 2 rfl rfl BZ (vs:=[_,_,_,_]) rfl rfl (Nat.le_of_ble_eq_true rfl) rfl) (aj rfl) (fun w hL=>⟨?_,hL.below⟩);have e:d=0:=by simpa using hb0
  subst e;rw[Rat.divInt_zero,if_pos rfl,yI]
 ·refine A4 ?_;refine L2 0 0 ?_;refine L2 1 0 ?_;refine dE [_,_] rfl rfl rfl (ku _ _ hn hd (fun e=>absurd (show(d.sign==0)=true by rw[e];rfl) (by rw[hb0];decide))) ?_;refine Ss 2 ?_;refine A4 ?_;refine bF rfl (bu 2 rfl rfl BZ (vs:=[_,_,_,_]) rfl rfl (Nat.le_of_ble_eq_true rfl) rfl) (aj rfl) (fun w hL=>⟨?_,hL.below⟩);rw[if_neg (fun e=>absurd (show(d.sign==0)=true by rw[e];rfl) (by rw[hb0];decide))];rfl
def gG(z:Int)(h1: -9223372036854775808<=z:=by omega)(h2:z<=9223372036854775807:=by omega):aP Tryz.prog 132 #[.int .i64 z] (Q (z:Rat)):=by
 refine xJ 6 Tryz.func132 fun w=>?_;refine A2 ?_;refine Al 4 qU (fun g0=>?_);refine A5 ?_;refine dE [_] rfl rfl rfl (mJ _) ?_;refine(Bu [(0,_)]) (qgE) ?_;refine Ss 0 ?_;refine A3 ?_;refine G6 0 ?_;exact rfl
end Go.Proofs.YtaffcpfhedadhaaGreatDoor
namespace Go.Proofs.YtaffcpfhedadhaaGreatDoor
variable[Go.Via.Mo]
open Go Go.RowKit Go.Via
def lC(p q:Rat)(hp:dw p<=4194303:=by omega)(hq:dw q<=4194303:=by omega):aP Tryz.prog 55 #[Q p,Q q] (Q (p-q)):=by
 refine oG 9 Tryz.func55 fun w=>?_;refine A2 ?_;refine Bp 4 (fun g0=>?_);refine Bp 4 (fun g1=>?_);refine Al 4 qU (fun g2=>?_);refine A3 ?_;refine Di [] ?_;refine L4 0 0 ?_;refine L4 1 0 ?_;refine Pc (Ho q) ?_;refine Pc (iG p (-q) hp (Nat.le_trans (dI q) hq)) ?_;refine Ss 2 ?_;refine A3 ?_;refine G6 2 ?_;exact congrArg (fun z=>Ending.returned (Q z)) (Rat.sub_eq_add_neg p q).symm
end Go.Proofs.YtaffcpfhedadhaaGreatDoor
namespace Go.Proofs.YtaffcpfhedadhaaGreatDoor
variable[Go.Via.Mo]
open Go Go.RowKit Go.Via
def lK(q:Rat):aP Tryz.prog 66 #[Q q] (.int .i64 q.num.sign):=by
 refine xJ 12 Tryz.func66 fun w=>?_;refine A2 ?_;refine Bp 4 (fun g0=>?_);refine D5 ?_;refine Cd ?_ ?_<;>intro hb0
 ·refine A8 ?_;refine E0 ?_;exact congrArg (fun z=>Ending.returned (.int .i64 z)) (Nc q.num hb0)
 ·refine A8 ?_;refine Cd ?_ ?_<;>intro hb1
  ·refine A8 ?_;refine E0 ?_;exact congrArg (fun z=>Ending.returned (.int .i64 z)) (sign_neg q.num hb1)
  ·refine A9 ?_;refine E0 ?_;exact congrArg (fun z=>Ending.returned (.int .i64 z)) (QV q.num hb0 hb1)
def Ig(p q:Rat)(hp:dw p<=4194303:=by omega)(hq:dw q<=4194303:=by omega):aP Tryz.prog 160 #[Q p,Q q] (.int .i64 (oC p q)):=by
 refine oG 9 Tryz.func160 fun w=>?_;refine A2 ?_;refine Bp 4 (fun g0=>?_);refine Bp 4 (fun g1=>?_);refine A5 ?_;refine L4 0 0 ?_;refine L4 1 0 ?_;refine Pc (lC p q hp hq) ?_;refine Pc (lK (p-q)) ?_;refine A4 ?_;refine E0 ?_;exact congrArg (fun z=>Ending.returned (.int .i64 z)) (RP p q)
def Gu(b1:Bool)(s1:ByteArray)(b2:Bool)(s2:ByteArray)(hs1:s1.size<=5000:=by omega)(hs2:s2.size<=5000:=by omega):aP Tryz.prog 105 #[.agg #[.bool b1,.string s1,.bool b2,.string s2]] (.int .i64 (if YC b1 s1 b2 s2=true then 0 else 5)):=by
 refine xJ 31 Tryz.func105 fun w=>?_;refine A2 ?_;refine Bp 4 (fun g0=>?_);refine A7 ?_;refine L2 0 0 ?_;refine Pc (y9 b1 s1) ?_;refine A2 ?_;refine Rs 7 ?_ ?_<;>intro hb0
 ·have hI1:qB b1 s1=true:=qfT hb0;refine zT ?_;refine E0 ?_;rw[qjg hI1];rfl
 ·have hI1:qB b1 s1=false:=qfS hb0;refine A1 ?_;refine L2 0 2 ?_;refine Pc (y9 b2 s2) ?_;refine A4 ?_;refine Cd ?_ ?_<;>intro hb1
  ·have hI2:qB b2 s2=true:=qfT hb1;refine A7 ?_;refine E0 ?_;rw[qjh hI2];rfl
  ·have hI2:qB b2 s2=false:=qfS hb1;refine A6 ?_;refine L2 0 2 ?_;refine(Bu []) (FZ) ?_;refine gu rfl rfl rfl rfl XY (QZ _ _ _ _) ?_;refine A2 ?_;refine Cd ?_ ?_<;>intro hb2
   ·obtain⟨hb2,he2⟩:=qho hb2;refine A7 ?_;refine E0 ?_;rw[hb2,qjj hI1 he2];rfl
   ·obtain⟨z,rfl,rfl⟩:=qa1 hI1;obtain⟨e,rfl,rfl⟩:=qa1 hI2;have he0:=qhp hb2;rw[lM] at hs1 hs2;have hz1:jH z<=5000:=hs1;have hz2:jH e<=5000:=hs2;refine A4 ?_;refine Di [] ?_;refine A1 ?_;refine L2 0 2 ?_;refine Pc (nK) ?_;refine Pc (wO e 1) ?_;refine A2 ?_;refine Rs 22 ?_ ?_<;>intro hb3
    ·have hle:e<=1:=qa5 hb3;refine A18 ?_;refine E0 ?_;rw[qjk he0 hle];rfl
    ·have hle:1<e:=qa6 hb3;refine A1 ?_;refine L2 0 0 ?_;refine A1 ?_;refine L2 0 2 ?_;refine Pc (xx z e) ?_;refine Pc (nK) ?_;refine xM rfl rfl rfl rfl XY (QZ _ _ _ _) ?_;refine A3 ?_;refine Cd ?_ ?_<;>intro hb4
     ·have hg:=qeB hb4;refine A7 ?_;refine E0 ?_;rw[qjl hle hg];rfl
     ·have hg:=qeC hb4;refine A8 ?_;refine E0 ?_;rw[qhq hle hg];rfl
end Go.Proofs.YtaffcpfhedadhaaGreatDoor
namespace Go.Proofs.YtaffcpfhedadhaaGreatDoor
open Go Go.RowKit Go.Via
def Az(n:Nat)(hn:nb n<=33554432:=by omega):aP Tryz.prog 200 #[.string (bQ n)] (.string (bQ (cO n))):=by
 have hb8:=SC n;have hk8:=SE n;refine xJ 50 Tryz.func200 fun w=>?_;refine lX ?_;refine Cd ?_ ?_<;>intro hb0
 ·have h0:n=0:=YB hb0;refine A7 ?_;refine E0 ?_;subst h0;rw[show cO 0=0 from rfl,je]
 ·have h0:n≠0:=U6 hb0;have hp:=Dw h0;refine A6 ?_;refine aT 12 (bz (nb n)) rfl (by rw[lM]) ?_;refine Ar (((nb n-1:Nat):Int)) ?_;refine Ar (((8*(nb n-1):Nat):Int)) ?_;refine A1 ?_;refine zH (b:=UInt8.ofNat (zA n)) (r:=((zA n:Nat):Int)) u9 rfl rfl rfl rfl (by omega) (Un n 0 hp) (O4 _) ?_;refine Pc (SK (zA n) (PP n)) ?_;refine Ar (((8*(nb n-1)+Lib.bitLen (zA n):Nat):Int)) ?_;refine A6 ?_;refine Ar (((8*(nb n-1)+Lib.bitLen (zA n)+1:Nat):Int)) ?_;refine(Dv ((lw n:Nat):Int)) (by exact(congrArg some (mY _ 2 rfl rfl (by omega)))) ?_;refine A4 ?_;refine Dl (X:=Nat) (l':=[⟨_,_,_,_,_,_⟩,⟨_,_,_,_,_,_⟩,⟨_,_,_,_,_,_⟩,⟨_,_,_,_,_,_⟩,⟨_,_,_,_,_,_⟩]) (fun g=>[(0,.string (bQ n)),(4,.string (lZ (SA (lw n))))]) (fun g=>[⟨some g,5,[.int .u8 (2^(lw n%8):Nat)],1,true⟩]) [0,1,2,5,6] 5 mixed (by kernel_rfl) rfl ?_ ?_
  ·refine A1 ?_;refine(Dv ((lw n%8:Nat):Int)) (congrArg some (eY _ _ rfl rfl)) ?_;refine(Sv ((2^(lw n%8):Nat):Int)) (by exact(congrArg some (qeu _ rfl (Nat.mod_lt _ (by omega))))) ?_;refine A1 ?_;refine(Dv ((lw n/8:Nat):Int)) (by exact(congrArg some (mY _ 8 rfl rfl (by omega)))) ?_;refine A1 ?_
   repeat' first
    |exact⟨g0,rfl,⟨rfl,rfl,trivial⟩,List.Perm.refl _⟩
    |refine IE ?_
    |refine zI (l:=[2^(lw n%8)]) 0 Uu u5 u9 rfl rfl rfl rfl rfl rfl rfl rfl ?_
    |refine dE [_,_] rfl rfl rfl (Gt (lw n/8)) ?_
    |refine qgR (p:=[UInt8.ofNat (2^(lw n%8))]) (q:=List.replicate (lw n/8) 0) rfl rfl rfl rfl rfl rfl rfl (by rw[List.length_replicate];show 1+lw n/8<=_;omega) ?_
    |refine Eg rfl rfl rfl ?_
    |refine(Bl 1 [(0,_)]) (qdz) (fun g0=>?_)
    |refine Ue (by decide+kernel) ?_
    |refine fQ [8] (by decide+kernel) rfl ⟨⟨_,rfl,?_⟩,trivial⟩
    |refine fQ [9] (by decide+kernel) rfl ⟨⟨_,rfl,?_⟩,trivial⟩
    |refine fQ [4] (by decide+kernel) rfl ⟨⟨_,rfl,?_⟩,trivial⟩
    |refine fQ [3,7] (by decide+kernel) rfl ⟨⟨_,rfl,?_⟩,⟨_,rfl,?_⟩,trivial⟩
    |refine fQ [4,7] (by decide+kernel) rfl ⟨⟨_,rfl,?_⟩,⟨_,rfl,?_⟩,trivial⟩
    |refine fQ [7] (by decide+kernel) rfl ⟨⟨_,rfl,?_⟩,trivial⟩
    |refine fQ [3] (by decide+kernel) rfl ⟨⟨_,rfl,?_⟩,trivial⟩
  rintro g;show At _ ⟨50,[(0,.string (bQ n)),(4,.string (lZ (SA (lw n))))],[⟨some g,5,[.int .u8 (2^(lw n%8):Nat)],1,true⟩]⟩ _;refine A2 ?_;refine El (ι:={x:Nat // SG n x}) (fun⟨x,hx⟩=>([(0,.string (bQ n)),(4,.string (bQ x))],[],x)) ⟨2^lw n,SH h0⟩ ?_ (ht:=⟨rfl,(aB rfl (congrArg Value.string (WG _))),trivial⟩) (hL:=(au [] trivial rfl rfl));rintro⟨x,hx⟩;(try dsimp only);have hx3:=hx.2.2;refine A5 ?_;refine Pc (rP n x (by omega) (by omega) (by have:=hx.1;omega)) ?_;refine oO ?_;refine Pc (xm x (n/x) (by omega) (by have:=wW n x;omega)) ?_;refine dE [_,.string (bQ 2)] rfl rfl (by rw[qet];rfl) (rP (x+n/x) 2 (by have:=wW n x;have:=zV x (n/x);omega) (by have:=nY (n:=2) (k:=1) (by decide);omega) (by decide)) ?_;refine lX ?_;refine Pc (mG _ _) ?_;refine A3 ?_;refine Cd ?_ ?_<;>intro hb2
  ·have hge:¬(x+n/x)/2<x:=lu.1 (of_decide_eq_true hb2)|>Nat.not_lt.2;refine oO ?_;refine E0 ?_;rw[YA hx hge]
  ·have hlt:(x+n/x)/2<x:=Nat.lt_of_not_le fun e=>of_decide_eq_false hb2 (lu.2 e)
   refine A8 ?_;exact Nl ⟨(x+n/x)/2,U5 h0 hx hlt⟩ (hμ:=hlt)
end Go.Proofs.YtaffcpfhedadhaaGreatDoor
namespace Go.Proofs.YtaffcpfhedadhaaGreatDoor
variable[Go.Via.Mo]
open Go Go.RowKit Go.Via
def dQ(p q:Rat)(hp:dw p<=4194303:=by omega)(hq:dw q<=4194303:=by omega):aP Tryz.prog 27 #[Q p,Q q] (Q (p*q)):=by
 have e1:=Jz hp;have e2:=JA hp;have e3:=Jz hq;have e4:=JA hq;have m1:=oQ p.num.natAbs q.num.natAbs;have m2:=oQ p.num.natAbs q.den;have m3:=oQ q.num.natAbs p.den;have m4:=oQ p.den q.den;have m5:=oQ p.den q.num.natAbs;have dp:0<p.den:=Nat.pos_of_ne_zero p.den_nz;have dq:0<q.den:=Nat.pos_of_ne_zero q.den_nz;have dpq:0<p.den*q.den:=Nat.mul_pos dp dq;refine oG 28 Tryz.func27 fun w=>?_;refine A2 ?_;refine Bp 4 (fun g0=>?_);refine Bp 4 (fun g1=>?_);refine Al 4 qU (fun g2=>?_);refine A3 ?_;refine Dq [3000000] [0,2,1,3,4,5,6,7] ?_;refine L4 0 0 ?_;refine L4 1 0 ?_;refine iM [_] [] rfl rfl rfl (ve p (Nat.le_trans hp (Nat.le_of_ble_eq_true rfl))) trivial rfl (.inr qaX) (fun x=>?_);refine iM [_] [] rfl rfl rfl (ve q (Nat.le_trans hq (Nat.le_of_ble_eq_true rfl))) trivial rfl (.inr qaX) (fun y=>?_);refine Al 3 XW (fun g3=>?_);refine Al 3 XW (fun g4=>?_);refine Ss 7 ?_;refine Ss 8 ?_;refine A3 ?_;refine Dp [] [0,1,2,3,4,5,6,7,8,10,11,12,13,9,14,15,16,17] ?_;refine A4 ?_;refine pq rfl u4 rfl rfl rfl ?_;refine A8 ?_;refine(Sc [3,5]) (jy (p.num.natAbs) (q.num.natAbs) (by omega) (by omega) x.1 y.1) (fun zn=>?_);refine(Sc [4,6]) (jy (p.den) (q.den) (by omega) (by omega) x.2 y.2) (fun zd=>?_);refine(Bu [(0,_),(1,_),(2,_)]) (wC) ?_;refine(Sd [9,10]) (iW (p.num.natAbs*q.num.natAbs) (p.den*q.den) (decide (p.num<0) !=decide (q.num<0)) dpq (by omega) (by omega) zn zd) ?_;refine aT 27 (Q (p*q)) rfl (congrArg Q (qg8 p q)) ?_;refine Ss 2 ?_;refine A3 ?_;refine G6 2 ?_;exact rfl
end Go.Proofs.YtaffcpfhedadhaaGreatDoor
namespace Go.Proofs.YtaffcpfhedadhaaGreatDoor
variable[Go.Via.Mo]
open Go Go.RowKit Go.Via
def fV(q:Rat):aP Tryz.prog 124 #[Q q] (I q.den):=by
 refine xJ 10 Tryz.func124 fun w=>?_;refine A2 ?_;refine Bp 4 (fun g0=>?_);refine Al 2 xR (fun g1=>?_);refine A6 ?_;refine L2 0 2 ?_;refine(Bu []) (FZ) ?_;refine gu rfl rfl rfl rfl XY (QZ _ _ _ _) ?_;refine A2 ?_;refine Cd ?_ ?_<;>intro hb0
 ·refine A2 ?_;refine Pc (nK) ?_;refine Ss 1 ?_;refine A4 ?_;refine Qu 1 ?_;exact congrArg Ending.returned (qiK hb0)
 ·refine A5 ?_;refine L2 0 2 ?_;refine Ss 1 ?_;refine A3 ?_;refine Qu 1 ?_;exact congrArg Ending.returned (qiL hb0)
def yh(p q:Rat)(hp:dw p<=4194303:=by omega)(hq:dw q<=4194303:=by omega):aP Tryz.prog 189 #[Q p,Q q] (.tuple #[I (lF p q),I (lG p q),I (lY p q)]):=by
 refine oG 33 Tryz.func189 fun w=>?_;refine A2 ?_;refine Bp 4 (fun g0=>?_);refine Bp 4 (fun g1=>?_);refine Al 2 xR (fun g2=>?_);refine Al 2 xR (fun g3=>?_);refine Al 2 xR (fun g4=>?_);refine A6 ?_;refine L2 0 2 ?_;refine A1 ?_;refine L2 1 2 ?_;refine gu rfl rfl rfl rfl XY (QZ _ _ _ _) ?_;refine A2 ?_;refine Cd ?_ ?_<;>intro hb0
 ·refine A1 ?_;refine Di [2,3,4] ?_;refine A1 ?_;refine L2 0 0 ?_;refine A1 ?_;refine L2 1 0 ?_;refine L4 0 0 ?_;refine Pc (fV _) ?_;refine mW 2 0 [_,_,⟨some g2,34,_,2,true⟩,_,_] [_,_] rfl rfl rfl rfl yK rfl rfl rfl rfl rfl rfl ?_;refine mW 3 0 [_,_,_,⟨some g3,34,_,2,true⟩,_] [_,_] rfl rfl rfl rfl yK rfl rfl rfl rfl rfl rfl ?_;refine mW 4 0 [_,_,_,_,⟨some g4,34,_,2,true⟩] [_,_] rfl rfl rfl rfl yK rfl rfl rfl rfl rfl rfl ?_;refine A4 ?_;refine yD rfl (bu 2 rfl rfl yK (vs:=[_,_]) rfl rfl (Nat.le_of_ble_eq_true rfl) rfl) (bu 3 rfl rfl yK (vs:=[_,_]) rfl rfl (Nat.le_of_ble_eq_true rfl) rfl) (bu 4 rfl rfl yK (vs:=[_,_]) rfl rfl (Nat.le_of_ble_eq_true rfl) rfl) (fun w hL=>⟨?_,hL.below⟩);exact congrArg Ending.returned (qde hb0)
 ·refine A3 ?_;refine Dp [] [0,1,2,5,6,7,10,12,3,4,8,9,11,13,14,15,16,17] ?_;refine A1 ?_;refine L2 0 0 ?_;refine L4 1 0 ?_;refine A1 ?_;refine L2 1 0 ?_;refine L4 0 0 ?_;refine L4 0 0 ?_;refine L4 1 0 ?_;refine Pc (fV _) ?_;refine dE [_,_] rfl rfl rfl (gK _ _ (by first|assumption|grind [dW,dX,dY,dZ,eF,dO,dP,bT,bJ,aS,dR,dI,jI]) (by first|assumption|grind [dW,dX,dY,dZ,eF,dO,dP,bT,bJ,aS,dR,dI,jI])) ?_;refine Pc (fV _) ?_;refine dE [_,_] rfl rfl rfl (gK _ _ (by first|assumption|grind [dW,dX,dY,dZ,eF,dO,dP,bT,bJ,aS,dR,dI,jI]) (by first|assumption|grind [dW,dX,dY,dZ,eF,dO,dP,bT,bJ,aS,dR,dI,jI])) ?_;refine Pc (fV _) ?_;refine Pc (fV _) ?_;refine dE [_,_] rfl rfl rfl (gK _ _ (by first|assumption|grind [dW,dX,dY,dZ,eF,dO,dP,bT,bJ,aS,dR,dI,jI]) (by first|assumption|grind [dW,dX,dY,dZ,eF,dO,dP,bT,bJ,aS,dR,dI,jI])) ?_;refine Ss 2 ?_;refine Ss 3 ?_;refine Ss 4 ?_;refine A3 ?_;refine yD rfl (bu 2 rfl rfl yK (vs:=[_,_]) rfl rfl (Nat.le_of_ble_eq_true rfl) rfl) (bu 3 rfl rfl yK (vs:=[_,_]) rfl rfl (Nat.le_of_ble_eq_true rfl) rfl) (bu 4 rfl rfl yK (vs:=[_,_]) rfl rfl (Nat.le_of_ble_eq_true rfl) rfl) (fun w hL=>⟨?_,hL.below⟩);exact congrArg Ending.returned (qdf hb0)
def cu(p q:Rat)(hp:dw p<=4194303:=by omega)(hq:dw q<=4194303:=by omega):aP Tryz.prog 140 #[Q p,Q q] (Q (p+q)):=by
 refine oG 20 Tryz.func140 fun w=>?_;refine A2 ?_;refine Bp 4 (fun g0=>?_);refine Bp 4 (fun g1=>?_);refine Al 4 qU (fun g2=>?_);refine A4 ?_;refine L4 0 0 ?_;refine L4 1 0 ?_;refine dE [_,_] rfl rfl rfl (yh _ _ (by first|assumption|grind [dW,dX,dY,dZ,eF,dO,dP,bT,bJ,aS,dR,dI,jI]) (by first|assumption|grind [dW,dX,dY,dZ,eF,dO,dP,bT,bJ,aS,dR,dI,jI])) ?_;refine A4 ?_;refine Al 2 xR (fun g3=>?_);refine Al 2 xR (fun g4=>?_);refine Al 2 xR (fun g5=>?_);refine Ss 3 ?_;refine Ss 4 ?_;refine Ss 5 ?_;refine A3 ?_;refine Dp [] [0,1,3,2,4,5] ?_;refine L2 3 0 ?_;refine L2 4 0 ?_;refine L2 5 0 ?_;refine Pc (xy _ _ (Nat.le_trans (szX hp hq) (Nat.le_of_ble_eq_true rfl)) (Nat.le_trans (szY hp hq) (Nat.le_of_ble_eq_true rfl))) ?_;refine Pc (ku _ _ (Nat.le_trans (qkr hp hq) (Nat.le_of_ble_eq_true rfl)) (Nat.le_trans (szD hp hq) (Nat.le_of_ble_eq_true rfl)) (Nh p q)) ?_;refine Ss 2 ?_;refine A3 ?_;refine G6 2 ?_;exact congrArg (fun z=>Ending.returned (Q z)) (XJ p q)
def fZ(p q:Rat)(hp:dw p<=4194303:=by omega)(hq:dw q<=4194303:=by omega):aP Tryz.prog 126 #[Q p,Q q] (Q (p-q)):=by
 refine oG 9 Tryz.func126 fun w=>?_;refine A2 ?_;refine Bp 4 (fun g0=>?_);refine Bp 4 (fun g1=>?_);refine Al 4 qU (fun g2=>?_);refine A3 ?_;refine Di [] ?_;refine L4 0 0 ?_;refine L4 1 0 ?_;refine Pc (vg _) ?_;refine dE [_,_] rfl rfl rfl (cu _ _ (by first|assumption|grind [dW,dX,dY,dZ,eF,dO,dP,bT,bJ,aS,dR,dI,jI]) (by first|assumption|grind [dW,dX,dY,dZ,eF,dO,dP,bT,bJ,aS,dR,dI,jI])) ?_;refine Ss 2 ?_;refine A3 ?_;refine G6 2 ?_;exact congrArg (fun z=>Ending.returned (Q z)) (Rat.sub_eq_add_neg p q).symm
def aK(p q:Rat)(hp:dw p<=4194303:=by omega)(hq:dw q<=4194303:=by omega):aP Tryz.prog 75 #[Q p,Q q] (Q (p*q)):=by
 refine oG 16 Tryz.func75 fun w=>?_;refine A2 ?_;refine Bp 4 (fun g0=>?_);refine Bp 4 (fun g1=>?_);refine Al 4 qU (fun g2=>?_);refine A3 ?_;refine Dp [] [0,1,2,3,5,7,4,6,8,9,10,11] ?_;refine A1 ?_;refine L2 0 0 ?_;refine A1 ?_;refine L2 1 0 ?_;refine L4 0 0 ?_;refine L4 1 0 ?_;refine dE [_,_] rfl rfl rfl (gK _ _ (by first|assumption|grind [dW,dX,dY,dZ,eF,dO,dP,bT,bJ,aS,dR,dI,jI]) (by first|assumption|grind [dW,dX,dY,dZ,eF,dO,dP,bT,bJ,aS,dR,dI,jI])) ?_;refine Pc (fV _) ?_;refine Pc (fV _) ?_;refine dE [_,_] rfl rfl rfl (gK _ _ (by first|assumption|grind [dW,dX,dY,dZ,eF,dO,dP,bT,bJ,aS,dR,dI,jI]) (by first|assumption|grind [dW,dX,dY,dZ,eF,dO,dP,bT,bJ,aS,dR,dI,jI])) ?_;refine dE [_,_] rfl rfl rfl (ku _ _ (by first|assumption|grind [dW,dX,dY,dZ,eF,dO,dP,bT,bJ,aS,dR,dI,jI]) (by first|assumption|grind [dW,dX,dY,dZ,eF,dO,dP,bT,bJ,aS,dR,dI,jI]) (JC p q)) ?_;refine Ss 2 ?_;refine A3 ?_;refine G6 2 ?_;exact congrArg (fun z=>Ending.returned (Q z)) (JD p q)
def fF(q:Rat):aP Tryz.prog 106 #[Q q] (.int .i64 q.num.sign):=by
 refine xJ 6 Tryz.func106 fun w=>?_;refine A2 ?_;refine Bp 4 (fun g0=>?_);refine A6 ?_;refine L2 0 0 ?_;refine Pc (nI _) ?_;refine A4 ?_;refine E0 ?_;exact rfl
def AA(p q:Rat)(hp:dw p<=4194303:=by omega)(hq:dw q<=4194303:=by omega):aP Tryz.prog 183 #[Q p,Q q] (.tuple #[Q (p/q),.int .i64 (if q=0 then 6 else 0)]):=by
 refine oG 19 Tryz.func183 fun w=>?_;refine A2 ?_;refine Bp 4 (fun g0=>?_);refine Bp 4 (fun g1=>?_);refine Al 4 qU (fun g2=>?_);refine A4 ?_;refine Dp [] [0,1,2,5,7,8,3,4,6,9,10,11,12,13,14] ?_;refine A1 ?_;refine L2 0 0 ?_;refine L4 1 0 ?_;refine L4 0 0 ?_;refine A1 ?_;refine L2 1 0 ?_;refine Pc (fV _) ?_;refine dE [_,_] rfl rfl rfl (gK _ _ (by first|assumption|grind [dW,dX,dY,dZ,eF,dO,dP,bT,bJ,aS,dR,dI,jI]) (by first|assumption|grind [dW,dX,dY,dZ,eF,dO,dP,bT,bJ,aS,dR,dI,jI])) ?_;refine Pc (fV _) ?_;refine dE [_,_] rfl rfl rfl (gK _ _ (by first|assumption|grind [dW,dX,dY,dZ,eF,dO,dP,bT,bJ,aS,dR,dI,jI]) (by first|assumption|grind [dW,dX,dY,dZ,eF,dO,dP,bT,bJ,aS,dR,dI,jI])) ?_;refine dE [_,_] rfl rfl rfl (zf _ _ (by first|assumption|grind [dW,dX,dY,dZ,eF,dO,dP,bT,bJ,aS,dR,dI,jI]) (by first|assumption|grind [dW,dX,dY,dZ,eF,dO,dP,bT,bJ,aS,dR,dI,jI])) ?_;refine A2 ?_;refine Ss 2 ?_;refine A4 ?_;refine bF rfl (bu 2 rfl rfl BZ (vs:=[_,_,_,_]) rfl rfl (Nat.le_of_ble_eq_true rfl) rfl) (aj rfl) (fun w hL=>⟨?_,hL.below⟩);rw[<-Um p q,qdg p q];rfl
def DU(p q:Rat)(hp:dw p<=4194303:=by omega)(hq:dw q<=4194303:=by omega):aP Tryz.prog 212 #[Q p,Q q] (.int .i64 (oC p q)):=by
 refine oG 21 Tryz.func212 fun w=>?_;refine A2 ?_;refine Bp 4 (fun g0=>?_);refine Bp 4 (fun g1=>?_);refine A6 ?_;refine L4 0 0 ?_;refine L4 1 0 ?_;refine gu rfl rfl rfl rfl Z5 (Z8 _ _) ?_;refine A2 ?_;refine Cd ?_ ?_<;>intro hb0
 ·refine A7 ?_;refine E0 ?_
  have e:p=q:=(by simpa using hb0);subst e;rw[XK]
 ·refine A4 ?_;refine L4 0 0 ?_;refine L4 1 0 ?_;refine dE [_,_] rfl rfl rfl (yh _ _ (by first|assumption|grind [dW,dX,dY,dZ,eF,dO,dP,bT,bJ,aS,dR,dI,jI]) (by first|assumption|grind [dW,dX,dY,dZ,eF,dO,dP,bT,bJ,aS,dR,dI,jI])) ?_;refine A4 ?_;refine Al 2 xR (fun g2=>?_);refine Al 2 xR (fun g3=>?_);refine Al 2 xR (fun g4=>?_);refine Ss 2 ?_;refine Ss 3 ?_;refine Ss 4 ?_;refine A4 ?_;refine L2 2 0 ?_;refine L2 3 0 ?_;refine Pc (wO _ _) ?_;refine A4 ?_;refine E0 ?_;exact congrArg (fun z=>Ending.returned (.int .i64 z)) (XL p q)
end Go.Proofs.YtaffcpfhedadhaaGreatDoor
namespace Go.Via
open Go
def ou(z:Int):Bool:=decide (0<=z)&&(cO z.natAbs*cO z.natAbs==z.natAbs)
def qa7{z:Int}(h:decide (z<0)=true):ou z=false:=by
 have:=of_decide_eq_true h;unfold ou;rw[decide_eq_false (by omega)];rfl
def qeD{z:Int}(h:(bQ (cO z.natAbs*cO z.natAbs) !=bQ z.natAbs)=true):ou z=false:=by
 unfold ou;have:¬cO z.natAbs*cO z.natAbs=z.natAbs:=fun e=>by rw[e,bne,yH] at h;simp at h
 rw[beq_eq_false_iff_ne.2 this,Bool.and_false]
def qa8{z:Int}(h0:decide (z<0)=false)(h:(bQ (cO z.natAbs*cO z.natAbs) !=bQ z.natAbs)=false):ou z=true:=by
 unfold ou;have h1:=of_decide_eq_false h0;have h2:bQ (cO z.natAbs*cO z.natAbs)=bQ z.natAbs:=by rw[bne,yH] at h;simpa using h
 rw[OZ.1 h2,decide_eq_true (by omega)];simp
def qa9(n:Nat):cO n<=n:=by
 have h:=(Ko n).1
 by_cases h0:cO n=0
 ·omega
 ·exact Nat.le_trans (Nat.le_mul_of_pos_right _ (by omega)) h
def oM(n:Nat):nb (cO n)<=nb n:=ik (qa9 n)
def Gv(q:Rat):BM q=(ou q.num&&ou (q.den:Int)):=by
 unfold BM ou;rw[Int.natAbs_natCast,decide_eq_true (show(0:Int)<=(q.den:Int) by omega),Bool.true_and]
def w3{a b:Int}(ha:a= -1∨a=0∨a=1)(hb:b= -1∨b=0∨b=1):IntKind.i64.wrap (a*b)=a*b:=by
 rcases ha with rfl|rfl|rfl<;>rcases hb with rfl|rfl|rfl<;>rfl
def DV(q:Rat):dJ q= -1∨dJ q=0∨dJ q=1:=by rcases jD q with h|h|h<;>simp[h.2]
def qba(p q:Rat):oC p q= -1∨oC p q=0∨oC p q=1:=by rcases xZ p q with h|h|h<;>simp[h.2]
def qhr{a b r:Rat}(h:dJ b*dJ r=0):uw a b r=dJ a:=by unfold uw;rw[if_pos (.inl h)]
def qhs{a b r:Rat}(h:dJ a=dJ b*dJ r):uw a b r=dJ a:=by unfold uw;rw[if_pos (.inr h)]
def qht{a b r:Rat}(h0:dJ b*dJ r≠0)(h1:dJ a≠dJ b*dJ r)(h2:dJ a=0):uw a b r=dJ b*dJ r:=by unfold uw;rw[if_neg (by rintro(h|h);exact h0 h;exact h1 h),if_pos h2]
def qhu{a b r:Rat}(h0:dJ b*dJ r≠0)(h1:dJ a≠dJ b*dJ r)(h2:dJ a≠0):uw a b r=dJ a*oC (a*a) (b*b*r):=by unfold uw;rw[if_neg (by rintro(h|h);exact h0 h;exact h1 h),if_neg h2]
section
variable{x y:Rl}
def qeE(h:dJ (-oV y)*dJ y.r=0):bW x y=uw (x.p-y.p) (oV x) x.r:=by unfold bW;rw[if_pos (.inl h)]
def qeF(h:uw (x.p-y.p) (oV x) x.r=dJ (-oV y)*dJ y.r):bW x y=uw (x.p-y.p) (oV x) x.r:=by unfold bW;rw[if_pos (.inr h)]
def qeG(h0:dJ (-oV y)*dJ y.r≠0)(h1:uw (x.p-y.p) (oV x) x.r≠dJ (-oV y)*dJ y.r)(h2:uw (x.p-y.p) (oV x) x.r=0):bW x y=dJ (-oV y)*dJ y.r:=by
 unfold bW;rw[if_neg (by rintro(h|h);exact h0 h;exact h1 h),if_pos h2]
def qeH(h0:dJ (-oV y)*dJ y.r≠0)(h1:uw (x.p-y.p) (oV x) x.r≠dJ (-oV y)*dJ y.r)(h2:uw (x.p-y.p) (oV x) x.r≠0):
 bW x y=uw (x.p-y.p) (oV x) x.r*uw ((x.p-y.p)*(x.p-y.p)+x.r-y.r) (2*((x.p-y.p)*oV x)) x.r:=by
 unfold bW;rw[if_neg (by rintro(h|h);exact h0 h;exact h1 h),if_neg h2]
end
def qjm{x:Rl}(h:x.n=true):oV x=((-1:Int):Rat):=by unfold oV;rw[if_pos h];rfl
def qjn{x:Rl}(h:x.n=false):oV x=((1:Int):Rat):=by unfold oV;rw[if_neg (by rw[h];decide)];rfl
def nV{z:Int}(h1: -255<=z)(h2:z<=255):dw (z:Rat)<=2:=Nat.le_trans (qaZ z) (by have:=Bj h1 h2;unfold jH at this;omega)
def Fa:dw 2<=2:=nV (z:=2) (by omega) (by omega)
def wP:dw 0<=2:=nV (z:=0) (by omega) (by omega)
def U8(x:Rl):dw (oV x)<=2:=by
 unfold oV;split
 ·exact nV (z:= -1) (by omega) (by omega)
 ·exact nV (z:=1) (by omega) (by omega)
def gY(x:Rl):Nat:=max (dw x.p) (dw x.r)
def sO(x:Rl):dw x.p<=gY x:=Nat.le_max_left ..
def yj(x:Rl):dw x.r<=gY x:=Nat.le_max_right ..
def yV{q:Rat}{n:Nat}(h:dw q<=n)(h2:2<=n):gY (rl q)<=n:=Nat.max_le.2 ⟨h,Nat.le_trans wP h2⟩
def YD{q:Rat}{n:Nat}(h:dw q<=n):dw (nD q)<=n:=by
 unfold nD;have h1:jH ((cO q.num.natAbs:Nat):Int)<=n:=zW (Nat.le_trans (oM _) (Nat.le_trans (dO q) h));have h2:jH ((cO q.den:Nat):Int)<=n:=zW (Nat.le_trans (oM _) (by have:=Nat.le_trans (dP q) h;unfold jH at this;simpa using this));have:=yG h1 h2 (Nat.le_trans (IJ q) h);omega
def PR(q:Rat):dw (nD q)<=dw q:=YD (Nat.le_refl _)
def qhv{p q r:Rat}:gY (mkR p q r)<=dw p+dw q+dw q+dw r+2:=by
 unfold mkR
 split
 ·refine yV ?_ (by omega);have h1:=bT p (q*nD r);have h2:=aS q (nD r);have h3:=PR r;omega
 ·refine Nat.max_le.2 ⟨?_,?_⟩
  ·show dw p<=_;omega
  ·show dw (q*q*r)<=_;have h1:=aS (q*q) r;have h2:=aS q q;omega
def qeI(q:Rat):(dm q).size<=dw q:=by
 unfold dm
 split
 ·exact Nat.zero_le _
 ·rw[lM];exact Nat.le_max_right ..
end Go.Via
namespace Go.Proofs.YtaffcpfhedadhaaGreatDoor
open Go Go.Via
def SQ(q:Rat)(h:dw q<=5000:=by omega):aP Tryz.prog 105 #[Q q] (.int .i64 0):=by
 have:=Gu (decide (q.num<0)) (bQ q.num.natAbs) false (dm q) (by rw[lM];exact Nat.le_trans (Nat.le_max_left ..) h) (Nat.le_trans (qeI q) h);rw[I4.2 ⟨q,rfl,rfl,rfl,rfl⟩,if_pos rfl] at this;exact this
end Go.Proofs.YtaffcpfhedadhaaGreatDoor
namespace Go.Via
def qbb{q:Rat}(h:ou q.num=true){n:Nat}(h1:jH q.num<=n)(hn:n<=8388608:=by omega):jH (if ou q.num=true then((cO q.num.natAbs:Nat):Int) else 0)<=8388608:=by
 rw[if_pos h];exact zW (Nat.le_trans (oM _) (Nat.le_trans h1 hn))
def qbc{q:Rat}(h:ou (q.den:Int)=true){n:Nat}(h1:jH (q.den:Int)<=n)(hn:n<=8388608:=by omega):jH (if ou (q.den:Int)=true then((cO (q.den:Int).natAbs:Nat):Int) else 0)<=8388608:=by
 rw[if_pos h];exact zW (Nat.le_trans (oM _) (Nat.le_trans h1 hn))
def qbe{q:Rat}(h:ou (q.den:Int)=true):(if ou (q.den:Int)=true then((cO (q.den:Int).natAbs:Nat):Int) else 0)≠0:=by
 rw[if_pos h];have hd:=q.den_nz;unfold ou at h;simp only[Bool.and_eq_true,beq_iff_eq,Int.natAbs_natCast] at h;rw[Int.natAbs_natCast];intro e;have:cO q.den=0:=by omega
 have h2:=h.2;rw[this] at h2;omega
end Go.Via
namespace Go.Via
def WI:I 0= .agg #[aW,aX]:=by show Value.agg #[.bool (decide ((0:Int)<0)),.string (bQ 0)]=_;rw[je];rfl
end Go.Via
namespace Go.Via
def Ob(q:Rat):RV (rl q)= .agg #[.bool (decide (q.num<0)),.string (bQ q.num.natAbs),.bool false,.string (dm q),aW,aX,aW,aX,.bool false]:=by
 have h:bQ (0:Rat).num.natAbs=⟨#[]⟩:=je;have h2:dm 0=⟨#[]⟩:=rfl;show Value.agg #[_,_,_,_,.bool (decide ((0:Rat).num<0)),.string (bQ (0:Rat).num.natAbs),_,.string (dm 0),_]=_;rw[h,h2];rfl
end Go.Via
namespace Go.Proofs.YtaffcpfhedadhaaGreatDoor
open Go Go.RowKit Go.Via
variable[Mo]
def AB(a b r:Rat)(ha:dw a<=500000:=by omega)(hb:dw b<=500000:=by omega)(hr:dw r<=500000:=by omega):aP Tryz.prog 181 #[Q a,Q b,Q r] (.int .i64 (uw a b r)):=by
 refine pB3 40 Tryz.func181 fun w=>?_;refine A2 ?_;refine Bp 4 (fun g0=>?_);refine Bp 4 (fun g1=>?_);refine Bp 4 (fun g2=>?_);refine A4 ?_;refine Dp [2000000] [0,2,4,1,3,5,6,7,8] ?_;refine L4 0 0 ?_;refine L4 1 0 ?_;refine L4 2 0 ?_;refine Pc (fF _) ?_;refine Pc (fF _) ?_;refine Pc (fF _) ?_;refine(Aq (dJ b*dJ r)) (congrArg some (w3 (DV b) (DV r))) ?_;refine oO ?_;refine Rs 19 ?_ ?_<;>intro hb0
 ·have hs19:=eq_of_beq hb0;refine MW ?_;refine E0 ?_;rw[qhr hs19];rfl
 ·have hs19:=ne_of_beq_false hb0;refine A7 ?_;refine Cd ?_ ?_<;>intro hb1
  ·have hs16:=eq_of_beq hb1;refine A9 ?_;refine E0 ?_;rw[qhs hs16];rfl
  ·have hs16:=ne_of_beq_false hb1;refine A7 ?_;refine Cd ?_ ?_<;>intro hb2
   ·have hs25:=eq_of_beq hb2;refine A9 ?_;refine E0 ?_;rw[qht hs19 hs16 hs25]
   ·have hs25:=ne_of_beq_false hb2;refine A4 ?_;refine Dp [] [0,1,2,4,5,7,3,6,8,9,10,11] ?_;refine A1 ?_;refine L4 0 0 ?_;refine L4 0 0 ?_;refine L4 1 0 ?_;refine L4 1 0 ?_;refine L4 2 0 ?_;refine dE [_,_] rfl rfl rfl (aK _ _ (by first|assumption|grind [dW,dX,dY,dZ,eF,dO,dP,bT,bJ,aS,dR,dI,jI]) (by first|assumption|grind [dW,dX,dY,dZ,eF,dO,dP,bT,bJ,aS,dR,dI,jI])) ?_;refine dE [_,_] rfl rfl rfl (aK _ _ (by first|assumption|grind [dW,dX,dY,dZ,eF,dO,dP,bT,bJ,aS,dR,dI,jI]) (by first|assumption|grind [dW,dX,dY,dZ,eF,dO,dP,bT,bJ,aS,dR,dI,jI])) ?_;refine dE [_,_] rfl rfl rfl (aK _ _ (by first|assumption|grind [dW,dX,dY,dZ,eF,dO,dP,bT,bJ,aS,dR,dI,jI]) (by first|assumption|grind [dW,dX,dY,dZ,eF,dO,dP,bT,bJ,aS,dR,dI,jI])) ?_;refine dE [_,_] rfl rfl rfl (DU _ _ (by first|assumption|grind [dW,dX,dY,dZ,eF,dO,dP,bT,bJ,aS,dR,dI,jI]) (by first|assumption|grind [dW,dX,dY,dZ,eF,dO,dP,bT,bJ,aS,dR,dI,jI])) ?_;refine(Aq (dJ a*oC (a*a) (b*b*r))) (congrArg some (w3 (DV a) (qba _ _))) ?_;refine A4 ?_;refine E0 ?_;rw[qhu hs19 hs16 hs25]
def xA(x:Rl):aP Tryz.prog 180 #[RV x] (Q (oV x)):=by
 refine xJ 7 Tryz.func180 fun w=>?_;refine A2 ?_;refine Bp 9 (fun g0=>?_);refine Al 4 qU (fun g1=>?_);refine A9 ?_;refine Cd ?_ ?_<;>intro hb0
 ·refine A2 ?_;refine dE [_] rfl rfl rfl (gG _) ?_;refine Ss 1 ?_;refine A4 ?_;refine G6 1 ?_;rw[qjm hb0];rfl
 ·refine A4 ?_;refine dE [_] rfl rfl rfl (gG _) ?_;refine Ss 1 ?_;refine A3 ?_;refine G6 1 ?_;rw[qjn hb0];rfl
def AL(x:Rl)(hx:gY x<=400000:=by omega):aP Tryz.prog 236 #[RV x] (.int .i64 (uw x.p (oV x) x.r)):=by
 have e1:=Nat.le_trans (sO x) hx;have e2:=Nat.le_trans (yj x) hx;have e3:=U8 x;refine xJ 10 Tryz.func236 fun w=>?_;refine A2 ?_;refine Bp 9 (fun g0=>?_);refine A4 ?_;refine Dp [] [0,1,2,4,5,3,6,7] ?_;refine A1 ?_;refine L4 0 0 ?_;refine L9 0 0 ?_;refine A1 ?_;refine L4 0 4 ?_;refine Pc (xA x) ?_;refine Pc (AB x.p (oV x) x.r) ?_;refine A4 ?_;refine E0 ?_;exact rfl
def dL(x y:Rl)(hx:gY x<=50000:=by omega)(hy:gY y<=50000:=by omega):aP Tryz.prog 130 #[RV x,RV y] (.int .i64 (bW x y)):=by
 have x1:=Nat.le_trans (sO x) hx;have x2:=Nat.le_trans (yj x) hx;have y1:=Nat.le_trans (sO y) hy;have y2:=Nat.le_trans (yj y) hy;have fx:=U8 x;have fy:=U8 y;have l1:=bJ x.p y.p;have l2:=aS (x.p-y.p) (x.p-y.p);have l3:=bT ((x.p-y.p)*(x.p-y.p)) x.r;have l4:=bJ ((x.p-y.p)*(x.p-y.p)+x.r) y.r;have l5:=aS (x.p-y.p) (oV x);have l6:=aS 2 ((x.p-y.p)*oV x);have l7:=Fa;refine oG 65 Tryz.func130 fun w=>?_;refine A2 ?_;refine Bp 9 (fun g0=>?_);refine Bp 9 (fun g1=>?_);refine A4 ?_;refine Dq [3000000] [0,1,2,3,5,7,4,6,8,9,10,11,12,13,14,15] ?_;refine A1 ?_;refine L4 0 0 ?_;refine A1 ?_;refine L4 1 0 ?_;refine L9 0 0 ?_;refine L9 1 0 ?_;refine Pc (fZ x.p y.p) ?_;refine Pc (xA x) ?_;refine Pc (xA y) ?_;refine Pc (vg (oV y)) ?_;refine Al 4 qU (fun g2=>?_);refine Al 4 qU (fun g3=>?_);refine Al 4 qU (fun g4=>?_);refine Ss 2 ?_;refine Ss 3 ?_;refine Ss 4 ?_;refine A3 ?_;refine Dp [2000000] [0,1,2,3,5,7,8,4,6,9,10,11,12] ?_;refine L4 2 0 ?_;refine L4 3 0 ?_;refine A1 ?_;refine L4 0 4 ?_;refine L4 4 0 ?_;refine A1 ?_;refine L4 1 4 ?_;refine Pc (AB (x.p-y.p) (oV x) x.r) ?_;refine Pc (fF (-oV y)) ?_;refine Pc (fF y.r) ?_;refine(Aq (dJ (-oV y)*dJ y.r)) (congrArg some (w3 (DV _) (DV _))) ?_;refine oO ?_;refine Rs 35 ?_ ?_<;>intro hb0
 ·have hs35:=eq_of_beq hb0;refine MW ?_;refine E0 ?_;rw[qeE hs35]
 ·have hs35:=ne_of_beq_false hb0;refine A7 ?_;refine Cd ?_ ?_<;>intro hb1
  ·have hs32:=eq_of_beq hb1;refine A9 ?_;refine E0 ?_;rw[qeF hs32]
  ·have hs32:=ne_of_beq_false hb1;refine A7 ?_;refine Cd ?_ ?_<;>intro hb2
   ·have hs41:=eq_of_beq hb2;refine A9 ?_;refine E0 ?_;rw[qeG hs35 hs32 hs41]
   ·have hs41:=ne_of_beq_false hb2;refine A4 ?_;refine Dq [3000000] [0,1,3,4,6,7,2,5,8,9,10] ?_;refine L4 2 0 ?_;refine L4 2 0 ?_;refine A1 ?_;refine L4 0 4 ?_;refine A1 ?_;refine L4 1 4 ?_;refine Pc (aK (x.p-y.p) (x.p-y.p)) ?_;refine Pc (cu ((x.p-y.p)*(x.p-y.p)) x.r) ?_;refine Pc (fZ ((x.p-y.p)*(x.p-y.p)+x.r) y.r) ?_;refine Al 4 qU (fun g5=>?_);refine Ss 5 ?_;refine A3 ?_;refine Dp [] [0,1,3,4,7,8,2,5,6,9,10,11] ?_;refine A1 ?_;refine L4 5 0 ?_;refine L4 2 0 ?_;refine L4 3 0 ?_;refine A1 ?_;refine L4 0 4 ?_;refine Pc (gG 2) ?_;refine Kr 56 (Q 2) ?_;refine Pc (aK (x.p-y.p) (oV x)) ?_;refine Pc (aK 2 ((x.p-y.p)*oV x)) ?_;refine Pc (AB ((x.p-y.p)*(x.p-y.p)+x.r-y.r) (2*((x.p-y.p)*oV x)) x.r) ?_;refine(Aq (uw (x.p-y.p) (oV x) x.r*uw ((x.p-y.p)*(x.p-y.p)+x.r-y.r) (2*((x.p-y.p)*oV x)) x.r)) (congrArg some (w3 (BR _ _ _) (BR _ _ _))) ?_;refine A4 ?_;refine E0 ?_;rw[qeH hs35 hs32 hs41]
def lg(q:Rat):aP Tryz.prog 86 #[Q q] (RV (rl q)):=by
 refine xJ 5 Tryz.func86 fun w=>?_;refine A2 ?_;refine Bp 4 (fun g0=>?_);refine Al 9 O5 (fun g1=>?_);refine A4 ?_;refine L4 0 0 ?_;refine(Bu [(0,_)]) (JK) ?_;refine Ss 1 ?_;refine A3 ?_;refine Ed9 1 ?_;rw[Ob]
def wQ(x:Rl)(q:Rat)(hx:gY x<=50000:=by omega)(hq:dw q<=50000:=by omega):aP Tryz.prog 118 #[RV x,Q q] (.int .i64 (bW x (rl q))):=by
 refine oG 9 Tryz.func118 fun w=>?_;refine A2 ?_;refine Bp 9 (fun g0=>?_);refine Bp 4 (fun g1=>?_);refine A4 ?_;refine Di [] ?_;refine L9 0 0 ?_;refine L4 1 0 ?_;refine Pc (lg q) ?_;refine Pc (dL x (rl q) hx (yV hq (by omega))) ?_;refine A4 ?_;refine E0 ?_;exact rfl
def KG(x y:Rl)(hx:gY x<=50000:=by omega)(hy:gY y<=50000:=by omega):aP Tryz.prog 83 #[RV x,RV y] (RV (gX x y)):=by
 refine oG 11 Tryz.func83 fun w=>?_;refine A2 ?_;refine Bp 9 (fun g0=>?_);refine Bp 9 (fun g1=>?_);refine Al 9 O5 (fun g2=>?_);refine A5 ?_;refine L9 1 0 ?_;refine L9 0 0 ?_;refine Pc (dL y x hy hx) ?_;refine A3 ?_;refine Cd ?_ ?_<;>intro hb0
 ·refine A2 ?_;refine L9 1 0 ?_;refine Ss 2 ?_;refine A4 ?_;refine Ed9 2 ?_;rw[gX,if_pos (of_decide_eq_true hb0)];rfl
 ·refine A4 ?_;refine L9 0 0 ?_;refine Ss 2 ?_;refine A3 ?_;refine Ed9 2 ?_;rw[gX,if_neg (of_decide_eq_false hb0)];rfl
def vk(z:Int)(hz:jH z<=33554432:=by omega):aP Tryz.prog 159 #[I z] (.tuple #[I (if ou z=true then((cO z.natAbs:Nat):Int) else 0),.bool (ou z)]):=by
 have hr:=oM z.natAbs;have hz2:nb z.natAbs<=33554432:=hz;refine xJ 20 Tryz.func159 fun w=>?_;refine A2 ?_;refine Bp 2 (fun g0=>?_);refine Al 2 xR (fun g1=>?_);refine lm ?_;refine Cd ?_ ?_<;>intro hb0
 ·refine A2 ?_;refine(Bu []) (FZ) ?_;refine Ss 1 ?_;refine A5 ?_;refine bF rfl (bu 1 rfl rfl yK (vs:=[_,_]) rfl rfl (Nat.le_of_ble_eq_true rfl) rfl) (aj rfl) (fun w hL=>⟨?_,hL.below⟩);rw[qa7 hb0,if_neg (by decide),WI]
 ·refine A6 ?_;refine Pc (Az z.natAbs hz2) ?_;refine A5 ?_;refine Dp [] [0,1,3,4,2,5] ?_;refine A4 ?_;refine dE [_,_] rfl rfl rfl (CQ _ _) ?_;refine A3 ?_;refine Cd ?_ ?_<;>intro hb1
  ·refine A2 ?_;refine(Bu []) (FZ) ?_;refine Ss 1 ?_;refine A5 ?_;refine bF rfl (bu 1 rfl rfl yK (vs:=[_,_]) rfl rfl (Nat.le_of_ble_eq_true rfl) rfl) (aj rfl) (fun w hL=>⟨?_,hL.below⟩);rw[qeD hb1,if_neg (by decide),WI]
  ·refine A5 ?_;refine Pc (dF false (cO z.natAbs)) ?_;refine Ss 1 ?_;refine A4 ?_;refine bF rfl (bu 1 rfl rfl yK (vs:=[_,_]) rfl rfl (Nat.le_of_ble_eq_true rfl) rfl) (aj rfl) (fun w hL=>⟨?_,hL.below⟩);rw[qa8 hb0 hb1,if_pos rfl];rfl
def zh(q:Rat)(hq:dw q<=4194303:=by omega):aP Tryz.prog 107 #[Q q] (.tuple #[Q (if BM q=true then nD q else 0),.bool (BM q)]):=by
 have h1:=Nat.le_trans (dO q) hq;have h2:=Nat.le_trans (dP q) hq;have h3:=oM q.num.natAbs;have h4:=oM q.den;refine xJ 30 Tryz.func107 fun w=>?_;refine A2 ?_;refine Bp 4 (fun g0=>?_);refine Al 4 qU (fun g1=>?_);refine A6 ?_;refine L2 0 0 ?_;refine Pc (vk q.num) ?_;refine A3 ?_;refine Al 2 xR (fun g2=>?_);refine Ss 2 ?_;refine A5 ?_;refine L4 0 0 ?_;refine Pc (fV q) ?_;refine Pc (vk (q.den:Int)) ?_;refine A3 ?_;refine Al 2 xR (fun g3=>?_);refine Ss 3 ?_;refine A9 ?_;refine Rs 22 ?_ ?_<;>intro hb0
 ·have hs22:ou q.num=false:=by have e:=hb0;simpa using e
  refine A8 ?_;refine(Bu []) (yL) ?_;refine Ss 1 ?_;refine A5 ?_;refine bF rfl (bu 1 rfl rfl BZ (vs:=[_,_,_,_]) rfl rfl (Nat.le_of_ble_eq_true rfl) rfl) (aj rfl) (fun w hL=>⟨?_,hL.below⟩);rw[Gv,hs22,Bool.false_and,if_neg (by decide),yI]
 ·have hs22:ou q.num=true:=by have e:=hb0;simpa using e
  refine A5 ?_;refine Cd ?_ ?_<;>intro hb1
  ·have hs23:ou (q.den:Int)=false:=by have e:=hb1;simpa using e
   refine A2 ?_;refine(Bu []) (yL) ?_;refine Ss 1 ?_;refine A5 ?_;refine bF rfl (bu 1 rfl rfl BZ (vs:=[_,_,_,_]) rfl rfl (Nat.le_of_ble_eq_true rfl) rfl) (aj rfl) (fun w hL=>⟨?_,hL.below⟩);rw[Gv,hs23,Bool.and_false,if_neg (by decide),yI]
  ·have hs23:ou (q.den:Int)=true:=by have e:=hb1;simpa using e
   refine A4 ?_;refine L2 2 0 ?_;refine L2 3 0 ?_;refine Pc (ku _ _ (qbb hs22 h1) (qbc hs23 h2) (qbe hs23)) ?_;refine Ss 1 ?_;refine A4 ?_;refine bF rfl (bu 1 rfl rfl BZ (vs:=[_,_,_,_]) rfl rfl (Nat.le_of_ble_eq_true rfl) rfl) (aj rfl) (fun w hL=>⟨?_,hL.below⟩);rw[Gv,hs22,hs23];rfl
end Go.Proofs.YtaffcpfhedadhaaGreatDoor
namespace Go.Via
open Go
structure Two(a b:List PU)(m:Rl)(S:Rl->Prop)(ρ:Rl->Int):Prop where
 T:gU S ρ
 ea:Ends S a
 eb:Ends S b
 sa:qG ρ a
 sb:qG ρ b
 sm:S m
 only:∀x,S x->iQ x∨x=m
def D7(i:Iv)(t:Rl):Bool:=(decide (bW i.f t<0)||decide (bW i.f t=0)&& !i.fo)&&(decide (bW t i.t<0)||decide (bW t i.t=0)&& !i.tp)
def qhw{S:Rl->Prop}{ρ:Rl->Int}(hS:∀x,S x->qk2 x)(T:gU S ρ){a b:List PU}(ea:Ends S a)(eb:Ends S b)(sa:qG ρ a)(sb:qG ρ b):Yu ((ay a b).map aZ):=fun p hp=>by
 obtain⟨z,hz,rfl⟩:=List.mem_map.1 hp;rw[lJ T sa sb ea eb] at hz;obtain⟨x,hx,y,hy,hm⟩:=(yf T sb eb sa ea).2 z hz;obtain⟨_,e2,s1,s2,_⟩:=uY T (ea x hx) (eb y hy) hm;obtain⟨u,hu⟩:=hS _ s1;obtain⟨v,hv⟩:=hS _ s2;refine⟨wL z.2 u,wL z.2 v,?_,?_,?_,?_⟩
 ·rw[e2];exact N8 _ _ _
 ·rw[e2];exact N8 _ _ _
 ·unfold aZ;rw[hu,Gp]
 ·unfold aZ;rw[hv,Gp]
def qbf{a b:List PU}(sa:qG jE a)(sb:qG jE b)(ea:Ends iQ a)(eb:Ends iQ b):Yu ((ay a b).map aZ):=
 qhw (fun x ⟨z,hz⟩=>⟨_,hz⟩) qi ea eb sa sb
def SS:∀{l:List oZ} {q:Rat},Yu l->∃M,l.foldl (fun o x=>gX o (gX x.a x.b)) (rl q)=rl M∧q<=M∧∀p∈l,∀u v,p.a=rl u->p.b=rl v->u<=M∧v<=M
 |[],q,_=>⟨q,rfl,Rat.le_refl,by simp⟩
 |p::l,q,h=>by
  obtain⟨u,v,hu,hv,ea,eb⟩:=h p (List.mem_cons_self ..);obtain⟨M,h1,h2,h3⟩:=SS (l:=l) (q:=Sj q (Sj u v)) fun x hx=>h x (List.mem_cons_of_mem _ hx)
  have hq:q<=Sj q (Sj u v)∧u<=Sj q (Sj u v)∧v<=Sj q (Sj u v):=(by unfold Sj;grind);refine⟨M,?_,Rat.le_trans hq.1 h2,fun x hx u' v' eu ev=>?_⟩
  ·rw[List.foldl_cons,ea,eb,rJ,rJ];exact h1
  ·rcases List.mem_cons.1 hx with rfl|hx
   ·rw[ea] at eu;rw[eb] at ev;have e1:u=u':=congrArg Rl.p eu;have e2:v=v':=congrArg Rl.p ev;rw[<-e1,<-e2];exact⟨Rat.le_trans hq.2.1 h2,Rat.le_trans hq.2.2 h2⟩
   ·exact h3 x hx u' v' eu ev
def qbg{l:List oZ}(h:Yu l)(hne:l≠[]):∃M,fO l=rl M∧∀p∈l,∀u v,p.a=rl u->p.b=rl v->u<=M∧v<=M:=by
 cases l with
 |nil=>exact absurd rfl hne
 |cons p l=>
  obtain⟨u,v,hu,hv,ea,eb⟩:=h p (List.mem_cons_self ..);obtain⟨M,h1,h2,h3⟩:=SS (l:=p::l) (q:=u) h;exact⟨M,by show List.foldl _ p.a (p::l)=_;rw[ea];exact h1,h3⟩
end Go.Via
namespace Go.Via
open Go
def KH{a b:List PU}(sa:qG jE a)(sb:qG jE b)(ea:Ends iQ a)(eb:Ends iQ b)(hne:ay a b≠[]):CO ((ay a b).map aZ)=fO ((ay a b).map aZ):=
 (U1 (qbf sa sb ea eb) (by simpa using hne)).symm
def SV{a b:List PU}(sa:qG jE a)(sb:qG jE b)(ea:Ends iQ a)(eb:Ends iQ b):ay a b=ay b a:=U2 qi sa sb ea eb
def qbh{a b:List PU}(sa:qG jE a)(sb:qG jE b)(ea:Ends iQ a)(eb:Ends iQ b)(hne:ay a b≠[]):∃M,fO ((ay a b).map aZ)=rl M:=by
 obtain⟨M,h,_⟩:=qbg (qbf sa sb ea eb) (by simpa using hne);exact⟨M,h⟩
def qbi{a b:List PU}(sa:qG jE a)(sb:qG jE b)(ea:Ends iQ a)(eb:Ends iQ b)(hne:ay a b≠[]):vV a b ((ay a b).map aZ) (fO ((ay a b).map aZ))=0:=by
 obtain⟨M,h⟩:=qbh sa sb ea eb hne;exact qeo (fun x ⟨z,hz⟩=>⟨_,hz⟩) qi sa sb ea eb hne (by rw[h];exact IZ M)
end Go.Via
namespace Go.Via
open Go
def PT(x y:Rl):gX x y=x∨gX x y=y:=by unfold gX;split<;>simp
def YE{l:List oZ}(hne:l≠[]):∃p∈l,fO l=p.a∨fO l=p.b:=by
 have step:∀(l:List oZ) (o:Rl),l.foldl (fun o x=>gX o (gX x.a x.b)) o=o∨∃p∈l,l.foldl (fun o x=>gX o (gX x.a x.b)) o=p.a∨l.foldl (fun o x=>gX o (gX x.a x.b)) o=p.b:=by
  intro l
  induction l with
  |nil=>intro o;exact .inl rfl
  |cons p l ih=>
   intro o;rw[List.foldl_cons];rcases ih (gX o (gX p.a p.b)) with e|⟨q,hq,e⟩
   ·rw[e];rcases PT o (gX p.a p.b) with e1|e1
    ·exact .inl e1
    ·right
     refine⟨p,List.mem_cons_self ..,?_⟩;rw[e1];exact PT _ _
   ·exact .inr ⟨q,List.mem_cons_of_mem _ hq,e⟩
 cases l with
 |nil=>exact absurd rfl hne
 |cons p l=>
  rcases step (p::l) p.a with e|h
  ·exact⟨p,List.mem_cons_self ..,.inl e⟩
  ·exact h
end Go.Via
namespace Go.Via
open Go
def uB(f:Qd):Nat:=max (dw f.c0) (max (dw f.c1) (dw f.c2))
def ql(f:Qd):dw f.c0<=uB f:=Nat.le_max_left ..
def qo(f:Qd):dw f.c1<=uB f:=Nat.le_trans (Nat.le_max_left ..) (Nat.le_max_right ..)
def qL(f:Qd):dw f.c2<=uB f:=Nat.le_trans (Nat.le_max_right ..) (Nat.le_max_right ..)
def Gw{f:Qd}{n:Nat}(h0:dw f.c0<=n)(h1:dw f.c1<=n)(h2:dw f.c2<=n):uB f<=n:=Nat.max_le.2 ⟨h0,Nat.max_le.2 ⟨h1,h2⟩⟩
def Cc(f:Qd):Int:=if f.c2≠0 then 2 else if f.c1≠0 then 1 else if f.c0≠0 then 0 else-1
def PV{q:Rat}:dJ q≠0↔q≠0:=by
 rcases jD q with⟨h,e⟩|⟨h,e⟩|⟨h,e⟩<;>rw[e]<;>simp
 ·grind
 ·grind
 ·exact h
def xB(f:Qd)(t:Rat):dw (wL f t)<=dw f.c0+(dw t+(dw f.c1+(dw t+dw f.c2)+1))+1:=by
 unfold wL;have h1:=aS t f.c2;have h2:=bT f.c1 (t*f.c2);have h3:=aS t (f.c1+t*f.c2);have h4:=bT f.c0 (t*(f.c1+t*f.c2));omega
def qbj(f:Qd)(t:Rat):dw (CJ f t)<=dw f.c1+(dw f.c2+dw f.c2+1+dw t)+1:=by
 unfold CJ;have h1:=bT f.c2 f.c2;have h2:=aS (f.c2+f.c2) t;have h3:=bT f.c1 ((f.c2+f.c2)*t);omega
def U9{f:Qd}{t:Rl}{m n:Nat}(hf:uB f<=m)(ht:gY t<=n):gY (NW f t)<=10*m+10*n+20:=by
 have e0:=Nat.le_trans (ql f) hf;have e1:=Nat.le_trans (qo f) hf;have e2:=Nat.le_trans (qL f) hf;have t1:=Nat.le_trans (sO t) ht;have t2:=Nat.le_trans (yj t) ht;have h1:=xB f t.p;have h2:=qbj f t.p;have h3:=aS f.c2 t.r;have h4:=bT (wL f t.p) (f.c2*t.r);unfold NW;refine Nat.le_trans qhv ?_;have h5:dw (if t.n=true then-CJ f t.p else CJ f t.p)<=dw (CJ f t.p):=by
  split
  ·exact dI _
  ·exact Nat.le_refl _
 omega
end Go.Via
namespace Go.Via
def SX:bQ (0:Rat).num.natAbs=⟨#[]⟩:=je
def dm0:dm 0=⟨#[]⟩:=rfl
def SY:decide ((0:Rat).num<0)=false:=rfl
def WJ(a b:Rat):rM ⟨a,b,0⟩= .agg #[.bool (decide (a.num<0)),.string (bQ a.num.natAbs),.bool false,.string (dm a),.bool (decide (b.num<0)),.string (bQ b.num.natAbs),.bool false,.string (dm b),aW,aX,aW,aX]:=by
 unfold rM;dsimp only;rw[SX,dm0,SY]
def Oc(a:Rat):rM ⟨a,0,0⟩= .agg #[.bool (decide (a.num<0)),.string (bQ a.num.natAbs),.bool false,.string (dm a),aW,aX,aW,aX,aW,aX,aW,aX]:=by
 unfold rM;dsimp only;rw[SX,dm0,SY]
def qbk:rM ⟨0,0,0⟩= .agg #[aW,aX,aW,aX,aW,aX,aW,aX,aW,aX,aW,aX]:=by
 unfold rM;dsimp only;rw[SX,dm0,SY]
def WL:RV (rl 0)= .agg #[aW,aX,aW,aX,aW,aX,aW,aX,.bool false]:=by
 rw[Ob,SX,dm0,SY]
def vw(f:Qd)(t:Rl):Qd:=if t.r=0 then⟨wL f t.p,0,0⟩ else⟨f.c0+f.c2*(t.r-t.p*t.p),CJ f t.p,0⟩
def qp(f g:Qd):Qd:=⟨f.c0-g.c0,f.c1-g.c1,f.c2-g.c2⟩
def qeJ{f g:Qd}{m n:Nat}(hf:uB f<=m)(hg:uB g<=n):uB (qp f g)<=m+n+1:=by
 have f0:=Nat.le_trans (ql f) hf;have f1:=Nat.le_trans (qo f) hf;have f2:=Nat.le_trans (qL f) hf;have g0:=Nat.le_trans (ql g) hg;have g1:=Nat.le_trans (qo g) hg;have g2:=Nat.le_trans (qL g) hg;refine Gw ?_ ?_ ?_
 ·have:=bJ f.c0 g.c0;show dw (f.c0-g.c0)<=_;omega
 ·have:=bJ f.c1 g.c1;show dw (f.c1-g.c1)<=_;omega
 ·have:=bJ f.c2 g.c2;show dw (f.c2-g.c2)<=_;omega
def qk6(f:Qd)(n:Nat):Prop:=n<=3∧(n<=2->f.c2=0)∧(n<=1->f.c1=0)∧(n<=0->f.c0=0)
def qbl{q:Rat}(h:dJ q=0):q=0:=Classical.byContradiction fun e=>PV.2 e h
def qhx{f:Qd}(h:dJ f.c2≠0):Cc f=2:=by unfold Cc;rw[if_pos (PV.1 h)]
def qhy{f:Qd}(h2:f.c2=0)(h:dJ f.c1≠0):Cc f=1:=by unfold Cc;rw[if_neg (fun e=>e h2),if_pos (PV.1 h)]
def qhz{f:Qd}(h2:f.c2=0)(h1:f.c1=0)(h:dJ f.c0≠0):Cc f=0:=by unfold Cc;rw[if_neg (fun e=>e h2),if_neg (fun e=>e h1),if_pos (PV.1 h)]
def qhA{f:Qd}(h2:f.c2=0)(h1:f.c1=0)(h:f.c0=0):Cc f= -1:=by unfold Cc;rw[if_neg (fun e=>e h2),if_neg (fun e=>e h1),if_neg (fun e=>e h)]
def S9{f:Qd}(h:f.c2=0):Cc f<=1:=by unfold Cc;rw[if_neg (fun e=>e h)];split<;>(try split)<;>omega
def WM(f:Qd): -1<=Cc f∧Cc f<=2:=by
 unfold Cc
 by_cases h2:f.c2=0<;>by_cases h1:f.c1=0<;>by_cases h0:f.c0=0<;>simp[h0,h1,h2]
def qhB{r:Rat}(h:0<=r):¬r.num.sign<0:=by
 have:¬dJ r<0:=by rcases jD r with⟨_,e⟩|⟨e1,_⟩|⟨_,e⟩<;>(try rw[e])<;>(try decide);grind
 exact this
end Go.Via
namespace Go.Proofs.YtaffcpfhedadhaaGreatDoor
open Go Go.RowKit Go.Via
def Ih(x:Rl):aP Tryz.prog 318 #[RV x] (.tuple #[Q (if x.r=0 then x.p else 0),.bool (decide (x.r=0))]):=by
 refine xJ 11 Tryz.func318 fun w=>?_;refine A2 ?_;refine Bp 9 (fun g0=>?_);refine Al 4 qU (fun g1=>?_);refine A7 ?_;refine L4 0 4 ?_;refine(Bu []) (yL) ?_;refine aT 6 (Q 0) rfl yI.symm ?_;refine xM rfl rfl rfl rfl Z5 (Z8 _ _) ?_;refine A2 ?_;refine Cd ?_ ?_<;>intro hb0
 ·have hs7:x.r≠0:=by have e:=hb0;simpa using e
  refine A2 ?_;refine(Bu []) (yL) ?_;refine aT 8 (Q 0) rfl yI.symm ?_;refine Ss 1 ?_;refine A5 ?_;refine bF rfl (bu 1 rfl rfl BZ (vs:=[_,_,_,_]) rfl rfl (Nat.le_of_ble_eq_true rfl) rfl) (aj rfl) (fun w hL=>⟨?_,hL.below⟩);rw[if_neg hs7,decide_eq_false hs7];rfl
 ·have hs7:x.r=0:=by have e:=hb0;simpa using e
  refine A5 ?_;refine L4 0 0 ?_;refine Ss 1 ?_;refine A4 ?_;refine bF rfl (bu 1 rfl rfl BZ (vs:=[_,_,_,_]) rfl rfl (Nat.le_of_ble_eq_true rfl) rfl) (aj rfl) (fun w hL=>⟨?_,hL.below⟩);rw[if_pos hs7,decide_eq_true hs7];rfl
def sQ(c:Rat):aP Tryz.prog 74 #[Q c] (rM ⟨c,0,0⟩):=by
 refine xJ 5 Tryz.func74 fun w=>?_;refine A2 ?_;refine Bp 4 (fun g0=>?_);refine Al 12 G5 (fun g1=>?_);refine A4 ?_;refine L4 0 0 ?_;refine(Bu [(0,_)]) (ZY) ?_;refine Ss 1 ?_;refine A3 ?_;refine JQ 1 ?_;rw[Oc]
def jM(a b:Rat):aP Tryz.prog 141 #[Q a,Q b] (rM ⟨a,b,0⟩):=by
 refine oG 8 Tryz.func141 fun w=>?_;refine A2 ?_;refine Bp 4 (fun g0=>?_);refine Bp 4 (fun g1=>?_);refine Al 12 G5 (fun g2=>?_);refine A4 ?_;refine L4 0 0 ?_;refine L4 1 0 ?_;refine(Bu [(0,_),(1,_)]) (ZZ) ?_;refine Ss 2 ?_;refine A3 ?_;refine JQ 2 ?_;rw[WJ]
def Ii(f g:Qd)(hf:uB f<=1000000:=by omega)(hg:uB g<=1000000:=by omega):aP Tryz.prog 92 #[rM f,rM g] (rM ⟨f.c0+g.c0,f.c1+g.c1,f.c2+g.c2⟩):=by
 have f0:=Nat.le_trans (ql f) hf;have f1:=Nat.le_trans (qo f) hf;have f2:=Nat.le_trans (qL f) hf;have g0:=Nat.le_trans (ql g) hg;have g1:=Nat.le_trans (qo g) hg;have g2:=Nat.le_trans (qL g) hg;refine oG 21 Tryz.func92 fun w=>?_;refine A2 ?_;refine Bp 12 (fun g0=>?_);refine Bp 12 (fun g1=>?_);refine Al 12 G5 (fun g2=>?_);refine A3 ?_;refine Dp [] [0,1,2,3,5,6,7,8,10,11,12,13,4,9,14,15,16] ?_;refine A1 ?_;refine L4 0 0 ?_;refine A1 ?_;refine L4 1 0 ?_;refine A1 ?_;refine L4 0 4 ?_;refine A1 ?_;refine L4 1 4 ?_;refine A1 ?_;refine L4 0 8 ?_;refine A1 ?_;refine L4 1 8 ?_;refine Pc (cu f.c0 g.c0) ?_;refine Pc (cu f.c1 g.c1) ?_;refine Pc (cu f.c2 g.c2) ?_;refine(Bu [(0,_),(1,_),(2,_)]) (F5) ?_;refine Ss 2 ?_;refine A3 ?_;refine JQ 2 ?_;exact rfl
def zi(f g:Qd)(hf:uB f<=1000000:=by omega)(hg:uB g<=1000000:=by omega):aP Tryz.prog 77 #[rM f,rM g] (rM (qp f g)):=by
 have f0:=Nat.le_trans (ql f) hf;have f1:=Nat.le_trans (qo f) hf;have f2:=Nat.le_trans (qL f) hf;have g0:=Nat.le_trans (ql g) hg;have g1:=Nat.le_trans (qo g) hg;have g2:=Nat.le_trans (qL g) hg;refine oG 21 Tryz.func77 fun w=>?_;refine A2 ?_;refine Bp 12 (fun g0=>?_);refine Bp 12 (fun g1=>?_);refine Al 12 G5 (fun g2=>?_);refine A3 ?_;refine Dp [] [0,1,2,3,5,6,7,8,10,11,12,13,4,9,14,15,16] ?_;refine A1 ?_;refine L4 0 0 ?_;refine A1 ?_;refine L4 1 0 ?_;refine A1 ?_;refine L4 0 4 ?_;refine A1 ?_;refine L4 1 4 ?_;refine A1 ?_;refine L4 0 8 ?_;refine A1 ?_;refine L4 1 8 ?_;refine Pc (fZ f.c0 g.c0) ?_;refine Pc (fZ f.c1 g.c1) ?_;refine Pc (fZ f.c2 g.c2) ?_;refine(Bu [(0,_),(1,_),(2,_)]) (F5) ?_;refine Ss 2 ?_;refine A3 ?_;refine JQ 2 ?_;exact rfl
def yl(f:Qd)(t:Rat)(hf:uB f<=500000:=by omega)(ht:dw t<=500000:=by omega):aP Tryz.prog 143 #[rM f,Q t] (Q (wL f t)):=by
 have f0:=Nat.le_trans (ql f) hf;have f1:=Nat.le_trans (qo f) hf;have f2:=Nat.le_trans (qL f) hf;have l1:=aS t f.c2;have l2:=bT f.c1 (t*f.c2);have l3:=aS t (f.c1+t*f.c2);refine oG 17 Tryz.func143 fun w=>?_;refine A2 ?_;refine Bp 12 (fun g0=>?_);refine Bp 4 (fun g1=>?_);refine Al 4 qU (fun g2=>?_);refine A3 ?_;refine Di [] ?_;refine A1 ?_;refine L4 0 0 ?_;refine L4 1 0 ?_;refine A1 ?_;refine L4 0 4 ?_;refine L4 1 0 ?_;refine A1 ?_;refine L4 0 8 ?_;refine Pc (aK t f.c2) ?_;refine Pc (cu f.c1 (t*f.c2)) ?_;refine Pc (aK t (f.c1+t*f.c2)) ?_;refine Pc (cu f.c0 (t*(f.c1+t*f.c2))) ?_;refine Ss 2 ?_;refine A3 ?_;refine G6 2 ?_;exact rfl
def wR(f:Qd)(t:Rat)(hf:uB f<=500000:=by omega)(ht:dw t<=500000:=by omega):aP Tryz.prog 144 #[rM f,Q t] (Q (CJ f t)):=by
 have f0:=Nat.le_trans (ql f) hf;have f1:=Nat.le_trans (qo f) hf;have f2:=Nat.le_trans (qL f) hf;have l1:=bT f.c2 f.c2;have l2:=aS (f.c2+f.c2) t;refine oG 15 Tryz.func144 fun w=>?_;refine A2 ?_;refine Bp 12 (fun g0=>?_);refine Bp 4 (fun g1=>?_);refine Al 4 qU (fun g2=>?_);refine A3 ?_;refine Dp [] [0,1,2,3,4,5,7,6,8,9,10] ?_;refine A1 ?_;refine L4 0 4 ?_;refine A1 ?_;refine L4 0 8 ?_;refine A1 ?_;refine L4 0 8 ?_;refine L4 1 0 ?_;refine Pc (cu f.c2 f.c2) ?_;refine Pc (aK (f.c2+f.c2) t) ?_;refine Pc (cu f.c1 ((f.c2+f.c2)*t)) ?_;refine Ss 2 ?_;refine A3 ?_;refine G6 2 ?_;exact rfl
def Hq(p q r:Rat)(h0:0<=r:=by omega)(hp:dw p<=500000:=by omega)(hq:dw q<=500000:=by omega)(hr:dw r<=500000:=by omega):aP Tryz.prog 146 #[Q p,Q q,Q r] (.tuple #[RV (mkR p q r),.int .i64 0]):=by
 have l1:=aS q q;have l2:=PR r;have l3:=aS q (nD r);refine pB3 36 Tryz.func146 fun w=>?_;refine A2 ?_;refine Bp 4 (fun g0=>?_);refine Bp 4 (fun g1=>?_);refine Bp 4 (fun g2=>?_);refine Al 9 O5 (fun g3=>?_);refine A6 ?_;refine L4 2 0 ?_;refine Pc (fF r) ?_;refine A3 ?_;refine Cd ?_ ?_<;>intro hb0
 ·exact absurd (of_decide_eq_true hb0) (by have:=(qhB h0);omega)
 ·refine A5 ?_;refine L4 2 0 ?_;refine Pc (zh r) ?_;refine A3 ?_;refine Al 4 qU (fun g4=>?_);refine Ss 4 ?_;refine A8 ?_;refine Cd ?_ ?_<;>intro hb1
  ·have hs:BM r=true:=hb1;refine A1 ?_;refine Di [] ?_;refine L4 0 0 ?_;refine L4 1 0 ?_;refine L4 4 0 ?_;refine aT 22 (Q (nD r)) rfl (by rw[hs,if_pos rfl];rfl) ?_;refine Pc (aK q (nD r)) ?_;refine Pc (cu p (q*nD r)) ?_;refine(Bu [(0,_)]) (JK) ?_;refine Ss 3 ?_;refine A5 ?_;refine bF rfl (bu 3 rfl rfl iT (vs:=[_,_,_,_,_,_,_,_,_]) rfl rfl (Nat.le_of_ble_eq_true rfl) rfl) (aj rfl) (fun w hL=>⟨?_,hL.below⟩);rw[mkR,hs,if_pos rfl,Ob]
  ·have hs:BM r=false:=hb1;refine A3 ?_;refine Dp [] [0,1,2,4,6,3,5,7,8,9,10,11] ?_;refine L4 0 0 ?_;refine L4 1 0 ?_;refine L4 1 0 ?_;refine L4 2 0 ?_;refine L4 1 0 ?_;refine Pc (aK q q) ?_;refine Pc (aK (q*q) r) ?_;refine Pc (fF q) ?_;refine A1 ?_;refine(Bu [(0,_),(1,_),(2,_)]) (ZX) ?_;refine Ss 3 ?_;refine A4 ?_;refine bF rfl (bu 3 rfl rfl iT (vs:=[_,_,_,_,_,_,_,_,_]) rfl rfl (Nat.le_of_ble_eq_true rfl) rfl) (aj rfl) (fun w hL=>⟨?_,hL.below⟩);rw[mkR,hs,if_neg (by decide)];rfl
def vz(f:Qd)(t:Rl)(h0:0<=t.r:=by omega)(hf:uB f<=10000:=by omega)(ht:gY t<=10000:=by omega):aP Tryz.prog 94 #[rM f,RV t] (RV (NW f t)):=by
 have f0:=Nat.le_trans (ql f) hf;have f1:=Nat.le_trans (qo f) hf;have f2:=Nat.le_trans (qL f) hf;have t1:=Nat.le_trans (sO t) ht;have t2:=Nat.le_trans (yj t) ht;have l1:=xB f t.p;have l2:=qbj f t.p;have l3:=aS f.c2 t.r;have l4:=bT (wL f t.p) (f.c2*t.r);have l5:=dI (CJ f t.p);refine oG 36 Tryz.func94 fun w=>?_;refine A2 ?_;refine Bp 12 (fun g0=>?_);refine Bp 9 (fun g1=>?_);refine Al 9 O5 (fun g2=>?_);refine A3 ?_;refine Dq [3000000] [0,1,2,4,5,6,7,3,8,9,10,11] ?_;refine ut 0 0 ?_;refine A1 ?_;refine L4 1 0 ?_;refine A1 ?_;refine L4 0 8 ?_;refine A1 ?_;refine L4 1 4 ?_;refine Pc (yl f t.p) ?_;refine Pc (aK f.c2 t.r) ?_;refine Pc (cu (wL f t.p) (f.c2*t.r)) ?_;refine Al 4 qU (fun g3=>?_);refine Ss 3 ?_;refine A4 ?_;refine ut 0 0 ?_;refine A1 ?_;refine L4 1 0 ?_;refine Pc (wR f t.p) ?_;refine Al 4 qU (fun g4=>?_);refine Ss 4 ?_;refine A9 ?_;refine Cd ?_ ?_<;>intro hb0
 ·refine A1 ?_;refine L4 4 0 ?_;refine Pc (vg (CJ f t.p)) ?_;refine Ss 4 ?_;refine A4 ?_;refine L4 3 0 ?_;refine L4 4 0 ?_;refine A1 ?_;refine L4 1 4 ?_;refine Pc (Hq (wL f t.p+f.c2*t.r) (-CJ f t.p) t.r h0) ?_;refine A3 ?_;refine Al 9 O5 (fun g5=>?_);refine Ss 5 ?_;refine A5 ?_;refine L9 5 0 ?_;refine Ss 2 ?_;refine A3 ?_;refine Ed9 2 ?_;rw[NW,if_pos hb0];rfl
 ·refine A4 ?_;refine L4 3 0 ?_;refine L4 4 0 ?_;refine A1 ?_;refine L4 1 4 ?_;refine Pc (Hq (wL f t.p+f.c2*t.r) (CJ f t.p) t.r h0) ?_;refine A3 ?_;refine Al 9 O5 (fun g5=>?_);refine Ss 5 ?_;refine A5 ?_;refine L9 5 0 ?_;refine Ss 2 ?_;refine A3 ?_;refine Ed9 2 ?_;rw[NW,if_neg (by rw[hb0];decide)];rfl
def o5(f:Qd)(t:Rl)(hf:uB f<=100000:=by omega)(ht:gY t<=100000:=by omega):aP Tryz.prog 316 #[rM f,RV t] (rM (vw f t)):=by
 have f0:=Nat.le_trans (ql f) hf;have f1:=Nat.le_trans (qo f) hf;have f2:=Nat.le_trans (qL f) hf;have t1:=Nat.le_trans (sO t) ht;have t2:=Nat.le_trans (yj t) ht;have l1:=aS t.p t.p;have l2:=bJ t.r (t.p*t.p);have l3:=aS f.c2 (t.r-t.p*t.p);refine oG 38 Tryz.func316 fun w=>?_;refine A2 ?_;refine Bp 12 (fun g0=>?_);refine Bp 9 (fun g1=>?_);refine Al 12 G5 (fun g2=>?_);refine A5 ?_;refine L9 1 0 ?_;refine Pc (Ih t) ?_;refine A3 ?_;refine Al 4 qU (fun g3=>?_);refine Ss 3 ?_;refine A8 ?_;refine Cd ?_ ?_<;>intro hb0
 ·have hs13:t.r=0:=of_decide_eq_true hb0;refine A2 ?_;refine ut 0 0 ?_;refine L4 3 0 ?_;refine aT 15 (Q t.p) rfl (by rw[if_pos hs13];rfl) ?_;refine Pc (yl f t.p) ?_;refine Pc (sQ (wL f t.p)) ?_;refine Ss 2 ?_;refine A4 ?_;refine JQ 2 ?_;rw[vw,if_pos hs13];rfl
 ·have hs13:¬t.r=0:=of_decide_eq_false hb0;refine A3 ?_;refine Dq [3000000] [0,1,2,3,4,5,6,7,8,9] ?_;refine A1 ?_;refine L4 1 4 ?_;refine A1 ?_;refine L4 1 0 ?_;refine A1 ?_;refine L4 1 0 ?_;refine Pc (aK t.p t.p) ?_;refine Pc (fZ t.r (t.p*t.p)) ?_;refine Al 4 qU (fun g4=>?_);refine Ss 4 ?_;refine A3 ?_;refine Dp [] [0,1,2,3,4,7,8,9,5,6,10,11,12] ?_;refine A1 ?_;refine L4 0 0 ?_;refine A1 ?_;refine L4 0 8 ?_;refine L4 4 0 ?_;refine ut 0 0 ?_;refine A1 ?_;refine L4 1 0 ?_;refine Pc (aK f.c2 (t.r-t.p*t.p)) ?_;refine Pc (cu f.c0 (f.c2*(t.r-t.p*t.p))) ?_;refine Pc (wR f t.p) ?_;refine Pc (jM (f.c0+f.c2*(t.r-t.p*t.p)) (CJ f t.p)) ?_;refine Ss 2 ?_;refine A3 ?_;refine JQ 2 ?_;rw[vw,if_neg hs13];rfl
def tH(t v u s:Rat)(h0:u-t≠0:=by omega)(h1:dw t<=100000:=by omega)(h2:dw v<=100000:=by omega)(h3:dw u<=100000:=by omega)(h4:dw s<=100000:=by omega):aP Tryz.prog 134 #[Q t,Q v,Q u,Q s] (.tuple #[rM ⟨v-(s-v)/(u-t)*t,(s-v)/(u-t),0⟩,.int .i64 0]):=by
 have l1:=bJ s v;have l2:=bJ u t;have l3:=dR (s-v) (u-t);have l4:=aS ((s-v)/(u-t)) t;refine pB4 33 Tryz.func134 fun w=>?_;refine A2 ?_;refine Bp 4 (fun g0=>?_);refine Bp 4 (fun g1=>?_);refine Bp 4 (fun g2=>?_);refine Bp 4 (fun g3=>?_);refine Al 12 G5 (fun g4=>?_);refine A4 ?_;refine Dq [3000000] [0,1,3,4,2,5,6,7,8,10,11,9,12] ?_;refine L4 3 0 ?_;refine L4 1 0 ?_;refine L4 2 0 ?_;refine L4 0 0 ?_;refine Pc (fZ s v) ?_;refine Pc (fZ u t) ?_;refine Pc (AA (s-v) (u-t)) ?_;refine A2 ?_;refine Al 4 qU (fun g5=>?_);refine Ss 5 ?_;refine A1 ?_;refine aT 21 (.int .i64 0) rfl (by rw[if_neg h0]) ?_;refine A8 ?_;refine Kr 23 (.bool false) ?_;refine A6 ?_;refine Dp [] [0,1,2,5,3,4,6,7,8] ?_;refine L4 1 0 ?_;refine L4 5 0 ?_;refine L4 0 0 ?_;refine L4 5 0 ?_;refine Pc (aK ((s-v)/(u-t)) t) ?_;refine Pc (fZ v ((s-v)/(u-t)*t)) ?_;refine Pc (jM (v-(s-v)/(u-t)*t) ((s-v)/(u-t))) ?_;refine Ss 4 ?_;refine A4 ?_;refine bF rfl (bu 4 rfl rfl XV (vs:=[_,_,_,_,_,_,_,_,_,_,_,_]) rfl rfl (Nat.le_of_ble_eq_true rfl) rfl) (aj rfl) (fun w hL=>⟨?_,hL.below⟩);exact rfl
def vC(f:Qd):aP Tryz.prog 72 #[rM f] (.int .i64 (Cc f)):=by
 refine xJ 22 Tryz.func72 fun w=>?_;refine A2 ?_;refine Bp 12 (fun g0=>?_);refine A6 ?_;refine L4 0 0 ?_;refine A1 ?_;refine L4 0 4 ?_;refine A1 ?_;refine L4 0 8 ?_;refine(Bu [(0,_),(1,_),(2,_)]) (qds) ?_;refine Al 12 qkB (fun g1=>?_);refine Ss 1 ?_;refine A9 ?_;refine El (ι:={n:Nat // qk6 f n}) (fun⟨n,hc⟩=>([(3,dV g1),(4,.int .i64 ((n:Int)-1))],[⟨some g0,91,qel f,12,true⟩,⟨some g1,174,qel f,12,true⟩],n)) ⟨3,by omega,fun h=>absurd h (by omega),fun h=>absurd h (by omega),fun h=>absurd h (by omega)⟩ ?_;rintro⟨n,hc⟩;(try dsimp only)
 have hn3:=hc.1;rcases(show n=3∨n=2∨n=1∨n=0 by omega) with rfl|rfl|rfl|rfl
 ·refine A5 ?_;refine Kr 13 (.bool true) ?_;refine lm ?_;refine tY 8 qgO BZ rfl rfl rfl rfl (by omega) (by omega) (by show 0+Int.toNat _*4=_;rfl) ?_;refine L4 1 8 ?_;refine Pc (fF f.c2) ?_;refine A3 ?_;refine Cd ?_ ?_<;>intro hb2
  ·have hs20:dJ f.c2≠0:=by have e:=hb2;revert e;unfold dJ;simp
   refine lX ?_;refine E0 ?_;rw[qhx hs20];rfl
  ·have hs20:dJ f.c2=0:=by have e:=hb2;revert e;unfold dJ;simp
   refine A5 ?_;refine(Aq (((2:Nat):Int)-1)) (by exact(congrArg some (by rfl))) ?_;refine A3 ?_;exact Nl ⟨2,⟨by omega,fun _=>qbl hs20,fun h=>absurd h (by omega),fun h=>absurd h (by omega)⟩⟩ (hμ:=(by show 2<3;omega)) (hL:=eG.auto)
 ·refine A5 ?_;refine Kr 13 (.bool true) ?_;refine lm ?_;refine tY 4 qgO BZ rfl rfl rfl rfl (by omega) (by omega) (by show 0+Int.toNat _*4=_;rfl) ?_;refine L4 1 4 ?_;refine Pc (fF f.c1) ?_;refine A3 ?_;refine Cd ?_ ?_<;>intro hb2
  ·have hs20:dJ f.c1≠0:=by have e:=hb2;revert e;unfold dJ;simp
   refine lX ?_;refine E0 ?_;rw[qhy (hc.2.1 (by omega)) hs20];rfl
  ·have hs20:dJ f.c1=0:=by have e:=hb2;revert e;unfold dJ;simp
   refine A5 ?_;refine(Aq (((1:Nat):Int)-1)) (by exact(congrArg some (by rfl))) ?_;refine A3 ?_;exact Nl ⟨1,⟨by omega,fun _=>hc.2.1 (by omega),fun _=>qbl hs20,fun h=>absurd h (by omega)⟩⟩ (hμ:=(by show 1<2;omega)) (hL:=eG.auto)
 ·refine A5 ?_;refine Kr 13 (.bool true) ?_;refine lm ?_;refine tY 0 qgO BZ rfl rfl rfl rfl (by omega) (by omega) (by show 0+Int.toNat _*4=_;rfl) ?_;refine L4 1 0 ?_;refine Pc (fF f.c0) ?_;refine A3 ?_;refine Cd ?_ ?_<;>intro hb2
  ·have hs20:dJ f.c0≠0:=by have e:=hb2;revert e;unfold dJ;simp
   refine lX ?_;refine E0 ?_;rw[qhz (hc.2.1 (by omega)) (hc.2.2.1 (by omega)) hs20];rfl
  ·have hs20:dJ f.c0=0:=by have e:=hb2;revert e;unfold dJ;simp
   refine A5 ?_;refine(Aq (((0:Nat):Int)-1)) (by exact(congrArg some (by rfl))) ?_;refine A3 ?_;exact Nl ⟨0,⟨by omega,fun _=>hc.2.1 (by omega),fun _=>hc.2.2.1 (by omega),fun _=>qbl hs20⟩⟩ (hμ:=(by show 0<1;omega)) (hL:=eG.auto)
 ·refine A5 ?_;refine Kr 13 (.bool false) ?_;refine D5 ?_;refine E0 ?_;rw[qhA (hc.2.1 (by omega)) (hc.2.2.1 (by omega)) (hc.2.2.2 (by omega))]
def Ij(f g:Qd)(z1:f.c2=0)(z2:g.c2=0)(hf:uB f<=100000:=by omega)(hg:uB g<=100000:=by omega):aP Tryz.prog 142 #[rM f,rM g] (.tuple #[rM ⟨f.c0*g.c0,f.c0*g.c1+f.c1*g.c0,f.c0*g.c2+f.c2*g.c0+f.c1*g.c1⟩,.int .i64 0]):=by
 have f0:=Nat.le_trans (ql f) hf;have f1:=Nat.le_trans (qo f) hf;have f2:=Nat.le_trans (qL f) hf;have g0:=Nat.le_trans (ql g) hg;have g1:=Nat.le_trans (qo g) hg;have g2:=Nat.le_trans (qL g) hg;have m0:=aS f.c0 g.c0;have m1:=aS f.c0 g.c1;have m2:=aS f.c1 g.c0;have m3:=aS f.c0 g.c2;have m4:=aS f.c2 g.c0;have m5:=aS f.c1 g.c1;have m6:=bT (f.c0*g.c2) (f.c2*g.c0);have d1:=S9 z1;have d2:=S9 z2;have d3:=WM f;have d4:=WM g;refine oG 66 Tryz.func142 fun w=>?_;refine A2 ?_;refine Bp 12 (fun g0=>?_);refine Bp 12 (fun g1=>?_);refine Al 12 G5 (fun g2=>?_);refine A4 ?_;refine Dp [] [0,2,1,3,4,5] ?_;refine ut 0 0 ?_;refine ut 1 0 ?_;refine Pc (vC f) ?_;refine Pc (vC g) ?_;refine lm ?_;refine Rs 15 ?_ ?_<;>intro hb0
 ·refine A4 ?_;refine Rs 19 ?_ ?_<;>intro hb1
  ·refine A2 ?_;refine(Aq (Cc f+Cc g)) (by exact(congrArg some (wi (by omega) (by omega) rfl))) ?_;refine A1 ?_;refine aT 23 (.bool false) rfl (congrArg Value.bool (decide_eq_false (by omega))) ?_;refine lX ?_;refine Dp [] (0::1::2::3::4::6::7::8::9::10::12::13::14::15::16::19::20::21::22::23::25::26::27::28::29::32::33::34::35::36::5::11::17::18::24::30::31::37::38::39::40::41::[]) ?_ (hc:=(oz (0::0::2::0::8::31::0::0::128::0::512::2047::0::0::8192::0::32768::131071::262143::0::0::1048576::0::4194304::16777215::0::0::67108864::0::268435456::1073741823::2147483647::0::0::8589934592::0::34359738368::137438953471::274877906943::549755813887::1099511627775::2199023255551::[]) (by kernel_rfl)));refine A2 ?_;refine L4 0 0 ?_;refine A1 ?_;refine L4 1 0 ?_;refine A2 ?_;refine L4 0 0 ?_;refine A1 ?_;refine L4 1 4 ?_;refine A2 ?_;refine L4 0 4 ?_;refine A1 ?_;refine L4 1 0 ?_;refine A2 ?_;refine L4 0 0 ?_;refine A1 ?_;refine L4 1 8 ?_;refine A2 ?_;refine L4 0 8 ?_;refine A1 ?_;refine L4 1 0 ?_;refine A2 ?_;refine L4 0 4 ?_;refine A1 ?_;refine L4 1 4 ?_;refine gV [_,_] rfl rfl rfl rfl (aK f.c0 g.c0) ?_;refine gV [_,_] rfl rfl rfl rfl (aK f.c0 g.c1) ?_;refine gV [_,_] rfl rfl rfl rfl (aK f.c1 g.c0) ?_;refine Pc (cu (f.c0*g.c1) (f.c1*g.c0)) ?_;refine gV [_,_] rfl rfl rfl rfl (aK f.c0 g.c2) ?_;refine gV [_,_] rfl rfl rfl rfl (aK f.c2 g.c0) ?_;refine Pc (cu (f.c0*g.c2) (f.c2*g.c0)) ?_;refine gV [_,_] rfl rfl rfl rfl (aK f.c1 g.c1) ?_;refine Pc (cu (f.c0*g.c2+f.c2*g.c0) (f.c1*g.c1)) ?_;refine(Bu [(0,_),(1,_),(2,_)]) (F5) ?_;refine Ss 2 ?_;refine A4 ?_;refine bF rfl (bu 2 rfl rfl XV (vs:=[_,_,_,_,_,_,_,_,_,_,_,_]) rfl rfl (Nat.le_of_ble_eq_true rfl) rfl) (aj rfl) (fun w hL=>⟨?_,hL.below⟩);exact rfl
  ·refine IG ?_;refine Dp [] (0::1::2::3::4::6::7::8::9::10::12::13::14::15::16::19::20::21::22::23::25::26::27::28::29::32::33::34::35::36::5::11::17::18::24::30::31::37::38::39::40::41::[]) ?_ (hc:=(oz (0::0::2::0::8::31::0::0::128::0::512::2047::0::0::8192::0::32768::131071::262143::0::0::1048576::0::4194304::16777215::0::0::67108864::0::268435456::1073741823::2147483647::0::0::8589934592::0::34359738368::137438953471::274877906943::549755813887::1099511627775::2199023255551::[]) (by kernel_rfl)));refine A2 ?_;refine L4 0 0 ?_;refine A1 ?_;refine L4 1 0 ?_;refine A2 ?_;refine L4 0 0 ?_;refine A1 ?_;refine L4 1 4 ?_;refine A2 ?_;refine L4 0 4 ?_;refine A1 ?_;refine L4 1 0 ?_;refine A2 ?_;refine L4 0 0 ?_;refine A1 ?_;refine L4 1 8 ?_;refine A2 ?_;refine L4 0 8 ?_;refine A1 ?_;refine L4 1 0 ?_;refine A2 ?_;refine L4 0 4 ?_;refine A1 ?_;refine L4 1 4 ?_;refine gV [_,_] rfl rfl rfl rfl (aK f.c0 g.c0) ?_;refine gV [_,_] rfl rfl rfl rfl (aK f.c0 g.c1) ?_;refine gV [_,_] rfl rfl rfl rfl (aK f.c1 g.c0) ?_;refine Pc (cu (f.c0*g.c1) (f.c1*g.c0)) ?_;refine gV [_,_] rfl rfl rfl rfl (aK f.c0 g.c2) ?_;refine gV [_,_] rfl rfl rfl rfl (aK f.c2 g.c0) ?_;refine Pc (cu (f.c0*g.c2) (f.c2*g.c0)) ?_;refine gV [_,_] rfl rfl rfl rfl (aK f.c1 g.c1) ?_;refine Pc (cu (f.c0*g.c2+f.c2*g.c0) (f.c1*g.c1)) ?_;refine(Bu [(0,_),(1,_),(2,_)]) (F5) ?_;refine Ss 2 ?_;refine A4 ?_;refine bF rfl (bu 2 rfl rfl XV (vs:=[_,_,_,_,_,_,_,_,_,_,_,_]) rfl rfl (Nat.le_of_ble_eq_true rfl) rfl) (aj rfl) (fun w hL=>⟨?_,hL.below⟩);exact rfl
 ·refine A20 ?_;refine Dp [] (0::1::2::3::4::6::7::8::9::10::12::13::14::15::16::19::20::21::22::23::25::26::27::28::29::32::33::34::35::36::5::11::17::18::24::30::31::37::38::39::40::41::[]) ?_ (hc:=(oz (0::0::2::0::8::31::0::0::128::0::512::2047::0::0::8192::0::32768::131071::262143::0::0::1048576::0::4194304::16777215::0::0::67108864::0::268435456::1073741823::2147483647::0::0::8589934592::0::34359738368::137438953471::274877906943::549755813887::1099511627775::2199023255551::[]) (by kernel_rfl)));refine A2 ?_;refine L4 0 0 ?_;refine A1 ?_;refine L4 1 0 ?_;refine A2 ?_;refine L4 0 0 ?_;refine A1 ?_;refine L4 1 4 ?_;refine A2 ?_;refine L4 0 4 ?_;refine A1 ?_;refine L4 1 0 ?_;refine A2 ?_;refine L4 0 0 ?_;refine A1 ?_;refine L4 1 8 ?_;refine A2 ?_;refine L4 0 8 ?_;refine A1 ?_;refine L4 1 0 ?_;refine A2 ?_;refine L4 0 4 ?_;refine A1 ?_;refine L4 1 4 ?_;refine gV [_,_] rfl rfl rfl rfl (aK f.c0 g.c0) ?_;refine gV [_,_] rfl rfl rfl rfl (aK f.c0 g.c1) ?_;refine gV [_,_] rfl rfl rfl rfl (aK f.c1 g.c0) ?_;refine Pc (cu (f.c0*g.c1) (f.c1*g.c0)) ?_;refine gV [_,_] rfl rfl rfl rfl (aK f.c0 g.c2) ?_;refine gV [_,_] rfl rfl rfl rfl (aK f.c2 g.c0) ?_;refine Pc (cu (f.c0*g.c2) (f.c2*g.c0)) ?_;refine gV [_,_] rfl rfl rfl rfl (aK f.c1 g.c1) ?_;refine Pc (cu (f.c0*g.c2+f.c2*g.c0) (f.c1*g.c1)) ?_;refine(Bu [(0,_),(1,_),(2,_)]) (F5) ?_;refine Ss 2 ?_;refine A4 ?_;refine bF rfl (bu 2 rfl rfl XV (vs:=[_,_,_,_,_,_,_,_,_,_,_,_]) rfl rfl (Nat.le_of_ble_eq_true rfl) rfl) (aj rfl) (fun w hL=>⟨?_,hL.below⟩);exact rfl
def yt(f g:Qd)(t:Rl)(hf:uB f<=10000:=by omega)(hg:uB g<=10000:=by omega)(ht:gY t<=10000:=by omega):aP Tryz.prog 317 #[rM f,rM g,RV t] (.bool (decide (vw (qp f g) t=⟨0,0,0⟩))):=by
 have hs:=qeJ hf hg;refine pB3 14 Tryz.func317 fun w=>?_;refine A2 ?_;refine Bp 12 (fun g0=>?_);refine Bp 12 (fun g1=>?_);refine Bp 9 (fun g2=>?_);refine A4 ?_;refine Dp [] [0,1,3,5,2,4,6,7] ?_;refine ut 0 0 ?_;refine ut 1 0 ?_;refine L9 2 0 ?_;refine(Bu []) (qgG) ?_;refine aT 12 (rM ⟨0,0,0⟩) rfl qbk.symm ?_;refine Pc (zi f g) ?_;refine Pc (o5 (qp f g) t) ?_;refine gu rfl rfl rfl rfl qkG (qk3 _ _) ?_;refine A4 ?_;refine E0 ?_;exact rfl
def DW(f:Qd)(t:Rl)(h0:0<=t.r:=by omega)(hf:uB f<=10000:=by omega)(ht:gY t<=10000:=by omega):aP Tryz.prog 207 #[rM f,RV t] (.int .i64 (uw (NW f t).p (oV (NW f t)) (NW f t).r)):=by
 have l1:=U9 hf ht;refine oG 9 Tryz.func207 fun w=>?_;refine A2 ?_;refine Bp 12 (fun g0=>?_);refine Bp 9 (fun g1=>?_);refine A5 ?_;refine ut 0 0 ?_;refine L9 1 0 ?_;refine Pc (vz f t h0 hf ht) ?_;refine Pc (AL (NW f t)) ?_;refine A4 ?_;refine E0 ?_;exact rfl
end Go.Proofs.YtaffcpfhedadhaaGreatDoor
namespace Go.Via
open Go
def jV(i:Iv):Nat:=max (gY i.f) (gY i.t)
def kw(i:Iv):gY i.f<=jV i:=Nat.le_max_left ..
def kz(i:Iv):gY i.t<=jV i:=Nat.le_max_right ..
def xC{i:Iv}{n:Nat}(h1:gY i.f<=n)(h2:gY i.t<=n):jV i<=n:=Nat.max_le.2 ⟨h1,h2⟩
def qbm{x:Rl}(h:x.r.num.sign= -1):eH x=false:=by
 unfold eH;rw[if_pos];show x.r.num.sign<0;omega
def Oe{x:Rl}(h:x.r.num.sign=0):eH x= !x.n:=by
 unfold eH;have h:dJ x.r=0:=h;rw[if_neg (by omega),if_pos h]
def Tc{x:Rl}(h1:x.r.num.sign≠ -1)(h0:x.r.num.sign≠0):eH x= !BM x.r:=by
 unfold eH;have h1:dJ x.r≠ -1:=h1;have h0:dJ x.r≠0:=h0;rw[if_neg (by rcases DV x.r with e|e|e<;>omega),if_neg h0]
def Og(i:Iv):jQ i=decide (xg i.b i.e<0):=by
 unfold jQ xg Iv.b Iv.e;dsimp only;have h:=uP i.f i.t
 by_cases h0:bW i.f i.t=0
 ·clear h;rw[h0];cases i.fo<;>cases i.tp<;>rfl
 ·rw[if_pos h0,decide_eq_false h0];simp
def Oh{a b:Iv}{n:Nat}(ha:jV a<=n)(hb:jV b<=n):gY (sH a b).1<=n:=by
 have:=kw a;have:=kw b;unfold sH;split<;>(try split)<;>dsimp only<;>omega
def Oi{a b:Iv}{n:Nat}(ha:jV a<=n)(hb:jV b<=n):gY (uS a b).1<=n:=by
 have:=kz a;have:=kz b;unfold uS;split<;>(try split)<;>dsimp only<;>omega
def Td{a b:Iv}{n:Nat}(ha:jV a<=n)(hb:jV b<=n):jV (eU a b)<=n:=xC (Oh ha hb) (Oi ha hb)
def qeK{a b:Iv}(h:bW a.f b.f<0):sH a b=(b.f,b.fo):=by unfold sH;rw[if_pos h]
def WN{a b:Iv}(h:¬bW a.f b.f<0)(h0:bW a.f b.f=0):sH a b=(a.f,a.fo||b.fo):=by unfold sH;rw[if_neg h,if_pos h0]
def qeL{a b:Iv}(h:¬bW a.f b.f<0)(h0:bW a.f b.f≠0):sH a b=(a.f,a.fo):=by unfold sH;rw[if_neg h,if_neg h0]
def qeM{a b:Iv}(h:0<bW a.t b.t):uS a b=(b.t,b.tp):=by unfold uS;rw[if_pos h]
def WO{a b:Iv}(h:¬0<bW a.t b.t)(h0:bW a.t b.t=0):uS a b=(a.t,a.tp||b.tp):=by unfold uS;rw[if_neg h,if_pos h0]
def qeN{a b:Iv}(h:¬0<bW a.t b.t)(h0:bW a.t b.t≠0):uS a b=(a.t,a.tp):=by unfold uS;rw[if_neg h,if_neg h0]
def qjo:List Value:=[aW,aX,aW,aX,aW,aX,aW,aX,.bool false,aW,aX,aW,aX,aW,aX,aW,aX,.bool false,.bool false,.bool false]
end Go.Via
namespace Go.Via
open Go
structure jh(α:Type)(c:α->List Value)(k:Nat):Prop where
 len:∀x,(c x).length=k
 one:∀x,∀v∈c x,v.oneCell'=true
section
variable{α:Type}{c:α->List Value}{k:Nat}
def ah(c:α->List Value)(l:List α):List Value:=l.flatMap c
def qbn:ah c []=[]:=rfl
def ig(x:α)(l:List α):ah c (x::l)=c x++ah c l:=List.flatMap_cons
def kC(l m:List α):ah c (l++m)=ah c l++ah c m:=List.flatMap_append
def bH(l:List α)(x:α):ah c l++c x=ah c (l++[x]):=by rw[kC,ig,qbn,List.append_nil]
def jh.length(h:jh α c k):∀(l:List α),(ah c l).length=l.length*k
 |[]=>by simp[ah]
 |x::l=>by rw[ig,List.length_append,h.len,jh.length h l,List.length_cons,Nat.succ_mul,Nat.add_comm]
def jh.get(h:jh α c k):∀{l:List α} {i:Nat} {x:α},l[i]? =some x->((ah c l).drop (i*k)).take k=c x
 |[],i,x,hx=>by simp at hx
 |y::l,0,x,hx=>by
  simp at hx;subst hx;rw[ig,Nat.zero_mul,List.drop_zero,List.take_append_of_le_length (by rw[h.len];exact Nat.le_refl _),List.take_of_length_le (by rw[h.len];exact Nat.le_refl _)]
 |y::l,i+1,x,hx=>by
  have e1:(i+1)*k=(c y).length+i*k:=(by rw[h.len,Nat.succ_mul,Nat.add_comm]);rw[ig,e1,List.drop_length_add_append];exact jh.get h (by simpa using hx)
def jh.sub(h:jh α c k){l:List α}{i:Nat}{x:α}(hx:l[i]? =some x)(o n:Nat)(hn:o+n<=k):((ah c l).drop (i*k+o)).take n=((c x).drop o).take n:=by
 rw[<-h.get hx,<-List.drop_drop,List.drop_take,List.take_take]
 congr 1
 omega
def jh.ones(h:jh α c k)(l:List α):∀v∈ah c l,v.oneCell'=true:=fun v hv=>by
 obtain⟨x,_,hv⟩:=List.mem_flatMap.1 hv;exact h.one x v hv
def jh.ne(h:jh α c k)(hk:0<k){l:List α}(hl:0<l.length):ah c l≠[]:=fun e=>by
 have:=h.length l;rw[e,List.length_nil] at this;have:=Nat.mul_pos hl hk;omega
def jh.set(h:jh α c k):∀{l:List α} {i:Nat} (x:α),i<l.length->(ah c l).take (i*k)++c x++(ah c l).drop (i*k+k)=ah c (l.set i x)
 |[],i,x,hi=>by simp at hi
 |y::l,0,x,_=>by
  rw[Nat.zero_mul,List.take_zero,List.nil_append,Nat.zero_add,ig,List.drop_append_of_le_length (by rw[h.len];exact Nat.le_refl _),List.drop_of_length_le (by rw[h.len];exact Nat.le_refl _),List.nil_append,List.set_cons_zero,ig]
 |y::l,i+1,x,hi=>by
  have ih:=jh.set h (l:=l) (i:=i) x (by simpa using hi);have e1:(i+1)*k=(c y).length+i*k:=(by rw[h.len,Nat.succ_mul,Nat.add_comm]);rw[ig,e1,Nat.add_assoc,List.take_length_add_append,List.drop_length_add_append,List.set_cons_succ,ig,<-ih];simp
end
def dD{α:Type}{l:List α}{i:Nat}{x:α}(hx:l[i]? =some x):l.take i++[x]=l.take (i+1):=by
 rw[List.take_add_one,hx];rfl
end Go.Via
