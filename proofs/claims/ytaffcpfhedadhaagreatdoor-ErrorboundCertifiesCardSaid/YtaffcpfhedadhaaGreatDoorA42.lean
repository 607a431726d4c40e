/-
  Part 42 (chapter 32): lemmas, walks. Each theorem states its own conditions.
-/
import Derived.Test.YtaffcpfhedadhaaGreatDoorA12
import Derived.Test.YtaffcpfhedadhaaGreatDoorA13
import Derived.Test.YtaffcpfhedadhaaGreatDoorA32
import Derived.Test.YtaffcpfhedadhaaGreatDoorA39
import Derived.Test.YtaffcpfhedadhaaGreatDoorA40
import Derived.Test.YtaffcpfhedadhaaGreatDoorA41
import Derived.Test.YtaffcpfhedadhaaGreatDoorA28
set_option linter.all false
set_option maxRecDepth 20000
set_option maxHeartbeats 20000000
namespace Go.Proofs.YtaffcpfhedadhaaGreatDoor
open Go Go.RowKit Go.Via
def LG(ta xa ya tb xb yb ch:Nat)(a b:List rJ)(ab bb:Option Nat)(pa pb:List Value)(ac bc:Nat):aH Tryz.prog 12 #[.agg #[.int .u8 (ta:Nat),.int .u8 (xa:Nat),.int .u8 (ya:Nat),az ab pa.length a.length ac,.int .u8 (tb:Nat),.int .u8 (xb:Nat),.int .u8 (yb:Nat),az bb pb.length b.length bc,.int .u8 (ch:Nat)]] (.bool (decide (a.length<=6)&&decide (b.length<=6))):=by
 refine uX 15 Tryz.func12 fun w=>?_;refine A2 ?_;refine Bp 9 (fun g0=>?_);refine pq ?_;refine Rs 8 ?_ ?_<;>intro haQ
 ·have hs1:a.length<=6:=by have e:=of_decide_eq_true haQ;omega
  refine kN ?_;refine E0 ?_;exact congrArg (fun z=>Ending.returned (.bool z)) (by rw[decide_eq_true hs1,Bool.true_and];exact decide_eq_decide.2 (by omega))
 ·have hs1:¬a.length<=6:=by have e:=of_decide_eq_false haQ;omega
  refine kN ?_;refine E0 ?_;exact congrArg (fun z=>Ending.returned (.bool z)) (by rw[decide_eq_false hs1];rfl)
def Ti(n e:Int)(up dn:Nat)(hn1: -9223372036854775808<=n:=by omega)(hn2:n<=9223372036854775807:=by omega)(he1: -9223372036854775808<=e:=by omega)(he2:e<=9223372036854775807:=by omega)(hup:up<256:=by omega)(hdn:dn<256:=by omega):aH Tryz.prog 110 #[.agg #[.int .i64 n,.int .i64 e,.int .u8 (up:Nat),.int .u8 (dn:Nat)]] (Q (LD n e up dn)):=by
 refine uX 47 Tryz.func110 fun w=>?_;refine A2 ?_;refine Bp 4 (fun g0=>?_);refine Al 4 oM (fun g1=>?_);refine A9 ?_;refine nU (nt:=47) (X:={E:Int // E=if e=0 then 1 else e}) (fun⟨E,hE⟩=>[(1,dD g0),(2,dD g1),(3,.int .i64 E)]) (fun⟨E,hE⟩=>[⟨some g0,55,[.int .i64 n,.int .i64 e,.int .u8 (up:Nat),.int .u8 (dn:Nat)],4,true⟩,⟨some g1,36,[aO,aP,aO,aP],4,true⟩]) ?_ ?_
 ·refine A6 ?_;refine Cd ?_ ?_<;>intro haQ
  ·have hq0:e=0:=of_decide_eq_true haQ;refine A4 ?_;exact Ni ⟨1,(if_pos hq0).symm⟩ [0,1]
  ·have hq0:¬e=0:=of_decide_eq_false haQ;refine A2 ?_;exact Ni ⟨e,(if_neg hq0).symm⟩ [0,1]
 rintro⟨E,hE⟩;show At _ ⟨47,[(1,dD g0),(2,dD g1),(3,.int .i64 E)],[⟨some g0,55,[.int .i64 n,.int .i64 e,.int .u8 (up:Nat),.int .u8 (dn:Nat)],4,true⟩,⟨some g1,36,[aO,aP,aO,aP],4,true⟩]⟩ _;have hE0:=qml hE;have hE1: -9223372036854775808<=E∧E<=9223372036854775807:=by subst hE;split<;>omega
 refine A4 ?_;refine Pc (vW n hn1 hn2) ?_;refine A1 ?_;refine Pc (vW E hE1.1 hE1.2) ?_;refine Al 2 wG (fun g2=>?_);refine Al 2 wG (fun g3=>?_);refine Ss 2 ?_;refine Ss 3 ?_;refine A2 ?_;refine nU (nt:=47) (X:={i:Nat // i<=8∧n*256^i=n*256^(up%9)}) (fun⟨i,hi8,hi⟩=>[(1,dD g0),(2,dD g1),(4,dD g2),(5,dD g3)]) (fun⟨i,hi8,hi⟩=>[⟨some g0,55,[.int .i64 n,.int .i64 e,.int .u8 (up:Nat),.int .u8 (dn:Nat)],4,true⟩,⟨some g1,36,[aO,aP,aO,aP],4,true⟩,⟨some g2,34,ICc (n*256^i),2,true⟩,⟨some g3,34,ICc (E*256^0),2,true⟩]) ?_ ?_
 ·refine A6 ?_;refine El (ι:={i:Nat // i<=up%9}) (fun⟨i,hi⟩=>([(1,dD g0),(2,dD g1),(4,dD g2),(5,dD g3),(6,.int .u8 (i:Nat))],[⟨some g0,55,[.int .i64 n,.int .i64 e,.int .u8 (up:Nat),.int .u8 (dn:Nat)],4,true⟩,⟨some g1,36,[aO,aP,aO,aP],4,true⟩,⟨some g2,34,ICc (n*256^i),2,true⟩,⟨some g3,34,ICc (E*256^0),2,true⟩],up%9-i)) ⟨0,Nat.zero_le _⟩ ?_ (hL:=(ak [some 0,some 1,some 2,some 3] ⟨pR,pR,⟨_,rfl,aK (congrArg (fun z=>(⟨some g2,34,ICc z,2,true⟩:aC)) (show n*256^0=n by simp))⟩,⟨_,rfl,aK (congrArg (fun z=>(⟨some g3,34,ICc z,2,true⟩:aC)) (show E*256^0=E by simp))⟩,trivial⟩ rfl rfl));rintro⟨i,hi⟩;(try dsimp only);replace hi:i<=up%9:=hi;refine A6 ?_;refine(Dv ((up%9:Nat):Int)) (congrArg some (jy _ _ rfl rfl)) ?_;refine A2 ?_;refine Rs 22 ?_ ?_<;>intro haQ
  ·have hlt:i<up%9:=by have e:=of_decide_eq_true haQ;omega
   refine A6 ?_;refine Cd ?_ ?_<;>intro hbQ
   ·have hz0:n*256^i≠0:=by rw[UM] at hbQ;have e:=of_decide_eq_true hbQ;omega
    refine A7 ?_;refine Uc (p:=sK (n*256^i).natAbs) (q:=[0]) rfl rfl rfl rfl rfl rfl (N7 (by omega)) (by rw[zu];have:=N8 (z:=n*256^i) rfl hn1 hn2 (by omega);show _+1<=_;omega) ?_;refine A1 ?_;refine Ss 2 ?_;refine A5 ?_;refine(Aq ((i+1:Nat):Int)) (by exact(congrArg some (qgD (by omega)))) ?_;refine A3 ?_;exact Nl ⟨i+1,hlt⟩ (hμ:=(by show up%9-(i+1)<up%9-i;omega)) (hL:=(ak [some 0,some 1,some 2,some 3] ⟨pR,pR,⟨_,rfl,aK (congrArg (fun c=>(⟨some g2,34,c,2,true⟩:aC)) (Xi hz0 i rfl).symm)⟩,pR,trivial⟩ rfl rfl))
   ·have hz0:n*256^i=0:=by rw[UM] at hbQ;have e:=of_decide_eq_false hbQ;omega
    refine A5 ?_;exact Ni ⟨i,by omega,by rw[show n=0 from(Int.mul_eq_zero.1 hz0).resolve_right (Int.pow_ne_zero (by omega))];simp⟩ [0,1,2,3]
  ·have hiu:i=up%9:=by have e:=of_decide_eq_false haQ;omega
   refine lw ?_;exact Ni ⟨i,by omega,by rw[hiu]⟩ [0,1,2,3]
 rintro⟨i,hi8,hi⟩;show At _ ⟨47,[(1,dD g0),(2,dD g1),(4,dD g2),(5,dD g3)],[⟨some g0,55,[.int .i64 n,.int .i64 e,.int .u8 (up:Nat),.int .u8 (dn:Nat)],4,true⟩,⟨some g1,36,[aO,aP,aO,aP],4,true⟩,⟨some g2,34,ICc (n*256^i),2,true⟩,⟨some g3,34,ICc (E*256^0),2,true⟩]⟩ _;refine A7 ?_;refine El (ι:={j:Nat // j<=dn%9}) (fun⟨j,hj⟩=>([(1,dD g0),(2,dD g1),(4,dD g2),(5,dD g3),(7,.int .u8 (j:Nat))],[⟨some g0,55,[.int .i64 n,.int .i64 e,.int .u8 (up:Nat),.int .u8 (dn:Nat)],4,true⟩,⟨some g1,36,[aO,aP,aO,aP],4,true⟩,⟨some g2,34,ICc (n*256^i),2,true⟩,⟨some g3,34,ICc (E*256^j),2,true⟩],dn%9-j)) ⟨0,Nat.zero_le _⟩ ?_ (hL:=eH.auto);rintro⟨j,hj⟩;(try dsimp only);replace hj:j<=dn%9:=hj;refine A6 ?_;refine(Dv ((dn%9:Nat):Int)) (congrArg some (jy _ _ rfl rfl)) ?_;refine A3 ?_;refine Cd ?_ ?_<;>intro haQ
 ·have hlt:j<dn%9:=by have e:=of_decide_eq_true haQ;omega
  refine A7 ?_;refine Uc (p:=sK (E*256^j).natAbs) (q:=[0]) rfl rfl rfl rfl rfl rfl (N7 (by have:=qcB hE0 j;omega)) (by rw[zu];have:=N8 (z:=E*256^j) rfl hE1.1 hE1.2 (by omega);show _+1<=_;omega) ?_;refine A1 ?_;refine Ss 3 ?_;refine A5 ?_;refine(Aq ((j+1:Nat):Int)) (by exact(congrArg some (qgD (by omega)))) ?_;refine A3 ?_;exact Nl ⟨j+1,hlt⟩ (hμ:=(by show dn%9-(j+1)<dn%9-j;omega)) (hL:=(ak [some 0,some 1,some 2,some 3] ⟨pR,pR,pR,⟨_,rfl,aK (congrArg (fun c=>(⟨some g3,34,c,2,true⟩:aC)) (Xi (qcB hE0 j) j rfl).symm)⟩,trivial⟩ rfl rfl))
 ·have hjd:j=dn%9:=by have e:=of_decide_eq_false haQ;omega
  subst hjd;refine A7 ?_;refine L2 2 0 ?_;refine L2 3 0 ?_;refine dL [_,_] rfl rfl rfl (EK (n*256^i) (E*256^(dn%9)) (qcB hE0 _) (Nat.le_trans (N8 rfl hn1 hn2 hi8) (by omega)) (Nat.le_trans (N8 rfl hE1.1 hE1.2 (by omega)) (by omega))) ?_;refine Ss 1 ?_;refine A3 ?_;refine Dz 1 ?_;exact congrArg (fun q=>Ending.returned (Q q)) (by rw[hi,hE];rfl)
def Tj(n e:Int)(up dn:Nat)(hn1: -9223372036854775808<=n:=by omega)(hn2:n<=9223372036854775807:=by omega)(he1: -9223372036854775808<=e:=by omega)(he2:e<=9223372036854775807:=by omega)(hup:up<256:=by omega)(hdn:dn<256:=by omega):aH Tryz.prog 57 #[.agg #[.int .i64 n,.int .i64 e,.int .u8 (up:Nat),.int .u8 (dn:Nat)]] (Q (LD n e up dn)):=by
 refine uX 5 Tryz.func57 fun w=>?_;refine A2 ?_;refine Bp 4 (fun g0=>?_);refine Al 4 oM (fun g1=>?_);refine A4 ?_;refine L4 0 0 ?_;refine Pc (Ti n e up dn hn1 hn2 he1 he2 hup hdn) ?_;refine Ss 1 ?_;refine A3 ?_;refine Dz 1 ?_;exact rfl
def LH(n e:Int)(up dn:Nat)(hn1: -9223372036854775808<=n:=by omega)(hn2:n<=9223372036854775807:=by omega)(he1: -9223372036854775808<=e:=by omega)(he2:e<=9223372036854775807:=by omega)(hup:up<256:=by omega)(hdn:dn<256:=by omega):aH Tryz.prog 25 #[.agg #[.int .i64 n,.int .i64 e,.int .u8 (up:Nat),.int .u8 (dn:Nat)]] (Q (yV (LD n e up dn))):=by
 refine uX 12 Tryz.func25 fun w=>?_;refine A2 ?_;refine Bp 4 (fun g0=>?_);refine Al 4 oM (fun g1=>?_);refine A4 ?_;refine L4 0 0 ?_;refine Pc (Tj n e up dn hn1 hn2 he1 he2 hup hdn) ?_;refine Al 4 oM (fun g2=>?_);refine Ss 2 ?_;refine A5 ?_;refine L4 2 0 ?_;refine Pc (jH (LD n e up dn)) ?_;refine A3 ?_;refine Cd ?_ ?_<;>intro haQ
 ·have hab:yV (LD n e up dn)= -LD n e up dn:=qcC haQ;refine A2 ?_;refine L4 2 0 ?_;refine Pc (zY (LD n e up dn)) ?_;refine Ss 1 ?_;refine A4 ?_;refine Dz 1 ?_;exact congrArg (fun q=>Ending.returned (Q q)) hab.symm
 ·have hab:yV (LD n e up dn)=LD n e up dn:=qcD haQ;refine A4 ?_;refine L4 2 0 ?_;refine Ss 1 ?_;refine A3 ?_;refine Dz 1 ?_;exact congrArg (fun q=>Ending.returned (Q q)) hab.symm
end Go.Proofs.YtaffcpfhedadhaaGreatDoor
namespace Go.Via
open Go
theorem qiH(x:Rl):(((x.p.den:Int)*(x.p.den:Int))*(x.r.num*(x.r.den:Int))).natAbs=(x.p.den*x.p.den)*(x.r.num.natAbs*x.r.den):=by
 rw[Int.natAbs_mul,Int.natAbs_mul,Int.natAbs_mul];rfl
def qiI{x:Rl}(h:0<=x.r):¬((x.p.den:Int)*(x.p.den:Int))*(x.r.num*(x.r.den:Int))<0:=by
 have h1:0<=x.r.num:=Rat.num_nonneg.2 h;have h2:0<=((x.p.den:Int)*(x.p.den:Int))*(x.r.num*(x.r.den:Int)):=Int.mul_nonneg (Int.mul_nonneg (Int.natCast_nonneg _) (Int.natCast_nonneg _)) (Int.mul_nonneg h1 (Int.natCast_nonneg _));omega
def qcE{x:Rl}(hn:x.n=false):(x.p.num*(x.r.den:Int)+((bQ (((x.p.den:Int)*(x.p.den:Int))*(x.r.num*(x.r.den:Int))).natAbs:Nat):Int))/((x.p.den:Int)*(x.r.den:Int))=lJ x:=by
 unfold lJ;rw[if_neg (by rw[hn];decide),qiH];simp only[Int.natCast_mul]
def qcF(x:Rl):(x.p.den:Int)*(x.r.den:Int)≠0:=Int.mul_ne_zero (by have:=x.p.den_pos;omega) (by have:=x.r.den_pos;omega)
def U3{x y:Rl}{r:Rat}(h:su x y=some r):(dN x=true∧dN y=true∧gz x<=1000∧gz y<=1000∧¬U2 x<0∧0<U2 y∧0<bK y (rl ((lJ x+1:Int):Rat))∧x.n=false∧jm (lJ x)<=4000)∧r=((lJ x+1:Int):Rat):=by
 unfold su at h
 split at h
 ·rename_i hc;exact⟨hc,by injection h with e;exact e.symm⟩
 ·cases h
section
variable{sm:Rl->Rl->Option Rat}{q:Qd}{i:Iv}
def Dx{s:Int}(h:EY sm q i=some s):bK i.f i.t<0∧∃r,sm i.f i.t=some r∧bV r<=5000∧s=U2 (Nq q (rl r)):=by
 unfold EY at h
 split at h
 ·rename_i hc
  refine⟨hc,?_⟩;rcases hs:sm i.f i.t with _|r
  ·rw[hs] at h;cases h
  ·rw[hs] at h;simp only[Option.bind_some] at h
   split at h
   ·rename_i h5;injection h with e;exact⟨r,rfl,h5,e.symm⟩
   ·cases h
 ·cases h
variable{x:Rl}{k:Nat}{rs:List Rl}{rest:Iv}{o l:List (Iv×Int)}
def qgE(hx:rs[k]? =some x)(hin:UO i x=false)(h:gV sm q i (rs.drop k) rest o=some l):gV sm q i (rs.drop (k+1)) rest o=some l:=by
 rw[xe hx,gV,if_pos hin] at h;exact h
def qgF(hx:rs[k]? =some x)(hin:UO i x=true)(hlt:bK rest.f x<0)(h:gV sm q i (rs.drop k) rest o=some l):∃s,EY sm q ⟨rest.f,x,rest.fo,true⟩=some s∧gV sm q i (rs.drop (k+1)) ⟨x,rest.t,true,rest.tp⟩ (o++[(⟨rest.f,x,rest.fo,true⟩,s)]++[(⟨x,x,false,false⟩,0)])=some l:=by
 rw[xe hx,gV,if_neg (by rw[hin];decide),if_pos hlt] at h;rcases hp:EY sm q ⟨rest.f,x,rest.fo,true⟩ with _|s
 ·rw[hp] at h;cases h
 ·rw[hp] at h;exact⟨s,rfl,by rw[List.append_assoc];exact h⟩
def qgG(hx:rs[k]? =some x)(hin:UO i x=true)(hge:¬bK rest.f x<0)(h:gV sm q i (rs.drop k) rest o=some l):gV sm q i (rs.drop (k+1)) ⟨x,rest.t,true,rest.tp⟩ (o++[(⟨x,x,false,false⟩,0)])=some l:=by
 rw[xe hx,gV,if_neg (by rw[hin];decide),if_neg hge] at h;exact h
def Xj(ho:jP rest=true)(h:gV sm q i (rs.drop rs.length) rest o=some l):∃s,EY sm q rest=some s∧l=o++[(rest,s)]:=by
 rw[List.drop_length,gV,if_pos ho] at h;rcases hp:EY sm q rest with _|s
 ·rw[hp] at h;cases h
 ·rw[hp] at h;injection h with e;exact⟨s,rfl,e.symm⟩
def Xk(ho:jP rest=false)(h:gV sm q i (rs.drop rs.length) rest o=some l):l=o:=by
 rw[List.drop_length,gV,if_neg (by rw[ho];decide)] at h
 injection h with e;exact e.symm
end
def qcG{q:Qd}(h2:q.c2≠0)(hr:q.c1/(-2*q.c2)*(q.c1/(-2*q.c2))-q.c0/q.c2=0):dI q=[rl (q.c1/(-2*q.c2))]:=by
 unfold dI;rw[if_neg h2];dsimp only;rw[hr,if_neg (by decide),if_pos rfl]
end Go.Via
namespace Go.Proofs.YtaffcpfhedadhaaGreatDoor
open Go Go.RowKit Go.Via
def Am(q:Rat):aH Tryz.prog 279 #[Q q] (I q.num):=by
 refine uX 5 Tryz.func279 fun w=>?_;refine A2 ?_;refine Bp 4 (fun g0=>?_);refine Al 2 wG (fun g1=>?_);refine A5 ?_;refine L2 0 0 ?_;refine Ss 1 ?_;refine A3 ?_;refine PY 1 ?_;exact rfl
def KJ(z:Int)(h0:¬z<0)(hz:nb z.natAbs<=33554432:=by omega):aH Tryz.prog 280 #[I z] (.tuple #[I ((bQ z.natAbs:Nat):Int),.int .i64 0]):=by
 refine uX 11 Tryz.func280 fun w=>?_;refine A2 ?_;refine Bp 2 (fun g0=>?_);refine Al 2 wG (fun g1=>?_);refine kN ?_;refine Cd ?_ ?_<;>intro haQ
 ·exact absurd (of_decide_eq_true haQ) h0
 ·refine A6 ?_;refine Pc (zZ z.natAbs hz) ?_;refine Pc (dC false (bQ z.natAbs)) ?_;refine Ss 1 ?_;refine A4 ?_;refine bF rfl (bn 1 rfl rfl yl (vs:=[_,_]) rfl rfl (Nat.le_of_ble_eq_true rfl) rfl) (aj rfl) (fun w hL=>⟨?_,hL.below⟩);exact rfl
def yR(p q:Rat)(hp:bV p<=4194303:=by omega)(hq:bV q<=4194303:=by omega):aH Tryz.prog 234 #[Q p,Q q] (Q (p/q)):=by
 refine nG 14 Tryz.func234 fun w=>?_;refine A2 ?_;refine Bp 4 (fun g0=>?_);refine Bp 4 (fun g1=>?_);refine Al 4 oM (fun g2=>?_);refine A4 ?_;refine L4 0 0 ?_;refine L4 1 0 ?_;refine Pc (Aa p q hp hq) ?_;refine A3 ?_;refine Al 4 oM (fun g3=>?_);refine Ss 3 ?_;refine A5 ?_;refine L4 3 0 ?_;refine Ss 2 ?_;refine A3 ?_;refine Dz 2 ?_;exact rfl
def PW(z:Int)(hz:jm z<=8388608:=by omega):aH Tryz.prog 261 #[I z] (Q (z:Rat)):=by
 refine uX 12 Tryz.func261 fun w=>?_;refine A2 ?_;refine Bp 2 (fun g0=>?_);refine Al 4 oM (fun g1=>?_);refine A3 ?_;refine Dq [3000000] [0,1,2,3,4,6,7,5,8] ?_;refine L2 0 0 ?_;refine Pc (lQ 1) ?_;refine Pc (yM z 1 hz (Nat.le_trans (AQ (by omega) (by omega)) (by omega))) ?_;refine A2 ?_;refine aQ 9 (Q (z:Rat)) rfl (congrArg Q (qP z)) ?_;refine Al 4 oM (fun g2=>?_);refine Ss 2 ?_;refine A6 ?_;refine L4 2 0 ?_;refine Ss 1 ?_;refine A3 ?_;refine Dz 1 ?_;exact rfl
def PX(x:Rl)(hx:gz x<=1000)(h0:0<=x.r)(hn:x.n=false):aH Tryz.prog 260 #[RV x] (I (lJ x)):=by
 have e1:=Nat.le_trans (rD x) hx;have e2:=Nat.le_trans (xO x) hx;have n1:=lL e1;have d1:=kQ e1;have n2:=lL e2;have d2:=kQ e2;have z1:=lK d1 d1;have z2:=lK n2 d2;have z3:=lK z1 z2;have z4:=lK n1 d2;have z5:jm ((bQ (((x.p.den:Int)*(x.p.den:Int))*(x.r.num*(x.r.den:Int))).natAbs:Nat):Int)<=4000:=zy (Nat.le_trans (nR _) z3);have z6:=H6 z4 z5;have z7:=lK d1 d2;refine uX 59 Tryz.func260 fun w=>?_;refine A2 ?_;refine Bp 9 (fun g0=>?_);refine Al 2 wG (fun g1=>?_);refine A3 ?_;refine Dq [3000000] [0,1,3,4,2,5,6,7,8,9] ?_;refine A1 ?_;refine L4 0 0 ?_;refine A1 ?_;refine L4 0 0 ?_;refine Pc (Am x.p) ?_;refine Pc (eQ x.p) ?_;refine Al 2 wG (fun g2=>?_);refine Al 2 wG (fun g3=>?_);refine Ss 2 ?_;refine Ss 3 ?_;refine A3 ?_;refine Dq [3000000] [0,1,3,4,2,5,6,7,8,9] ?_;refine A1 ?_;refine L4 0 4 ?_;refine A1 ?_;refine L4 0 4 ?_;refine Pc (Am x.r) ?_;refine Pc (eQ x.r) ?_;refine Al 2 wG (fun g4=>?_);refine Al 2 wG (fun g5=>?_);refine Ss 4 ?_;refine Ss 5 ?_;refine A3 ?_;refine Dq [3000000] [0,1,3,4,2,5,6,7,8,9,11,12,10,13] ?_;refine L2 3 0 ?_;refine L2 3 0 ?_;refine L2 4 0 ?_;refine L2 5 0 ?_;refine Pc (lF (x.p.den:Int) (x.p.den:Int)) ?_;refine Pc (lF x.r.num (x.r.den:Int)) ?_;refine Pc (lF ((x.p.den:Int)*(x.p.den:Int)) (x.r.num*(x.r.den:Int))) ?_;refine Pc (KJ (((x.p.den:Int)*(x.p.den:Int))*(x.r.num*(x.r.den:Int))) (qiI h0) (Nat.le_trans z3 (by omega))) ?_;refine A2 ?_;refine Al 2 wG (fun g6=>?_);refine Ss 6 ?_;refine A6 ?_;refine L2 2 0 ?_;refine L2 5 0 ?_;refine Pc (lF x.p.num (x.r.den:Int)) ?_;refine Al 2 wG (fun g7=>?_);refine Ss 7 ?_;refine A9 ?_;refine Cd ?_ ?_<;>intro haQ
 ·exact absurd haQ (by rw[hn];decide)
 ·refine A1 ?_;refine L2 7 0 ?_;refine L2 6 0 ?_;refine Pc (wR (x.p.num*(x.r.den:Int)) ((bQ (((x.p.den:Int)*(x.p.den:Int))*(x.r.num*(x.r.den:Int))).natAbs:Nat):Int)) ?_;refine Ss 7 ?_;refine A3 ?_;refine Dq [3000000] [0,1,2,3,4,5,6,9,10,11,7,12,8,13] ?_;refine L2 7 0 ?_;refine L2 3 0 ?_;refine L2 5 0 ?_;refine Pc (lF (x.p.den:Int) (x.r.den:Int)) ?_;refine Pc (xK (x.p.num*(x.r.den:Int)+((bQ (((x.p.den:Int)*(x.p.den:Int))*(x.r.num*(x.r.den:Int))).natAbs:Nat):Int)) ((x.p.den:Int)*(x.r.den:Int)) (by omega) (by omega) (qcF x)) ?_;refine A2 ?_;refine aQ 55 (I (lJ x)) rfl (congrArg I (qcE hn)) ?_;refine Al 2 wG (fun g8=>?_);refine Al 2 wG (fun g9=>?_);refine Ss 8 ?_;refine A1 ?_;refine Ss 9 ?_;refine A6 ?_;refine L2 8 0 ?_;refine Ss 1 ?_;refine A3 ?_;refine PY 1 ?_;exact rfl
def Gp(x y:Rl)(hx:gz x<=1000)(hy:gz y<=1000)(h0:0<=x.r)(hn:x.n=false)(h1:¬U2 x<0)(h2:0<U2 y)(h3:0<bK y (rl ((lJ x+1:Int):Rat)))(hf:jm (lJ x)<=4000:=by omega):aH Tryz.prog 235 #[RV x,RV y] (Q ((lJ x+1:Int):Rat)):=by
 have f1:jm (lJ x+1)<=4002:=H6 hf (AQ (z:=1) (by omega) (by omega));have f2:bV ((lJ x+1:Int):Rat)<=4002:=qdu f1 (by omega);refine nG 81 Tryz.func235 fun w=>?_;refine A2 ?_;refine Bp 9 (fun g0=>?_);refine Bp 9 (fun g1=>?_);refine Al 4 oM (fun g2=>?_);refine A6 ?_;refine L9 0 0 ?_;refine Pc (Ad x) ?_;refine A2 ?_;refine Rs 18 ?_ ?_<;>intro haQ
 ·exact absurd (of_decide_eq_true haQ) h1
 ·refine kN ?_;refine L9 1 0 ?_;refine Pc (Ad y) ?_;refine A4 ?_;refine Cd ?_ ?_<;>intro hbQ
  ·exact absurd (of_decide_eq_true hbQ) (by show¬U2 y<=0;omega)
  ·refine A5 ?_;refine L9 0 0 ?_;refine Pc (PX x hx h0 hn) ?_;refine Al 2 wG (fun g3=>?_);refine Ss 3 ?_;refine A3 ?_;refine Dq [3000000] [0,1,2,3,4,5] ?_;refine L2 3 0 ?_;refine Pc (lQ 1) ?_;refine Pc (wR (lJ x) 1 (by omega) (Nat.le_trans (AQ (by omega) (by omega)) (by omega))) ?_;refine Pc (PW (lJ x+1)) ?_;refine Al 4 oM (fun g4=>?_);refine Ss 4 ?_;refine A5 ?_;refine L9 1 0 ?_;refine L4 4 0 ?_;refine Pc (vY y ((lJ x+1:Int):Rat)) ?_;refine A3 ?_;refine Cd ?_ ?_<;>intro hcQ
   ·refine A2 ?_;refine L4 4 0 ?_;refine Ss 2 ?_;refine A4 ?_;refine Dz 2 ?_;exact rfl
   ·exact absurd h3 (of_decide_eq_false hcQ)
def wo(i:Iv)(hi:jB i<=1000)(hf:dN i.f=true)(ht:dN i.t=true):aH Tryz.prog 169 #[kG i] (.int .i64 (if jP i=true then 0 else 10)):=by
 have i1:=Nat.le_trans (jI i) hi;have i2:=Nat.le_trans (jJ i) hi;refine uX 33 Tryz.func169 fun w=>?_;refine A2 ?_;refine Bp 20 (fun g0=>?_);refine A7 ?_;refine L9 0 0 ?_;refine Pc (jb i.f) ?_;refine aQ 6 (.int .i64 0) rfl (congrArg (Value.int .i64) (if_pos hf)) ?_;refine A2 ?_;refine Rs 8 ?_ ?_<;>intro haQ
 ·exact absurd haQ (by decide)
 ·refine A1 ?_;refine L9 0 9 ?_;refine Pc (jb i.t) ?_;refine aQ 11 (.int .i64 0) rfl (congrArg (Value.int .i64) (if_pos ht)) ?_;refine A4 ?_;refine Cd ?_ ?_<;>intro hbQ
  ·exact absurd hbQ (by decide)
  ·refine A5 ?_;refine L9 0 0 ?_;refine A1 ?_;refine L9 0 9 ?_;refine Pc (dH i.f i.t) ?_;refine A9 ?_;refine Rs 21 ?_ ?_<;>intro hcQ
   ·refine A21 ?_;refine E0 ?_;exact congrArg (fun b=>Ending.returned (.int .i64 b)) (by unfold jP;first|(simp_all;done)|(simp_all;omega)|(simp_all;intros;omega))
   ·refine A3 ?_;refine Rs 24 ?_ ?_<;>intro hdQ
    ·refine A3 ?_;refine Rs 27 ?_ ?_<;>intro heQ
     ·refine AL ?_;refine E0 ?_;exact congrArg (fun b=>Ending.returned (.int .i64 b)) (by unfold jP;first|(simp_all;done)|(simp_all;omega)|(simp_all;intros;omega))
     ·refine A7 ?_;refine Cd ?_ ?_<;>intro hfQ
      ·refine A7 ?_;refine E0 ?_;exact congrArg (fun b=>Ending.returned (.int .i64 b)) (by unfold jP;first|(simp_all;done)|(simp_all;omega)|(simp_all;intros;omega))
      ·refine A8 ?_;refine E0 ?_;exact congrArg (fun b=>Ending.returned (.int .i64 b)) (by unfold jP;first|(simp_all;done)|(simp_all;omega)|(simp_all;intros;omega))
    ·refine A19 ?_;refine E0 ?_;exact congrArg (fun b=>Ending.returned (.int .i64 b)) (by unfold jP;first|(simp_all;done)|(simp_all;omega)|(simp_all;intros;omega))
def Ap(i:Iv)(x:Rl)(hi:jB i<=50000:=by omega)(hx:gz x<=50000:=by omega):aH Tryz.prog 171 #[kG i,RV x] (.bool (UO i x)):=by
 have i1:=Nat.le_trans (jI i) hi;have i2:=Nat.le_trans (jJ i) hi;refine nG 39 Tryz.func171 fun w=>?_;refine A2 ?_;refine Bp 20 (fun g0=>?_);refine Bp 9 (fun g1=>?_);refine A4 ?_;refine Dp [] [0,1,2,4,5,6,3,7,8,9] ?_;refine A1 ?_;refine L9 0 0 ?_;refine L9 1 0 ?_;refine L9 1 0 ?_;refine A1 ?_;refine L9 0 9 ?_;refine Pc (dH i.f x (by omega) hx) ?_;refine Pc (dH x i.t hx) ?_;refine A9 ?_;refine Rs 17 ?_ ?_<;>intro haQ
 ·refine lw ?_;refine Rs 29 ?_ ?_<;>intro hbQ
  ·refine D5 ?_;exact rX
  ·refine A3 ?_;refine Rs 32 ?_ ?_<;>intro hcQ
   ·refine kN ?_;exact rX
   ·refine kN ?_;exact rX
 ·refine A3 ?_;refine Rs 20 ?_ ?_<;>intro hbQ
  ·refine A6 ?_;refine Rs 26 ?_ ?_<;>intro hcQ
   ·refine A3 ?_;refine Rs 29 ?_ ?_<;>intro hdQ
    ·refine D5 ?_;exact rX
    ·refine A3 ?_;refine Rs 32 ?_ ?_<;>intro heQ
     ·refine kN ?_;exact rX
     ·refine kN ?_;exact rX
   ·refine KT ?_;exact rX
  ·refine A22 ?_;exact rX
def KL(sm:Rl->Rl->Option Rat)(hsm:∀x y r,sm x y=some r->aH Tryz.prog 235 #[RV x,RV y] (Q r))(x y:Rl)(hx:gz x<=50000)(hy:gz y<=50000)(h:bK x y<0)(r:Rat)(hr:sm x y=some r):aH Tryz.prog 206 #[RV x,RV y] (.tuple #[Q r,.int .i64 0]):=by
 refine nG 14 Tryz.func206 fun w=>?_;refine A2 ?_;refine Bp 9 (fun g0=>?_);refine Bp 9 (fun g1=>?_);refine Al 4 oM (fun g2=>?_);refine A6 ?_;refine L9 0 0 ?_;refine L9 1 0 ?_;refine Pc (dH x y hx hy) ?_;refine A3 ?_;refine Cd ?_ ?_<;>intro haQ
 ·exact absurd (of_decide_eq_true haQ) (by omega)
 ·refine A4 ?_;refine L9 0 0 ?_;refine L9 1 0 ?_;refine Pc (hsm x y r hr) ?_;refine Ss 2 ?_;refine A4 ?_;refine bF rfl (bn 2 rfl rfl BG (vs:=[_,_,_,_]) rfl rfl (Nat.le_of_ble_eq_true rfl) rfl) (aj rfl) (fun w hL=>⟨?_,hL.below⟩);exact rfl
def xY(sm:Rl->Rl->Option Rat)(hsm:∀x y r,sm x y=some r->aH Tryz.prog 235 #[RV x,RV y] (Q r))(q:Qd)(i:Iv)(s:Int)(h:EY sm q i=some s)(hq:tJ q<=10000:=by omega)(hi:jB i<=1000:=by omega):aH Tryz.prog 172 #[qH q,kG i] (SgV (i,s)):=by
 have i1:=Nat.le_trans (jI i) hi;have i2:=Nat.le_trans (jJ i) hi;obtain⟨hlt,r,hr,hr5,hs⟩:=Dx h;have hr6:gz (rl r)<=5000:=wS hr5 (by omega);refine nG 27 Tryz.func172 fun w=>?_;refine A2 ?_;refine Bp 12 (fun g0=>?_);refine Bp 20 (fun g1=>?_);refine Al 21 qjt (fun g2=>?_);refine A5 ?_;refine L9 1 0 ?_;refine Al 9 OD (fun g3=>?_);refine Ss 3 ?_;refine A6 ?_;refine L9 1 0 ?_;refine A1 ?_;refine L9 1 9 ?_;refine Pc (KL sm hsm i.f i.t (by omega) (by omega) hlt r hr) ?_;refine A3 ?_;refine Al 4 oM (fun g4=>?_);refine Ss 4 ?_;refine A9 ?_;refine Cd ?_ ?_<;>intro haQ
 ·refine A1 ?_;refine L4 4 0 ?_;refine Pc (kF r) ?_;refine Ss 3 ?_;refine A3 ?_;refine Di [] ?_;refine xZ 1 0 ?_;refine uV 0 0 ?_;refine L9 3 0 ?_;refine Pc (Dn q (rl r) Rat.le_refl hq) ?_;refine(Bu [(0,_),(1,_)]) (qdM) ?_;refine Ss 2 ?_;refine A3 ?_;refine aF rfl (bn 2 rfl rfl ZY (vs:=[_,_,_,_,_,_,_,_,_,_,_,_,_,_,_,_,_,_,_,_,_]) rfl rfl (Nat.le_of_ble_eq_true rfl) rfl) (fun w hL=>⟨?_,hL.below⟩);rw[hs];rfl
 ·exact absurd (by decide) (of_decide_eq_false haQ)
def Cf(q:Qd)(hq:tJ q<=1000)(h2:q.c2≠0)(hr:q.c1/(-2*q.c2)*(q.c1/(-2*q.c2))-q.c0/q.c2=0):bW Tryz.prog 205 [] [qH q] (SR (dI q).length) (fun z=> .tuple #[z.v,.int .i64 0]) (fun z=>[⟨z.b,38,ah jX (dI q),z.n,true⟩]):=by
 refine⟨by kernel_rfl,fun w hL0=>?_⟩;have q0:=Nat.le_trans (o7 q) hq;have q1:=Nat.le_trans (o8 q) hq;have q2:=Nat.le_trans (pV q) hq;have hR:=qcG h2 hr;have m2:bV (-2:Rat)<=2:=mY (z:= -2) (by omega) (by omega);have z1:=sO m2 q2;have z2:=D9 q1 z1;have z3:=sO z2 z2;have z4:=D9 q0 q2;refine cB1 98 Tryz.func205 hL0 ?_;refine A2 ?_;refine Bp 12 (fun g0=>?_);refine A6 ?_;refine(Bu []) (yt) ?_;refine aQ 12 (Q 0) rfl yh.symm ?_;refine Al 4 oM (fun g1=>?_);refine Ss 1 ?_;refine A7 ?_;refine L4 0 8 ?_;refine L4 1 0 ?_;refine fH rfl rfl rfl rfl qab (qad _ _) ?_;refine A1 ?_;refine Rs 18 ?_ ?_<;>intro haQ
 ·exact absurd (of_decide_eq_true haQ) h2
 ·refine A18 ?_;refine L4 0 8 ?_;refine L4 1 0 ?_;refine fH rfl rfl rfl rfl qab (qad _ _) ?_;refine A1 ?_;refine Rs 35 ?_ ?_<;>intro hbQ
  ·exact absurd (of_decide_eq_true hbQ) h2
  ·refine lw ?_;refine L4 0 8 ?_;refine L4 1 0 ?_;refine fH rfl rfl rfl rfl qab (qad _ _) ?_;refine A3 ?_;refine Cd ?_ ?_<;>intro hcQ
   ·exact absurd (of_decide_eq_true hcQ) h2
   ·refine A4 ?_;refine Dq [3000000] [0,1,3,4,2,5,6,7,8] ?_;refine A1 ?_;refine L4 0 4 ?_;refine A1 ?_;refine L4 0 8 ?_;refine Pc (fU (-2)) ?_;refine aQ 56 (Q (-2)) rfl (congrArg Q (by decide)) ?_;refine Pc (aX (-2) q.c2) ?_;refine Pc (yR q.c1 (-2*q.c2)) ?_;refine Al 4 oM (fun g2=>?_);refine Ss 2 ?_;refine A3 ?_;refine Dq [3000000] [0,1,3,4,5,6,2,7,8,9,10] ?_;refine L4 2 0 ?_;refine L4 2 0 ?_;refine A1 ?_;refine L4 0 0 ?_;refine A1 ?_;refine L4 0 8 ?_;refine Pc (aX (q.c1/(-2*q.c2)) (q.c1/(-2*q.c2))) ?_;refine Pc (yR q.c0 q.c2) ?_;refine Pc (eU ((q.c1/(-2*q.c2))*(q.c1/(-2*q.c2))) (q.c0/q.c2)) ?_;refine Al 4 oM (fun g3=>?_);refine Ss 3 ?_;refine A4 ?_;refine Pc (fU 1) ?_;refine Al 4 oM (fun g4=>?_);refine Ss 4 ?_;refine A5 ?_;refine L4 3 0 ?_;refine Pc (dV ((q.c1/(-2*q.c2))*(q.c1/(-2*q.c2))-q.c0/q.c2)) ?_;refine aQ 72 (.int .i64 0) rfl (congrArg (Value.int .i64) (by rw[hr];rfl)) ?_;refine A9 ?_;refine Cd ?_ ?_<;>intro hdQ
    ·exact absurd (of_decide_eq_true hdQ) (by decide)
    ·refine A6 ?_;refine Cd ?_ ?_<;>intro heQ
     ·refine A2 ?_;refine L4 2 0 ?_;refine Pc (kF (q.c1/(-2*q.c2))) ?_;refine(Bl 9 [(0,_)]) (OI) (fun g5=>?_);refine A7 ?_;refine bF rfl (aj rfl) (aj rfl) (fun w hL=>⟨⟨some g5,9,1,by rw[hR];exact Nat.le_refl _⟩,?_,hL.picks [some 5] ⟨⟨_,rfl,aK (by rw[show ah jX (dI q)=_ from congrArg _ hR];rfl)⟩,trivial⟩ rfl rfl⟩);show Ending.returned (.tuple #[az (some g5) 0 _ 1,_])=Ending.returned (.tuple #[az (some g5) 0 (dI q).length 1,_]);rw[hR];rfl
     ·exact absurd (by decide) (of_decide_eq_false heQ)
def ww(q:Qd)(hrt:bW Tryz.prog 205 [] [qH q] (SR (dI q).length) (fun z=> .tuple #[z.v,.int .i64 0]) (fun z=>[⟨z.b,38,ah jX (dI q),z.n,true⟩])):bW Tryz.prog 170 [] [qH q] (SR (dI q).length) (fun z=> .tuple #[z.v,.int .i64 0]) (fun z=>[⟨z.b,38,ah jX (dI q),z.n,true⟩]):=by
 refine MI 8 Tryz.func170 fun w hL0=>?_;refine A2 ?_;refine Bp 12 (fun g0=>?_);refine A6 ?_;refine uV 0 0 ?_;refine(Sc []) hrt (fun z=>?_);obtain⟨rb,rN,rc,hrc⟩:=z;refine A7 ?_;refine bF rfl (aj rfl) (aj rfl) (fun w hL=>⟨⟨rb,rN,rc,hrc⟩,?_,hL.pk [some 1]⟩);exact rfl
def EZ(sm:Rl->Rl->Option Rat)(hsm:∀x y r,sm x y=some r->aH Tryz.prog 235 #[RV x,RV y] (Q r))(q:Qd)(i:Iv)(l:List (Iv×Int))(h:gV sm q i (dI q) i []=some l)(hf:dN i.f=true)(ht:dN i.t=true)(hoi:jP i=true)(hrt:bW Tryz.prog 170 [] [qH q] (SR (dI q).length) (fun z=> .tuple #[z.v,.int .i64 0]) (fun z=>[⟨z.b,38,ah jX (dI q),z.n,true⟩]))(hrz:∀r∈dI q,gz r<=1000∧dN r=true)(hrl:(dI q).length<=2:=by omega)(hq:tJ q<=10000:=by omega)(hi:jB i<=1000:=by omega):bW Tryz.prog 125 [] [qH q,kG i] (SR l.length) (fun z=> .tuple #[z.v,.int .i64 0]) (fun z=>[⟨z.b,181,ah EE l,z.n,true⟩]):=by
 refine X5 71 Tryz.func125 fun w hL0=>?_;refine A2 ?_;refine Bp 12 (fun g0=>?_);refine Bp 20 (fun g1=>?_);refine A7 ?_;refine xZ 1 0 ?_;refine Pc (wo i hi hf ht) ?_;refine aQ 14 (.int .i64 0) rfl (congrArg (Value.int .i64) (if_pos hoi)) ?_;refine A9 ?_;refine Cd ?_ ?_<;>intro haQ
 ·exact absurd haQ (by decide)
 ·refine A9 ?_;refine uV 0 0 ?_;refine(Sc []) hrt (fun z=>?_);obtain⟨rb,rN,rc,hrc⟩:=z;refine A9 ?_;refine xZ 1 0 ?_;refine Al 20 z61 (fun g2=>?_);refine Ss 3 ?_;refine pq ?_;refine El (ι:={z:Nat×Iv×List (Iv×Int)×Option Nat×Nat×Nat // z.1<=(dI q).length∧gV sm q i ((dI q).drop z.1) z.2.1 z.2.2.1=some l∧(dN z.2.1.f=true∧dN z.2.1.t=true∧jB z.2.1<=1000)∧z.2.2.1.length<=2*z.1∧z.2.2.1.length<=z.2.2.2.2.2∧z.2.2.2.2.2*21<=z.2.2.2.2.1}) (fun⟨⟨k,rest,o,ob,oN,oc⟩,hk,hI,hre,ho,h3,h4⟩=>([(2,dD g0),(3,dD g1),(7,az ob 0 o.length oc),(10,dD g2),(24,az rb 0 (dI q).length rc),(25,aZ ((dI q).length)),(26,aZ k)],[⟨some g0,91,qeE q,12,true⟩,⟨some g1,61,bG i,20,true⟩,⟨rb,38,ah jX (dI q),rN,true⟩,⟨some g2,61,bG rest,20,true⟩,⟨ob,181,ah EE o,oN,true⟩],(dI q).length-k)) ⟨⟨0,i,[],none,0,0⟩,Nat.zero_le _,h,⟨hf,ht,hi⟩,Nat.le_refl _,Nat.le_refl _,by simp⟩ ?_ (hL:=(ak [some 0,some 1,some 2,some 3,none] ⟨pR,pR,pR,pR,⟨rfl,rfl,rfl⟩,trivial⟩ rfl rfl));rintro⟨⟨k,rest,o,ob,oN,oc⟩,hk,hI,hre,ho,h3,h4⟩;(try dsimp only);replace hk:k<=(dI q).length:=hk;replace hI:gV sm q i ((dI q).drop k) rest o=some l:=hI;replace hre:dN rest.f=true∧dN rest.t=true∧jB rest<=1000:=hre;replace ho:o.length<=2*k:=ho;replace h3:o.length<=oc:=h3;replace h4:oc*21<=oN:=h4;have hre3:=hre.2.2;have hrf:=jI rest;have hrt2:=jJ rest;refine A6 ?_;refine Cd ?_ ?_<;>intro hbQ
  ·have hlt:k<(dI q).length:=(by have:=of_decide_eq_true hbQ;omega);obtain⟨x,hx⟩:∃x,(dI q)[k]? =some x:=⟨(dI q)[k],List.getElem?_eq_getElem hlt⟩;have hxs:=hrz x (List.mem_of_getElem? hx);have hxs1:=hxs.1;refine eF 2 rfl (gq.ne (by decide) (by omega)) (fun hbs=>?_);obtain⟨gr,hgr⟩:=Option.isSome_iff_exists.1 hbs;replace hgr:rb=some gr:=hgr;subst hgr;refine A6 ?_;refine ai 2 ((k)*9) yu iH rfl rfl rfl rfl rfl (by omega) (by omega) (gq.ne (by decide) (by omega)) (by show 0+Int.toNat _*9=_;omega) ?_;refine aI (v:=RV x) 2 ((k)*9) _ rfl rfl rfl rfl iH (gq.sub hx 0 9 (by decide)) rfl (by decide) rfl ?_;refine Al 9 OD (fun g3=>?_);refine Ss 5 ?_;refine A5 ?_;refine xZ 1 0 ?_;refine L9 5 0 ?_;refine Pc (Ap i x) ?_;refine A3 ?_;refine Cd ?_ ?_<;>intro hcQ
   ·have hin:UO i x=false:=by have e:=hcQ;simpa using e
    refine A5 ?_;refine Ar (((k+1:Nat):Int)) ?_;refine A3 ?_;exact Nl ⟨⟨k+1,rest,o,ob,oN,oc⟩,hlt,qgE hx hin hI,hre,by show o.length<=2*(k+1);omega,h3,h4⟩ (hμ:=(by show(dI q).length-(k+1)<(dI q).length-k;omega)) (hL:=eH.auto)
   ·have hin:UO i x=true:=by have e:=hcQ;simpa using e
    refine A6 ?_;refine L9 3 0 ?_;refine L9 5 0 ?_;refine Pc (dH rest.f x) ?_;refine A3 ?_;refine Cd ?_ ?_<;>intro hdQ
    ·have hl2:bK rest.f x<0:=of_decide_eq_true hdQ;obtain⟨s,hp,hI2⟩:=qgF hx hin hl2 hI;refine A2 ?_;refine uV 0 0 ?_;refine A1 ?_;refine L9 3 0 ?_;refine L9 5 0 ?_;refine A2 ?_;refine(Bu [(0,_),(1,_),(2,_),(3,_)]) (Jk) ?_;refine Kr 46 (kG ⟨rest.f,x,rest.fo,true⟩) ?_;refine dL [_,_] rfl rfl rfl (xY sm hsm q ⟨rest.f,x,rest.fo,true⟩ s hp hq (wW (by show gz rest.f<=_;omega) (by show gz x<=_;omega))) ?_;refine(Bl 21 [(0,_)]) (Ia) (fun g4=>?_);refine kZ (s:=21) (len:=o.length) (n2:=1) 4 6 (fun r1=>[_,_,_,_,⟨some r1.g,181,ah EE (o++[((⟨rest.f,x,rest.fo,true⟩,s):Iv×Int)]),r1.n,true⟩,_,_]) qac VG rfl rfl rfl rfl rfl rfl rfl rfl rfl rfl rfl rfl (uD.length o) h3 h4 rfl (uD.one (((⟨rest.f,x,rest.fo,true⟩,s):Iv×Int))) (by omega) (fun _=>congrArg (fun c=>_::_::_::_::aC.mk _ 181 c _ true::_) (dK o ((⟨rest.f,x,rest.fo,true⟩,s):Iv×Int))) (fun r1=>?_);refine aQ 49 (az (some r1.g) 0 (o++[((⟨rest.f,x,rest.fo,true⟩,s):Iv×Int)]).length r1.cap) rfl (by rw[List.length_append];rfl) ?_;refine A6 ?_;refine L9 5 0 ?_;refine L9 5 0 ?_;refine(Bu [(0,_),(1,_)]) (Jj) ?_;refine Kr 53 (kG ⟨x,x,false,false⟩) ?_;refine(Bu [(0,_)]) (Vz) ?_;refine aQ 54 (SgV ((⟨x,x,false,false⟩,0):Iv×Int)) rfl rfl ?_;refine(Bl 21 [(0,_)]) (Ia) (fun g5=>?_);refine kZ (s:=21) (len:=(o++[((⟨rest.f,x,rest.fo,true⟩,s):Iv×Int)]).length) (n2:=1) 4 7 (fun r2=>[_,_,_,_,⟨some r2.g,181,ah EE (o++[((⟨rest.f,x,rest.fo,true⟩,s):Iv×Int)])++EE (((⟨x,x,false,false⟩,0):Iv×Int)),r2.n,true⟩,_,_,_]) qac VG rfl rfl rfl rfl rfl rfl rfl rfl rfl rfl rfl rfl (uD.length (o++[((⟨rest.f,x,rest.fo,true⟩,s):Iv×Int)])) (by rw[List.length_append];exact r1.h) r1.hn rfl (uD.one (((⟨x,x,false,false⟩,0):Iv×Int))) (by rw[List.length_append];show o.length+1+1<=_;omega) (fun _=>rfl) (fun r2=>?_);refine A4 ?_;refine L9 5 0 ?_;refine A1 ?_;refine Ss 3 ?_;refine A1 ?_;refine Ss 3 ?_;refine A4 ?_;refine Ar (((k+1:Nat):Int)) ?_;refine A3 ?_;exact Nl ⟨⟨k+1,⟨x,rest.t,true,rest.tp⟩,o++[((⟨rest.f,x,rest.fo,true⟩,s):Iv×Int)]++[((⟨x,x,false,false⟩,0):Iv×Int)],some r2.g,r2.n,r2.cap⟩,hlt,hI2,⟨hxs.2,hre.2.1,wW hxs.1 (Nat.le_trans (jJ rest) hre.2.2)⟩,by simp only[List.length_append,List.length_cons,List.length_nil];omega,by rw[List.length_append];exact r2.h,r2.hn⟩ (hμ:=(by show(dI q).length-(k+1)<(dI q).length-k;omega)) (ht:=⟨rfl,rfl,(aG rfl (congrArg (fun z=>az (some r2.g) 0 z r2.cap) (show(o++[((⟨rest.f,x,rest.fo,true⟩,s):Iv×Int)]).length+1=(o++[((⟨rest.f,x,rest.fo,true⟩,s):Iv×Int)]++[((⟨x,x,false,false⟩,0):Iv×Int)]).length by simp))),rfl,rfl,rfl,rfl,trivial⟩) (hL:=(ak [some 0,some 1,some 2,some 3,some 4] ⟨pR,pR,pR,pR,⟨_,rfl,aK (by rw[dK])⟩,trivial⟩ rfl rfl))
    ·have hl2:¬bK rest.f x<0:=of_decide_eq_false hdQ;have hI2:=qgG hx hin hl2 hI;refine A5 ?_;refine L9 5 0 ?_;refine L9 5 0 ?_;refine(Bu [(0,_),(1,_)]) (Jj) ?_;refine Kr 53 (kG ⟨x,x,false,false⟩) ?_;refine(Bu [(0,_)]) (Vz) ?_;refine aQ 54 (SgV ((⟨x,x,false,false⟩,0):Iv×Int)) rfl rfl ?_;refine(Bl 21 [(0,_)]) (Ia) (fun g4=>?_);refine(Qa (s:=21) (len:=o.length) (n2:=1) 4 6 (fun r2=>[_,_,_,_,⟨some r2.g,181,ah EE o++EE (((⟨x,x,false,false⟩,0):Iv×Int)),r2.n,true⟩,_,_]) qac VG) (uD.length o) h3 h4 (uD.one (((⟨x,x,false,false⟩,0):Iv×Int))) (fun r2=>?_);refine A4 ?_;refine L9 5 0 ?_;refine A1 ?_;refine Ss 3 ?_;refine A1 ?_;refine Ss 3 ?_;refine A4 ?_;refine Ar (((k+1:Nat):Int)) ?_;refine A3 ?_;exact Nl ⟨⟨k+1,⟨x,rest.t,true,rest.tp⟩,o++[((⟨x,x,false,false⟩,0):Iv×Int)],some r2.g,r2.n,r2.cap⟩,hlt,hI2,⟨hxs.2,hre.2.1,wW hxs.1 (Nat.le_trans (jJ rest) hre.2.2)⟩,by simp only[List.length_append,List.length_cons,List.length_nil];omega,by rw[List.length_append];exact r2.h,r2.hn⟩ (hμ:=(by show(dI q).length-(k+1)<(dI q).length-k;omega)) (ht:=⟨rfl,rfl,(aG rfl (congrArg (fun z=>az (some r2.g) 0 z r2.cap) (show(o).length+1=(o++[((⟨x,x,false,false⟩,0):Iv×Int)]).length by simp))),rfl,rfl,rfl,rfl,trivial⟩) (hL:=(ak [some 0,some 1,some 2,some 3,some 4] ⟨pR,pR,pR,pR,⟨_,rfl,aK (by rw[dK])⟩,trivial⟩ rfl rfl))
  ·have hge:k=(dI q).length:=(by have:=of_decide_eq_false hbQ;omega);subst hge;refine A8 ?_;refine xZ 3 0 ?_;refine Pc (wo rest hre.2.2 hre.1 hre.2.1) ?_;refine A3 ?_;refine Cd ?_ ?_<;>intro hcQ
   ·have hoe:jP rest=true:=by have e1:=hcQ;cases e:jP rest<;>simp[e] at e1 ⊢
    obtain⟨s,hp,hl⟩:=Xj hoe hI;refine A2 ?_;refine uV 0 0 ?_;refine xZ 3 0 ?_;refine Pc (xY sm hsm q rest s hp hq hre.2.2) ?_;refine(Bl 21 [(0,_)]) (Ia) (fun g3=>?_);refine(Qa (s:=21) (len:=o.length) (n2:=1) 4 5 (fun r=>[_,_,_,_,⟨some r.g,181,ah EE o++EE ((rest,s)),r.n,true⟩,_]) qac VG) (uD.length o) h3 h4 (uD.one ((rest,s))) (fun r=>?_);refine pq ?_;refine bF rfl (aj rfl) (aj rfl) (fun w hL=>⟨⟨some r.g,r.n,r.cap,by rw[hl,List.length_append];exact r.h⟩,?_,hL.picks [some 4] ⟨⟨_,rfl,aK (by rw[dK,show ah EE l=_ from congrArg _ hl])⟩,trivial⟩ rfl rfl⟩);show Ending.returned (.tuple #[az (some r.g) 0 _ r.cap,_])=Ending.returned (.tuple #[az (some r.g) 0 l.length r.cap,_]);rw[hl,List.length_append];rfl
   ·have hoe:jP rest=false:=by have e1:=hcQ;cases e:jP rest<;>simp[e] at e1 ⊢
    have hl:=Xk hoe hI;refine kN ?_;refine bF rfl (aj rfl) (aj rfl) (fun w hL=>⟨⟨ob,oN,oc,by rw[hl];exact h3⟩,?_,hL.picks [some 4] ⟨⟨_,rfl,aK (by rw[show ah EE l=_ from congrArg _ hl])⟩,trivial⟩ rfl rfl⟩);show Ending.returned (.tuple #[az ob 0 _ oc,_])=Ending.returned (.tuple #[az ob 0 l.length oc,_]);rw[hl]
end Go.Proofs.YtaffcpfhedadhaaGreatDoor
namespace Go.Via
open Go
def Xl(x:Rl): -1<=U2 x∧U2 x<=1:=by
 have hs:∀q,dE q= -1∨dE q=0∨dE q=1:=fun q=>by rcases ji q with h|h|h<;>simp[h.2]
 have hm:∀{a b:Int},(a= -1∨a=0∨a=1)->(b= -1∨b=0∨b=1)->(a*b= -1∨a*b=0∨a*b=1):=fun h h'=>by
  rcases h with h|h|h<;>rcases h' with h'|h'|h'<;>simp[h,h']
 have hc:∀a b:Rat,nD a b= -1∨nD a b=0∨nD a b=1:=fun a b=>by unfold nD;(repeat' split)<;>simp
 have h1:U2 x= -1∨U2 x=0∨U2 x=1:=by
  unfold U2 tu
  split
  ·exact hs _
  ·split
   ·exact hm (hs _) (hs _)
   ·exact hm (hs _) (hc _ _)
 omega
def Rng(p:Iv×Int):Prop:= -1<=p.2∧p.2<=1
def yK{sm:Rl->Rl->Option Rat}{q:Qd}{i:Iv}:∀{rs:List Rl} {rest:Iv} {o l:List (Iv×Int)},(∀p∈o,Rng p)->gV sm q i rs rest o=some l->∀p∈l,Rng p
 |[],rest,o,l,ho,h=>by
  by_cases e:jP rest=true
  ·obtain⟨s,hp,hl⟩:=Xj (rs:=[]) e h;obtain⟨_,r,_,_,hs⟩:=Dx hp;subst hl;exact yI ho (show-1<=s∧s<=1 by rw[hs];exact Xl _)
  ·have hl:=Xk (rs:=[]) (by simpa using e) h;subst hl;exact ho
 |x::rs,rest,o,l,ho,h=>by
  by_cases hin:UO i x=true
  ·by_cases hlt:bK rest.f x<0
   ·obtain⟨s,hp,h2⟩:=qgF (rs:=x::rs) (k:=0) rfl hin hlt h;obtain⟨_,r,_,_,hs⟩:=Dx hp;exact yK (rs:=rs) (yI (yI ho (show Rng ((⟨rest.f,x,rest.fo,true⟩,s):Iv×Int) from(show-1<=s∧s<=1 by rw[hs];exact Xl _))) ⟨show(-1:Int)<=0 by omega,show(0:Int)<=1 by omega⟩) h2
   ·have h2:=qgG (rs:=x::rs) (k:=0) rfl hin hlt h;exact yK (rs:=rs) (yI ho ⟨show(-1:Int)<=0 by omega,show(0:Int)<=1 by omega⟩) h2
  ·have h2:=qgE (rs:=x::rs) (k:=0) rfl (by simpa using hin) h;exact yK (rs:=rs) ho h2
def qfN{a b c:Bool}{s:Int}(h1: -1<=s)(h2:s<=1):(([.bool a,.bool b,.bool c]:List Value).drop (s+1).toNat).take 1=[.bool (mV a b c s)]:=by
 rcases(show s= -1∨s=0∨s=1 by omega) with rfl|rfl|rfl<;>rfl
def E5(w:Int->Bool):Bool->List (Iv×Int)->Bool
 |_,[]=>true
 |b,p::ps=> !(b&&w p.2)&&E5 w (w p.2) ps
def Tn{sm:Rl->Rl->Option Rat}{w:Int->Bool}{q:Qd}{i:Iv}{r:List Iv}(h:rU sm w q i=some r):∃l,gV sm q i (dI q) i []=some l∧r=nI w l [] false:=by
 unfold rU at h;rcases hs:gV sm q i (dI q) i [] with _|l
 ·rw[hs] at h;cases h
 ·rw[hs] at h;injection h with e;exact⟨l,rfl,e.symm⟩
section
variable{w:Int->Bool}{l:List (Iv×Int)}{k:Nat}{x:Iv×Int}{o:List Iv}{b:Bool}
def qcH(hx:l[k]? =some x)(hn:E5 w b (l.drop k)=true):(b&&w x.2)=false∧E5 w (w x.2) (l.drop (k+1))=true:=by
 rw[xe hx,E5,Bool.and_eq_true] at hn;have e:=hn.1;refine⟨?_,hn.2⟩
 revert e
 cases(b&&w x.2)<;>simp
def qiJ(hx:l[k]? =some x)(hw:w x.2=true)(hb:b=false):nI w (l.drop k) o b=nI w (l.drop (k+1)) (o++[x.1]) true:=by
 rw[xe hx,nI,if_pos hw,if_neg (by rw[hb];decide)]
def qkA(hx:l[k]? =some x)(hw:w x.2=false):nI w (l.drop k) o b=nI w (l.drop (k+1)) o false:=by
 rw[xe hx,nI,if_neg (by rw[hw];decide)]
def qiK:nI w (l.drop l.length) o b=o:=by rw[List.drop_length,nI]
end
end Go.Via
