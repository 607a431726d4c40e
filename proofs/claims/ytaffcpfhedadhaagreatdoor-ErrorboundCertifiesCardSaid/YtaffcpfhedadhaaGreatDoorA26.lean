/-
  Part 26 (chapter 32): lemmas, walks. Each theorem states its own conditions.
-/
import Derived.Test.YtaffcpfhedadhaaGreatDoorA09
import Derived.Test.YtaffcpfhedadhaaGreatDoorA11
import Derived.Test.YtaffcpfhedadhaaGreatDoorA12
import Derived.Test.YtaffcpfhedadhaaGreatDoorA13
import Derived.Test.YtaffcpfhedadhaaGreatDoorA17
import Derived.Test.YtaffcpfhedadhaaGreatDoorA18
import Derived.Test.YtaffcpfhedadhaaGreatDoorA25
set_option linter.all false
set_option maxRecDepth 20000
set_option maxHeartbeats 20000000
section
variable{P Q:Prop}{T:Type}{R:T->Prop}
def JU(q:Q)(h:xJ Q->P:=by intro q_;refine dL [_,_] rfl rfl rfl (lF _ _ (by first|assumption|grind [fJ,fK,fM,fO,fP,fB,fC,cO,bU,aS,fF,dX,lY]) (by first|assumption|grind [fJ,fK,fM,fO,fP,fB,fC,cO,bU,aS,fF,dX,lY])) ?_;exact q_.qq):=h ⟨q⟩
end
namespace Go.Proofs.YtaffcpfhedadhaaGreatDoor
variable[Go.Via.Mo]
open Go Go.RowKit Go.Via
def eQ(q:Rat):aH Tryz.prog 124 #[Q q] (I q.den):=by
 refine uX 10 Tryz.func124 fun w=>?_;refine A2 ?_;refine Bp 4 (fun g0=>?_);refine Al 2 wG (fun g1=>?_);refine A6 ?_;refine L2 0 2 ?_;refine(Bu []) (FC) ?_;refine fH rfl rfl rfl rfl XR (QB _ _ _ _) ?_;refine A2 ?_;refine Cd ?_ ?_<;>intro haQ
 ·refine A2 ?_;refine Pc (mM) ?_;refine Ss 1 ?_;refine A4 ?_;refine PY 1 ?_;exact congrArg Ending.returned (qjk haQ)
 ·refine A5 ?_;refine L2 0 2 ?_;refine Ss 1 ?_;refine A3 ?_;refine PY 1 ?_;exact congrArg Ending.returned (qjl haQ)
def xM(p q:Rat)(hp:bV p<=4194303:=by omega)(hq:bV q<=4194303:=by omega):aH Tryz.prog 189 #[Q p,Q q] (.tuple #[I (kR p q),I (kS p q),I (lH p q)]):=by
 refine nG 33 Tryz.func189 fun w=>?_;refine A2 ?_;refine Bp 4 (fun g0=>?_);refine Bp 4 (fun g1=>?_);refine Al 2 wG (fun g2=>?_);refine Al 2 wG (fun g3=>?_);refine Al 2 wG (fun g4=>?_);refine A6 ?_;refine L2 0 2 ?_;refine A1 ?_;refine L2 1 2 ?_;refine fH rfl rfl rfl rfl XR (QB _ _ _ _) ?_;refine A2 ?_;refine Cd ?_ ?_<;>intro haQ
 ·refine A1 ?_;refine Di [2,3,4] ?_;refine A1 ?_;refine L2 0 0 ?_;refine A1 ?_;refine L2 1 0 ?_;refine L4 0 0 ?_;refine Pc (eQ _) ?_;refine qU 2 0 [_,_,⟨some g2,34,_,2,true⟩,_,_] [_,_] rfl rfl rfl rfl yl rfl rfl rfl rfl rfl rfl ?_;refine qU 3 0 [_,_,_,⟨some g3,34,_,2,true⟩,_] [_,_] rfl rfl rfl rfl yl rfl rfl rfl rfl rfl rfl ?_;refine qU 4 0 [_,_,_,_,⟨some g4,34,_,2,true⟩] [_,_] rfl rfl rfl rfl yl rfl rfl rfl rfl rfl rfl ?_;refine A4 ?_;refine x9 rfl (bn 2 rfl rfl yl (vs:=[_,_]) rfl rfl (Nat.le_of_ble_eq_true rfl) rfl) (bn 3 rfl rfl yl (vs:=[_,_]) rfl rfl (Nat.le_of_ble_eq_true rfl) rfl) (bn 4 rfl rfl yl (vs:=[_,_]) rfl rfl (Nat.le_of_ble_eq_true rfl) rfl) (fun w hL=>⟨?_,hL.below⟩);exact congrArg Ending.returned (qdw haQ)
 ·refine A3 ?_;refine Dp [] [0,1,2,5,6,7,10,12,3,4,8,9,11,13,14,15,16,17] ?_;refine A1 ?_;refine L2 0 0 ?_;refine L4 1 0 ?_;refine A1 ?_;refine L2 1 0 ?_;refine L4 0 0 ?_;refine L4 0 0 ?_;refine L4 1 0 ?_;refine Pc (eQ _) ?_;refine JU ?_;refine Pc (eQ _) ?_;refine JU ?_;refine Pc (eQ _) ?_;refine Pc (eQ _) ?_;refine JU ?_;refine Ss 2 ?_;refine Ss 3 ?_;refine Ss 4 ?_;refine A3 ?_;refine x9 rfl (bn 2 rfl rfl yl (vs:=[_,_]) rfl rfl (Nat.le_of_ble_eq_true rfl) rfl) (bn 3 rfl rfl yl (vs:=[_,_]) rfl rfl (Nat.le_of_ble_eq_true rfl) rfl) (bn 4 rfl rfl yl (vs:=[_,_]) rfl rfl (Nat.le_of_ble_eq_true rfl) rfl) (fun w hL=>⟨?_,hL.below⟩);exact congrArg Ending.returned (qdx haQ)
def dM(p q:Rat)(hp:bV p<=4194303:=by omega)(hq:bV q<=4194303:=by omega):aH Tryz.prog 140 #[Q p,Q q] (Q (p+q)):=by
 refine nG 20 Tryz.func140 fun w=>?_;refine A2 ?_;refine Bp 4 (fun g0=>?_);refine Bp 4 (fun g1=>?_);refine Al 4 oM (fun g2=>?_);refine A4 ?_;refine L4 0 0 ?_;refine L4 1 0 ?_;refine dL [_,_] rfl rfl rfl (xM _ _ (by first|assumption|grind [fJ,fK,fM,fO,fP,fB,fC,cO,bU,aS,fF,dX,lY]) (by first|assumption|grind [fJ,fK,fM,fO,fP,fB,fC,cO,bU,aS,fF,dX,lY])) ?_;refine A4 ?_;refine Al 2 wG (fun g3=>?_);refine Al 2 wG (fun g4=>?_);refine Al 2 wG (fun g5=>?_);refine Ss 3 ?_;refine Ss 4 ?_;refine Ss 5 ?_;refine A3 ?_;refine Dp [] [0,1,3,2,4,5] ?_;refine L2 3 0 ?_;refine L2 4 0 ?_;refine L2 5 0 ?_;refine Pc (wR _ _ (Nat.le_trans (szX hp hq) (Nat.le_of_ble_eq_true rfl)) (Nat.le_trans (szY hp hq) (Nat.le_of_ble_eq_true rfl))) ?_;refine Pc (jG _ _ (Nat.le_trans (qlh hp hq) (Nat.le_of_ble_eq_true rfl)) (Nat.le_trans (szD hp hq) (Nat.le_of_ble_eq_true rfl)) (Me p q)) ?_;refine Ss 2 ?_;refine A3 ?_;refine Dz 2 ?_;exact congrArg (fun z=>Ending.returned (Q z)) (XF p q)
def eU(p q:Rat)(hp:bV p<=4194303:=by omega)(hq:bV q<=4194303:=by omega):aH Tryz.prog 126 #[Q p,Q q] (Q (p-q)):=by
 refine nG 9 Tryz.func126 fun w=>?_;refine A2 ?_;refine Bp 4 (fun g0=>?_);refine Bp 4 (fun g1=>?_);refine Al 4 oM (fun g2=>?_);refine A3 ?_;refine Di [] ?_;refine L4 0 0 ?_;refine L4 1 0 ?_;refine Pc (uw _) ?_;refine dL [_,_] rfl rfl rfl (dM _ _ (by first|assumption|grind [fJ,fK,fM,fO,fP,fB,fC,cO,bU,aS,fF,dX,lY]) (by first|assumption|grind [fJ,fK,fM,fO,fP,fB,fC,cO,bU,aS,fF,dX,lY])) ?_;refine Ss 2 ?_;refine A3 ?_;refine Dz 2 ?_;exact congrArg (fun z=>Ending.returned (Q z)) (Rat.sub_eq_add_neg p q).symm
def aX(p q:Rat)(hp:bV p<=4194303:=by omega)(hq:bV q<=4194303:=by omega):aH Tryz.prog 75 #[Q p,Q q] (Q (p*q)):=by
 refine nG 16 Tryz.func75 fun w=>?_;refine A2 ?_;refine Bp 4 (fun g0=>?_);refine Bp 4 (fun g1=>?_);refine Al 4 oM (fun g2=>?_);refine A3 ?_;refine Dp [] [0,1,2,3,5,7,4,6,8,9,10,11] ?_;refine A1 ?_;refine L2 0 0 ?_;refine A1 ?_;refine L2 1 0 ?_;refine L4 0 0 ?_;refine L4 1 0 ?_;refine JU ?_;refine Pc (eQ _) ?_;refine Pc (eQ _) ?_;refine JU ?_;refine dL [_,_] rfl rfl rfl (jG _ _ (by first|assumption|grind [fJ,fK,fM,fO,fP,fB,fC,cO,bU,aS,fF,dX,lY]) (by first|assumption|grind [fJ,fK,fM,fO,fP,fB,fC,cO,bU,aS,fF,dX,lY]) (Jb p q)) ?_;refine Ss 2 ?_;refine A3 ?_;refine Dz 2 ?_;exact congrArg (fun z=>Ending.returned (Q z)) (Jc p q)
def dV(q:Rat):aH Tryz.prog 106 #[Q q] (.int .i64 q.num.sign):=by
 refine uX 6 Tryz.func106 fun w=>?_;refine A2 ?_;refine Bp 4 (fun g0=>?_);refine A6 ?_;refine L2 0 0 ?_;refine Pc (mG _) ?_;refine A4 ?_;refine E0 ?_;exact rfl
def Aa(p q:Rat)(hp:bV p<=4194303:=by omega)(hq:bV q<=4194303:=by omega):aH Tryz.prog 183 #[Q p,Q q] (.tuple #[Q (p/q),.int .i64 (if q=0 then 6 else 0)]):=by
 refine nG 19 Tryz.func183 fun w=>?_;refine A2 ?_;refine Bp 4 (fun g0=>?_);refine Bp 4 (fun g1=>?_);refine Al 4 oM (fun g2=>?_);refine A4 ?_;refine Dp [] [0,1,2,5,7,8,3,4,6,9,10,11,12,13,14] ?_;refine A1 ?_;refine L2 0 0 ?_;refine L4 1 0 ?_;refine L4 0 0 ?_;refine A1 ?_;refine L2 1 0 ?_;refine Pc (eQ _) ?_;refine JU ?_;refine Pc (eQ _) ?_;refine JU ?_;refine dL [_,_] rfl rfl rfl (yM _ _ (by first|assumption|grind [fJ,fK,fM,fO,fP,fB,fC,cO,bU,aS,fF,dX,lY]) (by first|assumption|grind [fJ,fK,fM,fO,fP,fB,fC,cO,bU,aS,fF,dX,lY])) ?_;refine A2 ?_;refine Ss 2 ?_;refine A4 ?_;refine bF rfl (bn 2 rfl rfl BG (vs:=[_,_,_,_]) rfl rfl (Nat.le_of_ble_eq_true rfl) rfl) (aj rfl) (fun w hL=>⟨?_,hL.below⟩);rw[<-TT p q,qdy p q];rfl
def Dk(p q:Rat)(hp:bV p<=4194303:=by omega)(hq:bV q<=4194303:=by omega):aH Tryz.prog 212 #[Q p,Q q] (.int .i64 (nD p q)):=by
 refine nG 21 Tryz.func212 fun w=>?_;refine A2 ?_;refine Bp 4 (fun g0=>?_);refine Bp 4 (fun g1=>?_);refine A6 ?_;refine L4 0 0 ?_;refine L4 1 0 ?_;refine fH rfl rfl rfl rfl qab (qad _ _) ?_;refine A2 ?_;refine Cd ?_ ?_<;>intro haQ
 ·refine A7 ?_;refine E0 ?_
  have e:p=q:=(by simpa using haQ);subst e;rw[XG]
 ·refine A4 ?_;refine L4 0 0 ?_;refine L4 1 0 ?_;refine dL [_,_] rfl rfl rfl (xM _ _ (by first|assumption|grind [fJ,fK,fM,fO,fP,fB,fC,cO,bU,aS,fF,dX,lY]) (by first|assumption|grind [fJ,fK,fM,fO,fP,fB,fC,cO,bU,aS,fF,dX,lY])) ?_;refine A4 ?_;refine Al 2 wG (fun g2=>?_);refine Al 2 wG (fun g3=>?_);refine Al 2 wG (fun g4=>?_);refine Ss 2 ?_;refine Ss 3 ?_;refine Ss 4 ?_;refine A4 ?_;refine L2 2 0 ?_;refine L2 3 0 ?_;refine Pc (vV _ _) ?_;refine A4 ?_;refine E0 ?_;exact congrArg (fun z=>Ending.returned (.int .i64 z)) (XH p q)
end Go.Proofs.YtaffcpfhedadhaaGreatDoor
namespace Go.Via
open Go
def nC(z:Int):Bool:=decide (0<=z)&&(bQ z.natAbs*bQ z.natAbs==z.natAbs)
theorem qbm{z:Int}(h:decide (z<0)=true):nC z=false:=by
 have:=of_decide_eq_true h;unfold nC;rw[decide_eq_false (by omega)];rfl
theorem qeV{z:Int}(h:(bH (bQ z.natAbs*bQ z.natAbs) !=bH z.natAbs)=true):nC z=false:=by
 unfold nC;have:¬bQ z.natAbs*bQ z.natAbs=z.natAbs:=fun e=>by rw[e,bne,yg] at h;simp at h
 rw[beq_eq_false_iff_ne.2 this,Bool.and_false]
theorem qbn{z:Int}(h0:decide (z<0)=false)(h:(bH (bQ z.natAbs*bQ z.natAbs) !=bH z.natAbs)=false):nC z=true:=by
 unfold nC;have h1:=of_decide_eq_false h0;have h2:bH (bQ z.natAbs*bQ z.natAbs)=bH z.natAbs:=by rw[bne,yg] at h;simpa using h
 rw[Ox.1 h2,decide_eq_true (by omega)];simp
def qbo(n:Nat):bQ n<=n:=by
 have h:=(JF n).1
 by_cases h0:bQ n=0
 ·omega
 ·exact Nat.le_trans (Nat.le_mul_of_pos_right _ (by omega)) h
def nR(n:Nat):nb (bQ n)<=nb n:=gK (qbo n)
theorem F5(q:Rat):Bj q=(nC q.num&&nC (q.den:Int)):=by
 unfold Bj nC;rw[Int.natAbs_natCast,decide_eq_true (show(0:Int)<=(q.den:Int) by omega),Bool.true_and]
def w3{a b:Int}(ha:a= -1∨a=0∨a=1)(hb:b= -1∨b=0∨b=1):IntKind.i64.wrap (a*b)=a*b:=by
 rcases ha with rfl|rfl|rfl<;>rcases hb with rfl|rfl|rfl<;>rfl
theorem Dl(q:Rat):dE q= -1∨dE q=0∨dE q=1:=by rcases ji q with h|h|h<;>simp[h.2]
def qbp(p q:Rat):nD p q= -1∨nD p q=0∨nD p q=1:=by rcases xB p q with h|h|h<;>simp[h.2]
theorem qh1{a b r:Rat}(h:dE b*dE r=0):tu a b r=dE a:=by unfold tu;rw[if_pos (.inl h)]
theorem qh2{a b r:Rat}(h:dE a=dE b*dE r):tu a b r=dE a:=by unfold tu;rw[if_pos (.inr h)]
theorem qh3{a b r:Rat}(h0:dE b*dE r≠0)(h1:dE a≠dE b*dE r)(h2:dE a=0):tu a b r=dE b*dE r:=by unfold tu;rw[if_neg (by rintro(h|h);exact h0 h;exact h1 h),if_pos h2]
theorem qh4{a b r:Rat}(h0:dE b*dE r≠0)(h1:dE a≠dE b*dE r)(h2:dE a≠0):tu a b r=dE a*nD (a*a) (b*b*r):=by unfold tu;rw[if_neg (by rintro(h|h);exact h0 h;exact h1 h),if_neg h2]
section
variable{x y:Rl}
theorem qeW(h:dE (-nZ y)*dE y.r=0):bK x y=tu (x.p-y.p) (nZ x) x.r:=by unfold bK;rw[if_pos (.inl h)]
theorem qeX(h:tu (x.p-y.p) (nZ x) x.r=dE (-nZ y)*dE y.r):bK x y=tu (x.p-y.p) (nZ x) x.r:=by unfold bK;rw[if_pos (.inr h)]
theorem qeY(h0:dE (-nZ y)*dE y.r≠0)(h1:tu (x.p-y.p) (nZ x) x.r≠dE (-nZ y)*dE y.r)(h2:tu (x.p-y.p) (nZ x) x.r=0):bK x y=dE (-nZ y)*dE y.r:=by
 unfold bK;rw[if_neg (by rintro(h|h);exact h0 h;exact h1 h),if_pos h2]
theorem qeZ(h0:dE (-nZ y)*dE y.r≠0)(h1:tu (x.p-y.p) (nZ x) x.r≠dE (-nZ y)*dE y.r)(h2:tu (x.p-y.p) (nZ x) x.r≠0):
 bK x y=tu (x.p-y.p) (nZ x) x.r*tu ((x.p-y.p)*(x.p-y.p)+x.r-y.r) (2*((x.p-y.p)*nZ x)) x.r:=by
 unfold bK;rw[if_neg (by rintro(h|h);exact h0 h;exact h1 h),if_neg h2]
end
theorem qjZ{x:Rl}(h:x.n=true):nZ x=((-1:Int):Rat):=by unfold nZ;rw[if_pos h];rfl
theorem qj0{x:Rl}(h:x.n=false):nZ x=((1:Int):Rat):=by unfold nZ;rw[if_neg (by rw[h];decide)];rfl
def mY{z:Int}(h1: -255<=z)(h2:z<=255):bV (z:Rat)<=2:=Nat.le_trans (qbg z) (by have:=AQ h1 h2;unfold jm at this;omega)
def EM:bV 2<=2:=mY (z:=2) (by omega) (by omega)
def vX:bV 0<=2:=mY (z:=0) (by omega) (by omega)
def UN(x:Rl):bV (nZ x)<=2:=by
 unfold nZ;split
 ·exact mY (z:= -1) (by omega) (by omega)
 ·exact mY (z:=1) (by omega) (by omega)
def gz(x:Rl):Nat:=max (bV x.p) (bV x.r)
def rD(x:Rl):bV x.p<=gz x:=Nat.le_max_left ..
def xO(x:Rl):bV x.r<=gz x:=Nat.le_max_right ..
def wS{q:Rat}{n:Nat}(h:bV q<=n)(h2:2<=n):gz (rl q)<=n:=Nat.max_le.2 ⟨h,Nat.le_trans vX h2⟩
def YH{q:Rat}{n:Nat}(h:bV q<=n):bV (mr q)<=n:=by
 unfold mr;have h1:jm ((bQ q.num.natAbs:Nat):Int)<=n:=zy (Nat.le_trans (nR _) (Nat.le_trans (fB q) h));have h2:jm ((bQ q.den:Nat):Int)<=n:=zy (Nat.le_trans (nR _) (by have:=Nat.le_trans (fC q) h;unfold jm at this;simpa using this));have:=tY h1 h2 (Nat.le_trans (H7 q) h);omega
def Pi(q:Rat):bV (mr q)<=bV q:=YH (Nat.le_refl _)
def qh5{p q r:Rat}:gz (mkR p q r)<=bV p+bV q+bV q+bV r+2:=by
 unfold mkR
 split
 ·refine wS ?_ (by omega);have h1:=cO p (q*mr r);have h2:=aS q (mr r);have h3:=Pi r;omega
 ·refine Nat.max_le.2 ⟨?_,?_⟩
  ·show bV p<=_;omega
  ·show bV (q*q*r)<=_;have h1:=aS (q*q) r;have h2:=aS q q;omega
def qe0(q:Rat):(dm q).size<=bV q:=by
 unfold dm
 split
 ·exact Nat.zero_le _
 ·rw[lg];exact Nat.le_max_right ..
end Go.Via
namespace Go.Proofs.YtaffcpfhedadhaaGreatDoor
open Go Go.Via
def RQ(q:Rat)(h:bV q<=5000:=by omega):aH Tryz.prog 105 #[Q q] (.int .i64 0):=by
 have:=FZ (decide (q.num<0)) (bH q.num.natAbs) false (dm q) (by rw[lg];exact Nat.le_trans (Nat.le_max_left ..) h) (Nat.le_trans (qe0 q) h);rw[Ik.2 ⟨q,rfl,rfl,rfl,rfl⟩,if_pos rfl] at this;exact this
end Go.Proofs.YtaffcpfhedadhaaGreatDoor
namespace Go.Via
def qbq{q:Rat}(h:nC q.num=true){n:Nat}(h1:jm q.num<=n)(hn:n<=8388608:=by omega):jm (if nC q.num=true then((bQ q.num.natAbs:Nat):Int) else 0)<=8388608:=by
 rw[if_pos h];exact zy (Nat.le_trans (nR _) (Nat.le_trans h1 hn))
def qbr{q:Rat}(h:nC (q.den:Int)=true){n:Nat}(h1:jm (q.den:Int)<=n)(hn:n<=8388608:=by omega):jm (if nC (q.den:Int)=true then((bQ (q.den:Int).natAbs:Nat):Int) else 0)<=8388608:=by
 rw[if_pos h];exact zy (Nat.le_trans (nR _) (Nat.le_trans h1 hn))
def qbs{q:Rat}(h:nC (q.den:Int)=true):(if nC (q.den:Int)=true then((bQ (q.den:Int).natAbs:Nat):Int) else 0)≠0:=by
 rw[if_pos h];have hd:=q.den_nz;unfold nC at h;simp only[Bool.and_eq_true,beq_iff_eq,Int.natAbs_natCast] at h;rw[Int.natAbs_natCast];intro e;have:bQ q.den=0:=by omega
 have h2:=h.2;rw[this] at h2;omega
end Go.Via
namespace Go.Via
theorem WA:I 0= .agg #[aO,aP]:=by show Value.agg #[.bool (decide ((0:Int)<0)),.string (bH 0)]=_;rw[iQ];rfl
end Go.Via
namespace Go.Via
theorem JV(q:Rat):RV (rl q)= .agg #[.bool (decide (q.num<0)),.string (bH q.num.natAbs),.bool false,.string (dm q),aO,aP,aO,aP,.bool false]:=by
 have h:bH (0:Rat).num.natAbs=⟨#[]⟩:=iQ;have h2:dm 0=⟨#[]⟩:=rfl;show Value.agg #[_,_,_,_,.bool (decide ((0:Rat).num<0)),.string (bH (0:Rat).num.natAbs),_,.string (dm 0),_]=_;rw[h,h2];rfl
end Go.Via
namespace Go.Proofs.YtaffcpfhedadhaaGreatDoor
open Go Go.RowKit Go.Via
variable[Mo]
def Ac(a b r:Rat)(ha:bV a<=500000:=by omega)(hb:bV b<=500000:=by omega)(hr:bV r<=500000:=by omega):aH Tryz.prog 181 #[Q a,Q b,Q r] (.int .i64 (tu a b r)):=by
 refine pB3 40 Tryz.func181 fun w=>?_;refine A2 ?_;refine Bp 4 (fun g0=>?_);refine Bp 4 (fun g1=>?_);refine Bp 4 (fun g2=>?_);refine A4 ?_;refine Dp [2000000] [0,2,4,1,3,5,6,7,8] ?_;refine L4 0 0 ?_;refine L4 1 0 ?_;refine L4 2 0 ?_;refine Pc (dV _) ?_;refine Pc (dV _) ?_;refine Pc (dV _) ?_;refine(Aq (dE b*dE r)) (congrArg some (w3 (Dl b) (Dl r))) ?_;refine pq ?_;refine Rs 19 ?_ ?_<;>intro haQ
 ·have hs19:=eq_of_beq haQ;refine KU ?_;refine E0 ?_;rw[qh1 hs19];rfl
 ·have hs19:=ne_of_beq_false haQ;refine A7 ?_;refine Cd ?_ ?_<;>intro hbQ
  ·have hs16:=eq_of_beq hbQ;refine A9 ?_;refine E0 ?_;rw[qh2 hs16];rfl
  ·have hs16:=ne_of_beq_false hbQ;refine A7 ?_;refine Cd ?_ ?_<;>intro hcQ
   ·have hs25:=eq_of_beq hcQ;refine A9 ?_;refine E0 ?_;rw[qh3 hs19 hs16 hs25]
   ·have hs25:=ne_of_beq_false hcQ;refine A4 ?_;refine Dp [] [0,1,2,4,5,7,3,6,8,9,10,11] ?_;refine A1 ?_;refine L4 0 0 ?_;refine L4 0 0 ?_;refine L4 1 0 ?_;refine L4 1 0 ?_;refine L4 2 0 ?_;refine dL [_,_] rfl rfl rfl (aX _ _ (by first|assumption|grind [fJ,fK,fM,fO,fP,fB,fC,cO,bU,aS,fF,dX,lY]) (by first|assumption|grind [fJ,fK,fM,fO,fP,fB,fC,cO,bU,aS,fF,dX,lY])) ?_;refine dL [_,_] rfl rfl rfl (aX _ _ (by first|assumption|grind [fJ,fK,fM,fO,fP,fB,fC,cO,bU,aS,fF,dX,lY]) (by first|assumption|grind [fJ,fK,fM,fO,fP,fB,fC,cO,bU,aS,fF,dX,lY])) ?_;refine dL [_,_] rfl rfl rfl (aX _ _ (by first|assumption|grind [fJ,fK,fM,fO,fP,fB,fC,cO,bU,aS,fF,dX,lY]) (by first|assumption|grind [fJ,fK,fM,fO,fP,fB,fC,cO,bU,aS,fF,dX,lY])) ?_;refine dL [_,_] rfl rfl rfl (Dk _ _ (by first|assumption|grind [fJ,fK,fM,fO,fP,fB,fC,cO,bU,aS,fF,dX,lY]) (by first|assumption|grind [fJ,fK,fM,fO,fP,fB,fC,cO,bU,aS,fF,dX,lY])) ?_;refine(Aq (dE a*nD (a*a) (b*b*r))) (congrArg some (w3 (Dl a) (qbp _ _))) ?_;refine A4 ?_;refine E0 ?_;rw[qh4 hs19 hs16 hs25]
def wU(x:Rl):aH Tryz.prog 180 #[RV x] (Q (nZ x)):=by
 refine uX 7 Tryz.func180 fun w=>?_;refine A2 ?_;refine Bp 9 (fun g0=>?_);refine Al 4 oM (fun g1=>?_);refine A9 ?_;refine Cd ?_ ?_<;>intro haQ
 ·refine A2 ?_;refine dL [_] rfl rfl rfl (fU _) ?_;refine Ss 1 ?_;refine A4 ?_;refine Dz 1 ?_;rw[qjZ haQ];rfl
 ·refine A4 ?_;refine dL [_] rfl rfl rfl (fU _) ?_;refine Ss 1 ?_;refine A3 ?_;refine Dz 1 ?_;rw[qj0 haQ];rfl
def Ad(x:Rl)(hx:gz x<=400000:=by omega):aH Tryz.prog 236 #[RV x] (.int .i64 (tu x.p (nZ x) x.r)):=by
 have e1:=Nat.le_trans (rD x) hx;have e2:=Nat.le_trans (xO x) hx;have e3:=UN x;refine uX 10 Tryz.func236 fun w=>?_;refine A2 ?_;refine Bp 9 (fun g0=>?_);refine A4 ?_;refine Dp [] [0,1,2,4,5,3,6,7] ?_;refine A1 ?_;refine L4 0 0 ?_;refine L9 0 0 ?_;refine A1 ?_;refine L4 0 4 ?_;refine Pc (wU x) ?_;refine Pc (Ac x.p (nZ x) x.r) ?_;refine A4 ?_;refine E0 ?_;exact rfl
def dH(x y:Rl)(hx:gz x<=50000:=by omega)(hy:gz y<=50000:=by omega):aH Tryz.prog 130 #[RV x,RV y] (.int .i64 (bK x y)):=by
 have x1:=Nat.le_trans (rD x) hx;have x2:=Nat.le_trans (xO x) hx;have y1:=Nat.le_trans (rD y) hy;have y2:=Nat.le_trans (xO y) hy;have fx:=UN x;have fy:=UN y;have l1:=bU x.p y.p;have l2:=aS (x.p-y.p) (x.p-y.p);have l3:=cO ((x.p-y.p)*(x.p-y.p)) x.r;have l4:=bU ((x.p-y.p)*(x.p-y.p)+x.r) y.r;have l5:=aS (x.p-y.p) (nZ x);have l6:=aS 2 ((x.p-y.p)*nZ x);have l7:=EM;refine nG 65 Tryz.func130 fun w=>?_;refine A2 ?_;refine Bp 9 (fun g0=>?_);refine Bp 9 (fun g1=>?_);refine A4 ?_;refine Dq [3000000] [0,1,2,3,5,7,4,6,8,9,10,11,12,13,14,15] ?_;refine A1 ?_;refine L4 0 0 ?_;refine A1 ?_;refine L4 1 0 ?_;refine L9 0 0 ?_;refine L9 1 0 ?_;refine Pc (eU x.p y.p) ?_;refine Pc (wU x) ?_;refine Pc (wU y) ?_;refine Pc (uw (nZ y)) ?_;refine Al 4 oM (fun g2=>?_);refine Al 4 oM (fun g3=>?_);refine Al 4 oM (fun g4=>?_);refine Ss 2 ?_;refine Ss 3 ?_;refine Ss 4 ?_;refine A3 ?_;refine Dp [2000000] [0,1,2,3,5,7,8,4,6,9,10,11,12] ?_;refine L4 2 0 ?_;refine L4 3 0 ?_;refine A1 ?_;refine L4 0 4 ?_;refine L4 4 0 ?_;refine A1 ?_;refine L4 1 4 ?_;refine Pc (Ac (x.p-y.p) (nZ x) x.r) ?_;refine Pc (dV (-nZ y)) ?_;refine Pc (dV y.r) ?_;refine(Aq (dE (-nZ y)*dE y.r)) (congrArg some (w3 (Dl _) (Dl _))) ?_;refine pq ?_;refine Rs 35 ?_ ?_<;>intro haQ
 ·have hs35:=eq_of_beq haQ;refine KU ?_;refine E0 ?_;rw[qeW hs35]
 ·have hs35:=ne_of_beq_false haQ;refine A7 ?_;refine Cd ?_ ?_<;>intro hbQ
  ·have hs32:=eq_of_beq hbQ;refine A9 ?_;refine E0 ?_;rw[qeX hs32]
  ·have hs32:=ne_of_beq_false hbQ;refine A7 ?_;refine Cd ?_ ?_<;>intro hcQ
   ·have hs41:=eq_of_beq hcQ;refine A9 ?_;refine E0 ?_;rw[qeY hs35 hs32 hs41]
   ·have hs41:=ne_of_beq_false hcQ;refine A4 ?_;refine Dq [3000000] [0,1,3,4,6,7,2,5,8,9,10] ?_;refine L4 2 0 ?_;refine L4 2 0 ?_;refine A1 ?_;refine L4 0 4 ?_;refine A1 ?_;refine L4 1 4 ?_;refine Pc (aX (x.p-y.p) (x.p-y.p)) ?_;refine Pc (dM ((x.p-y.p)*(x.p-y.p)) x.r) ?_;refine Pc (eU ((x.p-y.p)*(x.p-y.p)+x.r) y.r) ?_;refine Al 4 oM (fun g5=>?_);refine Ss 5 ?_;refine A3 ?_;refine Dp [] [0,1,3,4,7,8,2,5,6,9,10,11] ?_;refine A1 ?_;refine L4 5 0 ?_;refine L4 2 0 ?_;refine L4 3 0 ?_;refine A1 ?_;refine L4 0 4 ?_;refine Pc (fU 2) ?_;refine Kr 56 (Q 2) ?_;refine Pc (aX (x.p-y.p) (nZ x)) ?_;refine Pc (aX 2 ((x.p-y.p)*nZ x)) ?_;refine Pc (Ac ((x.p-y.p)*(x.p-y.p)+x.r-y.r) (2*((x.p-y.p)*nZ x)) x.r) ?_;refine(Aq (tu (x.p-y.p) (nZ x) x.r*tu ((x.p-y.p)*(x.p-y.p)+x.r-y.r) (2*((x.p-y.p)*nZ x)) x.r)) (congrArg some (w3 (BB _ _ _) (BB _ _ _))) ?_;refine A4 ?_;refine E0 ?_;rw[qeZ hs35 hs32 hs41]
def kF(q:Rat):aH Tryz.prog 86 #[Q q] (RV (rl q)):=by
 refine uX 5 Tryz.func86 fun w=>?_;refine A2 ?_;refine Bp 4 (fun g0=>?_);refine Al 9 OD (fun g1=>?_);refine A4 ?_;refine L4 0 0 ?_;refine(Bu [(0,_)]) (FD) ?_;refine Ss 1 ?_;refine A3 ?_;refine Ed9 1 ?_;rw[JV]
def vY(x:Rl)(q:Rat)(hx:gz x<=50000:=by omega)(hq:bV q<=50000:=by omega):aH Tryz.prog 118 #[RV x,Q q] (.int .i64 (bK x (rl q))):=by
 refine nG 9 Tryz.func118 fun w=>?_;refine A2 ?_;refine Bp 9 (fun g0=>?_);refine Bp 4 (fun g1=>?_);refine A4 ?_;refine Di [] ?_;refine L9 0 0 ?_;refine L4 1 0 ?_;refine Pc (kF q) ?_;refine Pc (dH x (rl q) hx (wS hq (by omega))) ?_;refine A4 ?_;refine E0 ?_;exact rfl
def JW(x y:Rl)(hx:gz x<=50000:=by omega)(hy:gz y<=50000:=by omega):aH Tryz.prog 83 #[RV x,RV y] (RV (gm x y)):=by
 refine nG 11 Tryz.func83 fun w=>?_;refine A2 ?_;refine Bp 9 (fun g0=>?_);refine Bp 9 (fun g1=>?_);refine Al 9 OD (fun g2=>?_);refine A5 ?_;refine L9 1 0 ?_;refine L9 0 0 ?_;refine Pc (dH y x hy hx) ?_;refine A3 ?_;refine Cd ?_ ?_<;>intro haQ
 ·refine A2 ?_;refine L9 1 0 ?_;refine Ss 2 ?_;refine A4 ?_;refine Ed9 2 ?_;rw[gm,if_pos (of_decide_eq_true haQ)];rfl
 ·refine A4 ?_;refine L9 0 0 ?_;refine Ss 2 ?_;refine A3 ?_;refine Ed9 2 ?_;rw[gm,if_neg (of_decide_eq_false haQ)];rfl
end Go.Proofs.YtaffcpfhedadhaaGreatDoor
namespace Go.Proofs.YtaffcpfhedadhaaGreatDoor
open Go Go.RowKit Go.Via
def uy(z:Int)(hz:jm z<=33554432:=by omega):aH Tryz.prog 159 #[I z] (.tuple #[I (if nC z=true then((bQ z.natAbs:Nat):Int) else 0),.bool (nC z)]):=by
 have hr:=nR z.natAbs;have hz2:nb z.natAbs<=33554432:=hz;refine uX 20 Tryz.func159 fun w=>?_;refine A2 ?_;refine Bp 2 (fun g0=>?_);refine Al 2 wG (fun g1=>?_);refine kN ?_;refine Cd ?_ ?_<;>intro haQ
 ·refine A2 ?_;refine(Bu []) (FC) ?_;refine Ss 1 ?_;refine A5 ?_;refine bF rfl (bn 1 rfl rfl yl (vs:=[_,_]) rfl rfl (Nat.le_of_ble_eq_true rfl) rfl) (aj rfl) (fun w hL=>⟨?_,hL.below⟩);rw[qbm haQ,if_neg (by decide),WA]
 ·refine A6 ?_;refine Pc (zZ z.natAbs hz2) ?_;refine A5 ?_;refine Dp [] [0,1,3,4,2,5] ?_;refine A4 ?_;refine dL [_,_] rfl rfl rfl (BR _ _) ?_;refine A3 ?_;refine Cd ?_ ?_<;>intro hbQ
  ·refine A2 ?_;refine(Bu []) (FC) ?_;refine Ss 1 ?_;refine A5 ?_;refine bF rfl (bn 1 rfl rfl yl (vs:=[_,_]) rfl rfl (Nat.le_of_ble_eq_true rfl) rfl) (aj rfl) (fun w hL=>⟨?_,hL.below⟩);rw[qeV hbQ,if_neg (by decide),WA]
  ·refine A5 ?_;refine Pc (dC false (bQ z.natAbs)) ?_;refine Ss 1 ?_;refine A4 ?_;refine bF rfl (bn 1 rfl rfl yl (vs:=[_,_]) rfl rfl (Nat.le_of_ble_eq_true rfl) rfl) (aj rfl) (fun w hL=>⟨?_,hL.below⟩);rw[qbn haQ hbQ,if_pos rfl];rfl
def yN(q:Rat)(hq:bV q<=4194303:=by omega):aH Tryz.prog 107 #[Q q] (.tuple #[Q (if Bj q=true then mr q else 0),.bool (Bj q)]):=by
 have h1:=Nat.le_trans (fB q) hq;have h2:=Nat.le_trans (fC q) hq;have h3:=nR q.num.natAbs;have h4:=nR q.den;refine uX 30 Tryz.func107 fun w=>?_;refine A2 ?_;refine Bp 4 (fun g0=>?_);refine Al 4 oM (fun g1=>?_);refine A6 ?_;refine L2 0 0 ?_;refine Pc (uy q.num) ?_;refine A3 ?_;refine Al 2 wG (fun g2=>?_);refine Ss 2 ?_;refine A5 ?_;refine L4 0 0 ?_;refine Pc (eQ q) ?_;refine Pc (uy (q.den:Int)) ?_;refine A3 ?_;refine Al 2 wG (fun g3=>?_);refine Ss 3 ?_;refine A9 ?_;refine Rs 22 ?_ ?_<;>intro haQ
 ·have hs22:nC q.num=false:=by have e:=haQ;simpa using e
  refine A8 ?_;refine(Bu []) (yt) ?_;refine Ss 1 ?_;refine A5 ?_;refine bF rfl (bn 1 rfl rfl BG (vs:=[_,_,_,_]) rfl rfl (Nat.le_of_ble_eq_true rfl) rfl) (aj rfl) (fun w hL=>⟨?_,hL.below⟩);rw[F5,hs22,Bool.false_and,if_neg (by decide),yh]
 ·have hs22:nC q.num=true:=by have e:=haQ;simpa using e
  refine A5 ?_;refine Cd ?_ ?_<;>intro hbQ
  ·have hs23:nC (q.den:Int)=false:=by have e:=hbQ;simpa using e
   refine A2 ?_;refine(Bu []) (yt) ?_;refine Ss 1 ?_;refine A5 ?_;refine bF rfl (bn 1 rfl rfl BG (vs:=[_,_,_,_]) rfl rfl (Nat.le_of_ble_eq_true rfl) rfl) (aj rfl) (fun w hL=>⟨?_,hL.below⟩);rw[F5,hs23,Bool.and_false,if_neg (by decide),yh]
  ·have hs23:nC (q.den:Int)=true:=by have e:=hbQ;simpa using e
   refine A4 ?_;refine L2 2 0 ?_;refine L2 3 0 ?_;refine Pc (jG _ _ (qbq hs22 h1) (qbr hs23 h2) (qbs hs23)) ?_;refine Ss 1 ?_;refine A4 ?_;refine bF rfl (bn 1 rfl rfl BG (vs:=[_,_,_,_]) rfl rfl (Nat.le_of_ble_eq_true rfl) rfl) (aj rfl) (fun w hL=>⟨?_,hL.below⟩);rw[F5,hs22,hs23];rfl
end Go.Proofs.YtaffcpfhedadhaaGreatDoor
namespace Go.Via
open Go
structure Two(a b:List PU)(m:Rl)(S:Rl->Prop)(ρ:Rl->Int):Prop where
 T:fZ S ρ
 ea:Ends S a
 eb:Ends S b
 sa:pJ ρ a
 sb:pJ ρ b
 sm:S m
 only:∀x,S x->iF x∨x=m
def UO(i:Iv)(t:Rl):Bool:=(decide (bK i.f t<0)||decide (bK i.f t=0)&& !i.fo)&&(decide (bK t i.t<0)||decide (bK t i.t=0)&& !i.tp)
def qh6{S:Rl->Prop}{ρ:Rl->Int}(hS:∀x,S x->qlR x)(T:fZ S ρ){a b:List PU}(ea:Ends S a)(eb:Ends S b)(sa:pJ ρ a)(sb:pJ ρ b):Yy ((ay a b).map bg):=fun p hp=>by
 obtain⟨z,hz,rfl⟩:=List.mem_map.1 hp;rw[kY T sa sb ea eb] at hz;obtain⟨x,hx,y,hy,hm⟩:=(xH T sb eb sa ea).2 z hz;obtain⟨_,e2,s1,s2,_⟩:=uq T (ea x hx) (eb y hy) hm;obtain⟨u,hu⟩:=hS _ s1;obtain⟨v,hv⟩:=hS _ s2;refine⟨vT z.2 u,vT z.2 v,?_,?_,?_,?_⟩
 ·rw[e2];exact Nv _ _ _
 ·rw[e2];exact Nv _ _ _
 ·unfold bg;rw[hu,FV]
 ·unfold bg;rw[hv,FV]
def qbt{a b:List PU}(sa:pJ jk a)(sb:pJ jk b)(ea:Ends iF a)(eb:Ends iF b):Yy ((ay a b).map bg):=
 qh6 (fun x ⟨z,hz⟩=>⟨_,hz⟩) o5 ea eb sa sb
def RS:∀{l:List oL} {q:Rat},Yy l->∃M,l.foldl (fun o x=>gm o (gm x.a x.b)) (rl q)=rl M∧q<=M∧∀p∈l,∀u v,p.a=rl u->p.b=rl v->u<=M∧v<=M
 |[],q,_=>⟨q,rfl,Rat.le_refl,by simp⟩
 |p::l,q,h=>by
  obtain⟨u,v,hu,hv,ea,eb⟩:=h p (List.mem_cons_self ..);obtain⟨M,h1,h2,h3⟩:=RS (l:=l) (q:=Rt q (Rt u v)) fun x hx=>h x (List.mem_cons_of_mem _ hx)
  have hq:q<=Rt q (Rt u v)∧u<=Rt q (Rt u v)∧v<=Rt q (Rt u v):=(by unfold Rt;grind);refine⟨M,?_,Rat.le_trans hq.1 h2,fun x hx u' v' eu ev=>?_⟩
  ·rw[List.foldl_cons,ea,eb,qG,qG];exact h1
  ·rcases List.mem_cons.1 hx with rfl|hx
   ·rw[ea] at eu;rw[eb] at ev;have e1:u=u':=congrArg Rl.p eu;have e2:v=v':=congrArg Rl.p ev;rw[<-e1,<-e2];exact⟨Rat.le_trans hq.2.1 h2,Rat.le_trans hq.2.2 h2⟩
   ·exact h3 x hx u' v' eu ev
def qbu{l:List oL}(h:Yy l)(hne:l≠[]):∃M,fD l=rl M∧∀p∈l,∀u v,p.a=rl u->p.b=rl v->u<=M∧v<=M:=by
 cases l with
 |nil=>exact absurd rfl hne
 |cons p l=>
  obtain⟨u,v,hu,hv,ea,eb⟩:=h p (List.mem_cons_self ..);obtain⟨M,h1,h2,h3⟩:=RS (l:=p::l) (q:=u) h;exact⟨M,by show List.foldl _ p.a (p::l)=_;rw[ea];exact h1,h3⟩
end Go.Via
namespace Go.Via
open Go
theorem JX{a b:List PU}(sa:pJ jk a)(sb:pJ jk b)(ea:Ends iF a)(eb:Ends iF b)(hne:ay a b≠[]):xI ((ay a b).map bg)=fD ((ay a b).map bg):=
 (UE (qbt sa sb ea eb) (by simpa using hne)).symm
theorem RU{a b:List PU}(sa:pJ jk a)(sb:pJ jk b)(ea:Ends iF a)(eb:Ends iF b):ay a b=ay b a:=UF o5 sa sb ea eb
def qbv{a b:List PU}(sa:pJ jk a)(sb:pJ jk b)(ea:Ends iF a)(eb:Ends iF b)(hne:ay a b≠[]):∃M,fD ((ay a b).map bg)=rl M:=by
 obtain⟨M,h,_⟩:=qbu (qbt sa sb ea eb) (by simpa using hne);exact⟨M,h⟩
def qbw{a b:List PU}(sa:pJ jk a)(sb:pJ jk b)(ea:Ends iF a)(eb:Ends iF b)(hne:ay a b≠[]):uZ a b ((ay a b).map bg) (fD ((ay a b).map bg))=0:=by
 obtain⟨M,h⟩:=qbv sa sb ea eb hne;exact qeG (fun x ⟨z,hz⟩=>⟨_,hz⟩) o5 sa sb ea eb hne (by rw[h];exact Ij M)
end Go.Via
namespace Go.Via
open Go
def Pj(x y:Rl):gm x y=x∨gm x y=y:=by unfold gm;split<;>simp
def YI{l:List oL}(hne:l≠[]):∃p∈l,fD l=p.a∨fD l=p.b:=by
 have step:∀(l:List oL) (o:Rl),l.foldl (fun o x=>gm o (gm x.a x.b)) o=o∨∃p∈l,l.foldl (fun o x=>gm o (gm x.a x.b)) o=p.a∨l.foldl (fun o x=>gm o (gm x.a x.b)) o=p.b:=by
  intro l
  induction l with
  |nil=>intro o;exact .inl rfl
  |cons p l ih=>
   intro o;rw[List.foldl_cons];rcases ih (gm o (gm p.a p.b)) with e|⟨q,hq,e⟩
   ·rw[e];rcases Pj o (gm p.a p.b) with e1|e1
    ·exact .inl e1
    ·right
     refine⟨p,List.mem_cons_self ..,?_⟩;rw[e1];exact Pj _ _
   ·exact .inr ⟨q,List.mem_cons_of_mem _ hq,e⟩
 cases l with
 |nil=>exact absurd rfl hne
 |cons p l=>
  rcases step (p::l) p.a with e|h
  ·exact⟨p,List.mem_cons_self ..,.inl e⟩
  ·exact h
end Go.Via
namespace Go.Via
open Go
def tJ(f:Qd):Nat:=max (bV f.c0) (max (bV f.c1) (bV f.c2))
def o7(f:Qd):bV f.c0<=tJ f:=Nat.le_max_left ..
def o8(f:Qd):bV f.c1<=tJ f:=Nat.le_trans (Nat.le_max_left ..) (Nat.le_max_right ..)
def pV(f:Qd):bV f.c2<=tJ f:=Nat.le_trans (Nat.le_max_right ..) (Nat.le_max_right ..)
def F6{f:Qd}{n:Nat}(h0:bV f.c0<=n)(h1:bV f.c1<=n)(h2:bV f.c2<=n):tJ f<=n:=Nat.max_le.2 ⟨h0,Nat.max_le.2 ⟨h1,h2⟩⟩
def BH(f:Qd):Int:=if f.c2≠0 then 2 else if f.c1≠0 then 1 else if f.c0≠0 then 0 else-1
theorem Pm{q:Rat}:dE q≠0↔q≠0:=by
 rcases ji q with⟨h,e⟩|⟨h,e⟩|⟨h,e⟩<;>rw[e]<;>simp
 ·grind
 ·grind
 ·exact h
def wV(f:Qd)(t:Rat):bV (vT f t)<=bV f.c0+(bV t+(bV f.c1+(bV t+bV f.c2)+1))+1:=by
 unfold vT;have h1:=aS t f.c2;have h2:=cO f.c1 (t*f.c2);have h3:=aS t (f.c1+t*f.c2);have h4:=cO f.c0 (t*(f.c1+t*f.c2));omega
def qbx(f:Qd)(t:Rat):bV (BP f t)<=bV f.c1+(bV f.c2+bV f.c2+1+bV t)+1:=by
 unfold BP;have h1:=cO f.c2 f.c2;have h2:=aS (f.c2+f.c2) t;have h3:=cO f.c1 ((f.c2+f.c2)*t);omega
def UQ{f:Qd}{t:Rl}{m n:Nat}(hf:tJ f<=m)(ht:gz t<=n):gz (Nq f t)<=10*m+10*n+20:=by
 have e0:=Nat.le_trans (o7 f) hf;have e1:=Nat.le_trans (o8 f) hf;have e2:=Nat.le_trans (pV f) hf;have t1:=Nat.le_trans (rD t) ht;have t2:=Nat.le_trans (xO t) ht;have h1:=wV f t.p;have h2:=qbx f t.p;have h3:=aS f.c2 t.r;have h4:=cO (vT f t.p) (f.c2*t.r);unfold Nq;refine Nat.le_trans qh5 ?_;have h5:bV (if t.n=true then-BP f t.p else BP f t.p)<=bV (BP f t.p):=by
  split
  ·exact dX _
  ·exact Nat.le_refl _
 omega
end Go.Via
namespace Go.Via
theorem RX:bH (0:Rat).num.natAbs=⟨#[]⟩:=iQ
theorem dm0:dm 0=⟨#[]⟩:=rfl
theorem RY:decide ((0:Rat).num<0)=false:=rfl
theorem WB(a b:Rat):qH ⟨a,b,0⟩= .agg #[.bool (decide (a.num<0)),.string (bH a.num.natAbs),.bool false,.string (dm a),.bool (decide (b.num<0)),.string (bH b.num.natAbs),.bool false,.string (dm b),aO,aP,aO,aP]:=by
 unfold qH;dsimp only;rw[RX,dm0,RY]
theorem NE(a:Rat):qH ⟨a,0,0⟩= .agg #[.bool (decide (a.num<0)),.string (bH a.num.natAbs),.bool false,.string (dm a),aO,aP,aO,aP,aO,aP,aO,aP]:=by
 unfold qH;dsimp only;rw[RX,dm0,RY]
def qby:qH ⟨0,0,0⟩= .agg #[aO,aP,aO,aP,aO,aP,aO,aP,aO,aP,aO,aP]:=by
 unfold qH;dsimp only;rw[RX,dm0,RY]
def WC:RV (rl 0)= .agg #[aO,aP,aO,aP,aO,aP,aO,aP,.bool false]:=by
 rw[JV,RX,dm0,RY]
def uz(f:Qd)(t:Rl):Qd:=if t.r=0 then⟨vT f t.p,0,0⟩ else⟨f.c0+f.c2*(t.r-t.p*t.p),BP f t.p,0⟩
def o9(f g:Qd):Qd:=⟨f.c0-g.c0,f.c1-g.c1,f.c2-g.c2⟩
def qe1{f g:Qd}{m n:Nat}(hf:tJ f<=m)(hg:tJ g<=n):tJ (o9 f g)<=m+n+1:=by
 have f0:=Nat.le_trans (o7 f) hf;have f1:=Nat.le_trans (o8 f) hf;have f2:=Nat.le_trans (pV f) hf;have g0:=Nat.le_trans (o7 g) hg;have g1:=Nat.le_trans (o8 g) hg;have g2:=Nat.le_trans (pV g) hg;refine F6 ?_ ?_ ?_
 ·have:=bU f.c0 g.c0;show bV (f.c0-g.c0)<=_;omega
 ·have:=bU f.c1 g.c1;show bV (f.c1-g.c1)<=_;omega
 ·have:=bU f.c2 g.c2;show bV (f.c2-g.c2)<=_;omega
def qlY(f:Qd)(n:Nat):Prop:=n<=3∧(n<=2->f.c2=0)∧(n<=1->f.c1=0)∧(n<=0->f.c0=0)
def qbz{q:Rat}(h:dE q=0):q=0:=Classical.byContradiction fun e=>Pm.2 e h
theorem qh7{f:Qd}(h:dE f.c2≠0):BH f=2:=by unfold BH;rw[if_pos (Pm.1 h)]
theorem qh8{f:Qd}(h2:f.c2=0)(h:dE f.c1≠0):BH f=1:=by unfold BH;rw[if_neg (fun e=>e h2),if_pos (Pm.1 h)]
theorem qh9{f:Qd}(h2:f.c2=0)(h1:f.c1=0)(h:dE f.c0≠0):BH f=0:=by unfold BH;rw[if_neg (fun e=>e h2),if_neg (fun e=>e h1),if_pos (Pm.1 h)]
theorem qia{f:Qd}(h2:f.c2=0)(h1:f.c1=0)(h:f.c0=0):BH f= -1:=by unfold BH;rw[if_neg (fun e=>e h2),if_neg (fun e=>e h1),if_neg (fun e=>e h)]
def RZ{f:Qd}(h:f.c2=0):BH f<=1:=by unfold BH;rw[if_neg (fun e=>e h)];split<;>(try split)<;>omega
def WE(f:Qd): -1<=BH f∧BH f<=2:=by
 unfold BH
 by_cases h2:f.c2=0<;>by_cases h1:f.c1=0<;>by_cases h0:f.c0=0<;>simp[h0,h1,h2]
def qib{r:Rat}(h:0<=r):¬r.num.sign<0:=by
 have:¬dE r<0:=by rcases ji r with⟨_,e⟩|⟨e1,_⟩|⟨_,e⟩<;>(try rw[e])<;>(try decide);grind
 exact this
end Go.Via
