/-
  Part 43 (chapter 32): lemmas, walks. Each theorem states its own conditions.
-/
import Derived.Shelf.SlSortCmp.WholeK
import Derived.Shelf.SlSortCmp.NoneTotal
import Derived.Lib.Repeat
import Derived.Sort.Grow
import Derived.Sort.EncStr
import Derived.Lib.SliceRun
import Derived.Test.YtaffcpfhedadhaaGreatDoorA40
set_option linter.all false
set_option maxRecDepth 20000
set_option maxHeartbeats 20000000
namespace Go.Proofs.YtaffcpfhedadhaaGreatDoor
open Go Go.RowKit Go.Via
def iI(n:Int)(h1: -255<=n:=by omega)(h2:n<=255:=by omega):aP Tryz.prog 36 #[.int .i64 n] (RV (rz n)):=by
 refine xI 6 Tryz.func36 fun w=>?_;refine A2 ?_;refine Al 9 Jq (fun g0=>?_);refine A5 ?_;refine Pc (iU n 1) ?_;refine aF 4 (Q (n:Rat)) rfl (congrArg Q (rH n)) ?_;refine(Bu [(0,_)]) (Kt) ?_;refine Ss 0 ?_;refine A3 ?_;refine Ed9 0 ?_;exact congrArg Ending.returned (PH (n:Rat)).symm
def Ji:bZ Tryz.prog 39 [] [] (SR [eA1].length×SR [eB1,eB2].length) (fun z=> .tuple #[z.1.v,z.2.v]) (fun z=>[⟨z.1.b,100,ai aB [eA1],z.1.n,true⟩,⟨z.2.b,100,ai aB [eB1,eB2],z.2.n,true⟩]):=by
 refine sB0 24 Tryz.func39 fun w hL0=>?_;refine A8 ?_;refine Pc (iI 4) ?_;refine(Bu [(1,_)]) (Qu) ?_;refine aF 3 (fV eA1.i) rfl (qaj _ _ _).symm ?_;refine Pc (iU 1 1) ?_;refine aF 4 (Q ((1:Int):Rat)) rfl (congrArg Q (rH 1)) ?_;refine(Bu [(1,_)]) (qhO) ?_;refine aF 5 (yV eA1.f) rfl (qnU _).symm ?_;refine(Bu [(0,_),(1,_)]) (wB) ?_;refine Kr 6 (PUV eA1) ?_;refine(Bl 36 [(0,_)]) (DW) (fun g0=>?_);refine A5 ?_;refine Pc (iI 2) ?_;refine(Bu [(1,_)]) (Qu) ?_;refine aF 9 (fV eB1.i) rfl (qaj _ _ _).symm ?_;refine Pc (iU 3 1) ?_;refine aF 10 (Q ((3:Int):Rat)) rfl (congrArg Q (rH 3)) ?_;refine(Bu [(2,_)]) (qhP) ?_;refine aF 11 (yV eB1.f) rfl (qnV _).symm ?_;refine(Bu [(0,_),(1,_)]) (wB) ?_;refine Kr 12 (PUV eB1) ?_;refine Pc (iI 2) ?_;refine Pc (iI 4) ?_;refine(Bu [(0,_),(1,_),(2,_)]) (V4) ?_;refine Kr 15 (fV eB2.i) ?_;refine Pc (iU (-4) 1) ?_;refine aF 16 (Q (((-4):Int):Rat)) rfl (congrArg Q (rH (-4))) ?_;refine Pc (iU 2 1) ?_;refine aF 17 (Q ((2:Int):Rat)) rfl (congrArg Q (rH 2)) ?_;refine Pc (iU 3 1) ?_;refine aF 18 (Q ((3:Int):Rat)) rfl (congrArg Q (rH 3)) ?_;refine(Bu [(0,_),(1,_),(2,_)]) (qmq) ?_;refine aF 19 (yV eB2.f) rfl (qpO _ _ _).symm ?_;refine(Bu [(0,_),(1,_)]) (wB) ?_;refine Kr 20 (PUV eB2) ?_;refine(Bl 72 [(0,_),(1,_)]) (qms) (fun g1=>?_);refine nT ?_;refine bM rfl (au rfl) (au rfl) (fun w hL=>⟨(⟨some g0,36,1,Nat.le_refl _⟩,⟨some g1,72,2,Nat.le_refl _⟩),?_,hL.pk [some 0,some 1]⟩);exact rfl
def BF(x:Rl)(r:Rat)(hx:gJ x<=50000:=by omega)(hr:cO r<=20000:=by omega):aP Tryz.prog 68 #[RV x,Q r] (.bool (decide (bQ x (rl (r*r))<=0))):=by
 have h2:=wo hr hr;refine oz 11 Tryz.func68 fun w=>?_;refine A2 ?_;refine Bp 9 (fun g0=>?_);refine Bp 4 (fun g1=>?_);refine A4 ?_;refine Di [] ?_;refine L9 0 0 ?_;refine L4 1 0 ?_;refine L4 1 0 ?_;refine Pc (bK r r) ?_;refine Pc (wL x (r*r) hx) ?_;refine A5 ?_;refine E0 ?_;exact rfl
def vO(cb:Option Nat)(cn cc:Nat)(x:Rl)(r:Rat)(hx:gJ x<=50000:=by omega)(hr:cO r<=20000:=by omega):aP Tryz.prog 26 #[CfV (ay cb 0 cn cc) x,Q r] (.bool (decide (bQ x (rl (r*r))<=0))):=by
 refine oz 9 Tryz.func26 fun w=>?_;refine A2 ?_;refine Bp 10 (fun g0=>?_);refine Bp 4 (fun g1=>?_);refine A6 ?_;refine L9 0 1 ?_;refine L4 1 0 ?_;refine Pc (BF x r hx hr) ?_;refine A4 ?_;refine E0 ?_;exact rfl
end Go.Proofs.YtaffcpfhedadhaaGreatDoor
namespace Go.Via
open Go
set_option maxRecDepth 100000
def kA:List PU:=[eA1]
def kB:List PU:=[eB1,eB2]
def kP:List ny:=(aj kA kB).map aC
def eP1:ny:=⟨⟨rl 0,rz 2,false,false⟩,rz 9,rz 13⟩
def eIv:Iv:=⟨rl 0,rz 4,true,true⟩
def q3:Rat:=((3:Int):Rat)
def kW:List Iv:=[⟨rl 0,rz 2,true,false⟩,⟨rz 2,rz 4,true,true⟩]
def p1:Iv×Qd:=(⟨rl 0,rz 2,false,false⟩,⟨9,0,1⟩)
def p2:Iv×Qd:=(⟨rz 2,rz 4,true,false⟩,⟨25,-8,1⟩)
theorem qar:aj kA kB=[p1,p2]:=eX
def qqb:MH tu q3 (aj kA kB)=some kW:=eX
theorem qg0:jT kW=[eIv]:=eX
def qlE:kP.length=2:=eX
def k_0:kP[0]? =some eP1:=eX
theorem qas:bJ kP=rz 13:=eX
def qqc:yc kA kB kP (bJ kP)=0:=eX
def qr6:decide (bQ (bJ kP) (rl (((4:Int):Rat)*((4:Int):Rat)))<=0)=true:=eX
def qr7:decide (bQ (bJ kP) (rl (((3:Int):Rat)*((3:Int):Rat)))<=0)=false:=eX
def qn5:DC kA:=by unfold DC;decide+kernel
def qn6:DC kB:=by unfold DC;decide+kernel
def qr8:∀p∈kP,jH p.i<=5000∧gJ p.a<=5000∧gJ p.b<=5000:=eX
def xH(n:Int):gV (rz n):=⟨n,rfl⟩
def JE:gV (rl 0):=⟨0,by rfl⟩
def qqd:Vt kA:=fun u hu=>by
 rw[kA,List.mem_singleton] at hu;subst hu;exact⟨JE,xH 4⟩
def qqe:Vt kB:=fun u hu=>by
 rw[kB,List.mem_cons,List.mem_singleton] at hu;rcases hu with h|h<;>subst h
 ·exact⟨JE,xH 2⟩
 ·exact⟨xH 2,xH 4⟩
def qqf:CW kA kB:=by
 refine⟨?_,?_,qqd,qqe⟩
 ·unfold pV;decide+kernel
 ·unfold pV;decide+kernel
def qqg:∀x∈aj kA kB,(gV x.1.f∧gV x.1.t)∧aW gG x.1.b<aW gG x.1.e:=fun x hx=>by
 rw[qar,List.mem_cons,List.mem_singleton] at hx;rcases hx with h|h<;>subst h
 ·exact⟨⟨JE,xH 2⟩,eX⟩
 ·exact⟨⟨xH 2,xH 4⟩,eX⟩
def qr9:∀p∈kP,gV p.i.f∧gV p.i.t:=fun p hp=>by
 obtain⟨x,hx,rfl⟩:=List.mem_map.1 hp;exact(qqg x hx).1
def qsa:jZ gV kW:=fun i hi=>by
 rw[kW,List.mem_cons,List.mem_singleton] at hi;rcases hi with h|h<;>subst h
 ·exact⟨JE,xH 2⟩
 ·exact⟨xH 2,xH 4⟩
def qsb:G7 gG kW:=by unfold G7;decide+kernel
def qsc:∀x∈kW,jH x<=50000:=eX
def qlF:∀l,gW tu (qh p1.2 ⟨q3*q3,0,0⟩) p1.1 (dK (qh p1.2 ⟨q3*q3,0,0⟩)) p1.1 []=some l->Gt (nO false false true) false l=true∧l.length<=100:=fun l h=>by
 have e:gW tu (qh p1.2 ⟨q3*q3,0,0⟩) p1.1 (dK (qh p1.2 ⟨q3*q3,0,0⟩)) p1.1 []=some [(⟨rl 0,rl 0,false,false⟩,0),(⟨rl 0,rz 2,true,false⟩,1)]:=eX;rw[e] at h;injection h with h;subst h;decide
def qlG:∀l,gW tu (qh p2.2 ⟨q3*q3,0,0⟩) p2.1 (dK (qh p2.2 ⟨q3*q3,0,0⟩)) p2.1 []=some l->Gt (nO false false true) false l=true∧l.length<=100:=fun l h=>by
 have e:gW tu (qh p2.2 ⟨q3*q3,0,0⟩) p2.1 (dK (qh p2.2 ⟨q3*q3,0,0⟩)) p2.1 []=some [(⟨rz 2,rz 4,true,true⟩,1),(⟨rz 4,rz 4,false,false⟩,0)]:=eX;rw[e] at h;injection h with h;subst h;decide
def Q1:Qd:=qh p1.2 ⟨q3*q3,0,0⟩
def Q2:Qd:=qh p2.2 ⟨q3*q3,0,0⟩
def qqh:Q1.c2≠0∧Q1.c1/(-2*Q1.c2)*(Q1.c1/(-2*Q1.c2))-Q1.c0/Q1.c2=0:=eX
def qqi:Q2.c2≠0∧Q2.c1/(-2*Q2.c2)*(Q2.c1/(-2*Q2.c2))-Q2.c0/Q2.c2=0:=eX
def qsd:ui Q1<=1000∧jH p1.1<=1000∧dV p1.1.f=true∧dV p1.1.t=true∧lF p1.1=true∧(dK Q1).length<=2∧(∀r∈dK Q1,gJ r<=1000∧dV r=true):=eX
def qse:ui Q2<=1000∧jH p2.1<=1000∧dV p2.1.f=true∧dV p2.1.t=true∧lF p2.1=true∧(dK Q2).length<=2∧(∀r∈dK Q2,gJ r<=1000∧dV r=true):=eX
def qsf:(sV tu (nO false false true) Q1 p1.1).map (·.length)=some 1:=eX
def qsg:(sV tu (nO false false true) Q2 p2.1).map (·.length)=some 1:=eX
end Go.Via
namespace Go.Proofs.YtaffcpfhedadhaaGreatDoor
open Go Go.RowKit Go.Via
def VF:∀x y r,tu x y=some r->aP Tryz.prog 235 #[RV x,RV y] (Q r):=fun x y r h=>by
 obtain⟨⟨h1,h2,h3,h4,h5,h6,h7,h8,h9⟩,rfl⟩:=XQ h;exact H7 x y h3 h4 (((Cm x).1 h1).elim (fun e=>e.1▸Rat.le_refl) (fun e=>Rat.le_of_lt e.1)) h8 h5 h6 h7 h9
def k_W:∀x∈aj kA kB,∀v,sV tu (nO false false true) (qh x.2 ⟨q3*q3,0,0⟩) x.1=some v->bZ Tryz.prog 76 [] [qp (qh x.2 ⟨q3*q3,0,0⟩),fV x.1,.bool false,.bool false,.bool true] (SR v.length) (fun z=> .tuple #[z.v,.int .i64 0]) (fun z=>[⟨z.b,61,ai aO v,z.n,true⟩])∧v.length<=10:=fun x hx v hv=>by
 rw[qar,List.mem_cons,List.mem_singleton] at hx;rcases hx with h|h<;>subst h
 ·obtain⟨z1,z2,z3,z4,z5,z6,z7⟩:=qsd;refine⟨wR tu VF Q1 p1.1 false false true v hv (fun l hl=>(qlF l hl).1) z3 z4 z5 (wQ Q1 (DI Q1 z1 qqh.1 qqh.2)) z7 z6 (fun l hl=>(qlF l hl).2) (Nat.le_trans z1 ax) z2,?_⟩;have e:=qsf;rw[show sV tu (nO false false true) Q1 p1.1=some v from hv] at e;simp at e;omega
 ·obtain⟨z1,z2,z3,z4,z5,z6,z7⟩:=qse;refine⟨wR tu VF Q2 p2.1 false false true v hv (fun l hl=>(qlG l hl).1) z3 z4 z5 (wQ Q2 (DI Q2 z1 qqi.1 qqi.2)) z7 z6 (fun l hl=>(qlG l hl).2) (Nat.le_trans z1 ax) z2,?_⟩;have e:=qsg;rw[show sV tu (nO false false true) Q2 p2.1=some v from hv] at e;simp at e;omega
def DJ:aP Tryz.prog 11 #[] (.bool true):=by
 have hkl:=qlE;have hkl2:((aj kA kB).map aC).length=2:=qlE;have hke:(if((aj kA kB).map aC).length=0 then(36:Int) else 0)=0:=if_neg (by rw[hkl2];decide)
 have hkx:(jT kW).length=1:=(by rw[qg0];rfl);have hk0:=k_0;have hkn:(jT kW)[0]? =some eIv:=(by rw[qg0];rfl);have kgz0:gJ (bJ kP)<=2:=by rw[qas];exact qpP ae ae
 have kgz:gJ (bJ kP)<=50000:=Nat.le_trans kgz0 ae;refine pB0 77 Tryz.func11 fun w=>?_;refine A7 ?_;refine(Sc []) Ji (fun z=>?_);obtain⟨⟨ab,aN,ac,hac⟩,⟨bb,bN,bc,hbc⟩⟩:=z;refine oJ ?_;refine(Sc [0,1]) (vM kA ab aN ac hac ax kB bb bN bc hbc ax qn5 qn6 qqd qqe) (fun z=>?_);obtain⟨cb,cN,cc,hcc⟩:=z;refine A3 ?_;refine aF 15 (.int .i64 0) rfl (congrArg (Value.int .i64) hke) ?_;refine Al 10 z40 (fun g0=>?_);refine Ss 3 ?_;refine A7 ?_;refine Pc (iU 3 1) ?_;refine aF 18 (Q ((3:Int):Rat)) rfl (congrArg Q (rH 3)) ?_;refine(Sc [0,1]) (BD nz tu kA ab aN ac hac ax kB bb bN bc hbc ax qn5 qn6 q3 (Nat.le_trans (nU ae ae) ae) kW qqb k_W qsa qsb qsc ax) (fun z=>?_);obtain⟨xb,xN,xc,hxc⟩:=z;refine A4 ?_;refine Di [] ?_ (hc:=(pO (0::1::3::7::15::31::63::127::255::511::1023::511::4095::8191::16383::32767::65535::131071::262143::32767::557055::557055::2654207::7897087::16777215::33554431::67108863::134217727::134217727::134217727::1073741823::2147483647::4294967295::8589934591::17179869183::17179869183::68719476735::137438953471::274877906943::549755813887::549755813887::2199023255551::4398046511103::8796093022207::17592186044415::35184372088831::70368744177663::140737488355327::281474976710655::562949953421311::1125899906842623::2251799813685247::4503599627370495::1125899906842623::10133099161583615::36028797018963967::72057594037927935::144115188075855871::[]) ak));refine A2 ?_;refine aF 21 (.bool true) rfl (congrArg Value.bool ax) ?_;refine A5 ?_;refine aF 26 (.bool true) rfl (congrArg Value.bool (decide_eq_true ae)) ?_;refine A3 ?_;refine L9 3 1 ?_;refine Kr 30 (RV (bJ kP)) ?_;refine Pc (iI 13) ?_;refine jO ?_;refine aF 32 (.bool true) rfl (congrArg Value.bool (decide_eq_true qas)) ?_;refine A4 ?_;refine aI 2 ((0)*38) u32 Ag rfl rfl rfl rfl rfl ae ae (dS.ne ax ae) Bi ?_;refine aG (v:=Gy eP1) 2 ((0)*38) _ rfl rfl rfl rfl Ag (dS.sub hk0 0 38 ax) rfl ax rfl ?_;refine Pc (iI 2) ?_;refine(Bu [(1,_)]) (Qu) ?_;refine aF 40 (fV ⟨rl 0,rz 2,false,false⟩) rfl (qaj _ _ _).symm ?_;refine Pc (iI 9) ?_;refine Pc (iI 13) ?_;refine(Bu [(0,_),(1,_),(2,_)]) (V5) ?_;refine Kr 43 (Gy eP1) ?_;refine iY rfl rfl rfl rfl qmv (qnf _ _) ?_;refine aF 44 (.bool true) rfl (congrArg Value.bool (decide_eq_true rfl)) ?_;refine A4 ?_;refine L10 3 0 ?_;refine(Sd [0,1,2]) (Eu nz kA ab aN ac hac ax kB bb bN bc hbc ax qn5 qn6 qqf kP cb cN cc hcc ae (bJ kP) qr8 ae qqg qr9) ?_;refine aF 50 (.int .i64 0) rfl (congrArg (Value.int .i64) qqc) ?_;refine A1 ?_;refine aF 51 (.bool true) rfl (congrArg Value.bool ax) ?_;refine A2 ?_;refine L10 3 0 ?_;refine Pc (iU 4 1) ?_;refine aF 55 (Q ((4:Int):Rat)) rfl (congrArg Q (rH 4)) ?_;refine Pc (vO cb kP.length cc (bJ kP) ((4:Int):Rat) kgz (Nat.le_trans (nU ae ae) ae)) ?_;refine aF 56 (.bool true) rfl (congrArg Value.bool (qr6)) ?_;refine A2 ?_;refine L10 3 0 ?_;refine Pc (iU 3 1) ?_;refine aF 60 (Q ((3:Int):Rat)) rfl (congrArg Q (rH 3)) ?_;refine Pc (vO cb kP.length cc (bJ kP) ((3:Int):Rat) kgz (Nat.le_trans (nU ae ae) ae)) ?_;refine aF 61 (.bool false) rfl (congrArg Value.bool qr7) ?_;refine A6 ?_;refine aF 67 (.bool true) rfl (congrArg Value.bool (decide_eq_true ae)) ?_;refine A3 ?_;refine aI 4 ((0)*20) SC mr rfl rfl rfl rfl rfl ae ae (bY.ne ax ae) yZ ?_;refine aG (v:=fV eIv) 4 ((0)*20) _ rfl rfl rfl rfl mr (bY.sub hkn 0 20 ax) rfl ax rfl ?_;refine Pc (iI 4) ?_;refine(Bu [(1,_),(2,_),(3,_)]) (TT) ?_;refine aF 74 (fV eIv) rfl (qaj _ _ _).symm ?_;refine iY rfl rfl rfl rfl qoU (qpm _ _) ?_;refine aF 75 (.bool true) rfl (congrArg Value.bool (decide_eq_true rfl)) ?_;refine A5 ?_;refine E0 ?_;exact rfl
end Go.Proofs.YtaffcpfhedadhaaGreatDoor
