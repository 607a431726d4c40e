/-
  Part 39 (chapter 32): lemmas, walks. Each theorem states its own conditions.
-/
import Derived.Shelf.SlSortCmp.WholeK
import Derived.Shelf.SlSortCmp.NoneTotal
import Derived.Lib.Repeat
import Derived.Sort.Grow
import Derived.Sort.EncStr
import Derived.Lib.SliceRun
import Derived.Test.YtaffcpfhedadhaaGreatDoorA35
set_option linter.all false
set_option maxRecDepth 20000
set_option maxHeartbeats 20000000
section
variable{P Q:Prop}{T:Type}{R:T->Prop}
def VB(h:P:=by refine E0 ?_;exact congrArg (fun b=>Ending.returned (.int .i64 b)) (by unfold lF;first|(simp_all;done)|(simp_all;omega)|(simp_all;intros;omega))):=h
def X9(h:P:=by show(dK q).length-(k+1)<(dK q).length-k;omega):=h
def qgN(h:P:=by simp only[List.length_append,List.length_cons,List.length_nil];omega):=h
def Ya(h:P:=by rw[List.length_append];exact r2.h):=h
def qgO(h:P:=by have e1:=hcQ;cases e:lF rest<;>simp[e] at e1 ⊢):=h
def qgP(h:P:=by have e:=(qlz hx hna).2;rw[hw] at e;exact e):=h
def qgQ(h:P:=by rw[List.length_append];exact Nat.succ_le_succ ho):=h
def qgR(h:P:=by show l.length-(k+1)<l.length-k;omega):=h
end
namespace Go.Proofs.YtaffcpfhedadhaaGreatDoor
open Go Go.RowKit Go.Via
def wP(i:Iv)(hi:jH i<=1000)(hf:dV i.f=true)(ht:dV i.t=true):aP Tryz.prog 169 #[fV i] (.int .i64 (if lF i=true then 0 else 10)):=by
 have i1:=Nat.le_trans (jW i) hi;have i2:=Nat.le_trans (jX i) hi;refine xI 33 Tryz.func169 fun w=>?_;refine A2 ?_;refine Bp 20 (fun g0=>?_);refine A7 ?_;refine L9 0 0 ?_;refine Pc (jm i.f) ?_;refine aF 6 (.int .i64 0) rfl (congrArg (Value.int .i64) (if_pos hf)) ?_;refine A2 ?_;refine Rs 8 ?_ ?_<;>intro haQ
 ·exact absurd haQ ax
 ·refine A1 ?_;refine L9 0 9 ?_;refine Pc (jm i.t) ?_;refine aF 11 (.int .i64 0) rfl (congrArg (Value.int .i64) (if_pos ht)) ?_;refine A4 ?_;refine Cd ?_ ?_<;>intro hbQ
  ·exact absurd hbQ ax
  ·refine A5 ?_;refine L9 0 0 ?_;refine A1 ?_;refine L9 0 9 ?_;refine Pc (dI i.f i.t) ?_;refine A9 ?_;refine Rs 21 ?_ ?_<;>intro hcQ
   ·refine A21 ?_;exact VB
   ·refine A3 ?_;refine Rs 24 ?_ ?_<;>intro hdQ
    ·refine A3 ?_;refine Rs 27 ?_ ?_<;>intro heQ
     ·refine D7 ?_;exact VB
     ·refine A7 ?_;refine Cd ?_ ?_<;>intro hfQ
      ·refine A7 ?_;exact VB
      ·refine A8 ?_;exact VB
    ·refine A19 ?_;exact VB
def BC(i:Iv)(x:Rl)(hi:jH i<=50000:=by omega)(hx:gJ x<=50000:=by omega):aP Tryz.prog 171 #[fV i,RV x] (.bool (Xc i x)):=by
 have i1:=Nat.le_trans (jW i) hi;have i2:=Nat.le_trans (jX i) hi;refine oz 39 Tryz.func171 fun w=>?_;refine A2 ?_;refine Bp 20 (fun g0=>?_);refine Bp 9 (fun g1=>?_);refine A4 ?_;refine Dp [] [0,1,2,4,5,6,3,7,8,9] ?_;refine A1 ?_;refine L9 0 0 ?_;refine L9 1 0 ?_;refine L9 1 0 ?_;refine A1 ?_;refine L9 0 9 ?_;refine Pc (dI i.f x ae hx) ?_;refine Pc (dI x i.t hx) ?_;exact qlj
def Nu(sm:Rl->Rl->Option Rat)(hsm:∀x y r,sm x y=some r->aP Tryz.prog 235 #[RV x,RV y] (Q r))(x y:Rl)(hx:gJ x<=50000)(hy:gJ y<=50000)(h:bQ x y<0)(r:Rat)(hr:sm x y=some r):aP Tryz.prog 206 #[RV x,RV y] (.tuple #[Q r,.int .i64 0]):=by
 refine oz 14 Tryz.func206 fun w=>?_;refine A2 ?_;refine Bp 9 (fun g0=>?_);refine Bp 9 (fun g1=>?_);refine Al 4 qL (fun g2=>?_);refine A6 ?_;refine L9 0 0 ?_;refine L9 1 0 ?_;refine Pc (dI x y hx hy) ?_;refine A3 ?_;refine Cd ?_ ?_<;>intro haQ
 ·exact absurd (of_decide_eq_true haQ) ae
 ·refine A4 ?_;refine L9 0 0 ?_;refine L9 1 0 ?_;refine Pc (hsm x y r hr) ?_;refine Ss 2 ?_;refine A4 ?_;refine bM rfl (bz 2 rfl rfl yI (vs:=[_,_,_,_]) rfl rfl (Nat.le_of_ble_eq_true rfl) rfl) (au rfl) (fun w hL=>⟨?_,hL.below⟩);exact rfl
def yx(sm:Rl->Rl->Option Rat)(hsm:∀x y r,sm x y=some r->aP Tryz.prog 235 #[RV x,RV y] (Q r))(q:Qd)(i:Iv)(s:Int)(h:F8 sm q i=some s)(hq:ui q<=10000:=by omega)(hi:jH i<=1000:=by omega):aP Tryz.prog 172 #[qp q,fV i] (SgV (i,s)):=by
 have i1:=Nat.le_trans (jW i) hi;have i2:=Nat.le_trans (jX i) hi;obtain⟨hlt,r,hr,hr5,hs⟩:=Es h;have hr6:gJ (rl r)<=5000:=Em hr5 ae;refine oz 27 Tryz.func172 fun w=>?_;refine kL fun g0=>?_;refine Bp 20 (fun g1=>?_);refine Al 21 qoR (fun g2=>?_);refine A5 ?_;refine L9 1 0 ?_;refine Al 9 Jq (fun g3=>?_);refine Ss 3 ?_;refine A6 ?_;refine L9 1 0 ?_;refine A1 ?_;refine L9 1 9 ?_;refine Pc (Nu sm hsm i.f i.t ae ae hlt r hr) ?_;refine A3 ?_;refine Al 4 qL (fun g4=>?_);refine Ss 4 ?_;refine A9 ?_;refine Cd ?_ ?_<;>intro haQ
 ·refine A1 ?_;refine L4 4 0 ?_;refine Pc (kM r) ?_;refine Ss 3 ?_;refine A3 ?_;refine Di [] ?_;refine yz 1 0 ?_;refine vU 0 0 ?_;refine L9 3 0 ?_;refine Pc (En q (rl r) Rat.le_refl hq) ?_;refine(Bu [(0,_),(1,_)]) (qhV) ?_;refine eG ?_;refine aK rfl (bz 2 rfl rfl qdk (vs:=[_,_,_,_,_,_,_,_,_,_,_,_,_,_,_,_,_,_,_,_,_]) rfl rfl (Nat.le_of_ble_eq_true rfl) rfl) (fun w hL=>⟨?_,hL.below⟩);rw[hs];rfl
 ·exact absurd ax (of_decide_eq_false haQ)
def DI(q:Qd)(hq:ui q<=1000)(h2:q.c2≠0)(hr:q.c1/(-2*q.c2)*(q.c1/(-2*q.c2))-q.c0/q.c2=0):bZ Tryz.prog 205 [] [qp q] (SR (dK q).length) (fun z=> .tuple #[z.v,.int .i64 0]) (fun z=>[⟨z.b,38,ai je (dK q),z.n,true⟩]):=by
 refine⟨ak,fun w hL0=>?_⟩;have q0:=Nat.le_trans (qf q) hq;have q1:=Nat.le_trans (qg q) hq;have q2:=Nat.le_trans (qF q) hq;have hR:=qgB h2 hr;have m2:cO (-2:Rat)<=2:=nU (z:= -2) ae ae;have z1:=wo m2 q2;have z2:=EP q1 z1;have z3:=wo z2 z2;have z4:=EP q0 q2;refine cB1 98 Tryz.func205 hL0 ?_;refine kL fun g0=>?_;refine A6 ?_;refine(Bu []) (yJ) ?_;refine aF 12 (Q 0) rfl yE.symm ?_;refine Al 4 qL (fun g1=>?_);refine Ss 1 ?_;refine A7 ?_;refine L4 0 8 ?_;refine L4 1 0 ?_;refine iY rfl rfl rfl rfl qdr (qdt _ _) ?_;refine A1 ?_;refine Rs 18 ?_ ?_<;>intro haQ
 ·exact absurd (of_decide_eq_true haQ) h2
 ·refine A18 ?_;refine L4 0 8 ?_;refine L4 1 0 ?_;refine iY rfl rfl rfl rfl qdr (qdt _ _) ?_;refine A1 ?_;refine Rs 35 ?_ ?_<;>intro hbQ
  ·exact absurd (of_decide_eq_true hbQ) h2
  ·refine nT ?_;refine L4 0 8 ?_;refine L4 1 0 ?_;refine iY rfl rfl rfl rfl qdr (qdt _ _) ?_;refine A3 ?_;refine Cd ?_ ?_<;>intro hcQ
   ·exact absurd (of_decide_eq_true hcQ) h2
   ·refine A4 ?_;refine Dq [3000000] [0,1,3,4,2,5,6,7,8] ?_;refine A1 ?_;refine L4 0 4 ?_;refine A1 ?_;refine L4 0 8 ?_;refine Pc (fH (-2)) ?_;refine aF 56 (Q (-2)) rfl (congrArg Q ax) ?_;refine Pc (bK (-2) q.c2) ?_;refine Pc (zB q.c1 (-2*q.c2)) ?_;refine Al 4 qL (fun g2=>?_);refine eG ?_;refine Dq [3000000] [0,1,3,4,5,6,2,7,8,9,10] ?_;refine L4 2 0 ?_;refine L4 2 0 ?_;refine A1 ?_;refine L4 0 0 ?_;refine A1 ?_;refine L4 0 8 ?_;refine Pc (bK (q.c1/(-2*q.c2)) (q.c1/(-2*q.c2))) ?_;refine Pc (zB q.c0 q.c2) ?_;refine Pc (eU ((q.c1/(-2*q.c2))*(q.c1/(-2*q.c2))) (q.c0/q.c2)) ?_;refine Al 4 qL (fun g3=>?_);refine Ss 3 ?_;refine A4 ?_;refine Pc (fH 1) ?_;refine Al 4 qL (fun g4=>?_);refine Ss 4 ?_;refine A5 ?_;refine L4 3 0 ?_;refine Pc (dX ((q.c1/(-2*q.c2))*(q.c1/(-2*q.c2))-q.c0/q.c2)) ?_;refine aF 72 (.int .i64 0) rfl (congrArg (Value.int .i64) (by rw[hr];rfl)) ?_;refine A9 ?_;refine Cd ?_ ?_<;>intro hdQ
    ·exact absurd (of_decide_eq_true hdQ) ax
    ·refine A6 ?_;refine Cd ?_ ?_<;>intro heQ
     ·refine A2 ?_;refine L4 2 0 ?_;refine Pc (kM (q.c1/(-2*q.c2))) ?_;refine(Bl 9 [(0,_)]) (Qw) (fun g5=>?_);refine A7 ?_;refine bM rfl (au rfl) (au rfl) (fun w hL=>⟨⟨some g5,9,1,by rw[hR];exact Nat.le_refl _⟩,?_,hL.picks [some 5] ⟨⟨_,rfl,bn (by rw[show ai je (dK q)=_ from congrArg _ hR];rfl)⟩,trivial⟩ rfl rfl⟩);show Ending.returned (.tuple #[ay (some g5) 0 _ 1,_])=Ending.returned (.tuple #[ay (some g5) 0 (dK q).length 1,_]);rw[hR];rfl
     ·exact absurd ax (of_decide_eq_false heQ)
def wQ(q:Qd)(hrt:bZ Tryz.prog 205 [] [qp q] (SR (dK q).length) (fun z=> .tuple #[z.v,.int .i64 0]) (fun z=>[⟨z.b,38,ai je (dK q),z.n,true⟩])):bZ Tryz.prog 170 [] [qp q] (SR (dK q).length) (fun z=> .tuple #[z.v,.int .i64 0]) (fun z=>[⟨z.b,38,ai je (dK q),z.n,true⟩]):=by
 refine O3 8 Tryz.func170 fun w hL0=>?_;refine kL fun g0=>?_;refine A6 ?_;refine vU 0 0 ?_;refine(Sc []) hrt (fun z=>?_);obtain⟨rb,rN,rc,hrc⟩:=z;refine A7 ?_;refine bM rfl (au rfl) (au rfl) (fun w hL=>⟨⟨rb,rN,rc,hrc⟩,?_,hL.pk [some 1]⟩);exact rfl
def Gs(sm:Rl->Rl->Option Rat)(hsm:∀x y r,sm x y=some r->aP Tryz.prog 235 #[RV x,RV y] (Q r))(q:Qd)(i:Iv)(l:List (Iv×Int))(h:gW sm q i (dK q) i []=some l)(hf:dV i.f=true)(ht:dV i.t=true)(hoi:lF i=true)(hrt:bZ Tryz.prog 170 [] [qp q] (SR (dK q).length) (fun z=> .tuple #[z.v,.int .i64 0]) (fun z=>[⟨z.b,38,ai je (dK q),z.n,true⟩]))(hrz:∀r∈dK q,gJ r<=1000∧dV r=true)(hrl:(dK q).length<=2:=by omega)(hq:ui q<=10000:=by omega)(hi:jH i<=1000:=by omega):bZ Tryz.prog 125 [] [qp q,fV i] (SR l.length) (fun z=> .tuple #[z.v,.int .i64 0]) (fun z=>[⟨z.b,181,ai FN l,z.n,true⟩]):=by
 refine sB2 71 Tryz.func125 fun w hL0=>?_;refine kL fun g0=>?_;refine Bp 20 (fun g1=>?_);refine A7 ?_;refine yz 1 0 ?_;refine Pc (wP i hi hf ht) ?_;refine aF 14 (.int .i64 0) rfl (congrArg (Value.int .i64) (if_pos hoi)) ?_;refine A9 ?_;refine Cd ?_ ?_<;>intro haQ
 ·exact absurd haQ ax
 ·refine A9 ?_;refine vU 0 0 ?_;refine(Sc []) hrt (fun z=>?_);obtain⟨rb,rN,rc,hrc⟩:=z;refine A9 ?_;refine yz 1 0 ?_;refine Al 20 z61 (fun g2=>?_);refine Ss 3 ?_;refine oJ ?_;refine El (ι:={z:Nat×Iv×List (Iv×Int)×Option Nat×Nat×Nat // z.1<=(dK q).length∧gW sm q i ((dK q).drop z.1) z.2.1 z.2.2.1=some l∧(dV z.2.1.f=true∧dV z.2.1.t=true∧jH z.2.1<=1000)∧z.2.2.1.length<=2*z.1∧z.2.2.1.length<=z.2.2.2.2.2∧z.2.2.2.2.2*21<=z.2.2.2.2.1}) (fun⟨⟨k,rest,o,ob,oN,oc⟩,hk,hI,hre,ho,h3,h4⟩=>([(2,dJ g0),(3,dJ g1),(7,ay ob 0 o.length oc),(10,dJ g2),(24,ay rb 0 (dK q).length rc),(25,bG ((dK q).length)),(26,bG k)],[⟨some g0,91,qjd q,12,true⟩,⟨some g1,61,aO i,20,true⟩,⟨rb,38,ai je (dK q),rN,true⟩,⟨some g2,61,aO rest,20,true⟩,⟨ob,181,ai FN o,oN,true⟩],(dK q).length-k)) ⟨⟨0,i,[],none,0,0⟩,Nat.zero_le _,h,⟨hf,ht,hi⟩,Nat.le_refl _,Nat.le_refl _,bI⟩ ?_ (hL:=(aA [some 0,some 1,some 2,some 3,none] ⟨pR,pR,pR,pR,⟨rfl,rfl,rfl⟩,trivial⟩ rfl rfl));rintro⟨⟨k,rest,o,ob,oN,oc⟩,hk,hI,hre,ho,h3,h4⟩;(try dsimp only);replace hk:k<=(dK q).length:=hk;replace hI:gW sm q i ((dK q).drop k) rest o=some l:=hI;replace hre:dV rest.f=true∧dV rest.t=true∧jH rest<=1000:=hre;replace ho:o.length<=2*k:=ho;replace h3:o.length<=oc:=h3;replace h4:oc*21<=oN:=h4;have hre3:=hre.2.2;have hrf:=jW rest;have hrt2:=jX rest;refine A6 ?_;refine Cd ?_ ?_<;>intro hbQ
  ·have hlt:k<(dK q).length:=nG;obtain⟨x,hx⟩:∃x,(dK q)[k]? =some x:=⟨(dK q)[k],List.getElem?_eq_getElem hlt⟩;have hxs:=hrz x (List.mem_of_getElem? hx);have hxs1:=hxs.1;refine dL 2 rfl (iD.ne ax ae) (fun hbs=>?_);obtain⟨gr,hgr⟩:=Option.isSome_iff_exists.1 hbs;replace hgr:rb=some gr:=hgr;subst hgr;refine A6 ?_;refine aI 2 ((k)*9) CP dZ rfl rfl rfl rfl rfl ae ae (iD.ne ax ae) Hw ?_;refine aG (v:=RV x) 2 ((k)*9) _ rfl rfl rfl rfl dZ (iD.sub hx 0 9 ax) rfl ax rfl ?_;refine Al 9 Jq (fun g3=>?_);refine Ss 5 ?_;refine A5 ?_;refine yz 1 0 ?_;refine L9 5 0 ?_;refine Pc (BC i x) ?_;refine A3 ?_;refine Cd ?_ ?_<;>intro hcQ
   ·have hin:Xc i x=false:=xC
    refine A5 ?_;refine jl ?_;exact Nl ⟨⟨k+1,rest,o,ob,oN,oc⟩,hlt,qlq hx hin hI,hre,by show o.length<=2*(k+1);omega,h3,h4⟩ (hμ:=X9) (hL:=dR.auto)
   ·have hin:Xc i x=true:=xC
    refine A6 ?_;refine L9 3 0 ?_;refine L9 5 0 ?_;refine Pc (dI rest.f x) ?_;refine A3 ?_;refine Cd ?_ ?_<;>intro hdQ
    ·have hl2:bQ rest.f x<0:=of_decide_eq_true hdQ;obtain⟨s,hp,hI2⟩:=qlr hx hin hl2 hI;refine A2 ?_;refine vU 0 0 ?_;refine A1 ?_;refine L9 3 0 ?_;refine L9 5 0 ?_;refine A2 ?_;refine(Bu [(0,_),(1,_),(2,_),(3,_)]) (Kv) ?_;refine Kr 46 (fV ⟨rest.f,x,rest.fo,true⟩) ?_;refine dY [_,_] rfl rfl rfl (yx sm hsm q ⟨rest.f,x,rest.fo,true⟩ s hp hq (xA (by show gJ rest.f<=_;omega) (by show gJ x<=_;omega))) ?_;refine(Bl 21 [(0,_)]) (Js) (fun g4=>?_);refine mW (s:=21) (len:=o.length) (n2:=1) 4 6 (fun r1=>[_,_,_,_,⟨some r1.g,181,ai FN (o++[((⟨rest.f,x,rest.fo,true⟩,s):Iv×Int)]),r1.n,true⟩,_,_]) qds YN rfl rfl rfl rfl rfl rfl rfl rfl rfl rfl rfl rfl (uY.length o) h3 h4 rfl (uY.one (((⟨rest.f,x,rest.fo,true⟩,s):Iv×Int))) ae (fun _=>congrArg (fun c=>_::_::_::_::aJ.mk _ 181 c _ true::_) (qP o ((⟨rest.f,x,rest.fo,true⟩,s):Iv×Int))) (fun r1=>?_);refine aF 49 (ay (some r1.g) 0 (o++[((⟨rest.f,x,rest.fo,true⟩,s):Iv×Int)]).length r1.cap) rfl lT ?_;refine A6 ?_;refine L9 5 0 ?_;refine L9 5 0 ?_;refine(Bu [(0,_),(1,_)]) (Ku) ?_;refine Kr 53 (fV ⟨x,x,false,false⟩) ?_;refine(Bu [(0,_)]) (YG) ?_;refine aF 54 (SgV ((⟨x,x,false,false⟩,0):Iv×Int)) rfl rfl ?_;refine(Bl 21 [(0,_)]) (Js) (fun g5=>?_);refine mW (s:=21) (len:=(o++[((⟨rest.f,x,rest.fo,true⟩,s):Iv×Int)]).length) (n2:=1) 4 7 (fun r2=>[_,_,_,_,⟨some r2.g,181,ai FN (o++[((⟨rest.f,x,rest.fo,true⟩,s):Iv×Int)])++FN (((⟨x,x,false,false⟩,0):Iv×Int)),r2.n,true⟩,_,_,_]) qds YN rfl rfl rfl rfl rfl rfl rfl rfl rfl rfl rfl rfl (uY.length (o++[((⟨rest.f,x,rest.fo,true⟩,s):Iv×Int)])) (by rw[List.length_append];exact r1.h) r1.hn rfl (uY.one (((⟨x,x,false,false⟩,0):Iv×Int))) (by rw[List.length_append];show o.length+1+1<=_;omega) (fun _=>rfl) (fun r2=>?_);refine A4 ?_;refine L9 5 0 ?_;refine A1 ?_;refine Ss 3 ?_;refine A1 ?_;refine Ss 3 ?_;refine A4 ?_;refine jl ?_;exact Nl ⟨⟨k+1,⟨x,rest.t,true,rest.tp⟩,o++[((⟨rest.f,x,rest.fo,true⟩,s):Iv×Int)]++[((⟨x,x,false,false⟩,0):Iv×Int)],some r2.g,r2.n,r2.cap⟩,hlt,hI2,⟨hxs.2,hre.2.1,xA hxs.1 (Nat.le_trans (jX rest) hre.2.2)⟩,qgN,Ya,r2.hn⟩ (hμ:=X9) (ht:=⟨rfl,rfl,(aU rfl (congrArg (fun z=>ay (some r2.g) 0 z r2.cap) (show(o++[((⟨rest.f,x,rest.fo,true⟩,s):Iv×Int)]).length+1=(o++[((⟨rest.f,x,rest.fo,true⟩,s):Iv×Int)]++[((⟨x,x,false,false⟩,0):Iv×Int)]).length by simp))),rfl,rfl,rfl,rfl,trivial⟩) (hL:=(aA [some 0,some 1,some 2,some 3,some 4] ⟨pR,pR,pR,pR,⟨_,rfl,bn lU⟩,trivial⟩ rfl rfl))
    ·have hl2:¬bQ rest.f x<0:=of_decide_eq_false hdQ;have hI2:=qls hx hin hl2 hI;refine A5 ?_;refine L9 5 0 ?_;refine L9 5 0 ?_;refine(Bu [(0,_),(1,_)]) (Ku) ?_;refine Kr 53 (fV ⟨x,x,false,false⟩) ?_;refine(Bu [(0,_)]) (YG) ?_;refine aF 54 (SgV ((⟨x,x,false,false⟩,0):Iv×Int)) rfl rfl ?_;refine(Bl 21 [(0,_)]) (Js) (fun g4=>?_);refine(Qa (s:=21) (len:=o.length) (n2:=1) 4 6 (fun r2=>[_,_,_,_,⟨some r2.g,181,ai FN o++FN (((⟨x,x,false,false⟩,0):Iv×Int)),r2.n,true⟩,_,_]) qds YN) (uY.length o) h3 h4 (uY.one (((⟨x,x,false,false⟩,0):Iv×Int))) (fun r2=>?_);refine A4 ?_;refine L9 5 0 ?_;refine A1 ?_;refine Ss 3 ?_;refine A1 ?_;refine Ss 3 ?_;refine A4 ?_;refine jl ?_;exact Nl ⟨⟨k+1,⟨x,rest.t,true,rest.tp⟩,o++[((⟨x,x,false,false⟩,0):Iv×Int)],some r2.g,r2.n,r2.cap⟩,hlt,hI2,⟨hxs.2,hre.2.1,xA hxs.1 (Nat.le_trans (jX rest) hre.2.2)⟩,qgN,Ya,r2.hn⟩ (hμ:=X9) (ht:=⟨rfl,rfl,(aU rfl (congrArg (fun z=>ay (some r2.g) 0 z r2.cap) (show(o).length+1=(o++[((⟨x,x,false,false⟩,0):Iv×Int)]).length by simp))),rfl,rfl,rfl,rfl,trivial⟩) (hL:=(aA [some 0,some 1,some 2,some 3,some 4] ⟨pR,pR,pR,pR,⟨_,rfl,bn lU⟩,trivial⟩ rfl rfl))
  ·have hge:k=(dK q).length:=nH;subst hge;refine A8 ?_;refine yz 3 0 ?_;refine Pc (wP rest hre.2.2 hre.1 hre.2.1) ?_;refine A3 ?_;refine Cd ?_ ?_<;>intro hcQ
   ·have hoe:lF rest=true:=qgO
    obtain⟨s,hp,hl⟩:=qak hoe hI;refine A2 ?_;refine vU 0 0 ?_;refine yz 3 0 ?_;refine Pc (yx sm hsm q rest s hp hq hre.2.2) ?_;refine(Bl 21 [(0,_)]) (Js) (fun g3=>?_);refine(Qa (s:=21) (len:=o.length) (n2:=1) 4 5 (fun r=>[_,_,_,_,⟨some r.g,181,ai FN o++FN ((rest,s)),r.n,true⟩,_]) qds YN) (uY.length o) h3 h4 (uY.one ((rest,s))) (fun r=>?_);refine oJ ?_;refine bM rfl (au rfl) (au rfl) (fun w hL=>⟨⟨some r.g,r.n,r.cap,by rw[hl,List.length_append];exact r.h⟩,?_,hL.picks [some 4] ⟨⟨_,rfl,bn (by rw[qP,show ai FN l=_ from congrArg _ hl])⟩,trivial⟩ rfl rfl⟩);show Ending.returned (.tuple #[ay (some r.g) 0 _ r.cap,_])=Ending.returned (.tuple #[ay (some r.g) 0 l.length r.cap,_]);rw[hl,List.length_append];rfl
   ·have hoe:lF rest=false:=qgO
    have hl:=qal hoe hI;refine lD ?_;refine bM rfl (au rfl) (au rfl) (fun w hL=>⟨⟨ob,oN,oc,by rw[hl];exact h3⟩,?_,hL.picks [some 4] ⟨⟨_,rfl,bn (by rw[show ai FN l=_ from congrArg _ hl])⟩,trivial⟩ rfl rfl⟩);show Ending.returned (.tuple #[ay ob 0 _ oc,_])=Ending.returned (.tuple #[ay ob 0 l.length oc,_]);rw[hl]
end Go.Proofs.YtaffcpfhedadhaaGreatDoor
namespace Go.Via
open Go
def qap(x:Rl): -1<=XC x∧XC x<=1:=by
 have hs:∀q,dE q= -1∨dE q=0∨dE q=1:=fun q=>Zc
 have hm:∀{a b:Int},(a= -1∨a=0∨a=1)->(b= -1∨b=0∨b=1)->(a*b= -1∨a*b=0∨a*b=1):=fun h h'=>by
  rcases h with h|h|h<;>rcases h' with h'|h'|h'<;>simp[h,h']
 have hc:∀a b:Rat,ou a b= -1∨ou a b=0∨ou a b=1:=fun a b=>by unfold ou;(repeat' split)<;>simp
 have h1:XC x= -1∨XC x=0∨XC x=1:=by
  unfold XC uo
  split
  ·exact hs _
  ·split
   ·exact hm (hs _) (hs _)
   ·exact hm (hs _) (hc _ _)
 omega
def Rng(p:Iv×Int):Prop:= -1<=p.2∧p.2<=1
def y8{sm:Rl->Rl->Option Rat}{q:Qd}{i:Iv}:∀{rs:List Rl} {rest:Iv} {o l:List (Iv×Int)},(∀p∈o,Rng p)->gW sm q i rs rest o=some l->∀p∈l,Rng p
 |[],rest,o,l,ho,h=>by
  by_cases e:lF rest=true
  ·obtain⟨s,hp,hl⟩:=qak (rs:=[]) e h;obtain⟨_,r,_,_,hs⟩:=Es hp;subst hl;exact y7 ho (show-1<=s∧s<=1 by rw[hs];exact qap _)
  ·have hl:=qal (rs:=[]) (by simpa using e) h;subst hl;exact ho
 |x::rs,rest,o,l,ho,h=>by
  by_cases hin:Xc i x=true
  ·by_cases hlt:bQ rest.f x<0
   ·obtain⟨s,hp,h2⟩:=qlr (rs:=x::rs) (k:=0) rfl hin hlt h;obtain⟨_,r,_,_,hs⟩:=Es hp;exact y8 (rs:=rs) (y7 (y7 ho (show Rng ((⟨rest.f,x,rest.fo,true⟩,s):Iv×Int) from(show-1<=s∧s<=1 by rw[hs];exact qap _))) ⟨show(-1:Int)<=0 by omega,show(0:Int)<=1 by omega⟩) h2
   ·have h2:=qls (rs:=x::rs) (k:=0) rfl hin hlt h;exact y8 (rs:=rs) (y7 ho ⟨show(-1:Int)<=0 by omega,show(0:Int)<=1 by omega⟩) h2
  ·have h2:=qlq (rs:=x::rs) (k:=0) rfl (by simpa using hin) h;exact y8 (rs:=rs) ho h2
def qj3{a b c:Bool}{s:Int}(h1: -1<=s)(h2:s<=1):(([.bool a,.bool b,.bool c]:List Value).drop (s+1).toNat).take 1=[.bool (nO a b c s)]:=by
 rcases(show s= -1∨s=0∨s=1 by omega) with rfl|rfl|rfl<;>rfl
def Gt(w:Int->Bool):Bool->List (Iv×Int)->Bool
 |_,[]=>true
 |b,p::ps=> !(b&&w p.2)&&Gt w (w p.2) ps
def VC{sm:Rl->Rl->Option Rat}{w:Int->Bool}{q:Qd}{i:Iv}{r:List Iv}(h:sV sm w q i=some r):∃l,gW sm q i (dK q) i []=some l∧r=oG w l [] false:=by
 unfold sV at h;rcases hs:gW sm q i (dK q) i [] with _|l
 ·rw[hs] at h;cases h
 ·rw[hs] at h;injection h with e;exact⟨l,rfl,e.symm⟩
section
variable{w:Int->Bool}{l:List (Iv×Int)}{k:Nat}{x:Iv×Int}{o:List Iv}{b:Bool}
def qlz(hx:l[k]? =some x)(hn:Gt w b (l.drop k)=true):(b&&w x.2)=false∧Gt w (w x.2) (l.drop (k+1))=true:=by
 rw[xG hx,Gt,Bool.and_eq_true] at hn;have e:=hn.1;refine⟨?_,hn.2⟩
 revert e
 cases(b&&w x.2)<;>simp
def qnZ(hx:l[k]? =some x)(hw:w x.2=true)(hb:b=false):oG w (l.drop k) o b=oG w (l.drop (k+1)) (o++[x.1]) true:=by
 rw[xG hx,oG,if_pos hw,if_neg (by rw[hb];decide)]
def qpX(hx:l[k]? =some x)(hw:w x.2=false):oG w (l.drop k) o b=oG w (l.drop (k+1)) o false:=by
 rw[xG hx,oG,if_neg (by rw[hw];decide)]
def qn0:oG w (l.drop l.length) o b=o:=by rw[List.drop_length,oG]
end
end Go.Via
namespace Go.Proofs.YtaffcpfhedadhaaGreatDoor
open Go Go.RowKit Go.Via
def wR(sm:Rl->Rl->Option Rat)(hsm:∀x y r,sm x y=some r->aP Tryz.prog 235 #[RV x,RV y] (Q r))(q:Qd)(i:Iv)(wn wz wp:Bool)(r:List Iv)(h:sV sm (nO wn wz wp) q i=some r)(hno:∀l,gW sm q i (dK q) i []=some l->Gt (nO wn wz wp) false l=true)(hf:dV i.f=true)(ht:dV i.t=true)(hoi:lF i=true)(hrt:bZ Tryz.prog 170 [] [qp q] (SR (dK q).length) (fun z=> .tuple #[z.v,.int .i64 0]) (fun z=>[⟨z.b,38,ai je (dK q),z.n,true⟩]))(hrz:∀r∈dK q,gJ r<=1000∧dV r=true)(hrl:(dK q).length<=2)(hln:∀l,gW sm q i (dK q) i []=some l->l.length<=100)(hq:ui q<=10000:=by omega)(hi:jH i<=1000:=by omega):bZ Tryz.prog 76 [] [qp q,fV i,.bool wn,.bool wz,.bool wp] (SR r.length) (fun z=> .tuple #[z.v,.int .i64 0]) (fun z=>[⟨z.b,61,ai aO r,z.n,true⟩]):=by
 refine⟨ak,fun w hL0=>?_⟩;obtain⟨l,hsg,hr⟩:=VC h;have hll:=hln l hsg;have hrg:=y8 bI hsg;refine cB5 75 Tryz.func76 hL0 ?_;refine kL fun g0=>?_;refine Bp 20 (fun g1=>?_);refine A6 ?_;refine vU 0 0 ?_;refine yz 1 0 ?_;refine(Sc []) (Gs sm hsm q i l hsg hf ht hoi hrt hrz hrl hq hi) (fun z=>?_);obtain⟨lb,lN,lc,hlc⟩:=z;refine nT ?_;refine(Bu [(0,_),(1,_),(2,_)]) (qhQ) ?_;refine Al 3 qqW (fun g2=>?_);refine Ss 3 ?_;refine A21 ?_;refine El (ι:={z:Nat×Bool×List Iv×Option Nat×Nat×Nat // z.1<=l.length∧oG (nO wn wz wp) l [] false=oG (nO wn wz wp) (l.drop z.1) z.2.2.1 z.2.1∧Gt (nO wn wz wp) z.2.1 (l.drop z.1)=true∧z.2.2.1.length<=z.1∧z.2.2.1.length<=z.2.2.2.2.2∧z.2.2.2.2.2*20<=z.2.2.2.2.1}) (fun⟨⟨k,bef,o,ob,oN,oc⟩,hk,hI,hna,ho,h3,h4⟩=>([(13,.int .i64 0),(14,dJ g2),(15,ay ob 0 o.length oc),(16,.bool bef),(30,ay lb 0 l.length lc),(31,bG (l.length)),(32,bG k)],[⟨lb,181,ai FN l,lN,true⟩,⟨some g2,130,[.bool wn,.bool wz,.bool wp],3,true⟩,⟨ob,61,ai aO o,oN,true⟩],l.length-k)) ⟨⟨0,false,[],none,0,0⟩,Nat.zero_le _,rfl,hno l hsg,Nat.le_refl _,Nat.le_refl _,bI⟩ ?_ (hL:=(aA [some 2,some 3,none] ⟨pR,pR,⟨rfl,rfl,rfl⟩,trivial⟩ rfl rfl));rintro⟨⟨k,bef,o,ob,oN,oc⟩,hk,hI,hna,ho,h3,h4⟩;(try dsimp only);replace hk:k<=l.length:=hk;replace hI:oG (nO wn wz wp) l [] false=oG (nO wn wz wp) (l.drop k) o bef:=hI;replace hna:Gt (nO wn wz wp) bef (l.drop k)=true:=hna;replace ho:o.length<=k:=ho;replace h3:o.length<=oc:=h3;replace h4:oc*20<=oN:=h4;refine A6 ?_;refine Cd ?_ ?_<;>intro haQ
 ·have hlt:k<l.length:=iL;obtain⟨x,hx⟩:∃x,l[k]? =some x:=⟨l[k],List.getElem?_eq_getElem hlt⟩;obtain⟨hs1,hs2⟩:=hrg x (List.mem_of_getElem? hx);refine dL 0 rfl (uY.ne ax ae) (fun hbs=>?_);obtain⟨gl,hgl⟩:=Option.isSome_iff_exists.1 hbs;replace hgl:lb=some gl:=hgl;subst hgl;refine A6 ?_;refine aI 0 ((k)*21) qds qdk rfl rfl rfl rfl rfl ae ae (uY.ne ax ae) (by show 0+Int.toNat _*21=_;omega) ?_;refine aG (v:=SgV x) 0 ((k)*21) _ rfl rfl rfl rfl qdk (uY.sub hx 0 21 ax) rfl ax rfl ?_;refine Al 21 qoR (fun g3=>?_);refine Ss 3 ?_;refine A6 ?_;refine(Aq (x.2+1)) o7 ?_;refine(Iz ((x.2+1).toNat) qq7 ti4) ?_;refine aG (v:= .bool ((nO wn wz wp) x.2)) 1 ((x.2+1).toNat) _ rfl rfl rfl rfl ti4 (qj3 hs1 hs2) rfl ax rfl ?_;refine A9 ?_;refine Rs 43 ?_ ?_<;>intro hbQ
  ·have hw:(nO wn wz wp) x.2=true:=hbQ;have hbf:bef=false:=by have e:=(qlz hx hna).1;rw[hw] at e;simpa using e
   refine A5 ?_;refine Cd ?_ ?_<;>intro hcQ
   ·exact absurd hcQ (by rw[hbf];decide)
   ·refine A6 ?_;refine Cd ?_ ?_<;>intro hdQ
    ·refine A3 ?_;refine yz 3 0 ?_;refine(Bl 20 [(0,_)]) (jh) (fun g4=>?_);refine(Qa (s:=20) (len:=o.length) (n2:=1) 2 4 (fun r=>[_,_,⟨some r.g,61,ai aO o++aO (x.1),r.n,true⟩,_,_]) SC Qx) (bY.length o) h3 h4 (bY.one (x.1)) (fun r=>?_);refine oJ ?_;refine jl ?_;exact Nl ⟨⟨k+1,true,o++[x.1],some r.g,r.n,r.cap⟩,hlt,by rw[hI];exact qnZ hx hw hbf,qgP,qgQ,lq,r.hn⟩ (hμ:=qgR) (ht:=⟨rfl,rfl,(aU rfl lT),(aU rfl (congrArg Value.bool hw)),rfl,rfl,rfl,trivial⟩) (hL:=(aA [some 0,some 1,some 2] ⟨pR,pR,⟨_,rfl,bn lU⟩,trivial⟩ rfl rfl))
    ·exact absurd hdQ (by rw[hw];decide)
  ·have hw:(nO wn wz wp) x.2=false:=hbQ;refine nT ?_;refine Cd ?_ ?_<;>intro hcQ
   ·exact absurd hcQ (by rw[hw];decide)
   ·refine lD ?_;refine jl ?_;exact Nl ⟨⟨k+1,false,o,ob,oN,oc⟩,hlt,by rw[hI];exact qpX hx hw,qgP,Nat.le_succ_of_le ho,h3,h4⟩ (hμ:=qgR) (ht:=⟨rfl,rfl,rfl,(aU rfl (congrArg Value.bool hw)),rfl,rfl,rfl,trivial⟩) (hL:=dR.auto)
 ·have hge:k=l.length:=jc;subst hge;have hl:r=o:=hr.trans (hI.trans qn0);refine Ew ?_;refine bM rfl (au rfl) (au rfl) (fun w hL=>⟨⟨ob,oN,oc,by rw[hl];exact h3⟩,?_,hL.picks [some 2] ⟨⟨_,rfl,bn (by rw[show ai aO r=_ from congrArg _ hl])⟩,trivial⟩ rfl rfl⟩);show Ending.returned (.tuple #[ay ob 0 _ oc,_])=Ending.returned (.tuple #[ay ob 0 r.length oc,_]);rw[hl]
end Go.Proofs.YtaffcpfhedadhaaGreatDoor
