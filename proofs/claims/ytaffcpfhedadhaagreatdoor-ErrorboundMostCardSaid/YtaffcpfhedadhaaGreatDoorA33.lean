/-
  Part 33 (chapter 32): lemmas, walks. Each theorem states its own conditions.
-/
import Derived.Lib.Repeat
import Derived.Shelf.SlSortCmp.WholeK
import Derived.Shelf.SlSortCmp.NoneTotal
import Derived.Sort.Grow
import Derived.Sort.EncStr
import Derived.Test.YtaffcpfhedadhaaGreatDoorA32
set_option linter.all false
set_option maxRecDepth 20000
set_option maxHeartbeats 20000000
namespace Go.Proofs.YtaffcpfhedadhaaGreatDoor
open Go Go.RowKit Go.Via
def XD(p r:Rat)(n:Bool)(hp:cO p<=1000000:=by omega)(hr:cO r<=1000000:=by omega):aP Tryz.prog 100 #[Q p,Q r,.bool n] (RV (ofM p r n)):=by
 have l1:=Q5 r;have l2:=JY (mZ r);refine pB3 26 Tryz.func100 fun w=>?_;refine jd fun g0=>?_;refine Bp 4 (fun g1=>?_);refine Al 9 Jq (fun g2=>?_);refine A5 ?_;refine L4 1 0 ?_;refine Pc (Rq r) ?_;refine A3 ?_;refine Al 4 qL (fun g3=>?_);refine Ss 3 ?_;refine A8 ?_;refine Cd ?_ ?_<;>intro haQ
 ·have hs14:Cc r=true:=haQ;refine A6 ?_;refine Cd ?_ ?_<;>intro hbQ
  ·have hs15:n=true:=hbQ;refine A1 ?_;refine L4 3 0 ?_;refine aF 16 (Q (mZ r)) rfl (by rw[hs14,if_pos rfl];rfl) ?_;refine Pc (IC (mZ r)) ?_;refine Ss 3 ?_;refine A4 ?_;refine L4 0 0 ?_;refine L4 3 0 ?_;refine Pc (ig p (-mZ r)) ?_;refine(Bu [(0,_)]) (Kt) ?_;refine Ss 2 ?_;refine A4 ?_;refine Ed9 2 ?_;rw[ofM,hs14,if_pos rfl,if_pos hs15,PH]
  ·have hs15:n=false:=hbQ;refine A4 ?_;refine L4 0 0 ?_;refine L4 3 0 ?_;refine aF 19 (Q (mZ r)) rfl (by rw[hs14,if_pos rfl];rfl) ?_;refine Pc (ig p (mZ r)) ?_;refine(Bu [(0,_)]) (Kt) ?_;refine Ss 2 ?_;refine A4 ?_;refine Ed9 2 ?_;rw[ofM,hs14,if_pos rfl,if_neg (by rw[hs15];decide),PH]
 ·have hs14:Cc r=false:=haQ;refine A4 ?_;refine jM ?_;refine A1 ?_;refine(Bu [(0,_),(1,_),(2,_)]) (qdn) ?_;refine eG ?_;refine Ed9 2 ?_;rw[ofM,hs14,if_neg ax];rfl
def MI(f:Qd)(t:Rl)(h0:t.ok)(hf:ui f<=10000:=by omega)(ht:gJ t<=10000:=by omega):aP Tryz.prog 46 #[qp f,RV t] (RV (O8 f t)):=by
 have hz:=qfI hf ht;have z0:=Nat.le_trans (qf (lS f t)) hz;have z1:=Nat.le_trans (qg (lS f t)) hz;have t1:=Nat.le_trans (sF t) ht;have t2:=Nat.le_trans (yh t) ht;have l1:=bV (lS f t).c1 t.p;have l2:=jf (lS f t).c0 ((lS f t).c1*t.p);have l3:=bV (lS f t).c1 (lS f t).c1;have l4:=bV ((lS f t).c1*(lS f t).c1) t.r;refine oz 35 Tryz.func46 fun w=>?_;refine kL fun g0=>?_;refine Bp 9 (fun g1=>?_);refine Al 9 Jq (fun g2=>?_);refine A4 ?_;refine vU 0 0 ?_;refine L9 1 0 ?_;refine Pc (MF f t) ?_;refine Al 12 Ij (fun g3=>?_);refine Ss 3 ?_;refine A3 ?_;refine Dq [3000000] [0,1,2,3,4,5,6,7,8,9] ?_;refine A1 ?_;refine L4 3 0 ?_;refine A1 ?_;refine L4 3 4 ?_;refine A1 ?_;refine L4 1 0 ?_;refine Pc (dF (lS f t).c1 t.p) ?_;refine Pc (ig (lS f t).c0 ((lS f t).c1*t.p)) ?_;refine Al 4 qL (fun g4=>?_);refine Ss 4 ?_;refine A3 ?_;refine Dp [] [0,1,2,3,4,6,7,9,10,11,12,5,8,13,14,15,16,17] ?_;refine L4 4 0 ?_;refine A1 ?_;refine L4 3 4 ?_;refine A1 ?_;refine L4 3 4 ?_;refine A1 ?_;refine L4 1 4 ?_;refine A3 ?_;refine L4 3 4 ?_;refine Pc (dF (lS f t).c1 (lS f t).c1) ?_;refine Pc (dF ((lS f t).c1*(lS f t).c1) t.r) ?_;refine Pc (iG (lS f t).c1) ?_;refine A1 ?_;refine pF rfl u4 rfl rfl rfl ?_;refine Pc (XD ((lS f t).c0+(lS f t).c1*t.p) ((lS f t).c1*(lS f t).c1*t.r) (t.n !=decide (dE (lS f t).c1<0))) ?_;refine eG ?_;refine Ed9 2 ?_;rw[<-qnj h0];rfl
end Go.Proofs.YtaffcpfhedadhaaGreatDoor
namespace Go.Via
open Go
def qbX(out:List Iv)(t:Rl)(tp:Bool):(PN out t tp).length<=out.length:=by
 rcases List.eq_nil_or_concat out with e|⟨o,i,e⟩
 ·subst e;unfold PN;simp
 ·subst e;rw[List.concat_eq_append,vC];simp
def PP(out:List Iv)(og h:Bool)(t:Rl):(kD out og h t).length<=out.length+1:=by
 unfold kD;have h1:=qbX out t (!h)
 repeat' split
 all_goals first|(simp;done)|omega|(simp;omega)
def Vq{here:Rl->Bool}{btw:Rl->Rl->Bool}:∀{ts:List Rl} {out:List Iv} {og:Bool},(qw here btw ts out og).length<=out.length+2*ts.length
 |[],out,og=>by unfold qw;simp
 |[t],out,og=>by unfold qw;have:=PP out og (here t) t;simp;omega
 |t::u::ts,out,og=>by
  unfold qw;have h1:=PP out og (here t) t;have h2:=Vq (here:=here) (btw:=btw) (ts:=u::ts) (out:=if btw t u=true∧here t=false then kD out og (here t) t++[⟨t,u,true,true⟩] else kD out og (here t) t) (og:=btw t u)
  refine Nat.le_trans h2 ?_
  split
  ·simp only[List.length_append,List.length_cons,List.length_nil];omega
  ·simp only[List.length_cons];omega
def PQ(op:Bool->Bool->Bool)(a b:List Iv):(gm op a b).length<=4*(a.length+b.length):=by
 rw[Ro];have h:=Vq (here:=fun t=>op (nZ a t) (nZ b t)) (btw:=fun t u=>op (oh a t u) (oh b t u)) (ts:=eY (bW (a++b))) (out:=[]) (og:=false)
 have h2:=Rn (bW (a++b));rw[vF,List.length_append] at h2;simp only[List.length_nil] at h;omega
def qfO{S S':Rl->Prop}{ρ:Rl->Int}(T:fF S ρ)(h:∀x,S' x->S x):fF S' ρ:=⟨fun a b=>T.lt (h _ a) (h _ b),fun a b=>T.gt (h _ a) (h _ b),fun a b=>T.inj (h _ a) (h _ b)⟩
def SmE(n:Nat)(x:Rl):Prop:=gV x∧gJ x<=n
def qfP(n:Nat):fF (SmE n) gG:=qfO nz fun _ h=>h.1
def yt(c:List ny):Nat->Option Iv
 |0=>none
 |n+1=>(c[n]?).map (·.i)
theorem ZP{c:List ny}{i:Nat}{p:ny}(h:c[i]? =some p):yt c (i+1)=some p.i:=by show(c[i]?).map (·.i)=_;rw[h];rfl
theorem ZQ{c:List ny}{i:Nat}{p:ny}(h:c[i]? =some p):c.drop i=p::c.drop (i+1):=by
 obtain⟨h1,h2⟩:=List.getElem?_eq_some_iff.1 h;rw[<-h2,List.getElem_cons_drop]
def qpG{f:Option Iv->ny->Int}{c:List ny}{i:Nat}{p:ny}(h:c[i]? =some p)(hL:kK f none c=kK f (yt c i) (c.drop i))(h0:f (yt c i) p=0):kK f none c=kK f (yt c (i+1)) (c.drop (i+1)):=by
 rw[hL,ZQ h,ZP h]
 conv=>lhs;unfold kK
 rw[if_pos h0]
def qnF{f:Option Iv->ny->Int}{c:List ny}{i:Nat}{p:ny}{e:Int}(h:c[i]? =some p)(hL:kK f none c=kK f (yt c i) (c.drop i))(he:f (yt c i) p=e)(h0:e≠0):kK f none c=e:=by
 rw[hL,ZQ h]
 conv=>lhs;unfold kK
 rw[if_neg (by rw[he];exact h0),he]
def qnG{f:Option Iv->ny->Int}{c:List ny}(hL:kK f none c=kK f (yt c c.length) (c.drop c.length)):kK f none c=0:=by
 rw[hL,List.drop_length];cases yt c c.length<;>rfl
end Go.Via
namespace Go.Proofs.YtaffcpfhedadhaaGreatDoor
open Go Go.RowKit Go.Via
def nP(f:Ln):aP Tryz.prog 315 #[yV f] (.tuple #[qp (qx f),qp (qy f)]):=by
 refine xI 14 Tryz.func315 fun w=>?_;refine A2 ?_;refine Bp 16 (fun g0=>?_);refine Al 12 Ij (fun g1=>?_);refine Al 12 Ij (fun g2=>?_);refine A3 ?_;refine Dp [] [0,1,2,3,5,6,7,8,4,9,10,11] ?_;refine A1 ?_;refine L4 0 0 ?_;refine A1 ?_;refine L4 0 4 ?_;refine A1 ?_;refine L4 0 8 ?_;refine A1 ?_;refine L4 0 12 ?_;refine Pc (jG f.x0 f.x1) ?_;refine Pc (jG f.y0 f.y1) ?_;refine Ss 1 ?_;refine eG ?_;refine bM rfl (bz 1 rfl rfl qdj (vs:=[_,_,_,_,_,_,_,_,_,_,_,_]) rfl rfl (Nat.le_of_ble_eq_true rfl) rfl) (bz 2 rfl rfl qdj (vs:=[_,_,_,_,_,_,_,_,_,_,_,_]) rfl rfl (Nat.le_of_ble_eq_true rfl) rfl) (fun w hL=>⟨?_,hL.below⟩);exact rfl
def Oa(f g:Ln):aP Tryz.prog 312 #[.agg #[],yV f,yV g] (.bool (decide (f=g))):=by
 refine pB3 10 Tryz.func312 fun w=>?_;refine A2 ?_;refine Bo [] 0 (fun g=>[⟨some g,197,_,0,true⟩]) (fun g0=>?_);refine Bp 16 (fun g1=>?_);refine Bp 16 (fun g2=>?_);refine A5 ?_;refine L16 1 0 ?_;refine L16 2 0 ?_;refine iY rfl rfl rfl rfl qq5 (qrA _ _) ?_;refine A4 ?_;refine E0 ?_;exact rfl
def F9(f g:Ln)(t:Rl)(hf:jP f<=10000:=by omega)(hg:jP g<=10000:=by omega)(ht:gJ t<=10000:=by omega):aP Tryz.prog 314 #[.agg #[],yV f,yV g,RV t] (.bool (pU f g t)):=by
 have f1:=XA hf;have f2:=XB hf;have q1:=XA hg;have q2:=XB hg;refine pB4 33 Tryz.func314 fun w=>?_;refine A2 ?_;refine Bo [] 0 (fun g=>[⟨some g,197,_,0,true⟩]) (fun g0=>?_);refine Bp 16 (fun g1=>?_);refine Bp 16 (fun g2=>?_);refine Bp 9 (fun g3=>?_);refine A5 ?_;refine L16 1 0 ?_;refine Pc (nP f) ?_;refine A3 ?_;refine Al 12 Ij (fun g4=>?_);refine Al 12 Ij (fun g5=>?_);refine Ss 4 ?_;refine Ss 5 ?_;refine A4 ?_;refine L16 2 0 ?_;refine Pc (nP g) ?_;refine A3 ?_;refine Al 12 Ij (fun g6=>?_);refine Al 12 Ij (fun g7=>?_);refine Ss 6 ?_;refine Ss 7 ?_;refine A4 ?_;refine vU 4 0 ?_;refine vU 6 0 ?_;refine L9 3 0 ?_;refine Pc (yl (qx f) (qx g) t f1 q1 ht) ?_;refine A1 ?_;refine Rs 27 ?_ ?_<;>intro haQ
 ·have hsx:decide (vw (qh (qx f) (qx g)) t=⟨0,0,0⟩)=true:=haQ;refine vU 5 0 ?_;refine vU 7 0 ?_;refine L9 3 0 ?_;refine Pc (yl (qy f) (qy g) t f2 q2 ht) ?_;refine A5 ?_;refine E0 ?_;rw[<-ZN,hsx,Bool.true_and]
 ·have hsx:decide (vw (qh (qx f) (qx g)) t=⟨0,0,0⟩)=false:=haQ;refine A9 ?_;refine E0 ?_;rw[<-ZN,hsx,Bool.false_and]
def MJ(f:Ln)(t:Rl)(hf:jP f<=10000:=by omega)(ht:gJ t<=10000:=by omega):aP Tryz.prog 313 #[.agg #[],yV f,RV t] (yV (jK f t)):=by
 have f1:=XA hf;have f2:=XB hf;obtain⟨e1,e2,e3,e4⟩:=qlc f t;refine pB3 29 Tryz.func313 fun w=>?_;refine A2 ?_;refine Bo [] 0 (fun g=>[⟨some g,197,_,0,true⟩]) (fun g0=>?_);refine Bp 16 (fun g1=>?_);refine Bp 9 (fun g2=>?_);refine Al 16 z98 (fun g3=>?_);refine A4 ?_;refine L16 1 0 ?_;refine Pc (nP f) ?_;refine A3 ?_;refine Al 12 Ij (fun g4=>?_);refine Al 12 Ij (fun g5=>?_);refine Ss 4 ?_;refine Ss 5 ?_;refine A3 ?_;refine Dp [] [0,1,3,4,2,5,6,7] ?_;refine vU 4 0 ?_;refine L9 2 0 ?_;refine vU 5 0 ?_;refine L9 2 0 ?_;refine Pc (o8 (qx f) t) ?_;refine Pc (o8 (qy f) t) ?_;refine Ss 4 ?_;refine Ss 5 ?_;refine A5 ?_;refine L4 4 0 ?_;refine A1 ?_;refine L4 4 4 ?_;refine A1 ?_;refine L4 5 0 ?_;refine A1 ?_;refine L4 5 4 ?_;refine(Bu [(0,_),(1,_),(2,_),(3,_)]) (qdq) ?_;refine Ss 3 ?_;refine A3 ?_;refine qmX 3 ?_;show Ending.returned (yV ⟨(vw (qx f) t).c0,(vw (qx f) t).c1,(vw (qy f) t).c0,(vw (qy f) t).c1⟩)=_;rw[e1,e2,e3,e4]
end Go.Proofs.YtaffcpfhedadhaaGreatDoor
