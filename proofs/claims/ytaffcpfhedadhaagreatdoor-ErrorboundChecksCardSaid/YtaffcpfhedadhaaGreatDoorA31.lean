/-
  Part 31 (chapter 32): lemmas, walks. Each theorem states its own conditions.
-/
import Derived.Lib.Repeat
import Derived.Test.YtaffcpfhedadhaaGreatDoorA30
set_option linter.all false
set_option maxRecDepth 20000
set_option maxHeartbeats 20000000
section
variable{P Q:Prop}{T:Type}{R:T->Prop}
def qq3(h:P:=by
 refine A1 ?_;refine bZ [14] ak ⟨⟨_,rfl,?_⟩,trivial⟩
 ·refine A2 ?_;refine IZ rfl ?_;refine vW ?_;exact Nl ⟨⟨i+1,o++[x],some r.g,r.n,r.cap⟩,hlt,by show o++[x]=l.take (i+1);rw[<-fH hx,<-hI],jT,r.hn⟩ (hμ:=nJ) (ht:=⟨rfl,(aO rfl kG),rfl,trivial⟩) (hL:=(ay [some 0,some 1] ⟨pR,⟨_,rfl,aV kH⟩,trivial⟩ rfl rfl))):=h
def qcX(q:Q)(h:aj Q->P:=by intro q_;refine aT (v:=lC x.i) 0 ((i)*36+0) _ rfl rfl rfl rfl o7 (bu.sub hx 0 20 au) rfl au rfl ?_;exact q_.qq):=h ⟨q⟩
def qkt(h:P:=by
 refine bZ [13] ak ⟨⟨_,rfl,?_⟩,trivial⟩
 ·refine(Qa (s:=36) (len:=o.length) (n2:=1) 1 2 (fun r=>[_,⟨some r.g,201,ai aK o++aK (x),r.n,true⟩,_]) AQ JW) (bu.length o) h3 h4 (bu.one (x)) (fun r=>?_);exact qq3):=h
def qku(h:P:=by
 have hxy:x≠y:=rX
 refine qX ?_;refine aH rfl (ax rfl) (fun w hL=>⟨(),?_,hL.pk []⟩);exact eB (decide_eq_false (fun e=>hxy (by rw[e,hy] at hx;cases hx;rfl))).symm):=h
def qkv(h:P:=by have hge:i=a.length:=lw;subst hge;refine qX ?_;refine aH rfl (ax rfl) (fun w hL=>⟨(),?_,hL.pk []⟩);exact eB (decide_eq_true (XK hI hle)).symm):=h
def qkw(h:P:=by
 have hle:a.length≠b.length:=qao
 refine A7 ?_;refine aH rfl (ax rfl) (fun w hL=>⟨(),?_,hL.pk []⟩);exact eB (decide_eq_false (fun e=>hle (by rw[e]))).symm):=h
def qan(h:P:=by refine aH rfl (ax rfl) (fun w hL=>⟨(),?_,hL.pk []⟩);exact rfl):=h
def qkx(h:P:=by refine kM ?_;exact Nl ⟨i+1,hlt,by rw[<-fH hx,<-fH hy,hI,hxy]⟩ (hL:=fE.auto)):=h
def qky(q:Q)(h:aj Q->P:=by intro q_;refine Di [] ?_;refine A2 ?_;refine qaa ?_;refine A2 ?_;refine qkB ?_;refine aT (v:=lC y) 1 ((i)*20) _ rfl rfl rfl rfl o7 (dw.sub hy 0 20 au) rfl au rfl ?_;refine BB rfl rfl rfl rfl qu9 (qvN _ _) ?_;exact q_.qq):=h ⟨q⟩
def qkz(q:Q)(h:aj Q->P:=by intro q_;refine vw (l':=[⟨_,_,_,_,_,_⟩,⟨_,_,_,_,_,_⟩,⟨_,_,_,_,_,_⟩,⟨_,_,_,_,_,_⟩,⟨_,_,_,_,_,_⟩,⟨_,_,_,_,_,_⟩,⟨_,_,_,_,_,_⟩,⟨_,_,_,_,_,_⟩,⟨_,_,_,_,_,_⟩,⟨_,_,_,_,_,_⟩,⟨_,_,_,_,_,_⟩]) [2000000] [1,2,3,4,5,6,7,8,9,10,11] [0,12,13,14] mixed ak rfl ?_;exact q_.qq):=h ⟨q⟩
def qkA(h:P:=by
 have hge:i=l.length:=iV;subst hge;obtain rfl:o=l:=Ad
 exact UA):=h
def UW(q:Q)(h:aj Q->P:=by intro q_;refine Fg ((i)*36) 20 ?_;refine aT (v:=AU x.f) 0 ((i)*36+20) _ rfl rfl rfl rfl qdz (bu.sub hx 20 16 au) rfl au rfl ?_;exact q_.qq):=h ⟨q⟩
def qkB(q:Q)(h:aj Q->P:=by intro q_;refine aJ 1 ((i)*20) Yb o7 rfl rfl rfl rfl rfl ae ae (dw.ne au ae) Jv ?_;exact q_.qq):=h ⟨q⟩
def qkC(h:P:=by unfold oU;rw[h1,h2,h3,h4,h5,h6,h7];rfl):=h
def qkD(h:P:=by rw[List.length_eq_zero_iff.1 h];rfl):=h
def qao(h:P:=by have e:=haQ;simp at e;omega):=h
def rX(h:P:=by have e:=hcQ;simpa using e):=h
end
namespace Go.Via
open Go
section
variable{l:List (Iv×Qd)}{pv:Option Iv}{p:iT}
def qv5(h:bK p.i.f=false):oU l pv p=5:=by unfold oU;rw[h];rfl
def qv6(h1:bK p.i.f=true)(h2:bK p.i.t=false):oU l pv p=5:=by unfold oU;rw[h1,h2];rfl
def qv7(h1:bK p.i.f=true)(h2:bK p.i.t=true)(h3:ja p.i=false):oU l pv p=10:=by unfold oU;rw[h1,h2,h3];rfl
def qv8(h1:bK p.i.f=true)(h2:bK p.i.t=true)(h3:ja p.i=true)(h4:bK p.a=false):oU l pv p=5:=by unfold oU;rw[h1,h2,h3,h4];rfl
def qv9(h1:bK p.i.f=true)(h2:bK p.i.t=true)(h3:ja p.i=true)(h4:bK p.a=true)(h5:bK p.b=false):oU l pv p=5:=by unfold oU;rw[h1,h2,h3,h4,h5];rfl
def qwa(h1:bK p.i.f=true)(h2:bK p.i.t=true)(h3:ja p.i=true)(h4:bK p.a=true)(h5:bK p.b=true)(h6:yz pv p.i=true):oU l pv p=7:=by unfold oU;rw[h1,h2,h3,h4,h5,h6];rfl
def qwb(h1:bK p.i.f=true)(h2:bK p.i.t=true)(h3:ja p.i=true)(h4:bK p.a=true)(h5:bK p.b=true)(h6:yz pv p.i=false)(h7:oL l p=false):oU l pv p=30:=qkC
def qwc(h1:bK p.i.f=true)(h2:bK p.i.t=true)(h3:ja p.i=true)(h4:bK p.a=true)(h5:bK p.b=true)(h6:yz pv p.i=false)(h7:oL l p=true):oU l pv p=0:=qkC
def qyo{c:List iT}{i:Nat}{x:Iv}(h:i=0):yz (pO c i) x=false:=by subst h;rfl
theorem qwd{c:List iT}{i:Nat}{x:Iv}{q:iT}(h:0<i)(hq:c[i-1]? =some q):yz (pO c i) x=qeB x q.i:=by
 obtain⟨n,rfl⟩:∃n,i=n+1:=⟨i-1,ae⟩;rw[UT (i:=n) hq];rfl
end
section
variable{a b:List PU}{c:List iT}{m:Rl}
def qtX(h:(dI uY (gq a) (gq b)).length=0):36=CJ a b c m:=by unfold CJ;rw[if_pos qkD]
theorem qkE{l:List Iv}(h:l.length≠0):¬l.isEmpty=true:=fun e=>h (by rw[List.isEmpty_iff.1 e];rfl)
def O6{e:Int}(h:(dI uY (gq a) (gq b)).length≠0)(hl:fD (oU (flatK jP a b)) none c=e)(h0:e≠0):e=CJ a b c m:=by unfold CJ;rw[if_neg (qkE h),hl,if_pos h0]
def qtY(h:(dI uY (gq a) (gq b)).length≠0)(hl:fD (oU (flatK jP a b)) none c=0)(hn:dY (c.map (·.i))≠dI uY (gq a) (gq b)):12=CJ a b c m:=by unfold CJ;rw[if_neg (qkE h),hl,if_neg au,if_pos hn]
def qwe(h:(dI uY (gq a) (gq b)).length≠0)(hl:fD (oU (flatK jP a b)) none c=0)(hn:dY (c.map (·.i))=dI uY (gq a) (gq b))(hm:bK m=false):5=CJ a b c m:=by unfold CJ;rw[if_neg (qkE h),hl,if_neg au,if_neg (fun e=>e hn),if_pos hm]
def qtZ(h:(dI uY (gq a) (gq b)).length≠0)(hl:fD (oU (flatK jP a b)) none c=0)(hn:dY (c.map (·.i))=dI uY (gq a) (gq b))(hm:bK m=true)(hx:m≠qZ c):30=CJ a b c m:=by unfold CJ;rw[if_neg (qkE h),hl,if_neg au,if_neg (fun e=>e hn),if_neg (by rw[hm];decide),if_pos hx]
def qwf(h:(dI uY (gq a) (gq b)).length≠0)(hl:fD (oU (flatK jP a b)) none c=0)(hn:dY (c.map (·.i))=dI uY (gq a) (gq b))(hm:bK m=true)(hx:m=qZ c):0=CJ a b c m:=by unfold CJ;rw[if_neg (qkE h),hl,if_neg au,if_neg (fun e=>e hn),if_neg (by rw[hm];decide),if_neg (fun e=>e hx)]
end
end Go.Via
namespace Go.Proofs.YtaffcpfhedadhaaGreatDoor
open Go Go.RowKit Go.Via
def JB(a:List Iv)(ab:Option Nat)(aN ac:Nat)(hac:a.length<=ac)(han:a.length<=2000000)(b:List Iv)(bb:Option Nat)(bN bc:Nat)(hbc:b.length<=bc:=by omega)(hbn:b.length<=2000000:=by omega):bQ Tryz.prog 103 [⟨ab,61,ai aZ a,aN,false⟩,⟨bb,61,ai aZ b,bN,false⟩] [aB ab 0 a.length ac,aB bb 0 b.length bc] Unit (fun _=> .bool (decide (a=b))) (fun _=>[]):=by
 refine sB2 26 Tryz.func103 fun w hL0=>?_;refine II ?_;refine Cd ?_ ?_<;>intro haQ
 ·exact qkw
 ·have hle:a.length=b.length:=qao
  refine qX ?_;refine El (ι:={i:Nat // i<=a.length∧a.take i=b.take i}) (fun⟨i,hi,hI⟩=>([(0,aB ab 0 a.length ac),(1,aB bb 0 b.length bc),(11,aB ab 0 a.length ac),(12,bF (a.length)),(13,bF i)],[⟨ab,61,ai aZ a,aN,false⟩,⟨bb,61,ai aZ b,bN,false⟩],a.length-i)) ⟨0,Nat.zero_le _,rfl⟩ ?_;rintro⟨i,hi,hI⟩;(try dsimp only);refine A6 ?_;refine Cd ?_ ?_<;>intro hbQ
  ·have hlt:i<a.length:=kN;obtain⟨x,hx⟩:∃x,a[i]? =some x:=⟨a[i],List.getElem?_eq_getElem hlt⟩;obtain⟨y,hy⟩:∃y,b[i]? =some y:=⟨_,List.getElem?_eq_getElem ae⟩;refine qX ?_;refine qky ?_;refine A2 ?_;refine Cd ?_ ?_<;>intro hcQ
   ·exact qku
   ·have hxy:x=y:=rX
    refine A4 ?_;exact qkx
  ·exact qkv
def O7(a:List Iv)(ab:Option Nat)(aN ac:Nat)(hac:a.length<=ac)(han:a.length<=2000000)(b:List Iv)(bb:Option Nat)(bN bc:Nat)(hbc:b.length<=bc:=by omega)(hbn:b.length<=2000000:=by omega):bQ Tryz.prog 49 [⟨ab,61,ai aZ a,aN,false⟩,⟨bb,61,ai aZ b,bN,false⟩] [aB ab 0 a.length ac,aB bb 0 b.length bc] Unit (fun _=> .bool (decide (a=b))) (fun _=>[]):=by
 refine sB2 8 Tryz.func49 fun w hL0=>?_;refine A9 ?_;refine(Sd [0,1]) (JB a ab aN ac hac han b bb bN bc hbc hbn) ?_;refine A4 ?_;exact qan
def Le(t x y u v z:Rat)(h0:u-t≠0:=by omega)(ht:bY t<=100000:=by omega)(hx:bY x<=100000:=by omega)(hy:bY y<=100000:=by omega)(hu:bY u<=100000:=by omega)(hv:bY v<=100000:=by omega)(hz:bY z<=100000:=by omega):aG Tryz.prog 87 #[.agg #[.bool (decide ((t).num<0)),.string (bH (t).num.natAbs),.bool false,.string (dm (t)),.bool (decide ((x).num<0)),.string (bH (x).num.natAbs),.bool false,.string (dm (x)),.bool (decide ((y).num<0)),.string (bH (y).num.natAbs),.bool false,.string (dm (y))],.agg #[.bool (decide ((u).num<0)),.string (bH (u).num.natAbs),.bool false,.string (dm (u)),.bool (decide ((v).num<0)),.string (bH (v).num.natAbs),.bool false,.string (dm (v)),.bool (decide ((z).num<0)),.string (bH (z).num.natAbs),.bool false,.string (dm (z))]] (AU ⟨(x-(v-x)/(u-t)*t),((v-x)/(u-t)),(y-(z-y)/(u-t)*t),((z-y)/(u-t))⟩):=by
 refine nX 46 Tryz.func87 fun w=>?_;refine kE fun g0=>?_;refine Bp 12 (fun g1=>?_);refine Al 16 z98 (fun g2=>?_);refine A5 ?_;refine L4 0 0 ?_;refine A2 ?_;refine L4 0 4 ?_;refine kF ?_;refine A2 ?_;refine L4 1 4 ?_;refine Pc (uD t x u v h0 ht hx hu hv) ?_;refine A3 ?_;refine Al 12 Vf (fun g3=>?_);refine Ss 3 ?_;refine A6 ?_;refine L4 0 0 ?_;refine A2 ?_;refine L4 0 8 ?_;refine kF ?_;refine A2 ?_;refine L4 1 8 ?_;refine Pc (uD t y u z h0 ht hy hu hz) ?_;refine A3 ?_;refine Al 12 Vf (fun g4=>?_);refine Ss 4 ?_;refine A6 ?_;refine L4 3 0 ?_;refine A1 ?_;refine L4 3 4 ?_;refine A1 ?_;refine L4 4 0 ?_;refine A1 ?_;refine L4 4 4 ?_;refine(Bu [(0,_),(1,_),(2,_),(3,_)]) (qgm) ?_;refine jq ?_;refine qtc 2 ?_;exact rfl
def Qn(l:List PU)(lb:Option Nat)(lN lc:Nat)(hlc:l.length<=lc:=by omega)(hln:l.length<=1000:=by omega):bQ Tryz.prog 136 [⟨lb,100,ai aK l,lN,false⟩] [aB lb 0 l.length lc] (SR (l).length) SR.v (fun z=>[⟨z.b,201,ai aK (l),z.n,true⟩]):=by
 refine Qg 26 Tryz.func136 fun w hL0=>?_;refine PX ?_;refine El (ι:={z:Nat×List PU×Option Nat×Nat×Nat // z.1<=l.length∧z.2.1=l.take z.1∧z.2.1.length<=z.2.2.2.2∧z.2.2.2.2*36<=z.2.2.2.1}) (fun⟨⟨i,o,ob,oN,oc⟩,hi,hI,h3,h4⟩=>([(0,aB lb 0 l.length lc),(3,aB ob 0 o.length oc),(4,bF i)],[⟨lb,100,ai aK l,lN,false⟩,⟨ob,201,ai aK o,oN,true⟩],l.length-i)) ⟨⟨0,[],none,0,0⟩,Nat.zero_le _,rfl,Nat.le_refl _,bz⟩ ?_ (hL:=(ay [some 0,none] ⟨pR,⟨rfl,rfl,rfl⟩,trivial⟩ rfl rfl));rintro⟨⟨i,o,ob,oN,oc⟩,hi,hI,h3,h4⟩;(try dsimp only);replace hi:i<=l.length:=hi;replace hI:o=l.take i:=hI;replace h3:o.length<=oc:=h3;replace h4:oc*36<=oN:=h4
 have hol:o.length<=100000:=(by rw[hI,List.length_take];omega);refine A9 ?_;refine Cd ?_ ?_<;>intro haQ
 ·have hlt:i<l.length:=iE;obtain⟨x,hx⟩:∃x,l[i]? =some x:=⟨l[i],List.getElem?_eq_getElem hlt⟩;refine dK 0 rfl (bu.ne au ae) (fun hbs=>?_);obtain⟨gl,hgl⟩:=Option.isSome_iff_exists.1 hbs;replace hgl:lb=some gl:=hgl;subst hgl;refine A4 ?_;refine qkz ?_;refine A2 ?_;refine RS ?_;refine Fg ((i)*36) 0 ?_;refine qcX ?_;refine A2 ?_;refine RS ?_;refine UW ?_;refine(Bu [(0,_),(1,_)]) (LM) ?_;refine A1 ?_;refine bZ [0,12] ak ⟨⟨_,rfl,?_⟩,⟨_,rfl,?_⟩,trivial⟩
  ·refine A2 ?_;refine bZ [12] ak ⟨⟨_,rfl,?_⟩,trivial⟩
   ·refine(Bl 36 [(0,_)]) (zB) (fun g0=>?_);refine A1 ?_;exact qkt
  ·refine(Bl 36 [(0,_)]) (zB) (fun g0=>?_);refine A1 ?_;refine bZ [0] ak ⟨⟨_,rfl,?_⟩,trivial⟩
   ·refine A2 ?_;exact qkt
 ·exact qkA
end Go.Proofs.YtaffcpfhedadhaaGreatDoor
