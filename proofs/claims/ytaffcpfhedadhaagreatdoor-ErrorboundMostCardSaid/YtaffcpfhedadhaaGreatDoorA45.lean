/-
  Part 45 (chapter 32): lemmas, walks. Each theorem states its own conditions.
-/
import Derived.Shelf.SlSortCmp.WholeK
import Derived.Shelf.SlSortCmp.NoneTotal
import Derived.Lib.Repeat
import Derived.Sort.Grow
import Derived.Sort.EncStr
import Derived.Lib.SliceRun
import Derived.Test.YtaffcpfhedadhaaGreatDoorA37
import Derived.Test.YtaffcpfhedadhaaGreatDoorA39
set_option linter.all false
set_option maxRecDepth 20000
set_option maxHeartbeats 20000000
section
variable{P Q:Prop}{T:Type}{R:T->Prop}
def qqm(h:P:=by
 refine bU [7] ak ⟨⟨_,rfl,?_⟩,trivial⟩
 ·exact qqn):=h
def qlI(h:P:=by
 refine bU [9] ak ⟨⟨_,rfl,?_⟩,trivial⟩
 ·exact qqo):=h
def qqn(h:P:=by
 refine(Qa (s:=36) (len:=o.length) (n2:=1) 3 8 (fun r=>[_,_,_,⟨some r.g,100,ai aB o++aB (Eo o alone f (zM last s)),r.n,true⟩,_,_,_,_,_]) u29 YM) (aX.length o) h3 h4 (aX.one (Eo o alone f (zM last s))) (fun r=>?_);refine A1 ?_;refine bU [8] ak ⟨⟨_,rfl,?_⟩,trivial⟩
 ·refine A2 ?_;refine GN rfl ?_;refine A5 ?_;refine(Dv ((s.kind%8:Nat):Int)) (congrArg some (kz _ _ rfl rfl)) ?_;refine A5 ?_;refine vU 5 0 ?_;refine Ss 2 ?_;refine A5 ?_;refine dP ?_;exact Nl ⟨⟨i+1,zM last s,false,o++[Eo o alone f (zM last s)],some r.g,r.n,r.cap⟩,hlt,hsn,by rw[hI];exact qpN hx hk0 hf,qgQ,lq,r.hn⟩ (hμ:=nM) (ht:=⟨rfl,(aU rfl lT),rfl,(aU rfl (congrArg Value.bool hk0b)),rfl,trivial⟩) (hL:=(aA [some 0,some 1,some 2,some 3] ⟨pR,pR,pR,⟨_,rfl,bn lU⟩,trivial⟩ rfl rfl))):=h
def qqo(h:P:=by
 refine(Qa (s:=36) (len:=o.length) (n2:=1) 3 5 (fun r=>[_,_,_,⟨some r.g,100,ai aB o++aB (xE last),r.n,true⟩,_,_]) u29 YM) (aX.length o) h3 h4 (aX.one (xE last)) (fun r=>?_);refine A1 ?_;refine bU [10] ak ⟨⟨_,rfl,?_⟩,trivial⟩
 ·refine A2 ?_;refine GN rfl ?_;refine A4 ?_;refine fQ [_] [3] rfl rfl (by show _=[some _];rw[List.length_append];rfl) (BG (qfP 2) (o++[xE last]) (some r.g) r.n r.cap lq ae hq1 hq2 hq3.1 ae hq4) ⟨⟨_,rfl,by rw[<-qP];exact fM⟩,trivial⟩ rfl (.inr fun x b hb=>sZ) (fun z=>?_);obtain⟨nb,nN,nc,hnc⟩:=z;refine Gw ?_;refine aK rfl (au rfl) (fun w hL=>⟨⟨nb,nN,nc,by rw[hT];exact hnc⟩,?_,hL.picks [some 6] ⟨⟨_,rfl,bn qg4⟩,trivial⟩ rfl rfl⟩);show Ending.returned (ay nb 0 _ nc)=Ending.returned (ay nb 0 (jF t x y l).length nc);rw[hT]):=h
def qlJ(h:P:=by
 refine bU [6] ak ⟨⟨_,rfl,?_⟩,trivial⟩
 ·refine(Bl 36 [(0,_)]) (DW) (fun g5=>?_);refine A1 ?_;exact qqm):=h
def qlK(h:P:=by
 refine bU [8] ak ⟨⟨_,rfl,?_⟩,trivial⟩
 ·refine(Bl 36 [(0,_)]) (DW) (fun g3=>?_);refine A1 ?_;exact qlI):=h
def qlL(h:P:=by
 refine bU [5] ak ⟨⟨_,rfl,?_⟩,trivial⟩
 ·refine(Bu [(0,_),(1,_)]) (wB) ?_;refine A1 ?_;exact qlJ):=h
def qlM(h:P:=by
 refine bU [7] ak ⟨⟨_,rfl,?_⟩,trivial⟩
 ·refine(Bu [(0,_),(1,_)]) (wB) ?_;refine A1 ?_;exact qlK):=h
def qg4(h:P:=by rw[show ai aB (jF t x y l)=_ from congrArg _ hT]):=h
end
namespace Go.Proofs.YtaffcpfhedadhaaGreatDoor
open Go Go.RowKit Go.Via
def NF(l:List PU)(lb:Option Nat)(lN lc:Nat)(hlc:l.length<=lc:=by omega)(hln:l.length<=1000:=by omega):bZ Tryz.prog 137 [⟨lb,201,ai aB l,lN,false⟩] [ay lb 0 l.length lc] (SR (l).length) SR.v (fun z=>[⟨z.b,100,ai aB (l),z.n,true⟩]):=by
 refine O3 26 Tryz.func137 fun w hL0=>?_;refine QI ?_;refine El (ι:={z:Nat×List PU×Option Nat×Nat×Nat // z.1<=l.length∧z.2.1=l.take z.1∧z.2.1.length<=z.2.2.2.2∧z.2.2.2.2*36<=z.2.2.2.1}) (fun⟨⟨i,o,ob,oN,oc⟩,hi,hI,h3,h4⟩=>([(0,ay lb 0 l.length lc),(3,ay ob 0 o.length oc),(4,bG i)],[⟨lb,201,ai aB l,lN,false⟩,⟨ob,100,ai aB o,oN,true⟩],l.length-i)) ⟨⟨0,[],none,0,0⟩,Nat.zero_le _,rfl,Nat.le_refl _,bI⟩ ?_ (hL:=(aA [some 0,none] ⟨pR,⟨rfl,rfl,rfl⟩,trivial⟩ rfl rfl));rintro⟨⟨i,o,ob,oN,oc⟩,hi,hI,h3,h4⟩;(try dsimp only);replace hi:i<=l.length:=hi;replace hI:o=l.take i:=hI;replace h3:o.length<=oc:=h3;replace h4:oc*36<=oN:=h4
 have hol:o.length<=100000:=(by rw[hI,List.length_take];omega);refine A9 ?_;refine Cd ?_ ?_<;>intro haQ
 ·have hlt:i<l.length:=iL;obtain⟨x,hx⟩:∃x,l[i]? =some x:=⟨l[i],List.getElem?_eq_getElem hlt⟩;refine dL 0 rfl (aX.ne ax ae) (fun hbs=>?_);obtain⟨gl,hgl⟩:=Option.isSome_iff_exists.1 hbs;replace hgl:lb=some gl:=hgl;subst hgl;refine A4 ?_;refine qK (l':=[⟨_,_,_,_,_,_⟩,⟨_,_,_,_,_,_⟩,⟨_,_,_,_,_,_⟩,⟨_,_,_,_,_,_⟩,⟨_,_,_,_,_,_⟩,⟨_,_,_,_,_,_⟩,⟨_,_,_,_,_,_⟩,⟨_,_,_,_,_,_⟩,⟨_,_,_,_,_,_⟩,⟨_,_,_,_,_,_⟩,⟨_,_,_,_,_,_⟩]) [2000000] [1,2,3,4,5,6,7,8,9,10,11] [0,12,13,14] mixed ak rfl ?_;refine A2 ?_;refine MM ?_;refine Fg ((i)*36) 0 ?_;refine aG (v:=fV x.i) 0 ((i)*36) _ rfl rfl rfl rfl mr (aX.sub hx 0 20 ax) rfl ax rfl ?_;refine A2 ?_;refine MM ?_;refine Fg ((i)*36) 20 ?_;refine MN ?_;refine(Bu [(0,_),(1,_)]) (wB) ?_;refine A1 ?_;refine bU [0,12] ak ⟨⟨_,rfl,?_⟩,⟨_,rfl,?_⟩,trivial⟩
  ·refine A2 ?_;refine bU [12] ak ⟨⟨_,rfl,?_⟩,trivial⟩
   ·refine(Bl 36 [(0,_)]) (DW) (fun g0=>?_);refine A1 ?_;refine bU [13] ak ⟨⟨_,rfl,?_⟩,trivial⟩
    ·refine(Qa (s:=36) (len:=o.length) (n2:=1) 1 2 (fun r=>[_,⟨some r.g,100,ai aB o++aB (x),r.n,true⟩,_]) u29 YM) (aX.length o) h3 h4 (aX.one (x)) (fun r=>?_);exact ZR
  ·refine(Bl 36 [(0,_)]) (DW) (fun g0=>?_);refine A1 ?_;refine bU [0] ak ⟨⟨_,rfl,?_⟩,trivial⟩
   ·refine A2 ?_;refine bU [13] ak ⟨⟨_,rfl,?_⟩,trivial⟩
    ·refine(Qa (s:=36) (len:=o.length) (n2:=1) 1 2 (fun r=>[_,⟨some r.g,100,ai aB o++aB (x),r.n,true⟩,_]) u29 YM) (aX.length o) h3 h4 (aX.one (x)) (fun r=>?_);exact ZR
 ·have hge:i=l.length:=jc;subst hge;obtain rfl:o=l:=Bc
  exact Me
def BG{S:Rl->Prop}{ρ:Rl->Int}(T:fF S ρ)(l:List PU)(lb:Option Nat)(lN lc:Nat)(hlc:l.length<=lc)(hln:l.length<=1000)(hsep:pV ρ l)(hE:Go.Via.Ends S l)(h0:0<l.length)(h20:l.length<20)(hz:∀u∈l,jH u.i<=1000∧jP u.f<=1000):bZ Tryz.prog 89 [⟨lb,100,ai aB l,lN,false⟩] [ay lb 0 l.length lc] (SR (qC l).length) (fun z=> .tuple #[z.v,.int .i64 0]) (fun z=>[⟨z.b,100,ai aB (qC l),z.n,true⟩]):=by
 refine⟨ak,fun w hL0=>?_⟩;have hnl:(qC l).length<=1000:=Nat.le_trans (Pj (l:=l)) ae;refine cB1 17 Tryz.func89 hL0 ?_;refine A8 ?_;refine(Bu []) (qhW) ?_;refine Ut rfl rfl rfl (fun _=>ak) ?_;refine A1 ?_;refine(Sc [0]) (Ob l lb lN lc hlc hln) (fun z=>?_);obtain⟨ub,uN,uc,huc⟩:=z;refine(Sc [1]) (Jg T l ub uN uc huc hln hsep hE h0 h20 hz) (fun z=>?_);obtain⟨nb,nN,nc,hnc⟩:=z;refine lD ?_;refine(Sc [2]) (NF (qC l) nb nN nc hnc hnl) (fun z=>?_);obtain⟨pb,pN,pc,hpc⟩:=z;refine A6 ?_;refine bM rfl (au rfl) (au rfl) (fun w hL=>⟨⟨pb,pN,pc,hpc⟩,?_,hL.pk [some 3]⟩);exact rfl
def iC(t x y:Nat)(ht:t<256)(hx:x<256)(hy:y<256)(l:List sJ)(lb:Option Nat)(pre:List Value)(lN lc:Nat)(hlc:l.length<=lc)(h6:l.length<=6)(hs:∀s∈l,okS s):bZ Tryz.prog 40 [⟨lb,86,pre++ai kF l,lN,false⟩] [.agg #[.int .u8 (t:Nat),.int .u8 (x:Nat),.int .u8 (y:Nat),ay lb pre.length l.length lc]] (SR (jF t x y l).length) SR.v (fun z=>[⟨z.b,100,ai aB (jF t x y l),z.n,true⟩]):=by
 refine O3 133 Tryz.func40 fun w hL0=>?_;refine jd fun g0=>?_;refine nT ?_;refine(Dv ((t%16:Nat):Int)) (congrArg some (kz _ _ rfl rfl)) ?_;refine(Cv ((t%16:Nat):Int) u5 u3) sU ?_;refine A2 ?_;refine(Dv ((x%64:Nat):Int)) (congrArg some (kz _ _ rfl rfl)) ?_;refine(Cv ((x%64:Nat):Int) u5 u3) sU ?_;refine A2 ?_;refine(Dv ((y%64:Nat):Int)) (congrArg some (kz _ _ rfl rfl)) ?_;refine(Cv ((y%64:Nat):Int) u5 u3) sU ?_;refine Pc (vg (t%16:Nat) (x%64:Nat) (y%64:Nat)) ?_;refine Al 12 qhN (fun g1=>?_);refine Ss 2 ?_;refine Ew ?_;refine El (ι:={z:Nat×zL×Bool×List PU×Option Nat×Nat×Nat // z.1<=l.length∧JC z.2.1 (l.length-z.1)∧H5 t x y l=iJ (l.drop z.1) z.2.1 z.2.2.1 z.2.2.2.1∧z.2.2.2.1.length<=z.1∧z.2.2.2.1.length<=z.2.2.2.2.2.2∧z.2.2.2.2.2.2*36<=z.2.2.2.2.2.1}) (fun⟨⟨i,last,alone,o,ob,oN,oc⟩,hi,hsm,hI,ho,h3,h4⟩=>([(1,dJ g0),(3,ay ob 0 o.length oc),(4,dJ g1),(5,.bool alone),(6,bG i)],[⟨lb,86,pre++ai kF l,lN,false⟩,⟨some g0,24,[.int .u8 (t:Nat),.int .u8 (x:Nat),.int .u8 (y:Nat),ay lb pre.length l.length lc],4,true⟩,⟨some g1,137,Hz last,12,true⟩,⟨ob,100,ai aB o,oN,true⟩],l.length-i)) ⟨⟨0,st0 t x y,true,[],none,0,0⟩,Nat.zero_le _,Nb h6,rfl,Nat.le_refl _,Nat.le_refl _,bI⟩ ?_ (hL:=(aA [some 0,some 1,some 2,none] ⟨pR,pR,pR,⟨rfl,rfl,rfl⟩,trivial⟩ rfl rfl));rintro⟨⟨i,last,alone,o,ob,oN,oc⟩,hi,hsm,hI,ho,h3,h4⟩;(try dsimp only);replace hi:i<=l.length:=hi;replace hsm:JC last (l.length-i):=hsm;replace hI:H5 t x y l=iJ (l.drop i) last alone o:=hI;replace ho:o.length<=i:=ho;replace h3:o.length<=oc:=h3;replace h4:oc*36<=oN:=h4;have ht0:=hsm.t0;have ht1:=hsm.t1;refine A9 ?_;refine Rs 32 ?_ ?_<;>intro haQ
 ·have hlt:i<l.length:=iL;obtain⟨s,hx⟩:∃s,l[i]? =some s:=⟨l[i],List.getElem?_eq_getElem hlt⟩;obtain⟨hs1,hs2,hs3,hs4⟩:=hs s (List.mem_of_getElem? hx);have hsn:JC (zM last s) (l.length-(i+1)):=HY (by rw[show l.length-(i+1)+1=l.length-i by omega];exact hsm);refine A5 ?_;refine Cd ?_ ?_<;>intro hbQ
  ·refine A5 ?_;refine dL 0 rfl (lW.neP (l:=l) ax pre ae) (fun hbs=>?_);obtain⟨gl,hgl⟩:=Option.isSome_iff_exists.1 hbs;replace hgl:lb=some gl:=hgl;subst hgl;refine A4 ?_;refine ER (pre.length+i*4) u22 qmk rfl rfl rfl rfl ae ae (by show pre.length+Int.toNat _*4=_;omega) ?_;refine aG (v:=SpV s) 0 (pre.length+i*4) _ rfl rfl rfl rfl qmk (lW.subP pre hx 0 4 ax) rfl ax rfl ?_;refine Al 4 z86 (fun g2=>?_);refine Ss 4 ?_;refine A6 ?_;refine L2 2 0 ?_;refine Pc (I4 ((last.t:Rat).num)) ?_;refine A2 ?_;refine aF 48 (.int .i64 last.t) rfl (congrArg (Value.int .i64) (qjX hsm)) ?_;refine A8 ?_;refine(Aq (last.t+1)) o7 ?_;refine A2 ?_;refine(Dv ((s.time%8:Nat):Int)) (congrArg some (kz _ _ rfl rfl)) ?_;refine(Cv ((s.time%8:Nat):Int) u5 u3) sU ?_;refine(Aq (last.t+1+((s.time%8:Nat):Int))) o7 ?_;refine A2 ?_;refine(Dv ((s.x%64:Nat):Int)) (congrArg some (kz _ _ rfl rfl)) ?_;refine(Cv ((s.x%64:Nat):Int) u5 u3) sU ?_;refine A2 ?_;refine(Dv ((s.y%64:Nat):Int)) (congrArg some (kz _ _ rfl rfl)) ?_;refine(Cv ((s.y%64:Nat):Int) u5 u3) sU ?_;refine Pc (vg (last.t+1+((s.time%8:Nat):Int)) (s.x%64:Nat) (s.y%64:Nat)) ?_;refine Kr 65 (SmV (zM last s)) ?_;refine Al 12 qhN (fun g3=>?_);refine Ss 5 ?_;refine A4 ?_;refine vU 2 0 ?_;refine Al 12 qhN (fun g4=>?_);refine Ss 6 ?_;refine A2 ?_;refine lZ (nt:=133) (X:={f:zL // f=if s.kind%8=1 then swS last s else last}) (fun⟨f,hf⟩=>[(1,dJ g0),(3,ay ob 0 o.length oc),(4,dJ g1),(5,.bool alone),(6,bG i),(7,dJ g2),(10,dJ g3),(11,dJ g4)]) (fun⟨f,hf⟩=>[⟨some gl,86,pre++ai kF l,lN,false⟩,⟨some g0,24,[.int .u8 (t:Nat),.int .u8 (x:Nat),.int .u8 (y:Nat),ay (some gl) pre.length l.length lc],4,true⟩,⟨some g1,137,Hz last,12,true⟩,⟨ob,100,ai aB o,oN,true⟩,⟨some g2,86,kF s,4,true⟩,⟨some g3,137,Hz (zM last s),12,true⟩,⟨some g4,137,Hz f,12,true⟩]) ?_ ?_
   ·refine A4 ?_;refine(Dv ((s.kind%8:Nat):Int)) (congrArg some (kz _ _ rfl rfl)) ?_;refine A3 ?_;refine Cd ?_ ?_<;>intro hcQ
    ·have hk1:s.kind%8=1:=XY
     refine A3 ?_;refine(Dv ((s.y%64:Nat):Int)) (congrArg some (kz _ _ rfl rfl)) ?_;refine(Cv ((s.y%64:Nat):Int) u5 u3) sU ?_;refine A2 ?_;refine(Dv ((s.x%64:Nat):Int)) (congrArg some (kz _ _ rfl rfl)) ?_;refine(Cv ((s.x%64:Nat):Int) u5 u3) sU ?_;refine Pc (vg 0 (s.y%64:Nat) (s.x%64:Nat)) ?_;refine qh6 (v:= .agg #[.bool (decide ((((0:Int):Rat)).num<0)),.string (bP (((0:Int):Rat)).num.natAbs),.bool false,.string (dm (((0:Int):Rat))),.bool (decide (((((s.y%64:Nat):Int):Rat)).num<0)),.string (bP ((((s.y%64:Nat):Int):Rat)).num.natAbs),.bool false,.string (dm ((((s.y%64:Nat):Int):Rat))),.bool (decide (((((s.x%64:Nat):Int):Rat)).num<0)),.string (bP ((((s.x%64:Nat):Int):Rat)).num.natAbs),.bool false,.string (dm ((((s.x%64:Nat):Int):Rat)))]) (u:= .agg #[.bool (decide (((((s.y%64:Nat):Int):Rat)).num<0)),.string (bP ((((s.y%64:Nat):Int):Rat)).num.natAbs),.bool false,.string (dm ((((s.y%64:Nat):Int):Rat))),.bool (decide (((((s.x%64:Nat):Int):Rat)).num<0)),.string (bP ((((s.x%64:Nat):Int):Rat)).num.natAbs),.bool false,.string (dm ((((s.x%64:Nat):Int):Rat)))]) rfl rfl rfl (fun _=>ak) ?_;refine A1 ?_;refine Ss 6 ?_;refine A2 ?_;exact Ni ⟨swS last s,(if_pos hk1).symm⟩ [0,1,2,3,4,5,6]
    ·have hk1:s.kind%8≠1:=XZ
     refine A2 ?_;exact Ni ⟨last,(if_neg hk1).symm⟩ [0,1,2,3,4,5,6]
   rintro⟨f,hf⟩;show At _ ⟨133,[(1,dJ g0),(3,ay ob 0 o.length oc),(4,dJ g1),(5,.bool alone),(6,bG i),(7,dJ g2),(10,dJ g3),(11,dJ g4)],[⟨some gl,86,pre++ai kF l,lN,false⟩,⟨some g0,24,[.int .u8 (t:Nat),.int .u8 (x:Nat),.int .u8 (y:Nat),ay (some gl) pre.length l.length lc],4,true⟩,⟨some g1,137,Hz last,12,true⟩,⟨ob,100,ai aB o,oN,true⟩,⟨some g2,86,kF s,4,true⟩,⟨some g3,137,Hz (zM last s),12,true⟩,⟨some g4,137,Hz f,12,true⟩]⟩ _;obtain⟨hfs,hft⟩:=qnT hsm hf;refine A5 ?_;refine(Dv ((s.kind%8:Nat):Int)) (congrArg some (kz _ _ rfl rfl)) ?_;refine A3 ?_;refine Cd ?_ ?_<;>intro hcQ
   ·have hk0:s.kind%8≠0:=by have e:=hcQ;simp at e;omega
    have hk0b:decide (((s.kind%8:Nat):Int)=0)=false:=(by exact decide_eq_false ae);refine lZ (nt:=133) (X:=Nat) (fun gI=>[(1,dJ g0),(3,ay ob 0 o.length oc),(4,dJ g1),(5,.bool alone),(6,bG i),(7,dJ g2),(10,dJ g3),(11,dJ g4),(12,dJ gI)]) (fun gI=>[⟨some gl,86,pre++ai kF l,lN,false⟩,⟨some g0,24,[.int .u8 (t:Nat),.int .u8 (x:Nat),.int .u8 (y:Nat),ay (some gl) pre.length l.length lc],4,true⟩,⟨some g1,137,Hz last,12,true⟩,⟨ob,100,ai aB o,oN,true⟩,⟨some g2,86,kF s,4,true⟩,⟨some g3,137,Hz (zM last s),12,true⟩,⟨some g4,137,Hz f,12,true⟩,⟨some gI,61,aO (Eo o alone f (zM last s)).i,20,true⟩]) ?_ ?_
    ·refine Dq [3000000] [0,1,3,4,6,7,8,2,5,9,10,11,12,13,14,15] ?_;refine A1 ?_;refine L4 6 0 ?_;refine A1 ?_;refine L4 5 0 ?_;refine A3 ?_;refine Pc (kM ((f.t:Rat))) ?_;refine Pc (kM (((zM last s).t:Rat))) ?_;refine A1 ?_;refine Rs 95 ?_ ?_<;>intro hdQ
     ·have hoe:o.isEmpty=false:=by have e:=of_decide_eq_true hdQ;cases o<;>simp at e ⊢
      refine A3 ?_;refine(Bu [(0,_),(1,_),(2,_)]) (V4) ?_;refine Al 20 z61 (fun g5=>?_);refine Ss 7 ?_;refine A2 ?_;exact iZ g5 ⟨rfl,rfl,rfl,rfl,rfl,rfl,rfl,rfl,rfl,trivial⟩ (aA [some 0,some 1,some 2,some 3,some 4,some 5,some 6,some 7] ⟨pR,pR,pR,pR,pR,pR,pR,⟨_,rfl,bn (by rw[qjY hoe];rfl)⟩,trivial⟩ rfl rfl)
     ·have hoe:o.isEmpty=true:=by have e:=of_decide_eq_false hdQ;cases o<;>simp at e ⊢
      refine A3 ?_;refine(Bu [(0,_),(1,_),(2,_)]) (V4) ?_;refine Al 20 z61 (fun g5=>?_);refine Ss 7 ?_;refine A2 ?_;exact iZ g5 ⟨rfl,rfl,rfl,rfl,rfl,rfl,rfl,rfl,rfl,trivial⟩ (aA [some 0,some 1,some 2,some 3,some 4,some 5,some 6,some 7] ⟨pR,pR,pR,pR,pR,pR,pR,⟨_,rfl,bn (by rw[qjZ hoe];rfl)⟩,trivial⟩ rfl rfl)
    rintro gI;show At _ ⟨133,[(1,dJ g0),(3,ay ob 0 o.length oc),(4,dJ g1),(5,.bool alone),(6,bG i),(7,dJ g2),(10,dJ g3),(11,dJ g4),(12,dJ gI)],[⟨some gl,86,pre++ai kF l,lN,false⟩,⟨some g0,24,[.int .u8 (t:Nat),.int .u8 (x:Nat),.int .u8 (y:Nat),ay (some gl) pre.length l.length lc],4,true⟩,⟨some g1,137,Hz last,12,true⟩,⟨ob,100,ai aB o,oN,true⟩,⟨some g2,86,kF s,4,true⟩,⟨some g3,137,Hz (zM last s),12,true⟩,⟨some g4,137,Hz f,12,true⟩,⟨some gI,61,aO (Eo o alone f (zM last s)).i,20,true⟩]⟩ _;refine qK (l':=[⟨_,_,_,_,_,_⟩,⟨_,_,_,_,_,_⟩,⟨_,_,_,_,_,_⟩]) [2000000] [1,2,3] [0,4,5,6,7,8] mixed ak rfl ?_;refine yz 7 0 ?_;refine vU 6 0 ?_;refine vU 5 0 ?_;refine A1 ?_;refine bU [0,4] ak ⟨⟨_,rfl,?_⟩,⟨_,rfl,?_⟩,trivial⟩
    ·refine A2 ?_;refine bU [4] ak ⟨⟨_,rfl,?_⟩,trivial⟩
     ·refine Pc (zA (f.t:Rat) (f.x:Rat) (f.y:Rat) ((zM last s).t:Rat) ((zM last s).x:Rat) ((zM last s).y:Rat) (qai hft) (Nat.le_trans hfs.t ae) (Nat.le_trans hfs.x ae) (Nat.le_trans hfs.y ae) (Nat.le_trans hsn.t ae) (Nat.le_trans hsn.x ae) (Nat.le_trans hsn.y ae)) ?_;refine A1 ?_;exact qlL
    ·refine Pc (zA (f.t:Rat) (f.x:Rat) (f.y:Rat) ((zM last s).t:Rat) ((zM last s).x:Rat) ((zM last s).y:Rat) (qai hft) (Nat.le_trans hfs.t ae) (Nat.le_trans hfs.x ae) (Nat.le_trans hfs.y ae) (Nat.le_trans hsn.t ae) (Nat.le_trans hsn.x ae) (Nat.le_trans hsn.y ae)) ?_;refine A1 ?_;refine bU [0,5] ak ⟨⟨_,rfl,?_⟩,⟨_,rfl,?_⟩,trivial⟩
     ·refine A2 ?_;exact qlL
     ·refine(Bu [(0,_),(1,_)]) (wB) ?_;refine A1 ?_;refine bU [0,6] ak ⟨⟨_,rfl,?_⟩,⟨_,rfl,?_⟩,trivial⟩
      ·refine A2 ?_;exact qlJ
      ·refine(Bl 36 [(0,_)]) (DW) (fun g5=>?_);refine A1 ?_;refine bU [0] ak ⟨⟨_,rfl,?_⟩,trivial⟩
       ·refine A2 ?_;exact qqm
   ·have hk0:s.kind%8=0:=by have e:=hcQ;simp at e;omega
    have hk0b:decide (((s.kind%8:Nat):Int)=0)=true:=(by exact decide_eq_true ae);refine A6 ?_;refine(Dv ((s.kind%8:Nat):Int)) (congrArg some (kz _ _ rfl rfl)) ?_;refine A5 ?_;refine vU 5 0 ?_;refine Ss 2 ?_;refine A5 ?_;refine dP ?_;exact Nl ⟨⟨i+1,zM last s,true,o,ob,oN,oc⟩,hlt,hsn,by rw[hI];exact qgv hx hk0,Nat.le_succ_of_le ho,h3,h4⟩ (hμ:=nM) (ht:=⟨rfl,rfl,rfl,(aU rfl (congrArg Value.bool hk0b)),rfl,trivial⟩) (hL:=dR.auto)
  ·exact absurd (of_decide_eq_false hbQ) ae
 ·have hge:i=l.length:=jc;subst hge;refine QI ?_;refine Cd ?_ ?_<;>intro hbQ
  ·have hal:alone=true:=hbQ;have hr:H5 t x y l=o++[xE last]:=by rw[hI,qae,hal];rfl
   have hT:jF t x y l=qC (o++[xE last]):=(by rw[yw h6,hr]);have hq1:pV gG (o++[xE last]):=hr▸Nc;have hq2:Go.Via.Ends (SmE 2) (o++[xE last]):=hr▸H6 h6;have hq3:=Nh (t:=t) (x:=x) (y:=y) h6;rw[hr] at hq3;have hq4:∀u∈(o++[xE last]),jH u.i<=1000∧jP u.f<=1000:=hr▸qah h6;refine A3 ?_;refine L4 2 0 ?_;refine Pc (kM ((last.t:Rat))) ?_;refine Al 9 Jq (fun g2=>?_);refine Ss 4 ?_;refine A2 ?_;refine qK (l':=[⟨_,_,_,_,_,_⟩,⟨_,_,_,_,_,_⟩,⟨_,_,_,_,_,_⟩,⟨_,_,_,_,_,_⟩,⟨_,_,_,_,_,_⟩]) [2000000] [1,2,3,4,5] [0,6,7,8,9,10] mixed ak rfl ?_;refine L9 4 0 ?_;refine L9 4 0 ?_;refine(Bu [(0,_),(1,_)]) (Ku) ?_;refine A1 ?_;refine L8 2 4 ?_;refine A1 ?_;refine bU [0,6] ak ⟨⟨_,rfl,?_⟩,⟨_,rfl,?_⟩,trivial⟩
   ·refine A2 ?_;refine bU [6] ak ⟨⟨_,rfl,?_⟩,trivial⟩
    ·refine Pc (Dw (last.x:Rat) (last.y:Rat)) ?_;refine A1 ?_;exact qlM
   ·refine Pc (Dw (last.x:Rat) (last.y:Rat)) ?_;refine A1 ?_;refine bU [0,7] ak ⟨⟨_,rfl,?_⟩,⟨_,rfl,?_⟩,trivial⟩
    ·refine A2 ?_;exact qlM
    ·refine(Bu [(0,_),(1,_)]) (wB) ?_;refine A1 ?_;refine bU [0,8] ak ⟨⟨_,rfl,?_⟩,⟨_,rfl,?_⟩,trivial⟩
     ·refine A2 ?_;exact qlK
     ·refine(Bl 36 [(0,_)]) (DW) (fun g3=>?_);refine A1 ?_;refine bU [0] ak ⟨⟨_,rfl,?_⟩,trivial⟩
      ·refine A2 ?_;exact qlI
  ·have hal:alone=false:=hbQ;have hr:H5 t x y l=o:=by rw[hI,qae,hal];rfl
   have hT:jF t x y l=qC (o):=(by rw[yw h6,hr]);have hq1:pV gG (o):=hr▸Nc;have hq2:Go.Via.Ends (SmE 2) (o):=hr▸H6 h6;have hq3:=Nh (t:=t) (x:=x) (y:=y) h6;rw[hr] at hq3;have hq4:∀u∈(o),jH u.i<=1000∧jP u.f<=1000:=hr▸qah h6;refine A5 ?_;refine(Sc [3]) (BG (qfP 2) o ob oN oc h3 ae hq1 hq2 hq3.1 ae hq4) (fun z=>?_);obtain⟨nb,nN,nc,hnc⟩:=z;refine Gw ?_;refine aK rfl (au rfl) (fun w hL=>⟨⟨nb,nN,nc,by rw[hT];exact hnc⟩,?_,hL.picks [some 4] ⟨⟨_,rfl,bn qg4⟩,trivial⟩ rfl rfl⟩);show Ending.returned (ay nb 0 _ nc)=Ending.returned (ay nb 0 (jF t x y l).length nc);rw[hT]
end Go.Proofs.YtaffcpfhedadhaaGreatDoor
