/-
  Part 44 (chapter 32): lemmas, walks. Each theorem states its own conditions.
-/
import Derived.Shelf.SlSortCmp.WholeK
import Derived.Shelf.SlSortCmp.NoneTotal
import Derived.Lib.Repeat
import Derived.Sort.Grow
import Derived.Sort.EncStr
import Derived.Lib.SliceRun
import Derived.Test.YtaffcpfhedadhaaGreatDoorA39
import Derived.Test.YtaffcpfhedadhaaGreatDoorA43
set_option linter.all false
set_option maxRecDepth 20000
set_option maxHeartbeats 20000000
section
variable{P Q:Prop}{T:Type}{R:T->Prop}
def qqR(h:P:=by
 refine bW [7] ak ⟨⟨_,rfl,?_⟩,trivial⟩
 ·exact qqS):=h
def qmd(h:P:=by
 refine bW [9] ak ⟨⟨_,rfl,?_⟩,trivial⟩
 ·exact qqT):=h
def qqS(h:P:=by
 refine(Qa (s:=36) (len:=o.length) (n2:=1) 3 8 (fun r=>[_,_,_,⟨some r.g,100,aj aP o++aP (EH o alone f (zX last s)),r.n,true⟩,_,_,_,_,_]) u29 Zn) (aY.length o) h3 h4 (aY.one (EH o alone f (zX last s))) (fun r=>?_);refine A1 ?_;refine bW [8] ak ⟨⟨_,rfl,?_⟩,trivial⟩
 ·refine A2 ?_;refine Hf rfl ?_;refine A5 ?_;refine(Dv ((s.kind%8:Nat):Int)) (congrArg some (jg _ _ rfl rfl)) ?_;refine A5 ?_;refine vZ 5 0 ?_;refine Ss 2 ?_;refine A5 ?_;refine dP ?_;exact Nl ⟨⟨i+1,zX last s,false,o++[EH o alone f (zX last s)],some r.g,r.n,r.cap⟩,hlt,hsn,by rw[hI];exact qqv hx hk0 hf,qhs,jB,r.hn⟩ (hμ:=nD) (ht:=⟨rfl,(aQ rfl jO),rfl,(aQ rfl (congrArg Value.bool hk0b)),rfl,trivial⟩) (hL:=(az [some 0,some 1,some 2,some 3] ⟨pR,pR,pR,⟨_,rfl,bg kz⟩,trivial⟩ rfl rfl))):=h
def qqT(h:P:=by
 refine(Qa (s:=36) (len:=o.length) (n2:=1) 3 5 (fun r=>[_,_,_,⟨some r.g,100,aj aP o++aP (xY last),r.n,true⟩,_,_]) u29 Zn) (aY.length o) h3 h4 (aY.one (xY last)) (fun r=>?_);refine A1 ?_;refine bW [10] ak ⟨⟨_,rfl,?_⟩,trivial⟩
 ·refine A2 ?_;refine Hf rfl ?_;refine A4 ?_;refine jG [_] [3] rfl rfl (by show _=[some _];rw[List.length_append];rfl) (BP (qgl 2) (o++[xY last]) (some r.g) r.n r.cap jB ae hq1 hq2 hq3.1 ae hq4) ⟨⟨_,rfl,by rw[<-qY];exact su⟩,trivial⟩ rfl (.inr fun x b hb=>zq) (fun z=>?_);obtain⟨nb,nN,nc,hnc⟩:=z;refine FN ?_;refine aO rfl (au rfl) (fun w hL=>⟨⟨nb,nN,nc,by rw[hT];exact hnc⟩,?_,hL.picks [some 6] ⟨⟨_,rfl,bg qhu⟩,trivial⟩ rfl rfl⟩);show Ending.returned (aA nb 0 _ nc)=Ending.returned (aA nb 0 (jA t x y l).length nc);rw[hT]):=h
def qme(h:P:=by
 refine bW [6] ak ⟨⟨_,rfl,?_⟩,trivial⟩
 ·refine(Bl 36 [(0,_)]) (D9) (fun g5=>?_);refine A1 ?_;exact qqR):=h
def qmf(h:P:=by
 refine bW [8] ak ⟨⟨_,rfl,?_⟩,trivial⟩
 ·refine(Bl 36 [(0,_)]) (D9) (fun g3=>?_);refine A1 ?_;exact qmd):=h
def qmg(h:P:=by
 refine bW [5] ak ⟨⟨_,rfl,?_⟩,trivial⟩
 ·refine(Bu [(0,_),(1,_)]) (wH) ?_;refine A1 ?_;exact qme):=h
def qmh(h:P:=by
 refine bW [7] ak ⟨⟨_,rfl,?_⟩,trivial⟩
 ·refine(Bu [(0,_),(1,_)]) (wH) ?_;refine A1 ?_;exact qmf):=h
def qhu(h:P:=by rw[show aj aP (jA t x y l)=_ from congrArg _ hT]):=h
end
namespace Go.Proofs.YtaffcpfhedadhaaGreatDoor
open Go Go.RowKit Go.Via
def Ob(l:List PU)(lb:Option Nat)(lN lc:Nat)(hlc:l.length<=lc:=by omega)(hln:l.length<=1000:=by omega):cZ Tryz.prog 137 [⟨lb,201,aj aP l,lN,false⟩] [aA lb 0 l.length lc] (SR (l).length) SR.v (fun z=>[⟨z.b,100,aj aP (l),z.n,true⟩]):=by
 refine PR 26 Tryz.func137 fun w hL0=>?_;refine Ri ?_;refine El (ι:={z:Nat×List PU×Option Nat×Nat×Nat // z.1<=l.length∧z.2.1=l.take z.1∧z.2.1.length<=z.2.2.2.2∧z.2.2.2.2*36<=z.2.2.2.1}) (fun⟨⟨i,o,ob,oN,oc⟩,hi,hI,h3,h4⟩=>([(0,aA lb 0 l.length lc),(3,aA ob 0 o.length oc),(4,bH i)],[⟨lb,201,aj aP l,lN,false⟩,⟨ob,100,aj aP o,oN,true⟩],l.length-i)) ⟨⟨0,[],none,0,0⟩,Nat.zero_le _,rfl,Nat.le_refl _,bz⟩ ?_ (hL:=(az [some 0,none] ⟨pR,⟨rfl,rfl,rfl⟩,trivial⟩ rfl rfl));rintro⟨⟨i,o,ob,oN,oc⟩,hi,hI,h3,h4⟩;(try dsimp only);replace hi:i<=l.length:=hi;replace hI:o=l.take i:=hI;replace h3:o.length<=oc:=h3;replace h4:oc*36<=oN:=h4
 have hol:o.length<=100000:=(by rw[hI,List.length_take];omega);refine A9 ?_;refine Cd ?_ ?_<;>intro haQ
 ·have hlt:i<l.length:=iH;obtain⟨x,hx⟩:∃x,l[i]? =some x:=⟨l[i],List.getElem?_eq_getElem hlt⟩;refine dQ 0 rfl (aY.ne ax ae) (fun hbs=>?_);obtain⟨gl,hgl⟩:=Option.isSome_iff_exists.1 hbs;replace hgl:lb=some gl:=hgl;subst hgl;refine A4 ?_;refine qU (l':=[⟨_,_,_,_,_,_⟩,⟨_,_,_,_,_,_⟩,⟨_,_,_,_,_,_⟩,⟨_,_,_,_,_,_⟩,⟨_,_,_,_,_,_⟩,⟨_,_,_,_,_,_⟩,⟨_,_,_,_,_,_⟩,⟨_,_,_,_,_,_⟩,⟨_,_,_,_,_,_⟩,⟨_,_,_,_,_,_⟩,⟨_,_,_,_,_,_⟩]) [2000000] [1,2,3,4,5,6,7,8,9,10,11] [0,12,13,14] mixed ak rfl ?_;refine A2 ?_;refine Nu ?_;refine Fg ((i)*36) 0 ?_;refine bu (v:=nJ x.i) 0 ((i)*36) _ rfl rfl rfl rfl pz (aY.sub hx 0 20 ax) rfl ax rfl ?_;refine A2 ?_;refine Nu ?_;refine Nv ?_;refine(Bu [(0,_),(1,_)]) (wH) ?_;refine A1 ?_;refine bW [0,12] ak ⟨⟨_,rfl,?_⟩,⟨_,rfl,?_⟩,trivial⟩
  ·refine A2 ?_;refine bW [12] ak ⟨⟨_,rfl,?_⟩,trivial⟩
   ·refine(Bl 36 [(0,_)]) (D9) (fun g0=>?_);refine A1 ?_;refine bW [13] ak ⟨⟨_,rfl,?_⟩,trivial⟩
    ·refine(Qa (s:=36) (len:=o.length) (n2:=1) 1 2 (fun r=>[_,⟨some r.g,100,aj aP o++aP (x),r.n,true⟩,_]) u29 Zn) (aY.length o) h3 h4 (aY.one (x)) (fun r=>?_);exact qay
  ·refine(Bl 36 [(0,_)]) (D9) (fun g0=>?_);refine A1 ?_;refine bW [0] ak ⟨⟨_,rfl,?_⟩,trivial⟩
   ·refine A2 ?_;refine bW [13] ak ⟨⟨_,rfl,?_⟩,trivial⟩
    ·refine(Qa (s:=36) (len:=o.length) (n2:=1) 1 2 (fun r=>[_,⟨some r.g,100,aj aP o++aP (x),r.n,true⟩,_]) u29 Zn) (aY.length o) h3 h4 (aY.one (x)) (fun r=>?_);exact qay
 ·have hge:i=l.length:=iK;subst hge;obtain rfl:o=l:=Bv
  exact VU
def BP{S:Rl->Prop}{ρ:Rl->Int}(T:dZ S ρ)(l:List PU)(lb:Option Nat)(lN lc:Nat)(hlc:l.length<=lc)(hln:l.length<=1000)(hsep:ou ρ l)(hE:Go.Via.Ends S l)(h0:0<l.length)(h20:l.length<20)(hz:∀u∈l,jM u.i<=1000∧jP u.f<=1000):cZ Tryz.prog 89 [⟨lb,100,aj aP l,lN,false⟩] [aA lb 0 l.length lc] (SR (qJ l).length) (fun z=> .tuple #[z.v,.int .i64 0]) (fun z=>[⟨z.b,100,aj aP (qJ l),z.n,true⟩]):=by
 refine⟨ak,fun w hL0=>?_⟩;have hnl:(qJ l).length<=1000:=Nat.le_trans (P5 (l:=l)) ae;refine cB1 17 Tryz.func89 hL0 ?_;refine A8 ?_;refine(Bu []) (qip) ?_;refine UW rfl rfl rfl (fun _=>ak) ?_;refine A1 ?_;refine(Sc [0]) (OJ l lb lN lc hlc hln) (fun z=>?_);obtain⟨ub,uN,uc,huc⟩:=z;refine(Sc [1]) (JC T l ub uN uc huc hln hsep hE h0 h20 hz) (fun z=>?_);obtain⟨nb,nN,nc,hnc⟩:=z;refine lW ?_;refine(Sc [2]) (Ob (qJ l) nb nN nc hnc hnl) (fun z=>?_);obtain⟨pb,pN,pc,hpc⟩:=z;refine A6 ?_;refine bM rfl (au rfl) (au rfl) (fun w hL=>⟨⟨pb,pN,pc,hpc⟩,?_,hL.pk [some 3]⟩);exact rfl
def iq(t x y:Nat)(ht:t<256)(hx:x<256)(hy:y<256)(l:List sW)(lb:Option Nat)(pre:List Value)(lN lc:Nat)(hlc:l.length<=lc)(h6:l.length<=6)(hs:∀s∈l,okS s):cZ Tryz.prog 40 [⟨lb,86,pre++aj kE l,lN,false⟩] [.agg #[.int .u8 (t:Nat),.int .u8 (x:Nat),.int .u8 (y:Nat),aA lb pre.length l.length lc]] (SR (jA t x y l).length) SR.v (fun z=>[⟨z.b,100,aj aP (jA t x y l),z.n,true⟩]):=by
 refine PR 133 Tryz.func40 fun w hL0=>?_;refine jl fun g0=>?_;refine nI ?_;refine(Dv ((t%16:Nat):Int)) (congrArg some (jg _ _ rfl rfl)) ?_;refine(Cv ((t%16:Nat):Int) u5 u3) oh ?_;refine A2 ?_;refine(Dv ((x%64:Nat):Int)) (congrArg some (jg _ _ rfl rfl)) ?_;refine(Cv ((x%64:Nat):Int) u5 u3) oh ?_;refine A2 ?_;refine(Dv ((y%64:Nat):Int)) (congrArg some (jg _ _ rfl rfl)) ?_;refine(Cv ((y%64:Nat):Int) u5 u3) oh ?_;refine Pc (vF (t%16:Nat) (x%64:Nat) (y%64:Nat)) ?_;refine Al 12 qig (fun g1=>?_);refine Ss 2 ?_;refine EK ?_;refine El (ι:={z:Nat×zV×Bool×List PU×Option Nat×Nat×Nat // z.1<=l.length∧J4 z.2.1 (l.length-z.1)∧Iq t x y l=iI (l.drop z.1) z.2.1 z.2.2.1 z.2.2.2.1∧z.2.2.2.1.length<=z.1∧z.2.2.2.1.length<=z.2.2.2.2.2.2∧z.2.2.2.2.2.2*36<=z.2.2.2.2.2.1}) (fun⟨⟨i,last,alone,o,ob,oN,oc⟩,hi,hsm,hI,ho,h3,h4⟩=>([(1,bf g0),(3,aA ob 0 o.length oc),(4,bf g1),(5,.bool alone),(6,bH i)],[⟨lb,86,pre++aj kE l,lN,false⟩,⟨some g0,24,[.int .u8 (t:Nat),.int .u8 (x:Nat),.int .u8 (y:Nat),aA lb pre.length l.length lc],4,true⟩,⟨some g1,137,Io last,12,true⟩,⟨ob,100,aj aP o,oN,true⟩],l.length-i)) ⟨⟨0,st0 t x y,true,[],none,0,0⟩,Nat.zero_le _,NP h6,rfl,Nat.le_refl _,Nat.le_refl _,bz⟩ ?_ (hL:=(az [some 0,some 1,some 2,none] ⟨pR,pR,pR,⟨rfl,rfl,rfl⟩,trivial⟩ rfl rfl));rintro⟨⟨i,last,alone,o,ob,oN,oc⟩,hi,hsm,hI,ho,h3,h4⟩;(try dsimp only);replace hi:i<=l.length:=hi;replace hsm:J4 last (l.length-i):=hsm;replace hI:Iq t x y l=iI (l.drop i) last alone o:=hI;replace ho:o.length<=i:=ho;replace h3:o.length<=oc:=h3;replace h4:oc*36<=oN:=h4;have ht0:=hsm.t0;have ht1:=hsm.t1;refine A9 ?_;refine Rs 32 ?_ ?_<;>intro haQ
 ·have hlt:i<l.length:=iH;obtain⟨s,hx⟩:∃s,l[i]? =some s:=⟨l[i],List.getElem?_eq_getElem hlt⟩;obtain⟨hs1,hs2,hs3,hs4⟩:=hs s (List.mem_of_getElem? hx);have hsn:J4 (zX last s) (l.length-(i+1)):=Ip (by rw[show l.length-(i+1)+1=l.length-i by omega];exact hsm);refine A5 ?_;refine Cd ?_ ?_<;>intro hbQ
  ·refine A5 ?_;refine dQ 0 rfl (lT.neP (l:=l) ax pre ae) (fun hbs=>?_);obtain⟨gl,hgl⟩:=Option.isSome_iff_exists.1 hbs;replace hgl:lb=some gl:=hgl;subst hgl;refine A4 ?_;refine Fe (pre.length+i*4) u22 qmP rfl rfl rfl rfl ae ae (by show pre.length+Int.toNat _*4=_;omega) ?_;refine bu (v:=SpV s) 0 (pre.length+i*4) _ rfl rfl rfl rfl qmP (lT.subP pre hx 0 4 ax) rfl ax rfl ?_;refine Al 4 z86 (fun g2=>?_);refine Ss 4 ?_;refine A6 ?_;refine L2 2 0 ?_;refine Pc (Jp ((last.t:Rat).num)) ?_;refine A2 ?_;refine aS 48 (.int .i64 last.t) rfl (congrArg (Value.int .i64) (qkv hsm)) ?_;refine A8 ?_;refine(Aq (last.t+1)) oO ?_;refine A2 ?_;refine(Dv ((s.time%8:Nat):Int)) (congrArg some (jg _ _ rfl rfl)) ?_;refine(Cv ((s.time%8:Nat):Int) u5 u3) oh ?_;refine(Aq (last.t+1+((s.time%8:Nat):Int))) oO ?_;refine A2 ?_;refine(Dv ((s.x%64:Nat):Int)) (congrArg some (jg _ _ rfl rfl)) ?_;refine(Cv ((s.x%64:Nat):Int) u5 u3) oh ?_;refine A2 ?_;refine(Dv ((s.y%64:Nat):Int)) (congrArg some (jg _ _ rfl rfl)) ?_;refine(Cv ((s.y%64:Nat):Int) u5 u3) oh ?_;refine Pc (vF (last.t+1+((s.time%8:Nat):Int)) (s.x%64:Nat) (s.y%64:Nat)) ?_;refine Kr 65 (SmV (zX last s)) ?_;refine Al 12 qig (fun g3=>?_);refine Ss 5 ?_;refine A4 ?_;refine vZ 2 0 ?_;refine Al 12 qig (fun g4=>?_);refine Ss 6 ?_;refine A2 ?_;refine rE (nt:=133) (X:={f:zV // f=if s.kind%8=1 then swS last s else last}) (fun⟨f,hf⟩=>[(1,bf g0),(3,aA ob 0 o.length oc),(4,bf g1),(5,.bool alone),(6,bH i),(7,bf g2),(10,bf g3),(11,bf g4)]) (fun⟨f,hf⟩=>[⟨some gl,86,pre++aj kE l,lN,false⟩,⟨some g0,24,[.int .u8 (t:Nat),.int .u8 (x:Nat),.int .u8 (y:Nat),aA (some gl) pre.length l.length lc],4,true⟩,⟨some g1,137,Io last,12,true⟩,⟨ob,100,aj aP o,oN,true⟩,⟨some g2,86,kE s,4,true⟩,⟨some g3,137,Io (zX last s),12,true⟩,⟨some g4,137,Io f,12,true⟩]) ?_ ?_
   ·refine A4 ?_;refine(Dv ((s.kind%8:Nat):Int)) (congrArg some (jg _ _ rfl rfl)) ?_;refine A3 ?_;refine Cd ?_ ?_<;>intro hcQ
    ·have hk1:s.kind%8=1:=YB
     refine A3 ?_;refine(Dv ((s.y%64:Nat):Int)) (congrArg some (jg _ _ rfl rfl)) ?_;refine(Cv ((s.y%64:Nat):Int) u5 u3) oh ?_;refine A2 ?_;refine(Dv ((s.x%64:Nat):Int)) (congrArg some (jg _ _ rfl rfl)) ?_;refine(Cv ((s.x%64:Nat):Int) u5 u3) oh ?_;refine Pc (vF 0 (s.y%64:Nat) (s.x%64:Nat)) ?_;refine qiz (v:= .agg #[.bool (decide ((((0:Int):Rat)).num<0)),.string (bQ (((0:Int):Rat)).num.natAbs),.bool false,.string (dm (((0:Int):Rat))),.bool (decide (((((s.y%64:Nat):Int):Rat)).num<0)),.string (bQ ((((s.y%64:Nat):Int):Rat)).num.natAbs),.bool false,.string (dm ((((s.y%64:Nat):Int):Rat))),.bool (decide (((((s.x%64:Nat):Int):Rat)).num<0)),.string (bQ ((((s.x%64:Nat):Int):Rat)).num.natAbs),.bool false,.string (dm ((((s.x%64:Nat):Int):Rat)))]) (u:= .agg #[.bool (decide (((((s.y%64:Nat):Int):Rat)).num<0)),.string (bQ ((((s.y%64:Nat):Int):Rat)).num.natAbs),.bool false,.string (dm ((((s.y%64:Nat):Int):Rat))),.bool (decide (((((s.x%64:Nat):Int):Rat)).num<0)),.string (bQ ((((s.x%64:Nat):Int):Rat)).num.natAbs),.bool false,.string (dm ((((s.x%64:Nat):Int):Rat)))]) rfl rfl rfl (fun _=>ak) ?_;refine A1 ?_;refine Ss 6 ?_;refine A2 ?_;exact Ni ⟨swS last s,(if_pos hk1).symm⟩ [0,1,2,3,4,5,6]
    ·have hk1:s.kind%8≠1:=YC
     refine A2 ?_;exact Ni ⟨last,(if_neg hk1).symm⟩ [0,1,2,3,4,5,6]
   rintro⟨f,hf⟩;show At _ ⟨133,[(1,bf g0),(3,aA ob 0 o.length oc),(4,bf g1),(5,.bool alone),(6,bH i),(7,bf g2),(10,bf g3),(11,bf g4)],[⟨some gl,86,pre++aj kE l,lN,false⟩,⟨some g0,24,[.int .u8 (t:Nat),.int .u8 (x:Nat),.int .u8 (y:Nat),aA (some gl) pre.length l.length lc],4,true⟩,⟨some g1,137,Io last,12,true⟩,⟨ob,100,aj aP o,oN,true⟩,⟨some g2,86,kE s,4,true⟩,⟨some g3,137,Io (zX last s),12,true⟩,⟨some g4,137,Io f,12,true⟩]⟩ _;obtain⟨hfs,hft⟩:=qox hsm hf;refine A5 ?_;refine(Dv ((s.kind%8:Nat):Int)) (congrArg some (jg _ _ rfl rfl)) ?_;refine A3 ?_;refine Cd ?_ ?_<;>intro hcQ
   ·have hk0:s.kind%8≠0:=by have e:=hcQ;simp at e;omega
    have hk0b:decide (((s.kind%8:Nat):Int)=0)=false:=(by exact decide_eq_false ae);refine rE (nt:=133) (X:=Nat) (fun gI=>[(1,bf g0),(3,aA ob 0 o.length oc),(4,bf g1),(5,.bool alone),(6,bH i),(7,bf g2),(10,bf g3),(11,bf g4),(12,bf gI)]) (fun gI=>[⟨some gl,86,pre++aj kE l,lN,false⟩,⟨some g0,24,[.int .u8 (t:Nat),.int .u8 (x:Nat),.int .u8 (y:Nat),aA (some gl) pre.length l.length lc],4,true⟩,⟨some g1,137,Io last,12,true⟩,⟨ob,100,aj aP o,oN,true⟩,⟨some g2,86,kE s,4,true⟩,⟨some g3,137,Io (zX last s),12,true⟩,⟨some g4,137,Io f,12,true⟩,⟨some gI,61,bT (EH o alone f (zX last s)).i,20,true⟩]) ?_ ?_
    ·refine Dq [3000000] [0,1,3,4,6,7,8,2,5,9,10,11,12,13,14,15] ?_;refine A1 ?_;refine L4 6 0 ?_;refine A1 ?_;refine L4 5 0 ?_;refine A3 ?_;refine Pc (kM ((f.t:Rat))) ?_;refine Pc (kM (((zX last s).t:Rat))) ?_;refine A1 ?_;refine Rs 95 ?_ ?_<;>intro hdQ
     ·have hoe:o.isEmpty=false:=by have e:=of_decide_eq_true hdQ;cases o<;>simp at e ⊢
      refine A3 ?_;refine(Bu [(0,_),(1,_),(2,_)]) (WU) ?_;refine Al 20 z61 (fun g5=>?_);refine Ss 7 ?_;refine A2 ?_;exact FO g5 ⟨rfl,rfl,rfl,rfl,rfl,rfl,rfl,rfl,rfl,trivial⟩ (az [some 0,some 1,some 2,some 3,some 4,some 5,some 6,some 7] ⟨pR,pR,pR,pR,pR,pR,pR,⟨_,rfl,bg (by rw[qkw hoe];rfl)⟩,trivial⟩ rfl rfl)
     ·have hoe:o.isEmpty=true:=by have e:=of_decide_eq_false hdQ;cases o<;>simp at e ⊢
      refine A3 ?_;refine(Bu [(0,_),(1,_),(2,_)]) (WU) ?_;refine Al 20 z61 (fun g5=>?_);refine Ss 7 ?_;refine A2 ?_;exact FO g5 ⟨rfl,rfl,rfl,rfl,rfl,rfl,rfl,rfl,rfl,trivial⟩ (az [some 0,some 1,some 2,some 3,some 4,some 5,some 6,some 7] ⟨pR,pR,pR,pR,pR,pR,pR,⟨_,rfl,bg (by rw[qkx hoe];rfl)⟩,trivial⟩ rfl rfl)
    rintro gI;show At _ ⟨133,[(1,bf g0),(3,aA ob 0 o.length oc),(4,bf g1),(5,.bool alone),(6,bH i),(7,bf g2),(10,bf g3),(11,bf g4),(12,bf gI)],[⟨some gl,86,pre++aj kE l,lN,false⟩,⟨some g0,24,[.int .u8 (t:Nat),.int .u8 (x:Nat),.int .u8 (y:Nat),aA (some gl) pre.length l.length lc],4,true⟩,⟨some g1,137,Io last,12,true⟩,⟨ob,100,aj aP o,oN,true⟩,⟨some g2,86,kE s,4,true⟩,⟨some g3,137,Io (zX last s),12,true⟩,⟨some g4,137,Io f,12,true⟩,⟨some gI,61,bT (EH o alone f (zX last s)).i,20,true⟩]⟩ _;refine qU (l':=[⟨_,_,_,_,_,_⟩,⟨_,_,_,_,_,_⟩,⟨_,_,_,_,_,_⟩]) [2000000] [1,2,3] [0,4,5,6,7,8] mixed ak rfl ?_;refine yK 7 0 ?_;refine vZ 6 0 ?_;refine vZ 5 0 ?_;refine A1 ?_;refine bW [0,4] ak ⟨⟨_,rfl,?_⟩,⟨_,rfl,?_⟩,trivial⟩
    ·refine A2 ?_;refine bW [4] ak ⟨⟨_,rfl,?_⟩,trivial⟩
     ·refine Pc (zL (f.t:Rat) (f.x:Rat) (f.y:Rat) ((zX last s).t:Rat) ((zX last s).x:Rat) ((zX last s).y:Rat) (qaS hft) (Nat.le_trans hfs.t ae) (Nat.le_trans hfs.x ae) (Nat.le_trans hfs.y ae) (Nat.le_trans hsn.t ae) (Nat.le_trans hsn.x ae) (Nat.le_trans hsn.y ae)) ?_;refine A1 ?_;exact qmg
    ·refine Pc (zL (f.t:Rat) (f.x:Rat) (f.y:Rat) ((zX last s).t:Rat) ((zX last s).x:Rat) ((zX last s).y:Rat) (qaS hft) (Nat.le_trans hfs.t ae) (Nat.le_trans hfs.x ae) (Nat.le_trans hfs.y ae) (Nat.le_trans hsn.t ae) (Nat.le_trans hsn.x ae) (Nat.le_trans hsn.y ae)) ?_;refine A1 ?_;refine bW [0,5] ak ⟨⟨_,rfl,?_⟩,⟨_,rfl,?_⟩,trivial⟩
     ·refine A2 ?_;exact qmg
     ·refine(Bu [(0,_),(1,_)]) (wH) ?_;refine A1 ?_;refine bW [0,6] ak ⟨⟨_,rfl,?_⟩,⟨_,rfl,?_⟩,trivial⟩
      ·refine A2 ?_;exact qme
      ·refine(Bl 36 [(0,_)]) (D9) (fun g5=>?_);refine A1 ?_;refine bW [0] ak ⟨⟨_,rfl,?_⟩,trivial⟩
       ·refine A2 ?_;exact qqR
   ·have hk0:s.kind%8=0:=by have e:=hcQ;simp at e;omega
    have hk0b:decide (((s.kind%8:Nat):Int)=0)=true:=(by exact decide_eq_true ae);refine A6 ?_;refine(Dv ((s.kind%8:Nat):Int)) (congrArg some (jg _ _ rfl rfl)) ?_;refine A5 ?_;refine vZ 5 0 ?_;refine Ss 2 ?_;refine A5 ?_;refine dP ?_;exact Nl ⟨⟨i+1,zX last s,true,o,ob,oN,oc⟩,hlt,hsn,by rw[hI];exact qg6 hx hk0,Nat.le_succ_of_le ho,h3,h4⟩ (hμ:=nD) (ht:=⟨rfl,rfl,rfl,(aQ rfl (congrArg Value.bool hk0b)),rfl,trivial⟩) (hL:=fF.auto)
  ·exact absurd (of_decide_eq_false hbQ) ae
 ·have hge:i=l.length:=iK;subst hge;refine Ri ?_;refine Cd ?_ ?_<;>intro hbQ
  ·have hal:alone=true:=hbQ;have hr:Iq t x y l=o++[xY last]:=by rw[hI,qaO,hal];rfl
   have hT:jA t x y l=qJ (o++[xY last]):=(by rw[yI h6,hr]);have hq1:ou iD (o++[xY last]):=hr▸NQ;have hq2:Go.Via.Ends (SmE 2) (o++[xY last]):=hr▸Ir h6;have hq3:=NR (t:=t) (x:=x) (y:=y) h6;rw[hr] at hq3;have hq4:∀u∈(o++[xY last]),jM u.i<=1000∧jP u.f<=1000:=hr▸qaR h6;refine A3 ?_;refine L4 2 0 ?_;refine Pc (kM ((last.t:Rat))) ?_;refine Al 9 II (fun g2=>?_);refine Ss 4 ?_;refine A2 ?_;refine qU (l':=[⟨_,_,_,_,_,_⟩,⟨_,_,_,_,_,_⟩,⟨_,_,_,_,_,_⟩,⟨_,_,_,_,_,_⟩,⟨_,_,_,_,_,_⟩]) [2000000] [1,2,3,4,5] [0,6,7,8,9,10] mixed ak rfl ?_;refine L9 4 0 ?_;refine L9 4 0 ?_;refine(Bu [(0,_),(1,_)]) (KT) ?_;refine A1 ?_;refine L8 2 4 ?_;refine A1 ?_;refine bW [0,6] ak ⟨⟨_,rfl,?_⟩,⟨_,rfl,?_⟩,trivial⟩
   ·refine A2 ?_;refine bW [6] ak ⟨⟨_,rfl,?_⟩,trivial⟩
    ·refine Pc (DJ (last.x:Rat) (last.y:Rat)) ?_;refine A1 ?_;exact qmh
   ·refine Pc (DJ (last.x:Rat) (last.y:Rat)) ?_;refine A1 ?_;refine bW [0,7] ak ⟨⟨_,rfl,?_⟩,⟨_,rfl,?_⟩,trivial⟩
    ·refine A2 ?_;exact qmh
    ·refine(Bu [(0,_),(1,_)]) (wH) ?_;refine A1 ?_;refine bW [0,8] ak ⟨⟨_,rfl,?_⟩,⟨_,rfl,?_⟩,trivial⟩
     ·refine A2 ?_;exact qmf
     ·refine(Bl 36 [(0,_)]) (D9) (fun g3=>?_);refine A1 ?_;refine bW [0] ak ⟨⟨_,rfl,?_⟩,trivial⟩
      ·refine A2 ?_;exact qmd
  ·have hal:alone=false:=hbQ;have hr:Iq t x y l=o:=by rw[hI,qaO,hal];rfl
   have hT:jA t x y l=qJ (o):=(by rw[yI h6,hr]);have hq1:ou iD (o):=hr▸NQ;have hq2:Go.Via.Ends (SmE 2) (o):=hr▸Ir h6;have hq3:=NR (t:=t) (x:=x) (y:=y) h6;rw[hr] at hq3;have hq4:∀u∈(o),jM u.i<=1000∧jP u.f<=1000:=hr▸qaR h6;refine A5 ?_;refine(Sc [3]) (BP (qgl 2) o ob oN oc h3 ae hq1 hq2 hq3.1 ae hq4) (fun z=>?_);obtain⟨nb,nN,nc,hnc⟩:=z;refine FN ?_;refine aO rfl (au rfl) (fun w hL=>⟨⟨nb,nN,nc,by rw[hT];exact hnc⟩,?_,hL.picks [some 4] ⟨⟨_,rfl,bg qhu⟩,trivial⟩ rfl rfl⟩);show Ending.returned (aA nb 0 _ nc)=Ending.returned (aA nb 0 (jA t x y l).length nc);rw[hT]
end Go.Proofs.YtaffcpfhedadhaaGreatDoor
