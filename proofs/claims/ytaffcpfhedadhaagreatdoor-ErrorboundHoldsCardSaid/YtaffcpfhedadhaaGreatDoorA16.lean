/-
  Part 16 (chapter 32): lemmas, walks. Each theorem states its own conditions.
-/
import Derived.Test.YtaffcpfhedadhaaGreatDoorA05
import Derived.Test.YtaffcpfhedadhaaGreatDoorA06
import Derived.Test.YtaffcpfhedadhaaGreatDoorA08
import Derived.Test.YtaffcpfhedadhaaGreatDoorA11
import Derived.Test.YtaffcpfhedadhaaGreatDoorA13
import Derived.Test.YtaffcpfhedadhaaGreatDoorA14
import Derived.Test.YtaffcpfhedadhaaGreatDoorA15
set_option linter.all false
set_option maxRecDepth 20000
set_option maxHeartbeats 20000000
namespace Go.Proofs.YtaffcpfhedadhaaGreatDoor
open Go Go.RowKit Go.Via
def fJ(t x y:Nat)(ht:t<256)(hx:x<256)(hy:y<256)(l:List rG)(lb:Option Nat)(pre:List Value)(lN lc:Nat)(hlc:l.length<=lc)(h6:l.length<=6)(hs:∀s∈l,YT s):bZ Tryz.prog 40 [⟨lb,86,pre++ak jT l,lN,false⟩] [.agg #[.int .u8 (t:Nat),.int .u8 (x:Nat),.int .u8 (y:Nat),aI lb pre.length l.length lc]] (SR (gJ t x y l).length) SR.v (fun z=>[⟨z.b,100,ak aQ (gJ t x y l),z.n,true⟩]):=by
 refine QF 133 Tryz.func40 fun w hL0=>?_;refine A2 ?_;refine Bp 4 (fun g0=>?_);refine lK ?_;refine(Dv ((t%16:Nat):Int)) (congrArg some (dM _ _ rfl rfl)) ?_;refine(Cv ((t%16:Nat):Int) u5 u3) (by exact(wi (by omega) (by omega) (by omega))) ?_;refine A2 ?_;refine(Dv ((x%64:Nat):Int)) (congrArg some (dM _ _ rfl rfl)) ?_;refine(Cv ((x%64:Nat):Int) u5 u3) (by exact(wi (by omega) (by omega) (by omega))) ?_;refine A2 ?_;refine(Dv ((y%64:Nat):Int)) (congrArg some (dM _ _ rfl rfl)) ?_;refine(Cv ((y%64:Nat):Int) u5 u3) (by exact(wi (by omega) (by omega) (by omega))) ?_;refine Pc (uz (t%16:Nat) (x%64:Nat) (y%64:Nat)) ?_;refine Al 12 qde (fun g1=>?_);refine Ss 2 ?_;refine DV ?_;refine El (ι:={z:Nat×yN×Bool×List PU×Option Nat×Nat×Nat // z.1<=l.length∧IP z.2.1 (l.length-z.1)∧Gu t x y l=ig (l.drop z.1) z.2.1 z.2.2.1 z.2.2.2.1∧z.2.2.2.1.length<=z.1∧z.2.2.2.1.length<=z.2.2.2.2.2.2∧z.2.2.2.2.2.2*36<=z.2.2.2.2.2.1}) (fun⟨⟨i,last,alone,o,ob,oN,oc⟩,hi,hsm,hI,ho,h3,h4⟩=>([(1,gU g0),(3,aI ob 0 o.length oc),(4,gU g1),(5,.bool alone),(6,bV i)],[⟨lb,86,pre++ak jT l,lN,false⟩,⟨some g0,24,[.int .u8 (t:Nat),.int .u8 (x:Nat),.int .u8 (y:Nat),aI lb pre.length l.length lc],4,true⟩,⟨some g1,137,Gs last,12,true⟩,⟨ob,100,ak aQ o,oN,true⟩],l.length-i)) ⟨⟨0,st0 t x y,true,[],none,0,0⟩,Nat.zero_le _,Ky h6,rfl,Nat.le_refl _,Nat.le_refl _,by simp⟩ ?_ (hL:=(aj [some 0,some 1,some 2,none] ⟨pR,pR,pR,⟨rfl,rfl,rfl⟩,trivial⟩ rfl rfl));rintro⟨⟨i,last,alone,o,ob,oN,oc⟩,hi,hsm,hI,ho,h3,h4⟩;(try dsimp only);replace hi:i<=l.length:=hi;replace hsm:IP last (l.length-i):=hsm;replace hI:Gu t x y l=ig (l.drop i) last alone o:=hI;replace ho:o.length<=i:=ho;replace h3:o.length<=oc:=h3;replace h4:oc*36<=oN:=h4;have ht0:=hsm.t0;have ht1:=hsm.t1;refine A9 ?_;refine Rs 32 ?_ ?_<;>intro hb1
 ·have hlt:i<l.length:=(by have:=of_decide_eq_true hb1;omega);obtain⟨s,hx⟩:∃s,l[i]? =some s:=⟨l[i],List.getElem?_eq_getElem hlt⟩;obtain⟨hs1,hs2,hs3,hs4⟩:=hs s (List.mem_of_getElem? hx);have hsn:IP (sK last s) (l.length-(i+1)):=Gt (by rw[show l.length-(i+1)+1=l.length-i by omega];exact hsm);refine A5 ?_;refine Cd ?_ ?_<;>intro hb2
  ·refine A5 ?_;refine gm 0 rfl (jP.neP (l:=l) (by decide) pre (by omega)) (fun hbs=>?_);obtain⟨gl,hgl⟩:=Option.isSome_iff_exists.1 hbs;replace hgl:lb=some gl:=hgl;subst hgl;refine A4 ?_;refine DR (pre.length+i*4) u22 qgq rfl rfl rfl rfl (by omega) (by omega) (by show pre.length+Int.toNat _*4=_;omega) ?_;refine bn (v:=SpV s) 0 (pre.length+i*4) _ rfl rfl rfl rfl qgq (jP.subP pre hx 0 4 (by decide)) rfl (by decide) rfl ?_;refine Al 4 z86 (fun g2=>?_);refine Ss 4 ?_;refine A6 ?_;refine L2 2 0 ?_;refine Pc (Hz ((last.t:Rat).num)) ?_;refine A2 ?_;refine aW 48 (.int .i64 last.t) rfl (congrArg (Value.int .i64) (qe4 hsm)) ?_;refine A8 ?_;refine(Aq (last.t+1)) (by exact(congrArg some (wi (by omega) (by omega) rfl))) ?_;refine A2 ?_;refine(Dv ((s.time%8:Nat):Int)) (congrArg some (dM _ _ rfl rfl)) ?_;refine(Cv ((s.time%8:Nat):Int) u5 u3) (by exact(wi (by omega) (by omega) (by omega))) ?_;refine(Aq (last.t+1+((s.time%8:Nat):Int))) (by exact(congrArg some (wi (by omega) (by omega) rfl))) ?_;refine A2 ?_;refine(Dv ((s.x%64:Nat):Int)) (congrArg some (dM _ _ rfl rfl)) ?_;refine(Cv ((s.x%64:Nat):Int) u5 u3) (by exact(wi (by omega) (by omega) (by omega))) ?_;refine A2 ?_;refine(Dv ((s.y%64:Nat):Int)) (congrArg some (dM _ _ rfl rfl)) ?_;refine(Cv ((s.y%64:Nat):Int) u5 u3) (by exact(wi (by omega) (by omega) (by omega))) ?_;refine Pc (uz (last.t+1+((s.time%8:Nat):Int)) (s.x%64:Nat) (s.y%64:Nat)) ?_;refine Kr 65 (SmV (sK last s)) ?_;refine Al 12 qde (fun g3=>?_);refine Ss 5 ?_;refine A4 ?_;refine uD 2 0 ?_;refine Al 12 qde (fun g4=>?_);refine Ss 6 ?_;refine A2 ?_;refine sF (nt:=133) (X:={f:yN // f=if s.kind%8=1 then swS last s else last}) (fun⟨f,hf⟩=>[(1,gU g0),(3,aI ob 0 o.length oc),(4,gU g1),(5,.bool alone),(6,bV i),(7,gU g2),(10,gU g3),(11,gU g4)]) (fun⟨f,hf⟩=>[⟨some gl,86,pre++ak jT l,lN,false⟩,⟨some g0,24,[.int .u8 (t:Nat),.int .u8 (x:Nat),.int .u8 (y:Nat),aI (some gl) pre.length l.length lc],4,true⟩,⟨some g1,137,Gs last,12,true⟩,⟨ob,100,ak aQ o,oN,true⟩,⟨some g2,86,jT s,4,true⟩,⟨some g3,137,Gs (sK last s),12,true⟩,⟨some g4,137,Gs f,12,true⟩]) ?_ ?_
   ·refine A4 ?_;refine(Dv ((s.kind%8:Nat):Int)) (congrArg some (dM _ _ rfl rfl)) ?_;refine A3 ?_;refine Cd ?_ ?_<;>intro hb3
    ·have hk1:s.kind%8=1:=by have e:=of_decide_eq_true hb3;omega
     refine A3 ?_;refine(Dv ((s.y%64:Nat):Int)) (congrArg some (dM _ _ rfl rfl)) ?_;refine(Cv ((s.y%64:Nat):Int) u5 u3) (by exact(wi (by omega) (by omega) (by omega))) ?_;refine A2 ?_;refine(Dv ((s.x%64:Nat):Int)) (congrArg some (dM _ _ rfl rfl)) ?_;refine(Cv ((s.x%64:Nat):Int) u5 u3) (by exact(wi (by omega) (by omega) (by omega))) ?_;refine Pc (uz 0 (s.y%64:Nat) (s.x%64:Nat)) ?_;refine qcQ (v:= .agg #[.bool (decide ((((0:Int):Rat)).num<0)),.string (bF (((0:Int):Rat)).num.natAbs),.bool false,.string (dm (((0:Int):Rat))),.bool (decide (((((s.y%64:Nat):Int):Rat)).num<0)),.string (bF ((((s.y%64:Nat):Int):Rat)).num.natAbs),.bool false,.string (dm ((((s.y%64:Nat):Int):Rat))),.bool (decide (((((s.x%64:Nat):Int):Rat)).num<0)),.string (bF ((((s.x%64:Nat):Int):Rat)).num.natAbs),.bool false,.string (dm ((((s.x%64:Nat):Int):Rat)))]) (u:= .agg #[.bool (decide (((((s.y%64:Nat):Int):Rat)).num<0)),.string (bF ((((s.y%64:Nat):Int):Rat)).num.natAbs),.bool false,.string (dm ((((s.y%64:Nat):Int):Rat))),.bool (decide (((((s.x%64:Nat):Int):Rat)).num<0)),.string (bF ((((s.x%64:Nat):Int):Rat)).num.natAbs),.bool false,.string (dm ((((s.x%64:Nat):Int):Rat)))]) rfl rfl rfl (fun _=>by kernel_rfl) ?_;refine A1 ?_;refine Ss 6 ?_;refine A2 ?_;exact Ni ⟨swS last s,(if_pos hk1).symm⟩ [0,1,2,3,4,5,6]
    ·have hk1:s.kind%8≠1:=by have e:=of_decide_eq_false hb3;omega
     refine A2 ?_;exact Ni ⟨last,(if_neg hk1).symm⟩ [0,1,2,3,4,5,6]
   rintro⟨f,hf⟩;show At _ ⟨133,[(1,gU g0),(3,aI ob 0 o.length oc),(4,gU g1),(5,.bool alone),(6,bV i),(7,gU g2),(10,gU g3),(11,gU g4)],[⟨some gl,86,pre++ak jT l,lN,false⟩,⟨some g0,24,[.int .u8 (t:Nat),.int .u8 (x:Nat),.int .u8 (y:Nat),aI (some gl) pre.length l.length lc],4,true⟩,⟨some g1,137,Gs last,12,true⟩,⟨ob,100,ak aQ o,oN,true⟩,⟨some g2,86,jT s,4,true⟩,⟨some g3,137,Gs (sK last s),12,true⟩,⟨some g4,137,Gs f,12,true⟩]⟩ _;obtain⟨hfs,hft⟩:=qhN hsm hf;refine A5 ?_;refine(Dv ((s.kind%8:Nat):Int)) (congrArg some (dM _ _ rfl rfl)) ?_;refine A3 ?_;refine Cd ?_ ?_<;>intro hb4
   ·have hk0:s.kind%8≠0:=by have e:=hb4;simp at e;omega
    have hk0b:decide (((s.kind%8:Nat):Int)=0)=false:=(by exact decide_eq_false (by omega));refine sF (nt:=133) (X:=Nat) (fun gI=>[(1,gU g0),(3,aI ob 0 o.length oc),(4,gU g1),(5,.bool alone),(6,bV i),(7,gU g2),(10,gU g3),(11,gU g4),(12,gU gI)]) (fun gI=>[⟨some gl,86,pre++ak jT l,lN,false⟩,⟨some g0,24,[.int .u8 (t:Nat),.int .u8 (x:Nat),.int .u8 (y:Nat),aI (some gl) pre.length l.length lc],4,true⟩,⟨some g1,137,Gs last,12,true⟩,⟨ob,100,ak aQ o,oN,true⟩,⟨some g2,86,jT s,4,true⟩,⟨some g3,137,Gs (sK last s),12,true⟩,⟨some g4,137,Gs f,12,true⟩,⟨some gI,61,dQ (sO o alone f (sK last s)).i,20,true⟩]) ?_ ?_
    ·refine Dq [3000000] [0,1,3,4,6,7,8,2,5,9,10,11,12,13,14,15] ?_;refine A1 ?_;refine L4 6 0 ?_;refine A1 ?_;refine L4 5 0 ?_;refine A3 ?_;refine Pc (kC ((f.t:Rat))) ?_;refine Pc (kC (((sK last s).t:Rat))) ?_;refine A1 ?_;refine Rs 95 ?_ ?_<;>intro hb5
     ·have hoe:o.isEmpty=false:=by have e:=of_decide_eq_true hb5;cases o<;>simp at e ⊢
      refine A3 ?_;refine(Bu [(0,_),(1,_),(2,_)]) (Ud) ?_;refine Al 20 z61 (fun g5=>?_);refine Ss 7 ?_;refine A2 ?_;exact Jw g5 ⟨rfl,rfl,rfl,rfl,rfl,rfl,rfl,rfl,rfl,trivial⟩ (aj [some 0,some 1,some 2,some 3,some 4,some 5,some 6,some 7] ⟨pR,pR,pR,pR,pR,pR,pR,⟨_,rfl,aP (by rw[qe5 hoe];rfl)⟩,trivial⟩ rfl rfl)
     ·have hoe:o.isEmpty=true:=by have e:=of_decide_eq_false hb5;cases o<;>simp at e ⊢
      refine A3 ?_;refine(Bu [(0,_),(1,_),(2,_)]) (Ud) ?_;refine Al 20 z61 (fun g5=>?_);refine Ss 7 ?_;refine A2 ?_;exact Jw g5 ⟨rfl,rfl,rfl,rfl,rfl,rfl,rfl,rfl,rfl,trivial⟩ (aj [some 0,some 1,some 2,some 3,some 4,some 5,some 6,some 7] ⟨pR,pR,pR,pR,pR,pR,pR,⟨_,rfl,aP (by rw[qe6 hoe];rfl)⟩,trivial⟩ rfl rfl)
    rintro gI;show At _ ⟨133,[(1,gU g0),(3,aI ob 0 o.length oc),(4,gU g1),(5,.bool alone),(6,bV i),(7,gU g2),(10,gU g3),(11,gU g4),(12,gU gI)],[⟨some gl,86,pre++ak jT l,lN,false⟩,⟨some g0,24,[.int .u8 (t:Nat),.int .u8 (x:Nat),.int .u8 (y:Nat),aI (some gl) pre.length l.length lc],4,true⟩,⟨some g1,137,Gs last,12,true⟩,⟨ob,100,ak aQ o,oN,true⟩,⟨some g2,86,jT s,4,true⟩,⟨some g3,137,Gs (sK last s),12,true⟩,⟨some g4,137,Gs f,12,true⟩,⟨some gI,61,dQ (sO o alone f (sK last s)).i,20,true⟩]⟩ _;refine sS (l':=[⟨_,_,_,_,_,_⟩,⟨_,_,_,_,_,_⟩,⟨_,_,_,_,_,_⟩]) [2000000] [1,2,3] [0,4,5,6,7,8] mixed (by kernel_rfl) rfl ?_;refine xC 7 0 ?_;refine uD 6 0 ?_;refine uD 5 0 ?_;refine A1 ?_;refine aJ [0,4] (by kernel_rfl) ⟨⟨_,rfl,?_⟩,⟨_,rfl,?_⟩,trivial⟩
    ·refine A2 ?_;refine aJ [4] (by kernel_rfl) ⟨⟨_,rfl,?_⟩,trivial⟩
     ·refine Pc (yI (f.t:Rat) (f.x:Rat) (f.y:Rat) ((sK last s).t:Rat) ((sK last s).x:Rat) ((sK last s).y:Rat) (Xe hft) (Nat.le_trans hfs.t (by omega)) (Nat.le_trans hfs.x (by omega)) (Nat.le_trans hfs.y (by omega)) (Nat.le_trans hsn.t (by omega)) (Nat.le_trans hsn.x (by omega)) (Nat.le_trans hsn.y (by omega))) ?_;refine A1 ?_;refine aJ [5] (by kernel_rfl) ⟨⟨_,rfl,?_⟩,trivial⟩
      ·refine(Bu [(0,_),(1,_)]) (qI) ?_;refine A1 ?_;refine aJ [6] (by kernel_rfl) ⟨⟨_,rfl,?_⟩,trivial⟩
       ·refine(Bl 36 [(0,_)]) (tC) (fun g5=>?_);refine A1 ?_;refine aJ [7] (by kernel_rfl) ⟨⟨_,rfl,?_⟩,trivial⟩
        ·refine(Qa (s:=36) (len:=o.length) (n2:=1) 3 8 (fun r=>[_,_,_,⟨some r.g,100,ak aQ o++aQ (sO o alone f (sK last s)),r.n,true⟩,_,_,_,_,_]) Qx BJ) (aC.length o) h3 h4 (aC.one (sO o alone f (sK last s))) (fun r=>?_);refine A1 ?_;refine aJ [8] (by kernel_rfl) ⟨⟨_,rfl,?_⟩,trivial⟩
         ·refine A2 ?_;refine jX rfl ?_;refine A5 ?_;refine(Dv ((s.kind%8:Nat):Int)) (congrArg some (dM _ _ rfl rfl)) ?_;refine A5 ?_;refine uD 5 0 ?_;refine Ss 2 ?_;refine A5 ?_;refine Ar (((i+1:Nat):Int)) ?_;refine A3 ?_;exact Nl ⟨⟨i+1,sK last s,false,o++[sO o alone f (sK last s)],some r.g,r.n,r.cap⟩,hlt,hsn,by rw[hI];exact Xf hx hk0 hf,by rw[List.length_append];exact Nat.succ_le_succ ho,by rw[List.length_append];exact r.h,r.hn⟩ (hμ:=(by show l.length-(i+1)<l.length-i;omega)) (ht:=⟨rfl,(aB rfl (by rw[List.length_append];rfl)),rfl,(aB rfl (congrArg Value.bool hk0b)),rfl,trivial⟩) (hL:=(aj [some 0,some 1,some 2,some 3] ⟨pR,pR,pR,⟨_,rfl,aP (by rw[bD])⟩,trivial⟩ rfl rfl))
    ·refine Pc (yI (f.t:Rat) (f.x:Rat) (f.y:Rat) ((sK last s).t:Rat) ((sK last s).x:Rat) ((sK last s).y:Rat) (Xe hft) (Nat.le_trans hfs.t (by omega)) (Nat.le_trans hfs.x (by omega)) (Nat.le_trans hfs.y (by omega)) (Nat.le_trans hsn.t (by omega)) (Nat.le_trans hsn.x (by omega)) (Nat.le_trans hsn.y (by omega))) ?_;refine A1 ?_;refine aJ [0,5] (by kernel_rfl) ⟨⟨_,rfl,?_⟩,⟨_,rfl,?_⟩,trivial⟩
     ·refine A2 ?_;refine aJ [5] (by kernel_rfl) ⟨⟨_,rfl,?_⟩,trivial⟩
      ·refine(Bu [(0,_),(1,_)]) (qI) ?_;refine A1 ?_;refine aJ [6] (by kernel_rfl) ⟨⟨_,rfl,?_⟩,trivial⟩
       ·refine(Bl 36 [(0,_)]) (tC) (fun g5=>?_);refine A1 ?_;refine aJ [7] (by kernel_rfl) ⟨⟨_,rfl,?_⟩,trivial⟩
        ·refine(Qa (s:=36) (len:=o.length) (n2:=1) 3 8 (fun r=>[_,_,_,⟨some r.g,100,ak aQ o++aQ (sO o alone f (sK last s)),r.n,true⟩,_,_,_,_,_]) Qx BJ) (aC.length o) h3 h4 (aC.one (sO o alone f (sK last s))) (fun r=>?_);refine A1 ?_;refine aJ [8] (by kernel_rfl) ⟨⟨_,rfl,?_⟩,trivial⟩
         ·refine A2 ?_;refine jX rfl ?_;refine A5 ?_;refine(Dv ((s.kind%8:Nat):Int)) (congrArg some (dM _ _ rfl rfl)) ?_;refine A5 ?_;refine uD 5 0 ?_;refine Ss 2 ?_;refine A5 ?_;refine Ar (((i+1:Nat):Int)) ?_;refine A3 ?_;exact Nl ⟨⟨i+1,sK last s,false,o++[sO o alone f (sK last s)],some r.g,r.n,r.cap⟩,hlt,hsn,by rw[hI];exact Xf hx hk0 hf,by rw[List.length_append];exact Nat.succ_le_succ ho,by rw[List.length_append];exact r.h,r.hn⟩ (hμ:=(by show l.length-(i+1)<l.length-i;omega)) (ht:=⟨rfl,(aB rfl (by rw[List.length_append];rfl)),rfl,(aB rfl (congrArg Value.bool hk0b)),rfl,trivial⟩) (hL:=(aj [some 0,some 1,some 2,some 3] ⟨pR,pR,pR,⟨_,rfl,aP (by rw[bD])⟩,trivial⟩ rfl rfl))
     ·refine(Bu [(0,_),(1,_)]) (qI) ?_;refine A1 ?_;refine aJ [0,6] (by kernel_rfl) ⟨⟨_,rfl,?_⟩,⟨_,rfl,?_⟩,trivial⟩
      ·refine A2 ?_;refine aJ [6] (by kernel_rfl) ⟨⟨_,rfl,?_⟩,trivial⟩
       ·refine(Bl 36 [(0,_)]) (tC) (fun g5=>?_);refine A1 ?_;refine aJ [7] (by kernel_rfl) ⟨⟨_,rfl,?_⟩,trivial⟩
        ·refine(Qa (s:=36) (len:=o.length) (n2:=1) 3 8 (fun r=>[_,_,_,⟨some r.g,100,ak aQ o++aQ (sO o alone f (sK last s)),r.n,true⟩,_,_,_,_,_]) Qx BJ) (aC.length o) h3 h4 (aC.one (sO o alone f (sK last s))) (fun r=>?_);refine A1 ?_;refine aJ [8] (by kernel_rfl) ⟨⟨_,rfl,?_⟩,trivial⟩
         ·refine A2 ?_;refine jX rfl ?_;refine A5 ?_;refine(Dv ((s.kind%8:Nat):Int)) (congrArg some (dM _ _ rfl rfl)) ?_;refine A5 ?_;refine uD 5 0 ?_;refine Ss 2 ?_;refine A5 ?_;refine Ar (((i+1:Nat):Int)) ?_;refine A3 ?_;exact Nl ⟨⟨i+1,sK last s,false,o++[sO o alone f (sK last s)],some r.g,r.n,r.cap⟩,hlt,hsn,by rw[hI];exact Xf hx hk0 hf,by rw[List.length_append];exact Nat.succ_le_succ ho,by rw[List.length_append];exact r.h,r.hn⟩ (hμ:=(by show l.length-(i+1)<l.length-i;omega)) (ht:=⟨rfl,(aB rfl (by rw[List.length_append];rfl)),rfl,(aB rfl (congrArg Value.bool hk0b)),rfl,trivial⟩) (hL:=(aj [some 0,some 1,some 2,some 3] ⟨pR,pR,pR,⟨_,rfl,aP (by rw[bD])⟩,trivial⟩ rfl rfl))
      ·refine(Bl 36 [(0,_)]) (tC) (fun g5=>?_);refine A1 ?_;refine aJ [0] (by kernel_rfl) ⟨⟨_,rfl,?_⟩,trivial⟩
       ·refine A2 ?_;refine aJ [7] (by kernel_rfl) ⟨⟨_,rfl,?_⟩,trivial⟩
        ·refine(Qa (s:=36) (len:=o.length) (n2:=1) 3 8 (fun r=>[_,_,_,⟨some r.g,100,ak aQ o++aQ (sO o alone f (sK last s)),r.n,true⟩,_,_,_,_,_]) Qx BJ) (aC.length o) h3 h4 (aC.one (sO o alone f (sK last s))) (fun r=>?_);refine A1 ?_;refine aJ [8] (by kernel_rfl) ⟨⟨_,rfl,?_⟩,trivial⟩
         ·refine A2 ?_;refine jX rfl ?_;refine A5 ?_;refine(Dv ((s.kind%8:Nat):Int)) (congrArg some (dM _ _ rfl rfl)) ?_;refine A5 ?_;refine uD 5 0 ?_;refine Ss 2 ?_;refine A5 ?_;refine Ar (((i+1:Nat):Int)) ?_;refine A3 ?_;exact Nl ⟨⟨i+1,sK last s,false,o++[sO o alone f (sK last s)],some r.g,r.n,r.cap⟩,hlt,hsn,by rw[hI];exact Xf hx hk0 hf,by rw[List.length_append];exact Nat.succ_le_succ ho,by rw[List.length_append];exact r.h,r.hn⟩ (hμ:=(by show l.length-(i+1)<l.length-i;omega)) (ht:=⟨rfl,(aB rfl (by rw[List.length_append];rfl)),rfl,(aB rfl (congrArg Value.bool hk0b)),rfl,trivial⟩) (hL:=(aj [some 0,some 1,some 2,some 3] ⟨pR,pR,pR,⟨_,rfl,aP (by rw[bD])⟩,trivial⟩ rfl rfl))
   ·have hk0:s.kind%8=0:=by have e:=hb4;simp at e;omega
    have hk0b:decide (((s.kind%8:Nat):Int)=0)=true:=(by exact decide_eq_true (by omega));refine A6 ?_;refine(Dv ((s.kind%8:Nat):Int)) (congrArg some (dM _ _ rfl rfl)) ?_;refine A5 ?_;refine uD 5 0 ?_;refine Ss 2 ?_;refine A5 ?_;refine Ar (((i+1:Nat):Int)) ?_;refine A3 ?_;exact Nl ⟨⟨i+1,sK last s,true,o,ob,oN,oc⟩,hlt,hsn,by rw[hI];exact qbT hx hk0,Nat.le_succ_of_le ho,h3,h4⟩ (hμ:=(by show l.length-(i+1)<l.length-i;omega)) (ht:=⟨rfl,rfl,rfl,(aB rfl (congrArg Value.bool hk0b)),rfl,trivial⟩) (hL:=eF.auto)
  ·exact absurd (of_decide_eq_false hb2) (by omega)
 ·have hge:i=l.length:=(by have:=of_decide_eq_false hb1;omega);subst hge;refine Qe ?_;refine Cd ?_ ?_<;>intro hb2
  ·have hal:alone=true:=hb2;have hr:Gu t x y l=o++[kU last]:=by rw[hI,Xa,hal];rfl
   have hT:gJ t x y l=pU (o++[kU last]):=(by rw[xA h6,hr]);have hq1:nX iM (o++[kU last]):=hr▸Kz;have hq2:Go.Via.Ends (SmE 2) (o++[kU last]):=hr▸Gv h6;have hq3:=KA (t:=t) (x:=x) (y:=y) h6;rw[hr] at hq3;have hq4:∀u∈(o++[kU last]),kT u.i<=1000∧iV u.f<=1000:=hr▸Xd h6;refine A3 ?_;refine L4 2 0 ?_;refine Pc (kC ((last.t:Rat))) ?_;refine Al 9 MC (fun g2=>?_);refine Ss 4 ?_;refine A2 ?_;refine sS (l':=[⟨_,_,_,_,_,_⟩,⟨_,_,_,_,_,_⟩,⟨_,_,_,_,_,_⟩,⟨_,_,_,_,_,_⟩,⟨_,_,_,_,_,_⟩]) [2000000] [1,2,3,4,5] [0,6,7,8,9,10] mixed (by kernel_rfl) rfl ?_;refine L9 4 0 ?_;refine L9 4 0 ?_;refine(Bu [(0,_),(1,_)]) (Ox) ?_;refine A1 ?_;refine L8 2 4 ?_;refine A1 ?_;refine aJ [0,6] (by kernel_rfl) ⟨⟨_,rfl,?_⟩,⟨_,rfl,?_⟩,trivial⟩
   ·refine A2 ?_;refine aJ [6] (by kernel_rfl) ⟨⟨_,rfl,?_⟩,trivial⟩
    ·refine Pc (BX (last.x:Rat) (last.y:Rat)) ?_;refine A1 ?_;refine aJ [7] (by kernel_rfl) ⟨⟨_,rfl,?_⟩,trivial⟩
     ·refine(Bu [(0,_),(1,_)]) (qI) ?_;refine A1 ?_;refine aJ [8] (by kernel_rfl) ⟨⟨_,rfl,?_⟩,trivial⟩
      ·refine(Bl 36 [(0,_)]) (tC) (fun g3=>?_);refine A1 ?_;refine aJ [9] (by kernel_rfl) ⟨⟨_,rfl,?_⟩,trivial⟩
       ·refine(Qa (s:=36) (len:=o.length) (n2:=1) 3 5 (fun r=>[_,_,_,⟨some r.g,100,ak aQ o++aQ (kU last),r.n,true⟩,_,_]) Qx BJ) (aC.length o) h3 h4 (aC.one (kU last)) (fun r=>?_);refine A1 ?_;refine aJ [10] (by kernel_rfl) ⟨⟨_,rfl,?_⟩,trivial⟩
        ·refine A2 ?_;refine jX rfl ?_;refine A4 ?_;refine iP [_] [3] rfl rfl (by show _=[some _];rw[List.length_append];rfl) (mW (NM 2) (o++[kU last]) (some r.g) r.n r.cap (by rw[List.length_append];exact r.h) (by omega) hq1 hq2 hq3.1 (by omega) hq4) ⟨⟨_,rfl,by rw[<-bD];exact nK⟩,trivial⟩ rfl (.inr fun x b hb=>by rw[List.mem_singleton.1 hb]) (fun z=>?_);obtain⟨nb,nN,nc,hnc⟩:=z;refine BC ?_;refine aO rfl (ai rfl) (fun w hL=>⟨⟨nb,nN,nc,by rw[hT];exact hnc⟩,?_,hL.picks [some 6] ⟨⟨_,rfl,aP (by rw[show ak aQ (gJ t x y l)=_ from congrArg _ hT])⟩,trivial⟩ rfl rfl⟩);show Ending.returned (aI nb 0 _ nc)=Ending.returned (aI nb 0 (gJ t x y l).length nc);rw[hT]
   ·refine Pc (BX (last.x:Rat) (last.y:Rat)) ?_;refine A1 ?_;refine aJ [0,7] (by kernel_rfl) ⟨⟨_,rfl,?_⟩,⟨_,rfl,?_⟩,trivial⟩
    ·refine A2 ?_;refine aJ [7] (by kernel_rfl) ⟨⟨_,rfl,?_⟩,trivial⟩
     ·refine(Bu [(0,_),(1,_)]) (qI) ?_;refine A1 ?_;refine aJ [8] (by kernel_rfl) ⟨⟨_,rfl,?_⟩,trivial⟩
      ·refine(Bl 36 [(0,_)]) (tC) (fun g3=>?_);refine A1 ?_;refine aJ [9] (by kernel_rfl) ⟨⟨_,rfl,?_⟩,trivial⟩
       ·refine(Qa (s:=36) (len:=o.length) (n2:=1) 3 5 (fun r=>[_,_,_,⟨some r.g,100,ak aQ o++aQ (kU last),r.n,true⟩,_,_]) Qx BJ) (aC.length o) h3 h4 (aC.one (kU last)) (fun r=>?_);refine A1 ?_;refine aJ [10] (by kernel_rfl) ⟨⟨_,rfl,?_⟩,trivial⟩
        ·refine A2 ?_;refine jX rfl ?_;refine A4 ?_;refine iP [_] [3] rfl rfl (by show _=[some _];rw[List.length_append];rfl) (mW (NM 2) (o++[kU last]) (some r.g) r.n r.cap (by rw[List.length_append];exact r.h) (by omega) hq1 hq2 hq3.1 (by omega) hq4) ⟨⟨_,rfl,by rw[<-bD];exact nK⟩,trivial⟩ rfl (.inr fun x b hb=>by rw[List.mem_singleton.1 hb]) (fun z=>?_);obtain⟨nb,nN,nc,hnc⟩:=z;refine BC ?_;refine aO rfl (ai rfl) (fun w hL=>⟨⟨nb,nN,nc,by rw[hT];exact hnc⟩,?_,hL.picks [some 6] ⟨⟨_,rfl,aP (by rw[show ak aQ (gJ t x y l)=_ from congrArg _ hT])⟩,trivial⟩ rfl rfl⟩);show Ending.returned (aI nb 0 _ nc)=Ending.returned (aI nb 0 (gJ t x y l).length nc);rw[hT]
    ·refine(Bu [(0,_),(1,_)]) (qI) ?_;refine A1 ?_;refine aJ [0,8] (by kernel_rfl) ⟨⟨_,rfl,?_⟩,⟨_,rfl,?_⟩,trivial⟩
     ·refine A2 ?_;refine aJ [8] (by kernel_rfl) ⟨⟨_,rfl,?_⟩,trivial⟩
      ·refine(Bl 36 [(0,_)]) (tC) (fun g3=>?_);refine A1 ?_;refine aJ [9] (by kernel_rfl) ⟨⟨_,rfl,?_⟩,trivial⟩
       ·refine(Qa (s:=36) (len:=o.length) (n2:=1) 3 5 (fun r=>[_,_,_,⟨some r.g,100,ak aQ o++aQ (kU last),r.n,true⟩,_,_]) Qx BJ) (aC.length o) h3 h4 (aC.one (kU last)) (fun r=>?_);refine A1 ?_;refine aJ [10] (by kernel_rfl) ⟨⟨_,rfl,?_⟩,trivial⟩
        ·refine A2 ?_;refine jX rfl ?_;refine A4 ?_;refine iP [_] [3] rfl rfl (by show _=[some _];rw[List.length_append];rfl) (mW (NM 2) (o++[kU last]) (some r.g) r.n r.cap (by rw[List.length_append];exact r.h) (by omega) hq1 hq2 hq3.1 (by omega) hq4) ⟨⟨_,rfl,by rw[<-bD];exact nK⟩,trivial⟩ rfl (.inr fun x b hb=>by rw[List.mem_singleton.1 hb]) (fun z=>?_);obtain⟨nb,nN,nc,hnc⟩:=z;refine BC ?_;refine aO rfl (ai rfl) (fun w hL=>⟨⟨nb,nN,nc,by rw[hT];exact hnc⟩,?_,hL.picks [some 6] ⟨⟨_,rfl,aP (by rw[show ak aQ (gJ t x y l)=_ from congrArg _ hT])⟩,trivial⟩ rfl rfl⟩);show Ending.returned (aI nb 0 _ nc)=Ending.returned (aI nb 0 (gJ t x y l).length nc);rw[hT]
     ·refine(Bl 36 [(0,_)]) (tC) (fun g3=>?_);refine A1 ?_;refine aJ [0] (by kernel_rfl) ⟨⟨_,rfl,?_⟩,trivial⟩
      ·refine A2 ?_;refine aJ [9] (by kernel_rfl) ⟨⟨_,rfl,?_⟩,trivial⟩
       ·refine(Qa (s:=36) (len:=o.length) (n2:=1) 3 5 (fun r=>[_,_,_,⟨some r.g,100,ak aQ o++aQ (kU last),r.n,true⟩,_,_]) Qx BJ) (aC.length o) h3 h4 (aC.one (kU last)) (fun r=>?_);refine A1 ?_;refine aJ [10] (by kernel_rfl) ⟨⟨_,rfl,?_⟩,trivial⟩
        ·refine A2 ?_;refine jX rfl ?_;refine A4 ?_;refine iP [_] [3] rfl rfl (by show _=[some _];rw[List.length_append];rfl) (mW (NM 2) (o++[kU last]) (some r.g) r.n r.cap (by rw[List.length_append];exact r.h) (by omega) hq1 hq2 hq3.1 (by omega) hq4) ⟨⟨_,rfl,by rw[<-bD];exact nK⟩,trivial⟩ rfl (.inr fun x b hb=>by rw[List.mem_singleton.1 hb]) (fun z=>?_);obtain⟨nb,nN,nc,hnc⟩:=z;refine BC ?_;refine aO rfl (ai rfl) (fun w hL=>⟨⟨nb,nN,nc,by rw[hT];exact hnc⟩,?_,hL.picks [some 6] ⟨⟨_,rfl,aP (by rw[show ak aQ (gJ t x y l)=_ from congrArg _ hT])⟩,trivial⟩ rfl rfl⟩);show Ending.returned (aI nb 0 _ nc)=Ending.returned (aI nb 0 (gJ t x y l).length nc);rw[hT]
  ·have hal:alone=false:=hb2;have hr:Gu t x y l=o:=by rw[hI,Xa,hal];rfl
   have hT:gJ t x y l=pU (o):=(by rw[xA h6,hr]);have hq1:nX iM (o):=hr▸Kz;have hq2:Go.Via.Ends (SmE 2) (o):=hr▸Gv h6;have hq3:=KA (t:=t) (x:=x) (y:=y) h6;rw[hr] at hq3;have hq4:∀u∈(o),kT u.i<=1000∧iV u.f<=1000:=hr▸Xd h6;refine A5 ?_;refine(Sc [3]) (mW (NM 2) o ob oN oc h3 (by omega) hq1 hq2 hq3.1 (by omega) hq4) (fun z=>?_);obtain⟨nb,nN,nc,hnc⟩:=z;refine BC ?_;refine aO rfl (ai rfl) (fun w hL=>⟨⟨nb,nN,nc,by rw[hT];exact hnc⟩,?_,hL.picks [some 4] ⟨⟨_,rfl,aP (by rw[show ak aQ (gJ t x y l)=_ from congrArg _ hT])⟩,trivial⟩ rfl rfl⟩);show Ending.returned (aI nb 0 _ nc)=Ending.returned (aI nb 0 (gJ t x y l).length nc);rw[hT]
end Go.Proofs.YtaffcpfhedadhaaGreatDoor
namespace Go.Via
open Go
def YX{α:Type}{c:α->List Value}{k:Nat}(h:lh α c k)(hk:0<k)(pre:List Value){l:List α}{b:Option Nat}(hb:b=none->pre++ak c l=[]):l.length=0∨∃g,b=some g:=
 EN h hk fun e=>(List.append_eq_nil_iff.1 (hb e)).2
def qb7{x y:Int}(m n:Nat)(hm:m<256)(hx:x=(m:Int))(hy:y=(n:Int)):IntKind.u8.wrap (x.tdiv y)=((m/n:Nat):Int):=by
 subst hx;subst hy;rw[show(m:Int).tdiv (n:Int)=((m/n:Nat):Int) from(Int.ofNat_tdiv m n).symm];have h:=Nat.div_le_self m n
 generalize m/n=q at h ⊢
 simp[IntKind.wrap,IntKind.bits,IntKind.signed];omega
def Tn{x y:Int}(m n:Nat)(hx:x=(m:Int))(hy:y=(n:Int)):IntKind.u8.wrap (x+y)=(((m+n)%256:Nat):Int):=by
 subst hx;subst hy;simp[IntKind.wrap,IntKind.bits,IntKind.signed]
def EX(ch:Nat)(s:rG):rG:=⟨s.time,(s.x+ch/16)%256,(s.y+1)%256,s.kind⟩
def chS(ch:Nat)(l:List rG):List rG:=if 0<l.length∧1<ch%4 then(match l[ch/4%l.length]? with
 |some s=>l.set (ch/4%l.length) (EX ch s)
 |none=>l) else l
theorem PI(ch:Nat)(l:List rG):(chS ch l).length=l.length:=by
 unfold chS
 split
 ·split
  ·rw[List.length_set]
  ·rfl
 ·rfl
def qhR{ch:Nat}{l:List rG}(h:∀s∈l,YT s):∀s∈chS ch l,YT s:=fun s hs=>by
 unfold chS at hs
 split at hs
 ·split at hs
  ·rename_i u hu
   rcases List.mem_or_eq_of_mem_set hs with e|e
   ·exact h s e
   ·have hu':=h u (List.mem_of_getElem? hu);subst e;exact⟨hu'.1,Nat.mod_lt _ (by decide),Nat.mod_lt _ (by decide),hu'.2.2.2⟩
  ·exact h s hs
 ·exact h s hs
def qfg{ch k:Nat}{l:List rG}{s:rG}(h0:0<l.length)(h1:1<ch%4)(hk:k=ch/4%l.length)(hx:l[k]? =some s):chS ch l=(l.set k ⟨s.time,(s.x+ch/16)%256,s.y,s.kind⟩).set k (EX ch s):=by
 subst hk;unfold chS;rw[if_pos ⟨h0,h1⟩,hx,List.set_set]
theorem qb8{ch:Nat}{l:List rG}(h:¬(0<l.length∧1<ch%4)):chS ch l=l:=by unfold chS;rw[if_neg h]
def pK(ta xa ya:Nat)(a:List rG)(tb xb yb:Nat)(b:List rG)(ch:Nat):List PU:=if 0<ch%4 then gJ ta xa ya (chS ch a) else gJ tb xb yb b
section
variable{ta xa ya tb xb yb ch:Nat}{a b:List rG}
def qfh(h:¬0<ch%4):pK ta xa ya a tb xb yb b ch=gJ tb xb yb b:=by unfold pK;rw[if_neg h]
def KO(h:0<ch%4):pK ta xa ya a tb xb yb b ch=gJ ta xa ya (chS ch a):=by unfold pK;rw[if_pos h]
def qb9(ha:a.length<=6)(hb:b.length<=6):(pK ta xa ya a tb xb yb b ch).length<=21:=by
 unfold pK;split
 ·exact KE (by rw[PI];exact ha)
 ·exact KE hb
def qca(ha:a.length<=6)(hb:b.length<=6):He (pK ta xa ya a tb xb yb b ch):=by
 unfold pK;split
 ·exact KD (by rw[PI];exact ha)
 ·exact KD hb
def qcb:SS (gJ ta xa ya a) (pK ta xa ya a tb xb yb b ch):=by
 unfold pK;split
 ·exact Tc
 ·exact Tc
end
end Go.Via
namespace Go.Proofs.YtaffcpfhedadhaaGreatDoor
open Go Go.RowKit Go.Via
def KP(ta xa ya tb xb yb ch:Nat)(hta:ta<256)(hxa:xa<256)(hya:ya<256)(htb:tb<256)(hxb:xb<256)(hyb:yb<256)(hch:ch<256)(a:List rG)(ab:Option Nat)(pa:List Value)(aN ac:Nat)(hac:a.length<=ac)(ha6:a.length<=6)(has:∀s∈a,YT s)(b:List rG)(bb:Option Nat)(pb:List Value)(bN bc:Nat)(hbc:b.length<=bc)(hb6:b.length<=6)(hbs:∀s∈b,YT s):bZ Tryz.prog 13 [⟨ab,86,pa++ak jT a,aN,false⟩,⟨bb,86,pb++ak jT b,bN,false⟩] [.agg #[.int .u8 (ta:Nat),.int .u8 (xa:Nat),.int .u8 (ya:Nat),aI ab pa.length a.length ac,.int .u8 (tb:Nat),.int .u8 (xb:Nat),.int .u8 (yb:Nat),aI bb pb.length b.length bc,.int .u8 (ch:Nat)]] (SR (gJ ta xa ya a).length×SR (pK ta xa ya a tb xb yb b ch).length) (fun z=> .tuple #[z.1.v,z.2.v]) (fun z=>[⟨z.1.b,100,ak aQ (gJ ta xa ya a),z.1.n,true⟩,⟨z.2.b,100,ak aQ (pK ta xa ya a tb xb yb b ch),z.2.n,true⟩]):=by
 refine QF 65 Tryz.func13 fun w hL0=>?_;refine A2 ?_;refine Bp 9 (fun g0=>?_);refine A7 ?_;refine L4 2 4 ?_;refine Al 4 z24 (fun g1=>?_);refine Ss 3 ?_;refine A7 ?_;refine(Dv ((ch%4:Nat):Int)) (congrArg some (dM _ _ rfl rfl)) ?_;refine A3 ?_;refine Cd ?_ ?_<;>intro hb0
 ·have hch:0<ch%4:=by have e:=of_decide_eq_true hb0;omega
  refine A3 ?_;refine L4 2 0 ?_;refine Ss 3 ?_;refine A3 ?_;refine AV 0 rfl (fun hba=>?_);have hab:=YX jP (by decide) pa hba;refine A1 ?_;refine(Bl 0 []) (qgx) (fun g2=>?_);refine A3 ?_;refine Fz (s:=4) (len:=0) 4 0 (ak jT a) (fun r=>[_,_,_,_,⟨r.b,86,ak jT a,r.n,true⟩]) u22 qkC rfl rfl rfl rfl rfl rfl rfl rfl rfl rfl rfl (Nat.le_refl _) (Nat.le_refl _) hab (by rw[List.drop_left];exact List.take_of_length_le (by rw[jP.length];exact Nat.le_refl _)) (jP.length a) (jP.ones _) (by omega) (fun _=>rfl) (fun r=>?_);obtain⟨nb,nN,nc,hnc,hnN⟩:=r;refine aW 19 (aI nb 0 a.length nc) rfl (congrArg (fun z=>aI nb 0 z nc) (Nat.zero_add _)) ?_;refine A1 ?_;refine Ss 3 ?_;refine y8 ?_;refine Rs 26 ?_ ?_<;>intro hb1
  ·have hl0:0<a.length:=by have e:=of_decide_eq_true hb1;omega
   refine A2 ?_;refine(Dv ((ch%4:Nat):Int)) (congrArg some (dM _ _ rfl rfl)) ?_;refine A4 ?_;refine Cd ?_ ?_<;>intro hb2
   ·have hc1:1<ch%4:=by have e:=of_decide_eq_true hb2;omega
    obtain⟨k,hk⟩:∃k,k=ch/4%a.length:=⟨_,rfl⟩;have hkl:k<a.length:=hk▸Nat.mod_lt _ hl0;obtain⟨s,hx⟩:∃s,a[k]? =some s:=⟨a[k],List.getElem?_eq_getElem hkl⟩;obtain⟨hs1,hs2,hs3,hs4⟩:=has s (List.mem_of_getElem? hx);have hcA:=qfg hl0 hc1 hk hx;have hW:pK ta xa ya a tb xb yb b ch=gJ ta xa ya ((a.set k ⟨s.time,(s.x+ch/16)%256,s.y,s.kind⟩).set k (EX ch s)):=(KO hch).trans (by rw[hcA]);have hAo:∀v∈((a.set k ⟨s.time,(s.x+ch/16)%256,s.y,s.kind⟩).set k (EX ch s)),YT v:=fun v hv=>qhR has v (by rw[hcA];exact hv)
    have hAl:((a.set k ⟨s.time,(s.x+ch/16)%256,s.y,s.kind⟩).set k (EX ch s)).length=a.length:=(by simp only[List.length_set]);refine A1 ?_;refine gm 4 rfl (jP.ne (by decide) hl0) (fun hbs=>?_);obtain⟨gn,hgn⟩:=Option.isSome_iff_exists.1 hbs;replace hgn:nb=some gn:=hgn;subst hgn;refine Di [] ?_;refine A4 ?_;refine(Dv ((ch/4:Nat):Int)) (by exact(congrArg some (qb7 _ _ (by omega) rfl rfl))) ?_;refine(Cv ((ch/4:Nat):Int) u5 u3) (by exact(wi (by omega) (by omega) rfl)) ?_;refine A1 ?_;refine(Dv (k:Int)) (congrArg some ((dM _ _ rfl rfl).trans (congrArg Nat.cast hk.symm))) ?_;refine au 4 ((k)*4) u22 qgq rfl rfl rfl rfl rfl (by omega) (by omega) (jP.ne (by decide) (by omega)) (by show 0+Int.toNat _*4=_;omega) ?_;refine A3 ?_;let sX:List (Nat×Value)->List (Nat×Value):=fun l=>(1,gU g0)::(4,gU g1)::l;let sY:List aF->List aF:=fun l=>⟨ab,86,pa++ak jT a,aN,false⟩::⟨bb,86,pb++ak jT b,bN,false⟩::⟨some g0,26,[.int .u8 (ta:Nat),.int .u8 (xa:Nat),.int .u8 (ya:Nat),aI ab pa.length a.length ac,.int .u8 (tb:Nat),.int .u8 (xb:Nat),.int .u8 (yb:Nat),aI bb pb.length b.length bc,.int .u8 (ch:Nat)],9,true⟩::⟨some g1,24,[.int .u8 (ta:Nat),.int .u8 (xa:Nat),.int .u8 (ya:Nat),aI (some gn) 0 a.length nc],4,true⟩::l;refine MI (nt:=65) (Z:=Unit) (fun _=>sX []) (fun _=>sY [⟨some gn,86,ak jT ((a.set k ⟨s.time,(s.x+ch/16)%256,s.y,s.kind⟩).set k (EX ch s)),nN,true⟩]) 21 [0,1,2,3,4,5,6,7,8,9,10,11,12,13,14,15,16,17,18,19,20] mixed (by kernel_rfl) (fun hd0=>?_) ?_
    ·refine iH (nt:=65) (Z:=Unit) (fun _=>sX [(6,.pointer (some ⟨gn,k*4,none⟩)),(55,.int .u8 (((s.y+1)%256:Nat):Int)),(59,.pointer (some ⟨gn,k*4+2,none⟩))]) (fun _=>sY [⟨some gn,86,ak jT (a.set k ⟨s.time,(s.x+ch/16)%256,s.y,s.kind⟩),nN,true⟩]) 1 [20] (fun z=>?_) (fun hd1=>?_)
     ·(try dsimp only);refine Nd1 20 ?_
      ·refine xH rfl 4 ((k)*4+2) [_,_,_,_,_] (ak jT ((a.set k ⟨s.time,(s.x+ch/16)%256,s.y,s.kind⟩).set k (EX ch s))) rfl rfl rfl rfl YZ rfl (by rw[Nat.ble_eq,jP.length];show k*4+2+1<=(a.set k ⟨s.time,(s.x+ch/16)%256,s.y,s.kind⟩).length*4;(try simp only[List.length_set]);omega) rfl (jP.setf (show(a.set k ⟨s.time,(s.x+ch/16)%256,s.y,s.kind⟩)[k]? =some ⟨s.time,(s.x+ch/16)%256,s.y,s.kind⟩ by rw[List.getElem?_set_self hkl]) rfl (by decide)) rfl ?_;refine A1 ?_;exact Nw hd0 () [0,1,2,3,4]
     refine iH (nt:=65) (Z:=Unit) (fun _=>sX [(6,.pointer (some ⟨gn,k*4,none⟩)),(42,.pointer (some ⟨gn,k*4,none⟩)),(50,.int .u8 (((s.x+ch/16)%256:Nat):Int)),(55,.int .u8 (((s.y+1)%256:Nat):Int)),(57,.pointer (some ⟨gn,k*4+1,none⟩))]) (fun _=>sY [⟨some gn,86,ak jT a,nN,true⟩]) 4 [17,18,19,20] (fun z=>?_) (fun hd2=>?_)
     ·(try dsimp only);refine Nd1 17 ?_
      ·refine xH rfl 4 ((k)*4+1) [_,_,_,_,_] (ak jT (a.set k ⟨s.time,(s.x+ch/16)%256,s.y,s.kind⟩)) rfl rfl rfl rfl YZ rfl (by rw[Nat.ble_eq,jP.length];show k*4+1+1<=(a).length*4;(try simp only[List.length_set]);omega) rfl (jP.setf hx rfl (by decide)) rfl ?_;refine A1 ?_;refine Nt 18 ?_;refine A2 ?_;refine Nt 19 ?_;refine Fg ((k)*4) 2 ?_;refine A1 ?_;exact Nw hd1 () [0,1,2,3,4]
     refine iH (nt:=65) (Z:=Unit) (fun _=>sX [(6,.pointer (some ⟨gn,k*4,none⟩)),(41,.pointer (some ⟨gn,k*4,none⟩)),(42,.pointer (some ⟨gn,k*4,none⟩)),(45,.pointer (some ⟨gn,k*4+1,none⟩)),(49,.int .u8 ((ch/16:Nat):Int)),(55,.int .u8 (((s.y+1)%256:Nat):Int))]) (fun _=>sY [⟨some gn,86,ak jT a,nN,true⟩]) 8 [5,9,15,16,17,18,19,20] (fun z=>?_) (fun hd3=>?_)
     ·(try dsimp only);refine Nd1 5 ?_
      ·refine bn (v:= .int .u8 s.x) 4 ((k)*4+1) _ rfl rfl rfl rfl YZ (jP.sub hx 1 1 (by decide)) rfl (by decide) rfl ?_;refine A1 ?_;refine Nt 9 ?_;refine(Aq (((s.x+ch/16)%256:Nat):Int)) (congrArg some (Tn _ _ rfl rfl)) ?_;refine A1 ?_;refine Nt 15 ?_;refine A2 ?_;refine Nt 16 ?_;refine Fg ((k)*4) 1 ?_;refine A1 ?_;exact Nw hd2 () [0,1,2,3,4]
     refine iH (nt:=65) (Z:=Unit) (fun _=>sX [(6,.pointer (some ⟨gn,k*4,none⟩)),(41,.pointer (some ⟨gn,k*4,none⟩)),(42,.pointer (some ⟨gn,k*4,none⟩)),(50,.int .u8 (((s.x+ch/16)%256:Nat):Int)),(53,.pointer (some ⟨gn,k*4+2,none⟩))]) (fun _=>sY [⟨some gn,86,ak jT a,nN,true⟩]) 8 [13,14,15,16,17,18,19,20] (fun z=>?_) (fun hd4=>?_)
     ·(try dsimp only);refine Nd1 13 ?_
      ·refine bn (v:= .int .u8 s.y) 4 ((k)*4+2) _ rfl rfl rfl rfl YZ (jP.sub hx 2 1 (by decide)) rfl (by decide) rfl ?_;refine A1 ?_;refine Nt 14 ?_;refine(Aq (((s.y+1)%256:Nat):Int)) (congrArg some (Tn _ _ rfl rfl)) ?_;refine A1 ?_;refine Nt 15 ?_;refine A2 ?_;refine Nt 16 ?_;refine Fg ((k)*4) 1 ?_;refine A1 ?_;exact Nw hd2 () [0,1,2,3,4]
     refine iH (nt:=65) (Z:=Unit) (fun _=>sX [(6,.pointer (some ⟨gn,k*4,none⟩)),(41,.pointer (some ⟨gn,k*4,none⟩)),(42,.pointer (some ⟨gn,k*4,none⟩)),(46,.int .u8 ((s.x:Nat):Int)),(47,.pointer (some ⟨g0,8,none⟩)),(55,.int .u8 (((s.y+1)%256:Nat):Int))]) (fun _=>sY [⟨some gn,86,ak jT a,nN,true⟩]) 9 [7,8,9,15,16,17,18,19,20] (fun z=>?_) (fun hd5=>?_)
     ·(try dsimp only);refine Nd1 7 ?_
      ·refine A2 ?_;refine Nt 8 ?_;refine(Dv ((ch/16:Nat):Int)) (by exact(congrArg some (qb7 _ _ (by omega) rfl rfl))) ?_;refine A1 ?_;refine Nt 9 ?_;refine(Aq (((s.x+ch/16)%256:Nat):Int)) (congrArg some (Tn _ _ rfl rfl)) ?_;refine A1 ?_;refine Nt 15 ?_;refine A2 ?_;refine Nt 16 ?_;refine Fg ((k)*4) 1 ?_;refine A1 ?_;exact Nw hd2 () [0,1,2,3,4]
     refine iH (nt:=65) (Z:=Unit) (fun _=>sX [(6,.pointer (some ⟨gn,k*4,none⟩)),(41,.pointer (some ⟨gn,k*4,none⟩)),(42,.pointer (some ⟨gn,k*4,none⟩)),(45,.pointer (some ⟨gn,k*4+1,none⟩)),(47,.pointer (some ⟨g0,8,none⟩)),(55,.int .u8 (((s.y+1)%256:Nat):Int))]) (fun _=>sY [⟨some gn,86,ak jT a,nN,true⟩]) 10 [5,7,8,9,15,16,17,18,19,20] (fun z=>?_) (fun hd6=>?_)
     ·(try dsimp only);refine jF [5,7] (by kernel_rfl) rfl ⟨⟨_,rfl,?_⟩,⟨_,rfl,?_⟩,trivial⟩
      ·refine bn (v:= .int .u8 s.x) 4 ((k)*4+1) _ rfl rfl rfl rfl YZ (jP.sub hx 1 1 (by decide)) rfl (by decide) rfl ?_;refine A1 ?_;exact Nw hd5 () [0,1,2,3,4]
      ·refine A2 ?_;refine Nt 8 ?_;refine(Dv ((ch/16:Nat):Int)) (by exact(congrArg some (qb7 _ _ (by omega) rfl rfl))) ?_;refine A1 ?_;exact Nw hd3 () [0,1,2,3,4]
     refine iH (nt:=65) (Z:=Unit) (fun _=>sX [(6,.pointer (some ⟨gn,k*4,none⟩)),(41,.pointer (some ⟨gn,k*4,none⟩)),(42,.pointer (some ⟨gn,k*4,none⟩)),(45,.pointer (some ⟨gn,k*4+1,none⟩)),(49,.int .u8 ((ch/16:Nat):Int)),(53,.pointer (some ⟨gn,k*4+2,none⟩))]) (fun _=>sY [⟨some gn,86,ak jT a,nN,true⟩]) 10 [5,9,13,14,15,16,17,18,19,20] (fun z=>?_) (fun hd7=>?_)
     ·(try dsimp only);refine jF [5,13] (by kernel_rfl) rfl ⟨⟨_,rfl,?_⟩,⟨_,rfl,?_⟩,trivial⟩
      ·refine bn (v:= .int .u8 s.x) 4 ((k)*4+1) _ rfl rfl rfl rfl YZ (jP.sub hx 1 1 (by decide)) rfl (by decide) rfl ?_;refine A1 ?_;refine Nt 9 ?_;refine(Aq (((s.x+ch/16)%256:Nat):Int)) (congrArg some (Tn _ _ rfl rfl)) ?_;refine A1 ?_;exact Nw hd4 () [0,1,2,3,4]
      ·refine bn (v:= .int .u8 s.y) 4 ((k)*4+2) _ rfl rfl rfl rfl YZ (jP.sub hx 2 1 (by decide)) rfl (by decide) rfl ?_;refine A1 ?_;refine Nt 14 ?_;refine(Aq (((s.y+1)%256:Nat):Int)) (congrArg some (Tn _ _ rfl rfl)) ?_;refine A1 ?_;exact Nw hd3 () [0,1,2,3,4]
     refine iH (nt:=65) (Z:=Unit) (fun _=>sX [(6,.pointer (some ⟨gn,k*4,none⟩)),(41,.pointer (some ⟨gn,k*4,none⟩)),(42,.pointer (some ⟨gn,k*4,none⟩)),(46,.int .u8 ((s.x:Nat):Int)),(47,.pointer (some ⟨g0,8,none⟩)),(53,.pointer (some ⟨gn,k*4+2,none⟩))]) (fun _=>sY [⟨some gn,86,ak jT a,nN,true⟩]) 11 [7,8,9,13,14,15,16,17,18,19,20] (fun z=>?_) (fun hd8=>?_)
     ·(try dsimp only);refine jF [7,13] (by kernel_rfl) rfl ⟨⟨_,rfl,?_⟩,⟨_,rfl,?_⟩,trivial⟩
      ·refine A2 ?_;refine Nt 8 ?_;refine(Dv ((ch/16:Nat):Int)) (by exact(congrArg some (qb7 _ _ (by omega) rfl rfl))) ?_;refine A1 ?_;refine Nt 9 ?_;refine(Aq (((s.x+ch/16)%256:Nat):Int)) (congrArg some (Tn _ _ rfl rfl)) ?_;refine A1 ?_;exact Nw hd4 () [0,1,2,3,4]
      ·refine bn (v:= .int .u8 s.y) 4 ((k)*4+2) _ rfl rfl rfl rfl YZ (jP.sub hx 2 1 (by decide)) rfl (by decide) rfl ?_;refine A1 ?_;refine Nt 14 ?_;refine(Aq (((s.y+1)%256:Nat):Int)) (congrArg some (Tn _ _ rfl rfl)) ?_;refine A1 ?_;exact Nw hd5 () [0,1,2,3,4]
     refine Nt 0 ?_;refine A2 ?_;refine Nt 1 ?_;refine A2 ?_;refine Nt 2 ?_;refine A2 ?_;refine Nt 3 ?_;refine A2 ?_;refine Nt 4 ?_;refine Fg ((k)*4) 1 ?_;refine A1 ?_;refine Nt 6 ?_;refine Fg 0 8 ?_;refine A1 ?_;refine Nt 10 ?_;refine A2 ?_;refine Nt 11 ?_;refine A2 ?_;refine Nt 12 ?_;refine Fg ((k)*4) 2 ?_;refine A1 ?_;refine jF [5,7,13] (by kernel_rfl) rfl ⟨⟨_,rfl,?_⟩,⟨_,rfl,?_⟩,⟨_,rfl,?_⟩,trivial⟩
     ·refine bn (v:= .int .u8 s.x) 4 ((k)*4+1) _ rfl rfl rfl rfl YZ (jP.sub hx 1 1 (by decide)) rfl (by decide) rfl ?_;refine A1 ?_;exact Nw hd8 () [0,1,2,3,4]
     ·refine A2 ?_;refine Nt 8 ?_;refine(Dv ((ch/16:Nat):Int)) (by exact(congrArg some (qb7 _ _ (by omega) rfl rfl))) ?_;refine A1 ?_;exact Nw hd7 () [0,1,2,3,4]
     ·refine bn (v:= .int .u8 s.y) 4 ((k)*4+2) _ rfl rfl rfl rfl YZ (jP.sub hx 2 1 (by decide)) rfl (by decide) rfl ?_;refine A1 ?_;refine Nt 14 ?_;refine(Aq (((s.y+1)%256:Nat):Int)) (congrArg some (Tn _ _ rfl rfl)) ?_;refine A1 ?_;exact Nw hd6 () [0,1,2,3,4]
    intro _;show At _ ⟨65,[(1,gU g0),(4,gU g1)],[⟨ab,86,pa++ak jT a,aN,false⟩,⟨bb,86,pb++ak jT b,bN,false⟩,⟨some g0,26,[.int .u8 (ta:Nat),.int .u8 (xa:Nat),.int .u8 (ya:Nat),aI ab pa.length a.length ac,.int .u8 (tb:Nat),.int .u8 (xb:Nat),.int .u8 (yb:Nat),aI bb pb.length b.length bc,.int .u8 (ch:Nat)],9,true⟩,⟨some g1,24,[.int .u8 (ta:Nat),.int .u8 (xa:Nat),.int .u8 (ya:Nat),aI (some gn) 0 a.length nc],4,true⟩,⟨some gn,86,ak jT ((a.set k ⟨s.time,(s.x+ch/16)%256,s.y,s.kind⟩).set k (EX ch s)),nN,true⟩]⟩ _;refine A2 ?_;refine Dp [] [0,1,3,2,4,5,6] ?_;refine A1 ?_;refine L4 2 0 ?_;refine L4 3 0 ?_;refine(Sc [0]) (fJ ta xa ya hta hxa hya a ab pa aN ac hac ha6 has) (fun z=>?_);obtain⟨ub,uN,uc,huc⟩:=z;refine iP [_] [4] rfl rfl (by show _=[some _];rw[hAl];rfl) (fJ ta xa ya hta hxa hya ((a.set k ⟨s.time,(s.x+ch/16)%256,s.y,s.kind⟩).set k (EX ch s)) (some gn) [] nN nc (by rw[hAl];omega) (by rw[hAl];exact ha6) hAo) ⟨pS,trivial⟩ rfl (.inr fun x b hb=>by rw[List.mem_singleton.1 hb]) (fun z=>?_);obtain⟨vb,vN,vc,hvc⟩:=z;refine A5 ?_;refine bg rfl (ai rfl) (ai rfl) (fun w hL=>⟨(⟨ub,uN,uc,huc⟩,⟨vb,vN,vc,by rw[hW];exact hvc⟩),?_,hL.picks [some 5,some 6] ⟨pR,⟨_,rfl,aP (by rw[show ak aQ (pK ta xa ya a tb xb yb b ch)=_ from congrArg _ hW])⟩,trivial⟩ rfl rfl⟩);show Ending.returned (.tuple #[aI ub 0 _ uc,aI vb 0 _ vc])=Ending.returned (.tuple #[aI ub 0 _ uc,aI vb 0 (pK ta xa ya a tb xb yb b ch).length vc]);rw[hW]
   ·have hc1:¬1<ch%4:=by have e:=of_decide_eq_false hb2;omega
    have hW:pK ta xa ya a tb xb yb b ch=gJ ta xa ya a:=(KO hch).trans (by rw[qb8 (fun e=>hc1 e.2)]);refine A3 ?_;refine Dp [] [0,1,3,2,4,5,6] ?_;refine A1 ?_;refine L4 2 0 ?_;refine L4 3 0 ?_;refine(Sc [0]) (fJ ta xa ya hta hxa hya a ab pa aN ac hac ha6 has) (fun z=>?_);obtain⟨ub,uN,uc,huc⟩:=z;refine(Sc [4]) (fJ ta xa ya hta hxa hya a nb [] nN nc (by omega) ha6 has) (fun z=>?_);obtain⟨vb,vN,vc,hvc⟩:=z;refine A5 ?_;refine bg rfl (ai rfl) (ai rfl) (fun w hL=>⟨(⟨ub,uN,uc,huc⟩,⟨vb,vN,vc,by rw[hW];exact hvc⟩),?_,hL.picks [some 5,some 6] ⟨pR,⟨_,rfl,aP (by rw[show ak aQ (pK ta xa ya a tb xb yb b ch)=_ from congrArg _ hW])⟩,trivial⟩ rfl rfl⟩);show Ending.returned (.tuple #[aI ub 0 _ uc,aI vb 0 _ vc])=Ending.returned (.tuple #[aI ub 0 _ uc,aI vb 0 (pK ta xa ya a tb xb yb b ch).length vc]);rw[hW]
  ·have hl0:¬0<a.length:=by have e:=of_decide_eq_false hb1;omega
   have hW:pK ta xa ya a tb xb yb b ch=gJ ta xa ya a:=(KO hch).trans (by rw[qb8 (fun e=>hl0 e.1)]);refine qf ?_;refine Dp [] [0,1,3,2,4,5,6] ?_;refine A1 ?_;refine L4 2 0 ?_;refine L4 3 0 ?_;refine(Sc [0]) (fJ ta xa ya hta hxa hya a ab pa aN ac hac ha6 has) (fun z=>?_);obtain⟨ub,uN,uc,huc⟩:=z;refine(Sc [4]) (fJ ta xa ya hta hxa hya a nb [] nN nc (by omega) ha6 has) (fun z=>?_);obtain⟨vb,vN,vc,hvc⟩:=z;refine A5 ?_;refine bg rfl (ai rfl) (ai rfl) (fun w hL=>⟨(⟨ub,uN,uc,huc⟩,⟨vb,vN,vc,by rw[hW];exact hvc⟩),?_,hL.picks [some 5,some 6] ⟨pR,⟨_,rfl,aP (by rw[show ak aQ (pK ta xa ya a tb xb yb b ch)=_ from congrArg _ hW])⟩,trivial⟩ rfl rfl⟩);show Ending.returned (.tuple #[aI ub 0 _ uc,aI vb 0 _ vc])=Ending.returned (.tuple #[aI ub 0 _ uc,aI vb 0 (pK ta xa ya a tb xb yb b ch).length vc]);rw[hW]
 ·have hch:¬0<ch%4:=by have e:=of_decide_eq_false hb0;omega
  have hW:pK ta xa ya a tb xb yb b ch=gJ tb xb yb b:=qfh hch;refine A3 ?_;refine Dp [] [0,1,3,2,4,5,6] ?_;refine A1 ?_;refine L4 2 0 ?_;refine L4 3 0 ?_;refine(Sc [0]) (fJ ta xa ya hta hxa hya a ab pa aN ac hac ha6 has) (fun z=>?_);obtain⟨ub,uN,uc,huc⟩:=z;refine(Sc [1]) (fJ tb xb yb htb hxb hyb b bb pb bN bc hbc hb6 hbs) (fun z=>?_);obtain⟨vb,vN,vc,hvc⟩:=z;refine A5 ?_;refine bg rfl (ai rfl) (ai rfl) (fun w hL=>⟨(⟨ub,uN,uc,huc⟩,⟨vb,vN,vc,by rw[hW];exact hvc⟩),?_,hL.picks [some 4,some 5] ⟨pR,⟨_,rfl,aP (by rw[show ak aQ (pK ta xa ya a tb xb yb b ch)=_ from congrArg _ hW])⟩,trivial⟩ rfl rfl⟩);show Ending.returned (.tuple #[aI ub 0 _ uc,aI vb 0 _ vc])=Ending.returned (.tuple #[aI ub 0 _ uc,aI vb 0 (pK ta xa ya a tb xb yb b ch).length vc]);rw[hW]
end Go.Proofs.YtaffcpfhedadhaaGreatDoor
namespace Go.Via
open Go
structure qlY(m:Int)(lo hi:Int->Int)(w u:PU):Prop where
 f:jl w.i.f
 t:jl w.i.t
 b:aY iM w.i.b=lo (aY iM u.i.b)
 e:aY iM w.i.e=hi (aY iM u.i.e)
 lt:aY iM w.i.b<aY iM w.i.e
 agr:w.f=u.f∨(2*m<=aY iM w.i.b∧aY iM w.i.e<=2*m+1∧ry (qx w.f) (m:Rat)=ry (qx u.f) (m:Rat)∧ry (qy w.f) (m:Rat)=ry (qy u.f) (m:Rat))
structure qlp(z x:Iv×Qd):Prop where
 f:jl z.1.f
 t:jl z.1.t
 lt:aY iM z.1.b<aY iM z.1.e
 b:aY iM x.1.b<=aY iM z.1.b
 e:aY iM z.1.e<=aY iM x.1.e
 same:dV (z.1,x.2)=dV z
end Go.Via
namespace Go.Via
open Go
structure qlZ(l:List qA)(M:Rat):Prop where
 le:∀p∈l,∀u,p.a=rl u∨p.b=rl u->u<=M
 mem:∃p∈l,p.a=rl M∨p.b=rl M
section
variable{m:Int}{a b:List PU}
theorem qcc{a b:List PU}{z:Iv×Qd}:z∈flatK Dx a b↔∃x∈a,∃y∈b,Dx x y=some z:=by
 unfold flatK;rw[List.mem_flatMap]
 constructor
 ·rintro⟨x,hx,h⟩;obtain⟨y,hy,e⟩:=List.mem_filterMap.1 h;exact⟨x,hx,y,hy,e⟩
 ·rintro⟨x,hx,y,hy,e⟩;exact⟨x,hx,List.mem_filterMap.2 ⟨y,hy,e⟩⟩
end
end Go.Via
namespace Go.Via
open Go
def Tq{f:Ln}{t:Rl}(hf:iV f<=15)(ht:ik t<=2):iV (iL f t)<=38:=by
 have h3:=rD t;have a0:=qP f;have a1:=qQ f;have a2:=qR f;have a3:=qU f;have z:=vk;have h1:bP (ry (qx f) t.p)<=38:=by
  have h:=ww (qx f) t.p;have e:bP (qx f).c2<=2:=z;have e0:bP (qx f).c0=bP f.x0:=rfl;have e1:bP (qx f).c1=bP f.x1:=rfl;omega
 have h2:bP (ry (qy f) t.p)<=38:=by
  have h:=ww (qy f) t.p;have e:bP (qy f).c2<=2:=z;have e0:bP (qy f).c0=bP f.y0:=rfl;have e1:bP (qy f).c1=bP f.y1:=rfl;omega
 unfold iL
 split
 ·show max (max (bP (ry (qx f) t.p)) (bP 0)) (max (bP (ry (qy f) t.p)) (bP 0))<=38;omega
 ·omega
def qhS(l:List PU):Prop:=∀u∈l,kT u.i<=2∧iV u.f<=38
section
variable{t x y:Nat}{l:List rG}
def PK(h6:l.length<=6):qhS (gJ t x y l):=fun u hu=>by
 have he:=NS h6 u hu;refine⟨wB he.1.2 he.2.2,?_⟩;rw[xA h6] at hu;refine Nr (P:=fun f=>iV f<=38) (fun v hv=>?_) u hu;have h:=Dn (l:=l) (Ky h6) (o:=[]) (by simp) v hv;exact⟨Nat.le_trans h.2.2 (by omega),Tq h.2.2 h.1.2,Tq h.2.2 h.2.1.2⟩
end
structure Fl(A B:List PU):Prop where
 sa:He A
 sb:He B
 H:SS A B
 la:A.length<=21
 lb:B.length<=21
 za:qhS A
 zb:qhS B
def SS.swap{A B:List PU}(H:SS A B):SS B A:=⟨H.sb,H.sa,H.eb,H.ea⟩
def Fl.swap{A B:List PU}(F:Fl A B):Fl B A:=⟨F.sb,F.sa,F.H.swap,F.lb,F.la,F.zb,F.za⟩
section
variable{ta xa ya tb xb yb ch:Nat}{a b:List rG}
def qhT(ha:a.length<=6)(hb:b.length<=6):Fl (gJ ta xa ya a) (pK ta xa ya a tb xb yb b ch):=
 ⟨KD ha,qca ha hb,qcb,KE ha,qb9 ha hb,PK ha,by
 unfold pK;split
 ·exact PK (by rw[PI];exact ha)
 ·exact PK hb⟩
end
abbrev Hf(A B:List PU):List qA:=(ay A B).map dV
section
variable{A B:List PU}
theorem Fl.flat(F:Fl A B):ay A B=flatK Dx A B:=qB zO F.H.sa F.H.sb F.H.ea F.H.eb
def Fl.PS(F:Fl A B):∀x∈ay A B,(jl x.1.f∧jl x.1.t)∧aY iM x.1.b<aY iM x.1.e:=fun x hx=>by
 rw[F.flat] at hx;exact WB zO F.H.ea F.H.eb x hx
theorem Fl.ps(F:Fl A B):∀z∈ay A B,kT z.1<=2∧uk z.2<=324:=fun z hz=>by
 rw[F.flat,qcc] at hz;obtain⟨x,hx,y,hy,e⟩:=hz;unfold Dx wU at e
 split at e
 ·simp at e;subst e;exact⟨Sz (F.za x hx).1 (F.zb y hy).1,Nat.le_trans (Po (F.za x hx).2 (F.zb y hy).2) (by omega)⟩
 ·simp at e
def qfS{f:Qd}{t:Rl}(ht:jl t)(hf:uk f<=324)(hz:ik t<=2):ik (F8 f t)<=1000:=by
 obtain⟨z,rfl⟩:=ht;rw[yh];have h:=ww f (z:Rat);have h0:=o6 f;have h1:=o7 f;have h2:=pV f;have h3:bP (z:Rat)<=2:=Nat.le_trans (rD (rl (z:Rat))) hz;exact vZ (by omega) (by omega)
def Fl.sz(F:Fl A B):∀p∈Hf A B,kT p.i<=1000∧ik p.a<=1000∧ik p.b<=1000:=fun p hp=>by
 obtain⟨x,hx,rfl⟩:=List.mem_map.1 hp;obtain⟨h1,h2⟩:=F.ps x hx;obtain⟨h3,h4⟩:=(F.PS x hx).1;exact⟨Nat.le_trans h1 (by omega),qfS h3 h2 (Nat.le_trans (lg _) h1),qfS h4 h2 (Nat.le_trans (kH _) h1)⟩
theorem Fl.n(F:Fl A B):(Hf A B).length<=42:=by
 have h:=Bz A B;have h1:=F.la;have h2:=F.lb;rw[List.length_map];omega
def Fl.ne(h:(Hf A B).length≠0):ay A B≠[]:=fun e=>h (by rw[Hf,e];rfl)
def Fl.mostz(F:Fl A B):ik (Rq (Hf A B))<=1000:=by
 by_cases h:ay A B=[]
 ·rw[Hf,h];exact vZ (Nat.le_trans vk (by omega)) (by omega)
 ·rw[J6 F.H.sa F.H.sb F.H.ea F.H.eb h];obtain⟨p,hp,e⟩:=YF (l:=Hf A B) (by intro e;exact h (List.map_eq_nil_iff.1 e));have:=F.sz p hp;rcases e with e|e<;>rw[e]
  ·exact this.2.1
  ·exact this.2.2
theorem Fl.most(F:Fl A B)(h:(Hf A B).length≠0):fF (Hf A B)=Rq (Hf A B):=(J6 F.H.sa F.H.sb F.H.ea F.H.eb (Fl.ne h)).symm
def Fl.greatz(F:Fl A B)(h:(Hf A B).length≠0):ik (fF (Hf A B))<=1000:=by rw[F.most h];exact F.mostz
def Fl.ok(F:Fl A B)(h:(Hf A B).length≠0):wY A B (Hf A B) (fF (Hf A B))=0:=qbh F.H.sa F.H.sb F.H.ea F.H.eb (Fl.ne h)
def Fl.comm(F:Fl A B):Hf B A=Hf A B:=by rw[Hf,Hf,Sj F.H.sa F.H.sb F.H.ea F.H.eb]
def Fl.nil(F:Fl A B)(h:(Hf A B).length=0)(c:List qA)(m:Rl):wY A B c m=36:=by
 unfold wY;rw[if_pos (by rw[List.map_eq_nil_iff.1 (List.length_eq_zero_iff.1 h)];rfl)]
def Fl.atN(F:Fl A B){m:Rl}(hm:m.ok)(h:(Hf A B).length=0):UX A B m=none:=by
 cases e:UX A B m with
 |none=>rfl
 |some d=>exact absurd (List.map_eq_nil_iff.1 (List.length_eq_zero_iff.1 h)) (ND hm F.H.sa F.H.sb F.H.ea F.H.eb e).1
def Fl.atS(F:Fl A B){m d:Rl}(hm:m.ok)(e:UX A B m=some d):bH d (fF (Hf A B))<=0:=(ND hm F.H.sa F.H.sb F.H.ea F.H.eb e).2
def Fl.atz(F:Fl A B){m:Rl}(hz:ik m<=20):ik ((UX A B m).getD (rl 0))<=4000:=by
 cases e:UX A B m with
 |none=>exact vZ (Nat.le_trans vk (by omega)) (by omega)
 |some d=>
  obtain⟨x,hx,y,hy,_,_,rfl⟩:=RY e;have h1:=Po (F.za x hx).2 (F.zb y hy).2;exact Nat.le_trans (Pj h1 hz) (by omega)
theorem Fl.with(F:Fl A B){x:Rl}(h:decide (bH (Rq (Hf A B)) x<=0)=true):((if(Hf A B).length=0 then(36:Int) else 0) !=0||decide (bH (fF (Hf A B)) x<=0))=true:=by
 by_cases h0:(Hf A B).length=0
 ·rw[if_pos h0];rfl
 ·rw[F.most h0,h,Bool.or_true]
end
end Go.Via
namespace Go.Proofs.YtaffcpfhedadhaaGreatDoor
open Go Go.RowKit Go.Via
def qcd{ta xa ya tb xb yb ch:Nat}{a b:List rG}{A B:List PU}(hA:gJ ta xa ya a=A)(hB:pK ta xa ya a tb xb yb b ch=B)(hta:ta<256)(hxa:xa<256)(hya:ya<256)(htb:tb<256)(hxb:xb<256)(hyb:yb<256)(hch:ch<256)
 {ab:Option Nat}{pa:List Value}(aN ac:Nat)(hac:a.length<=ac)(ha6:a.length<=6)(has:∀s∈a,YT s){bb:Option Nat}{pb:List Value}(bN bc:Nat)(hbc:b.length<=bc)(hb6:b.length<=6)(hbs:∀s∈b,YT s):
 bZ Tryz.prog 13 [⟨ab,86,pa++ak jT a,aN,false⟩,⟨bb,86,pb++ak jT b,bN,false⟩] [.agg #[.int .u8 (ta:Nat),.int .u8 (xa:Nat),.int .u8 (ya:Nat),aI ab pa.length a.length ac,.int .u8 (tb:Nat),.int .u8 (xb:Nat),.int .u8 (yb:Nat),aI bb pb.length b.length bc,.int .u8 (ch:Nat)]] (SR A.length×SR B.length) (fun z=> .tuple #[z.1.v,z.2.v]) (fun z=>[⟨z.1.b,100,ak aQ A,z.1.n,true⟩,⟨z.2.b,100,ak aQ B,z.2.n,true⟩]):=by
 subst hA;subst hB;exact KP ta xa ya tb xb yb ch hta hxa hya htb hxb hyb hch a ab pa aN ac hac ha6 has b bb pb bN bc hbc hb6 hbs
section
variable{A B:List PU}
end
end Go.Proofs.YtaffcpfhedadhaaGreatDoor
namespace Go.Via
open Go
def frP(a b:Nat):Rat:=Rat.divInt ((a%64:Nat):Int) ((1+b%4:Nat):Int)
def frR(c d:Nat):Rat:=Rat.divInt ((c%12:Nat):Int) ((1+d%3:Nat):Int)
def Tt(a b c d:Nat)(s:Bool):Rl:=if qw (Rat.divInt ((c%12:Nat):Int) ((1+d%3:Nat):Int))=true then(if s=true then rl ((Rat.divInt ((a%64:Nat):Int) ((1+b%4:Nat):Int))-fP (Rat.divInt ((c%12:Nat):Int) ((1+d%3:Nat):Int))) else rl ((Rat.divInt ((a%64:Nat):Int) ((1+b%4:Nat):Int))+fP (Rat.divInt ((c%12:Nat):Int) ((1+d%3:Nat):Int)))) else⟨(Rat.divInt ((a%64:Nat):Int) ((1+b%4:Nat):Int)),(Rat.divInt ((c%12:Nat):Int) ((1+d%3:Nat):Int)),s⟩
def qhV(a b:Nat):bP (frP a b)<=4:=Nat.le_trans (lY (a:=1) (b:=1) (jC (by omega) (by omega)) (jC (by omega) (by omega)) (Nat.le_refl _)) (by omega)
def qhW(a b:Nat):bP (frR a b)<=4:=Nat.le_trans (lY (a:=1) (b:=1) (jC (by omega) (by omega)) (jC (by omega) (by omega)) (Nat.le_refl _)) (by omega)
def qhX(c d:Nat):0<=frR c d:=Rat.divInt_nonneg (by omega) (by omega)
theorem Xi(a b c d:Nat)(s:Bool):Tt a b c d s=if qw (frR c d)=true then(if s=true then rl (frP a b-fP (frR c d)) else rl (frP a b+fP (frR c d))) else⟨frP a b,frR c d,s⟩:=rfl
def PL(a b c d:Nat)(s:Bool):(Tt a b c d s).ok:=by
 rw[Xi]
 split
 ·split<;>exact qfC _
 ·rename_i h
  refine .inr ⟨?_,by simpa using h⟩;show 0<frR c d;have h1:=qhX c d;exact Rat.lt_of_le_of_ne h1 fun e=>h (by rw[<-e];exact Ew)
def Xj(a b c d:Nat)(s:Bool):ik (Tt a b c d s)<=20:=by
 rw[Xi];have h1:=qhV a b;have h2:=qhW c d;have h3:=EK (frR c d);have h4:=bz (frP a b) (fP (frR c d));have h5:=bC (frP a b) (fP (frR c d))
 split
 ·split
  ·exact vZ (by omega) (by omega)
  ·exact vZ (by omega) (by omega)
 ·exact Nat.max_le.2 ⟨by show bP (frP a b)<=20;omega,by show bP (frR c d)<=20;omega⟩
end Go.Via
namespace Go.Proofs.YtaffcpfhedadhaaGreatDoor
open Go Go.RowKit Go.Via
def LG(ta xa ya tb xb yb ch:Nat)(a b:List rG)(ab bb:Option Nat)(pa pb:List Value)(ac bc:Nat):aH Tryz.prog 12 #[.agg #[.int .u8 (ta:Nat),.int .u8 (xa:Nat),.int .u8 (ya:Nat),aI ab pa.length a.length ac,.int .u8 (tb:Nat),.int .u8 (xb:Nat),.int .u8 (yb:Nat),aI bb pb.length b.length bc,.int .u8 (ch:Nat)]] (.bool (decide (a.length<=6)&&decide (b.length<=6))):=by
 refine uU 15 Tryz.func12 fun w=>?_;refine A2 ?_;refine Bp 9 (fun g0=>?_);refine qf ?_;refine Rs 8 ?_ ?_<;>intro hb0
 ·have hs1:a.length<=6:=by have e:=of_decide_eq_true hb0;omega
  refine kL ?_;refine E0 ?_;exact congrArg (fun z=>Ending.returned (.bool z)) (by rw[decide_eq_true hs1,Bool.true_and];exact decide_eq_decide.2 (by omega))
 ·have hs1:¬a.length<=6:=by have e:=of_decide_eq_false hb0;omega
  refine kL ?_;refine E0 ?_;exact congrArg (fun z=>Ending.returned (.bool z)) (by rw[decide_eq_false hs1];rfl)
def PM(ia ib ic id:Nat)(s:Bool)(hia:ia<256:=by omega)(hib:ib<256:=by omega)(hic:ic<256:=by omega)(hid:id<256:=by omega):aH Tryz.prog 19 #[.agg #[.int .u8 (ia:Nat),.int .u8 (ib:Nat),.int .u8 (ic:Nat),.int .u8 (id:Nat),.bool s]] (RV (Tt ia ib ic id s)):=by
 refine uU 5 Tryz.func19 fun w=>?_;refine A2 ?_;refine Bp 5 (fun g0=>?_);refine Al 9 MC (fun g1=>?_);refine A4 ?_;refine Ld 0 0 [_,_,_,_,_] qiK ?_;refine Pc (Ii ia ib ic id s hia hib hic hid) ?_;refine Ss 1 ?_;refine A3 ?_;refine QG 1 ?_;exact rfl
end Go.Proofs.YtaffcpfhedadhaaGreatDoor
namespace Go.Via
open Go
def Ve(x:Rl):Int:=oK x.p (jA x) x.r
def lF(x:Rl):Int:=
 (if x.n=true then x.p.num*x.r.den-((bM ((x.p.den*x.p.den)*(x.r.num.natAbs*x.r.den)):Nat)+1) else x.p.num*x.r.den+(bM ((x.p.den*x.p.den)*(x.r.num.natAbs*x.r.den)):Nat))/((x.p.den*x.r.den:Nat):Int)
def dA(q:Qd):List Rl:=
 if q.c2=0 then(if q.c1=0 then[] else[rl (-(q.c0/q.c1))]) else
 let h:=q.c1/(-2*q.c2)
 let r:=h*h-q.c0/q.c2
 if r<0 then[] else if r=0 then[rl h] else[mkR h (-1) r,mkR h 1 r]
def rV(x y:Rl):Option Rat:=
 if dN x=true∧dN y=true∧ik x<=1000∧ik y<=1000∧¬Ve x<0∧0<Ve y∧0<bH y (rl ((lF x+1:Int):Rat))∧x.n=false∧jf (lF x)<=4000 then some ((lF x+1:Int):Rat) else none
def EY(sm:Rl->Rl->Option Rat)(q:Qd)(i:Iv):Option Int:=
 if bH i.f i.t<0 then(sm i.f i.t).bind fun r=>if bP r<=5000 then some (Ve (F8 q (rl r))) else none else none
def gy(sm:Rl->Rl->Option Rat)(q:Qd)(i:Iv):List Rl->Iv->List (Iv×Int)->Option (List (Iv×Int))
 |[],rest,out=>if jr rest=true then(EY sm q rest).map fun s=>out++[(rest,s)] else some out
 |r::rs,rest,out=>
  if xh i r=false then gy sm q i rs rest out else
  if bH rest.f r<0 then(EY sm q ⟨rest.f,r,rest.fo,true⟩).bind fun s=>gy sm q i rs ⟨r,rest.t,true,rest.tp⟩ (out++[(⟨rest.f,r,rest.fo,true⟩,s),(⟨r,r,false,false⟩,0)])
  else gy sm q i rs ⟨r,rest.t,true,rest.tp⟩ (out++[(⟨r,r,false,false⟩,0)])
def qlq(l:List Iv)(i:Iv):List Iv:=match l.getLast? with
 |some u=>l.dropLast++[⟨u.f,i.t,u.fo,i.tp⟩]
 |none=>l
def mX(a b c:Bool)(s:Int):Bool:=if s<0 then a else if s=0 then b else c
def nI(w:Int->Bool):List (Iv×Int)->List Iv->Bool->List Iv
 |[],out,_=>out
 |p::ps,out,before=>if w p.2=true then nI w ps (if before=true then qlq out p.1 else out++[p.1]) true else nI w ps out false
def rO(sm:Rl->Rl->Option Rat)(w:Int->Bool)(q:Qd)(i:Iv):Option (List Iv):=(gy sm q i (dA q) i []).map fun l=>nI w l [] false
def KQ(sm:Rl->Rl->Option Rat)(r:Rat):List (Iv×Qd)->Option (List Iv)
 |[]=>some []
 |x::l=>(rO sm (mX false false true) (o8 x.2 ⟨r*r,0,0⟩) x.1).bind fun a=>(KQ sm r l).map fun b=>a++b
end Go.Via
namespace Go.Via
open Go
def qV(n:Int):Rat.divInt n 1=(n:Rat):=by have h:=Rat.num_divInt_den (n:Rat);rw[Rat.num_intCast,Rat.den_intCast] at h;exact h
def Xk(t:Rl)(a b:Bool):mG ⟨rl 0,t,a,b⟩= .agg #[aU,aV,aU,aV,aU,aV,aU,aV,.bool false,.bool (decide (t.p.num<0)),.string (bF t.p.num.natAbs),.bool false,.string (dm t.p),.bool (decide (t.r.num<0)),.string (bF t.r.num.natAbs),.bool false,.string (dm t.r),.bool t.n,.bool a,.bool b]:=by
 unfold mG rl;simp only[Sl,dm0,Sm]
def qhY(q:Rat):wH ⟨0,q,0,0⟩= .agg #[aU,aV,aU,aV,.bool (decide (q.num<0)),.string (bF q.num.natAbs),.bool false,.string (dm q),aU,aV,aU,aV,aU,aV,aU,aV]:=by
 unfold wH;simp only[Sl,dm0,Sm]
def qhZ(q:Rat):wH ⟨0,0,q,0⟩= .agg #[aU,aV,aU,aV,aU,aV,aU,aV,.bool (decide (q.num<0)),.string (bF q.num.natAbs),.bool false,.string (dm q),aU,aV,aU,aV]:=by
 unfold wH;simp only[Sl,dm0,Sm]
def qjH(p q r:Rat):wH ⟨p,q,r,0⟩= .agg #[.bool (decide (p.num<0)),.string (bF p.num.natAbs),.bool false,.string (dm p),.bool (decide (q.num<0)),.string (bF q.num.natAbs),.bool false,.string (dm q),.bool (decide (r.num<0)),.string (bF r.num.natAbs),.bool false,.string (dm r),aU,aV,aU,aV]:=by
 unfold wH;simp only[Sl,dm0,Sm]
def rz(n:Int):Rl:=rl (n:Rat)
def qjI{n:Int}(h1: -255<=n)(h2:n<=255):ik (rz n)<=2:=vZ (ny h1 h2) (Nat.le_refl _)
def eA1:PU:=⟨⟨rl 0,rz 4,false,false⟩,⟨0,((1:Int):Rat),0,0⟩⟩
def eB1:PU:=⟨⟨rl 0,rz 2,false,false⟩,⟨0,0,((3:Int):Rat),0⟩⟩
def eB2:PU:=⟨⟨rz 2,rz 4,true,false⟩,⟨((-4:Int):Rat),((2:Int):Rat),((3:Int):Rat),0⟩⟩
end Go.Via
namespace Go.Proofs.YtaffcpfhedadhaaGreatDoor
open Go Go.RowKit Go.Via
def gY(n:Int)(h1: -255<=n:=by omega)(h2:n<=255:=by omega):aH Tryz.prog 36 #[.int .i64 n] (RV (rz n)):=by
 refine uU 6 Tryz.func36 fun w=>?_;refine A2 ?_;refine Al 9 MC (fun g0=>?_);refine A5 ?_;refine Pc (gu n 1) ?_;refine aW 4 (Q (n:Rat)) rfl (congrArg Q (qV n)) ?_;refine(Bu [(0,_)]) (zu) ?_;refine Ss 0 ?_;refine A3 ?_;refine QG 0 ?_;exact congrArg Ending.returned (G8 (n:Rat)).symm
def Ij:bZ Tryz.prog 39 [] [] (SR [eA1].length×SR [eB1,eB2].length) (fun z=> .tuple #[z.1.v,z.2.v]) (fun z=>[⟨z.1.b,100,ak aQ [eA1],z.1.n,true⟩,⟨z.2.b,100,ak aQ [eB1,eB2],z.2.n,true⟩]):=by
 refine sB0 24 Tryz.func39 fun w hL0=>?_;refine A8 ?_;refine Pc (gY 4) ?_;refine(Bu [(1,_)]) (Oz) ?_;refine aW 3 (mG eA1.i) rfl (Xk _ _ _).symm ?_;refine Pc (gu 1 1) ?_;refine aW 4 (Q ((1:Int):Rat)) rfl (congrArg Q (qV 1)) ?_;refine(Bu [(1,_)]) (qdf) ?_;refine aW 5 (wH eA1.f) rfl (qhY _).symm ?_;refine(Bu [(0,_),(1,_)]) (qI) ?_;refine Kr 6 (UQ eA1) ?_;refine(Bl 36 [(0,_)]) (tC) (fun g0=>?_);refine A5 ?_;refine Pc (gY 2) ?_;refine(Bu [(1,_)]) (Oz) ?_;refine aW 9 (mG eB1.i) rfl (Xk _ _ _).symm ?_;refine Pc (gu 3 1) ?_;refine aW 10 (Q ((3:Int):Rat)) rfl (congrArg Q (qV 3)) ?_;refine(Bu [(2,_)]) (qdg) ?_;refine aW 11 (wH eB1.f) rfl (qhZ _).symm ?_;refine(Bu [(0,_),(1,_)]) (qI) ?_;refine Kr 12 (UQ eB1) ?_;refine Pc (gY 2) ?_;refine Pc (gY 4) ?_;refine(Bu [(0,_),(1,_),(2,_)]) (Ud) ?_;refine Kr 15 (mG eB2.i) ?_;refine Pc (gu (-4) 1) ?_;refine aW 16 (Q (((-4):Int):Rat)) rfl (congrArg Q (qV (-4))) ?_;refine Pc (gu 2 1) ?_;refine aW 17 (Q ((2:Int):Rat)) rfl (congrArg Q (qV 2)) ?_;refine Pc (gu 3 1) ?_;refine aW 18 (Q ((3:Int):Rat)) rfl (congrArg Q (qV 3)) ?_;refine(Bu [(0,_),(1,_),(2,_)]) (qgw) ?_;refine aW 19 (wH eB2.f) rfl (qjH _ _ _).symm ?_;refine(Bu [(0,_),(1,_)]) (qI) ?_;refine Kr 20 (UQ eB2) ?_;refine(Bl 72 [(0,_),(1,_)]) (qgy) (fun g1=>?_);refine lK ?_;refine bg rfl (ai rfl) (ai rfl) (fun w hL=>⟨(⟨some g0,36,1,Nat.le_refl _⟩,⟨some g1,72,2,Nat.le_refl _⟩),?_,hL.pk [some 0,some 1]⟩);exact rfl
def Ag(x:Rl)(r:Rat)(hx:ik x<=50000:=by omega)(hr:bP r<=20000:=by omega):aH Tryz.prog 68 #[RV x,Q r] (.bool (decide (bH x (rl (r*r))<=0))):=by
 have h2:=uP hr hr;refine nG 11 Tryz.func68 fun w=>?_;refine A2 ?_;refine Bp 9 (fun g0=>?_);refine Bp 4 (fun g1=>?_);refine A4 ?_;refine Di [] ?_;refine L9 0 0 ?_;refine L4 1 0 ?_;refine L4 1 0 ?_;refine Pc (aG r r) ?_;refine Pc (vw x (r*r) hx) ?_;refine A5 ?_;refine E0 ?_;exact rfl
def uB(cb:Option Nat)(cn cc:Nat)(x:Rl)(r:Rat)(hx:ik x<=50000:=by omega)(hr:bP r<=20000:=by omega):aH Tryz.prog 26 #[CfV (aI cb 0 cn cc) x,Q r] (.bool (decide (bH x (rl (r*r))<=0))):=by
 refine nG 9 Tryz.func26 fun w=>?_;refine A2 ?_;refine Bp 10 (fun g0=>?_);refine Bp 4 (fun g1=>?_);refine A6 ?_;refine L9 0 1 ?_;refine L4 1 0 ?_;refine Pc (Ag x r hx hr) ?_;refine A4 ?_;refine E0 ?_;exact rfl
end Go.Proofs.YtaffcpfhedadhaaGreatDoor
namespace Go.Via
open Go
theorem qh0(x:Rl):(((x.p.den:Int)*(x.p.den:Int))*(x.r.num*(x.r.den:Int))).natAbs=(x.p.den*x.p.den)*(x.r.num.natAbs*x.r.den):=by
 rw[Int.natAbs_mul,Int.natAbs_mul,Int.natAbs_mul];rfl
def qh1{x:Rl}(h:0<=x.r):¬((x.p.den:Int)*(x.p.den:Int))*(x.r.num*(x.r.den:Int))<0:=by
 have h1:0<=x.r.num:=Rat.num_nonneg.2 h;have h2:0<=((x.p.den:Int)*(x.p.den:Int))*(x.r.num*(x.r.den:Int)):=Int.mul_nonneg (Int.mul_nonneg (Int.natCast_nonneg _) (Int.natCast_nonneg _)) (Int.mul_nonneg h1 (Int.natCast_nonneg _));omega
def qcf{x:Rl}(hn:x.n=false):(x.p.num*(x.r.den:Int)+((bM (((x.p.den:Int)*(x.p.den:Int))*(x.r.num*(x.r.den:Int))).natAbs:Nat):Int))/((x.p.den:Int)*(x.r.den:Int))=lF x:=by
 unfold lF;rw[if_neg (by rw[hn];decide),qh0];simp only[Int.natCast_mul]
def qcg(x:Rl):(x.p.den:Int)*(x.r.den:Int)≠0:=Int.mul_ne_zero (by have:=x.p.den_pos;omega) (by have:=x.r.den_pos;omega)
def Vf{x y:Rl}{r:Rat}(h:rV x y=some r):(dN x=true∧dN y=true∧ik x<=1000∧ik y<=1000∧¬Ve x<0∧0<Ve y∧0<bH y (rl ((lF x+1:Int):Rat))∧x.n=false∧jf (lF x)<=4000)∧r=((lF x+1:Int):Rat):=by
 unfold rV at h
 split at h
 ·rename_i hc;exact⟨hc,by injection h with e;exact e.symm⟩
 ·cases h
section
variable{sm:Rl->Rl->Option Rat}{q:Qd}{i:Iv}
def Du{s:Int}(h:EY sm q i=some s):bH i.f i.t<0∧∃r,sm i.f i.t=some r∧bP r<=5000∧s=Ve (F8 q (rl r)):=by
 unfold EY at h
 split at h
 ·rename_i hc
  refine⟨hc,?_⟩;rcases hs:sm i.f i.t with _|r
  ·rw[hs] at h;cases h
  ·rw[hs] at h;simp only[Option.bind_some] at h
   split at h
   ·rename_i h5;injection h with e;exact⟨r,rfl,h5,e.symm⟩
   ·cases h
 ·cases h
variable{x:Rl}{k:Nat}{rs:List Rl}{rest:Iv}{o l:List (Iv×Int)}
def qfT(hx:rs[k]? =some x)(hin:xh i x=false)(h:gy sm q i (rs.drop k) rest o=some l):gy sm q i (rs.drop (k+1)) rest o=some l:=by
 rw[wF hx,gy,if_pos hin] at h;exact h
def qfU(hx:rs[k]? =some x)(hin:xh i x=true)(hlt:bH rest.f x<0)(h:gy sm q i (rs.drop k) rest o=some l):∃s,EY sm q ⟨rest.f,x,rest.fo,true⟩=some s∧gy sm q i (rs.drop (k+1)) ⟨x,rest.t,true,rest.tp⟩ (o++[(⟨rest.f,x,rest.fo,true⟩,s)]++[(⟨x,x,false,false⟩,0)])=some l:=by
 rw[wF hx,gy,if_neg (by rw[hin];decide),if_pos hlt] at h;rcases hp:EY sm q ⟨rest.f,x,rest.fo,true⟩ with _|s
 ·rw[hp] at h;cases h
 ·rw[hp] at h;exact⟨s,rfl,by rw[List.append_assoc];exact h⟩
def qfV(hx:rs[k]? =some x)(hin:xh i x=true)(hge:¬bH rest.f x<0)(h:gy sm q i (rs.drop k) rest o=some l):gy sm q i (rs.drop (k+1)) ⟨x,rest.t,true,rest.tp⟩ (o++[(⟨x,x,false,false⟩,0)])=some l:=by
 rw[wF hx,gy,if_neg (by rw[hin];decide),if_neg hge] at h;exact h
def Xl(ho:jr rest=true)(h:gy sm q i (rs.drop rs.length) rest o=some l):∃s,EY sm q rest=some s∧l=o++[(rest,s)]:=by
 rw[List.drop_length,gy,if_pos ho] at h;rcases hp:EY sm q rest with _|s
 ·rw[hp] at h;cases h
 ·rw[hp] at h;injection h with e;exact⟨s,rfl,e.symm⟩
def Xm(ho:jr rest=false)(h:gy sm q i (rs.drop rs.length) rest o=some l):l=o:=by
 rw[List.drop_length,gy,if_neg (by rw[ho];decide)] at h
 injection h with e;exact e.symm
end
def qch{q:Qd}(h2:q.c2≠0)(hr:q.c1/(-2*q.c2)*(q.c1/(-2*q.c2))-q.c0/q.c2=0):dA q=[rl (q.c1/(-2*q.c2))]:=by
 unfold dA;rw[if_neg h2];dsimp only;rw[hr,if_neg (by decide),if_pos rfl]
end Go.Via
namespace Go.Proofs.YtaffcpfhedadhaaGreatDoor
open Go Go.RowKit Go.Via
def Ah(q:Rat):aH Tryz.prog 279 #[Q q] (I q.num):=by
 refine uU 5 Tryz.func279 fun w=>?_;refine A2 ?_;refine Bp 4 (fun g0=>?_);refine Al 2 wM (fun g1=>?_);refine A5 ?_;refine L2 0 0 ?_;refine Ss 1 ?_;refine A3 ?_;refine PP 1 ?_;exact rfl
def KR(z:Int)(h0:¬z<0)(hz:nb z.natAbs<=33554432:=by omega):aH Tryz.prog 280 #[I z] (.tuple #[I ((bM z.natAbs:Nat):Int),.int .i64 0]):=by
 refine uU 11 Tryz.func280 fun w=>?_;refine A2 ?_;refine Bp 2 (fun g0=>?_);refine Al 2 wM (fun g1=>?_);refine kL ?_;refine Cd ?_ ?_<;>intro hb0
 ·exact absurd (of_decide_eq_true hb0) h0
 ·refine A6 ?_;refine Pc (zU z.natAbs hz) ?_;refine Pc (cu false (bM z.natAbs)) ?_;refine Ss 1 ?_;refine A4 ?_;refine bg rfl (bf 1 rfl rfl xQ (vs:=[_,_]) rfl rfl (Nat.le_of_ble_eq_true rfl) rfl) (ai rfl) (fun w hL=>⟨?_,hL.below⟩);exact rfl
def yJ(p q:Rat)(hp:bP p<=4194303:=by omega)(hq:bP q<=4194303:=by omega):aH Tryz.prog 234 #[Q p,Q q] (Q (p/q)):=by
 refine nG 14 Tryz.func234 fun w=>?_;refine A2 ?_;refine Bp 4 (fun g0=>?_);refine Bp 4 (fun g1=>?_);refine Al 4 pM (fun g2=>?_);refine A4 ?_;refine L4 0 0 ?_;refine L4 1 0 ?_;refine Pc (zV p q hp hq) ?_;refine A3 ?_;refine Al 4 pM (fun g3=>?_);refine Ss 3 ?_;refine A5 ?_;refine L4 3 0 ?_;refine Ss 2 ?_;refine A3 ?_;refine GL 2 ?_;exact rfl
def PN(z:Int)(hz:jf z<=8388608:=by omega):aH Tryz.prog 261 #[I z] (Q (z:Rat)):=by
 refine uU 12 Tryz.func261 fun w=>?_;refine A2 ?_;refine Bp 2 (fun g0=>?_);refine Al 4 pM (fun g1=>?_);refine A3 ?_;refine Dq [3000000] [0,1,2,3,4,6,7,5,8] ?_;refine L2 0 0 ?_;refine Pc (lJ 1) ?_;refine Pc (yE z 1 hz (Nat.le_trans (jC (by omega) (by omega)) (by omega))) ?_;refine A2 ?_;refine aW 9 (Q (z:Rat)) rfl (congrArg Q (qV z)) ?_;refine Al 4 pM (fun g2=>?_);refine Ss 2 ?_;refine A6 ?_;refine L4 2 0 ?_;refine Ss 1 ?_;refine A3 ?_;refine GL 1 ?_;exact rfl
def PO(x:Rl)(hx:ik x<=1000)(h0:0<=x.r)(hn:x.n=false):aH Tryz.prog 260 #[RV x] (I (lF x)):=by
 have e1:=Nat.le_trans (rD x) hx;have e2:=Nat.le_trans (xg x) hx;have n1:=lH e1;have d1:=kM e1;have n2:=lH e2;have d2:=kM e2;have z1:=lG d1 d1;have z2:=lG n2 d2;have z3:=lG z1 z2;have z4:=lG n1 d2;have z5:jf ((bM (((x.p.den:Int)*(x.p.den:Int))*(x.r.num*(x.r.den:Int))).natAbs:Nat):Int)<=4000:=zh (Nat.le_trans (nR _) z3);have z6:=Io z4 z5;have z7:=lG d1 d2;refine uU 59 Tryz.func260 fun w=>?_;refine A2 ?_;refine Bp 9 (fun g0=>?_);refine Al 2 wM (fun g1=>?_);refine A3 ?_;refine Dq [3000000] [0,1,3,4,2,5,6,7,8,9] ?_;refine A1 ?_;refine L4 0 0 ?_;refine A1 ?_;refine L4 0 0 ?_;refine Pc (Ah x.p) ?_;refine Pc (eX x.p) ?_;refine Al 2 wM (fun g2=>?_);refine Al 2 wM (fun g3=>?_);refine Ss 2 ?_;refine Ss 3 ?_;refine A3 ?_;refine Dq [3000000] [0,1,3,4,2,5,6,7,8,9] ?_;refine A1 ?_;refine L4 0 4 ?_;refine A1 ?_;refine L4 0 4 ?_;refine Pc (Ah x.r) ?_;refine Pc (eX x.r) ?_;refine Al 2 wM (fun g4=>?_);refine Al 2 wM (fun g5=>?_);refine Ss 4 ?_;refine Ss 5 ?_;refine A3 ?_;refine Dq [3000000] [0,1,3,4,2,5,6,7,8,9,11,12,10,13] ?_;refine L2 3 0 ?_;refine L2 3 0 ?_;refine L2 4 0 ?_;refine L2 5 0 ?_;refine Pc (fK (x.p.den:Int) (x.p.den:Int)) ?_;refine Pc (fK x.r.num (x.r.den:Int)) ?_;refine Pc (fK ((x.p.den:Int)*(x.p.den:Int)) (x.r.num*(x.r.den:Int))) ?_;refine Pc (KR (((x.p.den:Int)*(x.p.den:Int))*(x.r.num*(x.r.den:Int))) (qh1 h0) (Nat.le_trans z3 (by omega))) ?_;refine A2 ?_;refine Al 2 wM (fun g6=>?_);refine Ss 6 ?_;refine A6 ?_;refine L2 2 0 ?_;refine L2 5 0 ?_;refine Pc (fK x.p.num (x.r.den:Int)) ?_;refine Al 2 wM (fun g7=>?_);refine Ss 7 ?_;refine A9 ?_;refine Cd ?_ ?_<;>intro hb0
 ·exact absurd hb0 (by rw[hn];decide)
 ·refine A1 ?_;refine L2 7 0 ?_;refine L2 6 0 ?_;refine Pc (vY (x.p.num*(x.r.den:Int)) ((bM (((x.p.den:Int)*(x.p.den:Int))*(x.r.num*(x.r.den:Int))).natAbs:Nat):Int)) ?_;refine Ss 7 ?_;refine A3 ?_;refine Dq [3000000] [0,1,2,3,4,5,6,9,10,11,7,12,8,13] ?_;refine L2 7 0 ?_;refine L2 3 0 ?_;refine L2 5 0 ?_;refine Pc (fK (x.p.den:Int) (x.r.den:Int)) ?_;refine Pc (wZ (x.p.num*(x.r.den:Int)+((bM (((x.p.den:Int)*(x.p.den:Int))*(x.r.num*(x.r.den:Int))).natAbs:Nat):Int)) ((x.p.den:Int)*(x.r.den:Int)) (by omega) (by omega) (qcg x)) ?_;refine A2 ?_;refine aW 55 (I (lF x)) rfl (congrArg I (qcf hn)) ?_;refine Al 2 wM (fun g8=>?_);refine Al 2 wM (fun g9=>?_);refine Ss 8 ?_;refine A1 ?_;refine Ss 9 ?_;refine A6 ?_;refine L2 8 0 ?_;refine Ss 1 ?_;refine A3 ?_;refine PP 1 ?_;exact rfl
def Gy(x y:Rl)(hx:ik x<=1000)(hy:ik y<=1000)(h0:0<=x.r)(hn:x.n=false)(h1:¬Ve x<0)(h2:0<Ve y)(h3:0<bH y (rl ((lF x+1:Int):Rat)))(hf:jf (lF x)<=4000:=by omega):aH Tryz.prog 235 #[RV x,RV y] (Q ((lF x+1:Int):Rat)):=by
 have f1:jf (lF x+1)<=4002:=Io hf (jC (z:=1) (by omega) (by omega));have f2:bP ((lF x+1:Int):Rat)<=4002:=qcZ f1 (by omega);refine nG 81 Tryz.func235 fun w=>?_;refine A2 ?_;refine Bp 9 (fun g0=>?_);refine Bp 9 (fun g1=>?_);refine Al 4 pM (fun g2=>?_);refine A6 ?_;refine L9 0 0 ?_;refine Pc (zX x) ?_;refine A2 ?_;refine Rs 18 ?_ ?_<;>intro hb0
 ·exact absurd (of_decide_eq_true hb0) h1
 ·refine kL ?_;refine L9 1 0 ?_;refine Pc (zX y) ?_;refine A4 ?_;refine Cd ?_ ?_<;>intro hb1
  ·exact absurd (of_decide_eq_true hb1) (by show¬Ve y<=0;omega)
  ·refine A5 ?_;refine L9 0 0 ?_;refine Pc (PO x hx h0 hn) ?_;refine Al 2 wM (fun g3=>?_);refine Ss 3 ?_;refine A3 ?_;refine Dq [3000000] [0,1,2,3,4,5] ?_;refine L2 3 0 ?_;refine Pc (lJ 1) ?_;refine Pc (vY (lF x) 1 (by omega) (Nat.le_trans (jC (by omega) (by omega)) (by omega))) ?_;refine Pc (PN (lF x+1)) ?_;refine Al 4 pM (fun g4=>?_);refine Ss 4 ?_;refine A5 ?_;refine L9 1 0 ?_;refine L4 4 0 ?_;refine Pc (vw y ((lF x+1:Int):Rat)) ?_;refine A3 ?_;refine Cd ?_ ?_<;>intro hb2
   ·refine A2 ?_;refine L4 4 0 ?_;refine Ss 2 ?_;refine A4 ?_;refine GL 2 ?_;exact rfl
   ·exact absurd h3 (of_decide_eq_false hb2)
def vF(i:Iv)(hi:kT i<=1000)(hf:dN i.f=true)(ht:dN i.t=true):aH Tryz.prog 169 #[mG i] (.int .i64 (if jr i=true then 0 else 10)):=by
 have i1:=Nat.le_trans (lg i) hi;have i2:=Nat.le_trans (kH i) hi;refine uU 33 Tryz.func169 fun w=>?_;refine A2 ?_;refine Bp 20 (fun g0=>?_);refine A7 ?_;refine L9 0 0 ?_;refine Pc (iW i.f) ?_;refine aW 6 (.int .i64 0) rfl (congrArg (Value.int .i64) (if_pos hf)) ?_;refine A2 ?_;refine Rs 8 ?_ ?_<;>intro hb0
 ·exact absurd hb0 (by decide)
 ·refine A1 ?_;refine L9 0 9 ?_;refine Pc (iW i.t) ?_;refine aW 11 (.int .i64 0) rfl (congrArg (Value.int .i64) (if_pos ht)) ?_;refine A4 ?_;refine Cd ?_ ?_<;>intro hb1
  ·exact absurd hb1 (by decide)
  ·refine A5 ?_;refine L9 0 0 ?_;refine A1 ?_;refine L9 0 9 ?_;refine Pc (dw i.f i.t) ?_;refine A9 ?_;refine Rs 21 ?_ ?_<;>intro hb2
   ·refine A21 ?_;refine E0 ?_;exact congrArg (fun b=>Ending.returned (.int .i64 b)) (by unfold jr;first|(simp_all;done)|(simp_all;omega)|(simp_all;intros;omega))
   ·refine A3 ?_;refine Rs 24 ?_ ?_<;>intro hb3
    ·refine A3 ?_;refine Rs 27 ?_ ?_<;>intro hb4
     ·refine y8 ?_;refine E0 ?_;exact congrArg (fun b=>Ending.returned (.int .i64 b)) (by unfold jr;first|(simp_all;done)|(simp_all;omega)|(simp_all;intros;omega))
     ·refine A7 ?_;refine Cd ?_ ?_<;>intro hb5
      ·refine A7 ?_;refine E0 ?_;exact congrArg (fun b=>Ending.returned (.int .i64 b)) (by unfold jr;first|(simp_all;done)|(simp_all;omega)|(simp_all;intros;omega))
      ·refine A8 ?_;refine E0 ?_;exact congrArg (fun b=>Ending.returned (.int .i64 b)) (by unfold jr;first|(simp_all;done)|(simp_all;omega)|(simp_all;intros;omega))
    ·refine A19 ?_;refine E0 ?_;exact congrArg (fun b=>Ending.returned (.int .i64 b)) (by unfold jr;first|(simp_all;done)|(simp_all;omega)|(simp_all;intros;omega))
def Ai(i:Iv)(x:Rl)(hi:kT i<=50000:=by omega)(hx:ik x<=50000:=by omega):aH Tryz.prog 171 #[mG i,RV x] (.bool (xh i x)):=by
 have i1:=Nat.le_trans (lg i) hi;have i2:=Nat.le_trans (kH i) hi;refine nG 39 Tryz.func171 fun w=>?_;refine A2 ?_;refine Bp 20 (fun g0=>?_);refine Bp 9 (fun g1=>?_);refine A4 ?_;refine Dp [] [0,1,2,4,5,6,3,7,8,9] ?_;refine A1 ?_;refine L9 0 0 ?_;refine L9 1 0 ?_;refine L9 1 0 ?_;refine A1 ?_;refine L9 0 9 ?_;refine Pc (dw i.f x (by omega) hx) ?_;refine Pc (dw x i.t hx) ?_;refine A9 ?_;refine Rs 17 ?_ ?_<;>intro hb0
 ·refine lK ?_;refine Rs 29 ?_ ?_<;>intro hb1
  ·refine BC ?_;refine E0 ?_;exact eB (by unfold xh;first|(simp_all;done)|(simp_all;omega)|(simp_all;intros;omega))
  ·refine A3 ?_;refine Rs 32 ?_ ?_<;>intro hb2
   ·refine kL ?_;refine E0 ?_;exact eB (by unfold xh;first|(simp_all;done)|(simp_all;omega)|(simp_all;intros;omega))
   ·refine kL ?_;refine E0 ?_;exact eB (by unfold xh;first|(simp_all;done)|(simp_all;omega)|(simp_all;intros;omega))
 ·refine A3 ?_;refine Rs 20 ?_ ?_<;>intro hb1
  ·refine A6 ?_;refine Rs 26 ?_ ?_<;>intro hb2
   ·refine A3 ?_;refine Rs 29 ?_ ?_<;>intro hb3
    ·refine BC ?_;refine E0 ?_;exact eB (by unfold xh;first|(simp_all;done)|(simp_all;omega)|(simp_all;intros;omega))
    ·refine A3 ?_;refine Rs 32 ?_ ?_<;>intro hb4
     ·refine kL ?_;refine E0 ?_;exact eB (by unfold xh;first|(simp_all;done)|(simp_all;omega)|(simp_all;intros;omega))
     ·refine kL ?_;refine E0 ?_;exact eB (by unfold xh;first|(simp_all;done)|(simp_all;omega)|(simp_all;intros;omega))
   ·refine KZ ?_;refine E0 ?_;exact eB (by unfold xh;first|(simp_all;done)|(simp_all;omega)|(simp_all;intros;omega))
  ·refine A22 ?_;refine E0 ?_;exact eB (by unfold xh;first|(simp_all;done)|(simp_all;omega)|(simp_all;intros;omega))
def KT(sm:Rl->Rl->Option Rat)(hsm:∀x y r,sm x y=some r->aH Tryz.prog 235 #[RV x,RV y] (Q r))(x y:Rl)(hx:ik x<=50000)(hy:ik y<=50000)(h:bH x y<0)(r:Rat)(hr:sm x y=some r):aH Tryz.prog 206 #[RV x,RV y] (.tuple #[Q r,.int .i64 0]):=by
 refine nG 14 Tryz.func206 fun w=>?_;refine A2 ?_;refine Bp 9 (fun g0=>?_);refine Bp 9 (fun g1=>?_);refine Al 4 pM (fun g2=>?_);refine A6 ?_;refine L9 0 0 ?_;refine L9 1 0 ?_;refine Pc (dw x y hx hy) ?_;refine A3 ?_;refine Cd ?_ ?_<;>intro hb0
 ·exact absurd (of_decide_eq_true hb0) (by omega)
 ·refine A4 ?_;refine L9 0 0 ?_;refine L9 1 0 ?_;refine Pc (hsm x y r hr) ?_;refine Ss 2 ?_;refine A4 ?_;refine bg rfl (bf 2 rfl rfl BD (vs:=[_,_,_,_]) rfl rfl (Nat.le_of_ble_eq_true rfl) rfl) (ai rfl) (fun w hL=>⟨?_,hL.below⟩);exact rfl
def xB(sm:Rl->Rl->Option Rat)(hsm:∀x y r,sm x y=some r->aH Tryz.prog 235 #[RV x,RV y] (Q r))(q:Qd)(i:Iv)(s:Int)(h:EY sm q i=some s)(hq:uk q<=10000:=by omega)(hi:kT i<=1000:=by omega):aH Tryz.prog 172 #[qL q,mG i] (SgV (i,s)):=by
 have i1:=Nat.le_trans (lg i) hi;have i2:=Nat.le_trans (kH i) hi;obtain⟨hlt,r,hr,hr5,hs⟩:=Du h;have hr6:ik (rl r)<=5000:=vZ hr5 (by omega);refine nG 27 Tryz.func172 fun w=>?_;refine A2 ?_;refine Bp 12 (fun g0=>?_);refine Bp 20 (fun g1=>?_);refine Al 21 qiO (fun g2=>?_);refine A5 ?_;refine L9 1 0 ?_;refine Al 9 MC (fun g3=>?_);refine Ss 3 ?_;refine A6 ?_;refine L9 1 0 ?_;refine A1 ?_;refine L9 1 9 ?_;refine Pc (KT sm hsm i.f i.t (by omega) (by omega) hlt r hr) ?_;refine A3 ?_;refine Al 4 pM (fun g4=>?_);refine Ss 4 ?_;refine A9 ?_;refine Cd ?_ ?_<;>intro hb0
 ·refine A1 ?_;refine L4 4 0 ?_;refine Pc (kC r) ?_;refine Ss 3 ?_;refine A3 ?_;refine Di [] ?_;refine xC 1 0 ?_;refine uD 0 0 ?_;refine L9 3 0 ?_;refine Pc (Dk q (rl r) Rat.le_refl hq) ?_;refine(Bu [(0,_),(1,_)]) (qdm) ?_;refine Ss 2 ?_;refine A3 ?_;refine aO rfl (bf 2 rfl rfl ZU (vs:=[_,_,_,_,_,_,_,_,_,_,_,_,_,_,_,_,_,_,_,_,_]) rfl rfl (Nat.le_of_ble_eq_true rfl) rfl) (fun w hL=>⟨?_,hL.below⟩);rw[hs];rfl
 ·exact absurd (by decide) (of_decide_eq_false hb0)
def BZ(q:Qd)(hq:uk q<=1000)(h2:q.c2≠0)(hr:q.c1/(-2*q.c2)*(q.c1/(-2*q.c2))-q.c0/q.c2=0):bZ Tryz.prog 205 [] [qL q] (SR (dA q).length) (fun z=> .tuple #[z.v,.int .i64 0]) (fun z=>[⟨z.b,38,ak Fb (dA q),z.n,true⟩]):=by
 refine⟨by kernel_rfl,fun w hL0=>?_⟩;have q0:=Nat.le_trans (o6 q) hq;have q1:=Nat.le_trans (o7 q) hq;have q2:=Nat.le_trans (pV q) hq;have hR:=qch h2 hr;have m2:bP (-2:Rat)<=2:=ny (z:= -2) (by omega) (by omega);have z1:=uP m2 q2;have z2:=DX q1 z1;have z3:=uP z2 z2;have z4:=DX q0 q2;refine cB1 98 Tryz.func205 hL0 ?_;refine A2 ?_;refine Bp 12 (fun g0=>?_);refine A6 ?_;refine(Bu []) (xR) ?_;refine aW 12 (Q 0) rfl xO.symm ?_;refine Al 4 pM (fun g1=>?_);refine Ss 1 ?_;refine A7 ?_;refine L4 0 8 ?_;refine L4 1 0 ?_;refine fG rfl rfl rfl rfl Z5 (Z9 _ _) ?_;refine A1 ?_;refine Rs 18 ?_ ?_<;>intro hb0
 ·exact absurd (of_decide_eq_true hb0) h2
 ·refine A18 ?_;refine L4 0 8 ?_;refine L4 1 0 ?_;refine fG rfl rfl rfl rfl Z5 (Z9 _ _) ?_;refine A1 ?_;refine Rs 35 ?_ ?_<;>intro hb1
  ·exact absurd (of_decide_eq_true hb1) h2
  ·refine lK ?_;refine L4 0 8 ?_;refine L4 1 0 ?_;refine fG rfl rfl rfl rfl Z5 (Z9 _ _) ?_;refine A3 ?_;refine Cd ?_ ?_<;>intro hb2
   ·exact absurd (of_decide_eq_true hb2) h2
   ·refine A4 ?_;refine Dq [3000000] [0,1,3,4,2,5,6,7,8] ?_;refine A1 ?_;refine L4 0 4 ?_;refine A1 ?_;refine L4 0 8 ?_;refine Pc (fH (-2)) ?_;refine aW 56 (Q (-2)) rfl (congrArg Q (by decide)) ?_;refine Pc (aG (-2) q.c2) ?_;refine Pc (yJ q.c1 (-2*q.c2)) ?_;refine Al 4 pM (fun g2=>?_);refine Ss 2 ?_;refine A3 ?_;refine Dq [3000000] [0,1,3,4,5,6,2,7,8,9,10] ?_;refine L4 2 0 ?_;refine L4 2 0 ?_;refine A1 ?_;refine L4 0 0 ?_;refine A1 ?_;refine L4 0 8 ?_;refine Pc (aG (q.c1/(-2*q.c2)) (q.c1/(-2*q.c2))) ?_;refine Pc (yJ q.c0 q.c2) ?_;refine Pc (eY ((q.c1/(-2*q.c2))*(q.c1/(-2*q.c2))) (q.c0/q.c2)) ?_;refine Al 4 pM (fun g3=>?_);refine Ss 3 ?_;refine A4 ?_;refine Pc (fH 1) ?_;refine Al 4 pM (fun g4=>?_);refine Ss 4 ?_;refine A5 ?_;refine L4 3 0 ?_;refine Pc (dZ ((q.c1/(-2*q.c2))*(q.c1/(-2*q.c2))-q.c0/q.c2)) ?_;refine aW 72 (.int .i64 0) rfl (congrArg (Value.int .i64) (by rw[hr];rfl)) ?_;refine A9 ?_;refine Cd ?_ ?_<;>intro hb3
    ·exact absurd (of_decide_eq_true hb3) (by decide)
    ·refine A6 ?_;refine Cd ?_ ?_<;>intro hb4
     ·refine A2 ?_;refine L4 2 0 ?_;refine Pc (kC (q.c1/(-2*q.c2))) ?_;refine(Bl 9 [(0,_)]) (qds) (fun g5=>?_);refine A7 ?_;refine bg rfl (ai rfl) (ai rfl) (fun w hL=>⟨⟨some g5,9,1,by rw[hR];exact Nat.le_refl _⟩,?_,hL.picks [some 5] ⟨⟨_,rfl,aP (by rw[show ak Fb (dA q)=_ from congrArg _ hR];rfl)⟩,trivial⟩ rfl rfl⟩);show Ending.returned (.tuple #[aI (some g5) 0 _ 1,_])=Ending.returned (.tuple #[aI (some g5) 0 (dA q).length 1,_]);rw[hR];rfl
     ·exact absurd (by decide) (of_decide_eq_false hb4)
def vG(q:Qd)(hrt:bZ Tryz.prog 205 [] [qL q] (SR (dA q).length) (fun z=> .tuple #[z.v,.int .i64 0]) (fun z=>[⟨z.b,38,ak Fb (dA q),z.n,true⟩])):bZ Tryz.prog 170 [] [qL q] (SR (dA q).length) (fun z=> .tuple #[z.v,.int .i64 0]) (fun z=>[⟨z.b,38,ak Fb (dA q),z.n,true⟩]):=by
 refine QF 8 Tryz.func170 fun w hL0=>?_;refine A2 ?_;refine Bp 12 (fun g0=>?_);refine A6 ?_;refine uD 0 0 ?_;refine(Sc []) hrt (fun z=>?_);obtain⟨rb,rN,rc,hrc⟩:=z;refine A7 ?_;refine bg rfl (ai rfl) (ai rfl) (fun w hL=>⟨⟨rb,rN,rc,hrc⟩,?_,hL.pk [some 1]⟩);exact rfl
def EZ(sm:Rl->Rl->Option Rat)(hsm:∀x y r,sm x y=some r->aH Tryz.prog 235 #[RV x,RV y] (Q r))(q:Qd)(i:Iv)(l:List (Iv×Int))(h:gy sm q i (dA q) i []=some l)(hf:dN i.f=true)(ht:dN i.t=true)(hoi:jr i=true)(hrt:bZ Tryz.prog 170 [] [qL q] (SR (dA q).length) (fun z=> .tuple #[z.v,.int .i64 0]) (fun z=>[⟨z.b,38,ak Fb (dA q),z.n,true⟩]))(hrz:∀r∈dA q,ik r<=1000∧dN r=true)(hrl:(dA q).length<=2:=by omega)(hq:uk q<=10000:=by omega)(hi:kT i<=1000:=by omega):bZ Tryz.prog 125 [] [qL q,mG i] (SR l.length) (fun z=> .tuple #[z.v,.int .i64 0]) (fun z=>[⟨z.b,181,ak EC l,z.n,true⟩]):=by
 refine VU 71 Tryz.func125 fun w hL0=>?_;refine A2 ?_;refine Bp 12 (fun g0=>?_);refine Bp 20 (fun g1=>?_);refine A7 ?_;refine xC 1 0 ?_;refine Pc (vF i hi hf ht) ?_;refine aW 14 (.int .i64 0) rfl (congrArg (Value.int .i64) (if_pos hoi)) ?_;refine A9 ?_;refine Cd ?_ ?_<;>intro hb0
 ·exact absurd hb0 (by decide)
 ·refine A9 ?_;refine uD 0 0 ?_;refine(Sc []) hrt (fun z=>?_);obtain⟨rb,rN,rc,hrc⟩:=z;refine A9 ?_;refine xC 1 0 ?_;refine Al 20 z61 (fun g2=>?_);refine Ss 3 ?_;refine qf ?_;refine El (ι:={z:Nat×Iv×List (Iv×Int)×Option Nat×Nat×Nat // z.1<=(dA q).length∧gy sm q i ((dA q).drop z.1) z.2.1 z.2.2.1=some l∧(dN z.2.1.f=true∧dN z.2.1.t=true∧kT z.2.1<=1000)∧z.2.2.1.length<=2*z.1∧z.2.2.1.length<=z.2.2.2.2.2∧z.2.2.2.2.2*21<=z.2.2.2.2.1}) (fun⟨⟨k,rest,o,ob,oN,oc⟩,hk,hI,hre,ho,h3,h4⟩=>([(2,gU g0),(3,gU g1),(7,aI ob 0 o.length oc),(10,gU g2),(24,aI rb 0 (dA q).length rc),(25,bV ((dA q).length)),(26,bV k)],[⟨some g0,91,qef q,12,true⟩,⟨some g1,61,dQ i,20,true⟩,⟨rb,38,ak Fb (dA q),rN,true⟩,⟨some g2,61,dQ rest,20,true⟩,⟨ob,181,ak EC o,oN,true⟩],(dA q).length-k)) ⟨⟨0,i,[],none,0,0⟩,Nat.zero_le _,h,⟨hf,ht,hi⟩,Nat.le_refl _,Nat.le_refl _,by simp⟩ ?_ (hL:=(aj [some 0,some 1,some 2,some 3,none] ⟨pR,pR,pR,pR,⟨rfl,rfl,rfl⟩,trivial⟩ rfl rfl));rintro⟨⟨k,rest,o,ob,oN,oc⟩,hk,hI,hre,ho,h3,h4⟩;(try dsimp only);replace hk:k<=(dA q).length:=hk;replace hI:gy sm q i ((dA q).drop k) rest o=some l:=hI;replace hre:dN rest.f=true∧dN rest.t=true∧kT rest<=1000:=hre;replace ho:o.length<=2*k:=ho;replace h3:o.length<=oc:=h3;replace h4:oc*21<=oN:=h4;have hre3:=hre.2.2;have hrf:=lg rest;have hrt2:=kH rest;refine A6 ?_;refine Cd ?_ ?_<;>intro hb2
  ·have hlt:k<(dA q).length:=(by have:=of_decide_eq_true hb2;omega);obtain⟨x,hx⟩:∃x,(dA q)[k]? =some x:=⟨(dA q)[k],List.getElem?_eq_getElem hlt⟩;have hxs:=hrz x (List.mem_of_getElem? hx);have hxs1:=hxs.1;refine gm 2 rfl (qbp.ne (by decide) (by omega)) (fun hbs=>?_);obtain⟨gr,hgr⟩:=Option.isSome_iff_exists.1 hbs;replace hgr:rb=some gr:=hgr;subst hgr;refine A6 ?_;refine au 2 ((k)*9) qkI wL rfl rfl rfl rfl rfl (by omega) (by omega) (qbp.ne (by decide) (by omega)) (by show 0+Int.toNat _*9=_;omega) ?_;refine bn (v:=RV x) 2 ((k)*9) _ rfl rfl rfl rfl wL (qbp.sub hx 0 9 (by decide)) rfl (by decide) rfl ?_;refine Al 9 MC (fun g3=>?_);refine Ss 5 ?_;refine A5 ?_;refine xC 1 0 ?_;refine L9 5 0 ?_;refine Pc (Ai i x) ?_;refine A3 ?_;refine Cd ?_ ?_<;>intro hb3
   ·have hin:xh i x=false:=by have e:=hb3;simpa using e
    refine A5 ?_;refine Ar (((k+1:Nat):Int)) ?_;refine A3 ?_;exact Nl ⟨⟨k+1,rest,o,ob,oN,oc⟩,hlt,qfT hx hin hI,hre,by show o.length<=2*(k+1);omega,h3,h4⟩ (hμ:=(by show(dA q).length-(k+1)<(dA q).length-k;omega)) (hL:=eF.auto)
   ·have hin:xh i x=true:=by have e:=hb3;simpa using e
    refine A6 ?_;refine L9 3 0 ?_;refine L9 5 0 ?_;refine Pc (dw rest.f x) ?_;refine A3 ?_;refine Cd ?_ ?_<;>intro hb4
    ·have hl2:bH rest.f x<0:=of_decide_eq_true hb4;obtain⟨s,hp,hI2⟩:=qfU hx hin hl2 hI;refine A2 ?_;refine uD 0 0 ?_;refine A1 ?_;refine L9 3 0 ?_;refine L9 5 0 ?_;refine A2 ?_;refine(Bu [(0,_),(1,_),(2,_),(3,_)]) (Oy) ?_;refine Kr 46 (mG ⟨rest.f,x,rest.fo,true⟩) ?_;refine bY [_,_] rfl rfl rfl (xB sm hsm q ⟨rest.f,x,rest.fo,true⟩ s hp hq (wB (by show ik rest.f<=_;omega) (by show ik x<=_;omega))) ?_;refine(Bl 21 [(0,_)]) (Iu) (fun g4=>?_);refine eG (s:=21) (len:=o.length) (n2:=1) 4 6 (fun r1=>[_,_,_,_,⟨some r1.g,181,ak EC (o++[((⟨rest.f,x,rest.fo,true⟩,s):Iv×Int)]),r1.n,true⟩,_,_]) Z8 VQ rfl rfl rfl rfl rfl rfl rfl rfl rfl rfl rfl rfl (uq.length o) h3 h4 rfl (uq.one (((⟨rest.f,x,rest.fo,true⟩,s):Iv×Int))) (by omega) (fun _=>congrArg (fun c=>_::_::_::_::aF.mk _ 181 c _ true::_) (bD o ((⟨rest.f,x,rest.fo,true⟩,s):Iv×Int))) (fun r1=>?_);refine aW 49 (aI (some r1.g) 0 (o++[((⟨rest.f,x,rest.fo,true⟩,s):Iv×Int)]).length r1.cap) rfl (by rw[List.length_append];rfl) ?_;refine A6 ?_;refine L9 5 0 ?_;refine L9 5 0 ?_;refine(Bu [(0,_),(1,_)]) (Ox) ?_;refine Kr 53 (mG ⟨x,x,false,false⟩) ?_;refine(Bu [(0,_)]) (VM) ?_;refine aW 54 (SgV ((⟨x,x,false,false⟩,0):Iv×Int)) rfl rfl ?_;refine(Bl 21 [(0,_)]) (Iu) (fun g5=>?_);refine eG (s:=21) (len:=(o++[((⟨rest.f,x,rest.fo,true⟩,s):Iv×Int)]).length) (n2:=1) 4 7 (fun r2=>[_,_,_,_,⟨some r2.g,181,ak EC (o++[((⟨rest.f,x,rest.fo,true⟩,s):Iv×Int)])++EC (((⟨x,x,false,false⟩,0):Iv×Int)),r2.n,true⟩,_,_,_]) Z8 VQ rfl rfl rfl rfl rfl rfl rfl rfl rfl rfl rfl rfl (uq.length (o++[((⟨rest.f,x,rest.fo,true⟩,s):Iv×Int)])) (by rw[List.length_append];exact r1.h) r1.hn rfl (uq.one (((⟨x,x,false,false⟩,0):Iv×Int))) (by rw[List.length_append];show o.length+1+1<=_;omega) (fun _=>rfl) (fun r2=>?_);refine A4 ?_;refine L9 5 0 ?_;refine A1 ?_;refine Ss 3 ?_;refine A1 ?_;refine Ss 3 ?_;refine A4 ?_;refine Ar (((k+1:Nat):Int)) ?_;refine A3 ?_;exact Nl ⟨⟨k+1,⟨x,rest.t,true,rest.tp⟩,o++[((⟨rest.f,x,rest.fo,true⟩,s):Iv×Int)]++[((⟨x,x,false,false⟩,0):Iv×Int)],some r2.g,r2.n,r2.cap⟩,hlt,hI2,⟨hxs.2,hre.2.1,wB hxs.1 (Nat.le_trans (kH rest) hre.2.2)⟩,by simp only[List.length_append,List.length_cons,List.length_nil];omega,by rw[List.length_append];exact r2.h,r2.hn⟩ (hμ:=(by show(dA q).length-(k+1)<(dA q).length-k;omega)) (ht:=⟨rfl,rfl,(aB rfl (congrArg (fun z=>aI (some r2.g) 0 z r2.cap) (show(o++[((⟨rest.f,x,rest.fo,true⟩,s):Iv×Int)]).length+1=(o++[((⟨rest.f,x,rest.fo,true⟩,s):Iv×Int)]++[((⟨x,x,false,false⟩,0):Iv×Int)]).length by simp))),rfl,rfl,rfl,rfl,trivial⟩) (hL:=(aj [some 0,some 1,some 2,some 3,some 4] ⟨pR,pR,pR,pR,⟨_,rfl,aP (by rw[bD])⟩,trivial⟩ rfl rfl))
    ·have hl2:¬bH rest.f x<0:=of_decide_eq_false hb4;have hI2:=qfV hx hin hl2 hI;refine A5 ?_;refine L9 5 0 ?_;refine L9 5 0 ?_;refine(Bu [(0,_),(1,_)]) (Ox) ?_;refine Kr 53 (mG ⟨x,x,false,false⟩) ?_;refine(Bu [(0,_)]) (VM) ?_;refine aW 54 (SgV ((⟨x,x,false,false⟩,0):Iv×Int)) rfl rfl ?_;refine(Bl 21 [(0,_)]) (Iu) (fun g4=>?_);refine(Qa (s:=21) (len:=o.length) (n2:=1) 4 6 (fun r2=>[_,_,_,_,⟨some r2.g,181,ak EC o++EC (((⟨x,x,false,false⟩,0):Iv×Int)),r2.n,true⟩,_,_]) Z8 VQ) (uq.length o) h3 h4 (uq.one (((⟨x,x,false,false⟩,0):Iv×Int))) (fun r2=>?_);refine A4 ?_;refine L9 5 0 ?_;refine A1 ?_;refine Ss 3 ?_;refine A1 ?_;refine Ss 3 ?_;refine A4 ?_;refine Ar (((k+1:Nat):Int)) ?_;refine A3 ?_;exact Nl ⟨⟨k+1,⟨x,rest.t,true,rest.tp⟩,o++[((⟨x,x,false,false⟩,0):Iv×Int)],some r2.g,r2.n,r2.cap⟩,hlt,hI2,⟨hxs.2,hre.2.1,wB hxs.1 (Nat.le_trans (kH rest) hre.2.2)⟩,by simp only[List.length_append,List.length_cons,List.length_nil];omega,by rw[List.length_append];exact r2.h,r2.hn⟩ (hμ:=(by show(dA q).length-(k+1)<(dA q).length-k;omega)) (ht:=⟨rfl,rfl,(aB rfl (congrArg (fun z=>aI (some r2.g) 0 z r2.cap) (show(o).length+1=(o++[((⟨x,x,false,false⟩,0):Iv×Int)]).length by simp))),rfl,rfl,rfl,rfl,trivial⟩) (hL:=(aj [some 0,some 1,some 2,some 3,some 4] ⟨pR,pR,pR,pR,⟨_,rfl,aP (by rw[bD])⟩,trivial⟩ rfl rfl))
  ·have hge:k=(dA q).length:=(by have:=of_decide_eq_false hb2;omega);subst hge;refine A8 ?_;refine xC 3 0 ?_;refine Pc (vF rest hre.2.2 hre.1 hre.2.1) ?_;refine A3 ?_;refine Cd ?_ ?_<;>intro hb3
   ·have hoe:jr rest=true:=by have e1:=hb3;cases e:jr rest<;>simp[e] at e1 ⊢
    obtain⟨s,hp,hl⟩:=Xl hoe hI;refine A2 ?_;refine uD 0 0 ?_;refine xC 3 0 ?_;refine Pc (xB sm hsm q rest s hp hq hre.2.2) ?_;refine(Bl 21 [(0,_)]) (Iu) (fun g3=>?_);refine(Qa (s:=21) (len:=o.length) (n2:=1) 4 5 (fun r=>[_,_,_,_,⟨some r.g,181,ak EC o++EC ((rest,s)),r.n,true⟩,_]) Z8 VQ) (uq.length o) h3 h4 (uq.one ((rest,s))) (fun r=>?_);refine qf ?_;refine bg rfl (ai rfl) (ai rfl) (fun w hL=>⟨⟨some r.g,r.n,r.cap,by rw[hl,List.length_append];exact r.h⟩,?_,hL.picks [some 4] ⟨⟨_,rfl,aP (by rw[bD,show ak EC l=_ from congrArg _ hl])⟩,trivial⟩ rfl rfl⟩);show Ending.returned (.tuple #[aI (some r.g) 0 _ r.cap,_])=Ending.returned (.tuple #[aI (some r.g) 0 l.length r.cap,_]);rw[hl,List.length_append];rfl
   ·have hoe:jr rest=false:=by have e1:=hb3;cases e:jr rest<;>simp[e] at e1 ⊢
    have hl:=Xm hoe hI;refine kL ?_;refine bg rfl (ai rfl) (ai rfl) (fun w hL=>⟨⟨ob,oN,oc,by rw[hl];exact h3⟩,?_,hL.picks [some 4] ⟨⟨_,rfl,aP (by rw[show ak EC l=_ from congrArg _ hl])⟩,trivial⟩ rfl rfl⟩);show Ending.returned (.tuple #[aI ob 0 _ oc,_])=Ending.returned (.tuple #[aI ob 0 l.length oc,_]);rw[hl]
end Go.Proofs.YtaffcpfhedadhaaGreatDoor
namespace Go.Via
open Go
def Xn(x:Rl): -1<=Ve x∧Ve x<=1:=by
 have hs:∀q,cO q= -1∨cO q=0∨cO q=1:=fun q=>by rcases dO q with h|h|h<;>simp[h.2]
 have hm:∀{a b:Int},(a= -1∨a=0∨a=1)->(b= -1∨b=0∨b=1)->(a*b= -1∨a*b=0∨a*b=1):=fun h h'=>by
  rcases h with h|h|h<;>rcases h' with h'|h'|h'<;>simp[h,h']
 have hc:∀a b:Rat,l9 a b= -1∨l9 a b=0∨l9 a b=1:=fun a b=>by unfold l9;(repeat' split)<;>simp
 have h1:Ve x= -1∨Ve x=0∨Ve x=1:=by
  unfold Ve oK
  split
  ·exact hs _
  ·split
   ·exact hm (hs _) (hs _)
   ·exact hm (hs _) (hc _ _)
 omega
def Rng(p:Iv×Int):Prop:= -1<=p.2∧p.2<=1
def yw{sm:Rl->Rl->Option Rat}{q:Qd}{i:Iv}:∀{rs:List Rl} {rest:Iv} {o l:List (Iv×Int)},(∀p∈o,Rng p)->gy sm q i rs rest o=some l->∀p∈l,Rng p
 |[],rest,o,l,ho,h=>by
  by_cases e:jr rest=true
  ·obtain⟨s,hp,hl⟩:=Xl (rs:=[]) e h;obtain⟨_,r,_,_,hs⟩:=Du hp;subst hl;exact yt ho (show-1<=s∧s<=1 by rw[hs];exact Xn _)
  ·have hl:=Xm (rs:=[]) (by simpa using e) h;subst hl;exact ho
 |x::rs,rest,o,l,ho,h=>by
  by_cases hin:xh i x=true
  ·by_cases hlt:bH rest.f x<0
   ·obtain⟨s,hp,h2⟩:=qfU (rs:=x::rs) (k:=0) rfl hin hlt h;obtain⟨_,r,_,_,hs⟩:=Du hp;exact yw (rs:=rs) (yt (yt ho (show Rng ((⟨rest.f,x,rest.fo,true⟩,s):Iv×Int) from(show-1<=s∧s<=1 by rw[hs];exact Xn _))) ⟨show(-1:Int)<=0 by omega,show(0:Int)<=1 by omega⟩) h2
   ·have h2:=qfV (rs:=x::rs) (k:=0) rfl hin hlt h;exact yw (rs:=rs) (yt ho ⟨show(-1:Int)<=0 by omega,show(0:Int)<=1 by omega⟩) h2
  ·have h2:=qfT (rs:=x::rs) (k:=0) rfl (by simpa using hin) h;exact yw (rs:=rs) ho h2
def qfi{a b c:Bool}{s:Int}(h1: -1<=s)(h2:s<=1):(([.bool a,.bool b,.bool c]:List Value).drop (s+1).toNat).take 1=[.bool (mX a b c s)]:=by
 rcases(show s= -1∨s=0∨s=1 by omega) with rfl|rfl|rfl<;>rfl
def E5(w:Int->Bool):Bool->List (Iv×Int)->Bool
 |_,[]=>true
 |b,p::ps=> !(b&&w p.2)&&E5 w (w p.2) ps
def Tu{sm:Rl->Rl->Option Rat}{w:Int->Bool}{q:Qd}{i:Iv}{r:List Iv}(h:rO sm w q i=some r):∃l,gy sm q i (dA q) i []=some l∧r=nI w l [] false:=by
 unfold rO at h;rcases hs:gy sm q i (dA q) i [] with _|l
 ·rw[hs] at h;cases h
 ·rw[hs] at h;injection h with e;exact⟨l,rfl,e.symm⟩
section
variable{w:Int->Bool}{l:List (Iv×Int)}{k:Nat}{x:Iv×Int}{o:List Iv}{b:Bool}
def qci(hx:l[k]? =some x)(hn:E5 w b (l.drop k)=true):(b&&w x.2)=false∧E5 w (w x.2) (l.drop (k+1))=true:=by
 rw[wF hx,E5,Bool.and_eq_true] at hn;have e:=hn.1;refine⟨?_,hn.2⟩
 revert e
 cases(b&&w x.2)<;>simp
def qh2(hx:l[k]? =some x)(hw:w x.2=true)(hb:b=false):nI w (l.drop k) o b=nI w (l.drop (k+1)) (o++[x.1]) true:=by
 rw[wF hx,nI,if_pos hw,if_neg (by rw[hb];decide)]
def qjJ(hx:l[k]? =some x)(hw:w x.2=false):nI w (l.drop k) o b=nI w (l.drop (k+1)) o false:=by
 rw[wF hx,nI,if_neg (by rw[hw];decide)]
def qh3:nI w (l.drop l.length) o b=o:=by rw[List.drop_length,nI]
end
end Go.Via
