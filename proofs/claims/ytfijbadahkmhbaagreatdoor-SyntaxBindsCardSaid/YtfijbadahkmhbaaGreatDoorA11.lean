/-
  Part 11 (chapter 43): lemmas, walks. Each theorem states its own conditions.
-/
import Derived.ChangeSame
import Derived.OpenShut
import Derived.RowKit3
import Derived.ProofKit
import Derived.Deep.Slices
import Derived.Carry
import Derived.ChangeMaps5
import Derived.Test.YtfijbadahkmhbaaGreatDoorCards
import Derived.Test.YtfijbadahkmhbaaGreatDoorTie
import Derived.WalkKit
import Derived.Deep.DeepHandedRow
import Derived.Lib.LaidTab
import Derived.Lib.Replace
import Derived.Test.YtfijbadahkmhbaaGreatDoorA04
import Derived.Test.YtfijbadahkmhbaaGreatDoorA08
import Derived.Test.YtfijbadahkmhbaaGreatDoorA09
import Derived.Test.YtfijbadahkmhbaaGreatDoorA10
set_option linter.unusedVariables false
set_option linter.unusedSimpArgs false
set_option maxRecDepth 20000
set_option maxHeartbeats 20000000
namespace Go.Proofs.YtfijbadahkmhbaaGreatDoor
open Go Go.RowKit Go.Via
theorem c_integer_Print(z:Int)(hz0:szI z≤1000000):PCall Tryz.prog 102 #[I z] (.string (strU (intS z))):=by
 have hz1:nb z.natAbs≤1000000:=hz0;refine⟨by kernel_rfl,fun w=>?_⟩;refine cB1 81 Tryz.func102 (LRel.nil w) ?_;refine A2 ?_;refine Bo [_,_] 2 (fun g=>[⟨some g,25,_,2,true⟩]) (fun g0=>?_);refine A11 ?_;refine Cd ?_ ?_<;>intro hb0
 ·have hN0:z.natAbs=0:=by have hh:=hb0;rw[beq_empty] at hh;exact of_decide_eq_true hh
  refine A7 ?_;refine E1 fun w hL=>⟨?_,hL.below⟩
  have e:z=0:=(by omega);subst e;exact rfl
 ·have hN0:z.natAbs≠0:=by have hh:=hb0;rw[beq_empty] at hh;exact of_decide_eq_false hh
  have hdl:=dig_len_le (n:=z.natAbs) (Nat.le_refl _);refine A12 ?_;refine r_scall [.string (mag z.natAbs)] [] rfl rfl rfl (c_integer_digits z.natAbs (by omega)) trivial rfl (.inr fun _ b hb=>by rw[List.mem_singleton.1 hb]) (fun g1=>?_);refine A4 ?_;refine El (ι:=PrS z.natAbs) (fun⟨k,cx,b,n,cap,hx,h1,h2,hkk⟩=>([(1,.pointer (some ⟨g0,0,none⟩)),(3,slv b 0 (9*k) cap),(4,slv (some g1) 0 (digs B32 (z.natAbs/10^(9*k))).length cx)],[⟨some g0,25,[.bool (decide (z<0)),.string (mag z.natAbs)],2,true⟩,⟨some g1,161,NV .u32 (digs B32 (z.natAbs/10^(9*k))),(digs B32 z.natAbs).length,true⟩,⟨b,5,NB (ldig (9*k) z.natAbs),n,true⟩],z.natAbs/10^(9*k))) ⟨0,(digs B32 z.natAbs).length,none,0,0,by rw[pr_zero];exact Nat.le_refl _,Nat.le_refl _,Nat.le_refl _,Nat.zero_le _⟩ ?_ (ht:=⟨rfl,rfl,(look_val rfl (by rw[pr_zero])),trivial⟩) (hL:=(Weak.trans (Weak.nilB _ (by decide:5<mapMark)) (weak_picks [some 0,some 1,some 2] ⟨⟨_,rfl,Blk.le_refl _⟩,⟨_,rfl,le_same (by rw[pr_zero])⟩,⟨_,rfl,Blk.le_refl _⟩,trivial⟩ rfl rfl)));rintro⟨k,cx,b,n,cap,hx,h1,h2,hkk⟩;(try dsimp only);refine A8 ?_;refine Cd ?_ ?_<;>intro hb2
  ·have hm0:z.natAbs/10^(9*k)≠0:=fun e=>by have:=of_decide_eq_true hb2;rw[e] at this;simp[digs] at this
   have hpk:9*k≤3*nb z.natAbs:=pw10_nb (Nat.le_of_not_lt fun h=>hm0 (Nat.div_eq_of_lt h));have hnm:nb (z.natAbs/10^(9*k))≤nb z.natAbs:=nb_mono (Nat.div_le_self _ _);have hdm:=dig_len_le (n:=z.natAbs/10^(9*k)) (Nat.le_refl _);refine A5 ?_;refine at_regionM ?_;refine A1 ?_;refine r_mcall [_,_] 1 [_,⟨some g1,161,NV .u32 (row (digs B32 (z.natAbs/10^(9*k))).length (shoQ (z.natAbs/10^(9*k)) 1000000000)),_,true⟩,_] rfl rfl rfl rfl (c_nat_short (z.natAbs/10^(9*k)) 1000000000 (by omega) (by decide) (by decide) g1 _ cx) rfl rfl ?_;have hR9:(z.natAbs/10^(9*k)%1000000000)<1000000000:=Nat.mod_lt _ (by decide);refine A9 ?_;refine El (ι:=PrJ (9*k)) (fun⟨j,b,n,cap,hj,h1,h2⟩=>([(1,.pointer (some ⟨g0,0,none⟩)),(3,slv b 0 (9*k+j) cap),(4,slv (some g1) 0 (digs B32 (z.natAbs/10^(9*k))).length cx),(5,.int .u32 ((z.natAbs/10^(9*k)%1000000000)/10^j:Nat)),(21,.int .i64 (j:Nat))],[⟨some g0,25,[.bool (decide (z<0)),.string (mag z.natAbs)],2,true⟩,⟨some g1,161,NV .u32 (row (digs B32 (z.natAbs/10^(9*k))).length (shoQ (z.natAbs/10^(9*k)) 1000000000)),(digs B32 z.natAbs).length,true⟩,⟨b,5,NB (ldig (9*k) z.natAbs++ldig j (z.natAbs/10^(9*k)%1000000000)),n,true⟩],9-j)) ⟨0,b,n,cap,by omega,h1,h2⟩ ?_ (ht:=⟨rfl,rfl,rfl,(look_val rfl (congrArg (fun n:Nat=>Value.int .u32 (n:Int)) (by rw[Nat.pow_zero,Nat.div_one]))),rfl,trivial⟩) (hL:=(weak_picks [some 0,some 1,some 2] ⟨⟨_,rfl,Blk.le_refl _⟩,⟨_,rfl,Blk.le_refl _⟩,⟨_,rfl,le_same (by rw[ldig,List.append_nil])⟩,trivial⟩ rfl rfl));rintro⟨j,b,n,cap,hj,h1,h2⟩;(try dsimp only);refine A6 ?_;refine Cd ?_ ?_<;>intro hb4
   ·have hlt:j<9:=(by have:=of_decide_eq_true hb4;omega);refine A7 ?_;refine r_div (r:=(((z.natAbs/10^(9*k)%1000000000)/10^j%10:Nat):Int)) rfl rfl rfl rfl (by omega) (congrArg some (rem_n _ _ rfl rfl)) ?_;refine r_arith (r:=((48+(z.natAbs/10^(9*k)%1000000000)/10^j%10:Nat):Int)) rfl rfl rfl rfl (congrArg some (by rw[IntKind.wrap_u32];omega)) ?_;refine r_conv (r:=((dchar ((z.natAbs/10^(9*k)%1000000000)/10^j)).toNat:Int)) u161 u5 rfl rfl rfl (by rw[dchar_nat,IntKind.wrap_u8];omega) ?_;refine r_buildSlice [(0,_)] (fun g=>[_,_,_,⟨some g,5,_,1,true⟩]) rfl rfl rfl (bs125_1) rfl (fun _=>rfl) (fun g1=>?_);refine q_append (b:=⟨b,5,NB (ldig (9*k) z.natAbs++ldig j (z.natAbs/10^(9*k)%1000000000)),n,true⟩) (len:=9*k+j) (cap:=cap) (n2:=1) 2 3 (fun r=>[_,_,⟨some r.g,5,NB (ldig (9*k) z.natAbs++ldig j (z.natAbs/10^(9*k)%1000000000))++[.int .u8 ((dchar ((z.natAbs/10^(9*k)%1000000000)/10^j)).toNat:Nat)],r.n,true⟩,_]) u125 el5 rfl rfl rfl rfl rfl rfl rfl rfl rfl rfl rfl rfl (by rw[NB_length,List.length_append,ldig_len,ldig_len,Nat.mul_one]) h1 (by rw[Nat.mul_one];exact h2) rfl (fun v hv=>by rw[List.mem_singleton.1 hv];rfl) (by omega) (fun r=>rfl) (fun r=>?_);refine A1 ?_;refine r_div (r:=(((z.natAbs/10^(9*k)%1000000000)/10^j/10:Nat):Int)) rfl rfl rfl rfl (by omega) (congrArg some (quo32 ((z.natAbs/10^(9*k)%1000000000)/10^j) 10 rfl rfl (Nat.lt_of_le_of_lt (Nat.div_le_self _ _) (Nat.lt_of_le_of_lt (Nat.div_le_self _ _) (Nat.lt_trans hR9 (by decide)))))) ?_;refine A6 ?_;refine Ar (((j+1:Nat):Int)) ?_;refine A3 ?_;exact Nl ⟨j+1,some r.g,r.n,r.cap,hlt,r.h,by have:=r.hn;omega⟩ (ht:=⟨rfl,rfl,rfl,(look_val rfl (congrArg (fun n:Nat=>Value.int .u32 (n:Int)) (by rw[Nat.div_div_eq_div_mul,←Nat.pow_succ]))),rfl,trivial⟩) (hL:=(weak_picks [some 0,some 1,some 2] ⟨⟨_,rfl,Blk.le_refl _⟩,⟨_,rfl,Blk.le_refl _⟩,⟨_,rfl,le_same (by rw[ldig_snoc,←List.append_assoc,NB_append];rfl)⟩,trivial⟩ rfl rfl))
   ·have hge:j=9:=(by have:=of_decide_eq_false hb4;omega);subst hge;refine A8 ?_;refine r_scall0 [slv (some g1) 0 (digs B32 (z.natAbs/10^(9*k))).length cx] [1] rfl rfl rfl (c_nat_trim (row (digs B32 (z.natAbs/10^(9*k))).length (shoQ (z.natAbs/10^(9*k)) 1000000000)) (row_lt fun j=>B32_mod _) (by rw[row_length];omega) (row_length _ _) ⟨some g1,_,cx,hx⟩) ⟨⟨_,rfl,le_share⟩,trivial⟩ rfl ?_;refine r_know 18 (slv (some g1) 0 (digs B32 (z.natAbs/10^(9*(k+1)))).length cx) rfl (by rw[shoQ_val,pr_div]) ?_;refine A3 ?_;exact Nl ⟨k+1,cx,b,n,cap,Nat.le_trans (digs_length_mono (by decide) (by rw[←pr_div];exact Nat.div_le_self _ _)) hx,by omega,h2,by omega⟩ (hμ:=(by show z.natAbs/10^(9*(k+1))<z.natAbs/10^(9*k);rw[←pr_div];exact Nat.div_lt_self (Nat.pos_of_ne_zero hm0) (by decide))) (hL:=(weak_picks [some 0,some 1,some 2] ⟨⟨_,rfl,Blk.le_refl _⟩,⟨_,rfl,⟨rfl,rfl,rfl,⟨(digs B32 (z.natAbs/10^(9*(k+1)))).length,pr_row⟩,id⟩⟩,⟨_,rfl,le_same (by rw[pr_next])⟩,trivial⟩ rfl rfl))
  ·have hm0:z.natAbs/10^(9*k)=0:=by
    by_cases e:z.natAbs/10^(9*k)=0
    ·exact e
    ·have:=dig_pos e;have h2:=of_decide_eq_false hb2;omega
   have hK:z.natAbs<10^(9*k):=by
    rw[←Nat.not_le];intro h2;have:=Nat.div_pos h2 (Nat.pow_pos (by decide));omega
   refine A7 ?_;refine El (ι:={j:Nat // j≤9*k∧stripT ((ldig (9*k) z.natAbs).take j)=stripT (ldig (9*k) z.natAbs)}) (fun⟨j,hj,hI⟩=>([(1,.pointer (some ⟨g0,0,none⟩)),(3,slv b 0 j cap)],[⟨some g0,25,[.bool (decide (z<0)),.string (mag z.natAbs)],2,true⟩,⟨b,5,NB (ldig (9*k) z.natAbs),n,true⟩],j)) ⟨9*k,Nat.le_refl _,by rw[List.take_of_length_le (by rw[ldig_len];exact Nat.le_refl _)]⟩ ?_ (hL:=(weak_pk [some 0,some 2]));rintro⟨j,hj,hI⟩;(try dsimp only);refine A7 ?_;refine Rs 36 ?_ ?_<;>intro hb4
   ·have hj0:0<j:=(by have:=of_decide_eq_true hb4;omega);obtain⟨c,hxc⟩:∃c,(ldig (9*k) z.natAbs)[j-1]? =some c:=⟨(ldig (9*k) z.natAbs)[j-1]'(by rw[ldig_len];omega),List.getElem?_eq_getElem _⟩;refine A3 ?_;refine Ar (((j-1:Nat):Int)) ?_;refine r_indexAddr 1 (j-1) u125 ti5 rfl rfl rfl rfl rfl (by omega) (by omega) (fun e=>by have:=congrArg List.length e;rw[NB_length,ldig_len] at this;simp at this;omega) (by show 0+Int.toNat _*1=_;omega) ?_;refine r_load1 (v:= .int .u8 (c.toNat:Nat)) 1 (j-1) ti5 rfl rfl rfl rfl (NB_get hxc) ?_;refine A4 ?_;refine Cd ?_ ?_<;>intro hb5
    ·have hc48:c=48:=by
      have hh:=hb5;exact UInt8.toNat_inj.1 (by have:=eq_of_beq hh;simpa using Int.ofNat_inj.1 this)
     refine A7 ?_;refine Ar (((j-1:Nat):Int)) ?_;refine r_sliceH (j-1) u125 ti5 rfl rfl rfl rfl (by omega) (by omega) (by omega) ?_;refine A4 ?_;exact nextL ⟨j-1,by omega,by
 rw[←hI];have e:=strip_step hxc;rw[Nat.sub_add_cancel hj0,hc48] at e;rw[e,stripT_zero]⟩ (by show j-1<j;omega) ⟨rfl,rfl,trivial⟩ (Weak.refl _)
    ·have hc48:c≠48:=by
      have hh:=hb5;intro e;subst e;exact absurd hh (by decide)
     have hS:stripT (ldig (9*k) z.natAbs)=(ldig (9*k) z.natAbs).take j:=by
      rw[←hI];have e:=strip_step hxc;rw[Nat.sub_add_cancel hj0] at e;rw[e,stripT_full hc48]
     refine A7 ?_;obtain⟨S,hSe⟩:∃S,(ldig (9*k) z.natAbs).take j=S:=⟨_,rfl⟩;have hSl:S.length=j:=by rw[←hSe,List.length_take,ldig_len];omega
     have hSd:S.reverse=decS z.natAbs:=(by rw[←hSe,←hS];exact strip_decS hK hN0);have hSn:0<S.length:=List.length_pos_iff.2 fun e=>by rw[e] at hSd;exact decS_ne hN0 hSd.symm
     refine at_weakL (L':=[⟨some g0,25,[.bool (decide (z<0)),.string (mag z.natAbs)],2,true⟩,⟨b,5,NB S,n,true⟩]) (weak_picks [some 0,some 1] ⟨⟨_,rfl,Blk.le_refl _⟩,⟨_,rfl,⟨rfl,rfl,rfl,⟨j,by rw[←hSe,←NB_take]⟩,id⟩⟩,trivial⟩ rfl rfl) ?_;refine at_know 3 (slv b 0 S.length cap) rfl (by rw[hSl]) ?_;refine A5 ?_;refine Cd ?_ ?_<;>intro hb6
     ·have hz:decide (z<0)=true:=hb6;refine A2 ?_;refine r_buildSlice [(0,_)] (fun g=>[_,_,⟨some g,5,_,1,true⟩]) rfl rfl rfl (bs125_1) rfl (fun _=>rfl) (fun g1=>?_);refine q_append (b:=⟨b,5,NB S,n,true⟩) (len:=S.length) (cap:=cap) (n2:=1) 1 2 (fun r=>[_,⟨some r.g,5,NB S++[.int .u8 45],r.n,true⟩,_]) u125 el5 rfl rfl rfl rfl rfl rfl rfl rfl rfl rfl rfl rfl (by rw[NB_length,Nat.mul_one]) (by omega) (by rw[Nat.mul_one];exact h2) rfl (fun v hv=>by rw[List.mem_singleton.1 hv];rfl) (by omega) (fun r=>rfl) (fun r=>?_);refine A5 ?_;obtain⟨W,hW⟩:∃W,S++[45]=W:=⟨_,rfl⟩;have hWl:W.length=S.length+1:=by rw[←hW];simp
      have hWr:W.reverse=intS z:=by
       unfold intS;rw[if_pos (of_decide_eq_true hz),←hW,List.reverse_append,hSd];rfl
      refine at_weakL (L':=[⟨some g0,25,[.bool (decide (z<0)),.string (mag z.natAbs)],2,true⟩,⟨some r.g,5,NB W,r.n,true⟩]) (weak_picks [some 0,some 1] ⟨⟨_,rfl,Blk.le_refl _⟩,⟨_,rfl,le_same (by rw[←hW,NB_append];rfl)⟩,trivial⟩ rfl rfl) ?_;refine at_know 3 (slv (some r.g) 0 W.length r.cap) rfl (by rw[hWl]) ?_;refine A3 ?_;refine Ar (((W.length-1:Nat):Int)) ?_;refine A5 ?_;refine El (ι:={q:Nat×Bs8 // RevI W q.2 q.1∧2*q.1≤W.length}) (fun⟨⟨i,c⟩,hR,hi⟩=>([(3,slv (some r.g) 0 W.length r.cap),(6,.int .i64 (i:Nat)),(7,.int .i64 (W.length-1-i:Nat))],[⟨some g0,25,[.bool (decide (z<0)),.string (mag z.natAbs)],2,true⟩,⟨(some r.g),5,NB c,r.n,true⟩],W.length-2*i)) ⟨(0,W),RevI.zero _,Nat.zero_le _⟩ ?_ (hL:=Weak.auto);rintro⟨⟨i,c⟩,hR,hi⟩;(try dsimp only);dsimp only at hR hi;refine A8 ?_;refine Cd ?_ ?_<;>intro hb8
      ·have hlt:2*i+1<W.length:=by have:=of_decide_eq_true hb8;omega
       obtain⟨ca,hca⟩:∃a,c[i]? =some a:=⟨c[i]'(by rw[hR.1];omega),List.getElem?_eq_getElem _⟩;obtain⟨cb,hcb⟩:∃a,c[W.length-1-i]? =some a:=⟨c[W.length-1-i]'(by rw[hR.1];omega),List.getElem?_eq_getElem _⟩;refine A4 ?_;refine at_drawnEM (X:=Unit) (l':=[⟨_,_,_,_,_,_⟩,⟨_,_,_,_,_,_⟩,⟨_,_,_,_,_,_⟩,⟨_,_,_,_,_,_⟩,⟨_,_,_,_,_,_⟩,⟨_,_,_,_,_,_⟩,⟨_,_,_,_,_,_⟩,⟨_,_,_,_,_,_⟩]) (fun⟨⟩=>[(3,slv (some r.g) 0 W.length r.cap),(6,.int .i64 (i:Nat)),(7,.int .i64 (W.length-1-i:Nat))]) (fun⟨⟩=>[⟨some g0,25,[.bool (decide (z<0)),.string (mag z.natAbs)],2,true⟩,⟨(some r.g),5,NB ((c.set i cb).set (W.length-1-i) ca),r.n,true⟩]) [0,1,2,3,4,5,8,9] 8 mixed (by kernel_rfl) rfl ?_ ?_
       ·refine A9 ?_;refine Tn2 6 10 ?_ ?_
        repeat' first
         |(refine Ix 1 i ?_;refine A1 ?_;refine Td1 13 ?_)
         |(refine r_store1 rfl 1 i [_,⟨_,5,_,_,true⟩] (NB (c.set i cb)) ti5 rfl rfl rfl rfl rfl rfl rfl rfl (by have h8:=hR.1;rw[NB_length];first|omega|(rw[List.length_set];omega)) (NB_set _ _ _) rfl ?_;refine A1 ?_;refine Td1 14 ?_)
         |(refine Ix 1 (W.length-1-i) ?_;refine A1 ?_;refine Td1 15 ?_)
         |(refine r_load1 (v:= .int .u8 (ca.toNat:Nat)) 1 i ti5 rfl rfl rfl rfl (NB_get hca) ?_;refine A1 ?_;refine Td1 12 ?_)
         |(refine r_load1 (v:= .int .u8 (cb.toNat:Nat)) 1 (W.length-1-i) ti5 rfl rfl rfl rfl (NB_get hcb) ?_;refine A1 ?_;refine Td1 12 ?_)
         |(refine r_load1 (v:= .int .u8 (cb.toNat:Nat)) 1 (W.length-1-i) ti5 rfl rfl rfl rfl (NB_get hcb) ?_;refine A1 ?_;refine Td1 11 ?_)
         |(refine r_load1 (v:= .int .u8 (ca.toNat:Nat)) 1 i ti5 rfl rfl rfl rfl (NB_get hca) ?_;refine A1 ?_;refine Td1 7 ?_)
         |(refine Ix 1 (W.length-1-i) ?_;refine A1 ?_;refine Td2 7 10 ?_ ?_)
         |(refine r_load1 (v:= .int .u8 (cb.toNat:Nat)) 1 (W.length-1-i) ti5 rfl rfl rfl rfl (NB_get hcb) ?_;refine A1 ?_;refine Td1 10 ?_)
         |(refine Ix 1 i ?_;refine A1 ?_;refine Td1 11 ?_)
         |(refine Ix 1 i ?_;refine A1 ?_;refine Td2 7 11 ?_ ?_)
         |(refine Ix 1 i ?_;refine A1 ?_;refine Td2 6 11 ?_ ?_)
         |(refine Ix 1 (W.length-1-i) ?_;refine A1 ?_;refine Td2 7 11 ?_ ?_)
         |(refine r_load1 (v:= .int .u8 (ca.toNat:Nat)) 1 i ti5 rfl rfl rfl rfl (NB_get hca) ?_;refine A1 ?_;refine Td1 6 ?_)
         |(refine Ix 1 (W.length-1-i) ?_;refine A1 ?_;refine Td1 7 ?_)
         |(refine r_store1 rfl 1 (W.length-1-i) [_,⟨_,5,_,_,true⟩] (NB ((c.set i cb).set (W.length-1-i) ca)) ti5 rfl rfl rfl rfl rfl rfl rfl rfl (by have h8:=hR.1;rw[NB_length];first|omega|(rw[List.length_set];omega)) (NB_set _ _ _) rfl ?_;refine A1 ?_;refine tr_nil (by decide+kernel) ?_;exact⟨(),rfl,⟨rfl,rfl,rfl,trivial⟩,List.Perm.refl _⟩)
       rintro⟨⟩;show At _ ⟨81,[(3,slv (some r.g) 0 W.length r.cap),(6,.int .i64 (i:Nat)),(7,.int .i64 (W.length-1-i:Nat))],[⟨some g0,25,[.bool (decide (z<0)),.string (mag z.natAbs)],2,true⟩,⟨(some r.g),5,NB ((c.set i cb).set (W.length-1-i) ca),r.n,true⟩]⟩ _;refine A4 ?_;refine Ar (((i+1:Nat):Int)) ?_;refine A1 ?_;refine Ar (((W.length-1-(i+1):Nat):Int)) ?_;refine A4 ?_;exact Nl ⟨(i+1,(c.set i cb).set (W.length-1-i) ca),hR.step hlt hca hcb,by omega⟩ (hμ:=(by show W.length-2*(i+1)<W.length-2*i;omega))
      ·have hge:W.length≤2*i+1:=by have:=of_decide_eq_false hb8;omega
       refine A8 ?_;refine r_convBS (l:=c.map UInt8.toNat) (r:=strU c) 1 u125 u5 u9 rfl rfl rfl rfl rfl (by rw[←strN_NB,List.take_of_length_le (by rw[NB_length,hR.1];exact Nat.le_refl _)]) (by rw[List.length_map,hR.1]) (strN_U c) ?_;refine A4 ?_;refine E1 fun w hL=>⟨?_,hL.below⟩;rw[hR.done hge,hWr]
     ·have hz:decide (z<0)=false:=hb6;refine A4 ?_;have hWr:S.reverse=intS z:=by
       unfold intS;rw[if_neg (of_decide_eq_false hz)];exact hSd
      refine at_some 1 rfl (fun e=>by have:=congrArg List.length e;rw[NB_length] at this;simp only[List.length_nil] at this;omega) (fun hbs=>?_);obtain⟨gb,hgb⟩:=Option.isSome_iff_exists.1 hbs;subst hgb;refine A3 ?_;refine Ar (((S.length-1:Nat):Int)) ?_;refine A5 ?_;refine El (ι:={q:Nat×Bs8 // RevI S q.2 q.1∧2*q.1≤S.length}) (fun⟨⟨i,c⟩,hR,hi⟩=>([(3,slv (some gb) 0 S.length cap),(6,.int .i64 (i:Nat)),(7,.int .i64 (S.length-1-i:Nat))],[⟨some g0,25,[.bool (decide (z<0)),.string (mag z.natAbs)],2,true⟩,⟨(some gb),5,NB c,n,true⟩],S.length-2*i)) ⟨(0,S),RevI.zero _,Nat.zero_le _⟩ ?_ (hL:=Weak.auto);rintro⟨⟨i,c⟩,hR,hi⟩;(try dsimp only);dsimp only at hR hi;refine A8 ?_;refine Cd ?_ ?_<;>intro hb8
      ·have hlt:2*i+1<S.length:=by have:=of_decide_eq_true hb8;omega
       obtain⟨ca,hca⟩:∃a,c[i]? =some a:=⟨c[i]'(by rw[hR.1];omega),List.getElem?_eq_getElem _⟩;obtain⟨cb,hcb⟩:∃a,c[S.length-1-i]? =some a:=⟨c[S.length-1-i]'(by rw[hR.1];omega),List.getElem?_eq_getElem _⟩;refine A4 ?_;refine at_drawnEM (X:=Unit) (l':=[⟨_,_,_,_,_,_⟩,⟨_,_,_,_,_,_⟩,⟨_,_,_,_,_,_⟩,⟨_,_,_,_,_,_⟩,⟨_,_,_,_,_,_⟩,⟨_,_,_,_,_,_⟩,⟨_,_,_,_,_,_⟩,⟨_,_,_,_,_,_⟩]) (fun⟨⟩=>[(3,slv (some gb) 0 S.length cap),(6,.int .i64 (i:Nat)),(7,.int .i64 (S.length-1-i:Nat))]) (fun⟨⟩=>[⟨some g0,25,[.bool (decide (z<0)),.string (mag z.natAbs)],2,true⟩,⟨(some gb),5,NB ((c.set i cb).set (S.length-1-i) ca),n,true⟩]) [0,1,2,3,4,5,8,9] 8 mixed (by kernel_rfl) rfl ?_ ?_
       ·refine A9 ?_;refine Tn2 6 10 ?_ ?_
        repeat' first
         |(refine Ix 1 i ?_;refine A1 ?_;refine Td1 13 ?_)
         |(refine r_store1 rfl 1 i [_,⟨_,5,_,_,true⟩] (NB (c.set i cb)) ti5 rfl rfl rfl rfl rfl rfl rfl rfl (by have h8:=hR.1;rw[NB_length];first|omega|(rw[List.length_set];omega)) (NB_set _ _ _) rfl ?_;refine A1 ?_;refine Td1 14 ?_)
         |(refine Ix 1 (S.length-1-i) ?_;refine A1 ?_;refine Td1 15 ?_)
         |(refine r_load1 (v:= .int .u8 (ca.toNat:Nat)) 1 i ti5 rfl rfl rfl rfl (NB_get hca) ?_;refine A1 ?_;refine Td1 12 ?_)
         |(refine r_load1 (v:= .int .u8 (cb.toNat:Nat)) 1 (S.length-1-i) ti5 rfl rfl rfl rfl (NB_get hcb) ?_;refine A1 ?_;refine Td1 12 ?_)
         |(refine r_load1 (v:= .int .u8 (cb.toNat:Nat)) 1 (S.length-1-i) ti5 rfl rfl rfl rfl (NB_get hcb) ?_;refine A1 ?_;refine Td1 11 ?_)
         |(refine r_load1 (v:= .int .u8 (ca.toNat:Nat)) 1 i ti5 rfl rfl rfl rfl (NB_get hca) ?_;refine A1 ?_;refine Td1 7 ?_)
         |(refine Ix 1 (S.length-1-i) ?_;refine A1 ?_;refine Td2 7 10 ?_ ?_)
         |(refine r_load1 (v:= .int .u8 (cb.toNat:Nat)) 1 (S.length-1-i) ti5 rfl rfl rfl rfl (NB_get hcb) ?_;refine A1 ?_;refine Td1 10 ?_)
         |(refine Ix 1 i ?_;refine A1 ?_;refine Td1 11 ?_)
         |(refine Ix 1 i ?_;refine A1 ?_;refine Td2 7 11 ?_ ?_)
         |(refine Ix 1 i ?_;refine A1 ?_;refine Td2 6 11 ?_ ?_)
         |(refine Ix 1 (S.length-1-i) ?_;refine A1 ?_;refine Td2 7 11 ?_ ?_)
         |(refine r_load1 (v:= .int .u8 (ca.toNat:Nat)) 1 i ti5 rfl rfl rfl rfl (NB_get hca) ?_;refine A1 ?_;refine Td1 6 ?_)
         |(refine Ix 1 (S.length-1-i) ?_;refine A1 ?_;refine Td1 7 ?_)
         |(refine r_store1 rfl 1 (S.length-1-i) [_,⟨_,5,_,_,true⟩] (NB ((c.set i cb).set (S.length-1-i) ca)) ti5 rfl rfl rfl rfl rfl rfl rfl rfl (by have h8:=hR.1;rw[NB_length];first|omega|(rw[List.length_set];omega)) (NB_set _ _ _) rfl ?_;refine A1 ?_;refine tr_nil (by decide+kernel) ?_;exact⟨(),rfl,⟨rfl,rfl,rfl,trivial⟩,List.Perm.refl _⟩)
       rintro⟨⟩;show At _ ⟨81,[(3,slv (some gb) 0 S.length cap),(6,.int .i64 (i:Nat)),(7,.int .i64 (S.length-1-i:Nat))],[⟨some g0,25,[.bool (decide (z<0)),.string (mag z.natAbs)],2,true⟩,⟨(some gb),5,NB ((c.set i cb).set (S.length-1-i) ca),n,true⟩]⟩ _;refine A4 ?_;refine Ar (((i+1:Nat):Int)) ?_;refine A1 ?_;refine Ar (((S.length-1-(i+1):Nat):Int)) ?_;refine A4 ?_;exact Nl ⟨(i+1,(c.set i cb).set (S.length-1-i) ca),hR.step hlt hca hcb,by omega⟩ (hμ:=(by show S.length-2*(i+1)<S.length-2*i;omega))
      ·have hge:S.length≤2*i+1:=by have:=of_decide_eq_false hb8;omega
       refine A8 ?_;refine r_convBS (l:=c.map UInt8.toNat) (r:=strU c) 1 u125 u5 u9 rfl rfl rfl rfl rfl (by rw[←strN_NB,List.take_of_length_le (by rw[NB_length,hR.1];exact Nat.le_refl _)]) (by rw[List.length_map,hR.1]) (strN_U c) ?_;refine A4 ?_;refine E1 fun w hL=>⟨?_,hL.below⟩;rw[hR.done hge,hWr]
   ·have hj0:j=0:=(by have:=of_decide_eq_false hb4;omega);have hS:stripT (ldig (9*k) z.natAbs)=(ldig (9*k) z.natAbs).take j:=by rw[←hI,hj0];rfl
    refine A18 ?_;obtain⟨S,hSe⟩:∃S,(ldig (9*k) z.natAbs).take j=S:=⟨_,rfl⟩;have hSl:S.length=j:=by rw[←hSe,List.length_take,ldig_len];omega
    have hSd:S.reverse=decS z.natAbs:=(by rw[←hSe,←hS];exact strip_decS hK hN0);have hSn:0<S.length:=List.length_pos_iff.2 fun e=>by rw[e] at hSd;exact decS_ne hN0 hSd.symm
    exfalso;omega
end Go.Proofs.YtfijbadahkmhbaaGreatDoor
namespace Go.Via
open Go Go.RowKit
theorem decR_len:∀(f k n:Nat),n<10^k→(decR f n).length≤k
 |0,k,n,h=>Nat.zero_le _
 |f+1,0,n,h=>by
  have:n=0:=by simpa using h
  rw[decR,if_pos this];exact Nat.zero_le _
 |f+1,k+1,n,h=>by
  rw[decR]
  split
  ·exact Nat.zero_le _
  ·have:=decR_len f k (n/10) (by rw[Nat.pow_succ] at h;omega)
   rw[List.length_cons];omega
theorem decS_len(n:Nat):(decS n).length≤3*nb n+1:=by
 unfold decS
 split
 ·simp
 ·rw[List.length_reverse]
  have h3:n<256^nb n:=lt_nb n
  have h4:256^nb n≤1000^nb n:=Nat.pow_le_pow_left (by decide) _
  have h5:(1000:Nat)^nb n=10^(3*nb n):=by rw[Nat.pow_mul]
  have:=decR_len n (3*nb n) n (by omega)
  omega
theorem intS_len(z:Int):(intS z).length≤3*szI z+2:=by
 have h:=decS_len z.natAbs
 have e:szI z=nb z.natAbs:=rfl
 unfold intS
 split
 ·rw[List.length_cons];omega
 ·omega
theorem ratS_len(q:Rat):(ratS q).length≤6*szQ q+5:=by
 have h1:=intS_len q.num
 have h2:=intS_len (q.den:Int)
 have h3:=lI_num q
 have h4:=lI_den q
 unfold ratS
 split
 ·omega
 ·rw[List.length_append,List.length_cons];omega
theorem den_I{q:Rat}(h:¬q.den=1):(.agg #[.bool false,.string (dm q)]:Value)=I (q.den:Int):=by
 unfold dm
 rw[if_neg h]
 exact I_nat q.den
end Go.Via
namespace Go.Proofs.YtfijbadahkmhbaaGreatDoor
open Go Go.RowKit Go.Via
theorem c_rational_Print(q:Rat)(hq:szQ q≤1000000):PCall Tryz.prog 67 #[Q q] (.string (strU (ratS q))):=by
 have hn1:=Nat.le_trans (lI_num q) hq;have hd1:=Nat.le_trans (lI_den q) hq;have hl1:=intS_len q.num;have hl2:=intS_len (q.den:Int);refine⟨by kernel_rfl,fun w=>?_⟩;refine cB1 18 Tryz.func67 (LRel.nil w) ?_;refine A2 ?_;refine Bo [_,_,_,_] 4 (fun g=>[⟨some g,27,_,4,true⟩]) (fun g0=>?_);refine A7 ?_;refine Ld 0 2 [_,_] ti25 ?_;refine r_build [] rfl rfl rfl (bd25_0) ?_;refine r_eqlAgg rfl rfl rfl rfl gd25 (eq25r _ _ _ _) ?_;refine r_know 6 (.bool (decide (q.den=1))) rfl (by rw[dm_nil]) ?_;refine A2 ?_;refine Cd ?_ ?_<;>intro hb0
 ·have hden:q.den=1:=of_decide_eq_true hb0;refine A3 ?_;refine Ld 0 0 [_,_] ti25 ?_;refine Kr 8 (I q.num) ?_;refine Pc (c_integer_Print q.num hn1) ?_;refine A5 ?_;refine E1 fun w hL=>⟨?_,hL.below⟩;unfold ratS;rw[if_pos hden]
 ·have hden:¬q.den=1:=of_decide_eq_false hb0;refine A3 ?_;refine at_drawn (l':=[⟨_,_,_,_,_,_⟩,⟨_,_,_,_,_,_⟩,⟨_,_,_,_,_,_⟩,⟨_,_,_,_,_,_⟩,⟨_,_,_,_,_,_⟩,⟨_,_,_,_,_,_⟩,⟨_,_,_,_,_,_⟩,⟨_,_,_,_,_,_⟩,⟨_,_,_,_,_,_⟩]) [] [0,1,4,5,2,3,6,7,8] mixed (by kernel_rfl) rfl (by kernel_rfl) ?_;refine A1 ?_;refine Ld 0 0 [_,_] ti25 ?_;refine Kr 11 (I q.num) ?_;refine A1 ?_;refine Ld 0 2 [_,_] ti25 ?_;refine r_know 15 (I (q.den:Int)) rfl (den_I hden) ?_;refine Pc (c_integer_Print q.num hn1) ?_;refine r_addS (p:=intS q.num) (q:=[47]) rfl rfl rfl rfl rfl rfl rfl (by show _+1≤_;omega) ?_;refine Pc (c_integer_Print (q.den:Int) hd1) ?_;refine r_addS (p:=intS q.num++[47]) (q:=intS (q.den:Int)) rfl rfl rfl rfl rfl rfl rfl (by rw[List.length_append];show _+1+_≤_;omega) ?_;refine A4 ?_;refine E1 fun w hL=>⟨?_,hL.below⟩;unfold ratS;rw[if_neg hden,List.append_assoc];exact rfl
end Go.Proofs.YtfijbadahkmhbaaGreatDoor
namespace Go.Via
open Go Go.RowKit
noncomputable def NumV.rat:NumV→Rat
 | .q r=>r
 | .raw b1 s1 b2 s2=> @dite _ (∃q:Rat,Value.agg #[.bool b1,.string s1,.bool b2,.string s2]=Q q) (Classical.propDecidable _) (fun h=>h.choose) (fun _=>0)
theorem NumV.rat_cells{u:NumV}{b1 b2:Bool}{s1 s2:ByteArray}(h:u.cells=[.bool b1,.string s1,.bool b2,.string s2])(ho:u.ok=true):(.agg #[.bool b1,.string s1,.bool b2,.string s2]:Value)=Q u.rat:=by
 cases u with
 |q r=>
  obtain⟨rfl,rfl,rfl,rfl⟩:=NumV.of_q h
  rfl
 |raw c1 t1 c2 t2=>
  obtain⟨rfl,rfl,rfl,rfl⟩:=NumV.of_raw h
  have h2:∃q:Rat,Value.agg #[.bool b1,.string s1,.bool b2,.string s2]=Q q:=by
   have h3:isQ b1 s1 b2 s2=true:=ho
   unfold isQ at h3
   exact @of_decide_eq_true _ (Classical.propDecidable _) h3
  have e:(NumV.raw b1 s1 b2 s2).rat=h2.choose:= @dif_pos _ (Classical.propDecidable _) h2 _ _ _
  rw[e]
  exact h2.choose_spec
def joinC:List Bs8→Bs8
 |[]=>[]
 |[t]=>t
 |t::u::r=>t++[44,32]++joinC (u::r)
theorem joinC_snoc(t:Bs8):∀L:List Bs8,joinC (L++[t])=joinC L++(if L=[] then[] else[44,32])++t
 |[]=>by simp[joinC]
 |[u]=>by simp[joinC]
 |u::v::r=>by
  rw[List.cons_append,List.cons_append,joinC,joinC,←List.cons_append,joinC_snoc t (v::r)]
  simp
def quoS(n:Bs8):Bs8:=n.flatMap fun c=>if c=34 then[34,34] else[c]
def sNot:Bs8:=[110,111,116,32]
def sObject:Bs8:=[111,98,106,101,99,116,40]
def sZone:Bs8:=[122,111,110,101,40,34]
def sPoint:Bs8:=[112,111,105,110,116,40]
mutual
noncomputable def txt:XT→Nat→Bs8
 | .mk o nm u l,lv=>
   match opsT.find? (fun f=>decide ((f.2.1:Int)=o)) with
   |some f=>
    if f.2.2<lv then[40]++(if f.2.2=3 then sNot++txtAt l 0 3 else txtAt l 0 (if f.2.2=4 then 5 else f.2.2)++([32]++f.1++[32])++txtAt l 1 (f.2.2+1))++[41]
    else if f.2.2=3 then sNot++txtAt l 0 3 else txtAt l 0 (if f.2.2=4 then 5 else f.2.2)++([32]++f.1++[32])++txtAt l 1 (f.2.2+1)
   |none=>
    if o=1 then ratS u.rat else if o=4 then nm else if o=3 then sObject++ratS u.rat++[41] else if o=5 then sZone++quoS nm++[34,41]
    else if o=6 then[91]++joinC (txtLs l)++[93] else if o=2 then sPoint++joinC (txtLs l)++[41]
    else match funT.find? (fun f=>decide ((f.2.1:Int)=o)) with
     |some f=>(f.1++[40])++joinC (txtLs l)++[41]
     |none=>[]
noncomputable def txtAt:List XT→Nat→Nat→Bs8
 |[],_,_=>[]
 |x::_,0,lv=>txt x lv
 |_::l,i+1,lv=>txtAt l i lv
noncomputable def txtLs:List XT→List Bs8
 |[]=>[]
 |x::l=>txt x 1::txtLs l
end
theorem txtAt_get:∀{l:List XT} {i:Nat} {y:XT} (lv:Nat),l[i]? =some y→txtAt l i lv=txt y lv
 |[],i,y,lv,h=>by simp at h
 |x::l,0,y,lv,h=>by simp at h;subst h;rw[txtAt]
 |x::l,i+1,y,lv,h=>by rw[txtAt];exact txtAt_get lv (by simpa using h)
theorem txtLs_len:∀l:List XT,(txtLs l).length=l.length
 |[]=>by rw[txtLs];rfl
 |x::l=>by rw[txtLs,List.length_cons,txtLs_len,List.length_cons]
theorem txtLs_take:∀{l:List XT} {i:Nat} {y:XT},l[i]? =some y→(txtLs l).take (i+1)=(txtLs l).take i++[txt y 1]
 |[],i,y,h=>by simp at h
 |x::l,0,y,h=>by simp at h;subst h;rw[txtLs];rfl
 |x::l,i+1,y,h=>by
  have ih:=txtLs_take (l:=l) (i:=i) (y:=y) (by simpa using h)
  rw[txtLs,List.take_succ_cons,ih];rfl
mutual
def okX:XT→Prop
 | .mk o nm u l=>nodeE (.mk o nm u l)=0∧okXs l
def okXs:List XT→Prop
 |[]=>True
 |x::l=>okX x∧okXs l
end
theorem okX_parts{x:XT}(h:okX x):nodeE x=0∧okXs x.args:=by
 cases x with
 |mk o nm u l=>rw[okX] at h;exact h
theorem okXs_get:∀{l:List XT} {i:Nat} {y:XT},okXs l→l[i]? =some y→okX y
 |[],i,y,_,h=>by simp at h
 |x::l,0,y,hk,h=>by simp at h;subst h;rw[okXs] at hk;exact hk.1
 |x::l,i+1,y,hk,h=>by rw[okXs] at hk;exact okXs_get hk.2 (by simpa using h)
mutual
theorem chk_ok:∀(x:XT) (lv n:Nat),(chk x lv n).1=0→okX x
 | .mk o nm u l,lv,n,h=>by
   rw[chk] at h
   split at h
   ·cases h
   ·split at h
    ·cases h
    ·split at h
     ·rename_i h2;exact absurd h h2
     ·rename_i h2
      rw[okX]
      exact⟨by simpa using h2,chks_ok l (lv+1) (n+1) h⟩
theorem chks_ok:∀(l:List XT) (lv n:Nat),(chks l lv n).1=0→okXs l
 |[],lv,n,h=>by rw[okXs];trivial
 |x::l,lv,n,h=>by
  rw[chks] at h
  rw[okXs]
  split at h
  ·rename_i h2;exact absurd h h2
  ·rename_i h2
   exact⟨chk_ok x lv n (by simpa using h2),chks_ok l lv _ h⟩
end
def sepS(i:Nat):Bs8:=if i=0 then[] else[44,32]
theorem joinC_step{l:List XT}{i:Nat}{y:XT}(h:l[i]? =some y):joinC ((txtLs l).take (i+1))=joinC ((txtLs l).take i)++sepS i++txt y 1:=by
 rw[txtLs_take h,joinC_snoc]
 have hlt:i<l.length:=(List.getElem?_eq_some_iff.1 h).1
 have e:((txtLs l).take i=[])=(i=0):=by
  refine propext ⟨fun h1=>?_,fun h1=>by rw[h1];rfl⟩
  have h2:=congrArg List.length h1
  rw[List.length_take,txtLs_len,List.length_nil] at h2
  omega
 unfold sepS
 simp only[e]
theorem joinC_mono:∀(B A:List Bs8),(joinC A).length≤(joinC (A++B)).length
 |[],A=>by simp
 |b::B,A=>by
  have h1:=joinC_mono B (A++[b])
  rw[List.append_assoc] at h1
  refine Nat.le_trans ?_ h1
  rw[joinC_snoc]
  simp
theorem joinC_take_le(l:List XT)(i:Nat):(joinC ((txtLs l).take i)).length≤(joinC (txtLs l)).length:=by
 have:=joinC_mono ((txtLs l).drop i) ((txtLs l).take i)
 rwa [List.take_append_drop] at this
theorem txtLs_all(l:List XT):(txtLs l).take l.length=txtLs l:=List.take_of_length_le (by rw[txtLs_len];exact Nat.le_refl _)
abbrev GM(m:Int):Blk:=⟨some 0,3,[.int .i64 m],1,false⟩
end Go.Via
namespace Go.Proofs.YtfijbadahkmhbaaGreatDoor
open Go Go.RowKit Go.Via
def WriC(m:Int)(x:XT):Prop:=∀(z:XR x) (lv g:Nat) (a:Bool) (d:Bd),d.ok→okX x→x.fit=true→x.size≤1000000000→lv≤9→d.s.length+(txt x lv).length≤17179869184→
 ECall Tryz.prog 96 [BB g a d,BF d,gB z.T false,GM m] [.pointer (some ⟨g,0,none⟩),z.v,.int .i64 (lv:Nat)] (BdX (d.s++txt x lv)) (fun _=> .tuple #[]) (fun d'=>[BB g true d'.1,BF d'.1])
end Go.Proofs.YtfijbadahkmhbaaGreatDoor
namespace Go.Proofs.YtfijbadahkmhbaaGreatDoor
open Go Go.RowKit Go.Via Go.ChangeShapes Go.WideShapes
theorem below_kept{w w':World}(h:Below w.heap.size w w')(may:MemPlace→Prop):w.keptBut w' may:=by
 have hb:∀b,b<w.heap.size→w'.heap[b]? =w.heap[b]? :=h.block
 refine⟨h.os,h.output,fun i hi=>?_⟩
 rw[hb i hi]
 split
 ·rename_i e1 e2
  rw[e1] at e2;cases e2
  exact⟨rfl,rfl,rfl,fun _ _=>rfl⟩
 ·rename_i e1 e2
  rw[e1] at e2;cases e2
  exact Or.inr ⟨rfl,rfl⟩
 ·rfl
set_option maxRecDepth 100000 in
theorem maxCell{W:World}(h:W.ShapedOpen Tryz.prog):∃m:Int,BlkAt (Bs.of W) W (GM m) 0:=by
 obtain⟨cs,hh,hs,hr⟩:=h.1 0 #[.int .i64 0] 3 (of_decide_eq_true (by kernel_rfl)) (by kernel_rfl)
 obtain⟨ts,hts,_,hall⟩:=hr (by kernel_rfl)
 obtain rfl:ts=[3]:=Option.some.inj (hts.symm.trans (show Tryz.prog.cellTypes Tryz.prog.depth 3=some [3] by kernel_rfl))
 have h1:cs.size=1:=hs
 obtain⟨u,hu',hok⟩:=hall 0 cs[0] (by simp[h1])
 obtain rfl:u=3:=by simpa using hu'.symm
 unfold Cell.ok at hok
 rw[Tryz.underlying3] at hok
 cases hv:cs[0]<;>rw[hv] at hok<;>simp at hok
 case int k' n=>
  refine⟨n,.inl ⟨cs,⟨3,(0,0),hh,(fun h=>by cases h),(show 3<mapMark by decide)⟩,h1,?_⟩,fun h=>by cases h⟩
  obtain⟨l⟩:=cs
  match l,h1 with
  |[c],_=>
   simp at hv
   rw[hv,hok.1];rfl
theorem str_strU(s:ByteArray):s=strU s.data.toList:=by
 apply ByteArray.ext
 show s.data=_
 unfold strU
 simp
end Go.Proofs.YtfijbadahkmhbaaGreatDoor
namespace Go.Proofs.YtfijbadahkmhbaaGreatDoor
open Go.ChangeShapes Go.WideShapes Go.ChangeAt Go.RowKit
theorem own:ownKnob Tryz.prog.godebug=none:=by kernel_rfl
noncomputable def laidWorld(os:Os):World:=
 let w0:=World.holding Tryz.prog os ⟨#[],#[],[]⟩
 {w0 with heap:=(w0.heap.modify 2 fun
 | .cells _ t frozen=> .cells (List.map (Value.int .u8) ([128,191,160,191,128,159,144,191,128,143]++List.replicate 22 0)).toArray t frozen
 |o=>o).modify 1 fun
 | .cells _ t frozen=> .cells (List.map (fun(z:Nat)=>Value.int .u8 z) Go.Pinned.utf8FirstZ).toArray t frozen
 |o=>o}
set_option maxRecDepth 100000 in
theorem laid_met(os:Os)(args:Array Value):laidMet Tryz.prog [("unicode/utf8.acceptRanges",Rows.laid_unicode_utf8_acceptRanges),("unicode/utf8.first",Rows.laid_unicode_utf8_first)] ((laidWorld os).forCall (fun _ _=>0) ⟨#[],args,[]⟩).memory:=
 laidMet_of_run' 8 (by kernel_rfl) (by kernel_rfl)
end Go.Proofs.YtfijbadahkmhbaaGreatDoor
namespace Go.Via
open Go Go.RowKit
def NumV.bytes:NumV→Nat
 | .q r=>(mag r.num.natAbs).size+(dm r).size
 | .raw _ s1 _ s2=>s1.size+s2.size
mutual
def XT.dep:XT→Nat
 | .mk _ _ _ l=>1+XT.deps l
def XT.deps:List XT→Nat
 |[]=>0
 |x::l=>max (XT.dep x) (XT.deps l)
end
mutual
theorem dep_le_size:∀x:XT,x.dep≤x.size
 | .mk _ _ _ l=>by rw[XT.dep,XT.size];have:=deps_le_sizes l;omega
theorem deps_le_sizes:∀l:List XT,XT.deps l≤XT.sizes l
 |[]=>by rw[XT.deps];exact Nat.zero_le _
 |x::l=>by rw[XT.deps,XT.sizes];have:=dep_le_size x;have:=deps_le_sizes l;omega
end
mutual
theorem foldN_size:∀(x:XT) (lv n:Nat),foldN (fun _ lv n=>n+1) x lv n=n+x.size
 | .mk o nm u l,lv,n=>by rw[foldN,foldsN_size l,XT.size];omega
theorem foldsN_size:∀(l:List XT) (lv n:Nat),foldsN (fun _ lv n=>n+1) l lv n=n+XT.sizes l
 |[],lv,n=>by rw[foldsN,XT.sizes];rfl
 |x::l,lv,n=>by rw[foldsN,foldN_size x,foldsN_size l,XT.sizes];omega
end
theorem XT.deps_take{l:List XT}{i:Nat}{y:XT}(h:l[i]? =some y):XT.deps (l.take (i+1))=max (XT.deps (l.take i)) y.dep:=by
 induction l generalizing i with
 |nil=>simp at h
 |cons x l ih=>
  cases i with
  |zero=>simp at h;subst h;simp[XT.deps]
  |succ i=>
   rw[List.getElem?_cons_succ] at h
   rw[List.take_succ_cons,List.take_succ_cons,XT.deps,XT.deps,ih h]
   omega
theorem XT.sizes_take{l:List XT}{i:Nat}{y:XT}(h:l[i]? =some y):XT.sizes (l.take (i+1))=XT.sizes (l.take i)+y.size:=by
 induction l generalizing i with
 |nil=>simp at h
 |cons x l ih=>
  cases i with
  |zero=>simp at h;subst h;simp[XT.sizes]
  |succ i=>
   rw[List.getElem?_cons_succ] at h
   rw[List.take_succ_cons,List.take_succ_cons,XT.sizes,XT.sizes,ih h]
   omega
theorem XT.sizes_take_le(l:List XT)(i:Nat):XT.sizes (l.take i)≤XT.sizes l:=by
 induction l generalizing i with
 |nil=>simp
 |cons x l ih=>
  cases i with
  |zero=>simp[XT.sizes]
  |succ i=>rw[List.take_succ_cons,XT.sizes,XT.sizes];have:=ih i;omega
theorem XT.deps_take_le(l:List XT)(i:Nat):XT.deps (l.take i)≤XT.deps l:=by
 induction l generalizing i with
 |nil=>simp
 |cons x l ih=>
  cases i with
  |zero=>simp[XT.deps]
  |succ i=>rw[List.take_succ_cons,XT.deps,XT.deps];have:=ih i;omega
end Go.Via
namespace Go.Proofs.YtfijbadahkmhbaaGreatDoor
open Go Go.RowKit Go.Via Go.ChangeShapes Go.WideShapes
theorem choose_n{α:Type}(a0:α){n:Nat}{p:Nat→α→Prop}(h:∀i,i<n→∃x,p i x):∃f:Nat→α,∀i,i<n→p i (f i):=by
 classical
 refine⟨fun i=>if h':i<n then Classical.choose (h i h') else a0,fun i hi=>?_⟩
 show p i (if h':i<n then Classical.choose (h i h') else a0)
 rw[dif_pos hi]
 exact Classical.choose_spec (h i hi)
theorem blk_flat{w:World}{a:Addr}{cs:List Value}(e:TypeId)(he:e<mapMark)(hne:cs≠[])(h:∀(j:Nat) (v:Value),cs[j]? =some v→w.cell? (a.add j)=some v):
 ∃(g:Nat) (pre:List Value) (N:Nat),a=⟨g,pre.length,none⟩∧BlkAt (Bs.of w) w ⟨some g,e,pre++cs,N,false⟩ g:=by
 obtain⟨c0,l,rfl⟩:=List.exists_cons_of_ne_nil hne
 have h0:=h 0 c0 rfl
 rw[show a.add 0=a by simp[Addr.add]] at h0
 obtain⟨g,off,spot⟩:=a
 have h0':=h0
 unfold World.cell? at h0'
 split at h0'
 ·rename_i cur e0 fr heq
  split at h0'
  ·cases h0'
  ·rename_i hsp
   have hsn:spot=none:=by cases spot with|none=>rfl|some z=>simp at hsp
   subst hsn
   have hoff:off<cur.size:=(Array.getElem?_eq_some_iff.1 h0').1
   have hpl:(cur.toList.take off).length=off:=by simp;omega
   refine⟨g,cur.toList.take off,cur.size,by rw[hpl],?_⟩
   refine⟨.inl ⟨cur,⟨e0,fr,heq,(fun h=>by cases h),he⟩,rfl,?_⟩,fun h=>by cases h⟩
   refine List.ext_getElem? fun j=>?_
   show(cur.toList.take (cur.toList.take off++c0::l).length)[j]? =_
   rw[List.length_append,hpl]
   by_cases hj:j<off
   ·rw[List.getElem?_append_left (by rw[hpl];exact hj),List.getElem?_take,List.getElem?_take,if_pos (by omega),if_pos hj]
   ·rw[List.getElem?_append_right (by rw[hpl];omega),hpl,List.getElem?_take]
    split
    ·rename_i hj2
     obtain⟨v,hv⟩:∃v,(c0::l)[j-off]? =some v:=⟨_,List.getElem?_eq_getElem (by omega)⟩
     have k2:=h _ _ hv
     rw[add_lit] at k2
     unfold World.cell? at k2
     simp only[heq] at k2
     rw[show off+(j-off)=j by omega] at k2
     rw[hv,←k2]
     simp
    ·rename_i hj2
     rw[List.getElem?_eq_none (by omega)]
 ·cases h0'
theorem flat_len{f:Nat→List Value}{k:Nat}:∀{n:Nat},(∀i,i<n→(f i).length=k)→((List.range n).flatMap f).length=n*k
 |0,_=>by simp
 |n+1,h=>by rw[List.range_succ,List.flatMap_append,List.length_append,flat_len (n:=n) (fun i hi=>h i (by omega))];simp[h n (by omega)];rw[Nat.succ_mul]
theorem cells_flat{w:World}{a:Addr}{k n:Nat}{f:Nat→List Value}(hf:∀i,i<n→w.cells? 0 (a.add (i*k)) k=some (f i))(hk:∀i,i<n→(f i).length=k)(h0:0<k):
 ∀(j:Nat) (v:Value),((List.range n).flatMap f)[j]? =some v→w.cell? (a.add j)=some v:=by
 induction n with
 |zero=>intro j v h;simp at h
 |succ n ih=>
  intro j v h
  rw[List.range_succ,List.flatMap_append] at h
  have hl:=flat_len (f:=f) (k:=k) (n:=n) (fun i hi=>hk i (by omega))
  by_cases hj:j<n*k
  ·rw[List.getElem?_append_left (by rw[hl];exact hj)] at h
   exact ih (fun i hi=>hf i (by omega)) (fun i hi=>hk i (by omega)) j v h
  ·rw[List.getElem?_append_right (by rw[hl];omega),hl] at h
   simp only[List.flatMap_cons,List.flatMap_nil,List.append_nil] at h
   have hjl:j-n*k<k:=by
    have:=(List.getElem?_eq_some_iff.1 h).1
    rwa [hk n (by omega)] at this
   obtain⟨_,_,hc⟩:=World.cells?_some (hf n (by omega))
   have:=hc (j-n*k) hjl
   rw[h,Addr.add_add] at this
   rw[←this]
   congr 2
   omega
theorem relAll{W:World}{L:List Blk}(ho:∀b∈L,b.own=false)(h:∀b∈L,(∀g,b.base=some g→BlkAt (Bs.of W) W b g)∧(b.base=none→b.cs=[]∧b.n=0∧∀T:Tab,gtOK T=true→b.e=gE T→∀p∈T,TabCell W p)):LRel (Bs.of W) L W:=by
 refine⟨BelowB.of (Below.refl _ _),fun k b hk=>?_,fun i j g bi bj hij hi hj hio=>?_,fun b hb hn T hT he p hp=>?_⟩
 ·have:=h b (List.mem_of_getElem? hk)
  exact⟨this.1,fun hn=>⟨(this.2 hn).1,(this.2 hn).2.1⟩⟩
 ·rw[ho bi (List.mem_of_getElem? hi)] at hio;cases hio
 ·refine⟨((h b hb).2 hn).2.2 T hT he p hp,fun hbo=>?_,fun c hc hco=>?_⟩
  ·rw[ho b hb] at hbo;cases hbo
  ·rw[ho c hc] at hco;cases hco
section
variable{H:Type}{enc:TypeId×Value→H}{w:World}
abbrev wOK(t:TypeId)(d:DataW H):Prop:=(d.weights Tryz.prog t).all (· ≤reachBytes)=true
theorem ce3:Tryz.prog.cellsOf 3=1:=by kernel_rfl
theorem ce9:Tryz.prog.cellsOf 9=1:=by kernel_rfl
theorem w9{s:List UInt8}(h:wOK (H:=H) 9 (.lit (.string s))):s.length≤140737488351232:=by
 have:=h
 simp[wOK,DataW.weights,reachBytes] at this
 exact of_decide_eq_true this
theorem wAll{t:TypeId}:∀{l:List (DataW H)},(DataW.weightsAll Tryz.prog t l).all (· ≤reachBytes)=true→∀d∈l,wOK t d
 |[],_,d,hd=>by cases hd
 |a::l,h,d,hd=>by
  rw[DataW.weightsAll,List.all_append,Bool.and_eq_true] at h
  rcases List.mem_cons.1 hd with rfl|hd
  ·exact h.1
  ·exact wAll h.2 d hd
end
end Go.Proofs.YtfijbadahkmhbaaGreatDoor
namespace Go.Proofs.YtfijbadahkmhbaaGreatDoor
open Go Go.RowKit Go.Via
theorem c_Variables_1{x:XT}(z:XR x)(lv gv:Nat){l:List Bs8}(s:SRw l)(hl:l.length+1≤17179869184):ECall Tryz.prog 54 [VV gv s,VR s] [z.v,.int .i64 (lv:Nat),.pointer (some ⟨gv,0,none⟩)] (SRw (l++(if x.op=4 then[x.name] else[]))) (fun _=> .tuple #[]) (fun s1=>[VV gv s1,VR s1]):=by
 refine⟨by kernel_rfl,fun B w hD hL0=>?_⟩;refine cB3 13 Tryz.func54 hL0 ?_;refine A2 ?_;refine Bo [_,_,_,_,_,_,_] 7 (fun g=>[_,_,⟨some g,30,_,7,true⟩]) (fun g0=>?_);refine A6 ?_;refine r_know 6 (.int .i64 x.op) rfl (by rw[z.inv.1]) ?_;refine A3 ?_;refine Cd ?_ ?_<;>intro hb0
 ·have hop:x.op=4:=by simpa using hb0
  refine A4 ?_;refine r_know 10 (.string (strU x.name)) rfl (by rw[z.inv.2.1]) ?_;refine r_buildSlice [(0,_)] (fun g=>[_,_,_,⟨some g,9,_,1,true⟩]) rfl rfl rfl (bs36_1) rfl (fun _=>rfl) (fun g1=>?_);refine q_append (b:=VR s) (len:=l.length) (cap:=s.cap) (n2:=1) 1 3 (fun r=>[_,⟨some r.g,9,SB l++[.string (strU x.name)],r.n,true⟩,_,_]) u36 el9 rfl rfl rfl rfl rfl rfl rfl rfl rfl rfl rfl rfl (by rw[SB_length,Nat.mul_one]) s.h1 (by rw[Nat.mul_one];exact s.h2) rfl (fun v hv=>by rw[List.mem_singleton.1 hv];rfl) hl (fun r=>rfl) (fun r=>?_);refine So 0 0 [⟨some gv,36,_,1,true⟩,_,_,_] [_] ?_;refine A1 ?_
  refine at_end0n rfl (fun w hL=>by
 refine⟨(SRw.add x.name r).cast (by rw[if_pos hop]),rfl,?_⟩;(try dsimp only);rw[SRw.cast_blk];exact SRw.add_blk x.name r s gv hL)
 ·have hop:x.op≠4:=by simpa using hb0
  refine A1 ?_
  refine at_end0n rfl (fun w hL=>by
 refine⟨s.cast (by rw[if_neg hop,List.append_nil]),rfl,?_⟩;(try dsimp only);rw[SRw.cast_blk];exact hL.pk [some 0,some 1])
theorem c_each_stepV{x:XT}(z:XR x)(gv:Nat)(H:∀y:XT,y.size<x.size→EachV gv y)(lv:Nat){l:List Bs8}(s:SRw l)(hM:l.length+x.size≤1000000000)(hN:lv+x.size≤1099511627776):ECall Tryz.prog 51 [VV gv s,VR s,gB z.T false] [z.v,.int .i64 (lv:Nat),.func (.func 54) #[] #[.pointer (some ⟨gv,0,none⟩)]] (SRw (l++varsL x)) (fun _=> .tuple #[]) (fun s1=>[VV gv s1,VR s1]):=by
 refine⟨by kernel_rfl,fun B w hD hL0=>?_⟩;obtain⟨h1,h2,h3,h4,h5,h6⟩:=z.inv;have hsz:=x.size_eq;have hal:=XT.len_sizes x.args
 have hite:(if x.op=4 then[x.name] else[]).length≤1:=by split<;>simp
 refine cB3 25 Tryz.func51 hL0 ?_;refine A2 ?_;refine Bo [_,_,_,_,_,_,_] 7 (fun g=>[_,_,_,⟨some g,30,_,7,true⟩]) (fun g0=>?_);refine A3 ?_;refine at_regionM ?_;refine A1 ?_;refine Ld 3 0 [_,_,_,_,_,_,_] ti30 ?_;refine Kr 9 (z.v) ?_;refine A1 ?_;refine r_gfcallM (f:=54) (A:=[VV gv s,VR s]) (C:=[]) [z.v,.int .i64 (lv:Nat)] [.pointer (some ⟨gv,0,none⟩)] [0,1] [] (fun s1=>[VV gv s1,VR s1,_,_]) rfl rfl rfl rfl rfl (c_Variables_1 z lv gv s (by omega)) (by decide) rfl rfl trivial rfl rfl (fun _=>rfl) (fun _=>allOwn rfl) (fun _=>rfl) (fun s1=>?_);refine A11 ?_;refine El (ι:={q:Nat×(m:List Bs8)×SRw m // q.1≤x.args.length∧l++varsL x=q.2.1++varsLs (x.args.drop q.1)∧q.2.1.length+XT.sizes (x.args.drop q.1)≤1000000000}) (fun⟨⟨i,m,s2⟩,hi,hI,hB⟩=>([(1,.int .i64 (lv:Nat)),(2,.func (.func 54) #[] #[.pointer (some ⟨gv,0,none⟩)]),(13,.slice z.a z.n z.cap),(14,.int .i64 (z.n:Nat)),(15,.int .i64 (i:Nat))],[VV gv s2,VR s2,gB z.T false],x.args.length-i)) ⟨(0,⟨_,s1⟩),Nat.zero_le _,by rw[varsL_eq,List.append_assoc];rfl,by rw[List.length_append];show _+XT.sizes x.args≤_;omega⟩ ?_ (hL:=Weak.auto);rintro⟨⟨i,m,s2⟩,hi,hI,hB⟩;(try dsimp only);dsimp only at hi hI hB;refine A6 ?_;refine Cd ?_ ?_<;>intro hb1
 ·have hlt:i<x.args.length:=by have:=of_decide_eq_true hb1;omega
  obtain⟨y,hy⟩:∃y,x.args[i]? =some y:=⟨x.args[i],List.getElem?_eq_getElem hlt⟩;obtain⟨ga,oa,ca,u,hza,hma,hra,hTa,hna⟩:=z.arg hy;have hsd:=XT.sizes_drop hy;have hyg:=XT.sizes_get hy;refine A6 ?_;refine r_indexAddrG (gg:=ga) (len:=z.n) (cap:=z.cap) (oa+i*7) u28 ti30 rfl rfl (congrArg (fun a=>some (Value.slice a z.n z.cap)) hza) rfl (by omega) (by omega) (by show oa+Int.toNat _*7=_;omega) ?_;refine r_loadT (v:=u.v) 2 (oa+i*7) u.cs rfl rfl rfl z.hT hma hna rfl ti30 hra rfl rfl rfl ?_;refine r_alloc [_,_,_,_,_,_,_] 7 (fun g=>[_,_,_,⟨some g,30,_,7,true⟩]) rfl rfl z30 rfl rfl (fun _=>rfl) (fun g1=>?_);refine So 3 0 [_,_,_,⟨some g1,30,_,7,true⟩] [_,_,_,_,_,_,_] ?_;refine A2 ?_;refine at_regionM ?_;refine Ld 3 0 [_,_,_,_,_,_,_] ti30 ?_;refine Kr 19 (u.v) ?_;refine A1 ?_;refine Ar (((lv+1:Nat):Int)) ?_;refine A1 ?_;refine Gm 2 [0,1] [2] (fun s3=>[VV gv s3,VR s3,_,_]) (by have h:=H y (XT.arg_lt hy) u (lv+1) m s2 (by omega) (by omega);rw[hTa] at h;exact h) (fun s3=>?_);refine A4 ?_;refine Ar (((i+1:Nat):Int)) ?_;refine A3 ?_;exact Nl ⟨(i+1,⟨_,s3⟩),hlt,by rw[hI,varsLs_step hy,List.append_assoc],by have:=varsL_len y;rw[List.length_append];show _+XT.sizes (x.args.drop (i+1))≤_;omega⟩ (hL:=Weak.auto)
 ·have hge:i=x.args.length:=by have:=of_decide_eq_false hb1;omega
  refine A4 ?_
  refine at_end0n rfl (fun w hL=>by
 have e:m=l++varsL x:=(by rw[hI,hge,List.drop_length,varsLs,List.append_nil]);refine⟨s2.cast e,rfl,?_⟩;(try dsimp only);rw[SRw.cast_blk];exact hL.pk [some 0,some 1])
theorem c_eachV(gv:Nat)(x:XT):EachV gv x:=by
 suffices h:∀k:Nat,∀x:XT,x.size<k→EachV gv x from h _ x (Nat.lt_succ_self _)
 intro k
 induction k with
 |zero=>intro x h;omega
 |succ k ih=>exact fun x hx u lv l s hM hN=>c_each_stepV u gv (fun y hy=>ih y (by omega)) lv s hM hN
theorem c_Variables{x:XT}(z:XR x)(hM:x.size≤1000000):ECall Tryz.prog 25 [gB z.T false] [z.v] (SRw (varsU x)) (fun s=>slv s.b 0 (varsU x).length s.cap) (fun s=>[VR s]):=by
 refine⟨by kernel_rfl,fun B w hD hL0=>?_⟩;have hvl:=varsL_len x
 have hul:(varsU x).length≤(varsL x).length:=(by have:=compact_le (sortL (varsL x));rw[sortL_len] at this;exact this);refine cB1 11 Tryz.func25 hL0 ?_;refine A2 ?_;refine Bo [_,_,_,_,_,_,_] 7 (fun g=>[_,⟨some g,30,_,7,true⟩]) (fun g0=>?_);refine A5 ?_;refine r_alloc [_] 1 (fun g=>[_,_,⟨some g,36,_,1,true⟩]) rfl rfl z36 rfl rfl (fun _=>rfl) (fun g1=>?_);refine A3 ?_;refine at_weakL (L':=[_,_,VV g1 SRw.zero,VR SRw.zero]) (Weak.nilB _ (by decide)) ?_;refine at_regionM ?_;refine Ld 1 0 [_,_,_,_,_,_,_] ti30 ?_;refine Kr 4 (z.v) ?_;refine A1 ?_;refine r_gcallM (A:=[VV g1 SRw.zero,VR SRw.zero]) (C:=[gB z.T false]) [z.v,.int .i64 (1:Nat),.func (.func 54) #[] #[.pointer (some ⟨g1,0,none⟩)]] [2,3] [0] (fun s1=>[_,_,VV g1 s1,VR s1]) rfl rfl rfl rfl (c_eachV g1 x z 1 [] SRw.zero (by show 0+_≤_;omega) (by omega)) (by decide) rfl rfl ⟨⟨_,rfl,Blk.le_refl _⟩,trivial⟩ rfl rfl (fun _=>rfl) (fun _=>allOwn rfl) (fun _=>rfl) (fun s1=>?_);refine A3 ?_;refine at_regionM ?_;refine A1 ?_;refine Gm 1 [3] [] (fun _=>[_,_,_,SBk s1.b (sortL (varsL x)) s1.n]) (c_Sort s1.b (varsL x) s1.n s1.cap (by omega) (Nat.le_trans s1.h1 s1.h2)) (fun _=>?_);refine A3 ?_;refine at_regionM ?_;refine A1 ?_;refine Gm 1 [3] [] (fun _=>[_,_,_,SBk s1.b (varsU x) s1.n]) (by have h:=c_Compact s1.b (sortL (varsL x)) s1.n s1.cap (by rw[sortL_len];omega) s1.h2 (by rw[sortL_len];exact s1.h1);rw[sortL_len] at h;exact h) (fun _=>?_);refine A4 ?_;refine at_end1 rfl (res_tmp rfl) (fun w hL=>⟨⟨s1.b,s1.n,s1.cap,Nat.le_trans hul s1.h1,s1.h2⟩,rfl,hL.pk [some 3]⟩)
noncomputable def chkQ(kind:Int)(l:List Bs8)(x:XT):Nat:=
 if kind<1∨3<kind then 4
 else if((l.length:Nat):Int)≠kind-1 then 5
 else if l.all nameL=false then 34
 else if l.length=2∧l[0]? =l[1]? then 8
 else if chkE x≠0 then chkE x
 else if(varsU x).all l.contains=false then 16
 else 0
abbrev QBx(g:Nat)(kind:Int)(b:Option Nat)(pre:List Value)(l:List Bs8)(cap:Nat){x:XT}(z:XR x):Blk:=⟨some g,39,[.int .i64 kind,slv b pre.length l.length cap,.int .i64 z.op,.string z.nm,.bool z.b1,.string z.s1,.bool z.b2,.string z.s2,.slice z.a z.n z.cap],9,true⟩
abbrev QV(kind:Int)(b:Option Nat)(pre:List Value)(l:List Bs8)(cap:Nat){x:XT}(z:XR x):Value:= .agg #[.int .i64 kind,slv b pre.length l.length cap,.int .i64 z.op,.string z.nm,.bool z.b1,.string z.s1,.bool z.b2,.string z.s2,.slice z.a z.n z.cap]
theorem all_false_at{α:Type}{f:α→Bool}{l:List α}{i:Nat}{v:α}(h:l[i]? =some v)(hf:f v=false):l.all f=false:=by
 rw[←Bool.not_eq_true]
 intro h2
 have:=List.all_eq_true.1 h2 v (List.mem_of_getElem? h)
 rw[hf] at this;cases this
theorem all_step{α:Type}{f:α→Bool}{l:List α}{i:Nat}{v:α}(hl:(l.take i).all f=true)(h:l[i]? =some v)(hf:f v=true):(l.take (i+1)).all f=true:=by
 rw[List.take_add_one,h,List.all_append,hl]
 simp[hf]
theorem all_full{α:Type}{f:α→Bool}{l:List α}{i:Nat}(hl:(l.take i).all f=true)(h:l.length≤i):l.all f=true:=by
 rwa [List.take_of_length_le h] at hl
theorem SB_ne{l:List Bs8}(h:0<l.length):SB l≠[]:=fun e=>by
 have:=congrArg List.length e
 rw[SB_length] at this
 simp at this
 subst this
 simp at h
end Go.Proofs.YtfijbadahkmhbaaGreatDoor
namespace Go.Proofs.YtfijbadahkmhbaaGreatDoor
open Go Go.RowKit Go.Via Go.ChangeShapes Go.WideShapes
theorem rowAt_le{p:Program}{fits:TypeId→Bool}{d e count off n:Nat}(h:rowAt p fits d e count off n=true):off≤count*p.cellsOf e:=by
 cases d with
 |zero=>cases h
 |succ d=>
  unfold rowAt at h
  dsimp only at h
  split at h
  ·cases h
  ·rename_i hs
   have hd:=Nat.div_add_mod off (p.cellsOf e)
   have hlt:=Nat.mod_lt off (Nat.pos_of_ne_zero hs)
   rw[Bool.or_eq_true] at h
   rcases h with h|h
   ·simp only[Bool.and_eq_true,beq_iff_eq,decide_eq_true_eq] at h
    have:p.cellsOf e*(off/p.cellsOf e)≤p.cellsOf e*count:=Nat.mul_le_mul_left _ (by omega)
    rw[Nat.mul_comm count]
    omega
   ·rw[Bool.and_eq_true,decide_eq_true_eq] at h
    have:p.cellsOf e*(off/p.cellsOf e+1)≤p.cellsOf e*count:=Nat.mul_le_mul_left _ (by omega)
    rw[Nat.mul_add,Nat.mul_one] at this
    rw[Nat.mul_comm count]
    omega
theorem liesAt_le{p:Program}:∀{d e count off u n:Nat},liesAt p d e count off u n=true→off≤count*p.cellsOf e
 |0,_,_,_,_,_,h=>by cases h
 |d+1,e,count,off,u,n,h=>by
  unfold liesAt at h
  rw[Bool.or_eq_true] at h
  rcases h with h|h
  ·exact rowAt_le h
  ·split at h
   ·exact liesAt_le h
   ·cases h
section
variable{H:Type}{enc:TypeId×Value→H}{w:World}
end
abbrev BlkIn(W:World)(b:Blk):Prop:=(∀g,b.base=some g→BlkAt (Bs.of W) W b g)∧(b.base=none→b.cs=[]∧b.n=0∧∀T:Tab,gtOK T=true→b.e=gE T→∀p∈T,TabCell W p)
theorem blk_gm{W:World}{m:Int}(hm:BlkAt (Bs.of W) W (GM m) 0):BlkIn W (GM m):=⟨fun g hg=>by cases hg;exact hm,fun hn=>by cases hn⟩
theorem allIn{W:World}:∀{L:List Blk},List.foldr (fun b p=>(b.own=false∧BlkIn W b)∧p) True L→LRel (Bs.of W) L W:=fun {L} h=>by
 have key:∀L:List Blk,List.foldr (fun b p=>(b.own=false∧BlkIn W b)∧p) True L→∀b∈L,b.own=false∧BlkIn W b:=by
  intro L
  induction L with
  |nil=>intro _ b hb;cases hb
  |cons a L ih=>
   intro h b hb
   rcases List.mem_cons.1 hb with rfl|hb
   ·exact h.1
   ·exact ih h.2 b hb
 exact relAll (fun b hb=>(key L h b hb).1) (fun b hb=>(key L h b hb).2)
end Go.Proofs.YtfijbadahkmhbaaGreatDoor
namespace Go.Via
open Go Go.RowKit
abbrev Tk:=Nat×Bs8
def Str:Ps→List Tk→Prop
 |_,[]=>True
 |p,t::ts=>(p.k,p.tx)=t∧Str p.adv ts
def Lex(l:Bs8)(ts:List Tk):Prop:=∀p:Ps,p.s.drop p.pos=l→Str p.adv ts
theorem adv_of{p:Ps}{c:UInt8}{l:Bs8}(h:p.s.drop p.pos=c::l)(hc:spL.contains c=false):p.skip=p.pos∧p.s[p.pos]? =some c:=by
 refine⟨?_,?_⟩
 ·unfold Ps.skip
  rw[h,List.takeWhile_cons_of_neg (by rw[hc];simp)]
  rfl
 ·have:=congrArg (fun l:Bs8=>l[0]?) h
  simpa using this
theorem Lex.step{p q:Ps}{t:Tk}{ts:List Tk}{l:Bs8}(h:Lex l ts)(e:p.adv=q)(ht:(q.k,q.tx)=t)(hq:q.s.drop q.pos=l):Str p.adv (t::ts):=by
 rw[e];exact⟨ht,h q hq⟩
theorem Lex.none(ts:List Tk)(h:ts=[])(l:Bs8):Lex l ts:=fun p _=>by subst h;trivial
theorem Lex.nil:Lex [] [(0,[])]:=fun p hp=>by
 have h1:p.skip=p.pos:=by unfold Ps.skip;rw[hp];rfl
 refine⟨?_,trivial⟩
 unfold Ps.adv
 rw[h1,hp]
theorem Lex.sp{c:UInt8}{l:Bs8}{ts:List Tk}(hc:spL.contains c=true)(h:Lex l ts):Lex (c::l) ts:=fun p hp=>by
 have h1:({p with pos:=p.pos+1}:Ps).s.drop ({p with pos:=p.pos+1}:Ps).pos=l:=by
  show p.s.drop (p.pos+1)=l
  rw[←List.drop_drop,hp];rfl
 have h2:({p with pos:=p.pos+1}:Ps).skip=p.skip:=by
  unfold Ps.skip
  rw[h1,hp,List.takeWhile_cons_of_pos hc,List.length_cons]
  show p.pos+1+_=_
  omega
 have e:p.adv=({p with pos:=p.pos+1}:Ps).adv:=by
  unfold Ps.adv
  rw[h2]
  rfl
 rw[e]
 exact h _ h1
theorem Lex.sps{g l:Bs8}{ts:List Tk}(hg:∀c∈g,spL.contains c=true)(h:Lex l ts):Lex (g++l) ts:=by
 induction g with
 |nil=>exact h
 |cons c g ih=>exact Lex.sp (hg c (List.mem_cons_self ..)) (ih fun d hd=>hg d (List.mem_cons_of_mem _ hd))
theorem tw_stop{f:UInt8→Bool}:∀{w l:Bs8},(∀c∈w,f c=true)→(∀c,l.head? =some c→f c=false)→(w++l).takeWhile f=w
 |[],[],_,_=>rfl
 |[],c::l,_,h=>by rw[List.nil_append,List.takeWhile_cons_of_neg (by rw[h c rfl];simp)]
 |c::w,l,hw,h=>by
  rw[List.cons_append,List.takeWhile_cons_of_pos (hw c (List.mem_cons_self ..)),tw_stop (fun d hd=>hw d (List.mem_cons_of_mem _ hd)) h]
def brk(l:Bs8):Prop:=∀c,l.head? =some c→wch c=false∧c≠47
theorem wch_parts{c:UInt8}(h:wch c=false):isLet c=false∧isDig c=false:=by
 unfold wch at h
 simp only[Bool.or_eq_false_iff] at h
 exact h.1
theorem dig_facts{c:UInt8}(h:isDig c=true):isLet c=false∧spL.contains c=false:=by
 unfold isDig at h
 simp only[Bool.and_eq_true,decide_eq_true_eq] at h
 refine⟨?_,?_⟩
 ·unfold isLet
  simp only[Bool.or_eq_false_iff,Bool.and_eq_false_iff,decide_eq_false_iff_not]
  omega
 ·rw[←Bool.not_eq_true]
  intro hc
  have h3:∀d∈spL,isDig d=false:=by decide
  have:=h3 c (List.contains_iff_mem.1 hc)
  unfold isDig at this
  simp at this
  omega
def numW(w:Bs8):Prop:=∃d,d≠[]∧(∀c∈d,isDig c=true)∧(w=d∨∃e,e≠[]∧(∀c∈e,isDig c=true)∧w=d++47::e)
theorem dgs_stop{d l:Bs8}(hd:∀c∈d,isDig c=true)(hl:∀c,l.head? =some c→isDig c=false):dgs (d++l)=d.length:=by
 unfold dgs;rw[tw_stop hd hl]
theorem numLen_w{w l:Bs8}(hw:numW w)(hb:brk l):numLen (w++l)=w.length:=by
 obtain⟨d,h0,hd,hw|⟨e,he0,he,hw⟩⟩:=hw
 ·subst hw
  have h1:dgs (w++l)=w.length:=dgs_stop hd fun c hc=>(wch_parts (hb c hc).1).2
  unfold numLen
  rw[h1,List.drop_left]
  split
  ·rename_i c r
   exact absurd rfl (hb 47 rfl).2
  ·rfl
 ·subst hw
  have h1:dgs (d++(47::e++l))=d.length:=dgs_stop hd fun c hc=>by
   simp at hc;subst hc;decide
  have h2:dgs (e++l)=e.length:=dgs_stop he fun c hc=>(wch_parts (hb c hc).1).2
  unfold numLen
  rw[List.append_assoc,h1,List.drop_left]
  cases e with
  |nil=>exact absurd rfl he0
  |cons x e=>
   show(if isDig x=true then d.length+1+dgs (x::e++l) else d.length)=_
   rw[if_pos (he x (List.mem_cons_self ..)),h2]
   simp only[List.length_append,List.length_cons]
   omega
theorem numW_head{w:Bs8}(hw:numW w):∃c r,w=c::r∧isDig c=true:=by
 obtain⟨d,h0,hd,hw⟩:=hw
 cases d with
 |nil=>exact absurd rfl h0
 |cons c d=>
  rcases hw with hw|⟨e,_,_,hw⟩
  ·exact⟨c,_,hw,hd c (List.mem_cons_self ..)⟩
  ·exact⟨c,_,hw,hd c (List.mem_cons_self ..)⟩
theorem Lex.num{w l:Bs8}{ts:List Tk}(hw:numW w)(hb:brk l)(h:Lex l ts):Lex (w++l) ((2,w)::ts):=fun p hp=>by
 obtain⟨c,r,he,hc⟩:=numW_head hw
 have hp2:=hp
 rw[he,List.cons_append] at hp2
 obtain⟨h1,h2⟩:=adv_of hp2 (dig_facts hc).2
 have h4:p.pos+numLen (p.s.drop p.pos)=p.pos+w.length:=by rw[hp,numLen_w hw hb]
 refine h.step (adv_num h1 h2 (dig_facts hc).1 hc h4) ?_ ?_
 ·show(2,(p.s.drop p.pos).take (p.pos+w.length-p.pos))=_
  rw[hp,Nat.add_sub_cancel_left]
  simp
 ·show p.s.drop (p.pos+w.length)=l
  rw[←List.drop_drop,hp]
  simp
inductive Piece where
 |sp
 |w (b:Bs8)
 |n (b:Bs8)
 |y (c:UInt8)
 |q (b:Bs8)
def Piece.txt(g:Bs8):Piece→Bs8
 | .sp=>g
 | .w b=>b
 | .n b=>b
 | .y c=>[c]
 | .q b=>34::(quoS b++[34])
def Piece.tok:Piece→List Tk
 | .sp=>[]
 | .w b=>[(1,b)]
 | .n b=>[(2,b)]
 | .y c=>[(4,[c])]
 | .q b=>[(3,b)]
def Piece.ok:Piece→Prop
 | .sp=>True
 | .w b=>wordL b=true
 | .n b=>numW b
 | .y c=>symL.contains c=true
 | .q b=>zoneL b=true
def Piece.cl:Piece→Nat
 | .w _=>1
 | .n _=>1
 | .q _=>2
 |_=>0
def toks(l:List Piece):List Tk:=l.flatMap Piece.tok
def sepP:List Piece→Prop
 |[]=>True
 |[a]=>a.ok
 |a::b::l=>a.ok∧¬(a.cl=b.cl∧a.cl≠0)∧sepP (b::l)
theorem sepP.head{a:Piece}:∀{l:List Piece},sepP (a::l)→a.ok
 |[],h=>h
 |b::l,h=>h.1
theorem fuel:∀f:Nat,(∀n p v,lev f n p=some v→lev (f+1) n p=some v)∧(∀n x p v,levs f n x p=some v→levs (f+1) n x p=some v)∧
 (∀p v,prim f p=some v→prim (f+1) p=some v)∧(∀op e n i l p v,argL f op e n i l p=some v→argL (f+1) op e n i l p=some v)
 |0=>⟨fun n p v h=>(by rw[lev] at h;cases h),fun n x p v h=>(by rw[levs] at h;cases h),fun p v h=>(by rw[prim] at h;cases h),fun op e n i l p v h=>(by rw[argL] at h;cases h)⟩
 |f+1=>by
  obtain⟨h1,h2,h3,h4⟩:=fuel f
  refine⟨fun n p v h=>?_,fun n x p v h=>?_,fun p v h=>?_,fun op e n i l p v h=>?_⟩
  ·rw[lev] at h ⊢
   split at h
   ·rename_i c;rw[if_pos c]
    split at h
    ·rename_i c;rw[if_pos c]
     obtain⟨r,e,g⟩:=Option.map_eq_some_iff.1 h
     rw[h1 _ _ _ e,←g];rfl
    ·rename_i c;rw[if_neg c];exact h1 _ _ _ h
   ·rename_i c;rw[if_neg c]
    split at h
    ·rename_i c;rw[if_pos c];exact h3 _ _ h
    ·rename_i c;rw[if_neg c]
     obtain⟨r,e,g⟩:=Option.bind_eq_some_iff.1 h
     rw[h1 _ _ _ e]
     exact h2 _ _ _ _ g
  ·rw[levs] at h ⊢
   split at h
   ·rename_i c;rw[if_pos c];exact h
   ·rename_i c;rw[if_neg c]
    split at h
    ·exact h
    ·rename_i op c
     obtain⟨r,e,g⟩:=Option.bind_eq_some_iff.1 h
     show(lev (f+1) (n+1) p.adv).bind _=_
     rw[h1 _ _ _ e]
     show(if n=4 then _ else _)=_
     split at g
     ·rename_i c;rw[if_pos c];exact g
     ·rename_i c;rw[if_neg c];exact h2 _ _ _ _ g
  ·rw[prim] at h ⊢
   split at h
   ·rename_i c;rw[if_pos c];exact h
   ·rename_i c;rw[if_neg c]
    split at h
    ·rename_i c;rw[if_pos c];exact h
    ·rename_i c;rw[if_neg c]
     split at h
     ·rename_i c;rw[if_pos c]
      obtain⟨r,e,g⟩:=Option.map_eq_some_iff.1 h
      rw[h1 _ _ _ e,←g];rfl
     ·rename_i c;rw[if_neg c]
      split at h
      ·rename_i c;rw[if_pos c];exact h4 _ _ _ _ _ _ _ h
      ·rename_i c;rw[if_neg c]
       split at h
       ·rename_i c;rw[if_pos c];exact h
       ·rename_i c;rw[if_neg c]
        split at h
        ·rename_i c;rw[if_pos c];exact h
        ·rename_i c;rw[if_neg c]
         split at h
         ·rename_i c;rw[if_pos c];exact h
         ·rename_i c;rw[if_neg c]
          split at h
          ·exact h4 _ _ _ _ _ _ _ h
          ·exact h
  ·rw[argL] at h ⊢
   split at h
   ·rename_i c;rw[if_pos c]
    dsimp only at h ⊢
    generalize(if 0<i then p.want tComma else p)=p1 at h ⊢
    split at h
    ·rename_i c;rw[if_pos c];exact h
    ·rename_i c;rw[if_neg c]
     obtain⟨r,e,g⟩:=Option.bind_eq_some_iff.1 h
     rw[h1 _ _ _ e]
     exact h4 _ _ _ _ _ _ _ g
   ·rename_i c;rw[if_neg c];exact h
def LV(n:Nat)(p:Ps)(x:XT)(r:Ps):Prop:=∃f,∀g,f≤g→lev g n p=some (x,r)
def SV(n:Nat)(a:XT)(p:Ps)(x:XT)(r:Ps):Prop:=∃f,∀g,f≤g→levs g n a p=some (x,r)
def PV(p:Ps)(x:XT)(r:Ps):Prop:=∃f,∀g,f≤g→prim g p=some (x,r)
def AV(op:Nat)(e:Bs8)(n i:Nat)(l:List XT)(p:Ps)(x:XT)(r:Ps):Prop:=∃f,∀g,f≤g→argL g op e n i l p=some (x,r)
theorem up_of{α:Type}{F:Nat→Option α}(h:∀f v,F f=some v→F (f+1)=some v){f:Nat}{v:α}(hf:F f=some v):∃f,∀g,f≤g→F g=some v:=
 ⟨f,fun g hg=>by
   induction hg with
   |refl=>exact hf
   |step _ ih=>exact h _ _ ih⟩
theorem LV.of{f n:Nat}{p:Ps}{v:XT×Ps}(h:lev f n p=some v):LV n p v.1 v.2:=up_of (F:=fun f=>lev f n p) (fun f v=>(fuel f).1 n p v) h
theorem SV.of{f n:Nat}{a:XT}{p:Ps}{v:XT×Ps}(h:levs f n a p=some v):SV n a p v.1 v.2:=up_of (F:=fun f=>levs f n a p) (fun f v=>(fuel f).2.1 n a p v) h
theorem PV.of{f:Nat}{p:Ps}{v:XT×Ps}(h:prim f p=some v):PV p v.1 v.2:=up_of (F:=fun f=>prim f p) (fun f v=>(fuel f).2.2.1 p v) h
theorem AV.of{f op:Nat}{e:Bs8}{n i:Nat}{l:List XT}{p:Ps}{v:XT×Ps}(h:argL f op e n i l p=some v):AV op e n i l p v.1 v.2:=up_of (F:=fun f=>argL f op e n i l p) (fun f v=>(fuel f).2.2.2 op e n i l p v) h
section
variable{n:Nat}{p q r:Ps}{a x y z:XT}{op:Nat}{e:Bs8}{i:Nat}{l:List XT}
theorem LV.lev(h:LV n p x r):∃f,lev f n p=some (x,r):=h.imp fun f hf=>hf f (Nat.le_refl _)
theorem LV.not(hp:p.is tNot=true)(h:LV 3 p.adv x r):LV 3 p (.node 25 [x]) r:=by
 obtain⟨f,hf⟩:=h
 refine LV.of (f:=f+1) (v:=(_,r)) ?_
 rw[Go.Via.lev,if_pos rfl,if_pos hp,hf f (Nat.le_refl _)];rfl
theorem LV.l3(hp:p.is tNot=false)(h:LV 4 p x r):LV 3 p x r:=by
 obtain⟨f,hf⟩:=h
 refine LV.of (f:=f+1) (v:=(_,r)) ?_
 rw[Go.Via.lev,if_pos rfl,if_neg (by rw[hp];simp),hf f (Nat.le_refl _)]
theorem LV.l8(h:PV p x r):LV 8 p x r:=by
 obtain⟨f,hf⟩:=h
 refine LV.of (f:=f+1) (v:=(_,r)) ?_
 rw[Go.Via.lev,if_neg (by decide),if_pos rfl,hf f (Nat.le_refl _)]
theorem LV.ln(h3:n≠3)(h8:n≠8)(h:LV (n+1) p a q)(hs:SV n a q x r):LV n p x r:=by
 obtain⟨f,hf⟩:=h
 obtain⟨g,hg⟩:=hs
 refine LV.of (f:=f+g+1) (v:=(_,r)) ?_
 rw[Go.Via.lev,if_neg h3,if_neg h8,hf (f+g) (by omega)]
 exact hg (f+g) (by omega)
theorem SV.stop(hp:p.fail=false)(ho:opAt n p=none):SV n x p x p:=by
 refine SV.of (f:=1) (v:=(_,p)) ?_
 rw[levs,if_neg (by rw[hp];simp),ho]
theorem SV.go(h4:n≠4)(hp:p.fail=false)(ho:opAt n p=some op)(h:LV (n+1) p.adv y q)(hs:SV n (.node op [x,y]) q z r):SV n x p z r:=by
 obtain⟨f,hf⟩:=h
 obtain⟨g,hg⟩:=hs
 refine SV.of (f:=f+g+1) (v:=(_,r)) ?_
 rw[levs,if_neg (by rw[hp];simp),ho]
 show(Go.Via.lev (f+g) (n+1) p.adv).bind _=_
 rw[hf (f+g) (by omega)]
 show(if n=4 then _ else _)=_
 rw[if_neg h4]
 exact hg (f+g) (by omega)
theorem SV.once(hp:p.fail=false)(ho:opAt 4 p=some op)(h:LV 5 p.adv y q):SV 4 x p (.node op [x,y]) q:=by
 obtain⟨f,hf⟩:=h
 refine SV.of (f:=f+1) (v:=(_,q)) ?_
 rw[levs,if_neg (by rw[hp];simp),ho]
 show(Go.Via.lev f 5 p.adv).bind _=_
 rw[hf f (Nat.le_refl _)]
 rfl
theorem AV.more(hi:i<n){p1:Ps}(h1:(if 0<i then p.want tComma else p)=p1)(hp:p1.fail=false)(h:LV 1 p1 y q)(ha:AV op e n (i+1) (l++[y]) q z r):AV op e n i l p z r:=by
 obtain⟨f,hf⟩:=h
 obtain⟨g,hg⟩:=ha
 refine AV.of (f:=f+g+1) (v:=(_,r)) ?_
 rw[argL,if_pos hi]
 dsimp only
 rw[h1,if_neg (by rw[hp];simp),hf (f+g) (by omega)]
 exact hg (f+g) (by omega)
theorem AV.done(hi:¬i<n):AV op e n i l p (.node op l) (p.want e):=by
 refine AV.of (f:=1) (v:=(_,_)) ?_
 rw[argL,if_neg hi];rfl
end
def tIs(t:Tk)(x:Bs8):Bool:=(t.1==1||t.1==4)&&t.2==x
theorem is_tk{p:Ps}{t:Tk}(hp:p.fail=false)(ht:(p.k,p.tx)=t)(x:Bs8):p.is x=tIs t x:=by
 subst ht
 unfold Ps.is tIs
 rw[hp];rfl
section
variable{p q r:Ps}{t:Tk}{x:XT}(hp:p.fail=false)(ht:(p.k,p.tx)=t)
theorem prim_eq(f:Nat)(hp:p.fail=false)(ht:(p.k,p.tx)=t):prim (f+1) p=(if t.1==2||tIs t tMinus then some p.signed else if tIs t tOpen then(lev f 1 p.adv).map fun r=>(r.1,r.2.want tShut)
 else if tIs t tOpenB then argL f 6 tShutB 2 0 [] p.adv else if tIs t tPoint then some p.adv.pointX else if tIs t tObject then some p.adv.objectX else if tIs t tZone then some p.adv.zone
 else match(funT.find? fun o=>tIs t o.1).map (·.2) with
  |some (op,n)=>argL f op tShut n 0 [] (p.adv.want tOpen)
  |none=>some (.named 4 p.tx,p.name)):=by
 rw[prim,if_neg (by rw[hp];simp)]
 have hk:p.k=t.1:=by rw[←ht]
 have hF:funAt p=(funT.find? fun o=>tIs t o.1).map (·.2):=by
  unfold funAt
  simp only[is_tk hp ht]
 simp only[is_tk hp ht,hk,hF]
 rfl
theorem PV.num(hp:p.fail=false)(ht:(p.k,p.tx)=t)(h:(t.1==2||tIs t tMinus)=true):PV p p.signed.1 p.signed.2:=PV.of (f:=1) (by rw[prim_eq 0 hp ht,if_pos h])
theorem is_val{p:Ps}{x:Bs8}(h:p.is x=true):p.fail=false∧p.k≠2∧∀y,p.is y=(x==y):=by
 unfold Ps.is at h
 simp only[Bool.and_eq_true,Bool.not_eq_true',Bool.or_eq_true,beq_iff_eq] at h
 obtain⟨⟨h1,h2⟩,h3⟩:=h
 refine⟨h1,by omega,fun y=>?_⟩
 unfold Ps.is
 rw[h1,h3]
 rcases h2 with h|h<;>rw[h]<;>rfl
theorem prim_is{x:Bs8}(f:Nat)(h:p.is x=true):prim (f+1) p=(if x==tMinus then some p.signed else if x==tOpen then(lev f 1 p.adv).map fun r=>(r.1,r.2.want tShut)
 else if x==tOpenB then argL f 6 tShutB 2 0 [] p.adv else if x==tPoint then some p.adv.pointX else if x==tObject then some p.adv.objectX else if x==tZone then some p.adv.zone
 else match(funT.find? fun o=>x==o.1).map (·.2) with
  |some (op,n)=>argL f op tShut n 0 [] (p.adv.want tOpen)
  |none=>some (.named 4 p.tx,p.name)):=by
 obtain⟨h1,h2,h3⟩:=is_val h
 have hF:funAt p=(funT.find? fun o=>x==o.1).map (·.2):=by
  unfold funAt
  simp only[h3]
 have hk:(p.k==2)=false:=beq_false_of_ne h2
 rw[prim,if_neg (by rw[h1];simp)]
 simp only[h3,hF,hk,Bool.false_or]
 rfl
theorem PV.paren(h:p.is tOpen=true)(d:LV 1 p.adv x q):PV p x (q.want tShut):=by
 obtain⟨f,hf⟩:=d
 refine PV.of (f:=f+1) (v:=(_,_)) ?_
 rw[prim_is f h,if_neg (by decide),if_pos (by decide),hf f (Nat.le_refl _)];rfl
theorem PV.inter(h:p.is tOpenB=true)(d:AV 6 tShutB 2 0 [] p.adv x q):PV p x q:=by
 obtain⟨f,hf⟩:=d
 refine PV.of (f:=f+1) (v:=(_,_)) ?_
 rw[prim_is f h,if_neg (by decide),if_neg (by decide),if_pos (by decide),hf f (Nat.le_refl _)]
theorem PV.point(h:p.is tPoint=true):PV p p.adv.pointX.1 p.adv.pointX.2:=
 PV.of (f:=1) (by rw[prim_is 0 h,if_neg (by decide),if_neg (by decide),if_neg (by decide),if_pos (by decide)])
theorem PV.object(h:p.is tObject=true):PV p p.adv.objectX.1 p.adv.objectX.2:=
 PV.of (f:=1) (by rw[prim_is 0 h,if_neg (by decide),if_neg (by decide),if_neg (by decide),if_neg (by decide),if_pos (by decide)])
theorem PV.zone(h:p.is tZone=true):PV p p.adv.zone.1 p.adv.zone.2:=
 PV.of (f:=1) (by rw[prim_is 0 h,if_neg (by decide),if_neg (by decide),if_neg (by decide),if_neg (by decide),if_neg (by decide),if_pos (by decide)])
theorem PV.call{g:Bs8×Nat×Nat}(hg:g∈funT)(h:p.is g.1=true)(d:AV g.2.1 tShut g.2.2 0 [] (p.adv.want tOpen) x q):PV p x q:=by
 obtain⟨f,hf⟩:=d
 refine PV.of (f:=f+1) (v:=(_,_)) ?_
 have hall:∀g∈funT,(g.1==tMinus)=false∧(g.1==tOpen)=false∧(g.1==tOpenB)=false∧(g.1==tPoint)=false∧(g.1==tObject)=false∧(g.1==tZone)=false∧(funT.find? fun o=>g.1==o.1)=some g:=by decide
 obtain⟨e1,e2,e3,e4,e5,e6,e7⟩:=hall g hg
 rw[prim_is f h,if_neg (by rw[e1];decide),if_neg (by rw[e2];decide),if_neg (by rw[e3];decide),if_neg (by rw[e4];decide),if_neg (by rw[e5];decide),if_neg (by rw[e6];decide),e7]
 exact hf f (Nat.le_refl _)
theorem name_no{n x:Bs8}(hn:nameL n=true)(hx:resL.contains x=true∨wordL x=false):tIs (1,n) x=false:=by
 unfold nameL at hn
 simp only[Bool.and_eq_true,Bool.not_eq_true'] at hn
 unfold tIs
 rw[Bool.and_eq_false_iff]
 right
 refine beq_false_of_ne fun e=>?_
 replace e:n=x:=e
 subst e
 rcases hx with h|h
 ·rw[h] at hn;cases hn.2
 ·rw[h] at hn;cases hn.1.2
theorem PV.name{n:Bs8}(hn:nameL n=true)(hp:p.fail=false)(ht:(p.k,p.tx)=(1,n)):PV p (.named 4 n) p.adv:=by
 refine PV.of (f:=1) (v:=(_,_)) ?_
 have e7:(funT.find? fun o=>tIs (1,n) o.1)=none:=List.find?_eq_none.2 fun o ho=>by
  have hall:∀o∈funT,resL.contains o.1=true:=by decide
  rw[name_no hn (.inl (hall o ho))];simp
 have hx:p.tx=n:=congrArg Prod.snd ht
 have hk:p.k=1:=congrArg Prod.fst ht
 have hN:p.name=p.adv:=by
  unfold nameL at hn
  simp only[Bool.and_eq_true,Bool.not_eq_true',decide_eq_true_eq] at hn
  unfold Ps.name
  rw[hp,hk,hx,hn.2,if_neg (by decide),if_neg (by have:=hn.1.1;omega)]
 rw[prim_eq 0 hp ht,if_neg (by rw[name_no hn (.inr (by decide))];simp),if_neg (by rw[name_no hn (.inr (by decide))];decide),if_neg (by rw[name_no hn (.inr (by decide))];decide),
 if_neg (by rw[name_no hn (.inl (by decide))];decide),if_neg (by rw[name_no hn (.inl (by decide))];decide),if_neg (by rw[name_no hn (.inl (by decide))];decide),e7]
 show some (XT.named 4 p.tx,p.name)=_
 rw[hx,hN];rfl
end
def numS(q:Rat):Bs8:=decS q.num.natAbs++(if q.den=1 then[] else 47::decS q.den)
def pcR(q:Rat):List Piece:=(if q.num<0 then[.y 45] else[])++[.n (numS q)]
def opP(b:Bs8):Piece:=match b with|[c]=> .y c|b=> .w b
def joinP:List (List Piece)→List Piece
 |[]=>[]
 |[t]=>t
 |t::u::r=>t++[.y 44,.sp]++joinP (u::r)
mutual
noncomputable def pcs:XT→Nat→List Piece
 | .mk o nm u l,lv=>
   match opsT.find? (fun f=>decide ((f.2.1:Int)=o)) with
   |some f=>
    if f.2.2<lv then[.y 40]++(if f.2.2=3 then[.w tNot,.sp]++pcsAt l 0 3 else pcsAt l 0 (if f.2.2=4 then 5 else f.2.2)++[.sp,opP f.1,.sp]++pcsAt l 1 (f.2.2+1))++[.y 41]
    else if f.2.2=3 then[.w tNot,.sp]++pcsAt l 0 3 else pcsAt l 0 (if f.2.2=4 then 5 else f.2.2)++[.sp,opP f.1,.sp]++pcsAt l 1 (f.2.2+1)
   |none=>
    if o=1 then pcR u.rat else if o=4 then[.w nm] else if o=3 then[.w tObject,.y 40]++pcR u.rat++[.y 41] else if o=5 then[.w tZone,.y 40,.q nm,.y 41]
    else if o=6 then[.y 91]++joinP (pcsLs l)++[.y 93] else if o=2 then[.w tPoint,.y 40]++joinP (pcsLs l)++[.y 41]
    else match funT.find? (fun f=>decide ((f.2.1:Int)=o)) with
     |some f=>[.w f.1,.y 40]++joinP (pcsLs l)++[.y 41]
     |none=>[]
noncomputable def pcsAt:List XT→Nat→Nat→List Piece
 |[],_,_=>[]
 |x::_,0,lv=>pcs x lv
 |_::l,i+1,lv=>pcsAt l i lv
noncomputable def pcsLs:List XT→List (List Piece)
 |[]=>[]
 |x::l=>pcs x 1::pcsLs l
end
mutual
def qX:XT→Prop
 | .mk o nm u l=>(∃r,u= .q r)∧qXs l
def qXs:List XT→Prop
 |[]=>True
 |x::l=>qX x∧qXs l
end
def hd0(m:List Piece):Prop:=∀b,m.head? =some b→b.cl=0
theorem sepP.cons{a:Piece}{m:List Piece}(ha:a.ok)(hd:hd0 m)(h:sepP m):sepP (a::m):=by
 cases m with
 |nil=>exact ha
 |cons b l=>exact⟨ha,fun e=>e.2 (e.1.trans (hd b rfl)),h⟩
end Go.Via
set_option maxHeartbeats 800000
namespace Go.Via
open Go Go.RowKit
def okR(n:Nat)(t:Tk):Prop:=∀o∈opsT,n≤o.2.2→tIs t o.1=false
def DR(x:XT)(n:Nat):Prop:=∀(p:Ps) (t:Tk) (rest:List Tk),p.fail=false→Str p (toks (pcs x n)++t::rest)→okR n t→∃r,LV n p x r∧r.fail=false∧Str r (t::rest)
def DL(x:XT)(n:Nat):Prop:=∀(p:Ps) (t:Tk) (rest:List Tk),p.fail=false→Str p (toks (pcs x n)++t::rest)→okR (n+1) t→∃q,q.fail=false∧Str q (t::rest)∧∀z r,SV n x q z r→LV n p z r
def DP(x:XT):Prop:=∀(p:Ps) (t:Tk) (rest:List Tk),p.fail=false→Str p (toks (pcs x 8)++t::rest)→∃r,PV p x r∧r.fail=false∧Str r (t::rest)
theorem okR.mono{n m:Nat}{t:Tk}(h:okR n t)(hm:n≤m):okR m t:=fun o ho hl=>h o ho (by omega)
theorem adv_fail(p:Ps):p.adv.fail=p.fail:=by
 unfold Ps.adv
 split
 ·rfl
 ·split
  ·rfl
  ·split
   ·rfl
   ·split
    ·unfold Ps.quoted
     split
     ·split<;>rfl
     ·rfl
    ·split<;>rfl
theorem opAt_none{n:Nat}{p:Ps}{t:Tk}(hp:p.fail=false)(ht:(p.k,p.tx)=t)(h:okR n t):opAt n p=none:=by
 unfold opAt
 rw[List.find?_eq_none.2 fun o ho=>?_]
 ·rfl
 ·rw[is_tk hp ht]
  by_cases hl:o.2.2=n
  ·rw[h o ho (by omega)];simp
  ·rw[beq_false_of_ne hl];simp
theorem DL.d{x:XT}{n:Nat}(h:DL x n):DR x n:=fun p t rest hp hs ho=>by
 obtain⟨q,h1,h2,h3⟩:=h p t rest hp hs (ho.mono (Nat.le_succ n))
 exact⟨q,h3 x q (SV.stop h1 (opAt_none h1 h2.1 ho)),h1,h2⟩
theorem DP.d{x:XT}(h:DP x):DR x 8:=fun p t rest hp hs ho=>by
 obtain⟨r,h1,h2,h4⟩:=h p t rest hp hs
 exact⟨r,LV.l8 h1,h2,h4⟩
theorem want_tk{p:Ps}{t:Tk}{x:Bs8}{ts:List Tk}(hp:p.fail=false)(hs:Str p (t::ts))(h:tIs t x=true):p.want x=p.adv∧p.adv.fail=false∧Str p.adv ts:=by
 refine⟨?_,by rw[adv_fail,hp],hs.2⟩
 unfold Ps.want
 rw[is_tk hp hs.1,if_pos h]
noncomputable def aTk:Nat→List XT→List Tk
 |_,[]=>[]
 |i,y::ys=>(if 0<i then[(4,tComma)] else[])++toks (pcs y 1)++aTk (i+1) ys
theorem AV.all{op n:Nat}{e:Bs8}(he:e=tShut∨e=tShutB):∀(ys:List XT) (i:Nat) (l:List XT) (p:Ps) (rest:List Tk),(∀y∈ys,DR y 1)→p.fail=false→i+ys.length=n→
 Str p (aTk i ys++(4,e)::rest)→∃r,AV op e n i l p (.node op (l++ys)) r∧r.fail=false∧Str r rest
 |[],i,l,p,rest,hy,hp,hn,hs=>by
  obtain⟨h1,h2,h3⟩:=want_tk (x:=e) hp hs (by rcases he with rfl|rfl<;>decide)
  refine⟨p.want e,?_,by rw[h1];exact h2,by rw[h1];exact h3⟩
  rw[List.append_nil]
  exact AV.done (by simp at hn;omega)
 |y::ys,i,l,p,rest,hy,hp,hn,hs=>by
  rw[List.length_cons] at hn
  rw[aTk,List.append_assoc,List.append_assoc] at hs
  have h1:∃p1,(if 0<i then p.want tComma else p)=p1∧p1.fail=false∧Str p1 (toks (pcs y 1)++(aTk (i+1) ys++(4,e)::rest)):=by
   by_cases h:0<i
   ·rw[if_pos h] at hs ⊢
    obtain⟨h1,h2,h3⟩:=want_tk (x:=tComma) hp hs (by decide)
    exact⟨_,h1,h2,h3⟩
   ·rw[if_neg h] at hs ⊢
    exact⟨_,rfl,hp,hs⟩
  obtain⟨p1,e1,hp1,hs1⟩:=h1
  have hokR:∀w:Bs8,w=tComma∨w=tShut∨w=tShutB→okR 1 (4,w):=fun w hw o ho _=>by
   have hall:∀o∈opsT,tIs (4,tComma) o.1=false∧tIs (4,tShut) o.1=false∧tIs (4,tShutB) o.1=false:=by decide
   have:=hall o ho
   rcases hw with rfl|rfl|rfl
   ·exact this.1
   ·exact this.2.1
   ·exact this.2.2
  have h2:∃q,LV 1 p1 y q∧q.fail=false∧Str q (aTk (i+1) ys++(4,e)::rest):=by
   cases ys with
   |nil=>
    obtain⟨q,a,b,c⟩:=hy y (List.mem_cons_self ..) p1 (4,e) rest hp1 hs1 (hokR e (by rcases he with rfl|rfl<;>simp))
    exact⟨q,a,b,c⟩
   |cons z ys=>
    have e2:aTk (i+1) (z::ys)++(4,e)::rest=(4,tComma)::(toks (pcs z 1)++(aTk (i+1+1) ys++(4,e)::rest)):=by
     rw[aTk,if_pos (Nat.succ_pos i)];simp
    rw[e2] at hs1 ⊢
    exact hy y (List.mem_cons_self ..) p1 _ _ hp1 hs1 (hokR tComma (.inl rfl))
  obtain⟨q,hq1,hq2,hq3⟩:=h2
  have hin2:i+1+ys.length=n:=by omega
  obtain⟨r,hr1,hr2,hr3⟩:=AV.all (op:=op) he ys (i+1) (l++[y]) q rest (fun z hz=>hy z (List.mem_cons_of_mem _ hz)) hq2 hin2 hq3
  refine⟨r,?_,hr2,hr3⟩
  rw[List.append_assoc] at hr1
  have hin:i<n:=by omega
  exact AV.more hin e1 hp1 hq1 hr1
end Go.Via
namespace Go.Proofs.YtfijbadahkmhbaaGreatDoor
open Go Go.RowKit Go.Via
theorem c_list_step{x:XT}(z:XR x)(m:Int)(H:∀y:XT,y.size<x.size→WriC m y)(hok:okX x)(hf:x.fit=true)(hM:x.size≤1000000000)(op en:Bs8)(g:Nat)(a:Bool)(d:Bd)(hd:d.ok)(hb:d.s.length+(op++joinC (txtLs x.args)++en).length≤17179869184):ECall Tryz.prog 126 [BB g a d,BF d,gB z.T false,GM m] [.pointer (some ⟨g,0,none⟩),.string (strU op),.slice z.a z.n z.cap,.string (strU en)] (BdX (d.s++(op++joinC (txtLs x.args)++en))) (fun _=> .tuple #[]) (fun d'=>[BB g true d'.1,BF d'.1]):=by
 refine⟨by kernel_rfl,fun B w hD hL0=>?_⟩;obtain⟨h1,h2,h3,h4,h5,h6⟩:=z.inv;have hsz:=x.size_eq;have hal:=XT.len_sizes x.args;have hjl:=joinC_take_le x.args;have hks:=(okX_parts hok).2;refine cB4 31 Tryz.func126 hL0 ?_;refine A1 ?_;refine at_regionM ?_;refine A2 ?_;refine Gm 2 [0,1] [] (fun d1=>[BB g true d1.1,BF d1.1,_,_]) (c_b_WriteString g a d op hd (by rw[List.length_append,List.length_append] at hb;omega)) (fun⟨d1,hd1,e1⟩=>?_);refine A11 ?_;refine El (ι:={r:Nat×Bd // r.1≤x.args.length∧r.2.ok∧r.2.s=d.s++op++joinC ((txtLs x.args).take r.1)}) (fun⟨⟨i,q⟩,hi,hq,hs⟩=>([(0,.pointer (some ⟨g,0,none⟩)),(3,.string (strU en)),(13,.slice z.a z.n z.cap),(14,.int .i64 (z.n:Nat)),(15,.int .i64 (i:Nat))],[BB g true q,BF q,gB z.T false,GM m],x.args.length-i)) ⟨(0,d1),Nat.zero_le _,hd1,by rw[e1];simp[joinC]⟩ ?_ (hL:=Weak.auto);rintro⟨⟨i,q⟩,hi,hq,hs⟩;(try dsimp only);dsimp only at hi hq hs;refine A6 ?_;refine Cd ?_ ?_<;>intro hb1
 ·have hlt:i<x.args.length:=by have:=of_decide_eq_true hb1;omega
  obtain⟨y,hy⟩:∃y,x.args[i]? =some y:=⟨x.args[i],List.getElem?_eq_getElem hlt⟩;obtain⟨ga,oa,ca,u,hza,hma,hra,hTa,hna⟩:=z.arg hy;have hst:=joinC_step hy;have hjl1:=hjl (i+1);have hjs:=congrArg List.length hst;simp only[List.length_append] at hjs hb;refine A7 ?_;refine r_indexAddrG (gg:=ga) (len:=z.n) (cap:=z.cap) (oa+i*7) u28 ti30 rfl rfl (congrArg (fun a=>some (Value.slice a z.n z.cap)) hza) rfl (by omega) (by omega) (by show oa+Int.toNat _*7=_;omega) ?_;refine r_loadT (v:=u.v) 2 (oa+i*7) u.cs rfl rfl rfl z.hT hma hna rfl ti30 hra rfl rfl rfl ?_;refine r_alloc [_,_,_,_,_,_,_] 7 (fun g=>[_,_,_,_,⟨some g,30,_,7,true⟩]) rfl rfl z30 rfl rfl (fun _=>rfl) (fun g0=>?_);refine A1 ?_;refine So 4 0 [_,_,_,_,⟨some g0,30,_,7,true⟩] [_,_,_,_,_,_,_] ?_;refine A9 ?_;refine Cd ?_ ?_<;>intro hb2
  ·have hi0:i≠0:=by have:=of_decide_eq_true hb2;omega
   have hsp:sepS i=[44,32]:=if_neg hi0;rw[hsp] at hst hjs;have hjs:_=_+2+_:=hjs;refine at_regionM ?_;refine A1 ?_;refine r_gcallM (A:=[BB g true q,BF q]) (C:=[]) [.pointer (some ⟨g,0,none⟩),.string (strU [44,32])] [0,1] [] (fun d1=>[BB g true d1.1,BF d1.1,_,_,_]) rfl rfl rfl rfl (c_b_WriteString g true q [44,32] hq (by simp only[hs,List.length_append];show _+2≤_;omega)) (by decide) rfl rfl trivial rfl rfl (fun _=>rfl) (fun _=>allOwn rfl) (fun _=>rfl) (fun⟨d2,hd2,e2⟩=>?_);refine A2 ?_;have hB2:d2.s.length+(txt y 1).length≤17179869184:=(by rw[e2,hs];simp only[List.length_append];show _+2+_≤_;omega);refine at_regionM ?_;refine A1 ?_;refine Ld 4 0 [_,_,_,_,_,_,_] ti30 ?_;refine Kr 25 (u.v) ?_;refine Gm 2 [0,1] [2,3] (fun(d3:BdX (d2.s++txt y 1))=>[BB g true d3.1,BF d3.1,_,_,_]) (by have h:=H y (XT.arg_lt hy) u 1 g true d2 hd2 (okXs_get hks hy) (XT.fits_get (XT.fit_parts hf).2.2 hy) (Nat.le_trans (Nat.le_of_lt (XT.arg_lt hy)) hM) (by decide) hB2;rw[hTa] at h;exact h) (fun⟨d3,hd3,e3⟩=>?_);refine A4 ?_;refine Ar (((i+1:Nat):Int)) ?_;refine A3 ?_;exact Nl ⟨(i+1,d3),hlt,hd3,by rw[e3,e2,hs,hst];simp only[List.append_assoc]⟩ (hL:=Weak.auto)
  ·have hi0:i=0:=by have:=of_decide_eq_false hb2;omega
   have hsp:sepS i=[]:=if_pos hi0;rw[hsp] at hst hjs;have hjs:_=_+0+_:=hjs;refine A2 ?_;have hB2:q.s.length+(txt y 1).length≤17179869184:=(by rw[hs];simp only[List.length_append];omega);refine at_regionM ?_;refine A1 ?_;refine Ld 4 0 [_,_,_,_,_,_,_] ti30 ?_;refine Kr 25 (u.v) ?_;refine Gm 2 [0,1] [2,3] (fun(d3:BdX (q.s++txt y 1))=>[BB g true d3.1,BF d3.1,_,_,_]) (by have h:=H y (XT.arg_lt hy) u 1 g true q hq (okXs_get hks hy) (XT.fits_get (XT.fit_parts hf).2.2 hy) (Nat.le_trans (Nat.le_of_lt (XT.arg_lt hy)) hM) (by decide) hB2;rw[hTa] at h;exact h) (fun⟨d3,hd3,e3⟩=>?_);refine A4 ?_;refine Ar (((i+1:Nat):Int)) ?_;refine A3 ?_;exact Nl ⟨(i+1,d3),hlt,hd3,by rw[e3,hs,hst];simp only[List.append_assoc,List.append_nil,List.nil_append]⟩ (hL:=Weak.auto)
 ·have hge:i=x.args.length:=by have:=of_decide_eq_false hb1;omega
  refine A5 ?_;refine at_regionM ?_;refine A2 ?_;refine Gm 2 [0,1] [] (fun d1=>[BB g true d1.1,BF d1.1,_,_]) (c_b_WriteString g true q en hq (by simp only[hs,hge,txtLs_all,List.length_append] at hb ⊢;omega)) (fun⟨d2,hd2,e2⟩=>?_);refine A1 ?_
  refine at_end0n rfl (fun w hL=>⟨⟨d2,hd2,by rw[e2,hs,hge,txtLs_all];simp only[List.append_assoc]⟩,rfl,hL.pk [some 0,some 1]⟩)
end Go.Proofs.YtfijbadahkmhbaaGreatDoor
namespace Go.Via
open Go Go.RowKit
theorem quoS_none:∀(s:Bs8),s.count 34=0→quoS s=s
 |[],_=>rfl
 |c::s,h=>by
  have hc:c≠34:=fun e=>by subst e;simp at h
  have h2:s.count 34=0:=by rw[List.count_cons] at h;omega
  have ih:=quoS_none s h2
  unfold quoS at ih ⊢
  rw[List.flatMap_cons,ih,if_neg hc];rfl
theorem quoS_cons(c:UInt8)(s:Bs8):quoS (c::s)=(if c=34 then[34,34] else[c])++quoS s:=by
 unfold quoS;rw[List.flatMap_cons]
theorem replaceK_quo:∀(s:Bs8) (k:Nat),s.count 34≤k→Lib.replaceK [34] [34,34] k s=quoS s
 |s,0,h=>by rw[Lib.replaceK,quoS_none s (by omega)]
 |[],k+1,h=>by rw[Lib.replaceK];rfl
 |c::s,k+1,h=>by
  rw[quoS_cons]
  by_cases hc:c=34
  ·subst hc
   have h0:Lib.index (34::s) [34]=(0:Nat):=by rw[Lib.index_one,Lib.indexByte];rfl
   rw[Lib.replaceK_hit _ _ _ _ 0 h0,if_pos rfl]
   have h2:s.count 34≤k:=by rw[List.count_cons_self] at h;omega
   have ih:=replaceK_quo s k h2
   show[]++[34,34]++Lib.replaceK [34] [34,34] k s=_
   rw[ih];rfl
  ·have h2:s.count 34≤k+1:=by rw[List.count_cons] at h;omega
   have ih:=replaceK_quo s (k+1) h2
   rw[if_neg hc,←ih,Lib.replaceK,Lib.replaceK,Lib.index_one,Lib.index_one,Lib.indexByte]
   have hc2:(c==34)=false:=by simpa using hc
   rw[hc2]
   have hge:=Lib.indexByte_ge s 34
   by_cases hm:Lib.indexByte s 34= -1
   ·rw[hm];rfl
   ·have hm2:(Lib.indexByte s 34== -1)=false:=by simpa using hm
    obtain⟨i,hi⟩:∃i:Nat,Lib.indexByte s 34=i:=⟨(Lib.indexByte s 34).toNat,by omega⟩
    have hm3:(Lib.indexByte s 34+1== -1)=false:=by rw[hi];simp;omega
    simp only[hm2,hm3,Bool.false_eq_true,if_false]
    rw[hi]
    have e1:((i:Int)+1).toNat=i+1:=by omega
    have e2:(i:Int).toNat=i:=by omega
    rw[e1,e2]
    simp[Nat.add_right_comm]
theorem replaceAll_quo(s:Bs8):Lib.replaceAll s [34] [34,34]=quoS s:=by
 have h:([34]==([34,34]:List UInt8))=false:=rfl
 rw[Lib.replaceAll,Lib.replace,h]
 simp only[Bool.false_eq_true,if_false]
 refine replaceK_quo s _ ?_
 unfold Lib.replaceNum
 rw[if_pos (.inl (by decide)),Lib.count_one]
 exact Nat.le_refl _
end Go.Via
namespace Go.Proofs.YtfijbadahkmhbaaGreatDoor
open Go Go.RowKit Go.Via
theorem c_ReplaceAll(m:Int)(s:Bs8)(hs:s.length≤1000000):SCall Tryz.prog 125 [GM m] [.string (strU s),.string (strU [34]),.string (strU [34,34])] Unit (fun _=> .string (strU (quoS s))) (fun _=>[]):=by
 refine⟨by kernel_rfl,fun w hL=>?_⟩
 have hm:w.cell? ⟨0,0,none⟩=some (.int .i64 m):=by
  obtain⟨g',hg',h2⟩:=hL.cell (k:=0) (j:=0) rfl (v:= .int .i64 m) rfl
  cases hg'
  exact h2
 have hcnt:Lib.countB (strU s) (strU [34])=s.count 34:=by
  show Lib.count (strU s).data.toList (strU [34]).data.toList=_
  simp only[strU]
  exact Lib.count_one 34 s
 have hc2:=List.count_le_length (a:=(34:UInt8)) (l:=s)
 have hsz:(strU s).size=s.length:=rfl
 have h1:=Tryz.strings_ReplaceAll (strU s) (strU [34]) (strU [34,34]) m w (by rw[hsz];omega) hm (Nat.le_refl _) (by rw[hcnt,hsz,show(strU [34,34]).size=2 from rfl];omega)
 refine Calls.mono h1 ?_
 rintro e w' ⟨rfl,hb⟩
 refine⟨(),?_,(LRel.nil w).same hb⟩
 show _=Ending.returned (Value.string (strU (quoS s)))
 rw[←replaceAll_quo]
 rfl
end Go.Proofs.YtfijbadahkmhbaaGreatDoor
namespace Go.Via
open Go Go.RowKit
theorem NumV.isId_ok{u:NumV}(h:u.isId=true):u.ok=true:=by
 cases u with
 |q r=>rfl
 |raw b1 s1 b2 s2=>
  unfold NumV.isId at h
  obtain⟨q,hq,_⟩:= @of_decide_eq_true _ (Classical.propDecidable _) h
  show isQ b1 s1 b2 s2=true
  unfold isQ
  exact @decide_eq_true _ (Classical.propDecidable _) ⟨q,hq⟩
theorem NumV.rat_ok{u:NumV}{b1 b2:Bool}{s1 s2:ByteArray}(h:u.cells=[.bool b1,.string s1,.bool b2,.string s2])(hf:u.fit=true)(ho:u.ok=true):(.agg #[.bool b1,.string s1,.bool b2,.string s2]:Value)=Q u.rat∧szQ u.rat≤1000000:=by
 have h1:=NumV.rat_cells h ho
 refine⟨h1,?_⟩
 obtain⟨q,e1,e2,e3,e4,_,h6⟩:=NumV.isId_yes h hf ho
 have e:Value.agg #[.bool b1,.string s1,.bool b2,.string s2]=Q q:=by rw[e1,e2,e3,e4];rfl
 rw[←Q_inj8 (e.symm.trans h1)]
 exact h6
theorem nodeE_num{x:XT}(h:nodeE x=0):(x.op=1→x.num.ok=true)∧(x.op=3→x.num.ok=true):=by
 unfold nodeE at h
 split at h
 ·cases h
 split at h
 ·cases h
 split at h
 ·cases h
 rename_i h1
 split at h
 ·cases h
 split at h
 ·cases h
 rename_i h3
 refine⟨fun e=>?_,fun e=>NumV.isId_ok ?_⟩
 ·cases hh:x.num.ok with
  |true=>rfl
  |false=>exact absurd ⟨e,hh⟩ h1
 ·cases hh:x.num.isId with
  |true=>rfl
  |false=>exact absurd ⟨e,hh⟩ h3
def sw6(o:Int):Prop:=o=1∨o=4∨o=3∨o=5∨o=6∨o=2
noncomputable def swS(x:XT):Bs8:=
 if x.op=1 then ratS x.num.rat else if x.op=4 then x.name else if x.op=3 then sObject++ratS x.num.rat++[41] else if x.op=5 then sZone++quoS x.name++[34,41]
 else if x.op=6 then[91]++joinC (txtLs x.args)++[93] else if x.op=2 then sPoint++joinC (txtLs x.args)++[41] else[]
noncomputable def fnL(x:XT)(L:List (Bs8×Nat×Nat)):Bs8:=L.flatMap fun f=>if(f.2.1:Int)=x.op then(f.1++[40])++joinC (txtLs x.args)++[41] else[]
theorem fnL_step(x:XT){L:List (Bs8×Nat×Nat)}{i:Nat}{o:Bs8×Nat×Nat}(h:L[i]? =some o):fnL x (L.take (i+1))=fnL x (L.take i)++(if(o.2.1:Int)=x.op then(o.1++[40])++joinC (txtLs x.args)++[41] else[]):=by
 have hlt:=(List.getElem?_eq_some_iff.1 h).1
 rw[List.take_add_one,h]
 unfold fnL
 rw[List.flatMap_append]
 simp
theorem fnL_le(x:XT)(L:List (Bs8×Nat×Nat))(i:Nat):(fnL x (L.take i)).length≤(fnL x L).length:=by
 have h:fnL x L=fnL x (L.take i)++fnL x (L.drop i):=by
  conv=>lhs;rw[←List.take_append_drop i L]
  unfold fnL
  rw[List.flatMap_append]
 rw[h,List.length_append]
 omega
theorem fnL_none(x:XT)(L:List (Bs8×Nat×Nat))(h:∀f∈L,(f.2.1:Int)≠x.op):fnL x L=[]:=by
 unfold fnL
 rw[List.flatMap_eq_nil_iff]
 intro f hf
 rw[if_neg (h f hf)]
theorem fnL_one(x:XT):∀(L:List (Bs8×Nat×Nat)) (f:Bs8×Nat×Nat),(L.map (fun o=>o.2.1)).Nodup→L.find? (fun f=>decide ((f.2.1:Int)=x.op))=some f→fnL x L=(f.1++[40])++joinC (txtLs x.args)++[41]
 |[],f,_,h=>by simp at h
 |o::L,f,hn,h=>by
  rw[List.map_cons,List.nodup_cons] at hn
  have e:fnL x (o::L)=(if(o.2.1:Int)=x.op then(o.1++[40])++joinC (txtLs x.args)++[41] else[])++fnL x L:=by unfold fnL;rw[List.flatMap_cons]
  rw[e]
  by_cases ho:(o.2.1:Int)=x.op
  ·rw[List.find?_cons_of_pos (by simpa using ho)] at h
   cases h
   rw[if_pos ho,fnL_none x L (fun g hg hgo=>hn.1 (List.mem_map.2 ⟨g,hg,by omega⟩)),List.append_nil]
  ·rw[List.find?_cons_of_neg (by simpa using ho)] at h
   rw[if_neg ho,List.nil_append]
   exact fnL_one x L f hn.2 h
theorem txt_leaf{x:XT}(h:opsT.find? (fun f=>decide ((f.2.1:Int)=x.op))=none)(lv:Nat):txt x lv=swS x++fnL x funT:=by
 cases x with
 |mk o nm u l=>
  have hop:(XT.mk o nm u l).op=o:=rfl
  rw[hop] at h
  rw[txt,h]
  have hsm:∀k:Int,o=k→(∀f∈funT,(f.2.1:Int)≠k)→fnL (.mk o nm u l) funT=[]:=fun k hk hf=>fnL_none _ _ (by rw[hop,hk];exact hf)
  unfold swS
  rw[hop]
  by_cases h1:o=1
  ·rw[hsm 1 h1 (by decide)];simp only[if_pos h1,List.append_nil];rfl
  by_cases h4:o=4
  ·rw[hsm 4 h4 (by decide)];simp only[if_neg h1,if_pos h4,List.append_nil];rfl
  by_cases h3:o=3
  ·rw[hsm 3 h3 (by decide)];simp only[if_neg h1,if_neg h4,if_pos h3,List.append_nil];rfl
  by_cases h5:o=5
  ·rw[hsm 5 h5 (by decide)];simp only[if_neg h1,if_neg h4,if_neg h3,if_pos h5,List.append_nil];rfl
  by_cases h6:o=6
  ·rw[hsm 6 h6 (by decide)];simp only[if_neg h1,if_neg h4,if_neg h3,if_neg h5,if_pos h6,List.append_nil];rfl
  by_cases h2:o=2
  ·rw[hsm 2 h2 (by decide)];simp only[if_neg h1,if_neg h4,if_neg h3,if_neg h5,if_neg h6,if_pos h2,List.append_nil];rfl
  simp only[if_neg h1,if_neg h4,if_neg h3,if_neg h5,if_neg h6,if_neg h2,List.nil_append]
  cases hf:funT.find? (fun f=>decide ((f.2.1:Int)=o)) with
  |none=>
   dsimp only
   exact(fnL_none _ _ (fun f hm he=>by have:=List.find?_eq_none.1 hf f hm;exact this (by rw[hop] at he;simpa using he))).symm
  |some f=>
   dsimp only
   exact(fnL_one (.mk o nm u l) funT f (by decide) hf).symm
end Go.Via
