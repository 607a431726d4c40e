/-
  Part 11 (chapter 43): lemmas, walks. Each theorem states its own conditions.
-/
import Derived.ChangeSame
import Derived.OpenShut
import Derived.RowKit3
import Derived.ProofKit
import Derived.Deep.Slices
import Derived.Carry
import Derived.ChangeMaps5
import Derived.Test.YtfijbadahkmhbaaGreatDoorCards
import Derived.Test.YtfijbadahkmhbaaGreatDoorTie
import Derived.WalkKit
import Derived.Deep.DeepHandedRow
import Derived.Lib.LaidTab
import Derived.Lib.Replace
import Derived.Test.YtfijbadahkmhbaaGreatDoorA04
import Derived.Test.YtfijbadahkmhbaaGreatDoorA09
import Derived.Test.YtfijbadahkmhbaaGreatDoorA10
set_option linter.unusedVariables false
set_option linter.unusedSimpArgs false
set_option maxRecDepth 20000
set_option maxHeartbeats 20000000
namespace Go.Proofs.YtfijbadahkmhbaaGreatDoor
open Go Go.RowKit Go.Via
theorem c_integer_Print(z:Int)(hz0:szI z≤1000000):PCall Tryz.prog 102 #[I z] (.string (strU (intS z))):=by
 have hz1:nb z.natAbs≤1000000:=hz0;refine⟨by kernel_rfl,fun w=>?_⟩;refine cB1 81 Tryz.func102 (LRel.nil w) ?_;refine A2 ?_;refine Bo [_,_] 2 (fun g=>[⟨some g,25,_,2,true⟩]) (fun g0=>?_);refine A11 ?_;refine Cd ?_ ?_<;>intro hb0
 ·have hN0:z.natAbs=0:=by have hh:=hb0;rw[beq_empty] at hh;exact of_decide_eq_true hh
  refine A7 ?_;refine E1 fun w hL=>⟨?_,hL.below⟩
  have e:z=0:=(by omega);subst e;exact rfl
 ·have hN0:z.natAbs≠0:=by have hh:=hb0;rw[beq_empty] at hh;exact of_decide_eq_false hh
  have hdl:=dig_len_le (n:=z.natAbs) (Nat.le_refl _);refine A12 ?_;refine r_scall [.string (mag z.natAbs)] [] rfl rfl rfl (c_integer_digits z.natAbs (by omega)) trivial rfl (.inr fun _ b hb=>by rw[List.mem_singleton.1 hb]) (fun g1=>?_);refine A4 ?_;refine El (ι:=PrS z.natAbs) (fun⟨k,cx,b,n,cap,hx,h1,h2,hkk⟩=>([(1,.pointer (some ⟨g0,0,none⟩)),(3,slv b 0 (9*k) cap),(4,slv (some g1) 0 (digs B32 (z.natAbs/10^(9*k))).length cx)],[⟨some g0,25,[.bool (decide (z<0)),.string (mag z.natAbs)],2,true⟩,⟨some g1,161,NV .u32 (digs B32 (z.natAbs/10^(9*k))),(digs B32 z.natAbs).length,true⟩,⟨b,5,NB (ldig (9*k) z.natAbs),n,true⟩],z.natAbs/10^(9*k))) ⟨0,(digs B32 z.natAbs).length,none,0,0,by rw[pr_zero];exact Nat.le_refl _,Nat.le_refl _,Nat.le_refl _,Nat.zero_le _⟩ ?_ (ht:=⟨rfl,rfl,(look_val rfl (by rw[pr_zero])),trivial⟩) (hL:=(Weak.trans (Weak.nilB _ (by decide:5<mapMark)) (weak_picks [some 0,some 1,some 2] ⟨⟨_,rfl,Blk.le_refl _⟩,⟨_,rfl,le_same (by rw[pr_zero])⟩,⟨_,rfl,Blk.le_refl _⟩,trivial⟩ rfl rfl)));rintro⟨k,cx,b,n,cap,hx,h1,h2,hkk⟩;(try dsimp only);refine A8 ?_;refine Cd ?_ ?_<;>intro hb2
  ·have hm0:z.natAbs/10^(9*k)≠0:=fun e=>by have:=of_decide_eq_true hb2;rw[e] at this;simp[digs] at this
   have hpk:9*k≤3*nb z.natAbs:=pw10_nb (Nat.le_of_not_lt fun h=>hm0 (Nat.div_eq_of_lt h));have hnm:nb (z.natAbs/10^(9*k))≤nb z.natAbs:=nb_mono (Nat.div_le_self _ _);have hdm:=dig_len_le (n:=z.natAbs/10^(9*k)) (Nat.le_refl _);refine A5 ?_;refine at_regionM ?_;refine A1 ?_;refine r_mcall [_,_] 1 [_,⟨some g1,161,NV .u32 (row (digs B32 (z.natAbs/10^(9*k))).length (shoQ (z.natAbs/10^(9*k)) 1000000000)),_,true⟩,_] rfl rfl rfl rfl (c_nat_short (z.natAbs/10^(9*k)) 1000000000 (by omega) (by decide) (by decide) g1 _ cx) rfl rfl ?_;have hR9:(z.natAbs/10^(9*k)%1000000000)<1000000000:=Nat.mod_lt _ (by decide);refine A9 ?_;refine El (ι:=PrJ (9*k)) (fun⟨j,b,n,cap,hj,h1,h2⟩=>([(1,.pointer (some ⟨g0,0,none⟩)),(3,slv b 0 (9*k+j) cap),(4,slv (some g1) 0 (digs B32 (z.natAbs/10^(9*k))).length cx),(5,.int .u32 ((z.natAbs/10^(9*k)%1000000000)/10^j:Nat)),(21,.int .i64 (j:Nat))],[⟨some g0,25,[.bool (decide (z<0)),.string (mag z.natAbs)],2,true⟩,⟨some g1,161,NV .u32 (row (digs B32 (z.natAbs/10^(9*k))).length (shoQ (z.natAbs/10^(9*k)) 1000000000)),(digs B32 z.natAbs).length,true⟩,⟨b,5,NB (ldig (9*k) z.natAbs++ldig j (z.natAbs/10^(9*k)%1000000000)),n,true⟩],9-j)) ⟨0,b,n,cap,by omega,h1,h2⟩ ?_ (ht:=⟨rfl,rfl,rfl,(look_val rfl (congrArg (fun n:Nat=>Value.int .u32 (n:Int)) (by rw[Nat.pow_zero,Nat.div_one]))),rfl,trivial⟩) (hL:=(weak_picks [some 0,some 1,some 2] ⟨⟨_,rfl,Blk.le_refl _⟩,⟨_,rfl,Blk.le_refl _⟩,⟨_,rfl,le_same (by rw[ldig,List.append_nil])⟩,trivial⟩ rfl rfl));rintro⟨j,b,n,cap,hj,h1,h2⟩;(try dsimp only);refine A6 ?_;refine Cd ?_ ?_<;>intro hb4
   ·have hlt:j<9:=(by have:=of_decide_eq_true hb4;omega);refine A7 ?_;refine r_div (r:=(((z.natAbs/10^(9*k)%1000000000)/10^j%10:Nat):Int)) rfl rfl rfl rfl (by omega) (congrArg some (rem_n _ _ rfl rfl)) ?_;refine r_arith (r:=((48+(z.natAbs/10^(9*k)%1000000000)/10^j%10:Nat):Int)) rfl rfl rfl rfl (congrArg some (by rw[IntKind.wrap_u32];omega)) ?_;refine r_conv (r:=((dchar ((z.natAbs/10^(9*k)%1000000000)/10^j)).toNat:Int)) u161 u5 rfl rfl rfl (by rw[dchar_nat,IntKind.wrap_u8];omega) ?_;refine r_buildSlice [(0,_)] (fun g=>[_,_,_,⟨some g,5,_,1,true⟩]) rfl rfl rfl (bs125_1) rfl (fun _=>rfl) (fun g1=>?_);refine q_append (b:=⟨b,5,NB (ldig (9*k) z.natAbs++ldig j (z.natAbs/10^(9*k)%1000000000)),n,true⟩) (len:=9*k+j) (cap:=cap) (n2:=1) 2 3 (fun r=>[_,_,⟨some r.g,5,NB (ldig (9*k) z.natAbs++ldig j (z.natAbs/10^(9*k)%1000000000))++[.int .u8 ((dchar ((z.natAbs/10^(9*k)%1000000000)/10^j)).toNat:Nat)],r.n,true⟩,_]) u125 el5 rfl rfl rfl rfl rfl rfl rfl rfl rfl rfl rfl rfl (by rw[NB_length,List.length_append,ldig_len,ldig_len,Nat.mul_one]) h1 (by rw[Nat.mul_one];exact h2) rfl (fun v hv=>by rw[List.mem_singleton.1 hv];rfl) (by omega) (fun r=>rfl) (fun r=>?_);refine A1 ?_;refine r_div (r:=(((z.natAbs/10^(9*k)%1000000000)/10^j/10:Nat):Int)) rfl rfl rfl rfl (by omega) (congrArg some (quo32 ((z.natAbs/10^(9*k)%1000000000)/10^j) 10 rfl rfl (Nat.lt_of_le_of_lt (Nat.div_le_self _ _) (Nat.lt_of_le_of_lt (Nat.div_le_self _ _) (Nat.lt_trans hR9 (by decide)))))) ?_;refine A6 ?_;refine Ar (((j+1:Nat):Int)) ?_;refine A3 ?_;exact Nl ⟨j+1,some r.g,r.n,r.cap,hlt,r.h,by have:=r.hn;omega⟩ (ht:=⟨rfl,rfl,rfl,(look_val rfl (congrArg (fun n:Nat=>Value.int .u32 (n:Int)) (by rw[Nat.div_div_eq_div_mul,←Nat.pow_succ]))),rfl,trivial⟩) (hL:=(weak_picks [some 0,some 1,some 2] ⟨⟨_,rfl,Blk.le_refl _⟩,⟨_,rfl,Blk.le_refl _⟩,⟨_,rfl,le_same (by rw[ldig_snoc,←List.append_assoc,NB_append];rfl)⟩,trivial⟩ rfl rfl))
   ·have hge:j=9:=(by have:=of_decide_eq_false hb4;omega);subst hge;refine A8 ?_;refine r_scall0 [slv (some g1) 0 (digs B32 (z.natAbs/10^(9*k))).length cx] [1] rfl rfl rfl (c_nat_trim (row (digs B32 (z.natAbs/10^(9*k))).length (shoQ (z.natAbs/10^(9*k)) 1000000000)) (row_lt fun j=>B32_mod _) (by rw[row_length];omega) (row_length _ _) ⟨some g1,_,cx,hx⟩) ⟨⟨_,rfl,le_share⟩,trivial⟩ rfl ?_;refine r_know 18 (slv (some g1) 0 (digs B32 (z.natAbs/10^(9*(k+1)))).length cx) rfl (by rw[shoQ_val,pr_div]) ?_;refine A3 ?_;exact Nl ⟨k+1,cx,b,n,cap,Nat.le_trans (digs_length_mono (by decide) (by rw[←pr_div];exact Nat.div_le_self _ _)) hx,by omega,h2,by omega⟩ (hμ:=(by show z.natAbs/10^(9*(k+1))<z.natAbs/10^(9*k);rw[←pr_div];exact Nat.div_lt_self (Nat.pos_of_ne_zero hm0) (by decide))) (hL:=(weak_picks [some 0,some 1,some 2] ⟨⟨_,rfl,Blk.le_refl _⟩,⟨_,rfl,⟨rfl,rfl,rfl,⟨(digs B32 (z.natAbs/10^(9*(k+1)))).length,pr_row⟩,id⟩⟩,⟨_,rfl,le_same (by rw[pr_next])⟩,trivial⟩ rfl rfl))
  ·have hm0:z.natAbs/10^(9*k)=0:=by
    by_cases e:z.natAbs/10^(9*k)=0
    ·exact e
    ·have:=dig_pos e;have h2:=of_decide_eq_false hb2;omega
   have hK:z.natAbs<10^(9*k):=by
    rw[←Nat.not_le];intro h2;have:=Nat.div_pos h2 (Nat.pow_pos (by decide));omega
   refine A7 ?_;refine El (ι:={j:Nat // j≤9*k∧stripT ((ldig (9*k) z.natAbs).take j)=stripT (ldig (9*k) z.natAbs)}) (fun⟨j,hj,hI⟩=>([(1,.pointer (some ⟨g0,0,none⟩)),(3,slv b 0 j cap)],[⟨some g0,25,[.bool (decide (z<0)),.string (mag z.natAbs)],2,true⟩,⟨b,5,NB (ldig (9*k) z.natAbs),n,true⟩],j)) ⟨9*k,Nat.le_refl _,by rw[List.take_of_length_le (by rw[ldig_len];exact Nat.le_refl _)]⟩ ?_ (hL:=(weak_pk [some 0,some 2]));rintro⟨j,hj,hI⟩;(try dsimp only);refine A7 ?_;refine Rs 36 ?_ ?_<;>intro hb4
   ·have hj0:0<j:=(by have:=of_decide_eq_true hb4;omega);obtain⟨c,hxc⟩:∃c,(ldig (9*k) z.natAbs)[j-1]? =some c:=⟨(ldig (9*k) z.natAbs)[j-1]'(by rw[ldig_len];omega),List.getElem?_eq_getElem _⟩;refine A3 ?_;refine Ar (((j-1:Nat):Int)) ?_;refine r_indexAddr 1 (j-1) u125 ti5 rfl rfl rfl rfl rfl (by omega) (by omega) (fun e=>by have:=congrArg List.length e;rw[NB_length,ldig_len] at this;simp at this;omega) (by show 0+Int.toNat _*1=_;omega) ?_;refine r_load1 (v:= .int .u8 (c.toNat:Nat)) 1 (j-1) ti5 rfl rfl rfl rfl (NB_get hxc) ?_;refine A4 ?_;refine Cd ?_ ?_<;>intro hb5
    ·have hc48:c=48:=by
      have hh:=hb5;exact UInt8.toNat_inj.1 (by have:=eq_of_beq hh;simpa using Int.ofNat_inj.1 this)
     refine A7 ?_;refine Ar (((j-1:Nat):Int)) ?_;refine r_sliceH (j-1) u125 ti5 rfl rfl rfl rfl (by omega) (by omega) (by omega) ?_;refine A4 ?_;exact nextL ⟨j-1,by omega,by
 rw[←hI];have e:=strip_step hxc;rw[Nat.sub_add_cancel hj0,hc48] at e;rw[e,stripT_zero]⟩ (by show j-1<j;omega) ⟨rfl,rfl,trivial⟩ (Weak.refl _)
    ·have hc48:c≠48:=by
      have hh:=hb5;intro e;subst e;exact absurd hh (by decide)
     have hS:stripT (ldig (9*k) z.natAbs)=(ldig (9*k) z.natAbs).take j:=by
      rw[←hI];have e:=strip_step hxc;rw[Nat.sub_add_cancel hj0] at e;rw[e,stripT_full hc48]
     refine A7 ?_;obtain⟨S,hSe⟩:∃S,(ldig (9*k) z.natAbs).take j=S:=⟨_,rfl⟩;have hSl:S.length=j:=by rw[←hSe,List.length_take,ldig_len];omega
     have hSd:S.reverse=decS z.natAbs:=(by rw[←hSe,←hS];exact strip_decS hK hN0);have hSn:0<S.length:=List.length_pos_iff.2 fun e=>by rw[e] at hSd;exact decS_ne hN0 hSd.symm
     refine at_weakL (L':=[⟨some g0,25,[.bool (decide (z<0)),.string (mag z.natAbs)],2,true⟩,⟨b,5,NB S,n,true⟩]) (weak_picks [some 0,some 1] ⟨⟨_,rfl,Blk.le_refl _⟩,⟨_,rfl,⟨rfl,rfl,rfl,⟨j,by rw[←hSe,←NB_take]⟩,id⟩⟩,trivial⟩ rfl rfl) ?_;refine at_know 3 (slv b 0 S.length cap) rfl (by rw[hSl]) ?_;refine A5 ?_;refine Cd ?_ ?_<;>intro hb6
     ·have hz:decide (z<0)=true:=hb6;refine A2 ?_;refine r_buildSlice [(0,_)] (fun g=>[_,_,⟨some g,5,_,1,true⟩]) rfl rfl rfl (bs125_1) rfl (fun _=>rfl) (fun g1=>?_);refine q_append (b:=⟨b,5,NB S,n,true⟩) (len:=S.length) (cap:=cap) (n2:=1) 1 2 (fun r=>[_,⟨some r.g,5,NB S++[.int .u8 45],r.n,true⟩,_]) u125 el5 rfl rfl rfl rfl rfl rfl rfl rfl rfl rfl rfl rfl (by rw[NB_length,Nat.mul_one]) (by omega) (by rw[Nat.mul_one];exact h2) rfl (fun v hv=>by rw[List.mem_singleton.1 hv];rfl) (by omega) (fun r=>rfl) (fun r=>?_);refine A5 ?_;obtain⟨W,hW⟩:∃W,S++[45]=W:=⟨_,rfl⟩;have hWl:W.length=S.length+1:=by rw[←hW];simp
      have hWr:W.reverse=intS z:=by
       unfold intS;rw[if_pos (of_decide_eq_true hz),←hW,List.reverse_append,hSd];rfl
      refine at_weakL (L':=[⟨some g0,25,[.bool (decide (z<0)),.string (mag z.natAbs)],2,true⟩,⟨some r.g,5,NB W,r.n,true⟩]) (weak_picks [some 0,some 1] ⟨⟨_,rfl,Blk.le_refl _⟩,⟨_,rfl,le_same (by rw[←hW,NB_append];rfl)⟩,trivial⟩ rfl rfl) ?_;refine at_know 3 (slv (some r.g) 0 W.length r.cap) rfl (by rw[hWl]) ?_;refine A3 ?_;refine Ar (((W.length-1:Nat):Int)) ?_;refine A5 ?_;refine El (ι:={q:Nat×Bs8 // RevI W q.2 q.1∧2*q.1≤W.length}) (fun⟨⟨i,c⟩,hR,hi⟩=>([(3,slv (some r.g) 0 W.length r.cap),(6,.int .i64 (i:Nat)),(7,.int .i64 (W.length-1-i:Nat))],[⟨some g0,25,[.bool (decide (z<0)),.string (mag z.natAbs)],2,true⟩,⟨(some r.g),5,NB c,r.n,true⟩],W.length-2*i)) ⟨(0,W),RevI.zero _,Nat.zero_le _⟩ ?_ (hL:=Weak.auto);rintro⟨⟨i,c⟩,hR,hi⟩;(try dsimp only);dsimp only at hR hi;refine A8 ?_;refine Cd ?_ ?_<;>intro hb8
      ·have hlt:2*i+1<W.length:=by have:=of_decide_eq_true hb8;omega
       obtain⟨ca,hca⟩:∃a,c[i]? =some a:=⟨c[i]'(by rw[hR.1];omega),List.getElem?_eq_getElem _⟩;obtain⟨cb,hcb⟩:∃a,c[W.length-1-i]? =some a:=⟨c[W.length-1-i]'(by rw[hR.1];omega),List.getElem?_eq_getElem _⟩;refine A4 ?_;refine at_drawnEM (X:=Unit) (l':=[⟨_,_,_,_,_,_⟩,⟨_,_,_,_,_,_⟩,⟨_,_,_,_,_,_⟩,⟨_,_,_,_,_,_⟩,⟨_,_,_,_,_,_⟩,⟨_,_,_,_,_,_⟩,⟨_,_,_,_,_,_⟩,⟨_,_,_,_,_,_⟩]) (fun⟨⟩=>[(3,slv (some r.g) 0 W.length r.cap),(6,.int .i64 (i:Nat)),(7,.int .i64 (W.length-1-i:Nat))]) (fun⟨⟩=>[⟨some g0,25,[.bool (decide (z<0)),.string (mag z.natAbs)],2,true⟩,⟨(some r.g),5,NB ((c.set i cb).set (W.length-1-i) ca),r.n,true⟩]) [0,1,2,3,4,5,8,9] 8 mixed (by kernel_rfl) rfl ?_ ?_
       ·refine A9 ?_;refine Tn2 6 10 ?_ ?_
        repeat' first
         |(refine Ix 1 i ?_;refine A1 ?_;refine Td1 13 ?_)
         |(refine r_store1 rfl 1 i [_,⟨_,5,_,_,true⟩] (NB (c.set i cb)) ti5 rfl rfl rfl rfl rfl rfl rfl rfl (by have h8:=hR.1;rw[NB_length];first|omega|(rw[List.length_set];omega)) (NB_set _ _ _) rfl ?_;refine A1 ?_;refine Td1 14 ?_)
         |(refine Ix 1 (W.length-1-i) ?_;refine A1 ?_;refine Td1 15 ?_)
         |(refine r_load1 (v:= .int .u8 (ca.toNat:Nat)) 1 i ti5 rfl rfl rfl rfl (NB_get hca) ?_;refine A1 ?_;refine Td1 12 ?_)
         |(refine r_load1 (v:= .int .u8 (cb.toNat:Nat)) 1 (W.length-1-i) ti5 rfl rfl rfl rfl (NB_get hcb) ?_;refine A1 ?_;refine Td1 12 ?_)
         |(refine r_load1 (v:= .int .u8 (cb.toNat:Nat)) 1 (W.length-1-i) ti5 rfl rfl rfl rfl (NB_get hcb) ?_;refine A1 ?_;refine Td1 11 ?_)
         |(refine r_load1 (v:= .int .u8 (ca.toNat:Nat)) 1 i ti5 rfl rfl rfl rfl (NB_get hca) ?_;refine A1 ?_;refine Td1 7 ?_)
         |(refine Ix 1 (W.length-1-i) ?_;refine A1 ?_;refine Td2 7 10 ?_ ?_)
         |(refine r_load1 (v:= .int .u8 (cb.toNat:Nat)) 1 (W.length-1-i) ti5 rfl rfl rfl rfl (NB_get hcb) ?_;refine A1 ?_;refine Td1 10 ?_)
         |(refine Ix 1 i ?_;refine A1 ?_;refine Td1 11 ?_)
         |(refine Ix 1 i ?_;refine A1 ?_;refine Td2 7 11 ?_ ?_)
         |(refine Ix 1 i ?_;refine A1 ?_;refine Td2 6 11 ?_ ?_)
         |(refine Ix 1 (W.length-1-i) ?_;refine A1 ?_;refine Td2 7 11 ?_ ?_)
         |(refine r_load1 (v:= .int .u8 (ca.toNat:Nat)) 1 i ti5 rfl rfl rfl rfl (NB_get hca) ?_;refine A1 ?_;refine Td1 6 ?_)
         |(refine Ix 1 (W.length-1-i) ?_;refine A1 ?_;refine Td1 7 ?_)
         |(refine r_store1 rfl 1 (W.length-1-i) [_,⟨_,5,_,_,true⟩] (NB ((c.set i cb).set (W.length-1-i) ca)) ti5 rfl rfl rfl rfl rfl rfl rfl rfl (by have h8:=hR.1;rw[NB_length];first|omega|(rw[List.length_set];omega)) (NB_set _ _ _) rfl ?_;refine A1 ?_;refine tr_nil (by decide+kernel) ?_;exact⟨(),rfl,⟨rfl,rfl,rfl,trivial⟩,List.Perm.refl _⟩)
       rintro⟨⟩;show At _ ⟨81,[(3,slv (some r.g) 0 W.length r.cap),(6,.int .i64 (i:Nat)),(7,.int .i64 (W.length-1-i:Nat))],[⟨some g0,25,[.bool (decide (z<0)),.string (mag z.natAbs)],2,true⟩,⟨(some r.g),5,NB ((c.set i cb).set (W.length-1-i) ca),r.n,true⟩]⟩ _;refine A4 ?_;refine Ar (((i+1:Nat):Int)) ?_;refine A1 ?_;refine Ar (((W.length-1-(i+1):Nat):Int)) ?_;refine A4 ?_;exact Nl ⟨(i+1,(c.set i cb).set (W.length-1-i) ca),hR.step hlt hca hcb,by omega⟩ (hμ:=(by show W.length-2*(i+1)<W.length-2*i;omega))
      ·have hge:W.length≤2*i+1:=by have:=of_decide_eq_false hb8;omega
       refine A8 ?_;refine r_convBS (l:=c.map UInt8.toNat) (r:=strU c) 1 u125 u5 u9 rfl rfl rfl rfl rfl (by rw[←strN_NB,List.take_of_length_le (by rw[NB_length,hR.1];exact Nat.le_refl _)]) (by rw[List.length_map,hR.1]) (strN_U c) ?_;refine A4 ?_;refine E1 fun w hL=>⟨?_,hL.below⟩;rw[hR.done hge,hWr]
     ·have hz:decide (z<0)=false:=hb6;refine A4 ?_;have hWr:S.reverse=intS z:=by
       unfold intS;rw[if_neg (of_decide_eq_false hz)];exact hSd
      refine at_some 1 rfl (fun e=>by have:=congrArg List.length e;rw[NB_length] at this;simp only[List.length_nil] at this;omega) (fun hbs=>?_);obtain⟨gb,hgb⟩:=Option.isSome_iff_exists.1 hbs;subst hgb;refine A3 ?_;refine Ar (((S.length-1:Nat):Int)) ?_;refine A5 ?_;refine El (ι:={q:Nat×Bs8 // RevI S q.2 q.1∧2*q.1≤S.length}) (fun⟨⟨i,c⟩,hR,hi⟩=>([(3,slv (some gb) 0 S.length cap),(6,.int .i64 (i:Nat)),(7,.int .i64 (S.length-1-i:Nat))],[⟨some g0,25,[.bool (decide (z<0)),.string (mag z.natAbs)],2,true⟩,⟨(some gb),5,NB c,n,true⟩],S.length-2*i)) ⟨(0,S),RevI.zero _,Nat.zero_le _⟩ ?_ (hL:=Weak.auto);rintro⟨⟨i,c⟩,hR,hi⟩;(try dsimp only);dsimp only at hR hi;refine A8 ?_;refine Cd ?_ ?_<;>intro hb8
      ·have hlt:2*i+1<S.length:=by have:=of_decide_eq_true hb8;omega
       obtain⟨ca,hca⟩:∃a,c[i]? =some a:=⟨c[i]'(by rw[hR.1];omega),List.getElem?_eq_getElem _⟩;obtain⟨cb,hcb⟩:∃a,c[S.length-1-i]? =some a:=⟨c[S.length-1-i]'(by rw[hR.1];omega),List.getElem?_eq_getElem _⟩;refine A4 ?_;refine at_drawnEM (X:=Unit) (l':=[⟨_,_,_,_,_,_⟩,⟨_,_,_,_,_,_⟩,⟨_,_,_,_,_,_⟩,⟨_,_,_,_,_,_⟩,⟨_,_,_,_,_,_⟩,⟨_,_,_,_,_,_⟩,⟨_,_,_,_,_,_⟩,⟨_,_,_,_,_,_⟩]) (fun⟨⟩=>[(3,slv (some gb) 0 S.length cap),(6,.int .i64 (i:Nat)),(7,.int .i64 (S.length-1-i:Nat))]) (fun⟨⟩=>[⟨some g0,25,[.bool (decide (z<0)),.string (mag z.natAbs)],2,true⟩,⟨(some gb),5,NB ((c.set i cb).set (S.length-1-i) ca),n,true⟩]) [0,1,2,3,4,5,8,9] 8 mixed (by kernel_rfl) rfl ?_ ?_
       ·refine A9 ?_;refine Tn2 6 10 ?_ ?_
        repeat' first
         |(refine Ix 1 i ?_;refine A1 ?_;refine Td1 13 ?_)
         |(refine r_store1 rfl 1 i [_,⟨_,5,_,_,true⟩] (NB (c.set i cb)) ti5 rfl rfl rfl rfl rfl rfl rfl rfl (by have h8:=hR.1;rw[NB_length];first|omega|(rw[List.length_set];omega)) (NB_set _ _ _) rfl ?_;refine A1 ?_;refine Td1 14 ?_)
         |(refine Ix 1 (S.length-1-i) ?_;refine A1 ?_;refine Td1 15 ?_)
         |(refine r_load1 (v:= .int .u8 (ca.toNat:Nat)) 1 i ti5 rfl rfl rfl rfl (NB_get hca) ?_;refine A1 ?_;refine Td1 12 ?_)
         |(refine r_load1 (v:= .int .u8 (cb.toNat:Nat)) 1 (S.length-1-i) ti5 rfl rfl rfl rfl (NB_get hcb) ?_;refine A1 ?_;refine Td1 12 ?_)
         |(refine r_load1 (v:= .int .u8 (cb.toNat:Nat)) 1 (S.length-1-i) ti5 rfl rfl rfl rfl (NB_get hcb) ?_;refine A1 ?_;refine Td1 11 ?_)
         |(refine r_load1 (v:= .int .u8 (ca.toNat:Nat)) 1 i ti5 rfl rfl rfl rfl (NB_get hca) ?_;refine A1 ?_;refine Td1 7 ?_)
         |(refine Ix 1 (S.length-1-i) ?_;refine A1 ?_;refine Td2 7 10 ?_ ?_)
         |(refine r_load1 (v:= .int .u8 (cb.toNat:Nat)) 1 (S.length-1-i) ti5 rfl rfl rfl rfl (NB_get hcb) ?_;refine A1 ?_;refine Td1 10 ?_)
         |(refine Ix 1 i ?_;refine A1 ?_;refine Td1 11 ?_)
         |(refine Ix 1 i ?_;refine A1 ?_;refine Td2 7 11 ?_ ?_)
         |(refine Ix 1 i ?_;refine A1 ?_;refine Td2 6 11 ?_ ?_)
         |(refine Ix 1 (S.length-1-i) ?_;refine A1 ?_;refine Td2 7 11 ?_ ?_)
         |(refine r_load1 (v:= .int .u8 (ca.toNat:Nat)) 1 i ti5 rfl rfl rfl rfl (NB_get hca) ?_;refine A1 ?_;refine Td1 6 ?_)
         |(refine Ix 1 (S.length-1-i) ?_;refine A1 ?_;refine Td1 7 ?_)
         |(refine r_store1 rfl 1 (S.length-1-i) [_,⟨_,5,_,_,true⟩] (NB ((c.set i cb).set (S.length-1-i) ca)) ti5 rfl rfl rfl rfl rfl rfl rfl rfl (by have h8:=hR.1;rw[NB_length];first|omega|(rw[List.length_set];omega)) (NB_set _ _ _) rfl ?_;refine A1 ?_;refine tr_nil (by decide+kernel) ?_;exact⟨(),rfl,⟨rfl,rfl,rfl,trivial⟩,List.Perm.refl _⟩)
       rintro⟨⟩;show At _ ⟨81,[(3,slv (some gb) 0 S.length cap),(6,.int .i64 (i:Nat)),(7,.int .i64 (S.length-1-i:Nat))],[⟨some g0,25,[.bool (decide (z<0)),.string (mag z.natAbs)],2,true⟩,⟨(some gb),5,NB ((c.set i cb).set (S.length-1-i) ca),n,true⟩]⟩ _;refine A4 ?_;refine Ar (((i+1:Nat):Int)) ?_;refine A1 ?_;refine Ar (((S.length-1-(i+1):Nat):Int)) ?_;refine A4 ?_;exact Nl ⟨(i+1,(c.set i cb).set (S.length-1-i) ca),hR.step hlt hca hcb,by omega⟩ (hμ:=(by show S.length-2*(i+1)<S.length-2*i;omega))
      ·have hge:S.length≤2*i+1:=by have:=of_decide_eq_false hb8;omega
       refine A8 ?_;refine r_convBS (l:=c.map UInt8.toNat) (r:=strU c) 1 u125 u5 u9 rfl rfl rfl rfl rfl (by rw[←strN_NB,List.take_of_length_le (by rw[NB_length,hR.1];exact Nat.le_refl _)]) (by rw[List.length_map,hR.1]) (strN_U c) ?_;refine A4 ?_;refine E1 fun w hL=>⟨?_,hL.below⟩;rw[hR.done hge,hWr]
   ·have hj0:j=0:=(by have:=of_decide_eq_false hb4;omega);have hS:stripT (ldig (9*k) z.natAbs)=(ldig (9*k) z.natAbs).take j:=by rw[←hI,hj0];rfl
    refine A18 ?_;obtain⟨S,hSe⟩:∃S,(ldig (9*k) z.natAbs).take j=S:=⟨_,rfl⟩;have hSl:S.length=j:=by rw[←hSe,List.length_take,ldig_len];omega
    have hSd:S.reverse=decS z.natAbs:=(by rw[←hSe,←hS];exact strip_decS hK hN0);have hSn:0<S.length:=List.length_pos_iff.2 fun e=>by rw[e] at hSd;exact decS_ne hN0 hSd.symm
    exfalso;omega
end Go.Proofs.YtfijbadahkmhbaaGreatDoor
namespace Go.Via
open Go Go.RowKit
theorem decR_len:∀(f k n:Nat),n<10^k→(decR f n).length≤k
 |0,k,n,h=>Nat.zero_le _
 |f+1,0,n,h=>by
  have:n=0:=by simpa using h
  rw[decR,if_pos this];exact Nat.zero_le _
 |f+1,k+1,n,h=>by
  rw[decR]
  split
  ·exact Nat.zero_le _
  ·have:=decR_len f k (n/10) (by rw[Nat.pow_succ] at h;omega)
   rw[List.length_cons];omega
theorem decS_len(n:Nat):(decS n).length≤3*nb n+1:=by
 unfold decS
 split
 ·simp
 ·rw[List.length_reverse]
  have h3:n<256^nb n:=lt_nb n
  have h4:256^nb n≤1000^nb n:=Nat.pow_le_pow_left (by decide) _
  have h5:(1000:Nat)^nb n=10^(3*nb n):=by rw[Nat.pow_mul]
  have:=decR_len n (3*nb n) n (by omega)
  omega
theorem intS_len(z:Int):(intS z).length≤3*szI z+2:=by
 have h:=decS_len z.natAbs
 have e:szI z=nb z.natAbs:=rfl
 unfold intS
 split
 ·rw[List.length_cons];omega
 ·omega
theorem ratS_len(q:Rat):(ratS q).length≤6*szQ q+5:=by
 have h1:=intS_len q.num
 have h2:=intS_len (q.den:Int)
 have h3:=lI_num q
 have h4:=lI_den q
 unfold ratS
 split
 ·omega
 ·rw[List.length_append,List.length_cons];omega
theorem den_I{q:Rat}(h:¬q.den=1):(.agg #[.bool false,.string (dm q)]:Value)=I (q.den:Int):=by
 unfold dm
 rw[if_neg h]
 exact I_nat q.den
end Go.Via
namespace Go.Proofs.YtfijbadahkmhbaaGreatDoor
open Go Go.RowKit Go.Via
theorem c_rational_Print(q:Rat)(hq:szQ q≤1000000):PCall Tryz.prog 67 #[Q q] (.string (strU (ratS q))):=by
 have hn1:=Nat.le_trans (lI_num q) hq;have hd1:=Nat.le_trans (lI_den q) hq;have hl1:=intS_len q.num;have hl2:=intS_len (q.den:Int);refine⟨by kernel_rfl,fun w=>?_⟩;refine cB1 18 Tryz.func67 (LRel.nil w) ?_;refine A2 ?_;refine Bo [_,_,_,_] 4 (fun g=>[⟨some g,27,_,4,true⟩]) (fun g0=>?_);refine A7 ?_;refine Ld 0 2 [_,_] ti25 ?_;refine r_build [] rfl rfl rfl (bd25_0) ?_;refine r_eqlAgg rfl rfl rfl rfl gd25 (eq25r _ _ _ _) ?_;refine r_know 6 (.bool (decide (q.den=1))) rfl (by rw[dm_nil]) ?_;refine A2 ?_;refine Cd ?_ ?_<;>intro hb0
 ·have hden:q.den=1:=of_decide_eq_true hb0;refine A3 ?_;refine Ld 0 0 [_,_] ti25 ?_;refine Kr 8 (I q.num) ?_;refine Pc (c_integer_Print q.num hn1) ?_;refine A5 ?_;refine E1 fun w hL=>⟨?_,hL.below⟩;unfold ratS;rw[if_pos hden]
 ·have hden:¬q.den=1:=of_decide_eq_false hb0;refine A3 ?_;refine at_drawn (l':=[⟨_,_,_,_,_,_⟩,⟨_,_,_,_,_,_⟩,⟨_,_,_,_,_,_⟩,⟨_,_,_,_,_,_⟩,⟨_,_,_,_,_,_⟩,⟨_,_,_,_,_,_⟩,⟨_,_,_,_,_,_⟩,⟨_,_,_,_,_,_⟩,⟨_,_,_,_,_,_⟩]) [] [0,1,4,5,2,3,6,7,8] mixed (by kernel_rfl) rfl (by kernel_rfl) ?_;refine A1 ?_;refine Ld 0 0 [_,_] ti25 ?_;refine Kr 11 (I q.num) ?_;refine A1 ?_;refine Ld 0 2 [_,_] ti25 ?_;refine r_know 15 (I (q.den:Int)) rfl (den_I hden) ?_;refine Pc (c_integer_Print q.num hn1) ?_;refine r_addS (p:=intS q.num) (q:=[47]) rfl rfl rfl rfl rfl rfl rfl (by show _+1≤_;omega) ?_;refine Pc (c_integer_Print (q.den:Int) hd1) ?_;refine r_addS (p:=intS q.num++[47]) (q:=intS (q.den:Int)) rfl rfl rfl rfl rfl rfl rfl (by rw[List.length_append];show _+1+_≤_;omega) ?_;refine A4 ?_;refine E1 fun w hL=>⟨?_,hL.below⟩;unfold ratS;rw[if_neg hden,List.append_assoc];exact rfl
end Go.Proofs.YtfijbadahkmhbaaGreatDoor
namespace Go.Via
open Go Go.RowKit
noncomputable def NumV.rat:NumV→Rat
 | .q r=>r
 | .raw b1 s1 b2 s2=> @dite _ (∃q:Rat,Value.agg #[.bool b1,.string s1,.bool b2,.string s2]=Q q) (Classical.propDecidable _) (fun h=>h.choose) (fun _=>0)
theorem NumV.rat_cells{u:NumV}{b1 b2:Bool}{s1 s2:ByteArray}(h:u.cells=[.bool b1,.string s1,.bool b2,.string s2])(ho:u.ok=true):(.agg #[.bool b1,.string s1,.bool b2,.string s2]:Value)=Q u.rat:=by
 cases u with
 |q r=>
  obtain⟨rfl,rfl,rfl,rfl⟩:=NumV.of_q h
  rfl
 |raw c1 t1 c2 t2=>
  obtain⟨rfl,rfl,rfl,rfl⟩:=NumV.of_raw h
  have h2:∃q:Rat,Value.agg #[.bool b1,.string s1,.bool b2,.string s2]=Q q:=by
   have h3:isQ b1 s1 b2 s2=true:=ho
   unfold isQ at h3
   exact @of_decide_eq_true _ (Classical.propDecidable _) h3
  have e:(NumV.raw b1 s1 b2 s2).rat=h2.choose:= @dif_pos _ (Classical.propDecidable _) h2 _ _ _
  rw[e]
  exact h2.choose_spec
def joinC:List Bs8→Bs8
 |[]=>[]
 |[t]=>t
 |t::u::r=>t++[44,32]++joinC (u::r)
theorem joinC_snoc(t:Bs8):∀L:List Bs8,joinC (L++[t])=joinC L++(if L=[] then[] else[44,32])++t
 |[]=>by simp[joinC]
 |[u]=>by simp[joinC]
 |u::v::r=>by
  rw[List.cons_append,List.cons_append,joinC,joinC,←List.cons_append,joinC_snoc t (v::r)]
  simp
def quoS(n:Bs8):Bs8:=n.flatMap fun c=>if c=34 then[34,34] else[c]
def sNot:Bs8:=[110,111,116,32]
def sObject:Bs8:=[111,98,106,101,99,116,40]
def sZone:Bs8:=[122,111,110,101,40,34]
def sPoint:Bs8:=[112,111,105,110,116,40]
mutual
noncomputable def txt:XT→Nat→Bs8
 | .mk o nm u l,lv=>
   match opsT.find? (fun f=>decide ((f.2.1:Int)=o)) with
   |some f=>
    if f.2.2<lv then[40]++(if f.2.2=3 then sNot++txtAt l 0 3 else txtAt l 0 (if f.2.2=4 then 5 else f.2.2)++([32]++f.1++[32])++txtAt l 1 (f.2.2+1))++[41]
    else if f.2.2=3 then sNot++txtAt l 0 3 else txtAt l 0 (if f.2.2=4 then 5 else f.2.2)++([32]++f.1++[32])++txtAt l 1 (f.2.2+1)
   |none=>
    if o=1 then ratS u.rat else if o=4 then nm else if o=3 then sObject++ratS u.rat++[41] else if o=5 then sZone++quoS nm++[34,41]
    else if o=6 then[91]++joinC (txtLs l)++[93] else if o=2 then sPoint++joinC (txtLs l)++[41]
    else match funT.find? (fun f=>decide ((f.2.1:Int)=o)) with
     |some f=>(f.1++[40])++joinC (txtLs l)++[41]
     |none=>[]
noncomputable def txtAt:List XT→Nat→Nat→Bs8
 |[],_,_=>[]
 |x::_,0,lv=>txt x lv
 |_::l,i+1,lv=>txtAt l i lv
noncomputable def txtLs:List XT→List Bs8
 |[]=>[]
 |x::l=>txt x 1::txtLs l
end
theorem txtAt_get:∀{l:List XT} {i:Nat} {y:XT} (lv:Nat),l[i]? =some y→txtAt l i lv=txt y lv
 |[],i,y,lv,h=>by simp at h
 |x::l,0,y,lv,h=>by simp at h;subst h;rw[txtAt]
 |x::l,i+1,y,lv,h=>by rw[txtAt];exact txtAt_get lv (by simpa using h)
theorem txtLs_len:∀l:List XT,(txtLs l).length=l.length
 |[]=>by rw[txtLs];rfl
 |x::l=>by rw[txtLs,List.length_cons,txtLs_len,List.length_cons]
theorem txtLs_take:∀{l:List XT} {i:Nat} {y:XT},l[i]? =some y→(txtLs l).take (i+1)=(txtLs l).take i++[txt y 1]
 |[],i,y,h=>by simp at h
 |x::l,0,y,h=>by simp at h;subst h;rw[txtLs];rfl
 |x::l,i+1,y,h=>by
  have ih:=txtLs_take (l:=l) (i:=i) (y:=y) (by simpa using h)
  rw[txtLs,List.take_succ_cons,ih];rfl
mutual
def okX:XT→Prop
 | .mk o nm u l=>nodeE (.mk o nm u l)=0∧okXs l
def okXs:List XT→Prop
 |[]=>True
 |x::l=>okX x∧okXs l
end
theorem okX_parts{x:XT}(h:okX x):nodeE x=0∧okXs x.args:=by
 cases x with
 |mk o nm u l=>rw[okX] at h;exact h
theorem okXs_get:∀{l:List XT} {i:Nat} {y:XT},okXs l→l[i]? =some y→okX y
 |[],i,y,_,h=>by simp at h
 |x::l,0,y,hk,h=>by simp at h;subst h;rw[okXs] at hk;exact hk.1
 |x::l,i+1,y,hk,h=>by rw[okXs] at hk;exact okXs_get hk.2 (by simpa using h)
mutual
theorem chk_ok:∀(x:XT) (lv n:Nat),(chk x lv n).1=0→okX x
 | .mk o nm u l,lv,n,h=>by
   rw[chk] at h
   split at h
   ·cases h
   ·split at h
    ·cases h
    ·split at h
     ·rename_i h2;exact absurd h h2
     ·rename_i h2
      rw[okX]
      exact⟨by simpa using h2,chks_ok l (lv+1) (n+1) h⟩
theorem chks_ok:∀(l:List XT) (lv n:Nat),(chks l lv n).1=0→okXs l
 |[],lv,n,h=>by rw[okXs];trivial
 |x::l,lv,n,h=>by
  rw[chks] at h
  rw[okXs]
  split at h
  ·rename_i h2;exact absurd h h2
  ·rename_i h2
   exact⟨chk_ok x lv n (by simpa using h2),chks_ok l lv _ h⟩
end
def sepS(i:Nat):Bs8:=if i=0 then[] else[44,32]
theorem joinC_step{l:List XT}{i:Nat}{y:XT}(h:l[i]? =some y):joinC ((txtLs l).take (i+1))=joinC ((txtLs l).take i)++sepS i++txt y 1:=by
 rw[txtLs_take h,joinC_snoc]
 have hlt:i<l.length:=(List.getElem?_eq_some_iff.1 h).1
 have e:((txtLs l).take i=[])=(i=0):=by
  refine propext ⟨fun h1=>?_,fun h1=>by rw[h1];rfl⟩
  have h2:=congrArg List.length h1
  rw[List.length_take,txtLs_len,List.length_nil] at h2
  omega
 unfold sepS
 simp only[e]
theorem joinC_mono:∀(B A:List Bs8),(joinC A).length≤(joinC (A++B)).length
 |[],A=>by simp
 |b::B,A=>by
  have h1:=joinC_mono B (A++[b])
  rw[List.append_assoc] at h1
  refine Nat.le_trans ?_ h1
  rw[joinC_snoc]
  simp
theorem joinC_take_le(l:List XT)(i:Nat):(joinC ((txtLs l).take i)).length≤(joinC (txtLs l)).length:=by
 have:=joinC_mono ((txtLs l).drop i) ((txtLs l).take i)
 rwa [List.take_append_drop] at this
theorem txtLs_all(l:List XT):(txtLs l).take l.length=txtLs l:=List.take_of_length_le (by rw[txtLs_len];exact Nat.le_refl _)
abbrev GM(m:Int):Blk:=⟨some 0,3,[.int .i64 m],1,false⟩
end Go.Via
namespace Go.Proofs.YtfijbadahkmhbaaGreatDoor
open Go Go.RowKit Go.Via
def WriC(m:Int)(x:XT):Prop:=∀(z:XR x) (lv g:Nat) (a:Bool) (d:Bd),d.ok→okX x→x.fit=true→x.size≤1000000000→lv≤9→d.s.length+(txt x lv).length≤17179869184→
 ECall Tryz.prog 96 [BB g a d,BF d,gB z.T false,GM m] [.pointer (some ⟨g,0,none⟩),z.v,.int .i64 (lv:Nat)] (BdX (d.s++txt x lv)) (fun _=> .tuple #[]) (fun d'=>[BB g true d'.1,BF d'.1])
end Go.Proofs.YtfijbadahkmhbaaGreatDoor
namespace Go.Proofs.YtfijbadahkmhbaaGreatDoor
open Go Go.RowKit Go.Via Go.ChangeShapes Go.WideShapes
theorem below_kept{w w':World}(h:Below w.heap.size w w')(may:MemPlace→Prop):w.keptBut w' may:=by
 have hb:∀b,b<w.heap.size→w'.heap[b]? =w.heap[b]? :=h.block
 refine⟨h.os,h.output,fun i hi=>?_⟩
 rw[hb i hi]
 split
 ·rename_i e1 e2
  rw[e1] at e2;cases e2
  exact⟨rfl,rfl,rfl,fun _ _=>rfl⟩
 ·rename_i e1 e2
  rw[e1] at e2;cases e2
  exact Or.inr ⟨rfl,rfl⟩
 ·rfl
set_option maxRecDepth 100000 in
theorem maxCell{W:World}(h:W.ShapedOpen Tryz.prog):∃m:Int,BlkAt (Bs.of W) W (GM m) 0:=by
 obtain⟨cs,hh,hs,hr⟩:=h.1 0 #[.int .i64 0] 3 (of_decide_eq_true (by kernel_rfl)) (by kernel_rfl)
 obtain⟨ts,hts,_,hall⟩:=hr (by kernel_rfl)
 obtain rfl:ts=[3]:=Option.some.inj (hts.symm.trans (show Tryz.prog.cellTypes Tryz.prog.depth 3=some [3] by kernel_rfl))
 have h1:cs.size=1:=hs
 obtain⟨u,hu',hok⟩:=hall 0 cs[0] (by simp[h1])
 obtain rfl:u=3:=by simpa using hu'.symm
 unfold Cell.ok at hok
 rw[Tryz.underlying3] at hok
 cases hv:cs[0]<;>rw[hv] at hok<;>simp at hok
 case int k' n=>
  refine⟨n,.inl ⟨cs,⟨3,(0,0),hh,(fun h=>by cases h),(show 3<mapMark by decide)⟩,h1,?_⟩,fun h=>by cases h⟩
  obtain⟨l⟩:=cs
  match l,h1 with
  |[c],_=>
   simp at hv
   rw[hv,hok.1];rfl
theorem str_strU(s:ByteArray):s=strU s.data.toList:=by
 apply ByteArray.ext
 show s.data=_
 unfold strU
 simp
end Go.Proofs.YtfijbadahkmhbaaGreatDoor
namespace Go.Proofs.YtfijbadahkmhbaaGreatDoor
open Go.ChangeShapes Go.WideShapes Go.ChangeAt Go.RowKit
theorem own:ownKnob Tryz.prog.godebug=none:=by kernel_rfl
noncomputable def laidWorld(os:Os):World:=
 let w0:=World.holding Tryz.prog os ⟨#[],#[],[]⟩
 {w0 with heap:=(w0.heap.modify 2 fun
 | .cells _ t frozen=> .cells (List.map (Value.int .u8) ([128,191,160,191,128,159,144,191,128,143]++List.replicate 22 0)).toArray t frozen
 |o=>o).modify 1 fun
 | .cells _ t frozen=> .cells (List.map (fun(z:Nat)=>Value.int .u8 z) Go.Pinned.utf8FirstZ).toArray t frozen
 |o=>o}
set_option maxRecDepth 100000 in
theorem laid_met(os:Os)(args:Array Value):laidMet Tryz.prog [("unicode/utf8.acceptRanges",Rows.laid_unicode_utf8_acceptRanges),("unicode/utf8.first",Rows.laid_unicode_utf8_first)] ((laidWorld os).forCall (fun _ _=>0) ⟨#[],args,[]⟩).memory:=
 laidMet_of_run' 8 (by kernel_rfl) (by kernel_rfl)
end Go.Proofs.YtfijbadahkmhbaaGreatDoor
namespace Go.Via
open Go Go.RowKit
def NumV.bytes:NumV→Nat
 | .q r=>(mag r.num.natAbs).size+(dm r).size
 | .raw _ s1 _ s2=>s1.size+s2.size
theorem NumV.bytes_cells{u:NumV}{b1 b2:Bool}{s1 s2:ByteArray}(h:u.cells=[.bool b1,.string s1,.bool b2,.string s2]):s1.size+s2.size=u.bytes:=by
 cases u with
 |q r=>obtain⟨rfl,rfl,rfl,rfl⟩:=NumV.of_q h;rfl
 |raw c1 t1 c2 t2=>obtain⟨rfl,rfl,rfl,rfl⟩:=NumV.of_raw h;rfl
mutual
def XT.lim:XT→Bool
 | .mk _ nm u l=>decide (nm.length≤281474976710656)&&decide (u.bytes≤562949953421312)&&XT.lims l
def XT.lims:List XT→Bool
 |[]=>true
 |x::l=>XT.lim x&&XT.lims l
end
theorem XT.lims_get:∀{l:List XT} {i:Nat} {y:XT},XT.lims l=true→l[i]? =some y→y.lim=true
 |[],i,y,_,h=>by simp at h
 |x::l,0,y,hl,h=>by simp at h;subst h;rw[XT.lims,Bool.and_eq_true] at hl;exact hl.1
 |x::l,i+1,y,hl,h=>by rw[XT.lims,Bool.and_eq_true] at hl;exact XT.lims_get hl.2 (by simpa using h)
theorem XT.lim_parts{x:XT}(h:x.lim=true):x.name.length≤281474976710656∧x.num.bytes≤562949953421312∧XT.lims x.args=true:=by
 cases x with
 |mk o nm u l=>
  unfold XT.lim at h
  simp only[Bool.and_eq_true,decide_eq_true_eq] at h
  exact⟨h.1.1,h.1.2,h.2⟩
def bigX(x:XT)(lv:Nat)(n:Int):Bool:=decide (n<0)||(decide (40<lv)||(decide (4<x.args.length)||(decide (60<x.name.length)||decide (20<x.num.bytes))))
mutual
def few:XT→Nat→Int→Bool×Int
 | .mk o nm u l,lv,n=>if bigX (.mk o nm u l) lv (n-1)=true then(false,n-1) else fews l (lv+1) (n-1)
def fews:List XT→Nat→Int→Bool×Int
 |[],_,n=>(true,n)
 |x::l,lv,n=>if(few x lv n).1=true then fews l lv (few x lv n).2 else few x lv n
end
theorem few_eq(x:XT)(lv:Nat)(n:Int):few x lv n=if bigX x lv (n-1)=true then(false,n-1) else fews x.args (lv+1) (n-1):=by
 cases x;rw[few];rfl
theorem fews_step{l:List XT}{i:Nat}{y:XT}{lv:Nat}{n:Int}(hy:l[i]? =some y):fews (l.drop i) lv n=if(few y lv n).1=true then fews (l.drop (i+1)) lv (few y lv n).2 else few y lv n:=by
 obtain⟨hl,rfl⟩:=List.getElem?_eq_some_iff.1 hy
 rw[List.drop_eq_getElem_cons hl,fews]
mutual
def XT.dep:XT→Nat
 | .mk _ _ _ l=>1+XT.deps l
def XT.deps:List XT→Nat
 |[]=>0
 |x::l=>max (XT.dep x) (XT.deps l)
end
mutual
theorem few_ok:∀(x:XT) (lv:Nat) (n:Int),(few x lv n).1=true→x.fit=true∧(few x lv n).2+(x.size:Nat)=n∧0≤(few x lv n).2∧x.dep+lv≤41
 | .mk o nm u l,lv,n,h=>by
   rw[few] at h ⊢
   split at h
   ·cases h
   ·rename_i hb
    rw[if_neg hb]
    have hb2:bigX (.mk o nm u l) lv (n-1)=false:=by simpa using hb
    simp only[bigX,Bool.or_eq_false_iff,decide_eq_false_iff_not] at hb2
    obtain⟨h0,h1,h2,h3,h4⟩:=hb2
    have hl:=fews_ok l (lv+1) (n-1) (by omega) h
    obtain⟨a1,a2,a3,a4⟩:=hl
    have hnm:nm.length≤60:=by have:¬60<nm.length:=h3;omega
    have hu:u.bytes≤20:=by have:¬20<u.bytes:=h4;omega
    refine⟨?_,?_,a3,?_⟩
    ·unfold XT.fit
     rw[a1]
     have:u.fit=true:=by
      cases u with
      |q r=>
       show decide (szQ r≤1000000)=true
       refine decide_eq_true ?_
       replace hu:(mag r.num.natAbs).size+(dm r).size≤20:=hu
       rw[mag_size] at hu
       unfold szQ
       have h5:nb r.den≤20:=by
        have h6:(dm r).size≤20:=by omega
        unfold dm at h6
        split at h6
        ·rename_i hd
         rw[hd]
         have:nb 1≤1:=nb_le (k:=1) (by decide)
         omega
        ·rwa [mag_size] at h6
       omega
      |raw b1 s1 b2 s2=>
       replace hu:s1.size+s2.size≤20:=hu
       simp only[NumV.fit,Bool.and_eq_true,decide_eq_true_eq]
       omega
     rw[this]
     simp;omega
    ·rw[XT.size];omega
    ·rw[XT.dep]
     have:¬40<lv:=h1
     by_cases he:XT.deps l=0
     ·omega
     ·have:=a4 he;omega
theorem fews_ok:∀(l:List XT) (lv:Nat) (n:Int),0≤n→(fews l lv n).1=true→XT.fits l=true∧(fews l lv n).2+(XT.sizes l:Nat)=n∧0≤(fews l lv n).2∧(XT.deps l≠0→XT.deps l+lv≤41)
 |[],lv,n,h0,h=>by rw[fews,XT.sizes,XT.deps];exact⟨rfl,by omega,h0,fun h=>absurd rfl h⟩
 |x::l,lv,n,h0,h=>by
  rw[fews] at h ⊢
  split at h
  ·rename_i hx
   rw[if_pos hx]
   obtain⟨a1,a2,a3,a4⟩:=few_ok x lv n hx
   obtain⟨b1,b2,b3,b4⟩:=fews_ok l lv _ a3 h
   rw[XT.fits,XT.sizes,XT.deps,a1,b1]
   refine⟨rfl,by omega,b3,fun _=>?_⟩
   by_cases he:XT.deps l=0
   ·omega
   ·have:=b4 he;omega
  ·rename_i hx;exact absurd h hx
end
theorem few_le(x:XT)(lv:Nat)(n:Int)(h:(few x lv n).1=true):(few x lv n).2≤n:=by have:=few_ok x lv n h;omega
end Go.Via
namespace Go.Proofs.YtfijbadahkmhbaaGreatDoor
open Go Go.RowKit Go.Via Go.ChangeShapes Go.WideShapes
theorem choose_n{α:Type}(a0:α){n:Nat}{p:Nat→α→Prop}(h:∀i,i<n→∃x,p i x):∃f:Nat→α,∀i,i<n→p i (f i):=by
 classical
 refine⟨fun i=>if h':i<n then Classical.choose (h i h') else a0,fun i hi=>?_⟩
 show p i (if h':i<n then Classical.choose (h i h') else a0)
 rw[dif_pos hi]
 exact Classical.choose_spec (h i hi)
theorem blk_flat{w:World}{a:Addr}{cs:List Value}(e:TypeId)(he:e<mapMark)(hne:cs≠[])(h:∀(j:Nat) (v:Value),cs[j]? =some v→w.cell? (a.add j)=some v):
 ∃(g:Nat) (pre:List Value) (N:Nat),a=⟨g,pre.length,none⟩∧BlkAt (Bs.of w) w ⟨some g,e,pre++cs,N,false⟩ g:=by
 obtain⟨c0,l,rfl⟩:=List.exists_cons_of_ne_nil hne
 have h0:=h 0 c0 rfl
 rw[show a.add 0=a by simp[Addr.add]] at h0
 obtain⟨g,off,spot⟩:=a
 have h0':=h0
 unfold World.cell? at h0'
 split at h0'
 ·rename_i cur e0 fr heq
  split at h0'
  ·cases h0'
  ·rename_i hsp
   have hsn:spot=none:=by cases spot with|none=>rfl|some z=>simp at hsp
   subst hsn
   have hoff:off<cur.size:=(Array.getElem?_eq_some_iff.1 h0').1
   have hpl:(cur.toList.take off).length=off:=by simp;omega
   refine⟨g,cur.toList.take off,cur.size,by rw[hpl],?_⟩
   refine⟨.inl ⟨cur,⟨e0,fr,heq,(fun h=>by cases h),he⟩,rfl,?_⟩,fun h=>by cases h⟩
   refine List.ext_getElem? fun j=>?_
   show(cur.toList.take (cur.toList.take off++c0::l).length)[j]? =_
   rw[List.length_append,hpl]
   by_cases hj:j<off
   ·rw[List.getElem?_append_left (by rw[hpl];exact hj),List.getElem?_take,List.getElem?_take,if_pos (by omega),if_pos hj]
   ·rw[List.getElem?_append_right (by rw[hpl];omega),hpl,List.getElem?_take]
    split
    ·rename_i hj2
     obtain⟨v,hv⟩:∃v,(c0::l)[j-off]? =some v:=⟨_,List.getElem?_eq_getElem (by omega)⟩
     have k2:=h _ _ hv
     rw[add_lit] at k2
     unfold World.cell? at k2
     simp only[heq] at k2
     rw[show off+(j-off)=j by omega] at k2
     rw[hv,←k2]
     simp
    ·rename_i hj2
     rw[List.getElem?_eq_none (by omega)]
 ·cases h0'
theorem flat_len{f:Nat→List Value}{k:Nat}:∀{n:Nat},(∀i,i<n→(f i).length=k)→((List.range n).flatMap f).length=n*k
 |0,_=>by simp
 |n+1,h=>by rw[List.range_succ,List.flatMap_append,List.length_append,flat_len (n:=n) (fun i hi=>h i (by omega))];simp[h n (by omega)];rw[Nat.succ_mul]
theorem cells_flat{w:World}{a:Addr}{k n:Nat}{f:Nat→List Value}(hf:∀i,i<n→w.cells? 0 (a.add (i*k)) k=some (f i))(hk:∀i,i<n→(f i).length=k)(h0:0<k):
 ∀(j:Nat) (v:Value),((List.range n).flatMap f)[j]? =some v→w.cell? (a.add j)=some v:=by
 induction n with
 |zero=>intro j v h;simp at h
 |succ n ih=>
  intro j v h
  rw[List.range_succ,List.flatMap_append] at h
  have hl:=flat_len (f:=f) (k:=k) (n:=n) (fun i hi=>hk i (by omega))
  by_cases hj:j<n*k
  ·rw[List.getElem?_append_left (by rw[hl];exact hj)] at h
   exact ih (fun i hi=>hf i (by omega)) (fun i hi=>hk i (by omega)) j v h
  ·rw[List.getElem?_append_right (by rw[hl];omega),hl] at h
   simp only[List.flatMap_cons,List.flatMap_nil,List.append_nil] at h
   have hjl:j-n*k<k:=by
    have:=(List.getElem?_eq_some_iff.1 h).1
    rwa [hk n (by omega)] at this
   obtain⟨_,_,hc⟩:=World.cells?_some (hf n (by omega))
   have:=hc (j-n*k) hjl
   rw[h,Addr.add_add] at this
   rw[←this]
   congr 2
   omega
theorem flat_get{f:Nat→List Value}{k:Nat}:∀{n i:Nat},(∀i,i<n→(f i).length=k)→i<n→(((List.range n).flatMap f).drop (i*k)).take k=f i
 |0,i,_,hi=>by omega
 |n+1,i,h,hi=>by
  have hl:=flat_len (f:=f) (k:=k) (n:=n) (fun i hi=>h i (by omega))
  rw[List.range_succ,List.flatMap_append]
  by_cases e:i=n
  ·subst e
   rw[List.drop_append,List.drop_eq_nil_of_le (by rw[hl];exact Nat.le_refl _),hl,Nat.sub_self,List.drop_zero,List.nil_append]
   simp only[List.flatMap_cons,List.flatMap_nil,List.append_nil]
   exact List.take_of_length_le (by rw[h i (by omega)];exact Nat.le_refl _)
  ·have hle:(i+1)*k≤n*k:=Nat.mul_le_mul_right _ (by omega)
   rw[Nat.succ_mul] at hle
   rw[List.drop_append_of_le_length (by rw[hl];omega),List.take_append_of_le_length (by rw[List.length_drop,hl];omega)]
   exact flat_get (n:=n) (fun i hi=>h i (by omega)) (by omega)
theorem relAll{W:World}{L:List Blk}(ho:∀b∈L,b.own=false)(h:∀b∈L,(∀g,b.base=some g→BlkAt (Bs.of W) W b g)∧(b.base=none→b.cs=[]∧b.n=0∧∀T:Tab,gtOK T=true→b.e=gE T→∀p∈T,TabCell W p)):LRel (Bs.of W) L W:=by
 refine⟨BelowB.of (Below.refl _ _),fun k b hk=>?_,fun i j g bi bj hij hi hj hio=>?_,fun b hb hn T hT he p hp=>?_⟩
 ·have:=h b (List.mem_of_getElem? hk)
  exact⟨this.1,fun hn=>⟨(this.2 hn).1,(this.2 hn).2.1⟩⟩
 ·rw[ho bi (List.mem_of_getElem? hi)] at hio;cases hio
 ·refine⟨((h b hb).2 hn).2.2 T hT he p hp,fun hbo=>?_,fun c hc hco=>?_⟩
  ·rw[ho b hb] at hbo;cases hbo
  ·rw[ho c hc] at hco;cases hco
theorem tab_blk{W:World}{T:Tab}(hT:gtOK T=true)(h:∀p∈T,TabCell W p):∀U:Tab,gtOK U=true→gE T=gE U→∀p∈U,TabCell W p:=fun U hU he p hp=>by
 rw[←gE_inj hT hU he] at hp
 exact h p hp
section
variable{H:Type}{enc:TypeId×Value→H}{w:World}
abbrev wOK(t:TypeId)(d:DataW H):Prop:=(d.weights Tryz.prog t).all (· ≤reachBytes)=true
theorem ce3:Tryz.prog.cellsOf 3=1:=by kernel_rfl
theorem ce4:Tryz.prog.cellsOf 4=1:=by kernel_rfl
theorem ce9:Tryz.prog.cellsOf 9=1:=by kernel_rfl
theorem ce25:Tryz.prog.cellsOf 25=2:=by kernel_rfl
theorem ce27:Tryz.prog.cellsOf 27=4:=by kernel_rfl
theorem ce28:Tryz.prog.cellsOf 28=1:=by kernel_rfl
theorem ce30:Tryz.prog.cellsOf 30=7:=by kernel_rfl
theorem w9{s:List UInt8}(h:wOK (H:=H) 9 (.lit (.string s))):s.length≤140737488351232:=by
 have:=h
 simp[wOK,DataW.weights,reachBytes] at this
 exact of_decide_eq_true this
theorem w25{a b:DataW H}(h:wOK 25 (.agg [a,b])):wOK 9 b:=by
 simp[wOK,DataW.weights,DataW.weightsEach,Tryz.underlying25] at h ⊢
 exact h.2
theorem w27{a b:DataW H}(h:wOK 27 (.agg [a,b])):wOK 25 a∧wOK 25 b:=by
 simp[wOK,DataW.weights,DataW.weightsEach,Tryz.underlying27] at h ⊢
 exact h
theorem w30{a b c e:DataW H}(h:wOK 30 (.agg [a,b,c,e])):wOK 9 b∧wOK 27 c∧wOK 28 e:=by
 simp[wOK,DataW.weights,DataW.weightsEach,Tryz.underlying30] at h ⊢
 exact h.2
theorem wAll{t:TypeId}:∀{l:List (DataW H)},(DataW.weightsAll Tryz.prog t l).all (· ≤reachBytes)=true→∀d∈l,wOK t d
 |[],_,d,hd=>by cases hd
 |a::l,h,d,hd=>by
  rw[DataW.weightsAll,List.all_append,Bool.and_eq_true] at h
  rcases List.mem_cons.1 hd with rfl|hd
  ·exact h.1
  ·exact wAll h.2 d hd
theorem w28{l s:List (DataW H)}(h:wOK 28 (.slice l s)):∀d∈l,wOK 30 d:=by
 unfold wOK at h
 rw[DataW.weights,Tryz.underlying28] at h
 simp only[List.all_cons,List.all_append,Bool.and_eq_true] at h
 exact wAll h.2.1
theorem o25{base:Nat}{sp:Nat→Bool}{hd:Bool}{fuel:Nat}{cs:List Value}{x:DataW H×List MemPlace}(h:DataW.trod enc Tryz.prog w base sp hd fuel 25 cs=some x):
 ∃b s,cs=[.bool b,.string s]∧x.1= .agg [.lit (.bool b),.lit (.string s.data.toList)]:=by
 obtain⟨xs,n,_,rfl,hl,hlen,hf⟩:=DataW.trod_struct Tryz.underlying25 h
 rw[ce25] at hl
 match cs,hl,xs,hlen with
 |[c0,c1],_,[y0,y1],_=>
  have f0:DataW.trod enc Tryz.prog w base sp hd n 4 ((([c0,c1]:List Value).drop 0).take (Tryz.prog.cellsOf 4))=some y0:=hf 0 _ rfl
  have f1:DataW.trod enc Tryz.prog w base sp hd n 9 ((([c0,c1]:List Value).drop 1).take (Tryz.prog.cellsOf 9))=some y1:=hf 1 _ rfl
  rw[ce4] at f0
  rw[ce9] at f1
  obtain⟨b,e0,rfl⟩:=DataW.trod_bool Tryz.underlying4 f0
  obtain⟨s,e1,rfl,_⟩:=DataW.trod_string Tryz.underlying9 f1
  simp at e0 e1
  exact⟨b,s,by rw[e0,e1],rfl⟩
theorem o27{base:Nat}{sp:Nat→Bool}{hd:Bool}{fuel:Nat}{cs:List Value}{x:DataW H×List MemPlace}(h:DataW.trod enc Tryz.prog w base sp hd fuel 27 cs=some x)(hw:wOK 27 x.1):
 ∃b1 s1 b2 s2,cs=[.bool b1,.string s1,.bool b2,.string s2]∧s1.size≤140737488351232∧s2.size≤140737488351232:=by
 obtain⟨xs,n,_,rfl,hl,hlen,hf⟩:=DataW.trod_struct Tryz.underlying27 h
 rw[ce27] at hl
 match cs,hl,xs,hlen with
 |[c0,c1,c2,c3],_,[y0,y1],_=>
  have f0:DataW.trod enc Tryz.prog w base sp hd n 25 ((([c0,c1,c2,c3]:List Value).drop 0).take (Tryz.prog.cellsOf 25))=some y0:=hf 0 _ rfl
  have f1:DataW.trod enc Tryz.prog w base sp hd n 25 ((([c0,c1,c2,c3]:List Value).drop 2).take (Tryz.prog.cellsOf 25))=some y1:=hf 1 _ rfl
  rw[ce25] at f0 f1
  obtain⟨b1,s1,e0,q0⟩:=o25 f0
  obtain⟨b2,s2,e1,q1⟩:=o25 f1
  have hw2:=w27 hw
  dsimp only at hw2
  rw[q0,q1] at hw2
  simp at e0 e1
  exact⟨b1,s1,b2,s2,by rw[e0.1,e0.2,e1.1,e1.2],w9 (w25 hw2.1),w9 (w25 hw2.2)⟩
theorem agr_hole(pre cs:List Value):Agr (List.replicate pre.length hole++cs) (pre++cs):=by
 refine⟨by simp,fun j v hj hv=>?_⟩
 by_cases h:j<pre.length
 ·rw[List.getElem?_append_left (by simpa using h),List.getElem?_replicate,if_pos h] at hj
  cases hj;cases hv
 ·rw[List.getElem?_append_right (by simp;omega),List.length_replicate] at hj
  rw[List.getElem?_append_right (by omega)];exact hj
theorem hole_simple{n:Nat}{cs:List Value}(h:cs.all Value.simpleT=true):(List.replicate n hole++cs).all Value.simpleT=true:=by
 rw[List.all_append,h,Bool.and_true]
 exact List.all_eq_true.2 fun v hv=>by rw[List.eq_of_mem_replicate hv];rfl
theorem flat_simple{f:Nat→List Value}:∀{l:List Nat},(∀i∈l,(f i).all Value.simpleT=true)→(l.flatMap f).all Value.simpleT=true
 |[],_=>rfl
 |a::l,h=>by rw[List.flatMap_cons,List.all_append,h a (by simp),flat_simple (l:=l) fun i hi=>h i (by simp[hi])];rfl
def Opn(w:World)(cs:List Value)(q:XT×Tab):Prop:=gtOK q.2=true∧RepX q.2 q.1 cs∧(∀p∈q.2,TabCell w p)∧q.1.lim=true
theorem lims_map{X:Nat→XT}:∀{l:List Nat},(∀i∈l,(X i).lim=true)→XT.lims (l.map X)=true
 |[],_=>rfl
 |a::l,h=>by rw[List.map_cons,XT.lims,h a (by simp),lims_map (l:=l) fun i hi=>h i (by simp[hi])];rfl
theorem gtOK_flat{f:Nat→Tab}:∀{l:List Nat},(∀i∈l,gtOK (f i)=true)→gtOK (l.flatMap f)=true
 |[],_=>rfl
 |a::l,h=>by rw[List.flatMap_cons,gtOK_append,h a (by simp),gtOK_flat (l:=l) fun i hi=>h i (by simp[hi])];rfl
theorem oX:∀(fuel:Nat) (cs:List Value) (x:DataW H×List MemPlace),DataW.trod enc Tryz.prog w 0 (fun _=>true) true fuel 30 cs=some x→wOK 30 x.1→∃q,Opn w cs q:=by
 intro fuel
 induction fuel using Nat.strongRecOn with
 |_ fuel ih=>
  intro cs x h hw
  obtain⟨xs,n,hn,rfl,hl,hlen,hf⟩:=DataW.trod_struct Tryz.underlying30 h
  rw[ce30] at hl
  match cs,hl,xs,hlen with
  |[c0,c1,c2,c3,c4,c5,c6],_,[y0,y1,y2,y3],_=>
   have f0:DataW.trod enc Tryz.prog w 0 (fun _=>true) true n 3 ((([c0,c1,c2,c3,c4,c5,c6]:List Value).drop 0).take (Tryz.prog.cellsOf 3))=some y0:=hf 0 _ rfl
   have f1:DataW.trod enc Tryz.prog w 0 (fun _=>true) true n 9 ((([c0,c1,c2,c3,c4,c5,c6]:List Value).drop 1).take (Tryz.prog.cellsOf 9))=some y1:=hf 1 _ rfl
   have f2:DataW.trod enc Tryz.prog w 0 (fun _=>true) true n 27 ((([c0,c1,c2,c3,c4,c5,c6]:List Value).drop 2).take (Tryz.prog.cellsOf 27))=some y2:=hf 2 _ rfl
   have f3:DataW.trod enc Tryz.prog w 0 (fun _=>true) true n 28 ((([c0,c1,c2,c3,c4,c5,c6]:List Value).drop 6).take (Tryz.prog.cellsOf 28))=some y3:=hf 3 _ rfl
   rw[ce3] at f0;rw[ce9] at f1;rw[ce27] at f2;rw[ce28] at f3
   obtain⟨hw1,hw2,hw3⟩:=w30 hw
   obtain⟨op,e0,_,_⟩:=DataW.trod_int Tryz.underlying3 f0
   obtain⟨s,e1,q1,_⟩:=DataW.trod_string Tryz.underlying9 f1
   rw[q1] at hw1
   have hs:=w9 hw1
   obtain⟨b1,s1,b2,s2,e2,hs1,hs2⟩:=o27 f2 hw2
   simp at e0 e1 e2
   have hnm:strU s.data.toList=s:=(str_strU s).symm
   have hlim:∀l:List XT,XT.lims l=true→(XT.mk op s.data.toList (.raw b1 s1 b2 s2) l).lim=true:=fun l hll=>by
    unfold XT.lim
    rw[hll]
    show(decide (_≤_)&&decide (s1.size+s2.size≤_)&&true)=true
    have hsz:s.data.toList.length=s.size:=Array.length_toList
    rw[Bool.and_true,Bool.and_eq_true]
    exact⟨decide_eq_true (by omega),decide_eq_true (by omega)⟩
   rcases DataW.trod_slice Tryz.underlying28 f3 with⟨h1,h2⟩|⟨a,len,cap,elems,rest,m,hm,h1,h2,_,hlc,_,hel,hx,_,_⟩
   ·have h1':c6= .slice none 0 0:=by simpa using h1
    refine⟨(.mk op s.data.toList (.raw b1 s1 b2 s2) [],[]),rfl,?_,(fun p hp=>by cases hp),hlim [] rfl⟩
    have:=RepX.mk (T:=[]) (op:=op) (name:=s.data.toList) (num:= .raw b1 s1 b2 s2) (args:=[]) (a:=none) (cap:=0) .nil (Nat.le_refl _)
    unfold xcells at this
    rw[hnm] at this
    rw[e0,e1,e2.1,e2.2.1,e2.2.2.1,e2.2.2.2,h1']
    exact this
   ·have h1':c6= .slice (some a) len cap:=by simpa using h1
    rw[h2] at hw3
    have hwe:=w28 hw3
    rw[ce30] at hx
    obtain⟨F,hF⟩:=choose_n (α:=List Value×XT×Tab) ([],.mk 0 [] (.q 0) [],[]) (n:=len) (p:=fun i q=>w.cells? 0 (a.add (i*7)) 7=some q.1∧Opn w q.1 q.2) (fun i hi=>by
 obtain⟨y,hy⟩:∃y,elems[i]? =some y:=⟨_,List.getElem?_eq_getElem (by omega)⟩
 have hxi:=hx i hi
 rw[hy] at hxi
 obtain⟨row,r1,r2⟩:=Option.bind_eq_some_iff.1 hxi
 obtain⟨q,hq⟩:=ih m (by omega) row y r2 (hwe y.1 (List.mem_map.2 ⟨y,List.mem_of_getElem? hy,rfl⟩))
 exact⟨(row,q.1,q.2),r1,hq⟩)
    have hrow:∀i,i<len→(F i).1.length=7:=fun i hi=>(hF i hi).2.2.1.length
    by_cases h0:len=0
    ·subst h0
     refine⟨(.mk op s.data.toList (.raw b1 s1 b2 s2) [],[]),rfl,?_,(fun p hp=>by cases hp),hlim [] rfl⟩
     have:=RepX.mk (T:=[]) (op:=op) (name:=s.data.toList) (num:= .raw b1 s1 b2 s2) (args:=[]) (a:=some a) (cap:=cap) .nil (Nat.zero_le _)
     unfold xcells at this
     rw[hnm] at this
     rw[e0,e1,e2.1,e2.2.1,e2.2.2.1,e2.2.2.2,h1']
     exact this
    ·have hne:(List.range len).flatMap (fun i=>(F i).1)≠[]:=fun e=>by
      have:=congrArg List.length e
      rw[flat_len hrow] at this
      simp at this
      omega
     obtain⟨g,pre,N,rfl,hB⟩:=blk_flat (w:=w) (a:=a) 30 (by decide) hne (cells_flat (fun i hi=>(hF i hi).1) hrow (by decide))
     have hc:=hB.cells (.inr (by intro e;exact hne (List.append_eq_nil_iff.1 e).2))
     obtain⟨cur,⟨e',fr,k1,_,_⟩,k2,k3⟩:=hc
     have hfl:=flat_len (f:=fun i=>(F i).1) (k:=7) (n:=len) hrow
     refine⟨(.mk op s.data.toList (.raw b1 s1 b2 s2) ((List.range len).map fun i=>(F i).2.1),(g,List.replicate pre.length hole++(List.range len).flatMap fun i=>(F i).1)::(List.range len).flatMap fun i=>(F i).2.2),?_,?_,?_,?_⟩
     ·rw[gtOK_cons,hole_simple (flat_simple fun i hi=>(hF i (List.mem_range.1 hi)).2.2.1.simple),gtOK_flat fun i hi=>(hF i (List.mem_range.1 hi)).2.1];rfl
     ·have hL:=RepL.of_row (T:=(g,List.replicate pre.length hole++(List.range len).flatMap fun i=>(F i).1)::(List.range len).flatMap fun i=>(F i).2.2) (g:=g) (cs:=List.replicate pre.length hole++(List.range len).flatMap fun i=>(F i).1) (by simp) ((List.range len).map fun i=>(F i).2.1) pre.length fun i x hx=>by
       have hi:i<len:=by have:=(List.getElem?_eq_some_iff.1 hx).1;simpa using this
       rw[List.getElem?_map,List.getElem?_range hi] at hx
       have hx:(F i).2.1=x:=by simpa using hx
       rw[←hx,List.drop_append,List.drop_eq_nil_of_le (by simp),List.length_replicate,List.nil_append,show pre.length+i*7-pre.length=i*7 by omega,flat_get (f:=fun i=>(F i).1) hrow hi]
       exact(hF i hi).2.2.1.mono fun p hp=>List.mem_cons_of_mem _ (List.mem_flatMap.2 ⟨i,List.mem_range.2 hi,hp⟩)
      have:=RepX.mk (op:=op) (name:=s.data.toList) (num:= .raw b1 s1 b2 s2) (cap:=cap) hL (by simpa using hlc)
      unfold xcells at this
      rw[hnm] at this
      rw[e0,e1,e2.1,e2.2.1,e2.2.2.1,e2.2.2.2,h1']
      rw[List.length_map,List.length_range] at this
      exact this
     ·intro p hp
      rcases List.mem_cons.1 hp with rfl|hp
      ·refine .inl ⟨cur,e',fr,k1,.inl ⟨noTy_len (by simp only[List.length_append,hfl];omega),?_⟩⟩
       have hll:(List.replicate pre.length hole++(List.range len).flatMap fun i=>(F i).1).length=(pre++(List.range len).flatMap fun i=>(F i).1).length:=by simp
       show Agr _ (cur.toList.take (List.replicate pre.length hole++(List.range len).flatMap fun i=>(F i).1).length)
       rw[hll,k3]
       exact agr_hole _ _
      ·obtain⟨i,hi,hp⟩:=List.mem_flatMap.1 hp
       exact(hF i (List.mem_range.1 hi)).2.2.2.1 p hp
     ·exact hlim _ (lims_map fun i hi=>(hF i (List.mem_range.1 hi)).2.2.2.2)
end
end Go.Proofs.YtfijbadahkmhbaaGreatDoor
namespace Go.Proofs.YtfijbadahkmhbaaGreatDoor
open Go Go.RowKit Go.Via
theorem c_Variables_1{x:XT}(z:XR x)(lv gv:Nat){l:List Bs8}(s:SRw l)(hl:l.length+1≤17179869184):ECall Tryz.prog 54 [VV gv s,VR s] [z.v,.int .i64 (lv:Nat),.pointer (some ⟨gv,0,none⟩)] (SRw (l++(if x.op=4 then[x.name] else[]))) (fun _=> .tuple #[]) (fun s1=>[VV gv s1,VR s1]):=by
 refine⟨by kernel_rfl,fun B w hD hL0=>?_⟩;refine cB3 13 Tryz.func54 hL0 ?_;refine A2 ?_;refine Bo [_,_,_,_,_,_,_] 7 (fun g=>[_,_,⟨some g,30,_,7,true⟩]) (fun g0=>?_);refine A6 ?_;refine r_know 6 (.int .i64 x.op) rfl (by rw[z.inv.1]) ?_;refine A3 ?_;refine Cd ?_ ?_<;>intro hb0
 ·have hop:x.op=4:=by simpa using hb0
  refine A4 ?_;refine r_know 10 (.string (strU x.name)) rfl (by rw[z.inv.2.1]) ?_;refine r_buildSlice [(0,_)] (fun g=>[_,_,_,⟨some g,9,_,1,true⟩]) rfl rfl rfl (bs36_1) rfl (fun _=>rfl) (fun g1=>?_);refine q_append (b:=VR s) (len:=l.length) (cap:=s.cap) (n2:=1) 1 3 (fun r=>[_,⟨some r.g,9,SB l++[.string (strU x.name)],r.n,true⟩,_,_]) u36 el9 rfl rfl rfl rfl rfl rfl rfl rfl rfl rfl rfl rfl (by rw[SB_length,Nat.mul_one]) s.h1 (by rw[Nat.mul_one];exact s.h2) rfl (fun v hv=>by rw[List.mem_singleton.1 hv];rfl) hl (fun r=>rfl) (fun r=>?_);refine So 0 0 [⟨some gv,36,_,1,true⟩,_,_,_] [_] ?_;refine A1 ?_
  refine at_end0n rfl (fun w hL=>by
 refine⟨(SRw.add x.name r).cast (by rw[if_pos hop]),rfl,?_⟩;(try dsimp only);rw[SRw.cast_blk];exact SRw.add_blk x.name r s gv hL)
 ·have hop:x.op≠4:=by simpa using hb0
  refine A1 ?_
  refine at_end0n rfl (fun w hL=>by
 refine⟨s.cast (by rw[if_neg hop,List.append_nil]),rfl,?_⟩;(try dsimp only);rw[SRw.cast_blk];exact hL.pk [some 0,some 1])
theorem c_each_stepV{x:XT}(z:XR x)(gv:Nat)(H:∀y:XT,y.size<x.size→EachV gv y)(lv:Nat){l:List Bs8}(s:SRw l)(hM:l.length+x.size≤1000000000)(hN:lv+x.size≤1099511627776):ECall Tryz.prog 51 [VV gv s,VR s,gB z.T false] [z.v,.int .i64 (lv:Nat),.func (.func 54) #[] #[.pointer (some ⟨gv,0,none⟩)]] (SRw (l++varsL x)) (fun _=> .tuple #[]) (fun s1=>[VV gv s1,VR s1]):=by
 refine⟨by kernel_rfl,fun B w hD hL0=>?_⟩;obtain⟨h1,h2,h3,h4,h5,h6⟩:=z.inv;have hsz:=x.size_eq;have hal:=XT.len_sizes x.args
 have hite:(if x.op=4 then[x.name] else[]).length≤1:=by split<;>simp
 refine cB3 25 Tryz.func51 hL0 ?_;refine A2 ?_;refine Bo [_,_,_,_,_,_,_] 7 (fun g=>[_,_,_,⟨some g,30,_,7,true⟩]) (fun g0=>?_);refine A3 ?_;refine at_regionM ?_;refine A1 ?_;refine Ld 3 0 [_,_,_,_,_,_,_] ti30 ?_;refine Kr 9 (z.v) ?_;refine A1 ?_;refine r_gfcallM (f:=54) (A:=[VV gv s,VR s]) (C:=[]) [z.v,.int .i64 (lv:Nat)] [.pointer (some ⟨gv,0,none⟩)] [0,1] [] (fun s1=>[VV gv s1,VR s1,_,_]) rfl rfl rfl rfl rfl (c_Variables_1 z lv gv s (by omega)) (by decide) rfl rfl trivial rfl rfl (fun _=>rfl) (fun _=>allOwn rfl) (fun _=>rfl) (fun s1=>?_);refine A11 ?_;refine El (ι:={q:Nat×(m:List Bs8)×SRw m // q.1≤x.args.length∧l++varsL x=q.2.1++varsLs (x.args.drop q.1)∧q.2.1.length+XT.sizes (x.args.drop q.1)≤1000000000}) (fun⟨⟨i,m,s2⟩,hi,hI,hB⟩=>([(1,.int .i64 (lv:Nat)),(2,.func (.func 54) #[] #[.pointer (some ⟨gv,0,none⟩)]),(13,.slice z.a z.n z.cap),(14,.int .i64 (z.n:Nat)),(15,.int .i64 (i:Nat))],[VV gv s2,VR s2,gB z.T false],x.args.length-i)) ⟨(0,⟨_,s1⟩),Nat.zero_le _,by rw[varsL_eq,List.append_assoc];rfl,by rw[List.length_append];show _+XT.sizes x.args≤_;omega⟩ ?_ (hL:=Weak.auto);rintro⟨⟨i,m,s2⟩,hi,hI,hB⟩;(try dsimp only);dsimp only at hi hI hB;refine A6 ?_;refine Cd ?_ ?_<;>intro hb1
 ·have hlt:i<x.args.length:=by have:=of_decide_eq_true hb1;omega
  obtain⟨y,hy⟩:∃y,x.args[i]? =some y:=⟨x.args[i],List.getElem?_eq_getElem hlt⟩;obtain⟨ga,oa,ca,u,hza,hma,hra,hTa,hna⟩:=z.arg hy;have hsd:=XT.sizes_drop hy;have hyg:=XT.sizes_get hy;refine A6 ?_;refine r_indexAddrG (gg:=ga) (len:=z.n) (cap:=z.cap) (oa+i*7) u28 ti30 rfl rfl (congrArg (fun a=>some (Value.slice a z.n z.cap)) hza) rfl (by omega) (by omega) (by show oa+Int.toNat _*7=_;omega) ?_;refine r_loadT (v:=u.v) 2 (oa+i*7) u.cs rfl rfl rfl z.hT hma hna rfl ti30 hra rfl rfl rfl ?_;refine r_alloc [_,_,_,_,_,_,_] 7 (fun g=>[_,_,_,⟨some g,30,_,7,true⟩]) rfl rfl z30 rfl rfl (fun _=>rfl) (fun g1=>?_);refine So 3 0 [_,_,_,⟨some g1,30,_,7,true⟩] [_,_,_,_,_,_,_] ?_;refine A2 ?_;refine at_regionM ?_;refine Ld 3 0 [_,_,_,_,_,_,_] ti30 ?_;refine Kr 19 (u.v) ?_;refine A1 ?_;refine Ar (((lv+1:Nat):Int)) ?_;refine A1 ?_;refine Gm 2 [0,1] [2] (fun s3=>[VV gv s3,VR s3,_,_]) (by have h:=H y (XT.arg_lt hy) u (lv+1) m s2 (by omega) (by omega);rw[hTa] at h;exact h) (fun s3=>?_);refine A4 ?_;refine Ar (((i+1:Nat):Int)) ?_;refine A3 ?_;exact Nl ⟨(i+1,⟨_,s3⟩),hlt,by rw[hI,varsLs_step hy,List.append_assoc],by have:=varsL_len y;rw[List.length_append];show _+XT.sizes (x.args.drop (i+1))≤_;omega⟩ (hL:=Weak.auto)
 ·have hge:i=x.args.length:=by have:=of_decide_eq_false hb1;omega
  refine A4 ?_
  refine at_end0n rfl (fun w hL=>by
 have e:m=l++varsL x:=(by rw[hI,hge,List.drop_length,varsLs,List.append_nil]);refine⟨s2.cast e,rfl,?_⟩;(try dsimp only);rw[SRw.cast_blk];exact hL.pk [some 0,some 1])
theorem c_eachV(gv:Nat)(x:XT):EachV gv x:=by
 suffices h:∀k:Nat,∀x:XT,x.size<k→EachV gv x from h _ x (Nat.lt_succ_self _)
 intro k
 induction k with
 |zero=>intro x h;omega
 |succ k ih=>exact fun x hx u lv l s hM hN=>c_each_stepV u gv (fun y hy=>ih y (by omega)) lv s hM hN
theorem c_Variables{x:XT}(z:XR x)(hM:x.size≤1000000):ECall Tryz.prog 25 [gB z.T false] [z.v] (SRw (varsU x)) (fun s=>slv s.b 0 (varsU x).length s.cap) (fun s=>[VR s]):=by
 refine⟨by kernel_rfl,fun B w hD hL0=>?_⟩;have hvl:=varsL_len x
 have hul:(varsU x).length≤(varsL x).length:=(by have:=compact_le (sortL (varsL x));rw[sortL_len] at this;exact this);refine cB1 11 Tryz.func25 hL0 ?_;refine A2 ?_;refine Bo [_,_,_,_,_,_,_] 7 (fun g=>[_,⟨some g,30,_,7,true⟩]) (fun g0=>?_);refine A5 ?_;refine r_alloc [_] 1 (fun g=>[_,_,⟨some g,36,_,1,true⟩]) rfl rfl z36 rfl rfl (fun _=>rfl) (fun g1=>?_);refine A3 ?_;refine at_weakL (L':=[_,_,VV g1 SRw.zero,VR SRw.zero]) (Weak.nilB _ (by decide)) ?_;refine at_regionM ?_;refine Ld 1 0 [_,_,_,_,_,_,_] ti30 ?_;refine Kr 4 (z.v) ?_;refine A1 ?_;refine r_gcallM (A:=[VV g1 SRw.zero,VR SRw.zero]) (C:=[gB z.T false]) [z.v,.int .i64 (1:Nat),.func (.func 54) #[] #[.pointer (some ⟨g1,0,none⟩)]] [2,3] [0] (fun s1=>[_,_,VV g1 s1,VR s1]) rfl rfl rfl rfl (c_eachV g1 x z 1 [] SRw.zero (by show 0+_≤_;omega) (by omega)) (by decide) rfl rfl ⟨⟨_,rfl,Blk.le_refl _⟩,trivial⟩ rfl rfl (fun _=>rfl) (fun _=>allOwn rfl) (fun _=>rfl) (fun s1=>?_);refine A3 ?_;refine at_regionM ?_;refine A1 ?_;refine Gm 1 [3] [] (fun _=>[_,_,_,SBk s1.b (sortL (varsL x)) s1.n]) (c_Sort s1.b (varsL x) s1.n s1.cap (by omega) (Nat.le_trans s1.h1 s1.h2)) (fun _=>?_);refine A3 ?_;refine at_regionM ?_;refine A1 ?_;refine Gm 1 [3] [] (fun _=>[_,_,_,SBk s1.b (varsU x) s1.n]) (by have h:=c_Compact s1.b (sortL (varsL x)) s1.n s1.cap (by rw[sortL_len];omega) s1.h2 (by rw[sortL_len];exact s1.h1);rw[sortL_len] at h;exact h) (fun _=>?_);refine A4 ?_;refine at_end1 rfl (res_tmp rfl) (fun w hL=>⟨⟨s1.b,s1.n,s1.cap,Nat.le_trans hul s1.h1,s1.h2⟩,rfl,hL.pk [some 3]⟩)
noncomputable def chkQ(kind:Int)(l:List Bs8)(x:XT):Nat:=
 if kind<1∨3<kind then 4
 else if((l.length:Nat):Int)≠kind-1 then 5
 else if l.all nameL=false then 34
 else if l.length=2∧l[0]? =l[1]? then 8
 else if chkE x≠0 then chkE x
 else if(varsU x).all l.contains=false then 16
 else 0
abbrev QBx(g:Nat)(kind:Int)(b:Option Nat)(pre:List Value)(l:List Bs8)(cap:Nat){x:XT}(z:XR x):Blk:=⟨some g,39,[.int .i64 kind,slv b pre.length l.length cap,.int .i64 z.op,.string z.nm,.bool z.b1,.string z.s1,.bool z.b2,.string z.s2,.slice z.a z.n z.cap],9,true⟩
abbrev QV(kind:Int)(b:Option Nat)(pre:List Value)(l:List Bs8)(cap:Nat){x:XT}(z:XR x):Value:= .agg #[.int .i64 kind,slv b pre.length l.length cap,.int .i64 z.op,.string z.nm,.bool z.b1,.string z.s1,.bool z.b2,.string z.s2,.slice z.a z.n z.cap]
theorem all_false_at{α:Type}{f:α→Bool}{l:List α}{i:Nat}{v:α}(h:l[i]? =some v)(hf:f v=false):l.all f=false:=by
 rw[←Bool.not_eq_true]
 intro h2
 have:=List.all_eq_true.1 h2 v (List.mem_of_getElem? h)
 rw[hf] at this;cases this
theorem all_step{α:Type}{f:α→Bool}{l:List α}{i:Nat}{v:α}(hl:(l.take i).all f=true)(h:l[i]? =some v)(hf:f v=true):(l.take (i+1)).all f=true:=by
 rw[List.take_add_one,h,List.all_append,hl]
 simp[hf]
theorem all_full{α:Type}{f:α→Bool}{l:List α}{i:Nat}(hl:(l.take i).all f=true)(h:l.length≤i):l.all f=true:=by
 rwa [List.take_of_length_le h] at hl
theorem SB_ne{l:List Bs8}(h:0<l.length):SB l≠[]:=fun e=>by
 have:=congrArg List.length e
 rw[SB_length] at this
 simp at this
 subst this
 simp at h
end Go.Proofs.YtfijbadahkmhbaaGreatDoor
namespace Go.Proofs.YtfijbadahkmhbaaGreatDoor
open Go Go.RowKit Go.Via Go.ChangeShapes Go.WideShapes
theorem rowAt_le{p:Program}{fits:TypeId→Bool}{d e count off n:Nat}(h:rowAt p fits d e count off n=true):off≤count*p.cellsOf e:=by
 cases d with
 |zero=>cases h
 |succ d=>
  unfold rowAt at h
  dsimp only at h
  split at h
  ·cases h
  ·rename_i hs
   have hd:=Nat.div_add_mod off (p.cellsOf e)
   have hlt:=Nat.mod_lt off (Nat.pos_of_ne_zero hs)
   rw[Bool.or_eq_true] at h
   rcases h with h|h
   ·simp only[Bool.and_eq_true,beq_iff_eq,decide_eq_true_eq] at h
    have:p.cellsOf e*(off/p.cellsOf e)≤p.cellsOf e*count:=Nat.mul_le_mul_left _ (by omega)
    rw[Nat.mul_comm count]
    omega
   ·rw[Bool.and_eq_true,decide_eq_true_eq] at h
    have:p.cellsOf e*(off/p.cellsOf e+1)≤p.cellsOf e*count:=Nat.mul_le_mul_left _ (by omega)
    rw[Nat.mul_add,Nat.mul_one] at this
    rw[Nat.mul_comm count]
    omega
theorem liesAt_le{p:Program}:∀{d e count off u n:Nat},liesAt p d e count off u n=true→off≤count*p.cellsOf e
 |0,_,_,_,_,_,h=>by cases h
 |d+1,e,count,off,u,n,h=>by
  unfold liesAt at h
  rw[Bool.or_eq_true] at h
  rcases h with h|h
  ·exact rowAt_le h
  ·split at h
   ·exact liesAt_le h
   ·cases h
theorem has_blk{W:World}{r:Reach}{base:Nat}{a:Addr}{e n:Nat}(h:W.has Tryz.prog r base a e n):∃(g:Nat) (pre:List Value) (N:Nat),a=⟨g,pre.length,none⟩∧BlkAt (Bs.of W) W ⟨some g,9,pre++[],N,false⟩ g:=by
 obtain⟨_,hsp,row,cells,hsh,hl⟩:=h
 obtain⟨g,off,spot⟩:=a
 simp only at hsp hsh hl
 subst hsp
 unfold World.shape? at hsh
 split at hsh
 ·rename_i cur elem fr heq
  cases hsh
  have h1:=liesAt_le hl
  have h2:off≤cur.size:=Nat.le_trans h1 (Nat.div_mul_le_self _ _)
  have hpl:(cur.toList.take off).length=off:=by simp;omega
  refine⟨g,cur.toList.take off,cur.size,by rw[hpl],.inl ⟨cur,⟨_,_,heq,(fun h=>by cases h),(show 9<mapMark by decide)⟩,rfl,?_⟩,fun h=>by cases h⟩
  show cur.toList.take (cur.toList.take off++[]).length=cur.toList.take off++[]
  rw[List.append_nil,hpl]
 ·cases hsh
section
variable{H:Type}{enc:TypeId×Value→H}{w:World}
theorem ce36:Tryz.prog.cellsOf 36=1:=by kernel_rfl
theorem ce39:Tryz.prog.cellsOf 39=9:=by kernel_rfl
theorem oStrs{r:Reach}{b0 fuel:Nat}{v:Value}{x:DataW H×List MemPlace}(hval:Cell.ok Tryz.prog w r b0 36 v)(h:DataW.trod enc Tryz.prog w 0 (fun _=>true) true fuel 36 [v]=some x):
 ∃(l:List Bs8) (b:Option Nat) (pre:List Value) (N cap:Nat),v=slv b pre.length l.length cap∧l.length≤cap∧(∀g,b=some g→BlkAt (Bs.of w) w (VBk b 9 pre l N) g)∧(b=none→pre++SB l=[]∧N=0):=by
 rcases DataW.trod_slice Tryz.underlying36 h with⟨h1,_⟩|⟨a,len,cap,elems,rest,m,hm,h1,h2,_,hlc,_,hel,hx,_,_⟩
 ·obtain rfl:v= .slice none 0 0:=by simpa using h1
  exact⟨[],none,[],0,0,rfl,Nat.le_refl _,(fun g hg=>by cases hg),fun _=>⟨rfl,rfl⟩⟩
 ·obtain rfl:v= .slice (some a) len cap:=by simpa using h1
  rw[ce9] at hx
  obtain⟨F,hF⟩:=choose_n (α:=Bs8) [] (n:=len) (p:=fun i s=>w.cells? 0 (a.add (i*1)) 1=some [.string (strU s)]) (fun i hi=>by
 obtain⟨y,hy⟩:∃y,elems[i]? =some y:=⟨_,List.getElem?_eq_getElem (by omega)⟩
 have hxi:=hx i hi
 rw[hy] at hxi
 obtain⟨row,r1,r2⟩:=Option.bind_eq_some_iff.1 hxi
 obtain⟨s,e,_,_⟩:=DataW.trod_string Tryz.underlying9 r2
 exact⟨s.data.toList,by rw[r1,e,←str_strU]⟩)
  by_cases h0:len=0
  ·subst h0
   unfold Cell.ok at hval
   rw[Tryz.underlying36] at hval
   obtain⟨g,pre,N,rfl,hB⟩:=has_blk hval.2.2
   exact⟨[],some g,pre,N,cap,rfl,Nat.zero_le _,fun g' hg'=>by cases hg';exact hB,fun h=>by cases h⟩
  ·have hSB:SB ((List.range len).map F)=(List.range len).flatMap fun i=>[.string (strU (F i))]:=by
    unfold SB
    rw[List.map_map]
    induction(List.range len) with
    |nil=>rfl
    |cons a l ih=>rw[List.map_cons,List.flatMap_cons,ih];rfl
   have hne:SB ((List.range len).map F)≠[]:=fun e=>by
    have:=congrArg List.length e
    rw[SB_length] at this
    simp at this
    omega
   obtain⟨g,pre,N,rfl,hB⟩:=blk_flat (w:=w) (a:=a) 9 (by decide) hne (by
 rw[hSB]
 exact cells_flat (k:=1) (fun i hi=>hF i hi) (fun i hi=>rfl) (by decide))
   have hlen:((List.range len).map F).length=len:=by simp
   exact⟨(List.range len).map F,some g,pre,N,cap,by rw[hlen];rfl,by rw[hlen];exact hlc,fun g' hg'=>by cases hg';exact hB,fun h=>by cases h⟩
theorem w39{a b c:DataW H}(h:wOK 39 (.agg [a,b,c])):wOK 30 c:=by
 simp[wOK,DataW.weights,DataW.weightsEach,Tryz.underlying39] at h ⊢
 exact h.2.2
theorem openQ{r:Reach}{b0:Nat}{v:Value}{d:DataW H}{ps:List MemPlace}(hval:Value.okWide Tryz.prog w r b0 39 v)(hd:DataW.Trod enc Tryz.prog w 0 (fun _=>true) true 39 v d ps)(hw:wOK 39 d):
 ∃(kind:Int) (l:List Bs8) (b:Option Nat) (pre:List Value) (N cap:Nat) (x:XT) (z:XR x),v=QV kind b pre l cap z∧(-9223372036854775808≤kind∧kind≤9223372036854775807)∧l.length≤cap∧
  (∀g,b=some g→BlkAt (Bs.of w) w (VBk b 9 pre l N) g)∧(b=none→pre++SB l=[]∧N=0)∧(∀p∈z.T,TabCell w p)∧x.lim=true:=by
 obtain⟨cs,rfl,hcs⟩:=okWide_struct Tryz.underlying39 hval
 obtain⟨fuel,hf⟩:=hd
 have hrow:Row.okWide Tryz.prog w r b0 39 cs:=by
  unfold Value.okWide at hval
  rw[Tryz.underlying39] at hval
  obtain⟨cs',e,_,h⟩:=hval
  cases e;exact h
 obtain⟨ts,hts,_,hall⟩:=hrow
 obtain rfl:ts=[3,36,3,9,4,9,4,9,28]:=Option.some.inj (hts.symm.trans (show Tryz.prog.cellTypes Tryz.prog.depth 39=some [3,36,3,9,4,9,4,9,28] by kernel_rfl))
 obtain⟨xs,n,hn,hx,hl,hlen,hf⟩:=DataW.trod_struct Tryz.underlying39 hf
 rw[ce39] at hl
 obtain⟨cl⟩:=cs
 match cl,hl,xs,hlen with
 |[c0,c1,c2,c3,c4,c5,c6,c7,c8],_,[y0,y1,y2],_=>
  have f0:DataW.trod enc Tryz.prog w 0 (fun _=>true) true n 3 ((([c0,c1,c2,c3,c4,c5,c6,c7,c8]:List Value).drop 0).take (Tryz.prog.cellsOf 3))=some y0:=hf 0 _ rfl
  have f1:DataW.trod enc Tryz.prog w 0 (fun _=>true) true n 36 ((([c0,c1,c2,c3,c4,c5,c6,c7,c8]:List Value).drop 1).take (Tryz.prog.cellsOf 36))=some y1:=hf 1 _ rfl
  have f2:DataW.trod enc Tryz.prog w 0 (fun _=>true) true n 30 ((([c0,c1,c2,c3,c4,c5,c6,c7,c8]:List Value).drop 2).take (Tryz.prog.cellsOf 30))=some y2:=hf 2 _ rfl
  rw[ce3] at f0;rw[ce36] at f1;rw[ce30] at f2
  obtain⟨kind,e0,_,hk⟩:=DataW.trod_int Tryz.underlying3 f0
  obtain⟨u1,hu1,hok1⟩:=hall 1 c1 rfl
  obtain rfl:u1=36:=by simpa using hu1.symm
  have hok2:Cell.ok Tryz.prog w r b0 36 c1:=by
   unfold Cell.okWide at hok1
   rw[Tryz.underlying36] at hok1
   exact hok1
  obtain⟨l,b,pre,N,cap,e1,q1,q2,q3⟩:=oStrs hok2 f1
  have hxd:d= .agg [y0.1,y1.1,y2.1]:=(Prod.ext_iff.1 hx).1
  rw[hxd] at hw
  obtain⟨⟨x,T⟩,k1,k2,k3,k4⟩:=oX n _ _ f2 (w39 hw)
  obtain⟨z,hz1,hz2⟩:=k2.toXR k1
  refine⟨kind,l,b,pre,N,cap,x,z,?_,?_,q1,q2,q3,by rw[hz1];exact k3,k4⟩
  ·have e:z.cs=[c2,c3,c4,c5,c6,c7,c8]:=hz2
   unfold XR.cs at e
   simp only[List.cons.injEq,and_true] at e
   obtain⟨rfl,rfl,rfl,rfl,rfl,rfl,rfl⟩:=e
   have e0:c0= .int .i64 kind:=by simpa using e0
   rw[e0,e1]
  ·simp only[Lit.wf,Bool.and_eq_true,decide_eq_true_eq] at hk
   exact hk
end
abbrev BlkIn(W:World)(b:Blk):Prop:=(∀g,b.base=some g→BlkAt (Bs.of W) W b g)∧(b.base=none→b.cs=[]∧b.n=0∧∀T:Tab,gtOK T=true→b.e=gE T→∀p∈T,TabCell W p)
theorem blk_gm{W:World}{m:Int}(hm:BlkAt (Bs.of W) W (GM m) 0):BlkIn W (GM m):=⟨fun g hg=>by cases hg;exact hm,fun hn=>by cases hn⟩
theorem blk_tab{W:World}{T:Tab}(hT:gtOK T=true)(h:∀p∈T,TabCell W p):BlkIn W (gB T false):=⟨fun g hg=>(by cases hg),fun _=>⟨rfl,rfl,tab_blk hT h⟩⟩
theorem blk_vb{W:World}{b:Option Nat}{pre:List Value}{l:List Bs8}{N:Nat}(h1:∀g,b=some g→BlkAt (Bs.of W) W (VBk b 9 pre l N) g)(h2:b=none→pre++SB l=[]∧N=0):BlkIn W (VBk b 9 pre l N):=
 ⟨h1,fun hn=>⟨(h2 hn).1,(h2 hn).2,fun T _ he=>absurd (he▸(show 9<mapMark by decide)) (gE_ge T)⟩⟩
theorem allIn{W:World}:∀{L:List Blk},List.foldr (fun b p=>(b.own=false∧BlkIn W b)∧p) True L→LRel (Bs.of W) L W:=fun {L} h=>by
 have key:∀L:List Blk,List.foldr (fun b p=>(b.own=false∧BlkIn W b)∧p) True L→∀b∈L,b.own=false∧BlkIn W b:=by
  intro L
  induction L with
  |nil=>intro _ b hb;cases hb
  |cons a L ih=>
   intro h b hb
   rcases List.mem_cons.1 hb with rfl|hb
   ·exact h.1
   ·exact ih h.2 b hb
 exact relAll (fun b hb=>(key L h b hb).1) (fun b hb=>(key L h b hb).2)
end Go.Proofs.YtfijbadahkmhbaaGreatDoor
namespace Go.Via
open Go Go.RowKit
mutual
def XT.tiny:XT→Bool
 | .mk _ nm u l=>decide (nm.length≤60)&&decide (u.bytes≤20)&&XT.tinies l
def XT.tinies:List XT→Bool
 |[]=>true
 |x::l=>XT.tiny x&&XT.tinies l
end
mutual
theorem few_tiny:∀(x:XT) (lv:Nat) (n:Int),(few x lv n).1=true→x.tiny=true
 | .mk o nm u l,lv,n,h=>by
   rw[few] at h
   split at h
   ·cases h
   ·rename_i hb
    have hb2:bigX (.mk o nm u l) lv (n-1)=false:=by simpa using hb
    simp only[bigX,Bool.or_eq_false_iff,decide_eq_false_iff_not] at hb2
    obtain⟨h0,h1,h2,h3,h4⟩:=hb2
    have hnm:nm.length≤60:=by have:¬60<nm.length:=h3;omega
    have hu:u.bytes≤20:=by have:¬20<u.bytes:=h4;omega
    rw[XT.tiny,fews_tiny l _ _ h]
    simp;omega
theorem fews_tiny:∀(l:List XT) (lv:Nat) (n:Int),(fews l lv n).1=true→XT.tinies l=true
 |[],_,_,_=>by rw[XT.tinies]
 |x::l,lv,n,h=>by
  rw[fews] at h
  split at h
  ·rename_i hx
   rw[XT.tinies,few_tiny x lv n hx,fews_tiny l _ _ h];rfl
  ·rename_i hx;exact absurd h hx
end
theorem XT.tiny_parts{o:Int}{nm:Bs8}{u:NumV}{l:List XT}(h:(XT.mk o nm u l).tiny=true):nm.length≤60∧u.bytes≤20∧XT.tinies l=true:=by
 unfold XT.tiny at h
 simp only[Bool.and_eq_true,decide_eq_true_eq] at h
 exact⟨h.1.1,h.1.2,h.2⟩
theorem szQ_bytes{q:Rat}(h:(mag q.num.natAbs).size+(dm q).size≤20):szQ q≤21:=by
 rw[mag_size] at h
 unfold szQ
 have h5:nb q.den≤(dm q).size+1:=by
  unfold dm
  split
  ·rename_i hd
   rw[hd]
   have:nb 1≤1:=nb_le (k:=1) (by decide)
   omega
  ·rw[mag_size];omega
 omega
theorem NumV.rat_sz{u:NumV}(h:u.bytes≤20):szQ u.rat≤21:=by
 cases u with
 |q r=>exact szQ_bytes h
 |raw b1 s1 b2 s2=>
  cases ho:(NumV.raw b1 s1 b2 s2).ok with
  |true=>
   have h1:=NumV.rat_cells (u:= .raw b1 s1 b2 s2) rfl ho
   generalize(NumV.raw b1 s1 b2 s2).rat=q at h1 ⊢
   have h2:Value.agg #[.bool b1,.string s1,.bool b2,.string s2]=Value.agg #[.bool (decide (q.num<0)),.string (mag q.num.natAbs),.bool false,.string (dm q)]:=h1
   simp only[Value.agg.injEq,Array.mk.injEq,List.cons.injEq,Value.bool.injEq,Value.string.injEq,and_true] at h2
   obtain⟨_,e1,_,e2⟩:=h2
   replace h:s1.size+s2.size≤20:=h
   rw[e1,e2] at h
   exact szQ_bytes h
  |false=>
   have h3:¬∃q:Rat,Value.agg #[.bool b1,.string s1,.bool b2,.string s2]=Q q:=fun hq=>by
    have h4:isQ b1 s1 b2 s2=true:=by unfold isQ;exact @decide_eq_true _ (Classical.propDecidable _) hq
    rw[show isQ b1 s1 b2 s2=false from ho] at h4
    cases h4
   have e:(NumV.raw b1 s1 b2 s2).rat=0:= @dif_neg _ (Classical.propDecidable _) h3 _ _ _
   rw[e]
   have:szQ 0≤21:=by decide+kernel
   exact this
theorem quoS_le2:∀n:Bs8,(quoS n).length≤2*n.length
 |[]=>by simp[quoS]
 |c::n=>by
  have:=quoS_le2 n
  unfold quoS at*
  rw[List.flatMap_cons,List.length_append,List.length_cons]
  by_cases hc:c=34
  ·rw[if_pos hc];show 2+_≤_;omega
  ·rw[if_neg hc];show 1+_≤_;omega
theorem joinC_len:∀L:List Bs8,(joinC L).length≤(L.map fun t=>t.length+2).sum
 |[]=>by simp[joinC]
 |[t]=>by simp[joinC]
 |t::u::r=>by
  have:=joinC_len (u::r)
  rw[joinC,List.length_append,List.length_append,List.map_cons,List.sum_cons]
  simp at this ⊢
  omega
theorem ops_len{f:Bs8×Nat×Nat}(h:f∈opsT):f.1.length≤6:=by
 have:∀o∈opsT,o.1.length≤6:=by decide
 exact this f h
theorem fun_len{f:Bs8×Nat×Nat}(h:f∈funT):f.1.length≤10:=by
 have:∀o∈funT,o.1.length≤10:=by decide
 exact this f h
mutual
theorem txt_len:∀(x:XT) (lv:Nat),x.tiny=true→(txt x lv).length+20≤400*x.size
 | .mk o nm u l,lv,h=>by
   obtain⟨h1,h2,h3⟩:=XT.tiny_parts h
   have hr:=Nat.le_trans (ratS_len u.rat) (by have:=NumV.rat_sz h2;omega:6*szQ u.rat+5≤131)
   have hq:=quoS_le2 nm
   have hA:=txtAt_len l h3
   have hL:=txtLs_sum l h3
   have hJ:=Nat.le_trans (joinC_len (txtLs l)) hL
   rw[txt,XT.size]
   split
   ·rename_i f hf
    have hfl:=ops_len (List.mem_of_find?_eq_some hf)
    have h0:=hA 0 1 3 3 rfl rfl
    have h01:=hA 0 1 (if f.2.2=4 then 5 else f.2.2) (f.2.2+1) rfl rfl
    split
    ·split
     ·simp only[List.length_append,sNot,List.length_cons,List.length_nil];omega
     ·simp only[List.length_append,List.length_cons,List.length_nil];omega
    ·split
     ·simp only[List.length_append,sNot,List.length_cons,List.length_nil];omega
     ·simp only[List.length_append,List.length_cons,List.length_nil];omega
   ·split
    ·omega
    ·split
     ·omega
     ·split
      ·simp only[List.length_append,sObject,List.length_cons,List.length_nil];omega
      ·split
       ·simp only[List.length_append,sZone,List.length_cons,List.length_nil];omega
       ·split
        ·simp only[List.length_append,List.length_cons,List.length_nil];omega
        ·split
         ·simp only[List.length_append,sPoint,List.length_cons,List.length_nil];omega
         ·split
          ·rename_i f hf
           have hfl:=fun_len (List.mem_of_find?_eq_some hf)
           simp only[List.length_append,List.length_cons,List.length_nil];omega
          ·simp only[List.length_nil];omega
theorem txtAt_len:∀(l:List XT),XT.tinies l=true→∀(i j lv lv':Nat),i=0→j=1→(txtAt l i lv).length+(txtAt l j lv').length≤400*XT.sizes l
 |[],_,i,j,lv,lv',_,_=>by simp[txtAt]
 |x::l,h,i,j,lv,lv',hi,hj=>by
  subst hi;subst hj
  rw[XT.tinies,Bool.and_eq_true] at h
  have h1:=txt_len x lv h.1
  have h2:=txtA0_len l h.2 lv'
  rw[txtAt,txtAt,XT.sizes]
  omega
theorem txtA0_len:∀(l:List XT),XT.tinies l=true→∀lv:Nat,(txtAt l 0 lv).length≤400*XT.sizes l
 |[],_,lv=>by simp[txtAt]
 |x::l,h,lv=>by
  rw[XT.tinies,Bool.and_eq_true] at h
  have h1:=txt_len x lv h.1
  rw[txtAt,XT.sizes]
  omega
theorem txtLs_sum:∀(l:List XT),XT.tinies l=true→((txtLs l).map fun t=>t.length+2).sum≤400*XT.sizes l
 |[],_=>by simp[txtLs]
 |x::l,h=>by
  rw[XT.tinies,Bool.and_eq_true] at h
  have h1:=txt_len x 1 h.1
  have h2:=txtLs_sum l h.2
  rw[txtLs,XT.sizes,List.map_cons,List.sum_cons]
  omega
end
end Go.Via
namespace Go.Proofs.YtfijbadahkmhbaaGreatDoor
open Go Go.RowKit Go.Via
theorem c_list_step{x:XT}(z:XR x)(m:Int)(H:∀y:XT,y.size<x.size→WriC m y)(hok:okX x)(hf:x.fit=true)(hM:x.size≤1000000000)(op en:Bs8)(g:Nat)(a:Bool)(d:Bd)(hd:d.ok)(hb:d.s.length+(op++joinC (txtLs x.args)++en).length≤17179869184):ECall Tryz.prog 126 [BB g a d,BF d,gB z.T false,GM m] [.pointer (some ⟨g,0,none⟩),.string (strU op),.slice z.a z.n z.cap,.string (strU en)] (BdX (d.s++(op++joinC (txtLs x.args)++en))) (fun _=> .tuple #[]) (fun d'=>[BB g true d'.1,BF d'.1]):=by
 refine⟨by kernel_rfl,fun B w hD hL0=>?_⟩;obtain⟨h1,h2,h3,h4,h5,h6⟩:=z.inv;have hsz:=x.size_eq;have hal:=XT.len_sizes x.args;have hjl:=joinC_take_le x.args;have hks:=(okX_parts hok).2;refine cB4 31 Tryz.func126 hL0 ?_;refine A1 ?_;refine at_regionM ?_;refine A2 ?_;refine Gm 2 [0,1] [] (fun d1=>[BB g true d1.1,BF d1.1,_,_]) (c_b_WriteString g a d op hd (by rw[List.length_append,List.length_append] at hb;omega)) (fun⟨d1,hd1,e1⟩=>?_);refine A11 ?_;refine El (ι:={r:Nat×Bd // r.1≤x.args.length∧r.2.ok∧r.2.s=d.s++op++joinC ((txtLs x.args).take r.1)}) (fun⟨⟨i,q⟩,hi,hq,hs⟩=>([(0,.pointer (some ⟨g,0,none⟩)),(3,.string (strU en)),(13,.slice z.a z.n z.cap),(14,.int .i64 (z.n:Nat)),(15,.int .i64 (i:Nat))],[BB g true q,BF q,gB z.T false,GM m],x.args.length-i)) ⟨(0,d1),Nat.zero_le _,hd1,by rw[e1];simp[joinC]⟩ ?_ (hL:=Weak.auto);rintro⟨⟨i,q⟩,hi,hq,hs⟩;(try dsimp only);dsimp only at hi hq hs;refine A6 ?_;refine Cd ?_ ?_<;>intro hb1
 ·have hlt:i<x.args.length:=by have:=of_decide_eq_true hb1;omega
  obtain⟨y,hy⟩:∃y,x.args[i]? =some y:=⟨x.args[i],List.getElem?_eq_getElem hlt⟩;obtain⟨ga,oa,ca,u,hza,hma,hra,hTa,hna⟩:=z.arg hy;have hst:=joinC_step hy;have hjl1:=hjl (i+1);have hjs:=congrArg List.length hst;simp only[List.length_append] at hjs hb;refine A7 ?_;refine r_indexAddrG (gg:=ga) (len:=z.n) (cap:=z.cap) (oa+i*7) u28 ti30 rfl rfl (congrArg (fun a=>some (Value.slice a z.n z.cap)) hza) rfl (by omega) (by omega) (by show oa+Int.toNat _*7=_;omega) ?_;refine r_loadT (v:=u.v) 2 (oa+i*7) u.cs rfl rfl rfl z.hT hma hna rfl ti30 hra rfl rfl rfl ?_;refine r_alloc [_,_,_,_,_,_,_] 7 (fun g=>[_,_,_,_,⟨some g,30,_,7,true⟩]) rfl rfl z30 rfl rfl (fun _=>rfl) (fun g0=>?_);refine A1 ?_;refine So 4 0 [_,_,_,_,⟨some g0,30,_,7,true⟩] [_,_,_,_,_,_,_] ?_;refine A9 ?_;refine Cd ?_ ?_<;>intro hb2
  ·have hi0:i≠0:=by have:=of_decide_eq_true hb2;omega
   have hsp:sepS i=[44,32]:=if_neg hi0;rw[hsp] at hst hjs;have hjs:_=_+2+_:=hjs;refine at_regionM ?_;refine A1 ?_;refine r_gcallM (A:=[BB g true q,BF q]) (C:=[]) [.pointer (some ⟨g,0,none⟩),.string (strU [44,32])] [0,1] [] (fun d1=>[BB g true d1.1,BF d1.1,_,_,_]) rfl rfl rfl rfl (c_b_WriteString g true q [44,32] hq (by simp only[hs,List.length_append];show _+2≤_;omega)) (by decide) rfl rfl trivial rfl rfl (fun _=>rfl) (fun _=>allOwn rfl) (fun _=>rfl) (fun⟨d2,hd2,e2⟩=>?_);refine A2 ?_;have hB2:d2.s.length+(txt y 1).length≤17179869184:=(by rw[e2,hs];simp only[List.length_append];show _+2+_≤_;omega);refine at_regionM ?_;refine A1 ?_;refine Ld 4 0 [_,_,_,_,_,_,_] ti30 ?_;refine Kr 25 (u.v) ?_;refine Gm 2 [0,1] [2,3] (fun(d3:BdX (d2.s++txt y 1))=>[BB g true d3.1,BF d3.1,_,_,_]) (by have h:=H y (XT.arg_lt hy) u 1 g true d2 hd2 (okXs_get hks hy) (XT.fits_get (XT.fit_parts hf).2.2 hy) (Nat.le_trans (Nat.le_of_lt (XT.arg_lt hy)) hM) (by decide) hB2;rw[hTa] at h;exact h) (fun⟨d3,hd3,e3⟩=>?_);refine A4 ?_;refine Ar (((i+1:Nat):Int)) ?_;refine A3 ?_;exact Nl ⟨(i+1,d3),hlt,hd3,by rw[e3,e2,hs,hst];simp only[List.append_assoc]⟩ (hL:=Weak.auto)
  ·have hi0:i=0:=by have:=of_decide_eq_false hb2;omega
   have hsp:sepS i=[]:=if_pos hi0;rw[hsp] at hst hjs;have hjs:_=_+0+_:=hjs;refine A2 ?_;have hB2:q.s.length+(txt y 1).length≤17179869184:=(by rw[hs];simp only[List.length_append];omega);refine at_regionM ?_;refine A1 ?_;refine Ld 4 0 [_,_,_,_,_,_,_] ti30 ?_;refine Kr 25 (u.v) ?_;refine Gm 2 [0,1] [2,3] (fun(d3:BdX (q.s++txt y 1))=>[BB g true d3.1,BF d3.1,_,_,_]) (by have h:=H y (XT.arg_lt hy) u 1 g true q hq (okXs_get hks hy) (XT.fits_get (XT.fit_parts hf).2.2 hy) (Nat.le_trans (Nat.le_of_lt (XT.arg_lt hy)) hM) (by decide) hB2;rw[hTa] at h;exact h) (fun⟨d3,hd3,e3⟩=>?_);refine A4 ?_;refine Ar (((i+1:Nat):Int)) ?_;refine A3 ?_;exact Nl ⟨(i+1,d3),hlt,hd3,by rw[e3,hs,hst];simp only[List.append_assoc,List.append_nil,List.nil_append]⟩ (hL:=Weak.auto)
 ·have hge:i=x.args.length:=by have:=of_decide_eq_false hb1;omega
  refine A5 ?_;refine at_regionM ?_;refine A2 ?_;refine Gm 2 [0,1] [] (fun d1=>[BB g true d1.1,BF d1.1,_,_]) (c_b_WriteString g true q en hq (by simp only[hs,hge,txtLs_all,List.length_append] at hb ⊢;omega)) (fun⟨d2,hd2,e2⟩=>?_);refine A1 ?_
  refine at_end0n rfl (fun w hL=>⟨⟨d2,hd2,by rw[e2,hs,hge,txtLs_all];simp only[List.append_assoc]⟩,rfl,hL.pk [some 0,some 1]⟩)
end Go.Proofs.YtfijbadahkmhbaaGreatDoor
namespace Go.Via
open Go Go.RowKit
theorem quoS_none:∀(s:Bs8),s.count 34=0→quoS s=s
 |[],_=>rfl
 |c::s,h=>by
  have hc:c≠34:=fun e=>by subst e;simp at h
  have h2:s.count 34=0:=by rw[List.count_cons] at h;omega
  have ih:=quoS_none s h2
  unfold quoS at ih ⊢
  rw[List.flatMap_cons,ih,if_neg hc];rfl
theorem quoS_cons(c:UInt8)(s:Bs8):quoS (c::s)=(if c=34 then[34,34] else[c])++quoS s:=by
 unfold quoS;rw[List.flatMap_cons]
theorem replaceK_quo:∀(s:Bs8) (k:Nat),s.count 34≤k→Lib.replaceK [34] [34,34] k s=quoS s
 |s,0,h=>by rw[Lib.replaceK,quoS_none s (by omega)]
 |[],k+1,h=>by rw[Lib.replaceK];rfl
 |c::s,k+1,h=>by
  rw[quoS_cons]
  by_cases hc:c=34
  ·subst hc
   have h0:Lib.index (34::s) [34]=(0:Nat):=by rw[Lib.index_one,Lib.indexByte];rfl
   rw[Lib.replaceK_hit _ _ _ _ 0 h0,if_pos rfl]
   have h2:s.count 34≤k:=by rw[List.count_cons_self] at h;omega
   have ih:=replaceK_quo s k h2
   show[]++[34,34]++Lib.replaceK [34] [34,34] k s=_
   rw[ih];rfl
  ·have h2:s.count 34≤k+1:=by rw[List.count_cons] at h;omega
   have ih:=replaceK_quo s (k+1) h2
   rw[if_neg hc,←ih,Lib.replaceK,Lib.replaceK,Lib.index_one,Lib.index_one,Lib.indexByte]
   have hc2:(c==34)=false:=by simpa using hc
   rw[hc2]
   have hge:=Lib.indexByte_ge s 34
   by_cases hm:Lib.indexByte s 34= -1
   ·rw[hm];rfl
   ·have hm2:(Lib.indexByte s 34== -1)=false:=by simpa using hm
    obtain⟨i,hi⟩:∃i:Nat,Lib.indexByte s 34=i:=⟨(Lib.indexByte s 34).toNat,by omega⟩
    have hm3:(Lib.indexByte s 34+1== -1)=false:=by rw[hi];simp;omega
    simp only[hm2,hm3,Bool.false_eq_true,if_false]
    rw[hi]
    have e1:((i:Int)+1).toNat=i+1:=by omega
    have e2:(i:Int).toNat=i:=by omega
    rw[e1,e2]
    simp[Nat.add_right_comm]
theorem replaceAll_quo(s:Bs8):Lib.replaceAll s [34] [34,34]=quoS s:=by
 have h:([34]==([34,34]:List UInt8))=false:=rfl
 rw[Lib.replaceAll,Lib.replace,h]
 simp only[Bool.false_eq_true,if_false]
 refine replaceK_quo s _ ?_
 unfold Lib.replaceNum
 rw[if_pos (.inl (by decide)),Lib.count_one]
 exact Nat.le_refl _
end Go.Via
namespace Go.Proofs.YtfijbadahkmhbaaGreatDoor
open Go Go.RowKit Go.Via
theorem c_ReplaceAll(m:Int)(s:Bs8)(hs:s.length≤1000000):SCall Tryz.prog 125 [GM m] [.string (strU s),.string (strU [34]),.string (strU [34,34])] Unit (fun _=> .string (strU (quoS s))) (fun _=>[]):=by
 refine⟨by kernel_rfl,fun w hL=>?_⟩
 have hm:w.cell? ⟨0,0,none⟩=some (.int .i64 m):=by
  obtain⟨g',hg',h2⟩:=hL.cell (k:=0) (j:=0) rfl (v:= .int .i64 m) rfl
  cases hg'
  exact h2
 have hcnt:Lib.countB (strU s) (strU [34])=s.count 34:=by
  show Lib.count (strU s).data.toList (strU [34]).data.toList=_
  simp only[strU]
  exact Lib.count_one 34 s
 have hc2:=List.count_le_length (a:=(34:UInt8)) (l:=s)
 have hsz:(strU s).size=s.length:=rfl
 have h1:=Tryz.strings_ReplaceAll (strU s) (strU [34]) (strU [34,34]) m w (by rw[hsz];omega) hm (Nat.le_refl _) (by rw[hcnt,hsz,show(strU [34,34]).size=2 from rfl];omega)
 refine Calls.mono h1 ?_
 rintro e w' ⟨rfl,hb⟩
 refine⟨(),?_,(LRel.nil w).same hb⟩
 show _=Ending.returned (Value.string (strU (quoS s)))
 rw[←replaceAll_quo]
 rfl
end Go.Proofs.YtfijbadahkmhbaaGreatDoor
namespace Go.Via
open Go Go.RowKit
theorem NumV.isId_ok{u:NumV}(h:u.isId=true):u.ok=true:=by
 cases u with
 |q r=>rfl
 |raw b1 s1 b2 s2=>
  unfold NumV.isId at h
  obtain⟨q,hq,_⟩:= @of_decide_eq_true _ (Classical.propDecidable _) h
  show isQ b1 s1 b2 s2=true
  unfold isQ
  exact @decide_eq_true _ (Classical.propDecidable _) ⟨q,hq⟩
theorem NumV.rat_ok{u:NumV}{b1 b2:Bool}{s1 s2:ByteArray}(h:u.cells=[.bool b1,.string s1,.bool b2,.string s2])(hf:u.fit=true)(ho:u.ok=true):(.agg #[.bool b1,.string s1,.bool b2,.string s2]:Value)=Q u.rat∧szQ u.rat≤1000000:=by
 have h1:=NumV.rat_cells h ho
 refine⟨h1,?_⟩
 obtain⟨q,e1,e2,e3,e4,_,h6⟩:=NumV.isId_yes h hf ho
 have e:Value.agg #[.bool b1,.string s1,.bool b2,.string s2]=Q q:=by rw[e1,e2,e3,e4];rfl
 rw[←Q_inj8 (e.symm.trans h1)]
 exact h6
theorem nodeE_num{x:XT}(h:nodeE x=0):(x.op=1→x.num.ok=true)∧(x.op=3→x.num.ok=true):=by
 unfold nodeE at h
 split at h
 ·cases h
 split at h
 ·cases h
 split at h
 ·cases h
 rename_i h1
 split at h
 ·cases h
 split at h
 ·cases h
 rename_i h3
 refine⟨fun e=>?_,fun e=>NumV.isId_ok ?_⟩
 ·cases hh:x.num.ok with
  |true=>rfl
  |false=>exact absurd ⟨e,hh⟩ h1
 ·cases hh:x.num.isId with
  |true=>rfl
  |false=>exact absurd ⟨e,hh⟩ h3
def sw6(o:Int):Prop:=o=1∨o=4∨o=3∨o=5∨o=6∨o=2
noncomputable def swS(x:XT):Bs8:=
 if x.op=1 then ratS x.num.rat else if x.op=4 then x.name else if x.op=3 then sObject++ratS x.num.rat++[41] else if x.op=5 then sZone++quoS x.name++[34,41]
 else if x.op=6 then[91]++joinC (txtLs x.args)++[93] else if x.op=2 then sPoint++joinC (txtLs x.args)++[41] else[]
noncomputable def fnL(x:XT)(L:List (Bs8×Nat×Nat)):Bs8:=L.flatMap fun f=>if(f.2.1:Int)=x.op then(f.1++[40])++joinC (txtLs x.args)++[41] else[]
theorem fnL_step(x:XT){L:List (Bs8×Nat×Nat)}{i:Nat}{o:Bs8×Nat×Nat}(h:L[i]? =some o):fnL x (L.take (i+1))=fnL x (L.take i)++(if(o.2.1:Int)=x.op then(o.1++[40])++joinC (txtLs x.args)++[41] else[]):=by
 have hlt:=(List.getElem?_eq_some_iff.1 h).1
 rw[List.take_add_one,h]
 unfold fnL
 rw[List.flatMap_append]
 simp
theorem fnL_le(x:XT)(L:List (Bs8×Nat×Nat))(i:Nat):(fnL x (L.take i)).length≤(fnL x L).length:=by
 have h:fnL x L=fnL x (L.take i)++fnL x (L.drop i):=by
  conv=>lhs;rw[←List.take_append_drop i L]
  unfold fnL
  rw[List.flatMap_append]
 rw[h,List.length_append]
 omega
theorem fnL_none(x:XT)(L:List (Bs8×Nat×Nat))(h:∀f∈L,(f.2.1:Int)≠x.op):fnL x L=[]:=by
 unfold fnL
 rw[List.flatMap_eq_nil_iff]
 intro f hf
 rw[if_neg (h f hf)]
theorem fnL_one(x:XT):∀(L:List (Bs8×Nat×Nat)) (f:Bs8×Nat×Nat),(L.map (fun o=>o.2.1)).Nodup→L.find? (fun f=>decide ((f.2.1:Int)=x.op))=some f→fnL x L=(f.1++[40])++joinC (txtLs x.args)++[41]
 |[],f,_,h=>by simp at h
 |o::L,f,hn,h=>by
  rw[List.map_cons,List.nodup_cons] at hn
  have e:fnL x (o::L)=(if(o.2.1:Int)=x.op then(o.1++[40])++joinC (txtLs x.args)++[41] else[])++fnL x L:=by unfold fnL;rw[List.flatMap_cons]
  rw[e]
  by_cases ho:(o.2.1:Int)=x.op
  ·rw[List.find?_cons_of_pos (by simpa using ho)] at h
   cases h
   rw[if_pos ho,fnL_none x L (fun g hg hgo=>hn.1 (List.mem_map.2 ⟨g,hg,by omega⟩)),List.append_nil]
  ·rw[List.find?_cons_of_neg (by simpa using ho)] at h
   rw[if_neg ho,List.nil_append]
   exact fnL_one x L f hn.2 h
theorem txt_leaf{x:XT}(h:opsT.find? (fun f=>decide ((f.2.1:Int)=x.op))=none)(lv:Nat):txt x lv=swS x++fnL x funT:=by
 cases x with
 |mk o nm u l=>
  have hop:(XT.mk o nm u l).op=o:=rfl
  rw[hop] at h
  rw[txt,h]
  have hsm:∀k:Int,o=k→(∀f∈funT,(f.2.1:Int)≠k)→fnL (.mk o nm u l) funT=[]:=fun k hk hf=>fnL_none _ _ (by rw[hop,hk];exact hf)
  unfold swS
  rw[hop]
  by_cases h1:o=1
  ·rw[hsm 1 h1 (by decide)];simp only[if_pos h1,List.append_nil];rfl
  by_cases h4:o=4
  ·rw[hsm 4 h4 (by decide)];simp only[if_neg h1,if_pos h4,List.append_nil];rfl
  by_cases h3:o=3
  ·rw[hsm 3 h3 (by decide)];simp only[if_neg h1,if_neg h4,if_pos h3,List.append_nil];rfl
  by_cases h5:o=5
  ·rw[hsm 5 h5 (by decide)];simp only[if_neg h1,if_neg h4,if_neg h3,if_pos h5,List.append_nil];rfl
  by_cases h6:o=6
  ·rw[hsm 6 h6 (by decide)];simp only[if_neg h1,if_neg h4,if_neg h3,if_neg h5,if_pos h6,List.append_nil];rfl
  by_cases h2:o=2
  ·rw[hsm 2 h2 (by decide)];simp only[if_neg h1,if_neg h4,if_neg h3,if_neg h5,if_neg h6,if_pos h2,List.append_nil];rfl
  simp only[if_neg h1,if_neg h4,if_neg h3,if_neg h5,if_neg h6,if_neg h2,List.nil_append]
  cases hf:funT.find? (fun f=>decide ((f.2.1:Int)=o)) with
  |none=>
   dsimp only
   exact(fnL_none _ _ (fun f hm he=>by have:=List.find?_eq_none.1 hf f hm;exact this (by rw[hop] at he;simpa using he))).symm
  |some f=>
   dsimp only
   exact(fnL_one (.mk o nm u l) funT f (by decide) hf).symm
end Go.Via
