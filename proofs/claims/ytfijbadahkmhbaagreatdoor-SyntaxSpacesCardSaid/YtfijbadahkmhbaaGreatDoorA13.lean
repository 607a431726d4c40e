/-
  Part 13 (chapter 43): lemmas, walks. Each theorem states its own conditions.
-/
import Derived.Test.YtfijbadahkmhbaaGreatDoorA04
import Derived.Test.YtfijbadahkmhbaaGreatDoorA08
import Derived.Test.YtfijbadahkmhbaaGreatDoorA09
import Derived.Test.YtfijbadahkmhbaaGreatDoorA10
import Derived.Test.YtfijbadahkmhbaaGreatDoorA11
import Derived.Test.YtfijbadahkmhbaaGreatDoorA12
set_option linter.unusedVariables false
set_option linter.unusedSimpArgs false
set_option maxRecDepth 20000
set_option maxHeartbeats 20000000
namespace Go.Proofs.YtfijbadahkmhbaaGreatDoor
open Go Go.RowKit Go.Via
theorem c_Check(kind:Int)(hk: -9223372036854775808≤kind∧kind≤9223372036854775807)(b:Option Nat)(e:Nat)(pre:List Value)(l:List Bs8)(n cap:Nat)(hll:l.length≤1000000)(hvl:∀v∈l,v.length≤1000000){x:XT}(z:XR x)(hf:x.fit=true)(hM:x.size≤1000000):ECall Tryz.prog 29 [VBk b e pre l n,gB z.T false] [QV kind b pre l cap z] Unit (fun _=> .int .i64 (chkQ kind l x:Nat)) (fun _=>[]):=by
 refine⟨by kernel_rfl,fun B w hD hL0=>?_⟩
 have hvx:(varsU x).length≤1000000:=by
  have h1:=compact_le (sortL (varsL x));rw[sortL_len] at h1;exact Nat.le_trans h1 (Nat.le_trans (varsL_len x) hM)
 refine cB1 71 Tryz.func29 hL0 ?_;refine A2 ?_;refine Bo [_,_,_,_,_,_,_,_,_] 9 (fun g=>[_,_,⟨some g,39,_,9,true⟩]) (fun g0=>?_);refine A11 ?_;refine Rs 12 ?_ ?_<;>intro hb0
 ·have k1:kind<1:=of_decide_eq_true hb0;refine A16 ?_;refine at_end1 rfl (res_tmp rfl) (fun w hL=>⟨(),eI (by unfold chkQ;rw[if_pos (.inl k1)]),hL.pk []⟩)
 ·have k1:¬kind<1:=of_decide_eq_false hb0;refine A7 ?_;refine Cd ?_ ?_<;>intro hb1
  ·have k3:3<kind:=of_decide_eq_true hb1;refine A8 ?_;refine at_end1 rfl (res_tmp rfl) (fun w hL=>⟨(),eI (by unfold chkQ;rw[if_pos (.inr k3)]),hL.pk []⟩)
  ·have k3:¬3<kind:=of_decide_eq_false hb1;refine A7 ?_;refine r_arith (r:=kind-1) rfl rfl rfl rfl (congrArg some (by rw[IntKind.wrap_i64];omega)) ?_;refine A4 ?_;refine Cd ?_ ?_<;>intro hb2
   ·have kl:((l.length:Nat):Int)≠kind-1:=by simpa using hb2
    refine A8 ?_;refine at_end1 rfl (res_tmp rfl) (fun w hL=>⟨(),eI (by unfold chkQ;rw[if_neg (fun h=>h.elim k1 k3),if_pos kl]),hL.pk []⟩)
   ·have kl:((l.length:Nat):Int)=kind-1:=by simpa using hb2
    refine A13 ?_;refine El (ι:={i:Nat // i≤l.length∧(l.take i).all nameL=true}) (fun⟨i,hi,hI⟩=>([(1,.pointer (some ⟨g0,0,none⟩)),(26,slv b pre.length l.length cap),(27,.int .i64 (l.length:Nat)),(28,.int .i64 (i:Nat))],[VBk b e pre l n,gB z.T false,QBx g0 kind b pre l cap z],l.length-i)) ⟨0,Nat.zero_le _,rfl⟩ ?_;rintro⟨i,hi,hI⟩;(try dsimp only);refine A6 ?_;refine Cd ?_ ?_<;>intro hb4
    ·have hlt:i<l.length:=by have:=of_decide_eq_true hb4;omega
     obtain⟨v,hv⟩:∃v,l[i]? =some v:=⟨l[i],List.getElem?_eq_getElem hlt⟩;refine A6 ?_;refine r_indexAddr 0 (pre.length+i*1) u36 ti9 rfl rfl rfl rfl rfl (by omega) (by omega) (pre_ne (SB_ne (by omega))) (by show pre.length+Int.toNat _*1=_;omega) ?_;refine r_load (v:= .string (strU v)) 0 (pre.length+i*1) _ rfl rfl rfl rfl ti9 (pre_get (SB_get hv) rfl) rfl (by decide) rfl ?_;refine A6 ?_;refine Pc (c_syntax_IsName v (hvl v (List.mem_of_getElem? hv))) ?_;refine A3 ?_;refine Cd ?_ ?_<;>intro hb5
     ·have hnv:nameL v=false:=by simpa using hb5
      refine A11 ?_;refine at_end1 rfl (res_tmp rfl) (fun w hL=>⟨(),eI (by unfold chkQ;rw[if_neg (fun h=>h.elim k1 k3),if_neg (fun h=>h kl),if_pos (all_false_at hv hnv)]),hL.pk []⟩)
     ·have hnv:nameL v=true:=by simpa using hb5
      refine A4 ?_;refine Ar (((i+1:Nat):Int)) ?_;refine A3 ?_;exact Nl ⟨i+1,hlt,all_step hI hv hnv⟩
    ·have hge:l.length≤i:=by have:=of_decide_eq_false hb4;omega
     have hN:=all_full hI hge;refine A7 ?_;refine at_drawnI [] mixed (by kernel_rfl) (by kernel_rfl) ?_;refine A5 ?_;refine Rs 40 ?_ ?_<;>intro hb5
     ·have k2:l.length=2:=by have:=eq_of_beq hb5;omega
      obtain⟨v0,hv0⟩:∃v,l[0]? =some v:=⟨l[0]'(by omega),List.getElem?_eq_getElem _⟩;obtain⟨v1,hv1⟩:∃v,l[1]? =some v:=⟨l[1]'(by omega),List.getElem?_eq_getElem _⟩;refine A2 ?_;refine r_indexAddr 0 (pre.length+0*1) u36 ti9 rfl rfl rfl rfl rfl (by omega) (by omega) (pre_ne (SB_ne (by omega))) (by show pre.length+Int.toNat _*1=_;omega) ?_;refine r_load (v:= .string (strU v0)) 0 (pre.length+0*1) _ rfl rfl rfl rfl ti9 (pre_get (SB_get hv0) rfl) rfl (by decide) rfl ?_;refine A2 ?_;refine r_indexAddr 0 (pre.length+1*1) u36 ti9 rfl rfl rfl rfl rfl (by omega) (by omega) (pre_ne (SB_ne (by omega))) (by show pre.length+Int.toNat _*1=_;omega) ?_;refine r_load (v:= .string (strU v1)) 0 (pre.length+1*1) _ rfl rfl rfl rfl ti9 (pre_get (SB_get hv1) rfl) rfl (by decide) rfl ?_;refine A4 ?_;refine Cd ?_ ?_<;>intro hb6
      ·have ke:(v0==v1)=true:=by have hh:=hb6;rw[strU_beq] at hh;exact hh
       refine A7 ?_;refine at_end1 rfl (res_tmp rfl) (fun w hL=>⟨(),eI (by unfold chkQ;rw[if_neg (fun h=>h.elim k1 k3),if_neg (fun h=>h kl),if_neg (by rw[hN];simp),if_pos ⟨k2,by rw[hv0,hv1];simpa using ke⟩]),hL.pk []⟩)
      ·have ke:(v0==v1)=false:=by have hh:=hb6;rw[strU_beq] at hh;exact hh
       refine A4 ?_;refine at_regionM ?_;refine A1 ?_;refine Ld 2 2 [_,_,_,_,_,_,_] ti30 ?_;refine Kr 52 (z.v) ?_;refine Gm 0 [] [1] (fun _=>[_,_,_]) (c_CheckExpr z hf) (fun _=>?_);refine A9 ?_;refine Cd ?_ ?_<;>intro hb7
       ·have kc:chkE x≠0:=by simpa using hb7
        refine A8 ?_;refine at_end1 rfl (res_tmp rfl) (fun w hL=>⟨(),eI (by unfold chkQ;rw[if_neg (fun h=>h.elim k1 k3),if_neg (fun h=>h kl),if_neg (by rw[hN];simp),if_neg (fun h=>by have h2:=h.2;rw[hv0,hv1] at h2;rw[Option.some.inj h2,beq_self_eq_true] at ke;cases ke),if_pos kc]),hL.pk []⟩)
       ·have kc:chkE x=0:=by simpa using hb7
        refine A4 ?_;refine at_regionM ?_;refine A1 ?_;refine Ld 2 2 [_,_,_,_,_,_,_] ti30 ?_;refine Kr 58 (z.v) ?_;refine Gm 0 [] [1] (fun s=>[_,_,_,VR s]) (c_Variables z hM) (fun s=>?_);refine A5 ?_;refine El (ι:={i:Nat // i≤(varsU x).length∧((varsU x).take i).all l.contains=true}) (fun⟨i,hi,hI⟩=>([(1,.pointer (some ⟨g0,0,none⟩)),(59,slv s.b 0 (varsU x).length s.cap),(60,.int .i64 ((varsU x).length:Nat)),(61,.int .i64 (i:Nat))],[VBk b e pre l n,gB z.T false,QBx g0 kind b pre l cap z,VR s],(varsU x).length-i)) ⟨0,Nat.zero_le _,rfl⟩ ?_;rintro⟨i,hi,hI⟩;(try dsimp only);refine A6 ?_;refine Cd ?_ ?_<;>intro hb9
        ·have hlt:i<(varsU x).length:=by have:=of_decide_eq_true hb9;omega
         obtain⟨u,hu⟩:∃v,(varsU x)[i]? =some v:=⟨(varsU x)[i],List.getElem?_eq_getElem hlt⟩;refine A6 ?_;refine Ix 3 (i*1) ?_;refine r_load (v:= .string (strU u)) 3 (i*1) _ rfl rfl rfl rfl ti9 (SB_get hu) rfl (by decide) rfl ?_;refine A8 ?_;refine r_scall0 [slv b pre.length l.length cap,.string (strU u)] [0] rfl rfl rfl (c_Contains b e pre l n cap hll u) ⟨⟨_,rfl,Blk.le_refl _⟩,trivial⟩ rfl ?_;refine A3 ?_;refine Cd ?_ ?_<;>intro hb10
         ·have huc:l.contains u=false:=by simpa using hb10
          refine A11 ?_;refine at_end1 rfl (res_tmp rfl) (fun w hL=>⟨(),eI (by unfold chkQ;rw[if_neg (fun h=>h.elim k1 k3),if_neg (fun h=>h kl),if_neg (by rw[hN];simp),if_neg (fun h=>by have h2:=h.2;rw[hv0,hv1] at h2;rw[Option.some.inj h2,beq_self_eq_true] at ke;cases ke),if_neg (fun h=>h kc),if_pos (all_false_at hu huc)]),hL.pk []⟩)
         ·have huc:l.contains u=true:=by simpa using hb10
          refine A4 ?_;refine Ar (((i+1:Nat):Int)) ?_;refine A3 ?_;exact Nl ⟨i+1,hlt,all_step hI hu huc⟩
        ·have hge:(varsU x).length≤i:=by have:=of_decide_eq_false hb9;omega
         have hV:=all_full hI hge;refine A11 ?_;refine at_end1 rfl (res_tmp rfl) (fun w hL=>⟨(),eI (by unfold chkQ;rw[if_neg (fun h=>h.elim k1 k3),if_neg (fun h=>h kl),if_neg (by rw[hN];simp),if_neg (fun h=>by have h2:=h.2;rw[hv0,hv1] at h2;rw[Option.some.inj h2,beq_self_eq_true] at ke;cases ke),if_neg (fun h=>h kc),if_neg (by rw[hV];simp)]),hL.pk []⟩)
     ·have k2:l.length≠2:=by have:=ne_of_beq_false hb5;omega
      refine A17 ?_;refine at_regionM ?_;refine A1 ?_;refine Ld 2 2 [_,_,_,_,_,_,_] ti30 ?_;refine Kr 52 (z.v) ?_;refine Gm 0 [] [1] (fun _=>[_,_,_]) (c_CheckExpr z hf) (fun _=>?_);refine A9 ?_;refine Cd ?_ ?_<;>intro hb6
      ·have kc:chkE x≠0:=by simpa using hb6
       refine A8 ?_;refine at_end1 rfl (res_tmp rfl) (fun w hL=>⟨(),eI (by unfold chkQ;rw[if_neg (fun h=>h.elim k1 k3),if_neg (fun h=>h kl),if_neg (by rw[hN];simp),if_neg (fun h=>k2 h.1),if_pos kc]),hL.pk []⟩)
      ·have kc:chkE x=0:=by simpa using hb6
       refine A4 ?_;refine at_regionM ?_;refine A1 ?_;refine Ld 2 2 [_,_,_,_,_,_,_] ti30 ?_;refine Kr 58 (z.v) ?_;refine Gm 0 [] [1] (fun s=>[_,_,_,VR s]) (c_Variables z hM) (fun s=>?_);refine A5 ?_;refine El (ι:={i:Nat // i≤(varsU x).length∧((varsU x).take i).all l.contains=true}) (fun⟨i,hi,hI⟩=>([(1,.pointer (some ⟨g0,0,none⟩)),(59,slv s.b 0 (varsU x).length s.cap),(60,.int .i64 ((varsU x).length:Nat)),(61,.int .i64 (i:Nat))],[VBk b e pre l n,gB z.T false,QBx g0 kind b pre l cap z,VR s],(varsU x).length-i)) ⟨0,Nat.zero_le _,rfl⟩ ?_;rintro⟨i,hi,hI⟩;(try dsimp only);refine A6 ?_;refine Cd ?_ ?_<;>intro hb8
       ·have hlt:i<(varsU x).length:=by have:=of_decide_eq_true hb8;omega
        obtain⟨u,hu⟩:∃v,(varsU x)[i]? =some v:=⟨(varsU x)[i],List.getElem?_eq_getElem hlt⟩;refine A6 ?_;refine Ix 3 (i*1) ?_;refine r_load (v:= .string (strU u)) 3 (i*1) _ rfl rfl rfl rfl ti9 (SB_get hu) rfl (by decide) rfl ?_;refine A8 ?_;refine r_scall0 [slv b pre.length l.length cap,.string (strU u)] [0] rfl rfl rfl (c_Contains b e pre l n cap hll u) ⟨⟨_,rfl,Blk.le_refl _⟩,trivial⟩ rfl ?_;refine A3 ?_;refine Cd ?_ ?_<;>intro hb9
        ·have huc:l.contains u=false:=by simpa using hb9
         refine A11 ?_;refine at_end1 rfl (res_tmp rfl) (fun w hL=>⟨(),eI (by unfold chkQ;rw[if_neg (fun h=>h.elim k1 k3),if_neg (fun h=>h kl),if_neg (by rw[hN];simp),if_neg (fun h=>k2 h.1),if_neg (fun h=>h kc),if_pos (all_false_at hu huc)]),hL.pk []⟩)
        ·have huc:l.contains u=true:=by simpa using hb9
         refine A4 ?_;refine Ar (((i+1:Nat):Int)) ?_;refine A3 ?_;exact Nl ⟨i+1,hlt,all_step hI hu huc⟩
       ·have hge:(varsU x).length≤i:=by have:=of_decide_eq_false hb8;omega
        have hV:=all_full hI hge;refine A11 ?_;refine at_end1 rfl (res_tmp rfl) (fun w hL=>⟨(),eI (by unfold chkQ;rw[if_neg (fun h=>h.elim k1 k3),if_neg (fun h=>h kl),if_neg (by rw[hN];simp),if_neg (fun h=>k2 h.1),if_neg (fun h=>h kc),if_neg (by rw[hV];simp)]),hL.pk []⟩)
end Go.Proofs.YtfijbadahkmhbaaGreatDoor
namespace Go.Via
open Go Go.RowKit
def p0(s:Bs8):Ps:=⟨s,0,0,0,[],0,0,false⟩
abbrev XBr(g:Nat){x:XT}(z:XR x):Blk:=⟨some g,30,z.cs,7,false⟩
def Ps.endP(p:Ps):Ps:=if p.fail=false∧p.k≠0 then p.stop 15 else p
def Ps.endA(p:Ps):Nat:=if p.endP.fail=true then p.endP.bat else 0
def Ps.endE(p:Ps)(e:Nat):Nat:=if p.endP.fail=true then p.endP.be else e
end Go.Via
namespace Go.Proofs.YtfijbadahkmhbaaGreatDoor
open Go Go.RowKit Go.Via
theorem c_start_ok(s:Bs8)(hs:s.length≤4096):ECall Tryz.prog 61 [] [.string (strU s)] Nat (fun g=> .tuple #[.pointer (some ⟨g,0,none⟩),.int .i64 0]) (fun g=>[PB g (p0 s).adv true]):=by
 refine⟨by kernel_rfl,fun B w hD hL0=>?_⟩;refine cB1 14 Tryz.func61 hL0 ?_;refine A11 ?_;refine r_know 6 (.int .i64 (s.length:Nat)) rfl (by rw[strU_size]) ?_;refine A3 ?_;refine Cd ?_ ?_<;>intro hb0
 ·exact absurd (of_decide_eq_true hb0) (by omega)
 ·refine A5 ?_;refine r_build [(0,_)] rfl rfl rfl (bd141_1) ?_;refine Bo [_,_,_,_,_,_,_,_] 8 (fun g=>[⟨some g,141,_,8,true⟩]) (fun g0=>?_);refine A4 ?_;refine at_regionM ?_;refine A1 ?_;refine Gm 1 [0] [] (fun _=>[PB g0 (p0 s).adv true]) (c_p_advance (p0 s) ⟨hs,Nat.zero_le _⟩ g0) (fun _=>?_);refine A10 ?_;refine at_end2 rfl (res_tmp rfl) (res_tmp rfl) (fun w hL=>⟨g0,rfl,hL⟩)
theorem c_ParseExpr_1{x:XT}(z:XR x)(hf:x.fit=true)(gx:Nat):ECall Tryz.prog 64 [XBr gx z,gB z.T false] [.pointer (some ⟨gx,0,none⟩)] Unit (fun _=> .int .i64 (chkE x:Nat)) (fun _=>[]):=by
 refine⟨by kernel_rfl,fun B w hD hL0=>?_⟩;refine cB1 4 Tryz.func64 hL0 ?_;refine A6 ?_;refine at_regionM ?_;refine Ld 0 0 [_,_,_,_,_,_,_] ti30 ?_;refine Kr 2 (z.v) ?_;refine Gm 0 [] [1] (fun _=>[_,_]) (c_CheckExpr z hf) (fun _=>?_);refine A4 ?_;refine E1 fun w hL=>⟨(),rfl,hL.pk []⟩
theorem c_p_end_x(p:Ps)(g:Nat){x:XT}(z:XR x)(hf:x.fit=true)(gx:Nat):ECall Tryz.prog 63 [PB g p true,XBr gx z,gB z.T false] [.pointer (some ⟨g,0,none⟩),.func (.func 64) #[] #[.pointer (some ⟨gx,0,none⟩)]] Unit (fun _=> .tuple #[.int .i64 (p.endA:Nat),.int .i64 (p.endE (chkE x):Nat)]) (fun _=>[PB g p.endP true]):=by
 refine⟨by kernel_rfl,fun B w hD hL0=>?_⟩;refine cB2 37 Tryz.func63 hL0 ?_;refine A15 ?_;refine Rs 11 ?_ ?_<;>intro hb0
 ·have hfl:p.fail=false:=by simpa using hb0
  refine A9 ?_;refine Cd ?_ ?_<;>intro hb1
  ·have hk0:p.k≠0:=by have hh:=hb1;simp only[bne_iff_ne,bne_eq_false_iff_eq,ne_eq] at hh;omega
   refine at_regionM ?_;refine A1 ?_;refine Gm 1 [0] [] (fun _=>[PB g (p.stop 15) true,_,_]) (c_p_stop p 15 g) (fun _=>?_);refine A11 ?_;refine Cd ?_ ?_<;>intro hb2
   ·have hf2:=hb2;refine A1 ?_;refine at_drawnI [2000000] mixed (by kernel_rfl) (by kernel_rfl) ?_;refine A16 ?_;refine at_end2 rfl (res_tmp rfl) (res_tmp rfl) (fun w hL=>by
 have hE:p.endP=p.stop 15:=(by unfold Ps.endP;rw[if_pos ⟨hfl,hk0⟩]);refine⟨(),?_,?_⟩
 ·unfold Ps.endA Ps.endE;rw[hE,if_pos hf2,if_pos hf2];try rfl
 ·rw[hE];exact hL.pk [some 0])
   ·have hf2:=hb2;refine A3 ?_;refine at_regionM ?_;refine A1 ?_;refine r_gfcallM (f:=64) (A:=[]) (C:=[XBr gx z,gB z.T false]) [] [.pointer (some ⟨gx,0,none⟩)] [] [1,2] (fun _=>[_,_,_]) rfl rfl rfl rfl rfl (c_ParseExpr_1 z hf gx) (by decide) rfl rfl ⟨⟨_,rfl,Blk.le_refl _⟩,⟨_,rfl,Blk.le_refl _⟩,trivial⟩ rfl rfl (fun _=>rfl) (fun _=>allOwn rfl) (fun _=>rfl) (fun _=>?_);refine A5 ?_;refine at_end2 rfl (res_tmp rfl) (res_tmp rfl) (fun w hL=>by
 have hE:p.endP=p.stop 15:=(by unfold Ps.endP;rw[if_pos ⟨hfl,hk0⟩]);refine⟨(),?_,?_⟩
 ·unfold Ps.endA Ps.endE;rw[hE,if_neg (by rw[hf2];simp),if_neg (by rw[hf2];simp)];try rfl
 ·rw[hE];exact hL.pk [some 0])
  ·have hk0:p.k=0:=by have hh:=hb1;simp only[bne_iff_ne,bne_eq_false_iff_eq,ne_eq] at hh;omega
   refine A11 ?_;refine Cd ?_ ?_<;>intro hb2
   ·have hf2:=hb2;refine A1 ?_;refine at_drawnI [2000000] mixed (by kernel_rfl) (by kernel_rfl) ?_;refine A16 ?_;refine at_end2 rfl (res_tmp rfl) (res_tmp rfl) (fun w hL=>by
 have hE:p.endP=p:=(by unfold Ps.endP;rw[if_neg (fun h=>h.2 hk0)]);refine⟨(),?_,?_⟩
 ·unfold Ps.endA Ps.endE;rw[hE,if_pos hf2,if_pos hf2];try rfl
 ·rw[hE];exact hL.pk [some 0])
   ·have hf2:=hb2;refine A3 ?_;refine at_regionM ?_;refine A1 ?_;refine r_gfcallM (f:=64) (A:=[]) (C:=[XBr gx z,gB z.T false]) [] [.pointer (some ⟨gx,0,none⟩)] [] [1,2] (fun _=>[_,_,_]) rfl rfl rfl rfl rfl (c_ParseExpr_1 z hf gx) (by decide) rfl rfl ⟨⟨_,rfl,Blk.le_refl _⟩,⟨_,rfl,Blk.le_refl _⟩,trivial⟩ rfl rfl (fun _=>rfl) (fun _=>allOwn rfl) (fun _=>rfl) (fun _=>?_);refine A5 ?_;refine at_end2 rfl (res_tmp rfl) (res_tmp rfl) (fun w hL=>by
 have hE:p.endP=p:=(by unfold Ps.endP;rw[if_neg (fun h=>h.2 hk0)]);refine⟨(),?_,?_⟩
 ·unfold Ps.endA Ps.endE;rw[hE,if_neg (by rw[hf2];simp),if_neg (by rw[hf2];simp)];try rfl
 ·rw[hE];exact hL.pk [some 0])
 ·have hfl:p.fail=true:=by simpa using hb0
  refine A21 ?_;refine Cd ?_ ?_<;>intro hb1
  ·have hf2:=hb1;refine A1 ?_;refine at_drawnI [2000000] mixed (by kernel_rfl) (by kernel_rfl) ?_;refine A16 ?_;refine at_end2 rfl (res_tmp rfl) (res_tmp rfl) (fun w hL=>by
 have hE:p.endP=p:=(by unfold Ps.endP;rw[if_neg (fun h=>by rw[hfl] at h;cases h.1)]);refine⟨(),?_,?_⟩
 ·unfold Ps.endA Ps.endE;rw[hE,if_pos hf2,if_pos hf2];try rfl
 ·rw[hE];exact hL.pk [some 0])
  ·have hf2:=hb1;refine A3 ?_;refine at_regionM ?_;refine A1 ?_;refine r_gfcallM (f:=64) (A:=[]) (C:=[XBr gx z,gB z.T false]) [] [.pointer (some ⟨gx,0,none⟩)] [] [1,2] (fun _=>[_,_,_]) rfl rfl rfl rfl rfl (c_ParseExpr_1 z hf gx) (by decide) rfl rfl ⟨⟨_,rfl,Blk.le_refl _⟩,⟨_,rfl,Blk.le_refl _⟩,trivial⟩ rfl rfl (fun _=>rfl) (fun _=>allOwn rfl) (fun _=>rfl) (fun _=>?_);refine A5 ?_;refine at_end2 rfl (res_tmp rfl) (res_tmp rfl) (fun w hL=>by
 have hE:p.endP=p:=(by unfold Ps.endP;rw[if_neg (fun h=>by rw[hfl] at h;cases h.1)]);refine⟨(),?_,?_⟩
 ·unfold Ps.endA Ps.endE;rw[hE,if_neg (by rw[hf2];simp),if_neg (by rw[hf2];simp)];try rfl
 ·rw[hE];exact hL.pk [some 0])
end Go.Proofs.YtfijbadahkmhbaaGreatDoor
namespace Go.Via
open Go Go.RowKit
noncomputable def peV(r:XT×Ps)(z:XR r.1):Value:= .tuple #[if r.2.endE (chkE r.1)=0 then z.v else XR.empty.v,.int .i64 ((if r.2.endE (chkE r.1)=0 then 0 else r.2.endA:Nat):Int),.int .i64 (r.2.endE (chkE r.1):Nat)]
theorem peV_no{r:XT×Ps}(z:XR r.1)(h:r.2.endE (chkE r.1)≠0):peV r z= .tuple #[XR.empty.v,.int .i64 (r.2.endA:Nat),.int .i64 (r.2.endE (chkE r.1):Nat)]:=by
 unfold peV
 simp only[if_neg h]
theorem peV_yes{r:XT×Ps}(z:XR r.1)(h:r.2.endE (chkE r.1)=0):peV r z= .tuple #[z.v,.int .i64 0,.int .i64 0]:=by
 unfold peV
 simp only[h,if_true]
 rfl
end Go.Via
namespace Go.Proofs.YtfijbadahkmhbaaGreatDoor
open Go Go.RowKit Go.Via
theorem c_ParseExpr_ok(s:Bs8)(hs:s.length≤4096)(f:Nat)(r:XT×Ps)(hr:lev f 1 (p0 s).adv=some r)(hf:r.1.fit=true):ECall Tryz.prog 31 [] [.string (strU s)] (XR r.1) (fun z=>peV r z) (fun z=>[gB z.T true]):=by
 refine⟨by kernel_rfl,fun B w hD hL0=>?_⟩;refine cB1 29 Tryz.func31 hL0 ?_;refine A2 ?_;refine r_alloc [_,_,_,_,_,_,_] 7 (fun g=>[⟨some g,30,_,7,true⟩]) rfl rfl z30 rfl rfl (fun _=>rfl) (fun g0=>?_);refine A5 ?_;refine at_regionM ?_;refine A1 ?_;refine Gm 0 [] [] (fun g=>[_,PB g (p0 s).adv true]) (c_start_ok s hs) (fun g=>?_);refine A14 ?_;refine Cd ?_ ?_<;>intro hb0
 ·exact absurd hb0 (by decide)
 ·refine A3 ?_;refine at_regionM ?_;refine A1 ?_;refine r_gcallM (A:=[PB g (p0 s).adv true]) (C:=[]) [.pointer (some ⟨g,0,none⟩),.int .i64 (1:Nat)] [1] [] (fun z=>[_,PB g r.2 true,gB z.T true]) rfl rfl rfl rfl (c_p_level f g 1 (p0 s).adv r (Ps.adv_good ⟨hs,Nat.zero_le _⟩) (by decide) (by decide) hr) (by decide) rfl rfl trivial rfl rfl (fun _=>rfl) (fun _=>allOwn rfl) (fun _=>rfl) (fun z=>?_);refine So 0 0 [⟨some g0,30,_,7,true⟩,_,_] [_,_,_,_,_,_,_] ?_;refine A3 ?_;refine at_regionM ?_;refine A2 ?_;refine r_gcallM (A:=[PB g r.2 true]) (C:=[XBr g0 z,gB z.T false]) [.pointer (some ⟨g,0,none⟩),.func (.func 64) #[] #[.pointer (some ⟨g0,0,none⟩)]] [1] [0,2] (fun _=>[_,PB g r.2.endP true,_]) rfl rfl rfl rfl (c_p_end_x r.2 g z hf g0) (by decide) rfl rfl ⟨⟨_,rfl,le_share⟩,⟨_,rfl,le_share⟩,trivial⟩ rfl rfl (fun _=>rfl) (fun _=>allOwn rfl) (fun _=>rfl) (fun _=>?_);refine A14 ?_;refine Cd ?_ ?_<;>intro hb1
  ·have hE:r.2.endE (chkE r.1)≠0:=by simpa using hb1
   refine A2 ?_;refine r_build [] rfl rfl rfl (bd30_0) ?_;refine A2 ?_;refine So 0 0 [⟨some g0,30,_,7,true⟩,_,_] [_,_,_,_,_,_,_] ?_;refine A6 ?_;refine at_end3 rfl (res_cell 0 rfl rfl ti30 (vs:=[_,_,_,_,_,_,_]) rfl rfl (Nat.le_of_ble_eq_true rfl) rfl) (res_tmp rfl) (res_tmp rfl) (fun w hL=>⟨z,by exact congrArg Ending.returned (peV_no z hE).symm,hL.pk [some 2]⟩)
  ·have hE:r.2.endE (chkE r.1)=0:=by simpa using hb1
   refine A4 ?_;refine Ld 0 0 [_,_,_,_,_,_,_] ti30 ?_;refine So 0 0 [⟨some g0,30,_,7,true⟩,_,_] [_,_,_,_,_,_,_] ?_;refine A5 ?_;refine at_end3 rfl (res_cell 0 rfl rfl ti30 (vs:=[_,_,_,_,_,_,_]) rfl rfl (Nat.le_of_ble_eq_true rfl) rfl) (res_tmp rfl) (res_tmp rfl) (fun w hL=>⟨z,by exact congrArg Ending.returned (peV_yes z hE).symm,hL.pk [some 2]⟩)
end Go.Proofs.YtfijbadahkmhbaaGreatDoor
namespace Go.Via
open Go Go.RowKit
end Go.Via
namespace Go.Proofs.YtfijbadahkmhbaaGreatDoor
open Go Go.RowKit Go.Via
theorem byS{p:XT→Prop}(h:∀x:XT,(∀y:XT,y.size<x.size→p y)→p x)(x:XT):p x:=by
 suffices k:∀n:Nat,∀x:XT,x.size<n→p x from k _ x (Nat.lt_succ_self _)
 intro n
 induction n with
 |zero=>intro x hx;omega
 |succ n ih=>exact fun x hx=>h x fun y hy=>ih y (by omega)
end Go.Proofs.YtfijbadahkmhbaaGreatDoor
namespace Go.Via
open Go Go.RowKit
theorem lex_txt{x:XT}(hx:okX x){g:Bs8}(hg:g≠[])(hs:∀c∈g,spL.contains c=true):Lex (render g (pcs x 1)) (toks (pcs x 1)++[(0,[])]):=by
 have h:=sep_pcs x 1 [] hx trivial (fun b h=>by cases h)
 rw[List.append_nil] at h
 exact lex_pcs hg hs _ h
def Reads(s:Bs8)(x:XT):Prop:=∃f r,lev f 1 (p0 s).adv=some (x,r)∧r.fail=false∧r.k=0
theorem okR_end(n:Nat):okR n (0,[]):=fun o _ _=>rfl
theorem reads_of{s:Bs8}{x:XT}(h:Lex s (toks (pcs x 1)++[(0,[])]))(hx:okX x)(hq:qX x):Reads s x:=by
 obtain⟨r,h1,h2,h3⟩:=(read_all x.size x (Nat.le_refl _) hx hq).1 1 (by decide) (by decide) (p0 s).adv (0,[]) [] (by rw[adv_fail];rfl) (h (p0 s) rfl) (okR_end 1)
 obtain⟨f,hf⟩:=h1.lev
 exact⟨f,r,hf,h2,congrArg Prod.fst h3.1⟩
theorem end_ok{r:Ps}(h:r.fail=false)(hk:r.k=0)(e:Nat):r.endE e=e∧r.endA=0:=by
 have h1:r.endP=r:=by unfold Ps.endP;rw[if_neg (fun c=>c.2 hk)]
 unfold Ps.endE Ps.endA
 rw[h1,h]
 exact⟨rfl,rfl⟩
def rep:Nat→Bs8→Bs8
 |0,_=>[]
 |k+1,w=>rep k w++w
theorem sNot_len:sNot.length=4:=rfl
def aX:XT:= .named 4 [97]
structure X7 where
 op:Int
 nm:ByteArray
 b1:Bool
 s1:ByteArray
 b2:Bool
 s2:ByteArray
 a:Option Addr
 n:Nat
 cap:Nat
def X7.v(w:X7):Value:= .agg #[.int .i64 w.op,.string w.nm,.bool w.b1,.string w.s1,.bool w.b2,.string w.s2,.slice w.a w.n w.cap]
def XR.f7{x:XT}(z:XR x):X7:=⟨z.op,z.nm,z.b1,z.s1,z.b2,z.s2,z.a,z.n,z.cap⟩
end Go.Via
namespace Go.Proofs.YtfijbadahkmhbaaGreatDoor
open Go Go.RowKit Go.Via
theorem c_ParseExpr_reads{s:Bs8}{x:XT}(hs:s.length≤4096)(hr:Reads s x)(hf:x.fit=true):ECall Tryz.prog 31 [] [.string (strU s)] (XR x) (fun z=> .tuple #[(if chkE x=0 then z.f7 else XR.empty.f7).v,.int .i64 0,.int .i64 (chkE x:Nat)]) (fun z=>[gB z.T true]):=by
 obtain⟨f,r,h1,h2,h3⟩:=hr
 have h:=c_ParseExpr_ok s hs f (x,r) h1 hf
 have e:(fun z:XR x=>peV (x,r) z)=fun z=> .tuple #[(if chkE x=0 then z.f7 else XR.empty.f7).v,.int .i64 0,.int .i64 (chkE x:Nat)]:=funext fun z=>by
  unfold peV
  simp only[(end_ok h2 h3 _).1,(end_ok h2 h3 0).2,ite_self]
  split<;>rfl
 exact e▸h
theorem c_ParseExpr_good{s:Bs8}{x:XT}(hs:s.length≤4096)(hr:Reads s x)(h0:chkE x=0)(hf:x.fit=true):ECall Tryz.prog 31 [] [.string (strU s)] (XR x) (fun z=> .tuple #[z.v,.int .i64 0,.int .i64 0]) (fun z=>[gB z.T true]):=by
 have h:=c_ParseExpr_reads hs hr hf
 have e:(fun z:XR x=>Value.tuple #[(if chkE x=0 then z.f7 else XR.empty.f7).v,.int .i64 0,.int .i64 (chkE x:Nat)])=fun z=> .tuple #[z.v,.int .i64 0,.int .i64 0]:=funext fun z=>by
  rw[if_pos h0,h0];rfl
 exact e▸h
end Go.Proofs.YtfijbadahkmhbaaGreatDoor
set_option maxHeartbeats 2000000
namespace Go.Via
open Go Go.RowKit
inductive Kd where
 |lv (n:Nat)
 |sv (n:Nat) (a:XT)
 |pv
 |av (op:Nat) (e:Bs8) (n i:Nat) (l:List XT)
inductive SgP:Ps→Rat→Ps→Prop
 |pos {p:Ps} {q:Rat} (hf:p.fail=false) (hk:p.k=2) (hq:ratTok p.tx=some q):SgP p q p.adv
 |neg {p:Ps} {q:Rat} (hi:p.is tMinus=true) (hk:p.adv.k=2) (hq:ratTok p.adv.tx=some q):SgP p (-q) p.adv.adv
inductive Der:Kd→Ps→XT→Ps→Prop
 |not {p r:Ps} {x:XT} (h:p.is tNot=true) (d:Der (.lv 3) p.adv x r):Der (.lv 3) p (.node 25 [x]) r
 |l3 {p r:Ps} {x:XT} (h:p.is tNot=false) (d:Der (.lv 4) p x r):Der (.lv 3) p x r
 |l8 {p r:Ps} {x:XT} (d:Der .pv p x r):Der (.lv 8) p x r
 |ln {n:Nat} {p q r:Ps} {a x:XT} (h3:n≠3) (h8:n≠8) (d:Der (.lv (n+1)) p a q) (e:Der (.sv n a) q x r):Der (.lv n) p x r
 |stop {n:Nat} {p:Ps} {x:XT} (hf:p.fail=false) (h:opAt n p=none):Der (.sv n x) p x p
 |go {n op:Nat} {p q r:Ps} {x y z:XT} (h4:n≠4) (hf:p.fail=false) (h:opAt n p=some op) (d:Der (.lv (n+1)) p.adv y q) (e:Der (.sv n (.node op [x,y])) q z r):Der (.sv n x) p z r
 |once {op:Nat} {p q:Ps} {x y:XT} (hf:p.fail=false) (h:opAt 4 p=some op) (d:Der (.lv 5) p.adv y q):Der (.sv 4 x) p (.node op [x,y]) q
 |num {p r:Ps} {q:Rat} (h:SgP p q r):Der .pv p (.numd 1 q) r
 |paren {p q:Ps} {x:XT} (h:p.is tOpen=true) (d:Der (.lv 1) p.adv x q) (hs:q.is tShut=true):Der .pv p x q.adv
 |inter {p r:Ps} {x:XT} (h:p.is tOpenB=true) (d:Der (.av 6 tShutB 2 0 []) p.adv x r):Der .pv p x r
 |point {p q r:Ps} {a b:Rat} (h:p.is tPoint=true) (ho:p.adv.is tOpen=true) (d:SgP p.adv.adv a q) (hc:q.is tComma=true) (e:SgP q.adv b r) (hs:r.is tShut=true):Der .pv p (.node 2 [.numd 1 a,.numd 1 b]) r.adv
 |object {p:Ps} {q:Rat} (h:p.is tObject=true) (ho:p.adv.is tOpen=true) (hk:p.adv.adv.k=2) (hq:ratTok p.adv.adv.tx=some q) (hi:idOK q=true) (hs:p.adv.adv.adv.is tShut=true):Der .pv p (.numd 3 q) p.adv.adv.adv.adv
 |zone {p:Ps} (h:p.is tZone=true) (ho:p.adv.is tOpen=true) (hk:p.adv.adv.k=3) (hs:p.adv.adv.adv.is tShut=true):Der .pv p (.named 5 p.adv.adv.tx) p.adv.adv.adv.adv
 |call {p r:Ps} {x:XT} {g:Bs8×Nat×Nat} (hg:g∈funT) (h:p.is g.1=true) (ho:p.adv.is tOpen=true) (d:Der (.av g.2.1 tShut g.2.2 0 []) p.adv.adv x r):Der .pv p x r
 |name {p:Ps} (hf:p.fail=false) (hk:p.k=1) (hr:resL.contains p.tx=false) (hl:p.tx.length≤40) (hn:∀x∈[tMinus,tOpen,tOpenB,tPoint,tObject,tZone],p.is x=false) (hg:funAt p=none):Der .pv p (.named 4 p.tx) p.adv
 |more {op n i:Nat} {e:Bs8} {l:List XT} {p p1 q r:Ps} {x y:XT} (hi:i<n) (hc:0<i→p.is tComma=true) (h1:p1=if 0<i then p.adv else p) (d:Der (.lv 1) p1 y q) (a:Der (.av op e n (i+1) (l++[y])) q x r):Der (.av op e n i l) p x r
 |done {op n i:Nat} {e:Bs8} {l:List XT} {p:Ps} (hi:¬i<n) (he:p.is e=true):Der (.av op e n i l) p (.node op l) p.adv
theorem is_k{p:Ps}{x:Bs8}(h:p.is x=true):(p.k=1∨p.k=4)∧p.tx=x:=by
 unfold Ps.is at h
 simp only[Bool.and_eq_true,Bool.or_eq_true,beq_iff_eq] at h
 exact⟨h.1.2,h.2⟩
mutual
def XT.tiny:XT→Bool
 | .mk _ nm u l=>decide (nm.length≤60)&&decide (u.bytes≤20)&&XT.tinies l
def XT.tinies:List XT→Bool
 |[]=>true
 |x::l=>XT.tiny x&&XT.tinies l
end
theorem XT.tiny_parts{o:Int}{nm:Bs8}{u:NumV}{l:List XT}(h:(XT.mk o nm u l).tiny=true):nm.length≤60∧u.bytes≤20∧XT.tinies l=true:=by
 unfold XT.tiny at h
 simp only[Bool.and_eq_true,decide_eq_true_eq] at h
 exact⟨h.1.1,h.1.2,h.2⟩
theorem szQ_bytes{q:Rat}(h:(mag q.num.natAbs).size+(dm q).size≤20):szQ q≤21:=by
 rw[mag_size] at h
 unfold szQ
 have h5:nb q.den≤(dm q).size+1:=by
  unfold dm
  split
  ·rename_i hd
   rw[hd]
   have:nb 1≤1:=nb_le (k:=1) (by decide)
   omega
  ·rw[mag_size];omega
 omega
theorem NumV.rat_sz{u:NumV}(h:u.bytes≤20):szQ u.rat≤21:=by
 cases u with
 |q r=>exact szQ_bytes h
 |raw b1 s1 b2 s2=>
  cases ho:(NumV.raw b1 s1 b2 s2).ok with
  |true=>
   have h1:=NumV.rat_cells (u:= .raw b1 s1 b2 s2) rfl ho
   generalize(NumV.raw b1 s1 b2 s2).rat=q at h1 ⊢
   have h2:Value.agg #[.bool b1,.string s1,.bool b2,.string s2]=Value.agg #[.bool (decide (q.num<0)),.string (mag q.num.natAbs),.bool false,.string (dm q)]:=h1
   simp only[Value.agg.injEq,Array.mk.injEq,List.cons.injEq,Value.bool.injEq,Value.string.injEq,and_true] at h2
   obtain⟨_,e1,_,e2⟩:=h2
   replace h:s1.size+s2.size≤20:=h
   rw[e1,e2] at h
   exact szQ_bytes h
  |false=>
   have h3:¬∃q:Rat,Value.agg #[.bool b1,.string s1,.bool b2,.string s2]=Q q:=fun hq=>by
    have h4:isQ b1 s1 b2 s2=true:=by unfold isQ;exact @decide_eq_true _ (Classical.propDecidable _) hq
    rw[show isQ b1 s1 b2 s2=false from ho] at h4
    cases h4
   have e:(NumV.raw b1 s1 b2 s2).rat=0:= @dif_neg _ (Classical.propDecidable _) h3 _ _ _
   rw[e]
   have:szQ 0≤21:=by decide+kernel
   exact this
theorem quoS_le2:∀n:Bs8,(quoS n).length≤2*n.length
 |[]=>by simp[quoS]
 |c::n=>by
  have:=quoS_le2 n
  unfold quoS at*
  rw[List.flatMap_cons,List.length_append,List.length_cons]
  by_cases hc:c=34
  ·rw[if_pos hc];show 2+_≤_;omega
  ·rw[if_neg hc];show 1+_≤_;omega
theorem joinC_len:∀L:List Bs8,(joinC L).length≤(L.map fun t=>t.length+2).sum
 |[]=>by simp[joinC]
 |[t]=>by simp[joinC]
 |t::u::r=>by
  have:=joinC_len (u::r)
  rw[joinC,List.length_append,List.length_append,List.map_cons,List.sum_cons]
  simp at this ⊢
  omega
theorem ops_len{f:Bs8×Nat×Nat}(h:f∈opsT):f.1.length≤6:=by
 have:∀o∈opsT,o.1.length≤6:=by decide
 exact this f h
theorem fun_len{f:Bs8×Nat×Nat}(h:f∈funT):f.1.length≤10:=by
 have:∀o∈funT,o.1.length≤10:=by decide
 exact this f h
mutual
theorem txt_len:∀(x:XT) (lv:Nat),x.tiny=true→(txt x lv).length+20≤400*x.size
 | .mk o nm u l,lv,h=>by
   obtain⟨h1,h2,h3⟩:=XT.tiny_parts h
   have hr:=Nat.le_trans (ratS_len u.rat) (by have:=NumV.rat_sz h2;omega:6*szQ u.rat+5≤131)
   have hq:=quoS_le2 nm
   have hA:=txtAt_len l h3
   have hL:=txtLs_sum l h3
   have hJ:=Nat.le_trans (joinC_len (txtLs l)) hL
   rw[txt,XT.size]
   split
   ·rename_i f hf
    have hfl:=ops_len (List.mem_of_find?_eq_some hf)
    have h0:=hA 0 1 3 3 rfl rfl
    have h01:=hA 0 1 (if f.2.2=4 then 5 else f.2.2) (f.2.2+1) rfl rfl
    split
    ·split
     ·simp only[List.length_append,sNot,List.length_cons,List.length_nil];omega
     ·simp only[List.length_append,List.length_cons,List.length_nil];omega
    ·split
     ·simp only[List.length_append,sNot,List.length_cons,List.length_nil];omega
     ·simp only[List.length_append,List.length_cons,List.length_nil];omega
   ·split
    ·omega
    ·split
     ·omega
     ·split
      ·simp only[List.length_append,sObject,List.length_cons,List.length_nil];omega
      ·split
       ·simp only[List.length_append,sZone,List.length_cons,List.length_nil];omega
       ·split
        ·simp only[List.length_append,List.length_cons,List.length_nil];omega
        ·split
         ·simp only[List.length_append,sPoint,List.length_cons,List.length_nil];omega
         ·split
          ·rename_i f hf
           have hfl:=fun_len (List.mem_of_find?_eq_some hf)
           simp only[List.length_append,List.length_cons,List.length_nil];omega
          ·simp only[List.length_nil];omega
theorem txtAt_len:∀(l:List XT),XT.tinies l=true→∀(i j lv lv':Nat),i=0→j=1→(txtAt l i lv).length+(txtAt l j lv').length≤400*XT.sizes l
 |[],_,i,j,lv,lv',_,_=>by simp[txtAt]
 |x::l,h,i,j,lv,lv',hi,hj=>by
  subst hi;subst hj
  rw[XT.tinies,Bool.and_eq_true] at h
  have h1:=txt_len x lv h.1
  have h2:=txtA0_len l h.2 lv'
  rw[txtAt,txtAt,XT.sizes]
  omega
theorem txtA0_len:∀(l:List XT),XT.tinies l=true→∀lv:Nat,(txtAt l 0 lv).length≤400*XT.sizes l
 |[],_,lv=>by simp[txtAt]
 |x::l,h,lv=>by
  rw[XT.tinies,Bool.and_eq_true] at h
  have h1:=txt_len x lv h.1
  rw[txtAt,XT.sizes]
  omega
theorem txtLs_sum:∀(l:List XT),XT.tinies l=true→((txtLs l).map fun t=>t.length+2).sum≤400*XT.sizes l
 |[],_=>by simp[txtLs]
 |x::l,h=>by
  rw[XT.tinies,Bool.and_eq_true] at h
  have h1:=txt_len x 1 h.1
  have h2:=txtLs_sum l h.2
  rw[txtLs,XT.sizes,List.map_cons,List.sum_cons]
  omega
end
end Go.Via
set_option maxHeartbeats 2000000
namespace Go.Via
open Go Go.RowKit
def Kd.all(T:XT→Prop):Kd→Prop
 | .sv _ a=>T a
 | .av _ _ _ _ l=>∀y∈l,T y
 |_=>True
theorem SgP.good{p r:Ps}{q:Rat}(h:SgP p q r)(hp:p.good):r.good∧szQ q≤4096:=by
 cases h with
 |pos hf hk hq=>exact⟨Ps.adv_good hp.1,Nat.le_trans (ratTok_sz (hp.2.1 hk) hq) hp.2.2⟩
 |neg hi hk hq=>
  rename_i q
  have h1:=Ps.adv_good hp.1
  exact⟨Ps.adv_good h1.1,Nat.le_trans (szQ_neg (ratTok_sz (h1.2.1 hk) hq)) h1.2.2⟩
theorem qXs_all:∀{l:List XT},(∀y∈l,qX y)→qXs l
 |[],_=>by rw[qXs];trivial
 |x::l,h=>by rw[qXs];exact⟨h x (List.mem_cons_self ..),qXs_all fun y hy=>h y (List.mem_cons_of_mem _ hy)⟩
def Ps.tl(p:Ps):Nat:=if p.k=3 then(quoS p.tx).length+2 else if p.k=1∨p.k=2∨p.k=4 then p.tx.length else 0
def Ps.tokd(p:Ps):Prop:=p.k=1∨p.k=2∨p.k=3∨p.k=4
theorem quo_len:∀{l n:Bs8} {k:Nat},quo l=some (n,k)→k=(quoS n).length
 |[],n,k,h=>by simp[quo] at h
 |[c],n,k,h=>by
  simp only[quo] at h
  split at h
  ·simp at h;rw[h.1,←h.2];rfl
  ·cases h
 |c::d::l,n,k,h=>by
  rw[quo] at h
  split at h
  ·split at h
   ·cases hq:quo l with
    |none=>rw[hq] at h;simp at h
    |some x=>
     rw[hq] at h
     simp at h
     have:=quo_len (n:=x.1) (k:=x.2) hq
     rw[←h.1,←h.2,this]
     unfold quoS
     rw[List.flatMap_cons,List.length_append,if_pos rfl]
     show _=2+_
     omega
   ·simp at h;rw[h.1,←h.2];rfl
  ·rename_i hc
   cases hq:quo (d::l) with
   |none=>rw[hq] at h;simp at h
   |some x=>
    rw[hq] at h
    simp at h
    have:=quo_len (n:=x.1) (k:=x.2) hq
    rw[←h.1,←h.2,this]
    unfold quoS
    rw[List.flatMap_cons,List.length_append,if_neg hc]
    show _=1+_
    omega
theorem skip_ge(p:Ps):p.pos≤p.skip:=by unfold Ps.skip;omega
theorem adv_pos{p:Ps}(h:p.ok):p.pos≤p.adv.at_∧p.adv.at_+p.adv.tl≤p.adv.pos∧(p.adv.tokd→1≤p.adv.tl):=by
 have hsk:=Ps.skip_le h
 have hge:=skip_ge p
 have tlen:∀j:Nat,p.skip≤j→j≤p.s.length→((p.s.drop p.skip).take (j-p.skip)).length=j-p.skip:=fun j h1 h2=>by
  rw[List.length_take,List.length_drop];omega
 by_cases hi:p.skip=p.s.length
 ·rw[adv_end rfl hi]
  exact⟨hge,Nat.le_refl _,fun hk=>by rcases hk with h|h|h|h<;>cases h⟩
 ·obtain⟨c,hx⟩:∃c,p.s[p.skip]? =some c:=⟨p.s[p.skip]'(by omega),List.getElem?_eq_getElem _⟩
  by_cases h1:isLet c=true
  ·rw[adv_word rfl hx h1 rfl]
   have hw:p.skip+1≤run8 wch p.s p.skip:=by rw[run8_go hx (wch_let h1)];exact run8_ge
   have hl:=tlen _ (run8_ge (f:=wch)) (run8_le hsk)
   refine⟨hge,?_,fun _=>?_⟩
   ·show p.skip+List.length _≤_
    rw[hl];show p.skip+(run8 wch p.s p.skip-p.skip)≤run8 wch p.s p.skip;omega
   ·show 1≤List.length _
    rw[hl];omega
  ·have h1:isLet c=false:=by simpa using h1
   by_cases h2:isDig c=true
   ·rw[adv_num rfl hx h1 h2 rfl]
    have hn:=numLen_le (p.s.drop p.skip)
    rw[List.length_drop] at hn
    have hl:=tlen (p.skip+numLen (p.s.drop p.skip)) (by omega) (by omega)
    have h0:1≤numLen (p.s.drop p.skip):=by
     have hd:1≤dgs (p.s.drop p.skip):=by
      rw[drop_at hx]
      unfold dgs
      rw[List.takeWhile_cons_of_pos h2];simp
     unfold numLen
     split
     ·split<;>omega
     ·exact hd
    refine⟨hge,?_,fun _=>?_⟩
    ·show p.skip+List.length _≤_
     rw[hl];show p.skip+(p.skip+numLen (p.s.drop p.skip)-p.skip)≤p.skip+numLen (p.s.drop p.skip);omega
    ·show 1≤List.length _
     rw[hl];omega
   ·have h2:isDig c=false:=by simpa using h2
    by_cases h3:c=34
    ·rw[adv_quo rfl hx h1 h2 h3]
     unfold Ps.quoted
     dsimp only
     split
     ·rename_i n k hq
      split
      ·refine⟨hge,?_,fun _=>?_⟩
       ·show p.skip+((quoS n).length+2)≤p.skip+k+2
        rw[quo_len hq];omega
       ·show 1≤(quoS n).length+2
        omega
      ·exact⟨hge,Nat.le_refl _,fun hk=>by rcases hk with h|h|h|h<;>cases h⟩
     ·exact⟨hge,Nat.le_refl _,fun hk=>by rcases hk with h|h|h|h<;>cases h⟩
    ·by_cases h4:symL.contains c=true
     ·rw[adv_sym rfl hx h1 h2 h3 h4]
      have hl:=tlen (p.skip+1) (by omega) (by omega)
      refine⟨hge,?_,fun _=>?_⟩
      ·show p.skip+List.length _≤_
       rw[hl];show p.skip+(p.skip+1-p.skip)≤p.skip+1;omega
      ·show 1≤List.length _
       rw[hl];omega
     ·rw[adv_bad rfl hx h1 h2 h3 (by simpa using h4)]
      exact⟨hge,Nat.le_refl _,fun hk=>by rcases hk with h|h|h|h<;>cases h⟩
instance(p:Ps):Decidable p.tokd:=by unfold Ps.tokd;infer_instance
end Go.Via
set_option maxHeartbeats 2000000
namespace Go.Via
open Go Go.RowKit
def Ps.ord(p:Ps):Prop:=p.good∧p.at_+p.tl≤p.pos
theorem adv_ord{p:Ps}(h:p.ord):p.at_+p.tl≤p.adv.at_∧p.adv.ord:=by
 obtain⟨h1,h2,_⟩:=adv_pos h.1.1
 have:=h.2
 exact⟨by omega,Ps.adv_good h.1.1,h2⟩
theorem k2_tl{p:Ps}(h:p.k=2):p.tl=p.tx.length:=by
 unfold Ps.tl
 rw[if_neg (by omega),if_pos (by omega)]
theorem SgP.len{p r:Ps}{q:Rat}(h:SgP p q r)(hp:p.ord):(ratS q).length+11*p.at_≤11*r.at_∧r.ord:=by
 have key:∀{p:Ps} {q u:Rat},p.ord→p.k=2→ratTok p.tx=some q→szQ u≤szQ q→(ratS u).length+11*p.at_≤11*p.adv.at_:=fun {p q u} hp hk hq hu=>by
  have h1:=ratTok_sz (hp.1.2.1 hk) hq
  have h2:=ratS_len u
  have h3:=(adv_ord hp).1
  rw[k2_tl hk] at h3
  have h4:1≤p.tx.length:=by
   have h5:=hp.1.2.1 hk
   cases hx:p.tx with
   |nil=>rw[hx] at h5;cases h5
   |cons c l=>simp
  omega
 cases h with
 |pos hf hk hq=>exact⟨key hp hk hq (Nat.le_refl _),(adv_ord hp).2⟩
 |neg hi hk hq=>
  obtain⟨h1,h2⟩:=adv_ord hp
  have:=key h2 hk hq (szQ_neg (Nat.le_refl _))
  exact⟨by omega,(adv_ord h2).2⟩
end Go.Via
set_option maxHeartbeats 2000000
namespace Go.Via
open Go Go.RowKit
def tokOf:Bs8→Nat×Bs8×Nat
 |[]=>(0,[],0)
 |c::r=>if isLet c=true then(1,(c::r).takeWhile wch,((c::r).takeWhile wch).length) else if isDig c=true then(2,(c::r).take (numLen (c::r)),numLen (c::r))
  else if c=34 then(match quo r with|some (n,k)=>if zoneL n=true then(3,n,k+2) else(5,[],0)|none=>(5,[],0))
  else if symL.contains c=true then(4,[c],1) else(5,[],0)
theorem adv_tok(p:Ps):p.adv.k=(tokOf (p.s.drop p.skip)).1∧p.adv.tx=(tokOf (p.s.drop p.skip)).2.1∧p.adv.s.drop p.adv.pos=(p.s.drop p.skip).drop (tokOf (p.s.drop p.skip)).2.2:=by
 rw[Ps.adv_s]
 unfold Ps.adv
 cases hd:p.s.drop p.skip with
 |nil=>exact⟨rfl,rfl,by show p.s.drop p.skip=_;rw[hd];rfl⟩
 |cons c r=>
  dsimp only
  rw[tokOf]
  by_cases h1:isLet c=true
  ·rw[if_pos h1,if_pos h1]
   refine⟨rfl,?_,?_⟩
   ·show(p.s.drop p.skip).take _=_
    rw[hd]
    exact(List.prefix_iff_eq_take.1 (List.takeWhile_prefix wch)).symm
   ·show p.s.drop (p.skip+_)=_
    rw[←List.drop_drop,hd]
  ·rw[if_neg h1,if_neg h1]
   by_cases h2:isDig c=true
   ·rw[if_pos h2,if_pos h2]
    refine⟨rfl,?_,?_⟩
    ·show(p.s.drop p.skip).take _=_
     rw[hd]
    ·show p.s.drop (p.skip+_)=_
     rw[←List.drop_drop,hd]
   ·rw[if_neg h2,if_neg h2]
    by_cases h3:c=34
    ·rw[if_pos h3,if_pos h3]
     have hr:p.s.drop (p.skip+1)=r:=by rw[←List.drop_drop,hd];rfl
     unfold Ps.quoted
     dsimp only
     rw[hr]
     cases hq:quo r with
     |none=>exact⟨rfl,rfl,by show p.s.drop p.skip=_;rw[hd];rfl⟩
     |some x=>
      obtain⟨n,k⟩:=x
      dsimp only
      by_cases hz:zoneL n=true
      ·rw[if_pos hz,if_pos hz]
       refine⟨rfl,rfl,?_⟩
       show p.s.drop (p.skip+k+2)=_
       rw[show p.skip+k+2=p.skip+(k+2) by omega,←List.drop_drop,hd]
      ·rw[if_neg hz,if_neg hz]
       exact⟨rfl,rfl,by show p.s.drop p.skip=_;rw[hd];rfl⟩
    ·rw[if_neg h3,if_neg h3]
     by_cases h4:symL.contains c=true
     ·rw[if_pos h4,if_pos h4]
      refine⟨rfl,?_,?_⟩
      ·show(p.s.drop p.skip).take 1=_
       rw[hd];rfl
      ·show p.s.drop (p.skip+1)=_
       rw[←List.drop_drop,hd]
     ·rw[if_neg h4,if_neg h4]
      refine⟨rfl,?_,?_⟩
      ·show(p.s.drop p.skip).take 0=_
       rfl
      ·show p.s.drop (p.skip+0)=_
       rw[Nat.add_zero,hd];rfl
section
variable{m:Bs8}
theorem tw_app2{f:UInt8→Bool}(hm:∀c,m.head? =some c→f c=false):∀l:Bs8,(l++m).takeWhile f=l.takeWhile f
 |[]=>by
  cases m with
  |nil=>rfl
  |cons c m=>rw[List.nil_append,List.takeWhile_cons_of_neg (by rw[hm c rfl];simp)];rfl
 |c::l=>by
  rw[List.cons_append]
  by_cases hc:f c=true
  ·rw[List.takeWhile_cons_of_pos hc,List.takeWhile_cons_of_pos hc,tw_app2 hm l]
  ·rw[List.takeWhile_cons_of_neg hc,List.takeWhile_cons_of_neg hc]
theorem dgs_app(hb:brk m)(l:Bs8):dgs (l++m)=dgs l:=by unfold dgs;rw[tw_app2 (fun c hc=>(wch_parts (hb c hc).1).2)]
theorem numLen_app(hb:brk m)(l:Bs8):numLen (l++m)=numLen l:=by
 unfold numLen
 rw[dgs_app hb,List.drop_append_of_le_length (dgs_le l)]
 cases hd:l.drop (dgs l) with
 |nil=>
  rw[List.nil_append]
  split
  ·exact absurd rfl (hb 47 rfl).2
  ·rfl
 |cons x r=>
  rw[List.cons_append]
  cases r with
  |nil=>
   cases m with
   |nil=>rfl
   |cons y m=>
    show(match x::y::m with|47::c::r=>if isDig c=true then dgs l+1+dgs (c::r) else dgs l|_=>dgs l)=_
    split
    ·rename_i c r he
     simp only[List.cons.injEq] at he
     rw[←he.2.1,if_neg (by rw[(wch_parts (hb y rfl).1).2];simp)]
     split
     ·rename_i he2;simp at he2
     ·rfl
    ·split
     ·rename_i he2;simp at he2
     ·rfl
  |cons y r=>
   show(match x::y::(r++m) with|47::c::r=>if isDig c=true then dgs l+1+dgs (c::r) else dgs l|_=>dgs l)=_
   split
   ·rename_i c r2 he
    simp only[List.cons.injEq] at he
    obtain⟨rfl,rfl,rfl⟩:=he
    show(if isDig y=true then dgs l+1+dgs (y::r++m) else dgs l)=_
    rw[dgs_app hb];rfl
   ·rename_i hno
    split
    ·rename_i c r2 he
     simp only[List.cons.injEq] at he
     exact absurd (by rw[he.1]) (hno y (r++m))
    ·rfl
theorem quo_no:∀k:Bs8,(∀c∈k,c≠34)→quo k=none
 |[],_=>rfl
 |[c],h=>by rw[quo,if_neg (h c (List.mem_cons_self ..))]
 |c::d::k,h=>by rw[quo,if_neg (h c (List.mem_cons_self ..)),quo_no (d::k) fun e he=>h e (List.mem_cons_of_mem _ he)];rfl
theorem quo_app(hq:∀c∈m,c≠34):∀l:Bs8,quo (l++m)=quo l
 |[]=>quo_no m hq
 |[c]=>by
  have h0:=quo_no m hq
  cases m with
  |nil=>rfl
  |cons d m=>
   have hd:=hq d (List.mem_cons_self ..)
   have e1:quo [c]=if c=34 then some ([],0) else none:=by rw[quo]
   have e2:quo (c::d::m)=if c=34 then(if d=34 then(quo m).map fun x=>(34::x.1,x.2+2) else some ([],0)) else(quo (d::m)).map fun x=>(c::x.1,x.2+1):=by rw[quo]
   show quo (c::d::m)=_
   rw[e1,e2,h0,if_neg hd];rfl
 |c::d::l=>by
  have h1:=quo_app hq l
  have h2:=quo_app hq (d::l)
  rw[List.cons_append] at h2
  rw[List.cons_append,List.cons_append,quo,quo,h1,h2]
theorem tokOf_app(hb:brk m)(hq:∀c∈m,c≠34){l:Bs8}(hl:l≠[]):tokOf (l++m)=tokOf l:=by
 cases l with
 |nil=>exact absurd rfl hl
 |cons c r=>
  have h1:=tw_app2 (f:=wch) (fun c hc=>(hb c hc).1) (c::r)
  have h2:=numLen_app hb (c::r)
  rw[List.cons_append] at h1 h2
  rw[List.cons_append,tokOf,tokOf,h1,h2,quo_app hq]
  have h3:(c::(r++m)).take (numLen (c::r))=(c::r).take (numLen (c::r)):=by
   rw[←List.cons_append,List.take_append_of_le_length (numLen_le _)]
  rw[h3]
theorem tokOf_len(l:Bs8):(tokOf l).2.2≤l.length:=by
 cases l with
 |nil=>exact Nat.le_refl _
 |cons c r=>
  rw[tokOf]
  split
  ·exact(List.takeWhile_prefix wch).length_le
  ·split
   ·exact numLen_le _
   ·split
    ·split
     ·rename_i n k hq
      have:=quo_lt hq
      split
      ·show k+2≤(c::r).length
       rw[List.length_cons];omega
      ·exact Nat.zero_le _
     ·exact Nat.zero_le _
    ·split
     ·show 1≤(c::r).length
      rw[List.length_cons];omega
     ·exact Nat.zero_le _
end
theorem skip_split(p:Ps):∃g,(∀c∈g,spL.contains c=true)∧p.s.drop p.pos=g++p.s.drop p.skip∧∀c,(p.s.drop p.skip).head? =some c→spL.contains c=false:=by
 have key:∀l:Bs8,(∀c∈l.takeWhile spL.contains,spL.contains c=true)∧l=l.takeWhile spL.contains++l.drop (l.takeWhile spL.contains).length∧∀c,(l.drop (l.takeWhile spL.contains).length).head? =some c→spL.contains c=false:=fun l=>by
  induction l with
  |nil=>exact⟨fun c h=>(by cases h),rfl,fun c h=>(by cases h)⟩
  |cons c l ih=>
   by_cases hc:spL.contains c=true
   ·rw[List.takeWhile_cons_of_pos hc]
    refine⟨fun d hd=>?_,?_,ih.2.2⟩
    ·rcases List.mem_cons.1 hd with rfl|hd
     ·exact hc
     ·exact ih.1 d hd
    ·rw[List.cons_append];exact congrArg _ ih.2.1
   ·rw[List.takeWhile_cons_of_neg hc]
    exact⟨fun d hd=>(by cases hd),rfl,fun d hd=>by
 have:c=d:=by simpa using hd
 rw[←this];simpa using hc⟩
 obtain⟨h1,h2,h3⟩:=key (p.s.drop p.pos)
 unfold Ps.skip
 rw[←List.drop_drop]
 exact⟨_,h1,h2,h3⟩
theorem skip_of{q:Ps}{g l:Bs8}(h:q.s.drop q.pos=g++l)(hg:∀c∈g,spL.contains c=true)(hl:∀c,l.head? =some c→spL.contains c=false):q.s.drop q.skip=l:=by
 unfold Ps.skip
 rw[←List.drop_drop,h,tw_stop hg hl,List.drop_left]
def Co(m:Bs8)(p q:Ps):Prop:=p.fail=false∧q.fail=false∧
 ((p.k≠0∧p.k=q.k∧p.tx=q.tx∧q.s.drop q.pos=p.s.drop p.pos++m)∨(p.k=0∧(q.k,q.tx)=(4,tShut)∧q.adv.k=0))
section
variable{m:Bs8}
theorem Co.adv0(hb:brk m)(hq:∀c∈m,c≠34)(hm:Lex m [(4,tShut),(0,[])]){p q:Ps}(hp:p.fail=false)(hf:q.fail=false){g:Bs8}(hg:∀c∈g,spL.contains c=true)(h:q.s.drop q.pos=g++(p.s.drop p.pos++m)):Co m p.adv q.adv:=by
 refine⟨by rw[adv_fail,hp],by rw[adv_fail,hf],?_⟩
 obtain⟨g2,hg2,hs,hh⟩:=skip_split p
 by_cases hl:p.s.drop p.skip=[]
 ·right
  obtain⟨a1,_,_⟩:=adv_tok p
  rw[hl] at a1 hs
  rw[hs,List.append_nil] at h
  have hx:=Lex.sps hg (Lex.sps hg2 hm) q h
  exact⟨a1,hx.1,congrArg Prod.fst hx.2.1⟩
 ·left
  rw[hs] at h
  have hsk:q.s.drop q.skip=p.s.drop p.skip++m:=skip_of (g:=g++g2) (by rw[h];simp) (fun c hc=>by
 rcases List.mem_append.1 hc with hc|hc
 ·exact hg c hc
 ·exact hg2 c hc) fun c hc=>by
   cases hd:p.s.drop p.skip with
   |nil=>exact absurd hd hl
   |cons d r=>
    rw[hd] at hc hh
    exact hh c hc
  obtain⟨a1,a2,a3⟩:=adv_tok p
  obtain⟨b1,b2,b3⟩:=adv_tok q
  rw[hsk,tokOf_app hb hq hl] at b1 b2 b3
  refine⟨?_,by rw[a1,b1],by rw[a2,b2],?_⟩
  ·rw[a1]
   cases hd:p.s.drop p.skip with
   |nil=>exact absurd hd hl
   |cons c r=>
    rw[tokOf]
    split
    ·simp
    ·split
     ·simp
     ·split
      ·split
       ·split<;>simp
       ·simp
      ·split<;>simp
  ·rw[b3,a3,List.drop_append_of_le_length (tokOf_len _)]
theorem Co.adv{p q:Ps}(hb:brk m)(hq:∀c∈m,c≠34)(hm:Lex m [(4,tShut),(0,[])])(h:Co m p q)(hk:p.tokd):Co m p.adv q.adv:=by
 obtain⟨h1,h2,⟨_,_,_,h3⟩|⟨h3,_⟩⟩:=h
 ·exact Co.adv0 hb hq hm h1 h2 (g:=[]) (fun c hc=>by cases hc) h3
 ·rcases hk with h|h|h|h<;>rw[h3] at h<;>cases h
theorem Co.is_t{p q:Ps}(h:Co m p q){x:Bs8}(hi:p.is x=true):q.is x=true:=by
 obtain⟨h1,h2,⟨_,h3,h4,_⟩|⟨h3,_⟩⟩:=h
 ·unfold Ps.is at hi ⊢
  rw[h1] at hi
  rw[h2,←h3,←h4];exact hi
 ·rcases(is_k hi).1 with h|h<;>rw[h3] at h<;>cases h
theorem Co.is_f{p q:Ps}(h:Co m p q){x:Bs8}(hx:x≠tShut)(hi:p.is x=false):q.is x=false:=by
 obtain⟨h1,h2,⟨_,h3,h4,_⟩|⟨h3,h4,_⟩⟩:=h
 ·unfold Ps.is at hi ⊢
  rw[h1] at hi
  rw[h2,←h3,←h4];exact hi
 ·rw[is_tk h2 h4]
  unfold tIs
  rw[beq_false_of_ne (fun e=>hx e.symm),Bool.and_false]
theorem Co.op{p q:Ps}(h:Co m p q)(n:Nat):opAt n q=opAt n p:=by
 unfold opAt
 congr 1
 have:∀o∈opsT,(o.2.2==n&&q.is o.1)=(o.2.2==n&&p.is o.1):=fun o ho=>by
  cases hp:p.is o.1 with
  |true=>rw[h.is_t hp]
  |false=>
   have hne:∀o∈opsT,o.1≠tShut:=by decide
   rw[h.is_f (hne o ho) hp]
 generalize opsT=L at this
 induction L with
 |nil=>rfl
 |cons o L ih=>rw[List.find?_cons,List.find?_cons,this o (List.mem_cons_self ..),ih fun o ho=>this o (List.mem_cons_of_mem _ ho)]
theorem Co.fn{p q:Ps}(h:Co m p q):funAt q=funAt p:=by
 unfold funAt
 congr 1
 have:∀o∈funT,q.is o.1=p.is o.1:=fun o ho=>by
  cases hp:p.is o.1 with
  |true=>rw[h.is_t hp]
  |false=>
   have hne:∀o∈funT,o.1≠tShut:=by decide
   rw[h.is_f (hne o ho) hp]
 generalize funT=L at this
 induction L with
 |nil=>rfl
 |cons o L ih=>rw[List.find?_cons,List.find?_cons,this o (List.mem_cons_self ..),ih fun o ho=>this o (List.mem_cons_of_mem _ ho)]
theorem Co.k{p q:Ps}(h:Co m p q)(hk:p.tokd):q.k=p.k∧q.tx=p.tx:=by
 obtain⟨h1,h2,⟨_,h3,h4,_⟩|⟨h3,_⟩⟩:=h
 ·exact⟨h3.symm,h4.symm⟩
 ·rcases hk with h|h|h|h<;>rw[h3] at h<;>cases h
def Kd.reads:Kd→Ps→XT→Ps→Prop
 | .lv n=>LV n
 | .sv n a=>SV n a
 | .pv=>PV
 | .av op e n i l=>AV op e n i l
end
end Go.Via
namespace Go.Proofs.YtfijbadahkmhbaaGreatDoor
open Go Go.RowKit Go.Via
abbrev QBr(g:Nat)(kind:Int)(b:Option Nat)(l:List Bs8)(cap:Nat){x:XT}(z:XR x):Blk:=⟨some g,39,[.int .i64 kind,slv b 0 l.length cap,.int .i64 z.op,.string z.nm,.bool z.b1,.string z.s1,.bool z.b2,.string z.s2,.slice z.a z.n z.cap],9,false⟩
theorem c_Parse_1(kind:Int)(hk: -9223372036854775808≤kind∧kind≤9223372036854775807)(b:Option Nat)(e:Nat)(l:List Bs8)(n cap:Nat)(hll:l.length≤1000000)(hvl:∀v∈l,v.length≤1000000){x:XT}(z:XR x)(hf:x.fit=true)(hM:x.size≤1000000)(gx:Nat):ECall Tryz.prog 79 [QBr gx kind b l cap z,VBk b e [] l n,gB z.T false] [.pointer (some ⟨gx,0,none⟩)] Unit (fun _=> .int .i64 (chkQ kind l x:Nat)) (fun _=>[]):=by
 refine⟨by kernel_rfl,fun B w hD hL0=>?_⟩;refine cB1 4 Tryz.func79 hL0 ?_;refine A6 ?_;refine at_regionM ?_;refine Ld 0 0 [_,_,_,_,_,_,_,_,_] ti39 ?_;refine Kr 2 (QV kind b [] l cap z) ?_;refine Gm 0 [] [1,2] (fun _=>[_,_,_]) (c_Check kind hk b e [] l n cap hll hvl z hf hM) (fun _=>?_);refine A4 ?_;refine E1 fun w hL=>⟨(),rfl,hL.pk []⟩
theorem c_p_end_q(p:Ps)(g:Nat)(kind:Int)(hk: -9223372036854775808≤kind∧kind≤9223372036854775807)(b:Option Nat)(e:Nat)(l:List Bs8)(n cap:Nat)(hll:l.length≤1000000)(hvl:∀v∈l,v.length≤1000000){x:XT}(z:XR x)(hf:x.fit=true)(hM:x.size≤1000000)(gx:Nat):ECall Tryz.prog 63 [PB g p true,QBr gx kind b l cap z,VBk b e [] l n,gB z.T false] [.pointer (some ⟨g,0,none⟩),.func (.func 79) #[] #[.pointer (some ⟨gx,0,none⟩)]] Unit (fun _=> .tuple #[.int .i64 (p.endA:Nat),.int .i64 (p.endE (chkQ kind l x):Nat)]) (fun _=>[PB g p.endP true]):=by
 refine⟨by kernel_rfl,fun B w hD hL0=>?_⟩;refine cB2 37 Tryz.func63 hL0 ?_;refine A15 ?_;refine Rs 11 ?_ ?_<;>intro hb0
 ·have hfl:p.fail=false:=by simpa using hb0
  refine A9 ?_;refine Cd ?_ ?_<;>intro hb1
  ·have hk0:p.k≠0:=by have hh:=hb1;simp only[bne_iff_ne,bne_eq_false_iff_eq,ne_eq] at hh;omega
   refine at_regionM ?_;refine A1 ?_;refine Gm 1 [0] [] (fun _=>[PB g (p.stop 15) true,_,_,_]) (c_p_stop p 15 g) (fun _=>?_);refine A11 ?_;refine Cd ?_ ?_<;>intro hb2
   ·have hf2:=hb2;refine A1 ?_;refine at_drawnI [2000000] mixed (by kernel_rfl) (by kernel_rfl) ?_;refine A16 ?_;refine at_end2 rfl (res_tmp rfl) (res_tmp rfl) (fun w hL=>by
 have hE:p.endP=p.stop 15:=(by unfold Ps.endP;rw[if_pos ⟨hfl,hk0⟩]);refine⟨(),?_,?_⟩
 ·unfold Ps.endA Ps.endE;rw[hE,if_pos hf2,if_pos hf2];try rfl
 ·rw[hE];exact hL.pk [some 0])
   ·have hf2:=hb2;refine A3 ?_;refine at_regionM ?_;refine A1 ?_;refine r_gfcallM (f:=79) (A:=[]) (C:=[QBr gx kind b l cap z,VBk b e [] l n,gB z.T false]) [] [.pointer (some ⟨gx,0,none⟩)] [] [1,2,3] (fun _=>[_,_,_,_]) rfl rfl rfl rfl rfl (c_Parse_1 kind hk b e l n cap hll hvl z hf hM gx) (by decide) rfl rfl ⟨⟨_,rfl,Blk.le_refl _⟩,⟨_,rfl,Blk.le_refl _⟩,⟨_,rfl,Blk.le_refl _⟩,trivial⟩ rfl rfl (fun _=>rfl) (fun _=>allOwn rfl) (fun _=>rfl) (fun _=>?_);refine A5 ?_;refine at_end2 rfl (res_tmp rfl) (res_tmp rfl) (fun w hL=>by
 have hE:p.endP=p.stop 15:=(by unfold Ps.endP;rw[if_pos ⟨hfl,hk0⟩]);refine⟨(),?_,?_⟩
 ·unfold Ps.endA Ps.endE;rw[hE,if_neg (by rw[hf2];simp),if_neg (by rw[hf2];simp)];try rfl
 ·rw[hE];exact hL.pk [some 0])
  ·have hk0:p.k=0:=by have hh:=hb1;simp only[bne_iff_ne,bne_eq_false_iff_eq,ne_eq] at hh;omega
   refine A11 ?_;refine Cd ?_ ?_<;>intro hb2
   ·have hf2:=hb2;refine A1 ?_;refine at_drawnI [2000000] mixed (by kernel_rfl) (by kernel_rfl) ?_;refine A16 ?_;refine at_end2 rfl (res_tmp rfl) (res_tmp rfl) (fun w hL=>by
 have hE:p.endP=p:=(by unfold Ps.endP;rw[if_neg (fun h=>h.2 hk0)]);refine⟨(),?_,?_⟩
 ·unfold Ps.endA Ps.endE;rw[hE,if_pos hf2,if_pos hf2];try rfl
 ·rw[hE];exact hL.pk [some 0])
   ·have hf2:=hb2;refine A3 ?_;refine at_regionM ?_;refine A1 ?_;refine r_gfcallM (f:=79) (A:=[]) (C:=[QBr gx kind b l cap z,VBk b e [] l n,gB z.T false]) [] [.pointer (some ⟨gx,0,none⟩)] [] [1,2,3] (fun _=>[_,_,_,_]) rfl rfl rfl rfl rfl (c_Parse_1 kind hk b e l n cap hll hvl z hf hM gx) (by decide) rfl rfl ⟨⟨_,rfl,Blk.le_refl _⟩,⟨_,rfl,Blk.le_refl _⟩,⟨_,rfl,Blk.le_refl _⟩,trivial⟩ rfl rfl (fun _=>rfl) (fun _=>allOwn rfl) (fun _=>rfl) (fun _=>?_);refine A5 ?_;refine at_end2 rfl (res_tmp rfl) (res_tmp rfl) (fun w hL=>by
 have hE:p.endP=p:=(by unfold Ps.endP;rw[if_neg (fun h=>h.2 hk0)]);refine⟨(),?_,?_⟩
 ·unfold Ps.endA Ps.endE;rw[hE,if_neg (by rw[hf2];simp),if_neg (by rw[hf2];simp)];try rfl
 ·rw[hE];exact hL.pk [some 0])
 ·have hfl:p.fail=true:=by simpa using hb0
  refine A21 ?_;refine Cd ?_ ?_<;>intro hb1
  ·have hf2:=hb1;refine A1 ?_;refine at_drawnI [2000000] mixed (by kernel_rfl) (by kernel_rfl) ?_;refine A16 ?_;refine at_end2 rfl (res_tmp rfl) (res_tmp rfl) (fun w hL=>by
 have hE:p.endP=p:=(by unfold Ps.endP;rw[if_neg (fun h=>by rw[hfl] at h;cases h.1)]);refine⟨(),?_,?_⟩
 ·unfold Ps.endA Ps.endE;rw[hE,if_pos hf2,if_pos hf2];try rfl
 ·rw[hE];exact hL.pk [some 0])
  ·have hf2:=hb1;refine A3 ?_;refine at_regionM ?_;refine A1 ?_;refine r_gfcallM (f:=79) (A:=[]) (C:=[QBr gx kind b l cap z,VBk b e [] l n,gB z.T false]) [] [.pointer (some ⟨gx,0,none⟩)] [] [1,2,3] (fun _=>[_,_,_,_]) rfl rfl rfl rfl rfl (c_Parse_1 kind hk b e l n cap hll hvl z hf hM gx) (by decide) rfl rfl ⟨⟨_,rfl,Blk.le_refl _⟩,⟨_,rfl,Blk.le_refl _⟩,⟨_,rfl,Blk.le_refl _⟩,trivial⟩ rfl rfl (fun _=>rfl) (fun _=>allOwn rfl) (fun _=>rfl) (fun _=>?_);refine A5 ?_;refine at_end2 rfl (res_tmp rfl) (res_tmp rfl) (fun w hL=>by
 have hE:p.endP=p:=(by unfold Ps.endP;rw[if_neg (fun h=>by rw[hfl] at h;cases h.1)]);refine⟨(),?_,?_⟩
 ·unfold Ps.endA Ps.endE;rw[hE,if_neg (by rw[hf2];simp),if_neg (by rw[hf2];simp)];try rfl
 ·rw[hE];exact hL.pk [some 0])
def headK(p:Ps):Nat×List Bs8×Ps:=
 if p.is tValue=true then(1,[],p.adv)
 else if p.is tObjects=true then(2,[p.adv.tx],p.adv.name.want tWhere)
 else if p.is tPairs=true then(3,[p.adv.tx,(p.adv.name.want tComma).tx],(p.adv.name.want tComma).name.want tWhere)
 else(0,[],p.stop 15)
noncomputable def pqV(kind:Nat)(l:List Bs8)(r:XT×Ps)(b:Option Nat)(z:XR r.1):Value:=
 .tuple #[if r.2.endE (chkQ kind l r.1)=0 then QV kind b [] l l.length z else QV 0 none [] [] 0 XR.empty,.int .i64 ((if r.2.endE (chkQ kind l r.1)=0 then 0 else r.2.endA:Nat):Int),.int .i64 (r.2.endE (chkQ kind l r.1):Nat)]
theorem pqV_no(kind:Nat)(l:List Bs8){r:XT×Ps}(b:Option Nat)(z:XR r.1)(h:r.2.endE (chkQ kind l r.1)≠0):pqV kind l r b z= .tuple #[QV 0 none [] [] 0 XR.empty,.int .i64 (r.2.endA:Nat),.int .i64 (r.2.endE (chkQ kind l r.1):Nat)]:=by
 unfold pqV
 simp only[if_neg h]
theorem pqV_yes(kind:Nat)(l:List Bs8){r:XT×Ps}(b:Option Nat)(z:XR r.1)(h:r.2.endE (chkQ kind l r.1)=0):pqV kind l r b z= .tuple #[QV kind b [] l l.length z,.int .i64 0,.int .i64 0]:=by
 unfold pqV
 simp only[h,if_true]
 rfl
theorem c_Parse_ok(s:Bs8)(hs:s.length≤4096)(kind:Nat)(l:List Bs8)(q:Ps)(hh:headK (p0 s).adv=(kind,l,q))(f:Nat)(r:XT×Ps)(hr:lev f 1 q=some r)(hf:r.1.fit=true)(hM:r.1.size≤1000000):ECall Tryz.prog 42 [] [.string (strU s)] (Option Nat×XR r.1) (fun z=>pqV kind l r z.1 z.2) (fun z=>[⟨z.1,9,SB l,l.length,true⟩,gB z.2.T true]):=by
 refine⟨by kernel_rfl,fun B w hD hL0=>?_⟩;have hP:=Ps.adv_good (p:=p0 s) ⟨hs,Nat.zero_le _⟩;have hA:=Ps.adv_good hP.1;have hC:=Ps.want_good (x:=tComma) (Ps.name_good hA);refine cB1 62 Tryz.func42 hL0 ?_;refine A2 ?_;refine r_alloc [_,_,_,_,_,_,_,_,_] 9 (fun g=>[⟨some g,39,_,9,true⟩]) rfl rfl z39 rfl rfl (fun _=>rfl) (fun g0=>?_);refine A5 ?_;refine at_regionM ?_;refine A1 ?_;refine Gm 0 [] [] (fun g=>[_,PB g (p0 s).adv true]) (c_start_ok s hs) (fun g=>?_);refine A14 ?_;refine Cd ?_ ?_<;>intro hb0
 ·exact absurd hb0 (by decide)
 ·refine A5 ?_;refine at_regionM ?_;refine A1 ?_;refine Gm 1 [1] [] (fun _=>[_,PB g ((p0 s).adv.tk tValue) true]) (c_p_take (p0 s).adv hP.1 tValue g) (fun _=>?_);refine A3 ?_;refine Cd ?_ ?_<;>intro hb1
  ·have hisv:(p0 s).adv.is tValue=true:=hb1;have htkv:(p0 s).adv.tk tValue=(p0 s).adv.adv:=by unfold Ps.tk;rw[hisv];rfl
   rw[htkv];unfold headK at hh;rw[if_pos hisv] at hh;cases hh;refine A2 ?_;refine So 0 0 [⟨some g0,39,_,9,true⟩,_] [_,_,_,_,_,_,_,_,_] ?_;refine A4 ?_;refine at_regionM ?_;refine A1 ?_;refine Gm 1 [1] [] (fun z=>[_,PB g r.2 true,gB z.T true]) (c_p_level f g 1 ((p0 s).adv.adv) r hA (by decide) (by decide) hr) (fun z=>?_);refine A1 ?_;refine So 0 2 [⟨some g0,39,_,9,true⟩,_,_] [_,_,_,_,_,_,_,_,_] ?_;refine A3 ?_;refine at_weakL (L':=[_,_,_,⟨none,9,[],0,true⟩]) (Weak.nilB _ (by decide)) ?_;refine at_regionM ?_;refine A2 ?_;refine r_gcallM (A:=[PB g r.2 true]) (C:=[QBr g0 1 none [] 0 z,VBk none 9 [] [] 0,gB z.T false]) [.pointer (some ⟨g,0,none⟩),.func (.func 79) #[] #[.pointer (some ⟨g0,0,none⟩)]] [1] [0,3,2] (fun _=>[_,PB g r.2.endP true,_,_]) rfl rfl rfl rfl (c_p_end_q r.2 g 1 (by decide) none 9 [] 0 0 (by simp) (fun v hv=>by simp at hv) z hf hM g0) (by decide) rfl rfl ⟨⟨_,rfl,le_share⟩,⟨_,rfl,le_share⟩,⟨_,rfl,le_share⟩,trivial⟩ rfl rfl (fun _=>rfl) (fun _=>allOwn rfl) (fun _=>rfl) (fun _=>?_);refine A14 ?_;refine Cd ?_ ?_<;>intro hb2
   ·have hE:r.2.endE (chkQ 1 [] r.1)≠0:=by simpa using hb2
    refine A2 ?_;refine r_build [] rfl rfl rfl (bd39_0) ?_;refine A2 ?_;refine So 0 0 [⟨some g0,39,_,9,true⟩,_,_,_] [_,_,_,_,_,_,_,_,_] ?_;refine A6 ?_;refine at_end3 rfl (res_cell 0 rfl rfl ti39 (vs:=[_,_,_,_,_,_,_,_,_]) rfl rfl (Nat.le_of_ble_eq_true rfl) rfl) (res_tmp rfl) (res_tmp rfl) (fun w hL=>⟨(none,z),by exact congrArg Ending.returned (pqV_no 1 [] none z hE).symm,hL.pk [some 3,some 2]⟩)
   ·have hE:r.2.endE (chkQ 1 [] r.1)=0:=by simpa using hb2
    refine A4 ?_;refine Ld 0 0 [_,_,_,_,_,_,_,_,_] ti39 ?_;refine So 0 0 [⟨some g0,39,_,9,true⟩,_,_,_] [_,_,_,_,_,_,_,_,_] ?_;refine A5 ?_;refine at_end3 rfl (res_cell 0 rfl rfl ti39 (vs:=[_,_,_,_,_,_,_,_,_]) rfl rfl (Nat.le_of_ble_eq_true rfl) rfl) (res_tmp rfl) (res_tmp rfl) (fun w hL=>⟨(none,z),by exact congrArg Ending.returned (pqV_yes 1 [] none z hE).symm,hL.pk [some 3,some 2]⟩)
  ·have hisv:(p0 s).adv.is tValue=false:=hb1;have htkv:(p0 s).adv.tk tValue=(p0 s).adv:=by unfold Ps.tk;rw[hisv];rfl
   rw[htkv];refine A1 ?_;refine at_regionM ?_;refine A1 ?_;refine Gm 1 [1] [] (fun _=>[_,PB g ((p0 s).adv.tk tObjects) true]) (c_p_take (p0 s).adv hP.1 tObjects g) (fun _=>?_);refine A3 ?_;refine Cd ?_ ?_<;>intro hb2
   ·have hiso:(p0 s).adv.is tObjects=true:=hb2;have htko:(p0 s).adv.tk tObjects=(p0 s).adv.adv:=by unfold Ps.tk;rw[hiso];rfl
    rw[htko];unfold headK at hh;rw[if_neg (by rw[hisv];simp),if_pos hiso] at hh;cases hh;refine A3 ?_;refine So 0 0 [⟨some g0,39,_,9,true⟩,_] [_,_,_,_,_,_,_,_,_] ?_;refine A3 ?_;refine at_regionM ?_;refine A1 ?_;refine Gm 1 [1] [] (fun _=>[_,PB g ((p0 s).adv.adv.name) true]) (c_p_name ((p0 s).adv.adv) hA.1 g) (fun _=>?_);refine r_buildSlice [(0,_)] (fun g=>[_,_,⟨some g,9,_,1,true⟩]) rfl rfl rfl (bs36_1) rfl (fun _=>rfl) (fun g1=>?_);refine A1 ?_;refine So 0 1 [⟨some g0,39,_,9,true⟩,_,_] [_,_,_,_,_,_,_,_,_] ?_;refine A2 ?_;refine at_regionM ?_;refine A1 ?_;refine Gm 1 [1] [] (fun _=>[_,PB g (((p0 s).adv.adv.name).want tWhere) true,_]) (c_p_want ((p0 s).adv.adv.name) (Ps.name_good hA).1 tWhere g) (fun _=>?_);refine A4 ?_;refine at_regionM ?_;refine A1 ?_;refine Gm 1 [1] [] (fun z=>[_,PB g r.2 true,_,gB z.T true]) (c_p_level f g 1 ((p0 s).adv.adv.name.want tWhere) r (Ps.want_good (Ps.name_good hA)) (by decide) (by decide) hr) (fun z=>?_);refine A1 ?_;refine So 0 2 [⟨some g0,39,_,9,true⟩,_,_,_] [_,_,_,_,_,_,_,_,_] ?_;refine A3 ?_;refine at_regionM ?_;refine A2 ?_;refine r_gcallM (A:=[PB g r.2 true]) (C:=[QBr g0 2 (some g1) [(p0 s).adv.adv.tx] 1 z,VBk (some g1) 9 [] [(p0 s).adv.adv.tx] 1,gB z.T false]) [.pointer (some ⟨g,0,none⟩),.func (.func 79) #[] #[.pointer (some ⟨g0,0,none⟩)]] [1] [0,2,3] (fun _=>[_,PB g r.2.endP true,_,_]) rfl rfl rfl rfl (c_p_end_q r.2 g 2 (by decide) (some g1) 9 [(p0 s).adv.adv.tx] 1 1 (by simp) (fun v hv=>by have:=hA.2.2;rw[List.mem_singleton.1 hv];omega) z hf hM g0) (by decide) rfl rfl ⟨⟨_,rfl,le_share⟩,⟨_,rfl,le_share⟩,⟨_,rfl,le_share⟩,trivial⟩ rfl rfl (fun _=>rfl) (fun _=>allOwn rfl) (fun _=>rfl) (fun _=>?_);refine A14 ?_;refine Cd ?_ ?_<;>intro hb3
    ·have hE:r.2.endE (chkQ 2 [(p0 s).adv.adv.tx] r.1)≠0:=by simpa using hb3
     refine A2 ?_;refine r_build [] rfl rfl rfl (bd39_0) ?_;refine A2 ?_;refine So 0 0 [⟨some g0,39,_,9,true⟩,_,_,_] [_,_,_,_,_,_,_,_,_] ?_;refine A6 ?_;refine at_end3 rfl (res_cell 0 rfl rfl ti39 (vs:=[_,_,_,_,_,_,_,_,_]) rfl rfl (Nat.le_of_ble_eq_true rfl) rfl) (res_tmp rfl) (res_tmp rfl) (fun w hL=>⟨((some g1),z),by exact congrArg Ending.returned (pqV_no 2 [(p0 s).adv.adv.tx] (some g1) z hE).symm,hL.pk [some 2,some 3]⟩)
    ·have hE:r.2.endE (chkQ 2 [(p0 s).adv.adv.tx] r.1)=0:=by simpa using hb3
     refine A4 ?_;refine Ld 0 0 [_,_,_,_,_,_,_,_,_] ti39 ?_;refine So 0 0 [⟨some g0,39,_,9,true⟩,_,_,_] [_,_,_,_,_,_,_,_,_] ?_;refine A5 ?_;refine at_end3 rfl (res_cell 0 rfl rfl ti39 (vs:=[_,_,_,_,_,_,_,_,_]) rfl rfl (Nat.le_of_ble_eq_true rfl) rfl) (res_tmp rfl) (res_tmp rfl) (fun w hL=>⟨((some g1),z),by exact congrArg Ending.returned (pqV_yes 2 [(p0 s).adv.adv.tx] (some g1) z hE).symm,hL.pk [some 2,some 3]⟩)
   ·have hiso:(p0 s).adv.is tObjects=false:=hb2;have htko:(p0 s).adv.tk tObjects=(p0 s).adv:=by unfold Ps.tk;rw[hiso];rfl
    rw[htko];refine A1 ?_;refine at_regionM ?_;refine A1 ?_;refine Gm 1 [1] [] (fun _=>[_,PB g ((p0 s).adv.tk tPairs) true]) (c_p_take (p0 s).adv hP.1 tPairs g) (fun _=>?_);refine A3 ?_;refine Cd ?_ ?_<;>intro hb3
    ·have hisp:(p0 s).adv.is tPairs=true:=hb3;have htkp:(p0 s).adv.tk tPairs=(p0 s).adv.adv:=by unfold Ps.tk;rw[hisp];rfl
     rw[htkp];unfold headK at hh;rw[if_neg (by rw[hisv];simp),if_neg (by rw[hiso];simp),if_pos hisp] at hh;cases hh;refine A3 ?_;refine So 0 0 [⟨some g0,39,_,9,true⟩,_] [_,_,_,_,_,_,_,_,_] ?_;refine A3 ?_;refine at_regionM ?_;refine A1 ?_;refine Gm 1 [1] [] (fun _=>[_,PB g ((p0 s).adv.adv.name) true]) (c_p_name ((p0 s).adv.adv) hA.1 g) (fun _=>?_);refine A4 ?_;refine at_regionM ?_;refine A1 ?_;refine Gm 1 [1] [] (fun _=>[_,PB g (((p0 s).adv.adv.name).want tComma) true]) (c_p_want ((p0 s).adv.adv.name) (Ps.name_good hA).1 tComma g) (fun _=>?_);refine A3 ?_;refine at_regionM ?_;refine A2 ?_;refine Gm 1 [1] [] (fun _=>[_,PB g (((p0 s).adv.adv.name.want tComma).name) true]) (c_p_name (((p0 s).adv.adv.name.want tComma)) hC.1 g) (fun _=>?_);refine r_buildSlice [(0,_),(1,_)] (fun g=>[_,_,⟨some g,9,_,2,true⟩]) rfl rfl rfl (bs36_2) rfl (fun _=>rfl) (fun g1=>?_);refine A1 ?_;refine So 0 1 [⟨some g0,39,_,9,true⟩,_,_] [_,_,_,_,_,_,_,_,_] ?_;refine A2 ?_;refine at_regionM ?_;refine A1 ?_;refine Gm 1 [1] [] (fun _=>[_,PB g ((((p0 s).adv.adv.name.want tComma).name).want tWhere) true,_]) (c_p_want (((p0 s).adv.adv.name.want tComma).name) (Ps.name_good hC).1 tWhere g) (fun _=>?_);refine A4 ?_;refine at_regionM ?_;refine A1 ?_;refine Gm 1 [1] [] (fun z=>[_,PB g r.2 true,_,gB z.T true]) (c_p_level f g 1 (((p0 s).adv.adv.name.want tComma).name.want tWhere) r (Ps.want_good (Ps.name_good hC)) (by decide) (by decide) hr) (fun z=>?_);refine A1 ?_;refine So 0 2 [⟨some g0,39,_,9,true⟩,_,_,_] [_,_,_,_,_,_,_,_,_] ?_;refine A3 ?_;refine at_regionM ?_;refine A2 ?_;refine r_gcallM (A:=[PB g r.2 true]) (C:=[QBr g0 3 (some g1) [(p0 s).adv.adv.tx,((p0 s).adv.adv.name.want tComma).tx] 2 z,VBk (some g1) 9 [] [(p0 s).adv.adv.tx,((p0 s).adv.adv.name.want tComma).tx] 2,gB z.T false]) [.pointer (some ⟨g,0,none⟩),.func (.func 79) #[] #[.pointer (some ⟨g0,0,none⟩)]] [1] [0,2,3] (fun _=>[_,PB g r.2.endP true,_,_]) rfl rfl rfl rfl (c_p_end_q r.2 g 3 (by decide) (some g1) 9 [(p0 s).adv.adv.tx,((p0 s).adv.adv.name.want tComma).tx] 2 2 (by simp) (fun v hv=>by have h1:=hA.2.2;have h2:=hC.2.2;simp only[List.mem_cons,List.not_mem_nil,or_false] at hv;rcases hv with rfl|rfl<;>omega) z hf hM g0) (by decide) rfl rfl ⟨⟨_,rfl,le_share⟩,⟨_,rfl,le_share⟩,⟨_,rfl,le_share⟩,trivial⟩ rfl rfl (fun _=>rfl) (fun _=>allOwn rfl) (fun _=>rfl) (fun _=>?_);refine A14 ?_;refine Cd ?_ ?_<;>intro hb4
     ·have hE:r.2.endE (chkQ 3 [(p0 s).adv.adv.tx,((p0 s).adv.adv.name.want tComma).tx] r.1)≠0:=by simpa using hb4
      refine A2 ?_;refine r_build [] rfl rfl rfl (bd39_0) ?_;refine A2 ?_;refine So 0 0 [⟨some g0,39,_,9,true⟩,_,_,_] [_,_,_,_,_,_,_,_,_] ?_;refine A6 ?_;refine at_end3 rfl (res_cell 0 rfl rfl ti39 (vs:=[_,_,_,_,_,_,_,_,_]) rfl rfl (Nat.le_of_ble_eq_true rfl) rfl) (res_tmp rfl) (res_tmp rfl) (fun w hL=>⟨((some g1),z),by exact congrArg Ending.returned (pqV_no 3 [(p0 s).adv.adv.tx,((p0 s).adv.adv.name.want tComma).tx] (some g1) z hE).symm,hL.pk [some 2,some 3]⟩)
     ·have hE:r.2.endE (chkQ 3 [(p0 s).adv.adv.tx,((p0 s).adv.adv.name.want tComma).tx] r.1)=0:=by simpa using hb4
      refine A4 ?_;refine Ld 0 0 [_,_,_,_,_,_,_,_,_] ti39 ?_;refine So 0 0 [⟨some g0,39,_,9,true⟩,_,_,_] [_,_,_,_,_,_,_,_,_] ?_;refine A5 ?_;refine at_end3 rfl (res_cell 0 rfl rfl ti39 (vs:=[_,_,_,_,_,_,_,_,_]) rfl rfl (Nat.le_of_ble_eq_true rfl) rfl) (res_tmp rfl) (res_tmp rfl) (fun w hL=>⟨((some g1),z),by exact congrArg Ending.returned (pqV_yes 3 [(p0 s).adv.adv.tx,((p0 s).adv.adv.name.want tComma).tx] (some g1) z hE).symm,hL.pk [some 2,some 3]⟩)
    ·have hisp:(p0 s).adv.is tPairs=false:=hb3;have htkp:(p0 s).adv.tk tPairs=(p0 s).adv:=by unfold Ps.tk;rw[hisp];rfl
     rw[htkp];unfold headK at hh;rw[if_neg (by rw[hisv];simp),if_neg (by rw[hiso];simp),if_neg (by rw[hisp];simp)] at hh;cases hh;refine at_regionM ?_;refine A1 ?_;refine Gm 1 [1] [] (fun _=>[_,PB g ((p0 s).adv.stop 15) true]) (c_p_stop (p0 s).adv 15 g) (fun _=>?_);refine A4 ?_;refine at_regionM ?_;refine A1 ?_;refine Gm 1 [1] [] (fun z=>[_,PB g r.2 true,gB z.T true]) (c_p_level f g 1 ((p0 s).adv.stop 15) r (Ps.stop_good hP) (by decide) (by decide) hr) (fun z=>?_);refine A1 ?_;refine So 0 2 [⟨some g0,39,_,9,true⟩,_,_] [_,_,_,_,_,_,_,_,_] ?_;refine A3 ?_;refine at_weakL (L':=[_,_,_,⟨none,9,[],0,true⟩]) (Weak.nilB _ (by decide)) ?_;refine at_regionM ?_;refine A2 ?_;refine r_gcallM (A:=[PB g r.2 true]) (C:=[QBr g0 0 none [] 0 z,VBk none 9 [] [] 0,gB z.T false]) [.pointer (some ⟨g,0,none⟩),.func (.func 79) #[] #[.pointer (some ⟨g0,0,none⟩)]] [1] [0,3,2] (fun _=>[_,PB g r.2.endP true,_,_]) rfl rfl rfl rfl (c_p_end_q r.2 g 0 (by decide) none 9 [] 0 0 (by simp) (fun v hv=>by simp at hv) z hf hM g0) (by decide) rfl rfl ⟨⟨_,rfl,le_share⟩,⟨_,rfl,le_share⟩,⟨_,rfl,le_share⟩,trivial⟩ rfl rfl (fun _=>rfl) (fun _=>allOwn rfl) (fun _=>rfl) (fun _=>?_);refine A14 ?_;refine Cd ?_ ?_<;>intro hb4
     ·have hE:r.2.endE (chkQ 0 [] r.1)≠0:=by simpa using hb4
      refine A2 ?_;refine r_build [] rfl rfl rfl (bd39_0) ?_;refine A2 ?_;refine So 0 0 [⟨some g0,39,_,9,true⟩,_,_,_] [_,_,_,_,_,_,_,_,_] ?_;refine A6 ?_;refine at_end3 rfl (res_cell 0 rfl rfl ti39 (vs:=[_,_,_,_,_,_,_,_,_]) rfl rfl (Nat.le_of_ble_eq_true rfl) rfl) (res_tmp rfl) (res_tmp rfl) (fun w hL=>⟨(none,z),by exact congrArg Ending.returned (pqV_no 0 [] none z hE).symm,hL.pk [some 3,some 2]⟩)
     ·have hE:r.2.endE (chkQ 0 [] r.1)=0:=by simpa using hb4
      refine A4 ?_;refine Ld 0 0 [_,_,_,_,_,_,_,_,_] ti39 ?_;refine So 0 0 [⟨some g0,39,_,9,true⟩,_,_,_] [_,_,_,_,_,_,_,_,_] ?_;refine A5 ?_;refine at_end3 rfl (res_cell 0 rfl rfl ti39 (vs:=[_,_,_,_,_,_,_,_,_]) rfl rfl (Nat.le_of_ble_eq_true rfl) rfl) (res_tmp rfl) (res_tmp rfl) (fun w hL=>⟨(none,z),by exact congrArg Ending.returned (pqV_yes 0 [] none z hE).symm,hL.pk [some 3,some 2]⟩)
theorem join_C:∀l:List Bs8,Lib.join l [44,32]=joinC l
 |[]=>rfl
 |[t]=>by simp[Lib.join,joinC]
 |t::u::r=>by
  have ih:=join_C (u::r)
  rw[joinC,←ih]
  simp[Lib.join]
theorem c_Join(g:Nat)(e:Nat)(pre:List Value)(l:List Bs8)(n cap:Nat)(hl0:l≠[])(hll:l.length≤1000000)(hcap:l.length≤cap)(hj:(joinC l).length≤140737488355328):
 SCall Tryz.prog 58 [VBk (some g) e pre l n] [.slice (some ⟨g,pre.length,none⟩) l.length cap,.string (strU [44,32])] Unit (fun _=> .string (strU (joinC l))) (fun _=>[]):=by
 refine⟨by kernel_rfl,fun w hL=>?_⟩
 obtain⟨s0,hs0⟩:∃s,l[0]? =some s:=⟨l[0]'(List.length_pos_iff.2 hl0),List.getElem?_eq_getElem _⟩
 have e1:(l.map strU).map (·.data.toList)=l:=by rw[List.map_map];simp[Function.comp_def,strU]
 have h0:=hL.strs (k:=0) rfl hs0
 have h1:=Tryz.strings_Join g pre.length cap (l.map strU) (strU [44,32]) w (fun j x hx=>by
 rw[List.getElem?_map] at hx
 obtain⟨s,hs,rfl⟩:=Option.map_eq_some_iff.1 hx
 exact hL.strs (k:=0) rfl hs) (by
 rcases Nat.lt_or_ge g w.heap.size with h|h
 ·exact h
 ·simp[World.cell?,Array.getElem?_eq_none h] at h0) (by simp;omega) (by simpa using hcap) (by
 rw[e1];show(Lib.join l [44,32]).length≤_;rw[join_C];exact hj)
 rw[List.length_map] at h1
 refine Calls.mono h1 ?_
 rintro e w' ⟨rfl,hb⟩
 refine⟨(),?_,(LRel.nil w).same hb⟩
 rw[e1]
 show Ending.returned (Value.string ⟨(Lib.join l [44,32]).toArray⟩)=_
 rw[join_C]
 rfl
theorem c_JoinB(b:Option Nat)(e:Nat)(pre:List Value)(l:List Bs8)(n cap:Nat)(hl0:l≠[])(hll:l.length≤1000000)(hcap:l.length≤cap)(hj:(joinC l).length≤140737488355328):
 SCall Tryz.prog 58 [VBk b e pre l n] [.slice (b.map fun g=>⟨g,pre.length,none⟩) l.length cap,.string (strU [44,32])] Unit (fun _=> .string (strU (joinC l))) (fun _=>[]):=by
 cases b with
 |some g=>exact c_Join g e pre l n cap hl0 hll hcap hj
 |none=>
  refine⟨by kernel_rfl,fun w hL=>?_⟩
  have h2:=((hL.blk 0 _ rfl).2 rfl).1
  have h3:=congrArg List.length h2
  rw[List.length_append,SB_length] at h3
  exact absurd (List.eq_nil_of_length_eq_zero (by simp at h3;simp[h3.2])) hl0
def headS(k:Int):Bs8:=if k=1 then[118,97,108,117,101,32] else if k=2 then[111,98,106,101,99,116,115,32] else[112,97,105,114,115,32]
def sWhere:Bs8:=[32,119,104,101,114,101,32]
def headT(k:Int)(l:List Bs8):Bs8:=if l=[] then headS k else headS k++(joinC l++sWhere)
theorem heads_get{k:Int}(h1:1≤k)(h3:k≤3):(([.string ⟨#[]⟩,.string ⟨#[118,97,108,117,101,32]⟩,.string ⟨#[111,98,106,101,99,116,115,32]⟩,.string ⟨#[112,97,105,114,115,32]⟩]:List Value).drop (k.toNat*1)).take 1=[.string (strU (headS k))]:=by
 have h:k=1∨k=2∨k=3:=by omega
 rcases h with rfl|rfl|rfl<;>rfl
theorem chkQ_kind{kind:Int}{l:List Bs8}{x:XT}(h:chkQ kind l x=0):(1≤kind∧kind≤3)∧chkE x=0:=by
 unfold chkQ at h
 split at h
 ·cases h
 rename_i h1
 split at h
 ·cases h
 split at h
 ·cases h
 split at h
 ·cases h
 split at h
 ·rename_i h2;exact absurd h h2
 rename_i h2
 exact⟨by omega,by simpa using h2⟩
noncomputable def prQT(kind:Int)(l:List Bs8)(x:XT):Bs8:=if chkQ kind l x=0 then prT (headT kind l++txt x 1) else[]
noncomputable def prQC(kind:Int)(l:List Bs8)(x:XT):Int:=if chkQ kind l x=0 then prC (headT kind l++txt x 1) else(chkQ kind l x:Nat)
theorem c_Print(kind:Int)(hk: -9223372036854775808≤kind∧kind≤9223372036854775807)(b:Option Nat)(e:Nat)(pre:List Value)(l:List Bs8)(n cap:Nat)(hll:l.length≤1000000)(hvl:∀v∈l,v.length≤1000000)(hcap:l.length≤cap){x:XT}(z:XR x)(m:Int)(hf:x.fit=true)(hM:x.size≤1000000)(hb:chkQ kind l x=0→(headT kind l).length+(txt x 1).length≤17179869184):ECall Tryz.prog 28 [VBk b e pre l n,gB z.T false,GM m] [QV kind b pre l cap z] Unit (fun _=> .tuple #[.string (strU (prQT kind l x)),.int .i64 (prQC kind l x)]) (fun _=>[]):=by
 refine⟨by kernel_rfl,fun B w hD hL0=>?_⟩;refine cB1 33 Tryz.func28 hL0 ?_;refine A2 ?_;refine Bo [_,_,_,_,_,_,_,_,_] 9 (fun g=>[_,_,_,⟨some g,39,_,9,true⟩]) (fun g0=>?_);refine A6 ?_;refine at_regionM ?_;refine Ld 3 0 [_,_,_,_,_,_,_,_,_] ti39 ?_;refine Kr 7 (QV kind b pre l cap z) ?_;refine Gm 0 [] [0,1] (fun _=>[_,_,_,_]) (c_Check kind hk b e pre l n cap hll hvl z hf hM) (fun _=>?_);refine A9 ?_;refine Cd ?_ ?_<;>intro hb0
 ·have kc:chkQ kind l x≠0:=by simpa using hb0
  refine A9 ?_;refine at_end2 rfl (res_tmp rfl) (res_tmp rfl) (fun w hL=>⟨(),by unfold prQT prQC;rw[if_neg kc,if_neg kc];rfl,hL.pk []⟩)
 ·have kc:chkQ kind l x=0:=by simpa using hb0
  have hkk:=chkQ_kind kc;obtain⟨⟨hk1,hk3⟩,_⟩:=id hkk;refine A4 ?_;refine r_build [(1,_),(2,_),(3,_)] rfl rfl rfl (bd79_1_2_3x) ?_;refine r_alloc [_,_,_,_] 4 (fun g=>[_,_,_,_,⟨some g,79,_,4,true⟩]) rfl rfl z79 rfl rfl (fun _=>rfl) (fun g1=>?_);refine So 4 0 [_,_,_,_,⟨some g1,79,_,4,true⟩] [_,_,_,_] ?_;refine A6 ?_;refine r_indexAddrA (kind.toNat*1) u79 ti9 rfl rfl rfl rfl (by omega) (by omega) (by show 0+Int.toNat _*1=_;omega) ?_;refine r_load (v:= .string (strU (headS kind))) 4 (kind.toNat*1) _ rfl rfl rfl rfl ti9 (heads_get hk1 hk3) rfl (by decide) rfl ?_;refine A12 ?_;refine Cd ?_ ?_<;>intro hb1
  ·have hl0:l≠[]:=fun e=>by have:=of_decide_eq_true hb1;rw[e] at this;simp at this
   have hT:headT kind l=headS kind++(joinC l++sWhere):=if_neg hl0;have hjb0:=hb kc;rw[hT] at hjb0;simp only[List.length_append] at hjb0;have hjb:(joinC l).length≤140737488355328:=(by omega);refine at_regionM ?_;refine A3 ?_;refine r_scall0 [slv b pre.length l.length cap,.string (strU [44,32])] [0] rfl rfl rfl (c_JoinB b e pre l n cap hl0 hll hcap hjb) ⟨⟨_,rfl,Blk.le_refl _⟩,trivial⟩ rfl ?_;refine r_addS (p:=joinC l) (q:=sWhere) rfl rfl rfl rfl rfl rfl rfl (by omega) ?_;refine r_addS (p:=headS kind) (q:=joinC l++sWhere) rfl rfl rfl rfl rfl rfl rfl (by rw[List.length_append];omega) ?_;refine A4 ?_;refine at_regionM ?_;refine A2 ?_;refine Ld 3 2 [_,_,_,_,_,_,_] ti30 ?_;refine Kr 29 (z.v) ?_;refine Gm 0 [] [1,2] (fun _=>[_,_,_,_,_]) (c_printed z m (chk_ok x 1 0 hkk.2) hf (by omega) (headS kind++(joinC l++sWhere)) (by rw[←hT];exact hb kc)) (fun _=>?_);refine A7 ?_;refine at_end2 rfl (res_tmp rfl) (res_tmp rfl) (fun w hL=>⟨(),by unfold prQT prQC;rw[if_pos kc,if_pos kc,hT],hL.pk []⟩)
  ·have hl0:l=[]:=List.eq_nil_of_length_eq_zero (by have:=of_decide_eq_false hb1;omega);have hT:headT kind l=headS kind:=if_pos hl0;refine A3 ?_;refine at_regionM ?_;refine A2 ?_;refine Ld 3 2 [_,_,_,_,_,_,_] ti30 ?_;refine Kr 29 (z.v) ?_;refine Gm 0 [] [1,2] (fun _=>[_,_,_,_,_]) (c_printed z m (chk_ok x 1 0 hkk.2) hf (by omega) (headS kind) (by rw[←hT];exact hb kc)) (fun _=>?_);refine A7 ?_;refine at_end2 rfl (res_tmp rfl) (res_tmp rfl) (fun w hL=>⟨(),by unfold prQT prQC;rw[if_pos kc,if_pos kc,hT],hL.pk []⟩)
theorem c_Size{x:XT}(z:XR x)(hM:x.size≤1000000000):ECall Tryz.prog 20 [gB z.T false] [z.v] Unit (fun _=> .int .i64 (foldN (fun _ lv n=>n+1) x 1 0:Nat)) (fun _=>[]):=by
 refine⟨by kernel_rfl,fun B w hD hL0=>?_⟩;refine cB1 8 Tryz.func20 hL0 ?_;refine A2 ?_;refine Bo [_,_,_,_,_,_,_] 7 (fun g=>[_,⟨some g,30,_,7,true⟩]) (fun g0=>?_);refine A5 ?_;refine r_alloc [_] 1 (fun g=>[_,_,⟨some g,3,_,1,true⟩]) rfl rfl z3 rfl rfl (fun _=>rfl) (fun g1=>?_);refine So 2 0 [_,_,⟨some g1,3,_,1,true⟩] [_] ?_;refine A3 ?_;refine at_regionM ?_;refine Ld 1 0 [_,_,_,_,_,_,_] ti30 ?_;refine Kr 4 (z.v) ?_;refine A1 ?_;refine r_gcallM (A:=[VN g1 0]) (C:=[gB z.T false]) [z.v,.int .i64 (1:Nat),.func (.func 52) #[] #[.pointer (some ⟨g1,0,none⟩)]] [2] [0] (fun _=>[_,_,VN g1 (foldN (fun _ lv n=>n+1) x 1 0)]) rfl rfl rfl rfl (c_each 52 (fun _ lv n=>n+1) (fun _ lv n=>by omega) g1 (fun u lv n h h2=>c_Size_1 u lv n g1 h h2) x z 1 0 (by omega)) (by decide) rfl rfl ⟨⟨_,rfl,Blk.le_refl _⟩,trivial⟩ rfl rfl (fun _=>rfl) (fun _=>allOwn rfl) (fun _=>rfl) (fun _=>?_);refine A9 ?_;refine E1 fun w hL=>⟨(),rfl,hL.pk []⟩
theorem c_Depth{x:XT}(z:XR x)(hM:x.size≤1000000000):ECall Tryz.prog 22 [gB z.T false] [z.v] Unit (fun _=> .int .i64 (foldN (fun _ lv n=>max n lv) x 1 0:Nat)) (fun _=>[]):=by
 refine⟨by kernel_rfl,fun B w hD hL0=>?_⟩;refine cB1 8 Tryz.func22 hL0 ?_;refine A2 ?_;refine Bo [_,_,_,_,_,_,_] 7 (fun g=>[_,⟨some g,30,_,7,true⟩]) (fun g0=>?_);refine A5 ?_;refine r_alloc [_] 1 (fun g=>[_,_,⟨some g,3,_,1,true⟩]) rfl rfl z3 rfl rfl (fun _=>rfl) (fun g1=>?_);refine So 2 0 [_,_,⟨some g1,3,_,1,true⟩] [_] ?_;refine A3 ?_;refine at_regionM ?_;refine Ld 1 0 [_,_,_,_,_,_,_] ti30 ?_;refine Kr 4 (z.v) ?_;refine A1 ?_;refine r_gcallM (A:=[VN g1 0]) (C:=[gB z.T false]) [z.v,.int .i64 (1:Nat),.func (.func 53) #[] #[.pointer (some ⟨g1,0,none⟩)]] [2] [0] (fun _=>[_,_,VN g1 (foldN (fun _ lv n=>max n lv) x 1 0)]) rfl rfl rfl rfl (c_each 53 (fun _ lv n=>max n lv) (fun _ lv n=>by omega) g1 (fun u lv n h h2=>c_Depth_1 u lv n g1 h h2) x z 1 0 (by omega)) (by decide) rfl rfl ⟨⟨_,rfl,Blk.le_refl _⟩,trivial⟩ rfl rfl (fun _=>rfl) (fun _=>allOwn rfl) (fun _=>rfl) (fun _=>?_);refine A9 ?_;refine E1 fun w hL=>⟨(),rfl,hL.pk []⟩
def kS:Bs8:=[111,98,106,101,99,116,115,32,99,32,119,104,101,114,101,32,115,111,109,101,116,105,109,101,40,105,110,115,105,100,101,40,99,44,32,122,111,110,101,40,34,110,111,114,116,104,34,41,41,32,97,110,100,32,119,105,116,104,105,110,40,99,44,32,111,98,106,101,99,116,40,51,41,44,32,53,48,41,41]
def kq:Ps:=(p0 kS).adv.adv.name.want tWhere
def kT:XT:= .node 26 [.node 23 [.node 16 [.named 4 [99],.named 5 [110,111,114,116,104]],.node 15 [.named 4 [99],.numd 3 3,.numd 1 50]]]
def kP:Ps:=⟨kS,79,0,79,[],0,0,false⟩
theorem k_head:headK (p0 kS).adv=(2,[[99]],kq):=by kernel_rfl
theorem k_lev:lev 60 1 kq=some (kT,kP):=by kernel_rfl
theorem k_fit:kT.fit=true:=by decide+kernel
theorem k_size:kT.size=9:=by kernel_rfl
theorem k_end(e:Nat):kP.endE e=e:=rfl
theorem k_txt:txt kT 1=kS.drop 16:=by kernel_rfl
theorem k_sz:foldN (fun _ lv n=>n+1) kT 1 0=9:=by kernel_rfl
theorem k_dp:foldN (fun _ lv n=>max n lv) kT 1 0=4:=by kernel_rfl
theorem k_chkE:chkE kT=0:=by kernel_rfl
theorem k_varsL:varsL kT=[[99],[99]]:=by kernel_rfl
theorem k_vars:varsU kT=[[99]]:=by
 unfold varsU
 rw[k_varsL]
 unfold sortL
 simp[List.mergeSort,Lib.compact]
 try rfl
theorem k_chkQ:chkQ 2 [[99]] kT=0:=by
 unfold chkQ
 rw[if_neg (by decide),if_neg (by decide),if_neg (by decide+kernel),if_neg (by decide),if_neg (by rw[k_chkE];simp),if_neg (by rw[k_vars];decide)]
theorem k_E:kP.endE (chkQ 2 [[99]] kT)=0:=by rw[k_end,k_chkQ]
theorem k_prT:prQT 2 [[99]] kT=kS:=by
 unfold prQT
 rw[if_pos k_chkQ,k_txt]
 kernel_rfl
theorem k_prC:prQC 2 [[99]] kT=0:=by
 unfold prQC
 rw[if_pos k_chkQ,k_txt]
 kernel_rfl
theorem c_Parse_k:ECall Tryz.prog 42 [] [.string (strU kS)] (Option Nat×XR kT) (fun z=> .tuple #[QV 2 z.1 [] [[99]] 1 z.2,.int .i64 0,.int .i64 0]) (fun z=>[⟨z.1,9,SB [[99]],1,true⟩,gB z.2.T true]):=by
 have h:=c_Parse_ok kS (by decide) 2 [[99]] kq k_head 60 (kT,kP) k_lev k_fit (by rw[show(kT,kP).1=kT from rfl,k_size];decide)
 have e:(fun z:Option Nat×XR kT=>pqV 2 [[99]] (kT,kP) z.1 z.2)=(fun z=> .tuple #[QV 2 z.1 [] [[99]] 1 z.2,.int .i64 0,.int .i64 0]):=funext fun z=>pqV_yes 2 [[99]] (r:=(kT,kP)) z.1 z.2 k_E
 exact e▸h
theorem c_Print_k(b:Option Nat)(z:XR kT)(m:Int):ECall Tryz.prog 28 [VBk b 9 [] [[99]] 1,gB z.T false,GM m] [QV 2 b [] [[99]] 1 z] Unit (fun _=> .tuple #[.string (strU kS),.int .i64 0]) (fun _=>[]):=by
 have h:=c_Print 2 (by decide) b 9 [] [[99]] 1 1 (by simp) (fun v hv=>by rw[List.mem_singleton.1 hv];simp) (by simp) z m k_fit (by rw[k_size];decide) (fun _=>by rw[k_txt];decide+kernel)
 rw[k_prT,k_prC] at h
 exact h
theorem c_Variables_k(z:XR kT):ECall Tryz.prog 25 [gB z.T false] [z.v] (SRw [[99]]) (fun s=>slv s.b 0 1 s.cap) (fun s=>[VR s]):=by
 have h:=c_Variables z (by rw[k_size];decide)
 rw[k_vars] at h
 exact h
theorem c_Size_k(z:XR kT):ECall Tryz.prog 20 [gB z.T false] [z.v] Unit (fun _=> .int .i64 9) (fun _=>[]):=by
 have h:=c_Size z (by rw[k_size];decide)
 rw[k_sz] at h
 exact h
theorem c_Depth_k(z:XR kT):ECall Tryz.prog 22 [gB z.T false] [z.v] Unit (fun _=> .int .i64 4) (fun _=>[]):=by
 have h:=c_Depth z (by rw[k_size];decide)
 rw[k_dp] at h
 exact h
theorem c_known(m:Int):ECall Tryz.prog 12 [GM m] [] Unit (fun _=> .bool true) (fun _=>[]):=by
 refine⟨by kernel_rfl,fun B w hD hL0=>?_⟩;refine cB0 65 Tryz.func12 hL0 ?_;refine A11 ?_;refine at_regionM ?_;refine A1 ?_;refine Gm 0 [] [] (fun(z:Option Nat×XR kT)=>[_,⟨z.1,9,SB [[99]],1,true⟩,gB z.2.T true]) c_Parse_k (fun⟨b,z⟩=>?_);refine A4 ?_;refine r_alloc [_,_,_,_,_,_,_,_,_] 9 (fun g=>[_,_,_,⟨some g,39,_,9,true⟩]) rfl rfl z39 rfl rfl (fun _=>rfl) (fun g0=>?_);refine So 3 0 [_,_,_,⟨some g0,39,_,9,true⟩] [_,_,_,_,_,_,_,_,_] ?_;refine A5 ?_;refine at_regionM ?_;refine Ld 3 0 [_,_,_,_,_,_,_,_,_] ti39 ?_;refine Kr 15 (QV 2 b [] [[99]] 1 z) ?_;refine r_gcallM (A:=[]) (C:=[VBk b 9 [] [[99]] 1,gB z.T false,GM m]) [QV 2 b [] [[99]] 1 z] [] [1,2,0] (fun _=>[_,_,_,_]) rfl rfl rfl rfl (c_Print_k b z m) (by decide) rfl rfl ⟨⟨_,rfl,le_share⟩,⟨_,rfl,le_share⟩,⟨_,rfl,Blk.le_refl _⟩,trivial⟩ rfl rfl (fun _=>rfl) (fun _=>allOwn rfl) (fun _=>rfl) (fun _=>?_);refine A8 ?_;refine at_regionM ?_;refine A1 ?_;refine Ld 3 2 [_,_,_,_,_,_,_] ti30 ?_;refine Kr 20 (z.v) ?_;refine r_gcallM (A:=[]) (C:=[gB z.T false]) [z.v] [] [2] (fun s=>[_,_,_,_,VR s]) rfl rfl rfl rfl (c_Variables_k z) (by decide) rfl rfl ⟨⟨_,rfl,le_share⟩,trivial⟩ rfl rfl (fun _=>rfl) (fun _=>allOwn rfl) (fun _=>rfl) (fun s=>?_);refine A4 ?_;refine at_regionM ?_;refine A3 ?_;refine Rs 24 ?_ ?_<;>intro hb0
 ·refine A4 ?_;refine Rs 28 ?_ ?_<;>intro hb1
  ·refine A5 ?_;refine Rs 33 ?_ ?_<;>intro hb2
   ·refine A4 ?_;refine Rs 37 ?_ ?_<;>intro hb3
    ·refine A5 ?_;refine Rs 42 ?_ ?_<;>intro hb4
     ·refine A5 ?_;refine Rs 47 ?_ ?_<;>intro hb5
      ·refine A1 ?_;refine r_indexAddr 4 (0*1) u36 ti9 rfl rfl rfl rfl rfl (by decide) (by decide) (SB_ne (by decide)) (by show 0+Int.toNat _*1=_;rfl) ?_;refine r_load (v:= .string (strU [99])) 4 (0*1) _ rfl rfl rfl rfl ti9 (SB_get rfl) rfl (by decide) rfl ?_;refine A3 ?_;refine Rs 53 ?_ ?_<;>intro hb6
       ·refine A1 ?_;refine Ld 3 2 [_,_,_,_,_,_,_] ti30 ?_;refine Kr 55 (z.v) ?_;refine r_gcallM (A:=[]) (C:=[gB z.T false]) [z.v] [] [2] (fun _=>[_,_,_,_,_]) rfl rfl rfl rfl (c_Size_k z) (by decide) rfl rfl ⟨⟨_,rfl,le_share⟩,trivial⟩ rfl rfl (fun _=>rfl) (fun _=>allOwn rfl) (fun _=>rfl) (fun _=>?_);refine A3 ?_;refine Rs 59 ?_ ?_<;>intro hb7
        ·refine A1 ?_;refine Ld 3 2 [_,_,_,_,_,_,_] ti30 ?_;refine Kr 61 (z.v) ?_;refine r_gcallM (A:=[]) (C:=[gB z.T false]) [z.v] [] [2] (fun _=>[_,_,_,_,_]) rfl rfl rfl rfl (c_Depth_k z) (by decide) rfl rfl ⟨⟨_,rfl,le_share⟩,trivial⟩ rfl rfl (fun _=>rfl) (fun _=>allOwn rfl) (fun _=>rfl) (fun _=>?_);refine A6 ?_;refine E1 fun w hL=>⟨(),rfl,hL.pk []⟩
        ·exact absurd hb7 (by first|decide|simp)
       ·exact absurd hb6 (by first|decide|simp)
      ·exact absurd hb5 (by first|decide|simp)
     ·exact absurd hb4 (by first|decide|simp)
    ·exact absurd hb3 (by first|decide|simp)
   ·exact absurd hb2 (by first|decide|simp)
  ·exact absurd hb1 (by first|decide|simp)
 ·exact absurd hb0 (by first|decide|simp)
theorem c_law_word(l:Bs8)(hn:l.length≤1000000):PCall Tryz.prog 45 #[.string (strU l)] (.bool (wordL l)):=by
 refine⟨by kernel_rfl,fun w=>?_⟩;refine cB1 34 Tryz.func45 (LRel.nil w) ?_;refine A12 ?_;refine El (ι:={i:Nat // i≤l.length∧wordL l=wordAt l i}) (fun⟨i,hi,hI⟩=>([(0,.string (strU l)),(3,.int .i64 (i:Nat))],[],l.length-i)) ⟨0,Nat.zero_le _,rfl⟩ ?_;rintro⟨i,hi,hI⟩;(try dsimp only);refine A6 ?_;refine r_know 6 (.int .i64 (l.length:Nat)) rfl (by rw[strU_size]) ?_;refine A3 ?_;refine Cd ?_ ?_<;>intro hb1
 ·have hlt:i<l.length:=(by have:=of_decide_eq_true hb1;omega);obtain⟨c,hx⟩:∃c,l[i]? =some c:=⟨l[i],List.getElem?_eq_getElem hlt⟩;refine A8 ?_;refine r_idxS (b:=c) (r:=(c.toNat:Int)) u9 rfl rfl rfl rfl (by omega) hx rfl ?_;refine Pc (c_law_letter _) ?_;refine A2 ?_;refine Rs 15 ?_ ?_<;>intro hb2
  ·have hlet:isLet c=false:=by simpa using hb2
   refine A3 ?_;refine Rs 18 ?_ ?_<;>intro hb3
   ·have hi0:i=0:=by have:=eq_of_beq hb3;omega
    refine A27 ?_;refine E1 fun w hL=>⟨?_,hL.below⟩;exact eB (by rw[hI,wordAt_no hx hlet (.inl hi0)])
   ·have hi0:i≠0:=by have:=ne_of_beq_false hb3;omega
    refine A2 ?_;refine r_idxS (b:=c) (r:=(c.toNat:Int)) u9 rfl rfl rfl rfl (by omega) hx rfl ?_;refine Pc (c_law_digit _) ?_;refine A2 ?_;refine Rs 24 ?_ ?_<;>intro hb4
    ·have hdig:isDig c=false:=by simpa using hb4
     refine A2 ?_;refine r_idxS (b:=c) (r:=(c.toNat:Int)) u9 rfl rfl rfl rfl (by omega) hx rfl ?_;refine A6 ?_;refine Cd ?_ ?_<;>intro hb5
     ·have h95:c≠95:=by have hh:=hb5;simp only[bne_iff_ne,ne_eq,Bool.not_eq_true,bne_eq_false_iff_eq] at hh;intro e;subst e;exact hh rfl
      refine A11 ?_;refine E1 fun w hL=>⟨?_,hL.below⟩;exact eB (by rw[hI,wordAt_no hx hlet (.inr ⟨hdig,h95⟩)])
     ·have h95:c=95:=by have hh:=hb5;simp only[bne_iff_ne,ne_eq,Bool.not_eq_true,bne_eq_false_iff_eq] at hh;exact UInt8.toNat_inj.1 (by simpa using Int.ofNat_inj.1 hh)
      refine A5 ?_;refine Ar (((i+1:Nat):Int)) ?_;refine A3 ?_;exact Nl ⟨i+1,hlt,hI.trans (wordAt_go hx (.inr ⟨hi0,.inr h95⟩))⟩
    ·have hdig:isDig c=true:=by simpa using hb4
     refine A15 ?_;refine Ar (((i+1:Nat):Int)) ?_;refine A3 ?_;exact Nl ⟨i+1,hlt,hI.trans (wordAt_go hx (.inr ⟨hi0,.inl hdig⟩))⟩
  ·have hlet:isLet c=true:=by simpa using hb2
   refine A24 ?_;refine Ar (((i+1:Nat):Int)) ?_;refine A3 ?_;exact Nl ⟨i+1,hlt,hI.trans (wordAt_go hx (.inl hlet))⟩
 ·have hge:i=l.length:=(by have:=of_decide_eq_false hb1;omega);subst hge;refine A13 ?_;refine E1 fun w hL=>⟨?_,hL.below⟩;exact eB (by rw[hI,wordAt_end])
theorem c_law_isZone(l:Bs8)(hn:l.length≤1000000):PCall Tryz.prog 16 #[.string (strU l)] (.bool (zoneL l)):=by
 refine⟨by kernel_rfl,fun w=>?_⟩;refine cB1 28 Tryz.func16 (LRel.nil w) ?_;refine A12 ?_;refine El (ι:={i:Nat // i≤l.length∧l.all zch=(l.drop i).all zch}) (fun⟨i,hi,hI⟩=>([(0,.string (strU l)),(3,.int .i64 (i:Nat))],[],l.length-i)) ⟨0,Nat.zero_le _,rfl⟩ ?_;rintro⟨i,hi,hI⟩;(try dsimp only);refine A6 ?_;refine r_know 6 (.int .i64 (l.length:Nat)) rfl (by rw[strU_size]) ?_;refine A3 ?_;refine Cd ?_ ?_<;>intro hb1
 ·have hlt:i<l.length:=(by have:=of_decide_eq_true hb1;omega);obtain⟨c,hx⟩:∃c,l[i]? =some c:=⟨l[i],List.getElem?_eq_getElem hlt⟩;refine A8 ?_;refine r_idxS (b:=c) (r:=(c.toNat:Int)) u9 rfl rfl rfl rfl (by omega) hx rfl ?_;refine A2 ?_;refine Rs 14 ?_ ?_<;>intro hb2
  ·have h32:c.toNat<32:=(by have:=of_decide_eq_true hb2;omega);have hz:zch c=false:=by unfold zch;simp;omega
   refine A19 ?_;refine E1 fun w hL=>⟨?_,hL.below⟩;exact eB (by unfold zoneL;rw[hI,all_go hx,hz];rfl)
  ·have h32:¬c.toNat<32:=(by have:=of_decide_eq_false hb2;omega);refine A2 ?_;refine r_idxS (b:=c) (r:=(c.toNat:Int)) u9 rfl rfl rfl rfl (by omega) hx rfl ?_;refine A4 ?_;refine Cd ?_ ?_<;>intro hb3
   ·have h126:126<c.toNat:=(by have:=of_decide_eq_true hb3;omega);have hz:zch c=false:=by unfold zch;simp;omega
    refine A11 ?_;refine E1 fun w hL=>⟨?_,hL.below⟩;exact eB (by unfold zoneL;rw[hI,all_go hx,hz];rfl)
   ·have h126:¬126<c.toNat:=(by have:=of_decide_eq_false hb3;omega);have hz:zch c=true:=by unfold zch;simp;omega
    refine A5 ?_;refine Ar (((i+1:Nat):Int)) ?_;refine A3 ?_;exact Nl ⟨i+1,hlt,by rw[hI,all_go hx,hz,Bool.true_and]⟩
 ·have hge:i=l.length:=(by have:=of_decide_eq_false hb1;omega);subst hge;refine A9 ?_;refine r_know 21 (.int .i64 (l.length:Nat)) rfl (by rw[strU_size]) ?_;refine A2 ?_;refine Rs 23 ?_ ?_<;>intro hb2
  ·have h1:1≤l.length:=(by have:=of_decide_eq_true hb2;omega);refine A2 ?_;refine r_know 25 (.int .i64 (l.length:Nat)) rfl (by rw[strU_size]) ?_;refine A6 ?_;refine E1 fun w hL=>⟨?_,hL.below⟩;exact eB (by unfold zoneL;rw[hI,List.drop_length,decide_eq_true h1];simp;omega)
  ·have h1:¬1≤l.length:=(by have:=of_decide_eq_false hb2;omega);refine A8 ?_;refine E1 fun w hL=>⟨?_,hL.below⟩;exact eB (by unfold zoneL;rw[decide_eq_false h1];simp)
end Go.Proofs.YtfijbadahkmhbaaGreatDoor
namespace Go.Via
open Go Go.RowKit
def frm4(o:Nat×Nat×Nat×Bs8):List Value:=[.int .i64 (o.1:Nat),.int .i64 (o.2.1:Nat),.int .i64 (o.2.2.1:Nat),.string (strU o.2.2.2)]
def frmC(l:List (Nat×Nat×Nat×Bs8)):List Value:=l.flatMap frm4
theorem frmC_cons(o:Nat×Nat×Nat×Bs8)(l:List (Nat×Nat×Nat×Bs8)):frmC (o::l)=frm4 o++frmC l:=List.flatMap_cons
theorem frmC_get:∀{l:List (Nat×Nat×Nat×Bs8)} {i:Nat} {o:Nat×Nat×Nat×Bs8},l[i]? =some o→((frmC l).drop (i*4)).take 4=frm4 o
 |[],i,o,h=>by simp at h
 |p::l,0,o,h=>by simp at h;subst h;rw[frmC_cons];rfl
 |p::l,i+1,o,h=>by
  rw[frmC_cons,List.drop_append,show(i+1)*4-(frm4 p).length=i*4 by show(i+1)*4-4=_;omega,List.drop_eq_nil_of_le (by show 4≤_;omega)]
  exact frmC_get (l:=l) (by simpa using h)
theorem frmC_word{l:List (Nat×Nat×Nat×Bs8)}{i:Nat}{o:Nat×Nat×Nat×Bs8}(h:l[i]? =some o):((frmC l).drop (i*4+3)).take 1=[.string (strU o.2.2.2)]:=by
 have h1:=frmC_get h
 have h2:(((frmC l).drop (i*4)).take 4).drop 3=[.string (strU o.2.2.2)]:=by rw[h1];rfl
 rw[List.drop_take,List.drop_drop] at h2
 exact h2
theorem frmC_ne{l:List (Nat×Nat×Nat×Bs8)}(h:l≠[]):frmC l≠[]:=by
 cases l with
 |nil=>exact absurd rfl h
 |cons o l=>rw[frmC_cons];simp[frm4]
theorem mres_yes{l:Bs8}{i:Nat}{o:Nat×Nat×Nat×Bs8}(ho:frmT[i]? =some o)(h:o.2.2.2=l):mresL.contains l=true:=by
 rw[List.contains_iff_mem]
 unfold mresL
 exact List.mem_append.2 (.inr (List.mem_map.2 ⟨o,List.mem_of_getElem? ho,h⟩))
theorem mres_four{l:Bs8}(h:l=[118,97,108,117,101]∨l=[111,98,106,101,99,116,115]∨l=[112,97,105,114,115]∨l=[119,104,101,114,101]):mresL.contains l=true:=by
 rcases h with rfl|rfl|rfl|rfl<;>decide+kernel
theorem mres_no{l:Bs8}(h1:l≠[118,97,108,117,101])(h2:l≠[111,98,106,101,99,116,115])(h3:l≠[112,97,105,114,115])(h4:l≠[119,104,101,114,101])(h:(frmT.all fun o=>o.2.2.2 !=l)=true):mresL.contains l=false:=by
 rw[←Bool.not_eq_true,List.contains_iff_mem]
 unfold mresL
 intro hm
 rcases List.mem_append.1 hm with hm|hm
 ·simp at hm
  rcases hm with e|e|e|e
  ·exact h1 e
  ·exact h2 e
  ·exact h3 e
  ·exact h4 e
 ·obtain⟨o,ho,e⟩:=List.mem_map.1 hm
  have:=List.all_eq_true.1 h o ho
  rw[e] at this
  simp at this
end Go.Via
