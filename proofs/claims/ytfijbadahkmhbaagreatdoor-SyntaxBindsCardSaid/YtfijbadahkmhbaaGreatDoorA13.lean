/-
  Part 13 (chapter 43): lemmas, walks. Each theorem states its own conditions.
-/
import Derived.Test.YtfijbadahkmhbaaGreatDoorA04
import Derived.Test.YtfijbadahkmhbaaGreatDoorA08
import Derived.Test.YtfijbadahkmhbaaGreatDoorA10
import Derived.Test.YtfijbadahkmhbaaGreatDoorA11
import Derived.Test.YtfijbadahkmhbaaGreatDoorA12
set_option linter.unusedVariables false
set_option linter.unusedSimpArgs false
set_option maxRecDepth 20000
set_option maxHeartbeats 20000000
namespace Go.Proofs.YtfijbadahkmhbaaGreatDoor
open Go Go.RowKit Go.Via
theorem c_Parse_1(kind:Int)(hk: -9223372036854775808≤kind∧kind≤9223372036854775807)(b:Option Nat)(e:Nat)(l:List Bs8)(n cap:Nat)(hll:l.length≤1000000)(hvl:∀v∈l,v.length≤1000000){x:XT}(z:XR x)(hf:x.fit=true)(hM:x.size≤1000000)(gx:Nat):ECall Tryz.prog 79 [QBr gx kind b l cap z,VBk b e [] l n,gB z.T false] [.pointer (some ⟨gx,0,none⟩)] Unit (fun _=> .int .i64 (chkQ kind l x:Nat)) (fun _=>[]):=by
 refine⟨by kernel_rfl,fun B w hD hL0=>?_⟩;refine cB1 4 Tryz.func79 hL0 ?_;refine A6 ?_;refine at_regionM ?_;refine Ld 0 0 [_,_,_,_,_,_,_,_,_] ti39 ?_;refine Kr 2 (QV kind b [] l cap z) ?_;refine Gm 0 [] [1,2] (fun _=>[_,_,_]) (c_Check kind hk b e [] l n cap hll hvl z hf hM) (fun _=>?_);refine A4 ?_;refine E1 fun w hL=>⟨(),rfl,hL.pk []⟩
theorem c_p_end_q(p:Ps)(g:Nat)(kind:Int)(hk: -9223372036854775808≤kind∧kind≤9223372036854775807)(b:Option Nat)(e:Nat)(l:List Bs8)(n cap:Nat)(hll:l.length≤1000000)(hvl:∀v∈l,v.length≤1000000){x:XT}(z:XR x)(hf:x.fit=true)(hM:x.size≤1000000)(gx:Nat):ECall Tryz.prog 63 [PB g p true,QBr gx kind b l cap z,VBk b e [] l n,gB z.T false] [.pointer (some ⟨g,0,none⟩),.func (.func 79) #[] #[.pointer (some ⟨gx,0,none⟩)]] Unit (fun _=> .tuple #[.int .i64 (p.endA:Nat),.int .i64 (p.endE (chkQ kind l x):Nat)]) (fun _=>[PB g p.endP true]):=by
 refine⟨by kernel_rfl,fun B w hD hL0=>?_⟩;refine cB2 37 Tryz.func63 hL0 ?_;refine A15 ?_;refine Rs 11 ?_ ?_<;>intro hb0
 ·have hfl:p.fail=false:=by simpa using hb0
  refine A9 ?_;refine Cd ?_ ?_<;>intro hb1
  ·have hk0:p.k≠0:=by have hh:=hb1;simp only[bne_iff_ne,bne_eq_false_iff_eq,ne_eq] at hh;omega
   refine at_regionM ?_;refine A1 ?_;refine Gm 1 [0] [] (fun _=>[PB g (p.stop 15) true,_,_,_]) (c_p_stop p 15 g) (fun _=>?_);refine A11 ?_;refine Cd ?_ ?_<;>intro hb2
   ·have hf2:=hb2;refine A1 ?_;refine at_drawnI [2000000] mixed (by kernel_rfl) (by kernel_rfl) ?_;refine A16 ?_;refine at_end2 rfl (res_tmp rfl) (res_tmp rfl) (fun w hL=>by
 have hE:p.endP=p.stop 15:=(by unfold Ps.endP;rw[if_pos ⟨hfl,hk0⟩]);refine⟨(),?_,?_⟩
 ·unfold Ps.endA Ps.endE;rw[hE,if_pos hf2,if_pos hf2];try rfl
 ·rw[hE];exact hL.pk [some 0])
   ·have hf2:=hb2;refine A3 ?_;refine at_regionM ?_;refine A1 ?_;refine r_gfcallM (f:=79) (A:=[]) (C:=[QBr gx kind b l cap z,VBk b e [] l n,gB z.T false]) [] [.pointer (some ⟨gx,0,none⟩)] [] [1,2,3] (fun _=>[_,_,_,_]) rfl rfl rfl rfl rfl (c_Parse_1 kind hk b e l n cap hll hvl z hf hM gx) (by decide) rfl rfl ⟨⟨_,rfl,Blk.le_refl _⟩,⟨_,rfl,Blk.le_refl _⟩,⟨_,rfl,Blk.le_refl _⟩,trivial⟩ rfl rfl (fun _=>rfl) (fun _=>allOwn rfl) (fun _=>rfl) (fun _=>?_);refine A5 ?_;refine at_end2 rfl (res_tmp rfl) (res_tmp rfl) (fun w hL=>by
 have hE:p.endP=p.stop 15:=(by unfold Ps.endP;rw[if_pos ⟨hfl,hk0⟩]);refine⟨(),?_,?_⟩
 ·unfold Ps.endA Ps.endE;rw[hE,if_neg (by rw[hf2];simp),if_neg (by rw[hf2];simp)];try rfl
 ·rw[hE];exact hL.pk [some 0])
  ·have hk0:p.k=0:=by have hh:=hb1;simp only[bne_iff_ne,bne_eq_false_iff_eq,ne_eq] at hh;omega
   refine A11 ?_;refine Cd ?_ ?_<;>intro hb2
   ·have hf2:=hb2;refine A1 ?_;refine at_drawnI [2000000] mixed (by kernel_rfl) (by kernel_rfl) ?_;refine A16 ?_;refine at_end2 rfl (res_tmp rfl) (res_tmp rfl) (fun w hL=>by
 have hE:p.endP=p:=(by unfold Ps.endP;rw[if_neg (fun h=>h.2 hk0)]);refine⟨(),?_,?_⟩
 ·unfold Ps.endA Ps.endE;rw[hE,if_pos hf2,if_pos hf2];try rfl
 ·rw[hE];exact hL.pk [some 0])
   ·have hf2:=hb2;refine A3 ?_;refine at_regionM ?_;refine A1 ?_;refine r_gfcallM (f:=79) (A:=[]) (C:=[QBr gx kind b l cap z,VBk b e [] l n,gB z.T false]) [] [.pointer (some ⟨gx,0,none⟩)] [] [1,2,3] (fun _=>[_,_,_,_]) rfl rfl rfl rfl rfl (c_Parse_1 kind hk b e l n cap hll hvl z hf hM gx) (by decide) rfl rfl ⟨⟨_,rfl,Blk.le_refl _⟩,⟨_,rfl,Blk.le_refl _⟩,⟨_,rfl,Blk.le_refl _⟩,trivial⟩ rfl rfl (fun _=>rfl) (fun _=>allOwn rfl) (fun _=>rfl) (fun _=>?_);refine A5 ?_;refine at_end2 rfl (res_tmp rfl) (res_tmp rfl) (fun w hL=>by
 have hE:p.endP=p:=(by unfold Ps.endP;rw[if_neg (fun h=>h.2 hk0)]);refine⟨(),?_,?_⟩
 ·unfold Ps.endA Ps.endE;rw[hE,if_neg (by rw[hf2];simp),if_neg (by rw[hf2];simp)];try rfl
 ·rw[hE];exact hL.pk [some 0])
 ·have hfl:p.fail=true:=by simpa using hb0
  refine A21 ?_;refine Cd ?_ ?_<;>intro hb1
  ·have hf2:=hb1;refine A1 ?_;refine at_drawnI [2000000] mixed (by kernel_rfl) (by kernel_rfl) ?_;refine A16 ?_;refine at_end2 rfl (res_tmp rfl) (res_tmp rfl) (fun w hL=>by
 have hE:p.endP=p:=(by unfold Ps.endP;rw[if_neg (fun h=>by rw[hfl] at h;cases h.1)]);refine⟨(),?_,?_⟩
 ·unfold Ps.endA Ps.endE;rw[hE,if_pos hf2,if_pos hf2];try rfl
 ·rw[hE];exact hL.pk [some 0])
  ·have hf2:=hb1;refine A3 ?_;refine at_regionM ?_;refine A1 ?_;refine r_gfcallM (f:=79) (A:=[]) (C:=[QBr gx kind b l cap z,VBk b e [] l n,gB z.T false]) [] [.pointer (some ⟨gx,0,none⟩)] [] [1,2,3] (fun _=>[_,_,_,_]) rfl rfl rfl rfl rfl (c_Parse_1 kind hk b e l n cap hll hvl z hf hM gx) (by decide) rfl rfl ⟨⟨_,rfl,Blk.le_refl _⟩,⟨_,rfl,Blk.le_refl _⟩,⟨_,rfl,Blk.le_refl _⟩,trivial⟩ rfl rfl (fun _=>rfl) (fun _=>allOwn rfl) (fun _=>rfl) (fun _=>?_);refine A5 ?_;refine at_end2 rfl (res_tmp rfl) (res_tmp rfl) (fun w hL=>by
 have hE:p.endP=p:=(by unfold Ps.endP;rw[if_neg (fun h=>by rw[hfl] at h;cases h.1)]);refine⟨(),?_,?_⟩
 ·unfold Ps.endA Ps.endE;rw[hE,if_neg (by rw[hf2];simp),if_neg (by rw[hf2];simp)];try rfl
 ·rw[hE];exact hL.pk [some 0])
def headK(p:Ps):Nat×List Bs8×Ps:=
 if p.is tValue=true then(1,[],p.adv)
 else if p.is tObjects=true then(2,[p.adv.tx],p.adv.name.want tWhere)
 else if p.is tPairs=true then(3,[p.adv.tx,(p.adv.name.want tComma).tx],(p.adv.name.want tComma).name.want tWhere)
 else(0,[],p.stop 15)
noncomputable def pqV(kind:Nat)(l:List Bs8)(r:XT×Ps)(b:Option Nat)(z:XR r.1):Value:=
 .tuple #[if r.2.endE (chkQ kind l r.1)=0 then QV kind b [] l l.length z else QV 0 none [] [] 0 XR.empty,.int .i64 ((if r.2.endE (chkQ kind l r.1)=0 then 0 else r.2.endA:Nat):Int),.int .i64 (r.2.endE (chkQ kind l r.1):Nat)]
theorem pqV_no(kind:Nat)(l:List Bs8){r:XT×Ps}(b:Option Nat)(z:XR r.1)(h:r.2.endE (chkQ kind l r.1)≠0):pqV kind l r b z= .tuple #[QV 0 none [] [] 0 XR.empty,.int .i64 (r.2.endA:Nat),.int .i64 (r.2.endE (chkQ kind l r.1):Nat)]:=by
 unfold pqV
 simp only[if_neg h]
theorem pqV_yes(kind:Nat)(l:List Bs8){r:XT×Ps}(b:Option Nat)(z:XR r.1)(h:r.2.endE (chkQ kind l r.1)=0):pqV kind l r b z= .tuple #[QV kind b [] l l.length z,.int .i64 0,.int .i64 0]:=by
 unfold pqV
 simp only[h,if_true]
 rfl
theorem c_Parse_ok(s:Bs8)(hs:s.length≤4096)(kind:Nat)(l:List Bs8)(q:Ps)(hh:headK (p0 s).adv=(kind,l,q))(f:Nat)(r:XT×Ps)(hr:lev f 1 q=some r)(hf:r.1.fit=true)(hM:r.1.size≤1000000):ECall Tryz.prog 42 [] [.string (strU s)] (Option Nat×XR r.1) (fun z=>pqV kind l r z.1 z.2) (fun z=>[⟨z.1,9,SB l,l.length,true⟩,gB z.2.T true]):=by
 refine⟨by kernel_rfl,fun B w hD hL0=>?_⟩;have hP:=Ps.adv_good (p:=p0 s) ⟨hs,Nat.zero_le _⟩;have hA:=Ps.adv_good hP.1;have hC:=Ps.want_good (x:=tComma) (Ps.name_good hA);refine cB1 62 Tryz.func42 hL0 ?_;refine A2 ?_;refine r_alloc [_,_,_,_,_,_,_,_,_] 9 (fun g=>[⟨some g,39,_,9,true⟩]) rfl rfl z39 rfl rfl (fun _=>rfl) (fun g0=>?_);refine A5 ?_;refine at_regionM ?_;refine A1 ?_;refine Gm 0 [] [] (fun g=>[_,PB g (p0 s).adv true]) (c_start_ok s hs) (fun g=>?_);refine A14 ?_;refine Cd ?_ ?_<;>intro hb0
 ·exact absurd hb0 (by decide)
 ·refine A5 ?_;refine at_regionM ?_;refine A1 ?_;refine Gm 1 [1] [] (fun _=>[_,PB g ((p0 s).adv.tk tValue) true]) (c_p_take (p0 s).adv hP.1 tValue g) (fun _=>?_);refine A3 ?_;refine Cd ?_ ?_<;>intro hb1
  ·have hisv:(p0 s).adv.is tValue=true:=hb1;have htkv:(p0 s).adv.tk tValue=(p0 s).adv.adv:=by unfold Ps.tk;rw[hisv];rfl
   rw[htkv];unfold headK at hh;rw[if_pos hisv] at hh;cases hh;refine A2 ?_;refine So 0 0 [⟨some g0,39,_,9,true⟩,_] [_,_,_,_,_,_,_,_,_] ?_;refine A4 ?_;refine at_regionM ?_;refine A1 ?_;refine Gm 1 [1] [] (fun z=>[_,PB g r.2 true,gB z.T true]) (c_p_level f g 1 ((p0 s).adv.adv) r hA (by decide) (by decide) hr) (fun z=>?_);refine A1 ?_;refine So 0 2 [⟨some g0,39,_,9,true⟩,_,_] [_,_,_,_,_,_,_,_,_] ?_;refine A3 ?_;refine at_weakL (L':=[_,_,_,⟨none,9,[],0,true⟩]) (Weak.nilB _ (by decide)) ?_;refine at_regionM ?_;refine A2 ?_;refine r_gcallM (A:=[PB g r.2 true]) (C:=[QBr g0 1 none [] 0 z,VBk none 9 [] [] 0,gB z.T false]) [.pointer (some ⟨g,0,none⟩),.func (.func 79) #[] #[.pointer (some ⟨g0,0,none⟩)]] [1] [0,3,2] (fun _=>[_,PB g r.2.endP true,_,_]) rfl rfl rfl rfl (c_p_end_q r.2 g 1 (by decide) none 9 [] 0 0 (by simp) (fun v hv=>by simp at hv) z hf hM g0) (by decide) rfl rfl ⟨⟨_,rfl,le_share⟩,⟨_,rfl,le_share⟩,⟨_,rfl,le_share⟩,trivial⟩ rfl rfl (fun _=>rfl) (fun _=>allOwn rfl) (fun _=>rfl) (fun _=>?_);refine A14 ?_;refine Cd ?_ ?_<;>intro hb2
   ·have hE:r.2.endE (chkQ 1 [] r.1)≠0:=by simpa using hb2
    refine A2 ?_;refine r_build [] rfl rfl rfl (bd39_0) ?_;refine A2 ?_;refine So 0 0 [⟨some g0,39,_,9,true⟩,_,_,_] [_,_,_,_,_,_,_,_,_] ?_;refine A6 ?_;refine at_end3 rfl (res_cell 0 rfl rfl ti39 (vs:=[_,_,_,_,_,_,_,_,_]) rfl rfl (Nat.le_of_ble_eq_true rfl) rfl) (res_tmp rfl) (res_tmp rfl) (fun w hL=>⟨(none,z),by exact congrArg Ending.returned (pqV_no 1 [] none z hE).symm,hL.pk [some 3,some 2]⟩)
   ·have hE:r.2.endE (chkQ 1 [] r.1)=0:=by simpa using hb2
    refine A4 ?_;refine Ld 0 0 [_,_,_,_,_,_,_,_,_] ti39 ?_;refine So 0 0 [⟨some g0,39,_,9,true⟩,_,_,_] [_,_,_,_,_,_,_,_,_] ?_;refine A5 ?_;refine at_end3 rfl (res_cell 0 rfl rfl ti39 (vs:=[_,_,_,_,_,_,_,_,_]) rfl rfl (Nat.le_of_ble_eq_true rfl) rfl) (res_tmp rfl) (res_tmp rfl) (fun w hL=>⟨(none,z),by exact congrArg Ending.returned (pqV_yes 1 [] none z hE).symm,hL.pk [some 3,some 2]⟩)
  ·have hisv:(p0 s).adv.is tValue=false:=hb1;have htkv:(p0 s).adv.tk tValue=(p0 s).adv:=by unfold Ps.tk;rw[hisv];rfl
   rw[htkv];refine A1 ?_;refine at_regionM ?_;refine A1 ?_;refine Gm 1 [1] [] (fun _=>[_,PB g ((p0 s).adv.tk tObjects) true]) (c_p_take (p0 s).adv hP.1 tObjects g) (fun _=>?_);refine A3 ?_;refine Cd ?_ ?_<;>intro hb2
   ·have hiso:(p0 s).adv.is tObjects=true:=hb2;have htko:(p0 s).adv.tk tObjects=(p0 s).adv.adv:=by unfold Ps.tk;rw[hiso];rfl
    rw[htko];unfold headK at hh;rw[if_neg (by rw[hisv];simp),if_pos hiso] at hh;cases hh;refine A3 ?_;refine So 0 0 [⟨some g0,39,_,9,true⟩,_] [_,_,_,_,_,_,_,_,_] ?_;refine A3 ?_;refine at_regionM ?_;refine A1 ?_;refine Gm 1 [1] [] (fun _=>[_,PB g ((p0 s).adv.adv.name) true]) (c_p_name ((p0 s).adv.adv) hA.1 g) (fun _=>?_);refine r_buildSlice [(0,_)] (fun g=>[_,_,⟨some g,9,_,1,true⟩]) rfl rfl rfl (bs36_1) rfl (fun _=>rfl) (fun g1=>?_);refine A1 ?_;refine So 0 1 [⟨some g0,39,_,9,true⟩,_,_] [_,_,_,_,_,_,_,_,_] ?_;refine A2 ?_;refine at_regionM ?_;refine A1 ?_;refine Gm 1 [1] [] (fun _=>[_,PB g (((p0 s).adv.adv.name).want tWhere) true,_]) (c_p_want ((p0 s).adv.adv.name) (Ps.name_good hA).1 tWhere g) (fun _=>?_);refine A4 ?_;refine at_regionM ?_;refine A1 ?_;refine Gm 1 [1] [] (fun z=>[_,PB g r.2 true,_,gB z.T true]) (c_p_level f g 1 ((p0 s).adv.adv.name.want tWhere) r (Ps.want_good (Ps.name_good hA)) (by decide) (by decide) hr) (fun z=>?_);refine A1 ?_;refine So 0 2 [⟨some g0,39,_,9,true⟩,_,_,_] [_,_,_,_,_,_,_,_,_] ?_;refine A3 ?_;refine at_regionM ?_;refine A2 ?_;refine r_gcallM (A:=[PB g r.2 true]) (C:=[QBr g0 2 (some g1) [(p0 s).adv.adv.tx] 1 z,VBk (some g1) 9 [] [(p0 s).adv.adv.tx] 1,gB z.T false]) [.pointer (some ⟨g,0,none⟩),.func (.func 79) #[] #[.pointer (some ⟨g0,0,none⟩)]] [1] [0,2,3] (fun _=>[_,PB g r.2.endP true,_,_]) rfl rfl rfl rfl (c_p_end_q r.2 g 2 (by decide) (some g1) 9 [(p0 s).adv.adv.tx] 1 1 (by simp) (fun v hv=>by have:=hA.2.2;rw[List.mem_singleton.1 hv];omega) z hf hM g0) (by decide) rfl rfl ⟨⟨_,rfl,le_share⟩,⟨_,rfl,le_share⟩,⟨_,rfl,le_share⟩,trivial⟩ rfl rfl (fun _=>rfl) (fun _=>allOwn rfl) (fun _=>rfl) (fun _=>?_);refine A14 ?_;refine Cd ?_ ?_<;>intro hb3
    ·have hE:r.2.endE (chkQ 2 [(p0 s).adv.adv.tx] r.1)≠0:=by simpa using hb3
     refine A2 ?_;refine r_build [] rfl rfl rfl (bd39_0) ?_;refine A2 ?_;refine So 0 0 [⟨some g0,39,_,9,true⟩,_,_,_] [_,_,_,_,_,_,_,_,_] ?_;refine A6 ?_;refine at_end3 rfl (res_cell 0 rfl rfl ti39 (vs:=[_,_,_,_,_,_,_,_,_]) rfl rfl (Nat.le_of_ble_eq_true rfl) rfl) (res_tmp rfl) (res_tmp rfl) (fun w hL=>⟨((some g1),z),by exact congrArg Ending.returned (pqV_no 2 [(p0 s).adv.adv.tx] (some g1) z hE).symm,hL.pk [some 2,some 3]⟩)
    ·have hE:r.2.endE (chkQ 2 [(p0 s).adv.adv.tx] r.1)=0:=by simpa using hb3
     refine A4 ?_;refine Ld 0 0 [_,_,_,_,_,_,_,_,_] ti39 ?_;refine So 0 0 [⟨some g0,39,_,9,true⟩,_,_,_] [_,_,_,_,_,_,_,_,_] ?_;refine A5 ?_;refine at_end3 rfl (res_cell 0 rfl rfl ti39 (vs:=[_,_,_,_,_,_,_,_,_]) rfl rfl (Nat.le_of_ble_eq_true rfl) rfl) (res_tmp rfl) (res_tmp rfl) (fun w hL=>⟨((some g1),z),by exact congrArg Ending.returned (pqV_yes 2 [(p0 s).adv.adv.tx] (some g1) z hE).symm,hL.pk [some 2,some 3]⟩)
   ·have hiso:(p0 s).adv.is tObjects=false:=hb2;have htko:(p0 s).adv.tk tObjects=(p0 s).adv:=by unfold Ps.tk;rw[hiso];rfl
    rw[htko];refine A1 ?_;refine at_regionM ?_;refine A1 ?_;refine Gm 1 [1] [] (fun _=>[_,PB g ((p0 s).adv.tk tPairs) true]) (c_p_take (p0 s).adv hP.1 tPairs g) (fun _=>?_);refine A3 ?_;refine Cd ?_ ?_<;>intro hb3
    ·have hisp:(p0 s).adv.is tPairs=true:=hb3;have htkp:(p0 s).adv.tk tPairs=(p0 s).adv.adv:=by unfold Ps.tk;rw[hisp];rfl
     rw[htkp];unfold headK at hh;rw[if_neg (by rw[hisv];simp),if_neg (by rw[hiso];simp),if_pos hisp] at hh;cases hh;refine A3 ?_;refine So 0 0 [⟨some g0,39,_,9,true⟩,_] [_,_,_,_,_,_,_,_,_] ?_;refine A3 ?_;refine at_regionM ?_;refine A1 ?_;refine Gm 1 [1] [] (fun _=>[_,PB g ((p0 s).adv.adv.name) true]) (c_p_name ((p0 s).adv.adv) hA.1 g) (fun _=>?_);refine A4 ?_;refine at_regionM ?_;refine A1 ?_;refine Gm 1 [1] [] (fun _=>[_,PB g (((p0 s).adv.adv.name).want tComma) true]) (c_p_want ((p0 s).adv.adv.name) (Ps.name_good hA).1 tComma g) (fun _=>?_);refine A3 ?_;refine at_regionM ?_;refine A2 ?_;refine Gm 1 [1] [] (fun _=>[_,PB g (((p0 s).adv.adv.name.want tComma).name) true]) (c_p_name (((p0 s).adv.adv.name.want tComma)) hC.1 g) (fun _=>?_);refine r_buildSlice [(0,_),(1,_)] (fun g=>[_,_,⟨some g,9,_,2,true⟩]) rfl rfl rfl (bs36_2) rfl (fun _=>rfl) (fun g1=>?_);refine A1 ?_;refine So 0 1 [⟨some g0,39,_,9,true⟩,_,_] [_,_,_,_,_,_,_,_,_] ?_;refine A2 ?_;refine at_regionM ?_;refine A1 ?_;refine Gm 1 [1] [] (fun _=>[_,PB g ((((p0 s).adv.adv.name.want tComma).name).want tWhere) true,_]) (c_p_want (((p0 s).adv.adv.name.want tComma).name) (Ps.name_good hC).1 tWhere g) (fun _=>?_);refine A4 ?_;refine at_regionM ?_;refine A1 ?_;refine Gm 1 [1] [] (fun z=>[_,PB g r.2 true,_,gB z.T true]) (c_p_level f g 1 (((p0 s).adv.adv.name.want tComma).name.want tWhere) r (Ps.want_good (Ps.name_good hC)) (by decide) (by decide) hr) (fun z=>?_);refine A1 ?_;refine So 0 2 [⟨some g0,39,_,9,true⟩,_,_,_] [_,_,_,_,_,_,_,_,_] ?_;refine A3 ?_;refine at_regionM ?_;refine A2 ?_;refine r_gcallM (A:=[PB g r.2 true]) (C:=[QBr g0 3 (some g1) [(p0 s).adv.adv.tx,((p0 s).adv.adv.name.want tComma).tx] 2 z,VBk (some g1) 9 [] [(p0 s).adv.adv.tx,((p0 s).adv.adv.name.want tComma).tx] 2,gB z.T false]) [.pointer (some ⟨g,0,none⟩),.func (.func 79) #[] #[.pointer (some ⟨g0,0,none⟩)]] [1] [0,2,3] (fun _=>[_,PB g r.2.endP true,_,_]) rfl rfl rfl rfl (c_p_end_q r.2 g 3 (by decide) (some g1) 9 [(p0 s).adv.adv.tx,((p0 s).adv.adv.name.want tComma).tx] 2 2 (by simp) (fun v hv=>by have h1:=hA.2.2;have h2:=hC.2.2;simp only[List.mem_cons,List.not_mem_nil,or_false] at hv;rcases hv with rfl|rfl<;>omega) z hf hM g0) (by decide) rfl rfl ⟨⟨_,rfl,le_share⟩,⟨_,rfl,le_share⟩,⟨_,rfl,le_share⟩,trivial⟩ rfl rfl (fun _=>rfl) (fun _=>allOwn rfl) (fun _=>rfl) (fun _=>?_);refine A14 ?_;refine Cd ?_ ?_<;>intro hb4
     ·have hE:r.2.endE (chkQ 3 [(p0 s).adv.adv.tx,((p0 s).adv.adv.name.want tComma).tx] r.1)≠0:=by simpa using hb4
      refine A2 ?_;refine r_build [] rfl rfl rfl (bd39_0) ?_;refine A2 ?_;refine So 0 0 [⟨some g0,39,_,9,true⟩,_,_,_] [_,_,_,_,_,_,_,_,_] ?_;refine A6 ?_;refine at_end3 rfl (res_cell 0 rfl rfl ti39 (vs:=[_,_,_,_,_,_,_,_,_]) rfl rfl (Nat.le_of_ble_eq_true rfl) rfl) (res_tmp rfl) (res_tmp rfl) (fun w hL=>⟨((some g1),z),by exact congrArg Ending.returned (pqV_no 3 [(p0 s).adv.adv.tx,((p0 s).adv.adv.name.want tComma).tx] (some g1) z hE).symm,hL.pk [some 2,some 3]⟩)
     ·have hE:r.2.endE (chkQ 3 [(p0 s).adv.adv.tx,((p0 s).adv.adv.name.want tComma).tx] r.1)=0:=by simpa using hb4
      refine A4 ?_;refine Ld 0 0 [_,_,_,_,_,_,_,_,_] ti39 ?_;refine So 0 0 [⟨some g0,39,_,9,true⟩,_,_,_] [_,_,_,_,_,_,_,_,_] ?_;refine A5 ?_;refine at_end3 rfl (res_cell 0 rfl rfl ti39 (vs:=[_,_,_,_,_,_,_,_,_]) rfl rfl (Nat.le_of_ble_eq_true rfl) rfl) (res_tmp rfl) (res_tmp rfl) (fun w hL=>⟨((some g1),z),by exact congrArg Ending.returned (pqV_yes 3 [(p0 s).adv.adv.tx,((p0 s).adv.adv.name.want tComma).tx] (some g1) z hE).symm,hL.pk [some 2,some 3]⟩)
    ·have hisp:(p0 s).adv.is tPairs=false:=hb3;have htkp:(p0 s).adv.tk tPairs=(p0 s).adv:=by unfold Ps.tk;rw[hisp];rfl
     rw[htkp];unfold headK at hh;rw[if_neg (by rw[hisv];simp),if_neg (by rw[hiso];simp),if_neg (by rw[hisp];simp)] at hh;cases hh;refine at_regionM ?_;refine A1 ?_;refine Gm 1 [1] [] (fun _=>[_,PB g ((p0 s).adv.stop 15) true]) (c_p_stop (p0 s).adv 15 g) (fun _=>?_);refine A4 ?_;refine at_regionM ?_;refine A1 ?_;refine Gm 1 [1] [] (fun z=>[_,PB g r.2 true,gB z.T true]) (c_p_level f g 1 ((p0 s).adv.stop 15) r (Ps.stop_good hP) (by decide) (by decide) hr) (fun z=>?_);refine A1 ?_;refine So 0 2 [⟨some g0,39,_,9,true⟩,_,_] [_,_,_,_,_,_,_,_,_] ?_;refine A3 ?_;refine at_weakL (L':=[_,_,_,⟨none,9,[],0,true⟩]) (Weak.nilB _ (by decide)) ?_;refine at_regionM ?_;refine A2 ?_;refine r_gcallM (A:=[PB g r.2 true]) (C:=[QBr g0 0 none [] 0 z,VBk none 9 [] [] 0,gB z.T false]) [.pointer (some ⟨g,0,none⟩),.func (.func 79) #[] #[.pointer (some ⟨g0,0,none⟩)]] [1] [0,3,2] (fun _=>[_,PB g r.2.endP true,_,_]) rfl rfl rfl rfl (c_p_end_q r.2 g 0 (by decide) none 9 [] 0 0 (by simp) (fun v hv=>by simp at hv) z hf hM g0) (by decide) rfl rfl ⟨⟨_,rfl,le_share⟩,⟨_,rfl,le_share⟩,⟨_,rfl,le_share⟩,trivial⟩ rfl rfl (fun _=>rfl) (fun _=>allOwn rfl) (fun _=>rfl) (fun _=>?_);refine A14 ?_;refine Cd ?_ ?_<;>intro hb4
     ·have hE:r.2.endE (chkQ 0 [] r.1)≠0:=by simpa using hb4
      refine A2 ?_;refine r_build [] rfl rfl rfl (bd39_0) ?_;refine A2 ?_;refine So 0 0 [⟨some g0,39,_,9,true⟩,_,_,_] [_,_,_,_,_,_,_,_,_] ?_;refine A6 ?_;refine at_end3 rfl (res_cell 0 rfl rfl ti39 (vs:=[_,_,_,_,_,_,_,_,_]) rfl rfl (Nat.le_of_ble_eq_true rfl) rfl) (res_tmp rfl) (res_tmp rfl) (fun w hL=>⟨(none,z),by exact congrArg Ending.returned (pqV_no 0 [] none z hE).symm,hL.pk [some 3,some 2]⟩)
     ·have hE:r.2.endE (chkQ 0 [] r.1)=0:=by simpa using hb4
      refine A4 ?_;refine Ld 0 0 [_,_,_,_,_,_,_,_,_] ti39 ?_;refine So 0 0 [⟨some g0,39,_,9,true⟩,_,_,_] [_,_,_,_,_,_,_,_,_] ?_;refine A5 ?_;refine at_end3 rfl (res_cell 0 rfl rfl ti39 (vs:=[_,_,_,_,_,_,_,_,_]) rfl rfl (Nat.le_of_ble_eq_true rfl) rfl) (res_tmp rfl) (res_tmp rfl) (fun w hL=>⟨(none,z),by exact congrArg Ending.returned (pqV_yes 0 [] none z hE).symm,hL.pk [some 3,some 2]⟩)
theorem join_C:∀l:List Bs8,Lib.join l [44,32]=joinC l
 |[]=>rfl
 |[t]=>by simp[Lib.join,joinC]
 |t::u::r=>by
  have ih:=join_C (u::r)
  rw[joinC,←ih]
  simp[Lib.join]
theorem c_Join(g:Nat)(e:Nat)(pre:List Value)(l:List Bs8)(n cap:Nat)(hl0:l≠[])(hll:l.length≤1000000)(hcap:l.length≤cap)(hj:(joinC l).length≤140737488355328):
 SCall Tryz.prog 58 [VBk (some g) e pre l n] [.slice (some ⟨g,pre.length,none⟩) l.length cap,.string (strU [44,32])] Unit (fun _=> .string (strU (joinC l))) (fun _=>[]):=by
 refine⟨by kernel_rfl,fun w hL=>?_⟩
 obtain⟨s0,hs0⟩:∃s,l[0]? =some s:=⟨l[0]'(List.length_pos_iff.2 hl0),List.getElem?_eq_getElem _⟩
 have e1:(l.map strU).map (·.data.toList)=l:=by rw[List.map_map];simp[Function.comp_def,strU]
 have h0:=hL.strs (k:=0) rfl hs0
 have h1:=Tryz.strings_Join g pre.length cap (l.map strU) (strU [44,32]) w (fun j x hx=>by
 rw[List.getElem?_map] at hx
 obtain⟨s,hs,rfl⟩:=Option.map_eq_some_iff.1 hx
 exact hL.strs (k:=0) rfl hs) (by
 rcases Nat.lt_or_ge g w.heap.size with h|h
 ·exact h
 ·simp[World.cell?,Array.getElem?_eq_none h] at h0) (by simp;omega) (by simpa using hcap) (by
 rw[e1];show(Lib.join l [44,32]).length≤_;rw[join_C];exact hj)
 rw[List.length_map] at h1
 refine Calls.mono h1 ?_
 rintro e w' ⟨rfl,hb⟩
 refine⟨(),?_,(LRel.nil w).same hb⟩
 rw[e1]
 show Ending.returned (Value.string ⟨(Lib.join l [44,32]).toArray⟩)=_
 rw[join_C]
 rfl
theorem c_JoinB(b:Option Nat)(e:Nat)(pre:List Value)(l:List Bs8)(n cap:Nat)(hl0:l≠[])(hll:l.length≤1000000)(hcap:l.length≤cap)(hj:(joinC l).length≤140737488355328):
 SCall Tryz.prog 58 [VBk b e pre l n] [.slice (b.map fun g=>⟨g,pre.length,none⟩) l.length cap,.string (strU [44,32])] Unit (fun _=> .string (strU (joinC l))) (fun _=>[]):=by
 cases b with
 |some g=>exact c_Join g e pre l n cap hl0 hll hcap hj
 |none=>
  refine⟨by kernel_rfl,fun w hL=>?_⟩
  have h2:=((hL.blk 0 _ rfl).2 rfl).1
  have h3:=congrArg List.length h2
  rw[List.length_append,SB_length] at h3
  exact absurd (List.eq_nil_of_length_eq_zero (by simp at h3;simp[h3.2])) hl0
def headS(k:Int):Bs8:=if k=1 then[118,97,108,117,101,32] else if k=2 then[111,98,106,101,99,116,115,32] else[112,97,105,114,115,32]
def sWhere:Bs8:=[32,119,104,101,114,101,32]
def headT(k:Int)(l:List Bs8):Bs8:=if l=[] then headS k else headS k++(joinC l++sWhere)
theorem heads_get{k:Int}(h1:1≤k)(h3:k≤3):(([.string ⟨#[]⟩,.string ⟨#[118,97,108,117,101,32]⟩,.string ⟨#[111,98,106,101,99,116,115,32]⟩,.string ⟨#[112,97,105,114,115,32]⟩]:List Value).drop (k.toNat*1)).take 1=[.string (strU (headS k))]:=by
 have h:k=1∨k=2∨k=3:=by omega
 rcases h with rfl|rfl|rfl<;>rfl
theorem chkQ_kind{kind:Int}{l:List Bs8}{x:XT}(h:chkQ kind l x=0):(1≤kind∧kind≤3)∧chkE x=0:=by
 unfold chkQ at h
 split at h
 ·cases h
 rename_i h1
 split at h
 ·cases h
 split at h
 ·cases h
 split at h
 ·cases h
 split at h
 ·rename_i h2;exact absurd h h2
 rename_i h2
 exact⟨by omega,by simpa using h2⟩
noncomputable def prQT(kind:Int)(l:List Bs8)(x:XT):Bs8:=if chkQ kind l x=0 then prT (headT kind l++txt x 1) else[]
noncomputable def prQC(kind:Int)(l:List Bs8)(x:XT):Int:=if chkQ kind l x=0 then prC (headT kind l++txt x 1) else(chkQ kind l x:Nat)
theorem c_Print(kind:Int)(hk: -9223372036854775808≤kind∧kind≤9223372036854775807)(b:Option Nat)(e:Nat)(pre:List Value)(l:List Bs8)(n cap:Nat)(hll:l.length≤1000000)(hvl:∀v∈l,v.length≤1000000)(hcap:l.length≤cap){x:XT}(z:XR x)(m:Int)(hf:x.fit=true)(hM:x.size≤1000000)(hb:chkQ kind l x=0→(headT kind l).length+(txt x 1).length≤17179869184):ECall Tryz.prog 28 [VBk b e pre l n,gB z.T false,GM m] [QV kind b pre l cap z] Unit (fun _=> .tuple #[.string (strU (prQT kind l x)),.int .i64 (prQC kind l x)]) (fun _=>[]):=by
 refine⟨by kernel_rfl,fun B w hD hL0=>?_⟩;refine cB1 33 Tryz.func28 hL0 ?_;refine A2 ?_;refine Bo [_,_,_,_,_,_,_,_,_] 9 (fun g=>[_,_,_,⟨some g,39,_,9,true⟩]) (fun g0=>?_);refine A6 ?_;refine at_regionM ?_;refine Ld 3 0 [_,_,_,_,_,_,_,_,_] ti39 ?_;refine Kr 7 (QV kind b pre l cap z) ?_;refine Gm 0 [] [0,1] (fun _=>[_,_,_,_]) (c_Check kind hk b e pre l n cap hll hvl z hf hM) (fun _=>?_);refine A9 ?_;refine Cd ?_ ?_<;>intro hb0
 ·have kc:chkQ kind l x≠0:=by simpa using hb0
  refine A9 ?_;refine at_end2 rfl (res_tmp rfl) (res_tmp rfl) (fun w hL=>⟨(),by unfold prQT prQC;rw[if_neg kc,if_neg kc];rfl,hL.pk []⟩)
 ·have kc:chkQ kind l x=0:=by simpa using hb0
  have hkk:=chkQ_kind kc;obtain⟨⟨hk1,hk3⟩,_⟩:=id hkk;refine A4 ?_;refine r_build [(1,_),(2,_),(3,_)] rfl rfl rfl (bd79_1_2_3x) ?_;refine r_alloc [_,_,_,_] 4 (fun g=>[_,_,_,_,⟨some g,79,_,4,true⟩]) rfl rfl z79 rfl rfl (fun _=>rfl) (fun g1=>?_);refine So 4 0 [_,_,_,_,⟨some g1,79,_,4,true⟩] [_,_,_,_] ?_;refine A6 ?_;refine r_indexAddrA (kind.toNat*1) u79 ti9 rfl rfl rfl rfl (by omega) (by omega) (by show 0+Int.toNat _*1=_;omega) ?_;refine r_load (v:= .string (strU (headS kind))) 4 (kind.toNat*1) _ rfl rfl rfl rfl ti9 (heads_get hk1 hk3) rfl (by decide) rfl ?_;refine A12 ?_;refine Cd ?_ ?_<;>intro hb1
  ·have hl0:l≠[]:=fun e=>by have:=of_decide_eq_true hb1;rw[e] at this;simp at this
   have hT:headT kind l=headS kind++(joinC l++sWhere):=if_neg hl0;have hjb0:=hb kc;rw[hT] at hjb0;simp only[List.length_append] at hjb0;have hjb:(joinC l).length≤140737488355328:=(by omega);refine at_regionM ?_;refine A3 ?_;refine r_scall0 [slv b pre.length l.length cap,.string (strU [44,32])] [0] rfl rfl rfl (c_JoinB b e pre l n cap hl0 hll hcap hjb) ⟨⟨_,rfl,Blk.le_refl _⟩,trivial⟩ rfl ?_;refine r_addS (p:=joinC l) (q:=sWhere) rfl rfl rfl rfl rfl rfl rfl (by omega) ?_;refine r_addS (p:=headS kind) (q:=joinC l++sWhere) rfl rfl rfl rfl rfl rfl rfl (by rw[List.length_append];omega) ?_;refine A4 ?_;refine at_regionM ?_;refine A2 ?_;refine Ld 3 2 [_,_,_,_,_,_,_] ti30 ?_;refine Kr 29 (z.v) ?_;refine Gm 0 [] [1,2] (fun _=>[_,_,_,_,_]) (c_printed z m (chk_ok x 1 0 hkk.2) hf (by omega) (headS kind++(joinC l++sWhere)) (by rw[←hT];exact hb kc)) (fun _=>?_);refine A7 ?_;refine at_end2 rfl (res_tmp rfl) (res_tmp rfl) (fun w hL=>⟨(),by unfold prQT prQC;rw[if_pos kc,if_pos kc,hT],hL.pk []⟩)
  ·have hl0:l=[]:=List.eq_nil_of_length_eq_zero (by have:=of_decide_eq_false hb1;omega);have hT:headT kind l=headS kind:=if_pos hl0;refine A3 ?_;refine at_regionM ?_;refine A2 ?_;refine Ld 3 2 [_,_,_,_,_,_,_] ti30 ?_;refine Kr 29 (z.v) ?_;refine Gm 0 [] [1,2] (fun _=>[_,_,_,_,_]) (c_printed z m (chk_ok x 1 0 hkk.2) hf (by omega) (headS kind) (by rw[←hT];exact hb kc)) (fun _=>?_);refine A7 ?_;refine at_end2 rfl (res_tmp rfl) (res_tmp rfl) (fun w hL=>⟨(),by unfold prQT prQC;rw[if_pos kc,if_pos kc,hT],hL.pk []⟩)
theorem c_Size{x:XT}(z:XR x)(hM:x.size≤1000000000):ECall Tryz.prog 20 [gB z.T false] [z.v] Unit (fun _=> .int .i64 (foldN (fun _ lv n=>n+1) x 1 0:Nat)) (fun _=>[]):=by
 refine⟨by kernel_rfl,fun B w hD hL0=>?_⟩;refine cB1 8 Tryz.func20 hL0 ?_;refine A2 ?_;refine Bo [_,_,_,_,_,_,_] 7 (fun g=>[_,⟨some g,30,_,7,true⟩]) (fun g0=>?_);refine A5 ?_;refine r_alloc [_] 1 (fun g=>[_,_,⟨some g,3,_,1,true⟩]) rfl rfl z3 rfl rfl (fun _=>rfl) (fun g1=>?_);refine So 2 0 [_,_,⟨some g1,3,_,1,true⟩] [_] ?_;refine A3 ?_;refine at_regionM ?_;refine Ld 1 0 [_,_,_,_,_,_,_] ti30 ?_;refine Kr 4 (z.v) ?_;refine A1 ?_;refine r_gcallM (A:=[VN g1 0]) (C:=[gB z.T false]) [z.v,.int .i64 (1:Nat),.func (.func 52) #[] #[.pointer (some ⟨g1,0,none⟩)]] [2] [0] (fun _=>[_,_,VN g1 (foldN (fun _ lv n=>n+1) x 1 0)]) rfl rfl rfl rfl (c_each 52 (fun _ lv n=>n+1) (fun _ lv n=>by omega) g1 (fun u lv n h h2=>c_Size_1 u lv n g1 h h2) x z 1 0 (by omega)) (by decide) rfl rfl ⟨⟨_,rfl,Blk.le_refl _⟩,trivial⟩ rfl rfl (fun _=>rfl) (fun _=>allOwn rfl) (fun _=>rfl) (fun _=>?_);refine A9 ?_;refine E1 fun w hL=>⟨(),rfl,hL.pk []⟩
theorem c_Depth{x:XT}(z:XR x)(hM:x.size≤1000000000):ECall Tryz.prog 22 [gB z.T false] [z.v] Unit (fun _=> .int .i64 (foldN (fun _ lv n=>max n lv) x 1 0:Nat)) (fun _=>[]):=by
 refine⟨by kernel_rfl,fun B w hD hL0=>?_⟩;refine cB1 8 Tryz.func22 hL0 ?_;refine A2 ?_;refine Bo [_,_,_,_,_,_,_] 7 (fun g=>[_,⟨some g,30,_,7,true⟩]) (fun g0=>?_);refine A5 ?_;refine r_alloc [_] 1 (fun g=>[_,_,⟨some g,3,_,1,true⟩]) rfl rfl z3 rfl rfl (fun _=>rfl) (fun g1=>?_);refine So 2 0 [_,_,⟨some g1,3,_,1,true⟩] [_] ?_;refine A3 ?_;refine at_regionM ?_;refine Ld 1 0 [_,_,_,_,_,_,_] ti30 ?_;refine Kr 4 (z.v) ?_;refine A1 ?_;refine r_gcallM (A:=[VN g1 0]) (C:=[gB z.T false]) [z.v,.int .i64 (1:Nat),.func (.func 53) #[] #[.pointer (some ⟨g1,0,none⟩)]] [2] [0] (fun _=>[_,_,VN g1 (foldN (fun _ lv n=>max n lv) x 1 0)]) rfl rfl rfl rfl (c_each 53 (fun _ lv n=>max n lv) (fun _ lv n=>by omega) g1 (fun u lv n h h2=>c_Depth_1 u lv n g1 h h2) x z 1 0 (by omega)) (by decide) rfl rfl ⟨⟨_,rfl,Blk.le_refl _⟩,trivial⟩ rfl rfl (fun _=>rfl) (fun _=>allOwn rfl) (fun _=>rfl) (fun _=>?_);refine A9 ?_;refine E1 fun w hL=>⟨(),rfl,hL.pk []⟩
def kS:Bs8:=[111,98,106,101,99,116,115,32,99,32,119,104,101,114,101,32,115,111,109,101,116,105,109,101,40,105,110,115,105,100,101,40,99,44,32,122,111,110,101,40,34,110,111,114,116,104,34,41,41,32,97,110,100,32,119,105,116,104,105,110,40,99,44,32,111,98,106,101,99,116,40,51,41,44,32,53,48,41,41]
def kq:Ps:=(p0 kS).adv.adv.name.want tWhere
def kT:XT:= .node 26 [.node 23 [.node 16 [.named 4 [99],.named 5 [110,111,114,116,104]],.node 15 [.named 4 [99],.numd 3 3,.numd 1 50]]]
def kP:Ps:=⟨kS,79,0,79,[],0,0,false⟩
theorem k_head:headK (p0 kS).adv=(2,[[99]],kq):=by kernel_rfl
theorem k_lev:lev 60 1 kq=some (kT,kP):=by kernel_rfl
theorem k_fit:kT.fit=true:=by decide+kernel
theorem k_size:kT.size=9:=by kernel_rfl
theorem k_end(e:Nat):kP.endE e=e:=rfl
theorem k_txt:txt kT 1=kS.drop 16:=by kernel_rfl
theorem k_sz:foldN (fun _ lv n=>n+1) kT 1 0=9:=by kernel_rfl
theorem k_dp:foldN (fun _ lv n=>max n lv) kT 1 0=4:=by kernel_rfl
theorem k_chkE:chkE kT=0:=by kernel_rfl
theorem k_varsL:varsL kT=[[99],[99]]:=by kernel_rfl
theorem k_vars:varsU kT=[[99]]:=by
 unfold varsU
 rw[k_varsL]
 unfold sortL
 simp[List.mergeSort,Lib.compact]
 try rfl
theorem k_chkQ:chkQ 2 [[99]] kT=0:=by
 unfold chkQ
 rw[if_neg (by decide),if_neg (by decide),if_neg (by decide+kernel),if_neg (by decide),if_neg (by rw[k_chkE];simp),if_neg (by rw[k_vars];decide)]
theorem k_E:kP.endE (chkQ 2 [[99]] kT)=0:=by rw[k_end,k_chkQ]
theorem k_prT:prQT 2 [[99]] kT=kS:=by
 unfold prQT
 rw[if_pos k_chkQ,k_txt]
 kernel_rfl
theorem k_prC:prQC 2 [[99]] kT=0:=by
 unfold prQC
 rw[if_pos k_chkQ,k_txt]
 kernel_rfl
theorem c_Parse_k:ECall Tryz.prog 42 [] [.string (strU kS)] (Option Nat×XR kT) (fun z=> .tuple #[QV 2 z.1 [] [[99]] 1 z.2,.int .i64 0,.int .i64 0]) (fun z=>[⟨z.1,9,SB [[99]],1,true⟩,gB z.2.T true]):=by
 have h:=c_Parse_ok kS (by decide) 2 [[99]] kq k_head 60 (kT,kP) k_lev k_fit (by rw[show(kT,kP).1=kT from rfl,k_size];decide)
 have e:(fun z:Option Nat×XR kT=>pqV 2 [[99]] (kT,kP) z.1 z.2)=(fun z=> .tuple #[QV 2 z.1 [] [[99]] 1 z.2,.int .i64 0,.int .i64 0]):=funext fun z=>pqV_yes 2 [[99]] (r:=(kT,kP)) z.1 z.2 k_E
 exact e▸h
theorem c_Print_k(b:Option Nat)(z:XR kT)(m:Int):ECall Tryz.prog 28 [VBk b 9 [] [[99]] 1,gB z.T false,GM m] [QV 2 b [] [[99]] 1 z] Unit (fun _=> .tuple #[.string (strU kS),.int .i64 0]) (fun _=>[]):=by
 have h:=c_Print 2 (by decide) b 9 [] [[99]] 1 1 (by simp) (fun v hv=>by rw[List.mem_singleton.1 hv];simp) (by simp) z m k_fit (by rw[k_size];decide) (fun _=>by rw[k_txt];decide+kernel)
 rw[k_prT,k_prC] at h
 exact h
theorem c_Variables_k(z:XR kT):ECall Tryz.prog 25 [gB z.T false] [z.v] (SRw [[99]]) (fun s=>slv s.b 0 1 s.cap) (fun s=>[VR s]):=by
 have h:=c_Variables z (by rw[k_size];decide)
 rw[k_vars] at h
 exact h
theorem c_Size_k(z:XR kT):ECall Tryz.prog 20 [gB z.T false] [z.v] Unit (fun _=> .int .i64 9) (fun _=>[]):=by
 have h:=c_Size z (by rw[k_size];decide)
 rw[k_sz] at h
 exact h
theorem c_Depth_k(z:XR kT):ECall Tryz.prog 22 [gB z.T false] [z.v] Unit (fun _=> .int .i64 4) (fun _=>[]):=by
 have h:=c_Depth z (by rw[k_size];decide)
 rw[k_dp] at h
 exact h
theorem c_known(m:Int):ECall Tryz.prog 12 [GM m] [] Unit (fun _=> .bool true) (fun _=>[]):=by
 refine⟨by kernel_rfl,fun B w hD hL0=>?_⟩;refine cB0 65 Tryz.func12 hL0 ?_;refine A11 ?_;refine at_regionM ?_;refine A1 ?_;refine Gm 0 [] [] (fun(z:Option Nat×XR kT)=>[_,⟨z.1,9,SB [[99]],1,true⟩,gB z.2.T true]) c_Parse_k (fun⟨b,z⟩=>?_);refine A4 ?_;refine r_alloc [_,_,_,_,_,_,_,_,_] 9 (fun g=>[_,_,_,⟨some g,39,_,9,true⟩]) rfl rfl z39 rfl rfl (fun _=>rfl) (fun g0=>?_);refine So 3 0 [_,_,_,⟨some g0,39,_,9,true⟩] [_,_,_,_,_,_,_,_,_] ?_;refine A5 ?_;refine at_regionM ?_;refine Ld 3 0 [_,_,_,_,_,_,_,_,_] ti39 ?_;refine Kr 15 (QV 2 b [] [[99]] 1 z) ?_;refine r_gcallM (A:=[]) (C:=[VBk b 9 [] [[99]] 1,gB z.T false,GM m]) [QV 2 b [] [[99]] 1 z] [] [1,2,0] (fun _=>[_,_,_,_]) rfl rfl rfl rfl (c_Print_k b z m) (by decide) rfl rfl ⟨⟨_,rfl,le_share⟩,⟨_,rfl,le_share⟩,⟨_,rfl,Blk.le_refl _⟩,trivial⟩ rfl rfl (fun _=>rfl) (fun _=>allOwn rfl) (fun _=>rfl) (fun _=>?_);refine A8 ?_;refine at_regionM ?_;refine A1 ?_;refine Ld 3 2 [_,_,_,_,_,_,_] ti30 ?_;refine Kr 20 (z.v) ?_;refine r_gcallM (A:=[]) (C:=[gB z.T false]) [z.v] [] [2] (fun s=>[_,_,_,_,VR s]) rfl rfl rfl rfl (c_Variables_k z) (by decide) rfl rfl ⟨⟨_,rfl,le_share⟩,trivial⟩ rfl rfl (fun _=>rfl) (fun _=>allOwn rfl) (fun _=>rfl) (fun s=>?_);refine A4 ?_;refine at_regionM ?_;refine A3 ?_;refine Rs 24 ?_ ?_<;>intro hb0
 ·refine A4 ?_;refine Rs 28 ?_ ?_<;>intro hb1
  ·refine A5 ?_;refine Rs 33 ?_ ?_<;>intro hb2
   ·refine A4 ?_;refine Rs 37 ?_ ?_<;>intro hb3
    ·refine A5 ?_;refine Rs 42 ?_ ?_<;>intro hb4
     ·refine A5 ?_;refine Rs 47 ?_ ?_<;>intro hb5
      ·refine A1 ?_;refine r_indexAddr 4 (0*1) u36 ti9 rfl rfl rfl rfl rfl (by decide) (by decide) (SB_ne (by decide)) (by show 0+Int.toNat _*1=_;rfl) ?_;refine r_load (v:= .string (strU [99])) 4 (0*1) _ rfl rfl rfl rfl ti9 (SB_get rfl) rfl (by decide) rfl ?_;refine A3 ?_;refine Rs 53 ?_ ?_<;>intro hb6
       ·refine A1 ?_;refine Ld 3 2 [_,_,_,_,_,_,_] ti30 ?_;refine Kr 55 (z.v) ?_;refine r_gcallM (A:=[]) (C:=[gB z.T false]) [z.v] [] [2] (fun _=>[_,_,_,_,_]) rfl rfl rfl rfl (c_Size_k z) (by decide) rfl rfl ⟨⟨_,rfl,le_share⟩,trivial⟩ rfl rfl (fun _=>rfl) (fun _=>allOwn rfl) (fun _=>rfl) (fun _=>?_);refine A3 ?_;refine Rs 59 ?_ ?_<;>intro hb7
        ·refine A1 ?_;refine Ld 3 2 [_,_,_,_,_,_,_] ti30 ?_;refine Kr 61 (z.v) ?_;refine r_gcallM (A:=[]) (C:=[gB z.T false]) [z.v] [] [2] (fun _=>[_,_,_,_,_]) rfl rfl rfl rfl (c_Depth_k z) (by decide) rfl rfl ⟨⟨_,rfl,le_share⟩,trivial⟩ rfl rfl (fun _=>rfl) (fun _=>allOwn rfl) (fun _=>rfl) (fun _=>?_);refine A6 ?_;refine E1 fun w hL=>⟨(),rfl,hL.pk []⟩
        ·exact absurd hb7 (by first|decide|simp)
       ·exact absurd hb6 (by first|decide|simp)
      ·exact absurd hb5 (by first|decide|simp)
     ·exact absurd hb4 (by first|decide|simp)
    ·exact absurd hb3 (by first|decide|simp)
   ·exact absurd hb2 (by first|decide|simp)
  ·exact absurd hb1 (by first|decide|simp)
 ·exact absurd hb0 (by first|decide|simp)
theorem c_law_word(l:Bs8)(hn:l.length≤1000000):PCall Tryz.prog 45 #[.string (strU l)] (.bool (wordL l)):=by
 refine⟨by kernel_rfl,fun w=>?_⟩;refine cB1 34 Tryz.func45 (LRel.nil w) ?_;refine A12 ?_;refine El (ι:={i:Nat // i≤l.length∧wordL l=wordAt l i}) (fun⟨i,hi,hI⟩=>([(0,.string (strU l)),(3,.int .i64 (i:Nat))],[],l.length-i)) ⟨0,Nat.zero_le _,rfl⟩ ?_;rintro⟨i,hi,hI⟩;(try dsimp only);refine A6 ?_;refine r_know 6 (.int .i64 (l.length:Nat)) rfl (by rw[strU_size]) ?_;refine A3 ?_;refine Cd ?_ ?_<;>intro hb1
 ·have hlt:i<l.length:=(by have:=of_decide_eq_true hb1;omega);obtain⟨c,hx⟩:∃c,l[i]? =some c:=⟨l[i],List.getElem?_eq_getElem hlt⟩;refine A8 ?_;refine r_idxS (b:=c) (r:=(c.toNat:Int)) u9 rfl rfl rfl rfl (by omega) hx rfl ?_;refine Pc (c_law_letter _) ?_;refine A2 ?_;refine Rs 15 ?_ ?_<;>intro hb2
  ·have hlet:isLet c=false:=by simpa using hb2
   refine A3 ?_;refine Rs 18 ?_ ?_<;>intro hb3
   ·have hi0:i=0:=by have:=eq_of_beq hb3;omega
    refine A27 ?_;refine E1 fun w hL=>⟨?_,hL.below⟩;exact eB (by rw[hI,wordAt_no hx hlet (.inl hi0)])
   ·have hi0:i≠0:=by have:=ne_of_beq_false hb3;omega
    refine A2 ?_;refine r_idxS (b:=c) (r:=(c.toNat:Int)) u9 rfl rfl rfl rfl (by omega) hx rfl ?_;refine Pc (c_law_digit _) ?_;refine A2 ?_;refine Rs 24 ?_ ?_<;>intro hb4
    ·have hdig:isDig c=false:=by simpa using hb4
     refine A2 ?_;refine r_idxS (b:=c) (r:=(c.toNat:Int)) u9 rfl rfl rfl rfl (by omega) hx rfl ?_;refine A6 ?_;refine Cd ?_ ?_<;>intro hb5
     ·have h95:c≠95:=by have hh:=hb5;simp only[bne_iff_ne,ne_eq,Bool.not_eq_true,bne_eq_false_iff_eq] at hh;intro e;subst e;exact hh rfl
      refine A11 ?_;refine E1 fun w hL=>⟨?_,hL.below⟩;exact eB (by rw[hI,wordAt_no hx hlet (.inr ⟨hdig,h95⟩)])
     ·have h95:c=95:=by have hh:=hb5;simp only[bne_iff_ne,ne_eq,Bool.not_eq_true,bne_eq_false_iff_eq] at hh;exact UInt8.toNat_inj.1 (by simpa using Int.ofNat_inj.1 hh)
      refine A5 ?_;refine Ar (((i+1:Nat):Int)) ?_;refine A3 ?_;exact Nl ⟨i+1,hlt,hI.trans (wordAt_go hx (.inr ⟨hi0,.inr h95⟩))⟩
    ·have hdig:isDig c=true:=by simpa using hb4
     refine A15 ?_;refine Ar (((i+1:Nat):Int)) ?_;refine A3 ?_;exact Nl ⟨i+1,hlt,hI.trans (wordAt_go hx (.inr ⟨hi0,.inl hdig⟩))⟩
  ·have hlet:isLet c=true:=by simpa using hb2
   refine A24 ?_;refine Ar (((i+1:Nat):Int)) ?_;refine A3 ?_;exact Nl ⟨i+1,hlt,hI.trans (wordAt_go hx (.inl hlet))⟩
 ·have hge:i=l.length:=(by have:=of_decide_eq_false hb1;omega);subst hge;refine A13 ?_;refine E1 fun w hL=>⟨?_,hL.below⟩;exact eB (by rw[hI,wordAt_end])
theorem c_law_isZone(l:Bs8)(hn:l.length≤1000000):PCall Tryz.prog 16 #[.string (strU l)] (.bool (zoneL l)):=by
 refine⟨by kernel_rfl,fun w=>?_⟩;refine cB1 28 Tryz.func16 (LRel.nil w) ?_;refine A12 ?_;refine El (ι:={i:Nat // i≤l.length∧l.all zch=(l.drop i).all zch}) (fun⟨i,hi,hI⟩=>([(0,.string (strU l)),(3,.int .i64 (i:Nat))],[],l.length-i)) ⟨0,Nat.zero_le _,rfl⟩ ?_;rintro⟨i,hi,hI⟩;(try dsimp only);refine A6 ?_;refine r_know 6 (.int .i64 (l.length:Nat)) rfl (by rw[strU_size]) ?_;refine A3 ?_;refine Cd ?_ ?_<;>intro hb1
 ·have hlt:i<l.length:=(by have:=of_decide_eq_true hb1;omega);obtain⟨c,hx⟩:∃c,l[i]? =some c:=⟨l[i],List.getElem?_eq_getElem hlt⟩;refine A8 ?_;refine r_idxS (b:=c) (r:=(c.toNat:Int)) u9 rfl rfl rfl rfl (by omega) hx rfl ?_;refine A2 ?_;refine Rs 14 ?_ ?_<;>intro hb2
  ·have h32:c.toNat<32:=(by have:=of_decide_eq_true hb2;omega);have hz:zch c=false:=by unfold zch;simp;omega
   refine A19 ?_;refine E1 fun w hL=>⟨?_,hL.below⟩;exact eB (by unfold zoneL;rw[hI,all_go hx,hz];rfl)
  ·have h32:¬c.toNat<32:=(by have:=of_decide_eq_false hb2;omega);refine A2 ?_;refine r_idxS (b:=c) (r:=(c.toNat:Int)) u9 rfl rfl rfl rfl (by omega) hx rfl ?_;refine A4 ?_;refine Cd ?_ ?_<;>intro hb3
   ·have h126:126<c.toNat:=(by have:=of_decide_eq_true hb3;omega);have hz:zch c=false:=by unfold zch;simp;omega
    refine A11 ?_;refine E1 fun w hL=>⟨?_,hL.below⟩;exact eB (by unfold zoneL;rw[hI,all_go hx,hz];rfl)
   ·have h126:¬126<c.toNat:=(by have:=of_decide_eq_false hb3;omega);have hz:zch c=true:=by unfold zch;simp;omega
    refine A5 ?_;refine Ar (((i+1:Nat):Int)) ?_;refine A3 ?_;exact Nl ⟨i+1,hlt,by rw[hI,all_go hx,hz,Bool.true_and]⟩
 ·have hge:i=l.length:=(by have:=of_decide_eq_false hb1;omega);subst hge;refine A9 ?_;refine r_know 21 (.int .i64 (l.length:Nat)) rfl (by rw[strU_size]) ?_;refine A2 ?_;refine Rs 23 ?_ ?_<;>intro hb2
  ·have h1:1≤l.length:=(by have:=of_decide_eq_true hb2;omega);refine A2 ?_;refine r_know 25 (.int .i64 (l.length:Nat)) rfl (by rw[strU_size]) ?_;refine A6 ?_;refine E1 fun w hL=>⟨?_,hL.below⟩;exact eB (by unfold zoneL;rw[hI,List.drop_length,decide_eq_true h1];simp;omega)
  ·have h1:¬1≤l.length:=(by have:=of_decide_eq_false hb2;omega);refine A8 ?_;refine E1 fun w hL=>⟨?_,hL.below⟩;exact eB (by unfold zoneL;rw[decide_eq_false h1];simp)
end Go.Proofs.YtfijbadahkmhbaaGreatDoor
namespace Go.Via
open Go Go.RowKit
def frm4(o:Nat×Nat×Nat×Bs8):List Value:=[.int .i64 (o.1:Nat),.int .i64 (o.2.1:Nat),.int .i64 (o.2.2.1:Nat),.string (strU o.2.2.2)]
def frmC(l:List (Nat×Nat×Nat×Bs8)):List Value:=l.flatMap frm4
theorem frmC_cons(o:Nat×Nat×Nat×Bs8)(l:List (Nat×Nat×Nat×Bs8)):frmC (o::l)=frm4 o++frmC l:=List.flatMap_cons
theorem frmC_get:∀{l:List (Nat×Nat×Nat×Bs8)} {i:Nat} {o:Nat×Nat×Nat×Bs8},l[i]? =some o→((frmC l).drop (i*4)).take 4=frm4 o
 |[],i,o,h=>by simp at h
 |p::l,0,o,h=>by simp at h;subst h;rw[frmC_cons];rfl
 |p::l,i+1,o,h=>by
  rw[frmC_cons,List.drop_append,show(i+1)*4-(frm4 p).length=i*4 by show(i+1)*4-4=_;omega,List.drop_eq_nil_of_le (by show 4≤_;omega)]
  exact frmC_get (l:=l) (by simpa using h)
theorem frmC_word{l:List (Nat×Nat×Nat×Bs8)}{i:Nat}{o:Nat×Nat×Nat×Bs8}(h:l[i]? =some o):((frmC l).drop (i*4+3)).take 1=[.string (strU o.2.2.2)]:=by
 have h1:=frmC_get h
 have h2:(((frmC l).drop (i*4)).take 4).drop 3=[.string (strU o.2.2.2)]:=by rw[h1];rfl
 rw[List.drop_take,List.drop_drop] at h2
 exact h2
theorem frmC_ne{l:List (Nat×Nat×Nat×Bs8)}(h:l≠[]):frmC l≠[]:=by
 cases l with
 |nil=>exact absurd rfl h
 |cons o l=>rw[frmC_cons];simp[frm4]
theorem mres_yes{l:Bs8}{i:Nat}{o:Nat×Nat×Nat×Bs8}(ho:frmT[i]? =some o)(h:o.2.2.2=l):mresL.contains l=true:=by
 rw[List.contains_iff_mem]
 unfold mresL
 exact List.mem_append.2 (.inr (List.mem_map.2 ⟨o,List.mem_of_getElem? ho,h⟩))
theorem mres_four{l:Bs8}(h:l=[118,97,108,117,101]∨l=[111,98,106,101,99,116,115]∨l=[112,97,105,114,115]∨l=[119,104,101,114,101]):mresL.contains l=true:=by
 rcases h with rfl|rfl|rfl|rfl<;>decide+kernel
theorem mres_no{l:Bs8}(h1:l≠[118,97,108,117,101])(h2:l≠[111,98,106,101,99,116,115])(h3:l≠[112,97,105,114,115])(h4:l≠[119,104,101,114,101])(h:(frmT.all fun o=>o.2.2.2 !=l)=true):mresL.contains l=false:=by
 rw[←Bool.not_eq_true,List.contains_iff_mem]
 unfold mresL
 intro hm
 rcases List.mem_append.1 hm with hm|hm
 ·simp at hm
  rcases hm with e|e|e|e
  ·exact h1 e
  ·exact h2 e
  ·exact h3 e
  ·exact h4 e
 ·obtain⟨o,ho,e⟩:=List.mem_map.1 hm
  have:=List.all_eq_true.1 h o ho
  rw[e] at this
  simp at this
abbrev Stp:=Nat×Nat×Bs8
def stp3(s:Stp):List Value:=[.int .u8 (s.1:Nat),.int .u8 (s.2.1:Nat),.string (strU s.2.2)]
def stC(l:List Stp):List Value:=l.flatMap stp3
theorem stC_cons(s:Stp)(l:List Stp):stC (s::l)=stp3 s++stC l:=List.flatMap_cons
theorem stC_append(l m:List Stp):stC (l++m)=stC l++stC m:=List.flatMap_append
theorem stC_length:∀l:List Stp,(stC l).length=l.length*3
 |[]=>rfl
 |s::l=>by rw[stC_cons,List.length_append,stC_length l,List.length_cons];show 3+_=_;omega
theorem stC_get:∀{l:List Stp} {i:Nat} {s:Stp},l[i]? =some s→((stC l).drop (i*3)).take 3=stp3 s
 |[],i,s,h=>by simp at h
 |p::l,0,s,h=>by simp at h;subst h;rw[stC_cons];rfl
 |p::l,i+1,s,h=>by
  rw[stC_cons,List.drop_append,show(i+1)*3-(stp3 p).length=i*3 by show(i+1)*3-3=_;omega,List.drop_eq_nil_of_le (by show 3≤_;omega)]
  exact stC_get (by simpa using h)
theorem stC_ne{l:List Stp}(h:0<l.length):stC l≠[]:=by
 intro e
 have:=stC_length l
 rw[e] at this
 simp at this
 omega
def okS(s:Stp):Prop:=s.1<256∧s.2.1<256∧s.2.2.length≤45
abbrev Fm4:=Nat×Nat×Nat×Bs8
def leafT:List Fm4:=[(1,0,8,[]),(4,0,8,[]),(3,0,8,[]),(5,0,8,[])]
def fLeaf(o:Fm4):Prop:=(o.1=1∨o.1=3∨o.1=4∨o.1=5)∧o.2.1=0
def fTree(o:Fm4):Prop:=o.1≠1∧o.1≠2∧o.1≠3∧o.1≠4∧o.1≠5∧1≤o.2.1∧o.2.1≤3∧cntL (o.1:Nat)=(o.2.1:Nat)
instance(o:Fm4):Decidable (fLeaf o):=by unfold fLeaf;infer_instance
instance(o:Fm4):Decidable (fTree o):=by unfold fTree;infer_instance
def fOK(o:Fm4)(lv:Nat):Prop:=fLeaf o∨(2≤lv∧(o.1=2∨fTree o))
theorem fOK_pt{o:Fm4}{lv:Nat}(h:fOK o lv)(h2:o.1=2):2≤lv:=by
 rcases h with h|⟨h,_⟩
 ·have:=h.1;omega
 ·exact h
theorem frmT_ok{o:Fm4}{lv:Nat}(h:o∈frmT)(hl:2≤lv):fOK o lv:=by
 have:∀o∈frmT,fLeaf o∨o.1=2∨fTree o:=by decide
 rcases this o h with h|h
 ·exact .inl h
 ·exact .inr ⟨hl,h⟩
theorem leafT_ok{o:Fm4}{lv:Nat}(h:o∈leafT):fOK o lv:=by
 have:∀o∈leafT,fLeaf o:=by decide
 exact .inl (this o h)
def goodM(x:XT):Prop:=okX x∧qX x∧x.tiny=true
theorem okXs_all:∀{l:List XT},(∀y∈l,okX y)→okXs l
 |[],_=>by rw[okXs];trivial
 |x::l,h=>by rw[okXs];exact⟨h x (List.mem_cons_self ..),okXs_all fun y hy=>h y (List.mem_cons_of_mem _ hy)⟩
theorem tinies_all:∀{l:List XT},(∀y∈l,y.tiny=true)→XT.tinies l=true
 |[],_=>by rw[XT.tinies]
 |x::l,h=>by rw[XT.tinies,h x (List.mem_cons_self ..),tinies_all fun y hy=>h y (List.mem_cons_of_mem _ hy)];rfl
theorem bytes0:NumV.bytes (.q 0)≤20:=by decide+kernel
theorem goodM_node{op:Nat}{l:List XT}(hl:∀y∈l,goodM y)(hn:nodeE (.node op l)=0):goodM (.node op l):=by
 refine⟨?_,?_,?_⟩
 ·unfold XT.node at hn ⊢
  rw[okX];exact⟨hn,okXs_all fun y hy=>(hl y hy).1⟩
 ·unfold XT.node
  rw[qX];exact⟨⟨0,rfl⟩,qXs_all fun y hy=>(hl y hy).2.1⟩
 ·unfold XT.node
  rw[XT.tiny,tinies_all fun y hy=>(hl y hy).2.2,decide_eq_true bytes0];rfl
theorem tree_ok{o:Fm4}(h:fTree o){l:List XT}(hl:l.length=o.2.1):nodeE (.node o.1 l)=0:=by
 obtain⟨h1,h2,h3,h4,h5,h6,h7,h8⟩:=h
 have e1:(XT.node o.1 l).op=(o.1:Nat):=rfl
 have e2:(XT.node o.1 l).args=l:=rfl
 have e3:(XT.node o.1 l).name=[]:=rfl
 have e4:(XT.node o.1 l).num.isZ=true:=(by decide+kernel:NumV.isZ (.q 0)=true)
 unfold nodeE
 rw[e1,e2,e3,h8]
 rw[if_neg (by omega),if_neg (fun c=>by
 rcases c with c|⟨_,_,c⟩|⟨_,_,c⟩
 ·exact c (by omega)
 ·rw[e4] at c;cases c
 ·exact c rfl),if_neg (fun c=>by have:=c.1;omega),if_neg (fun c=>by have:=c.1;omega),if_neg (fun c=>by have:=c.1;omega),if_neg (fun c=>by rcases c with c|c<;>(have:=c.1;omega))]
theorem point_ok(p q:Rat):nodeE (.node 2 [.numd 1 p,.numd 1 q])=0:=by kernel_rfl
theorem num_ok(q:Rat):nodeE (.numd 1 q)=0:=by kernel_rfl
theorem goodM_num{q:Rat}(h:NumV.bytes (.q q)≤20):goodM (.numd 1 q):=by
 have hn:=num_ok q
 unfold XT.numd at hn ⊢
 refine⟨by rw[okX,okXs];exact⟨hn,trivial⟩,by rw[qX,qXs];exact⟨⟨q,rfl⟩,trivial⟩,by rw[XT.tiny,XT.tinies,decide_eq_true h];rfl⟩
theorem goodM_obj{q:Rat}(hi:idOK q=true)(h:NumV.bytes (.q q)≤20):goodM (.numd 3 q):=by
 have hn:nodeE (.numd 3 q)=0:=by
  have e1:(XT.numd 3 q).op=3:=rfl
  have e2:(XT.numd 3 q).args=[]:=rfl
  have e3:(XT.numd 3 q).name=[]:=rfl
  have e4:(XT.numd 3 q).num.isId=true:=hi
  unfold nodeE
  rw[e1,e2,e3,e4,if_neg (by decide),if_neg (by
 intro c
 rcases c with c|⟨_,c,_⟩|⟨_,_,c⟩
 ·exact c (by decide)
 ·exact c rfl
 ·exact c rfl),if_neg (fun c=>by cases c.1),if_neg (fun c=>by cases c.1),if_neg (fun c=>by cases c.2),if_neg (fun c=>by rcases c with c|c<;>cases c.1)]
 unfold XT.numd at hn ⊢
 refine⟨by rw[okX,okXs];exact⟨hn,trivial⟩,by rw[qX,qXs];exact⟨⟨q,rfl⟩,trivial⟩,by rw[XT.tiny,XT.tinies,decide_eq_true h];rfl⟩
theorem goodM_name{o:Nat}{n:Bs8}(h:o=4∧nameL n=true∨o=5∧zoneL n=true)(hl:n.length≤60):goodM (.named o n):=by
 have hn:nodeE (.named o n)=0:=by
  have e2:(XT.named o n).args=[]:=rfl
  have e3:(XT.named o n).name=n:=rfl
  have e1:(XT.named o n).op=(o:Nat):=rfl
  have e4:(XT.named o n).num.isZ=true:=(by decide+kernel:NumV.isZ (.q 0)=true)
  unfold nodeE
  rw[e1,e2,e3,e4]
  rcases h with⟨rfl,h⟩|⟨rfl,h⟩
  ·rw[h,if_neg (by decide),if_neg (by
 intro c
 rcases c with c|⟨_,_,c⟩|⟨c,_⟩
 ·exact c (by decide)
 ·cases c
 ·exact c rfl),if_neg (fun c=>by cases c.1),if_neg (fun c=>by cases c.1),if_neg (fun c=>by cases c.1),if_neg (fun c=>by
 rcases c with c|c
 ·cases c.2
 ·cases c.1)]
  ·rw[h,if_neg (by decide),if_neg (by
 intro c
 rcases c with c|⟨_,_,c⟩|⟨_,c,_⟩
 ·exact c (by decide)
 ·cases c
 ·exact c rfl),if_neg (fun c=>by cases c.1),if_neg (fun c=>by cases c.1),if_neg (fun c=>by cases c.1),if_neg (fun c=>by
 rcases c with c|c
 ·cases c.1
 ·cases c.2)]
 unfold XT.named at hn ⊢
 refine⟨by rw[okX,okXs];exact⟨hn,trivial⟩,by rw[qX,qXs];exact⟨⟨0,rfl⟩,trivial⟩,by rw[XT.tiny,XT.tinies,decide_eq_true bytes0,decide_eq_true hl];rfl⟩
theorem quo8{x y:Int}(m n:Nat)(hx:x=(m:Int))(hy:y=(n:Int))(h:m/n<256):IntKind.u8.wrap (x.tdiv y)=((m/n:Nat):Int):=by
 subst hx;subst hy;rw[←Int.ofNat_tdiv,IntKind.wrap_u8];generalize m/n=q at*;omega
def frQ(n:Nat):Rat:=Rat.divInt (((n%32:Nat):Int)-16) ((1+n/32:Nat):Int)
theorem frQ_bytes{n:Nat}(h:n<256):NumV.bytes (.q (frQ n))≤20:=by
 have:∀n<256,NumV.bytes (.q (frQ n))≤20:=by decide+kernel
 exact this n h
theorem obj_bytes{n:Nat}(h:n<256):NumV.bytes (.q (((1+n:Nat):Int):Rat))≤20∧idOK (((1+n:Nat):Int):Rat)=true:=by
 have:∀n<256,NumV.bytes (.q (((1+n:Nat):Int):Rat))≤20∧idOK (((1+n:Nat):Int):Rat)=true:=by decide+kernel
 exact this n h
def varT:List Bs8:=[[97],[98],[99],[99,97,114,95,50]]
def zonT:List Bs8:=[[110,111,114,116,104],[97,32,34,98,34],[90]]
theorem varT_ok{n:Bs8}(h:n∈varT):nameL n=true∧n.length≤60:=by
 have:∀n∈varT,nameL n=true∧n.length≤60:=by decide+kernel
 exact this n h
theorem zonT_ok{n:Bs8}(h:n∈zonT):zoneL n=true∧n.length≤60:=by
 have:∀n∈zonT,zoneL n=true∧n.length≤60:=by decide+kernel
 exact this n h
mutual
theorem chk_good:∀(x:XT) (lv n:Nat),okX x→lv+x.dep≤33→n+x.size≤256→chk x lv n=(0,n+x.size)
 | .mk o nm u l,lv,n,h,hd,hs=>by
   rw[okX] at h
   rw[XT.dep] at hd
   rw[XT.size] at hs ⊢
   rw[chk,if_neg (by omega),if_neg (by omega),if_neg (by rw[h.1];simp),chks_good l (lv+1) (n+1) h.2 (by omega) (by omega)]
   rw[Nat.add_assoc]
theorem chks_good:∀(l:List XT) (lv n:Nat),okXs l→lv+XT.deps l≤33→n+XT.sizes l≤256→chks l lv n=(0,n+XT.sizes l)
 |[],lv,n,_,_,_=>by rw[chks,XT.sizes];rfl
 |x::l,lv,n,h,hd,hs=>by
  rw[okXs] at h
  rw[XT.deps] at hd
  rw[XT.sizes] at hs ⊢
  rw[chks,chk_good x lv n h.1 (by omega) (by omega),if_neg (by simp),chks_good l lv _ h.2 (by omega) (by show n+x.size+_≤_;omega)]
  show(0,n+x.size+_)=_
  rw[Nat.add_assoc]
end
mutual
theorem tiny_fit:∀(x:XT),qX x→x.tiny=true→x.fit=true
 | .mk o nm u l,hq,ht=>by
   obtain⟨h1,h2,h3⟩:=XT.tiny_parts ht
   rw[qX] at hq
   obtain⟨⟨r,rfl⟩,hq2⟩:=hq
   have:=szQ_bytes h2
   rw[XT.fit,tinies_fits l hq2 h3,decide_eq_true (by omega:nm.length≤1000000)]
   have e:NumV.fit (.q r)=true:=decide_eq_true (by omega)
   rw[e];rfl
theorem tinies_fits:∀(l:List XT),qXs l→XT.tinies l=true→XT.fits l=true
 |[],_,_=>by rw[XT.fits]
 |x::l,hq,ht=>by
  rw[qXs] at hq
  rw[XT.tinies,Bool.and_eq_true] at ht
  rw[XT.fits,tiny_fit x hq.1 ht.1,tinies_fits l hq.2 ht.2];rfl
end
theorem RepX.raw{T:Tab}{op:Int}{nm:Bs8}{u:NumV}{b1 b2:Bool}{s1 s2:ByteArray}{l:List XT}{a:Option Addr}{cap:Nat}(hu:u.cells=[.bool b1,.string s1,.bool b2,.string s2])(h:RepL T l a)(hc:l.length≤cap):
 RepX T (.mk op nm u l) [.int .i64 op,.string (strU nm),.bool b1,.string s1,.bool b2,.string s2,.slice a l.length cap]:=by
 have:=RepX.mk (T:=T) (op:=op) (name:=nm) (num:=u) (args:=l) (a:=a) (cap:=cap) h hc
 unfold xcells at this
 rw[hu] at this
 exact this
def XA.finG{l:List XT}(z:XA l)(op:Int)(nm:Bs8){u:NumV}{b1 b2:Bool}{s1 s2:ByteArray}(hu:u.cells=[.bool b1,.string s1,.bool b2,.string s2]):XR (.mk op nm u l):=
 ⟨z.finT,op,strU nm,b1,s1,b2,s2,z.b.map fun g=>⟨g,0,none⟩,l.length,z.cap,z.finT_ok,RepX.raw hu z.finR z.hcap⟩
abbrev AG(g:Nat)(op:Int)(nm:Bs8)(b1:Bool)(s1:ByteArray)(b2:Bool)(s2:ByteArray){l:List XT}(z:XA l):Blk:=
 ⟨some g,30,[.int .i64 op,.string (strU nm),.bool b1,.string s1,.bool b2,.string s2,slv z.b 0 l.length z.cap],7,true⟩
theorem weak_fin{M:List Blk}{l:List XT}(z:XA l):Weak (gB z.T true::⟨z.b,30,z.cs,z.n,true⟩::M) [gB z.finT true]:=by
 unfold XA.finT
 cases hb:z.b with
 |none=>exact weak_picks [some 0] ⟨⟨_,rfl,Blk.le_refl _⟩,trivial⟩ rfl rfl
 |some h=>
  have hl:l≠[]:=fun e=>by have:=z.hb.2 e;rw[hb] at this;cases this
  have hne:z.cs≠[]:=fun e=>by
   have:=z.hlen
   rw[e] at this
   have h2:=List.length_pos_iff.2 hl
   simp at this
   omega
  exact Weak.trans (Weak.shut (i:=1) (j:=0) rfl rfl z.hT z.hs (noTy7 z.hlen hl) (.inr hne) rfl) (weak_picks [some 0] ⟨⟨_,rfl,Blk.le_refl _⟩,trivial⟩ rfl rfl)
structure MadeR(b:Option Nat)(cap n k lv:Nat) where
 x:XT
 z:XR x
 k':Nat
 rb:Option Nat
 off:Nat
 c:Nat
 h:goodM x∧k≤k'∧k'≤n∧x.size≤1+3*(k'-k)∧x.dep≤max lv 1∧(k'<n→rb=b∧off=3*k'∧c=cap-k')
structure MadeS(b:Option Nat)(cap n k lv cnt:Nat) where
 i:Nat
 l:List XT
 z:XA l
 k':Nat
 rb:Option Nat
 off:Nat
 c:Nat
 h:(∀y∈l,goodM y)∧l.length=i∧i≤cnt∧k≤k'∧k'≤n∧XT.sizes l≤i+3*(k'-k)∧XT.deps l≤max (lv-1) 1∧(k'<n→rb=b∧off=3*k'∧c=cap-k')
theorem sizes_snoc(l:List XT)(y:XT):XT.sizes (l++[y])=XT.sizes l+y.size:=by
 induction l with
 |nil=>rw[List.nil_append,XT.sizes,XT.sizes,XT.sizes];omega
 |cons x l ih=>rw[List.cons_append,XT.sizes,XT.sizes,ih];omega
theorem deps_snoc(l:List XT)(y:XT):XT.deps (l++[y])=max (XT.deps l) y.dep:=by
 induction l with
 |nil=>rw[List.nil_append,XT.deps,XT.deps,XT.deps];omega
 |cons x l ih=>rw[List.cons_append,XT.deps,XT.deps,ih];omega
def cutS(s:Stp):Stp:=(s.1,s.2.1,s.2.2.take (min s.2.2.length 45))
def limC(l:List Stp):List Stp:=l.map cutS
def limS(l:List Stp):List Stp:=limC (l.take 40)
theorem limC_length(l:List Stp):(limC l).length=l.length:=List.length_map ..
theorem lim_step{l:List Stp}{i:Nat}{s:Stp}(h:l[i]? =some s):stC (limC (l.take (i+1)))=stC (limC (l.take i))++stp3 (cutS s):=by
 rw[List.take_add_one,h]
 unfold limC
 rw[List.map_append,stC_append]
 show _++(stp3 (cutS s)++[])=_
 rw[List.append_nil]
theorem limS_ok{l:List Stp}(h:∀s∈l,s.1<256∧s.2.1<256):∀s∈limS l,okS s:=fun s hs=>by
 unfold limS limC at hs
 obtain⟨u,hu,rfl⟩:=List.mem_map.1 hs
 have:=h u (List.mem_of_mem_take hu)
 refine⟨this.1,this.2,?_⟩
 show(u.2.2.take _).length≤45
 rw[List.length_take];omega
theorem limS_len(l:List Stp):(limS l).length≤40:=by unfold limS;rw[limC_length,List.length_take];omega
def SOK(o:Fm4)(lv:Nat)(u:Bs8×Rat):Prop:=(o.2.1=0→goodM (.mk (o.1:Nat) u.1 (.q u.2) []))∧(o.2.1≠0→u=([],0)∧fTree o∧2≤lv)
theorem sok_leaf{o:Fm4}{lv:Nat}{u:Bs8×Rat}(h:fOK o lv)(h1:o.1=1∨o.1=3∨o.1=4∨o.1=5)(hg:goodM (.mk (o.1:Nat) u.1 (.q u.2) [])):SOK o lv u:=by
 refine⟨fun _=>hg,fun h0=>?_⟩
 rcases h with h|⟨_,h|h⟩
 ·exact absurd h.2 h0
 ·omega
 ·obtain⟨a,b,c,d,e,_⟩:=h;omega
theorem sok_tree{o:Fm4}{lv:Nat}(h:fOK o lv)(h1:o.1≠1)(h3:o.1≠3)(h4:o.1≠4)(h5:o.1≠5)(h2:o.1≠2):SOK o lv ([],0):=by
 rcases h with h|⟨hl,h|h⟩
 ·have:=h.1;omega
 ·exact absurd h h2
 ·exact⟨fun h0=>by have:=h.2.2.2.2.2.1;omega,fun _=>⟨rfl,h,hl⟩⟩
theorem sok_le{o:Fm4}{lv:Nat}{u:Bs8×Rat}(h:SOK o lv u):o.2.1≤3:=by
 by_cases h0:o.2.1=0
 ·omega
 ·exact(h.2 h0).2.1.2.2.2.2.2.2.1
abbrev NB7(op:Int)(nm:Bs8)(q:Rat)(a:Option Addr)(n c:Nat):List Value:=[.int .i64 op,.string (strU nm),.bool (decide (q.num<0)),.string (mag q.num.natAbs),.bool false,.string (dm q),.slice a n c]
theorem NB7_zero(op:Int)(nm:Bs8)(a:Option Addr)(n c:Nat):NB7 op nm 0 a n c=[.int .i64 op,.string (strU nm),.bool false,.string ⟨#[]⟩,.bool false,.string ⟨#[]⟩,.slice a n c]:=by
 obtain⟨e1,e2,e3⟩:=q0_parts
 unfold NB7
 rw[e1,e2,e3]
theorem made_fin{b:Option Nat}{cap n k lv:Nat}{o:Fm4}{u:Bs8×Rat}(hu:SOK o lv u)(hlv:1≤lv)(hk:k+1≤n){i:Nat}{l:List XT}{k':Nat}{rb:Option Nat}{off c:Nat}
 (h:(∀y∈l,goodM y)∧l.length=i∧i≤o.2.1∧k+1≤k'∧k'≤n∧XT.sizes l≤i+3*(k'-(k+1))∧XT.deps l≤max (lv-1) 1∧(k'<n→rb=b∧off=3*k'∧c=cap-k'))(hi:¬i<o.2.1):
 goodM (.mk (o.1:Nat) u.1 (.q u.2) l)∧k≤k'∧k'≤n∧(XT.mk (o.1:Nat) u.1 (.q u.2) l).size≤1+3*(k'-k)∧(XT.mk (o.1:Nat) u.1 (.q u.2) l).dep≤max lv 1∧(k'<n→rb=b∧off=3*k'∧c=cap-k'):=by
 obtain⟨h1,h2,h3,h4,h5,h6,h7,h8⟩:=h
 rw[XT.size,XT.dep]
 by_cases h0:o.2.1=0
 ·have:l=[]:=List.eq_nil_of_length_eq_zero (by omega)
  subst this
  refine⟨hu.1 h0,by omega,h5,by rw[XT.sizes];omega,by rw[XT.deps];omega,h8⟩
 ·obtain⟨e,ht,hl⟩:=hu.2 h0
  subst e
  have hc:=ht.2.2.2.2.2.2.1
  exact⟨goodM_node h1 (tree_ok ht (by omega)),by omega,h5,by omega,by omega,h8⟩
theorem made_step{b:Option Nat}{cap n k lv cnt:Nat}{i:Nat}{l:List XT}{k':Nat}{rb:Option Nat}{off c:Nat}(hl2:2≤lv)
 (h:(∀y∈l,goodM y)∧l.length=i∧i≤cnt∧k≤k'∧k'≤n∧XT.sizes l≤i+3*(k'-k)∧XT.deps l≤max (lv-1) 1∧(k'<n→rb=b∧off=3*k'∧c=cap-k'))(hi:i<cnt)(r:MadeR b cap n k' (lv-1)):
 (∀y∈l++[r.x],goodM y)∧(l++[r.x]).length=i+1∧i+1≤cnt∧k≤r.k'∧r.k'≤n∧XT.sizes (l++[r.x])≤i+1+3*(r.k'-k)∧XT.deps (l++[r.x])≤max (lv-1) 1∧(r.k'<n→r.rb=b∧r.off=3*r.k'∧r.c=cap-r.k'):=by
 obtain⟨h1,h2,h3,h4,h5,h6,h7,h8⟩:=h
 obtain⟨r1,r2,r3,r4,r5,r6⟩:=r.h
 refine⟨fun y hy=>?_,by simp;omega,hi,by omega,r3,by rw[sizes_snoc];omega,by rw[deps_snoc];omega,r6⟩
 rcases List.mem_append.1 hy with hy|hy
 ·exact h1 y hy
 ·rw[List.mem_singleton.1 hy];exact r1
theorem weak_addG{s6 s8:Blk}{h0 h1 h2:Option Nat}{e0 e1 e2 n0 n1 n2:Nat}{c0 c1 c2:List Value}{g3:Nat}{op:Int}{nm:Bs8}{b1 b2:Bool}{t1 t2:ByteArray}{l:List XT}{x:XT}(z:XA l)(u:XR x)(r:AR (l.length+1) 7):
 Weak [⟨h0,e0,c0,n0,false⟩,⟨h1,e1,c1,n1,true⟩,⟨h2,e2,c2,n2,true⟩,⟨some g3,30,[.int .i64 op,.string (strU nm),.bool b1,.string t1,.bool b2,.string t2,slv (some r.g) 0 (l.length+1) r.cap],7,true⟩,gB z.T true,⟨some r.g,30,z.cs++u.cs,r.n,true⟩,s6,gB u.T true,s8]
  [⟨h0,e0,c0,n0,false⟩,⟨h1,e1,c1,n1,true⟩,⟨h2,e2,c2,n2,true⟩,AG g3 op nm b1 t1 b2 t2 (z.add u r),gB (z.add u r).T true,⟨(z.add u r).b,30,(z.add u r).cs,(z.add u r).n,true⟩]:=
 Weak.trans (Weak.mergeG (i:=7) (j:=4) rfl rfl u.hT z.hT rfl rfl)
  (weak_picks [some 0,some 1,some 2,some 3,some 4,some 5] ⟨⟨_,rfl,Blk.le_refl _⟩,⟨_,rfl,Blk.le_refl _⟩,⟨_,rfl,Blk.le_refl _⟩,⟨_,rfl,le_same (by
 show(⟨some g3,30,[.int .i64 op,.string (strU nm),.bool b1,.string t1,.bool b2,.string t2,slv (some r.g) 0 (l++[x]).length r.cap],7,true⟩:Blk)=_
 rw[List.length_append];rfl)⟩,⟨_,rfl,Blk.le_refl _⟩,⟨_,rfl,Blk.le_refl _⟩,trivial⟩ rfl rfl)
theorem good_a:goodM aX:=goodM_name (.inl ⟨rfl,by decide+kernel⟩) (by decide)
theorem point_good{p q:Rat}(hp:NumV.bytes (.q p)≤20)(hq:NumV.bytes (.q q)≤20):goodM (.node 2 [.numd 1 p,.numd 1 q]):=goodM_node (fun y hy=>by
 rcases List.mem_cons.1 hy with rfl|hy
 ·exact goodM_num hp
 ·rw[List.mem_singleton.1 hy];exact goodM_num hq) (point_ok p q)
theorem weak_pt2{s0 s1 s2 s3 s4:Blk}{g4:Nat}(p q:Rat):Weak [s0,s1,s2,s3,s4,⟨some g4,30,(XR.num p 1).cs++(XR.num q 1).cs,14,true⟩] [gB ((XR.num p 1).node2 2 (XR.num q 1) g4).T true]:=by
 have e:((XR.num p 1).node2 2 (XR.num q 1) g4).T=[(g4,(XR.num p 1).cs++(XR.num q 1).cs)]:=rfl
 rw[e]
 exact Weak.trans (Weak.newG _) (Weak.trans (Weak.shut (i:=5) (j:=6) rfl rfl rfl (by rw[List.all_append,XR.cs_simple,XR.cs_simple];rfl) (noTy_len (by show 5≤14;decide)) (.inl (by decide)) rfl)
 (weak_picks [some 6] ⟨⟨_,rfl,Blk.le_refl _⟩,trivial⟩ rfl rfl))
end Go.Via
namespace Go.Proofs.YtfijbadahkmhbaaGreatDoor
open Go Go.RowKit Go.Via
def MadC(lv:Nat):Prop:=∀(b:Option Nat) (cap nn:Nat) (l:List Stp) (k:Nat) (rb:Option Nat) (off c:Nat),1≤lv→lv≤1000→k≤l.length→l.length≤cap→l.length≤1000000→(k<l.length→rb=b∧off=3*k∧c=cap-k)→(∀s∈l,okS s)→
 ECall Tryz.prog 65 [⟨b,92,stC l,nn,false⟩] [slv rb off (l.length-k) c,.int .i64 (lv:Nat)] (MadeR b cap l.length k lv) (fun r=> .tuple #[r.z.v,slv r.rb r.off (l.length-r.k') r.c]) (fun r=>[gB r.z.T true])
end Go.Proofs.YtfijbadahkmhbaaGreatDoor
namespace Go.Proofs.YtfijbadahkmhbaaGreatDoor
open Go Go.RowKit Go.Via Go.ChangeShapes Go.WideShapes
theorem has_blkE{W:World}{r:Reach}{base:Nat}{a:Addr}{e n:Nat}(e0:TypeId)(he0:e0<mapMark)(h:W.has Tryz.prog r base a e n):∃(g:Nat) (pre:List Value) (N:Nat),a=⟨g,pre.length,none⟩∧BlkAt (Bs.of W) W ⟨some g,e0,pre++[],N,false⟩ g:=by
 obtain⟨_,hsp,row,cells,hsh,hl⟩:=h
 obtain⟨g,off,spot⟩:=a
 simp only at hsp hsh hl
 subst hsp
 unfold World.shape? at hsh
 split at hsh
 ·rename_i cur elem fr heq
  cases hsh
  have h1:=liesAt_le hl
  have h2:off≤cur.size:=Nat.le_trans h1 (Nat.div_mul_le_self _ _)
  have hpl:(cur.toList.take off).length=off:=by simp;omega
  refine⟨g,cur.toList.take off,cur.size,by rw[hpl],.inl ⟨cur,⟨_,_,heq,(fun h=>by cases h),he0⟩,rfl,?_⟩,fun h=>by cases h⟩
  show cur.toList.take (cur.toList.take off++[]).length=cur.toList.take off++[]
  rw[List.append_nil,hpl]
 ·cases hsh
section
variable{H:Type}{enc:TypeId×Value→H}{w:World}
theorem openRow{α:Type}(a0:α){T e k:Nat}{r:Reach}{b0:Nat}{v:Value}{d:DataW H}{ps:List MemPlace}{cells:α→List Value}{ok:α→Prop}(hT:Tryz.prog.underlying T=some (.slice e))(hce:Tryz.prog.cellsOf e=k)(hk:0<k)(he:e<mapMark)(hlen:∀x,(cells x).length=k)
 (ho:∀(fuel:Nat) (cs:List Value) (x:DataW H×List MemPlace),DataW.trod enc Tryz.prog w 0 (fun _=>true) true fuel e cs=some x→wOK e x.1→∃y,cs=cells y∧ok y)
 (hval:Value.okWide Tryz.prog w r b0 T v)(hd:DataW.Trod enc Tryz.prog w 0 (fun _=>true) true T v d ps)(hw:wOK T d):
 ∃(l:List α) (b:Option Nat) (pre:List Value) (N cap:Nat),v=slv b pre.length l.length cap∧l.length≤cap∧(∀x∈l,ok x)∧(∀g,b=some g→BlkAt (Bs.of w) w ⟨b,e,pre++l.flatMap cells,N,false⟩ g)∧(b=none→pre++l.flatMap cells=[]∧N=0):=by
 have hval2:Cell.ok Tryz.prog w r b0 T v:=by
  unfold Value.okWide at hval
  rw[hT] at hval
  unfold Cell.okWide at hval
  rw[hT] at hval
  exact hval
 obtain⟨a0',len0,cap0,rfl⟩:=okWide_slice hT hval
 obtain⟨fuel,h⟩:=hd
 rcases DataW.trod_slice hT h with⟨h1,_⟩|⟨a,len,cap,elems,rest,m,hm,h1,h2,_,hlc,_,hel,hx,_,_⟩
 ·have h1':Value.slice a0' len0 cap0= .slice none 0 0:=List.head_eq_of_cons_eq h1
  exact⟨[],none,[],0,0,h1',Nat.le_refl _,(fun x hx=>by cases hx),(fun g hg=>by cases hg),fun _=>⟨rfl,rfl⟩⟩
 ·have h1':Value.slice a0' len0 cap0= .slice (some a) len cap:=List.head_eq_of_cons_eq h1
  cases h1'
  have h2':=(Prod.ext_iff.1 h2).1
  dsimp only at h2'
  rw[h2'] at hw
  have hwe:∀d∈elems.map (·.1),wOK e d:=by
   unfold wOK at hw
   rw[DataW.weights,hT] at hw
   simp only[List.all_cons,List.all_append,Bool.and_eq_true] at hw
   exact wAll hw.2.1
  rw[hce] at hx
  obtain⟨F,hF⟩:=choose_n (α:=α) a0 (n:=len0) (p:=fun i s=>w.cells? 0 (a.add (i*k)) k=some (cells s)∧ok s) (fun i hi=>by
 obtain⟨y,hy⟩:∃y,elems[i]? =some y:=⟨_,List.getElem?_eq_getElem (by omega)⟩
 have hxi:=hx i hi
 rw[hy] at hxi
 obtain⟨row,r1,r2⟩:=Option.bind_eq_some_iff.1 hxi
 obtain⟨s,e1,e2⟩:=ho _ _ _ r2 (hwe y.1 (List.mem_map.2 ⟨y,List.mem_of_getElem? hy,rfl⟩))
 exact⟨s,by rw[r1,e1],e2⟩)
  have hlenF:((List.range len0).map F).length=len0:=by simp
  have hok:∀x∈(List.range len0).map F,ok x:=fun x hx=>by
   obtain⟨i,hi,rfl⟩:=List.mem_map.1 hx
   exact(hF i (List.mem_range.1 hi)).2
  by_cases h0:len0=0
  ·subst h0
   unfold Cell.ok at hval2
   rw[hT] at hval2
   obtain⟨g,pre,N,rfl,hB⟩:=has_blkE e he hval2.2.2
   exact⟨[],some g,pre,N,cap0,rfl,Nat.zero_le _,(fun x hx=>by cases hx),(fun g' hg'=>by cases hg';exact hB),fun h=>by cases h⟩
  ·have hSB:((List.range len0).map F).flatMap cells=(List.range len0).flatMap fun i=>cells (F i):=by rw[List.flatMap_map]
   have hne:((List.range len0).map F).flatMap cells≠[]:=fun e1=>by
    have h5:=congrArg List.length e1
    rw[hSB,flat_len (k:=k) fun i _=>hlen (F i)] at h5
    have h6:0<len0*k:=Nat.mul_pos (by omega) hk
    replace h5:len0*k=0:=h5
    omega
   obtain⟨g,pre,N,rfl,hB⟩:=blk_flat (w:=w) (a:=a) e he hne (by
 rw[hSB]
 exact cells_flat (k:=k) (fun i hi=>(hF i hi).1) (fun i hi=>hlen (F i)) hk)
   exact⟨(List.range len0).map F,some g,pre,N,cap0,by rw[hlenF];rfl,by rw[hlenF];exact hlc,hok,(fun g' hg'=>by cases hg';exact hB),fun h=>by cases h⟩
theorem ce5:Tryz.prog.cellsOf 5=1:=by kernel_rfl
theorem ce92:Tryz.prog.cellsOf 92=3:=by kernel_rfl
theorem w92{a b c:DataW H}(h:wOK 92 (.agg [a,b,c])):wOK 9 c:=by
 simp[wOK,DataW.weights,DataW.weightsEach,Tryz.underlying92] at h ⊢
 exact h.2.2
def okSt(s:Stp):Prop:=s.1<256∧s.2.1<256∧s.2.2.length≤281474976710656
theorem oStp{fuel:Nat}{cs:List Value}{x:DataW H×List MemPlace}(h:DataW.trod enc Tryz.prog w 0 (fun _=>true) true fuel 92 cs=some x)(hw:wOK 92 x.1):∃s:Stp,cs=stp3 s∧okSt s:=by
 obtain⟨xs,n,_,rfl,hl,hlen,hf⟩:=DataW.trod_struct Tryz.underlying92 h
 rw[ce92] at hl
 match cs,hl,xs,hlen with
 |[c0,c1,c2],_,[y0,y1,y2],_=>
  have f0:DataW.trod enc Tryz.prog w 0 (fun _=>true) true n 5 ((([c0,c1,c2]:List Value).drop 0).take (Tryz.prog.cellsOf 5))=some y0:=hf 0 _ rfl
  have f1:DataW.trod enc Tryz.prog w 0 (fun _=>true) true n 5 ((([c0,c1,c2]:List Value).drop 1).take (Tryz.prog.cellsOf 5))=some y1:=hf 1 _ rfl
  have f2:DataW.trod enc Tryz.prog w 0 (fun _=>true) true n 9 ((([c0,c1,c2]:List Value).drop 2).take (Tryz.prog.cellsOf 9))=some y2:=hf 2 _ rfl
  rw[ce5] at f0 f1;rw[ce9] at f2
  obtain⟨n0,e0,_,k0⟩:=DataW.trod_int Tryz.underlying5 f0
  obtain⟨n1,e1,_,k1⟩:=DataW.trod_int Tryz.underlying5 f1
  obtain⟨s,e2,q2,_⟩:=DataW.trod_string Tryz.underlying9 f2
  have hw2:=w92 hw
  dsimp only at hw2
  rw[q2] at hw2
  have hs:=w9 hw2
  simp only[Lit.wf,Bool.and_eq_true,decide_eq_true_eq] at k0 k1
  have h1:IntKind.u8.min=0:=rfl
  have h2:IntKind.u8.max=255:=rfl
  obtain⟨m0,rfl⟩:∃m:Nat,n0=(m:Nat):=⟨n0.toNat,by omega⟩
  obtain⟨m1,rfl⟩:∃m:Nat,n1=(m:Nat):=⟨n1.toNat,by omega⟩
  simp at e0 e1 e2
  refine⟨(m0,m1,s.data.toList),?_,by show m0<256;omega,by show m1<256;omega,by show s.data.toList.length≤_;omega⟩
  show _=[Value.int .u8 (m0:Nat),Value.int .u8 (m1:Nat),Value.string (strU s.data.toList)]
  rw[e0,e1,e2,←str_strU]
theorem openN{r:Reach}{b0:Nat}{v:Value}{d:DataW H}{ps:List MemPlace}(hval:Value.okWide Tryz.prog w r b0 50 v)(hd:DataW.Trod enc Tryz.prog w 0 (fun _=>true) true 50 v d ps)(hw:wOK 50 d):
 ∃(l:List Stp) (b:Option Nat) (pre:List Value) (N cap:Nat),v=slv b pre.length l.length cap∧l.length≤cap∧(∀x∈l,okSt x)∧(∀g,b=some g→BlkAt (Bs.of w) w ⟨b,92,pre++stC l,N,false⟩ g)∧(b=none→pre++stC l=[]∧N=0):=
 openRow (cells:=stp3) (0,0,[]) Tryz.underlying50 ce92 (by decide) (by decide) (fun _=>rfl) (fun fuel cs x h hw=>oStp h hw) hval hd hw
theorem SB_flat(l:List Bs8):l.flatMap (fun s=>[Value.string (strU s)])=SB l:=by
 induction l with
 |nil=>rfl
 |cons x l ih=>rw[List.flatMap_cons,ih];rfl
theorem openS{r:Reach}{b0:Nat}{v:Value}{d:DataW H}{ps:List MemPlace}(hval:Value.okWide Tryz.prog w r b0 36 v)(hd:DataW.Trod enc Tryz.prog w 0 (fun _=>true) true 36 v d ps)(hw:wOK 36 d):
 ∃(l:List Bs8) (b:Option Nat) (pre:List Value) (N cap:Nat),v=slv b pre.length l.length cap∧l.length≤cap∧(∀x∈l,x.length≤281474976710656)∧(∀g,b=some g→BlkAt (Bs.of w) w (VBk b 9 pre l N) g)∧(b=none→pre++SB l=[]∧N=0):=by
 obtain⟨l,b,pre,N,cap,h1,h2,h3,h4,h5⟩:=openRow (H:=H) (cells:=fun s:Bs8=>[Value.string (strU s)]) (ok:=fun s=>s.length≤281474976710656) [] Tryz.underlying36 ce9 (by decide) (by decide) (fun _=>rfl) (fun fuel cs x h hw=>by
 obtain⟨s,e2,q2,_⟩:=DataW.trod_string Tryz.underlying9 h
 rw[q2] at hw
 have:=w9 hw
 exact⟨s.data.toList,by rw[e2,←str_strU],by omega⟩) hval hd hw
 rw[SB_flat] at h4 h5
 exact⟨l,b,pre,N,cap,h1,h2,h3,h4,h5⟩
def inC(l:List Int):List Value:=l.flatMap fun n=>[Value.int .i64 n]
theorem openI{r:Reach}{b0:Nat}{v:Value}{d:DataW H}{ps:List MemPlace}(hval:Value.okWide Tryz.prog w r b0 57 v)(hd:DataW.Trod enc Tryz.prog w 0 (fun _=>true) true 57 v d ps)(hw:wOK 57 d):
 ∃(l:List Int) (b:Option Nat) (pre:List Value) (N cap:Nat),v=slv b pre.length l.length cap∧l.length≤cap∧(∀x∈l,-9223372036854775808≤x∧x≤9223372036854775807)∧(∀g,b=some g→BlkAt (Bs.of w) w ⟨b,3,pre++inC l,N,false⟩ g)∧(b=none→pre++inC l=[]∧N=0):=
 openRow (cells:=fun n:Int=>[Value.int .i64 n]) 0 Tryz.underlying57 ce3 (by decide) (by decide) (fun _=>rfl) (fun fuel cs x h hw=>by
 obtain⟨n,e,_,k⟩:=DataW.trod_int Tryz.underlying3 h
 simp only[Lit.wf,Bool.and_eq_true,decide_eq_true_eq] at k
 exact⟨n,e,k⟩) hval hd hw
end
theorem blk_row{W:World}{b:Option Nat}{e:Nat}(he:e<mapMark){cs:List Value}{N:Nat}(h1:∀g,b=some g→BlkAt (Bs.of W) W ⟨b,e,cs,N,false⟩ g)(h2:b=none→cs=[]∧N=0):BlkIn W ⟨b,e,cs,N,false⟩:=
 ⟨h1,fun hn=>⟨(h2 hn).1,(h2 hn).2,fun T _ h=>absurd (h▸he) (gE_ge T)⟩⟩
end Go.Proofs.YtfijbadahkmhbaaGreatDoor
namespace Go.Via
open Go Go.RowKit
theorem b_irr:∀a:Bs8,¬a<a
 |[]=>List.not_lt_nil []
 |x::a=>by
  rw[List.cons_lt_cons_iff]
  rintro(h|⟨_,h⟩)
  ·exact absurd h (UInt8.lt_irrefl x)
  ·exact b_irr a h
theorem b_trans:∀{a b c:Bs8},a<b→b<c→a<c
 |a,b,[],_,h=>absurd h (List.not_lt_nil b)
 |[],_,_::_,_,_=>List.nil_lt_cons _ _
 |_::_,[],_::_,h,_=>absurd h (List.not_lt_nil _)
 |x::a,y::b,z::c,h1,h2=>by
  rw[List.cons_lt_cons_iff] at*
  rcases h1 with h1|⟨rfl,h1⟩
  ·rcases h2 with h2|⟨rfl,h2⟩
   ·exact .inl (UInt8.lt_trans h1 h2)
   ·exact .inl h1
  ·rcases h2 with h2|⟨rfl,h2⟩
   ·exact .inl h2
   ·exact .inr ⟨rfl,b_trans h1 h2⟩
theorem b_tri:∀a b:Bs8,a<b∨a=b∨b<a
 |[],[]=> .inr (.inl rfl)
 |[],_::_=> .inl (List.nil_lt_cons _ _)
 |_::_,[]=> .inr (.inr (List.nil_lt_cons _ _))
 |x::a,y::b=>by
  rw[List.cons_lt_cons_iff,List.cons_lt_cons_iff]
  by_cases h:x<y
  ·exact .inl (.inl h)
  ·by_cases h2:y<x
   ·exact .inr (.inr (.inl h2))
   ·have e:x=y:=by
     apply UInt8.toNat_inj.1
     rw[UInt8.lt_iff_toNat_lt] at h h2
     omega
    subst e
    rcases b_tri a b with h3|rfl|h3
    ·exact .inl (.inr ⟨rfl,h3⟩)
    ·exact .inr (.inl rfl)
    ·exact .inr (.inr (.inr ⟨rfl,h3⟩))
theorem b_le{a b:Bs8}:a≤b↔a<b∨a=b:=by
 have h:a≤b↔¬b<a:=Iff.rfl
 rw[h]
 constructor
 ·intro hn
  rcases b_tri a b with h|h|h
  ·exact .inl h
  ·exact .inr h
  ·exact absurd h hn
 ·rintro(h|rfl) h2
  ·exact b_irr _ (b_trans h h2)
  ·exact b_irr _ h2
theorem rise_eq:∀{l m:List Bs8},l.Pairwise (· < ·)→m.Pairwise (· < ·)→(∀a,a∈l↔a∈m)→l=m
 |[],[],_,_,_=>rfl
 |[],b::m,_,_,h=>absurd ((h b).2 List.mem_cons_self) (by simp)
 |a::l,[],_,_,h=>absurd ((h a).1 List.mem_cons_self) (by simp)
 |a::l,b::m,hl,hm,h=>by
  rw[List.pairwise_cons] at hl hm
  have e:a=b:=by
   rcases List.mem_cons.1 ((h a).1 List.mem_cons_self) with e|h1
   ·exact e
   ·rcases List.mem_cons.1 ((h b).2 List.mem_cons_self) with e|h2
    ·exact e.symm
    ·exact absurd (b_trans (hl.1 b h2) (hm.1 a h1)) (b_irr a)
  subst e
  rw[rise_eq hl.2 hm.2 fun c=>?_]
  constructor
  ·intro hc
   rcases List.mem_cons.1 ((h c).1 (List.mem_cons_of_mem _ hc)) with e|h1
   ·subst e;exact absurd (hl.1 _ hc) (b_irr _)
   ·exact h1
  ·intro hc
   rcases List.mem_cons.1 ((h c).2 (List.mem_cons_of_mem _ hc)) with e|h1
   ·subst e;exact absurd (hm.1 _ hc) (b_irr _)
   ·exact h1
def insU(a:Bs8):List Bs8→List Bs8
 |[]=>[a]
 |b::l=>if b<a then b::insU a l else if b=a then b::l else a::b::l
theorem mem_insU{a c:Bs8}:∀{l:List Bs8},c∈insU a l↔c=a∨c∈l
 |[]=>by simp[insU]
 |b::l=>by
  unfold insU
  split
  ·rw[List.mem_cons,mem_insU,List.mem_cons]
   constructor
   ·rintro(h|h|h)<;>simp[h]
   ·rintro(h|h|h)<;>simp[h]
  ·split
   ·rename_i h1 h2
    subst h2
    simp
   ·simp
theorem insU_rise{a:Bs8}:∀{l:List Bs8},l.Pairwise (· < ·)→(insU a l).Pairwise (· < ·)
 |[],_=>by simp[insU]
 |b::l,h=>by
  have h':=List.pairwise_cons.1 h
  unfold insU
  split
  ·rename_i hb
   refine List.pairwise_cons.2 ⟨fun c hc=>?_,insU_rise h'.2⟩
   rcases mem_insU.1 hc with rfl|hc
   ·exact hb
   ·exact h'.1 c hc
  ·split
   ·exact h
   ·rename_i h1 h2
    have hab:a<b:=by
     rcases b_tri a b with h3|h3|h3
     ·exact h3
     ·exact absurd h3.symm h2
     ·exact absurd h3 h1
    refine List.pairwise_cons.2 ⟨fun c hc=>?_,h⟩
    rcases List.mem_cons.1 hc with rfl|hc
    ·exact hab
    ·exact b_trans hab (h'.1 c hc)
theorem insU_len(a:Bs8):∀l:List Bs8,(insU a l).length≤l.length+1
 |[]=>by simp[insU]
 |b::l=>by
  unfold insU
  split
  ·have:=insU_len a l;simp;omega
  ·split<;>simp
def insAll(out l:List Bs8):List Bs8:=l.foldl (fun o a=>insU a o) out
theorem insAll_rise:∀(l out:List Bs8),out.Pairwise (· < ·)→(insAll out l).Pairwise (· < ·)
 |[],_,h=>h
 |a::l,out,h=>insAll_rise l _ (insU_rise h)
theorem mem_insAll{c:Bs8}:∀{l out:List Bs8},c∈insAll out l↔c∈out∨c∈l
 |[],out=>by simp[insAll]
 |a::l,out=>by
  show c∈insAll (insU a out) l↔_
  rw[mem_insAll,mem_insU,List.mem_cons]
  constructor
  ·rintro((h|h)|h)<;>simp[h]
  ·rintro(h|h|h)<;>simp[h]
theorem insAll_len:∀(l out:List Bs8),(insAll out l).length≤out.length+l.length
 |[],out=>by simp[insAll]
 |a::l,out=>by
  show(insAll (insU a out) l).length≤_
  have:=insAll_len l (insU a out)
  have:=insU_len a out
  simp;omega
mutual
def mvars:XT→List Bs8
 | .mk o nm u l=>mvarss (if o=4 then[nm] else[]) l
def mvarss(out:List Bs8):List XT→List Bs8
 |[]=>out
 |x::l=>mvarss (insAll out (mvars x)) l
end
mutual
theorem mvars_rise:∀x:XT,(mvars x).Pairwise (· < ·)
 | .mk o nm u l=>by rw[mvars];exact mvarss_rise l _ (by split<;>simp)
theorem mvarss_rise:∀(l:List XT) (out:List Bs8),out.Pairwise (· < ·)→(mvarss out l).Pairwise (· < ·)
 |[],out,h=>by rw[mvarss];exact h
 |x::l,out,h=>by rw[mvarss];exact mvarss_rise l _ (insAll_rise _ _ h)
end
mutual
theorem mem_mvars{c:Bs8}:∀x:XT,c∈mvars x↔c∈varsL x
 | .mk o nm u l=>by rw[mvars,varsL,mem_mvarss l,List.mem_append]
theorem mem_mvarss{c:Bs8}:∀(l:List XT) {out:List Bs8},c∈mvarss out l↔c∈out∨c∈varsLs l
 |[],out=>by rw[mvarss,varsLs];simp
 |x::l,out=>by rw[mvarss,varsLs,mem_mvarss l,mem_insAll,mem_mvars x,List.mem_append,or_assoc]
end
mutual
theorem mvars_len:∀x:XT,(mvars x).length≤x.size
 | .mk o nm u l=>by
   rw[mvars,XT.size]
   have:=mvarss_len l (if o=4 then[nm] else[])
   have h2:(if o=4 then[nm] else[]).length≤1:=by split<;>simp
   omega
theorem mvarss_len:∀(l:List XT) (out:List Bs8),(mvarss out l).length≤out.length+XT.sizes l
 |[],out=>by rw[mvarss];omega
 |x::l,out=>by
  rw[mvarss,XT.sizes]
  have:=mvarss_len l (insAll out (mvars x))
  have:=insAll_len (mvars x) out
  have:=mvars_len x
  omega
end
theorem compact_rise{l:List Bs8}(h:l.Pairwise (· ≤ ·)):(Lib.compact l).Pairwise (· < ·)∧∀a,a∈Lib.compact l↔a∈l:=by
 have key:∀m,m≤l.length→(Lib.compactUpTo l.toArray m).Pairwise (· < ·)∧(∀a,a∈Lib.compactUpTo l.toArray m↔a∈l.take m):=by
  intro m
  induction m with
  |zero=>intro _;simp[Lib.compactUpTo]
  |succ m ih=>
   intro hm
   obtain⟨i1,i2⟩:=ih (by omega)
   obtain⟨z,hz⟩:∃z,l[m]? =some z:=⟨l[m],List.getElem?_eq_getElem (by omega)⟩
   have hz':l.toArray[m]! =z:=by
    rw[getElem!_pos l.toArray m (by simp;omega)]
    obtain⟨q1,q2⟩:=List.getElem?_eq_some_iff.1 hz
    simpa using q2
   rw[Lib.compactUpTo_succ,List.take_add_one,hz,hz']
   have hle:∀a∈l.take m,a≤z:=fun a ha=>by
    obtain⟨j,hj,rfl⟩:=List.mem_take_iff_getElem.1 ha
    obtain⟨q1,q2⟩:=List.getElem?_eq_some_iff.1 hz
    rw[←q2]
    exact List.pairwise_iff_getElem.1 h j m (by omega) q1 (by omega)
   by_cases hk:Lib.keeps l.toArray m=true
   ·rw[if_pos hk]
    refine⟨List.pairwise_append.2 ⟨i1,by simp,fun a ha b hb=>?_⟩,fun a=>by simp[i2]⟩
    rw[List.mem_singleton.1 hb]
    have ha2:=(i2 a).1 ha
    rcases b_le.1 (hle a ha2) with h1|rfl
    ·exact h1
    ·
     exfalso
     obtain⟨j,hj,hja⟩:=List.mem_take_iff_getElem.1 ha2
     have hm0:m≠0:=by omega
     have hk2:l.toArray[m]! ≠l.toArray[m-1]! :=by
      unfold Lib.keeps at hk
      simp only[Bool.or_eq_true,beq_iff_eq,bne_iff_ne,decide_eq_true_eq,hm0,false_or] at hk
      exact hk
     rw[hz',getElem!_pos l.toArray (m-1) (by simp;omega)] at hk2
     have hp:l.toArray[m-1]'(by simp;omega)=l[m-1]'(by omega):=by simp
     rw[hp] at hk2
     have h2:l[m-1]'(by omega)≤a:=hle _ (List.mem_take_iff_getElem.2 ⟨m-1,by omega,rfl⟩)
     have h3:a≤l[m-1]'(by omega):=by
      rw[←hja]
      by_cases e:j=m-1
      ·subst e;exact b_le.2 (.inr rfl)
      ·exact List.pairwise_iff_getElem.1 h j (m-1) (by omega) (by omega) (by omega)
     rcases b_le.1 h2 with h4|h4
     ·rcases b_le.1 h3 with h5|h5
      ·exact b_irr _ (b_trans h4 h5)
      ·exact hk2 h5
     ·exact hk2 h4.symm
   ·rw[if_neg hk,List.append_nil]
    refine⟨i1,fun a=>?_⟩
    rw[i2,List.mem_append]
    constructor
    ·exact .inl
    ·rintro(h1|h1)
     ·exact h1
     ·have h1:a=z:=by simpa using h1
      subst h1
      have hm0:m≠0:=fun e=>by subst e;simp[Lib.keeps] at hk
      have hk2:l.toArray[m]! =l.toArray[m-1]! :=by
       unfold Lib.keeps at hk
       simpa[hm0] using hk
      rw[hz',getElem!_pos l.toArray (m-1) (by simp;omega)] at hk2
      rw[hk2]
      exact List.mem_take_iff_getElem.2 ⟨m-1,by omega,by simp⟩
 have:=key l.length (Nat.le_refl _)
 rwa [List.take_of_length_le (Nat.le_refl _)] at this
end Go.Via
namespace Go.Proofs.YtfijbadahkmhbaaGreatDoor
open Go Go.RowKit Go.Via
theorem mvars_U(x:XT):mvars x=varsU x:=by
 have hs:(sortL (varsL x)).Pairwise (· ≤ ·):=by
  have:=List.pairwise_mergeSort (le:=fun(x y:Bs8)=>decide (x≤y)) (fun a b c h1 h2=>by
 simp only[decide_eq_true_eq] at*
 rcases b_le.1 h1 with h3|rfl
 ·rcases b_le.1 h2 with h4|rfl
  ·exact b_le.2 (.inl (b_trans h3 h4))
  ·exact h1
 ·exact h2) (fun a b=>by
 simp only[Bool.or_eq_true,decide_eq_true_eq]
 rcases b_tri a b with h|h|h
 ·exact .inl (b_le.2 (.inl h))
 ·exact .inl (b_le.2 (.inr h))
 ·exact .inr (b_le.2 (.inl h))) (varsL x)
  exact this.imp (fun h=>of_decide_eq_true h)
 obtain⟨h1,h2⟩:=compact_rise hs
 refine rise_eq (mvars_rise x) h1 fun a=>?_
 rw[mem_mvars]
 show a∈varsL x↔a∈Lib.compact (sortL (varsL x))
 rw[h2]
 unfold sortL
 rw[List.mem_mergeSort]
end Go.Proofs.YtfijbadahkmhbaaGreatDoor
namespace Go.Via
open Go Go.RowKit
theorem at_seqX{P:Program}{B:Bs}{s:St}{Q:Exit→Act→World→Prop}{x y:Code}{nt:Nat}{X:Type}(T:X→List (Nat×Value))(LL:X→List Blk)
 (h1:At B s (x.wp P (Exit.then (fun a w=>∃z,Rel B ⟨nt,T z,LL z⟩ a w) Q)))(h2:∀z,At B ⟨nt,T z,LL z⟩ (y.wp P Q)):At B s ((Code.seq x y).wp P Q):=
 at_seq fun a w hr=>Code.wp_mono (fun e a w h=>by
 cases e with
 |normal=>obtain⟨z,h⟩:=h;exact h2 z a w h
 |_=>exact h) (h1 a w hr)
theorem at_intoX{B:Bs}{nt:Nat}{t:List (Nat×Value)}{L:List Blk}{X:Type}{T:X→List (Nat×Value)}{LL:X→List Blk}(z:X)(lk:LookAll t (T z))(hw:Weak L (LL z)):At B ⟨nt,t,L⟩ (fun a w=>∃z,Rel B ⟨nt,T z,LL z⟩ a w):=fun a w hr=>
 ⟨z,hr.df,hr.size,fun d v hd=>hr.tmp d v (lk.mem (d,v) (look_mem hd)),hw _ _ hr.mem⟩
section
variable{P:Program}{bl:List Nat}{ops:Array Oper}{K:St→Prop}{rest:List Oper}{nt:Nat}{t:List (Nat×Value)}{L:List Blk}{d:Nat}{ty:TypeId}{pos:String}{af:Array Edge}{g:Option (Nat×Bool)}{x y:Operand}
end
theorem ECall.toS{P:Program}{f:Nat}{L0:List Blk}{args:List Value}{X:Type}{res:X→Value}{new:X→List Blk}(h:ECall P f L0 args X res new):SCall P f L0 args X res new:=⟨h.1,fun w hL=>h.2 (Bs.of w) w rfl hL⟩
end Go.Via
namespace Go.Proofs.YtfijbadahkmhbaaGreatDoor
open Go Go.RowKit Go.Via
end Go.Proofs.YtfijbadahkmhbaaGreatDoor
namespace Go.Via
open Go Go.RowKit
def NumV.parts:NumV→Bool×ByteArray×Bool×ByteArray
 | .q r=>(decide (r.num<0),mag r.num.natAbs,false,dm r)
 | .raw b1 s1 b2 s2=>(b1,s1,b2,s2)
theorem NumV.parts_cells{u:NumV}{b1 b2:Bool}{s1 s2:ByteArray}(h:u.cells=[.bool b1,.string s1,.bool b2,.string s2]):u.parts=(b1,s1,b2,s2):=by
 cases u with
 |q r=>obtain⟨rfl,rfl,rfl,rfl⟩:=NumV.of_q h;rfl
 |raw c1 t1 c2 t2=>obtain⟨rfl,rfl,rfl,rfl⟩:=NumV.of_raw h;rfl
def numE(a b:NumV):Bool:=(a.parts.1==b.parts.1)&&((a.parts.2.1==b.parts.2.1)&&((a.parts.2.2.1==b.parts.2.2.1)&&(a.parts.2.2.2==b.parts.2.2.2)))
theorem numE_cells{u v:NumV}{b1 b2 c1 c2:Bool}{s1 s2 t1 t2:ByteArray}(h:u.cells=[.bool b1,.string s1,.bool b2,.string s2])(k:v.cells=[.bool c1,.string t1,.bool c2,.string t2]):
 ((b1==c1)&&((s1==t1)&&((b2==c2)&&(s2==t2))))=numE u v:=by
 unfold numE
 rw[NumV.parts_cells h,NumV.parts_cells k]
theorem numE_refl(u:NumV):numE u u=true:=by
 unfold numE
 simp[bb_self]
mutual
def sameX:XT→XT→Bool
 | .mk o n u l,.mk o' n' u' l'=>decide (o=o')&&((n==n')&&(numE u u'&&sames l l'))
def sames:List XT→List XT→Bool
 |[],[]=>true
 |x::l,y::m=>sameX x y&&sames l m
 |[],_::_=>false
 |_::_,[]=>false
end
theorem sameX_eq(x y:XT):sameX x y=(decide (x.op=y.op)&&((x.name==y.name)&&(numE x.num y.num&&sames x.args y.args))):=by
 cases x;cases y;rw[sameX];rfl
theorem sames_len:∀{l m:List XT},l.length≠m.length→sames l m=false
 |[],[],h=>absurd rfl h
 |[],_::_,_=>by rw[sames]
 |_::_,[],_=>by rw[sames]
 |x::l,y::m,h=>by rw[sames,sames_len (l:=l) (m:=m) (fun e=>h (by simp[e])),Bool.and_false]
theorem sames_step{l m:List XT}{i:Nat}{x y:XT}(hx:l[i]? =some x)(hy:m[i]? =some y):sames (l.drop i) (m.drop i)=(sameX x y&&sames (l.drop (i+1)) (m.drop (i+1))):=by
 obtain⟨hl,rfl⟩:=List.getElem?_eq_some_iff.1 hx
 obtain⟨hm,rfl⟩:=List.getElem?_eq_some_iff.1 hy
 rw[List.drop_eq_getElem_cons hl,List.drop_eq_getElem_cons hm,sames]
theorem sames_end{l m:List XT}{i:Nat}(h:i=l.length)(e:l.length=m.length):sames (l.drop i) (m.drop i)=true:=by
 subst h
 rw[List.drop_length,e,List.drop_length,sames]
mutual
theorem sameX_refl:∀x:XT,sameX x x=true
 | .mk o n u l=>by rw[sameX,numE_refl,sames_refl l];simp
theorem sames_refl:∀l:List XT,sames l l=true
 |[]=>by rw[sames]
 |x::l=>by rw[sames,sameX_refl x,sames_refl l];rfl
end
theorem byS2{p:XT→XT→Prop}(h:∀x:XT,(∀x':XT,x'.size<x.size→∀y',p x' y')→∀y,p x y)(x y:XT):p x y:=by
 suffices k:∀n:Nat,∀x:XT,x.size<n→∀y,p x y from k _ x (Nat.lt_succ_self _) y
 intro n
 induction n with
 |zero=>intro x hx;omega
 |succ n ih=>exact fun x hx y=>h x (fun x' hx' y'=>ih x' (by omega) y') y
end Go.Via
namespace Go.Proofs.YtfijbadahkmhbaaGreatDoor
open Go Go.RowKit Go.Via
def SamC(x y:XT):Prop:=∀(z:XR x) (u:XR y),x.size≤1000000000→ECall Tryz.prog 32 [gB z.T false,gB u.T false] [z.v,u.v] Unit (fun _=> .bool (sameX x y)) (fun _=>[])
end Go.Proofs.YtfijbadahkmhbaaGreatDoor
namespace Go.Via
open Go Go.RowKit
def idxB:List Bs8→Bs8→Option Nat
 |[],_=>none
 |a::l,v=>if a=v then some 0 else(idxB l v).map (· +1)
theorem idxB_step{l:List Bs8}{i:Nat}{a v:Bs8}(h:l[i]? =some a)(hne:a≠v)(hI:idxB l v=(idxB (l.drop i) v).map (· +i)):idxB l v=(idxB (l.drop (i+1)) v).map (· +(i+1)):=by
 obtain⟨hl,rfl⟩:=List.getElem?_eq_some_iff.1 h
 rw[hI,List.drop_eq_getElem_cons hl,idxB,if_neg hne,Option.map_map]
 congr 1
 funext k
 show k+1+i=k+(i+1)
 omega
theorem idxB_here{l:List Bs8}{i:Nat}{v:Bs8}(h:l[i]? =some v)(hI:idxB l v=(idxB (l.drop i) v).map (· +i)):idxB l v=some i:=by
 obtain⟨hl,e⟩:=List.getElem?_eq_some_iff.1 h
 rw[hI,List.drop_eq_getElem_cons hl,e,idxB,if_pos rfl]
 show some (0+i)=some i
 rw[Nat.zero_add]
theorem idxB_end{l:List Bs8}{i:Nat}{v:Bs8}(h:l.length≤i)(hI:idxB l v=(idxB (l.drop i) v).map (· +i)):idxB l v=none:=by
 rw[hI,List.drop_eq_nil_of_le h];rfl
theorem idxB_lt:∀{l:List Bs8} {v:Bs8} {i:Nat},idxB l v=some i→i<l.length∧l[i]? =some v
 |[],v,i,h=>by cases h
 |a::l,v,i,h=>by
  rw[idxB] at h
  split at h
  ·rename_i e
   cases h
   exact⟨Nat.succ_pos _,by rw[e];rfl⟩
  ·obtain⟨j,hj,rfl⟩:=Option.map_eq_some_iff.1 h
   obtain⟨h1,h2⟩:=idxB_lt hj
   exact⟨Nat.succ_lt_succ h1,by simpa using h2⟩
theorem idxB_mem:∀{l:List Bs8} {v:Bs8},v∈l→∃i,idxB l v=some i
 |[],v,h=>by cases h
 |a::l,v,h=>by
  rw[idxB]
  by_cases e:a=v
  ·exact⟨0,if_pos e⟩
  ·rcases List.mem_cons.1 h with h|h
   ·exact absurd h.symm e
   ·obtain⟨i,hi⟩:=idxB_mem h
    exact⟨i+1,by rw[if_neg e,hi];rfl⟩
def idxV(o:Option Nat):Int:=match o with|some i=>(i:Nat)|none=> -1
def objB(names:List Bs8)(ids:List Int)(v:Bs8):Option Int:=(idxB names v).bind fun i=>ids[i]?
mutual
def bindX(names:List Bs8)(ids:List Int):XT→XT
 | .mk o nm u l=>if o=4 then match objB names ids nm with|some id=> .numd 3 (id:Rat)|none=> .mk o nm u (bindXs names ids l) else .mk o nm u (bindXs names ids l)
def bindXs(names:List Bs8)(ids:List Int):List XT→List XT
 |[]=>[]
 |x::l=>bindX names ids x::bindXs names ids l
end
section
variable{names:List Bs8}{ids:List Int}
theorem bindX_obj{x:XT}(h:x.op=4){id:Int}(hi:objB names ids x.name=some id):bindX names ids x= .numd 3 (id:Rat):=by
 cases x with
 |mk o nm u l=>
  replace h:o=4:=h
  replace hi:objB names ids nm=some id:=hi
  rw[bindX,if_pos h,hi]
theorem bindX_no{x:XT}(h:x.op≠4∨objB names ids x.name=none):bindX names ids x= .mk x.op x.name x.num (bindXs names ids x.args):=by
 cases x with
 |mk o nm u l=>
  rw[bindX]
  rcases h with h|h
  ·replace h:o≠4:=h
   rw[if_neg h];rfl
  ·split
   ·replace h:objB names ids nm=none:=h
    rw[h];rfl
   ·rfl
theorem bindXs_len:∀l:List XT,(bindXs names ids l).length=l.length
 |[]=>by rw[bindXs]
 |x::l=>by rw[bindXs,List.length_cons,bindXs_len l,List.length_cons]
theorem bindXs_take:∀{l:List XT} {i:Nat} {y:XT},l[i]? =some y→bindXs names ids (l.take (i+1))=bindXs names ids (l.take i)++[bindX names ids y]
 |[],i,y,h=>by simp at h
 |x::l,0,y,h=>by simp at h;subst h;rw[List.take_succ_cons,List.take_zero,List.take_zero,bindXs,bindXs,bindXs];rfl
 |x::l,i+1,y,h=>by
  rw[List.take_succ_cons,List.take_succ_cons,bindXs,bindXs,bindXs_take (by simpa using h)];rfl
mutual
theorem bindX_size:∀x:XT,okX x→(bindX names ids x).size=x.size
 | .mk o nm u l,h=>by
   have h0:=h
   rw[okX] at h
   have ih:=bindXs_size l h.2
   rw[bindX]
   have e:∀nm u,(XT.mk o nm u (bindXs names ids l)).size=(XT.mk o nm u l).size:=fun nm u=>by rw[XT.size,XT.size,ih]
   split
   ·rename_i ho
    split
    ·subst ho
     have hc:((l.length:Nat):Int)=cntL 4:=nodeE_cnt h.1
     have hl:l=[]:=List.eq_nil_of_length_eq_zero (by have:cntL 4=0:=(by decide);omega)
     subst hl
     rfl
    ·exact e nm u
   ·exact e nm u
theorem bindXs_size:∀l:List XT,okXs l→XT.sizes (bindXs names ids l)=XT.sizes l
 |[],_=>by rw[bindXs]
 |x::l,h=>by rw[okXs] at h;rw[bindXs,XT.sizes,XT.sizes,bindX_size x h.1,bindXs_size l h.2]
end
mutual
theorem bindX_vars:∀x:XT,(∀v∈varsL x,∃id,objB names ids v=some id)→varsL (bindX names ids x)=[]
 | .mk o nm u l,h=>by
   rw[varsL] at h
   have ih:=bindXs_vars l fun v hv=>h v (List.mem_append_right _ hv)
   rw[bindX]
   split
   ·rename_i ho
    obtain⟨id,hid⟩:=h nm (by rw[if_pos ho];simp)
    rw[hid]
    unfold XT.numd
    rw[varsL,if_neg (by decide),varsLs];rfl
   ·rename_i ho
    rw[varsL,if_neg ho,ih];rfl
theorem bindXs_vars:∀l:List XT,(∀v∈varsLs l,∃id,objB names ids v=some id)→varsLs (bindXs names ids l)=[]
 |[],_=>by rw[bindXs,varsLs]
 |x::l,h=>by
  rw[varsLs] at h
  rw[bindXs,varsLs,bindX_vars x fun v hv=>h v (List.mem_append_left _ hv),bindXs_vars l fun v hv=>h v (List.mem_append_right _ hv)];rfl
end
end
def BndI(names:List Bs8)(ids:List Int)(v:Bs8)(i:Nat):Prop:=(objB names ids v=none∧ids.length≤i)∨idxB names v=(idxB (names.drop i) v).map (· +i)
theorem BndI.zero(names:List Bs8)(ids:List Int)(v:Bs8):BndI names ids v 0:= .inr (by rw[List.drop_zero];cases idxB names v<;>rfl)
theorem bnd_ne{names:List Bs8}{ids:List Int}{v a:Bs8}{i:Nat}(ha:names[i]? =some a)(hne:a≠v)(h:BndI names ids v i):BndI names ids v (i+1):=by
 rcases h with⟨h1,h2⟩|h
 ·exact .inl ⟨h1,by omega⟩
 ·exact .inr (idxB_step ha hne h)
theorem bnd_here{names:List Bs8}{ids:List Int}{v:Bs8}{i:Nat}{id:Int}(ha:names[i]? =some v)(hid:ids[i]? =some id)(hil:i<ids.length)(h:BndI names ids v i):objB names ids v=some id:=by
 rcases h with⟨_,h2⟩|h
 ·omega
 ·unfold objB
  rw[idxB_here ha h]
  exact hid
theorem bnd_over{names:List Bs8}{ids:List Int}{v:Bs8}{i:Nat}(ha:names[i]? =some v)(hil:ids.length≤i)(h:BndI names ids v i):BndI names ids v (i+1):=by
 rcases h with⟨h1,h2⟩|h
 ·exact .inl ⟨h1,by omega⟩
 ·refine .inl ⟨?_,by omega⟩
  unfold objB
  rw[idxB_here ha h]
  exact List.getElem?_eq_none hil
theorem bnd_end{names:List Bs8}{ids:List Int}{v:Bs8}{i:Nat}{p:Prop}(hge:names.length≤i)(h:BndI names ids v i):p∨objB names ids v=none:=by
 rcases h with⟨h1,_⟩|h
 ·exact .inr h1
 ·refine .inr ?_
  unfold objB
  rw[idxB_end hge h];rfl
def badN(n:Int):Bool:=decide (n<1)||decide (1073741824<n)
def badNs(ids:List Int):Bool:=ids.any badN
noncomputable def bdE(names:List Bs8)(ids:List Int)(x:XT):Nat:=if chkE x≠0 then chkE x else if names.length≠ids.length then 5 else if badNs ids=true then 27 else 0
noncomputable def bdX(names:List Bs8)(ids:List Int)(x:XT):XT:=if bdE names ids x=0 then bindX names ids x else .node 0 []
def upTo(n:Nat):List Int:=(List.range n).map fun i=>(((1+i:Nat):Int))
theorem upTo_len(n:Nat):(upTo n).length=n:=by simp[upTo]
theorem upTo_get{n i:Nat}(h:i<n):(upTo n)[i]? =some (((1+i:Nat):Int)):=by
 unfold upTo
 rw[List.getElem?_map,List.getElem?_range h];rfl
theorem upTo_succ(n:Nat):upTo (n+1)=upTo n++[(((1+n:Nat):Int))]:=by
 unfold upTo
 rw[List.range_succ,List.map_append];rfl
theorem upTo_in{n:Nat}(h:n≤1000000):∀v∈upTo n,-9223372036854775808≤v∧v≤9223372036854775807:=fun v hv=>by
 obtain⟨i,hi,rfl⟩:=List.mem_map.1 hv
 have:=List.mem_range.1 hi
 omega
theorem upTo_ok{n:Nat}(h:n≤1000000):badNs (upTo n)=false:=by
 unfold badNs
 rw[List.any_eq_false]
 intro v hv
 obtain⟨i,hi,rfl⟩:=List.mem_map.1 hv
 have:=List.mem_range.1 hi
 unfold badN
 simp only[Bool.or_eq_true,decide_eq_true_eq]
 omega
end Go.Via
namespace Go.Proofs.YtfijbadahkmhbaaGreatDoor
open Go Go.RowKit Go.Via
theorem inC_length(l:List Int):(inC l).length=l.length:=by
 induction l with
 |nil=>rfl
 |cons x l ih=>
  show([Value.int .i64 x]++inC l).length=_
  rw[List.length_append,ih,List.length_cons,List.length_cons,List.length_nil];omega
theorem inC_get{l:List Int}{i:Nat}{n:Int}(h:l[i]? =some n):((inC l).drop (i*1)).take 1=[.int .i64 n]:=by
 induction l generalizing i with
 |nil=>simp at h
 |cons x l ih=>
  cases i with
  |zero=>simp at h;subst h;rfl
  |succ i=>
   have:=ih (i:=i) (by simpa using h)
   rw[Nat.mul_one] at this ⊢
   exact this
theorem inC_ne{l:List Int}(h:0<l.length):inC l≠[]:=fun e=>by
 have:=inC_length l
 rw[e] at this
 simp at this
 omega
theorem inC_append(l m:List Int):inC (l++m)=inC l++inC m:=List.flatMap_append
theorem bind_all{x:XT}(n:Nat)(hn:n=(varsU x).length):varsU (bindX (varsU x) (upTo n) x)=[]:=by
 have h:varsL (bindX (varsU x) (upTo n) x)=[]:=bindX_vars x fun v hv=>by
  have hm:v∈varsU x:=by rw[←mvars_U];exact(mem_mvars x).2 hv
  obtain⟨i,hi⟩:=idxB_mem hm
  have hl:=(idxB_lt hi).1
  exact⟨_,by unfold objB;rw[hi];exact upTo_get (by omega)⟩
 have e:∀y:XT,varsL y=[]→varsU y=[]:=fun y hy=>by
  rw[←mvars_U]
  exact List.eq_nil_iff_forall_not_mem.2 fun c hc=>by
   have:=(mem_mvars y).1 hc
   rw[hy] at this
   cases this
 exact e _ h
theorem XR.cast_v{x y:XT}(h:x=y)(z:XR x):(z.cast h).v=z.v∧(z.cast h).T=z.T:=by subst h;exact⟨rfl,rfl⟩
abbrev VIk(b:Option Nat)(e:Nat)(pre:List Value)(l:List Int)(n:Nat):Blk:=⟨b,e,pre++inC l,n,false⟩
def BouC(f:Nat)(names:List Bs8)(ids:List Int)(x:XT):Prop:=∀(z:XR x) (b1:Option Nat) (e1:Nat) (p1:List Value) (n1 c1:Nat) (b2:Option Nat) (e2:Nat) (p2:List Value) (n2 c2:Nat),x.size≤1000000→
 ECall Tryz.prog f [gB z.T false,VBk b1 e1 p1 names n1,VIk b2 e2 p2 ids n2] [z.v,slv b1 p1.length names.length c1,slv b2 p2.length ids.length c2] (XR (bindX names ids x)) (fun u=>u.v) (fun u=>[gB u.T true])
structure BndS(names:List Bs8)(ids:List Int)(x:XT) where
 i:Nat
 l:List XT
 z:XA l
 hi:i≤x.args.length
 hl:l=bindXs names ids (x.args.take i)
theorem bnd_len{names:List Bs8}{ids:List Int}{x:XT}{i:Nat}{l:List XT}(hi:i≤x.args.length)(hl:l=bindXs names ids (x.args.take i)):l.length=i:=by rw[hl,bindXs_len,List.length_take];omega
theorem weak_addB{s7 s9:Blk}{h1 h2 h4:Option Nat}{e1 e2 e4 n1 n2 n4:Nat}{c1 c2 c4:List Value}{g3:Nat}{op:Int}{nm:Bs8}{b1 b2:Bool}{t1 t2:ByteArray}{l:List XT}{x:XT}(z:XA l)(u:XR x)(r:AR (l.length+1) 7){T:Tab}:
 Weak [gB T false,⟨h1,e1,c1,n1,false⟩,⟨h2,e2,c2,n2,false⟩,⟨some g3,30,[.int .i64 op,.string (strU nm),.bool b1,.string t1,.bool b2,.string t2,slv (some r.g) 0 (l.length+1) r.cap],7,true⟩,⟨h4,e4,c4,n4,true⟩,gB z.T true,⟨some r.g,30,z.cs++u.cs,r.n,true⟩,s7,gB u.T true,s9]
  [gB T false,⟨h1,e1,c1,n1,false⟩,⟨h2,e2,c2,n2,false⟩,AG g3 op nm b1 t1 b2 t2 (z.add u r),⟨h4,e4,c4,n4,true⟩,gB (z.add u r).T true,⟨(z.add u r).b,30,(z.add u r).cs,(z.add u r).n,true⟩]:=
 Weak.trans (Weak.mergeG (i:=8) (j:=5) rfl rfl u.hT z.hT rfl rfl)
  (weak_picks [some 0,some 1,some 2,some 3,some 4,some 5,some 6] ⟨⟨_,rfl,Blk.le_refl _⟩,⟨_,rfl,Blk.le_refl _⟩,⟨_,rfl,Blk.le_refl _⟩,⟨_,rfl,le_same (by
 show(⟨some g3,30,[.int .i64 op,.string (strU nm),.bool b1,.string t1,.bool b2,.string t2,slv (some r.g) 0 (l++[x]).length r.cap],7,true⟩:Blk)=_
 rw[List.length_append];rfl)⟩,⟨_,rfl,Blk.le_refl _⟩,⟨_,rfl,Blk.le_refl _⟩,⟨_,rfl,Blk.le_refl _⟩,trivial⟩ rfl rfl)
theorem weak_addC{s7:Blk}{h1 h2 h3 h4:Option Nat}{e1 e2 e3 e4 n1 n2 n3 n4:Nat}{c1 c2 c3 c4:List Value}{l:List XT}{x:XT}(z:XA l)(u:XR x)(r:AR (l.length+1) 7){T:Tab}:
 Weak [gB T false,⟨h1,e1,c1,n1,false⟩,⟨h2,e2,c2,n2,false⟩,⟨h3,e3,c3,n3,true⟩,⟨h4,e4,c4,n4,true⟩,gB z.T true,⟨some r.g,30,z.cs++u.cs,r.n,true⟩,gB u.T true,s7]
  [gB T false,⟨h1,e1,c1,n1,false⟩,⟨h2,e2,c2,n2,false⟩,⟨h3,e3,c3,n3,true⟩,⟨h4,e4,c4,n4,true⟩,gB (z.add u r).T true,⟨(z.add u r).b,30,(z.add u r).cs,(z.add u r).n,true⟩]:=
 Weak.trans (Weak.mergeG (i:=7) (j:=5) rfl rfl u.hT z.hT rfl rfl)
  (weak_picks [some 0,some 1,some 2,some 3,some 4,some 5,some 6] ⟨⟨_,rfl,Blk.le_refl _⟩,⟨_,rfl,Blk.le_refl _⟩,⟨_,rfl,Blk.le_refl _⟩,⟨_,rfl,Blk.le_refl _⟩,⟨_,rfl,Blk.le_refl _⟩,⟨_,rfl,Blk.le_refl _⟩,⟨_,rfl,Blk.le_refl _⟩,trivial⟩ rfl rfl)
end Go.Proofs.YtfijbadahkmhbaaGreatDoor
