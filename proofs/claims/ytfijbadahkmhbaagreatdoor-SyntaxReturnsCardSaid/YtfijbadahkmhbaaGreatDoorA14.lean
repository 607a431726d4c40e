/-
  Part 14 (chapter 43): lemmas, walks. Each theorem states its own conditions.
-/
import Derived.Test.YtfijbadahkmhbaaGreatDoorA04
import Derived.Test.YtfijbadahkmhbaaGreatDoorA10
import Derived.Test.YtfijbadahkmhbaaGreatDoorA13
set_option linter.unusedVariables false
set_option linter.unusedSimpArgs false
set_option maxRecDepth 20000
set_option maxHeartbeats 20000000
namespace Go.Proofs.YtfijbadahkmhbaaGreatDoor
open Go Go.RowKit Go.Via
theorem c_Parse_ok(s:Bs8)(hs:s.length≤4096)(kind:Nat)(l:List Bs8)(q:Ps)(hh:headK (p0 s).adv=(kind,l,q))(f:Nat)(r:XT×Ps)(hr:lev f 1 q=some r)(hf:r.1.fit=true)(hM:r.1.size≤1000000):ECall Tryz.prog 42 [] [.string (strU s)] (Option Nat×XR r.1) (fun z=>pqV kind l r z.1 z.2) (fun z=>[⟨z.1,9,SB l,l.length,true⟩,gB z.2.T true]):=by
 refine⟨by kernel_rfl,fun B w hD hL0=>?_⟩;have hP:=Ps.adv_good (p:=p0 s) ⟨hs,Nat.zero_le _⟩;have hA:=Ps.adv_good hP.1;have hC:=Ps.want_good (x:=tComma) (Ps.name_good hA);refine cB1 62 Tryz.func42 hL0 ?_;refine A2 ?_;refine r_alloc [_,_,_,_,_,_,_,_,_] 9 (fun g=>[⟨some g,39,_,9,true⟩]) rfl rfl z39 rfl rfl (fun _=>rfl) (fun g0=>?_);refine A5 ?_;refine at_regionM ?_;refine A1 ?_;refine Gm 0 [] [] (fun g=>[_,PB g (p0 s).adv true]) (c_start_ok s hs) (fun g=>?_);refine A14 ?_;refine Cd ?_ ?_<;>intro hb0
 ·exact absurd hb0 (by decide)
 ·refine A5 ?_;refine at_regionM ?_;refine A1 ?_;refine Gm 1 [1] [] (fun _=>[_,PB g ((p0 s).adv.tk tValue) true]) (c_p_take (p0 s).adv hP.1 tValue g) (fun _=>?_);refine A3 ?_;refine Cd ?_ ?_<;>intro hb1
  ·have hisv:(p0 s).adv.is tValue=true:=hb1;have htkv:(p0 s).adv.tk tValue=(p0 s).adv.adv:=by unfold Ps.tk;rw[hisv];rfl
   rw[htkv];unfold headK at hh;rw[if_pos hisv] at hh;cases hh;refine A2 ?_;refine So 0 0 [⟨some g0,39,_,9,true⟩,_] [_,_,_,_,_,_,_,_,_] ?_;refine A4 ?_;refine at_regionM ?_;refine A1 ?_;refine Gm 1 [1] [] (fun z=>[_,PB g r.2 true,gB z.T true]) (c_p_level f g 1 ((p0 s).adv.adv) r hA (by decide) (by decide) hr) (fun z=>?_);refine A1 ?_;refine So 0 2 [⟨some g0,39,_,9,true⟩,_,_] [_,_,_,_,_,_,_,_,_] ?_;refine A3 ?_;refine at_weakL (L':=[_,_,_,⟨none,9,[],0,true⟩]) (Weak.nilB _ (by decide)) ?_;refine at_regionM ?_;refine A2 ?_;refine r_gcallM (A:=[PB g r.2 true]) (C:=[QBr g0 1 none [] 0 z,VBk none 9 [] [] 0,gB z.T false]) [.pointer (some ⟨g,0,none⟩),.func (.func 79) #[] #[.pointer (some ⟨g0,0,none⟩)]] [1] [0,3,2] (fun _=>[_,PB g r.2.endP true,_,_]) rfl rfl rfl rfl (c_p_end_q r.2 g 1 (by decide) none 9 [] 0 0 (by simp) (fun v hv=>by simp at hv) z hf hM g0) (by decide) rfl rfl ⟨⟨_,rfl,le_share⟩,⟨_,rfl,le_share⟩,⟨_,rfl,le_share⟩,trivial⟩ rfl rfl (fun _=>rfl) (fun _=>allOwn rfl) (fun _=>rfl) (fun _=>?_);refine A14 ?_;refine Cd ?_ ?_<;>intro hb2
   ·have hE:r.2.endE (chkQ 1 [] r.1)≠0:=by simpa using hb2
    refine A2 ?_;refine r_build [] rfl rfl rfl (bd39_0) ?_;refine A2 ?_;refine So 0 0 [⟨some g0,39,_,9,true⟩,_,_,_] [_,_,_,_,_,_,_,_,_] ?_;refine A6 ?_;refine at_end3 rfl (res_cell 0 rfl rfl ti39 (vs:=[_,_,_,_,_,_,_,_,_]) rfl rfl (Nat.le_of_ble_eq_true rfl) rfl) (res_tmp rfl) (res_tmp rfl) (fun w hL=>⟨(none,z),by exact congrArg Ending.returned (pqV_no 1 [] none z hE).symm,hL.pk [some 3,some 2]⟩)
   ·have hE:r.2.endE (chkQ 1 [] r.1)=0:=by simpa using hb2
    refine A4 ?_;refine Ld 0 0 [_,_,_,_,_,_,_,_,_] ti39 ?_;refine So 0 0 [⟨some g0,39,_,9,true⟩,_,_,_] [_,_,_,_,_,_,_,_,_] ?_;refine A5 ?_;refine at_end3 rfl (res_cell 0 rfl rfl ti39 (vs:=[_,_,_,_,_,_,_,_,_]) rfl rfl (Nat.le_of_ble_eq_true rfl) rfl) (res_tmp rfl) (res_tmp rfl) (fun w hL=>⟨(none,z),by exact congrArg Ending.returned (pqV_yes 1 [] none z hE).symm,hL.pk [some 3,some 2]⟩)
  ·have hisv:(p0 s).adv.is tValue=false:=hb1;have htkv:(p0 s).adv.tk tValue=(p0 s).adv:=by unfold Ps.tk;rw[hisv];rfl
   rw[htkv];refine A1 ?_;refine at_regionM ?_;refine A1 ?_;refine Gm 1 [1] [] (fun _=>[_,PB g ((p0 s).adv.tk tObjects) true]) (c_p_take (p0 s).adv hP.1 tObjects g) (fun _=>?_);refine A3 ?_;refine Cd ?_ ?_<;>intro hb2
   ·have hiso:(p0 s).adv.is tObjects=true:=hb2;have htko:(p0 s).adv.tk tObjects=(p0 s).adv.adv:=by unfold Ps.tk;rw[hiso];rfl
    rw[htko];unfold headK at hh;rw[if_neg (by rw[hisv];simp),if_pos hiso] at hh;cases hh;refine A3 ?_;refine So 0 0 [⟨some g0,39,_,9,true⟩,_] [_,_,_,_,_,_,_,_,_] ?_;refine A3 ?_;refine at_regionM ?_;refine A1 ?_;refine Gm 1 [1] [] (fun _=>[_,PB g ((p0 s).adv.adv.name) true]) (c_p_name ((p0 s).adv.adv) hA.1 g) (fun _=>?_);refine r_buildSlice [(0,_)] (fun g=>[_,_,⟨some g,9,_,1,true⟩]) rfl rfl rfl (bs36_1) rfl (fun _=>rfl) (fun g1=>?_);refine A1 ?_;refine So 0 1 [⟨some g0,39,_,9,true⟩,_,_] [_,_,_,_,_,_,_,_,_] ?_;refine A2 ?_;refine at_regionM ?_;refine A1 ?_;refine Gm 1 [1] [] (fun _=>[_,PB g (((p0 s).adv.adv.name).want tWhere) true,_]) (c_p_want ((p0 s).adv.adv.name) (Ps.name_good hA).1 tWhere g) (fun _=>?_);refine A4 ?_;refine at_regionM ?_;refine A1 ?_;refine Gm 1 [1] [] (fun z=>[_,PB g r.2 true,_,gB z.T true]) (c_p_level f g 1 ((p0 s).adv.adv.name.want tWhere) r (Ps.want_good (Ps.name_good hA)) (by decide) (by decide) hr) (fun z=>?_);refine A1 ?_;refine So 0 2 [⟨some g0,39,_,9,true⟩,_,_,_] [_,_,_,_,_,_,_,_,_] ?_;refine A3 ?_;refine at_regionM ?_;refine A2 ?_;refine r_gcallM (A:=[PB g r.2 true]) (C:=[QBr g0 2 (some g1) [(p0 s).adv.adv.tx] 1 z,VBk (some g1) 9 [] [(p0 s).adv.adv.tx] 1,gB z.T false]) [.pointer (some ⟨g,0,none⟩),.func (.func 79) #[] #[.pointer (some ⟨g0,0,none⟩)]] [1] [0,2,3] (fun _=>[_,PB g r.2.endP true,_,_]) rfl rfl rfl rfl (c_p_end_q r.2 g 2 (by decide) (some g1) 9 [(p0 s).adv.adv.tx] 1 1 (by simp) (fun v hv=>by have:=hA.2.2;rw[List.mem_singleton.1 hv];omega) z hf hM g0) (by decide) rfl rfl ⟨⟨_,rfl,le_share⟩,⟨_,rfl,le_share⟩,⟨_,rfl,le_share⟩,trivial⟩ rfl rfl (fun _=>rfl) (fun _=>allOwn rfl) (fun _=>rfl) (fun _=>?_);refine A14 ?_;refine Cd ?_ ?_<;>intro hb3
    ·have hE:r.2.endE (chkQ 2 [(p0 s).adv.adv.tx] r.1)≠0:=by simpa using hb3
     refine A2 ?_;refine r_build [] rfl rfl rfl (bd39_0) ?_;refine A2 ?_;refine So 0 0 [⟨some g0,39,_,9,true⟩,_,_,_] [_,_,_,_,_,_,_,_,_] ?_;refine A6 ?_;refine at_end3 rfl (res_cell 0 rfl rfl ti39 (vs:=[_,_,_,_,_,_,_,_,_]) rfl rfl (Nat.le_of_ble_eq_true rfl) rfl) (res_tmp rfl) (res_tmp rfl) (fun w hL=>⟨((some g1),z),by exact congrArg Ending.returned (pqV_no 2 [(p0 s).adv.adv.tx] (some g1) z hE).symm,hL.pk [some 2,some 3]⟩)
    ·have hE:r.2.endE (chkQ 2 [(p0 s).adv.adv.tx] r.1)=0:=by simpa using hb3
     refine A4 ?_;refine Ld 0 0 [_,_,_,_,_,_,_,_,_] ti39 ?_;refine So 0 0 [⟨some g0,39,_,9,true⟩,_,_,_] [_,_,_,_,_,_,_,_,_] ?_;refine A5 ?_;refine at_end3 rfl (res_cell 0 rfl rfl ti39 (vs:=[_,_,_,_,_,_,_,_,_]) rfl rfl (Nat.le_of_ble_eq_true rfl) rfl) (res_tmp rfl) (res_tmp rfl) (fun w hL=>⟨((some g1),z),by exact congrArg Ending.returned (pqV_yes 2 [(p0 s).adv.adv.tx] (some g1) z hE).symm,hL.pk [some 2,some 3]⟩)
   ·have hiso:(p0 s).adv.is tObjects=false:=hb2;have htko:(p0 s).adv.tk tObjects=(p0 s).adv:=by unfold Ps.tk;rw[hiso];rfl
    rw[htko];refine A1 ?_;refine at_regionM ?_;refine A1 ?_;refine Gm 1 [1] [] (fun _=>[_,PB g ((p0 s).adv.tk tPairs) true]) (c_p_take (p0 s).adv hP.1 tPairs g) (fun _=>?_);refine A3 ?_;refine Cd ?_ ?_<;>intro hb3
    ·have hisp:(p0 s).adv.is tPairs=true:=hb3;have htkp:(p0 s).adv.tk tPairs=(p0 s).adv.adv:=by unfold Ps.tk;rw[hisp];rfl
     rw[htkp];unfold headK at hh;rw[if_neg (by rw[hisv];simp),if_neg (by rw[hiso];simp),if_pos hisp] at hh;cases hh;refine A3 ?_;refine So 0 0 [⟨some g0,39,_,9,true⟩,_] [_,_,_,_,_,_,_,_,_] ?_;refine A3 ?_;refine at_regionM ?_;refine A1 ?_;refine Gm 1 [1] [] (fun _=>[_,PB g ((p0 s).adv.adv.name) true]) (c_p_name ((p0 s).adv.adv) hA.1 g) (fun _=>?_);refine A4 ?_;refine at_regionM ?_;refine A1 ?_;refine Gm 1 [1] [] (fun _=>[_,PB g (((p0 s).adv.adv.name).want tComma) true]) (c_p_want ((p0 s).adv.adv.name) (Ps.name_good hA).1 tComma g) (fun _=>?_);refine A3 ?_;refine at_regionM ?_;refine A2 ?_;refine Gm 1 [1] [] (fun _=>[_,PB g (((p0 s).adv.adv.name.want tComma).name) true]) (c_p_name (((p0 s).adv.adv.name.want tComma)) hC.1 g) (fun _=>?_);refine r_buildSlice [(0,_),(1,_)] (fun g=>[_,_,⟨some g,9,_,2,true⟩]) rfl rfl rfl (bs36_2) rfl (fun _=>rfl) (fun g1=>?_);refine A1 ?_;refine So 0 1 [⟨some g0,39,_,9,true⟩,_,_] [_,_,_,_,_,_,_,_,_] ?_;refine A2 ?_;refine at_regionM ?_;refine A1 ?_;refine Gm 1 [1] [] (fun _=>[_,PB g ((((p0 s).adv.adv.name.want tComma).name).want tWhere) true,_]) (c_p_want (((p0 s).adv.adv.name.want tComma).name) (Ps.name_good hC).1 tWhere g) (fun _=>?_);refine A4 ?_;refine at_regionM ?_;refine A1 ?_;refine Gm 1 [1] [] (fun z=>[_,PB g r.2 true,_,gB z.T true]) (c_p_level f g 1 (((p0 s).adv.adv.name.want tComma).name.want tWhere) r (Ps.want_good (Ps.name_good hC)) (by decide) (by decide) hr) (fun z=>?_);refine A1 ?_;refine So 0 2 [⟨some g0,39,_,9,true⟩,_,_,_] [_,_,_,_,_,_,_,_,_] ?_;refine A3 ?_;refine at_regionM ?_;refine A2 ?_;refine r_gcallM (A:=[PB g r.2 true]) (C:=[QBr g0 3 (some g1) [(p0 s).adv.adv.tx,((p0 s).adv.adv.name.want tComma).tx] 2 z,VBk (some g1) 9 [] [(p0 s).adv.adv.tx,((p0 s).adv.adv.name.want tComma).tx] 2,gB z.T false]) [.pointer (some ⟨g,0,none⟩),.func (.func 79) #[] #[.pointer (some ⟨g0,0,none⟩)]] [1] [0,2,3] (fun _=>[_,PB g r.2.endP true,_,_]) rfl rfl rfl rfl (c_p_end_q r.2 g 3 (by decide) (some g1) 9 [(p0 s).adv.adv.tx,((p0 s).adv.adv.name.want tComma).tx] 2 2 (by simp) (fun v hv=>by have h1:=hA.2.2;have h2:=hC.2.2;simp only[List.mem_cons,List.not_mem_nil,or_false] at hv;rcases hv with rfl|rfl<;>omega) z hf hM g0) (by decide) rfl rfl ⟨⟨_,rfl,le_share⟩,⟨_,rfl,le_share⟩,⟨_,rfl,le_share⟩,trivial⟩ rfl rfl (fun _=>rfl) (fun _=>allOwn rfl) (fun _=>rfl) (fun _=>?_);refine A14 ?_;refine Cd ?_ ?_<;>intro hb4
     ·have hE:r.2.endE (chkQ 3 [(p0 s).adv.adv.tx,((p0 s).adv.adv.name.want tComma).tx] r.1)≠0:=by simpa using hb4
      refine A2 ?_;refine r_build [] rfl rfl rfl (bd39_0) ?_;refine A2 ?_;refine So 0 0 [⟨some g0,39,_,9,true⟩,_,_,_] [_,_,_,_,_,_,_,_,_] ?_;refine A6 ?_;refine at_end3 rfl (res_cell 0 rfl rfl ti39 (vs:=[_,_,_,_,_,_,_,_,_]) rfl rfl (Nat.le_of_ble_eq_true rfl) rfl) (res_tmp rfl) (res_tmp rfl) (fun w hL=>⟨((some g1),z),by exact congrArg Ending.returned (pqV_no 3 [(p0 s).adv.adv.tx,((p0 s).adv.adv.name.want tComma).tx] (some g1) z hE).symm,hL.pk [some 2,some 3]⟩)
     ·have hE:r.2.endE (chkQ 3 [(p0 s).adv.adv.tx,((p0 s).adv.adv.name.want tComma).tx] r.1)=0:=by simpa using hb4
      refine A4 ?_;refine Ld 0 0 [_,_,_,_,_,_,_,_,_] ti39 ?_;refine So 0 0 [⟨some g0,39,_,9,true⟩,_,_,_] [_,_,_,_,_,_,_,_,_] ?_;refine A5 ?_;refine at_end3 rfl (res_cell 0 rfl rfl ti39 (vs:=[_,_,_,_,_,_,_,_,_]) rfl rfl (Nat.le_of_ble_eq_true rfl) rfl) (res_tmp rfl) (res_tmp rfl) (fun w hL=>⟨((some g1),z),by exact congrArg Ending.returned (pqV_yes 3 [(p0 s).adv.adv.tx,((p0 s).adv.adv.name.want tComma).tx] (some g1) z hE).symm,hL.pk [some 2,some 3]⟩)
    ·have hisp:(p0 s).adv.is tPairs=false:=hb3;have htkp:(p0 s).adv.tk tPairs=(p0 s).adv:=by unfold Ps.tk;rw[hisp];rfl
     rw[htkp];unfold headK at hh;rw[if_neg (by rw[hisv];simp),if_neg (by rw[hiso];simp),if_neg (by rw[hisp];simp)] at hh;cases hh;refine at_regionM ?_;refine A1 ?_;refine Gm 1 [1] [] (fun _=>[_,PB g ((p0 s).adv.stop 15) true]) (c_p_stop (p0 s).adv 15 g) (fun _=>?_);refine A4 ?_;refine at_regionM ?_;refine A1 ?_;refine Gm 1 [1] [] (fun z=>[_,PB g r.2 true,gB z.T true]) (c_p_level f g 1 ((p0 s).adv.stop 15) r (Ps.stop_good hP) (by decide) (by decide) hr) (fun z=>?_);refine A1 ?_;refine So 0 2 [⟨some g0,39,_,9,true⟩,_,_] [_,_,_,_,_,_,_,_,_] ?_;refine A3 ?_;refine at_weakL (L':=[_,_,_,⟨none,9,[],0,true⟩]) (Weak.nilB _ (by decide)) ?_;refine at_regionM ?_;refine A2 ?_;refine r_gcallM (A:=[PB g r.2 true]) (C:=[QBr g0 0 none [] 0 z,VBk none 9 [] [] 0,gB z.T false]) [.pointer (some ⟨g,0,none⟩),.func (.func 79) #[] #[.pointer (some ⟨g0,0,none⟩)]] [1] [0,3,2] (fun _=>[_,PB g r.2.endP true,_,_]) rfl rfl rfl rfl (c_p_end_q r.2 g 0 (by decide) none 9 [] 0 0 (by simp) (fun v hv=>by simp at hv) z hf hM g0) (by decide) rfl rfl ⟨⟨_,rfl,le_share⟩,⟨_,rfl,le_share⟩,⟨_,rfl,le_share⟩,trivial⟩ rfl rfl (fun _=>rfl) (fun _=>allOwn rfl) (fun _=>rfl) (fun _=>?_);refine A14 ?_;refine Cd ?_ ?_<;>intro hb4
     ·have hE:r.2.endE (chkQ 0 [] r.1)≠0:=by simpa using hb4
      refine A2 ?_;refine r_build [] rfl rfl rfl (bd39_0) ?_;refine A2 ?_;refine So 0 0 [⟨some g0,39,_,9,true⟩,_,_,_] [_,_,_,_,_,_,_,_,_] ?_;refine A6 ?_;refine at_end3 rfl (res_cell 0 rfl rfl ti39 (vs:=[_,_,_,_,_,_,_,_,_]) rfl rfl (Nat.le_of_ble_eq_true rfl) rfl) (res_tmp rfl) (res_tmp rfl) (fun w hL=>⟨(none,z),by exact congrArg Ending.returned (pqV_no 0 [] none z hE).symm,hL.pk [some 3,some 2]⟩)
     ·have hE:r.2.endE (chkQ 0 [] r.1)=0:=by simpa using hb4
      refine A4 ?_;refine Ld 0 0 [_,_,_,_,_,_,_,_,_] ti39 ?_;refine So 0 0 [⟨some g0,39,_,9,true⟩,_,_,_] [_,_,_,_,_,_,_,_,_] ?_;refine A5 ?_;refine at_end3 rfl (res_cell 0 rfl rfl ti39 (vs:=[_,_,_,_,_,_,_,_,_]) rfl rfl (Nat.le_of_ble_eq_true rfl) rfl) (res_tmp rfl) (res_tmp rfl) (fun w hL=>⟨(none,z),by exact congrArg Ending.returned (pqV_yes 0 [] none z hE).symm,hL.pk [some 3,some 2]⟩)
theorem join_C:∀l:List Bs8,Lib.join l [44,32]=joinC l
 |[]=>rfl
 |[t]=>by simp[Lib.join,joinC]
 |t::u::r=>by
  have ih:=join_C (u::r)
  rw[joinC,←ih]
  simp[Lib.join]
theorem c_Join(g:Nat)(e:Nat)(pre:List Value)(l:List Bs8)(n cap:Nat)(hl0:l≠[])(hll:l.length≤1000000)(hcap:l.length≤cap)(hj:(joinC l).length≤140737488355328):
 SCall Tryz.prog 58 [VBk (some g) e pre l n] [.slice (some ⟨g,pre.length,none⟩) l.length cap,.string (strU [44,32])] Unit (fun _=> .string (strU (joinC l))) (fun _=>[]):=by
 refine⟨by kernel_rfl,fun w hL=>?_⟩
 obtain⟨s0,hs0⟩:∃s,l[0]? =some s:=⟨l[0]'(List.length_pos_iff.2 hl0),List.getElem?_eq_getElem _⟩
 have e1:(l.map strU).map (·.data.toList)=l:=by rw[List.map_map];simp[Function.comp_def,strU]
 have h0:=hL.strs (k:=0) rfl hs0
 have h1:=Tryz.strings_Join g pre.length cap (l.map strU) (strU [44,32]) w (fun j x hx=>by
 rw[List.getElem?_map] at hx
 obtain⟨s,hs,rfl⟩:=Option.map_eq_some_iff.1 hx
 exact hL.strs (k:=0) rfl hs) (by
 rcases Nat.lt_or_ge g w.heap.size with h|h
 ·exact h
 ·simp[World.cell?,Array.getElem?_eq_none h] at h0) (by simp;omega) (by simpa using hcap) (by
 rw[e1];show(Lib.join l [44,32]).length≤_;rw[join_C];exact hj)
 rw[List.length_map] at h1
 refine Calls.mono h1 ?_
 rintro e w' ⟨rfl,hb⟩
 refine⟨(),?_,(LRel.nil w).same hb⟩
 rw[e1]
 show Ending.returned (Value.string ⟨(Lib.join l [44,32]).toArray⟩)=_
 rw[join_C]
 rfl
theorem c_JoinB(b:Option Nat)(e:Nat)(pre:List Value)(l:List Bs8)(n cap:Nat)(hl0:l≠[])(hll:l.length≤1000000)(hcap:l.length≤cap)(hj:(joinC l).length≤140737488355328):
 SCall Tryz.prog 58 [VBk b e pre l n] [.slice (b.map fun g=>⟨g,pre.length,none⟩) l.length cap,.string (strU [44,32])] Unit (fun _=> .string (strU (joinC l))) (fun _=>[]):=by
 cases b with
 |some g=>exact c_Join g e pre l n cap hl0 hll hcap hj
 |none=>
  refine⟨by kernel_rfl,fun w hL=>?_⟩
  have h2:=((hL.blk 0 _ rfl).2 rfl).1
  have h3:=congrArg List.length h2
  rw[List.length_append,SB_length] at h3
  exact absurd (List.eq_nil_of_length_eq_zero (by simp at h3;simp[h3.2])) hl0
def headS(k:Int):Bs8:=if k=1 then[118,97,108,117,101,32] else if k=2 then[111,98,106,101,99,116,115,32] else[112,97,105,114,115,32]
def sWhere:Bs8:=[32,119,104,101,114,101,32]
def headT(k:Int)(l:List Bs8):Bs8:=if l=[] then headS k else headS k++(joinC l++sWhere)
theorem heads_get{k:Int}(h1:1≤k)(h3:k≤3):(([.string ⟨#[]⟩,.string ⟨#[118,97,108,117,101,32]⟩,.string ⟨#[111,98,106,101,99,116,115,32]⟩,.string ⟨#[112,97,105,114,115,32]⟩]:List Value).drop (k.toNat*1)).take 1=[.string (strU (headS k))]:=by
 have h:k=1∨k=2∨k=3:=by omega
 rcases h with rfl|rfl|rfl<;>rfl
theorem chkQ_kind{kind:Int}{l:List Bs8}{x:XT}(h:chkQ kind l x=0):(1≤kind∧kind≤3)∧chkE x=0:=by
 unfold chkQ at h
 split at h
 ·cases h
 rename_i h1
 split at h
 ·cases h
 split at h
 ·cases h
 split at h
 ·cases h
 split at h
 ·rename_i h2;exact absurd h h2
 rename_i h2
 exact⟨by omega,by simpa using h2⟩
noncomputable def prQT(kind:Int)(l:List Bs8)(x:XT):Bs8:=if chkQ kind l x=0 then prT (headT kind l++txt x 1) else[]
noncomputable def prQC(kind:Int)(l:List Bs8)(x:XT):Int:=if chkQ kind l x=0 then prC (headT kind l++txt x 1) else(chkQ kind l x:Nat)
theorem c_Print(kind:Int)(hk: -9223372036854775808≤kind∧kind≤9223372036854775807)(b:Option Nat)(e:Nat)(pre:List Value)(l:List Bs8)(n cap:Nat)(hll:l.length≤1000000)(hvl:∀v∈l,v.length≤1000000)(hcap:l.length≤cap){x:XT}(z:XR x)(m:Int)(hf:x.fit=true)(hM:x.size≤1000000)(hb:chkQ kind l x=0→(headT kind l).length+(txt x 1).length≤17179869184):ECall Tryz.prog 28 [VBk b e pre l n,gB z.T false,GM m] [QV kind b pre l cap z] Unit (fun _=> .tuple #[.string (strU (prQT kind l x)),.int .i64 (prQC kind l x)]) (fun _=>[]):=by
 refine⟨by kernel_rfl,fun B w hD hL0=>?_⟩;refine cB1 33 Tryz.func28 hL0 ?_;refine A2 ?_;refine Bo [_,_,_,_,_,_,_,_,_] 9 (fun g=>[_,_,_,⟨some g,39,_,9,true⟩]) (fun g0=>?_);refine A6 ?_;refine at_regionM ?_;refine Ld 3 0 [_,_,_,_,_,_,_,_,_] ti39 ?_;refine Kr 7 (QV kind b pre l cap z) ?_;refine Gm 0 [] [0,1] (fun _=>[_,_,_,_]) (c_Check kind hk b e pre l n cap hll hvl z hf hM) (fun _=>?_);refine A9 ?_;refine Cd ?_ ?_<;>intro hb0
 ·have kc:chkQ kind l x≠0:=by simpa using hb0
  refine A9 ?_;refine at_end2 rfl (res_tmp rfl) (res_tmp rfl) (fun w hL=>⟨(),by unfold prQT prQC;rw[if_neg kc,if_neg kc];rfl,hL.pk []⟩)
 ·have kc:chkQ kind l x=0:=by simpa using hb0
  have hkk:=chkQ_kind kc;obtain⟨⟨hk1,hk3⟩,_⟩:=id hkk;refine A4 ?_;refine r_build [(1,_),(2,_),(3,_)] rfl rfl rfl (bd79_1_2_3x) ?_;refine r_alloc [_,_,_,_] 4 (fun g=>[_,_,_,_,⟨some g,79,_,4,true⟩]) rfl rfl z79 rfl rfl (fun _=>rfl) (fun g1=>?_);refine So 4 0 [_,_,_,_,⟨some g1,79,_,4,true⟩] [_,_,_,_] ?_;refine A6 ?_;refine r_indexAddrA (kind.toNat*1) u79 ti9 rfl rfl rfl rfl (by omega) (by omega) (by show 0+Int.toNat _*1=_;omega) ?_;refine r_load (v:= .string (strU (headS kind))) 4 (kind.toNat*1) _ rfl rfl rfl rfl ti9 (heads_get hk1 hk3) rfl (by decide) rfl ?_;refine A12 ?_;refine Cd ?_ ?_<;>intro hb1
  ·have hl0:l≠[]:=fun e=>by have:=of_decide_eq_true hb1;rw[e] at this;simp at this
   have hT:headT kind l=headS kind++(joinC l++sWhere):=if_neg hl0;have hjb0:=hb kc;rw[hT] at hjb0;simp only[List.length_append] at hjb0;have hjb:(joinC l).length≤140737488355328:=(by omega);refine at_regionM ?_;refine A3 ?_;refine r_scall0 [slv b pre.length l.length cap,.string (strU [44,32])] [0] rfl rfl rfl (c_JoinB b e pre l n cap hl0 hll hcap hjb) ⟨⟨_,rfl,Blk.le_refl _⟩,trivial⟩ rfl ?_;refine r_addS (p:=joinC l) (q:=sWhere) rfl rfl rfl rfl rfl rfl rfl (by omega) ?_;refine r_addS (p:=headS kind) (q:=joinC l++sWhere) rfl rfl rfl rfl rfl rfl rfl (by rw[List.length_append];omega) ?_;refine A4 ?_;refine at_regionM ?_;refine A2 ?_;refine Ld 3 2 [_,_,_,_,_,_,_] ti30 ?_;refine Kr 29 (z.v) ?_;refine Gm 0 [] [1,2] (fun _=>[_,_,_,_,_]) (c_printed z m (chk_ok x 1 0 hkk.2) hf (by omega) (headS kind++(joinC l++sWhere)) (by rw[←hT];exact hb kc)) (fun _=>?_);refine A7 ?_;refine at_end2 rfl (res_tmp rfl) (res_tmp rfl) (fun w hL=>⟨(),by unfold prQT prQC;rw[if_pos kc,if_pos kc,hT],hL.pk []⟩)
  ·have hl0:l=[]:=List.eq_nil_of_length_eq_zero (by have:=of_decide_eq_false hb1;omega);have hT:headT kind l=headS kind:=if_pos hl0;refine A3 ?_;refine at_regionM ?_;refine A2 ?_;refine Ld 3 2 [_,_,_,_,_,_,_] ti30 ?_;refine Kr 29 (z.v) ?_;refine Gm 0 [] [1,2] (fun _=>[_,_,_,_,_]) (c_printed z m (chk_ok x 1 0 hkk.2) hf (by omega) (headS kind) (by rw[←hT];exact hb kc)) (fun _=>?_);refine A7 ?_;refine at_end2 rfl (res_tmp rfl) (res_tmp rfl) (fun w hL=>⟨(),by unfold prQT prQC;rw[if_pos kc,if_pos kc,hT],hL.pk []⟩)
theorem c_Size{x:XT}(z:XR x)(hM:x.size≤1000000000):ECall Tryz.prog 20 [gB z.T false] [z.v] Unit (fun _=> .int .i64 (foldN (fun _ lv n=>n+1) x 1 0:Nat)) (fun _=>[]):=by
 refine⟨by kernel_rfl,fun B w hD hL0=>?_⟩;refine cB1 8 Tryz.func20 hL0 ?_;refine A2 ?_;refine Bo [_,_,_,_,_,_,_] 7 (fun g=>[_,⟨some g,30,_,7,true⟩]) (fun g0=>?_);refine A5 ?_;refine r_alloc [_] 1 (fun g=>[_,_,⟨some g,3,_,1,true⟩]) rfl rfl z3 rfl rfl (fun _=>rfl) (fun g1=>?_);refine So 2 0 [_,_,⟨some g1,3,_,1,true⟩] [_] ?_;refine A3 ?_;refine at_regionM ?_;refine Ld 1 0 [_,_,_,_,_,_,_] ti30 ?_;refine Kr 4 (z.v) ?_;refine A1 ?_;refine r_gcallM (A:=[VN g1 0]) (C:=[gB z.T false]) [z.v,.int .i64 (1:Nat),.func (.func 52) #[] #[.pointer (some ⟨g1,0,none⟩)]] [2] [0] (fun _=>[_,_,VN g1 (foldN (fun _ lv n=>n+1) x 1 0)]) rfl rfl rfl rfl (c_each 52 (fun _ lv n=>n+1) (fun _ lv n=>by omega) g1 (fun u lv n h h2=>c_Size_1 u lv n g1 h h2) x z 1 0 (by omega)) (by decide) rfl rfl ⟨⟨_,rfl,Blk.le_refl _⟩,trivial⟩ rfl rfl (fun _=>rfl) (fun _=>allOwn rfl) (fun _=>rfl) (fun _=>?_);refine A9 ?_;refine E1 fun w hL=>⟨(),rfl,hL.pk []⟩
theorem c_Depth{x:XT}(z:XR x)(hM:x.size≤1000000000):ECall Tryz.prog 22 [gB z.T false] [z.v] Unit (fun _=> .int .i64 (foldN (fun _ lv n=>max n lv) x 1 0:Nat)) (fun _=>[]):=by
 refine⟨by kernel_rfl,fun B w hD hL0=>?_⟩;refine cB1 8 Tryz.func22 hL0 ?_;refine A2 ?_;refine Bo [_,_,_,_,_,_,_] 7 (fun g=>[_,⟨some g,30,_,7,true⟩]) (fun g0=>?_);refine A5 ?_;refine r_alloc [_] 1 (fun g=>[_,_,⟨some g,3,_,1,true⟩]) rfl rfl z3 rfl rfl (fun _=>rfl) (fun g1=>?_);refine So 2 0 [_,_,⟨some g1,3,_,1,true⟩] [_] ?_;refine A3 ?_;refine at_regionM ?_;refine Ld 1 0 [_,_,_,_,_,_,_] ti30 ?_;refine Kr 4 (z.v) ?_;refine A1 ?_;refine r_gcallM (A:=[VN g1 0]) (C:=[gB z.T false]) [z.v,.int .i64 (1:Nat),.func (.func 53) #[] #[.pointer (some ⟨g1,0,none⟩)]] [2] [0] (fun _=>[_,_,VN g1 (foldN (fun _ lv n=>max n lv) x 1 0)]) rfl rfl rfl rfl (c_each 53 (fun _ lv n=>max n lv) (fun _ lv n=>by omega) g1 (fun u lv n h h2=>c_Depth_1 u lv n g1 h h2) x z 1 0 (by omega)) (by decide) rfl rfl ⟨⟨_,rfl,Blk.le_refl _⟩,trivial⟩ rfl rfl (fun _=>rfl) (fun _=>allOwn rfl) (fun _=>rfl) (fun _=>?_);refine A9 ?_;refine E1 fun w hL=>⟨(),rfl,hL.pk []⟩
def kS:Bs8:=[111,98,106,101,99,116,115,32,99,32,119,104,101,114,101,32,115,111,109,101,116,105,109,101,40,105,110,115,105,100,101,40,99,44,32,122,111,110,101,40,34,110,111,114,116,104,34,41,41,32,97,110,100,32,119,105,116,104,105,110,40,99,44,32,111,98,106,101,99,116,40,51,41,44,32,53,48,41,41]
def kq:Ps:=(p0 kS).adv.adv.name.want tWhere
def kT:XT:= .node 26 [.node 23 [.node 16 [.named 4 [99],.named 5 [110,111,114,116,104]],.node 15 [.named 4 [99],.numd 3 3,.numd 1 50]]]
def kP:Ps:=⟨kS,79,0,79,[],0,0,false⟩
theorem k_head:headK (p0 kS).adv=(2,[[99]],kq):=by kernel_rfl
theorem k_lev:lev 60 1 kq=some (kT,kP):=by kernel_rfl
theorem k_fit:kT.fit=true:=by decide+kernel
theorem k_size:kT.size=9:=by kernel_rfl
theorem k_end(e:Nat):kP.endE e=e:=rfl
theorem k_txt:txt kT 1=kS.drop 16:=by kernel_rfl
theorem k_sz:foldN (fun _ lv n=>n+1) kT 1 0=9:=by kernel_rfl
theorem k_dp:foldN (fun _ lv n=>max n lv) kT 1 0=4:=by kernel_rfl
theorem k_chkE:chkE kT=0:=by kernel_rfl
theorem k_varsL:varsL kT=[[99],[99]]:=by kernel_rfl
theorem k_vars:varsU kT=[[99]]:=by
 unfold varsU
 rw[k_varsL]
 unfold sortL
 simp[List.mergeSort,Lib.compact]
 try rfl
theorem k_chkQ:chkQ 2 [[99]] kT=0:=by
 unfold chkQ
 rw[if_neg (by decide),if_neg (by decide),if_neg (by decide+kernel),if_neg (by decide),if_neg (by rw[k_chkE];simp),if_neg (by rw[k_vars];decide)]
theorem k_E:kP.endE (chkQ 2 [[99]] kT)=0:=by rw[k_end,k_chkQ]
theorem k_prT:prQT 2 [[99]] kT=kS:=by
 unfold prQT
 rw[if_pos k_chkQ,k_txt]
 kernel_rfl
theorem k_prC:prQC 2 [[99]] kT=0:=by
 unfold prQC
 rw[if_pos k_chkQ,k_txt]
 kernel_rfl
theorem c_Parse_k:ECall Tryz.prog 42 [] [.string (strU kS)] (Option Nat×XR kT) (fun z=> .tuple #[QV 2 z.1 [] [[99]] 1 z.2,.int .i64 0,.int .i64 0]) (fun z=>[⟨z.1,9,SB [[99]],1,true⟩,gB z.2.T true]):=by
 have h:=c_Parse_ok kS (by decide) 2 [[99]] kq k_head 60 (kT,kP) k_lev k_fit (by rw[show(kT,kP).1=kT from rfl,k_size];decide)
 have e:(fun z:Option Nat×XR kT=>pqV 2 [[99]] (kT,kP) z.1 z.2)=(fun z=> .tuple #[QV 2 z.1 [] [[99]] 1 z.2,.int .i64 0,.int .i64 0]):=funext fun z=>pqV_yes 2 [[99]] (r:=(kT,kP)) z.1 z.2 k_E
 exact e▸h
theorem c_Print_k(b:Option Nat)(z:XR kT)(m:Int):ECall Tryz.prog 28 [VBk b 9 [] [[99]] 1,gB z.T false,GM m] [QV 2 b [] [[99]] 1 z] Unit (fun _=> .tuple #[.string (strU kS),.int .i64 0]) (fun _=>[]):=by
 have h:=c_Print 2 (by decide) b 9 [] [[99]] 1 1 (by simp) (fun v hv=>by rw[List.mem_singleton.1 hv];simp) (by simp) z m k_fit (by rw[k_size];decide) (fun _=>by rw[k_txt];decide+kernel)
 rw[k_prT,k_prC] at h
 exact h
theorem c_Variables_k(z:XR kT):ECall Tryz.prog 25 [gB z.T false] [z.v] (SRw [[99]]) (fun s=>slv s.b 0 1 s.cap) (fun s=>[VR s]):=by
 have h:=c_Variables z (by rw[k_size];decide)
 rw[k_vars] at h
 exact h
theorem c_Size_k(z:XR kT):ECall Tryz.prog 20 [gB z.T false] [z.v] Unit (fun _=> .int .i64 9) (fun _=>[]):=by
 have h:=c_Size z (by rw[k_size];decide)
 rw[k_sz] at h
 exact h
theorem c_Depth_k(z:XR kT):ECall Tryz.prog 22 [gB z.T false] [z.v] Unit (fun _=> .int .i64 4) (fun _=>[]):=by
 have h:=c_Depth z (by rw[k_size];decide)
 rw[k_dp] at h
 exact h
theorem c_known(m:Int):ECall Tryz.prog 12 [GM m] [] Unit (fun _=> .bool true) (fun _=>[]):=by
 refine⟨by kernel_rfl,fun B w hD hL0=>?_⟩;refine cB0 65 Tryz.func12 hL0 ?_;refine A11 ?_;refine at_regionM ?_;refine A1 ?_;refine Gm 0 [] [] (fun(z:Option Nat×XR kT)=>[_,⟨z.1,9,SB [[99]],1,true⟩,gB z.2.T true]) c_Parse_k (fun⟨b,z⟩=>?_);refine A4 ?_;refine r_alloc [_,_,_,_,_,_,_,_,_] 9 (fun g=>[_,_,_,⟨some g,39,_,9,true⟩]) rfl rfl z39 rfl rfl (fun _=>rfl) (fun g0=>?_);refine So 3 0 [_,_,_,⟨some g0,39,_,9,true⟩] [_,_,_,_,_,_,_,_,_] ?_;refine A5 ?_;refine at_regionM ?_;refine Ld 3 0 [_,_,_,_,_,_,_,_,_] ti39 ?_;refine Kr 15 (QV 2 b [] [[99]] 1 z) ?_;refine r_gcallM (A:=[]) (C:=[VBk b 9 [] [[99]] 1,gB z.T false,GM m]) [QV 2 b [] [[99]] 1 z] [] [1,2,0] (fun _=>[_,_,_,_]) rfl rfl rfl rfl (c_Print_k b z m) (by decide) rfl rfl ⟨⟨_,rfl,le_share⟩,⟨_,rfl,le_share⟩,⟨_,rfl,Blk.le_refl _⟩,trivial⟩ rfl rfl (fun _=>rfl) (fun _=>allOwn rfl) (fun _=>rfl) (fun _=>?_);refine A8 ?_;refine at_regionM ?_;refine A1 ?_;refine Ld 3 2 [_,_,_,_,_,_,_] ti30 ?_;refine Kr 20 (z.v) ?_;refine r_gcallM (A:=[]) (C:=[gB z.T false]) [z.v] [] [2] (fun s=>[_,_,_,_,VR s]) rfl rfl rfl rfl (c_Variables_k z) (by decide) rfl rfl ⟨⟨_,rfl,le_share⟩,trivial⟩ rfl rfl (fun _=>rfl) (fun _=>allOwn rfl) (fun _=>rfl) (fun s=>?_);refine A4 ?_;refine at_regionM ?_;refine A3 ?_;refine Rs 24 ?_ ?_<;>intro hb0
 ·refine A4 ?_;refine Rs 28 ?_ ?_<;>intro hb1
  ·refine A5 ?_;refine Rs 33 ?_ ?_<;>intro hb2
   ·refine A4 ?_;refine Rs 37 ?_ ?_<;>intro hb3
    ·refine A5 ?_;refine Rs 42 ?_ ?_<;>intro hb4
     ·refine A5 ?_;refine Rs 47 ?_ ?_<;>intro hb5
      ·refine A1 ?_;refine r_indexAddr 4 (0*1) u36 ti9 rfl rfl rfl rfl rfl (by decide) (by decide) (SB_ne (by decide)) (by show 0+Int.toNat _*1=_;rfl) ?_;refine r_load (v:= .string (strU [99])) 4 (0*1) _ rfl rfl rfl rfl ti9 (SB_get rfl) rfl (by decide) rfl ?_;refine A3 ?_;refine Rs 53 ?_ ?_<;>intro hb6
       ·refine A1 ?_;refine Ld 3 2 [_,_,_,_,_,_,_] ti30 ?_;refine Kr 55 (z.v) ?_;refine r_gcallM (A:=[]) (C:=[gB z.T false]) [z.v] [] [2] (fun _=>[_,_,_,_,_]) rfl rfl rfl rfl (c_Size_k z) (by decide) rfl rfl ⟨⟨_,rfl,le_share⟩,trivial⟩ rfl rfl (fun _=>rfl) (fun _=>allOwn rfl) (fun _=>rfl) (fun _=>?_);refine A3 ?_;refine Rs 59 ?_ ?_<;>intro hb7
        ·refine A1 ?_;refine Ld 3 2 [_,_,_,_,_,_,_] ti30 ?_;refine Kr 61 (z.v) ?_;refine r_gcallM (A:=[]) (C:=[gB z.T false]) [z.v] [] [2] (fun _=>[_,_,_,_,_]) rfl rfl rfl rfl (c_Depth_k z) (by decide) rfl rfl ⟨⟨_,rfl,le_share⟩,trivial⟩ rfl rfl (fun _=>rfl) (fun _=>allOwn rfl) (fun _=>rfl) (fun _=>?_);refine A6 ?_;refine E1 fun w hL=>⟨(),rfl,hL.pk []⟩
        ·exact absurd hb7 (by first|decide|simp)
       ·exact absurd hb6 (by first|decide|simp)
      ·exact absurd hb5 (by first|decide|simp)
     ·exact absurd hb4 (by first|decide|simp)
    ·exact absurd hb3 (by first|decide|simp)
   ·exact absurd hb2 (by first|decide|simp)
  ·exact absurd hb1 (by first|decide|simp)
 ·exact absurd hb0 (by first|decide|simp)
theorem c_SyntaxReturns0(m:Int)(l:Bs8)(n:Nat)(hn:n<256):ECall Tryz.prog 11 [GM m] [.string (strU l),.int .u8 (n:Nat)] Unit (fun _=> .bool true) (fun _=>[]):=by
 refine⟨by kernel_rfl,fun B w hD hL0=>?_⟩;refine cB2 81 Tryz.func11 hL0 ?_;refine A7 ?_;refine at_regionM ?_;refine Gm 0 [] [0] (fun _=>[_]) (c_known m) (fun _=>?_);refine A1 ?_;refine Kr 18 (.bool false) ?_;refine A3 ?_;refine r_know 21 (.int .i64 (l.length:Nat)) rfl (by rw[strU_size]) ?_;refine A4 ?_;refine Cd ?_ ?_<;>intro hb0
 ·refine A1 ?_;refine at_regionM ?_;refine Gm 0 [] [0] (fun _=>[_]) (c_known m) (fun _=>?_);refine A5 ?_;refine E1 fun w hL=>⟨(),rfl,hL.pk []⟩
 ·have hl:l.length≤300:=by have:=of_decide_eq_false hb0;omega
  refine A3 ?_;obtain⟨f,x,r,hlev⟩:=lev_total (s:=l) (by omega);have hfit:=((read_sane f).1 1 _ x r (p0_sane (by omega)) hlev).1;refine at_regionM ?_;refine A1 ?_;refine Gm 0 [] [] (fun z=>[_,gB z.T true]) (c_ParseExpr_any (by omega) hlev) (fun z=>?_);refine A4 ?_;refine r_alloc [_,_,_,_,_,_,_] 7 (fun g=>[_,_,⟨some g,30,_,7,true⟩]) rfl rfl z30 rfl rfl (fun _=>rfl) (fun g0=>?_);refine So 2 0 [_,_,⟨some g0,30,_,7,true⟩] [_,_,_,_,_,_,_] ?_;refine A11 ?_;refine Cd ?_ ?_<;>intro hb1
  ·refine A7 ?_;refine E1 fun w hL=>⟨(),rfl,hL.pk []⟩
  ·have hE:r.endE (chkE x)=0:=by have hh:=hb1;simpa using hh
   obtain⟨h0,hok,hqx,hr1,hr2,hlt,hsz⟩:=ret_facts hl hlev hE;refine A3 ?_;refine at_regionM ?_;refine Ld 2 0 [_,_,_,_,_,_,_] ti30 ?_;refine r_know 34 (z.v) rfl (by simp only[if_pos hE];rfl) ?_;refine r_gcallM (A:=[]) (C:=[gB z.T false,GM m]) [z.v] [] [1,0] (fun _=>[_,_,_]) rfl rfl rfl rfl (c_PrintExpr_good z m hfit h0 hlt) (by decide) rfl rfl ⟨⟨_,rfl,le_share⟩,⟨_,rfl,Blk.le_refl _⟩,trivial⟩ rfl rfl (fun _=>rfl) (fun _=>allOwn rfl) (fun _=>rfl) (fun _=>?_);refine A8 ?_;refine at_regionM ?_;refine A1 ?_;refine Gm 0 [] [] (fun u=>[_,_,_,gB u.T true]) (c_ParseExpr_good hlt (reads_txt hok hqx) h0 hfit) (fun u=>?_);refine A4 ?_;refine r_alloc [_,_,_,_,_,_,_] 7 (fun g=>[_,_,_,_,⟨some g,30,_,7,true⟩]) rfl rfl z30 rfl rfl (fun _=>rfl) (fun g1=>?_);refine So 4 0 [_,_,_,_,⟨some g1,30,_,7,true⟩] [_,_,_,_,_,_,_] ?_;refine A7 ?_;refine r_div (r:=((n%10:Nat):Int)) rfl rfl rfl rfl (by omega) (congrArg some (rem_n _ _ rfl rfl)) ?_;refine r_sliceTo (s:=[32,32,32,32,32,32,32,32,32,32]) (j:=n%10) u9 rfl rfl rfl rfl (by simp only[List.length_cons,List.length_nil];omega) rfl ?_;refine A4 ?_;obtain⟨g,hgd⟩:∃g,g=([32,32,32,32,32,32,32,32,32,32]:Bs8).take (n%10):=⟨_,rfl⟩;have hg:∀c∈g,c=32:=fun c hc=>by
    rw[hgd] at hc;have:=List.mem_of_mem_take hc;simpa using this
   have hgl:g.length≤9:=by
    rw[hgd,List.length_take];omega
   rw[←hgd];refine at_regionM ?_;refine A1 ?_;refine r_addS (p:=g) (q:=[40]) rfl rfl rfl rfl rfl rfl rfl (by simp only[List.length_append,List.length_cons,List.length_nil];omega) ?_;refine A1 ?_;refine r_addS (p:=g++[40]) (q:=g) rfl rfl rfl rfl rfl rfl rfl (by simp only[List.length_append,List.length_cons,List.length_nil];omega) ?_;refine A1 ?_;refine r_addS (p:=g++[40]++g) (q:=l) rfl rfl rfl rfl rfl rfl rfl (by simp only[List.length_append,List.length_cons,List.length_nil];omega) ?_;refine A1 ?_;refine r_addS (p:=g++[40]++g++l) (q:=g) rfl rfl rfl rfl rfl rfl rfl (by simp only[List.length_append,List.length_cons,List.length_nil];omega) ?_;refine r_addS (p:=g++[40]++g++l++g) (q:=[41,10]) rfl rfl rfl rfl rfl rfl rfl (by simp only[List.length_append,List.length_cons,List.length_nil];omega) ?_;refine Gm 0 [] [] (fun y=>[_,_,_,_,_,gB y.T true]) (c_ParseExpr_good (by simp only[List.length_append,List.length_cons,List.length_nil];omega) (reads_wrap hlev hr1 hr2 hg) h0 hfit) (fun y=>?_);refine A4 ?_;refine r_alloc [_,_,_,_,_,_,_] 7 (fun g=>[_,_,_,_,_,_,⟨some g,30,_,7,true⟩]) rfl rfl z30 rfl rfl (fun _=>rfl) (fun g2=>?_);refine So 6 0 [_,_,_,_,_,_,⟨some g2,30,_,7,true⟩] [_,_,_,_,_,_,_] ?_;refine A5 ?_;refine at_regionM ?_;refine A2 ?_;refine r_know 62 (.bool true) rfl (congrArg Value.bool (beq_self_eq_true _)) ?_;refine A3 ?_;refine r_know 65 (.bool true) rfl (congrArg Value.bool (beq_self_eq_true _)) ?_;refine A4 ?_;refine r_know 69 (.bool true) rfl (congrArg Value.bool (beq_self_eq_true _)) ?_;refine A2 ?_;refine Ld 2 0 [_,_,_,_,_,_,_] ti30 ?_;refine r_know 72 (z.v) rfl (by simp only[if_pos hE];rfl) ?_;refine Ld 4 0 [_,_,_,_,_,_,_] ti30 ?_;refine Kr 73 (u.v) ?_;refine r_scall0 [z.v,u.v] [1,3] rfl rfl rfl (ECall.toS (c_EqualExpr x x z u (by omega))) ⟨⟨_,rfl,le_share⟩,⟨_,rfl,le_share⟩,trivial⟩ rfl ?_;refine r_know 74 (.bool true) rfl (congrArg Value.bool (sameX_refl x)) ?_;refine A2 ?_;refine Ld 2 0 [_,_,_,_,_,_,_] ti30 ?_;refine r_know 77 (z.v) rfl (by simp only[if_pos hE];rfl) ?_;refine Ld 6 0 [_,_,_,_,_,_,_] ti30 ?_;refine Kr 78 (y.v) ?_;refine r_scall0 [z.v,y.v] [1,5] rfl rfl rfl (ECall.toS (c_EqualExpr x x z y (by omega))) ⟨⟨_,rfl,le_share⟩,⟨_,rfl,le_share⟩,trivial⟩ rfl ?_;refine r_know 79 (.bool true) rfl (congrArg Value.bool (sameX_refl x)) ?_;refine A5 ?_;refine E1 fun w hL=>⟨(),rfl,hL.pk []⟩
theorem c_SyntaxReturns(m:Int)(l:Bs8)(n:Int)(h:(Lit.int .u8 n).wf=true):ECall Tryz.prog 11 [GM m] [.string (strU l),.int .u8 n] Unit (fun _=> .bool true) (fun _=>[]):=by
 simp only[Lit.wf,Bool.and_eq_true,decide_eq_true_eq] at h
 have h1:IntKind.u8.min=0:=rfl
 have h2:IntKind.u8.max=255:=rfl
 obtain⟨k,rfl⟩:∃k:Nat,n=(k:Nat):=⟨n.toNat,by omega⟩
 exact c_SyntaxReturns0 m l k (by omega)
end Go.Proofs.YtfijbadahkmhbaaGreatDoor
