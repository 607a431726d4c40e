/-
  Part 9 (chapter 43): lemmas, walks. Each theorem states its own conditions.
-/
import Derived.Test.YtfijbadahkmhbaaGreatDoorA04
import Derived.Test.YtfijbadahkmhbaaGreatDoorA08
set_option linter.unusedVariables false
set_option linter.unusedSimpArgs false
set_option maxRecDepth 20000
set_option maxHeartbeats 20000000
namespace Go.Proofs.YtfijbadahkmhbaaGreatDoor
open Go Go.RowKit Go.Via
theorem c_rational_Parse1(a:Bs8)(ha:a.all isDig=true)(ha0:a≠[])(hn:(a).length≤4096):PCall Tryz.prog 157 #[.string (strU (a))] (ratV (a)):=by
 refine⟨by kernel_rfl,fun w=>?_⟩;refine cB1 55 Tryz.func157 (LRel.nil w) ?_;refine A2 ?_;refine r_alloc [_,_,_,_] 4 (fun g=>[⟨some g,27,_,4,true⟩]) rfl rfl z27 rfl rfl (fun _=>rfl) (fun g0=>?_);refine A8 ?_;refine r_know 14 (.int .i64 ((a).length:Nat)) rfl (by rw[strU_size]) ?_;refine A3 ?_;refine Cd ?_ ?_<;>intro hb0
 ·exfalso;have:=of_decide_eq_true hb0;omega
 ·refine A5 ?_;refine Pc (c_strings_CutPrefix1 a 45) ?_;refine A2 ?_;refine r_know 20 (.string (strU (a))) rfl (by rw[trim_no (by have:=noMinus1 ha ha0 [];rwa [List.append_nil] at this)]) ?_;refine A1 ?_;refine r_know 21 (.bool false) rfl (by have:=noMinus1 ha ha0 [];rw[List.append_nil] at this;rw[this]) ?_;refine A7 ?_;refine Pc (c_strings_Cut1 a 47 (by omega)) ?_;refine A2 ?_;refine r_know 25 (.string (strU a)) rfl (by rw[cutB_no (dig_no47 ha)]) ?_;refine A1 ?_;refine r_know 26 (.string (strU [])) rfl (by rw[cutB_no (dig_no47 ha)]) ?_;refine A1 ?_;refine r_know 27 (.bool false) rfl (by rw[cutB_no (dig_no47 ha)]) ?_;refine A8 ?_;refine Pc (c_rational_digits a ha (by omega)) ?_;refine A3 ?_;refine r_know 32 (.bool true) rfl (by rw[ne_nil8 ha0]) ?_;refine r_alloc [_,_] 2 (fun g=>[_,⟨some g,25,_,2,true⟩]) rfl rfl z25 rfl rfl (fun _=>rfl) (fun g1=>?_);refine So 1 0 [_,⟨some g1,25,_,2,true⟩] [_,_] ?_;refine A5 ?_;refine Pc (c_rational_one) ?_;refine r_alloc [_,_] 2 (fun g=>[_,_,⟨some g,25,_,2,true⟩]) rfl rfl z25 rfl rfl (fun _=>rfl) (fun g2=>?_);refine So 2 0 [_,_,⟨some g2,25,_,2,true⟩] [_,_] ?_;refine A37 ?_;refine Ld 1 0 [_,_] ti25 ?_;refine r_know 50 (I ((decN a:Nat):Int)) rfl rfl ?_;refine Ld 2 0 [_,_] ti25 ?_;refine Kr 51 (I 1) ?_;refine Pc (c_rational_Make ((decN a:Nat):Int) 1 (Nat.le_trans (dec_sz ha) (by omega)) (Nat.le_trans (nb_le (k:=1) (by decide)) (by decide))) ?_;refine A2 ?_;refine So 0 0 [⟨some g0,27,_,4,true⟩,_,_] [_,_,_,_] ?_;refine A4 ?_;refine at_end2 rfl (res_cell 0 rfl rfl ti27 (vs:=[_,_,_,_]) rfl rfl (Nat.le_of_ble_eq_true rfl) rfl) (res_tmp rfl) (fun w hL=>⟨?_,hL.below⟩);exact congrArg Ending.returned (ratV_1 ha)
theorem c_rational_Parse2(a:Bs8)(ha:a.all isDig=true)(ha0:a≠[])(b:Bs8)(hb:b.all isDig=true)(hbn:b≠[])(hn:(a++47::b).length≤4096):PCall Tryz.prog 157 #[.string (strU (a++47::b))] (ratV (a++47::b)):=by
 have hlen:(a++47::b).length=a.length+(b.length+1):=(by simp);refine⟨by kernel_rfl,fun w=>?_⟩;refine cB1 55 Tryz.func157 (LRel.nil w) ?_;refine A2 ?_;refine r_alloc [_,_,_,_] 4 (fun g=>[⟨some g,27,_,4,true⟩]) rfl rfl z27 rfl rfl (fun _=>rfl) (fun g0=>?_);refine A8 ?_;refine r_know 14 (.int .i64 ((a++47::b).length:Nat)) rfl (by rw[strU_size]) ?_;refine A3 ?_;refine Cd ?_ ?_<;>intro hb0
 ·exfalso;have:=of_decide_eq_true hb0;omega
 ·refine A5 ?_;refine Pc (c_strings_CutPrefix1 (a++47::b) 45) ?_;refine A2 ?_;refine r_know 20 (.string (strU (a++47::b))) rfl (by rw[trim_no (noMinus1 ha ha0 _)]) ?_;refine A1 ?_;refine r_know 21 (.bool false) rfl (by rw[noMinus1 ha ha0 _]) ?_;refine A7 ?_;refine Pc (c_strings_Cut1 (a++47::b) 47 (by omega)) ?_;refine A2 ?_;refine r_know 25 (.string (strU a)) rfl (by rw[cutB_app (dig_no47 ha)]) ?_;refine A1 ?_;refine r_know 26 (.string (strU b)) rfl (by rw[cutB_app (dig_no47 ha)]) ?_;refine A1 ?_;refine r_know 27 (.bool true) rfl (by rw[cutB_app (dig_no47 ha)]) ?_;refine A8 ?_;refine Pc (c_rational_digits a ha (by omega)) ?_;refine A3 ?_;refine r_know 32 (.bool true) rfl (by rw[ne_nil8 ha0]) ?_;refine r_alloc [_,_] 2 (fun g=>[_,⟨some g,25,_,2,true⟩]) rfl rfl z25 rfl rfl (fun _=>rfl) (fun g1=>?_);refine So 1 0 [_,⟨some g1,25,_,2,true⟩] [_,_] ?_;refine A5 ?_;refine Pc (c_rational_one) ?_;refine r_alloc [_,_] 2 (fun g=>[_,_,⟨some g,25,_,2,true⟩]) rfl rfl z25 rfl rfl (fun _=>rfl) (fun g2=>?_);refine So 2 0 [_,_,⟨some g2,25,_,2,true⟩] [_,_] ?_;refine A12 ?_;refine Pc (c_rational_digits b hb (by omega)) ?_;refine A3 ?_;refine r_know 39 (.bool true) rfl (by rw[ne_nil8 hbn]) ?_;refine So 2 0 [_,_,⟨some g2,25,_,2,true⟩] [_,_] ?_;refine A28 ?_;refine Ld 1 0 [_,_] ti25 ?_;refine r_know 50 (I ((decN a:Nat):Int)) rfl rfl ?_;refine Ld 2 0 [_,_] ti25 ?_;refine r_know 51 (I ((decN b:Nat):Int)) rfl rfl ?_;refine Pc (c_rational_Make ((decN a:Nat):Int) ((decN b:Nat):Int) (Nat.le_trans (dec_sz ha) (by omega)) (Nat.le_trans (dec_sz hb) (by omega))) ?_;refine A2 ?_;refine So 0 0 [⟨some g0,27,_,4,true⟩,_,_] [_,_,_,_] ?_;refine A4 ?_;refine at_end2 rfl (res_cell 0 rfl rfl ti27 (vs:=[_,_,_,_]) rfl rfl (Nat.le_of_ble_eq_true rfl) rfl) (res_tmp rfl) (fun w hL=>⟨?_,hL.below⟩);exact congrArg Ending.returned (ratV_2 ha)
theorem c_rational_Parse(t:Bs8)(h:numT t=true)(hn:t.length≤4096):PCall Tryz.prog 157 #[.string (strU t)] (ratV t):=by
 rcases numT_cases h with⟨h1,h2⟩|⟨a,b,rfl,h1,h2,h3,h4⟩
 ·exact c_rational_Parse1 t h2 h1 hn
 ·exact c_rational_Parse2 a h2 h1 b h4 h3 hn
theorem c_rational_ParseN(t:Bs8)(h:numT t=true)(hn:t.length≤4096)(hr:ratTok t=none):PCall Tryz.prog 157 #[.string (strU t)] (.tuple #[Q 0,.int .i64 6]):=by
 have:=c_rational_Parse t h hn
 unfold ratV at this
 rwa [hr] at this
theorem c_rational_ParseS(t:Bs8)(h:numT t=true)(hn:t.length≤4096){q:Rat}(hr:ratTok t=some q):PCall Tryz.prog 157 #[.string (strU t)] (.tuple #[Q q,.int .i64 0]):=by
 have:=c_rational_Parse t h hn
 unfold ratV at this
 rwa [hr] at this
end Go.Proofs.YtfijbadahkmhbaaGreatDoor
namespace Go.Via
open Go Go.RowKit
def XT.leaf(x:XT):Value:= .agg (xcells x.op x.name x.num none 0 0).toArray
theorem q0_cells:(NumV.q 0).cells=[.bool false,.string ⟨#[]⟩,.bool false,.string ⟨#[]⟩]:=by
 have h:=Q_zero
 unfold Q at h
 simp only[Value.agg.injEq,Array.mk.injEq,List.cons.injEq,and_true] at h
 show[Value.bool (decide ((0:Rat).num<0)),.string (mag (0:Rat).num.natAbs),.bool false,.string (dm 0)]=_
 rw[h.1,h.2.1,h.2.2.2]
theorem xc_zero(op:Int)(nm:Bs8)(a:Option Addr)(n cap:Nat):xcells op nm (.q 0) a n cap=[.int .i64 op,.string (strU nm),.bool false,.string ⟨#[]⟩,.bool false,.string ⟨#[]⟩,.slice a n cap]:=by
 unfold xcells
 rw[q0_cells]
 rfl
theorem leaf_named(op:Nat)(n:Bs8):(XT.named op n).leaf= .agg #[.int .i64 (op:Nat),.string (strU n),.bool false,.string ⟨#[]⟩,.bool false,.string ⟨#[]⟩,.slice none 0 0]:=by
 unfold XT.leaf XT.named
 show Value.agg (xcells _ _ (.q 0) none 0 0).toArray=_
 rw[xc_zero]
 rfl
end Go.Via
namespace Go.Proofs.YtfijbadahkmhbaaGreatDoor
open Go Go.RowKit Go.Via
theorem c_syntax_id(q:Rat)(hq:szQ q≤1000000):PCall Tryz.prog 89 #[Q q] (.tuple #[.int .i64 (if-9223372036854775808≤q.num∧q.num≤9223372036854775807 then q.num else 0),.bool (idOK q)]):=by
 refine⟨by kernel_rfl,fun w=>?_⟩;refine cB1 33 Tryz.func89 (LRel.nil w) ?_;refine A2 ?_;refine Bo [_,_,_,_] 4 (fun g=>[⟨some g,27,_,4,true⟩]) (fun g0=>?_);refine A7 ?_;refine Ld 0 0 [_,_] ti25 ?_;refine Kr 8 (I q.num) ?_;refine Pc (c_integer_ToInt q.num) ?_;refine A12 ?_;refine Rs 14 ?_ ?_<;>intro hb0
 ·have hin:(-9223372036854775808≤q.num∧q.num≤9223372036854775807):=of_decide_eq_true hb0;refine Ld 0 0 [_,_,_,_] ti27 ?_;refine r_pcall [_] rfl rfl rfl (c_rational_Check _ _ _ _ (by rw[mag_size];exact nb_num hq) (dm_sz hq)) ?_;refine r_know 16 (.int .i64 0) rfl (by rw[isQ_Q];rfl) ?_;refine A1 ?_;refine Kr 17 (.bool true) ?_;refine A3 ?_;refine Ld 0 2 [_,_] ti25 ?_;refine r_build [] rfl rfl rfl (bd25_0) ?_;refine r_eqlAgg rfl rfl rfl rfl gd25 (eq25r _ _ _ _) ?_;refine r_know 23 (.bool (decide (q.den=1))) rfl (by rw[dm_nil]) ?_;refine A2 ?_;refine Rs 25 ?_ ?_<;>intro hb1
  ·have hden:q.den=1:=of_decide_eq_true hb1;refine A1 ?_;refine r_know 26 (.int .i64 q.num) rfl (by rw[if_pos hin]) ?_;refine A3 ?_;refine Rs 29 ?_ ?_<;>intro hb2
   ·have h1:1≤q.num:=(by have:=of_decide_eq_true hb2;omega);refine A1 ?_;refine r_know 30 (.int .i64 q.num) rfl (by rw[if_pos hin]) ?_;refine A7 ?_;refine at_end2 rfl (res_tmp rfl) (res_tmp rfl) (fun w hL=>⟨?_,hL.below⟩);exact congrArg (fun b=>Ending.returned (.tuple #[.int .i64 (if-9223372036854775808≤q.num∧q.num≤9223372036854775807 then q.num else 0),.bool b])) (by unfold idOK;rw[decide_eq_true hden,decide_eq_true h1];rfl)
   ·have h1:¬1≤q.num:=(by have:=of_decide_eq_false hb2;omega);refine A8 ?_;refine at_end2 rfl (res_tmp rfl) (res_tmp rfl) (fun w hL=>⟨?_,hL.below⟩);exact congrArg (fun b=>Ending.returned (.tuple #[.int .i64 (if-9223372036854775808≤q.num∧q.num≤9223372036854775807 then q.num else 0),.bool b])) (by unfold idOK;rw[decide_eq_false h1,Bool.and_false];rfl)
  ·have hden:¬q.den=1:=of_decide_eq_false hb1;refine A12 ?_;refine at_end2 rfl (res_tmp rfl) (res_tmp rfl) (fun w hL=>⟨?_,hL.below⟩);exact congrArg (fun b=>Ending.returned (.tuple #[.int .i64 (if-9223372036854775808≤q.num∧q.num≤9223372036854775807 then q.num else 0),.bool b])) (by unfold idOK;rw[decide_eq_false hden];rfl)
 ·have hin:¬(-9223372036854775808≤q.num∧q.num≤9223372036854775807):=of_decide_eq_false hb0;refine A23 ?_;refine at_end2 rfl (res_tmp rfl) (res_tmp rfl) (fun w hL=>⟨?_,hL.below⟩);exact congrArg (fun b=>Ending.returned (.tuple #[.int .i64 (if-9223372036854775808≤q.num∧q.num≤9223372036854775807 then q.num else 0),.bool b])) (by unfold idOK;rw[Bool.and_assoc,show(decide (1≤q.num)&&decide (q.num≤1073741824))=false by(rw[←Bool.not_eq_true];simp;omega),Bool.and_false])
theorem c_p_number(p:Ps)(hg:p.good)(o:Bool)(g:Nat):ECall Tryz.prog 132 [PB g p true] [.pointer (some ⟨g,0,none⟩),.bool o] Unit (fun _=>Q (p.number o).1) (fun _=>[PB g (p.number o).2 true]):=by
 refine⟨by kernel_rfl,fun B w hD hL0=>?_⟩;refine cB2 54 Tryz.func132 hL0 ?_;refine A2 ?_;refine r_alloc [_,_,_,_] 4 (fun g=>[_,⟨some g,27,_,4,true⟩]) rfl rfl z27 rfl rfl (fun _=>rfl) (fun g0=>?_);refine A9 ?_;refine Kr 12 (.bool p.fail) ?_;refine A1 ?_;refine Rs 13 ?_ ?_<;>intro hb0
 ·have hf:p.fail=true:=by simpa using hb0
  refine A11 ?_;refine at_regionM ?_;refine A1 ?_;refine Gm 1 [0] [] (fun _=>[PB g (p.stop 15) true,_]) (c_p_stop p 15 g) (fun _=>?_);refine A4 ?_;refine r_build [] rfl rfl rfl (bd27_0) ?_;refine So 1 0 [_,⟨some g0,27,_,4,true⟩] [_,_,_,_] ?_;refine A4 ?_;refine at_end1 rfl (res_cell 1 rfl rfl ti27 (vs:=[_,_,_,_]) rfl rfl (Nat.le_of_ble_eq_true rfl) rfl) (fun w hL=>⟨(),by have e:p.number o=(0,p.stop 15):=(by unfold Ps.number;simp[hf]);rw[e];exact congrArg Ending.returned (Q_zero.symm),by have e:p.number o=(0,p.stop 15):=(by unfold Ps.number;simp[hf]);rw[e];exact hL.pk [some 0]⟩)
 ·have hf:p.fail=false:=by simpa using hb0
  refine A5 ?_;refine Kr 18 (.int .i64 (p.k:Nat)) ?_;refine A4 ?_;refine Cd ?_ ?_<;>intro hb1
  ·have hkb:(p.k !=2)=true:=by have hh:=hb1;simp only[bne_iff_ne,ne_eq,bne_eq_false_iff_eq] at hh ⊢;omega
   refine A1 ?_;refine at_regionM ?_;refine A1 ?_;refine Gm 1 [0] [] (fun _=>[PB g (p.stop 15) true,_]) (c_p_stop p 15 g) (fun _=>?_);refine A4 ?_;refine r_build [] rfl rfl rfl (bd27_0) ?_;refine So 1 0 [_,⟨some g0,27,_,4,true⟩] [_,_,_,_] ?_;refine A4 ?_;refine at_end1 rfl (res_cell 1 rfl rfl ti27 (vs:=[_,_,_,_]) rfl rfl (Nat.le_of_ble_eq_true rfl) rfl) (fun w hL=>⟨(),by have e:p.number o=(0,p.stop 15):=(by unfold Ps.number;simp[hf,hkb]);rw[e];exact congrArg Ending.returned (Q_zero.symm),by have e:p.number o=(0,p.stop 15):=(by unfold Ps.number;simp[hf,hkb]);rw[e];exact hL.pk [some 0]⟩)
  ·have hkb:(p.k !=2)=false:=by have hh:=hb1;simp only[bne_iff_ne,ne_eq,bne_eq_false_iff_eq] at hh ⊢;omega
   have hk2:p.k=2:=(by simpa using hkb);refine A9 ?_;refine Kr 29 (.string (strU p.tx)) ?_;rcases hrt:ratTok p.tx with _|q
   ·refine Pc (c_rational_ParseN p.tx (hg.2.1 hk2) hg.2.2 hrt) ?_;refine A3 ?_;refine r_alloc [_,_,_,_] 4 (fun g=>[_,_,⟨some g,27,_,4,true⟩]) rfl rfl z27 rfl rfl (fun _=>rfl) (fun g1=>?_);refine So 2 0 [_,_,⟨some g1,27,_,4,true⟩] [_,_,_,_] ?_;refine A8 ?_;refine Kr 34 (.bool true) ?_;refine A4 ?_;refine at_regionM ?_;refine A1 ?_;refine Gm 1 [0] [] (fun _=>[PB g (p.stop 6) true,_,_]) (c_p_stop p 6 g) (fun _=>?_);refine A4 ?_;refine r_build [] rfl rfl rfl (bd27_0) ?_;refine So 1 0 [_,⟨some g0,27,_,4,true⟩,_] [_,_,_,_] ?_;refine A4 ?_;refine at_end1 rfl (res_cell 1 rfl rfl ti27 (vs:=[_,_,_,_]) rfl rfl (Nat.le_of_ble_eq_true rfl) rfl) (fun w hL=>⟨(),by have e:p.number o=(0,p.stop 6):=(by unfold Ps.number;simp[hf,hkb,hrt]);rw[e];exact congrArg Ending.returned (Q_zero.symm),by have e:p.number o=(0,p.stop 6):=(by unfold Ps.number;simp[hf,hkb,hrt]);rw[e];exact hL.pk [some 0]⟩)
   ·have hqs:szQ q≤1000000:=Nat.le_trans (ratTok_sz (hg.2.1 hk2) hrt) (Nat.le_trans hg.2.2 (by decide));refine Pc (c_rational_ParseS p.tx (hg.2.1 hk2) hg.2.2 hrt) ?_;refine A3 ?_;refine r_alloc [_,_,_,_] 4 (fun g=>[_,_,⟨some g,27,_,4,true⟩]) rfl rfl z27 rfl rfl (fun _=>rfl) (fun g1=>?_);refine So 2 0 [_,_,⟨some g1,27,_,4,true⟩] [_,_,_,_] ?_;refine A8 ?_;refine Kr 34 (.bool false) ?_;refine A8 ?_;refine Ld 2 0 [_,_,_,_] ti27 ?_;refine Kr 39 (Q q) ?_;refine Pc (c_syntax_id q hqs) ?_;refine A11 ?_;refine Rs 44 ?_ ?_<;>intro hb3
    ·have ho:o=true:=hb3;refine A5 ?_;refine Cd ?_ ?_<;>intro hb4
     ·have hid:idOK q=false:=by simpa using hb4
      refine A1 ?_;refine at_regionM ?_;refine A1 ?_;refine Gm 1 [0] [] (fun _=>[PB g (p.stop 27) true,_,_]) (c_p_stop p 27 g) (fun _=>?_);refine A4 ?_;refine r_build [] rfl rfl rfl (bd27_0) ?_;refine So 1 0 [_,⟨some g0,27,_,4,true⟩,_] [_,_,_,_] ?_;refine A4 ?_;refine at_end1 rfl (res_cell 1 rfl rfl ti27 (vs:=[_,_,_,_]) rfl rfl (Nat.le_of_ble_eq_true rfl) rfl) (fun w hL=>⟨(),by have e:p.number o=(0,p.stop 27):=(by unfold Ps.number;simp[hf,hkb,hrt,ho,hid]);rw[e];exact congrArg Ending.returned (Q_zero.symm),by have e:p.number o=(0,p.stop 27):=(by unfold Ps.number;simp[hf,hkb,hrt,ho,hid]);rw[e];exact hL.pk [some 0]⟩)
     ·have hid:idOK q=true:=by simpa using hb4
      refine A3 ?_;refine at_regionM ?_;refine A1 ?_;refine Gm 1 [0] [] (fun _=>[PB g p.adv true,_,_]) (c_p_advance p hg.1 g) (fun _=>?_);refine A4 ?_;refine Ld 2 0 [_,_,_,_] ti27 ?_;refine Kr 53 (Q q) ?_;refine So 1 0 [_,⟨some g0,27,_,4,true⟩,_] [_,_,_,_] ?_;refine A3 ?_;refine at_end1 rfl (res_cell 1 rfl rfl ti27 (vs:=[_,_,_,_]) rfl rfl (Nat.le_of_ble_eq_true rfl) rfl) (fun w hL=>⟨(),by have e:p.number o=(q,p.adv):=(by unfold Ps.number;simp[hf,hkb,hrt,ho,hid]);rw[e];exact congrArg Ending.returned (rfl),by have e:p.number o=(q,p.adv):=(by unfold Ps.number;simp[hf,hkb,hrt,ho,hid]);rw[e];exact hL.pk [some 0]⟩)
    ·have ho:o=false:=hb3;refine A9 ?_;refine at_regionM ?_;refine A1 ?_;refine Gm 1 [0] [] (fun _=>[PB g p.adv true,_,_]) (c_p_advance p hg.1 g) (fun _=>?_);refine A4 ?_;refine Ld 2 0 [_,_,_,_] ti27 ?_;refine Kr 53 (Q q) ?_;refine So 1 0 [_,⟨some g0,27,_,4,true⟩,_] [_,_,_,_] ?_;refine A3 ?_;refine at_end1 rfl (res_cell 1 rfl rfl ti27 (vs:=[_,_,_,_]) rfl rfl (Nat.le_of_ble_eq_true rfl) rfl) (fun w hL=>⟨(),by have e:p.number o=(q,p.adv):=(by unfold Ps.number;simp[hf,hkb,hrt,ho]);rw[e];exact congrArg Ending.returned (rfl),by have e:p.number o=(q,p.adv):=(by unfold Ps.number;simp[hf,hkb,hrt,ho]);rw[e];exact hL.pk [some 0]⟩)
theorem c_p_signed(p:Ps)(hg:p.good)(g:Nat):ECall Tryz.prog 130 [PB g p true] [.pointer (some ⟨g,0,none⟩)] Unit (fun _=>p.signed.1.leaf) (fun _=>[PB g p.signed.2 true]):=by
 refine⟨by kernel_rfl,fun B w hD hL0=>?_⟩;refine cB1 14 Tryz.func130 hL0 ?_;refine A2 ?_;refine r_alloc [_,_,_,_,_,_,_] 7 (fun g=>[_,⟨some g,30,_,7,true⟩]) rfl rfl z30 rfl rfl (fun _=>rfl) (fun g0=>?_);refine A3 ?_;refine at_regionM ?_;refine A1 ?_;refine Gm 1 [0] [] (fun _=>[PB g (p.tk tMinus) true,_]) (c_p_take p hg.1 tMinus g) (fun _=>?_)
 obtain⟨q,hq⟩:∃q,p.tk tMinus=q:=⟨_,rfl⟩;have hqg:q.good:=by rw[←hq];exact Ps.tk_good hg
 rw[hq];refine A4 ?_;refine at_regionM ?_;refine A1 ?_;refine Gm 1 [0] [] (fun _=>[PB g (q.number false).2 true,_]) (c_p_number q hqg false g) (fun _=>?_);refine r_alloc [_,_,_,_] 4 (fun g=>[_,_,⟨some g,27,_,4,true⟩]) rfl rfl z27 rfl rfl (fun _=>rfl) (fun g1=>?_);refine So 2 0 [_,_,⟨some g1,27,_,4,true⟩] [_,_,_,_] ?_;refine A8 ?_;refine Cd ?_ ?_<;>intro hb0
 ·have his:p.is tMinus=true:=hb0;refine A1 ?_;refine Ld 2 0 [_,_,_,_] ti27 ?_;refine Kr 10 (Q (q.number false).1) ?_;refine Pc (c_rational_Neg (q.number false).1) ?_;refine So 2 0 [_,_,⟨some g1,27,_,4,true⟩] [_,_,_,_] ?_;refine A4 ?_;refine Ld 2 0 [_,_,_,_] ti27 ?_;refine r_know 12 (Q (-(q.number false).1)) rfl rfl ?_;refine r_build [(0,_),(2,_)] rfl rfl rfl (bd30_0_2x) ?_;refine So 1 0 [_,⟨some g0,30,_,7,true⟩,_] [_,_,_,_,_,_,_] ?_;refine A3 ?_;refine at_end1 rfl (res_cell 1 rfl rfl ti30 (vs:=[_,_,_,_,_,_,_]) rfl rfl (Nat.le_of_ble_eq_true rfl) rfl) (fun w hL=>⟨(),by have e:p.signed=(.numd 1 (-(q.number false).1),(q.number false).2):=(by rw[←hq];unfold Ps.signed Ps.tk;rw[his];rfl);rw[e];rfl,by have e:p.signed=(.numd 1 (-(q.number false).1),(q.number false).2):=(by rw[←hq];unfold Ps.signed Ps.tk;rw[his];rfl);rw[e];exact hL.pk [some 0]⟩)
 ·have his:p.is tMinus=false:=hb0;refine A4 ?_;refine Ld 2 0 [_,_,_,_] ti27 ?_;refine Kr 12 (Q (q.number false).1) ?_;refine r_build [(0,_),(2,_)] rfl rfl rfl (bd30_0_2x) ?_;refine So 1 0 [_,⟨some g0,30,_,7,true⟩,_] [_,_,_,_,_,_,_] ?_;refine A3 ?_;refine at_end1 rfl (res_cell 1 rfl rfl ti30 (vs:=[_,_,_,_,_,_,_]) rfl rfl (Nat.le_of_ble_eq_true rfl) rfl) (fun w hL=>⟨(),by have e:p.signed=(.numd 1 ((q.number false).1),(q.number false).2):=(by rw[←hq];unfold Ps.signed Ps.tk;rw[his];rfl);rw[e];rfl,by have e:p.signed=(.numd 1 ((q.number false).1),(q.number false).2):=(by rw[←hq];unfold Ps.signed Ps.tk;rw[his];rfl);rw[e];exact hL.pk [some 0]⟩)
theorem c_p_zone(p:Ps)(hg:p.good)(g:Nat):ECall Tryz.prog 133 [PB g p true] [.pointer (some ⟨g,0,none⟩)] Unit (fun _=>p.zone.1.leaf) (fun _=>[PB g p.zone.2 true]):=by
 refine⟨by kernel_rfl,fun B w hD hL0=>?_⟩;refine cB1 31 Tryz.func133 hL0 ?_;refine A2 ?_;refine r_alloc [_,_,_,_,_,_,_] 7 (fun g=>[_,⟨some g,30,_,7,true⟩]) rfl rfl z30 rfl rfl (fun _=>rfl) (fun g0=>?_);refine A3 ?_;refine at_regionM ?_;refine A1 ?_;refine Gm 1 [0] [] (fun _=>[PB g (p.want tOpen) true,_]) (c_p_want p hg.1 tOpen g) (fun _=>?_)
 obtain⟨q,hq⟩:∃q,p.want tOpen=q:=⟨_,rfl⟩;have hqg:q.good:=by rw[←hq];exact Ps.want_good hg
 rw[hq];refine A9 ?_;refine Kr 10 (.string (strU q.tx)) ?_;refine A10 ?_;refine Kr 14 (.bool q.fail) ?_;refine A1 ?_;refine Rs 15 ?_ ?_<;>intro hb0
 ·have hf:q.fail=true:=by simpa using hb0
  refine A10 ?_;refine at_regionM ?_;refine A1 ?_;refine Gm 1 [0] [] (fun _=>[PB g (q.stop 15) true,_]) (c_p_stop q 15 g) (fun _=>?_);refine A3 ?_;refine at_regionM ?_;refine A1 ?_;refine Gm 1 [0] [] (fun _=>[PB g ((q.stop 15).want tShut) true,_]) (c_p_want (q.stop 15) (Ps.stop_ok hqg.1) tShut g) (fun _=>?_);refine A5 ?_;refine r_build [(0,_),(1,_)] rfl rfl rfl (bd30_2) ?_;refine So 1 0 [_,⟨some g0,30,_,7,true⟩] [_,_,_,_,_,_,_] ?_;refine A3 ?_;refine at_end1 rfl (res_cell 1 rfl rfl ti30 (vs:=[_,_,_,_,_,_,_]) rfl rfl (Nat.le_of_ble_eq_true rfl) rfl) (fun w hL=>⟨(),by unfold Ps.zone;rw[hq];exact congrArg Ending.returned (leaf_named 5 q.tx).symm,by have e:p.zone.2=(q.stop 15).want tShut:=(by unfold Ps.zone;rw[hq];simp only[hf,Bool.false_or,Bool.true_or,if_true,Bool.false_eq_true,if_false]);rw[e];exact hL.pk [some 0]⟩)
 ·have hf:q.fail=false:=by simpa using hb0
  refine A5 ?_;refine Kr 20 (.int .i64 (q.k:Nat)) ?_;refine A4 ?_;refine Cd ?_ ?_<;>intro hb1
  ·have hk3:(q.k !=3)=true:=by have hh:=hb1;simp only[bne_iff_ne,ne_eq,bne_eq_false_iff_eq] at hh ⊢;omega
   refine at_regionM ?_;refine A1 ?_;refine Gm 1 [0] [] (fun _=>[PB g (q.stop 15) true,_]) (c_p_stop q 15 g) (fun _=>?_);refine A3 ?_;refine at_regionM ?_;refine A1 ?_;refine Gm 1 [0] [] (fun _=>[PB g ((q.stop 15).want tShut) true,_]) (c_p_want (q.stop 15) (Ps.stop_ok hqg.1) tShut g) (fun _=>?_);refine A5 ?_;refine r_build [(0,_),(1,_)] rfl rfl rfl (bd30_2) ?_;refine So 1 0 [_,⟨some g0,30,_,7,true⟩] [_,_,_,_,_,_,_] ?_;refine A3 ?_;refine at_end1 rfl (res_cell 1 rfl rfl ti30 (vs:=[_,_,_,_,_,_,_]) rfl rfl (Nat.le_of_ble_eq_true rfl) rfl) (fun w hL=>⟨(),by unfold Ps.zone;rw[hq];exact congrArg Ending.returned (leaf_named 5 q.tx).symm,by have e:p.zone.2=(q.stop 15).want tShut:=(by unfold Ps.zone;rw[hq];simp only[hf,hk3,Bool.false_or,Bool.true_or,if_true,Bool.false_eq_true,if_false]);rw[e];exact hL.pk [some 0]⟩)
  ·have hk3:(q.k !=3)=false:=by have hh:=hb1;simp only[bne_iff_ne,ne_eq,bne_eq_false_iff_eq] at hh ⊢;omega
   refine at_regionM ?_;refine A1 ?_;refine Gm 1 [0] [] (fun _=>[PB g q.adv true,_]) (c_p_advance q hqg.1 g) (fun _=>?_);refine A3 ?_;refine at_regionM ?_;refine A1 ?_;refine Gm 1 [0] [] (fun _=>[PB g (q.adv.want tShut) true,_]) (c_p_want q.adv (Ps.adv_ok hqg.1) tShut g) (fun _=>?_);refine A5 ?_;refine r_build [(0,_),(1,_)] rfl rfl rfl (bd30_2) ?_;refine So 1 0 [_,⟨some g0,30,_,7,true⟩] [_,_,_,_,_,_,_] ?_;refine A3 ?_;refine at_end1 rfl (res_cell 1 rfl rfl ti30 (vs:=[_,_,_,_,_,_,_]) rfl rfl (Nat.le_of_ble_eq_true rfl) rfl) (fun w hL=>⟨(),by unfold Ps.zone;rw[hq];exact congrArg Ending.returned (leaf_named 5 q.tx).symm,by have e:p.zone.2=q.adv.want tShut:=(by unfold Ps.zone;rw[hq];simp only[hf,hk3,Bool.false_or,Bool.true_or,if_true,Bool.false_eq_true,if_false]);rw[e];exact hL.pk [some 0]⟩)
end Go.Proofs.YtfijbadahkmhbaaGreatDoor
namespace Go.Via
open Go Go.RowKit
theorem Ps.pointX_good{p:Ps}(h:p.good):p.pointX.2.good:=
 Ps.want_good (Ps.signed_good (Ps.want_good (Ps.signed_good (Ps.want_good h))))
theorem Ps.objectX_good{p:Ps}(h:p.good):p.objectX.2.good:=
 Ps.want_good (Ps.number_good (Ps.want_good h))
theorem read_good:∀f:Nat,(∀n p r,p.good→lev f n p=some r→r.2.good)∧(∀n x p r,p.good→levs f n x p=some r→r.2.good)∧(∀p r,p.good→prim f p=some r→r.2.good)∧(∀op e n i l p r,p.good→argL f op e n i l p=some r→r.2.good)
 |0=>⟨fun n p r _ h=>(by simp[lev] at h),fun n x p r _ h=>(by simp[levs] at h),fun p r _ h=>(by simp[prim] at h),fun op e n i l p r _ h=>(by simp[argL] at h)⟩
 |f+1=>by
  obtain⟨h1,h2,h3,h4⟩:=read_good f
  refine⟨fun n p r hp h=>?_,fun n x p r hp h=>?_,fun p r hp h=>?_,fun op e n i l p r hp h=>?_⟩
  ·rw[lev] at h
   split at h
   ·split at h
    ·obtain⟨r0,h5,rfl⟩:=Option.map_eq_some_iff.1 h
     exact h1 _ _ r0 (Ps.adv_good hp.1) h5
    ·exact h1 _ _ _ hp h
   ·split at h
    ·exact h3 _ _ hp h
    ·obtain⟨r0,h5,h6⟩:=Option.bind_eq_some_iff.1 h
     exact h2 _ _ _ _ (h1 _ _ _ hp h5) h6
  ·rw[levs] at h
   split at h
   ·cases h;exact hp
   ·split at h
    ·cases h;exact hp
    ·obtain⟨r0,h5,h6⟩:=Option.bind_eq_some_iff.1 h
     have h7:=h1 _ _ _ (Ps.adv_good hp.1) h5
     split at h6
     ·cases h6;exact h7
     ·exact h2 _ _ _ _ h7 h6
  ·rw[prim] at h
   split at h
   ·cases h;exact hp
   ·split at h
    ·cases h;exact Ps.signed_good hp
    ·split at h
     ·obtain⟨r0,h5,rfl⟩:=Option.map_eq_some_iff.1 h
      exact Ps.want_good (h1 _ _ r0 (Ps.adv_good hp.1) h5)
     ·split at h
      ·exact h4 _ _ _ _ _ _ _ (Ps.adv_good hp.1) h
      ·split at h
       ·cases h;exact Ps.pointX_good (Ps.adv_good hp.1)
       ·split at h
        ·cases h;exact Ps.objectX_good (Ps.adv_good hp.1)
        ·split at h
         ·cases h;exact Ps.zone_good (Ps.adv_good hp.1)
         ·split at h
          ·exact h4 _ _ _ _ _ _ _ (Ps.want_good (Ps.adv_good hp.1)) h
          ·cases h;exact Ps.name_good hp
  ·rw[argL] at h
   split at h
   ·have hq:(if 0<i then p.want tComma else p).good:=by
     split
     ·exact Ps.want_good hp
     ·exact hp
    dsimp only at h
    generalize(if 0<i then p.want tComma else p)=q at h hq
    split at h
    ·cases h;exact Ps.want_good hq
    ·obtain⟨r0,h5,h6⟩:=Option.bind_eq_some_iff.1 h
     exact h4 _ _ _ _ _ _ _ (h1 _ _ _ hq h5) h6
   ·cases h;exact Ps.want_good hp
structure XR(x:XT) where
 T:Tab
 op:Int
 nm:ByteArray
 b1:Bool
 s1:ByteArray
 b2:Bool
 s2:ByteArray
 a:Option Addr
 n:Nat
 cap:Nat
 hT:gtOK T=true
 h:RepX T x [.int .i64 op,.string nm,.bool b1,.string s1,.bool b2,.string s2,.slice a n cap]
def XR.cs{x:XT}(z:XR x):List Value:=[.int .i64 z.op,.string z.nm,.bool z.b1,.string z.s1,.bool z.b2,.string z.s2,.slice z.a z.n z.cap]
def XR.v{x:XT}(z:XR x):Value:= .agg #[.int .i64 z.op,.string z.nm,.bool z.b1,.string z.s1,.bool z.b2,.string z.s2,.slice z.a z.n z.cap]
theorem XR.cs_simple{x:XT}(z:XR x):z.cs.all Value.simpleT=true:=rfl
theorem RepX.rep{T:Tab}{op:Nat}{l:List XT}{a:Option Addr}{cap:Nat}(h:RepL T l a)(hc:l.length≤cap):
 RepX T (.node op l) [.int .i64 (op:Nat),.string ⟨#[]⟩,.bool false,.string ⟨#[]⟩,.bool false,.string ⟨#[]⟩,.slice a l.length cap]:=by
 have:=RepX.mk (T:=T) (op:=(op:Nat)) (name:=[]) (num:= .q 0) (args:=l) (a:=a) (cap:=cap) h hc
 rw[xc_zero] at this
 exact this
def XR.node1{x:XT}(op:Nat)(z:XR x)(g:Nat):XR (.node op [x]):=
 ⟨(g,z.cs)::z.T,(op:Nat),⟨#[]⟩,false,⟨#[]⟩,false,⟨#[]⟩,some ⟨g,0,none⟩,1,1,by rw[gtOK_cons,z.cs_simple,z.hT];rfl,
 RepX.rep (.cons (cs:=z.cs) (c:=z.cs) (by simp) rfl (z.h.mono fun p hp=>by simp[hp]) .nil) (Nat.le_refl _)⟩
def XR.node2{x y:XT}(op:Nat)(z:XR x)(u:XR y)(g:Nat):XR (.node op [x,y]):=
 ⟨z.T++(g,z.cs++u.cs)::u.T,(op:Nat),⟨#[]⟩,false,⟨#[]⟩,false,⟨#[]⟩,some ⟨g,0,none⟩,2,2,by rw[gtOK_append,gtOK_cons,z.hT,u.hT,List.all_append,z.cs_simple,u.cs_simple];rfl,
 RepX.rep (.cons (cs:=z.cs++u.cs) (c:=z.cs) (by simp) rfl (z.h.mono fun p hp=>by simp[hp]) (.cons (cs:=z.cs++u.cs) (c:=u.cs) (by simp) rfl (u.h.mono fun p hp=>by simp[hp]) .nil)) (Nat.le_refl _)⟩
def XR.num(q:Rat)(op:Nat):XR (.numd op q):=
 ⟨[],(op:Nat),⟨#[]⟩,decide (q.num<0),mag q.num.natAbs,false,dm q,none,0,0,rfl,.mk (op:=(op:Nat)) (name:=[]) (num:= .q q) (args:=[]) .nil (Nat.le_refl _)⟩
def XR.named(n:Bs8)(op:Nat):XR (.named op n):=
 ⟨[],(op:Nat),strU n,false,⟨#[]⟩,false,⟨#[]⟩,none,0,0,rfl,by
 have:=RepX.mk (T:=[]) (op:=(op:Nat)) (name:=n) (num:= .q 0) (args:=[]) (a:=none) (cap:=0) .nil (Nat.le_refl _)
 rw[xc_zero] at this
 exact this⟩
def XR.empty:XR (.node 0 []):=
 ⟨[],0,⟨#[]⟩,false,⟨#[]⟩,false,⟨#[]⟩,none,0,0,rfl,RepX.rep (op:=0) (l:=[]) .nil (Nat.le_refl _)⟩
def XR.cast{x y:XT}(h:x=y)(z:XR x):XR y:=h▸z
structure XA(l:List XT) where
 T:Tab
 b:Option Nat
 cs:List Value
 n:Nat
 cap:Nat
 hT:gtOK T=true
 hlen:cs.length=l.length*7
 hcap:l.length≤cap
 hn:cap*7≤n
 hs:cs.all Value.simpleT=true
 hb:b=none↔l=[]
 h:∀i x,l[i]? =some x→RepX T x ((cs.drop (i*7)).take 7)
def XA.zero:XA []:=⟨[],none,[],0,0,rfl,rfl,Nat.le_refl _,Nat.le_refl _,rfl,⟨fun _=>rfl,fun _=>rfl⟩,fun i x h=>by simp at h⟩
def XA.add{l:List XT}{x:XT}(z:XA l)(u:XR x)(r:AR (l.length+1) 7):XA (l++[x]):=
 ⟨z.T++u.T,some r.g,z.cs++u.cs,r.n,r.cap,by rw[gtOK_append,z.hT,u.hT];rfl,by rw[List.length_append,z.hlen,List.length_append];show _+7=_;simp;omega,by rw[List.length_append];exact r.h,r.hn,
 by rw[List.all_append,z.hs,u.cs_simple];rfl,⟨fun h=>(by cases h),fun h=>(by simp at h)⟩,fun i y hy=>by
 by_cases hi:i<l.length
 ·rw[List.getElem?_append_left hi] at hy
  have h1:=z.h i y hy
  have e:((z.cs++u.cs).drop (i*7)).take 7=(z.cs.drop (i*7)).take 7:=by
   rw[List.drop_append_of_le_length (by rw[z.hlen];omega),List.take_append_of_le_length (by rw[List.length_drop,z.hlen];omega)]
  rw[e]
  exact h1.mono fun p hp=>by simp[hp]
 ·rw[List.getElem?_append_right (by omega)] at hy
  have hi2:i-l.length=0:=by
   by_cases h0:i-l.length=0
   ·exact h0
   ·obtain⟨k,hk⟩:∃k,i-l.length=k+1:=⟨i-l.length-1,by omega⟩
    rw[hk] at hy;simp at hy
  rw[hi2] at hy
  simp at hy
  subst hy
  have e:((z.cs++u.cs).drop (i*7)).take 7=u.cs:=by
   rw[List.drop_append,List.drop_eq_nil_of_le (by rw[z.hlen];omega),z.hlen,show i*7-l.length*7=0 by omega]
   rfl
  rw[e]
  exact u.h.mono fun p hp=>by simp[hp]⟩
theorem RepL.of_row{T:Tab}{g:Nat}{cs:List Value}(hm:(g,cs)∈T):∀(l:List XT) (off:Nat),(∀i x,l[i]? =some x→RepX T x ((cs.drop (off+i*7)).take 7))→RepL T l (some ⟨g,off,none⟩)
 |[],off,h=> .nil
 |x::l,off,h=> .cons (cs:=cs) hm rfl (by have:=h 0 x rfl;simpa using this) (RepL.of_row hm l (off+7) fun i y hy=>by
 have:=h (i+1) y (by simpa using hy)
 rwa [show off+(i+1)*7=off+7+i*7 by omega] at this)
def XA.finT{l:List XT}(z:XA l):Tab:=match z.b with
 |some g=>(g,z.cs)::z.T
 |none=>z.T
theorem XA.finT_ok{l:List XT}(z:XA l):gtOK z.finT=true:=by
 unfold XA.finT
 cases z.b with
 |none=>exact z.hT
 |some g=>show gtOK ((g,z.cs)::z.T)=true;rw[gtOK_cons,z.hs,z.hT];rfl
theorem RepL.none_nil(T:Tab)(l:List XT)(h:l=[]):RepL T l none:=by subst h;exact .nil
theorem XA.finR{l:List XT}(z:XA l):RepL z.finT l (z.b.map fun g=>⟨g,0,none⟩):=by
 unfold XA.finT
 cases hb:z.b with
 |none=>exact RepL.none_nil _ _ (z.hb.1 hb)
 |some g=>
  exact RepL.of_row (g:=g) (cs:=z.cs) (by simp) l 0 fun i x hx=>by
   rw[Nat.zero_add]
   exact(z.h i x hx).mono fun p hp=>by simp[hp]
def XA.fin{l:List XT}(z:XA l)(op:Nat):XR (.node op l):=
 ⟨z.finT,(op:Nat),⟨#[]⟩,false,⟨#[]⟩,false,⟨#[]⟩,z.b.map fun g=>⟨g,0,none⟩,l.length,z.cap,z.finT_ok,RepX.rep z.finR z.hcap⟩
theorem noTy7{cs:List Value}{l:List XT}(h:cs.length=l.length*7)(h0:l≠[]):noTy cs=true:=noTy_len (by
 have:=List.length_pos_iff.2 h0
 omega)
theorem Weak.trans{A B C:List Blk}(h:Weak A B)(k:Weak B C):Weak A C:=fun X w hr=>k X w (h X w hr)
abbrev ZB(g:Nat):Blk:=⟨some g,30,[.int .i64 0,.string ⟨#[]⟩,.bool false,.string ⟨#[]⟩,.bool false,.string ⟨#[]⟩,.slice none 0 0],7,true⟩
abbrev XB(g:Nat){x:XT}(z:XR x):Blk:=⟨some g,30,z.cs,7,true⟩
abbrev AB(g:Nat)(op:Nat){l:List XT}(z:XA l):Blk:=⟨some g,30,[.int .i64 (op:Nat),.string ⟨#[]⟩,.bool false,.string ⟨#[]⟩,.bool false,.string ⟨#[]⟩,slv z.b 0 l.length z.cap],7,true⟩
theorem weak_node1{g g0 g1:Nat}{p:Ps}{cs:List Value}{x:XT}(op:Nat)(z:XR x):Weak [PB g p true,⟨some g0,30,cs,7,true⟩,gB z.T true,⟨some g1,30,z.cs,7,true⟩] [PB g p true,gB (z.node1 op g1).T true]:=
 Weak.trans (Weak.shut (i:=3) (j:=2) rfl rfl z.hT z.cs_simple (noTy_len (by show 5≤7;decide)) (.inl (by decide)) rfl) (weak_picks [some 0,some 2] ⟨⟨_,rfl,Blk.le_refl _⟩,⟨_,rfl,Blk.le_refl _⟩,trivial⟩ rfl rfl)
theorem weak_node2{g g0 g1 g2 g3 g4 n2 n3 e2 e3:Nat}{p:Ps}{c0 c1 c2 c3:List Value}{x y:XT}(op:Nat)(z:XR x)(u:XR y):
 Weak [PB g p true,⟨some g0,30,c0,7,true⟩,gB z.T true,⟨some g1,30,c1,7,true⟩,⟨some g2,e2,c2,n2,true⟩,⟨some g3,e3,c3,n3,true⟩,gB u.T true,⟨some g4,30,z.cs++u.cs,14,true⟩]
  [PB g p true,⟨some g0,30,c0,7,true⟩,gB (z.node2 op u g4).T true,⟨some g1,30,c1,7,true⟩]:=
 Weak.trans (Weak.shut (i:=7) (j:=6) rfl rfl u.hT (by rw[List.all_append,z.cs_simple,u.cs_simple];rfl) (noTy_len (by show 5≤14;decide)) (.inl (by decide)) rfl)
  (Weak.trans (Weak.mergeG (i:=6) (j:=2) rfl rfl (by rw[gtOK_cons,List.all_append,z.cs_simple,u.cs_simple,u.hT];rfl) z.hT rfl rfl)
 (weak_picks [some 0,some 1,some 2,some 3] ⟨⟨_,rfl,Blk.le_refl _⟩,⟨_,rfl,Blk.le_refl _⟩,⟨_,rfl,Blk.le_refl _⟩,⟨_,rfl,Blk.le_refl _⟩,trivial⟩ rfl rfl))
theorem weak_pt{g g0 g1 g2 g4:Nat}{p:Ps}{c0 c1 c2:List Value}{x y:XT}(op:Nat)(z:XR x)(u:XR y)(hz:z.T=[])(hu:u.T=[]):
 Weak [PB g p true,⟨some g0,30,c0,7,true⟩,⟨some g1,30,c1,7,true⟩,⟨some g2,30,c2,7,true⟩,⟨some g4,30,z.cs++u.cs,14,true⟩] [PB g p true,gB (z.node2 op u g4).T true]:=by
 have e:(z.node2 op u g4).T=[(g4,z.cs++u.cs)]:=by show z.T++(g4,z.cs++u.cs)::u.T=_;rw[hz,hu];rfl
 rw[e]
 exact Weak.trans (Weak.newG _) (Weak.trans (Weak.shut (i:=4) (j:=5) rfl rfl rfl (by rw[List.all_append,z.cs_simple,u.cs_simple];rfl) (noTy_len (by show 5≤14;decide)) (.inl (by decide)) rfl)
 (weak_picks [some 0,some 5] ⟨⟨_,rfl,Blk.le_refl _⟩,⟨_,rfl,Blk.le_refl _⟩,trivial⟩ rfl rfl))
theorem weak_leaf{g:Nat}{p:Ps}{M:List Blk}:Weak (PB g p true::M) [PB g p true,gB [] true]:=
 Weak.trans (B:=[PB g p true]) (weak_picks [some 0] ⟨⟨_,rfl,Blk.le_refl _⟩,trivial⟩ rfl rfl) (Weak.newG [PB g p true])
theorem weak_args{g g0 g1:Nat}{p:Ps}{c0 c1:List Value}{l:List XT}(op:Nat)(z:XA l):
 Weak [PB g p true,⟨some g0,30,c0,7,true⟩,⟨some g1,30,c1,7,true⟩,gB z.T true,⟨z.b,30,z.cs,z.n,true⟩] [PB g p true,gB (z.fin op).T true]:=by
 show Weak _ [PB g p true,gB z.finT true]
 unfold XA.finT
 cases hb:z.b with
 |none=>exact weak_picks [some 0,some 3] ⟨⟨_,rfl,Blk.le_refl _⟩,⟨_,rfl,Blk.le_refl _⟩,trivial⟩ rfl rfl
 |some h=>
  have hl:l≠[]:=fun e=>by have:=z.hb.2 e;rw[hb] at this;cases this
  have hne:z.cs≠[]:=fun e=>by
   have:=z.hlen
   rw[e] at this
   have h2:=List.length_pos_iff.2 hl
   simp at this
   omega
  exact Weak.trans (Weak.shut (i:=4) (j:=3) rfl rfl z.hT z.hs (noTy7 z.hlen hl) (.inr hne) rfl) (weak_picks [some 0,some 3] ⟨⟨_,rfl,Blk.le_refl _⟩,⟨_,rfl,Blk.le_refl _⟩,trivial⟩ rfl rfl)
theorem weak_add{g g0 g1 g5:Nat}{p:Ps}{c0:List Value}{l:List XT}{x:XT}(op:Nat)(z:XA l)(u:XR x)(r:AR (l.length+1) 7):
 Weak [PB g p true,⟨some g0,30,c0,7,true⟩,⟨some g1,30,[.int .i64 (op:Nat),.string ⟨#[]⟩,.bool false,.string ⟨#[]⟩,.bool false,.string ⟨#[]⟩,slv (some r.g) 0 (l.length+1) r.cap],7,true⟩,gB z.T true,⟨some r.g,30,z.cs++u.cs,r.n,true⟩,gB u.T true,⟨some g5,30,u.cs,7,true⟩]
  [PB g p true,⟨some g0,30,c0,7,true⟩,AB g1 op (z.add u r),gB (z.add u r).T true,⟨(z.add u r).b,30,(z.add u r).cs,(z.add u r).n,true⟩]:=
 Weak.trans (Weak.mergeG (i:=5) (j:=3) rfl rfl u.hT z.hT rfl rfl)
  (weak_picks [some 0,some 1,some 2,some 3,some 4] ⟨⟨_,rfl,Blk.le_refl _⟩,⟨_,rfl,Blk.le_refl _⟩,⟨_,rfl,le_same (by
 show(⟨some g1,30,[.int .i64 (op:Nat),.string ⟨#[]⟩,.bool false,.string ⟨#[]⟩,.bool false,.string ⟨#[]⟩,slv (some r.g) 0 (l++[x]).length r.cap],7,true⟩:Blk)=_
 rw[List.length_append];rfl)⟩,⟨_,rfl,Blk.le_refl _⟩,⟨_,rfl,Blk.le_refl _⟩,trivial⟩ rfl rfl)
theorem signed_form(p:Ps):∃q p',p.signed=(.numd 1 q,p'):=by
 unfold Ps.signed
 split<;>exact⟨_,_,rfl⟩
structure LvS(F n:Nat)(r:XT×Ps) where
 b:Bool
 k:Nat
 x:XT
 p:Ps
 hp:p.good
 z:XR x
 hb:b=true→levs k n x p=some r∧k<F
 hf:b=false→r=(x,p)
structure ArS(F op:Nat)(e:Bs8)(n:Nat)(r:XT×Ps) where
 k:Nat
 i:Nat
 l:List XT
 p:Ps
 hp:p.good
 z:XA l
 hl:l.length=i
 hk:k≤F
 hi:i≤n
 hr:argL k op e n i l p=some r
theorem levs_fail{k n:Nat}{x:XT}{p:Ps}{r:XT×Ps}(h:levs k n x p=some r)(hf:p.fail=true):r=(x,p):=by
 cases k with
 |zero=>simp[levs] at h
 |succ k=>rw[levs,if_pos hf] at h;cases h;rfl
theorem levs_none{k n:Nat}{x:XT}{p:Ps}{r:XT×Ps}(h:levs k n x p=some r)(ho:opAt n p=none):r=(x,p):=by
 cases k with
 |zero=>simp[levs] at h
 |succ k=>
  rw[levs] at h
  split at h
  ·cases h;rfl
  ·rw[ho] at h;cases h;rfl
theorem levs_some{k n:Nat}{x:XT}{p:Ps}{r:XT×Ps}(h:levs k n x p=some r)(hf:p.fail=false){op:Nat}(ho:opAt n p=some op):
 ∃k',k=k'+1∧∃r2,lev k' (n+1) p.adv=some r2∧(if n=4 then some (.node op [x,r2.1],r2.2) else levs k' n (.node op [x,r2.1]) r2.2)=some r:=by
 cases k with
 |zero=>simp[levs] at h
 |succ k=>
  rw[levs,if_neg (by rw[hf];simp),ho] at h
  obtain⟨r2,h1,h2⟩:=Option.bind_eq_some_iff.1 h
  exact⟨k,rfl,r2,h1,h2⟩
theorem argL_end{k op n i:Nat}{e:Bs8}{l:List XT}{p:Ps}{r:XT×Ps}(h:argL k op e n i l p=some r)(hi:¬i<n):r=(.node op l,p.want e):=by
 cases k with
 |zero=>simp[argL] at h
 |succ k=>rw[argL,if_neg hi] at h;exact(Option.some.inj h).symm
theorem argL_fail{k op n i:Nat}{e:Bs8}{l:List XT}{p q:Ps}{r:XT×Ps}(h:argL k op e n i l p=some r)(hi:i<n)(hf:(if 0<i then p.want tComma else p).fail=true)(hq:(if 0<i then p.want tComma else p)=q):r=(.node op l,q.want e):=by
 cases k with
 |zero=>simp[argL] at h
 |succ k=>
  rw[argL,if_pos hi] at h
  dsimp only at h
  rw[hq] at h hf
  rw[if_pos hf] at h
  exact(Option.some.inj h).symm
theorem argL_go{k op n i:Nat}{e:Bs8}{l:List XT}{p q:Ps}{r:XT×Ps}(h:argL k op e n i l p=some r)(hi:i<n)(hf:(if 0<i then p.want tComma else p).fail=false)(hq:(if 0<i then p.want tComma else p)=q):
 ∃k',k=k'+1∧∃r2,lev k' 1 q=some r2∧argL k' op e n (i+1) (l++[r2.1]) r2.2=some r:=by
 cases k with
 |zero=>simp[argL] at h
 |succ k=>
  rw[argL,if_pos hi] at h
  dsimp only at h
  rw[hq] at h hf
  rw[if_neg (by rw[hf];simp)] at h
  obtain⟨r2,h1,h2⟩:=Option.bind_eq_some_iff.1 h
  exact⟨k,rfl,r2,h1,h2⟩
theorem funT_le{i:Nat}{o:Bs8×Nat×Nat}(h:funT[i]? =some o):o.2.2≤3:=by
 have:∀o∈funT,o.2.2≤3:=by decide
 exact this o (List.mem_of_getElem? h)
theorem simpleT_one{cs:List Value}(h:cs.all Value.simpleT=true):∀v∈cs,v.oneCell'=true:=fun v hv=>by
 have:=List.all_eq_true.1 h v hv
 cases v<;>first|rfl|(simp[Value.simpleT] at this)
theorem find_none_step{α:Type}{f:α→Bool}{l:List α}{i:Nat}{o:α}(h:(l.take i).find? f=none)(ho:l[i]? =some o)(hf:f o=false):(l.take (i+1)).find? f=none:=by
 rw[List.take_add_one,ho,List.find?_append,h]
 simp[hf]
theorem find_some_at{α:Type}{f:α→Bool}{l:List α}{i:Nat}{o:α}(h:(l.take i).find? f=none)(ho:l[i]? =some o)(hf:f o=true):l.find? f=some o:=by
 have e:l=l.take i++o::l.drop (i+1):=by
  obtain⟨hl,rfl⟩:=List.getElem?_eq_some_iff.1 ho
  rw[←List.drop_eq_getElem_cons hl,List.take_append_drop]
 rw[e,List.find?_append,h]
 simp[hf]
theorem find_none_all{α:Type}{f:α→Bool}{l:List α}{i:Nat}(h:(l.take i).find? f=none)(hi:l.length≤i):l.find? f=none:=by
 rwa [List.take_of_length_le hi] at h
end Go.Via
namespace Go.Proofs.YtfijbadahkmhbaaGreatDoor
open Go Go.RowKit Go.Via
def LevC(f:Nat):Prop:=∀(g n:Nat) (p:Ps) (r:XT×Ps),p.good→1≤n→n≤8→lev f n p=some r→
 ECall Tryz.prog 62 [PB g p true] [.pointer (some ⟨g,0,none⟩),.int .i64 (n:Nat)] (XR r.1) (fun z=>z.v) (fun z=>[PB g r.2 true,gB z.T true])
def PriC(f:Nat):Prop:=∀(g:Nat) (p:Ps) (r:XT×Ps),p.good→prim f p=some r→
 ECall Tryz.prog 100 [PB g p true] [.pointer (some ⟨g,0,none⟩)] (XR r.1) (fun z=>z.v) (fun z=>[PB g r.2 true,gB z.T true])
def ArgC(f:Nat):Prop:=∀(g op n:Nat) (e:Bs8) (p:Ps) (r:XT×Ps),p.good→n≤3→argL f op e n 0 [] p=some r→
 ECall Tryz.prog 131 [PB g p true] [.pointer (some ⟨g,0,none⟩),.int .i64 (op:Nat),.int .i64 (n:Nat),.string (strU e)] (XR r.1) (fun z=>z.v) (fun z=>[PB g r.2 true,gB z.T true])
theorem c_p_level_not(f:Nat)(H:∀k,k<f→LevC k)(HP:∀k,k<f→PriC k)(HA:∀k,k<f→ArgC k)(g:Nat)(p:Ps)(r:XT×Ps)(hg:p.good)(hr:lev f 3 p=some r):ECall Tryz.prog 62 [PB g p true] [.pointer (some ⟨g,0,none⟩),.int .i64 3] (XR r.1) (fun z=>z.v) (fun z=>[PB g r.2 true,gB z.T true]):=by
 refine⟨by kernel_rfl,fun B w hD hL0=>?_⟩
 obtain⟨f,rfl⟩:∃k,f=k+1:=⟨f-1,by cases f with
 |zero=>simp[lev] at hr
 |succ k=>rfl⟩
 rw[lev,if_pos rfl] at hr;refine cB2 68 Tryz.func62 hL0 ?_;refine A2 ?_;refine r_alloc [_,_,_,_,_,_,_] 7 (fun g=>[_,⟨some g,30,_,7,true⟩]) rfl rfl z30 rfl rfl (fun _=>rfl) (fun g0=>?_);refine A12 ?_;refine Kr 11 (.bool true) ?_;refine A6 ?_;refine at_regionM ?_;refine A1 ?_;refine Gm 1 [0] [] (fun _=>[PB g (p.tk tNot) true,_]) (c_p_take p hg.1 tNot g) (fun _=>?_);refine A2 ?_;refine Cd ?_ ?_<;>intro hb0
 ·have his:p.is tNot=true:=hb0;have htk:p.tk tNot=p.adv:=by unfold Ps.tk;rw[his];rfl
  rw[htk];rw[if_pos his] at hr;obtain⟨r0,h0,rfl⟩:=Option.map_eq_some_iff.1 hr;refine A1 ?_;refine at_regionM ?_;refine A2 ?_;refine Gm 1 [0] [] (fun z=>[PB g r0.2 true,_,gB z.T true]) (H f (Nat.lt_succ_self f) g 3 p.adv r0 (Ps.adv_good hg.1) (by decide) (by decide) h0) (fun z=>?_);refine r_buildSlice [(0,_)] (fun g=>[_,_,_,⟨some g,30,_,7,true⟩]) rfl rfl rfl (bs28_1) rfl (fun _=>rfl) (fun g1=>?_);refine r_build [(0,_),(3,_)] rfl rfl rfl (bd30_0_3x) ?_;refine So 1 0 [_,⟨some g0,30,_,7,true⟩,_,_] [_,_,_,_,_,_,_] ?_;refine A6 ?_;refine at_end1 rfl (res_cell 1 rfl rfl ti30 (vs:=[_,_,_,_,_,_,_]) rfl rfl (Nat.le_of_ble_eq_true rfl) rfl) (fun w hL=>⟨XR.node1 25 z g1,rfl,weak_node1 25 z _ _ hL⟩)
 ·have his:p.is tNot=false:=hb0;have htk:p.tk tNot=p:=by unfold Ps.tk;rw[his];rfl
  rw[htk];rw[if_neg (by rw[his];simp)] at hr;refine A3 ?_;refine at_regionM ?_;refine A2 ?_;refine r_arith (r:=4) rfl rfl rfl rfl (congrArg some rfl) ?_;refine Kr 21 (.int .i64 4) ?_;refine Gm 1 [0] [] (fun z=>[PB g r.2 true,_,gB z.T true]) (H f (Nat.lt_succ_self f) g 4 p r hg (by decide) (by decide) hr) (fun z=>?_);refine So 1 0 [_,⟨some g0,30,_,7,true⟩,_] [_,_,_,_,_,_,_] ?_;refine A5 ?_;refine at_end1 rfl (res_cell 1 rfl rfl ti30 (vs:=[_,_,_,_,_,_,_]) rfl rfl (Nat.le_of_ble_eq_true rfl) rfl) (fun w hL=>⟨z,rfl,(show Weak _ [PB g r.2 true,gB z.T true] from(weak_pk [some 0,some 2])) _ _ hL⟩)
theorem c_p_level_prim(f:Nat)(H:∀k,k<f→LevC k)(HP:∀k,k<f→PriC k)(HA:∀k,k<f→ArgC k)(g:Nat)(p:Ps)(r:XT×Ps)(hg:p.good)(hr:lev f 8 p=some r):ECall Tryz.prog 62 [PB g p true] [.pointer (some ⟨g,0,none⟩),.int .i64 8] (XR r.1) (fun z=>z.v) (fun z=>[PB g r.2 true,gB z.T true]):=by
 refine⟨by kernel_rfl,fun B w hD hL0=>?_⟩
 obtain⟨f,rfl⟩:∃k,f=k+1:=⟨f-1,by cases f with
 |zero=>simp[lev] at hr
 |succ k=>rfl⟩
 rw[lev,if_neg (by decide),if_pos rfl] at hr;refine cB2 68 Tryz.func62 hL0 ?_;refine A2 ?_;refine r_alloc [_,_,_,_,_,_,_] 7 (fun g=>[_,⟨some g,30,_,7,true⟩]) rfl rfl z30 rfl rfl (fun _=>rfl) (fun g0=>?_);refine A12 ?_;refine Kr 11 (.bool false) ?_;refine A7 ?_;refine Kr 24 (.bool true) ?_;refine A5 ?_;refine at_regionM ?_;refine A1 ?_;refine Gm 1 [0] [] (fun z=>[PB g r.2 true,_,gB z.T true]) (HP f (Nat.lt_succ_self f) g p r hg hr) (fun z=>?_);refine So 1 0 [_,⟨some g0,30,_,7,true⟩,_] [_,_,_,_,_,_,_] ?_;refine A5 ?_;refine at_end1 rfl (res_cell 1 rfl rfl ti30 (vs:=[_,_,_,_,_,_,_]) rfl rfl (Nat.le_of_ble_eq_true rfl) rfl) (fun w hL=>⟨z,rfl,(show Weak _ [PB g r.2 true,gB z.T true] from(weak_pk [some 0,some 2])) _ _ hL⟩)
theorem c_p_level_bin(f:Nat)(H:∀k,k<f→LevC k)(HP:∀k,k<f→PriC k)(HA:∀k,k<f→ArgC k)(g n:Nat)(p:Ps)(r:XT×Ps)(hg:p.good)(hn1:1≤n)(hn8:n≤7)(hn3:n≠3)(hr:lev f n p=some r):ECall Tryz.prog 62 [PB g p true] [.pointer (some ⟨g,0,none⟩),.int .i64 (n:Nat)] (XR r.1) (fun z=>z.v) (fun z=>[PB g r.2 true,gB z.T true]):=by
 refine⟨by kernel_rfl,fun B w hD hL0=>?_⟩
 obtain⟨f,rfl⟩:∃k,f=k+1:=⟨f-1,by cases f with
 |zero=>simp[lev] at hr
 |succ k=>rfl⟩
 rw[lev,if_neg hn3,if_neg (by omega)] at hr;obtain⟨r1,h1,h2⟩:=Option.bind_eq_some_iff.1 hr;refine cB2 68 Tryz.func62 hL0 ?_;refine A2 ?_;refine r_alloc [_,_,_,_,_,_,_] 7 (fun g=>[_,⟨some g,30,_,7,true⟩]) rfl rfl z30 rfl rfl (fun _=>rfl) (fun g0=>?_);refine A15 ?_;refine Cd ?_ ?_<;>intro hb0
 ·exact absurd (eq_of_beq hb0) (by omega)
 ·refine A6 ?_;refine Cd ?_ ?_<;>intro hb1
  ·exact absurd (eq_of_beq hb1) (by omega)
  ·refine A4 ?_;refine at_regionM ?_;refine A2 ?_;refine Ar (((n+1:Nat):Int)) ?_;refine Gm 1 [0] [] (fun z=>[PB g r1.2 true,_,gB z.T true]) (H f (Nat.lt_succ_self f) g (n+1) p r1 hg (by omega) (by omega) h1) (fun z=>?_);refine r_alloc [_,_,_,_,_,_,_] 7 (fun g=>[_,_,_,⟨some g,30,_,7,true⟩]) rfl rfl z30 rfl rfl (fun _=>rfl) (fun g1=>?_);refine So 3 0 [_,_,_,⟨some g1,30,_,7,true⟩] [_,_,_,_,_,_,_] ?_;refine A9 ?_;refine El (ι:=LvS (f+1) n r) (fun⟨b,k,x,p1,hp,z,hb,hf⟩=>([(0,.pointer (some ⟨g,0,none⟩)),(1,.int .i64 (n:Nat)),(4,.pointer (some ⟨g0,0,none⟩)),(5,.pointer (some ⟨g1,0,none⟩)),(6,.bool b)],[PB g p1 true,ZB g0,gB z.T true,XB g1 z],if b=true then k+1 else 0)) ⟨true,f,r1.1,r1.2,(read_good _).1 _ _ _ hg h1,z,fun _=>⟨h2,Nat.lt_succ_self f⟩,fun h=>(by cases h)⟩ ?_;rintro⟨b,k,x,p1,hp,z,hb,hf⟩;(try dsimp only);refine A5 ?_;refine Rs 32 ?_ ?_<;>intro hb3
   ·have hbt:b=true:=hb3;obtain⟨hlv,hk⟩:=hb hbt;refine A4 ?_;refine Kr 36 (.bool p1.fail) ?_;refine A4 ?_;refine Cd ?_ ?_<;>intro hb4
    ·have hnf:p1.fail=false:=by simpa using hb4
     refine A10 ?_;refine r_scall [] [] rfl rfl rfl c_syntax_operators trivial rfl (.inr fun _ b hb=>by rw[List.mem_singleton.1 hb]) (fun go=>?_);refine A5 ?_;refine El (ι:={i:Nat // i≤12∧(opsT.take i).find? (fun o=>o.2.2==n&&p1.is o.1)=none}) (fun⟨i,hi,hI⟩=>([(0,.pointer (some ⟨g,0,none⟩)),(1,.int .i64 (n:Nat)),(4,.pointer (some ⟨g0,0,none⟩)),(5,.pointer (some ⟨g1,0,none⟩)),(6,.bool false),(39,slv (some go) 0 12 12),(40,.int .i64 12),(41,.int .i64 (i:Nat))],[PB g p1 true,ZB g0,gB z.T true,XB g1 z,⟨some go,110,tabC opsT,36,true⟩],12-i)) ⟨0,Nat.zero_le _,rfl⟩ ?_;rintro⟨i,hi,hI⟩;(try dsimp only);refine A6 ?_;refine Cd ?_ ?_<;>intro hb6
     ·have hlt:i<12:=(by have:=of_decide_eq_true hb6;omega);obtain⟨o,ho⟩:∃o,opsT[i]? =some o:=⟨opsT[i]'(by show i<12;exact hlt),List.getElem?_eq_getElem _⟩;refine A6 ?_;refine Ix 4 (i*3) ?_;refine r_load (v:= .agg #[.string (strU o.1),.int .i64 (o.2.1:Nat),.int .i64 (o.2.2:Nat)]) 4 (i*3) _ rfl rfl rfl rfl ti110 (tabC_get ho) rfl (by decide) rfl ?_;refine r_alloc [_,_,_] 3 (fun g=>[_,_,_,_,_,⟨some g,110,_,3,true⟩]) rfl rfl z110 rfl rfl (fun _=>rfl) (fun g2=>?_);refine So 5 0 [_,_,_,_,_,⟨some g2,110,_,3,true⟩] [_,_,_] ?_;refine A3 ?_;refine at_regionM ?_;refine A5 ?_;refine Rs 49 ?_ ?_<;>intro hb7
      ·have hon:(o.2.2==n)=true:=by have hh:=hb7;simp only[beq_iff_eq,beq_eq_false_iff_ne,ne_eq] at hh ⊢;omega
       refine A3 ?_;refine Gm 1 [0] [] (fun _=>[PB g (p1.tk o.1) true,_,_,_,_,_]) (c_p_take p1 hp.1 o.1 g) (fun _=>?_);refine A3 ?_;refine Cd ?_ ?_<;>intro hb8
       ·have his:p1.is o.1=true:=hb8;have htk:p1.tk o.1=p1.adv:=by unfold Ps.tk;rw[his];rfl
        rw[htk];have hop:opAt n p1=some o.2.1:=by unfold opAt;rw[find_some_at hI ho (by rw[hon,his];rfl)];rfl
        obtain⟨k,rfl,r2,h5,h6⟩:=levs_some hlv hnf hop;refine A1 ?_;refine at_drawnEM (X:=XR r2.1×Nat) (l':=[⟨_,_,_,_,_,_⟩,⟨_,_,_,_,_,_⟩,⟨_,_,_,_,_,_⟩]) (fun⟨u,g4⟩=>[(0,.pointer (some ⟨g,0,none⟩)),(1,.int .i64 (n:Nat)),(4,.pointer (some ⟨g0,0,none⟩)),(5,.pointer (some ⟨g1,0,none⟩))]) (fun⟨u,g4⟩=>[PB g r2.2 true,ZB g0,gB z.T true,⟨some g1,30,[.int .i64 (o.2.1:Nat),.string ⟨#[]⟩,.bool false,.string ⟨#[]⟩,.bool false,.string ⟨#[]⟩,.slice (some ⟨g4,0,none⟩) 2 2],7,true⟩,⟨some go,110,tabC opsT,36,true⟩,⟨some g2,110,OC3 o,3,true⟩,gB u.T true,⟨some g4,30,z.cs++u.cs,14,true⟩]) [3,4,5] 7 mixed (by kernel_rfl) rfl ?_ ?_
        ·refine A2 ?_;refine Ar (((n+1:Nat):Int)) ?_;refine A1 ?_;refine Tn3 0 2 6 ?_ ?_ ?_
         ·refine A2 ?_;refine Tn3 1 2 6 ?_ ?_ ?_
          ·refine A2 ?_;refine Tn2 2 6 ?_ ?_
           ·refine Ld 3 0 [_,_,_,_,_,_,_] ti30 ?_;refine A1 ?_;refine Tn1 6 ?_
            ·refine Gm 1 [0] [] (fun u=>[PB g r2.2 true,_,_,_,_,_,gB u.T true]) (H k (by omega) g (n+1) p1.adv r2 (Ps.adv_good hp.1) (by omega) (by omega) h5) (fun u=>?_);refine A1 ?_;refine Tn1 7 ?_
             ·refine r_buildSlice [(0,_),(1,_)] (fun g=>[_,_,_,_,_,_,_,⟨some g,30,_,14,true⟩]) rfl rfl rfl (bs28_2) rfl (fun _=>rfl) (fun g3=>?_);refine A1 ?_;refine Tn1 8 ?_
              ·refine r_build [(0,_),(3,_)] rfl rfl rfl (bd30_0_3x) ?_;refine A1 ?_;refine Tn1 9 ?_
               ·refine So 3 0 [_,_,_,⟨some g1,30,_,7,true⟩,_,_,_,_] [_,_,_,_,_,_,_] ?_;refine A1 ?_;refine tr_nil (by kernel_rfl) ?_;exact⟨⟨u,g3⟩,rfl,⟨rfl,rfl,rfl,rfl,trivial⟩,List.Perm.refl _⟩
           ·refine Gm 1 [0] [] (fun u=>[PB g r2.2 true,_,_,_,_,_,gB u.T true]) (H k (by omega) g (n+1) p1.adv r2 (Ps.adv_good hp.1) (by omega) (by omega) h5) (fun u=>?_);refine A1 ?_;refine Tn1 2 ?_
            ·refine Ld 3 0 [_,_,_,_,_,_,_] ti30 ?_;refine A1 ?_;refine Tn1 7 ?_
             ·refine r_buildSlice [(0,_),(1,_)] (fun g=>[_,_,_,_,_,_,_,⟨some g,30,_,14,true⟩]) rfl rfl rfl (bs28_2) rfl (fun _=>rfl) (fun g3=>?_);refine A1 ?_;refine Tn1 8 ?_
              ·refine r_build [(0,_),(3,_)] rfl rfl rfl (bd30_0_3x) ?_;refine A1 ?_;refine Tn1 9 ?_
               ·refine So 3 0 [_,_,_,⟨some g1,30,_,7,true⟩,_,_,_,_] [_,_,_,_,_,_,_] ?_;refine A1 ?_;refine tr_nil (by kernel_rfl) ?_;exact⟨⟨u,g3⟩,rfl,⟨rfl,rfl,rfl,rfl,trivial⟩,List.Perm.refl _⟩
          ·refine Ld 3 0 [_,_,_,_,_,_,_] ti30 ?_;refine A1 ?_;refine Tn2 1 6 ?_ ?_
           ·refine A2 ?_;refine Tn1 6 ?_
            ·refine Gm 1 [0] [] (fun u=>[PB g r2.2 true,_,_,_,_,_,gB u.T true]) (H k (by omega) g (n+1) p1.adv r2 (Ps.adv_good hp.1) (by omega) (by omega) h5) (fun u=>?_);refine A1 ?_;refine Tn1 7 ?_
             ·refine r_buildSlice [(0,_),(1,_)] (fun g=>[_,_,_,_,_,_,_,⟨some g,30,_,14,true⟩]) rfl rfl rfl (bs28_2) rfl (fun _=>rfl) (fun g3=>?_);refine A1 ?_;refine Tn1 8 ?_
              ·refine r_build [(0,_),(3,_)] rfl rfl rfl (bd30_0_3x) ?_;refine A1 ?_;refine Tn1 9 ?_
               ·refine So 3 0 [_,_,_,⟨some g1,30,_,7,true⟩,_,_,_,_] [_,_,_,_,_,_,_] ?_;refine A1 ?_;refine tr_nil (by kernel_rfl) ?_;exact⟨⟨u,g3⟩,rfl,⟨rfl,rfl,rfl,rfl,trivial⟩,List.Perm.refl _⟩
           ·refine Gm 1 [0] [] (fun u=>[PB g r2.2 true,_,_,_,_,_,gB u.T true]) (H k (by omega) g (n+1) p1.adv r2 (Ps.adv_good hp.1) (by omega) (by omega) h5) (fun u=>?_);refine A1 ?_;refine Tn2 1 7 ?_ ?_
            ·refine A2 ?_;refine Tn1 7 ?_
             ·refine r_buildSlice [(0,_),(1,_)] (fun g=>[_,_,_,_,_,_,_,⟨some g,30,_,14,true⟩]) rfl rfl rfl (bs28_2) rfl (fun _=>rfl) (fun g3=>?_);refine A1 ?_;refine Tn1 8 ?_
              ·refine r_build [(0,_),(3,_)] rfl rfl rfl (bd30_0_3x) ?_;refine A1 ?_;refine Tn1 9 ?_
               ·refine So 3 0 [_,_,_,⟨some g1,30,_,7,true⟩,_,_,_,_] [_,_,_,_,_,_,_] ?_;refine A1 ?_;refine tr_nil (by kernel_rfl) ?_;exact⟨⟨u,g3⟩,rfl,⟨rfl,rfl,rfl,rfl,trivial⟩,List.Perm.refl _⟩
            ·refine r_buildSlice [(0,_),(1,_)] (fun g=>[_,_,_,_,_,_,_,⟨some g,30,_,14,true⟩]) rfl rfl rfl (bs28_2) rfl (fun _=>rfl) (fun g3=>?_);refine A1 ?_;refine Tn1 1 ?_
             ·refine A2 ?_;refine Tn1 8 ?_
              ·refine r_build [(0,_),(3,_)] rfl rfl rfl (bd30_0_3x) ?_;refine A1 ?_;refine Tn1 9 ?_
               ·refine So 3 0 [_,_,_,⟨some g1,30,_,7,true⟩,_,_,_,_] [_,_,_,_,_,_,_] ?_;refine A1 ?_;refine tr_nil (by kernel_rfl) ?_;exact⟨⟨u,g3⟩,rfl,⟨rfl,rfl,rfl,rfl,trivial⟩,List.Perm.refl _⟩
          ·refine Gm 1 [0] [] (fun u=>[PB g r2.2 true,_,_,_,_,_,gB u.T true]) (H k (by omega) g (n+1) p1.adv r2 (Ps.adv_good hp.1) (by omega) (by omega) h5) (fun u=>?_);refine A1 ?_;refine Tn2 1 2 ?_ ?_
           ·refine A2 ?_;refine Tn1 2 ?_
            ·refine Ld 3 0 [_,_,_,_,_,_,_] ti30 ?_;refine A1 ?_;refine Tn1 7 ?_
             ·refine r_buildSlice [(0,_),(1,_)] (fun g=>[_,_,_,_,_,_,_,⟨some g,30,_,14,true⟩]) rfl rfl rfl (bs28_2) rfl (fun _=>rfl) (fun g3=>?_);refine A1 ?_;refine Tn1 8 ?_
              ·refine r_build [(0,_),(3,_)] rfl rfl rfl (bd30_0_3x) ?_;refine A1 ?_;refine Tn1 9 ?_
               ·refine So 3 0 [_,_,_,⟨some g1,30,_,7,true⟩,_,_,_,_] [_,_,_,_,_,_,_] ?_;refine A1 ?_;refine tr_nil (by kernel_rfl) ?_;exact⟨⟨u,g3⟩,rfl,⟨rfl,rfl,rfl,rfl,trivial⟩,List.Perm.refl _⟩
           ·refine Ld 3 0 [_,_,_,_,_,_,_] ti30 ?_;refine A1 ?_;refine Tn2 1 7 ?_ ?_
            ·refine A2 ?_;refine Tn1 7 ?_
             ·refine r_buildSlice [(0,_),(1,_)] (fun g=>[_,_,_,_,_,_,_,⟨some g,30,_,14,true⟩]) rfl rfl rfl (bs28_2) rfl (fun _=>rfl) (fun g3=>?_);refine A1 ?_;refine Tn1 8 ?_
              ·refine r_build [(0,_),(3,_)] rfl rfl rfl (bd30_0_3x) ?_;refine A1 ?_;refine Tn1 9 ?_
               ·refine So 3 0 [_,_,_,⟨some g1,30,_,7,true⟩,_,_,_,_] [_,_,_,_,_,_,_] ?_;refine A1 ?_;refine tr_nil (by kernel_rfl) ?_;exact⟨⟨u,g3⟩,rfl,⟨rfl,rfl,rfl,rfl,trivial⟩,List.Perm.refl _⟩
            ·refine r_buildSlice [(0,_),(1,_)] (fun g=>[_,_,_,_,_,_,_,⟨some g,30,_,14,true⟩]) rfl rfl rfl (bs28_2) rfl (fun _=>rfl) (fun g3=>?_);refine A1 ?_;refine Tn1 1 ?_
             ·refine A2 ?_;refine Tn1 8 ?_
              ·refine r_build [(0,_),(3,_)] rfl rfl rfl (bd30_0_3x) ?_;refine A1 ?_;refine Tn1 9 ?_
               ·refine So 3 0 [_,_,_,⟨some g1,30,_,7,true⟩,_,_,_,_] [_,_,_,_,_,_,_] ?_;refine A1 ?_;refine tr_nil (by kernel_rfl) ?_;exact⟨⟨u,g3⟩,rfl,⟨rfl,rfl,rfl,rfl,trivial⟩,List.Perm.refl _⟩
         ·refine Ld 3 0 [_,_,_,_,_,_,_] ti30 ?_;refine A1 ?_;refine Tn2 0 6 ?_ ?_
          ·refine A2 ?_;refine Tn2 1 6 ?_ ?_
           ·refine A2 ?_;refine Tn1 6 ?_
            ·refine Gm 1 [0] [] (fun u=>[PB g r2.2 true,_,_,_,_,_,gB u.T true]) (H k (by omega) g (n+1) p1.adv r2 (Ps.adv_good hp.1) (by omega) (by omega) h5) (fun u=>?_);refine A1 ?_;refine Tn1 7 ?_
             ·refine r_buildSlice [(0,_),(1,_)] (fun g=>[_,_,_,_,_,_,_,⟨some g,30,_,14,true⟩]) rfl rfl rfl (bs28_2) rfl (fun _=>rfl) (fun g3=>?_);refine A1 ?_;refine Tn1 8 ?_
              ·refine r_build [(0,_),(3,_)] rfl rfl rfl (bd30_0_3x) ?_;refine A1 ?_;refine Tn1 9 ?_
               ·refine So 3 0 [_,_,_,⟨some g1,30,_,7,true⟩,_,_,_,_] [_,_,_,_,_,_,_] ?_;refine A1 ?_;refine tr_nil (by kernel_rfl) ?_;exact⟨⟨u,g3⟩,rfl,⟨rfl,rfl,rfl,rfl,trivial⟩,List.Perm.refl _⟩
           ·refine Gm 1 [0] [] (fun u=>[PB g r2.2 true,_,_,_,_,_,gB u.T true]) (H k (by omega) g (n+1) p1.adv r2 (Ps.adv_good hp.1) (by omega) (by omega) h5) (fun u=>?_);refine A1 ?_;refine Tn2 1 7 ?_ ?_
            ·refine A2 ?_;refine Tn1 7 ?_
             ·refine r_buildSlice [(0,_),(1,_)] (fun g=>[_,_,_,_,_,_,_,⟨some g,30,_,14,true⟩]) rfl rfl rfl (bs28_2) rfl (fun _=>rfl) (fun g3=>?_);refine A1 ?_;refine Tn1 8 ?_
              ·refine r_build [(0,_),(3,_)] rfl rfl rfl (bd30_0_3x) ?_;refine A1 ?_;refine Tn1 9 ?_
               ·refine So 3 0 [_,_,_,⟨some g1,30,_,7,true⟩,_,_,_,_] [_,_,_,_,_,_,_] ?_;refine A1 ?_;refine tr_nil (by kernel_rfl) ?_;exact⟨⟨u,g3⟩,rfl,⟨rfl,rfl,rfl,rfl,trivial⟩,List.Perm.refl _⟩
            ·refine r_buildSlice [(0,_),(1,_)] (fun g=>[_,_,_,_,_,_,_,⟨some g,30,_,14,true⟩]) rfl rfl rfl (bs28_2) rfl (fun _=>rfl) (fun g3=>?_);refine A1 ?_;refine Tn1 1 ?_
             ·refine A2 ?_;refine Tn1 8 ?_
              ·refine r_build [(0,_),(3,_)] rfl rfl rfl (bd30_0_3x) ?_;refine A1 ?_;refine Tn1 9 ?_
               ·refine So 3 0 [_,_,_,⟨some g1,30,_,7,true⟩,_,_,_,_] [_,_,_,_,_,_,_] ?_;refine A1 ?_;refine tr_nil (by kernel_rfl) ?_;exact⟨⟨u,g3⟩,rfl,⟨rfl,rfl,rfl,rfl,trivial⟩,List.Perm.refl _⟩
          ·refine Gm 1 [0] [] (fun u=>[PB g r2.2 true,_,_,_,_,_,gB u.T true]) (H k (by omega) g (n+1) p1.adv r2 (Ps.adv_good hp.1) (by omega) (by omega) h5) (fun u=>?_);refine A1 ?_;refine Tn2 0 7 ?_ ?_
           ·refine A2 ?_;refine Tn2 1 7 ?_ ?_
            ·refine A2 ?_;refine Tn1 7 ?_
             ·refine r_buildSlice [(0,_),(1,_)] (fun g=>[_,_,_,_,_,_,_,⟨some g,30,_,14,true⟩]) rfl rfl rfl (bs28_2) rfl (fun _=>rfl) (fun g3=>?_);refine A1 ?_;refine Tn1 8 ?_
              ·refine r_build [(0,_),(3,_)] rfl rfl rfl (bd30_0_3x) ?_;refine A1 ?_;refine Tn1 9 ?_
               ·refine So 3 0 [_,_,_,⟨some g1,30,_,7,true⟩,_,_,_,_] [_,_,_,_,_,_,_] ?_;refine A1 ?_;refine tr_nil (by kernel_rfl) ?_;exact⟨⟨u,g3⟩,rfl,⟨rfl,rfl,rfl,rfl,trivial⟩,List.Perm.refl _⟩
            ·refine r_buildSlice [(0,_),(1,_)] (fun g=>[_,_,_,_,_,_,_,⟨some g,30,_,14,true⟩]) rfl rfl rfl (bs28_2) rfl (fun _=>rfl) (fun g3=>?_);refine A1 ?_;refine Tn1 1 ?_
             ·refine A2 ?_;refine Tn1 8 ?_
              ·refine r_build [(0,_),(3,_)] rfl rfl rfl (bd30_0_3x) ?_;refine A1 ?_;refine Tn1 9 ?_
               ·refine So 3 0 [_,_,_,⟨some g1,30,_,7,true⟩,_,_,_,_] [_,_,_,_,_,_,_] ?_;refine A1 ?_;refine tr_nil (by kernel_rfl) ?_;exact⟨⟨u,g3⟩,rfl,⟨rfl,rfl,rfl,rfl,trivial⟩,List.Perm.refl _⟩
           ·refine r_buildSlice [(0,_),(1,_)] (fun g=>[_,_,_,_,_,_,_,⟨some g,30,_,14,true⟩]) rfl rfl rfl (bs28_2) rfl (fun _=>rfl) (fun g3=>?_);refine A1 ?_;refine Tn1 0 ?_
            ·refine A2 ?_;refine Tn1 1 ?_
             ·refine A2 ?_;refine Tn1 8 ?_
              ·refine r_build [(0,_),(3,_)] rfl rfl rfl (bd30_0_3x) ?_;refine A1 ?_;refine Tn1 9 ?_
               ·refine So 3 0 [_,_,_,⟨some g1,30,_,7,true⟩,_,_,_,_] [_,_,_,_,_,_,_] ?_;refine A1 ?_;refine tr_nil (by kernel_rfl) ?_;exact⟨⟨u,g3⟩,rfl,⟨rfl,rfl,rfl,rfl,trivial⟩,List.Perm.refl _⟩
         ·refine Gm 1 [0] [] (fun u=>[PB g r2.2 true,_,_,_,_,_,gB u.T true]) (H k (by omega) g (n+1) p1.adv r2 (Ps.adv_good hp.1) (by omega) (by omega) h5) (fun u=>?_);refine A1 ?_;refine Tn2 0 2 ?_ ?_
          ·refine A2 ?_;refine Tn2 1 2 ?_ ?_
           ·refine A2 ?_;refine Tn1 2 ?_
            ·refine Ld 3 0 [_,_,_,_,_,_,_] ti30 ?_;refine A1 ?_;refine Tn1 7 ?_
             ·refine r_buildSlice [(0,_),(1,_)] (fun g=>[_,_,_,_,_,_,_,⟨some g,30,_,14,true⟩]) rfl rfl rfl (bs28_2) rfl (fun _=>rfl) (fun g3=>?_);refine A1 ?_;refine Tn1 8 ?_
              ·refine r_build [(0,_),(3,_)] rfl rfl rfl (bd30_0_3x) ?_;refine A1 ?_;refine Tn1 9 ?_
               ·refine So 3 0 [_,_,_,⟨some g1,30,_,7,true⟩,_,_,_,_] [_,_,_,_,_,_,_] ?_;refine A1 ?_;refine tr_nil (by kernel_rfl) ?_;exact⟨⟨u,g3⟩,rfl,⟨rfl,rfl,rfl,rfl,trivial⟩,List.Perm.refl _⟩
           ·refine Ld 3 0 [_,_,_,_,_,_,_] ti30 ?_;refine A1 ?_;refine Tn2 1 7 ?_ ?_
            ·refine A2 ?_;refine Tn1 7 ?_
             ·refine r_buildSlice [(0,_),(1,_)] (fun g=>[_,_,_,_,_,_,_,⟨some g,30,_,14,true⟩]) rfl rfl rfl (bs28_2) rfl (fun _=>rfl) (fun g3=>?_);refine A1 ?_;refine Tn1 8 ?_
              ·refine r_build [(0,_),(3,_)] rfl rfl rfl (bd30_0_3x) ?_;refine A1 ?_;refine Tn1 9 ?_
               ·refine So 3 0 [_,_,_,⟨some g1,30,_,7,true⟩,_,_,_,_] [_,_,_,_,_,_,_] ?_;refine A1 ?_;refine tr_nil (by kernel_rfl) ?_;exact⟨⟨u,g3⟩,rfl,⟨rfl,rfl,rfl,rfl,trivial⟩,List.Perm.refl _⟩
            ·refine r_buildSlice [(0,_),(1,_)] (fun g=>[_,_,_,_,_,_,_,⟨some g,30,_,14,true⟩]) rfl rfl rfl (bs28_2) rfl (fun _=>rfl) (fun g3=>?_);refine A1 ?_;refine Tn1 1 ?_
             ·refine A2 ?_;refine Tn1 8 ?_
              ·refine r_build [(0,_),(3,_)] rfl rfl rfl (bd30_0_3x) ?_;refine A1 ?_;refine Tn1 9 ?_
               ·refine So 3 0 [_,_,_,⟨some g1,30,_,7,true⟩,_,_,_,_] [_,_,_,_,_,_,_] ?_;refine A1 ?_;refine tr_nil (by kernel_rfl) ?_;exact⟨⟨u,g3⟩,rfl,⟨rfl,rfl,rfl,rfl,trivial⟩,List.Perm.refl _⟩
          ·refine Ld 3 0 [_,_,_,_,_,_,_] ti30 ?_;refine A1 ?_;refine Tn2 0 7 ?_ ?_
           ·refine A2 ?_;refine Tn2 1 7 ?_ ?_
            ·refine A2 ?_;refine Tn1 7 ?_
             ·refine r_buildSlice [(0,_),(1,_)] (fun g=>[_,_,_,_,_,_,_,⟨some g,30,_,14,true⟩]) rfl rfl rfl (bs28_2) rfl (fun _=>rfl) (fun g3=>?_);refine A1 ?_;refine Tn1 8 ?_
              ·refine r_build [(0,_),(3,_)] rfl rfl rfl (bd30_0_3x) ?_;refine A1 ?_;refine Tn1 9 ?_
               ·refine So 3 0 [_,_,_,⟨some g1,30,_,7,true⟩,_,_,_,_] [_,_,_,_,_,_,_] ?_;refine A1 ?_;refine tr_nil (by kernel_rfl) ?_;exact⟨⟨u,g3⟩,rfl,⟨rfl,rfl,rfl,rfl,trivial⟩,List.Perm.refl _⟩
            ·refine r_buildSlice [(0,_),(1,_)] (fun g=>[_,_,_,_,_,_,_,⟨some g,30,_,14,true⟩]) rfl rfl rfl (bs28_2) rfl (fun _=>rfl) (fun g3=>?_);refine A1 ?_;refine Tn1 1 ?_
             ·refine A2 ?_;refine Tn1 8 ?_
              ·refine r_build [(0,_),(3,_)] rfl rfl rfl (bd30_0_3x) ?_;refine A1 ?_;refine Tn1 9 ?_
               ·refine So 3 0 [_,_,_,⟨some g1,30,_,7,true⟩,_,_,_,_] [_,_,_,_,_,_,_] ?_;refine A1 ?_;refine tr_nil (by kernel_rfl) ?_;exact⟨⟨u,g3⟩,rfl,⟨rfl,rfl,rfl,rfl,trivial⟩,List.Perm.refl _⟩
           ·refine r_buildSlice [(0,_),(1,_)] (fun g=>[_,_,_,_,_,_,_,⟨some g,30,_,14,true⟩]) rfl rfl rfl (bs28_2) rfl (fun _=>rfl) (fun g3=>?_);refine A1 ?_;refine Tn1 0 ?_
            ·refine A2 ?_;refine Tn1 1 ?_
             ·refine A2 ?_;refine Tn1 8 ?_
              ·refine r_build [(0,_),(3,_)] rfl rfl rfl (bd30_0_3x) ?_;refine A1 ?_;refine Tn1 9 ?_
               ·refine So 3 0 [_,_,_,⟨some g1,30,_,7,true⟩,_,_,_,_] [_,_,_,_,_,_,_] ?_;refine A1 ?_;refine tr_nil (by kernel_rfl) ?_;exact⟨⟨u,g3⟩,rfl,⟨rfl,rfl,rfl,rfl,trivial⟩,List.Perm.refl _⟩
        rintro⟨u,g4⟩;show At _ ⟨68,[(0,.pointer (some ⟨g,0,none⟩)),(1,.int .i64 (n:Nat)),(4,.pointer (some ⟨g0,0,none⟩)),(5,.pointer (some ⟨g1,0,none⟩))],[PB g r2.2 true,ZB g0,gB z.T true,⟨some g1,30,[.int .i64 (o.2.1:Nat),.string ⟨#[]⟩,.bool false,.string ⟨#[]⟩,.bool false,.string ⟨#[]⟩,.slice (some ⟨g4,0,none⟩) 2 2],7,true⟩,⟨some go,110,tabC opsT,36,true⟩,⟨some g2,110,OC3 o,3,true⟩,gB u.T true,⟨some g4,30,z.cs++u.cs,14,true⟩]⟩ _;refine A5 ?_;refine r_know 65 (.bool (n !=4)) rfl (congrArg Value.bool (by rw[Bool.eq_iff_iff];simp;omega)) ?_;refine A4 ?_;refine at_bne rfl ?_;refine A5 ?_;exact Nl ⟨n !=4,k,.node o.2.1 [x,r2.1],r2.2,(read_good _).1 _ _ _ (Ps.adv_good hp.1) h5,XR.node2 o.2.1 z u g4,fun h=>⟨by rw[if_neg (by simpa using h)] at h6;exact h6,by omega⟩,fun h=>(by rw[if_pos (by simpa using h)] at h6;exact(Option.some.inj h6).symm)⟩ (hμ:=(by show(if(n !=4)=true then k+1 else 0)<(if b=true then k+1+1 else 0);rw[if_pos hbt];split<;>omega)) (hL:=(weak_node2 o.2.1 z u))
       ·have his:p1.is o.1=false:=hb8;have htk:p1.tk o.1=p1:=by unfold Ps.tk;rw[his];rfl
        rw[htk];refine A4 ?_;refine Ar (((i+1:Nat):Int)) ?_;refine A3 ?_;exact Nl ⟨i+1,hlt,find_none_step hI ho (by rw[hon,his];rfl)⟩ (hL:=Weak.auto)
      ·have hon:(o.2.2==n)=false:=by have hh:=hb7;simp only[beq_iff_eq,beq_eq_false_iff_ne,ne_eq] at hh ⊢;omega
       refine A12 ?_;refine Ar (((i+1:Nat):Int)) ?_;refine A3 ?_;exact Nl ⟨i+1,hlt,find_none_step hI ho (by rw[hon];rfl)⟩ (hL:=Weak.auto)
     ·have hge:i=12:=(by have:=of_decide_eq_false hb6;omega);subst hge;have hop:opAt n p1=none:=by unfold opAt;rw[find_none_all hI (Nat.le_refl _)];rfl
      have hre:r=(x,p1):=levs_none hlv hop;refine A6 ?_;exact Nl ⟨false,0,x,p1,hp,z,fun h=>(by cases h),fun _=>hre⟩ (hμ:=(by show(if false=true then 0+1 else 0)<(if b=true then k+1 else 0);rw[if_pos hbt];simp)) (hL:=Weak.auto)
    ·have hnf:p1.fail=true:=by simpa using hb4
     have hre:r=(x,p1):=levs_fail hlv hnf;subst hre;refine A7 ?_;refine Ld 3 0 [_,_,_,_,_,_,_] ti30 ?_;refine Kr 67 (z.v) ?_;refine So 1 0 [_,⟨some g0,30,_,7,true⟩,_,_] [_,_,_,_,_,_,_] ?_;refine A3 ?_;refine at_end1 rfl (res_cell 1 rfl rfl ti30 (vs:=[_,_,_,_,_,_,_]) rfl rfl (Nat.le_of_ble_eq_true rfl) rfl) (fun w hL=>⟨z,rfl,(show Weak _ [PB g p1 true,gB z.T true] from(weak_pk [some 0,some 2])) _ _ hL⟩)
   ·have hbt:b=false:=hb3;have hre:r=(x,p1):=hf hbt;subst hre;refine A16 ?_;refine Ld 3 0 [_,_,_,_,_,_,_] ti30 ?_;refine Kr 67 (z.v) ?_;refine So 1 0 [_,⟨some g0,30,_,7,true⟩,_,_] [_,_,_,_,_,_,_] ?_;refine A3 ?_;refine at_end1 rfl (res_cell 1 rfl rfl ti30 (vs:=[_,_,_,_,_,_,_]) rfl rfl (Nat.le_of_ble_eq_true rfl) rfl) (fun w hL=>⟨z,rfl,(show Weak _ [PB g p1 true,gB z.T true] from(weak_pk [some 0,some 2])) _ _ hL⟩)
theorem c_p_arguments(f:Nat)(H:∀k,k<f→LevC k)(HP:∀k,k<f→PriC k)(HA:∀k,k<f→ArgC k)(g op n:Nat)(e:Bs8)(p:Ps)(r:XT×Ps)(hg:p.good)(hn:n≤3)(hr:argL f op e n 0 [] p=some r):ECall Tryz.prog 131 [PB g p true] [.pointer (some ⟨g,0,none⟩),.int .i64 (op:Nat),.int .i64 (n:Nat),.string (strU e)] (XR r.1) (fun z=>z.v) (fun z=>[PB g r.2 true,gB z.T true]):=by
 refine⟨by kernel_rfl,fun B w hD hL0=>?_⟩
 obtain⟨f,rfl⟩:∃k,f=k+1:=⟨f-1,by cases f with
 |zero=>simp[argL] at hr
 |succ k=>rfl⟩
 refine cB4 37 Tryz.func131 hL0 ?_;refine A2 ?_;refine r_alloc [_,_,_,_,_,_,_] 7 (fun g=>[_,⟨some g,30,_,7,true⟩]) rfl rfl z30 rfl rfl (fun _=>rfl) (fun g0=>?_);refine A5 ?_;refine r_build [(0,_)] rfl rfl rfl (bd30_1) ?_;refine r_alloc [_,_,_,_,_,_,_] 7 (fun g=>[_,_,⟨some g,30,_,7,true⟩]) rfl rfl z30 rfl rfl (fun _=>rfl) (fun g1=>?_);refine So 2 0 [_,_,⟨some g1,30,_,7,true⟩] [_,_,_,_,_,_,_] ?_;refine A10 ?_;refine El (ι:=ArS (f+1) op e n r) (fun⟨k,i,l,p1,hp,z,hl,hk,hi,hr1⟩=>([(0,.pointer (some ⟨g,0,none⟩)),(3,.string (strU e)),(8,.pointer (some ⟨g0,0,none⟩)),(9,.pointer (some ⟨g1,0,none⟩)),(13,.int .i64 (n:Nat)),(14,.int .i64 (i:Nat))],[PB g p1 true,ZB g0,AB g1 op z,gB z.T true,⟨z.b,30,z.cs,z.n,true⟩],k)) ⟨f+1,0,[],p,hg,XA.zero,rfl,Nat.le_refl _,Nat.zero_le _,hr⟩ ?_ (hL:=(Weak.trans (Weak.newG _) (Weak.nilB _ (by decide))));rintro⟨k,i,l,p1,hp,z,hl,hk,hi,hr1⟩;(try dsimp only);refine A6 ?_;refine Cd ?_ ?_<;>intro hb1
 ·have hlt:i<n:=(by have:=of_decide_eq_true hb1;omega);refine A17 ?_;refine Cd ?_ ?_<;>intro hb2
  ·have hi0:0<i:=(by have:=of_decide_eq_true hb2;omega);refine at_regionM ?_;refine A1 ?_;refine Gm 1 [0] [] (fun _=>[PB g (p1.want tComma) true,_,_,_,_]) (c_p_want p1 hp.1 tComma g) (fun _=>?_);obtain⟨q,hq⟩:∃q,p1.want tComma=q:=⟨_,rfl⟩;rw[hq];have hqg:q.good:=by rw[←hq];exact Ps.want_good hp
   have hqq:(if 0<i then p1.want tComma else p1)=q:=(by rw[if_pos hi0];exact hq);refine A9 ?_;refine Kr 24 (.bool q.fail) ?_;refine A2 ?_;refine Cd ?_ ?_<;>intro hb3
   ·have hnf:q.fail=true:=hb3;have hre:r=(.node op l,q.want e):=argL_fail hr1 hlt (by rw[hqq];exact hnf) hqq;subst hre;refine A2 ?_;refine at_bne rfl ?_;refine A5 ?_;refine at_regionM ?_;refine A2 ?_;refine Gm 1 [0] [] (fun _=>[PB g (q.want e) true,_,_,_,_]) (c_p_want q hqg.1 e g) (fun _=>?_);refine A4 ?_;refine Ld 2 0 [_,_,_,_,_,_,_] ti30 ?_;refine So 1 0 [_,⟨some g0,30,_,7,true⟩,_,_,_] [_,_,_,_,_,_,_] ?_;refine A3 ?_;refine at_end1 rfl (res_cell 1 rfl rfl ti30 (vs:=[_,_,_,_,_,_,_]) rfl rfl (Nat.le_of_ble_eq_true rfl) rfl) (fun w hL=>⟨z.fin op,rfl,(weak_args op z) _ _ hL⟩)
   ·have hnf:q.fail=false:=hb3;obtain⟨k,rfl,r2,h5,h6⟩:=argL_go hr1 hlt (by rw[hqq];exact hnf) hqq;refine A2 ?_;refine at_drawnEM (X:=XR r2.1×Nat×AR (l.length+1) 7) (l':=[⟨_,_,_,_,_,_⟩]) (fun⟨u,g5,ar⟩=>[(0,.pointer (some ⟨g,0,none⟩)),(3,.string (strU e)),(8,.pointer (some ⟨g0,0,none⟩)),(9,.pointer (some ⟨g1,0,none⟩)),(13,.int .i64 (n:Nat)),(14,.int .i64 (i:Nat))]) (fun⟨u,g5,ar⟩=>[PB g r2.2 true,ZB g0,⟨some g1,30,[.int .i64 (op:Nat),.string ⟨#[]⟩,.bool false,.string ⟨#[]⟩,.bool false,.string ⟨#[]⟩,slv (some ar.g) 0 (l.length+1) ar.cap],7,true⟩,gB z.T true,⟨some ar.g,30,z.cs++u.cs,ar.n,true⟩,gB u.T true,⟨some g5,30,u.cs,7,true⟩]) [2] 7 mixed (by kernel_rfl) rfl ?_ ?_
    ·refine A2 ?_;refine Tn2 0 3 ?_ ?_
     repeat' first
      |(refine q_append (b:=⟨z.b,30,z.cs,z.n,true⟩) (len:=l.length) (cap:=z.cap) (n2:=1) 4 6 (fun ar=>[_,_,_,_,⟨some ar.g,30,z.cs++u.cs,ar.n,true⟩,_,_]) u28 el30 rfl rfl rfl rfl rfl rfl rfl rfl rfl rfl rfl rfl z.hlen z.hcap z.hn rfl (fun v hv=>simpleT_one u.cs_simple v hv) (by omega) (fun ar=>rfl) (fun ar=>?_);refine A1 ?_;refine Td1 6 ?_)
      |(refine A2 ?_;refine Td1 7 ?_)
      |(refine r_buildSlice [(0,_)] (fun g=>[_,_,_,_,_,_,⟨some g,30,_,7,true⟩]) rfl rfl rfl (bs28_1) rfl (fun _=>rfl) (fun g2=>?_);refine A1 ?_;refine Td1 5 ?_)
      |(refine A2 ?_;refine Td1 5 ?_)
      |(refine A2 ?_;refine Td1 4 ?_)
      |(refine r_buildSlice [(0,_)] (fun g=>[_,_,_,_,_,_,⟨some g,30,_,7,true⟩]) rfl rfl rfl (bs28_1) rfl (fun _=>rfl) (fun g2=>?_);refine A1 ?_;refine Td1 1 ?_)
      |(refine A2 ?_;refine Td2 1 3 ?_ ?_)
      |(refine A2 ?_;refine Td1 3 ?_)
      |(refine Gm 1 [0] [] (fun u=>[PB g r2.2 true,_,_,_,_,gB u.T true]) (H k (by omega) g 1 q r2 hqg (by decide) (by decide) h5) (fun u=>?_);refine A1 ?_;refine Td1 4 ?_)
      |(refine Gm 1 [0] [] (fun u=>[PB g r2.2 true,_,_,_,_,gB u.T true]) (H k (by omega) g 1 q r2 hqg (by decide) (by decide) h5) (fun u=>?_);refine A1 ?_;refine Td2 1 4 ?_ ?_)
      |(refine Gm 1 [0] [] (fun u=>[PB g r2.2 true,_,_,_,_,gB u.T true]) (H k (by omega) g 1 q r2 hqg (by decide) (by decide) h5) (fun u=>?_);refine A1 ?_;refine Td2 0 4 ?_ ?_)
      |(refine A2 ?_;refine Td2 1 4 ?_ ?_)
      |(refine r_buildSlice [(0,_)] (fun g=>[_,_,_,_,_,_,⟨some g,30,_,7,true⟩]) rfl rfl rfl (bs28_1) rfl (fun _=>rfl) (fun g2=>?_);refine A1 ?_;refine Td1 0 ?_)
      |(refine A2 ?_;refine Td1 1 ?_)
      |(refine So 2 6 [_,_,⟨some g1,30,_,7,true⟩,_,_,_,_] [_,_,_,_,_,_,_] ?_;refine A1 ?_;refine tr_nil (by decide+kernel) ?_;exact⟨⟨u,g2,ar⟩,rfl,⟨rfl,rfl,rfl,rfl,rfl,rfl,trivial⟩,List.Perm.refl _⟩)
    rintro⟨u,g5,ar⟩;show At _ ⟨37,[(0,.pointer (some ⟨g,0,none⟩)),(3,.string (strU e)),(8,.pointer (some ⟨g0,0,none⟩)),(9,.pointer (some ⟨g1,0,none⟩)),(13,.int .i64 (n:Nat)),(14,.int .i64 (i:Nat))],[PB g r2.2 true,ZB g0,⟨some g1,30,[.int .i64 (op:Nat),.string ⟨#[]⟩,.bool false,.string ⟨#[]⟩,.bool false,.string ⟨#[]⟩,slv (some ar.g) 0 (l.length+1) ar.cap],7,true⟩,gB z.T true,⟨some ar.g,30,z.cs++u.cs,ar.n,true⟩,gB u.T true,⟨some g5,30,u.cs,7,true⟩]⟩ _;refine A3 ?_;refine Ar (((i+1:Nat):Int)) ?_;refine A3 ?_;exact Nl ⟨k,i+1,l++[r2.1],r2.2,(read_good _).1 _ _ _ hqg h5,z.add u ar,by rw[List.length_append,hl];rfl,by omega,hlt,h6⟩ (hμ:=(Nat.lt_succ_self k)) (hL:=(weak_add op z u ar))
  ·have hi0:¬0<i:=(by have:=of_decide_eq_false hb2;omega);have hqg:p1.good:=hp;have hqq:(if 0<i then p1.want tComma else p1)=p1:=if_neg hi0;refine A9 ?_;refine Kr 24 (.bool p1.fail) ?_;refine A2 ?_;refine Cd ?_ ?_<;>intro hb3
   ·have hnf:p1.fail=true:=hb3;have hre:r=(.node op l,p1.want e):=argL_fail hr1 hlt (by rw[hqq];exact hnf) hqq;subst hre;refine A2 ?_;refine at_bne rfl ?_;refine A5 ?_;refine at_regionM ?_;refine A2 ?_;refine Gm 1 [0] [] (fun _=>[PB g (p1.want e) true,_,_,_,_]) (c_p_want p1 hqg.1 e g) (fun _=>?_);refine A4 ?_;refine Ld 2 0 [_,_,_,_,_,_,_] ti30 ?_;refine So 1 0 [_,⟨some g0,30,_,7,true⟩,_,_,_] [_,_,_,_,_,_,_] ?_;refine A3 ?_;refine at_end1 rfl (res_cell 1 rfl rfl ti30 (vs:=[_,_,_,_,_,_,_]) rfl rfl (Nat.le_of_ble_eq_true rfl) rfl) (fun w hL=>⟨z.fin op,rfl,(weak_args op z) _ _ hL⟩)
   ·have hnf:p1.fail=false:=hb3;obtain⟨k,rfl,r2,h5,h6⟩:=argL_go hr1 hlt (by rw[hqq];exact hnf) hqq;refine A2 ?_;refine at_drawnEM (X:=XR r2.1×Nat×AR (l.length+1) 7) (l':=[⟨_,_,_,_,_,_⟩]) (fun⟨u,g5,ar⟩=>[(0,.pointer (some ⟨g,0,none⟩)),(3,.string (strU e)),(8,.pointer (some ⟨g0,0,none⟩)),(9,.pointer (some ⟨g1,0,none⟩)),(13,.int .i64 (n:Nat)),(14,.int .i64 (i:Nat))]) (fun⟨u,g5,ar⟩=>[PB g r2.2 true,ZB g0,⟨some g1,30,[.int .i64 (op:Nat),.string ⟨#[]⟩,.bool false,.string ⟨#[]⟩,.bool false,.string ⟨#[]⟩,slv (some ar.g) 0 (l.length+1) ar.cap],7,true⟩,gB z.T true,⟨some ar.g,30,z.cs++u.cs,ar.n,true⟩,gB u.T true,⟨some g5,30,u.cs,7,true⟩]) [2] 7 mixed (by kernel_rfl) rfl ?_ ?_
    ·refine A2 ?_;refine Tn2 0 3 ?_ ?_
     repeat' first
      |(refine q_append (b:=⟨z.b,30,z.cs,z.n,true⟩) (len:=l.length) (cap:=z.cap) (n2:=1) 4 6 (fun ar=>[_,_,_,_,⟨some ar.g,30,z.cs++u.cs,ar.n,true⟩,_,_]) u28 el30 rfl rfl rfl rfl rfl rfl rfl rfl rfl rfl rfl rfl z.hlen z.hcap z.hn rfl (fun v hv=>simpleT_one u.cs_simple v hv) (by omega) (fun ar=>rfl) (fun ar=>?_);refine A1 ?_;refine Td1 6 ?_)
      |(refine A2 ?_;refine Td1 7 ?_)
      |(refine r_buildSlice [(0,_)] (fun g=>[_,_,_,_,_,_,⟨some g,30,_,7,true⟩]) rfl rfl rfl (bs28_1) rfl (fun _=>rfl) (fun g2=>?_);refine A1 ?_;refine Td1 5 ?_)
      |(refine A2 ?_;refine Td1 5 ?_)
      |(refine A2 ?_;refine Td1 4 ?_)
      |(refine r_buildSlice [(0,_)] (fun g=>[_,_,_,_,_,_,⟨some g,30,_,7,true⟩]) rfl rfl rfl (bs28_1) rfl (fun _=>rfl) (fun g2=>?_);refine A1 ?_;refine Td1 1 ?_)
      |(refine A2 ?_;refine Td2 1 3 ?_ ?_)
      |(refine A2 ?_;refine Td1 3 ?_)
      |(refine Gm 1 [0] [] (fun u=>[PB g r2.2 true,_,_,_,_,gB u.T true]) (H k (by omega) g 1 p1 r2 hqg (by decide) (by decide) h5) (fun u=>?_);refine A1 ?_;refine Td1 4 ?_)
      |(refine Gm 1 [0] [] (fun u=>[PB g r2.2 true,_,_,_,_,gB u.T true]) (H k (by omega) g 1 p1 r2 hqg (by decide) (by decide) h5) (fun u=>?_);refine A1 ?_;refine Td2 1 4 ?_ ?_)
      |(refine Gm 1 [0] [] (fun u=>[PB g r2.2 true,_,_,_,_,gB u.T true]) (H k (by omega) g 1 p1 r2 hqg (by decide) (by decide) h5) (fun u=>?_);refine A1 ?_;refine Td2 0 4 ?_ ?_)
      |(refine A2 ?_;refine Td2 1 4 ?_ ?_)
      |(refine r_buildSlice [(0,_)] (fun g=>[_,_,_,_,_,_,⟨some g,30,_,7,true⟩]) rfl rfl rfl (bs28_1) rfl (fun _=>rfl) (fun g2=>?_);refine A1 ?_;refine Td1 0 ?_)
      |(refine A2 ?_;refine Td1 1 ?_)
      |(refine So 2 6 [_,_,⟨some g1,30,_,7,true⟩,_,_,_,_] [_,_,_,_,_,_,_] ?_;refine A1 ?_;refine tr_nil (by decide+kernel) ?_;exact⟨⟨u,g2,ar⟩,rfl,⟨rfl,rfl,rfl,rfl,rfl,rfl,trivial⟩,List.Perm.refl _⟩)
    rintro⟨u,g5,ar⟩;show At _ ⟨37,[(0,.pointer (some ⟨g,0,none⟩)),(3,.string (strU e)),(8,.pointer (some ⟨g0,0,none⟩)),(9,.pointer (some ⟨g1,0,none⟩)),(13,.int .i64 (n:Nat)),(14,.int .i64 (i:Nat))],[PB g r2.2 true,ZB g0,⟨some g1,30,[.int .i64 (op:Nat),.string ⟨#[]⟩,.bool false,.string ⟨#[]⟩,.bool false,.string ⟨#[]⟩,slv (some ar.g) 0 (l.length+1) ar.cap],7,true⟩,gB z.T true,⟨some ar.g,30,z.cs++u.cs,ar.n,true⟩,gB u.T true,⟨some g5,30,u.cs,7,true⟩]⟩ _;refine A3 ?_;refine Ar (((i+1:Nat):Int)) ?_;refine A3 ?_;exact Nl ⟨k,i+1,l++[r2.1],r2.2,(read_good _).1 _ _ _ hqg h5,z.add u ar,by rw[List.length_append,hl];rfl,by omega,hlt,h6⟩ (hμ:=(Nat.lt_succ_self k)) (hL:=(weak_add op z u ar))
 ·have hge:¬i<n:=(by have:=of_decide_eq_false hb1;omega);have hre:r=(.node op l,p1.want e):=argL_end hr1 hge;subst hre;refine A6 ?_;refine at_regionM ?_;refine A2 ?_;refine Gm 1 [0] [] (fun _=>[PB g (p1.want e) true,_,_,_,_]) (c_p_want p1 hp.1 e g) (fun _=>?_);refine A4 ?_;refine Ld 2 0 [_,_,_,_,_,_,_] ti30 ?_;refine So 1 0 [_,⟨some g0,30,_,7,true⟩,_,_,_] [_,_,_,_,_,_,_] ?_;refine A3 ?_;refine at_end1 rfl (res_cell 1 rfl rfl ti30 (vs:=[_,_,_,_,_,_,_]) rfl rfl (Nat.le_of_ble_eq_true rfl) rfl) (fun w hL=>⟨z.fin op,rfl,(weak_args op z) _ _ hL⟩)
theorem c_p_primary(f:Nat)(H:∀k,k<f→LevC k)(HP:∀k,k<f→PriC k)(HA:∀k,k<f→ArgC k)(g:Nat)(p:Ps)(r:XT×Ps)(hg:p.good)(hr:prim f p=some r):ECall Tryz.prog 100 [PB g p true] [.pointer (some ⟨g,0,none⟩)] (XR r.1) (fun z=>z.v) (fun z=>[PB g r.2 true,gB z.T true]):=by
 refine⟨by kernel_rfl,fun B w hD hL0=>?_⟩
 obtain⟨f,rfl⟩:∃k,f=k+1:=⟨f-1,by cases f with
 |zero=>simp[prim] at hr
 |succ k=>rfl⟩
 rw[prim] at hr;refine cB1 95 Tryz.func100 hL0 ?_;refine A2 ?_;refine r_alloc [_,_,_,_,_,_,_] 7 (fun g=>[_,⟨some g,30,_,7,true⟩]) rfl rfl z30 rfl rfl (fun _=>rfl) (fun g0=>?_);refine A9 ?_;refine Kr 12 (.bool p.fail) ?_;refine A2 ?_;refine Cd ?_ ?_<;>intro hb0
 ·have hf:p.fail=true:=hb0;rw[if_pos hf] at hr;obtain rfl:=Option.some.inj hr;refine A2 ?_;refine r_build [] rfl rfl rfl (bd30_0) ?_;refine So 1 0 [_,⟨some g0,30,_,7,true⟩] [_,_,_,_,_,_,_] ?_;refine A4 ?_;refine at_end1 rfl (res_cell 1 rfl rfl ti30 (vs:=[_,_,_,_,_,_,_]) rfl rfl (Nat.le_of_ble_eq_true rfl) rfl) (fun w hL=>⟨XR.empty,rfl,weak_leaf _ _ hL⟩)
 ·have hf:p.fail=false:=hb0;rw[if_neg (by rw[hf];simp)] at hr;refine A11 ?_;refine Kr 19 (.int .i64 (p.k:Nat)) ?_;refine A2 ?_;refine Rs 21 ?_ ?_<;>intro hb1
  ·have hk2:(p.k==2)=true:=by have hh:=hb1;simp only[beq_iff_eq,beq_eq_false_iff_ne,ne_eq] at hh ⊢;omega
   rw[if_pos (by rw[hk2];rfl)] at hr;refine A8 ?_;refine at_regionM ?_;refine A1 ?_;obtain⟨q,p1,hs⟩:=signed_form p;rw[hs] at hr;obtain rfl:=Option.some.inj hr;refine Gm 1 [0] [] (fun _=>[PB g p1 true,_]) ((by have h:=c_p_signed p hg g;rw[hs] at h;exact h)) (fun _=>?_);refine So 1 0 [_,⟨some g0,30,_,7,true⟩] [_,_,_,_,_,_,_] ?_;refine A5 ?_;refine at_end1 rfl (res_cell 1 rfl rfl ti30 (vs:=[_,_,_,_,_,_,_]) rfl rfl (Nat.le_of_ble_eq_true rfl) rfl) (fun w hL=>⟨XR.num q 1,rfl,weak_leaf _ _ hL⟩)
  ·have hk2:(p.k==2)=false:=by have hh:=hb1;simp only[beq_iff_eq,beq_eq_false_iff_ne,ne_eq] at hh ⊢;omega
   refine A1 ?_;refine r_scall0 [.pointer (some ⟨g,0,none⟩),.string (strU tMinus)] [0] rfl rfl rfl (c_p_is p tMinus g) ⟨⟨_,rfl,le_share⟩,trivial⟩ rfl ?_;refine A4 ?_;refine Cd ?_ ?_<;>intro hb2
   ·have hm:p.is tMinus=true:=hb2;rw[if_pos (by rw[hk2,hm];rfl)] at hr;refine A1 ?_;refine at_regionM ?_;refine A1 ?_;obtain⟨q,p1,hs⟩:=signed_form p;rw[hs] at hr;obtain rfl:=Option.some.inj hr;refine Gm 1 [0] [] (fun _=>[PB g p1 true,_]) ((by have h:=c_p_signed p hg g;rw[hs] at h;exact h)) (fun _=>?_);refine So 1 0 [_,⟨some g0,30,_,7,true⟩] [_,_,_,_,_,_,_] ?_;refine A5 ?_;refine at_end1 rfl (res_cell 1 rfl rfl ti30 (vs:=[_,_,_,_,_,_,_]) rfl rfl (Nat.le_of_ble_eq_true rfl) rfl) (fun w hL=>⟨XR.num q 1,rfl,weak_leaf _ _ hL⟩)
   ·have hm:p.is tMinus=false:=hb2;rw[if_neg (by rw[hk2,hm];simp)] at hr;refine A1 ?_;refine at_regionM ?_;refine A1 ?_;refine Gm 1 [0] [] (fun _=>[PB g (p.tk tOpen) true,_]) (c_p_take p hg.1 tOpen g) (fun _=>?_);refine A3 ?_;refine Cd ?_ ?_<;>intro hb3
    ·have his:p.is tOpen=true:=hb3;have htk:p.tk tOpen=p.adv:=by unfold Ps.tk;rw[his];rfl
     rw[htk];rw[if_pos his] at hr;obtain⟨r0,h0,rfl⟩:=Option.map_eq_some_iff.1 hr;refine A1 ?_;refine at_regionM ?_;refine A1 ?_;refine Gm 1 [0] [] (fun z=>[PB g r0.2 true,_,gB z.T true]) (H f (Nat.lt_succ_self f) g 1 p.adv r0 (Ps.adv_good hg.1) (by decide) (by decide) h0) (fun z=>?_);refine r_alloc [_,_,_,_,_,_,_] 7 (fun g=>[_,_,_,⟨some g,30,_,7,true⟩]) rfl rfl z30 rfl rfl (fun _=>rfl) (fun g1=>?_);refine So 3 0 [_,_,_,⟨some g1,30,_,7,true⟩] [_,_,_,_,_,_,_] ?_;refine A3 ?_;refine at_regionM ?_;refine A1 ?_;refine Gm 1 [0] [] (fun _=>[PB g (r0.2.want tShut) true,_,_,_]) (c_p_want r0.2 ((read_good _).1 _ _ _ (Ps.adv_good hg.1) h0).1 tShut g) (fun _=>?_);refine A4 ?_;refine Ld 3 0 [_,_,_,_,_,_,_] ti30 ?_;refine So 1 0 [_,⟨some g0,30,_,7,true⟩,_,_] [_,_,_,_,_,_,_] ?_;refine A5 ?_;refine at_end1 rfl (res_cell 1 rfl rfl ti30 (vs:=[_,_,_,_,_,_,_]) rfl rfl (Nat.le_of_ble_eq_true rfl) rfl) (fun w hL=>⟨z,rfl,(show Weak _ [PB g (r0.2.want tShut) true,gB z.T true] from(weak_pk [some 0,some 2])) _ _ hL⟩)
    ·have his:p.is tOpen=false:=hb3;have htk:p.tk tOpen=p:=by unfold Ps.tk;rw[his];rfl
     rw[htk];rw[if_neg (by rw[his];simp)] at hr;refine A1 ?_;refine at_regionM ?_;refine A1 ?_;refine Gm 1 [0] [] (fun _=>[PB g (p.tk tOpenB) true,_]) (c_p_take p hg.1 tOpenB g) (fun _=>?_);refine A3 ?_;refine Cd ?_ ?_<;>intro hb4
     ·have his:p.is tOpenB=true:=hb4;have htk:p.tk tOpenB=p.adv:=by unfold Ps.tk;rw[his];rfl
      rw[htk];rw[if_pos his] at hr;refine A1 ?_;refine at_regionM ?_;refine A1 ?_;refine Gm 1 [0] [] (fun z=>[PB g r.2 true,_,gB z.T true]) (HA f (Nat.lt_succ_self f) g 6 2 tShutB p.adv r (Ps.adv_good hg.1) (by decide) hr) (fun z=>?_);refine So 1 0 [_,⟨some g0,30,_,7,true⟩,_] [_,_,_,_,_,_,_] ?_;refine A5 ?_;refine at_end1 rfl (res_cell 1 rfl rfl ti30 (vs:=[_,_,_,_,_,_,_]) rfl rfl (Nat.le_of_ble_eq_true rfl) rfl) (fun w hL=>⟨z,rfl,(show Weak _ [PB g r.2 true,gB z.T true] from(weak_pk [some 0,some 2])) _ _ hL⟩)
     ·have his:p.is tOpenB=false:=hb4;have htk:p.tk tOpenB=p:=by unfold Ps.tk;rw[his];rfl
      rw[htk];rw[if_neg (by rw[his];simp)] at hr;refine A1 ?_;refine at_regionM ?_;refine A1 ?_;refine Gm 1 [0] [] (fun _=>[PB g (p.tk tPoint) true,_]) (c_p_take p hg.1 tPoint g) (fun _=>?_);refine A3 ?_;refine Cd ?_ ?_<;>intro hb5
      ·have his:p.is tPoint=true:=hb5;have htk:p.tk tPoint=p.adv:=by unfold Ps.tk;rw[his];rfl
       rw[htk];rw[if_pos his] at hr;refine A1 ?_;obtain⟨x1,p2,hs1⟩:=signed_form (p.adv.want tOpen);obtain⟨x2,p3,hs2⟩:=signed_form (p2.want tComma);have hpt:p.adv.pointX=(.node 2 [.numd 1 x1,.numd 1 x2],p3.want tShut):=by unfold Ps.pointX;dsimp only;rw[hs1];dsimp only;rw[hs2]
       rw[hpt] at hr;obtain rfl:=Option.some.inj hr;refine at_regionM ?_;refine A1 ?_;refine Gm 1 [0] [] (fun _=>[PB g (p.adv.want tOpen) true,_]) (c_p_want p.adv (Ps.adv_ok hg.1) tOpen g) (fun _=>?_);refine A3 ?_;refine at_regionM ?_;refine A1 ?_;have hp2:p2.good:=by have h:=Ps.signed_good (Ps.want_good (x:=tOpen) (Ps.adv_good hg.1));rw[hs1] at h;exact h
       refine Gm 1 [0] [] (fun _=>[PB g p2 true,_]) ((by have h:=c_p_signed (p.adv.want tOpen) (Ps.want_good (Ps.adv_good hg.1)) g;rw[hs1] at h;exact h)) (fun _=>?_);refine r_alloc [_,_,_,_,_,_,_] 7 (fun g=>[_,_,⟨some g,30,_,7,true⟩]) rfl rfl z30 rfl rfl (fun _=>rfl) (fun g1=>?_);refine So 2 0 [_,_,⟨some g1,30,_,7,true⟩] [_,_,_,_,_,_,_] ?_;refine A3 ?_;refine at_regionM ?_;refine A1 ?_;refine Gm 1 [0] [] (fun _=>[PB g (p2.want tComma) true,_,_]) (c_p_want p2 hp2.1 tComma g) (fun _=>?_);refine A3 ?_;refine at_regionM ?_;refine A1 ?_;have hp3:p3.good:=by have h:=Ps.signed_good (Ps.want_good (x:=tComma) hp2);rw[hs2] at h;exact h
       refine Gm 1 [0] [] (fun _=>[PB g p3 true,_,_]) ((by have h:=c_p_signed (p2.want tComma) (Ps.want_good hp2) g;rw[hs2] at h;exact h)) (fun _=>?_);refine r_alloc [_,_,_,_,_,_,_] 7 (fun g=>[_,_,_,⟨some g,30,_,7,true⟩]) rfl rfl z30 rfl rfl (fun _=>rfl) (fun g2=>?_);refine So 3 0 [_,_,_,⟨some g2,30,_,7,true⟩] [_,_,_,_,_,_,_] ?_;refine A3 ?_;refine at_regionM ?_;refine A1 ?_;refine Gm 1 [0] [] (fun _=>[PB g (p3.want tShut) true,_,_,_]) (c_p_want p3 hp3.1 tShut g) (fun _=>?_);refine A4 ?_;refine Ld 2 0 [_,_,_,_,_,_,_] ti30 ?_;refine Ld 3 0 [_,_,_,_,_,_,_] ti30 ?_;refine r_buildSlice [(0,_),(1,_)] (fun g=>[_,_,_,_,⟨some g,30,_,14,true⟩]) rfl rfl rfl (bs28_2) rfl (fun _=>rfl) (fun g3=>?_);refine r_build [(0,_),(3,_)] rfl rfl rfl (bd30_0_3x) ?_;refine So 1 0 [_,⟨some g0,30,_,7,true⟩,_,_,_] [_,_,_,_,_,_,_] ?_;refine A5 ?_;refine at_end1 rfl (res_cell 1 rfl rfl ti30 (vs:=[_,_,_,_,_,_,_]) rfl rfl (Nat.le_of_ble_eq_true rfl) rfl) (fun w hL=>⟨XR.node2 2 (XR.num x1 1) (XR.num x2 1) g3,rfl,weak_pt 2 (XR.num x1 1) (XR.num x2 1) rfl rfl _ _ hL⟩)
      ·have his:p.is tPoint=false:=hb5;have htk:p.tk tPoint=p:=by unfold Ps.tk;rw[his];rfl
       rw[htk];rw[if_neg (by rw[his];simp)] at hr;refine A1 ?_;refine at_regionM ?_;refine A1 ?_;refine Gm 1 [0] [] (fun _=>[PB g (p.tk tObject) true,_]) (c_p_take p hg.1 tObject g) (fun _=>?_);refine A3 ?_;refine Cd ?_ ?_<;>intro hb6
       ·have his:p.is tObject=true:=hb6;have htk:p.tk tObject=p.adv:=by unfold Ps.tk;rw[his];rfl
        rw[htk];rw[if_pos his] at hr;obtain rfl:=Option.some.inj hr;refine A1 ?_;refine at_regionM ?_;refine A1 ?_;refine Gm 1 [0] [] (fun _=>[PB g (p.adv.want tOpen) true,_]) (c_p_want p.adv (Ps.adv_ok hg.1) tOpen g) (fun _=>?_);refine A3 ?_;refine at_regionM ?_;refine A1 ?_;refine Gm 1 [0] [] (fun _=>[PB g ((p.adv.want tOpen).number true).2 true,_]) (c_p_number (p.adv.want tOpen) (Ps.want_good (Ps.adv_good hg.1)) true g) (fun _=>?_);refine r_alloc [_,_,_,_] 4 (fun g=>[_,_,⟨some g,27,_,4,true⟩]) rfl rfl z27 rfl rfl (fun _=>rfl) (fun g1=>?_);refine So 2 0 [_,_,⟨some g1,27,_,4,true⟩] [_,_,_,_] ?_;refine A3 ?_;refine at_regionM ?_;refine A1 ?_;refine Gm 1 [0] [] (fun _=>[PB g (((p.adv.want tOpen).number true).2.want tShut) true,_,_]) (c_p_want _ (Ps.number_good (Ps.want_good (Ps.adv_good hg.1))).1 tShut g) (fun _=>?_);refine A4 ?_;refine Ld 2 0 [_,_,_,_] ti27 ?_;refine r_know 66 (Q ((p.adv.want tOpen).number true).1) rfl rfl ?_;refine r_build [(0,_),(2,_)] rfl rfl rfl (bd30_0_2x) ?_;refine So 1 0 [_,⟨some g0,30,_,7,true⟩,_] [_,_,_,_,_,_,_] ?_;refine A5 ?_;refine at_end1 rfl (res_cell 1 rfl rfl ti30 (vs:=[_,_,_,_,_,_,_]) rfl rfl (Nat.le_of_ble_eq_true rfl) rfl) (fun w hL=>⟨XR.num ((p.adv.want tOpen).number true).1 3,rfl,weak_leaf _ _ hL⟩)
       ·have his:p.is tObject=false:=hb6;have htk:p.tk tObject=p:=by unfold Ps.tk;rw[his];rfl
        rw[htk];rw[if_neg (by rw[his];simp)] at hr;refine A1 ?_;refine at_regionM ?_;refine A1 ?_;refine Gm 1 [0] [] (fun _=>[PB g (p.tk tZone) true,_]) (c_p_take p hg.1 tZone g) (fun _=>?_);refine A3 ?_;refine Cd ?_ ?_<;>intro hb7
        ·have his:p.is tZone=true:=hb7;have htk:p.tk tZone=p.adv:=by unfold Ps.tk;rw[his];rfl
         rw[htk];rw[if_pos his] at hr;obtain rfl:=Option.some.inj hr;refine A1 ?_;refine at_regionM ?_;refine A1 ?_;refine Gm 1 [0] [] (fun _=>[PB g p.adv.zone.2 true,_]) (c_p_zone p.adv (Ps.adv_good hg.1) g) (fun _=>?_);refine r_know 72 ((XR.named (p.adv.want tOpen).tx 5).v) rfl (leaf_named 5 _) ?_;refine So 1 0 [_,⟨some g0,30,_,7,true⟩] [_,_,_,_,_,_,_] ?_;refine A5 ?_;refine at_end1 rfl (res_cell 1 rfl rfl ti30 (vs:=[_,_,_,_,_,_,_]) rfl rfl (Nat.le_of_ble_eq_true rfl) rfl) (fun w hL=>⟨XR.named (p.adv.want tOpen).tx 5,rfl,weak_leaf _ _ hL⟩)
        ·have his:p.is tZone=false:=hb7;have htk:p.tk tZone=p:=by unfold Ps.tk;rw[his];rfl
         rw[htk];rw[if_neg (by rw[his];simp)] at hr;refine A6 ?_;refine r_scall [] [] rfl rfl rfl c_syntax_functions trivial rfl (.inr fun _ b hb=>by rw[List.mem_singleton.1 hb]) (fun go=>?_);refine A5 ?_;refine El (ι:={i:Nat // i≤12∧(funT.take i).find? (fun o=>p.is o.1)=none}) (fun⟨i,hi,hI⟩=>([(0,.pointer (some ⟨g,0,none⟩)),(2,.pointer (some ⟨g0,0,none⟩)),(73,slv (some go) 0 12 12),(74,.int .i64 12),(75,.int .i64 (i:Nat))],[PB g p true,ZB g0,⟨some go,114,tabC funT,36,true⟩],12-i)) ⟨0,Nat.zero_le _,rfl⟩ ?_;rintro⟨i,hi,hI⟩;(try dsimp only);refine A6 ?_;refine Cd ?_ ?_<;>intro hb9
         ·have hlt:i<12:=(by have:=of_decide_eq_true hb9;omega);obtain⟨o,ho⟩:∃o,funT[i]? =some o:=⟨funT[i]'(by show i<12;exact hlt),List.getElem?_eq_getElem _⟩;refine A6 ?_;refine Ix 2 (i*3) ?_;refine r_load (v:= .agg #[.string (strU o.1),.int .i64 (o.2.1:Nat),.int .i64 (o.2.2:Nat)]) 2 (i*3) _ rfl rfl rfl rfl ti114 (tabC_get ho) rfl (by decide) rfl ?_;refine r_alloc [_,_,_] 3 (fun g=>[_,_,_,⟨some g,114,_,3,true⟩]) rfl rfl z114 rfl rfl (fun _=>rfl) (fun g1=>?_);refine So 3 0 [_,_,_,⟨some g1,114,_,3,true⟩] [_,_,_] ?_;refine A3 ?_;refine at_regionM ?_;refine A3 ?_;refine Gm 1 [0] [] (fun _=>[PB g (p.tk o.1) true,_,_,_]) (c_p_take p hg.1 o.1 g) (fun _=>?_);refine A2 ?_;refine Cd ?_ ?_<;>intro hb10
          ·have his:p.is o.1=true:=hb10;have htk:p.tk o.1=p.adv:=by unfold Ps.tk;rw[his];rfl
           rw[htk];have hfn:funAt p=some (o.2.1,o.2.2):=by unfold funAt;rw[find_some_at hI ho his];rfl
           rw[hfn] at hr;dsimp only at hr;refine A1 ?_;refine at_regionM ?_;refine A1 ?_;refine Gm 1 [0] [] (fun _=>[PB g (p.adv.want tOpen) true,_,_,_]) (c_p_want p.adv (Ps.adv_ok hg.1) tOpen g) (fun _=>?_);refine A3 ?_;refine at_regionM ?_;refine A5 ?_;refine Gm 1 [0] [] (fun z=>[PB g r.2 true,_,_,_,gB z.T true]) (HA f (Nat.lt_succ_self f) g o.2.1 o.2.2 tShut (p.adv.want tOpen) r (Ps.want_good (Ps.adv_good hg.1)) (funT_le ho) hr) (fun z=>?_);refine So 1 0 [_,⟨some g0,30,_,7,true⟩,_,_,_] [_,_,_,_,_,_,_] ?_;refine A8 ?_;refine at_end1 rfl (res_cell 1 rfl rfl ti30 (vs:=[_,_,_,_,_,_,_]) rfl rfl (Nat.le_of_ble_eq_true rfl) rfl) (fun w hL=>⟨z,rfl,(show Weak _ [PB g r.2 true,gB z.T true] from(weak_pk [some 0,some 4])) _ _ hL⟩)
          ·have his:p.is o.1=false:=hb10;have htk:p.tk o.1=p:=by unfold Ps.tk;rw[his];rfl
           rw[htk];refine A4 ?_;refine Ar (((i+1:Nat):Int)) ?_;refine A3 ?_;exact Nl ⟨i+1,hlt,find_none_step hI ho his⟩ (hL:=Weak.auto)
         ·have hge:i=12:=(by have:=of_decide_eq_false hb9;omega);subst hge;have hfn:funAt p=none:=by unfold funAt;rw[find_none_all hI (Nat.le_refl _)];rfl
          rw[hfn] at hr;obtain rfl:=Option.some.inj hr;refine A6 ?_;refine at_regionM ?_;refine A1 ?_;refine Gm 1 [0] [] (fun _=>[PB g p.name true,_,_]) (c_p_name p hg.1 g) (fun _=>?_);refine r_build [(0,_),(1,_)] rfl rfl rfl (bd30_2) ?_;refine So 1 0 [_,⟨some g0,30,_,7,true⟩,_] [_,_,_,_,_,_,_] ?_;refine A3 ?_;refine at_end1 rfl (res_cell 1 rfl rfl ti30 (vs:=[_,_,_,_,_,_,_]) rfl rfl (Nat.le_of_ble_eq_true rfl) rfl) (fun w hL=>⟨XR.named p.tx 4,rfl,weak_leaf _ _ hL⟩)
theorem c_read(f:Nat):LevC f∧PriC f∧ArgC f:=by
 induction f using Nat.strongRecOn with
 |ind f ih=>
  have H:∀k,k<f→LevC k:=fun k hk=>(ih k hk).1
  have HP:∀k,k<f→PriC k:=fun k hk=>(ih k hk).2.1
  have HA:∀k,k<f→ArgC k:=fun k hk=>(ih k hk).2.2
  refine⟨fun g n p r hg h1 h8 hr=>?_,fun g p r hg hr=>c_p_primary f H HP HA g p r hg hr,fun g op n e p r hg hn hr=>c_p_arguments f H HP HA g op n e p r hg hn hr⟩
  by_cases h3:n=3
  ·subst h3
   exact c_p_level_not f H HP HA g p r hg hr
  ·by_cases h9:n=8
   ·subst h9
    exact c_p_level_prim f H HP HA g p r hg hr
   ·exact c_p_level_bin f H HP HA g n p r hg h1 (by omega) h3 hr
theorem c_p_level(f g n:Nat)(p:Ps)(r:XT×Ps)(hg:p.good)(h1:1≤n)(h8:n≤8)(hr:lev f n p=some r):
 ECall Tryz.prog 62 [PB g p true] [.pointer (some ⟨g,0,none⟩),.int .i64 (n:Nat)] (XR r.1) (fun z=>z.v) (fun z=>[PB g r.2 true,gB z.T true]):=(c_read f).1 g n p r hg h1 h8 hr
end Go.Proofs.YtfijbadahkmhbaaGreatDoor
namespace Go.Via
open Go Go.RowKit
def NumV.isZ:NumV→Bool
 | .q r=>decide (r=0)
 | .raw b1 s1 b2 s2=>(b1==false)&&((s1==⟨#[]⟩)&&((b2==false)&&(s2==⟨#[]⟩)))
noncomputable def NumV.ok:NumV→Bool
 | .q _=>true
 | .raw b1 s1 b2 s2=>isQ b1 s1 b2 s2
noncomputable def NumV.isId:NumV→Bool
 | .q r=>idOK r
 | .raw b1 s1 b2 s2=> @decide (∃q:Rat,Value.agg #[.bool b1,.string s1,.bool b2,.string s2]=Q q∧idOK q=true) (Classical.propDecidable _)
def NumV.fit:NumV→Bool
 | .q r=>decide (szQ r≤1000000)
 | .raw b1 s1 b2 s2=>decide (s1.size≤1000000)&&decide (s2.size≤1000000)
section
variable{u:NumV}{b1 b2:Bool}{s1 s2:ByteArray}(h:u.cells=[.bool b1,.string s1,.bool b2,.string s2])
theorem NumV.of_q{r:Rat}(h:(NumV.q r).cells=[.bool b1,.string s1,.bool b2,.string s2]):b1=decide (r.num<0)∧s1=mag r.num.natAbs∧b2=false∧s2=dm r:=by
 simp only[NumV.cells,List.cons.injEq,Value.bool.injEq,Value.string.injEq,and_true] at h
 exact⟨h.1.symm,h.2.1.symm,h.2.2.1.symm,h.2.2.2.symm⟩
theorem NumV.of_raw{c1 c2:Bool}{t1 t2:ByteArray}(h:(NumV.raw c1 t1 c2 t2).cells=[.bool b1,.string s1,.bool b2,.string s2]):b1=c1∧s1=t1∧b2=c2∧s2=t2:=by
 simp only[NumV.cells,List.cons.injEq,Value.bool.injEq,Value.string.injEq,and_true] at h
 exact⟨h.1.symm,h.2.1.symm,h.2.2.1.symm,h.2.2.2.symm⟩
theorem q0_parts:decide ((0:Rat).num<0)=false∧mag (0:Rat).num.natAbs=⟨#[]⟩∧dm 0=⟨#[]⟩:=by
 have h:=q0_cells
 simp only[NumV.cells,List.cons.injEq,Value.bool.injEq,Value.string.injEq,and_true] at h
 exact⟨h.1,h.2.1,h.2.2.2⟩
theorem NumV.isZ_cells(h:u.cells=[.bool b1,.string s1,.bool b2,.string s2]):((b1==false)&&((s1==⟨#[]⟩)&&((b2==false)&&(s2==⟨#[]⟩))))=u.isZ:=by
 cases u with
 |q r=>
  obtain⟨rfl,rfl,rfl,rfl⟩:=NumV.of_q h
  have h2:=Q_eq r 0
  obtain⟨e1,e2,e3⟩:=q0_parts
  rw[e1,e2,e3] at h2
  show _=decide (r=0)
  rw[←h2]
  simp[Bool.and_assoc]
 |raw c1 t1 c2 t2=>
  obtain⟨rfl,rfl,rfl,rfl⟩:=NumV.of_raw h
  rfl
theorem NumV.ok_cells(h:u.cells=[.bool b1,.string s1,.bool b2,.string s2]):isQ b1 s1 b2 s2=u.ok:=by
 cases u with
 |q r=>
  obtain⟨rfl,rfl,rfl,rfl⟩:=NumV.of_q h
  exact isQ_Q r
 |raw c1 t1 c2 t2=>
  obtain⟨rfl,rfl,rfl,rfl⟩:=NumV.of_raw h
  rfl
theorem NumV.fit_cells(h:u.cells=[.bool b1,.string s1,.bool b2,.string s2])(hf:u.fit=true):s1.size≤1000000∧s2.size≤1000000:=by
 cases u with
 |q r=>
  obtain⟨rfl,rfl,rfl,rfl⟩:=NumV.of_q h
  have hf:szQ r≤1000000:=of_decide_eq_true hf
  exact⟨by rw[mag_size];exact nb_num hf,dm_sz hf⟩
 |raw c1 t1 c2 t2=>
  obtain⟨rfl,rfl,rfl,rfl⟩:=NumV.of_raw h
  simpa[NumV.fit] using hf
theorem Q_inj8{p q:Rat}(h:Q p=Q q):p=q:=by
 have h2:=Q_eq p q
 unfold Q at h
 simp only[Value.agg.injEq,Array.mk.injEq,List.cons.injEq,Value.bool.injEq,Value.string.injEq,and_true,true_and] at h
 rw[h.1,h.2.1,h.2.2] at h2
 simp[bb_self] at h2
 exact h2
theorem NumV.isId_yes(h:u.cells=[.bool b1,.string s1,.bool b2,.string s2])(hf:u.fit=true)(ho:u.ok=true):∃q:Rat,b1=decide (q.num<0)∧s1=mag q.num.natAbs∧b2=false∧s2=dm q∧u.isId=idOK q∧szQ q≤1000000:=by
 cases u with
 |q r=>
  obtain⟨h1,h2,h3,h4⟩:=NumV.of_q h
  exact⟨r,h1,h2,h3,h4,rfl,of_decide_eq_true hf⟩
 |raw c1 t1 c2 t2=>
  have hs:=NumV.fit_cells h hf
  obtain⟨rfl,rfl,rfl,rfl⟩:=NumV.of_raw h
  obtain⟨q,h1,h2,h3,h4⟩:=isQ_iff.1 (show isQ b1 s1 b2 s2=true from ho)
  refine⟨q,h1,h2,h3,h4,?_,?_⟩
  ·have e:Value.agg #[.bool b1,.string s1,.bool b2,.string s2]=Q q:=by rw[h1,h2,h3,h4];rfl
   unfold NumV.isId
   by_cases hi:idOK q=true
   ·rw[hi];exact @decide_eq_true _ (Classical.propDecidable _) ⟨q,e,hi⟩
   ·rw[show idOK q=false by simpa using hi]
    exact @decide_eq_false _ (Classical.propDecidable _) fun⟨q',e',hi'⟩=>by
     rw[e] at e'
     rw[←Q_inj8 e'] at hi'
     exact hi hi'
  ·unfold szQ
   rw[h2,mag_size] at hs
   have h5:nb q.den≤1000000:=by
    have h6:=hs.2
    rw[h4] at h6
    unfold dm at h6
    split at h6
    ·rename_i hd
     rw[hd]
     have:nb 1≤1:=nb_le (k:=1) (by decide)
     omega
    ·rwa [mag_size] at h6
   omega
theorem NumV.isId_no(h:u.cells=[.bool b1,.string s1,.bool b2,.string s2])(ho:u.ok=false):u.isId=false:=by
 cases u with
 |q r=>cases ho
 |raw c1 t1 c2 t2=>
  unfold NumV.isId
  exact @decide_eq_false _ (Classical.propDecidable _) fun⟨qq,e,_⟩=>by
   have h2:isQ c1 t1 c2 t2=true:=by
    unfold isQ
    exact @decide_eq_true _ (Classical.propDecidable _) ⟨qq,e⟩
   rw[show isQ c1 t1 c2 t2=false from ho] at h2
   cases h2
end
mutual
def XT.fit:XT→Bool
 | .mk _ n u l=>decide (n.length≤1000000)&&u.fit&&XT.fits l
def XT.fits:List XT→Bool
 |[]=>true
 |x::l=>XT.fit x&&XT.fits l
end
theorem XT.fits_get:∀{l:List XT} {i:Nat} {x:XT},XT.fits l=true→l[i]? =some x→x.fit=true
 |[],i,x,_,h=>by simp at h
 |y::l,0,x,hf,h=>by
  simp at h;subst h
  unfold XT.fits at hf
  rw[Bool.and_eq_true] at hf
  exact hf.1
 |y::l,i+1,x,hf,h=>by
  unfold XT.fits at hf
  rw[Bool.and_eq_true] at hf
  exact XT.fits_get hf.2 (by simpa using h)
theorem XT.fit_parts{x:XT}(h:x.fit=true):x.name.length≤1000000∧x.num.fit=true∧XT.fits x.args=true:=by
 cases x with
 |mk o n u l=>
  unfold XT.fit at h
  simp only[Bool.and_eq_true,decide_eq_true_eq] at h
  exact⟨h.1.1,h.1.2,h.2⟩
noncomputable def nodeE(x:XT):Nat:=
 if cntL x.op<0 then 4
 else if((x.args.length:Nat):Int)≠cntL x.op∨(x.op≠1∧x.op≠3∧x.num.isZ=false)∨(x.op≠4∧x.op≠5∧x.name≠[]) then 5
 else if x.op=1∧x.num.ok=false then 5
 else if x.op=2∧((x.args.map XT.op)[0]? ≠some 1∨(x.args.map XT.op)[1]? ≠some 1) then 5
 else if x.op=3∧x.num.isId=false then 27
 else if(x.op=4∧nameL x.name=false)∨(x.op=5∧zoneL x.name=false) then 34
 else 0
mutual
noncomputable def chk:XT→Nat→Nat→Nat×Nat
 | .mk o nm u l,lv,n=>
   if 256≤n then(3,n) else if 32<lv then(33,n) else
   if nodeE (.mk o nm u l)≠0 then(nodeE (.mk o nm u l),n+1) else chks l (lv+1) (n+1)
noncomputable def chks:List XT→Nat→Nat→Nat×Nat
 |[],_,n=>(0,n)
 |x::l,lv,n=>if(chk x lv n).1≠0 then chk x lv n else chks l lv (chk x lv n).2
end
noncomputable def chkE(x:XT):Nat:=(chk x 1 0).1
theorem chk_eq(x:XT)(lv n:Nat):chk x lv n=if 256≤n then(3,n) else if 32<lv then(33,n) else if nodeE x≠0 then(nodeE x,n+1) else chks x.args (lv+1) (n+1):=by
 cases x with
 |mk o nm u l=>rw[chk];rfl
theorem chks_step{l:List XT}{i:Nat}{y:XT}{lv n:Nat}(hy:l[i]? =some y):chks (l.drop i) lv n=if(chk y lv n).1≠0 then chk y lv n else chks (l.drop (i+1)) lv (chk y lv n).2:=by
 obtain⟨hl,rfl⟩:=List.getElem?_eq_some_iff.1 hy
 rw[List.drop_eq_getElem_cons hl,chks]
theorem XR.inv{x:XT}(z:XR x):z.op=x.op∧z.nm=strU x.name∧x.num.cells=[.bool z.b1,.string z.s1,.bool z.b2,.string z.s2]∧RepL z.T x.args z.a∧z.n=x.args.length∧z.n≤z.cap:=by
 obtain⟨T,op,nm,b1,s1,b2,s2,a,n,cap,hT,h⟩:=z
 show op=x.op∧nm=strU x.name∧x.num.cells=[.bool b1,.string s1,.bool b2,.string s2]∧RepL T x.args a∧n=x.args.length∧n≤cap
 generalize hc:([.int .i64 op,.string nm,.bool b1,.string s1,.bool b2,.string s2,.slice a n cap]:List Value)=c at h
 cases h with
 |mk h hcap=>
  rename_i o nm' u l a' cap'
  have hu:∃c1 t1 c2 t2,u.cells=[.bool c1,.string t1,.bool c2,.string t2]:=by cases u<;>exact⟨_,_,_,_,rfl⟩
  obtain⟨c1,t1,c2,t2,hu⟩:=hu
  unfold xcells at hc
  rw[hu] at hc
  simp only[List.cons_append,List.nil_append,List.cons.injEq,Value.int.injEq,Value.string.injEq,Value.bool.injEq,Value.slice.injEq,true_and,and_true] at hc
  obtain⟨rfl,rfl,rfl,rfl,rfl,rfl,rfl,rfl,rfl⟩:=hc
  exact⟨rfl,rfl,hu,h,rfl,hcap⟩
theorem RepX.toXR{T:Tab}{x:XT}{c:List Value}(h:RepX T x c)(hT:gtOK T=true):∃z:XR x,z.T=T∧z.cs=c:=by
 cases h with
 |mk h hcap=>
  rename_i o nm' u l a' cap'
  have hu:∃c1 t1 c2 t2,u.cells=[.bool c1,.string t1,.bool c2,.string t2]:=by cases u<;>exact⟨_,_,_,_,rfl⟩
  obtain⟨c1,t1,c2,t2,hu⟩:=hu
  have e:xcells o nm' u a' l.length cap'=[.int .i64 o,.string (strU nm'),.bool c1,.string t1,.bool c2,.string t2,.slice a' l.length cap']:=by
   unfold xcells;rw[hu];rfl
  exact⟨⟨T,o,strU nm',c1,t1,c2,t2,a',l.length,cap',hT,by rw[←e];exact .mk h hcap⟩,rfl,e.symm⟩
theorem XR.arg{x:XT}(z:XR x){i:Nat}{y:XT}(hy:x.args[i]? =some y):∃(g off:Nat) (cs:List Value) (u:XR y),z.a=some ⟨g,off,none⟩∧(g,cs)∈z.T∧(cs.drop (off+i*7)).take 7=u.cs∧u.T=z.T∧noTy cs=true:=by
 obtain⟨_,_,_,h4,_,_⟩:=z.inv
 obtain⟨g,off,cs,c,h1,h2,h3,h5⟩:=RepL.get h4 hy
 obtain⟨u,hu1,hu2⟩:=h5.toXR z.hT
 refine⟨g,off,cs,u,h1,h2,by rw[h3,hu2],hu1,noTy_len ?_⟩
 have:=congrArg List.length h3
 rw[List.length_take,List.length_drop,h5.length] at this
 omega
theorem cntL_le(op:Int):cntL op≤3:=by
 unfold cntL
 split
 ·decide
 ·split
  ·decide
  ·split
   ·decide
   ·split
    ·rename_i f hf
     have:=funT_le (List.mem_iff_getElem?.1 (List.mem_of_find?_eq_some hf)).choose_spec
     omega
    ·split<;>decide
theorem nodeE_cnt{x:XT}(h:nodeE x=0):((x.args.length:Nat):Int)=cntL x.op:=by
 unfold nodeE at h
 split at h
 ·cases h
 ·split at h
  ·cases h
  ·rename_i h2
   by_cases h3:((x.args.length:Nat):Int)=cntL x.op
   ·exact h3
   ·exact absurd (.inl h3) h2
theorem nodeE_len{x:XT}(h:nodeE x=0):x.args.length≤3:=by
 have h1:=nodeE_cnt h
 have h2:=cntL_le x.op
 omega
end Go.Via
