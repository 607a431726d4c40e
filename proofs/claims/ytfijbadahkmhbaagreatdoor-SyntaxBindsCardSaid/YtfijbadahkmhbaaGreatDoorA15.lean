/-
  Part 15 (chapter 43): lemmas, walks. Each theorem states its own conditions.
-/
import Derived.Test.YtfijbadahkmhbaaGreatDoorA04
import Derived.Test.YtfijbadahkmhbaaGreatDoorA12
import Derived.Test.YtfijbadahkmhbaaGreatDoorA13
import Derived.Test.YtfijbadahkmhbaaGreatDoorA14
set_option linter.unusedVariables false
set_option linter.unusedSimpArgs false
set_option maxRecDepth 20000
set_option maxHeartbeats 20000000
namespace Go.Proofs.YtfijbadahkmhbaaGreatDoor
open Go Go.RowKit Go.Via
theorem c_mnode_1{x:XT}(z:XR x)(hfn:x.name.length≤1000000)(hfu:x.num.fit=true)(lv n gc:Nat)(hn:n≤256)(hlv:lv≤1000)(hop:x.op=1):ECall Tryz.prog 90 [VK gc n,gB z.T false] [.pointer (some ⟨gc,0,none⟩),z.v,.int .i64 (lv:Nat)] Unit (fun _=> .int .i64 (mnode x lv n:Nat)) (fun _=>[VK gc (n+1)]):=by
 refine⟨by kernel_rfl,fun B w hD hL0=>?_⟩;obtain⟨h1,h2,h3,h4,h5,h6⟩:=z.inv;have hs:=NumV.fit_cells h3 hfu
 have hcn:cntL x.op=0:=(by rw[hop];rfl);refine cB3 126 Tryz.func90 hL0 ?_;refine A2 ?_;refine Bo [_,_,_,_,_,_,_] 7 (fun g=>[_,_,⟨some g,30,_,7,true⟩]) (fun g0=>?_);refine A9 ?_;refine Ar (((n+1:Nat):Int)) ?_;refine A2 ?_;refine So 0 0 [⟨some gc,73,_,1,true⟩,_,_] [_] ?_;refine A12 ?_;refine Cd ?_ ?_<;>intro hb0
 ·have hn1:256≤n:=by have:=of_decide_eq_true hb0;omega
  refine A7 ?_;refine at_end1 rfl (res_tmp rfl) (fun w hL=>⟨(),eI (by unfold mnode;rw[if_pos hn1]),hL.pk [some 0]⟩)
 ·have hn1:¬256≤n:=by have:=of_decide_eq_false hb0;omega
  refine A9 ?_;refine Cd ?_ ?_<;>intro hb1
  ·have hl1:32<lv:=by have:=of_decide_eq_true hb1;omega
   refine A7 ?_;refine at_end1 rfl (res_tmp rfl) (fun w hL=>⟨(),eI (by unfold mnode;rw[if_neg hn1,if_pos hl1]),hL.pk [some 0]⟩)
  ·have hl1:¬32<lv:=by have:=of_decide_eq_false hb1;omega
   refine A3 ?_;refine at_regionM ?_;refine A2 ?_;refine Kp 26 h1 ?_;refine Gm 0 [] [] (fun _=>[_,_,_]) (c_law_of x.op) (fun _=>?_);refine r_know 27 (.tuple #[.agg #[.int .i64 1,.int .i64 0,.int .i64 8,.string (strU [])],.bool true]) rfl (by rw[hop];kernel_rfl) ?_;refine A3 ?_;refine r_alloc [_,_,_,_] 4 (fun g=>[_,_,_,⟨some g,94,_,4,true⟩]) rfl rfl z94 rfl rfl (fun _=>rfl) (fun g1=>?_);refine So 3 0 [_,_,_,⟨some g1,94,_,4,true⟩] [_,_,_,_] ?_;refine A19 ?_;refine r_know 34 (.int .i64 (x.args.length:Nat)) rfl (by rw[h5]) ?_;refine A4 ?_;refine Rs 38 ?_ ?_<;>intro hb2
   ·have hlen:((x.args.length:Nat):Int)≠cntL x.op:=by rw[hcn];have hh:=hb2;simpa using hh
    refine A40 ?_;refine at_end1 rfl (res_tmp rfl) (fun w hL=>⟨(),eI (by unfold mnode nodeE;rw[if_neg hn1,if_neg hl1,if_neg (by rw[hcn];omega),if_pos (.inl hlen)]),hL.pk [some 0]⟩)
   ·have hlen:((x.args.length:Nat):Int)=cntL x.op:=by rw[hcn];have hh:=hb2;simpa using hh
    have hl2:x.args.length=0:=(by rw[hcn] at hlen;omega);refine A2 ?_;refine r_know 40 (.string (strU x.name)) rfl (by rw[h2]) ?_;refine A1 ?_;refine r_know 41 (.bool (x.name !=[])) rfl (by rw[show(strU x.name !=⟨#[]⟩)=(strU x.name !=strU []) from rfl,bne,strU_beq];rfl) ?_;refine A1 ?_;refine Rs 42 ?_ ?_<;>intro hb3
    ·have hnm:x.name≠[]:=by simpa using hb3
     refine A2 ?_;refine Kp 44 h1 ?_;refine A1 ?_;refine r_know 45 (.bool true) rfl (by rw[hop];rfl) ?_;refine A4 ?_;refine Kp 49 h1 ?_;refine A1 ?_;refine r_know 50 (.bool true) rfl (by rw[hop];rfl) ?_;refine A28 ?_;refine at_end1 rfl (res_tmp rfl) (fun w hL=>⟨(),eI (by unfold mnode nodeE;rw[if_neg hn1,if_neg hl1,if_neg (by rw[hcn];omega),if_pos (.inr (.inr ⟨(by rw[hop];decide),(by rw[hop];decide),hnm⟩))]),hL.pk [some 0]⟩)
    ·have hnm:x.name=[]:=by simpa using hb3
     refine A12 ?_;refine Ld 2 2 [_,_,_,_] ti27 ?_;refine r_build [] rfl rfl rfl (bd27_0) ?_;refine r_neqAgg rfl rfl rfl rfl gd27 (eq27r _ _ _ _ _ _ _ _) ?_;refine r_know 57 (.bool (!x.num.isZ)) rfl (by rw[NumV.isZ_cells h3]) ?_;refine A1 ?_;refine Rs 58 ?_ ?_<;>intro hb4
     ·have hz:x.num.isZ=false:=by simpa using hb4
      refine A2 ?_;refine Kp 60 h1 ?_;refine A1 ?_;refine r_know 61 (.bool false) rfl (by rw[hop];rfl) ?_;refine A17 ?_;refine Kp 70 h1 ?_;refine A1 ?_;refine r_know 71 (.bool true) rfl (by rw[hop];rfl) ?_;refine A2 ?_;refine Ld 2 2 [_,_,_,_] ti27 ?_;refine Pc (c_rational_Check z.b1 z.s1 z.b2 z.s2 hs.1 hs.2) ?_;refine r_know 75 (.int .i64 (if x.num.ok=true then 0 else 5)) rfl (by rw[NumV.ok_cells h3]) ?_;refine A4 ?_;refine Cd ?_ ?_<;>intro hb5
      ·have hok:x.num.ok=false:=by have hh:=hb5;revert hh;cases x.num.ok<;>simp
       refine A7 ?_;refine at_end1 rfl (res_tmp rfl) (fun w hL=>⟨(),eI (by unfold mnode nodeE;rw[if_neg hn1,if_neg hl1,if_neg (by rw[hcn];omega),if_neg (fun h=>by
 rcases h with h|⟨ha,hb,h⟩|⟨ha,hb,h⟩
 ·exact h hlen
 ·exact ha hop
 ·exact h hnm),if_pos ⟨hop,hok⟩]),hL.pk [some 0]⟩)
      ·have hok:x.num.ok=true:=by have hh:=hb5;revert hh;cases x.num.ok<;>simp
       refine A9 ?_;refine El (ι:=Unit) (fun⟨⟩=>([(0,.pointer (some ⟨gc,0,none⟩)),(4,.pointer (some ⟨g0,0,none⟩)),(9,.int .i64 0)],[VK gc (n+1),gB z.T false,XB g0 z],0)) () ?_ (hL:=Weak.auto);rintro⟨⟩;(try dsimp only);refine A7 ?_;refine r_know 81 (.int .i64 (x.args.length:Nat)) rfl (by rw[h5]) ?_;refine A1 ?_;refine r_know 82 (.bool false) rfl (congrArg Value.bool (decide_eq_false (by omega))) ?_;refine A19 ?_;refine Kp 99 h1 ?_;refine A1 ?_;refine r_know 100 (.bool false) rfl (by rw[hop];rfl) ?_;refine A15 ?_;refine Kp 109 h1 ?_;refine A1 ?_;refine r_know 110 (.bool false) rfl (by rw[hop];rfl) ?_;refine A13 ?_;refine Kp 118 h1 ?_;refine A1 ?_;refine r_know 119 (.bool false) rfl (by rw[hop];rfl) ?_;refine A19 ?_;refine at_end1 rfl (res_tmp rfl) (fun w hL=>⟨(),eI (by unfold mnode nodeE;rw[if_neg hn1,if_neg hl1,if_neg (by rw[hcn];omega),if_neg (fun h=>by
 rcases h with h|⟨ha,hb,h⟩|⟨ha,hb,h⟩
 ·exact h hlen
 ·exact ha hop
 ·exact h hnm),if_neg (fun h=>by rw[hok] at h;cases h.2),if_neg (fun h=>absurd h.1 (by rw[hop];decide)),if_neg (fun h=>absurd h.1 (by rw[hop];decide)),if_neg (fun h=>by
 rcases h with h|h
 ·exact absurd h.1 (by rw[hop];decide)
 ·exact absurd h.1 (by rw[hop];decide))]),hL.pk [some 0]⟩)
     ·have hz:x.num.isZ=true:=by simpa using hb4
      refine A20 ?_;refine Kp 70 h1 ?_;refine A1 ?_;refine r_know 71 (.bool true) rfl (by rw[hop];rfl) ?_;refine A2 ?_;refine Ld 2 2 [_,_,_,_] ti27 ?_;refine Pc (c_rational_Check z.b1 z.s1 z.b2 z.s2 hs.1 hs.2) ?_;refine r_know 75 (.int .i64 (if x.num.ok=true then 0 else 5)) rfl (by rw[NumV.ok_cells h3]) ?_;refine A4 ?_;refine Cd ?_ ?_<;>intro hb5
      ·have hok:x.num.ok=false:=by have hh:=hb5;revert hh;cases x.num.ok<;>simp
       refine A7 ?_;refine at_end1 rfl (res_tmp rfl) (fun w hL=>⟨(),eI (by unfold mnode nodeE;rw[if_neg hn1,if_neg hl1,if_neg (by rw[hcn];omega),if_neg (fun h=>by
 rcases h with h|⟨ha,hb,h⟩|⟨ha,hb,h⟩
 ·exact h hlen
 ·exact ha hop
 ·exact h hnm),if_pos ⟨hop,hok⟩]),hL.pk [some 0]⟩)
      ·have hok:x.num.ok=true:=by have hh:=hb5;revert hh;cases x.num.ok<;>simp
       refine A9 ?_;refine El (ι:=Unit) (fun⟨⟩=>([(0,.pointer (some ⟨gc,0,none⟩)),(4,.pointer (some ⟨g0,0,none⟩)),(9,.int .i64 0)],[VK gc (n+1),gB z.T false,XB g0 z],0)) () ?_ (hL:=Weak.auto);rintro⟨⟩;(try dsimp only);refine A7 ?_;refine r_know 81 (.int .i64 (x.args.length:Nat)) rfl (by rw[h5]) ?_;refine A1 ?_;refine r_know 82 (.bool false) rfl (congrArg Value.bool (decide_eq_false (by omega))) ?_;refine A19 ?_;refine Kp 99 h1 ?_;refine A1 ?_;refine r_know 100 (.bool false) rfl (by rw[hop];rfl) ?_;refine A15 ?_;refine Kp 109 h1 ?_;refine A1 ?_;refine r_know 110 (.bool false) rfl (by rw[hop];rfl) ?_;refine A13 ?_;refine Kp 118 h1 ?_;refine A1 ?_;refine r_know 119 (.bool false) rfl (by rw[hop];rfl) ?_;refine A19 ?_;refine at_end1 rfl (res_tmp rfl) (fun w hL=>⟨(),eI (by unfold mnode nodeE;rw[if_neg hn1,if_neg hl1,if_neg (by rw[hcn];omega),if_neg (fun h=>by
 rcases h with h|⟨ha,hb,h⟩|⟨ha,hb,h⟩
 ·exact h hlen
 ·exact ha hop
 ·exact h hnm),if_neg (fun h=>by rw[hok] at h;cases h.2),if_neg (fun h=>absurd h.1 (by rw[hop];decide)),if_neg (fun h=>absurd h.1 (by rw[hop];decide)),if_neg (fun h=>by
 rcases h with h|h
 ·exact absurd h.1 (by rw[hop];decide)
 ·exact absurd h.1 (by rw[hop];decide))]),hL.pk [some 0]⟩)
theorem c_mnode_2{x:XT}(z:XR x)(hfn:x.name.length≤1000000)(hfu:x.num.fit=true)(lv n gc:Nat)(hn:n≤256)(hlv:lv≤1000)(hop:x.op=2):ECall Tryz.prog 90 [VK gc n,gB z.T false] [.pointer (some ⟨gc,0,none⟩),z.v,.int .i64 (lv:Nat)] Unit (fun _=> .int .i64 (mnode x lv n:Nat)) (fun _=>[VK gc (n+1)]):=by
 refine⟨by kernel_rfl,fun B w hD hL0=>?_⟩;obtain⟨h1,h2,h3,h4,h5,h6⟩:=z.inv;have hs:=NumV.fit_cells h3 hfu
 have hcn:cntL x.op=2:=(by rw[hop];rfl);refine cB3 126 Tryz.func90 hL0 ?_;refine A2 ?_;refine Bo [_,_,_,_,_,_,_] 7 (fun g=>[_,_,⟨some g,30,_,7,true⟩]) (fun g0=>?_);refine A6 ?_;refine Kr 10 (.pointer (some ⟨gc,0,none⟩)) ?_;refine A3 ?_;refine Ar (((n+1:Nat):Int)) ?_;refine A2 ?_;refine So 0 0 [⟨some gc,73,_,1,true⟩,_,_] [_] ?_;refine A12 ?_;refine Cd ?_ ?_<;>intro hb0
 ·have hn1:256≤n:=by have:=of_decide_eq_true hb0;omega
  refine A7 ?_;refine at_end1 rfl (res_tmp rfl) (fun w hL=>⟨(),eI (by unfold mnode;rw[if_pos hn1]),hL.pk [some 0]⟩)
 ·have hn1:¬256≤n:=by have:=of_decide_eq_false hb0;omega
  refine A9 ?_;refine Cd ?_ ?_<;>intro hb1
  ·have hl1:32<lv:=by have:=of_decide_eq_true hb1;omega
   refine A7 ?_;refine at_end1 rfl (res_tmp rfl) (fun w hL=>⟨(),eI (by unfold mnode;rw[if_neg hn1,if_pos hl1]),hL.pk [some 0]⟩)
  ·have hl1:¬32<lv:=by have:=of_decide_eq_false hb1;omega
   refine A3 ?_;refine at_regionM ?_;refine A2 ?_;refine Kp 26 h1 ?_;refine Gm 0 [] [] (fun _=>[_,_,_]) (c_law_of x.op) (fun _=>?_);refine r_know 27 (.tuple #[.agg #[.int .i64 2,.int .i64 2,.int .i64 8,.string (strU [112,111,105,110,116])],.bool true]) rfl (by rw[hop];kernel_rfl) ?_;refine A3 ?_;refine r_alloc [_,_,_,_] 4 (fun g=>[_,_,_,⟨some g,94,_,4,true⟩]) rfl rfl z94 rfl rfl (fun _=>rfl) (fun g1=>?_);refine So 3 0 [_,_,_,⟨some g1,94,_,4,true⟩] [_,_,_,_] ?_;refine A19 ?_;refine r_know 34 (.int .i64 (x.args.length:Nat)) rfl (by rw[h5]) ?_;refine A4 ?_;refine Rs 38 ?_ ?_<;>intro hb2
   ·have hlen:((x.args.length:Nat):Int)≠cntL x.op:=by rw[hcn];have hh:=hb2;simpa using hh
    refine A40 ?_;refine at_end1 rfl (res_tmp rfl) (fun w hL=>⟨(),eI (by unfold mnode nodeE;rw[if_neg hn1,if_neg hl1,if_neg (by rw[hcn];omega),if_pos (.inl hlen)]),hL.pk [some 0]⟩)
   ·have hlen:((x.args.length:Nat):Int)=cntL x.op:=by rw[hcn];have hh:=hb2;simpa using hh
    have hl2:x.args.length=2:=(by rw[hcn] at hlen;omega);refine A2 ?_;refine r_know 40 (.string (strU x.name)) rfl (by rw[h2]) ?_;refine A1 ?_;refine r_know 41 (.bool (x.name !=[])) rfl (by rw[show(strU x.name !=⟨#[]⟩)=(strU x.name !=strU []) from rfl,bne,strU_beq];rfl) ?_;refine A1 ?_;refine Rs 42 ?_ ?_<;>intro hb3
    ·have hnm:x.name≠[]:=by simpa using hb3
     refine A2 ?_;refine Kp 44 h1 ?_;refine A1 ?_;refine r_know 45 (.bool true) rfl (by rw[hop];rfl) ?_;refine A4 ?_;refine Kp 49 h1 ?_;refine A1 ?_;refine r_know 50 (.bool true) rfl (by rw[hop];rfl) ?_;refine A28 ?_;refine at_end1 rfl (res_tmp rfl) (fun w hL=>⟨(),eI (by unfold mnode nodeE;rw[if_neg hn1,if_neg hl1,if_neg (by rw[hcn];omega),if_pos (.inr (.inr ⟨(by rw[hop];decide),(by rw[hop];decide),hnm⟩))]),hL.pk [some 0]⟩)
    ·have hnm:x.name=[]:=by simpa using hb3
     refine A12 ?_;refine Ld 2 2 [_,_,_,_] ti27 ?_;refine r_build [] rfl rfl rfl (bd27_0) ?_;refine r_neqAgg rfl rfl rfl rfl gd27 (eq27r _ _ _ _ _ _ _ _) ?_;refine r_know 57 (.bool (!x.num.isZ)) rfl (by rw[NumV.isZ_cells h3]) ?_;refine A1 ?_;refine Rs 58 ?_ ?_<;>intro hb4
     ·have hz:x.num.isZ=false:=by simpa using hb4
      refine A2 ?_;refine Kp 60 h1 ?_;refine A1 ?_;refine r_know 61 (.bool true) rfl (by rw[hop];rfl) ?_;refine A4 ?_;refine Kp 65 h1 ?_;refine A1 ?_;refine r_know 66 (.bool true) rfl (by rw[hop];rfl) ?_;refine A12 ?_;refine at_end1 rfl (res_tmp rfl) (fun w hL=>⟨(),eI (by unfold mnode nodeE;rw[if_neg hn1,if_neg hl1,if_neg (by rw[hcn];omega),if_pos (.inr (.inl ⟨(by rw[hop];decide),(by rw[hop];decide),hz⟩))]),hL.pk [some 0]⟩)
     ·have hz:x.num.isZ=true:=by simpa using hb4
      refine A20 ?_;refine Kp 70 h1 ?_;refine A1 ?_;refine r_know 71 (.bool false) rfl (by rw[hop];rfl) ?_;refine A18 ?_;refine El (ι:={i:Nat // i≤x.args.length∧∀k,k<i→(x.args.map XT.op)[k]? =some 1}) (fun⟨i,hi,hI⟩=>([(0,.pointer (some ⟨gc,0,none⟩)),(4,.pointer (some ⟨g0,0,none⟩)),(9,.int .i64 (i:Nat))],[VK gc (n+1),gB z.T false,XB g0 z],x.args.length-i)) ⟨0,Nat.zero_le _,fun k hk=>absurd hk (by omega)⟩ ?_ (hL:=Weak.auto);rintro⟨i,hi,hI⟩;(try dsimp only);refine A7 ?_;refine r_know 81 (.int .i64 (x.args.length:Nat)) rfl (by rw[h5]) ?_;refine A2 ?_;refine Rs 83 ?_ ?_<;>intro hb6
      ·have hlt:i<x.args.length:=by have:=of_decide_eq_true hb6;omega
       obtain⟨y,hy⟩:∃y,x.args[i]? =some y:=⟨x.args[i],List.getElem?_eq_getElem hlt⟩;obtain⟨ga,oa,ca,u,hza,hma,hra,hTa,hna⟩:=z.arg hy;refine A2 ?_;refine Kp 85 h1 ?_;refine A1 ?_;refine r_know 86 (.bool true) rfl (by rw[hop];rfl) ?_;refine A13 ?_;refine r_indexAddrG (gg:=ga) (len:=z.n) (cap:=z.cap) (oa+i*7) u28 ti30 rfl rfl (congrArg (fun a=>some (Value.slice a z.n z.cap)) hza) rfl (by omega) (by omega) (by show oa+Int.toNat _*7=_;omega) ?_;refine r_fieldAddrG (oa+i*7) 0 rfl rfl rfl ti30 rfl rfl ?_;refine r_loadT (v:= .int .i64 u.op) 1 (oa+i*7) _ rfl rfl rfl z.hT hma hna rfl ti3 (row_op hra) rfl rfl rfl ?_;refine A3 ?_;refine Cd ?_ ?_<;>intro hb7
       ·have ha:y.op≠1:=by rw[←u.inv.1];have hh:=hb7;simpa using hh
        refine A11 ?_;refine at_end1 rfl (res_tmp rfl) (fun w hL=>⟨(),eI (by unfold mnode nodeE;rw[if_neg hn1,if_neg hl1,if_neg (by rw[hcn];omega),if_neg (fun h=>by
 rcases h with h|⟨ha,hb,h⟩|⟨ha,hb,h⟩
 ·exact h hlen
 ·rw[hz] at h;cases h
 ·exact h hnm),if_neg (fun h=>absurd h.1 (by rw[hop];decide)),if_pos ⟨hop,mn_arg hy ha (by omega)⟩]),hL.pk [some 0]⟩)
       ·have ha:y.op=1:=by rw[←u.inv.1];have hh:=hb7;simpa using hh
        refine A5 ?_;refine Ar (((i+1:Nat):Int)) ?_;refine A3 ?_;exact nextL ⟨i+1,hlt,fun k hk=>by
 by_cases e:k=i
 ·subst e;rw[List.getElem?_map,hy,Option.map_some,ha]
 ·exact hI k (by omega)⟩ (by simp only[];omega) ⟨rfl,rfl,rfl,trivial⟩ (weak_pk [some 0,some 1,some 2])
      ·have hge:i=x.args.length:=by have:=of_decide_eq_false hb6;omega
       refine A18 ?_;refine Kp 99 h1 ?_;refine A1 ?_;refine r_know 100 (.bool false) rfl (by rw[hop];rfl) ?_;refine A15 ?_;refine Kp 109 h1 ?_;refine A1 ?_;refine r_know 110 (.bool false) rfl (by rw[hop];rfl) ?_;refine A13 ?_;refine Kp 118 h1 ?_;refine A1 ?_;refine r_know 119 (.bool false) rfl (by rw[hop];rfl) ?_;refine A19 ?_;refine at_end1 rfl (res_tmp rfl) (fun w hL=>⟨(),eI (by unfold mnode nodeE;rw[if_neg hn1,if_neg hl1,if_neg (by rw[hcn];omega),if_neg (fun h=>by
 rcases h with h|⟨ha,hb,h⟩|⟨ha,hb,h⟩
 ·exact h hlen
 ·rw[hz] at h;cases h
 ·exact h hnm),if_neg (fun h=>absurd h.1 (by rw[hop];decide)),if_neg (fun h=>by
 rcases h.2 with h|h
 ·exact h (hI 0 (by omega))
 ·exact h (hI 1 (by omega))),if_neg (fun h=>absurd h.1 (by rw[hop];decide)),if_neg (fun h=>by
 rcases h with h|h
 ·exact absurd h.1 (by rw[hop];decide)
 ·exact absurd h.1 (by rw[hop];decide))]),hL.pk [some 0]⟩)
theorem c_mnode_3{x:XT}(z:XR x)(hfn:x.name.length≤1000000)(hfu:x.num.fit=true)(lv n gc:Nat)(hn:n≤256)(hlv:lv≤1000)(hop:x.op=3):ECall Tryz.prog 90 [VK gc n,gB z.T false] [.pointer (some ⟨gc,0,none⟩),z.v,.int .i64 (lv:Nat)] Unit (fun _=> .int .i64 (mnode x lv n:Nat)) (fun _=>[VK gc (n+1)]):=by
 refine⟨by kernel_rfl,fun B w hD hL0=>?_⟩;obtain⟨h1,h2,h3,h4,h5,h6⟩:=z.inv;have hs:=NumV.fit_cells h3 hfu
 have hcn:cntL x.op=0:=(by rw[hop];rfl);refine cB3 126 Tryz.func90 hL0 ?_;refine A2 ?_;refine Bo [_,_,_,_,_,_,_] 7 (fun g=>[_,_,⟨some g,30,_,7,true⟩]) (fun g0=>?_);refine A9 ?_;refine Ar (((n+1:Nat):Int)) ?_;refine A2 ?_;refine So 0 0 [⟨some gc,73,_,1,true⟩,_,_] [_] ?_;refine A12 ?_;refine Cd ?_ ?_<;>intro hb0
 ·have hn1:256≤n:=by have:=of_decide_eq_true hb0;omega
  refine A7 ?_;refine at_end1 rfl (res_tmp rfl) (fun w hL=>⟨(),eI (by unfold mnode;rw[if_pos hn1]),hL.pk [some 0]⟩)
 ·have hn1:¬256≤n:=by have:=of_decide_eq_false hb0;omega
  refine A9 ?_;refine Cd ?_ ?_<;>intro hb1
  ·have hl1:32<lv:=by have:=of_decide_eq_true hb1;omega
   refine A7 ?_;refine at_end1 rfl (res_tmp rfl) (fun w hL=>⟨(),eI (by unfold mnode;rw[if_neg hn1,if_pos hl1]),hL.pk [some 0]⟩)
  ·have hl1:¬32<lv:=by have:=of_decide_eq_false hb1;omega
   refine A3 ?_;refine at_regionM ?_;refine A2 ?_;refine Kp 26 h1 ?_;refine Gm 0 [] [] (fun _=>[_,_,_]) (c_law_of x.op) (fun _=>?_);refine r_know 27 (.tuple #[.agg #[.int .i64 3,.int .i64 0,.int .i64 8,.string (strU [111,98,106,101,99,116])],.bool true]) rfl (by rw[hop];kernel_rfl) ?_;refine A3 ?_;refine r_alloc [_,_,_,_] 4 (fun g=>[_,_,_,⟨some g,94,_,4,true⟩]) rfl rfl z94 rfl rfl (fun _=>rfl) (fun g1=>?_);refine So 3 0 [_,_,_,⟨some g1,94,_,4,true⟩] [_,_,_,_] ?_;refine A19 ?_;refine r_know 34 (.int .i64 (x.args.length:Nat)) rfl (by rw[h5]) ?_;refine A4 ?_;refine Rs 38 ?_ ?_<;>intro hb2
   ·have hlen:((x.args.length:Nat):Int)≠cntL x.op:=by rw[hcn];have hh:=hb2;simpa using hh
    refine A40 ?_;refine at_end1 rfl (res_tmp rfl) (fun w hL=>⟨(),eI (by unfold mnode nodeE;rw[if_neg hn1,if_neg hl1,if_neg (by rw[hcn];omega),if_pos (.inl hlen)]),hL.pk [some 0]⟩)
   ·have hlen:((x.args.length:Nat):Int)=cntL x.op:=by rw[hcn];have hh:=hb2;simpa using hh
    have hl2:x.args.length=0:=(by rw[hcn] at hlen;omega);refine A2 ?_;refine r_know 40 (.string (strU x.name)) rfl (by rw[h2]) ?_;refine A1 ?_;refine r_know 41 (.bool (x.name !=[])) rfl (by rw[show(strU x.name !=⟨#[]⟩)=(strU x.name !=strU []) from rfl,bne,strU_beq];rfl) ?_;refine A1 ?_;refine Rs 42 ?_ ?_<;>intro hb3
    ·have hnm:x.name≠[]:=by simpa using hb3
     refine A2 ?_;refine Kp 44 h1 ?_;refine A1 ?_;refine r_know 45 (.bool true) rfl (by rw[hop];rfl) ?_;refine A4 ?_;refine Kp 49 h1 ?_;refine A1 ?_;refine r_know 50 (.bool true) rfl (by rw[hop];rfl) ?_;refine A28 ?_;refine at_end1 rfl (res_tmp rfl) (fun w hL=>⟨(),eI (by unfold mnode nodeE;rw[if_neg hn1,if_neg hl1,if_neg (by rw[hcn];omega),if_pos (.inr (.inr ⟨(by rw[hop];decide),(by rw[hop];decide),hnm⟩))]),hL.pk [some 0]⟩)
    ·have hnm:x.name=[]:=by simpa using hb3
     refine A12 ?_;refine Ld 2 2 [_,_,_,_] ti27 ?_;refine r_build [] rfl rfl rfl (bd27_0) ?_;refine r_neqAgg rfl rfl rfl rfl gd27 (eq27r _ _ _ _ _ _ _ _) ?_;refine r_know 57 (.bool (!x.num.isZ)) rfl (by rw[NumV.isZ_cells h3]) ?_;refine A1 ?_;refine Rs 58 ?_ ?_<;>intro hb4
     ·have hz:x.num.isZ=false:=by simpa using hb4
      refine A2 ?_;refine Kp 60 h1 ?_;refine A1 ?_;refine r_know 61 (.bool true) rfl (by rw[hop];rfl) ?_;refine A4 ?_;refine Kp 65 h1 ?_;refine A1 ?_;refine r_know 66 (.bool false) rfl (by rw[hop];rfl) ?_;refine A12 ?_;refine Kp 70 h1 ?_;refine A1 ?_;refine r_know 71 (.bool false) rfl (by rw[hop];rfl) ?_;refine A18 ?_;refine El (ι:=Unit) (fun⟨⟩=>([(0,.pointer (some ⟨gc,0,none⟩)),(4,.pointer (some ⟨g0,0,none⟩)),(9,.int .i64 0)],[VK gc (n+1),gB z.T false,XB g0 z],0)) () ?_ (hL:=Weak.auto);rintro⟨⟩;(try dsimp only);refine A7 ?_;refine r_know 81 (.int .i64 (x.args.length:Nat)) rfl (by rw[h5]) ?_;refine A1 ?_;refine r_know 82 (.bool false) rfl (congrArg Value.bool (decide_eq_false (by omega))) ?_;refine A19 ?_;refine Kp 99 h1 ?_;refine A1 ?_;refine r_know 100 (.bool true) rfl (by rw[hop];rfl) ?_;refine A2 ?_;refine Ld 2 2 [_,_,_,_] ti27 ?_;refine Pc (c_law_isIdZ z hfu) ?_;refine A5 ?_;refine Cd ?_ ?_<;>intro hb6
      ·have hid:x.num.isId=false:=by simpa using hb6
       refine A8 ?_;refine at_end1 rfl (res_tmp rfl) (fun w hL=>⟨(),eI (by unfold mnode nodeE;rw[if_neg hn1,if_neg hl1,if_neg (by rw[hcn];omega),if_neg (fun h=>by
 rcases h with h|⟨ha,hb,h⟩|⟨ha,hb,h⟩
 ·exact h hlen
 ·exact hb hop
 ·exact h hnm),if_neg (fun h=>absurd h.1 (by rw[hop];decide)),if_neg (fun h=>absurd h.1 (by rw[hop];decide)),if_pos ⟨hop,hid⟩]),hL.pk [some 0]⟩)
      ·have hid:x.num.isId=true:=by simpa using hb6
       refine A5 ?_;refine Kp 109 h1 ?_;refine A1 ?_;refine r_know 110 (.bool false) rfl (by rw[hop];rfl) ?_;refine A13 ?_;refine Kp 118 h1 ?_;refine A1 ?_;refine r_know 119 (.bool false) rfl (by rw[hop];rfl) ?_;refine A19 ?_;refine at_end1 rfl (res_tmp rfl) (fun w hL=>⟨(),eI (by unfold mnode nodeE;rw[if_neg hn1,if_neg hl1,if_neg (by rw[hcn];omega),if_neg (fun h=>by
 rcases h with h|⟨ha,hb,h⟩|⟨ha,hb,h⟩
 ·exact h hlen
 ·exact hb hop
 ·exact h hnm),if_neg (fun h=>absurd h.1 (by rw[hop];decide)),if_neg (fun h=>absurd h.1 (by rw[hop];decide)),if_neg (fun h=>by rw[hid] at h;cases h.2),if_neg (fun h=>by
 rcases h with h|h
 ·exact absurd h.1 (by rw[hop];decide)
 ·exact absurd h.1 (by rw[hop];decide))]),hL.pk [some 0]⟩)
     ·have hz:x.num.isZ=true:=by simpa using hb4
      refine A20 ?_;refine Kp 70 h1 ?_;refine A1 ?_;refine r_know 71 (.bool false) rfl (by rw[hop];rfl) ?_;refine A18 ?_;refine El (ι:=Unit) (fun⟨⟩=>([(0,.pointer (some ⟨gc,0,none⟩)),(4,.pointer (some ⟨g0,0,none⟩)),(9,.int .i64 0)],[VK gc (n+1),gB z.T false,XB g0 z],0)) () ?_ (hL:=Weak.auto);rintro⟨⟩;(try dsimp only);refine A7 ?_;refine r_know 81 (.int .i64 (x.args.length:Nat)) rfl (by rw[h5]) ?_;refine A1 ?_;refine r_know 82 (.bool false) rfl (congrArg Value.bool (decide_eq_false (by omega))) ?_;refine A19 ?_;refine Kp 99 h1 ?_;refine A1 ?_;refine r_know 100 (.bool true) rfl (by rw[hop];rfl) ?_;refine A2 ?_;refine Ld 2 2 [_,_,_,_] ti27 ?_;refine Pc (c_law_isIdZ z hfu) ?_;refine A5 ?_;refine Cd ?_ ?_<;>intro hb6
      ·have hid:x.num.isId=false:=by simpa using hb6
       refine A8 ?_;refine at_end1 rfl (res_tmp rfl) (fun w hL=>⟨(),eI (by unfold mnode nodeE;rw[if_neg hn1,if_neg hl1,if_neg (by rw[hcn];omega),if_neg (fun h=>by
 rcases h with h|⟨ha,hb,h⟩|⟨ha,hb,h⟩
 ·exact h hlen
 ·exact hb hop
 ·exact h hnm),if_neg (fun h=>absurd h.1 (by rw[hop];decide)),if_neg (fun h=>absurd h.1 (by rw[hop];decide)),if_pos ⟨hop,hid⟩]),hL.pk [some 0]⟩)
      ·have hid:x.num.isId=true:=by simpa using hb6
       refine A5 ?_;refine Kp 109 h1 ?_;refine A1 ?_;refine r_know 110 (.bool false) rfl (by rw[hop];rfl) ?_;refine A13 ?_;refine Kp 118 h1 ?_;refine A1 ?_;refine r_know 119 (.bool false) rfl (by rw[hop];rfl) ?_;refine A19 ?_;refine at_end1 rfl (res_tmp rfl) (fun w hL=>⟨(),eI (by unfold mnode nodeE;rw[if_neg hn1,if_neg hl1,if_neg (by rw[hcn];omega),if_neg (fun h=>by
 rcases h with h|⟨ha,hb,h⟩|⟨ha,hb,h⟩
 ·exact h hlen
 ·exact hb hop
 ·exact h hnm),if_neg (fun h=>absurd h.1 (by rw[hop];decide)),if_neg (fun h=>absurd h.1 (by rw[hop];decide)),if_neg (fun h=>by rw[hid] at h;cases h.2),if_neg (fun h=>by
 rcases h with h|h
 ·exact absurd h.1 (by rw[hop];decide)
 ·exact absurd h.1 (by rw[hop];decide))]),hL.pk [some 0]⟩)
theorem c_mnode_4{x:XT}(z:XR x)(hfn:x.name.length≤1000000)(hfu:x.num.fit=true)(lv n gc:Nat)(hn:n≤256)(hlv:lv≤1000)(hop:x.op=4):ECall Tryz.prog 90 [VK gc n,gB z.T false] [.pointer (some ⟨gc,0,none⟩),z.v,.int .i64 (lv:Nat)] Unit (fun _=> .int .i64 (mnode x lv n:Nat)) (fun _=>[VK gc (n+1)]):=by
 refine⟨by kernel_rfl,fun B w hD hL0=>?_⟩;obtain⟨h1,h2,h3,h4,h5,h6⟩:=z.inv;have hs:=NumV.fit_cells h3 hfu
 have hcn:cntL x.op=0:=(by rw[hop];rfl);refine cB3 126 Tryz.func90 hL0 ?_;refine A2 ?_;refine Bo [_,_,_,_,_,_,_] 7 (fun g=>[_,_,⟨some g,30,_,7,true⟩]) (fun g0=>?_);refine A9 ?_;refine Ar (((n+1:Nat):Int)) ?_;refine A2 ?_;refine So 0 0 [⟨some gc,73,_,1,true⟩,_,_] [_] ?_;refine A12 ?_;refine Cd ?_ ?_<;>intro hb0
 ·have hn1:256≤n:=by have:=of_decide_eq_true hb0;omega
  refine A7 ?_;refine at_end1 rfl (res_tmp rfl) (fun w hL=>⟨(),eI (by unfold mnode;rw[if_pos hn1]),hL.pk [some 0]⟩)
 ·have hn1:¬256≤n:=by have:=of_decide_eq_false hb0;omega
  refine A9 ?_;refine Cd ?_ ?_<;>intro hb1
  ·have hl1:32<lv:=by have:=of_decide_eq_true hb1;omega
   refine A7 ?_;refine at_end1 rfl (res_tmp rfl) (fun w hL=>⟨(),eI (by unfold mnode;rw[if_neg hn1,if_pos hl1]),hL.pk [some 0]⟩)
  ·have hl1:¬32<lv:=by have:=of_decide_eq_false hb1;omega
   refine A3 ?_;refine at_regionM ?_;refine A2 ?_;refine Kp 26 h1 ?_;refine Gm 0 [] [] (fun _=>[_,_,_]) (c_law_of x.op) (fun _=>?_);refine r_know 27 (.tuple #[.agg #[.int .i64 4,.int .i64 0,.int .i64 8,.string (strU [])],.bool true]) rfl (by rw[hop];kernel_rfl) ?_;refine A3 ?_;refine r_alloc [_,_,_,_] 4 (fun g=>[_,_,_,⟨some g,94,_,4,true⟩]) rfl rfl z94 rfl rfl (fun _=>rfl) (fun g1=>?_);refine So 3 0 [_,_,_,⟨some g1,94,_,4,true⟩] [_,_,_,_] ?_;refine A19 ?_;refine r_know 34 (.int .i64 (x.args.length:Nat)) rfl (by rw[h5]) ?_;refine A4 ?_;refine Rs 38 ?_ ?_<;>intro hb2
   ·have hlen:((x.args.length:Nat):Int)≠cntL x.op:=by rw[hcn];have hh:=hb2;simpa using hh
    refine A40 ?_;refine at_end1 rfl (res_tmp rfl) (fun w hL=>⟨(),eI (by unfold mnode nodeE;rw[if_neg hn1,if_neg hl1,if_neg (by rw[hcn];omega),if_pos (.inl hlen)]),hL.pk [some 0]⟩)
   ·have hlen:((x.args.length:Nat):Int)=cntL x.op:=by rw[hcn];have hh:=hb2;simpa using hh
    have hl2:x.args.length=0:=(by rw[hcn] at hlen;omega);refine A2 ?_;refine r_know 40 (.string (strU x.name)) rfl (by rw[h2]) ?_;refine A1 ?_;refine r_know 41 (.bool (x.name !=[])) rfl (by rw[show(strU x.name !=⟨#[]⟩)=(strU x.name !=strU []) from rfl,bne,strU_beq];rfl) ?_;refine A1 ?_;refine Rs 42 ?_ ?_<;>intro hb3
    ·have hnm:x.name≠[]:=by simpa using hb3
     refine A2 ?_;refine Kp 44 h1 ?_;refine A1 ?_;refine r_know 45 (.bool false) rfl (by rw[hop];rfl) ?_;refine A9 ?_;refine Ld 2 2 [_,_,_,_] ti27 ?_;refine r_build [] rfl rfl rfl (bd27_0) ?_;refine r_neqAgg rfl rfl rfl rfl gd27 (eq27r _ _ _ _ _ _ _ _) ?_;refine r_know 57 (.bool (!x.num.isZ)) rfl (by rw[NumV.isZ_cells h3]) ?_;refine A1 ?_;refine Rs 58 ?_ ?_<;>intro hb4
     ·have hz:x.num.isZ=false:=by simpa using hb4
      refine A2 ?_;refine Kp 60 h1 ?_;refine A1 ?_;refine r_know 61 (.bool true) rfl (by rw[hop];rfl) ?_;refine A4 ?_;refine Kp 65 h1 ?_;refine A1 ?_;refine r_know 66 (.bool true) rfl (by rw[hop];rfl) ?_;refine A12 ?_;refine at_end1 rfl (res_tmp rfl) (fun w hL=>⟨(),eI (by unfold mnode nodeE;rw[if_neg hn1,if_neg hl1,if_neg (by rw[hcn];omega),if_pos (.inr (.inl ⟨(by rw[hop];decide),(by rw[hop];decide),hz⟩))]),hL.pk [some 0]⟩)
     ·have hz:x.num.isZ=true:=by simpa using hb4
      refine A20 ?_;refine Kp 70 h1 ?_;refine A1 ?_;refine r_know 71 (.bool false) rfl (by rw[hop];rfl) ?_;refine A18 ?_;refine El (ι:=Unit) (fun⟨⟩=>([(0,.pointer (some ⟨gc,0,none⟩)),(4,.pointer (some ⟨g0,0,none⟩)),(9,.int .i64 0)],[VK gc (n+1),gB z.T false,XB g0 z],0)) () ?_ (hL:=Weak.auto);rintro⟨⟩;(try dsimp only);refine A7 ?_;refine r_know 81 (.int .i64 (x.args.length:Nat)) rfl (by rw[h5]) ?_;refine A1 ?_;refine r_know 82 (.bool false) rfl (congrArg Value.bool (decide_eq_false (by omega))) ?_;refine A19 ?_;refine Kp 99 h1 ?_;refine A1 ?_;refine r_know 100 (.bool false) rfl (by rw[hop];rfl) ?_;refine A15 ?_;refine Kp 109 h1 ?_;refine A1 ?_;refine r_know 110 (.bool true) rfl (by rw[hop];rfl) ?_;refine A3 ?_;refine r_know 113 (.string (strU x.name)) rfl (by rw[h2]) ?_;refine Pc (c_law_isName x.name hfn) ?_;refine r_know 114 (.bool (nameL x.name)) rfl (by rw[name_same]) ?_;refine A5 ?_;refine Cd ?_ ?_<;>intro hb6
      ·have hN:nameL x.name=false:=by simpa using hb6
       refine A2 ?_;refine Cd ?_ ?_<;>intro hb7
       ·have hN:nameL x.name=false:=by simpa using hb7
        refine A8 ?_;refine at_end1 rfl (res_tmp rfl) (fun w hL=>⟨(),eI (by unfold mnode nodeE;rw[if_neg hn1,if_neg hl1,if_neg (by rw[hcn];omega),if_neg (fun h=>by
 rcases h with h|⟨ha,hb,h⟩|⟨ha,hb,h⟩
 ·exact h hlen
 ·rw[hz] at h;cases h
 ·exact ha hop),if_neg (fun h=>absurd h.1 (by rw[hop];decide)),if_neg (fun h=>absurd h.1 (by rw[hop];decide)),if_neg (fun h=>absurd h.1 (by rw[hop];decide)),if_pos (.inl ⟨hop,hN⟩)]),hL.pk [some 0]⟩)
       ·have hN:nameL x.name=true:=by simpa using hb7
        refine A9 ?_;refine at_end1 rfl (res_tmp rfl) (fun w hL=>⟨(),eI (by unfold mnode nodeE;rw[if_neg hn1,if_neg hl1,if_neg (by rw[hcn];omega),if_neg (fun h=>by
 rcases h with h|⟨ha,hb,h⟩|⟨ha,hb,h⟩
 ·exact h hlen
 ·rw[hz] at h;cases h
 ·exact ha hop),if_neg (fun h=>absurd h.1 (by rw[hop];decide)),if_neg (fun h=>absurd h.1 (by rw[hop];decide)),if_neg (fun h=>absurd h.1 (by rw[hop];decide)),if_neg (fun h=>by
 rcases h with h|h
 ·rw[hN] at h;cases h.2
 ·exact absurd h.1 (by rw[hop];decide))]),hL.pk [some 0]⟩)
      ·have hN:nameL x.name=true:=by simpa using hb6
       refine A3 ?_;refine Kp 118 h1 ?_;refine A1 ?_;refine r_know 119 (.bool false) rfl (by rw[hop];rfl) ?_;refine A19 ?_;refine at_end1 rfl (res_tmp rfl) (fun w hL=>⟨(),eI (by unfold mnode nodeE;rw[if_neg hn1,if_neg hl1,if_neg (by rw[hcn];omega),if_neg (fun h=>by
 rcases h with h|⟨ha,hb,h⟩|⟨ha,hb,h⟩
 ·exact h hlen
 ·rw[hz] at h;cases h
 ·exact ha hop),if_neg (fun h=>absurd h.1 (by rw[hop];decide)),if_neg (fun h=>absurd h.1 (by rw[hop];decide)),if_neg (fun h=>absurd h.1 (by rw[hop];decide)),if_neg (fun h=>by
 rcases h with h|h
 ·rw[hN] at h;cases h.2
 ·exact absurd h.1 (by rw[hop];decide))]),hL.pk [some 0]⟩)
    ·have hnm:x.name=[]:=by simpa using hb3
     refine A12 ?_;refine Ld 2 2 [_,_,_,_] ti27 ?_;refine r_build [] rfl rfl rfl (bd27_0) ?_;refine r_neqAgg rfl rfl rfl rfl gd27 (eq27r _ _ _ _ _ _ _ _) ?_;refine r_know 57 (.bool (!x.num.isZ)) rfl (by rw[NumV.isZ_cells h3]) ?_;refine A1 ?_;refine Rs 58 ?_ ?_<;>intro hb4
     ·have hz:x.num.isZ=false:=by simpa using hb4
      refine A2 ?_;refine Kp 60 h1 ?_;refine A1 ?_;refine r_know 61 (.bool true) rfl (by rw[hop];rfl) ?_;refine A4 ?_;refine Kp 65 h1 ?_;refine A1 ?_;refine r_know 66 (.bool true) rfl (by rw[hop];rfl) ?_;refine A12 ?_;refine at_end1 rfl (res_tmp rfl) (fun w hL=>⟨(),eI (by unfold mnode nodeE;rw[if_neg hn1,if_neg hl1,if_neg (by rw[hcn];omega),if_pos (.inr (.inl ⟨(by rw[hop];decide),(by rw[hop];decide),hz⟩))]),hL.pk [some 0]⟩)
     ·have hz:x.num.isZ=true:=by simpa using hb4
      refine A20 ?_;refine Kp 70 h1 ?_;refine A1 ?_;refine r_know 71 (.bool false) rfl (by rw[hop];rfl) ?_;refine A18 ?_;refine El (ι:=Unit) (fun⟨⟩=>([(0,.pointer (some ⟨gc,0,none⟩)),(4,.pointer (some ⟨g0,0,none⟩)),(9,.int .i64 0)],[VK gc (n+1),gB z.T false,XB g0 z],0)) () ?_ (hL:=Weak.auto);rintro⟨⟩;(try dsimp only);refine A7 ?_;refine r_know 81 (.int .i64 (x.args.length:Nat)) rfl (by rw[h5]) ?_;refine A1 ?_;refine r_know 82 (.bool false) rfl (congrArg Value.bool (decide_eq_false (by omega))) ?_;refine A19 ?_;refine Kp 99 h1 ?_;refine A1 ?_;refine r_know 100 (.bool false) rfl (by rw[hop];rfl) ?_;refine A15 ?_;refine Kp 109 h1 ?_;refine A1 ?_;refine r_know 110 (.bool true) rfl (by rw[hop];rfl) ?_;refine A3 ?_;refine r_know 113 (.string (strU x.name)) rfl (by rw[h2]) ?_;refine Pc (c_law_isName x.name hfn) ?_;refine r_know 114 (.bool (nameL x.name)) rfl (by rw[name_same]) ?_;refine A5 ?_;refine Cd ?_ ?_<;>intro hb6
      ·have hN:nameL x.name=false:=by simpa using hb6
       refine A2 ?_;refine Cd ?_ ?_<;>intro hb7
       ·have hN:nameL x.name=false:=by simpa using hb7
        refine A8 ?_;refine at_end1 rfl (res_tmp rfl) (fun w hL=>⟨(),eI (by unfold mnode nodeE;rw[if_neg hn1,if_neg hl1,if_neg (by rw[hcn];omega),if_neg (fun h=>by
 rcases h with h|⟨ha,hb,h⟩|⟨ha,hb,h⟩
 ·exact h hlen
 ·rw[hz] at h;cases h
 ·exact ha hop),if_neg (fun h=>absurd h.1 (by rw[hop];decide)),if_neg (fun h=>absurd h.1 (by rw[hop];decide)),if_neg (fun h=>absurd h.1 (by rw[hop];decide)),if_pos (.inl ⟨hop,hN⟩)]),hL.pk [some 0]⟩)
       ·have hN:nameL x.name=true:=by simpa using hb7
        refine A9 ?_;refine at_end1 rfl (res_tmp rfl) (fun w hL=>⟨(),eI (by unfold mnode nodeE;rw[if_neg hn1,if_neg hl1,if_neg (by rw[hcn];omega),if_neg (fun h=>by
 rcases h with h|⟨ha,hb,h⟩|⟨ha,hb,h⟩
 ·exact h hlen
 ·rw[hz] at h;cases h
 ·exact ha hop),if_neg (fun h=>absurd h.1 (by rw[hop];decide)),if_neg (fun h=>absurd h.1 (by rw[hop];decide)),if_neg (fun h=>absurd h.1 (by rw[hop];decide)),if_neg (fun h=>by
 rcases h with h|h
 ·rw[hN] at h;cases h.2
 ·exact absurd h.1 (by rw[hop];decide))]),hL.pk [some 0]⟩)
      ·have hN:nameL x.name=true:=by simpa using hb6
       refine A3 ?_;refine Kp 118 h1 ?_;refine A1 ?_;refine r_know 119 (.bool false) rfl (by rw[hop];rfl) ?_;refine A19 ?_;refine at_end1 rfl (res_tmp rfl) (fun w hL=>⟨(),eI (by unfold mnode nodeE;rw[if_neg hn1,if_neg hl1,if_neg (by rw[hcn];omega),if_neg (fun h=>by
 rcases h with h|⟨ha,hb,h⟩|⟨ha,hb,h⟩
 ·exact h hlen
 ·rw[hz] at h;cases h
 ·exact ha hop),if_neg (fun h=>absurd h.1 (by rw[hop];decide)),if_neg (fun h=>absurd h.1 (by rw[hop];decide)),if_neg (fun h=>absurd h.1 (by rw[hop];decide)),if_neg (fun h=>by
 rcases h with h|h
 ·rw[hN] at h;cases h.2
 ·exact absurd h.1 (by rw[hop];decide))]),hL.pk [some 0]⟩)
theorem c_mnode_5{x:XT}(z:XR x)(hfn:x.name.length≤1000000)(hfu:x.num.fit=true)(lv n gc:Nat)(hn:n≤256)(hlv:lv≤1000)(hop:x.op=5):ECall Tryz.prog 90 [VK gc n,gB z.T false] [.pointer (some ⟨gc,0,none⟩),z.v,.int .i64 (lv:Nat)] Unit (fun _=> .int .i64 (mnode x lv n:Nat)) (fun _=>[VK gc (n+1)]):=by
 refine⟨by kernel_rfl,fun B w hD hL0=>?_⟩;obtain⟨h1,h2,h3,h4,h5,h6⟩:=z.inv;have hs:=NumV.fit_cells h3 hfu
 have hcn:cntL x.op=0:=(by rw[hop];rfl);refine cB3 126 Tryz.func90 hL0 ?_;refine A2 ?_;refine Bo [_,_,_,_,_,_,_] 7 (fun g=>[_,_,⟨some g,30,_,7,true⟩]) (fun g0=>?_);refine A9 ?_;refine Ar (((n+1:Nat):Int)) ?_;refine A2 ?_;refine So 0 0 [⟨some gc,73,_,1,true⟩,_,_] [_] ?_;refine A12 ?_;refine Cd ?_ ?_<;>intro hb0
 ·have hn1:256≤n:=by have:=of_decide_eq_true hb0;omega
  refine A7 ?_;refine at_end1 rfl (res_tmp rfl) (fun w hL=>⟨(),eI (by unfold mnode;rw[if_pos hn1]),hL.pk [some 0]⟩)
 ·have hn1:¬256≤n:=by have:=of_decide_eq_false hb0;omega
  refine A9 ?_;refine Cd ?_ ?_<;>intro hb1
  ·have hl1:32<lv:=by have:=of_decide_eq_true hb1;omega
   refine A7 ?_;refine at_end1 rfl (res_tmp rfl) (fun w hL=>⟨(),eI (by unfold mnode;rw[if_neg hn1,if_pos hl1]),hL.pk [some 0]⟩)
  ·have hl1:¬32<lv:=by have:=of_decide_eq_false hb1;omega
   refine A3 ?_;refine at_regionM ?_;refine A2 ?_;refine Kp 26 h1 ?_;refine Gm 0 [] [] (fun _=>[_,_,_]) (c_law_of x.op) (fun _=>?_);refine r_know 27 (.tuple #[.agg #[.int .i64 5,.int .i64 0,.int .i64 8,.string (strU [122,111,110,101])],.bool true]) rfl (by rw[hop];kernel_rfl) ?_;refine A3 ?_;refine r_alloc [_,_,_,_] 4 (fun g=>[_,_,_,⟨some g,94,_,4,true⟩]) rfl rfl z94 rfl rfl (fun _=>rfl) (fun g1=>?_);refine So 3 0 [_,_,_,⟨some g1,94,_,4,true⟩] [_,_,_,_] ?_;refine A19 ?_;refine r_know 34 (.int .i64 (x.args.length:Nat)) rfl (by rw[h5]) ?_;refine A4 ?_;refine Rs 38 ?_ ?_<;>intro hb2
   ·have hlen:((x.args.length:Nat):Int)≠cntL x.op:=by rw[hcn];have hh:=hb2;simpa using hh
    refine A40 ?_;refine at_end1 rfl (res_tmp rfl) (fun w hL=>⟨(),eI (by unfold mnode nodeE;rw[if_neg hn1,if_neg hl1,if_neg (by rw[hcn];omega),if_pos (.inl hlen)]),hL.pk [some 0]⟩)
   ·have hlen:((x.args.length:Nat):Int)=cntL x.op:=by rw[hcn];have hh:=hb2;simpa using hh
    have hl2:x.args.length=0:=(by rw[hcn] at hlen;omega);refine A2 ?_;refine r_know 40 (.string (strU x.name)) rfl (by rw[h2]) ?_;refine A1 ?_;refine r_know 41 (.bool (x.name !=[])) rfl (by rw[show(strU x.name !=⟨#[]⟩)=(strU x.name !=strU []) from rfl,bne,strU_beq];rfl) ?_;refine A1 ?_;refine Rs 42 ?_ ?_<;>intro hb3
    ·have hnm:x.name≠[]:=by simpa using hb3
     refine A2 ?_;refine Kp 44 h1 ?_;refine A1 ?_;refine r_know 45 (.bool true) rfl (by rw[hop];rfl) ?_;refine A4 ?_;refine Kp 49 h1 ?_;refine A1 ?_;refine r_know 50 (.bool false) rfl (by rw[hop];rfl) ?_;refine A4 ?_;refine Ld 2 2 [_,_,_,_] ti27 ?_;refine r_build [] rfl rfl rfl (bd27_0) ?_;refine r_neqAgg rfl rfl rfl rfl gd27 (eq27r _ _ _ _ _ _ _ _) ?_;refine r_know 57 (.bool (!x.num.isZ)) rfl (by rw[NumV.isZ_cells h3]) ?_;refine A1 ?_;refine Rs 58 ?_ ?_<;>intro hb4
     ·have hz:x.num.isZ=false:=by simpa using hb4
      refine A2 ?_;refine Kp 60 h1 ?_;refine A1 ?_;refine r_know 61 (.bool true) rfl (by rw[hop];rfl) ?_;refine A4 ?_;refine Kp 65 h1 ?_;refine A1 ?_;refine r_know 66 (.bool true) rfl (by rw[hop];rfl) ?_;refine A12 ?_;refine at_end1 rfl (res_tmp rfl) (fun w hL=>⟨(),eI (by unfold mnode nodeE;rw[if_neg hn1,if_neg hl1,if_neg (by rw[hcn];omega),if_pos (.inr (.inl ⟨(by rw[hop];decide),(by rw[hop];decide),hz⟩))]),hL.pk [some 0]⟩)
     ·have hz:x.num.isZ=true:=by simpa using hb4
      refine A20 ?_;refine Kp 70 h1 ?_;refine A1 ?_;refine r_know 71 (.bool false) rfl (by rw[hop];rfl) ?_;refine A18 ?_;refine El (ι:=Unit) (fun⟨⟩=>([(0,.pointer (some ⟨gc,0,none⟩)),(4,.pointer (some ⟨g0,0,none⟩)),(9,.int .i64 0)],[VK gc (n+1),gB z.T false,XB g0 z],0)) () ?_ (hL:=Weak.auto);rintro⟨⟩;(try dsimp only);refine A7 ?_;refine r_know 81 (.int .i64 (x.args.length:Nat)) rfl (by rw[h5]) ?_;refine A1 ?_;refine r_know 82 (.bool false) rfl (congrArg Value.bool (decide_eq_false (by omega))) ?_;refine A19 ?_;refine Kp 99 h1 ?_;refine A1 ?_;refine r_know 100 (.bool false) rfl (by rw[hop];rfl) ?_;refine A15 ?_;refine Kp 109 h1 ?_;refine A1 ?_;refine r_know 110 (.bool false) rfl (by rw[hop];rfl) ?_;refine A13 ?_;refine Kp 118 h1 ?_;refine A1 ?_;refine r_know 119 (.bool true) rfl (by rw[hop];rfl) ?_;refine A3 ?_;refine r_know 122 (.string (strU x.name)) rfl (by rw[h2]) ?_;refine Pc (c_law_isZone x.name hfn) ?_;refine A5 ?_;refine Cd ?_ ?_<;>intro hb6
      ·have hZ:zoneL x.name=false:=by simpa using hb6
       refine A8 ?_;refine at_end1 rfl (res_tmp rfl) (fun w hL=>⟨(),eI (by unfold mnode nodeE;rw[if_neg hn1,if_neg hl1,if_neg (by rw[hcn];omega),if_neg (fun h=>by
 rcases h with h|⟨ha,hb,h⟩|⟨ha,hb,h⟩
 ·exact h hlen
 ·rw[hz] at h;cases h
 ·exact hb hop),if_neg (fun h=>absurd h.1 (by rw[hop];decide)),if_neg (fun h=>absurd h.1 (by rw[hop];decide)),if_neg (fun h=>absurd h.1 (by rw[hop];decide)),if_pos (.inr ⟨hop,hZ⟩)]),hL.pk [some 0]⟩)
      ·have hZ:zoneL x.name=true:=by simpa using hb6
       refine A9 ?_;refine at_end1 rfl (res_tmp rfl) (fun w hL=>⟨(),eI (by unfold mnode nodeE;rw[if_neg hn1,if_neg hl1,if_neg (by rw[hcn];omega),if_neg (fun h=>by
 rcases h with h|⟨ha,hb,h⟩|⟨ha,hb,h⟩
 ·exact h hlen
 ·rw[hz] at h;cases h
 ·exact hb hop),if_neg (fun h=>absurd h.1 (by rw[hop];decide)),if_neg (fun h=>absurd h.1 (by rw[hop];decide)),if_neg (fun h=>absurd h.1 (by rw[hop];decide)),if_neg (fun h=>by
 rcases h with h|h
 ·exact absurd h.1 (by rw[hop];decide)
 ·rw[hZ] at h;cases h.2)]),hL.pk [some 0]⟩)
    ·have hnm:x.name=[]:=by simpa using hb3
     refine A12 ?_;refine Ld 2 2 [_,_,_,_] ti27 ?_;refine r_build [] rfl rfl rfl (bd27_0) ?_;refine r_neqAgg rfl rfl rfl rfl gd27 (eq27r _ _ _ _ _ _ _ _) ?_;refine r_know 57 (.bool (!x.num.isZ)) rfl (by rw[NumV.isZ_cells h3]) ?_;refine A1 ?_;refine Rs 58 ?_ ?_<;>intro hb4
     ·have hz:x.num.isZ=false:=by simpa using hb4
      refine A2 ?_;refine Kp 60 h1 ?_;refine A1 ?_;refine r_know 61 (.bool true) rfl (by rw[hop];rfl) ?_;refine A4 ?_;refine Kp 65 h1 ?_;refine A1 ?_;refine r_know 66 (.bool true) rfl (by rw[hop];rfl) ?_;refine A12 ?_;refine at_end1 rfl (res_tmp rfl) (fun w hL=>⟨(),eI (by unfold mnode nodeE;rw[if_neg hn1,if_neg hl1,if_neg (by rw[hcn];omega),if_pos (.inr (.inl ⟨(by rw[hop];decide),(by rw[hop];decide),hz⟩))]),hL.pk [some 0]⟩)
     ·have hz:x.num.isZ=true:=by simpa using hb4
      refine A20 ?_;refine Kp 70 h1 ?_;refine A1 ?_;refine r_know 71 (.bool false) rfl (by rw[hop];rfl) ?_;refine A18 ?_;refine El (ι:=Unit) (fun⟨⟩=>([(0,.pointer (some ⟨gc,0,none⟩)),(4,.pointer (some ⟨g0,0,none⟩)),(9,.int .i64 0)],[VK gc (n+1),gB z.T false,XB g0 z],0)) () ?_ (hL:=Weak.auto);rintro⟨⟩;(try dsimp only);refine A7 ?_;refine r_know 81 (.int .i64 (x.args.length:Nat)) rfl (by rw[h5]) ?_;refine A1 ?_;refine r_know 82 (.bool false) rfl (congrArg Value.bool (decide_eq_false (by omega))) ?_;refine A19 ?_;refine Kp 99 h1 ?_;refine A1 ?_;refine r_know 100 (.bool false) rfl (by rw[hop];rfl) ?_;refine A15 ?_;refine Kp 109 h1 ?_;refine A1 ?_;refine r_know 110 (.bool false) rfl (by rw[hop];rfl) ?_;refine A13 ?_;refine Kp 118 h1 ?_;refine A1 ?_;refine r_know 119 (.bool true) rfl (by rw[hop];rfl) ?_;refine A3 ?_;refine r_know 122 (.string (strU x.name)) rfl (by rw[h2]) ?_;refine Pc (c_law_isZone x.name hfn) ?_;refine A5 ?_;refine Cd ?_ ?_<;>intro hb6
      ·have hZ:zoneL x.name=false:=by simpa using hb6
       refine A8 ?_;refine at_end1 rfl (res_tmp rfl) (fun w hL=>⟨(),eI (by unfold mnode nodeE;rw[if_neg hn1,if_neg hl1,if_neg (by rw[hcn];omega),if_neg (fun h=>by
 rcases h with h|⟨ha,hb,h⟩|⟨ha,hb,h⟩
 ·exact h hlen
 ·rw[hz] at h;cases h
 ·exact hb hop),if_neg (fun h=>absurd h.1 (by rw[hop];decide)),if_neg (fun h=>absurd h.1 (by rw[hop];decide)),if_neg (fun h=>absurd h.1 (by rw[hop];decide)),if_pos (.inr ⟨hop,hZ⟩)]),hL.pk [some 0]⟩)
      ·have hZ:zoneL x.name=true:=by simpa using hb6
       refine A9 ?_;refine at_end1 rfl (res_tmp rfl) (fun w hL=>⟨(),eI (by unfold mnode nodeE;rw[if_neg hn1,if_neg hl1,if_neg (by rw[hcn];omega),if_neg (fun h=>by
 rcases h with h|⟨ha,hb,h⟩|⟨ha,hb,h⟩
 ·exact h hlen
 ·rw[hz] at h;cases h
 ·exact hb hop),if_neg (fun h=>absurd h.1 (by rw[hop];decide)),if_neg (fun h=>absurd h.1 (by rw[hop];decide)),if_neg (fun h=>absurd h.1 (by rw[hop];decide)),if_neg (fun h=>by
 rcases h with h|h
 ·exact absurd h.1 (by rw[hop];decide)
 ·rw[hZ] at h;cases h.2)]),hL.pk [some 0]⟩)
theorem c_mnode_o{x:XT}(z:XR x)(hfn:x.name.length≤1000000)(hfu:x.num.fit=true)(lv n gc:Nat)(hn:n≤256)(hlv:lv≤1000)(hop1:x.op≠1)(hop2:x.op≠2)(hop3:x.op≠3)(hop4:x.op≠4)(hop5:x.op≠5):ECall Tryz.prog 90 [VK gc n,gB z.T false] [.pointer (some ⟨gc,0,none⟩),z.v,.int .i64 (lv:Nat)] Unit (fun _=> .int .i64 (mnode x lv n:Nat)) (fun _=>[VK gc (n+1)]):=by
 refine⟨by kernel_rfl,fun B w hD hL0=>?_⟩;obtain⟨h1,h2,h3,h4,h5,h6⟩:=z.inv;have hs:=NumV.fit_cells h3 hfu;refine cB3 126 Tryz.func90 hL0 ?_;refine A2 ?_;refine Bo [_,_,_,_,_,_,_] 7 (fun g=>[_,_,⟨some g,30,_,7,true⟩]) (fun g0=>?_);refine A9 ?_;refine Ar (((n+1:Nat):Int)) ?_;refine A2 ?_;refine So 0 0 [⟨some gc,73,_,1,true⟩,_,_] [_] ?_;refine A12 ?_;refine Cd ?_ ?_<;>intro hb0
 ·have hn1:256≤n:=by have:=of_decide_eq_true hb0;omega
  refine A7 ?_;refine at_end1 rfl (res_tmp rfl) (fun w hL=>⟨(),eI (by unfold mnode;rw[if_pos hn1]),hL.pk [some 0]⟩)
 ·have hn1:¬256≤n:=by have:=of_decide_eq_false hb0;omega
  refine A9 ?_;refine Cd ?_ ?_<;>intro hb1
  ·have hl1:32<lv:=by have:=of_decide_eq_true hb1;omega
   refine A7 ?_;refine at_end1 rfl (res_tmp rfl) (fun w hL=>⟨(),eI (by unfold mnode;rw[if_neg hn1,if_pos hl1]),hL.pk [some 0]⟩)
  ·have hl1:¬32<lv:=by have:=of_decide_eq_false hb1;omega
   refine A3 ?_;refine at_regionM ?_;refine A2 ?_;refine Kp 26 h1 ?_;rcases hmf:mfind x.op with _|o
   ·have hcn:=cnt_none hmf;refine Gm 0 [] [] (fun _=>[_,_,_]) (c_law_of x.op) (fun _=>?_);refine r_know 27 (.tuple #[.agg #[.int .i64 0,.int .i64 0,.int .i64 0,.string ⟨#[]⟩],.bool false]) rfl (by unfold mofV;rw[hmf]) ?_;refine A3 ?_;refine r_alloc [_,_,_,_] 4 (fun g=>[_,_,_,⟨some g,94,_,4,true⟩]) rfl rfl z94 rfl rfl (fun _=>rfl) (fun g1=>?_);refine So 3 0 [_,_,_,⟨some g1,94,_,4,true⟩] [_,_,_,_] ?_;refine A18 ?_;refine at_end1 rfl (res_tmp rfl) (fun w hL=>⟨(),eI (by unfold mnode nodeE;rw[if_neg hn1,if_neg hl1,if_pos (by rw[hcn];decide)]),hL.pk [some 0]⟩)
   ·have hcn:=cnt_some hmf;have hpos:=cnt_pos hmf hop1 hop3 hop4 hop5;refine Gm 0 [] [] (fun _=>[_,_,_]) (c_law_of x.op) (fun _=>?_);refine r_know 27 (.tuple #[.agg #[.int .i64 (o.1:Nat),.int .i64 (o.2.1:Nat),.int .i64 (o.2.2.1:Nat),.string (strU o.2.2.2)],.bool true]) rfl (by unfold mofV;rw[hmf];rfl) ?_;refine A3 ?_;refine r_alloc [_,_,_,_] 4 (fun g=>[_,_,_,⟨some g,94,_,4,true⟩]) rfl rfl z94 rfl rfl (fun _=>rfl) (fun g1=>?_);refine So 3 0 [_,_,_,⟨some g1,94,_,4,true⟩] [_,_,_,_] ?_;refine A19 ?_;refine r_know 34 (.int .i64 (x.args.length:Nat)) rfl (by rw[h5]) ?_;refine A4 ?_;refine Rs 38 ?_ ?_<;>intro hb3
    ·have hlen:((x.args.length:Nat):Int)≠cntL x.op:=by rw[hcn];have hh:=hb3;simpa using hh
     refine A40 ?_;refine at_end1 rfl (res_tmp rfl) (fun w hL=>⟨(),eI (by unfold mnode nodeE;rw[if_neg hn1,if_neg hl1,if_neg (by rw[hcn];omega),if_pos (.inl hlen)]),hL.pk [some 0]⟩)
    ·have hlen:((x.args.length:Nat):Int)=cntL x.op:=by rw[hcn];have hh:=hb3;simpa using hh
     have hl2:1≤x.args.length:=(by rw[hcn] at hlen;omega);refine A2 ?_;refine r_know 40 (.string (strU x.name)) rfl (by rw[h2]) ?_;refine A1 ?_;refine r_know 41 (.bool (x.name !=[])) rfl (by rw[show(strU x.name !=⟨#[]⟩)=(strU x.name !=strU []) from rfl,bne,strU_beq];rfl) ?_;refine A1 ?_;refine Rs 42 ?_ ?_<;>intro hb4
     ·have hnm:x.name≠[]:=by simpa using hb4
      refine A2 ?_;refine Kp 44 h1 ?_;refine A1 ?_;refine r_know 45 (.bool true) rfl (congrArg Value.bool (by simpa using hop4)) ?_;refine A4 ?_;refine Kp 49 h1 ?_;refine A1 ?_;refine r_know 50 (.bool true) rfl (congrArg Value.bool (by simpa using hop5)) ?_;refine A28 ?_;refine at_end1 rfl (res_tmp rfl) (fun w hL=>⟨(),eI (by unfold mnode nodeE;rw[if_neg hn1,if_neg hl1,if_neg (by rw[hcn];omega),if_pos (.inr (.inr ⟨hop4,hop5,hnm⟩))]),hL.pk [some 0]⟩)
     ·have hnm:x.name=[]:=by simpa using hb4
      refine A12 ?_;refine Ld 2 2 [_,_,_,_] ti27 ?_;refine r_build [] rfl rfl rfl (bd27_0) ?_;refine r_neqAgg rfl rfl rfl rfl gd27 (eq27r _ _ _ _ _ _ _ _) ?_;refine r_know 57 (.bool (!x.num.isZ)) rfl (by rw[NumV.isZ_cells h3]) ?_;refine A1 ?_;refine Rs 58 ?_ ?_<;>intro hb5
      ·have hz:x.num.isZ=false:=by simpa using hb5
       refine A2 ?_;refine Kp 60 h1 ?_;refine A1 ?_;refine r_know 61 (.bool true) rfl (congrArg Value.bool (by simpa using hop1)) ?_;refine A4 ?_;refine Kp 65 h1 ?_;refine A1 ?_;refine r_know 66 (.bool true) rfl (congrArg Value.bool (by simpa using hop3)) ?_;refine A12 ?_;refine at_end1 rfl (res_tmp rfl) (fun w hL=>⟨(),eI (by unfold mnode nodeE;rw[if_neg hn1,if_neg hl1,if_neg (by rw[hcn];omega),if_pos (.inr (.inl ⟨hop1,hop3,hz⟩))]),hL.pk [some 0]⟩)
      ·have hz:x.num.isZ=true:=by simpa using hb5
       refine A20 ?_;refine Kp 70 h1 ?_;refine A1 ?_;refine r_know 71 (.bool false) rfl (congrArg Value.bool (by simpa using hop1)) ?_;refine A18 ?_;refine El (ι:=Unit) (fun⟨⟩=>([(0,.pointer (some ⟨gc,0,none⟩)),(4,.pointer (some ⟨g0,0,none⟩)),(9,.int .i64 0)],[VK gc (n+1),gB z.T false,XB g0 z],0)) () ?_ (hL:=Weak.auto);rintro⟨⟩;(try dsimp only);refine A7 ?_;refine r_know 81 (.int .i64 (x.args.length:Nat)) rfl (by rw[h5]) ?_;refine A1 ?_;refine r_know 82 (.bool true) rfl (congrArg Value.bool (decide_eq_true (by omega))) ?_;refine A3 ?_;refine Kp 85 h1 ?_;refine A1 ?_;refine r_know 86 (.bool false) rfl (congrArg Value.bool (by simpa using hop2)) ?_;refine A15 ?_;refine Kp 99 h1 ?_;refine A1 ?_;refine r_know 100 (.bool false) rfl (congrArg Value.bool (by simpa using hop3)) ?_;refine A15 ?_;refine Kp 109 h1 ?_;refine A1 ?_;refine r_know 110 (.bool false) rfl (congrArg Value.bool (by simpa using hop4)) ?_;refine A13 ?_;refine Kp 118 h1 ?_;refine A1 ?_;refine r_know 119 (.bool false) rfl (congrArg Value.bool (by simpa using hop5)) ?_;refine A19 ?_;refine at_end1 rfl (res_tmp rfl) (fun w hL=>⟨(),eI (by unfold mnode nodeE;rw[if_neg hn1,if_neg hl1,if_neg (by rw[hcn];omega),if_neg (fun h=>by
 rcases h with h|⟨ha,hb,h⟩|⟨ha,hb,h⟩
 ·exact h hlen
 ·rw[hz] at h;cases h
 ·exact h hnm),if_neg (fun h=>absurd h.1 hop1),if_neg (fun h=>absurd h.1 hop2),if_neg (fun h=>absurd h.1 hop3),if_neg (fun h=>by
 rcases h with h|h
 ·exact absurd h.1 hop4
 ·exact absurd h.1 hop5)]),hL.pk [some 0]⟩)
theorem c_mnode{x:XT}(z:XR x)(hfn:x.name.length≤1000000)(hfu:x.num.fit=true)(lv n gc:Nat)(hn:n≤256)(hlv:lv≤1000):
 ECall Tryz.prog 90 [VK gc n,gB z.T false] [.pointer (some ⟨gc,0,none⟩),z.v,.int .i64 (lv:Nat)] Unit (fun _=> .int .i64 (mnode x lv n:Nat)) (fun _=>[VK gc (n+1)]):=by
 by_cases h1:x.op=1
 ·exact c_mnode_1 z hfn hfu lv n gc hn hlv h1
 by_cases h2:x.op=2
 ·exact c_mnode_2 z hfn hfu lv n gc hn hlv h2
 by_cases h3:x.op=3
 ·exact c_mnode_3 z hfn hfu lv n gc hn hlv h3
 by_cases h4:x.op=4
 ·exact c_mnode_4 z hfn hfu lv n gc hn hlv h4
 by_cases h5:x.op=5
 ·exact c_mnode_5 z hfn hfu lv n gc hn hlv h5
 exact c_mnode_o z hfn hfu lv n gc hn hlv h1 h2 h3 h4 h5
def MckC(y:XT):Prop:=∀(u:XR y),y.fit=true→∀lv n gc:Nat,n≤256→lv≤1000→
 ECall Tryz.prog 50 [VK gc n,gB u.T false] [.pointer (some ⟨gc,0,none⟩),u.v,.int .i64 (lv:Nat)] Unit (fun _=> .int .i64 ((mch y lv n).1:Nat)) (fun _=>[VK gc (mch y lv n).2])
theorem c_mexpr_step{x:XT}(z:XR x)(hf:x.fit=true)(H:∀y:XT,y.size<x.size→MckC y)(lv n gc:Nat)(hn:n≤256)(hlv:lv≤1000):ECall Tryz.prog 50 [VK gc n,gB z.T false] [.pointer (some ⟨gc,0,none⟩),z.v,.int .i64 (lv:Nat)] Unit (fun _=> .int .i64 ((mch x lv n).1:Nat)) (fun _=>[VK gc (mch x lv n).2]):=by
 refine⟨by kernel_rfl,fun B w hD hL0=>?_⟩;obtain⟨h1,h2,h3,h4,h5,h6⟩:=z.inv;have hfp:=XT.fit_parts hf;refine cB3 34 Tryz.func50 hL0 ?_;refine A2 ?_;refine Bo [_,_,_,_,_,_,_] 7 (fun g=>[_,_,⟨some g,30,_,7,true⟩]) (fun g0=>?_);refine A4 ?_;refine at_regionM ?_;refine A1 ?_;refine Ld 2 0 [_,_,_,_,_,_,_] ti30 ?_;refine Kr 10 (z.v) ?_;refine A1 ?_;refine Gm 1 [0] [1] (fun _=>[VK gc (n+1),_,_]) (c_mnode z hfp.1 hfp.2.1 lv n gc hn hlv) (fun _=>?_);refine A10 ?_;refine El (ι:={q:Nat×Nat×Nat // q.1≤x.args.length∧(q.2.2≠0→mch x lv n=(q.2.2,q.2.1))∧(q.2.2=0→q.2.1≤256∧lv≤32∧x.args.length≤3∧mch x lv n=mchs (x.args.drop q.1) (lv+1) q.2.1)}) (fun⟨⟨i,m,e⟩,hi,hI1,hI2⟩=>([(0,.pointer (some ⟨gc,0,none⟩)),(2,.int .i64 (lv:Nat)),(4,.pointer (some ⟨g0,0,none⟩)),(7,.int .i64 (e:Nat)),(8,.int .i64 (i:Nat))],[VK gc m,gB z.T false,XB g0 z],x.args.length-i)) ⟨(0,n+1,mnode x lv n),Nat.zero_le _,fun h=>by rw[mch_eq,if_pos h],fun h=>⟨by have:=mnode_0 h;show n+1≤256;omega,(mnode_0 h).2.1,nodeE_len (mnode_0 h).2.2,by have h:mnode x lv n=0:=h;rw[mch_eq,if_neg (by rw[h];simp),List.drop_zero]⟩⟩ ?_ (hL:=Weak.auto);rintro⟨⟨i,m,e⟩,hi,hI1,hI2⟩;(try dsimp only);dsimp only at hi hI1 hI2;refine A7 ?_;refine r_know 16 (.int .i64 (x.args.length:Nat)) rfl (by rw[h5]) ?_;refine A2 ?_;refine Rs 18 ?_ ?_<;>intro hb1
 ·have hlt:i<x.args.length:=by have:=of_decide_eq_true hb1;omega
  obtain⟨y,hy⟩:∃y,x.args[i]? =some y:=⟨x.args[i],List.getElem?_eq_getElem hlt⟩;obtain⟨ga,oa,ca,u,hza,hma,hra,hTa,hna⟩:=z.arg hy;have hfy:y.fit=true:=XT.fits_get hfp.2.2 hy;refine A5 ?_;refine Cd ?_ ?_<;>intro hb2
  ·have he:e=0:=by have hh:=hb2;simpa using hh
   obtain⟨hm,hl32,hal,hE⟩:=hI2 he;refine A4 ?_;refine at_regionM ?_;refine A4 ?_;refine r_indexAddrG (gg:=ga) (len:=z.n) (cap:=z.cap) (oa+i*7) u28 ti30 rfl rfl (congrArg (fun a=>some (Value.slice a z.n z.cap)) hza) rfl (by omega) (by omega) (by show oa+Int.toNat _*7=_;omega) ?_;refine r_loadT (v:=u.v) 1 (oa+i*7) u.cs rfl rfl rfl z.hT hma hna rfl ti30 hra rfl rfl rfl ?_;refine A1 ?_;refine Ar (((lv+1:Nat):Int)) ?_;refine Gm 1 [0] [1] (fun _=>[VK gc (mch y (lv+1) m).2,_,_]) (by have h:=H y (XT.arg_lt hy) u hfy (lv+1) m gc hm (by omega);rw[hTa] at h;exact h) (fun _=>?_);refine A6 ?_;refine Ar (((i+1:Nat):Int)) ?_;refine A3 ?_;exact Nl ⟨(i+1,(mch y (lv+1) m).2,(mch y (lv+1) m).1),hlt,fun h=>by rw[hE,mchs_step hy,if_pos h],fun h=>⟨mch_le0 y (lv+1) m hm h,hl32,hal,by have h:(mch y (lv+1) m).1=0:=h;rw[hE,mchs_step hy,if_neg (by omega)]⟩⟩ (hL:=Weak.auto)
  ·have he:e≠0:=by have hh:=hb2;simpa using hh
   refine A12 ?_;refine at_end1 rfl (res_tmp rfl) (fun w hL=>by
 have ee:mch x lv n=(e,m):=hI1 he;rw[ee];exact⟨(),rfl,hL.pk [some 0]⟩)
 ·have hge:i=x.args.length:=by have:=of_decide_eq_false hb1;omega
  refine A18 ?_;refine at_end1 rfl (res_tmp rfl) (fun w hL=>by
 have ee:mch x lv n=(e,m):=by
  by_cases h0:e=0
  ·obtain⟨hm,hl32,hal,hE⟩:=hI2 h0;rw[hE,hge,List.drop_length,mchs,h0]
  ·exact hI1 h0
 rw[ee];exact⟨(),rfl,hL.pk [some 0]⟩)
theorem c_mexpr(x:XT)(u:XR x)(hf:x.fit=true)(lv n gc:Nat)(hn:n≤256)(hl:lv≤1000):
 ECall Tryz.prog 50 [VK gc n,gB u.T false] [.pointer (some ⟨gc,0,none⟩),u.v,.int .i64 (lv:Nat)] Unit (fun _=> .int .i64 ((mch x lv n).1:Nat)) (fun _=>[VK gc (mch x lv n).2]):=
 byS (p:=MckC) (fun x H u hf lv n gc hn hl=>c_mexpr_step u hf H lv n gc hn hl) x u hf lv n gc hn hl
theorem c_mcheckExpr{x:XT}(z:XR x)(hf:x.fit=true):ECall Tryz.prog 19 [gB z.T false] [z.v] Unit (fun _=> .int .i64 (chkE x:Nat)) (fun _=>[]):=by
 refine⟨by kernel_rfl,fun B w hD hL0=>?_⟩;refine cB1 9 Tryz.func19 hL0 ?_;refine A2 ?_;refine Bo [_,_,_,_,_,_,_] 7 (fun g=>[_,⟨some g,30,_,7,true⟩]) (fun g0=>?_);refine A5 ?_;refine r_build [] rfl rfl rfl (bd73_0) ?_;refine Bo [_] 1 (fun g=>[_,_,⟨some g,73,_,1,true⟩]) (fun g1=>?_);refine A4 ?_;refine at_regionM ?_;refine A1 ?_;refine Ld 1 0 [_,_,_,_,_,_,_] ti30 ?_;refine Kr 7 (z.v) ?_;refine Gm 1 [2] [0] (fun _=>[_,_,VK g1 (mch x 1 0).2]) (c_mexpr x z hf 1 0 g1 (by decide) (by decide)) (fun _=>?_);refine A4 ?_;refine at_end1 rfl (res_tmp rfl) (fun w hL=>⟨(),eI (mch_chk x 1 0).1,hL.pk []⟩)
theorem c_msize_step{x:XT}(z:XR x)(H:∀y:XT,y.size<x.size→MszC y)(hM:x.size≤1000000000):ECall Tryz.prog 21 [gB z.T false] [z.v] Unit (fun _=> .int .i64 (x.size:Nat)) (fun _=>[]):=by
 refine⟨by kernel_rfl,fun B w hD hL0=>?_⟩;obtain⟨h1,h2,h3,h4,h5,h6⟩:=z.inv;refine cB1 21 Tryz.func21 hL0 ?_;refine A2 ?_;refine Bo [_,_,_,_,_,_,_] 7 (fun g=>[_,⟨some g,30,_,7,true⟩]) (fun g0=>?_);refine A15 ?_;refine El (ι:={i:Nat // i≤x.args.length}) (fun⟨i,hi⟩=>([(1,.pointer (some ⟨g0,0,none⟩)),(3,.int .i64 (1+XT.sizes (x.args.take i):Nat)),(4,.int .i64 (i:Nat))],[gB z.T false,XB g0 z],x.args.length-i)) ⟨0,Nat.zero_le _⟩ ?_ (hL:=Weak.auto);rintro⟨i,hi⟩;(try dsimp only);refine A7 ?_;refine r_know 8 (.int .i64 (x.args.length:Nat)) rfl (by rw[h5]) ?_;refine A3 ?_;refine Cd ?_ ?_<;>intro hb1
 ·have hlt:i<x.args.length:=by have:=of_decide_eq_true hb1;omega
  obtain⟨y,hy⟩:∃y,x.args[i]? =some y:=⟨x.args[i],List.getElem?_eq_getElem hlt⟩;obtain⟨ga,oa,ca,u,hza,hma,hra,hTa,hna⟩:=z.arg hy;have hsz:=XT.size_eq x;have hst:=XT.sizes_take_le x.args (i+1);have hdt:=XT.deps_take_le x.args (i+1);rw[XT.sizes_take hy] at hst;rw[XT.deps_take hy] at hdt;have hds:=deps_le_sizes x.args;have hal:=XT.len_sizes x.args;refine A4 ?_;refine at_regionM ?_;refine A4 ?_;refine r_indexAddrG (gg:=ga) (len:=z.n) (cap:=z.cap) (oa+i*7) u28 ti30 rfl rfl (congrArg (fun a=>some (Value.slice a z.n z.cap)) hza) rfl (by omega) (by omega) (by show oa+Int.toNat _*7=_;omega) ?_;refine r_loadT (v:=u.v) 0 (oa+i*7) u.cs rfl rfl rfl z.hT hma hna rfl ti30 hra rfl rfl rfl ?_;refine Gm 0 [] [0] (fun _=>[_,_]) (by have h:=H y (XT.arg_lt hy) u (by have:=XT.sizes_get hy;have:=XT.size_eq x;omega);rw[hTa] at h;exact h) (fun _=>?_);refine r_arith (r:=((1+XT.sizes (x.args.take (i+1)):Nat):Int)) rfl rfl rfl rfl (congrArg some (by rw[XT.sizes_take hy];exact wi (by omega) (by omega) (by omega))) ?_;refine A6 ?_;refine Ar (((i+1:Nat):Int)) ?_;refine A3 ?_;exact Nl ⟨i+1,hlt⟩ (hL:=Weak.auto)
 ·have hge:i=x.args.length:=by have:=of_decide_eq_false hb1;omega
  have hall:x.args.take i=x.args:=(by rw[hge];exact List.take_of_length_le (Nat.le_refl _));refine A12 ?_;refine at_end1 rfl (res_tmp rfl) (fun w hL=>⟨(),by rw[hall,XT.size_eq x],hL.pk []⟩)
theorem c_msize(x:XT):MszC x:=byS (fun x H u hM=>c_msize_step u H hM) x
theorem c_same_step{x y:XT}(z:XR x)(u:XR y)(H:∀x1:XT,x1.size<x.size→∀y1,SamC x1 y1)(hM:x.size≤1000000000):ECall Tryz.prog 32 [gB z.T false,gB u.T false] [z.v,u.v] Unit (fun _=> .bool (sameX x y)) (fun _=>[]):=by
 refine⟨by kernel_rfl,fun B w hD hL0=>?_⟩;obtain⟨h1,h2,h3,h4,h5,h6⟩:=z.inv;obtain⟨k1,k2,k3,k4,k5,k6⟩:=u.inv;have hlx:=XT.len_sizes x.args;have hsx:=XT.size_eq x;refine cB2 53 Tryz.func32 hL0 ?_;refine A2 ?_;refine Bo [_,_,_,_,_,_,_] 7 (fun g=>[_,_,⟨some g,30,_,7,true⟩]) (fun g0=>?_);refine Bo [_,_,_,_,_,_,_] 7 (fun g=>[_,_,_,⟨some g,30,_,7,true⟩]) (fun g1=>?_);refine A12 ?_;refine Rs 11 ?_ ?_<;>intro hb0
 ·have q1:x.op≠y.op:=by rw[←h1,←k1];have hh:=hb0;simpa using hh
  refine A32 ?_;refine at_end1 rfl (res_tmp rfl) (fun w hL=>⟨(),eB (show sameX x y=false from by rw[sameX_eq,decide_eq_false q1];rfl).symm,hL.pk []⟩)
 ·have q1:x.op=y.op:=by rw[←h1,←k1];have hh:=hb0;simpa using hh
  refine A5 ?_;refine r_know 16 (.bool (!(x.name==y.name))) rfl (by rw[h2,k2,bne,strU_beq]) ?_;refine A2 ?_;refine Rs 18 ?_ ?_<;>intro hb1
  ·have q2:(x.name==y.name)=false:=by have hh:=hb1;simpa using hh
   refine A25 ?_;refine at_end1 rfl (res_tmp rfl) (fun w hL=>⟨(),eB (show sameX x y=false from by rw[sameX_eq,q2,Bool.false_and,Bool.and_false]).symm,hL.pk []⟩)
  ·have q2:(x.name==y.name)=true:=by have hh:=hb1;simpa using hh
   refine A1 ?_;refine Ld 2 2 [_,_,_,_] ti27 ?_;refine A1 ?_;refine Ld 3 2 [_,_,_,_] ti27 ?_;refine r_neqAgg rfl rfl rfl rfl gd27 (eq27r _ _ _ _ _ _ _ _) ?_;refine r_know 23 (.bool (!numE x.num y.num)) rfl (by rw[numE_cells h3 k3]) ?_;refine A2 ?_;refine Rs 25 ?_ ?_<;>intro hb2
   ·have q3:numE x.num y.num=false:=by have hh:=hb2;simpa using hh
    refine A18 ?_;refine at_end1 rfl (res_tmp rfl) (fun w hL=>⟨(),eB (show sameX x y=false from by rw[sameX_eq,q3,Bool.false_and,Bool.and_false,Bool.and_false]).symm,hL.pk []⟩)
   ·have q3:numE x.num y.num=true:=by have hh:=hb2;simpa using hh
    refine A3 ?_;refine r_know 28 (.int .i64 (x.args.length:Nat)) rfl (by rw[h5]) ?_;refine A3 ?_;refine r_know 31 (.int .i64 (y.args.length:Nat)) rfl (by rw[k5]) ?_;refine A4 ?_;refine Cd ?_ ?_<;>intro hb3
    ·have q4:x.args.length≠y.args.length:=by have hh:=hb3;simp at hh;omega
     refine A7 ?_;refine at_end1 rfl (res_tmp rfl) (fun w hL=>⟨(),eB (show sameX x y=false from by rw[sameX_eq,sames_len q4,Bool.and_false,Bool.and_false,Bool.and_false]).symm,hL.pk []⟩)
    ·have q4:x.args.length=y.args.length:=by have hh:=hb3;simp at hh;omega
     refine A9 ?_;refine El (ι:={i:Nat // i≤x.args.length∧sames x.args y.args=sames (x.args.drop i) (y.args.drop i)}) (fun⟨i,hi,hI⟩=>([(2,.pointer (some ⟨g0,0,none⟩)),(3,.pointer (some ⟨g1,0,none⟩)),(5,.int .i64 (i:Nat))],[gB z.T false,gB u.T false,XB g0 z,XB g1 u],x.args.length-i)) ⟨0,Nat.zero_le _,by rw[List.drop_zero,List.drop_zero]⟩ ?_ (hL:=Weak.auto);rintro⟨i,hi,hI⟩;(try dsimp only);refine A7 ?_;refine r_know 37 (.int .i64 (x.args.length:Nat)) rfl (by rw[h5]) ?_;refine A3 ?_;refine Cd ?_ ?_<;>intro hb5
     ·have hlt:i<x.args.length:=by have:=of_decide_eq_true hb5;omega
      obtain⟨x1,hx1⟩:∃x1,x.args[i]? =some x1:=⟨x.args[i],List.getElem?_eq_getElem hlt⟩;obtain⟨y1,hy1⟩:∃y1,y.args[i]? =some y1:=⟨y.args[i]'(by omega),List.getElem?_eq_getElem _⟩;obtain⟨ga,oa,ca,v1,hza,hma,hra,hTa,hna⟩:=z.arg hx1;obtain⟨gb,ob,cb,v2,hzb,hmb,hrb,hTb,hnb⟩:=u.arg hy1;have hs1:x1.size≤1000000000:=by have:=XT.arg_lt hx1;omega
      refine A5 ?_;refine at_drawnI [] mixed (by kernel_rfl) (by kernel_rfl) ?_;refine A3 ?_;refine r_indexAddrG (gg:=ga) (len:=z.n) (cap:=z.cap) (oa+i*7) u28 ti30 rfl rfl (congrArg (fun a=>some (Value.slice a z.n z.cap)) hza) rfl (by omega) (by omega) (by show oa+Int.toNat _*7=_;omega) ?_;refine r_loadT (v:=v1.v) 0 (oa+i*7) v1.cs rfl rfl rfl z.hT hma hna rfl ti30 hra rfl rfl rfl ?_;refine A3 ?_;refine r_indexAddrG (gg:=gb) (len:=u.n) (cap:=u.cap) (ob+i*7) u28 ti30 rfl rfl (congrArg (fun a=>some (Value.slice a u.n u.cap)) hzb) rfl (by omega) (by omega) (by show ob+Int.toNat _*7=_;omega) ?_;refine r_loadT (v:=v2.v) 1 (ob+i*7) v2.cs rfl rfl rfl u.hT hmb hnb rfl ti30 hrb rfl rfl rfl ?_;have hcx:=H x1 (XT.arg_lt hx1) y1 v1 v2 hs1;rw[hTa,hTb] at hcx;refine r_scall0 [v1.v,v2.v] [0,1] rfl rfl rfl (ECall.toS hcx) ⟨⟨_,rfl,Blk.le_refl _⟩,⟨_,rfl,Blk.le_refl _⟩,trivial⟩ rfl ?_;refine A3 ?_;refine Cd ?_ ?_<;>intro hb6
      ·have hs:sameX x1 y1=false:=by have hh:=hb6;simpa using hh
       refine A11 ?_;refine at_end1 rfl (res_tmp rfl) (fun w hL=>⟨(),eB (show sameX x y=false from by rw[sameX_eq,decide_eq_true q1,q2,q3,hI,sames_step hx1 hy1,hs];rfl).symm,hL.pk []⟩)
      ·have hs:sameX x1 y1=true:=by have hh:=hb6;simpa using hh
       refine A5 ?_;refine Ar (((i+1:Nat):Int)) ?_;refine A3 ?_;exact Nl ⟨i+1,hlt,by rw[hI,sames_step hx1 hy1,hs];rfl⟩ (hL:=Weak.auto)
     ·have hge:i=x.args.length:=by have:=of_decide_eq_false hb5;omega
      refine A11 ?_;refine at_end1 rfl (res_tmp rfl) (fun w hL=>⟨(),eB (show sameX x y=true from by rw[sameX_eq,decide_eq_true q1,q2,q3,hI,sames_end hge q4];rfl).symm,hL.pk []⟩)
theorem c_same(x y:XT):SamC x y:=byS2 (fun x H y z u hM=>c_same_step z u H hM) x y
theorem c_SyntaxBinds0(m:Int)(b:Option Nat)(e:Nat)(pre:List Value)(l:List Stp)(n cap:Nat)(hw:∀s∈l,s.2.2.length≤281474976710656)(hw2:∀s∈l,s.1<256∧s.2.1<256)(b1:Option Nat)(e1:Nat)(p1:List Value)(names:List Bs8)(n1 c1:Nat)(b2:Option Nat)(e2:Nat)(p2:List Value)(ids:List Int)(n2 c2:Nat)(hI:∀id∈ids,-9223372036854775808≤id∧id≤9223372036854775807):ECall Tryz.prog 9 [GM m,⟨b,e,pre++stC l,n,false⟩,VBk b1 e1 p1 names n1,VIk b2 e2 p2 ids n2] [slv b pre.length l.length cap,slv b1 p1.length names.length c1,slv b2 p2.length ids.length c2] Unit (fun _=> .bool true) (fun _=>[]):=by
 refine⟨by kernel_rfl,fun B w hD hL0=>?_⟩;refine cB3 142 Tryz.func9 hL0 ?_;refine A7 ?_;refine at_regionM ?_;refine Gm 0 [] [0] (fun _=>[_,_,_,_]) (c_known m) (fun _=>?_);refine A1 ?_;refine Kr 19 (.bool false) ?_;refine A6 ?_;refine Rs 25 ?_ ?_<;>intro hb0
 ·refine A8 ?_;refine at_regionM ?_;refine Gm 0 [] [0] (fun _=>[_,_,_,_]) (c_known m) (fun _=>?_);refine A5 ?_;refine E1 fun w hL=>⟨(),rfl,hL.pk []⟩
 ·have hN4:names.length≤4:=by have:=of_decide_eq_false hb0;omega
  refine A6 ?_;refine Cd ?_ ?_<;>intro hb1
  ·refine A1 ?_;refine at_regionM ?_;refine Gm 0 [] [0] (fun _=>[_,_,_,_]) (c_known m) (fun _=>?_);refine A5 ?_;refine E1 fun w hL=>⟨(),rfl,hL.pk []⟩
  ·have hI5:ids.length≤5:=by have:=of_decide_eq_false hb1;omega
   refine A9 ?_;refine El (ι:={i:Nat // i≤names.length}) (fun⟨i,hi⟩=>([(0,slv b pre.length l.length cap),(1,slv b1 p1.length names.length c1),(2,slv b2 p2.length ids.length c2),(7,.int .i64 (i:Nat))],[GM m,⟨b,e,pre++stC l,n,false⟩,VBk b1 e1 p1 names n1,VIk b2 e2 p2 ids n2],names.length-i)) ⟨0,Nat.zero_le _⟩ ?_ (hL:=Weak.auto);rintro⟨i,hi⟩;(try dsimp only);refine A9 ?_;refine Cd ?_ ?_<;>intro hb3
   ·have hlt:i<names.length:=(by have:=of_decide_eq_true hb3;omega);obtain⟨a,ha⟩:∃a,names[i]? =some a:=⟨names[i],List.getElem?_eq_getElem hlt⟩;refine A8 ?_;refine r_indexAddr 2 (p1.length+i*1) u36 ti9 rfl rfl rfl rfl rfl (by omega) (by omega) (pre_ne (SB_ne (by omega))) (by show _+Int.toNat _*1=_;omega) ?_;refine r_load (v:= .string (strU a)) 2 (p1.length+i*1) _ rfl rfl rfl rfl ti9 (pre_get (SB_get ha) rfl) rfl (by decide) rfl ?_;refine A1 ?_;refine r_know 41 (.int .i64 (a.length:Nat)) rfl (by rw[strU_size]) ?_;refine A3 ?_;refine Cd ?_ ?_<;>intro hb4
    ·refine A11 ?_;refine E1 fun w hL=>⟨(),rfl,hL.pk []⟩
    ·refine A5 ?_;refine Ar (((i+1:Nat):Int)) ?_;refine A3 ?_;exact Nl ⟨i+1,hlt⟩ (hL:=Weak.auto)
   ·refine A6 ?_;refine at_regionM ?_;refine A1 ?_;refine Gm 0 [] [1] (fun q=>[_,_,_,_,⟨q.1.1,92,stC (limS l),q.1.2.1,true⟩]) (c_law_limited b e pre l n cap hw) (fun q=>?_);refine r_gcallM (A:=[]) (C:=[⟨q.1.1,92,stC (limS l),q.1.2.1,false⟩]) [slv q.1.1 0 (limS l).length q.1.2.2,.int .i64 (8:Nat)] [] [4] (fun r=>[_,_,_,_,_,gB r.z.T true]) rfl rfl rfl rfl (c_law_Make 8 q.1.1 q.1.2.2 q.1.2.1 (limS l) (by decide) (by decide) q.2.1 (by have:=limS_len l;omega) (limS_ok hw2)) (by decide) rfl rfl ⟨⟨_,rfl,le_share⟩,trivial⟩ rfl rfl (fun _=>rfl) (fun _=>allOwn rfl) (fun _=>rfl) (fun r=>?_);refine r_alloc [_,_,_,_,_,_,_] 7 (fun g=>[_,_,_,_,_,_,⟨some g,30,_,7,true⟩]) rfl rfl z30 rfl rfl (fun _=>rfl) (fun g0=>?_);refine So 6 0 [_,_,_,_,_,_,⟨some g0,30,_,7,true⟩] [_,_,_,_,_,_,_] ?_;refine A3 ?_;obtain⟨h0,hok,hqx,hfit,hsz,htl⟩:=made_facts r (limS_len l) (by decide);refine at_regionM ?_;refine Ld 6 0 [_,_,_,_,_,_,_] ti30 ?_;refine Kr 47 (r.z.v) ?_;refine A2 ?_;refine r_gcallM (A:=[]) (C:=[gB r.z.T false,VBk b1 e1 p1 names n1,VIk b2 e2 p2 ids n2]) [r.z.v,slv b1 p1.length names.length c1,slv b2 p2.length ids.length c2] [] [5,2,3] (fun(u:XR (bdX names ids r.x))=>[_,_,_,_,_,_,_,gB u.T true]) rfl rfl rfl rfl (c_Bind names ids (by omega) (by omega) hI r.z hfit b1 e1 p1 n1 c1 b2 e2 p2 n2 c2 (by omega)) (by decide) rfl rfl ⟨⟨_,rfl,le_share⟩,⟨_,rfl,Blk.le_refl _⟩,⟨_,rfl,Blk.le_refl _⟩,trivial⟩ rfl rfl (fun _=>rfl) (fun _=>allOwn rfl) (fun _=>rfl) (fun u=>?_);refine A3 ?_;refine r_alloc [_,_,_,_,_,_,_] 7 (fun g=>[_,_,_,_,_,_,_,_,⟨some g,30,_,7,true⟩]) rfl rfl z30 rfl rfl (fun _=>rfl) (fun g1=>?_);refine So 8 0 [_,_,_,_,_,_,_,_,⟨some g1,30,_,7,true⟩] [_,_,_,_,_,_,_] ?_;refine A4 ?_;refine at_regionM ?_;refine Ld 6 0 [_,_,_,_,_,_,_] ti30 ?_;refine Kr 53 (r.z.v) ?_;refine r_scall0 [r.z.v] [5] rfl rfl rfl (ECall.toS (c_mcheckExpr r.z hfit)) ⟨⟨_,rfl,le_share⟩,trivial⟩ rfl ?_;refine r_know 54 (.int .i64 (0:Nat)) rfl (by rw[h0]) ?_;refine A3 ?_;refine at_seqX (nt:=142) (X:={w:Nat // (w=5∧names.length≠ids.length)∨(w=0∧names.length=ids.length)}) (fun⟨w0,hw0⟩=>[(1,slv b1 p1.length names.length c1),(2,slv b2 p2.length ids.length c2),(8,.pointer (some ⟨g0,0,none⟩)),(9,.pointer (some ⟨g1,0,none⟩)),(10,.int .i64 (bdE names ids r.x:Nat)),(11,.int .i64 (w0:Nat))]) (fun⟨w0,hw0⟩=>[GM m,⟨b,e,pre++stC l,n,false⟩,VBk b1 e1 p1 names n1,VIk b2 e2 p2 ids n2,⟨q.1.1,92,stC (limS l),q.1.2.1,true⟩,gB r.z.T true,⟨some g0,30,r.z.cs,7,true⟩,gB u.T true,⟨some g1,30,u.cs,7,true⟩]) ?_ ?_
    ·refine A4 ?_;refine r_know 56 (.bool true) rfl (congrArg Value.bool (beq_self_eq_true _)) ?_;refine A9 ?_;refine Cd ?_ ?_<;>intro hb4
     ·have hle:names.length≠ids.length:=by have hh:=hb4;simp at hh;omega
      refine A4 ?_;exact at_intoX ⟨5,.inl ⟨rfl,hle⟩⟩ ⟨rfl,rfl,rfl,rfl,rfl,rfl,trivial⟩ (weak_pk [some 0,some 1,some 2,some 3,some 4,some 5,some 6,some 7,some 8])
     ·have hle:names.length=ids.length:=by have hh:=hb4;simp at hh;omega
      refine A2 ?_;exact at_intoX ⟨0,.inr ⟨rfl,hle⟩⟩ ⟨rfl,rfl,rfl,rfl,rfl,rfl,trivial⟩ (weak_pk [some 0,some 1,some 2,some 3,some 4,some 5,some 6,some 7,some 8])
    rintro⟨w0,hw0⟩;show At _ ⟨142,[(1,slv b1 p1.length names.length c1),(2,slv b2 p2.length ids.length c2),(8,.pointer (some ⟨g0,0,none⟩)),(9,.pointer (some ⟨g1,0,none⟩)),(10,.int .i64 (bdE names ids r.x:Nat)),(11,.int .i64 (w0:Nat))],[GM m,⟨b,e,pre++stC l,n,false⟩,VBk b1 e1 p1 names n1,VIk b2 e2 p2 ids n2,⟨q.1.1,92,stC (limS l),q.1.2.1,true⟩,gB r.z.T true,⟨some g0,30,r.z.cs,7,true⟩,gB u.T true,⟨some g1,30,u.cs,7,true⟩]⟩ _;refine at_seqX (nt:=142) (X:={w:Nat // w=bdE names ids r.x}) (fun⟨w2,hw2⟩=>[(1,slv b1 p1.length names.length c1),(2,slv b2 p2.length ids.length c2),(8,.pointer (some ⟨g0,0,none⟩)),(9,.pointer (some ⟨g1,0,none⟩)),(10,.int .i64 (bdE names ids r.x:Nat)),(11,.int .i64 (w2:Nat))]) (fun⟨w2,hw2⟩=>[GM m,⟨b,e,pre++stC l,n,false⟩,VBk b1 e1 p1 names n1,VIk b2 e2 p2 ids n2,⟨q.1.1,92,stC (limS l),q.1.2.1,true⟩,gB r.z.T true,⟨some g0,30,r.z.cs,7,true⟩,gB u.T true,⟨some g1,30,u.cs,7,true⟩]) ?_ ?_
    ·refine A6 ?_;refine El (ι:={p:Nat×Nat // p.1≤ids.length∧wantI names ids p.1 p.2}) (fun⟨⟨i,w⟩,hi,hW⟩=>([(1,slv b1 p1.length names.length c1),(2,slv b2 p2.length ids.length c2),(8,.pointer (some ⟨g0,0,none⟩)),(9,.pointer (some ⟨g1,0,none⟩)),(10,.int .i64 (bdE names ids r.x:Nat)),(11,.int .i64 (w:Nat)),(12,.int .i64 (i:Nat))],[GM m,⟨b,e,pre++stC l,n,false⟩,VBk b1 e1 p1 names n1,VIk b2 e2 p2 ids n2,⟨q.1.1,92,stC (limS l),q.1.2.1,true⟩,gB r.z.T true,⟨some g0,30,r.z.cs,7,true⟩,gB u.T true,⟨some g1,30,u.cs,7,true⟩],ids.length-i)) ⟨(0,w0),Nat.zero_le _,wantI_0 hw0⟩ ?_ (hL:=Weak.auto);rintro⟨⟨i,w⟩,hi,hW⟩;(try dsimp only);dsimp only at hi hW;refine A8 ?_;refine Rs 68 ?_ ?_<;>intro hb6
     ·have hlt:i<ids.length:=(by have:=of_decide_eq_true hb6;omega);obtain⟨id,hid⟩:∃id,ids[i]? =some id:=⟨ids[i],List.getElem?_eq_getElem hlt⟩;refine A5 ?_;refine Cd ?_ ?_<;>intro hb7
      ·have hw0:w=0:=by have:=eq_of_beq hb7;omega
       subst hw0;refine A8 ?_;refine r_indexAddr 3 (p2.length+i*1) u57 ti3 rfl rfl rfl rfl rfl (by omega) (by omega) (pre_ne (inC_ne (by omega))) (by show _+Int.toNat _*1=_;omega) ?_;refine r_load (v:= .int .i64 id) 3 (p2.length+i*1) _ rfl rfl rfl rfl ti3 (pre_get (inC_get hid) rfl) rfl (by decide) rfl ?_;refine A2 ?_;refine Rs 79 ?_ ?_<;>intro hb8
       ·have k1:id<1:=of_decide_eq_true hb8;refine A16 ?_;refine Ar (((i+1:Nat):Int)) ?_;refine A3 ?_;exact Nl ⟨(i+1,27),hlt,wantI_bad hW hid (bad_N1 k1)⟩ (hL:=Weak.auto)
       ·have k1:¬id<1:=of_decide_eq_false hb8;refine A2 ?_;refine r_indexAddr 3 (p2.length+i*1) u57 ti3 rfl rfl rfl rfl rfl (by omega) (by omega) (pre_ne (inC_ne (by omega))) (by show _+Int.toNat _*1=_;omega) ?_;refine r_load (v:= .int .i64 id) 3 (p2.length+i*1) _ rfl rfl rfl rfl ti3 (pre_get (inC_get hid) rfl) rfl (by decide) rfl ?_;refine A4 ?_;refine Cd ?_ ?_<;>intro hb9
        ·have k2:1073741824<id:=of_decide_eq_true hb9;refine A7 ?_;refine Ar (((i+1:Nat):Int)) ?_;refine A3 ?_;exact Nl ⟨(i+1,27),hlt,wantI_bad hW hid (bad_N2 k2)⟩ (hL:=Weak.auto)
        ·have k2:¬1073741824<id:=of_decide_eq_false hb9;refine A5 ?_;refine Ar (((i+1:Nat):Int)) ?_;refine A3 ?_;exact Nl ⟨(i+1,0),hlt,wantI_ok hW hid (bad_N k1 k2)⟩ (hL:=Weak.auto)
      ·have hwE:=wantI_end h0 hW (.inr (by have:=ne_of_beq_false hb7;omega));refine A5 ?_;exact at_intoX ⟨w,hwE⟩ ⟨rfl,rfl,rfl,rfl,rfl,rfl,trivial⟩ (weak_pk [some 0,some 1,some 2,some 3,some 4,some 5,some 6,some 7,some 8])
     ·have hwE:=wantI_end h0 hW (.inl (by have:=of_decide_eq_false hb6;omega));refine A11 ?_;exact at_intoX ⟨w,hwE⟩ ⟨rfl,rfl,rfl,rfl,rfl,rfl,trivial⟩ (weak_pk [some 0,some 1,some 2,some 3,some 4,some 5,some 6,some 7,some 8])
    rintro⟨w2,hw2⟩;show At _ ⟨142,[(1,slv b1 p1.length names.length c1),(2,slv b2 p2.length ids.length c2),(8,.pointer (some ⟨g0,0,none⟩)),(9,.pointer (some ⟨g1,0,none⟩)),(10,.int .i64 (bdE names ids r.x:Nat)),(11,.int .i64 (w2:Nat))],[GM m,⟨b,e,pre++stC l,n,false⟩,VBk b1 e1 p1 names n1,VIk b2 e2 p2 ids n2,⟨q.1.1,92,stC (limS l),q.1.2.1,true⟩,gB r.z.T true,⟨some g0,30,r.z.cs,7,true⟩,gB u.T true,⟨some g1,30,u.cs,7,true⟩]⟩ _;refine A7 ?_;refine Cd ?_ ?_<;>intro hb6
    ·have hE:bdE names ids r.x≠0:=by have hh:=hb6;rw[hw2] at hh;simpa using hh
     refine A1 ?_;refine at_weakL (Weak.newG _) ?_;refine at_regionM ?_;refine Ld 8 0 [_,_,_,_,_,_,_] ti30 ?_;refine Kr 88 (u.v) ?_;refine r_build [] rfl rfl rfl (bd30_0) ?_;refine Kr 89 (XR.empty.v) ?_;refine r_scall0 [u.v,XR.empty.v] [7,9] rfl rfl rfl (ECall.toS (c_same (bdX names ids r.x) (.node 0 []) u XR.empty (by rw[←bdX_no hE];decide))) ⟨⟨_,rfl,le_share⟩,⟨_,rfl,le_share⟩,trivial⟩ rfl ?_;refine r_know 90 (.bool true) rfl (congrArg Value.bool (by rw[←bdX_no hE];exact sameX_refl _)) ?_;refine A4 ?_;refine r_know 94 (.bool true) rfl (congrArg Value.bool (by rw[hw2,beq_self_eq_true])) ?_;refine A6 ?_;refine E1 fun w hL=>⟨(),rfl,hL.pk []⟩
    ·have hE:bdE names ids r.x=0:=by have hh:=hb6;rw[hw2] at hh;simpa using hh
     refine A4 ?_;rw[hE];refine at_drawnEM (X:=XR (bindX names ids r.x)) (l':=[⟨_,_,_,_,_,_⟩,⟨_,_,_,_,_,_⟩,⟨_,_,_,_,_,_⟩,⟨_,_,_,_,_,_⟩,⟨_,_,_,_,_,_⟩]) (fun v=>[(8,.pointer (some ⟨g0,0,none⟩)),(106,.bool (!(sameX (bdX names ids r.x) (bindX names ids r.x))))]) (fun v=>[GM m,⟨b,e,pre++stC l,n,false⟩,VBk b1 e1 p1 names n1,VIk b2 e2 p2 ids n2,⟨q.1.1,92,stC (limS l),q.1.2.1,true⟩,gB r.z.T true,⟨some g0,30,r.z.cs,7,true⟩,gB u.T true,⟨some g1,30,u.cs,7,true⟩,gB v.T true]) [0,1,2,5,6] 6 mixed (by kernel_rfl) rfl ?_ ?_
     ·refine A6 ?_;refine Tn2 3 4 ?_ ?_
      repeat' first
       |(refine r_scall0 [u.v,v.v] [7,9] rfl rfl rfl (ECall.toS (c_same (bdX names ids r.x) (bindX names ids r.x) u v (by rw[bindX_size1 hok hE];omega))) ⟨⟨_,rfl,le_share⟩,⟨_,rfl,le_share⟩,trivial⟩ rfl ?_;refine A1 ?_;refine Td1 9 ?_)
       |(refine A2 ?_;refine Td1 10 ?_)
       |(refine r_gcallM (A:=[]) (C:=[gB r.z.T false,VBk b1 e1 p1 names n1,VIk b2 e2 p2 ids n2]) [r.z.v,slv b1 p1.length names.length c1,slv b2 p2.length ids.length c2] [] [5,2,3] (fun(v:XR (bindX names ids r.x))=>[_,_,_,_,_,_,_,_,_,gB v.T true]) rfl rfl rfl rfl (c_law_bind (by omega) (by omega) hI r.x r.z b1 e1 p1 n1 c1 b2 e2 p2 n2 c2 (by omega)) (by decide) rfl rfl ⟨⟨_,rfl,le_share⟩,⟨_,rfl,Blk.le_refl _⟩,⟨_,rfl,Blk.le_refl _⟩,trivial⟩ rfl rfl (fun _=>rfl) (fun _=>allOwn rfl) (fun _=>rfl) (fun v=>?_);refine A1 ?_;refine Td1 8 ?_)
       |(refine r_load (v:=u.v) 8 0 [_,_,_,_,_,_,_] rfl rfl rfl rfl ti30 rfl rfl rfl rfl ?_;refine A1 ?_;refine Td1 4 ?_)
       |(refine r_load (v:=r.z.v) 6 0 [_,_,_,_,_,_,_] rfl rfl rfl rfl ti30 rfl rfl rfl rfl ?_;refine A1 ?_;refine Td1 7 ?_)
       |(refine r_load (v:=r.z.v) 6 0 [_,_,_,_,_,_,_] rfl rfl rfl rfl ti30 rfl rfl rfl rfl ?_;refine A1 ?_;refine Td2 3 7 ?_ ?_)
       |(refine r_load (v:=u.v) 8 0 [_,_,_,_,_,_,_] rfl rfl rfl rfl ti30 rfl rfl rfl rfl ?_;refine A1 ?_;refine Td1 7 ?_)
       |(refine r_gcallM (A:=[]) (C:=[gB r.z.T false,VBk b1 e1 p1 names n1,VIk b2 e2 p2 ids n2]) [r.z.v,slv b1 p1.length names.length c1,slv b2 p2.length ids.length c2] [] [5,2,3] (fun(v:XR (bindX names ids r.x))=>[_,_,_,_,_,_,_,_,_,gB v.T true]) rfl rfl rfl rfl (c_law_bind (by omega) (by omega) hI r.x r.z b1 e1 p1 n1 c1 b2 e2 p2 n2 c2 (by omega)) (by decide) rfl rfl ⟨⟨_,rfl,le_share⟩,⟨_,rfl,Blk.le_refl _⟩,⟨_,rfl,Blk.le_refl _⟩,trivial⟩ rfl rfl (fun _=>rfl) (fun _=>allOwn rfl) (fun _=>rfl) (fun v=>?_);refine A1 ?_;refine Td1 3 ?_)
       |(refine r_load (v:=u.v) 8 0 [_,_,_,_,_,_,_] rfl rfl rfl rfl ti30 rfl rfl rfl rfl ?_;refine A1 ?_;refine Td1 8 ?_)
       |(refine A2 ?_;refine tr_nil (by decide+kernel) ?_;exact⟨v,rfl,⟨rfl,rfl,trivial⟩,List.Perm.refl _⟩)
     rintro v;show At _ ⟨142,[(8,.pointer (some ⟨g0,0,none⟩)),(106,.bool (!(sameX (bdX names ids r.x) (bindX names ids r.x))))],[GM m,⟨b,e,pre++stC l,n,false⟩,VBk b1 e1 p1 names n1,VIk b2 e2 p2 ids n2,⟨q.1.1,92,stC (limS l),q.1.2.1,true⟩,gB r.z.T true,⟨some g0,30,r.z.cs,7,true⟩,gB u.T true,⟨some g1,30,u.cs,7,true⟩,gB v.T true]⟩ _;refine A1 ?_;refine Cd ?_ ?_<;>intro hb7
     ·rw[←bdX_yes hE,sameX_refl] at hb7;cases hb7
     ·refine A3 ?_;refine at_regionM ?_;refine Ld 6 0 [_,_,_,_,_,_,_] ti30 ?_;refine Kr 107 (r.z.v) ?_;refine r_gcallM (A:=[]) (C:=[gB r.z.T false]) [r.z.v] [] [5] (fun s=>[_,_,_,_,_,_,_,_,_,_,VR s]) rfl rfl rfl rfl (c_Variables r.z (by omega)) (by decide) rfl rfl ⟨⟨_,rfl,le_share⟩,trivial⟩ rfl rfl (fun _=>rfl) (fun _=>allOwn rfl) (fun _=>rfl) (fun s=>?_);refine A4 ?_;have hvl:(varsU r.x).length≤1000000:=by have:=mvars_len r.x;rw[mvars_U] at this;omega
      refine A11 ?_;refine El (ι:={p:Nat×Option Nat×Nat×Nat // p.1≤(varsU r.x).length∧p.1≤p.2.2.2∧p.2.2.2*1≤p.2.2.1}) (fun⟨⟨i,ob,oN,oc⟩,hi,h1o,h2o⟩=>([(8,.pointer (some ⟨g0,0,none⟩)),(13,slv s.b 0 (varsU r.x).length s.cap),(14,slv ob 0 i oc),(15,.int .i64 (i:Nat))],[GM m,⟨b,e,pre++stC l,n,false⟩,VBk b1 e1 p1 names n1,VIk b2 e2 p2 ids n2,⟨q.1.1,92,stC (limS l),q.1.2.1,true⟩,gB r.z.T true,⟨some g0,30,r.z.cs,7,true⟩,gB u.T true,⟨some g1,30,u.cs,7,true⟩,gB v.T true,VR s,⟨ob,3,inC (upTo i),oN,true⟩],(varsU r.x).length-i)) ⟨(0,none,0,0),Nat.zero_le _,Nat.le_refl _,Nat.le_refl _⟩ ?_ (hL:=(Weak.nilB _ (by decide)));rintro⟨⟨i,ob,oN,oc⟩,hi,h1o,h2o⟩;(try dsimp only);dsimp only at hi h1o h2o;refine A9 ?_;refine Cd ?_ ?_<;>intro hb9
      ·have hlt:i<(varsU r.x).length:=(by have:=of_decide_eq_true hb9;omega);refine A7 ?_;refine Ar (((1+i:Nat):Int)) ?_;refine r_buildSlice [(0,_)] (fun g=>[_,_,_,_,_,_,_,_,_,_,_,_,⟨some g,3,_,1,true⟩]) rfl rfl rfl (bs57_1) rfl (fun _=>rfl) (fun g2=>?_);refine q_append (b:=⟨ob,3,inC (upTo i),oN,true⟩) (len:=i) (cap:=oc) (n2:=1) 11 12 (fun ar=>[_,_,_,_,_,_,_,_,_,_,_,⟨some ar.g,3,inC (upTo i)++[.int .i64 ((1+i:Nat):Int)],ar.n,true⟩,_]) u57 el3 rfl rfl rfl rfl rfl rfl rfl rfl rfl rfl rfl rfl (by rw[inC_length,upTo_len,Nat.mul_one]) h1o h2o rfl (fun v hv=>simpleT_one (cs:=[.int .i64 ((1+i:Nat):Int)]) rfl v hv) (by omega) (fun ar=>rfl) (fun ar=>?_);refine A6 ?_;refine Ar (((i+1:Nat):Int)) ?_;refine A3 ?_;exact Nl ⟨(i+1,some ar.g,ar.n,ar.cap),hlt,ar.h,ar.hn⟩ (hL:=(weak_picks [some 0,some 1,some 2,some 3,some 4,some 5,some 6,some 7,some 8,some 9,some 10,some 11] ⟨⟨_,rfl,Blk.le_refl _⟩,⟨_,rfl,Blk.le_refl _⟩,⟨_,rfl,Blk.le_refl _⟩,⟨_,rfl,Blk.le_refl _⟩,⟨_,rfl,Blk.le_refl _⟩,⟨_,rfl,Blk.le_refl _⟩,⟨_,rfl,Blk.le_refl _⟩,⟨_,rfl,Blk.le_refl _⟩,⟨_,rfl,Blk.le_refl _⟩,⟨_,rfl,Blk.le_refl _⟩,⟨_,rfl,Blk.le_refl _⟩,⟨_,rfl,le_same (congrArg (fun c=>(⟨some ar.g,3,c,ar.n,true⟩:Blk)) (by rw[upTo_succ,inC_append];rfl))⟩,trivial⟩ rfl rfl))
      ·have hge:i=(varsU r.x).length:=by have:=of_decide_eq_false hb9;omega
       refine A6 ?_;have hE2:bdE (varsU r.x) (upTo i) r.x=0:=bdE_ok h0 (by rw[upTo_len];omega) (upTo_ok (by omega));refine at_regionM ?_;refine Ld 6 0 [_,_,_,_,_,_,_] ti30 ?_;refine Kr 121 (r.z.v) ?_;refine A2 ?_;refine r_know 123 (slv ob 0 (upTo i).length oc) rfl (by rw[upTo_len]) ?_;refine r_gcallM (A:=[]) (C:=[gB r.z.T false,VBk s.b 9 [] (varsU r.x) s.n,VIk ob 3 [] (upTo i) oN]) [r.z.v,slv s.b 0 (varsU r.x).length s.cap,slv ob 0 (upTo i).length oc] [] [5,10,11] (fun(t:XR (bdX (varsU r.x) (upTo i) r.x))=>[_,_,_,_,_,_,_,_,_,_,_,_,gB t.T true]) rfl rfl rfl rfl (c_Bind (varsU r.x) (upTo i) (by omega) (by rw[upTo_len];omega) (upTo_in (by omega)) r.z hfit s.b 9 [] s.n s.cap ob 3 [] oN oc (by omega)) (by decide) rfl rfl ⟨⟨_,rfl,le_share⟩,⟨_,rfl,le_share⟩,⟨_,rfl,le_share⟩,trivial⟩ rfl rfl (fun _=>rfl) (fun _=>allOwn rfl) (fun _=>rfl) (fun t=>?_);refine A3 ?_;refine r_alloc [_,_,_,_,_,_,_] 7 (fun g=>[_,_,_,_,_,_,_,_,_,_,_,_,_,⟨some g,30,_,7,true⟩]) rfl rfl z30 rfl rfl (fun _=>rfl) (fun g2=>?_);refine So 13 0 [_,_,_,_,_,_,_,_,_,_,_,_,_,⟨some g2,30,_,7,true⟩] [_,_,_,_,_,_,_] ?_;refine A4 ?_;rw[hE2];refine at_drawnEM (X:=SRw (varsU (bdX (varsU r.x) (upTo i) r.x))) (l':=[⟨_,_,_,_,_,_⟩,⟨_,_,_,_,_,_⟩,⟨_,_,_,_,_,_⟩]) (fun s2=>[(6,.bool (((r.x.size:Nat):Int)==(r.x.size:Nat)))]) (fun s2=>[GM m,⟨b,e,pre++stC l,n,false⟩,VBk b1 e1 p1 names n1,VIk b2 e2 p2 ids n2,⟨q.1.1,92,stC (limS l),q.1.2.1,true⟩,gB r.z.T true,⟨some g0,30,r.z.cs,7,true⟩,gB u.T true,⟨some g1,30,u.cs,7,true⟩,gB v.T true,VR s,⟨ob,3,inC (upTo i),oN,true⟩,gB t.T true,⟨some g2,30,t.cs,7,true⟩,VR s2]) [0,1,2] 13 mixed (by kernel_rfl) rfl ?_ ?_
       ·refine A4 ?_;refine Tn1 3 ?_
        repeat' first
         |(refine r_scall0 [r.z.v] [5] rfl rfl rfl (ECall.toS (c_msize r.x r.z (by omega))) ⟨⟨_,rfl,le_share⟩,trivial⟩ rfl ?_;refine A1 ?_;refine Td1 13 ?_)
         |(refine A2 ?_;refine Td1 14 ?_)
         |(refine A2 ?_;refine Td1 15 ?_)
         |(refine r_scall0 [t.v] [12] rfl rfl rfl (ECall.toS (c_Size_n t (by rw[bindX_size1 hok hE2];omega) r.x.size (bindX_size1 hok hE2))) ⟨⟨_,rfl,le_share⟩,trivial⟩ rfl ?_;refine A1 ?_;refine Td1 12 ?_)
         |(refine r_load (v:=t.v) 13 0 [_,_,_,_,_,_,_] rfl rfl rfl rfl ti30 rfl rfl rfl rfl ?_;refine A1 ?_;refine Td1 4 ?_)
         |(refine r_gcallM (A:=[]) (C:=[gB t.T false]) [t.v] [] [12] (fun s2=>[_,_,_,_,_,_,_,_,_,_,_,_,_,_,VR s2]) rfl rfl rfl rfl (c_Variables_none t (by rw[bindX_size1 hok hE2];omega) (by rw[←bdX_yes hE2];exact bind_all i hge)) (by decide) rfl rfl ⟨⟨_,rfl,le_share⟩,trivial⟩ rfl rfl (fun _=>rfl) (fun _=>allOwn rfl) (fun _=>rfl) (fun s2=>?_);refine A1 ?_;refine Td1 5 ?_)
         |(refine A2 ?_;refine Td1 6 ?_)
         |(refine A2 ?_;refine Td1 7 ?_)
         |(refine A2 ?_;refine Td1 8 ?_)
         |(refine A2 ?_;refine Td2 9 11 ?_ ?_)
         |(refine r_load (v:=t.v) 13 0 [_,_,_,_,_,_,_] rfl rfl rfl rfl ti30 rfl rfl rfl rfl ?_;refine A1 ?_;refine Td2 10 11 ?_ ?_)
         |(refine r_scall0 [t.v] [12] rfl rfl rfl (ECall.toS (c_Size_n t (by rw[bindX_size1 hok hE2];omega) r.x.size (bindX_size1 hok hE2))) ⟨⟨_,rfl,le_share⟩,trivial⟩ rfl ?_;refine A1 ?_;refine Td1 11 ?_)
         |(refine r_load (v:=r.z.v) 6 0 [_,_,_,_,_,_,_] rfl rfl rfl rfl ti30 rfl rfl rfl rfl ?_;refine A1 ?_;refine Td1 12 ?_)
         |(refine r_load (v:=r.z.v) 6 0 [_,_,_,_,_,_,_] rfl rfl rfl rfl ti30 rfl rfl rfl rfl ?_;refine A1 ?_;refine Td1 10 ?_)
         |(refine r_load (v:=r.z.v) 6 0 [_,_,_,_,_,_,_] rfl rfl rfl rfl ti30 rfl rfl rfl rfl ?_;refine A1 ?_;refine Td1 9 ?_)
         |(refine r_load (v:=t.v) 13 0 [_,_,_,_,_,_,_] rfl rfl rfl rfl ti30 rfl rfl rfl rfl ?_;refine A1 ?_;refine Td1 10 ?_)
         |(refine A2 ?_;refine tr_nil (by decide+kernel) ?_;exact⟨s2,rfl,⟨rfl,trivial⟩,List.Perm.refl _⟩)
       rintro s2;show At _ ⟨142,[(6,.bool (((r.x.size:Nat):Int)==(r.x.size:Nat)))],[GM m,⟨b,e,pre++stC l,n,false⟩,VBk b1 e1 p1 names n1,VIk b2 e2 p2 ids n2,⟨q.1.1,92,stC (limS l),q.1.2.1,true⟩,gB r.z.T true,⟨some g0,30,r.z.cs,7,true⟩,gB u.T true,⟨some g1,30,u.cs,7,true⟩,gB v.T true,VR s,⟨ob,3,inC (upTo i),oN,true⟩,gB t.T true,⟨some g2,30,t.cs,7,true⟩,VR s2]⟩ _;refine A2 ?_;refine at_end1 rfl (res_tmp rfl) (fun w hL=>⟨(),(show Ending.returned (.bool _)=Ending.returned (.bool true) from by rw[beq_self_eq_true]),hL.pk []⟩)
theorem c_SyntaxBinds(m:Int)(b:Option Nat)(e:Nat)(pre:List Value)(l:List Stp)(n cap:Nat)(b1:Option Nat)(e1:Nat)(p1:List Value)(names:List Bs8)(n1 c1:Nat)(b2:Option Nat)(e2:Nat)(p2:List Value)(ids:List Int)(n2 c2:Nat)
 (hcap:l.length≤cap)(hs:∀s∈l,okSt s)(hc1:names.length≤c1)(hs1:∀s∈names,s.length≤281474976710656)(hc2:ids.length≤c2)(hs2:∀x∈ids,-9223372036854775808≤x∧x≤9223372036854775807):
 ECall Tryz.prog 9 [GM m,⟨b,e,pre++stC l,n,false⟩,VBk b1 e1 p1 names n1,VIk b2 e2 p2 ids n2] [slv b pre.length l.length cap,slv b1 p1.length names.length c1,slv b2 p2.length ids.length c2] Unit (fun _=> .bool true) (fun _=>[]):=
 c_SyntaxBinds0 m b e pre l n cap (fun s h=>(hs s h).2.2) (fun s h=>⟨(hs s h).1,(hs s h).2.1⟩) b1 e1 p1 names n1 c1 b2 e2 p2 ids n2 c2 hs2
end Go.Proofs.YtfijbadahkmhbaaGreatDoor
