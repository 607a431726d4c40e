/-
  Part 14 (chapter 43): lemmas, walks. Each theorem states its own conditions.
-/
import Derived.Test.YtfijbadahkmhbaaGreatDoorA04
import Derived.Test.YtfijbadahkmhbaaGreatDoorA10
import Derived.Test.YtfijbadahkmhbaaGreatDoorA12
import Derived.Test.YtfijbadahkmhbaaGreatDoorA13
set_option linter.unusedVariables false
set_option linter.unusedSimpArgs false
set_option maxRecDepth 20000
set_option maxHeartbeats 20000000
namespace Go.Proofs.YtfijbadahkmhbaaGreatDoor
open Go Go.RowKit Go.Via
theorem c_mvars_step{x:XT}(z:XR x)(H:∀y:XT,y.size<x.size→MvaC y)(hM:x.size≤1000000):ECall Tryz.prog 26 [gB z.T false] [z.v] (SRw (mvars x)) (fun s=>slv s.b 0 (mvars x).length s.cap) (fun s=>[VR s]):=by
 refine⟨by kernel_rfl,fun B w hD hL0=>?_⟩;obtain⟨h1,h2,h3,h4,h5,h6⟩:=z.inv;refine cB1 80 Tryz.func26 hL0 ?_;refine A2 ?_;refine Bo [_,_,_,_,_,_,_] 7 (fun g=>[_,⟨some g,30,_,7,true⟩]) (fun g0=>?_);refine A8 ?_;refine at_seqX (nt:=80) (X:={q:List Bs8×Option Nat×Nat×Nat // q.1=(if x.op=4 then[x.name] else[])∧q.1.length≤q.2.2.2∧q.2.2.2≤q.2.2.1}) (fun⟨⟨l0,ob,oN,oc⟩,hl0,h1o,h2o⟩=>[(1,.pointer (some ⟨g0,0,none⟩)),(3,slv ob 0 l0.length oc)]) (fun⟨⟨l0,ob,oN,oc⟩,hl0,h1o,h2o⟩=>[gB z.T false,XB g0 z,⟨ob,9,SB l0,oN,true⟩]) ?_ ?_
 ·refine A7 ?_;refine Cd ?_ ?_<;>intro hb0
  ·have hop:x.op=4:=by rw[←h1];have hh:=hb0;simpa using hh
   refine A3 ?_;refine r_know 12 (.string (strU x.name)) rfl (by rw[h2]) ?_;refine r_buildSlice [(0,_)] (fun g=>[_,_,⟨some g,9,_,1,true⟩]) rfl rfl rfl (bs36_1) rfl (fun _=>rfl) (fun g1=>?_);refine A3 ?_;exact at_intoX ⟨([x.name],some g1,1,1),(if_pos hop).symm,Nat.le_refl _,Nat.le_refl _⟩ ⟨rfl,rfl,trivial⟩ (weak_pk [some 0,some 1,some 2])
  ·have hop:x.op≠4:=by rw[←h1];have hh:=hb0;simpa using hh
   refine A2 ?_;exact at_intoX ⟨([],none,0,0),(if_neg hop).symm,Nat.le_refl _,Nat.le_refl _⟩ ⟨rfl,rfl,trivial⟩ (weak_picks [some 0,some 1,none] ⟨⟨_,rfl,Blk.le_refl _⟩,⟨_,rfl,Blk.le_refl _⟩,⟨rfl,rfl,rfl⟩,trivial⟩ rfl rfl)
 rintro⟨⟨l0,ob,oN,oc⟩,hl0,h1o,h2o⟩;show At _ ⟨80,[(1,.pointer (some ⟨g0,0,none⟩)),(3,slv ob 0 l0.length oc)],[gB z.T false,XB g0 z,⟨ob,9,SB l0,oN,true⟩]⟩ _;dsimp only at hl0 h1o h2o;refine A7 ?_;refine El (ι:={q:Nat×List Bs8×Option Nat×Nat×Nat // q.1≤x.args.length∧mvars x=mvarss q.2.1 (x.args.drop q.1)∧q.2.1.length≤q.2.2.2.2∧q.2.2.2.2≤q.2.2.2.1∧q.2.1.length+XT.sizes (x.args.drop q.1)≤1000000}) (fun⟨⟨i,m,ob,oN,oc⟩,hi,hI,h1o,h2o,hB⟩=>([(1,.pointer (some ⟨g0,0,none⟩)),(3,slv ob 0 m.length oc),(4,.int .i64 (i:Nat))],[gB z.T false,XB g0 z,⟨ob,9,SB m,oN,true⟩],x.args.length-i)) ⟨(0,l0,ob,oN,oc),Nat.zero_le _,by rw[mvars_eq,hl0,List.drop_zero],h1o,h2o,Nat.le_trans (mv_init hl0) hM⟩ ?_ (hL:=Weak.auto);rintro⟨⟨i,m,ob,oN,oc⟩,hi,hI,h1o,h2o,hB⟩;(try dsimp only);dsimp only at hi hI h1o h2o hB;refine A7 ?_;refine r_know 17 (.int .i64 (x.args.length:Nat)) rfl (by rw[h5]) ?_;refine A3 ?_;refine Cd ?_ ?_<;>intro hb2
 ·have hlt:i<x.args.length:=by have:=of_decide_eq_true hb2;omega
  obtain⟨y,hy⟩:∃y,x.args[i]? =some y:=⟨x.args[i],List.getElem?_eq_getElem hlt⟩;obtain⟨ga,oa,ca,u,hza,hma,hra,hTa,hna⟩:=z.arg hy;have hyl:=mvars_len y;have hys:=XT.sizes_drop hy;have hsz:=XT.size_eq x;have hal:=XT.len_sizes x.args;refine A5 ?_;refine at_regionM ?_;refine A3 ?_;refine r_indexAddrG (gg:=ga) (len:=z.n) (cap:=z.cap) (oa+i*7) u28 ti30 rfl rfl (congrArg (fun a=>some (Value.slice a z.n z.cap)) hza) rfl (by omega) (by omega) (by show oa+Int.toNat _*7=_;omega) ?_;refine r_loadT (v:=u.v) 0 (oa+i*7) u.cs rfl rfl rfl z.hT hma hna rfl ti30 hra rfl rfl rfl ?_;refine Gm 0 [] [0] (fun s2=>[_,_,_,VR s2]) (by have h:=H y (XT.arg_lt hy) u (by have:=XT.sizes_get hy;omega);rw[hTa] at h;exact h) (fun s2=>?_);refine A9 ?_;refine El (ι:={q:Nat×List Bs8×Option Nat×Nat×Nat // q.1≤(mvars y).length∧q.2.1=insAll m ((mvars y).take q.1)∧q.2.1.length≤q.2.2.2.2∧q.2.2.2.2≤q.2.2.2.1∧q.2.1.length+((mvars y).length-q.1)+XT.sizes (x.args.drop (i+1))≤1000000}) (fun⟨⟨k,o,pb,pN,pc⟩,hk,ho,h1p,h2p,hBo⟩=>([(1,.pointer (some ⟨g0,0,none⟩)),(3,slv pb 0 o.length pc),(4,.int .i64 (i:Nat)),(5,slv s2.b 0 (mvars y).length s2.cap),(6,.int .i64 (k:Nat))],[gB z.T false,XB g0 z,⟨pb,9,SB o,pN,true⟩,VR s2],(mvars y).length-k)) ⟨(0,m,ob,oN,oc),Nat.zero_le _,rfl,h1o,h2o,by show m.length+((mvars y).length-0)+_≤_;omega⟩ ?_ (hL:=Weak.auto);rintro⟨⟨k,o,pb,pN,pc⟩,hk,ho,h1p,h2p,hBo⟩;(try dsimp only);dsimp only at hk ho h1p h2p hBo;refine A9 ?_;refine Cd ?_ ?_<;>intro hb4
  ·have hkl:k<(mvars y).length:=(by have:=of_decide_eq_true hb4;omega);obtain⟨a,ha⟩:∃a,(mvars y)[k]? =some a:=⟨(mvars y)[k],List.getElem?_eq_getElem hkl⟩;refine A11 ?_;refine El (ι:={p:Nat // p≤o.length∧∀j z,j<p→o[j]? =some z→z<a}) (fun⟨p,hp,hall⟩=>([(1,.pointer (some ⟨g0,0,none⟩)),(3,slv pb 0 o.length pc),(4,.int .i64 (i:Nat)),(5,slv s2.b 0 (mvars y).length s2.cap),(6,.int .i64 (k:Nat)),(7,.int .i64 (p:Nat))],[gB z.T false,XB g0 z,⟨pb,9,SB o,pN,true⟩,VR s2],o.length-p)) ⟨0,Nat.zero_le _,fun j z hj=>absurd hj (by omega)⟩ ?_ (hL:=Weak.auto);rintro⟨p,hp,hall⟩;(try dsimp only);refine A2 ?_;refine at_drawnI [] mixed (by kernel_rfl) (by kernel_rfl) ?_;refine A5 ?_;refine Rs 37 ?_ ?_<;>intro hb6
   ·have hpl:p<o.length:=(by have:=of_decide_eq_true hb6;omega);obtain⟨c,hc⟩:∃c,o[p]? =some c:=⟨o[p],List.getElem?_eq_getElem hpl⟩;refine A2 ?_;refine Ix 2 (p*1) ?_;refine r_load (v:= .string (strU c)) 2 (p*1) _ rfl rfl rfl rfl ti9 (SB_get hc) rfl (by decide) rfl ?_;refine A2 ?_;refine Ix 3 (k*1) ?_;refine r_load (v:= .string (strU a)) 3 (k*1) _ rfl rfl rfl rfl ti9 (SB_get ha) rfl (by decide) rfl ?_;refine r_lssStr rfl rfl rfl rfl ?_;refine A3 ?_;refine Cd ?_ ?_<;>intro hb7
    ·have hca:c<a:=of_decide_eq_true hb7;refine A5 ?_;refine Ar (((p+1:Nat):Int)) ?_;refine A4 ?_;exact nextL ⟨p+1,hpl,fun j z hj hz=>by
 by_cases e:j=p
 ·subst e;rw[hc] at hz;cases hz;exact hca
 ·exact hall j z (by omega) hz⟩ (by simp only[];omega) ⟨rfl,rfl,rfl,rfl,rfl,rfl,trivial⟩ (weak_pk [some 0,some 1,some 2,some 3])
    ·have hca:¬c<a:=of_decide_eq_false hb7;refine A6 ?_;refine at_drawnI [] mixed (by kernel_rfl) (by kernel_rfl) ?_;refine A4 ?_;refine r_know 53 (.bool false) rfl (congrArg Value.bool (beq_eq_false_iff_ne.2 (by omega))) ?_;refine A3 ?_;refine Ix 2 (p*1) ?_;refine r_load (v:= .string (strU c)) 2 (p*1) _ rfl rfl rfl rfl ti9 (SB_get hc) rfl (by decide) rfl ?_;refine A2 ?_;refine Ix 3 (k*1) ?_;refine r_load (v:= .string (strU a)) 3 (k*1) _ rfl rfl rfl rfl ti9 (SB_get ha) rfl (by decide) rfl ?_;refine A1 ?_;refine r_know 63 (.bool (c !=a)) rfl (by rw[bne,strU_beq];rfl) ?_;refine A3 ?_;refine Cd ?_ ?_<;>intro hb8
     ·have hne:c≠a:=by have hh:=hb8;simpa using hh
      have hins:insU a o=o.take p++a::o.drop p:=insU_at hp hall (fun z hz=>by rw[hc] at hz;cases hz;exact⟨hca,hne⟩);refine at_base 2 rfl (fun hbase=>?_);obtain⟨go,hgo⟩:=sb_base (by omega) hbase;replace hgo:pb=some go:=hgo;subst hgo;refine at_drawnE (l':=[⟨_,_,_,_,_,_⟩,⟨_,_,_,_,_,_⟩,⟨_,_,_,_,_,_⟩,⟨_,_,_,_,_,_⟩,⟨_,_,_,_,_,_⟩,⟨_,_,_,_,_,_⟩,⟨_,_,_,_,_,_⟩,⟨_,_,_,_,_,_⟩,⟨_,_,_,_,_,_⟩]) [0,1,2,3,4,5,9,10,11] 6 mixed (by kernel_rfl) rfl ?_;refine A3 ?_;refine r_sliceK p u36 ti9 rfl rfl rfl rfl rfl (by omega) ?_;refine A4 ?_;refine r_sliceM (off':=p*1) (n':=o.length-p) (c':=pc-p) p u36 ti9 rfl rfl rfl rfl (by omega) (if_neg (by omega)) rfl rfl ?_;refine A1 ?_;refine Tn1 6 ?_
      ·refine Ix 3 (k*1) ?_;refine A1 ?_;refine Tn1 7 ?_
       ·refine r_load (v:= .string (strU a)) 3 (k*1) _ rfl rfl rfl rfl ti9 (SB_get ha) rfl (by decide) rfl ?_;refine A1 ?_;refine Tn1 8 ?_
        ·refine r_buildSlice [(0,_)] (fun g=>[_,_,_,_,⟨some g,9,_,1,true⟩]) rfl rfl rfl (bs36_1) rfl (fun _=>rfl) (fun g1=>?_);refine A1 ?_;refine Tn1 12 ?_
         ·refine q_appendG 4 2 [.string (strU a)] (SB (o.drop p)) (fun r=>[_,_,_,_,_,⟨some r.g,9,[.string (strU a)]++SB (o.drop p),r.n,true⟩]) u36 el9 rfl rfl rfl rfl rfl rfl rfl rfl rfl rfl rfl (by omega) (Nat.le_refl _) (SB_dropC o p) (by rw[SB_length,List.length_drop,Nat.mul_one]) (SB_one _) (by omega) (fun _=>rfl) (fun r=>?_);refine A1 ?_;refine Tn1 13 ?_
          ·refine q_appendG 2 5 (SB (o.take p)) ([.string (strU a)]++SB (o.drop p)) (fun r2=>[_,_,_,_,_,_,⟨some r2.g,9,SB (o.take p)++([.string (strU a)]++SB (o.drop p)),r2.n,true⟩]) u36 el9 rfl rfl rfl rfl rfl rfl rfl rfl rfl (SB_takeC o p) (by rw[SB_length,List.length_take];omega) (by omega) (Nat.le_refl _) (sb_cons o p a hp) (sb_clen o p a hp) (sb_cone _ _) (by omega) (fun _=>rfl) (fun r2=>?_);refine A1 ?_;refine Tn1 14 ?_
           ·refine A2 ?_;refine tr_nil (by kernel_rfl) ?_;refine A4 ?_;refine Ar (((k+1:Nat):Int)) ?_;refine A3 ?_;exact Nl ⟨(k+1,insU a o,some r2.g,r2.n,r2.cap),hkl,by rw[insAll_take ha,←ho],by have:=r2.h;have hl:=congrArg List.length hins;simp at hl;show(insU a o).length≤r2.cap;omega,by have:=r2.hn;show r2.cap≤r2.n;omega,by have hl:=congrArg List.length hins;simp at hl;show(insU a o).length+((mvars y).length-(k+1))+_≤_;omega⟩ (ht:=⟨rfl,(look_val rfl (congrArg (fun n=>slv (some r2.g) 0 n r2.cap) (by rw[hins];simp;omega))),rfl,rfl,rfl,trivial⟩) (hL:=(weak_picks [some 0,some 1,some 6,some 3] ⟨⟨_,rfl,Blk.le_refl _⟩,⟨_,rfl,Blk.le_refl _⟩,⟨_,rfl,le_same (congrArg (fun c=>(⟨some r2.g,9,c,r2.n,true⟩:Blk)) (by rw[hins];simp[SB]))⟩,⟨_,rfl,Blk.le_refl _⟩,trivial⟩ rfl rfl))
     ·have hne:c=a:=by have hh:=hb8;simpa using hh
      have hins:insU a o=o:=insU_eq hall (by rw[hc,hne]);refine A5 ?_;refine Ar (((k+1:Nat):Int)) ?_;refine A3 ?_;exact Nl ⟨(k+1,o,pb,pN,pc),hkl,by rw[insAll_take ha,←ho,hins],h1p,h2p,by show o.length+((mvars y).length-(k+1))+_≤_;omega⟩ (hL:=Weak.auto)
   ·have hpl:p=o.length:=(by have:=of_decide_eq_false hb6;omega);have hins:insU a o=o.take p++a::o.drop p:=insU_at hp hall (fun z hz=>absurd (List.getElem?_eq_some_iff.1 hz).1 (by omega));refine A19 ?_;refine at_drawnI [] mixed (by kernel_rfl) (by kernel_rfl) ?_;refine A4 ?_;refine r_know 53 (.bool true) rfl (congrArg Value.bool (beq_iff_eq.2 (by omega))) ?_;refine A14 ?_;refine at_drawnE (l':=[⟨_,_,_,_,_,_⟩,⟨_,_,_,_,_,_⟩,⟨_,_,_,_,_,_⟩,⟨_,_,_,_,_,_⟩,⟨_,_,_,_,_,_⟩,⟨_,_,_,_,_,_⟩,⟨_,_,_,_,_,_⟩,⟨_,_,_,_,_,_⟩,⟨_,_,_,_,_,_⟩]) [0,1,2,3,4,5,9,10,11] 6 mixed (by kernel_rfl) rfl ?_;refine A3 ?_;refine r_sliceK p u36 ti9 rfl rfl rfl rfl rfl (by omega) ?_;refine A4 ?_;refine r_sliceM (off':=if pc=p then 0 else p*1) (n':=0) (c':=pc-p) p u36 ti9 rfl rfl rfl rfl (by omega) rfl (by omega) rfl ?_;refine A1 ?_;refine Tn1 6 ?_
    ·refine Ix 3 (k*1) ?_;refine A1 ?_;refine Tn1 7 ?_
     ·refine r_load (v:= .string (strU a)) 3 (k*1) _ rfl rfl rfl rfl ti9 (SB_get ha) rfl (by decide) rfl ?_;refine A1 ?_;refine Tn1 8 ?_
      ·refine r_buildSlice [(0,_)] (fun g=>[_,_,_,_,⟨some g,9,_,1,true⟩]) rfl rfl rfl (bs36_1) rfl (fun _=>rfl) (fun g1=>?_);refine A1 ?_;refine Tn1 12 ?_
       ·refine q_append0O u36 el9 rfl rfl rfl (Nat.le_refl _) rfl ?_;refine A1 ?_;refine Tn1 13 ?_
        ·refine q_appendG (n2:=1) 2 4 (SB (o.take p)) [.string (strU a)] (fun r2=>[_,_,_,_,_,⟨some r2.g,9,SB (o.take p)++[.string (strU a)],r2.n,true⟩]) u36 el9 rfl rfl rfl rfl rfl rfl rfl rfl rfl (SB_takeC o p) (by rw[SB_length,List.length_take];omega) (by omega) (Nat.le_refl _) rfl rfl (by intro v hv;rw[List.mem_singleton.1 hv];rfl) (by omega) (fun _=>rfl) (fun r2=>?_);refine A1 ?_;refine Tn1 14 ?_
         ·refine A2 ?_;refine tr_nil (by kernel_rfl) ?_;refine A4 ?_;refine Ar (((k+1:Nat):Int)) ?_;refine A3 ?_;exact Nl ⟨(k+1,insU a o,some r2.g,r2.n,r2.cap),hkl,by rw[insAll_take ha,←ho],by have:=r2.h;have hl:=congrArg List.length hins;simp at hl;show(insU a o).length≤r2.cap;omega,by have:=r2.hn;show r2.cap≤r2.n;omega,by have hl:=congrArg List.length hins;simp at hl;show(insU a o).length+((mvars y).length-(k+1))+_≤_;omega⟩ (ht:=⟨rfl,(look_val rfl (congrArg (fun n=>slv (some r2.g) 0 n r2.cap) (by rw[hins];simp;omega))),rfl,rfl,rfl,trivial⟩) (hL:=(weak_picks [some 0,some 1,some 5,some 3] ⟨⟨_,rfl,Blk.le_refl _⟩,⟨_,rfl,Blk.le_refl _⟩,⟨_,rfl,le_same (congrArg (fun c=>(⟨some r2.g,9,c,r2.n,true⟩:Blk)) (by rw[hins];simp[SB,hpl]))⟩,⟨_,rfl,Blk.le_refl _⟩,trivial⟩ rfl rfl))
  ·have hkl:k=(mvars y).length:=(by have:=of_decide_eq_false hb4;omega);have htk:(mvars y).take k=mvars y:=by rw[hkl];exact List.take_of_length_le (Nat.le_refl _)
   refine A8 ?_;refine Ar (((i+1:Nat):Int)) ?_;refine A3 ?_;exact Nl ⟨(i+1,o,pb,pN,pc),hlt,by rw[hI,mvarss_step hy,ho,htk],h1p,h2p,by show o.length+XT.sizes (x.args.drop (i+1))≤_;omega⟩ (hL:=Weak.auto)
 ·have hge:i=x.args.length:=by have:=of_decide_eq_false hb2;omega
  have hmx:m=mvars x:=(by rw[hI,hge,List.drop_length,mvarss]);refine A12 ?_;refine at_end1 rfl (res_tmp rfl) (fun w hL=>by
 subst hmx;exact⟨⟨ob,oN,oc,h1o,h2o⟩,rfl,hL.pk [some 2]⟩)
theorem c_law_isName(l:Bs8)(hl:l.length≤1000000):PCall Tryz.prog 14 #[.string (strU l)] (.bool (mnameL l)):=by
 refine⟨by kernel_rfl,fun w=>?_⟩;refine cB1 15 Tryz.func14 (LRel.nil w) ?_;refine A8 ?_;refine Pc (c_law_word l hl) ?_;refine A1 ?_;refine Rs 5 ?_ ?_<;>intro hb0
 ·have hw:wordL l=true:=hb0;refine A2 ?_;refine r_know 7 (.int .i64 (l.length:Nat)) rfl (by rw[strU_size]) ?_;refine A3 ?_;refine Rs 10 ?_ ?_<;>intro hb1
  ·have hl4:decide (l.length≤40)=true:=by have hh:=hb1;simp only[decide_eq_true_eq,decide_eq_false_iff_not] at hh ⊢;omega
   refine A1 ?_;refine Pc (c_law_reserved l) ?_;refine A6 ?_;refine E1 fun w hL=>⟨?_,hL.below⟩;exact eB (by unfold mnameL;rw[hw,hl4];rfl)
  ·have hl4:decide (l.length≤40)=false:=by have hh:=hb1;simp only[decide_eq_true_eq,decide_eq_false_iff_not] at hh ⊢;omega
   refine A8 ?_;refine E1 fun w hL=>⟨?_,hL.below⟩;exact eB (by unfold mnameL;rw[hw,hl4];rfl)
 ·have hw:wordL l=false:=hb0;refine A13 ?_;refine E1 fun w hL=>⟨?_,hL.below⟩;exact eB (by unfold mnameL;rw[hw];rfl)
end Go.Proofs.YtfijbadahkmhbaaGreatDoor
namespace Go.Via
open Go Go.RowKit
abbrev VK(gc n:Nat):Blk:=⟨some gc,73,[.int .i64 (n:Nat)],1,true⟩
theorem cnt_pos{op:Int}{o:Frm}(h:mfind op=some o)(h1:op≠1)(h3:op≠3)(h4:op≠4)(h5:op≠5):1≤o.2.1:=by
 have ho:((o.1:Nat):Int)=op:=by have:=List.find?_some h;simpa using this
 have hk:frmT.all (fun o=>o.1==1||o.1==3||o.1==4||o.1==5||decide (1≤o.2.1))=true:=by decide+kernel
 have:=List.all_eq_true.1 hk o (List.mem_of_find?_eq_some h)
 simp only[Bool.or_eq_true,beq_iff_eq,decide_eq_true_eq] at this
 omega
theorem mn_arg{l:List XT}{i:Nat}{y:XT}(hy:l[i]? =some y)(ha:y.op≠1)(hi:i<2):(l.map XT.op)[0]? ≠some 1∨(l.map XT.op)[1]? ≠some 1:=by
 have h:(l.map XT.op)[i]? ≠some 1:=by rw[List.getElem?_map,hy];simpa using ha
 match i,hi with
 |0,_=>exact .inl h
 |1,_=>exact .inr h
end Go.Via
namespace Go.Proofs.YtfijbadahkmhbaaGreatDoor
open Go Go.RowKit Go.Via
theorem c_law_isIdZ{x:XT}(z:XR x)(hf:x.num.fit=true):PCall Tryz.prog 110 #[.agg #[.bool z.b1,.string z.s1,.bool z.b2,.string z.s2]] (.bool x.num.isId):=by
 obtain⟨_,_,h3,_,_,_⟩:=z.inv
 have hs:=NumV.fit_cells h3 hf
 cases ho:x.num.ok with
 |true=>
  obtain⟨q,h1,h2,h4,h5,h6,h7⟩:=NumV.isId_yes h3 hf ho
  rw[h1,h2,h4,h5,h6]
  exact c_law_isIdQ q h7
 |false=>
  have hq:isQ z.b1 z.s1 z.b2 z.s2=false:=by rw[NumV.ok_cells h3];exact ho
  rw[NumV.isId_no h3 ho]
  exact c_law_isIdR z.b1 z.s1 z.b2 z.s2 hs.1 hs.2 hq
theorem c_mnode_1{x:XT}(z:XR x)(hfn:x.name.length≤1000000)(hfu:x.num.fit=true)(lv n gc:Nat)(hn:n≤256)(hlv:lv≤1000)(hop:x.op=1):ECall Tryz.prog 90 [VK gc n,gB z.T false] [.pointer (some ⟨gc,0,none⟩),z.v,.int .i64 (lv:Nat)] Unit (fun _=> .int .i64 (mnode x lv n:Nat)) (fun _=>[VK gc (n+1)]):=by
 refine⟨by kernel_rfl,fun B w hD hL0=>?_⟩;obtain⟨h1,h2,h3,h4,h5,h6⟩:=z.inv;have hs:=NumV.fit_cells h3 hfu
 have hcn:cntL x.op=0:=(by rw[hop];rfl);refine cB3 126 Tryz.func90 hL0 ?_;refine A2 ?_;refine Bo [_,_,_,_,_,_,_] 7 (fun g=>[_,_,⟨some g,30,_,7,true⟩]) (fun g0=>?_);refine A9 ?_;refine Ar (((n+1:Nat):Int)) ?_;refine A2 ?_;refine So 0 0 [⟨some gc,73,_,1,true⟩,_,_] [_] ?_;refine A12 ?_;refine Cd ?_ ?_<;>intro hb0
 ·have hn1:256≤n:=by have:=of_decide_eq_true hb0;omega
  refine A7 ?_;refine at_end1 rfl (res_tmp rfl) (fun w hL=>⟨(),eI (by unfold mnode;rw[if_pos hn1]),hL.pk [some 0]⟩)
 ·have hn1:¬256≤n:=by have:=of_decide_eq_false hb0;omega
  refine A9 ?_;refine Cd ?_ ?_<;>intro hb1
  ·have hl1:32<lv:=by have:=of_decide_eq_true hb1;omega
   refine A7 ?_;refine at_end1 rfl (res_tmp rfl) (fun w hL=>⟨(),eI (by unfold mnode;rw[if_neg hn1,if_pos hl1]),hL.pk [some 0]⟩)
  ·have hl1:¬32<lv:=by have:=of_decide_eq_false hb1;omega
   refine A3 ?_;refine at_regionM ?_;refine A2 ?_;refine Kp 26 h1 ?_;refine Gm 0 [] [] (fun _=>[_,_,_]) (c_law_of x.op) (fun _=>?_);refine r_know 27 (.tuple #[.agg #[.int .i64 1,.int .i64 0,.int .i64 8,.string (strU [])],.bool true]) rfl (by rw[hop];kernel_rfl) ?_;refine A3 ?_;refine r_alloc [_,_,_,_] 4 (fun g=>[_,_,_,⟨some g,94,_,4,true⟩]) rfl rfl z94 rfl rfl (fun _=>rfl) (fun g1=>?_);refine So 3 0 [_,_,_,⟨some g1,94,_,4,true⟩] [_,_,_,_] ?_;refine A19 ?_;refine r_know 34 (.int .i64 (x.args.length:Nat)) rfl (by rw[h5]) ?_;refine A4 ?_;refine Rs 38 ?_ ?_<;>intro hb2
   ·have hlen:((x.args.length:Nat):Int)≠cntL x.op:=by rw[hcn];have hh:=hb2;simpa using hh
    refine A40 ?_;refine at_end1 rfl (res_tmp rfl) (fun w hL=>⟨(),eI (by unfold mnode nodeE;rw[if_neg hn1,if_neg hl1,if_neg (by rw[hcn];omega),if_pos (.inl hlen)]),hL.pk [some 0]⟩)
   ·have hlen:((x.args.length:Nat):Int)=cntL x.op:=by rw[hcn];have hh:=hb2;simpa using hh
    have hl2:x.args.length=0:=(by rw[hcn] at hlen;omega);refine A2 ?_;refine r_know 40 (.string (strU x.name)) rfl (by rw[h2]) ?_;refine A1 ?_;refine r_know 41 (.bool (x.name !=[])) rfl (by rw[show(strU x.name !=⟨#[]⟩)=(strU x.name !=strU []) from rfl,bne,strU_beq];rfl) ?_;refine A1 ?_;refine Rs 42 ?_ ?_<;>intro hb3
    ·have hnm:x.name≠[]:=by simpa using hb3
     refine A2 ?_;refine Kp 44 h1 ?_;refine A1 ?_;refine r_know 45 (.bool true) rfl (by rw[hop];rfl) ?_;refine A4 ?_;refine Kp 49 h1 ?_;refine A1 ?_;refine r_know 50 (.bool true) rfl (by rw[hop];rfl) ?_;refine A28 ?_;refine at_end1 rfl (res_tmp rfl) (fun w hL=>⟨(),eI (by unfold mnode nodeE;rw[if_neg hn1,if_neg hl1,if_neg (by rw[hcn];omega),if_pos (.inr (.inr ⟨(by rw[hop];decide),(by rw[hop];decide),hnm⟩))]),hL.pk [some 0]⟩)
    ·have hnm:x.name=[]:=by simpa using hb3
     refine A12 ?_;refine Ld 2 2 [_,_,_,_] ti27 ?_;refine r_build [] rfl rfl rfl (bd27_0) ?_;refine r_neqAgg rfl rfl rfl rfl gd27 (eq27r _ _ _ _ _ _ _ _) ?_;refine r_know 57 (.bool (!x.num.isZ)) rfl (by rw[NumV.isZ_cells h3]) ?_;refine A1 ?_;refine Rs 58 ?_ ?_<;>intro hb4
     ·have hz:x.num.isZ=false:=by simpa using hb4
      refine A2 ?_;refine Kp 60 h1 ?_;refine A1 ?_;refine r_know 61 (.bool false) rfl (by rw[hop];rfl) ?_;refine A17 ?_;refine Kp 70 h1 ?_;refine A1 ?_;refine r_know 71 (.bool true) rfl (by rw[hop];rfl) ?_;refine A2 ?_;refine Ld 2 2 [_,_,_,_] ti27 ?_;refine Pc (c_rational_Check z.b1 z.s1 z.b2 z.s2 hs.1 hs.2) ?_;refine r_know 75 (.int .i64 (if x.num.ok=true then 0 else 5)) rfl (by rw[NumV.ok_cells h3]) ?_;refine A4 ?_;refine Cd ?_ ?_<;>intro hb5
      ·have hok:x.num.ok=false:=by have hh:=hb5;revert hh;cases x.num.ok<;>simp
       refine A7 ?_;refine at_end1 rfl (res_tmp rfl) (fun w hL=>⟨(),eI (by unfold mnode nodeE;rw[if_neg hn1,if_neg hl1,if_neg (by rw[hcn];omega),if_neg (fun h=>by
 rcases h with h|⟨ha,hb,h⟩|⟨ha,hb,h⟩
 ·exact h hlen
 ·exact ha hop
 ·exact h hnm),if_pos ⟨hop,hok⟩]),hL.pk [some 0]⟩)
      ·have hok:x.num.ok=true:=by have hh:=hb5;revert hh;cases x.num.ok<;>simp
       refine A9 ?_;refine El (ι:=Unit) (fun⟨⟩=>([(0,.pointer (some ⟨gc,0,none⟩)),(4,.pointer (some ⟨g0,0,none⟩)),(9,.int .i64 0)],[VK gc (n+1),gB z.T false,XB g0 z],0)) () ?_ (hL:=Weak.auto);rintro⟨⟩;(try dsimp only);refine A7 ?_;refine r_know 81 (.int .i64 (x.args.length:Nat)) rfl (by rw[h5]) ?_;refine A1 ?_;refine r_know 82 (.bool false) rfl (congrArg Value.bool (decide_eq_false (by omega))) ?_;refine A19 ?_;refine Kp 99 h1 ?_;refine A1 ?_;refine r_know 100 (.bool false) rfl (by rw[hop];rfl) ?_;refine A15 ?_;refine Kp 109 h1 ?_;refine A1 ?_;refine r_know 110 (.bool false) rfl (by rw[hop];rfl) ?_;refine A13 ?_;refine Kp 118 h1 ?_;refine A1 ?_;refine r_know 119 (.bool false) rfl (by rw[hop];rfl) ?_;refine A19 ?_;refine at_end1 rfl (res_tmp rfl) (fun w hL=>⟨(),eI (by unfold mnode nodeE;rw[if_neg hn1,if_neg hl1,if_neg (by rw[hcn];omega),if_neg (fun h=>by
 rcases h with h|⟨ha,hb,h⟩|⟨ha,hb,h⟩
 ·exact h hlen
 ·exact ha hop
 ·exact h hnm),if_neg (fun h=>by rw[hok] at h;cases h.2),if_neg (fun h=>absurd h.1 (by rw[hop];decide)),if_neg (fun h=>absurd h.1 (by rw[hop];decide)),if_neg (fun h=>by
 rcases h with h|h
 ·exact absurd h.1 (by rw[hop];decide)
 ·exact absurd h.1 (by rw[hop];decide))]),hL.pk [some 0]⟩)
     ·have hz:x.num.isZ=true:=by simpa using hb4
      refine A20 ?_;refine Kp 70 h1 ?_;refine A1 ?_;refine r_know 71 (.bool true) rfl (by rw[hop];rfl) ?_;refine A2 ?_;refine Ld 2 2 [_,_,_,_] ti27 ?_;refine Pc (c_rational_Check z.b1 z.s1 z.b2 z.s2 hs.1 hs.2) ?_;refine r_know 75 (.int .i64 (if x.num.ok=true then 0 else 5)) rfl (by rw[NumV.ok_cells h3]) ?_;refine A4 ?_;refine Cd ?_ ?_<;>intro hb5
      ·have hok:x.num.ok=false:=by have hh:=hb5;revert hh;cases x.num.ok<;>simp
       refine A7 ?_;refine at_end1 rfl (res_tmp rfl) (fun w hL=>⟨(),eI (by unfold mnode nodeE;rw[if_neg hn1,if_neg hl1,if_neg (by rw[hcn];omega),if_neg (fun h=>by
 rcases h with h|⟨ha,hb,h⟩|⟨ha,hb,h⟩
 ·exact h hlen
 ·exact ha hop
 ·exact h hnm),if_pos ⟨hop,hok⟩]),hL.pk [some 0]⟩)
      ·have hok:x.num.ok=true:=by have hh:=hb5;revert hh;cases x.num.ok<;>simp
       refine A9 ?_;refine El (ι:=Unit) (fun⟨⟩=>([(0,.pointer (some ⟨gc,0,none⟩)),(4,.pointer (some ⟨g0,0,none⟩)),(9,.int .i64 0)],[VK gc (n+1),gB z.T false,XB g0 z],0)) () ?_ (hL:=Weak.auto);rintro⟨⟩;(try dsimp only);refine A7 ?_;refine r_know 81 (.int .i64 (x.args.length:Nat)) rfl (by rw[h5]) ?_;refine A1 ?_;refine r_know 82 (.bool false) rfl (congrArg Value.bool (decide_eq_false (by omega))) ?_;refine A19 ?_;refine Kp 99 h1 ?_;refine A1 ?_;refine r_know 100 (.bool false) rfl (by rw[hop];rfl) ?_;refine A15 ?_;refine Kp 109 h1 ?_;refine A1 ?_;refine r_know 110 (.bool false) rfl (by rw[hop];rfl) ?_;refine A13 ?_;refine Kp 118 h1 ?_;refine A1 ?_;refine r_know 119 (.bool false) rfl (by rw[hop];rfl) ?_;refine A19 ?_;refine at_end1 rfl (res_tmp rfl) (fun w hL=>⟨(),eI (by unfold mnode nodeE;rw[if_neg hn1,if_neg hl1,if_neg (by rw[hcn];omega),if_neg (fun h=>by
 rcases h with h|⟨ha,hb,h⟩|⟨ha,hb,h⟩
 ·exact h hlen
 ·exact ha hop
 ·exact h hnm),if_neg (fun h=>by rw[hok] at h;cases h.2),if_neg (fun h=>absurd h.1 (by rw[hop];decide)),if_neg (fun h=>absurd h.1 (by rw[hop];decide)),if_neg (fun h=>by
 rcases h with h|h
 ·exact absurd h.1 (by rw[hop];decide)
 ·exact absurd h.1 (by rw[hop];decide))]),hL.pk [some 0]⟩)
theorem c_mnode_2{x:XT}(z:XR x)(hfn:x.name.length≤1000000)(hfu:x.num.fit=true)(lv n gc:Nat)(hn:n≤256)(hlv:lv≤1000)(hop:x.op=2):ECall Tryz.prog 90 [VK gc n,gB z.T false] [.pointer (some ⟨gc,0,none⟩),z.v,.int .i64 (lv:Nat)] Unit (fun _=> .int .i64 (mnode x lv n:Nat)) (fun _=>[VK gc (n+1)]):=by
 refine⟨by kernel_rfl,fun B w hD hL0=>?_⟩;obtain⟨h1,h2,h3,h4,h5,h6⟩:=z.inv;have hs:=NumV.fit_cells h3 hfu
 have hcn:cntL x.op=2:=(by rw[hop];rfl);refine cB3 126 Tryz.func90 hL0 ?_;refine A2 ?_;refine Bo [_,_,_,_,_,_,_] 7 (fun g=>[_,_,⟨some g,30,_,7,true⟩]) (fun g0=>?_);refine A6 ?_;refine Kr 10 (.pointer (some ⟨gc,0,none⟩)) ?_;refine A3 ?_;refine Ar (((n+1:Nat):Int)) ?_;refine A2 ?_;refine So 0 0 [⟨some gc,73,_,1,true⟩,_,_] [_] ?_;refine A12 ?_;refine Cd ?_ ?_<;>intro hb0
 ·have hn1:256≤n:=by have:=of_decide_eq_true hb0;omega
  refine A7 ?_;refine at_end1 rfl (res_tmp rfl) (fun w hL=>⟨(),eI (by unfold mnode;rw[if_pos hn1]),hL.pk [some 0]⟩)
 ·have hn1:¬256≤n:=by have:=of_decide_eq_false hb0;omega
  refine A9 ?_;refine Cd ?_ ?_<;>intro hb1
  ·have hl1:32<lv:=by have:=of_decide_eq_true hb1;omega
   refine A7 ?_;refine at_end1 rfl (res_tmp rfl) (fun w hL=>⟨(),eI (by unfold mnode;rw[if_neg hn1,if_pos hl1]),hL.pk [some 0]⟩)
  ·have hl1:¬32<lv:=by have:=of_decide_eq_false hb1;omega
   refine A3 ?_;refine at_regionM ?_;refine A2 ?_;refine Kp 26 h1 ?_;refine Gm 0 [] [] (fun _=>[_,_,_]) (c_law_of x.op) (fun _=>?_);refine r_know 27 (.tuple #[.agg #[.int .i64 2,.int .i64 2,.int .i64 8,.string (strU [112,111,105,110,116])],.bool true]) rfl (by rw[hop];kernel_rfl) ?_;refine A3 ?_;refine r_alloc [_,_,_,_] 4 (fun g=>[_,_,_,⟨some g,94,_,4,true⟩]) rfl rfl z94 rfl rfl (fun _=>rfl) (fun g1=>?_);refine So 3 0 [_,_,_,⟨some g1,94,_,4,true⟩] [_,_,_,_] ?_;refine A19 ?_;refine r_know 34 (.int .i64 (x.args.length:Nat)) rfl (by rw[h5]) ?_;refine A4 ?_;refine Rs 38 ?_ ?_<;>intro hb2
   ·have hlen:((x.args.length:Nat):Int)≠cntL x.op:=by rw[hcn];have hh:=hb2;simpa using hh
    refine A40 ?_;refine at_end1 rfl (res_tmp rfl) (fun w hL=>⟨(),eI (by unfold mnode nodeE;rw[if_neg hn1,if_neg hl1,if_neg (by rw[hcn];omega),if_pos (.inl hlen)]),hL.pk [some 0]⟩)
   ·have hlen:((x.args.length:Nat):Int)=cntL x.op:=by rw[hcn];have hh:=hb2;simpa using hh
    have hl2:x.args.length=2:=(by rw[hcn] at hlen;omega);refine A2 ?_;refine r_know 40 (.string (strU x.name)) rfl (by rw[h2]) ?_;refine A1 ?_;refine r_know 41 (.bool (x.name !=[])) rfl (by rw[show(strU x.name !=⟨#[]⟩)=(strU x.name !=strU []) from rfl,bne,strU_beq];rfl) ?_;refine A1 ?_;refine Rs 42 ?_ ?_<;>intro hb3
    ·have hnm:x.name≠[]:=by simpa using hb3
     refine A2 ?_;refine Kp 44 h1 ?_;refine A1 ?_;refine r_know 45 (.bool true) rfl (by rw[hop];rfl) ?_;refine A4 ?_;refine Kp 49 h1 ?_;refine A1 ?_;refine r_know 50 (.bool true) rfl (by rw[hop];rfl) ?_;refine A28 ?_;refine at_end1 rfl (res_tmp rfl) (fun w hL=>⟨(),eI (by unfold mnode nodeE;rw[if_neg hn1,if_neg hl1,if_neg (by rw[hcn];omega),if_pos (.inr (.inr ⟨(by rw[hop];decide),(by rw[hop];decide),hnm⟩))]),hL.pk [some 0]⟩)
    ·have hnm:x.name=[]:=by simpa using hb3
     refine A12 ?_;refine Ld 2 2 [_,_,_,_] ti27 ?_;refine r_build [] rfl rfl rfl (bd27_0) ?_;refine r_neqAgg rfl rfl rfl rfl gd27 (eq27r _ _ _ _ _ _ _ _) ?_;refine r_know 57 (.bool (!x.num.isZ)) rfl (by rw[NumV.isZ_cells h3]) ?_;refine A1 ?_;refine Rs 58 ?_ ?_<;>intro hb4
     ·have hz:x.num.isZ=false:=by simpa using hb4
      refine A2 ?_;refine Kp 60 h1 ?_;refine A1 ?_;refine r_know 61 (.bool true) rfl (by rw[hop];rfl) ?_;refine A4 ?_;refine Kp 65 h1 ?_;refine A1 ?_;refine r_know 66 (.bool true) rfl (by rw[hop];rfl) ?_;refine A12 ?_;refine at_end1 rfl (res_tmp rfl) (fun w hL=>⟨(),eI (by unfold mnode nodeE;rw[if_neg hn1,if_neg hl1,if_neg (by rw[hcn];omega),if_pos (.inr (.inl ⟨(by rw[hop];decide),(by rw[hop];decide),hz⟩))]),hL.pk [some 0]⟩)
     ·have hz:x.num.isZ=true:=by simpa using hb4
      refine A20 ?_;refine Kp 70 h1 ?_;refine A1 ?_;refine r_know 71 (.bool false) rfl (by rw[hop];rfl) ?_;refine A18 ?_;refine El (ι:={i:Nat // i≤x.args.length∧∀k,k<i→(x.args.map XT.op)[k]? =some 1}) (fun⟨i,hi,hI⟩=>([(0,.pointer (some ⟨gc,0,none⟩)),(4,.pointer (some ⟨g0,0,none⟩)),(9,.int .i64 (i:Nat))],[VK gc (n+1),gB z.T false,XB g0 z],x.args.length-i)) ⟨0,Nat.zero_le _,fun k hk=>absurd hk (by omega)⟩ ?_ (hL:=Weak.auto);rintro⟨i,hi,hI⟩;(try dsimp only);refine A7 ?_;refine r_know 81 (.int .i64 (x.args.length:Nat)) rfl (by rw[h5]) ?_;refine A2 ?_;refine Rs 83 ?_ ?_<;>intro hb6
      ·have hlt:i<x.args.length:=by have:=of_decide_eq_true hb6;omega
       obtain⟨y,hy⟩:∃y,x.args[i]? =some y:=⟨x.args[i],List.getElem?_eq_getElem hlt⟩;obtain⟨ga,oa,ca,u,hza,hma,hra,hTa,hna⟩:=z.arg hy;refine A2 ?_;refine Kp 85 h1 ?_;refine A1 ?_;refine r_know 86 (.bool true) rfl (by rw[hop];rfl) ?_;refine A13 ?_;refine r_indexAddrG (gg:=ga) (len:=z.n) (cap:=z.cap) (oa+i*7) u28 ti30 rfl rfl (congrArg (fun a=>some (Value.slice a z.n z.cap)) hza) rfl (by omega) (by omega) (by show oa+Int.toNat _*7=_;omega) ?_;refine r_fieldAddrG (oa+i*7) 0 rfl rfl rfl ti30 rfl rfl ?_;refine r_loadT (v:= .int .i64 u.op) 1 (oa+i*7) _ rfl rfl rfl z.hT hma hna rfl ti3 (row_op hra) rfl rfl rfl ?_;refine A3 ?_;refine Cd ?_ ?_<;>intro hb7
       ·have ha:y.op≠1:=by rw[←u.inv.1];have hh:=hb7;simpa using hh
        refine A11 ?_;refine at_end1 rfl (res_tmp rfl) (fun w hL=>⟨(),eI (by unfold mnode nodeE;rw[if_neg hn1,if_neg hl1,if_neg (by rw[hcn];omega),if_neg (fun h=>by
 rcases h with h|⟨ha,hb,h⟩|⟨ha,hb,h⟩
 ·exact h hlen
 ·rw[hz] at h;cases h
 ·exact h hnm),if_neg (fun h=>absurd h.1 (by rw[hop];decide)),if_pos ⟨hop,mn_arg hy ha (by omega)⟩]),hL.pk [some 0]⟩)
       ·have ha:y.op=1:=by rw[←u.inv.1];have hh:=hb7;simpa using hh
        refine A5 ?_;refine Ar (((i+1:Nat):Int)) ?_;refine A3 ?_;exact nextL ⟨i+1,hlt,fun k hk=>by
 by_cases e:k=i
 ·subst e;rw[List.getElem?_map,hy,Option.map_some,ha]
 ·exact hI k (by omega)⟩ (by simp only[];omega) ⟨rfl,rfl,rfl,trivial⟩ (weak_pk [some 0,some 1,some 2])
      ·have hge:i=x.args.length:=by have:=of_decide_eq_false hb6;omega
       refine A18 ?_;refine Kp 99 h1 ?_;refine A1 ?_;refine r_know 100 (.bool false) rfl (by rw[hop];rfl) ?_;refine A15 ?_;refine Kp 109 h1 ?_;refine A1 ?_;refine r_know 110 (.bool false) rfl (by rw[hop];rfl) ?_;refine A13 ?_;refine Kp 118 h1 ?_;refine A1 ?_;refine r_know 119 (.bool false) rfl (by rw[hop];rfl) ?_;refine A19 ?_;refine at_end1 rfl (res_tmp rfl) (fun w hL=>⟨(),eI (by unfold mnode nodeE;rw[if_neg hn1,if_neg hl1,if_neg (by rw[hcn];omega),if_neg (fun h=>by
 rcases h with h|⟨ha,hb,h⟩|⟨ha,hb,h⟩
 ·exact h hlen
 ·rw[hz] at h;cases h
 ·exact h hnm),if_neg (fun h=>absurd h.1 (by rw[hop];decide)),if_neg (fun h=>by
 rcases h.2 with h|h
 ·exact h (hI 0 (by omega))
 ·exact h (hI 1 (by omega))),if_neg (fun h=>absurd h.1 (by rw[hop];decide)),if_neg (fun h=>by
 rcases h with h|h
 ·exact absurd h.1 (by rw[hop];decide)
 ·exact absurd h.1 (by rw[hop];decide))]),hL.pk [some 0]⟩)
theorem c_mnode_3{x:XT}(z:XR x)(hfn:x.name.length≤1000000)(hfu:x.num.fit=true)(lv n gc:Nat)(hn:n≤256)(hlv:lv≤1000)(hop:x.op=3):ECall Tryz.prog 90 [VK gc n,gB z.T false] [.pointer (some ⟨gc,0,none⟩),z.v,.int .i64 (lv:Nat)] Unit (fun _=> .int .i64 (mnode x lv n:Nat)) (fun _=>[VK gc (n+1)]):=by
 refine⟨by kernel_rfl,fun B w hD hL0=>?_⟩;obtain⟨h1,h2,h3,h4,h5,h6⟩:=z.inv;have hs:=NumV.fit_cells h3 hfu
 have hcn:cntL x.op=0:=(by rw[hop];rfl);refine cB3 126 Tryz.func90 hL0 ?_;refine A2 ?_;refine Bo [_,_,_,_,_,_,_] 7 (fun g=>[_,_,⟨some g,30,_,7,true⟩]) (fun g0=>?_);refine A9 ?_;refine Ar (((n+1:Nat):Int)) ?_;refine A2 ?_;refine So 0 0 [⟨some gc,73,_,1,true⟩,_,_] [_] ?_;refine A12 ?_;refine Cd ?_ ?_<;>intro hb0
 ·have hn1:256≤n:=by have:=of_decide_eq_true hb0;omega
  refine A7 ?_;refine at_end1 rfl (res_tmp rfl) (fun w hL=>⟨(),eI (by unfold mnode;rw[if_pos hn1]),hL.pk [some 0]⟩)
 ·have hn1:¬256≤n:=by have:=of_decide_eq_false hb0;omega
  refine A9 ?_;refine Cd ?_ ?_<;>intro hb1
  ·have hl1:32<lv:=by have:=of_decide_eq_true hb1;omega
   refine A7 ?_;refine at_end1 rfl (res_tmp rfl) (fun w hL=>⟨(),eI (by unfold mnode;rw[if_neg hn1,if_pos hl1]),hL.pk [some 0]⟩)
  ·have hl1:¬32<lv:=by have:=of_decide_eq_false hb1;omega
   refine A3 ?_;refine at_regionM ?_;refine A2 ?_;refine Kp 26 h1 ?_;refine Gm 0 [] [] (fun _=>[_,_,_]) (c_law_of x.op) (fun _=>?_);refine r_know 27 (.tuple #[.agg #[.int .i64 3,.int .i64 0,.int .i64 8,.string (strU [111,98,106,101,99,116])],.bool true]) rfl (by rw[hop];kernel_rfl) ?_;refine A3 ?_;refine r_alloc [_,_,_,_] 4 (fun g=>[_,_,_,⟨some g,94,_,4,true⟩]) rfl rfl z94 rfl rfl (fun _=>rfl) (fun g1=>?_);refine So 3 0 [_,_,_,⟨some g1,94,_,4,true⟩] [_,_,_,_] ?_;refine A19 ?_;refine r_know 34 (.int .i64 (x.args.length:Nat)) rfl (by rw[h5]) ?_;refine A4 ?_;refine Rs 38 ?_ ?_<;>intro hb2
   ·have hlen:((x.args.length:Nat):Int)≠cntL x.op:=by rw[hcn];have hh:=hb2;simpa using hh
    refine A40 ?_;refine at_end1 rfl (res_tmp rfl) (fun w hL=>⟨(),eI (by unfold mnode nodeE;rw[if_neg hn1,if_neg hl1,if_neg (by rw[hcn];omega),if_pos (.inl hlen)]),hL.pk [some 0]⟩)
   ·have hlen:((x.args.length:Nat):Int)=cntL x.op:=by rw[hcn];have hh:=hb2;simpa using hh
    have hl2:x.args.length=0:=(by rw[hcn] at hlen;omega);refine A2 ?_;refine r_know 40 (.string (strU x.name)) rfl (by rw[h2]) ?_;refine A1 ?_;refine r_know 41 (.bool (x.name !=[])) rfl (by rw[show(strU x.name !=⟨#[]⟩)=(strU x.name !=strU []) from rfl,bne,strU_beq];rfl) ?_;refine A1 ?_;refine Rs 42 ?_ ?_<;>intro hb3
    ·have hnm:x.name≠[]:=by simpa using hb3
     refine A2 ?_;refine Kp 44 h1 ?_;refine A1 ?_;refine r_know 45 (.bool true) rfl (by rw[hop];rfl) ?_;refine A4 ?_;refine Kp 49 h1 ?_;refine A1 ?_;refine r_know 50 (.bool true) rfl (by rw[hop];rfl) ?_;refine A28 ?_;refine at_end1 rfl (res_tmp rfl) (fun w hL=>⟨(),eI (by unfold mnode nodeE;rw[if_neg hn1,if_neg hl1,if_neg (by rw[hcn];omega),if_pos (.inr (.inr ⟨(by rw[hop];decide),(by rw[hop];decide),hnm⟩))]),hL.pk [some 0]⟩)
    ·have hnm:x.name=[]:=by simpa using hb3
     refine A12 ?_;refine Ld 2 2 [_,_,_,_] ti27 ?_;refine r_build [] rfl rfl rfl (bd27_0) ?_;refine r_neqAgg rfl rfl rfl rfl gd27 (eq27r _ _ _ _ _ _ _ _) ?_;refine r_know 57 (.bool (!x.num.isZ)) rfl (by rw[NumV.isZ_cells h3]) ?_;refine A1 ?_;refine Rs 58 ?_ ?_<;>intro hb4
     ·have hz:x.num.isZ=false:=by simpa using hb4
      refine A2 ?_;refine Kp 60 h1 ?_;refine A1 ?_;refine r_know 61 (.bool true) rfl (by rw[hop];rfl) ?_;refine A4 ?_;refine Kp 65 h1 ?_;refine A1 ?_;refine r_know 66 (.bool false) rfl (by rw[hop];rfl) ?_;refine A12 ?_;refine Kp 70 h1 ?_;refine A1 ?_;refine r_know 71 (.bool false) rfl (by rw[hop];rfl) ?_;refine A18 ?_;refine El (ι:=Unit) (fun⟨⟩=>([(0,.pointer (some ⟨gc,0,none⟩)),(4,.pointer (some ⟨g0,0,none⟩)),(9,.int .i64 0)],[VK gc (n+1),gB z.T false,XB g0 z],0)) () ?_ (hL:=Weak.auto);rintro⟨⟩;(try dsimp only);refine A7 ?_;refine r_know 81 (.int .i64 (x.args.length:Nat)) rfl (by rw[h5]) ?_;refine A1 ?_;refine r_know 82 (.bool false) rfl (congrArg Value.bool (decide_eq_false (by omega))) ?_;refine A19 ?_;refine Kp 99 h1 ?_;refine A1 ?_;refine r_know 100 (.bool true) rfl (by rw[hop];rfl) ?_;refine A2 ?_;refine Ld 2 2 [_,_,_,_] ti27 ?_;refine Pc (c_law_isIdZ z hfu) ?_;refine A5 ?_;refine Cd ?_ ?_<;>intro hb6
      ·have hid:x.num.isId=false:=by simpa using hb6
       refine A8 ?_;refine at_end1 rfl (res_tmp rfl) (fun w hL=>⟨(),eI (by unfold mnode nodeE;rw[if_neg hn1,if_neg hl1,if_neg (by rw[hcn];omega),if_neg (fun h=>by
 rcases h with h|⟨ha,hb,h⟩|⟨ha,hb,h⟩
 ·exact h hlen
 ·exact hb hop
 ·exact h hnm),if_neg (fun h=>absurd h.1 (by rw[hop];decide)),if_neg (fun h=>absurd h.1 (by rw[hop];decide)),if_pos ⟨hop,hid⟩]),hL.pk [some 0]⟩)
      ·have hid:x.num.isId=true:=by simpa using hb6
       refine A5 ?_;refine Kp 109 h1 ?_;refine A1 ?_;refine r_know 110 (.bool false) rfl (by rw[hop];rfl) ?_;refine A13 ?_;refine Kp 118 h1 ?_;refine A1 ?_;refine r_know 119 (.bool false) rfl (by rw[hop];rfl) ?_;refine A19 ?_;refine at_end1 rfl (res_tmp rfl) (fun w hL=>⟨(),eI (by unfold mnode nodeE;rw[if_neg hn1,if_neg hl1,if_neg (by rw[hcn];omega),if_neg (fun h=>by
 rcases h with h|⟨ha,hb,h⟩|⟨ha,hb,h⟩
 ·exact h hlen
 ·exact hb hop
 ·exact h hnm),if_neg (fun h=>absurd h.1 (by rw[hop];decide)),if_neg (fun h=>absurd h.1 (by rw[hop];decide)),if_neg (fun h=>by rw[hid] at h;cases h.2),if_neg (fun h=>by
 rcases h with h|h
 ·exact absurd h.1 (by rw[hop];decide)
 ·exact absurd h.1 (by rw[hop];decide))]),hL.pk [some 0]⟩)
     ·have hz:x.num.isZ=true:=by simpa using hb4
      refine A20 ?_;refine Kp 70 h1 ?_;refine A1 ?_;refine r_know 71 (.bool false) rfl (by rw[hop];rfl) ?_;refine A18 ?_;refine El (ι:=Unit) (fun⟨⟩=>([(0,.pointer (some ⟨gc,0,none⟩)),(4,.pointer (some ⟨g0,0,none⟩)),(9,.int .i64 0)],[VK gc (n+1),gB z.T false,XB g0 z],0)) () ?_ (hL:=Weak.auto);rintro⟨⟩;(try dsimp only);refine A7 ?_;refine r_know 81 (.int .i64 (x.args.length:Nat)) rfl (by rw[h5]) ?_;refine A1 ?_;refine r_know 82 (.bool false) rfl (congrArg Value.bool (decide_eq_false (by omega))) ?_;refine A19 ?_;refine Kp 99 h1 ?_;refine A1 ?_;refine r_know 100 (.bool true) rfl (by rw[hop];rfl) ?_;refine A2 ?_;refine Ld 2 2 [_,_,_,_] ti27 ?_;refine Pc (c_law_isIdZ z hfu) ?_;refine A5 ?_;refine Cd ?_ ?_<;>intro hb6
      ·have hid:x.num.isId=false:=by simpa using hb6
       refine A8 ?_;refine at_end1 rfl (res_tmp rfl) (fun w hL=>⟨(),eI (by unfold mnode nodeE;rw[if_neg hn1,if_neg hl1,if_neg (by rw[hcn];omega),if_neg (fun h=>by
 rcases h with h|⟨ha,hb,h⟩|⟨ha,hb,h⟩
 ·exact h hlen
 ·exact hb hop
 ·exact h hnm),if_neg (fun h=>absurd h.1 (by rw[hop];decide)),if_neg (fun h=>absurd h.1 (by rw[hop];decide)),if_pos ⟨hop,hid⟩]),hL.pk [some 0]⟩)
      ·have hid:x.num.isId=true:=by simpa using hb6
       refine A5 ?_;refine Kp 109 h1 ?_;refine A1 ?_;refine r_know 110 (.bool false) rfl (by rw[hop];rfl) ?_;refine A13 ?_;refine Kp 118 h1 ?_;refine A1 ?_;refine r_know 119 (.bool false) rfl (by rw[hop];rfl) ?_;refine A19 ?_;refine at_end1 rfl (res_tmp rfl) (fun w hL=>⟨(),eI (by unfold mnode nodeE;rw[if_neg hn1,if_neg hl1,if_neg (by rw[hcn];omega),if_neg (fun h=>by
 rcases h with h|⟨ha,hb,h⟩|⟨ha,hb,h⟩
 ·exact h hlen
 ·exact hb hop
 ·exact h hnm),if_neg (fun h=>absurd h.1 (by rw[hop];decide)),if_neg (fun h=>absurd h.1 (by rw[hop];decide)),if_neg (fun h=>by rw[hid] at h;cases h.2),if_neg (fun h=>by
 rcases h with h|h
 ·exact absurd h.1 (by rw[hop];decide)
 ·exact absurd h.1 (by rw[hop];decide))]),hL.pk [some 0]⟩)
theorem c_mnode_4{x:XT}(z:XR x)(hfn:x.name.length≤1000000)(hfu:x.num.fit=true)(lv n gc:Nat)(hn:n≤256)(hlv:lv≤1000)(hop:x.op=4):ECall Tryz.prog 90 [VK gc n,gB z.T false] [.pointer (some ⟨gc,0,none⟩),z.v,.int .i64 (lv:Nat)] Unit (fun _=> .int .i64 (mnode x lv n:Nat)) (fun _=>[VK gc (n+1)]):=by
 refine⟨by kernel_rfl,fun B w hD hL0=>?_⟩;obtain⟨h1,h2,h3,h4,h5,h6⟩:=z.inv;have hs:=NumV.fit_cells h3 hfu
 have hcn:cntL x.op=0:=(by rw[hop];rfl);refine cB3 126 Tryz.func90 hL0 ?_;refine A2 ?_;refine Bo [_,_,_,_,_,_,_] 7 (fun g=>[_,_,⟨some g,30,_,7,true⟩]) (fun g0=>?_);refine A9 ?_;refine Ar (((n+1:Nat):Int)) ?_;refine A2 ?_;refine So 0 0 [⟨some gc,73,_,1,true⟩,_,_] [_] ?_;refine A12 ?_;refine Cd ?_ ?_<;>intro hb0
 ·have hn1:256≤n:=by have:=of_decide_eq_true hb0;omega
  refine A7 ?_;refine at_end1 rfl (res_tmp rfl) (fun w hL=>⟨(),eI (by unfold mnode;rw[if_pos hn1]),hL.pk [some 0]⟩)
 ·have hn1:¬256≤n:=by have:=of_decide_eq_false hb0;omega
  refine A9 ?_;refine Cd ?_ ?_<;>intro hb1
  ·have hl1:32<lv:=by have:=of_decide_eq_true hb1;omega
   refine A7 ?_;refine at_end1 rfl (res_tmp rfl) (fun w hL=>⟨(),eI (by unfold mnode;rw[if_neg hn1,if_pos hl1]),hL.pk [some 0]⟩)
  ·have hl1:¬32<lv:=by have:=of_decide_eq_false hb1;omega
   refine A3 ?_;refine at_regionM ?_;refine A2 ?_;refine Kp 26 h1 ?_;refine Gm 0 [] [] (fun _=>[_,_,_]) (c_law_of x.op) (fun _=>?_);refine r_know 27 (.tuple #[.agg #[.int .i64 4,.int .i64 0,.int .i64 8,.string (strU [])],.bool true]) rfl (by rw[hop];kernel_rfl) ?_;refine A3 ?_;refine r_alloc [_,_,_,_] 4 (fun g=>[_,_,_,⟨some g,94,_,4,true⟩]) rfl rfl z94 rfl rfl (fun _=>rfl) (fun g1=>?_);refine So 3 0 [_,_,_,⟨some g1,94,_,4,true⟩] [_,_,_,_] ?_;refine A19 ?_;refine r_know 34 (.int .i64 (x.args.length:Nat)) rfl (by rw[h5]) ?_;refine A4 ?_;refine Rs 38 ?_ ?_<;>intro hb2
   ·have hlen:((x.args.length:Nat):Int)≠cntL x.op:=by rw[hcn];have hh:=hb2;simpa using hh
    refine A40 ?_;refine at_end1 rfl (res_tmp rfl) (fun w hL=>⟨(),eI (by unfold mnode nodeE;rw[if_neg hn1,if_neg hl1,if_neg (by rw[hcn];omega),if_pos (.inl hlen)]),hL.pk [some 0]⟩)
   ·have hlen:((x.args.length:Nat):Int)=cntL x.op:=by rw[hcn];have hh:=hb2;simpa using hh
    have hl2:x.args.length=0:=(by rw[hcn] at hlen;omega);refine A2 ?_;refine r_know 40 (.string (strU x.name)) rfl (by rw[h2]) ?_;refine A1 ?_;refine r_know 41 (.bool (x.name !=[])) rfl (by rw[show(strU x.name !=⟨#[]⟩)=(strU x.name !=strU []) from rfl,bne,strU_beq];rfl) ?_;refine A1 ?_;refine Rs 42 ?_ ?_<;>intro hb3
    ·have hnm:x.name≠[]:=by simpa using hb3
     refine A2 ?_;refine Kp 44 h1 ?_;refine A1 ?_;refine r_know 45 (.bool false) rfl (by rw[hop];rfl) ?_;refine A9 ?_;refine Ld 2 2 [_,_,_,_] ti27 ?_;refine r_build [] rfl rfl rfl (bd27_0) ?_;refine r_neqAgg rfl rfl rfl rfl gd27 (eq27r _ _ _ _ _ _ _ _) ?_;refine r_know 57 (.bool (!x.num.isZ)) rfl (by rw[NumV.isZ_cells h3]) ?_;refine A1 ?_;refine Rs 58 ?_ ?_<;>intro hb4
     ·have hz:x.num.isZ=false:=by simpa using hb4
      refine A2 ?_;refine Kp 60 h1 ?_;refine A1 ?_;refine r_know 61 (.bool true) rfl (by rw[hop];rfl) ?_;refine A4 ?_;refine Kp 65 h1 ?_;refine A1 ?_;refine r_know 66 (.bool true) rfl (by rw[hop];rfl) ?_;refine A12 ?_;refine at_end1 rfl (res_tmp rfl) (fun w hL=>⟨(),eI (by unfold mnode nodeE;rw[if_neg hn1,if_neg hl1,if_neg (by rw[hcn];omega),if_pos (.inr (.inl ⟨(by rw[hop];decide),(by rw[hop];decide),hz⟩))]),hL.pk [some 0]⟩)
     ·have hz:x.num.isZ=true:=by simpa using hb4
      refine A20 ?_;refine Kp 70 h1 ?_;refine A1 ?_;refine r_know 71 (.bool false) rfl (by rw[hop];rfl) ?_;refine A18 ?_;refine El (ι:=Unit) (fun⟨⟩=>([(0,.pointer (some ⟨gc,0,none⟩)),(4,.pointer (some ⟨g0,0,none⟩)),(9,.int .i64 0)],[VK gc (n+1),gB z.T false,XB g0 z],0)) () ?_ (hL:=Weak.auto);rintro⟨⟩;(try dsimp only);refine A7 ?_;refine r_know 81 (.int .i64 (x.args.length:Nat)) rfl (by rw[h5]) ?_;refine A1 ?_;refine r_know 82 (.bool false) rfl (congrArg Value.bool (decide_eq_false (by omega))) ?_;refine A19 ?_;refine Kp 99 h1 ?_;refine A1 ?_;refine r_know 100 (.bool false) rfl (by rw[hop];rfl) ?_;refine A15 ?_;refine Kp 109 h1 ?_;refine A1 ?_;refine r_know 110 (.bool true) rfl (by rw[hop];rfl) ?_;refine A3 ?_;refine r_know 113 (.string (strU x.name)) rfl (by rw[h2]) ?_;refine Pc (c_law_isName x.name hfn) ?_;refine r_know 114 (.bool (nameL x.name)) rfl (by rw[name_same]) ?_;refine A5 ?_;refine Cd ?_ ?_<;>intro hb6
      ·have hN:nameL x.name=false:=by simpa using hb6
       refine A2 ?_;refine Cd ?_ ?_<;>intro hb7
       ·have hN:nameL x.name=false:=by simpa using hb7
        refine A8 ?_;refine at_end1 rfl (res_tmp rfl) (fun w hL=>⟨(),eI (by unfold mnode nodeE;rw[if_neg hn1,if_neg hl1,if_neg (by rw[hcn];omega),if_neg (fun h=>by
 rcases h with h|⟨ha,hb,h⟩|⟨ha,hb,h⟩
 ·exact h hlen
 ·rw[hz] at h;cases h
 ·exact ha hop),if_neg (fun h=>absurd h.1 (by rw[hop];decide)),if_neg (fun h=>absurd h.1 (by rw[hop];decide)),if_neg (fun h=>absurd h.1 (by rw[hop];decide)),if_pos (.inl ⟨hop,hN⟩)]),hL.pk [some 0]⟩)
       ·have hN:nameL x.name=true:=by simpa using hb7
        refine A9 ?_;refine at_end1 rfl (res_tmp rfl) (fun w hL=>⟨(),eI (by unfold mnode nodeE;rw[if_neg hn1,if_neg hl1,if_neg (by rw[hcn];omega),if_neg (fun h=>by
 rcases h with h|⟨ha,hb,h⟩|⟨ha,hb,h⟩
 ·exact h hlen
 ·rw[hz] at h;cases h
 ·exact ha hop),if_neg (fun h=>absurd h.1 (by rw[hop];decide)),if_neg (fun h=>absurd h.1 (by rw[hop];decide)),if_neg (fun h=>absurd h.1 (by rw[hop];decide)),if_neg (fun h=>by
 rcases h with h|h
 ·rw[hN] at h;cases h.2
 ·exact absurd h.1 (by rw[hop];decide))]),hL.pk [some 0]⟩)
      ·have hN:nameL x.name=true:=by simpa using hb6
       refine A3 ?_;refine Kp 118 h1 ?_;refine A1 ?_;refine r_know 119 (.bool false) rfl (by rw[hop];rfl) ?_;refine A19 ?_;refine at_end1 rfl (res_tmp rfl) (fun w hL=>⟨(),eI (by unfold mnode nodeE;rw[if_neg hn1,if_neg hl1,if_neg (by rw[hcn];omega),if_neg (fun h=>by
 rcases h with h|⟨ha,hb,h⟩|⟨ha,hb,h⟩
 ·exact h hlen
 ·rw[hz] at h;cases h
 ·exact ha hop),if_neg (fun h=>absurd h.1 (by rw[hop];decide)),if_neg (fun h=>absurd h.1 (by rw[hop];decide)),if_neg (fun h=>absurd h.1 (by rw[hop];decide)),if_neg (fun h=>by
 rcases h with h|h
 ·rw[hN] at h;cases h.2
 ·exact absurd h.1 (by rw[hop];decide))]),hL.pk [some 0]⟩)
    ·have hnm:x.name=[]:=by simpa using hb3
     refine A12 ?_;refine Ld 2 2 [_,_,_,_] ti27 ?_;refine r_build [] rfl rfl rfl (bd27_0) ?_;refine r_neqAgg rfl rfl rfl rfl gd27 (eq27r _ _ _ _ _ _ _ _) ?_;refine r_know 57 (.bool (!x.num.isZ)) rfl (by rw[NumV.isZ_cells h3]) ?_;refine A1 ?_;refine Rs 58 ?_ ?_<;>intro hb4
     ·have hz:x.num.isZ=false:=by simpa using hb4
      refine A2 ?_;refine Kp 60 h1 ?_;refine A1 ?_;refine r_know 61 (.bool true) rfl (by rw[hop];rfl) ?_;refine A4 ?_;refine Kp 65 h1 ?_;refine A1 ?_;refine r_know 66 (.bool true) rfl (by rw[hop];rfl) ?_;refine A12 ?_;refine at_end1 rfl (res_tmp rfl) (fun w hL=>⟨(),eI (by unfold mnode nodeE;rw[if_neg hn1,if_neg hl1,if_neg (by rw[hcn];omega),if_pos (.inr (.inl ⟨(by rw[hop];decide),(by rw[hop];decide),hz⟩))]),hL.pk [some 0]⟩)
     ·have hz:x.num.isZ=true:=by simpa using hb4
      refine A20 ?_;refine Kp 70 h1 ?_;refine A1 ?_;refine r_know 71 (.bool false) rfl (by rw[hop];rfl) ?_;refine A18 ?_;refine El (ι:=Unit) (fun⟨⟩=>([(0,.pointer (some ⟨gc,0,none⟩)),(4,.pointer (some ⟨g0,0,none⟩)),(9,.int .i64 0)],[VK gc (n+1),gB z.T false,XB g0 z],0)) () ?_ (hL:=Weak.auto);rintro⟨⟩;(try dsimp only);refine A7 ?_;refine r_know 81 (.int .i64 (x.args.length:Nat)) rfl (by rw[h5]) ?_;refine A1 ?_;refine r_know 82 (.bool false) rfl (congrArg Value.bool (decide_eq_false (by omega))) ?_;refine A19 ?_;refine Kp 99 h1 ?_;refine A1 ?_;refine r_know 100 (.bool false) rfl (by rw[hop];rfl) ?_;refine A15 ?_;refine Kp 109 h1 ?_;refine A1 ?_;refine r_know 110 (.bool true) rfl (by rw[hop];rfl) ?_;refine A3 ?_;refine r_know 113 (.string (strU x.name)) rfl (by rw[h2]) ?_;refine Pc (c_law_isName x.name hfn) ?_;refine r_know 114 (.bool (nameL x.name)) rfl (by rw[name_same]) ?_;refine A5 ?_;refine Cd ?_ ?_<;>intro hb6
      ·have hN:nameL x.name=false:=by simpa using hb6
       refine A2 ?_;refine Cd ?_ ?_<;>intro hb7
       ·have hN:nameL x.name=false:=by simpa using hb7
        refine A8 ?_;refine at_end1 rfl (res_tmp rfl) (fun w hL=>⟨(),eI (by unfold mnode nodeE;rw[if_neg hn1,if_neg hl1,if_neg (by rw[hcn];omega),if_neg (fun h=>by
 rcases h with h|⟨ha,hb,h⟩|⟨ha,hb,h⟩
 ·exact h hlen
 ·rw[hz] at h;cases h
 ·exact ha hop),if_neg (fun h=>absurd h.1 (by rw[hop];decide)),if_neg (fun h=>absurd h.1 (by rw[hop];decide)),if_neg (fun h=>absurd h.1 (by rw[hop];decide)),if_pos (.inl ⟨hop,hN⟩)]),hL.pk [some 0]⟩)
       ·have hN:nameL x.name=true:=by simpa using hb7
        refine A9 ?_;refine at_end1 rfl (res_tmp rfl) (fun w hL=>⟨(),eI (by unfold mnode nodeE;rw[if_neg hn1,if_neg hl1,if_neg (by rw[hcn];omega),if_neg (fun h=>by
 rcases h with h|⟨ha,hb,h⟩|⟨ha,hb,h⟩
 ·exact h hlen
 ·rw[hz] at h;cases h
 ·exact ha hop),if_neg (fun h=>absurd h.1 (by rw[hop];decide)),if_neg (fun h=>absurd h.1 (by rw[hop];decide)),if_neg (fun h=>absurd h.1 (by rw[hop];decide)),if_neg (fun h=>by
 rcases h with h|h
 ·rw[hN] at h;cases h.2
 ·exact absurd h.1 (by rw[hop];decide))]),hL.pk [some 0]⟩)
      ·have hN:nameL x.name=true:=by simpa using hb6
       refine A3 ?_;refine Kp 118 h1 ?_;refine A1 ?_;refine r_know 119 (.bool false) rfl (by rw[hop];rfl) ?_;refine A19 ?_;refine at_end1 rfl (res_tmp rfl) (fun w hL=>⟨(),eI (by unfold mnode nodeE;rw[if_neg hn1,if_neg hl1,if_neg (by rw[hcn];omega),if_neg (fun h=>by
 rcases h with h|⟨ha,hb,h⟩|⟨ha,hb,h⟩
 ·exact h hlen
 ·rw[hz] at h;cases h
 ·exact ha hop),if_neg (fun h=>absurd h.1 (by rw[hop];decide)),if_neg (fun h=>absurd h.1 (by rw[hop];decide)),if_neg (fun h=>absurd h.1 (by rw[hop];decide)),if_neg (fun h=>by
 rcases h with h|h
 ·rw[hN] at h;cases h.2
 ·exact absurd h.1 (by rw[hop];decide))]),hL.pk [some 0]⟩)
theorem c_mnode_5{x:XT}(z:XR x)(hfn:x.name.length≤1000000)(hfu:x.num.fit=true)(lv n gc:Nat)(hn:n≤256)(hlv:lv≤1000)(hop:x.op=5):ECall Tryz.prog 90 [VK gc n,gB z.T false] [.pointer (some ⟨gc,0,none⟩),z.v,.int .i64 (lv:Nat)] Unit (fun _=> .int .i64 (mnode x lv n:Nat)) (fun _=>[VK gc (n+1)]):=by
 refine⟨by kernel_rfl,fun B w hD hL0=>?_⟩;obtain⟨h1,h2,h3,h4,h5,h6⟩:=z.inv;have hs:=NumV.fit_cells h3 hfu
 have hcn:cntL x.op=0:=(by rw[hop];rfl);refine cB3 126 Tryz.func90 hL0 ?_;refine A2 ?_;refine Bo [_,_,_,_,_,_,_] 7 (fun g=>[_,_,⟨some g,30,_,7,true⟩]) (fun g0=>?_);refine A9 ?_;refine Ar (((n+1:Nat):Int)) ?_;refine A2 ?_;refine So 0 0 [⟨some gc,73,_,1,true⟩,_,_] [_] ?_;refine A12 ?_;refine Cd ?_ ?_<;>intro hb0
 ·have hn1:256≤n:=by have:=of_decide_eq_true hb0;omega
  refine A7 ?_;refine at_end1 rfl (res_tmp rfl) (fun w hL=>⟨(),eI (by unfold mnode;rw[if_pos hn1]),hL.pk [some 0]⟩)
 ·have hn1:¬256≤n:=by have:=of_decide_eq_false hb0;omega
  refine A9 ?_;refine Cd ?_ ?_<;>intro hb1
  ·have hl1:32<lv:=by have:=of_decide_eq_true hb1;omega
   refine A7 ?_;refine at_end1 rfl (res_tmp rfl) (fun w hL=>⟨(),eI (by unfold mnode;rw[if_neg hn1,if_pos hl1]),hL.pk [some 0]⟩)
  ·have hl1:¬32<lv:=by have:=of_decide_eq_false hb1;omega
   refine A3 ?_;refine at_regionM ?_;refine A2 ?_;refine Kp 26 h1 ?_;refine Gm 0 [] [] (fun _=>[_,_,_]) (c_law_of x.op) (fun _=>?_);refine r_know 27 (.tuple #[.agg #[.int .i64 5,.int .i64 0,.int .i64 8,.string (strU [122,111,110,101])],.bool true]) rfl (by rw[hop];kernel_rfl) ?_;refine A3 ?_;refine r_alloc [_,_,_,_] 4 (fun g=>[_,_,_,⟨some g,94,_,4,true⟩]) rfl rfl z94 rfl rfl (fun _=>rfl) (fun g1=>?_);refine So 3 0 [_,_,_,⟨some g1,94,_,4,true⟩] [_,_,_,_] ?_;refine A19 ?_;refine r_know 34 (.int .i64 (x.args.length:Nat)) rfl (by rw[h5]) ?_;refine A4 ?_;refine Rs 38 ?_ ?_<;>intro hb2
   ·have hlen:((x.args.length:Nat):Int)≠cntL x.op:=by rw[hcn];have hh:=hb2;simpa using hh
    refine A40 ?_;refine at_end1 rfl (res_tmp rfl) (fun w hL=>⟨(),eI (by unfold mnode nodeE;rw[if_neg hn1,if_neg hl1,if_neg (by rw[hcn];omega),if_pos (.inl hlen)]),hL.pk [some 0]⟩)
   ·have hlen:((x.args.length:Nat):Int)=cntL x.op:=by rw[hcn];have hh:=hb2;simpa using hh
    have hl2:x.args.length=0:=(by rw[hcn] at hlen;omega);refine A2 ?_;refine r_know 40 (.string (strU x.name)) rfl (by rw[h2]) ?_;refine A1 ?_;refine r_know 41 (.bool (x.name !=[])) rfl (by rw[show(strU x.name !=⟨#[]⟩)=(strU x.name !=strU []) from rfl,bne,strU_beq];rfl) ?_;refine A1 ?_;refine Rs 42 ?_ ?_<;>intro hb3
    ·have hnm:x.name≠[]:=by simpa using hb3
     refine A2 ?_;refine Kp 44 h1 ?_;refine A1 ?_;refine r_know 45 (.bool true) rfl (by rw[hop];rfl) ?_;refine A4 ?_;refine Kp 49 h1 ?_;refine A1 ?_;refine r_know 50 (.bool false) rfl (by rw[hop];rfl) ?_;refine A4 ?_;refine Ld 2 2 [_,_,_,_] ti27 ?_;refine r_build [] rfl rfl rfl (bd27_0) ?_;refine r_neqAgg rfl rfl rfl rfl gd27 (eq27r _ _ _ _ _ _ _ _) ?_;refine r_know 57 (.bool (!x.num.isZ)) rfl (by rw[NumV.isZ_cells h3]) ?_;refine A1 ?_;refine Rs 58 ?_ ?_<;>intro hb4
     ·have hz:x.num.isZ=false:=by simpa using hb4
      refine A2 ?_;refine Kp 60 h1 ?_;refine A1 ?_;refine r_know 61 (.bool true) rfl (by rw[hop];rfl) ?_;refine A4 ?_;refine Kp 65 h1 ?_;refine A1 ?_;refine r_know 66 (.bool true) rfl (by rw[hop];rfl) ?_;refine A12 ?_;refine at_end1 rfl (res_tmp rfl) (fun w hL=>⟨(),eI (by unfold mnode nodeE;rw[if_neg hn1,if_neg hl1,if_neg (by rw[hcn];omega),if_pos (.inr (.inl ⟨(by rw[hop];decide),(by rw[hop];decide),hz⟩))]),hL.pk [some 0]⟩)
     ·have hz:x.num.isZ=true:=by simpa using hb4
      refine A20 ?_;refine Kp 70 h1 ?_;refine A1 ?_;refine r_know 71 (.bool false) rfl (by rw[hop];rfl) ?_;refine A18 ?_;refine El (ι:=Unit) (fun⟨⟩=>([(0,.pointer (some ⟨gc,0,none⟩)),(4,.pointer (some ⟨g0,0,none⟩)),(9,.int .i64 0)],[VK gc (n+1),gB z.T false,XB g0 z],0)) () ?_ (hL:=Weak.auto);rintro⟨⟩;(try dsimp only);refine A7 ?_;refine r_know 81 (.int .i64 (x.args.length:Nat)) rfl (by rw[h5]) ?_;refine A1 ?_;refine r_know 82 (.bool false) rfl (congrArg Value.bool (decide_eq_false (by omega))) ?_;refine A19 ?_;refine Kp 99 h1 ?_;refine A1 ?_;refine r_know 100 (.bool false) rfl (by rw[hop];rfl) ?_;refine A15 ?_;refine Kp 109 h1 ?_;refine A1 ?_;refine r_know 110 (.bool false) rfl (by rw[hop];rfl) ?_;refine A13 ?_;refine Kp 118 h1 ?_;refine A1 ?_;refine r_know 119 (.bool true) rfl (by rw[hop];rfl) ?_;refine A3 ?_;refine r_know 122 (.string (strU x.name)) rfl (by rw[h2]) ?_;refine Pc (c_law_isZone x.name hfn) ?_;refine A5 ?_;refine Cd ?_ ?_<;>intro hb6
      ·have hZ:zoneL x.name=false:=by simpa using hb6
       refine A8 ?_;refine at_end1 rfl (res_tmp rfl) (fun w hL=>⟨(),eI (by unfold mnode nodeE;rw[if_neg hn1,if_neg hl1,if_neg (by rw[hcn];omega),if_neg (fun h=>by
 rcases h with h|⟨ha,hb,h⟩|⟨ha,hb,h⟩
 ·exact h hlen
 ·rw[hz] at h;cases h
 ·exact hb hop),if_neg (fun h=>absurd h.1 (by rw[hop];decide)),if_neg (fun h=>absurd h.1 (by rw[hop];decide)),if_neg (fun h=>absurd h.1 (by rw[hop];decide)),if_pos (.inr ⟨hop,hZ⟩)]),hL.pk [some 0]⟩)
      ·have hZ:zoneL x.name=true:=by simpa using hb6
       refine A9 ?_;refine at_end1 rfl (res_tmp rfl) (fun w hL=>⟨(),eI (by unfold mnode nodeE;rw[if_neg hn1,if_neg hl1,if_neg (by rw[hcn];omega),if_neg (fun h=>by
 rcases h with h|⟨ha,hb,h⟩|⟨ha,hb,h⟩
 ·exact h hlen
 ·rw[hz] at h;cases h
 ·exact hb hop),if_neg (fun h=>absurd h.1 (by rw[hop];decide)),if_neg (fun h=>absurd h.1 (by rw[hop];decide)),if_neg (fun h=>absurd h.1 (by rw[hop];decide)),if_neg (fun h=>by
 rcases h with h|h
 ·exact absurd h.1 (by rw[hop];decide)
 ·rw[hZ] at h;cases h.2)]),hL.pk [some 0]⟩)
    ·have hnm:x.name=[]:=by simpa using hb3
     refine A12 ?_;refine Ld 2 2 [_,_,_,_] ti27 ?_;refine r_build [] rfl rfl rfl (bd27_0) ?_;refine r_neqAgg rfl rfl rfl rfl gd27 (eq27r _ _ _ _ _ _ _ _) ?_;refine r_know 57 (.bool (!x.num.isZ)) rfl (by rw[NumV.isZ_cells h3]) ?_;refine A1 ?_;refine Rs 58 ?_ ?_<;>intro hb4
     ·have hz:x.num.isZ=false:=by simpa using hb4
      refine A2 ?_;refine Kp 60 h1 ?_;refine A1 ?_;refine r_know 61 (.bool true) rfl (by rw[hop];rfl) ?_;refine A4 ?_;refine Kp 65 h1 ?_;refine A1 ?_;refine r_know 66 (.bool true) rfl (by rw[hop];rfl) ?_;refine A12 ?_;refine at_end1 rfl (res_tmp rfl) (fun w hL=>⟨(),eI (by unfold mnode nodeE;rw[if_neg hn1,if_neg hl1,if_neg (by rw[hcn];omega),if_pos (.inr (.inl ⟨(by rw[hop];decide),(by rw[hop];decide),hz⟩))]),hL.pk [some 0]⟩)
     ·have hz:x.num.isZ=true:=by simpa using hb4
      refine A20 ?_;refine Kp 70 h1 ?_;refine A1 ?_;refine r_know 71 (.bool false) rfl (by rw[hop];rfl) ?_;refine A18 ?_;refine El (ι:=Unit) (fun⟨⟩=>([(0,.pointer (some ⟨gc,0,none⟩)),(4,.pointer (some ⟨g0,0,none⟩)),(9,.int .i64 0)],[VK gc (n+1),gB z.T false,XB g0 z],0)) () ?_ (hL:=Weak.auto);rintro⟨⟩;(try dsimp only);refine A7 ?_;refine r_know 81 (.int .i64 (x.args.length:Nat)) rfl (by rw[h5]) ?_;refine A1 ?_;refine r_know 82 (.bool false) rfl (congrArg Value.bool (decide_eq_false (by omega))) ?_;refine A19 ?_;refine Kp 99 h1 ?_;refine A1 ?_;refine r_know 100 (.bool false) rfl (by rw[hop];rfl) ?_;refine A15 ?_;refine Kp 109 h1 ?_;refine A1 ?_;refine r_know 110 (.bool false) rfl (by rw[hop];rfl) ?_;refine A13 ?_;refine Kp 118 h1 ?_;refine A1 ?_;refine r_know 119 (.bool true) rfl (by rw[hop];rfl) ?_;refine A3 ?_;refine r_know 122 (.string (strU x.name)) rfl (by rw[h2]) ?_;refine Pc (c_law_isZone x.name hfn) ?_;refine A5 ?_;refine Cd ?_ ?_<;>intro hb6
      ·have hZ:zoneL x.name=false:=by simpa using hb6
       refine A8 ?_;refine at_end1 rfl (res_tmp rfl) (fun w hL=>⟨(),eI (by unfold mnode nodeE;rw[if_neg hn1,if_neg hl1,if_neg (by rw[hcn];omega),if_neg (fun h=>by
 rcases h with h|⟨ha,hb,h⟩|⟨ha,hb,h⟩
 ·exact h hlen
 ·rw[hz] at h;cases h
 ·exact hb hop),if_neg (fun h=>absurd h.1 (by rw[hop];decide)),if_neg (fun h=>absurd h.1 (by rw[hop];decide)),if_neg (fun h=>absurd h.1 (by rw[hop];decide)),if_pos (.inr ⟨hop,hZ⟩)]),hL.pk [some 0]⟩)
      ·have hZ:zoneL x.name=true:=by simpa using hb6
       refine A9 ?_;refine at_end1 rfl (res_tmp rfl) (fun w hL=>⟨(),eI (by unfold mnode nodeE;rw[if_neg hn1,if_neg hl1,if_neg (by rw[hcn];omega),if_neg (fun h=>by
 rcases h with h|⟨ha,hb,h⟩|⟨ha,hb,h⟩
 ·exact h hlen
 ·rw[hz] at h;cases h
 ·exact hb hop),if_neg (fun h=>absurd h.1 (by rw[hop];decide)),if_neg (fun h=>absurd h.1 (by rw[hop];decide)),if_neg (fun h=>absurd h.1 (by rw[hop];decide)),if_neg (fun h=>by
 rcases h with h|h
 ·exact absurd h.1 (by rw[hop];decide)
 ·rw[hZ] at h;cases h.2)]),hL.pk [some 0]⟩)
theorem c_mnode_o{x:XT}(z:XR x)(hfn:x.name.length≤1000000)(hfu:x.num.fit=true)(lv n gc:Nat)(hn:n≤256)(hlv:lv≤1000)(hop1:x.op≠1)(hop2:x.op≠2)(hop3:x.op≠3)(hop4:x.op≠4)(hop5:x.op≠5):ECall Tryz.prog 90 [VK gc n,gB z.T false] [.pointer (some ⟨gc,0,none⟩),z.v,.int .i64 (lv:Nat)] Unit (fun _=> .int .i64 (mnode x lv n:Nat)) (fun _=>[VK gc (n+1)]):=by
 refine⟨by kernel_rfl,fun B w hD hL0=>?_⟩;obtain⟨h1,h2,h3,h4,h5,h6⟩:=z.inv;have hs:=NumV.fit_cells h3 hfu;refine cB3 126 Tryz.func90 hL0 ?_;refine A2 ?_;refine Bo [_,_,_,_,_,_,_] 7 (fun g=>[_,_,⟨some g,30,_,7,true⟩]) (fun g0=>?_);refine A9 ?_;refine Ar (((n+1:Nat):Int)) ?_;refine A2 ?_;refine So 0 0 [⟨some gc,73,_,1,true⟩,_,_] [_] ?_;refine A12 ?_;refine Cd ?_ ?_<;>intro hb0
 ·have hn1:256≤n:=by have:=of_decide_eq_true hb0;omega
  refine A7 ?_;refine at_end1 rfl (res_tmp rfl) (fun w hL=>⟨(),eI (by unfold mnode;rw[if_pos hn1]),hL.pk [some 0]⟩)
 ·have hn1:¬256≤n:=by have:=of_decide_eq_false hb0;omega
  refine A9 ?_;refine Cd ?_ ?_<;>intro hb1
  ·have hl1:32<lv:=by have:=of_decide_eq_true hb1;omega
   refine A7 ?_;refine at_end1 rfl (res_tmp rfl) (fun w hL=>⟨(),eI (by unfold mnode;rw[if_neg hn1,if_pos hl1]),hL.pk [some 0]⟩)
  ·have hl1:¬32<lv:=by have:=of_decide_eq_false hb1;omega
   refine A3 ?_;refine at_regionM ?_;refine A2 ?_;refine Kp 26 h1 ?_;rcases hmf:mfind x.op with _|o
   ·have hcn:=cnt_none hmf;refine Gm 0 [] [] (fun _=>[_,_,_]) (c_law_of x.op) (fun _=>?_);refine r_know 27 (.tuple #[.agg #[.int .i64 0,.int .i64 0,.int .i64 0,.string ⟨#[]⟩],.bool false]) rfl (by unfold mofV;rw[hmf]) ?_;refine A3 ?_;refine r_alloc [_,_,_,_] 4 (fun g=>[_,_,_,⟨some g,94,_,4,true⟩]) rfl rfl z94 rfl rfl (fun _=>rfl) (fun g1=>?_);refine So 3 0 [_,_,_,⟨some g1,94,_,4,true⟩] [_,_,_,_] ?_;refine A18 ?_;refine at_end1 rfl (res_tmp rfl) (fun w hL=>⟨(),eI (by unfold mnode nodeE;rw[if_neg hn1,if_neg hl1,if_pos (by rw[hcn];decide)]),hL.pk [some 0]⟩)
   ·have hcn:=cnt_some hmf;have hpos:=cnt_pos hmf hop1 hop3 hop4 hop5;refine Gm 0 [] [] (fun _=>[_,_,_]) (c_law_of x.op) (fun _=>?_);refine r_know 27 (.tuple #[.agg #[.int .i64 (o.1:Nat),.int .i64 (o.2.1:Nat),.int .i64 (o.2.2.1:Nat),.string (strU o.2.2.2)],.bool true]) rfl (by unfold mofV;rw[hmf];rfl) ?_;refine A3 ?_;refine r_alloc [_,_,_,_] 4 (fun g=>[_,_,_,⟨some g,94,_,4,true⟩]) rfl rfl z94 rfl rfl (fun _=>rfl) (fun g1=>?_);refine So 3 0 [_,_,_,⟨some g1,94,_,4,true⟩] [_,_,_,_] ?_;refine A19 ?_;refine r_know 34 (.int .i64 (x.args.length:Nat)) rfl (by rw[h5]) ?_;refine A4 ?_;refine Rs 38 ?_ ?_<;>intro hb3
    ·have hlen:((x.args.length:Nat):Int)≠cntL x.op:=by rw[hcn];have hh:=hb3;simpa using hh
     refine A40 ?_;refine at_end1 rfl (res_tmp rfl) (fun w hL=>⟨(),eI (by unfold mnode nodeE;rw[if_neg hn1,if_neg hl1,if_neg (by rw[hcn];omega),if_pos (.inl hlen)]),hL.pk [some 0]⟩)
    ·have hlen:((x.args.length:Nat):Int)=cntL x.op:=by rw[hcn];have hh:=hb3;simpa using hh
     have hl2:1≤x.args.length:=(by rw[hcn] at hlen;omega);refine A2 ?_;refine r_know 40 (.string (strU x.name)) rfl (by rw[h2]) ?_;refine A1 ?_;refine r_know 41 (.bool (x.name !=[])) rfl (by rw[show(strU x.name !=⟨#[]⟩)=(strU x.name !=strU []) from rfl,bne,strU_beq];rfl) ?_;refine A1 ?_;refine Rs 42 ?_ ?_<;>intro hb4
     ·have hnm:x.name≠[]:=by simpa using hb4
      refine A2 ?_;refine Kp 44 h1 ?_;refine A1 ?_;refine r_know 45 (.bool true) rfl (congrArg Value.bool (by simpa using hop4)) ?_;refine A4 ?_;refine Kp 49 h1 ?_;refine A1 ?_;refine r_know 50 (.bool true) rfl (congrArg Value.bool (by simpa using hop5)) ?_;refine A28 ?_;refine at_end1 rfl (res_tmp rfl) (fun w hL=>⟨(),eI (by unfold mnode nodeE;rw[if_neg hn1,if_neg hl1,if_neg (by rw[hcn];omega),if_pos (.inr (.inr ⟨hop4,hop5,hnm⟩))]),hL.pk [some 0]⟩)
     ·have hnm:x.name=[]:=by simpa using hb4
      refine A12 ?_;refine Ld 2 2 [_,_,_,_] ti27 ?_;refine r_build [] rfl rfl rfl (bd27_0) ?_;refine r_neqAgg rfl rfl rfl rfl gd27 (eq27r _ _ _ _ _ _ _ _) ?_;refine r_know 57 (.bool (!x.num.isZ)) rfl (by rw[NumV.isZ_cells h3]) ?_;refine A1 ?_;refine Rs 58 ?_ ?_<;>intro hb5
      ·have hz:x.num.isZ=false:=by simpa using hb5
       refine A2 ?_;refine Kp 60 h1 ?_;refine A1 ?_;refine r_know 61 (.bool true) rfl (congrArg Value.bool (by simpa using hop1)) ?_;refine A4 ?_;refine Kp 65 h1 ?_;refine A1 ?_;refine r_know 66 (.bool true) rfl (congrArg Value.bool (by simpa using hop3)) ?_;refine A12 ?_;refine at_end1 rfl (res_tmp rfl) (fun w hL=>⟨(),eI (by unfold mnode nodeE;rw[if_neg hn1,if_neg hl1,if_neg (by rw[hcn];omega),if_pos (.inr (.inl ⟨hop1,hop3,hz⟩))]),hL.pk [some 0]⟩)
      ·have hz:x.num.isZ=true:=by simpa using hb5
       refine A20 ?_;refine Kp 70 h1 ?_;refine A1 ?_;refine r_know 71 (.bool false) rfl (congrArg Value.bool (by simpa using hop1)) ?_;refine A18 ?_;refine El (ι:=Unit) (fun⟨⟩=>([(0,.pointer (some ⟨gc,0,none⟩)),(4,.pointer (some ⟨g0,0,none⟩)),(9,.int .i64 0)],[VK gc (n+1),gB z.T false,XB g0 z],0)) () ?_ (hL:=Weak.auto);rintro⟨⟩;(try dsimp only);refine A7 ?_;refine r_know 81 (.int .i64 (x.args.length:Nat)) rfl (by rw[h5]) ?_;refine A1 ?_;refine r_know 82 (.bool true) rfl (congrArg Value.bool (decide_eq_true (by omega))) ?_;refine A3 ?_;refine Kp 85 h1 ?_;refine A1 ?_;refine r_know 86 (.bool false) rfl (congrArg Value.bool (by simpa using hop2)) ?_;refine A15 ?_;refine Kp 99 h1 ?_;refine A1 ?_;refine r_know 100 (.bool false) rfl (congrArg Value.bool (by simpa using hop3)) ?_;refine A15 ?_;refine Kp 109 h1 ?_;refine A1 ?_;refine r_know 110 (.bool false) rfl (congrArg Value.bool (by simpa using hop4)) ?_;refine A13 ?_;refine Kp 118 h1 ?_;refine A1 ?_;refine r_know 119 (.bool false) rfl (congrArg Value.bool (by simpa using hop5)) ?_;refine A19 ?_;refine at_end1 rfl (res_tmp rfl) (fun w hL=>⟨(),eI (by unfold mnode nodeE;rw[if_neg hn1,if_neg hl1,if_neg (by rw[hcn];omega),if_neg (fun h=>by
 rcases h with h|⟨ha,hb,h⟩|⟨ha,hb,h⟩
 ·exact h hlen
 ·rw[hz] at h;cases h
 ·exact h hnm),if_neg (fun h=>absurd h.1 hop1),if_neg (fun h=>absurd h.1 hop2),if_neg (fun h=>absurd h.1 hop3),if_neg (fun h=>by
 rcases h with h|h
 ·exact absurd h.1 hop4
 ·exact absurd h.1 hop5)]),hL.pk [some 0]⟩)
theorem c_mnode{x:XT}(z:XR x)(hfn:x.name.length≤1000000)(hfu:x.num.fit=true)(lv n gc:Nat)(hn:n≤256)(hlv:lv≤1000):
 ECall Tryz.prog 90 [VK gc n,gB z.T false] [.pointer (some ⟨gc,0,none⟩),z.v,.int .i64 (lv:Nat)] Unit (fun _=> .int .i64 (mnode x lv n:Nat)) (fun _=>[VK gc (n+1)]):=by
 by_cases h1:x.op=1
 ·exact c_mnode_1 z hfn hfu lv n gc hn hlv h1
 by_cases h2:x.op=2
 ·exact c_mnode_2 z hfn hfu lv n gc hn hlv h2
 by_cases h3:x.op=3
 ·exact c_mnode_3 z hfn hfu lv n gc hn hlv h3
 by_cases h4:x.op=4
 ·exact c_mnode_4 z hfn hfu lv n gc hn hlv h4
 by_cases h5:x.op=5
 ·exact c_mnode_5 z hfn hfu lv n gc hn hlv h5
 exact c_mnode_o z hfn hfu lv n gc hn hlv h1 h2 h3 h4 h5
def MckC(y:XT):Prop:=∀(u:XR y),y.fit=true→∀lv n gc:Nat,n≤256→lv≤1000→
 ECall Tryz.prog 50 [VK gc n,gB u.T false] [.pointer (some ⟨gc,0,none⟩),u.v,.int .i64 (lv:Nat)] Unit (fun _=> .int .i64 ((mch y lv n).1:Nat)) (fun _=>[VK gc (mch y lv n).2])
theorem c_mexpr_step{x:XT}(z:XR x)(hf:x.fit=true)(H:∀y:XT,y.size<x.size→MckC y)(lv n gc:Nat)(hn:n≤256)(hlv:lv≤1000):ECall Tryz.prog 50 [VK gc n,gB z.T false] [.pointer (some ⟨gc,0,none⟩),z.v,.int .i64 (lv:Nat)] Unit (fun _=> .int .i64 ((mch x lv n).1:Nat)) (fun _=>[VK gc (mch x lv n).2]):=by
 refine⟨by kernel_rfl,fun B w hD hL0=>?_⟩;obtain⟨h1,h2,h3,h4,h5,h6⟩:=z.inv;have hfp:=XT.fit_parts hf;refine cB3 34 Tryz.func50 hL0 ?_;refine A2 ?_;refine Bo [_,_,_,_,_,_,_] 7 (fun g=>[_,_,⟨some g,30,_,7,true⟩]) (fun g0=>?_);refine A4 ?_;refine at_regionM ?_;refine A1 ?_;refine Ld 2 0 [_,_,_,_,_,_,_] ti30 ?_;refine Kr 10 (z.v) ?_;refine A1 ?_;refine Gm 1 [0] [1] (fun _=>[VK gc (n+1),_,_]) (c_mnode z hfp.1 hfp.2.1 lv n gc hn hlv) (fun _=>?_);refine A10 ?_;refine El (ι:={q:Nat×Nat×Nat // q.1≤x.args.length∧(q.2.2≠0→mch x lv n=(q.2.2,q.2.1))∧(q.2.2=0→q.2.1≤256∧lv≤32∧x.args.length≤3∧mch x lv n=mchs (x.args.drop q.1) (lv+1) q.2.1)}) (fun⟨⟨i,m,e⟩,hi,hI1,hI2⟩=>([(0,.pointer (some ⟨gc,0,none⟩)),(2,.int .i64 (lv:Nat)),(4,.pointer (some ⟨g0,0,none⟩)),(7,.int .i64 (e:Nat)),(8,.int .i64 (i:Nat))],[VK gc m,gB z.T false,XB g0 z],x.args.length-i)) ⟨(0,n+1,mnode x lv n),Nat.zero_le _,fun h=>by rw[mch_eq,if_pos h],fun h=>⟨by have:=mnode_0 h;show n+1≤256;omega,(mnode_0 h).2.1,nodeE_len (mnode_0 h).2.2,by have h:mnode x lv n=0:=h;rw[mch_eq,if_neg (by rw[h];simp),List.drop_zero]⟩⟩ ?_ (hL:=Weak.auto);rintro⟨⟨i,m,e⟩,hi,hI1,hI2⟩;(try dsimp only);dsimp only at hi hI1 hI2;refine A7 ?_;refine r_know 16 (.int .i64 (x.args.length:Nat)) rfl (by rw[h5]) ?_;refine A2 ?_;refine Rs 18 ?_ ?_<;>intro hb1
 ·have hlt:i<x.args.length:=by have:=of_decide_eq_true hb1;omega
  obtain⟨y,hy⟩:∃y,x.args[i]? =some y:=⟨x.args[i],List.getElem?_eq_getElem hlt⟩;obtain⟨ga,oa,ca,u,hza,hma,hra,hTa,hna⟩:=z.arg hy;have hfy:y.fit=true:=XT.fits_get hfp.2.2 hy;refine A5 ?_;refine Cd ?_ ?_<;>intro hb2
  ·have he:e=0:=by have hh:=hb2;simpa using hh
   obtain⟨hm,hl32,hal,hE⟩:=hI2 he;refine A4 ?_;refine at_regionM ?_;refine A4 ?_;refine r_indexAddrG (gg:=ga) (len:=z.n) (cap:=z.cap) (oa+i*7) u28 ti30 rfl rfl (congrArg (fun a=>some (Value.slice a z.n z.cap)) hza) rfl (by omega) (by omega) (by show oa+Int.toNat _*7=_;omega) ?_;refine r_loadT (v:=u.v) 1 (oa+i*7) u.cs rfl rfl rfl z.hT hma hna rfl ti30 hra rfl rfl rfl ?_;refine A1 ?_;refine Ar (((lv+1:Nat):Int)) ?_;refine Gm 1 [0] [1] (fun _=>[VK gc (mch y (lv+1) m).2,_,_]) (by have h:=H y (XT.arg_lt hy) u hfy (lv+1) m gc hm (by omega);rw[hTa] at h;exact h) (fun _=>?_);refine A6 ?_;refine Ar (((i+1:Nat):Int)) ?_;refine A3 ?_;exact Nl ⟨(i+1,(mch y (lv+1) m).2,(mch y (lv+1) m).1),hlt,fun h=>by rw[hE,mchs_step hy,if_pos h],fun h=>⟨mch_le0 y (lv+1) m hm h,hl32,hal,by have h:(mch y (lv+1) m).1=0:=h;rw[hE,mchs_step hy,if_neg (by omega)]⟩⟩ (hL:=Weak.auto)
  ·have he:e≠0:=by have hh:=hb2;simpa using hh
   refine A12 ?_;refine at_end1 rfl (res_tmp rfl) (fun w hL=>by
 have ee:mch x lv n=(e,m):=hI1 he;rw[ee];exact⟨(),rfl,hL.pk [some 0]⟩)
 ·have hge:i=x.args.length:=by have:=of_decide_eq_false hb1;omega
  refine A18 ?_;refine at_end1 rfl (res_tmp rfl) (fun w hL=>by
 have ee:mch x lv n=(e,m):=by
  by_cases h0:e=0
  ·obtain⟨hm,hl32,hal,hE⟩:=hI2 h0;rw[hE,hge,List.drop_length,mchs,h0]
  ·exact hI1 h0
 rw[ee];exact⟨(),rfl,hL.pk [some 0]⟩)
theorem c_mexpr(x:XT)(u:XR x)(hf:x.fit=true)(lv n gc:Nat)(hn:n≤256)(hl:lv≤1000):
 ECall Tryz.prog 50 [VK gc n,gB u.T false] [.pointer (some ⟨gc,0,none⟩),u.v,.int .i64 (lv:Nat)] Unit (fun _=> .int .i64 ((mch x lv n).1:Nat)) (fun _=>[VK gc (mch x lv n).2]):=
 byS (p:=MckC) (fun x H u hf lv n gc hn hl=>c_mexpr_step u hf H lv n gc hn hl) x u hf lv n gc hn hl
theorem c_mcheckExpr{x:XT}(z:XR x)(hf:x.fit=true):ECall Tryz.prog 19 [gB z.T false] [z.v] Unit (fun _=> .int .i64 (chkE x:Nat)) (fun _=>[]):=by
 refine⟨by kernel_rfl,fun B w hD hL0=>?_⟩;refine cB1 9 Tryz.func19 hL0 ?_;refine A2 ?_;refine Bo [_,_,_,_,_,_,_] 7 (fun g=>[_,⟨some g,30,_,7,true⟩]) (fun g0=>?_);refine A5 ?_;refine r_build [] rfl rfl rfl (bd73_0) ?_;refine Bo [_] 1 (fun g=>[_,_,⟨some g,73,_,1,true⟩]) (fun g1=>?_);refine A4 ?_;refine at_regionM ?_;refine A1 ?_;refine Ld 1 0 [_,_,_,_,_,_,_] ti30 ?_;refine Kr 7 (z.v) ?_;refine Gm 1 [2] [0] (fun _=>[_,_,VK g1 (mch x 1 0).2]) (c_mexpr x z hf 1 0 g1 (by decide) (by decide)) (fun _=>?_);refine A4 ?_;refine at_end1 rfl (res_tmp rfl) (fun w hL=>⟨(),eI (mch_chk x 1 0).1,hL.pk []⟩)
theorem c_few_step{x:XT}(z:XR x)(H:∀y:XT,y.size<x.size→FewC y)(lv:Nat)(n:Int)(gv:Nat)(hn:0≤n∧n≤1000000)(hlv:lv≤1000000)(hw:x.lim=true):ECall Tryz.prog 47 [VI gv n,gB z.T false] [z.v,.int .i64 (lv:Nat),.pointer (some ⟨gv,0,none⟩)] Unit (fun _=> .bool (few x lv n).1) (fun _=>[VI gv (few x lv n).2]):=by
 refine⟨by kernel_rfl,fun B w hD hL0=>?_⟩;obtain⟨h1,h2,h3,h4,h5,h6⟩:=z.inv;have hbc:=NumV.bytes_cells h3;have hwx:=XT.lim_parts hw;refine cB3 65 Tryz.func47 hL0 ?_;refine A2 ?_;refine Bo [_,_,_,_,_,_,_] 7 (fun g=>[_,_,⟨some g,30,_,7,true⟩]) (fun g0=>?_);refine A9 ?_;refine Ar ((n-1)) ?_;refine A1 ?_;refine So 0 0 [⟨some gv,3,_,1,true⟩,_,_] [_] ?_;refine A10 ?_;refine Rs 18 ?_ ?_<;>intro hb0
 ·have q0:n-1<0:=by have hh:=of_decide_eq_true hb0;omega
  have hbig:bigX x lv (n-1)=true:=(by unfold bigX;rw[decide_eq_true q0];rfl);refine A39 ?_;refine at_end1 rfl (res_tmp rfl) (fun w hL=>by
 have e:few x lv n=(false,n-1):=(by rw[few_eq,if_pos hbig]);rw[e];exact⟨(),rfl,hL.pk [some 0]⟩)
 ·have q0:¬n-1<0:=by have hh:=of_decide_eq_false hb0;omega
  refine A4 ?_;refine Rs 22 ?_ ?_<;>intro hb1
  ·have q1:40<lv:=by have hh:=of_decide_eq_true hb1;omega
   have hbig:bigX x lv (n-1)=true:=(by unfold bigX;rw[decide_eq_false q0,decide_eq_true q1];rfl);refine A35 ?_;refine at_end1 rfl (res_tmp rfl) (fun w hL=>by
 have e:few x lv n=(false,n-1):=(by rw[few_eq,if_pos hbig]);rw[e];exact⟨(),rfl,hL.pk [some 0]⟩)
  ·have q1:¬40<lv:=by have hh:=of_decide_eq_false hb1;omega
   refine A3 ?_;refine r_know 25 (.int .i64 (x.args.length:Nat)) rfl (by rw[h5]) ?_;refine A3 ?_;refine Rs 28 ?_ ?_<;>intro hb2
   ·have q2:4<x.args.length:=by have hh:=of_decide_eq_true hb2;omega
    have hbig:bigX x lv (n-1)=true:=(by unfold bigX;rw[decide_eq_false q0,decide_eq_false q1,decide_eq_true q2];rfl);refine A29 ?_;refine at_end1 rfl (res_tmp rfl) (fun w hL=>by
 have e:few x lv n=(false,n-1):=(by rw[few_eq,if_pos hbig]);rw[e];exact⟨(),rfl,hL.pk [some 0]⟩)
   ·have q2:¬4<x.args.length:=by have hh:=of_decide_eq_false hb2;omega
    refine A3 ?_;refine r_know 31 (.int .i64 (x.name.length:Nat)) rfl (by rw[h2,strU_size]) ?_;refine A3 ?_;refine Rs 34 ?_ ?_<;>intro hb3
    ·have q3:60<x.name.length:=by have hh:=of_decide_eq_true hb3;omega
     have hbig:bigX x lv (n-1)=true:=(by unfold bigX;rw[decide_eq_false q0,decide_eq_false q1,decide_eq_false q2,decide_eq_true q3];rfl);refine A23 ?_;refine at_end1 rfl (res_tmp rfl) (fun w hL=>by
 have e:few x lv n=(false,n-1):=(by rw[few_eq,if_pos hbig]);rw[e];exact⟨(),rfl,hL.pk [some 0]⟩)
    ·have q3:¬60<x.name.length:=by have hh:=of_decide_eq_false hb3;omega
     refine A5 ?_;refine Kr 39 (.int .i64 (z.s1.size:Nat)) ?_;refine A5 ?_;refine Kr 44 (.int .i64 (z.s2.size:Nat)) ?_;refine Ar (((x.num.bytes:Nat):Int)) ?_;refine A4 ?_;refine Cd ?_ ?_<;>intro hb4
     ·have q4:20<x.num.bytes:=by have hh:=of_decide_eq_true hb4;omega
      have hbig:bigX x lv (n-1)=true:=(by unfold bigX;rw[decide_eq_false q0,decide_eq_false q1,decide_eq_false q2,decide_eq_false q3,decide_eq_true q4];rfl);refine A7 ?_;refine at_end1 rfl (res_tmp rfl) (fun w hL=>by
 have e:few x lv n=(false,n-1):=(by rw[few_eq,if_pos hbig]);rw[e];exact⟨(),rfl,hL.pk [some 0]⟩)
     ·have q4:¬20<x.num.bytes:=by have hh:=of_decide_eq_false hb4;omega
      have hbig:¬bigX x lv (n-1)=true:=(by unfold bigX;rw[decide_eq_false q0,decide_eq_false q1,decide_eq_false q2,decide_eq_false q3,decide_eq_false q4];decide);refine A9 ?_;refine El (ι:={q:Nat×Int // q.1≤x.args.length∧fews x.args (lv+1) (n-1)=fews (x.args.drop q.1) (lv+1) q.2∧0≤q.2∧q.2≤n}) (fun⟨⟨i,m⟩,hi,hI,hm0,hmn⟩=>([(1,.int .i64 (lv:Nat)),(2,.pointer (some ⟨gv,0,none⟩)),(3,.pointer (some ⟨g0,0,none⟩)),(7,.int .i64 (i:Nat))],[VI gv m,gB z.T false,XB g0 z],x.args.length-i)) ⟨(0,n-1),Nat.zero_le _,by rw[List.drop_zero],by omega,by omega⟩ ?_ (hL:=Weak.auto);rintro⟨⟨i,m⟩,hi,hI,hm0,hmn⟩;(try dsimp only);dsimp only at hi hI hm0 hmn;refine A7 ?_;refine r_know 51 (.int .i64 (x.args.length:Nat)) rfl (by rw[h5]) ?_;refine A3 ?_;refine Cd ?_ ?_<;>intro hb6
      ·have hlt:i<x.args.length:=by have:=of_decide_eq_true hb6;omega
       obtain⟨y,hy⟩:∃y,x.args[i]? =some y:=⟨x.args[i],List.getElem?_eq_getElem hlt⟩;obtain⟨ga,oa,ca,u,hza,hma,hra,hTa,hna⟩:=z.arg hy;refine A5 ?_;refine at_regionM ?_;refine A3 ?_;refine r_indexAddrG (gg:=ga) (len:=z.n) (cap:=z.cap) (oa+i*7) u28 ti30 rfl rfl (congrArg (fun a=>some (Value.slice a z.n z.cap)) hza) rfl (by omega) (by omega) (by show oa+Int.toNat _*7=_;omega) ?_;refine r_loadT (v:=u.v) 1 (oa+i*7) u.cs rfl rfl rfl z.hT hma hna rfl ti30 hra rfl rfl rfl ?_;refine A1 ?_;refine Ar (((lv+1:Nat):Int)) ?_;refine A1 ?_;refine Gm 1 [0] [1] (fun _=>[VI gv (few y (lv+1) m).2,_,_]) (by have h:=H y (XT.arg_lt hy) u (lv+1) m gv ⟨hm0,by omega⟩ (by omega) (XT.lims_get hwx.2.2 hy);rw[hTa] at h;exact h) (fun _=>?_);refine A3 ?_;refine Cd ?_ ?_<;>intro hb7
       ·have hey:(few y (lv+1) m).1=false:=by simpa using hb7
        refine A11 ?_;refine at_end1 rfl (res_tmp rfl) (fun w hL=>by
 have e:few x lv n=few y (lv+1) m:=(by rw[few_eq,if_neg hbig,hI,fews_step hy,if_neg (by rw[hey];decide)]);rw[e];exact⟨(),by rw[hey],hL.pk [some 0]⟩)
       ·have hey:(few y (lv+1) m).1=true:=by simpa using hb7
        refine A5 ?_;refine Ar (((i+1:Nat):Int)) ?_;refine A3 ?_;exact Nl ⟨(i+1,(few y (lv+1) m).2),hlt,by rw[hI,fews_step hy,if_pos hey],(few_ok _ _ _ hey).2.2.1,Int.le_trans (few_le _ _ _ hey) hmn⟩ (hL:=Weak.auto)
      ·have hge:i=x.args.length:=by have:=of_decide_eq_false hb6;omega
       refine A11 ?_;refine at_end1 rfl (res_tmp rfl) (fun w hL=>by
 have e:few x lv n=(true,m):=(by rw[few_eq,if_neg hbig,hI,hge,List.drop_length,fews]);rw[e];exact⟨(),rfl,hL.pk [some 0]⟩)
theorem c_few(x:XT):FewC x:=byS (fun x H u lv n gv hn hl hw=>c_few_step u H lv n gv hn hl hw) x
theorem c_small{x:XT}(z:XR x)(hw:x.lim=true):ECall Tryz.prog 17 [gB z.T false] [z.v] Unit (fun _=> .bool (few x 1 300).1) (fun _=>[]):=by
 refine⟨by kernel_rfl,fun B w hD hL0=>?_⟩;refine cB1 6 Tryz.func17 hL0 ?_;refine A2 ?_;refine Bo [_,_,_,_,_,_,_] 7 (fun g=>[_,⟨some g,30,_,7,true⟩]) (fun g0=>?_);refine A5 ?_;refine r_alloc [_] 1 (fun g=>[_,_,⟨some g,3,_,1,true⟩]) rfl rfl z3 rfl rfl (fun _=>rfl) (fun g1=>?_);refine So 2 0 [_,_,⟨some g1,3,_,1,true⟩] [_] ?_;refine A3 ?_;refine at_regionM ?_;refine Ld 1 0 [_,_,_,_,_,_,_] ti30 ?_;refine Kr 4 (z.v) ?_;refine Gm 1 [2] [0] (fun _=>[_,_,VI g1 (few x 1 300).2]) (c_few x z 1 300 g1 (by decide) (by decide) hw) (fun _=>?_);refine A4 ?_;refine E1 fun w hL=>⟨(),rfl,hL.pk []⟩
end Go.Proofs.YtfijbadahkmhbaaGreatDoor
namespace Go.Via
open Go Go.RowKit
instance srw_ne(l:List Bs8):Nonempty (SRw l):=⟨⟨none,l.length,l.length,Nat.le_refl _,Nat.le_refl _⟩⟩
end Go.Via
namespace Go.Proofs.YtfijbadahkmhbaaGreatDoor
open Go Go.RowKit Go.Via
theorem c_mvars(x:XT)(u:XR x)(hM:x.size≤1000000):ECall Tryz.prog 26 [gB u.T false] [u.v] (SRw (mvars x)) (fun s=>slv s.b 0 (mvars x).length s.cap) (fun s=>[VR s]):=
 byS (p:=MvaC) (fun x H u hM=>c_mvars_step u H hM) x u hM
theorem c_law_check(kind:Int)(hk: -9223372036854775808≤kind∧kind≤9223372036854775807)(b:Option Nat)(e:Nat)(pre:List Value)(l:List Bs8)(n cap:Nat)(hll:l.length≤1000000)(hvl:∀v∈l,v.length≤1000000){x:XT}(z:XR x)(hf:x.fit=true)(hM:x.size≤1000000):ECall Tryz.prog 27 [VBk b e pre l n,gB z.T false] [QV kind b pre l cap z] Unit (fun _=> .int .i64 (chkQ kind l x:Nat)) (fun _=>[]):=by
 refine⟨by kernel_rfl,fun B w hD hL0=>?_⟩
 have hvx:(varsU x).length≤1000000:=(by rw[←mvars_U];exact Nat.le_trans (mvars_len x) hM);refine cB1 74 Tryz.func27 hL0 ?_;refine A2 ?_;refine Bo [_,_,_,_,_,_,_,_,_] 9 (fun g=>[_,_,⟨some g,39,_,9,true⟩]) (fun g0=>?_);refine A10 ?_;refine Rs 10 ?_ ?_<;>intro hb0
 ·have k1:kind<1:=of_decide_eq_true hb0;refine A14 ?_;refine at_end1 rfl (res_tmp rfl) (fun w hL=>⟨(),eI (by unfold chkQ;rw[if_pos (.inl k1)]),hL.pk []⟩)
 ·have k1:¬kind<1:=of_decide_eq_false hb0;refine A6 ?_;refine Cd ?_ ?_<;>intro hb1
  ·have k3:3<kind:=of_decide_eq_true hb1;refine A7 ?_;refine at_end1 rfl (res_tmp rfl) (fun w hL=>⟨(),eI (by unfold chkQ;rw[if_pos (.inr k3)]),hL.pk []⟩)
  ·have k3:¬3<kind:=of_decide_eq_false hb1;refine A10 ?_;refine r_arith (r:=kind-1) rfl rfl rfl rfl (congrArg some (by rw[IntKind.wrap_i64];omega)) ?_;refine A3 ?_;refine Cd ?_ ?_<;>intro hb2
   ·have kl:((l.length:Nat):Int)≠kind-1:=by simpa using hb2
    refine A7 ?_;refine at_end1 rfl (res_tmp rfl) (fun w hL=>⟨(),eI (by unfold chkQ;rw[if_neg (fun h=>h.elim k1 k3),if_pos kl]),hL.pk []⟩)
   ·have kl:((l.length:Nat):Int)=kind-1:=by simpa using hb2
    refine A9 ?_;refine El (ι:={i:Nat // i≤l.length∧(l.take i).all nameL=true}) (fun⟨i,hi,hI⟩=>([(1,.pointer (some ⟨g0,0,none⟩)),(3,.int .i64 (i:Nat))],[VBk b e pre l n,gB z.T false,QBx g0 kind b pre l cap z],l.length-i)) ⟨0,Nat.zero_le _,rfl⟩ ?_ (hL:=Weak.auto);rintro⟨i,hi,hI⟩;(try dsimp only);refine A10 ?_;refine Cd ?_ ?_<;>intro hb4
    ·have hlt:i<l.length:=(by have:=of_decide_eq_true hb4;omega);obtain⟨v,hv⟩:∃v,l[i]? =some v:=⟨l[i],List.getElem?_eq_getElem hlt⟩;refine A9 ?_;refine r_indexAddr 0 (pre.length+i*1) u36 ti9 rfl rfl rfl rfl rfl (by omega) (by omega) (pre_ne (SB_ne (by omega))) (by show pre.length+Int.toNat _*1=_;omega) ?_;refine r_load (v:= .string (strU v)) 0 (pre.length+i*1) _ rfl rfl rfl rfl ti9 (pre_get (SB_get hv) rfl) rfl (by decide) rfl ?_;refine Pc (c_law_isName v (hvl v (List.mem_of_getElem? hv))) ?_;refine r_know 34 (.bool (nameL v)) rfl (by rw[name_same]) ?_;refine A3 ?_;refine Cd ?_ ?_<;>intro hb5
     ·have hnv:nameL v=false:=by simpa using hb5
      refine A11 ?_;refine at_end1 rfl (res_tmp rfl) (fun w hL=>⟨(),eI (by unfold chkQ;rw[if_neg (fun h=>h.elim k1 k3),if_neg (fun h=>h kl),if_pos (all_false_at hv hnv)]),hL.pk []⟩)
     ·have hnv:nameL v=true:=by simpa using hb5
      refine A5 ?_;refine Ar (((i+1:Nat):Int)) ?_;refine A3 ?_;exact Nl ⟨i+1,hlt,all_step hI hv hnv⟩ (hL:=Weak.auto)
    ·have hge:l.length≤i:=by have:=(by have:=of_decide_eq_false hb4;omega);omega
     have hN:=all_full hI hge;refine A7 ?_;refine at_drawnI [] mixed (by kernel_rfl) (by kernel_rfl) ?_;refine A5 ?_;refine Rs 40 ?_ ?_<;>intro hb5
     ·have k2:l.length=2:=by have:=eq_of_beq hb5;omega
      obtain⟨v0,hv0⟩:∃v,l[0]? =some v:=⟨l[0]'(by omega),List.getElem?_eq_getElem _⟩;obtain⟨v1,hv1⟩:∃v,l[1]? =some v:=⟨l[1]'(by omega),List.getElem?_eq_getElem _⟩;refine A2 ?_;refine r_indexAddr 0 (pre.length+0*1) u36 ti9 rfl rfl rfl rfl rfl (by omega) (by omega) (pre_ne (SB_ne (by omega))) (by show pre.length+Int.toNat _*1=_;omega) ?_;refine r_load (v:= .string (strU v0)) 0 (pre.length+0*1) _ rfl rfl rfl rfl ti9 (pre_get (SB_get hv0) rfl) rfl (by decide) rfl ?_;refine A2 ?_;refine r_indexAddr 0 (pre.length+1*1) u36 ti9 rfl rfl rfl rfl rfl (by omega) (by omega) (pre_ne (SB_ne (by omega))) (by show pre.length+Int.toNat _*1=_;omega) ?_;refine r_load (v:= .string (strU v1)) 0 (pre.length+1*1) _ rfl rfl rfl rfl ti9 (pre_get (SB_get hv1) rfl) rfl (by decide) rfl ?_;refine A4 ?_;refine Cd ?_ ?_<;>intro hb6
      ·have ke:(v0==v1)=true:=by have hh:=hb6;rw[strU_beq] at hh;exact hh
       refine A7 ?_;refine at_end1 rfl (res_tmp rfl) (fun w hL=>⟨(),eI (by unfold chkQ;rw[if_neg (fun h=>h.elim k1 k3),if_neg (fun h=>h kl),if_neg (by rw[hN];simp),if_pos ⟨k2,by rw[hv0,hv1];simpa using ke⟩]),hL.pk []⟩)
      ·have ke:(v0==v1)=false:=by have hh:=hb6;rw[strU_beq] at hh;exact hh
       refine A6 ?_;refine Ld 2 2 [_,_,_,_,_,_,_] ti30 ?_;refine Kr 52 (z.v) ?_;refine r_scall0 [z.v] [1] rfl rfl rfl (ECall.toS (c_mcheckExpr z hf)) ⟨⟨_,rfl,Blk.le_refl _⟩,trivial⟩ rfl ?_;refine A9 ?_;refine Cd ?_ ?_<;>intro hb7
       ·have kc:chkE x≠0:=by simpa using hb7
        refine A8 ?_;refine at_end1 rfl (res_tmp rfl) (fun w hL=>⟨(),eI (by unfold chkQ;rw[if_neg (fun h=>h.elim k1 k3),if_neg (fun h=>h kl),if_neg (by rw[hN];simp),if_neg (fun h=>by have h2:=h.2;rw[hv0,hv1] at h2;rw[Option.some.inj h2,beq_self_eq_true] at ke;cases ke),if_pos kc]),hL.pk []⟩)
       ·have kc:chkE x=0:=by simpa using hb7
        refine A5 ?_;refine Ld 2 2 [_,_,_,_,_,_,_] ti30 ?_;refine Kr 58 (z.v) ?_;refine r_scall [z.v] [1] rfl rfl rfl (ECall.toS (c_mvars x z hM)) ⟨⟨_,rfl,Blk.le_refl _⟩,trivial⟩ rfl (.inr fun x b hb=>by rw[List.mem_singleton.1 hb]) (fun s=>?_);refine r_know 59 (slv s.b 0 (varsU x).length s.cap) rfl (congrArg (fun l:List Bs8=>slv s.b 0 l.length s.cap) (mvars_U x)) ?_;refine A10 ?_;refine El (ι:={i:Nat // i≤(varsU x).length∧((varsU x).take i).all l.contains=true}) (fun⟨i,hi,hI⟩=>([(1,.pointer (some ⟨g0,0,none⟩)),(5,slv s.b 0 (varsU x).length s.cap),(6,.int .i64 (i:Nat))],[VBk b e pre l n,gB z.T false,QBx g0 kind b pre l cap z,⟨s.b,9,SB (varsU x),s.n,true⟩],(varsU x).length-i)) ⟨0,Nat.zero_le _,rfl⟩ ?_ (hL:=(weak_picks [some 0,some 1,some 2,some 3] ⟨⟨_,rfl,Blk.le_refl _⟩,⟨_,rfl,Blk.le_refl _⟩,⟨_,rfl,Blk.le_refl _⟩,⟨_,rfl,le_same (congrArg (fun c=>(⟨s.b,9,SB c,s.n,true⟩:Blk)) (mvars_U x).symm)⟩,trivial⟩ rfl rfl));rintro⟨i,hi,hI⟩;(try dsimp only);refine A9 ?_;refine Cd ?_ ?_<;>intro hb9
        ·have hlt:i<(varsU x).length:=(by have:=of_decide_eq_true hb9;omega);obtain⟨u,hu⟩:∃v,(varsU x)[i]? =some v:=⟨(varsU x)[i],List.getElem?_eq_getElem hlt⟩;refine A5 ?_;refine at_drawnI [] mixed (by kernel_rfl) (by kernel_rfl) ?_;refine A4 ?_;refine Ix 3 (i*1) ?_;refine r_load (v:= .string (strU u)) 3 (i*1) _ rfl rfl rfl rfl ti9 (SB_get hu) rfl (by decide) rfl ?_;refine r_scall0 [_,.string (strU u)] [0] rfl rfl rfl (ECall.toS (c_law_has b e pre l n cap (by omega) u)) ⟨⟨_,rfl,Blk.le_refl _⟩,trivial⟩ rfl ?_;refine A3 ?_;refine Cd ?_ ?_<;>intro hb10
         ·have huc:l.contains u=false:=by simpa using hb10
          refine A11 ?_;refine at_end1 rfl (res_tmp rfl) (fun w hL=>⟨(),eI (by unfold chkQ;rw[if_neg (fun h=>h.elim k1 k3),if_neg (fun h=>h kl),if_neg (by rw[hN];simp),if_neg (fun h=>by have h2:=h.2;rw[hv0,hv1] at h2;rw[Option.some.inj h2,beq_self_eq_true] at ke;cases ke),if_neg (fun h=>h kc),if_pos (all_false_at hu huc)]),hL.pk []⟩)
         ·have huc:l.contains u=true:=by simpa using hb10
          refine A5 ?_;refine Ar (((i+1:Nat):Int)) ?_;refine A3 ?_;exact Nl ⟨i+1,hlt,all_step hI hu huc⟩ (hL:=Weak.auto)
        ·have hge:(varsU x).length≤i:=by have:=(by have:=of_decide_eq_false hb9;omega);omega
         have hV:=all_full hI hge;refine A11 ?_;refine at_end1 rfl (res_tmp rfl) (fun w hL=>⟨(),eI (by unfold chkQ;rw[if_neg (fun h=>h.elim k1 k3),if_neg (fun h=>h kl),if_neg (by rw[hN];simp),if_neg (fun h=>by have h2:=h.2;rw[hv0,hv1] at h2;rw[Option.some.inj h2,beq_self_eq_true] at ke;cases ke),if_neg (fun h=>h kc),if_neg (by rw[hV];simp)]),hL.pk []⟩)
     ·have k2:l.length≠2:=by have:=ne_of_beq_false hb5;omega
      refine A19 ?_;refine Ld 2 2 [_,_,_,_,_,_,_] ti30 ?_;refine Kr 52 (z.v) ?_;refine r_scall0 [z.v] [1] rfl rfl rfl (ECall.toS (c_mcheckExpr z hf)) ⟨⟨_,rfl,Blk.le_refl _⟩,trivial⟩ rfl ?_;refine A9 ?_;refine Cd ?_ ?_<;>intro hb6
      ·have kc:chkE x≠0:=by simpa using hb6
       refine A8 ?_;refine at_end1 rfl (res_tmp rfl) (fun w hL=>⟨(),eI (by unfold chkQ;rw[if_neg (fun h=>h.elim k1 k3),if_neg (fun h=>h kl),if_neg (by rw[hN];simp),if_neg (fun h=>k2 h.1),if_pos kc]),hL.pk []⟩)
      ·have kc:chkE x=0:=by simpa using hb6
       refine A5 ?_;refine Ld 2 2 [_,_,_,_,_,_,_] ti30 ?_;refine Kr 58 (z.v) ?_;refine r_scall [z.v] [1] rfl rfl rfl (ECall.toS (c_mvars x z hM)) ⟨⟨_,rfl,Blk.le_refl _⟩,trivial⟩ rfl (.inr fun x b hb=>by rw[List.mem_singleton.1 hb]) (fun s=>?_);refine r_know 59 (slv s.b 0 (varsU x).length s.cap) rfl (congrArg (fun l:List Bs8=>slv s.b 0 l.length s.cap) (mvars_U x)) ?_;refine A10 ?_;refine El (ι:={i:Nat // i≤(varsU x).length∧((varsU x).take i).all l.contains=true}) (fun⟨i,hi,hI⟩=>([(1,.pointer (some ⟨g0,0,none⟩)),(5,slv s.b 0 (varsU x).length s.cap),(6,.int .i64 (i:Nat))],[VBk b e pre l n,gB z.T false,QBx g0 kind b pre l cap z,⟨s.b,9,SB (varsU x),s.n,true⟩],(varsU x).length-i)) ⟨0,Nat.zero_le _,rfl⟩ ?_ (hL:=(weak_picks [some 0,some 1,some 2,some 3] ⟨⟨_,rfl,Blk.le_refl _⟩,⟨_,rfl,Blk.le_refl _⟩,⟨_,rfl,Blk.le_refl _⟩,⟨_,rfl,le_same (congrArg (fun c=>(⟨s.b,9,SB c,s.n,true⟩:Blk)) (mvars_U x).symm)⟩,trivial⟩ rfl rfl));rintro⟨i,hi,hI⟩;(try dsimp only);refine A9 ?_;refine Cd ?_ ?_<;>intro hb8
       ·have hlt:i<(varsU x).length:=(by have:=of_decide_eq_true hb8;omega);obtain⟨u,hu⟩:∃v,(varsU x)[i]? =some v:=⟨(varsU x)[i],List.getElem?_eq_getElem hlt⟩;refine A5 ?_;refine at_drawnI [] mixed (by kernel_rfl) (by kernel_rfl) ?_;refine A4 ?_;refine Ix 3 (i*1) ?_;refine r_load (v:= .string (strU u)) 3 (i*1) _ rfl rfl rfl rfl ti9 (SB_get hu) rfl (by decide) rfl ?_;refine r_scall0 [_,.string (strU u)] [0] rfl rfl rfl (ECall.toS (c_law_has b e pre l n cap (by omega) u)) ⟨⟨_,rfl,Blk.le_refl _⟩,trivial⟩ rfl ?_;refine A3 ?_;refine Cd ?_ ?_<;>intro hb9
        ·have huc:l.contains u=false:=by simpa using hb9
         refine A11 ?_;refine at_end1 rfl (res_tmp rfl) (fun w hL=>⟨(),eI (by unfold chkQ;rw[if_neg (fun h=>h.elim k1 k3),if_neg (fun h=>h kl),if_neg (by rw[hN];simp),if_neg (fun h=>k2 h.1),if_neg (fun h=>h kc),if_pos (all_false_at hu huc)]),hL.pk []⟩)
        ·have huc:l.contains u=true:=by simpa using hb9
         refine A5 ?_;refine Ar (((i+1:Nat):Int)) ?_;refine A3 ?_;exact Nl ⟨i+1,hlt,all_step hI hu huc⟩ (hL:=Weak.auto)
       ·have hge:(varsU x).length≤i:=by have:=(by have:=of_decide_eq_false hb8;omega);omega
        have hV:=all_full hI hge;refine A11 ?_;refine at_end1 rfl (res_tmp rfl) (fun w hL=>⟨(),eI (by unfold chkQ;rw[if_neg (fun h=>h.elim k1 k3),if_neg (fun h=>h kl),if_neg (by rw[hN];simp),if_neg (fun h=>k2 h.1),if_neg (fun h=>h kc),if_neg (by rw[hV];simp)]),hL.pk []⟩)
theorem c_law_printed_1(b:Option Nat)(e:Nat)(pre:List Value)(n cap:Nat){x:XT}(z:XR x)(hk:okX x)(hf:x.fit=true)(hb:(headS 1++txt x 1).length≤17179869184):ECall Tryz.prog 30 [VBk b e pre [] n,gB z.T false] [QV 1 b pre [] cap z] Unit (fun _=> .string (strU (headS 1++txt x 1))) (fun _=>[]):=by
 refine⟨by kernel_rfl,fun B w hD hL0=>?_⟩;have hbl:=hb;simp only[List.length_append,List.length_cons,List.length_nil] at hbl;refine cB1 39 Tryz.func30 hL0 ?_;refine A2 ?_;refine Bo [_,_,_,_,_,_,_,_,_] 9 (fun g=>[_,_,⟨some g,39,_,9,true⟩]) (fun g0=>?_);refine A14 ?_;refine Kr 6 (.bool false) ?_;refine A7 ?_;refine Kr 18 (.bool false) ?_;refine A10 ?_;refine Ld 2 2 [_,_,_,_,_,_,_] ti30 ?_;refine Kr 36 (z.v) ?_;refine r_scall0 [z.v] [1] rfl rfl rfl (ECall.toS (c_text x z hk hf (by omega))) ⟨⟨_,rfl,Blk.le_refl _⟩,trivial⟩ rfl ?_;refine r_addS (p:=headS 1) (q:=txt x 1) rfl rfl rfl rfl rfl rfl rfl (by(try simp only[List.length_append,List.length_cons,List.length_nil]);omega) ?_;refine A4 ?_;refine E1 fun w hL=>⟨(),rfl,hL.pk []⟩
theorem c_law_printed_2(b:Option Nat)(e:Nat)(pre:List Value)(n cap:Nat)(v0:Bs8){x:XT}(z:XR x)(hk:okX x)(hf:x.fit=true)(hb:(headS 2++v0++sWhere++txt x 1).length≤17179869184):ECall Tryz.prog 30 [VBk b e pre [v0] n,gB z.T false] [QV 2 b pre [v0] cap z] Unit (fun _=> .string (strU (headS 2++v0++sWhere++txt x 1))) (fun _=>[]):=by
 refine⟨by kernel_rfl,fun B w hD hL0=>?_⟩;have hbl:=hb;simp only[List.length_append,List.length_cons,List.length_nil] at hbl;refine cB1 39 Tryz.func30 hL0 ?_;refine A2 ?_;refine Bo [_,_,_,_,_,_,_,_,_] 9 (fun g=>[_,_,⟨some g,39,_,9,true⟩]) (fun g0=>?_);refine A14 ?_;refine Kr 6 (.bool true) ?_;refine A5 ?_;refine at_drawnI [] mixed (by kernel_rfl) (by kernel_rfl) ?_;refine A2 ?_;refine r_indexAddr 0 (pre.length+0*1) u36 ti9 rfl rfl rfl rfl rfl (by simp) (by simp) (pre_ne (SB_ne (by simp))) (by show pre.length+Int.toNat _*1=_;rfl) ?_;refine r_load (v:= .string (strU v0)) 0 (pre.length+0*1) _ rfl rfl rfl rfl ti9 (pre_get (SB_get rfl) rfl) rfl (by decide) rfl ?_;refine r_addS (p:=headS 2) (q:=v0) rfl rfl rfl rfl rfl rfl rfl (by(try simp only[List.length_append,List.length_cons,List.length_nil]);omega) ?_;refine r_addS (p:=headS 2++v0) (q:=sWhere) rfl rfl rfl rfl rfl rfl rfl (by(try simp only[List.length_append,List.length_cons,List.length_nil]);omega) ?_;refine A1 ?_;refine Ld 2 2 [_,_,_,_,_,_,_] ti30 ?_;refine Kr 14 (z.v) ?_;refine r_scall0 [z.v] [1] rfl rfl rfl (ECall.toS (c_text x z hk hf (by omega))) ⟨⟨_,rfl,Blk.le_refl _⟩,trivial⟩ rfl ?_;refine r_addS (p:=headS 2++v0++sWhere) (q:=txt x 1) rfl rfl rfl rfl rfl rfl rfl (by(try simp only[List.length_append,List.length_cons,List.length_nil]);omega) ?_;refine A6 ?_;refine E1 fun w hL=>⟨(),rfl,hL.pk []⟩
theorem c_law_printed_3(b:Option Nat)(e:Nat)(pre:List Value)(n cap:Nat)(v0 v1:Bs8){x:XT}(z:XR x)(hk:okX x)(hf:x.fit=true)(hb:(headS 3++v0++[44,32]++v1++sWhere++txt x 1).length≤17179869184):ECall Tryz.prog 30 [VBk b e pre [v0,v1] n,gB z.T false] [QV 3 b pre [v0,v1] cap z] Unit (fun _=> .string (strU (headS 3++v0++[44,32]++v1++sWhere++txt x 1))) (fun _=>[]):=by
 refine⟨by kernel_rfl,fun B w hD hL0=>?_⟩;have hbl:=hb;simp only[List.length_append,List.length_cons,List.length_nil] at hbl;refine cB1 39 Tryz.func30 hL0 ?_;refine A2 ?_;refine Bo [_,_,_,_,_,_,_,_,_] 9 (fun g=>[_,_,⟨some g,39,_,9,true⟩]) (fun g0=>?_);refine A14 ?_;refine Kr 6 (.bool false) ?_;refine A7 ?_;refine Kr 18 (.bool true) ?_;refine A5 ?_;refine at_drawnI [] mixed (by kernel_rfl) (by kernel_rfl) ?_;refine A2 ?_;refine r_indexAddr 0 (pre.length+0*1) u36 ti9 rfl rfl rfl rfl rfl (by simp) (by simp) (pre_ne (SB_ne (by simp))) (by show pre.length+Int.toNat _*1=_;rfl) ?_;refine r_load (v:= .string (strU v0)) 0 (pre.length+0*1) _ rfl rfl rfl rfl ti9 (pre_get (SB_get rfl) rfl) rfl (by decide) rfl ?_;refine r_addS (p:=headS 3) (q:=v0) rfl rfl rfl rfl rfl rfl rfl (by(try simp only[List.length_append,List.length_cons,List.length_nil]);omega) ?_;refine r_addS (p:=headS 3++v0) (q:=[44,32]) rfl rfl rfl rfl rfl rfl rfl (by(try simp only[List.length_append,List.length_cons,List.length_nil]);omega) ?_;refine A2 ?_;refine r_indexAddr 0 (pre.length+1*1) u36 ti9 rfl rfl rfl rfl rfl (by simp) (by simp) (pre_ne (SB_ne (by simp))) (by show pre.length+Int.toNat _*1=_;rfl) ?_;refine r_load (v:= .string (strU v1)) 0 (pre.length+1*1) _ rfl rfl rfl rfl ti9 (pre_get (SB_get rfl) rfl) rfl (by decide) rfl ?_;refine r_addS (p:=headS 3++v0++[44,32]) (q:=v1) rfl rfl rfl rfl rfl rfl rfl (by(try simp only[List.length_append,List.length_cons,List.length_nil]);omega) ?_;refine r_addS (p:=headS 3++v0++[44,32]++v1) (q:=sWhere) rfl rfl rfl rfl rfl rfl rfl (by(try simp only[List.length_append,List.length_cons,List.length_nil]);omega) ?_;refine A1 ?_;refine Ld 2 2 [_,_,_,_,_,_,_] ti30 ?_;refine Kr 32 (z.v) ?_;refine r_scall0 [z.v] [1] rfl rfl rfl (ECall.toS (c_text x z hk hf (by omega))) ⟨⟨_,rfl,Blk.le_refl _⟩,trivial⟩ rfl ?_;refine r_addS (p:=headS 3++v0++[44,32]++v1++sWhere) (q:=txt x 1) rfl rfl rfl rfl rfl rfl rfl (by(try simp only[List.length_append,List.length_cons,List.length_nil]);omega) ?_;refine A6 ?_;refine E1 fun w hL=>⟨(),rfl,hL.pk []⟩
theorem chkQ_len{kind:Int}{l:List Bs8}{x:XT}(h:chkQ kind l x=0):((l.length:Nat):Int)=kind-1:=by
 unfold chkQ at h
 split at h
 ·cases h
 split at h
 ·cases h
 rename_i h2
 by_cases e:((l.length:Nat):Int)=kind-1
 ·exact e
 ·exact absurd e h2
theorem c_law_printed(kind:Int)(b:Option Nat)(e:Nat)(pre:List Value)(l:List Bs8)(n cap:Nat){x:XT}(z:XR x)(hq:chkQ kind l x=0)(hk:okX x)(hf:x.fit=true)(hb:(headT kind l++txt x 1).length≤17179869184):
 ECall Tryz.prog 30 [VBk b e pre l n,gB z.T false] [QV kind b pre l cap z] Unit (fun _=> .string (strU (headT kind l++txt x 1))) (fun _=>[]):=by
 have hl:=chkQ_len hq
 obtain⟨⟨h1,h3⟩,_⟩:=chkQ_kind hq
 match l,hl,hb with
 |[],hl,hb=>
  obtain rfl:kind=1:=by simp at hl;omega
  exact c_law_printed_1 b e pre n cap z hk hf hb
 |[v0],hl,hb=>
  obtain rfl:kind=2:=by simp at hl;omega
  have ee:headS 2++v0++sWhere++txt x 1=headT 2 [v0]++txt x 1:=by show _=(headS 2++(v0++sWhere))++txt x 1;simp
  rw[←ee] at hb ⊢
  exact c_law_printed_2 b e pre n cap v0 z hk hf hb
 |[v0,v1],hl,hb=>
  obtain rfl:kind=3:=by simp at hl;omega
  have ee:headS 3++v0++[44,32]++v1++sWhere++txt x 1=headT 3 [v0,v1]++txt x 1:=by
   have hj:joinC [v0,v1]=v0++[44,32]++v1:=by simp[joinC]
   show _=(headS 3++(joinC [v0,v1]++sWhere))++txt x 1
   rw[hj];simp
  rw[←ee] at hb ⊢
  exact c_law_printed_3 b e pre n cap v0 v1 z hk hf hb
 |_::_::_::r,hl,hb=>simp at hl;omega
theorem headT_len{kind:Int}{l:List Bs8}(h1:1≤kind)(h3:kind≤3)(hl:l.length≤4)(hv:∀v∈l,v.length≤60):(headT kind l).length≤1000:=by
 have hs:(headS kind).length≤20:=by
  have h:kind=1∨kind=2∨kind=3:=by omega
  rcases h with rfl|rfl|rfl<;>decide
 unfold headT
 split
 ·omega
 ·rw[List.length_append,List.length_append]
  have hj:=joinC_len l
  have hw:sWhere.length≤20:=by decide
  have hsum:∀l:List Bs8,(∀v∈l,v.length≤60)→(l.map fun t=>t.length+2).sum≤62*l.length:=by
   intro l
   induction l with
   |nil=>intro _;simp
   |cons a l ih=>
    intro h
    have:=ih fun v hv=>h v (List.mem_cons_of_mem _ hv)
    have:=h a (by simp)
    simp only[List.map_cons,List.sum_cons,List.length_cons];omega
  have:=hsum l hv
  omega
theorem c_SyntaxQueries(m:Int)(kind:Int)(b:Option Nat)(e:Nat)(pre:List Value)(l:List Bs8)(n cap:Nat){x:XT}(z:XR x)(hw:x.lim=true)(hk1: -9223372036854775808≤kind)(hk2:kind≤9223372036854775807)(hcap:l.length≤cap):ECall Tryz.prog 5 [GM m,VBk b e pre l n,gB z.T false] [QV kind b pre l cap z] Unit (fun _=> .bool true) (fun _=>[]):=by
 refine⟨by kernel_rfl,fun B w hD hL0=>?_⟩;have hkd:=And.intro hk1 hk2;refine cB1 72 Tryz.func5 hL0 ?_;refine A2 ?_;refine Bo [_,_,_,_,_,_,_,_,_] 9 (fun g=>[_,_,_,⟨some g,39,_,9,true⟩]) (fun g0=>?_);refine A5 ?_;refine at_regionM ?_;refine Gm 0 [] [0] (fun _=>[_,_,_,_]) (c_known m) (fun _=>?_);refine A1 ?_;refine Kr 8 (.bool false) ?_;refine A2 ?_;refine Ld 3 2 [_,_,_,_,_,_,_] ti30 ?_;refine Kr 11 (z.v) ?_;refine Gm 0 [] [2] (fun _=>[_,_,_,_]) (c_small z hw) (fun _=>?_);refine A3 ?_;refine Rs 15 ?_ ?_<;>intro hb0
 ·refine A9 ?_;refine at_regionM ?_;refine Gm 0 [] [0] (fun _=>[_,_,_,_]) (c_known m) (fun _=>?_);refine A5 ?_;refine E1 fun w hL=>⟨(),rfl,hL.pk []⟩
 ·have hs:(few x 1 300).1=true:=by simpa using hb0
  have hk:=few_ok x 1 300 hs;have hf:x.fit=true:=hk.1;have hsz:x.size≤300:=(by have:=hk.2.1;have:=hk.2.2.1;omega);have htl:=txt_len x 1 (few_tiny x 1 300 hs);refine A7 ?_;refine Cd ?_ ?_<;>intro hb1
  ·refine A1 ?_;refine at_regionM ?_;refine Gm 0 [] [0] (fun _=>[_,_,_,_]) (c_known m) (fun _=>?_);refine A5 ?_;refine E1 fun w hL=>⟨(),rfl,hL.pk []⟩
  ·have hl4:l.length≤4:=by have:=of_decide_eq_false hb1;omega
   refine A9 ?_;refine El (ι:={i:Nat // i≤l.length∧(l.take i).all (fun v=>decide (v.length≤60))=true}) (fun⟨i,hi,hI⟩=>([(1,.pointer (some ⟨g0,0,none⟩)),(3,.int .i64 (i:Nat))],[GM m,VBk b e pre l n,gB z.T false,QBx g0 kind b pre l cap z],l.length-i)) ⟨0,Nat.zero_le _,rfl⟩ ?_ (hL:=Weak.auto);rintro⟨i,hi,hI⟩;(try dsimp only);refine A10 ?_;refine Cd ?_ ?_<;>intro hb3
   ·have hlt:i<l.length:=(by have:=of_decide_eq_true hb3;omega);obtain⟨v,hv⟩:∃v,l[i]? =some v:=⟨l[i],List.getElem?_eq_getElem hlt⟩;refine A9 ?_;refine r_indexAddr 1 (pre.length+i*1) u36 ti9 rfl rfl rfl rfl rfl (by omega) (by omega) (pre_ne (SB_ne (by omega))) (by show pre.length+Int.toNat _*1=_;omega) ?_;refine r_load (v:= .string (strU v)) 1 (pre.length+i*1) _ rfl rfl rfl rfl ti9 (pre_get (SB_get hv) rfl) rfl (by decide) rfl ?_;refine A1 ?_;refine r_know 34 (.int .i64 (v.length:Nat)) rfl (by rw[strU_size]) ?_;refine A3 ?_;refine Cd ?_ ?_<;>intro hb4
    ·refine A11 ?_;refine E1 fun w hL=>⟨(),rfl,hL.pk []⟩
    ·have hv6:decide (v.length≤60)=true:=decide_eq_true (by have:=of_decide_eq_false hb4;omega);refine A5 ?_;refine Ar (((i+1:Nat):Int)) ?_;refine A3 ?_;exact Nl ⟨i+1,hlt,all_step hI hv hv6⟩ (hL:=Weak.auto)
   ·have hge:l.length≤i:=by have:=(by have:=of_decide_eq_false hb3;omega);omega
    have hv60:∀v∈l,v.length≤60:=fun v hv=>of_decide_eq_true (List.all_eq_true.1 (all_full hI hge) v hv)
    have hvl:∀v∈l,v.length≤1000000:=fun v hv=>Nat.le_trans (hv60 v hv) (by decide)
    refine A6 ?_;refine at_regionM ?_;refine Ld 3 0 [_,_,_,_,_,_,_,_,_] ti39 ?_;refine Kr 36 (QV kind b pre l cap z) ?_;refine Gm 0 [] [1,2] (fun _=>[_,_,_,_]) (c_law_check kind hkd b e pre l n cap (by omega) hvl z hf (by omega)) (fun _=>?_);refine A4 ?_;refine at_regionM ?_;refine Ld 3 0 [_,_,_,_,_,_,_,_,_] ti39 ?_;refine Kr 39 (QV kind b pre l cap z) ?_;refine Gm 0 [] [1,2,0] (fun _=>[_,_,_,_]) (c_Print kind hkd b e pre l n cap (by omega) hvl hcap z m hf (by omega) (fun hc=>by have hkk:=(chkQ_kind hc).1;have:=headT_len hkk.1 hkk.2 hl4 hv60;omega)) (fun _=>?_);refine A9 ?_;refine at_regionM ?_;refine Ld 3 0 [_,_,_,_,_,_,_,_,_] ti39 ?_;refine Kr 43 (QV kind b pre l cap z) ?_;refine Gm 0 [] [1,2] (fun _=>[_,_,_,_]) (c_Check kind hkd b e pre l n cap (by omega) hvl z hf (by omega)) (fun _=>?_);refine A2 ?_;refine r_know 46 (.bool false) rfl (congrArg Value.bool (bne_self_eq_false _)) ?_;refine A7 ?_;refine at_regionM ?_;refine A3 ?_;refine Rs 49 ?_ ?_<;>intro hb4
    ·have hq0:chkQ kind l x=0:=by have hh:=hb4;simpa using hh
     have hkk:=(chkQ_kind hq0).1;have hxk:okX x:=chk_ok x 1 0 (chkQ_kind hq0).2;have hbb:(headT kind l++txt x 1).length≤17179869184:=(by rw[List.length_append];have:=headT_len hkk.1 hkk.2 hl4 hv60;omega);refine Ld 3 0 [_,_,_,_,_,_,_,_,_] ti39 ?_;refine Kr 50 (QV kind b pre l cap z) ?_;refine Gm 0 [] [1,2] (fun _=>[_,_,_,_]) (c_law_printed kind b e pre l n cap z hq0 hxk hf hbb) (fun _=>?_);refine A1 ?_;refine r_know 52 (.int .i64 ((headT kind l++txt x 1).length:Nat)) rfl (by rw[strU_size]) ?_;refine A4 ?_;refine Cd ?_ ?_<;>intro hb5
     ·have hlong:4096<(headT kind l++txt x 1).length:=by have:=of_decide_eq_true hb5;omega
      have hpt:prQT kind l x=[]:=(by unfold prQT prT;rw[if_pos hq0,if_pos hlong]);have hpc:prQC kind l x=28:=(by unfold prQC prC;rw[if_pos hq0,if_pos hlong]);refine A9 ?_;refine Kr 56 (.bool true) ?_;refine A7 ?_;refine r_know 58 (.bool true) rfl (by rw[hpt];rfl) ?_;refine A4 ?_;refine r_know 62 (.bool true) rfl (by rw[hpc];rfl) ?_;refine A6 ?_;refine E1 fun w hL=>⟨(),rfl,hL.pk []⟩
     ·have hlong:¬4096<(headT kind l++txt x 1).length:=by have:=of_decide_eq_false hb5;omega
      have hpt:prQT kind l x=headT kind l++txt x 1:=(by unfold prQT prT;rw[if_pos hq0,if_neg hlong]);have hpc:prQC kind l x=0:=(by unfold prQC prC;rw[if_pos hq0,if_neg hlong]);refine A7 ?_;refine r_know 56 (.bool false) rfl (congrArg Value.bool (by rw[hq0];rfl)) ?_;refine A6 ?_;refine at_regionM ?_;refine A1 ?_;refine Ld 3 0 [_,_,_,_,_,_,_,_,_] ti39 ?_;refine Kr 65 (QV kind b pre l cap z) ?_;refine Gm 0 [] [1,2] (fun _=>[_,_,_,_]) (c_law_printed kind b e pre l n cap z hq0 hxk hf hbb) (fun _=>?_);refine A1 ?_;refine r_know 67 (.bool true) rfl (by rw[hpt,strU_beq,beq_self_eq_true]) ?_;refine A3 ?_;refine r_know 70 (.bool true) rfl (by rw[hpc];rfl) ?_;refine A5 ?_;refine E1 fun w hL=>⟨(),rfl,hL.pk []⟩
    ·have hq0:chkQ kind l x≠0:=by have hh:=hb4;simpa using hh
     have hpt:prQT kind l x=[]:=if_neg hq0;have hpc:prQC kind l x=(chkQ kind l x:Nat):=if_neg hq0;refine A15 ?_;refine r_know 56 (.bool true) rfl (congrArg Value.bool (bne_iff_ne.2 (by omega))) ?_;refine A7 ?_;refine r_know 58 (.bool true) rfl (by rw[hpt];rfl) ?_;refine A4 ?_;refine r_know 62 (.bool true) rfl (by rw[hpc,beq_self_eq_true]) ?_;refine A6 ?_;refine E1 fun w hL=>⟨(),rfl,hL.pk []⟩
end Go.Proofs.YtfijbadahkmhbaaGreatDoor
