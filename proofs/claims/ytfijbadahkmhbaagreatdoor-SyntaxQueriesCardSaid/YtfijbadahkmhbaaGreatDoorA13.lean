/-
  Part 13 (chapter 43): lemmas, walks. Each theorem states its own conditions.
-/
import Derived.Test.YtfijbadahkmhbaaGreatDoorA04
import Derived.Test.YtfijbadahkmhbaaGreatDoorA05
import Derived.Test.YtfijbadahkmhbaaGreatDoorA08
import Derived.Test.YtfijbadahkmhbaaGreatDoorA10
import Derived.Test.YtfijbadahkmhbaaGreatDoorA11
import Derived.Test.YtfijbadahkmhbaaGreatDoorA12
set_option linter.unusedVariables false
set_option linter.unusedSimpArgs false
set_option maxRecDepth 20000
set_option maxHeartbeats 20000000
namespace Go.Proofs.YtfijbadahkmhbaaGreatDoor
open Go Go.RowKit Go.Via
theorem c_known(m:Int):ECall Tryz.prog 12 [GM m] [] Unit (fun _=> .bool true) (fun _=>[]):=by
 refine⟨by kernel_rfl,fun B w hD hL0=>?_⟩;refine cB0 65 Tryz.func12 hL0 ?_;refine A11 ?_;refine at_regionM ?_;refine A1 ?_;refine Gm 0 [] [] (fun(z:Option Nat×XR kT)=>[_,⟨z.1,9,SB [[99]],1,true⟩,gB z.2.T true]) c_Parse_k (fun⟨b,z⟩=>?_);refine A4 ?_;refine r_alloc [_,_,_,_,_,_,_,_,_] 9 (fun g=>[_,_,_,⟨some g,39,_,9,true⟩]) rfl rfl z39 rfl rfl (fun _=>rfl) (fun g0=>?_);refine So 3 0 [_,_,_,⟨some g0,39,_,9,true⟩] [_,_,_,_,_,_,_,_,_] ?_;refine A5 ?_;refine at_regionM ?_;refine Ld 3 0 [_,_,_,_,_,_,_,_,_] ti39 ?_;refine Kr 15 (QV 2 b [] [[99]] 1 z) ?_;refine r_gcallM (A:=[]) (C:=[VBk b 9 [] [[99]] 1,gB z.T false,GM m]) [QV 2 b [] [[99]] 1 z] [] [1,2,0] (fun _=>[_,_,_,_]) rfl rfl rfl rfl (c_Print_k b z m) (by decide) rfl rfl ⟨⟨_,rfl,le_share⟩,⟨_,rfl,le_share⟩,⟨_,rfl,Blk.le_refl _⟩,trivial⟩ rfl rfl (fun _=>rfl) (fun _=>allOwn rfl) (fun _=>rfl) (fun _=>?_);refine A8 ?_;refine at_regionM ?_;refine A1 ?_;refine Ld 3 2 [_,_,_,_,_,_,_] ti30 ?_;refine Kr 20 (z.v) ?_;refine r_gcallM (A:=[]) (C:=[gB z.T false]) [z.v] [] [2] (fun s=>[_,_,_,_,VR s]) rfl rfl rfl rfl (c_Variables_k z) (by decide) rfl rfl ⟨⟨_,rfl,le_share⟩,trivial⟩ rfl rfl (fun _=>rfl) (fun _=>allOwn rfl) (fun _=>rfl) (fun s=>?_);refine A4 ?_;refine at_regionM ?_;refine A3 ?_;refine Rs 24 ?_ ?_<;>intro hb0
 ·refine A4 ?_;refine Rs 28 ?_ ?_<;>intro hb1
  ·refine A5 ?_;refine Rs 33 ?_ ?_<;>intro hb2
   ·refine A4 ?_;refine Rs 37 ?_ ?_<;>intro hb3
    ·refine A5 ?_;refine Rs 42 ?_ ?_<;>intro hb4
     ·refine A5 ?_;refine Rs 47 ?_ ?_<;>intro hb5
      ·refine A1 ?_;refine r_indexAddr 4 (0*1) u36 ti9 rfl rfl rfl rfl rfl (by decide) (by decide) (SB_ne (by decide)) (by show 0+Int.toNat _*1=_;rfl) ?_;refine r_load (v:= .string (strU [99])) 4 (0*1) _ rfl rfl rfl rfl ti9 (SB_get rfl) rfl (by decide) rfl ?_;refine A3 ?_;refine Rs 53 ?_ ?_<;>intro hb6
       ·refine A1 ?_;refine Ld 3 2 [_,_,_,_,_,_,_] ti30 ?_;refine Kr 55 (z.v) ?_;refine r_gcallM (A:=[]) (C:=[gB z.T false]) [z.v] [] [2] (fun _=>[_,_,_,_,_]) rfl rfl rfl rfl (c_Size_k z) (by decide) rfl rfl ⟨⟨_,rfl,le_share⟩,trivial⟩ rfl rfl (fun _=>rfl) (fun _=>allOwn rfl) (fun _=>rfl) (fun _=>?_);refine A3 ?_;refine Rs 59 ?_ ?_<;>intro hb7
        ·refine A1 ?_;refine Ld 3 2 [_,_,_,_,_,_,_] ti30 ?_;refine Kr 61 (z.v) ?_;refine r_gcallM (A:=[]) (C:=[gB z.T false]) [z.v] [] [2] (fun _=>[_,_,_,_,_]) rfl rfl rfl rfl (c_Depth_k z) (by decide) rfl rfl ⟨⟨_,rfl,le_share⟩,trivial⟩ rfl rfl (fun _=>rfl) (fun _=>allOwn rfl) (fun _=>rfl) (fun _=>?_);refine A6 ?_;refine E1 fun w hL=>⟨(),rfl,hL.pk []⟩
        ·exact absurd hb7 (by first|decide|simp)
       ·exact absurd hb6 (by first|decide|simp)
      ·exact absurd hb5 (by first|decide|simp)
     ·exact absurd hb4 (by first|decide|simp)
    ·exact absurd hb3 (by first|decide|simp)
   ·exact absurd hb2 (by first|decide|simp)
  ·exact absurd hb1 (by first|decide|simp)
 ·exact absurd hb0 (by first|decide|simp)
theorem c_law_word(l:Bs8)(hn:l.length≤1000000):PCall Tryz.prog 45 #[.string (strU l)] (.bool (wordL l)):=by
 refine⟨by kernel_rfl,fun w=>?_⟩;refine cB1 34 Tryz.func45 (LRel.nil w) ?_;refine A12 ?_;refine El (ι:={i:Nat // i≤l.length∧wordL l=wordAt l i}) (fun⟨i,hi,hI⟩=>([(0,.string (strU l)),(3,.int .i64 (i:Nat))],[],l.length-i)) ⟨0,Nat.zero_le _,rfl⟩ ?_;rintro⟨i,hi,hI⟩;(try dsimp only);refine A6 ?_;refine r_know 6 (.int .i64 (l.length:Nat)) rfl (by rw[strU_size]) ?_;refine A3 ?_;refine Cd ?_ ?_<;>intro hb1
 ·have hlt:i<l.length:=(by have:=of_decide_eq_true hb1;omega);obtain⟨c,hx⟩:∃c,l[i]? =some c:=⟨l[i],List.getElem?_eq_getElem hlt⟩;refine A8 ?_;refine r_idxS (b:=c) (r:=(c.toNat:Int)) u9 rfl rfl rfl rfl (by omega) hx rfl ?_;refine Pc (c_law_letter _) ?_;refine A2 ?_;refine Rs 15 ?_ ?_<;>intro hb2
  ·have hlet:isLet c=false:=by simpa using hb2
   refine A3 ?_;refine Rs 18 ?_ ?_<;>intro hb3
   ·have hi0:i=0:=by have:=eq_of_beq hb3;omega
    refine A27 ?_;refine E1 fun w hL=>⟨?_,hL.below⟩;exact eB (by rw[hI,wordAt_no hx hlet (.inl hi0)])
   ·have hi0:i≠0:=by have:=ne_of_beq_false hb3;omega
    refine A2 ?_;refine r_idxS (b:=c) (r:=(c.toNat:Int)) u9 rfl rfl rfl rfl (by omega) hx rfl ?_;refine Pc (c_law_digit _) ?_;refine A2 ?_;refine Rs 24 ?_ ?_<;>intro hb4
    ·have hdig:isDig c=false:=by simpa using hb4
     refine A2 ?_;refine r_idxS (b:=c) (r:=(c.toNat:Int)) u9 rfl rfl rfl rfl (by omega) hx rfl ?_;refine A6 ?_;refine Cd ?_ ?_<;>intro hb5
     ·have h95:c≠95:=by have hh:=hb5;simp only[bne_iff_ne,ne_eq,Bool.not_eq_true,bne_eq_false_iff_eq] at hh;intro e;subst e;exact hh rfl
      refine A11 ?_;refine E1 fun w hL=>⟨?_,hL.below⟩;exact eB (by rw[hI,wordAt_no hx hlet (.inr ⟨hdig,h95⟩)])
     ·have h95:c=95:=by have hh:=hb5;simp only[bne_iff_ne,ne_eq,Bool.not_eq_true,bne_eq_false_iff_eq] at hh;exact UInt8.toNat_inj.1 (by simpa using Int.ofNat_inj.1 hh)
      refine A5 ?_;refine Ar (((i+1:Nat):Int)) ?_;refine A3 ?_;exact Nl ⟨i+1,hlt,hI.trans (wordAt_go hx (.inr ⟨hi0,.inr h95⟩))⟩
    ·have hdig:isDig c=true:=by simpa using hb4
     refine A15 ?_;refine Ar (((i+1:Nat):Int)) ?_;refine A3 ?_;exact Nl ⟨i+1,hlt,hI.trans (wordAt_go hx (.inr ⟨hi0,.inl hdig⟩))⟩
  ·have hlet:isLet c=true:=by simpa using hb2
   refine A24 ?_;refine Ar (((i+1:Nat):Int)) ?_;refine A3 ?_;exact Nl ⟨i+1,hlt,hI.trans (wordAt_go hx (.inl hlet))⟩
 ·have hge:i=l.length:=(by have:=of_decide_eq_false hb1;omega);subst hge;refine A13 ?_;refine E1 fun w hL=>⟨?_,hL.below⟩;exact eB (by rw[hI,wordAt_end])
theorem c_law_isZone(l:Bs8)(hn:l.length≤1000000):PCall Tryz.prog 16 #[.string (strU l)] (.bool (zoneL l)):=by
 refine⟨by kernel_rfl,fun w=>?_⟩;refine cB1 28 Tryz.func16 (LRel.nil w) ?_;refine A12 ?_;refine El (ι:={i:Nat // i≤l.length∧l.all zch=(l.drop i).all zch}) (fun⟨i,hi,hI⟩=>([(0,.string (strU l)),(3,.int .i64 (i:Nat))],[],l.length-i)) ⟨0,Nat.zero_le _,rfl⟩ ?_;rintro⟨i,hi,hI⟩;(try dsimp only);refine A6 ?_;refine r_know 6 (.int .i64 (l.length:Nat)) rfl (by rw[strU_size]) ?_;refine A3 ?_;refine Cd ?_ ?_<;>intro hb1
 ·have hlt:i<l.length:=(by have:=of_decide_eq_true hb1;omega);obtain⟨c,hx⟩:∃c,l[i]? =some c:=⟨l[i],List.getElem?_eq_getElem hlt⟩;refine A8 ?_;refine r_idxS (b:=c) (r:=(c.toNat:Int)) u9 rfl rfl rfl rfl (by omega) hx rfl ?_;refine A2 ?_;refine Rs 14 ?_ ?_<;>intro hb2
  ·have h32:c.toNat<32:=(by have:=of_decide_eq_true hb2;omega);have hz:zch c=false:=by unfold zch;simp;omega
   refine A19 ?_;refine E1 fun w hL=>⟨?_,hL.below⟩;exact eB (by unfold zoneL;rw[hI,all_go hx,hz];rfl)
  ·have h32:¬c.toNat<32:=(by have:=of_decide_eq_false hb2;omega);refine A2 ?_;refine r_idxS (b:=c) (r:=(c.toNat:Int)) u9 rfl rfl rfl rfl (by omega) hx rfl ?_;refine A4 ?_;refine Cd ?_ ?_<;>intro hb3
   ·have h126:126<c.toNat:=(by have:=of_decide_eq_true hb3;omega);have hz:zch c=false:=by unfold zch;simp;omega
    refine A11 ?_;refine E1 fun w hL=>⟨?_,hL.below⟩;exact eB (by unfold zoneL;rw[hI,all_go hx,hz];rfl)
   ·have h126:¬126<c.toNat:=(by have:=of_decide_eq_false hb3;omega);have hz:zch c=true:=by unfold zch;simp;omega
    refine A5 ?_;refine Ar (((i+1:Nat):Int)) ?_;refine A3 ?_;exact Nl ⟨i+1,hlt,by rw[hI,all_go hx,hz,Bool.true_and]⟩
 ·have hge:i=l.length:=(by have:=of_decide_eq_false hb1;omega);subst hge;refine A9 ?_;refine r_know 21 (.int .i64 (l.length:Nat)) rfl (by rw[strU_size]) ?_;refine A2 ?_;refine Rs 23 ?_ ?_<;>intro hb2
  ·have h1:1≤l.length:=(by have:=of_decide_eq_true hb2;omega);refine A2 ?_;refine r_know 25 (.int .i64 (l.length:Nat)) rfl (by rw[strU_size]) ?_;refine A6 ?_;refine E1 fun w hL=>⟨?_,hL.below⟩;exact eB (by unfold zoneL;rw[hI,List.drop_length,decide_eq_true h1];simp;omega)
  ·have h1:¬1≤l.length:=(by have:=of_decide_eq_false hb2;omega);refine A8 ?_;refine E1 fun w hL=>⟨?_,hL.below⟩;exact eB (by unfold zoneL;rw[decide_eq_false h1];simp)
end Go.Proofs.YtfijbadahkmhbaaGreatDoor
namespace Go.Via
open Go Go.RowKit
def frm4(o:Nat×Nat×Nat×Bs8):List Value:=[.int .i64 (o.1:Nat),.int .i64 (o.2.1:Nat),.int .i64 (o.2.2.1:Nat),.string (strU o.2.2.2)]
def frmC(l:List (Nat×Nat×Nat×Bs8)):List Value:=l.flatMap frm4
theorem frmC_cons(o:Nat×Nat×Nat×Bs8)(l:List (Nat×Nat×Nat×Bs8)):frmC (o::l)=frm4 o++frmC l:=List.flatMap_cons
theorem frmC_get:∀{l:List (Nat×Nat×Nat×Bs8)} {i:Nat} {o:Nat×Nat×Nat×Bs8},l[i]? =some o→((frmC l).drop (i*4)).take 4=frm4 o
 |[],i,o,h=>by simp at h
 |p::l,0,o,h=>by simp at h;subst h;rw[frmC_cons];rfl
 |p::l,i+1,o,h=>by
  rw[frmC_cons,List.drop_append,show(i+1)*4-(frm4 p).length=i*4 by show(i+1)*4-4=_;omega,List.drop_eq_nil_of_le (by show 4≤_;omega)]
  exact frmC_get (l:=l) (by simpa using h)
theorem frmC_word{l:List (Nat×Nat×Nat×Bs8)}{i:Nat}{o:Nat×Nat×Nat×Bs8}(h:l[i]? =some o):((frmC l).drop (i*4+3)).take 1=[.string (strU o.2.2.2)]:=by
 have h1:=frmC_get h
 have h2:(((frmC l).drop (i*4)).take 4).drop 3=[.string (strU o.2.2.2)]:=by rw[h1];rfl
 rw[List.drop_take,List.drop_drop] at h2
 exact h2
theorem frmC_ne{l:List (Nat×Nat×Nat×Bs8)}(h:l≠[]):frmC l≠[]:=by
 cases l with
 |nil=>exact absurd rfl h
 |cons o l=>rw[frmC_cons];simp[frm4]
theorem mres_yes{l:Bs8}{i:Nat}{o:Nat×Nat×Nat×Bs8}(ho:frmT[i]? =some o)(h:o.2.2.2=l):mresL.contains l=true:=by
 rw[List.contains_iff_mem]
 unfold mresL
 exact List.mem_append.2 (.inr (List.mem_map.2 ⟨o,List.mem_of_getElem? ho,h⟩))
theorem mres_four{l:Bs8}(h:l=[118,97,108,117,101]∨l=[111,98,106,101,99,116,115]∨l=[112,97,105,114,115]∨l=[119,104,101,114,101]):mresL.contains l=true:=by
 rcases h with rfl|rfl|rfl|rfl<;>decide+kernel
theorem mres_no{l:Bs8}(h1:l≠[118,97,108,117,101])(h2:l≠[111,98,106,101,99,116,115])(h3:l≠[112,97,105,114,115])(h4:l≠[119,104,101,114,101])(h:(frmT.all fun o=>o.2.2.2 !=l)=true):mresL.contains l=false:=by
 rw[←Bool.not_eq_true,List.contains_iff_mem]
 unfold mresL
 intro hm
 rcases List.mem_append.1 hm with hm|hm
 ·simp at hm
  rcases hm with e|e|e|e
  ·exact h1 e
  ·exact h2 e
  ·exact h3 e
  ·exact h4 e
 ·obtain⟨o,ho,e⟩:=List.mem_map.1 hm
  have:=List.all_eq_true.1 h o ho
  rw[e] at this
  simp at this
abbrev Frm:=Nat×Nat×Nat×Bs8
theorem frmC_op{l:List Frm}{i:Nat}{o:Frm}(h:l[i]? =some o):((frmC l).drop (i*4)).take 1=[.int .i64 (o.1:Nat)]:=by
 have h1:=frmC_get h
 have h2:(((frmC l).drop (i*4)).take 4).take 1=[.int .i64 (o.1:Nat)]:=by rw[h1];rfl
 rw[List.take_take] at h2
 exact h2
def mfind(op:Int):Option Frm:=frmT.find? (fun o=>decide ((o.1:Int)=op))
def mofV(op:Int):Value:=match mfind op with
 |some o=> .tuple #[.agg (frm4 o).toArray,.bool true]
 |none=> .tuple #[.agg #[.int .i64 0,.int .i64 0,.int .i64 0,.string ⟨#[]⟩],.bool false]
theorem frm_cnt:∀o∈frmT,cntL (o.1:Int)=(o.2.1:Int):=by
 have h:frmT.all (fun o=>decide (cntL (o.1:Int)=(o.2.1:Int)))=true:=by decide+kernel
 intro o ho
 exact of_decide_eq_true (List.all_eq_true.1 h o ho)
theorem cnt_some{op:Int}{o:Frm}(h:mfind op=some o):cntL op=(o.2.1:Int):=by
 have h1:((o.1:Nat):Int)=op:=by have:=List.find?_some h;simpa using this
 rw[←h1]
 exact frm_cnt o (List.mem_of_find?_eq_some h)
theorem cnt_none{op:Int}(h:mfind op=none):cntL op= -1:=by
 have hn:∀k:Nat,(frmT.any fun o=>o.1==k)=true→(k:Int)≠op:=fun k hk e=>by
  obtain⟨o,ho,hk2⟩:=List.any_eq_true.1 hk
  have:=List.find?_eq_none.1 h o ho
  rw[eq_of_beq hk2] at this
  simp[e] at this
 have a1:=hn 1 (by decide+kernel)
 have a2:=hn 2 (by decide+kernel)
 have a3:=hn 3 (by decide+kernel)
 have a4:=hn 4 (by decide+kernel)
 have a5:=hn 5 (by decide+kernel)
 have a6:=hn 6 (by decide+kernel)
 have a25:=hn 25 (by decide+kernel)
 unfold cntL
 rw[if_neg (by omega),if_neg (by omega),if_neg (by omega)]
 have f1:funT.find? (fun f=>decide ((f.2.1:Int)=op))=none:=by
  refine List.find?_eq_none.2 fun f hf=>?_
  have h1:funT.all (fun f=>frmT.any fun o=>o.1==f.2.1)=true:=by decide+kernel
  have:=hn f.2.1 (List.all_eq_true.1 h1 f hf)
  simpa using this
 have f2:opsT.find? (fun f=>decide ((f.2.1:Int)=op))=none:=by
  refine List.find?_eq_none.2 fun f hf=>?_
  have h1:opsT.all (fun f=>frmT.any fun o=>o.1==f.2.1)=true:=by decide+kernel
  have:=hn f.2.1 (List.all_eq_true.1 h1 f hf)
  simpa using this
 rw[f1,f2]
noncomputable def mnode(x:XT)(lv n:Nat):Nat:=if 256≤n then 3 else if 32<lv then 33 else nodeE x
mutual
noncomputable def mch:XT→Nat→Nat→Nat×Nat
 | .mk o nm u l,lv,n=>if mnode (.mk o nm u l) lv n≠0 then(mnode (.mk o nm u l) lv n,n+1) else mchs l (lv+1) (n+1)
noncomputable def mchs:List XT→Nat→Nat→Nat×Nat
 |[],_,n=>(0,n)
 |x::l,lv,n=>if(mch x lv n).1≠0 then mch x lv n else mchs l lv (mch x lv n).2
end
theorem mch_eq(x:XT)(lv n:Nat):mch x lv n=if mnode x lv n≠0 then(mnode x lv n,n+1) else mchs x.args (lv+1) (n+1):=by
 cases x with
 |mk o nm u l=>rw[mch];rfl
theorem mchs_step{l:List XT}{i:Nat}{y:XT}{lv n:Nat}(hy:l[i]? =some y):mchs (l.drop i) lv n=if(mch y lv n).1≠0 then mch y lv n else mchs (l.drop (i+1)) lv (mch y lv n).2:=by
 obtain⟨hl,rfl⟩:=List.getElem?_eq_some_iff.1 hy
 rw[List.drop_eq_getElem_cons hl,mchs]
mutual
theorem mch_chk:∀(x:XT) (lv n:Nat),(mch x lv n).1=(chk x lv n).1∧((chk x lv n).1=0→(mch x lv n).2=(chk x lv n).2)
 | .mk o nm u l,lv,n=>by
   rw[mch,chk,mnode]
   by_cases h1:256≤n
   ·rw[if_pos h1,if_pos h1,if_pos (by decide)];exact⟨rfl,fun h=>by cases h⟩
   ·rw[if_neg h1,if_neg h1]
    by_cases h2:32<lv
    ·rw[if_pos h2,if_pos h2,if_pos (by decide)];exact⟨rfl,fun h=>by cases h⟩
    ·rw[if_neg h2,if_neg h2]
     by_cases h3:nodeE (.mk o nm u l)≠0
     ·rw[if_pos h3,if_pos h3];exact⟨rfl,fun _=>rfl⟩
     ·rw[if_neg h3,if_neg h3];exact mchs_chk l (lv+1) (n+1)
theorem mchs_chk:∀(l:List XT) (lv n:Nat),(mchs l lv n).1=(chks l lv n).1∧((chks l lv n).1=0→(mchs l lv n).2=(chks l lv n).2)
 |[],lv,n=>by rw[mchs,chks];exact⟨rfl,fun _=>rfl⟩
 |x::l,lv,n=>by
  obtain⟨a1,a2⟩:=mch_chk x lv n
  rw[mchs,chks,a1]
  by_cases h:(chk x lv n).1≠0
  ·rw[if_pos h,if_pos h];exact⟨a1,a2⟩
  ·rw[if_neg h,if_neg h,a2 (by omega)];exact mchs_chk l lv _
end
theorem mnode_0{x:XT}{lv n:Nat}(h:mnode x lv n=0):n<256∧lv≤32∧nodeE x=0:=by
 unfold mnode at h
 split at h
 ·cases h
 ·split at h
  ·cases h
  ·exact⟨by omega,by omega,h⟩
mutual
theorem mch_le0:∀(x:XT) (lv n:Nat),n≤256→(mch x lv n).1=0→(mch x lv n).2≤256
 | .mk o nm u l,lv,n,h,h0=>by
   rw[mch] at h0 ⊢
   split at h0
   ·rename_i h2;exact absurd h0 h2
   ·rename_i h2
    have:=mnode_0 (x:= .mk o nm u l) (lv:=lv) (n:=n) (by omega)
    rw[if_neg h2];exact mchs_le0 l _ _ (by omega) h0
theorem mchs_le0:∀(l:List XT) (lv n:Nat),n≤256→(mchs l lv n).1=0→(mchs l lv n).2≤256
 |[],lv,n,h,h0=>by rw[mchs];exact h
 |x::l,lv,n,h,h0=>by
  rw[mchs] at h0 ⊢
  split at h0
  ·rename_i h2;exact absurd h0 h2
  ·rename_i h2
   rw[if_neg h2];exact mchs_le0 l lv _ (mch_le0 x lv n h (by omega)) h0
end
theorem frm_of{x:XT}{o:Frm}(h:mfind x.op=some o):((o.1:Nat):Int)=x.op:=by have:=List.find?_some h;simpa using this
theorem mfind_ok{x:XT}(h:nodeE x=0):∃o,mfind x.op=some o:=by
 cases hm:mfind x.op with
 |some o=>exact⟨o,rfl⟩
 |none=>
  have h1:=nodeE_cnt h
  rw[cnt_none hm] at h1
  omega
theorem frm_level:∀o∈frmT,(opsT.find? (fun f=>decide ((f.2.1:Int)=(o.1:Nat)))=none∧(o.2.2.1=0∨o.2.2.1=8))∨(opsT.find? (fun f=>decide ((f.2.1:Int)=(o.1:Nat)))=some (o.2.2.2,o.1,o.2.2.1)∧1≤o.2.2.1∧o.2.2.1≤7):=by
 have h:frmT.all (fun o=>decide ((opsT.find? (fun f=>decide ((f.2.1:Int)=(o.1:Nat)))=none∧(o.2.2.1=0∨o.2.2.1=8))∨(opsT.find? (fun f=>decide ((f.2.1:Int)=(o.1:Nat)))=some (o.2.2.2,o.1,o.2.2.1)∧1≤o.2.2.1∧o.2.2.1≤7)))=true:=by decide+kernel
 intro o ho
 exact of_decide_eq_true (List.all_eq_true.1 h o ho)
theorem txt_none{x:XT}(h:opsT.find? (fun f=>decide ((f.2.1:Int)=x.op))=none)(lv lv':Nat):txt x lv=txt x lv':=by
 cases x with
 |mk o nm u l=>
  replace h:opsT.find? (fun f=>decide ((f.2.1:Int)=o))=none:=h
  rw[txt,txt,h]
theorem part_txt{x:XT}{o:Frm}(h:mfind x.op=some o){lv:Nat}(h8:lv≤8):txt x lv=if 0<o.2.2.1∧o.2.2.1<lv then[40]++txt x 1++[41] else txt x 1:=by
 have hp:=frm_of h
 rcases frm_level o (List.mem_of_find?_eq_some h) with⟨h1,h2⟩|⟨h1,h2,h3⟩
 ·rw[hp] at h1
  rw[if_neg (by omega)]
  exact txt_none h1 _ _
 ·rw[hp] at h1
  have e1:=txt_op h1 1
  have e2:=txt_op h1 lv
  rw[if_neg (by show¬o.2.2.1<1;omega)] at e1
  rw[e2,e1]
  show(if o.2.2.1<lv then _ else _)=_
  by_cases hl:o.2.2.1<lv
  ·rw[if_pos hl,if_pos ⟨by omega,hl⟩]
  ·rw[if_neg hl,if_neg (by omega)]
theorem part_len{x:XT}{o:Frm}(h:mfind x.op=some o){lv:Nat}(h8:lv≤8):(txt x 1).length≤(txt x lv).length:=by
 rw[part_txt h h8]
 split
 ·simp only[List.length_append,List.length_cons,List.length_nil];omega
 ·exact Nat.le_refl _
theorem txt_call{x:XT}{o:Frm}(h:mfind x.op=some o)(hl:o.2.2.1=0∨o.2.2.1=8)(h1:x.op≠1)(h3:x.op≠3)(h4:x.op≠4)(h5:x.op≠5)(h6:x.op≠6):txt x 1=o.2.2.2++[40]++joinC (txtLs x.args)++[41]:=by
 have hp:=frm_of h
 have hm:=List.mem_of_find?_eq_some h
 rcases frm_level o hm with⟨q1,_⟩|⟨_,q2,q3⟩
 ·have hk:frmT.all (fun o=>o.1==1||o.1==3||o.1==4||o.1==5||o.1==6|| !(o.2.2.1==0||o.2.2.1==8)||(o.1==2&&o.2.2.2==[112,111,105,110,116])||(o.1 !=2&&decide (funT.find? (fun f=>decide ((f.2.1:Int)=(o.1:Nat)))=some (o.2.2.2,o.1,o.2.1))))=true:=by decide+kernel
  have hk2:=List.all_eq_true.1 hk o hm
  rw[hp] at q1
  cases x with
  |mk op nm u l=>
   replace hp:((o.1:Nat):Int)=op:=hp
   replace q1:opsT.find? (fun f=>decide ((f.2.1:Int)=op))=none:=q1
   replace h1:op≠1:=h1
   replace h3:op≠3:=h3
   replace h4:op≠4:=h4
   replace h5:op≠5:=h5
   replace h6:op≠6:=h6
   simp only[Bool.or_eq_true,Bool.and_eq_true,Bool.not_eq_true',beq_iff_eq,bne_iff_ne,ne_eq,decide_eq_true_eq] at hk2
   rw[hp] at hk2
   rw[txt,q1]
   dsimp only
   rw[if_neg h1,if_neg h4,if_neg h3,if_neg h5,if_neg h6]
   show(if op=2 then sPoint++joinC (txtLs l)++[41] else _)=o.2.2.2++[40]++joinC (txtLs l)++[41]
   rcases hk2 with((((((h|h)|h)|h)|h)|h)|h)|h
   ·omega
   ·omega
   ·omega
   ·omega
   ·omega
   ·rw[Bool.or_eq_false_iff,beq_eq_false_iff_ne,beq_eq_false_iff_ne] at h;omega
   ·rw[if_pos (by omega),h.2];rfl
   ·rw[if_neg (by omega),h.2]
 ·omega
theorem quoS_step{l:Bs8}{i:Nat}{c:UInt8}(h:l[i]? =some c):quoS (l.take (i+1))=quoS (l.take i)++(if c=34 then[34,34] else[c]):=by
 unfold quoS
 rw[List.take_add_one,h,List.flatMap_append]
 simp
theorem has_step{l:List Bs8}{i:Nat}{v s:Bs8}(hI:(l.take i).contains s=false)(hv:l[i]? =some v)(hne:v≠s):(l.take (i+1)).contains s=false:=by
 rw[←Bool.not_eq_true,List.contains_iff_mem] at*
 rw[List.take_add_one,hv]
 intro h
 rcases List.mem_append.1 h with h|h
 ·exact hI h
 ·exact hne (List.mem_singleton.1 h).symm
theorem has_yes{l:List Bs8}{i:Nat}{v s:Bs8}(hv:l[i]? =some v)(h:v=s):l.contains s=true:=by
 rw[List.contains_iff_mem,←h]
 exact List.mem_of_getElem? hv
theorem has_no{l:List Bs8}{i:Nat}{s:Bs8}(hI:(l.take i).contains s=false)(h:i=l.length):l.contains s=false:=by
 rwa [h,List.take_of_length_le (Nat.le_refl _)] at hI
end Go.Via
namespace Go.Proofs.YtfijbadahkmhbaaGreatDoor
open Go Go.RowKit Go.Via
def TexC(y:XT):Prop:=∀u:XR y,okX y→y.fit=true→(txt y 1).length≤17179869184→ECall Tryz.prog 35 [gB u.T false] [u.v] Unit (fun _=> .string (strU (txt y 1))) (fun _=>[])
theorem c_law_forms:SCall Tryz.prog 86 [] [] Nat (fun g=>slv (some g) 0 30 30) (fun g=>[⟨some g,94,frmC frmT,120,true⟩]):=by
 refine⟨by kernel_rfl,fun w hL0=>?_⟩;refine cB0 32 Tryz.func86 hL0 ?_;refine A7 ?_;refine r_build [(0,_),(1,_),(2,_),(3,_)] rfl rfl rfl (bd94_4) ?_;refine r_build [(0,_),(1,_),(2,_),(3,_)] rfl rfl rfl (bd94_4) ?_;refine r_build [(0,_),(1,_),(2,_),(3,_)] rfl rfl rfl (bd94_4) ?_;refine r_build [(0,_),(1,_),(2,_),(3,_)] rfl rfl rfl (bd94_4) ?_;refine r_build [(0,_),(1,_),(2,_),(3,_)] rfl rfl rfl (bd94_4) ?_;refine r_build [(0,_),(1,_),(2,_),(3,_)] rfl rfl rfl (bd94_4) ?_;refine r_build [(0,_),(1,_),(2,_),(3,_)] rfl rfl rfl (bd94_4) ?_;refine r_build [(0,_),(1,_),(2,_),(3,_)] rfl rfl rfl (bd94_4) ?_;refine r_build [(0,_),(1,_),(2,_),(3,_)] rfl rfl rfl (bd94_4) ?_;refine r_build [(0,_),(1,_),(2,_),(3,_)] rfl rfl rfl (bd94_4) ?_;refine r_build [(0,_),(1,_),(2,_),(3,_)] rfl rfl rfl (bd94_4) ?_;refine r_build [(0,_),(1,_),(2,_),(3,_)] rfl rfl rfl (bd94_4) ?_;refine r_build [(0,_),(1,_),(2,_),(3,_)] rfl rfl rfl (bd94_4) ?_;refine r_build [(0,_),(1,_),(2,_),(3,_)] rfl rfl rfl (bd94_4) ?_;refine r_build [(0,_),(1,_),(2,_),(3,_)] rfl rfl rfl (bd94_4) ?_;refine r_build [(0,_),(1,_),(2,_),(3,_)] rfl rfl rfl (bd94_4) ?_;refine r_build [(0,_),(1,_),(2,_),(3,_)] rfl rfl rfl (bd94_4) ?_;refine r_build [(0,_),(1,_),(2,_),(3,_)] rfl rfl rfl (bd94_4) ?_;refine r_build [(0,_),(1,_),(2,_),(3,_)] rfl rfl rfl (bd94_4) ?_;refine r_build [(0,_),(1,_),(2,_),(3,_)] rfl rfl rfl (bd94_4) ?_;refine r_build [(0,_),(1,_),(2,_),(3,_)] rfl rfl rfl (bd94_4) ?_;refine r_build [(0,_),(1,_),(2,_),(3,_)] rfl rfl rfl (bd94_4) ?_;refine r_build [(0,_),(1,_),(2,_),(3,_)] rfl rfl rfl (bd94_4) ?_;refine r_build [(0,_),(1,_),(2,_),(3,_)] rfl rfl rfl (bd94_4) ?_;refine r_build [(0,_),(1,_),(2,_),(3,_)] rfl rfl rfl (bd94_4) ?_;refine r_build [(0,_),(1,_),(2,_),(3,_)] rfl rfl rfl (bd94_4) ?_;refine r_build [(0,_),(1,_),(2,_),(3,_)] rfl rfl rfl (bd94_4) ?_;refine r_build [(0,_),(1,_),(2,_),(3,_)] rfl rfl rfl (bd94_4) ?_;refine r_build [(0,_),(1,_),(2,_),(3,_)] rfl rfl rfl (bd94_4) ?_;refine r_build [(0,_),(1,_),(2,_),(3,_)] rfl rfl rfl (bd94_4) ?_;refine r_buildSlice [(0,_),(1,_),(2,_),(3,_),(4,_),(5,_),(6,_),(7,_),(8,_),(9,_),(10,_),(11,_),(12,_),(13,_),(14,_),(15,_),(16,_),(17,_),(18,_),(19,_),(20,_),(21,_),(22,_),(23,_),(24,_),(25,_),(26,_),(27,_),(28,_),(29,_)] (fun g=>[⟨some g,94,_,120,true⟩]) rfl rfl rfl (bs115_30) rfl (fun _=>rfl) (fun g0=>?_);refine A4 ?_;refine at_end1 rfl (res_tmp rfl) (fun w hL=>⟨g0,rfl,hL⟩)
theorem c_law_reserved(l:Bs8):PCall Tryz.prog 46 #[.string (strU l)] (.bool (mresL.contains l)):=by
 refine⟨by kernel_rfl,fun w=>?_⟩;refine cB1 33 Tryz.func46 (LRel.nil w) ?_;refine A11 ?_;refine Rs 7 ?_ ?_<;>intro hb0
 ·have k1:l=[118,97,108,117,101]:=by have hh:=hb0;rw[show(l=[118,97,108,117,101])=(((l==[118,97,108,117,101])=true)) from by simp,←strU_beq];exact hh
  refine A21 ?_;refine E1 fun w hL=>⟨?_,hL.below⟩;exact eB (mres_four (.inl k1)).symm
 ·have k1:l≠[118,97,108,117,101]:=by have hh:=hb0;rw[show(l≠[118,97,108,117,101])=(((l==[118,97,108,117,101])=false)) from by simp,←strU_beq];exact hh
  refine A4 ?_;refine Rs 11 ?_ ?_<;>intro hb1
  ·have k2:l=[111,98,106,101,99,116,115]:=by have hh:=hb1;rw[show(l=[111,98,106,101,99,116,115])=(((l==[111,98,106,101,99,116,115])=true)) from by simp,←strU_beq];exact hh
   refine A17 ?_;refine E1 fun w hL=>⟨?_,hL.below⟩;exact eB (mres_four (.inr (.inl k2))).symm
  ·have k2:l≠[111,98,106,101,99,116,115]:=by have hh:=hb1;rw[show(l≠[111,98,106,101,99,116,115])=(((l==[111,98,106,101,99,116,115])=false)) from by simp,←strU_beq];exact hh
   refine A4 ?_;refine Rs 15 ?_ ?_<;>intro hb2
   ·have k3:l=[112,97,105,114,115]:=by have hh:=hb2;rw[show(l=[112,97,105,114,115])=(((l==[112,97,105,114,115])=true)) from by simp,←strU_beq];exact hh
    refine A13 ?_;refine E1 fun w hL=>⟨?_,hL.below⟩;exact eB (mres_four (.inr (.inr (.inl k3)))).symm
   ·have k3:l≠[112,97,105,114,115]:=by have hh:=hb2;rw[show(l≠[112,97,105,114,115])=(((l==[112,97,105,114,115])=false)) from by simp,←strU_beq];exact hh
    refine A5 ?_;refine Cd ?_ ?_<;>intro hb3
    ·have k4:l=[119,104,101,114,101]:=by have hh:=hb3;rw[show(l=[119,104,101,114,101])=(((l==[119,104,101,114,101])=true)) from by simp,←strU_beq];exact hh
     refine A7 ?_;refine E1 fun w hL=>⟨?_,hL.below⟩;exact eB (mres_four (.inr (.inr (.inr k4)))).symm
    ·have k4:l≠[119,104,101,114,101]:=by have hh:=hb3;rw[show(l≠[119,104,101,114,101])=(((l==[119,104,101,114,101])=false)) from by simp,←strU_beq];exact hh
     refine A4 ?_;refine r_scall [] [] rfl rfl rfl c_law_forms trivial rfl (.inr fun _ b hb=>by rw[List.mem_singleton.1 hb]) (fun gf=>?_);refine A10 ?_;refine El (ι:={i:Nat // i≤30∧((frmT.take i).all fun o=>o.2.2.2 !=l)=true}) (fun⟨i,hi,hI⟩=>([(0,.string (strU l)),(3,slv (some gf) 0 30 30),(4,.int .i64 (i:Nat))],[⟨some gf,94,frmC frmT,120,true⟩],30-i)) ⟨0,Nat.zero_le _,rfl⟩ ?_;rintro⟨i,hi,hI⟩;(try dsimp only);refine A9 ?_;refine Cd ?_ ?_<;>intro hb5
     ·have hlt:i<30:=(by have:=of_decide_eq_true hb5;omega);obtain⟨o,ho⟩:∃o,frmT[i]? =some o:=⟨frmT[i]'(by show i<30;exact hlt),List.getElem?_eq_getElem _⟩;refine A8 ?_;refine Ix 0 (i*4) ?_;refine r_fieldAddr 0 (i*4) 3 rfl rfl rfl rfl rfl ti94 rfl rfl ?_;refine r_load (v:= .string (strU o.2.2.2)) 0 (i*4+3) _ rfl rfl rfl rfl ti9 (frmC_word ho) rfl (by decide) rfl ?_;refine A4 ?_;refine Cd ?_ ?_<;>intro hb6
      ·have hw:o.2.2.2=l:=by have hh:=hb6;rw[strU_beq] at hh;simpa using hh
       refine A11 ?_;refine E1 fun w hL=>⟨?_,hL.below⟩;exact eB (mres_yes ho hw).symm
      ·have hw:o.2.2.2≠l:=by have hh:=hb6;rw[strU_beq] at hh;simpa using hh
       refine A5 ?_;refine Ar (((i+1:Nat):Int)) ?_;refine A3 ?_;exact Nl ⟨i+1,hlt,by rw[List.take_add_one,ho,List.all_append,hI];simpa using hw⟩ (hL:=Weak.auto)
     ·have hge:i=30:=(by have:=of_decide_eq_false hb5;omega);subst hge;refine A11 ?_;refine E1 fun w hL=>⟨?_,hL.below⟩;exact eB (mres_no k1 k2 k3 k4 hI).symm
theorem c_law_of(op:Int):ECall Tryz.prog 66 [] [.int .i64 op] Unit (fun _=>mofV op) (fun _=>[]):=by
 refine⟨by kernel_rfl,fun B w hD hL0=>?_⟩;refine cB1 25 Tryz.func66 hL0 ?_;refine A2 ?_;refine r_alloc [_,_,_,_] 4 (fun g=>[⟨some g,94,_,4,true⟩]) rfl rfl z94 rfl rfl (fun _=>rfl) (fun g0=>?_);refine A5 ?_;refine r_scall [] [] rfl rfl rfl c_law_forms trivial rfl (.inr fun _ b hb=>by rw[List.mem_singleton.1 hb]) (fun gf=>?_);refine A10 ?_;refine El (ι:={i:Nat // i≤30∧(frmT.take i).find? (fun o=>decide ((o.1:Int)=op))=none}) (fun⟨i,hi,hI⟩=>([(0,.int .i64 op),(2,.pointer (some ⟨g0,0,none⟩)),(4,slv (some gf) 0 30 30),(5,.int .i64 (i:Nat))],[⟨some g0,94,[.int .i64 0,.int .i64 0,.int .i64 0,.string ⟨#[]⟩],4,true⟩,⟨some gf,94,frmC frmT,120,true⟩],30-i)) ⟨0,Nat.zero_le _,rfl⟩ ?_;rintro⟨i,hi,hI⟩;(try dsimp only);refine A9 ?_;refine Cd ?_ ?_<;>intro hb1
 ·have hlt:i<30:=(by have:=of_decide_eq_true hb1;omega);obtain⟨o,ho⟩:∃o,frmT[i]? =some o:=⟨frmT[i]'(by show i<30;exact hlt),List.getElem?_eq_getElem _⟩;refine A8 ?_;refine Ix 1 (i*4) ?_;refine r_fieldAddr 1 (i*4) 0 rfl rfl rfl rfl rfl ti94 rfl rfl ?_;refine r_load (v:= .int .i64 (o.1:Nat)) 1 (i*4) _ rfl rfl rfl rfl ti3 (frmC_op ho) rfl (by decide) rfl ?_;refine A4 ?_;refine Cd ?_ ?_<;>intro hb2
  ·have hop:(o.1:Int)=op:=by have hh:=hb2;simpa using hh
   refine A4 ?_;refine Ix 1 (i*4) ?_;refine r_load (v:= .agg #[.int .i64 (o.1:Nat),.int .i64 (o.2.1:Nat),.int .i64 (o.2.2.1:Nat),.string (strU o.2.2.2)]) 1 (i*4) _ rfl rfl rfl rfl ti94 (frmC_get ho) rfl (by decide) rfl ?_;refine So 0 0 [⟨some g0,94,_,4,true⟩,_] [_,_,_,_] ?_;refine A9 ?_;refine at_end2 rfl (res_cell 0 rfl rfl ti94 (vs:=[_,_,_,_]) rfl rfl (Nat.le_of_ble_eq_true rfl) rfl) (res_tmp rfl) (fun w hL=>⟨(),by unfold mofV;rw[show mfind op=some o from find_some_at hI ho (by simpa using hop)];rfl,hL.pk []⟩)
  ·have hop:(o.1:Int)≠op:=by have hh:=hb2;simpa using hh
   refine A5 ?_;refine Ar (((i+1:Nat):Int)) ?_;refine A3 ?_;exact Nl ⟨i+1,hlt,find_none_step hI ho (by simpa using hop)⟩
 ·have hge:i=30:=(by have:=of_decide_eq_false hb1;omega);subst hge;refine A7 ?_;refine r_build [] rfl rfl rfl (bd94_0) ?_;refine So 0 0 [⟨some g0,94,_,4,true⟩,_] [_,_,_,_] ?_;refine A4 ?_;refine at_end2 rfl (res_cell 0 rfl rfl ti94 (vs:=[_,_,_,_]) rfl rfl (Nat.le_of_ble_eq_true rfl) rfl) (res_tmp rfl) (fun w hL=>⟨(),by unfold mofV;rw[show mfind op=none from find_none_all hI (Nat.le_refl _)],hL.pk []⟩)
theorem c_law_isIdQ(q:Rat)(hq:szQ q≤1000000):PCall Tryz.prog 110 #[Q q] (.bool (idOK q)):=by
 refine⟨by kernel_rfl,fun w=>?_⟩;refine cB1 29 Tryz.func110 (LRel.nil w) ?_;refine A2 ?_;refine Bo [_,_,_,_] 4 (fun g=>[⟨some g,27,_,4,true⟩]) (fun g0=>?_);refine A6 ?_;refine Ld 0 0 [_,_,_,_] ti27 ?_;refine r_pcall [_] rfl rfl rfl (c_rational_Check _ _ _ _ (by rw[mag_size];exact nb_num hq) (dm_sz hq)) ?_;refine r_know 6 (.int .i64 0) rfl (by rw[isQ_Q];rfl) ?_;refine A1 ?_;refine Kr 7 (.bool false) ?_;refine A2 ?_;refine Ld 0 2 [_,_] ti25 ?_;refine r_build [] rfl rfl rfl (bd25_0) ?_;refine r_neqAgg rfl rfl rfl rfl gd25 (eq25r _ _ _ _) ?_;refine r_know 12 (.bool (!decide (q.den=1))) rfl (by rw[dm_nil]) ?_;refine A3 ?_;refine Cd ?_ ?_<;>intro hb0
 ·have hden:¬q.den=1:=by simpa using hb0
  refine A7 ?_;refine E1 fun w hL=>⟨?_,hL.below⟩;exact eB (by unfold idOK;rw[decide_eq_false hden];rfl)
 ·have hden:q.den=1:=by simpa using hb0
  refine A5 ?_;refine Ld 0 0 [_,_] ti25 ?_;refine Kr 16 (I q.num) ?_;refine Pc (c_integer_ToInt q.num) ?_;refine A11 ?_;refine Rs 21 ?_ ?_<;>intro hb1
  ·have hin:(-9223372036854775808≤q.num∧q.num≤9223372036854775807):=of_decide_eq_true hb1;refine A1 ?_;refine r_know 22 (.int .i64 q.num) rfl (by rw[if_pos hin]) ?_;refine A3 ?_;refine Rs 25 ?_ ?_<;>intro hb2
   ·have h1:1≤q.num:=(by have:=of_decide_eq_true hb2;omega);refine A1 ?_;refine r_know 26 (.int .i64 q.num) rfl (by rw[if_pos hin]) ?_;refine A6 ?_;refine E1 fun w hL=>⟨?_,hL.below⟩;exact eB (by unfold idOK;rw[decide_eq_true hden,decide_eq_true h1];rfl)
   ·have h1:¬1≤q.num:=(by have:=of_decide_eq_false hb2;omega);refine A7 ?_;refine E1 fun w hL=>⟨?_,hL.below⟩;exact eB (by unfold idOK;rw[decide_eq_false h1,Bool.and_false];rfl)
  ·have hin:¬(-9223372036854775808≤q.num∧q.num≤9223372036854775807):=of_decide_eq_false hb1;refine A11 ?_;refine E1 fun w hL=>⟨?_,hL.below⟩;exact eB (by unfold idOK;rw[Bool.and_assoc,show(decide (1≤q.num)&&decide (q.num≤1073741824))=false by(rw[←Bool.not_eq_true];simp;omega),Bool.and_false])
theorem c_law_isIdR(b1:Bool)(s1:ByteArray)(b2:Bool)(s2:ByteArray)(hs1:s1.size≤1000000)(hs2:s2.size≤1000000)(hq:isQ b1 s1 b2 s2=false):PCall Tryz.prog 110 #[.agg #[.bool b1,.string s1,.bool b2,.string s2]] (.bool false):=by
 refine⟨by kernel_rfl,fun w=>?_⟩;refine cB1 29 Tryz.func110 (LRel.nil w) ?_;refine A2 ?_;refine Bo [_,_,_,_] 4 (fun g=>[⟨some g,27,_,4,true⟩]) (fun g0=>?_);refine A6 ?_;refine Ld 0 0 [_,_,_,_] ti27 ?_;refine Pc (c_rational_Check b1 s1 b2 s2 hs1 hs2) ?_;refine r_know 6 (.int .i64 5) rfl (by rw[hq];rfl) ?_;refine A1 ?_;refine Kr 7 (.bool true) ?_;refine A16 ?_;refine E1 fun w hL=>⟨?_,hL.below⟩;exact rfl
end Go.Proofs.YtfijbadahkmhbaaGreatDoor
namespace Go.Via
open Go Go.RowKit
theorem b_irr:∀a:Bs8,¬a<a
 |[]=>List.not_lt_nil []
 |x::a=>by
  rw[List.cons_lt_cons_iff]
  rintro(h|⟨_,h⟩)
  ·exact absurd h (UInt8.lt_irrefl x)
  ·exact b_irr a h
theorem b_trans:∀{a b c:Bs8},a<b→b<c→a<c
 |a,b,[],_,h=>absurd h (List.not_lt_nil b)
 |[],_,_::_,_,_=>List.nil_lt_cons _ _
 |_::_,[],_::_,h,_=>absurd h (List.not_lt_nil _)
 |x::a,y::b,z::c,h1,h2=>by
  rw[List.cons_lt_cons_iff] at*
  rcases h1 with h1|⟨rfl,h1⟩
  ·rcases h2 with h2|⟨rfl,h2⟩
   ·exact .inl (UInt8.lt_trans h1 h2)
   ·exact .inl h1
  ·rcases h2 with h2|⟨rfl,h2⟩
   ·exact .inl h2
   ·exact .inr ⟨rfl,b_trans h1 h2⟩
theorem b_tri:∀a b:Bs8,a<b∨a=b∨b<a
 |[],[]=> .inr (.inl rfl)
 |[],_::_=> .inl (List.nil_lt_cons _ _)
 |_::_,[]=> .inr (.inr (List.nil_lt_cons _ _))
 |x::a,y::b=>by
  rw[List.cons_lt_cons_iff,List.cons_lt_cons_iff]
  by_cases h:x<y
  ·exact .inl (.inl h)
  ·by_cases h2:y<x
   ·exact .inr (.inr (.inl h2))
   ·have e:x=y:=by
     apply UInt8.toNat_inj.1
     rw[UInt8.lt_iff_toNat_lt] at h h2
     omega
    subst e
    rcases b_tri a b with h3|rfl|h3
    ·exact .inl (.inr ⟨rfl,h3⟩)
    ·exact .inr (.inl rfl)
    ·exact .inr (.inr (.inr ⟨rfl,h3⟩))
theorem b_le{a b:Bs8}:a≤b↔a<b∨a=b:=by
 have h:a≤b↔¬b<a:=Iff.rfl
 rw[h]
 constructor
 ·intro hn
  rcases b_tri a b with h|h|h
  ·exact .inl h
  ·exact .inr h
  ·exact absurd h hn
 ·rintro(h|rfl) h2
  ·exact b_irr _ (b_trans h h2)
  ·exact b_irr _ h2
theorem rise_eq:∀{l m:List Bs8},l.Pairwise (· < ·)→m.Pairwise (· < ·)→(∀a,a∈l↔a∈m)→l=m
 |[],[],_,_,_=>rfl
 |[],b::m,_,_,h=>absurd ((h b).2 List.mem_cons_self) (by simp)
 |a::l,[],_,_,h=>absurd ((h a).1 List.mem_cons_self) (by simp)
 |a::l,b::m,hl,hm,h=>by
  rw[List.pairwise_cons] at hl hm
  have e:a=b:=by
   rcases List.mem_cons.1 ((h a).1 List.mem_cons_self) with e|h1
   ·exact e
   ·rcases List.mem_cons.1 ((h b).2 List.mem_cons_self) with e|h2
    ·exact e.symm
    ·exact absurd (b_trans (hl.1 b h2) (hm.1 a h1)) (b_irr a)
  subst e
  rw[rise_eq hl.2 hm.2 fun c=>?_]
  constructor
  ·intro hc
   rcases List.mem_cons.1 ((h c).1 (List.mem_cons_of_mem _ hc)) with e|h1
   ·subst e;exact absurd (hl.1 _ hc) (b_irr _)
   ·exact h1
  ·intro hc
   rcases List.mem_cons.1 ((h c).2 (List.mem_cons_of_mem _ hc)) with e|h1
   ·subst e;exact absurd (hm.1 _ hc) (b_irr _)
   ·exact h1
def insU(a:Bs8):List Bs8→List Bs8
 |[]=>[a]
 |b::l=>if b<a then b::insU a l else if b=a then b::l else a::b::l
theorem mem_insU{a c:Bs8}:∀{l:List Bs8},c∈insU a l↔c=a∨c∈l
 |[]=>by simp[insU]
 |b::l=>by
  unfold insU
  split
  ·rw[List.mem_cons,mem_insU,List.mem_cons]
   constructor
   ·rintro(h|h|h)<;>simp[h]
   ·rintro(h|h|h)<;>simp[h]
  ·split
   ·rename_i h1 h2
    subst h2
    simp
   ·simp
theorem insU_rise{a:Bs8}:∀{l:List Bs8},l.Pairwise (· < ·)→(insU a l).Pairwise (· < ·)
 |[],_=>by simp[insU]
 |b::l,h=>by
  have h':=List.pairwise_cons.1 h
  unfold insU
  split
  ·rename_i hb
   refine List.pairwise_cons.2 ⟨fun c hc=>?_,insU_rise h'.2⟩
   rcases mem_insU.1 hc with rfl|hc
   ·exact hb
   ·exact h'.1 c hc
  ·split
   ·exact h
   ·rename_i h1 h2
    have hab:a<b:=by
     rcases b_tri a b with h3|h3|h3
     ·exact h3
     ·exact absurd h3.symm h2
     ·exact absurd h3 h1
    refine List.pairwise_cons.2 ⟨fun c hc=>?_,h⟩
    rcases List.mem_cons.1 hc with rfl|hc
    ·exact hab
    ·exact b_trans hab (h'.1 c hc)
theorem insU_len(a:Bs8):∀l:List Bs8,(insU a l).length≤l.length+1
 |[]=>by simp[insU]
 |b::l=>by
  unfold insU
  split
  ·have:=insU_len a l;simp;omega
  ·split<;>simp
def insAll(out l:List Bs8):List Bs8:=l.foldl (fun o a=>insU a o) out
theorem insAll_rise:∀(l out:List Bs8),out.Pairwise (· < ·)→(insAll out l).Pairwise (· < ·)
 |[],_,h=>h
 |a::l,out,h=>insAll_rise l _ (insU_rise h)
theorem mem_insAll{c:Bs8}:∀{l out:List Bs8},c∈insAll out l↔c∈out∨c∈l
 |[],out=>by simp[insAll]
 |a::l,out=>by
  show c∈insAll (insU a out) l↔_
  rw[mem_insAll,mem_insU,List.mem_cons]
  constructor
  ·rintro((h|h)|h)<;>simp[h]
  ·rintro(h|h|h)<;>simp[h]
theorem insAll_len:∀(l out:List Bs8),(insAll out l).length≤out.length+l.length
 |[],out=>by simp[insAll]
 |a::l,out=>by
  show(insAll (insU a out) l).length≤_
  have:=insAll_len l (insU a out)
  have:=insU_len a out
  simp;omega
theorem insAll_take{l out:List Bs8}{k:Nat}{a:Bs8}(h:l[k]? =some a):insAll out (l.take (k+1))=insU a (insAll out (l.take k)):=by
 unfold insAll
 rw[List.take_add_one,h,List.foldl_append];rfl
mutual
def mvars:XT→List Bs8
 | .mk o nm u l=>mvarss (if o=4 then[nm] else[]) l
def mvarss(out:List Bs8):List XT→List Bs8
 |[]=>out
 |x::l=>mvarss (insAll out (mvars x)) l
end
theorem mvars_eq(x:XT):mvars x=mvarss (if x.op=4 then[x.name] else[]) x.args:=by cases x;rw[mvars];rfl
theorem mvarss_step{l:List XT}{i:Nat}{y:XT}{out:List Bs8}(h:l[i]? =some y):mvarss out (l.drop i)=mvarss (insAll out (mvars y)) (l.drop (i+1)):=by
 obtain⟨hl,rfl⟩:=List.getElem?_eq_some_iff.1 h
 rw[List.drop_eq_getElem_cons hl,mvarss]
mutual
theorem mvars_rise:∀x:XT,(mvars x).Pairwise (· < ·)
 | .mk o nm u l=>by rw[mvars];exact mvarss_rise l _ (by split<;>simp)
theorem mvarss_rise:∀(l:List XT) (out:List Bs8),out.Pairwise (· < ·)→(mvarss out l).Pairwise (· < ·)
 |[],out,h=>by rw[mvarss];exact h
 |x::l,out,h=>by rw[mvarss];exact mvarss_rise l _ (insAll_rise _ _ h)
end
mutual
theorem mem_mvars{c:Bs8}:∀x:XT,c∈mvars x↔c∈varsL x
 | .mk o nm u l=>by rw[mvars,varsL,mem_mvarss l,List.mem_append]
theorem mem_mvarss{c:Bs8}:∀(l:List XT) {out:List Bs8},c∈mvarss out l↔c∈out∨c∈varsLs l
 |[],out=>by rw[mvarss,varsLs];simp
 |x::l,out=>by rw[mvarss,varsLs,mem_mvarss l,mem_insAll,mem_mvars x,List.mem_append,or_assoc]
end
mutual
theorem mvars_len:∀x:XT,(mvars x).length≤x.size
 | .mk o nm u l=>by
   rw[mvars,XT.size]
   have:=mvarss_len l (if o=4 then[nm] else[])
   have h2:(if o=4 then[nm] else[]).length≤1:=by split<;>simp
   omega
theorem mvarss_len:∀(l:List XT) (out:List Bs8),(mvarss out l).length≤out.length+XT.sizes l
 |[],out=>by rw[mvarss];omega
 |x::l,out=>by
  rw[mvarss,XT.sizes]
  have:=mvarss_len l (insAll out (mvars x))
  have:=insAll_len (mvars x) out
  have:=mvars_len x
  omega
end
theorem compact_rise{l:List Bs8}(h:l.Pairwise (· ≤ ·)):(Lib.compact l).Pairwise (· < ·)∧∀a,a∈Lib.compact l↔a∈l:=by
 have key:∀m,m≤l.length→(Lib.compactUpTo l.toArray m).Pairwise (· < ·)∧(∀a,a∈Lib.compactUpTo l.toArray m↔a∈l.take m):=by
  intro m
  induction m with
  |zero=>intro _;simp[Lib.compactUpTo]
  |succ m ih=>
   intro hm
   obtain⟨i1,i2⟩:=ih (by omega)
   obtain⟨z,hz⟩:∃z,l[m]? =some z:=⟨l[m],List.getElem?_eq_getElem (by omega)⟩
   have hz':l.toArray[m]! =z:=by
    rw[getElem!_pos l.toArray m (by simp;omega)]
    obtain⟨q1,q2⟩:=List.getElem?_eq_some_iff.1 hz
    simpa using q2
   rw[Lib.compactUpTo_succ,List.take_add_one,hz,hz']
   have hle:∀a∈l.take m,a≤z:=fun a ha=>by
    obtain⟨j,hj,rfl⟩:=List.mem_take_iff_getElem.1 ha
    obtain⟨q1,q2⟩:=List.getElem?_eq_some_iff.1 hz
    rw[←q2]
    exact List.pairwise_iff_getElem.1 h j m (by omega) q1 (by omega)
   by_cases hk:Lib.keeps l.toArray m=true
   ·rw[if_pos hk]
    refine⟨List.pairwise_append.2 ⟨i1,by simp,fun a ha b hb=>?_⟩,fun a=>by simp[i2]⟩
    rw[List.mem_singleton.1 hb]
    have ha2:=(i2 a).1 ha
    rcases b_le.1 (hle a ha2) with h1|rfl
    ·exact h1
    ·
     exfalso
     obtain⟨j,hj,hja⟩:=List.mem_take_iff_getElem.1 ha2
     have hm0:m≠0:=by omega
     have hk2:l.toArray[m]! ≠l.toArray[m-1]! :=by
      unfold Lib.keeps at hk
      simp only[Bool.or_eq_true,beq_iff_eq,bne_iff_ne,decide_eq_true_eq,hm0,false_or] at hk
      exact hk
     rw[hz',getElem!_pos l.toArray (m-1) (by simp;omega)] at hk2
     have hp:l.toArray[m-1]'(by simp;omega)=l[m-1]'(by omega):=by simp
     rw[hp] at hk2
     have h2:l[m-1]'(by omega)≤a:=hle _ (List.mem_take_iff_getElem.2 ⟨m-1,by omega,rfl⟩)
     have h3:a≤l[m-1]'(by omega):=by
      rw[←hja]
      by_cases e:j=m-1
      ·subst e;exact b_le.2 (.inr rfl)
      ·exact List.pairwise_iff_getElem.1 h j (m-1) (by omega) (by omega) (by omega)
     rcases b_le.1 h2 with h4|h4
     ·rcases b_le.1 h3 with h5|h5
      ·exact b_irr _ (b_trans h4 h5)
      ·exact hk2 h5
     ·exact hk2 h4.symm
   ·rw[if_neg hk,List.append_nil]
    refine⟨i1,fun a=>?_⟩
    rw[i2,List.mem_append]
    constructor
    ·exact .inl
    ·rintro(h1|h1)
     ·exact h1
     ·have h1:a=z:=by simpa using h1
      subst h1
      have hm0:m≠0:=fun e=>by subst e;simp[Lib.keeps] at hk
      have hk2:l.toArray[m]! =l.toArray[m-1]! :=by
       unfold Lib.keeps at hk
       simpa[hm0] using hk
      rw[hz',getElem!_pos l.toArray (m-1) (by simp;omega)] at hk2
      rw[hk2]
      exact List.mem_take_iff_getElem.2 ⟨m-1,by omega,by simp⟩
 have:=key l.length (Nat.le_refl _)
 rwa [List.take_of_length_le (Nat.le_refl _)] at this
end Go.Via
namespace Go.Proofs.YtfijbadahkmhbaaGreatDoor
open Go Go.RowKit Go.Via
theorem mvars_U(x:XT):mvars x=varsU x:=by
 have hs:(sortL (varsL x)).Pairwise (· ≤ ·):=by
  have:=List.pairwise_mergeSort (le:=fun(x y:Bs8)=>decide (x≤y)) (fun a b c h1 h2=>by
 simp only[decide_eq_true_eq] at*
 rcases b_le.1 h1 with h3|rfl
 ·rcases b_le.1 h2 with h4|rfl
  ·exact b_le.2 (.inl (b_trans h3 h4))
  ·exact h1
 ·exact h2) (fun a b=>by
 simp only[Bool.or_eq_true,decide_eq_true_eq]
 rcases b_tri a b with h|h|h
 ·exact .inl (b_le.2 (.inl h))
 ·exact .inl (b_le.2 (.inr h))
 ·exact .inr (b_le.2 (.inl h))) (varsL x)
  exact this.imp (fun h=>of_decide_eq_true h)
 obtain⟨h1,h2⟩:=compact_rise hs
 refine rise_eq (mvars_rise x) h1 fun a=>?_
 rw[mem_mvars]
 show a∈varsL x↔a∈Lib.compact (sortL (varsL x))
 rw[h2]
 unfold sortL
 rw[List.mem_mergeSort]
end Go.Proofs.YtfijbadahkmhbaaGreatDoor
namespace Go.Via
open Go Go.RowKit
theorem at_seqX{P:Program}{B:Bs}{s:St}{Q:Exit→Act→World→Prop}{x y:Code}{nt:Nat}{X:Type}(T:X→List (Nat×Value))(LL:X→List Blk)
 (h1:At B s (x.wp P (Exit.then (fun a w=>∃z,Rel B ⟨nt,T z,LL z⟩ a w) Q)))(h2:∀z,At B ⟨nt,T z,LL z⟩ (y.wp P Q)):At B s ((Code.seq x y).wp P Q):=
 at_seq fun a w hr=>Code.wp_mono (fun e a w h=>by
 cases e with
 |normal=>obtain⟨z,h⟩:=h;exact h2 z a w h
 |_=>exact h) (h1 a w hr)
theorem at_intoX{B:Bs}{nt:Nat}{t:List (Nat×Value)}{L:List Blk}{X:Type}{T:X→List (Nat×Value)}{LL:X→List Blk}(z:X)(lk:LookAll t (T z))(hw:Weak L (LL z)):At B ⟨nt,t,L⟩ (fun a w=>∃z,Rel B ⟨nt,T z,LL z⟩ a w):=fun a w hr=>
 ⟨z,hr.df,hr.size,fun d v hd=>hr.tmp d v (lk.mem (d,v) (look_mem hd)),hw _ _ hr.mem⟩
theorem SB_takeC(l:List Bs8)(k:Nat):(SB l).take (k*1)=SB (l.take k):=by simp[SB,List.map_take]
theorem SB_dropC(l:List Bs8)(k:Nat):((SB l).drop (k*1)).take ((l.length-k)*1)=SB (l.drop k):=by
 rw[Nat.mul_one,Nat.mul_one]
 have e:(SB l).drop k=SB (l.drop k):=by simp[SB,List.map_drop]
 rw[e]
 exact List.take_of_length_le (by rw[SB_length,List.length_drop];exact Nat.le_refl _)
theorem sb_cons(l:List Bs8)(k:Nat)(a:Bs8)(hk:k≤l.length):((([.string (strU a)]:List Value)++SB (l.drop k)).drop 0).take ((1+(l.length-k))*1)=[.string (strU a)]++SB (l.drop k):=by
 rw[List.drop_zero]
 exact List.take_of_length_le (by rw[List.length_append,SB_length,List.length_drop];simp)
theorem sb_clen(l:List Bs8)(k:Nat)(a:Bs8)(hk:k≤l.length):(([.string (strU a)]:List Value)++SB (l.drop k)).length=(1+(l.length-k))*1:=by
 rw[List.length_append,SB_length,List.length_drop];simp
theorem sb_cone(a:Bs8)(l:List Bs8):∀v∈([.string (strU a)]:List Value)++SB l,v.oneCell'=true:=fun v h=>by
 rcases List.mem_append.1 h with h|h
 ·rw[List.mem_singleton.1 h];rfl
 ·exact SB_one l v h
theorem mv_init{x:XT}{l0:List Bs8}(h:l0=if x.op=4 then[x.name] else[]):l0.length+XT.sizes (x.args.drop 0)≤x.size:=by
 have h2:l0.length≤1:=by rw[h];split<;>simp
 have:=XT.size_eq x
 rw[List.drop_zero];omega
theorem sb_base{b:Option Nat}{l:List Bs8}(hl:0<l.length)(h:b=none→SB l=[]):∃g,b=some g:=by
 cases b with
 |none=>exact absurd (congrArg List.length (h rfl)) (by rw[SB_length,List.length_nil];omega)
 |some g=>exact⟨g,rfl⟩
theorem insU_at:∀{l:List Bs8} {n:Bs8} {k:Nat},k≤l.length→(∀j z,j<k→l[j]? =some z→z<n)→(∀z,l[k]? =some z→¬z<n∧z≠n)→insU n l=l.take k++n::l.drop k
 |[],n,k,hk,h1,h2=>by
  have:k=0:=by simpa using hk
  subst this;rfl
 |a::l,n,0,hk,h1,h2=>by
  have:=h2 a rfl
  unfold insU
  rw[if_neg this.1,if_neg this.2];rfl
 |a::l,n,k+1,hk,h1,h2=>by
  have ha:=h1 0 a (by omega) rfl
  have ih:=insU_at (l:=l) (n:=n) (k:=k) (by simpa using hk) (fun j z hj hz=>h1 (j+1) z (by omega) (by simpa using hz)) (fun z hz=>h2 z (by simpa using hz))
  unfold insU
  rw[if_pos ha,ih];rfl
theorem insU_eq:∀{l:List Bs8} {n:Bs8} {k:Nat},(∀j z,j<k→l[j]? =some z→z<n)→l[k]? =some n→insU n l=l
 |[],n,k,h1,h2=>by simp at h2
 |a::l,n,0,h1,h2=>by
  simp at h2
  subst h2
  unfold insU
  rw[if_neg (b_irr a),if_pos rfl]
 |a::l,n,k+1,h1,h2=>by
  have ha:=h1 0 a (by omega) rfl
  have ih:=insU_eq (l:=l) (n:=n) (k:=k) (fun j z hj hz=>h1 (j+1) z (by omega) (by simpa using hz)) (by simpa using h2)
  unfold insU
  rw[if_pos ha,ih]
theorem bl_eq:∀(x y:Bs8),Op.bytesLess x y=decide (x<y)
 |[],[]=>by simp[Op.bytesLess]
 |_::_,[]=>by simp[Op.bytesLess]
 |[],_::_=>by simp[Op.bytesLess]
 |a::x,b::y=>by
  rw[Op.bytesLess,bl_eq x y]
  simp only[List.cons_lt_cons_iff]
  by_cases h1:a<b<;>by_cases h2:a=b<;>by_cases h3:x<y<;>simp[h1,h2,h3]
section
variable{P:Program}{bl:List Nat}{ops:Array Oper}{K:St→Prop}{rest:List Oper}{nt:Nat}{t:List (Nat×Value)}{L:List Blk}{d:Nat}{ty:TypeId}{pos:String}{af:Array Edge}{g:Option (Nat×Bool)}{x y:Operand}
theorem r_lssStr{T U:Nat}{m n:Bs8}(hd:Nat.blt d nt=true)(hg:wantedS ops ⟨some d,.binOp .lss T x y U,ty,pos,af,g⟩ t=some true)(hx:ev t x=some (.string (strU m)))(hy:ev t y=some (.string (strU n)))
 (h:Run P bl ops rest ⟨nt,(d,.bool (decide (m<n)))::t,L⟩ K):Run P bl ops (⟨some d,.binOp .lss T x y U,ty,pos,af,g⟩::rest) ⟨nt,t,L⟩ K:=
 run_q hd hg rfl (fun B a w hrel=>by
 have e:Op.bytesLess (strU m).toList (strU n).toList=decide (m<n):=by
  rw[Lib.toList_data,Lib.toList_data]
  exact bl_eq m n
 simp[execOp,hrel.ev hx,hrel.ev hy,eqGuard,binOp,Op.stringOp,e]) h
end
theorem ECall.toS{P:Program}{f:Nat}{L0:List Blk}{args:List Value}{X:Type}{res:X→Value}{new:X→List Blk}(h:ECall P f L0 args X res new):SCall P f L0 args X res new:=⟨h.1,fun w hL=>h.2 (Bs.of w) w rfl hL⟩
end Go.Via
namespace Go.Proofs.YtfijbadahkmhbaaGreatDoor
open Go Go.RowKit Go.Via
def MvaC(y:XT):Prop:=∀(u:XR y),y.size≤1000000→ECall Tryz.prog 26 [gB u.T false] [u.v] (SRw (mvars y)) (fun s=>slv s.b 0 (mvars y).length s.cap) (fun s=>[VR s])
theorem c_law_quoted(l:Bs8)(hl:l.length≤1000000):PCall Tryz.prog 68 #[.string (strU l)] (.string (strU ([34]++quoS l++[34]))):=by
 refine⟨by kernel_rfl,fun w=>?_⟩;refine cB1 26 Tryz.func68 (LRel.nil w) ?_;refine A17 ?_;refine El (ι:={i:Nat // i≤l.length}) (fun⟨i,hi⟩=>([(0,.string (strU l)),(3,.string (strU ([34]++quoS (l.take i)))),(4,.int .i64 (i:Nat))],[],l.length-i)) ⟨0,Nat.zero_le _⟩ ?_;rintro⟨i,hi⟩;(try dsimp only);refine A6 ?_;refine r_know 7 (.int .i64 (l.length:Nat)) rfl (by rw[strU_size]) ?_;refine A3 ?_;refine Cd ?_ ?_<;>intro hb1
 ·have hlt:i<l.length:=(by have:=of_decide_eq_true hb1;omega);obtain⟨c,hx⟩:∃c,l[i]? =some c:=⟨l[i],List.getElem?_eq_getElem hlt⟩;refine A9 ?_;refine r_idxS (b:=c) (r:=(c.toNat:Int)) u9 rfl rfl rfl rfl (by omega) hx rfl ?_;refine A3 ?_;refine Cd ?_ ?_<;>intro hb2
  ·have h34:c=34:=by have hh:=hb2;exact UInt8.toNat_inj.1 (by simpa using Int.ofNat_inj.1 (eq_of_beq hh))
   have hqs:=quoS_step hx;rw[if_pos h34] at hqs;have hql:=quoS_le2 (l.take i);have htl:(l.take i).length≤i:=(by rw[List.length_take];omega);refine A2 ?_;refine r_addS (p:=[34]++quoS (l.take i)) (q:=[34]) rfl rfl rfl rfl rfl rfl rfl (by simp only[List.length_append,List.length_cons,List.length_nil];omega) ?_;refine A8 ?_;refine Ar (((i+1:Nat):Int)) ?_;refine r_sliceS (i:=i) (j:=i+1) (r:=[c]) u9 rfl rfl rfl rfl rfl (by omega) (by omega) (by rw[drop_at hx,Nat.add_sub_cancel_left];rfl) ?_;refine r_addS (p:=[34]++quoS (l.take i)++[34]) (q:=[c]) rfl rfl rfl rfl rfl rfl rfl (by simp only[List.length_append,List.length_cons,List.length_nil];omega) ?_;refine A6 ?_;refine Ar (((i+1:Nat):Int)) ?_;refine A3 ?_;exact Nl ⟨i+1,hlt⟩ (ht:=⟨rfl,(look_val rfl (congrArg (fun s:Bs8=>Value.string (strU s)) (by rw[hqs,h34];simp))),rfl,trivial⟩)
  ·have h34:c≠34:=by have hh:=hb2;intro e;subst e;exact absurd hh (by decide)
   have hqs:=quoS_step hx;rw[if_neg h34] at hqs;have hql:=quoS_le2 (l.take i);have htl:(l.take i).length≤i:=(by rw[List.length_take];omega);refine A7 ?_;refine Ar (((i+1:Nat):Int)) ?_;refine r_sliceS (i:=i) (j:=i+1) (r:=[c]) u9 rfl rfl rfl rfl rfl (by omega) (by omega) (by rw[drop_at hx,Nat.add_sub_cancel_left];rfl) ?_;refine r_addS (p:=[34]++quoS (l.take i)) (q:=[c]) rfl rfl rfl rfl rfl rfl rfl (by simp only[List.length_append,List.length_cons,List.length_nil];omega) ?_;refine A6 ?_;refine Ar (((i+1:Nat):Int)) ?_;refine A3 ?_;exact Nl ⟨i+1,hlt⟩ (ht:=⟨rfl,(look_val rfl (congrArg (fun s:Bs8=>Value.string (strU s)) (by rw[hqs];simp))),rfl,trivial⟩)
 ·have hge:i=l.length:=(by have:=of_decide_eq_false hb1;omega);have htk:l.take i=l:=by rw[hge];exact List.take_of_length_le (Nat.le_refl _)
  refine A8 ?_;refine r_addS (p:=[34]++quoS (l.take i)) (q:=[34]) rfl rfl rfl rfl rfl rfl rfl (by have hql:=quoS_le2 (l.take i);have htl:(l.take i).length≤l.length:=(by rw[List.length_take];omega);simp only[List.length_append,List.length_cons,List.length_nil];omega) ?_;refine A4 ?_;refine E1 fun w hL=>⟨?_,hL.below⟩;exact congrArg (fun s:Bs8=>Ending.returned (.string (strU s))) (by rw[htk])
theorem c_law_has(b:Option Nat)(e:Nat)(pre:List Value)(l:List Bs8)(n cap:Nat)(hl:l.length≤1000000000)(s:Bs8):ECall Tryz.prog 57 [VBk b e pre l n] [slv b pre.length l.length cap,.string (strU s)] Unit (fun _=> .bool (l.contains s)) (fun _=>[]):=by
 refine⟨by kernel_rfl,fun B w hD hL0=>?_⟩;refine cB2 18 Tryz.func57 hL0 ?_;refine A12 ?_;refine El (ι:={i:Nat // i≤l.length∧(l.take i).contains s=false}) (fun⟨i,hi,hI⟩=>([(0,slv b pre.length l.length cap),(1,.string (strU s)),(5,.int .i64 (i:Nat))],[VBk b e pre l n],l.length-i)) ⟨0,Nat.zero_le _,rfl⟩ ?_ (hL:=Weak.auto);rintro⟨i,hi,hI⟩;(try dsimp only);refine A9 ?_;refine Cd ?_ ?_<;>intro hb1
 ·have hlt:i<l.length:=(by have:=of_decide_eq_true hb1;omega);obtain⟨v,hv⟩:∃v,l[i]? =some v:=⟨l[i],List.getElem?_eq_getElem hlt⟩;refine A8 ?_;refine r_indexAddr 0 (pre.length+i*1) u36 ti9 rfl rfl rfl rfl rfl (by omega) (by omega) (pre_ne (SB_ne (by omega))) (by show _+Int.toNat _*1=_;omega) ?_;refine r_load (v:= .string (strU v)) 0 (pre.length+i*1) _ rfl rfl rfl rfl ti9 (pre_get (SB_get hv) rfl) rfl (by decide) rfl ?_;refine A2 ?_;refine r_know 17 (.bool (v==s)) rfl (by rw[strU_beq]) ?_;refine A2 ?_;refine Cd ?_ ?_<;>intro hb2
  ·have hvs:v=s:=by have hh:=hb2;simpa using hh
   refine A11 ?_;refine at_end1 rfl (res_tmp rfl) (fun w hL=>⟨(),eB (has_yes hv hvs).symm,hL.pk []⟩)
  ·have hvs:v≠s:=by have hh:=hb2;simpa using hh
   refine A5 ?_;refine Ar (((i+1:Nat):Int)) ?_;refine A3 ?_;exact Nl ⟨i+1,hlt,has_step hI hv hvs⟩ (hL:=Weak.auto)
 ·have hge:i=l.length:=(by have:=of_decide_eq_false hb1;omega);refine A11 ?_;refine at_end1 rfl (res_tmp rfl) (fun w hL=>⟨(),eB (has_no hI hge).symm,hL.pk []⟩)
theorem c_part_o{x:XT}(z:XR x)(hT:TexC x)(hk:okX x)(hf:x.fit=true)(o:Frm)(hmf:mfind x.op=some o)(lv:Nat)(h8:lv≤8)(hb:(txt x lv).length≤17179869184):ECall Tryz.prog 70 [gB z.T false] [z.v,.int .i64 (lv:Nat)] Unit (fun _=> .string (strU (txt x lv))) (fun _=>[]):=by
 refine⟨by kernel_rfl,fun B w hD hL0=>?_⟩;obtain⟨h1,h2,h3,h4,h5,h6⟩:=z.inv;have hpl:=part_len hmf h8;have hpt:=part_txt hmf h8;refine cB2 28 Tryz.func70 hL0 ?_;refine A2 ?_;refine Bo [_,_,_,_,_,_,_] 7 (fun g=>[_,⟨some g,30,_,7,true⟩]) (fun g0=>?_);refine A5 ?_;refine at_regionM ?_;refine A2 ?_;refine Kp 9 h1 ?_;refine Gm 0 [] [] (fun _=>[_,_]) (c_law_of x.op) (fun _=>?_);refine r_know 10 (.tuple #[.agg #[.int .i64 (o.1:Nat),.int .i64 (o.2.1:Nat),.int .i64 (o.2.2.1:Nat),.string (strU o.2.2.2)],.bool true]) rfl (by unfold mofV;rw[hmf];rfl) ?_;refine A3 ?_;refine r_alloc [_,_,_,_] 4 (fun g=>[_,_,⟨some g,94,_,4,true⟩]) rfl rfl z94 rfl rfl (fun _=>rfl) (fun g1=>?_);refine So 2 0 [_,_,⟨some g1,94,_,4,true⟩] [_,_,_,_] ?_;refine A9 ?_;refine Rs 16 ?_ ?_<;>intro hb0
 ·have q1:0<o.2.2.1:=by have:=of_decide_eq_true hb0;omega
  refine A7 ?_;refine Cd ?_ ?_<;>intro hb1
  ·have q2:o.2.2.1<lv:=by have:=of_decide_eq_true hb1;omega
   rw[if_pos ⟨q1,q2⟩] at hpt;have hbl:=hb;rw[hpt] at hbl;refine A1 ?_;refine at_regionM ?_;refine Ld 1 0 [_,_,_,_,_,_,_] ti30 ?_;refine Kr 22 (z.v) ?_;refine Gm 0 [] [0] (fun _=>[_,_,_]) (hT z hk hf (by omega)) (fun _=>?_);refine r_addS (p:=[40]) (q:=txt x 1) rfl rfl rfl rfl rfl rfl rfl (by simp only[List.length_append,List.length_cons,List.length_nil] at hbl ⊢;omega) ?_;refine r_addS (p:=[40]++txt x 1) (q:=[41]) rfl rfl rfl rfl rfl rfl rfl (by simp only[List.length_append,List.length_cons,List.length_nil] at hbl ⊢;omega) ?_;refine A5 ?_;refine at_end1 rfl (res_tmp rfl) (fun w hL=>⟨(),congrArg (fun s:Bs8=>Ending.returned (.string (strU s))) (hpt).symm,hL.pk []⟩)
  ·have q2:¬o.2.2.1<lv:=by have:=of_decide_eq_false hb1;omega
   refine A3 ?_;refine at_regionM ?_;refine Ld 1 0 [_,_,_,_,_,_,_] ti30 ?_;refine Kr 26 (z.v) ?_;refine Gm 0 [] [0] (fun _=>[_,_,_]) (hT z hk hf (by omega)) (fun _=>?_);refine A4 ?_;refine at_end1 rfl (res_tmp rfl) (fun w hL=>⟨(),congrArg (fun s:Bs8=>Ending.returned (.string (strU s))) (show txt x lv=txt x 1 from by rw[hpt,if_neg (by omega)]).symm,hL.pk []⟩)
 ·have q1:¬0<o.2.2.1:=by have:=of_decide_eq_false hb0;omega
  refine A11 ?_;refine at_regionM ?_;refine Ld 1 0 [_,_,_,_,_,_,_] ti30 ?_;refine Kr 26 (z.v) ?_;refine Gm 0 [] [0] (fun _=>[_,_,_]) (hT z hk hf (by omega)) (fun _=>?_);refine A4 ?_;refine at_end1 rfl (res_tmp rfl) (fun w hL=>⟨(),congrArg (fun s:Bs8=>Ending.returned (.string (strU s))) (show txt x lv=txt x 1 from by rw[hpt,if_neg (by omega)]).symm,hL.pk []⟩)
theorem c_part{x:XT}(z:XR x)(hT:TexC x)(hk:okX x)(hf:x.fit=true)(lv:Nat)(h8:lv≤8)(hb:(txt x lv).length≤17179869184):
 ECall Tryz.prog 70 [gB z.T false] [z.v,.int .i64 (lv:Nat)] Unit (fun _=> .string (strU (txt x lv))) (fun _=>[]):=by
 obtain⟨o,ho⟩:=mfind_ok (okX_parts hk).1
 exact c_part_o z hT hk hf o ho lv h8 hb
end Go.Proofs.YtfijbadahkmhbaaGreatDoor
namespace Go.Via
open Go Go.RowKit
abbrev VI(gv:Nat)(n:Int):Blk:=⟨some gv,3,[.int .i64 n],1,true⟩
end Go.Via
namespace Go.Proofs.YtfijbadahkmhbaaGreatDoor
open Go Go.RowKit Go.Via
def FewC(y:XT):Prop:=∀(u:XR y) (lv:Nat) (n:Int) (gv:Nat),(0≤n∧n≤1000000)→lv≤1000000→y.lim=true→
 ECall Tryz.prog 47 [VI gv n,gB u.T false] [u.v,.int .i64 (lv:Nat),.pointer (some ⟨gv,0,none⟩)] Unit (fun _=> .bool (few y lv n).1) (fun _=>[VI gv (few y lv n).2])
theorem byS{p:XT→Prop}(h:∀x:XT,(∀y:XT,y.size<x.size→p y)→p x)(x:XT):p x:=by
 suffices k:∀n:Nat,∀x:XT,x.size<n→p x from k _ x (Nat.lt_succ_self _)
 intro n
 induction n with
 |zero=>intro x hx;omega
 |succ n ih=>exact fun x hx=>h x fun y hy=>ih y (by omega)
theorem c_list{x:XT}(z:XR x)(H:∀y:XT,y.size<x.size→TexC y)(hk:okX x)(hf:x.fit=true)(hb:(joinC (txtLs x.args)).length≤17179869184):ECall Tryz.prog 69 [gB z.T false] [.slice z.a z.n z.cap] Unit (fun _=> .string (strU (joinC (txtLs x.args)))) (fun _=>[]):=by
 refine⟨by kernel_rfl,fun B w hD hL0=>?_⟩;obtain⟨h1,h2,h3,h4,h5,h6⟩:=z.inv;have hfp:=XT.fit_parts hf;have hk2:=(okX_parts hk).2;have hal:=nodeE_len (okX_parts hk).1;refine cB1 23 Tryz.func69 hL0 ?_;refine A17 ?_;refine El (ι:={i:Nat // i≤x.args.length}) (fun⟨i,hi⟩=>([(0,.slice z.a z.n z.cap),(3,.string (strU (joinC ((txtLs x.args).take i)))),(4,.int .i64 (i:Nat))],[gB z.T false],x.args.length-i)) ⟨0,Nat.zero_le _⟩ ?_ (hL:=Weak.auto);rintro⟨i,hi⟩;(try dsimp only);refine A6 ?_;refine r_know 7 (.int .i64 (x.args.length:Nat)) rfl (by rw[h5]) ?_;refine A3 ?_;refine Cd ?_ ?_<;>intro hb1
 ·have hlt:i<x.args.length:=by have:=of_decide_eq_true hb1;omega
  obtain⟨y,hy⟩:∃y,x.args[i]? =some y:=⟨x.args[i],List.getElem?_eq_getElem hlt⟩;obtain⟨ga,oa,ca,u,hza,hma,hra,hTa,hna⟩:=z.arg hy;have hjs:=joinC_step hy;have hjt:=joinC_take_le x.args (i+1);rw[hjs] at hjt;have hjb:=Nat.le_trans hjt hb;refine A11 ?_;refine Cd ?_ ?_<;>intro hb2
  ·have hi0:0<i:=by have:=of_decide_eq_true hb2;omega
   have hsep:sepS i=[44,32]:=(by unfold sepS;rw[if_neg (by omega)]);rw[hsep] at hjs hjb;refine A2 ?_;refine r_addS (p:=joinC ((txtLs x.args).take i)) (q:=[44,32]) rfl rfl rfl rfl rfl rfl rfl (by simp only[List.length_append,List.length_cons,List.length_nil] at hjb ⊢;omega) ?_;refine A3 ?_;refine at_regionM ?_;refine A3 ?_;refine r_indexAddrG (gg:=ga) (len:=z.n) (cap:=z.cap) (oa+i*7) u28 ti30 rfl rfl (congrArg (fun a=>some (Value.slice a z.n z.cap)) hza) rfl (by omega) (by omega) (by show oa+Int.toNat _*7=_;omega) ?_;refine r_loadT (v:=u.v) 0 (oa+i*7) u.cs rfl rfl rfl z.hT hma hna rfl ti30 hra rfl rfl rfl ?_;refine Gm 0 [] [0] (fun _=>[_]) (by have h:=H y (XT.arg_lt hy) u (okXs_get hk2 hy) (XT.fits_get hfp.2.2 hy) (by simp only[List.length_append,List.length_cons,List.length_nil] at hjb ⊢;omega);rw[hTa] at h;exact h) (fun _=>?_);refine r_addS (p:=joinC ((txtLs x.args).take i)++[44,32]) (q:=txt y 1) rfl rfl rfl rfl rfl rfl rfl (by simp only[List.length_append,List.length_cons,List.length_nil] at hjb ⊢;omega) ?_;refine A6 ?_;refine Ar (((i+1:Nat):Int)) ?_;refine A3 ?_;exact Nl ⟨i+1,hlt⟩ (ht:=⟨rfl,(look_val rfl (congrArg (fun s:Bs8=>Value.string (strU s)) (by rw[hjs]))),rfl,trivial⟩) (hL:=Weak.auto)
  ·have hi0:¬0<i:=by have:=of_decide_eq_false hb2;omega
   have hsep:sepS i=[]:=(by unfold sepS;rw[if_pos (by omega)]);rw[hsep] at hjs hjb;refine A2 ?_;refine at_regionM ?_;refine A3 ?_;refine r_indexAddrG (gg:=ga) (len:=z.n) (cap:=z.cap) (oa+i*7) u28 ti30 rfl rfl (congrArg (fun a=>some (Value.slice a z.n z.cap)) hza) rfl (by omega) (by omega) (by show oa+Int.toNat _*7=_;omega) ?_;refine r_loadT (v:=u.v) 0 (oa+i*7) u.cs rfl rfl rfl z.hT hma hna rfl ti30 hra rfl rfl rfl ?_;refine Gm 0 [] [0] (fun _=>[_]) (by have h:=H y (XT.arg_lt hy) u (okXs_get hk2 hy) (XT.fits_get hfp.2.2 hy) (by simp only[List.length_append,List.length_cons,List.length_nil] at hjb ⊢;omega);rw[hTa] at h;exact h) (fun _=>?_);refine r_addS (p:=joinC ((txtLs x.args).take i)) (q:=txt y 1) rfl rfl rfl rfl rfl rfl rfl (by simp only[List.length_append,List.length_cons,List.length_nil] at hjb ⊢;omega) ?_;refine A6 ?_;refine Ar (((i+1:Nat):Int)) ?_;refine A3 ?_;exact Nl ⟨i+1,hlt⟩ (ht:=⟨rfl,(look_val rfl (congrArg (fun s:Bs8=>Value.string (strU s)) (by rw[hjs];simp))),rfl,trivial⟩) (hL:=Weak.auto)
 ·have hge:i=x.args.length:=by have:=of_decide_eq_false hb1;omega
  have hall:(txtLs x.args).take i=txtLs x.args:=(by rw[hge];exact txtLs_all x.args);refine A12 ?_;refine at_end1 rfl (res_tmp rfl) (fun w hL=>⟨(),congrArg (fun s:Bs8=>Ending.returned (.string (strU s))) (show joinC (txtLs x.args)=joinC ((txtLs x.args).take i) from by rw[hall]).symm,hL.pk []⟩)
theorem c_text_1{x:XT}(z:XR x)(H:∀y:XT,y.size<x.size→TexC y)(hk:okX x)(hf:x.fit=true)(o:Frm)(hmf:mfind x.op=some o)(hop:x.op=1)(hok:x.num.ok=true)(htx:txt x 1=ratS x.num.rat)(hb:(txt x 1).length≤17179869184):ECall Tryz.prog 35 [gB z.T false] [z.v] Unit (fun _=> .string (strU (txt x 1))) (fun _=>[]):=by
 refine⟨by kernel_rfl,fun B w hD hL0=>?_⟩;obtain⟨h1,h2,h3,h4,h5,h6⟩:=z.inv;have hfp:=XT.fit_parts hf;have hk2:=(okX_parts hk).2;have hbl:=hb;rw[htx] at hbl;obtain⟨hq1,hq2⟩:=NumV.rat_ok h3 hfp.2.1 hok;refine cB1 119 Tryz.func35 hL0 ?_;refine A2 ?_;refine Bo [_,_,_,_,_,_,_] 7 (fun g=>[_,⟨some g,30,_,7,true⟩]) (fun g0=>?_);refine A4 ?_;refine at_regionM ?_;refine A2 ?_;refine Kp 7 h1 ?_;refine Gm 0 [] [] (fun _=>[_,_]) (c_law_of x.op) (fun _=>?_);refine r_know 8 (.tuple #[.agg #[.int .i64 (o.1:Nat),.int .i64 (o.2.1:Nat),.int .i64 (o.2.2.1:Nat),.string (strU o.2.2.2)],.bool true]) rfl (by unfold mofV;rw[hmf];rfl) ?_;refine A3 ?_;refine r_alloc [_,_,_,_] 4 (fun g=>[_,_,⟨some g,94,_,4,true⟩]) rfl rfl z94 rfl rfl (fun _=>rfl) (fun g1=>?_);refine So 2 0 [_,_,⟨some g1,94,_,4,true⟩] [_,_,_,_] ?_;refine A9 ?_;refine Kp 13 h1 ?_;refine A1 ?_;refine r_know 14 (.bool true) rfl (by rw[hop];rfl) ?_;refine A7 ?_;refine Ld 1 2 [_,_,_,_] ti27 ?_;refine r_know 16 (Q x.num.rat) rfl hq1 ?_;refine Pc (c_rational_Print x.num.rat hq2) ?_;refine A6 ?_;refine at_end1 rfl (res_tmp rfl) (fun w hL=>⟨(),congrArg (fun s:Bs8=>Ending.returned (.string (strU s))) (htx).symm,hL.pk []⟩)
theorem c_text_3{x:XT}(z:XR x)(H:∀y:XT,y.size<x.size→TexC y)(hk:okX x)(hf:x.fit=true)(o:Frm)(hmf:mfind x.op=some o)(hop:x.op=3)(hok:x.num.ok=true)(htx:txt x 1=sObject++ratS x.num.rat++[41])(hb:(txt x 1).length≤17179869184):ECall Tryz.prog 35 [gB z.T false] [z.v] Unit (fun _=> .string (strU (txt x 1))) (fun _=>[]):=by
 refine⟨by kernel_rfl,fun B w hD hL0=>?_⟩;obtain⟨h1,h2,h3,h4,h5,h6⟩:=z.inv;have hfp:=XT.fit_parts hf;have hk2:=(okX_parts hk).2;have hbl:=hb;rw[htx] at hbl;obtain⟨hq1,hq2⟩:=NumV.rat_ok h3 hfp.2.1 hok;refine cB1 119 Tryz.func35 hL0 ?_;refine A2 ?_;refine Bo [_,_,_,_,_,_,_] 7 (fun g=>[_,⟨some g,30,_,7,true⟩]) (fun g0=>?_);refine A4 ?_;refine at_regionM ?_;refine A2 ?_;refine Kp 7 h1 ?_;refine Gm 0 [] [] (fun _=>[_,_]) (c_law_of x.op) (fun _=>?_);refine r_know 8 (.tuple #[.agg #[.int .i64 (o.1:Nat),.int .i64 (o.2.1:Nat),.int .i64 (o.2.2.1:Nat),.string (strU o.2.2.2)],.bool true]) rfl (by unfold mofV;rw[hmf];rfl) ?_;refine A3 ?_;refine r_alloc [_,_,_,_] 4 (fun g=>[_,_,⟨some g,94,_,4,true⟩]) rfl rfl z94 rfl rfl (fun _=>rfl) (fun g1=>?_);refine So 2 0 [_,_,⟨some g1,94,_,4,true⟩] [_,_,_,_] ?_;refine A9 ?_;refine Kp 13 h1 ?_;refine A1 ?_;refine r_know 14 (.bool false) rfl (by rw[hop];rfl) ?_;refine A8 ?_;refine Kp 20 h1 ?_;refine A1 ?_;refine r_know 21 (.bool true) rfl (by rw[hop];rfl) ?_;refine A7 ?_;refine Ld 1 2 [_,_,_,_] ti27 ?_;refine r_know 23 (Q x.num.rat) rfl hq1 ?_;refine Pc (c_rational_Print x.num.rat hq2) ?_;refine r_addS (p:=sObject) (q:=ratS x.num.rat) rfl rfl rfl rfl rfl rfl rfl (by simp only[List.length_append,List.length_cons,List.length_nil] at hbl ⊢;omega) ?_;refine r_addS (p:=sObject++ratS x.num.rat) (q:=[41]) rfl rfl rfl rfl rfl rfl rfl (by simp only[List.length_append,List.length_cons,List.length_nil] at hbl ⊢;omega) ?_;refine A6 ?_;refine at_end1 rfl (res_tmp rfl) (fun w hL=>⟨(),congrArg (fun s:Bs8=>Ending.returned (.string (strU s))) (htx).symm,hL.pk []⟩)
theorem c_text_4{x:XT}(z:XR x)(H:∀y:XT,y.size<x.size→TexC y)(hk:okX x)(hf:x.fit=true)(o:Frm)(hmf:mfind x.op=some o)(hop:x.op=4)(htx:txt x 1=x.name)(hb:(txt x 1).length≤17179869184):ECall Tryz.prog 35 [gB z.T false] [z.v] Unit (fun _=> .string (strU (txt x 1))) (fun _=>[]):=by
 refine⟨by kernel_rfl,fun B w hD hL0=>?_⟩;obtain⟨h1,h2,h3,h4,h5,h6⟩:=z.inv;have hfp:=XT.fit_parts hf;have hk2:=(okX_parts hk).2;have hbl:=hb;rw[htx] at hbl;refine cB1 119 Tryz.func35 hL0 ?_;refine A2 ?_;refine Bo [_,_,_,_,_,_,_] 7 (fun g=>[_,⟨some g,30,_,7,true⟩]) (fun g0=>?_);refine A4 ?_;refine at_regionM ?_;refine A2 ?_;refine Kp 7 h1 ?_;refine Gm 0 [] [] (fun _=>[_,_]) (c_law_of x.op) (fun _=>?_);refine r_know 8 (.tuple #[.agg #[.int .i64 (o.1:Nat),.int .i64 (o.2.1:Nat),.int .i64 (o.2.2.1:Nat),.string (strU o.2.2.2)],.bool true]) rfl (by unfold mofV;rw[hmf];rfl) ?_;refine A3 ?_;refine r_alloc [_,_,_,_] 4 (fun g=>[_,_,⟨some g,94,_,4,true⟩]) rfl rfl z94 rfl rfl (fun _=>rfl) (fun g1=>?_);refine So 2 0 [_,_,⟨some g1,94,_,4,true⟩] [_,_,_,_] ?_;refine A9 ?_;refine Kp 13 h1 ?_;refine A1 ?_;refine r_know 14 (.bool false) rfl (by rw[hop];rfl) ?_;refine A8 ?_;refine Kp 20 h1 ?_;refine A1 ?_;refine r_know 21 (.bool false) rfl (by rw[hop];rfl) ?_;refine A8 ?_;refine Kp 29 h1 ?_;refine A1 ?_;refine r_know 30 (.bool true) rfl (by rw[hop];rfl) ?_;refine A8 ?_;refine r_know 32 (.string (strU x.name)) rfl (by rw[h2]) ?_;refine A6 ?_;refine at_end1 rfl (res_tmp rfl) (fun w hL=>⟨(),congrArg (fun s:Bs8=>Ending.returned (.string (strU s))) (htx).symm,hL.pk []⟩)
theorem c_text_5{x:XT}(z:XR x)(H:∀y:XT,y.size<x.size→TexC y)(hk:okX x)(hf:x.fit=true)(o:Frm)(hmf:mfind x.op=some o)(hop:x.op=5)(htx:txt x 1=[122,111,110,101,40]++([34]++quoS x.name++[34])++[41])(hb:(txt x 1).length≤17179869184):ECall Tryz.prog 35 [gB z.T false] [z.v] Unit (fun _=> .string (strU (txt x 1))) (fun _=>[]):=by
 refine⟨by kernel_rfl,fun B w hD hL0=>?_⟩;obtain⟨h1,h2,h3,h4,h5,h6⟩:=z.inv;have hfp:=XT.fit_parts hf;have hk2:=(okX_parts hk).2;have hbl:=hb;rw[htx] at hbl;refine cB1 119 Tryz.func35 hL0 ?_;refine A2 ?_;refine Bo [_,_,_,_,_,_,_] 7 (fun g=>[_,⟨some g,30,_,7,true⟩]) (fun g0=>?_);refine A4 ?_;refine at_regionM ?_;refine A2 ?_;refine Kp 7 h1 ?_;refine Gm 0 [] [] (fun _=>[_,_]) (c_law_of x.op) (fun _=>?_);refine r_know 8 (.tuple #[.agg #[.int .i64 (o.1:Nat),.int .i64 (o.2.1:Nat),.int .i64 (o.2.2.1:Nat),.string (strU o.2.2.2)],.bool true]) rfl (by unfold mofV;rw[hmf];rfl) ?_;refine A3 ?_;refine r_alloc [_,_,_,_] 4 (fun g=>[_,_,⟨some g,94,_,4,true⟩]) rfl rfl z94 rfl rfl (fun _=>rfl) (fun g1=>?_);refine So 2 0 [_,_,⟨some g1,94,_,4,true⟩] [_,_,_,_] ?_;refine A9 ?_;refine Kp 13 h1 ?_;refine A1 ?_;refine r_know 14 (.bool false) rfl (by rw[hop];rfl) ?_;refine A8 ?_;refine Kp 20 h1 ?_;refine A1 ?_;refine r_know 21 (.bool false) rfl (by rw[hop];rfl) ?_;refine A8 ?_;refine Kp 29 h1 ?_;refine A1 ?_;refine r_know 30 (.bool false) rfl (by rw[hop];rfl) ?_;refine A8 ?_;refine Kp 35 h1 ?_;refine A1 ?_;refine r_know 36 (.bool true) rfl (by rw[hop];rfl) ?_;refine A8 ?_;refine r_know 38 (.string (strU x.name)) rfl (by rw[h2]) ?_;refine Pc (c_law_quoted x.name hfp.1) ?_;refine r_addS (p:=[122,111,110,101,40]) (q:=[34]++quoS x.name++[34]) rfl rfl rfl rfl rfl rfl rfl (by simp only[List.length_append,List.length_cons,List.length_nil] at hbl ⊢;omega) ?_;refine r_addS (p:=[122,111,110,101,40]++([34]++quoS x.name++[34])) (q:=[41]) rfl rfl rfl rfl rfl rfl rfl (by simp only[List.length_append,List.length_cons,List.length_nil] at hbl ⊢;omega) ?_;refine A6 ?_;refine at_end1 rfl (res_tmp rfl) (fun w hL=>⟨(),congrArg (fun s:Bs8=>Ending.returned (.string (strU s))) (htx).symm,hL.pk []⟩)
theorem c_text_6{x:XT}(z:XR x)(H:∀y:XT,y.size<x.size→TexC y)(hk:okX x)(hf:x.fit=true)(o:Frm)(hmf:mfind x.op=some o)(hop:x.op=6)(htx:txt x 1=[91]++joinC (txtLs x.args)++[93])(hb:(txt x 1).length≤17179869184):ECall Tryz.prog 35 [gB z.T false] [z.v] Unit (fun _=> .string (strU (txt x 1))) (fun _=>[]):=by
 refine⟨by kernel_rfl,fun B w hD hL0=>?_⟩;obtain⟨h1,h2,h3,h4,h5,h6⟩:=z.inv;have hfp:=XT.fit_parts hf;have hk2:=(okX_parts hk).2;have hbl:=hb;rw[htx] at hbl;refine cB1 119 Tryz.func35 hL0 ?_;refine A2 ?_;refine Bo [_,_,_,_,_,_,_] 7 (fun g=>[_,⟨some g,30,_,7,true⟩]) (fun g0=>?_);refine A4 ?_;refine at_regionM ?_;refine A2 ?_;refine Kp 7 h1 ?_;refine Gm 0 [] [] (fun _=>[_,_]) (c_law_of x.op) (fun _=>?_);refine r_know 8 (.tuple #[.agg #[.int .i64 (o.1:Nat),.int .i64 (o.2.1:Nat),.int .i64 (o.2.2.1:Nat),.string (strU o.2.2.2)],.bool true]) rfl (by unfold mofV;rw[hmf];rfl) ?_;refine A3 ?_;refine r_alloc [_,_,_,_] 4 (fun g=>[_,_,⟨some g,94,_,4,true⟩]) rfl rfl z94 rfl rfl (fun _=>rfl) (fun g1=>?_);refine So 2 0 [_,_,⟨some g1,94,_,4,true⟩] [_,_,_,_] ?_;refine A9 ?_;refine Kp 13 h1 ?_;refine A1 ?_;refine r_know 14 (.bool false) rfl (by rw[hop];rfl) ?_;refine A8 ?_;refine Kp 20 h1 ?_;refine A1 ?_;refine r_know 21 (.bool false) rfl (by rw[hop];rfl) ?_;refine A8 ?_;refine Kp 29 h1 ?_;refine A1 ?_;refine r_know 30 (.bool false) rfl (by rw[hop];rfl) ?_;refine A8 ?_;refine Kp 35 h1 ?_;refine A1 ?_;refine r_know 36 (.bool false) rfl (by rw[hop];rfl) ?_;refine A8 ?_;refine Kp 44 h1 ?_;refine A1 ?_;refine r_know 45 (.bool true) rfl (by rw[hop];rfl) ?_;refine A8 ?_;refine r_scall0 [.slice z.a z.n z.cap] [0] rfl rfl rfl (ECall.toS (c_list z H hk hf (by simp only[List.length_append,List.length_cons,List.length_nil] at hbl ⊢;omega))) ⟨⟨_,rfl,Blk.le_refl _⟩,trivial⟩ rfl ?_;refine r_addS (p:=[91]) (q:=joinC (txtLs x.args)) rfl rfl rfl rfl rfl rfl rfl (by simp only[List.length_append,List.length_cons,List.length_nil] at hbl ⊢;omega) ?_;refine r_addS (p:=[91]++joinC (txtLs x.args)) (q:=[93]) rfl rfl rfl rfl rfl rfl rfl (by simp only[List.length_append,List.length_cons,List.length_nil] at hbl ⊢;omega) ?_;refine A6 ?_;refine at_end1 rfl (res_tmp rfl) (fun w hL=>⟨(),congrArg (fun s:Bs8=>Ending.returned (.string (strU s))) (htx).symm,hL.pk []⟩)
theorem c_text_25{x:XT}(z:XR x)(H:∀y:XT,y.size<x.size→TexC y)(hk:okX x)(hf:x.fit=true)(o:Frm)(hmf:mfind x.op=some o)(hop:x.op=25){y0:XT}(hy0:x.args[0]? =some y0)(htx:txt x 1=sNot++txt y0 3)(hb:(txt x 1).length≤17179869184):ECall Tryz.prog 35 [gB z.T false] [z.v] Unit (fun _=> .string (strU (txt x 1))) (fun _=>[]):=by
 refine⟨by kernel_rfl,fun B w hD hL0=>?_⟩;obtain⟨h1,h2,h3,h4,h5,h6⟩:=z.inv;have hfp:=XT.fit_parts hf;have hk2:=(okX_parts hk).2;have hbl:=hb;rw[htx] at hbl;have hl0:=(List.getElem?_eq_some_iff.1 hy0).1;obtain⟨ga,oa,ca,v1,hza,hma,hra,hTa,hna⟩:=z.arg hy0;refine cB1 119 Tryz.func35 hL0 ?_;refine A2 ?_;refine Bo [_,_,_,_,_,_,_] 7 (fun g=>[_,⟨some g,30,_,7,true⟩]) (fun g0=>?_);refine A4 ?_;refine at_regionM ?_;refine A2 ?_;refine Kp 7 h1 ?_;refine Gm 0 [] [] (fun _=>[_,_]) (c_law_of x.op) (fun _=>?_);refine r_know 8 (.tuple #[.agg #[.int .i64 (o.1:Nat),.int .i64 (o.2.1:Nat),.int .i64 (o.2.2.1:Nat),.string (strU o.2.2.2)],.bool true]) rfl (by unfold mofV;rw[hmf];rfl) ?_;refine A3 ?_;refine r_alloc [_,_,_,_] 4 (fun g=>[_,_,⟨some g,94,_,4,true⟩]) rfl rfl z94 rfl rfl (fun _=>rfl) (fun g1=>?_);refine So 2 0 [_,_,⟨some g1,94,_,4,true⟩] [_,_,_,_] ?_;refine A9 ?_;refine Kp 13 h1 ?_;refine A1 ?_;refine r_know 14 (.bool false) rfl (by rw[hop];rfl) ?_;refine A8 ?_;refine Kp 20 h1 ?_;refine A1 ?_;refine r_know 21 (.bool false) rfl (by rw[hop];rfl) ?_;refine A8 ?_;refine Kp 29 h1 ?_;refine A1 ?_;refine r_know 30 (.bool false) rfl (by rw[hop];rfl) ?_;refine A8 ?_;refine Kp 35 h1 ?_;refine A1 ?_;refine r_know 36 (.bool false) rfl (by rw[hop];rfl) ?_;refine A8 ?_;refine Kp 44 h1 ?_;refine A1 ?_;refine r_know 45 (.bool false) rfl (by rw[hop];rfl) ?_;refine A8 ?_;refine Kp 53 h1 ?_;refine A1 ?_;refine r_know 54 (.bool true) rfl (by rw[hop];rfl) ?_;refine A8 ?_;refine r_indexAddrG (gg:=ga) (len:=z.n) (cap:=z.cap) (oa+0*7) u28 ti30 rfl rfl (congrArg (fun a=>some (Value.slice a z.n z.cap)) hza) rfl (by omega) (by omega) (by show oa+Int.toNat _*7=_;omega) ?_;refine r_loadT (v:=v1.v) 0 (oa+0*7) v1.cs rfl rfl rfl z.hT hma hna rfl ti30 hra rfl rfl rfl ?_;have hcpy0:=c_part v1 (H y0 (XT.arg_lt hy0)) (okXs_get hk2 hy0) (XT.fits_get hfp.2.2 hy0) (3) (by omega) (by simp only[List.length_append,List.length_cons,List.length_nil] at hbl ⊢;omega);rw[hTa] at hcpy0;refine r_scall0 [v1.v,.int .i64 (3:Nat)] [0] rfl rfl rfl (ECall.toS (hcpy0)) ⟨⟨_,rfl,Blk.le_refl _⟩,trivial⟩ rfl ?_;refine r_addS (p:=sNot) (q:=txt y0 3) rfl rfl rfl rfl rfl rfl rfl (by simp only[List.length_append,List.length_cons,List.length_nil] at hbl ⊢;omega) ?_;refine A6 ?_;refine at_end1 rfl (res_tmp rfl) (fun w hL=>⟨(),congrArg (fun s:Bs8=>Ending.returned (.string (strU s))) (htx).symm,hL.pk []⟩)
theorem c_text_f{x:XT}(z:XR x)(H:∀y:XT,y.size<x.size→TexC y)(hk:okX x)(hf:x.fit=true)(o:Frm)(hmf:mfind x.op=some o)(hop1:x.op≠1)(hop3:x.op≠3)(hop4:x.op≠4)(hop5:x.op≠5)(hop6:x.op≠6)(hop25:x.op≠25)(h08:o.2.2.1=0∨o.2.2.1=8)(htx:txt x 1=o.2.2.2++[40]++joinC (txtLs x.args)++[41])(hb:(txt x 1).length≤17179869184):ECall Tryz.prog 35 [gB z.T false] [z.v] Unit (fun _=> .string (strU (txt x 1))) (fun _=>[]):=by
 refine⟨by kernel_rfl,fun B w hD hL0=>?_⟩;obtain⟨h1,h2,h3,h4,h5,h6⟩:=z.inv;have hfp:=XT.fit_parts hf;have hk2:=(okX_parts hk).2;have hbl:=hb;rw[htx] at hbl;refine cB1 119 Tryz.func35 hL0 ?_;refine A2 ?_;refine Bo [_,_,_,_,_,_,_] 7 (fun g=>[_,⟨some g,30,_,7,true⟩]) (fun g0=>?_);refine A4 ?_;refine at_regionM ?_;refine A2 ?_;refine Kp 7 h1 ?_;refine Gm 0 [] [] (fun _=>[_,_]) (c_law_of x.op) (fun _=>?_);refine r_know 8 (.tuple #[.agg #[.int .i64 (o.1:Nat),.int .i64 (o.2.1:Nat),.int .i64 (o.2.2.1:Nat),.string (strU o.2.2.2)],.bool true]) rfl (by unfold mofV;rw[hmf];rfl) ?_;refine A3 ?_;refine r_alloc [_,_,_,_] 4 (fun g=>[_,_,⟨some g,94,_,4,true⟩]) rfl rfl z94 rfl rfl (fun _=>rfl) (fun g1=>?_);refine So 2 0 [_,_,⟨some g1,94,_,4,true⟩] [_,_,_,_] ?_;refine A9 ?_;refine Kp 13 h1 ?_;refine A1 ?_;refine r_know 14 (.bool false) rfl (congrArg Value.bool (by simpa using hop1)) ?_;refine A8 ?_;refine Kp 20 h1 ?_;refine A1 ?_;refine r_know 21 (.bool false) rfl (congrArg Value.bool (by simpa using hop3)) ?_;refine A8 ?_;refine Kp 29 h1 ?_;refine A1 ?_;refine r_know 30 (.bool false) rfl (congrArg Value.bool (by simpa using hop4)) ?_;refine A8 ?_;refine Kp 35 h1 ?_;refine A1 ?_;refine r_know 36 (.bool false) rfl (congrArg Value.bool (by simpa using hop5)) ?_;refine A8 ?_;refine Kp 44 h1 ?_;refine A1 ?_;refine r_know 45 (.bool false) rfl (congrArg Value.bool (by simpa using hop6)) ?_;refine A8 ?_;refine Kp 53 h1 ?_;refine A1 ?_;refine r_know 54 (.bool false) rfl (congrArg Value.bool (by simpa using hop25)) ?_;refine A10 ?_;refine Rs 65 ?_ ?_<;>intro hb0
 ·have hl0:o.2.2.1=0:=by have hh:=hb0;have hh:=eq_of_beq hh;omega
  refine A9 ?_;refine at_drawnI [] mixed (by kernel_rfl) (by kernel_rfl) ?_;refine A2 ?_;refine r_addS (p:=o.2.2.2) (q:=[40]) rfl rfl rfl rfl rfl rfl rfl (by simp only[List.length_append,List.length_cons,List.length_nil] at hbl ⊢;omega) ?_;refine A2 ?_;refine r_scall0 [.slice z.a z.n z.cap] [0] rfl rfl rfl (ECall.toS (c_list z H hk hf (by simp only[List.length_append,List.length_cons,List.length_nil] at hbl ⊢;omega))) ⟨⟨_,rfl,Blk.le_refl _⟩,trivial⟩ rfl ?_;refine r_addS (p:=o.2.2.2++[40]) (q:=joinC (txtLs x.args)) rfl rfl rfl rfl rfl rfl rfl (by simp only[List.length_append,List.length_cons,List.length_nil] at hbl ⊢;omega) ?_;refine r_addS (p:=o.2.2.2++[40]++joinC (txtLs x.args)) (q:=[41]) rfl rfl rfl rfl rfl rfl rfl (by simp only[List.length_append,List.length_cons,List.length_nil] at hbl ⊢;omega) ?_;refine A6 ?_;refine at_end1 rfl (res_tmp rfl) (fun w hL=>⟨(),congrArg (fun s:Bs8=>Ending.returned (.string (strU s))) (htx).symm,hL.pk []⟩)
 ·have hl0:o.2.2.1≠0:=by have hh:=hb0;have hh:=ne_of_beq_false hh;omega
  refine A3 ?_;refine r_know 68 (.bool true) rfl (congrArg Value.bool (beq_iff_eq.2 (by omega))) ?_;refine A6 ?_;refine at_drawnI [] mixed (by kernel_rfl) (by kernel_rfl) ?_;refine A2 ?_;refine r_addS (p:=o.2.2.2) (q:=[40]) rfl rfl rfl rfl rfl rfl rfl (by simp only[List.length_append,List.length_cons,List.length_nil] at hbl ⊢;omega) ?_;refine A2 ?_;refine r_scall0 [.slice z.a z.n z.cap] [0] rfl rfl rfl (ECall.toS (c_list z H hk hf (by simp only[List.length_append,List.length_cons,List.length_nil] at hbl ⊢;omega))) ⟨⟨_,rfl,Blk.le_refl _⟩,trivial⟩ rfl ?_;refine r_addS (p:=o.2.2.2++[40]) (q:=joinC (txtLs x.args)) rfl rfl rfl rfl rfl rfl rfl (by simp only[List.length_append,List.length_cons,List.length_nil] at hbl ⊢;omega) ?_;refine r_addS (p:=o.2.2.2++[40]++joinC (txtLs x.args)) (q:=[41]) rfl rfl rfl rfl rfl rfl rfl (by simp only[List.length_append,List.length_cons,List.length_nil] at hbl ⊢;omega) ?_;refine A6 ?_;refine at_end1 rfl (res_tmp rfl) (fun w hL=>⟨(),congrArg (fun s:Bs8=>Ending.returned (.string (strU s))) (htx).symm,hL.pk []⟩)
theorem c_text_b4{x:XT}(z:XR x)(H:∀y:XT,y.size<x.size→TexC y)(hk:okX x)(hf:x.fit=true)(o:Frm)(hmf:mfind x.op=some o)(hop1:x.op≠1)(hop3:x.op≠3)(hop4:x.op≠4)(hop5:x.op≠5)(hop6:x.op≠6)(hop25:x.op≠25)(h4l:o.2.2.1=4){y0:XT}(hy0:x.args[0]? =some y0){y1:XT}(hy1:x.args[1]? =some y1)(htx:txt x 1=txt y0 5++[32]++o.2.2.2++[32]++txt y1 5)(hb:(txt x 1).length≤17179869184):ECall Tryz.prog 35 [gB z.T false] [z.v] Unit (fun _=> .string (strU (txt x 1))) (fun _=>[]):=by
 refine⟨by kernel_rfl,fun B w hD hL0=>?_⟩;obtain⟨h1,h2,h3,h4,h5,h6⟩:=z.inv;have hfp:=XT.fit_parts hf;have hk2:=(okX_parts hk).2;have hbl:=hb;rw[htx] at hbl;have hl0:=(List.getElem?_eq_some_iff.1 hy0).1;obtain⟨ga,oa,ca,v1,hza,hma,hra,hTa,hna⟩:=z.arg hy0;have hl1:=(List.getElem?_eq_some_iff.1 hy1).1;obtain⟨gb,ob,cb,v2,hzb,hmb,hrb,hTb,hnb⟩:=z.arg hy1;refine cB1 119 Tryz.func35 hL0 ?_;refine A2 ?_;refine Bo [_,_,_,_,_,_,_] 7 (fun g=>[_,⟨some g,30,_,7,true⟩]) (fun g0=>?_);refine A4 ?_;refine at_regionM ?_;refine A2 ?_;refine Kp 7 h1 ?_;refine Gm 0 [] [] (fun _=>[_,_]) (c_law_of x.op) (fun _=>?_);refine r_know 8 (.tuple #[.agg #[.int .i64 (o.1:Nat),.int .i64 (o.2.1:Nat),.int .i64 (o.2.2.1:Nat),.string (strU o.2.2.2)],.bool true]) rfl (by unfold mofV;rw[hmf];rfl) ?_;refine A3 ?_;refine r_alloc [_,_,_,_] 4 (fun g=>[_,_,⟨some g,94,_,4,true⟩]) rfl rfl z94 rfl rfl (fun _=>rfl) (fun g1=>?_);refine So 2 0 [_,_,⟨some g1,94,_,4,true⟩] [_,_,_,_] ?_;refine A9 ?_;refine Kp 13 h1 ?_;refine A1 ?_;refine r_know 14 (.bool false) rfl (congrArg Value.bool (by simpa using hop1)) ?_;refine A8 ?_;refine Kp 20 h1 ?_;refine A1 ?_;refine r_know 21 (.bool false) rfl (congrArg Value.bool (by simpa using hop3)) ?_;refine A8 ?_;refine Kp 29 h1 ?_;refine A1 ?_;refine r_know 30 (.bool false) rfl (congrArg Value.bool (by simpa using hop4)) ?_;refine A8 ?_;refine Kp 35 h1 ?_;refine A1 ?_;refine r_know 36 (.bool false) rfl (congrArg Value.bool (by simpa using hop5)) ?_;refine A8 ?_;refine Kp 44 h1 ?_;refine A1 ?_;refine r_know 45 (.bool false) rfl (congrArg Value.bool (by simpa using hop6)) ?_;refine A8 ?_;refine Kp 53 h1 ?_;refine A1 ?_;refine r_know 54 (.bool false) rfl (congrArg Value.bool (by simpa using hop25)) ?_;refine A9 ?_;refine r_know 64 (.bool false) rfl (congrArg Value.bool (beq_eq_false_iff_ne.2 (by omega))) ?_;refine A4 ?_;refine r_know 68 (.bool false) rfl (congrArg Value.bool (beq_eq_false_iff_ne.2 (by omega))) ?_;refine A10 ?_;refine r_know 81 (.bool true) rfl (congrArg Value.bool (beq_iff_eq.2 (by omega))) ?_;refine A5 ?_;refine at_drawn (l':=[⟨_,_,_,_,_,_⟩,⟨_,_,_,_,_,_⟩,⟨_,_,_,_,_,_⟩,⟨_,_,_,_,_,_⟩,⟨_,_,_,_,_,_⟩,⟨_,_,_,_,_,_⟩,⟨_,_,_,_,_,_⟩,⟨_,_,_,_,_,_⟩,⟨_,_,_,_,_,_⟩,⟨_,_,_,_,_,_⟩,⟨_,_,_,_,_,_⟩,⟨_,_,_,_,_,_⟩,⟨_,_,_,_,_,_⟩,⟨_,_,_,_,_,_⟩,⟨_,_,_,_,_,_⟩,⟨_,_,_,_,_,_⟩,⟨_,_,_,_,_,_⟩]) [] [0,1,2,3,6,7,10,11,12,13,4,5,8,9,14,15,16] mixed (by kernel_rfl) rfl (by kernel_rfl) ?_;refine A2 ?_;refine r_indexAddrG (gg:=ga) (len:=z.n) (cap:=z.cap) (oa+0*7) u28 ti30 rfl rfl (congrArg (fun a=>some (Value.slice a z.n z.cap)) hza) rfl (by omega) (by omega) (by show oa+Int.toNat _*7=_;omega) ?_;refine r_loadT (v:=v1.v) 0 (oa+0*7) v1.cs rfl rfl rfl z.hT hma hna rfl ti30 hra rfl rfl rfl ?_;refine A4 ?_;refine r_indexAddrG (gg:=gb) (len:=z.n) (cap:=z.cap) (ob+1*7) u28 ti30 rfl rfl (congrArg (fun a=>some (Value.slice a z.n z.cap)) hzb) rfl (by omega) (by omega) (by show ob+Int.toNat _*7=_;omega) ?_;refine r_loadT (v:=v2.v) 0 (ob+1*7) v2.cs rfl rfl rfl z.hT hmb hnb rfl ti30 hrb rfl rfl rfl ?_;have hcpy0:=c_part v1 (H y0 (XT.arg_lt hy0)) (okXs_get hk2 hy0) (XT.fits_get hfp.2.2 hy0) (5) (by omega) (by simp only[List.length_append,List.length_cons,List.length_nil] at hbl ⊢;omega);rw[hTa] at hcpy0;refine r_scall0 [v1.v,.int .i64 (5:Nat)] [0] rfl rfl rfl (ECall.toS (hcpy0)) ⟨⟨_,rfl,Blk.le_refl _⟩,trivial⟩ rfl ?_;refine r_addS (p:=txt y0 5) (q:=[32]) rfl rfl rfl rfl rfl rfl rfl (by simp only[List.length_append,List.length_cons,List.length_nil] at hbl ⊢;omega) ?_;refine r_addS (p:=txt y0 5++[32]) (q:=o.2.2.2) rfl rfl rfl rfl rfl rfl rfl (by simp only[List.length_append,List.length_cons,List.length_nil] at hbl ⊢;omega) ?_;refine r_addS (p:=txt y0 5++[32]++o.2.2.2) (q:=[32]) rfl rfl rfl rfl rfl rfl rfl (by simp only[List.length_append,List.length_cons,List.length_nil] at hbl ⊢;omega) ?_;have hcpy1:=c_part v2 (H y1 (XT.arg_lt hy1)) (okXs_get hk2 hy1) (XT.fits_get hfp.2.2 hy1) (5) (by omega) (by simp only[List.length_append,List.length_cons,List.length_nil] at hbl ⊢;omega);rw[hTb] at hcpy1;refine r_scall0 [v2.v,.int .i64 (5:Nat)] [0] rfl rfl rfl (ECall.toS (hcpy1)) ⟨⟨_,rfl,Blk.le_refl _⟩,trivial⟩ rfl ?_;refine r_addS (p:=txt y0 5++[32]++o.2.2.2++[32]) (q:=txt y1 5) rfl rfl rfl rfl rfl rfl rfl (by simp only[List.length_append,List.length_cons,List.length_nil] at hbl ⊢;omega) ?_;refine A6 ?_;refine at_end1 rfl (res_tmp rfl) (fun w hL=>⟨(),congrArg (fun s:Bs8=>Ending.returned (.string (strU s))) (htx).symm,hL.pk []⟩)
theorem c_text_b{x:XT}(z:XR x)(H:∀y:XT,y.size<x.size→TexC y)(hk:okX x)(hf:x.fit=true)(o:Frm)(hmf:mfind x.op=some o)(hop1:x.op≠1)(hop3:x.op≠3)(hop4:x.op≠4)(hop5:x.op≠5)(hop6:x.op≠6)(hop25:x.op≠25)(h4l:o.2.2.1≠4)(h1l:1≤o.2.2.1)(h7l:o.2.2.1≤7){y0:XT}(hy0:x.args[0]? =some y0){y1:XT}(hy1:x.args[1]? =some y1)(htx:txt x 1=txt y0 o.2.2.1++[32]++o.2.2.2++[32]++txt y1 (o.2.2.1+1))(hb:(txt x 1).length≤17179869184):ECall Tryz.prog 35 [gB z.T false] [z.v] Unit (fun _=> .string (strU (txt x 1))) (fun _=>[]):=by
 refine⟨by kernel_rfl,fun B w hD hL0=>?_⟩;obtain⟨h1,h2,h3,h4,h5,h6⟩:=z.inv;have hfp:=XT.fit_parts hf;have hk2:=(okX_parts hk).2;have hbl:=hb;rw[htx] at hbl;have hl0:=(List.getElem?_eq_some_iff.1 hy0).1;obtain⟨ga,oa,ca,v1,hza,hma,hra,hTa,hna⟩:=z.arg hy0;have hl1:=(List.getElem?_eq_some_iff.1 hy1).1;obtain⟨gb,ob,cb,v2,hzb,hmb,hrb,hTb,hnb⟩:=z.arg hy1;refine cB1 119 Tryz.func35 hL0 ?_;refine A2 ?_;refine Bo [_,_,_,_,_,_,_] 7 (fun g=>[_,⟨some g,30,_,7,true⟩]) (fun g0=>?_);refine A4 ?_;refine at_regionM ?_;refine A2 ?_;refine Kp 7 h1 ?_;refine Gm 0 [] [] (fun _=>[_,_]) (c_law_of x.op) (fun _=>?_);refine r_know 8 (.tuple #[.agg #[.int .i64 (o.1:Nat),.int .i64 (o.2.1:Nat),.int .i64 (o.2.2.1:Nat),.string (strU o.2.2.2)],.bool true]) rfl (by unfold mofV;rw[hmf];rfl) ?_;refine A3 ?_;refine r_alloc [_,_,_,_] 4 (fun g=>[_,_,⟨some g,94,_,4,true⟩]) rfl rfl z94 rfl rfl (fun _=>rfl) (fun g1=>?_);refine So 2 0 [_,_,⟨some g1,94,_,4,true⟩] [_,_,_,_] ?_;refine A9 ?_;refine Kp 13 h1 ?_;refine A1 ?_;refine r_know 14 (.bool false) rfl (congrArg Value.bool (by simpa using hop1)) ?_;refine A8 ?_;refine Kp 20 h1 ?_;refine A1 ?_;refine r_know 21 (.bool false) rfl (congrArg Value.bool (by simpa using hop3)) ?_;refine A8 ?_;refine Kp 29 h1 ?_;refine A1 ?_;refine r_know 30 (.bool false) rfl (congrArg Value.bool (by simpa using hop4)) ?_;refine A8 ?_;refine Kp 35 h1 ?_;refine A1 ?_;refine r_know 36 (.bool false) rfl (congrArg Value.bool (by simpa using hop5)) ?_;refine A8 ?_;refine Kp 44 h1 ?_;refine A1 ?_;refine r_know 45 (.bool false) rfl (congrArg Value.bool (by simpa using hop6)) ?_;refine A8 ?_;refine Kp 53 h1 ?_;refine A1 ?_;refine r_know 54 (.bool false) rfl (congrArg Value.bool (by simpa using hop25)) ?_;refine A9 ?_;refine r_know 64 (.bool false) rfl (congrArg Value.bool (beq_eq_false_iff_ne.2 (by omega))) ?_;refine A4 ?_;refine r_know 68 (.bool false) rfl (congrArg Value.bool (beq_eq_false_iff_ne.2 (by omega))) ?_;refine A10 ?_;refine r_know 81 (.bool false) rfl (congrArg Value.bool (beq_eq_false_iff_ne.2 (by omega))) ?_;refine A8 ?_;refine at_drawn (l':=[⟨_,_,_,_,_,_⟩,⟨_,_,_,_,_,_⟩,⟨_,_,_,_,_,_⟩,⟨_,_,_,_,_,_⟩,⟨_,_,_,_,_,_⟩,⟨_,_,_,_,_,_⟩,⟨_,_,_,_,_,_⟩,⟨_,_,_,_,_,_⟩,⟨_,_,_,_,_,_⟩,⟨_,_,_,_,_,_⟩,⟨_,_,_,_,_,_⟩,⟨_,_,_,_,_,_⟩,⟨_,_,_,_,_,_⟩,⟨_,_,_,_,_,_⟩,⟨_,_,_,_,_,_⟩,⟨_,_,_,_,_,_⟩,⟨_,_,_,_,_,_⟩,⟨_,_,_,_,_,_⟩,⟨_,_,_,_,_,_⟩,⟨_,_,_,_,_,_⟩,⟨_,_,_,_,_,_⟩,⟨_,_,_,_,_,_⟩]) [] [0,1,2,3,4,5,8,9,12,13,14,15,16,17,18,6,7,10,11,19,20,21] mixed (drawnM [0,1,3,7,0,16,63,127,0,256,1023,2047,0,4096,12288,28672,0,65536,196608,520319,1048575,2097151] (by kernel_rfl)) rfl (by kernel_rfl) ?_;refine A2 ?_;refine r_indexAddrG (gg:=ga) (len:=z.n) (cap:=z.cap) (oa+0*7) u28 ti30 rfl rfl (congrArg (fun a=>some (Value.slice a z.n z.cap)) hza) rfl (by omega) (by omega) (by show oa+Int.toNat _*7=_;omega) ?_;refine r_loadT (v:=v1.v) 0 (oa+0*7) v1.cs rfl rfl rfl z.hT hma hna rfl ti30 hra rfl rfl rfl ?_;refine A6 ?_;refine r_indexAddrG (gg:=gb) (len:=z.n) (cap:=z.cap) (ob+1*7) u28 ti30 rfl rfl (congrArg (fun a=>some (Value.slice a z.n z.cap)) hzb) rfl (by omega) (by omega) (by show ob+Int.toNat _*7=_;omega) ?_;refine r_loadT (v:=v2.v) 0 (ob+1*7) v2.cs rfl rfl rfl z.hT hmb hnb rfl ti30 hrb rfl rfl rfl ?_;refine A2 ?_;refine Ar (((o.2.2.1+1:Nat):Int)) ?_;have hcpy0:=c_part v1 (H y0 (XT.arg_lt hy0)) (okXs_get hk2 hy0) (XT.fits_get hfp.2.2 hy0) (o.2.2.1) (by omega) (by simp only[List.length_append,List.length_cons,List.length_nil] at hbl ⊢;omega);rw[hTa] at hcpy0;refine r_scall0 [v1.v,.int .i64 (o.2.2.1:Nat)] [0] rfl rfl rfl (ECall.toS (hcpy0)) ⟨⟨_,rfl,Blk.le_refl _⟩,trivial⟩ rfl ?_;refine r_addS (p:=txt y0 o.2.2.1) (q:=[32]) rfl rfl rfl rfl rfl rfl rfl (by simp only[List.length_append,List.length_cons,List.length_nil] at hbl ⊢;omega) ?_;refine r_addS (p:=txt y0 o.2.2.1++[32]) (q:=o.2.2.2) rfl rfl rfl rfl rfl rfl rfl (by simp only[List.length_append,List.length_cons,List.length_nil] at hbl ⊢;omega) ?_;refine r_addS (p:=txt y0 o.2.2.1++[32]++o.2.2.2) (q:=[32]) rfl rfl rfl rfl rfl rfl rfl (by simp only[List.length_append,List.length_cons,List.length_nil] at hbl ⊢;omega) ?_;have hcpy1:=c_part v2 (H y1 (XT.arg_lt hy1)) (okXs_get hk2 hy1) (XT.fits_get hfp.2.2 hy1) ((o.2.2.1+1)) (by omega) (by simp only[List.length_append,List.length_cons,List.length_nil] at hbl ⊢;omega);rw[hTb] at hcpy1;refine r_scall0 [v2.v,.int .i64 ((o.2.2.1+1):Nat)] [0] rfl rfl rfl (ECall.toS (hcpy1)) ⟨⟨_,rfl,Blk.le_refl _⟩,trivial⟩ rfl ?_;refine r_addS (p:=txt y0 o.2.2.1++[32]++o.2.2.2++[32]) (q:=txt y1 (o.2.2.1+1)) rfl rfl rfl rfl rfl rfl rfl (by simp only[List.length_append,List.length_cons,List.length_nil] at hbl ⊢;omega) ?_;refine A4 ?_;refine at_end1 rfl (res_tmp rfl) (fun w hL=>⟨(),congrArg (fun s:Bs8=>Ending.returned (.string (strU s))) (htx).symm,hL.pk []⟩)
theorem frm25:mfind 25=some (25,1,3,[110,111,116]):=by decide+kernel
theorem frm3:∀o∈frmT,o.2.2.1=3→o.1=25:=by decide+kernel
theorem c_text(x:XT)(z:XR x)(hk:okX x)(hf:x.fit=true)(hb:(txt x 1).length≤17179869184):
 ECall Tryz.prog 35 [gB z.T false] [z.v] Unit (fun _=> .string (strU (txt x 1))) (fun _=>[]):=by
 refine byS (p:=TexC) (fun x H z hk hf hb=>?_) x z hk hf hb
 have hn:=(okX_parts hk).1
 obtain⟨o,ho⟩:=mfind_ok hn
 have hnum:=nodeE_num hn
 by_cases h1:x.op=1
 ·exact c_text_1 z H hk hf o ho h1 (hnum.1 h1) (by cases x with|mk op nm u l=>obtain rfl:op=1:=h1;rfl) hb
 by_cases h3:x.op=3
 ·exact c_text_3 z H hk hf o ho h3 (hnum.2 h3) (by cases x with|mk op nm u l=>obtain rfl:op=3:=h3;rfl) hb
 by_cases h4:x.op=4
 ·exact c_text_4 z H hk hf o ho h4 (by cases x with|mk op nm u l=>obtain rfl:op=4:=h4;rfl) hb
 by_cases h5:x.op=5
 ·exact c_text_5 z H hk hf o ho h5 (by cases x with|mk op nm u l=>obtain rfl:op=5:=h5;show sZone++quoS nm++[34,41]=_;simp[sZone,XT.name]) hb
 by_cases h6:x.op=6
 ·exact c_text_6 z H hk hf o ho h6 (by cases x with|mk op nm u l=>obtain rfl:op=6:=h6;rfl) hb
 have hp:=frm_of ho
 have hm:=List.mem_of_find?_eq_some ho
 rcases frm_level o hm with⟨q1,q2⟩|⟨q1,q2,q3⟩
 ·have h25:x.op≠25:=fun h=>by rw[h,frm25] at ho;cases ho;exact absurd q2 (by decide)
  exact c_text_f z H hk hf o ho h1 h3 h4 h5 h6 h25 q2 (txt_call ho q2 h1 h3 h4 h5 h6) hb
 ·rw[hp] at q1
  have e1:=txt_op q1 1
  rw[if_neg (by show¬o.2.2.1<1;omega)] at e1
  have ha:=op_args hn q1
  by_cases hl3:o.2.2.1=3
  ·have h25:x.op=25:=by rw[←hp,frm3 o hm hl3];rfl
   have hlen:x.args.length=1:=ha.1 hl3
   obtain⟨y0,hy0⟩:∃y,x.args[0]? =some y:=⟨x.args[0]'(by omega),List.getElem?_eq_getElem _⟩
   refine c_text_25 z H hk hf o ho h25 hy0 ?_ hb
   rw[e1,inS,if_pos hl3,txtAt_get 3 hy0]
  ·have h25:x.op≠25:=fun h=>by rw[h,frm25] at ho;cases ho;exact hl3 rfl
   have hlen:x.args.length=2:=ha.2 hl3
   obtain⟨y0,hy0⟩:∃y,x.args[0]? =some y:=⟨x.args[0]'(by omega),List.getElem?_eq_getElem _⟩
   obtain⟨y1,hy1⟩:∃y,x.args[1]? =some y:=⟨x.args[1]'(by omega),List.getElem?_eq_getElem _⟩
   rw[inS,if_neg hl3,txtAt_get _ hy0,txtAt_get _ hy1] at e1
   by_cases hl4:o.2.2.1=4
   ·refine c_text_b4 z H hk hf o ho h1 h3 h4 h5 h6 h25 hl4 hy0 hy1 ?_ hb
    rw[e1,if_pos hl4]
    show txt y0 5++([32]++o.2.2.2++[32])++txt y1 (o.2.2.1+1)=_
    rw[hl4];simp
   ·refine c_text_b z H hk hf o ho h1 h3 h4 h5 h6 h25 hl4 q2 q3 hy0 hy1 ?_ hb
    rw[e1,if_neg hl4]
    show txt y0 o.2.2.1++([32]++o.2.2.2++[32])++txt y1 (o.2.2.1+1)=_
    simp
end Go.Proofs.YtfijbadahkmhbaaGreatDoor
