/-
  Part 8 (chapter 43): lemmas, walks. Each theorem states its own conditions.
-/
import Derived.Lib.OthersKept
import Derived.Test.YtfijbadahkmhbaaGreatDoorA03
import Derived.Test.YtfijbadahkmhbaaGreatDoorA04
import Derived.Test.YtfijbadahkmhbaaGreatDoorA07
set_option linter.unusedVariables false
set_option linter.unusedSimpArgs false
set_option maxRecDepth 20000
set_option maxHeartbeats 20000000
namespace Go.Via
open Go Go.RowKit
def ownW(L:List Blk)(g:Nat):Prop:=ownB L g∨∃b∈L,b.own=true∧b.base=none∧∃T:Tab,gtOK T=true∧b.e=gE T∧∃p∈T,p.1=g
theorem LRel.rebaseG{B:Bs}{w:World}{L:List Blk}(h:LRel B L w):LRel ⟨w,ownW L,[]⟩ L w:=by
 refine⟨⟨rfl,rfl,rfl,Nat.le_refl _,fun _ _ _=>rfl⟩,fun k b hk=>?_,h.apart,fun b hb hn T hT he p hp=>?_⟩
 ·obtain⟨h1,h2⟩:=h.blk k b hk
  exact⟨fun g hg=>⟨(h1 g hg).1,fun ho=> .inr (.inl ⟨b,List.mem_of_getElem? hk,ho,hg⟩)⟩,h2⟩
 ·obtain⟨a1,_,a3⟩:=h.grp b hb hn T hT he p hp
  exact⟨a1,fun ho=> .inr (.inr ⟨b,hb,ho,hn,T,hT,he,p,hp,rfl⟩),a3⟩
theorem LRel.joinN{B:Bs}{w w':World}{A R new:List Blk}(h:LRel B (A++R) w)(h':LRel ⟨w,ownW A,[]⟩ new w')(hA:∀b∈A,b.own=true)(hn:∀b∈new,b.own=true)(hR:∀c∈R,c.own=true∧c.base.isSome=true):LRel B (new++R) w':=by
 have hS:∀g,ownW A g→B.own g:=fun g hg=>by
  rcases hg with⟨b,hb,ho,hg⟩|⟨b,hb,ho,hb0,T,hT,he,p,hp,rfl⟩
  ·exact h.ownG (List.mem_append_left _ hb) ho hg
  ·exact(h.grp b (List.mem_append_left _ hb) hb0 T hT he p hp).2.1 ho
 have hle:Bs.le B ⟨w,ownW A,[]⟩:=fun g hg=>by
  rcases hg with hg|hg
  ·exact .inl (Nat.le_trans h.bel.size hg)
  ·exact hS g hg
 have keep:∀g,g<w.heap.size→¬ownW A g→w'.heap[g]? =w.heap[g]? :=fun g hg hS'=>h'.bel.block g hg hS'
 have apR:∀c∈R,∀g,c.base=some g→¬ownW A g:=fun c hc g hg hq=>by
  rcases hq with⟨b,hb,ho,hbg⟩|⟨b,hb,ho,hb0,T,hT,he,p,hp,rfl⟩
  ·obtain⟨i,hi⟩:=List.mem_iff_getElem?.1 hb
   obtain⟨j,hj⟩:=List.mem_iff_getElem?.1 hc
   have hil:=(List.getElem?_eq_some_iff.1 hi).1
   exact h.apart i (A.length+j) g b c (by omega) (by rw[List.getElem?_append_left hil];exact hi) (by rw[List.getElem?_append_right (by omega),Nat.add_sub_cancel_left];exact hj) ho hbg hg
  ·exact(h.grp b (List.mem_append_left _ hb) hb0 T hT he p hp).2.2 c (List.mem_append_right _ hc) (hR c hc).1 hg
 have ownN:∀b∈new,∀g,b.base=some g→w.heap.size≤g∨ownW A g:=fun b hb g hg=>by
  obtain⟨k,hk⟩:=List.mem_iff_getElem?.1 hb
  exact((h'.blk k b hk).1 g hg).2 (hn b hb)
 have farN:∀b∈new,∀g,b.base=some g→∀c∈R,c.base≠some g:=fun b hb g hg c hc hcg=>by
  rcases ownN b hb g hg with h1|h1
  ·have:=h.ltG (List.mem_append_right _ hc) hcg
   omega
  ·exact apR c hc g hcg h1
 refine⟨⟨h'.bel.os.trans h.bel.os,h'.bel.tape.trans h.bel.tape,h'.bel.output.trans h.bel.output,Nat.le_trans h.bel.size h'.bel.size,fun k hk hk'=>?_⟩,fun k b hk=>?_,fun i j g bi bj hij hi hj ho hg hgj=>?_,fun b hb hb0 T hT he p hp=>?_⟩
 ·have h1:¬ownW A k:=fun hq=>by
   rcases hS k hq with h2|h2
   ·omega
   ·exact hk' h2
  exact(keep k (Nat.lt_of_lt_of_le hk h.bel.size) h1).trans (h.bel.block k hk hk')
 ·rw[List.getElem?_append] at hk
  split at hk
  ·obtain⟨a1,a2⟩:=h'.blk k b hk
   exact⟨fun g hg=>⟨(a1 g hg).1,fun ho=>hle _ ((a1 g hg).2 ho)⟩,a2⟩
  ·have hbR:=List.mem_of_getElem? hk
   obtain⟨j,hj⟩:=List.mem_iff_getElem?.1 hbR
   obtain⟨a1,a2⟩:=h.blk (A.length+j) b (by rw[List.getElem?_append_right (by omega),Nat.add_sub_cancel_left];exact hj)
   exact⟨fun g hg=>(a1 g hg).heap (keep g (a1 g hg).lt (apR b hbR g hg)),a2⟩
 ·rw[List.getElem?_append] at hi hj
  split at hi<;>split at hj
  ·exact h'.apart i j g bi bj hij hi hj ho hg hgj
  ·exact farN bi (List.mem_of_getElem? hi) g hg bj (List.mem_of_getElem? hj) hgj
  ·exact farN bj (List.mem_of_getElem? hj) g hgj bi (List.mem_of_getElem? hi) hg
  ·exact h.apart (A.length+(i-new.length)) (A.length+(j-new.length)) g bi bj (by omega) (by rw[List.getElem?_append_right (by omega),Nat.add_sub_cancel_left];exact hi) (by rw[List.getElem?_append_right (by omega),Nat.add_sub_cancel_left];exact hj) ho hg hgj
 ·rcases List.mem_append.1 hb with hb|hb
  ·obtain⟨a1,a2,a3⟩:=h'.grp b hb hb0 T hT he p hp
   refine⟨a1,fun ho=>hle _ (a2 ho),fun c hc ho hg=>?_⟩
   rcases List.mem_append.1 hc with hc|hc
   ·exact a3 c hc ho hg
   ·rcases a2 (hn b hb) with h1|h1
    ·have h1:w.heap.size≤p.1:=h1
     have:=h.ltG (List.mem_append_right _ hc) hg
     omega
    ·exact apR c hc _ hg h1
  ·have:=(hR b hb).2
   rw[hb0] at this;cases this
section
variable{P:Program}{bl:List Nat}{ops:Array Oper}{K:St→Prop}{rest:List Oper}{nt:Nat}{t:List (Nat×Value)}{L:List Blk}{d:Nat}{ty:TypeId}{pos:String}{af:Array Edge}{g:Option (Nat×Bool)}{x y:Operand}
theorem ECall.atN{P:Program}{f:Nat}{L A:List Blk}{args:List Value}{X:Type}{res:X→Value}{L1:X→List Blk}(hc:ECall P f A args X res L1)(ks:List Nat)(hn:ks.Nodup)(hk:ks.map (fun k=>L[k]?)=A.map some)
 (hA:(A.all fun b=>b.own)=true)(hR:((restK L ks).all fun b=>b.own&&b.base.isSome)=true)(hap:apartB (ks.map some) (A.map (·.own))=true)(hlen:∀x,Nat.ble ks.length (L1 x).length=true)(hown:∀x,((L1 x).all fun b=>b.own)=true)
 {B:Bs}{w:World}(h:LRel B L w):Calls P f args.toArray w fun e w'=>∃x,e= .returned (res x)∧LRel B (setG L ks (L1 x)) w':=by
 have hl:∀k∈ks,k<L.length:=fun k hk'=>by
  obtain⟨i,hi⟩:=List.mem_iff_getElem?.1 hk'
  have h1:(ks.map fun k=>L[k]?)[i]? =some L[k]? :=by rw[List.getElem?_map,hi];rfl
  rw[hk,List.getElem?_map] at h1
  obtain⟨b,_,hb⟩:=Option.map_eq_some_iff.1 h1
  exact(List.getElem?_eq_some_iff.1 hb.symm).1
 have hlen0:A.length=ks.length:=by have:=congrArg List.length hk;simpa using this.symm
 have pA:∀(ks:List Nat) (A:List Blk),ks.map (fun k=>L[k]?)=A.map some→Picks L (ks.map some) A:=by
  intro ks
  induction ks with
  |nil=>intro A h;cases A with
   |nil=>exact trivial
   |cons=>simp at h
  |cons k ks ih=>intro A h;cases A with
   |nil=>simp at h
   |cons a A=>
    simp only[List.map_cons,List.cons.injEq] at h
    exact⟨⟨a,h.1,a.le_refl⟩,ih A h.2⟩
 have h1:=h.picks (ks.map some) (pA ks A hk) (by simp[hlen0]) hap
 have h2:=h1.rebaseG
 have hp0:=setK_perm (L:=L) hn hl hlen0
 rw[setK_self hk] at hp0
 have hL:=h.perm hp0
 refine(hc.2 _ w rfl h2).mono ?_
 rintro e w' ⟨x,rfl,hx⟩
 refine⟨x,rfl,?_⟩
 have h3:=hL.joinN hx (fun b hb=>List.all_eq_true.1 hA b hb) (fun b hb=>List.all_eq_true.1 (hown x) b hb) (fun c hc=>by
 have:=List.all_eq_true.1 hR c hc
 simpa using this)
 exact h3.perm (setG_perm hn hl (Nat.le_of_ble_eq_true (hlen x))).symm
theorem r_gcallN{f:Nat}{args:List Operand}{ts:Array TypeId}{dst:Option Nat}(vs:List Value){A:List Blk}{X:Type}{res:X→Value}{L1:X→List Blk}(ks:List Nat)(mk:X→List Blk)(hM:isM bl=true)(hd:(match dst with|some d=>Nat.blt d nt|none=>true)=true)
 (hg:wantedS ops ⟨dst,.call {callee:= .value (.func f),args:=args.toArray,argTypes:=ts},ty,pos,af,g⟩ t=some true)
 (hv:args.map (ev t)=vs.map some)(hc:ECall P f A vs X res L1)(hn:ks.Nodup)(hk:ks.map (fun k=>L[k]?)=A.map some)(hA:(A.all fun b=>b.own)=true)(hR:((restK L ks).all fun b=>b.own&&b.base.isSome)=true)(hap:apartB (ks.map some) (A.map (·.own))=true)
 (hlen:∀x,Nat.ble ks.length (L1 x).length=true)(hown:∀x,((L1 x).all fun b=>b.own)=true)(hL:∀x,setG L ks (L1 x)=mk x)
 (h:∀x,Run P bl ops rest (({nt:=nt,t:=t,L:=mk x}:St).put dst (res x)) K):
 Run P bl ops (⟨dst,.call {callee:= .value (.func f),args:=args.toArray,argTypes:=ts},ty,pos,af,g⟩::rest) ⟨nt,t,L⟩ K:=
 run_m hd hg hM (X:=X) (nx:=fun x=>({nt:=nt,t:=t,L:=mk x}:St).put dst (res x)) (fun hd' B a w hr=>by
 unfold Oper.wp
 rw[run_callee hc.1 a rfl rfl (vs:=vs.toArray) (by simp[evs_spec hr hv]) w]
 refine(hc.atN ks hn hk hA hR hap hlen hown hr.mem).mono ?_
 rintro e w' ⟨x,rfl,hw⟩
 refine⟨x,?_⟩
 rw[hL] at hw
 exact hr.put hd' hw) h
end
end Go.Via
namespace Go.Proofs.YtfijbadahkmhbaaGreatDoor
open Go Go.RowKit Go.Via
theorem c_syntax_isLetter(c:UInt8):PCall Tryz.prog 80 #[.int .u8 (c.toNat:Nat)] (.bool (isLet c)):=by
 refine⟨by kernel_rfl,fun w=>?_⟩;refine cB1 17 Tryz.func80 (LRel.nil w) ?_;refine A10 ?_;refine Rs 5 ?_ ?_<;>intro hb0
 ·refine A4 ?_;refine Rs 9 ?_ ?_<;>intro hb1
  ·refine A11 ?_;refine E1 fun w hL=>⟨?_,hL.below⟩;exact eB (by rw[Bool.eq_iff_iff];simp[isLet] at*;omega)
  ·refine A3 ?_;refine Rs 12 ?_ ?_<;>intro hb2
   ·refine A8 ?_;refine E1 fun w hL=>⟨?_,hL.below⟩;exact eB (by rw[Bool.eq_iff_iff];simp[isLet] at*;omega)
   ·refine A8 ?_;refine E1 fun w hL=>⟨?_,hL.below⟩;exact eB (by rw[Bool.eq_iff_iff];simp[isLet] at*;omega)
 ·refine A7 ?_;refine Rs 12 ?_ ?_<;>intro hb1
  ·refine A8 ?_;refine E1 fun w hL=>⟨?_,hL.below⟩;exact eB (by rw[Bool.eq_iff_iff];simp[isLet] at*;omega)
  ·refine A8 ?_;refine E1 fun w hL=>⟨?_,hL.below⟩;exact eB (by rw[Bool.eq_iff_iff];simp[isLet] at*;omega)
theorem c_syntax_isDigit(c:UInt8):PCall Tryz.prog 81 #[.int .u8 (c.toNat:Nat)] (.bool (isDig c)):=by
 refine⟨by kernel_rfl,fun w=>?_⟩;refine cB1 9 Tryz.func81 (LRel.nil w) ?_;refine A10 ?_;refine Rs 5 ?_ ?_<;>intro hb0
 ·refine A7 ?_;refine E1 fun w hL=>⟨?_,hL.below⟩;exact eB (by rw[Bool.eq_iff_iff];simp[isDig] at*;omega)
 ·refine A7 ?_;refine E1 fun w hL=>⟨?_,hL.below⟩;exact eB (by rw[Bool.eq_iff_iff];simp[isDig] at*;omega)
theorem c_law_letter(c:UInt8):PCall Tryz.prog 84 #[.int .u8 (c.toNat:Nat)] (.bool (isLet c)):=by
 refine⟨by kernel_rfl,fun w=>?_⟩;refine cB1 17 Tryz.func84 (LRel.nil w) ?_;refine A10 ?_;refine Rs 5 ?_ ?_<;>intro hb0
 ·refine A4 ?_;refine Rs 9 ?_ ?_<;>intro hb1
  ·refine A11 ?_;refine E1 fun w hL=>⟨?_,hL.below⟩;exact eB (by rw[Bool.eq_iff_iff];simp[isLet] at*;omega)
  ·refine A3 ?_;refine Rs 12 ?_ ?_<;>intro hb2
   ·refine A8 ?_;refine E1 fun w hL=>⟨?_,hL.below⟩;exact eB (by rw[Bool.eq_iff_iff];simp[isLet] at*;omega)
   ·refine A8 ?_;refine E1 fun w hL=>⟨?_,hL.below⟩;exact eB (by rw[Bool.eq_iff_iff];simp[isLet] at*;omega)
 ·refine A7 ?_;refine Rs 12 ?_ ?_<;>intro hb1
  ·refine A8 ?_;refine E1 fun w hL=>⟨?_,hL.below⟩;exact eB (by rw[Bool.eq_iff_iff];simp[isLet] at*;omega)
  ·refine A8 ?_;refine E1 fun w hL=>⟨?_,hL.below⟩;exact eB (by rw[Bool.eq_iff_iff];simp[isLet] at*;omega)
theorem c_law_digit(c:UInt8):PCall Tryz.prog 85 #[.int .u8 (c.toNat:Nat)] (.bool (isDig c)):=by
 refine⟨by kernel_rfl,fun w=>?_⟩;refine cB1 9 Tryz.func85 (LRel.nil w) ?_;refine A10 ?_;refine Rs 5 ?_ ?_<;>intro hb0
 ·refine A7 ?_;refine E1 fun w hL=>⟨?_,hL.below⟩;exact eB (by rw[Bool.eq_iff_iff];simp[isDig] at*;omega)
 ·refine A7 ?_;refine E1 fun w hL=>⟨?_,hL.below⟩;exact eB (by rw[Bool.eq_iff_iff];simp[isDig] at*;omega)
theorem c_syntax_isWord(l:Bs8)(hn:l.length≤1000000):PCall Tryz.prog 43 #[.string (strU l)] (.bool (wordL l)):=by
 refine⟨by kernel_rfl,fun w=>?_⟩;refine cB1 34 Tryz.func43 (LRel.nil w) ?_;refine A10 ?_;refine r_know 5 (.int .i64 (l.length:Nat)) rfl (by rw[strU_size]) ?_;refine A4 ?_;refine El (ι:={i:Nat // i≤l.length∧wordL l=wordAt l i}) (fun⟨i,hi,hI⟩=>([(0,.string (strU l)),(5,.int .i64 (l.length:Nat)),(6,.int .i64 (i:Nat))],[],l.length-i)) ⟨0,Nat.zero_le _,rfl⟩ ?_;rintro⟨i,hi,hI⟩;(try dsimp only);refine A6 ?_;refine Cd ?_ ?_<;>intro hb1
 ·have hlt:i<l.length:=(by have:=of_decide_eq_true hb1;omega);obtain⟨c,hx⟩:∃c,l[i]? =some c:=⟨l[i],List.getElem?_eq_getElem hlt⟩;refine A14 ?_;refine r_idxS (b:=c) (r:=(c.toNat:Int)) u9 rfl rfl rfl rfl (by omega) hx rfl ?_;refine Pc (c_syntax_isLetter _) ?_;refine A2 ?_;refine Rs 14 ?_ ?_<;>intro hb2
  ·have hlet:isLet c=false:=by simpa using hb2
   refine A3 ?_;refine Rs 17 ?_ ?_<;>intro hb3
   ·have hi0:i=0:=by have:=eq_of_beq hb3;omega
    refine A27 ?_;refine E1 fun w hL=>⟨?_,hL.below⟩;exact eB (by rw[hI,wordAt_no hx hlet (.inl hi0)])
   ·have hi0:i≠0:=by have:=ne_of_beq_false hb3;omega
    refine A2 ?_;refine r_idxS (b:=c) (r:=(c.toNat:Int)) u9 rfl rfl rfl rfl (by omega) hx rfl ?_;refine Pc (c_syntax_isDigit _) ?_;refine A2 ?_;refine Rs 23 ?_ ?_<;>intro hb4
    ·have hdig:isDig c=false:=by simpa using hb4
     refine A2 ?_;refine r_idxS (b:=c) (r:=(c.toNat:Int)) u9 rfl rfl rfl rfl (by omega) hx rfl ?_;refine A6 ?_;refine Cd ?_ ?_<;>intro hb5
     ·have h95:c≠95:=by have hh:=hb5;simp only[bne_iff_ne,ne_eq,Bool.not_eq_true,bne_eq_false_iff_eq] at hh;intro e;subst e;exact hh rfl
      refine A11 ?_;refine E1 fun w hL=>⟨?_,hL.below⟩;exact eB (by rw[hI,wordAt_no hx hlet (.inr ⟨hdig,h95⟩)])
     ·have h95:c=95:=by have hh:=hb5;simp only[bne_iff_ne,ne_eq,Bool.not_eq_true,bne_eq_false_iff_eq] at hh;exact UInt8.toNat_inj.1 (by simpa using Int.ofNat_inj.1 hh)
      refine A4 ?_;refine Ar (((i+1:Nat):Int)) ?_;refine A3 ?_;exact Nl ⟨i+1,hlt,hI.trans (wordAt_go hx (.inr ⟨hi0,.inr h95⟩))⟩
    ·have hdig:isDig c=true:=by simpa using hb4
     refine A14 ?_;refine Ar (((i+1:Nat):Int)) ?_;refine A3 ?_;exact Nl ⟨i+1,hlt,hI.trans (wordAt_go hx (.inr ⟨hi0,.inl hdig⟩))⟩
  ·have hlet:isLet c=true:=by simpa using hb2
   refine A23 ?_;refine Ar (((i+1:Nat):Int)) ?_;refine A3 ?_;exact Nl ⟨i+1,hlt,hI.trans (wordAt_go hx (.inl hlet))⟩
 ·have hge:i=l.length:=(by have:=of_decide_eq_false hb1;omega);subst hge;refine A13 ?_;refine E1 fun w hL=>⟨?_,hL.below⟩;exact eB (by rw[hI,wordAt_end])
theorem c_syntax_IsZone(l:Bs8)(hn:l.length≤1000000):PCall Tryz.prog 15 #[.string (strU l)] (.bool (zoneL l)):=by
 refine⟨by kernel_rfl,fun w=>?_⟩;refine cB1 28 Tryz.func15 (LRel.nil w) ?_;refine A10 ?_;refine r_know 5 (.int .i64 (l.length:Nat)) rfl (by rw[strU_size]) ?_;refine A4 ?_;refine El (ι:={i:Nat // i≤l.length∧l.all zch=(l.drop i).all zch}) (fun⟨i,hi,hI⟩=>([(0,.string (strU l)),(5,.int .i64 (l.length:Nat)),(6,.int .i64 (i:Nat))],[],l.length-i)) ⟨0,Nat.zero_le _,rfl⟩ ?_;rintro⟨i,hi,hI⟩;(try dsimp only);refine A6 ?_;refine Cd ?_ ?_<;>intro hb1
 ·have hlt:i<l.length:=(by have:=of_decide_eq_true hb1;omega);obtain⟨c,hx⟩:∃c,l[i]? =some c:=⟨l[i],List.getElem?_eq_getElem hlt⟩;refine A14 ?_;refine r_idxS (b:=c) (r:=(c.toNat:Int)) u9 rfl rfl rfl rfl (by omega) hx rfl ?_;refine A2 ?_;refine Rs 13 ?_ ?_<;>intro hb2
  ·have h32:c.toNat<32:=(by have:=of_decide_eq_true hb2;omega);have hz:zch c=false:=by unfold zch;simp;omega
   refine A19 ?_;refine E1 fun w hL=>⟨?_,hL.below⟩;exact eB (by unfold zoneL;rw[hI,all_go hx,hz];rfl)
  ·have h32:¬c.toNat<32:=(by have:=of_decide_eq_false hb2;omega);refine A2 ?_;refine r_idxS (b:=c) (r:=(c.toNat:Int)) u9 rfl rfl rfl rfl (by omega) hx rfl ?_;refine A4 ?_;refine Cd ?_ ?_<;>intro hb3
   ·have h126:126<c.toNat:=(by have:=of_decide_eq_true hb3;omega);have hz:zch c=false:=by unfold zch;simp;omega
    refine A11 ?_;refine E1 fun w hL=>⟨?_,hL.below⟩;exact eB (by unfold zoneL;rw[hI,all_go hx,hz];rfl)
   ·have h126:¬126<c.toNat:=(by have:=of_decide_eq_false hb3;omega);have hz:zch c=true:=by unfold zch;simp;omega
    refine A4 ?_;refine Ar (((i+1:Nat):Int)) ?_;refine A3 ?_;exact Nl ⟨i+1,hlt,by rw[hI,all_go hx,hz,Bool.true_and]⟩
 ·have hge:i=l.length:=(by have:=of_decide_eq_false hb1;omega);subst hge;refine A9 ?_;refine r_know 21 (.int .i64 (l.length:Nat)) rfl (by rw[strU_size]) ?_;refine A2 ?_;refine Rs 23 ?_ ?_<;>intro hb2
  ·have h1:1≤l.length:=(by have:=of_decide_eq_true hb2;omega);refine A2 ?_;refine r_know 25 (.int .i64 (l.length:Nat)) rfl (by rw[strU_size]) ?_;refine A6 ?_;refine E1 fun w hL=>⟨?_,hL.below⟩;exact eB (by unfold zoneL;rw[hI,List.drop_length,decide_eq_true h1];simp;omega)
  ·have h1:¬1≤l.length:=(by have:=of_decide_eq_false hb2;omega);refine A8 ?_;refine E1 fun w hL=>⟨?_,hL.below⟩;exact eB (by unfold zoneL;rw[decide_eq_false h1];simp)
theorem c_p_quoted(p:Ps)(hs:p.s.length≤4096)(at0:Nat)(hat:at0<p.s.length)(g:Nat):ECall Tryz.prog 129 [PB g p true] [.pointer (some ⟨g,0,none⟩),.int .i64 (at0:Nat)] Unit (fun _=> .tuple #[]) (fun _=>[PB g (p.quoted at0) true]):=by
 refine⟨by kernel_rfl,fun B w hD hL0=>?_⟩;refine cB2 78 Tryz.func129 hL0 ?_;refine A2 ?_;refine r_alloc [_,_] 2 (fun g=>[_,⟨some g,127,_,2,true⟩]) rfl rfl z127 rfl rfl (fun _=>rfl) (fun g0=>?_);refine A5 ?_;refine Ar (((at0+1:Nat):Int)) ?_;refine A5 ?_;refine El (ι:={x:Nat×Bool×Bd // at0+1≤x.1∧x.1≤p.s.length∧x.2.2.ok∧QI p.s (at0+1) x.1 x.2.2.s∧x.2.2.s.length≤x.1}) (fun⟨⟨i,a,d⟩,h1,hi,hd,hq,hlen⟩=>([(0,.pointer (some ⟨g,0,none⟩)),(1,.int .i64 (at0:Nat)),(4,.pointer (some ⟨g0,0,none⟩)),(5,.int .i64 (i:Nat))],[PB g p true,BB g0 a d,BF d],p.s.length-i)) ⟨(at0+1,false,bd0),Nat.le_refl _,hat,bd0_ok,QI.zero _ _,Nat.zero_le _⟩ ?_ (hL:=(Weak.nilB [PB g p true,_] (by decide)));rintro⟨⟨i,a,d⟩,h1,hi,hd,hq,hlen⟩;(try dsimp only);dsimp only at h1 hi hd hq hlen;refine A8 ?_;refine Kr 12 (.string (strU p.s)) ?_;refine A1 ?_;refine r_know 13 (.int .i64 (p.s.length:Nat)) rfl (by rw[strU_size]) ?_;refine A3 ?_;refine Cd ?_ ?_<;>intro hb1
 ·have hlt:i<p.s.length:=(by have:=of_decide_eq_true hb1;omega);obtain⟨c,hx⟩:∃c,p.s[i]? =some c:=⟨p.s[i],List.getElem?_eq_getElem hlt⟩;refine A11 ?_;refine Kr 20 (.string (strU p.s)) ?_;refine A1 ?_;refine r_idxS (b:=c) (r:=(c.toNat:Int)) u9 rfl rfl rfl rfl (by omega) hx rfl ?_;refine A3 ?_;refine Cd ?_ ?_<;>intro hb2
  ·have hc:c=34:=by
    have hh:=hb2;exact UInt8.toNat_inj.1 (by have:=eq_of_beq hh;simpa using Int.ofNat_inj.1 this)
   refine A4 ?_;refine Ar (((i+1:Nat):Int)) ?_;refine A4 ?_;refine Kr 29 (.string (strU p.s)) ?_;refine A1 ?_;refine r_know 30 (.int .i64 (p.s.length:Nat)) rfl (by rw[strU_size]) ?_;refine A2 ?_;refine Rs 32 ?_ ?_<;>intro hb3
   ·have he:i+1=p.s.length:=by have:=eq_of_beq hb3;omega
    have h2:∀e,p.s[i+1]? =some e→e≠34:=fun e he2=>by rw[he,List.getElem?_eq_none (Nat.le_refl _)] at he2;cases he2
    refine A15 ?_;refine at_bne rfl ?_;refine A8 ?_;refine r_build [(0,_),(1,_),(2,_)] rfl rfl rfl (bd137_3) ?_;refine A2 ?_;refine So 0 2 [⟨some g,141,_,8,true⟩,_,_] [_,_,_,_,_,_,_,_] ?_;refine A3 ?_;refine at_regionM ?_;refine A5 ?_;refine Kr 60 (.string (strU p.s)) ?_;refine A1 ?_;refine r_know 61 (.int .i64 (p.s.length:Nat)) rfl (by rw[strU_size]) ?_;refine A2 ?_;refine Rs 63 ?_ ?_<;>intro hb4
    ·refine Gm 2 [1,2] [] (fun _=>[_,BB g0 a d,BZ d]) (c_b_String g0 a d hd (by omega)) (fun _=>?_);refine r_pcall [_] rfl rfl rfl (c_syntax_IsZone _ (by omega)) ?_;refine A3 ?_;refine Cd ?_ ?_<;>intro hb5
     ·have hz:zoneL d.s=true:=hb5;refine at_regionM ?_;refine A3 ?_;refine Ar (((i+1:Nat):Int)) ?_;refine A1 ?_;refine r_gcallN (A:=[BB g0 a d,BZ d]) [.pointer (some ⟨g0,0,none⟩)] [1,2] (fun _=>[_,BB g0 a d,BZ d]) rfl rfl rfl rfl (c_b_String2 g0 a d hd (by omega)) (by decide) rfl rfl rfl rfl (fun _=>rfl) (fun _=>rfl) (fun _=>rfl) (fun _=>?_);refine r_build [(0,_),(1,_),(2,_)] rfl rfl rfl (bd137_3) ?_;refine A2 ?_;refine So 0 1 [⟨some g,141,_,8,true⟩,_,_] [_,_,_,_,_,_,_,_] ?_;refine A2 ?_;refine So 0 2 [⟨some g,141,_,8,true⟩,_,_] [_,_,_,_,_,_,_,_] ?_;refine A1 ?_
      refine at_end0n rfl (fun w hL=>⟨(),rfl,hL.picks [some 0] ⟨⟨_,rfl,le_same (congrArg (fun c=>(⟨some g,141,c,8,true⟩:Blk)) (by unfold Ps.quoted;rw[hq.some hx hc h2];simp only[hz,if_true];rw[show at0+(i-(at0+1))+2=i+1 by omega];rfl))⟩,trivial⟩ rfl rfl⟩)
     ·have hz:zoneL d.s=false:=hb5;refine A1 ?_
      refine at_end0n rfl (fun w hL=>⟨(),rfl,hL.picks [some 0] ⟨⟨_,rfl,le_same (congrArg (fun c=>(⟨some g,141,c,8,true⟩:Blk)) (by unfold Ps.quoted;rw[hq.some hx hc h2];simp only[hz];rfl))⟩,trivial⟩ rfl rfl⟩)
    ·exfalso;have:=of_decide_eq_false hb4;omega
   ·have hne:i+1<p.s.length:=by have:=ne_of_beq_false hb3;omega
    obtain⟨c2,hx2⟩:∃c2,p.s[i+1]? =some c2:=⟨p.s[i+1],List.getElem?_eq_getElem hne⟩;refine A4 ?_;refine Kr 36 (.string (strU p.s)) ?_;refine A1 ?_;refine Ar (((i+1:Nat):Int)) ?_;refine r_idxS (b:=c2) (r:=(c2.toNat:Int)) u9 rfl rfl rfl rfl (by omega) hx2 rfl ?_;refine A4 ?_;refine Cd ?_ ?_<;>intro hb4
    ·have hc2:c2≠34:=by
      have hh:=hb4;intro e;subst e;exact absurd hh (by decide)
     have h2:∀e,p.s[i+1]? =some e→e≠34:=fun e he2=>by rw[hx2] at he2;cases he2;exact hc2
     refine A3 ?_;refine at_bne rfl ?_;refine A8 ?_;refine r_build [(0,_),(1,_),(2,_)] rfl rfl rfl (bd137_3) ?_;refine A2 ?_;refine So 0 2 [⟨some g,141,_,8,true⟩,_,_] [_,_,_,_,_,_,_,_] ?_;refine A3 ?_;refine at_regionM ?_;refine A5 ?_;refine Kr 60 (.string (strU p.s)) ?_;refine A1 ?_;refine r_know 61 (.int .i64 (p.s.length:Nat)) rfl (by rw[strU_size]) ?_;refine A2 ?_;refine Rs 63 ?_ ?_<;>intro hb5
     ·refine Gm 2 [1,2] [] (fun _=>[_,BB g0 a d,BZ d]) (c_b_String g0 a d hd (by omega)) (fun _=>?_);refine r_pcall [_] rfl rfl rfl (c_syntax_IsZone _ (by omega)) ?_;refine A3 ?_;refine Cd ?_ ?_<;>intro hb6
      ·have hz:zoneL d.s=true:=hb6;refine at_regionM ?_;refine A3 ?_;refine Ar (((i+1:Nat):Int)) ?_;refine A1 ?_;refine r_gcallN (A:=[BB g0 a d,BZ d]) [.pointer (some ⟨g0,0,none⟩)] [1,2] (fun _=>[_,BB g0 a d,BZ d]) rfl rfl rfl rfl (c_b_String2 g0 a d hd (by omega)) (by decide) rfl rfl rfl rfl (fun _=>rfl) (fun _=>rfl) (fun _=>rfl) (fun _=>?_);refine r_build [(0,_),(1,_),(2,_)] rfl rfl rfl (bd137_3) ?_;refine A2 ?_;refine So 0 1 [⟨some g,141,_,8,true⟩,_,_] [_,_,_,_,_,_,_,_] ?_;refine A2 ?_;refine So 0 2 [⟨some g,141,_,8,true⟩,_,_] [_,_,_,_,_,_,_,_] ?_;refine A1 ?_
       refine at_end0n rfl (fun w hL=>⟨(),rfl,hL.picks [some 0] ⟨⟨_,rfl,le_same (congrArg (fun c=>(⟨some g,141,c,8,true⟩:Blk)) (by unfold Ps.quoted;rw[hq.some hx hc h2];simp only[hz,if_true];rw[show at0+(i-(at0+1))+2=i+1 by omega];rfl))⟩,trivial⟩ rfl rfl⟩)
      ·have hz:zoneL d.s=false:=hb6;refine A1 ?_
       refine at_end0n rfl (fun w hL=>⟨(),rfl,hL.picks [some 0] ⟨⟨_,rfl,le_same (congrArg (fun c=>(⟨some g,141,c,8,true⟩:Blk)) (by unfold Ps.quoted;rw[hq.some hx hc h2];simp only[hz];rfl))⟩,trivial⟩ rfl rfl⟩)
     ·exfalso;have:=of_decide_eq_false hb5;omega
    ·have hc2:c2=34:=by
      have hh:=hb4;simp only[bne_eq_false_iff_eq] at hh;exact UInt8.toNat_inj.1 (Int.ofNat_inj.1 hh)
     refine A4 ?_;refine Ar (((i+1:Nat):Int)) ?_;refine A3 ?_;refine at_regionM ?_;refine A4 ?_;refine Kr 47 (.string (strU p.s)) ?_;refine A1 ?_;refine r_idxS (b:=c2) (r:=(c2.toNat:Int)) u9 rfl rfl rfl rfl (by omega) hx2 rfl ?_;refine Gm 2 [1,2] [] (fun x=>[PB g p true,BB g0 true x.1,BF x.1]) (c_b_WriteByte g0 a d c2 hd (by omega)) (fun⟨d',hd',e'⟩=>?_);refine A5 ?_;refine Ar (((i+1+1:Nat):Int)) ?_;refine A3 ?_;exact Nl ⟨(i+1+1,true,d'),by omega,by omega,hd',by rw[e'];exact hq.two h1 hx hc hx2 hc2,by rw[e',List.length_append];show d.s.length+1≤_;omega⟩
  ·have hc:c≠34:=by
    have hh:=hb2;intro e;subst e;exact absurd hh (by decide)
   refine A2 ?_;refine at_regionM ?_;refine A4 ?_;refine Kr 47 (.string (strU p.s)) ?_;refine A1 ?_;refine r_idxS (b:=c) (r:=(c.toNat:Int)) u9 rfl rfl rfl rfl (by omega) hx rfl ?_;refine Gm 2 [1,2] [] (fun x=>[PB g p true,BB g0 true x.1,BF x.1]) (c_b_WriteByte g0 a d c hd (by omega)) (fun⟨d',hd',e'⟩=>?_);refine A5 ?_;refine Ar (((i+1:Nat):Int)) ?_;refine A3 ?_;exact Nl ⟨(i+1,true,d'),by omega,by omega,hd',by rw[e'];exact hq.one h1 hx hc,by rw[e',List.length_append];show d.s.length+1≤_;omega⟩
 ·have hge:p.s.length≤i:=(by have:=of_decide_eq_false hb1;omega);refine A9 ?_;refine r_build [(0,_),(1,_),(2,_)] rfl rfl rfl (bd137_3) ?_;refine A2 ?_;refine So 0 2 [⟨some g,141,_,8,true⟩,_,_] [_,_,_,_,_,_,_,_] ?_;refine A3 ?_;refine at_regionM ?_;refine A5 ?_;refine Kr 60 (.string (strU p.s)) ?_;refine A1 ?_;refine r_know 61 (.int .i64 (p.s.length:Nat)) rfl (by rw[strU_size]) ?_;refine A2 ?_;refine Rs 63 ?_ ?_<;>intro hb2
  ·exfalso;have:=of_decide_eq_true hb2;omega
  ·refine A7 ?_
   refine at_end0n rfl (fun w hL=>⟨(),rfl,hL.picks [some 0] ⟨⟨_,rfl,le_same (congrArg (fun c=>(⟨some g,141,c,8,true⟩:Blk)) (by unfold Ps.quoted;rw[hq.none hge];rfl))⟩,trivial⟩ rfl rfl⟩)
end Go.Proofs.YtfijbadahkmhbaaGreatDoor
namespace Go.Via
open Go
theorem adv_end{p:Ps}{i:Nat}(h:p.skip=i)(hi:i=p.s.length):p.adv={p with pos:=i,k:=0,at_:=i,tx:=[]}:=by
 unfold Ps.adv
 rw[h,List.drop_eq_nil_of_le (by omega)]
section
variable{p:Ps}{i:Nat}{c:UInt8}(h:p.skip=i)(hx:p.s[i]? =some c)
theorem adv_word(h:p.skip=i)(hx:p.s[i]? =some c)(hl:isLet c=true){j:Nat}(hj:run8 wch p.s i=j):p.adv={p with pos:=j,k:=1,at_:=i,tx:=(p.s.drop i).take (j-i)}:=by
 subst hj
 unfold Ps.adv
 rw[h,drop_at hx]
 simp only[hl,if_true]
 unfold Ps.tok run8
 rw[drop_at hx,Nat.add_sub_cancel_left]
theorem adv_num(h:p.skip=i)(hx:p.s[i]? =some c)(hl:isLet c=false)(hd:isDig c=true){j:Nat}(hj:i+numLen (p.s.drop i)=j):p.adv={p with pos:=j,k:=2,at_:=i,tx:=(p.s.drop i).take (j-i)}:=by
 subst hj
 unfold Ps.adv
 rw[h,drop_at hx]
 simp only[hl,hd,if_true,Bool.false_eq_true,if_false]
 unfold Ps.tok
 rw[drop_at hx,Nat.add_sub_cancel_left]
theorem adv_quo(h:p.skip=i)(hx:p.s[i]? =some c)(hl:isLet c=false)(hd:isDig c=false)(hc:c=34):p.adv=({p with pos:=i}).quoted i:=by
 unfold Ps.adv
 rw[h,drop_at hx]
 simp only[hl,hd,Bool.false_eq_true,if_false]
 rw[if_pos hc]
theorem adv_sym(h:p.skip=i)(hx:p.s[i]? =some c)(hl:isLet c=false)(hd:isDig c=false)(hc:c≠34)(hs:symL.contains c=true):p.adv={p with pos:=i+1,k:=4,at_:=i,tx:=(p.s.drop i).take (i+1-i)}:=by
 unfold Ps.adv
 rw[h,drop_at hx]
 simp only[hl,hd,hc,hs,if_true,Bool.false_eq_true,if_false]
 unfold Ps.tok
 rw[drop_at hx,Nat.add_sub_cancel_left]
theorem adv_bad(h:p.skip=i)(hx:p.s[i]? =some c)(hl:isLet c=false)(hd:isDig c=false)(hc:c≠34)(hs:symL.contains c=false):p.adv={p with pos:=i,k:=5,at_:=i,tx:=(p.s.drop i).take (i-i)}:=by
 unfold Ps.adv
 rw[h,drop_at hx]
 simp only[hl,hd,hc,hs,if_true,Bool.false_eq_true,if_false]
 unfold Ps.tok
 rw[drop_at hx,Nat.sub_self,Nat.add_zero]
end
theorem num_aux(l:Bs8)(n i:Nat):i+(match l with|47::c::r=>if isDig c then n+1+dgs (c::r) else n|_=>n)=match l with|47::c::r=>if isDig c then i+n+1+dgs (c::r) else i+n|_=>i+n:=by
 split
 ·rename_i c r
  split<;>omega
 ·rfl
theorem run8_dgs(s:Bs8)(i:Nat):run8 isDig s i=i+dgs (s.drop i):=rfl
section
variable{s:Bs8}{i j:Nat}
theorem num_shape(hj:run8 isDig s i=j):i+numLen (s.drop i)=match s.drop j with
 |47::c::r=>if isDig c then j+1+dgs (c::r) else j
 |_=>j:=by
 subst hj
 unfold numLen
 rw[List.drop_drop,run8_dgs]
 exact num_aux _ _ _
theorem num_long(hj:run8 isDig s i=j){a b:UInt8}(h1:s[j]? =some a)(ha:a=47)(h2:s[j+1]? =some b)(hb:isDig b=true){k:Nat}(hk:run8 isDig s (j+1)=k):i+numLen (s.drop i)=k:=by
 subst ha
 rw[num_shape hj,drop_at h1,drop_at h2]
 simp only[hb,if_true]
 rw[←drop_at h2,←hk,run8_dgs]
theorem num_short1(hj:run8 isDig s i=j)(h:¬j+1<s.length):i+numLen (s.drop i)=j:=by
 rw[num_shape hj]
 split
 ·rename_i c r hq
  have:=congrArg List.length hq
  rw[List.length_drop] at this
  simp at this
  omega
 ·rfl
theorem num_short2(hj:run8 isDig s i=j){a:UInt8}(h1:s[j]? =some a)(ha:a≠47):i+numLen (s.drop i)=j:=by
 rw[num_shape hj,drop_at h1]
 split
 ·rename_i c r hq
  simp only[List.cons.injEq] at hq
  exact absurd hq.1 ha
 ·rfl
theorem num_short3(hj:run8 isDig s i=j){a b:UInt8}(h1:s[j]? =some a)(ha:a=47)(h2:s[j+1]? =some b)(hb:isDig b=false):i+numLen (s.drop i)=j:=by
 subst ha
 rw[num_shape hj,drop_at h1,drop_at h2]
 simp[hb]
end
end Go.Via
namespace Go.Proofs.YtfijbadahkmhbaaGreatDoor
open Go Go.RowKit Go.Via
theorem c_p_digits(p:Ps)(hok:p.ok)(g:Nat):ECall Tryz.prog 128 [PB g p true] [.pointer (some ⟨g,0,none⟩)] Unit (fun _=> .tuple #[]) (fun _=>[PB g {p with pos:=run8 isDig p.s p.pos} true]):=by
 refine⟨by kernel_rfl,fun B w hD hL0=>?_⟩;obtain⟨hs,hp⟩:=hok;refine cB1 31 Tryz.func128 hL0 ?_;refine A1 ?_;refine El (ι:={i:Nat // i≤p.s.length∧run8 isDig p.s p.pos=run8 isDig p.s i}) (fun⟨i,hi,hI⟩=>([(0,.pointer (some ⟨g,0,none⟩))],[PB g {p with pos:=i} true],p.s.length-i)) ⟨p.pos,hp,rfl⟩ ?_;rintro⟨i,hi,hI⟩;(try dsimp only);refine A2 ?_;refine at_drawn (l':=[⟨_,_,_,_,_,_⟩,⟨_,_,_,_,_,_⟩,⟨_,_,_,_,_,_⟩,⟨_,_,_,_,_,_⟩,⟨_,_,_,_,_,_⟩,⟨_,_,_,_,_,_⟩,⟨_,_,_,_,_,_⟩,⟨_,_,_,_,_,_⟩,⟨_,_,_,_,_,_⟩,⟨_,_,_,_,_,_⟩,⟨_,_,_,_,_,_⟩,⟨_,_,_,_,_,_⟩,⟨_,_,_,_,_,_⟩,⟨_,_,_,_,_,_⟩,⟨_,_,_,_,_,_⟩,⟨_,_,_,_,_,_⟩,⟨_,_,_,_,_,_⟩,⟨_,_,_,_,_,_⟩,⟨_,_,_,_,_,_⟩,⟨_,_,_,_,_,_⟩,⟨_,_,_,_,_,_⟩,⟨_,_,_,_,_,_⟩]) [] [0,1,2,3,4,5,6,7,8,9,10,11,12,13,14,15,16,17,18,19,20,21] mixed (drawnM [0,1,3,7,0,16,48,112,240,511,1023,2047,4095,8191,16383,2047,34815,100351,231423,524287,1048575,2097151] (by kernel_rfl)) rfl (by kernel_rfl) ?_;refine A4 ?_;refine Kr 5 (.int .i64 (i:Nat)) ?_;refine A4 ?_;refine Kr 9 (.string (strU p.s)) ?_;refine A1 ?_;refine r_know 10 (.int .i64 (p.s.length:Nat)) rfl (by rw[strU_size]) ?_;refine A2 ?_;refine Rs 12 ?_ ?_<;>intro hb1
 ·have hlt:i<p.s.length:=(by have:=of_decide_eq_true hb1;omega);obtain⟨c,hx⟩:∃c,p.s[i]? =some c:=⟨p.s[i],List.getElem?_eq_getElem hlt⟩;refine A4 ?_;refine Kr 16 (.string (strU p.s)) ?_;refine A4 ?_;refine Kr 20 (.int .i64 (i:Nat)) ?_;refine r_idxS (b:=c) (r:=(c.toNat:Int)) u9 rfl rfl rfl rfl (by omega) hx rfl ?_;refine Pc (c_syntax_isDigit _) ?_;refine A3 ?_;refine Cd ?_ ?_<;>intro hb2
  ·have hdig:isDig c=true:=hb2;refine A8 ?_;refine Kr 27 (.int .i64 (i:Nat)) ?_;refine Ar (((i+1:Nat):Int)) ?_;refine A2 ?_;refine So 0 1 [⟨some g,141,_,8,true⟩] [_,_,_,_,_,_,_,_] ?_;refine A3 ?_;exact Nl ⟨i+1,hlt,hI.trans (run8_go hx hdig)⟩
  ·have hdig:isDig c=false:=hb2;refine A4 ?_
   refine at_end0n rfl (fun w hL=>⟨(),rfl,hL.picks [some 0] ⟨⟨_,rfl,le_same (congrArg (fun c=>(⟨some g,141,c,8,true⟩:Blk)) (by(rw[hI,run8_stop hx hdig])<;>rfl))⟩,trivial⟩ rfl rfl⟩)
 ·have hge:i=p.s.length:=(by have:=of_decide_eq_false hb1;omega);refine A18 ?_
  refine at_end0n rfl (fun w hL=>⟨(),rfl,hL.picks [some 0] ⟨⟨_,rfl,le_same (congrArg (fun c=>(⟨some g,141,c,8,true⟩:Blk)) (by(rw[hI,hge,run8_end])<;>rfl))⟩,trivial⟩ rfl rfl⟩)
theorem c_p_advance(p:Ps)(hok:p.ok)(g:Nat):ECall Tryz.prog 99 [PB g p true] [.pointer (some ⟨g,0,none⟩)] Unit (fun _=> .tuple #[]) (fun _=>[PB g p.adv true]):=by
 refine⟨by kernel_rfl,fun B w hD hL0=>?_⟩;obtain⟨hs,hp⟩:=hok;refine cB1 178 Tryz.func99 hL0 ?_;refine A2 ?_;refine El (ι:={i:Nat // i≤p.s.length∧run8 spL.contains p.s p.pos=run8 spL.contains p.s i}) (fun⟨i,hi,hI⟩=>([(0,.pointer (some ⟨g,0,none⟩))],[PB g {p with pos:=i} true],p.s.length-i)) ⟨p.pos,hp,rfl⟩ ?_;rintro⟨i,hi,hI⟩;(try dsimp only);refine A2 ?_;refine at_drawn (l':=[⟨_,_,_,_,_,_⟩,⟨_,_,_,_,_,_⟩,⟨_,_,_,_,_,_⟩,⟨_,_,_,_,_,_⟩,⟨_,_,_,_,_,_⟩,⟨_,_,_,_,_,_⟩,⟨_,_,_,_,_,_⟩,⟨_,_,_,_,_,_⟩,⟨_,_,_,_,_,_⟩,⟨_,_,_,_,_,_⟩,⟨_,_,_,_,_,_⟩,⟨_,_,_,_,_,_⟩,⟨_,_,_,_,_,_⟩,⟨_,_,_,_,_,_⟩,⟨_,_,_,_,_,_⟩,⟨_,_,_,_,_,_⟩,⟨_,_,_,_,_,_⟩,⟨_,_,_,_,_,_⟩,⟨_,_,_,_,_,_⟩,⟨_,_,_,_,_,_⟩,⟨_,_,_,_,_,_⟩,⟨_,_,_,_,_,_⟩,⟨_,_,_,_,_,_⟩]) [] [0,1,2,3,4,5,6,7,8,9,10,11,12,13,14,15,16,17,18,19,20,21,22] mixed (drawnM [0,1,3,7,0,16,48,112,240,511,1023,2047,4095,8191,16383,2047,34815,100351,231423,524287,1048575,2097151,4194303] (by kernel_rfl)) rfl (by kernel_rfl) ?_;refine A4 ?_;refine Kr 8 (.int .i64 (i:Nat)) ?_;refine A4 ?_;refine Kr 12 (.string (strU p.s)) ?_;refine A1 ?_;refine r_know 13 (.int .i64 (p.s.length:Nat)) rfl (by rw[strU_size]) ?_;refine A2 ?_;refine Rs 15 ?_ ?_<;>intro hb1
 ·have hlt:i<p.s.length:=(by have:=of_decide_eq_true hb1;omega);obtain⟨c,hx⟩:∃c,p.s[i]? =some c:=⟨p.s[i],List.getElem?_eq_getElem hlt⟩;refine A4 ?_;refine Kr 19 (.string (strU p.s)) ?_;refine A4 ?_;refine Kr 23 (.int .i64 (i:Nat)) ?_;refine r_idxS (b:=c) (r:=(c.toNat:Int)) u9 rfl rfl rfl rfl (by omega) hx rfl ?_;refine Pc (c_strings_IndexByte spL c) ?_;refine A1 ?_;refine r_know 26 (.bool (spL.contains c)) rfl (by first|(rw[←idxB_ge];done)|(rw[←idxB_ge];rfl)) ?_;refine A3 ?_;refine Cd ?_ ?_<;>intro hb2
  ·have hsp:spL.contains c=true:=hb2;refine A8 ?_;refine Kr 31 (.int .i64 (i:Nat)) ?_;refine Ar (((i+1:Nat):Int)) ?_;refine A2 ?_;refine So 0 1 [⟨some g,141,_,8,true⟩] [_,_,_,_,_,_,_,_] ?_;refine A3 ?_;exact Nl ⟨i+1,hlt,hI.trans (run8_go hx hsp)⟩
  ·have hsp:spL.contains c=false:=hb2;have hsk:p.skip=i:=by rw[skip_run8,hI,run8_stop hx hsp]
   refine A11 ?_;refine Kr 38 (.int .i64 (i:Nat)) ?_;refine A11 ?_;refine Kr 43 (.string (strU p.s)) ?_;refine A1 ?_;refine r_know 44 (.int .i64 (p.s.length:Nat)) rfl (by rw[strU_size]) ?_;refine A3 ?_;refine Cd ?_ ?_<;>intro hb3
   ·exfalso;have:=eq_of_beq hb3;omega
   ·refine A14 ?_;refine Kr 54 (.string (strU p.s)) ?_;refine A1 ?_;refine r_idxS (b:=c) (r:=(c.toNat:Int)) u9 rfl rfl rfl rfl (by omega) hx rfl ?_;refine A7 ?_;refine Pc (c_syntax_isLetter c) ?_;refine A3 ?_;refine Cd ?_ ?_<;>intro hb4
    ·have hlet:isLet c=true:=hb4;refine A6 ?_;refine El (ι:={j:Nat // i≤j∧j≤p.s.length∧run8 wch p.s i=run8 wch p.s j}) (fun⟨j,hij,hjl,hJ⟩=>([(0,.pointer (some ⟨g,0,none⟩)),(2,.int .i64 (i:Nat)),(3,.int .i64 1)],[PB g {p with pos:=j} true],p.s.length-j)) ⟨i,Nat.le_refl _,by omega,rfl⟩ ?_;rintro⟨j,hij,hjl,hJ⟩;(try dsimp only);refine A2 ?_;refine at_drawn (l':=[⟨_,_,_,_,_,_⟩,⟨_,_,_,_,_,_⟩,⟨_,_,_,_,_,_⟩,⟨_,_,_,_,_,_⟩,⟨_,_,_,_,_,_⟩,⟨_,_,_,_,_,_⟩,⟨_,_,_,_,_,_⟩,⟨_,_,_,_,_,_⟩,⟨_,_,_,_,_,_⟩,⟨_,_,_,_,_,_⟩,⟨_,_,_,_,_,_⟩,⟨_,_,_,_,_,_⟩,⟨_,_,_,_,_,_⟩,⟨_,_,_,_,_,_⟩,⟨_,_,_,_,_,_⟩,⟨_,_,_,_,_,_⟩,⟨_,_,_,_,_,_⟩,⟨_,_,_,_,_,_⟩,⟨_,_,_,_,_,_⟩,⟨_,_,_,_,_,_⟩,⟨_,_,_,_,_,_⟩,⟨_,_,_,_,_,_⟩,⟨_,_,_,_,_,_⟩,⟨_,_,_,_,_,_⟩,⟨_,_,_,_,_,_⟩,⟨_,_,_,_,_,_⟩,⟨_,_,_,_,_,_⟩,⟨_,_,_,_,_,_⟩]) [] [0,1,2,3,4,5,6,7,8,9,10,11,12,13,14,15,16,17,18,19,20,21,22,23,24,25,26,27] mixed (drawnM [0,1,3,7,0,16,48,112,240,511,1023,2047,4095,8191,16383,2047,34815,100351,231423,2047,526335,1574911,3672063,7866367,16777215,33554431,67108863,134217727] (by kernel_rfl)) rfl (by kernel_rfl) ?_;refine A4 ?_;refine Kr 63 (.int .i64 (j:Nat)) ?_;refine A4 ?_;refine Kr 67 (.string (strU p.s)) ?_;refine A1 ?_;refine r_know 68 (.int .i64 (p.s.length:Nat)) rfl (by rw[strU_size]) ?_;refine A2 ?_;refine Rs 70 ?_ ?_<;>intro hb6
     ·have hltj:j<p.s.length:=(by have:=of_decide_eq_true hb6;omega);obtain⟨e,hy⟩:∃e,p.s[j]? =some e:=⟨p.s[j],List.getElem?_eq_getElem hltj⟩;refine A4 ?_;refine Kr 74 (.string (strU p.s)) ?_;refine A4 ?_;refine Kr 78 (.int .i64 (j:Nat)) ?_;refine A4 ?_;refine Kr 82 (.int .i64 (j:Nat)) ?_;refine Ar (((j+1:Nat):Int)) ?_;refine r_sliceS (i:=j) (j:=j+1) (r:=[e]) u9 rfl rfl rfl rfl rfl (by omega) (by omega) (by rw[drop_at hy,Nat.add_sub_cancel_left];rfl) ?_;refine r_addS (p:=[97]) (q:=[e]) rfl rfl rfl rfl rfl rfl rfl (by simp) ?_;refine Pc (c_syntax_isWord ([97]++[e]) (by simp)) ?_;refine r_know 86 (.bool (wch e)) rfl (by rw[wordL_a]) ?_;refine A3 ?_;refine Cd ?_ ?_<;>intro hb7
      ·have hw:wch e=true:=hb7;refine A8 ?_;refine Kr 91 (.int .i64 (j:Nat)) ?_;refine Ar (((j+1:Nat):Int)) ?_;refine A2 ?_;refine So 0 1 [⟨some g,141,_,8,true⟩] [_,_,_,_,_,_,_,_] ?_;refine A3 ?_;exact Nl ⟨j+1,by omega,hltj,hJ.trans (run8_go hy hw)⟩
      ·have hw:wch e=false:=hb7;refine A6 ?_;refine at_drawnI [] mixed (by kernel_rfl) (by kernel_rfl) ?_;refine A7 ?_;refine Kr 168 (.string (strU p.s)) ?_;refine A5 ?_;refine Kr 173 (.int .i64 (j:Nat)) ?_;refine r_sliceS (i:=i) (j:=j) u9 rfl rfl rfl rfl rfl (by omega) (by omega) rfl ?_;refine r_build [(0,_),(1,_),(2,_)] rfl rfl rfl (bd137_3) ?_;refine A2 ?_;refine So 0 2 [⟨some g,141,_,8,true⟩] [_,_,_,_,_,_,_,_] ?_;refine A1 ?_
       refine at_end0n rfl (fun w hL=>⟨(),rfl,hL.picks [some 0] ⟨⟨_,rfl,le_same (congrArg (fun c=>(⟨some g,141,c,8,true⟩:Blk)) (by first|(rw[adv_word (j:=j) hsk hx hlet (by rw[hJ,run8_stop hy hw])];done)|(rw[adv_word (j:=j) hsk hx hlet (by rw[hJ,run8_stop hy hw])];rfl)))⟩,trivial⟩ rfl rfl⟩)
     ·have hgej:j=p.s.length:=(by have:=of_decide_eq_false hb6;omega);refine A26 ?_;refine at_drawnI [] mixed (by kernel_rfl) (by kernel_rfl) ?_;refine A7 ?_;refine Kr 168 (.string (strU p.s)) ?_;refine A5 ?_;refine Kr 173 (.int .i64 (j:Nat)) ?_;refine r_sliceS (i:=i) (j:=j) u9 rfl rfl rfl rfl rfl (by omega) (by omega) rfl ?_;refine r_build [(0,_),(1,_),(2,_)] rfl rfl rfl (bd137_3) ?_;refine A2 ?_;refine So 0 2 [⟨some g,141,_,8,true⟩] [_,_,_,_,_,_,_,_] ?_;refine A1 ?_
      refine at_end0n rfl (fun w hL=>⟨(),rfl,hL.picks [some 0] ⟨⟨_,rfl,le_same (congrArg (fun c=>(⟨some g,141,c,8,true⟩:Blk)) (by first|(rw[adv_word (j:=j) hsk hx hlet (by rw[hJ,hgej,run8_end])];done)|(rw[adv_word (j:=j) hsk hx hlet (by rw[hJ,hgej,run8_end])];rfl)))⟩,trivial⟩ rfl rfl⟩)
    ·have hlet:isLet c=false:=hb4;refine A3 ?_;refine Pc (c_syntax_isDigit c) ?_;refine A3 ?_;refine Cd ?_ ?_<;>intro hb5
     ·have hdig:isDig c=true:=hb5;refine A6 ?_;refine at_regionM ?_;refine A1 ?_;refine Gm 1 [0] [] (fun _=>[PB g {p with pos:=run8 isDig p.s (i)} true]) (c_p_digits {p with pos:=i} ⟨hs,by show i≤p.s.length;omega⟩ g) (fun _=>?_)
      obtain⟨j,hj⟩:∃j,run8 isDig p.s (i)=j:=⟨_,rfl⟩;have hjg:i≤j:=by rw[←hj];exact run8_ge
      have hjl:j≤p.s.length:=(by rw[←hj];exact run8_le (by omega));rw[hj];refine A3 ?_;refine at_drawn (l':=(⟨_,_,_,_,_,_⟩::⟨_,_,_,_,_,_⟩::⟨_,_,_,_,_,_⟩::⟨_,_,_,_,_,_⟩::⟨_,_,_,_,_,_⟩::⟨_,_,_,_,_,_⟩::⟨_,_,_,_,_,_⟩::⟨_,_,_,_,_,_⟩::⟨_,_,_,_,_,_⟩::⟨_,_,_,_,_,_⟩::⟨_,_,_,_,_,_⟩::⟨_,_,_,_,_,_⟩::⟨_,_,_,_,_,_⟩::⟨_,_,_,_,_,_⟩::⟨_,_,_,_,_,_⟩::⟨_,_,_,_,_,_⟩::⟨_,_,_,_,_,_⟩::⟨_,_,_,_,_,_⟩::⟨_,_,_,_,_,_⟩::⟨_,_,_,_,_,_⟩::⟨_,_,_,_,_,_⟩::⟨_,_,_,_,_,_⟩::⟨_,_,_,_,_,_⟩::⟨_,_,_,_,_,_⟩::⟨_,_,_,_,_,_⟩::⟨_,_,_,_,_,_⟩::⟨_,_,_,_,_,_⟩::⟨_,_,_,_,_,_⟩::⟨_,_,_,_,_,_⟩::⟨_,_,_,_,_,_⟩::⟨_,_,_,_,_,_⟩::⟨_,_,_,_,_,_⟩::⟨_,_,_,_,_,_⟩::⟨_,_,_,_,_,_⟩::⟨_,_,_,_,_,_⟩::⟨_,_,_,_,_,_⟩::[])) [] (0::1::2::3::4::5::6::7::8::9::10::11::12::13::14::15::16::17::18::19::20::21::22::23::24::25::26::27::28::29::30::31::32::33::34::35::[]) mixed (drawnM (0::1::3::7::15::0::32::96::224::480::1023::2047::4095::8191::16383::32767::4095::69631::200703::462847::1048575::2097151::4194303::8388607::16777215::33554431::67108863::134217727::16777215::285212671::822083583::1895825407::4043309055::8589934591::17179869183::34359738367::[]) (by kernel_rfl)) rfl (by kernel_rfl) ?_;refine A4 ?_;refine Kr 103 (.int .i64 (j:Nat)) ?_;refine Ar (((j+1:Nat):Int)) ?_;refine A4 ?_;refine Kr 108 (.string (strU p.s)) ?_;refine A1 ?_;refine r_know 109 (.int .i64 (p.s.length:Nat)) rfl (by rw[strU_size]) ?_;refine A2 ?_;refine Rs 111 ?_ ?_<;>intro hb6
      ·have hj1:j+1<p.s.length:=(by have:=of_decide_eq_true hb6;omega);obtain⟨c1,hx1⟩:∃c1,p.s[j]? =some c1:=⟨p.s[j],List.getElem?_eq_getElem (by omega)⟩;obtain⟨c2,hx2⟩:∃c2,p.s[j+1]? =some c2:=⟨p.s[j+1],List.getElem?_eq_getElem hj1⟩;refine A4 ?_;refine Kr 115 (.string (strU p.s)) ?_;refine A4 ?_;refine Kr 119 (.int .i64 (j:Nat)) ?_;refine r_idxS (b:=c1) (r:=(c1.toNat:Int)) u9 rfl rfl rfl rfl (by omega) hx1 rfl ?_;refine A3 ?_;refine Rs 123 ?_ ?_<;>intro hb7
       ·have h47:c1=47:=by
         have hh:=hb7;exact UInt8.toNat_inj.1 (by have:=eq_of_beq hh;simpa using Int.ofNat_inj.1 this)
        refine A4 ?_;refine Kr 127 (.string (strU p.s)) ?_;refine A4 ?_;refine Kr 131 (.int .i64 (j:Nat)) ?_;refine Ar (((j+1:Nat):Int)) ?_;refine r_idxS (b:=c2) (r:=(c2.toNat:Int)) u9 rfl rfl rfl rfl (by omega) hx2 rfl ?_;refine Pc (c_syntax_isDigit c2) ?_;refine A3 ?_;refine Cd ?_ ?_<;>intro hb8
        ·have hdig2:isDig c2=true:=hb8;refine A6 ?_;refine Kr 139 (.int .i64 (j:Nat)) ?_;refine Ar (((j+1:Nat):Int)) ?_;refine A2 ?_;refine So 0 1 [⟨some g,141,_,8,true⟩] [_,_,_,_,_,_,_,_] ?_;refine A2 ?_;refine at_regionM ?_;refine A1 ?_;refine Gm 1 [0] [] (fun _=>[PB g {p with pos:=run8 isDig p.s (j+1)} true]) (c_p_digits {p with pos:=j+1} ⟨hs,by show j+1≤p.s.length;omega⟩ g) (fun _=>?_)
         obtain⟨k,hk⟩:∃k,run8 isDig p.s (j+1)=k:=⟨_,rfl⟩;have hkg:j+1≤k:=by rw[←hk];exact run8_ge
         have hkl:k≤p.s.length:=(by rw[←hk];exact run8_le (by omega));rw[hk];refine A3 ?_;refine at_drawnI [] mixed (by kernel_rfl) (by kernel_rfl) ?_;refine A7 ?_;refine Kr 168 (.string (strU p.s)) ?_;refine A5 ?_;refine Kr 173 (.int .i64 (k:Nat)) ?_;refine r_sliceS (i:=i) (j:=k) u9 rfl rfl rfl rfl rfl (by omega) (by omega) rfl ?_;refine r_build [(0,_),(1,_),(2,_)] rfl rfl rfl (bd137_3) ?_;refine A2 ?_;refine So 0 2 [⟨some g,141,_,8,true⟩] [_,_,_,_,_,_,_,_] ?_;refine A1 ?_
         refine at_end0n rfl (fun w hL=>⟨(),rfl,hL.picks [some 0] ⟨⟨_,rfl,le_same (congrArg (fun c=>(⟨some g,141,c,8,true⟩:Blk)) (by first|(rw[adv_num hsk hx hlet hdig (num_long hj hx1 h47 hx2 hdig2 hk)];done)|(rw[adv_num hsk hx hlet hdig (num_long hj hx1 h47 hx2 hdig2 hk)];rfl)))⟩,trivial⟩ rfl rfl⟩)
        ·have hdig2:isDig c2=false:=hb8;refine A3 ?_;refine at_drawnI [] mixed (by kernel_rfl) (by kernel_rfl) ?_;refine A7 ?_;refine Kr 168 (.string (strU p.s)) ?_;refine A5 ?_;refine Kr 173 (.int .i64 (j:Nat)) ?_;refine r_sliceS (i:=i) (j:=j) u9 rfl rfl rfl rfl rfl (by omega) (by omega) rfl ?_;refine r_build [(0,_),(1,_),(2,_)] rfl rfl rfl (bd137_3) ?_;refine A2 ?_;refine So 0 2 [⟨some g,141,_,8,true⟩] [_,_,_,_,_,_,_,_] ?_;refine A1 ?_
         refine at_end0n rfl (fun w hL=>⟨(),rfl,hL.picks [some 0] ⟨⟨_,rfl,le_same (congrArg (fun c=>(⟨some g,141,c,8,true⟩:Blk)) (by first|(rw[adv_num hsk hx hlet hdig (num_short3 hj hx1 h47 hx2 hdig2)];done)|(rw[adv_num hsk hx hlet hdig (num_short3 hj hx1 h47 hx2 hdig2)];rfl)))⟩,trivial⟩ rfl rfl⟩)
       ·have h47:c1≠47:=by
         have hh:=hb7;intro e;subst e;exact absurd hh (by decide)
        refine A18 ?_;refine at_drawnI [] mixed (by kernel_rfl) (by kernel_rfl) ?_;refine A7 ?_;refine Kr 168 (.string (strU p.s)) ?_;refine A5 ?_;refine Kr 173 (.int .i64 (j:Nat)) ?_;refine r_sliceS (i:=i) (j:=j) u9 rfl rfl rfl rfl rfl (by omega) (by omega) rfl ?_;refine r_build [(0,_),(1,_),(2,_)] rfl rfl rfl (bd137_3) ?_;refine A2 ?_;refine So 0 2 [⟨some g,141,_,8,true⟩] [_,_,_,_,_,_,_,_] ?_;refine A1 ?_
        refine at_end0n rfl (fun w hL=>⟨(),rfl,hL.picks [some 0] ⟨⟨_,rfl,le_same (congrArg (fun c=>(⟨some g,141,c,8,true⟩:Blk)) (by first|(rw[adv_num hsk hx hlet hdig (num_short2 hj hx1 h47)];done)|(rw[adv_num hsk hx hlet hdig (num_short2 hj hx1 h47)];rfl)))⟩,trivial⟩ rfl rfl⟩)
      ·have hj1:¬j+1<p.s.length:=(by have:=of_decide_eq_false hb6;omega);refine A30 ?_;refine at_drawnI [] mixed (by kernel_rfl) (by kernel_rfl) ?_;refine A7 ?_;refine Kr 168 (.string (strU p.s)) ?_;refine A5 ?_;refine Kr 173 (.int .i64 (j:Nat)) ?_;refine r_sliceS (i:=i) (j:=j) u9 rfl rfl rfl rfl rfl (by omega) (by omega) rfl ?_;refine r_build [(0,_),(1,_),(2,_)] rfl rfl rfl (bd137_3) ?_;refine A2 ?_;refine So 0 2 [⟨some g,141,_,8,true⟩] [_,_,_,_,_,_,_,_] ?_;refine A1 ?_
       refine at_end0n rfl (fun w hL=>⟨(),rfl,hL.picks [some 0] ⟨⟨_,rfl,le_same (congrArg (fun c=>(⟨some g,141,c,8,true⟩:Blk)) (by first|(rw[adv_num hsk hx hlet hdig (num_short1 hj hj1)];done)|(rw[adv_num hsk hx hlet hdig (num_short1 hj hj1)];rfl)))⟩,trivial⟩ rfl rfl⟩)
     ·have hdig:isDig c=false:=hb5;refine A7 ?_;refine Cd ?_ ?_<;>intro hb6
      ·have h34:c=34:=by
        have hh:=hb6;exact UInt8.toNat_inj.1 (by have:=eq_of_beq hh;simpa using Int.ofNat_inj.1 this)
       refine A1 ?_;refine at_regionM ?_;refine A2 ?_;refine Gm 1 [0] [] (fun _=>[PB g (({p with pos:=i}).quoted i) true]) (c_p_quoted {p with pos:=i} hs i hlt g) (fun _=>?_);refine A5 ?_;refine at_end0 rfl (fun w hL=>⟨(),rfl,hL.picks [some 0] ⟨⟨_,rfl,le_same (congrArg (fun c=>(⟨some g,141,c,8,true⟩:Blk)) (by first|(rw[adv_quo hsk hx hlet hdig h34];done)|(rw[adv_quo hsk hx hlet hdig h34];rfl)))⟩,trivial⟩ rfl rfl⟩)
      ·have h34:c≠34:=by
        have hh:=hb6;intro e;subst e;exact absurd hh (by decide)
       refine A3 ?_;refine Pc (c_strings_IndexByte symL c) ?_;refine A1 ?_;refine r_know 154 (.bool (symL.contains c)) rfl (by first|(rw[←idxB_ge];done)|(rw[←idxB_ge];rfl)) ?_;refine A3 ?_;refine Cd ?_ ?_<;>intro hb7
       ·have hsym:symL.contains c=true:=hb7;refine A10 ?_;refine Kr 158 (.int .i64 (i:Nat)) ?_;refine Ar (((i+1:Nat):Int)) ?_;refine A2 ?_;refine So 0 1 [⟨some g,141,_,8,true⟩] [_,_,_,_,_,_,_,_] ?_;refine A3 ?_;refine at_drawnI [] mixed (by kernel_rfl) (by kernel_rfl) ?_;refine A7 ?_;refine Kr 168 (.string (strU p.s)) ?_;refine A5 ?_;refine Kr 173 (.int .i64 (i+1:Nat)) ?_;refine r_sliceS (i:=i) (j:=i+1) u9 rfl rfl rfl rfl rfl (by omega) (by omega) rfl ?_;refine r_build [(0,_),(1,_),(2,_)] rfl rfl rfl (bd137_3) ?_;refine A2 ?_;refine So 0 2 [⟨some g,141,_,8,true⟩] [_,_,_,_,_,_,_,_] ?_;refine A1 ?_
        refine at_end0n rfl (fun w hL=>⟨(),rfl,hL.picks [some 0] ⟨⟨_,rfl,le_same (congrArg (fun c=>(⟨some g,141,c,8,true⟩:Blk)) (by first|(rw[adv_sym hsk hx hlet hdig h34 hsym];done)|(rw[adv_sym hsk hx hlet hdig h34 hsym];rfl)))⟩,trivial⟩ rfl rfl⟩)
       ·have hsym:symL.contains c=false:=hb7;refine A3 ?_;refine at_drawnI [] mixed (by kernel_rfl) (by kernel_rfl) ?_;refine A7 ?_;refine Kr 168 (.string (strU p.s)) ?_;refine A5 ?_;refine Kr 173 (.int .i64 (i:Nat)) ?_;refine r_sliceS (i:=i) (j:=i) u9 rfl rfl rfl rfl rfl (by omega) (by omega) rfl ?_;refine r_build [(0,_),(1,_),(2,_)] rfl rfl rfl (bd137_3) ?_;refine A2 ?_;refine So 0 2 [⟨some g,141,_,8,true⟩] [_,_,_,_,_,_,_,_] ?_;refine A1 ?_
        refine at_end0n rfl (fun w hL=>⟨(),rfl,hL.picks [some 0] ⟨⟨_,rfl,le_same (congrArg (fun c=>(⟨some g,141,c,8,true⟩:Blk)) (by first|(rw[adv_bad hsk hx hlet hdig h34 hsym];done)|(rw[adv_bad hsk hx hlet hdig h34 hsym];rfl)))⟩,trivial⟩ rfl rfl⟩)
 ·have hge:i=p.s.length:=(by have:=of_decide_eq_false hb1;omega);have hsk:p.skip=i:=by rw[skip_run8,hI,hge,run8_end]
  refine A26 ?_;refine Kr 38 (.int .i64 (i:Nat)) ?_;refine A11 ?_;refine Kr 43 (.string (strU p.s)) ?_;refine A1 ?_;refine r_know 44 (.int .i64 (p.s.length:Nat)) rfl (by rw[strU_size]) ?_;refine A3 ?_;refine Cd ?_ ?_<;>intro hb2
  ·refine A4 ?_;refine r_build [(0,_),(1,_),(2,_)] rfl rfl rfl (bd137_3) ?_;refine A2 ?_;refine So 0 2 [⟨some g,141,_,8,true⟩] [_,_,_,_,_,_,_,_] ?_;refine A4 ?_;refine at_end0 rfl (fun w hL=>⟨(),rfl,hL.picks [some 0] ⟨⟨_,rfl,le_same (congrArg (fun c=>(⟨some g,141,c,8,true⟩:Blk)) (by first|(rw[adv_end hsk hge];done)|(rw[adv_end hsk hge];rfl)))⟩,trivial⟩ rfl rfl⟩)
  ·exfalso;have:=ne_of_beq_false hb2;omega
theorem c_p_is(p:Ps)(x:Bs8)(g:Nat):SCall Tryz.prog 104 [PB g p false] [.pointer (some ⟨g,0,none⟩),.string (strU x)] Unit (fun _=> .bool (p.is x)) (fun _=>[]):=by
 refine⟨by kernel_rfl,fun w hL0=>?_⟩;refine cB2 35 Tryz.func104 hL0 ?_;refine A13 ?_;refine Rs 10 ?_ ?_<;>intro hb0
 ·have hf:p.fail=false:=by simpa using hb0
  refine A7 ?_;refine Rs 17 ?_ ?_<;>intro hb1
  ·have hk1:p.k=1:=by have:=eq_of_beq hb1;omega
   refine A21 ?_;refine at_end1 rfl (res_tmp rfl) (fun w hL=>⟨(),?_,hL.pk []⟩);exact eB (by unfold Ps.is;simp[hf,hk1,strU_beq])
  ·have hk1:p.k≠1:=by have:=ne_of_beq_false hb1;omega
   refine A9 ?_;refine Rs 26 ?_ ?_<;>intro hb2
   ·have hk4:p.k=4:=by have:=eq_of_beq hb2;omega
    refine A12 ?_;refine at_end1 rfl (res_tmp rfl) (fun w hL=>⟨(),?_,hL.pk []⟩);exact eB (by unfold Ps.is;simp[hf,hk1,hk4,strU_beq])
   ·have hk4:p.k≠4:=by have:=ne_of_beq_false hb2;omega
    refine A12 ?_;refine at_end1 rfl (res_tmp rfl) (fun w hL=>⟨(),?_,hL.pk []⟩);exact eB (by unfold Ps.is;simp[hf,hk1,hk4,strU_beq])
 ·have hf:p.fail=true:=by simpa using hb0
  refine A28 ?_;refine at_end1 rfl (res_tmp rfl) (fun w hL=>⟨(),?_,hL.pk []⟩);exact eB (by unfold Ps.is;simp[hf,strU_beq])
theorem c_p_stop(p:Ps)(e:Nat)(g:Nat):ECall Tryz.prog 78 [PB g p true] [.pointer (some ⟨g,0,none⟩),.int .i64 (e:Nat)] Unit (fun _=> .tuple #[]) (fun _=>[PB g (p.stop e) true]):=by
 refine⟨by kernel_rfl,fun B w hD hL0=>?_⟩;refine cB2 22 Tryz.func78 hL0 ?_;refine A9 ?_;refine Cd ?_ ?_<;>intro hb0
 ·have hf:p.fail=false:=by simpa using hb0
  refine A9 ?_;refine r_build [(0,_),(1,_)] rfl rfl rfl (bd139_2) ?_;refine A2 ?_;refine So 0 5 [⟨some g,141,_,8,true⟩] [_,_,_,_,_,_,_,_] ?_;refine A2 ?_;refine So 0 7 [⟨some g,141,_,8,true⟩] [_,_,_,_,_,_,_,_] ?_;refine A1 ?_
  refine at_end0n rfl (fun w hL=>⟨(),rfl,hL.picks [some 0] ⟨⟨_,rfl,le_same (congrArg (fun c=>(⟨some g,141,c,8,true⟩:Blk)) (by unfold Ps.stop;rw[hf];rfl))⟩,trivial⟩ rfl rfl⟩)
 ·have hf:p.fail=true:=by simpa using hb0
  refine A1 ?_
  refine at_end0n rfl (fun w hL=>⟨(),rfl,hL.picks [some 0] ⟨⟨_,rfl,le_same (congrArg (fun c=>(⟨some g,141,c,8,true⟩:Blk)) (by unfold Ps.stop;rw[hf];rfl))⟩,trivial⟩ rfl rfl⟩)
end Go.Proofs.YtfijbadahkmhbaaGreatDoor
namespace Go.Via
open Go Go.RowKit
theorem quo_lt:∀{l:Bs8} {n:Bs8} {k:Nat},quo l=some (n,k)→k<l.length
 |[],n,k,h=>by simp[quo] at h
 |[c],n,k,h=>by
  simp only[quo] at h
  split at h
  ·simp at h;simp;omega
  ·cases h
 |c::d::l,n,k,h=>by
  rw[quo] at h
  split at h
  ·split at h
   ·cases hq:quo l with
    |none=>rw[hq] at h;simp at h
    |some x=>
     rw[hq] at h
     simp at h
     have:=quo_lt (n:=x.1) (k:=x.2) hq
     simp only[List.length_cons]
     omega
   ·simp at h;simp only[List.length_cons];omega
  ·cases hq:quo (d::l) with
   |none=>rw[hq] at h;simp at h
   |some x=>
    rw[hq] at h
    simp at h
    have:=quo_lt (n:=x.1) (k:=x.2) hq
    simp only[List.length_cons] at*
    omega
theorem quoted_s(p:Ps)(a:Nat):(p.quoted a).s=p.s:=by
 unfold Ps.quoted
 split
 ·split<;>rfl
 ·rfl
theorem quoted_pos{p:Ps}{a:Nat}(h:p.pos≤p.s.length)(ha:a<p.s.length):(p.quoted a).pos≤p.s.length:=by
 unfold Ps.quoted
 split
 ·rename_i n k hq
  have:=quo_lt hq
  rw[List.length_drop] at this
  split
  ·show a+k+2≤_
   omega
  ·exact h
 ·exact h
theorem Ps.adv_s(p:Ps):p.adv.s=p.s:=by
 unfold Ps.adv
 split
 ·rfl
 ·split
  ·rfl
  ·split
   ·rfl
   ·split
    ·exact quoted_s _ _
    ·split<;>rfl
theorem Ps.skip_le{p:Ps}(h:p.ok):p.skip≤p.s.length:=by rw[skip_run8];exact run8_le h.2
theorem dgs_le(l:Bs8):dgs l≤l.length:=(List.takeWhile_sublist isDig (l:=l)).length_le
theorem numLen_le(l:Bs8):numLen l≤l.length:=by
 unfold numLen
 have h0:=dgs_le l
 split
 ·rename_i c r hq
  have h1:=congrArg List.length hq
  rw[List.length_drop] at h1
  simp only[List.length_cons] at h1
  have h2:=dgs_le (c::r)
  simp only[List.length_cons] at h2
  split<;>omega
 ·exact h0
theorem Ps.adv_ok{p:Ps}(h:p.ok):p.adv.ok:=by
 refine⟨by rw[Ps.adv_s];exact h.1,?_⟩
 rw[Ps.adv_s]
 have hsk:=Ps.skip_le h
 by_cases hi:p.skip=p.s.length
 ·rw[adv_end rfl hi];exact hsk
 ·obtain⟨c,hx⟩:∃c,p.s[p.skip]? =some c:=⟨p.s[p.skip]'(by omega),List.getElem?_eq_getElem _⟩
  by_cases h1:isLet c=true
  ·rw[adv_word rfl hx h1 rfl];exact run8_le hsk
  ·have h1:isLet c=false:=by simpa using h1
   by_cases h2:isDig c=true
   ·rw[adv_num rfl hx h1 h2 rfl]
    show p.skip+numLen _≤_
    have:=numLen_le (p.s.drop p.skip)
    rw[List.length_drop] at this
    omega
   ·have h2:isDig c=false:=by simpa using h2
    by_cases h3:c=34
    ·rw[adv_quo rfl hx h1 h2 h3]
     exact quoted_pos (p:={p with pos:=p.skip}) hsk (by show p.skip<p.s.length;omega)
    ·by_cases h4:symL.contains c=true
     ·rw[adv_sym rfl hx h1 h2 h3 h4];show p.skip+1≤_;omega
     ·rw[adv_bad rfl hx h1 h2 h3 (by simpa using h4)];exact hsk
theorem Ps.stop_ok{p:Ps}{e:Nat}(h:p.ok):(p.stop e).ok:=by
 unfold Ps.stop
 split<;>exact h
def Ps.tk(p:Ps)(x:Bs8):Ps:=if p.is x then p.adv else p
def numT(t:Bs8):Bool:=decide (0<dgs t)&&match t.drop (dgs t) with
 |[]=>true
 |c::r=>c==47&&decide (0<r.length)&&r.all isDig
def Ps.good(p:Ps):Prop:=p.ok∧(p.k=2→numT p.tx=true)∧p.tx.length≤4096
theorem tw_take{f:UInt8→Bool}:∀(l:Bs8) (n:Nat),(l.takeWhile f).length≤n→((l.take n).takeWhile f)=l.takeWhile f
 |[],n,_=>by simp
 |c::l,n,h=>by
  by_cases hc:f c=true
  ·rw[List.takeWhile_cons_of_pos hc] at h ⊢
   cases n with
   |zero=>simp at h
   |succ n=>rw[List.take_succ_cons,List.takeWhile_cons_of_pos hc,tw_take l n (by simpa using h)]
  ·rw[List.takeWhile_cons_of_neg hc]
   cases n with
   |zero=>simp
   |succ n=>rw[List.take_succ_cons,List.takeWhile_cons_of_neg hc]
theorem take_dgs_all(l:Bs8):(l.take (dgs l)).all isDig=true:=by
 unfold dgs
 induction l with
 |nil=>rfl
 |cons c l ih=>
  rw[List.takeWhile_cons]
  split
  ·rename_i hc
   simp only[List.length_cons,List.take_succ_cons,List.all_cons,hc,Bool.true_and]
   exact ih
  ·rfl
theorem numT_tok{c:UInt8}{l:Bs8}(hc:isDig c=true):numT ((c::l).take (numLen (c::l)))=true:=by
 have h0:0<dgs (c::l):=by unfold dgs;rw[List.takeWhile_cons,if_pos hc];simp
 have hge:dgs (c::l)≤numLen (c::l):=by
  unfold numLen
  split
  ·split<;>omega
  ·omega
 have e1:dgs ((c::l).take (numLen (c::l)))=dgs (c::l):=by unfold dgs at hge ⊢;rw[tw_take _ _ hge]
 unfold numT
 rw[e1,decide_eq_true h0,Bool.true_and,List.drop_take]
 have hn:numLen (c::l)=dgs (c::l)∨∃b r,(c::l).drop (dgs (c::l))=47::b::r∧isDig b=true∧numLen (c::l)=dgs (c::l)+1+dgs (b::r):=by
  unfold numLen
  split
  ·rename_i b r hq
   by_cases hb:isDig b=true
   ·rw[if_pos hb];exact .inr ⟨b,r,hq,hb,rfl⟩
   ·rw[if_neg hb];exact .inl rfl
  ·exact .inl rfl
 rcases hn with hn|⟨b,r,hq,hb,hn⟩
 ·rw[hn,Nat.sub_self,List.take_zero]
 ·rw[hn,hq]
  have h3:dgs (c::l)+1+dgs (b::r)-dgs (c::l)=dgs (b::r)+1:=by omega
  rw[h3,List.take_succ_cons]
  have h4:0<dgs (b::r):=by unfold dgs;rw[List.takeWhile_cons,if_pos hb];simp
  have h5:=dgs_le (b::r)
  simp only[beq_self_eq_true,Bool.true_and,take_dgs_all,Bool.and_true]
  rw[decide_eq_true]
  rw[List.length_take];omega
theorem Ps.adv_tx{p:Ps}(h:p.ok):p.adv.tx.length≤4096:=by
 have hsk:=Ps.skip_le h
 have h0:=h.1
 have key:∀n,((p.s.drop p.skip).take n).length≤4096:=fun n=>by
  rw[List.length_take,List.length_drop];omega
 by_cases hi:p.skip=p.s.length
 ·rw[adv_end rfl hi];exact Nat.zero_le _
 ·obtain⟨c,hx⟩:∃c,p.s[p.skip]? =some c:=⟨p.s[p.skip]'(by omega),List.getElem?_eq_getElem _⟩
  by_cases h1:isLet c=true
  ·rw[adv_word rfl hx h1 rfl];exact key _
  ·have h1:isLet c=false:=by simpa using h1
   by_cases h2:isDig c=true
   ·rw[adv_num rfl hx h1 h2 rfl];exact key _
   ·have h2:isDig c=false:=by simpa using h2
    by_cases h3:c=34
    ·rw[adv_quo rfl hx h1 h2 h3]
     unfold Ps.quoted
     split
     ·split
      ·rename_i hz
       have:zoneL _=true:=hz
       unfold zoneL at this
       simp only[Bool.and_eq_true,decide_eq_true_eq] at this
       exact Nat.le_trans this.2 (by decide)
      ·exact Nat.zero_le _
     ·exact Nat.zero_le _
    ·by_cases h4:symL.contains c=true
     ·rw[adv_sym rfl hx h1 h2 h3 h4];exact key _
     ·rw[adv_bad rfl hx h1 h2 h3 (by simpa using h4)];exact key _
theorem Ps.adv_good{p:Ps}(h:p.ok):p.adv.good:=by
 refine⟨Ps.adv_ok h,fun hk=>?_,Ps.adv_tx h⟩
 have hsk:=Ps.skip_le h
 by_cases hi:p.skip=p.s.length
 ·rw[adv_end rfl hi] at hk;cases hk
 ·obtain⟨c,hx⟩:∃c,p.s[p.skip]? =some c:=⟨p.s[p.skip]'(by omega),List.getElem?_eq_getElem _⟩
  by_cases h1:isLet c=true
  ·rw[adv_word rfl hx h1 rfl] at hk;cases hk
  ·have h1:isLet c=false:=by simpa using h1
   by_cases h2:isDig c=true
   ·rw[adv_num rfl hx h1 h2 rfl]
    show numT ((p.s.drop p.skip).take _)=true
    rw[Nat.add_sub_cancel_left,drop_at hx]
    exact numT_tok h2
   ·have h2:isDig c=false:=by simpa using h2
    by_cases h3:c=34
    ·rw[adv_quo rfl hx h1 h2 h3] at hk
     unfold Ps.quoted at hk
     split at hk
     ·split at hk<;>cases hk
     ·cases hk
    ·by_cases h4:symL.contains c=true
     ·rw[adv_sym rfl hx h1 h2 h3 h4] at hk;cases hk
     ·rw[adv_bad rfl hx h1 h2 h3 (by simpa using h4)] at hk;cases hk
theorem Ps.stop_good{p:Ps}{e:Nat}(h:p.good):(p.stop e).good:=by
 unfold Ps.stop
 split<;>exact h
theorem Ps.tk_good{p:Ps}{x:Bs8}(h:p.good):(p.tk x).good:=by
 unfold Ps.tk
 split
 ·exact Ps.adv_good h.1
 ·exact h
theorem Ps.want_good{p:Ps}{x:Bs8}(h:p.good):(p.want x).good:=by
 unfold Ps.want
 split
 ·exact Ps.adv_good h.1
 ·exact Ps.stop_good h
theorem Ps.name_good{p:Ps}(h:p.good):p.name.good:=by
 unfold Ps.name
 split
 ·exact Ps.stop_good h
 ·split
  ·exact Ps.stop_good h
  ·exact Ps.adv_good h.1
theorem Ps.number_good{p:Ps}{o:Bool}(h:p.good):(p.number o).2.good:=by
 unfold Ps.number
 split
 ·exact Ps.stop_good h
 ·split
  ·exact Ps.stop_good h
  ·split
   ·exact Ps.stop_good h
   ·exact Ps.adv_good h.1
theorem Ps.signed_good{p:Ps}(h:p.good):p.signed.2.good:=by
 unfold Ps.signed
 split
 ·exact Ps.number_good (Ps.adv_good h.1)
 ·exact Ps.number_good h
theorem Ps.zone_good{p:Ps}(h:p.good):p.zone.2.good:=by
 unfold Ps.zone
 refine Ps.want_good ?_
 split
 ·exact Ps.stop_good (Ps.want_good h)
 ·exact Ps.adv_good (Ps.want_good h).1
def OC3(o:Bs8×Nat×Nat):List Value:=[.string (strU o.1),.int .i64 (o.2.1:Nat),.int .i64 (o.2.2:Nat)]
def tabC(l:List (Bs8×Nat×Nat)):List Value:=l.flatMap OC3
theorem tabC_get:∀{l:List (Bs8×Nat×Nat)} {i:Nat} {o:Bs8×Nat×Nat},l[i]? =some o→((tabC l).drop (i*3)).take 3=OC3 o
 |[],i,o,h=>by simp at h
 |p::l,0,o,h=>by
  simp at h;subst h
  rfl
 |p::l,i+1,o,h=>by
  have ih:=tabC_get (l:=l) (i:=i) (o:=o) (by simpa using h)
  have e:(i+1)*3=3+i*3:=by omega
  have e2:tabC (p::l)=OC3 p++tabC l:=rfl
  rw[e,e2,←List.drop_drop]
  exact ih
theorem tabC_ne{l:List (Bs8×Nat×Nat)}(h:0<l.length):tabC l≠[]:=by
 cases l with
 |nil=>simp at h
 |cons p l=>intro e;cases e
def insL(ks:List Bs8):SMp:=ks.foldl (fun l k=>muS l (strU k) (.bool true)) []
theorem insL_snoc(ks:List Bs8)(k:Bs8):insL (ks++[k])=muS (insL ks) (strU k) (.bool true):=by
 unfold insL
 rw[List.foldl_append];rfl
theorem insL_simple(ks:List Bs8):simpleMS (insL ks)=true:=by
 unfold insL
 have:∀(ks:List Bs8) (l:SMp),simpleMS l=true→simpleMS (ks.foldl (fun l k=>muS l (strU k) (.bool true)) l)=true:=by
  intro ks
  induction ks with
  |nil=>intro l h;exact h
  |cons k ks ih=>intro l h;exact ih _ (simpleMS_mu h rfl)
 exact this ks [] rfl
theorem mgS_muS(l:SMp)(a b:ByteArray)(v:Value):mgS (muS l a v) b=if a=b then some v else mgS l b:=by
 induction l with
 |nil=>rfl
 |cons p l ih=>
  unfold muS
  by_cases h:p.1=a
  ·rw[if_pos h]
   unfold mgS
   by_cases h2:a=b
   ·rw[if_pos h2,if_pos h2]
   ·rw[if_neg h2,if_neg h2,if_neg (by rw[h];exact h2)]
  ·rw[if_neg h]
   unfold mgS
   by_cases h2:p.1=b
   ·rw[if_pos h2,if_pos h2,if_neg (by rw[←h2];exact fun e=>h e.symm)]
   ·rw[if_neg h2,if_neg h2,ih]
theorem insL_get(ks:List Bs8)(s:Bs8):(mgS (insL ks) (strU s)).getD (.bool false)= .bool (ks.contains s):=by
 suffices h:∀(ks:List Bs8) (l:SMp),mgS (ks.foldl (fun l k=>muS l (strU k) (.bool true)) l) (strU s)=if ks.contains s then some (.bool true) else mgS l (strU s) by
  unfold insL
  rw[h]
  cases ks.contains s<;>rfl
 intro ks
 induction ks with
 |nil=>intro l;rfl
 |cons k ks ih=>
  intro l
  rw[List.foldl_cons,ih,mgS_muS,List.contains_cons]
  by_cases h1:ks.contains s=true
  ·rw[if_pos h1,h1,Bool.or_true,if_pos rfl]
  ·have h1:ks.contains s=false:=by simpa using h1
   rw[h1,Bool.or_false]
   by_cases h2:k=s
   ·subst h2;simp
   ·rw[if_neg (fun e=>h2 (strU_inj e))]
    have:(s==k)=false:=by simpa using fun e=>h2 e.symm
    rw[this]
theorem ins_step{b:List Bs8}{l:List (Bs8×Nat×Nat)}{i:Nat}{o:Bs8×Nat×Nat}(h:l[i]? =some o):insL (b++(l.take (i+1)).map (·.1))=muS (insL (b++(l.take i).map (·.1))) (strU o.1) (.bool true):=by
 have e:l.take (i+1)=l.take i++[o]:=by rw[List.take_add_one,h];rfl
 rw[e,List.map_append,←List.append_assoc]
 exact insL_snoc _ _
end Go.Via
namespace Go.Proofs.YtfijbadahkmhbaaGreatDoor
open Go Go.RowKit Go.Via
theorem c_p_take(p:Ps)(hok:p.ok)(x:Bs8)(g:Nat):ECall Tryz.prog 75 [PB g p true] [.pointer (some ⟨g,0,none⟩),.string (strU x)] Unit (fun _=> .bool (p.is x)) (fun _=>[PB g (p.tk x) true]):=by
 refine⟨by kernel_rfl,fun B w hD hL0=>?_⟩;refine cB2 11 Tryz.func75 hL0 ?_;refine A10 ?_;refine r_scall0 [.pointer (some ⟨g,0,none⟩),.string (strU x)] [0] rfl rfl rfl (c_p_is p x g) ⟨⟨_,rfl,le_share⟩,trivial⟩ rfl ?_;refine A3 ?_;refine Cd ?_ ?_<;>intro hb0
 ·have his:p.is x=false:=by simpa using hb0
  refine A7 ?_;refine at_end1 rfl (res_tmp rfl) (fun w hL=>⟨(),by rw[his],by unfold Ps.tk;rw[his];exact hL⟩)
 ·have his:p.is x=true:=by simpa using hb0
  refine A3 ?_;refine at_regionM ?_;refine A1 ?_;refine Gm 1 [0] [] (fun _=>[PB g p.adv true]) (c_p_advance p hok g) (fun _=>?_);refine A8 ?_;refine at_end1 rfl (res_tmp rfl) (fun w hL=>⟨(),by rw[his],by unfold Ps.tk;rw[his];exact hL⟩)
theorem c_p_want(p:Ps)(hok:p.ok)(x:Bs8)(g:Nat):ECall Tryz.prog 77 [PB g p true] [.pointer (some ⟨g,0,none⟩),.string (strU x)] Unit (fun _=> .tuple #[]) (fun _=>[PB g (p.want x) true]):=by
 refine⟨by kernel_rfl,fun B w hD hL0=>?_⟩;refine cB2 10 Tryz.func77 hL0 ?_;refine A1 ?_;refine at_regionM ?_;refine A2 ?_;refine Gm 1 [0] [] (fun _=>[PB g (p.tk x) true]) (c_p_take p hok x g) (fun _=>?_);refine A3 ?_;refine Cd ?_ ?_<;>intro hb0
 ·have his:p.is x=false:=by simpa using hb0
  have htk:p.tk x=p:=(by unfold Ps.tk;rw[his];rfl);rw[htk];refine at_regionM ?_;refine A1 ?_;refine Gm 1 [0] [] (fun _=>[PB g (p.stop 15) true]) (c_p_stop p 15 g) (fun _=>?_);refine A1 ?_
  refine at_end0n rfl (fun w hL=>⟨(),rfl,by unfold Ps.want;rw[his];exact hL⟩)
 ·have his:p.is x=true:=by simpa using hb0
  have htk:p.tk x=p.adv:=(by unfold Ps.tk;rw[his];rfl);rw[htk];refine A1 ?_
  refine at_end0n rfl (fun w hL=>⟨(),rfl,by unfold Ps.want;rw[his];exact hL⟩)
theorem c_syntax_operators:SCall Tryz.prog 82 [] [] Nat (fun g=>slv (some g) 0 12 12) (fun g=>[⟨some g,110,tabC opsT,36,true⟩]):=by
 refine⟨by kernel_rfl,fun w hL0=>?_⟩;refine cB0 14 Tryz.func82 hL0 ?_;refine A7 ?_;refine r_build [(0,_),(1,_),(2,_)] rfl rfl rfl (bd110_3) ?_;refine r_build [(0,_),(1,_),(2,_)] rfl rfl rfl (bd110_3) ?_;refine r_build [(0,_),(1,_),(2,_)] rfl rfl rfl (bd110_3) ?_;refine r_build [(0,_),(1,_),(2,_)] rfl rfl rfl (bd110_3) ?_;refine r_build [(0,_),(1,_),(2,_)] rfl rfl rfl (bd110_3) ?_;refine r_build [(0,_),(1,_),(2,_)] rfl rfl rfl (bd110_3) ?_;refine r_build [(0,_),(1,_),(2,_)] rfl rfl rfl (bd110_3) ?_;refine r_build [(0,_),(1,_),(2,_)] rfl rfl rfl (bd110_3) ?_;refine r_build [(0,_),(1,_),(2,_)] rfl rfl rfl (bd110_3) ?_;refine r_build [(0,_),(1,_),(2,_)] rfl rfl rfl (bd110_3) ?_;refine r_build [(0,_),(1,_),(2,_)] rfl rfl rfl (bd110_3) ?_;refine r_build [(0,_),(1,_),(2,_)] rfl rfl rfl (bd110_3) ?_;refine r_buildSlice [(0,_),(1,_),(2,_),(3,_),(4,_),(5,_),(6,_),(7,_),(8,_),(9,_),(10,_),(11,_)] (fun g=>[⟨some g,110,_,36,true⟩]) rfl rfl rfl (bs107_12) rfl (fun _=>rfl) (fun g0=>?_);refine A4 ?_;refine at_end1 rfl (res_tmp rfl) (fun w hL=>⟨g0,rfl,hL⟩)
theorem c_syntax_functions:SCall Tryz.prog 83 [] [] Nat (fun g=>slv (some g) 0 12 12) (fun g=>[⟨some g,114,tabC funT,36,true⟩]):=by
 refine⟨by kernel_rfl,fun w hL0=>?_⟩;refine cB0 14 Tryz.func83 hL0 ?_;refine A7 ?_;refine r_build [(0,_),(1,_),(2,_)] rfl rfl rfl (bd114_3) ?_;refine r_build [(0,_),(1,_),(2,_)] rfl rfl rfl (bd114_3) ?_;refine r_build [(0,_),(1,_),(2,_)] rfl rfl rfl (bd114_3) ?_;refine r_build [(0,_),(1,_),(2,_)] rfl rfl rfl (bd114_3) ?_;refine r_build [(0,_),(1,_),(2,_)] rfl rfl rfl (bd114_3) ?_;refine r_build [(0,_),(1,_),(2,_)] rfl rfl rfl (bd114_3) ?_;refine r_build [(0,_),(1,_),(2,_)] rfl rfl rfl (bd114_3) ?_;refine r_build [(0,_),(1,_),(2,_)] rfl rfl rfl (bd114_3) ?_;refine r_build [(0,_),(1,_),(2,_)] rfl rfl rfl (bd114_3) ?_;refine r_build [(0,_),(1,_),(2,_)] rfl rfl rfl (bd114_3) ?_;refine r_build [(0,_),(1,_),(2,_)] rfl rfl rfl (bd114_3) ?_;refine r_build [(0,_),(1,_),(2,_)] rfl rfl rfl (bd114_3) ?_;refine r_buildSlice [(0,_),(1,_),(2,_),(3,_),(4,_),(5,_),(6,_),(7,_),(8,_),(9,_),(10,_),(11,_)] (fun g=>[⟨some g,114,_,36,true⟩]) rfl rfl rfl (bs111_12) rfl (fun _=>rfl) (fun g0=>?_);refine A4 ?_;refine at_end1 rfl (res_tmp rfl) (fun w hL=>⟨g0,rfl,hL⟩)
theorem c_syntax_reserved:SCall Tryz.prog 44 [] [] Nat (fun g=> .map (some g)) (fun g=>[⟨some g,mSt (insL resL),[],0,true⟩]):=by
 refine⟨by kernel_rfl,fun w hL0=>?_⟩;refine cB0 29 Tryz.func44 hL0 ?_;refine A7 ?_;refine r_makeMap (fun g=>[⟨some g,mI [],[],0,true⟩]) rfl rfl (fun _=>rfl) (fun g0=>?_);refine r_insertS (l:=insL (baseR.take 0)) 0 [⟨some g0,mSt (insL (baseR.take 1)),[],0,true⟩] u66 u9 rfl rfl rfl rfl rfl (insL_simple _) rfl rfl ?_;refine r_insertS (l:=insL (baseR.take 1)) 0 [⟨some g0,mSt (insL (baseR.take 2)),[],0,true⟩] u66 u9 rfl rfl rfl rfl rfl (insL_simple _) rfl rfl ?_;refine r_insertS (l:=insL (baseR.take 2)) 0 [⟨some g0,mSt (insL (baseR.take 3)),[],0,true⟩] u66 u9 rfl rfl rfl rfl rfl (insL_simple _) rfl rfl ?_;refine r_insertS (l:=insL (baseR.take 3)) 0 [⟨some g0,mSt (insL (baseR.take 4)),[],0,true⟩] u66 u9 rfl rfl rfl rfl rfl (insL_simple _) rfl rfl ?_;refine r_insertS (l:=insL (baseR.take 4)) 0 [⟨some g0,mSt (insL (baseR.take 5)),[],0,true⟩] u66 u9 rfl rfl rfl rfl rfl (insL_simple _) rfl rfl ?_;refine r_insertS (l:=insL (baseR.take 5)) 0 [⟨some g0,mSt (insL (baseR.take 6)),[],0,true⟩] u66 u9 rfl rfl rfl rfl rfl (insL_simple _) rfl rfl ?_;refine r_insertS (l:=insL (baseR.take 6)) 0 [⟨some g0,mSt (insL (baseR.take 7)),[],0,true⟩] u66 u9 rfl rfl rfl rfl rfl (insL_simple _) rfl rfl ?_;refine A7 ?_;refine r_scall [] [] rfl rfl rfl c_syntax_operators trivial rfl (.inr fun _ b hb=>by rw[List.mem_singleton.1 hb]) (fun g1=>?_);refine A5 ?_;refine El (ι:={i:Nat // i≤12}) (fun⟨i,hi⟩=>([(1,.map (some g0)),(8,slv (some g1) 0 12 12),(9,.int .i64 12),(10,.int .i64 (i:Nat))],[⟨some g0,mSt (insL (baseR++(opsT.take i).map (·.1))),[],0,true⟩,⟨some g1,110,tabC opsT,36,true⟩],12-i)) ⟨0,Nat.zero_le _⟩ ?_;rintro⟨i,hi⟩;(try dsimp only);refine A6 ?_;refine Cd ?_ ?_<;>intro hb1
 ·have hlt:i<12:=(by have:=of_decide_eq_true hb1;omega);obtain⟨o,ho⟩:∃o,opsT[i]? =some o:=⟨opsT[i]'(by show i<12;exact hlt),List.getElem?_eq_getElem _⟩;refine A6 ?_;refine Ix 1 (i*3) ?_;refine r_load (v:= .agg #[.string (strU o.1),.int .i64 (o.2.1:Nat),.int .i64 (o.2.2:Nat)]) 1 (i*3) _ rfl rfl rfl rfl ti110 (tabC_get ho) rfl (by decide) rfl ?_;refine r_alloc [_,_,_] 3 (fun g=>[_,_,⟨some g,110,_,3,true⟩]) rfl rfl z110 rfl rfl (fun _=>rfl) (fun g1=>?_);refine So 2 0 [_,_,⟨some g1,110,_,3,true⟩] [_,_,_] ?_;refine A6 ?_;refine r_mapUpdateS 0 (⟨some g0,mSt (muS (insL (baseR++(opsT.take i).map (·.1))) (strU o.1) (.bool true)),[],0,true⟩::[_,_]) u66 u9 rfl rfl rfl rfl rfl (insL_simple _) rfl rfl rfl ?_;refine A4 ?_;refine Ar (((i+1:Nat):Int)) ?_;refine A3 ?_;exact Nl ⟨i+1,hlt⟩ (hL:=(weak_picks [some 0,some 1] ⟨⟨_,rfl,le_same (by rw[ins_step ho])⟩,⟨_,rfl,Blk.le_refl _⟩,trivial⟩ rfl rfl))
 ·have hge:i=12:=(by have:=of_decide_eq_false hb1;omega);subst hge;refine A8 ?_;refine r_scall [] [] rfl rfl rfl c_syntax_functions trivial rfl (.inr fun _ b hb=>by rw[List.mem_singleton.1 hb]) (fun g2=>?_);refine A5 ?_;refine El (ι:={i:Nat // i≤12}) (fun⟨i,hi⟩=>([(1,.map (some g0)),(18,slv (some g2) 0 12 12),(19,.int .i64 12),(20,.int .i64 (i:Nat))],[⟨some g0,mSt (insL ((baseR++opsT.map (·.1))++(funT.take i).map (·.1))),[],0,true⟩,⟨some g1,110,tabC opsT,36,true⟩,⟨some g2,114,tabC funT,36,true⟩],12-i)) ⟨0,Nat.zero_le _⟩ ?_;rintro⟨i,hi⟩;(try dsimp only);refine A6 ?_;refine Cd ?_ ?_<;>intro hb3
  ·have hlt:i<12:=(by have:=of_decide_eq_true hb3;omega);obtain⟨o,ho⟩:∃o,funT[i]? =some o:=⟨funT[i]'(by show i<12;exact hlt),List.getElem?_eq_getElem _⟩;refine A6 ?_;refine Ix 2 (i*3) ?_;refine r_load (v:= .agg #[.string (strU o.1),.int .i64 (o.2.1:Nat),.int .i64 (o.2.2:Nat)]) 2 (i*3) _ rfl rfl rfl rfl ti114 (tabC_get ho) rfl (by decide) rfl ?_;refine r_alloc [_,_,_] 3 (fun g=>[_,_,_,⟨some g,114,_,3,true⟩]) rfl rfl z114 rfl rfl (fun _=>rfl) (fun g1=>?_);refine So 3 0 [_,_,_,⟨some g1,114,_,3,true⟩] [_,_,_] ?_;refine A6 ?_;refine r_mapUpdateS 0 (⟨some g0,mSt (muS (insL ((baseR++opsT.map (·.1))++(funT.take i).map (·.1))) (strU o.1) (.bool true)),[],0,true⟩::[_,_,_]) u66 u9 rfl rfl rfl rfl rfl (insL_simple _) rfl rfl rfl ?_;refine A4 ?_;refine Ar (((i+1:Nat):Int)) ?_;refine A3 ?_;exact Nl ⟨i+1,hlt⟩ (hL:=(weak_picks [some 0,some 1,some 2] ⟨⟨_,rfl,le_same (by rw[ins_step ho])⟩,⟨_,rfl,Blk.le_refl _⟩,⟨_,rfl,Blk.le_refl _⟩,trivial⟩ rfl rfl))
  ·have hge:i=12:=(by have:=of_decide_eq_false hb3;omega);subst hge;refine A12 ?_;refine at_end1 rfl (res_tmp rfl) (fun w hL=>⟨g0,rfl,hL.pk [some 0]⟩)
theorem c_syntax_IsName(l:Bs8)(hn:l.length≤1000000):PCall Tryz.prog 13 #[.string (strU l)] (.bool (nameL l)):=by
 refine⟨by kernel_rfl,fun w=>?_⟩;refine cB1 16 Tryz.func13 (LRel.nil w) ?_;refine A9 ?_;refine r_know 4 (.int .i64 (l.length:Nat)) rfl (by rw[strU_size]) ?_;refine A2 ?_;refine Rs 6 ?_ ?_<;>intro hb0
 ·have h40:l.length≤40:=(by have:=of_decide_eq_true hb0;omega);refine A1 ?_;refine Pc (c_syntax_isWord l hn) ?_;refine A2 ?_;refine Rs 10 ?_ ?_<;>intro hb1
  ·have hw:wordL l=true:=hb1;refine r_scall [] [] rfl rfl rfl c_syntax_reserved trivial rfl (.inr fun _ b hb=>by rw[List.mem_singleton.1 hb]) (fun gm=>?_);refine A1 ?_;refine r_lookupS 0 u66 u9 z4 rfl rfl rfl rfl rfl (insL_simple _) (insL_get resL l) rfl ?_;refine A6 ?_;refine E1 fun w hL=>⟨?_,hL.below⟩;exact eB (by unfold nameL;rw[decide_eq_true h40,hw];rfl)
  ·have hw:wordL l=false:=hb1;refine A9 ?_;refine E1 fun w hL=>⟨?_,hL.below⟩;exact eB (by unfold nameL;rw[hw,Bool.and_false];rfl)
 ·have h40:¬l.length≤40:=(by have:=of_decide_eq_false hb0;omega);refine A13 ?_;refine E1 fun w hL=>⟨?_,hL.below⟩;exact eB (by unfold nameL;rw[decide_eq_false h40];rfl)
theorem c_p_name(p:Ps)(hok:p.ok)(g:Nat):ECall Tryz.prog 76 [PB g p true] [.pointer (some ⟨g,0,none⟩)] Unit (fun _=> .string (strU p.tx)) (fun _=>[PB g p.name true]):=by
 refine⟨by kernel_rfl,fun B w hD hL0=>?_⟩;refine cB1 38 Tryz.func76 hL0 ?_;refine A12 ?_;refine Kr 8 (.string (strU p.tx)) ?_;refine A11 ?_;refine Kr 15 (.bool p.fail) ?_;refine A1 ?_;refine Rs 16 ?_ ?_<;>intro hb0
 ·have hf:p.fail=true:=by simpa using hb0
  refine A16 ?_;refine at_regionM ?_;refine A1 ?_;refine Gm 1 [0] [] (fun _=>[PB g (p.stop 15) true]) (c_p_stop p 15 g) (fun _=>?_);refine A10 ?_;refine at_end1 rfl (res_tmp rfl) (fun w hL=>⟨(),rfl,by have e:p.name=p.stop 15:=(by unfold Ps.name;simp only[hf,Bool.false_or,Bool.true_or,if_true,Bool.false_eq_true,if_false]);rw[e];exact hL⟩)
 ·have hf:p.fail=false:=by simpa using hb0
  refine A5 ?_;refine Kr 21 (.int .i64 (p.k:Nat)) ?_;refine A3 ?_;refine Rs 24 ?_ ?_<;>intro hb1
  ·have hk1:(p.k !=1)=true:=by have hh:=hb1;simp only[bne_iff_ne,ne_eq,bne_eq_false_iff_eq] at hh ⊢;omega
   refine A8 ?_;refine at_regionM ?_;refine A1 ?_;refine Gm 1 [0] [] (fun _=>[PB g (p.stop 15) true]) (c_p_stop p 15 g) (fun _=>?_);refine A10 ?_;refine at_end1 rfl (res_tmp rfl) (fun w hL=>⟨(),rfl,by have e:p.name=p.stop 15:=(by unfold Ps.name;simp only[hf,hk1,Bool.false_or,Bool.true_or,if_true,Bool.false_eq_true,if_false]);rw[e];exact hL⟩)
  ·have hk1:(p.k !=1)=false:=by have hh:=hb1;simp only[bne_iff_ne,ne_eq,bne_eq_false_iff_eq] at hh ⊢;omega
   refine r_scall [] [] rfl rfl rfl c_syntax_reserved trivial rfl (.inr fun _ b hb=>by rw[List.mem_singleton.1 hb]) (fun gm=>?_);refine A1 ?_;refine r_lookupS 1 u66 u9 z4 rfl rfl rfl rfl rfl (insL_simple _) (insL_get resL p.tx) rfl ?_;refine A4 ?_;refine Cd ?_ ?_<;>intro hb2
   ·have hr:resL.contains p.tx=true:=hb2;refine at_regionM ?_;refine A1 ?_;refine Gm 1 [0] [] (fun _=>[PB g (p.stop 15) true,_]) (c_p_stop p 15 g) (fun _=>?_);refine A10 ?_;refine at_end1 rfl (res_tmp rfl) (fun w hL=>⟨(),rfl,by have e:p.name=p.stop 15:=(by unfold Ps.name;simp only[hf,hk1,hr,Bool.false_or,Bool.true_or,if_true,Bool.false_eq_true,if_false]);rw[e];exact hL.pk [some 0]⟩)
   ·have hr:resL.contains p.tx=false:=hb2;refine A4 ?_;refine r_know 33 (.int .i64 (p.tx.length:Nat)) rfl (by rw[strU_size]) ?_;refine A4 ?_;refine Cd ?_ ?_<;>intro hb3
    ·have h40:40<p.tx.length:=(by have:=of_decide_eq_true hb3;omega);refine at_regionM ?_;refine A1 ?_;refine Gm 1 [0] [] (fun _=>[PB g (p.stop 34) true,_]) (c_p_stop p 34 g) (fun _=>?_);refine A10 ?_;refine at_end1 rfl (res_tmp rfl) (fun w hL=>⟨(),rfl,by have e:p.name=p.stop 34:=(by unfold Ps.name;simp only[hf,hk1,hr,Bool.false_or,Bool.true_or,if_true,Bool.false_eq_true,if_false];rw[if_pos h40]);rw[e];exact hL.pk [some 0]⟩)
    ·have h40:¬40<p.tx.length:=(by have:=of_decide_eq_false hb3;omega);refine at_regionM ?_;refine A1 ?_;refine Gm 1 [0] [] (fun _=>[PB g p.adv true,_]) (c_p_advance p hok g) (fun _=>?_);refine A10 ?_;refine at_end1 rfl (res_tmp rfl) (fun w hL=>⟨(),rfl,by have e:p.name=p.adv:=(by unfold Ps.name;simp only[hf,hk1,hr,Bool.false_or,Bool.true_or,if_true,Bool.false_eq_true,if_false];rw[if_neg h40]);rw[e];exact hL.pk [some 0]⟩)
end Go.Proofs.YtfijbadahkmhbaaGreatDoor
namespace Go.Via
open Go Go.RowKit
theorem itRow_ok(g:Nat)(s:ByteArray)(pos:Nat):gtOK [(g,itRow s pos)]=true:=rfl
theorem LRel.newI{B:Bs}{w:World}{L:List Blk}(h:LRel B L w)(s:ByteArray):LRel B (L++[gB [(w.heap.size,itRow s 0)] true]) (w.iter s 0):=by
 have h1:LRel B (L++[blk0]) (w.iter s 0):=h.ext (new:=[blk0]) ((Below.refl _ _).alloc (Nat.le_refl _) _) (fun k b hk=>by
 cases k with
 |zero=>simp at hk;subst hk;exact⟨fun g hg=>(by cases hg),fun _=>⟨rfl,rfl⟩⟩
 |succ k=>simp at hk) (fun i j g bi bj hij hi hj hg=>by
 cases i with
 |zero=>simp at hi;subst hi;cases hg
 |succ i=>simp at hi) (fun b hb hn=>by rw[List.mem_singleton.1 hb];decide)
 have h2:=h1.setG (j:=L.length) (b:=blk0) (by simp) rfl [(w.heap.size,itRow s 0)] true (itRow_ok _ _ _) (fun p hp=>by
 obtain rfl:=List.mem_singleton.1 hp
 refine⟨.inr ⟨s,0,w.iter_heap s 0,rfl⟩,fun _=> .inl h.bel.size,fun c hc ho hg=>?_⟩
 rcases List.mem_append.1 hc with hc|hc
 ·obtain⟨k,hk⟩:=List.mem_iff_getElem?.1 hc
  have:=h.lt hk hg
  exact absurd this (Nat.lt_irrefl _)
 ·rw[List.mem_singleton.1 hc] at ho;cases ho)
 rw[List.set_append_right _ _ (Nat.le_refl _),Nat.sub_self] at h2
 exact h2
theorem LRel.nextI{B:Bs}{w:World}{L:List Blk}(h:LRel B L w){j g:Nat}{s:ByteArray}{pos:Nat}(hj:L[j]? =some (gB [(g,itRow s pos)] true))(hR:((L.set j blk0).all fun b=>b.base.isSome||Nat.blt b.e mapMark)=true):
 w.heap[g]? =some (.stringIter s pos)∧∀pos',LRel B (L.set j (gB [(g,itRow s pos')] true)) (w.iterAt g s pos'):=by
 obtain⟨a1,a2,a3⟩:=h.tab hj (itRow_ok g s pos) (p:=(g,itRow s pos)) (by simp)
 have hjl:=(List.getElem?_eq_some_iff.1 hj).1
 have hg:w.heap[g]? =some (.stringIter s pos):=by
  rcases a1 with⟨cur,e',fr,b1,b2⟩|⟨s',p',b1,b2⟩
  ·exfalso
   rcases b2 with b2|b2
   ·exact absurd b2.1 (by intro h;cases h)
   ·simp[tyRow,itRow] at b2
  ·simp only[itRow,List.cons.injEq,Value.string.injEq,Value.int.injEq,true_and,and_true] at b2
   obtain⟨rfl,b3⟩:=b2
   have:pos=p':=by omega
   subst this
   exact b1
 refine⟨hg,fun pos'=>?_⟩
 have hlt:g<w.heap.size:=(Array.getElem?_eq_some_iff.1 hg).1
 have hh:∀i,i≠g→(w.iterAt g s pos').heap[i]? =w.heap[i]? :=fun i hi=>by
  show(w.heap.setIfInBounds g _)[i]? =_
  rw[Array.getElem?_setIfInBounds_ne (fun e=>hi e.symm)]
 have hgg:=Lib.iterAt_heap w g s pos pos' hg
 have hb:=h.blank1 j
 have h3:∀c∈L.set j blk0,c.own=true→c.base≠some g:=fun c hc ho hcg=>by
  rcases List.mem_or_eq_of_mem_set hc with h1|rfl
  ·exact a3 c h1 ho hcg
  ·cases ho
 have h1:LRel B (L.set j blk0) (w.iterAt g s pos'):=by
  refine⟨hb.bel.one (a2 rfl) rfl rfl rfl (by show _≤(w.heap.setIfInBounds g _).size;simp) hh,fun i c hi=>?_,hb.apart,fun b hb' hn T hT he p hp=>?_⟩
  ·obtain⟨q1,q2⟩:=hb.blk i c hi
   refine⟨fun g' hg'=>?_,q2⟩
   by_cases e:g'=g
   ·subst e
    rcases(q1 g' hg').1 with⟨cur,⟨_,_,s1,_⟩,_⟩|⟨_,_,_,_,_,_,_,s1,_⟩<;>(rw[hg] at s1;cases s1)
   ·exact(q1 g' hg').heap (hh g' e)
  ·have:=List.all_eq_true.1 hR b hb'
   rw[hn] at this
   have h4:Nat.blt b.e mapMark=true:=by simpa using this
   have h5:b.e<mapMark:=by simpa using h4
   exact absurd (he▸h5) (gE_ge T)
 have h2:=h1.setG (j:=j) (b:=blk0) (List.getElem?_set_self hjl) rfl [(g,itRow s pos')] true (itRow_ok _ _ _) (fun p hp=>by
 obtain rfl:=List.mem_singleton.1 hp
 exact⟨.inr ⟨s,pos',hgg,rfl⟩,a2,h3⟩)
 rw[List.set_set] at h2
 exact h2
section
variable{P:Program}{bl:List Nat}{ops:Array Oper}{K:St→Prop}{rest:List Oper}{nt:Nat}{t:List (Nat×Value)}{L:List Blk}{d:Nat}{ty:TypeId}{pos:String}{af:Array Edge}{g:Option (Nat×Bool)}{x y z:Operand}
theorem r_rangeS{T:Nat}{s:ByteArray}(mk:Nat→List Blk)(hT:P.underlying T=some .string)(hd:Nat.blt d nt=true)(hg:wantedS ops ⟨some d,.range T x,ty,pos,af,g⟩ t=some true)(hx:ev t x=some (.string s))(hL:∀b,L++[gB [(b,itRow s 0)] true]=mk b)
 (h:∀b,Run P bl ops rest ⟨nt,(d,.pointer (some ⟨b,0,none⟩))::t,mk b⟩ K):Run P bl ops (⟨some d,.range T x,ty,pos,af,g⟩::rest) ⟨nt,t,L⟩ K:=
 run_e hd hg rfl rfl (X:=Nat) (nx:=fun b=>⟨nt,(d,.pointer (some ⟨b,0,none⟩))::t,mk b⟩) (fun hd'=>eff_of fun B a w hr=>by
 have h1:=run_range_string (P:=P) w T s hT
 refine⟨.pointer (some ⟨w.heap.size,0,none⟩),w.iter s 0,w.heap.size,by simp[execOp,hr.ev hx,h1],?_⟩
 rw[←hL]
 exact hr.put hd' (hr.mem.newI s)) h
theorem r_nextEnd{b:Nat}{s:ByteArray}{p:Nat}(k:Nat)(hd:Nat.blt d nt=true)(hg:wantedS ops ⟨some d,.next x true,ty,pos,af,g⟩ t=some true)(hk:L[k]? =some (gB [(b,itRow s p)] true))(hR:((L.set k blk0).all fun b=>b.base.isSome||Nat.blt b.e mapMark)=true)(hx:ev t x=some (.pointer (some ⟨b,0,none⟩)))(hp:s.size≤p)
 (h:Run P bl ops rest ⟨nt,(d,.tuple #[.bool false])::t,L⟩ K):Run P bl ops (⟨some d,.next x true,ty,pos,af,g⟩::rest) ⟨nt,t,L⟩ K:=
 run_e hd hg rfl rfl (X:=Unit) (nx:=fun _=>⟨nt,(d,.tuple #[.bool false])::t,L⟩) (fun hd'=>eff_of fun B a w hr=>by
 obtain⟨h0,_⟩:=hr.mem.nextI hk hR
 have h1:=Lib.run_next_end_at (P:=P) w b s p ty h0 (by omega)
 refine⟨.tuple #[.bool false],w,(),by simp[execOp,hr.ev hx,h1],hr.put hd' hr.mem⟩) (fun _=>h)
theorem r_nextAscii{b:Nat}{s:Bs8}{p:Nat}{c:UInt8}(k:Nat)(mk:List Blk)(hd:Nat.blt d nt=true)(hg:wantedS ops ⟨some d,.next x true,ty,pos,af,g⟩ t=some true)(hk:L[k]? =some (gB [(b,itRow (strU s) p)] true))(hR:((L.set k blk0).all fun b=>b.base.isSome||Nat.blt b.e mapMark)=true)(hx:ev t x=some (.pointer (some ⟨b,0,none⟩)))(hc:s[p]? =some c)(ha:c.toNat<128)
 (hL:L.set k (gB [(b,itRow (strU s) (p+1))] true)=mk)(h:Run P bl ops rest ⟨nt,(d,.tuple #[.bool true,.int .i64 (p:Nat),.int .i32 (c.toNat:Nat)])::t,mk⟩ K):Run P bl ops (⟨some d,.next x true,ty,pos,af,g⟩::rest) ⟨nt,t,L⟩ K:=
 run_e hd hg rfl rfl (X:=Unit) (nx:=fun _=>⟨nt,(d,.tuple #[.bool true,.int .i64 (p:Nat),.int .i32 (c.toNat:Nat)])::t,mk⟩) (fun hd'=>eff_of fun B a w hr=>by
 obtain⟨h0,h2⟩:=hr.mem.nextI hk hR
 obtain⟨hlt,hcc⟩:=List.getElem?_eq_some_iff.1 hc
 have hsz:p<(strU s).size:=by rw[strU_size];exact hlt
 have hget:(strU s)[p]'hsz=c:=by
  rw[←hcc]
  simp[strU,ByteArray.getElem_eq_getElem_data]
 have h1:=Lib.run_next_ascii_at (P:=P) w b (strU s) p ty h0 hsz (by rw[hget];exact ha)
 rw[hget] at h1
 refine⟨.tuple #[.bool true,.int .i64 (p:Nat),.int .i32 (c.toNat:Nat)],w.iterAt b (strU s) (p+1),(),by simp[execOp,hr.ev hx,h1],?_⟩
 rw[←hL]
 exact hr.put hd' (h2 (p+1))) (fun _=>h)
theorem r_sliceTo{T:Nat}{s r:Bs8}{k:IntKind}{j:Nat}(hT:P.underlying T=some .string)(hd:Nat.blt d nt=true)(hg:wantedS ops ⟨some d,.slice T x none (some y) none,ty,pos,af,g⟩ t=some true)(hx:ev t x=some (.string (strU s)))(hy:ev t y=some (.int k (j:Nat)))(h2:j≤s.length)(hr:s.take j=r)
 (h:Run P bl ops rest ⟨nt,(d,.string (strU r))::t,L⟩ K):Run P bl ops (⟨some d,.slice T x none (some y) none,ty,pos,af,g⟩::rest) ⟨nt,t,L⟩ K:=by
 subst hr
 exact run_q hd hg rfl (fun B a w hrel=>by
 have e1:=hrel.ev hx
 have e2:=hrel.ev hy
 have r1:=run_sliceAt_string (P:=P) w T (.string (strU s)) none (some (.int k (j:Nat))) none hT
 rw[run_slice_string_h (P:=P) w T (strU s) hT k (j:Nat) (by omega) (by rw[strU_size];omega),Int.toNat_natCast,strU_extract,Nat.sub_zero,List.drop_zero] at r1
 simp[execOp,e1,e2,r1]) h
theorem r_sliceFrom{T:Nat}{s r:Bs8}{k:IntKind}{j:Nat}(hT:P.underlying T=some .string)(hd:Nat.blt d nt=true)(hg:wantedS ops ⟨some d,.slice T x (some y) none none,ty,pos,af,g⟩ t=some true)(hx:ev t x=some (.string (strU s)))(hy:ev t y=some (.int k (j:Nat)))(h2:j≤s.length)(hr:s.drop j=r)
 (h:Run P bl ops rest ⟨nt,(d,.string (strU r))::t,L⟩ K):Run P bl ops (⟨some d,.slice T x (some y) none none,ty,pos,af,g⟩::rest) ⟨nt,t,L⟩ K:=by
 refine r_sliceStr hT hd hg hx hy (by omega) (by rw[strU_size];omega) (r:=strU r) ?_ h
 rw[Int.toNat_natCast,strU_extract,strU_size,←hr,←List.length_drop,List.take_length]
end
theorem idx_lt(c:UInt8):∀l:Bs8,Lib.indexByte l c<(l.length:Nat)
 |[]=>by unfold Lib.indexByte;simp
 |b::l=>by
  have ih:=idx_lt c l
  unfold Lib.indexByte
  split
  ·simp only[List.length_cons];omega
  ·split
   ·simp only[List.length_cons];omega
   ·simp only[List.length_cons];omega
theorem idx_app{c:UInt8}:∀{a:Bs8} (b:Bs8),a.contains c=false→Lib.indexByte (a++c::b) c=(a.length:Nat)
 |[],b,_=>by simp[Lib.indexByte]
 |x::a,b,h=>by
  rw[List.contains_cons,Bool.or_eq_false_iff] at h
  have ih:=idx_app b h.2
  have hx:(x==c)=false:=by
   have:=h.1
   simp only[beq_eq_false_iff_ne] at this ⊢
   exact fun e=>this e.symm
  rw[List.cons_append]
  unfold Lib.indexByte
  rw[if_neg (by rw[hx];simp)]
  simp only[ih,List.length_cons]
  split
  ·rename_i h;simp at h
   try omega
  ·omega
def cutB(l:Bs8)(c:UInt8):Bs8×Bs8×Bool:=if l.contains c then(l.take (Lib.indexByte l c).toNat,l.drop ((Lib.indexByte l c).toNat+1),true) else(l,[],false)
theorem cutB_T{l:Bs8}{c:UInt8}{k:Nat}(h:Lib.indexByte l c=(k:Nat)):cutB l c=(l.take k,l.drop (k+1),true):=by
 have h2:l.contains c=true:=by rw[←idxB_ge,h];simp
 unfold cutB
 rw[if_pos h2,h,Int.toNat_natCast]
theorem cutB_F{l:Bs8}{c:UInt8}(h:¬0≤Lib.indexByte l c):cutB l c=(l,[],false):=by
 have h2:l.contains c=false:=by rw[←idxB_ge];simpa using h
 unfold cutB
 rw[if_neg (by rw[h2];simp)]
theorem cutB_app{c:UInt8}{a b:Bs8}(h:a.contains c=false):cutB (a++c::b) c=(a,b,true):=by
 rw[cutB_T (idx_app b h)]
 simp
theorem cutB_no{c:UInt8}{a:Bs8}(h:a.contains c=false):cutB a c=(a,[],false):=by
 unfold cutB
 rw[if_neg (by rw[h];simp)]
theorem dig_no47{a:Bs8}(h:a.all isDig=true):a.contains 47=false:=by
 rw[←Bool.not_eq_true]
 intro h2
 have h3:=List.all_eq_true.1 h 47 (by simpa using h2)
 cases h3
theorem dig_bounds{c:UInt8}(h:isDig c=true):48≤c.toNat∧c.toNat≤57:=by
 unfold isDig at h
 simpa using h
theorem decN_snoc(l:Bs8)(c:UInt8):decN (l++[c])=decN l*10+(c.toNat-48):=by
 unfold decN
 rw[List.foldl_append];rfl
theorem decN_step{l:Bs8}{i:Nat}{c:UInt8}(h:l[i]? =some c):decN (l.take (i+1))=decN (l.take i)*10+(c.toNat-48):=by
 rw[List.take_add_one,h]
 exact decN_snoc _ _
theorem decN_lt:∀(n:Nat) (l:Bs8),l.length=n→l.all isDig=true→decN l<10^n
 |0,l,hl,_=>by rw[List.eq_nil_of_length_eq_zero hl];decide
 |n+1,l,hl,h=>by
  have hne:l≠[]:=fun e=>by rw[e] at hl;simp at hl
  have e:=List.dropLast_concat_getLast hne
  rw[←e,decN_snoc]
  rw[←e,List.all_append,Bool.and_eq_true] at h
  have ih:=decN_lt n l.dropLast (by rw[List.length_dropLast,hl];rfl) h.1
  have h2:isDig (l.getLast hne)=true:=by simpa using h.2
  have h3:=dig_bounds h2
  rw[Nat.pow_succ]
  omega
theorem decN_sz{l:Bs8}(h:l.all isDig=true):nb (decN l)≤l.length:=
 nb_le (Nat.lt_of_lt_of_le (decN_lt _ l rfl h) (Nat.pow_le_pow_left (by decide) _))
theorem all_take8{f:UInt8→Bool}{l:Bs8}(h:l.all f=true)(i:Nat):(l.take i).all f=true:=
 List.all_eq_true.2 fun c hc=>List.all_eq_true.1 h c (List.mem_of_mem_take hc)
theorem decN_take_sz{l:Bs8}(h:l.all isDig=true)(i:Nat):szI ((decN (l.take i):Nat):Int)≤l.length:=by
 show nb (((decN (l.take i):Nat):Int).natAbs)≤_
 rw[Int.natAbs_natCast]
 have:=decN_sz (all_take8 h i)
 rw[List.length_take] at this
 omega
theorem decN_int{l:Bs8}{i:Nat}{c:UInt8}(h:l[i]? =some c):((decN (l.take (i+1)):Nat):Int)=((decN (l.take i):Nat):Int)*10+((c.toNat-48:Nat):Int):=by
 rw[decN_step h]
 push_cast
 rfl
theorem numT_cases{t:Bs8}(h:numT t=true):(t≠[]∧t.all isDig=true)∨∃a b,t=a++47::b∧a≠[]∧a.all isDig=true∧b≠[]∧b.all isDig=true:=by
 unfold numT at h
 rw[Bool.and_eq_true] at h
 have h0:0<dgs t:=by simpa using h.1
 have h1:=take_dgs_all t
 have e:=List.take_append_drop (dgs t) t
 cases hq:t.drop (dgs t) with
 |nil=>
  rw[hq,List.append_nil] at e
  refine .inl ⟨fun e2=>?_,by rw[←e];exact h1⟩
  rw[e2] at h0;exact absurd h0 (by decide)
 |cons c r=>
  rw[hq] at h e
  have h2:=h.2
  simp only[Bool.and_eq_true,beq_iff_eq,decide_eq_true_eq] at h2
  refine .inr ⟨t.take (dgs t),r,by rw[←h2.1.1];exact e.symm,fun e2=>?_,h1,fun e2=>by rw[e2] at h2;simp at h2,h2.2⟩
  have:=congrArg List.length e2
  have h5:=dgs_le t
  rw[List.length_take] at this
  simp only[List.length_nil] at this
  omega
theorem tw_all{f:UInt8→Bool}:∀{l:Bs8},l.all f=true→l.takeWhile f=l
 |[],_=>rfl
 |c::l,h=>by
  simp only[List.all_cons,Bool.and_eq_true] at h
  rw[List.takeWhile_cons_of_pos h.1,tw_all h.2]
theorem tw_app{f:UInt8→Bool}{c:UInt8}(hc:f c=false)(r:Bs8):∀{l:Bs8},l.all f=true→(l++c::r).takeWhile f=l
 |[],_=>by rw[List.nil_append,List.takeWhile_cons_of_neg (by rw[hc];simp)]
 |x::l,h=>by
  simp only[List.all_cons,Bool.and_eq_true] at h
  rw[List.cons_append,List.takeWhile_cons_of_pos h.1,tw_app hc r h.2]
theorem ratTok_1{a:Bs8}(h:a.all isDig=true):ratTok a=some (decN a:Rat):=by
 unfold ratTok
 simp only[tw_all h,List.drop_length]
theorem ratTok_2{a b:Bs8}(h:a.all isDig=true):ratTok (a++47::b)=if decN b=0 then none else some (Rat.divInt (decN a) (decN b)):=by
 unfold ratTok
 simp only[tw_app (by decide:isDig 47=false) b h,List.drop_left]
def ratV(t:Bs8):Value:=match ratTok t with
 |some q=> .tuple #[Q q,.int .i64 0]
 |none=> .tuple #[Q 0,.int .i64 6]
theorem ratV_1{a:Bs8}(h:a.all isDig=true):(.tuple #[Q (Rat.divInt (decN a:Nat) 1),.int .i64 (if(1:Int)=0 then 6 else 0)]:Value)=ratV a:=by
 unfold ratV
 have e:Rat.divInt ((decN a:Nat):Int) 1=((decN a:Nat):Rat):=Rat.num_divInt_den (((decN a:Nat):Int):Rat)
 rw[ratTok_1 h,if_neg (by decide),e]
theorem ratV_2{a b:Bs8}(h:a.all isDig=true):(.tuple #[Q (Rat.divInt (decN a:Nat) (decN b:Nat)),.int .i64 (if((decN b:Nat):Int)=0 then 6 else 0)]:Value)=ratV (a++47::b):=by
 unfold ratV
 rw[ratTok_2 h]
 by_cases h0:decN b=0
 ·rw[if_pos h0,h0,if_pos (by rfl)]
  rw[show((0:Nat):Int)=0 from rfl,Rat.divInt_zero]
 ·rw[if_neg h0,if_neg (by omega)]
theorem ratTok_sz{t:Bs8}(h:numT t=true){q:Rat}(hq:ratTok t=some q):szQ q≤t.length:=by
 have key:∀{a:Bs8},a.all isDig=true→szI ((decN a:Nat):Int)≤a.length:=fun {a} h=>by
  show nb (((decN a:Nat):Int).natAbs)≤_
  rw[Int.natAbs_natCast]
  exact decN_sz h
 rcases numT_cases h with⟨h1,h2⟩|⟨a,b,rfl,h1,h2,h3,h4⟩
 ·rw[ratTok_1 h2] at hq
  simp only[Option.some.injEq] at hq
  rw[←hq,←Rat.intCast_natCast]
  exact szQ_int (key h2) (List.length_pos_iff.2 h1)
 ·rw[ratTok_2 h2] at hq
  split at hq
  ·cases hq
  ·simp only[Option.some.injEq] at hq
   rw[←hq]
   have:=szQ_divInt (key h2) (key h4) (List.length_pos_iff.2 h3)
   rw[List.length_append,List.length_cons]
   omega
theorem szI_10:szI 10≤1:=nb_le (k:=1) (by decide)
theorem szI_dig{c:UInt8}(h:c.toNat≤57):szI ((c.toNat-48:Nat):Int)≤67108864:=Nat.le_trans (nb_le (k:=1) (by rw[Int.natAbs_natCast];omega)) (by decide)
theorem dec_mul_sz{l:Bs8}(h:l.all isDig=true)(hn:l.length≤4096)(i:Nat):szI (((decN (l.take i):Nat):Int)*10)≤67108864:=by
 have h1:=lI_mul ((decN (l.take i):Nat):Int) 10
 have h2:=szI_10
 have h3:=decN_take_sz h i
 omega
theorem dec_sz{a:Bs8}(h:a.all isDig=true):szI ((decN a:Nat):Int)≤a.length:=by
 show nb (((decN a:Nat):Int).natAbs)≤_
 rw[Int.natAbs_natCast]
 exact decN_sz h
theorem dec0_blk{l:Bs8}{g:Nat}:(⟨some g,25,[.bool (decide (((decN (l.take 0):Nat):Int)<0)),.string (mag (((decN (l.take 0):Nat):Int)).natAbs)],2,true⟩:Blk)=⟨some g,25,[.bool false,.string ⟨#[]⟩],2,true⟩:=by
 have e:((decN (l.take 0):Nat):Int)=0:=rfl
 rw[e]
 have h:mag (0:Int).natAbs=⟨#[]⟩:=mag_zero
 rw[h]
 rfl
theorem dec_blk{z z':Int}{g:Nat}(h:z=z'):(⟨some g,25,[.bool (decide (z<0)),.string (mag z.natAbs)],2,true⟩:Blk)=⟨some g,25,[.bool (decide (z'<0)),.string (mag z'.natAbs)],2,true⟩:=by rw[h]
theorem ne_nil8{a:Bs8}(h:a≠[]):(a !=[])=true:=by simpa using h
theorem noMinus_c{c:UInt8}(l:Bs8)(h:isDig c=true):Lib.hasPrefix (c::l) [45]=false:=by
 have hb:=dig_bounds h
 have:((45:UInt8)==c)=false:=by
  rw[←Bool.not_eq_true];intro e
  have e2:45=c:=by simpa using e
  rw[←e2] at hb
  exact absurd hb.1 (by decide)
 show(((45:UInt8)==c)&&_)=false
 rw[this,Bool.false_and]
theorem trim_no{l p:Bs8}(h:Lib.hasPrefix l p=false):Lib.trimPrefix l p=l:=by
 unfold Lib.trimPrefix
 rw[h];rfl
theorem noMinus1{a:Bs8}(ha:a.all isDig=true)(h0:a≠[])(r:Bs8):Lib.hasPrefix (a++r) [45]=false:=by
 cases a with
 |nil=>exact absurd rfl h0
 |cons c l=>
  simp only[List.all_cons,Bool.and_eq_true] at ha
  exact noMinus_c _ ha.1
theorem isQ_Q(q:Rat):isQ (decide (q.num<0)) (mag q.num.natAbs) false (dm q)=true:=isQ_iff.2 ⟨q,rfl,rfl,rfl,rfl⟩
theorem dm_sz{q:Rat}{m:Nat}(h:szQ q≤m):(dm q).size≤m:=by
 unfold dm
 split
 ·exact Nat.zero_le _
 ·rw[mag_size];exact nb_den h
theorem dm_nil{q:Rat}:((false==false)&&(dm q==⟨#[]⟩))=decide (q.den=1):=by
 unfold dm
 by_cases h:q.den=1
 ·rw[if_pos h,decide_eq_true h];rfl
 ·rw[if_neg h,decide_eq_false h]
  have:(mag q.den==⟨#[]⟩)=false:=by
   rw[←Bool.not_eq_true]
   intro h2
   have h3:mag q.den=⟨#[]⟩:=by
    by_cases h4:mag q.den=⟨#[]⟩
    ·exact h4
    ·rw[bb_ne h4] at h2;cases h2
   have h5:=congrArg ByteArray.size h3
   rw[mag_size] at h5
   have h6:q.den≠0:=q.den_nz
   have h7:=nb_pos h6
   have h8:(⟨#[]⟩:ByteArray).size=0:=rfl
   omega
  rw[this];rfl
end Go.Via
namespace Go.Proofs.YtfijbadahkmhbaaGreatDoor
open Go Go.RowKit Go.Via
theorem c_lite_Index1(l:Bs8)(c:UInt8):PCall Tryz.prog 179 #[.string (strU l),.string (strU [c])] (.int .i64 (Lib.indexByte l c)):=by
 refine⟨by kernel_rfl,fun w=>?_⟩;refine cB2 143 Tryz.func179 (LRel.nil w) ?_;refine A9 ?_;refine r_know 15 (.int .i64 1) rfl (by rw[strU_size];rfl) ?_;refine A9 ?_;refine Kr 18 (.bool false) ?_;refine A8 ?_;refine Cd ?_ ?_<;>intro hb0
 ·have he:=hb0;rw[strU_beq] at he;refine A8 ?_;refine E1 fun w hL=>⟨?_,hL.below⟩
  have he2:[c]=l:=(by simpa using he);rw[←he2];exact congrArg (fun z=>Ending.returned (.int .i64 z)) (by simp[Lib.indexByte])
 ·have he:=hb0;rw[strU_beq] at he;refine A4 ?_;refine Kr 26 (.bool true) ?_;refine A8 ?_;refine r_idxS (b:=c) (r:=(c.toNat:Int)) u9 rfl rfl rfl rfl (by omega) rfl rfl ?_;refine Pc (c_lite_IndexByte l c) ?_;refine A6 ?_;refine E1 fun w hL=>⟨?_,hL.below⟩;exact rfl
theorem c_lite_Cut(l:Bs8)(c:UInt8)(hn:l.length≤1000000):PCall Tryz.prog 182 #[.string (strU l),.string (strU [c])] (.tuple #[.string (strU (cutB l c).1),.string (strU (cutB l c).2.1),.bool (cutB l c).2.2]):=by
 refine⟨by kernel_rfl,fun w=>?_⟩;refine cB2 23 Tryz.func182 (LRel.nil w) ?_;refine A12 ?_;refine Pc (c_lite_Index1 l c) ?_;refine A9 ?_;refine Cd ?_ ?_<;>intro hb0
 ·have hge:0≤Lib.indexByte l c:=(by have:=of_decide_eq_true hb0;omega);obtain⟨k,hk⟩:∃k:Nat,Lib.indexByte l c=(k:Nat):=⟨_,(Int.toNat_of_nonneg hge).symm⟩;have hkl:k<l.length:=by have:=idx_lt c l;omega
  refine A1 ?_;refine at_drawnI [2000000] mixed (by kernel_rfl) (by kernel_rfl) ?_;refine A2 ?_;refine r_know 14 (.int .i64 (k:Nat)) rfl (by rw[hk]) ?_;refine r_sliceTo (j:=k) u9 rfl rfl rfl rfl (by omega) rfl ?_;refine A2 ?_;refine r_know 17 (.int .i64 (k:Nat)) rfl (by rw[hk]) ?_;refine A2 ?_;refine r_know 19 (.int .i64 1) rfl (by rw[strU_size];rfl) ?_;refine Ar (((k+1:Nat):Int)) ?_;refine r_sliceFrom (j:=k+1) u9 rfl rfl rfl rfl (by omega) rfl ?_;refine A7 ?_;refine at_end3 rfl (res_tmp rfl) (res_tmp rfl) (res_tmp rfl) (fun w hL=>⟨?_,hL.below⟩);rw[cutB_T hk]
 ·have hge:¬0≤Lib.indexByte l c:=(by have:=of_decide_eq_false hb0;omega);refine A11 ?_;refine at_end3 rfl (res_tmp rfl) (res_tmp rfl) (res_tmp rfl) (fun w hL=>⟨?_,hL.below⟩);rw[cutB_F hge];rfl
theorem c_strings_Cut1(l:Bs8)(c:UInt8)(hn:l.length≤1000000):PCall Tryz.prog 172 #[.string (strU l),.string (strU [c])] (.tuple #[.string (strU (cutB l c).1),.string (strU (cutB l c).2.1),.bool (cutB l c).2.2]):=by
 refine⟨by kernel_rfl,fun w=>?_⟩;refine cB2 13 Tryz.func172 (LRel.nil w) ?_;refine A11 ?_;refine Pc (c_lite_Cut l c hn) ?_;refine A9 ?_;refine at_end3 rfl (res_tmp rfl) (res_tmp rfl) (res_tmp rfl) (fun w hL=>⟨?_,hL.below⟩);exact rfl
theorem c_rational_digits(l:Bs8)(hl:l.all isDig=true)(hn:l.length≤4096):PCall Tryz.prog 173 #[.string (strU l)] (.tuple #[I ((decN l:Nat):Int),.bool (l !=[])]):=by
 refine⟨by kernel_rfl,fun w=>?_⟩;refine cB1 32 Tryz.func173 (LRel.nil w) ?_;refine A2 ?_;refine r_alloc [_,_] 2 (fun g=>[⟨some g,25,_,2,true⟩]) rfl rfl z25 rfl rfl (fun _=>rfl) (fun g0=>?_);refine A5 ?_;refine r_alloc [_,_] 2 (fun g=>[_,⟨some g,25,_,2,true⟩]) rfl rfl z25 rfl rfl (fun _=>rfl) (fun g1=>?_);refine A4 ?_;refine Pc (c_integer_FromInt 10 (by omega) (by omega)) ?_;refine r_alloc [_,_] 2 (fun g=>[_,_,⟨some g,25,_,2,true⟩]) rfl rfl z25 rfl rfl (fun _=>rfl) (fun g2=>?_);refine So 2 0 [_,_,⟨some g2,25,_,2,true⟩] [_,_] ?_;refine A6 ?_;refine r_rangeS (fun gi=>[_,_,_,gB [(gi,itRow (strU l) 0)] true]) u9 rfl rfl rfl (fun _=>rfl) (fun gi=>?_);refine A3 ?_;refine El (ι:={i:Nat // i≤l.length}) (fun⟨i,hi⟩=>([(0,.string (strU l)),(2,.pointer (some ⟨g0,0,none⟩)),(4,.pointer (some ⟨g1,0,none⟩)),(5,.pointer (some ⟨g2,0,none⟩)),(10,.pointer (some ⟨gi,0,none⟩))],[⟨some g0,25,[.bool false,.string ⟨#[]⟩],2,true⟩,⟨some g1,25,[.bool (decide (((decN (l.take i):Nat):Int)<0)),.string (mag (((decN (l.take i):Nat):Int)).natAbs)],2,true⟩,⟨some g2,25,[.bool (decide ((10:Int)<0)),.string (mag ((10:Int)).natAbs)],2,true⟩,gB [(gi,itRow (strU l) i)] true],l.length-i)) ⟨0,Nat.zero_le _⟩ ?_ (hL:=(weak_picks [some 0,some 1,some 2,some 3] ⟨⟨_,rfl,Blk.le_refl _⟩,⟨_,rfl,le_same dec0_blk⟩,⟨_,rfl,Blk.le_refl _⟩,⟨_,rfl,Blk.le_refl _⟩,trivial⟩ rfl rfl));rintro⟨i,hi⟩;(try dsimp only);refine A2 ?_
 rcases Nat.lt_or_ge i l.length with hlt|hge
 ·obtain⟨c,hx⟩:∃c,l[i]? =some c:=⟨l[i],List.getElem?_eq_getElem hlt⟩;have hdig:isDig c=true:=List.all_eq_true.1 hl c (List.mem_of_getElem? hx);have hdb:=dig_bounds hdig;refine r_nextAscii (c:=c) 3 [_,_,_,gB [(gi,itRow (strU l) (i+1))] true] rfl rfl rfl rfl rfl hx (by omega) rfl ?_;refine A20 ?_;refine Rs 16 ?_ ?_<;>intro hb2
  ·exfalso;have:=of_decide_eq_true hb2;omega
  ·refine A5 ?_;refine Cd ?_ ?_<;>intro hb3
   ·exfalso;have:=of_decide_eq_true hb3;omega
   ·refine A3 ?_;refine Ld 1 0 [_,_] ti25 ?_;refine r_know 21 (I ((decN (l.take i):Nat):Int)) rfl rfl ?_;refine Ld 2 0 [_,_] ti25 ?_;refine Kr 22 (I 10) ?_;refine Pc (c_integer_Mul ((decN (l.take i):Nat):Int) 10 (Nat.le_trans (decN_take_sz hl i) (by omega)) (Nat.le_trans szI_10 (by decide))) ?_;refine A1 ?_;refine r_arith (r:=((c.toNat-48:Nat):Int)) rfl rfl rfl rfl (congrArg some (by rw[IntKind.wrap_i32];omega)) ?_;refine r_conv (r:=((c.toNat-48:Nat):Int)) u21 u3 rfl rfl rfl (by rw[IntKind.wrap_i64];omega) ?_;refine Pc (c_integer_FromInt ((c.toNat-48:Nat):Int) (by omega) (by omega)) ?_;refine Pc (c_integer_Add (((decN (l.take i):Nat):Int)*10) ((c.toNat-48:Nat):Int) (dec_mul_sz hl hn i) (szI_dig hdb.2)) ?_;refine So 1 0 [_,⟨some g1,25,_,2,true⟩,_,_] [_,_] ?_;refine A3 ?_;exact Nl ⟨i+1,hlt⟩ (hL:=(weak_picks [some 0,some 1,some 2,some 3] ⟨⟨_,rfl,Blk.le_refl _⟩,⟨_,rfl,le_same (dec_blk (decN_int hx))⟩,⟨_,rfl,Blk.le_refl _⟩,⟨_,rfl,Blk.le_refl _⟩,trivial⟩ rfl rfl))
 ·refine r_nextEnd 3 rfl rfl rfl rfl rfl (by rw[strU_size];exact hge) ?_;refine r_extract (vs:=[_]) rfl rfl rfl rfl ?_;refine A11 ?_;refine Ld 1 0 [_,_] ti25 ?_;refine r_know 29 (I ((decN (l.take i):Nat):Int)) rfl rfl ?_;refine A2 ?_;refine r_know 31 (.bool (l !=[])) rfl (by rw[show(strU l !=⟨#[]⟩)=(strU l !=strU []) from rfl,bne,strU_beq];rfl) ?_;refine So 0 0 [⟨some g0,25,_,2,true⟩,_,_,_] [_,_] ?_;refine A4 ?_;refine at_end2 rfl (res_cell 0 rfl rfl ti25 (vs:=[_,_]) rfl rfl (Nat.le_of_ble_eq_true rfl) rfl) (res_tmp rfl) (fun w hL=>⟨?_,hL.below⟩);rw[List.take_of_length_le hge];rfl
end Go.Proofs.YtfijbadahkmhbaaGreatDoor
