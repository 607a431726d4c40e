/-
  Part 12 (chapter 43): lemmas, walks. Each theorem states its own conditions.
-/
import Derived.Test.YtfijbadahkmhbaaGreatDoorA04
import Derived.Test.YtfijbadahkmhbaaGreatDoorA07
import Derived.Test.YtfijbadahkmhbaaGreatDoorA09
import Derived.Test.YtfijbadahkmhbaaGreatDoorA10
import Derived.Test.YtfijbadahkmhbaaGreatDoorA11
set_option linter.unusedVariables false
set_option linter.unusedSimpArgs false
set_option maxRecDepth 20000
set_option maxHeartbeats 20000000
namespace Go.Proofs.YtfijbadahkmhbaaGreatDoor
open Go Go.RowKit Go.Via
theorem c_write_leaf{x:XT}(z:XR x)(m:Int)(H:∀y:XT,y.size<x.size→WriC m y)(hok:okX x)(hf:x.fit=true)(hM:x.size≤1000000000)(lv g:Nat)(a:Bool)(d:Bd)(hd:d.ok)(hop:opsT.find? (fun f=>decide ((f.2.1:Int)=x.op))=none)(hkind:¬sw6 x.op→funT.find? (fun f=>decide ((f.2.1:Int)=x.op))≠none)(hb:d.s.length+(swS x++fnL x funT).length≤17179869184):ECall Tryz.prog 96 [BB g a d,BF d,gB z.T false,GM m] [.pointer (some ⟨g,0,none⟩),z.v,.int .i64 (lv:Nat)] (BdX (d.s++(swS x++fnL x funT))) (fun _=> .tuple #[]) (fun d'=>[BB g true d'.1,BF d'.1]):=by
 refine⟨by kernel_rfl,fun B w hD hL0=>?_⟩;obtain⟨hfn,hfu,hfs⟩:=XT.fit_parts hf;have hnum:=nodeE_num (okX_parts hok).1;refine calls_atD (args:=[.pointer (some ⟨g,0,none⟩),z.v,.int .i64 (lv:Nat)]) Tryz.func96 rfl (Nat.le_of_ble_eq_true rfl) hL0 ?_;show At B ⟨136,[(0,.pointer (some ⟨g,0,none⟩)),(1,z.v),(2,.int .i64 (lv:Nat))],[BB g a d,BF d,gB z.T false,GM m]⟩ _;refine A2 ?_;refine Bo [_,_,_,_,_,_,_] 7 (fun g=>[_,_,_,_,⟨some g,30,_,7,true⟩]) (fun g0=>?_);refine A5 ?_;refine r_scall [] [] rfl rfl rfl c_syntax_operators trivial rfl (.inr fun _ b hb=>by rw[List.mem_singleton.1 hb]) (fun go=>?_);refine A5 ?_;refine El (ι:={i:Nat // i≤12}) (fun⟨i,hi⟩=>([(0,.pointer (some ⟨g,0,none⟩)),(2,.int .i64 (lv:Nat)),(4,.pointer (some ⟨g0,0,none⟩)),(12,slv (some go) 0 12 12),(13,.int .i64 12),(14,.int .i64 (i:Nat))],[BB g a d,BF d,gB z.T false,GM m,XB g0 z,⟨some go,110,tabC opsT,36,true⟩],12-i)) ⟨0,Nat.zero_le _⟩ ?_ (hL:=Weak.auto);rintro⟨i,hi⟩;(try dsimp only);refine A6 ?_;refine at_cond rfl (fun hb1=>?_) (fun hb1=>?_)
 ·
  have hlt:i<12:=(by have:=of_decide_eq_true hb1;omega)
  obtain⟨o,ho⟩:∃o,opsT[i]? =some o:=⟨opsT[i]'(by show i<12;exact hlt),List.getElem?_eq_getElem _⟩
  have hne:(o.2.1:Int)≠x.op:=by have:=List.find?_eq_none.1 hop o (List.mem_of_getElem? ho);simpa using this
  refine A6 ?_;refine Ix 5 (i*3) ?_;refine r_load (v:= .agg #[.string (strU o.1),.int .i64 (o.2.1:Nat),.int .i64 (o.2.2:Nat)]) 5 (i*3) _ rfl rfl rfl rfl ti110 (tabC_get ho) rfl (by decide) rfl ?_;refine r_alloc [_,_,_] 3 (fun g=>[_,_,_,_,_,_,⟨some g,110,_,3,true⟩]) rfl rfl z110 rfl rfl (fun _=>rfl) (fun g1=>?_);refine So 6 0 [_,_,_,_,_,_,⟨some g1,110,_,3,true⟩] [_,_,_] ?_;refine A9 ?_;refine r_know 21 (.int .i64 x.op) rfl (by rw[z.inv.1]) ?_;refine A3 ?_;refine at_cond rfl (fun hb2=>?_) (fun hb2=>?_)
  ·
   refine A5 ?_;refine Ar (((i+1:Nat):Int)) ?_;refine A3 ?_;exact Nl ⟨i+1,hlt⟩ (hL:=Weak.auto)
  ·exact absurd (by have hh:=hb2;simpa using hh) hne
 ·
  refine A10 ?_;refine r_know 73 (.int .i64 x.op) rfl (by rw[z.inv.1]) ?_;refine A9 ?_;refine at_cond rfl (fun hb2=>?_) (fun hb2=>?_)
  ·
   have h1:x.op=1:=by simpa using hb2
   have hsw:swS x=ratS x.num.rat:=by unfold swS;rw[if_pos h1]
   obtain⟨hq1,hq2⟩:=NumV.rat_ok z.inv.2.2.1 hfu (hnum.1 h1);refine at_regionM ?_;refine A2 ?_;refine r_load 4 2 [_,_,_,_] rfl rfl rfl rfl ti27 rfl rfl rfl rfl ?_;refine r_know 78 (Q x.num.rat) rfl hq1 ?_;refine Pc (c_rational_Print x.num.rat hq2) ?_;refine Gm 2 [0,1] [] (fun d1=>[BB g true d1.1,BF d1.1,_,_,_,_]) (c_b_WriteString g a d (ratS x.num.rat) hd (by have h:=hb;simp only[hsw,List.length_append,List.length_cons,List.length_nil] at h ⊢;omega)) (fun⟨d1,hd1,e1⟩=>?_);refine A5 ?_;refine r_scall [] [] rfl rfl rfl c_syntax_functions trivial rfl (.inr fun _ b hb=>by rw[List.mem_singleton.1 hb]) (fun gf=>?_);refine A5 ?_;refine El (ι:={r:Nat×Bool×Bd // r.1≤12∧r.2.2.ok∧r.2.2.s=d.s++(swS x++fnL x (funT.take r.1))∧(r.2.1=true∨((funT.take r.1).find? (fun f=>decide ((f.2.1:Int)=x.op))=none∧¬sw6 x.op))}) (fun⟨⟨i,a2,q⟩,hi,hq,hs,hA⟩=>([(0,.pointer (some ⟨g,0,none⟩)),(4,.pointer (some ⟨g0,0,none⟩)),(117,slv (some gf) 0 12 12),(118,.int .i64 12),(119,.int .i64 (i:Nat))],[BB g a2 q,BF q,gB z.T false,GM m,XB g0 z,⟨some gf,114,tabC funT,36,true⟩],12-i)) ⟨(0,true,d1),Nat.zero_le _,hd1,by rw[e1];rw[hsw];simp[fnL],.inl rfl⟩ ?_ (hL:=(weak_pk [some 0,some 1,some 2,some 3,some 4,some 6]));rintro⟨⟨i,a2,q⟩,hi,hq,hs,hA⟩;(try dsimp only);dsimp only at hi hq hs hA;refine A6 ?_;refine at_cond rfl (fun hb4=>?_) (fun hb4=>?_)
   ·
    have hlt:i<12:=(by have:=of_decide_eq_true hb4;omega)
    obtain⟨o,ho⟩:∃o,funT[i]? =some o:=⟨funT[i]'(by show i<12;exact hlt),List.getElem?_eq_getElem _⟩
    have hst:=fnL_step x ho;have hle:=fnL_le x funT (i+1);refine A6 ?_;refine Ix 5 (i*3) ?_;refine r_load (v:= .agg #[.string (strU o.1),.int .i64 (o.2.1:Nat),.int .i64 (o.2.2:Nat)]) 5 (i*3) _ rfl rfl rfl rfl ti114 (tabC_get ho) rfl (by decide) rfl ?_;refine r_alloc [_,_,_] 3 (fun g=>[_,_,_,_,_,_,⟨some g,114,_,3,true⟩]) rfl rfl z114 rfl rfl (fun _=>rfl) (fun g1=>?_);refine So 6 0 [_,_,_,_,_,_,⟨some g1,114,_,3,true⟩] [_,_,_] ?_;refine A8 ?_;refine r_know 126 (.int .i64 x.op) rfl (by rw[z.inv.1]) ?_;refine A3 ?_;refine at_cond rfl (fun hb5=>?_) (fun hb5=>?_)
    ·
     have hm:(o.2.1:Int)=x.op:=by simpa using hb5
     rw[if_pos hm] at hst;have hjs:=congrArg List.length hst;refine at_regionM ?_;refine A3 ?_;refine r_addS (p:=o.1) (q:=[40]) rfl rfl rfl rfl rfl rfl rfl (by have h:=hb;simp only[List.length_append,List.length_cons,List.length_nil] at h hjs ⊢;omega) ?_;refine A2 ?_;refine Gm 2 [0,1] [2,3] (fun(d1:BdX (q.s++((o.1++[40])++joinC (txtLs x.args)++[41])))=>[BB g true d1.1,BF d1.1,_,_,_,_,_]) (c_list_step z m H hok hf hM (o.1++[40]) [41] g a2 q hq (by have h:=hb;simp only[hs,List.length_append,List.length_cons,List.length_nil] at h hjs ⊢;omega)) (fun⟨d3,hd3,e3⟩=>?_);refine A4 ?_;refine Ar (((i+1:Nat):Int)) ?_;refine A3 ?_;exact Nl ⟨(i+1,true,d3),hlt,hd3,by rw[e3,hs,hst];simp only[List.append_assoc],.inl rfl⟩ (hL:=Weak.auto)
    ·
     have hm:(o.2.1:Int)≠x.op:=by simpa using hb5
     rw[if_neg hm] at hst;have hjs:=congrArg List.length hst;refine A4 ?_;refine Ar (((i+1:Nat):Int)) ?_;refine A3 ?_;exact Nl ⟨(i+1,a2,q),hlt,hq,by rw[hs,hst,List.append_nil],hA.imp id (fun h=>⟨find_none_step h.1 ho (by simpa using hm),h.2⟩)⟩ (hL:=Weak.auto)
   ·
    have hge:i=12:=(by have:=of_decide_eq_false hb4;omega)
    subst hge;refine A4 ?_
    refine at_end0nD rfl (fun w hL=>by
 have ha:a2=true:=by
  rcases hA with h|⟨h,hk⟩
  ·exact h
  ·exact absurd (find_none_all h (Nat.le_refl _)) (hkind hk)
 subst ha
 exact⟨⟨q,hq,hs⟩,rfl,hL.pk [some 0,some 1]⟩)
  ·
   have h1:x.op≠1:=by simpa using hb2
   refine A6 ?_;refine at_cond rfl (fun hb3=>?_) (fun hb3=>?_)
   ·
    have h4:x.op=4:=by simpa using hb3
    have hsw:swS x=x.name:=by unfold swS;rw[if_neg h1,if_pos h4]
    refine at_regionM ?_;refine A3 ?_;refine r_know 85 (.string (strU x.name)) rfl (by rw[z.inv.2.1]) ?_;refine Gm 2 [0,1] [] (fun d1=>[BB g true d1.1,BF d1.1,_,_,_,_]) (c_b_WriteString g a d x.name hd (by have h:=hb;simp only[hsw,List.length_append,List.length_cons,List.length_nil] at h ⊢;omega)) (fun⟨d1,hd1,e1⟩=>?_);refine A5 ?_;refine r_scall [] [] rfl rfl rfl c_syntax_functions trivial rfl (.inr fun _ b hb=>by rw[List.mem_singleton.1 hb]) (fun gf=>?_);refine A5 ?_;refine El (ι:={r:Nat×Bool×Bd // r.1≤12∧r.2.2.ok∧r.2.2.s=d.s++(swS x++fnL x (funT.take r.1))∧(r.2.1=true∨((funT.take r.1).find? (fun f=>decide ((f.2.1:Int)=x.op))=none∧¬sw6 x.op))}) (fun⟨⟨i,a2,q⟩,hi,hq,hs,hA⟩=>([(0,.pointer (some ⟨g,0,none⟩)),(4,.pointer (some ⟨g0,0,none⟩)),(117,slv (some gf) 0 12 12),(118,.int .i64 12),(119,.int .i64 (i:Nat))],[BB g a2 q,BF q,gB z.T false,GM m,XB g0 z,⟨some gf,114,tabC funT,36,true⟩],12-i)) ⟨(0,true,d1),Nat.zero_le _,hd1,by rw[e1];rw[hsw];simp[fnL],.inl rfl⟩ ?_ (hL:=(weak_pk [some 0,some 1,some 2,some 3,some 4,some 6]));rintro⟨⟨i,a2,q⟩,hi,hq,hs,hA⟩;(try dsimp only);dsimp only at hi hq hs hA;refine A6 ?_;refine at_cond rfl (fun hb5=>?_) (fun hb5=>?_)
    ·
     have hlt:i<12:=(by have:=of_decide_eq_true hb5;omega)
     obtain⟨o,ho⟩:∃o,funT[i]? =some o:=⟨funT[i]'(by show i<12;exact hlt),List.getElem?_eq_getElem _⟩
     have hst:=fnL_step x ho;have hle:=fnL_le x funT (i+1);refine A6 ?_;refine Ix 5 (i*3) ?_;refine r_load (v:= .agg #[.string (strU o.1),.int .i64 (o.2.1:Nat),.int .i64 (o.2.2:Nat)]) 5 (i*3) _ rfl rfl rfl rfl ti114 (tabC_get ho) rfl (by decide) rfl ?_;refine r_alloc [_,_,_] 3 (fun g=>[_,_,_,_,_,_,⟨some g,114,_,3,true⟩]) rfl rfl z114 rfl rfl (fun _=>rfl) (fun g1=>?_);refine So 6 0 [_,_,_,_,_,_,⟨some g1,114,_,3,true⟩] [_,_,_] ?_;refine A8 ?_;refine r_know 126 (.int .i64 x.op) rfl (by rw[z.inv.1]) ?_;refine A3 ?_;refine at_cond rfl (fun hb6=>?_) (fun hb6=>?_)
     ·
      have hm:(o.2.1:Int)=x.op:=by simpa using hb6
      rw[if_pos hm] at hst;have hjs:=congrArg List.length hst;refine at_regionM ?_;refine A3 ?_;refine r_addS (p:=o.1) (q:=[40]) rfl rfl rfl rfl rfl rfl rfl (by have h:=hb;simp only[List.length_append,List.length_cons,List.length_nil] at h hjs ⊢;omega) ?_;refine A2 ?_;refine Gm 2 [0,1] [2,3] (fun(d1:BdX (q.s++((o.1++[40])++joinC (txtLs x.args)++[41])))=>[BB g true d1.1,BF d1.1,_,_,_,_,_]) (c_list_step z m H hok hf hM (o.1++[40]) [41] g a2 q hq (by have h:=hb;simp only[hs,List.length_append,List.length_cons,List.length_nil] at h hjs ⊢;omega)) (fun⟨d3,hd3,e3⟩=>?_);refine A4 ?_;refine Ar (((i+1:Nat):Int)) ?_;refine A3 ?_;exact Nl ⟨(i+1,true,d3),hlt,hd3,by rw[e3,hs,hst];simp only[List.append_assoc],.inl rfl⟩ (hL:=Weak.auto)
     ·
      have hm:(o.2.1:Int)≠x.op:=by simpa using hb6
      rw[if_neg hm] at hst;have hjs:=congrArg List.length hst;refine A4 ?_;refine Ar (((i+1:Nat):Int)) ?_;refine A3 ?_;exact Nl ⟨(i+1,a2,q),hlt,hq,by rw[hs,hst,List.append_nil],hA.imp id (fun h=>⟨find_none_step h.1 ho (by simpa using hm),h.2⟩)⟩ (hL:=Weak.auto)
    ·
     have hge:i=12:=(by have:=of_decide_eq_false hb5;omega)
     subst hge;refine A4 ?_
     refine at_end0nD rfl (fun w hL=>by
 have ha:a2=true:=by
  rcases hA with h|⟨h,hk⟩
  ·exact h
  ·exact absurd (find_none_all h (Nat.le_refl _)) (hkind hk)
 subst ha
 exact⟨⟨q,hq,hs⟩,rfl,hL.pk [some 0,some 1]⟩)
   ·
    have h4:x.op≠4:=by simpa using hb3
    refine A6 ?_;refine at_cond rfl (fun hb4=>?_) (fun hb4=>?_)
    ·
     have h3:x.op=3:=by simpa using hb4
     have hsw:swS x=sObject++ratS x.num.rat++[41]:=by unfold swS;rw[if_neg h1,if_neg h4,if_pos h3]
     obtain⟨hq1,hq2⟩:=NumV.rat_ok z.inv.2.2.1 hfu (hnum.2 h3);refine at_regionM ?_;refine A2 ?_;refine r_load 4 2 [_,_,_,_] rfl rfl rfl rfl ti27 rfl rfl rfl rfl ?_;refine r_know 91 (Q x.num.rat) rfl hq1 ?_;refine Pc (c_rational_Print x.num.rat hq2) ?_;refine r_addS (p:=sObject) (q:=ratS x.num.rat) rfl rfl rfl rfl rfl rfl rfl (by have h:=hb;simp only[hsw,List.length_append,List.length_cons,List.length_nil] at h ⊢;omega) ?_;refine r_addS (p:=sObject++ratS x.num.rat) (q:=[41]) rfl rfl rfl rfl rfl rfl rfl (by have h:=hb;simp only[hsw,List.length_append,List.length_cons,List.length_nil] at h ⊢;omega) ?_;refine Gm 2 [0,1] [] (fun d1=>[BB g true d1.1,BF d1.1,_,_,_,_]) (c_b_WriteString g a d (sObject++ratS x.num.rat++[41]) hd (by have h:=hb;simp only[hsw,List.length_append,List.length_cons,List.length_nil] at h ⊢;omega)) (fun⟨d1,hd1,e1⟩=>?_);refine A5 ?_;refine r_scall [] [] rfl rfl rfl c_syntax_functions trivial rfl (.inr fun _ b hb=>by rw[List.mem_singleton.1 hb]) (fun gf=>?_);refine A5 ?_;refine El (ι:={r:Nat×Bool×Bd // r.1≤12∧r.2.2.ok∧r.2.2.s=d.s++(swS x++fnL x (funT.take r.1))∧(r.2.1=true∨((funT.take r.1).find? (fun f=>decide ((f.2.1:Int)=x.op))=none∧¬sw6 x.op))}) (fun⟨⟨i,a2,q⟩,hi,hq,hs,hA⟩=>([(0,.pointer (some ⟨g,0,none⟩)),(4,.pointer (some ⟨g0,0,none⟩)),(117,slv (some gf) 0 12 12),(118,.int .i64 12),(119,.int .i64 (i:Nat))],[BB g a2 q,BF q,gB z.T false,GM m,XB g0 z,⟨some gf,114,tabC funT,36,true⟩],12-i)) ⟨(0,true,d1),Nat.zero_le _,hd1,by rw[e1];rw[hsw];simp[fnL],.inl rfl⟩ ?_ (hL:=(weak_pk [some 0,some 1,some 2,some 3,some 4,some 6]));rintro⟨⟨i,a2,q⟩,hi,hq,hs,hA⟩;(try dsimp only);dsimp only at hi hq hs hA;refine A6 ?_;refine at_cond rfl (fun hb6=>?_) (fun hb6=>?_)
     ·
      have hlt:i<12:=(by have:=of_decide_eq_true hb6;omega)
      obtain⟨o,ho⟩:∃o,funT[i]? =some o:=⟨funT[i]'(by show i<12;exact hlt),List.getElem?_eq_getElem _⟩
      have hst:=fnL_step x ho;have hle:=fnL_le x funT (i+1);refine A6 ?_;refine Ix 5 (i*3) ?_;refine r_load (v:= .agg #[.string (strU o.1),.int .i64 (o.2.1:Nat),.int .i64 (o.2.2:Nat)]) 5 (i*3) _ rfl rfl rfl rfl ti114 (tabC_get ho) rfl (by decide) rfl ?_;refine r_alloc [_,_,_] 3 (fun g=>[_,_,_,_,_,_,⟨some g,114,_,3,true⟩]) rfl rfl z114 rfl rfl (fun _=>rfl) (fun g1=>?_);refine So 6 0 [_,_,_,_,_,_,⟨some g1,114,_,3,true⟩] [_,_,_] ?_;refine A8 ?_;refine r_know 126 (.int .i64 x.op) rfl (by rw[z.inv.1]) ?_;refine A3 ?_;refine at_cond rfl (fun hb7=>?_) (fun hb7=>?_)
      ·
       have hm:(o.2.1:Int)=x.op:=by simpa using hb7
       rw[if_pos hm] at hst;have hjs:=congrArg List.length hst;refine at_regionM ?_;refine A3 ?_;refine r_addS (p:=o.1) (q:=[40]) rfl rfl rfl rfl rfl rfl rfl (by have h:=hb;simp only[List.length_append,List.length_cons,List.length_nil] at h hjs ⊢;omega) ?_;refine A2 ?_;refine Gm 2 [0,1] [2,3] (fun(d1:BdX (q.s++((o.1++[40])++joinC (txtLs x.args)++[41])))=>[BB g true d1.1,BF d1.1,_,_,_,_,_]) (c_list_step z m H hok hf hM (o.1++[40]) [41] g a2 q hq (by have h:=hb;simp only[hs,List.length_append,List.length_cons,List.length_nil] at h hjs ⊢;omega)) (fun⟨d3,hd3,e3⟩=>?_);refine A4 ?_;refine Ar (((i+1:Nat):Int)) ?_;refine A3 ?_;exact Nl ⟨(i+1,true,d3),hlt,hd3,by rw[e3,hs,hst];simp only[List.append_assoc],.inl rfl⟩ (hL:=Weak.auto)
      ·
       have hm:(o.2.1:Int)≠x.op:=by simpa using hb7
       rw[if_neg hm] at hst;have hjs:=congrArg List.length hst;refine A4 ?_;refine Ar (((i+1:Nat):Int)) ?_;refine A3 ?_;exact Nl ⟨(i+1,a2,q),hlt,hq,by rw[hs,hst,List.append_nil],hA.imp id (fun h=>⟨find_none_step h.1 ho (by simpa using hm),h.2⟩)⟩ (hL:=Weak.auto)
     ·
      have hge:i=12:=(by have:=of_decide_eq_false hb6;omega)
      subst hge;refine A4 ?_
      refine at_end0nD rfl (fun w hL=>by
 have ha:a2=true:=by
  rcases hA with h|⟨h,hk⟩
  ·exact h
  ·exact absurd (find_none_all h (Nat.le_refl _)) (hkind hk)
 subst ha
 exact⟨⟨q,hq,hs⟩,rfl,hL.pk [some 0,some 1]⟩)
    ·
     have h3:x.op≠3:=by simpa using hb4
     refine A6 ?_;refine at_cond rfl (fun hb5=>?_) (fun hb5=>?_)
     ·
      have h5:x.op=5:=by simpa using hb5
      have hsw:swS x=sZone++quoS x.name++[34,41]:=by unfold swS;rw[if_neg h1,if_neg h4,if_neg h3,if_pos h5]
      refine at_regionM ?_;refine A3 ?_;refine r_know 100 (.string (strU x.name)) rfl (by rw[z.inv.2.1]) ?_;refine r_scall0 [.string (strU x.name),.string (strU [34]),.string (strU [34,34])] [3] rfl rfl rfl (c_ReplaceAll m x.name hfn) ⟨⟨_,rfl,Blk.le_refl _⟩,trivial⟩ rfl ?_;refine r_addS (p:=sZone) (q:=quoS x.name) rfl rfl rfl rfl rfl rfl rfl (by have h:=hb;simp only[hsw,List.length_append,List.length_cons,List.length_nil] at h ⊢;omega) ?_;refine r_addS (p:=sZone++quoS x.name) (q:=[34,41]) rfl rfl rfl rfl rfl rfl rfl (by have h:=hb;simp only[hsw,List.length_append,List.length_cons,List.length_nil] at h ⊢;omega) ?_;refine Gm 2 [0,1] [] (fun d1=>[BB g true d1.1,BF d1.1,_,_,_,_]) (c_b_WriteString g a d (sZone++quoS x.name++[34,41]) hd (by have h:=hb;simp only[hsw,List.length_append,List.length_cons,List.length_nil] at h ⊢;omega)) (fun⟨d1,hd1,e1⟩=>?_);refine A5 ?_;refine r_scall [] [] rfl rfl rfl c_syntax_functions trivial rfl (.inr fun _ b hb=>by rw[List.mem_singleton.1 hb]) (fun gf=>?_);refine A5 ?_;refine El (ι:={r:Nat×Bool×Bd // r.1≤12∧r.2.2.ok∧r.2.2.s=d.s++(swS x++fnL x (funT.take r.1))∧(r.2.1=true∨((funT.take r.1).find? (fun f=>decide ((f.2.1:Int)=x.op))=none∧¬sw6 x.op))}) (fun⟨⟨i,a2,q⟩,hi,hq,hs,hA⟩=>([(0,.pointer (some ⟨g,0,none⟩)),(4,.pointer (some ⟨g0,0,none⟩)),(117,slv (some gf) 0 12 12),(118,.int .i64 12),(119,.int .i64 (i:Nat))],[BB g a2 q,BF q,gB z.T false,GM m,XB g0 z,⟨some gf,114,tabC funT,36,true⟩],12-i)) ⟨(0,true,d1),Nat.zero_le _,hd1,by rw[e1];rw[hsw];simp[fnL],.inl rfl⟩ ?_ (hL:=(weak_pk [some 0,some 1,some 2,some 3,some 4,some 6]));rintro⟨⟨i,a2,q⟩,hi,hq,hs,hA⟩;(try dsimp only);dsimp only at hi hq hs hA;refine A6 ?_;refine at_cond rfl (fun hb7=>?_) (fun hb7=>?_)
      ·
       have hlt:i<12:=(by have:=of_decide_eq_true hb7;omega)
       obtain⟨o,ho⟩:∃o,funT[i]? =some o:=⟨funT[i]'(by show i<12;exact hlt),List.getElem?_eq_getElem _⟩
       have hst:=fnL_step x ho;have hle:=fnL_le x funT (i+1);refine A6 ?_;refine Ix 5 (i*3) ?_;refine r_load (v:= .agg #[.string (strU o.1),.int .i64 (o.2.1:Nat),.int .i64 (o.2.2:Nat)]) 5 (i*3) _ rfl rfl rfl rfl ti114 (tabC_get ho) rfl (by decide) rfl ?_;refine r_alloc [_,_,_] 3 (fun g=>[_,_,_,_,_,_,⟨some g,114,_,3,true⟩]) rfl rfl z114 rfl rfl (fun _=>rfl) (fun g1=>?_);refine So 6 0 [_,_,_,_,_,_,⟨some g1,114,_,3,true⟩] [_,_,_] ?_;refine A8 ?_;refine r_know 126 (.int .i64 x.op) rfl (by rw[z.inv.1]) ?_;refine A3 ?_;refine at_cond rfl (fun hb8=>?_) (fun hb8=>?_)
       ·
        have hm:(o.2.1:Int)=x.op:=by simpa using hb8
        rw[if_pos hm] at hst;have hjs:=congrArg List.length hst;refine at_regionM ?_;refine A3 ?_;refine r_addS (p:=o.1) (q:=[40]) rfl rfl rfl rfl rfl rfl rfl (by have h:=hb;simp only[List.length_append,List.length_cons,List.length_nil] at h hjs ⊢;omega) ?_;refine A2 ?_;refine Gm 2 [0,1] [2,3] (fun(d1:BdX (q.s++((o.1++[40])++joinC (txtLs x.args)++[41])))=>[BB g true d1.1,BF d1.1,_,_,_,_,_]) (c_list_step z m H hok hf hM (o.1++[40]) [41] g a2 q hq (by have h:=hb;simp only[hs,List.length_append,List.length_cons,List.length_nil] at h hjs ⊢;omega)) (fun⟨d3,hd3,e3⟩=>?_);refine A4 ?_;refine Ar (((i+1:Nat):Int)) ?_;refine A3 ?_;exact Nl ⟨(i+1,true,d3),hlt,hd3,by rw[e3,hs,hst];simp only[List.append_assoc],.inl rfl⟩ (hL:=Weak.auto)
       ·
        have hm:(o.2.1:Int)≠x.op:=by simpa using hb8
        rw[if_neg hm] at hst;have hjs:=congrArg List.length hst;refine A4 ?_;refine Ar (((i+1:Nat):Int)) ?_;refine A3 ?_;exact Nl ⟨(i+1,a2,q),hlt,hq,by rw[hs,hst,List.append_nil],hA.imp id (fun h=>⟨find_none_step h.1 ho (by simpa using hm),h.2⟩)⟩ (hL:=Weak.auto)
      ·
       have hge:i=12:=(by have:=of_decide_eq_false hb7;omega)
       subst hge;refine A4 ?_
       refine at_end0nD rfl (fun w hL=>by
 have ha:a2=true:=by
  rcases hA with h|⟨h,hk⟩
  ·exact h
  ·exact absurd (find_none_all h (Nat.le_refl _)) (hkind hk)
 subst ha
 exact⟨⟨q,hq,hs⟩,rfl,hL.pk [some 0,some 1]⟩)
     ·
      have h5:x.op≠5:=by simpa using hb5
      refine A6 ?_;refine at_cond rfl (fun hb6=>?_) (fun hb6=>?_)
      ·
       have h6:x.op=6:=by simpa using hb6
       have hsw:swS x=[91]++joinC (txtLs x.args)++[93]:=by unfold swS;rw[if_neg h1,if_neg h4,if_neg h3,if_neg h5,if_pos h6]
       refine at_regionM ?_;refine A3 ?_;refine Gm 2 [0,1] [2,3] (fun(d1:BdX (d.s++([91]++joinC (txtLs x.args)++[93])))=>[BB g true d1.1,BF d1.1,_,_,_,_]) (c_list_step z m H hok hf hM [91] [93] g a d hd (by have h:=hb;simp only[hsw,List.length_append,List.length_cons,List.length_nil] at h ⊢;omega)) (fun⟨d1,hd1,e1⟩=>?_);refine A5 ?_;refine r_scall [] [] rfl rfl rfl c_syntax_functions trivial rfl (.inr fun _ b hb=>by rw[List.mem_singleton.1 hb]) (fun gf=>?_);refine A5 ?_;refine El (ι:={r:Nat×Bool×Bd // r.1≤12∧r.2.2.ok∧r.2.2.s=d.s++(swS x++fnL x (funT.take r.1))∧(r.2.1=true∨((funT.take r.1).find? (fun f=>decide ((f.2.1:Int)=x.op))=none∧¬sw6 x.op))}) (fun⟨⟨i,a2,q⟩,hi,hq,hs,hA⟩=>([(0,.pointer (some ⟨g,0,none⟩)),(4,.pointer (some ⟨g0,0,none⟩)),(117,slv (some gf) 0 12 12),(118,.int .i64 12),(119,.int .i64 (i:Nat))],[BB g a2 q,BF q,gB z.T false,GM m,XB g0 z,⟨some gf,114,tabC funT,36,true⟩],12-i)) ⟨(0,true,d1),Nat.zero_le _,hd1,by rw[e1];rw[hsw];simp[fnL],.inl rfl⟩ ?_ (hL:=(weak_pk [some 0,some 1,some 2,some 3,some 4,some 6]));rintro⟨⟨i,a2,q⟩,hi,hq,hs,hA⟩;(try dsimp only);dsimp only at hi hq hs hA;refine A6 ?_;refine at_cond rfl (fun hb8=>?_) (fun hb8=>?_)
       ·
        have hlt:i<12:=(by have:=of_decide_eq_true hb8;omega)
        obtain⟨o,ho⟩:∃o,funT[i]? =some o:=⟨funT[i]'(by show i<12;exact hlt),List.getElem?_eq_getElem _⟩
        have hst:=fnL_step x ho;have hle:=fnL_le x funT (i+1);refine A6 ?_;refine Ix 5 (i*3) ?_;refine r_load (v:= .agg #[.string (strU o.1),.int .i64 (o.2.1:Nat),.int .i64 (o.2.2:Nat)]) 5 (i*3) _ rfl rfl rfl rfl ti114 (tabC_get ho) rfl (by decide) rfl ?_;refine r_alloc [_,_,_] 3 (fun g=>[_,_,_,_,_,_,⟨some g,114,_,3,true⟩]) rfl rfl z114 rfl rfl (fun _=>rfl) (fun g1=>?_);refine So 6 0 [_,_,_,_,_,_,⟨some g1,114,_,3,true⟩] [_,_,_] ?_;refine A8 ?_;refine r_know 126 (.int .i64 x.op) rfl (by rw[z.inv.1]) ?_;refine A3 ?_;refine at_cond rfl (fun hb9=>?_) (fun hb9=>?_)
        ·
         have hm:(o.2.1:Int)=x.op:=by simpa using hb9
         rw[if_pos hm] at hst;have hjs:=congrArg List.length hst;refine at_regionM ?_;refine A3 ?_;refine r_addS (p:=o.1) (q:=[40]) rfl rfl rfl rfl rfl rfl rfl (by have h:=hb;simp only[List.length_append,List.length_cons,List.length_nil] at h hjs ⊢;omega) ?_;refine A2 ?_;refine Gm 2 [0,1] [2,3] (fun(d1:BdX (q.s++((o.1++[40])++joinC (txtLs x.args)++[41])))=>[BB g true d1.1,BF d1.1,_,_,_,_,_]) (c_list_step z m H hok hf hM (o.1++[40]) [41] g a2 q hq (by have h:=hb;simp only[hs,List.length_append,List.length_cons,List.length_nil] at h hjs ⊢;omega)) (fun⟨d3,hd3,e3⟩=>?_);refine A4 ?_;refine Ar (((i+1:Nat):Int)) ?_;refine A3 ?_;exact Nl ⟨(i+1,true,d3),hlt,hd3,by rw[e3,hs,hst];simp only[List.append_assoc],.inl rfl⟩ (hL:=Weak.auto)
        ·
         have hm:(o.2.1:Int)≠x.op:=by simpa using hb9
         rw[if_neg hm] at hst;have hjs:=congrArg List.length hst;refine A4 ?_;refine Ar (((i+1:Nat):Int)) ?_;refine A3 ?_;exact Nl ⟨(i+1,a2,q),hlt,hq,by rw[hs,hst,List.append_nil],hA.imp id (fun h=>⟨find_none_step h.1 ho (by simpa using hm),h.2⟩)⟩ (hL:=Weak.auto)
       ·
        have hge:i=12:=(by have:=of_decide_eq_false hb8;omega)
        subst hge;refine A4 ?_
        refine at_end0nD rfl (fun w hL=>by
 have ha:a2=true:=by
  rcases hA with h|⟨h,hk⟩
  ·exact h
  ·exact absurd (find_none_all h (Nat.le_refl _)) (hkind hk)
 subst ha
 exact⟨⟨q,hq,hs⟩,rfl,hL.pk [some 0,some 1]⟩)
      ·
       have h6:x.op≠6:=by simpa using hb6
       refine A6 ?_;refine at_cond rfl (fun hb7=>?_) (fun hb7=>?_)
       ·
        have h2:x.op=2:=by simpa using hb7
        have hsw:swS x=sPoint++joinC (txtLs x.args)++[41]:=by unfold swS;rw[if_neg h1,if_neg h4,if_neg h3,if_neg h5,if_neg h6,if_pos h2]
        refine at_regionM ?_;refine A3 ?_;refine Gm 2 [0,1] [2,3] (fun(d1:BdX (d.s++(sPoint++joinC (txtLs x.args)++[41])))=>[BB g true d1.1,BF d1.1,_,_,_,_]) (c_list_step z m H hok hf hM sPoint [41] g a d hd (by have h:=hb;simp only[hsw,List.length_append,List.length_cons,List.length_nil] at h ⊢;omega)) (fun⟨d1,hd1,e1⟩=>?_);refine A5 ?_;refine r_scall [] [] rfl rfl rfl c_syntax_functions trivial rfl (.inr fun _ b hb=>by rw[List.mem_singleton.1 hb]) (fun gf=>?_);refine A5 ?_;refine El (ι:={r:Nat×Bool×Bd // r.1≤12∧r.2.2.ok∧r.2.2.s=d.s++(swS x++fnL x (funT.take r.1))∧(r.2.1=true∨((funT.take r.1).find? (fun f=>decide ((f.2.1:Int)=x.op))=none∧¬sw6 x.op))}) (fun⟨⟨i,a2,q⟩,hi,hq,hs,hA⟩=>([(0,.pointer (some ⟨g,0,none⟩)),(4,.pointer (some ⟨g0,0,none⟩)),(117,slv (some gf) 0 12 12),(118,.int .i64 12),(119,.int .i64 (i:Nat))],[BB g a2 q,BF q,gB z.T false,GM m,XB g0 z,⟨some gf,114,tabC funT,36,true⟩],12-i)) ⟨(0,true,d1),Nat.zero_le _,hd1,by rw[e1];rw[hsw];simp[fnL],.inl rfl⟩ ?_ (hL:=(weak_pk [some 0,some 1,some 2,some 3,some 4,some 6]));rintro⟨⟨i,a2,q⟩,hi,hq,hs,hA⟩;(try dsimp only);dsimp only at hi hq hs hA;refine A6 ?_;refine at_cond rfl (fun hb9=>?_) (fun hb9=>?_)
        ·
         have hlt:i<12:=(by have:=of_decide_eq_true hb9;omega)
         obtain⟨o,ho⟩:∃o,funT[i]? =some o:=⟨funT[i]'(by show i<12;exact hlt),List.getElem?_eq_getElem _⟩
         have hst:=fnL_step x ho;have hle:=fnL_le x funT (i+1);refine A6 ?_;refine Ix 5 (i*3) ?_;refine r_load (v:= .agg #[.string (strU o.1),.int .i64 (o.2.1:Nat),.int .i64 (o.2.2:Nat)]) 5 (i*3) _ rfl rfl rfl rfl ti114 (tabC_get ho) rfl (by decide) rfl ?_;refine r_alloc [_,_,_] 3 (fun g=>[_,_,_,_,_,_,⟨some g,114,_,3,true⟩]) rfl rfl z114 rfl rfl (fun _=>rfl) (fun g1=>?_);refine So 6 0 [_,_,_,_,_,_,⟨some g1,114,_,3,true⟩] [_,_,_] ?_;refine A8 ?_;refine r_know 126 (.int .i64 x.op) rfl (by rw[z.inv.1]) ?_;refine A3 ?_;refine at_cond rfl (fun hb10=>?_) (fun hb10=>?_)
         ·
          have hm:(o.2.1:Int)=x.op:=by simpa using hb10
          rw[if_pos hm] at hst;have hjs:=congrArg List.length hst;refine at_regionM ?_;refine A3 ?_;refine r_addS (p:=o.1) (q:=[40]) rfl rfl rfl rfl rfl rfl rfl (by have h:=hb;simp only[List.length_append,List.length_cons,List.length_nil] at h hjs ⊢;omega) ?_;refine A2 ?_;refine Gm 2 [0,1] [2,3] (fun(d1:BdX (q.s++((o.1++[40])++joinC (txtLs x.args)++[41])))=>[BB g true d1.1,BF d1.1,_,_,_,_,_]) (c_list_step z m H hok hf hM (o.1++[40]) [41] g a2 q hq (by have h:=hb;simp only[hs,List.length_append,List.length_cons,List.length_nil] at h hjs ⊢;omega)) (fun⟨d3,hd3,e3⟩=>?_);refine A4 ?_;refine Ar (((i+1:Nat):Int)) ?_;refine A3 ?_;exact Nl ⟨(i+1,true,d3),hlt,hd3,by rw[e3,hs,hst];simp only[List.append_assoc],.inl rfl⟩ (hL:=Weak.auto)
         ·
          have hm:(o.2.1:Int)≠x.op:=by simpa using hb10
          rw[if_neg hm] at hst;have hjs:=congrArg List.length hst;refine A4 ?_;refine Ar (((i+1:Nat):Int)) ?_;refine A3 ?_;exact Nl ⟨(i+1,a2,q),hlt,hq,by rw[hs,hst,List.append_nil],hA.imp id (fun h=>⟨find_none_step h.1 ho (by simpa using hm),h.2⟩)⟩ (hL:=Weak.auto)
        ·
         have hge:i=12:=(by have:=of_decide_eq_false hb9;omega)
         subst hge;refine A4 ?_
         refine at_end0nD rfl (fun w hL=>by
 have ha:a2=true:=by
  rcases hA with h|⟨h,hk⟩
  ·exact h
  ·exact absurd (find_none_all h (Nat.le_refl _)) (hkind hk)
 subst ha
 exact⟨⟨q,hq,hs⟩,rfl,hL.pk [some 0,some 1]⟩)
       ·
        have h2:x.op≠2:=by simpa using hb7
        have hsw:swS x=[]:=by unfold swS;rw[if_neg h1,if_neg h4,if_neg h3,if_neg h5,if_neg h6,if_neg h2]
        have hk6:¬sw6 x.op:=fun h=>by unfold sw6 at h;omega
        refine A5 ?_;refine r_scall [] [] rfl rfl rfl c_syntax_functions trivial rfl (.inr fun _ b hb=>by rw[List.mem_singleton.1 hb]) (fun gf=>?_);refine A5 ?_;refine El (ι:={r:Nat×Bool×Bd // r.1≤12∧r.2.2.ok∧r.2.2.s=d.s++(swS x++fnL x (funT.take r.1))∧(r.2.1=true∨((funT.take r.1).find? (fun f=>decide ((f.2.1:Int)=x.op))=none∧¬sw6 x.op))}) (fun⟨⟨i,a2,q⟩,hi,hq,hs,hA⟩=>([(0,.pointer (some ⟨g,0,none⟩)),(4,.pointer (some ⟨g0,0,none⟩)),(117,slv (some gf) 0 12 12),(118,.int .i64 12),(119,.int .i64 (i:Nat))],[BB g a2 q,BF q,gB z.T false,GM m,XB g0 z,⟨some gf,114,tabC funT,36,true⟩],12-i)) ⟨(0,a,d),Nat.zero_le _,hd,by show d.s=_;rw[hsw];simp[fnL],.inr ⟨rfl,hk6⟩⟩ ?_ (hL:=(weak_pk [some 0,some 1,some 2,some 3,some 4,some 6]));rintro⟨⟨i,a2,q⟩,hi,hq,hs,hA⟩;(try dsimp only);dsimp only at hi hq hs hA;refine A6 ?_;refine at_cond rfl (fun hb9=>?_) (fun hb9=>?_)
        ·
         have hlt:i<12:=(by have:=of_decide_eq_true hb9;omega)
         obtain⟨o,ho⟩:∃o,funT[i]? =some o:=⟨funT[i]'(by show i<12;exact hlt),List.getElem?_eq_getElem _⟩
         have hst:=fnL_step x ho;have hle:=fnL_le x funT (i+1);refine A6 ?_;refine Ix 5 (i*3) ?_;refine r_load (v:= .agg #[.string (strU o.1),.int .i64 (o.2.1:Nat),.int .i64 (o.2.2:Nat)]) 5 (i*3) _ rfl rfl rfl rfl ti114 (tabC_get ho) rfl (by decide) rfl ?_;refine r_alloc [_,_,_] 3 (fun g=>[_,_,_,_,_,_,⟨some g,114,_,3,true⟩]) rfl rfl z114 rfl rfl (fun _=>rfl) (fun g1=>?_);refine So 6 0 [_,_,_,_,_,_,⟨some g1,114,_,3,true⟩] [_,_,_] ?_;refine A8 ?_;refine r_know 126 (.int .i64 x.op) rfl (by rw[z.inv.1]) ?_;refine A3 ?_;refine at_cond rfl (fun hb10=>?_) (fun hb10=>?_)
         ·
          have hm:(o.2.1:Int)=x.op:=by simpa using hb10
          rw[if_pos hm] at hst;have hjs:=congrArg List.length hst;refine at_regionM ?_;refine A3 ?_;refine r_addS (p:=o.1) (q:=[40]) rfl rfl rfl rfl rfl rfl rfl (by have h:=hb;simp only[List.length_append,List.length_cons,List.length_nil] at h hjs ⊢;omega) ?_;refine A2 ?_;refine Gm 2 [0,1] [2,3] (fun(d1:BdX (q.s++((o.1++[40])++joinC (txtLs x.args)++[41])))=>[BB g true d1.1,BF d1.1,_,_,_,_,_]) (c_list_step z m H hok hf hM (o.1++[40]) [41] g a2 q hq (by have h:=hb;simp only[hs,List.length_append,List.length_cons,List.length_nil] at h hjs ⊢;omega)) (fun⟨d3,hd3,e3⟩=>?_);refine A4 ?_;refine Ar (((i+1:Nat):Int)) ?_;refine A3 ?_;exact Nl ⟨(i+1,true,d3),hlt,hd3,by rw[e3,hs,hst];simp only[List.append_assoc],.inl rfl⟩ (hL:=Weak.auto)
         ·
          have hm:(o.2.1:Int)≠x.op:=by simpa using hb10
          rw[if_neg hm] at hst;have hjs:=congrArg List.length hst;refine A4 ?_;refine Ar (((i+1:Nat):Int)) ?_;refine A3 ?_;exact Nl ⟨(i+1,a2,q),hlt,hq,by rw[hs,hst,List.append_nil],hA.imp id (fun h=>⟨find_none_step h.1 ho (by simpa using hm),h.2⟩)⟩ (hL:=Weak.auto)
        ·
         have hge:i=12:=(by have:=of_decide_eq_false hb9;omega)
         subst hge;refine A4 ?_
         refine at_end0nD rfl (fun w hL=>by
 have ha:a2=true:=by
  rcases hA with h|⟨h,hk⟩
  ·exact h
  ·exact absurd (find_none_all h (Nat.le_refl _)) (hkind hk)
 subst ha
 exact⟨⟨q,hq,hs⟩,rfl,hL.pk [some 0,some 1]⟩)
theorem c_b_WriteByteD(g:Nat)(a:Bool)(d:Bd)(c:UInt8)(hd:d.ok)(hm:d.s.length+1≤17179869184):ECallD Tryz.prog 124 [BB g a d,BF d] [.pointer (some ⟨g,0,none⟩),.int .u8 (c.toNat:Nat)] (BdX (d.s++[c])) (fun _=> .nilIface) (fun x=>[BB g true x.1,BF x.1]):=by
 refine⟨by kernel_rfl,fun B w hD hL0=>?_⟩;obtain⟨hd1,hd2,hd3⟩:=hd;refine callsD_atB (args:=[.pointer (some ⟨g,0,none⟩),.int .u8 (c.toNat:Nat)]) Tryz.func124 rfl (Nat.le_of_ble_eq_true rfl) hL0 ?_;show At B ⟨17,[(0,.pointer (some ⟨g,0,none⟩)),(1,.int .u8 (c.toNat:Nat))],[BB g a d,BF d]⟩ _;refine A6 ?_;refine at_regionM ?_;refine A1 ?_;refine Gm 1 [0] [] (fun _=>[BB g true d,BF d]) (c_b_copyCheck g a d) (fun _=>?_);refine A10 ?_;refine r_buildSlice [(0,_)] (fun g=>[_,_,⟨some g,5,_,1,true⟩]) rfl rfl rfl (bs125_1) rfl (fun _=>rfl) (fun g0=>?_);refine q_append (b2o:=g0) (b:=BF d) (len:=d.s.length) (n2:=1) 1 2 (fun r=>[BB g true d,⟨some r.g,5,NB d.s++[.int .u8 (c.toNat:Nat)],r.n,true⟩,_]) u125 el5 rfl rfl rfl rfl rfl rfl rfl rfl rfl rfl rfl rfl (by rw[NB_length,Nat.mul_one]) hd1 (by rw[Nat.mul_one];exact hd2) rfl (fun v hv=>by rw[List.mem_singleton.1 hv];rfl) hm (fun r=>rfl) (fun r=>?_);refine A2 ?_;refine So 0 1 [⟨some g,127,_,2,true⟩,_,_] [_,_] ?_;refine A8 ?_;refine at_end1 rfl (res_tmp rfl) (fun w hL=>wb_fin r _ hL)
end Go.Proofs.YtfijbadahkmhbaaGreatDoor
namespace Go.Via
open Go Go.RowKit
noncomputable def inS(x:XT)(o:Bs8×Nat×Nat):Bs8:=
 if o.2.2=3 then sNot++txtAt x.args 0 3 else txtAt x.args 0 (if o.2.2=4 then 5 else o.2.2)++([32]++o.1++[32])++txtAt x.args 1 (o.2.2+1)
theorem txt_op{x:XT}{o:Bs8×Nat×Nat}(h:opsT.find? (fun f=>decide ((f.2.1:Int)=x.op))=some o)(lv:Nat):txt x lv=if o.2.2<lv then[40]++inS x o++[41] else inS x o:=by
 cases x with
 |mk op nm u l=>
  have hop:(XT.mk op nm u l).op=op:=rfl
  rw[hop] at h
  rw[txt,h]
  rfl
theorem op_args{x:XT}{o:Bs8×Nat×Nat}(hn:nodeE x=0)(h:opsT.find? (fun f=>decide ((f.2.1:Int)=x.op))=some o):(o.2.2=3→x.args.length=1)∧(o.2.2≠3→x.args.length=2):=by
 have hm:=List.mem_of_find?_eq_some h
 have hp:=List.find?_some h
 have he:(o.2.1:Int)=x.op:=by simpa using hp
 have hc:∀o∈opsT,cntL (o.2.1:Nat)=if o.2.2=3 then 1 else 2:=by decide
 have h1:=hc o hm
 rw[he] at h1
 unfold nodeE at hn
 split at hn
 ·cases hn
 split at hn
 ·cases hn
 rename_i h2
 have h3:((x.args.length:Nat):Int)=cntL x.op:=by
  by_cases e:((x.args.length:Nat):Int)=cntL x.op
  ·exact e
  ·exact absurd (.inl e) h2
 rw[h1] at h3
 refine⟨fun e=>?_,fun e=>?_⟩
 ·rw[if_pos e] at h3;omega
 ·rw[if_neg e] at h3;omega
theorem ops_small{o:Bs8×Nat×Nat}(h:o∈opsT):o.2.2≤7∧o.1.length≤6:=by
 have:∀o∈opsT,o.2.2≤7∧o.1.length≤6:=by decide
 exact this o h
theorem kind_ok{x:XT}(hn:nodeE x=0)(h:opsT.find? (fun f=>decide ((f.2.1:Int)=x.op))=none):¬sw6 x.op→funT.find? (fun f=>decide ((f.2.1:Int)=x.op))≠none:=by
 intro h6 hf
 unfold nodeE at hn
 split at hn
 ·cases hn
 rename_i h1
 have ho:∀f∈opsT,(f.2.1:Int)≠x.op:=fun f hm=>by have:=List.find?_eq_none.1 h f hm;simpa using this
 have e25:x.op≠25:=fun e=>ho ([110,111,116],25,3) (by decide) (by rw[e];rfl)
 refine h1 ?_
 unfold sw6 at h6
 unfold cntL
 rw[if_neg (by omega),if_neg e25,if_neg (by omega),hf]
 dsimp only
 rw[h]
 decide
end Go.Via
namespace Go.Proofs.YtfijbadahkmhbaaGreatDoor
open Go Go.RowKit Go.Via
theorem c_write_op{x:XT}(z:XR x)(m:Int)(H:∀y:XT,y.size<x.size→WriC m y)(hok:okX x)(hf:x.fit=true)(hM:x.size≤1000000000)(lv g:Nat)(hlv9:lv≤9)(a:Bool)(d:Bd)(hd:d.ok)(hop:opsT.find? (fun f=>decide ((f.2.1:Int)=x.op))≠none)(hb:d.s.length+(txt x lv).length≤17179869184):ECall Tryz.prog 96 [BB g a d,BF d,gB z.T false,GM m] [.pointer (some ⟨g,0,none⟩),z.v,.int .i64 (lv:Nat)] (BdX (d.s++txt x lv)) (fun _=> .tuple #[]) (fun d'=>[BB g true d'.1,BF d'.1]):=by
 refine⟨by kernel_rfl,fun B w hD hL0=>?_⟩;obtain⟨hfn,hfu,hfs⟩:=XT.fit_parts hf;have hks:=(okX_parts hok).2;have sNot_len:sNot.length=4:=rfl;obtain⟨hz1,hz2,hz3,hz4,hz5,hz6⟩:=z.inv;refine calls_atD (args:=[.pointer (some ⟨g,0,none⟩),z.v,.int .i64 (lv:Nat)]) Tryz.func96 rfl (Nat.le_of_ble_eq_true rfl) hL0 ?_;show At B ⟨136,[(0,.pointer (some ⟨g,0,none⟩)),(1,z.v),(2,.int .i64 (lv:Nat))],[BB g a d,BF d,gB z.T false,GM m]⟩ _;refine A2 ?_;refine Bo [_,_,_,_,_,_,_] 7 (fun g=>[_,_,_,_,⟨some g,30,_,7,true⟩]) (fun g0=>?_);refine A5 ?_;refine r_scall [] [] rfl rfl rfl c_syntax_operators trivial rfl (.inr fun _ b hb=>by rw[List.mem_singleton.1 hb]) (fun go=>?_);refine A5 ?_;refine El (ι:={i:Nat // i≤12∧(opsT.take i).find? (fun f=>decide ((f.2.1:Int)=x.op))=none}) (fun⟨i,hi,hI⟩=>([(0,.pointer (some ⟨g,0,none⟩)),(2,.int .i64 (lv:Nat)),(4,.pointer (some ⟨g0,0,none⟩)),(12,slv (some go) 0 12 12),(13,.int .i64 12),(14,.int .i64 (i:Nat))],[BB g a d,BF d,gB z.T false,GM m,XB g0 z,⟨some go,110,tabC opsT,36,true⟩],12-i)) ⟨0,Nat.zero_le _,rfl⟩ ?_ (hL:=Weak.auto);rintro⟨i,hi,hI⟩;(try dsimp only);refine A6 ?_;refine at_cond rfl (fun hb1=>?_) (fun hb1=>?_)
 ·
  have hlt:i<12:=(by have:=of_decide_eq_true hb1;omega)
  obtain⟨o,ho⟩:∃o,opsT[i]? =some o:=⟨opsT[i]'(by show i<12;exact hlt),List.getElem?_eq_getElem _⟩
  refine A6 ?_;refine Ix 5 (i*3) ?_;refine r_load (v:= .agg #[.string (strU o.1),.int .i64 (o.2.1:Nat),.int .i64 (o.2.2:Nat)]) 5 (i*3) _ rfl rfl rfl rfl ti110 (tabC_get ho) rfl (by decide) rfl ?_;refine r_alloc [_,_,_] 3 (fun g=>[_,_,_,_,_,_,⟨some g,110,_,3,true⟩]) rfl rfl z110 rfl rfl (fun _=>rfl) (fun g1=>?_);refine So 6 0 [_,_,_,_,_,_,⟨some g1,110,_,3,true⟩] [_,_,_] ?_;refine A9 ?_;refine r_know 21 (.int .i64 x.op) rfl (by rw[z.inv.1]) ?_;refine A3 ?_;refine at_cond rfl (fun hb2=>?_) (fun hb2=>?_)
  ·
   have hne:(o.2.1:Int)≠x.op:=by simpa using hb2
   refine A5 ?_;refine Ar (((i+1:Nat):Int)) ?_;refine A3 ?_;exact Nl ⟨i+1,hlt,find_none_step hI ho (by simpa using hne)⟩ (hL:=Weak.auto)
  ·
   have hm:(o.2.1:Int)=x.op:=by simpa using hb2
   have hfo:opsT.find? (fun f=>decide ((f.2.1:Int)=x.op))=some o:=find_some_at hI ho (by simpa using hm);obtain⟨hn1,hn2⟩:=op_args (okX_parts hok).1 hfo;obtain⟨hl7,htk⟩:=ops_small (List.mem_of_getElem? ho);refine A11 ?_;refine at_cond rfl (fun hb3=>?_) (fun hb3=>?_)
   ·
    have hlv:o.2.2<lv:=by have:=of_decide_eq_true hb3;omega
    have htx:txt x lv=[40]++inS x o++[41]:=by rw[txt_op hfo,if_pos hlv]
    refine A1 ?_;refine at_regionM ?_;refine A1 ?_;refine Gm 2 [0,1] [] (fun(d9:BdX (d.s++[40]))=>[BB g true d9.1,BF d9.1,_,_,_,_,_]) (c_b_WriteByte g a d 40 hd (by have h:=hb;simp only[htx,List.length_append,List.length_cons,List.length_nil] at h ⊢;omega)) (fun⟨d0,hd0,e0⟩=>?_);refine A2 ?_;refine at_regionDef [.pointer (some ⟨g,0,none⟩),.int .u8 ((41:UInt8).toNat:Nat)] (l:=[⟨_,_,_,_,_,_⟩]) rfl ?_;refine A1 ?_;refine run_nil ⟨rfl,?_⟩;refine A2 ?_;refine at_drawnI [2000000] mixed (by kernel_rfl) (by kernel_rfl) ?_;refine A4 ?_;refine Ar (((o.2.2+1:Nat):Int)) ?_;refine A18 ?_;refine at_cond rfl (fun hb4=>?_) (fun hb4=>?_)
    ·
     have h3:o.2.2=3:=by have hh:=hb4;simp only[beq_iff_eq,beq_eq_false_iff_ne,ne_eq] at hh ⊢;omega
     have hna1:=hn1 h3
     obtain⟨y,hy⟩:∃y,x.args[0]? =some y:=⟨x.args[0]'(by omega),List.getElem?_eq_getElem _⟩
     obtain⟨ga,oa,ca,u,hza,hma,hra,hTa,hna⟩:=z.arg hy
     have hin:inS x o=sNot++txt y 3:=by unfold inS;rw[if_pos h3,txtAt_get _ hy]
     refine A1 ?_;refine at_regionM ?_;refine A1 ?_;refine Gm 2 [0,1] [] (fun d1=>[BB g true d1.1,BF d1.1,_,_,_,_,_]) (c_b_WriteString g true d0 sNot hd0 (by have h:=hb;simp only[htx,hin,e0,List.length_append,List.length_cons,List.length_nil,sNot_len] at h ⊢;omega)) (fun⟨d1,hd1,e1⟩=>?_);refine A3 ?_;refine at_regionM ?_;refine A3 ?_;refine r_indexAddrG (gg:=ga) (len:=z.n) (cap:=z.cap) (oa+0*7) u28 ti30 rfl rfl (congrArg (fun a=>some (Value.slice a z.n z.cap)) hza) rfl (by omega) (by omega) (by show oa+Int.toNat 0*7=_;rfl) ?_;refine r_loadT (v:=u.v) 2 (oa+0*7) u.cs rfl rfl rfl z.hT hma hna rfl ti30 hra rfl rfl rfl ?_;refine Gm 2 [0,1] [2,3] (fun(d9:BdX (d1.s++txt y (3)))=>[BB g true d9.1,BF d9.1,_,_,_,_,_]) (by have h:=H y (XT.arg_lt hy) u (3) g true d1 hd1 (okXs_get hks hy) (XT.fits_get hfs hy) (Nat.le_trans (Nat.le_of_lt (XT.arg_lt hy)) hM) (by omega) (by have h:=hb;simp only[htx,hin,e0,e1,List.length_append,List.length_cons,List.length_nil,sNot_len] at h ⊢;omega);rw[hTa] at h;exact h) (fun⟨d2,hd2,e2⟩=>?_);refine A10 ?_;refine at_leave1 (vs:=[.pointer (some ⟨g,0,none⟩),.int .u8 ((41:UInt8).toNat:Nat)]) rfl (by kernel_rfl) (fun w hL=>((c_b_WriteByteD g true d2 41 hd2 (by have h:=hb;simp only[htx,hin,e0,e2,e1,List.length_append,List.length_cons,List.length_nil,sNot_len] at h ⊢;omega)).at (A:=[BB g true d2,BF d2]) (C:=[]) [0,1] [] (by decide) rfl rfl trivial rfl rfl (fun _=>rfl) (fun _=>allOwn rfl) (hL.putD B.D)).mono (fun e u' w' ⟨hu,x1,he,hx⟩=>⟨hu,_,he,⟨⟨x1.1,x1.2.1,by rw[x1.2.2];rw[e2,e1,e0,htx,hin];simp only[List.append_assoc]⟩,rfl,hx.pk [some 0,some 1]⟩⟩)) (by show _::B.D=_;rw[hD])
    ·
     have h3:o.2.2≠3:=by have hh:=hb4;simp only[beq_iff_eq,beq_eq_false_iff_ne,ne_eq] at hh ⊢;omega
     have hna1:=hn2 h3
     obtain⟨y,hy⟩:∃y,x.args[0]? =some y:=⟨x.args[0]'(by omega),List.getElem?_eq_getElem _⟩
     obtain⟨ga,oa,ca,u,hza,hma,hra,hTa,hna⟩:=z.arg hy
     obtain⟨y2,hy2⟩:∃y,x.args[1]? =some y:=⟨x.args[1]'(by omega),List.getElem?_eq_getElem _⟩
     obtain⟨ga2,oa2,ca2,u2,hza2,hma2,hra2,hTa2,hna2⟩:=z.arg hy2;refine A6 ?_;refine at_cond rfl (fun hb5=>?_) (fun hb5=>?_)
     ·
      have h4:o.2.2=4:=by have hh:=hb5;simp only[beq_iff_eq,beq_eq_false_iff_ne,ne_eq] at hh ⊢;omega
      have h45:(if o.2.2=4 then 5 else o.2.2)=o.2.2+1:=by rw[if_pos h4];omega
      have hin:inS x o=txt y (o.2.2+1)++([32]++o.1++[32])++txt y2 (o.2.2+1):=by unfold inS;rw[if_neg h3,h45,txtAt_get _ hy,txtAt_get _ hy2]
      refine A2 ?_;refine Ar (((o.2.2+1:Nat):Int)) ?_;refine A5 ?_;refine at_regionM ?_;refine A3 ?_;refine r_indexAddrG (gg:=ga) (len:=z.n) (cap:=z.cap) (oa+0*7) u28 ti30 rfl rfl (congrArg (fun a=>some (Value.slice a z.n z.cap)) hza) rfl (by omega) (by omega) (by show oa+Int.toNat 0*7=_;rfl) ?_;refine r_loadT (v:=u.v) 2 (oa+0*7) u.cs rfl rfl rfl z.hT hma hna rfl ti30 hra rfl rfl rfl ?_;refine A1 ?_;refine Gm 2 [0,1] [2,3] (fun(d9:BdX (d0.s++txt y (o.2.2+1)))=>[BB g true d9.1,BF d9.1,_,_,_,_,_]) (by have h:=H y (XT.arg_lt hy) u (o.2.2+1) g true d0 hd0 (okXs_get hks hy) (XT.fits_get hfs hy) (Nat.le_trans (Nat.le_of_lt (XT.arg_lt hy)) hM) (by omega) (by have h:=hb;simp only[htx,hin,e0,List.length_append,List.length_cons,List.length_nil,sNot_len] at h ⊢;omega);rw[hTa] at h;exact h) (fun⟨d1,hd1,e1⟩=>?_);refine A3 ?_;refine at_regionM ?_;refine A3 ?_;refine r_addS (p:=[32]) (q:=o.1) rfl rfl rfl rfl rfl rfl rfl (by show 1+_≤_;omega) ?_;refine r_addS (p:=[32]++o.1) (q:=[32]) rfl rfl rfl rfl rfl rfl rfl (by rw[List.length_append];show 1+_+1≤_;omega) ?_;refine Gm 2 [0,1] [] (fun d1=>[BB g true d1.1,BF d1.1,_,_,_,_,_]) (c_b_WriteString g true d1 ([32]++o.1++[32]) hd1 (by have h:=hb;simp only[htx,hin,e0,e1,List.length_append,List.length_cons,List.length_nil,sNot_len] at h ⊢;omega)) (fun⟨d2,hd2,e2⟩=>?_);refine A3 ?_;refine at_regionM ?_;refine A3 ?_;refine r_indexAddrG (gg:=ga2) (len:=z.n) (cap:=z.cap) (oa2+1*7) u28 ti30 rfl rfl (congrArg (fun a=>some (Value.slice a z.n z.cap)) hza2) rfl (by omega) (by omega) (by show oa2+Int.toNat 1*7=_;rfl) ?_;refine r_loadT (v:=u2.v) 2 (oa2+1*7) u2.cs rfl rfl rfl z.hT hma2 hna2 rfl ti30 hra2 rfl rfl rfl ?_;refine A1 ?_;refine Gm 2 [0,1] [2,3] (fun(d9:BdX (d2.s++txt y2 (o.2.2+1)))=>[BB g true d9.1,BF d9.1,_,_,_,_,_]) (by have h:=H y2 (XT.arg_lt hy2) u2 (o.2.2+1) g true d2 hd2 (okXs_get hks hy2) (XT.fits_get hfs hy2) (Nat.le_trans (Nat.le_of_lt (XT.arg_lt hy2)) hM) (by omega) (by have h:=hb;simp only[htx,hin,e0,e1,e2,List.length_append,List.length_cons,List.length_nil,sNot_len] at h ⊢;omega);rw[hTa2] at h;exact h) (fun⟨d3,hd3,e3⟩=>?_);refine A8 ?_;refine at_leave1 (vs:=[.pointer (some ⟨g,0,none⟩),.int .u8 ((41:UInt8).toNat:Nat)]) rfl (by kernel_rfl) (fun w hL=>((c_b_WriteByteD g true d3 41 hd3 (by have h:=hb;simp only[htx,hin,e0,e3,e2,e1,List.length_append,List.length_cons,List.length_nil,sNot_len] at h ⊢;omega)).at (A:=[BB g true d3,BF d3]) (C:=[]) [0,1] [] (by decide) rfl rfl trivial rfl rfl (fun _=>rfl) (fun _=>allOwn rfl) (hL.putD B.D)).mono (fun e u' w' ⟨hu,x1,he,hx⟩=>⟨hu,_,he,⟨⟨x1.1,x1.2.1,by rw[x1.2.2];rw[e3,e2,e1,e0,htx,hin];simp only[List.append_assoc]⟩,rfl,hx.pk [some 0,some 1]⟩⟩)) (by show _::B.D=_;rw[hD])
     ·
      have h4:o.2.2≠4:=by have hh:=hb5;simp only[beq_iff_eq,beq_eq_false_iff_ne,ne_eq] at hh ⊢;omega
      have h45:(if o.2.2=4 then 5 else o.2.2)=o.2.2:=by rw[if_neg h4]
      have hin:inS x o=txt y (o.2.2)++([32]++o.1++[32])++txt y2 (o.2.2+1):=by unfold inS;rw[if_neg h3,h45,txtAt_get _ hy,txtAt_get _ hy2]
      refine A4 ?_;refine at_regionM ?_;refine A3 ?_;refine r_indexAddrG (gg:=ga) (len:=z.n) (cap:=z.cap) (oa+0*7) u28 ti30 rfl rfl (congrArg (fun a=>some (Value.slice a z.n z.cap)) hza) rfl (by omega) (by omega) (by show oa+Int.toNat 0*7=_;rfl) ?_;refine r_loadT (v:=u.v) 2 (oa+0*7) u.cs rfl rfl rfl z.hT hma hna rfl ti30 hra rfl rfl rfl ?_;refine A1 ?_;refine Gm 2 [0,1] [2,3] (fun(d9:BdX (d0.s++txt y (o.2.2)))=>[BB g true d9.1,BF d9.1,_,_,_,_,_]) (by have h:=H y (XT.arg_lt hy) u (o.2.2) g true d0 hd0 (okXs_get hks hy) (XT.fits_get hfs hy) (Nat.le_trans (Nat.le_of_lt (XT.arg_lt hy)) hM) (by omega) (by have h:=hb;simp only[htx,hin,e0,List.length_append,List.length_cons,List.length_nil,sNot_len] at h ⊢;omega);rw[hTa] at h;exact h) (fun⟨d1,hd1,e1⟩=>?_);refine A3 ?_;refine at_regionM ?_;refine A3 ?_;refine r_addS (p:=[32]) (q:=o.1) rfl rfl rfl rfl rfl rfl rfl (by show 1+_≤_;omega) ?_;refine r_addS (p:=[32]++o.1) (q:=[32]) rfl rfl rfl rfl rfl rfl rfl (by rw[List.length_append];show 1+_+1≤_;omega) ?_;refine Gm 2 [0,1] [] (fun d1=>[BB g true d1.1,BF d1.1,_,_,_,_,_]) (c_b_WriteString g true d1 ([32]++o.1++[32]) hd1 (by have h:=hb;simp only[htx,hin,e0,e1,List.length_append,List.length_cons,List.length_nil,sNot_len] at h ⊢;omega)) (fun⟨d2,hd2,e2⟩=>?_);refine A3 ?_;refine at_regionM ?_;refine A3 ?_;refine r_indexAddrG (gg:=ga2) (len:=z.n) (cap:=z.cap) (oa2+1*7) u28 ti30 rfl rfl (congrArg (fun a=>some (Value.slice a z.n z.cap)) hza2) rfl (by omega) (by omega) (by show oa2+Int.toNat 1*7=_;rfl) ?_;refine r_loadT (v:=u2.v) 2 (oa2+1*7) u2.cs rfl rfl rfl z.hT hma2 hna2 rfl ti30 hra2 rfl rfl rfl ?_;refine A1 ?_;refine Gm 2 [0,1] [2,3] (fun(d9:BdX (d2.s++txt y2 (o.2.2+1)))=>[BB g true d9.1,BF d9.1,_,_,_,_,_]) (by have h:=H y2 (XT.arg_lt hy2) u2 (o.2.2+1) g true d2 hd2 (okXs_get hks hy2) (XT.fits_get hfs hy2) (Nat.le_trans (Nat.le_of_lt (XT.arg_lt hy2)) hM) (by omega) (by have h:=hb;simp only[htx,hin,e0,e1,e2,List.length_append,List.length_cons,List.length_nil,sNot_len] at h ⊢;omega);rw[hTa2] at h;exact h) (fun⟨d3,hd3,e3⟩=>?_);refine A8 ?_;refine at_leave1 (vs:=[.pointer (some ⟨g,0,none⟩),.int .u8 ((41:UInt8).toNat:Nat)]) rfl (by kernel_rfl) (fun w hL=>((c_b_WriteByteD g true d3 41 hd3 (by have h:=hb;simp only[htx,hin,e0,e3,e2,e1,List.length_append,List.length_cons,List.length_nil,sNot_len] at h ⊢;omega)).at (A:=[BB g true d3,BF d3]) (C:=[]) [0,1] [] (by decide) rfl rfl trivial rfl rfl (fun _=>rfl) (fun _=>allOwn rfl) (hL.putD B.D)).mono (fun e u' w' ⟨hu,x1,he,hx⟩=>⟨hu,_,he,⟨⟨x1.1,x1.2.1,by rw[x1.2.2];rw[e3,e2,e1,e0,htx,hin];simp only[List.append_assoc]⟩,rfl,hx.pk [some 0,some 1]⟩⟩)) (by show _::B.D=_;rw[hD])
   ·
    have hlv:¬o.2.2<lv:=by have:=of_decide_eq_false hb3;omega
    have htx:txt x lv=inS x o:=by rw[txt_op hfo,if_neg hlv]
    refine A3 ?_;refine at_drawnI [2000000] mixed (by kernel_rfl) (by kernel_rfl) ?_;refine A4 ?_;refine Ar (((o.2.2+1:Nat):Int)) ?_;refine A18 ?_;refine at_cond rfl (fun hb4=>?_) (fun hb4=>?_)
    ·
     have h3:o.2.2=3:=by have hh:=hb4;simp only[beq_iff_eq,beq_eq_false_iff_ne,ne_eq] at hh ⊢;omega
     have hna1:=hn1 h3
     obtain⟨y,hy⟩:∃y,x.args[0]? =some y:=⟨x.args[0]'(by omega),List.getElem?_eq_getElem _⟩
     obtain⟨ga,oa,ca,u,hza,hma,hra,hTa,hna⟩:=z.arg hy
     have hin:inS x o=sNot++txt y 3:=by unfold inS;rw[if_pos h3,txtAt_get _ hy]
     refine A1 ?_;refine at_regionM ?_;refine A1 ?_;refine Gm 2 [0,1] [] (fun d1=>[BB g true d1.1,BF d1.1,_,_,_,_,_]) (c_b_WriteString g a d sNot hd (by have h:=hb;simp only[htx,hin,List.length_append,List.length_cons,List.length_nil,sNot_len] at h ⊢;omega)) (fun⟨d1,hd1,e1⟩=>?_);refine A3 ?_;refine at_regionM ?_;refine A3 ?_;refine r_indexAddrG (gg:=ga) (len:=z.n) (cap:=z.cap) (oa+0*7) u28 ti30 rfl rfl (congrArg (fun a=>some (Value.slice a z.n z.cap)) hza) rfl (by omega) (by omega) (by show oa+Int.toNat 0*7=_;rfl) ?_;refine r_loadT (v:=u.v) 2 (oa+0*7) u.cs rfl rfl rfl z.hT hma hna rfl ti30 hra rfl rfl rfl ?_;refine Gm 2 [0,1] [2,3] (fun(d9:BdX (d1.s++txt y (3)))=>[BB g true d9.1,BF d9.1,_,_,_,_,_]) (by have h:=H y (XT.arg_lt hy) u (3) g true d1 hd1 (okXs_get hks hy) (XT.fits_get hfs hy) (Nat.le_trans (Nat.le_of_lt (XT.arg_lt hy)) hM) (by omega) (by have h:=hb;simp only[htx,hin,e1,List.length_append,List.length_cons,List.length_nil,sNot_len] at h ⊢;omega);rw[hTa] at h;exact h) (fun⟨d2,hd2,e2⟩=>?_);refine A10 ?_;refine at_end0D rfl (fun w hL=>⟨⟨d2,hd2,by rw[e2,e1,htx,hin];simp only[List.append_assoc]⟩,rfl,hL.pk [some 0,some 1]⟩)
    ·
     have h3:o.2.2≠3:=by have hh:=hb4;simp only[beq_iff_eq,beq_eq_false_iff_ne,ne_eq] at hh ⊢;omega
     have hna1:=hn2 h3
     obtain⟨y,hy⟩:∃y,x.args[0]? =some y:=⟨x.args[0]'(by omega),List.getElem?_eq_getElem _⟩
     obtain⟨ga,oa,ca,u,hza,hma,hra,hTa,hna⟩:=z.arg hy
     obtain⟨y2,hy2⟩:∃y,x.args[1]? =some y:=⟨x.args[1]'(by omega),List.getElem?_eq_getElem _⟩
     obtain⟨ga2,oa2,ca2,u2,hza2,hma2,hra2,hTa2,hna2⟩:=z.arg hy2;refine A6 ?_;refine at_cond rfl (fun hb5=>?_) (fun hb5=>?_)
     ·
      have h4:o.2.2=4:=by have hh:=hb5;simp only[beq_iff_eq,beq_eq_false_iff_ne,ne_eq] at hh ⊢;omega
      have h45:(if o.2.2=4 then 5 else o.2.2)=o.2.2+1:=by rw[if_pos h4];omega
      have hin:inS x o=txt y (o.2.2+1)++([32]++o.1++[32])++txt y2 (o.2.2+1):=by unfold inS;rw[if_neg h3,h45,txtAt_get _ hy,txtAt_get _ hy2]
      refine A2 ?_;refine Ar (((o.2.2+1:Nat):Int)) ?_;refine A5 ?_;refine at_regionM ?_;refine A3 ?_;refine r_indexAddrG (gg:=ga) (len:=z.n) (cap:=z.cap) (oa+0*7) u28 ti30 rfl rfl (congrArg (fun a=>some (Value.slice a z.n z.cap)) hza) rfl (by omega) (by omega) (by show oa+Int.toNat 0*7=_;rfl) ?_;refine r_loadT (v:=u.v) 2 (oa+0*7) u.cs rfl rfl rfl z.hT hma hna rfl ti30 hra rfl rfl rfl ?_;refine A1 ?_;refine Gm 2 [0,1] [2,3] (fun(d9:BdX (d.s++txt y (o.2.2+1)))=>[BB g true d9.1,BF d9.1,_,_,_,_,_]) (by have h:=H y (XT.arg_lt hy) u (o.2.2+1) g a d hd (okXs_get hks hy) (XT.fits_get hfs hy) (Nat.le_trans (Nat.le_of_lt (XT.arg_lt hy)) hM) (by omega) (by have h:=hb;simp only[htx,hin,List.length_append,List.length_cons,List.length_nil,sNot_len] at h ⊢;omega);rw[hTa] at h;exact h) (fun⟨d1,hd1,e1⟩=>?_);refine A3 ?_;refine at_regionM ?_;refine A3 ?_;refine r_addS (p:=[32]) (q:=o.1) rfl rfl rfl rfl rfl rfl rfl (by show 1+_≤_;omega) ?_;refine r_addS (p:=[32]++o.1) (q:=[32]) rfl rfl rfl rfl rfl rfl rfl (by rw[List.length_append];show 1+_+1≤_;omega) ?_;refine Gm 2 [0,1] [] (fun d1=>[BB g true d1.1,BF d1.1,_,_,_,_,_]) (c_b_WriteString g true d1 ([32]++o.1++[32]) hd1 (by have h:=hb;simp only[htx,hin,e1,List.length_append,List.length_cons,List.length_nil,sNot_len] at h ⊢;omega)) (fun⟨d2,hd2,e2⟩=>?_);refine A3 ?_;refine at_regionM ?_;refine A3 ?_;refine r_indexAddrG (gg:=ga2) (len:=z.n) (cap:=z.cap) (oa2+1*7) u28 ti30 rfl rfl (congrArg (fun a=>some (Value.slice a z.n z.cap)) hza2) rfl (by omega) (by omega) (by show oa2+Int.toNat 1*7=_;rfl) ?_;refine r_loadT (v:=u2.v) 2 (oa2+1*7) u2.cs rfl rfl rfl z.hT hma2 hna2 rfl ti30 hra2 rfl rfl rfl ?_;refine A1 ?_;refine Gm 2 [0,1] [2,3] (fun(d9:BdX (d2.s++txt y2 (o.2.2+1)))=>[BB g true d9.1,BF d9.1,_,_,_,_,_]) (by have h:=H y2 (XT.arg_lt hy2) u2 (o.2.2+1) g true d2 hd2 (okXs_get hks hy2) (XT.fits_get hfs hy2) (Nat.le_trans (Nat.le_of_lt (XT.arg_lt hy2)) hM) (by omega) (by have h:=hb;simp only[htx,hin,e1,e2,List.length_append,List.length_cons,List.length_nil,sNot_len] at h ⊢;omega);rw[hTa2] at h;exact h) (fun⟨d3,hd3,e3⟩=>?_);refine A8 ?_;refine at_end0D rfl (fun w hL=>⟨⟨d3,hd3,by rw[e3,e2,e1,htx,hin];simp only[List.append_assoc]⟩,rfl,hL.pk [some 0,some 1]⟩)
     ·
      have h4:o.2.2≠4:=by have hh:=hb5;simp only[beq_iff_eq,beq_eq_false_iff_ne,ne_eq] at hh ⊢;omega
      have h45:(if o.2.2=4 then 5 else o.2.2)=o.2.2:=by rw[if_neg h4]
      have hin:inS x o=txt y (o.2.2)++([32]++o.1++[32])++txt y2 (o.2.2+1):=by unfold inS;rw[if_neg h3,h45,txtAt_get _ hy,txtAt_get _ hy2]
      refine A4 ?_;refine at_regionM ?_;refine A3 ?_;refine r_indexAddrG (gg:=ga) (len:=z.n) (cap:=z.cap) (oa+0*7) u28 ti30 rfl rfl (congrArg (fun a=>some (Value.slice a z.n z.cap)) hza) rfl (by omega) (by omega) (by show oa+Int.toNat 0*7=_;rfl) ?_;refine r_loadT (v:=u.v) 2 (oa+0*7) u.cs rfl rfl rfl z.hT hma hna rfl ti30 hra rfl rfl rfl ?_;refine A1 ?_;refine Gm 2 [0,1] [2,3] (fun(d9:BdX (d.s++txt y (o.2.2)))=>[BB g true d9.1,BF d9.1,_,_,_,_,_]) (by have h:=H y (XT.arg_lt hy) u (o.2.2) g a d hd (okXs_get hks hy) (XT.fits_get hfs hy) (Nat.le_trans (Nat.le_of_lt (XT.arg_lt hy)) hM) (by omega) (by have h:=hb;simp only[htx,hin,List.length_append,List.length_cons,List.length_nil,sNot_len] at h ⊢;omega);rw[hTa] at h;exact h) (fun⟨d1,hd1,e1⟩=>?_);refine A3 ?_;refine at_regionM ?_;refine A3 ?_;refine r_addS (p:=[32]) (q:=o.1) rfl rfl rfl rfl rfl rfl rfl (by show 1+_≤_;omega) ?_;refine r_addS (p:=[32]++o.1) (q:=[32]) rfl rfl rfl rfl rfl rfl rfl (by rw[List.length_append];show 1+_+1≤_;omega) ?_;refine Gm 2 [0,1] [] (fun d1=>[BB g true d1.1,BF d1.1,_,_,_,_,_]) (c_b_WriteString g true d1 ([32]++o.1++[32]) hd1 (by have h:=hb;simp only[htx,hin,e1,List.length_append,List.length_cons,List.length_nil,sNot_len] at h ⊢;omega)) (fun⟨d2,hd2,e2⟩=>?_);refine A3 ?_;refine at_regionM ?_;refine A3 ?_;refine r_indexAddrG (gg:=ga2) (len:=z.n) (cap:=z.cap) (oa2+1*7) u28 ti30 rfl rfl (congrArg (fun a=>some (Value.slice a z.n z.cap)) hza2) rfl (by omega) (by omega) (by show oa2+Int.toNat 1*7=_;rfl) ?_;refine r_loadT (v:=u2.v) 2 (oa2+1*7) u2.cs rfl rfl rfl z.hT hma2 hna2 rfl ti30 hra2 rfl rfl rfl ?_;refine A1 ?_;refine Gm 2 [0,1] [2,3] (fun(d9:BdX (d2.s++txt y2 (o.2.2+1)))=>[BB g true d9.1,BF d9.1,_,_,_,_,_]) (by have h:=H y2 (XT.arg_lt hy2) u2 (o.2.2+1) g true d2 hd2 (okXs_get hks hy2) (XT.fits_get hfs hy2) (Nat.le_trans (Nat.le_of_lt (XT.arg_lt hy2)) hM) (by omega) (by have h:=hb;simp only[htx,hin,e1,e2,List.length_append,List.length_cons,List.length_nil,sNot_len] at h ⊢;omega);rw[hTa2] at h;exact h) (fun⟨d3,hd3,e3⟩=>?_);refine A8 ?_;refine at_end0D rfl (fun w hL=>⟨⟨d3,hd3,by rw[e3,e2,e1,htx,hin];simp only[List.append_assoc]⟩,rfl,hL.pk [some 0,some 1]⟩)
 ·exact absurd (find_none_all hI (by have:=of_decide_eq_false hb1;show 12≤i;omega)) hop
theorem c_write(m:Int)(x:XT):WriC m x:=by
 suffices h:∀k:Nat,∀x:XT,x.size<k→WriC m x from h _ x (Nat.lt_succ_self _)
 intro k
 induction k with
 |zero=>intro x h;omega
 |succ k ih=>
  intro x hx z lv g a d hd hok hf hM hlv hb
  have H:∀y:XT,y.size<x.size→WriC m y:=fun y hy=>ih y (by omega)
  by_cases hop:opsT.find? (fun f=>decide ((f.2.1:Int)=x.op))=none
  ·rw[txt_leaf hop lv] at hb ⊢
   exact c_write_leaf z m H hok hf hM lv g a d hd hop (kind_ok (okX_parts hok).1 hop) hb
  ·exact c_write_op z m H hok hf hM lv g hlv a d hd hop hb
def prT(t:Bs8):Bs8:=if 4096<t.length then[] else t
def prC(t:Bs8):Int:=if 4096<t.length then 28 else 0
abbrev prV(t:Bs8):Value:= .tuple #[.string (strU (prT t)),.int .i64 (prC t)]
theorem c_printed{x:XT}(z:XR x)(m:Int)(hok:okX x)(hf:x.fit=true)(hM:x.size≤1000000000)(hs:Bs8)(hb:hs.length+(txt x 1).length≤17179869184):ECall Tryz.prog 59 [gB z.T false,GM m] [.string (strU hs),z.v] Unit (fun _=>prV (hs++txt x 1)) (fun _=>[]):=by
 refine⟨by kernel_rfl,fun B w hD hL0=>?_⟩;refine cB2 14 Tryz.func59 hL0 ?_;refine A2 ?_;refine Bo [_,_,_,_,_,_,_] 7 (fun g=>[_,_,⟨some g,30,_,7,true⟩]) (fun g0=>?_);refine A6 ?_;refine r_alloc [_,_] 2 (fun g=>[_,_,_,⟨some g,127,_,2,true⟩]) rfl rfl z127 rfl rfl (fun _=>rfl) (fun g1=>?_);refine A3 ?_;refine at_weakL (L':=[_,_,_,BB g1 false bd0,BF bd0]) (Weak.nilB _ (by decide)) ?_;refine at_regionM ?_;refine A1 ?_;refine r_gcallM (A:=[BB g1 false bd0,BF bd0]) (C:=[]) [.pointer (some ⟨g1,0,none⟩),.string (strU hs)] [3,4] [] (fun(d9:BdX (bd0.s++hs))=>[_,_,_,BB g1 true d9.1,BF d9.1]) rfl rfl rfl rfl (c_b_WriteString g1 false bd0 hs bd0_ok (by show 0+_≤_;omega)) (by decide) rfl rfl trivial rfl rfl (fun _=>rfl) (fun _=>allOwn rfl) (fun _=>rfl) (fun⟨d1,hd1,e1⟩=>?_);refine A3 ?_;refine at_regionM ?_;refine Ld 2 0 [_,_,_,_,_,_,_] ti30 ?_;refine Kr 9 (z.v) ?_;refine r_gcallM (A:=[BB g1 true d1,BF d1]) (C:=[gB z.T false,GM m]) [.pointer (some ⟨g1,0,none⟩),z.v,.int .i64 (1:Nat)] [3,4] [0,1] (fun(d9:BdX (d1.s++txt x 1))=>[_,_,_,BB g1 true d9.1,BF d9.1]) rfl rfl rfl rfl (c_write m x z 1 g1 true d1 hd1 hok hf hM (by decide) (by rw[e1,List.length_append];show 0+_+_≤_;omega)) (by decide) rfl rfl ⟨⟨_,rfl,Blk.le_refl _⟩,⟨_,rfl,Blk.le_refl _⟩,trivial⟩ rfl rfl (fun _=>rfl) (fun _=>allOwn rfl) (fun _=>rfl) (fun⟨d2,hd2,e2⟩=>?_);refine A4 ?_
 have e3:d2.s=hs++txt x 1:=(by rw[e2,e1];rfl);refine at_regionM ?_;refine r_scall0 [.pointer (some ⟨g1,0,none⟩)] [3] rfl rfl rfl (c_b_Len g1 true d2) ⟨⟨_,rfl,le_share⟩,trivial⟩ rfl ?_;refine A3 ?_;refine Cd ?_ ?_<;>intro hb0
 ·have hl:4096<(hs++txt x 1).length:=by rw[←e3];have:=of_decide_eq_true hb0;omega
  refine A8 ?_;refine at_end2 rfl (res_tmp rfl) (res_tmp rfl) (fun w hL=>⟨(),by unfold prV prT prC;rw[if_pos hl,if_pos hl];rfl,hL.pk []⟩)
 ·have hl:¬4096<(hs++txt x 1).length:=by rw[←e3];have:=of_decide_eq_false hb0;omega
  refine A3 ?_;refine at_regionM ?_;refine Gm 2 [3,4] [] (fun _=>[_,_,_,BB g1 true d2,BZ d2]) (c_b_String g1 true d2 hd2 (by rw[e3,List.length_append];omega)) (fun _=>?_);refine A5 ?_;refine at_end2 rfl (res_tmp rfl) (res_tmp rfl) (fun w hL=>⟨(),by unfold prV prT prC;rw[if_neg hl,if_neg hl,←e3],hL.pk []⟩)
theorem c_Check(kind:Int)(hk: -9223372036854775808≤kind∧kind≤9223372036854775807)(b:Option Nat)(e:Nat)(pre:List Value)(l:List Bs8)(n cap:Nat)(hll:l.length≤1000000)(hvl:∀v∈l,v.length≤1000000){x:XT}(z:XR x)(hf:x.fit=true)(hM:x.size≤1000000):ECall Tryz.prog 29 [VBk b e pre l n,gB z.T false] [QV kind b pre l cap z] Unit (fun _=> .int .i64 (chkQ kind l x:Nat)) (fun _=>[]):=by
 refine⟨by kernel_rfl,fun B w hD hL0=>?_⟩
 have hvx:(varsU x).length≤1000000:=by
  have h1:=compact_le (sortL (varsL x));rw[sortL_len] at h1;exact Nat.le_trans h1 (Nat.le_trans (varsL_len x) hM)
 refine cB1 71 Tryz.func29 hL0 ?_;refine A2 ?_;refine Bo [_,_,_,_,_,_,_,_,_] 9 (fun g=>[_,_,⟨some g,39,_,9,true⟩]) (fun g0=>?_);refine A11 ?_;refine Rs 12 ?_ ?_<;>intro hb0
 ·have k1:kind<1:=of_decide_eq_true hb0;refine A16 ?_;refine at_end1 rfl (res_tmp rfl) (fun w hL=>⟨(),eI (by unfold chkQ;rw[if_pos (.inl k1)]),hL.pk []⟩)
 ·have k1:¬kind<1:=of_decide_eq_false hb0;refine A7 ?_;refine Cd ?_ ?_<;>intro hb1
  ·have k3:3<kind:=of_decide_eq_true hb1;refine A8 ?_;refine at_end1 rfl (res_tmp rfl) (fun w hL=>⟨(),eI (by unfold chkQ;rw[if_pos (.inr k3)]),hL.pk []⟩)
  ·have k3:¬3<kind:=of_decide_eq_false hb1;refine A7 ?_;refine r_arith (r:=kind-1) rfl rfl rfl rfl (congrArg some (by rw[IntKind.wrap_i64];omega)) ?_;refine A4 ?_;refine Cd ?_ ?_<;>intro hb2
   ·have kl:((l.length:Nat):Int)≠kind-1:=by simpa using hb2
    refine A8 ?_;refine at_end1 rfl (res_tmp rfl) (fun w hL=>⟨(),eI (by unfold chkQ;rw[if_neg (fun h=>h.elim k1 k3),if_pos kl]),hL.pk []⟩)
   ·have kl:((l.length:Nat):Int)=kind-1:=by simpa using hb2
    refine A13 ?_;refine El (ι:={i:Nat // i≤l.length∧(l.take i).all nameL=true}) (fun⟨i,hi,hI⟩=>([(1,.pointer (some ⟨g0,0,none⟩)),(26,slv b pre.length l.length cap),(27,.int .i64 (l.length:Nat)),(28,.int .i64 (i:Nat))],[VBk b e pre l n,gB z.T false,QBx g0 kind b pre l cap z],l.length-i)) ⟨0,Nat.zero_le _,rfl⟩ ?_;rintro⟨i,hi,hI⟩;(try dsimp only);refine A6 ?_;refine Cd ?_ ?_<;>intro hb4
    ·have hlt:i<l.length:=by have:=of_decide_eq_true hb4;omega
     obtain⟨v,hv⟩:∃v,l[i]? =some v:=⟨l[i],List.getElem?_eq_getElem hlt⟩;refine A6 ?_;refine r_indexAddr 0 (pre.length+i*1) u36 ti9 rfl rfl rfl rfl rfl (by omega) (by omega) (pre_ne (SB_ne (by omega))) (by show pre.length+Int.toNat _*1=_;omega) ?_;refine r_load (v:= .string (strU v)) 0 (pre.length+i*1) _ rfl rfl rfl rfl ti9 (pre_get (SB_get hv) rfl) rfl (by decide) rfl ?_;refine A6 ?_;refine Pc (c_syntax_IsName v (hvl v (List.mem_of_getElem? hv))) ?_;refine A3 ?_;refine Cd ?_ ?_<;>intro hb5
     ·have hnv:nameL v=false:=by simpa using hb5
      refine A11 ?_;refine at_end1 rfl (res_tmp rfl) (fun w hL=>⟨(),eI (by unfold chkQ;rw[if_neg (fun h=>h.elim k1 k3),if_neg (fun h=>h kl),if_pos (all_false_at hv hnv)]),hL.pk []⟩)
     ·have hnv:nameL v=true:=by simpa using hb5
      refine A4 ?_;refine Ar (((i+1:Nat):Int)) ?_;refine A3 ?_;exact Nl ⟨i+1,hlt,all_step hI hv hnv⟩
    ·have hge:l.length≤i:=by have:=of_decide_eq_false hb4;omega
     have hN:=all_full hI hge;refine A7 ?_;refine at_drawnI [] mixed (by kernel_rfl) (by kernel_rfl) ?_;refine A5 ?_;refine Rs 40 ?_ ?_<;>intro hb5
     ·have k2:l.length=2:=by have:=eq_of_beq hb5;omega
      obtain⟨v0,hv0⟩:∃v,l[0]? =some v:=⟨l[0]'(by omega),List.getElem?_eq_getElem _⟩;obtain⟨v1,hv1⟩:∃v,l[1]? =some v:=⟨l[1]'(by omega),List.getElem?_eq_getElem _⟩;refine A2 ?_;refine r_indexAddr 0 (pre.length+0*1) u36 ti9 rfl rfl rfl rfl rfl (by omega) (by omega) (pre_ne (SB_ne (by omega))) (by show pre.length+Int.toNat _*1=_;omega) ?_;refine r_load (v:= .string (strU v0)) 0 (pre.length+0*1) _ rfl rfl rfl rfl ti9 (pre_get (SB_get hv0) rfl) rfl (by decide) rfl ?_;refine A2 ?_;refine r_indexAddr 0 (pre.length+1*1) u36 ti9 rfl rfl rfl rfl rfl (by omega) (by omega) (pre_ne (SB_ne (by omega))) (by show pre.length+Int.toNat _*1=_;omega) ?_;refine r_load (v:= .string (strU v1)) 0 (pre.length+1*1) _ rfl rfl rfl rfl ti9 (pre_get (SB_get hv1) rfl) rfl (by decide) rfl ?_;refine A4 ?_;refine Cd ?_ ?_<;>intro hb6
      ·have ke:(v0==v1)=true:=by have hh:=hb6;rw[strU_beq] at hh;exact hh
       refine A7 ?_;refine at_end1 rfl (res_tmp rfl) (fun w hL=>⟨(),eI (by unfold chkQ;rw[if_neg (fun h=>h.elim k1 k3),if_neg (fun h=>h kl),if_neg (by rw[hN];simp),if_pos ⟨k2,by rw[hv0,hv1];simpa using ke⟩]),hL.pk []⟩)
      ·have ke:(v0==v1)=false:=by have hh:=hb6;rw[strU_beq] at hh;exact hh
       refine A4 ?_;refine at_regionM ?_;refine A1 ?_;refine Ld 2 2 [_,_,_,_,_,_,_] ti30 ?_;refine Kr 52 (z.v) ?_;refine Gm 0 [] [1] (fun _=>[_,_,_]) (c_CheckExpr z hf) (fun _=>?_);refine A9 ?_;refine Cd ?_ ?_<;>intro hb7
       ·have kc:chkE x≠0:=by simpa using hb7
        refine A8 ?_;refine at_end1 rfl (res_tmp rfl) (fun w hL=>⟨(),eI (by unfold chkQ;rw[if_neg (fun h=>h.elim k1 k3),if_neg (fun h=>h kl),if_neg (by rw[hN];simp),if_neg (fun h=>by have h2:=h.2;rw[hv0,hv1] at h2;rw[Option.some.inj h2,beq_self_eq_true] at ke;cases ke),if_pos kc]),hL.pk []⟩)
       ·have kc:chkE x=0:=by simpa using hb7
        refine A4 ?_;refine at_regionM ?_;refine A1 ?_;refine Ld 2 2 [_,_,_,_,_,_,_] ti30 ?_;refine Kr 58 (z.v) ?_;refine Gm 0 [] [1] (fun s=>[_,_,_,VR s]) (c_Variables z hM) (fun s=>?_);refine A5 ?_;refine El (ι:={i:Nat // i≤(varsU x).length∧((varsU x).take i).all l.contains=true}) (fun⟨i,hi,hI⟩=>([(1,.pointer (some ⟨g0,0,none⟩)),(59,slv s.b 0 (varsU x).length s.cap),(60,.int .i64 ((varsU x).length:Nat)),(61,.int .i64 (i:Nat))],[VBk b e pre l n,gB z.T false,QBx g0 kind b pre l cap z,VR s],(varsU x).length-i)) ⟨0,Nat.zero_le _,rfl⟩ ?_;rintro⟨i,hi,hI⟩;(try dsimp only);refine A6 ?_;refine Cd ?_ ?_<;>intro hb9
        ·have hlt:i<(varsU x).length:=by have:=of_decide_eq_true hb9;omega
         obtain⟨u,hu⟩:∃v,(varsU x)[i]? =some v:=⟨(varsU x)[i],List.getElem?_eq_getElem hlt⟩;refine A6 ?_;refine Ix 3 (i*1) ?_;refine r_load (v:= .string (strU u)) 3 (i*1) _ rfl rfl rfl rfl ti9 (SB_get hu) rfl (by decide) rfl ?_;refine A8 ?_;refine r_scall0 [slv b pre.length l.length cap,.string (strU u)] [0] rfl rfl rfl (c_Contains b e pre l n cap hll u) ⟨⟨_,rfl,Blk.le_refl _⟩,trivial⟩ rfl ?_;refine A3 ?_;refine Cd ?_ ?_<;>intro hb10
         ·have huc:l.contains u=false:=by simpa using hb10
          refine A11 ?_;refine at_end1 rfl (res_tmp rfl) (fun w hL=>⟨(),eI (by unfold chkQ;rw[if_neg (fun h=>h.elim k1 k3),if_neg (fun h=>h kl),if_neg (by rw[hN];simp),if_neg (fun h=>by have h2:=h.2;rw[hv0,hv1] at h2;rw[Option.some.inj h2,beq_self_eq_true] at ke;cases ke),if_neg (fun h=>h kc),if_pos (all_false_at hu huc)]),hL.pk []⟩)
         ·have huc:l.contains u=true:=by simpa using hb10
          refine A4 ?_;refine Ar (((i+1:Nat):Int)) ?_;refine A3 ?_;exact Nl ⟨i+1,hlt,all_step hI hu huc⟩
        ·have hge:(varsU x).length≤i:=by have:=of_decide_eq_false hb9;omega
         have hV:=all_full hI hge;refine A11 ?_;refine at_end1 rfl (res_tmp rfl) (fun w hL=>⟨(),eI (by unfold chkQ;rw[if_neg (fun h=>h.elim k1 k3),if_neg (fun h=>h kl),if_neg (by rw[hN];simp),if_neg (fun h=>by have h2:=h.2;rw[hv0,hv1] at h2;rw[Option.some.inj h2,beq_self_eq_true] at ke;cases ke),if_neg (fun h=>h kc),if_neg (by rw[hV];simp)]),hL.pk []⟩)
     ·have k2:l.length≠2:=by have:=ne_of_beq_false hb5;omega
      refine A17 ?_;refine at_regionM ?_;refine A1 ?_;refine Ld 2 2 [_,_,_,_,_,_,_] ti30 ?_;refine Kr 52 (z.v) ?_;refine Gm 0 [] [1] (fun _=>[_,_,_]) (c_CheckExpr z hf) (fun _=>?_);refine A9 ?_;refine Cd ?_ ?_<;>intro hb6
      ·have kc:chkE x≠0:=by simpa using hb6
       refine A8 ?_;refine at_end1 rfl (res_tmp rfl) (fun w hL=>⟨(),eI (by unfold chkQ;rw[if_neg (fun h=>h.elim k1 k3),if_neg (fun h=>h kl),if_neg (by rw[hN];simp),if_neg (fun h=>k2 h.1),if_pos kc]),hL.pk []⟩)
      ·have kc:chkE x=0:=by simpa using hb6
       refine A4 ?_;refine at_regionM ?_;refine A1 ?_;refine Ld 2 2 [_,_,_,_,_,_,_] ti30 ?_;refine Kr 58 (z.v) ?_;refine Gm 0 [] [1] (fun s=>[_,_,_,VR s]) (c_Variables z hM) (fun s=>?_);refine A5 ?_;refine El (ι:={i:Nat // i≤(varsU x).length∧((varsU x).take i).all l.contains=true}) (fun⟨i,hi,hI⟩=>([(1,.pointer (some ⟨g0,0,none⟩)),(59,slv s.b 0 (varsU x).length s.cap),(60,.int .i64 ((varsU x).length:Nat)),(61,.int .i64 (i:Nat))],[VBk b e pre l n,gB z.T false,QBx g0 kind b pre l cap z,VR s],(varsU x).length-i)) ⟨0,Nat.zero_le _,rfl⟩ ?_;rintro⟨i,hi,hI⟩;(try dsimp only);refine A6 ?_;refine Cd ?_ ?_<;>intro hb8
       ·have hlt:i<(varsU x).length:=by have:=of_decide_eq_true hb8;omega
        obtain⟨u,hu⟩:∃v,(varsU x)[i]? =some v:=⟨(varsU x)[i],List.getElem?_eq_getElem hlt⟩;refine A6 ?_;refine Ix 3 (i*1) ?_;refine r_load (v:= .string (strU u)) 3 (i*1) _ rfl rfl rfl rfl ti9 (SB_get hu) rfl (by decide) rfl ?_;refine A8 ?_;refine r_scall0 [slv b pre.length l.length cap,.string (strU u)] [0] rfl rfl rfl (c_Contains b e pre l n cap hll u) ⟨⟨_,rfl,Blk.le_refl _⟩,trivial⟩ rfl ?_;refine A3 ?_;refine Cd ?_ ?_<;>intro hb9
        ·have huc:l.contains u=false:=by simpa using hb9
         refine A11 ?_;refine at_end1 rfl (res_tmp rfl) (fun w hL=>⟨(),eI (by unfold chkQ;rw[if_neg (fun h=>h.elim k1 k3),if_neg (fun h=>h kl),if_neg (by rw[hN];simp),if_neg (fun h=>k2 h.1),if_neg (fun h=>h kc),if_pos (all_false_at hu huc)]),hL.pk []⟩)
        ·have huc:l.contains u=true:=by simpa using hb9
         refine A4 ?_;refine Ar (((i+1:Nat):Int)) ?_;refine A3 ?_;exact Nl ⟨i+1,hlt,all_step hI hu huc⟩
       ·have hge:(varsU x).length≤i:=by have:=of_decide_eq_false hb8;omega
        have hV:=all_full hI hge;refine A11 ?_;refine at_end1 rfl (res_tmp rfl) (fun w hL=>⟨(),eI (by unfold chkQ;rw[if_neg (fun h=>h.elim k1 k3),if_neg (fun h=>h kl),if_neg (by rw[hN];simp),if_neg (fun h=>k2 h.1),if_neg (fun h=>h kc),if_neg (by rw[hV];simp)]),hL.pk []⟩)
end Go.Proofs.YtfijbadahkmhbaaGreatDoor
namespace Go.Via
open Go Go.RowKit
def p0(s:Bs8):Ps:=⟨s,0,0,0,[],0,0,false⟩
def Ps.endP(p:Ps):Ps:=if p.fail=false∧p.k≠0 then p.stop 15 else p
def Ps.endA(p:Ps):Nat:=if p.endP.fail=true then p.endP.bat else 0
def Ps.endE(p:Ps)(e:Nat):Nat:=if p.endP.fail=true then p.endP.be else e
end Go.Via
namespace Go.Proofs.YtfijbadahkmhbaaGreatDoor
open Go Go.RowKit Go.Via
theorem c_start_ok(s:Bs8)(hs:s.length≤4096):ECall Tryz.prog 61 [] [.string (strU s)] Nat (fun g=> .tuple #[.pointer (some ⟨g,0,none⟩),.int .i64 0]) (fun g=>[PB g (p0 s).adv true]):=by
 refine⟨by kernel_rfl,fun B w hD hL0=>?_⟩;refine cB1 14 Tryz.func61 hL0 ?_;refine A11 ?_;refine r_know 6 (.int .i64 (s.length:Nat)) rfl (by rw[strU_size]) ?_;refine A3 ?_;refine Cd ?_ ?_<;>intro hb0
 ·exact absurd (of_decide_eq_true hb0) (by omega)
 ·refine A5 ?_;refine r_build [(0,_)] rfl rfl rfl (bd141_1) ?_;refine Bo [_,_,_,_,_,_,_,_] 8 (fun g=>[⟨some g,141,_,8,true⟩]) (fun g0=>?_);refine A4 ?_;refine at_regionM ?_;refine A1 ?_;refine Gm 1 [0] [] (fun _=>[PB g0 (p0 s).adv true]) (c_p_advance (p0 s) ⟨hs,Nat.zero_le _⟩ g0) (fun _=>?_);refine A10 ?_;refine at_end2 rfl (res_tmp rfl) (res_tmp rfl) (fun w hL=>⟨g0,rfl,hL⟩)
end Go.Proofs.YtfijbadahkmhbaaGreatDoor
namespace Go.Via
open Go Go.RowKit
end Go.Via
namespace Go.Proofs.YtfijbadahkmhbaaGreatDoor
open Go Go.RowKit Go.Via
def MszC(y:XT):Prop:=∀(u:XR y),y.size≤1000000000→ECall Tryz.prog 21 [gB u.T false] [u.v] Unit (fun _=> .int .i64 (y.size:Nat)) (fun _=>[])
theorem byS{p:XT→Prop}(h:∀x:XT,(∀y:XT,y.size<x.size→p y)→p x)(x:XT):p x:=by
 suffices k:∀n:Nat,∀x:XT,x.size<n→p x from k _ x (Nat.lt_succ_self _)
 intro n
 induction n with
 |zero=>intro x hx;omega
 |succ n ih=>exact fun x hx=>h x fun y hy=>ih y (by omega)
end Go.Proofs.YtfijbadahkmhbaaGreatDoor
namespace Go.Via
open Go Go.RowKit
def rep:Nat→Bs8→Bs8
 |0,_=>[]
 |k+1,w=>rep k w++w
theorem sNot_len:sNot.length=4:=rfl
def aX:XT:= .named 4 [97]
structure X7 where
 op:Int
 nm:ByteArray
 b1:Bool
 s1:ByteArray
 b2:Bool
 s2:ByteArray
 a:Option Addr
 n:Nat
 cap:Nat
def X7.v(w:X7):Value:= .agg #[.int .i64 w.op,.string w.nm,.bool w.b1,.string w.s1,.bool w.b2,.string w.s2,.slice w.a w.n w.cap]
end Go.Via
namespace Go.Proofs.YtfijbadahkmhbaaGreatDoor
open Go Go.RowKit Go.Via
end Go.Proofs.YtfijbadahkmhbaaGreatDoor
set_option maxHeartbeats 2000000
namespace Go.Via
open Go Go.RowKit
inductive Kd where
 |lv (n:Nat)
 |sv (n:Nat) (a:XT)
 |pv
 |av (op:Nat) (e:Bs8) (n i:Nat) (l:List XT)
inductive SgP:Ps→Rat→Ps→Prop
 |pos {p:Ps} {q:Rat} (hf:p.fail=false) (hk:p.k=2) (hq:ratTok p.tx=some q):SgP p q p.adv
 |neg {p:Ps} {q:Rat} (hi:p.is tMinus=true) (hk:p.adv.k=2) (hq:ratTok p.adv.tx=some q):SgP p (-q) p.adv.adv
inductive Der:Kd→Ps→XT→Ps→Prop
 |not {p r:Ps} {x:XT} (h:p.is tNot=true) (d:Der (.lv 3) p.adv x r):Der (.lv 3) p (.node 25 [x]) r
 |l3 {p r:Ps} {x:XT} (h:p.is tNot=false) (d:Der (.lv 4) p x r):Der (.lv 3) p x r
 |l8 {p r:Ps} {x:XT} (d:Der .pv p x r):Der (.lv 8) p x r
 |ln {n:Nat} {p q r:Ps} {a x:XT} (h3:n≠3) (h8:n≠8) (d:Der (.lv (n+1)) p a q) (e:Der (.sv n a) q x r):Der (.lv n) p x r
 |stop {n:Nat} {p:Ps} {x:XT} (hf:p.fail=false) (h:opAt n p=none):Der (.sv n x) p x p
 |go {n op:Nat} {p q r:Ps} {x y z:XT} (h4:n≠4) (hf:p.fail=false) (h:opAt n p=some op) (d:Der (.lv (n+1)) p.adv y q) (e:Der (.sv n (.node op [x,y])) q z r):Der (.sv n x) p z r
 |once {op:Nat} {p q:Ps} {x y:XT} (hf:p.fail=false) (h:opAt 4 p=some op) (d:Der (.lv 5) p.adv y q):Der (.sv 4 x) p (.node op [x,y]) q
 |num {p r:Ps} {q:Rat} (h:SgP p q r):Der .pv p (.numd 1 q) r
 |paren {p q:Ps} {x:XT} (h:p.is tOpen=true) (d:Der (.lv 1) p.adv x q) (hs:q.is tShut=true):Der .pv p x q.adv
 |inter {p r:Ps} {x:XT} (h:p.is tOpenB=true) (d:Der (.av 6 tShutB 2 0 []) p.adv x r):Der .pv p x r
 |point {p q r:Ps} {a b:Rat} (h:p.is tPoint=true) (ho:p.adv.is tOpen=true) (d:SgP p.adv.adv a q) (hc:q.is tComma=true) (e:SgP q.adv b r) (hs:r.is tShut=true):Der .pv p (.node 2 [.numd 1 a,.numd 1 b]) r.adv
 |object {p:Ps} {q:Rat} (h:p.is tObject=true) (ho:p.adv.is tOpen=true) (hk:p.adv.adv.k=2) (hq:ratTok p.adv.adv.tx=some q) (hi:idOK q=true) (hs:p.adv.adv.adv.is tShut=true):Der .pv p (.numd 3 q) p.adv.adv.adv.adv
 |zone {p:Ps} (h:p.is tZone=true) (ho:p.adv.is tOpen=true) (hk:p.adv.adv.k=3) (hs:p.adv.adv.adv.is tShut=true):Der .pv p (.named 5 p.adv.adv.tx) p.adv.adv.adv.adv
 |call {p r:Ps} {x:XT} {g:Bs8×Nat×Nat} (hg:g∈funT) (h:p.is g.1=true) (ho:p.adv.is tOpen=true) (d:Der (.av g.2.1 tShut g.2.2 0 []) p.adv.adv x r):Der .pv p x r
 |name {p:Ps} (hf:p.fail=false) (hk:p.k=1) (hr:resL.contains p.tx=false) (hl:p.tx.length≤40) (hn:∀x∈[tMinus,tOpen,tOpenB,tPoint,tObject,tZone],p.is x=false) (hg:funAt p=none):Der .pv p (.named 4 p.tx) p.adv
 |more {op n i:Nat} {e:Bs8} {l:List XT} {p p1 q r:Ps} {x y:XT} (hi:i<n) (hc:0<i→p.is tComma=true) (h1:p1=if 0<i then p.adv else p) (d:Der (.lv 1) p1 y q) (a:Der (.av op e n (i+1) (l++[y])) q x r):Der (.av op e n i l) p x r
 |done {op n i:Nat} {e:Bs8} {l:List XT} {p:Ps} (hi:¬i<n) (he:p.is e=true):Der (.av op e n i l) p (.node op l) p.adv
theorem is_k{p:Ps}{x:Bs8}(h:p.is x=true):(p.k=1∨p.k=4)∧p.tx=x:=by
 unfold Ps.is at h
 simp only[Bool.and_eq_true,Bool.or_eq_true,beq_iff_eq] at h
 exact⟨h.1.2,h.2⟩
mutual
def XT.tiny:XT→Bool
 | .mk _ nm u l=>decide (nm.length≤60)&&decide (u.bytes≤20)&&XT.tinies l
def XT.tinies:List XT→Bool
 |[]=>true
 |x::l=>XT.tiny x&&XT.tinies l
end
theorem XT.tiny_parts{o:Int}{nm:Bs8}{u:NumV}{l:List XT}(h:(XT.mk o nm u l).tiny=true):nm.length≤60∧u.bytes≤20∧XT.tinies l=true:=by
 unfold XT.tiny at h
 simp only[Bool.and_eq_true,decide_eq_true_eq] at h
 exact⟨h.1.1,h.1.2,h.2⟩
theorem szQ_bytes{q:Rat}(h:(mag q.num.natAbs).size+(dm q).size≤20):szQ q≤21:=by
 rw[mag_size] at h
 unfold szQ
 have h5:nb q.den≤(dm q).size+1:=by
  unfold dm
  split
  ·rename_i hd
   rw[hd]
   have:nb 1≤1:=nb_le (k:=1) (by decide)
   omega
  ·rw[mag_size];omega
 omega
theorem NumV.rat_sz{u:NumV}(h:u.bytes≤20):szQ u.rat≤21:=by
 cases u with
 |q r=>exact szQ_bytes h
 |raw b1 s1 b2 s2=>
  cases ho:(NumV.raw b1 s1 b2 s2).ok with
  |true=>
   have h1:=NumV.rat_cells (u:= .raw b1 s1 b2 s2) rfl ho
   generalize(NumV.raw b1 s1 b2 s2).rat=q at h1 ⊢
   have h2:Value.agg #[.bool b1,.string s1,.bool b2,.string s2]=Value.agg #[.bool (decide (q.num<0)),.string (mag q.num.natAbs),.bool false,.string (dm q)]:=h1
   simp only[Value.agg.injEq,Array.mk.injEq,List.cons.injEq,Value.bool.injEq,Value.string.injEq,and_true] at h2
   obtain⟨_,e1,_,e2⟩:=h2
   replace h:s1.size+s2.size≤20:=h
   rw[e1,e2] at h
   exact szQ_bytes h
  |false=>
   have h3:¬∃q:Rat,Value.agg #[.bool b1,.string s1,.bool b2,.string s2]=Q q:=fun hq=>by
    have h4:isQ b1 s1 b2 s2=true:=by unfold isQ;exact @decide_eq_true _ (Classical.propDecidable _) hq
    rw[show isQ b1 s1 b2 s2=false from ho] at h4
    cases h4
   have e:(NumV.raw b1 s1 b2 s2).rat=0:= @dif_neg _ (Classical.propDecidable _) h3 _ _ _
   rw[e]
   have:szQ 0≤21:=by decide+kernel
   exact this
theorem quoS_le2:∀n:Bs8,(quoS n).length≤2*n.length
 |[]=>by simp[quoS]
 |c::n=>by
  have:=quoS_le2 n
  unfold quoS at*
  rw[List.flatMap_cons,List.length_append,List.length_cons]
  by_cases hc:c=34
  ·rw[if_pos hc];show 2+_≤_;omega
  ·rw[if_neg hc];show 1+_≤_;omega
theorem joinC_len:∀L:List Bs8,(joinC L).length≤(L.map fun t=>t.length+2).sum
 |[]=>by simp[joinC]
 |[t]=>by simp[joinC]
 |t::u::r=>by
  have:=joinC_len (u::r)
  rw[joinC,List.length_append,List.length_append,List.map_cons,List.sum_cons]
  simp at this ⊢
  omega
theorem ops_len{f:Bs8×Nat×Nat}(h:f∈opsT):f.1.length≤6:=by
 have:∀o∈opsT,o.1.length≤6:=by decide
 exact this f h
theorem fun_len{f:Bs8×Nat×Nat}(h:f∈funT):f.1.length≤10:=by
 have:∀o∈funT,o.1.length≤10:=by decide
 exact this f h
mutual
theorem txt_len:∀(x:XT) (lv:Nat),x.tiny=true→(txt x lv).length+20≤400*x.size
 | .mk o nm u l,lv,h=>by
   obtain⟨h1,h2,h3⟩:=XT.tiny_parts h
   have hr:=Nat.le_trans (ratS_len u.rat) (by have:=NumV.rat_sz h2;omega:6*szQ u.rat+5≤131)
   have hq:=quoS_le2 nm
   have hA:=txtAt_len l h3
   have hL:=txtLs_sum l h3
   have hJ:=Nat.le_trans (joinC_len (txtLs l)) hL
   rw[txt,XT.size]
   split
   ·rename_i f hf
    have hfl:=ops_len (List.mem_of_find?_eq_some hf)
    have h0:=hA 0 1 3 3 rfl rfl
    have h01:=hA 0 1 (if f.2.2=4 then 5 else f.2.2) (f.2.2+1) rfl rfl
    split
    ·split
     ·simp only[List.length_append,sNot,List.length_cons,List.length_nil];omega
     ·simp only[List.length_append,List.length_cons,List.length_nil];omega
    ·split
     ·simp only[List.length_append,sNot,List.length_cons,List.length_nil];omega
     ·simp only[List.length_append,List.length_cons,List.length_nil];omega
   ·split
    ·omega
    ·split
     ·omega
     ·split
      ·simp only[List.length_append,sObject,List.length_cons,List.length_nil];omega
      ·split
       ·simp only[List.length_append,sZone,List.length_cons,List.length_nil];omega
       ·split
        ·simp only[List.length_append,List.length_cons,List.length_nil];omega
        ·split
         ·simp only[List.length_append,sPoint,List.length_cons,List.length_nil];omega
         ·split
          ·rename_i f hf
           have hfl:=fun_len (List.mem_of_find?_eq_some hf)
           simp only[List.length_append,List.length_cons,List.length_nil];omega
          ·simp only[List.length_nil];omega
theorem txtAt_len:∀(l:List XT),XT.tinies l=true→∀(i j lv lv':Nat),i=0→j=1→(txtAt l i lv).length+(txtAt l j lv').length≤400*XT.sizes l
 |[],_,i,j,lv,lv',_,_=>by simp[txtAt]
 |x::l,h,i,j,lv,lv',hi,hj=>by
  subst hi;subst hj
  rw[XT.tinies,Bool.and_eq_true] at h
  have h1:=txt_len x lv h.1
  have h2:=txtA0_len l h.2 lv'
  rw[txtAt,txtAt,XT.sizes]
  omega
theorem txtA0_len:∀(l:List XT),XT.tinies l=true→∀lv:Nat,(txtAt l 0 lv).length≤400*XT.sizes l
 |[],_,lv=>by simp[txtAt]
 |x::l,h,lv=>by
  rw[XT.tinies,Bool.and_eq_true] at h
  have h1:=txt_len x lv h.1
  rw[txtAt,XT.sizes]
  omega
theorem txtLs_sum:∀(l:List XT),XT.tinies l=true→((txtLs l).map fun t=>t.length+2).sum≤400*XT.sizes l
 |[],_=>by simp[txtLs]
 |x::l,h=>by
  rw[XT.tinies,Bool.and_eq_true] at h
  have h1:=txt_len x 1 h.1
  have h2:=txtLs_sum l h.2
  rw[txtLs,XT.sizes,List.map_cons,List.sum_cons]
  omega
end
end Go.Via
set_option maxHeartbeats 2000000
namespace Go.Via
open Go Go.RowKit
def Kd.all(T:XT→Prop):Kd→Prop
 | .sv _ a=>T a
 | .av _ _ _ _ l=>∀y∈l,T y
 |_=>True
theorem SgP.good{p r:Ps}{q:Rat}(h:SgP p q r)(hp:p.good):r.good∧szQ q≤4096:=by
 cases h with
 |pos hf hk hq=>exact⟨Ps.adv_good hp.1,Nat.le_trans (ratTok_sz (hp.2.1 hk) hq) hp.2.2⟩
 |neg hi hk hq=>
  rename_i q
  have h1:=Ps.adv_good hp.1
  exact⟨Ps.adv_good h1.1,Nat.le_trans (szQ_neg (ratTok_sz (h1.2.1 hk) hq)) h1.2.2⟩
theorem qXs_all:∀{l:List XT},(∀y∈l,qX y)→qXs l
 |[],_=>by rw[qXs];trivial
 |x::l,h=>by rw[qXs];exact⟨h x (List.mem_cons_self ..),qXs_all fun y hy=>h y (List.mem_cons_of_mem _ hy)⟩
def Ps.tl(p:Ps):Nat:=if p.k=3 then(quoS p.tx).length+2 else if p.k=1∨p.k=2∨p.k=4 then p.tx.length else 0
def Ps.tokd(p:Ps):Prop:=p.k=1∨p.k=2∨p.k=3∨p.k=4
theorem quo_len:∀{l n:Bs8} {k:Nat},quo l=some (n,k)→k=(quoS n).length
 |[],n,k,h=>by simp[quo] at h
 |[c],n,k,h=>by
  simp only[quo] at h
  split at h
  ·simp at h;rw[h.1,←h.2];rfl
  ·cases h
 |c::d::l,n,k,h=>by
  rw[quo] at h
  split at h
  ·split at h
   ·cases hq:quo l with
    |none=>rw[hq] at h;simp at h
    |some x=>
     rw[hq] at h
     simp at h
     have:=quo_len (n:=x.1) (k:=x.2) hq
     rw[←h.1,←h.2,this]
     unfold quoS
     rw[List.flatMap_cons,List.length_append,if_pos rfl]
     show _=2+_
     omega
   ·simp at h;rw[h.1,←h.2];rfl
  ·rename_i hc
   cases hq:quo (d::l) with
   |none=>rw[hq] at h;simp at h
   |some x=>
    rw[hq] at h
    simp at h
    have:=quo_len (n:=x.1) (k:=x.2) hq
    rw[←h.1,←h.2,this]
    unfold quoS
    rw[List.flatMap_cons,List.length_append,if_neg hc]
    show _=1+_
    omega
theorem skip_ge(p:Ps):p.pos≤p.skip:=by unfold Ps.skip;omega
theorem adv_pos{p:Ps}(h:p.ok):p.pos≤p.adv.at_∧p.adv.at_+p.adv.tl≤p.adv.pos∧(p.adv.tokd→1≤p.adv.tl):=by
 have hsk:=Ps.skip_le h
 have hge:=skip_ge p
 have tlen:∀j:Nat,p.skip≤j→j≤p.s.length→((p.s.drop p.skip).take (j-p.skip)).length=j-p.skip:=fun j h1 h2=>by
  rw[List.length_take,List.length_drop];omega
 by_cases hi:p.skip=p.s.length
 ·rw[adv_end rfl hi]
  exact⟨hge,Nat.le_refl _,fun hk=>by rcases hk with h|h|h|h<;>cases h⟩
 ·obtain⟨c,hx⟩:∃c,p.s[p.skip]? =some c:=⟨p.s[p.skip]'(by omega),List.getElem?_eq_getElem _⟩
  by_cases h1:isLet c=true
  ·rw[adv_word rfl hx h1 rfl]
   have hw:p.skip+1≤run8 wch p.s p.skip:=by rw[run8_go hx (wch_let h1)];exact run8_ge
   have hl:=tlen _ (run8_ge (f:=wch)) (run8_le hsk)
   refine⟨hge,?_,fun _=>?_⟩
   ·show p.skip+List.length _≤_
    rw[hl];show p.skip+(run8 wch p.s p.skip-p.skip)≤run8 wch p.s p.skip;omega
   ·show 1≤List.length _
    rw[hl];omega
  ·have h1:isLet c=false:=by simpa using h1
   by_cases h2:isDig c=true
   ·rw[adv_num rfl hx h1 h2 rfl]
    have hn:=numLen_le (p.s.drop p.skip)
    rw[List.length_drop] at hn
    have hl:=tlen (p.skip+numLen (p.s.drop p.skip)) (by omega) (by omega)
    have h0:1≤numLen (p.s.drop p.skip):=by
     have hd:1≤dgs (p.s.drop p.skip):=by
      rw[drop_at hx]
      unfold dgs
      rw[List.takeWhile_cons_of_pos h2];simp
     unfold numLen
     split
     ·split<;>omega
     ·exact hd
    refine⟨hge,?_,fun _=>?_⟩
    ·show p.skip+List.length _≤_
     rw[hl];show p.skip+(p.skip+numLen (p.s.drop p.skip)-p.skip)≤p.skip+numLen (p.s.drop p.skip);omega
    ·show 1≤List.length _
     rw[hl];omega
   ·have h2:isDig c=false:=by simpa using h2
    by_cases h3:c=34
    ·rw[adv_quo rfl hx h1 h2 h3]
     unfold Ps.quoted
     dsimp only
     split
     ·rename_i n k hq
      split
      ·refine⟨hge,?_,fun _=>?_⟩
       ·show p.skip+((quoS n).length+2)≤p.skip+k+2
        rw[quo_len hq];omega
       ·show 1≤(quoS n).length+2
        omega
      ·exact⟨hge,Nat.le_refl _,fun hk=>by rcases hk with h|h|h|h<;>cases h⟩
     ·exact⟨hge,Nat.le_refl _,fun hk=>by rcases hk with h|h|h|h<;>cases h⟩
    ·by_cases h4:symL.contains c=true
     ·rw[adv_sym rfl hx h1 h2 h3 h4]
      have hl:=tlen (p.skip+1) (by omega) (by omega)
      refine⟨hge,?_,fun _=>?_⟩
      ·show p.skip+List.length _≤_
       rw[hl];show p.skip+(p.skip+1-p.skip)≤p.skip+1;omega
      ·show 1≤List.length _
       rw[hl];omega
     ·rw[adv_bad rfl hx h1 h2 h3 (by simpa using h4)]
      exact⟨hge,Nat.le_refl _,fun hk=>by rcases hk with h|h|h|h<;>cases h⟩
instance(p:Ps):Decidable p.tokd:=by unfold Ps.tokd;infer_instance
end Go.Via
set_option maxHeartbeats 2000000
namespace Go.Via
open Go Go.RowKit
def Ps.ord(p:Ps):Prop:=p.good∧p.at_+p.tl≤p.pos
theorem adv_ord{p:Ps}(h:p.ord):p.at_+p.tl≤p.adv.at_∧p.adv.ord:=by
 obtain⟨h1,h2,_⟩:=adv_pos h.1.1
 have:=h.2
 exact⟨by omega,Ps.adv_good h.1.1,h2⟩
theorem k2_tl{p:Ps}(h:p.k=2):p.tl=p.tx.length:=by
 unfold Ps.tl
 rw[if_neg (by omega),if_pos (by omega)]
theorem SgP.len{p r:Ps}{q:Rat}(h:SgP p q r)(hp:p.ord):(ratS q).length+11*p.at_≤11*r.at_∧r.ord:=by
 have key:∀{p:Ps} {q u:Rat},p.ord→p.k=2→ratTok p.tx=some q→szQ u≤szQ q→(ratS u).length+11*p.at_≤11*p.adv.at_:=fun {p q u} hp hk hq hu=>by
  have h1:=ratTok_sz (hp.1.2.1 hk) hq
  have h2:=ratS_len u
  have h3:=(adv_ord hp).1
  rw[k2_tl hk] at h3
  have h4:1≤p.tx.length:=by
   have h5:=hp.1.2.1 hk
   cases hx:p.tx with
   |nil=>rw[hx] at h5;cases h5
   |cons c l=>simp
  omega
 cases h with
 |pos hf hk hq=>exact⟨key hp hk hq (Nat.le_refl _),(adv_ord hp).2⟩
 |neg hi hk hq=>
  obtain⟨h1,h2⟩:=adv_ord hp
  have:=key h2 hk hq (szQ_neg (Nat.le_refl _))
  exact⟨by omega,(adv_ord h2).2⟩
end Go.Via
set_option maxHeartbeats 2000000
namespace Go.Via
open Go Go.RowKit
def tokOf:Bs8→Nat×Bs8×Nat
 |[]=>(0,[],0)
 |c::r=>if isLet c=true then(1,(c::r).takeWhile wch,((c::r).takeWhile wch).length) else if isDig c=true then(2,(c::r).take (numLen (c::r)),numLen (c::r))
  else if c=34 then(match quo r with|some (n,k)=>if zoneL n=true then(3,n,k+2) else(5,[],0)|none=>(5,[],0))
  else if symL.contains c=true then(4,[c],1) else(5,[],0)
theorem adv_tok(p:Ps):p.adv.k=(tokOf (p.s.drop p.skip)).1∧p.adv.tx=(tokOf (p.s.drop p.skip)).2.1∧p.adv.s.drop p.adv.pos=(p.s.drop p.skip).drop (tokOf (p.s.drop p.skip)).2.2:=by
 rw[Ps.adv_s]
 unfold Ps.adv
 cases hd:p.s.drop p.skip with
 |nil=>exact⟨rfl,rfl,by show p.s.drop p.skip=_;rw[hd];rfl⟩
 |cons c r=>
  dsimp only
  rw[tokOf]
  by_cases h1:isLet c=true
  ·rw[if_pos h1,if_pos h1]
   refine⟨rfl,?_,?_⟩
   ·show(p.s.drop p.skip).take _=_
    rw[hd]
    exact(List.prefix_iff_eq_take.1 (List.takeWhile_prefix wch)).symm
   ·show p.s.drop (p.skip+_)=_
    rw[←List.drop_drop,hd]
  ·rw[if_neg h1,if_neg h1]
   by_cases h2:isDig c=true
   ·rw[if_pos h2,if_pos h2]
    refine⟨rfl,?_,?_⟩
    ·show(p.s.drop p.skip).take _=_
     rw[hd]
    ·show p.s.drop (p.skip+_)=_
     rw[←List.drop_drop,hd]
   ·rw[if_neg h2,if_neg h2]
    by_cases h3:c=34
    ·rw[if_pos h3,if_pos h3]
     have hr:p.s.drop (p.skip+1)=r:=by rw[←List.drop_drop,hd];rfl
     unfold Ps.quoted
     dsimp only
     rw[hr]
     cases hq:quo r with
     |none=>exact⟨rfl,rfl,by show p.s.drop p.skip=_;rw[hd];rfl⟩
     |some x=>
      obtain⟨n,k⟩:=x
      dsimp only
      by_cases hz:zoneL n=true
      ·rw[if_pos hz,if_pos hz]
       refine⟨rfl,rfl,?_⟩
       show p.s.drop (p.skip+k+2)=_
       rw[show p.skip+k+2=p.skip+(k+2) by omega,←List.drop_drop,hd]
      ·rw[if_neg hz,if_neg hz]
       exact⟨rfl,rfl,by show p.s.drop p.skip=_;rw[hd];rfl⟩
    ·rw[if_neg h3,if_neg h3]
     by_cases h4:symL.contains c=true
     ·rw[if_pos h4,if_pos h4]
      refine⟨rfl,?_,?_⟩
      ·show(p.s.drop p.skip).take 1=_
       rw[hd];rfl
      ·show p.s.drop (p.skip+1)=_
       rw[←List.drop_drop,hd]
     ·rw[if_neg h4,if_neg h4]
      refine⟨rfl,?_,?_⟩
      ·show(p.s.drop p.skip).take 0=_
       rfl
      ·show p.s.drop (p.skip+0)=_
       rw[Nat.add_zero,hd];rfl
section
variable{m:Bs8}
theorem tw_app2{f:UInt8→Bool}(hm:∀c,m.head? =some c→f c=false):∀l:Bs8,(l++m).takeWhile f=l.takeWhile f
 |[]=>by
  cases m with
  |nil=>rfl
  |cons c m=>rw[List.nil_append,List.takeWhile_cons_of_neg (by rw[hm c rfl];simp)];rfl
 |c::l=>by
  rw[List.cons_append]
  by_cases hc:f c=true
  ·rw[List.takeWhile_cons_of_pos hc,List.takeWhile_cons_of_pos hc,tw_app2 hm l]
  ·rw[List.takeWhile_cons_of_neg hc,List.takeWhile_cons_of_neg hc]
theorem dgs_app(hb:brk m)(l:Bs8):dgs (l++m)=dgs l:=by unfold dgs;rw[tw_app2 (fun c hc=>(wch_parts (hb c hc).1).2)]
theorem numLen_app(hb:brk m)(l:Bs8):numLen (l++m)=numLen l:=by
 unfold numLen
 rw[dgs_app hb,List.drop_append_of_le_length (dgs_le l)]
 cases hd:l.drop (dgs l) with
 |nil=>
  rw[List.nil_append]
  split
  ·exact absurd rfl (hb 47 rfl).2
  ·rfl
 |cons x r=>
  rw[List.cons_append]
  cases r with
  |nil=>
   cases m with
   |nil=>rfl
   |cons y m=>
    show(match x::y::m with|47::c::r=>if isDig c=true then dgs l+1+dgs (c::r) else dgs l|_=>dgs l)=_
    split
    ·rename_i c r he
     simp only[List.cons.injEq] at he
     rw[←he.2.1,if_neg (by rw[(wch_parts (hb y rfl).1).2];simp)]
     split
     ·rename_i he2;simp at he2
     ·rfl
    ·split
     ·rename_i he2;simp at he2
     ·rfl
  |cons y r=>
   show(match x::y::(r++m) with|47::c::r=>if isDig c=true then dgs l+1+dgs (c::r) else dgs l|_=>dgs l)=_
   split
   ·rename_i c r2 he
    simp only[List.cons.injEq] at he
    obtain⟨rfl,rfl,rfl⟩:=he
    show(if isDig y=true then dgs l+1+dgs (y::r++m) else dgs l)=_
    rw[dgs_app hb];rfl
   ·rename_i hno
    split
    ·rename_i c r2 he
     simp only[List.cons.injEq] at he
     exact absurd (by rw[he.1]) (hno y (r++m))
    ·rfl
theorem quo_no:∀k:Bs8,(∀c∈k,c≠34)→quo k=none
 |[],_=>rfl
 |[c],h=>by rw[quo,if_neg (h c (List.mem_cons_self ..))]
 |c::d::k,h=>by rw[quo,if_neg (h c (List.mem_cons_self ..)),quo_no (d::k) fun e he=>h e (List.mem_cons_of_mem _ he)];rfl
theorem quo_app(hq:∀c∈m,c≠34):∀l:Bs8,quo (l++m)=quo l
 |[]=>quo_no m hq
 |[c]=>by
  have h0:=quo_no m hq
  cases m with
  |nil=>rfl
  |cons d m=>
   have hd:=hq d (List.mem_cons_self ..)
   have e1:quo [c]=if c=34 then some ([],0) else none:=by rw[quo]
   have e2:quo (c::d::m)=if c=34 then(if d=34 then(quo m).map fun x=>(34::x.1,x.2+2) else some ([],0)) else(quo (d::m)).map fun x=>(c::x.1,x.2+1):=by rw[quo]
   show quo (c::d::m)=_
   rw[e1,e2,h0,if_neg hd];rfl
 |c::d::l=>by
  have h1:=quo_app hq l
  have h2:=quo_app hq (d::l)
  rw[List.cons_append] at h2
  rw[List.cons_append,List.cons_append,quo,quo,h1,h2]
theorem tokOf_app(hb:brk m)(hq:∀c∈m,c≠34){l:Bs8}(hl:l≠[]):tokOf (l++m)=tokOf l:=by
 cases l with
 |nil=>exact absurd rfl hl
 |cons c r=>
  have h1:=tw_app2 (f:=wch) (fun c hc=>(hb c hc).1) (c::r)
  have h2:=numLen_app hb (c::r)
  rw[List.cons_append] at h1 h2
  rw[List.cons_append,tokOf,tokOf,h1,h2,quo_app hq]
  have h3:(c::(r++m)).take (numLen (c::r))=(c::r).take (numLen (c::r)):=by
   rw[←List.cons_append,List.take_append_of_le_length (numLen_le _)]
  rw[h3]
theorem tokOf_len(l:Bs8):(tokOf l).2.2≤l.length:=by
 cases l with
 |nil=>exact Nat.le_refl _
 |cons c r=>
  rw[tokOf]
  split
  ·exact(List.takeWhile_prefix wch).length_le
  ·split
   ·exact numLen_le _
   ·split
    ·split
     ·rename_i n k hq
      have:=quo_lt hq
      split
      ·show k+2≤(c::r).length
       rw[List.length_cons];omega
      ·exact Nat.zero_le _
     ·exact Nat.zero_le _
    ·split
     ·show 1≤(c::r).length
      rw[List.length_cons];omega
     ·exact Nat.zero_le _
end
theorem skip_split(p:Ps):∃g,(∀c∈g,spL.contains c=true)∧p.s.drop p.pos=g++p.s.drop p.skip∧∀c,(p.s.drop p.skip).head? =some c→spL.contains c=false:=by
 have key:∀l:Bs8,(∀c∈l.takeWhile spL.contains,spL.contains c=true)∧l=l.takeWhile spL.contains++l.drop (l.takeWhile spL.contains).length∧∀c,(l.drop (l.takeWhile spL.contains).length).head? =some c→spL.contains c=false:=fun l=>by
  induction l with
  |nil=>exact⟨fun c h=>(by cases h),rfl,fun c h=>(by cases h)⟩
  |cons c l ih=>
   by_cases hc:spL.contains c=true
   ·rw[List.takeWhile_cons_of_pos hc]
    refine⟨fun d hd=>?_,?_,ih.2.2⟩
    ·rcases List.mem_cons.1 hd with rfl|hd
     ·exact hc
     ·exact ih.1 d hd
    ·rw[List.cons_append];exact congrArg _ ih.2.1
   ·rw[List.takeWhile_cons_of_neg hc]
    exact⟨fun d hd=>(by cases hd),rfl,fun d hd=>by
 have:c=d:=by simpa using hd
 rw[←this];simpa using hc⟩
 obtain⟨h1,h2,h3⟩:=key (p.s.drop p.pos)
 unfold Ps.skip
 rw[←List.drop_drop]
 exact⟨_,h1,h2,h3⟩
theorem skip_of{q:Ps}{g l:Bs8}(h:q.s.drop q.pos=g++l)(hg:∀c∈g,spL.contains c=true)(hl:∀c,l.head? =some c→spL.contains c=false):q.s.drop q.skip=l:=by
 unfold Ps.skip
 rw[←List.drop_drop,h,tw_stop hg hl,List.drop_left]
def Co(m:Bs8)(p q:Ps):Prop:=p.fail=false∧q.fail=false∧
 ((p.k≠0∧p.k=q.k∧p.tx=q.tx∧q.s.drop q.pos=p.s.drop p.pos++m)∨(p.k=0∧(q.k,q.tx)=(4,tShut)∧q.adv.k=0))
section
variable{m:Bs8}
theorem Co.adv0(hb:brk m)(hq:∀c∈m,c≠34)(hm:Lex m [(4,tShut),(0,[])]){p q:Ps}(hp:p.fail=false)(hf:q.fail=false){g:Bs8}(hg:∀c∈g,spL.contains c=true)(h:q.s.drop q.pos=g++(p.s.drop p.pos++m)):Co m p.adv q.adv:=by
 refine⟨by rw[adv_fail,hp],by rw[adv_fail,hf],?_⟩
 obtain⟨g2,hg2,hs,hh⟩:=skip_split p
 by_cases hl:p.s.drop p.skip=[]
 ·right
  obtain⟨a1,_,_⟩:=adv_tok p
  rw[hl] at a1 hs
  rw[hs,List.append_nil] at h
  have hx:=Lex.sps hg (Lex.sps hg2 hm) q h
  exact⟨a1,hx.1,congrArg Prod.fst hx.2.1⟩
 ·left
  rw[hs] at h
  have hsk:q.s.drop q.skip=p.s.drop p.skip++m:=skip_of (g:=g++g2) (by rw[h];simp) (fun c hc=>by
 rcases List.mem_append.1 hc with hc|hc
 ·exact hg c hc
 ·exact hg2 c hc) fun c hc=>by
   cases hd:p.s.drop p.skip with
   |nil=>exact absurd hd hl
   |cons d r=>
    rw[hd] at hc hh
    exact hh c hc
  obtain⟨a1,a2,a3⟩:=adv_tok p
  obtain⟨b1,b2,b3⟩:=adv_tok q
  rw[hsk,tokOf_app hb hq hl] at b1 b2 b3
  refine⟨?_,by rw[a1,b1],by rw[a2,b2],?_⟩
  ·rw[a1]
   cases hd:p.s.drop p.skip with
   |nil=>exact absurd hd hl
   |cons c r=>
    rw[tokOf]
    split
    ·simp
    ·split
     ·simp
     ·split
      ·split
       ·split<;>simp
       ·simp
      ·split<;>simp
  ·rw[b3,a3,List.drop_append_of_le_length (tokOf_len _)]
theorem Co.adv{p q:Ps}(hb:brk m)(hq:∀c∈m,c≠34)(hm:Lex m [(4,tShut),(0,[])])(h:Co m p q)(hk:p.tokd):Co m p.adv q.adv:=by
 obtain⟨h1,h2,⟨_,_,_,h3⟩|⟨h3,_⟩⟩:=h
 ·exact Co.adv0 hb hq hm h1 h2 (g:=[]) (fun c hc=>by cases hc) h3
 ·rcases hk with h|h|h|h<;>rw[h3] at h<;>cases h
theorem Co.is_t{p q:Ps}(h:Co m p q){x:Bs8}(hi:p.is x=true):q.is x=true:=by
 obtain⟨h1,h2,⟨_,h3,h4,_⟩|⟨h3,_⟩⟩:=h
 ·unfold Ps.is at hi ⊢
  rw[h1] at hi
  rw[h2,←h3,←h4];exact hi
 ·rcases(is_k hi).1 with h|h<;>rw[h3] at h<;>cases h
theorem Co.is_f{p q:Ps}(h:Co m p q){x:Bs8}(hx:x≠tShut)(hi:p.is x=false):q.is x=false:=by
 obtain⟨h1,h2,⟨_,h3,h4,_⟩|⟨h3,h4,_⟩⟩:=h
 ·unfold Ps.is at hi ⊢
  rw[h1] at hi
  rw[h2,←h3,←h4];exact hi
 ·rw[is_tk h2 h4]
  unfold tIs
  rw[beq_false_of_ne (fun e=>hx e.symm),Bool.and_false]
theorem Co.op{p q:Ps}(h:Co m p q)(n:Nat):opAt n q=opAt n p:=by
 unfold opAt
 congr 1
 have:∀o∈opsT,(o.2.2==n&&q.is o.1)=(o.2.2==n&&p.is o.1):=fun o ho=>by
  cases hp:p.is o.1 with
  |true=>rw[h.is_t hp]
  |false=>
   have hne:∀o∈opsT,o.1≠tShut:=by decide
   rw[h.is_f (hne o ho) hp]
 generalize opsT=L at this
 induction L with
 |nil=>rfl
 |cons o L ih=>rw[List.find?_cons,List.find?_cons,this o (List.mem_cons_self ..),ih fun o ho=>this o (List.mem_cons_of_mem _ ho)]
theorem Co.fn{p q:Ps}(h:Co m p q):funAt q=funAt p:=by
 unfold funAt
 congr 1
 have:∀o∈funT,q.is o.1=p.is o.1:=fun o ho=>by
  cases hp:p.is o.1 with
  |true=>rw[h.is_t hp]
  |false=>
   have hne:∀o∈funT,o.1≠tShut:=by decide
   rw[h.is_f (hne o ho) hp]
 generalize funT=L at this
 induction L with
 |nil=>rfl
 |cons o L ih=>rw[List.find?_cons,List.find?_cons,this o (List.mem_cons_self ..),ih fun o ho=>this o (List.mem_cons_of_mem _ ho)]
theorem Co.k{p q:Ps}(h:Co m p q)(hk:p.tokd):q.k=p.k∧q.tx=p.tx:=by
 obtain⟨h1,h2,⟨_,h3,h4,_⟩|⟨h3,_⟩⟩:=h
 ·exact⟨h3.symm,h4.symm⟩
 ·rcases hk with h|h|h|h<;>rw[h3] at h<;>cases h
def Kd.reads:Kd→Ps→XT→Ps→Prop
 | .lv n=>LV n
 | .sv n a=>SV n a
 | .pv=>PV
 | .av op e n i l=>AV op e n i l
end
end Go.Via
namespace Go.Proofs.YtfijbadahkmhbaaGreatDoor
open Go Go.RowKit Go.Via
abbrev QBr(g:Nat)(kind:Int)(b:Option Nat)(l:List Bs8)(cap:Nat){x:XT}(z:XR x):Blk:=⟨some g,39,[.int .i64 kind,slv b 0 l.length cap,.int .i64 z.op,.string z.nm,.bool z.b1,.string z.s1,.bool z.b2,.string z.s2,.slice z.a z.n z.cap],9,false⟩
end Go.Proofs.YtfijbadahkmhbaaGreatDoor
