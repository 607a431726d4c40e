/-
  Part 12 (chapter 43): lemmas, walks. Each theorem states its own conditions.
-/
import Derived.Test.YtfijbadahkmhbaaGreatDoorA04
import Derived.Test.YtfijbadahkmhbaaGreatDoorA07
import Derived.Test.YtfijbadahkmhbaaGreatDoorA09
import Derived.Test.YtfijbadahkmhbaaGreatDoorA10
import Derived.Test.YtfijbadahkmhbaaGreatDoorA11
set_option linter.unusedVariables false
set_option linter.unusedSimpArgs false
set_option maxRecDepth 20000
set_option maxHeartbeats 20000000
namespace Go.Proofs.YtfijbadahkmhbaaGreatDoor
open Go Go.RowKit Go.Via
theorem c_write_leaf{x:XT}(z:XR x)(m:Int)(H:∀y:XT,y.size<x.size→WriC m y)(hok:okX x)(hf:x.fit=true)(hM:x.size≤1000000000)(lv g:Nat)(a:Bool)(d:Bd)(hd:d.ok)(hop:opsT.find? (fun f=>decide ((f.2.1:Int)=x.op))=none)(hkind:¬sw6 x.op→funT.find? (fun f=>decide ((f.2.1:Int)=x.op))≠none)(hb:d.s.length+(swS x++fnL x funT).length≤17179869184):ECall Tryz.prog 96 [BB g a d,BF d,gB z.T false,GM m] [.pointer (some ⟨g,0,none⟩),z.v,.int .i64 (lv:Nat)] (BdX (d.s++(swS x++fnL x funT))) (fun _=> .tuple #[]) (fun d'=>[BB g true d'.1,BF d'.1]):=by
 refine⟨by kernel_rfl,fun B w hD hL0=>?_⟩;obtain⟨hfn,hfu,hfs⟩:=XT.fit_parts hf;have hnum:=nodeE_num (okX_parts hok).1;refine calls_atD (args:=[.pointer (some ⟨g,0,none⟩),z.v,.int .i64 (lv:Nat)]) Tryz.func96 rfl (Nat.le_of_ble_eq_true rfl) hL0 ?_;show At B ⟨136,[(0,.pointer (some ⟨g,0,none⟩)),(1,z.v),(2,.int .i64 (lv:Nat))],[BB g a d,BF d,gB z.T false,GM m]⟩ _;refine A2 ?_;refine Bo [_,_,_,_,_,_,_] 7 (fun g=>[_,_,_,_,⟨some g,30,_,7,true⟩]) (fun g0=>?_);refine A5 ?_;refine r_scall [] [] rfl rfl rfl c_syntax_operators trivial rfl (.inr fun _ b hb=>by rw[List.mem_singleton.1 hb]) (fun go=>?_);refine A5 ?_;refine El (ι:={i:Nat // i≤12}) (fun⟨i,hi⟩=>([(0,.pointer (some ⟨g,0,none⟩)),(2,.int .i64 (lv:Nat)),(4,.pointer (some ⟨g0,0,none⟩)),(12,slv (some go) 0 12 12),(13,.int .i64 12),(14,.int .i64 (i:Nat))],[BB g a d,BF d,gB z.T false,GM m,XB g0 z,⟨some go,110,tabC opsT,36,true⟩],12-i)) ⟨0,Nat.zero_le _⟩ ?_ (hL:=Weak.auto);rintro⟨i,hi⟩;(try dsimp only);refine A6 ?_;refine at_cond rfl (fun hb1=>?_) (fun hb1=>?_)
 ·
  have hlt:i<12:=(by have:=of_decide_eq_true hb1;omega)
  obtain⟨o,ho⟩:∃o,opsT[i]? =some o:=⟨opsT[i]'(by show i<12;exact hlt),List.getElem?_eq_getElem _⟩
  have hne:(o.2.1:Int)≠x.op:=by have:=List.find?_eq_none.1 hop o (List.mem_of_getElem? ho);simpa using this
  refine A6 ?_;refine Ix 5 (i*3) ?_;refine r_load (v:= .agg #[.string (strU o.1),.int .i64 (o.2.1:Nat),.int .i64 (o.2.2:Nat)]) 5 (i*3) _ rfl rfl rfl rfl ti110 (tabC_get ho) rfl (by decide) rfl ?_;refine r_alloc [_,_,_] 3 (fun g=>[_,_,_,_,_,_,⟨some g,110,_,3,true⟩]) rfl rfl z110 rfl rfl (fun _=>rfl) (fun g1=>?_);refine So 6 0 [_,_,_,_,_,_,⟨some g1,110,_,3,true⟩] [_,_,_] ?_;refine A9 ?_;refine r_know 21 (.int .i64 x.op) rfl (by rw[z.inv.1]) ?_;refine A3 ?_;refine at_cond rfl (fun hb2=>?_) (fun hb2=>?_)
  ·
   refine A5 ?_;refine Ar (((i+1:Nat):Int)) ?_;refine A3 ?_;exact Nl ⟨i+1,hlt⟩ (hL:=Weak.auto)
  ·exact absurd (by have hh:=hb2;simpa using hh) hne
 ·
  refine A10 ?_;refine r_know 73 (.int .i64 x.op) rfl (by rw[z.inv.1]) ?_;refine A9 ?_;refine at_cond rfl (fun hb2=>?_) (fun hb2=>?_)
  ·
   have h1:x.op=1:=by simpa using hb2
   have hsw:swS x=ratS x.num.rat:=by unfold swS;rw[if_pos h1]
   obtain⟨hq1,hq2⟩:=NumV.rat_ok z.inv.2.2.1 hfu (hnum.1 h1);refine at_regionM ?_;refine A2 ?_;refine r_load 4 2 [_,_,_,_] rfl rfl rfl rfl ti27 rfl rfl rfl rfl ?_;refine r_know 78 (Q x.num.rat) rfl hq1 ?_;refine Pc (c_rational_Print x.num.rat hq2) ?_;refine Gm 2 [0,1] [] (fun d1=>[BB g true d1.1,BF d1.1,_,_,_,_]) (c_b_WriteString g a d (ratS x.num.rat) hd (by have h:=hb;simp only[hsw,List.length_append,List.length_cons,List.length_nil] at h ⊢;omega)) (fun⟨d1,hd1,e1⟩=>?_);refine A5 ?_;refine r_scall [] [] rfl rfl rfl c_syntax_functions trivial rfl (.inr fun _ b hb=>by rw[List.mem_singleton.1 hb]) (fun gf=>?_);refine A5 ?_;refine El (ι:={r:Nat×Bool×Bd // r.1≤12∧r.2.2.ok∧r.2.2.s=d.s++(swS x++fnL x (funT.take r.1))∧(r.2.1=true∨((funT.take r.1).find? (fun f=>decide ((f.2.1:Int)=x.op))=none∧¬sw6 x.op))}) (fun⟨⟨i,a2,q⟩,hi,hq,hs,hA⟩=>([(0,.pointer (some ⟨g,0,none⟩)),(4,.pointer (some ⟨g0,0,none⟩)),(117,slv (some gf) 0 12 12),(118,.int .i64 12),(119,.int .i64 (i:Nat))],[BB g a2 q,BF q,gB z.T false,GM m,XB g0 z,⟨some gf,114,tabC funT,36,true⟩],12-i)) ⟨(0,true,d1),Nat.zero_le _,hd1,by rw[e1];rw[hsw];simp[fnL],.inl rfl⟩ ?_ (hL:=(weak_pk [some 0,some 1,some 2,some 3,some 4,some 6]));rintro⟨⟨i,a2,q⟩,hi,hq,hs,hA⟩;(try dsimp only);dsimp only at hi hq hs hA;refine A6 ?_;refine at_cond rfl (fun hb4=>?_) (fun hb4=>?_)
   ·
    have hlt:i<12:=(by have:=of_decide_eq_true hb4;omega)
    obtain⟨o,ho⟩:∃o,funT[i]? =some o:=⟨funT[i]'(by show i<12;exact hlt),List.getElem?_eq_getElem _⟩
    have hst:=fnL_step x ho;have hle:=fnL_le x funT (i+1);refine A6 ?_;refine Ix 5 (i*3) ?_;refine r_load (v:= .agg #[.string (strU o.1),.int .i64 (o.2.1:Nat),.int .i64 (o.2.2:Nat)]) 5 (i*3) _ rfl rfl rfl rfl ti114 (tabC_get ho) rfl (by decide) rfl ?_;refine r_alloc [_,_,_] 3 (fun g=>[_,_,_,_,_,_,⟨some g,114,_,3,true⟩]) rfl rfl z114 rfl rfl (fun _=>rfl) (fun g1=>?_);refine So 6 0 [_,_,_,_,_,_,⟨some g1,114,_,3,true⟩] [_,_,_] ?_;refine A8 ?_;refine r_know 126 (.int .i64 x.op) rfl (by rw[z.inv.1]) ?_;refine A3 ?_;refine at_cond rfl (fun hb5=>?_) (fun hb5=>?_)
    ·
     have hm:(o.2.1:Int)=x.op:=by simpa using hb5
     rw[if_pos hm] at hst;have hjs:=congrArg List.length hst;refine at_regionM ?_;refine A3 ?_;refine r_addS (p:=o.1) (q:=[40]) rfl rfl rfl rfl rfl rfl rfl (by have h:=hb;simp only[List.length_append,List.length_cons,List.length_nil] at h hjs ⊢;omega) ?_;refine A2 ?_;refine Gm 2 [0,1] [2,3] (fun(d1:BdX (q.s++((o.1++[40])++joinC (txtLs x.args)++[41])))=>[BB g true d1.1,BF d1.1,_,_,_,_,_]) (c_list_step z m H hok hf hM (o.1++[40]) [41] g a2 q hq (by have h:=hb;simp only[hs,List.length_append,List.length_cons,List.length_nil] at h hjs ⊢;omega)) (fun⟨d3,hd3,e3⟩=>?_);refine A4 ?_;refine Ar (((i+1:Nat):Int)) ?_;refine A3 ?_;exact Nl ⟨(i+1,true,d3),hlt,hd3,by rw[e3,hs,hst];simp only[List.append_assoc],.inl rfl⟩ (hL:=Weak.auto)
    ·
     have hm:(o.2.1:Int)≠x.op:=by simpa using hb5
     rw[if_neg hm] at hst;have hjs:=congrArg List.length hst;refine A4 ?_;refine Ar (((i+1:Nat):Int)) ?_;refine A3 ?_;exact Nl ⟨(i+1,a2,q),hlt,hq,by rw[hs,hst,List.append_nil],hA.imp id (fun h=>⟨find_none_step h.1 ho (by simpa using hm),h.2⟩)⟩ (hL:=Weak.auto)
   ·
    have hge:i=12:=(by have:=of_decide_eq_false hb4;omega)
    subst hge;refine A4 ?_
    refine at_end0nD rfl (fun w hL=>by
 have ha:a2=true:=by
  rcases hA with h|⟨h,hk⟩
  ·exact h
  ·exact absurd (find_none_all h (Nat.le_refl _)) (hkind hk)
 subst ha
 exact⟨⟨q,hq,hs⟩,rfl,hL.pk [some 0,some 1]⟩)
  ·
   have h1:x.op≠1:=by simpa using hb2
   refine A6 ?_;refine at_cond rfl (fun hb3=>?_) (fun hb3=>?_)
   ·
    have h4:x.op=4:=by simpa using hb3
    have hsw:swS x=x.name:=by unfold swS;rw[if_neg h1,if_pos h4]
    refine at_regionM ?_;refine A3 ?_;refine r_know 85 (.string (strU x.name)) rfl (by rw[z.inv.2.1]) ?_;refine Gm 2 [0,1] [] (fun d1=>[BB g true d1.1,BF d1.1,_,_,_,_]) (c_b_WriteString g a d x.name hd (by have h:=hb;simp only[hsw,List.length_append,List.length_cons,List.length_nil] at h ⊢;omega)) (fun⟨d1,hd1,e1⟩=>?_);refine A5 ?_;refine r_scall [] [] rfl rfl rfl c_syntax_functions trivial rfl (.inr fun _ b hb=>by rw[List.mem_singleton.1 hb]) (fun gf=>?_);refine A5 ?_;refine El (ι:={r:Nat×Bool×Bd // r.1≤12∧r.2.2.ok∧r.2.2.s=d.s++(swS x++fnL x (funT.take r.1))∧(r.2.1=true∨((funT.take r.1).find? (fun f=>decide ((f.2.1:Int)=x.op))=none∧¬sw6 x.op))}) (fun⟨⟨i,a2,q⟩,hi,hq,hs,hA⟩=>([(0,.pointer (some ⟨g,0,none⟩)),(4,.pointer (some ⟨g0,0,none⟩)),(117,slv (some gf) 0 12 12),(118,.int .i64 12),(119,.int .i64 (i:Nat))],[BB g a2 q,BF q,gB z.T false,GM m,XB g0 z,⟨some gf,114,tabC funT,36,true⟩],12-i)) ⟨(0,true,d1),Nat.zero_le _,hd1,by rw[e1];rw[hsw];simp[fnL],.inl rfl⟩ ?_ (hL:=(weak_pk [some 0,some 1,some 2,some 3,some 4,some 6]));rintro⟨⟨i,a2,q⟩,hi,hq,hs,hA⟩;(try dsimp only);dsimp only at hi hq hs hA;refine A6 ?_;refine at_cond rfl (fun hb5=>?_) (fun hb5=>?_)
    ·
     have hlt:i<12:=(by have:=of_decide_eq_true hb5;omega)
     obtain⟨o,ho⟩:∃o,funT[i]? =some o:=⟨funT[i]'(by show i<12;exact hlt),List.getElem?_eq_getElem _⟩
     have hst:=fnL_step x ho;have hle:=fnL_le x funT (i+1);refine A6 ?_;refine Ix 5 (i*3) ?_;refine r_load (v:= .agg #[.string (strU o.1),.int .i64 (o.2.1:Nat),.int .i64 (o.2.2:Nat)]) 5 (i*3) _ rfl rfl rfl rfl ti114 (tabC_get ho) rfl (by decide) rfl ?_;refine r_alloc [_,_,_] 3 (fun g=>[_,_,_,_,_,_,⟨some g,114,_,3,true⟩]) rfl rfl z114 rfl rfl (fun _=>rfl) (fun g1=>?_);refine So 6 0 [_,_,_,_,_,_,⟨some g1,114,_,3,true⟩] [_,_,_] ?_;refine A8 ?_;refine r_know 126 (.int .i64 x.op) rfl (by rw[z.inv.1]) ?_;refine A3 ?_;refine at_cond rfl (fun hb6=>?_) (fun hb6=>?_)
     ·
      have hm:(o.2.1:Int)=x.op:=by simpa using hb6
      rw[if_pos hm] at hst;have hjs:=congrArg List.length hst;refine at_regionM ?_;refine A3 ?_;refine r_addS (p:=o.1) (q:=[40]) rfl rfl rfl rfl rfl rfl rfl (by have h:=hb;simp only[List.length_append,List.length_cons,List.length_nil] at h hjs ⊢;omega) ?_;refine A2 ?_;refine Gm 2 [0,1] [2,3] (fun(d1:BdX (q.s++((o.1++[40])++joinC (txtLs x.args)++[41])))=>[BB g true d1.1,BF d1.1,_,_,_,_,_]) (c_list_step z m H hok hf hM (o.1++[40]) [41] g a2 q hq (by have h:=hb;simp only[hs,List.length_append,List.length_cons,List.length_nil] at h hjs ⊢;omega)) (fun⟨d3,hd3,e3⟩=>?_);refine A4 ?_;refine Ar (((i+1:Nat):Int)) ?_;refine A3 ?_;exact Nl ⟨(i+1,true,d3),hlt,hd3,by rw[e3,hs,hst];simp only[List.append_assoc],.inl rfl⟩ (hL:=Weak.auto)
     ·
      have hm:(o.2.1:Int)≠x.op:=by simpa using hb6
      rw[if_neg hm] at hst;have hjs:=congrArg List.length hst;refine A4 ?_;refine Ar (((i+1:Nat):Int)) ?_;refine A3 ?_;exact Nl ⟨(i+1,a2,q),hlt,hq,by rw[hs,hst,List.append_nil],hA.imp id (fun h=>⟨find_none_step h.1 ho (by simpa using hm),h.2⟩)⟩ (hL:=Weak.auto)
    ·
     have hge:i=12:=(by have:=of_decide_eq_false hb5;omega)
     subst hge;refine A4 ?_
     refine at_end0nD rfl (fun w hL=>by
 have ha:a2=true:=by
  rcases hA with h|⟨h,hk⟩
  ·exact h
  ·exact absurd (find_none_all h (Nat.le_refl _)) (hkind hk)
 subst ha
 exact⟨⟨q,hq,hs⟩,rfl,hL.pk [some 0,some 1]⟩)
   ·
    have h4:x.op≠4:=by simpa using hb3
    refine A6 ?_;refine at_cond rfl (fun hb4=>?_) (fun hb4=>?_)
    ·
     have h3:x.op=3:=by simpa using hb4
     have hsw:swS x=sObject++ratS x.num.rat++[41]:=by unfold swS;rw[if_neg h1,if_neg h4,if_pos h3]
     obtain⟨hq1,hq2⟩:=NumV.rat_ok z.inv.2.2.1 hfu (hnum.2 h3);refine at_regionM ?_;refine A2 ?_;refine r_load 4 2 [_,_,_,_] rfl rfl rfl rfl ti27 rfl rfl rfl rfl ?_;refine r_know 91 (Q x.num.rat) rfl hq1 ?_;refine Pc (c_rational_Print x.num.rat hq2) ?_;refine r_addS (p:=sObject) (q:=ratS x.num.rat) rfl rfl rfl rfl rfl rfl rfl (by have h:=hb;simp only[hsw,List.length_append,List.length_cons,List.length_nil] at h ⊢;omega) ?_;refine r_addS (p:=sObject++ratS x.num.rat) (q:=[41]) rfl rfl rfl rfl rfl rfl rfl (by have h:=hb;simp only[hsw,List.length_append,List.length_cons,List.length_nil] at h ⊢;omega) ?_;refine Gm 2 [0,1] [] (fun d1=>[BB g true d1.1,BF d1.1,_,_,_,_]) (c_b_WriteString g a d (sObject++ratS x.num.rat++[41]) hd (by have h:=hb;simp only[hsw,List.length_append,List.length_cons,List.length_nil] at h ⊢;omega)) (fun⟨d1,hd1,e1⟩=>?_);refine A5 ?_;refine r_scall [] [] rfl rfl rfl c_syntax_functions trivial rfl (.inr fun _ b hb=>by rw[List.mem_singleton.1 hb]) (fun gf=>?_);refine A5 ?_;refine El (ι:={r:Nat×Bool×Bd // r.1≤12∧r.2.2.ok∧r.2.2.s=d.s++(swS x++fnL x (funT.take r.1))∧(r.2.1=true∨((funT.take r.1).find? (fun f=>decide ((f.2.1:Int)=x.op))=none∧¬sw6 x.op))}) (fun⟨⟨i,a2,q⟩,hi,hq,hs,hA⟩=>([(0,.pointer (some ⟨g,0,none⟩)),(4,.pointer (some ⟨g0,0,none⟩)),(117,slv (some gf) 0 12 12),(118,.int .i64 12),(119,.int .i64 (i:Nat))],[BB g a2 q,BF q,gB z.T false,GM m,XB g0 z,⟨some gf,114,tabC funT,36,true⟩],12-i)) ⟨(0,true,d1),Nat.zero_le _,hd1,by rw[e1];rw[hsw];simp[fnL],.inl rfl⟩ ?_ (hL:=(weak_pk [some 0,some 1,some 2,some 3,some 4,some 6]));rintro⟨⟨i,a2,q⟩,hi,hq,hs,hA⟩;(try dsimp only);dsimp only at hi hq hs hA;refine A6 ?_;refine at_cond rfl (fun hb6=>?_) (fun hb6=>?_)
     ·
      have hlt:i<12:=(by have:=of_decide_eq_true hb6;omega)
      obtain⟨o,ho⟩:∃o,funT[i]? =some o:=⟨funT[i]'(by show i<12;exact hlt),List.getElem?_eq_getElem _⟩
      have hst:=fnL_step x ho;have hle:=fnL_le x funT (i+1);refine A6 ?_;refine Ix 5 (i*3) ?_;refine r_load (v:= .agg #[.string (strU o.1),.int .i64 (o.2.1:Nat),.int .i64 (o.2.2:Nat)]) 5 (i*3) _ rfl rfl rfl rfl ti114 (tabC_get ho) rfl (by decide) rfl ?_;refine r_alloc [_,_,_] 3 (fun g=>[_,_,_,_,_,_,⟨some g,114,_,3,true⟩]) rfl rfl z114 rfl rfl (fun _=>rfl) (fun g1=>?_);refine So 6 0 [_,_,_,_,_,_,⟨some g1,114,_,3,true⟩] [_,_,_] ?_;refine A8 ?_;refine r_know 126 (.int .i64 x.op) rfl (by rw[z.inv.1]) ?_;refine A3 ?_;refine at_cond rfl (fun hb7=>?_) (fun hb7=>?_)
      ·
       have hm:(o.2.1:Int)=x.op:=by simpa using hb7
       rw[if_pos hm] at hst;have hjs:=congrArg List.length hst;refine at_regionM ?_;refine A3 ?_;refine r_addS (p:=o.1) (q:=[40]) rfl rfl rfl rfl rfl rfl rfl (by have h:=hb;simp only[List.length_append,List.length_cons,List.length_nil] at h hjs ⊢;omega) ?_;refine A2 ?_;refine Gm 2 [0,1] [2,3] (fun(d1:BdX (q.s++((o.1++[40])++joinC (txtLs x.args)++[41])))=>[BB g true d1.1,BF d1.1,_,_,_,_,_]) (c_list_step z m H hok hf hM (o.1++[40]) [41] g a2 q hq (by have h:=hb;simp only[hs,List.length_append,List.length_cons,List.length_nil] at h hjs ⊢;omega)) (fun⟨d3,hd3,e3⟩=>?_);refine A4 ?_;refine Ar (((i+1:Nat):Int)) ?_;refine A3 ?_;exact Nl ⟨(i+1,true,d3),hlt,hd3,by rw[e3,hs,hst];simp only[List.append_assoc],.inl rfl⟩ (hL:=Weak.auto)
      ·
       have hm:(o.2.1:Int)≠x.op:=by simpa using hb7
       rw[if_neg hm] at hst;have hjs:=congrArg List.length hst;refine A4 ?_;refine Ar (((i+1:Nat):Int)) ?_;refine A3 ?_;exact Nl ⟨(i+1,a2,q),hlt,hq,by rw[hs,hst,List.append_nil],hA.imp id (fun h=>⟨find_none_step h.1 ho (by simpa using hm),h.2⟩)⟩ (hL:=Weak.auto)
     ·
      have hge:i=12:=(by have:=of_decide_eq_false hb6;omega)
      subst hge;refine A4 ?_
      refine at_end0nD rfl (fun w hL=>by
 have ha:a2=true:=by
  rcases hA with h|⟨h,hk⟩
  ·exact h
  ·exact absurd (find_none_all h (Nat.le_refl _)) (hkind hk)
 subst ha
 exact⟨⟨q,hq,hs⟩,rfl,hL.pk [some 0,some 1]⟩)
    ·
     have h3:x.op≠3:=by simpa using hb4
     refine A6 ?_;refine at_cond rfl (fun hb5=>?_) (fun hb5=>?_)
     ·
      have h5:x.op=5:=by simpa using hb5
      have hsw:swS x=sZone++quoS x.name++[34,41]:=by unfold swS;rw[if_neg h1,if_neg h4,if_neg h3,if_pos h5]
      refine at_regionM ?_;refine A3 ?_;refine r_know 100 (.string (strU x.name)) rfl (by rw[z.inv.2.1]) ?_;refine r_scall0 [.string (strU x.name),.string (strU [34]),.string (strU [34,34])] [3] rfl rfl rfl (c_ReplaceAll m x.name hfn) ⟨⟨_,rfl,Blk.le_refl _⟩,trivial⟩ rfl ?_;refine r_addS (p:=sZone) (q:=quoS x.name) rfl rfl rfl rfl rfl rfl rfl (by have h:=hb;simp only[hsw,List.length_append,List.length_cons,List.length_nil] at h ⊢;omega) ?_;refine r_addS (p:=sZone++quoS x.name) (q:=[34,41]) rfl rfl rfl rfl rfl rfl rfl (by have h:=hb;simp only[hsw,List.length_append,List.length_cons,List.length_nil] at h ⊢;omega) ?_;refine Gm 2 [0,1] [] (fun d1=>[BB g true d1.1,BF d1.1,_,_,_,_]) (c_b_WriteString g a d (sZone++quoS x.name++[34,41]) hd (by have h:=hb;simp only[hsw,List.length_append,List.length_cons,List.length_nil] at h ⊢;omega)) (fun⟨d1,hd1,e1⟩=>?_);refine A5 ?_;refine r_scall [] [] rfl rfl rfl c_syntax_functions trivial rfl (.inr fun _ b hb=>by rw[List.mem_singleton.1 hb]) (fun gf=>?_);refine A5 ?_;refine El (ι:={r:Nat×Bool×Bd // r.1≤12∧r.2.2.ok∧r.2.2.s=d.s++(swS x++fnL x (funT.take r.1))∧(r.2.1=true∨((funT.take r.1).find? (fun f=>decide ((f.2.1:Int)=x.op))=none∧¬sw6 x.op))}) (fun⟨⟨i,a2,q⟩,hi,hq,hs,hA⟩=>([(0,.pointer (some ⟨g,0,none⟩)),(4,.pointer (some ⟨g0,0,none⟩)),(117,slv (some gf) 0 12 12),(118,.int .i64 12),(119,.int .i64 (i:Nat))],[BB g a2 q,BF q,gB z.T false,GM m,XB g0 z,⟨some gf,114,tabC funT,36,true⟩],12-i)) ⟨(0,true,d1),Nat.zero_le _,hd1,by rw[e1];rw[hsw];simp[fnL],.inl rfl⟩ ?_ (hL:=(weak_pk [some 0,some 1,some 2,some 3,some 4,some 6]));rintro⟨⟨i,a2,q⟩,hi,hq,hs,hA⟩;(try dsimp only);dsimp only at hi hq hs hA;refine A6 ?_;refine at_cond rfl (fun hb7=>?_) (fun hb7=>?_)
      ·
       have hlt:i<12:=(by have:=of_decide_eq_true hb7;omega)
       obtain⟨o,ho⟩:∃o,funT[i]? =some o:=⟨funT[i]'(by show i<12;exact hlt),List.getElem?_eq_getElem _⟩
       have hst:=fnL_step x ho;have hle:=fnL_le x funT (i+1);refine A6 ?_;refine Ix 5 (i*3) ?_;refine r_load (v:= .agg #[.string (strU o.1),.int .i64 (o.2.1:Nat),.int .i64 (o.2.2:Nat)]) 5 (i*3) _ rfl rfl rfl rfl ti114 (tabC_get ho) rfl (by decide) rfl ?_;refine r_alloc [_,_,_] 3 (fun g=>[_,_,_,_,_,_,⟨some g,114,_,3,true⟩]) rfl rfl z114 rfl rfl (fun _=>rfl) (fun g1=>?_);refine So 6 0 [_,_,_,_,_,_,⟨some g1,114,_,3,true⟩] [_,_,_] ?_;refine A8 ?_;refine r_know 126 (.int .i64 x.op) rfl (by rw[z.inv.1]) ?_;refine A3 ?_;refine at_cond rfl (fun hb8=>?_) (fun hb8=>?_)
       ·
        have hm:(o.2.1:Int)=x.op:=by simpa using hb8
        rw[if_pos hm] at hst;have hjs:=congrArg List.length hst;refine at_regionM ?_;refine A3 ?_;refine r_addS (p:=o.1) (q:=[40]) rfl rfl rfl rfl rfl rfl rfl (by have h:=hb;simp only[List.length_append,List.length_cons,List.length_nil] at h hjs ⊢;omega) ?_;refine A2 ?_;refine Gm 2 [0,1] [2,3] (fun(d1:BdX (q.s++((o.1++[40])++joinC (txtLs x.args)++[41])))=>[BB g true d1.1,BF d1.1,_,_,_,_,_]) (c_list_step z m H hok hf hM (o.1++[40]) [41] g a2 q hq (by have h:=hb;simp only[hs,List.length_append,List.length_cons,List.length_nil] at h hjs ⊢;omega)) (fun⟨d3,hd3,e3⟩=>?_);refine A4 ?_;refine Ar (((i+1:Nat):Int)) ?_;refine A3 ?_;exact Nl ⟨(i+1,true,d3),hlt,hd3,by rw[e3,hs,hst];simp only[List.append_assoc],.inl rfl⟩ (hL:=Weak.auto)
       ·
        have hm:(o.2.1:Int)≠x.op:=by simpa using hb8
        rw[if_neg hm] at hst;have hjs:=congrArg List.length hst;refine A4 ?_;refine Ar (((i+1:Nat):Int)) ?_;refine A3 ?_;exact Nl ⟨(i+1,a2,q),hlt,hq,by rw[hs,hst,List.append_nil],hA.imp id (fun h=>⟨find_none_step h.1 ho (by simpa using hm),h.2⟩)⟩ (hL:=Weak.auto)
      ·
       have hge:i=12:=(by have:=of_decide_eq_false hb7;omega)
       subst hge;refine A4 ?_
       refine at_end0nD rfl (fun w hL=>by
 have ha:a2=true:=by
  rcases hA with h|⟨h,hk⟩
  ·exact h
  ·exact absurd (find_none_all h (Nat.le_refl _)) (hkind hk)
 subst ha
 exact⟨⟨q,hq,hs⟩,rfl,hL.pk [some 0,some 1]⟩)
     ·
      have h5:x.op≠5:=by simpa using hb5
      refine A6 ?_;refine at_cond rfl (fun hb6=>?_) (fun hb6=>?_)
      ·
       have h6:x.op=6:=by simpa using hb6
       have hsw:swS x=[91]++joinC (txtLs x.args)++[93]:=by unfold swS;rw[if_neg h1,if_neg h4,if_neg h3,if_neg h5,if_pos h6]
       refine at_regionM ?_;refine A3 ?_;refine Gm 2 [0,1] [2,3] (fun(d1:BdX (d.s++([91]++joinC (txtLs x.args)++[93])))=>[BB g true d1.1,BF d1.1,_,_,_,_]) (c_list_step z m H hok hf hM [91] [93] g a d hd (by have h:=hb;simp only[hsw,List.length_append,List.length_cons,List.length_nil] at h ⊢;omega)) (fun⟨d1,hd1,e1⟩=>?_);refine A5 ?_;refine r_scall [] [] rfl rfl rfl c_syntax_functions trivial rfl (.inr fun _ b hb=>by rw[List.mem_singleton.1 hb]) (fun gf=>?_);refine A5 ?_;refine El (ι:={r:Nat×Bool×Bd // r.1≤12∧r.2.2.ok∧r.2.2.s=d.s++(swS x++fnL x (funT.take r.1))∧(r.2.1=true∨((funT.take r.1).find? (fun f=>decide ((f.2.1:Int)=x.op))=none∧¬sw6 x.op))}) (fun⟨⟨i,a2,q⟩,hi,hq,hs,hA⟩=>([(0,.pointer (some ⟨g,0,none⟩)),(4,.pointer (some ⟨g0,0,none⟩)),(117,slv (some gf) 0 12 12),(118,.int .i64 12),(119,.int .i64 (i:Nat))],[BB g a2 q,BF q,gB z.T false,GM m,XB g0 z,⟨some gf,114,tabC funT,36,true⟩],12-i)) ⟨(0,true,d1),Nat.zero_le _,hd1,by rw[e1];rw[hsw];simp[fnL],.inl rfl⟩ ?_ (hL:=(weak_pk [some 0,some 1,some 2,some 3,some 4,some 6]));rintro⟨⟨i,a2,q⟩,hi,hq,hs,hA⟩;(try dsimp only);dsimp only at hi hq hs hA;refine A6 ?_;refine at_cond rfl (fun hb8=>?_) (fun hb8=>?_)
       ·
        have hlt:i<12:=(by have:=of_decide_eq_true hb8;omega)
        obtain⟨o,ho⟩:∃o,funT[i]? =some o:=⟨funT[i]'(by show i<12;exact hlt),List.getElem?_eq_getElem _⟩
        have hst:=fnL_step x ho;have hle:=fnL_le x funT (i+1);refine A6 ?_;refine Ix 5 (i*3) ?_;refine r_load (v:= .agg #[.string (strU o.1),.int .i64 (o.2.1:Nat),.int .i64 (o.2.2:Nat)]) 5 (i*3) _ rfl rfl rfl rfl ti114 (tabC_get ho) rfl (by decide) rfl ?_;refine r_alloc [_,_,_] 3 (fun g=>[_,_,_,_,_,_,⟨some g,114,_,3,true⟩]) rfl rfl z114 rfl rfl (fun _=>rfl) (fun g1=>?_);refine So 6 0 [_,_,_,_,_,_,⟨some g1,114,_,3,true⟩] [_,_,_] ?_;refine A8 ?_;refine r_know 126 (.int .i64 x.op) rfl (by rw[z.inv.1]) ?_;refine A3 ?_;refine at_cond rfl (fun hb9=>?_) (fun hb9=>?_)
        ·
         have hm:(o.2.1:Int)=x.op:=by simpa using hb9
         rw[if_pos hm] at hst;have hjs:=congrArg List.length hst;refine at_regionM ?_;refine A3 ?_;refine r_addS (p:=o.1) (q:=[40]) rfl rfl rfl rfl rfl rfl rfl (by have h:=hb;simp only[List.length_append,List.length_cons,List.length_nil] at h hjs ⊢;omega) ?_;refine A2 ?_;refine Gm 2 [0,1] [2,3] (fun(d1:BdX (q.s++((o.1++[40])++joinC (txtLs x.args)++[41])))=>[BB g true d1.1,BF d1.1,_,_,_,_,_]) (c_list_step z m H hok hf hM (o.1++[40]) [41] g a2 q hq (by have h:=hb;simp only[hs,List.length_append,List.length_cons,List.length_nil] at h hjs ⊢;omega)) (fun⟨d3,hd3,e3⟩=>?_);refine A4 ?_;refine Ar (((i+1:Nat):Int)) ?_;refine A3 ?_;exact Nl ⟨(i+1,true,d3),hlt,hd3,by rw[e3,hs,hst];simp only[List.append_assoc],.inl rfl⟩ (hL:=Weak.auto)
        ·
         have hm:(o.2.1:Int)≠x.op:=by simpa using hb9
         rw[if_neg hm] at hst;have hjs:=congrArg List.length hst;refine A4 ?_;refine Ar (((i+1:Nat):Int)) ?_;refine A3 ?_;exact Nl ⟨(i+1,a2,q),hlt,hq,by rw[hs,hst,List.append_nil],hA.imp id (fun h=>⟨find_none_step h.1 ho (by simpa using hm),h.2⟩)⟩ (hL:=Weak.auto)
       ·
        have hge:i=12:=(by have:=of_decide_eq_false hb8;omega)
        subst hge;refine A4 ?_
        refine at_end0nD rfl (fun w hL=>by
 have ha:a2=true:=by
  rcases hA with h|⟨h,hk⟩
  ·exact h
  ·exact absurd (find_none_all h (Nat.le_refl _)) (hkind hk)
 subst ha
 exact⟨⟨q,hq,hs⟩,rfl,hL.pk [some 0,some 1]⟩)
      ·
       have h6:x.op≠6:=by simpa using hb6
       refine A6 ?_;refine at_cond rfl (fun hb7=>?_) (fun hb7=>?_)
       ·
        have h2:x.op=2:=by simpa using hb7
        have hsw:swS x=sPoint++joinC (txtLs x.args)++[41]:=by unfold swS;rw[if_neg h1,if_neg h4,if_neg h3,if_neg h5,if_neg h6,if_pos h2]
        refine at_regionM ?_;refine A3 ?_;refine Gm 2 [0,1] [2,3] (fun(d1:BdX (d.s++(sPoint++joinC (txtLs x.args)++[41])))=>[BB g true d1.1,BF d1.1,_,_,_,_]) (c_list_step z m H hok hf hM sPoint [41] g a d hd (by have h:=hb;simp only[hsw,List.length_append,List.length_cons,List.length_nil] at h ⊢;omega)) (fun⟨d1,hd1,e1⟩=>?_);refine A5 ?_;refine r_scall [] [] rfl rfl rfl c_syntax_functions trivial rfl (.inr fun _ b hb=>by rw[List.mem_singleton.1 hb]) (fun gf=>?_);refine A5 ?_;refine El (ι:={r:Nat×Bool×Bd // r.1≤12∧r.2.2.ok∧r.2.2.s=d.s++(swS x++fnL x (funT.take r.1))∧(r.2.1=true∨((funT.take r.1).find? (fun f=>decide ((f.2.1:Int)=x.op))=none∧¬sw6 x.op))}) (fun⟨⟨i,a2,q⟩,hi,hq,hs,hA⟩=>([(0,.pointer (some ⟨g,0,none⟩)),(4,.pointer (some ⟨g0,0,none⟩)),(117,slv (some gf) 0 12 12),(118,.int .i64 12),(119,.int .i64 (i:Nat))],[BB g a2 q,BF q,gB z.T false,GM m,XB g0 z,⟨some gf,114,tabC funT,36,true⟩],12-i)) ⟨(0,true,d1),Nat.zero_le _,hd1,by rw[e1];rw[hsw];simp[fnL],.inl rfl⟩ ?_ (hL:=(weak_pk [some 0,some 1,some 2,some 3,some 4,some 6]));rintro⟨⟨i,a2,q⟩,hi,hq,hs,hA⟩;(try dsimp only);dsimp only at hi hq hs hA;refine A6 ?_;refine at_cond rfl (fun hb9=>?_) (fun hb9=>?_)
        ·
         have hlt:i<12:=(by have:=of_decide_eq_true hb9;omega)
         obtain⟨o,ho⟩:∃o,funT[i]? =some o:=⟨funT[i]'(by show i<12;exact hlt),List.getElem?_eq_getElem _⟩
         have hst:=fnL_step x ho;have hle:=fnL_le x funT (i+1);refine A6 ?_;refine Ix 5 (i*3) ?_;refine r_load (v:= .agg #[.string (strU o.1),.int .i64 (o.2.1:Nat),.int .i64 (o.2.2:Nat)]) 5 (i*3) _ rfl rfl rfl rfl ti114 (tabC_get ho) rfl (by decide) rfl ?_;refine r_alloc [_,_,_] 3 (fun g=>[_,_,_,_,_,_,⟨some g,114,_,3,true⟩]) rfl rfl z114 rfl rfl (fun _=>rfl) (fun g1=>?_);refine So 6 0 [_,_,_,_,_,_,⟨some g1,114,_,3,true⟩] [_,_,_] ?_;refine A8 ?_;refine r_know 126 (.int .i64 x.op) rfl (by rw[z.inv.1]) ?_;refine A3 ?_;refine at_cond rfl (fun hb10=>?_) (fun hb10=>?_)
         ·
          have hm:(o.2.1:Int)=x.op:=by simpa using hb10
          rw[if_pos hm] at hst;have hjs:=congrArg List.length hst;refine at_regionM ?_;refine A3 ?_;refine r_addS (p:=o.1) (q:=[40]) rfl rfl rfl rfl rfl rfl rfl (by have h:=hb;simp only[List.length_append,List.length_cons,List.length_nil] at h hjs ⊢;omega) ?_;refine A2 ?_;refine Gm 2 [0,1] [2,3] (fun(d1:BdX (q.s++((o.1++[40])++joinC (txtLs x.args)++[41])))=>[BB g true d1.1,BF d1.1,_,_,_,_,_]) (c_list_step z m H hok hf hM (o.1++[40]) [41] g a2 q hq (by have h:=hb;simp only[hs,List.length_append,List.length_cons,List.length_nil] at h hjs ⊢;omega)) (fun⟨d3,hd3,e3⟩=>?_);refine A4 ?_;refine Ar (((i+1:Nat):Int)) ?_;refine A3 ?_;exact Nl ⟨(i+1,true,d3),hlt,hd3,by rw[e3,hs,hst];simp only[List.append_assoc],.inl rfl⟩ (hL:=Weak.auto)
         ·
          have hm:(o.2.1:Int)≠x.op:=by simpa using hb10
          rw[if_neg hm] at hst;have hjs:=congrArg List.length hst;refine A4 ?_;refine Ar (((i+1:Nat):Int)) ?_;refine A3 ?_;exact Nl ⟨(i+1,a2,q),hlt,hq,by rw[hs,hst,List.append_nil],hA.imp id (fun h=>⟨find_none_step h.1 ho (by simpa using hm),h.2⟩)⟩ (hL:=Weak.auto)
        ·
         have hge:i=12:=(by have:=of_decide_eq_false hb9;omega)
         subst hge;refine A4 ?_
         refine at_end0nD rfl (fun w hL=>by
 have ha:a2=true:=by
  rcases hA with h|⟨h,hk⟩
  ·exact h
  ·exact absurd (find_none_all h (Nat.le_refl _)) (hkind hk)
 subst ha
 exact⟨⟨q,hq,hs⟩,rfl,hL.pk [some 0,some 1]⟩)
       ·
        have h2:x.op≠2:=by simpa using hb7
        have hsw:swS x=[]:=by unfold swS;rw[if_neg h1,if_neg h4,if_neg h3,if_neg h5,if_neg h6,if_neg h2]
        have hk6:¬sw6 x.op:=fun h=>by unfold sw6 at h;omega
        refine A5 ?_;refine r_scall [] [] rfl rfl rfl c_syntax_functions trivial rfl (.inr fun _ b hb=>by rw[List.mem_singleton.1 hb]) (fun gf=>?_);refine A5 ?_;refine El (ι:={r:Nat×Bool×Bd // r.1≤12∧r.2.2.ok∧r.2.2.s=d.s++(swS x++fnL x (funT.take r.1))∧(r.2.1=true∨((funT.take r.1).find? (fun f=>decide ((f.2.1:Int)=x.op))=none∧¬sw6 x.op))}) (fun⟨⟨i,a2,q⟩,hi,hq,hs,hA⟩=>([(0,.pointer (some ⟨g,0,none⟩)),(4,.pointer (some ⟨g0,0,none⟩)),(117,slv (some gf) 0 12 12),(118,.int .i64 12),(119,.int .i64 (i:Nat))],[BB g a2 q,BF q,gB z.T false,GM m,XB g0 z,⟨some gf,114,tabC funT,36,true⟩],12-i)) ⟨(0,a,d),Nat.zero_le _,hd,by show d.s=_;rw[hsw];simp[fnL],.inr ⟨rfl,hk6⟩⟩ ?_ (hL:=(weak_pk [some 0,some 1,some 2,some 3,some 4,some 6]));rintro⟨⟨i,a2,q⟩,hi,hq,hs,hA⟩;(try dsimp only);dsimp only at hi hq hs hA;refine A6 ?_;refine at_cond rfl (fun hb9=>?_) (fun hb9=>?_)
        ·
         have hlt:i<12:=(by have:=of_decide_eq_true hb9;omega)
         obtain⟨o,ho⟩:∃o,funT[i]? =some o:=⟨funT[i]'(by show i<12;exact hlt),List.getElem?_eq_getElem _⟩
         have hst:=fnL_step x ho;have hle:=fnL_le x funT (i+1);refine A6 ?_;refine Ix 5 (i*3) ?_;refine r_load (v:= .agg #[.string (strU o.1),.int .i64 (o.2.1:Nat),.int .i64 (o.2.2:Nat)]) 5 (i*3) _ rfl rfl rfl rfl ti114 (tabC_get ho) rfl (by decide) rfl ?_;refine r_alloc [_,_,_] 3 (fun g=>[_,_,_,_,_,_,⟨some g,114,_,3,true⟩]) rfl rfl z114 rfl rfl (fun _=>rfl) (fun g1=>?_);refine So 6 0 [_,_,_,_,_,_,⟨some g1,114,_,3,true⟩] [_,_,_] ?_;refine A8 ?_;refine r_know 126 (.int .i64 x.op) rfl (by rw[z.inv.1]) ?_;refine A3 ?_;refine at_cond rfl (fun hb10=>?_) (fun hb10=>?_)
         ·
          have hm:(o.2.1:Int)=x.op:=by simpa using hb10
          rw[if_pos hm] at hst;have hjs:=congrArg List.length hst;refine at_regionM ?_;refine A3 ?_;refine r_addS (p:=o.1) (q:=[40]) rfl rfl rfl rfl rfl rfl rfl (by have h:=hb;simp only[List.length_append,List.length_cons,List.length_nil] at h hjs ⊢;omega) ?_;refine A2 ?_;refine Gm 2 [0,1] [2,3] (fun(d1:BdX (q.s++((o.1++[40])++joinC (txtLs x.args)++[41])))=>[BB g true d1.1,BF d1.1,_,_,_,_,_]) (c_list_step z m H hok hf hM (o.1++[40]) [41] g a2 q hq (by have h:=hb;simp only[hs,List.length_append,List.length_cons,List.length_nil] at h hjs ⊢;omega)) (fun⟨d3,hd3,e3⟩=>?_);refine A4 ?_;refine Ar (((i+1:Nat):Int)) ?_;refine A3 ?_;exact Nl ⟨(i+1,true,d3),hlt,hd3,by rw[e3,hs,hst];simp only[List.append_assoc],.inl rfl⟩ (hL:=Weak.auto)
         ·
          have hm:(o.2.1:Int)≠x.op:=by simpa using hb10
          rw[if_neg hm] at hst;have hjs:=congrArg List.length hst;refine A4 ?_;refine Ar (((i+1:Nat):Int)) ?_;refine A3 ?_;exact Nl ⟨(i+1,a2,q),hlt,hq,by rw[hs,hst,List.append_nil],hA.imp id (fun h=>⟨find_none_step h.1 ho (by simpa using hm),h.2⟩)⟩ (hL:=Weak.auto)
        ·
         have hge:i=12:=(by have:=of_decide_eq_false hb9;omega)
         subst hge;refine A4 ?_
         refine at_end0nD rfl (fun w hL=>by
 have ha:a2=true:=by
  rcases hA with h|⟨h,hk⟩
  ·exact h
  ·exact absurd (find_none_all h (Nat.le_refl _)) (hkind hk)
 subst ha
 exact⟨⟨q,hq,hs⟩,rfl,hL.pk [some 0,some 1]⟩)
theorem c_b_WriteByteD(g:Nat)(a:Bool)(d:Bd)(c:UInt8)(hd:d.ok)(hm:d.s.length+1≤17179869184):ECallD Tryz.prog 124 [BB g a d,BF d] [.pointer (some ⟨g,0,none⟩),.int .u8 (c.toNat:Nat)] (BdX (d.s++[c])) (fun _=> .nilIface) (fun x=>[BB g true x.1,BF x.1]):=by
 refine⟨by kernel_rfl,fun B w hD hL0=>?_⟩;obtain⟨hd1,hd2,hd3⟩:=hd;refine callsD_atB (args:=[.pointer (some ⟨g,0,none⟩),.int .u8 (c.toNat:Nat)]) Tryz.func124 rfl (Nat.le_of_ble_eq_true rfl) hL0 ?_;show At B ⟨17,[(0,.pointer (some ⟨g,0,none⟩)),(1,.int .u8 (c.toNat:Nat))],[BB g a d,BF d]⟩ _;refine A6 ?_;refine at_regionM ?_;refine A1 ?_;refine Gm 1 [0] [] (fun _=>[BB g true d,BF d]) (c_b_copyCheck g a d) (fun _=>?_);refine A10 ?_;refine r_buildSlice [(0,_)] (fun g=>[_,_,⟨some g,5,_,1,true⟩]) rfl rfl rfl (bs125_1) rfl (fun _=>rfl) (fun g0=>?_);refine q_append (b2o:=g0) (b:=BF d) (len:=d.s.length) (n2:=1) 1 2 (fun r=>[BB g true d,⟨some r.g,5,NB d.s++[.int .u8 (c.toNat:Nat)],r.n,true⟩,_]) u125 el5 rfl rfl rfl rfl rfl rfl rfl rfl rfl rfl rfl rfl (by rw[NB_length,Nat.mul_one]) hd1 (by rw[Nat.mul_one];exact hd2) rfl (fun v hv=>by rw[List.mem_singleton.1 hv];rfl) hm (fun r=>rfl) (fun r=>?_);refine A2 ?_;refine So 0 1 [⟨some g,127,_,2,true⟩,_,_] [_,_] ?_;refine A8 ?_;refine at_end1 rfl (res_tmp rfl) (fun w hL=>wb_fin r _ hL)
end Go.Proofs.YtfijbadahkmhbaaGreatDoor
namespace Go.Via
open Go Go.RowKit
noncomputable def inS(x:XT)(o:Bs8×Nat×Nat):Bs8:=
 if o.2.2=3 then sNot++txtAt x.args 0 3 else txtAt x.args 0 (if o.2.2=4 then 5 else o.2.2)++([32]++o.1++[32])++txtAt x.args 1 (o.2.2+1)
theorem txt_op{x:XT}{o:Bs8×Nat×Nat}(h:opsT.find? (fun f=>decide ((f.2.1:Int)=x.op))=some o)(lv:Nat):txt x lv=if o.2.2<lv then[40]++inS x o++[41] else inS x o:=by
 cases x with
 |mk op nm u l=>
  have hop:(XT.mk op nm u l).op=op:=rfl
  rw[hop] at h
  rw[txt,h]
  rfl
theorem op_args{x:XT}{o:Bs8×Nat×Nat}(hn:nodeE x=0)(h:opsT.find? (fun f=>decide ((f.2.1:Int)=x.op))=some o):(o.2.2=3→x.args.length=1)∧(o.2.2≠3→x.args.length=2):=by
 have hm:=List.mem_of_find?_eq_some h
 have hp:=List.find?_some h
 have he:(o.2.1:Int)=x.op:=by simpa using hp
 have hc:∀o∈opsT,cntL (o.2.1:Nat)=if o.2.2=3 then 1 else 2:=by decide
 have h1:=hc o hm
 rw[he] at h1
 unfold nodeE at hn
 split at hn
 ·cases hn
 split at hn
 ·cases hn
 rename_i h2
 have h3:((x.args.length:Nat):Int)=cntL x.op:=by
  by_cases e:((x.args.length:Nat):Int)=cntL x.op
  ·exact e
  ·exact absurd (.inl e) h2
 rw[h1] at h3
 refine⟨fun e=>?_,fun e=>?_⟩
 ·rw[if_pos e] at h3;omega
 ·rw[if_neg e] at h3;omega
theorem ops_small{o:Bs8×Nat×Nat}(h:o∈opsT):o.2.2≤7∧o.1.length≤6:=by
 have:∀o∈opsT,o.2.2≤7∧o.1.length≤6:=by decide
 exact this o h
theorem kind_ok{x:XT}(hn:nodeE x=0)(h:opsT.find? (fun f=>decide ((f.2.1:Int)=x.op))=none):¬sw6 x.op→funT.find? (fun f=>decide ((f.2.1:Int)=x.op))≠none:=by
 intro h6 hf
 unfold nodeE at hn
 split at hn
 ·cases hn
 rename_i h1
 have ho:∀f∈opsT,(f.2.1:Int)≠x.op:=fun f hm=>by have:=List.find?_eq_none.1 h f hm;simpa using this
 have e25:x.op≠25:=fun e=>ho ([110,111,116],25,3) (by decide) (by rw[e];rfl)
 refine h1 ?_
 unfold sw6 at h6
 unfold cntL
 rw[if_neg (by omega),if_neg e25,if_neg (by omega),hf]
 dsimp only
 rw[h]
 decide
end Go.Via
namespace Go.Proofs.YtfijbadahkmhbaaGreatDoor
open Go Go.RowKit Go.Via
theorem c_write_op{x:XT}(z:XR x)(m:Int)(H:∀y:XT,y.size<x.size→WriC m y)(hok:okX x)(hf:x.fit=true)(hM:x.size≤1000000000)(lv g:Nat)(hlv9:lv≤9)(a:Bool)(d:Bd)(hd:d.ok)(hop:opsT.find? (fun f=>decide ((f.2.1:Int)=x.op))≠none)(hb:d.s.length+(txt x lv).length≤17179869184):ECall Tryz.prog 96 [BB g a d,BF d,gB z.T false,GM m] [.pointer (some ⟨g,0,none⟩),z.v,.int .i64 (lv:Nat)] (BdX (d.s++txt x lv)) (fun _=> .tuple #[]) (fun d'=>[BB g true d'.1,BF d'.1]):=by
 refine⟨by kernel_rfl,fun B w hD hL0=>?_⟩;obtain⟨hfn,hfu,hfs⟩:=XT.fit_parts hf;have hks:=(okX_parts hok).2;have sNot_len:sNot.length=4:=rfl;obtain⟨hz1,hz2,hz3,hz4,hz5,hz6⟩:=z.inv;refine calls_atD (args:=[.pointer (some ⟨g,0,none⟩),z.v,.int .i64 (lv:Nat)]) Tryz.func96 rfl (Nat.le_of_ble_eq_true rfl) hL0 ?_;show At B ⟨136,[(0,.pointer (some ⟨g,0,none⟩)),(1,z.v),(2,.int .i64 (lv:Nat))],[BB g a d,BF d,gB z.T false,GM m]⟩ _;refine A2 ?_;refine Bo [_,_,_,_,_,_,_] 7 (fun g=>[_,_,_,_,⟨some g,30,_,7,true⟩]) (fun g0=>?_);refine A5 ?_;refine r_scall [] [] rfl rfl rfl c_syntax_operators trivial rfl (.inr fun _ b hb=>by rw[List.mem_singleton.1 hb]) (fun go=>?_);refine A5 ?_;refine El (ι:={i:Nat // i≤12∧(opsT.take i).find? (fun f=>decide ((f.2.1:Int)=x.op))=none}) (fun⟨i,hi,hI⟩=>([(0,.pointer (some ⟨g,0,none⟩)),(2,.int .i64 (lv:Nat)),(4,.pointer (some ⟨g0,0,none⟩)),(12,slv (some go) 0 12 12),(13,.int .i64 12),(14,.int .i64 (i:Nat))],[BB g a d,BF d,gB z.T false,GM m,XB g0 z,⟨some go,110,tabC opsT,36,true⟩],12-i)) ⟨0,Nat.zero_le _,rfl⟩ ?_ (hL:=Weak.auto);rintro⟨i,hi,hI⟩;(try dsimp only);refine A6 ?_;refine at_cond rfl (fun hb1=>?_) (fun hb1=>?_)
 ·
  have hlt:i<12:=(by have:=of_decide_eq_true hb1;omega)
  obtain⟨o,ho⟩:∃o,opsT[i]? =some o:=⟨opsT[i]'(by show i<12;exact hlt),List.getElem?_eq_getElem _⟩
  refine A6 ?_;refine Ix 5 (i*3) ?_;refine r_load (v:= .agg #[.string (strU o.1),.int .i64 (o.2.1:Nat),.int .i64 (o.2.2:Nat)]) 5 (i*3) _ rfl rfl rfl rfl ti110 (tabC_get ho) rfl (by decide) rfl ?_;refine r_alloc [_,_,_] 3 (fun g=>[_,_,_,_,_,_,⟨some g,110,_,3,true⟩]) rfl rfl z110 rfl rfl (fun _=>rfl) (fun g1=>?_);refine So 6 0 [_,_,_,_,_,_,⟨some g1,110,_,3,true⟩] [_,_,_] ?_;refine A9 ?_;refine r_know 21 (.int .i64 x.op) rfl (by rw[z.inv.1]) ?_;refine A3 ?_;refine at_cond rfl (fun hb2=>?_) (fun hb2=>?_)
  ·
   have hne:(o.2.1:Int)≠x.op:=by simpa using hb2
   refine A5 ?_;refine Ar (((i+1:Nat):Int)) ?_;refine A3 ?_;exact Nl ⟨i+1,hlt,find_none_step hI ho (by simpa using hne)⟩ (hL:=Weak.auto)
  ·
   have hm:(o.2.1:Int)=x.op:=by simpa using hb2
   have hfo:opsT.find? (fun f=>decide ((f.2.1:Int)=x.op))=some o:=find_some_at hI ho (by simpa using hm);obtain⟨hn1,hn2⟩:=op_args (okX_parts hok).1 hfo;obtain⟨hl7,htk⟩:=ops_small (List.mem_of_getElem? ho);refine A11 ?_;refine at_cond rfl (fun hb3=>?_) (fun hb3=>?_)
   ·
    have hlv:o.2.2<lv:=by have:=of_decide_eq_true hb3;omega
    have htx:txt x lv=[40]++inS x o++[41]:=by rw[txt_op hfo,if_pos hlv]
    refine A1 ?_;refine at_regionM ?_;refine A1 ?_;refine Gm 2 [0,1] [] (fun(d9:BdX (d.s++[40]))=>[BB g true d9.1,BF d9.1,_,_,_,_,_]) (c_b_WriteByte g a d 40 hd (by have h:=hb;simp only[htx,List.length_append,List.length_cons,List.length_nil] at h ⊢;omega)) (fun⟨d0,hd0,e0⟩=>?_);refine A2 ?_;refine at_regionDef [.pointer (some ⟨g,0,none⟩),.int .u8 ((41:UInt8).toNat:Nat)] (l:=[⟨_,_,_,_,_,_⟩]) rfl ?_;refine A1 ?_;refine run_nil ⟨rfl,?_⟩;refine A2 ?_;refine at_drawnI [2000000] mixed (by kernel_rfl) (by kernel_rfl) ?_;refine A4 ?_;refine Ar (((o.2.2+1:Nat):Int)) ?_;refine A18 ?_;refine at_cond rfl (fun hb4=>?_) (fun hb4=>?_)
    ·
     have h3:o.2.2=3:=by have hh:=hb4;simp only[beq_iff_eq,beq_eq_false_iff_ne,ne_eq] at hh ⊢;omega
     have hna1:=hn1 h3
     obtain⟨y,hy⟩:∃y,x.args[0]? =some y:=⟨x.args[0]'(by omega),List.getElem?_eq_getElem _⟩
     obtain⟨ga,oa,ca,u,hza,hma,hra,hTa,hna⟩:=z.arg hy
     have hin:inS x o=sNot++txt y 3:=by unfold inS;rw[if_pos h3,txtAt_get _ hy]
     refine A1 ?_;refine at_regionM ?_;refine A1 ?_;refine Gm 2 [0,1] [] (fun d1=>[BB g true d1.1,BF d1.1,_,_,_,_,_]) (c_b_WriteString g true d0 sNot hd0 (by have h:=hb;simp only[htx,hin,e0,List.length_append,List.length_cons,List.length_nil,sNot_len] at h ⊢;omega)) (fun⟨d1,hd1,e1⟩=>?_);refine A3 ?_;refine at_regionM ?_;refine A3 ?_;refine r_indexAddrG (gg:=ga) (len:=z.n) (cap:=z.cap) (oa+0*7) u28 ti30 rfl rfl (congrArg (fun a=>some (Value.slice a z.n z.cap)) hza) rfl (by omega) (by omega) (by show oa+Int.toNat 0*7=_;rfl) ?_;refine r_loadT (v:=u.v) 2 (oa+0*7) u.cs rfl rfl rfl z.hT hma hna rfl ti30 hra rfl rfl rfl ?_;refine Gm 2 [0,1] [2,3] (fun(d9:BdX (d1.s++txt y (3)))=>[BB g true d9.1,BF d9.1,_,_,_,_,_]) (by have h:=H y (XT.arg_lt hy) u (3) g true d1 hd1 (okXs_get hks hy) (XT.fits_get hfs hy) (Nat.le_trans (Nat.le_of_lt (XT.arg_lt hy)) hM) (by omega) (by have h:=hb;simp only[htx,hin,e0,e1,List.length_append,List.length_cons,List.length_nil,sNot_len] at h ⊢;omega);rw[hTa] at h;exact h) (fun⟨d2,hd2,e2⟩=>?_);refine A10 ?_;refine at_leave1 (vs:=[.pointer (some ⟨g,0,none⟩),.int .u8 ((41:UInt8).toNat:Nat)]) rfl (by kernel_rfl) (fun w hL=>((c_b_WriteByteD g true d2 41 hd2 (by have h:=hb;simp only[htx,hin,e0,e2,e1,List.length_append,List.length_cons,List.length_nil,sNot_len] at h ⊢;omega)).at (A:=[BB g true d2,BF d2]) (C:=[]) [0,1] [] (by decide) rfl rfl trivial rfl rfl (fun _=>rfl) (fun _=>allOwn rfl) (hL.putD B.D)).mono (fun e u' w' ⟨hu,x1,he,hx⟩=>⟨hu,_,he,⟨⟨x1.1,x1.2.1,by rw[x1.2.2];rw[e2,e1,e0,htx,hin];simp only[List.append_assoc]⟩,rfl,hx.pk [some 0,some 1]⟩⟩)) (by show _::B.D=_;rw[hD])
    ·
     have h3:o.2.2≠3:=by have hh:=hb4;simp only[beq_iff_eq,beq_eq_false_iff_ne,ne_eq] at hh ⊢;omega
     have hna1:=hn2 h3
     obtain⟨y,hy⟩:∃y,x.args[0]? =some y:=⟨x.args[0]'(by omega),List.getElem?_eq_getElem _⟩
     obtain⟨ga,oa,ca,u,hza,hma,hra,hTa,hna⟩:=z.arg hy
     obtain⟨y2,hy2⟩:∃y,x.args[1]? =some y:=⟨x.args[1]'(by omega),List.getElem?_eq_getElem _⟩
     obtain⟨ga2,oa2,ca2,u2,hza2,hma2,hra2,hTa2,hna2⟩:=z.arg hy2;refine A6 ?_;refine at_cond rfl (fun hb5=>?_) (fun hb5=>?_)
     ·
      have h4:o.2.2=4:=by have hh:=hb5;simp only[beq_iff_eq,beq_eq_false_iff_ne,ne_eq] at hh ⊢;omega
      have h45:(if o.2.2=4 then 5 else o.2.2)=o.2.2+1:=by rw[if_pos h4];omega
      have hin:inS x o=txt y (o.2.2+1)++([32]++o.1++[32])++txt y2 (o.2.2+1):=by unfold inS;rw[if_neg h3,h45,txtAt_get _ hy,txtAt_get _ hy2]
      refine A2 ?_;refine Ar (((o.2.2+1:Nat):Int)) ?_;refine A5 ?_;refine at_regionM ?_;refine A3 ?_;refine r_indexAddrG (gg:=ga) (len:=z.n) (cap:=z.cap) (oa+0*7) u28 ti30 rfl rfl (congrArg (fun a=>some (Value.slice a z.n z.cap)) hza) rfl (by omega) (by omega) (by show oa+Int.toNat 0*7=_;rfl) ?_;refine r_loadT (v:=u.v) 2 (oa+0*7) u.cs rfl rfl rfl z.hT hma hna rfl ti30 hra rfl rfl rfl ?_;refine A1 ?_;refine Gm 2 [0,1] [2,3] (fun(d9:BdX (d0.s++txt y (o.2.2+1)))=>[BB g true d9.1,BF d9.1,_,_,_,_,_]) (by have h:=H y (XT.arg_lt hy) u (o.2.2+1) g true d0 hd0 (okXs_get hks hy) (XT.fits_get hfs hy) (Nat.le_trans (Nat.le_of_lt (XT.arg_lt hy)) hM) (by omega) (by have h:=hb;simp only[htx,hin,e0,List.length_append,List.length_cons,List.length_nil,sNot_len] at h ⊢;omega);rw[hTa] at h;exact h) (fun⟨d1,hd1,e1⟩=>?_);refine A3 ?_;refine at_regionM ?_;refine A3 ?_;refine r_addS (p:=[32]) (q:=o.1) rfl rfl rfl rfl rfl rfl rfl (by show 1+_≤_;omega) ?_;refine r_addS (p:=[32]++o.1) (q:=[32]) rfl rfl rfl rfl rfl rfl rfl (by rw[List.length_append];show 1+_+1≤_;omega) ?_;refine Gm 2 [0,1] [] (fun d1=>[BB g true d1.1,BF d1.1,_,_,_,_,_]) (c_b_WriteString g true d1 ([32]++o.1++[32]) hd1 (by have h:=hb;simp only[htx,hin,e0,e1,List.length_append,List.length_cons,List.length_nil,sNot_len] at h ⊢;omega)) (fun⟨d2,hd2,e2⟩=>?_);refine A3 ?_;refine at_regionM ?_;refine A3 ?_;refine r_indexAddrG (gg:=ga2) (len:=z.n) (cap:=z.cap) (oa2+1*7) u28 ti30 rfl rfl (congrArg (fun a=>some (Value.slice a z.n z.cap)) hza2) rfl (by omega) (by omega) (by show oa2+Int.toNat 1*7=_;rfl) ?_;refine r_loadT (v:=u2.v) 2 (oa2+1*7) u2.cs rfl rfl rfl z.hT hma2 hna2 rfl ti30 hra2 rfl rfl rfl ?_;refine A1 ?_;refine Gm 2 [0,1] [2,3] (fun(d9:BdX (d2.s++txt y2 (o.2.2+1)))=>[BB g true d9.1,BF d9.1,_,_,_,_,_]) (by have h:=H y2 (XT.arg_lt hy2) u2 (o.2.2+1) g true d2 hd2 (okXs_get hks hy2) (XT.fits_get hfs hy2) (Nat.le_trans (Nat.le_of_lt (XT.arg_lt hy2)) hM) (by omega) (by have h:=hb;simp only[htx,hin,e0,e1,e2,List.length_append,List.length_cons,List.length_nil,sNot_len] at h ⊢;omega);rw[hTa2] at h;exact h) (fun⟨d3,hd3,e3⟩=>?_);refine A8 ?_;refine at_leave1 (vs:=[.pointer (some ⟨g,0,none⟩),.int .u8 ((41:UInt8).toNat:Nat)]) rfl (by kernel_rfl) (fun w hL=>((c_b_WriteByteD g true d3 41 hd3 (by have h:=hb;simp only[htx,hin,e0,e3,e2,e1,List.length_append,List.length_cons,List.length_nil,sNot_len] at h ⊢;omega)).at (A:=[BB g true d3,BF d3]) (C:=[]) [0,1] [] (by decide) rfl rfl trivial rfl rfl (fun _=>rfl) (fun _=>allOwn rfl) (hL.putD B.D)).mono (fun e u' w' ⟨hu,x1,he,hx⟩=>⟨hu,_,he,⟨⟨x1.1,x1.2.1,by rw[x1.2.2];rw[e3,e2,e1,e0,htx,hin];simp only[List.append_assoc]⟩,rfl,hx.pk [some 0,some 1]⟩⟩)) (by show _::B.D=_;rw[hD])
     ·
      have h4:o.2.2≠4:=by have hh:=hb5;simp only[beq_iff_eq,beq_eq_false_iff_ne,ne_eq] at hh ⊢;omega
      have h45:(if o.2.2=4 then 5 else o.2.2)=o.2.2:=by rw[if_neg h4]
      have hin:inS x o=txt y (o.2.2)++([32]++o.1++[32])++txt y2 (o.2.2+1):=by unfold inS;rw[if_neg h3,h45,txtAt_get _ hy,txtAt_get _ hy2]
      refine A4 ?_;refine at_regionM ?_;refine A3 ?_;refine r_indexAddrG (gg:=ga) (len:=z.n) (cap:=z.cap) (oa+0*7) u28 ti30 rfl rfl (congrArg (fun a=>some (Value.slice a z.n z.cap)) hza) rfl (by omega) (by omega) (by show oa+Int.toNat 0*7=_;rfl) ?_;refine r_loadT (v:=u.v) 2 (oa+0*7) u.cs rfl rfl rfl z.hT hma hna rfl ti30 hra rfl rfl rfl ?_;refine A1 ?_;refine Gm 2 [0,1] [2,3] (fun(d9:BdX (d0.s++txt y (o.2.2)))=>[BB g true d9.1,BF d9.1,_,_,_,_,_]) (by have h:=H y (XT.arg_lt hy) u (o.2.2) g true d0 hd0 (okXs_get hks hy) (XT.fits_get hfs hy) (Nat.le_trans (Nat.le_of_lt (XT.arg_lt hy)) hM) (by omega) (by have h:=hb;simp only[htx,hin,e0,List.length_append,List.length_cons,List.length_nil,sNot_len] at h ⊢;omega);rw[hTa] at h;exact h) (fun⟨d1,hd1,e1⟩=>?_);refine A3 ?_;refine at_regionM ?_;refine A3 ?_;refine r_addS (p:=[32]) (q:=o.1) rfl rfl rfl rfl rfl rfl rfl (by show 1+_≤_;omega) ?_;refine r_addS (p:=[32]++o.1) (q:=[32]) rfl rfl rfl rfl rfl rfl rfl (by rw[List.length_append];show 1+_+1≤_;omega) ?_;refine Gm 2 [0,1] [] (fun d1=>[BB g true d1.1,BF d1.1,_,_,_,_,_]) (c_b_WriteString g true d1 ([32]++o.1++[32]) hd1 (by have h:=hb;simp only[htx,hin,e0,e1,List.length_append,List.length_cons,List.length_nil,sNot_len] at h ⊢;omega)) (fun⟨d2,hd2,e2⟩=>?_);refine A3 ?_;refine at_regionM ?_;refine A3 ?_;refine r_indexAddrG (gg:=ga2) (len:=z.n) (cap:=z.cap) (oa2+1*7) u28 ti30 rfl rfl (congrArg (fun a=>some (Value.slice a z.n z.cap)) hza2) rfl (by omega) (by omega) (by show oa2+Int.toNat 1*7=_;rfl) ?_;refine r_loadT (v:=u2.v) 2 (oa2+1*7) u2.cs rfl rfl rfl z.hT hma2 hna2 rfl ti30 hra2 rfl rfl rfl ?_;refine A1 ?_;refine Gm 2 [0,1] [2,3] (fun(d9:BdX (d2.s++txt y2 (o.2.2+1)))=>[BB g true d9.1,BF d9.1,_,_,_,_,_]) (by have h:=H y2 (XT.arg_lt hy2) u2 (o.2.2+1) g true d2 hd2 (okXs_get hks hy2) (XT.fits_get hfs hy2) (Nat.le_trans (Nat.le_of_lt (XT.arg_lt hy2)) hM) (by omega) (by have h:=hb;simp only[htx,hin,e0,e1,e2,List.length_append,List.length_cons,List.length_nil,sNot_len] at h ⊢;omega);rw[hTa2] at h;exact h) (fun⟨d3,hd3,e3⟩=>?_);refine A8 ?_;refine at_leave1 (vs:=[.pointer (some ⟨g,0,none⟩),.int .u8 ((41:UInt8).toNat:Nat)]) rfl (by kernel_rfl) (fun w hL=>((c_b_WriteByteD g true d3 41 hd3 (by have h:=hb;simp only[htx,hin,e0,e3,e2,e1,List.length_append,List.length_cons,List.length_nil,sNot_len] at h ⊢;omega)).at (A:=[BB g true d3,BF d3]) (C:=[]) [0,1] [] (by decide) rfl rfl trivial rfl rfl (fun _=>rfl) (fun _=>allOwn rfl) (hL.putD B.D)).mono (fun e u' w' ⟨hu,x1,he,hx⟩=>⟨hu,_,he,⟨⟨x1.1,x1.2.1,by rw[x1.2.2];rw[e3,e2,e1,e0,htx,hin];simp only[List.append_assoc]⟩,rfl,hx.pk [some 0,some 1]⟩⟩)) (by show _::B.D=_;rw[hD])
   ·
    have hlv:¬o.2.2<lv:=by have:=of_decide_eq_false hb3;omega
    have htx:txt x lv=inS x o:=by rw[txt_op hfo,if_neg hlv]
    refine A3 ?_;refine at_drawnI [2000000] mixed (by kernel_rfl) (by kernel_rfl) ?_;refine A4 ?_;refine Ar (((o.2.2+1:Nat):Int)) ?_;refine A18 ?_;refine at_cond rfl (fun hb4=>?_) (fun hb4=>?_)
    ·
     have h3:o.2.2=3:=by have hh:=hb4;simp only[beq_iff_eq,beq_eq_false_iff_ne,ne_eq] at hh ⊢;omega
     have hna1:=hn1 h3
     obtain⟨y,hy⟩:∃y,x.args[0]? =some y:=⟨x.args[0]'(by omega),List.getElem?_eq_getElem _⟩
     obtain⟨ga,oa,ca,u,hza,hma,hra,hTa,hna⟩:=z.arg hy
     have hin:inS x o=sNot++txt y 3:=by unfold inS;rw[if_pos h3,txtAt_get _ hy]
     refine A1 ?_;refine at_regionM ?_;refine A1 ?_;refine Gm 2 [0,1] [] (fun d1=>[BB g true d1.1,BF d1.1,_,_,_,_,_]) (c_b_WriteString g a d sNot hd (by have h:=hb;simp only[htx,hin,List.length_append,List.length_cons,List.length_nil,sNot_len] at h ⊢;omega)) (fun⟨d1,hd1,e1⟩=>?_);refine A3 ?_;refine at_regionM ?_;refine A3 ?_;refine r_indexAddrG (gg:=ga) (len:=z.n) (cap:=z.cap) (oa+0*7) u28 ti30 rfl rfl (congrArg (fun a=>some (Value.slice a z.n z.cap)) hza) rfl (by omega) (by omega) (by show oa+Int.toNat 0*7=_;rfl) ?_;refine r_loadT (v:=u.v) 2 (oa+0*7) u.cs rfl rfl rfl z.hT hma hna rfl ti30 hra rfl rfl rfl ?_;refine Gm 2 [0,1] [2,3] (fun(d9:BdX (d1.s++txt y (3)))=>[BB g true d9.1,BF d9.1,_,_,_,_,_]) (by have h:=H y (XT.arg_lt hy) u (3) g true d1 hd1 (okXs_get hks hy) (XT.fits_get hfs hy) (Nat.le_trans (Nat.le_of_lt (XT.arg_lt hy)) hM) (by omega) (by have h:=hb;simp only[htx,hin,e1,List.length_append,List.length_cons,List.length_nil,sNot_len] at h ⊢;omega);rw[hTa] at h;exact h) (fun⟨d2,hd2,e2⟩=>?_);refine A10 ?_;refine at_end0D rfl (fun w hL=>⟨⟨d2,hd2,by rw[e2,e1,htx,hin];simp only[List.append_assoc]⟩,rfl,hL.pk [some 0,some 1]⟩)
    ·
     have h3:o.2.2≠3:=by have hh:=hb4;simp only[beq_iff_eq,beq_eq_false_iff_ne,ne_eq] at hh ⊢;omega
     have hna1:=hn2 h3
     obtain⟨y,hy⟩:∃y,x.args[0]? =some y:=⟨x.args[0]'(by omega),List.getElem?_eq_getElem _⟩
     obtain⟨ga,oa,ca,u,hza,hma,hra,hTa,hna⟩:=z.arg hy
     obtain⟨y2,hy2⟩:∃y,x.args[1]? =some y:=⟨x.args[1]'(by omega),List.getElem?_eq_getElem _⟩
     obtain⟨ga2,oa2,ca2,u2,hza2,hma2,hra2,hTa2,hna2⟩:=z.arg hy2;refine A6 ?_;refine at_cond rfl (fun hb5=>?_) (fun hb5=>?_)
     ·
      have h4:o.2.2=4:=by have hh:=hb5;simp only[beq_iff_eq,beq_eq_false_iff_ne,ne_eq] at hh ⊢;omega
      have h45:(if o.2.2=4 then 5 else o.2.2)=o.2.2+1:=by rw[if_pos h4];omega
      have hin:inS x o=txt y (o.2.2+1)++([32]++o.1++[32])++txt y2 (o.2.2+1):=by unfold inS;rw[if_neg h3,h45,txtAt_get _ hy,txtAt_get _ hy2]
      refine A2 ?_;refine Ar (((o.2.2+1:Nat):Int)) ?_;refine A5 ?_;refine at_regionM ?_;refine A3 ?_;refine r_indexAddrG (gg:=ga) (len:=z.n) (cap:=z.cap) (oa+0*7) u28 ti30 rfl rfl (congrArg (fun a=>some (Value.slice a z.n z.cap)) hza) rfl (by omega) (by omega) (by show oa+Int.toNat 0*7=_;rfl) ?_;refine r_loadT (v:=u.v) 2 (oa+0*7) u.cs rfl rfl rfl z.hT hma hna rfl ti30 hra rfl rfl rfl ?_;refine A1 ?_;refine Gm 2 [0,1] [2,3] (fun(d9:BdX (d.s++txt y (o.2.2+1)))=>[BB g true d9.1,BF d9.1,_,_,_,_,_]) (by have h:=H y (XT.arg_lt hy) u (o.2.2+1) g a d hd (okXs_get hks hy) (XT.fits_get hfs hy) (Nat.le_trans (Nat.le_of_lt (XT.arg_lt hy)) hM) (by omega) (by have h:=hb;simp only[htx,hin,List.length_append,List.length_cons,List.length_nil,sNot_len] at h ⊢;omega);rw[hTa] at h;exact h) (fun⟨d1,hd1,e1⟩=>?_);refine A3 ?_;refine at_regionM ?_;refine A3 ?_;refine r_addS (p:=[32]) (q:=o.1) rfl rfl rfl rfl rfl rfl rfl (by show 1+_≤_;omega) ?_;refine r_addS (p:=[32]++o.1) (q:=[32]) rfl rfl rfl rfl rfl rfl rfl (by rw[List.length_append];show 1+_+1≤_;omega) ?_;refine Gm 2 [0,1] [] (fun d1=>[BB g true d1.1,BF d1.1,_,_,_,_,_]) (c_b_WriteString g true d1 ([32]++o.1++[32]) hd1 (by have h:=hb;simp only[htx,hin,e1,List.length_append,List.length_cons,List.length_nil,sNot_len] at h ⊢;omega)) (fun⟨d2,hd2,e2⟩=>?_);refine A3 ?_;refine at_regionM ?_;refine A3 ?_;refine r_indexAddrG (gg:=ga2) (len:=z.n) (cap:=z.cap) (oa2+1*7) u28 ti30 rfl rfl (congrArg (fun a=>some (Value.slice a z.n z.cap)) hza2) rfl (by omega) (by omega) (by show oa2+Int.toNat 1*7=_;rfl) ?_;refine r_loadT (v:=u2.v) 2 (oa2+1*7) u2.cs rfl rfl rfl z.hT hma2 hna2 rfl ti30 hra2 rfl rfl rfl ?_;refine A1 ?_;refine Gm 2 [0,1] [2,3] (fun(d9:BdX (d2.s++txt y2 (o.2.2+1)))=>[BB g true d9.1,BF d9.1,_,_,_,_,_]) (by have h:=H y2 (XT.arg_lt hy2) u2 (o.2.2+1) g true d2 hd2 (okXs_get hks hy2) (XT.fits_get hfs hy2) (Nat.le_trans (Nat.le_of_lt (XT.arg_lt hy2)) hM) (by omega) (by have h:=hb;simp only[htx,hin,e1,e2,List.length_append,List.length_cons,List.length_nil,sNot_len] at h ⊢;omega);rw[hTa2] at h;exact h) (fun⟨d3,hd3,e3⟩=>?_);refine A8 ?_;refine at_end0D rfl (fun w hL=>⟨⟨d3,hd3,by rw[e3,e2,e1,htx,hin];simp only[List.append_assoc]⟩,rfl,hL.pk [some 0,some 1]⟩)
     ·
      have h4:o.2.2≠4:=by have hh:=hb5;simp only[beq_iff_eq,beq_eq_false_iff_ne,ne_eq] at hh ⊢;omega
      have h45:(if o.2.2=4 then 5 else o.2.2)=o.2.2:=by rw[if_neg h4]
      have hin:inS x o=txt y (o.2.2)++([32]++o.1++[32])++txt y2 (o.2.2+1):=by unfold inS;rw[if_neg h3,h45,txtAt_get _ hy,txtAt_get _ hy2]
      refine A4 ?_;refine at_regionM ?_;refine A3 ?_;refine r_indexAddrG (gg:=ga) (len:=z.n) (cap:=z.cap) (oa+0*7) u28 ti30 rfl rfl (congrArg (fun a=>some (Value.slice a z.n z.cap)) hza) rfl (by omega) (by omega) (by show oa+Int.toNat 0*7=_;rfl) ?_;refine r_loadT (v:=u.v) 2 (oa+0*7) u.cs rfl rfl rfl z.hT hma hna rfl ti30 hra rfl rfl rfl ?_;refine A1 ?_;refine Gm 2 [0,1] [2,3] (fun(d9:BdX (d.s++txt y (o.2.2)))=>[BB g true d9.1,BF d9.1,_,_,_,_,_]) (by have h:=H y (XT.arg_lt hy) u (o.2.2) g a d hd (okXs_get hks hy) (XT.fits_get hfs hy) (Nat.le_trans (Nat.le_of_lt (XT.arg_lt hy)) hM) (by omega) (by have h:=hb;simp only[htx,hin,List.length_append,List.length_cons,List.length_nil,sNot_len] at h ⊢;omega);rw[hTa] at h;exact h) (fun⟨d1,hd1,e1⟩=>?_);refine A3 ?_;refine at_regionM ?_;refine A3 ?_;refine r_addS (p:=[32]) (q:=o.1) rfl rfl rfl rfl rfl rfl rfl (by show 1+_≤_;omega) ?_;refine r_addS (p:=[32]++o.1) (q:=[32]) rfl rfl rfl rfl rfl rfl rfl (by rw[List.length_append];show 1+_+1≤_;omega) ?_;refine Gm 2 [0,1] [] (fun d1=>[BB g true d1.1,BF d1.1,_,_,_,_,_]) (c_b_WriteString g true d1 ([32]++o.1++[32]) hd1 (by have h:=hb;simp only[htx,hin,e1,List.length_append,List.length_cons,List.length_nil,sNot_len] at h ⊢;omega)) (fun⟨d2,hd2,e2⟩=>?_);refine A3 ?_;refine at_regionM ?_;refine A3 ?_;refine r_indexAddrG (gg:=ga2) (len:=z.n) (cap:=z.cap) (oa2+1*7) u28 ti30 rfl rfl (congrArg (fun a=>some (Value.slice a z.n z.cap)) hza2) rfl (by omega) (by omega) (by show oa2+Int.toNat 1*7=_;rfl) ?_;refine r_loadT (v:=u2.v) 2 (oa2+1*7) u2.cs rfl rfl rfl z.hT hma2 hna2 rfl ti30 hra2 rfl rfl rfl ?_;refine A1 ?_;refine Gm 2 [0,1] [2,3] (fun(d9:BdX (d2.s++txt y2 (o.2.2+1)))=>[BB g true d9.1,BF d9.1,_,_,_,_,_]) (by have h:=H y2 (XT.arg_lt hy2) u2 (o.2.2+1) g true d2 hd2 (okXs_get hks hy2) (XT.fits_get hfs hy2) (Nat.le_trans (Nat.le_of_lt (XT.arg_lt hy2)) hM) (by omega) (by have h:=hb;simp only[htx,hin,e1,e2,List.length_append,List.length_cons,List.length_nil,sNot_len] at h ⊢;omega);rw[hTa2] at h;exact h) (fun⟨d3,hd3,e3⟩=>?_);refine A8 ?_;refine at_end0D rfl (fun w hL=>⟨⟨d3,hd3,by rw[e3,e2,e1,htx,hin];simp only[List.append_assoc]⟩,rfl,hL.pk [some 0,some 1]⟩)
 ·exact absurd (find_none_all hI (by have:=of_decide_eq_false hb1;show 12≤i;omega)) hop
theorem c_write(m:Int)(x:XT):WriC m x:=by
 suffices h:∀k:Nat,∀x:XT,x.size<k→WriC m x from h _ x (Nat.lt_succ_self _)
 intro k
 induction k with
 |zero=>intro x h;omega
 |succ k ih=>
  intro x hx z lv g a d hd hok hf hM hlv hb
  have H:∀y:XT,y.size<x.size→WriC m y:=fun y hy=>ih y (by omega)
  by_cases hop:opsT.find? (fun f=>decide ((f.2.1:Int)=x.op))=none
  ·rw[txt_leaf hop lv] at hb ⊢
   exact c_write_leaf z m H hok hf hM lv g a d hd hop (kind_ok (okX_parts hok).1 hop) hb
  ·exact c_write_op z m H hok hf hM lv g hlv a d hd hop hb
def prT(t:Bs8):Bs8:=if 4096<t.length then[] else t
def prC(t:Bs8):Int:=if 4096<t.length then 28 else 0
abbrev prV(t:Bs8):Value:= .tuple #[.string (strU (prT t)),.int .i64 (prC t)]
theorem c_printed{x:XT}(z:XR x)(m:Int)(hok:okX x)(hf:x.fit=true)(hM:x.size≤1000000000)(hs:Bs8)(hb:hs.length+(txt x 1).length≤17179869184):ECall Tryz.prog 59 [gB z.T false,GM m] [.string (strU hs),z.v] Unit (fun _=>prV (hs++txt x 1)) (fun _=>[]):=by
 refine⟨by kernel_rfl,fun B w hD hL0=>?_⟩;refine cB2 14 Tryz.func59 hL0 ?_;refine A2 ?_;refine Bo [_,_,_,_,_,_,_] 7 (fun g=>[_,_,⟨some g,30,_,7,true⟩]) (fun g0=>?_);refine A6 ?_;refine r_alloc [_,_] 2 (fun g=>[_,_,_,⟨some g,127,_,2,true⟩]) rfl rfl z127 rfl rfl (fun _=>rfl) (fun g1=>?_);refine A3 ?_;refine at_weakL (L':=[_,_,_,BB g1 false bd0,BF bd0]) (Weak.nilB _ (by decide)) ?_;refine at_regionM ?_;refine A1 ?_;refine r_gcallM (A:=[BB g1 false bd0,BF bd0]) (C:=[]) [.pointer (some ⟨g1,0,none⟩),.string (strU hs)] [3,4] [] (fun(d9:BdX (bd0.s++hs))=>[_,_,_,BB g1 true d9.1,BF d9.1]) rfl rfl rfl rfl (c_b_WriteString g1 false bd0 hs bd0_ok (by show 0+_≤_;omega)) (by decide) rfl rfl trivial rfl rfl (fun _=>rfl) (fun _=>allOwn rfl) (fun _=>rfl) (fun⟨d1,hd1,e1⟩=>?_);refine A3 ?_;refine at_regionM ?_;refine Ld 2 0 [_,_,_,_,_,_,_] ti30 ?_;refine Kr 9 (z.v) ?_;refine r_gcallM (A:=[BB g1 true d1,BF d1]) (C:=[gB z.T false,GM m]) [.pointer (some ⟨g1,0,none⟩),z.v,.int .i64 (1:Nat)] [3,4] [0,1] (fun(d9:BdX (d1.s++txt x 1))=>[_,_,_,BB g1 true d9.1,BF d9.1]) rfl rfl rfl rfl (c_write m x z 1 g1 true d1 hd1 hok hf hM (by decide) (by rw[e1,List.length_append];show 0+_+_≤_;omega)) (by decide) rfl rfl ⟨⟨_,rfl,Blk.le_refl _⟩,⟨_,rfl,Blk.le_refl _⟩,trivial⟩ rfl rfl (fun _=>rfl) (fun _=>allOwn rfl) (fun _=>rfl) (fun⟨d2,hd2,e2⟩=>?_);refine A4 ?_
 have e3:d2.s=hs++txt x 1:=(by rw[e2,e1];rfl);refine at_regionM ?_;refine r_scall0 [.pointer (some ⟨g1,0,none⟩)] [3] rfl rfl rfl (c_b_Len g1 true d2) ⟨⟨_,rfl,le_share⟩,trivial⟩ rfl ?_;refine A3 ?_;refine Cd ?_ ?_<;>intro hb0
 ·have hl:4096<(hs++txt x 1).length:=by rw[←e3];have:=of_decide_eq_true hb0;omega
  refine A8 ?_;refine at_end2 rfl (res_tmp rfl) (res_tmp rfl) (fun w hL=>⟨(),by unfold prV prT prC;rw[if_pos hl,if_pos hl];rfl,hL.pk []⟩)
 ·have hl:¬4096<(hs++txt x 1).length:=by rw[←e3];have:=of_decide_eq_false hb0;omega
  refine A3 ?_;refine at_regionM ?_;refine Gm 2 [3,4] [] (fun _=>[_,_,_,BB g1 true d2,BZ d2]) (c_b_String g1 true d2 hd2 (by rw[e3,List.length_append];omega)) (fun _=>?_);refine A5 ?_;refine at_end2 rfl (res_tmp rfl) (res_tmp rfl) (fun w hL=>⟨(),by unfold prV prT prC;rw[if_neg hl,if_neg hl,←e3],hL.pk []⟩)
theorem c_Check(kind:Int)(hk: -9223372036854775808≤kind∧kind≤9223372036854775807)(b:Option Nat)(e:Nat)(pre:List Value)(l:List Bs8)(n cap:Nat)(hll:l.length≤1000000)(hvl:∀v∈l,v.length≤1000000){x:XT}(z:XR x)(hf:x.fit=true)(hM:x.size≤1000000):ECall Tryz.prog 29 [VBk b e pre l n,gB z.T false] [QV kind b pre l cap z] Unit (fun _=> .int .i64 (chkQ kind l x:Nat)) (fun _=>[]):=by
 refine⟨by kernel_rfl,fun B w hD hL0=>?_⟩
 have hvx:(varsU x).length≤1000000:=by
  have h1:=compact_le (sortL (varsL x));rw[sortL_len] at h1;exact Nat.le_trans h1 (Nat.le_trans (varsL_len x) hM)
 refine cB1 71 Tryz.func29 hL0 ?_;refine A2 ?_;refine Bo [_,_,_,_,_,_,_,_,_] 9 (fun g=>[_,_,⟨some g,39,_,9,true⟩]) (fun g0=>?_);refine A11 ?_;refine Rs 12 ?_ ?_<;>intro hb0
 ·have k1:kind<1:=of_decide_eq_true hb0;refine A16 ?_;refine at_end1 rfl (res_tmp rfl) (fun w hL=>⟨(),eI (by unfold chkQ;rw[if_pos (.inl k1)]),hL.pk []⟩)
 ·have k1:¬kind<1:=of_decide_eq_false hb0;refine A7 ?_;refine Cd ?_ ?_<;>intro hb1
  ·have k3:3<kind:=of_decide_eq_true hb1;refine A8 ?_;refine at_end1 rfl (res_tmp rfl) (fun w hL=>⟨(),eI (by unfold chkQ;rw[if_pos (.inr k3)]),hL.pk []⟩)
  ·have k3:¬3<kind:=of_decide_eq_false hb1;refine A7 ?_;refine r_arith (r:=kind-1) rfl rfl rfl rfl (congrArg some (by rw[IntKind.wrap_i64];omega)) ?_;refine A4 ?_;refine Cd ?_ ?_<;>intro hb2
   ·have kl:((l.length:Nat):Int)≠kind-1:=by simpa using hb2
    refine A8 ?_;refine at_end1 rfl (res_tmp rfl) (fun w hL=>⟨(),eI (by unfold chkQ;rw[if_neg (fun h=>h.elim k1 k3),if_pos kl]),hL.pk []⟩)
   ·have kl:((l.length:Nat):Int)=kind-1:=by simpa using hb2
    refine A13 ?_;refine El (ι:={i:Nat // i≤l.length∧(l.take i).all nameL=true}) (fun⟨i,hi,hI⟩=>([(1,.pointer (some ⟨g0,0,none⟩)),(26,slv b pre.length l.length cap),(27,.int .i64 (l.length:Nat)),(28,.int .i64 (i:Nat))],[VBk b e pre l n,gB z.T false,QBx g0 kind b pre l cap z],l.length-i)) ⟨0,Nat.zero_le _,rfl⟩ ?_;rintro⟨i,hi,hI⟩;(try dsimp only);refine A6 ?_;refine Cd ?_ ?_<;>intro hb4
    ·have hlt:i<l.length:=by have:=of_decide_eq_true hb4;omega
     obtain⟨v,hv⟩:∃v,l[i]? =some v:=⟨l[i],List.getElem?_eq_getElem hlt⟩;refine A6 ?_;refine r_indexAddr 0 (pre.length+i*1) u36 ti9 rfl rfl rfl rfl rfl (by omega) (by omega) (pre_ne (SB_ne (by omega))) (by show pre.length+Int.toNat _*1=_;omega) ?_;refine r_load (v:= .string (strU v)) 0 (pre.length+i*1) _ rfl rfl rfl rfl ti9 (pre_get (SB_get hv) rfl) rfl (by decide) rfl ?_;refine A6 ?_;refine Pc (c_syntax_IsName v (hvl v (List.mem_of_getElem? hv))) ?_;refine A3 ?_;refine Cd ?_ ?_<;>intro hb5
     ·have hnv:nameL v=false:=by simpa using hb5
      refine A11 ?_;refine at_end1 rfl (res_tmp rfl) (fun w hL=>⟨(),eI (by unfold chkQ;rw[if_neg (fun h=>h.elim k1 k3),if_neg (fun h=>h kl),if_pos (all_false_at hv hnv)]),hL.pk []⟩)
     ·have hnv:nameL v=true:=by simpa using hb5
      refine A4 ?_;refine Ar (((i+1:Nat):Int)) ?_;refine A3 ?_;exact Nl ⟨i+1,hlt,all_step hI hv hnv⟩
    ·have hge:l.length≤i:=by have:=of_decide_eq_false hb4;omega
     have hN:=all_full hI hge;refine A7 ?_;refine at_drawnI [] mixed (by kernel_rfl) (by kernel_rfl) ?_;refine A5 ?_;refine Rs 40 ?_ ?_<;>intro hb5
     ·have k2:l.length=2:=by have:=eq_of_beq hb5;omega
      obtain⟨v0,hv0⟩:∃v,l[0]? =some v:=⟨l[0]'(by omega),List.getElem?_eq_getElem _⟩;obtain⟨v1,hv1⟩:∃v,l[1]? =some v:=⟨l[1]'(by omega),List.getElem?_eq_getElem _⟩;refine A2 ?_;refine r_indexAddr 0 (pre.length+0*1) u36 ti9 rfl rfl rfl rfl rfl (by omega) (by omega) (pre_ne (SB_ne (by omega))) (by show pre.length+Int.toNat _*1=_;omega) ?_;refine r_load (v:= .string (strU v0)) 0 (pre.length+0*1) _ rfl rfl rfl rfl ti9 (pre_get (SB_get hv0) rfl) rfl (by decide) rfl ?_;refine A2 ?_;refine r_indexAddr 0 (pre.length+1*1) u36 ti9 rfl rfl rfl rfl rfl (by omega) (by omega) (pre_ne (SB_ne (by omega))) (by show pre.length+Int.toNat _*1=_;omega) ?_;refine r_load (v:= .string (strU v1)) 0 (pre.length+1*1) _ rfl rfl rfl rfl ti9 (pre_get (SB_get hv1) rfl) rfl (by decide) rfl ?_;refine A4 ?_;refine Cd ?_ ?_<;>intro hb6
      ·have ke:(v0==v1)=true:=by have hh:=hb6;rw[strU_beq] at hh;exact hh
       refine A7 ?_;refine at_end1 rfl (res_tmp rfl) (fun w hL=>⟨(),eI (by unfold chkQ;rw[if_neg (fun h=>h.elim k1 k3),if_neg (fun h=>h kl),if_neg (by rw[hN];simp),if_pos ⟨k2,by rw[hv0,hv1];simpa using ke⟩]),hL.pk []⟩)
      ·have ke:(v0==v1)=false:=by have hh:=hb6;rw[strU_beq] at hh;exact hh
       refine A4 ?_;refine at_regionM ?_;refine A1 ?_;refine Ld 2 2 [_,_,_,_,_,_,_] ti30 ?_;refine Kr 52 (z.v) ?_;refine Gm 0 [] [1] (fun _=>[_,_,_]) (c_CheckExpr z hf) (fun _=>?_);refine A9 ?_;refine Cd ?_ ?_<;>intro hb7
       ·have kc:chkE x≠0:=by simpa using hb7
        refine A8 ?_;refine at_end1 rfl (res_tmp rfl) (fun w hL=>⟨(),eI (by unfold chkQ;rw[if_neg (fun h=>h.elim k1 k3),if_neg (fun h=>h kl),if_neg (by rw[hN];simp),if_neg (fun h=>by have h2:=h.2;rw[hv0,hv1] at h2;rw[Option.some.inj h2,beq_self_eq_true] at ke;cases ke),if_pos kc]),hL.pk []⟩)
       ·have kc:chkE x=0:=by simpa using hb7
        refine A4 ?_;refine at_regionM ?_;refine A1 ?_;refine Ld 2 2 [_,_,_,_,_,_,_] ti30 ?_;refine Kr 58 (z.v) ?_;refine Gm 0 [] [1] (fun s=>[_,_,_,VR s]) (c_Variables z hM) (fun s=>?_);refine A5 ?_;refine El (ι:={i:Nat // i≤(varsU x).length∧((varsU x).take i).all l.contains=true}) (fun⟨i,hi,hI⟩=>([(1,.pointer (some ⟨g0,0,none⟩)),(59,slv s.b 0 (varsU x).length s.cap),(60,.int .i64 ((varsU x).length:Nat)),(61,.int .i64 (i:Nat))],[VBk b e pre l n,gB z.T false,QBx g0 kind b pre l cap z,VR s],(varsU x).length-i)) ⟨0,Nat.zero_le _,rfl⟩ ?_;rintro⟨i,hi,hI⟩;(try dsimp only);refine A6 ?_;refine Cd ?_ ?_<;>intro hb9
        ·have hlt:i<(varsU x).length:=by have:=of_decide_eq_true hb9;omega
         obtain⟨u,hu⟩:∃v,(varsU x)[i]? =some v:=⟨(varsU x)[i],List.getElem?_eq_getElem hlt⟩;refine A6 ?_;refine Ix 3 (i*1) ?_;refine r_load (v:= .string (strU u)) 3 (i*1) _ rfl rfl rfl rfl ti9 (SB_get hu) rfl (by decide) rfl ?_;refine A8 ?_;refine r_scall0 [slv b pre.length l.length cap,.string (strU u)] [0] rfl rfl rfl (c_Contains b e pre l n cap hll u) ⟨⟨_,rfl,Blk.le_refl _⟩,trivial⟩ rfl ?_;refine A3 ?_;refine Cd ?_ ?_<;>intro hb10
         ·have huc:l.contains u=false:=by simpa using hb10
          refine A11 ?_;refine at_end1 rfl (res_tmp rfl) (fun w hL=>⟨(),eI (by unfold chkQ;rw[if_neg (fun h=>h.elim k1 k3),if_neg (fun h=>h kl),if_neg (by rw[hN];simp),if_neg (fun h=>by have h2:=h.2;rw[hv0,hv1] at h2;rw[Option.some.inj h2,beq_self_eq_true] at ke;cases ke),if_neg (fun h=>h kc),if_pos (all_false_at hu huc)]),hL.pk []⟩)
         ·have huc:l.contains u=true:=by simpa using hb10
          refine A4 ?_;refine Ar (((i+1:Nat):Int)) ?_;refine A3 ?_;exact Nl ⟨i+1,hlt,all_step hI hu huc⟩
        ·have hge:(varsU x).length≤i:=by have:=of_decide_eq_false hb9;omega
         have hV:=all_full hI hge;refine A11 ?_;refine at_end1 rfl (res_tmp rfl) (fun w hL=>⟨(),eI (by unfold chkQ;rw[if_neg (fun h=>h.elim k1 k3),if_neg (fun h=>h kl),if_neg (by rw[hN];simp),if_neg (fun h=>by have h2:=h.2;rw[hv0,hv1] at h2;rw[Option.some.inj h2,beq_self_eq_true] at ke;cases ke),if_neg (fun h=>h kc),if_neg (by rw[hV];simp)]),hL.pk []⟩)
     ·have k2:l.length≠2:=by have:=ne_of_beq_false hb5;omega
      refine A17 ?_;refine at_regionM ?_;refine A1 ?_;refine Ld 2 2 [_,_,_,_,_,_,_] ti30 ?_;refine Kr 52 (z.v) ?_;refine Gm 0 [] [1] (fun _=>[_,_,_]) (c_CheckExpr z hf) (fun _=>?_);refine A9 ?_;refine Cd ?_ ?_<;>intro hb6
      ·have kc:chkE x≠0:=by simpa using hb6
       refine A8 ?_;refine at_end1 rfl (res_tmp rfl) (fun w hL=>⟨(),eI (by unfold chkQ;rw[if_neg (fun h=>h.elim k1 k3),if_neg (fun h=>h kl),if_neg (by rw[hN];simp),if_neg (fun h=>k2 h.1),if_pos kc]),hL.pk []⟩)
      ·have kc:chkE x=0:=by simpa using hb6
       refine A4 ?_;refine at_regionM ?_;refine A1 ?_;refine Ld 2 2 [_,_,_,_,_,_,_] ti30 ?_;refine Kr 58 (z.v) ?_;refine Gm 0 [] [1] (fun s=>[_,_,_,VR s]) (c_Variables z hM) (fun s=>?_);refine A5 ?_;refine El (ι:={i:Nat // i≤(varsU x).length∧((varsU x).take i).all l.contains=true}) (fun⟨i,hi,hI⟩=>([(1,.pointer (some ⟨g0,0,none⟩)),(59,slv s.b 0 (varsU x).length s.cap),(60,.int .i64 ((varsU x).length:Nat)),(61,.int .i64 (i:Nat))],[VBk b e pre l n,gB z.T false,QBx g0 kind b pre l cap z,VR s],(varsU x).length-i)) ⟨0,Nat.zero_le _,rfl⟩ ?_;rintro⟨i,hi,hI⟩;(try dsimp only);refine A6 ?_;refine Cd ?_ ?_<;>intro hb8
       ·have hlt:i<(varsU x).length:=by have:=of_decide_eq_true hb8;omega
        obtain⟨u,hu⟩:∃v,(varsU x)[i]? =some v:=⟨(varsU x)[i],List.getElem?_eq_getElem hlt⟩;refine A6 ?_;refine Ix 3 (i*1) ?_;refine r_load (v:= .string (strU u)) 3 (i*1) _ rfl rfl rfl rfl ti9 (SB_get hu) rfl (by decide) rfl ?_;refine A8 ?_;refine r_scall0 [slv b pre.length l.length cap,.string (strU u)] [0] rfl rfl rfl (c_Contains b e pre l n cap hll u) ⟨⟨_,rfl,Blk.le_refl _⟩,trivial⟩ rfl ?_;refine A3 ?_;refine Cd ?_ ?_<;>intro hb9
        ·have huc:l.contains u=false:=by simpa using hb9
         refine A11 ?_;refine at_end1 rfl (res_tmp rfl) (fun w hL=>⟨(),eI (by unfold chkQ;rw[if_neg (fun h=>h.elim k1 k3),if_neg (fun h=>h kl),if_neg (by rw[hN];simp),if_neg (fun h=>k2 h.1),if_neg (fun h=>h kc),if_pos (all_false_at hu huc)]),hL.pk []⟩)
        ·have huc:l.contains u=true:=by simpa using hb9
         refine A4 ?_;refine Ar (((i+1:Nat):Int)) ?_;refine A3 ?_;exact Nl ⟨i+1,hlt,all_step hI hu huc⟩
       ·have hge:(varsU x).length≤i:=by have:=of_decide_eq_false hb8;omega
        have hV:=all_full hI hge;refine A11 ?_;refine at_end1 rfl (res_tmp rfl) (fun w hL=>⟨(),eI (by unfold chkQ;rw[if_neg (fun h=>h.elim k1 k3),if_neg (fun h=>h kl),if_neg (by rw[hN];simp),if_neg (fun h=>k2 h.1),if_neg (fun h=>h kc),if_neg (by rw[hV];simp)]),hL.pk []⟩)
end Go.Proofs.YtfijbadahkmhbaaGreatDoor
namespace Go.Via
open Go Go.RowKit
def p0(s:Bs8):Ps:=⟨s,0,0,0,[],0,0,false⟩
def Ps.endP(p:Ps):Ps:=if p.fail=false∧p.k≠0 then p.stop 15 else p
def Ps.endA(p:Ps):Nat:=if p.endP.fail=true then p.endP.bat else 0
def Ps.endE(p:Ps)(e:Nat):Nat:=if p.endP.fail=true then p.endP.be else e
end Go.Via
namespace Go.Proofs.YtfijbadahkmhbaaGreatDoor
open Go Go.RowKit Go.Via
theorem c_start_ok(s:Bs8)(hs:s.length≤4096):ECall Tryz.prog 61 [] [.string (strU s)] Nat (fun g=> .tuple #[.pointer (some ⟨g,0,none⟩),.int .i64 0]) (fun g=>[PB g (p0 s).adv true]):=by
 refine⟨by kernel_rfl,fun B w hD hL0=>?_⟩;refine cB1 14 Tryz.func61 hL0 ?_;refine A11 ?_;refine r_know 6 (.int .i64 (s.length:Nat)) rfl (by rw[strU_size]) ?_;refine A3 ?_;refine Cd ?_ ?_<;>intro hb0
 ·exact absurd (of_decide_eq_true hb0) (by omega)
 ·refine A5 ?_;refine r_build [(0,_)] rfl rfl rfl (bd141_1) ?_;refine Bo [_,_,_,_,_,_,_,_] 8 (fun g=>[⟨some g,141,_,8,true⟩]) (fun g0=>?_);refine A4 ?_;refine at_regionM ?_;refine A1 ?_;refine Gm 1 [0] [] (fun _=>[PB g0 (p0 s).adv true]) (c_p_advance (p0 s) ⟨hs,Nat.zero_le _⟩ g0) (fun _=>?_);refine A10 ?_;refine at_end2 rfl (res_tmp rfl) (res_tmp rfl) (fun w hL=>⟨g0,rfl,hL⟩)
abbrev QBr(g:Nat)(kind:Int)(b:Option Nat)(l:List Bs8)(cap:Nat){x:XT}(z:XR x):Blk:=⟨some g,39,[.int .i64 kind,slv b 0 l.length cap,.int .i64 z.op,.string z.nm,.bool z.b1,.string z.s1,.bool z.b2,.string z.s2,.slice z.a z.n z.cap],9,false⟩
theorem c_Parse_1(kind:Int)(hk: -9223372036854775808≤kind∧kind≤9223372036854775807)(b:Option Nat)(e:Nat)(l:List Bs8)(n cap:Nat)(hll:l.length≤1000000)(hvl:∀v∈l,v.length≤1000000){x:XT}(z:XR x)(hf:x.fit=true)(hM:x.size≤1000000)(gx:Nat):ECall Tryz.prog 79 [QBr gx kind b l cap z,VBk b e [] l n,gB z.T false] [.pointer (some ⟨gx,0,none⟩)] Unit (fun _=> .int .i64 (chkQ kind l x:Nat)) (fun _=>[]):=by
 refine⟨by kernel_rfl,fun B w hD hL0=>?_⟩;refine cB1 4 Tryz.func79 hL0 ?_;refine A6 ?_;refine at_regionM ?_;refine Ld 0 0 [_,_,_,_,_,_,_,_,_] ti39 ?_;refine Kr 2 (QV kind b [] l cap z) ?_;refine Gm 0 [] [1,2] (fun _=>[_,_,_]) (c_Check kind hk b e [] l n cap hll hvl z hf hM) (fun _=>?_);refine A4 ?_;refine E1 fun w hL=>⟨(),rfl,hL.pk []⟩
theorem c_p_end_q(p:Ps)(g:Nat)(kind:Int)(hk: -9223372036854775808≤kind∧kind≤9223372036854775807)(b:Option Nat)(e:Nat)(l:List Bs8)(n cap:Nat)(hll:l.length≤1000000)(hvl:∀v∈l,v.length≤1000000){x:XT}(z:XR x)(hf:x.fit=true)(hM:x.size≤1000000)(gx:Nat):ECall Tryz.prog 63 [PB g p true,QBr gx kind b l cap z,VBk b e [] l n,gB z.T false] [.pointer (some ⟨g,0,none⟩),.func (.func 79) #[] #[.pointer (some ⟨gx,0,none⟩)]] Unit (fun _=> .tuple #[.int .i64 (p.endA:Nat),.int .i64 (p.endE (chkQ kind l x):Nat)]) (fun _=>[PB g p.endP true]):=by
 refine⟨by kernel_rfl,fun B w hD hL0=>?_⟩;refine cB2 37 Tryz.func63 hL0 ?_;refine A15 ?_;refine Rs 11 ?_ ?_<;>intro hb0
 ·have hfl:p.fail=false:=by simpa using hb0
  refine A9 ?_;refine Cd ?_ ?_<;>intro hb1
  ·have hk0:p.k≠0:=by have hh:=hb1;simp only[bne_iff_ne,bne_eq_false_iff_eq,ne_eq] at hh;omega
   refine at_regionM ?_;refine A1 ?_;refine Gm 1 [0] [] (fun _=>[PB g (p.stop 15) true,_,_,_]) (c_p_stop p 15 g) (fun _=>?_);refine A11 ?_;refine Cd ?_ ?_<;>intro hb2
   ·have hf2:=hb2;refine A1 ?_;refine at_drawnI [2000000] mixed (by kernel_rfl) (by kernel_rfl) ?_;refine A16 ?_;refine at_end2 rfl (res_tmp rfl) (res_tmp rfl) (fun w hL=>by
 have hE:p.endP=p.stop 15:=(by unfold Ps.endP;rw[if_pos ⟨hfl,hk0⟩]);refine⟨(),?_,?_⟩
 ·unfold Ps.endA Ps.endE;rw[hE,if_pos hf2,if_pos hf2];try rfl
 ·rw[hE];exact hL.pk [some 0])
   ·have hf2:=hb2;refine A3 ?_;refine at_regionM ?_;refine A1 ?_;refine r_gfcallM (f:=79) (A:=[]) (C:=[QBr gx kind b l cap z,VBk b e [] l n,gB z.T false]) [] [.pointer (some ⟨gx,0,none⟩)] [] [1,2,3] (fun _=>[_,_,_,_]) rfl rfl rfl rfl rfl (c_Parse_1 kind hk b e l n cap hll hvl z hf hM gx) (by decide) rfl rfl ⟨⟨_,rfl,Blk.le_refl _⟩,⟨_,rfl,Blk.le_refl _⟩,⟨_,rfl,Blk.le_refl _⟩,trivial⟩ rfl rfl (fun _=>rfl) (fun _=>allOwn rfl) (fun _=>rfl) (fun _=>?_);refine A5 ?_;refine at_end2 rfl (res_tmp rfl) (res_tmp rfl) (fun w hL=>by
 have hE:p.endP=p.stop 15:=(by unfold Ps.endP;rw[if_pos ⟨hfl,hk0⟩]);refine⟨(),?_,?_⟩
 ·unfold Ps.endA Ps.endE;rw[hE,if_neg (by rw[hf2];simp),if_neg (by rw[hf2];simp)];try rfl
 ·rw[hE];exact hL.pk [some 0])
  ·have hk0:p.k=0:=by have hh:=hb1;simp only[bne_iff_ne,bne_eq_false_iff_eq,ne_eq] at hh;omega
   refine A11 ?_;refine Cd ?_ ?_<;>intro hb2
   ·have hf2:=hb2;refine A1 ?_;refine at_drawnI [2000000] mixed (by kernel_rfl) (by kernel_rfl) ?_;refine A16 ?_;refine at_end2 rfl (res_tmp rfl) (res_tmp rfl) (fun w hL=>by
 have hE:p.endP=p:=(by unfold Ps.endP;rw[if_neg (fun h=>h.2 hk0)]);refine⟨(),?_,?_⟩
 ·unfold Ps.endA Ps.endE;rw[hE,if_pos hf2,if_pos hf2];try rfl
 ·rw[hE];exact hL.pk [some 0])
   ·have hf2:=hb2;refine A3 ?_;refine at_regionM ?_;refine A1 ?_;refine r_gfcallM (f:=79) (A:=[]) (C:=[QBr gx kind b l cap z,VBk b e [] l n,gB z.T false]) [] [.pointer (some ⟨gx,0,none⟩)] [] [1,2,3] (fun _=>[_,_,_,_]) rfl rfl rfl rfl rfl (c_Parse_1 kind hk b e l n cap hll hvl z hf hM gx) (by decide) rfl rfl ⟨⟨_,rfl,Blk.le_refl _⟩,⟨_,rfl,Blk.le_refl _⟩,⟨_,rfl,Blk.le_refl _⟩,trivial⟩ rfl rfl (fun _=>rfl) (fun _=>allOwn rfl) (fun _=>rfl) (fun _=>?_);refine A5 ?_;refine at_end2 rfl (res_tmp rfl) (res_tmp rfl) (fun w hL=>by
 have hE:p.endP=p:=(by unfold Ps.endP;rw[if_neg (fun h=>h.2 hk0)]);refine⟨(),?_,?_⟩
 ·unfold Ps.endA Ps.endE;rw[hE,if_neg (by rw[hf2];simp),if_neg (by rw[hf2];simp)];try rfl
 ·rw[hE];exact hL.pk [some 0])
 ·have hfl:p.fail=true:=by simpa using hb0
  refine A21 ?_;refine Cd ?_ ?_<;>intro hb1
  ·have hf2:=hb1;refine A1 ?_;refine at_drawnI [2000000] mixed (by kernel_rfl) (by kernel_rfl) ?_;refine A16 ?_;refine at_end2 rfl (res_tmp rfl) (res_tmp rfl) (fun w hL=>by
 have hE:p.endP=p:=(by unfold Ps.endP;rw[if_neg (fun h=>by rw[hfl] at h;cases h.1)]);refine⟨(),?_,?_⟩
 ·unfold Ps.endA Ps.endE;rw[hE,if_pos hf2,if_pos hf2];try rfl
 ·rw[hE];exact hL.pk [some 0])
  ·have hf2:=hb1;refine A3 ?_;refine at_regionM ?_;refine A1 ?_;refine r_gfcallM (f:=79) (A:=[]) (C:=[QBr gx kind b l cap z,VBk b e [] l n,gB z.T false]) [] [.pointer (some ⟨gx,0,none⟩)] [] [1,2,3] (fun _=>[_,_,_,_]) rfl rfl rfl rfl rfl (c_Parse_1 kind hk b e l n cap hll hvl z hf hM gx) (by decide) rfl rfl ⟨⟨_,rfl,Blk.le_refl _⟩,⟨_,rfl,Blk.le_refl _⟩,⟨_,rfl,Blk.le_refl _⟩,trivial⟩ rfl rfl (fun _=>rfl) (fun _=>allOwn rfl) (fun _=>rfl) (fun _=>?_);refine A5 ?_;refine at_end2 rfl (res_tmp rfl) (res_tmp rfl) (fun w hL=>by
 have hE:p.endP=p:=(by unfold Ps.endP;rw[if_neg (fun h=>by rw[hfl] at h;cases h.1)]);refine⟨(),?_,?_⟩
 ·unfold Ps.endA Ps.endE;rw[hE,if_neg (by rw[hf2];simp),if_neg (by rw[hf2];simp)];try rfl
 ·rw[hE];exact hL.pk [some 0])
def headK(p:Ps):Nat×List Bs8×Ps:=
 if p.is tValue=true then(1,[],p.adv)
 else if p.is tObjects=true then(2,[p.adv.tx],p.adv.name.want tWhere)
 else if p.is tPairs=true then(3,[p.adv.tx,(p.adv.name.want tComma).tx],(p.adv.name.want tComma).name.want tWhere)
 else(0,[],p.stop 15)
noncomputable def pqV(kind:Nat)(l:List Bs8)(r:XT×Ps)(b:Option Nat)(z:XR r.1):Value:=
 .tuple #[if r.2.endE (chkQ kind l r.1)=0 then QV kind b [] l l.length z else QV 0 none [] [] 0 XR.empty,.int .i64 ((if r.2.endE (chkQ kind l r.1)=0 then 0 else r.2.endA:Nat):Int),.int .i64 (r.2.endE (chkQ kind l r.1):Nat)]
theorem pqV_no(kind:Nat)(l:List Bs8){r:XT×Ps}(b:Option Nat)(z:XR r.1)(h:r.2.endE (chkQ kind l r.1)≠0):pqV kind l r b z= .tuple #[QV 0 none [] [] 0 XR.empty,.int .i64 (r.2.endA:Nat),.int .i64 (r.2.endE (chkQ kind l r.1):Nat)]:=by
 unfold pqV
 simp only[if_neg h]
theorem pqV_yes(kind:Nat)(l:List Bs8){r:XT×Ps}(b:Option Nat)(z:XR r.1)(h:r.2.endE (chkQ kind l r.1)=0):pqV kind l r b z= .tuple #[QV kind b [] l l.length z,.int .i64 0,.int .i64 0]:=by
 unfold pqV
 simp only[h,if_true]
 rfl
theorem c_Parse_ok(s:Bs8)(hs:s.length≤4096)(kind:Nat)(l:List Bs8)(q:Ps)(hh:headK (p0 s).adv=(kind,l,q))(f:Nat)(r:XT×Ps)(hr:lev f 1 q=some r)(hf:r.1.fit=true)(hM:r.1.size≤1000000):ECall Tryz.prog 42 [] [.string (strU s)] (Option Nat×XR r.1) (fun z=>pqV kind l r z.1 z.2) (fun z=>[⟨z.1,9,SB l,l.length,true⟩,gB z.2.T true]):=by
 refine⟨by kernel_rfl,fun B w hD hL0=>?_⟩;have hP:=Ps.adv_good (p:=p0 s) ⟨hs,Nat.zero_le _⟩;have hA:=Ps.adv_good hP.1;have hC:=Ps.want_good (x:=tComma) (Ps.name_good hA);refine cB1 62 Tryz.func42 hL0 ?_;refine A2 ?_;refine r_alloc [_,_,_,_,_,_,_,_,_] 9 (fun g=>[⟨some g,39,_,9,true⟩]) rfl rfl z39 rfl rfl (fun _=>rfl) (fun g0=>?_);refine A5 ?_;refine at_regionM ?_;refine A1 ?_;refine Gm 0 [] [] (fun g=>[_,PB g (p0 s).adv true]) (c_start_ok s hs) (fun g=>?_);refine A14 ?_;refine Cd ?_ ?_<;>intro hb0
 ·exact absurd hb0 (by decide)
 ·refine A5 ?_;refine at_regionM ?_;refine A1 ?_;refine Gm 1 [1] [] (fun _=>[_,PB g ((p0 s).adv.tk tValue) true]) (c_p_take (p0 s).adv hP.1 tValue g) (fun _=>?_);refine A3 ?_;refine Cd ?_ ?_<;>intro hb1
  ·have hisv:(p0 s).adv.is tValue=true:=hb1;have htkv:(p0 s).adv.tk tValue=(p0 s).adv.adv:=by unfold Ps.tk;rw[hisv];rfl
   rw[htkv];unfold headK at hh;rw[if_pos hisv] at hh;cases hh;refine A2 ?_;refine So 0 0 [⟨some g0,39,_,9,true⟩,_] [_,_,_,_,_,_,_,_,_] ?_;refine A4 ?_;refine at_regionM ?_;refine A1 ?_;refine Gm 1 [1] [] (fun z=>[_,PB g r.2 true,gB z.T true]) (c_p_level f g 1 ((p0 s).adv.adv) r hA (by decide) (by decide) hr) (fun z=>?_);refine A1 ?_;refine So 0 2 [⟨some g0,39,_,9,true⟩,_,_] [_,_,_,_,_,_,_,_,_] ?_;refine A3 ?_;refine at_weakL (L':=[_,_,_,⟨none,9,[],0,true⟩]) (Weak.nilB _ (by decide)) ?_;refine at_regionM ?_;refine A2 ?_;refine r_gcallM (A:=[PB g r.2 true]) (C:=[QBr g0 1 none [] 0 z,VBk none 9 [] [] 0,gB z.T false]) [.pointer (some ⟨g,0,none⟩),.func (.func 79) #[] #[.pointer (some ⟨g0,0,none⟩)]] [1] [0,3,2] (fun _=>[_,PB g r.2.endP true,_,_]) rfl rfl rfl rfl (c_p_end_q r.2 g 1 (by decide) none 9 [] 0 0 (by simp) (fun v hv=>by simp at hv) z hf hM g0) (by decide) rfl rfl ⟨⟨_,rfl,le_share⟩,⟨_,rfl,le_share⟩,⟨_,rfl,le_share⟩,trivial⟩ rfl rfl (fun _=>rfl) (fun _=>allOwn rfl) (fun _=>rfl) (fun _=>?_);refine A14 ?_;refine Cd ?_ ?_<;>intro hb2
   ·have hE:r.2.endE (chkQ 1 [] r.1)≠0:=by simpa using hb2
    refine A2 ?_;refine r_build [] rfl rfl rfl (bd39_0) ?_;refine A2 ?_;refine So 0 0 [⟨some g0,39,_,9,true⟩,_,_,_] [_,_,_,_,_,_,_,_,_] ?_;refine A6 ?_;refine at_end3 rfl (res_cell 0 rfl rfl ti39 (vs:=[_,_,_,_,_,_,_,_,_]) rfl rfl (Nat.le_of_ble_eq_true rfl) rfl) (res_tmp rfl) (res_tmp rfl) (fun w hL=>⟨(none,z),by exact congrArg Ending.returned (pqV_no 1 [] none z hE).symm,hL.pk [some 3,some 2]⟩)
   ·have hE:r.2.endE (chkQ 1 [] r.1)=0:=by simpa using hb2
    refine A4 ?_;refine Ld 0 0 [_,_,_,_,_,_,_,_,_] ti39 ?_;refine So 0 0 [⟨some g0,39,_,9,true⟩,_,_,_] [_,_,_,_,_,_,_,_,_] ?_;refine A5 ?_;refine at_end3 rfl (res_cell 0 rfl rfl ti39 (vs:=[_,_,_,_,_,_,_,_,_]) rfl rfl (Nat.le_of_ble_eq_true rfl) rfl) (res_tmp rfl) (res_tmp rfl) (fun w hL=>⟨(none,z),by exact congrArg Ending.returned (pqV_yes 1 [] none z hE).symm,hL.pk [some 3,some 2]⟩)
  ·have hisv:(p0 s).adv.is tValue=false:=hb1;have htkv:(p0 s).adv.tk tValue=(p0 s).adv:=by unfold Ps.tk;rw[hisv];rfl
   rw[htkv];refine A1 ?_;refine at_regionM ?_;refine A1 ?_;refine Gm 1 [1] [] (fun _=>[_,PB g ((p0 s).adv.tk tObjects) true]) (c_p_take (p0 s).adv hP.1 tObjects g) (fun _=>?_);refine A3 ?_;refine Cd ?_ ?_<;>intro hb2
   ·have hiso:(p0 s).adv.is tObjects=true:=hb2;have htko:(p0 s).adv.tk tObjects=(p0 s).adv.adv:=by unfold Ps.tk;rw[hiso];rfl
    rw[htko];unfold headK at hh;rw[if_neg (by rw[hisv];simp),if_pos hiso] at hh;cases hh;refine A3 ?_;refine So 0 0 [⟨some g0,39,_,9,true⟩,_] [_,_,_,_,_,_,_,_,_] ?_;refine A3 ?_;refine at_regionM ?_;refine A1 ?_;refine Gm 1 [1] [] (fun _=>[_,PB g ((p0 s).adv.adv.name) true]) (c_p_name ((p0 s).adv.adv) hA.1 g) (fun _=>?_);refine r_buildSlice [(0,_)] (fun g=>[_,_,⟨some g,9,_,1,true⟩]) rfl rfl rfl (bs36_1) rfl (fun _=>rfl) (fun g1=>?_);refine A1 ?_;refine So 0 1 [⟨some g0,39,_,9,true⟩,_,_] [_,_,_,_,_,_,_,_,_] ?_;refine A2 ?_;refine at_regionM ?_;refine A1 ?_;refine Gm 1 [1] [] (fun _=>[_,PB g (((p0 s).adv.adv.name).want tWhere) true,_]) (c_p_want ((p0 s).adv.adv.name) (Ps.name_good hA).1 tWhere g) (fun _=>?_);refine A4 ?_;refine at_regionM ?_;refine A1 ?_;refine Gm 1 [1] [] (fun z=>[_,PB g r.2 true,_,gB z.T true]) (c_p_level f g 1 ((p0 s).adv.adv.name.want tWhere) r (Ps.want_good (Ps.name_good hA)) (by decide) (by decide) hr) (fun z=>?_);refine A1 ?_;refine So 0 2 [⟨some g0,39,_,9,true⟩,_,_,_] [_,_,_,_,_,_,_,_,_] ?_;refine A3 ?_;refine at_regionM ?_;refine A2 ?_;refine r_gcallM (A:=[PB g r.2 true]) (C:=[QBr g0 2 (some g1) [(p0 s).adv.adv.tx] 1 z,VBk (some g1) 9 [] [(p0 s).adv.adv.tx] 1,gB z.T false]) [.pointer (some ⟨g,0,none⟩),.func (.func 79) #[] #[.pointer (some ⟨g0,0,none⟩)]] [1] [0,2,3] (fun _=>[_,PB g r.2.endP true,_,_]) rfl rfl rfl rfl (c_p_end_q r.2 g 2 (by decide) (some g1) 9 [(p0 s).adv.adv.tx] 1 1 (by simp) (fun v hv=>by have:=hA.2.2;rw[List.mem_singleton.1 hv];omega) z hf hM g0) (by decide) rfl rfl ⟨⟨_,rfl,le_share⟩,⟨_,rfl,le_share⟩,⟨_,rfl,le_share⟩,trivial⟩ rfl rfl (fun _=>rfl) (fun _=>allOwn rfl) (fun _=>rfl) (fun _=>?_);refine A14 ?_;refine Cd ?_ ?_<;>intro hb3
    ·have hE:r.2.endE (chkQ 2 [(p0 s).adv.adv.tx] r.1)≠0:=by simpa using hb3
     refine A2 ?_;refine r_build [] rfl rfl rfl (bd39_0) ?_;refine A2 ?_;refine So 0 0 [⟨some g0,39,_,9,true⟩,_,_,_] [_,_,_,_,_,_,_,_,_] ?_;refine A6 ?_;refine at_end3 rfl (res_cell 0 rfl rfl ti39 (vs:=[_,_,_,_,_,_,_,_,_]) rfl rfl (Nat.le_of_ble_eq_true rfl) rfl) (res_tmp rfl) (res_tmp rfl) (fun w hL=>⟨((some g1),z),by exact congrArg Ending.returned (pqV_no 2 [(p0 s).adv.adv.tx] (some g1) z hE).symm,hL.pk [some 2,some 3]⟩)
    ·have hE:r.2.endE (chkQ 2 [(p0 s).adv.adv.tx] r.1)=0:=by simpa using hb3
     refine A4 ?_;refine Ld 0 0 [_,_,_,_,_,_,_,_,_] ti39 ?_;refine So 0 0 [⟨some g0,39,_,9,true⟩,_,_,_] [_,_,_,_,_,_,_,_,_] ?_;refine A5 ?_;refine at_end3 rfl (res_cell 0 rfl rfl ti39 (vs:=[_,_,_,_,_,_,_,_,_]) rfl rfl (Nat.le_of_ble_eq_true rfl) rfl) (res_tmp rfl) (res_tmp rfl) (fun w hL=>⟨((some g1),z),by exact congrArg Ending.returned (pqV_yes 2 [(p0 s).adv.adv.tx] (some g1) z hE).symm,hL.pk [some 2,some 3]⟩)
   ·have hiso:(p0 s).adv.is tObjects=false:=hb2;have htko:(p0 s).adv.tk tObjects=(p0 s).adv:=by unfold Ps.tk;rw[hiso];rfl
    rw[htko];refine A1 ?_;refine at_regionM ?_;refine A1 ?_;refine Gm 1 [1] [] (fun _=>[_,PB g ((p0 s).adv.tk tPairs) true]) (c_p_take (p0 s).adv hP.1 tPairs g) (fun _=>?_);refine A3 ?_;refine Cd ?_ ?_<;>intro hb3
    ·have hisp:(p0 s).adv.is tPairs=true:=hb3;have htkp:(p0 s).adv.tk tPairs=(p0 s).adv.adv:=by unfold Ps.tk;rw[hisp];rfl
     rw[htkp];unfold headK at hh;rw[if_neg (by rw[hisv];simp),if_neg (by rw[hiso];simp),if_pos hisp] at hh;cases hh;refine A3 ?_;refine So 0 0 [⟨some g0,39,_,9,true⟩,_] [_,_,_,_,_,_,_,_,_] ?_;refine A3 ?_;refine at_regionM ?_;refine A1 ?_;refine Gm 1 [1] [] (fun _=>[_,PB g ((p0 s).adv.adv.name) true]) (c_p_name ((p0 s).adv.adv) hA.1 g) (fun _=>?_);refine A4 ?_;refine at_regionM ?_;refine A1 ?_;refine Gm 1 [1] [] (fun _=>[_,PB g (((p0 s).adv.adv.name).want tComma) true]) (c_p_want ((p0 s).adv.adv.name) (Ps.name_good hA).1 tComma g) (fun _=>?_);refine A3 ?_;refine at_regionM ?_;refine A2 ?_;refine Gm 1 [1] [] (fun _=>[_,PB g (((p0 s).adv.adv.name.want tComma).name) true]) (c_p_name (((p0 s).adv.adv.name.want tComma)) hC.1 g) (fun _=>?_);refine r_buildSlice [(0,_),(1,_)] (fun g=>[_,_,⟨some g,9,_,2,true⟩]) rfl rfl rfl (bs36_2) rfl (fun _=>rfl) (fun g1=>?_);refine A1 ?_;refine So 0 1 [⟨some g0,39,_,9,true⟩,_,_] [_,_,_,_,_,_,_,_,_] ?_;refine A2 ?_;refine at_regionM ?_;refine A1 ?_;refine Gm 1 [1] [] (fun _=>[_,PB g ((((p0 s).adv.adv.name.want tComma).name).want tWhere) true,_]) (c_p_want (((p0 s).adv.adv.name.want tComma).name) (Ps.name_good hC).1 tWhere g) (fun _=>?_);refine A4 ?_;refine at_regionM ?_;refine A1 ?_;refine Gm 1 [1] [] (fun z=>[_,PB g r.2 true,_,gB z.T true]) (c_p_level f g 1 (((p0 s).adv.adv.name.want tComma).name.want tWhere) r (Ps.want_good (Ps.name_good hC)) (by decide) (by decide) hr) (fun z=>?_);refine A1 ?_;refine So 0 2 [⟨some g0,39,_,9,true⟩,_,_,_] [_,_,_,_,_,_,_,_,_] ?_;refine A3 ?_;refine at_regionM ?_;refine A2 ?_;refine r_gcallM (A:=[PB g r.2 true]) (C:=[QBr g0 3 (some g1) [(p0 s).adv.adv.tx,((p0 s).adv.adv.name.want tComma).tx] 2 z,VBk (some g1) 9 [] [(p0 s).adv.adv.tx,((p0 s).adv.adv.name.want tComma).tx] 2,gB z.T false]) [.pointer (some ⟨g,0,none⟩),.func (.func 79) #[] #[.pointer (some ⟨g0,0,none⟩)]] [1] [0,2,3] (fun _=>[_,PB g r.2.endP true,_,_]) rfl rfl rfl rfl (c_p_end_q r.2 g 3 (by decide) (some g1) 9 [(p0 s).adv.adv.tx,((p0 s).adv.adv.name.want tComma).tx] 2 2 (by simp) (fun v hv=>by have h1:=hA.2.2;have h2:=hC.2.2;simp only[List.mem_cons,List.not_mem_nil,or_false] at hv;rcases hv with rfl|rfl<;>omega) z hf hM g0) (by decide) rfl rfl ⟨⟨_,rfl,le_share⟩,⟨_,rfl,le_share⟩,⟨_,rfl,le_share⟩,trivial⟩ rfl rfl (fun _=>rfl) (fun _=>allOwn rfl) (fun _=>rfl) (fun _=>?_);refine A14 ?_;refine Cd ?_ ?_<;>intro hb4
     ·have hE:r.2.endE (chkQ 3 [(p0 s).adv.adv.tx,((p0 s).adv.adv.name.want tComma).tx] r.1)≠0:=by simpa using hb4
      refine A2 ?_;refine r_build [] rfl rfl rfl (bd39_0) ?_;refine A2 ?_;refine So 0 0 [⟨some g0,39,_,9,true⟩,_,_,_] [_,_,_,_,_,_,_,_,_] ?_;refine A6 ?_;refine at_end3 rfl (res_cell 0 rfl rfl ti39 (vs:=[_,_,_,_,_,_,_,_,_]) rfl rfl (Nat.le_of_ble_eq_true rfl) rfl) (res_tmp rfl) (res_tmp rfl) (fun w hL=>⟨((some g1),z),by exact congrArg Ending.returned (pqV_no 3 [(p0 s).adv.adv.tx,((p0 s).adv.adv.name.want tComma).tx] (some g1) z hE).symm,hL.pk [some 2,some 3]⟩)
     ·have hE:r.2.endE (chkQ 3 [(p0 s).adv.adv.tx,((p0 s).adv.adv.name.want tComma).tx] r.1)=0:=by simpa using hb4
      refine A4 ?_;refine Ld 0 0 [_,_,_,_,_,_,_,_,_] ti39 ?_;refine So 0 0 [⟨some g0,39,_,9,true⟩,_,_,_] [_,_,_,_,_,_,_,_,_] ?_;refine A5 ?_;refine at_end3 rfl (res_cell 0 rfl rfl ti39 (vs:=[_,_,_,_,_,_,_,_,_]) rfl rfl (Nat.le_of_ble_eq_true rfl) rfl) (res_tmp rfl) (res_tmp rfl) (fun w hL=>⟨((some g1),z),by exact congrArg Ending.returned (pqV_yes 3 [(p0 s).adv.adv.tx,((p0 s).adv.adv.name.want tComma).tx] (some g1) z hE).symm,hL.pk [some 2,some 3]⟩)
    ·have hisp:(p0 s).adv.is tPairs=false:=hb3;have htkp:(p0 s).adv.tk tPairs=(p0 s).adv:=by unfold Ps.tk;rw[hisp];rfl
     rw[htkp];unfold headK at hh;rw[if_neg (by rw[hisv];simp),if_neg (by rw[hiso];simp),if_neg (by rw[hisp];simp)] at hh;cases hh;refine at_regionM ?_;refine A1 ?_;refine Gm 1 [1] [] (fun _=>[_,PB g ((p0 s).adv.stop 15) true]) (c_p_stop (p0 s).adv 15 g) (fun _=>?_);refine A4 ?_;refine at_regionM ?_;refine A1 ?_;refine Gm 1 [1] [] (fun z=>[_,PB g r.2 true,gB z.T true]) (c_p_level f g 1 ((p0 s).adv.stop 15) r (Ps.stop_good hP) (by decide) (by decide) hr) (fun z=>?_);refine A1 ?_;refine So 0 2 [⟨some g0,39,_,9,true⟩,_,_] [_,_,_,_,_,_,_,_,_] ?_;refine A3 ?_;refine at_weakL (L':=[_,_,_,⟨none,9,[],0,true⟩]) (Weak.nilB _ (by decide)) ?_;refine at_regionM ?_;refine A2 ?_;refine r_gcallM (A:=[PB g r.2 true]) (C:=[QBr g0 0 none [] 0 z,VBk none 9 [] [] 0,gB z.T false]) [.pointer (some ⟨g,0,none⟩),.func (.func 79) #[] #[.pointer (some ⟨g0,0,none⟩)]] [1] [0,3,2] (fun _=>[_,PB g r.2.endP true,_,_]) rfl rfl rfl rfl (c_p_end_q r.2 g 0 (by decide) none 9 [] 0 0 (by simp) (fun v hv=>by simp at hv) z hf hM g0) (by decide) rfl rfl ⟨⟨_,rfl,le_share⟩,⟨_,rfl,le_share⟩,⟨_,rfl,le_share⟩,trivial⟩ rfl rfl (fun _=>rfl) (fun _=>allOwn rfl) (fun _=>rfl) (fun _=>?_);refine A14 ?_;refine Cd ?_ ?_<;>intro hb4
     ·have hE:r.2.endE (chkQ 0 [] r.1)≠0:=by simpa using hb4
      refine A2 ?_;refine r_build [] rfl rfl rfl (bd39_0) ?_;refine A2 ?_;refine So 0 0 [⟨some g0,39,_,9,true⟩,_,_,_] [_,_,_,_,_,_,_,_,_] ?_;refine A6 ?_;refine at_end3 rfl (res_cell 0 rfl rfl ti39 (vs:=[_,_,_,_,_,_,_,_,_]) rfl rfl (Nat.le_of_ble_eq_true rfl) rfl) (res_tmp rfl) (res_tmp rfl) (fun w hL=>⟨(none,z),by exact congrArg Ending.returned (pqV_no 0 [] none z hE).symm,hL.pk [some 3,some 2]⟩)
     ·have hE:r.2.endE (chkQ 0 [] r.1)=0:=by simpa using hb4
      refine A4 ?_;refine Ld 0 0 [_,_,_,_,_,_,_,_,_] ti39 ?_;refine So 0 0 [⟨some g0,39,_,9,true⟩,_,_,_] [_,_,_,_,_,_,_,_,_] ?_;refine A5 ?_;refine at_end3 rfl (res_cell 0 rfl rfl ti39 (vs:=[_,_,_,_,_,_,_,_,_]) rfl rfl (Nat.le_of_ble_eq_true rfl) rfl) (res_tmp rfl) (res_tmp rfl) (fun w hL=>⟨(none,z),by exact congrArg Ending.returned (pqV_yes 0 [] none z hE).symm,hL.pk [some 3,some 2]⟩)
theorem join_C:∀l:List Bs8,Lib.join l [44,32]=joinC l
 |[]=>rfl
 |[t]=>by simp[Lib.join,joinC]
 |t::u::r=>by
  have ih:=join_C (u::r)
  rw[joinC,←ih]
  simp[Lib.join]
theorem c_Join(g:Nat)(e:Nat)(pre:List Value)(l:List Bs8)(n cap:Nat)(hl0:l≠[])(hll:l.length≤1000000)(hcap:l.length≤cap)(hj:(joinC l).length≤140737488355328):
 SCall Tryz.prog 58 [VBk (some g) e pre l n] [.slice (some ⟨g,pre.length,none⟩) l.length cap,.string (strU [44,32])] Unit (fun _=> .string (strU (joinC l))) (fun _=>[]):=by
 refine⟨by kernel_rfl,fun w hL=>?_⟩
 obtain⟨s0,hs0⟩:∃s,l[0]? =some s:=⟨l[0]'(List.length_pos_iff.2 hl0),List.getElem?_eq_getElem _⟩
 have e1:(l.map strU).map (·.data.toList)=l:=by rw[List.map_map];simp[Function.comp_def,strU]
 have h0:=hL.strs (k:=0) rfl hs0
 have h1:=Tryz.strings_Join g pre.length cap (l.map strU) (strU [44,32]) w (fun j x hx=>by
 rw[List.getElem?_map] at hx
 obtain⟨s,hs,rfl⟩:=Option.map_eq_some_iff.1 hx
 exact hL.strs (k:=0) rfl hs) (by
 rcases Nat.lt_or_ge g w.heap.size with h|h
 ·exact h
 ·simp[World.cell?,Array.getElem?_eq_none h] at h0) (by simp;omega) (by simpa using hcap) (by
 rw[e1];show(Lib.join l [44,32]).length≤_;rw[join_C];exact hj)
 rw[List.length_map] at h1
 refine Calls.mono h1 ?_
 rintro e w' ⟨rfl,hb⟩
 refine⟨(),?_,(LRel.nil w).same hb⟩
 rw[e1]
 show Ending.returned (Value.string ⟨(Lib.join l [44,32]).toArray⟩)=_
 rw[join_C]
 rfl
theorem c_JoinB(b:Option Nat)(e:Nat)(pre:List Value)(l:List Bs8)(n cap:Nat)(hl0:l≠[])(hll:l.length≤1000000)(hcap:l.length≤cap)(hj:(joinC l).length≤140737488355328):
 SCall Tryz.prog 58 [VBk b e pre l n] [.slice (b.map fun g=>⟨g,pre.length,none⟩) l.length cap,.string (strU [44,32])] Unit (fun _=> .string (strU (joinC l))) (fun _=>[]):=by
 cases b with
 |some g=>exact c_Join g e pre l n cap hl0 hll hcap hj
 |none=>
  refine⟨by kernel_rfl,fun w hL=>?_⟩
  have h2:=((hL.blk 0 _ rfl).2 rfl).1
  have h3:=congrArg List.length h2
  rw[List.length_append,SB_length] at h3
  exact absurd (List.eq_nil_of_length_eq_zero (by simp at h3;simp[h3.2])) hl0
def headS(k:Int):Bs8:=if k=1 then[118,97,108,117,101,32] else if k=2 then[111,98,106,101,99,116,115,32] else[112,97,105,114,115,32]
def sWhere:Bs8:=[32,119,104,101,114,101,32]
def headT(k:Int)(l:List Bs8):Bs8:=if l=[] then headS k else headS k++(joinC l++sWhere)
theorem heads_get{k:Int}(h1:1≤k)(h3:k≤3):(([.string ⟨#[]⟩,.string ⟨#[118,97,108,117,101,32]⟩,.string ⟨#[111,98,106,101,99,116,115,32]⟩,.string ⟨#[112,97,105,114,115,32]⟩]:List Value).drop (k.toNat*1)).take 1=[.string (strU (headS k))]:=by
 have h:k=1∨k=2∨k=3:=by omega
 rcases h with rfl|rfl|rfl<;>rfl
theorem chkQ_kind{kind:Int}{l:List Bs8}{x:XT}(h:chkQ kind l x=0):(1≤kind∧kind≤3)∧chkE x=0:=by
 unfold chkQ at h
 split at h
 ·cases h
 rename_i h1
 split at h
 ·cases h
 split at h
 ·cases h
 split at h
 ·cases h
 split at h
 ·rename_i h2;exact absurd h h2
 rename_i h2
 exact⟨by omega,by simpa using h2⟩
noncomputable def prQT(kind:Int)(l:List Bs8)(x:XT):Bs8:=if chkQ kind l x=0 then prT (headT kind l++txt x 1) else[]
noncomputable def prQC(kind:Int)(l:List Bs8)(x:XT):Int:=if chkQ kind l x=0 then prC (headT kind l++txt x 1) else(chkQ kind l x:Nat)
theorem c_Print(kind:Int)(hk: -9223372036854775808≤kind∧kind≤9223372036854775807)(b:Option Nat)(e:Nat)(pre:List Value)(l:List Bs8)(n cap:Nat)(hll:l.length≤1000000)(hvl:∀v∈l,v.length≤1000000)(hcap:l.length≤cap){x:XT}(z:XR x)(m:Int)(hf:x.fit=true)(hM:x.size≤1000000)(hb:chkQ kind l x=0→(headT kind l).length+(txt x 1).length≤17179869184):ECall Tryz.prog 28 [VBk b e pre l n,gB z.T false,GM m] [QV kind b pre l cap z] Unit (fun _=> .tuple #[.string (strU (prQT kind l x)),.int .i64 (prQC kind l x)]) (fun _=>[]):=by
 refine⟨by kernel_rfl,fun B w hD hL0=>?_⟩;refine cB1 33 Tryz.func28 hL0 ?_;refine A2 ?_;refine Bo [_,_,_,_,_,_,_,_,_] 9 (fun g=>[_,_,_,⟨some g,39,_,9,true⟩]) (fun g0=>?_);refine A6 ?_;refine at_regionM ?_;refine Ld 3 0 [_,_,_,_,_,_,_,_,_] ti39 ?_;refine Kr 7 (QV kind b pre l cap z) ?_;refine Gm 0 [] [0,1] (fun _=>[_,_,_,_]) (c_Check kind hk b e pre l n cap hll hvl z hf hM) (fun _=>?_);refine A9 ?_;refine Cd ?_ ?_<;>intro hb0
 ·have kc:chkQ kind l x≠0:=by simpa using hb0
  refine A9 ?_;refine at_end2 rfl (res_tmp rfl) (res_tmp rfl) (fun w hL=>⟨(),by unfold prQT prQC;rw[if_neg kc,if_neg kc];rfl,hL.pk []⟩)
 ·have kc:chkQ kind l x=0:=by simpa using hb0
  have hkk:=chkQ_kind kc;obtain⟨⟨hk1,hk3⟩,_⟩:=id hkk;refine A4 ?_;refine r_build [(1,_),(2,_),(3,_)] rfl rfl rfl (bd79_1_2_3x) ?_;refine r_alloc [_,_,_,_] 4 (fun g=>[_,_,_,_,⟨some g,79,_,4,true⟩]) rfl rfl z79 rfl rfl (fun _=>rfl) (fun g1=>?_);refine So 4 0 [_,_,_,_,⟨some g1,79,_,4,true⟩] [_,_,_,_] ?_;refine A6 ?_;refine r_indexAddrA (kind.toNat*1) u79 ti9 rfl rfl rfl rfl (by omega) (by omega) (by show 0+Int.toNat _*1=_;omega) ?_;refine r_load (v:= .string (strU (headS kind))) 4 (kind.toNat*1) _ rfl rfl rfl rfl ti9 (heads_get hk1 hk3) rfl (by decide) rfl ?_;refine A12 ?_;refine Cd ?_ ?_<;>intro hb1
  ·have hl0:l≠[]:=fun e=>by have:=of_decide_eq_true hb1;rw[e] at this;simp at this
   have hT:headT kind l=headS kind++(joinC l++sWhere):=if_neg hl0;have hjb0:=hb kc;rw[hT] at hjb0;simp only[List.length_append] at hjb0;have hjb:(joinC l).length≤140737488355328:=(by omega);refine at_regionM ?_;refine A3 ?_;refine r_scall0 [slv b pre.length l.length cap,.string (strU [44,32])] [0] rfl rfl rfl (c_JoinB b e pre l n cap hl0 hll hcap hjb) ⟨⟨_,rfl,Blk.le_refl _⟩,trivial⟩ rfl ?_;refine r_addS (p:=joinC l) (q:=sWhere) rfl rfl rfl rfl rfl rfl rfl (by omega) ?_;refine r_addS (p:=headS kind) (q:=joinC l++sWhere) rfl rfl rfl rfl rfl rfl rfl (by rw[List.length_append];omega) ?_;refine A4 ?_;refine at_regionM ?_;refine A2 ?_;refine Ld 3 2 [_,_,_,_,_,_,_] ti30 ?_;refine Kr 29 (z.v) ?_;refine Gm 0 [] [1,2] (fun _=>[_,_,_,_,_]) (c_printed z m (chk_ok x 1 0 hkk.2) hf (by omega) (headS kind++(joinC l++sWhere)) (by rw[←hT];exact hb kc)) (fun _=>?_);refine A7 ?_;refine at_end2 rfl (res_tmp rfl) (res_tmp rfl) (fun w hL=>⟨(),by unfold prQT prQC;rw[if_pos kc,if_pos kc,hT],hL.pk []⟩)
  ·have hl0:l=[]:=List.eq_nil_of_length_eq_zero (by have:=of_decide_eq_false hb1;omega);have hT:headT kind l=headS kind:=if_pos hl0;refine A3 ?_;refine at_regionM ?_;refine A2 ?_;refine Ld 3 2 [_,_,_,_,_,_,_] ti30 ?_;refine Kr 29 (z.v) ?_;refine Gm 0 [] [1,2] (fun _=>[_,_,_,_,_]) (c_printed z m (chk_ok x 1 0 hkk.2) hf (by omega) (headS kind) (by rw[←hT];exact hb kc)) (fun _=>?_);refine A7 ?_;refine at_end2 rfl (res_tmp rfl) (res_tmp rfl) (fun w hL=>⟨(),by unfold prQT prQC;rw[if_pos kc,if_pos kc,hT],hL.pk []⟩)
theorem c_Size{x:XT}(z:XR x)(hM:x.size≤1000000000):ECall Tryz.prog 20 [gB z.T false] [z.v] Unit (fun _=> .int .i64 (foldN (fun _ lv n=>n+1) x 1 0:Nat)) (fun _=>[]):=by
 refine⟨by kernel_rfl,fun B w hD hL0=>?_⟩;refine cB1 8 Tryz.func20 hL0 ?_;refine A2 ?_;refine Bo [_,_,_,_,_,_,_] 7 (fun g=>[_,⟨some g,30,_,7,true⟩]) (fun g0=>?_);refine A5 ?_;refine r_alloc [_] 1 (fun g=>[_,_,⟨some g,3,_,1,true⟩]) rfl rfl z3 rfl rfl (fun _=>rfl) (fun g1=>?_);refine So 2 0 [_,_,⟨some g1,3,_,1,true⟩] [_] ?_;refine A3 ?_;refine at_regionM ?_;refine Ld 1 0 [_,_,_,_,_,_,_] ti30 ?_;refine Kr 4 (z.v) ?_;refine A1 ?_;refine r_gcallM (A:=[VN g1 0]) (C:=[gB z.T false]) [z.v,.int .i64 (1:Nat),.func (.func 52) #[] #[.pointer (some ⟨g1,0,none⟩)]] [2] [0] (fun _=>[_,_,VN g1 (foldN (fun _ lv n=>n+1) x 1 0)]) rfl rfl rfl rfl (c_each 52 (fun _ lv n=>n+1) (fun _ lv n=>by omega) g1 (fun u lv n h h2=>c_Size_1 u lv n g1 h h2) x z 1 0 (by omega)) (by decide) rfl rfl ⟨⟨_,rfl,Blk.le_refl _⟩,trivial⟩ rfl rfl (fun _=>rfl) (fun _=>allOwn rfl) (fun _=>rfl) (fun _=>?_);refine A9 ?_;refine E1 fun w hL=>⟨(),rfl,hL.pk []⟩
theorem c_Depth{x:XT}(z:XR x)(hM:x.size≤1000000000):ECall Tryz.prog 22 [gB z.T false] [z.v] Unit (fun _=> .int .i64 (foldN (fun _ lv n=>max n lv) x 1 0:Nat)) (fun _=>[]):=by
 refine⟨by kernel_rfl,fun B w hD hL0=>?_⟩;refine cB1 8 Tryz.func22 hL0 ?_;refine A2 ?_;refine Bo [_,_,_,_,_,_,_] 7 (fun g=>[_,⟨some g,30,_,7,true⟩]) (fun g0=>?_);refine A5 ?_;refine r_alloc [_] 1 (fun g=>[_,_,⟨some g,3,_,1,true⟩]) rfl rfl z3 rfl rfl (fun _=>rfl) (fun g1=>?_);refine So 2 0 [_,_,⟨some g1,3,_,1,true⟩] [_] ?_;refine A3 ?_;refine at_regionM ?_;refine Ld 1 0 [_,_,_,_,_,_,_] ti30 ?_;refine Kr 4 (z.v) ?_;refine A1 ?_;refine r_gcallM (A:=[VN g1 0]) (C:=[gB z.T false]) [z.v,.int .i64 (1:Nat),.func (.func 53) #[] #[.pointer (some ⟨g1,0,none⟩)]] [2] [0] (fun _=>[_,_,VN g1 (foldN (fun _ lv n=>max n lv) x 1 0)]) rfl rfl rfl rfl (c_each 53 (fun _ lv n=>max n lv) (fun _ lv n=>by omega) g1 (fun u lv n h h2=>c_Depth_1 u lv n g1 h h2) x z 1 0 (by omega)) (by decide) rfl rfl ⟨⟨_,rfl,Blk.le_refl _⟩,trivial⟩ rfl rfl (fun _=>rfl) (fun _=>allOwn rfl) (fun _=>rfl) (fun _=>?_);refine A9 ?_;refine E1 fun w hL=>⟨(),rfl,hL.pk []⟩
def kS:Bs8:=[111,98,106,101,99,116,115,32,99,32,119,104,101,114,101,32,115,111,109,101,116,105,109,101,40,105,110,115,105,100,101,40,99,44,32,122,111,110,101,40,34,110,111,114,116,104,34,41,41,32,97,110,100,32,119,105,116,104,105,110,40,99,44,32,111,98,106,101,99,116,40,51,41,44,32,53,48,41,41]
def kq:Ps:=(p0 kS).adv.adv.name.want tWhere
def kT:XT:= .node 26 [.node 23 [.node 16 [.named 4 [99],.named 5 [110,111,114,116,104]],.node 15 [.named 4 [99],.numd 3 3,.numd 1 50]]]
def kP:Ps:=⟨kS,79,0,79,[],0,0,false⟩
theorem k_head:headK (p0 kS).adv=(2,[[99]],kq):=by kernel_rfl
theorem k_lev:lev 60 1 kq=some (kT,kP):=by kernel_rfl
theorem k_fit:kT.fit=true:=by decide+kernel
theorem k_size:kT.size=9:=by kernel_rfl
theorem k_end(e:Nat):kP.endE e=e:=rfl
theorem k_txt:txt kT 1=kS.drop 16:=by kernel_rfl
theorem k_sz:foldN (fun _ lv n=>n+1) kT 1 0=9:=by kernel_rfl
theorem k_dp:foldN (fun _ lv n=>max n lv) kT 1 0=4:=by kernel_rfl
theorem k_chkE:chkE kT=0:=by kernel_rfl
theorem k_varsL:varsL kT=[[99],[99]]:=by kernel_rfl
theorem k_vars:varsU kT=[[99]]:=by
 unfold varsU
 rw[k_varsL]
 unfold sortL
 simp[List.mergeSort,Lib.compact]
 try rfl
theorem k_chkQ:chkQ 2 [[99]] kT=0:=by
 unfold chkQ
 rw[if_neg (by decide),if_neg (by decide),if_neg (by decide+kernel),if_neg (by decide),if_neg (by rw[k_chkE];simp),if_neg (by rw[k_vars];decide)]
theorem k_E:kP.endE (chkQ 2 [[99]] kT)=0:=by rw[k_end,k_chkQ]
theorem k_prT:prQT 2 [[99]] kT=kS:=by
 unfold prQT
 rw[if_pos k_chkQ,k_txt]
 kernel_rfl
theorem k_prC:prQC 2 [[99]] kT=0:=by
 unfold prQC
 rw[if_pos k_chkQ,k_txt]
 kernel_rfl
theorem c_Parse_k:ECall Tryz.prog 42 [] [.string (strU kS)] (Option Nat×XR kT) (fun z=> .tuple #[QV 2 z.1 [] [[99]] 1 z.2,.int .i64 0,.int .i64 0]) (fun z=>[⟨z.1,9,SB [[99]],1,true⟩,gB z.2.T true]):=by
 have h:=c_Parse_ok kS (by decide) 2 [[99]] kq k_head 60 (kT,kP) k_lev k_fit (by rw[show(kT,kP).1=kT from rfl,k_size];decide)
 have e:(fun z:Option Nat×XR kT=>pqV 2 [[99]] (kT,kP) z.1 z.2)=(fun z=> .tuple #[QV 2 z.1 [] [[99]] 1 z.2,.int .i64 0,.int .i64 0]):=funext fun z=>pqV_yes 2 [[99]] (r:=(kT,kP)) z.1 z.2 k_E
 exact e▸h
theorem c_Print_k(b:Option Nat)(z:XR kT)(m:Int):ECall Tryz.prog 28 [VBk b 9 [] [[99]] 1,gB z.T false,GM m] [QV 2 b [] [[99]] 1 z] Unit (fun _=> .tuple #[.string (strU kS),.int .i64 0]) (fun _=>[]):=by
 have h:=c_Print 2 (by decide) b 9 [] [[99]] 1 1 (by simp) (fun v hv=>by rw[List.mem_singleton.1 hv];simp) (by simp) z m k_fit (by rw[k_size];decide) (fun _=>by rw[k_txt];decide+kernel)
 rw[k_prT,k_prC] at h
 exact h
theorem c_Variables_k(z:XR kT):ECall Tryz.prog 25 [gB z.T false] [z.v] (SRw [[99]]) (fun s=>slv s.b 0 1 s.cap) (fun s=>[VR s]):=by
 have h:=c_Variables z (by rw[k_size];decide)
 rw[k_vars] at h
 exact h
theorem c_Size_k(z:XR kT):ECall Tryz.prog 20 [gB z.T false] [z.v] Unit (fun _=> .int .i64 9) (fun _=>[]):=by
 have h:=c_Size z (by rw[k_size];decide)
 rw[k_sz] at h
 exact h
theorem c_Depth_k(z:XR kT):ECall Tryz.prog 22 [gB z.T false] [z.v] Unit (fun _=> .int .i64 4) (fun _=>[]):=by
 have h:=c_Depth z (by rw[k_size];decide)
 rw[k_dp] at h
 exact h
end Go.Proofs.YtfijbadahkmhbaaGreatDoor
