/-
  For any right expression of at most 40 nodes, any up to 4 names of at most 60 bytes and any ids, Bind returns the expression with objects, or the first error; if all variables are bound, none is left. No further conditions.
-/
import Derived.Test.YtfijbadahkmhbaaGreatDoorA11
import Derived.Test.YtfijbadahkmhbaaGreatDoorA13
import Derived.Test.YtfijbadahkmhbaaGreatDoorA15
set_option linter.unusedVariables false
set_option linter.unusedSimpArgs false
set_option maxRecDepth 20000
set_option maxHeartbeats 20000000
namespace Go.Proofs.YtfijbadahkmhbaaGreatDoor.syntaxBinds
open Go Go.ChangeShapes Go.WideShapes Go.ChangeAt Go.RowKit Go.Via
theorem laid:laidOutB Tryz.prog=true:=by kernel_rfl
theorem contract(H:Type)(enc:TypeId×Value→H)(W:World)(base:Nat)(args:Array Value)(ds gs:List (DataW H))(before:List MemPlace)
 (hval:∀(j:Nat) t v,Tryz.f9.params[j]? =some t→args[j]? =some v→Value.okWide Tryz.prog W .any base t v)
 (hW:DataW.Whole enc Tryz.prog Tryz.f9.params.toList Rows.syntaxBindsSpec.vars false W args.toList ds gs before)
 (hsz:(DataW.weightsEach Tryz.prog (Tryz.f9.params.toList++(OpenSpec.ofChange Rows.syntaxBindsSpec).bare.plain.varTypes Tryz.prog) (ds++gs)).all (· ≤reachBytes)=true)(hsh:W.ShapedOpen Tryz.prog):
 Calls Tryz.prog 9 args W fun e W'=>∃v,e= .returned v∧Rows.syntaxBindsSpec.post enc Tryz.prog Tryz.f9 false true false false W args v W':=by
 have hW':=hW
 obtain⟨p,q,hA0,hV,rfl,hfz,hnd⟩:=hW
 have hA:DataW.TrodAll enc Tryz.prog W 0 (fun _=>true) true Tryz.f9.params.toList args.toList ds p:=hA0
 rw[Tryz.params9] at hA hval
 obtain⟨v0,vs0,d0,ds0,p0,q0,hargs,rfl,rfl,h0,r0⟩:=trodAll_cons hA
 obtain⟨v1,vs1,d1,ds1,p1,q1,rfl,rfl,rfl,h1,r1⟩:=trodAll_cons r0
 obtain⟨v2,vs2,d2,ds2,p2,q2,rfl,rfl,rfl,h2,r2⟩:=trodAll_cons r1
 obtain⟨rfl,rfl,rfl⟩:=trodAll_nil r2
 obtain rfl:args= #[v0,v1,v2]:=by cases args;simp_all
 obtain⟨rfl,rfl⟩:=trodVars_none hV
 have h0k:=h0
 have h1k:=h1
 have h2k:=h2
 have hw0:wOK 50 d0:=List.all_eq_true.2 fun n hn=>List.all_eq_true.1 hsz n (DataW.weights_mem_each (j:=0) rfl rfl n hn)
 obtain⟨li0,bi0,pr0,ni0,ca0,rfl,hlc0,hok0,hb0,hn0⟩:=openN (hval 0 50 v0 rfl rfl) h0 hw0
 have hw1:wOK 36 d1:=List.all_eq_true.2 fun n hn=>List.all_eq_true.1 hsz n (DataW.weights_mem_each (j:=1) rfl rfl n hn)
 obtain⟨li1,bi1,pr1,ni1,ca1,rfl,hlc1,hok1,hb1,hn1⟩:=openS (hval 1 36 v1 rfl rfl) h1 hw1
 have hw2:wOK 57 d2:=List.all_eq_true.2 fun n hn=>List.all_eq_true.1 hsz n (DataW.weights_mem_each (j:=2) rfl rfl n hn)
 obtain⟨li2,bi2,pr2,ni2,ca2,rfl,hlc2,hok2,hb2,hn2⟩:=openI (hval 2 57 v2 rfl rfl) h2 hw2
 clear hA0
 simp only[List.append_nil] at hW'
 obtain⟨m,hm⟩:=maxCell hsh
 have walk:=(c_SyntaxBinds m bi0 92 pr0 li0 ni0 ca0 bi1 9 pr1 li1 ni1 ca1 bi2 3 pr2 li2 ni2 ca2 hlc0 hok0 hlc1 hok1 hlc2 hok2).2 (Bs.of W) W rfl (allIn ⟨⟨rfl,blk_gm hm⟩,⟨rfl,blk_row (by decide) hb0 hn0⟩,⟨rfl,blk_row (by decide) hb1 hn1⟩,⟨rfl,blk_row (by decide) hb2 hn2⟩,trivial⟩)
 refine walk.mono fun e W' ⟨_,he,hg⟩=>?_
 subst he
 have hlt:∀x∈p0++(p1++(p2++[])),x.block<W.heap.size:=fun x hx=>hW'.lt x (by simpa using hx)
 have k0:DataW.Trod enc Tryz.prog W' 0 (fun b=>decide (b<W.heap.size)) true 50 (slv bi0 pr0.length li0.length ca0) d0 p0:=Below.trod laid (by kernel_rfl) (of_decide_eq_true (by kernel_rfl)) h0k hg.below (fun x hx=>hlt x (by simp[hx]))
 have k1:DataW.Trod enc Tryz.prog W' 0 (fun b=>decide (b<W.heap.size)) true 36 (slv bi1 pr1.length li1.length ca1) d1 p1:=Below.trod laid (by kernel_rfl) (of_decide_eq_true (by kernel_rfl)) h1k hg.below (fun x hx=>hlt x (by simp[hx]))
 have k2:DataW.Trod enc Tryz.prog W' 0 (fun b=>decide (b<W.heap.size)) true 57 (slv bi2 pr2.length li2.length ca2) d2 p2:=Below.trod laid (by kernel_rfl) (of_decide_eq_true (by kernel_rfl)) h2k hg.below (fun x hx=>hlt x (by simp[hx]))
 exact⟨_,rfl,[d0,d1,d2],[],p0++(p1++(p2++[])),[],p0++(p1++(p2++[])),[],by simpa using hW',trodAll_cons_mk (shut_bool Tryz.underlying4 _) trodAll_mk0,trodAll_cons_mk k0 (trodAll_cons_mk k1 (trodAll_cons_mk k2 (trodAll_mk0))),rfl,below_kept hg.below _,fun h=>by cases h⟩
abbrev wit:Array Value:= #[.slice none 0 0,.slice none 0 0,.slice none 0 0]
theorem reads(os:Os){H:Type}(enc:TypeId×Value→H):∃places,DataW.whole enc Tryz.prog ((laidWorld os).forCall (fun _ _=>0) ⟨#[],wit,[]⟩).memory Tryz.f9.params.toList Rows.syntaxBindsSpec.vars false wit.toList 8=some ([.nil,.nil,.nil],[],places):=
 ⟨[],by kernel_rfl⟩
set_option maxRecDepth 100000 in
theorem lifted(os:Os)(started:os.Started)(H:Type)(enc:TypeId×Value→H)(F:Stop.Interp):
 ReturnsInHanded {} Tryz.checked os 9 .any ((OpenSpec.ofChange Rows.syntaxBindsSpec).preRow enc Tryz.prog Tryz.f9 Rows.syntaxBindsRow.domain false Rows.syntaxBindsRow.laid) (((OpenSpec.ofChange Rows.syntaxBindsSpec).at F).post enc Tryz.prog Tryz.f9 false true false false):=by
 obtain⟨places,hx⟩:=reads os enc
 refine returnsInHanded_of_row (C:=Tryz.checked) (s:=OpenSpec.ofChange Rows.syntaxBindsSpec) own started (by kernel_rfl) Tryz.func9
  (witness_row_at (enc:=enc) (C:=Tryz.checked) false (laidWorld os) wit rfl (by kernel_rfl) (by kernel_rfl) (by kernel_rfl)
 (OpenSpec.preRow_of_cond 8 hx (by kernel_rfl) (fun k hk=>by cases hk) (by kernel_rfl) (laid_met os _))) ?_
 intro W base args ds gs before hval hW _ _ hsz hL hsh _
 exact contract H enc W base args ds gs before hval hW hsz hsh
theorem said:Rows.SyntaxBindsSaid:=
 OpenClaim.holds_of_cond 9 Tryz.f9 rfl rfl rfl rfl rfl rfl rfl ⟨rfl,rfl,rfl,rfl,rfl⟩ rfl rfl rfl rfl rfl (by kernel_rfl) Tryz.func9 (by kernel_rfl)
  (of_decide_eq_true (by kernel_rfl)) (by unfold Func.isWrapper;first|(rw[if_pos (by decide+kernel)];kernel_rfl)|(rw[if_neg (by decide+kernel)];exact⟨rfl,rfl⟩))
  (fun os started H enc _ F=>by rw[OpenClaim.pre_eq_preRow];exact lifted os started H enc F)
theorem plain(f:FuncId)(fn:Func)(hf:Tryz.pinned.checked.prog.funcNamed "viator/viatorlaw43.SyntaxBinds" =some f)(hfn:Tryz.pinned.checked.prog.funcs[f]? =some fn):
 false=Tryz.pinned.checked.prog.looks []∧∀(j:Nat) t,fn.params[j]? =some t→Tryz.pinned.checked.prog.wantsStandIn t=false:=by
 obtain rfl:f=9:=Option.some.inj ((show Tryz.prog.funcNamed "viator/viatorlaw43.SyntaxBinds" =some 9 by kernel_rfl).symm.trans hf)|>.symm
 obtain rfl:fn=Tryz.f9:=(Option.some.inj (Tryz.func9.symm.trans hfn)).symm
 refine⟨by kernel_rfl,fun j t ht=>?_⟩
 rw[Tryz.params9] at ht
 have hm:t∈([50,36,57]:List Nat):=by simpa using Array.mem_of_getElem? ht
 have hw:∀t∈([50,36,57]:List Nat),Tryz.prog.wantsStandIn t=false:=by
  intro t ht
  simp only[List.mem_cons,List.mem_nil_iff,or_false] at ht
  rcases ht with rfl|rfl|rfl
  ·exact(show Tryz.prog.wantsStandIn 50=false by kernel_rfl)
  ·exact(show Tryz.prog.wantsStandIn 36=false by kernel_rfl)
  ·exact(show Tryz.prog.wantsStandIn 57=false by kernel_rfl)
 exact hw t hm
theorem card:Rows.SyntaxBindsCardSaid:=
 Claim7.holds_tied_plain_at .later [] _ _ _ _ said (fun _ h=>by cases h) (by kernel_rfl) (fun _ h=>by cases h) syntaxBinds_row_tie rfl ⟨rfl,rfl⟩ (by kernel_rfl) rfl plain (by kernel_rfl)
end Go.Proofs.YtfijbadahkmhbaaGreatDoor.syntaxBinds
namespace Go.Proofs.YtfijbadahkmhbaaGreatDoor
theorem syntaxBinds_holds : Rows.SyntaxBindsCardSaid := syntaxBinds.card
#print axioms syntaxBinds_holds
end Go.Proofs.YtfijbadahkmhbaaGreatDoor
