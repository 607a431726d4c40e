/-
  For any query with an expression of at most 300 nodes on at most 40 levels and at most 4 variables, Check returns the first error, and Print the printed text, or the error. No further conditions.
-/
import Derived.Test.YtfijbadahkmhbaaGreatDoorA11
import Derived.Test.YtfijbadahkmhbaaGreatDoorA14
set_option linter.unusedVariables false
set_option linter.unusedSimpArgs false
set_option maxRecDepth 20000
set_option maxHeartbeats 20000000
namespace Go.Proofs.YtfijbadahkmhbaaGreatDoor.syntaxQueries
open Go Go.ChangeShapes Go.WideShapes Go.ChangeAt Go.RowKit Go.Via
theorem laid:laidOutB Tryz.prog=true:=by kernel_rfl
theorem contract(H:Type)(enc:TypeId×Value→H)(W:World)(base:Nat)(args:Array Value)(ds gs:List (DataW H))(before:List MemPlace)
 (hval:∀(j:Nat) t v,Tryz.f5.params[j]? =some t→args[j]? =some v→Value.okWide Tryz.prog W .any base t v)
 (hW:DataW.Whole enc Tryz.prog Tryz.f5.params.toList Rows.syntaxQueriesSpec.vars false W args.toList ds gs before)
 (hsz:(DataW.weightsEach Tryz.prog (Tryz.f5.params.toList++(OpenSpec.ofChange Rows.syntaxQueriesSpec).bare.plain.varTypes Tryz.prog) (ds++gs)).all (· ≤reachBytes)=true)(hsh:W.ShapedOpen Tryz.prog):
 Calls Tryz.prog 5 args W fun e W'=>∃v,e= .returned v∧Rows.syntaxQueriesSpec.post enc Tryz.prog Tryz.f5 false true false false W args v W':=by
 have hW':=hW
 obtain⟨p,q,hA0,hV,rfl,hfz,hnd⟩:=hW
 have hA:DataW.TrodAll enc Tryz.prog W 0 (fun _=>true) true Tryz.f5.params.toList args.toList ds p:=hA0
 rw[Tryz.params5] at hA hval
 obtain⟨v0,vs0,d0,ds0,p0,q0,hargs,rfl,rfl,h0,r0⟩:=trodAll_cons hA
 obtain⟨rfl,rfl,rfl⟩:=trodAll_nil r0
 obtain rfl:args= #[v0]:=by cases args;simp_all
 obtain⟨rfl,rfl⟩:=trodVars_none hV
 have h0k:=h0
 have hw0:wOK 39 d0:=List.all_eq_true.2 fun n hn=>List.all_eq_true.1 hsz n (DataW.weights_mem_each (j:=0) rfl rfl n hn)
 obtain⟨ki0,li0,bi0,pr0,ni0,ca0,x0,z0,rfl,hk0,hlc0,hb0,hn0,hT0,hl0⟩:=openQ (hval 0 39 v0 rfl rfl) h0 hw0
 clear hA0
 simp only[List.append_nil] at hW'
 obtain⟨m,hm⟩:=maxCell hsh
 have walk:=(c_SyntaxQueries m ki0 bi0 9 pr0 li0 ni0 ca0 z0 hl0 hk0.1 hk0.2 hlc0).2 (Bs.of W) W rfl (allIn ⟨⟨rfl,blk_gm hm⟩,⟨rfl,blk_vb hb0 hn0⟩,⟨rfl,blk_tab z0.hT hT0⟩,trivial⟩)
 refine walk.mono fun e W' ⟨_,he,hg⟩=>?_
 subst he
 have hlt:∀x∈p0++[],x.block<W.heap.size:=fun x hx=>hW'.lt x (by simpa using hx)
 have k0:DataW.Trod enc Tryz.prog W' 0 (fun b=>decide (b<W.heap.size)) true 39 (QV ki0 bi0 pr0 li0 ca0 z0) d0 p0:=Below.trod laid (by kernel_rfl) (of_decide_eq_true (by kernel_rfl)) h0k hg.below (fun x hx=>hlt x (by simp[hx]))
 exact⟨_,rfl,[d0],[],p0++[],[],p0++[],[],by simpa using hW',trodAll_cons_mk (shut_bool Tryz.underlying4 _) trodAll_mk0,trodAll_cons_mk k0 (trodAll_mk0),rfl,below_kept hg.below _,fun h=>by cases h⟩
abbrev wit:Array Value:= #[.agg #[.int .i64 0,.slice none 0 0,.int .i64 0,.string ⟨#[]⟩,.bool false,.string ⟨#[]⟩,.bool false,.string ⟨#[]⟩,.slice none 0 0]]
theorem reads(os:Os){H:Type}(enc:TypeId×Value→H):∃places,DataW.whole enc Tryz.prog ((laidWorld os).forCall (fun _ _=>0) ⟨#[],wit,[]⟩).memory Tryz.f5.params.toList Rows.syntaxQueriesSpec.vars false wit.toList 8=some ([.agg [.lit (.int .i64 0),.nil,.agg [.lit (.int .i64 0),.lit (.string []),.agg [.agg [.lit (.bool false),.lit (.string [])],.agg [.lit (.bool false),.lit (.string [])]],.nil]]],[],places):=
 ⟨[],by kernel_rfl⟩
set_option maxRecDepth 100000 in
theorem lifted(os:Os)(started:os.Started)(H:Type)(enc:TypeId×Value→H)(F:Stop.Interp):
 ReturnsInHanded {} Tryz.checked os 5 .any ((OpenSpec.ofChange Rows.syntaxQueriesSpec).preRow enc Tryz.prog Tryz.f5 Rows.syntaxQueriesRow.domain false Rows.syntaxQueriesRow.laid) (((OpenSpec.ofChange Rows.syntaxQueriesSpec).at F).post enc Tryz.prog Tryz.f5 false true false false):=by
 obtain⟨places,hx⟩:=reads os enc
 refine returnsInHanded_of_row (C:=Tryz.checked) (s:=OpenSpec.ofChange Rows.syntaxQueriesSpec) own started (by kernel_rfl) Tryz.func5
  (witness_row_at (enc:=enc) (C:=Tryz.checked) false (laidWorld os) wit rfl (by kernel_rfl) (by kernel_rfl) (by kernel_rfl)
 (OpenSpec.preRow_of_cond 8 hx (by kernel_rfl) (fun k hk=>by cases hk) (by kernel_rfl) (laid_met os _))) ?_
 intro W base args ds gs before hval hW _ _ hsz hL hsh _
 exact contract H enc W base args ds gs before hval hW hsz hsh
theorem said:Rows.SyntaxQueriesSaid:=
 OpenClaim.holds_of_cond 5 Tryz.f5 rfl rfl rfl rfl rfl rfl rfl ⟨rfl,rfl,rfl,rfl,rfl⟩ rfl rfl rfl rfl rfl (by kernel_rfl) Tryz.func5 (by kernel_rfl)
  (of_decide_eq_true (by kernel_rfl)) (by unfold Func.isWrapper;first|(rw[if_pos (by decide+kernel)];kernel_rfl)|(rw[if_neg (by decide+kernel)];exact⟨rfl,rfl⟩))
  (fun os started H enc _ F=>by rw[OpenClaim.pre_eq_preRow];exact lifted os started H enc F)
theorem plain(f:FuncId)(fn:Func)(hf:Tryz.pinned.checked.prog.funcNamed "viator/viatorlaw43.SyntaxQueries" =some f)(hfn:Tryz.pinned.checked.prog.funcs[f]? =some fn):
 false=Tryz.pinned.checked.prog.looks []∧∀(j:Nat) t,fn.params[j]? =some t→Tryz.pinned.checked.prog.wantsStandIn t=false:=by
 obtain rfl:f=5:=Option.some.inj ((show Tryz.prog.funcNamed "viator/viatorlaw43.SyntaxQueries" =some 5 by kernel_rfl).symm.trans hf)|>.symm
 obtain rfl:fn=Tryz.f5:=(Option.some.inj (Tryz.func5.symm.trans hfn)).symm
 refine⟨by kernel_rfl,fun j t ht=>?_⟩
 rw[Tryz.params5] at ht
 have hm:t∈([39]:List Nat):=by simpa using Array.mem_of_getElem? ht
 have hw:∀t∈([39]:List Nat),Tryz.prog.wantsStandIn t=false:=by
  intro t ht
  simp only[List.mem_cons,List.mem_nil_iff,or_false] at ht
  subst ht
  ·exact(show Tryz.prog.wantsStandIn 39=false by kernel_rfl)
 exact hw t hm
theorem card:Rows.SyntaxQueriesCardSaid:=
 Claim7.holds_tied_plain_at .later [] _ _ _ _ said (fun _ h=>by cases h) (by kernel_rfl) (fun _ h=>by cases h) syntaxQueries_row_tie rfl ⟨rfl,rfl⟩ (by kernel_rfl) rfl plain (by kernel_rfl)
end Go.Proofs.YtfijbadahkmhbaaGreatDoor.syntaxQueries
namespace Go.Proofs.YtfijbadahkmhbaaGreatDoor
theorem syntaxQueries_holds : Rows.SyntaxQueriesCardSaid := syntaxQueries.card
#print axioms syntaxQueries_holds
end Go.Proofs.YtfijbadahkmhbaaGreatDoor
