/-
  The law SyntaxDeep holds: for any number the call returns true and leaves its input as it was. No further conditions.
-/
import Derived.Test.YtfijbadahkmhbaaGreatDoorA11
import Derived.Test.YtfijbadahkmhbaaGreatDoorA13
set_option linter.unusedVariables false
set_option linter.unusedSimpArgs false
set_option maxRecDepth 20000
set_option maxHeartbeats 20000000
namespace Go.Proofs.YtfijbadahkmhbaaGreatDoor.syntaxDeep
open Go Go.ChangeShapes Go.WideShapes Go.ChangeAt Go.RowKit Go.Via
theorem laid:laidOutB Tryz.prog=true:=by kernel_rfl
theorem contract(H:Type)(enc:TypeId×Value→H)(W:World)(base:Nat)(args:Array Value)(ds gs:List (DataW H))(before:List MemPlace)
 (hval:∀(j:Nat) t v,Tryz.f6.params[j]? =some t→args[j]? =some v→Value.okWide Tryz.prog W .any base t v)
 (hW:DataW.Whole enc Tryz.prog Tryz.f6.params.toList Rows.syntaxDeepSpec.vars false W args.toList ds gs before)
 (hsz:(DataW.weightsEach Tryz.prog (Tryz.f6.params.toList++(OpenSpec.ofChange Rows.syntaxDeepSpec).bare.plain.varTypes Tryz.prog) (ds++gs)).all (· ≤reachBytes)=true)(hsh:W.ShapedOpen Tryz.prog):
 Calls Tryz.prog 6 args W fun e W'=>∃v,e= .returned v∧Rows.syntaxDeepSpec.post enc Tryz.prog Tryz.f6 false true false false W args v W':=by
 have hW':=hW
 obtain⟨p,q,hA0,hV,rfl,hfz,hnd⟩:=hW
 have hA:DataW.TrodAll enc Tryz.prog W 0 (fun _=>true) true Tryz.f6.params.toList args.toList ds p:=hA0
 rw[Tryz.params6] at hA hval
 obtain⟨v0,vs0,d0,ds0,p0,q0,hargs,rfl,rfl,h0,r0⟩:=trodAll_cons hA
 obtain⟨rfl,rfl,rfl⟩:=trodAll_nil r0
 obtain rfl:args= #[v0]:=by cases args;simp_all
 obtain⟨rfl,rfl⟩:=trodVars_none hV
 have h0k:=h0
 obtain⟨n0,rfl,_,_,z0⟩:=open_int Tryz.underlying45 (hval 0 45 v0 rfl rfl) h0
 clear hA0
 simp only[List.append_nil] at hW'
 obtain⟨m,hm⟩:=maxCell hsh
 have walk:=(c_SyntaxDeep m n0 z0).2 (Bs.of W) W rfl (relGM hm)
 refine walk.mono fun e W' ⟨_,he,hg⟩=>?_
 subst he
 have hlt:∀x∈p0++[],x.block<W.heap.size:=fun x hx=>hW'.lt x (by simpa using hx)
 have k0:DataW.Trod enc Tryz.prog W' 0 (fun b=>decide (b<W.heap.size)) true 45 (.int .u16 n0) d0 p0:=Below.trod laid (by kernel_rfl) (of_decide_eq_true (by kernel_rfl)) h0k hg.below (fun x hx=>hlt x (by simp[hx]))
 exact⟨_,rfl,[d0],[],p0++[],[],p0++[],[],by simpa using hW',trodAll_cons_mk (shut_bool Tryz.underlying4 _) trodAll_mk0,trodAll_cons_mk k0 (trodAll_mk0),rfl,below_kept hg.below _,fun h=>by cases h⟩
abbrev wit:Array Value:= #[.int .u16 0]
theorem reads(os:Os){H:Type}(enc:TypeId×Value→H):∃places,DataW.whole enc Tryz.prog ((laidWorld os).forCall (fun _ _=>0) ⟨#[],wit,[]⟩).memory Tryz.f6.params.toList Rows.syntaxDeepSpec.vars false wit.toList 8=some ([.lit (.int .u16 0)],[],places):=
 ⟨[],by kernel_rfl⟩
set_option maxRecDepth 100000 in
theorem lifted(os:Os)(started:os.Started)(H:Type)(enc:TypeId×Value→H)(F:Stop.Interp):
 ReturnsInHanded {} Tryz.checked os 6 .any ((OpenSpec.ofChange Rows.syntaxDeepSpec).preRow enc Tryz.prog Tryz.f6 Rows.syntaxDeepRow.domain false Rows.syntaxDeepRow.laid) (((OpenSpec.ofChange Rows.syntaxDeepSpec).at F).post enc Tryz.prog Tryz.f6 false true false false):=by
 obtain⟨places,hx⟩:=reads os enc
 refine returnsInHanded_of_row (C:=Tryz.checked) (s:=OpenSpec.ofChange Rows.syntaxDeepSpec) own started (by kernel_rfl) Tryz.func6
  (witness_row_at (enc:=enc) (C:=Tryz.checked) false (laidWorld os) wit rfl (by kernel_rfl) (by kernel_rfl) (by kernel_rfl)
 (OpenSpec.preRow_of_cond 8 hx (by kernel_rfl) (fun k hk=>by cases hk) (by kernel_rfl) (laid_met os _))) ?_
 intro W base args ds gs before hval hW _ _ hsz hL hsh _
 exact contract H enc W base args ds gs before hval hW hsz hsh
theorem said:Rows.SyntaxDeepSaid:=
 OpenClaim.holds_of_cond 6 Tryz.f6 rfl rfl rfl rfl rfl rfl rfl ⟨rfl,rfl,rfl,rfl,rfl⟩ rfl rfl rfl rfl rfl (by kernel_rfl) Tryz.func6 (by kernel_rfl)
  (of_decide_eq_true (by kernel_rfl)) (by unfold Func.isWrapper;first|(rw[if_pos (by decide+kernel)];kernel_rfl)|(rw[if_neg (by decide+kernel)];exact⟨rfl,rfl⟩))
  (fun os started H enc _ F=>by rw[OpenClaim.pre_eq_preRow];exact lifted os started H enc F)
theorem plain(f:FuncId)(fn:Func)(hf:Tryz.pinned.checked.prog.funcNamed "viator/viatorlaw43.SyntaxDeep" =some f)(hfn:Tryz.pinned.checked.prog.funcs[f]? =some fn):
 false=Tryz.pinned.checked.prog.looks []∧∀(j:Nat) t,fn.params[j]? =some t→Tryz.pinned.checked.prog.wantsStandIn t=false:=by
 obtain rfl:f=6:=Option.some.inj ((show Tryz.prog.funcNamed "viator/viatorlaw43.SyntaxDeep" =some 6 by kernel_rfl).symm.trans hf)|>.symm
 obtain rfl:fn=Tryz.f6:=(Option.some.inj (Tryz.func6.symm.trans hfn)).symm
 refine⟨by kernel_rfl,fun j t ht=>?_⟩
 rw[Tryz.params6] at ht
 have hm:t∈([45]:List Nat):=by simpa using Array.mem_of_getElem? ht
 have hw:∀t∈([45]:List Nat),Tryz.prog.wantsStandIn t=false:=by
  intro t ht
  simp only[List.mem_cons,List.mem_nil_iff,or_false] at ht
  subst ht
  ·exact(show Tryz.prog.wantsStandIn 45=false by kernel_rfl)
 exact hw t hm
theorem card:Rows.SyntaxDeepCardSaid:=
 Claim7.holds_tied_plain_at .later [] _ _ _ _ said (fun _ h=>by cases h) (by kernel_rfl) (fun _ h=>by cases h) syntaxDeep_row_tie rfl ⟨rfl,rfl⟩ (by kernel_rfl) rfl plain (by kernel_rfl)
end Go.Proofs.YtfijbadahkmhbaaGreatDoor.syntaxDeep
namespace Go.Proofs.YtfijbadahkmhbaaGreatDoor
theorem syntaxDeep_holds : Rows.SyntaxDeepCardSaid := syntaxDeep.card
#print axioms syntaxDeep_holds
end Go.Proofs.YtfijbadahkmhbaaGreatDoor
