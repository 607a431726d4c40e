/-
  The law SyntaxSpaces holds: for any list of nodes, any number and any choice the call returns true and leaves its input as it was. No further conditions.
-/
import Derived.Test.YtfijbadahkmhbaaGreatDoorA11
import Derived.Test.YtfijbadahkmhbaaGreatDoorA14
import Derived.Test.YtfijbadahkmhbaaGreatDoorA16
set_option linter.unusedVariables false
set_option linter.unusedSimpArgs false
set_option maxRecDepth 20000
set_option maxHeartbeats 20000000
namespace Go.Proofs.YtfijbadahkmhbaaGreatDoor.syntaxSpaces
open Go Go.ChangeShapes Go.WideShapes Go.ChangeAt Go.RowKit Go.Via
theorem laid:laidOutB Tryz.prog=true:=by kernel_rfl
theorem contract(H:Type)(enc:TypeId×Value→H)(W:World)(base:Nat)(args:Array Value)(ds gs:List (DataW H))(before:List MemPlace)
 (hval:∀(j:Nat) t v,Tryz.f7.params[j]? =some t→args[j]? =some v→Value.okWide Tryz.prog W .any base t v)
 (hW:DataW.Whole enc Tryz.prog Tryz.f7.params.toList Rows.syntaxSpacesSpec.vars false W args.toList ds gs before)
 (hsz:(DataW.weightsEach Tryz.prog (Tryz.f7.params.toList++(OpenSpec.ofChange Rows.syntaxSpacesSpec).bare.plain.varTypes Tryz.prog) (ds++gs)).all (· ≤reachBytes)=true)(hsh:W.ShapedOpen Tryz.prog):
 Calls Tryz.prog 7 args W fun e W'=>∃v,e= .returned v∧Rows.syntaxSpacesSpec.post enc Tryz.prog Tryz.f7 false true false false W args v W':=by
 have hW':=hW
 obtain⟨p,q,hA0,hV,rfl,hfz,hnd⟩:=hW
 have hA:DataW.TrodAll enc Tryz.prog W 0 (fun _=>true) true Tryz.f7.params.toList args.toList ds p:=hA0
 rw[Tryz.params7] at hA hval
 obtain⟨v0,vs0,d0,ds0,p0,q0,hargs,rfl,rfl,h0,r0⟩:=trodAll_cons hA
 obtain⟨v1,vs1,d1,ds1,p1,q1,rfl,rfl,rfl,h1,r1⟩:=trodAll_cons r0
 obtain⟨v2,vs2,d2,ds2,p2,q2,rfl,rfl,rfl,h2,r2⟩:=trodAll_cons r1
 obtain⟨rfl,rfl,rfl⟩:=trodAll_nil r2
 obtain rfl:args= #[v0,v1,v2]:=by cases args;simp_all
 obtain⟨rfl,rfl⟩:=trodVars_none hV
 have h0k:=h0
 have h1k:=h1
 have h2k:=h2
 have hw0:wOK 50 d0:=List.all_eq_true.2 fun n hn=>List.all_eq_true.1 hsz n (DataW.weights_mem_each (j:=0) rfl rfl n hn)
 obtain⟨li0,bi0,pr0,ni0,ca0,rfl,hlc0,hok0,hb0,hn0⟩:=openN (hval 0 50 v0 rfl rfl) h0 hw0
 obtain⟨n1,rfl,_,_,z1⟩:=open_int Tryz.underlying5 (hval 1 5 v1 rfl rfl) h1
 obtain⟨n2,rfl,_⟩:=open_bool Tryz.underlying4 (hval 2 4 v2 rfl rfl) h2
 clear hA0
 simp only[List.append_nil] at hW'
 obtain⟨m,hm⟩:=maxCell hsh
 have walk:=(c_SyntaxSpaces m bi0 92 pr0 li0 ni0 ca0 n1 z1 n2 hlc0 hok0).2 (Bs.of W) W rfl (allIn ⟨⟨rfl,blk_gm hm⟩,⟨rfl,blk_row (by decide) hb0 hn0⟩,trivial⟩)
 refine walk.mono fun e W' ⟨_,he,hg⟩=>?_
 subst he
 have hlt:∀x∈p0++(p1++(p2++[])),x.block<W.heap.size:=fun x hx=>hW'.lt x (by simpa using hx)
 have k0:DataW.Trod enc Tryz.prog W' 0 (fun b=>decide (b<W.heap.size)) true 50 (slv bi0 pr0.length li0.length ca0) d0 p0:=Below.trod laid (by kernel_rfl) (of_decide_eq_true (by kernel_rfl)) h0k hg.below (fun x hx=>hlt x (by simp[hx]))
 have k1:DataW.Trod enc Tryz.prog W' 0 (fun b=>decide (b<W.heap.size)) true 5 (.int .u8 n1) d1 p1:=Below.trod laid (by kernel_rfl) (of_decide_eq_true (by kernel_rfl)) h1k hg.below (fun x hx=>hlt x (by simp[hx]))
 have k2:DataW.Trod enc Tryz.prog W' 0 (fun b=>decide (b<W.heap.size)) true 4 (.bool n2) d2 p2:=Below.trod laid (by kernel_rfl) (of_decide_eq_true (by kernel_rfl)) h2k hg.below (fun x hx=>hlt x (by simp[hx]))
 exact⟨_,rfl,[d0,d1,d2],[],p0++(p1++(p2++[])),[],p0++(p1++(p2++[])),[],by simpa using hW',trodAll_cons_mk (shut_bool Tryz.underlying4 _) trodAll_mk0,trodAll_cons_mk k0 (trodAll_cons_mk k1 (trodAll_cons_mk k2 (trodAll_mk0))),rfl,below_kept hg.below _,fun h=>by cases h⟩
abbrev wit:Array Value:= #[.slice none 0 0,.int .u8 0,.bool false]
theorem reads(os:Os){H:Type}(enc:TypeId×Value→H):∃places,DataW.whole enc Tryz.prog ((laidWorld os).forCall (fun _ _=>0) ⟨#[],wit,[]⟩).memory Tryz.f7.params.toList Rows.syntaxSpacesSpec.vars false wit.toList 8=some ([.nil,.lit (.int .u8 0),.lit (.bool false)],[],places):=
 ⟨[],by kernel_rfl⟩
set_option maxRecDepth 100000 in
theorem lifted(os:Os)(started:os.Started)(H:Type)(enc:TypeId×Value→H)(F:Stop.Interp):
 ReturnsInHanded {} Tryz.checked os 7 .any ((OpenSpec.ofChange Rows.syntaxSpacesSpec).preRow enc Tryz.prog Tryz.f7 Rows.syntaxSpacesRow.domain false Rows.syntaxSpacesRow.laid) (((OpenSpec.ofChange Rows.syntaxSpacesSpec).at F).post enc Tryz.prog Tryz.f7 false true false false):=by
 obtain⟨places,hx⟩:=reads os enc
 refine returnsInHanded_of_row (C:=Tryz.checked) (s:=OpenSpec.ofChange Rows.syntaxSpacesSpec) own started (by kernel_rfl) Tryz.func7
  (witness_row_at (enc:=enc) (C:=Tryz.checked) false (laidWorld os) wit rfl (by kernel_rfl) (by kernel_rfl) (by kernel_rfl)
 (OpenSpec.preRow_of_cond 8 hx (by kernel_rfl) (fun k hk=>by cases hk) (by kernel_rfl) (laid_met os _))) ?_
 intro W base args ds gs before hval hW _ _ hsz hL hsh _
 exact contract H enc W base args ds gs before hval hW hsz hsh
theorem said:Rows.SyntaxSpacesSaid:=
 OpenClaim.holds_of_cond 7 Tryz.f7 rfl rfl rfl rfl rfl rfl rfl ⟨rfl,rfl,rfl,rfl,rfl⟩ rfl rfl rfl rfl rfl (by kernel_rfl) Tryz.func7 (by kernel_rfl)
  (of_decide_eq_true (by kernel_rfl)) (by unfold Func.isWrapper;first|(rw[if_pos (by decide+kernel)];kernel_rfl)|(rw[if_neg (by decide+kernel)];exact⟨rfl,rfl⟩))
  (fun os started H enc _ F=>by rw[OpenClaim.pre_eq_preRow];exact lifted os started H enc F)
theorem plain(f:FuncId)(fn:Func)(hf:Tryz.pinned.checked.prog.funcNamed "viator/viatorlaw43.SyntaxSpaces" =some f)(hfn:Tryz.pinned.checked.prog.funcs[f]? =some fn):
 false=Tryz.pinned.checked.prog.looks []∧∀(j:Nat) t,fn.params[j]? =some t→Tryz.pinned.checked.prog.wantsStandIn t=false:=by
 obtain rfl:f=7:=Option.some.inj ((show Tryz.prog.funcNamed "viator/viatorlaw43.SyntaxSpaces" =some 7 by kernel_rfl).symm.trans hf)|>.symm
 obtain rfl:fn=Tryz.f7:=(Option.some.inj (Tryz.func7.symm.trans hfn)).symm
 refine⟨by kernel_rfl,fun j t ht=>?_⟩
 rw[Tryz.params7] at ht
 have hm:t∈([50,5,4]:List Nat):=by simpa using Array.mem_of_getElem? ht
 have hw:∀t∈([50,5,4]:List Nat),Tryz.prog.wantsStandIn t=false:=by
  intro t ht
  simp only[List.mem_cons,List.mem_nil_iff,or_false] at ht
  rcases ht with rfl|rfl|rfl
  ·exact(show Tryz.prog.wantsStandIn 50=false by kernel_rfl)
  ·exact(show Tryz.prog.wantsStandIn 5=false by kernel_rfl)
  ·exact(show Tryz.prog.wantsStandIn 4=false by kernel_rfl)
 exact hw t hm
theorem card:Rows.SyntaxSpacesCardSaid:=
 Claim7.holds_tied_plain_at .later [] _ _ _ _ said (fun _ h=>by cases h) (by kernel_rfl) (fun _ h=>by cases h) syntaxSpaces_row_tie rfl ⟨rfl,rfl⟩ (by kernel_rfl) rfl plain (by kernel_rfl)
end Go.Proofs.YtfijbadahkmhbaaGreatDoor.syntaxSpaces
namespace Go.Proofs.YtfijbadahkmhbaaGreatDoor
theorem syntaxSpaces_holds : Rows.SyntaxSpacesCardSaid := syntaxSpaces.card
#print axioms syntaxSpaces_holds
end Go.Proofs.YtfijbadahkmhbaaGreatDoor
