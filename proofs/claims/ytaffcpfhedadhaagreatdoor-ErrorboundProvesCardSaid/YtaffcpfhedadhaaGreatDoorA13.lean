/-
  The law ErrorboundProves answers true at every input: two cars' certificate is the one of the model, Check accepts it, or there is none, and exchanged it is the same. No further conditions.
-/
import Derived.Test.YtaffcpfhedadhaaGreatDoorA09
import Derived.Test.YtaffcpfhedadhaaGreatDoorA12
set_option linter.all false
set_option maxRecDepth 20000
set_option maxHeartbeats 20000000
namespace Go.Proofs.YtaffcpfhedadhaaGreatDoor.errorboundProves
open Go Go.ChangeShapes Go.WideShapes Go.ChangeAt Go.RowKit Go.Via
def qlF:Rows.ErrorboundProvesSaid:=
 OpenClaim.holds_of_cond 3 Tryz.f3 rfl rfl rfl rfl rfl rfl rfl ⟨rfl,rfl,rfl,rfl,rfl⟩ rfl rfl rfl rfl rfl (by kernel_rfl) Tryz.func3 qjZ
  (of_decide_eq_true (by kernel_rfl)) (by unfold Func.isWrapper;first|(rw[if_pos (by decide+kernel)];kernel_rfl)|(rw[if_neg (by decide+kernel)];exact⟨rfl,rfl⟩))
  (fun os started H enc _ F=>by rw[OpenClaim.pre_eq_preRow];exact qid os started H enc F)
def qj0(f:FuncId)(fn:Func)(hf:Tryz.pinned.checked.prog.funcNamed "viator/viatorlaw32.ErrorboundProves" =some f)(hfn:Tryz.pinned.checked.prog.funcs[f]? =some fn):
 false=Tryz.pinned.checked.prog.looks []∧∀(j:Nat) t,fn.params[j]? =some t->Tryz.pinned.checked.prog.wantsStandIn t=false:=by
 obtain rfl:f=3:=Option.some.inj ((show Tryz.prog.funcNamed "viator/viatorlaw32.ErrorboundProves" =some 3 by kernel_rfl).symm.trans hf)|>.symm;obtain rfl:fn=Tryz.f3:=(Option.some.inj (Tryz.func3.symm.trans hfn)).symm;refine⟨by kernel_rfl,fun j t ht=>?_⟩
 rw[Tryz.params3] at ht;have hm:t∈([26]:List Nat):=by simpa using Array.mem_of_getElem? ht
 have hw:∀t∈([26]:List Nat),Tryz.prog.wantsStandIn t=false:=by
  intro t ht;simp only[List.mem_cons,List.mem_nil_iff,or_false] at ht;subst ht
  ·exact(show Tryz.prog.wantsStandIn 26=false by kernel_rfl)
 exact hw t hm
def card:Rows.ErrorboundProvesCardSaid:=
 Claim7.holds_tied_plain_at .later [] _ _ _ _ qlF (fun _ h=>by cases h) (by kernel_rfl) (fun _ h=>by cases h) errorboundProves_row_tie rfl ⟨rfl,rfl⟩ (by kernel_rfl) rfl qj0 (by kernel_rfl)
end Go.Proofs.YtaffcpfhedadhaaGreatDoor.errorboundProves
namespace Go.Proofs.YtaffcpfhedadhaaGreatDoor
theorem ErrorboundProves_holds : Rows.ErrorboundProvesCardSaid := errorboundProves.card
#print axioms ErrorboundProves_holds
end Go.Proofs.YtaffcpfhedadhaaGreatDoor
