/-
  The law ErrorboundHolds answers true at every input: at no instant are two cars farther apart than their certificate says. No further conditions.
-/
import Derived.Test.YtaffcpfhedadhaaGreatDoorA18
import Derived.Test.YtaffcpfhedadhaaGreatDoorA21
set_option linter.all false
set_option maxRecDepth 20000
set_option maxHeartbeats 20000000
namespace Go.Proofs.YtaffcpfhedadhaaGreatDoor.errorboundHolds
open Go Go.ChangeShapes Go.WideShapes Go.ChangeAt Go.RowKit Go.Via
def qlF:Rows.ErrorboundHoldsSaid:=
 OpenClaim.holds_of_cond 4 Tryz.f4 rfl rfl rfl rfl rfl rfl rfl ⟨rfl,rfl,rfl,rfl,rfl⟩ rfl rfl rfl rfl rfl (by kernel_rfl) Tryz.func4 qjW
  (of_decide_eq_true (by kernel_rfl)) (by unfold Func.isWrapper;first|(rw[if_pos (by decide+kernel)];kernel_rfl)|(rw[if_neg (by decide+kernel)];exact⟨rfl,rfl⟩))
  (fun os started H enc _ F=>by rw[OpenClaim.pre_eq_preRow];exact qh7 os started H enc F)
def qjX(f:FuncId)(fn:Func)(hf:Tryz.pinned.checked.prog.funcNamed "viator/viatorlaw32.ErrorboundHolds" =some f)(hfn:Tryz.pinned.checked.prog.funcs[f]? =some fn):
 false=Tryz.pinned.checked.prog.looks []∧∀(j:Nat) t,fn.params[j]? =some t->Tryz.pinned.checked.prog.wantsStandIn t=false:=by
 obtain rfl:f=4:=Option.some.inj ((show Tryz.prog.funcNamed "viator/viatorlaw32.ErrorboundHolds" =some 4 by kernel_rfl).symm.trans hf)|>.symm;obtain rfl:fn=Tryz.f4:=(Option.some.inj (Tryz.func4.symm.trans hfn)).symm;refine⟨by kernel_rfl,fun j t ht=>?_⟩
 rw[Tryz.params4] at ht;have hm:t∈([26,48]:List Nat):=by simpa using Array.mem_of_getElem? ht
 have hw:∀t∈([26,48]:List Nat),Tryz.prog.wantsStandIn t=false:=by
  intro t ht;simp only[List.mem_cons,List.mem_nil_iff,or_false] at ht;rcases ht with rfl|rfl
  ·exact(show Tryz.prog.wantsStandIn 26=false by kernel_rfl)
  ·exact(show Tryz.prog.wantsStandIn 48=false by kernel_rfl)
 exact hw t hm
def card:Rows.ErrorboundHoldsCardSaid:=
 Claim7.holds_tied_plain_at .later [] _ _ _ _ qlF (fun _ h=>by cases h) (by kernel_rfl) (fun _ h=>by cases h) errorboundHolds_row_tie rfl ⟨rfl,rfl⟩ (by kernel_rfl) rfl qjX (by kernel_rfl)
end Go.Proofs.YtaffcpfhedadhaaGreatDoor.errorboundHolds
namespace Go.Proofs.YtaffcpfhedadhaaGreatDoor
theorem ErrorboundHolds_holds : Rows.ErrorboundHoldsCardSaid := errorboundHolds.card
#print axioms ErrorboundHolds_holds
end Go.Proofs.YtaffcpfhedadhaaGreatDoor
