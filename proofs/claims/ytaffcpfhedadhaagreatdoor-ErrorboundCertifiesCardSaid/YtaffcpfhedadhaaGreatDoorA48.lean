/-
  The law ErrorboundCertifies answers true at every input: qfS says whether the greatest squared distance of two cars' certificate is at most the square of a bound, and then they are never farther apart. No further conditions.
-/
import Derived.Test.YtaffcpfhedadhaaGreatDoorA44
import Derived.Test.YtaffcpfhedadhaaGreatDoorA47
set_option linter.all false
set_option maxRecDepth 20000
set_option maxHeartbeats 20000000
namespace Go.Proofs.YtaffcpfhedadhaaGreatDoor.errorboundCertifies
open Go Go.ChangeShapes Go.WideShapes Go.ChangeAt Go.RowKit Go.Via
def qmA:Rows.ErrorboundCertifiesSaid:=
 OpenClaim.holds_of_cond 7 Tryz.f7 rfl rfl rfl rfl rfl rfl rfl ⟨rfl,rfl,rfl,rfl,rfl⟩ rfl rfl rfl rfl rfl (by kernel_rfl) Tryz.func7 qkN
  (of_decide_eq_true (by kernel_rfl)) (by unfold Func.isWrapper;first|(rw[if_pos (by decide+kernel)];kernel_rfl)|(rw[if_neg (by decide+kernel)];exact⟨rfl,rfl⟩))
  (fun os started H enc _ F=>by rw[OpenClaim.pre_eq_preRow];exact qiO os started H enc F)
def qkO(f:FuncId)(fn:Func)(hf:Tryz.pinned.checked.prog.funcNamed "viator/viatorlaw32.ErrorboundCertifies" =some f)(hfn:Tryz.pinned.checked.prog.funcs[f]? =some fn):
 false=Tryz.pinned.checked.prog.looks []∧∀(j:Nat) t,fn.params[j]? =some t->Tryz.pinned.checked.prog.wantsStandIn t=false:=by
 obtain rfl:f=7:=Option.some.inj ((show Tryz.prog.funcNamed "viator/viatorlaw32.ErrorboundCertifies" =some 7 by kernel_rfl).symm.trans hf)|>.symm;obtain rfl:fn=Tryz.f7:=(Option.some.inj (Tryz.func7.symm.trans hfn)).symm;refine⟨by kernel_rfl,fun j t ht=>?_⟩
 rw[Tryz.params7] at ht;have hm:t∈([26,55]:List Nat):=by simpa using Array.mem_of_getElem? ht
 have hw:∀t∈([26,55]:List Nat),Tryz.prog.wantsStandIn t=false:=by
  intro t ht;simp only[List.mem_cons,List.mem_nil_iff,or_false] at ht;rcases ht with rfl|rfl
  ·exact(show Tryz.prog.wantsStandIn 26=false by kernel_rfl)
  ·exact(show Tryz.prog.wantsStandIn 55=false by kernel_rfl)
 exact hw t hm
def card:Rows.ErrorboundCertifiesCardSaid:=
 Claim7.holds_tied_plain_at .later [] _ _ _ _ qmA (fun _ h=>by cases h) (by kernel_rfl) (fun _ h=>by cases h) errorboundCertifies_row_tie rfl ⟨rfl,rfl⟩ (by kernel_rfl) rfl qkO (by kernel_rfl)
end Go.Proofs.YtaffcpfhedadhaaGreatDoor.errorboundCertifies
namespace Go.Proofs.YtaffcpfhedadhaaGreatDoor
theorem ErrorboundCertifies_holds : Rows.ErrorboundCertifiesCardSaid := errorboundCertifies.card
#print axioms ErrorboundCertifies_holds
end Go.Proofs.YtaffcpfhedadhaaGreatDoor
