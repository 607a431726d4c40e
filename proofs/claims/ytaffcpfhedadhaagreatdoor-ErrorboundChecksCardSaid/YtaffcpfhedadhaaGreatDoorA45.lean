/-
  For any two cars and any change of their certificate, Check returns OK for a right certificate, or the first error. No further conditions.
-/
import Derived.Shelf.SlSortCmp.WholeK
import Derived.Shelf.SlSortCmp.NoneTotal
import Derived.Lib.Repeat
import Derived.Sort.Grow
import Derived.Sort.EncStr
import Derived.ChangeSame
import Derived.OpenShut
import Derived.RowKit3
import Derived.ProofKit
import Derived.Deep.Slices
import Derived.Carry
import Derived.ChangeMaps5
import Derived.Test.YtaffcpfhedadhaaGreatDoorCards
import Derived.Test.YtaffcpfhedadhaaGreatDoorTie
import Derived.Deep.DeepHandedRow
import Derived.Lib.LaidTab
import Derived.Lib.SliceRun
import Derived.Test.YtaffcpfhedadhaaGreatDoorA41
import Derived.Test.YtaffcpfhedadhaaGreatDoorA44
set_option linter.all false
set_option maxRecDepth 20000
set_option maxHeartbeats 20000000
namespace Go.Proofs.YtaffcpfhedadhaaGreatDoor.errorboundChecks
open Go Go.ChangeShapes Go.WideShapes Go.ChangeAt Go.RowKit Go.Via
def qy7:Rows.ErrorboundChecksSaid:=
 OpenClaim.holds_of_cond 5 Tryz.f5 rfl rfl rfl rfl rfl rfl rfl ⟨rfl,rfl,rfl,rfl,rfl⟩ rfl rfl rfl rfl rfl (by kernel_rfl) Tryz.func5 qw4
  (of_decide_eq_true ak) (by unfold Func.isWrapper;first|(rw[if_pos eP];kernel_rfl)|(rw[if_neg eP];exact⟨rfl,rfl⟩))
  (fun os started H enc _ F=>by rw[OpenClaim.pre_eq_preRow];exact qut os started H enc F)
def qw5(f:FuncId)(fn:Func)(hf:Tryz.pinned.checked.prog.funcNamed "viator/viatorlaw32.ErrorboundChecks" =some f)(hfn:Tryz.pinned.checked.prog.funcs[f]? =some fn):
 false=Tryz.pinned.checked.prog.looks []∧∀(j:Nat) t,fn.params[j]? =some t->Tryz.pinned.checked.prog.wantsStandIn t=false:=by
 obtain rfl:f=5:=Option.some.inj ((show Tryz.prog.funcNamed "viator/viatorlaw32.ErrorboundChecks" =some 5 by kernel_rfl).symm.trans hf)|>.symm;obtain rfl:fn=Tryz.f5:=(Option.some.inj (Tryz.func5.symm.trans hfn)).symm;refine⟨ak,fun j t ht=>?_⟩
 rw[Tryz.params5] at ht;have hm:t∈([26,57]:List Nat):=by simpa using Array.mem_of_getElem? ht
 have hw:∀t∈([26,57]:List Nat),Tryz.prog.wantsStandIn t=false:=by
  intro t ht;simp only[List.mem_cons,List.mem_nil_iff,or_false] at ht;rcases ht with rfl|rfl
  ·exact(show Tryz.prog.wantsStandIn 26=false by kernel_rfl)
  ·exact(show Tryz.prog.wantsStandIn 57=false by kernel_rfl)
 exact hw t hm
def card:Rows.ErrorboundChecksCardSaid:=
 Claim7.holds_tied_plain_at .later [] _ _ _ _ qy7 (fun _ h=>Ak) ak (fun _ h=>Ak) errorboundChecks_row_tie rfl ⟨rfl,rfl⟩ ak rfl qw5 ak
end Go.Proofs.YtaffcpfhedadhaaGreatDoor.errorboundChecks
namespace Go.Proofs.YtaffcpfhedadhaaGreatDoor
theorem ErrorboundChecks_holds : Rows.ErrorboundChecksCardSaid := errorboundChecks.card
#print axioms ErrorboundChecks_holds
end Go.Proofs.YtaffcpfhedadhaaGreatDoor
