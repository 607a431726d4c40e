/-
  The law ErrorboundMost answers true at every input: Most returns the greatest squared distance of two cars, the earliest end of a piece that has it, and whether it is taken, or ErrUndefined. No further conditions.
-/
import Derived.Shelf.SlSortCmp.WholeK
import Derived.Shelf.SlSortCmp.NoneTotal
import Derived.Lib.Repeat
import Derived.Sort.Grow
import Derived.Sort.EncStr
import Derived.ChangeSame
import Derived.OpenShut
import Derived.RowKit3
import Derived.ProofKit
import Derived.Deep.Slices
import Derived.Carry
import Derived.ChangeMaps5
import Derived.Test.YtaffcpfhedadhaaGreatDoorCards
import Derived.Test.YtaffcpfhedadhaaGreatDoorTie
import Derived.Deep.DeepHandedRow
import Derived.Lib.LaidTab
import Derived.Lib.SliceRun
import Derived.Test.YtaffcpfhedadhaaGreatDoorA47
import Derived.Test.YtaffcpfhedadhaaGreatDoorA50
set_option linter.all false
set_option maxRecDepth 20000
set_option maxHeartbeats 20000000
namespace Go.Proofs.YtaffcpfhedadhaaGreatDoor.errorboundMost
open Go Go.ChangeShapes Go.WideShapes Go.ChangeAt Go.RowKit Go.Via
def qsn:Rows.ErrorboundMostSaid:=
 OpenClaim.holds_of_cond 8 Tryz.f8 rfl rfl rfl rfl rfl rfl rfl ⟨rfl,rfl,rfl,rfl,rfl⟩ rfl rfl rfl rfl rfl (by kernel_rfl) Tryz.func8 qqt
  (of_decide_eq_true ak) (by unfold Func.isWrapper;first|(rw[if_pos eX];kernel_rfl)|(rw[if_neg eX];exact⟨rfl,rfl⟩))
  (fun os started H enc _ F=>by rw[OpenClaim.pre_eq_preRow];exact qn9 os started H enc F)
def qqu(f:FuncId)(fn:Func)(hf:Tryz.pinned.checked.prog.funcNamed "viator/viatorlaw32.ErrorboundMost" =some f)(hfn:Tryz.pinned.checked.prog.funcs[f]? =some fn):
 false=Tryz.pinned.checked.prog.looks []∧∀(j:Nat) t,fn.params[j]? =some t->Tryz.pinned.checked.prog.wantsStandIn t=false:=by
 obtain rfl:f=8:=Option.some.inj ((show Tryz.prog.funcNamed "viator/viatorlaw32.ErrorboundMost" =some 8 by kernel_rfl).symm.trans hf)|>.symm;obtain rfl:fn=Tryz.f8:=(Option.some.inj (Tryz.func8.symm.trans hfn)).symm;refine⟨ak,fun j t ht=>?_⟩
 rw[Tryz.params8] at ht;have hm:t∈([26]:List Nat):=by simpa using Array.mem_of_getElem? ht
 have hw:∀t∈([26]:List Nat),Tryz.prog.wantsStandIn t=false:=by
  intro t ht;simp only[List.mem_cons,List.mem_nil_iff,or_false] at ht;subst ht
  ·exact(show Tryz.prog.wantsStandIn 26=false by kernel_rfl)
 exact hw t hm
def card:Rows.ErrorboundMostCardSaid:=
 Claim7.holds_tied_plain_at .later [] _ _ _ _ qsn (fun _ h=>zf) ak (fun _ h=>zf) errorboundMost_row_tie rfl ⟨rfl,rfl⟩ ak rfl qqu ak
end Go.Proofs.YtaffcpfhedadhaaGreatDoor.errorboundMost
namespace Go.Proofs.YtaffcpfhedadhaaGreatDoor
theorem ErrorboundMost_holds : Rows.ErrorboundMostCardSaid := errorboundMost.card
#print axioms ErrorboundMost_holds
end Go.Proofs.YtaffcpfhedadhaaGreatDoor
