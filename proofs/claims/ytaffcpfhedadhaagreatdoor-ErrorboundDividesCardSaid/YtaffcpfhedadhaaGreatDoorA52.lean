/-
  The law ErrorboundDivides answers true at every input: a certificate of two cars in which the piece with an instant is divided there is right, too, and with another greatest value it is not. No further conditions.
-/
import Derived.Shelf.SlSortCmp.WholeK
import Derived.Shelf.SlSortCmp.NoneTotal
import Derived.Lib.Repeat
import Derived.Sort.Grow
import Derived.Sort.EncStr
import Derived.ChangeSame
import Derived.OpenShut
import Derived.RowKit3
import Derived.ProofKit
import Derived.Deep.Slices
import Derived.Carry
import Derived.ChangeMaps5
import Derived.Test.YtaffcpfhedadhaaGreatDoorCards
import Derived.Test.YtaffcpfhedadhaaGreatDoorTie
import Derived.Deep.DeepHandedRow
import Derived.Lib.LaidTab
import Derived.Lib.SliceRun
import Derived.Test.YtaffcpfhedadhaaGreatDoorA48
import Derived.Test.YtaffcpfhedadhaaGreatDoorA51
set_option linter.all false
set_option maxRecDepth 20000
set_option maxHeartbeats 20000000
namespace Go.Proofs.YtaffcpfhedadhaaGreatDoor.errorboundDivides
open Go Go.ChangeShapes Go.WideShapes Go.ChangeAt Go.RowKit Go.Via
def qsL:Rows.ErrorboundDividesSaid:=
 OpenClaim.holds_of_cond 6 Tryz.f6 rfl rfl rfl rfl rfl rfl rfl ⟨rfl,rfl,rfl,rfl,rfl⟩ rfl rfl rfl rfl rfl (by kernel_rfl) Tryz.func6 qqY
  (of_decide_eq_true ak) (by unfold Func.isWrapper;first|(rw[if_pos eX];kernel_rfl)|(rw[if_neg eX];exact⟨rfl,rfl⟩))
  (fun os started H enc _ F=>by rw[OpenClaim.pre_eq_preRow];exact qoQ os started H enc F)
def qqZ(f:FuncId)(fn:Func)(hf:Tryz.pinned.checked.prog.funcNamed "viator/viatorlaw32.ErrorboundDivides" =some f)(hfn:Tryz.pinned.checked.prog.funcs[f]? =some fn):
 false=Tryz.pinned.checked.prog.looks []∧∀(j:Nat) t,fn.params[j]? =some t->Tryz.pinned.checked.prog.wantsStandIn t=false:=by
 obtain rfl:f=6:=Option.some.inj ((show Tryz.prog.funcNamed "viator/viatorlaw32.ErrorboundDivides" =some 6 by kernel_rfl).symm.trans hf)|>.symm;obtain rfl:fn=Tryz.f6:=(Option.some.inj (Tryz.func6.symm.trans hfn)).symm;refine⟨ak,fun j t ht=>?_⟩
 rw[Tryz.params6] at ht;have hm:t∈([26,48]:List Nat):=by simpa using Array.mem_of_getElem? ht
 have hw:∀t∈([26,48]:List Nat),Tryz.prog.wantsStandIn t=false:=by
  intro t ht;simp only[List.mem_cons,List.mem_nil_iff,or_false] at ht;rcases ht with rfl|rfl
  ·exact(show Tryz.prog.wantsStandIn 26=false by kernel_rfl)
  ·exact(show Tryz.prog.wantsStandIn 48=false by kernel_rfl)
 exact hw t hm
def card:Rows.ErrorboundDividesCardSaid:=
 Claim7.holds_tied_plain_at .later [] _ _ _ _ qsL (fun _ h=>OZ) ak (fun _ h=>OZ) errorboundDivides_row_tie rfl ⟨rfl,rfl⟩ ak rfl qqZ ak
end Go.Proofs.YtaffcpfhedadhaaGreatDoor.errorboundDivides
namespace Go.Proofs.YtaffcpfhedadhaaGreatDoor
theorem ErrorboundDivides_holds : Rows.ErrorboundDividesCardSaid := errorboundDivides.card
#print axioms ErrorboundDivides_holds
end Go.Proofs.YtaffcpfhedadhaaGreatDoor
