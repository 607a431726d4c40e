/-
  Part 44 (chapter 32): lemmas, walks. Each theorem states its own conditions.
-/
import Derived.Shelf.SlSortCmp.WholeK
import Derived.Shelf.SlSortCmp.NoneTotal
import Derived.Lib.Repeat
import Derived.Sort.Grow
import Derived.Sort.EncStr
import Derived.ChangeSame
import Derived.OpenShut
import Derived.RowKit3
import Derived.ProofKit
import Derived.Deep.Slices
import Derived.Carry
import Derived.ChangeMaps5
import Derived.Test.YtaffcpfhedadhaaGreatDoorCards
import Derived.Test.YtaffcpfhedadhaaGreatDoorTie
import Derived.Deep.DeepHandedRow
import Derived.Lib.LaidTab
import Derived.Test.YtaffcpfhedadhaaGreatDoorA43
set_option linter.all false
set_option maxRecDepth 20000
set_option maxHeartbeats 20000000
namespace Go.Proofs.YtaffcpfhedadhaaGreatDoor.errorboundChecks
open Go Go.ChangeShapes Go.WideShapes Go.ChangeAt Go.RowKit Go.Via
def qw4:joinedFacts Tryz.prog 5 Tryz.f5 (OpenSpec.ofChange Rows.errorboundChecksSpec).bare Rows.errorboundChecksRow=true:=by
 unfold joinedFacts;rw[qw1,quu,quv,quw,qw2,qw3]
 kernel_rfl
end Go.Proofs.YtaffcpfhedadhaaGreatDoor.errorboundChecks
