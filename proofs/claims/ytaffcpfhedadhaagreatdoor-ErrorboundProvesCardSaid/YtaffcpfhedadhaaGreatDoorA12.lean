/-
  Part 12 (chapter 32): lemmas, walks. Each theorem states its own conditions.
-/
import Derived.Test.YtaffcpfhedadhaaGreatDoorA11
set_option linter.all false
set_option maxRecDepth 20000
set_option maxHeartbeats 20000000
namespace Go.Proofs.YtaffcpfhedadhaaGreatDoor.errorboundProves
open Go Go.ChangeShapes Go.WideShapes Go.ChangeAt Go.RowKit Go.Via
def qjZ:joinedFacts Tryz.prog 3 Tryz.f3 (OpenSpec.ofChange Rows.errorboundProvesSpec).bare Rows.errorboundProvesRow=true:=by
 unfold joinedFacts;rw[qjW,qie,qif,qig,qjX,qjY]
 kernel_rfl
end Go.Proofs.YtaffcpfhedadhaaGreatDoor.errorboundProves
