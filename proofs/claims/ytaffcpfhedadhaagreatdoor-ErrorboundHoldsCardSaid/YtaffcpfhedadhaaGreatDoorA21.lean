/-
  Part 21 (chapter 32): lemmas, walks. Each theorem states its own conditions.
-/
import Derived.Test.YtaffcpfhedadhaaGreatDoorA20
set_option linter.all false
set_option maxRecDepth 20000
set_option maxHeartbeats 20000000
namespace Go.Proofs.YtaffcpfhedadhaaGreatDoor.errorboundHolds
open Go Go.ChangeShapes Go.WideShapes Go.ChangeAt Go.RowKit Go.Via
def qjW:joinedFacts Tryz.prog 4 Tryz.f4 (OpenSpec.ofChange Rows.errorboundHoldsSpec).bare Rows.errorboundHoldsRow=true:=by
 unfold joinedFacts;rw[qjT,qh8,qh9,qia,qjU,qjV]
 kernel_rfl
end Go.Proofs.YtaffcpfhedadhaaGreatDoor.errorboundHolds
