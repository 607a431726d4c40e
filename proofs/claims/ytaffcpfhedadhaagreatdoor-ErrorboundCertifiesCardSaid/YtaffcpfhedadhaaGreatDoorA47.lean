/-
  Part 47 (chapter 32): lemmas, walks. Each theorem states its own conditions.
-/
import Derived.Test.YtaffcpfhedadhaaGreatDoorA46
set_option linter.all false
set_option maxRecDepth 20000
set_option maxHeartbeats 20000000
namespace Go.Proofs.YtaffcpfhedadhaaGreatDoor.errorboundCertifies
open Go Go.ChangeShapes Go.WideShapes Go.ChangeAt Go.RowKit Go.Via
def qkN:joinedFacts Tryz.prog 7 Tryz.f7 (OpenSpec.ofChange Rows.errorboundCertifiesSpec).bare Rows.errorboundCertifiesRow=true:=by
 unfold joinedFacts;rw[qkK,qiP,qiQ,qiR,qkL,qkM]
 kernel_rfl
end Go.Proofs.YtaffcpfhedadhaaGreatDoor.errorboundCertifies
