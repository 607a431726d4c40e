/-
  Part 45 (chapter 32): lemmas, walks. Each theorem states its own conditions.
-/
import Derived.Test.YtaffcpfhedadhaaGreatDoorA35
set_option linter.all false
set_option maxRecDepth 20000
set_option maxHeartbeats 20000000
namespace Go.Proofs.YtaffcpfhedadhaaGreatDoor
open Go Go.ChangeShapes Go.WideShapes Go.ChangeAt Go.RowKit
theorem qkK:laidOutB Tryz.prog=true:=by kernel_rfl
theorem qiP:mapsRowed Tryz.prog=true:=by kernel_rfl
theorem qiQ:Tryz.prog.stopsHeard=true:=by kernel_rfl
end Go.Proofs.YtaffcpfhedadhaaGreatDoor
