/-
  Part 19 (chapter 32): lemmas, walks. Each theorem states its own conditions.
-/
import Derived.Test.YtaffcpfhedadhaaGreatDoorA14
set_option linter.all false
set_option maxRecDepth 20000
set_option maxHeartbeats 20000000
namespace Go.Proofs.YtaffcpfhedadhaaGreatDoor
open Go Go.ChangeShapes Go.WideShapes Go.ChangeAt Go.RowKit
theorem qjT:laidOutB Tryz.prog=true:=by kernel_rfl
theorem qh8:mapsRowed Tryz.prog=true:=by kernel_rfl
theorem qh9:Tryz.prog.stopsHeard=true:=by kernel_rfl
end Go.Proofs.YtaffcpfhedadhaaGreatDoor
