/-
  Part 46 (chapter 32): lemmas, walks. Each theorem states its own conditions.
-/
import Derived.Test.YtaffcpfhedadhaaGreatDoorA45
set_option linter.all false
set_option maxRecDepth 20000
set_option maxHeartbeats 20000000
namespace Go.Proofs.YtaffcpfhedadhaaGreatDoor
open Go Go.ChangeShapes Go.WideShapes Go.ChangeAt Go.RowKit
theorem qiR:Tryz.prog.mayEnter=true:=by kernel_rfl
theorem qkL:Tryz.prog.liftsFinal=false:=by kernel_rfl
theorem qkM:Tryz.prog.plainKeys=true:=by kernel_rfl
end Go.Proofs.YtaffcpfhedadhaaGreatDoor
