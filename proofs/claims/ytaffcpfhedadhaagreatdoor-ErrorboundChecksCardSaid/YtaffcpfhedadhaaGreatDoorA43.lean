/-
  Part 43 (chapter 32): lemmas, walks. Each theorem states its own conditions.
-/
import Derived.Shelf.SlSortCmp.WholeK
import Derived.Shelf.SlSortCmp.NoneTotal
import Derived.Lib.Repeat
import Derived.Sort.Grow
import Derived.Sort.EncStr
import Derived.ChangeSame
import Derived.OpenShut
import Derived.RowKit3
import Derived.ProofKit
import Derived.Deep.Slices
import Derived.Carry
import Derived.ChangeMaps5
import Derived.Test.YtaffcpfhedadhaaGreatDoorCards
import Derived.Test.YtaffcpfhedadhaaGreatDoorTie
import Derived.Deep.DeepHandedRow
import Derived.Lib.LaidTab
import Derived.Test.YtaffcpfhedadhaaGreatDoorA42
set_option linter.all false
set_option maxRecDepth 20000
set_option maxHeartbeats 20000000
namespace Go.Proofs.YtaffcpfhedadhaaGreatDoor
open Go Go.ChangeShapes Go.WideShapes Go.ChangeAt Go.RowKit
theorem quw:Tryz.prog.mayEnter=true:=ak
theorem qw2:Tryz.prog.liftsFinal=false:=ak
theorem qw3:Tryz.prog.plainKeys=true:=ak
end Go.Proofs.YtaffcpfhedadhaaGreatDoor
