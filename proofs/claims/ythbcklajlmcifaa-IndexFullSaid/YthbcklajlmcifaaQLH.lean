/-
  Closed facts of the program's types, for the rows' proofs.
-/
import Derived.Test.YthbcklajlmcifaaQa
import Derived.Test.YthbcklajlmcifaaRows
import Derived.OpenShut
import Derived.Carry
namespace Go.Proofs.Ythbcklajlmcifaa
open Go.ChangeShapes Go.WideShapes Go.ChangeAt Go.RowKit Go.Vc
theorem own : ownKnob Try.prog.godebug = none := by kernel_rfl
theorem laidOut : laidOutB Try.prog = true := by kernel_rfl
theorem cells_3 : Try.prog.cellsOf 3 = 1 := by kernel_rfl
theorem bytes_3 : Try.prog.bytesOf 3 = 8 := by kernel_rfl
end Go.Proofs.Ythbcklajlmcifaa
