/-
  Closed facts of the program's types, for the rows' proofs.
-/
import Derived.Test.YthbcklajlmcifaaGreatQa
import Derived.Test.YthbcklajlmcifaaGreatRows
import Derived.OpenShut
import Derived.Carry
namespace Go.Proofs.YthbcklajlmcifaaGreat
open Go.ChangeShapes Go.WideShapes Go.ChangeAt Go.RowKit Go.Vc
theorem own : ownKnob Tryz.prog.godebug = none := by kernel_rfl
theorem laidOut : laidOutB Tryz.prog = true := by kernel_rfl
theorem cells_3 : Tryz.prog.cellsOf 3 = 1 := by kernel_rfl
theorem bytes_3 : Tryz.prog.bytesOf 3 = 8 := by kernel_rfl
theorem cells_9 : Tryz.prog.cellsOf 9 = 1 := by kernel_rfl
theorem bytes_9 : Tryz.prog.bytesOf 9 = 16 := by kernel_rfl
theorem cells_43 : Tryz.prog.cellsOf 43 = 3 := by kernel_rfl
theorem bytes_43 : Tryz.prog.bytesOf 43 = 32 := by kernel_rfl
end Go.Proofs.YthbcklajlmcifaaGreat
