/-
  Closed facts of the program's types, for the rows' proofs.
-/
import Derived.Test.YthfahceagabhiaaArg
import Derived.Test.YthfahceagabhiaaRows
import Derived.OpenShut
import Derived.Carry
namespace Go.Proofs.Ythfahceagabhiaa
open Go.ChangeShapes Go.WideShapes Go.ChangeAt Go.RowKit Go.Vc
theorem own : ownKnob Try.prog.godebug = none := by kernel_rfl
theorem laidOut : laidOutB Try.prog = true := by kernel_rfl
theorem cells_67 : Try.prog.cellsOf 67 = 2 := by kernel_rfl
theorem bytes_67 : Try.prog.bytesOf 67 = 32 := by kernel_rfl
theorem cells_3 : Try.prog.cellsOf 3 = 1 := by kernel_rfl
theorem bytes_3 : Try.prog.bytesOf 3 = 8 := by kernel_rfl
theorem cells_9 : Try.prog.cellsOf 9 = 1 := by kernel_rfl
theorem bytes_9 : Try.prog.bytesOf 9 = 16 := by kernel_rfl
theorem cells_65 : Try.prog.cellsOf 65 = 1 := by kernel_rfl
theorem side_elem : ElemR Side Try.prog 67 := elem_side Try.underlying67 cells_67 rfl cells_3 rfl cells_65 Try.underlying3 Try.underlying65 Try.underlying9 cells_9 (by rw [bytes_9]; decide)
end Go.Proofs.Ythfahceagabhiaa
