/-
  Closed facts of the program's types, for the rows' proofs.
-/
import Derived.Test.YthfahceagabhiaaArgz
import Derived.Test.YthfahceagabhiaaRows
import Derived.OpenShut
import Derived.Carry
namespace Go.Proofs.Ythfahceagabhiaa
open Go.ChangeShapes Go.WideShapes Go.ChangeAt Go.RowKit Go.Vc
theorem own : ownKnob Try.prog.godebug = none := by kernel_rfl
theorem laidOut : laidOutB Try.prog = true := by kernel_rfl
theorem cells_67 : Try.prog.cellsOf 67 = 2 := by kernel_rfl
theorem bytes_67 : Try.prog.bytesOf 67 = 32 := by kernel_rfl
theorem cells_3 : Try.prog.cellsOf 3 = 1 := by kernel_rfl
theorem bytes_3 : Try.prog.bytesOf 3 = 8 := by kernel_rfl
theorem cells_9 : Try.prog.cellsOf 9 = 1 := by kernel_rfl
theorem bytes_9 : Try.prog.bytesOf 9 = 16 := by kernel_rfl
theorem cells_65 : Try.prog.cellsOf 65 = 1 := by kernel_rfl
theorem side_elem : ElemR Side Try.prog 67 := elem_side Try.underlying67 cells_67 rfl cells_3 rfl cells_65 Try.underlying3 Try.underlying65 Try.underlying9 cells_9 (by rw [bytes_9]; decide)
theorem cells_41 : Try.prog.cellsOf 41 = 4 := by kernel_rfl
theorem bytes_41 : Try.prog.bytesOf 41 = 32 := by kernel_rfl
theorem cells_39 : Try.prog.cellsOf 39 = 2 := by kernel_rfl
theorem bead_elem : ElemE Bead Try.prog 41 := ElemZ.bead (ElemZ.struct2 Try.underlying41 cells_41 rfl cells_39 rfl cells_39 (ElemZ.struct2 Try.underlying39 cells_39 rfl cells_3 rfl cells_3 (ElemZ.int Try.underlying3) (ElemZ.int Try.underlying3)) (ElemZ.struct2 Try.underlying39 cells_39 rfl cells_3 rfl cells_3 (ElemZ.int Try.underlying3) (ElemZ.int Try.underlying3)))
end Go.Proofs.Ythfahceagabhiaa
