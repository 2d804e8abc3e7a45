/-
  Closed facts of the program's types, for the rows' proofs.
-/
import Derived.Test.YtomklacppmaljaaLb
import Derived.Test.YtomklacppmaljaaRows
import Derived.OpenShut
import Derived.Carry
namespace Go.Proofs.Ytomklacppmaljaa
open Go.ChangeShapes Go.WideShapes Go.ChangeAt Go.RowKit Go.Vc
theorem own : ownKnob Try.prog.godebug = none := by kernel_rfl
theorem laidOut : laidOutB Try.prog = true := by kernel_rfl
theorem cells_3 : Try.prog.cellsOf 3 = 1 := by kernel_rfl
theorem bytes_3 : Try.prog.bytesOf 3 = 8 := by kernel_rfl
theorem cells_9 : Try.prog.cellsOf 9 = 1 := by kernel_rfl
theorem bytes_9 : Try.prog.bytesOf 9 = 16 := by kernel_rfl
theorem cells_22 : Try.prog.cellsOf 22 = 1 := by kernel_rfl
theorem bytes_22 : Try.prog.bytesOf 22 = 24 := by kernel_rfl
theorem cells_33 : Try.prog.cellsOf 33 = 2 := by kernel_rfl
theorem bytes_33 : Try.prog.bytesOf 33 = 32 := by kernel_rfl
theorem cells_41 : Try.prog.cellsOf 41 = 1 := by kernel_rfl
theorem bytes_41 : Try.prog.bytesOf 41 = 24 := by kernel_rfl
theorem cells_43 : Try.prog.cellsOf 43 = 2 := by kernel_rfl
theorem bytes_43 : Try.prog.bytesOf 43 = 40 := by kernel_rfl
theorem cells_46 : Try.prog.cellsOf 46 = 2 := by kernel_rfl
theorem bytes_46 : Try.prog.bytesOf 46 = 32 := by kernel_rfl
theorem cells_72 : Try.prog.cellsOf 72 = 3 := by kernel_rfl
theorem bytes_72 : Try.prog.bytesOf 72 = 40 := by kernel_rfl
theorem cells_81 : Try.prog.cellsOf 81 = 3 := by kernel_rfl
theorem bytes_81 : Try.prog.bytesOf 81 = 32 := by kernel_rfl
theorem cells_129 : Try.prog.cellsOf 129 = 3 := by kernel_rfl
theorem bytes_129 : Try.prog.bytesOf 129 = 32 := by kernel_rfl
end Go.Proofs.Ytomklacppmaljaa
