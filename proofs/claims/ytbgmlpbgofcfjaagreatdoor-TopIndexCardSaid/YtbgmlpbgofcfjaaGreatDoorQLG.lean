/-
  Closed facts of the whole program.
-/
import Derived.Test.YtbgmlpbgofcfjaaGreatDoorRows
import Derived.JoinedOf
namespace Go.Proofs.YtbgmlpbgofcfjaaGreatDoor
theorem Cm {a b : Bool} (ha : a = true) (hb : b = true) : (a && b) = true := by rw [ha, hb]; rfl
theorem ZH : laidOutB Tryz.prog = true := by kernel_rfl
theorem Xi : mapsRowed Tryz.prog = true := by kernel_rfl
theorem Wv : (Tryz.prog.stops == []) = true := by kernel_rfl
theorem Wi : (Tryz.prog.stopKnobs == []) = true := by kernel_rfl
theorem Xk : (Rows.topIndexRow.plainKeys == Tryz.prog.plainKeys) = true := by kernel_rfl
theorem Vn : Tryz.prog.stopsHeard = true := by kernel_rfl
theorem WK : Tryz.prog.mayEnter = true := by kernel_rfl
theorem WZ : (Rows.topIndexRow.lifted == Tryz.prog.liftsFinal) = true := by kernel_rfl
theorem YU : (Tryz.prog.make == some Rows.topIndexRow.make) = true := by kernel_rfl
end Go.Proofs.YtbgmlpbgofcfjaaGreatDoor
