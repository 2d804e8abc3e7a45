/-
  Closed facts of the whole program.
-/
import Derived.Test.YtlfjocbnbceceaaGreatDoorRows
import Derived.JoinedOf
namespace Go.Proofs.YtlfjocbnbceceaaGreatDoor
theorem Ct {a b : Bool} (ha : a = true) (hb : b = true) : (a && b) = true := by rw [ha, hb]; rfl
theorem Xp : laidOutB Tryz.prog = true := by kernel_rfl
theorem Xi : mapsRowed Tryz.prog = true := by kernel_rfl
theorem Vt : (Tryz.prog.stops == []) = true := by kernel_rfl
theorem VP : (Tryz.prog.stopKnobs == []) = true := by kernel_rfl
theorem YN : (Rows.checkLimitsRow.plainKeys == Tryz.prog.plainKeys) = true := by kernel_rfl
theorem Wo : Tryz.prog.stopsHeard = true := by kernel_rfl
theorem V1 : Tryz.prog.mayEnter = true := by kernel_rfl
theorem VJ : (Rows.checkLimitsRow.lifted == Tryz.prog.liftsFinal) = true := by kernel_rfl
theorem ZP : (Tryz.prog.make == some Rows.checkLimitsRow.make) = true := by kernel_rfl
end Go.Proofs.YtlfjocbnbceceaaGreatDoor
