/-
  Closed facts of the whole program.
-/
import Derived.Test.YthbcklajlmcifaaGreatRows
import Derived.JoinedOf
namespace Go.Proofs.YthbcklajlmcifaaGreat
theorem and_i {a b : Bool} (ha : a = true) (hb : b = true) : (a && b) = true := by rw [ha, hb]; rfl
theorem all_laid : laidOutB Tryz.prog = true := by kernel_rfl
theorem all_maps : mapsRowed Tryz.prog = true := by kernel_rfl
theorem all_stops : (Tryz.prog.stops == []) = true := by kernel_rfl
theorem all_knobs : (Tryz.prog.stopKnobs == []) = true := by kernel_rfl
theorem all_keys : (Rows.indexPlaysRow.plainKeys == Tryz.prog.plainKeys) = true := by kernel_rfl
theorem all_heard : Tryz.prog.stopsHeard = true := by kernel_rfl
theorem all_enter : Tryz.prog.mayEnter = true := by kernel_rfl
theorem all_lifts : (Rows.indexPlaysRow.lifted == Tryz.prog.liftsFinal) = true := by kernel_rfl
theorem all_make : (Tryz.prog.make == some Rows.indexPlaysRow.make) = true := by kernel_rfl
end Go.Proofs.YthbcklajlmcifaaGreat
