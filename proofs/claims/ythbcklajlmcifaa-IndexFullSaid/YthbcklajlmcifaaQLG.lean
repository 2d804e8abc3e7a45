/-
  Closed facts of the whole program.
-/
import Derived.Test.YthbcklajlmcifaaRows
import Derived.JoinedOf
namespace Go.Proofs.Ythbcklajlmcifaa
theorem and_i {a b : Bool} (ha : a = true) (hb : b = true) : (a && b) = true := by rw [ha, hb]; rfl
theorem all_laid : laidOutB Try.prog = true := by kernel_rfl
theorem all_maps : mapsRowed Try.prog = true := by kernel_rfl
theorem all_stops : (Try.prog.stops == []) = true := by kernel_rfl
theorem all_knobs : (Try.prog.stopKnobs == []) = true := by kernel_rfl
theorem all_keys : (Rows.indexMissesRow.plainKeys == Try.prog.plainKeys) = true := by kernel_rfl
theorem all_heard : Try.prog.stopsHeard = true := by kernel_rfl
theorem all_enter : Try.prog.mayEnter = true := by kernel_rfl
theorem all_lifts : (Rows.indexMissesRow.lifted == Try.prog.liftsFinal) = true := by kernel_rfl
theorem all_make : (Try.prog.make == some Rows.indexMissesRow.make) = true := by kernel_rfl
end Go.Proofs.Ythbcklajlmcifaa
