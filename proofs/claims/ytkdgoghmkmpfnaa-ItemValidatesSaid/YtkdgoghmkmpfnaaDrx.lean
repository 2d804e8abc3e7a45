/-
  Regions that draw their order and write: three, four or five ways at once. Generic over the program.
-/
import Derived.Test.YtkdgoghmkmpfnaaDrw
namespace Go.Vc
open Go Go.RowKit Go.IntWalk
section
variable {P : Program} {B : Exit → Act → World → Prop} {n : Nat} {k : List Kont} {f : Fr} {w : World} {ops : Array Oper} {S : World → Prop} {fuel : Nat} {d : List Nat}
theorem h_three {i j p : Nat} (hr : readyB ops d [i, j, p] = true) (h : HO P B n k S ops fuel d f w i) (h2 : HO P B n k S ops fuel d f w j) (h3 : HO P B n k S ops fuel d f w p) : HA P B n k S ops (fuel + 1) d f w :=
  h_all [i, j, p] hr (by simp) (by intro q hq; simp at hq; rcases hq with rfl | rfl | rfl <;> assumption)
theorem h_four {i j p r : Nat} (hr : readyB ops d [i, j, p, r] = true) (h : HO P B n k S ops fuel d f w i) (h2 : HO P B n k S ops fuel d f w j) (h3 : HO P B n k S ops fuel d f w p) (h4 : HO P B n k S ops fuel d f w r) : HA P B n k S ops (fuel + 1) d f w :=
  h_all [i, j, p, r] hr (by simp) (by intro q hq; simp at hq; rcases hq with rfl | rfl | rfl | rfl <;> assumption)
end
end Go.Vc
