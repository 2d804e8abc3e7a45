/-
  '==' between arrays of two integers, and between structs of scalars. Generic over the program.
-/
import Derived.Test.YtkdgoghmkmpfnaaMap
namespace Go.Vc
open Go Go.RowKit Go.IntWalk

section
variable {P : Program} {w : World} {f : Fr} {o : Oper}
theorem run_part1 {E : TypeId} {cs : Array Value} {i : Nat} {v : Value} (ha : aggP P E = some false) (hv : cs[i]? = some v) : (part E cs i).run P w = .ok v w := by
  simp [part, run_isAgg ha, hv]
theorem equalIn_arr2 (d : Nat) {T E : TypeId} {k : IntKind} {a b c e : Int} {bb : Nat} {z : Option Value} (hT : P.underlying T = some (.array 2 E)) (hE : P.underlying E = some (.int k)) (hs : tyP P E = some (1, bb, z)) (hag : aggP P E = some false) :
    (Op.equalIn (d + 2) T (.agg #[.int k a, .int k b]) (.agg #[.int k c, .int k e])).run P w = .ok (decide (a = c ∧ b = e)) w := by
  have h1 : ∀ w (x y : Int), (Op.equalIn (d + 1) E (.int k x) (.int k y)).run P w = .ok (decide (x = y)) w := fun w x y => by
    rw [run_equalIn_int w d E k k x y hE]
    congr 1
  have p0 : ∀ w (x y : Value), (part E #[x, y] (0 * 1)).run P w = .ok x w := fun w x y => run_part1 hag rfl
  have p1 : ∀ w (x y : Value), (part E #[x, y] (1 * 1)).run P w = .ok y w := fun w x y => run_part1 hag rfl
  have hr : List.range' 0 2 1 = [0, 1] := rfl
  rw [Op.equalIn]
  simp only [Sem.run_bind, run_underlying hT, Result.andThen_ok, run_sizeOf hs, Std.Legacy.Range.forIn_eq_forIn_range', Std.Legacy.Range.size]
  simp only [show (2 - 0 + 1 - 1) / 1 = 2 from rfl, hr, List.forIn_cons, List.forIn_nil, Sem.run_bind, p0, h1, Result.andThen_ok]
  by_cases hac : a = c
  · by_cases hbe : b = e
    · simp [hac, hbe, p1, h1]
    · simp [hac, hbe, p1, h1]
  · simp [hac]
theorem run_eqlA2 {T T2 E : TypeId} {x y : Operand} {k : IntKind} {a b c e : Int} {bb : Nat} {z : Option Value} (ho : o.op = .binOp .eql T x y T2) (hT : P.underlying T = some (.array 2 E)) (hE : P.underlying E = some (.int k)) (hs : tyP P E = some (1, bb, z)) (hag : aggP P E = some false)
    (hg : P.eqGuardType P.depth T = false) (hx : opv f x = .agg #[.int k a, .int k b]) (hy : opv f y = .agg #[.int k c, .int k e]) : (execOp (opv f) o).run P w = .ok (.value (.bool (decide (a = c ∧ b = e)))) w := by
  unfold execOp; rw [ho]; simp only []; rw [hx, hy]
  have := equalIn_arr2 (P := P) (w := w) 9998 (a := a) (b := b) (c := c) (e := e) hT hE hs hag
  simp only [Sem.run_bind, run_eqGuard_agg w .eql T x y _ _ hg, Result.andThen_ok, run_eql_struct, this, Sem.run_pure]
end
end Go.Vc
