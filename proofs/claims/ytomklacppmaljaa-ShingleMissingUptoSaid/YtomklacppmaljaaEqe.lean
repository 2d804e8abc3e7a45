/-
  '==' and '!=' between endings (two strings) and grams (two strings and an integer). Generic over the program.
-/
import Derived.Test.YtomklacppmaljaaClr
namespace Go.Vc
open Go Go.RowKit Go.IntWalk
section
variable {P : Program} {w : World} {f : Fr} {o : Oper}
theorem equalIn_str (d : Nat) {T : TypeId} (u : P.underlying T = some .string) (a b : Str) : (Op.equalIn (d + 1) T (S a) (S b)).run P w = .ok (a == b) w := by
  have := run_equalIn_string (P := P) w d T ⟨a.toArray⟩ ⟨b.toArray⟩ u
  rw [toList_S, toList_S] at this
  exact this
theorem equalIn_ende (d : Nat) {T : TypeId} {f0 f1 : Field} (hu : P.underlying T = some (.struct #[f0, f1])) (hp : P.stoodInHeld T = false) (n0 : f0.name ≠ "_") (n1 : f1.name ≠ "_")
    (o0 : f0.offset = 0) (o1 : f1.offset = 1) (u0 : P.underlying f0.type = some .string) (u1 : P.underlying f1.type = some .string)
    (a0 : aggP P f0.type = some false) (a1 : aggP P f1.type = some false) (x y : Ende) :
    (Op.equalIn (d + 2) T (.agg (Enc.enc x).toArray) (.agg (Enc.enc y).toArray)).run P w = .ok (decide (x = y)) w := by
  have hf : P.fieldsOf T = #[f0, f1] := by simp [Program.fieldsOf, hu]
  rw [run_equalIn_struct (P := P) w (d + 1) T _ _ (by rw [hf]; exact hu) hp, hf]
  have p0 : ∀ (z : Ende), (part f0.type (Enc.enc z).toArray 0).run P w = .ok (S z.strip) w := fun z => run_part1 a0 rfl
  have p1 : ∀ (z : Ende), (part f1.type (Enc.enc z).toArray 1).run P w = .ok (S z.add) w := fun z => run_part1 a1 rfl
  have e0 := equalIn_str (P := P) (w := w) d u0 x.strip y.strip
  have e1 := equalIn_str (P := P) (w := w) d u1 x.add y.add
  have key : (Op.eqFields (d + 1) (Enc.enc x).toArray (Enc.enc y).toArray [f0, f1]).run P w = .ok ((x.strip == y.strip) && (x.add == y.add)) w := by
    simp only [Op.eqFields, n0, n1, o0, o1, ne_eq, not_false_eq_true, if_true, Sem.run_bind, p0, e0, Result.andThen_ok]
    cases (x.strip == y.strip) with
    | false => simp
    | true =>
      simp only [Bool.not_true, Bool.false_eq_true, if_false, Sem.run_bind, p1, e1, Result.andThen_ok, Bool.true_and]
      cases (x.add == y.add) with
      | false => simp
      | true => simp
  have e3 : ((x.strip == y.strip) && (x.add == y.add)) = decide (x = y) := by
    obtain ⟨k1, t1⟩ := x
    obtain ⟨k2, t2⟩ := y
    rw [Bool.eq_iff_iff]
    simp
  rw [← e3]
  exact key
theorem run_eqlG {α : Type} [Enc α] [DecidableEq α] {T T2 : TypeId} {x y : Operand} (a b : α) (ho : o.op = .binOp .eql T x y T2) (hg : P.eqGuardType P.depth T = false) (he : ∀ (w : World) (x y : α), (Op.equalIn 10000 T (.agg (Enc.enc x).toArray) (.agg (Enc.enc y).toArray)).run P w = .ok (decide (x = y)) w)
    (hx : opv f x = .agg (Enc.enc a).toArray) (hy : opv f y = .agg (Enc.enc b).toArray) : (execOp (opv f) o).run P w = .ok (.value (.bool (decide (a = b)))) w := by
  unfold execOp; rw [ho]; simp only []; rw [hx, hy]
  simp only [Sem.run_bind, run_eqGuard_agg w .eql T x y _ _ hg, Result.andThen_ok, run_eql_struct, he, Sem.run_pure]
theorem run_neqG {α : Type} [Enc α] [DecidableEq α] {T T2 : TypeId} {x y : Operand} (a b : α) (ho : o.op = .binOp .neq T x y T2) (hg : P.eqGuardType P.depth T = false) (he : ∀ (w : World) (x y : α), (Op.equalIn 10000 T (.agg (Enc.enc x).toArray) (.agg (Enc.enc y).toArray)).run P w = .ok (decide (x = y)) w)
    (hx : opv f x = .agg (Enc.enc a).toArray) (hy : opv f y = .agg (Enc.enc b).toArray) : (execOp (opv f) o).run P w = .ok (.value (.bool (decide (¬ a = b)))) w := by
  unfold execOp; rw [ho]; simp only []; rw [hx, hy]
  simp only [Sem.run_bind, run_eqGuard_agg w .neq T x y _ _ hg, Result.andThen_ok, run_neq_struct, he, Sem.run_pure]
  simp
end
end Go.Vc
