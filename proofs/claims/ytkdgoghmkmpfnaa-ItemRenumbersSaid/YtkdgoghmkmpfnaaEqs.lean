/-
  '==' and '!=' between items (an integer, a string, an integer); a choice whose second half is a truth. Generic over the program.
-/
import Derived.Test.YtkdgoghmkmpfnaaEqk
import Derived.Test.YtkdgoghmkmpfnaaExt
namespace Go.Vc
open Go Go.RowKit Go.IntWalk
section
variable {P : Program} {w : World} {f : Fr} {o : Oper}
theorem equalIn_item (d : Nat) {T : TypeId} {f0 f1 f2 : Field} (hu : P.underlying T = some (.struct #[f0, f1, f2])) (hp : P.stoodInHeld T = false) (n0 : f0.name ≠ "_") (n1 : f1.name ≠ "_") (n2 : f2.name ≠ "_")
    (o0 : f0.offset = 0) (o1 : f1.offset = 1) (o2 : f2.offset = 2) (u0 : P.underlying f0.type = some (.int .i64)) (u1 : P.underlying f1.type = some .string) (u2 : P.underlying f2.type = some (.int .i64))
    (a0 : aggP P f0.type = some false) (a1 : aggP P f1.type = some false) (a2 : aggP P f2.type = some false) (x y : Item) :
    (Op.equalIn (d + 2) T (.agg (Enc.enc x).toArray) (.agg (Enc.enc y).toArray)).run P w = .ok (decide (x = y)) w := by
  have hf : P.fieldsOf T = #[f0, f1, f2] := by simp [Program.fieldsOf, hu]
  rw [run_equalIn_struct (P := P) w (d + 1) T _ _ (by rw [hf]; exact hu) hp, hf]
  have p0 : ∀ (z : Item), (part f0.type (Enc.enc z).toArray 0).run P w = .ok (.int .i64 z.kind) w := fun z => run_part1 a0 rfl
  have p1 : ∀ (z : Item), (part f1.type (Enc.enc z).toArray 1).run P w = .ok (S z.text) w := fun z => run_part1 a1 rfl
  have p2 : ∀ (z : Item), (part f2.type (Enc.enc z).toArray 2).run P w = .ok (.int .i64 z.id) w := fun z => run_part1 a2 rfl
  have e0 := run_equalIn_int (P := P) w d f0.type .i64 .i64 x.kind y.kind u0
  have e1 : (Op.equalIn (d + 1) f1.type (S x.text) (S y.text)).run P w = .ok (x.text == y.text) w := by
    have := run_equalIn_string (P := P) w d f1.type ⟨x.text.toArray⟩ ⟨y.text.toArray⟩ u1
    rw [toList_S, toList_S] at this
    exact this
  have e2 := run_equalIn_int (P := P) w d f2.type .i64 .i64 x.id y.id u2
  have key : (Op.eqFields (d + 1) (Enc.enc x).toArray (Enc.enc y).toArray [f0, f1, f2]).run P w = .ok ((x.kind == y.kind) && ((x.text == y.text) && (x.id == y.id))) w := by
    simp only [Op.eqFields, n0, n1, n2, o0, o1, o2, ne_eq, not_false_eq_true, if_true, Sem.run_bind, p0, e0, Result.andThen_ok]
    cases (x.kind == y.kind) with
    | false => simp
    | true =>
      simp only [Bool.not_true, Bool.false_eq_true, if_false, Sem.run_bind, p1, e1, Result.andThen_ok, Bool.true_and]
      cases (x.text == y.text) with
      | false => simp
      | true =>
        simp only [Bool.not_true, Bool.false_eq_true, if_false, Sem.run_bind, p2, e2, Result.andThen_ok, Bool.true_and]
        cases (x.id == y.id) with
        | false => simp
        | true => simp
  have e3 : ((x.kind == y.kind) && ((x.text == y.text) && (x.id == y.id))) = decide (x = y) := by
    obtain ⟨k1, t1, i1⟩ := x
    obtain ⟨k2, t2, i2⟩ := y
    rw [Bool.eq_iff_iff]
    simp
  rw [← e3]
  exact key
theorem run_eqlI {T T2 : TypeId} {x y : Operand} (a b : Item) (ho : o.op = .binOp .eql T x y T2) (hg : P.eqGuardType P.depth T = false) (he : ∀ (w : World) (x y : Item), (Op.equalIn 10000 T (.agg (Enc.enc x).toArray) (.agg (Enc.enc y).toArray)).run P w = .ok (decide (x = y)) w)
    (hx : opv f x = .agg (Enc.enc a).toArray) (hy : opv f y = .agg (Enc.enc b).toArray) : (execOp (opv f) o).run P w = .ok (.value (.bool (decide (a = b)))) w := by
  unfold execOp; rw [ho]; simp only []; rw [hx, hy]
  simp only [Sem.run_bind, run_eqGuard_agg w .eql T x y _ _ hg, Result.andThen_ok, run_eql_struct, he, Sem.run_pure]
theorem run_neqI {T T2 : TypeId} {x y : Operand} (a b : Item) (ho : o.op = .binOp .neq T x y T2) (hg : P.eqGuardType P.depth T = false) (he : ∀ (w : World) (x y : Item), (Op.equalIn 10000 T (.agg (Enc.enc x).toArray) (.agg (Enc.enc y).toArray)).run P w = .ok (decide (x = y)) w)
    (hx : opv f x = .agg (Enc.enc a).toArray) (hy : opv f y = .agg (Enc.enc b).toArray) : (execOp (opv f) o).run P w = .ok (.value (.bool (decide (¬ a = b)))) w := by
  unfold execOp; rw [ho]; simp only []; rw [hx, hy]
  simp only [Sem.run_bind, run_eqGuard_agg w .neq T x y _ _ hg, Result.andThen_ok, run_neq_struct, he, Sem.run_pure]
  simp
theorem run_pick_andB {c a b : Operand} {q : Prop} {r : Bool} [Decidable q] (ho : o.op = .pick c a b) (hc : opv f c = .bool (decide q)) (ha : q → opv f a = .bool r) (hb : opv f b = .bool false) :
    (execOp (opv f) o).run P w = .ok (.value (.bool (decide (q ∧ r = true)))) w := run_pick_and ho hc (fun h => by rw [ha h, Bool.decide_eq_true]) hb
theorem run_pick_orB {c a b : Operand} {q : Prop} {r : Bool} [Decidable q] (ho : o.op = .pick c a b) (hc : opv f c = .bool (decide q)) (ha : opv f a = .bool true) (hb : ¬ q → opv f b = .bool r) :
    (execOp (opv f) o).run P w = .ok (.value (.bool (decide (q ∨ r = true)))) w := run_pick_or ho hc ha (fun h => by rw [hb h, Bool.decide_eq_true])
theorem run_beqlB {t t2 : TypeId} {x y : Operand} {a b : Bool} (ho : o.op = .binOp .eql t x y t2) (hu : P.underlying t = some .bool) (hx : opv f x = .bool a) (hy : opv f y = .bool b) :
    (execOp (opv f) o).run P w = .ok (.value (.bool (decide (a = b)))) w := by
  unfold execOp; rw [ho]; simp only []; rw [hx, hy]
  have h2 : (Op.equal t (.bool a) (.bool b)).run P w = .ok (a == b) w := run_equalIn_bool w 9999 t _ _ hu
  have e : (a == b) = decide (a = b) := by cases a <;> cases b <;> rfl
  simp [binOp, eqGuard, h2, e]
theorem run_bneqB {t t2 : TypeId} {x y : Operand} {a b : Bool} (ho : o.op = .binOp .neq t x y t2) (hu : P.underlying t = some .bool) (hx : opv f x = .bool a) (hy : opv f y = .bool b) :
    (execOp (opv f) o).run P w = .ok (.value (.bool (decide (¬ a = b)))) w := by
  unfold execOp; rw [ho]; simp only []; rw [hx, hy]
  have h2 : (Op.equal t (.bool a) (.bool b)).run P w = .ok (a == b) w := run_equalIn_bool w 9999 t _ _ hu
  have e : (!(a == b)) = decide (¬ a = b) := by cases a <;> cases b <;> rfl
  simp [binOp, eqGuard, h2, e]
end
end Go.Vc
