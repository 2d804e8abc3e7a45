/-
  The pure operations: what each comes to, and a guarded one without parting the ways. Generic over the program.
-/
import Derived.Test.YtkdgoghmkmpfnaaVc
import Derived.WalkLawsBesides
namespace Go.Vc
open Go Go.RowKit Go.IntWalk

/-- a string by its bytes -/
def S (l : List UInt8) : Value := .string ⟨l.toArray⟩
theorem S_of (s : ByteArray) : Value.string s = S s.data.toList := by unfold S; rfl
theorem S_inj {a b : List UInt8} (h : S a = S b) : a = b := by
  unfold S at h
  injection h with h
  have := congrArg (fun x : ByteArray => x.data.toList) h
  simpa using this
theorem S_ext (s : ByteArray) : ∃ l, Value.string s = S l := ⟨_, S_of s⟩
theorem toList_S (l : List UInt8) : (ByteArray.mk l.toArray).toList = l := by
  exact ByteArray.toList_mk l
theorem size_S (l : List UInt8) : (ByteArray.mk l.toArray).size = l.length := by simp [ByteArray.size]

def gv (g : Prop) [Decidable g] (v : Value) : Value := if g then v else undef
theorem gv_yes {g : Prop} [Decidable g] {v : Value} (h : g) : gv g v = v := if_pos h
theorem gv_no {g : Prop} [Decidable g] {v : Value} (h : ¬ g) : gv g v = undef := if_neg h

section
variable {P : Program} {f : Fr} {w : World} {o : Oper}

theorem gl {g : Prop} {x : Operand} {v : Value} (h : opv f x = v) : g → opv f x = v := fun _ => h
theorem glv {g g' : Prop} [Decidable g'] {x : Operand} {v : Value} (h : opv f x = gv g' v) (hi : g → g') : g → opv f x = v := fun hg => by rw [h, gv_yes (hi hg)]

/-- The slot 's' holds 'want' exactly where 'g'. -/
structure Wanted (f : Fr) (s : Nat) (want : Bool) (g : Prop) : Prop where
  yes : g → f s = .bool want
  no : ¬ g → f s ≠ .bool want
theorem wantT {s : Nat} {q : Prop} [Decidable q] (h : f s = .bool (decide q)) : Wanted f s true q := ⟨fun hq => by simp [h, hq], fun hq => by simp [h, hq]⟩
theorem wantF {s : Nat} {q : Prop} [Decidable q] (h : f s = .bool (decide q)) : Wanted f s false (¬ q) := ⟨fun hq => by simp [h, hq], fun hq => by simp at hq; simp [h, hq]⟩
theorem wantTg {s : Nat} {g q : Prop} [Decidable g] [Decidable q] (h : f s = gv g (.bool (decide q))) : Wanted f s true (g ∧ q) :=
  ⟨fun hq => by rw [h, gv_yes hq.1]; simp [hq.2], fun hq => by
    by_cases hg : g
    · have : ¬ q := fun h => hq ⟨hg, h⟩
      rw [h, gv_yes hg]; simp [this]
    · rw [h, gv_no hg]; simp [undef]⟩
theorem wantFg {s : Nat} {g q : Prop} [Decidable g] [Decidable q] (h : f s = gv g (.bool (decide q))) : Wanted f s false (g ∧ ¬ q) :=
  ⟨fun hq => by rw [h, gv_yes hq.1]; simp [hq.2], fun hq => by
    by_cases hg : g
    · have : q := Classical.byContradiction fun h => hq ⟨hg, h⟩
      rw [h, gv_yes hg]; simp [this]
    · rw [h, gv_no hg]; simp [undef]⟩

/-! What each operation comes to. -/
theorem run_mv {x : Operand} {v : Value} (ho : o.op = .move x) (hx : opv f x = v) : (execOp (opv f) o).run P w = .ok (.value v) w := by
  unfold execOp; rw [ho]; simp only []; rw [hx]; rfl
theorem run_asg {x : Operand} {v : Value} (ho : o.op = .assign x) (hx : opv f x = v) : (execOp (opv f) o).run P w = .ok (.value v) w := by
  unfold execOp; rw [ho]; simp only []; rw [hx]; rfl

theorem guard_int {op : BinOp} {t : TypeId} {x y : Operand} {k : IntKind} {a b : Int} : (eqGuard op t x y (.int k a) (.int k b)).run P w = .ok () w := by
  cases op <;> rfl

theorem run_bin {op : BinOp} {t t2 : TypeId} {x y : Operand} {k : IntKind} {a b : Int} {v : Value} (ho : o.op = .binOp op t x y t2) (hx : opv f x = .int k a) (hy : opv f y = .int k b)
    (h : (binOp op t (.int k a) (.int k b)).run P w = .ok v w) : (execOp (opv f) o).run P w = .ok (.value v) w := by
  unfold execOp
  rw [ho]
  simp only []
  rw [hx, hy]
  simp [guard_int, h]

theorem run_add {t t2 : TypeId} {x y : Operand} {a b : Int} (ho : o.op = .binOp .add t x y t2) (hx : opv f x = .int .i64 a) (hy : opv f y = .int .i64 b)
    (h1 : -9223372036854775808 ≤ a + b) (h2 : a + b ≤ 9223372036854775807) : (execOp (opv f) o).run P w = .ok (.value (.int .i64 (a + b))) w := by
  refine run_bin ho hx hy ?_
  simp [binOp, Op.intArith, i64_in _ ⟨h1, h2⟩]
theorem run_sub {t t2 : TypeId} {x y : Operand} {a b : Int} (ho : o.op = .binOp .sub t x y t2) (hx : opv f x = .int .i64 a) (hy : opv f y = .int .i64 b)
    (h1 : -9223372036854775808 ≤ a - b) (h2 : a - b ≤ 9223372036854775807) : (execOp (opv f) o).run P w = .ok (.value (.int .i64 (a - b))) w := by
  refine run_bin ho hx hy ?_
  simp [binOp, Op.intArith, i64_in _ ⟨h1, h2⟩]
theorem run_mul {t t2 : TypeId} {x y : Operand} {a b : Int} (ho : o.op = .binOp .mul t x y t2) (hx : opv f x = .int .i64 a) (hy : opv f y = .int .i64 b)
    (h1 : -9223372036854775808 ≤ a * b) (h2 : a * b ≤ 9223372036854775807) : (execOp (opv f) o).run P w = .ok (.value (.int .i64 (a * b))) w := by
  refine run_bin ho hx hy ?_
  simp [binOp, Op.intArith, i64_in _ ⟨h1, h2⟩]
/-- the sum as it is, wrapped -/
theorem run_addw {t t2 : TypeId} {x y : Operand} {k : IntKind} {a b : Int} (ho : o.op = .binOp .add t x y t2) (hx : opv f x = .int k a) (hy : opv f y = .int k b) :
    (execOp (opv f) o).run P w = .ok (.value (.int k (k.wrap (a + b)))) w := by
  refine run_bin ho hx hy ?_
  simp [binOp, Op.intArith]
theorem run_subw {t t2 : TypeId} {x y : Operand} {k : IntKind} {a b : Int} (ho : o.op = .binOp .sub t x y t2) (hx : opv f x = .int k a) (hy : opv f y = .int k b) :
    (execOp (opv f) o).run P w = .ok (.value (.int k (k.wrap (a - b)))) w := by
  refine run_bin ho hx hy ?_
  simp [binOp, Op.intArith]
theorem run_rem {t t2 : TypeId} {x y : Operand} {k : IntKind} {a b : Int} (ho : o.op = .binOp .rem t x y t2) (hx : opv f x = .int k a) (hy : opv f y = .int k b) (h0 : b ≠ 0) :
    (execOp (opv f) o).run P w = .ok (.value (.int k (a.tmod b))) w := by
  refine run_bin ho hx hy ?_
  simp [binOp, Op.intDiv, h0]
theorem run_quo {t t2 : TypeId} {x y : Operand} {a b : Int} (ho : o.op = .binOp .quo t x y t2) (hx : opv f x = .int .i64 a) (hy : opv f y = .int .i64 b) (h0 : b ≠ 0)
    (h1 : -9223372036854775808 ≤ a.tdiv b) (h2 : a.tdiv b ≤ 9223372036854775807) : (execOp (opv f) o).run P w = .ok (.value (.int .i64 (a.tdiv b))) w := by
  refine run_bin ho hx hy ?_
  simp [binOp, Op.intDiv, h0, i64_in _ ⟨h1, h2⟩]
theorem run_lss {t t2 : TypeId} {x y : Operand} {k : IntKind} {a b : Int} (ho : o.op = .binOp .lss t x y t2) (hx : opv f x = .int k a) (hy : opv f y = .int k b) :
    (execOp (opv f) o).run P w = .ok (.value (.bool (decide (a < b)))) w := run_bin ho hx hy (by simp [binOp, Op.intCmp])
theorem run_leq {t t2 : TypeId} {x y : Operand} {k : IntKind} {a b : Int} (ho : o.op = .binOp .leq t x y t2) (hx : opv f x = .int k a) (hy : opv f y = .int k b) :
    (execOp (opv f) o).run P w = .ok (.value (.bool (decide (a ≤ b)))) w := run_bin ho hx hy (by simp [binOp, Op.intCmp])
theorem run_gtr {t t2 : TypeId} {x y : Operand} {k : IntKind} {a b : Int} (ho : o.op = .binOp .gtr t x y t2) (hx : opv f x = .int k a) (hy : opv f y = .int k b) :
    (execOp (opv f) o).run P w = .ok (.value (.bool (decide (b < a)))) w := run_bin ho hx hy (by simp [binOp, Op.intCmp])
theorem run_geq {t t2 : TypeId} {x y : Operand} {k : IntKind} {a b : Int} (ho : o.op = .binOp .geq t x y t2) (hx : opv f x = .int k a) (hy : opv f y = .int k b) :
    (execOp (opv f) o).run P w = .ok (.value (.bool (decide (b ≤ a)))) w := run_bin ho hx hy (by simp [binOp, Op.intCmp])
theorem run_eql {t t2 : TypeId} {x y : Operand} {k : IntKind} {a b : Int} (ho : o.op = .binOp .eql t x y t2) (hx : opv f x = .int k a) (hy : opv f y = .int k b) :
    (execOp (opv f) o).run P w = .ok (.value (.bool (decide (a = b)))) w := run_bin ho hx hy (by
      simp only [binOp, Op.intCmp, ne_eq, not_true_eq_false, if_false]
      exact congrArg (fun x => Result.ok (Value.bool x) w) (by rw [Bool.eq_iff_iff]; simp))
theorem run_neq {t t2 : TypeId} {x y : Operand} {k : IntKind} {a b : Int} (ho : o.op = .binOp .neq t x y t2) (hx : opv f x = .int k a) (hy : opv f y = .int k b) :
    (execOp (opv f) o).run P w = .ok (.value (.bool (decide (¬ a = b)))) w := run_bin ho hx hy (by
      simp only [binOp, Op.intCmp, ne_eq, not_true_eq_false, if_false]
      exact congrArg (fun x => Result.ok (Value.bool x) w) (by rw [Bool.eq_iff_iff]; simp))

theorem run_binS {op : BinOp} {t t2 : TypeId} {x y : Operand} {a b : List UInt8} {v : Value} (ho : o.op = .binOp op t x y t2) (hx : opv f x = S a) (hy : opv f y = S b)
    (h : (Op.stringOp op ⟨a.toArray⟩ ⟨b.toArray⟩).run P w = .ok v w) : (execOp (opv f) o).run P w = .ok (.value v) w := by
  unfold execOp
  rw [ho]
  simp only []
  rw [hx, hy]
  unfold S
  have hg : (eqGuard op t x y (.string ⟨a.toArray⟩) (.string ⟨b.toArray⟩)).run P w = .ok () w := by cases op <;> rfl
  have hb : binOp op t (.string ⟨a.toArray⟩) (.string ⟨b.toArray⟩) = Op.stringOp op ⟨a.toArray⟩ ⟨b.toArray⟩ := by cases op <;> rfl
  simp [hg, hb, h]
theorem run_seql {t t2 : TypeId} {x y : Operand} {a b : List UInt8} (ho : o.op = .binOp .eql t x y t2) (hx : opv f x = S a) (hy : opv f y = S b) :
    (execOp (opv f) o).run P w = .ok (.value (.bool (decide (a = b)))) w := run_binS ho hx hy (by
      simp only [Op.stringOp, toList_S]
      exact congrArg (fun x => Result.ok (Value.bool x) w) (by rw [Bool.eq_iff_iff]; simp))
theorem run_sneq {t t2 : TypeId} {x y : Operand} {a b : List UInt8} (ho : o.op = .binOp .neq t x y t2) (hx : opv f x = S a) (hy : opv f y = S b) :
    (execOp (opv f) o).run P w = .ok (.value (.bool (decide (¬ a = b)))) w := run_binS ho hx hy (by
      simp only [Op.stringOp, toList_S]
      exact congrArg (fun x => Result.ok (Value.bool x) w) (by rw [Bool.eq_iff_iff]; simp))
theorem run_sadd {t t2 : TypeId} {x y : Operand} {a b : List UInt8} (ho : o.op = .binOp .add t x y t2) (hx : opv f x = S a) (hy : opv f y = S b)
    (hb : a.length + b.length ≤ 9223372036854775807) : (execOp (opv f) o).run P w = .ok (.value (S (a ++ b))) w := run_binS ho hx hy (by
      have : ¬ (9223372036854775807 < (a.length : Int) + (b.length : Int)) := by omega
      have hm : IntKind.i64.max = 9223372036854775807 := by decide
      simp only [Op.stringOp, size_S, hm]
      rw [if_neg (by omega)]
      unfold S
      simp only [Sem.run_pure]
      congr 2)
def blt (a b : List UInt8) : Bool := Op.bytesLess a b
theorem run_slss {t t2 : TypeId} {x y : Operand} {a b : List UInt8} (ho : o.op = .binOp .lss t x y t2) (hx : opv f x = S a) (hy : opv f y = S b) :
    (execOp (opv f) o).run P w = .ok (.value (.bool (blt a b))) w := run_binS ho hx hy (by simp [Op.stringOp, blt])
theorem run_sleq {t t2 : TypeId} {x y : Operand} {a b : List UInt8} (ho : o.op = .binOp .leq t x y t2) (hx : opv f x = S a) (hy : opv f y = S b) :
    (execOp (opv f) o).run P w = .ok (.value (.bool (blt a b || a == b))) w := run_binS ho hx hy (by simp [Op.stringOp, blt])

theorem run_not {t : TypeId} {x : Operand} {q : Prop} [Decidable q] (ho : o.op = .unOp .not t x) (hx : opv f x = .bool (decide q)) :
    (execOp (opv f) o).run P w = .ok (.value (.bool (decide (¬ q)))) w := by
  unfold execOp; rw [ho]; simp only []; rw [hx]; simp [Op.unary]
theorem run_notb {t : TypeId} {x : Operand} {b : Bool} (ho : o.op = .unOp .not t x) (hx : opv f x = .bool b) :
    (execOp (opv f) o).run P w = .ok (.value (.bool (!b))) w := by
  unfold execOp; rw [ho]; simp only []; rw [hx]; simp [Op.unary]
theorem run_neg {t : TypeId} {x : Operand} {a : Int} (ho : o.op = .unOp .neg t x) (hx : opv f x = .int .i64 a) (h1 : -9223372036854775808 < a) (h2 : a ≤ 9223372036854775807) :
    (execOp (opv f) o).run P w = .ok (.value (.int .i64 (-a))) w := by
  unfold execOp; rw [ho]; simp only []; rw [hx]; simp [Op.unary, Op.intArith, i64_in (-a) ⟨by omega, by omega⟩]

theorem run_pick_and {c a b : Operand} {q r : Prop} [Decidable q] [Decidable r] (ho : o.op = .pick c a b) (hc : opv f c = .bool (decide q)) (ha : q → opv f a = .bool (decide r)) (hb : opv f b = .bool false) :
    (execOp (opv f) o).run P w = .ok (.value (.bool (decide (q ∧ r)))) w := by
  unfold execOp; rw [ho]; simp only []; rw [hc, hb]
  by_cases hq : q
  · simp [asBool, ha hq, hq]
  · simp [asBool, hq]
theorem run_pick_or {c a b : Operand} {q r : Prop} [Decidable q] [Decidable r] (ho : o.op = .pick c a b) (hc : opv f c = .bool (decide q)) (ha : opv f a = .bool true) (hb : ¬ q → opv f b = .bool (decide r)) :
    (execOp (opv f) o).run P w = .ok (.value (.bool (decide (q ∨ r)))) w := by
  unfold execOp; rw [ho]; simp only []; rw [hc, ha]
  by_cases hq : q
  · simp [asBool, hq]
  · simp [asBool, hq, hb hq]
theorem run_pick_yes {c a b : Operand} {v : Value} (ho : o.op = .pick c a b) (hc : opv f c = .bool true) (ha : opv f a = v) :
    (execOp (opv f) o).run P w = .ok (.value v) w := by
  unfold execOp; rw [ho]; simp only []; rw [hc, ha]; simp [asBool]
theorem run_pick_no {c a b : Operand} {v : Value} (ho : o.op = .pick c a b) (hc : opv f c = .bool false) (hb : opv f b = v) :
    (execOp (opv f) o).run P w = .ok (.value v) w := by
  unfold execOp; rw [ho]; simp only []; rw [hc, hb]; simp [asBool]

theorem run_extract {t : Operand} {i : Nat} {vs : Array Value} {v : Value} (ho : o.op = .extract t i) (ht : opv f t = .tuple vs) (hv : vs[i]? = some v) :
    (execOp (opv f) o).run P w = .ok (.value v) w := by
  unfold execOp; rw [ho]; simp only []; rw [ht]; simp [Instr.extract, hv]

/-! builtins -/
theorem run_builtin {bi : Builtin} {args : Array Operand} {at_ : Array TypeId} {vs : Array Value} {s : Sem Value} {v : Value} (ho : o.op = .call ⟨.builtin bi, args, at_⟩) (hvs : args.map (opv f) = vs)
    (hb : ∀ cs, builtin bi at_ o.type cs vs = (do pure (.value (← s)))) {w' : World} (h : s.run P w = .ok v w') : (execOp (opv f) o).run P w = .ok (.value v) w' := by
  unfold execOp; rw [ho]; simp only [resolve]; rw [hvs]; simp [invoke, hb, h]
theorem run_lenS {t : TypeId} {x : Operand} {l : List UInt8} (ho : o.op = .call ⟨.builtin .len, #[x], #[t]⟩) (hx : opv f x = S l) (ht : P.underlying t = some .string) :
    (execOp (opv f) o).run P w = .ok (.value (.int .i64 (l.length : Int))) w := by
  refine run_builtin (s := Builtin.len_ #[t] o.type #[S l]) ho (by simp [hx]) (fun cs => rfl) ?_
  unfold S
  simp [Builtin.len_, run_underlying ht, goInt, size_S]
theorem run_lenSl {t e : TypeId} {x : Operand} {ao : Option Addr} {len cap : Nat} (ho : o.op = .call ⟨.builtin .len, #[x], #[t]⟩) (hx : opv f x = .slice ao len cap) (ht : P.underlying t = some (.slice e)) :
    (execOp (opv f) o).run P w = .ok (.value (.int .i64 (len : Int))) w := by
  refine run_builtin (s := Builtin.len_ #[t] o.type #[.slice ao len cap]) ho (by simp [hx]) (fun cs => rfl) ?_
  simp [Builtin.len_, run_underlying ht, goInt]
theorem run_max {ts : Array TypeId} {x y : Operand} {k : IntKind} {a b : Int} (ho : o.op = .call ⟨.builtin .max, #[x, y], ts⟩) (hx : opv f x = .int k a) (hy : opv f y = .int k b) :
    (execOp (opv f) o).run P w = .ok (.value (.int k (max a b))) w := by
  refine run_builtin (s := Builtin.max_ ts o.type #[.int k a, .int k b]) ho (by simp [hx, hy]) (fun cs => rfl) ?_
  have : (if b > a then b else a) = max a b := by omega
  simp [Builtin.max_, Builtin.max2, List.foldlM, this]
theorem run_min {ts : Array TypeId} {x y : Operand} {k : IntKind} {a b : Int} (ho : o.op = .call ⟨.builtin .min, #[x, y], ts⟩) (hx : opv f x = .int k a) (hy : opv f y = .int k b) :
    (execOp (opv f) o).run P w = .ok (.value (.int k (min a b))) w := by
  refine run_builtin (s := Builtin.min_ ts o.type #[.int k a, .int k b]) ho (by simp [hx, hy]) (fun cs => rfl) ?_
  have : (if b < a then b else a) = min a b := by omega
  simp [Builtin.min_, Builtin.min2, List.foldlM, this]

/-! calls -/
theorem argcons {x : Operand} {l : List Operand} {v : Value} {vs : List Value} (h : opv f x = v) (t : l.map (opv f) = vs) : (x :: l).map (opv f) = v :: vs := by simp [h, t]
theorem run_callf {g : FuncId} {args : List Operand} {ts : Array TypeId} {vs : List Value} {fn : Func} {c : Code} (ho : o.op = .call ⟨.value (.func g), args.toArray, ts⟩) (hvs : args.map (opv f) = vs)
    (hf : P.funcs[g]? = some fn) (hb : fn.body = some c) (hn : (fn.name == "runtime.NumGoroutine") = false) : (execOp (opv f) o).run P w = .ok (.enter g vs.toArray) w := by
  unfold execOp; rw [ho]; simp only [resolve]
  rw [show args.toArray.map (opv f) = vs.toArray from by rw [← hvs]; simp]
  have hn' : ¬ fn.name = "runtime.NumGoroutine" := by simpa using hn
  simp [Deferred.ofValue, invoke, callFunc, hf, hb, hn']
end

section
variable {P : Program} {B : Exit → Act → World → Prop} {n : Nat} {k : List Kont} {f : Fr} {w : World} {ops : Array Oper} {rest : List Oper}
/-- A guarded operation that changes nothing, whether or not it is wanted. -/
theorem r_g {d : Nat} {op : Op} {t : TypeId} {pos : String} {aft : Array Edge} {j s : Nat} {b : Bool} {g : Prop} [Decidable g] {v : Value} (hj : (ops[j]?).bind (·.dst) = some s) (hw : Wanted f s b g)
    (hd : Nat.blt d n = true) (hrun : g → (execOp (opv f) ⟨some d, op, t, pos, aft, none⟩).run P w = .ok (.value v) w)
    (h : KL P B n ops k rest (upd f d (gv g v)) w) : KL P B n ops k (⟨some d, op, t, pos, aft, some (j, b)⟩ :: rest) f w := by
  by_cases hg : g
  · refine r_guard_yes hj (hw.yes hg) (r_op rfl rfl hd (hrun hg) ?_)
    rw [gv_yes hg] at h
    exact h
  · rw [gv_no hg] at h
    intro a ha
    have hy : (yielded ops a.tmps j == some b) = false := by
      have h1 := ha.get s
      have h2 := hw.no hg
      rw [← h1, Array.getD_eq_getD_getElem?] at h2
      unfold yielded
      rw [hj]
      simp only [Option.bind_some]
      cases h3 : a.tmps[s]? with
      | none => rfl
      | some u =>
        rw [h3] at h2
        simp at h2
        cases u <;> simp_all
        rename_i b'
        intro e
        exact h2 (by rw [← h1, e])
    unfold wpList
    simp only [Region.wanted, hy, Bool.false_eq_true, if_false]
    exact h _ (ha.put hd _)
end
end Go.Vc
