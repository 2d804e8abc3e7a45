/-
  Functions without a body in Go (the search for a byte in a string), and bytes: slices of bytes, conversions. Generic over the program.
-/
import Derived.Test.YtkdgoghmkmpfnaaRst
import Derived.Lib.Bytealg
import Derived.Laws.Externs
namespace Go.Vc
open Go Go.RowKit Go.IntWalk
/-- internal/bytealg.IndexByteString, by the model's own entry -/
theorem run_extIdx {P : Program} {f : Fr} {w : World} {o : Oper} {g : FuncId} {x y : Operand} {ts : Array TypeId} {fn : Func} {s : List UInt8} {c : UInt8} (ho : o.op = .call ⟨.value (.func g), #[x, y], ts⟩) (hx : opv f x = S s) (hy : opv f y = .int .u8 ((c.toNat : Nat) : Int))
    (hf : P.funcs[g]? = some fn) (hname : (fn.name == "runtime.NumGoroutine") = false) (hb : fn.body.isNone = true) (hn : Extern.findNext fn = none) (he : Extern.find fn = some Extern.BytealgIndexByte.indexByte) :
    (execOp (opv f) o).run P w = .ok (.value (.int .i64 (Lib.indexByte s c))) w := by
  unfold execOp; rw [ho]; simp only [resolve]
  have h1 : (callFunc g #[S s, .int .u8 ((c.toNat : Nat) : Int)]).run P w = .ok (.value (.int .i64 (Lib.indexByte s c))) w := by
    rw [run_callFunc_extern hf hname hb hn he]
    have : (Extern.BytealgIndexByte.indexByte #[S s, .int .u8 ((c.toNat : Nat) : Int)]).run P w = _ := Lib.run_indexByteString (P := P) ⟨s.toArray⟩ ((c.toNat : Nat) : Int) w
    rw [this]
    have e : ((c.toNat : Nat) : Int).toNat.toUInt8 = c := by simp
    rw [e]
    simp [Result.andThen]
  rw [show (#[x, y] : Array Operand).map (opv f) = #[S s, .int .u8 ((c.toNat : Nat) : Int)] by simp [hx, hy]]
  simpa [Deferred.ofValue, invoke] using h1
instance : Enc UInt8 := ⟨1, fun c => [.int .u8 (c.toNat : Int)], fun _ => rfl, fun _ => rfl, by decide⟩
section
variable {P : Program} {B : Exit → Act → World → Prop} {n : Nat} {k : List Kont} {f : Fr} {w : World}
/-- a condition of which it is known already -/
theorem r_condT {c : Operand} {x y : Code} {p : Prop} [Decidable p] (hc : opv f c = .bool (decide p)) (hp : p) (h : KF P B n (.code x :: k) f w) : KF P B n (.code (.cond c x y) :: k) f w :=
  r_cond_yes (by rw [hc, decide_eq_true hp]) h
theorem r_condF {c : Operand} {x y : Code} {p : Prop} [Decidable p] (hc : opv f c = .bool (decide p)) (hp : ¬ p) (h : KF P B n (.code y :: k) f w) : KF P B n (.code (.cond c x y) :: k) f w :=
  r_cond_no (by rw [hc, decide_eq_false hp]) h
/-- a guarded operation that is wanted -/
theorem r_gyes {ops : Array Oper} {rest : List Oper} {d : Option Nat} {op : Op} {t : TypeId} {pos : String} {aft : Array Edge} {j s : Nat} {b : Bool} {g : Prop} [Decidable g] (hj : (ops[j]?).bind (·.dst) = some s) (hw : Wanted f s b g) (hg : g)
    (h : KL P B n ops k (⟨d, op, t, pos, aft, none⟩ :: rest) f w) : KL P B n ops k (⟨d, op, t, pos, aft, some (j, b)⟩ :: rest) f w := r_guard_yes hj (hw.yes hg) h
end
/-- wrapping changes nothing where the number fits -/
theorem wrap_in {a : Int} (h1 : -9223372036854775808 ≤ a) (h2 : a ≤ 9223372036854775807) : IntKind.i64.wrap a = a := by
  simp only [IntKind.wrap, IntKind.bits, IntKind.signed]
  simp
  omega
end Go.Vc
