/-
  Closures: function values with what they have captured; calls of them. Generic over the program.
-/
import Derived.Test.YtomklacppmaljaaLb
namespace Go.Vc
open Go Go.RowKit Go.IntWalk
section
variable {P : Program} {f : Fr} {w : World} {o : Oper}
theorem run_mkF {g : FuncId} {xs : List Operand} {vs : List Value} (ho : o.op = .makeFunc (.func g) #[] xs.toArray) (hvs : xs.map (opv f) = vs) : (execOp (opv f) o).run P w = .ok (.value (.func (.func g) #[] vs.toArray)) w := by
  unfold execOp; rw [ho]; simp only []
  rw [show xs.toArray.map (opv f) = vs.toArray from by rw [← hvs]; simp]
  simp [Instr.makeFunc]
theorem run_callfn {g : FuncId} {F : Operand} {args : List Operand} {ts : Array TypeId} {vs cs : List Value} {fn : Func} {c : Code} (ho : o.op = .call ⟨.value F, args.toArray, ts⟩) (hF : opv f F = .func (.func g) #[] cs.toArray) (hvs : args.map (opv f) = vs)
    (hf : P.funcs[g]? = some fn) (hb : fn.body = some c) (hn : (fn.name == "runtime.NumGoroutine") = false) : (execOp (opv f) o).run P w = .ok (.enter g (vs ++ cs).toArray) w := by
  unfold execOp; rw [ho]; simp only [resolve]
  rw [show args.toArray.map (opv f) = vs.toArray from by rw [← hvs]; simp, hF]
  have hn' : ¬ fn.name = "runtime.NumGoroutine" := by simpa using hn
  simp [Deferred.ofValue, invoke, callFunc, hf, hb, hn']
end
section
variable {α β : Type} {P : Program} {B : Exit → Act → World → Prop} {n : Nat} {k : List Kont} {f : Fr} {w : World} {ops : Array Oper} {rest : List Oper} {K E : TypeId} {ek : α → Value} {ev : β → Value} {m : List (α × β)} {b : Nat}
/-- an entry of a map literal -/
theorem r_mapins [DecidableEq α] (L : KeyLaw P K ek) {T : TypeId} {t : TypeId} {pos : String} {aft : Array Edge} {x y z : Operand} {a : α} {v : β} (hu : P.underlying T = some (.map K E)) (hx : opv f x = .map (some b)) (hy : opv f y = ek a) (hz : opv f z = ev v)
    (h : MapIs w b ek ev m) (h2 : ∀ w', Evo w w' [b] → w'.heap.size = w.heap.size → MapIs w' b ek ev (setM m a v) → KL P B n ops k rest f w') :
    KL P B n ops k (⟨none, .insert T x y z, t, pos, aft, none⟩ :: rest) f w := by
  obtain ⟨w', hr, he, hs, hm⟩ := run_mapset L hu a v h
  refine r_op0 (w' := w') rfl rfl ?_ (h2 w' he hs hm)
  simp [execOp, hx, hy, hz, hr]
end
end Go.Vc
