/-
  Arrays: elements of a variable, elements of a value, a result in a cell. Generic over the program.
-/
import Derived.Test.YtkdgoghmkmpfnaaFb
import Derived.Test.YtkdgoghmkmpfnaaEql
namespace Go.Vc
open Go Go.RowKit Go.IntWalk

section
variable {P : Program} {f : Fr} {w : World} {o : Oper}
/-- the address of an element of an array variable -/
theorem run_ixP {T E : TypeId} {x y : Operand} {b off len m bb : Nat} {z : Option Value} {κ : IntKind} {i : Int} (j : Nat) (ho : o.op = .indexAddr T x y) (hu : P.underlying T = some (.array len E))
    (ht : tyP P E = some (m, bb, z)) (hx : opv f x = .pointer (some ⟨b, off, none⟩)) (hy : opv f y = .int κ i) (hij : i = (j : Int)) (hlt : j < len) :
    (execOp (opv f) o).run P w = .ok (.value (.pointer (some ⟨b, off + j * m, none⟩))) w := by
  subst hij
  unfold execOp; rw [ho]; simp only []; rw [hx, hy]
  have h1 : (0 : Int) ≤ (j : Int) ∧ (j : Int) < (len : Int) := by omega
  simp [Instr.indexAt, run_underlying hu, asIntOf, run_sizeOf ht, h1, add_lit, Instr.sureAddr]
  intro h2
  omega
/-- an element of an array value: more than one cell -/
theorem run_ixAg {T E : TypeId} {x y : Operand} {len m bb : Nat} {z : Option Value} {κ : IntKind} {i : Int} {cs ds : List Value} (j : Nat) (ho : o.op = .index T x y) (hu : P.underlying T = some (.array len E))
    (ht : tyP P E = some (m, bb, z)) (ha : aggP P E = some true) (hx : opv f x = .agg cs.toArray) (hy : opv f y = .int κ i) (hij : i = (j : Int)) (hlt : j < len) (hd : (cs.drop (j * m)).take m = ds) :
    (execOp (opv f) o).run P w = .ok (.value (.agg ds.toArray)) w := by
  subst hij
  unfold execOp; rw [ho]; simp only []; rw [hx, hy]
  have h1 : (0 : Int) ≤ (j : Int) ∧ (j : Int) < (len : Int) := by omega
  simp [Instr.index, run_underlying hu, asIntOf, run_sizeOf ht, h1, part, run_isAgg ha, ← hd]
  intro h2
  omega
theorem run_ixA1 {T E : TypeId} {x y : Operand} {len bb : Nat} {z : Option Value} {κ : IntKind} {i : Int} {cs : List Value} {v : Value} (j : Nat) (ho : o.op = .index T x y) (hu : P.underlying T = some (.array len E))
    (ht : tyP P E = some (1, bb, z)) (ha : aggP P E = some false) (hx : opv f x = .agg cs.toArray) (hy : opv f y = .int κ i) (hij : i = (j : Int)) (hlt : j < len) (hd : cs[j]? = some v) :
    (execOp (opv f) o).run P w = .ok (.value v) w := by
  subst hij
  unfold execOp; rw [ho]; simp only []; rw [hx, hy]
  have h1 : (0 : Int) ≤ (j : Int) ∧ (j : Int) < (len : Int) := by omega
  simp [Instr.index, run_underlying hu, asIntOf, run_sizeOf ht, h1, part, run_isAgg ha, hd]
  intro h2
  omega
end
section
variable {P : Program} {fn : Func} {n : Nat} {f : Fr} {w : World}
theorem resC1 {s : Nat} {T : TypeId} {b : Nat} {m bb : Nat} {z : Option Value} {cs : List Value} (h : fn.results = #[.cell s T]) (ha : aggP P T = some true) (ht : tyP P T = some (m, bb, z)) (hs : f s = .pointer (some ⟨b, 0, none⟩)) (hn : cs.length = m) (hc : At w b 0 cs) :
    ∀ a, Is n f a → (results fn a.tmps).run P w = .ok (.agg cs.toArray) w := fun a hi => by
  have h1 := run_loadN (P := P) (w := w) ha ht hn hc
  have h2 : (loadVar T ⟨b, 0, none⟩).run P w = .ok (.agg cs.toArray) w := by
    simpa [Instr.loadAt, Instr.sureAddr] using h1
  simp [results, h, hi.get, hs, asAddr, h2]
theorem resC1v {s : Nat} {T : TypeId} {b : Nat} {v : Value} (h : fn.results = #[.cell s T]) (ha : aggP P T = some false) (hs : f s = .pointer (some ⟨b, 0, none⟩)) (hc : w.cell? ⟨b, 0, none⟩ = some v) :
    ∀ a, Is n f a → (results fn a.tmps).run P w = .ok v w := fun a hi => by
  have h1 := run_load1 (P := P) ha hc
  have h2 : (loadVar T ⟨b, 0, none⟩).run P w = .ok v w := by
    simpa [Instr.loadAt, Instr.sureAddr] using h1
  simp [results, h, hi.get, hs, asAddr, h2]
end
section
variable {P : Program} {f : Fr} {w : World} {o : Oper}
theorem run_slssD {t t2 : TypeId} {x y : Operand} {a b : List UInt8} (ho : o.op = .binOp .lss t x y t2) (hx : opv f x = S a) (hy : opv f y = S b) :
    (execOp (opv f) o).run P w = .ok (.value (.bool (decide (blt a b = true)))) w := by
  rw [Bool.decide_eq_true]; exact run_slss ho hx hy
theorem run_sleqD {t t2 : TypeId} {x y : Operand} {a b : List UInt8} (ho : o.op = .binOp .leq t x y t2) (hx : opv f x = S a) (hy : opv f y = S b) :
    (execOp (opv f) o).run P w = .ok (.value (.bool (decide ((blt a b || a == b) = true)))) w := by
  rw [Bool.decide_eq_true]; exact run_sleq ho hx hy
end
section
variable {P : Program} {f : Fr} {w : World} {o : Oper}
theorem run_slE0 {α : Type} [Enc α] {l : List α} {T E m bb : Nat} {z : Option Value} {x : Operand} {ao : Option Addr} {b off cap : Nat} {lo : Option Operand} (i : Nat) (ho : o.op = .slice T x lo none none) (hu : P.underlying T = some (.slice E))
    (ht : tyP P E = some (m, bb, z)) (hmn : m = Enc.n α) (hx : opv f x = .slice ao l.length cap) (hr : RowE w ao b off cap l) (hlo : (lo.map (opv f) = none ∧ i = 0) ∨ ∃ κ, lo.map (opv f) = some (.int κ (i : Int))) (h1 : i ≤ l.length) :
    (execOp (opv f) o).run P w = .ok (.value (.slice (if cap = i then ao else ao.map (·.add (i * Enc.n α))) (l.drop i).length (cap - i))) w := by
  have := run_sl (P := P) (w := w) (f := f) (o := o) i l.length ho hu ht hx hlo hi0 h1 hr.le
  rw [List.length_drop, ← hmn]
  exact this
theorem run_slR0 {α : Type} [Rep α] {l : List α} {T E m bb : Nat} {z : Option Value} {x : Operand} {ao : Option Addr} {b off cap : Nat} {lo : Option Operand} (i : Nat) (ho : o.op = .slice T x lo none none) (hu : P.underlying T = some (.slice E))
    (ht : tyP P E = some (m, bb, z)) (hmn : m = Rep.n α) (hx : opv f x = .slice ao l.length cap) (hr : RowR w ao b off cap l) (hlo : (lo.map (opv f) = none ∧ i = 0) ∨ ∃ κ, lo.map (opv f) = some (.int κ (i : Int))) (h1 : i ≤ l.length) :
    (execOp (opv f) o).run P w = .ok (.value (.slice (if cap = i then ao else ao.map (·.add (i * Rep.n α))) (l.drop i).length (cap - i))) w := by
  have := run_sl (P := P) (w := w) (f := f) (o := o) i l.length ho hu ht hx hlo hi0 h1 hr.le
  rw [List.length_drop, ← hmn]
  exact this
end
theorem run_mvb {P : Program} {f : Fr} {w : World} {o : Oper} {x : Operand} {b : Bool} (ho : o.op = .move x) (hx : opv f x = .bool b) : (execOp (opv f) o).run P w = .ok (.value (.bool (decide (b = true)))) w := by
  rw [Bool.decide_eq_true]; exact run_mv ho hx
/-- a guarded call whose answer is a truth of which something is known -/
theorem r_gcallB {P : Program} {B : Exit → Act → World → Prop} {n : Nat} {k : List Kont} {f : Fr} {w : World} {ops : Array Oper} {rest : List Oper} {d : Nat} {op : Op} {t : TypeId} {pos : String} {aft : Array Edge} {j s : Nat} {b : Bool} {g : Prop} [Decidable g] {F : FuncId} {args : Array Value} {Φ : Bool → Prop}
    (hj : (ops[j]?).bind (·.dst) = some s) (hw : Wanted f s b g) (hd : Nat.blt d n = true) (hrun : g → (execOp (opv f) ⟨some d, op, t, pos, aft, none⟩).run P w = .ok (.enter F args) w)
    (hc : g → Calls P F args w fun e w' => ∃ x, e = .returned (.bool x) ∧ Φ x ∧ Evo w w' [])
    (h : ∀ x w', (g → Φ x) → Evo w w' [] → KL P B n ops k rest (upd f d (gv g (.bool (decide (x = true))))) w') : KL P B n ops k (⟨some d, op, t, pos, aft, some (j, b)⟩ :: rest) f w := by
  intro a ha
  have hwa := wanted_of ha hj hw
  by_cases hg : g
  · unfold wpList
    rw [if_pos (by simp only [Region.wanted]; exact hwa.1 hg)]
    refine .inl ?_
    unfold Oper.wp
    have e : execOp (opv f) ⟨some d, op, t, pos, aft, some (j, b)⟩ = execOp (opv f) ⟨some d, op, t, pos, aft, none⟩ := rfl
    rw [ha.eval, e, hrun hg]
    simp only [Oper.upon]
    refine (hc hg).mono fun e w' ⟨x, h1, hx, h2⟩ => ?_
    subst h1
    have h3 := h x w' (fun _ => hx) h2 _ (ha.put hd (gv g (.bool (decide (x = true)))))
    rw [gv_yes hg, Bool.decide_eq_true] at h3
    exact h3
  · unfold wpList
    rw [if_neg (by simp only [Region.wanted]; rw [hwa.2 hg]; simp)]
    have h3 := h true w (fun h => absurd h hg) (Evo.refl _ _) _ (ha.put hd (gv g (.bool (decide (true = true)))))
    rw [gv_no hg] at h3
    exact h3
theorem run_bneq {P : Program} {f : Fr} {w : World} {o : Oper} {t t2 : TypeId} {x y : Operand} {p q : Prop} [Decidable p] [Decidable q] (ho : o.op = .binOp .neq t x y t2) (hu : P.underlying t = some .bool) (hx : opv f x = .bool (decide p)) (hy : opv f y = .bool (decide q)) :
    (execOp (opv f) o).run P w = .ok (.value (.bool (decide (¬ (p ↔ q))))) w := by
  have e : (decide (¬ (p ↔ q)) : Bool) = !(decide p == decide q) := by by_cases hp : p <;> by_cases hq : q <;> simp [hp, hq]
  rw [e]
  unfold execOp; rw [ho]; simp only []; rw [hx, hy]
  have h2 : (Op.equal t (.bool (decide p)) (.bool (decide q))).run P w = .ok (decide p == decide q) w := run_equalIn_bool w 9999 t _ _ hu
  simp [binOp, eqGuard, h2]
theorem run_beql {P : Program} {f : Fr} {w : World} {o : Oper} {t t2 : TypeId} {x y : Operand} {p q : Prop} [Decidable p] [Decidable q] (ho : o.op = .binOp .eql t x y t2) (hu : P.underlying t = some .bool) (hx : opv f x = .bool (decide p)) (hy : opv f y = .bool (decide q)) :
    (execOp (opv f) o).run P w = .ok (.value (.bool (decide (p ↔ q)))) w := by
  have e : (decide (p ↔ q) : Bool) = (decide p == decide q) := by by_cases hp : p <;> by_cases hq : q <;> simp [hp, hq]
  rw [e]
  unfold execOp; rw [ho]; simp only []; rw [hx, hy]
  have h2 : (Op.equal t (.bool (decide p)) (.bool (decide q))).run P w = .ok (decide p == decide q) w := run_equalIn_bool w 9999 t _ _ hu
  simp [binOp, eqGuard, h2]
end Go.Vc
