/-
  Grams: pairs of words with a count, and how they are ordered. Plain, but for their cells.
-/
import Derived.Test.YtomklacppmaljaaSrk
import Derived.Test.YtomklacppmaljaaEqe
import Derived.Test.YtomklacppmaljaaPu
namespace Go.Vc
open Go Go.RowKit Go.IntWalk Go.Proofs
section
variable {P : Program} {f : Fr} {w : World} {o : Oper}
theorem run_sgtrD {t t2 : TypeId} {x y : Operand} {a b : List UInt8} (ho : o.op = .binOp .gtr t x y t2) (hx : opv f x = S a) (hy : opv f y = S b) :
    (execOp (opv f) o).run P w = .ok (.value (.bool (decide (¬ (blt a b || a == b) = true)))) w := run_binS ho hx hy (by
  simp only [Op.stringOp, toList_S, blt, Sem.run_pure]
  congr 2
  rw [Bool.eq_iff_iff]; simp)
end
def cmpS (a b : Str) : Int := if a < b then -1 else if b < a then 1 else 0
def orI (a b : Int) : Int := if ¬ a = 0 then a else b
def cmpG (x y : Gram) : Int := orI (cmpS x.fst y.fst) (cmpS x.snd y.snd)
theorem slt_irrefl (a : Str) : ¬ a < a := List.lt_irrefl a
theorem slt_trans {a b c : Str} (h : a < b) (h2 : b < c) : a < c := List.lt_trans h h2
theorem slt_asymm {a b : Str} (h : a < b) : ¬ b < a := List.lt_asymm h
theorem slt_tri {a b : Str} (h : ¬ a < b) (h2 : ¬ b < a) : a = b := List.le_antisymm (List.not_lt.1 h2) (List.not_lt.1 h)
/-- the order of pairs -/
def ltP (x y : Str × Str) : Prop := x.1 < y.1 ∨ (x.1 = y.1 ∧ x.2 < y.2)
instance (x y : Str × Str) : Decidable (ltP x y) := by unfold ltP; infer_instance
def prG (x : Gram) : Str × Str := (x.fst, x.snd)
theorem ltP_irrefl (x : Str × Str) : ¬ ltP x x := fun h => by rcases h with h | h; exact slt_irrefl _ h; exact slt_irrefl _ h.2
theorem ltP_trans {x y z : Str × Str} (h : ltP x y) (h2 : ltP y z) : ltP x z := by
  rcases h with h | ⟨h, h'⟩ <;> rcases h2 with h2 | ⟨h2, h2'⟩
  · exact .inl (slt_trans h h2)
  · exact .inl (h2 ▸ h)
  · exact .inl (h ▸ h2)
  · exact .inr ⟨h.trans h2, slt_trans h' h2'⟩
theorem ltP_tri {x y : Str × Str} (h : ¬ ltP x y) (h2 : ¬ ltP y x) : x = y := by
  have e1 : x.1 = y.1 := slt_tri (fun q => h (.inl q)) (fun q => h2 (.inl q))
  have e2 : x.2 = y.2 := slt_tri (fun q => h (.inr ⟨e1, q⟩)) (fun q => h2 (.inr ⟨e1.symm, q⟩))
  exact Prod.ext e1 e2
theorem cmpS_neg {a b : Str} : cmpS a b < 0 ↔ a < b := by
  unfold cmpS
  by_cases h : a < b
  · simp [h]
  · by_cases h2 : b < a <;> simp [h, h2]
theorem cmpS_zero {a b : Str} : cmpS a b = 0 ↔ a = b := by
  unfold cmpS
  by_cases h : a < b
  · simp [h]; intro e; exact slt_irrefl _ (e ▸ h)
  · by_cases h2 : b < a
    · simp [h, h2]; intro e; exact slt_irrefl _ (e ▸ h2)
    · simp [h, h2]; exact slt_tri h h2
theorem cmpG_neg {x y : Gram} : cmpG x y < 0 ↔ ltP (prG x) (prG y) := by
  unfold cmpG orI ltP prG
  by_cases h : cmpS x.fst y.fst = 0
  · rw [if_neg (by simpa using h), cmpS_neg]
    have e := cmpS_zero.1 h
    constructor
    · exact fun h2 => .inr ⟨e, h2⟩
    · rintro (h2 | h2)
      · exact absurd (e ▸ h2) (slt_irrefl _)
      · exact h2.2
  · rw [if_pos h, cmpS_neg]
    constructor
    · exact fun h2 => .inl h2
    · rintro (h2 | h2)
      · exact h2
      · exact absurd (cmpS_zero.2 h2.1) h
theorem ltOf_G (x y : Gram) : ltOf cmpG x y = decide (ltP (prG x) (prG y)) := by unfold ltOf; exact decide_eq_decide.2 cmpG_neg
theorem swo_G : Go.Sort.SWO (ltOf cmpG) where
  irrefl x := by rw [ltOf_G]; simpa using ltP_irrefl _
  trans x y z h1 h2 := by rw [ltOf_G] at *; simp only [decide_eq_true_eq] at *; exact ltP_trans h1 h2
  ntrans x y z h1 h2 := by
    rw [ltOf_G] at *
    simp only [decide_eq_false_iff_not] at *
    intro h3
    by_cases h4 : ltP (prG y) (prG x)
    · exact h2 (ltP_trans h4 h3)
    · have e := ltP_tri h1 h4
      rw [e] at h3; exact h2 h3
end Go.Vc
