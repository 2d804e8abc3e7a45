/-
  Arguments as they are handed in: elements whose cells are integers, however they are nested. Generic over the program.
-/
import Derived.Test.YtkdgoghmkmpfnaaArg
import Derived.Test.YtkdgoghmkmpfnaaEqk
namespace Go.Vc
open Go Go.RowKit Go.IntWalk Go.Deep
def ElemZ (P : Program) (e n : Nat) : Prop :=
  ∀ {H : Type} (enc : TypeId × Value → H) (w : World) (base : Nat) (sp : Nat → Bool) (hd : Bool) (m : Nat) (cs : List Value) (d : DataW H) (pl : List MemPlace), DataW.trod enc P w base sp hd m e cs = some (d, pl) → ∃ l : List Int, l.length = n ∧ cs = zs l
section
variable {P : Program} {e : TypeId}
theorem ElemZ.int (hu : P.underlying e = some (.int .i64)) : ElemZ P e 1 := fun _ _ _ _ _ _ _ _ _ h => by
  obtain ⟨n, h1, _⟩ := DataW.trod_int hu h
  exact ⟨[n], rfl, h1⟩
theorem ElemZ.struct2 {f0 f1 : Field} {n0 n1 : Nat} (ht : P.underlying e = some (.struct #[f0, f1])) (hc : P.cellsOf e = n0 + n1) (o0 : f0.offset = 0) (c0 : P.cellsOf f0.type = n0) (o1 : f1.offset = n0) (c1 : P.cellsOf f1.type = n1)
    (h0 : ElemZ P f0.type n0) (h1 : ElemZ P f1.type n1) : ElemZ P e (n0 + n1) := by
  intro H enc w base sp hd n cs d pl h
  obtain ⟨y0, y1, m, hx, hl, h3, h4⟩ := ChangeShapes.trod_struct2 ht h
  rw [o0, c0] at h3
  rw [o1, c1] at h4
  rw [hc] at hl
  obtain ⟨l0, g0, e0⟩ := h0 enc w base sp hd m _ _ _ h3
  obtain ⟨l1, g1, e1⟩ := h1 enc w base sp hd m _ _ _ h4
  refine ⟨l0 ++ l1, by simp [g0, g1], ?_⟩
  rw [List.drop_zero] at e0
  rw [List.take_of_length_le (by simp; omega)] at e1
  rw [← List.take_append_drop n0 cs, e0, e1]
  simp [zs]
theorem ElemZ.range (h : ElemZ P e 2) : ElemE Range P e := fun enc w base sp hd n cs d pl hr => by
  obtain ⟨l, hl, hc⟩ := h enc w base sp hd n cs d pl hr
  match l, hl with
  | [a, b], _ => exact ⟨⟨a, b⟩, hc⟩
theorem ElemZ.bead (h : ElemZ P e 4) : ElemE Bead P e := fun enc w base sp hd n cs d pl hr => by
  obtain ⟨l, hl, hc⟩ := h enc w base sp hd n cs d pl hr
  match l, hl with
  | [a, b, c, f], _ => exact ⟨⟨a, b, c, f⟩, hc⟩
end
end Go.Vc
