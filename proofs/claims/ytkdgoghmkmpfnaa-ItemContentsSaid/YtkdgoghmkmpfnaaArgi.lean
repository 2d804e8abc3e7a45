/-
  Arguments as they are handed in: strings, items. Generic over the program.
-/
import Derived.Test.YtkdgoghmkmpfnaaArgz
namespace Go.Vc
open Go Go.RowKit Go.IntWalk Go.Deep
theorem okS {v : Value} (h : ∃ s, v = Value.string s) : ∃ s : Str, v = S s := by
  obtain ⟨s, rfl⟩ := h
  exact ⟨s.data.toList, by cases s; rfl⟩
@[reducible] def encSub {α : Type} [Enc α] (Q : α → Prop) : Enc {x : α // Q x} := ⟨Enc.n α, fun x => Enc.enc x.1, fun x => Enc.len x.1, fun x => Enc.one x.1, Enc.pos⟩
/-- a slice of plain elements of which something is known -/
theorem openEQ {α : Type} [Enc α] {Q : α → Prop} {P : Program} {H : Type} {enc : TypeId × Value → H} {w : World} {base : Nat} {sp : Nat → Bool} {hd : Bool} {t e : TypeId} (hu : P.underlying t = some (.slice e)) (hc : P.cellsOf e = Enc.n α) (hb : 1 ≤ P.bytesOf e)
    (hel : ∀ {H : Type} (enc : TypeId × Value → H) (w : World) (base : Nat) (sp : Nat → Bool) (hd : Bool) (n : Nat) (cs : List Value) (d : DataW H) (pl : List MemPlace), DataW.trod enc P w base sp hd n e cs = some (d, pl) → ∃ x : α, cs = Enc.enc x ∧ Q x)
    {fuel : Nat} {ao : Option Addr} {len cap : Nat} {d : DataW H} {pl : List MemPlace}
    (h : DataW.trod enc P w base sp hd fuel t [.slice ao len cap] = some (d, pl)) (hw : ∀ m ∈ d.weights P t, m ≤ reachBytes) : ∃ b off, ∃ l : List α, len = l.length ∧ RowE w ao b off cap l ∧ ∀ x ∈ l, Q x := by
  letI := encSub Q
  obtain ⟨b, off, l, h1, h2⟩ := openE (α := {x : α // Q x}) hu hc hb (fun enc w base sp hd n cs d pl hr => by
    obtain ⟨x, h3, h4⟩ := hel enc w base sp hd n cs d pl hr
    exact ⟨⟨x, h4⟩, h3⟩) h hw
  refine ⟨b, off, l.map (·.1), by simpa using h1, ?_, fun x hx => ?_⟩
  · have e : (l.map (·.1)).map (Enc.enc (α := α)) = l.map (Enc.enc (α := {x : α // Q x})) := by rw [List.map_map]; rfl
    show Row w (Enc.n α) ao b off cap ((l.map (·.1)).map (Enc.enc (α := α)))
    rw [e]; exact h2
  · obtain ⟨y, _, rfl⟩ := List.mem_map.1 hx
    exact y.2
/-- what an element's reading tells of an item: its text is no longer than a string may be -/
theorem elem_item {P : Program} {e : TypeId} {f0 f1 f2 : Field} (ht : P.underlying e = some (.struct #[f0, f1, f2])) (h2 : P.cellsOf e = 3) (o0 : f0.offset = 0) (c0 : P.cellsOf f0.type = 1) (o1 : f1.offset = 1) (c1 : P.cellsOf f1.type = 1) (o2 : f2.offset = 2) (c2 : P.cellsOf f2.type = 1)
    (u0 : P.underlying f0.type = some (.int .i64)) (u1 : P.underlying f1.type = some .string) (u2 : P.underlying f2.type = some (.int .i64)) {H : Type} {enc : TypeId × Value → H} {w : World} {base : Nat} {sp : Nat → Bool} {hd : Bool} {n : Nat} {cs : List Value} {d : DataW H} {pl : List MemPlace}
    (h : DataW.trod enc P w base sp hd n e cs = some (d, pl)) : ∃ x : Item, cs = Enc.enc x ∧ x.text.length ≤ maxLen := by
  obtain ⟨xs, m, _, _, hl, hlen, hf⟩ := DataW.trod_struct ht h
  match xs, hlen with
  | [y0, y1, y2], _ =>
    have h3 := hf 0 f0 rfl
    have h4 := hf 1 f1 rfl
    have h5 := hf 2 f2 rfl
    rw [o0, c0] at h3
    rw [o1, c1] at h4
    rw [o2, c2] at h5
    rw [h2] at hl
    match cs, hl with
    | [v0, v1, v2], _ =>
      obtain ⟨k, e0, _⟩ := DataW.trod_int u0 (by simpa using h3)
      obtain ⟨s, e1, _, e1b⟩ := DataW.trod_string u1 (by simpa using h4)
      obtain ⟨i, e2, _⟩ := DataW.trod_int u2 (by simpa using h5)
      simp only [List.cons.injEq, and_true] at e0 e1 e2
      subst e0; subst e1; subst e2
      refine ⟨⟨k, s.data.toList, i⟩, by cases s; rfl, ?_⟩
      simpa using e1b
end Go.Vc
