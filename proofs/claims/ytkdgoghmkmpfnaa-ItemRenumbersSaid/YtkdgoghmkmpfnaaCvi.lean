/-
  Integers of another kind; bytes that were made. Generic over the program.
-/
import Derived.Test.YtkdgoghmkmpfnaaApp
import Derived.Laws.Bits64
namespace Go.Vc
open Go Go.RowKit Go.IntWalk
theorem run_cvInt {P : Program} {f : Fr} {w : World} {o : Oper} {T U : TypeId} {k k' : IntKind} {x : Operand} {a : Int} (ho : o.op = .convert T U x) (hT : P.underlying T = some (.int k)) (hU : P.underlying U = some (.int k')) (hx : opv f x = .int k a) :
    (execOp (opv f) o).run P w = .ok (.value (.int k' (k'.wrap a))) w := by
  unfold execOp; rw [ho]; simp only []; rw [hx]
  have hk : P.intKind U = k' := by simp [Program.intKind, hU]
  have := run_convert_int (P := P) w T U k a (by rw [hT]; rfl) (by rw [hk]; exact hU)
  rw [hk] at this
  simp [this]
theorem fb_bytes {w : World} {b E len : Nat} (h : FB w b E 1 len (fun _ => [.int .u8 0])) (hl : len ≤ 140737488355328) : RowE w (some ⟨b, 0, none⟩) b 0 len (List.replicate len (0 : UInt8)) := by
  refine ⟨⟨by simp, by simpa using hl⟩, fun _ => rfl, fun i cs hi => ?_⟩
  have hil : i < len := by
    rcases Nat.lt_or_ge i len with h1 | h1
    · exact h1
    · rw [List.getElem?_eq_none (by simpa using h1)] at hi; cases hi
  simp [hil] at hi
  subst hi
  refine ⟨rfl, fun j v hj => ?_⟩
  have hj0 : j = 0 := by
    rcases Nat.eq_zero_or_pos j with h1 | h1
    · exact h1
    · rw [List.getElem?_eq_none (by show 1 ≤ j; exact h1)] at hj; cases hj
  subst hj0
  have := h.cell (x := i) (j := 0) hil (by decide) (v := .int .u8 0) rfl
  have e : v = .int .u8 0 := by
    have : (some (Value.int .u8 (((0 : UInt8).toNat : Nat) : Int))) = some v := hj
    injection this with this
    rw [← this]; rfl
  rw [e]
  have e2 : (off0 : Nat) → off0 + i * Enc.n UInt8 + 0 = off0 + i := fun o => by show o + i * 1 + 0 = o + i; omega
  rw [e2]
  simpa using this
/-- a block of flat values as a row -/
theorem fb_row {α : Type} [Enc α] [Inhabited α] {w : World} {b E len : Nat} {c : Nat → List Value} (l : List α) (h : FB w b E (Enc.n α) len c) (hlen : l.length = len) (hl : len ≤ 140737488355328) (hc : ∀ i, i < len → c i = Enc.enc (l.getD i default)) : RowE w (some ⟨b, 0, none⟩) b 0 len l := by
  refine ⟨⟨by simp [hlen], by simpa [hlen] using hl⟩, fun _ => rfl, fun i cs hi => ?_⟩
  have hil : i < len := by
    rcases Nat.lt_or_ge i len with h1 | h1
    · exact h1
    · rw [List.getElem?_eq_none (by simp [hlen]; omega)] at hi; cases hi
  have e : l.getD i default = l[i]'(by omega) := by simp [List.getD, hlen, hil]
  have e2 : cs = Enc.enc (l.getD i default) := by
    rw [List.getElem?_map, List.getElem?_eq_getElem (by omega : i < l.length)] at hi
    injection hi with hi
    rw [e, ← hi]
  subst e2
  refine ⟨Enc.len _, fun j v hj => ?_⟩
  have hjn : j < Enc.n α := by
    rcases Nat.lt_or_ge j (Enc.n α) with h1 | h1
    · exact h1
    · rw [List.getElem?_eq_none (by rw [Enc.len]; exact h1)] at hj; cases hj
  have := h.cell (x := i) (j := j) hil hjn (v := v) (by rw [hc i hil]; exact hj)
  exact this
theorem row_keep {α : Type} [Enc α] {w w' : World} {ao : Option Addr} {b off cap : Nat} {l : List α} {X : List Nat} (h : RowE w ao b off cap l) (he : Evo w w' X) (hn : l ≠ [] → b ∉ X) : RowE w' ao b off cap l := by
  by_cases hl : l = []
  · subst hl; exact ⟨h.1, by simp, by simp⟩
  · exact h.evo he (hn hl)
end Go.Vc
