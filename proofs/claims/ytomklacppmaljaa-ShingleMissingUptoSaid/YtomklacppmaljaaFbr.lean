/-
  A block of elements made alike, as a row of values with memory behind them. Generic over the program.
-/
import Derived.Test.YtomklacppmaljaaLb
namespace Go.Vc
open Go Go.RowKit Go.IntWalk
theorem fb_rowR {α : Type} [Rep α] {w : World} {b E len : Nat} {zs : List Value} {x : α} (h : FB w b E (Rep.n α) len (fun _ => zs)) (hz : ∀ w' : World, Rep.rep w' zs x) (hl : len ≤ 140737488355328) : RowR w (some ⟨b, 0, none⟩) b 0 len (List.replicate len x) := by
  have hzl : zs.length = Rep.n α := Rep.len (hz w)
  refine ⟨List.replicate len zs, ⟨⟨by simp, by simpa using hl⟩, fun _ => rfl, fun i cs hi => ?_⟩, by simp, fun i cs y h1 h2 => ?_⟩
  · have hil : i < len := by
      rcases Nat.lt_or_ge i len with h1 | h1
      · exact h1
      · rw [List.getElem?_eq_none (by simpa using h1)] at hi; cases hi
    simp [hil] at hi
    subst hi
    refine ⟨hzl, fun j v hj => ?_⟩
    have hjn : j < Rep.n α := by
      rcases Nat.lt_or_ge j (Rep.n α) with h1 | h1
      · exact h1
      · rw [List.getElem?_eq_none (by rw [hzl]; exact h1)] at hj; cases hj
    have := h.cell (x := i) (j := j) hil hjn (v := v) hj
    simpa using this
  · have hil : i < len := by
      rcases Nat.lt_or_ge i len with h3 | h3
      · exact h3
      · rw [List.getElem?_eq_none (by simpa using h3)] at h1; cases h1
    simp [hil] at h1 h2
    subst h1; subst h2
    exact hz w
/-- one of two rows, by its number -/
theorem pair2 {α : Type} [Rep α] {Q : List α → Prop} {w : World} {ao1 ao2 : Option Addr} {b1 b2 o1 o2 c1 c2 : Nat} {l1 l2 : List α} (h1 : RowR w ao1 b1 o1 c1 l1) (h2 : RowR w ao2 b2 o2 c2 l2) (q1 : Q l1) (q2 : Q l2) (x : Nat) (hx : x < 2) :
    ∃ ao b o c, ∃ l : List α, ([.slice ao1 l1.length c1, .slice ao2 l2.length c2] : List Value)[x]? = some (.slice ao l.length c) ∧ RowR w ao b o c l ∧ Q l := by
  match x, hx with
  | 0, _ => exact ⟨_, _, _, _, l1, rfl, h1, q1⟩
  | 1, _ => exact ⟨_, _, _, _, l2, rfl, h2, q2⟩
/-- a literal of one value with memory behind it, as a row that stays while 'E' is written -/
theorem rowLitRK {α : Type} [Rep α] {w : World} {b : Nat} {T : TypeId} {cs : List Value} {x : α} (E : List Nat) (h : Blk w b T cs) (hb : b ∉ E) (hr : ∀ w', Evo w w' E → Rep.rep w' cs x) : RowRK w E (some ⟨b, 0, none⟩) b 0 1 [x] := by
  refine ⟨[cs], fun w' he => ⟨⟨by simp, fun _ => rfl, fun i c hi => ?_⟩, RepL.one (hr w' he)⟩⟩
  cases i with
  | zero =>
    simp at hi; subst hi
    refine ⟨Rep.len (hr w' he), ?_⟩
    have := (h.evo he hb).at
    simpa using this
  | succ i => simp at hi
end Go.Vc
