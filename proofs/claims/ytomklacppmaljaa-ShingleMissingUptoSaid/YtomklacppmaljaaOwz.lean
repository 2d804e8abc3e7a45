/-
  A slice of our own, cut at its end, empty or not. Generic over the program.
-/
import Derived.Test.YtomklacppmaljaaLb
namespace Go.Vc
open Go Go.RowKit Go.IntWalk
theorem r_cutOwn0 {α : Type} [Enc α] {w : World} {base : Nat} {E : TypeId} {v : Value} {l : List α} {P : Program} {B : Exit → Act → World → Prop} {n : Nat} {k : List Kont} {f : Fr} {ops : Array Oper} {rest : List Oper} {T d m bb : Nat} {z : Option Value} {t : TypeId} {pos : String} {aft : Array Edge} {x hi : Operand} (j : Nat)
    (hd : Nat.blt d n = true) (hu : P.underlying T = some (.slice E)) (ht : tyP P E = some (m, bb, z)) (hown : OwnE w base E v l) (hx : opv f x = v) (hhi : ∃ κ, opv f hi = .int κ (j : Int)) (hj : j ≤ l.length)
    (h : ∀ v', OwnE w base E v' (l.take j) → v'.ownBlock = v.ownBlock → KL P B n ops k rest (upd f d v') w) :
    KL P B n ops k (⟨some d, .slice T x none (some hi) none, t, pos, aft, none⟩ :: rest) f w := by
  rcases Nat.eq_zero_or_pos l.length with hz | hp
  · have hl : l = [] := List.eq_nil_of_length_eq_zero hz
    subst hl
    rcases hown.form with ⟨hv, _⟩ | ⟨g, cap, rfl, h3, h4, h5, h6⟩
    · obtain ⟨κ, hκ⟩ := hhi
      have hj0 : j = 0 := by simpa using hj
      subst hj0
      subst hv
      have hrun : ∀ o : Oper, o.op = .slice T x none (some hi) none → (execOp (opv f) o).run P w = .ok (.value (.slice none 0 0)) w := fun o ho => by
        rw [run_sl (w := w) 0 0 ho hu ht hx (.inl ⟨rfl, rfl⟩) (.inr ⟨κ, by simp [hκ]⟩) (by omega) (by omega)]; rfl
      exact r_op rfl rfl hd (hrun _ rfl) (h _ hown rfl)
    · obtain ⟨κ, hκ⟩ := hhi
      have hj0 : j = 0 := by simpa using hj
      subst hj0
      have hrun : ∀ o : Oper, o.op = .slice T x none (some hi) none → (execOp (opv f) o).run P w = .ok (.value (.slice (some ⟨g, 0, none⟩) 0 cap)) w := fun o ho => by
        rw [run_sl (w := w) 0 0 ho hu ht hx (.inl ⟨rfl, rfl⟩) (.inr ⟨κ, by simp [hκ]⟩) (by omega) (by omega)]
        by_cases hc : cap = 0
        · simp [hc]
        · have hc' : ¬ (0 : Nat) = cap := fun e => hc e.symm
          simp [hc, Addr.add]
      exact r_op rfl rfl hd (hrun _ rfl) (h _ hown rfl)
  · exact r_cutOwn j hd hu ht hown hx hhi hj hp h
end Go.Vc
