/-
  A slice of our own, cut at its end. Generic over the program.
-/
import Derived.Test.YtkdgoghmkmpfnaaOwn
namespace Go.Vc
open Go Go.RowKit Go.IntWalk
theorem Own.cut {w : World} {base : Nat} {E : TypeId} {m : Nat} {css : List (List Value)} {g cap : Nat} (h : Own w base E m (.slice (some ⟨g, 0, none⟩) css.length cap) css) {k : Nat} (hk : k ≤ css.length) :
    Own w base E m (.slice (some ⟨g, 0, none⟩) k cap) (css.take k) := by
  have hl : (css.take k).length = k := by rw [List.length_take]; omega
  have hf : ∀ (l : List (List Value)), (∀ cs ∈ l, cs.length = m) → ∀ k, k ≤ l.length → (l.take k).flatten = l.flatten.take (k * m) := fun l => by
    induction l with
    | nil => intro _ k hk; simp
    | cons c l ih =>
      intro hm k hk
      cases k with
      | zero => simp
      | succ k =>
        have hc : c.length = m := hm c (by simp)
        rw [List.take_succ_cons, List.flatten_cons, List.flatten_cons, ih (fun x hx => hm x (by simp [hx])) k (by simpa using hk), List.take_append, List.take_of_length_le (l := c) (by rw [hc, Nat.add_mul]; omega), hc]
        congr 2
        rw [Nat.add_mul]; omega
  refine ⟨⟨?_, .inr ?_⟩, fun cs hcs => h.each cs (List.mem_of_mem_take hcs), by have := h.bd; omega⟩
  · rw [flatten_length _ m (fun cs hcs => h.each cs (List.mem_of_mem_take hcs))]
  · rcases h.row.2 with ⟨hv, _⟩ | ⟨g', cap', cur, hv, hb, hg, hn, hc, hs, ht⟩
    · cases hv
    · simp only [Value.slice.injEq, Option.some.injEq, Addr.mk.injEq, and_true] at hv
      obtain ⟨rfl, _, rfl⟩ := hv
      refine ⟨g, cap, cur, by rw [hl], hb, hg, by omega, hc, hs, ?_⟩
      rw [hf css h.each k hk, ← ht, List.take_take, hl]
      congr 1
      exact (Nat.min_eq_left (Nat.mul_le_mul_right m hk)).symm
section
variable {α : Type} [Enc α] {w : World} {base : Nat} {E : TypeId} {v : Value} {l : List α}
/-- 'x[:k]' of a slice of our own that is not empty -/
theorem r_cutOwn {P : Program} {B : Exit → Act → World → Prop} {n : Nat} {k : List Kont} {f : Fr} {ops : Array Oper} {rest : List Oper} {T d m bb : Nat} {z : Option Value} {t : TypeId} {pos : String} {aft : Array Edge} {x hi : Operand} (j : Nat)
    (hd : Nat.blt d n = true) (hu : P.underlying T = some (.slice E)) (ht : tyP P E = some (m, bb, z)) (hown : OwnE w base E v l) (hx : opv f x = v) (hhi : ∃ κ, opv f hi = .int κ (j : Int)) (hj : j ≤ l.length) (hne : 0 < l.length)
    (h : ∀ v', OwnE w base E v' (l.take j) → v'.ownBlock = v.ownBlock → KL P B n ops k rest (upd f d v') w) :
    KL P B n ops k (⟨some d, .slice T x none (some hi) none, t, pos, aft, none⟩ :: rest) f w := by
  rcases hown.form with ⟨_, h2⟩ | ⟨g, cap, rfl, h3, h4, h5, h6⟩
  · subst h2; simp at hne
  · obtain ⟨κ, hκ⟩ := hhi
    have hrun : ∀ o : Oper, o.op = .slice T x none (some hi) none → (execOp (opv f) o).run P w = .ok (.value (.slice (some ⟨g, 0, none⟩) j cap)) w := fun o ho => by
      rw [run_sl (w := w) 0 j ho hu ht hx (.inl ⟨rfl, rfl⟩) (.inr ⟨κ, by simp [hκ]⟩) (by omega) (by omega)]
      by_cases hc : cap = 0
      · simp [hc]
      · have hc' : ¬ (0 : Nat) = cap := fun e => hc e.symm
        simp [hc, Addr.add]
    refine r_op rfl rfl hd (hrun _ rfl) (h _ ?_ rfl)
    have h8 : Own w base E (Enc.n α) (.slice (some ⟨g, 0, none⟩) (l.map Enc.enc).length cap) (l.map Enc.enc) := by simpa [OwnE] using hown
    have h7 := h8.cut (k := j) (by simpa using hj)
    unfold OwnE
    rw [List.map_take]
    exact h7
end
theorem hi1 {v : Value} {κ : IntKind} {a : Int} {j : Nat} (h : v = .int κ a) (e : a = (j : Int)) : ∃ κ, v = .int κ (j : Int) := ⟨κ, by rw [h, e]⟩
theorem evo_steps {w0 w w' : World} {X Y : List Nat} (h : Evo w0 w X) (he : Evo w w' Y) (hb : ∀ g ∈ Y, w0.heap.size ≤ g ∨ g ∈ X) : Evo w0 w' X := h.trans he (fun x hx hlt => by
  rcases hb x hx with hb | hb
  · omega
  · exact hb)
/-- two slices of our own lie in different blocks -/
def Sep (v u : Value) : Prop := ∀ g, v.ownBlock = some g → ∀ h, u.ownBlock = some h → g ≠ h
theorem Sep.symm {v u : Value} (h : Sep v u) : Sep u v := fun g hg h' hh e => h h' hh g hg e.symm
theorem Sep.nil_l (u : Value) : Sep (.slice none 0 0) u := fun g hg => by cases hg
theorem Sep.nil_r (u : Value) : Sep u (.slice none 0 0) := fun g hg h hh => by cases hh
theorem Sep.same {v v' u : Value} (h : Sep v u) (e : v'.ownBlock = v.ownBlock) : Sep v' u := fun g hg => h g (e ▸ hg)
theorem Sep.grow {v v' u : Value} {n m : Nat} (h : Sep v u) (hl : v'.ownBlock = v.ownBlock ∨ ∃ g, v'.ownBlock = some g ∧ n ≤ g) (hu : ∀ h, u.ownBlock = some h → h < m) (hm : m ≤ n) : Sep v' u := fun g hg h' hh e => by
  rcases hl with h1 | ⟨g2, h1, h2⟩
  · exact h g (h1 ▸ hg) h' hh e
  · have h3 : g2 = g := Option.some.inj (h1.symm.trans hg)
    have := hu h' hh
    omega
theorem Sep.grown {v v' u : Value} {n m : Nat} (h : Sep v u) (hl : v'.ownBlock = v.ownBlock ∨ v'.ownBlock = some n) (hu : ∀ h, u.ownBlock = some h → h < m) (hm : m ≤ n) : Sep v' u :=
  h.grow (hl.imp id fun h1 => ⟨n, h1, Nat.le_refl _⟩) hu hm
end Go.Vc
