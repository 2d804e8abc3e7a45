/-
  The alignment's table as cells.
-/
import Derived.Test.YtomklacppmaljaaLb
import Derived.Test.YtomklacppmaljaaPal
namespace Go.Vc
open Go Go.RowKit

abbrev prA (a b : List Side) : Nat → Nat → Int := prc (costF ourCost a b) a.length b.length
abbrev beA (a b : List Side) : Nat → Nat → Int × Nat × Nat := best (costF ourCost a b) a.length b.length
abbrev bsA (a b : List Side) (i j x : Nat) : Option (Int × Nat × Nat) := bst (costF ourCost a b) a.length b.length (prA a b) i j x
abbrev trA (a b : List Side) : Nat → Nat → List Bead := trc (costF ourCost a b) a.length b.length
def cellV (q : Int × Nat × Nat) : List Value := [.int .i64 q.1, .int .i64 (q.2.1 : Nat), .int .i64 (q.2.2 : Nat)]
def tabC (a b : List Side) (i q : Nat) : Nat → Nat → List Value := fun x y => if i < x ∨ q ≤ y then cellV (beA a b x y) else cellV (0, 0, 0)
def tabF (a b : List Side) : Nat → Nat → List Value := fun x y => cellV (beA a b x y)
theorem tabC_at {a b : List Side} {i q x y : Nat} (h : i < x ∨ q ≤ y) : tabC a b i q x y = cellV (beA a b x y) := by unfold tabC; rw [if_pos h]
theorem tabC_len (a b : List Side) (i q x y : Nat) : (tabC a b i q x y).length = 3 := by unfold tabC; split <;> rfl
def stepsR : List Range := [⟨1, 1⟩, ⟨2, 1⟩, ⟨1, 2⟩, ⟨2, 2⟩, ⟨1, 0⟩, ⟨0, 1⟩]
theorem stepsR_at : ∀ (x : Nat), x < 6 → (stepsR.getD x default).lo = ((stp x).1 : Nat) ∧ (stepsR.getD x default).hi = ((stp x).2 : Nat)
  | 0, _ => ⟨rfl, rfl⟩
  | 1, _ => ⟨rfl, rfl⟩
  | 2, _ => ⟨rfl, rfl⟩
  | 3, _ => ⟨rfl, rfl⟩
  | 4, _ => ⟨rfl, rfl⟩
  | 5, _ => ⟨rfl, rfl⟩
  | n + 6, h => absurd h (by omega)

section
variable {a b : List Side} {i j x : Nat}
theorem bs_skip (h : ¬ (i + (stp x).1 ≤ a.length ∧ j + (stp x).2 ≤ b.length)) : bsA a b i j (x + 1) = bsA a b i j x := by
  show bst _ _ _ _ _ _ (x + 1) = _
  conv => lhs; unfold bst
  rw [if_neg h]
theorem bs_nonneg (hi : a.length ≤ 64) (hj : b.length ≤ 64) {q : Int × Nat × Nat} (h : bsA a b i j x = some q) : 0 ≤ q.1 := by
  obtain ⟨_, h1, h2, h3⟩ := (bst_spec (prA a b) i j x).1 q h
  have := costF_bd a b i j q.2.1 q.2.2
  have := prc_bdA a b (i + q.2.1) (j + q.2.2) h1 h2 hi hj
  rw [h3]
  show 0 ≤ costF ourCost a b i j q.2.1 q.2.2 + prA a b (i + q.2.1) (j + q.2.2)
  unfold prA
  omega
theorem bs_take (_hi : a.length ≤ 64) (_hj : b.length ≤ 64) (d : Int × Nat × Nat) (hf : i + (stp x).1 ≤ a.length ∧ j + (stp x).2 ≤ b.length)
    (h : bsA a b i j x = none ∨ (ourCost ((a.take (i + (stp x).1)).drop i) ((b.take (j + (stp x).2)).drop j)).1 + prA a b (i + (stp x).1) (j + (stp x).2) < ((bsA a b i j x).getD d).1) :
    bsA a b i j (x + 1) = some ((ourCost ((a.take (i + (stp x).1)).drop i) ((b.take (j + (stp x).2)).drop j)).1 + prA a b (i + (stp x).1) (j + (stp x).2), stp x) := by
  show bst _ _ _ _ _ _ (x + 1) = _
  unfold bst
  rw [if_pos hf]
  cases hb : bst (costF ourCost a b) a.length b.length (prA a b) i j x with
  | none => rfl
  | some q =>
    rw [show bsA a b i j x = some q from hb] at h
    rcases h with h | h
    · cases h
    · simp only [Option.getD_some] at h
      exact if_pos h
theorem bs_keep (d : Int × Nat × Nat) (hf : i + (stp x).1 ≤ a.length ∧ j + (stp x).2 ≤ b.length) (hs : bsA a b i j x ≠ none)
    (h : ¬ (ourCost ((a.take (i + (stp x).1)).drop i) ((b.take (j + (stp x).2)).drop j)).1 + prA a b (i + (stp x).1) (j + (stp x).2) < ((bsA a b i j x).getD d).1) :
    bsA a b i j (x + 1) = bsA a b i j x := by
  show bst _ _ _ _ _ _ (x + 1) = bst _ _ _ _ _ _ x
  conv => lhs; unfold bst
  rw [if_pos hf]
  cases hb : bst (costF ourCost a b) a.length b.length (prA a b) i j x with
  | none => exact absurd hb hs
  | some q =>
    rw [show bsA a b i j x = some q from hb] at h
    simp only [Option.getD_some] at h
    exact if_neg h
/-- '-1' tells that none was taken -/
theorem bs_none (hi : a.length ≤ 64) (hj : b.length ≤ 64) : bsA a b i j x = none ↔ ((bsA a b i j x).getD (-1, 0, 0)).1 < 0 := by
  cases hb : bsA a b i j x with
  | none => simp
  | some q =>
    have := bs_nonneg hi hj hb
    simp
    omega
theorem bs_done (h1 : i ≤ a.length) (h2 : j ≤ b.length) (hc : ¬ (i = a.length ∧ j = b.length)) (d : Int × Nat × Nat) : (bsA a b i j 6).getD d = beA a b i j := by
  obtain ⟨_, _, _, _, h⟩ := best_step (cst := costF ourCost a b) h1 h2 hc
  show (bst _ _ _ _ _ _ 6).getD d = _
  rw [h]
  rfl
end
section
variable {w w' : World} {base bt : Nat} {T E : TypeId} {n m lo : Nat} {rb : Nat → Nat} {a b : List Side} {i j : Nat}
theorem tab_price (h : Tab w base bt T E 3 n m lo rb (tabC a b i j)) (x y : Nat) (h1 : lo ≤ x) (h2 : x < n) (h3 : y < m) (h4 : i < x ∨ j ≤ y) : w.cell? ⟨rb x, 0 + y * 3 + 0, none⟩ = some (.int .i64 (prA a b x y)) :=
  h.cell x y 0 h1 h2 h3 (by omega) (by rw [tabC_at h4]; rfl)
theorem tab_priceF (h : Tab w base bt T E 3 n m lo rb (tabF a b)) (x y : Nat) (h1 : lo ≤ x) (h2 : x < n) (h3 : y < m) : w.cell? ⟨rb x, 0 + y * 3 + 0, none⟩ = some (.int .i64 (prA a b x y)) :=
  h.cell x y 0 h1 h2 h3 (by omega) rfl
theorem tab_stepF (h : Tab w base bt T E 3 n m lo rb (tabF a b)) (x y : Nat) (h1 : lo ≤ x) (h2 : x < n) (h3 : y < m) : At w (rb x) (0 + y * 3 + 1) [.int .i64 ((beA a b x y).2.1 : Nat), .int .i64 ((beA a b x y).2.2 : Nat)] :=
  (h.at x y h1 h2 h3).part 1 2 rfl
theorem tab_corner (h : Tab w base bt T E 3 n m lo rb (tabC a b i (j + 1))) (hc : i = a.length ∧ j = b.length) (hlo : i ≤ lo) : Tab w base bt T E 3 n m lo rb (tabC a b i j) := by
  refine h.congr (fun x h1 h2 y => ?_)
  unfold tabC
  by_cases e : i < x ∨ j + 1 ≤ y
  · rw [if_pos (by omega), if_pos e]
  · rw [if_neg e]
    by_cases e2 : j ≤ y
    · rw [if_pos (.inr e2)]
      have e3 : x = a.length := by omega
      have e4 : y = b.length := by omega
      subst e3; subst e4
      show cellV (best _ _ _ _ _) = _
      rw [best_corner]
    · rw [if_neg (by omega)]
theorem tab_done (h : Tab w base bt T E 3 n m i rb (tabC a b i (j + 1))) (hi : i < n) (he : Evo w w' [rb i]) {vs : List Value} (hr : FB w' (rb i) E 3 m (fun q => if q = j then vs else tabC a b i (j + 1) i q)) (hv : vs = cellV (beA a b i j)) :
    Tab w' base bt T E 3 n m i rb (tabC a b i j) := by
  refine (h.store (Nat.le_refl _) hi he hr).congr (fun x h1 h2 y => ?_)
  unfold tabC
  by_cases e : x = i
  · rw [if_pos e]
    subst e
    by_cases e2 : y = j
    · rw [if_pos (by omega), if_pos e2, hv, e2]
    · rw [if_neg e2]
      by_cases e3 : x < x ∨ j + 1 ≤ y
      · rw [if_pos (by omega), if_pos e3]
      · rw [if_neg (by omega), if_neg e3]
  · rw [if_neg e, if_pos (by omega), if_pos (by omega)]
theorem tab_full (h : Tab w base bt T E 3 n m i rb (tabC a b i 0)) : Tab w base bt T E 3 n m i rb (tabF a b) := h.congr (fun x h1 h2 y => by unfold tabF tabC; rw [if_pos (.inr (Nat.zero_le _))])
theorem tab_add {c : List Value} (h : Tab w base bt T E 3 n m (i + 1) rb (tabF a b)) (hlo : i < n) {b' : Nat} (hb : w.heap.size ≤ b') (hbase : base ≤ w.heap.size) (he : Evo w w' [bt]) (hout : FB w' bt T 1 n (fun q => if q = i then [.slice (some ⟨b', 0, none⟩) m m] else rowsC rb (i + 1) m q))
    (hrow : FB w' b' E 3 m (fun _ => c)) (hc : c = cellV (0, 0, 0)) : Tab w' base bt T E 3 n m i (fun q => if q = i then b' else rb q) (tabC a b i m) := by
  have hrow' : FB w' b' E 3 m (tabC a b i m i) := hrow.congr' (fun y => tabC_len _ _ _ _ _ _) (fun y hy => by unfold tabC; rw [if_neg (by omega), hc])
  refine (h.congr (c' := tabC a b i m) (fun x h1 h2 y => tabC_at (by omega))).add hlo hb hbase he hout hrow' rfl (fun x h1 => rfl)
end
end Go.Vc
