/-
  The plain law of the alignment: the table, the beads, what they cost. No program in sight.
-/
import Derived.Test.YtomklacppmaljaaPa
namespace Go.Vc
open Go

def stp : Nat → Nat × Nat
  | 0 => (1, 1)
  | 1 => (2, 1)
  | 2 => (1, 2)
  | 3 => (2, 2)
  | 4 => (1, 0)
  | _ => (0, 1)
theorem stp_bd (x : Nat) : (stp x).1 ≤ 2 ∧ (stp x).2 ≤ 2 ∧ 1 ≤ (stp x).1 + (stp x).2 := by
  unfold stp; split <;> decide

section dp
variable (cst : Nat → Nat → Nat → Nat → Int) (la lb : Nat)
/-- the best of the first 'x' steps -/
def bst (pr : Nat → Nat → Int) (i j : Nat) : Nat → Option (Int × Nat × Nat)
  | 0 => none
  | x + 1 =>
    if i + (stp x).1 ≤ la ∧ j + (stp x).2 ≤ lb then
      match bst pr i j x with
      | none => some (cst i j (stp x).1 (stp x).2 + pr (i + (stp x).1) (j + (stp x).2), stp x)
      | some q => if cst i j (stp x).1 (stp x).2 + pr (i + (stp x).1) (j + (stp x).2) < q.1 then some (cst i j (stp x).1 (stp x).2 + pr (i + (stp x).1) (j + (stp x).2), stp x) else some q
    else bst pr i j x
def bestF : Nat → Nat → Nat → Int × Nat × Nat
  | 0, _, _ => (0, 0, 0)
  | f + 1, i, j => if i = la ∧ j = lb then (0, 0, 0) else (bst cst la lb (fun i j => (bestF f i j).1) i j 6).getD (0, 0, 0)
def best (i j : Nat) : Int × Nat × Nat := bestF cst la lb (la - i + (lb - j)) i j
def prc (i j : Nat) : Int := (best cst la lb i j).1
variable {cst la lb}
theorem bst_congr {pr pr' : Nat → Nat → Int} {i j : Nat} (h : ∀ i' j', i ≤ i' → j ≤ j' → i + j < i' + j' → i' ≤ la → j' ≤ lb → pr i' j' = pr' i' j') : ∀ x, bst cst la lb pr i j x = bst cst la lb pr' i j x
  | 0 => rfl
  | x + 1 => by
    unfold bst
    rw [bst_congr h x]
    by_cases hf : i + (stp x).1 ≤ la ∧ j + (stp x).2 ≤ lb
    · rw [if_pos hf, if_pos hf, h _ _ (by omega) (by omega) (by have := stp_bd x; omega) hf.1 hf.2]
    · rw [if_neg hf, if_neg hf]
theorem bestF_more : ∀ (f g i j : Nat), i ≤ la → j ≤ lb → la - i + (lb - j) ≤ f → la - i + (lb - j) ≤ g → bestF cst la lb f i j = bestF cst la lb g i j
  | 0, 0, _, _, _, _, _, _ => rfl
  | 0, g + 1, i, j, h1, h2, h3, _ => by unfold bestF; rw [if_pos (by omega)]
  | f + 1, 0, i, j, h1, h2, _, h3 => by unfold bestF; rw [if_pos (by omega)]
  | f + 1, g + 1, i, j, h1, h2, h3, h4 => by
    unfold bestF
    by_cases hc : i = la ∧ j = lb
    · rw [if_pos hc, if_pos hc]
    · rw [if_neg hc, if_neg hc]
      rw [bst_congr (fun i' j' h5 h6 h7 h8 h9 => ?_)]
      show (bestF cst la lb f i' j').1 = (bestF cst la lb g i' j').1
      rw [bestF_more f g i' j' h8 h9 (by omega) (by omega)]
theorem best_corner : best cst la lb la lb = (0, 0, 0) := by unfold best; simp [bestF]
theorem best_eq {i j : Nat} (h1 : i ≤ la) (h2 : j ≤ lb) (hc : ¬ (i = la ∧ j = lb)) : best cst la lb i j = (bst cst la lb (prc cst la lb) i j 6).getD (0, 0, 0) := by
  unfold best
  obtain ⟨f, hf⟩ : ∃ f, la - i + (lb - j) = f + 1 := ⟨la - i + (lb - j) - 1, by omega⟩
  rw [hf]
  unfold bestF
  rw [if_neg hc, bst_congr (fun i' j' h5 h6 h7 h8 h9 => ?_)]
  show (bestF cst la lb f i' j').1 = (bestF cst la lb _ i' j').1
  rw [bestF_more f _ i' j' h8 h9 (by omega) (Nat.le_refl _)]

/-- what the best of the first 'x' steps is -/
theorem bst_spec (pr : Nat → Nat → Int) (i j : Nat) : ∀ x, (∀ q, bst cst la lb pr i j x = some q → (∃ y, y < x ∧ q.2 = stp y) ∧ i + q.2.1 ≤ la ∧ j + q.2.2 ≤ lb ∧ q.1 = cst i j q.2.1 q.2.2 + pr (i + q.2.1) (j + q.2.2)) ∧
    (∀ y, y < x → i + (stp y).1 ≤ la → j + (stp y).2 ≤ lb → ∃ q, bst cst la lb pr i j x = some q ∧ q.1 ≤ cst i j (stp y).1 (stp y).2 + pr (i + (stp y).1) (j + (stp y).2))
  | 0 => ⟨fun q h => (by cases h), fun y h => absurd h (by omega)⟩
  | x + 1 => by
    have ih := bst_spec pr i j x
    by_cases hf : i + (stp x).1 ≤ la ∧ j + (stp x).2 ≤ lb
    · cases hb : bst cst la lb pr i j x with
      | none =>
        have e : bst cst la lb pr i j (x + 1) = some (cst i j (stp x).1 (stp x).2 + pr (i + (stp x).1) (j + (stp x).2), stp x) := by
          unfold bst; rw [if_pos hf, hb]
        rw [e]
        refine ⟨fun q h => ?_, fun y hy h1 h2 => ?_⟩
        · injection h with h; subst h
          exact ⟨⟨x, by omega, rfl⟩, hf.1, hf.2, rfl⟩
        · by_cases hyx : y = x
          · subst hyx; exact ⟨_, rfl, Int.le_refl _⟩
          · obtain ⟨q, hq, _⟩ := ih.2 y (by omega) h1 h2
            rw [hb] at hq; cases hq
      | some p =>
        have e : bst cst la lb pr i j (x + 1) = if cst i j (stp x).1 (stp x).2 + pr (i + (stp x).1) (j + (stp x).2) < p.1 then some (cst i j (stp x).1 (stp x).2 + pr (i + (stp x).1) (j + (stp x).2), stp x) else some p := by
          conv => lhs; unfold bst
          rw [if_pos hf, hb]
        rw [e]
        by_cases hlt : cst i j (stp x).1 (stp x).2 + pr (i + (stp x).1) (j + (stp x).2) < p.1
        · rw [if_pos hlt]
          refine ⟨fun q h => ?_, fun y hy h1 h2 => ?_⟩
          · injection h with h; subst h
            exact ⟨⟨x, by omega, rfl⟩, hf.1, hf.2, rfl⟩
          · by_cases hyx : y = x
            · subst hyx; exact ⟨_, rfl, Int.le_refl _⟩
            · obtain ⟨q, hq, hq2⟩ := ih.2 y (by omega) h1 h2
              rw [hb] at hq; injection hq with hq; subst hq
              exact ⟨_, rfl, by dsimp only; omega⟩
        · rw [if_neg hlt]
          refine ⟨fun q h => ?_, fun y hy h1 h2 => ?_⟩
          · injection h with h; subst h
            obtain ⟨⟨y, hy, hy2⟩, h3⟩ := ih.1 _ hb
            exact ⟨⟨y, by omega, hy2⟩, h3⟩
          · by_cases hyx : y = x
            · subst hyx; exact ⟨_, rfl, by omega⟩
            · obtain ⟨q, hq, hq2⟩ := ih.2 y (by omega) h1 h2
              rw [hb] at hq; injection hq with hq; subst hq
              exact ⟨_, rfl, hq2⟩
    · have e : bst cst la lb pr i j (x + 1) = bst cst la lb pr i j x := by
        conv => lhs; unfold bst
        rw [if_neg hf]
      rw [e]
      refine ⟨fun q h => ?_, fun y hy h1 h2 => ?_⟩
      · obtain ⟨⟨y, hy, hy2⟩, h3⟩ := ih.1 q h
        exact ⟨⟨y, by omega, hy2⟩, h3⟩
      · by_cases hyx : y = x
        · subst hyx; exact absurd ⟨h1, h2⟩ hf
        · exact ih.2 y (by omega) h1 h2
theorem bst_some (pr : Nat → Nat → Int) {i j : Nat} (h1 : i ≤ la) (h2 : j ≤ lb) (hc : ¬ (i = la ∧ j = lb)) : ∃ q, bst cst la lb pr i j 6 = some q := by
  by_cases hi : i < la
  · obtain ⟨q, hq, _⟩ := (bst_spec (cst := cst) (la := la) (lb := lb) pr i j 6).2 4 (by omega) (show i + 1 ≤ la by omega) (show j + 0 ≤ lb by omega)
    exact ⟨q, hq⟩
  · obtain ⟨q, hq, _⟩ := (bst_spec (cst := cst) (la := la) (lb := lb) pr i j 6).2 5 (by omega) (show i + 0 ≤ la by omega) (show j + 1 ≤ lb by omega)
    exact ⟨q, hq⟩
/-- the best step from a place: allowed, no more than two on a side, and what it costs -/
theorem best_step {i j : Nat} (h1 : i ≤ la) (h2 : j ≤ lb) (hc : ¬ (i = la ∧ j = lb)) :
    let s := best cst la lb i j
    (∃ y, y < 6 ∧ s.2 = stp y) ∧ i + s.2.1 ≤ la ∧ j + s.2.2 ≤ lb ∧ s.1 = cst i j s.2.1 s.2.2 + prc cst la lb (i + s.2.1) (j + s.2.2) ∧ bst cst la lb (prc cst la lb) i j 6 = some s := by
  obtain ⟨q, hq⟩ := bst_some (cst := cst) (prc cst la lb) h1 h2 hc
  have e : best cst la lb i j = q := by rw [best_eq h1 h2 hc, hq]; rfl
  intro s
  have hs : s = q := e
  rw [hs]
  obtain ⟨h3, h4, h5, h6⟩ := (bst_spec (prc cst la lb) i j 6).1 q hq
  exact ⟨h3, h4, h5, h6, hq⟩
theorem best_le {i j y : Nat} (hy : y < 6) (h1 : i + (stp y).1 ≤ la) (h2 : j + (stp y).2 ≤ lb) : prc cst la lb i j ≤ cst i j (stp y).1 (stp y).2 + prc cst la lb (i + (stp y).1) (j + (stp y).2) := by
  have hb := stp_bd y
  obtain ⟨q, hq, hq2⟩ := (bst_spec (prc cst la lb) i j 6).2 y hy h1 h2
  have e : best cst la lb i j = q := by rw [best_eq (by omega) (by omega) (by omega), hq]; rfl
  unfold prc at *
  rw [e]
  exact hq2
theorem prc_bd {M : Int} (hM : 0 ≤ M) (hcst : ∀ i j s t, 0 ≤ cst i j s t ∧ cst i j s t ≤ M) : ∀ (m i j : Nat), i ≤ la → j ≤ lb → la - i + (lb - j) ≤ m → 0 ≤ prc cst la lb i j ∧ prc cst la lb i j ≤ M * ((la - i + (lb - j) : Nat) : Int)
  | m, i, j, h1, h2, h3 => by
    by_cases hc : i = la ∧ j = lb
    · obtain ⟨rfl, rfl⟩ := hc
      unfold prc
      rw [best_corner]
      simp
    · obtain ⟨⟨y, hy, hs⟩, h4, h5, h6, _⟩ := best_step (cst := cst) h1 h2 hc
      have hb := stp_bd y
      rw [← hs] at hb
      cases m with
      | zero => omega
      | succ m =>
        have ih := prc_bd hM hcst m (i + (best cst la lb i j).2.1) (j + (best cst la lb i j).2.2) h4 h5 (by omega)
        have hk := hcst i j (best cst la lb i j).2.1 (best cst la lb i j).2.2
        have e : prc cst la lb i j = cst i j (best cst la lb i j).2.1 (best cst la lb i j).2.2 + prc cst la lb (i + (best cst la lb i j).2.1) (j + (best cst la lb i j).2.2) := h6
        rw [e]
        refine ⟨by omega, ?_⟩
        have hle : ((la - (i + (best cst la lb i j).2.1) + (lb - (j + (best cst la lb i j).2.2)) : Nat) : Int) + 1 ≤ ((la - i + (lb - j) : Nat) : Int) := by omega
        have h7 := Int.mul_le_mul_of_nonneg_left hle hM
        rw [Int.mul_add, Int.mul_one] at h7
        omega

variable (cst la lb)
def traceF : Nat → Nat → Nat → List Bead
  | 0, _, _ => []
  | f + 1, i, j => if i < la ∨ j < lb then
      ⟨(i : Nat), (i + (best cst la lb i j).2.1 : Nat), (j : Nat), (j + (best cst la lb i j).2.2 : Nat)⟩ :: traceF f (i + (best cst la lb i j).2.1) (j + (best cst la lb i j).2.2)
    else []
def trc (i j : Nat) : List Bead := traceF cst la lb (la - i + (lb - j)) i j
variable {cst la lb}
theorem traceF_more : ∀ (f g i j : Nat), i ≤ la → j ≤ lb → la - i + (lb - j) ≤ f → la - i + (lb - j) ≤ g → traceF cst la lb f i j = traceF cst la lb g i j
  | 0, 0, _, _, _, _, _, _ => rfl
  | 0, g + 1, i, j, h1, h2, h3, _ => by unfold traceF; rw [if_neg (by omega)]
  | f + 1, 0, i, j, h1, h2, _, h3 => by unfold traceF; rw [if_neg (by omega)]
  | f + 1, g + 1, i, j, h1, h2, h3, h4 => by
    unfold traceF
    by_cases hc : i < la ∨ j < lb
    · rw [if_pos hc, if_pos hc]
      obtain ⟨⟨y, hy, hs⟩, h5, h6, _⟩ := best_step (cst := cst) h1 h2 (by omega)
      have hb := stp_bd y
      rw [← hs] at hb
      rw [traceF_more f g _ _ h5 h6 (by omega) (by omega)]
    · rw [if_neg hc, if_neg hc]
theorem trc_end {i j : Nat} (h : ¬ (i < la ∨ j < lb)) : trc cst la lb i j = [] := by
  unfold trc
  cases hf : la - i + (lb - j) with
  | zero => rfl
  | succ f => unfold traceF; rw [if_neg h]
theorem trc_step {i j : Nat} (h1 : i ≤ la) (h2 : j ≤ lb) (h : i < la ∨ j < lb) :
    trc cst la lb i j = ⟨(i : Nat), (i + (best cst la lb i j).2.1 : Nat), (j : Nat), (j + (best cst la lb i j).2.2 : Nat)⟩ :: trc cst la lb (i + (best cst la lb i j).2.1) (j + (best cst la lb i j).2.2) := by
  unfold trc
  obtain ⟨f, hf⟩ : ∃ f, la - i + (lb - j) = f + 1 := ⟨la - i + (lb - j) - 1, by omega⟩
  obtain ⟨⟨y, hy, hs⟩, h5, h6, _⟩ := best_step (cst := cst) h1 h2 (by omega)
  have hb := stp_bd y
  rw [← hs] at hb
  rw [hf]
  conv => lhs; unfold traceF
  rw [if_pos h, traceF_more f _ _ _ h5 h6 (by omega) (Nat.le_refl _)]
theorem trc_len : ∀ (m i j : Nat), i ≤ la → j ≤ lb → la - i + (lb - j) ≤ m → (trc cst la lb i j).length ≤ la - i + (lb - j)
  | m, i, j, h1, h2, h3 => by
    by_cases h : i < la ∨ j < lb
    · rw [trc_step h1 h2 h]
      obtain ⟨⟨y, hy, hs⟩, h5, h6, _⟩ := best_step (cst := cst) h1 h2 (by omega)
      have hb := stp_bd y
      rw [← hs] at hb
      cases m with
      | zero => omega
      | succ m =>
        have ih := trc_len m _ _ h5 h6 (by omega)
        rw [List.length_cons]
        omega
    · rw [trc_end h]; simp
end dp

def costF (c : List Side → List Side → Int × Bool) (a b : List Side) (i j s t : Nat) : Int := (c ((a.take (i + s)).drop i) ((b.take (j + t)).drop j)).1
/-- what Align answers -/
def alignL (a b : List Side) : List Bead × Int × Int :=
  if 64 < a.length ∨ 64 < b.length then ([], 0, 3) else (trc (costF ourCost a b) a.length b.length 0 0, prc (costF ourCost a b) a.length b.length 0 0, 0)
theorem costF_bd (a b : List Side) (i j s t : Nat) : 0 ≤ costF ourCost a b i j s t ∧ costF ourCost a b i j s t ≤ 200000 := by
  unfold costF; rw [cost_same]; exact refCost_bd _ _
theorem prc_bdA (a b : List Side) (i j : Nat) (h1 : i ≤ a.length) (h2 : j ≤ b.length) (ha : a.length ≤ 64) (hb : b.length ≤ 64) : 0 ≤ prc (costF ourCost a b) a.length b.length i j ∧ prc (costF ourCost a b) a.length b.length i j ≤ 25600000 := by
  have := prc_bd (M := 200000) (by omega) (costF_bd a b) _ i j h1 h2 (Nat.le_refl _)
  omega
end Go.Vc
