/-
  Plain laws of the alignment: of a list with itself, of exchanged lists, of chains of beads and their price. No program in sight.
-/
import Derived.Test.YthfahceagabhiaaPa
namespace Go.Vc
open Go

section dp
variable {cst : Nat → Nat → Nat → Nat → Int} {la lb n : Nat}
theorem self_bst {M : Int} (hM : 0 ≤ M) (hc : ∀ i j s t, 0 ≤ cst i j s t ∧ cst i j s t ≤ M) {i : Nat} (hi : i < n) (hp : prc cst n n (i + 1) (i + 1) = 0) (h1 : cst i i 1 1 = 0) : ∀ x, bst cst n n (prc cst n n) i i (x + 1) = some (0, (1, 1))
  | 0 => by
    have hf : i + (stp 0).1 ≤ n ∧ i + (stp 0).2 ≤ n := ⟨hi, hi⟩
    unfold bst
    rw [if_pos hf]
    show some (cst i i 1 1 + prc cst n n (i + 1) (i + 1), (1, 1)) = _
    rw [h1, hp]; rfl
  | x + 1 => by
    have ih := self_bst hM hc hi hp h1 x
    by_cases hf : i + (stp (x + 1)).1 ≤ n ∧ i + (stp (x + 1)).2 ≤ n
    · have h2 := (hc i i (stp (x + 1)).1 (stp (x + 1)).2).1
      have h3 := (prc_bd hM hc _ (i + (stp (x + 1)).1) (i + (stp (x + 1)).2) hf.1 hf.2 (Nat.le_refl _)).1
      conv => lhs; unfold bst
      rw [if_pos hf, ih]
      show (if _ < (0 : Int) then _ else _) = _
      rw [if_neg (by omega)]
    · conv => lhs; unfold bst
      rw [if_neg hf, ih]
theorem self_best {M : Int} (hM : 0 ≤ M) (hc : ∀ i j s t, 0 ≤ cst i j s t ∧ cst i j s t ≤ M) (h1 : ∀ i, i < n → cst i i 1 1 = 0) : ∀ m i, i ≤ n → n - i ≤ m → prc cst n n i i = 0 ∧ (i < n → best cst n n i i = (0, (1, 1)))
  | m, i, hi, hm => by
    by_cases hin : i = n
    · subst hin
      exact ⟨by unfold prc; rw [best_corner], fun h => absurd h (Nat.lt_irrefl _)⟩
    · have hlt : i < n := by omega
      cases m with
      | zero => omega
      | succ m =>
        have ih := (self_best hM hc h1 m (i + 1) hlt (by omega)).1
        have hb : best cst n n i i = (0, (1, 1)) := by
          rw [best_eq hi hi (by omega), self_bst hM hc hlt ih (h1 i hlt) 5]; rfl
        exact ⟨by unfold prc; rw [hb], fun _ => hb⟩
theorem self_trc {M : Int} (hM : 0 ≤ M) (hc : ∀ i j s t, 0 ≤ cst i j s t ∧ cst i j s t ≤ M) (h1 : ∀ i, i < n → cst i i 1 1 = 0) : ∀ m i, i ≤ n → n - i ≤ m → (trc cst n n i i).length = n - i ∧
    ∀ k, k < n - i → (trc cst n n i i).getD k default = ⟨((i + k : Nat) : Int), ((i + k + 1 : Nat) : Int), ((i + k : Nat) : Int), ((i + k + 1 : Nat) : Int)⟩
  | m, i, hi, hm => by
    by_cases hin : i = n
    · subst hin
      rw [trc_end (by omega)]
      exact ⟨by simp, fun k hk => absurd hk (by omega)⟩
    · have hlt : i < n := by omega
      cases m with
      | zero => omega
      | succ m =>
        have ih := self_trc hM hc h1 m (i + 1) hlt (by omega)
        have hb := (self_best hM hc h1 _ i hi (Nat.le_refl _)).2 hlt
        rw [trc_step hi hi (by omega), hb]
        refine ⟨by simp only [List.length_cons]; rw [ih.1]; omega, fun k hk => ?_⟩
        cases k with
        | zero => rfl
        | succ k =>
          have := ih.2 k (by omega)
          rw [List.getD_cons_succ, this]
          simp only [Bead.mk.injEq]
          omega
theorem stp_swap : ∀ y, y < 6 → ∃ z, z < 6 ∧ stp z = ((stp y).2, (stp y).1)
  | 0, _ => ⟨0, by decide, rfl⟩
  | 1, _ => ⟨2, by decide, rfl⟩
  | 2, _ => ⟨1, by decide, rfl⟩
  | 3, _ => ⟨3, by decide, rfl⟩
  | 4, _ => ⟨5, by decide, rfl⟩
  | 5, _ => ⟨4, by decide, rfl⟩
  | y + 6, h => absurd h (by omega)
theorem exch_le {cst' : Nat → Nat → Nat → Nat → Int} (hx : ∀ i j s t, cst' j i t s = cst i j s t) {i j : Nat} (h1 : i ≤ la) (h2 : j ≤ lb) (hc : ¬ (i = la ∧ j = lb))
    (ih : ∀ s t, 1 ≤ s + t → i + s ≤ la → j + t ≤ lb → prc cst' lb la (j + t) (i + s) = prc cst la lb (i + s) (j + t)) : prc cst' lb la j i ≤ prc cst la lb i j := by
  obtain ⟨⟨y, hy, hs⟩, h4, h5, h6, _⟩ := best_step (cst := cst) h1 h2 hc
  have hb := stp_bd y
  rw [← hs] at hb
  obtain ⟨z, hz, hzs⟩ := stp_swap y hy
  rw [← hs] at hzs
  have h7 := best_le (cst := cst') (la := lb) (lb := la) (i := j) (j := i) hz (by rw [hzs]; exact h5) (by rw [hzs]; exact h4)
  rw [hzs] at h7
  simp only [] at h7
  rw [hx, ih _ _ hb.2.2 h4 h5] at h7
  have e : prc cst la lb i j = cst i j (best cst la lb i j).2.1 (best cst la lb i j).2.2 + prc cst la lb (i + (best cst la lb i j).2.1) (j + (best cst la lb i j).2.2) := h6
  rw [e]; exact h7
theorem prc_exch {cst' : Nat → Nat → Nat → Nat → Int} (hx : ∀ i j s t, cst' j i t s = cst i j s t) : ∀ m i j, i ≤ la → j ≤ lb → la - i + (lb - j) ≤ m → prc cst' lb la j i = prc cst la lb i j
  | m, i, j, h1, h2, h3 => by
    by_cases hc : i = la ∧ j = lb
    · obtain ⟨rfl, rfl⟩ := hc
      unfold prc; rw [best_corner, best_corner]
    · cases m with
      | zero => omega
      | succ m =>
        have ih : ∀ s t, 1 ≤ s + t → i + s ≤ la → j + t ≤ lb → prc cst' lb la (j + t) (i + s) = prc cst la lb (i + s) (j + t) := fun s t h4 h5 h6 => prc_exch hx m (i + s) (j + t) h5 h6 (by omega)
        exact Int.le_antisymm (exch_le hx h1 h2 hc ih) (exch_le (cst := cst') (cst' := cst) (fun i j s t => (hx j i t s).symm) h2 h1 (by omega) (fun s t h4 h5 h6 => (ih t s (by omega) h6 h5).symm))
end dp

/-! ### With the costs -/
theorem refCost_exch (a b : List Side) : refCost b a = refCost a b := by
  unfold refCost
  have h : baseL (b.length : Int) (a.length : Int) = baseL a.length b.length := by
    unfold baseL
    (repeat' split) <;> first | rfl | (exfalso; omega)
  rw [h]
  split
  · rw [show max (lenSum b - lenSum a) (-(lenSum b - lenSum a)) = max (lenSum a - lenSum b) (-(lenSum a - lenSum b)) by omega, Int.add_comm (missL (anch b) (anch a))]
  · rfl
theorem ourCost_exch (a b : List Side) : ourCost b a = ourCost a b := by rw [cost_same, cost_same, refCost_exch]
theorem align_exch (a b : List Side) : (alignL b a).2.1 = (alignL a b).2.1 := by
  unfold alignL
  by_cases h : 64 < a.length ∨ 64 < b.length
  · rw [if_pos h, if_pos h.symm]
  · rw [if_neg h, if_neg (fun h2 => h h2.symm)]
    exact prc_exch (cst := costF ourCost a b) (cst' := costF ourCost b a) (fun i j s t => by unfold costF; rw [ourCost_exch]) _ 0 0 (Nat.zero_le _) (Nat.zero_le _) (Nat.le_refl _)
theorem seg_len (a : List Side) (i s : Nat) (h : i + s ≤ a.length) : ((a.take (i + s)).drop i).length = s := by simp; omega
theorem missL_self (l : List Str) : missL l l = 0 := by
  unfold missL
  have h : ∀ i ∈ List.range l.length, (if timesL l (l.getD i default) < timesL (l.take (i + 1)) (l.getD i default) then (1 : Int) else 0) = 0 := fun i _ => by
    rw [if_neg]
    unfold timesL
    have := List.Sublist.count_le (l.getD i default) (List.take_sublist (i + 1) l)
    omega
  rw [List.map_congr_left h]
  induction (List.range l.length) with
  | nil => rfl
  | cons x l ih => simpa using ih
theorem cost_self (a : List Side) (i : Nat) (h : i < a.length) : costF ourCost a a i i 1 1 = 0 := by
  unfold costF
  rw [cost_same]
  unfold refCost
  rw [seg_len a i 1 h]
  simp [baseL, missL_self]
/-- a list aligned with itself -/
theorem align_self (a : List Side) (h : a.length ≤ 64) : (alignL a a).2.2 = 0 ∧ (alignL a a).2.1 = 0 ∧ (alignL a a).1.length = a.length ∧
    ∀ k, k < a.length → (alignL a a).1.getD k default = ⟨(k : Nat), ((k + 1 : Nat) : Int), (k : Nat), ((k + 1 : Nat) : Int)⟩ := by
  unfold alignL
  rw [if_neg (by omega)]
  have hs := self_trc (M := 200000) (by decide) (costF_bd a a) (cost_self a) _ 0 (Nat.zero_le _) (Nat.le_refl _)
  refine ⟨rfl, (self_best (M := 200000) (by decide) (costF_bd a a) (cost_self a) _ 0 (Nat.zero_le _) (Nat.le_refl _)).1, by rw [hs.1]; rfl, fun k hk => ?_⟩
  have := hs.2 k (by omega)
  simpa using this
/-- the price of beads, from a place on -/
def priceGo (a b : List Side) : List Bead → Nat → Nat → Int → Int × Bool
  | [], i, j, s => if i = a.length ∧ j = b.length then (s, true) else (0, false)
  | x :: xs, i, j, s =>
    if x.alo = (i : Int) ∧ x.blo = (j : Int) ∧ (i : Int) ≤ x.ahi ∧ (j : Int) ≤ x.bhi ∧ x.ahi ≤ (a.length : Int) ∧ x.bhi ≤ (b.length : Int) then
      if (ourCost ((a.take x.ahi.toNat).drop i) ((b.take x.bhi.toNat).drop j)).2 = true then priceGo a b xs x.ahi.toNat x.bhi.toNat (s + (ourCost ((a.take x.ahi.toNat).drop i) ((b.take x.bhi.toNat).drop j)).1)
      else (0, false)
    else (0, false)
theorem base_stp (y : Nat) : (baseL ((stp y).1 : Nat) ((stp y).2 : Nat)).2 = true := by
  unfold stp; split <;> rfl
/-- one more step -/
theorem price_step (a b : List Side) {y i j : Nat} (h1 : i + (stp y).1 ≤ a.length) (h2 : j + (stp y).2 ≤ b.length) (xs : List Bead) (s : Int) :
    priceGo a b (⟨(i : Nat), ((i + (stp y).1 : Nat) : Int), (j : Nat), ((j + (stp y).2 : Nat) : Int)⟩ :: xs) i j s = priceGo a b xs (i + (stp y).1) (j + (stp y).2) (s + costF ourCost a b i j (stp y).1 (stp y).2) := by
  have hl : (ourCost ((a.take (i + (stp y).1)).drop i) ((b.take (j + (stp y).2)).drop j)).2 = true := by
    unfold ourCost
    rw [seg_len a i _ h1, seg_len b j _ h2, if_pos (base_stp y)]
  conv => lhs; unfold priceGo
  rw [if_pos ⟨rfl, rfl, by dsimp only; omega, by dsimp only; omega, by dsimp only; omega, by dsimp only; omega⟩]
  simp only [Int.toNat_natCast]
  rw [if_pos hl]
  rfl
theorem price_trc (a b : List Side) : ∀ m i j (s : Int), i ≤ a.length → j ≤ b.length → a.length - i + (b.length - j) ≤ m →
    priceGo a b (trc (costF ourCost a b) a.length b.length i j) i j s = (s + prc (costF ourCost a b) a.length b.length i j, true)
  | m, i, j, s, h1, h2, h3 => by
    by_cases hc : i = a.length ∧ j = b.length
    · rw [trc_end (by omega)]
      obtain ⟨rfl, rfl⟩ := hc
      unfold priceGo prc
      rw [if_pos ⟨rfl, rfl⟩, best_corner]
      simp
    · obtain ⟨⟨y, hy, hs⟩, h4, h5, h6, _⟩ := best_step (cst := costF ourCost a b) h1 h2 hc
      have hb := stp_bd y
      cases m with
      | zero => omega
      | succ m =>
        have e : prc (costF ourCost a b) a.length b.length i j = costF ourCost a b i j (best (costF ourCost a b) a.length b.length i j).2.1 (best (costF ourCost a b) a.length b.length i j).2.2 + prc (costF ourCost a b) a.length b.length (i + (best (costF ourCost a b) a.length b.length i j).2.1) (j + (best (costF ourCost a b) a.length b.length i j).2.2) := h6
        rw [trc_step h1 h2 (by omega), e]
        rw [hs] at h4 h5 ⊢
        rw [price_step a b h4 h5, price_trc a b m _ _ _ h4 h5 (by omega)]
        rw [Int.add_assoc]
theorem price_align (a b : List Side) (ha : a.length ≤ 64) (hb : b.length ≤ 64) : priceGo a b (alignL a b).1 0 0 0 = ((alignL a b).2.1, true) := by
  unfold alignL
  rw [if_neg (by omega)]
  have := price_trc a b _ 0 0 0 (Nat.zero_le _) (Nat.zero_le _) (Nat.le_refl _)
  simpa using this
/-- beads that lead from the beginning to a place, and what they cost at least -/
def Path (a b : List Side) (l : List Bead) (i j : Nat) (p : Int) : Prop :=
  i ≤ a.length ∧ j ≤ b.length ∧ (∀ rest, priceGo a b (l ++ rest) 0 0 0 = priceGo a b rest i j p) ∧ prc (costF ourCost a b) a.length b.length 0 0 ≤ p + prc (costF ourCost a b) a.length b.length i j
theorem Path.nil (a b : List Side) : Path a b [] 0 0 0 := ⟨Nat.zero_le _, Nat.zero_le _, fun _ => rfl, by omega⟩
theorem Path.step {a b : List Side} {l : List Bead} {i j : Nat} {p : Int} (h : Path a b l i j p) {y : Nat} (hy : y < 6) (h1 : i + (stp y).1 ≤ a.length) (h2 : j + (stp y).2 ≤ b.length) :
    Path a b (l ++ [⟨(i : Nat), ((i + (stp y).1 : Nat) : Int), (j : Nat), ((j + (stp y).2 : Nat) : Int)⟩]) (i + (stp y).1) (j + (stp y).2) (p + costF ourCost a b i j (stp y).1 (stp y).2) := by
  obtain ⟨_, _, h5, h6⟩ := h
  refine ⟨h1, h2, fun rest => ?_, ?_⟩
  · rw [List.append_assoc, h5]
    exact price_step a b h1 h2 rest p
  · have := best_le (cst := costF ourCost a b) (la := a.length) (lb := b.length) hy h1 h2
    omega
theorem Path.done {a b : List Side} {l : List Bead} {p : Int} (h : Path a b l a.length b.length p) : priceGo a b l 0 0 0 = (p, true) ∧ prc (costF ourCost a b) a.length b.length 0 0 ≤ p := by
  obtain ⟨_, _, h5, h6⟩ := h
  have h7 := h5 []
  rw [List.append_nil] at h7
  refine ⟨by rw [h7]; unfold priceGo; rw [if_pos ⟨rfl, rfl⟩], ?_⟩
  have : prc (costF ourCost a b) a.length b.length a.length b.length = 0 := by unfold prc; rw [best_corner]
  omega
theorem align_ok (a b : List Side) (ha : a.length ≤ 64) (hb : b.length ≤ 64) : (alignL a b).2.2 = 0 ∧ (alignL a b).1 = trc (costF ourCost a b) a.length b.length 0 0 ∧ (alignL a b).2.1 = prc (costF ourCost a b) a.length b.length 0 0 := by
  unfold alignL
  rw [if_neg (by omega)]
  exact ⟨rfl, rfl, rfl⟩
theorem cov_step {cst : Nat → Nat → Nat → Nat → Int} {la lb : Nat} {l : List Bead} {k i j : Nat} (hd : l.drop k = trc cst la lb i j) (hk : k < l.length) (hi : i ≤ la) (hj : j ≤ lb) :
    ∃ s t : Nat, ((l.getD k default).alo = (i : Int) ∧ (l.getD k default).ahi = ((i + s : Nat) : Int) ∧ (l.getD k default).blo = (j : Int) ∧ (l.getD k default).bhi = ((j + t : Nat) : Int)) ∧ l.drop (k + 1) = trc cst la lb (i + s) (j + t) ∧ i + s ≤ la ∧ j + t ≤ lb ∧ s ≤ 2 ∧ t ≤ 2 := by
  have hc : i < la ∨ j < lb := by
    rcases Decidable.em (i < la ∨ j < lb) with h | h
    · exact h
    · rw [trc_end h, List.drop_eq_nil_iff] at hd; omega
  obtain ⟨⟨y, hy, hs⟩, h4, h5, _⟩ := best_step (cst := cst) hi hj (by omega)
  have hb := stp_bd y
  rw [← hs] at hb
  rw [List.drop_eq_getElem_cons hk, trc_step hi hj hc] at hd
  injection hd with h1 h2
  have e : l.getD k default = l[k] := by simp [List.getD, hk]
  refine ⟨_, _, ?_, h2, h4, h5, hb.1, hb.2.1⟩
  rw [e, h1]
  exact ⟨rfl, rfl, rfl, rfl⟩
theorem cov_end {cst : Nat → Nat → Nat → Nat → Int} {la lb : Nat} {l : List Bead} {k i j : Nat} (hd : l.drop k = trc cst la lb i j) (hk : l.length ≤ k) (hi : i ≤ la) (hj : j ≤ lb) : i = la ∧ j = lb := by
  rcases Decidable.em (i < la ∨ j < lb) with h | h
  · rw [List.drop_eq_nil_of_le hk, trc_step hi hj h] at hd; cases hd
  · omega
theorem our_bd (a b : List Side) : 0 ≤ (ourCost a b).1 ∧ (ourCost a b).1 ≤ 200000 := by rw [cost_same]; exact refCost_bd _ _
theorem drop_getD {α : Type} [Inhabited α] (l : List α) (k : Nat) (h : k < l.length) : l.drop k = l.getD k default :: l.drop (k + 1) := by
  rw [List.drop_eq_getElem_cons h]; simp [List.getD, h]
theorem price_bad {a b : List Side} {x : Bead} {xs : List Bead} {i j : Nat} {s : Int} (h : ¬ (x.alo = (i : Int) ∧ x.blo = (j : Int) ∧ (i : Int) ≤ x.ahi ∧ (j : Int) ≤ x.bhi ∧ x.ahi ≤ (a.length : Int) ∧ x.bhi ≤ (b.length : Int))) : priceGo a b (x :: xs) i j s = (0, false) := by
  unfold priceGo; rw [if_neg h]
theorem price_no {a b : List Side} {x : Bead} {xs : List Bead} {i j : Nat} {s : Int} (h : x.alo = (i : Int) ∧ x.blo = (j : Int) ∧ (i : Int) ≤ x.ahi ∧ (j : Int) ≤ x.bhi ∧ x.ahi ≤ (a.length : Int) ∧ x.bhi ≤ (b.length : Int))
    (h2 : ¬ (ourCost ((a.take x.ahi.toNat).drop i) ((b.take x.bhi.toNat).drop j)).2 = true) : priceGo a b (x :: xs) i j s = (0, false) := by
  unfold priceGo; rw [if_pos h, if_neg h2]
theorem price_cons {a b : List Side} {x : Bead} {xs : List Bead} {i j : Nat} {s : Int} (h : x.alo = (i : Int) ∧ x.blo = (j : Int) ∧ (i : Int) ≤ x.ahi ∧ (j : Int) ≤ x.bhi ∧ x.ahi ≤ (a.length : Int) ∧ x.bhi ≤ (b.length : Int))
    (h2 : (ourCost ((a.take x.ahi.toNat).drop i) ((b.take x.bhi.toNat).drop j)).2 = true) : priceGo a b (x :: xs) i j s = priceGo a b xs x.ahi.toNat x.bhi.toNat (s + (ourCost ((a.take x.ahi.toNat).drop i) ((b.take x.bhi.toNat).drop j)).1) := by
  conv => lhs; unfold priceGo
  rw [if_pos h, if_pos h2]
theorem price_zero (a b : List Side) : ∀ (l : List Bead) (i j : Nat) (s : Int), (priceGo a b l i j s).2 = false → (priceGo a b l i j s).1 = 0
  | [], i, j, s => by unfold priceGo; split <;> simp
  | x :: xs, i, j, s => by
    unfold priceGo
    split
    · split
      · exact price_zero a b xs _ _ _
      · simp
    · simp
theorem Path.step2 {a b : List Side} {l : List Bead} {i j : Nat} {p : Int} (h : Path a b l i j p) {y : Nat} (hy : y < 6) (h1 : i + (stp y).1 ≤ a.length) (h2 : j + (stp y).2 ≤ b.length) :
    Path a b (l ++ [⟨(i : Nat), (i : Int) + ((stp y).1 : Nat), (j : Nat), (j : Int) + ((stp y).2 : Nat)⟩]) (i + (stp y).1) (j + (stp y).2) (p + costF ourCost a b i j (stp y).1 (stp y).2) := by
  have h3 := h.step hy h1 h2
  simpa only [Int.natCast_add] using h3
theorem stp_cells : ∀ y, y < 6 → (([.int .i64 1, .int .i64 1, .int .i64 2, .int .i64 1, .int .i64 1, .int .i64 2, .int .i64 2, .int .i64 2, .int .i64 1, .int .i64 0, .int .i64 0, .int .i64 1] : List Value).drop (y * 2)).take 2 = [.int .i64 ((stp y).1 : Nat), .int .i64 ((stp y).2 : Nat)]
  | 0, _ => rfl
  | 1, _ => rfl
  | 2, _ => rfl
  | 3, _ => rfl
  | 4, _ => rfl
  | 5, _ => rfl
  | y + 6, h => absurd h (by omega)
end Go.Vc
