/-
  Plain: tokens of a text and of a fragment. No program in sight.
-/
import Derived.Test.YtomklacppmaljaaPu
namespace Go.Vc
open Go
/-! ### runs -/
/-- how many bytes go on with inner ones, single joints between two of them -/
def jnL (inner : UInt8 → Bool) (a b : UInt8) : Str → Nat
  | [] => 0
  | c :: t => if inner c = true then 1 + jnL inner a b t else if c = a ∨ c = b then (match t with
      | [] => 0
      | d :: t' => if inner d = true then 2 + jnL inner a b t' else 0) else 0
theorem jnL_len (inner : UInt8 → Bool) (a b : UInt8) : ∀ s : Str, jnL inner a b s ≤ s.length
  | [] => Nat.le_refl _
  | [c] => by
    unfold jnL
    split
    · simp [jnL]
    · split <;> simp
  | c :: d :: t => by
    have h1 := jnL_len inner a b (d :: t)
    have h2 := jnL_len inner a b t
    unfold jnL
    simp only [List.length_cons] at *
    split
    · omega
    · split
      · split <;> omega
      · omega
theorem drop_two {s : Str} {n : Nat} (h : n + 1 < s.length) : s.drop n = s.getD n default :: s.getD (n + 1) default :: s.drop (n + 2) := by
  rw [List.drop_eq_getElem_cons (by omega), List.drop_eq_getElem_cons h]
  simp [List.getD, h, Nat.lt_of_succ_lt h]
theorem drop_one {s : Str} {n : Nat} (h : n < s.length) : s.drop n = s.getD n default :: s.drop (n + 1) := by
  rw [List.drop_eq_getElem_cons h]; simp [List.getD, h]
section
variable {inner : UInt8 → Bool} {a b : UInt8} {s : Str} {n : Nat}
theorem jn_end (h : s.length ≤ n) : jnL inner a b (s.drop n) = 0 := by rw [List.drop_eq_nil_of_le h]; rfl
theorem jn_in (h : n < s.length) (hi : inner (s.getD n default) = true) : jnL inner a b (s.drop n) = 1 + jnL inner a b (s.drop (n + 1)) := by
  rw [drop_one h]; conv => lhs; unfold jnL
  rw [if_pos hi]
theorem jn_two (h : n + 1 < s.length) (hi : ¬ inner (s.getD n default) = true) (hj : s.getD n default = a ∨ s.getD n default = b) (h2 : inner (s.getD (n + 1) default) = true) : jnL inner a b (s.drop n) = 2 + jnL inner a b (s.drop (n + 2)) := by
  rw [drop_two h]; conv => lhs; unfold jnL
  rw [if_neg hi, if_pos hj]
  dsimp only
  rw [if_pos h2]
theorem jn_no (h : n < s.length) (hi : ¬ inner (s.getD n default) = true) (hj : ¬ (s.getD n default = a ∨ s.getD n default = b) ∨ ¬ n + 1 < s.length ∨ ¬ inner (s.getD (n + 1) default) = true) : jnL inner a b (s.drop n) = 0 := by
  by_cases h1 : n + 1 < s.length
  · rw [drop_two h1]; unfold jnL
    rw [if_neg hi]
    split
    · rename_i h3
      dsimp only
      rw [if_neg (by rcases hj with h | h | h
                     · exact absurd h3 h
                     · exact absurd h1 h
                     · exact h)]
    · rfl
  · rw [drop_one h, List.drop_eq_nil_of_le (by omega)]; unfold jnL
    rw [if_neg hi]
    split <;> rfl
end
/-- how many spaces stand at the beginning -/
def blL : Str → Nat
  | [] => 0
  | c :: t => if clsB c = 2 then 1 + blL t else 0
theorem blL_len : ∀ s : Str, blL s ≤ s.length
  | [] => Nat.le_refl _
  | c :: t => by
    have h1 := blL_len t
    unfold blL
    simp only [List.length_cons]
    split <;> omega
theorem bl_end {s : Str} {n : Nat} (h : s.length ≤ n) : blL (s.drop n) = 0 := by rw [List.drop_eq_nil_of_le h]; rfl
theorem bl_yes {s : Str} {n : Nat} (h : n < s.length) (hc : clsB (s.getD n default) = 2) : blL (s.drop n) = 1 + blL (s.drop (n + 1)) := by
  rw [drop_one h]; conv => lhs; unfold blL
  rw [if_pos hc]
theorem bl_no {s : Str} {n : Nat} (h : n < s.length) (hc : ¬ clsB (s.getD n default) = 2) : blL (s.drop n) = 0 := by
  rw [drop_one h]; unfold blL; rw [if_neg hc]
/-! ### one token -/
def wdB (c : UInt8) : Bool := decide (clsB c = 4) || decide (clsB c = 3)
def dgtB (c : UInt8) : Bool := decide (clsB c = 3)
/-- kind and length of the first token of a text that is not empty -/
def tokN (s : Str) : Int × Nat :=
  if clsB (s.getD 0 default) = 4 then (6, 1 + jnL wdB 39 45 (s.drop 1))
  else if clsB (s.getD 0 default) = 3 then (7, 1 + jnL dgtB 46 44 (s.drop 1))
  else if clsB (s.getD 0 default) = 2 then (8, 1 + blL (s.drop 1))
  else (9, 1)
theorem tokN_pos (s : Str) : 1 ≤ (tokN s).2 := by
  unfold tokN
  repeat' split
  all_goals (dsimp only; omega)
theorem tokN_len {s : Str} (h : s ≠ []) : (tokN s).2 ≤ s.length := by
  have h0 : 0 < s.length := List.length_pos_iff.2 h
  have h1 := jnL_len wdB 39 45 (s.drop 1)
  have h2 := jnL_len dgtB 46 44 (s.drop 1)
  have h3 := blL_len (s.drop 1)
  rw [List.length_drop] at h1 h2 h3
  unfold tokN
  repeat' split
  all_goals (dsimp only; omega)
def wordL (s : Str) : Nat := if s ≠ [] ∧ clsB (s.getD 0 default) = 4 then 1 + jnL wdB 39 45 (s.drop 1) else 0
def numL (s : Str) : Nat := if s ≠ [] ∧ clsB (s.getD 0 default) = 3 then 1 + jnL dgtB 46 44 (s.drop 1) else 0
/-- the reference's choice is the program's -/
theorem tok_word {s : Str} (h : s ≠ []) (h2 : ¬ blL s > 0) (h1 : ¬ numL s > 0) (h0 : wordL s > 0) : tokN s = (6, wordL s) := by
  unfold wordL at h0 ⊢
  split at h0
  · rename_i h4
    rw [if_pos h4]; unfold tokN; rw [if_pos h4.2]
  · omega
theorem tok_num {s : Str} (h : s ≠ []) (h2 : ¬ blL s > 0) (h1 : numL s > 0) : tokN s = (7, numL s) := by
  unfold numL at h1 ⊢
  split at h1
  · rename_i h4
    rw [if_pos h4]; unfold tokN; rw [if_neg (by omega), if_pos h4.2]
  · omega
theorem tok_blank {s : Str} (h : s ≠ []) (h2 : blL s > 0) : tokN s = (8, blL s) := by
  have h0 : 0 < s.length := List.length_pos_iff.2 h
  by_cases hc : clsB (s.getD 0 default) = 2
  · have := bl_yes h0 hc
    rw [List.drop_zero] at this
    unfold tokN; rw [if_neg (by omega), if_neg (by omega), if_pos hc, this]
  · have := bl_no h0 hc
    rw [List.drop_zero] at this
    omega
theorem tok_sign {s : Str} (h : s ≠ []) (h2 : ¬ blL s > 0) (h1 : ¬ numL s > 0) (h0 : ¬ wordL s > 0) : tokN s = (9, 1) := by
  have hl : 0 < s.length := List.length_pos_iff.2 h
  unfold tokN
  rw [if_neg, if_neg, if_neg]
  · intro hc
    have := bl_yes hl hc
    rw [List.drop_zero] at this
    omega
  · intro hc
    unfold numL at h1; rw [if_pos ⟨h, hc⟩] at h1; omega
  · intro hc
    unfold wordL at h0; rw [if_pos ⟨h, hc⟩] at h0; omega
/-! ### tokens -/
def cutT (s : Str) : List Item :=
  if h : s = [] then [] else ⟨(tokN s).1, s.take (tokN s).2, 0⟩ :: cutT (s.drop (tokN s).2)
termination_by s.length
decreasing_by
  have h1 := tokN_pos s
  have h2 : 0 < s.length := List.length_pos_iff.2 h
  rw [List.length_drop]; omega
theorem cutT_nil : cutT [] = [] := by unfold cutT; simp
theorem cutT_cons {s : Str} (h : s ≠ []) : cutT s = ⟨(tokN s).1, s.take (tokN s).2, 0⟩ :: cutT (s.drop (tokN s).2) := by
  conv => lhs; unfold cutT
  rw [dif_neg h]
theorem cutT_len : ∀ (n : Nat) (s : Str), s.length = n → (cutT s).length ≤ s.length := by
  intro n
  induction n using Nat.strongRecOn with
  | ind n ih =>
    intro s hs
    by_cases h : s = []
    · subst h; rw [cutT_nil]; simp
    · have h1 := tokN_pos s
      have h2 : 0 < s.length := List.length_pos_iff.2 h
      rw [cutT_cons h]
      have h3 := ih _ (by rw [← hs]; show (s.drop (tokN s).2).length < s.length; rw [List.length_drop]; omega) (s.drop (tokN s).2) rfl
      rw [List.length_drop] at h3
      rw [List.length_cons]; omega
def tokI (x : Item) : List Item := if x.kind = 1 then cutT x.text else if 2 ≤ x.kind ∧ x.kind ≤ 5 then [x] else []
def toks (f : List Item) : List Item := f.flatMap tokI
theorem toks_succ {f : List Item} {k : Nat} (h : k < f.length) : toks (f.take (k + 1)) = toks (f.take k) ++ tokI (f.getD k default) := by
  unfold toks; rw [take_succD f k h]; simp
def fLen (f : List Item) : Nat := (f.map (fun x => x.text.length)).sum
theorem toks_len : ∀ f : List Item, (toks f).length ≤ fLen f + f.length
  | [] => by simp [toks]
  | x :: f => by
    have h1 := toks_len f
    have h2 : (tokI x).length ≤ x.text.length + 1 := by
      unfold tokI
      split
      · have := cutT_len _ x.text rfl; omega
      · split <;> simp
    have e : toks (x :: f) = tokI x ++ toks f := by simp [toks]
    rw [e, List.length_append, List.length_cons]
    simp only [fLen, List.map_cons, List.sum_cons] at *
    omega
end Go.Vc
