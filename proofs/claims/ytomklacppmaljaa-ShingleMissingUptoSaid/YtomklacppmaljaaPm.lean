/-
  Fragments of any texts: bounds that hold without the texts being few; what is valid is small.
-/
import Derived.Test.YtomklacppmaljaaPa
namespace Go.Vc
open Go
def Mid (f : List Item) : Prop := f.length ≤ 100000 ∧ sizeL f ≤ 9000000000000000 ∧ ∀ k, (f.getD k default).text.length ≤ 140737488355328
theorem dflt_text : ((default : Item)).text = [] := rfl
theorem mid_take {f : List Item} (h : Mid f) (k : Nat) : Mid (f.take k) := by
  refine ⟨by have := h.1; rw [List.length_take]; omega, Nat.le_trans (sizeL_take f k) h.2.1, fun j => ?_⟩
  by_cases hj : j < k
  · have : (f.take k).getD j default = f.getD j default := by simp [List.getD, List.getElem?_take, hj]
    rw [this]; exact h.2.2 j
  · have : (f.take k).getD j default = default := by simp [List.getD, List.getElem?_take, hj]
    rw [this, dflt_text]; exact Nat.zero_le _
theorem small_mid {f : List Item} (h : Small f) : Mid f := ⟨h.1, by have := h.2; omega, fun k => by have := h.2; have := sizeL_at f k; omega⟩
theorem sizeL_mul : ∀ (f : List Item) (n : Nat), (∀ x ∈ f, x.text.length ≤ n) → sizeL f ≤ f.length * n
  | [], _, _ => by simp [sizeL]
  | x :: f, n, h => by
    have h1 := sizeL_mul f n (fun y hy => h y (by simp [hy]))
    have h2 := h x (by simp)
    unfold sizeL at *
    simp only [List.map_cons, List.sum_cons, List.length_cons, Nat.add_mul, Nat.one_mul]
    omega
theorem mid_few {f : List Item} (h : ∀ x ∈ f, x.text.length ≤ 140737488355328) (hn : f.length ≤ 60) : Mid f := by
  have h1 := sizeL_mul f _ h
  have h2 : f.length * 140737488355328 ≤ 60 * 140737488355328 := Nat.mul_le_mul_right _ hn
  refine ⟨by omega, by omega, fun k => ?_⟩
  rcases Nat.lt_or_ge k f.length with hk | hk
  · have e : f.getD k default = f[k] := by simp [List.getD, hk]
    rw [e]; exact h _ (List.getElem_mem _)
  · have e : f.getD k default = default := by rw [List.getD_eq_getElem?_getD, List.getElem?_eq_none hk]; rfl
    rw [e, dflt_text]; exact Nat.zero_le _
theorem formed_len {x : Item} (h : formed [] x = true) : (x.text.length : Int) ≤ widthL x + 64 := by
  unfold formed at h
  unfold widthL
  split at h
  · rename_i h1; rw [if_pos h1]; omega
  · rename_i h1; rw [if_neg h1]
    split at h
    · have := (isName_iff x.text).1 (by simp_all); omega
    · split at h
      · have := (isContent_iff x.text).1 (by simp_all); omega
      · split at h
        · have := (isName_iff x.text).1 (by simp_all); omega
        · cases h
theorem size_width : ∀ f : List Item, (∀ x ∈ f, formed [] x = true) → (sizeL f : Int) ≤ lengthL f + 64 * f.length
  | [], _ => by simp [sizeL, lengthL]
  | x :: f, h => by
    have h1 := size_width f (fun y hy => h y (by simp [hy]))
    have h2 := formed_len (h x (by simp))
    unfold sizeL lengthL at *
    simp only [List.map_cons, List.sum_cons, List.length_cons]
    omega
theorem valid_small {f : List Item} (h : validateL f = 0) : Small f := by
  unfold validateL at h
  split at h
  · cases h
  · have h1 := size_width f ((val_iff f).1 h).each
    exact ⟨by omega, by omega⟩
end Go.Vc
