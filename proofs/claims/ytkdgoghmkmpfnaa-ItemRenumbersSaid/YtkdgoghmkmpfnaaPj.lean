/-
  Plain: the numbers of tags, and what renaming makes of them. No program in sight.
-/
import Derived.Test.YtkdgoghmkmpfnaaPi
namespace Go.Vc
open Go
def addL (o : List Int) (n : Int) : List Int := if n ∈ o then o else o ++ [n]
def numsStep (o : List Int) (x : Item) : List Int := if isTag x = true then addL o x.id else o
def numsL (f : List Item) : List Int := f.foldl numsStep []
theorem numsL_snoc (l : List Item) (x : Item) : numsL (l ++ [x]) = numsStep (numsL l) x := by unfold numsL; rw [List.foldl_append]; rfl
theorem numsL_succ (f : List Item) (k : Nat) (h : k < f.length) : numsL (f.take (k + 1)) = numsStep (numsL (f.take k)) (f.getD k default) := by rw [take_succD f k h, numsL_snoc]
theorem nums_new {o : List Int} {x : Item} (h : isTag x = true) (h2 : ¬ x.id ∈ o) : numsStep o x = o ++ [x.id] := by unfold numsStep addL; rw [if_pos h, if_neg h2]
theorem nums_old {o : List Int} {x : Item} (h : ¬ (isTag x = true ∧ ¬ x.id ∈ o)) : numsStep o x = o := by
  unfold numsStep addL
  by_cases h1 : isTag x = true
  · rw [if_pos h1, if_pos (Decidable.byContradiction fun h2 => h ⟨h1, h2⟩)]
  · rw [if_neg h1]
theorem addL_len (o : List Int) (n : Int) : (addL o n).length ≤ o.length + 1 := by unfold addL; split <;> simp
theorem numsStep_len (o : List Int) (x : Item) : (numsStep o x).length ≤ o.length + 1 := by
  unfold numsStep
  split
  · exact addL_len _ _
  · omega
theorem numsL_len (f : List Item) : (numsL f).length ≤ f.length := by
  refine snoc_cases (Q := fun f => (numsL f).length ≤ f.length) (by simp [numsL]) (fun l x ih => ?_) _ f rfl
  rw [numsL_snoc]
  have := numsStep_len (numsL l) x
  simp only [List.length_append, List.length_cons, List.length_nil]
  omega
theorem addL_old {o : List Int} {n : Int} (h : n ∈ o) : addL o n = o := by unfold addL; rw [if_pos h]
theorem addL_new {o : List Int} {n : Int} (h : ¬ n ∈ o) : addL o n = o ++ [n] := by unfold addL; rw [if_neg h]
theorem mem_addL {o : List Int} {n x : Int} : x ∈ addL o n ↔ x ∈ o ∨ x = n := by
  unfold addL
  split
  · rename_i h
    exact ⟨fun h1 => .inl h1, fun h1 => h1.elim id (fun h2 => h2 ▸ h)⟩
  · simp
theorem mem_fold : ∀ (m : List Int) (o : List Int) (x : Int), x ∈ m.foldl addL o ↔ x ∈ o ∨ x ∈ m
  | [], o, x => by simp
  | n :: m, o, x => by
    rw [List.foldl_cons, mem_fold m, mem_addL, List.mem_cons, or_assoc]
theorem fold_addL (o m : List Int) (n : Int) : (addL m n).foldl addL o = addL (m.foldl addL o) n := by
  by_cases h : n ∈ m
  · rw [addL_old h, addL_old ((mem_fold m o n).2 (.inr h))]
  · rw [addL_new h, List.foldl_append]; rfl
theorem nums_absorb (o : List Int) (t : List Item) : (numsL t).foldl addL o = t.foldl numsStep o := by
  refine snoc_cases (Q := fun t => (numsL t).foldl addL o = t.foldl numsStep o) rfl (fun l x ih => ?_) _ t rfl
  rw [numsL_snoc, List.foldl_append]
  unfold numsStep
  show _ = numsStep _ x
  unfold numsStep
  by_cases h : isTag x = true
  · rw [if_pos h, if_pos h, fold_addL, ih]; rfl
  · rw [if_neg h, if_neg h, ih]; rfl
theorem nums_both (s t : List Item) : (numsL t).foldl addL (numsL s) = numsL (s ++ t) := by
  rw [nums_absorb]
  unfold numsL
  rw [List.foldl_append]
/-- the number that a number becomes -/
def firstM (fr to_ : List Int) (n : Int) : Option Int := getM (fr.zip to_) n
theorem firstM_at {fr to_ : List Int} {k : Nat} (h1 : k < fr.length) (h2 : k < to_.length) (n : Int) : firstM (fr.drop k) (to_.drop k) n = if fr.getD k default = n then some (to_.getD k default) else firstM (fr.drop (k + 1)) (to_.drop (k + 1)) n := by
  unfold firstM
  rw [drop_getD' default fr k h1, drop_getD' default to_ k h2, List.zip_cons_cons, getM_cons]
theorem firstM_end {fr to_ : List Int} {k : Nat} (h : fr.length ≤ k ∨ to_.length ≤ k) (n : Int) : firstM (fr.drop k) (to_.drop k) n = none := by
  unfold firstM
  rcases h with h | h
  · rw [List.drop_eq_nil_of_le h, List.zip_nil_left]; rfl
  · rw [List.drop_eq_nil_of_le h, List.zip_nil_right]; rfl
def ren1 (fr to_ : List Int) (x : Item) : List Item := if isTag x = true then (match firstM fr to_ x.id with | some n => [⟨x.kind, x.text, n⟩] | none => []) else [x]
def renF (fr to_ : List Int) (f : List Item) : List Item := f.flatMap (ren1 fr to_)
def renL (fr to_ : List Int) (f : List Item) : List Item := normL (renF fr to_ f)
theorem renF_succ (fr to_ : List Int) (f : List Item) (k : Nat) (h : k < f.length) : renF fr to_ (f.take (k + 1)) = renF fr to_ (f.take k) ++ ren1 fr to_ (f.getD k default) := by
  unfold renF; rw [take_succD f k h]; simp
theorem ren_other {fr to_ : List Int} {x : Item} (h : ¬ isTag x = true) : ren1 fr to_ x = [x] := by unfold ren1; rw [if_neg h]
theorem ren_some {fr to_ : List Int} {x : Item} {n : Int} (h : isTag x = true) (h2 : firstM fr to_ x.id = some n) : ren1 fr to_ x = [⟨x.kind, x.text, n⟩] := by unfold ren1; rw [if_pos h, h2]
theorem ren_none {fr to_ : List Int} {x : Item} (h : isTag x = true) (h2 : firstM fr to_ x.id = none) : ren1 fr to_ x = [] := by unfold ren1; rw [if_pos h, h2]
theorem ren1_bd (fr to_ : List Int) (x : Item) : (ren1 fr to_ x).length ≤ 1 ∧ sizeL (ren1 fr to_ x) ≤ x.text.length := by
  unfold ren1
  split
  · split
    · simp [sizeL]
    · simp [sizeL]
  · simp [sizeL]
theorem renF_bd (fr to_ : List Int) : ∀ (f : List Item), (renF fr to_ f).length ≤ f.length ∧ sizeL (renF fr to_ f) ≤ sizeL f
  | [] => by simp [renF]
  | x :: f => by
    have ih := renF_bd fr to_ f
    have h1 : renF fr to_ (x :: f) = ren1 fr to_ x ++ renF fr to_ f := by simp [renF]
    have h2 : sizeL (x :: f) = x.text.length + sizeL f := by simp [sizeL]
    have h3 := ren1_bd fr to_ x
    rw [h1, h2, List.length_append, sizeL_append, List.length_cons]
    omega
theorem small_ren {fr to_ : List Int} {f : List Item} (h : Small f) : Small (renF fr to_ f) := ⟨by have := renF_bd fr to_ f; have := h.1; omega, by have := renF_bd fr to_ f; have := h.2; omega⟩
def upL (n : Nat) : List Int := (List.range n).map (fun i => ((i : Nat) : Int) + 1)
theorem upL_succ (n : Nat) : upL (n + 1) = upL n ++ [((n : Nat) : Int) + 1] := by unfold upL; rw [List.range_succ]; simp
theorem upL_len (n : Nat) : (upL n).length = n := by simp [upL]
theorem upL_at {n j : Nat} (h : j < n) : (upL n).getD j default = (j : Int) + 1 := by simp [upL, List.getD, h]
theorem foldl_succ {α β : Type} [Inhabited β] (f : α → β → α) (o : α) (l : List β) (k : Nat) (h : k < l.length) : (l.take (k + 1)).foldl f o = f ((l.take k).foldl f o) (l.getD k default) := by
  rw [take_succD l k h, List.foldl_append]; rfl
theorem fold_len (o : List Int) : ∀ (m : List Int), (m.foldl addL o).length ≤ o.length + m.length := fun m => by
  refine snoc_cases (Q := fun m => (m.foldl addL o).length ≤ o.length + m.length) (by simp) (fun l x ih => ?_) _ m rfl
  rw [List.foldl_append]
  have := addL_len (l.foldl addL o) x
  simp only [List.foldl_cons, List.foldl_nil, List.length_append, List.length_cons, List.length_nil]
  omega
end Go.Vc
